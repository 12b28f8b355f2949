/- The rules by which the code is walked, with what they rest on (part 3). -/
import Derived.Test.YtckiejaapddafaaGreatDoorL2
import Derived.Laws.BytesString
set_option linter.unusedVariables false
set_option linter.unusedSectionVars false
set_option linter.unusedSimpArgs false
namespace Go.Sw
def QcC:Option Blk->Bool
 |some .dead=>true
 |_=>false
def Qau(hB hE:Nat)(H H':Qd):Bool:=(List.range (hE-hB)).all λp=> !QcC H'[hB+p]? ||QcC H[hB+p]?
def QkV(hB hE:Nat)(σ:Sig)(H:Qd):Prop:=∀p,hB<=p->p<hE->QcC H[p]?=true->σ[p]?=some none
theorem Qls{hB hE:Nat}{H H':Qd}(h:Qau hB hE H H'=true){p:Nat}(b:hB<=p)(d:p<hE)(a:QcC H'[p]?=true):QcC H[p]?=true:=by
 have:=Xu.1 h (p-hB) (List.mem_range.2 (by omega));rw[show hB+(p-hB)=p by omega,a]at this;simpa using this
theorem Sim.allocAt{fr ro:Nat->Prop}{σ:Sig}{H:Qd}{w:World}(s:Sim fr ro σ H w){p:Nat}(M:σ[p]?=some none){obj:Obj}{x:Blk}
  (P:BR ro (σ.set p (some w.heap.size)) (w.alloc obj) x (some w.heap.size))
  (E:∀c,Hid (w.alloc obj) x w.heap.size c->False:=by exact λ_ h=>h.elim):Sim fr ro (σ.set p (some w.heap.size)) (H.set p x) (w.alloc obj):=by
 have ev:Qh fr ro w ro (w.alloc obj):=Qh.alloc obj s.roLt s.frLt;have u:=s.len;have F:p<σ.length:=(XP.1 M).1;have t:Ext ro σ w ro (σ.set p (some w.heap.size)) (w.alloc obj):=⟨ev.sub,ev.keepRo,ev.shape,λi b q=>by
  rw[XT (λz=>by subst z;rw[M]at q;cases q)];exact q⟩
 have e:∀(i:Nat) (y:Option Nat),(σ.set p (some w.heap.size))[i]?=some y->(i≠p/\σ[i]?=some y)\/(i=p/\y=some w.heap.size):=by
  intro i y h;by_cases q:i=p
  .subst q;rw[Xa F]at h;exact .inr ⟨rfl,(X4 h).symm⟩
  .rw[XT (λz=>q z.symm)]at h;exact .inl ⟨q,h⟩
 have n:∀i:Nat,i≠p->(H.set p x)[i]?=H[i]? :=λi O=>XT (λz=>O z.symm);have G:(H.set p x)[p]?=some x:=Xa (by omega);refine⟨by simp[u],s.roOk.to (λ_ q=>q) ev.keepRo (λb h=>?_),λb h=>?_,s.roFr,?_,?_,?_,s.hidTo (· = ·) QY (by rw[Q6];omega) (λ_ _ _ _ _ _ _ q=>q) (λ_ _ _ _ _ _ _ q=>q) λj d y l k Q=>?_⟩
 rotate_left 5
 .rcases e j _ l with⟨q,l⟩|⟨rfl,m⟩
  .rw[n j q]at k;exact .inl ⟨j,y,rfl,l,k,id,λc q=>s.hidKeep l k (λz=>Yd w obj d (s.own j d y l k z).1) ev.keepRo q⟩
  .rw[G]at k;cases k;cases m;exact .inr ⟨XX _,E⟩
 .rw[Q6];have:=s.roLt b h;omega
 .rw[Q6];have:=s.frLt b h;omega
 .intro i b y f g r;rw[Q6];rcases e i _ f with⟨q,f⟩|⟨rfl,m⟩
  .rw[n i q]at g;obtain⟨a,b,c⟩:=s.own i b y f g r;exact⟨by omega,b,c⟩
  .cases m;exact⟨by omega,λq=>by have:=s.roLt _ q;omega,λq=>by have:=s.frLt _ q;omega⟩
 .intro i j b y z f g r B L J;rcases e i _ f with⟨q,l⟩|⟨N,m⟩<;>rcases e j _ g with⟨q',k⟩|⟨ej,e2⟩
  .rw[n i q]at r;rw[n j q']at B;exact s.inj i j b y z l k r B L J
  .cases e2;rw[n i q]at r;have:=(s.own i _ y l r L).1;omega
  .cases m;rw[n j q']at B;have:=(s.own j _ z k B J).1;omega
  .rw[N,ej]
 .intro i y z f g;rcases e i _ f with⟨q,f⟩|⟨rfl,m⟩
  .rw[n i q]at g;refine(s.blk i y z f g).keep t ?_ ?_
   .rintro b rfl u;exact Yd w obj b (s.own i b z f g u).1
   .rintro b c rfl u;exact Yd w obj c (s.hid i b z c f g u).lt
  .rw[G]at g;cases g;subst m;exact P
def OpZ(P:Program)(o:Oper)(t:Nat)(cs:List A):Prop:=
 ∀(ro:Nat->Prop) (σ:Sig) (w:World) (a:Act),∃l:List Value,(execOp a.eval o).run P w=.ok (.value (.pointer (some ⟨w.heap.size,0,none⟩))) (w.alloc (.cells l.toArray t))/\LR ro σ w cs l/\ ∀v∈l,Qq v
theorem OpZ.alloc{P:Program}{o:Oper}{t:Nat}{z:Value}{v:A}{cs:List A}(d:∀w,(zeroValue t).run P w=.ok z w)(g:ZR v z)(f:o.op=.alloc t:=by exact rfl)(hk:Yb v=true:=by exact rfl)(hcs:QZ v=cs:=by exact rfl)(hpl:cs.all Yj=true:=by exact rfl):
  OpZ P o t cs:=by
 intro i σ w a;obtain⟨l,h,b⟩:=(g i σ w).cells hk;subst hcs;refine⟨l,?_,b,b.plain hpl⟩;generalize a.eval=ρ at*;have e:(newVar t z).run P w=.ok ⟨w.heap.size,0,none⟩ (w.alloc (.cells l.toArray t)):=by
  unfold newVar;rw[h];rfl
 simp only[execOp,f,Instr.alloc,Vr,d,Result.andThen,e];rfl
theorem QcS{P:Program}{l:List Oper}{i:Nat}{o:Oper}{rd:Option Nat}{R:Exit->Act->World->Prop}{Q:Exit->Act->World->Prop}{K:Act->World->Prop}{a:Act}{w:World}
  (z:l[i]?=some o)(g:wpL P rd l.toArray R [o] a w)(j:∀e a' w',R e a' w'->e=.normal/\a'.defers=a.defers)(k:∀v w',R .normal (a.put o.dst v) w'->K (a.put o.dst v) w'):
  wpOpIn (WF rd) 0 P l.toArray Q i K a w:=by
 unfold wpOpIn;have s:l.toArray[i]?=some o:=by simpa using z
 rw[s];simp only;unfold wpL wpListIn at g;split at g
 .rename_i p;rw[Vx p];obtain⟨h,g⟩:=g;refine⟨h,?_⟩;have d:=Ql6 (by
   intro a' w' q;unfold wpListIn at q;exact(j _ _ _ q).2) g
  generalize(o.semAt (WF rd).round a.eval).run P w=res at*;cases res with
  |ok n w'=>
   cases n with
   |value v=>exact k _ _ d.1
   |skip=>exact k _ _ d.1
   |defer E=>
    exfalso;have:=(j _ _ _ d.1).2;have:=congrArg List.length this
    revert this
    cases o.dst<;>simp[Act.put]
   |enter f m=>
    refine⟨d.1,CallsIn.mono d.2 (λe t b=>?_)⟩;cases e with
    |returned v=>exact k _ _ b.1
    |panicked c=>have:=(j _ _ _ b).1;cases this
    |outgrown=>obtain⟨B,w1,b⟩:=b;have:=(j _ _ _ b).1;cases this
   |row r m=>
    exact⟨d.1,RowsIn.mono d.2 (λ_ _ b=>k _ _ b.1)⟩
   |round l f u assign y=>
    refine⟨d.1,RoundIn.mono d.2 (λe t b=>?_)⟩;cases e with
    |returned v=>exact k _ _ b.1
    |panicked c=>have:=(j _ _ _ b).1;cases this
    |outgrown=>obtain⟨B,w1,b⟩:=b;have:=(j _ _ _ b).1;cases this
   |_=>exact d.elim
  |halt x w'=>
   cases x with
   |panic v=>have:=(j _ _ _ d).1;cases this
   |_=>exact d.elim
 .rename_i p;rw[Vw p];obtain⟨h,g⟩:=g;refine⟨h,?_⟩;unfold wpListIn at g;exact k _ _ g
theorem Qlr{P:Program}{l:List Oper}{m:Nat}(p:∀i o,l[i]?=some o->∀j∈Qi o,j<i)(k:∀i o,m<i->l[i]?=some o->i-1∈Qi o){Q:Exit->Act->World->Prop}{rd:Option Nat}:
  ∀(b t:Nat) (L:Array Bool) (a:Act) (w:World),L.size=l.length->(∀i,i<l.length->(onL L i↔i<t))->unl L<=b->m<=t->t<=l.length->
   wpL P rd l.toArray Q (l.drop t) a w->wpAnyIn (WF rd) 0 P .any l.toArray Q b L a w:=by
 intro b
 induction b with
 |zero=>
  intro t L a w hsz hL hf hm ht h;have:t=l.length:=by
   rcases VG t l.length with q|q
   .have:=Qki (L:=L) (i:=t) (by omega) (λz=>by have:=(hL t q).1 z;omega);omega
   .omega
  subst this;refine⟨List.eq_nil_iff_forall_not_mem.2 λi r=>?_,?_⟩
  .obtain⟨o,e,g,_⟩:=(QaI hsz).1 r;have d:=(XP.1 e).1;exact g ((hL i d).2 d)
  .rw[List.drop_length]at h;exact h
 |succ b G=>
  intro t L a w hsz hL hf hm ht h;have s:∀i o,l[i]?=some o->¬onL L i->(∀j∈Qi o,onL L j)->i=t:=by
   intro i o e g x;have d:=(XP.1 e).1;have H:t<=i:=by
    rcases VG i t with q|q
    .exact absurd ((hL i d).2 q) g
    .exact q
   rcases VG t i with q|q
   .have:=(hL (i-1) (by omega)).1 (x _ (k i o (by omega) e));omega
   .omega
  rcases VG t l.length with f|f
  .have B:l[t]?=some l[t]:=XO f;have n:¬onL L t:=λq=>by have:=(hL t f).1 q;omega
   have F:t∈Region.ready .any l.toArray L:=by
    refine(QaI hsz).2 ⟨_,B,n,λj y=>?_⟩;have:=p t _ B j y;exact(hL j (by omega)).2 this
   refine⟨λq=>(by rw[q]at F;cases F),λi r=>?_⟩;obtain⟨o,e,g,x⟩:=(QaI hsz).1 r;obtain rfl:=s i o e g x;rw[Xr f]at h;obtain rfl:l[i]=o:=by rw[XO f]at e;exact X4 e
   unfold wpOpIn;rw[show l.toArray[i]?=some l[i]by rw[XK];exact e];simp only;unfold wpL wpListIn at h;have E:∀a w,wpL P rd l.toArray Q (l.drop (i+1)) a w->wpAnyIn (WF rd) 0 P .any l.toArray Q b (L.setIfInBounds i true) a w:=by
    intro a w q;have J:=QgZ (L:=L) (i:=i) (by omega) n;refine G (i+1) _ a w (by simpa using hsz) (λj y=>?_) (by omega) (by omega) (by omega) q;rw[JA (by omega),hL j y];omega
   split at h
   .rename_i u;rw[Vx u];exact Oper.wpIn_mono E h
   .rename_i u;rw[Vw u];exact⟨h.1,E _ _ h.2⟩
  .have:t=l.length:=by omega
   subst this;rw[List.drop_length]at h;refine⟨λ_=>h,λi r=>?_⟩;obtain⟨o,e,g,_⟩:=(QaI hsz).1 r;have d:=(XP.1 e).1;exact absurd ((hL i d).2 d) g
def Qn1(af ds:List Nat)(xs:List A)(env0 e:Env):Prop:=
 ∀s,(∃j x,af.contains j=true/\ds[j]?=some s/\xs[j]?=some x/\lk e s=x)\/lk e s=.any\/(ds.contains s=false/\lk e s=lk env0 s)
inductive JF (P:Program) (N:Nat) (l:List Oper) (ds:List Nat) (xs:List A) (env0:Env) (hB hE:Nat) (i:Nat) (H H':Qd):Prop
 |mk (o:Oper) (e:Env) (d:Nat) (x:A) (ho:l[i]?=some o) (hd:o.dst=some d) (hx:xs[i]?=some x) (hdd:Qau hB hE H H'=true) (hs:Sb (Qi o) (QjQ l i) ds xs env0 e)
   (h:WO P H.length N l.toArray [o] e H (Y6 (up e d x) H')):JF P N l ds xs env0 hB hE i H H'
 |unit (o:Oper) (e:Env) (ho:l[i]?=some o) (hd:o.dst=none) (hx:xs[i]?=some .any) (hdd:Qau hB hE H H'=true) (hs:Sb (Qi o) (QjQ l i) ds xs env0 e)
   (h:WO P H.length N l.toArray [o] e H (Y6 e H')):JF P N l ds xs env0 hB hE i H H'
 |alloc (o:Oper) (d t p:Nat) (cs:List A) (ho:l[i]?=some o) (hd:o.dst=some d) (hg:o.guard=none) (hx:xs[i]?=some (.ptr p 0)) (hp:(Nat.ble hB p&&Nat.blt p hE)=true) (hdead:QcC H[p]?=true)
   (hH:H.set p (.cells t cs)=H') (h:OpZ P o t cs) (hN:Nat.blt d N=true):JF P N l ds xs env0 hB hE i H H'
 |val (o:Oper) (e:Env) (d:Nat) (x:A) (ho:l[i]?=some o) (hd:o.dst=some d) (hg:o.guard=none) (hx:xs[i]?=some x) (hN:Nat.blt d N=true) (he:Qn1 (Qi o) ds xs env0 e) (h:OpV P o e H x)
   (hH:H=H':=by rfl):JF P N l ds xs env0 hB hE i H H'
 |woE (o:Oper) (e:Env) (d:Nat) (x:A) (ho:l[i]?=some o) (hd:o.dst=some d) (hx:xs[i]?=some x) (he:Qn1 (Qi o) ds xs env0 e) (hdd:Qau hB hE H H'=true) (h:WO P H.length N l.toArray [o] e H (Y6 (up e d x) H')):JF P N l ds xs env0 hB hE i H H'
theorem Sb.rel{af f d:List Nat}{xs:List A}{env0 e:Env}{ro:Nat->Prop}{σ:Sig}{w:World}{a:Act}(g:Sb af f d xs env0 e)
  (i:∀j∈af,∀s x,d[j]?=some s->xs[j]?=some x->VR ro σ w x (a.tmps.getD s undef))
  (h:∀s,d.contains s=false->VR ro σ w (lk env0 s) (a.tmps.getD s undef))(hP:∀j s,f.contains j=true->d[j]?=some s->VR ro σ w (lk env0 s) (a.tmps.getD s undef)):
  ∀s,VR ro σ w (lk e s) (a.tmps.getD s undef):=by
 intro s
 induction g with
 |nil=>exact trivial
 | @dep j s1 x1 r h1 h2 h3 _ ih=>
  unfold lk;cases b:Nat.beq s s1 with
  |false=>exact ih
  |true=>
   obtain rfl:=XU b;exact i j (by simpa using h1) _ _ h2 h3
 | @old s1 x1 r h1 h2 _ ih=>
  unfold lk;cases b:Nat.beq s s1 with
  |false=>exact ih
  |true=>
   obtain rfl:=XU b;subst h2;exact h _ h1
 | @pre j s1 x1 r h1 h2 h3 _ ih=>
  unfold lk;cases b:Nat.beq s s1 with
  |false=>exact ih
  |true=>
   obtain rfl:=XU b;subst h3;exact hP j _ h1 h2
structure After (fr ro:Nat->Prop) (σ:Sig) (w:World) (hB hE:Nat) (H':Qd) (xs:List A) (i:Nat) (o:Oper) (a':Act) (w':World) (ro':Nat->Prop) (σ':Sig):Prop where
 val:∀x,xs[i]?=some x->match o.dst with
  |some d=>VR ro' σ' w' x (a'.tmps.getD d undef)
  |none=>x=.any
 sim:Sim fr ro' σ' H' w'
 ev:Qh fr ro w ro' w'
 ext:Ext ro σ w ro' σ' w'
 holes:QkV hB hE σ' H'
 take:σ'.take hB=σ.take hB
theorem JF.use{P:Program}{N:Nat}{l:List Oper}{ds:List Nat}{xs:List A}{env0:Env}{hB hE i:Nat}{H H':Qd}(hb:JF P N l ds xs env0 hB hE i H H')
  {Q:Exit->Act->World->Prop}{K:Act->World->Prop}{fr ro:Nat->Prop}{σ:Sig}{a:Act}{w:World}{o:Oper}{rd:Option Nat}(O:l[i]?=some o)
  (f:Sim fr ro σ H w)(hN:a.tmps.size=N)(n:Qdj fr a.defers w)(ab:Qem rd fr w)(hh:QkV hB hE σ H)(hl:hE<=H.length)(ak:hB<=hE)
  (hD:∀j∈Qi o,∀s x,ds[j]?=some s->xs[j]?=some x->VR ro σ w x (a.tmps.getD s undef))
  (hO:∀s,ds.contains s=false->VR ro σ w (lk env0 s) (a.tmps.getD s undef))(hP:∀j s,(QjQ l i).contains j=true->ds[j]?=some s->VR ro σ w (lk env0 s) (a.tmps.getD s undef))
  (hK:∀v w' ro' σ',After fr ro σ w hB hE H' xs i o (a.put o.dst v) w' ro' σ'->K (a.put o.dst v) w'):
  wpOpIn (WF rd) 0 P l.toArray Q i K a w:=by
 have F:∀{e:Env} {H2:Qd} {E:Exit} {u:Act} {w':World},Qb3 H.length fr ro σ w N a.defers (Y6 e H2) E u w'->E=.normal/\u.defers=a.defers:=by
  rintro e H2 E u w' ⟨x,_,_,_,_,_,k,⟨rfl,_⟩,_,_,_,B,_⟩;refine⟨?_,B⟩;cases E<;>first|rfl|exact k.elim|cases k
 have ai:∀{σ':Sig} {w':World},Qh fr ro w ro w'->σ'.take H.length=σ.take H.length->True:=λ_ _=>trivial;have L:∀{e:Env} {u:Act} {w':World},Qb3 H.length fr ro σ w N a.defers (Y6 e H') .normal u w'->Qau hB hE H H'=true->
   ∃ro' σ',Sim fr ro' σ' H' w'/\Qh fr ro w ro' w'/\Ext ro σ w ro' σ' w'/\QkV hB hE σ' H'/\σ'.take hB=σ.take hB/\ ∀s,VR ro' σ' w' (lk e s) (u.tmps.getD s undef):=by
  rintro e u w' ⟨_,ah,H2,ro',σ',aj,_,⟨_,rfl,rfl⟩,r',he,ht,_,af⟩ m;have hσ:σ'=σ++σ'.drop H.length:=by
   conv=>lhs;rw[<- XC H.length σ']
   rw[ht, <- f.len,Vd]
  refine⟨ro',σ',r'.sim.frMono af.sub,he,?_,?_,?_,r'.env⟩
  .rw[hσ];exact he.ext σ _
  .intro p k B h3;have:=hh p k B (Qls m k B h3);rw[hσ,XQ (by rw[f.len];omega)];exact this
  .rw[hσ];exact Qv (by rw[f.len];omega)
 cases hb with
 |woE r e d x g J V he m h=>
  obtain rfl:r=o:=X4 (g.symm.trans O);have hr:∀s,VR ro σ w (lk e s) (a.tmps.getD s undef):=λs=>by
   rcases he s with⟨j,x,k,B,h3,G⟩|G|⟨k,G⟩
   .rw[G];exact hD j (by simpa using k) s x B h3
   .rw[G];exact trivial
   .rw[G];exact hO s k
  refine QcS O (h rd fr ro σ a w ⟨f,hr,hN,n⟩ ab) (λ_ _ _ q=>F q) (λv w' q=>?_);obtain⟨ro',σ',g1,g2,M,g4,g5,g6⟩:=L q m;refine hK v w' ro' σ' ⟨λy T=>?_,g1,g2,M,g4,g5⟩;obtain rfl:=X4 (V.symm.trans T);have:=g6 d;unfold lk at this;rw[VJ]at this;rw[J]at this⊢;exact this
 |mk r e d x g J V m hs h=>
  obtain rfl:r=o:=X4 (g.symm.trans O);refine QcS O (h rd fr ro σ a w ⟨f,hs.rel hD hO hP,hN,n⟩ ab) (λ_ _ _ q=>F q) (λv w' q=>?_);obtain⟨ro',σ',g1,g2,M,g4,g5,g6⟩:=L q m;refine hK v w' ro' σ' ⟨λy T=>?_,g1,g2,M,g4,g5⟩;obtain rfl:=X4 (V.symm.trans T);have:=g6 d;unfold lk at this;rw[VJ]at this;rw[J]at this⊢;exact this
 |unit r e g J V m hs h=>
  obtain rfl:r=o:=X4 (g.symm.trans O);refine QcS O (h rd fr ro σ a w ⟨f,hs.rel hD hO hP,hN,n⟩ ab) (λ_ _ _ q=>F q) (λv w' q=>?_);obtain⟨ro',σ',g1,g2,M,g4,g5,g6⟩:=L q m;refine hK v w' ro' σ' ⟨λy T=>?_,g1,g2,M,g4,g5⟩;obtain rfl:=X4 (V.symm.trans T);rw[J]
 |val r e d x g J hg V aa he h hH=>
  obtain rfl:r=o:=X4 (g.symm.trans O);subst hH;have hr:Rel fr ro σ H e N a w:=by
   refine⟨f,λs=>?_,hN,n⟩;rcases he s with⟨j,x,k,B,h3,G⟩|G|⟨k,G⟩
   .rw[G];exact hD j (by simpa using k) s x B h3
   .rw[G];exact trivial
   .rw[G];exact hO s k
  obtain⟨v0,k,B⟩:=h fr ro σ N a w hr;have hw:Region.wanted r (yielded l.toArray a.tmps)=true:=by unfold Region.wanted;rw[hg]
  refine QcS (R:=λE u w'=>E=.normal/\u.defers=a.defers/\u=a.put r.dst v0/\w'=w) O (Qab hw k ?_) (λ_ _ _ q=>⟨q.1,q.2.1⟩) (λv w' q=>?_)
  .unfold wpL wpListIn;refine⟨rfl,?_,rfl,rfl⟩;rw[J];rfl
  .obtain⟨_,_,q1,rfl⟩:=q;refine hK v _ ro σ ⟨λy T=>?_,f,Qh.refl _ _ _,⟨λ_ q=>q,λ_ _=>rfl,λ_ _ q=>q,λ_ _ q=>q⟩,hh,rfl⟩;obtain rfl:=X4 (V.symm.trans T);rw[q1,J];have X:d<a.tmps.size:=by rw[hN];simpa using aa
   show VR ro σ w' x _;simpa[Act.put,Array.getD_eq_getD_getElem?,X]using B
 |alloc r d t p cs g J hg V hp Y hH h aa=>
  obtain rfl:r=o:=X4 (g.symm.trans O);subst hH;simp only[X0]at hp;have ae:=XV hp.1;have ac:p<hE:=by simpa using hp.2
  have hσp:=hh p ae ac Y;obtain⟨lv,k,B,h3⟩:=h ro σ w a;have hw:Region.wanted r (yielded l.toArray a.tmps)=true:=by unfold Region.wanted;rw[hg]
  have ev:Qh fr ro w ro (w.alloc (.cells lv.toArray t)):=Qh.alloc _ f.roLt f.frLt;have ag:p<σ.length:=by rw[f.len];omega
  have W:Ext ro σ w ro (σ.set p (some w.heap.size)) (w.alloc (.cells lv.toArray t)):=⟨ev.sub,ev.keepRo,ev.shape,λj b q=>by
   rw[XT (λz=>by subst z;rw[hσp]at q;cases q)];exact q⟩
  refine QcS (R:=λE u w'=>E=.normal/\u.defers=a.defers/\u=a.put r.dst (.pointer (some ⟨w.heap.size,0,none⟩))/\w'=w.alloc (.cells lv.toArray t)) O (Qab hw k ?_) (λ_ _ _ q=>⟨q.1,q.2.1⟩) (λv w' q=>?_)
  .unfold wpL wpListIn;refine⟨rfl,?_,rfl,rfl⟩;rw[J];rfl
  .obtain⟨_,_,q1,rfl⟩:=q;refine hK v _ ro (σ.set p (some w.heap.size)) ⟨λy T=>?_,f.allocAt hσp ⟨lv,Q9 _ _,B.mono W,h3⟩,ev,W,λp' g1 g2 M=>?_,?_⟩
   .obtain rfl:=X4 (V.symm.trans T);rw[q1,J];have X:d<a.tmps.size:=by rw[hN];simpa using aa
    refine⟨w.heap.size,Xa ag,?_⟩;simp[Act.put,Array.getD_eq_getD_getElem?,X]
   .by_cases q:p'=p
    .subst q;rw[Xa (by omega)]at M;cases M
    .rw[XT (λz=>q z.symm)]at M⊢;exact hh p' g1 g2 M
   .rw[List.take_set,List.set_eq_of_length_le];rw[XA];omega
def same(a b:List Nat):Bool:=a.all (b.contains ·)&&b.all (a.contains ·)
theorem Qod{a b:List Nat}(h:same a b=true)(i:Nat):i∈a↔i∈b:=by
 unfold same at h;simp only[X0,Xu,List.contains_iff_mem]at h;exact⟨h.1 i,h.2 i⟩
structure Qn4 (l:List Oper) (m:Nat) (ds:List Nat) (hs:List Bool) (rq ms:List (List Nat)) (pl:List (List (Nat×Nat))) (N:Nat):Prop where
 len:m<=l.length
 dst:∀i o,i<m->l[i]?=some o->(∃d,o.dst=some d/\ds[i]?=some d/\d<N)\/o.dst=none
 dsl:ds.length=m
 nodup:∀(i j d:Nat),ds[i]?=some d->ds[j]?=some d->i=j
 back:∀i o,l[i]?=some o->∀j∈Qi o,j<i
 mid:∀o,l[m]?=some o->∀j,j<m->Qcs l m j
 chain:∀i o,m<i->l[i]?=some o->i-1∈Qi o
 rqs:∀i o,i<m->l[i]?=some o->∀h∈rq.getD i [],h<m/\hs.getD h false=true/\(h∈Qi o\/ ∃j∈Qi o,j<m/\h∈rq.getD j [])
 ms0:ms.getD 0 []=[]
 full:∀st,st<ms.length->st+1=ms.length\/ ∃i,i<m/\hs.getD i false=true/\i∉ms.getD st []
 msh:∀st h,h∈ms.getD st []->h<m/\hs.getD h false=true
 pls:∀i st,i<m->st<ms.length->(∀h∈rq.getD i [],h∈ms.getD st [])->(hs.getD i false=true->i∉ms.getD st [])->(∀h∈ms.getD st [],¬Qcs l h i)->
  ∃st',(st,st')∈pl.getD i []/\st'<ms.length/\if hs.getD i false then∀j,j∈ms.getD st' []↔j=i\/j∈ms.getD st []else st'=st
theorem QkB{α:Type}{l:List α}{i:Nat}{d x:α}(h:l[i]?=some x):l.getD i d=x:=by rw[VP,h];rfl
theorem QiM{P:Program}{l:List Oper}{m:Nat}{X:List Nat}{hs:List Bool}{rq ms:List (List Nat)}{pl:List (List (Nat×Nat))}{N h0 hB hE:Nat}{xs:List A}{env0:Env}{Hs:List Qd}{Hk:Qd}
  (ok:Qn4 l m X hs rq ms pl N)(a6:xs.length=m)(ba:Hs.length=ms.length)(au:h0<=hB)(ax:hB<=hE)(ao:∀H∈Hs,hE<=H.length)
  (a8:∀i p,i<m->p∈pl.getD i []->JF P N l X xs env0 hB hE i (Hs.getD p.1 []) (Hs.getD p.2 []))(ar:Hs.getD (ms.length-1) []=Hk)
  {fr ro0:Nat->Prop}{σ0:Sig}{w0:World}{rd:Option Nat}{ds0:List Deferred}{R:Exit->Act->World->Prop}
  (hk:∀ro σ a w,Rel fr ro σ Hk (Qaw X xs env0) N a w->Qh fr ro0 w0 ro w->σ.take h0=σ0.take h0->a.defers=ds0->wpL P rd l.toArray R (l.drop m) a w)(ag:Qdj fr ds0 w0)(az:Qem rd fr w0):
  ∀(b:Nat) (L:Array Bool) (a:Act) (w:World) (ro:Nat->Prop) (σ:Sig) (t:Nat),
   L.size=l.length->unl L<=b->(∀i,m<=i->¬onL L i)->t<ms.length->Sim fr ro σ (Hs.getD t []) w->a.tmps.size=N->a.defers=ds0->
   (∀(i d:Nat) (x:A),onL L i->X[i]?=some d->xs[i]?=some x->VR ro σ w x (a.tmps.getD d undef))->(∀s,(∀j,X[j]?=some s->¬onL L j)->VR ro σ w (lk env0 s) (a.tmps.getD s undef))->
   Qh fr ro0 w0 ro w->σ.take h0=σ0.take h0->QkV hB hE σ (Hs.getD t [])->
   (∀i,i<m->onL L i->∀h∈rq.getD i [],onL L h)->(∀i,i<m->hs.getD i false=true->(onL L i↔i∈ms.getD t []))->
   (∀i o,onL L i->l[i]?=some o->∀j∈Qi o,onL L j)->
   wpAnyIn (WF rd) 0 P .any l.toArray R b L a w:=by
 have a3:∀t,t<ms.length->hE<=(Hs.getD t []).length:=by
  intro t h;have e:Hs[t]?=some Hs[t]:=XO (by omega);rw[QkB e];exact ao _ (Vh _)
 have fin:∀(b:Nat) (L:Array Bool) (a:Act) (w:World) (ro:Nat->Prop) (σ:Sig) (t:Nat),
   L.size=l.length->unl L<=b->(∀i,m<=i->¬onL L i)->t<ms.length->Sim fr ro σ (Hs.getD t []) w->a.tmps.size=N->a.defers=ds0->
   (∀(i d:Nat) (x:A),onL L i->X[i]?=some d->xs[i]?=some x->VR ro σ w x (a.tmps.getD d undef))->(∀s,(∀j,X[j]?=some s->¬onL L j)->VR ro σ w (lk env0 s) (a.tmps.getD s undef))->
   Qh fr ro0 w0 ro w->σ.take h0=σ0.take h0->
   (∀i,i<m->hs.getD i false=true->(onL L i↔i∈ms.getD t []))->(∀i,i<m->onL L i)->
   wpAnyIn (WF rd) 0 P .any l.toArray R b L a w:=by
  intro b L a w ro σ t hsz hu hsuf hst hsim hN hdef hD hE' hev htk hI2 k;have ak:t=ms.length-1:=by
   rcases ok.full t hst with q|⟨i,O,W,h3⟩
   .omega
   .exact absurd ((hI2 i O W).1 (k i O)) h3
  rw[ak,ar]at hsim;refine Qlr ok.back ok.chain b m L a w hsz (λi hi=>⟨λq=>?_,λq=>k i q⟩) hu (XX _) ok.len ?_
  .rcases VG i m with z|z
   .exact z
   .exact absurd q (hsuf i z)
  .have hr:Rel fr ro σ Hk (Qaw X xs env0) N a w:=by
    refine⟨hsim,λs=>?_,hN,by rw[hdef];exact ag.keep hev⟩;rcases Qok (env0:=env0) (by rw[ok.dsl,a6]) s with⟨j,x,O,W,h3⟩|⟨O,W⟩
    .rw[h3];have f:j<m:=by have:=(XP.1 O).1;rw[ok.dsl]at this;exact this
     exact hD j s x (k j f) O W
    .rw[W];exact hE' s (λj q=>absurd (VL q) (by simpa using O))
   exact hk ro σ a w hr hev htk hdef
 intro b
 induction b with
 |zero=>
  intro L a w ro σ t hsz hu hsuf hst hsim hN hdef hD hE' hev htk hho hI1 hI2 hcl;refine fin 0 L a w ro σ t hsz hu hsuf hst hsim hN hdef hD hE' hev htk hI2 (λi hi=>?_);by_cases q:onL L i
  .exact q
  .have:=Qki (L:=L) (i:=i) (by have:=ok.len;omega) q;omega
 |succ b ih=>
  intro L a w ro σ t hsz hu hsuf hst hsim hN hdef hD hE' hev htk hho hI1 hI2 hcl;by_cases k:∀i,i<m->onL L i
  .exact fin (b+1) L a w ro σ t hsz hu hsuf hst hsim hN hdef hD hE' hev htk hI2 k
  .have a7:∃i,i<m/\ ¬onL L i:=by
    refine Classical.byContradiction λq=>k λi hi=>Classical.byContradiction λz=>q ⟨i,hi,z⟩
   obtain⟨n,hn,ai⟩:=a7;obtain⟨i0,O,W,h3⟩:=least (p:=λi=>¬onL L i) (λi=>Classical.em _) n ai;have bc:=ok.len;have al:l[i0]?=some l[i0]:=XO (by omega);have hr:i0∈Region.ready .any l.toArray L:=(QaI hsz).2 ⟨_,al,W,λj f=>Classical.byContradiction λz=>h3 j (ok.back i0 _ al j f) z⟩;refine⟨λq=>(by rw[q]at hr;cases hr),λi hi=>?_⟩;obtain⟨o,T,Y,M⟩:=(QaI hsz).1 hi;have B:i<m:=by
    rcases VG i m with q|q
    .exact q
    .exfalso;rcases VG m i with z|z
     .exact hsuf (i-1) (by omega) (M _ (ok.chain i o z T))
     .have:i=m:=by omega
      subst this;have a2:∀j,Qcs l i j->onL L j:=by
       intro j f
       induction f with
       |one r f=>rw[T]at r;cases r;exact M _ f
       |step _ r f ihr=>exact hcl _ _ ihr r _ f
      exact ai (a2 n (ok.mid o T n hn))
   have aj:∀h∈rq.getD i [],onL L h:=by
    intro h V;obtain⟨_,_,q|⟨j,q1,q2,q3⟩⟩:=ok.rqs i o B T h V
    .exact M h q
    .exact hI1 j q2 (M j q1) h q3
   obtain⟨a5,aw,aq,F⟩:=ok.pls i t B hst (λh V=>by
    obtain⟨q1,q2,_⟩:=ok.rqs i o B T h V;exact(hI2 h q1 q2).1 (aj h V)) (λq z=>Y ((hI2 i B q).2 z)) (λh V hR=>by
    obtain⟨q1,q2⟩:=ok.msh t h V;have a1:onL L h:=(hI2 h q1 q2).2 V;have an:∀j,Qcs l h j->onL L j:=by
     intro j f
     induction f with
     |one r f=>exact hcl _ _ a1 r _ f
     |step _ r f ihr=>exact hcl _ _ ihr r _ f
    exact Y (an i hR))
   have hb:=a8 i _ B aw;refine hb.use T hsim hN (by rw[hdef];exact ag.keep hev) (az.to hev λ_ q=>q) hho (a3 t hst) ax (λj f s x q1 q2=>hD j s x (M j f) q1 q2) (λs O=>hE' s (λj q=>absurd (VL q) (by simpa using O))) (λj s O W=>hE' s (λj' q q'=>?_)) ?_
   .obtain rfl:=ok.nodup j' j s q W;have f:=Xe.1 (List.contains_iff_mem.1 O);cases ac:l[j']? with
    |none=>rw[ac]at f;simp at f
    |some oj=>
     rw[ac]at f;exact Y (hcl j' oj q' ac i (by simpa using f.2))
   intro v w' a4 σ' af;have ab:=af.ext;have aa:∀s,(∀d,o.dst=some d->s≠d)->(a.put o.dst v).tmps.getD s undef=a.tmps.getD s undef:=by
    intro s ay;cases hd:o.dst with
    |none=>rfl
    |some d=>
     simp only[Act.put,Array.getD_eq_getD_getElem?,Vi];rw[Vw (λq=>ay d hd q.symm)]
   have ae:(a.put o.dst v).tmps.size=N:=by
    cases hd:o.dst with
    |none=>simpa[Act.put]using hN
    |some d=>simpa[Act.put]using hN
   have a9:(a.put o.dst v).defers=ds0:=by
    cases hd:o.dst with
    |none=>simpa[Act.put]using hdef
    |some d=>simpa[Act.put]using hdef
   have bb:=QgZ (L:=L) (i:=i) (by omega) Y;have u:i<L.size:=by omega
   have a0:∀s j,X[j]?=some s->j≠i->∀d,o.dst=some d->s≠d:=by
    intro s j f E d hd q;subst q;rcases ok.dst i o B T with⟨d',g,Q,ah⟩|g
    .rw[hd]at g;cases g;exact E (ok.nodup j i _ f Q)
    .rw[hd]at g;cases g
   refine ih _ _ w' a4 σ' a5 (by simpa using hsz) (by omega) (λj f q=>?_) aq af.sim ae a9 ?_ ?_ (hev.trans af.ev) ?_ af.holes ?_ ?_ ?_
   .rcases(JA u).1 q with z|z
    .omega
    .exact hsuf j f z
   .intro j s y f G hy;by_cases E:j=i
    .subst E;have hv:=af.val y hy;rcases ok.dst j o B T with⟨d',g,Q,ah⟩|g
     .obtain rfl:s=d':=X4 (G.symm.trans Q);simp only[g]at hv⊢;exact hv
     .simp only[g]at hv;subst hv;exact trivial
    .rw[aa s (a0 s j G E)];rcases(JA u).1 f with z|z
     .exact absurd z E
     .exact(hD j s y z G hy).mono ab
   .intro s G;have av:∀d,o.dst=some d->s≠d:=by
     rintro d hd rfl;rcases ok.dst i o B T with⟨d',g,Q,ah⟩|g
     .rw[hd]at g;cases g;exact G i Q ((JA u).2 (.inl rfl))
     .rw[hd]at g;cases g
    rw[aa s av];exact(hE' s (λj q z=>G j q ((JA u).2 (.inr z)))).mono ab
   .rw[<- htk];have:=congrArg (List.take h0) af.take;rw[List.take_take,List.take_take,XE au]at this;exact this
   .intro j f J h V;refine(JA u).2 (.inr ?_);rcases(JA u).1 J with z|z
    .subst z;exact aj h V
    .exact hI1 j f z h V
   .intro j f J;rw[JA u];cases q:hs.getD i false with
    |false=>
     have E:j≠i:=by rintro rfl;rw[q]at J;cases J
     rw[q]at F;simp only[Xj,if_false]at F;simp only[E,false_or];rw[F];exact hI2 j f J
    |true=>
     rw[q]at F;simp only[if_true]at F;rw[F j,hI2 j f J]
   .intro j o' f r j' am;rcases(JA u).1 f with z|z
    .subst z;rw[T]at r;cases r;exact(JA u).2 (.inr (M _ am))
    .exact(JA u).2 (.inr (hcl j o' z r j' am))
def Qd8.dstB(N:Nat):Nat->List Oper->List Nat->Bool
 |_,_,[]=>true
 |i,o::r,d::ds=>(match o.dst with|some d'=>Nat.beq d' d&&Nat.blt d N|none=>true)&&Qd8.dstB N (i+1) r ds
 |_,[],_::_=>false
def Qd8.rqB(m:Nat)(hs:List Bool)(rq:List (List Nat)):Nat->List Oper->Bool
 |_,[]=>true
 |i,o::r=>(rq.getD i []).all (λh=>Nat.blt h m&&hs.getD h false&&((Qi o).contains h||(Qi o).any λj=>Nat.blt j m&&(rq.getD j []).contains h))&&Qd8.rqB m hs rq (i+1) r
def Qjl(l:List Oper)(h:Nat):List Nat:=match l[h]? with
 |some o=>QeV l h (Qi o)
 |none=>[]
theorem Qk5{l:List Oper}{h j:Nat}(q:j∈Qjl l h):Qcs l h j:=by
 unfold Qjl at q;cases a:l[h]? with
 |none=>rw[a]at q;cases q
 |some o=>rw[a]at q;exact Qb7 h (Qi o) (λi b=>.one a b) j q
def Qd8.plB(l:List Oper)(m:Nat)(hs:List Bool)(rq ms:List (List Nat))(pl:List (List (Nat×Nat))):Bool:=
 (List.range m).all λi=>(List.range ms.length).all λst=>((ms.getD st []).any λh=>(Qjl l h).contains i)|| !(rq.getD i []).all ((ms.getD st []).contains ·)||(hs.getD i false&&(ms.getD st []).contains i)||
  (pl.getD i []).any λp=>Nat.beq p.1 st&&Nat.blt p.2 ms.length&&(bif hs.getD i false then same (ms.getD p.2 []) (i::ms.getD st [])else Nat.beq p.2 st)
def Qd8(l:List Oper)(m N:Nat)(ds:List Nat)(hs:List Bool)(rq ms:List (List Nat))(pl:List (List (Nat×Nat))):Bool:=
 Nat.ble m l.length&&(ds.length==m)&&Qd8.dstB N 0 l ds&&drawChk.nodupB ds&&drawChk.goB l m 0 l&&Qd8.rqB m hs rq 0 l&&(ms.getD 0 []).isEmpty&&Nat.blt 0 ms.length
 &&((List.range ms.length).all λst=>Nat.beq (st+1) ms.length||(List.range m).any λi=>hs.getD i false&& !(ms.getD st []).contains i)&&Qd8.plB l m hs rq ms pl&&(List.range ms.length).all λst=>(ms.getD st []).all λh=>Nat.blt h m&&hs.getD h false
theorem QgD{N:Nat}:∀(l:List Oper) (a:List Nat) (b:Nat),Qd8.dstB N b l a=true->∀(i d:Nat) (o:Oper),l[i]?=some o->a[i]?=some d->
  (o.dst=some d/\d<N)\/o.dst=none:=by
 intro l
 induction l with
 |nil=>intro a b h i d o f;simp at f
 |cons x r k=>
  intro a b h i d o f g;cases a with
  |nil=>simp at g
  |cons y a=>
   simp only[Qd8.dstB,X0]at h;cases i with
   |zero=>
    simp at f g;subst f;subst g;have h:=h.1;split at h
    .rename_i m j;simp only[X0]at h;have e:=XU h.1;subst e;exact .inl ⟨j,by simpa using h.2⟩
    .rename_i j;exact .inr j
   |succ i=>
    have:=k a (b+1) h.2 i d o (by simpa using f) (by simpa using g);exact this
theorem Qml{m:Nat}{e:List Bool}{d:List (List Nat)}:∀(l:List Oper) (b:Nat),Qd8.rqB m e d b l=true->∀(i:Nat) (o:Oper),l[i]?=some o->
  ∀h∈d.getD (b+i) [],h<m/\e.getD h false=true/\(h∈Qi o\/ ∃j∈Qi o,j<m/\h∈d.getD j []):=by
 intro l
 induction l with
 |nil=>intro b h i o a;simp at a
 |cons x r n=>
  intro b h i o a;simp only[Qd8.rqB,X0]at h;cases i with
  |zero=>
   simp at a;subst a;intro k f;have:=Xu.1 h.1 k (by simpa using f);simp only[X0,Bool.or_eq_true,List.contains_iff_mem,Xv]at this;obtain⟨⟨w,t⟩,s⟩:=this;refine⟨by simpa using w,t,?_⟩;rcases s with q|⟨j,u,p,g⟩
   .exact .inl q
   .exact .inr ⟨j,u,by simpa using p,g⟩
  |succ i=>
   have:=n (b+1) h.2 i o (by simpa using a);rw[show b+1+i=b+(i+1)by omega]at this;exact this
theorem Qnn{l:List Oper}{m N:Nat}{r:List Nat}{G:List Bool}{y t:List (List Nat)}{H:List (List (Nat×Nat))}(h:Qd8 l m N r G y t H=true):
  Qn4 l m r G y t H N/\0<t.length:=by
 unfold Qd8 at h;simp only[X0]at h;obtain⟨⟨⟨⟨⟨⟨⟨⟨⟨⟨V,J⟩,X⟩,T⟩,W⟩,O⟩,h7⟩,P⟩,L⟩,B⟩,E⟩:=h;have x:m<=l.length:=XV V;have F:r.length=m:=by simpa using J
 have g:=Qih l 0 W;refine⟨⟨x,λi o s b=>?_,F,Qd0 T,λi o b=>by have:=(g i o b).1;simpa using this,λo b j R=>Qb7 m (Qi o) (λi s=>.one b s) j ((g m o b).2.1 (by omega) j R),
  λi o s b=>by have:=(g i o b).2.2 (by omega);simpa using this,λi o s b h f=>by have:=Qml l 0 O i o b h (by simpa using f);exact this,
  by simpa using h7,λk a=>?_,λk h f=>?_,λi k s a Y hn M=>?_⟩,by simpa using P⟩
 .have u:r[i]?=some r[i]:=XO (by omega);rcases QgD l r 0 X i _ o b u with⟨n,w⟩|n
  .exact .inl ⟨_,n,u,w⟩
  .exact .inr n
 .have:=Xu.1 L k (List.mem_range.2 a);simp only[Bool.or_eq_true,Xv,X0,Bool.not_eq_true']at this;rcases this with q|⟨i,n,w,d⟩
  .exact .inl (XU q)
  .exact .inr ⟨i,List.mem_range.1 n,w,λz=>by rw[List.contains_iff_mem.2 z]at d;cases d⟩
 .have a:k<t.length:=by
   rcases VG k t.length with q|q
   .exact q
   .rw[VP,XS q]at f;cases f
  have:=Xu.1 (Xu.1 E k (List.mem_range.2 a)) h f;simp only[X0]at this;exact⟨by simpa using this.1,this.2⟩
 .have:=Xu.1 (Xu.1 B i (List.mem_range.2 s)) k (List.mem_range.2 a);simp only[Bool.or_eq_true,Bool.not_eq_true']at this;rcases this with((q|q)|q)|q
  .exfalso;obtain⟨h,f,q⟩:=Xv.1 q;exact M h f (Qk5 (List.contains_iff_mem.1 q))
  .exfalso;have:((y.getD i []).all ((t.getD k []).contains ·))=true:=Xu.2 λh f=>List.contains_iff_mem.2 (Y h f);rw[this]at q;cases q
  .simp only[X0]at q;exact absurd (List.contains_iff_mem.1 q.2) (hn q.1)
  .obtain⟨p,Q,q⟩:=Xv.1 q;simp only[X0]at q;obtain⟨⟨n,w⟩,d⟩:=q;have e:=XU n;refine⟨p.2,by rw[<- e];exact Q,by simpa using w,?_⟩;cases z:G.getD i false with
   |true=>
    rw[z]at d;simp only[Vt]at d;simp only[if_true];intro j;rw[Qod d j,Va]
   |false=>
    rw[z]at d;simp only[Vu]at d;simp only[Xj,if_false];exact XU d
inductive QhF (P:Program) (N:Nat) (l:List Oper) (ds:List Nat) (xs:List A) (env0:Env) (hB hE:Nat):Nat->List (List (Qd×Qd))->Prop
 |nil {i:Nat}:QhF P N l ds xs env0 hB hE i []
 |cons {i:Nat} {s:List (Qd×Qd)} {r:List (List (Qd×Qd))} (h:∀p∈s,JF P N l ds xs env0 hB hE i p.1 p.2) (k:QhF P N l ds xs env0 hB hE (i+1) r):QhF P N l ds xs env0 hB hE i (s::r)
theorem QhF.get{P:Program}{N:Nat}{l:List Oper}{d:List Nat}{xs:List A}{env0:Env}{hB hE b:Nat}{e:List (List (Qd×Qd))}(h:QhF P N l d xs env0 hB hE b e):
  ∀(i:Nat) (s:List (Qd×Qd)),e[i]?=some s->∀p∈s,JF P N l d xs env0 hB hE (b+i) p.1 p.2:=by
 induction h with
 |nil=>intro i s h;simp at h
 | @cons b s0 r h _ ih=>
  intro i s a;cases i with
  |zero=>simp at a;subst a;exact h
  |succ i=>
   have:=ih i s (by simpa using a);rw[show b+1+i=b+(i+1)by omega]at this;exact this
theorem Qe{P:Program}{N:Nat}{l:List Oper}{b:List Nat}{xs:List A}{env0:Env}{hB hE i:Nat}:∀p∈([]:List (Qd×Qd)),JF P N l b xs env0 hB hE i p.1 p.2:=by
 intro p a;cases a
theorem Qc{P:Program}{N:Nat}{l:List Oper}{a:List Nat}{xs:List A}{env0:Env}{hB hE i:Nat}{H H':Qd}{r:List (Qd×Qd)}(h:JF P N l a xs env0 hB hE i H H')
  (k:∀p∈r,JF P N l a xs env0 hB hE i p.1 p.2):∀p∈(H,H')::r,JF P N l a xs env0 hB hE i p.1 p.2:=by
 intro p b;rcases Va.1 b with rfl|q
 .exact h
 .exact k p q
theorem Qg5{P:Program}{h0 N:Nat}{id:Nat}{l:List Oper}{env:Env}{H:Qd}{fr ro:Nat->Prop}{σ:Sig}{a:Act}{w:World}{rd:Option Nat}{R:Exit->Act->World->Prop}(m c:Nat)(ds:List Nat)(hs:List Bool)(rq ms:List (List Nat))(G:List (List (Nat×Nat)))(xs:List A)(Hs:List Qd)(Hk:Qd)
  (hm:P.follows .mixedOrders=true)(hc:Qd8 l m N ds hs rq ms G=true)(ac:Nat.beq xs.length m=true)(ab:Nat.beq Hs.length ms.length=true)(W:Nat.ble h0 H.length=true)
  (hh:Hs.all (λX=>Nat.ble (H.length+c) X.length)=true)(T:Hs[0]?=some (H++List.replicate c .dead))(aa:Hs.getD (ms.length-1) []=Hk)
  (af:QhF P N l ds xs env H.length (H.length+c) 0 (G.map λq=>q.map λp=>(Hs.getD p.1 [],Hs.getD p.2 [])))(ae:Nat.beq G.length m=true)
  (r:Rel fr ro σ H env N a w)(ag:Qem rd fr w)
  (hk:∀ro' σ' a' w',Rel fr ro' σ' Hk (Qaw ds xs env) N a' w'->Qh fr ro w ro' w'->σ'.take h0=σ.take h0->a'.defers=a.defers->wpL P rd l.toArray R (l.drop m) a' w'):(Code.region id l.toArray true).wpIn (WF rd) 0 P R a w:=by
 obtain⟨ok,O⟩:=Qnn hc;have E:=XU ac;have F:=XU ab;have ah:=XU ae;have L:Qh fr ro w ro {w with drawn:=w.drawn+1}:=⟨λ_ q=>q,λ_ _=>rfl,λ_ _=>rfl,XX _,λ_ _ q=>q,rfl,rfl,rfl,Nat.le_succ _⟩;have u:Ext ro σ w ro (σ++List.replicate c none) {w with drawn:=w.drawn+1}:=L.ext σ _;have Y:=r.sim.len;have B:Hs.getD 0 []=H++List.replicate c .dead:=QkB T;have n:∀(i:Nat) (s:Option Nat) (x:Blk),(σ++List.replicate c none)[i]?=some s->(H++List.replicate c Blk.dead)[i]?=some x->(σ[i]?=some s/\H[i]?=some x)\/(s=none/\x=.dead):=by
  intro i s x k h;rcases VG i σ.length with q|q
  .rw[XQ q]at k;rw[XQ (by omega)]at h;exact .inl ⟨k,h⟩
  .rw[XR q]at k;rw[XR (by omega)]at h;have a1:=VL k;have a2:=VL h;exact .inr ⟨(List.mem_replicate.1 a1).2,(List.mem_replicate.1 a2).2⟩
 have J:Sim fr ro (σ++List.replicate c none) (H++List.replicate c .dead) {w with drawn:=w.drawn+1}:=by
  refine⟨by simp[Y],r.sim.roOk.to (λ_ q=>q) (λ_ _=>rfl) r.sim.roLt,r.sim.frLt,r.sim.roFr,?_,?_,?_,
   r.sim.hidTo (· = ·) QY (XX _) (λ_ _ _ _ _ _ _ q=>q) (λ_ _ _ _ _ _ _ q=>q) λj d y g1 g2 g3=>.inl ?_⟩
  rotate_left 3
  .rcases n j _ _ g1 g2 with⟨g,t⟩|⟨g,_⟩
   .exact⟨j,y,rfl,g,t,(λz=>z),λc q=>q⟩
   .cases g
  .intro i b blk k h Q;rcases n i _ _ k h with⟨g,t⟩|⟨g,_⟩
   .exact r.sim.own i b blk g t Q
   .cases g
  .intro i j b x y k h Q h4 h5 h6;rcases n i _ _ k Q with⟨g,t⟩|⟨g,_⟩
   .rcases n j _ _ h h4 with⟨V,q4⟩|⟨V,_⟩
    .exact r.sim.inj i j b x y g V t q4 h5 h6
    .cases V
   .cases g
  .intro i s x k h;rcases n i _ _ k h with⟨g,t⟩|⟨g,t⟩
   .exact BR.keep u (λb hb _=>rfl) (r.sim.blk i s x g t) (λ_ _ _ _=>rfl)
   .subst t;exact trivial
 have f:∀i,¬onL (Array.replicate l.length false) i:=by
  intro i q;unfold onL at q;rw[Array.getElem?_replicate]at q;split at q<;>simp at q
 have M:=XV W;refine wpIn_region_any hm ?_;rw[List.size_toArray];refine QiM ok E F M (Nat.le_add_right _ _) (λX hX=>XV (Xu.1 hh X hX)) ?_ aa (ro0:=ro) (σ0:=σ) (w0:=w) (ds0:=a.defers) hk r.defers ag
  l.length _ a _ ro (σ++List.replicate c none) 0 (by simp) ?_ (λi _=>f i) O (by rw[B];exact J) r.size rfl (λi d x q=>absurd q (f i)) (λs _=>(r.env s).mono u) L (Qv (by omega)) ?_
  (λi _ q=>absurd q (f i)) (λi _ _=>⟨λq=>absurd q (f i),λq=>by rw[ok.ms0]at q;cases q⟩) (λi o q=>absurd q (f i))
 .intro i p hi hp;have e:(G.map λq=>q.map λp=>(Hs.getD p.1 [],Hs.getD p.2 []))[i]?=some ((G.getD i []).map λp=>(Hs.getD p.1 [],Hs.getD p.2 [])):=by
   rw[Xq,XO (by omega),VP,XO (by omega)];rfl
  have:=af.get i _ e _ (Xf.2 ⟨p,hp,rfl⟩);simpa using this
 .unfold unl;simp[List.countP_replicate]
 .intro p k h Q;rw[XR (by omega),List.getElem?_replicate,Vx (by omega)]
theorem YX{P:Program}{h0 N:Nat}{id:Nat}{l:List Oper}{env:Env}{H:Qd}{Q:QB}(m c:Nat)(f:List Nat)(x:List Bool)(u d:List (List Nat))(g:List (List (Nat×Nat)))(xs:List A)(Hs:List Qd)(Hk:Qd)
  (B:P.follows .mixedOrders=true)(z:Qd8 l m N f x u d g=true)(i:Nat.beq xs.length m=true)(t:Nat.beq Hs.length d.length=true)(k:Nat.ble h0 H.length=true)
  (G:Hs.all (λX=>Nat.ble (H.length+c) X.length)=true)(h:Hs[0]?=some (H++List.replicate c .dead))(s:Hs.getD (d.length-1) []=Hk)
  (n:QhF P N l f xs env H.length (H.length+c) 0 (g.map λq=>q.map λp=>(Hs.getD p.1 [],Hs.getD p.2 [])))(j:Nat.beq g.length m=true)
  (E:WO P h0 N l.toArray (l.drop m) (Qaw f xs env) Hk Q):TC P h0 N (.region id l.toArray true) env H Q:=by
 intro F y J σ a w r hrd;refine Code.wpIn_mono (λe a w q=>Qb3.postW q) (Qg5 m c f x u d g xs Hs Hk B z i t k G h s n j r hrd λro' σ' a' w' hr hev htk hdf=>?_);have b:=E F y ro' σ' a' w' hr (hrd.to hev λ_ q=>q);rw[hdf]at b;exact Yh (λe a w q=>q.step hev htk) _ _ _ b
def draw0(l:List Oper)(m N:Nat)(ds:List Nat):Bool:=Nat.ble m l.length&&(ds.length==m)&&Qd8.dstB N 0 l ds&&drawChk.nodupB ds&&drawChk.goB l m 0 l
inductive Oq (P:Program) (N:Nat) (l:List Oper) (ds:List Nat) (xs:List A) (env0:Env) (H:Qd):Nat->Nat->Prop
 |n {i:Nat}:Oq P N l ds xs env0 H i 0
 |c {i c:Nat} (h:JF P N l ds xs env0 H.length H.length i H H) (k:Oq P N l ds xs env0 H (i+1) c):Oq P N l ds xs env0 H i (c+1)
theorem Oq.get{P:Program}{N:Nat}{l:List Oper}{a:List Nat}{xs:List A}{env0:Env}{H:Qd}{b c:Nat}(h:Oq P N l a xs env0 H b c):∀i,i<c->JF P N l a xs env0 H.length H.length (b+i) H H:=by
 induction h with
 |n=>intro i d;omega
 | @c b c h _ ih=>
  intro i d;cases i with
  |zero=>exact h
  |succ i=>
   have:=ih i (by omega);rw[show b+1+i=b+(i+1)by omega]at this;exact this
theorem Qno{l:List Oper}{m N:Nat}{d:List Nat}(h:draw0 l m N d=true):Qn4 l m d [] [] [[]] (List.replicate m [(0,0)]) N:=by
 unfold draw0 at h;simp only[X0]at h;obtain⟨⟨⟨⟨t,w⟩,u⟩,z⟩,s⟩:=h;have p:m<=l.length:=XV t;have n:d.length=m:=by simpa using w
 have g:=Qih l 0 s;refine⟨p,λi o e b=>?_,n,Qd0 z,λi o b=>by have:=(g i o b).1;simpa using this,λo b j y=>Qb7 m (Qi o) (λi e=>.one b e) j ((g m o b).2.1 (by omega) j y),
  λi o e b=>by have:=(g i o b).2.2 (by omega);simpa using this,λi o e b h q=>by simp at q,rfl,λk a=>.inl (by simp at a;simp[a]),λk h q=>by cases k<;>simp at q,λi k e a _ _ _=>?_⟩
 .have f:d[i]?=some d[i]:=XO (by omega);rcases QgD l d 0 u i _ o b f with⟨r,x⟩|r
  .exact .inl ⟨_,r,f,x⟩
  .exact .inr r
 .have:k=0:=by simp at a;exact a
  subst this;refine⟨0,?_,by simp,by simp⟩;rw[VP,List.getElem?_replicate,Vx e];exact VF.2 rfl
theorem Qg6{P:Program}{h0 N:Nat}{id:Nat}{l:List Oper}{env:Env}{H:Qd}{fr ro:Nat->Prop}{σ:Sig}{a:Act}{w:World}{rd:Option Nat}{R:Exit->Act->World->Prop}(m:Nat)(j:List Nat)(xs:List A)
  (F:P.follows .mixedOrders=true)(E:Go.Sw.draw0 l m N j=true)(n:Nat.beq xs.length m=true)(t:Nat.ble h0 H.length=true)
  (k:Oq P N l j xs env H 0 m)(r:Rel fr ro σ H env N a w)(u:Qem rd fr w)
  (B:∀ro' σ' a' w',Rel fr ro' σ' H (Qaw j xs env) N a' w'->Qh fr ro w ro' w'->σ'.take h0=σ.take h0->a'.defers=a.defers->wpL P rd l.toArray R (l.drop m) a' w'):(Code.region id l.toArray true).wpIn (WF rd) 0 P R a w:=by
 have ok:=Qno E;have e:=XU n;have h:Qh fr ro w ro {w with drawn:=w.drawn+1}:=⟨λ_ q=>q,λ_ _=>rfl,λ_ _=>rfl,XX _,λ_ _ q=>q,rfl,rfl,rfl,Nat.le_succ _⟩;have f:Ext ro σ w ro σ {w with drawn:=w.drawn+1}:=h.ext0 σ;have g:Sim fr ro σ H {w with drawn:=w.drawn+1}:=r.sim.heap rfl;have b:∀i,¬onL (Array.replicate l.length false) i:=by
  intro i q;unfold onL at q;rw[Array.getElem?_replicate]at q;split at q<;>simp at q
 refine wpIn_region_any F ?_;rw[List.size_toArray];refine QiM (hB:=H.length) (hE:=H.length) (Hs:=[H]) (Hk:=H) ok e rfl (XV t) (XX _) (λX hX=>by rw[VF.1 hX];exact XX _) ?_ rfl (ro0:=ro) (σ0:=σ) (w0:=w) (ds0:=a.defers) B r.defers u
  l.length _ a _ ro σ 0 (by simp) ?_ (λi _=>b i) (by simp) g r.size rfl (λi d x q=>absurd q (b i)) (λs _=>(r.env s).mono f) h rfl (λp G J=>by omega)
  (λi _ q=>absurd q (b i)) (λi _ _=>⟨λq=>absurd q (b i),λq=>by cases q⟩) (λi o q=>absurd q (b i))
 .intro i p z y;rw[VP,List.getElem?_replicate,Vx z]at y;obtain rfl:=VF.1 y;have:=k.get i z;rw[Xy]at this;exact this
 .unfold unl;simp[List.countP_replicate]
theorem TC.draw0{P:Program}{h0 N:Nat}{id:Nat}{l:List Oper}{env:Env}{H:Qd}{Q:QB}(m:Nat)(d:List Nat)(xs:List A)
  (p:P.follows .mixedOrders=true)(n:Go.Sw.draw0 l m N d=true)(g:Nat.beq xs.length m=true)(h:Nat.ble h0 H.length=true)
  (f:Oq P N l d xs env H 0 m)(i:WO P h0 N l.toArray (l.drop m) (Qaw d xs env) H Q):TC P h0 N (.region id l.toArray true) env H Q:=by
 intro k j s σ a w r hrd;refine Code.wpIn_mono (λe a w q=>Qb3.postW q) (Qg6 m d xs p n g h f r hrd λro' σ' a' w' hr hev htk hdf=>?_);have b:=i k j ro' σ' a' w' hr (hrd.to hev λ_ q=>q);rw[hdf]at b;exact Yh (λe a w q=>q.step hev htk) _ _ _ b
section
variable {P:Program} {N:Nat} {l:List Oper} {ds af bf:List Nat} {xs:List A} {env0 e r:Env} {H H':Qd} {i hB hE:Nat} {o:Oper} {d s:Nat} {x a:A}
theorem sN:Sb af bf ds xs env0 []:=.nil
theorem sD(j:Nat)(k:Sb af bf ds xs env0 r)(b:af.contains j=true:=by exact rfl)(h2:ds[j]?=some s:=by exact rfl)(h3:xs[j]?=some a:=by exact rfl):Sb af bf ds xs env0 ((s,a)::r):=.dep j b h2 h3 k
theorem sP(j:Nat)(k:Sb af bf ds xs env0 r)(b:bf.contains j=true:=by exact rfl)(h2:ds[j]?=some s:=by exact rfl)(h3:lk env0 s=a:=by exact rfl):Sb af bf ds xs env0 ((s,a)::r):=.pre j b h2 h3 k
theorem sO(s:Nat)(k:Sb af bf ds xs env0 r)(b:ds.contains s=false:=by exact rfl)(h2:lk env0 s=a:=by exact rfl):Sb af bf ds xs env0 ((s,a)::r):=.old b h2 k
theorem Qd9(H:Qd):Qau hB hE H H=true:=by
 unfold Qau;refine Xu.2 λp _=>?_;cases QcC H[hB+p]? <;>rfl
theorem Om(f:l[i]?=some o)(a:Sb (Qi o) (QjQ l i) ds xs env0 e)(h:WO P H.length N l.toArray [o] e H (Y6 (up e d x) H))(b:o.dst=some d:=by exact rfl)(hx:xs[i]?=some x:=by exact rfl):JF P N l ds xs env0 hB hE i H H:=
 .mk o e d x f b hx (Qd9 H) a h
theorem Om1(f:l[i]?=some o)(a:Sb (Qi o) (QjQ l i) ds xs env0 e)(h:WO P H.length N l.toArray [o] e H (Y6 (up e d x) H'))(b:o.dst=some d:=by exact rfl)(hx:xs[i]?=some x:=by exact rfl)(hdd:Qau hB hE H H'=true:=by exact rfl):JF P N l ds xs env0 hB hE i H H':=
 .mk o e d x f b hx hdd a h
theorem Om2(d:l[i]?=some o)(a:Sb (Qi o) (QjQ l i) ds xs env0 e)(h:WO P H.length N l.toArray [o] e H (Y6 e H'))(b:o.dst=none:=by exact rfl)(hx:xs[i]?=some .any:=by exact rfl)(hdd:Qau hB hE H H'=true:=by exact rfl):JF P N l ds xs env0 hB hE i H H':=
 .unit o e d b hx hdd a h
end
end Go.Sw
namespace Go.Sw
structure TyI where
 fld:List (Nat×Nat×Nat)
 agg:List (Nat×Bool×Nat)
 zer:List (Nat×List A×List (Nat×Nat))
structure TyOK (P:Program) (T:TyI):Prop where
 fld:∀e∈T.fld,∃n,QI P e.1 e.2.1 e.2.2 n
 agg:∀e∈T.agg,(∀w,(isAgg e.1).run P w=.ok e.2.1 w)/\ ∀w,(sizeOf e.1).run P w=.ok e.2.2 w
 zer:∀e∈T.zer,(∃z,(∀w,(zeroValue e.1).run P w=.ok z w)/\ZR (.agg e.2.1) z)/\QD P e.1 e.2.2
def Qim:List (Nat×Nat×Nat)->Nat->Nat->Option Nat
 |[],_,_=>none
 |(a,b,c)::r,t,f=>bif Nat.beq a t&&Nat.beq b f then some c else Qim r t f
def Qci{β:Type}:List (Nat×β)->Nat->Option β
 |[],_=>none
 |(a,b)::r,t=>bif Nat.beq a t then some b else Qci r t
theorem Qil{l:List (Nat×Nat×Nat)}{t f c:Nat}(h:Qim l t f=some c):(t,f,c)∈l:=by
 induction l with
 |nil=>cases h
 |cons x r g=>
  obtain⟨a,b,d⟩:=x;unfold Qim at h;cases q:(Nat.beq a t&&Nat.beq b f)with
  |true=>
   rw[q]at h;simp only[X0]at q;have i:=XU q.1;have e:=XU q.2;simp only[Vt,Option.some.injEq]at h;subst i e h;exact .head _
  |false=>rw[q]at h;exact .tail _ (g h)
theorem Qaz{β:Type}{l:List (Nat×β)}{t:Nat}{c:β}(h:Qci l t=some c):(t,c)∈l:=by
 induction l with
 |nil=>cases h
 |cons x r e=>
  obtain⟨a,b⟩:=x;unfold Qci at h;cases q:Nat.beq a t with
  |true=>
   rw[q]at h;have d:=XU q;simp only[Vt,Option.some.injEq]at h;subst d h;exact .head _
  |false=>rw[q]at h;exact .tail _ (e h)
def Qhw(H:Qd):A->Option (List A)
 |.rp cs=>some cs
 |.ptr i off=>match H[i]? with
  |some (.cells _ cs)=>some (cs.drop off)
  |_=>none
 |_=>none
theorem QjN{H:Qd}{p:A}{cs:List A}(h:Qhw H p=some cs):Pts H p cs:=by
 unfold Qhw at h;split at h
 .cases h;exact Pts.rp
 .split at h
  .rename_i a;cases h;exact Pts.cells a rfl
  .cases h
 .cases h
def Qmd(T:TyI)(o:Oper)(env:Env)(H:Qd):Option A:=
 match o.op with
 |.move x=>some (opA env x)
 |.assign x=>some (opA env x)
 |.fieldAddr t x f=>match Qim T.fld t f with
  |none=>none
  |some off=>match opA env x with
   |.ptr i p=>some (.ptr i (p+off))
   |.rp cs=>some (.rp (cs.drop off))
   |_=>none
 |.load t x=>match Qci T.agg t with
  |none=>none
  |some (b,n)=>match x with
   |.global g=>match Qjw[g]? with
    |some zs=>bif b&&Nat.beq zs.length n then some (.agg (zs.map (A.int .i64)))else none
    |none=>none
   |x=>match Qhw H (opA env x)with
    |none=>none
    |some cs=>bif b then(bif Nat.beq (cs.take n).length n then some (.agg (cs.take n))else none)else cs.head?
 |.build t parts=>match Qci T.zer t with
  |none=>none
  |some (zs,pl)=>match Qd6 env pl zs parts.toList with
   |some cs=>some (.agg cs)
   |none=>none
 |.extract x i=>match opA env x with
  |.tup vs=>vs[i]?
  |_=>none
 |.makeFunc f first cap=>some (.fn f (first.toList.map (opA env)) (cap.toList.map (opA env)))
 |_=>none
theorem Qmc{P:Program}{T:TyI}(l:TyOK P T){o:Oper}{env:Env}{H:Qd}{x:A}(h:Qmd T o env H=some x):OpV P o env H x:=by
 unfold Qmd at h;split at h
 .rename_i y a;cases h;exact OpV.move a rfl
 .rename_i y a;cases h;exact OpV.assign a rfl
 .rename_i t y f a;split at h
  .cases h
  .rename_i G m;obtain⟨n,u⟩:=l.fld _ (Qil m);split at h
   .rename_i i p j;cases h;exact Yp u a j
   .rename_i e j;cases h;exact Qw u a j rfl
   .cases h
 .rename_i t y a;split at h
  .cases h
  .rename_i b n F;obtain⟨d,k⟩:=l.agg _ (Qaz F);split at h
   .rename_i g;split at h
    .rename_i s J;cases q:(b&&Nat.beq s.length n)with
     |false=>rw[q]at h;cases h
     |true=>
      rw[q]at h;cases h;simp only[X0]at q;obtain⟨rfl,E⟩:=q;exact QgL d k J (XU E) a
    .cases h
   .split at h
    .cases h
    .rename_i e w;have r:=QjN w;cases b with
     |true=>
      simp only[Vt]at h;cases q:Nat.beq (e.take n).length n with
      |false=>rw[q]at h;cases h
      |true=>
       rw[q]at h;cases h;exact Qm a d k rfl r rfl (XU q)
     |false=>
      simp only[Vu]at h;cases e with
      |nil=>cases h
      |cons v e=>cases h;exact OpV.load a d rfl r
 .rename_i t parts a;split at h
  .cases h
  .rename_i s M L;obtain⟨⟨z,d,k⟩,B⟩:=l.zer _ (Qaz L);split at h
   .rename_i e m;cases h;exact OpV.build d k B (by rw[a]) m
   .cases h
 .rename_i y i a;split at h
  .rename_i vs j;exact OpV.extract a j h
  .cases h
 .rename_i f first cap a
  cases h;exact OpV.makeFunc (first:=first.toList) (cap:=cap.toList) (by rw[a]) rfl rfl
 .cases h
def QiL(af:List Nat):Nat->List Nat->List A->Env->Env
 |j,d::ds,x::xs,e=>(d,bif af.contains j then x else .any)::QiL af (j+1) ds xs e
 |_,_,_,e=>e
theorem QoE{af:List Nat}{env0:Env}(s:Nat):∀(a:List Nat) (xs:List A) (b:Nat),a.length=xs.length->
  (∃(j:Nat) (x:A),a[j]?=some s/\xs[j]?=some x/\lk (QiL af b a xs env0) s=bif af.contains (b+j)then x else .any)\/(a.contains s=false/\lk (QiL af b a xs env0) s=lk env0 s):=by
 intro a
 induction a with
 |nil=>intro xs b i;right;exact⟨rfl,by unfold QiL;rfl⟩
 |cons d a k=>
  intro xs b i;cases xs with
  |nil=>cases i
  |cons x xs=>
   cases q:Nat.beq s d with
   |true=>
    have e:=XU q;subst e;left;refine⟨0,x,rfl,rfl,?_⟩;simp only[QiL,lk,q,Vt];rfl
   |false=>
    have g:s≠d:=λz=>by subst z;simp[VJ]at q
    simp only[QiL,lk,q,Vu];rcases k xs (b+1) (by simpa using i)with⟨j,y,f,h,l⟩|⟨f,h⟩
    .left;refine⟨j+1,y,by simpa using f,by simpa using h,?_⟩;rw[show b+(j+1)=b+1+j by omega];exact l
    .right;refine⟨?_,h⟩;rw[List.contains_cons,f];simpa using g
def Qkj(T:TyI)(N:Nat)(l:List Oper)(ds:List Nat)(xs:List A)(env0:Env)(H:Qd)(i:Nat):Option A:=
 match l[i]? with
 |none=>none
 |some o=>match o.guard,o.dst with
  |none,some d=>bif Nat.blt d N&&Nat.beq ds.length xs.length then Qmd T o (QiL (Qi o) 0 ds xs env0) H else none
  |_,_=>none
theorem QoD{af b:List Nat}{xs:List A}{env0:Env}(hl:b.length=xs.length):Qn1 af b xs env0 (QiL af 0 b xs env0):=by
 intro s;rcases QoE (af:=af) (env0:=env0) s b xs 0 hl with⟨j,x,d,e,a⟩|h
 .rw[Xy]at a;cases q:af.contains j with
  |true=>rw[q]at a;exact .inl ⟨j,x,q,d,e,a⟩
  |false=>rw[q]at a;exact .inr (.inl a)
 .exact .inr (.inr h)
theorem vQ{P:Program}{T:TyI}(b:TyOK P T){N:Nat}{l:List Oper}{a:List Nat}{xs:List A}{env0:Env}{hB hE i:Nat}{H:Qd}{x:A}(g:xs[i]?=some x)(h:Qkj T N l a xs env0 H i=some x):JF P N l a xs env0 hB hE i H H:=by
 unfold Qkj at h;split at h
 .cases h
 .rename_i o j;split at h
  .rename_i d e f;cases q:(Nat.blt d N&&Nat.beq a.length xs.length)with
   |false=>rw[q]at h;cases h
   |true=>
    rw[q]at h;simp only[X0]at q;exact .val o _ d x j f e g q.1 (QoD (XU q.2)) (Qmc b h)
  .cases h
abbrev I(n:Int):A:=.int .i64 n
theorem zc{a:A}{v:Value}{al:List A}{vl:List Value}(h:ZR a v)(k:ZL al vl):ZL (a::al) (v::vl):=ZL.cons h k
def zr1:A->Value->Bool
 |.int k n,.int k' n'=>decide (k=k')&&decide (n=n')
 |.bool b,.bool b'=>b==b'
 |.str s,.string s'=>s.isEmpty&&s'.data.toList.isEmpty
 |.rsl _ es,.slice none 0 0=>es.isEmpty
 |.nils,.slice none 0 0=>true
 |.nilp,.pointer none=>true
 |.nilf,.nilFunc=>true
 |.nilm,.map none=>true
 |.nilif,.nilIface=>true
 |_,_=>false
def zrL:List A->List Value->Bool
 |[],[]=>true
 |a::r,v::s=>zr1 a v&&zrL r s
 |_,_=>false
def zrB:A->Value->Bool
 |.agg r,.agg s=>zrL r s.toList
 |a,v=>zr1 a v
theorem Ql4{a:A}{v:Value}(h:zr1 a v=true):ZR a v:=by
 unfold zr1 at h;split at h
 .simp only[X0,Vv]at h;obtain⟨rfl,rfl⟩:=h;exact ZR.int
 .simp only[VC]at h;subst h;exact ZR.bool
 .rename_i s g;simp only[X0,List.isEmpty_iff]at h;obtain⟨rfl,b⟩:=h;obtain⟨d⟩:=g;obtain⟨d⟩:=d;have b:d=[]:=b;subst b;exact ZR.str
 .rename_i k f;have h:f=[]:=List.isEmpty_iff.1 h;subst h;exact ZR.rsl (α:=A) (e:=λx=>[x])
 .exact ZR.nils
 .exact ZR.nilp
 .exact ZR.nilf
 .exact ZR.nilm
 .exact QoK
 .cases h
theorem Ql3:∀{r:List A} {s:List Value},zrL r s=true->ZL r s
 |[],[],_=>ZL.nil
 |a::r,v::s,h=>by
  simp only[zrL,X0]at h;exact ZL.cons (Ql4 h.1) (Ql3 h.2)
 |[],_::_,h=>by cases h
 |_::_,[],h=>by cases h
theorem zrC{a:A}{v:Value}(h:zrB a v=true):ZR a v:=by
 unfold zrB at h;split at h
 .rename_i r s;have:=ZR.agg (Ql3 h);simpa using this
 .exact Ql4 h
end Go.Sw
namespace Go.Sw
section
variable {P:Program} {o:Oper} {env:Env} {H:Qd}
end
end Go.Sw
namespace Go.Sw
structure TyX where
 ty:TyI
 al:List (Nat×A)
 sl:List Nat
structure QbK (P:Program) (T:TyX):Prop where
 ty:TyOK P T.ty
 al:∀e∈T.al,(∃z,(∀w,(zeroValue e.1).run P w=.ok z w)/\ZR e.2 z)/\Yb e.2=true/\(QZ e.2).all Yj=true
 sl:∀t∈T.sl,∃et,∀w,(underlying t).run P w=.ok (.slice et) w
def YW(all:Array Oper)(o:Oper)(env:Env):Option Bool:=
 match o.guard with
 |none=>some true
 |some (j,c)=>match(all[j]?).bind (·.dst)with
  |none=>none
  |some d=>match lk env d with
   |.bool true=>some c
   |.bool false=>some (!c)
   |.tup []=>some false
   |_=>none
theorem QP{all:Array Oper}{o:Oper}{env:Env}{b:Bool}(h:YW all o env=some b):Qp all o env b:=by
 unfold YW at h;unfold Qp;split at h
 .rename_i q;rw[q];cases h;rfl
 .rename_i j c q;rw[q];split at h
  .cases h
  .rename_i d e;refine⟨d,e,?_⟩;split at h
   .rename_i a;cases h;exact .inl ⟨true,a,by simp⟩
   .rename_i a;cases h;exact .inl ⟨false,a,by cases c<;>rfl⟩
   .rename_i a;cases h;exact .inr ⟨a,rfl⟩
   .cases h
def QdC:List Nat->Nat->Bool
 |[],_=>false
 |a::r,t=>bif Nat.beq a t then true else QdC r t
theorem Qhb{l:List Nat}{t:Nat}(h:QdC l t=true):t∈l:=by
 induction l with
 |nil=>cases h
 |cons a r b=>
  unfold QdC at h;cases q:Nat.beq a t with
  |true=>have:=XU q;subst this;exact .head _
  |false=>rw[q]at h;exact .tail _ (b h)
inductive FL where
 |mk (l:List A)
def fl:List A->FL
 |[]=>.mk []
 |a::r=>match fl r with
  |.mk r'=>.mk (a::r')
theorem Qco:∀l:List A,fl l=.mk l
 |[]=>rfl
 |a::r=>by unfold fl;rw[Qco r]
inductive FB where
 |mk (l:List Blk)
def fb:List Blk->FB
 |[]=>.mk []
 |a::r=>match fb r with
  |.mk r'=>.mk (a::r')
theorem QkF:∀l:List Blk,fb l=.mk l
 |[]=>rfl
 |a::r=>by unfold fb;rw[QkF r]
inductive FN where
 |mk (n:Nat)
def fn:List Blk->Nat->FN
 |[],n=>.mk n
 |_::r,n=>fn r (n+1)
theorem Qm2:∀(l:List Blk) (n:Nat),fn l n=.mk (l.length+n)
 |[],n=>by simp[fn]
 |a::r,n=>by unfold fn;rw[Qm2 r];simp;omega
def QkD(env:Env)(pl:List (Nat×Nat)):List A->List (Nat×Operand)->Option (List A)
 |cs,[]=>some cs
 |cs,(i,x)::r=>match YU pl i with
  |none=>none
  |some (off,size)=>match opB env x with
   |.mk a=>match fl (QZ a)with
    |.mk vs=>bif Yb a&&Nat.beq vs.length size&&Nat.ble (off+size) cs.length then(match fl (splice cs off vs)with
     |.mk cs'=>QkD env pl cs' r)else none
theorem Qip{env:Env}{pl:List (Nat×Nat)}:∀(parts:List (Nat×Operand)) (cs:List A),QkD env pl cs parts=Qd6 env pl cs parts
 |[],cs=>rfl
 |(i,x)::r,cs=>by
  unfold QkD Qd6;rw[QaF];cases pl[i]? with
  |none=>rfl
  |some q=>
   obtain⟨off,size⟩:=q;cases h:opB env x with
   |mk a=>
    rw[QE h];simp only[Qco];cases(Yb a&&Nat.beq (QZ a).length size&&Nat.ble (off+size) cs.length)with
    |false=>rfl
    |true=>exact Qip r _
def Qia(env:Env):List Operand->List A
 |[]=>[]
 |x::r=>match opB env x with
  |.mk a=>a::Qia env r
theorem QcV{env:Env}:∀l:List Operand,Qia env l=l.map (opA env)
 |[]=>rfl
 |x::r=>by
  unfold Qia;cases h:opB env x with
  |mk a=>rw[Vn,QE h];show a::Qia env r=_;rw[QcV r]
def ptX(H:Qd):Bx->Option Lx
 |.mk (.rp cs)=>some (.mk cs)
 |.mk (.ptr i off)=>match YU H i with
  |some (.cells _ cs)=>some (QfB off cs)
  |_=>none
 |_=>none
theorem QpA{H:Qd}{p:A}{cs:List A}(h:ptX H (.mk p)=some (.mk cs)):Pts H p cs:=by
 unfold ptX at h;split at h
 .rename_i q;cases q;cases h;exact Pts.rp
 .rename_i i b q;cases q;split at h
  .rename_i a;rw[QaF]at a;simp only[Option.some.injEq]at h;exact Pts.cells a (Qc7 h)
  .cases h
 .cases h
def Qdo(T:TyX)(o:Oper)(env:Env)(H:Qd):Option A:=
 match o.op with
 |.move x=>match opB env x with|.mk a=>some a
 |.assign x=>match opB env x with|.mk a=>some a
 |.nilCheck x=>nlB (opB env x)
 |.extract x i=>exB (opB env x) i
 |.unOp u _ x=>unB u (opB env x)
 |.pick c x y=>piB (opB env c) (opB env x) (opB env y)
 |.binOp b _ x y _=>biB b (opB env x) (opB env y)
 |.fieldAddr t x f=>match Qim T.ty.fld t f with
  |none=>none
  |some off=>match opB env x with
   |.mk (.ptr i p)=>some (.ptr i (p+off))
   |.mk (.rp cs)=>match QfB off cs with
    |.mk r=>some (.rp r)
   |_=>none
 |.load t x=>match Qci T.ty.agg t with
  |none=>none
  |some (b,n)=>match x with
   |.global g=>match YU Qjw g with
    |some zs=>bif b&&Nat.beq zs.length n then(match fl (zs.map (A.int .i64))with|.mk l=>some (.agg l))else none
    |none=>none
   |x=>match ptX H (opB env x)with
    |none=>none
    |some (.mk cs)=>match b with
     |true=>(match fl (cs.take n)with|.mk l=>bif Nat.beq l.length n then some (.agg l)else none)
     |false=>(match cs with|[]=>none|a::_=>some a)
 |.build t parts=>match Qci T.ty.zer t with
  |none=>none
  |some (zs,pl)=>match QkD env pl zs parts.toList with
   |some cs=>some (.agg cs)
   |none=>none
 |.makeFunc f first cap=>match fl (Qia env first.toList),fl (Qia env cap.toList)with
  |.mk l,.mk l'=>some (.fn f l l')
 |.call c=>match c with
  |{callee:=.builtin .len,args:=⟨[x]⟩,argTypes:=⟨[t]⟩}=>bif QdC T.sl t then(match opB env x with
   |.mk (.osl _ 0 n _)=>some (.int .i64 n)
   |_=>none)else none
  |_=>none
 |_=>none
theorem Qay{P:Program}{T:TyX}(m:QbK P T){o:Oper}{env:Env}{H:Qd}{x:A}(h:Qdo T o env H=some x):OpV P o env H x:=by
 unfold Qdo at h;split at h
 .rename_i y a;exact QbM a (by unfold svB;exact h)
 .rename_i y a;exact QbM a (by unfold svB;exact h)
 .rename_i y a;exact QbM a (by unfold svB;exact h)
 .rename_i y i a;exact QbM a (by unfold svB;exact h)
 .rename_i u t y a;exact QbM a (by unfold svB;exact h)
 .rename_i c y z a;exact QbM a (by unfold svB;exact h)
 .rename_i b t y z u a;exact QbM a (by unfold svB;exact h)
 .rename_i t y f a;split at h
  .cases h
  .rename_i E s;obtain⟨n,L⟩:=m.ty.fld _ (Qil s);split at h
   .rename_i i p w;cases h;exact Yp L a (QE w)
   .rename_i d w;cases q:QfB E d with
    |mk r=>rw[q]at h;cases h;exact Qw L a (QE w) (Qc7 q)
   .cases h
 .rename_i t y a;split at h
  .cases h
  .rename_i b n N;obtain⟨j,l⟩:=m.ty.agg _ (Qaz N);split at h
   .rename_i g;split at h
    .rename_i J F;rw[QaF]at F;cases q:(b&&Nat.beq J.length n)with
     |false=>rw[q]at h;cases h
     |true=>
      rw[q,Qco]at h;cases h;simp only[X0]at q;obtain⟨rfl,B⟩:=q;exact QgL j l F (XU B) a
    .cases h
   .cases e:opB env y with
    |mk p=>
     rw[e]at h;split at h
     .cases h
     .rename_i d M;have G:=QpA M;cases b with
      |true=>
       simp only[Qco]at h;cases q:Nat.beq (d.take n).length n with
       |false=>rw[q]at h;cases h
       |true=>
        rw[q]at h;cases h;exact Qm a j l (QE e) G rfl (XU q)
      |false=>
       cases d with
       |nil=>cases h
       |cons v d=>cases h;exact OpV.load a j (QE e) G
 .rename_i t parts a;split at h
  .cases h
  .rename_i J V Q;obtain⟨⟨z,j,l⟩,R⟩:=m.ty.zer _ (Qaz Q);split at h
   .rename_i d s;cases h;rw[Qip]at s;exact OpV.build j l R (by rw[a]) s
   .cases h
 .rename_i f first cap a
  simp only[Qco]at h;cases h;rw[QcV,QcV];exact OpV.makeFunc (first:=first.toList) (cap:=cap.toList) (by rw[a]) rfl rfl
 .rename_i c a;split at h
  .rename_i y t;cases q:QdC T.sl t with
   |false=>rw[q]at h;cases h
   |true=>
    rw[q]at h;simp only[Vt]at h;obtain⟨W,O⟩:=m.sl t (Qhb q);split at h
    .rename_i i n k B;cases h;exact QlP O a rfl (QE B)
    .cases h
  .cases h
 .cases h
def stX(T:TyX)(h0 N:Nat)(all:Array Oper)(o:Oper)(env:Env)(H:Qd):Option (Env×Qd):=
 match YW all o env with
 |none=>none
 |some false=>match o.dst with
  |none=>none
  |some d=>bif Nat.blt d N then some (up env d (.tup []),H)else none
 |some true=>match o.dst with
  |none=>match o.op with
   |.store t x y=>match opB env x,Qci T.ty.agg t with
    |.mk (.ptr i off),some (_,n)=>match YU H i with
     |some (.cells S cs)=>match opB env y with
      |.mk a=>match fl (QZ a)with
       |.mk vs=>bif Nat.ble h0 H.length&&(Yb a&&(Nat.beq vs.length n&&(vs.all Yj&&Nat.ble (off+n) cs.length)))then(match fl (splice cs off vs)with
        |.mk cs'=>match fb (H.set i (.cells S cs'))with
         |.mk H'=>some (env,H'))else none
     |_=>none
    |_,_=>none
   |_=>none
  |some d=>bif Nat.blt d N then(match o.op with
   |.alloc t=>match Qci T.al t with
    |some v=>bif Nat.ble h0 H.length then(match fn H 0,fl (QZ v)with
     |.mk n,.mk cs=>match fb (H++[.cells t cs])with
      |.mk H'=>some (up env d (.ptr n 0),H'))else none
    |none=>none
   |.box t x=>match opB env x with
    |.mk a=>bif Nat.ble h0 H.length&&(Yb a&&(QZ a).all Yj)then(match fn H 0,fl (QZ a)with
     |.mk n,.mk cs=>match fb (H++[.cells t cs])with
      |.mk H'=>some (up env d (.ptr n 0),H'))else none
   |_=>match Qdo T o env H with
    |some a=>some (up env d a,H)
    |none=>none)else none
section
variable {P:Program} {T:TyX} {h0 N:Nat} {all:Array Oper} {l l':List Oper} {env env':Env} {H H':Qd} {Q:QB}
theorem Qme(u:QbK P T){o:Oper}(h:stX T h0 N all o env H=some (env',H'))(k:WO P h0 N all l env' H' Q):WO P h0 N all (o::l) env H Q:=by
 unfold stX at h;split at h
 .cases h
 .rename_i r;have g:=QP r;split at h
  .cases h
  .rename_i d f;cases q:Nat.blt d N with
   |false=>rw[q]at h;cases h
   |true=>rw[q]at h;cases h;exact WO.skip g f q k
 .rename_i r;have g:=QP r;split at h
  .rename_i f;split at h
   .rename_i t x y j;split at h
    .rename_i i s b n F B;split at h
     .rename_i S cs hH;rw[QaF]at hH;cases e:opB env y with
      |mk a=>
       rw[e]at h;simp only[Qco,QkF]at h;generalize hc:(Nat.ble h0 H.length&&(Yb a&&(Nat.beq (QZ a).length n&&((QZ a).all Yj&&Nat.ble (s+n) cs.length))))=c at h;cases c with
       |false=>cases h
       |true=>
        cases h;simp only[X0]at hc;obtain⟨p,m,w,W,L⟩:=hc;obtain⟨_,V⟩:=u.ty.agg _ (Qaz B);exact QbB (XV p) g f (OpU.store j (QE F) hH V (QE e) m rfl (XU w) W L rfl) k
     .cases h
    .cases h
   .cases h
  .rename_i d f;cases q:Nat.blt d N with
   |false=>rw[q]at h;cases h
   |true=>
    rw[q]at h;simp only[Vt]at h;split at h
    .rename_i t j;split at h
     .rename_i v M;cases c:Nat.ble h0 H.length with
      |false=>rw[c]at h;cases h
      |true=>
       rw[c]at h;simp only[Qco,QkF,Qm2,Vt,Xz]at h;cases h;obtain⟨⟨z,R,O⟩,E,J⟩:=u.al _ (Qaz M);exact Y4 (XV c) g f q (QfS R O j E rfl J) k
     .cases h
    .rename_i t x j;cases e:opB env x with
     |mk a=>
      rw[e]at h;simp only[Qco,QkF,Qm2,Xz]at h;generalize hc:(Nat.ble h0 H.length&&(Yb a&&(QZ a).all Yj))=c at h;cases c with
      |false=>cases h
      |true=>
       cases h;simp only[X0]at hc;obtain⟨p,m,w⟩:=hc;exact Y4 (XV p) g f q (OpH.box j (QE e) m rfl w) k
    .split at h
     .rename_i a G;cases h;exact QF g f q (Qay u G) k
     .cases h
end
theorem yc{α:Type}{p:α->Prop}{a:α}{l:List α}(h:p a)(k:∀x∈l,p x):∀x∈a::l,p x:=List.forall_mem_cons.2 ⟨h,k⟩
theorem FA{P:Program}{T f off n:Nat}{fs:Array Field}{a:Field}(b:∀w,(underlying T).run P w=.ok (.struct fs) w)(g:fs[f]?=some a)(d:∀w,(sizeOf a.type).run P w=.ok n w)(e:a.offset=off:=by exact rfl)(h5:n≠0:=by decide):QI P T f off n:=⟨_,_,b,g,e,d,h5⟩
theorem QbP:∀(π:List Nat) (H:Qd) (xs:List Blk),π.map (λp=>H[p]?)=xs.map some->Yo H π xs=H
 |[],H,xs,h=>by
  have:xs=[]:=by cases xs with
   |nil=>rfl
   |cons x xs=>simp at h
  subst this;simp[Yo]
 |p::π,H,[],h=>by simp at h
 |p::π,H,x::xs,h=>by
  simp only[Vn,List.cons.injEq]at h;have e:H.set p x=H:=by
   apply List.ext_getElem?;intro i;rw[Xb];by_cases q:p=i
   .subst q;rw[Vx rfl,h.1];have:=(XP.1 h.1).1;rw[Vx this]
   .rw[Vw q]
  unfold Yo;rw[e];exact QbP π H xs h.2
def Qjh:A->Option Bx
 |.bool b=>some (.mk (.bool b))
 |.int k n=>some (.mk (.int k n))
 |.str s=>some (.mk (.str s))
 |.rsl k es=>some (.mk (.rsl k es))
 |_=>none
theorem Qkl{v a:A}(h:Qjh v=some (.mk a))(ρ:Nat->Nat):Yz ρ v=a:=by
 cases v<;>first|(cases h;rfl)|cases h
theorem Pc{P:Program}{h0 N:Nat}{all:Array Oper}{o:Oper}{l:List Oper}{env:Env}{H:Qd}{Q:QB}{d:Nat}{f:FuncId}{args b:List A}{Hc:Qd}{v g:A}(π:List Nat)(i:o.dst=some d)(e:OpC P o env H f args)(h:C P f b Hc (λa H1=>a=v/\H1=Hc))(j:Qjh v=some (.mk g))
  (k:WO P h0 N all l (up env d g) H Q)
  (hargs:args=Qaa (rho π H.length) b:=by exact rfl)(hH:π.map (λp=>H[p]?)=(Hc.map (QU (rho π H.length))).map some:=by exact rfl)(hπ:π.Nodup:=by decide)
  (hg:Qp all o env true:=by exact rfl)(hN:Nat.blt d N=true:=by exact rfl)(hh:Nat.ble h0 H.length=true:=by exact rfl):WO P h0 N all (o::l) env H Q:=by
 refine QA π e h ?_ hargs hH hπ hg i hN hh;rintro r H1 ⟨rfl,rfl⟩;rw[Qkl j,QbP π H _ hH];exact k
theorem YC{i k:Nat}{es:List (List A)}:∀H:Qd,FzH i k es H H
 |[]=>.nil
 |_::r=>.keep (YC r)
def foN:Nat->FN
 |0=>.mk 0
 |n+1=>match foN n with
  |.mk m=>.mk (m+1)
theorem Qfg:∀n,foN n=.mk n
 |0=>rfl
 |n+1=>by unfold foN;rw[Qfg n]
mutual
def foA:A->Bx
 |.agg cs=>match foL cs with
  |.mk l=>.mk (.agg l)
 |.tup cs=>match foL cs with
  |.mk l=>.mk (.tup l)
 |.fn f a c=>match foL a,foL c with
  |.mk l,.mk l'=>.mk (.fn f l l')
 |.iface t v=>match foA v with
  |.mk v'=>.mk (.iface t v')
 |.ptr i off=>match foN i with
  |.mk i'=>.mk (.ptr i' off)
 |.osl i o n k=>match foN i with
  |.mk i'=>.mk (.osl i' o n k)
 |.map i=>match foN i with
  |.mk i'=>.mk (.map i')
 |a=>.mk a
def foL:List A->FL
 |[]=>.mk []
 |a::r=>match foA a,foL r with
  |.mk a',.mk r'=>.mk (a'::r')
end
mutual
theorem Qhk:∀a:A,foA a=.mk a
 |.agg cs=>by unfold foA;rw[QcD cs]
 |.tup cs=>by unfold foA;rw[QcD cs]
 |.fn f a c=>by unfold foA;rw[QcD a,QcD c]
 |.iface t v=>by unfold foA;rw[Qhk v]
 |.ptr i off=>by unfold foA;rw[Qfg]
 |.osl i o n k=>by unfold foA;rw[Qfg]
 |.map i=>by unfold foA;rw[Qfg]
 |.any|.bool _|.int _ _|.str _|.nilp|.rp _|.nils|.rsl _ _|.nilf|.nilif|.nilm=>by rfl
theorem QcD:∀l:List A,foL l=.mk l
 |[]=>by rfl
 |a::r=>by unfold foL;rw[Qhk a,QcD r]
end
inductive FE2 where
 |mk (l:List (List A))
def foE:List (List A)->FE2
 |[]=>.mk []
 |a::r=>match foL a,foE r with
  |.mk a',.mk r'=>.mk (a'::r')
theorem Qm1:∀l,foE l=.mk l
 |[]=>rfl
 |a::r=>by unfold foE;rw[QcD,Qm1 r]
def foH:List Blk->FB
 |[]=>.mk []
 |b::r=>match foH r with
  |.mk r'=>match b with
   |.cells t cs=>match foL cs with
    |.mk l=>.mk (.cells t l::r')
   |.rowr t k es=>match foE es with
    |.mk l=>.mk (.rowr t k l::r')
   |.dead=>.mk (.dead::r')
   |.row t k es=>.mk (.row t k es::r')
   |.map es=>.mk (.map es::r')
   |.iter c es=>.mk (.iter c es::r')
   |.fmap es=>.mk (.fmap es::r')
   |.mapO fz t k es=>.mk (.mapO fz t k es::r')
   |.mapP es=>.mk (.mapP es::r')
   |.frow t k es=>.mk (.frow t k es::r')
   |.ents t a b es=>match foN a,foN b with
    |.mk a',.mk b'=>.mk (.ents t a' b' es::r')
theorem Qjz:∀l,foH l=.mk l
 |[]=>rfl
 |b::r=>by
  unfold foH;rw[Qjz r];cases b<;>simp only[QcD,Qm1,Qfg]
def foS(env:Env)(H:Qd):Option (Env×Qd):=
 match foH H with
 |.mk H'=>match env with
  |[]=>some ([],H')
  |(d,a)::e=>match foA a with
   |.mk a'=>some ((d,a')::e,H')
theorem QpW(env:Env)(H:Qd):foS env H=some (env,H):=by
 unfold foS;rw[Qjz];cases env with
 |nil=>rfl
 |cons p e=>obtain⟨d,a⟩:=p;simp only[Qhk]
theorem FE{P:Program}{h0 N:Nat}{all:Array Oper}{l:List Oper}{env env':Env}{H H':Qd}{Q:QB}(h:foS env H=some (env',H'))(k:WO P h0 N all l env' H' Q):WO P h0 N all l env H Q:=by
 rw[QpW]at h;cases h;exact k
def entB(b1 b2:Nat):List (List A)->Option (List Ent)
 |[]=>some []
 |[.ptr b off,.int .i64 lo,.int .i64 hi]::r=>match entB b1 b2 r with
  |none=>none
  |some l=>match Nat.beq b b2 with
   |true=>some (⟨true,off,lo,hi⟩::l)
   |false=>match Nat.beq b b1 with
    |true=>some (⟨false,off,lo,hi⟩::l)
    |false=>none
 |_=>none
theorem QoF{b1 b2:Nat}:∀{es:List (List A)} {l:List Ent},entB b1 b2 es=some l->l.map (eC b1 b2)=es:=by
 intro es
 induction es with
 |nil=>intro l h;cases h;rfl
 |cons e r a=>
  intro l h;unfold entB at h;split at h
  .cases ‹_=[]›
  .rename_i b f lo i j q;cases q;split at h
   .cases h
   .rename_i g d;have e:=a d;split at h
    .rename_i q;cases h;have:=XU q;subst this;rw[Vn,e];rfl
    .split at h
     .rename_i q;cases h;have:=XU q;subst this;rw[Vn,e];rfl
     .cases h
  .cases h
theorem TE{P:Program}{h0 N:Nat}{all:Array Oper}{l:List Oper}{env:Env}{H:Qd}{Q:QB}{t:Nat}{es:List (List A)}{L:List Ent}(i b1 b2:Nat)(hH:H[i]?=some (.rowr t 3 es))(h:entB b1 b2 es=some L)
  (k:WO P h0 N all l env (H.set i (.ents t b1 b2 L)) Q):WO P h0 N all l env H Q:=WO.le (QlX hH (QoF h)) k
theorem R1{P:Program}{h0:Nat}{fn:Func}{env:Env}{H Hc:Qd}{v:A}(s:Nat)(hr:fn.results= #[.tmp s])(hle:Le h0 env H [(s,v)] Hc):Qde P h0 fn (λa H=>a=v/\H=Hc) .ret env H:=
 ⟨[(s,v)],Hc,v,hle,Qcr.one hr (by show lk [(s,v)] s=v;unfold lk;rw[VJ];rfl),rfl,rfl⟩
theorem R2{P:Program}{h0:Nat}{fn:Func}{env:Env}{H Hc:Qd}{v v':A}(s t:Nat)(hr:fn.results= #[.tmp s,.tmp t])(hn:Nat.beq t s=false)(hle:Le h0 env H [(s,v),(t,v')] Hc):Qde P h0 fn (λa H=>a=.tup [v,v']/\H=Hc) .ret env H:=
 ⟨[(s,v),(t,v')],Hc,_,hle,QlG hr (by show lk [(s,v),(t,v')] s=v;unfold lk;rw[VJ];rfl) (by show lk [(s,v),(t,v')] t=v';unfold lk lk;rw[hn,VJ];rfl),rfl,rfl⟩
theorem FzA.o{i k n:Nat}{es:List (List A)}(a:n=es.length:=by first|exact(X6 ..).symm|exact rfl):FzA i k es (.osl i 0 n k) (.rsl k es):=FzA.own a
end Go.Sw
namespace Go.Sw
theorem Le.env{h0:Nat}{env env':Env}{H:Qd}(h:∀s,lk env' s=.any\/lk env' s=lk env s):Le h0 env H env' H:=by
 intro d b σ N a w r;refine⟨b,σ,⟨r.sim,λs=>?_,r.size,r.defers⟩,λ_ q=>q,rfl⟩;rcases h s with h|h
 .rw[h];trivial
 .rw[h];exact r.env s
def Qn0(env:Env):Env->Prop
 |[]=>True
 |(s,a)::r=>lk env s=a/\Qn0 env r
theorem Qn0.ok{env:Env}:∀{env':Env},Qn0 env env'->∀s,lk env' s=.any\/lk env' s=lk env s
 |[],_,s=>.inl rfl
 |(d,a)::e,⟨h1,h2⟩,s=>by
  by_cases q:s=d
  .subst q;right;simp only[lk,VJ,Vt];exact h1.symm
  .have:Nat.beq s d=false:=by
    rw[VQ];intro b;exact q (XU b)
   simp only[lk,this,Vu];exact Qn0.ok h2 s
theorem Lw{h0:Nat}{env env':Env}{H:Qd}(h:Qn0 env env'):Le h0 env H env' H:=Le.env h.ok
theorem Qpn(n i:Nat):rho (List.range n) n i=i:=by
 unfold rho;by_cases h:i<n
 .rw[List.getElem?_range h]
 .rw[XS (by rw[Xw];omega)];simp only[Xw];omega
mutual
theorem Qg4{ρ:Nat->Nat}(h:∀i,ρ i=i):∀a:A,Yz ρ a=a
 |.ptr i off=>by simp[Yz,h]
 |.osl i o n k=>by simp[Yz,h]
 |.agg cs=>by simp[Yz,QaZ h cs]
 |.fn f a c=>by simp[Yz,QaZ h a,QaZ h c]
 |.iface t v=>by simp[Yz,Qg4 h v]
 |.map i=>by simp[Yz,h]
 |.tup vs=>by simp[Yz,QaZ h vs]
 |.any|.bool _|.int _ _|.str _|.nilp|.rp _|.nils|.rsl _ _|.nilf|.nilif|.nilm=>by rfl
theorem QaZ{ρ:Nat->Nat}(h:∀i,ρ i=i):∀l:List A,Qaa ρ l=l
 |[]=>rfl
 |a::r=>by simp[Qaa,Qg4 h a,QaZ h r]
end
theorem Qkp{ρ:Nat->Nat}(h:∀i,ρ i=i):∀l:List (List A),Qg3 ρ l=l
 |[]=>rfl
 |a::r=>by simp[Qg3,QaZ h a,Qkp h r]
theorem Qko{ρ:Nat->Nat}(h:∀i,ρ i=i):∀l:List (A×A),Qjk ρ l=l
 |[]=>rfl
 |a::r=>by simp[Qjk,Qg4 h,Qko h r]
theorem Qof{ρ:Nat->Nat}(h:∀i,ρ i=i):∀b:Blk,QU ρ b=b
 |.cells t cs=>by simp[QU,QaZ h cs]
 |.rowr t k es=>by simp[QU,Qkp h es]
 |.ents t a b es=>by simp[QU,h]
 |.mapP es=>by simp[QU,Qko h es]
 |.dead|.row _ _ _|.map _|.iter _ _|.fmap _|.mapO _ _ _ _|.frow _ _ _=>by rfl
theorem Pw{P:Program}{h0 N:Nat}{all:Array Oper}{o:Oper}{l:List Oper}{env:Env}{H:Qd}{Q:QB}{d:Nat}{f:FuncId}{args:List A}{v h:A}(w:o.dst=some d)(g:OpC P o env H f args)(m:C P f args H (λa H1=>a=v/\H1=H))(s:Qjh v=some (.mk h))
  (hg:Qp all o env true)(t:Nat.blt d N=true)(u:h0<=H.length)(k:WO P h0 N all l (up env d h) H Q):WO P h0 N all (o::l) env H Q:=by
 have e:=Qpn H.length;have n:H.map (QU (rho (List.range H.length) H.length))=H:=by
  conv=>rhs;rw[<- List.map_id H]
  exact List.map_congr_left λb _=>Qof e b
 have j:(List.range H.length).map (λp=>H[p]?)=(H.map (QU (rho (List.range H.length) H.length))).map some:=by
  rw[n];apply List.ext_getElem?;intro i;by_cases q:i<H.length
  .simp[q]
  .simp[q]
 refine QA (List.range H.length) g m ?_ (by rw[QaZ e]) j List.nodup_range hg w t (XW u);rintro r H1 ⟨rfl,rfl⟩;rw[Qkl s,QbP _ _ _ j];exact k
def ixE(d:Nat)(g:Ground):Edge:={on:=d,ground:=g}
def ixO(d:Nat)(op:Op)(t:Nat)(pos:String)(af:Array Edge):Oper:={dst:=some d,op:=op,type:=t,pos:=pos,after:=af,guard:=none}
def QpT(ts te tf tI tB:Nat):Code:=
 (Code.region 0 [ixO 4 (.assign (.const (.int .i64 0))) tI "slices.go:107" #[]].toArray false).seq
  (((Code.region 1 [ixO 6 (.move (.tmp 0)) ts "slices.go:108" #[],ixO 7 (.call {callee:=.builtin .len,args:= #[.tmp 6],argTypes:= #[ts]}) tI "slices.go:108" #[ixE 0 .data],ixO 8 (.move (.const (.int .i64 0))) tI "slices.go:108" #[]].toArray false).seq
   (.block 0 (.loop ((Code.region 2 [ixO 9 (.binOp .lss tI (.tmp 8) (.tmp 7) tI) 0 "slices.go:108" #[]].toArray false).seq
    ((Code.cond (.tmp 9) .skip (.exit 0)).seq
    ((Code.block 1 ((Code.region 3 [ixO 10 (.move (.tmp 8)) tI "slices.go:108" #[],ixO 5 (.assign (.tmp 10)) tI "slices.go:108" #[ixE 0 .data,ixE 0 .phase]].toArray false).seq
     ((Code.region 4 [ixO 11 (.move (.tmp 1)) tf "slices.go:109" #[],ixO 12 (.move (.tmp 0)) ts "slices.go:109" #[],ixO 13 (.move (.tmp 5)) tI "slices.go:109" #[],ixO 14 (.indexAddr ts (.tmp 12) (.tmp 13)) 0 "slices.go:109" #[ixE 1 .data,ixE 2 .data],
       ixO 15 (.load te (.tmp 14)) te "slices.go:109" #[ixE 3 .data],ixO 16 (.call {callee:=.value (.tmp 11),args:= #[.tmp 15],argTypes:= #[te]}) tB "slices.go:109" #[ixE 0 .data,ixE 4 .data]].toArray false).seq
      (Code.cond (.tmp 16) ((Code.region 5 [ixO 17 (.move (.tmp 5)) tI "slices.go:110" #[],ixO 4 (.assign (.tmp 17)) tI "slices.go:110" #[ixE 0 .data,ixE 0 .phase]].toArray false).seq .ret) .skip)))).seq
     (Code.region 6 [ixO 18 (.binOp .add tI (.tmp 8) (.const (.int .i64 1)) tI) tI "slices.go:108" #[],ixO 8 (.move (.tmp 18)) tI "slices.go:108" #[ixE 0 .data]].toArray false))))))).seq
  ((Code.region 7 [ixO 4 (.assign (.const (.int .i64 (-1)))) tI "slices.go:113" #[]].toArray false).seq .ret))
theorem Yk{P:Program}{T:Type}{e:T->List A}{el:T->A}{Q z tf Y tB k:Nat}{O m:FuncId}{fn:Func}{i:List A}{Hc:Qd}{L:List T}{g:T->Option Bool}{n:Nat}{r:Int}
  (hf:P.funcs[O]?=some fn)(hb:fn.body=some (QpT Q z tf Y tB))(X:fn.ntmps=19)(V:fn.results= #[.tmp 4])(R:∀w,(underlying Q).run P w=.ok (.slice z) w)(hs:∀w,(sizeOf z).run P w=.ok k w)
  (M:∀(o:Oper) (env:Env) (H:Qd) (x:T),o.op=.load z (.tmp 14)->opA env (.tmp 14)=.rp (e x)->OpV P o env H (el x))
  (G:∀(a:Array Value) (w:World),(callFunc m a).run P w=.ok (.enter m a) w)
  (F:∀x b,g x=some b->C P m (el x::i) Hc (λa H=>a=.bool b/\H=Hc))
  (h:((iter (λs:Int=>bif decide (s<(L.length:Int))then(idx L s).bind λx=>(g x).bind λb=>(bif b then some (Ctl.done (Ctl.done s))else some (Ctl.cont (IntKind.i64.wrap (s+1))))else some (Ctl.done (Ctl.cont ()))) n (0:Int):Option (Ctl Unit Int)).bind λb=>match b with|.cont _=>some (-1)|.done s=>some s)=some r):
  C P O [.rsl k (L.map e),.fn (.func m) [] i] Hc (λa H=>a=.int .i64 r/\H=Hc):=by
 refine Qb hf hb X rfl ?_;refine Rg (S rfl (Nx (TC.seq (Rg (S rfl (LnM R rfl (S rfl (Nx (Bd h λB N h=>?_)))))))));refine Qhy (b:=B) (λ_=>[]) (λ_=>Hc) ?_ (λsb10 env H hbe hle=>?_)
 .refine TC.block ?_;refine TC.loop (E:=λt=>[(0,.rsl k (L.map e)),(1,.fn (.func m) [] i),(7,.int .i64 (L.length:Int)),(8,.int .i64 t)]) (Hp:=λ_=>Hc) N ?_ ?_
  .exact Lw ⟨rfl,rfl,rfl,rfl,trivial⟩
  intro t W d l;refine Rg (S rfl (Nx (TC.seq (Y9 rfl d (λp d=>?_) (λp d=>?_)))))
  .refine ExX (Qx d ?_);obtain rfl:=l _ (Oi d).symm;exact bloE (QL rfl (Lw trivial))
  refine SkN (TC.seq (TC.block (Rg (S rfl (S rfl (Nx (Rg (S rfl (S rfl (S rfl (Bd d λj u d=>Ix u R hs rfl ?_)))))))))));refine QF (x:=el j) rfl rfl rfl (M _ _ _ j rfl rfl) ?_;refine Bd d λJ y d=>?_;refine Pw rfl (QaG (f:=m) (x:=.tmp 11) (xs:=[.tmp 15]) (vf:=[]) (vc:=i) (args:=el j::i) G rfl rfl rfl rfl) (F j J y) rfl rfl rfl (XX _) ?_;refine Nx (Cn rfl d (λq d=>?_) (λq d=>?_))
  .refine Rg (S rfl (S rfl (Nx (TC.ret (bloR (seqR (Yq d ?_)))))));obtain rfl:=l _ (Oi d).symm;refine bloR (Q3 (seqR ?_));obtain rfl:=Oi h;exact R1 4 V (Lw ⟨rfl,trivial⟩)
  exact TC.skip (bloN (Qmk (TC.region (S rfl (S rfl (WO.nil (Qu d (Lw ⟨rfl,rfl,rfl,rfl,trivial⟩))))))))
 subst hbe;refine Qmk (TC.le hle (Rg (S rfl (Nx (TC.ret ?_)))));obtain rfl:=Oi h;exact R1 4 V (Lw ⟨rfl,trivial⟩)
end Go.Sw
namespace Go.Sw
inductive Kf where
 |seq (c:Code)
 |blo (id:Nat)
 |unr (c:Code)
inductive Cf where
 |code (c:Code)
 |ops (all:Array Oper) (l:List Oper)
 |out (x:AEx)
def kq(P:Program)(h0 N:Nat):List Kf->QB->QB
 |[],Q=>Q
 |.seq c::k,Q=>Seq P h0 N c (kq P h0 N k Q)
 |.blo id::k,Q=>Blo id (kq P h0 N k Q)
 |.unr c::k,Q=>QjV P h0 N c (kq P h0 N k Q)
@[reducible] def Hd(P:Program)(h0 N:Nat):Cf->List Kf->Env->Qd->QB->Prop
 |.code c,k,env,H,Q=>TC P h0 N c env H (kq P h0 N k Q)
 |.ops all l,k,env,H,Q=>WO P h0 N all l env H (kq P h0 N k Q)
 |.out x,k,env,H,Q=>kq P h0 N k Q x env H
def Qf8(T:TyX)(h0 N:Nat):Cf->List Kf->Env->Qd->Option (Cf×List Kf×Env×Qd)
 |.code (.seq a b),k,env,H=>some (.code a,.seq b::k,env,H)
 |.code (.block id c),k,env,H=>some (.code c,.blo id::k,env,H)
 |.code (.loop c),k,env,H=>some (.code c,.unr c::k,env,H)
 |.code .skip,k,env,H=>some (.out .normal,k,env,H)
 |.code .ret,k,env,H=>some (.out .ret,k,env,H)
 |.code (.exit id),k,env,H=>some (.out (.exit id),k,env,H)
 |.code (.region id ⟨l⟩ false),k,env,H=>some (.ops ⟨l⟩ l,k,env,H)
 |.code (.cond x a b),k,env,H=>match opB env x with
  |.mk (.bool true)=>some (.code a,k,env,H)
  |.mk (.bool false)=>some (.code b,k,env,H)
  |_=>none
 |.ops all [],k,env,H=>some (.out .normal,k,env,H)
 |.ops all (o::l),k,env,H=>match stX T h0 N all o env H with
  |some (env',H')=>some (.ops all l,k,env',H')
  |none=>none
 |.out .normal,.seq c::k,env,H=>some (.code c,k,env,H)
 |.out (.exit i),.seq _::k,env,H=>some (.out (.exit i),k,env,H)
 |.out .ret,.seq _::k,env,H=>some (.out .ret,k,env,H)
 |.out .normal,.blo _::k,env,H=>some (.out .normal,k,env,H)
 |.out (.exit i),.blo id::k,env,H=>match Nat.beq i id with
  |true=>some (.out .normal,k,env,H)
  |false=>some (.out (.exit i),k,env,H)
 |.out .ret,.blo _::k,env,H=>some (.out .ret,k,env,H)
 |.out .normal,.unr c::k,env,H=>some (.code c,.unr c::k,env,H)
 |.out (.exit i),.unr _::k,env,H=>some (.out (.exit i),k,env,H)
 |.out .ret,.unr _::k,env,H=>some (.out .ret,k,env,H)
 |_,_,_,_=>none
def Qjj(T:TyX)(h0 N:Nat):Nat->Cf->List Kf->Env->Qd->Option (Cf×List Kf×Env×Qd)
 |0,c,k,env,H=>some (c,k,env,H)
 |n+1,c,k,env,H=>match Qf8 T h0 N c k env H with
  |some (c',k',env',H')=>Qjj T h0 N n c' k' env' H'
  |none=>none
section
variable {P:Program} {T:TyX} {h0 N:Nat} {Q:QB}
theorem Qmb(d:QbK P T){c b:Cf}{k a:List Kf}{env env':Env}{H H':Qd}(h:Qf8 T h0 N c k env H=some (b,a,env',H'))(g:Hd P h0 N b a env' H' Q):Hd P h0 N c k env H Q:=by
 unfold Qf8 at h;split at h
 .cases h;exact TC.seq g
 .cases h;exact TC.block g
 .cases h;exact QlD g
 .cases h;exact TC.skip g
 .cases h;exact TC.ret g
 .cases h;exact TC.exit g
 .cases h;exact TC.region g
 .split at h
  .rename_i q;cases h;exact QiW (QE q) rfl g
  .rename_i q;cases h;exact QfI (QE q) rfl g
  .cases h
 .cases h;exact WO.nil g
 .split at h
  .rename_i q;cases h;exact Qme d q g
  .cases h
 .cases h;exact Qmk g
 .cases h;exact seqX g
 .cases h;exact seqR g
 .cases h;exact bloN g
 .split at h
  .rename_i q;cases h;have:=XU q;subst this;exact bloE g
  .rename_i q;cases h;exact bloX q g
 .cases h;exact bloR g
 .cases h;exact unrN g
 .cases h;exact unrX g
 .cases h;exact unrR g
 .cases h
theorem QcR(hT:QbK P T):∀(n:Nat) {c c':Cf} {k k':List Kf} {env env':Env} {H H':Qd},Qjj T h0 N n c k env H=some (c',k',env',H')->Hd P h0 N c' k' env' H' Q->Hd P h0 N c k env H Q
 |0,c,c',k,k',env,env',H,H',h,g=>by cases h;exact g
 |n+1,c,c',k,k',env,env',H,H',h,g=>by
  unfold Qjj at h;split at h
  .rename_i e;exact Qmb hT e (QcR hT n h g)
  .cases h
theorem Qkf{env:Env}{s:Nat}{a:A}(h:lk env s=a):∀t,lk (up env s a) t=lk env t:=by
 intro t;simp only[up,lk];cases q:Nat.beq t s with
 |true=>have:=XU q;subst this;exact h.symm
 |false=>rfl
theorem Is{α:Type}{all:Array Oper}{l:List Oper}{env:Env}{H:Qd}{b:Bool}{x y:Option α}{r:α}(s:Nat)(h:(bif b then x else y)=some r)(d:lkB env s=.mk (.bool b))
  (t:b=true->x=some r->WO P h0 N all l (up env s (.bool true)) H Q)(e:b=false->y=some r->WO P h0 N all l (up env s (.bool false)) H Q):WO P h0 N all l env H Q:=by
 have a:=Qjt d;cases b with
 |true=>exact WO.le (Le.env λt=>.inr (Qkf a t)) (t rfl h)
 |false=>exact WO.le (Le.env λt=>.inr (Qkf a t)) (e rfl h)
theorem Ct3E{S B1:Type}{A B C:Code}{env:Env}{H:Qd}{k:List Kf}{b:Ctl S B1}(Eb:S->Env)(Hb:S->Qd)(h:TC P h0 N A env H (kq P h0 N [.seq B] (QfW h0 b Eb Hb (kq P h0 N (.seq C::k) Q))))(g:∀s env H,b=.cont s->Le h0 env H (Eb s) (Hb s)->kq P h0 N (.seq C::k) Q .normal env H):TC P h0 N (.seq A (.seq B C)) env H (kq P h0 N k Q):=
 QnJ Eb Hb h g
end
def dstN(o:Oper)(i:Nat):Nat:=match o.dst with|some d=>d|none=>1000000+i
def Qbj:Nat->Nat->List Oper->List Nat
 |0,_,_=>[]
 |_+1,_,[]=>[]
 |m+1,i,o::l=>dstN o i::Qbj m (i+1) l
def Yc(af:List Nat):Nat->List Nat->List A->Env->Env
 |j,d::ds,x::xs,e=>(d,bif QdC af j then x else .any)::Yc af (j+1) ds xs e
 |j,d::ds,[],e=>(d,.any)::Yc af (j+1) ds [] e
 |_,[],_,e=>e
theorem QfX{l:List Nat}{t:Nat}:QdC l t=l.contains t:=by
 induction l with
 |nil=>rfl
 |cons a r d=>
  unfold QdC;rw[List.contains_cons,d];cases q:Nat.beq a t with
  |true=>have:=XU q;subst this;simp
  |false=>
   have b:t≠a:=λz=>by subst z;rw[VJ]at q;cases q
   simp[b]
theorem QkJ{af:List Nat}{env0:Env}{s:Nat}:∀(a:List Nat) (xs g:List A) (b:Nat),
  (∃(j:Nat) (x:A),af.contains (b+j)=true/\a[j]?=some s/\(xs++g)[j]?=some x/\lk (Yc af b a xs env0) s=x)\/lk (Yc af b a xs env0) s=.any\/(a.contains s=false/\lk (Yc af b a xs env0) s=lk env0 s):=by
 intro a
 induction a with
 |nil=>intro xs g b;right;right;exact⟨rfl,by cases xs<;>rfl⟩
 |cons d a n=>
  intro xs g b;have next:∀(e:List A),(∃(j:Nat) (x:A),af.contains (b+1+j)=true/\a[j]?=some s/\(e++g)[j]?=some x/\lk (Yc af (b+1) a e env0) s=x)->∀m,(∃(j:Nat) (x:A),af.contains (b+j)=true/\(d::a)[j]?=some s/\(m::e++g)[j]?=some x/\lk (Yc af (b+1) a e env0) s=x):=by
   rintro e ⟨j,x,i,k,l,p⟩ m;exact⟨j+1,x,by rw[show b+(j+1)=b+1+j by omega];exact i,by simpa using k,by simpa using l,p⟩
  cases xs with
  |nil=>
   cases q:Nat.beq s d with
   |true=>right;left;simp only[Yc,lk,q,Vt]
   |false=>
    have f:s≠d:=λz=>by subst z;rw[VJ]at q;cases q
    simp only[Yc,lk,q,Vu];rcases n [] [] (b+1)with⟨j,x,i,k,l,p⟩|h|⟨i,k⟩
    .simp at l
    .exact .inr (.inl h)
    .exact .inr (.inr ⟨by rw[List.contains_cons,i];simpa using f,k⟩)
  |cons x xs=>
   cases q:Nat.beq s d with
   |true=>
    have:=XU q;subst this;simp only[Yc,lk,q,Vt];cases c:QdC af b with
    |true=>left;exact⟨0,x,by rw[<- QfX];exact c,rfl,rfl,rfl⟩
    |false=>right;left;rfl
   |false=>
    have f:s≠d:=λz=>by subst z;rw[VJ]at q;cases q
    simp only[Yc,lk,q,Vu];rcases n xs g (b+1)with h|h|⟨i,k⟩
    .exact .inl (next xs h x)
    .exact .inr (.inl h)
    .exact .inr (.inr ⟨by rw[List.contains_cons,i];simpa using f,k⟩)
section
variable {P:Program} {T:TyX} {h0 N m:Nat} {l:List Oper} {ds:List Nat} {env:Env} {H:Qd} {Q:QB} {K:List Oper->Env->Qd->Prop}
def DS(P:Program)(N m:Nat)(l:List Oper)(ds:List Nat)(env:Env)(H:Qd)(K:List Oper->Env->Qd->Prop)(r:List Oper)(xs:List A):Prop:=
 r=l.drop xs.length->∃ys,xs.length+ys.length=m/\(∀j,xs.length<=j->j<m->JF P N l ds (xs++ys) env H.length H.length j H H)/\K (l.drop m) (Qaw ds (xs++ys) env) H
theorem oqOf{xs:List A}:∀(c i:Nat),(∀j,i<=j->j<i+c->JF P N l ds xs env H.length H.length j H H)->Oq P N l ds xs env H i c
 |0,i,_=>.n
 |c+1,i,h=>.c (h i (XX _) (by omega)) (oqOf c (i+1) λj h1 h2=>h j (by omega) (by omega))
theorem Qn5{id:Nat}{k:List Kf}(m:Nat)(n:P.follows .mixedOrders=true)(i:Go.Sw.draw0 l m N (Qbj m 0 l)=true)(a:Nat.ble h0 H.length=true)
  (h:DS P N m l (Qbj m 0 l) env H (λr e H=>WO P h0 N l.toArray r e H Q) l []):TC P h0 N (.region id l.toArray true) env H Q:=by
 obtain⟨g,b,f,d⟩:=h rfl;simp only[List.length_nil,Xy,Vl]at b f d;exact TC.draw0 m _ g n i (by rw[b];exact VJ m) a (oqOf m 0 λj _ q=>f j (XY _) (by omega)) d
theorem DS.done{xs:List A}{r:List Oper}(b:Nat.beq xs.length m=true)(h:K r (Qaw ds xs env) H):DS P N m l ds env H K r xs:=by
 intro a;have e:=XU b;subst a;refine⟨[],by simpa using e,λj f d=>by omega,?_⟩;rw[<- e,Vk];exact h
theorem DS.add{xs:List A}{o:Oper}{r:List Oper}{x:A}(i:Nat.blt xs.length m=true)(h:∀ys,l[xs.length]?=some o->JF P N l ds (xs++x::ys) env H.length H.length xs.length H H)(k:DS P N m l ds env H K r (xs++[x])):DS P N m l ds env H K (o::r) xs:=by
 intro b;have a:xs.length<l.length:=by
  rcases VG xs.length l.length with q|q
  .exact q
  .rw[List.drop_eq_nil_of_le q]at b;cases b
 rw[Xr a]at b;cases b;obtain⟨ys,f,e,d⟩:=k (by simp);simp only[X7,X5,List.length_nil,Vm,VO,Vl]at f e d;refine⟨x::ys,by simp only[X5];omega,λj n g=>?_,d⟩;rcases VG xs.length j with q|q
 .exact e j (by omega) g
 .obtain rfl:j=xs.length:=by omega
  exact h ys (XO a)
theorem Qij{xs a:List A}{x:A}:(xs++x::a)[xs.length]?=some x:=by simp
theorem DS.wo{xs:List A}{o:Oper}{r:List Oper}{x:A}{d:Nat}(h:WO P H.length N l.toArray [o] (Yc (Qi o) 0 ds xs env) H (Y6 (up (Yc (Qi o) 0 ds xs env) d x) H))(k:DS P N m l ds env H K r (xs++[x]))
  (i:o.dst=some d:=by exact rfl)(hx:Nat.blt xs.length m=true:=by exact rfl):DS P N m l ds env H K (o::r) xs:=
 .add hx (λb n=>.woE o _ d x n i Qij (he:=by
  intro s;rcases QkJ (af:=Qi o) (env0:=env) (s:=s) ds xs (x::b) 0 with⟨j,y,a,e,f,g⟩|q|q
  .rw[Xy]at a;exact .inl ⟨j,y,a,e,f,g⟩
  .exact .inr (.inl q)
  .exact .inr (.inr q)) (hdd:=Qd9 H) (h:=h)) k
theorem DS.v{xs:List A}{o:Oper}{r:List Oper}{x:A}{d:Nat}(h:OpV P o (Yc (Qi o) 0 ds xs env) H x)(k:DS P N m l ds env H K r (xs++[x]))(hg:Qp l.toArray o (Yc (Qi o) 0 ds xs env) true:=by exact rfl)
  (hd:o.dst=some d:=by exact rfl)(hN:Nat.blt d N=true:=by exact rfl)(hx:Nat.blt xs.length m=true:=by exact rfl):DS P N m l ds env H K (o::r) xs:=
 .wo (QF hg hd hN h (WO.nil Y6.mk)) k hd hx
def QcG:List A->A->FL
 |[],x=>.mk [x]
 |a::r,x=>match QcG r x with
  |.mk r'=>.mk (a::r')
theorem Jc:∀(l:List A) (x:A),QcG l x=.mk (l++[x])
 |[],x=>rfl
 |a::r,x=>by unfold QcG;rw[Jc r];rfl
def QhY(T:TyX)(N m:Nat)(l:List Oper)(ds:List Nat)(env:Env)(H:Qd):Nat->Nat->List Oper->List A->Option (List Oper×List A)
 |0,_,r,xs=>some (r,xs)
 |_+1,_,[],_=>none
 |n+1,i,o::r,xs=>match Nat.blt i m with
  |false=>none
  |true=>match o.dst with
   |none=>none
   |some d=>match Nat.blt d N with
    |false=>none
    |true=>match YW ⟨l⟩ o (Yc (Qi o) 0 ds xs env)with
     |none=>none
     |some false=>match QcG xs (.tup [])with
      |.mk xs'=>QhY T N m l ds env H n (i+1) r xs'
     |some true=>match Qdo T o (Yc (Qi o) 0 ds xs env) H with
      |none=>none
      |some x=>match QcG xs x with
       |.mk xs'=>QhY T N m l ds env H n (i+1) r xs'
theorem QeO(hT:QbK P T):∀(n i:Nat) {r r':List Oper} {xs xs':List A},i=xs.length->QhY T N m l ds env H n i r xs=some (r',xs')->DS P N m l ds env H K r' xs'->DS P N m l ds env H K r xs
 |0,i,r,r',xs,xs',_,h,k=>by cases h;exact k
 |n+1,i,[],r',xs,xs',_,h,k=>by cases h
 |n+1,i,o::r,r',xs,xs',hi,h,k=>by
  subst hi;unfold QhY at h;split at h
  .cases h
  .rename_i q1;split at h
   .cases h
   .rename_i d hd;split at h
    .cases h
    .rename_i q2;split at h
     .cases h
     .rename_i hw;simp only[Jc]at h;exact .wo (WO.skip (QP hw) hd q2 (WO.nil Y6.mk)) (QeO hT n _ (by simp) h k) hd q1
     .rename_i hw;split at h
      .cases h
      .rename_i x hv;simp only[Jc]at h;exact .v (Qay hT hv) (QeO hT n _ (by simp) h k) (QP hw) hd q2 q1
def Qmi:List A->Nat->A->FL
 |[],_,_=>.mk []
 |_::r,0,x=>.mk (x::r)
 |a::r,n+1,x=>match Qmi r n x with
  |.mk r'=>.mk (a::r')
theorem Qdr:∀{l:List A} {n:Nat} {x:A},YU l n=some x->Qmi l n x=.mk l
 |[],n,x,h=>by cases h
 |a::r,0,x,h=>by cases h;rfl
 |a::r,n+1,x,h=>by unfold Qmi;rw[Qdr (l:=r) (n:=n) h]
theorem QkY{α:Type}{b:Bool}{x y:Option α}{v:α}{xs d i:List A}{r:List Oper}(j:Nat)(h:(bif b then x else y)=some v)(a:YU xs j=some (.bool b))(f:Qmi xs j (.bool true)=.mk d)(g:Qmi xs j (.bool false)=.mk i)
  (t:b=true->x=some v->DS P N m l ds env H K r d)(e:b=false->y=some v->DS P N m l ds env H K r i):DS P N m l ds env H K r xs:=by
 cases b with
 |true=>rw[Qdr a]at f;cases f;exact t rfl h
 |false=>rw[Qdr a]at g;cases g;exact e rfl h
end
end Go.Sw
namespace Go.Sw
@[reducible] def RQ{β:Type}(w:β->A)(Hc:β->Qd)(r:β):A->Qd->Prop:=λa H=>a=w r/\H=Hc r
@[reducible] def Csm{β:Type}(P:Program)(f:FuncId)(args:List A)(H:Qd)(w:β->A)(r:β):Prop:=C P f args H (RQ w (λ_=>H) r)
structure TyZ where
 sl:List (Nat×Nat×Nat)
 fn:List Nat
structure Qda (P:Program) (Z:TyZ):Prop where
 sl:∀e∈Z.sl,(∀w,(underlying e.1).run P w=.ok (.slice e.2.1) w)/\ ∀w,(sizeOf e.2.1).run P w=.ok e.2.2 w
 fn:∀f∈Z.fn,∀(a:Array Value) (w:World),(callFunc f a).run P w=.ok (.enter f a) w
section
variable {P:Program} {Z:TyZ} {h0 N:Nat} {all:Array Oper} {o:Oper} {l:List Oper} {env:Env} {H:Qd} {Q:QB} {d:Nat}
theorem Izz(b:Qda P Z){α:Type}{e:α->List A}{t et k:Nat}{L:List α}{m:IntKind}{i:Int}{v:α}(h:idx L i=some v)(q:ixB o env=some (d,t,k,L.map e,m,i))(g:WO P h0 N all l (up env d (.rp (e v))) H Q)
  (j:Qci Z.sl t=some (et,k))(hg:YW all o env=some true)(a:Nat.blt d N=true):WO P h0 N all (o::l) env H Q:=by
 obtain⟨f,n⟩:=b.sl _ (Qaz j);exact Ix h f n q g (QP hg) a
theorem Ize(b:Qda P Z){α:Type}{e:α->List A}{t et k:Nat}{L:List α}{j:IntKind}{i:Int}{v:α}{cs:List A}(h:idx L i=some v)(he:e v=cs)(q:ixB o env=some (d,t,k,L.map e,j,i))(g:WO P h0 N all l (up env d (.rp cs)) H Q)
  (f:Qci Z.sl t=some (et,k))(hg:YW all o env=some true)(a:Nat.blt d N=true):WO P h0 N all (o::l) env H Q:=by
 subst he;exact Izz b h q g f hg a
theorem Lmz(b:Qda P Z){α:Type}{e:α->List A}{t et k i:Nat}{L:List α}(q:lnB o env=some (d,t,.mk (.rsl k (L.map e))))(g:WO P h0 N all l (up env d (.int .i64 L.length)) H Q)
  (h:Qci Z.sl t=some (et,i))(hg:YW all o env=some true)(a:Nat.blt d N=true):WO P h0 N all (o::l) env H Q:=by
 obtain⟨f,j⟩:=b.sl _ (Qaz h);exact LnM f q g (QP hg) a
def Qf3(Z:TyZ)(o:Oper)(env:Env):Option (Nat×Nat×List A):=
 match o.dst with
 |none=>none
 |some d=>match o.op with
  |.call {callee:=.value (.func f),args:=⟨xs⟩,argTypes:=_}=>bif QdC Z.fn f then(match fl (Qia env xs)with|.mk ax=>some (d,f,ax))else none
  |.call {callee:=.value (.tmp x),args:=⟨xs⟩,argTypes:=_}=>match opB env (.tmp x)with
   |.mk (.fn (.func f) vf vc)=>bif QdC Z.fn f then(match fl (vf++(Qia env xs++vc))with|.mk ax=>some (d,f,ax))else none
   |_=>none
  |_=>none
theorem Qey(e:Qda P Z){f:Nat}{args:List A}(h:Qf3 Z o env=some (d,f,args)):o.dst=some d/\OpC P o env H f args:=by
 unfold Qf3 at h;split at h
 .cases h
 .rename_i l g;split at h
  .rename_i a xs i b;cases q:QdC Z.fn a with
   |false=>rw[q]at h;cases h
   |true=>
    rw[q]at h;simp only[Qco,Vt]at h;cases h;exact⟨g,OpC.fn (xs:=xs) (e.fn _ (Qhb q)) b rfl (QcV xs).symm⟩
  .rename_i x xs i b;split at h
   .rename_i a k m j;cases q:QdC Z.fn a with
    |false=>rw[q]at h;cases h
    |true=>
     rw[q]at h;simp only[Qco,Vt]at h;cases h;exact⟨g,QaG (xs:=xs) (e.fn _ (Qhb q)) b rfl (QE j) (by rw[QcV])⟩
   .cases h
  .cases h
theorem Czz(i:Qda P Z){β γ:Type}{F:Option β}{F':β->Option γ}{r:γ}{f:Nat}{args a:List A}{Hc:Qd}{w:β->A}(π:List Nat)(h:F.bind F'=some r)(j:∀v,F=some v->C P f a Hc (RQ w (λ_=>Hc) v))
  (b:Qf3 Z o env=some (d,f,args))(g:∀v,F=some v->F' v=some r->WO P h0 N all l (up env d (w v)) H Q)(q:∀v,Qjh (w v)=some (.mk (w v)))
  (hargs:args=Qaa (rho π H.length) a)(hH:π.map (λp=>H[p]?)=(Hc.map (QU (rho π H.length))).map some)(hπ:π.Nodup)(hg:YW all o env=some true)(s:Nat.blt d N=true)(k:Nat.ble h0 H.length=true):WO P h0 N all (o::l) env H Q:=by
 obtain⟨v,e,m⟩:=Ju h;obtain⟨t,n⟩:=Qey (H:=H) i b;exact Pc π t n (j v e) (q v) (g v e m) hargs hH hπ (QP hg) s k
theorem DzZ(n:Qda P Z){K:List Oper->Env->Qd->Prop}{m:Nat}{e:List Oper}{b:List Nat}{xs:List A}{β γ:Type}{F:Option β}{F':β->Option γ}{r:γ}{f:Nat}{args a:List A}{Hc:Qd}{w:β->A}(π:List Nat)(h:F.bind F'=some r)(q:∀v,F=some v->C P f a Hc (RQ w (λ_=>Hc) v))
  (i:Qf3 Z o (Yc (Qi o) 0 b xs env)=some (d,f,args))(g:∀v,F=some v->F' v=some r->DS P N m e b env H K l (xs++[w v]))(u:∀v,Qjh (w v)=some (.mk (w v)))
  (hargs:args=Qaa (rho π H.length) a)(hH:π.map (λp=>H[p]?)=(Hc.map (QU (rho π H.length))).map some)(hπ:π.Nodup)(hg:YW e.toArray o (Yc (Qi o) 0 b xs env)=some true)(x:Nat.blt d N=true)(y:Nat.blt xs.length m=true):DS P N m e b env H K (o::l) xs:=by
 obtain⟨v,j,s⟩:=Ju h;obtain⟨k,t⟩:=Qey (H:=H) n i;exact .wo (Pc π k t (q v j) (u v) (WO.nil Y6.mk) hargs hH hπ (QP hg) x (XW (XX _))) (g v j s) k y
theorem ln:Qbo H [] []:=trivial
theorem ls{ax b:List A}{a:A}(k:Qbo H ax b)(h:Yn a=true:=by exact rfl):Qbo H (a::ax) (a::b):=⟨.inl ⟨rfl,h⟩,k⟩
theorem lo{ax a:List A}{i n k t:Nat}{es:List (List A)}(b:Qbo H ax a)(hH:H[i]?=some (.row t k es):=by exact rfl)(hn:es.length=n:=by exact X6 ..):Qbo H (.osl i 0 n k::ax) (.rsl k es::a):=
 ⟨.inr ⟨_,_,_,_,_,rfl,hH,hn,rfl⟩,b⟩
theorem Cbz(i:Qda P Z){β γ:Type}{F:Option β}{F':β->Option γ}{r:γ}{f:Nat}{args a:List A}{w:β->A}(h:F.bind F'=some r)(j:∀v,F=some v->C P f a [] (RQ w (λ_=>[]) v))
  (b:Qf3 Z o env=some (d,f,args))(p:Qbo H args a)(g:∀v,F=some v->F' v=some r->WO P h0 N all l (up env d (w v)) H Q)(n:∀v,Yl (w v)=true)
  (hg:YW all o env=some true)(q:Nat.blt d N=true):WO P h0 N all (o::l) env H Q:=by
 obtain⟨v,e,k⟩:=Ju h;obtain⟨s,m⟩:=Qey (H:=H) i b;refine Qc9 m p (j v e) ?_ ?_ (QP hg) s q
 .rintro _ _ ⟨rfl,rfl⟩;exact n v
 .rintro _ _ ⟨rfl,rfl⟩;exact g v e k
end
def ixL:List Nat:=[0,1,2,3,4,5,6,7,8,9,10,11,12,13,14,15,16,17,18,19,20,21,22,23,24,25,26,27,28,29,30,31,32,33,34,35,36,37,38,39,40,41,42,43,44,45,46,47,48,49,50,51,52,53,54,55,56,57,58,59,60,61,62,63]
def Qk6:List Nat->List Nat->Nat->FN
 |a::r,b::s,j=>bif Nat.beq a j then .mk b else Qk6 r s j
 |_,_,j=>.mk j
mutual
def cpA(sel:List Nat):A->Bx
 |.ptr i off=>match Qk6 sel ixL i with
  |.mk j=>.mk (.ptr j off)
 |.osl i o n k=>match Qk6 sel ixL i with
  |.mk j=>.mk (.osl j o n k)
 |.map i=>match Qk6 sel ixL i with
  |.mk j=>.mk (.map j)
 |.fn f a c=>match cpL sel a,cpL sel c with
  |.mk a',.mk c'=>.mk (.fn f a' c')
 |a=>.mk a
def cpL(sel:List Nat):List A->FL
 |[]=>.mk []
 |a::r=>match cpA sel a,cpL sel r with
  |.mk a',.mk r'=>.mk (a'::r')
end
inductive FV where
 |mk (e:Env)
def QmT(sel:List Nat)(env:Env):List Nat->Env->FV
 |[],nE=>.mk nE
 |s::r,nE=>match lkB env s with
  |.mk a=>match cpA sel a,QmT sel env r nE with
   |.mk a',.mk e=>.mk ((s,a')::e)
def selH(H:Qd):List Nat->List Nat->List (Nat×Blk)->FB
 |a::r,p::ps,[]=>match YU H a,selH H r ps []with
  |some b,.mk l=>.mk (b::l)
  |none,.mk l=>.mk l
 |a::r,p::ps,(q,b)::n=>bif Nat.beq p q then(match selH H r ps n with|.mk l=>.mk (b::l))else(match YU H a,selH H r ps ((q,b)::n)with
  |some b,.mk l=>.mk (b::l)
  |none,.mk l=>.mk l)
 |_,_,_=>.mk []
def Qnt(sel keep:List Nat)(nE:Env)(nH:List (Nat×Blk))(env:Env)(H:Qd):Option (Env×Qd):=
 match QmT sel env keep nE,selH H sel ixL nH with
 |.mk e,.mk h=>some (e,h)
section
variable {P:Program} {h0 N:Nat} {c:Code} {env:Env} {H:Qd} {Q:QB}
def CutQ{β:Type}(h0:Nat)(b:β)(E':β->Env)(H':β->Qd)(Q:QB):QB
 |.normal,env,H=>Le h0 env H (E' b) (H' b)
 |.exit id,env,H=>Q (.exit id) env H
 |.ret,env,H=>Q .ret env H
theorem QG{h0:Nat}{env:Env}{H:Qd}{Q:QB}{β:Type}{b:β}{E':β->Env}{H':β->Qd}(h:Le h0 env H (E' b) (H' b)):CutQ h0 b E' H' Q .normal env H:=h
theorem Ct{β:Type}{E':β->Env}{H':β->Qd}(b:β)(sel keep:List Nat)(nE:β->Env)(nH:β->List (Nat×Blk))(_:∀b,Qnt sel keep (nE b) (nH b) env H=some (E' b,H' b))(h:TC P h0 N c env H (CutQ h0 b E' H' Q))(k:∀env H,Le h0 env H (E' b) (H' b)->Q .normal env H):TC P h0 N c env H Q:=
 h.mono λx env' H' q=>by
  cases x with
  |normal=>exact k _ _ q
  |exit id=>exact q
  |ret=>exact q
theorem CtE{S B:Type}{b:Ctl S B}{E':S->Env}{H':S->Qd}(sel keep:List Nat)(nE:S->Env)(nH:S->List (Nat×Blk))(_:∀s,Qnt sel keep (nE s) (nH s) env H=some (E' s,H' s))(h:TC P h0 N c env H (QfW h0 b E' H' Q))(k:∀s env H,b=.cont s->Le h0 env H (E' s) (H' s)->Q .normal env H):TC P h0 N c env H Q:=Qhy E' H' h k
theorem Lp{S B:Type}{step:S->Option (Ctl S B)}{E':S->Env}{H':S->Qd}{m:Nat}{s0:S}{b0:B}(sel keep:List Nat)(nE:S->Env)(nH:S->List (Nat×Blk))(h:iter step m s0=some b0)(_:∀s,Qnt sel keep (nE s) (nH s) env H=some (E' s,H' s))(hI:Le h0 env H (E' s0) (H' s0))
  (body:∀s d,step s=some d->(∀b,d=.done b->b=b0)->TC P h0 N c (E' s) (H' s) (Qbn (λs env H=>Le h0 env H (E' s) (H' s)) d Q)):TC P h0 N (.loop c) env H Q:=TC.loop E' H' h hI body
end
theorem Oj{S B:Type}{d:Ctl S B}{x b0:B}(hb:∀b,d=.done b->b=b0)(h:some (Ctl.done x)=some d):x=b0:=hb x (Oi h).symm
theorem Rt{P:Program}{h0:Nat}{fn:Func}{env:Env}{H:Qd}{β:Type}{e r:β}{w:β->A}{Hc:β->Qd}(h:some e=some r)(s:Nat)(π:List Nat)(a:fn.results= #[.tmp s]:=by exact rfl)(hpre:π.take h0=List.range h0:=by exact rfl)
  (hH:π.map (λp=>H[p]?)=((Hc e).map (QU (rho π H.length))).map some:=by exact rfl)(hπ:π.Nodup:=by decide)(hE:Qef (rho π H.length) env [(s,w e)]:=by exact⟨rfl,trivial⟩):Qde P h0 fn (RQ w Hc r) .ret env H:=by
 cases h;exact R1 s a (Lr π hpre hH hπ hE)
theorem Cl{h0:Nat}{env:Env}{H:Qd}{Q:QB}{β:Type}{e b:β}{E':β->Env}{H':β->Qd}(h:some e=some b)(π:List Nat)(a:π.take h0=List.range h0:=by exact rfl)
  (hH:π.map (λp=>H[p]?)=((H' e).map (QU (rho π H.length))).map some:=by exact rfl)(hπ:π.Nodup:=by decide)(hE:Qef (rho π H.length) env (E' e):=by(repeat' (first|exact trivial|refine⟨rfl,?_⟩))):CutQ h0 b E' H' Q .normal env H:=by
 cases h;exact Lr π a hH hπ hE
end Go.Sw
namespace Go.Sw
def plC(cat:List Nat):List (List (Nat×Nat)):=cat.map λc=>match c with|0=>[(0,0)]|1=>[(0,1)]|2=>[(1,1)]|_=>[(0,0),(1,1)]
def rqC(b:Nat)(cat:List Nat):List (List Nat):=cat.map λc=>match c with|2=>[b]|_=>[]
def hsC(cat:List Nat):List Bool:=cat.map λc=>match c with|1=>true|_=>false
section
variable {P:Program} {T:TyX} {h0 N m b:Nat} {cat:List Nat} {l:List Oper} {ds:List Nat} {env:Env} {H H1:Qd} {Q:QB} {K:List Oper->Env->Qd->Prop}
theorem QhE{P:Program}{N:Nat}{l:List Oper}{ds:List Nat}{xs:List A}{env0:Env}{hB hE:Nat}:∀(ss:List (List (Qd×Qd))) (b:Nat),(∀i s,ss[i]?=some s->∀p∈s,JF P N l ds xs env0 hB hE (b+i) p.1 p.2)->QhF P N l ds xs env0 hB hE b ss
 |[],b,h=>.nil
 |s::ss,b,h=>.cons (h 0 s rfl) (QhE ss (b+1) λi s' hs=>by rw[show b+1+i=b+(i+1)by omega];exact h (i+1) s' hs)
def Dob(P:Program)(N:Nat)(cat:List Nat)(l:List Oper)(ds:List Nat)(env:Env)(H H1:Qd)(zs:List A)(j:Nat):Prop:=
 ∀p∈(plC cat).getD j [],JF P N l ds zs env H.length H.length j ([H,H1].getD p.1 []) ([H,H1].getD p.2 [])
def DB(P:Program)(N m:Nat)(cat:List Nat)(l:List Oper)(ds:List Nat)(env:Env)(H H1:Qd)(K:List Oper->Env->Qd->Prop)(r:List Oper)(xs:List A):Prop:=
 r=l.drop xs.length->∃ys,xs.length+ys.length=m/\(∀j,xs.length<=j->j<m->Dob P N cat l ds env H H1 (xs++ys) j)/\K (l.drop m) (Qaw ds (xs++ys) env) H1
def DA(P:Program)(N m:Nat)(cat:List Nat)(l:List Oper)(ds:List Nat)(env:Env)(H:Qd)(K:List Oper->Env->Qd->Prop)(r:List Oper)(xs:List A):Prop:=
 r=l.drop xs.length->∃ys H1,xs.length+ys.length=m/\H.length<=H1.length/\(∀j,xs.length<=j->j<m->Dob P N cat l ds env H H1 (xs++ys) j)/\K (l.drop m) (Qaw ds (xs++ys) env) H1
theorem Qqh{f:List A}(a:cat.length=m)(h:∀j,0<=j->j<m->Dob P N cat l ds env H H1 f j):QhF P N l ds f env H.length (H.length+0) 0 ((plC cat).map λq=>q.map λp=>([H,H1].getD p.1 [],[H,H1].getD p.2 [])):=by
 refine QhE _ 0 λi s b p g=>?_;rw[Xq]at b;cases e:(plC cat)[i]? with
 |none=>rw[e]at b;cases b
 |some q=>
  rw[e]at b;cases b;obtain⟨k,d,rfl⟩:=Xf.1 g;have n:i<m:=by
   have:=(XP.1 e).1;simpa[plC,a]using this
  have:=h i (XY _) n k (by rw[QkB e];exact d);simpa using this
theorem DA.len(a:H.length<=H1.length):[H,H1].all (λX=>Nat.ble (H.length+0) X.length)=true:=by
 simp only[List.all_cons,List.all_nil,Bool.and_true,Xz,X0];exact⟨XW (XX _),XW a⟩
theorem Qn8{id:Nat}(m b:Nat)(cat:List Nat)(p:P.follows .mixedOrders=true)(n:Qd8 l m N (Qbj m 0 l) (hsC cat) (rqC b cat) [[],[b]] (plC cat)=true)(d:Nat.beq cat.length m=true)(f:Nat.ble h0 H.length=true)
  (h:DA P N m cat l (Qbj m 0 l) env H (λr e H=>WO P h0 N l.toArray r e H Q) l []):TC P h0 N (.region id l.toArray true) env H Q:=by
 obtain⟨k,H1,g,q,i,j⟩:=h rfl;simp only[List.length_nil,Xy,Vl]at g i j;have a:=XU d;exact YX m 0 _ _ _ _ _ k [H,H1] H1 p n (by rw[g];exact VJ m) rfl f (DA.len q) (by simp) rfl (Qqh a i) (by simp[plC,a]) j
theorem Qbk{xs:List A}{o:Oper}{r:List Oper}(b:o::r=l.drop xs.length):l[xs.length]?=some o/\r=l.drop (xs.length+1):=by
 have a:xs.length<l.length:=by
  rcases VG xs.length l.length with q|q
  .exact q
  .rw[List.drop_eq_nil_of_le q]at b;cases b
 rw[Xr a]at b;cases b;exact⟨XO a,rfl⟩
theorem QhL{zs:List A}{j c:Nat}(b:YU cat j=some c)(h:∀p∈(match c with|0=>[(0,0)]|1=>[(0,1)]|2=>[(1,1)]|_=>[(0,0),(1,1)]:List (Nat×Nat)),JF P N l ds zs env H.length H.length j ([H,H1].getD p.1 []) ([H,H1].getD p.2 [])):Dob P N cat l ds env H H1 zs j:=by
 intro p a;rw[QaF]at b;unfold plC at a;rw[VP,Xq,b]at a;exact h p a
theorem QaC{hB hE:Nat}{xs a:List A}{o:Oper}{x:A}{d:Nat}{X X':Qd}(k:l[xs.length]?=some o)(hdd:Qau hB hE X X'=true)(h:WO P X.length N l.toArray [o] (Yc (Qi o) 0 ds xs env) X (Y6 (up (Yc (Qi o) 0 ds xs env) d x) X'))(i:o.dst=some d):
  JF P N l ds (xs++x::a) env hB hE xs.length X X':=
 .woE o _ d x k i Qij (he:=by
  intro s;rcases QkJ (af:=Qi o) (env0:=env) (s:=s) ds xs (x::a) 0 with⟨j,y,b,e,f,g⟩|q|q
  .rw[Xy]at b;exact .inl ⟨j,y,b,e,f,g⟩
  .exact .inr (.inl q)
  .exact .inr (.inr q)) (hdd:=hdd) (h:=h)
theorem Jb{n:Nat}{X X':Qd}:Qau n n X X'=true:=by unfold Qau;rw[Nat.sub_self];rfl
theorem DA.wo{xs:List A}{o:Oper}{r:List Oper}{x:A}{d:Nat}(h:WO P H.length N l.toArray [o] (Yc (Qi o) 0 ds xs env) H (Y6 (up (Yc (Qi o) 0 ds xs env) d x) H))(k:DA P N m cat l ds env H K r (xs++[x]))
  (i:YU cat xs.length=some 0:=by exact rfl)(hd:o.dst=some d:=by exact rfl)(hx:Nat.blt xs.length m=true:=by exact rfl):DA P N m cat l ds env H K (o::r) xs:=by
 intro s;obtain⟨w,a⟩:=Qbk s;obtain⟨f,H1,g,t,b,e⟩:=k (by simpa using a);simp only[X7,X5,List.length_nil,Vm,VO,Vl]at g b e;refine⟨x::f,H1,by simp only[X5];omega,t,λj y u=>?_,e⟩;rcases VG xs.length j with q|q
 .exact b j (by omega) u
 .obtain rfl:j=xs.length:=by omega
  refine QhL i λp n=>?_;obtain rfl:=VF.1 n;exact QaC w Jb h hd
theorem DA.op{xs:List A}{o:Oper}{r:List Oper}{x:A}{d:Nat}(h:WO P H.length N l.toArray [o] (Yc (Qi o) 0 ds xs env) H (Y6 (up (Yc (Qi o) 0 ds xs env) d x) H1))(k:DB P N m cat l ds env H H1 K r (xs++[x]))(hl:Nat.ble H.length H1.length=true:=by exact rfl)
  (hc:YU cat xs.length=some 1:=by exact rfl)(hd:o.dst=some d:=by exact rfl)(hx:Nat.blt xs.length m=true:=by exact rfl):DA P N m cat l ds env H K (o::r) xs:=by
 intro n;obtain⟨t,a⟩:=Qbk n;obtain⟨f,g,b,e⟩:=k (by simpa using a);simp only[X7,X5,List.length_nil,Vm,VO,Vl]at g b e;refine⟨x::f,H1,by simp only[X5];omega,XV hl,λj u s=>?_,e⟩;rcases VG xs.length j with q|q
 .exact b j (by omega) s
 .obtain rfl:j=xs.length:=by omega
  refine QhL hc λp i=>?_;obtain rfl:=VF.1 i;exact QaC t Jb h hd
theorem QbI{xs:List A}{o:Oper}{r:List Oper}{x x':A}{d:Nat}{H1':Qd}(h:OpH P o (Yc (Qi o) 0 ds xs env) H x H1)(b:foA x=.mk x')(a:foH H1=.mk H1')(k:DB P N m cat l ds env H H1' K r (xs++[x']))(e:o.dst=some d:=by exact rfl)(hg:YW ⟨l⟩ o (Yc (Qi o) 0 ds xs env)=some true:=by exact rfl)(hN:Nat.blt d N=true:=by exact rfl)(hl:Nat.ble H.length H1'.length=true:=by exact rfl)
  (hc:YU cat xs.length=some 1:=by exact rfl)(hx:Nat.blt xs.length m=true:=by exact rfl):DA P N m cat l ds env H K (o::r) xs:=by
 rw[Qhk]at b;rw[Qjz]at a;cases b;cases a;exact .op (Y4 (XX _) (QP hg) e hN h (WO.nil Y6.mk)) k hl hc e hx
theorem DB.done{xs:List A}{r:List Oper}(b:Nat.beq xs.length m=true)(h:K r (Qaw ds xs env) H1):DB P N m cat l ds env H H1 K r xs:=by
 intro a;have e:=XU b;subst a;refine⟨[],by simpa using e,λj f d=>by omega,?_⟩;rw[<- e,Vk];exact h
theorem DB.add{xs:List A}{o:Oper}{r:List Oper}{x:A}(h:∀ys,l[xs.length]?=some o->Dob P N cat l ds env H H1 (xs++x::ys) xs.length)(k:DB P N m cat l ds env H H1 K r (xs++[x])):DB P N m cat l ds env H H1 K (o::r) xs:=by
 intro f;obtain⟨i,a⟩:=Qbk f;obtain⟨ys,e,b,d⟩:=k (by simpa using a);simp only[X7,X5,List.length_nil,Vm,VO,Vl]at e b d;refine⟨x::ys,by simp only[X5];omega,λj n g=>?_,d⟩;rcases VG xs.length j with q|q
 .exact b j (by omega) g
 .obtain rfl:j=xs.length:=by omega
  exact h ys i
theorem DB.wo1{xs:List A}{o:Oper}{r:List Oper}{x:A}{d:Nat}(h:WO P H1.length N l.toArray [o] (Yc (Qi o) 0 ds xs env) H1 (Y6 (up (Yc (Qi o) 0 ds xs env) d x) H1))(k:DB P N m cat l ds env H H1 K r (xs++[x]))
  (b:YU cat xs.length=some 2:=by exact rfl)(hd:o.dst=some d:=by exact rfl):DB P N m cat l ds env H H1 K (o::r) xs:=
 .add (λf e=>QhL b λp a=>by
  obtain rfl:=VF.1 a;exact QaC e Jb h hd) k
theorem DB.wo2{xs:List A}{o:Oper}{r:List Oper}{x:A}{d:Nat}(h:WO P H.length N l.toArray [o] (Yc (Qi o) 0 ds xs env) H (Y6 (up (Yc (Qi o) 0 ds xs env) d x) H))(e:WO P H1.length N l.toArray [o] (Yc (Qi o) 0 ds xs env) H1 (Y6 (up (Yc (Qi o) 0 ds xs env) d x) H1))(k:DB P N m cat l ds env H H1 K r (xs++[x]))
  (f:YU cat xs.length=some 3:=by exact rfl)(hd:o.dst=some d:=by exact rfl):DB P N m cat l ds env H H1 K (o::r) xs:=
 .add (λg b=>QhL f λp a=>by
  rcases Va.1 a with rfl|a
  .exact QaC b Jb h hd
  .obtain rfl:=VF.1 a;exact QaC b Jb e hd) k
def QhZ(T:TyX)(N m:Nat)(cat:List Nat)(l:List Oper)(ds:List Nat)(env:Env)(H:Qd):Nat->Nat->List Oper->List A->Option (List Oper×List A)
 |0,_,r,xs=>some (r,xs)
 |_+1,_,[],_=>none
 |n+1,i,o::r,xs=>match Nat.blt i m,YU cat i with
  |true,some 0=>match o.dst with
   |none=>none
   |some d=>match Nat.blt d N with
    |false=>none
    |true=>match YW ⟨l⟩ o (Yc (Qi o) 0 ds xs env)with
     |none=>none
     |some false=>match QcG xs (.tup [])with
      |.mk xs'=>QhZ T N m cat l ds env H n (i+1) r xs'
     |some true=>match Qdo T o (Yc (Qi o) 0 ds xs env) H with
      |none=>none
      |some x=>match QcG xs x with
       |.mk xs'=>QhZ T N m cat l ds env H n (i+1) r xs'
  |_,_=>none
theorem QeR(hT:QbK P T):∀(n i:Nat) {r r':List Oper} {xs xs':List A},i=xs.length->QhZ T N m cat l ds env H n i r xs=some (r',xs')->DA P N m cat l ds env H K r' xs'->DA P N m cat l ds env H K r xs
 |0,i,r,r',xs,xs',_,h,k=>by cases h;exact k
 |n+1,i,[],r',xs,xs',_,h,k=>by cases h
 |n+1,i,o::r,r',xs,xs',hi,h,k=>by
  subst hi;unfold QhZ at h;split at h
  .rename_i q1 q0;split at h
   .cases h
   .rename_i d hd;split at h
    .cases h
    .rename_i q2;split at h
     .cases h
     .rename_i hw;simp only[Jc]at h;exact .wo (WO.skip (QP hw) hd q2 (WO.nil Y6.mk)) (QeR hT n _ (by simp) h k) q0 hd q1
     .rename_i hw;split at h
      .cases h
      .rename_i x hv;simp only[Jc]at h;exact .wo (QF (QP hw) hd q2 (Qay hT hv) (WO.nil Y6.mk)) (QeR hT n _ (by simp) h k) q0 hd q1
  .cases h
theorem Qog{H:Qd}{p:Bx}{r:Lx}(h:ptX [] p=some r):ptX H p=some r:=by
 unfold ptX at h⊢;split at h
 .exact h
 .rename_i i a;simp only[YU]at h;cases h
 .cases h
theorem QeF{o:Oper}{e:Env}{H:Qd}{x:A}(h:Qdo T o e []=some x):Qdo T o e H=some x:=by
 unfold Qdo at h⊢;split at h<;>first|exact h|skip
 rename_i t y g;split at h
 .cases h
 .rename_i b n f;split at h
  .exact h
  .rename_i a;cases q:ptX [] (opB e y)with
   |none=>rw[q]at h;cases h
   |some r=>
    rw[q]at h;have d:=Qog (H:=H) q;simp only[d];exact h
def QeQ(T:TyX)(N:Nat)(cat:List Nat)(l:List Oper)(ds:List Nat)(env:Env)(H1:Qd):Nat->Nat->List Oper->List A->Option (List Oper×List A)
 |0,_,r,xs=>some (r,xs)
 |_+1,_,[],_=>none
 |n+1,i,o::r,xs=>match o.dst with
  |none=>none
  |some d=>match Nat.blt d N with
   |false=>none
   |true=>match YW ⟨l⟩ o (Yc (Qi o) 0 ds xs env)with
    |none=>none
    |some false=>match YU cat i with
     |some 2=>(match QcG xs (.tup [])with
      |.mk xs'=>QeQ T N cat l ds env H1 n (i+1) r xs')
     |some 3=>(match QcG xs (.tup [])with
      |.mk xs'=>QeQ T N cat l ds env H1 n (i+1) r xs')
     |_=>none
    |some true=>match YU cat i with
     |some 2=>(match Qdo T o (Yc (Qi o) 0 ds xs env) H1 with
      |none=>none
      |some x=>match QcG xs x with
       |.mk xs'=>QeQ T N cat l ds env H1 n (i+1) r xs')
     |some 3=>(match Qdo T o (Yc (Qi o) 0 ds xs env) []with
      |none=>none
      |some x=>match QcG xs x with
       |.mk xs'=>QeQ T N cat l ds env H1 n (i+1) r xs')
     |_=>none
theorem QbS(hT:QbK P T):∀(n i:Nat) {r r':List Oper} {xs xs':List A},i=xs.length->QeQ T N cat l ds env H1 n i r xs=some (r',xs')->DB P N m cat l ds env H H1 K r' xs'->DB P N m cat l ds env H H1 K r xs
 |0,i,r,r',xs,xs',_,h,k=>by cases h;exact k
 |n+1,i,[],r',xs,xs',_,h,k=>by cases h
 |n+1,i,o::r,r',xs,xs',hi,h,k=>by
  subst hi;unfold QeQ at h;split at h
  .cases h
  .rename_i d hd;split at h
   .cases h
   .rename_i q2;split at h
    .cases h
    .rename_i hw;split at h
     .rename_i q0;simp only[Jc]at h;exact .wo1 (WO.skip (QP hw) hd q2 (WO.nil Y6.mk)) (QbS hT n _ (by simp) h k) q0 hd
     .rename_i q0;simp only[Jc]at h;exact .wo2 (WO.skip (QP hw) hd q2 (WO.nil Y6.mk)) (WO.skip (QP hw) hd q2 (WO.nil Y6.mk)) (QbS hT n _ (by simp) h k) q0 hd
     .cases h
    .rename_i hw;split at h
     .rename_i q0;split at h
      .cases h
      .rename_i x hv;simp only[Jc]at h;exact .wo1 (QF (QP hw) hd q2 (Qay hT hv) (WO.nil Y6.mk)) (QbS hT n _ (by simp) h k) q0 hd
     .rename_i q0;split at h
      .cases h
      .rename_i x hv;simp only[Jc]at h;exact .wo2 (QF (QP hw) hd q2 (Qay hT (QeF hv)) (WO.nil Y6.mk)) (QF (QP hw) hd q2 (Qay hT (QeF hv)) (WO.nil Y6.mk)) (QbS hT n _ (by simp) h k) q0 hd
     .cases h
end
end Go.Sw
namespace Go.Sw
def chkF(L:List (Nat×List (Nat×Nat)))(fs:List (Nat×Nat×Nat)):Bool:=
 fs.all λe=>match Qci L e.1 with
  |some pl=>(match YU pl e.2.1 with
   |some q=>Nat.beq q.1 e.2.2&& !(Nat.beq q.2 0)
   |none=>false)
  |none=>false
theorem PL.get{P:Program}{fs:List Field}{b:List (Nat×Nat)}(h:PL P fs b):∀{f off n:Nat},YU b f=some (off,n)->∃fd,fs[f]?=some fd/\fd.offset=off/\ ∀w,(sizeOf fd.type).run P w=.ok n w:=by
 induction h with
 |nil=>intro f off n h;cases h
 |cons h k e=>
  intro f off n a;cases f with
  |zero=>cases a;exact⟨_,rfl,rfl,h⟩
  |succ f=>obtain⟨fd,d,g⟩:=e (show YU _ f=_ from a);exact⟨fd,by simpa using d,g⟩
theorem QpX{P:Program}{L:List (Nat×List (Nat×Nat))}{fs:List (Nat×Nat×Nat)}(l:∀e∈L,QD P e.1 e.2)(h:chkF L fs=true):∀e∈fs,∃n,QI P e.1 e.2.1 e.2.2 n:=by
 intro e k;have:=Xu.1 h e k;split at this
 .rename_i t b;split at this
  .rename_i q p;obtain⟨s,n⟩:=q;simp only[X0,Bool.not_eq_true']at this;have m:=XU this.1;obtain⟨d,g,a⟩:=l _ (Qaz b);obtain⟨i,j,r,f⟩:=PL.get a p;refine⟨n,⟨⟨_,i,g,by simpa using j,r.trans m,f,?_⟩⟩⟩;intro z;have a:=this.2;rw[z,VJ]at a;cases a
  .cases this
 .cases this
section
variable {P:Program} {Z:TyZ} {h0 N:Nat} {all:Array Oper} {o:Oper} {l:List Oper} {env:Env} {H:Qd} {Q:QB} {d:Nat}
theorem Cdz(i:Qda P Z){β γ:Type}{F:Option β}{F':β->Option γ}{r:γ}{f:Nat}{args a:List A}{Hc:Qd}{w:β->A}{Hr:β->Qd}(π:List Nat)(h:F.bind F'=some r)(j:∀v,F=some v->C P f a Hc (RQ w Hr v))
  (b:Qf3 Z o env=some (d,f,args))(g:∀v,F=some v->F' v=some r->WO P h0 N all l (up env d (Yz (rho π H.length) (w v))) (Yo H π ((Hr v).map (QU (rho π H.length)))) Q)
  (hargs:args=Qaa (rho π H.length) a)(hH:π.map (λp=>H[p]?)=(Hc.map (QU (rho π H.length))).map some)(hπ:π.Nodup)(hg:YW all o env=some true)(q:Nat.blt d N=true)(k:Nat.ble h0 H.length=true):WO P h0 N all (o::l) env H Q:=by
 obtain⟨v,e,m⟩:=Ju h;obtain⟨s,n⟩:=Qey (H:=H) i b;refine QA π n (j v e) ?_ hargs hH hπ (QP hg) s q k;rintro _ _ ⟨rfl,rfl⟩;exact g v e m
end
inductive FLL where
 |mk (l:List (List A))
def cpLL(sel:List Nat):List (List A)->FLL
 |[]=>.mk []
 |a::r=>match cpL sel a,cpLL sel r with
  |.mk a',.mk r'=>.mk (a'::r')
inductive FBk where
 |mk (b:Blk)
def cpBk(sel:List Nat):Blk->FBk
 |.cells t cs=>match cpL sel cs with
  |.mk l=>.mk (.cells t l)
 |.rowr t k es=>match cpLL sel es with
  |.mk l=>.mk (.rowr t k l)
 |.ents t a b es=>match Qk6 sel ixL a,Qk6 sel ixL b with
  |.mk a',.mk b'=>.mk (.ents t a' b' es)
 |b=>.mk b
def selD(H:Qd)(sel:List Nat):List Nat->FB
 |[]=>.mk []
 |a::r=>match YU H a with
  |some b=>(match cpBk sel b,selD H sel r with
   |.mk b',.mk l=>.mk (b'::l))
  |none=>.mk []
def retC(sel sl:List Nat)(env:Env)(H:Qd):Option (Env×Qd):=
 match QmT sel env sl [],selD H sel sel with
 |.mk e,.mk h=>some (e,h)
theorem Rx{P:Program}{h0:Nat}{fn:Func}{env E':Env}{H H':Qd}{Qr:A->Qd->Prop}{d:A}(π sl:List Nat)(_:retC π sl env H=some (E',H'))(b:Qcr P fn E' H' d)(e:Qr d H')(a:π.take h0=List.range h0:=by exact rfl)
  (hH:π.map (λp=>H[p]?)=(H'.map (QU (rho π H.length))).map some:=by exact rfl)(hπ:π.Nodup:=by decide)(hE:Qef (rho π H.length) env E':=by(repeat' (first|exact trivial|refine⟨rfl,?_⟩))):Qde P h0 fn Qr .ret env H:=
 ⟨E',H',d,Lr π a hH hπ hE,b,e⟩
end Go.Sw
namespace Go.Sw
def nxL{T:Type}:List T->T->List T->Prop:=λl x rem=>l=x::rem
def Qg2{S T B:Type}(step:S->T->Option (Ctl S B)):List T->S->Option (Ctl S B)
 |[],s=>some (.cont s)
 |x::l,s=>(step s x).bind λd=>match d with
  |.cont s'=>Qg2 step l s'
  |.done b=>some (.done b)
def QbV{S T B:Type}(step:S->Option (List T×Ctl S B)):Nat->S->Option (List T×B)
 |0,_=>none
 |n+1,s=>(step s).bind λp=>match p.2 with
  |.cont s'=>(QbV step n s').bind λq=>some (p.1++q.1,q.2)
  |.done b=>some (p.1,b)
def QnK{S B:Type}(h1:Nat)(env:Env)(Q:QB)(d:Ctl S B)(Hp:S->Qd):QB
 |.normal,env',H'=>∃s,d=.cont s/\Le h1 env' H' [] (Hp s)
 |.exit id,env',H'=>(∃b,d=.done b)/\ ∃H2,Le h1 env' H' [] H2/\Q (.exit id) env H2
 |.ret,env',H'=>(∃b,d=.done b)/\ ∃H2,Le h1 env' H' [] H2/\Q .ret env H2
theorem Qkn{S B:Type}{h1:Nat}{env env':Env}{H':Qd}{Q:QB}{s:S}{d:Ctl S B}{Hp:S->Qd}(e:some (Ctl.cont s)=some d)(h:Le h1 env' H' [] (Hp s)):QnK h1 env Q d Hp .normal env' H':=⟨s,(Oi e).symm,h⟩
theorem QgJ{P:Program}{h0 N:Nat}{n:Operand}{ps:List Nat}{assign body:Code}{env:Env}{H:Qd}{Q:QB}{f:FuncId}{g a:List A}{Hc:Qd}{T S B:Type}{enc:T->List A}{xs:List T}{step:S->T->Option (Ctl S B)}{s0:S}{D:Ctl S B}
  (π:List Nat)(Hp:S->Qd)(h:Qg2 step xs s0=some D)(r:Qhz P f a Hc enc nxL xs)(m:∀x,(enc x).length=ps.length)(G:∀args w,(callFunc f args).run P w=.ok (.enter f args) w)
  (O:Nat.ble h0 H.length=true)(hg:opA env n=.fn (.func f) [] g)(hargs:g=Qaa (rho π H.length) a)(hH:π.map (λp=>H[p]?)=(Hc.map (QU (rho π H.length))).map some)(hπ:π.Nodup)(u:(ps.all λp=>Nat.blt p N)=true)
  (k:Le H.length env (Qd3 H π) env (Hp s0))
  (i:∀s x d,step s x=some d->(∀b,d=.done b->D=.done b)->TC P H.length N assign (Ql8 ps (enc x) env) (Hp s) λe env1 H1=>e=.normal/\TC P H.length N body env1 H1 (QnK H.length env Q d Hp))
  (j:∀s,D=.cont s->Q .normal env (Hp s)):TC P h0 N (.rangeFunc n ps.toArray assign body) env H Q:=by
 refine TC.rangeFunc π Hp (λs l=>Qg2 step l s=some D) s0 (XV O) hg hargs hH hπ u G r m k h ?_ ?_
 .rintro s l x rem t rfl;obtain⟨d,R,t⟩:=Ju t;refine(i s x d R ?_).mono ?_
  .rintro b rfl;exact(Oi t).symm
  .rintro e env1 H1 ⟨F,J⟩;refine⟨F,J.mono ?_⟩;intro L E H2 q;cases L with
   |normal=>
    obtain⟨z,rfl,k⟩:=q;exact⟨Hp z,k,z,t,rfl⟩
   |exit id=>
    obtain⟨_,H3,y,q⟩:=q;exact⟨H3,y,q⟩
   |ret=>
    obtain⟨_,H3,y,q⟩:=q;exact⟨H3,y,q⟩
 .intro s M;exact j s (Oi M).symm
section
variable {T:Type} {X:Ctx T} {P:Program} {h0 N:Nat} {c:Code} {env:Env} {H:Qd} {st:YSt T} {Q:YA T}
def QfU{S B:Type}(h0:Nat)(E:S->Env)(Hp:S->Qd)(d:Ctl S B)(rest:List T)(Q:YA T):YA T
 |.normal,env,H,st=>∃s,d=.cont s/\Le h0 env H (E s) (Hp s)/\st=.on rest
 |.exit id,env,H,st=>Q (.exit id) env H st
 |.ret,env,H,st=>Q .ret env H st
theorem QlC{S B:Type}{step:S->Option (List T×Ctl S B)}{E:S->Env}{Hp:S->Qd}{m:Nat}{s0:S}{i rem:List T}{b:B}(h:QbV step m s0=some (i,b))(u:Le h0 env H (E s0) (Hp s0))
  (body:∀s zs d rest,step s=some (zs,d)->(∀b',d=.done b'->b'=b/\rest=rem)->TCy X P h0 N c (E s) (Hp s) (.on (zs++rest)) (QfU h0 E Hp d rest Q)):TCy X P h0 N (.loop c) env H (.on (i++rem)) Q:=by
 refine QgI (I:=λn env H p=>∃s a,QbV step n s=some (a,b)/\p=.on (a++rem)/\Le h0 env H (E s) (Hp s)) ?_ ⟨s0,i,h,rfl,u⟩;rintro n env H p ⟨s,a,f,rfl,l⟩;cases n with
 |zero=>cases f
 |succ n=>
  obtain⟨⟨zs,d⟩,r,f⟩:=Ju f;refine TCy.le l ?_;cases d with
  |cont w=>
   obtain⟨⟨t,F⟩,y,f⟩:=Ju f;cases f;rw[Vm];refine(body s zs (.cont w) (t++rem) r (λb' e=>by cases e)).mono ?_;rintro x g H' j q;cases x with
   |normal=>
    obtain⟨z,e,k,rfl⟩:=q;cases e;exact⟨n,Xo n,_,_,y,rfl,k⟩
   |exit id=>exact q
   |ret=>exact q
  |done b'=>
   cases f;refine(body s _ (.done b) rem r (λb' e=>by cases e;exact⟨rfl,rfl⟩)).mono ?_;rintro x g H' j q;cases x with
   |normal=>obtain⟨z,e,_⟩:=q;cases e
   |exit id=>exact q
   |ret=>exact q
def kqY(X:Ctx T)(P:Program)(h0 N:Nat):List Kf->YA T->YA T
 |[],Q=>Q
 |.seq c::k,Q=>SeqY X P h0 N c (kqY X P h0 N k Q)
 |.blo id::k,Q=>BloY id (kqY X P h0 N k Q)
 |.unr c::k,Q=>λ_ _ _ _=>False
@[reducible] def HdY(X:Ctx T)(P:Program)(h0 N:Nat):Cf->List Kf->Env->Qd->YSt T->YA T->Prop
 |.code c,k,env,H,st,Q=>TCy X P h0 N c env H st (kqY X P h0 N k Q)
 |.ops all l,k,env,H,st,Q=>WOy X P h0 N all l env H st (kqY X P h0 N k Q)
 |.out x,k,env,H,st,Q=>kqY X P h0 N k Q x env H st
def Qo6:Cf->List Kf->Bool
 |.code (.loop _),_=>false
 |.out _,.unr _::_=>false
 |_,_=>true
theorem Qma{Tx:TyX}(f:QbK P Tx){c d:Cf}{k b:List Kf}{env env':Env}{H H':Qd}(h:Qf8 Tx h0 N c k env H=some (d,b,env',H'))(a:Qo6 c k=true)(g:HdY X P h0 N d b env' H' st Q):HdY X P h0 N c k env H st Q:=by
 unfold Qf8 at h;split at h
 .cases h;exact TCy.seq g
 .cases h;exact TCy.block g
 .cases a
 .cases h;exact TCy.skip g
 .cases h;exact TCy.ret g
 .cases h;exact TCy.exit g
 .cases h;exact TCy.region g
 .split at h
  .rename_i q;cases h;exact TCy.cond (QE q) (λ_=>g) (λe=>by cases e)
  .rename_i q;cases h;exact TCy.cond (QE q) (λe=>by cases e) (λ_=>g)
  .cases h
 .cases h;exact WOy.nil g
 .split at h
  .rename_i q;cases h;exact WOy.step (Qme f q (WO.nil ⟨rfl,g⟩))
  .cases h
 .cases h;exact g
 .cases h;exact g
 .cases h;exact g
 .cases h;exact g
 .split at h
  .rename_i q;cases h;have e:=XU q;subst e;show(bif Nat.beq _ _ then _ else _);rw[VJ];exact g
  .rename_i q;cases h;show(bif Nat.beq _ _ then _ else _);rw[q];exact g
 .cases h;exact g
 .cases a
 .cases a
 .cases a
 .cases h
def Qji(Tx:TyX)(h0 N:Nat):Nat->Cf->List Kf->Env->Qd->Option (Cf×List Kf×Env×Qd)
 |0,c,k,env,H=>some (c,k,env,H)
 |n+1,c,k,env,H=>match Qo6 c k with
  |true=>(match Qf8 Tx h0 N c k env H with
   |some (c',k',env',H')=>Qji Tx h0 N n c' k' env' H'
   |none=>none)
  |false=>none
theorem QcQ{Tx:TyX}(hT:QbK P Tx):∀(n:Nat) {c c':Cf} {k k':List Kf} {env env':Env} {H H':Qd},Qji Tx h0 N n c k env H=some (c',k',env',H')->HdY X P h0 N c' k' env' H' st Q->HdY X P h0 N c k env H st Q
 |0,c,c',k,k',env,env',H,H',h,g=>by cases h;exact g
 |n+1,c,c',k,k',env,env',H,H',h,g=>by
  unfold Qji at h;split at h
  .rename_i hn;split at h
   .rename_i e;exact Qma hT e hn (QcQ hT n h g)
   .cases h
  .cases h
theorem TCy.lf{k:List Kf}(h:TC P h0 N c env H (λx env H=>kqY X P h0 N k Q x env H st)):TCy X P h0 N c env H st (kqY X P h0 N k Q):=TCy.lift h
theorem QjT{all:Array Oper}{o:Oper}{r:List Oper}{d:Nat}{x:T}{l:List T}{e:T->A}{y z:Operand}{k:Array TypeId}(hE:X.enc=λx=>[e x])(g:X.nx=nxL)(m:o.op=.call {callee:=.value y,args:= #[z],argTypes:=k})(f:opA env y=.fn (.yield X.l) [] [])(j:opA env z=e x)(h:Yn (e x)=true)
  (i:WOy X P h0 N all r (up env d (.bool true)) H (.on l) Q)(a:WOy X P h0 N all r (up env d (.bool false)) H (.off l) Q)(hg:Qp all o env true:=by exact rfl)(hd:o.dst=some d:=by exact rfl)(hNd:Nat.blt d N=true:=by exact rfl):WOy X P h0 N all (o::r) env H (.on (x::l)) Q:=by
 refine WOy.yield (x:=x) (rem:=l) (by rw[g];rfl) hg hd hNd ?_ ?_
 .rw[hE];exact QhO m f j h
 .intro b;cases b with
  |true=>exact i
  |false=>exact a
theorem WOy.y2{all:Array Oper}{o:Oper}{r:List Oper}{d:Nat}{x:T}{l:List T}{h a:T->A}{y k j:Operand}{t:Array TypeId}(hE:X.enc=λx=>[h x,a x])(q:X.nx=nxL)(m:o.op=.call {callee:=.value y,args:= #[k,j],argTypes:=t})(p:opA env y=.fn (.yield X.l) [] [])(e:opA env k=h x)(i:opA env j=a x)(g:Yn (h x)=true)(f:Yn (a x)=true)
  (s:WOy X P h0 N all r (up env d (.bool true)) H (.on l) Q)(n:WOy X P h0 N all r (up env d (.bool false)) H (.off l) Q)(hg:Qp all o env true:=by exact rfl)(hd:o.dst=some d:=by exact rfl)(hNd:Nat.blt d N=true:=by exact rfl):WOy X P h0 N all (o::r) env H (.on (x::l)) Q:=by
 refine WOy.yield (x:=x) (rem:=l) (by rw[q];rfl) hg hd hNd ?_ ?_
 .rw[hE];exact Qk0 m p e i g f
 .intro b;cases b with
  |true=>exact s
  |false=>exact n
end
end Go.Sw
namespace Go.Sw
def yl{T R:Type}(x:T)(k:Option (List T×R)):Option (List T×R):=k.bind λp=>some (x::p.1,p.2)
def ap{T B R:Type}(a:Option (List T×B))(k:B->Option (List T×R)):Option (List T×R):=a.bind λp=>(k p.2).bind λq=>some (p.1++q.1,q.2)
theorem Ql5{T R:Type}{x:T}{k:Option (List T×R)}{a:List T}{v:R}(h:yl x k=some (a,v)):∃zs,k=some (zs,v)/\a=x::zs:=by
 obtain⟨⟨zs,e⟩,b,d⟩:=Ju h;cases d;exact⟨zs,b,rfl⟩
theorem Qpe{T B R:Type}{a:Option (List T×B)}{k:B->Option (List T×R)}{d:List T}{v:R}(h:ap a k=some (d,v)):∃y1 b y2,a=some (y1,b)/\k b=some (y2,v)/\d=y1++y2:=by
 obtain⟨⟨y1,b⟩,e,g⟩:=Ju h;obtain⟨⟨y2,j⟩,f,i⟩:=Ju g;cases i;exact⟨y1,b,y2,e,f,rfl⟩
section
variable {T:Type} {X:Ctx T} {P:Program} {h0 N:Nat} {c c':Code} {env:Env} {H:Qd} {st:YSt T} {Q:YA T}
def Qn9{β:Type}(h0:Nat)(b:β)(E':β->Env)(H':β->Qd)(rem:List T)(Q:YA T):YA T
 |.normal,env,H,st=>Le h0 env H (E' b) (H' b)/\st=.on rem
 |.exit id,env,H,st=>Q (.exit id) env H st
 |.ret,env,H,st=>Q .ret env H st
theorem QiU{β:Type}{E':β->Env}{H':β->Qd}(b:β)(rem:List T)(sel keep:List Nat)(nE:β->Env)(nH:β->List (Nat×Blk))(_:∀b,Qnt sel keep (nE b) (nH b) env H=some (E' b,H' b))(h:TCy X P h0 N c env H st (Qn9 h0 b E' H' rem Q))(k:∀env H,Le h0 env H (E' b) (H' b)->Q .normal env H (.on rem)):TCy X P h0 N c env H st Q:=
 h.mono λx env' H' st' q=>by
  cases x with
  |normal=>obtain⟨q1,rfl⟩:=q;exact k _ _ q1
  |exit id=>exact q
  |ret=>exact q
theorem Qpb{β:Type}{b:β}{E':β->Env}{H':β->Qd}{rem:List T}(h:Le h0 env H (E' b) (H' b)):Qn9 h0 b E' H' rem Q .normal env H (.on rem):=⟨h,rfl⟩
theorem Qns{β:Type}{b:β}{E':β->Env}{H':β->Qd}{rem:List T}(h:Q .ret env H st):Qn9 h0 b E' H' rem Q .ret env H st:=h
theorem QnF{S B:Type}{step:S->Option (List T×Ctl S B)}{E':S->Env}{H':S->Qd}{m:Nat}{s0:S}{ys rem:List T}{b:B}(sel keep:List Nat)(nE:S->Env)(nH:S->List (Nat×Blk))(h:QbV step m s0=some (ys,b))(_:∀s,Qnt sel keep (nE s) (nH s) env H=some (E' s,H' s))(hI:Le h0 env H (E' s0) (H' s0))
  (body:∀s zs d rest,step s=some (zs,d)->(∀b',d=.done b'->b'=b/\rest=rem)->TCy X P h0 N c (E' s) (H' s) (.on (zs++rest)) (QfU h0 E' H' d rest Q)):TCy X P h0 N (.loop c) env H (.on (ys++rem)) Q:=QlC h hI body
theorem QcA{S B:Type}{E':S->Env}{H':S->Qd}{s:S}{d:Ctl S B}{zs rest:List T}(e:some (([]:List T),Ctl.cont s)=some (zs,d))(h:Le h0 env H (E' s) (H' s)):QfU h0 E' H' d rest Q .normal env H (.on (zs++rest)):=by
 cases e;exact⟨s,rfl,h,rfl⟩
theorem QmO{S B:Type}{id:Nat}{E':S->Env}{H':S->Qd}{d:Ctl S B}{rest:List T}(h:Q (.exit id) env H st):QfU h0 E' H' d rest Q (.exit id) env H st:=h
theorem Qjs{S B:Type}{E':S->Env}{H':S->Qd}{d:Ctl S B}{rest:List T}(h:Q .ret env H st):QfU h0 E' H' d rest Q .ret env H st:=h
theorem Oy{S B:Type}{d:Ctl S B}{x b:B}{zs rest rem:List T}(e:∀b',d=.done b'->b'=b/\rest=rem)(h:some (([]:List T),Ctl.done x)=some (zs,d)):zs=[]/\b=x/\rest=rem:=by
 cases h;obtain⟨a,f⟩:=e x rfl;exact⟨rfl,a.symm,f⟩
theorem Qed{f:FuncId}{fn:Func}{c:Code}{N:Nat}{a:List A}{H:Qd}{enc:T->List A}{xs:List T}(d:P.funcs[f]?=some fn)(i:fn.body=some c)(b:fn.ntmps=N)(g:Nat.ble (a.length+1) N=true)(e:fn.results= #[])
  (h:∀X:Ctx T,X.enc=enc->X.nx=nxL->TCy X P H.length N c (QgB 0 (.fn (.yield X.l) [] []::a)) H (.on (xs++[])) EndY):Qhz P f a H enc nxL xs:=by
 rw[Vk]at h;exact Qdd d i b g e h
end
end Go.Sw
namespace Go.Sw
open Go.MapKept
section
variable {fr ro:Nat->Prop} {σ:Sig} {H:Qd} {w:World}
end
end Go.Sw
namespace Go.Sw
open Go.MapKept
def QbL{α β:Type}(ek:α->A)(ev:β->List A)(l:List (α×Option (List β))):List (A×Option (List (List A))):=l.map λp=>(ek p.1,p.2.map (List.map ev))
def Qks{α β:Type}[DecidableEq α](l:List (α×Option (List β)))(x:α):List (α×Option (List β)):=l.map λp=>bif decide (p.1=x)then(p.1,none)else p
section
variable {P:Program} {kt:TypeId} {α β:Type} [DecidableEq α] {ek:α->A} {ev:β->List A} {ro:Nat->Prop} {w:World} {t k:Nat} (K:Y0 P kt ek)
include K
theorem QkT{x:α}:∀{l:List (α×Option (List β))} {es:List MapEntry},MO ro w t k (QbL ek ev l) es->MO ro w t k (QbL ek ev (Qks l x)) es
 |[],es,h=>h
 |p::l,es,h=>by
  obtain⟨e,l',rfl,h1,h2,h3⟩:=h;by_cases q:p.1=x
  .refine⟨e,l',rfl,by simpa[q]using h1,λrows hr=>?_,QkT (l:=l) h3⟩;simp[q]at hr
  .refine⟨e,l',rfl,by simpa[q]using h1,λrows hr=>h2 rows (by simpa[q]using hr),QkT (l:=l) h3⟩
omit K
theorem QdP{x:α}{c:Nat}:∀{l:List (α×Option (List β))} {es:List MapEntry},Qen (QbL ek ev (Qks l x)) es c->Qen (QbL ek ev l) es c
 |[],es,h=>by cases es<;>exact h.elim
 |p::l,[],h=>h.elim
 |p::l,e::es,h=>by
  rcases h with⟨h1,h2⟩|h
  .by_cases q:p.1=x
   .simp[q]at h1
   .exact .inl ⟨by simpa[q]using h1,h2⟩
  .exact .inr (QdP (l:=l) h)
theorem QlZ{x:α}:∀{l:List (α×Option (List β))} {es:List MapEntry},Qka (QbL ek ev l) es->Qka (QbL ek ev (Qks l x)) es
 |[],es,h=>by cases es<;>trivial
 |p::l,[],h=>trivial
 |p::l,e::es,h=>by
  obtain⟨h1,h2⟩:=h;refine⟨λc q1 q2 q3=>?_,QlZ (l:=l) h2⟩;by_cases q:p.1=x
  .simp[q]at q1
  .exact h1 c (by simpa[q]using q1) q2 (QdP (l:=l) q3)
include K
theorem MO.find:∀{l:List (α×Option (List β))} {es:List MapEntry},MO ro w t k (QbL ek ev l) es->∀(x:α),(es.map (·.key)).Nodup->
  ((∀e:MapEntry,e∈es->e.key≠QJ (ek x))->YB l x=none)/\
  (∀(j:Nat) (e:MapEntry),es[j]?=some e->e.key=QJ (ek x)->∃q,YB l x=some q/\(∀rows,q=some rows->SO ro w t k (rows.map ev) e.val)/\
   ∀c p n cap,q.isSome=true->e.val=.slice (some ⟨c,p,none⟩) n cap->Qen (QbL ek ev l) es c/\(Qka (QbL ek ev l) es->¬Qen (QbL ek ev (Qks l x)) es c))
 |[],es,h,x,_=>by
  cases(show es=[]from h);exact⟨λ_=>rfl,λj e he=>by simp at he⟩
 |p::l,es,h,x,hn=>by
  obtain⟨e0,l',rfl,h1,h2,h3⟩:=h;have hk:e0.key=QJ (ek p.1):=VR.val (K.scl _) h1;simp only[Vn,List.nodup_cons]at hn;obtain⟨a1,a2⟩:=MO.find (l:=l) h3 x hn.2;by_cases hp:p.1=x
  .subst hp;constructor
   .intro q;exact absurd hk (q e0 (by simp))
   .intro j e he hx;cases j with
    |zero=>
     simp only[XI,Option.some.injEq]at he;subst he;refine⟨p.2,by simp[YB],λrows hr=>h2 (rows.map ev) (by simp[hr]),λc p' n cap hs hv=>⟨.inl ⟨by simpa using hs,p',n,cap,hv⟩,λhd hq=>?_⟩⟩;rcases hq with⟨q1,_⟩|hq
     .simp at q1
     .exact hd.1 c (by simpa using hs) ⟨p',n,cap,hv⟩ (QdP (l:=l) hq)
    |succ j=>
     simp only[XJ]at he;exact absurd (hk.trans hx.symm▸VK (f:=λe:MapEntry=>e.key) (VL he)) hn.1
  .have e1:YB (p::l) x=YB l x:=by simp[YB,hp]
   rw[e1];constructor
   .intro q;exact a1 λe he=>q e (by simp[he])
   .intro j e he hx;cases j with
    |zero=>
     simp only[XI,Option.some.injEq]at he;subst he;exact absurd (K.inj _ _ (hk.symm.trans hx)) hp
    |succ j=>
     obtain⟨q,d,m,b⟩:=a2 j e (by simpa using he) hx;refine⟨q,d,m,λc p' n cap hs hv=>?_⟩;obtain⟨a,g⟩:=b c p' n cap hs hv;refine⟨.inr a,λhd hq=>?_⟩;rcases hq with⟨q1,i⟩|hq
     .exact hd.1 c (by simpa[hp]using q1) i a
     .exact g hd.2 hq
end
section
variable {P:Program} {o:Oper} {env:Env} {H:Qd}
variable {T kt et:Nat} {α β:Type} [DecidableEq α] {ek:α->A} {ev:β->List A} {x y:Operand} {i t k:Nat} {l:List (α×Option (List β))} {key:α} {rows:List β}
end
end Go.Sw
namespace Go.Sw
open Go.MapKept
theorem MO.append{ro:Nat->Prop}{w:World}{t k:Nat}:∀{l m:List (A×Option (List (List A)))} {es fs:List MapEntry},MO ro w t k l es->MO ro w t k m fs->MO ro w t k (l++m) (es++fs)
 |[],m,es,fs,h,q=>by cases(show es=[]from h);exact q
 |p::l,m,es,fs,h,q=>by
  obtain⟨e,l',rfl,h1,h2,h3⟩:=h;exact⟨e,l'++fs,rfl,h1,h2,MO.append h3 q⟩
theorem MO.length{ro:Nat->Prop}{w:World}{t k:Nat}:∀{l:List (A×Option (List (List A)))} {es:List MapEntry},MO ro w t k l es->es.length=l.length
 |[],es,h=>by cases(show es=[]from h);rfl
 |p::l,es,h=>by
  obtain⟨e,l',rfl,h1,h2,h3⟩:=h;simp[MO.length h3]
def SlB(v:Value)(c:Nat):Prop:=∃p n cap,v=.slice (some ⟨c,p,none⟩) n cap
section
variable {P:Program} {kt:TypeId} {α β:Type} [DecidableEq α] {ek:α->A} {ev:β->List A} {ro:Nat->Prop} {w:World} {t k:Nat} (K:Y0 P kt ek)
def Qdw{α β:Type}[DecidableEq α](l:List (α×Option (List β)))(x:α)(rows:List β):List (α×Option (List β)):=l.map λp=>bif decide (p.1=x)then(p.1,some rows)else p
include K
theorem Qgj{x:α}{rows:List β}:∀{l:List (α×Option (List β))} {es:List MapEntry},MO ro w t k (QbL ek ev l) es->(∀e∈es,e.key≠QJ (ek x))->Qdw l x rows=l
 |[],es,h,q=>rfl
 |p::l,es,h,q=>by
  obtain⟨e,l',rfl,h1,h2,h3⟩:=h;have hk:e.key=QJ (ek p.1):=VR.val (K.scl _) h1;have hp:p.1≠x:=λz=>q e (by simp) (by rw[hk,z]);have:=Qgj (l:=l) h3 (λe he=>q e (by simp[he])) (rows:=rows);simp only[Qdw,Vn,decide_false,hp,Vu];rw[show(l.map λp=>bif decide (p.1=x)then(p.1,some rows)else p)=l from this]
theorem MO.put{x:α}{rows:List β}{v:Value}(i:SO ro w t k (rows.map ev) v):∀{l:List (α×Option (List β))} {es:List MapEntry} {j:Nat} {e:MapEntry},MO ro w t k (QbL ek ev l) es->
  (es.map (·.key)).Nodup->es[j]?=some e->e.key=QJ (ek x)->
  MO ro w t k (QbL ek ev (Qdw l x rows)) (es.modify j λe=>{e with key:=QJ (ek x),val:=v})/\
  (∀c,Qen (QbL ek ev (Qdw l x rows)) (es.modify j λe=>{e with key:=QJ (ek x),val:=v}) c->Qen (QbL ek ev l) es c\/SlB v c)/\
  (Qka (QbL ek ev l) es->(∀c,Qen (QbL ek ev l) es c->¬SlB v c)->Qka (QbL ek ev (Qdw l x rows)) (es.modify j λe=>{e with key:=QJ (ek x),val:=v}))
 |[],es,j,e,h,hn,he,hk=>by cases(show es=[]from h);simp at he
 |p::l,es,j,e,h,hn,he,hk=>by
  obtain⟨e0,l',rfl,h1,h2,h3⟩:=h;have hk0:e0.key=QJ (ek p.1):=VR.val (K.scl _) h1;simp only[Vn,List.nodup_cons]at hn;cases j with
  |zero=>
   simp only[XI,Option.some.injEq]at he;subst he;have hp:p.1=x:=K.inj _ _ (hk0.symm.trans hk);simp only[List.modify_zero_cons];have e0':Qdw l x rows=l:=Qgj K h3 λe he z=>hn.1 (by rw[hk, <- z];exact VK he);have e1:Qdw (p::l) x rows=(p.1,some rows)::l:=by
    have:Qdw (p::l) x rows=(p.1,some rows)::Qdw l x rows:=by simp[Qdw,hp]
    rw[this,e0']
   rw[e1];refine⟨⟨_,l',rfl,?_,?_,h3⟩,?_,?_⟩
   .show VR ro [] w (ek p.1) (QJ (ek x));rw[<- hp];exact Qb1 (K.scl _)
   .intro d s;cases s;exact i
   .rintro c (⟨_,q⟩|q)
    .exact .inr q
    .exact .inl (.inr q)
   .rintro⟨m,b⟩ a;exact⟨λc _ q z=>a c (.inr z) q,b⟩
  |succ j=>
   simp only[XJ]at he;have hp:p.1≠x:=by
    intro q;refine hn.1 (Xf.2 ⟨e,VL he,?_⟩);rw[hk,hk0,q]
   simp only[List.modify_succ_cons];obtain⟨u,f,r⟩:=MO.put i h3 hn.2 he hk;have e1:Qdw (p::l) x rows=p::Qdw l x rows:=by simp[Qdw,hp]
   rw[e1];refine⟨⟨_,_,rfl,h1,h2,u⟩,?_,?_⟩
   .rintro c (q|q)
    .exact .inl (.inl q)
    .exact(f c q).imp .inr id
   .rintro⟨m,b⟩ a;refine⟨λc n g z=>?_,r b λc y=>a c (.inr y)⟩;rcases f c z with z|z
    .exact m c n g z
    .exact a c (.inl ⟨n,g⟩) z
end
section
variable {P:Program} {o:Oper} {env:Env} {H:Qd}
variable {T kt et:Nat} {α β:Type} [DecidableEq α] {ek:α->A} {ev:β->List A} {x y zz:Operand} {i j t k n:Nat} {l m:List (α×Option (List β))} {key:α} {rows:List β}
end
end Go.Sw
namespace Go.Sw
open Go.MapKept
section
variable {fr ro:Nat->Prop} {σ:Sig} {H:Qd} {w:World}
end
section
variable {P:Program} {o:Oper} {env:Env} {H:Qd} {T kt et i t k:Nat} {x:Operand} {es:List (A×Option (List (List A)))}
end
section
variable {P:Program} {o:Oper} {env:Env} {H:Qd}
variable {T kt et:Nat} {α β:Type} [DecidableEq α] {ek:α->A} {ev:β->List A} {x y zz:Operand} {i j t k n:Nat} {l m:List (α×Option (List β))} {key:α} {rows:List β}
end
end Go.Sw
namespace Go.Sw
open Go.MapKept
section
variable {P:Program} {o:Oper} {env:Env} {H:Qd}
variable {T kt et:Nat} {α β:Type} [DecidableEq α] {ek:α->A} {ev:β->List A} {x y zz:Operand} {i j t k n:Nat} {l m:List (α×Option (List β))} {key:α} {rows:List β}
end
end Go.Sw
namespace Go.Sw
abbrev Kat:=List (Nat×Nat×Nat)
def Ql7:Nat->Nat->List (Nat×Nat)
 |lo,0=>[(lo,lo)]
 |lo,n+1=>(lo,lo)::Ql7 (lo+1) n
def rgK(p:Nat×Nat×Nat):List (Nat×Nat):=bif Nat.beq p.1 1 then[(p.2.1,p.2.1+1)]else Ql7 p.2.1 (p.2.2-p.2.1)
def plK(cat:Kat):List (List (Nat×Nat)):=cat.map rgK
def rqK(bs:List Nat)(cat:Kat):List (List Nat):=cat.map λp=>bs.take p.2.1
def hsK(cat:Kat):List Bool:=cat.map λp=>Nat.beq p.1 1
def msK(bs:List Nat):List (List Nat):=(List.range (bs.length+1)).map bs.take
theorem QgY:∀(n lo:Nat),∀p∈Ql7 lo n,p.1=p.2
 |0,lo,p,h=>by cases h with|head=>rfl|tail _ h=>cases h
 |n+1,lo,p,h=>by
  rcases Va.1 h with rfl|h
  .rfl
  .exact QgY n _ p h
section
variable {P:Program} {T:TyX} {h0 N m:Nat} {bs:List Nat} {cat:Kat} {l:List Oper} {ds:List Nat} {env:Env} {H:Qd} {Hs:List Qd} {Q:QB} {K:List Oper->Env->Qd->Prop}
def DobK(P:Program)(N:Nat)(cat:Kat)(l:List Oper)(ds:List Nat)(env:Env)(n:Nat)(Hs:List Qd)(zs:List A)(j:Nat):Prop:=
 ∀p∈(plK cat).getD j [],JF P N l ds zs env n n j (Hs.getD p.1 []) (Hs.getD p.2 [])
def DK(P:Program)(N m:Nat)(bs:List Nat)(cat:Kat)(l:List Oper)(ds:List Nat)(env:Env)(n:Nat)(K:List Oper->Env->Qd->Prop)(Hs:List Qd)(X:Qd)(r:List Oper)(xs:List A):Prop:=
 r=l.drop xs.length->∃ys Zs Y,xs.length+ys.length=m/\Hs.length+Zs.length=bs.length/\((∀Z∈Zs,n<=Z.length)/\(Hs.reverse++X::Zs).getD bs.length []=Y)/\(∀j,xs.length<=j->j<m->DobK P N cat l ds env n (Hs.reverse++X::Zs) (xs++ys) j)/\K (l.drop m) (Qaw ds (xs++ys) env) Y
theorem Qqg{f:List A}{n:Nat}{Zs:List Qd}(a:cat.length=m)(h:∀j,0<=j->j<m->DobK P N cat l ds env n Zs f j):QhF P N l ds f env n (n+0) 0 ((plK cat).map λq=>q.map λp=>(Zs.getD p.1 [],Zs.getD p.2 [])):=by
 refine QhE _ 0 λi s b p g=>?_;rw[Xq]at b;cases e:(plK cat)[i]? with
 |none=>rw[e]at b;cases b
 |some q=>
  rw[e]at b;cases b;obtain⟨k,d,rfl⟩:=Xf.1 g;have r:i<m:=by
   have:=(XP.1 e).1;simpa[plK,a]using this
  have:=h i (XY _) r k (by rw[QkB e];exact d);simpa using this
theorem Qn6{id:Nat}(m:Nat)(d:List Nat)(cat:Kat)(u:P.follows .mixedOrders=true)(t:Qd8 l m N (Qbj m 0 l) (hsK cat) (rqK d cat) (msK d) (plK cat)=true)(g:Nat.beq cat.length m=true)(j:Nat.ble h0 H.length=true)
  (h:DK P N m d cat l (Qbj m 0 l) env H.length (λr e H=>WO P h0 N l.toArray r e H Q) [] H l []):TC P h0 N (.region id l.toArray true) env H Q:=by
 obtain⟨s,Zs,Y,n,p,i,q,k⟩:=h rfl;simp only[List.length_nil,Xy,Vl,List.reverse_nil]at n p i q k;have a:=XU g;have b:(msK d).length=d.length+1:=by simp[msK]
 refine YX m 0 _ _ _ _ _ s (H::Zs) Y u t (by rw[n];exact VJ m) (by rw[b];simp[p]) j ?_ (by simp) (by rw[b];exact i.2) (Qqg a q) (by simp[plK,a]) k;rw[Xu];intro Z f;rcases Va.1 f with rfl|f
 .exact XW (XX _)
 .exact XW (i.1 Z f)
variable {n:Nat} {X X1:Qd} {xs:List A} {o:Oper} {r:List Oper} {x:A} {d:Nat}
theorem DK.done(f:Nat.beq xs.length m=true)(b:Nat.beq Hs.length bs.length=true)(h:K r (Qaw ds xs env) X):DK P N m bs cat l ds env n K Hs X r xs:=by
 intro d;have e:=XU f;have a:=XU b;subst d;refine⟨[],[],X,by simpa using e,by simpa using a,⟨(λZ hZ=>by cases hZ),?_⟩,λj i g=>by omega,?_⟩
 .rw[<- a,VP,XR (by simp)];simp
 .rw[<- e,Vk];exact h
theorem DK.add(p:∀ys Zs,l[xs.length]?=some o->DobK P N cat l ds env n (Hs.reverse++X::Zs) (xs++x::ys) xs.length)(k:DK P N m bs cat l ds env n K Hs X r (xs++[x])):DK P N m bs cat l ds env n K Hs X (o::r) xs:=by
 intro f;obtain⟨s,a⟩:=Qbk f;obtain⟨ys,Zs,Y,e,h,g,d,b⟩:=k (by simpa using a);simp only[X7,X5,List.length_nil,Vm,VO,Vl]at e d b;refine⟨x::ys,Zs,Y,by simp only[X5];omega,h,g,λj t i=>?_,b⟩;rcases VG xs.length j with q|q
 .exact d j (by omega) i
 .obtain rfl:j=xs.length:=by omega
  exact p ys Zs s
theorem QeB{Zs:List Qd}{zs:List A}{j:Nat}{c:Nat×Nat×Nat}(b:YU cat j=some c)(h:∀p∈rgK c,JF P N l ds zs env n n j (Zs.getD p.1 []) (Zs.getD p.2 [])):DobK P N cat l ds env n Zs zs j:=by
 intro p a;rw[QaF]at b;unfold plK at a;rw[VP,Xq,b]at a;exact h p a
theorem Qhh{Zs:List Qd}{c:Nat}(a:Nat.beq c Hs.length=true):(Hs.reverse++X::Zs).getD c []=X:=by
 rw[XU a,VP,XR (by simp)];simp
theorem DK.wo{c:Nat}(h:WO P X.length N l.toArray [o] (Yc (Qi o) 0 ds xs env) X (Y6 (up (Yc (Qi o) 0 ds xs env) d x) X))(k:DK P N m bs cat l ds env n K Hs X r (xs++[x]))
  (b:YU cat xs.length=some (0,c,c):=by exact rfl)(hd:o.dst=some d:=by exact rfl)(hcH:Nat.beq c Hs.length=true:=by exact rfl):DK P N m bs cat l ds env n K Hs X (o::r) xs:=
 .add (λys Zs ho=>QeB b λp a=>by
  have:p=(c,c):=by
   change p∈Ql7 c (c-c)at a;rw[Nat.sub_self]at a;exact VF.1 a
  subst this;rw[Qhh hcH];exact QaC ho Jb h hd) k
theorem DK.wa{lo hi:Nat}(h:∀X,WO P X.length N l.toArray [o] (Yc (Qi o) 0 ds xs env) X (Y6 (up (Yc (Qi o) 0 ds xs env) d x) X))(k:DK P N m bs cat l ds env n K Hs X r (xs++[x]))
  (b:YU cat xs.length=some (0,lo,hi):=by exact rfl)(hd:o.dst=some d:=by exact rfl):DK P N m bs cat l ds env n K Hs X (o::r) xs:=
 .add (λys Zs ho=>QeB b λp a=>by
  have e:p.1=p.2:=QgY _ _ p a;rw[<- e];exact QaC ho Jb (h _) hd) k
theorem DK.op{c u:Nat}(h:WO P X.length N l.toArray [o] (Yc (Qi o) 0 ds xs env) X (Y6 (up (Yc (Qi o) 0 ds xs env) d x) X1))(k:DK P N m bs cat l ds env n K (X::Hs) X1 r (xs++[x]))(hl:Nat.ble n X1.length=true:=by exact rfl)
  (hc:YU cat xs.length=some (1,c,u):=by exact rfl)(hd:o.dst=some d:=by exact rfl)(hcH:Nat.beq c Hs.length=true:=by exact rfl):DK P N m bs cat l ds env n K Hs X (o::r) xs:=by
 intro y;obtain⟨F,e⟩:=Qbk y;obtain⟨i,Zs,Y,t,z,b,g,f⟩:=k (by simpa using e);simp only[X7,X5,List.length_nil,Vm,VO,Vl,List.reverse_cons]at t z b g f;refine⟨x::i,X1::Zs,Y,by simp only[X5];omega,by simp only[X5];omega,⟨λZ a=>?_,b.2⟩,λj G B=>?_,f⟩
 .rcases Va.1 a with rfl|a
  .exact XV hl
  .exact b.1 Z a
 .rcases VG xs.length j with q|q
  .exact g j (by omega) B
  .obtain rfl:j=xs.length:=by omega
   refine QeB hc λp w=>?_;have:p=(c,c+1):=VF.1 w;subst this;have E:(Hs.reverse++X::X1::Zs).getD c []=X:=Qhh hcH;have s:(Hs.reverse++X::X1::Zs).getD (c+1) []=X1:=by
    have:=Qhh (X:=X1) (Zs:=Zs) (Hs:=X::Hs) (c:=c+1) (by rw[XU hcH];exact VJ _);simpa using this
   simp only;rw[E,s];exact QaC F Jb h hd
def QeP(T:TyX)(N m:Nat)(cat:Kat)(l:List Oper)(ds:List Nat)(env:Env)(n:Nat):Nat->Nat->Nat->List Qd->Qd->List Oper->List A->Option (List Qd×List Oper×List A)
 |0,_,_,Hs,X,r,xs=>some (Hs,r,xs)
 |_+1,_,_,_,_,[],_=>none
 |k+1,i,j,Hs,X,o::r,xs=>match o.dst with
  |none=>none
  |some d=>match Nat.blt d N with
   |false=>none
   |true=>match YW ⟨l⟩ o (Yc (Qi o) 0 ds xs env)with
    |none=>none
    |some false=>(match QcG xs (.tup [])with
      |.mk xs'=>match YU cat i with
       |some (0,_,_)=>QeP T N m cat l ds env n k (i+1) j Hs X r xs'
       |some (1,c,_)=>(match Nat.beq c j,Nat.ble n X.length with
        |true,true=>QeP T N m cat l ds env n k (i+1) (j+1) (X::Hs) X r xs'
        |_,_=>none)
       |_=>none)
    |some true=>match YU cat i with
     |some (0,lo,hi)=>(match Qdo T o (Yc (Qi o) 0 ds xs env) []with
      |some x=>(match QcG xs x with
       |.mk xs'=>QeP T N m cat l ds env n k (i+1) j Hs X r xs')
      |none=>match Nat.beq lo hi,Nat.beq lo j with
       |true,true=>(match Qdo T o (Yc (Qi o) 0 ds xs env) X with
        |none=>none
        |some x=>match QcG xs x with
         |.mk xs'=>QeP T N m cat l ds env n k (i+1) j Hs X r xs')
       |_,_=>none)
     |_=>none
theorem QbR(hT:QbK P T):∀(k i j:Nat) {Hs Hs':List Qd} {r r':List Oper} {xs xs':List A},i=xs.length->j=Hs.length->QeP T N m cat l ds env n k i j Hs X r xs=some (Hs',r',xs')->DK P N m bs cat l ds env n K Hs' X r' xs'->DK P N m bs cat l ds env n K Hs X r xs
 |0,i,j,Hs,Hs',r,r',xs,xs',_,_,h,k=>by cases h;exact k
 |k0+1,i,j,Hs,Hs',[],r',xs,xs',_,_,h,k=>by cases h
 |k0+1,i,j,Hs,Hs',o::r,r',xs,xs',hi,hj,h,k=>by
  subst hi hj;unfold QeP at h;split at h
  .cases h
  .rename_i d hd;split at h
   .cases h
   .rename_i q2;split at h
    .cases h
    .rename_i hw;simp only[Jc]at h;split at h
     .rename_i lo hi' q0;exact .wa (λX=>WO.skip (QP hw) hd q2 (WO.nil Y6.mk)) (QbR hT k0 _ _ (by simp) rfl h k) q0 hd
     .rename_i c c' q0;split at h
      .rename_i q1 q3;exact .op (WO.skip (QP hw) hd q2 (WO.nil Y6.mk)) (QbR hT k0 _ _ (by simp) (by simp) h k) q3 q0 hd q1
      .cases h
     .cases h
    .rename_i hw;split at h
     .rename_i lo hi' q0;split at h
      .rename_i x hv;simp only[Jc]at h;exact .wa (λX=>QF (QP hw) hd q2 (Qay hT (QeF hv)) (WO.nil Y6.mk)) (QbR hT k0 _ _ (by simp) rfl h k) q0 hd
      .split at h
       .rename_i q1 q3;split at h
        .cases h
        .rename_i x hv;simp only[Jc]at h;obtain rfl:=XU q1;exact .wo (QF (QP hw) hd q2 (Qay hT hv) (WO.nil Y6.mk)) (QbR hT k0 _ _ (by simp) rfl h k) q0 hd q3
       .cases h
     .cases h
theorem DK.v(h:OpV P o (Yc (Qi o) 0 ds xs env) X x)(k:DK P N m bs cat l ds env n K Hs X r (xs++[x])){c:Nat}(hg:YW ⟨l⟩ o (Yc (Qi o) 0 ds xs env)=some true:=by exact rfl)
  (hd:o.dst=some d:=by exact rfl)(hN:Nat.blt d N=true:=by exact rfl)(hc:YU cat xs.length=some (0,c,c):=by exact rfl)(hcH:Nat.beq c Hs.length=true:=by exact rfl):DK P N m bs cat l ds env n K Hs X (o::r) xs:=
 .wo (QF (QP hg) hd hN h (WO.nil Y6.mk)) k hc hd hcH
def allV(T:TyX)(o:Oper)(e:Env)(x:A):Nat->List Qd->Prop
 |0,_=>True
 |k+1,Y::r=>Qdo T o e Y=some x/\allV T o e x k r
 |_+1,[]=>False
theorem Qkg:∀(n lo:Nat),∀p∈Ql7 lo n,lo<=p.1/\p.1<=lo+n
 |0,lo,p,h=>by cases h with|head=>exact⟨XX _,XX _⟩|tail _ h=>cases h
 |n+1,lo,p,h=>by
  rcases Va.1 h with rfl|h
  .exact⟨XX _,Nat.le_add_right _ _⟩
  .have:=Qkg n _ p h;omega
def allW(P:Program)(N:Nat)(l:List Oper)(o:Oper)(e:Env)(d:Nat)(x:A):Nat->List Qd->Prop
 |0,_=>True
 |k+1,Y::r=>WO P Y.length N l.toArray [o] e Y (Y6 (up e d x) Y)/\allW P N l o e d x k r
 |_+1,[]=>False
theorem QkP{e:Env}:∀{k:Nat} {r:List Qd},allW P N l o e d x k r->∀j,j<k->WO P (r.getD j []).length N l.toArray [o] e (r.getD j []) (Y6 (up e d x) (r.getD j []))
 |0,_,_,j,hj=>absurd hj (Xn _)
 |k+1,[],h,_,_=>h.elim
 |k+1,Y::r,h,0,_=>h.1
 |k+1,Y::r,h,j+1,hj=>by
  have:=QkP h.2 j (by omega);simpa using this
theorem Qpg{lo hi:Nat}(h:allW P N l o (Yc (Qi o) 0 ds xs env) d x (hi+1-lo) (X::Hs))(k:DK P N m bs cat l ds env n K Hs X r (xs++[x]))
  (g:YU cat xs.length=some (0,lo,hi):=by exact rfl)(hd:o.dst=some d:=by exact rfl)(hcH:Nat.beq hi Hs.length=true:=by exact rfl)(hle:Nat.ble lo hi=true:=by exact rfl):DK P N m bs cat l ds env n K Hs X (o::r) xs:=
 .add (λys Zs ho=>QeB g λp a=>by
  have e:p.1=p.2:=QgY _ _ p a;have b:=XV hle;have s:lo<=p.1/\p.1<=lo+(hi-lo):=Qkg (hi-lo) lo p a;have j:=XU hcH;rw[<- e];have i:=QkP h (Hs.length-p.1) (by omega);have f:(Hs.reverse++X::Zs).getD p.1 []=(X::Hs).getD (Hs.length-p.1) []:=by
   rw[VP,VP];congr 1;rcases VG p.1 Hs.length with q|q
   .rw[XQ (by simpa using q),List.getElem?_reverse q,show Hs.length-p.1=Hs.length-1-p.1+1 by omega,XJ]
   .have:p.1=Hs.length:=by omega
    rw[this,XR (by simp)];simp
  rw[f];exact QaC ho Jb i hd) k
theorem DK.vs(g:QbK P T){lo hi:Nat}(h:allV T o (Yc (Qi o) 0 ds xs env) x (hi+1-lo) (X::Hs))(k:DK P N m bs cat l ds env n K Hs X r (xs++[x]))
  (i:YU cat xs.length=some (0,lo,hi))(e:o.dst=some d)(a:Nat.beq hi Hs.length=true)(hg:YW ⟨l⟩ o (Yc (Qi o) 0 ds xs env)=some true)(f:Nat.blt d N=true)(b:Nat.ble lo hi=true):DK P N m bs cat l ds env n K Hs X (o::r) xs:=by
 refine Qpg ?_ k i e a b;generalize hi+1-lo=c at h;generalize X::Hs=L at h
 induction c generalizing L with
 |zero=>trivial
 |succ c j=>
  cases L with
  |nil=>exact h.elim
  |cons Y L=>exact⟨QF (QP hg) e f (Qay g h.1) (WO.nil Y6.mk),j L h.2⟩
end
end Go.Sw
namespace Go.Sw
def room(n:Int):Option Nat:=bif decide (0<n)&&decide (n<=4294967296)then some n.toNat else none
section
variable {P:Program} {o:Oper} {env:Env} {H:Qd}
theorem Qj8{h0 i:Nat}{x x':Blk}(hH:H[i]?=some x)(e:x=x'):Le h0 env H env (H.set i x'):=by
 subst e;obtain⟨b,a⟩:=XP.1 hH;rw[<- a,List.set_getElem_self];exact Le.refl _ _ _
theorem RL.put{ro:Nat->Prop}{σ:Sig}{w:World}{k:Nat}:∀{a:Nat} {es fs:List (List A)} {l m:List Value},RL ro σ w k es l->a+fs.length<=es.length->Sw.allK k fs->LR ro σ w fs.flatten m->(∀v∈m,Qq v)->
  RL ro σ w k (es.take a++fs++es.drop (a+fs.length)) (Sw.splice l (a*k) m)
 |0,es,[],l,m,h,hn,hk,hm,hp=>by
  obtain rfl:m=[]:=hm;simpa[Sw.splice]using h
 |0,[],f::fs,l,m,h,hn,hk,hm,hp=>by simp at hn
 |0,c::es,f::fs,l,m,⟨l1,l2,h1,h2,h3,h4⟩,hn,hk,hm,hp=>by
  subst h1;have hl1:=h3.1.length;have hml:=hm.length;rw[Vq,X7]at hml;have e1:m.take k++m.drop k=m:=XC _ _;have q1:LR ro σ w f (m.take k):=by have:=hm.take k;rwa [Vq,Vb (by rw[hk.1];exact XX _),VM (by rw[hk.1];exact XX _)]at this
  have j:LR ro σ w fs.flatten (m.drop k):=by have:=hm.drop k;rwa [Vq,Vc (by rw[hk.1];exact XX _),List.drop_of_length_le (by rw[hk.1];exact XX _),Vl]at this
  have b:=RL.put (a:=0) h4 (by simpa using hn) hk.2 j (λv d=>hp v (List.mem_of_mem_drop d));simp only[List.take_zero,Vl,Xy,Nat.zero_mul,Sw.splice]at b⊢;refine⟨m.take k,m.drop k++l2.drop (m.drop k).length,?_,hk.1,⟨q1,λv d=>hp v (List.mem_of_mem_take d)⟩,by simpa using b⟩;have i:k<=m.length:=by rw[hml,hk.1];exact Nat.le_add_right _ _
  rw[<- Vm,e1];congr 1;rw[XB,show m.length=l1.length+(m.length-k)from by omega,Ve];have e:l1.length+(m.length-k)-k=m.length-k:=by omega
  rw[e]
 |a+1,[],fs,l,m,h,hn,hk,hm,hp=>by simp at hn
 |a+1,c::es,fs,l,m,⟨l1,l2,h1,h2,h3,h4⟩,hn,hk,hm,hp=>by
  subst h1;have hl1:=h3.1.length;have b:=RL.put (a:=a) h4 (by simp at hn;omega) hk hm hp;refine⟨l1,Sw.splice l2 (a*k) m,?_,h2,h3,?_⟩
  .have e1:(a+1)*k=l1.length+a*k:=by rw[Xm];omega
   unfold Sw.splice;rw[e1,Vf,show l1.length+a*k+m.length=l1.length+(a*k+m.length)from by omega,Ve];simp
  .have g:a+1+fs.length=(a+fs.length)+1:=by omega
   simpa[g]using b
def QlE(P:Program)(H:Qd)(x:A)(k:Nat)(es:List (List A)):Prop:=
 ∀fr ro σ w v,Sim fr ro σ H w->VR ro σ w x v->(∃a c,v=.slice a es.length c)/\
  ∀j,j<=es.length->allK k (es.take j)/\ ∃l,(Builtin.firstCells k j v).run P w=.ok l.toArray w/\LR ro [] w (es.take j).flatten l/\ ∀v∈l,Qq v
theorem QeM{fr ro:Nat->Prop}{σ:Sig}{w:World}{k j b off n c:Nat}{es:List (List A)}(h:RR ro [] w b k es off)(g:j<=es.length):
  allK k (es.take j)/\ ∃l,(Builtin.firstCells k j (.slice (some ⟨b,off,none⟩) n c)).run P w=.ok l.toArray w/\LR ro [] w (es.take j).flatten l/\ ∀v∈l,Qq v:=by
 obtain⟨i,f,a⟩:=(h.take j).flat;rw[XA,XE g]at a;obtain⟨l,e,d⟩:=Qb5 (P:=P) (n:=j) (c:=c) i a;refine⟨f,l,?_,d⟩;exact e w rfl
theorem Qcw{k n c:Nat}{a:Option Addr}{w:World}:(Builtin.firstCells k 0 (.slice a n c)).run P w=.ok #[] w:=by
 cases a<;>simp[Builtin.firstCells,loadCells,loadCellsFrom,go_sem]
theorem QoN{α:Type}{e:α->List A}{k:Nat}{l:List α}:QlE P H (.rsl k (l.map e)) k (l.map e):=by
 intro fr m σ w v s ⟨a,c,h1,h2,d⟩;subst h1;refine⟨⟨a,c,rfl⟩,λj f=>?_⟩;rcases d with d|⟨b,h,rfl,i,g⟩
 .rw[d]at f⊢;obtain rfl:j=0:=by simpa using f
  exact⟨trivial,[],Qcw,rfl,by simp⟩
 .exact QeM (fr:=fr) (σ:=σ) g f
theorem QlE.osl{i s n k t:Nat}{es es':List (List A)}(hH:H[i]?=some (.row t k es))(he:(es.drop s).take n=es')(G:s+n<=es.length):QlE P H (.osl i s n k) k es':=by
 intro fr J σ w v sm h;have f:es'.length=n:=by rw[<- he];simp;omega
 rcases h with⟨rfl,rfl⟩|⟨b,p,a,F,m,q,rfl,u,B,E,z⟩
 .have e:es'=[]:=VN.1 f;subst e;refine⟨⟨none,0,rfl⟩,λj d=>?_⟩;obtain rfl:j=0:=by simpa using d
  exact⟨trivial,[],Qcw,rfl,by simp⟩
 .rw[f];refine⟨⟨_,a,rfl⟩,λj d=>?_⟩;obtain⟨l,y,x⟩:=sm.blk i _ _ q hH;have g:=((YV (pre:=[]) (by simpa using y) x).drop s).take n;rw[he]at g;by_cases r:0<a
  .obtain rfl:=u r;simpa using QeM (P:=P) (fr:=fr) (σ:=σ) (n:=n) (c:=a) g (by rw[f];exact d)
  .obtain rfl:j=0:=by omega
   exact⟨trivial,[],Qcw,rfl,by simp⟩
theorem QoO{α:Type}{e:α->List A}{b t k:Nat}{l r:List α}{a c:Int}(h:slc l a c=some r)(hH:H[b]?=some (.row t k (l.map e)):=by exact rfl):QlE P H (.osl b (0+a.toNat) (c.toNat-a.toNat) k) k (r.map e):=by
 obtain⟨f,g,i,d⟩:=Qdq h;refine QlE.osl hH ?_ (by rw[X6];omega);rw[<- d, <- List.map_drop, <- List.map_take,Xy,List.drop_take]
def cpy{α:Type}(l:List α)(a c:Int)(m:List α):Option (List α):=some (l.take a.toNat++m.take (c.toNat-a.toNat)++l.drop (a.toNat+min m.length (c.toNat-a.toNat)))
theorem Qev{α:Type}{l r l' m:List α}{a c:Int}(h:slc l a c=some r)(b:cpy l a c m=some l'):l.length=l'.length:=by
 obtain⟨d,e,f,_⟩:=Qdq h;rw[<- X4 b];simp only[X7,XA,XB];omega
theorem QfC{α:Type}{l l' m:List α}(a:cpy l 0 (l.length:Int) m=some l'):l.length=l'.length:=by
 rw[<- X4 a];simp only[X7,XA,XB];simp;omega
theorem QgN{α:Type}{e:α->List A}{c:Call}{T T' et k b a n t:Nat}{x y:Operand}{ya:A}{l m l':List α}(ab:a+n<=l.length)(aa:l.take a++m.take n++l.drop (a+min m.length n)=l')(hT:∀w,(underlying T).run P w=.ok (.slice et) w)(B:∀w,(sizeOf et).run P w=.ok k w)(hs:QlE P H ya k (m.map e))
  (ho:o.op=.call c)(hc:c={callee:=.builtin .copy,args:= #[x,y],argTypes:= #[T,T']})(hx:opA env x=.osl b a n k)(hH:H[b]?=some (.row t k (l.map e)))(Q:opA env y=ya):
  OpH P o env H (.int .i64 (min m.length n:Nat)) (H.set b (.row t k (l'.map e))):=by
 intro X L σ N ac w r;have s:=Qg r x;rw[hx]at s;have h2:=Qg r y;rw[Q]at h2;obtain⟨⟨ay,cy,W⟩,q2⟩:=hs X L σ w _ r.sim h2;rw[X6]at W q2;obtain⟨q3,G,J,V,q6⟩:=q2 (min m.length n) (Nat.min_le_left _ _);have d:((m.map e).take (min m.length n)).length=min m.length n:=by rw[XA,X6];omega
 have z:l'.map e=(l.map e).take a++(m.map e).take (min m.length n)++(l.map e).drop (a+((m.map e).take (min m.length n)).length):=by
  rw[d, <- aa,Xg,Xg, <- List.map_take, <- List.map_take, <- List.map_drop];have e2:m.take (min m.length n)=m.take n:=by
   by_cases q:m.length<=n
   .rw[XE q,Vd,VM q]
   .rw[Nat.min_eq_right (by omega)]
  rw[e2]
 have g:(Builtin.copy_ #[T,T'] o.type #[ac.eval x,ac.eval y]).run P w=.ok (.int .i64 (min m.length n:Nat)) w->min m.length n=0->
   ∃v w' ro' τ,(execOp ac.eval o).run P w=.ok (.value v) w'/\VR ro' (σ++τ) w' (.int .i64 (min m.length n:Nat)) v/\Sim X ro' (σ++τ) (H.set b (.row t k (l'.map e))) w'/\Qh X L w ro' w':=by
  intro f hz;have hs:H.set b (.row t k (l'.map e))=H:=by
   have:l'.map e=l.map e:=by rw[z,d,hz];simp
   rw[this];obtain⟨hb,hv⟩:=XP.1 hH;rw[<- hv,List.set_getElem_self]
  refine⟨_,w,L,[],?_,rfl,by simpa[hs]using r.sim,Qh.refl _ _ _⟩;subst hc;generalize ac.eval=ρ at*;simp only[execOp,ho,resolve,Vr,Vs,Result.andThen,invoke,builtin,XM,Vn,Vp,f]
 have F:∀j:Nat,goInt j=.int .i64 j:=λ_=>rfl;rcases s with⟨M,s⟩|⟨bb,p,ae,t',mm,s,h3,h4,h5,h6,h7⟩
 .refine g ?_ (by omega);rw[W]at J⊢;rw[s];have:Nat.min m.length 0=min m.length n:=by rw[M]
  simp only[Builtin.copy_,XK,XI,XJ,Vr,hT,B,Result.andThen,Builtin.lenOf,Vs,this,J,F]
 .have h:∀R:Result Unit,(storeCells ⟨bb,p,none⟩ G).run P w=R->(Builtin.copy_ #[T,T'] o.type #[ac.eval x,ac.eval y]).run P w=R.andThen λ_ w=>.ok (.int .i64 (min m.length n:Nat)) w:=by
   intro R hR;rw[W]at J⊢;rw[h3];have:Nat.min m.length n=min m.length n:=rfl;simp only[Builtin.copy_,XK,XI,XJ,Vr,hT,B,Result.andThen,Builtin.lenOf,Vs,this,J,F,hR]
  by_cases M:min m.length n=0
  .have u:G=[]:=by
    have:=V.length;rw[M]at this;exact VN.1 (by simpa using this)
   refine g ?_ M;have:=h (.ok () w) (by rw[u];rfl);rw[this];rfl
  .obtain rfl:=h4 (by omega);obtain⟨l0,g1,g2⟩:=r.sim.blk b _ _ s hH;have O:=g2.length;have u:=V.length;rw[Yu q3,d]at u;have af:a*k+(min m.length n)*k<=l0.length:=by
    rw[<- XD];refine XZ (XF k ?_) O;rw[X6];omega
   have E:=Q5 (P:=P) (vs:=G) (a*k) 0 g1 (by omega) q6;rw[Xz]at E;have f:=h _ E;have i:=r.sim.set (x':=.row t k (l'.map e)) (obj:=.cells (splice l0 (a*k) G).toArray t (0,0)) s hH rfl
    (λy Q=>Qaf g1 (Q4 (by omega)) y Q)
    (λex Y=>⟨_,Y,by
     rw[z];exact(RL.put g2 (by rw[d,X6];omega) q3 V q6).mono ex.nil⟩)
   refine⟨_,_,L,[],?_,rfl,by simpa using i.1,i.2⟩;subst hc;generalize ac.eval=ρ at*;simp only[execOp,ho,resolve,Vr,Vs,Result.andThen,invoke,builtin,XM,Vn,Vp,f]
theorem QlS{α:Type}{e:α->List A}{c:Call}{T T' et k b t:Nat}{x y:Operand}{ya:A}{l m l':List α}(h:cpy l 0 (l.length:Int) m=some l')(f:∀w,(underlying T).run P w=.ok (.slice et) w)(a:∀w,(sizeOf et).run P w=.ok k w)(d:QlE P H ya k (m.map e))
  (g:o.op=.call c:=by exact rfl)(hc:c={callee:=.builtin .copy,args:= #[x,y],argTypes:= #[T,T']}:=by exact rfl)(hx:opA env x=.osl b 0 l.length k:=by exact rfl)(hH:H[b]?=some (.row t k (l.map e)):=by exact rfl)(hy:opA env y=ya:=by exact rfl):
  OpH P o env H (.int .i64 (min m.length l.length:Nat)) (H.set b (.row t k (l'.map e))):=by
 refine QgN (Nat.le_of_eq (Xy _)) ?_ f a d g hc hx hH hy;rw[<- X4 h];rfl
theorem QlT{α:Type}{e:α->List A}{c:Call}{T T' et k b t:Nat}{x y:Operand}{ya:A}{l f m l':List α}{i j:Int}(hi:slc l i j=some f)(h:cpy l i j m=some l')(g:∀w,(underlying T).run P w=.ok (.slice et) w)(d:∀w,(sizeOf et).run P w=.ok k w)(n:QlE P H ya k (m.map e))
  (p:o.op=.call c:=by exact rfl)(hc:c={callee:=.builtin .copy,args:= #[x,y],argTypes:= #[T,T']}:=by exact rfl)(hx:opA env x=.osl b (0+i.toNat) (j.toNat-i.toNat) k:=by exact rfl)(hH:H[b]?=some (.row t k (l.map e)):=by exact rfl)(hy:opA env y=ya:=by exact rfl):
  OpH P o env H (.int .i64 (min m.length (j.toNat-i.toNat):Nat)) (H.set b (.row t k (l'.map e))):=by
 obtain⟨q,s,r,u⟩:=Qdq hi;refine QgN (a:=i.toNat) (by omega) (X4 h) g d n p hc ?_ hH hy;rw[hx,Xy]
end
end Go.Sw
namespace Go.Sw
open Go.MapKept
section
variable {fr ro ro':Nat->Prop} {σ:Sig} {H:Qd} {w:World}
end
end Go.Sw
namespace Go.Sw
theorem gd20{α:Type}{n:Int}{x:Option α}{r:α}(h:(bif decide (n<20)then x else none)=some r):decide (20<=n)=false/\decide (20<n)=false/\x=some r:=by
 cases q:decide (n<20)with
 |false=>rw[q]at h;cases h
 |true=>
  rw[q]at h;have:=Vz q;exact⟨VB (by omega),VB (by omega),h⟩
def Qgn{α:Type}(l:List α)(o:Option (List α)):Option (List α):=o.bind λr=>bif Nat.beq l.length r.length then some r else none
theorem Qid{α:Type}{l r:List α}{o:Option (List α)}(h:Qgn l o=some r):o=some r/\l.length=r.length:=by
 cases o with
 |none=>cases h
 |some x=>
  have a:(bif Nat.beq l.length x.length then some x else none)=some r:=h;cases q:Nat.beq l.length x.length with
  |false=>rw[q]at a;cases a
  |true=>
   rw[q]at a;obtain rfl:=X4 a;exact⟨rfl,XU q⟩
theorem Qe8{α:Type}{l r:List α}{o:Option (List α)}(h:Qgn l o=some r):o=some r:=(Qid h).1
theorem Js{α:Type}{l r:List α}{o:Option (List α)}(h:Qgn l o=some r):l.length=r.length:=(Qid h).2
section
variable {P:Program} {o:Oper} {env:Env} {H:Qd} {α:Type} {e:α->List A}
end
end Go.Sw
namespace Go.Sw
open Go.MapKept
section
variable {P:Program} {o:Oper} {env:Env} {H:Qd}
theorem Qj5{T:Nat}(b:o.op=.makeMap T none:=by exact rfl):OpH P o env H (.map H.length) (H++[.mapP []]):=by
 intro e d σ N a w r;refine⟨.map (some w.heap.size),w.alloc (.map #[] 0),d,[some w.heap.size],?_,⟨w.heap.size,?_,rfl⟩,r.sim.alloc ⟨#[],0,Q9 _ _,rfl,by simp,by simp,by simp⟩,Qh.alloc _ r.sim.roLt r.sim.frLt⟩
 .generalize a.eval=ρ at*;simp only[execOp,b,Instr.makeMap,Xl,Vr];rfl
 .rw[<- r.sim.len];simp
variable {T kt et:Nat} {α β:Type} [DecidableEq α] {ek:α->A} {ev:β->A} {x y:Operand} {i:Nat} {l:List (α×β)} {k:α} {z0:β} {z:Value}
theorem QcI(K:Y0 P kt ek){v:β}(q:YB l k=some v)(J:P.underlying T=some (.map kt et))
  (G:o.op=.lookup T x y false:=by exact rfl)(hx:opA env x=.map i:=by exact rfl)(hH:H[i]?=some (.mapP (Qj ek ev l)):=by exact rfl)(hy:opA env y=ek k:=by exact rfl):OpV P o env H (ev v):=by
 intro W Y σ N a w r;have p:=Qg r x;rw[hx]at p;obtain⟨b,O,t⟩:=p;have g:=Qg r y;rw[hy]at g;have L:=VR.val (K.scl _) g;obtain⟨z,d,F,h,V,Q,E⟩:=r.sim.blk i _ _ O hH;obtain⟨M,u⟩:=ER.find K h k E;rcases K.find w k z.toList (QaV K h)with⟨n,f⟩|⟨j,e,n,f,B⟩
 .have:=(M f).1;rw[q]at this;cases this
 .obtain⟨X,R,m,s⟩:=u j e f B;rw[q]at m;obtain rfl:=X4 m;refine⟨e.val,?_,s⟩;simp only[execOp,G,t,L,Instr.lookup,Vr,run_underlying J,Result.andThen,MapKept.run_getObj_map F,Vs,K.check,n];rfl
theorem Qj0(K:Y0 P kt ek)(E:YB l k=none)(J:P.underlying T=some (.map kt et))(F:∀w,(zeroValue et).run P w=.ok (.pointer none) w)
  (G:o.op=.lookup T x y false:=by exact rfl)(hx:opA env x=.map i:=by exact rfl)(hH:H[i]?=some (.mapP (Qj ek ev l)):=by exact rfl)(hy:opA env y=ek k:=by exact rfl):OpV P o env H .nilp:=by
 intro W Y σ N a w r;have n:=Qg r x;rw[hx]at n;obtain⟨b,M,q⟩:=n;have f:=Qg r y;rw[hy]at f;have L:=VR.val (K.scl _) f;obtain⟨t,d,B,g,V,Q,z⟩:=r.sim.blk i _ _ M hH;obtain⟨f1,s⟩:=ER.find K g k z;rcases K.find w k t.toList (QaV K g)with⟨m,p⟩|⟨j,e,m,p,u⟩
 .refine⟨.pointer none,?_,rfl⟩;simp only[execOp,G,q,L,Instr.lookup,Vr,run_underlying J,Result.andThen,MapKept.run_getObj_map B,Vs,K.check,m,F];rfl
 .obtain⟨X,R,h,O⟩:=s j e p u;rw[E]at h;cases h
theorem QlR(K:Y0 P kt ek){v:β}{zz:Operand}(Y:YB l k=none)(hT:P.underlying T=some (.map kt et))
  (ho:o.op=.mapUpdate T x y zz:=by exact rfl)(hx:opA env x=.map i:=by exact rfl)(hH:H[i]?=some (.mapP (Qj ek ev l)):=by exact rfl)(m:opA env y=ek k:=by exact rfl)(hv:opA env zz=ev v:=by exact rfl):
  OpU P o env H (H.set i (.mapP (Qj ek ev (l++[(k,v)])))):=by
 intro fr ro σ N a w r;have O:=Qg r x;rw[hx]at O;obtain⟨b,Q,V⟩:=O;have B:=Qg r y;rw[m]at B;have h3:=VR.val (K.scl _) B;have E:=Qg r zz;rw[hv]at E;obtain⟨F,f,t,s,J,R,M⟩:=r.sim.blk i _ _ Q hH;obtain⟨f1,W⟩:=ER.find K s k M;have u:∀(obj:Obj) y,w.shape? b=some y->({w with heap:=w.heap.setIfInBounds b obj}:World).shape? b=some y:=by
  intro obj y m;unfold World.shape? at m;rw[t]at m;simp at m
 rcases K.find w k F.toList (QaV K s)with⟨L,z⟩|⟨j,e,L,z,X⟩
 .have g:=r.sim.set (x':=.mapP (Qj ek ev (l++[(k,v)]))) (obj:=.map (F.push {key:=QJ (ek k),val:=a.eval zz,born:=f}) (f+1)) Q hH rfl (u _)
   (λe h=>⟨_,_,h,by
    rw[Qj,Xg,Array.toList_push];exact(s.mono e).append ⟨_,_,rfl,(Qb1 (K.scl _)),E.mono e,rfl⟩,by
    rw[Array.toList_push];intro e h;rcases VH.1 h with q|q
    .exact Nat.lt_succ_of_lt (J e q)
    .simp at q;subst q;exact Xo _,by
    rw[Array.toList_push,Xg];refine List.nodup_append.2 ⟨R,by simp,?_⟩;intro c p d n;simp at n;subst n;obtain⟨e,h,rfl⟩:=Xf.1 p;exact Nat.ne_of_lt (J e h),by
    rw[Array.toList_push,Xg];refine List.nodup_append.2 ⟨M,by simp,?_⟩;intro c p d n;simp at n;subst n;obtain⟨e,h,rfl⟩:=Xf.1 p;exact z e h⟩)
  refine⟨_,ro,[],?_,by simpa using g.1,g.2⟩;simp only[execOp,ho,V,h3,Vr,Instr.mapUpdate,run_underlying hT,Result.andThen,MapKept.run_getObj_map t,K.check,L,MapKept.run_setObj_map _ t];rfl
 .obtain⟨u1,v',G,u3⟩:=W j e z X;rw[Y]at G;cases G
end
section
variable {fr ro:Nat->Prop} {σ:Sig} {H:Qd} {w:World}
theorem Sim.shutAny(s:Sim fr ro σ H w){i b:Nat}{p:Blk}(hσ:σ[i]?=some (some b))(hH:H[i]?=some p)(hl:p.live=true):
  Sim fr (λc=>ro c\/c=b) σ (H.set i .dead) w:=by
 have g:b<w.heap.size/\ ¬ro b/\ ¬fr b:=s.own i b _ hσ hH hl;have ext:Ext ro σ w (λc=>ro c\/c=b) σ w:=⟨λ_ q=>.inl q,λ_ _=>rfl,λ_ _ q=>q,λ_ _ q=>q⟩;have a:∀(j:Nat) (v:Blk),(H.set i .dead)[j]?=some v->v≠ .dead->j≠i/\H[j]?=some v:=by
  intro j v h m;by_cases e:j=i
  .subst e;rw[Xb]at h;simp only[if_true]at h;split at h
   .cases h;exact absurd rfl m
   .simp at h
  .rw[XT (λq=>e q.symm)]at h;exact⟨e,h⟩
 refine⟨by rw[X8];exact s.len,s.roOk.to (λ_ q=>.inl q) (λ_ _=>rfl) ?_,s.frLt,?_,?_,?_,?_,s.hidTo (· = ·) QY (XX _) (λj d x c P E B G=>G.elim id λq=>((s.hid j d x c P E B).ne i b _ hσ hH hl q).elim) (λ_ _ _ _ _ _ _ q=>q) λj d y M O J=>.inl ⟨j,y,rfl,M,(a j y O (QeC J)).2,id,λ_ q=>q⟩⟩
 .rintro c (q|rfl)
  .exact s.roLt c q
  .exact g.1
 .rintro c (q|rfl)
  .exact s.roFr c q
  .exact g.2.2
 .intro j c v k f l;obtain⟨e,f⟩:=a j v f (Qav l);obtain⟨N,z,L⟩:=s.own j c v k f l;refine⟨N,?_,L⟩;rintro(q|rfl)
  .exact z q
  .exact e (s.inj j i c v _ k hσ f hH l hl)
 .intro j u c v r k f l F t n;exact s.inj j u c v r k f (a j v l (Qav t)).2 (a u r F (Qav n)).2 t n
 .intro j y v k f;by_cases m:v≠ .dead
  .exact(s.blk j y v k (a j v f m).2).keep ext (λ_ _ _=>rfl) (λ_ _ _ _=>rfl)
  .obtain rfl:v=.dead:=Classical.not_not.1 m;trivial
def QbU(H:Qd):List Nat->Qd
 |[]=>H
 |i::l=>QbU (H.set i .dead) l
theorem Qgm{l:List Nat}:∀{H:Qd} {j:Nat},j∉l->(QbU H l)[j]?=H[j]? :=by
 induction l with
 |nil=>intro H j _;rfl
 |cons i l a=>
  intro H j hj;rw[Va,not_or]at hj;unfold QbU;rw[a hj.2,XT (λq=>hj.1 q.symm)]
theorem QdL:∀{l:List Nat} {ro:Nat->Prop} {H:Qd} (s:Sim fr ro σ H w),l.Nodup->(∀i∈l,∃x,H[i]?=some x/\x.live=true)->
  ∃ro',Sim fr ro' σ (QbU H l) w/\(∀c,ro c->ro' c)/\ ∀i∈l,∀b,σ[i]?=some (some b)->ro' b
 |[],ro,H,s,_,_=>⟨ro,s,λ_ q=>q,λ_ h=>by cases h⟩
 |i::l,ro,H,s,hn,hl=>by
  rw[List.nodup_cons]at hn;obtain⟨x,hx,hxl⟩:=hl i (by simp);have rest:∀i'∈l,∃x,(H.set i .dead)[i']?=some x/\x.live=true:=by
   intro i' a;obtain⟨y,p,m⟩:=hl i' (X9 _ a);exact⟨y,by rw[XT (λq=>hn.1 (by rw[q];exact a))];exact p,m⟩
  have r:∃q,σ[i]?=some q:=by
   have:i<σ.length:=by rw[s.len];exact(XP.1 hx).1
   exact⟨_,XO this⟩
  obtain⟨q,k⟩:=r;cases q with
  |some b=>
   obtain⟨ro',j,e,f⟩:=QdL (s.shutAny k hx hxl) hn.2 rest;refine⟨ro',j,λc n=>e c (.inl n),λi' a g d=>?_⟩;rcases Va.1 a with rfl|a
   .rw[k]at d;cases d;exact e _ (.inr rfl)
   .exact f i' a g d
  |none=>
   obtain⟨ro',j,e,f⟩:=QdL (s.kill i) hn.2 rest;refine⟨ro',j,e,λi' a g d=>?_⟩;rcases Va.1 a with rfl|a
   .rw[k]at d;cases d
   .exact f i' a g d
end
end Go.Sw
namespace Go.Sw
structure Fil (α β:Type) where
 number:Int
 r0:List α
 r1:List α
 r2:List α
 reports:List β
 appeal:Bool
 deriving DecidableEq
structure FK (α β:Type) where
 T:Nat
 tF:Nat
 kF:Nat
 tR:Nat
 kR:Nat
 eF:α->List A
 eR:β->List A
section
variable {α β:Type} (K:FK α β)
def Qm5(b:Nat)(x:Fil α β):List A:=[.int .i64 x.number,.osl (b+1) 0 x.r0.length K.kF,.osl (b+2) 0 x.r1.length K.kF,.osl (b+3) 0 x.r2.length K.kF,.osl (b+4) 0 x.reports.length K.kR,.bool x.appeal]
def QkE(b:Nat)(x:Fil α β):List Blk:=[.cells K.T (Qm5 K b x),.row K.tF K.kF (x.r0.map K.eF),.row K.tF K.kF (x.r1.map K.eF),.row K.tF K.kF (x.r2.map K.eF),.row K.tR K.kR (x.reports.map K.eR)]
def fall:Nat->List (Fil α β)->List Blk
 |_,[]=>[]
 |b,x::l=>QkE K b x++fall (b+5) l
def frp(x:Fil α β):List A:=[.int .i64 x.number,.rsl K.kF (x.r0.map K.eF),.rsl K.kF (x.r1.map K.eF),.rsl K.kF (x.r2.map K.eF),.rsl K.kR (x.reports.map K.eR),.bool x.appeal]
def fent:Nat->List (Fil α β)->List (Int×Nat)
 |_,[]=>[]
 |b,x::l=>(x.number,b)::fent (b+5) l
def Qeh(j:Nat):A:=.ptr j 0
def rpE(x:Fil α β):A:=.rp (frp K x)
def Qel(fs:List (Fil α β)):List (Int×Fil α β):=fs.map λx=>(x.number,x)
theorem Qgu(b:Nat)(x:Fil α β)(l:List (Fil α β)):fall K b (x::l)=QkE K b x++fall K (b+5) l:=rfl
theorem Qgt(b:Nat)(x:Fil α β):(QkE K b x).length=5:=rfl
end
section
variable {fr ro ro':Nat->Prop} {σ:Sig} {w:World}
theorem Qa0(sub:∀c,ro c->ro' c){i t k:Nat}{es:List (List A)}{v:Value}(u:∀b,σ[i]?=some (some b)->BR ro σ w (.row t k es) (some b)/\ro' b)(h:VR ro σ w (.osl i 0 es.length k) v):VR ro' [] w (.rsl k es) v:=by
 rcases h with⟨s,h⟩|⟨b,p,a,B,m,f,h,j,e,z,y⟩
 .have:es=[]:=VN.1 s;subst this;exact⟨none,0,h,XX _,.inl rfl⟩
 .refine⟨_,a,h,e,?_⟩;by_cases d:es=[]
  .exact .inl d
  .right;have g:0<a:=Vj (List.length_pos_iff.2 d) e;obtain rfl:=j g;obtain⟨⟨l,x,r⟩,n⟩:=u b f;refine⟨b,0,by simp,n,?_⟩;have:=YV (pre:=[]) (by simpa using x) r;exact this.keep ⟨sub,λ_ _=>rfl,λ_ _ q=>q,λ_ _ q=>q⟩ rfl
theorem QhM{ro:Nat->Prop}{w:World}{b t:Nat}:∀{cs:List A} {pre l:List Value},w.heap[b]?=some (.cells (pre++l).toArray t (0,0))->LR ro [] w cs l->(∀v∈l,Qq v)->CR ro [] w b cs pre.length
 |[],pre,l,_,_,_=>trivial
 |a::cs,pre,l,hb,hl,hp=>by
  obtain⟨v,l',rfl,h1,h2⟩:=hl;refine⟨⟨v,?_,hp v (by simp),h1⟩,?_⟩
  .unfold World.cell?;rw[hb];simp
  .have:=QhM (pre:=pre++[v]) (l:=l') (by simpa using hb) h2 λu hu=>hp u (X9 _ hu);simpa using this
variable {α β:Type} (K:FK α β)
theorem QoL(sub:∀c,ro c->ro' c){b:Nat}{x:Fil α β}{v:Value}(f:∀(d c:Nat) (y:Blk),(QkE K b x)[d]?=some y->σ[b+d]?=some (some c)->BR ro σ w y (some c)/\ro' c)(h:VR ro σ w (.ptr b 0) v):VR ro' [] w (.rp (frp K x)) v:=by
 obtain⟨c,B,i⟩:=h;obtain⟨⟨l,E,a,z⟩,r⟩:=f 0 c _ rfl B;refine⟨c,0,i,r,?_⟩;refine QhM (pre:=[]) (by simpa using E) ?_ z;unfold Qm5 at a;obtain⟨v0,N,rfl,k,a⟩:=a;obtain⟨p,H,rfl,G,a⟩:=a;obtain⟨g,J,rfl,q,a⟩:=a;obtain⟨m,L,rfl,j,a⟩:=a;obtain⟨F,O,rfl,s,a⟩:=a;obtain⟨u,M,rfl,n,a⟩:=a;refine⟨v0,_,rfl,k,p,_,rfl,Qa0 sub (t:=K.tF) (λc e=>f 1 c _ rfl e) (by simpa using G),g,_,rfl,Qa0 sub (t:=K.tF) (λc e=>f 2 c _ rfl e) (by simpa using q),m,_,rfl,Qa0 sub (t:=K.tF) (λc e=>f 3 c _ rfl e) (by simpa using j),
  F,_,rfl,Qa0 sub (t:=K.tR) (λc e=>f 4 c _ rfl e) (by simpa using s),u,_,rfl,n,a⟩
theorem Qn3(sub:∀c,ro c->ro' c){ek:Int->A}(hek:∀(k:Int) (v:Value),VR ro σ w (ek k) v->VR ro' [] w (ek k) v):∀{b:Nat} {fs:List (Fil α β)} {es:List MapEntry},(∀(d c:Nat) (y:Blk),(fall K b fs)[d]?=some y->σ[b+d]?=some (some c)->BR ro σ w y (some c)/\ro' c)->
  ER ro σ w (Qj ek Qeh (fent b fs)) es->ER ro' [] w (Qj ek (rpE K) (Qel fs)) es
 |b,[],es,_,h=>h
 |b,x::l,es,hb,h=>by
  obtain⟨e,l',rfl,h1,h2,h3⟩:=h;refine⟨e,l',rfl,hek _ _ h1,?_,?_⟩
  .refine QoL K sub (λd c y hy hc=>hb d c y ?_ hc) h2;rw[Qgu,XQ (XP.1 hy).1];exact hy
  .refine Qn3 sub hek (b:=b+5) (fs:=l) (λd c y hy hc=>hb (d+5) c y ?_ (by rw[show b+(d+5)=b+5+d by omega];exact hc)) h3;rw[Qgu,XR (by rw[Qgt];omega),Qgt,Nat.add_sub_cancel];exact hy
end
section
variable {fr ro:Nat->Prop} {σ:Sig} {w:World} {α β:Type} (K:FK α β)
theorem Sim.shutMapP{H:Qd}(s:Sim fr ro σ H w){i b:Nat}{es es':List (A×A)}(hσ:σ[i]?=some (some b))(hH:H[i]?=some (.mapP es))(he:∀l,ER ro σ w es l->ER (λc=>ro c\/c=b) [] w es' l):
  Sim fr (λc=>ro c\/c=b) σ (H.set i (.fmap es')) w:=by
 have m:b<w.heap.size/\ ¬ro b/\ ¬fr b:=s.own i b _ hσ hH rfl;have ext:Ext ro σ w (λc=>ro c\/c=b) σ w:=⟨λ_ q=>.inl q,λ_ _=>rfl,λ_ _ q=>q,λ_ _ q=>q⟩;have a:∀(j:Nat) (v:Blk),(H.set i (.fmap es'))[j]?=some v->v.live=true->j≠i/\H[j]?=some v:=by
  intro j v h z;by_cases e:j=i
  .subst e;rw[Xb]at h;simp only[if_true]at h;split at h
   .cases h;simp[Blk.live]at z
   .simp at h
  .rw[XT (λq=>e q.symm)]at h;exact⟨e,h⟩
 have g:∀(j:Nat) (v:Blk),(H.set i (.fmap es'))[j]?=some v->v.holds=true->H[j]?=some v:=by
  intro j v h z;by_cases e:j=i
  .subst e;rw[Xb]at h;simp only[if_true]at h;split at h
   .cases h;cases z
   .simp at h
  .rw[XT (λq=>e q.symm)]at h;exact h
 refine⟨by rw[X8];exact s.len,s.roOk.to (λ_ q=>.inl q) (λ_ _=>rfl) ?_,s.frLt,?_,?_,?_,?_,s.hidTo (· = ·) QY (XX _) (λj d x c R L J N=>N.elim id λq=>((s.hid j d x c R L J).ne i b _ hσ hH rfl q).elim) (λ_ _ _ _ _ _ _ q=>q) λj d y P Q O=>.inl ⟨j,y,rfl,P,g j y Q O,id,λ_ q=>q⟩⟩
 .rintro c (q|rfl)
  .exact s.roLt c q
  .exact m.1
 .rintro c (q|rfl)
  .exact s.roFr c q
  .exact m.2.2
 .intro j c v k f p;obtain⟨e,f⟩:=a j v f p;obtain⟨u,r,t⟩:=s.own j c v k f p;refine⟨u,?_,t⟩;rintro(q|rfl)
  .exact r q
  .exact e (s.inj j i c v _ k hσ f hH p rfl)
 .intro j G c v E k f p M F B;exact s.inj j G c v E k f (a j v p F).2 (a G E M B).2 F B
 .intro j y v k f;by_cases e:j=i
  .subst e;rw[Xa (XP.1 hH).1]at f;cases f;rw[hσ]at k;cases k;obtain⟨l,n,u,r,t⟩:=s.blk j _ _ hσ hH;exact⟨.inr rfl,l,n,u,he _ r,t⟩
  .rw[XT (λq=>e q.symm)]at f;exact(s.blk j y v k f).keep ext (λ_ _ _=>rfl) (λ_ _ _ _=>rfl)
end
end Go.Sw
namespace Go.Sw
open Go.Sort Go.Proofs Go.Shelf
theorem QmE{α:Type}{l:List α}(h:l.length=1):∃v,l=[v]:=by
 match l,h with
 |[v],_=>exact⟨v,rfl⟩
theorem Qfh{α β:Type}(f:α->β):∀l:List α,(l.map λa=>[f a]).flatten=l.map f
 |[]=>rfl
 |a::l=>by simp[Qfh f l]
structure Elt1 (ro:Nat->Prop) (w:World) {T:Type} (ea:T->A) (l:List T) where
 x:T
 v:Value
 mem:x∈l
 rel:VR ro [] w (ea x) v
 plain:Qq v
theorem QoV{P:Program}{ρ:Ren}(L0:SlLaysF0.n6 P ρ){T:Type}[DecidableEq T]{ea:T->A}{t g:Nat}{cap:List A}{l l':List T}{cf:T->T->Option Int}(hs:QbN cf l=some l')
  (ba:∀x y c,cf x y=some c->C P g ([ea x,ea y]++cap) [] (λa H=>a=.int .i64 c/\H=[]))
  (aE:∀w,(isAgg (ρ.t 24)).run P w=.ok false w)(zE:∀w,(Go.sizeOf (ρ.t 24)).run P w=.ok 1 w)(eg:∀args w,(callFunc g args).run P w=.ok (.enter g args) w)(hd:Yf cap=true):
  C P (ρ.f 6) [.osl 0 0 l.length 1,.fn (.func g) [] cap] [.row t 1 (l.map λx=>[ea x])] (λa H=>a=.tup []/\H=[.row t 1 (l'.map λx=>[ea x])]):=by
 have L:SlLaysF.n6 P ρ:={L0 with a24:=aE,z24:=zE};intro fr F σ vals w s hv;obtain⟨vs,r1,rfl,bk,vf,r2,rfl,be,hr⟩:=hv;cases(show r2=[]from hr);obtain⟨lf,lc,rfl,h1,a7⟩:=be;cases(show lf=[]from h1);have al:LR F [] w cap lc:=LR.data hd a7;obtain⟨a9,ag,J,aj,ay⟩:=QcM hs;have B:∀(ad:Option Addr) (c:Nat),vs=.slice ad 0 c->l=[]->
   Calls P (ρ.f 6) [vs,.func (.func g) #[] lc.toArray].toArray w λe w'=>∃v r H' ae τ,e=.returned v/\(r=.tup []/\H'=[.row t 1 (l'.map λx=>[ea x])])/\Sim fr ae (σ++τ) H' w'/\VR ae (σ++τ) w' r v/\Qh fr F w ae w':=by
  rintro ad c rfl rfl;have ac:l'=[]:=by rw[<- ay];rfl
  subst ac;refine(AnyF.slices_SortFunc_none L0 ad c (.func (.func g) #[] lc.toArray) w).mono ?_;rintro e w' ⟨rfl,rfl⟩;exact⟨_,_,_,F,[],rfl,⟨rfl,rfl⟩,by simpa using s,⟨[],rfl,rfl⟩,Qh.refl _ _ _⟩
 rcases bk with⟨h0,rfl⟩|⟨b,p,cp,t',m,q1,rfl,q2,q3,q4,q5⟩
 .exact B none 0 rfl (VN.1 h0)
 .by_cases ac:l=[]
  .subst ac;exact B _ cp rfl rfl
  .have bp:0<l.length:=List.length_pos_iff.2 ac;obtain rfl:=q2 (Vj bp q3);obtain⟨lv,e1,e2⟩:=s.blk 0 _ _ q1 rfl;obtain⟨hb,af,a3⟩:=s.own 0 b _ q1 rfl rfl;obtain⟨R,G,ax,rfl,bo⟩:=RL.parts e2
   let α:=Elt1 F w ea l
   have a2:∀p∈R,p.1∈l:=λp hp=>by rw[<- ax];exact VK hp
   have a4:∀p∈R,∃v,p.2=[v]/\VR F [] w (ea p.1) v/\Qq v:=by
    intro p hp;obtain⟨g1,g2,g3⟩:=bo p hp;obtain⟨v,e⟩:=QmE g1;rw[e]at g2 g3;obtain⟨v',l',e',g4,g5⟩:=g2;cases e';exact⟨v,e,g4,g3 v (by simp)⟩
   let val:List Value->Value:=λl=>l.headD .nilFunc
   have aa:∀p∈R,p.2=[val p.2]/\VR F [] w (ea p.1) (val p.2)/\Qq (val p.2):=by
    intro p hp;obtain⟨v,e,g⟩:=a4 p hp;rw[e];exact⟨rfl,g⟩
   let ds:List α:=R.attach.map λp=>⟨p.1.1,val p.1.2,a2 _ p.2,(aa _ p.2).2.1,(aa _ p.2).2.2⟩
   have az:∀{γ:Type} (f:T×List Value->γ),R.attach.map (λp=>f p.1)=R.map f:=λf=>by simp
   have Q:ds.map (·.x)=l:=by
    show(R.attach.map _).map _=_;rw[List.map_map];exact(az (·.1)).trans ax
   have a0:ds.map (·.v)=R.map λp=>val p.2:=by
    show(R.attach.map _).map _=_;rw[List.map_map];exact az λp=>val p.2
   have ar:ds.length=l.length:=by rw[<- Q];simp
   have aw:ds≠[]:=by intro q;rw[q]at ar;simp at ar;omega
   let inh:Inhabited α:=⟨ds.head aw⟩
   let enc':α->Value:=λa=>a.v
   let cf':α->α->Int:=λx y=>(cf x.x y.x).getD 0
   have ab:∀x y:α,ltOf cf' x y=ltO cf x.x y.x:=by
    intro x y;obtain⟨c,u⟩:=ag x.x x.mem y.x y.mem;simp only[ltOf,ltO,cf',u,Option.getD_some]
   have hO:SWO (ltOf cf'):=⟨λx=>by rw[ab];exact J.irrefl _ x.mem,λx y z a b=>by rw[ab]at*;exact J.trans _ x.mem _ y.mem _ z.mem a b,
    λx y z a b=>by rw[ab]at*;exact J.ntrans _ x.mem _ y.mem _ z.mem a b⟩
   have bn:(R.map (·.2)).flatten=ds.map enc':=by
    have e3:R.map (·.2)=(R.map λp=>val p.2).map λv=>[v]:=by
     rw[List.map_map];exact List.map_congr_left λp hp=>(aa p hp).1
    rw[e3, <- a0];have:=Qfh (λv:Value=>v) (ds.map (·.v));rw[this];simp[enc']
   rw[bn]at e1;have hH:Holds enc' w b 0 ds.toArray:=by
    intro j hj;simp only[List.size_toArray]at hj;constructor
    .unfold World.cell?;simp only[e1,Option.isSome_none,Xj,if_false,Xy];rw[Qac,XQ (by simpa using hj),Xq,Qfd _ _ hj];rfl
    .unfold World.frozen?;simp only[e1];simp
   have au:∀(d:Array α),d.size=ds.toArray.size->(putRow enc' w b 0 d).heap=w.heap.setIfInBounds b (.cells ((d.toList.map enc'++G)).toArray t (0,0)):=by
    intro d k;have am:(d.toList.map enc').length=(ds.map enc').length:=by simp at k⊢;rw[k]
    unfold putRow mapBlock;show w.heap.modify b _=_;rw[Qbe e1];simp only[onCells];congr 2;unfold putCells;apply Array.ext_getElem?;intro i;simp only[Array.getElem?_mapIdx,Qac,XY,true_and,Xy,Xx];by_cases hi:i<d.size
    .have V:i<(d.toList.map enc').length:=by simpa using hi
     rw[XQ V,XQ (by rw[<- am];exact V),XO (by rw[<- am];exact V),XO V];simp only[Xk,Vx hi];congr 1;rw[getElem!_pos d i hi];simp
    .have V:¬i<(d.toList.map enc').length:=by simpa using hi
     rw[XR (by omega),XR (by omega),am];cases(G[i-(ds.map enc').length]?)with
     |none=>rfl
     |some v=>exact congrArg some (Vw hi)
   have N:∀(m:Nat) (os:Array Obj) (d:Array α),d.size=ds.toArray.size->
     (∀c,c<w.heap.size->c≠b->(sortWorld enc' w b 0 m d os).heap[c]?=w.heap[c]?)/\(sortWorld enc' w b 0 m d os).heap[b]?=some (.cells ((d.toList.map enc'++G)).toArray t (0,0))/\
     w.heap.size<=(sortWorld enc' w b 0 m d os).heap.size:=by
    intro m os d k;have e:(sortWorld enc' w b 0 m d os).heap=w.heap.setIfInBounds b (.cells ((d.toList.map enc'++G)).toArray t (0,0))++os:=by
     rw[<- au d k];rfl
    rw[e];refine⟨λc u bh=>?_,?_,by simp⟩
    .rw[Array.getElem?_append_left (by simpa using u),Vi,Vw (λq=>bh q.symm)]
    .rw[Array.getElem?_append_left (by simpa using hb),Vi,Vx rfl,Vx hb]
   have O:∀(m:Nat) (os:Array Obj) (d:Array α),d.size=ds.toArray.size->∀c y,w.shape? c=some y->(sortWorld enc' w b 0 m d os).shape? c=some y:=by
    intro m os d k c y hy;obtain⟨g1,g2,g3⟩:=N m os d k;by_cases u:c=b
    .subst u;unfold World.shape? at hy⊢;rw[e1]at hy;rw[g2];simp only[Option.some.injEq]at hy⊢;rw[<- hy];congr 1;simp only[List.size_toArray,X7,X6];simp at k⊢;rw[k]
    .unfold World.shape? at hy⊢;rw[g1 c (QbO hy) u];exact hy
   have ah:∀(m:Nat) (os:Array Obj) (d:Array α),d.size=ds.toArray.size->∀τ,Ext F τ w F τ (sortWorld enc' w b 0 m d os):=by
    intro m os d k τ;obtain⟨g1,g2,g3⟩:=N m os d k;exact⟨λ_ q=>q,λc u=>g1 c (s.roLt c u) (λq=>af (q▸u)),O m os d k,λ_ _ q=>q⟩
   have bc:CmpLays1 P g lc.toArray enc' cf' b 0 ds.toArray.size w:=by
    intro m os dk av x y;obtain⟨c,u⟩:=ag x.x x.mem y.x y.mem;have E:=ah m os dk av [];have bm:=ba _ _ _ u;generalize hW:sortWorld enc' w b 0 m dk os=W at*;have bl:w.heap.size<=W.heap.size:=by rw[<- hW];exact(N m os dk av).2.2
    have sW:Sim (λc=>c<W.heap.size/\ ¬F c) F [] [] W:=
     ⟨rfl,s.roOk.to (λ_ q=>q) E.keep (λc u=>Vj (s.roLt c u) bl),λc u=>u.1,λc u hf=>hf.2 u,λi b x h=>by simp at h,λi j b x y h=>by simp at h,λi y x h=>by simp at h,λi b x c h=>by simp at h⟩
    have ak:LR F [] W ([ea x.x,ea y.x]++cap) ([x.v,y.v]++lc):=
     LR.append (show LR F [] W [ea x.x,ea y.x] [x.v,y.v]from⟨_,_,rfl,x.rel.mono E,_,_,rfl,y.rel.mono E,rfl⟩) (al.mono E)
    have M:=bm _ F [] _ W sW ak;have bf:(([x.v,y.v]++lc).toArray:Array Value)= #[enc' x,enc' y]++lc.toArray:=by simp[enc']
    rw[bf]at M;refine M.mono ?_;rintro e w' ⟨v,r,H',ae,τ,rfl,⟨rfl,rfl⟩,s',bb,ev⟩;refine⟨?_,?_⟩
    .rw[show v=.int .i64 c from bb];simp only[cf',u,Option.getD_some]
    .refine QkA (λc u=>?_) ev.size ev.os ev.tape ev.output ev.drawn;by_cases a8:F c
     .exact ev.keepRo c a8
     .exact ev.keepFr c ⟨u,a8⟩
   have X:ds.toArray.size=l.length:=by simpa using ar
   have bq:b+0=b:=rfl;have ai:=Any.slices_SortFunc L enc' (λx=>Qgh x.plain) cf' hO g lc.toArray b 0 cp ds.toArray w eg bc hH hb (by rw[X];unfold Qy at a9;omega);rw[X]at ai;rw[Nat.zero_mul];refine ai.mono ?_;rintro e w' ⟨rfl,d,n,os,Y,an,rfl⟩;have k:d.size=ds.toArray.size:=Y.1;obtain⟨g1,g2,g3⟩:=N n os d k;have ao:d.toList.Perm ds:=by
    have h:=Y.2.2;have x1:d.extract 0 l.length=d:=by rw[<- X, <- k];exact Array.extract_size
    have x2:ds.toArray.extract 0 l.length=ds.toArray:=by rw[<- X];exact Array.extract_size
    rw[x1,x2]at h;simpa using h
   have a5:d.toList.map (·.x)=l':=by
    rw[<- ay];refine Jn (lt:=ltO cf) ?_ ?_ ?_ (QS J)
    .exact((ao.map (·.x)).trans (by rw[Q])).trans (Qn _ _).symm
    .intro x hx y hy;have bd:x∈l:=by rw[<- Q];exact(ao.map (·.x)).mem_iff.1 hx
     have bg:y∈l:=by rw[<- Q];exact(ao.map (·.x)).mem_iff.1 hy
     exact aj x bd y bg
    .rw[VI];intro i j hi hj bi;simp only[X6]at hi hj;simp only[List.getElem_map];rw[<- ab];have:=an i j (XY _) bi (by rw[<- X, <- k];simpa using hj);rw[getElem!_pos d j (by simpa using hj),getElem!_pos d i (by simpa using hi)]at this;simpa using this
   have bj:RL F [] (sortWorld enc' w b 0 n d os) 1 (l'.map λx=>[ea x]) (d.toList.map enc'++G):=by
    have e3:d.toList.map enc'=((d.toList.map λa=>(a.x,[a.v])).map (·.2)).flatten:=by
     rw[List.map_map];exact(Qfh (λa:α=>a.v) d.toList).symm
    have e4:l'=(d.toList.map λa=>(a.x,[a.v])).map (·.1):=by rw[<- a5];simp
    rw[e3,e4];refine Qb2 (enc:=λx=>[ea x]) (λ_=>rfl) ?_;intro p hp;obtain⟨a,_,rfl⟩:=Xf.1 hp;exact⟨⟨_,_,rfl,a.rel.mono (ah n os d k []),rfl⟩,λv hv=>by rw[VF.1 hv];exact a.plain⟩
   have a1:Qh fr F w F (sortWorld enc' w b 0 n d os):=
    ⟨λ_ q=>q,λc u=>g1 c (s.roLt c u) (λq=>af (q▸u)),λc u=>g1 c (s.frLt c u) (λq=>a3 (q▸u)),g3,O n os d k,rfl,rfl,rfl,Nat.le_add_right _ _⟩
   have aq:σ.length=1:=s.len;have a6:Sim fr F σ [.row t 1 (l'.map λx=>[ea x])] (sortWorld enc' w b 0 n d os):=by
    have i0:∀{i:Nat} {x:Blk},([.row t 1 (l'.map λx=>[ea x])]:Qd)[i]?=some x->i=0/\x=.row t 1 (l'.map λx=>[ea x]):=by
     intro i x h;cases i with
     |zero=>simp at h;exact⟨rfl,h.symm⟩
     |succ i=>simp at h
    refine⟨aq,s.roOk.to (λ_ q=>q) a1.keepRo (λc u=>Vj (s.roLt c u) g3),λc u=>Vj (s.frLt c u) g3,s.roFr,λi c x h1 h2 h3=>?_,λi j c x y h1 h2 h3 h4 _ _=>?_,λi y x h1 h2=>?_,λi b x c h1 h2 h3=>by obtain⟨rfl,rfl⟩:=i0 h2;exact h3.elim⟩
    .obtain⟨rfl,rfl⟩:=i0 h2;obtain⟨p1,p2⟩:=s.own 0 c _ h1 rfl rfl;exact⟨Vj p1 g3,p2⟩
    .rw[(i0 h3).1,(i0 h4).1]
    .obtain⟨rfl,rfl⟩:=i0 h2;rw[q1]at h1;cases h1;exact⟨_,g2,bj⟩
   exact⟨_,_,_,F,[],rfl,⟨rfl,rfl⟩,by simpa using a6,⟨[],rfl,rfl⟩,a1⟩
end Go.Sw
namespace Go.Sw
structure Pl where
 b:Nat
 i0:Nat
 i1:Nat
 i2:Nat
 i3:Nat
def Pl.ix(p:Pl):List Nat:=[p.b,p.i0,p.i1,p.i2,p.i3]
section
variable {α β:Type} (K:FK α β)
def Q0(p:Pl)(x:Fil α β):List A:=[.int .i64 x.number,.osl p.i0 0 x.r0.length K.kF,.osl p.i1 0 x.r1.length K.kF,.osl p.i2 0 x.r2.length K.kF,.osl p.i3 0 x.reports.length K.kR,.bool x.appeal]
structure QbF (H:Qd) (x:Fil α β) (p:Pl):Prop where
 c:H[p.b]?=some (.cells K.T (Q0 K p x))
 r0:H[p.i0]?=some (.row K.tF K.kF (x.r0.map K.eF))
 r1:H[p.i1]?=some (.row K.tF K.kF (x.r1.map K.eF))
 r2:H[p.i2]?=some (.row K.tF K.kF (x.r2.map K.eF))
 r3:H[p.i3]?=some (.row K.tR K.kR (x.reports.map K.eR))
abbrev QaW(α β:Type):=List (Fil α β×Pl)
def YP(bk:QaW α β):List (Int×Nat):=bk.map λe=>(e.1.number,e.2.b)
structure Yv (lo:Nat) (H:Qd) (bk:QaW α β):Prop where
 laid:∀e∈bk,QbF K H e.1 e.2
 own:∀e∈bk,e.2.ix.Nodup
 ne:bk.Pairwise λe f=>∀i∈e.2.ix,i∉f.2.ix
 lo:∀e∈bk,∀i∈e.2.ix,lo<=i
 num:(bk.map (·.1.number)).Nodup
variable {K} {lo:Nat} {H H':Qd} {bk l r:QaW α β} {e:Fil α β×Pl} {x':Fil α β} {p':Pl}
theorem Yv.nil:Yv K lo H ([]:QaW α β):=⟨(λ_ h=>by cases h),(λ_ h=>by cases h),List.Pairwise.nil,(λ_ h=>by cases h),List.nodup_nil⟩
theorem QbF.lt(h:QbF K H e.1 e.2):∀i∈e.2.ix,i<H.length:=by
 intro i a;have g:∀{j:Nat} {y:Blk},H[j]?=some y->j<H.length:=λq=>(XP.1 q).1;simp only[Pl.ix,Va,List.not_mem_nil,or_false]at a;rcases a with rfl|rfl|rfl|rfl|rfl
 .exact g h.c
 .exact g h.r0
 .exact g h.r1
 .exact g h.r2
 .exact g h.r3
theorem QbF.keep(h:QbF K H e.1 e.2)(k:∀i∈e.2.ix,H'[i]?=H[i]?):QbF K H' e.1 e.2:=by
 refine⟨?_,?_,?_,?_,?_⟩
 .rw[k _ (by simp[Pl.ix])];exact h.c
 .rw[k _ (by simp[Pl.ix])];exact h.r0
 .rw[k _ (by simp[Pl.ix])];exact h.r1
 .rw[k _ (by simp[Pl.ix])];exact h.r2
 .rw[k _ (by simp[Pl.ix])];exact h.r3
theorem Yv.keep(h:Yv K lo H bk)(k:∀j,lo<=j->j<H.length->H'[j]?=H[j]?):Yv K lo H' bk:=
 ⟨λe he=>(h.laid e he).keep λi hi=>k i (h.lo e he i hi) ((h.laid e he).lt i hi),h.own,h.ne,h.lo,h.num⟩
theorem Yv.upd(h:Yv K lo H (l++e::r))(E:QbF K H' x' p')(x:x'.number=e.1.number)(z:∀j,lo<=j->j<H.length->j∉e.2.ix->H'[j]?=H[j]?)
  (hi:∀i∈p'.ix,i∈e.2.ix\/H.length<=i)(B:p'.ix.Nodup)(hl:lo<=H.length):Yv K lo H' (l++(x',p')::r):=by
 obtain⟨y,u,n⟩:=List.pairwise_append.1 h.ne;obtain⟨t,w⟩:=Xc.1 u;have mem:∀f∈l++(x',p')::r,f=(x',p')\/(f∈l++e::r/\ ∀i∈f.2.ix,i∉e.2.ix):=by
  intro f b;rcases VH.1 b with q|q
  .exact .inr ⟨List.mem_append_left _ q,λi hi a=>n f q e (by simp) i hi a⟩
  .rcases Va.1 q with q|q
   .exact .inl q
   .exact .inr ⟨by simp[q],λi hi a=>t f q i a hi⟩
 refine⟨?_,?_,?_,?_,?_⟩
 .intro f b;rcases mem f b with rfl|⟨k,p⟩
  .exact E
  .exact(h.laid f k).keep λi hi=>z i (h.lo f k i hi) ((h.laid f k).lt i hi) (p i hi)
 .intro f b;rcases mem f b with rfl|⟨k,p⟩
  .exact B
  .exact h.own f k
 .refine List.pairwise_append.2 ⟨y,Xc.2 ⟨?_,w⟩,?_⟩
  .intro f b i a d;rcases hi i a with q|q
   .exact t f b i q d
   .have:=(h.laid f (by simp[b])).lt i d;omega
  .intro f b g s i d m;rcases Va.1 s with rfl|s
   .rcases hi i m with q|q
    .exact n f b e (by simp) i d q
    .have:=(h.laid f (by simp[b])).lt i d;omega
   .exact n f b g (by simp[s]) i d m
 .intro f b;rcases mem f b with rfl|⟨k,p⟩
  .intro i a;rcases hi i a with q|q
   .exact h.lo e (by simp) i q
   .omega
  .exact h.lo f k
 .have:=h.num;rw[Xg,Vn]at this⊢;show(_++x'.number::_).Nodup;rw[x];exact this
theorem Yv.add(h:Yv K lo H bk)(w:QbF K H' x' p')(r:∀e∈bk,e.1.number≠x'.number)(t:∀j,lo<=j->j<H.length->H'[j]?=H[j]?)
  (hi:∀i∈p'.ix,H.length<=i)(n:p'.ix.Nodup)(hl:lo<=H.length):Yv K lo H' (bk++[(x',p')]):=by
 have s:=h.keep t;have mem:∀f∈bk++[(x',p')],f∈bk\/f=(x',p'):=by
  intro f d;rcases VH.1 d with q|q
  .exact .inl q
  .exact .inr (VF.1 q)
 refine⟨?_,?_,?_,?_,?_⟩
 .intro f d;rcases mem f d with q|rfl
  .exact s.laid f q
  .exact w
 .intro f d;rcases mem f d with q|rfl
  .exact h.own f q
  .exact n
 .refine List.pairwise_append.2 ⟨h.ne,by simp,λf d g u i k l=>?_⟩;obtain rfl:=VF.1 u;have:=(h.laid f d).lt i k;have:=hi i l;omega
 .intro f d i k;rcases mem f d with q|rfl
  .exact h.lo f q i k
  .have:=hi i k;omega
 .rw[Xg];refine List.nodup_append.2 ⟨h.num,by simp,?_⟩;intro a p b m;simp at m;subst m;obtain⟨f,d,rfl⟩:=Xf.1 p;exact r f d
theorem QdI:∀(d:QaW α β) (k:Int),(YB (YP d) k=none/\ ∀e∈d,e.1.number≠k)\/ ∃l e r,d=l++e::r/\e.1.number=k/\(∀y∈l,y.1.number≠k)/\YB (YP d) k=some e.2.b
 |[],k=>.inl ⟨rfl,λ_ h=>by cases h⟩
 |e::l,k=>by
  have e0:YB (YP (e::l)) k=if e.1.number=k then some e.2.b else YB (YP l) k:=by
   show YB ((e.1.number,e.2.b)::YP l) k=_;simp[YB];by_cases q:e.1.number=k<;>simp[q]
  by_cases q:e.1.number=k
  .exact .inr ⟨[],e,l,rfl,q,(λ_ h=>by cases h),by rw[e0,Vx q]⟩
  .rcases QdI l k with⟨f,g⟩|⟨p,y,r,f,g,i,j⟩
   .refine .inl ⟨by rw[e0,Vw q];exact f,λz a=>?_⟩;rcases Va.1 a with rfl|a
    .exact q
    .exact g z a
   .refine .inr ⟨e::p,y,r,by rw[f];rfl,g,λz a=>?_,by rw[e0,Vw q,j]⟩;rcases Va.1 a with rfl|a
    .exact q
    .exact i z a
theorem Qly(p q:QaW α β):YP (p++q)=YP p++YP q:=by simp[YP]
theorem Qlx(a:x'.number=e.1.number)(d:p'.b=e.2.b):YP (l++(x',p')::r)=YP (l++e::r):=by simp[YP,a,d]
end
section
variable {fr ro ro':Nat->Prop} {σ:Sig} {w:World} {α β:Type} (K:FK α β)
theorem QnE(sub:∀c,ro c->ro' c){p:Pl}{x:Fil α β}{v:Value}{H:Qd}(hl:QbF K H x p)(e:∀i∈p.ix,∀(c:Nat) (y:Blk),H[i]?=some y->σ[i]?=some (some c)->BR ro σ w y (some c)/\ro' c)(h:VR ro σ w (.ptr p.b 0) v):VR ro' [] w (.rp (frp K x)) v:=by
 obtain⟨c,E,g⟩:=h;obtain⟨⟨l,F,a,B⟩,s⟩:=e p.b (by simp[Pl.ix]) c _ hl.c E;refine⟨c,0,g,s,?_⟩;refine QhM (pre:=[]) (by simpa using F) ?_ B;unfold Q0 at a;obtain⟨v0,P,rfl,k,a⟩:=a;obtain⟨q,L,rfl,J,a⟩:=a;obtain⟨f,M,rfl,r,a⟩:=a;obtain⟨m,N,rfl,j,a⟩:=a;obtain⟨G,Q,rfl,u,a⟩:=a;obtain⟨z,O,rfl,n,a⟩:=a;refine⟨v0,_,rfl,k,q,_,rfl,Qa0 sub (t:=K.tF) (λc d=>e p.i0 (by simp[Pl.ix]) c _ hl.r0 d) (by simpa using J),f,_,rfl,Qa0 sub (t:=K.tF) (λc d=>e p.i1 (by simp[Pl.ix]) c _ hl.r1 d) (by simpa using r),m,_,rfl,Qa0 sub (t:=K.tF) (λc d=>e p.i2 (by simp[Pl.ix]) c _ hl.r2 d) (by simpa using j),
  G,_,rfl,Qa0 sub (t:=K.tR) (λc d=>e p.i3 (by simp[Pl.ix]) c _ hl.r3 d) (by simpa using u),z,_,rfl,n,a⟩
theorem QgR(sub:∀c,ro c->ro' c){H:Qd}{ek:Int->A}(hek:∀(k:Int) (v:Value),VR ro σ w (ek k) v->VR ro' [] w (ek k) v):∀{bk:QaW α β} {es:List MapEntry},(∀e∈bk,QbF K H e.1 e.2)->(∀e∈bk,∀i∈e.2.ix,∀(c:Nat) (y:Blk),H[i]?=some y->σ[i]?=some (some c)->BR ro σ w y (some c)/\ro' c)->
  ER ro σ w (Qj ek Qeh (YP bk)) es->ER ro' [] w (Qj ek (rpE K) (Qel (bk.map (·.1)))) es
 |[],es,_,_,h=>h
 |x::l,es,hl,hb,h=>by
  obtain⟨e,l',rfl,h1,h2,h3⟩:=h;exact⟨e,l',rfl,hek _ _ h1,QnE K sub (hl x (by simp)) (hb x (by simp)) h2,QgR sub hek (λe he=>hl e (by simp[he])) (λe he=>hb e (by simp[he])) h3⟩
def Qcq(bk:QaW α β):List Nat:=bk.flatMap λe=>e.2.ix
theorem Yv.all{lo:Nat}{H:Qd}:∀{j:QaW α β},Yv K lo H j->(Qcq j).Nodup/\ ∀i∈Qcq j,lo<=i/\ ∃y,H[i]?=some y/\y.live=true:=by
 intro j h;refine⟨?_,?_⟩
 .have q:=h.own;have u:=h.ne;clear h
  induction j with
  |nil=>exact List.nodup_nil
  |cons e l t=>
   obtain⟨w,r⟩:=Xc.1 u;show(e.2.ix++Qcq l).Nodup;refine List.nodup_append.2 ⟨q e (by simp),t (λf n=>q f (by simp[n])) r,?_⟩;intro a s b x k;obtain⟨f,n,m⟩:=List.mem_flatMap.1 x;exact w f n a s (k▸m)
 .intro i d;obtain⟨e,p,d⟩:=List.mem_flatMap.1 d;refine⟨h.lo e p i d,?_⟩;have g:=h.laid e p;simp only[Pl.ix,Va,List.not_mem_nil,or_false]at d;rcases d with rfl|rfl|rfl|rfl|rfl
  .exact⟨_,g.c,rfl⟩
  .exact⟨_,g.r0,rfl⟩
  .exact⟨_,g.r1,rfl⟩
  .exact⟨_,g.r2,rfl⟩
  .exact⟨_,g.r3,rfl⟩
end
section
variable {α β:Type} (K:FK α β) {env:Env} {H:Qd}
theorem QnT{h0 lo m:Nat}{g:QaW α β}(F:Yv K lo H g)(p:Nat.blt m lo=true)(t:H[m]?=some (.mapP (Qj (λn=>.int .i64 n) Qeh (YP g)))):
  Le h0 env H env ((QbU H (Qcq g)).set m (.fmap (Qj (λn=>.int .i64 n) (rpE K) (Qel (g.map (·.1)))))):=by
 intro R ro σ N a w r;have s:=r.sim;obtain⟨nd,f⟩:=F.all;have L:m<lo:=by simpa[Nat.blt_eq]using p
 have O:∃q,σ[m]?=some q:=by
  have:m<σ.length:=by rw[s.len];exact(XP.1 t).1
  exact⟨_,XO this⟩
 obtain⟨q,E⟩:=O;cases q with
 |none=>exact(s.blk m _ _ E t).elim
 |some x=>
 obtain⟨b,P,d,u⟩:=QdL s (l:=Qcq g) nd (λi B=>(f i B).2);have z:(QbU H (Qcq g))[m]?=some (.mapP (Qj (λn=>.int .i64 n) Qeh (YP g))):=by
  rw[Qgm (λq=>by have:=(f m q).1;omega)];exact t
 have M:=P.shutMapP (es':=Qj (λn=>.int .i64 n) (rpE K) (Qel (g.map (·.1)))) E z (λl Q=>?_)
 .have sub:∀c,ro c->b c\/c=x:=λc j=>.inl (d c j);have ext:Ext ro σ w (λc=>b c\/c=x) σ w:=⟨sub,λ_ _=>rfl,λ_ _ q=>q,λ_ _ q=>q⟩;exact⟨_,σ,⟨M,λq=>(r.env q).mono ext,r.size,r.defers⟩,sub,rfl⟩
 .have ext:Ext ro σ w b σ w:=⟨d,λ_ _=>rfl,λ_ _ q=>q,λ_ _ q=>q⟩;refine QgR K (ek:=λn=>.int .i64 n) (ro:=b) (ro':=λc=>b c\/c=x) (H:=H) (λc j=>.inl j) (λk v h=>h) F.laid (λe G i B c y J j=>?_) Q;exact⟨(s.blk _ _ _ j J).keep ext (λ_ _ _=>rfl) (λ_ _ _ _=>rfl),.inl (u _ (List.mem_flatMap.2 ⟨e,G,B⟩) c j)⟩
end
end Go.Sw
namespace Go.Sw
section
variable {P:Program} {h0 N:Nat} {all:Array Oper} {o:Oper} {l:List Oper} {env:Env} {H:Qd} {Q:QB}
theorem QcH{d:Nat}{f:FuncId}{args:List A}{Qr:A->Qd->Prop}(i:OpC P o env H f args)(x:C P f args H Qr)
  (k:∀r H1,Qr r H1->WO P h0 N all l (up env d r) H1 Q)(G:h0<=H.length)(hg:Qp all o env true:=by exact rfl)(hd:o.dst=some d:=by exact rfl)(hN:Nat.blt d N=true:=by exact rfl):
  WO P h0 N all (o::l) env H Q:=by
 intro y fr n σ a w r hrd;obtain⟨g,u,z⟩:=i fr n σ N a w r;refine Qdm (YD hg r) u ?_;have hσl:=r.sim.len;refine Calls.mono (x fr n σ g w r.sim z) ?_;rintro e j ⟨v,m,H1,b,τ,rfl,E,p,B,ev⟩;have t:=k m H1 E;simp only[hd,Act.put];have h:d<N:=by simpa[Nat.blt_eq]using hN
 have F:Rel fr b (σ++τ) H1 (up env d m) N {a with tmps:=a.tmps.setIfInBounds d v} j:=
  ⟨p,VR.up (fr:=fr) (λs=>(r.env s).mono (ev.ext σ τ)) (by rw[r.size];exact h) B,by simpa using r.size,r.defers.keep ev⟩
 exact⟨_,rfl,Yh (λe a w q=>q.step ev (Qv (by omega))) _ _ _ (t y fr b (σ++τ) _ j F (hrd.to ev λ_ q=>q))⟩
end
section
variable {h0 n:Nat} {env env':Env} {H H':Qd}
theorem QnV(n:Nat)(hn:h0<=n)(hl:n<=H.length)(hH:(H'.map (QU (rho (List.range n) H.length))).map some=(List.range n).map (λp=>H[p]?))(hE:Qef (rho (List.range n) H.length) env env'):Le h0 env H env' H':=
 QnU (List.range n) (by rw[List.take_range,XE hn]) hH.symm List.nodup_range hE
end
section
variable {P:Program} {o:Oper} {env:Env} {H:Qd} {α:Type}
end
end Go.Sw
namespace Go.Sw
section
variable {α β:Type}
def Qar(k:Int):Fil α β:=⟨k,[],[],[],[],false⟩
def Qai(fs:List (Fil α β))(k:Int):List (Fil α β):=bif fs.any (λx=>decide (x.number=k))then fs else fs++[Qar k]
def Qbp(fs:List (Fil α β))(k:Int)(g:Fil α β->Fil α β):List (Fil α β):=fs.map λx=>bif decide (x.number=k)then g x else x
def QdX(fs:List (Fil α β)):Bool:=fs.all λx=>Nat.ble (x.r0.length+1) Qy&&Nat.ble (x.r1.length+1) Qy&&Nat.ble (x.r2.length+1) Qy&&Nat.ble (x.reports.length+1) Qy
variable (K:FK α β) {lo:Nat} {H H':Qd} {bk:QaW α β}
theorem QcZ{fs:List (Fil α β)}{k:Int}(h:∃x∈fs,x.number=k):Qai fs k=fs:=by
 unfold Qai;have:fs.any (λx=>decide (x.number=k))=true:=by
  obtain⟨x,a,e⟩:=h;exact Xv.2 ⟨x,a,by simp[e]⟩
 rw[this];rfl
theorem QbW{fs:List (Fil α β)}{k:Int}(h:∀x∈fs,x.number≠k):Qai fs k=fs++[Qar k]:=by
 unfold Qai;have:fs.any (λx=>decide (x.number=k))=false:=by
  rw[List.any_eq_false];intro x a;simp[h x a]
 rw[this];rfl
theorem Qob{l r:List (Fil α β)}{x:Fil α β}{k:Int}{g:Fil α β->Fil α β}(i:((l++x::r).map (·.number)).Nodup)(b:x.number=k):Qbp (l++x::r) k g=l++g x::r:=by
 rw[Xg,Vn,List.nodup_append]at i;obtain⟨p,d,n⟩:=i;rw[List.nodup_cons]at d;have e:∀m:List (Fil α β),(∀y∈m,y.number≠k)->Qbp m k g=m:=by
  intro m j;unfold Qbp
  conv=>rhs;rw[<- List.map_id m]
  exact List.map_congr_left λy a=>by simp[j y a]
 have h:=e l (λy a q=>n y.number (VK a) x.number (by simp) (by rw[q,b]));have f:=e r (λy a q=>d.1 (by rw[b, <- q];exact VK a));unfold Qbp at h f⊢;rw[Xg,Vn,h,f];simp[b]
theorem Qh1{l r:List (Fil α β)}{x:Fil α β}(h:QdX (l++x::r)=true):x.r0.length+1<=Qy/\x.r1.length+1<=Qy/\x.r2.length+1<=Qy/\x.reports.length+1<=Qy:=by
 unfold QdX at h;have:=Xu.1 h x (by simp);simp only[X0]at this;obtain⟨⟨⟨a,e⟩,b⟩,d⟩:=this;exact⟨XV a,XV e,XV b,XV d⟩
def QaX(n:Nat):Pl:=⟨n,n+1,n+2,n+3,n+4⟩
def Qb8(n:Nat)(k:Int):Qd:=[.cells K.T (Q0 K (QaX n) (Qar k)),.row K.tF K.kF [],.row K.tF K.kF [],.row K.tF K.kF [],.row K.tR K.kR []]
theorem Qj9{h0:Nat}{env:Env}{k:Int}(d:h0<=H.length):
  Le h0 env (H++[.cells K.T [.int .i64 k,.nils,.nils,.nils,.nils,.bool false]]) env (H++Qb8 K H.length k):=by
 have a:∀(n:Nat) (G:Qd) (cs cs':List A) (t k':Nat) (m:Nat),n=H.length+1+G.length->cs[m]?=some .nils->cs'=cs.set m (.osl n 0 0 k')->
   Le h0 env (H++.cells K.T cs::G) env (H++.cells K.T cs'::(G++[.row t k' []])):=by
  intro n G cs cs' t k' m hn hm hc;have:=YR (h0:=h0) (env:=env) (H:=H++.cells K.T cs::G) (i:=H.length) (m:=m) (t:=t) (k:=k') (T:=K.T) (cs:=cs)
   (by simp;omega) (by simp) hm
  have e:(H++.cells K.T cs::G).length=n:=by simp;omega
  rw[e]at this;have b:(H++.cells K.T cs::G).set H.length (.cells K.T (cs.set m (.osl n 0 0 k')))=H++.cells K.T cs'::G:=by
   rw[List.set_append_right _ _ (XX _),Nat.sub_self,hc];rfl
  rw[b,Vm]at this;exact this
 refine Le.trans (a (H.length+1) [] _ _ K.tF K.kF 1 (by simp) rfl rfl) ?_;refine Le.trans (a (H.length+2) [.row K.tF K.kF []] _ _ K.tF K.kF 2 (by simp) rfl rfl) ?_;refine Le.trans (a (H.length+3) [.row K.tF K.kF [],.row K.tF K.kF []] _ _ K.tF K.kF 3 (by simp) rfl rfl) ?_;exact a (H.length+4) [.row K.tF K.kF [],.row K.tF K.kF [],.row K.tF K.kF []] _ _ K.tR K.kR 4 (by simp) rfl rfl
theorem QbF.new{k:Int}:QbF K (H++Qb8 K H.length k) (Qar k) (QaX H.length):=by
 have g:∀(j:Nat) (y:Blk),(Qb8 K H.length k)[j]?=some y->(H++Qb8 K H.length k)[H.length+j]?=some y:=by
  intro j y h;rw[XR (by omega),Nat.add_sub_cancel_left];exact h
 exact⟨g 0 _ rfl,g 1 _ rfl,g 2 _ rfl,g 3 _ rfl,g 4 _ rfl⟩
theorem Qkq(n:Nat):(∀i∈(QaX n).ix,n<=i)/\(QaX n).ix.Nodup:=by
 refine⟨?_,?_⟩
 .intro i a;simp only[Pl.ix,QaX,Va,List.not_mem_nil,or_false]at a;omega
 .simp[Pl.ix,QaX]
variable {K}
theorem Yv.new{k:Int}(h:Yv K lo H bk)(a:∀e∈bk,e.1.number≠k)(hl:lo<=H.length):Yv K lo (H++Qb8 K H.length k) (bk++[(Qar k,QaX H.length)]):=by
 refine h.add (QbF.new K) a (λj d b=>by rw[XQ b]) (Qkq _).1 (Qkq _).2 hl
theorem Yv.row{l r:QaW α β}{e:Fil α β×Pl}{x':Fil α β}{p':Pl}{i:Nat}{y:Blk}(h:Yv K lo H (l++e::r))(hl:lo<=H.length)(G:x'.number=e.1.number)(hi:i∈e.2.ix)(M:i≠e.2.b)(g:p'.b=e.2.b)
  (hH:H'=(H.set i .dead++[y]).set e.2.b (.cells K.T (Q0 K p' x')))
  (n:p'.ix=e.2.ix.map λj=>bif Nat.beq j i then H.length else j)
  (h0:H'[p'.i0]?=some (.row K.tF K.kF (x'.r0.map K.eF)))(t:H'[p'.i1]?=some (.row K.tF K.kF (x'.r1.map K.eF)))(w:H'[p'.i2]?=some (.row K.tF K.kF (x'.r2.map K.eF)))(F:H'[p'.i3]?=some (.row K.tR K.kR (x'.reports.map K.eR))):
  Yv K lo H' (l++(x',p')::r):=by
 have u:=h.laid e (by simp);have d:=u.lt;have x:e.2.b<H.length:=d _ (by simp[Pl.ix]);refine h.upd ⟨?_,h0,t,w,F⟩ G ?_ ?_ ?_ hl
 .rw[hH,g,Xa (by simp;omega)]
 .intro j s J m;rw[hH,XT (λq=>m (by rw[<- q];simp[Pl.ix])),XQ (by simpa using J),XT (λq=>m (by rw[<- q];exact hi))]
 .intro j p;rw[n]at p;obtain⟨B,s,rfl⟩:=Xf.1 p;cases q:Nat.beq B i with
  |true=>exact .inr (XX _)
  |false=>exact .inl s
 .rw[n];have z:=h.own e (by simp);refine List.pairwise_map.2 (List.Pairwise.imp_of_mem ?_ z);intro a b E g f;have N:=d a E;have O:=d b g;cases L:Nat.beq a i with
  |true=>
   cases k:Nat.beq b i with
   |true=>exact absurd ((XU L).trans (XU k).symm) f
   |false=>simp only[Vt,Vu];omega
  |false=>
   cases k:Nat.beq b i with
   |true=>simp only[Vt,Vu];omega
   |false=>exact f
end
end Go.Sw
namespace Go.Sw
section
variable {fr ro:Nat->Prop} {σ:Sig} {H:Qd} {w:World}
end
section
variable {P:Program} {o:Oper} {env:Env} {H:Qd}
theorem Le.frow{h0 s i n k t:Nat}{es:List (List A)}(F:lk env s=.osl i 0 n k)(hH:H[i]?=some (.frow t k es))(L:es.length=n):Le h0 env H (up env s (.rsl k es)) H:=by
 intro O j σ N a w r;refine⟨j,σ,⟨r.sim,?_,r.size,r.defers⟩,λ_ q=>q,rfl⟩;intro d;simp only[lk];by_cases q:d=s
 .subst q;rw[VJ];have:=r.env d;rw[F]at this;show VR j σ w (.rsl k es) _;rcases this with⟨g,f⟩|⟨b,p,e,R,m,g,f,E,G,Q,P⟩
  .have:es=[]:=VN.1 (by omega);subst this;exact⟨none,0,by rw[f];rfl,XX _,.inl rfl⟩
  .obtain⟨y,l,u,J,M⟩:=r.sim.blk i _ _ g hH;refine⟨_,e,by rw[f,L],by omega,?_⟩;by_cases h:es=[]
   .exact .inl h
   .right;have x:0<e:=Vj (by have:=List.length_pos_iff.2 h;omega) G;have B:=E x;refine⟨b,0,by rw[B];simp,y,?_⟩;exact YV (pre:=[]) (by simpa using u) J
 .have:Nat.beq d s=false:=by
   cases z:Nat.beq d s with
   |true=>exact absurd (XU z) q
   |false=>rfl
  rw[this];exact r.env d
end
end Go.Sw
namespace Go.Sw
open Go.MapKept
section
variable {P:Program} {kt et:Nat} {α β:Type} [DecidableEq α] {ek:α->A} {ev:β->A} {ro:Nat->Prop} {σ:Sig} {w:World} (K:Y0 P kt ek)
include K
variable {o:Oper} {env:Env} {H:Qd} {T T' i:Nat} {x y:Operand} {l m:List (α×β)} {k:α}
end
end Go.Sw
namespace Go.Sw
section
variable {P:Program} {h0 N:Nat} {all:Array Oper} {o1 o2:Oper} {l:List Oper} {env:Env} {H:Qd} {Q:QB}
theorem QlB{t n d:Nat}{z:Value}{v:A}{cs zs:List A}{y:Operand}(hz:∀w,(zeroValue t).run P w=.ok z w)(hv:ZR v z)(hs:∀w,(Go.sizeOf t).run P w=.ok n w)
  (k:WO P h0 N all l (up env d (.rp cs)) H Q)(hk:Yb v=true:=by exact rfl)(hzs:QZ v=zs:=by exact rfl)(hpl:zs.all Yj=true:=by exact rfl)(hzn:zs.length=n:=by exact rfl)(hn:cs.length=n:=by exact rfl)
  (ho1:o1.op=.alloc t:=by exact rfl)(hd1:o1.dst=some d:=by exact rfl)(ho2:o2.op=.store t (.tmp d) y:=by exact rfl)(hd2:o2.dst=none:=by exact rfl)(hy:opA (up env d .any) y=.agg cs:=by exact rfl)(hda:Yf cs=true:=by exact rfl)(hcp:cs.all Yj=true:=by exact rfl)(hkc:Yb (.agg cs)=true:=by exact rfl)(hcc:QZ (.agg cs)=cs:=by exact rfl)
  (hg1:Qp all o1 env true:=by exact rfl)(hg2:Qp all o2 (up env d .any) true:=by exact rfl)(hN:Nat.blt d N=true:=by exact rfl):WO P h0 N all (o1::o2::l) env H Q:=by
 intro rd fr B σ a w r hrd;obtain⟨Y,h2,h3⟩:=(hv B σ w).cells hk;rw[hzs]at h3
 let w1:World:=w.alloc (.cells Y.toArray t)
 have O:(execOp a.eval o1).run P w=.ok (.value (.pointer (some ⟨w.heap.size,0,none⟩))) w1:=by
  generalize a.eval=ρ at*;have e:(newVar t z).run P w=.ok ⟨w.heap.size,0,none⟩ (w.alloc (.cells Y.toArray t)):=by
   unfold newVar;rw[h2];rfl
  simp only[execOp,ho1,Instr.alloc,Vr,hz,Result.andThen,e];rfl
 refine Qab (YD hg1 r) O ?_;simp only[hd1,Act.put];have ae:d<N:=by simpa[Nat.blt_eq]using hN
 have J:d<a.tmps.size:=by rw[r.size];exact ae
 let a1:Act:={a with tmps:=a.tmps.setIfInBounds d (.pointer (some ⟨w.heap.size,0,none⟩))}
 have u:∀b,b<w.heap.size->w1.heap[b]?=w.heap[b]? :=λb R=>Yd _ _ b R;have E:w.heap.size<=w1.heap.size:=by show _<=(w.alloc _).heap.size;rw[Q6];omega
 have h:Qh fr B w B w1:=Qh.alloc _ r.sim.roLt r.sim.frLt;have r1:Rel fr B σ H (up env d .any) N a1 w1:=⟨r.sim.grown u E,VR.up (fr:=fr) (λs=>(r.env s).mono (h.ext0 σ)) J trivial,by simpa[a1]using r.size,r.defers.keep h⟩;have aa:=Qg r1 y;rw[hy]at aa;obtain⟨m,h4,h5⟩:=aa.cells hkc;rw[hcc]at h5;have j:w1.heap[w.heap.size]?=some (.cells Y.toArray t (0,0)):=Q9 _ _;have ab:Y.length=n:=by rw[h3.length,hzn]
 have L:m.length=n:=by rw[h5.length,hn]
 have V:=Q5 (P:=P) (vs:=m) 0 0 j (by omega) (h5.plain hcp);have ac:splice Y (0+0) m=m:=by
  unfold splice;simp[ab,L]
 rw[ac]at V
 let w2:World:={w1 with heap:=w1.heap.setIfInBounds w.heap.size (.cells m.toArray t (0,0))}
 have he:a1.eval (.tmp d)=.pointer (some ⟨w.heap.size,0,none⟩):=by
  show(a.tmps.setIfInBounds d _).getD d undef=_;rw[Qii J,Vx rfl]
 have X:(execOp a1.eval o2).run P w1=.ok .skip w2:=by
  have ag:(storeVar t ⟨w.heap.size,0,none⟩ (a1.eval y)).run P w1=.ok () w2:=by
   unfold storeVar;rw[Vr,hs];simp only[Result.andThen];rw[Vw (by simp[h4,L]),h4];simpa using V
  generalize a1.eval=ρ at*;simp only[execOp,ho2,he,Instr.storeAt,Instr.sureAddr,pure_bind,Vr,ag];rfl
 refine QhP (YD hg2 r1) X ?_;simp only[hd2,Act.put];have f:∀b,b<w.heap.size->w2.heap[b]?=w.heap[b]? :=λb R=>by
  show(w1.heap.setIfInBounds w.heap.size _)[b]?=_;rw[Array.getElem?_setIfInBounds_ne (by omega)];exact u b R
 have G:w2.heap.size=w1.heap.size:=by simp[w2]
 have F:w.heap.size<w1.heap.size:=(Vg.1 j).1;have T:w.heap.size<=w2.heap.size:=by rw[G];exact E
 have p:w2.heap[w.heap.size]?=some (.cells m.toArray t (0,0)):=by
  show(w1.heap.setIfInBounds w.heap.size _)[w.heap.size]?=_;rw[Array.getElem?_setIfInBounds_self_of_lt F]
 have s1:=r.sim.grown f T;have s2:=s1.addRo (b:=w.heap.size) (by rw[G];exact F) (λq=>Nat.lt_irrefl _ (r.sim.frLt _ q)) (λi x W M p3=>Nat.lt_irrefl _ (r.sim.own i _ x W M p3).1)
  (λi d x W M p3=>Nat.lt_irrefl _ (r.sim.hid i d x _ W M (r.sim.hidKeep W M (λz=>f d (r.sim.own i d x W M z).1) (λb q=>f b (r.sim.roLt b q)) p3)).lt)
 have ev:Qh fr B w (λc=>B c\/c=w.heap.size) w2:=by
  refine⟨λb q=>.inl q,λb q=>f b (r.sim.roLt b q),λb q=>f b (r.sim.frLt b q),T,?_,h.os,h.tape,h.output,h.drawn⟩;intro b x g;have R:b<w.heap.size:=by
   unfold World.shape? at g;cases q:w.heap[b]? with
   |none=>rw[q]at g;simp at g
   |some _=>exact(Vg.1 q).1
  unfold World.shape? at g⊢;rw[f b R];exact g
 have af:VR (λc=>B c\/c=w.heap.size) σ w2 (.rp cs) (.pointer (some ⟨w.heap.size,0,none⟩)):=by
  refine⟨w.heap.size,0,rfl,.inr rfl,?_⟩;refine QhM (pre:=[]) (by simpa using p) ?_ (h5.plain hcp);have h6:LR B [] w1 cs m:=LR.data hda h5;refine h6.mono ⟨λ_ q=>.inl q,λb q=>?_,λb x g=>?_,λ_ _ q=>q⟩
  .show(w1.heap.setIfInBounds w.heap.size _)[b]?=_;have:=r.sim.roLt b q;rw[Array.getElem?_setIfInBounds_ne (by omega)]
  .by_cases e:b=w.heap.size
   .subst e;unfold World.shape? at g⊢;rw[j]at g;rw[p];simp at g⊢;rw[ab]at g;rw[L];exact g
   .unfold World.shape? at g⊢;rw[show w2.heap[b]?=w1.heap[b]? from Array.getElem?_setIfInBounds_ne (Ne.symm e)];exact g
 have r2:Rel fr (λc=>B c\/c=w.heap.size) σ H (up env d (.rp cs)) N a1 w2:=
  ⟨s2,VR.up (fr:=fr) (λs=>(r.env s).mono (ev.ext0 σ)) J af,by simpa[a1]using r.size,r.defers.keep ev⟩
 exact Yh (λe a w q=>q.step ev rfl) _ _ _ (k rd fr _ σ a1 w2 r2 (hrd.to ev λ_ q=>q))
end
end Go.Sw
namespace Go.Sw
section
variable {P:Program} {o:Oper} {env:Env} {H:Qd}
theorem Qc4{t e:TypeId}{p:Option Addr}{w:World}(a:∀w,(underlying t).run P w=.ok (.pointer e) w):(Op.equal t (.pointer p) (.pointer none)).run P w=.ok p.isNone w:=by
 have k:∀d,(Op.equalIn (d+1) t (.pointer p) (.pointer none)).run P w=.ok p.isNone w:=by
  intro d;cases p<;>simp[Op.equalIn,a,go_sem]
 exact k 9999
theorem QiY{t e u:TypeId}{x:Operand}{i off:Nat}(j:∀w,(underlying t).run P w=.ok (.pointer e) w)(k:opA env x=.ptr i off)(g:o.op=.binOp .eql t x (.const (.pointer none)) u:=by exact rfl):OpV P o env H (.bool false):=by
 intro l n σ N a w r;have d:=Qg r x;rw[k]at d;obtain⟨b,m,h⟩:=d;have f:a.eval (.const (.pointer none))=.pointer none:=rfl;refine⟨_,?_,rfl⟩;generalize a.eval=ρ at*;simp[execOp,g,h,f,Go.binOp,eqGuard,Qc4 j,go_sem]
theorem QiZ{t e u:TypeId}{x:Operand}(h:∀w,(underlying t).run P w=.ok (.pointer e) w)(i:opA env x=.nilp)(f:o.op=.binOp .eql t x (.const (.pointer none)) u:=by exact rfl):OpV P o env H (.bool true):=by
 intro j k σ N a w r;have b:=Qg r x;rw[i]at b;have d:a.eval (.const (.pointer none))=.pointer none:=rfl;have g:a.eval x=.pointer none:=b;refine⟨_,?_,rfl⟩;generalize a.eval=ρ at*;simp[execOp,f,g,d,Go.binOp,eqGuard,Qc4 h,go_sem]
end
end Go.Sw
namespace Go.Sw
section
variable {P:Program} {o:Oper} {env:Env} {H:Qd} {α:Type}
def Qhg(l:List α)(lo hi i:Int):Option α:=bif decide (0<=lo)&&(decide (0<=i)&&decide (lo+i<hi))then idx l (lo+i)else none
theorem Qkx{l:List α}{lo hi i:Int}{v:α}(h:Qhg l lo hi i=some v):0<=lo/\0<=i/\lo+i<hi/\idx l (lo+i)=some v:=by
 unfold Qhg at h;cases q:decide (0<=lo)&&(decide (0<=i)&&decide (lo+i<hi))with
 |false=>rw[q]at h;cases h
 |true=>
  rw[q]at h;rw[X0,X0,Vv,Vv,Vv]at q;exact⟨q.1,q.2.1,q.2.2,h⟩
theorem Qhf{l:List α}{lo hi i:Int}{v:α}(h:Qhg l lo hi i=some v):idx l (lo+i)=some v:=(Qkx h).2.2.2
theorem QfO{t et k b:Nat}{x y:Operand}{l:List α}{j:IntKind}{lo hi i:Int}{v:α}(h:Qhg l lo hi i=some v)(g:∀w,(underlying t).run P w=.ok (.slice et) w)(f:∀w,(sizeOf et).run P w=.ok k w)
  (m:o.op=.indexAddr t x y:=by exact rfl)(hx:opA env x=.osl b (0+lo.toNat) (hi.toNat-lo.toNat) k:=by exact rfl)(hy:opA env y=.int j i:=by exact rfl):OpV P o env H (.ptr b ((lo+i).toNat*k)):=by
 obtain⟨p,a,n,_⟩:=Qkx h;have d:=QhB (H:=H) m g f hx hy a (by omega);have e:(0+lo.toNat)*k+i.toNat*k=(lo+i).toNat*k:=by
  rw[<- XD];congr 1;omega
 rwa [e]at d
end
end Go.Sw
namespace Go.Sw
section
variable {P:Program} {o:Oper} {env:Env} {H:Qd}
theorem QnP{t:Nat}{x:Operand}{v:A}{cs:List A}(J:Yb v=true)(u:QZ v=cs)(y:cs.all Yj=true)(M:Yf cs=true)(L:o.op=.box t x:=by exact rfl)(hx:opA env x=v:=by exact rfl):
  OpH P o env H (.rp cs) H:=by
 intro E k σ N a w r;have B:=Qg r x;rw[hx]at B;obtain⟨l,F,O⟩:=B.cells J;subst u;have n:LR k [] w (QZ v) l:=O.data M;have f:∀b,b<w.heap.size->(w.alloc (.cells l.toArray t)).heap[b]?=w.heap[b]? :=λb T=>Yd _ _ b T;have p:w.heap.size<=(w.alloc (.cells l.toArray t)).heap.size:=by rw[Q6];omega
 have Q:=r.sim.grown f p;have m:Qh E k w k (w.alloc (.cells l.toArray t)):=Qh.alloc _ r.sim.roLt r.sim.frLt;have G:=Q.addRo (b:=w.heap.size) (by rw[Q6];omega) (λq=>Nat.lt_irrefl _ (r.sim.frLt _ q)) (λi x g h s=>Nat.lt_irrefl _ (r.sim.own i _ x g h s).1)
  (λi d x g h s=>Nat.lt_irrefl _ (r.sim.hid i d x _ g h (r.sim.hidKeep g h (λz=>f d (r.sim.own i d x g h z).1) (λb q=>f b (r.sim.roLt b q)) s)).lt)
 refine⟨.pointer (some ⟨w.heap.size,0,none⟩),w.alloc (.cells l.toArray t),λc=>k c\/c=w.heap.size,[],?_,?_,by simpa using G,m.trans (YI λ_ q=>.inl q)⟩
 .generalize a.eval=ρ at*;have e:(newVar t (ρ x)).run P w=.ok ⟨w.heap.size,0,none⟩ (w.alloc (.cells l.toArray t)):=by
   unfold newVar;rw[F];rfl
  simp only[execOp,L,Instr.box,Vr,e];rfl
 .refine⟨w.heap.size,0,rfl,.inr rfl,?_⟩;have j:(w.alloc (.cells l.toArray t)).heap[w.heap.size]?=some (.cells (([]:List Value)++(l++[])).toArray t (0,0)):=by simpa using Q9 w (.cells l.toArray t)
  have R:LR (λc=>k c\/c=w.heap.size) [] (w.alloc (.cells l.toArray t)) (QZ v) l:=(n.mono (m.ext0 [])).mono ⟨λ_ q=>.inl q,λ_ _=>rfl,λ_ _ q=>q,λ_ _ q=>q⟩;exact QhG j (n.plain y) R
theorem QcK{β:Type}{t et n:Nat}{x y:Operand}{L:List β}{f:β->A}{rest cs:List A}{i:Int}{l:β}{M:IntKind}(h:idx L i=some l)(u:cs=L.map f++rest)(hn:L.length=n)(O:∀w,(underlying t).run P w=.ok (.array n et) w)(X:∀w,(sizeOf et).run P w=.ok 1 w)(s:Nat.ble 2 n=true)
  (V:o.op=.indexAddr t x y:=by exact rfl)(hx:opA env x=.rp cs:=by exact rfl)(hy:opA env y=.int M i:=by exact rfl):OpV P o env H (.rp [f l]):=by
 intro Y ro σ N a w r;have k:=Qg r x;rw[hx]at k;obtain⟨m,b,k,E,z⟩:=k;have J:=Qg r y;rw[hy]at J;have F:a.eval y=.int M i:=J;obtain⟨i0,d⟩:=Qas h;have p:i.toNat<L.length:=(XP.1 d).1;have Q:2<=n:=XV s;have R:i=(i.toNat:Int):=by omega
 generalize i.toNat=j at*;subst R;have B:j<n:=by omega
 refine⟨.pointer (some ⟨m,b+j*1,none⟩),?_,m,b+j*1,rfl,E,?_⟩
 .have W:0<=(j:Int)/\(j:Int)<(n:Int):=by omega
  have g:(⟨m,b,none⟩:Addr).add ((j:Int).toNat*1)=⟨m,b+j*1,none⟩:=by
   unfold Addr.add;split
   .rename_i q;simp at q;simp[q]
   .simp
  generalize a.eval=ρ at*;simp[execOp,V,k,F,Instr.indexAt,asIntOf,O,X,Instr.sureAddr,W,g,go_sem,Result.andThen,B]
 .have G:=CR.take 1 (CR.drop j z);have e:(cs.drop j).take 1=[f l]:=by
   rw[u,Vc (by rw[X6];omega), <- List.map_drop];have:L.drop j=l::L.drop (j+1):=by
    have T:=Xr p;rw[T,(XP.1 d).2]
   rw[this];rfl
  rw[e]at G;rw[Nat.mul_one];exact G
end
end Go.Sw
namespace Go.Sw
section
variable {env:Env} {H:Qd}
theorem QlY{h0 i j m o' n k T:Nat}{x:Blk}{cs:List A}(hi:H[i]?=some x)(E:H[j]?=some (.cells T cs))(s:cs[m]?=some (.osl i o' n k))(e:Nat.beq i j=false)(W:Nat.ble h0 H.length=true):
  Le h0 env H env ((H.set i .dead).set j (.cells T (cs.set m (.osl H.length o' n k)))++[x]):=by
 intro Y B σ N a w r;have hiσ:i<σ.length:=by rw[r.sim.len];exact(XP.1 hi).1
 have hσ:σ[i]?=some σ[i]:=XO hiσ;have ext:Ext B σ w B (σ++[σ[i]]) w:=⟨λ_ q=>q,λ_ _=>rfl,λ_ _ q=>q,λ_ _ h=>YJ h⟩;have P:=r.sim.moved hi hσ;have g:j<H.length:=(XP.1 E).1;have u:i≠j:=λq=>by rw[q,VJ]at e;cases e
 have f:(H.set i .dead++[x])[j]?=some (.cells T cs):=by
  rw[XQ (by simpa using g),XT u];exact E
 have M:(H.set i .dead).set j (.cells T (cs.set m (.osl H.length o' n k)))++[x]=(H.set i .dead++[x]).set j (.cells T (cs.set m (.osl H.length o' n k))):=by
  rw[List.set_append_left _ _ (by simpa using g)]
 rw[M];refine⟨B,σ++[σ[i]],⟨P.weaken f rfl ?_,λq=>(r.env q).mono ext,r.size,r.defers⟩,λ_ q=>q,Qv (by rw[r.sim.len];exact XV W)⟩;have d:σ.length=H.length:=r.sim.len;intro y h;cases y with
 |none=>exact h
 |some b=>
  obtain⟨l,L,X,G⟩:=h;refine⟨l,L,?_,G⟩;clear L G f M E P
  induction cs generalizing m l with
  |nil=>cases s
  |cons c cs R=>
   obtain⟨v,z,rfl,Q,O⟩:=X;cases m with
   |zero=>
    simp at s;subst s;refine⟨v,z,rfl,?_,O⟩;rcases Q with h|⟨b,p,F,t,m,J,V⟩
    .exact .inl h
    .refine .inr ⟨b,p,F,t,m,?_,V⟩;rw[XQ hiσ,hσ]at J;rw[<- d];simpa using J
   |succ m=>exact⟨v,z,rfl,Q,R (by simpa using s) z O⟩
def Qe3{β γ:Type}(o:Option β)(n:Option γ)(s:β->Option γ):Option γ:=match o with
 |none=>n
 |some v=>s v
theorem QmN{β γ:Type}{o:Option β}{n:Option γ}{s:β->Option γ}{r:γ}(h:Qe3 o n s=some r):(o=none/\n=some r)\/ ∃v,o=some v/\s v=some r:=by
 cases o with
 |none=>exact .inl ⟨rfl,h⟩
 |some v=>exact .inr ⟨v,rfl,h⟩
theorem QhD{P:Program}{o:Oper}{H':Qd}{T:Nat}{x y zz:Operand}(e:o.op=.insert T x y zz)(h:OpU P {o with op:=.mapUpdate T x y zz} env H H'):OpU P o env H H':=by
 intro f k σ N a w r;obtain⟨i,b,τ,d,j,g⟩:=h f k σ N a w r;exact⟨i,b,τ,by simpa only[execOp,e]using d,j,g⟩
end
section
variable {P:Program} {o:Oper} {env:Env} {H:Qd} {T kt et:Nat} {α β:Type} [DecidableEq α] {ek:α->A} {ev:β->A} {x y:Operand} {i:Nat} {l:List (α×β)} {k:α} {z:Value} {zA:A}
theorem QlM{v:β}(K:Y0 P kt ek)(f:YB l k=some v)(L:P.underlying T=some (.map kt et))
  (J:o.op=.lookup T x y true:=by exact rfl)(hx:opA env x=.map i:=by exact rfl)(hH:H[i]?=some (.map (Qj ek ev l)):=by exact rfl)(hy:opA env y=ek k:=by exact rfl):OpV P o env H (.tup [ev v,.bool true]):=by
 intro X ro σ N a w r;have s:=Qg r x;rw[hx]at s;obtain⟨b,Q,u⟩:=s;have h:=Qg r y;rw[hy]at h;have M:=VR.val (K.scl _) h;obtain⟨B,d,G,m,W,R,F⟩:=r.sim.blk i _ _ Q hH;obtain⟨O,z⟩:=ER.find K m k F;rcases K.find w k B.toList (QaV K m)with⟨p,g⟩|⟨j,e,p,g,E⟩
 .rw[(O g).1]at f;cases f
 .obtain⟨Y,V,n,t⟩:=z j e g E;rw[f]at n;cases n;refine⟨.tuple #[e.val,.bool true],?_,[e.val,.bool true],rfl,e.val,_,rfl,t.mono ⟨λ_ q=>q,λ_ _=>rfl,λ_ _ q=>q,λj c q=>by simp at q⟩,_,_,rfl,rfl,rfl⟩;have:(Instr.lookup T (.map (some b)) (QJ (ek k)) true).run P w=.ok (.tuple #[e.val,.bool true]) w:=by
   simp only[Instr.lookup,Vr,run_underlying L,Result.andThen,MapKept.run_getObj_map G,Vs,K.check,p,if_true]
  simp only[execOp,J,u,M,Vr,this,Result.andThen];rfl
theorem QlN(K:Y0 P kt ek)(G:YB l k=none)(M:P.underlying T=some (.map kt et))(J:∀w,(zeroValue et).run P w=.ok z w)(f:ZR zA z)
  (L:o.op=.lookup T x y true:=by exact rfl)(hx:opA env x=.map i:=by exact rfl)(hH:H[i]?=some (.map (Qj ek ev l)):=by exact rfl)(hy:opA env y=ek k:=by exact rfl):OpV P o env H (.tup [zA,.bool false]):=by
 intro Y ro σ N a w r;have p:=Qg r x;rw[hx]at p;obtain⟨b,Q,s⟩:=p;have g:=Qg r y;rw[hy]at g;have O:=VR.val (K.scl _) g;obtain⟨u,d,F,h,X,V,E⟩:=r.sim.blk i _ _ Q hH;obtain⟨f1,t⟩:=ER.find K h k E;rcases K.find w k u.toList (QaV K h)with⟨n,q⟩|⟨j,e,n,q,B⟩
 .refine⟨.tuple #[z,.bool false],?_,[z,.bool false],rfl,z,_,rfl,f _ _ _,_,_,rfl,rfl,rfl⟩;have:(Instr.lookup T (.map (some b)) (QJ (ek k)) true).run P w=.ok (.tuple #[z,.bool false]) w:=by
   simp only[Instr.lookup,Vr,run_underlying M,Result.andThen,MapKept.run_getObj_map F,Vs,K.check,n,J,if_true]
  simp only[execOp,L,s,O,Vr,this,Result.andThen];rfl
 .obtain⟨u1,W,m,R⟩:=t j e q B;rw[G]at m;cases m
end
abbrev Ea:=@Ev.bind
abbrev Ec:=@FzH.keep
abbrev Ed:=@FzL.cons
abbrev Ee:=@FzA.refl
abbrev Ef:=@TC.le
abbrev Eg:=@PL.cons
abbrev Eh:=@DS.done
abbrev Ei:=@Ev.and
abbrev Ej:=@EvI.done
abbrev Ek:=@FzL.refl
abbrev El:=@OpH.lit
abbrev Em:=@RF.cons
abbrev En:=@Le.trans
abbrev Eo:=@ZR.int
abbrev Ep:=@FzA.o
abbrev Er:=@Le.phantom
abbrev Et:=@WO.le
abbrev Eu:=@Ev.or
abbrev Ew:=@EvI.cont
abbrev Ex:=@OpU.store
abbrev Ey:=@OpV.load
abbrev Ez:=@Ev.const
theorem Zf.{u,v}{α:Sort u}{β:Sort v}{f:α->β}:∀x,f x=f x:=λ_=>rfl
abbrev Ze.{u,v}{α:Sort u}{β:Type v}:α->List β:=λ_=>[]
end Go.Sw
