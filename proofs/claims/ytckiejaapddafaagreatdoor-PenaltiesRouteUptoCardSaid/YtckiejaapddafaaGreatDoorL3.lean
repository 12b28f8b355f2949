/- The rules by which the code is walked, with what they rest on (part 3). -/
import Derived.Test.YtckiejaapddafaaGreatDoorL2
import Derived.Laws.BytesString
import Derived.Shelf.Spec.SlicesInsertGrow
set_option linter.unusedVariables false
set_option linter.unusedSectionVars false
set_option linter.unusedSimpArgs false
namespace Go.Sw
def Qbu:Option Blk->Bool
 |some .dead=>true
 |_=>false
def Qaw(hB hE:Nat)(H H':Qd):Bool:=(List.range (hE-hB)).all λp=> !Qbu H'[hB+p]? ||Qbu H[hB+p]?
def Qlq(hB hE:Nat)(σ:Sig)(H:Qd):Prop:=∀p,hB<=p->p<hE->Qbu H[p]?=true->σ[p]?=some none
theorem Ql1{hB hE:Nat}{H H':Qd}(h:Qaw hB hE H H'=true){p:Nat}(b:hB<=p)(d:p<hE)(a:Qbu H'[p]?=true):Qbu H[p]?=true:=by
 have:=Xv.1 h (p-hB) (List.mem_range.2 (by omega));rw[show hB+(p-hB)=p by omega,a]at this;simpa using this
theorem Sim.allocAt{fr ro:Nat->Prop}{σ:Sig}{H:Qd}{w:World}(s:Sim fr ro σ H w){p:Nat}(M:σ[p]?=some none){obj:Obj}{x:Blk}
  (O:BR ro (σ.set p (some w.heap.size)) (w.alloc obj) x (some w.heap.size))
  (E:∀c,Hid (w.alloc obj) x w.heap.size c->False:=by exact λ_ h=>h.elim):Sim fr ro (σ.set p (some w.heap.size)) (H.set p x) (w.alloc obj):=by
 have ev:Qh fr ro w ro (w.alloc obj):=Qh.alloc obj s.roLt s.frLt;have t:=s.len;have F:p<σ.length:=(XR.1 M).1;have u:Ext ro σ w ro (σ.set p (some w.heap.size)) (w.alloc obj):=⟨ev.sub,ev.keepRo,ev.shape,λi b q=>by
  rw[XV (λz=>by subst z;rw[M]at q;cases q)];exact q⟩
 have e:∀(i:Nat) (y:Option Nat),(σ.set p (some w.heap.size))[i]?=some y->(i≠p/\σ[i]?=some y)\/(i=p/\y=some w.heap.size):=by
  intro i y h;by_cases q:i=p
  .subst q;rw[Xa F]at h;exact .inr ⟨rfl,(X5 h).symm⟩
  .rw[XV (λz=>q z.symm)]at h;exact .inl ⟨q,h⟩
 have n:∀i:Nat,i≠p->(H.set p x)[i]?=H[i]? :=λi P=>XV (λz=>P z.symm);have L:(H.set p x)[p]?=some x:=Xa (by omega);refine⟨by simp[t],s.roOk.to (λ_ q=>q) ev.keepRo (λb h=>?_),λb h=>?_,s.roFr,?_,?_,?_,s.hidTo (· = ·) Q0 (by rw[Yu];omega) (λ_ _ _ _ _ _ _ q=>q) (λ_ _ _ _ _ _ _ q=>q) λj d y l k Q=>?_⟩
 rotate_left 5
 .rcases e j _ l with⟨q,l⟩|⟨rfl,m⟩
  .rw[n j q]at k;exact .inl ⟨j,y,rfl,l,k,id,λc q=>s.hidKeep l k (λz=>Yv w obj d (s.own j d y l k z).1) ev.keepRo q⟩
  .rw[L]at k;cases k;cases m;exact .inr ⟨XZ _,E⟩
 .rw[Yu];have:=s.roLt b h;omega
 .rw[Yu];have:=s.frLt b h;omega
 .intro i b y g f r;rw[Yu];rcases e i _ g with⟨q,g⟩|⟨rfl,m⟩
  .rw[n i q]at f;obtain⟨a,b,c⟩:=s.own i b y g f r;exact⟨by omega,b,c⟩
  .cases m;exact⟨by omega,λq=>by have:=s.roLt _ q;omega,λq=>by have:=s.frLt _ q;omega⟩
 .intro i j b y z g f r B J G;rcases e i _ g with⟨q,l⟩|⟨N,m⟩<;>rcases e j _ f with⟨q',k⟩|⟨ej,e2⟩
  .rw[n i q]at r;rw[n j q']at B;exact s.inj i j b y z l k r B J G
  .cases e2;rw[n i q]at r;have:=(s.own i _ y l r J).1;omega
  .cases m;rw[n j q']at B;have:=(s.own j _ z k B G).1;omega
  .rw[N,ej]
 .intro i y z g f;rcases e i _ g with⟨q,g⟩|⟨rfl,m⟩
  .rw[n i q]at f;refine(s.blk i y z g f).keep u ?_ ?_
   .rintro b rfl t;exact Yv w obj b (s.own i b z g f t).1
   .rintro b c rfl t;exact Yv w obj c (s.hid i b z c g f t).lt
  .rw[L]at f;cases f;subst m;exact O
def OpZ(P:Program)(o:Oper)(t:Nat)(cs:List A):Prop:=
 ∀(ro:Nat->Prop) (σ:Sig) (w:World) (a:Act),∃l:List Value,(execOp a.eval o).run P w=.ok (.value (.pointer (some ⟨w.heap.size,0,none⟩))) (w.alloc (.cells l.toArray t))/\LR ro σ w cs l/\ ∀v∈l,Qp v
theorem OpZ.alloc{P:Program}{o:Oper}{t:Nat}{z:Value}{v:A}{cs:List A}(h:∀w,(zeroValue t).run P w=.ok z w)(d:ZR v z)(f:o.op=.alloc t:=by exact rfl)(hk:Yf v=true:=by exact rfl)(hcs:Q8 v=cs:=by exact rfl)(hpl:cs.all Ym=true:=by exact rfl):
  OpZ P o t cs:=by
 intro g σ w a;obtain⟨l,i,b⟩:=(d g σ w).cells hk;subst hcs;refine⟨l,?_,b,b.plain hpl⟩;generalize a.eval=ρ at*;have e:(newVar t z).run P w=.ok ⟨w.heap.size,0,none⟩ (w.alloc (.cells l.toArray t)):=by
  unfold newVar;rw[i];rfl
 simp only[execOp,f,Instr.alloc,Vt,h,Result.andThen,e];rfl
def OpZR(P:Program)(o:Oper)(e:Env)(H:Qd)(p:Nat)(x:A)(B:Blk):Prop:=
 ∀fr ro σ N a w,Rel fr ro σ H e N a w->∃v obj,(execOp a.eval o).run P w=.ok (.value v) (w.alloc obj)/\(∀c,Hid (w.alloc obj) B w.heap.size c->False)/\
  ∀σ',σ'[p]?=some (some w.heap.size)->Ext ro σ w ro σ' (w.alloc obj)->VR ro σ' (w.alloc obj) x v/\BR ro σ' (w.alloc obj) B (some w.heap.size)
theorem Qce{P:Program}{l:List Oper}{i:Nat}{o:Oper}{rd:Option Nat}{R:Exit->Act->World->Prop}{Q:Exit->Act->World->Prop}{K:Act->World->Prop}{a:Act}{w:World}
  (z:l[i]?=some o)(g:wpL P rd l.toArray R [o] a w)(h:∀e a' w',R e a' w'->e=.normal/\a'.defers=a.defers)(k:∀v w',R .normal (a.put o.dst v) w'->K (a.put o.dst v) w'):
  wpOpIn (WF rd) 0 P l.toArray Q i K a w:=by
 unfold wpOpIn;have t:l.toArray[i]?=some o:=by simpa using z
 rw[t];simp only;unfold wpL wpListIn at g;split at g
 .rename_i s;rw[Vz s];obtain⟨j,g⟩:=g;refine⟨j,?_⟩;have d:=QmI (by
   intro a' w' q;unfold wpListIn at q;exact(h _ _ _ q).2) g
  generalize(o.semAt (WF rd).round a.eval).run P w=res at*;cases res with
  |ok n w'=>
   cases n with
   |value v=>exact k _ _ d.1
   |skip=>exact k _ _ d.1
   |defer E=>
    exfalso;have:=(h _ _ _ d.1).2;have:=congrArg List.length this
    revert this
    cases o.dst<;>simp[Act.put]
   |enter f m=>
    refine⟨d.1,CallsIn.mono d.2 (λe p b=>?_)⟩;cases e with
    |returned v=>exact k _ _ b.1
    |panicked c=>have:=(h _ _ _ b).1;cases this
    |outgrown=>obtain⟨B,w1,b⟩:=b;have:=(h _ _ _ b).1;cases this
   |row r m=>
    exact⟨d.1,RowsIn.mono d.2 (λ_ _ b=>k _ _ b.1)⟩
   |round l f u assign y=>
    refine⟨d.1,RoundIn.mono d.2 (λe p b=>?_)⟩;cases e with
    |returned v=>exact k _ _ b.1
    |panicked c=>have:=(h _ _ _ b).1;cases this
    |outgrown=>obtain⟨B,w1,b⟩:=b;have:=(h _ _ _ b).1;cases this
   |_=>exact d.elim
  |halt x w'=>
   cases x with
   |panic v=>have:=(h _ _ _ d).1;cases this
   |_=>exact d.elim
 .rename_i s;rw[Vy s];obtain⟨j,g⟩:=g;refine⟨j,?_⟩;unfold wpListIn at g;exact k _ _ g
theorem Ql0{P:Program}{l:List Oper}{m:Nat}(n:∀i o,l[i]?=some o->∀j∈Qj o,j<i)(k:∀i o,m<i->l[i]?=some o->i-1∈Qj o){Q:Exit->Act->World->Prop}{rd:Option Nat}:
  ∀(b t:Nat) (L:Array Bool) (a:Act) (w:World),L.size=l.length->(∀i,i<l.length->(onL L i↔i<t))->unl L<=b->m<=t->t<=l.length->
   wpL P rd l.toArray Q (l.drop t) a w->wpAnyIn (WF rd) 0 P .any l.toArray Q b L a w:=by
 intro b
 induction b with
 |zero=>
  intro t L a w hsz hL hf hm ht h;have:t=l.length:=by
   rcases VI t l.length with q|q
   .have:=QkG (L:=L) (i:=t) (by omega) (λz=>by have:=(hL t q).1 z;omega);omega
   .omega
  subst this;refine⟨List.eq_nil_iff_forall_not_mem.2 λi p=>?_,?_⟩
  .obtain⟨o,f,g,_⟩:=(QaN hsz).1 p;have d:=(XR.1 f).1;exact g ((hL i d).2 d)
  .rw[Xt]at h;exact h
 |succ b H=>
  intro t L a w hsz hL hf hm ht h;have u:∀i o,l[i]?=some o->¬onL L i->(∀j∈Qj o,onL L j)->i=t:=by
   intro i o f g x;have d:=(XR.1 f).1;have G:t<=i:=by
    rcases VI i t with q|q
    .exact absurd ((hL i d).2 q) g
    .exact q
   rcases VI t i with q|q
   .have:=(hL (i-1) (by omega)).1 (x _ (k i o (by omega) f));omega
   .omega
  rcases VI t l.length with e|e
  .have B:l[t]?=some l[t]:=XQ e;have r:¬onL L t:=λq=>by have:=(hL t e).1 q;omega
   have E:t∈Region.ready .any l.toArray L:=by
    refine(QaN hsz).2 ⟨_,B,r,λj y=>?_⟩;have:=n t _ B j y;exact(hL j (by omega)).2 this
   refine⟨λq=>(by rw[q]at E;cases E),λi p=>?_⟩;obtain⟨o,f,g,x⟩:=(QaN hsz).1 p;obtain rfl:=u i o f g x;rw[Xr e]at h;obtain rfl:l[i]=o:=by rw[XQ e]at f;exact X5 f
   unfold wpOpIn;rw[show l.toArray[i]?=some l[i]by rw[XM];exact f];simp only;unfold wpL wpListIn at h;have F:∀a w,wpL P rd l.toArray Q (l.drop (i+1)) a w->wpAnyIn (WF rd) 0 P .any l.toArray Q b (L.setIfInBounds i true) a w:=by
    intro a w q;have J:=Qhj (L:=L) (i:=i) (by omega) r;refine H (i+1) _ a w (by simpa using hsz) (λj y=>?_) (by omega) (by omega) (by omega) q;rw[JD (by omega),hL j y];omega
   split at h
   .rename_i s;rw[Vz s];exact Oper.wpIn_mono F h
   .rename_i s;rw[Vy s];exact⟨h.1,F _ _ h.2⟩
  .have:t=l.length:=by omega
   subst this;rw[Xt]at h;refine⟨λ_=>h,λi p=>?_⟩;obtain⟨o,f,g,_⟩:=(QaN hsz).1 p;have d:=(XR.1 f).1;exact absurd ((hL i d).2 d) g
def QoP(af ds:List Nat)(xs:List A)(env0 e:Env):Prop:=
 ∀s,(∃j x,af.contains j=true/\ds[j]?=some s/\xs[j]?=some x/\lk e s=x)\/lk e s=.any\/(ds.contains s=false/\lk e s=lk env0 s)
inductive Jz (P:Program) (N:Nat) (l:List Oper) (ds:List Nat) (xs:List A) (env0:Env) (hB hE:Nat) (i:Nat) (H H':Qd):Prop
 |mk (o:Oper) (e:Env) (d:Nat) (x:A) (ho:l[i]?=some o) (hd:o.dst=some d) (hx:xs[i]?=some x) (hdd:Qaw hB hE H H'=true) (hs:Sb (Qj o) (Qja l i) ds xs env0 e)
   (h:WO P H.length N l.toArray [o] e H (Y8 (up e d x) H')):Jz P N l ds xs env0 hB hE i H H'
 |unit (o:Oper) (e:Env) (ho:l[i]?=some o) (hd:o.dst=none) (hx:xs[i]?=some .any) (hdd:Qaw hB hE H H'=true) (hs:Sb (Qj o) (Qja l i) ds xs env0 e)
   (h:WO P H.length N l.toArray [o] e H (Y8 e H')):Jz P N l ds xs env0 hB hE i H H'
 |alloc (o:Oper) (d t p:Nat) (cs:List A) (ho:l[i]?=some o) (hd:o.dst=some d) (hg:o.guard=none) (hx:xs[i]?=some (.ptr p 0)) (hp:(Nat.ble hB p&&Nat.blt p hE)=true) (hdead:Qbu H[p]?=true)
   (hH:H.set p (.cells t cs)=H') (h:OpZ P o t cs) (hN:Nat.blt d N=true):Jz P N l ds xs env0 hB hE i H H'
 |row (o:Oper) (e:Env) (d p:Nat) (x:A) (B:Blk) (ho:l[i]?=some o) (hd:o.dst=some d) (hg:o.guard=none) (hx:xs[i]?=some x) (hp:(Nat.ble hB p&&Nat.blt p hE)=true) (hdead:Qbu H[p]?=true) (hlive:Qbu (some B)=false)
   (hH:H.set p B=H') (hs:Sb (Qj o) (Qja l i) ds xs env0 e) (h:OpZR P o e H p x B) (hN:Nat.blt d N=true):Jz P N l ds xs env0 hB hE i H H'
 |val (o:Oper) (e:Env) (d:Nat) (x:A) (ho:l[i]?=some o) (hd:o.dst=some d) (hg:o.guard=none) (hx:xs[i]?=some x) (hN:Nat.blt d N=true) (he:QoP (Qj o) ds xs env0 e) (h:OpV P o e H x)
   (hH:H=H':=by rfl):Jz P N l ds xs env0 hB hE i H H'
 |woE (o:Oper) (e:Env) (d:Nat) (x:A) (ho:l[i]?=some o) (hd:o.dst=some d) (hx:xs[i]?=some x) (he:QoP (Qj o) ds xs env0 e) (hdd:Qaw hB hE H H'=true) (h:WO P H.length N l.toArray [o] e H (Y8 (up e d x) H')):Jz P N l ds xs env0 hB hE i H H'
theorem Sb.rel{af bf d:List Nat}{xs:List A}{env0 e:Env}{ro:Nat->Prop}{σ:Sig}{w:World}{a:Act}(f:Sb af bf d xs env0 e)
  (h:∀j∈af,∀s x,d[j]?=some s->xs[j]?=some x->VR ro σ w x (a.tmps.getD s undef))
  (g:∀s,d.contains s=false->VR ro σ w (lk env0 s) (a.tmps.getD s undef))(hP:∀j s,bf.contains j=true->d[j]?=some s->VR ro σ w (lk env0 s) (a.tmps.getD s undef)):
  ∀s,VR ro σ w (lk e s) (a.tmps.getD s undef):=by
 intro s
 induction f with
 |nil=>exact trivial
 | @dep j s1 x1 r h1 h2 h3 _ ih=>
  unfold lk;cases b:Nat.beq s s1 with
  |false=>exact ih
  |true=>
   obtain rfl:=XW b;exact h j (by simpa using h1) _ _ h2 h3
 | @old s1 x1 r h1 h2 _ ih=>
  unfold lk;cases b:Nat.beq s s1 with
  |false=>exact ih
  |true=>
   obtain rfl:=XW b;subst h2;exact g _ h1
 | @pre j s1 x1 r h1 h2 h3 _ ih=>
  unfold lk;cases b:Nat.beq s s1 with
  |false=>exact ih
  |true=>
   obtain rfl:=XW b;subst h3;exact hP j _ h1 h2
structure After (fr ro:Nat->Prop) (σ:Sig) (w:World) (hB hE:Nat) (H':Qd) (xs:List A) (i:Nat) (o:Oper) (a':Act) (w':World) (ro':Nat->Prop) (σ':Sig):Prop where
 val:∀x,xs[i]?=some x->match o.dst with
  |some d=>VR ro' σ' w' x (a'.tmps.getD d undef)
  |none=>x=.any
 sim:Sim fr ro' σ' H' w'
 ev:Qh fr ro w ro' w'
 ext:Ext ro σ w ro' σ' w'
 holes:Qlq hB hE σ' H'
 take:σ'.take hB=σ.take hB
theorem Jz.use{P:Program}{N:Nat}{l:List Oper}{ds:List Nat}{xs:List A}{env0:Env}{hB hE i:Nat}{H H':Qd}(hb:Jz P N l ds xs env0 hB hE i H H')
  {Q:Exit->Act->World->Prop}{K:Act->World->Prop}{fr ro:Nat->Prop}{σ:Sig}{a:Act}{w:World}{o:Oper}{rd:Option Nat}(O:l[i]?=some o)
  (f:Sim fr ro σ H w)(hN:a.tmps.size=N)(r:Qdr fr a.defers w)(ag:Qeu rd fr w)(hh:Qlq hB hE σ H)(hl:hE<=H.length)(am:hB<=hE)
  (hD:∀j∈Qj o,∀s x,ds[j]?=some s->xs[j]?=some x->VR ro σ w x (a.tmps.getD s undef))
  (hO:∀s,ds.contains s=false->VR ro σ w (lk env0 s) (a.tmps.getD s undef))(hP:∀j s,(Qja l i).contains j=true->ds[j]?=some s->VR ro σ w (lk env0 s) (a.tmps.getD s undef))
  (hK:∀v w' ro' σ',After fr ro σ w hB hE H' xs i o (a.put o.dst v) w' ro' σ'->K (a.put o.dst v) w'):
  wpOpIn (WF rd) 0 P l.toArray Q i K a w:=by
 have T:∀{e:Env} {H2:Qd} {E:Exit} {u:Act} {w':World},Qb9 H.length fr ro σ w N a.defers (Y8 e H2) E u w'->E=.normal/\u.defers=a.defers:=by
  rintro e H2 E u w' ⟨x,_,_,_,_,_,k,⟨rfl,_⟩,_,_,_,L,_⟩;refine⟨?_,L⟩;cases E<;>first|rfl|exact k.elim|cases k
 have ak:∀{σ':Sig} {w':World},Qh fr ro w ro w'->σ'.take H.length=σ.take H.length->True:=λ_ _=>trivial;have ab:∀{e:Env} {u:Act} {w':World},Qb9 H.length fr ro σ w N a.defers (Y8 e H') .normal u w'->Qaw hB hE H H'=true->
   ∃ro' σ',Sim fr ro' σ' H' w'/\Qh fr ro w ro' w'/\Ext ro σ w ro' σ' w'/\Qlq hB hE σ' H'/\σ'.take hB=σ.take hB/\ ∀s,VR ro' σ' w' (lk e s) (u.tmps.getD s undef):=by
  rintro e u w' ⟨_,aj,H2,ro',σ',al,_,⟨_,rfl,rfl⟩,r',he,ht,_,ai⟩ F;have hσ:σ'=σ++σ'.drop H.length:=by
   conv=>lhs;rw[<- XE H.length σ']
   rw[ht, <- f.len,Vf]
  refine⟨ro',σ',r'.sim.frMono ai.sub,he,?_,?_,?_,r'.env⟩
  .rw[hσ];exact he.ext σ _
  .intro p k L h3;have:=hh p k L (Ql1 F k L h3);rw[hσ,XS (by rw[f.len];omega)];exact this
  .rw[hσ];exact Qw (by rw[f.len];omega)
 cases hb with
 |woE m e d x g M X he F h=>
  obtain rfl:m=o:=X5 (g.symm.trans O);have hr:∀s,VR ro σ w (lk e s) (a.tmps.getD s undef):=λs=>by
   rcases he s with⟨j,x,k,L,h3,Y⟩|Y|⟨k,Y⟩
   .rw[Y];exact hD j (by simpa using k) s x L h3
   .rw[Y];exact trivial
   .rw[Y];exact hO s k
  refine Qce O (h rd fr ro σ a w ⟨f,hr,hN,r⟩ ag) (λ_ _ _ q=>T q) (λv w' q=>?_);obtain⟨ro',σ',g1,g2,J,g4,g5,g6⟩:=ab q F;refine hK v w' ro' σ' ⟨λy W=>?_,g1,g2,J,g4,g5⟩;obtain rfl:=X5 (X.symm.trans W);have:=g6 d;unfold lk at this;rw[VL]at this;rw[M]at this⊢;exact this
 |mk m e d x g M X F hs h=>
  obtain rfl:m=o:=X5 (g.symm.trans O);refine Qce O (h rd fr ro σ a w ⟨f,hs.rel hD hO hP,hN,r⟩ ag) (λ_ _ _ q=>T q) (λv w' q=>?_);obtain⟨ro',σ',g1,g2,J,g4,g5,g6⟩:=ab q F;refine hK v w' ro' σ' ⟨λy W=>?_,g1,g2,J,g4,g5⟩;obtain rfl:=X5 (X.symm.trans W);have:=g6 d;unfold lk at this;rw[VL]at this;rw[M]at this⊢;exact this
 |unit m e g M X F hs h=>
  obtain rfl:m=o:=X5 (g.symm.trans O);refine Qce O (h rd fr ro σ a w ⟨f,hs.rel hD hO hP,hN,r⟩ ag) (λ_ _ _ q=>T q) (λv w' q=>?_);obtain⟨ro',σ',g1,g2,J,g4,g5,g6⟩:=ab q F;refine hK v w' ro' σ' ⟨λy W=>?_,g1,g2,J,g4,g5⟩;obtain rfl:=X5 (X.symm.trans W);rw[M]
 |val m e d x g M hg X aa he h hH=>
  obtain rfl:m=o:=X5 (g.symm.trans O);subst hH;have hr:Rel fr ro σ H e N a w:=by
   refine⟨f,λs=>?_,hN,r⟩;rcases he s with⟨j,x,k,L,h3,Y⟩|Y|⟨k,Y⟩
   .rw[Y];exact hD j (by simpa using k) s x L h3
   .rw[Y];exact trivial
   .rw[Y];exact hO s k
  obtain⟨v0,k,L⟩:=h fr ro σ N a w hr;have hw:Region.wanted m (yielded l.toArray a.tmps)=true:=by unfold Region.wanted;rw[hg]
  refine Qce (R:=λE u w'=>E=.normal/\u.defers=a.defers/\u=a.put m.dst v0/\w'=w) O (Js hw k ?_) (λ_ _ _ q=>⟨q.1,q.2.1⟩) (λv w' q=>?_)
  .unfold wpL wpListIn;refine⟨rfl,?_,rfl,rfl⟩;rw[M];rfl
  .obtain⟨_,_,q1,rfl⟩:=q;refine hK v _ ro σ ⟨λy W=>?_,f,Qh.refl _ _ _,⟨λ_ q=>q,λ_ _=>rfl,λ_ _ q=>q,λ_ _ q=>q⟩,hh,rfl⟩;obtain rfl:=X5 (X.symm.trans W);rw[q1,M];have V:d<a.tmps.size:=by rw[hN];simpa using aa
   show VR ro σ w' x _;simpa[Act.put,Array.getD_eq_getD_getElem?,V]using L
 |row m e d p x B g M hg X hp G hlive hH hs h aa=>
  obtain rfl:m=o:=X5 (g.symm.trans O);subst hH;simp only[X3]at hp;have ac:=XX hp.1;have ah:p<hE:=by simpa using hp.2
  have hσp:=hh p ac ah G;have hr:Rel fr ro σ H e N a w:=⟨f,hs.rel hD hO hP,hN,r⟩;obtain⟨v0,ae,k,L,h3⟩:=h fr ro σ N a w hr;have hw:Region.wanted m (yielded l.toArray a.tmps)=true:=by unfold Region.wanted;rw[hg]
  have ev:Qh fr ro w ro (w.alloc ae):=Qh.alloc _ f.roLt f.frLt;have af:p<σ.length:=by rw[f.len];omega
  have n:Ext ro σ w ro (σ.set p (some w.heap.size)) (w.alloc ae):=⟨ev.sub,ev.keepRo,ev.shape,λj b q=>by
   rw[XV (λz=>by subst z;rw[hσp]at q;cases q)];exact q⟩
  obtain⟨g8,g9⟩:=h3 _ (Xa af) n;refine Qce (R:=λE u w'=>E=.normal/\u.defers=a.defers/\u=a.put m.dst v0/\w'=w.alloc ae) O (Js hw k ?_) (λ_ _ _ q=>⟨q.1,q.2.1⟩) (λv w' q=>?_)
  .unfold wpL wpListIn;refine⟨rfl,?_,rfl,rfl⟩;rw[M];rfl
  .obtain⟨_,_,q1,rfl⟩:=q;refine hK v _ ro (σ.set p (some w.heap.size)) ⟨λy W=>?_,f.allocAt hσp g9 L,ev,n,λp' g1 g2 J=>?_,?_⟩
   .obtain rfl:=X5 (X.symm.trans W);rw[q1,M];have V:d<a.tmps.size:=by rw[hN];simpa using aa
    show VR ro _ _ x _;simpa[Act.put,Array.getD_eq_getD_getElem?,V]using g8
   .by_cases q:p'=p
    .subst q;rw[Xa (by omega),hlive]at J;cases J
    .rw[XV (λz=>q z.symm)]at J⊢;exact hh p' g1 g2 J
   .rw[List.take_set,List.set_eq_of_length_le];rw[XC];omega
 |alloc m d t p cs g M hg X hp G hH h aa=>
  obtain rfl:m=o:=X5 (g.symm.trans O);subst hH;simp only[X3]at hp;have ac:=XX hp.1;have ah:p<hE:=by simpa using hp.2
  have hσp:=hh p ac ah G;obtain⟨lv,k,L,h3⟩:=h ro σ w a;have hw:Region.wanted m (yielded l.toArray a.tmps)=true:=by unfold Region.wanted;rw[hg]
  have ev:Qh fr ro w ro (w.alloc (.cells lv.toArray t)):=Qh.alloc _ f.roLt f.frLt;have af:p<σ.length:=by rw[f.len];omega
  have n:Ext ro σ w ro (σ.set p (some w.heap.size)) (w.alloc (.cells lv.toArray t)):=⟨ev.sub,ev.keepRo,ev.shape,λj b q=>by
   rw[XV (λz=>by subst z;rw[hσp]at q;cases q)];exact q⟩
  refine Qce (R:=λE u w'=>E=.normal/\u.defers=a.defers/\u=a.put m.dst (.pointer (some ⟨w.heap.size,0,none⟩))/\w'=w.alloc (.cells lv.toArray t)) O (Js hw k ?_) (λ_ _ _ q=>⟨q.1,q.2.1⟩) (λv w' q=>?_)
  .unfold wpL wpListIn;refine⟨rfl,?_,rfl,rfl⟩;rw[M];rfl
  .obtain⟨_,_,q1,rfl⟩:=q;refine hK v _ ro (σ.set p (some w.heap.size)) ⟨λy W=>?_,f.allocAt hσp ⟨lv,Q6 _ _,L.mono n,h3⟩,ev,n,λp' g1 g2 J=>?_,?_⟩
   .obtain rfl:=X5 (X.symm.trans W);rw[q1,M];have V:d<a.tmps.size:=by rw[hN];simpa using aa
    refine⟨w.heap.size,Xa af,?_⟩;simp[Act.put,Array.getD_eq_getD_getElem?,V]
   .by_cases q:p'=p
    .subst q;rw[Xa (by omega)]at J;cases J
    .rw[XV (λz=>q z.symm)]at J⊢;exact hh p' g1 g2 J
   .rw[List.take_set,List.set_eq_of_length_le];rw[XC];omega
def same(a b:List Nat):Bool:=a.all (b.contains ·)&&b.all (a.contains ·)
theorem Qo1{a b:List Nat}(h:same a b=true)(i:Nat):i∈a↔i∈b:=by
 unfold same at h;simp only[X3,Xv,List.contains_iff_mem]at h;exact⟨h.1 i,h.2 i⟩
structure QoS (l:List Oper) (m:Nat) (ds:List Nat) (hs:List Bool) (rq ms:List (List Nat)) (pl:List (List (Nat×Nat))) (N:Nat):Prop where
 len:m<=l.length
 dst:∀i o,i<m->l[i]?=some o->(∃d,o.dst=some d/\ds[i]?=some d/\d<N)\/o.dst=none
 dsl:ds.length=m
 nodup:∀(i j d:Nat),ds[i]?=some d->ds[j]?=some d->i=j
 back:∀i o,l[i]?=some o->∀j∈Qj o,j<i
 mid:∀o,l[m]?=some o->∀j,j<m->Qcz l m j
 chain:∀i o,m<i->l[i]?=some o->i-1∈Qj o
 rqs:∀i o,i<m->l[i]?=some o->∀h∈rq.getD i [],h<m/\hs.getD h false=true/\(h∈Qj o\/ ∃j∈Qj o,j<m/\h∈rq.getD j [])
 ms0:ms.getD 0 []=[]
 full:∀st,st<ms.length->st+1=ms.length\/ ∃i,i<m/\hs.getD i false=true/\i∉ms.getD st []
 msh:∀st h,h∈ms.getD st []->h<m/\hs.getD h false=true
 pls:∀i st,i<m->st<ms.length->(∀h∈rq.getD i [],h∈ms.getD st [])->(hs.getD i false=true->i∉ms.getD st [])->(∀h∈ms.getD st [],¬Qcz l h i)->
  ∃st',(st,st')∈pl.getD i []/\st'<ms.length/\if hs.getD i false then∀j,j∈ms.getD st' []↔j=i\/j∈ms.getD st []else st'=st
theorem Qk2{α:Type}{l:List α}{i:Nat}{d x:α}(h:l[i]?=some x):l.getD i d=x:=by rw[VS,h];rfl
theorem Qi4{P:Program}{l:List Oper}{m:Nat}{W:List Nat}{hs:List Bool}{rq X:List (List Nat)}{pl:List (List (Nat×Nat))}{N h0 hB hE:Nat}{xs:List A}{env0:Env}{Hs:List Qd}{Hk:Qd}
  (ok:QoS l m W hs rq X pl N)(az:xs.length=m)(bd:Hs.length=X.length)(ax:h0<=hB)(a5:hB<=hE)(a2:∀H∈Hs,hE<=H.length)
  (au:∀i p,i<m->p∈pl.getD i []->Jz P N l W xs env0 hB hE i (Hs.getD p.1 []) (Hs.getD p.2 []))(a8:Hs.getD (X.length-1) []=Hk)
  {fr ro0:Nat->Prop}{σ0:Sig}{w0:World}{rd:Option Nat}{ds0:List Deferred}{R:Exit->Act->World->Prop}
  (hk:∀ro σ a w,Rel fr ro σ Hk (Qaz W xs env0) N a w->Qh fr ro0 w0 ro w->σ.take h0=σ0.take h0->a.defers=ds0->wpL P rd l.toArray R (l.drop m) a w)(ah:Qdr fr ds0 w0)(a0:Qeu rd fr w0):
  ∀(b:Nat) (L:Array Bool) (a:Act) (w:World) (ro:Nat->Prop) (σ:Sig) (t:Nat),
   L.size=l.length->unl L<=b->(∀i,m<=i->¬onL L i)->t<X.length->Sim fr ro σ (Hs.getD t []) w->a.tmps.size=N->a.defers=ds0->
   (∀(i d:Nat) (x:A),onL L i->W[i]?=some d->xs[i]?=some x->VR ro σ w x (a.tmps.getD d undef))->(∀s,(∀j,W[j]?=some s->¬onL L j)->VR ro σ w (lk env0 s) (a.tmps.getD s undef))->
   Qh fr ro0 w0 ro w->σ.take h0=σ0.take h0->Qlq hB hE σ (Hs.getD t [])->
   (∀i,i<m->onL L i->∀h∈rq.getD i [],onL L h)->(∀i,i<m->hs.getD i false=true->(onL L i↔i∈X.getD t []))->
   (∀i o,onL L i->l[i]?=some o->∀j∈Qj o,onL L j)->
   wpAnyIn (WF rd) 0 P .any l.toArray R b L a w:=by
 have a6:∀t,t<X.length->hE<=(Hs.getD t []).length:=by
  intro t h;have e:Hs[t]?=some Hs[t]:=XQ (by omega);rw[Qk2 e];exact a2 _ (Vj _)
 have fin:∀(b:Nat) (L:Array Bool) (a:Act) (w:World) (ro:Nat->Prop) (σ:Sig) (t:Nat),
   L.size=l.length->unl L<=b->(∀i,m<=i->¬onL L i)->t<X.length->Sim fr ro σ (Hs.getD t []) w->a.tmps.size=N->a.defers=ds0->
   (∀(i d:Nat) (x:A),onL L i->W[i]?=some d->xs[i]?=some x->VR ro σ w x (a.tmps.getD d undef))->(∀s,(∀j,W[j]?=some s->¬onL L j)->VR ro σ w (lk env0 s) (a.tmps.getD s undef))->
   Qh fr ro0 w0 ro w->σ.take h0=σ0.take h0->
   (∀i,i<m->hs.getD i false=true->(onL L i↔i∈X.getD t []))->(∀i,i<m->onL L i)->
   wpAnyIn (WF rd) 0 P .any l.toArray R b L a w:=by
  intro b L a w ro σ t hsz hu hsuf hst hsim hN hdef hD hE' hev htk hI2 k;have an:t=X.length-1:=by
   rcases ok.full t hst with q|⟨i,O,Y,h3⟩
   .omega
   .exact absurd ((hI2 i O Y).1 (k i O)) h3
  rw[an,a8]at hsim;refine Ql0 ok.back ok.chain b m L a w hsz (λi hi=>⟨λq=>?_,λq=>k i q⟩) hu (XZ _) ok.len ?_
  .rcases VI i m with z|z
   .exact z
   .exact absurd q (hsuf i z)
  .have hr:Rel fr ro σ Hk (Qaz W xs env0) N a w:=by
    refine⟨hsim,λs=>?_,hN,by rw[hdef];exact ah.keep hev⟩;rcases Qpb (env0:=env0) (by rw[ok.dsl,az]) s with⟨j,x,O,Y,h3⟩|⟨O,Y⟩
    .rw[h3];have f:j<m:=by have:=(XR.1 O).1;rw[ok.dsl]at this;exact this
     exact hD j s x (k j f) O Y
    .rw[Y];exact hE' s (λj q=>absurd (VN q) (by simpa using O))
   exact hk ro σ a w hr hev htk hdef
 intro b
 induction b with
 |zero=>
  intro L a w ro σ t hsz hu hsuf hst hsim hN hdef hD hE' hev htk hho hI1 hI2 hcl;refine fin 0 L a w ro σ t hsz hu hsuf hst hsim hN hdef hD hE' hev htk hI2 (λi hi=>?_);by_cases q:onL L i
  .exact q
  .have:=QkG (L:=L) (i:=i) (by have:=ok.len;omega) q;omega
 |succ b ih=>
  intro L a w ro σ t hsz hu hsuf hst hsim hN hdef hD hE' hev htk hho hI1 hI2 hcl;by_cases k:∀i,i<m->onL L i
  .exact fin (b+1) L a w ro σ t hsz hu hsuf hst hsim hN hdef hD hE' hev htk hI2 k
  .have ba:∃i,i<m/\ ¬onL L i:=by
    refine Classical.byContradiction λq=>k λi hi=>Classical.byContradiction λz=>q ⟨i,hi,z⟩
   obtain⟨n,hn,am⟩:=ba;obtain⟨i0,O,Y,h3⟩:=least (p:=λi=>¬onL L i) (λi=>Classical.em _) n am;have bb:=ok.len;have aj:l[i0]?=some l[i0]:=XQ (by omega);have hr:i0∈Region.ready .any l.toArray L:=(QaN hsz).2 ⟨_,aj,Y,λj f=>Classical.byContradiction λz=>h3 j (ok.back i0 _ aj j f) z⟩;refine⟨λq=>(by rw[q]at hr;cases hr),λi hi=>?_⟩;obtain⟨o,V,aa,J⟩:=(QaN hsz).1 hi;have B:i<m:=by
    rcases VI i m with q|q
    .exact q
    .exfalso;rcases VI m i with z|z
     .exact hsuf (i-1) (by omega) (J _ (ok.chain i o z V))
     .have:i=m:=by omega
      subst this;have av:∀j,Qcz l i j->onL L j:=by
       intro j f
       induction f with
       |one r f=>rw[V]at r;cases r;exact J _ f
       |step _ r f ihr=>exact hcl _ _ ihr r _ f
      exact am (av n (ok.mid o V n hn))
   have ak:∀h∈rq.getD i [],onL L h:=by
    intro h T;obtain⟨_,_,q|⟨j,q1,q2,q3⟩⟩:=ok.rqs i o B V h T
    .exact J h q
    .exact hI1 j q2 (J j q1) h q3
   obtain⟨a4,a3,a9,M⟩:=ok.pls i t B hst (λh T=>by
    obtain⟨q1,q2,_⟩:=ok.rqs i o B V h T;exact(hI2 h q1 q2).1 (ak h T)) (λq z=>aa ((hI2 i B q).2 z)) (λh T hR=>by
    obtain⟨q1,q2⟩:=ok.msh t h T;have a1:onL L h:=(hI2 h q1 q2).2 T;have ao:∀j,Qcz l h j->onL L j:=by
     intro j f
     induction f with
     |one r f=>exact hcl _ _ a1 r _ f
     |step _ r f ihr=>exact hcl _ _ ihr r _ f
    exact aa (ao i hR))
   have hb:=au i _ B a3;refine hb.use V hsim hN (by rw[hdef];exact ah.keep hev) (a0.to hev λ_ q=>q) hho (a6 t hst) a5 (λj f s x q1 q2=>hD j s x (J j f) q1 q2) (λs O=>hE' s (λj q=>absurd (VN q) (by simpa using O))) (λj s O Y=>hE' s (λj' q q'=>?_)) ?_
   .obtain rfl:=ok.nodup j' j s q Y;have f:=Xd.1 (List.contains_iff_mem.1 O);cases ag:l[j']? with
    |none=>rw[ag]at f;simp at f
    |some oj=>
     rw[ag]at f;exact aa (hcl j' oj q' ag i (by simpa using f.2))
   intro v w' aq σ' af;have ab:=af.ext;have ac:∀s,(∀d,o.dst=some d->s≠d)->(a.put o.dst v).tmps.getD s undef=a.tmps.getD s undef:=by
    intro s a7;cases hd:o.dst with
    |none=>rfl
    |some d=>
     simp only[Act.put,Array.getD_eq_getD_getElem?,Vk];rw[Vy (λq=>a7 d hd q.symm)]
   have ae:(a.put o.dst v).tmps.size=N:=by
    cases hd:o.dst with
    |none=>simpa[Act.put]using hN
    |some d=>simpa[Act.put]using hN
   have ar:(a.put o.dst v).defers=ds0:=by
    cases hd:o.dst with
    |none=>simpa[Act.put]using hdef
    |some d=>simpa[Act.put]using hdef
   have bc:=Qhj (L:=L) (i:=i) (by omega) aa;have u:i<L.size:=by omega
   have ay:∀s j,W[j]?=some s->j≠i->∀d,o.dst=some d->s≠d:=by
    intro s j f E d hd q;subst q;rcases ok.dst i o B V with⟨d',g,Q,ai⟩|g
    .rw[hd]at g;cases g;exact E (ok.nodup j i _ f Q)
    .rw[hd]at g;cases g
   refine ih _ _ w' aq σ' a4 (by simpa using hsz) (by omega) (λj f q=>?_) a9 af.sim ae ar ?_ ?_ (hev.trans af.ev) ?_ af.holes ?_ ?_ ?_
   .rcases(JD u).1 q with z|z
    .omega
    .exact hsuf j f z
   .intro j s y f F hy;by_cases E:j=i
    .subst E;have hv:=af.val y hy;rcases ok.dst j o B V with⟨d',g,Q,ai⟩|g
     .obtain rfl:s=d':=X5 (F.symm.trans Q);simp only[g]at hv⊢;exact hv
     .simp only[g]at hv;subst hv;exact trivial
    .rw[ac s (ay s j F E)];rcases(JD u).1 f with z|z
     .exact absurd z E
     .exact(hD j s y z F hy).mono ab
   .intro s F;have aw:∀d,o.dst=some d->s≠d:=by
     rintro d hd rfl;rcases ok.dst i o B V with⟨d',g,Q,ai⟩|g
     .rw[hd]at g;cases g;exact F i Q ((JD u).2 (.inl rfl))
     .rw[hd]at g;cases g
    rw[ac s aw];exact(hE' s (λj q z=>F j q ((JD u).2 (.inr z)))).mono ab
   .rw[<- htk];have:=congrArg (List.take h0) af.take;rw[List.take_take,List.take_take,XG ax]at this;exact this
   .intro j f G h T;refine(JD u).2 (.inr ?_);rcases(JD u).1 G with z|z
    .subst z;exact ak h T
    .exact hI1 j f z h T
   .intro j f G;rw[JD u];cases q:hs.getD i false with
    |false=>
     have E:j≠i:=by rintro rfl;rw[q]at G;cases G
     rw[q]at M;simp only[Xi,if_false]at M;simp only[E,false_or];rw[M];exact hI2 j f G
    |true=>
     rw[q]at M;simp only[if_true]at M;rw[M j,hI2 j f G]
   .intro j o' f r j' al;rcases(JD u).1 f with z|z
    .subst z;rw[V]at r;cases r;exact(JD u).2 (.inr (J _ al))
    .exact(JD u).2 (.inr (hcl j o' z r j' al))
def Qef.dstB(N:Nat):Nat->List Oper->List Nat->Bool
 |_,_,[]=>true
 |i,o::r,d::ds=>(match o.dst with|some d'=>Nat.beq d' d&&Nat.blt d N|none=>true)&&Qef.dstB N (i+1) r ds
 |_,[],_::_=>false
def Qef.rqB(m:Nat)(hs:List Bool)(rq:List (List Nat)):Nat->List Oper->Bool
 |_,[]=>true
 |i,o::r=>(rq.getD i []).all (λh=>Nat.blt h m&&hs.getD h false&&((Qj o).contains h||(Qj o).any λj=>Nat.blt j m&&(rq.getD j []).contains h))&&Qef.rqB m hs rq (i+1) r
def QjJ(l:List Oper)(h:Nat):List Nat:=match l[h]? with
 |some o=>Qe5 l h (Qj o)
 |none=>[]
theorem QlC{l:List Oper}{h j:Nat}(q:j∈QjJ l h):Qcz l h j:=by
 unfold QjJ at q;cases a:l[h]? with
 |none=>rw[a]at q;cases q
 |some o=>rw[a]at q;exact Qcd h (Qj o) (λi b=>.one a b) j q
def Qef.plB(l:List Oper)(m:Nat)(hs:List Bool)(rq ms:List (List Nat))(pl:List (List (Nat×Nat))):Bool:=
 (List.range m).all λi=>(List.range ms.length).all λst=>((ms.getD st []).any λh=>(QjJ l h).contains i)|| !(rq.getD i []).all ((ms.getD st []).contains ·)||(hs.getD i false&&(ms.getD st []).contains i)||
  (pl.getD i []).any λp=>Nat.beq p.1 st&&Nat.blt p.2 ms.length&&(bif hs.getD i false then same (ms.getD p.2 []) (i::ms.getD st [])else Nat.beq p.2 st)
def Qef(l:List Oper)(m N:Nat)(ds:List Nat)(hs:List Bool)(rq ms:List (List Nat))(pl:List (List (Nat×Nat))):Bool:=
 Nat.ble m l.length&&(ds.length==m)&&Qef.dstB N 0 l ds&&drawChk.nodupB ds&&drawChk.goB l m 0 l&&Qef.rqB m hs rq 0 l&&(ms.getD 0 []).isEmpty&&Nat.blt 0 ms.length
 &&((List.range ms.length).all λst=>Nat.beq (st+1) ms.length||(List.range m).any λi=>hs.getD i false&& !(ms.getD st []).contains i)&&Qef.plB l m hs rq ms pl&&(List.range ms.length).all λst=>(ms.getD st []).all λh=>Nat.blt h m&&hs.getD h false
theorem QgZ{N:Nat}:∀(l:List Oper) (a:List Nat) (b:Nat),Qef.dstB N b l a=true->∀(i d:Nat) (o:Oper),l[i]?=some o->a[i]?=some d->
  (o.dst=some d/\d<N)\/o.dst=none:=by
 intro l
 induction l with
 |nil=>intro a b h i d o f;simp at f
 |cons x r k=>
  intro a b h i d o f g;cases a with
  |nil=>simp at g
  |cons y a=>
   simp only[Qef.dstB,X3]at h;cases i with
   |zero=>
    simp at f g;subst f;subst g;have h:=h.1;split at h
    .rename_i m j;simp only[X3]at h;have e:=XW h.1;subst e;exact .inl ⟨j,by simpa using h.2⟩
    .rename_i j;exact .inr j
   |succ i=>
    have:=k a (b+1) h.2 i d o (by simpa using f) (by simpa using g);exact this
theorem QmX{m:Nat}{e:List Bool}{d:List (List Nat)}:∀(l:List Oper) (b:Nat),Qef.rqB m e d b l=true->∀(i:Nat) (o:Oper),l[i]?=some o->
  ∀h∈d.getD (b+i) [],h<m/\e.getD h false=true/\(h∈Qj o\/ ∃j∈Qj o,j<m/\h∈d.getD j []):=by
 intro l
 induction l with
 |nil=>intro b h i o a;simp at a
 |cons x r f=>
  intro b h i o a;simp only[Qef.rqB,X3]at h;cases i with
  |zero=>
   simp at a;subst a;intro k g;have:=Xv.1 h.1 k (by simpa using g);simp only[X3,Bool.or_eq_true,List.contains_iff_mem,Xw]at this;obtain⟨⟨s,p⟩,t⟩:=this;refine⟨by simpa using s,p,?_⟩;rcases t with q|⟨j,w,n,u⟩
   .exact .inl q
   .exact .inr ⟨j,w,by simpa using n,u⟩
  |succ i=>
   have:=f (b+1) h.2 i o (by simpa using a);rw[show b+1+i=b+(i+1)by omega]at this;exact this
theorem Qod{l:List Oper}{m N:Nat}{r:List Nat}{F:List Bool}{G s:List (List Nat)}{H:List (List (Nat×Nat))}(h:Qef l m N r F G s H=true):
  QoS l m r F G s H N/\0<s.length:=by
 unfold Qef at h;simp only[X3]at h;obtain⟨⟨⟨⟨⟨⟨⟨⟨⟨⟨P,O⟩,X⟩,Y⟩,T⟩,R⟩,M⟩,J⟩,L⟩,y⟩,E⟩:=h;have B:m<=l.length:=XX P;have x:r.length=m:=by simpa using O
 have g:=QiC l 0 T;refine⟨⟨B,λi o t b=>?_,x,Qd6 Y,λi o b=>by have:=(g i o b).1;simpa using this,λo b j hj=>Qcd m (Qj o) (λi t=>.one b t) j ((g m o b).2.1 (by omega) j hj),
  λi o t b=>by have:=(g i o b).2.2 (by omega);simpa using this,λi o t b h d=>by have:=QmX l 0 R i o b h (by simpa using d);exact this,
  by simpa using M,λk a=>?_,λk h d=>?_,λi k t a Q V W=>?_⟩,by simpa using J⟩
 .have w:r[i]?=some r[i]:=XQ (by omega);rcases QgZ l r 0 X i _ o b w with⟨n,u⟩|n
  .exact .inl ⟨_,n,w,u⟩
  .exact .inr n
 .have:=Xv.1 L k (List.mem_range.2 a);simp only[Bool.or_eq_true,Xw,X3,Bool.not_eq_true']at this;rcases this with q|⟨i,n,u,f⟩
  .exact .inl (XW q)
  .exact .inr ⟨i,List.mem_range.1 n,u,λz=>by rw[List.contains_iff_mem.2 z]at f;cases f⟩
 .have a:k<s.length:=by
   rcases VI k s.length with q|q
   .exact q
   .rw[VS,XU q]at d;cases d
  have:=Xv.1 (Xv.1 E k (List.mem_range.2 a)) h d;simp only[X3]at this;exact⟨by simpa using this.1,this.2⟩
 .have:=Xv.1 (Xv.1 y i (List.mem_range.2 t)) k (List.mem_range.2 a);simp only[Bool.or_eq_true,Bool.not_eq_true']at this;rcases this with((q|q)|q)|q
  .exfalso;obtain⟨h,d,q⟩:=Xw.1 q;exact W h d (QlC (List.contains_iff_mem.1 q))
  .exfalso;have:((G.getD i []).all ((s.getD k []).contains ·))=true:=Xv.2 λh d=>List.contains_iff_mem.2 (Q h d);rw[this]at q;cases q
  .simp only[X3]at q;exact absurd (List.contains_iff_mem.1 q.2) (V q.1)
  .obtain⟨p,hp,q⟩:=Xw.1 q;simp only[X3]at q;obtain⟨⟨n,u⟩,f⟩:=q;have e:=XW n;refine⟨p.2,by rw[<- e];exact hp,by simpa using u,?_⟩;cases z:F.getD i false with
   |true=>
    rw[z]at f;simp only[Vv]at f;simp only[if_true];intro j;rw[Qo1 f j,Vc]
   |false=>
    rw[z]at f;simp only[Vw]at f;simp only[Xi,if_false];exact XW f
inductive Qh0 (P:Program) (N:Nat) (l:List Oper) (ds:List Nat) (xs:List A) (env0:Env) (hB hE:Nat):Nat->List (List (Qd×Qd))->Prop
 |nil {i:Nat}:Qh0 P N l ds xs env0 hB hE i []
 |cons {i:Nat} {s:List (Qd×Qd)} {r:List (List (Qd×Qd))} (h:∀p∈s,Jz P N l ds xs env0 hB hE i p.1 p.2) (k:Qh0 P N l ds xs env0 hB hE (i+1) r):Qh0 P N l ds xs env0 hB hE i (s::r)
theorem Qh0.get{P:Program}{N:Nat}{l:List Oper}{e:List Nat}{xs:List A}{env0:Env}{hB hE b:Nat}{d:List (List (Qd×Qd))}(h:Qh0 P N l e xs env0 hB hE b d):
  ∀(i:Nat) (s:List (Qd×Qd)),d[i]?=some s->∀p∈s,Jz P N l e xs env0 hB hE (b+i) p.1 p.2:=by
 induction h with
 |nil=>intro i s h;simp at h
 | @cons b s0 r h _ ih=>
  intro i s a;cases i with
  |zero=>simp at a;subst a;exact h
  |succ i=>
   have:=ih i s (by simpa using a);rw[show b+1+i=b+(i+1)by omega]at this;exact this
theorem Qe{P:Program}{N:Nat}{l:List Oper}{b:List Nat}{xs:List A}{env0:Env}{hB hE i:Nat}:∀p∈([]:List (Qd×Qd)),Jz P N l b xs env0 hB hE i p.1 p.2:=by
 intro p a;cases a
theorem Qc{P:Program}{N:Nat}{l:List Oper}{a:List Nat}{xs:List A}{env0:Env}{hB hE i:Nat}{H H':Qd}{r:List (Qd×Qd)}(h:Jz P N l a xs env0 hB hE i H H')
  (k:∀p∈r,Jz P N l a xs env0 hB hE i p.1 p.2):∀p∈(H,H')::r,Jz P N l a xs env0 hB hE i p.1 p.2:=by
 intro p b;rcases Vc.1 b with rfl|q
 .exact h
 .exact k p q
theorem Qhp{P:Program}{h0 N:Nat}{id:Nat}{l:List Oper}{env:Env}{H:Qd}{fr ro:Nat->Prop}{σ:Sig}{a:Act}{w:World}{rd:Option Nat}{R:Exit->Act->World->Prop}(m c:Nat)(V:List Nat)(hs:List Bool)(rq W:List (List Nat))(E:List (List (Nat×Nat)))(xs:List A)(Hs:List Qd)(Hk:Qd)
  (hm:P.follows .mixedOrders=true)(hc:Qef l m N V hs rq W E=true)(ac:Nat.beq xs.length m=true)(ag:Nat.beq Hs.length W.length=true)(ab:Nat.ble h0 H.length=true)
  (hh:Hs.all (λX=>Nat.ble (H.length+c) X.length)=true)(af:Hs[0]?=some (H++List.replicate c .dead))(Y:Hs.getD (W.length-1) []=Hk)
  (T:Qh0 P N l V xs env H.length (H.length+c) 0 (E.map λq=>q.map λp=>(Hs.getD p.1 [],Hs.getD p.2 [])))(aa:Nat.beq E.length m=true)
  (r:Rel fr ro σ H env N a w)(ae:Qeu rd fr w)
  (hk:∀ro' σ' a' w',Rel fr ro' σ' Hk (Qaz V xs env) N a' w'->Qh fr ro w ro' w'->σ'.take h0=σ.take h0->a'.defers=a.defers->wpL P rd l.toArray R (l.drop m) a' w'):(Code.region id l.toArray true).wpIn (WF rd) 0 P R a w:=by
 obtain⟨ok,F⟩:=Qod hc;have O:=XW ac;have B:=XW ag;have ai:=XW aa;have M:Qh fr ro w ro {w with drawn:=w.drawn+1}:=⟨λ_ q=>q,λ_ _=>rfl,λ_ _=>rfl,XZ _,λ_ _ q=>q,rfl,rfl,rfl,Nat.le_succ _⟩;have u:Ext ro σ w ro (σ++List.replicate c none) {w with drawn:=w.drawn+1}:=M.ext σ _;have ah:=r.sim.len;have L:Hs.getD 0 []=H++List.replicate c .dead:=Qk2 af;have n:∀(i:Nat) (s:Option Nat) (x:Blk),(σ++List.replicate c none)[i]?=some s->(H++List.replicate c Blk.dead)[i]?=some x->(σ[i]?=some s/\H[i]?=some x)\/(s=none/\x=.dead):=by
  intro i s x k h;rcases VI i σ.length with q|q
  .rw[XS q]at k;rw[XS (by omega)]at h;exact .inl ⟨k,h⟩
  .rw[XT q]at k;rw[XT (by omega)]at h;have a1:=VN k;have a2:=VN h;exact .inr ⟨(List.mem_replicate.1 a1).2,(List.mem_replicate.1 a2).2⟩
 have G:Sim fr ro (σ++List.replicate c none) (H++List.replicate c .dead) {w with drawn:=w.drawn+1}:=by
  refine⟨by simp[ah],r.sim.roOk.to (λ_ q=>q) (λ_ _=>rfl) r.sim.roLt,r.sim.frLt,r.sim.roFr,?_,?_,?_,
   r.sim.hidTo (· = ·) Q0 (XZ _) (λ_ _ _ _ _ _ _ q=>q) (λ_ _ _ _ _ _ _ q=>q) λj d y g1 g2 g3=>.inl ?_⟩
  rotate_left 3
  .rcases n j _ _ g1 g2 with⟨g,t⟩|⟨g,_⟩
   .exact⟨j,y,rfl,g,t,(λz=>z),λc q=>q⟩
   .cases g
  .intro i b blk k h Q;rcases n i _ _ k h with⟨g,t⟩|⟨g,_⟩
   .exact r.sim.own i b blk g t Q
   .cases g
  .intro i j b x y k h Q h4 h5 h6;rcases n i _ _ k Q with⟨g,t⟩|⟨g,_⟩
   .rcases n j _ _ h h4 with⟨q3,q4⟩|⟨q3,_⟩
    .exact r.sim.inj i j b x y g q3 t q4 h5 h6
    .cases q3
   .cases g
  .intro i s x k h;rcases n i _ _ k h with⟨g,t⟩|⟨g,t⟩
   .exact BR.keep u (λb hb _=>rfl) (r.sim.blk i s x g t) (λ_ _ _ _=>rfl)
   .subst t;exact trivial
 have f:∀i,¬onL (Array.replicate l.length false) i:=by
  intro i q;unfold onL at q;rw[Array.getElem?_replicate]at q;split at q<;>simp at q
 have J:=XX ab;refine wpIn_region_any hm ?_;rw[List.size_toArray];refine Qi4 ok O B J (Nat.le_add_right _ _) (λX hX=>XX (Xv.1 hh X hX)) ?_ Y (ro0:=ro) (σ0:=σ) (w0:=w) (ds0:=a.defers) hk r.defers ae
  l.length _ a _ ro (σ++List.replicate c none) 0 (by simp) ?_ (λi _=>f i) F (by rw[L];exact G) r.size rfl (λi d x q=>absurd q (f i)) (λs _=>(r.env s).mono u) M (Qw (by omega)) ?_
  (λi _ q=>absurd q (f i)) (λi _ _=>⟨λq=>absurd q (f i),λq=>by rw[ok.ms0]at q;cases q⟩) (λi o q=>absurd q (f i))
 .intro i p hi hp;have e:(E.map λq=>q.map λp=>(Hs.getD p.1 [],Hs.getD p.2 []))[i]?=some ((E.getD i []).map λp=>(Hs.getD p.1 [],Hs.getD p.2 [])):=by
   rw[Xq,XQ (by omega),VS,XQ (by omega)];rfl
  have:=T.get i _ e _ (Xe.2 ⟨p,hp,rfl⟩);simpa using this
 .unfold unl;simp[List.countP_replicate]
 .intro p k h Q;rw[XT (by omega),List.getElem?_replicate,Vz (by omega)]
theorem YY{P:Program}{h0 N:Nat}{id:Nat}{l:List Oper}{env:Env}{H:Qd}{Q:QB}(m c:Nat)(d:List Nat)(u:List Bool)(x f:List (List Nat))(g:List (List (Nat×Nat)))(xs:List A)(Hs:List Qd)(Hk:Qd)
  (B:P.follows .mixedOrders=true)(F:Qef l m N d u x f g=true)(h:Nat.beq xs.length m=true)(k:Nat.beq Hs.length f.length=true)(t:Nat.ble h0 H.length=true)
  (z:Hs.all (λX=>Nat.ble (H.length+c) X.length)=true)(j:Hs[0]?=some (H++List.replicate c .dead))(n:Hs.getD (f.length-1) []=Hk)
  (i:Qh0 P N l d xs env H.length (H.length+c) 0 (g.map λq=>q.map λp=>(Hs.getD p.1 [],Hs.getD p.2 [])))(s:Nat.beq g.length m=true)
  (y:WO P h0 N l.toArray (l.drop m) (Qaz d xs env) Hk Q):TC P h0 N (.region id l.toArray true) env H Q:=by
 intro E G J σ a w r hrd;refine Code.wpIn_mono (λe a w q=>Qb9.postW q) (Qhp m c d u x f g xs Hs Hk B F h k t z j n i s r hrd λro' σ' a' w' hr hev htk hdf=>?_);have b:=y E G ro' σ' a' w' hr (hrd.to hev λ_ q=>q);rw[hdf]at b;exact Yk (λe a w q=>q.step hev htk) _ _ _ b
def draw0(l:List Oper)(m N:Nat)(ds:List Nat):Bool:=Nat.ble m l.length&&(ds.length==m)&&Qef.dstB N 0 l ds&&drawChk.nodupB ds&&drawChk.goB l m 0 l
inductive Oq (P:Program) (N:Nat) (l:List Oper) (ds:List Nat) (xs:List A) (env0:Env) (H:Qd):Nat->Nat->Prop
 |n {i:Nat}:Oq P N l ds xs env0 H i 0
 |c {i c:Nat} (h:Jz P N l ds xs env0 H.length H.length i H H) (k:Oq P N l ds xs env0 H (i+1) c):Oq P N l ds xs env0 H i (c+1)
theorem Oq.get{P:Program}{N:Nat}{l:List Oper}{a:List Nat}{xs:List A}{env0:Env}{H:Qd}{b c:Nat}(h:Oq P N l a xs env0 H b c):∀i,i<c->Jz P N l a xs env0 H.length H.length (b+i) H H:=by
 induction h with
 |n=>intro i d;omega
 | @c b c h _ ih=>
  intro i d;cases i with
  |zero=>exact h
  |succ i=>
   have:=ih i (by omega);rw[show b+1+i=b+(i+1)by omega]at this;exact this
theorem Qoe{l:List Oper}{m N:Nat}{d:List Nat}(h:draw0 l m N d=true):QoS l m d [] [] [[]] (List.replicate m [(0,0)]) N:=by
 unfold draw0 at h;simp only[X3]at h;obtain⟨⟨⟨⟨x,z⟩,u⟩,w⟩,s⟩:=h;have q:m<=l.length:=XX x;have n:d.length=m:=by simpa using z
 have g:=QiC l 0 s;refine⟨q,λi o e b=>?_,n,Qd6 w,λi o b=>by have:=(g i o b).1;simpa using this,λo b j y=>Qcd m (Qj o) (λi e=>.one b e) j ((g m o b).2.1 (by omega) j y),
  λi o e b=>by have:=(g i o b).2.2 (by omega);simpa using this,λi o e b h p=>by simp at p,rfl,λk a=>.inl (by simp at a;simp[a]),λk h p=>by cases k<;>simp at p,λi k e a _ _ _=>?_⟩
 .have f:d[i]?=some d[i]:=XQ (by omega);rcases QgZ l d 0 u i _ o b f with⟨r,t⟩|r
  .exact .inl ⟨_,r,f,t⟩
  .exact .inr r
 .have:k=0:=by simp at a;exact a
  subst this;refine⟨0,?_,by simp,by simp⟩;rw[VS,List.getElem?_replicate,Vz e];exact VH.2 rfl
theorem Qhq{P:Program}{h0 N:Nat}{id:Nat}{l:List Oper}{env:Env}{H:Qd}{fr ro:Nat->Prop}{σ:Sig}{a:Act}{w:World}{rd:Option Nat}{R:Exit->Act->World->Prop}(m:Nat)(t:List Nat)(xs:List A)
  (E:P.follows .mixedOrders=true)(F:Go.Sw.draw0 l m N t=true)(j:Nat.beq xs.length m=true)(u:Nat.ble h0 H.length=true)
  (k:Oq P N l t xs env H 0 m)(r:Rel fr ro σ H env N a w)(n:Qeu rd fr w)
  (B:∀ro' σ' a' w',Rel fr ro' σ' H (Qaz t xs env) N a' w'->Qh fr ro w ro' w'->σ'.take h0=σ.take h0->a'.defers=a.defers->wpL P rd l.toArray R (l.drop m) a' w'):(Code.region id l.toArray true).wpIn (WF rd) 0 P R a w:=by
 have ok:=Qoe F;have h:=XW j;have g:Qh fr ro w ro {w with drawn:=w.drawn+1}:=⟨λ_ q=>q,λ_ _=>rfl,λ_ _=>rfl,XZ _,λ_ _ q=>q,rfl,rfl,rfl,Nat.le_succ _⟩;have e:Ext ro σ w ro σ {w with drawn:=w.drawn+1}:=g.ext0 σ;have f:Sim fr ro σ H {w with drawn:=w.drawn+1}:=r.sim.heap rfl;have b:∀i,¬onL (Array.replicate l.length false) i:=by
  intro i q;unfold onL at q;rw[Array.getElem?_replicate]at q;split at q<;>simp at q
 refine wpIn_region_any E ?_;rw[List.size_toArray];refine Qi4 (hB:=H.length) (hE:=H.length) (Hs:=[H]) (Hk:=H) ok h rfl (XX u) (XZ _) (λX hX=>by rw[VH.1 hX];exact XZ _) ?_ rfl (ro0:=ro) (σ0:=σ) (w0:=w) (ds0:=a.defers) B r.defers n
  l.length _ a _ ro σ 0 (by simp) ?_ (λi _=>b i) (by simp) f r.size rfl (λi d x q=>absurd q (b i)) (λs _=>(r.env s).mono e) g rfl (λp G J=>by omega)
  (λi _ q=>absurd q (b i)) (λi _ _=>⟨λq=>absurd q (b i),λq=>by cases q⟩) (λi o q=>absurd q (b i))
 .intro i p z y;rw[VS,List.getElem?_replicate,Vz z]at y;obtain rfl:=VH.1 y;have:=k.get i z;rw[XA]at this;exact this
 .unfold unl;simp[List.countP_replicate]
theorem TC.draw0{P:Program}{h0 N:Nat}{id:Nat}{l:List Oper}{env:Env}{H:Qd}{Q:QB}(m:Nat)(d:List Nat)(xs:List A)
  (j:P.follows .mixedOrders=true)(n:Go.Sw.draw0 l m N d=true)(f:Nat.beq xs.length m=true)(h:Nat.ble h0 H.length=true)
  (g:Oq P N l d xs env H 0 m)(i:WO P h0 N l.toArray (l.drop m) (Qaz d xs env) H Q):TC P h0 N (.region id l.toArray true) env H Q:=by
 intro k p s σ a w r hrd;refine Code.wpIn_mono (λe a w q=>Qb9.postW q) (Qhq m d xs j n f h g r hrd λro' σ' a' w' hr hev htk hdf=>?_);have b:=i k p ro' σ' a' w' hr (hrd.to hev λ_ q=>q);rw[hdf]at b;exact Yk (λe a w q=>q.step hev htk) _ _ _ b
section
variable {P:Program} {N:Nat} {l:List Oper} {ds af bf:List Nat} {xs:List A} {env0 e r:Env} {H H':Qd} {i hB hE:Nat} {o:Oper} {d s:Nat} {x a:A}
theorem sN:Sb af bf ds xs env0 []:=.nil
theorem sD(j:Nat)(k:Sb af bf ds xs env0 r)(b:af.contains j=true:=by exact rfl)(h2:ds[j]?=some s:=by exact rfl)(h3:xs[j]?=some a:=by exact rfl):Sb af bf ds xs env0 ((s,a)::r):=.dep j b h2 h3 k
theorem sP(j:Nat)(k:Sb af bf ds xs env0 r)(b:bf.contains j=true:=by exact rfl)(h2:ds[j]?=some s:=by exact rfl)(h3:lk env0 s=a:=by exact rfl):Sb af bf ds xs env0 ((s,a)::r):=.pre j b h2 h3 k
theorem sO(s:Nat)(k:Sb af bf ds xs env0 r)(b:ds.contains s=false:=by exact rfl)(h2:lk env0 s=a:=by exact rfl):Sb af bf ds xs env0 ((s,a)::r):=.old b h2 k
theorem Qeg(H:Qd):Qaw hB hE H H=true:=by
 unfold Qaw;refine Xv.2 λp _=>?_;cases Qbu H[hB+p]? <;>rfl
theorem Om(b:l[i]?=some o)(f:Sb (Qj o) (Qja l i) ds xs env0 e)(h:WO P H.length N l.toArray [o] e H (Y8 (up e d x) H))(a:o.dst=some d:=by exact rfl)(hx:xs[i]?=some x:=by exact rfl):Jz P N l ds xs env0 hB hE i H H:=
 .mk o e d x b a hx (Qeg H) f h
theorem Om1(b:l[i]?=some o)(f:Sb (Qj o) (Qja l i) ds xs env0 e)(h:WO P H.length N l.toArray [o] e H (Y8 (up e d x) H'))(a:o.dst=some d:=by exact rfl)(hx:xs[i]?=some x:=by exact rfl)(hdd:Qaw hB hE H H'=true:=by exact rfl):Jz P N l ds xs env0 hB hE i H H':=
 .mk o e d x b a hx hdd f h
theorem Om2(b:l[i]?=some o)(d:Sb (Qj o) (Qja l i) ds xs env0 e)(h:WO P H.length N l.toArray [o] e H (Y8 e H'))(a:o.dst=none:=by exact rfl)(hx:xs[i]?=some .any:=by exact rfl)(hdd:Qaw hB hE H H'=true:=by exact rfl):Jz P N l ds xs env0 hB hE i H H':=
 .unit o e b a hx hdd d h
end
end Go.Sw
namespace Go.Sw
structure TyI where
 fld:List (Nat×Nat×Nat)
 agg:List (Nat×Bool×Nat)
 zer:List (Nat×List A×List (Nat×Nat))
structure TyOK (P:Program) (T:TyI):Prop where
 fld:∀e∈T.fld,∃n,QG P e.1 e.2.1 e.2.2 n
 agg:∀e∈T.agg,(∀w,(isAgg e.1).run P w=.ok e.2.1 w)/\ ∀w,(sizeOf e.1).run P w=.ok e.2.2 w
 zer:∀e∈T.zer,(∃z,(∀w,(zeroValue e.1).run P w=.ok z w)/\ZR (.agg e.2.1) z)/\QC P e.1 e.2.2
def QiH:List (Nat×Nat×Nat)->Nat->Nat->Option Nat
 |[],_,_=>none
 |(a,b,c)::r,t,f=>bif Nat.beq a t&&Nat.beq b f then some c else QiH r t f
def Qcp{β:Type}:List (Nat×β)->Nat->Option β
 |[],_=>none
 |(a,b)::r,t=>bif Nat.beq a t then some b else Qcp r t
theorem QiG{l:List (Nat×Nat×Nat)}{t f c:Nat}(h:QiH l t f=some c):(t,f,c)∈l:=by
 induction l with
 |nil=>cases h
 |cons x r e=>
  obtain⟨a,b,d⟩:=x;unfold QiH at h;cases q:(Nat.beq a t&&Nat.beq b f)with
  |true=>
   rw[q]at h;simp only[X3]at q;have g:=XW q.1;have i:=XW q.2;simp only[Vv,Option.some.injEq]at h;subst g i h;exact .head _
  |false=>rw[q]at h;exact .tail _ (e h)
theorem QaB{β:Type}{l:List (Nat×β)}{t:Nat}{c:β}(h:Qcp l t=some c):(t,c)∈l:=by
 induction l with
 |nil=>cases h
 |cons x r d=>
  obtain⟨a,b⟩:=x;unfold Qcp at h;cases q:Nat.beq a t with
  |true=>
   rw[q]at h;have e:=XW q;simp only[Vv,Option.some.injEq]at h;subst e h;exact .head _
  |false=>rw[q]at h;exact .tail _ (d h)
def QhQ(H:Qd):A->Option (List A)
 |.rp cs=>some cs
 |.ptr i off=>match H[i]? with
  |some (.cells _ cs)=>some (cs.drop off)
  |_=>none
 |_=>none
theorem Qkf{H:Qd}{p:A}{cs:List A}(h:QhQ H p=some cs):Pts H p cs:=by
 unfold QhQ at h;split at h
 .cases h;exact Pts.rp
 .split at h
  .rename_i a;cases h;exact Pts.cells a rfl
  .cases h
 .cases h
def QmP(T:TyI)(o:Oper)(env:Env)(H:Qd):Option A:=
 match o.op with
 |.move x=>some (opA env x)
 |.assign x=>some (opA env x)
 |.fieldAddr t x f=>match QiH T.fld t f with
  |none=>none
  |some off=>match opA env x with
   |.ptr i p=>some (.ptr i (p+off))
   |.rp cs=>some (.rp (cs.drop off))
   |_=>none
 |.load t x=>match Qcp T.agg t with
  |none=>none
  |some (b,n)=>match x with
   |.global g=>match QjT[g]? with
    |some zs=>bif b&&Nat.beq zs.length n then some (.agg (zs.map (A.int .i64)))else none
    |none=>none
   |x=>match QhQ H (opA env x)with
    |none=>none
    |some cs=>bif b then(bif Nat.beq (cs.take n).length n then some (.agg (cs.take n))else none)else cs.head?
 |.build t parts=>match Qcp T.zer t with
  |none=>none
  |some (zs,pl)=>match Qeb env pl zs parts.toList with
   |some cs=>some (.agg cs)
   |none=>none
 |.extract x i=>match opA env x with
  |.tup vs=>vs[i]?
  |_=>none
 |.makeFunc f first cap=>some (.fn f (first.toList.map (opA env)) (cap.toList.map (opA env)))
 |_=>none
theorem QmO{P:Program}{T:TyI}(l:TyOK P T){o:Oper}{env:Env}{H:Qd}{x:A}(h:QmP T o env H=some x):OpV P o env H x:=by
 unfold QmP at h;split at h
 .rename_i y a;cases h;exact OpV.move a rfl
 .rename_i y a;cases h;exact OpV.assign a rfl
 .rename_i t y f a;split at h
  .cases h
  .rename_i B m;obtain⟨n,s⟩:=l.fld _ (QiG m);split at h
   .rename_i i p j;cases h;exact Yw s a j
   .rename_i d j;cases h;exact Qx s a j rfl
   .cases h
 .rename_i t y a;split at h
  .cases h
  .rename_i b n E;obtain⟨e,k⟩:=l.agg _ (QaB E);split at h
   .rename_i g;split at h
    .rename_i r L;cases q:(b&&Nat.beq r.length n)with
     |false=>rw[q]at h;cases h
     |true=>
      rw[q]at h;cases h;simp only[X3]at q;obtain⟨rfl,F⟩:=q;exact Qg7 e k L (XW F) a
    .cases h
   .split at h
    .cases h
    .rename_i d G;have u:=Qkf G;cases b with
     |true=>
      simp only[Vv]at h;cases q:Nat.beq (d.take n).length n with
      |false=>rw[q]at h;cases h
      |true=>
       rw[q]at h;cases h;exact Qk a e k rfl u rfl (XW q)
     |false=>
      simp only[Vw]at h;cases d with
      |nil=>cases h
      |cons v d=>cases h;exact OpV.load a e rfl u
 .rename_i t parts a;split at h
  .cases h
  .rename_i r M w;obtain⟨⟨z,e,k⟩,J⟩:=l.zer _ (QaB w);split at h
   .rename_i d m;cases h;exact OpV.build e k J (by rw[a]) m
   .cases h
 .rename_i y i a;split at h
  .rename_i vs j;exact OpV.extract a j h
  .cases h
 .rename_i f first cap a
  cases h;exact OpV.makeFunc (first:=first.toList) (cap:=cap.toList) (by rw[a]) rfl rfl
 .cases h
def Qi2(af:List Nat):Nat->List Nat->List A->Env->Env
 |j,d::ds,x::xs,e=>(d,bif af.contains j then x else .any)::Qi2 af (j+1) ds xs e
 |_,_,_,e=>e
theorem Qpz{af:List Nat}{env0:Env}(s:Nat):∀(a:List Nat) (xs:List A) (b:Nat),a.length=xs.length->
  (∃(j:Nat) (x:A),a[j]?=some s/\xs[j]?=some x/\lk (Qi2 af b a xs env0) s=bif af.contains (b+j)then x else .any)\/(a.contains s=false/\lk (Qi2 af b a xs env0) s=lk env0 s):=by
 intro a
 induction a with
 |nil=>intro xs b f;right;exact⟨rfl,by unfold Qi2;rfl⟩
 |cons d a k=>
  intro xs b f;cases xs with
  |nil=>cases f
  |cons x xs=>
   cases q:Nat.beq s d with
   |true=>
    have e:=XW q;subst e;left;refine⟨0,x,rfl,rfl,?_⟩;simp only[Qi2,lk,q,Vv];rfl
   |false=>
    have g:s≠d:=λz=>by subst z;simp[VL]at q
    simp only[Qi2,lk,q,Vw];rcases k xs (b+1) (by simpa using f)with⟨j,y,h,i,l⟩|⟨h,i⟩
    .left;refine⟨j+1,y,by simpa using h,by simpa using i,?_⟩;rw[show b+(j+1)=b+1+j by omega];exact l
    .right;refine⟨?_,i⟩;rw[List.contains_cons,h];simpa using g
def QkH(T:TyI)(N:Nat)(l:List Oper)(ds:List Nat)(xs:List A)(env0:Env)(H:Qd)(i:Nat):Option A:=
 match l[i]? with
 |none=>none
 |some o=>match o.guard,o.dst with
  |none,some d=>bif Nat.blt d N&&Nat.beq ds.length xs.length then QmP T o (Qi2 (Qj o) 0 ds xs env0) H else none
  |_,_=>none
theorem Qpy{af b:List Nat}{xs:List A}{env0:Env}(hl:b.length=xs.length):QoP af b xs env0 (Qi2 af 0 b xs env0):=by
 intro s;rcases Qpz (af:=af) (env0:=env0) s b xs 0 hl with⟨j,x,d,e,a⟩|h
 .rw[XA]at a;cases q:af.contains j with
  |true=>rw[q]at a;exact .inl ⟨j,x,q,d,e,a⟩
  |false=>rw[q]at a;exact .inr (.inl a)
 .exact .inr (.inr h)
theorem vQ{P:Program}{T:TyI}(g:TyOK P T){N:Nat}{l:List Oper}{a:List Nat}{xs:List A}{env0:Env}{hB hE i:Nat}{H:Qd}{x:A}(f:xs[i]?=some x)(h:QkH T N l a xs env0 H i=some x):Jz P N l a xs env0 hB hE i H H:=by
 unfold QkH at h;split at h
 .cases h
 .rename_i o b;split at h
  .rename_i d j e;cases q:(Nat.blt d N&&Nat.beq a.length xs.length)with
   |false=>rw[q]at h;cases h
   |true=>
    rw[q]at h;simp only[X3]at q;exact .val o _ d x b e j f q.1 (Qpy (XW q.2)) (QmO g h)
  .cases h
abbrev I(n:Int):A:=.int .i64 n
theorem zc{a:A}{v:Value}{al:List A}{vl:List Value}(h:ZR a v)(k:ZL al vl):ZL (a::al) (v::vl):=ZL.cons h k
def zr1:A->Value->Bool
 |.int k n,.int k' n'=>decide (k=k')&&decide (n=n')
 |.bool b,.bool b'=>b==b'
 |.str s,.string s'=>s.isEmpty&&s'.data.toList.isEmpty
 |.rsl _ es,.slice none 0 0=>es.isEmpty
 |.nils,.slice none 0 0=>true
 |.nilp,.pointer none=>true
 |.nilf,.nilFunc=>true
 |.nilm,.map none=>true
 |.nilif,.nilIface=>true
 |_,_=>false
def zrL:List A->List Value->Bool
 |[],[]=>true
 |a::r,v::s=>zr1 a v&&zrL r s
 |_,_=>false
def zrB:A->Value->Bool
 |.agg r,.agg s=>zrL r s.toList
 |a,v=>zr1 a v
theorem QmF{a:A}{v:Value}(h:zr1 a v=true):ZR a v:=by
 unfold zr1 at h;split at h
 .simp only[X3,Vx]at h;obtain⟨rfl,rfl⟩:=h;exact ZR.int
 .simp only[VE]at h;subst h;exact ZR.bool
 .rename_i s f;simp only[X3,List.isEmpty_iff]at h;obtain⟨rfl,b⟩:=h;obtain⟨d⟩:=f;obtain⟨d⟩:=d;have b:d=[]:=b;subst b;exact ZR.str
 .rename_i k g;have h:g=[]:=List.isEmpty_iff.1 h;subst h;exact ZR.rsl (α:=A) (e:=λx=>[x])
 .exact ZR.nils
 .exact ZR.nilp
 .exact ZR.nilf
 .exact ZR.nilm
 .exact QpE
 .cases h
theorem QmE:∀{r:List A} {s:List Value},zrL r s=true->ZL r s
 |[],[],_=>ZL.nil
 |a::r,v::s,h=>by
  simp only[zrL,X3]at h;exact ZL.cons (QmF h.1) (QmE h.2)
 |[],_::_,h=>by cases h
 |_::_,[],h=>by cases h
theorem zrC{a:A}{v:Value}(h:zrB a v=true):ZR a v:=by
 unfold zrB at h;split at h
 .rename_i r s;have:=ZR.agg (QmE h);simpa using this
 .exact QmF h
end Go.Sw
namespace Go.Sw
section
variable {P:Program} {o:Oper} {env:Env} {H:Qd}
end
end Go.Sw
namespace Go.Sw
structure TyX where
 ty:TyI
 al:List (Nat×A)
 sl:List Nat
structure QbM (P:Program) (T:TyX):Prop where
 ty:TyOK P T.ty
 al:∀e∈T.al,(∃z,(∀w,(zeroValue e.1).run P w=.ok z w)/\ZR e.2 z)/\Yf e.2=true/\(Q8 e.2).all Ym=true
 sl:∀t∈T.sl,∃et,∀w,(underlying t).run P w=.ok (.slice et) w
def Y0(all:Array Oper)(o:Oper)(env:Env):Option Bool:=
 match o.guard with
 |none=>some true
 |some (j,c)=>match(all[j]?).bind (·.dst)with
  |none=>none
  |some d=>match lk env d with
   |.bool true=>some c
   |.bool false=>some (!c)
   |.tup []=>some false
   |_=>none
theorem QR{all:Array Oper}{o:Oper}{env:Env}{b:Bool}(h:Y0 all o env=some b):Qs all o env b:=by
 unfold Y0 at h;unfold Qs;split at h
 .rename_i q;rw[q];cases h;rfl
 .rename_i j c q;rw[q];split at h
  .cases h
  .rename_i d e;refine⟨d,e,?_⟩;split at h
   .rename_i a;cases h;exact .inl ⟨true,a,by simp⟩
   .rename_i a;cases h;exact .inl ⟨false,a,by cases c<;>rfl⟩
   .rename_i a;cases h;exact .inr ⟨a,rfl⟩
   .cases h
def QdH:List Nat->Nat->Bool
 |[],_=>false
 |a::r,t=>bif Nat.beq a t then true else QdH r t
theorem Qhu{l:List Nat}{t:Nat}(h:QdH l t=true):t∈l:=by
 induction l with
 |nil=>cases h
 |cons a r b=>
  unfold QdH at h;cases q:Nat.beq a t with
  |true=>have:=XW q;subst this;exact .head _
  |false=>rw[q]at h;exact .tail _ (b h)
inductive FL where
 |mk (l:List A)
def fl:List A->FL
 |[]=>.mk []
 |a::r=>match fl r with
  |.mk r'=>.mk (a::r')
theorem Qcv:∀l:List A,fl l=.mk l
 |[]=>rfl
 |a::r=>by unfold fl;rw[Qcv r]
inductive FB where
 |mk (l:List Blk)
def fb:List Blk->FB
 |[]=>.mk []
 |a::r=>match fb r with
  |.mk r'=>.mk (a::r')
theorem Qk6:∀l:List Blk,fb l=.mk l
 |[]=>rfl
 |a::r=>by unfold fb;rw[Qk6 r]
inductive FN where
 |mk (n:Nat)
def fn:List Blk->Nat->FN
 |[],n=>.mk n
 |_::r,n=>fn r (n+1)
theorem QnK:∀(l:List Blk) (n:Nat),fn l n=.mk (l.length+n)
 |[],n=>by simp[fn]
 |a::r,n=>by unfold fn;rw[QnK r];simp;omega
def Qk4(env:Env)(pl:List (Nat×Nat)):List A->List (Nat×Operand)->Option (List A)
 |cs,[]=>some cs
 |cs,(i,x)::r=>match YX pl i with
  |none=>none
  |some (off,size)=>match opB env x with
   |.mk a=>match fl (Q8 a)with
    |.mk vs=>bif Yf a&&Nat.beq vs.length size&&Nat.ble (off+size) cs.length then(match fl (splice cs off vs)with
     |.mk cs'=>Qk4 env pl cs' r)else none
theorem QiK{env:Env}{pl:List (Nat×Nat)}:∀(parts:List (Nat×Operand)) (cs:List A),Qk4 env pl cs parts=Qeb env pl cs parts
 |[],cs=>rfl
 |(i,x)::r,cs=>by
  unfold Qk4 Qeb;rw[QaG];cases pl[i]? with
  |none=>rfl
  |some q=>
   obtain⟨off,size⟩:=q;cases h:opB env x with
   |mk a=>
    rw[QD h];simp only[Qcv];cases(Yf a&&Nat.beq (Q8 a).length size&&Nat.ble (off+size) cs.length)with
    |false=>rfl
    |true=>exact QiK r _
def Qiv(env:Env):List Operand->List A
 |[]=>[]
 |x::r=>match opB env x with
  |.mk a=>a::Qiv env r
theorem Qc4{env:Env}:∀l:List Operand,Qiv env l=l.map (opA env)
 |[]=>rfl
 |x::r=>by
  unfold Qiv;cases h:opB env x with
  |mk a=>rw[Vq,QD h];show a::Qiv env r=_;rw[Qc4 r]
def ptX(H:Qd):Bx->Option Lx
 |.mk (.rp cs)=>some (.mk cs)
 |.mk (.ptr i off)=>match YX H i with
  |some (.cells _ cs)=>some (QfN off cs)
  |_=>none
 |_=>none
theorem Qqs{H:Qd}{p:A}{cs:List A}(h:ptX H (.mk p)=some (.mk cs)):Pts H p cs:=by
 unfold ptX at h;split at h
 .rename_i q;cases q;cases h;exact Pts.rp
 .rename_i i b q;cases q;split at h
  .rename_i a;rw[QaG]at a;simp only[Option.some.injEq]at h;exact Pts.cells a (Qdg h)
  .cases h
 .cases h
def Qdw(T:TyX)(o:Oper)(env:Env)(H:Qd):Option A:=
 match o.op with
 |.move x=>match opB env x with|.mk a=>some a
 |.assign x=>match opB env x with|.mk a=>some a
 |.nilCheck x=>nlB (opB env x)
 |.extract x i=>exB (opB env x) i
 |.unOp u _ x=>unB u (opB env x)
 |.pick c x y=>piB (opB env c) (opB env x) (opB env y)
 |.binOp b _ x y _=>biB b (opB env x) (opB env y)
 |.fieldAddr t x f=>match QiH T.ty.fld t f with
  |none=>none
  |some off=>match opB env x with
   |.mk (.ptr i p)=>some (.ptr i (p+off))
   |.mk (.rp cs)=>match QfN off cs with
    |.mk r=>some (.rp r)
   |_=>none
 |.load t x=>match Qcp T.ty.agg t with
  |none=>none
  |some (b,n)=>match x with
   |.global g=>match YX QjT g with
    |some zs=>bif b&&Nat.beq zs.length n then(match fl (zs.map (A.int .i64))with|.mk l=>some (.agg l))else none
    |none=>none
   |x=>match ptX H (opB env x)with
    |none=>none
    |some (.mk cs)=>match b with
     |true=>(match fl (cs.take n)with|.mk l=>bif Nat.beq l.length n then some (.agg l)else none)
     |false=>(match cs with|[]=>none|a::_=>some a)
 |.build t parts=>match Qcp T.ty.zer t with
  |none=>none
  |some (zs,pl)=>match Qk4 env pl zs parts.toList with
   |some cs=>some (.agg cs)
   |none=>none
 |.makeFunc f first cap=>match fl (Qiv env first.toList),fl (Qiv env cap.toList)with
  |.mk l,.mk l'=>some (.fn f l l')
 |.call c=>match c with
  |{callee:=.builtin .len,args:=⟨[x]⟩,argTypes:=⟨[t]⟩}=>bif QdH T.sl t then(match opB env x with
   |.mk (.osl _ 0 n _)=>some (.int .i64 n)
   |_=>none)else none
  |_=>none
 |_=>none
theorem QaA{P:Program}{T:TyX}(m:QbM P T){o:Oper}{env:Env}{H:Qd}{x:A}(h:Qdw T o env H=some x):OpV P o env H x:=by
 unfold Qdw at h;split at h
 .rename_i y a;exact QbP a (by unfold svB;exact h)
 .rename_i y a;exact QbP a (by unfold svB;exact h)
 .rename_i y a;exact QbP a (by unfold svB;exact h)
 .rename_i y i a;exact QbP a (by unfold svB;exact h)
 .rename_i u t y a;exact QbP a (by unfold svB;exact h)
 .rename_i c y z a;exact QbP a (by unfold svB;exact h)
 .rename_i b t y z u a;exact QbP a (by unfold svB;exact h)
 .rename_i t y f a;split at h
  .cases h
  .rename_i B s;obtain⟨n,J⟩:=m.ty.fld _ (QiG s);split at h
   .rename_i i p E;cases h;exact Yw J a (QD E)
   .rename_i d E;cases q:QfN B d with
    |mk r=>rw[q]at h;cases h;exact Qx J a (QD E) (Qdg q)
   .cases h
 .rename_i t y a;split at h
  .cases h
  .rename_i b n M;obtain⟨j,l⟩:=m.ty.agg _ (QaB M);split at h
   .rename_i g;split at h
    .rename_i G F;rw[QaG]at F;cases q:(b&&Nat.beq G.length n)with
     |false=>rw[q]at h;cases h
     |true=>
      rw[q,Qcv]at h;cases h;simp only[X3]at q;obtain⟨rfl,w⟩:=q;exact Qg7 j l F (XW w) a
    .cases h
   .cases e:opB env y with
    |mk p=>
     rw[e]at h;split at h
     .cases h
     .rename_i d Q;have L:=Qqs Q;cases b with
      |true=>
       simp only[Qcv]at h;cases q:Nat.beq (d.take n).length n with
       |false=>rw[q]at h;cases h
       |true=>
        rw[q]at h;cases h;exact Qk a j l (QD e) L rfl (XW q)
      |false=>
       cases d with
       |nil=>cases h
       |cons v d=>cases h;exact OpV.load a j (QD e) L
 .rename_i t parts a;split at h
  .cases h
  .rename_i G V O;obtain⟨⟨z,j,l⟩,R⟩:=m.ty.zer _ (QaB O);split at h
   .rename_i d s;cases h;rw[QiK]at s;exact OpV.build j l R (by rw[a]) s
   .cases h
 .rename_i f first cap a
  simp only[Qcv]at h;cases h;rw[Qc4,Qc4];exact OpV.makeFunc (first:=first.toList) (cap:=cap.toList) (by rw[a]) rfl rfl
 .rename_i c a;split at h
  .rename_i y t;cases q:QdH T.sl t with
   |false=>rw[q]at h;cases h
   |true=>
    rw[q]at h;simp only[Vv]at h;obtain⟨W,N⟩:=m.sl t (Qhu q);split at h
    .rename_i i n k w;cases h;exact Qmn N a rfl (QD w)
    .cases h
  .cases h
 .cases h
def stX(T:TyX)(h0 N:Nat)(all:Array Oper)(o:Oper)(env:Env)(H:Qd):Option (Env×Qd):=
 match Y0 all o env with
 |none=>none
 |some false=>match o.dst with
  |none=>none
  |some d=>bif Nat.blt d N then some (up env d (.tup []),H)else none
 |some true=>match o.dst with
  |none=>match o.op with
   |.store t x y=>match opB env x,Qcp T.ty.agg t with
    |.mk (.ptr i off),some (_,n)=>match YX H i with
     |some (.cells S cs)=>match opB env y with
      |.mk a=>match fl (Q8 a)with
       |.mk vs=>bif Nat.ble h0 H.length&&(Yf a&&(Nat.beq vs.length n&&(vs.all Ym&&Nat.ble (off+n) cs.length)))then(match fl (splice cs off vs)with
        |.mk cs'=>match fb (H.set i (.cells S cs'))with
         |.mk H'=>some (env,H'))else none
     |_=>none
    |_,_=>none
   |_=>none
  |some d=>bif Nat.blt d N then(match o.op with
   |.alloc t=>match Qcp T.al t with
    |some v=>bif Nat.ble h0 H.length then(match fn H 0,fl (Q8 v)with
     |.mk n,.mk cs=>match fb (H++[.cells t cs])with
      |.mk H'=>some (up env d (.ptr n 0),H'))else none
    |none=>none
   |.box t x=>match opB env x with
    |.mk a=>bif Nat.ble h0 H.length&&(Yf a&&(Q8 a).all Ym)then(match fn H 0,fl (Q8 a)with
     |.mk n,.mk cs=>match fb (H++[.cells t cs])with
      |.mk H'=>some (up env d (.ptr n 0),H'))else none
   |_=>match Qdw T o env H with
    |some a=>some (up env d a,H)
    |none=>none)else none
section
variable {P:Program} {T:TyX} {h0 N:Nat} {all:Array Oper} {l l':List Oper} {env env':Env} {H H':Qd} {Q:QB}
theorem QmQ(u:QbM P T){o:Oper}(h:stX T h0 N all o env H=some (env',H'))(k:WO P h0 N all l env' H' Q):WO P h0 N all (o::l) env H Q:=by
 unfold stX at h;split at h
 .cases h
 .rename_i p;have g:=QR p;split at h
  .cases h
  .rename_i d f;cases q:Nat.blt d N with
   |false=>rw[q]at h;cases h
   |true=>rw[q]at h;cases h;exact WO.skip g f q k
 .rename_i p;have g:=QR p;split at h
  .rename_i f;split at h
   .rename_i t x y j;split at h
    .rename_i i s b n V B;split at h
     .rename_i S cs hH;rw[QaG]at hH;cases e:opB env y with
      |mk a=>
       rw[e]at h;simp only[Qcv,Qk6]at h;generalize hc:(Nat.ble h0 H.length&&(Yf a&&(Nat.beq (Q8 a).length n&&((Q8 a).all Ym&&Nat.ble (s+n) cs.length))))=c at h;cases c with
       |false=>cases h
       |true=>
        cases h;simp only[X3]at hc;obtain⟨r,w,m,E,M⟩:=hc;obtain⟨_,G⟩:=u.ty.agg _ (QaB B);exact QbB (XX r) g f (OpU.store j (QD V) hH G (QD e) w rfl (XW m) E M rfl) k
     .cases h
    .cases h
   .cases h
  .rename_i d f;cases q:Nat.blt d N with
   |false=>rw[q]at h;cases h
   |true=>
    rw[q]at h;simp only[Vv]at h;split at h
    .rename_i t j;split at h
     .rename_i v O;cases c:Nat.ble h0 H.length with
      |false=>rw[c]at h;cases h
      |true=>
       rw[c]at h;simp only[Qcv,Qk6,QnK,Vv,XB]at h;cases h;obtain⟨⟨z,F,J⟩,L,W⟩:=u.al _ (QaB O);exact Y5 (XX c) g f q (Qf5 F J j L rfl W) k
     .cases h
    .rename_i t x j;cases e:opB env x with
     |mk a=>
      rw[e]at h;simp only[Qcv,Qk6,QnK,XB]at h;generalize hc:(Nat.ble h0 H.length&&(Yf a&&(Q8 a).all Ym))=c at h;cases c with
      |false=>cases h
      |true=>
       cases h;simp only[X3]at hc;obtain⟨r,w,m⟩:=hc;exact Y5 (XX r) g f q (OpH.box j (QD e) w rfl m) k
    .split at h
     .rename_i a R;cases h;exact QF g f q (QaA u R) k
     .cases h
end
theorem yc{α:Type}{p:α->Prop}{a:α}{l:List α}(h:p a)(k:∀x∈l,p x):∀x∈a::l,p x:=List.forall_mem_cons.2 ⟨h,k⟩
theorem FA{P:Program}{T f off n:Nat}{fs:Array Field}{a:Field}(e:∀w,(underlying T).run P w=.ok (.struct fs) w)(g:fs[f]?=some a)(b:∀w,(sizeOf a.type).run P w=.ok n w)(d:a.offset=off:=by exact rfl)(h5:n≠0:=by decide):QG P T f off n:=⟨_,_,e,g,d,b,h5⟩
theorem QbS:∀(π:List Nat) (H:Qd) (xs:List Blk),π.map (λp=>H[p]?)=xs.map some->Yt H π xs=H
 |[],H,xs,h=>by
  have:xs=[]:=by cases xs with
   |nil=>rfl
   |cons x xs=>simp at h
  subst this;simp[Yt]
 |p::π,H,[],h=>by simp at h
 |p::π,H,x::xs,h=>by
  simp only[Vq,List.cons.injEq]at h;have e:H.set p x=H:=by
   apply List.ext_getElem?;intro i;rw[Xb];by_cases q:p=i
   .subst q;rw[Vz rfl,h.1];have:=(XR.1 h.1).1;rw[Vz this]
   .rw[Vy q]
  unfold Yt;rw[e];exact QbS π H xs h.2
def QjE:A->Option Bx
 |.bool b=>some (.mk (.bool b))
 |.int k n=>some (.mk (.int k n))
 |.str s=>some (.mk (.str s))
 |.rsl k es=>some (.mk (.rsl k es))
 |_=>none
theorem QkJ{v a:A}(h:QjE v=some (.mk a))(ρ:Nat->Nat):YE ρ v=a:=by
 cases v<;>first|(cases h;rfl)|cases h
theorem Pc{P:Program}{h0 N:Nat}{all:Array Oper}{o:Oper}{l:List Oper}{env:Env}{H:Qd}{Q:QB}{d:Nat}{f:FuncId}{args b:List A}{Hc:Qd}{v g:A}(π:List Nat)(i:o.dst=some d)(e:OpC P o env H f args)(j:C P f b Hc (λa H1=>a=v/\H1=Hc))(h:QjE v=some (.mk g))
  (k:WO P h0 N all l (up env d g) H Q)
  (hargs:args=Qaa (rho π H.length) b:=by exact rfl)(hH:π.map (λp=>H[p]?)=(Hc.map (QX (rho π H.length))).map some:=by exact rfl)(hπ:π.Nodup:=by decide)
  (hg:Qs all o env true:=by exact rfl)(hN:Nat.blt d N=true:=by exact rfl)(hh:Nat.ble h0 H.length=true:=by exact rfl):WO P h0 N all (o::l) env H Q:=by
 refine Qz π e j ?_ hargs hH hπ hg i hN hh;rintro r H1 ⟨rfl,rfl⟩;rw[QkJ h,QbS π H _ hH];exact k
theorem YP{i k:Nat}{es:List (List A)}:∀H:Qd,FzH i k es H H
 |[]=>.nil
 |_::r=>.keep (YP r)
def foN:Nat->FN
 |0=>.mk 0
 |n+1=>match foN n with
  |.mk m=>.mk (m+1)
theorem Qfv:∀n,foN n=.mk n
 |0=>rfl
 |n+1=>by unfold foN;rw[Qfv n]
mutual
def foA:A->Bx
 |.agg cs=>match foL cs with
  |.mk l=>.mk (.agg l)
 |.tup cs=>match foL cs with
  |.mk l=>.mk (.tup l)
 |.fn f a c=>match foL a,foL c with
  |.mk l,.mk l'=>.mk (.fn f l l')
 |.iface t v=>match foA v with
  |.mk v'=>.mk (.iface t v')
 |.ptr i off=>match foN i with
  |.mk i'=>.mk (.ptr i' off)
 |.osl i o n k=>match foN i with
  |.mk i'=>.mk (.osl i' o n k)
 |.map i=>match foN i with
  |.mk i'=>.mk (.map i')
 |a=>.mk a
def foL:List A->FL
 |[]=>.mk []
 |a::r=>match foA a,foL r with
  |.mk a',.mk r'=>.mk (a'::r')
end
mutual
theorem QhD:∀a:A,foA a=.mk a
 |.agg cs=>by unfold foA;rw[QcJ cs]
 |.tup cs=>by unfold foA;rw[QcJ cs]
 |.fn f a c=>by unfold foA;rw[QcJ a,QcJ c]
 |.iface t v=>by unfold foA;rw[QhD v]
 |.ptr i off=>by unfold foA;rw[Qfv]
 |.osl i o n k=>by unfold foA;rw[Qfv]
 |.map i=>by unfold foA;rw[Qfv]
 |.any|.bool _|.int _ _|.str _|.nilp|.rp _|.nils|.rsl _ _|.nilf|.nilif|.nilm=>by rfl
theorem QcJ:∀l:List A,foL l=.mk l
 |[]=>by rfl
 |a::r=>by unfold foL;rw[QhD a,QcJ r]
end
inductive FE2 where
 |mk (l:List (List A))
def foE:List (List A)->FE2
 |[]=>.mk []
 |a::r=>match foL a,foE r with
  |.mk a',.mk r'=>.mk (a'::r')
theorem QnJ:∀l,foE l=.mk l
 |[]=>rfl
 |a::r=>by unfold foE;rw[QcJ,QnJ r]
def foH:List Blk->FB
 |[]=>.mk []
 |b::r=>match foH r with
  |.mk r'=>match b with
   |.cells t cs=>match foL cs with
    |.mk l=>.mk (.cells t l::r')
   |.rowr t k es=>match foE es with
    |.mk l=>.mk (.rowr t k l::r')
   |.dead=>.mk (.dead::r')
   |.row t k es=>.mk (.row t k es::r')
   |.map es=>.mk (.map es::r')
   |.iter c es=>.mk (.iter c es::r')
   |.fmap es=>.mk (.fmap es::r')
   |.mapO fz t k es=>.mk (.mapO fz t k es::r')
   |.mapP es=>.mk (.mapP es::r')
   |.frow t k es=>.mk (.frow t k es::r')
   |.ents t a b es=>match foN a,foN b with
    |.mk a',.mk b'=>.mk (.ents t a' b' es::r')
theorem QjX:∀l,foH l=.mk l
 |[]=>rfl
 |b::r=>by
  unfold foH;rw[QjX r];cases b<;>simp only[QcJ,QnJ,Qfv]
def foS(env:Env)(H:Qd):Option (Env×Qd):=
 match foH H with
 |.mk H'=>match env with
  |[]=>some ([],H')
  |(d,a)::e=>match foA a with
   |.mk a'=>some ((d,a')::e,H')
theorem QqQ(env:Env)(H:Qd):foS env H=some (env,H):=by
 unfold foS;rw[QjX];cases env with
 |nil=>rfl
 |cons p e=>obtain⟨d,a⟩:=p;simp only[QhD]
theorem FE{P:Program}{h0 N:Nat}{all:Array Oper}{l:List Oper}{env env':Env}{H H':Qd}{Q:QB}(h:foS env H=some (env',H'))(k:WO P h0 N all l env' H' Q):WO P h0 N all l env H Q:=by
 rw[QqQ]at h;cases h;exact k
def entB(b1 b2:Nat):List (List A)->Option (List Ent)
 |[]=>some []
 |[.ptr b off,.int .i64 lo,.int .i64 hi]::r=>match entB b1 b2 r with
  |none=>none
  |some l=>match Nat.beq b b2 with
   |true=>some (⟨true,off,lo,hi⟩::l)
   |false=>match Nat.beq b b1 with
    |true=>some (⟨false,off,lo,hi⟩::l)
    |false=>none
 |_=>none
theorem QpA{b1 b2:Nat}:∀{es:List (List A)} {l:List Ent},entB b1 b2 es=some l->l.map (eC b1 b2)=es:=by
 intro es
 induction es with
 |nil=>intro l h;cases h;rfl
 |cons e r d=>
  intro l h;unfold entB at h;split at h
  .cases ‹_=[]›
  .rename_i b f lo i j q;cases q;split at h
   .cases h
   .rename_i g a;have e:=d a;split at h
    .rename_i q;cases h;have:=XW q;subst this;rw[Vq,e];rfl
    .split at h
     .rename_i q;cases h;have:=XW q;subst this;rw[Vq,e];rfl
     .cases h
  .cases h
theorem TE{P:Program}{h0 N:Nat}{all:Array Oper}{l:List Oper}{env:Env}{H:Qd}{Q:QB}{t:Nat}{es:List (List A)}{L:List Ent}(i b1 b2:Nat)(hH:H[i]?=some (.rowr t 3 es))(h:entB b1 b2 es=some L)
  (k:WO P h0 N all l env (H.set i (.ents t b1 b2 L)) Q):WO P h0 N all l env H Q:=WO.le (Qmw hH (QpA h)) k
theorem R1{P:Program}{h0:Nat}{fn:Func}{env:Env}{H Hc:Qd}{v:A}(s:Nat)(hr:fn.results= #[.tmp s])(hle:Le h0 env H [(s,v)] Hc):Qdm P h0 fn (λa H=>a=v/\H=Hc) .ret env H:=
 ⟨[(s,v)],Hc,v,hle,Qcy.one hr (by show lk [(s,v)] s=v;unfold lk;rw[VL];rfl),rfl,rfl⟩
theorem R2{P:Program}{h0:Nat}{fn:Func}{env:Env}{H Hc:Qd}{v v':A}(s t:Nat)(hr:fn.results= #[.tmp s,.tmp t])(hn:Nat.beq t s=false)(hle:Le h0 env H [(s,v),(t,v')] Hc):Qdm P h0 fn (λa H=>a=.tup [v,v']/\H=Hc) .ret env H:=
 ⟨[(s,v),(t,v')],Hc,_,hle,Qme hr (by show lk [(s,v),(t,v')] s=v;unfold lk;rw[VL];rfl) (by show lk [(s,v),(t,v')] t=v';unfold lk lk;rw[hn,VL];rfl),rfl,rfl⟩
theorem FzA.o{i k n:Nat}{es:List (List A)}(a:n=es.length:=by first|exact(X7 ..).symm|exact rfl):FzA i k es (.osl i 0 n k) (.rsl k es):=FzA.own a
end Go.Sw
namespace Go.Sw
theorem Le.env{h0:Nat}{env env':Env}{H:Qd}(h:∀s,lk env' s=.any\/lk env' s=lk env s):Le h0 env H env' H:=by
 intro d b σ N a w r;refine⟨b,σ,⟨r.sim,λs=>?_,r.size,r.defers⟩,λ_ q=>q,rfl⟩;rcases h s with h|h
 .rw[h];trivial
 .rw[h];exact r.env s
def QoO(env:Env):Env->Prop
 |[]=>True
 |(s,a)::r=>lk env s=a/\QoO env r
theorem QoO.ok{env:Env}:∀{env':Env},QoO env env'->∀s,lk env' s=.any\/lk env' s=lk env s
 |[],_,s=>.inl rfl
 |(d,a)::e,⟨h1,h2⟩,s=>by
  by_cases q:s=d
  .subst q;right;simp only[lk,VL,Vv];exact h1.symm
  .have:Nat.beq s d=false:=by
    rw[VT];intro b;exact q (XW b)
   simp only[lk,this,Vw];exact QoO.ok h2 s
theorem Lw{h0:Nat}{env env':Env}{H:Qd}(h:QoO env env'):Le h0 env H env' H:=Le.env h.ok
theorem Qqf(n i:Nat):rho (List.range n) n i=i:=by
 unfold rho;by_cases h:i<n
 .rw[List.getElem?_range h]
 .rw[XU (by rw[Xx];omega)];simp only[Xx];omega
mutual
theorem Qho{ρ:Nat->Nat}(h:∀i,ρ i=i):∀a:A,YE ρ a=a
 |.ptr i off=>by simp[YE,h]
 |.osl i o n k=>by simp[YE,h]
 |.agg cs=>by simp[YE,Qa3 h cs]
 |.fn f a c=>by simp[YE,Qa3 h a,Qa3 h c]
 |.iface t v=>by simp[YE,Qho h v]
 |.map i=>by simp[YE,h]
 |.tup vs=>by simp[YE,Qa3 h vs]
 |.any|.bool _|.int _ _|.str _|.nilp|.rp _|.nils|.rsl _ _|.nilf|.nilif|.nilm=>by rfl
theorem Qa3{ρ:Nat->Nat}(h:∀i,ρ i=i):∀l:List A,Qaa ρ l=l
 |[]=>rfl
 |a::r=>by simp[Qaa,Qho h a,Qa3 h r]
end
theorem QkN{ρ:Nat->Nat}(h:∀i,ρ i=i):∀l:List (List A),Qhn ρ l=l
 |[]=>rfl
 |a::r=>by simp[Qhn,Qa3 h a,QkN h r]
theorem QkM{ρ:Nat->Nat}(h:∀i,ρ i=i):∀l:List (A×A),QjH ρ l=l
 |[]=>rfl
 |a::r=>by simp[QjH,Qho h,QkM h r]
theorem Qo5{ρ:Nat->Nat}(h:∀i,ρ i=i):∀b:Blk,QX ρ b=b
 |.cells t cs=>by simp[QX,Qa3 h cs]
 |.rowr t k es=>by simp[QX,QkN h es]
 |.ents t a b es=>by simp[QX,h]
 |.mapP es=>by simp[QX,QkM h es]
 |.dead|.row _ _ _|.map _|.iter _ _|.fmap _|.mapO _ _ _ _|.frow _ _ _=>by rfl
theorem Pw{P:Program}{h0 N:Nat}{all:Array Oper}{o:Oper}{l:List Oper}{env:Env}{H:Qd}{Q:QB}{d:Nat}{f:FuncId}{args:List A}{v j:A}(w:o.dst=some d)(g:OpC P o env H f args)(u:C P f args H (λa H1=>a=v/\H1=H))(m:QjE v=some (.mk j))
  (hg:Qs all o env true)(n:Nat.blt d N=true)(t:h0<=H.length)(k:WO P h0 N all l (up env d j) H Q):WO P h0 N all (o::l) env H Q:=by
 have e:=Qqf H.length;have s:H.map (QX (rho (List.range H.length) H.length))=H:=by
  conv=>rhs;rw[<- List.map_id H]
  exact List.map_congr_left λb _=>Qo5 e b
 have h:(List.range H.length).map (λp=>H[p]?)=(H.map (QX (rho (List.range H.length) H.length))).map some:=by
  rw[s];apply List.ext_getElem?;intro i;by_cases q:i<H.length
  .simp[q]
  .simp[q]
 refine Qz (List.range H.length) g u ?_ (by rw[Qa3 e]) h List.nodup_range hg w n (XY t);rintro r H1 ⟨rfl,rfl⟩;rw[QkJ m,QbS _ _ _ h];exact k
def ixE(d:Nat)(g:Ground):Edge:={on:=d,ground:=g}
def ixO(d:Nat)(op:Op)(t:Nat)(pos:String)(af:Array Edge):Oper:={dst:=some d,op:=op,type:=t,pos:=pos,after:=af,guard:=none}
def QqM(ts te tf tI tB:Nat):Code:=
 (Code.region 0 [ixO 4 (.assign (.const (.int .i64 0))) tI "slices.go:107" #[]].toArray false).seq
  (((Code.region 1 [ixO 6 (.move (.tmp 0)) ts "slices.go:108" #[],ixO 7 (.call {callee:=.builtin .len,args:= #[.tmp 6],argTypes:= #[ts]}) tI "slices.go:108" #[ixE 0 .data],ixO 8 (.move (.const (.int .i64 0))) tI "slices.go:108" #[]].toArray false).seq
   (.block 0 (.loop ((Code.region 2 [ixO 9 (.binOp .lss tI (.tmp 8) (.tmp 7) tI) 0 "slices.go:108" #[]].toArray false).seq
    ((Code.cond (.tmp 9) .skip (.exit 0)).seq
    ((Code.block 1 ((Code.region 3 [ixO 10 (.move (.tmp 8)) tI "slices.go:108" #[],ixO 5 (.assign (.tmp 10)) tI "slices.go:108" #[ixE 0 .data,ixE 0 .phase]].toArray false).seq
     ((Code.region 4 [ixO 11 (.move (.tmp 1)) tf "slices.go:109" #[],ixO 12 (.move (.tmp 0)) ts "slices.go:109" #[],ixO 13 (.move (.tmp 5)) tI "slices.go:109" #[],ixO 14 (.indexAddr ts (.tmp 12) (.tmp 13)) 0 "slices.go:109" #[ixE 1 .data,ixE 2 .data],
       ixO 15 (.load te (.tmp 14)) te "slices.go:109" #[ixE 3 .data],ixO 16 (.call {callee:=.value (.tmp 11),args:= #[.tmp 15],argTypes:= #[te]}) tB "slices.go:109" #[ixE 0 .data,ixE 4 .data]].toArray false).seq
      (Code.cond (.tmp 16) ((Code.region 5 [ixO 17 (.move (.tmp 5)) tI "slices.go:110" #[],ixO 4 (.assign (.tmp 17)) tI "slices.go:110" #[ixE 0 .data,ixE 0 .phase]].toArray false).seq .ret) .skip)))).seq
     (Code.region 6 [ixO 18 (.binOp .add tI (.tmp 8) (.const (.int .i64 1)) tI) tI "slices.go:108" #[],ixO 8 (.move (.tmp 18)) tI "slices.go:108" #[ixE 0 .data]].toArray false))))))).seq
  ((Code.region 7 [ixO 4 (.assign (.const (.int .i64 (-1)))) tI "slices.go:113" #[]].toArray false).seq .ret))
theorem Yp{P:Program}{T:Type}{e:T->List A}{el:T->A}{O z W Y tB k:Nat}{Q m:FuncId}{fn:Func}{i:List A}{Hc:Qd}{L:List T}{g:T->Option Bool}{n:Nat}{r:Int}
  (hf:P.funcs[Q]?=some fn)(hb:fn.body=some (QqM O z W Y tB))(hN:fn.ntmps=19)(R:fn.results= #[.tmp 4])(V:∀w,(underlying O).run P w=.ok (.slice z) w)(X:∀w,(sizeOf z).run P w=.ok k w)
  (N:∀(o:Oper) (env:Env) (H:Qd) (x:T),o.op=.load z (.tmp 14)->opA env (.tmp 14)=.rp (e x)->OpV P o env H (el x))
  (J:∀(a:Array Value) (w:World),(callFunc m a).run P w=.ok (.enter m a) w)
  (B:∀x b,g x=some b->C P m (el x::i) Hc (λa H=>a=.bool b/\H=Hc))
  (h:((iter (λs:Int=>bif decide (s<(L.length:Int))then(idx L s).bind λx=>(g x).bind λb=>(bif b then some (Ctl.done (Ctl.done s))else some (Ctl.cont (IntKind.i64.wrap (s+1))))else some (Ctl.done (Ctl.cont ()))) n (0:Int):Option (Ctl Unit Int)).bind λb=>match b with|.cont _=>some (-1)|.done s=>some s)=some r):
  C P Q [.rsl k (L.map e),.fn (.func m) [] i] Hc (λa H=>a=.int .i64 r/\H=Hc):=by
 refine Qb hf hb hN rfl ?_;refine Rg (S rfl (Nx (TC.seq (Rg (S rfl (LnM V rfl (S rfl (Nx (Bd h λM F h=>?_)))))))));refine QhT (b:=M) (λ_=>[]) (λ_=>Hc) ?_ (λsb10 env H hbe hle=>?_)
 .refine TC.block ?_;refine TC.loop (E:=λq=>[(0,.rsl k (L.map e)),(1,.fn (.func m) [] i),(7,.int .i64 (L.length:Int)),(8,.int .i64 q)]) (Hp:=λ_=>Hc) F ?_ ?_
  .exact Lw ⟨rfl,rfl,rfl,rfl,trivial⟩
  intro q aa d l;refine Rg (S rfl (Nx (TC.seq (Jb rfl d (λy d=>?_) (λy d=>?_)))))
  .refine ExX (Qy d ?_);obtain rfl:=l _ (Oi d).symm;exact bloE (QL rfl (Lw trivial))
  refine SkN (TC.seq (TC.block (Rg (S rfl (S rfl (Nx (Rg (S rfl (S rfl (S rfl (Bd d λj p d=>Ix p V X rfl ?_)))))))))));refine QF (x:=el j) rfl rfl rfl (N _ _ _ j rfl rfl) ?_;refine Bd d λG u d=>?_;refine Pw rfl (QaJ (f:=m) (x:=.tmp 11) (xs:=[.tmp 15]) (vf:=[]) (vc:=i) (args:=el j::i) J rfl rfl rfl rfl) (B j G u) rfl rfl rfl (XZ _) ?_;refine Nx (Cn rfl d (λt d=>?_) (λt d=>?_))
  .refine Rg (S rfl (S rfl (Nx (TC.ret (bloR (seqR (Yx d ?_)))))));obtain rfl:=l _ (Oi d).symm;refine bloR (Q9 (seqR ?_));obtain rfl:=Oi h;exact R1 4 R (Lw ⟨rfl,trivial⟩)
  exact TC.skip (bloN (QmW (TC.region (S rfl (S rfl (WO.nil (Qv d (Lw ⟨rfl,rfl,rfl,rfl,trivial⟩))))))))
 subst hbe;refine QmW (TC.le hle (Rg (S rfl (Nx (TC.ret ?_)))));obtain rfl:=Oi h;exact R1 4 R (Lw ⟨rfl,trivial⟩)
end Go.Sw
namespace Go.Sw
inductive Kf where
 |seq (c:Code)
 |blo (id:Nat)
 |unr (c:Code)
inductive Cf where
 |code (c:Code)
 |ops (all:Array Oper) (l:List Oper)
 |out (x:AEx)
def kq(P:Program)(h0 N:Nat):List Kf->QB->QB
 |[],Q=>Q
 |.seq c::k,Q=>Seq P h0 N c (kq P h0 N k Q)
 |.blo id::k,Q=>Blo id (kq P h0 N k Q)
 |.unr c::k,Q=>Qkl P h0 N c (kq P h0 N k Q)
@[reducible] def Hd(P:Program)(h0 N:Nat):Cf->List Kf->Env->Qd->QB->Prop
 |.code c,k,env,H,Q=>TC P h0 N c env H (kq P h0 N k Q)
 |.ops all l,k,env,H,Q=>WO P h0 N all l env H (kq P h0 N k Q)
 |.out x,k,env,H,Q=>kq P h0 N k Q x env H
def Qgm(T:TyX)(h0 N:Nat):Cf->List Kf->Env->Qd->Option (Cf×List Kf×Env×Qd)
 |.code (.seq a b),k,env,H=>some (.code a,.seq b::k,env,H)
 |.code (.block id c),k,env,H=>some (.code c,.blo id::k,env,H)
 |.code (.loop c),k,env,H=>some (.code c,.unr c::k,env,H)
 |.code .skip,k,env,H=>some (.out .normal,k,env,H)
 |.code .ret,k,env,H=>some (.out .ret,k,env,H)
 |.code (.exit id),k,env,H=>some (.out (.exit id),k,env,H)
 |.code (.region id ⟨l⟩ false),k,env,H=>some (.ops ⟨l⟩ l,k,env,H)
 |.code (.cond x a b),k,env,H=>match opB env x with
  |.mk (.bool true)=>some (.code a,k,env,H)
  |.mk (.bool false)=>some (.code b,k,env,H)
  |_=>none
 |.ops all [],k,env,H=>some (.out .normal,k,env,H)
 |.ops all (o::l),k,env,H=>match stX T h0 N all o env H with
  |some (env',H')=>some (.ops all l,k,env',H')
  |none=>none
 |.out .normal,.seq c::k,env,H=>some (.code c,k,env,H)
 |.out (.exit i),.seq _::k,env,H=>some (.out (.exit i),k,env,H)
 |.out .ret,.seq _::k,env,H=>some (.out .ret,k,env,H)
 |.out .normal,.blo _::k,env,H=>some (.out .normal,k,env,H)
 |.out (.exit i),.blo id::k,env,H=>match Nat.beq i id with
  |true=>some (.out .normal,k,env,H)
  |false=>some (.out (.exit i),k,env,H)
 |.out .ret,.blo _::k,env,H=>some (.out .ret,k,env,H)
 |.out .normal,.unr c::k,env,H=>some (.code c,.unr c::k,env,H)
 |.out (.exit i),.unr _::k,env,H=>some (.out (.exit i),k,env,H)
 |.out .ret,.unr _::k,env,H=>some (.out .ret,k,env,H)
 |_,_,_,_=>none
def QjG(T:TyX)(h0 N:Nat):Nat->Cf->List Kf->Env->Qd->Option (Cf×List Kf×Env×Qd)
 |0,c,k,env,H=>some (c,k,env,H)
 |n+1,c,k,env,H=>match Qgm T h0 N c k env H with
  |some (c',k',env',H')=>QjG T h0 N n c' k' env' H'
  |none=>none
section
variable {P:Program} {T:TyX} {h0 N:Nat} {Q:QB}
theorem QmN(d:QbM P T){c a:Cf}{k b:List Kf}{env env':Env}{H H':Qd}(h:Qgm T h0 N c k env H=some (a,b,env',H'))(g:Hd P h0 N a b env' H' Q):Hd P h0 N c k env H Q:=by
 unfold Qgm at h;split at h
 .cases h;exact TC.seq g
 .cases h;exact TC.block g
 .cases h;exact Qmb g
 .cases h;exact TC.skip g
 .cases h;exact TC.ret g
 .cases h;exact TC.exit g
 .cases h;exact TC.region g
 .split at h
  .rename_i q;cases h;exact Qjh (QD q) rfl g
  .rename_i q;cases h;exact QfU (QD q) rfl g
  .cases h
 .cases h;exact WO.nil g
 .split at h
  .rename_i q;cases h;exact QmQ d q g
  .cases h
 .cases h;exact QmW g
 .cases h;exact seqX g
 .cases h;exact seqR g
 .cases h;exact bloN g
 .split at h
  .rename_i q;cases h;have:=XW q;subst this;exact bloE g
  .rename_i q;cases h;exact bloX q g
 .cases h;exact bloR g
 .cases h;exact unrN g
 .cases h;exact unrX g
 .cases h;exact unrR g
 .cases h
theorem QcY(hT:QbM P T):∀(n:Nat) {c c':Cf} {k k':List Kf} {env env':Env} {H H':Qd},QjG T h0 N n c k env H=some (c',k',env',H')->Hd P h0 N c' k' env' H' Q->Hd P h0 N c k env H Q
 |0,c,c',k,k',env,env',H,H',h,g=>by cases h;exact g
 |n+1,c,c',k,k',env,env',H,H',h,g=>by
  unfold QjG at h;split at h
  .rename_i e;exact QmN hT e (QcY hT n h g)
  .cases h
theorem QkD{env:Env}{s:Nat}{a:A}(h:lk env s=a):∀t,lk (up env s a) t=lk env t:=by
 intro t;simp only[up,lk];cases q:Nat.beq t s with
 |true=>have:=XW q;subst this;exact h.symm
 |false=>rfl
theorem Is{α:Type}{all:Array Oper}{l:List Oper}{env:Env}{H:Qd}{b:Bool}{x y:Option α}{r:α}(s:Nat)(h:(bif b then x else y)=some r)(d:lkB env s=.mk (.bool b))
  (t:b=true->x=some r->WO P h0 N all l (up env s (.bool true)) H Q)(e:b=false->y=some r->WO P h0 N all l (up env s (.bool false)) H Q):WO P h0 N all l env H Q:=by
 have a:=QjP d;cases b with
 |true=>exact WO.le (Le.env λt=>.inr (QkD a t)) (t rfl h)
 |false=>exact WO.le (Le.env λt=>.inr (QkD a t)) (e rfl h)
theorem Ct3E{S B1:Type}{A B C:Code}{env:Env}{H:Qd}{k:List Kf}{b:Ctl S B1}(Eb:S->Env)(Hb:S->Qd)(h:TC P h0 N A env H (kq P h0 N [.seq B] (Qf9 h0 b Eb Hb (kq P h0 N (.seq C::k) Q))))(g:∀s env H,b=.cont s->Le h0 env H (Eb s) (Hb s)->kq P h0 N (.seq C::k) Q .normal env H):TC P h0 N (.seq A (.seq B C)) env H (kq P h0 N k Q):=
 Qoy Eb Hb h g
end
def dstN(o:Oper)(i:Nat):Nat:=match o.dst with|some d=>d|none=>1000000+i
def Qbk:Nat->Nat->List Oper->List Nat
 |0,_,_=>[]
 |_+1,_,[]=>[]
 |m+1,i,o::l=>dstN o i::Qbk m (i+1) l
def Yj(af:List Nat):Nat->List Nat->List A->Env->Env
 |j,d::ds,x::xs,e=>(d,bif QdH af j then x else .any)::Yj af (j+1) ds xs e
 |j,d::ds,[],e=>(d,.any)::Yj af (j+1) ds [] e
 |_,[],_,e=>e
theorem Qga{l:List Nat}{t:Nat}:QdH l t=l.contains t:=by
 induction l with
 |nil=>rfl
 |cons a r d=>
  unfold QdH;rw[List.contains_cons,d];cases q:Nat.beq a t with
  |true=>have:=XW q;subst this;simp
  |false=>
   have b:t≠a:=λz=>by subst z;rw[VL]at q;cases q
   simp[b]
theorem Qld{af:List Nat}{env0:Env}{s:Nat}:∀(a:List Nat) (xs g:List A) (b:Nat),
  (∃(j:Nat) (x:A),af.contains (b+j)=true/\a[j]?=some s/\(xs++g)[j]?=some x/\lk (Yj af b a xs env0) s=x)\/lk (Yj af b a xs env0) s=.any\/(a.contains s=false/\lk (Yj af b a xs env0) s=lk env0 s):=by
 intro a
 induction a with
 |nil=>intro xs g b;right;right;exact⟨rfl,by cases xs<;>rfl⟩
 |cons d a m=>
  intro xs g b;have next:∀(e:List A),(∃(j:Nat) (x:A),af.contains (b+1+j)=true/\a[j]?=some s/\(e++g)[j]?=some x/\lk (Yj af (b+1) a e env0) s=x)->∀p,(∃(j:Nat) (x:A),af.contains (b+j)=true/\(d::a)[j]?=some s/\(p::e++g)[j]?=some x/\lk (Yj af (b+1) a e env0) s=x):=by
   rintro e ⟨j,x,i,k,l,n⟩ p;exact⟨j+1,x,by rw[show b+(j+1)=b+1+j by omega];exact i,by simpa using k,by simpa using l,n⟩
  cases xs with
  |nil=>
   cases q:Nat.beq s d with
   |true=>right;left;simp only[Yj,lk,q,Vv]
   |false=>
    have f:s≠d:=λz=>by subst z;rw[VL]at q;cases q
    simp only[Yj,lk,q,Vw];rcases m [] [] (b+1)with⟨j,x,i,k,l,n⟩|h|⟨i,k⟩
    .simp at l
    .exact .inr (.inl h)
    .exact .inr (.inr ⟨by rw[List.contains_cons,i];simpa using f,k⟩)
  |cons x xs=>
   cases q:Nat.beq s d with
   |true=>
    have:=XW q;subst this;simp only[Yj,lk,q,Vv];cases c:QdH af b with
    |true=>left;exact⟨0,x,by rw[<- Qga];exact c,rfl,rfl,rfl⟩
    |false=>right;left;rfl
   |false=>
    have f:s≠d:=λz=>by subst z;rw[VL]at q;cases q
    simp only[Yj,lk,q,Vw];rcases m xs g (b+1)with h|h|⟨i,k⟩
    .exact .inl (next xs h x)
    .exact .inr (.inl h)
    .exact .inr (.inr ⟨by rw[List.contains_cons,i];simpa using f,k⟩)
section
variable {P:Program} {T:TyX} {h0 N m:Nat} {l:List Oper} {ds:List Nat} {env:Env} {H:Qd} {Q:QB} {K:List Oper->Env->Qd->Prop}
def DS(P:Program)(N m:Nat)(l:List Oper)(ds:List Nat)(env:Env)(H:Qd)(K:List Oper->Env->Qd->Prop)(r:List Oper)(xs:List A):Prop:=
 r=l.drop xs.length->∃ys,xs.length+ys.length=m/\(∀j,xs.length<=j->j<m->Jz P N l ds (xs++ys) env H.length H.length j H H)/\K (l.drop m) (Qaz ds (xs++ys) env) H
theorem oqOf{xs:List A}:∀(c i:Nat),(∀j,i<=j->j<i+c->Jz P N l ds xs env H.length H.length j H H)->Oq P N l ds xs env H i c
 |0,i,_=>.n
 |c+1,i,h=>.c (h i (XZ _) (by omega)) (oqOf c (i+1) λj h1 h2=>h j (by omega) (by omega))
theorem QoT{id:Nat}{k:List Kf}(m:Nat)(i:P.follows .mixedOrders=true)(g:Go.Sw.draw0 l m N (Qbk m 0 l)=true)(a:Nat.ble h0 H.length=true)
  (h:DS P N m l (Qbk m 0 l) env H (λr e H=>WO P h0 N l.toArray r e H Q) l []):TC P h0 N (.region id l.toArray true) env H Q:=by
 obtain⟨n,d,f,b⟩:=h rfl;simp only[List.length_nil,XA,Vn]at d f b;exact TC.draw0 m _ n i g (by rw[d];exact VL m) a (oqOf m 0 λj _ q=>f j (X0 _) (by omega)) b
theorem DS.done{xs:List A}{r:List Oper}(b:Nat.beq xs.length m=true)(h:K r (Qaz ds xs env) H):DS P N m l ds env H K r xs:=by
 intro a;have e:=XW b;subst a;refine⟨[],by simpa using e,λj f d=>by omega,?_⟩;rw[<- e,Vm];exact h
theorem DS.add{xs:List A}{o:Oper}{r:List Oper}{x:A}(i:Nat.blt xs.length m=true)(g:∀ys,l[xs.length]?=some o->Jz P N l ds (xs++x::ys) env H.length H.length xs.length H H)(k:DS P N m l ds env H K r (xs++[x])):DS P N m l ds env H K (o::r) xs:=by
 intro b;have a:xs.length<l.length:=by
  rcases VI xs.length l.length with q|q
  .exact q
  .rw[List.drop_eq_nil_of_le q]at b;cases b
 rw[Xr a]at b;cases b;obtain⟨ys,h,e,d⟩:=k (by simp);simp only[X8,X6,List.length_nil,Vp,VQ,Vn]at h e d;refine⟨x::ys,by simp only[X6];omega,λj n f=>?_,d⟩;rcases VI xs.length j with q|q
 .exact e j (by omega) f
 .obtain rfl:j=xs.length:=by omega
  exact g ys (XQ a)
theorem QiE{xs a:List A}{x:A}:(xs++x::a)[xs.length]?=some x:=by simp
theorem DS.wo{xs:List A}{o:Oper}{r:List Oper}{x:A}{d:Nat}(h:WO P H.length N l.toArray [o] (Yj (Qj o) 0 ds xs env) H (Y8 (up (Yj (Qj o) 0 ds xs env) d x) H))(k:DS P N m l ds env H K r (xs++[x]))
  (g:o.dst=some d:=by exact rfl)(hx:Nat.blt xs.length m=true:=by exact rfl):DS P N m l ds env H K (o::r) xs:=
 .add hx (λe b=>.woE o _ d x b g QiE (he:=by
  intro s;rcases Qld (af:=Qj o) (env0:=env) (s:=s) ds xs (x::e) 0 with⟨j,y,a,f,i,n⟩|q|q
  .rw[XA]at a;exact .inl ⟨j,y,a,f,i,n⟩
  .exact .inr (.inl q)
  .exact .inr (.inr q)) (hdd:=Qeg H) (h:=h)) k
theorem DS.v{xs:List A}{o:Oper}{r:List Oper}{x:A}{d:Nat}(h:OpV P o (Yj (Qj o) 0 ds xs env) H x)(k:DS P N m l ds env H K r (xs++[x]))(hg:Qs l.toArray o (Yj (Qj o) 0 ds xs env) true:=by exact rfl)
  (hd:o.dst=some d:=by exact rfl)(hN:Nat.blt d N=true:=by exact rfl)(hx:Nat.blt xs.length m=true:=by exact rfl):DS P N m l ds env H K (o::r) xs:=
 .wo (QF hg hd hN h (WO.nil Y8.mk)) k hd hx
def QcN:List A->A->FL
 |[],x=>.mk [x]
 |a::r,x=>match QcN r x with
  |.mk r'=>.mk (a::r')
theorem Jf:∀(l:List A) (x:A),QcN l x=.mk (l++[x])
 |[],x=>rfl
 |a::r,x=>by unfold QcN;rw[Jf r];rfl
def Qih(T:TyX)(N m:Nat)(l:List Oper)(ds:List Nat)(env:Env)(H:Qd):Nat->Nat->List Oper->List A->Option (List Oper×List A)
 |0,_,r,xs=>some (r,xs)
 |_+1,_,[],_=>none
 |n+1,i,o::r,xs=>match Nat.blt i m with
  |false=>none
  |true=>match o.dst with
   |none=>none
   |some d=>match Nat.blt d N with
    |false=>none
    |true=>match Y0 ⟨l⟩ o (Yj (Qj o) 0 ds xs env)with
     |none=>none
     |some false=>match QcN xs (.tup [])with
      |.mk xs'=>Qih T N m l ds env H n (i+1) r xs'
     |some true=>match Qdw T o (Yj (Qj o) 0 ds xs env) H with
      |none=>none
      |some x=>match QcN xs x with
       |.mk xs'=>Qih T N m l ds env H n (i+1) r xs'
theorem QeZ(hT:QbM P T):∀(n i:Nat) {r r':List Oper} {xs xs':List A},i=xs.length->Qih T N m l ds env H n i r xs=some (r',xs')->DS P N m l ds env H K r' xs'->DS P N m l ds env H K r xs
 |0,i,r,r',xs,xs',_,h,k=>by cases h;exact k
 |n+1,i,[],r',xs,xs',_,h,k=>by cases h
 |n+1,i,o::r,r',xs,xs',hi,h,k=>by
  subst hi;unfold Qih at h;split at h
  .cases h
  .rename_i q1;split at h
   .cases h
   .rename_i d hd;split at h
    .cases h
    .rename_i q2;split at h
     .cases h
     .rename_i hw;simp only[Jf]at h;exact .wo (WO.skip (QR hw) hd q2 (WO.nil Y8.mk)) (QeZ hT n _ (by simp) h k) hd q1
     .rename_i hw;split at h
      .cases h
      .rename_i x hv;simp only[Jf]at h;exact .v (QaA hT hv) (QeZ hT n _ (by simp) h k) (QR hw) hd q2 q1
def QmV:List A->Nat->A->FL
 |[],_,_=>.mk []
 |_::r,0,x=>.mk (x::r)
 |a::r,n+1,x=>match QmV r n x with
  |.mk r'=>.mk (a::r')
theorem Qdz:∀{l:List A} {n:Nat} {x:A},YX l n=some x->QmV l n x=.mk l
 |[],n,x,h=>by cases h
 |a::r,0,x,h=>by cases h;rfl
 |a::r,n+1,x,h=>by unfold QmV;rw[Qdz (l:=r) (n:=n) h]
theorem Qlt{α:Type}{b:Bool}{x y:Option α}{v:α}{xs d g:List A}{r:List Oper}(j:Nat)(h:(bif b then x else y)=some v)(f:YX xs j=some (.bool b))(a:QmV xs j (.bool true)=.mk d)(i:QmV xs j (.bool false)=.mk g)
  (t:b=true->x=some v->DS P N m l ds env H K r d)(e:b=false->y=some v->DS P N m l ds env H K r g):DS P N m l ds env H K r xs:=by
 cases b with
 |true=>rw[Qdz f]at a;cases a;exact t rfl h
 |false=>rw[Qdz f]at i;cases i;exact e rfl h
end
end Go.Sw
namespace Go.Sw
@[reducible] def RQ{β:Type}(w:β->A)(Hc:β->Qd)(r:β):A->Qd->Prop:=λa H=>a=w r/\H=Hc r
@[reducible] def Csm{β:Type}(P:Program)(f:FuncId)(args:List A)(H:Qd)(w:β->A)(r:β):Prop:=C P f args H (RQ w (λ_=>H) r)
structure TyZ where
 sl:List (Nat×Nat×Nat)
 fn:List Nat
structure Qdi (P:Program) (Z:TyZ):Prop where
 sl:∀e∈Z.sl,(∀w,(underlying e.1).run P w=.ok (.slice e.2.1) w)/\ ∀w,(sizeOf e.2.1).run P w=.ok e.2.2 w
 fn:∀f∈Z.fn,∀(a:Array Value) (w:World),(callFunc f a).run P w=.ok (.enter f a) w
section
variable {P:Program} {Z:TyZ} {h0 N:Nat} {all:Array Oper} {o:Oper} {l:List Oper} {env:Env} {H:Qd} {Q:QB} {d:Nat}
theorem Izz(m:Qdi P Z){α:Type}{e:α->List A}{t et k:Nat}{L:List α}{a:IntKind}{i:Int}{v:α}(h:idx L i=some v)(q:ixB o env=some (d,t,k,L.map e,a,i))(g:WO P h0 N all l (up env d (.rp (e v))) H Q)
  (b:Qcp Z.sl t=some (et,k))(hg:Y0 all o env=some true)(j:Nat.blt d N=true):WO P h0 N all (o::l) env H Q:=by
 obtain⟨f,n⟩:=m.sl _ (QaB b);exact Ix h f n q g (QR hg) j
theorem Ize(j:Qdi P Z){α:Type}{e:α->List A}{t et k:Nat}{L:List α}{a:IntKind}{i:Int}{v:α}{cs:List A}(h:idx L i=some v)(he:e v=cs)(q:ixB o env=some (d,t,k,L.map e,a,i))(g:WO P h0 N all l (up env d (.rp cs)) H Q)
  (b:Qcp Z.sl t=some (et,k))(hg:Y0 all o env=some true)(f:Nat.blt d N=true):WO P h0 N all (o::l) env H Q:=by
 subst he;exact Izz j h q g b hg f
theorem Lmz(i:Qdi P Z){α:Type}{e:α->List A}{t et k f:Nat}{L:List α}(q:lnB o env=some (d,t,.mk (.rsl k (L.map e))))(g:WO P h0 N all l (up env d (.int .i64 L.length)) H Q)
  (a:Qcp Z.sl t=some (et,f))(hg:Y0 all o env=some true)(h:Nat.blt d N=true):WO P h0 N all (o::l) env H Q:=by
 obtain⟨b,j⟩:=i.sl _ (QaB a);exact LnM b q g (QR hg) h
def Qgg(Z:TyZ)(o:Oper)(env:Env):Option (Nat×Nat×List A):=
 match o.dst with
 |none=>none
 |some d=>match o.op with
  |.call {callee:=.value (.func f),args:=⟨xs⟩,argTypes:=_}=>bif QdH Z.fn f then(match fl (Qiv env xs)with|.mk ax=>some (d,f,ax))else none
  |.call {callee:=.value (.tmp x),args:=⟨xs⟩,argTypes:=_}=>match opB env (.tmp x)with
   |.mk (.fn (.func f) vf vc)=>bif QdH Z.fn f then(match fl (vf++(Qiv env xs++vc))with|.mk ax=>some (d,f,ax))else none
   |_=>none
  |_=>none
theorem QeG(g:Qdi P Z){f:Nat}{args:List A}(h:Qgg Z o env=some (d,f,args)):o.dst=some d/\OpC P o env H f args:=by
 unfold Qgg at h;split at h
 .cases h
 .rename_i m e;split at h
  .rename_i b xs i a;cases q:QdH Z.fn b with
   |false=>rw[q]at h;cases h
   |true=>
    rw[q]at h;simp only[Qcv,Vv]at h;cases h;exact⟨e,OpC.fn (xs:=xs) (g.fn _ (Qhu q)) a rfl (Qc4 xs).symm⟩
  .rename_i x xs i a;split at h
   .rename_i b l k j;cases q:QdH Z.fn b with
    |false=>rw[q]at h;cases h
    |true=>
     rw[q]at h;simp only[Qcv,Vv]at h;cases h;exact⟨e,QaJ (xs:=xs) (g.fn _ (Qhu q)) a rfl (QD j) (by rw[Qc4])⟩
   .cases h
  .cases h
theorem Czz(s:Qdi P Z){β γ:Type}{F:Option β}{F':β->Option γ}{r:γ}{f:Nat}{args a:List A}{Hc:Qd}{w:β->A}(π:List Nat)(h:F.bind F'=some r)(m:∀v,F=some v->C P f a Hc (RQ w (λ_=>Hc) v))
  (b:Qgg Z o env=some (d,f,args))(g:∀v,F=some v->F' v=some r->WO P h0 N all l (up env d (w v)) H Q)(i:∀v,QjE (w v)=some (.mk (w v)))
  (hargs:args=Qaa (rho π H.length) a)(hH:π.map (λp=>H[p]?)=(Hc.map (QX (rho π H.length))).map some)(hπ:π.Nodup)(hg:Y0 all o env=some true)(j:Nat.blt d N=true)(k:Nat.ble h0 H.length=true):WO P h0 N all (o::l) env H Q:=by
 obtain⟨v,e,t⟩:=Jy h;obtain⟨q,n⟩:=QeG (H:=H) s b;exact Pc π q n (m v e) (i v) (g v e t) hargs hH hπ (QR hg) j k
theorem DzZ(x:Qdi P Z){K:List Oper->Env->Qd->Prop}{m:Nat}{e:List Oper}{b:List Nat}{xs:List A}{β γ:Type}{F:Option β}{F':β->Option γ}{r:γ}{f:Nat}{args a:List A}{Hc:Qd}{w:β->A}(π:List Nat)(h:F.bind F'=some r)(t:∀v,F=some v->C P f a Hc (RQ w (λ_=>Hc) v))
  (i:Qgg Z o (Yj (Qj o) 0 b xs env)=some (d,f,args))(g:∀v,F=some v->F' v=some r->DS P N m e b env H K l (xs++[w v]))(n:∀v,QjE (w v)=some (.mk (w v)))
  (hargs:args=Qaa (rho π H.length) a)(hH:π.map (λp=>H[p]?)=(Hc.map (QX (rho π H.length))).map some)(hπ:π.Nodup)(hg:Y0 e.toArray o (Yj (Qj o) 0 b xs env)=some true)(s:Nat.blt d N=true)(q:Nat.blt xs.length m=true):DS P N m e b env H K (o::l) xs:=by
 obtain⟨v,k,y⟩:=Jy h;obtain⟨j,u⟩:=QeG (H:=H) x i;exact .wo (Pc π j u (t v k) (n v) (WO.nil Y8.mk) hargs hH hπ (QR hg) s (XY (XZ _))) (g v k y) j q
theorem ln:Qbo H [] []:=trivial
theorem ls{ax b:List A}{a:A}(k:Qbo H ax b)(h:Ys a=true:=by exact rfl):Qbo H (a::ax) (a::b):=⟨.inl ⟨rfl,h⟩,k⟩
theorem lo{ax a:List A}{i n k t:Nat}{es:List (List A)}(b:Qbo H ax a)(hH:H[i]?=some (.row t k es):=by exact rfl)(hn:es.length=n:=by exact X7 ..):Qbo H (.osl i 0 n k::ax) (.rsl k es::a):=
 ⟨.inr ⟨_,_,_,_,_,rfl,hH,hn,rfl⟩,b⟩
theorem Cbz(q:Qdi P Z){β γ:Type}{F:Option β}{F':β->Option γ}{r:γ}{f:Nat}{args a:List A}{w:β->A}(h:F.bind F'=some r)(k:∀v,F=some v->C P f a [] (RQ w (λ_=>[]) v))
  (b:Qgg Z o env=some (d,f,args))(n:Qbo H args a)(g:∀v,F=some v->F' v=some r->WO P h0 N all l (up env d (w v)) H Q)(i:∀v,Yr (w v)=true)
  (hg:Y0 all o env=some true)(j:Nat.blt d N=true):WO P h0 N all (o::l) env H Q:=by
 obtain⟨v,e,s⟩:=Jy h;obtain⟨p,m⟩:=QeG (H:=H) q b;refine QfS m n (k v e) ?_ ?_ (QR hg) p j
 .rintro _ _ ⟨rfl,rfl⟩;exact i v
 .rintro _ _ ⟨rfl,rfl⟩;exact g v e s
end
def ixL:List Nat:=[0,1,2,3,4,5,6,7,8,9,10,11,12,13,14,15,16,17,18,19,20,21,22,23,24,25,26,27,28,29,30,31,32,33,34,35,36,37,38,39,40,41,42,43,44,45,46,47,48,49,50,51,52,53,54,55,56,57,58,59,60,61,62,63]
def QlD:List Nat->List Nat->Nat->FN
 |a::r,b::s,j=>bif Nat.beq a j then .mk b else QlD r s j
 |_,_,j=>.mk j
mutual
def cpA(sel:List Nat):A->Bx
 |.ptr i off=>match QlD sel ixL i with
  |.mk j=>.mk (.ptr j off)
 |.osl i o n k=>match QlD sel ixL i with
  |.mk j=>.mk (.osl j o n k)
 |.map i=>match QlD sel ixL i with
  |.mk j=>.mk (.map j)
 |.fn f a c=>match cpL sel a,cpL sel c with
  |.mk a',.mk c'=>.mk (.fn f a' c')
 |a=>.mk a
def cpL(sel:List Nat):List A->FL
 |[]=>.mk []
 |a::r=>match cpA sel a,cpL sel r with
  |.mk a',.mk r'=>.mk (a'::r')
end
inductive FV where
 |mk (e:Env)
def Qnz(sel:List Nat)(env:Env):List Nat->Env->FV
 |[],nE=>.mk nE
 |s::r,nE=>match lkB env s with
  |.mk a=>match cpA sel a,Qnz sel env r nE with
   |.mk a',.mk e=>.mk ((s,a')::e)
def selH(H:Qd):List Nat->List Nat->List (Nat×Blk)->FB
 |a::r,p::ps,[]=>match YX H a,selH H r ps []with
  |some b,.mk l=>.mk (b::l)
  |none,.mk l=>.mk l
 |a::r,p::ps,(q,b)::n=>bif Nat.beq p q then(match selH H r ps n with|.mk l=>.mk (b::l))else(match YX H a,selH H r ps ((q,b)::n)with
  |some b,.mk l=>.mk (b::l)
  |none,.mk l=>.mk l)
 |_,_,_=>.mk []
def Qoj(sel keep:List Nat)(nE:Env)(nH:List (Nat×Blk))(env:Env)(H:Qd):Option (Env×Qd):=
 match Qnz sel env keep nE,selH H sel ixL nH with
 |.mk e,.mk h=>some (e,h)
section
variable {P:Program} {h0 N:Nat} {c:Code} {env:Env} {H:Qd} {Q:QB}
def CutQ{β:Type}(h0:Nat)(b:β)(E':β->Env)(H':β->Qd)(Q:QB):QB
 |.normal,env,H=>Le h0 env H (E' b) (H' b)
 |.exit id,env,H=>Q (.exit id) env H
 |.ret,env,H=>Q .ret env H
theorem QH{h0:Nat}{env:Env}{H:Qd}{Q:QB}{β:Type}{b:β}{E':β->Env}{H':β->Qd}(h:Le h0 env H (E' b) (H' b)):CutQ h0 b E' H' Q .normal env H:=h
theorem Ct{β:Type}{E':β->Env}{H':β->Qd}(b:β)(sel keep:List Nat)(nE:β->Env)(nH:β->List (Nat×Blk))(_:∀b,Qoj sel keep (nE b) (nH b) env H=some (E' b,H' b))(h:TC P h0 N c env H (CutQ h0 b E' H' Q))(k:∀env H,Le h0 env H (E' b) (H' b)->Q .normal env H):TC P h0 N c env H Q:=
 h.mono λx env' H' q=>by
  cases x with
  |normal=>exact k _ _ q
  |exit id=>exact q
  |ret=>exact q
theorem CtE{S B:Type}{b:Ctl S B}{E':S->Env}{H':S->Qd}(sel keep:List Nat)(nE:S->Env)(nH:S->List (Nat×Blk))(_:∀s,Qoj sel keep (nE s) (nH s) env H=some (E' s,H' s))(h:TC P h0 N c env H (Qf9 h0 b E' H' Q))(k:∀s env H,b=.cont s->Le h0 env H (E' s) (H' s)->Q .normal env H):TC P h0 N c env H Q:=QhT E' H' h k
theorem Lp{S B:Type}{step:S->Option (Ctl S B)}{E':S->Env}{H':S->Qd}{m:Nat}{s0:S}{b0:B}(sel keep:List Nat)(nE:S->Env)(nH:S->List (Nat×Blk))(h:iter step m s0=some b0)(_:∀s,Qoj sel keep (nE s) (nH s) env H=some (E' s,H' s))(hI:Le h0 env H (E' s0) (H' s0))
  (body:∀s d,step s=some d->(∀b,d=.done b->b=b0)->TC P h0 N c (E' s) (H' s) (Qbn (λs env H=>Le h0 env H (E' s) (H' s)) d Q)):TC P h0 N (.loop c) env H Q:=TC.loop E' H' h hI body
end
theorem Oj{S B:Type}{d:Ctl S B}{x b0:B}(hb:∀b,d=.done b->b=b0)(h:some (Ctl.done x)=some d):x=b0:=hb x (Oi h).symm
theorem Rt{P:Program}{h0:Nat}{fn:Func}{env:Env}{H:Qd}{β:Type}{e r:β}{w:β->A}{Hc:β->Qd}(h:some e=some r)(s:Nat)(π:List Nat)(a:fn.results= #[.tmp s]:=by exact rfl)(hpre:π.take h0=List.range h0:=by exact rfl)
  (hH:π.map (λp=>H[p]?)=((Hc e).map (QX (rho π H.length))).map some:=by exact rfl)(hπ:π.Nodup:=by decide)(hE:Qem (rho π H.length) env [(s,w e)]:=by exact⟨rfl,trivial⟩):Qdm P h0 fn (RQ w Hc r) .ret env H:=by
 cases h;exact R1 s a (Lr π hpre hH hπ hE)
theorem Cl{h0:Nat}{env:Env}{H:Qd}{Q:QB}{β:Type}{e b:β}{E':β->Env}{H':β->Qd}(h:some e=some b)(π:List Nat)(a:π.take h0=List.range h0:=by exact rfl)
  (hH:π.map (λp=>H[p]?)=((H' e).map (QX (rho π H.length))).map some:=by exact rfl)(hπ:π.Nodup:=by decide)(hE:Qem (rho π H.length) env (E' e):=by(repeat' (first|exact trivial|refine⟨rfl,?_⟩))):CutQ h0 b E' H' Q .normal env H:=by
 cases h;exact Lr π a hH hπ hE
end Go.Sw
namespace Go.Sw
def plC(cat:List Nat):List (List (Nat×Nat)):=cat.map λc=>match c with|0=>[(0,0)]|1=>[(0,1)]|2=>[(1,1)]|_=>[(0,0),(1,1)]
def rqC(b:Nat)(cat:List Nat):List (List Nat):=cat.map λc=>match c with|2=>[b]|_=>[]
def hsC(cat:List Nat):List Bool:=cat.map λc=>match c with|1=>true|_=>false
section
variable {P:Program} {T:TyX} {h0 N m b:Nat} {cat:List Nat} {l:List Oper} {ds:List Nat} {env:Env} {H H1:Qd} {Q:QB} {K:List Oper->Env->Qd->Prop}
theorem QhZ{P:Program}{N:Nat}{l:List Oper}{ds:List Nat}{xs:List A}{env0:Env}{hB hE:Nat}:∀(ss:List (List (Qd×Qd))) (b:Nat),(∀i s,ss[i]?=some s->∀p∈s,Jz P N l ds xs env0 hB hE (b+i) p.1 p.2)->Qh0 P N l ds xs env0 hB hE b ss
 |[],b,h=>.nil
 |s::ss,b,h=>.cons (h 0 s rfl) (QhZ ss (b+1) λi s' hs=>by rw[show b+1+i=b+(i+1)by omega];exact h (i+1) s' hs)
def Dob(P:Program)(N:Nat)(cat:List Nat)(l:List Oper)(ds:List Nat)(env:Env)(H H1:Qd)(zs:List A)(j:Nat):Prop:=
 ∀p∈(plC cat).getD j [],Jz P N l ds zs env H.length H.length j ([H,H1].getD p.1 []) ([H,H1].getD p.2 [])
def DB(P:Program)(N m:Nat)(cat:List Nat)(l:List Oper)(ds:List Nat)(env:Env)(H H1:Qd)(K:List Oper->Env->Qd->Prop)(r:List Oper)(xs:List A):Prop:=
 r=l.drop xs.length->∃ys,xs.length+ys.length=m/\(∀j,xs.length<=j->j<m->Dob P N cat l ds env H H1 (xs++ys) j)/\K (l.drop m) (Qaz ds (xs++ys) env) H1
def DA(P:Program)(N m:Nat)(cat:List Nat)(l:List Oper)(ds:List Nat)(env:Env)(H:Qd)(K:List Oper->Env->Qd->Prop)(r:List Oper)(xs:List A):Prop:=
 r=l.drop xs.length->∃ys H1,xs.length+ys.length=m/\H.length<=H1.length/\(∀j,xs.length<=j->j<m->Dob P N cat l ds env H H1 (xs++ys) j)/\K (l.drop m) (Qaz ds (xs++ys) env) H1
theorem Qra{f:List A}(a:cat.length=m)(g:∀j,0<=j->j<m->Dob P N cat l ds env H H1 f j):Qh0 P N l ds f env H.length (H.length+0) 0 ((plC cat).map λq=>q.map λp=>([H,H1].getD p.1 [],[H,H1].getD p.2 [])):=by
 refine QhZ _ 0 λi s b p k=>?_;rw[Xq]at b;cases e:(plC cat)[i]? with
 |none=>rw[e]at b;cases b
 |some q=>
  rw[e]at b;cases b;obtain⟨h,d,rfl⟩:=Xe.1 k;have n:i<m:=by
   have:=(XR.1 e).1;simpa[plC,a]using this
  have:=g i (X0 _) n h (by rw[Qk2 e];exact d);simpa using this
theorem DA.len(a:H.length<=H1.length):[H,H1].all (λX=>Nat.ble (H.length+0) X.length)=true:=by
 simp only[List.all_cons,List.all_nil,Bool.and_true,XB,X3];exact⟨XY (XZ _),XY a⟩
theorem QoW{id:Nat}(m b:Nat)(cat:List Nat)(n:P.follows .mixedOrders=true)(p:Qef l m N (Qbk m 0 l) (hsC cat) (rqC b cat) [[],[b]] (plC cat)=true)(f:Nat.beq cat.length m=true)(d:Nat.ble h0 H.length=true)
  (h:DA P N m cat l (Qbk m 0 l) env H (λr e H=>WO P h0 N l.toArray r e H Q) l []):TC P h0 N (.region id l.toArray true) env H Q:=by
 obtain⟨k,H1,j,q,g,i⟩:=h rfl;simp only[List.length_nil,XA,Vn]at j g i;have a:=XW f;exact YY m 0 _ _ _ _ _ k [H,H1] H1 n p (by rw[j];exact VL m) rfl d (DA.len q) (by simp) rfl (Qra a g) (by simp[plC,a]) i
theorem Qbl{xs:List A}{o:Oper}{r:List Oper}(b:o::r=l.drop xs.length):l[xs.length]?=some o/\r=l.drop (xs.length+1):=by
 have a:xs.length<l.length:=by
  rcases VI xs.length l.length with q|q
  .exact q
  .rw[List.drop_eq_nil_of_le q]at b;cases b
 rw[Xr a]at b;cases b;exact⟨XQ a,rfl⟩
theorem Qh4{zs:List A}{j c:Nat}(b:YX cat j=some c)(h:∀p∈(match c with|0=>[(0,0)]|1=>[(0,1)]|2=>[(1,1)]|_=>[(0,0),(1,1)]:List (Nat×Nat)),Jz P N l ds zs env H.length H.length j ([H,H1].getD p.1 []) ([H,H1].getD p.2 [])):Dob P N cat l ds env H H1 zs j:=by
 intro p a;rw[QaG]at b;unfold plC at a;rw[VS,Xq,b]at a;exact h p a
theorem QaE{hB hE:Nat}{xs b:List A}{o:Oper}{x:A}{d:Nat}{X X':Qd}(f:l[xs.length]?=some o)(hdd:Qaw hB hE X X'=true)(h:WO P X.length N l.toArray [o] (Yj (Qj o) 0 ds xs env) X (Y8 (up (Yj (Qj o) 0 ds xs env) d x) X'))(g:o.dst=some d):
  Jz P N l ds (xs++x::b) env hB hE xs.length X X':=
 .woE o _ d x f g QiE (he:=by
  intro s;rcases Qld (af:=Qj o) (env0:=env) (s:=s) ds xs (x::b) 0 with⟨j,y,a,e,i,k⟩|q|q
  .rw[XA]at a;exact .inl ⟨j,y,a,e,i,k⟩
  .exact .inr (.inl q)
  .exact .inr (.inr q)) (hdd:=hdd) (h:=h)
theorem Je{n:Nat}{X X':Qd}:Qaw n n X X'=true:=by unfold Qaw;rw[Nat.sub_self];rfl
theorem DA.wo{xs:List A}{o:Oper}{r:List Oper}{x:A}{d:Nat}(h:WO P H.length N l.toArray [o] (Yj (Qj o) 0 ds xs env) H (Y8 (up (Yj (Qj o) 0 ds xs env) d x) H))(k:DA P N m cat l ds env H K r (xs++[x]))
  (t:YX cat xs.length=some 0:=by exact rfl)(hd:o.dst=some d:=by exact rfl)(hx:Nat.blt xs.length m=true:=by exact rfl):DA P N m cat l ds env H K (o::r) xs:=by
 intro f;obtain⟨g,a⟩:=Qbl f;obtain⟨i,H1,u,w,b,e⟩:=k (by simpa using a);simp only[X8,X6,List.length_nil,Vp,VQ,Vn]at u b e;refine⟨x::i,H1,by simp only[X6];omega,w,λj y n=>?_,e⟩;rcases VI xs.length j with q|q
 .exact b j (by omega) n
 .obtain rfl:j=xs.length:=by omega
  refine Qh4 t λp s=>?_;obtain rfl:=VH.1 s;exact QaE g Je h hd
theorem DA.op{xs:List A}{o:Oper}{r:List Oper}{x:A}{d:Nat}(h:WO P H.length N l.toArray [o] (Yj (Qj o) 0 ds xs env) H (Y8 (up (Yj (Qj o) 0 ds xs env) d x) H1))(k:DB P N m cat l ds env H H1 K r (xs++[x]))(hl:Nat.ble H.length H1.length=true:=by exact rfl)
  (hc:YX cat xs.length=some 1:=by exact rfl)(hd:o.dst=some d:=by exact rfl)(hx:Nat.blt xs.length m=true:=by exact rfl):DA P N m cat l ds env H K (o::r) xs:=by
 intro f;obtain⟨g,a⟩:=Qbl f;obtain⟨i,t,b,e⟩:=k (by simpa using a);simp only[X8,X6,List.length_nil,Vp,VQ,Vn]at t b e;refine⟨x::i,H1,by simp only[X6];omega,XX hl,λj u n=>?_,e⟩;rcases VI xs.length j with q|q
 .exact b j (by omega) n
 .obtain rfl:j=xs.length:=by omega
  refine Qh4 hc λp s=>?_;obtain rfl:=VH.1 s;exact QaE g Je h hd
theorem QbJ{xs:List A}{o:Oper}{r:List Oper}{x x':A}{d:Nat}{H1':Qd}(h:OpH P o (Yj (Qj o) 0 ds xs env) H x H1)(b:foA x=.mk x')(a:foH H1=.mk H1')(k:DB P N m cat l ds env H H1' K r (xs++[x']))(e:o.dst=some d:=by exact rfl)(hg:Y0 ⟨l⟩ o (Yj (Qj o) 0 ds xs env)=some true:=by exact rfl)(hN:Nat.blt d N=true:=by exact rfl)(hl:Nat.ble H.length H1'.length=true:=by exact rfl)
  (hc:YX cat xs.length=some 1:=by exact rfl)(hx:Nat.blt xs.length m=true:=by exact rfl):DA P N m cat l ds env H K (o::r) xs:=by
 rw[QhD]at b;rw[QjX]at a;cases b;cases a;exact .op (Y5 (XZ _) (QR hg) e hN h (WO.nil Y8.mk)) k hl hc e hx
theorem DB.done{xs:List A}{r:List Oper}(b:Nat.beq xs.length m=true)(h:K r (Qaz ds xs env) H1):DB P N m cat l ds env H H1 K r xs:=by
 intro a;have e:=XW b;subst a;refine⟨[],by simpa using e,λj f d=>by omega,?_⟩;rw[<- e,Vm];exact h
theorem DB.add{xs:List A}{o:Oper}{r:List Oper}{x:A}(h:∀ys,l[xs.length]?=some o->Dob P N cat l ds env H H1 (xs++x::ys) xs.length)(k:DB P N m cat l ds env H H1 K r (xs++[x])):DB P N m cat l ds env H H1 K (o::r) xs:=by
 intro e;obtain⟨f,a⟩:=Qbl e;obtain⟨ys,i,b,d⟩:=k (by simpa using a);simp only[X8,X6,List.length_nil,Vp,VQ,Vn]at i b d;refine⟨x::ys,by simp only[X6];omega,λj n g=>?_,d⟩;rcases VI xs.length j with q|q
 .exact b j (by omega) g
 .obtain rfl:j=xs.length:=by omega
  exact h ys f
theorem DB.wo1{xs:List A}{o:Oper}{r:List Oper}{x:A}{d:Nat}(h:WO P H1.length N l.toArray [o] (Yj (Qj o) 0 ds xs env) H1 (Y8 (up (Yj (Qj o) 0 ds xs env) d x) H1))(k:DB P N m cat l ds env H H1 K r (xs++[x]))
  (b:YX cat xs.length=some 2:=by exact rfl)(hd:o.dst=some d:=by exact rfl):DB P N m cat l ds env H H1 K (o::r) xs:=
 .add (λf e=>Qh4 b λp a=>by
  obtain rfl:=VH.1 a;exact QaE e Je h hd) k
theorem DB.wo2{xs:List A}{o:Oper}{r:List Oper}{x:A}{d:Nat}(h:WO P H.length N l.toArray [o] (Yj (Qj o) 0 ds xs env) H (Y8 (up (Yj (Qj o) 0 ds xs env) d x) H))(f:WO P H1.length N l.toArray [o] (Yj (Qj o) 0 ds xs env) H1 (Y8 (up (Yj (Qj o) 0 ds xs env) d x) H1))(k:DB P N m cat l ds env H H1 K r (xs++[x]))
  (e:YX cat xs.length=some 3:=by exact rfl)(hd:o.dst=some d:=by exact rfl):DB P N m cat l ds env H H1 K (o::r) xs:=
 .add (λg b=>Qh4 e λp a=>by
  rcases Vc.1 a with rfl|a
  .exact QaE b Je h hd
  .obtain rfl:=VH.1 a;exact QaE b Je f hd) k
def Qii(T:TyX)(N m:Nat)(cat:List Nat)(l:List Oper)(ds:List Nat)(env:Env)(H:Qd):Nat->Nat->List Oper->List A->Option (List Oper×List A)
 |0,_,r,xs=>some (r,xs)
 |_+1,_,[],_=>none
 |n+1,i,o::r,xs=>match Nat.blt i m,YX cat i with
  |true,some 0=>match o.dst with
   |none=>none
   |some d=>match Nat.blt d N with
    |false=>none
    |true=>match Y0 ⟨l⟩ o (Yj (Qj o) 0 ds xs env)with
     |none=>none
     |some false=>match QcN xs (.tup [])with
      |.mk xs'=>Qii T N m cat l ds env H n (i+1) r xs'
     |some true=>match Qdw T o (Yj (Qj o) 0 ds xs env) H with
      |none=>none
      |some x=>match QcN xs x with
       |.mk xs'=>Qii T N m cat l ds env H n (i+1) r xs'
  |_,_=>none
theorem Qe2(hT:QbM P T):∀(n i:Nat) {r r':List Oper} {xs xs':List A},i=xs.length->Qii T N m cat l ds env H n i r xs=some (r',xs')->DA P N m cat l ds env H K r' xs'->DA P N m cat l ds env H K r xs
 |0,i,r,r',xs,xs',_,h,k=>by cases h;exact k
 |n+1,i,[],r',xs,xs',_,h,k=>by cases h
 |n+1,i,o::r,r',xs,xs',hi,h,k=>by
  subst hi;unfold Qii at h;split at h
  .rename_i q1 q0;split at h
   .cases h
   .rename_i d hd;split at h
    .cases h
    .rename_i q2;split at h
     .cases h
     .rename_i hw;simp only[Jf]at h;exact .wo (WO.skip (QR hw) hd q2 (WO.nil Y8.mk)) (Qe2 hT n _ (by simp) h k) q0 hd q1
     .rename_i hw;split at h
      .cases h
      .rename_i x hv;simp only[Jf]at h;exact .wo (QF (QR hw) hd q2 (QaA hT hv) (WO.nil Y8.mk)) (Qe2 hT n _ (by simp) h k) q0 hd q1
  .cases h
theorem Qo6{H:Qd}{p:Bx}{r:Lx}(h:ptX [] p=some r):ptX H p=some r:=by
 unfold ptX at h⊢;split at h
 .exact h
 .rename_i i a;simp only[YX]at h;cases h
 .cases h
theorem QeO{o:Oper}{e:Env}{H:Qd}{x:A}(h:Qdw T o e []=some x):Qdw T o e H=some x:=by
 unfold Qdw at h⊢;split at h<;>first|exact h|skip
 rename_i t y g;split at h
 .cases h
 .rename_i b n f;split at h
  .exact h
  .rename_i d;cases q:ptX [] (opB e y)with
   |none=>rw[q]at h;cases h
   |some r=>
    rw[q]at h;have a:=Qo6 (H:=H) q;simp only[a];exact h
def Qe1(T:TyX)(N:Nat)(cat:List Nat)(l:List Oper)(ds:List Nat)(env:Env)(H1:Qd):Nat->Nat->List Oper->List A->Option (List Oper×List A)
 |0,_,r,xs=>some (r,xs)
 |_+1,_,[],_=>none
 |n+1,i,o::r,xs=>match o.dst with
  |none=>none
  |some d=>match Nat.blt d N with
   |false=>none
   |true=>match Y0 ⟨l⟩ o (Yj (Qj o) 0 ds xs env)with
    |none=>none
    |some false=>match YX cat i with
     |some 2=>(match QcN xs (.tup [])with
      |.mk xs'=>Qe1 T N cat l ds env H1 n (i+1) r xs')
     |some 3=>(match QcN xs (.tup [])with
      |.mk xs'=>Qe1 T N cat l ds env H1 n (i+1) r xs')
     |_=>none
    |some true=>match YX cat i with
     |some 2=>(match Qdw T o (Yj (Qj o) 0 ds xs env) H1 with
      |none=>none
      |some x=>match QcN xs x with
       |.mk xs'=>Qe1 T N cat l ds env H1 n (i+1) r xs')
     |some 3=>(match Qdw T o (Yj (Qj o) 0 ds xs env) []with
      |none=>none
      |some x=>match QcN xs x with
       |.mk xs'=>Qe1 T N cat l ds env H1 n (i+1) r xs')
     |_=>none
theorem QbV(hT:QbM P T):∀(n i:Nat) {r r':List Oper} {xs xs':List A},i=xs.length->Qe1 T N cat l ds env H1 n i r xs=some (r',xs')->DB P N m cat l ds env H H1 K r' xs'->DB P N m cat l ds env H H1 K r xs
 |0,i,r,r',xs,xs',_,h,k=>by cases h;exact k
 |n+1,i,[],r',xs,xs',_,h,k=>by cases h
 |n+1,i,o::r,r',xs,xs',hi,h,k=>by
  subst hi;unfold Qe1 at h;split at h
  .cases h
  .rename_i d hd;split at h
   .cases h
   .rename_i q2;split at h
    .cases h
    .rename_i hw;split at h
     .rename_i q0;simp only[Jf]at h;exact .wo1 (WO.skip (QR hw) hd q2 (WO.nil Y8.mk)) (QbV hT n _ (by simp) h k) q0 hd
     .rename_i q0;simp only[Jf]at h;exact .wo2 (WO.skip (QR hw) hd q2 (WO.nil Y8.mk)) (WO.skip (QR hw) hd q2 (WO.nil Y8.mk)) (QbV hT n _ (by simp) h k) q0 hd
     .cases h
    .rename_i hw;split at h
     .rename_i q0;split at h
      .cases h
      .rename_i x hv;simp only[Jf]at h;exact .wo1 (QF (QR hw) hd q2 (QaA hT hv) (WO.nil Y8.mk)) (QbV hT n _ (by simp) h k) q0 hd
     .rename_i q0;split at h
      .cases h
      .rename_i x hv;simp only[Jf]at h;exact .wo2 (QF (QR hw) hd q2 (QaA hT (QeO hv)) (WO.nil Y8.mk)) (QF (QR hw) hd q2 (QaA hT (QeO hv)) (WO.nil Y8.mk)) (QbV hT n _ (by simp) h k) q0 hd
     .cases h
end
end Go.Sw
namespace Go.Sw
def chkF(L:List (Nat×List (Nat×Nat)))(fs:List (Nat×Nat×Nat)):Bool:=
 fs.all λe=>match Qcp L e.1 with
  |some pl=>(match YX pl e.2.1 with
   |some q=>Nat.beq q.1 e.2.2&& !(Nat.beq q.2 0)
   |none=>false)
  |none=>false
theorem PL.get{P:Program}{fs:List Field}{a:List (Nat×Nat)}(h:PL P fs a):∀{f off n:Nat},YX a f=some (off,n)->∃fd,fs[f]?=some fd/\fd.offset=off/\ ∀w,(sizeOf fd.type).run P w=.ok n w:=by
 induction h with
 |nil=>intro f off n h;cases h
 |cons h k d=>
  intro f off n b;cases f with
  |zero=>cases b;exact⟨_,rfl,rfl,h⟩
  |succ f=>obtain⟨fd,e,g⟩:=d (show YX _ f=_ from b);exact⟨fd,by simpa using e,g⟩
theorem QqR{P:Program}{L:List (Nat×List (Nat×Nat))}{fs:List (Nat×Nat×Nat)}(k:∀e∈L,QC P e.1 e.2)(h:chkF L fs=true):∀e∈fs,∃n,QG P e.1 e.2.1 e.2.2 n:=by
 intro e d;have:=Xv.1 h e d;split at this
 .rename_i t b;split at this
  .rename_i q i;obtain⟨s,n⟩:=q;simp only[X3,Bool.not_eq_true']at this;have l:=XW this.1;obtain⟨r,p,a⟩:=k _ (QaB b);obtain⟨j,m,g,f⟩:=PL.get a i;refine⟨n,⟨⟨_,j,p,by simpa using m,g.trans l,f,?_⟩⟩⟩;intro z;have a:=this.2;rw[z,VL]at a;cases a
  .cases this
 .cases this
section
variable {P:Program} {Z:TyZ} {h0 N:Nat} {all:Array Oper} {o:Oper} {l:List Oper} {env:Env} {H:Qd} {Q:QB} {d:Nat}
theorem Cdz(q:Qdi P Z){β γ:Type}{F:Option β}{F':β->Option γ}{r:γ}{f:Nat}{args a:List A}{Hc:Qd}{w:β->A}{Hr:β->Qd}(π:List Nat)(h:F.bind F'=some r)(j:∀v,F=some v->C P f a Hc (RQ w Hr v))
  (b:Qgg Z o env=some (d,f,args))(g:∀v,F=some v->F' v=some r->WO P h0 N all l (up env d (YE (rho π H.length) (w v))) (Yt H π ((Hr v).map (QX (rho π H.length)))) Q)
  (hargs:args=Qaa (rho π H.length) a)(hH:π.map (λp=>H[p]?)=(Hc.map (QX (rho π H.length))).map some)(hπ:π.Nodup)(hg:Y0 all o env=some true)(i:Nat.blt d N=true)(k:Nat.ble h0 H.length=true):WO P h0 N all (o::l) env H Q:=by
 obtain⟨v,e,s⟩:=Jy h;obtain⟨n,m⟩:=QeG (H:=H) q b;refine Qz π m (j v e) ?_ hargs hH hπ (QR hg) n i k;rintro _ _ ⟨rfl,rfl⟩;exact g v e s
end
inductive FLL where
 |mk (l:List (List A))
def cpLL(sel:List Nat):List (List A)->FLL
 |[]=>.mk []
 |a::r=>match cpL sel a,cpLL sel r with
  |.mk a',.mk r'=>.mk (a'::r')
inductive FBk where
 |mk (b:Blk)
def cpBk(sel:List Nat):Blk->FBk
 |.cells t cs=>match cpL sel cs with
  |.mk l=>.mk (.cells t l)
 |.rowr t k es=>match cpLL sel es with
  |.mk l=>.mk (.rowr t k l)
 |.ents t a b es=>match QlD sel ixL a,QlD sel ixL b with
  |.mk a',.mk b'=>.mk (.ents t a' b' es)
 |b=>.mk b
def selD(H:Qd)(sel:List Nat):List Nat->FB
 |[]=>.mk []
 |a::r=>match YX H a with
  |some b=>(match cpBk sel b,selD H sel r with
   |.mk b',.mk l=>.mk (b'::l))
  |none=>.mk []
def retC(sel sl:List Nat)(env:Env)(H:Qd):Option (Env×Qd):=
 match Qnz sel env sl [],selD H sel sel with
 |.mk e,.mk h=>some (e,h)
theorem Rx{P:Program}{h0:Nat}{fn:Func}{env E':Env}{H H':Qd}{Qr:A->Qd->Prop}{d:A}(π sl:List Nat)(_:retC π sl env H=some (E',H'))(b:Qcy P fn E' H' d)(e:Qr d H')(a:π.take h0=List.range h0:=by exact rfl)
  (hH:π.map (λp=>H[p]?)=(H'.map (QX (rho π H.length))).map some:=by exact rfl)(hπ:π.Nodup:=by decide)(hE:Qem (rho π H.length) env E':=by(repeat' (first|exact trivial|refine⟨rfl,?_⟩))):Qdm P h0 fn Qr .ret env H:=
 ⟨E',H',d,Lr π a hH hπ hE,b,e⟩
end Go.Sw
namespace Go.Sw
def nxL{T:Type}:List T->T->List T->Prop:=λl x rem=>l=x::rem
def QcZ{S T B:Type}(step:S->T->Option (Ctl S B)):List T->S->Option (Ctl S B)
 |[],s=>some (.cont s)
 |x::l,s=>(step s x).bind λd=>match d with
  |.cont s'=>QcZ step l s'
  |.done b=>some (.done b)
def Qb1{S T B:Type}(step:S->Option (List T×Ctl S B)):Nat->S->Option (List T×B)
 |0,_=>none
 |n+1,s=>(step s).bind λp=>match p.2 with
  |.cont s'=>(Qb1 step n s').bind λq=>some (p.1++q.1,q.2)
  |.done b=>some (p.1,b)
def Qoz{S B:Type}(h1:Nat)(env:Env)(Q:QB)(d:Ctl S B)(Hp:S->Qd):QB
 |.normal,env',H'=>∃s,d=.cont s/\Le h1 env' H' [] (Hp s)
 |.exit id,env',H'=>(∃b,d=.done b)/\ ∃H2,Le h1 env' H' [] H2/\Q (.exit id) env H2
 |.ret,env',H'=>(∃b,d=.done b)/\ ∃H2,Le h1 env' H' [] H2/\Q .ret env H2
theorem QkL{S B:Type}{h1:Nat}{env env':Env}{H':Qd}{Q:QB}{s:S}{d:Ctl S B}{Hp:S->Qd}(e:some (Ctl.cont s)=some d)(h:Le h1 env' H' [] (Hp s)):Qoz h1 env Q d Hp .normal env' H':=⟨s,(Oi e).symm,h⟩
theorem Qg6{P:Program}{h0 N:Nat}{m:Operand}{ps:List Nat}{assign body:Code}{env:Env}{H:Qd}{Q:QB}{f:FuncId}{a g:List A}{Hc:Qd}{T S B:Type}{enc:T->List A}{xs:List T}{step:S->T->Option (Ctl S B)}{s0:S}{D:Ctl S B}
  (π:List Nat)(Hp:S->Qd)(h:QcZ step xs s0=some D)(n:QhU P f g Hc enc nxL xs)(r:∀x,(enc x).length=ps.length)(O:∀args w,(callFunc f args).run P w=.ok (.enter f args) w)
  (J:Nat.ble h0 H.length=true)(hg:opA env m=.fn (.func f) [] a)(hargs:a=Qaa (rho π H.length) g)(hH:π.map (λp=>H[p]?)=(Hc.map (QX (rho π H.length))).map some)(hπ:π.Nodup)(y:(ps.all λp=>Nat.blt p N)=true)
  (i:Le H.length env (Qd8 H π) env (Hp s0))
  (j:∀s x d,step s x=some d->(∀b,d=.done b->D=.done b)->TC P H.length N assign (QmK ps (enc x) env) (Hp s) λe env1 H1=>e=.normal/\TC P H.length N body env1 H1 (Qoz H.length env Q d Hp))
  (k:∀s,D=.cont s->Q .normal env (Hp s)):TC P h0 N (.rangeFunc m ps.toArray assign body) env H Q:=by
 refine TC.rangeFunc π Hp (λs l=>QcZ step l s=some D) s0 (XX J) hg hargs hH hπ y O n r i h ?_ ?_
 .rintro s l x rem t rfl;obtain⟨d,M,t⟩:=Jy t;refine(j s x d M ?_).mono ?_
  .rintro b rfl;exact(Oi t).symm
  .rintro e env1 H1 ⟨F,L⟩;refine⟨F,L.mono ?_⟩;intro R z H2 q;cases R with
   |normal=>
    obtain⟨E,rfl,i⟩:=q;exact⟨Hp E,i,E,t,rfl⟩
   |exit id=>
    obtain⟨_,H3,u,q⟩:=q;exact⟨H3,u,q⟩
   |ret=>
    obtain⟨_,H3,u,q⟩:=q;exact⟨H3,u,q⟩
 .intro s G;exact k s (Oi G).symm
section
variable {T:Type} {X:Ctx T} {P:Program} {h0 N:Nat} {c:Code} {env:Env} {H:Qd} {st:YSt T} {Q:YG T}
def Qf7{S B:Type}(h0:Nat)(E:S->Env)(Hp:S->Qd)(d:Ctl S B)(rest:List T)(Q:YG T):YG T
 |.normal,env,H,st=>∃s,d=.cont s/\Le h0 env H (E s) (Hp s)/\st=.on rest
 |.exit id,env,H,st=>Q (.exit id) env H st
 |.ret,env,H,st=>Q .ret env H st
theorem Qma{S B:Type}{step:S->Option (List T×Ctl S B)}{E:S->Env}{Hp:S->Qd}{m:Nat}{s0:S}{j rem:List T}{b:B}(h:Qb1 step m s0=some (j,b))(u:Le h0 env H (E s0) (Hp s0))
  (body:∀s zs d rest,step s=some (zs,d)->(∀b',d=.done b'->b'=b/\rest=rem)->TCy X P h0 N c (E s) (Hp s) (.on (zs++rest)) (Qf7 h0 E Hp d rest Q)):TCy X P h0 N (.loop c) env H (.on (j++rem)) Q:=by
 refine Qg5 (I:=λn env H r=>∃s a,Qb1 step n s=some (a,b)/\r=.on (a++rem)/\Le h0 env H (E s) (Hp s)) ?_ ⟨s0,j,h,rfl,u⟩;rintro n env H r ⟨s,a,f,rfl,l⟩;cases n with
 |zero=>cases f
 |succ n=>
  obtain⟨⟨zs,d⟩,p,f⟩:=Jy f;refine TCy.le l ?_;cases d with
  |cont y=>
   obtain⟨⟨w,F⟩,t,f⟩:=Jy f;cases f;rw[Vp];refine(body s zs (.cont y) (w++rem) p (λb' e=>by cases e)).mono ?_;rintro x g H' k q;cases x with
   |normal=>
    obtain⟨z,e,i,rfl⟩:=q;cases e;exact⟨n,Xo n,_,_,t,rfl,i⟩
   |exit id=>exact q
   |ret=>exact q
  |done b'=>
   cases f;refine(body s _ (.done b) rem p (λb' e=>by cases e;exact⟨rfl,rfl⟩)).mono ?_;rintro x g H' k q;cases x with
   |normal=>obtain⟨z,e,_⟩:=q;cases e
   |exit id=>exact q
   |ret=>exact q
def kqY(X:Ctx T)(P:Program)(h0 N:Nat):List Kf->YG T->YG T
 |[],Q=>Q
 |.seq c::k,Q=>SeqY X P h0 N c (kqY X P h0 N k Q)
 |.blo id::k,Q=>BloY id (kqY X P h0 N k Q)
 |.unr c::k,Q=>λ_ _ _ _=>False
@[reducible] def HdY(X:Ctx T)(P:Program)(h0 N:Nat):Cf->List Kf->Env->Qd->YSt T->YG T->Prop
 |.code c,k,env,H,st,Q=>TCy X P h0 N c env H st (kqY X P h0 N k Q)
 |.ops all l,k,env,H,st,Q=>WOy X P h0 N all l env H st (kqY X P h0 N k Q)
 |.out x,k,env,H,st,Q=>kqY X P h0 N k Q x env H st
def QpY:Cf->List Kf->Bool
 |.code (.loop _),_=>false
 |.out _,.unr _::_=>false
 |_,_=>true
theorem QmM{Tx:TyX}(f:QbM P Tx){c b:Cf}{k d:List Kf}{env env':Env}{H H':Qd}(h:Qgm Tx h0 N c k env H=some (b,d,env',H'))(a:QpY c k=true)(g:HdY X P h0 N b d env' H' st Q):HdY X P h0 N c k env H st Q:=by
 unfold Qgm at h;split at h
 .cases h;exact TCy.seq g
 .cases h;exact TCy.block g
 .cases a
 .cases h;exact TCy.skip g
 .cases h;exact TCy.ret g
 .cases h;exact TCy.exit g
 .cases h;exact TCy.region g
 .split at h
  .rename_i q;cases h;exact TCy.cond (QD q) (λ_=>g) (λe=>by cases e)
  .rename_i q;cases h;exact TCy.cond (QD q) (λe=>by cases e) (λ_=>g)
  .cases h
 .cases h;exact WOy.nil g
 .split at h
  .rename_i q;cases h;exact WOy.step (QmQ f q (WO.nil ⟨rfl,g⟩))
  .cases h
 .cases h;exact g
 .cases h;exact g
 .cases h;exact g
 .cases h;exact g
 .split at h
  .rename_i q;cases h;have e:=XW q;subst e;show(bif Nat.beq _ _ then _ else _);rw[VL];exact g
  .rename_i q;cases h;show(bif Nat.beq _ _ then _ else _);rw[q];exact g
 .cases h;exact g
 .cases a
 .cases a
 .cases a
 .cases h
def QjF(Tx:TyX)(h0 N:Nat):Nat->Cf->List Kf->Env->Qd->Option (Cf×List Kf×Env×Qd)
 |0,c,k,env,H=>some (c,k,env,H)
 |n+1,c,k,env,H=>match QpY c k with
  |true=>(match Qgm Tx h0 N c k env H with
   |some (c',k',env',H')=>QjF Tx h0 N n c' k' env' H'
   |none=>none)
  |false=>none
theorem QcX{Tx:TyX}(hT:QbM P Tx):∀(n:Nat) {c c':Cf} {k k':List Kf} {env env':Env} {H H':Qd},QjF Tx h0 N n c k env H=some (c',k',env',H')->HdY X P h0 N c' k' env' H' st Q->HdY X P h0 N c k env H st Q
 |0,c,c',k,k',env,env',H,H',h,g=>by cases h;exact g
 |n+1,c,c',k,k',env,env',H,H',h,g=>by
  unfold QjF at h;split at h
  .rename_i hn;split at h
   .rename_i e;exact QmM hT e hn (QcX hT n h g)
   .cases h
  .cases h
theorem TCy.lf{k:List Kf}(h:TC P h0 N c env H (λx env H=>kqY X P h0 N k Q x env H st)):TCy X P h0 N c env H st (kqY X P h0 N k Q):=TCy.lift h
theorem Qkj{all:Array Oper}{o:Oper}{r:List Oper}{d:Nat}{x:T}{l:List T}{e:T->A}{y z:Operand}{k:Array TypeId}(hE:X.enc=λx=>[e x])(j:X.nx=nxL)(f:o.op=.call {callee:=.value y,args:= #[z],argTypes:=k})(m:opA env y=.fn (.yield X.l) [] [])(h:opA env z=e x)(g:Ys (e x)=true)
  (i:WOy X P h0 N all r (up env d (.bool true)) H (.on l) Q)(a:WOy X P h0 N all r (up env d (.bool false)) H (.off l) Q)(hg:Qs all o env true:=by exact rfl)(hd:o.dst=some d:=by exact rfl)(hNd:Nat.blt d N=true:=by exact rfl):WOy X P h0 N all (o::r) env H (.on (x::l)) Q:=by
 refine WOy.yield (x:=x) (rem:=l) (by rw[j];rfl) hg hd hNd ?_ ?_
 .rw[hE];exact Qh7 f m h g
 .intro b;cases b with
  |true=>exact i
  |false=>exact a
theorem WOy.y2{all:Array Oper}{o:Oper}{r:List Oper}{d:Nat}{x:T}{l:List T}{g i:T->A}{y j k:Operand}{s:Array TypeId}(hE:X.enc=λx=>[g x,i x])(q:X.nx=nxL)(n:o.op=.call {callee:=.value y,args:= #[j,k],argTypes:=s})(t:opA env y=.fn (.yield X.l) [] [])(e:opA env j=g x)(a:opA env k=i x)(h:Ys (g x)=true)(f:Ys (i x)=true)
  (p:WOy X P h0 N all r (up env d (.bool true)) H (.on l) Q)(m:WOy X P h0 N all r (up env d (.bool false)) H (.off l) Q)(hg:Qs all o env true:=by exact rfl)(hd:o.dst=some d:=by exact rfl)(hNd:Nat.blt d N=true:=by exact rfl):WOy X P h0 N all (o::r) env H (.on (x::l)) Q:=by
 refine WOy.yield (x:=x) (rem:=l) (by rw[q];rfl) hg hd hNd ?_ ?_
 .rw[hE];exact Qlv n t e a h f
 .intro b;cases b with
  |true=>exact p
  |false=>exact m
end
end Go.Sw
namespace Go.Sw
def yl{T R:Type}(x:T)(k:Option (List T×R)):Option (List T×R):=k.bind λp=>some (x::p.1,p.2)
def ap{T B R:Type}(a:Option (List T×B))(k:B->Option (List T×R)):Option (List T×R):=a.bind λp=>(k p.2).bind λq=>some (p.1++q.1,q.2)
theorem QmG{T R:Type}{x:T}{k:Option (List T×R)}{a:List T}{v:R}(h:yl x k=some (a,v)):∃zs,k=some (zs,v)/\a=x::zs:=by
 obtain⟨⟨zs,e⟩,b,d⟩:=Jy h;cases d;exact⟨zs,b,rfl⟩
theorem Qp7{T B R:Type}{a:Option (List T×B)}{k:B->Option (List T×R)}{d:List T}{v:R}(h:ap a k=some (d,v)):∃y1 b y2,a=some (y1,b)/\k b=some (y2,v)/\d=y1++y2:=by
 obtain⟨⟨y1,b⟩,g,i⟩:=Jy h;obtain⟨⟨y2,j⟩,e,f⟩:=Jy i;cases f;exact⟨y1,b,y2,g,e,rfl⟩
section
variable {T:Type} {X:Ctx T} {P:Program} {h0 N:Nat} {c c':Code} {env:Env} {H:Qd} {st:YSt T} {Q:YG T}
def QoX{β:Type}(h0:Nat)(b:β)(E':β->Env)(H':β->Qd)(rem:List T)(Q:YG T):YG T
 |.normal,env,H,st=>Le h0 env H (E' b) (H' b)/\st=.on rem
 |.exit id,env,H,st=>Q (.exit id) env H st
 |.ret,env,H,st=>Q .ret env H st
theorem Qjf{β:Type}{E':β->Env}{H':β->Qd}(b:β)(rem:List T)(sel keep:List Nat)(nE:β->Env)(nH:β->List (Nat×Blk))(_:∀b,Qoj sel keep (nE b) (nH b) env H=some (E' b,H' b))(h:TCy X P h0 N c env H st (QoX h0 b E' H' rem Q))(k:∀env H,Le h0 env H (E' b) (H' b)->Q .normal env H (.on rem)):TCy X P h0 N c env H st Q:=
 h.mono λx env' H' st' q=>by
  cases x with
  |normal=>obtain⟨q1,rfl⟩:=q;exact k _ _ q1
  |exit id=>exact q
  |ret=>exact q
theorem Qp4{β:Type}{b:β}{E':β->Env}{H':β->Qd}{rem:List T}(h:Le h0 env H (E' b) (H' b)):QoX h0 b E' H' rem Q .normal env H (.on rem):=⟨h,rfl⟩
theorem Qoi{β:Type}{b:β}{E':β->Env}{H':β->Qd}{rem:List T}(h:Q .ret env H st):QoX h0 b E' H' rem Q .ret env H st:=h
theorem Qou{S B:Type}{step:S->Option (List T×Ctl S B)}{E':S->Env}{H':S->Qd}{m:Nat}{s0:S}{ys rem:List T}{b:B}(sel keep:List Nat)(nE:S->Env)(nH:S->List (Nat×Blk))(h:Qb1 step m s0=some (ys,b))(_:∀s,Qoj sel keep (nE s) (nH s) env H=some (E' s,H' s))(hI:Le h0 env H (E' s0) (H' s0))
  (body:∀s zs d rest,step s=some (zs,d)->(∀b',d=.done b'->b'=b/\rest=rem)->TCy X P h0 N c (E' s) (H' s) (.on (zs++rest)) (Qf7 h0 E' H' d rest Q)):TCy X P h0 N (.loop c) env H (.on (ys++rem)) Q:=Qma h hI body
theorem QcH{S B:Type}{E':S->Env}{H':S->Qd}{s:S}{d:Ctl S B}{zs rest:List T}(e:some (([]:List T),Ctl.cont s)=some (zs,d))(h:Le h0 env H (E' s) (H' s)):Qf7 h0 E' H' d rest Q .normal env H (.on (zs++rest)):=by
 cases e;exact⟨s,rfl,h,rfl⟩
theorem Qnu{S B:Type}{id:Nat}{E':S->Env}{H':S->Qd}{d:Ctl S B}{rest:List T}(h:Q (.exit id) env H st):Qf7 h0 E' H' d rest Q (.exit id) env H st:=h
theorem QjO{S B:Type}{E':S->Env}{H':S->Qd}{d:Ctl S B}{rest:List T}(h:Q .ret env H st):Qf7 h0 E' H' d rest Q .ret env H st:=h
theorem Oy{S B:Type}{d:Ctl S B}{x b:B}{zs rest rem:List T}(e:∀b',d=.done b'->b'=b/\rest=rem)(h:some (([]:List T),Ctl.done x)=some (zs,d)):zs=[]/\b=x/\rest=rem:=by
 cases h;obtain⟨a,f⟩:=e x rfl;exact⟨rfl,a.symm,f⟩
theorem Qek{f:FuncId}{fn:Func}{c:Code}{N:Nat}{a:List A}{H:Qd}{enc:T->List A}{xs:List T}(g:P.funcs[f]?=some fn)(d:fn.body=some c)(i:fn.ntmps=N)(e:Nat.ble (a.length+1) N=true)(b:fn.results= #[])
  (h:∀X:Ctx T,X.enc=enc->X.nx=nxL->TCy X P H.length N c (QgX 0 (.fn (.yield X.l) [] []::a)) H (.on (xs++[])) EndY):QhU P f a H enc nxL xs:=by
 rw[Vm]at h;exact Qdl g d i e b h
end
end Go.Sw
namespace Go.Sw
open Go.MapKept
section
variable {fr ro:Nat->Prop} {σ:Sig} {H:Qd} {w:World}
end
end Go.Sw
namespace Go.Sw
open Go.MapKept
def QbO{α β:Type}(ek:α->A)(ev:β->List A)(l:List (α×Option (List β))):List (A×Option (List (List A))):=l.map λp=>(ek p.1,p.2.map (List.map ev))
def QkQ{α β:Type}[DecidableEq α](l:List (α×Option (List β)))(x:α):List (α×Option (List β)):=l.map λp=>bif decide (p.1=x)then(p.1,none)else p
section
variable {P:Program} {kt:TypeId} {α β:Type} [DecidableEq α] {ek:α->A} {ev:β->List A} {ro:Nat->Prop} {w:World} {t k:Nat} (K:Y1 P kt ek)
include K
theorem Qln{x:α}:∀{l:List (α×Option (List β))} {es:List MapEntry},MO ro w t k (QbO ek ev l) es->MO ro w t k (QbO ek ev (QkQ l x)) es
 |[],es,h=>h
 |p::l,es,h=>by
  obtain⟨e,l',rfl,h1,h2,h3⟩:=h;by_cases q:p.1=x
  .refine⟨e,l',rfl,by simpa[q]using h1,λrows hr=>?_,Qln (l:=l) h3⟩;simp[q]at hr
  .refine⟨e,l',rfl,by simpa[q]using h1,λrows hr=>h2 rows (by simpa[q]using hr),Qln (l:=l) h3⟩
omit K
theorem QdW{x:α}{c:Nat}:∀{l:List (α×Option (List β))} {es:List MapEntry},Qev (QbO ek ev (QkQ l x)) es c->Qev (QbO ek ev l) es c
 |[],es,h=>by cases es<;>exact h.elim
 |p::l,[],h=>h.elim
 |p::l,e::es,h=>by
  rcases h with⟨h1,h2⟩|h
  .by_cases q:p.1=x
   .simp[q]at h1
   .exact .inl ⟨by simpa[q]using h1,h2⟩
  .exact .inr (QdW (l:=l) h)
theorem Qmz{x:α}:∀{l:List (α×Option (List β))} {es:List MapEntry},Qky (QbO ek ev l) es->Qky (QbO ek ev (QkQ l x)) es
 |[],es,h=>by cases es<;>trivial
 |p::l,[],h=>trivial
 |p::l,e::es,h=>by
  obtain⟨h1,h2⟩:=h;refine⟨λc q1 q2 q3=>?_,Qmz (l:=l) h2⟩;by_cases q:p.1=x
  .simp[q]at q1
  .exact h1 c (by simpa[q]using q1) q2 (QdW (l:=l) q3)
include K
theorem MO.find:∀{l:List (α×Option (List β))} {es:List MapEntry},MO ro w t k (QbO ek ev l) es->∀(x:α),(es.map (·.key)).Nodup->
  ((∀e:MapEntry,e∈es->e.key≠QO (ek x))->YF l x=none)/\
  (∀(j:Nat) (e:MapEntry),es[j]?=some e->e.key=QO (ek x)->∃q,YF l x=some q/\(∀rows,q=some rows->SO ro w t k (rows.map ev) e.val)/\
   ∀c p n cap,q.isSome=true->e.val=.slice (some ⟨c,p,none⟩) n cap->Qev (QbO ek ev l) es c/\(Qky (QbO ek ev l) es->¬Qev (QbO ek ev (QkQ l x)) es c))
 |[],es,h,x,_=>by
  cases(show es=[]from h);exact⟨λ_=>rfl,λj e he=>by simp at he⟩
 |p::l,es,h,x,hn=>by
  obtain⟨e0,l',rfl,h1,h2,h3⟩:=h;have hk:e0.key=QO (ek p.1):=VR.val (K.scl _) h1;simp only[Vq,List.nodup_cons]at hn;obtain⟨a1,a2⟩:=MO.find (l:=l) h3 x hn.2;by_cases hp:p.1=x
  .subst hp;constructor
   .intro q;exact absurd hk (q e0 (by simp))
   .intro j e he hx;cases j with
    |zero=>
     simp only[XK,Option.some.injEq]at he;subst he;refine⟨p.2,by simp[YF],λrows hr=>h2 (rows.map ev) (by simp[hr]),λc p' n cap hs hv=>⟨.inl ⟨by simpa using hs,p',n,cap,hv⟩,λhd hq=>?_⟩⟩;rcases hq with⟨q1,_⟩|hq
     .simp at q1
     .exact hd.1 c (by simpa using hs) ⟨p',n,cap,hv⟩ (QdW (l:=l) hq)
    |succ j=>
     simp only[XL]at he;exact absurd (hk.trans hx.symm▸VM (f:=λe:MapEntry=>e.key) (VN he)) hn.1
  .have e1:YF (p::l) x=YF l x:=by simp[YF,hp]
   rw[e1];constructor
   .intro q;exact a1 λe he=>q e (by simp[he])
   .intro j e he hx;cases j with
    |zero=>
     simp only[XK,Option.some.injEq]at he;subst he;exact absurd (K.inj _ _ (hk.symm.trans hx)) hp
    |succ j=>
     obtain⟨q,i,d,b⟩:=a2 j e (by simpa using he) hx;refine⟨q,i,d,λc p' n cap hs hv=>?_⟩;obtain⟨a,m⟩:=b c p' n cap hs hv;refine⟨.inr a,λhd hq=>?_⟩;rcases hq with⟨q1,g⟩|hq
     .exact hd.1 c (by simpa[hp]using q1) g a
     .exact m hd.2 hq
end
section
variable {P:Program} {o:Oper} {env:Env} {H:Qd}
variable {T kt et:Nat} {α β:Type} [DecidableEq α] {ek:α->A} {ev:β->List A} {x y:Operand} {i t k:Nat} {l:List (α×Option (List β))} {key:α} {rows:List β}
end
end Go.Sw
namespace Go.Sw
open Go.MapKept
theorem MO.append{ro:Nat->Prop}{w:World}{t k:Nat}:∀{l m:List (A×Option (List (List A)))} {es fs:List MapEntry},MO ro w t k l es->MO ro w t k m fs->MO ro w t k (l++m) (es++fs)
 |[],m,es,fs,h,q=>by cases(show es=[]from h);exact q
 |p::l,m,es,fs,h,q=>by
  obtain⟨e,l',rfl,h1,h2,h3⟩:=h;exact⟨e,l'++fs,rfl,h1,h2,MO.append h3 q⟩
theorem MO.length{ro:Nat->Prop}{w:World}{t k:Nat}:∀{l:List (A×Option (List (List A)))} {es:List MapEntry},MO ro w t k l es->es.length=l.length
 |[],es,h=>by cases(show es=[]from h);rfl
 |p::l,es,h=>by
  obtain⟨e,l',rfl,h1,h2,h3⟩:=h;simp[MO.length h3]
def SlB(v:Value)(c:Nat):Prop:=∃p n cap,v=.slice (some ⟨c,p,none⟩) n cap
section
variable {P:Program} {kt:TypeId} {α β:Type} [DecidableEq α] {ek:α->A} {ev:β->List A} {ro:Nat->Prop} {w:World} {t k:Nat} (K:Y1 P kt ek)
def QdC{α β:Type}[DecidableEq α](l:List (α×Option (List β)))(x:α)(rows:List β):List (α×Option (List β)):=l.map λp=>bif decide (p.1=x)then(p.1,some rows)else p
include K
theorem Qgz{x:α}{rows:List β}:∀{l:List (α×Option (List β))} {es:List MapEntry},MO ro w t k (QbO ek ev l) es->(∀e∈es,e.key≠QO (ek x))->QdC l x rows=l
 |[],es,h,q=>rfl
 |p::l,es,h,q=>by
  obtain⟨e,l',rfl,h1,h2,h3⟩:=h;have hk:e.key=QO (ek p.1):=VR.val (K.scl _) h1;have hp:p.1≠x:=λz=>q e (by simp) (by rw[hk,z]);have:=Qgz (l:=l) h3 (λe he=>q e (by simp[he])) (rows:=rows);simp only[QdC,Vq,decide_false,hp,Vw];rw[show(l.map λp=>bif decide (p.1=x)then(p.1,some rows)else p)=l from this]
theorem MO.put{x:α}{rows:List β}{v:Value}(g:SO ro w t k (rows.map ev) v):∀{l:List (α×Option (List β))} {es:List MapEntry} {j:Nat} {e:MapEntry},MO ro w t k (QbO ek ev l) es->
  (es.map (·.key)).Nodup->es[j]?=some e->e.key=QO (ek x)->
  MO ro w t k (QbO ek ev (QdC l x rows)) (es.modify j λe=>{e with key:=QO (ek x),val:=v})/\
  (∀c,Qev (QbO ek ev (QdC l x rows)) (es.modify j λe=>{e with key:=QO (ek x),val:=v}) c->Qev (QbO ek ev l) es c\/SlB v c)/\
  (Qky (QbO ek ev l) es->(∀c,Qev (QbO ek ev l) es c->¬SlB v c)->Qky (QbO ek ev (QdC l x rows)) (es.modify j λe=>{e with key:=QO (ek x),val:=v}))
 |[],es,j,e,h,hn,he,hk=>by cases(show es=[]from h);simp at he
 |p::l,es,j,e,h,hn,he,hk=>by
  obtain⟨e0,l',rfl,h1,h2,h3⟩:=h;have hk0:e0.key=QO (ek p.1):=VR.val (K.scl _) h1;simp only[Vq,List.nodup_cons]at hn;cases j with
  |zero=>
   simp only[XK,Option.some.injEq]at he;subst he;have hp:p.1=x:=K.inj _ _ (hk0.symm.trans hk);simp only[List.modify_zero_cons];have e0':QdC l x rows=l:=Qgz K h3 λe he z=>hn.1 (by rw[hk, <- z];exact VM he);have e1:QdC (p::l) x rows=(p.1,some rows)::l:=by
    have:QdC (p::l) x rows=(p.1,some rows)::QdC l x rows:=by simp[QdC,hp]
    rw[this,e0']
   rw[e1];refine⟨⟨_,l',rfl,?_,?_,h3⟩,?_,?_⟩
   .show VR ro [] w (ek p.1) (QO (ek x));rw[<- hp];exact Qb7 (K.scl _)
   .intro b r;cases r;exact g
   .rintro c (⟨_,q⟩|q)
    .exact .inr q
    .exact .inl (.inr q)
   .rintro⟨i,d⟩ a;exact⟨λc _ q z=>a c (.inr z) q,d⟩
  |succ j=>
   simp only[XL]at he;have hp:p.1≠x:=by
    intro q;refine hn.1 (Xe.2 ⟨e,VN he,?_⟩);rw[hk,hk0,q]
   simp only[List.modify_succ_cons];obtain⟨u,f,y⟩:=MO.put g h3 hn.2 he hk;have e1:QdC (p::l) x rows=p::QdC l x rows:=by simp[QdC,hp]
   rw[e1];refine⟨⟨_,_,rfl,h1,h2,u⟩,?_,?_⟩
   .rintro c (q|q)
    .exact .inl (.inl q)
    .exact(f c q).imp .inr id
   .rintro⟨i,d⟩ a;refine⟨λc n m z=>?_,y d λc s=>a c (.inr s)⟩;rcases f c z with z|z
    .exact i c n m z
    .exact a c (.inl ⟨n,m⟩) z
end
section
variable {P:Program} {o:Oper} {env:Env} {H:Qd}
variable {T kt et:Nat} {α β:Type} [DecidableEq α] {ek:α->A} {ev:β->List A} {x y zz:Operand} {i j t k n:Nat} {l m:List (α×Option (List β))} {key:α} {rows:List β}
end
end Go.Sw
namespace Go.Sw
open Go.MapKept
section
variable {fr ro:Nat->Prop} {σ:Sig} {H:Qd} {w:World}
theorem MO.er{t k:Nat}:∀{es:List (A×Option (List (List A)))} {l:List MapEntry},MO ro w t k es l->ER ro [] w (es.map λe=>(e.1,.any)) l
 |[],_,h=>h
 |x::r,_,⟨e,l',h1,h2,h3,h4⟩=>⟨e,l',h1,h2,trivial,MO.er h4⟩
end
section
variable {P:Program} {o:Oper} {env:Env} {H:Qd} {T kt et i t k:Nat} {x:Operand} {es:List (A×Option (List (List A)))}
end
section
variable {P:Program} {o:Oper} {env:Env} {H:Qd}
variable {T kt et:Nat} {α β:Type} [DecidableEq α] {ek:α->A} {ev:β->List A} {x y zz:Operand} {i j t k n:Nat} {l m:List (α×Option (List β))} {key:α} {rows:List β}
end
end Go.Sw
namespace Go.Sw
open Go.MapKept
section
variable {P:Program} {o:Oper} {env:Env} {H:Qd}
variable {T kt et:Nat} {α β:Type} [DecidableEq α] {ek:α->A} {ev:β->List A} {x y zz:Operand} {i j t k n:Nat} {l m:List (α×Option (List β))} {key:α} {rows:List β}
end
end Go.Sw
namespace Go.Sw
abbrev Kat:=List (Nat×Nat×Nat)
def QmJ:Nat->Nat->List (Nat×Nat)
 |lo,0=>[(lo,lo)]
 |lo,n+1=>(lo,lo)::QmJ (lo+1) n
def rgK(p:Nat×Nat×Nat):List (Nat×Nat):=bif Nat.beq p.1 1 then[(p.2.1,p.2.1+1)]else QmJ p.2.1 (p.2.2-p.2.1)
def plK(cat:Kat):List (List (Nat×Nat)):=cat.map rgK
def rqK(bs:List Nat)(cat:Kat):List (List Nat):=cat.map λp=>bs.take p.2.1
def hsK(cat:Kat):List Bool:=cat.map λp=>Nat.beq p.1 1
def msK(bs:List Nat):List (List Nat):=(List.range (bs.length+1)).map bs.take
theorem Qhi:∀(n lo:Nat),∀p∈QmJ lo n,p.1=p.2
 |0,lo,p,h=>by cases h with|head=>rfl|tail _ h=>cases h
 |n+1,lo,p,h=>by
  rcases Vc.1 h with rfl|h
  .rfl
  .exact Qhi n _ p h
section
variable {P:Program} {T:TyX} {h0 N m:Nat} {bs:List Nat} {cat:Kat} {l:List Oper} {ds:List Nat} {env:Env} {H:Qd} {Hs:List Qd} {Q:QB} {K:List Oper->Env->Qd->Prop}
def DobK(P:Program)(N:Nat)(cat:Kat)(l:List Oper)(ds:List Nat)(env:Env)(n:Nat)(Hs:List Qd)(zs:List A)(j:Nat):Prop:=
 ∀p∈(plK cat).getD j [],Jz P N l ds zs env n n j (Hs.getD p.1 []) (Hs.getD p.2 [])
def DK(P:Program)(N m:Nat)(bs:List Nat)(cat:Kat)(l:List Oper)(ds:List Nat)(env:Env)(n:Nat)(K:List Oper->Env->Qd->Prop)(Hs:List Qd)(X:Qd)(r:List Oper)(xs:List A):Prop:=
 r=l.drop xs.length->∃ys Zs Y,xs.length+ys.length=m/\Hs.length+Zs.length=bs.length/\((∀Z∈Zs,n<=Z.length)/\(Hs.reverse++X::Zs).getD bs.length []=Y)/\(∀j,xs.length<=j->j<m->DobK P N cat l ds env n (Hs.reverse++X::Zs) (xs++ys) j)/\K (l.drop m) (Qaz ds (xs++ys) env) Y
theorem Qq9{f:List A}{n:Nat}{Zs:List Qd}(a:cat.length=m)(g:∀j,0<=j->j<m->DobK P N cat l ds env n Zs f j):Qh0 P N l ds f env n (n+0) 0 ((plK cat).map λq=>q.map λp=>(Zs.getD p.1 [],Zs.getD p.2 [])):=by
 refine QhZ _ 0 λi s b p k=>?_;rw[Xq]at b;cases e:(plK cat)[i]? with
 |none=>rw[e]at b;cases b
 |some q=>
  rw[e]at b;cases b;obtain⟨h,d,rfl⟩:=Xe.1 k;have r:i<m:=by
   have:=(XR.1 e).1;simpa[plK,a]using this
  have:=g i (X0 _) r h (by rw[Qk2 e];exact d);simpa using this
theorem QoU{id:Nat}(m:Nat)(d:List Nat)(cat:Kat)(t:P.follows .mixedOrders=true)(u:Qef l m N (Qbk m 0 l) (hsK cat) (rqK d cat) (msK d) (plK cat)=true)(i:Nat.beq cat.length m=true)(f:Nat.ble h0 H.length=true)
  (h:DK P N m d cat l (Qbk m 0 l) env H.length (λr e H=>WO P h0 N l.toArray r e H Q) [] H l []):TC P h0 N (.region id l.toArray true) env H Q:=by
 obtain⟨s,Zs,Y,p,q,g,n,k⟩:=h rfl;simp only[List.length_nil,XA,Vn,List.reverse_nil]at p q g n k;have a:=XW i;have b:(msK d).length=d.length+1:=by simp[msK]
 refine YY m 0 _ _ _ _ _ s (H::Zs) Y t u (by rw[p];exact VL m) (by rw[b];simp[q]) f ?_ (by simp) (by rw[b];exact g.2) (Qq9 a n) (by simp[plK,a]) k;rw[Xv];intro Z j;rcases Vc.1 j with rfl|j
 .exact XY (XZ _)
 .exact XY (g.1 Z j)
variable {n:Nat} {X X1:Qd} {xs:List A} {o:Oper} {r:List Oper} {x:A} {d:Nat}
theorem DK.done(f:Nat.beq xs.length m=true)(b:Nat.beq Hs.length bs.length=true)(h:K r (Qaz ds xs env) X):DK P N m bs cat l ds env n K Hs X r xs:=by
 intro d;have e:=XW f;have a:=XW b;subst d;refine⟨[],[],X,by simpa using e,by simpa using a,⟨(λZ hZ=>by cases hZ),?_⟩,λj i g=>by omega,?_⟩
 .rw[<- a,VS,XT (by simp)];simp
 .rw[<- e,Vm];exact h
theorem DK.add(i:∀ys Zs,l[xs.length]?=some o->DobK P N cat l ds env n (Hs.reverse++X::Zs) (xs++x::ys) xs.length)(k:DK P N m bs cat l ds env n K Hs X r (xs++[x])):DK P N m bs cat l ds env n K Hs X (o::r) xs:=by
 intro e;obtain⟨f,a⟩:=Qbl e;obtain⟨ys,Zs,Y,p,s,g,d,b⟩:=k (by simpa using a);simp only[X8,X6,List.length_nil,Vp,VQ,Vn]at p d b;refine⟨x::ys,Zs,Y,by simp only[X6];omega,s,g,λj t h=>?_,b⟩;rcases VI xs.length j with q|q
 .exact d j (by omega) h
 .obtain rfl:j=xs.length:=by omega
  exact i ys Zs f
theorem QeK{Zs:List Qd}{zs:List A}{j:Nat}{c:Nat×Nat×Nat}(b:YX cat j=some c)(h:∀p∈rgK c,Jz P N l ds zs env n n j (Zs.getD p.1 []) (Zs.getD p.2 [])):DobK P N cat l ds env n Zs zs j:=by
 intro p a;rw[QaG]at b;unfold plK at a;rw[VS,Xq,b]at a;exact h p a
theorem QhA{Zs:List Qd}{c:Nat}(a:Nat.beq c Hs.length=true):(Hs.reverse++X::Zs).getD c []=X:=by
 rw[XW a,VS,XT (by simp)];simp
theorem DK.wo{c:Nat}(h:WO P X.length N l.toArray [o] (Yj (Qj o) 0 ds xs env) X (Y8 (up (Yj (Qj o) 0 ds xs env) d x) X))(k:DK P N m bs cat l ds env n K Hs X r (xs++[x]))
  (b:YX cat xs.length=some (0,c,c):=by exact rfl)(hd:o.dst=some d:=by exact rfl)(hcH:Nat.beq c Hs.length=true:=by exact rfl):DK P N m bs cat l ds env n K Hs X (o::r) xs:=
 .add (λys Zs ho=>QeK b λp a=>by
  have:p=(c,c):=by
   change p∈QmJ c (c-c)at a;rw[Nat.sub_self]at a;exact VH.1 a
  subst this;rw[QhA hcH];exact QaE ho Je h hd) k
theorem DK.wa{lo hi:Nat}(h:∀X,WO P X.length N l.toArray [o] (Yj (Qj o) 0 ds xs env) X (Y8 (up (Yj (Qj o) 0 ds xs env) d x) X))(k:DK P N m bs cat l ds env n K Hs X r (xs++[x]))
  (a:YX cat xs.length=some (0,lo,hi):=by exact rfl)(hd:o.dst=some d:=by exact rfl):DK P N m bs cat l ds env n K Hs X (o::r) xs:=
 .add (λys Zs ho=>QeK a λp b=>by
  have e:p.1=p.2:=Qhi _ _ p b;rw[<- e];exact QaE ho Je (h _) hd) k
theorem DK.op{c u:Nat}(h:WO P X.length N l.toArray [o] (Yj (Qj o) 0 ds xs env) X (Y8 (up (Yj (Qj o) 0 ds xs env) d x) X1))(k:DK P N m bs cat l ds env n K (X::Hs) X1 r (xs++[x]))(hl:Nat.ble n X1.length=true:=by exact rfl)
  (hc:YX cat xs.length=some (1,c,u):=by exact rfl)(hd:o.dst=some d:=by exact rfl)(hcH:Nat.beq c Hs.length=true:=by exact rfl):DK P N m bs cat l ds env n K Hs X (o::r) xs:=by
 intro s;obtain⟨i,e⟩:=Qbl s;obtain⟨t,Zs,Y,B,F,a,g,f⟩:=k (by simpa using e);simp only[X8,X6,List.length_nil,Vp,VQ,Vn,List.reverse_cons]at B F a g f;refine⟨x::t,X1::Zs,Y,by simp only[X6];omega,by simp only[X6];omega,⟨λZ b=>?_,a.2⟩,λj G w=>?_,f⟩
 .rcases Vc.1 b with rfl|b
  .exact XX hl
  .exact a.1 Z b
 .rcases VI xs.length j with q|q
  .exact g j (by omega) w
  .obtain rfl:j=xs.length:=by omega
   refine QeK hc λp z=>?_;have:p=(c,c+1):=VH.1 z;subst this;have y:(Hs.reverse++X::X1::Zs).getD c []=X:=QhA hcH;have E:(Hs.reverse++X::X1::Zs).getD (c+1) []=X1:=by
    have:=QhA (X:=X1) (Zs:=Zs) (Hs:=X::Hs) (c:=c+1) (by rw[XW hcH];exact VL _);simpa using this
   simp only;rw[y,E];exact QaE i Je h hd
def Qe0(T:TyX)(N m:Nat)(cat:Kat)(l:List Oper)(ds:List Nat)(env:Env)(n:Nat):Nat->Nat->Nat->List Qd->Qd->List Oper->List A->Option (List Qd×List Oper×List A)
 |0,_,_,Hs,X,r,xs=>some (Hs,r,xs)
 |_+1,_,_,_,_,[],_=>none
 |k+1,i,j,Hs,X,o::r,xs=>match o.dst with
  |none=>none
  |some d=>match Nat.blt d N with
   |false=>none
   |true=>match Y0 ⟨l⟩ o (Yj (Qj o) 0 ds xs env)with
    |none=>none
    |some false=>(match QcN xs (.tup [])with
      |.mk xs'=>match YX cat i with
       |some (0,_,_)=>Qe0 T N m cat l ds env n k (i+1) j Hs X r xs'
       |some (1,c,_)=>(match Nat.beq c j,Nat.ble n X.length with
        |true,true=>Qe0 T N m cat l ds env n k (i+1) (j+1) (X::Hs) X r xs'
        |_,_=>none)
       |_=>none)
    |some true=>match YX cat i with
     |some (0,lo,hi)=>(match Qdw T o (Yj (Qj o) 0 ds xs env) []with
      |some x=>(match QcN xs x with
       |.mk xs'=>Qe0 T N m cat l ds env n k (i+1) j Hs X r xs')
      |none=>match Nat.beq lo hi,Nat.beq lo j with
       |true,true=>(match Qdw T o (Yj (Qj o) 0 ds xs env) X with
        |none=>none
        |some x=>match QcN xs x with
         |.mk xs'=>Qe0 T N m cat l ds env n k (i+1) j Hs X r xs')
       |_,_=>none)
     |_=>none
theorem QbU(hT:QbM P T):∀(k i j:Nat) {Hs Hs':List Qd} {r r':List Oper} {xs xs':List A},i=xs.length->j=Hs.length->Qe0 T N m cat l ds env n k i j Hs X r xs=some (Hs',r',xs')->DK P N m bs cat l ds env n K Hs' X r' xs'->DK P N m bs cat l ds env n K Hs X r xs
 |0,i,j,Hs,Hs',r,r',xs,xs',_,_,h,k=>by cases h;exact k
 |k0+1,i,j,Hs,Hs',[],r',xs,xs',_,_,h,k=>by cases h
 |k0+1,i,j,Hs,Hs',o::r,r',xs,xs',hi,hj,h,k=>by
  subst hi hj;unfold Qe0 at h;split at h
  .cases h
  .rename_i d hd;split at h
   .cases h
   .rename_i q2;split at h
    .cases h
    .rename_i hw;simp only[Jf]at h;split at h
     .rename_i lo hi' q0;exact .wa (λX=>WO.skip (QR hw) hd q2 (WO.nil Y8.mk)) (QbU hT k0 _ _ (by simp) rfl h k) q0 hd
     .rename_i c c' q0;split at h
      .rename_i q1 q3;exact .op (WO.skip (QR hw) hd q2 (WO.nil Y8.mk)) (QbU hT k0 _ _ (by simp) (by simp) h k) q3 q0 hd q1
      .cases h
     .cases h
    .rename_i hw;split at h
     .rename_i lo hi' q0;split at h
      .rename_i x hv;simp only[Jf]at h;exact .wa (λX=>QF (QR hw) hd q2 (QaA hT (QeO hv)) (WO.nil Y8.mk)) (QbU hT k0 _ _ (by simp) rfl h k) q0 hd
      .split at h
       .rename_i q1 q3;split at h
        .cases h
        .rename_i x hv;simp only[Jf]at h;obtain rfl:=XW q1;exact .wo (QF (QR hw) hd q2 (QaA hT hv) (WO.nil Y8.mk)) (QbU hT k0 _ _ (by simp) rfl h k) q0 hd q3
       .cases h
     .cases h
theorem DK.v(h:OpV P o (Yj (Qj o) 0 ds xs env) X x)(k:DK P N m bs cat l ds env n K Hs X r (xs++[x])){c:Nat}(hg:Y0 ⟨l⟩ o (Yj (Qj o) 0 ds xs env)=some true:=by exact rfl)
  (hd:o.dst=some d:=by exact rfl)(hN:Nat.blt d N=true:=by exact rfl)(hc:YX cat xs.length=some (0,c,c):=by exact rfl)(hcH:Nat.beq c Hs.length=true:=by exact rfl):DK P N m bs cat l ds env n K Hs X (o::r) xs:=
 .wo (QF (QR hg) hd hN h (WO.nil Y8.mk)) k hc hd hcH
def allV(T:TyX)(o:Oper)(e:Env)(x:A):Nat->List Qd->Prop
 |0,_=>True
 |k+1,Y::r=>Qdw T o e Y=some x/\allV T o e x k r
 |_+1,[]=>False
theorem QkE:∀(n lo:Nat),∀p∈QmJ lo n,lo<=p.1/\p.1<=lo+n
 |0,lo,p,h=>by cases h with|head=>exact⟨XZ _,XZ _⟩|tail _ h=>cases h
 |n+1,lo,p,h=>by
  rcases Vc.1 h with rfl|h
  .exact⟨XZ _,Nat.le_add_right _ _⟩
  .have:=QkE n _ p h;omega
def allW(P:Program)(N:Nat)(l:List Oper)(o:Oper)(e:Env)(d:Nat)(x:A):Nat->List Qd->Prop
 |0,_=>True
 |k+1,Y::r=>WO P Y.length N l.toArray [o] e Y (Y8 (up e d x) Y)/\allW P N l o e d x k r
 |_+1,[]=>False
theorem Qlk{e:Env}:∀{k:Nat} {r:List Qd},allW P N l o e d x k r->∀j,j<k->WO P (r.getD j []).length N l.toArray [o] e (r.getD j []) (Y8 (up e d x) (r.getD j []))
 |0,_,_,j,hj=>absurd hj (Xn _)
 |k+1,[],h,_,_=>h.elim
 |k+1,Y::r,h,0,_=>h.1
 |k+1,Y::r,h,j+1,hj=>by
  have:=Qlk h.2 j (by omega);simpa using this
theorem DK.ws{lo hi:Nat}(h:allW P N l o (Yj (Qj o) 0 ds xs env) d x (hi+1-lo) (X::Hs))(k:DK P N m bs cat l ds env n K Hs X r (xs++[x]))
  (i:YX cat xs.length=some (0,lo,hi):=by exact rfl)(hd:o.dst=some d:=by exact rfl)(hcH:Nat.beq hi Hs.length=true:=by exact rfl)(hle:Nat.ble lo hi=true:=by exact rfl):DK P N m bs cat l ds env n K Hs X (o::r) xs:=
 .add (λys Zs ho=>QeK i λp b=>by
  have e:p.1=p.2:=Qhi _ _ p b;have a:=XX hle;have s:lo<=p.1/\p.1<=lo+(hi-lo):=QkE (hi-lo) lo p b;have j:=XW hcH;rw[<- e];have f:=Qlk h (Hs.length-p.1) (by omega);have g:(Hs.reverse++X::Zs).getD p.1 []=(X::Hs).getD (Hs.length-p.1) []:=by
   rw[VS,VS];congr 1;rcases VI p.1 Hs.length with q|q
   .rw[XS (by simpa using q),List.getElem?_reverse q,show Hs.length-p.1=Hs.length-1-p.1+1 by omega,XL]
   .have:p.1=Hs.length:=by omega
    rw[this,XT (by simp)];simp
  rw[g];exact QaE ho Je f hd) k
theorem DK.vs(j:QbM P T){lo hi:Nat}(h:allV T o (Yj (Qj o) 0 ds xs env) x (hi+1-lo) (X::Hs))(k:DK P N m bs cat l ds env n K Hs X r (xs++[x]))
  (g:YX cat xs.length=some (0,lo,hi))(e:o.dst=some d)(b:Nat.beq hi Hs.length=true)(hg:Y0 ⟨l⟩ o (Yj (Qj o) 0 ds xs env)=some true)(i:Nat.blt d N=true)(a:Nat.ble lo hi=true):DK P N m bs cat l ds env n K Hs X (o::r) xs:=by
 refine DK.ws ?_ k g e b a;generalize hi+1-lo=c at h;generalize X::Hs=L at h
 induction c generalizing L with
 |zero=>trivial
 |succ c f=>
  cases L with
  |nil=>exact h.elim
  |cons Y L=>exact⟨QF (QR hg) e i (QaA j h.1) (WO.nil Y8.mk),f L h.2⟩
end
end Go.Sw
namespace Go.Sw
def room(n:Int):Option Nat:=bif decide (0<n)&&decide (n<=4294967296)then some n.toNat else none
section
variable {P:Program} {o:Oper} {env:Env} {H:Qd}
theorem Qkw{h0 i:Nat}{x x':Blk}(hH:H[i]?=some x)(e:x=x'):Le h0 env H env (H.set i x'):=by
 subst e;obtain⟨b,a⟩:=XR.1 hH;rw[<- a,List.set_getElem_self];exact Le.refl _ _ _
theorem RL.put{ro:Nat->Prop}{σ:Sig}{w:World}{k:Nat}:∀{a:Nat} {es fs:List (List A)} {l m:List Value},RL ro σ w k es l->a+fs.length<=es.length->Sw.allK k fs->LR ro σ w fs.flatten m->(∀v∈m,Qp v)->
  RL ro σ w k (es.take a++fs++es.drop (a+fs.length)) (Sw.splice l (a*k) m)
 |0,es,[],l,m,h,hn,hk,hm,hp=>by
  obtain rfl:m=[]:=hm;simpa[Sw.splice]using h
 |0,[],f::fs,l,m,h,hn,hk,hm,hp=>by simp at hn
 |0,c::es,f::fs,l,m,⟨l1,l2,h1,h2,h3,h4⟩,hn,hk,hm,hp=>by
  subst h1;have hl1:=h3.1.length;have hml:=hm.length;rw[Vs,X8]at hml;have e1:m.take k++m.drop k=m:=XE _ _;have q1:LR ro σ w f (m.take k):=by have:=hm.take k;rwa [Vs,Vd (by rw[hk.1];exact XZ _),VO (by rw[hk.1];exact XZ _)]at this
  have g:LR ro σ w fs.flatten (m.drop k):=by have:=hm.drop k;rwa [Vs,Ve (by rw[hk.1];exact XZ _),List.drop_of_length_le (by rw[hk.1];exact XZ _),Vn]at this
  have b:=RL.put (a:=0) h4 (by simpa using hn) hk.2 g (λv d=>hp v (List.mem_of_mem_drop d));simp only[List.take_zero,Vn,XA,Nat.zero_mul,Sw.splice]at b⊢;refine⟨m.take k,m.drop k++l2.drop (m.drop k).length,?_,hk.1,⟨q1,λv d=>hp v (List.mem_of_mem_take d)⟩,by simpa using b⟩;have i:k<=m.length:=by rw[hml,hk.1];exact Nat.le_add_right _ _
  rw[<- Vp,e1];congr 1;rw[XD,show m.length=l1.length+(m.length-k)from by omega,Vg];have e:l1.length+(m.length-k)-k=m.length-k:=by omega
  rw[e]
 |a+1,[],fs,l,m,h,hn,hk,hm,hp=>by simp at hn
 |a+1,c::es,fs,l,m,⟨l1,l2,h1,h2,h3,h4⟩,hn,hk,hm,hp=>by
  subst h1;have hl1:=h3.1.length;have b:=RL.put (a:=a) h4 (by simp at hn;omega) hk hm hp;refine⟨l1,Sw.splice l2 (a*k) m,?_,h2,h3,?_⟩
  .have e1:(a+1)*k=l1.length+a*k:=by rw[Xm];omega
   unfold Sw.splice;rw[e1,Vh,show l1.length+a*k+m.length=l1.length+(a*k+m.length)from by omega,Vg];simp
  .have j:a+1+fs.length=(a+fs.length)+1:=by omega
   simpa[j]using b
def Qmc(P:Program)(H:Qd)(x:A)(k:Nat)(es:List (List A)):Prop:=
 ∀fr ro σ w v,Sim fr ro σ H w->VR ro σ w x v->(∃a c,v=.slice a es.length c)/\
  ∀j,j<=es.length->allK k (es.take j)/\ ∃l,(Builtin.firstCells k j v).run P w=.ok l.toArray w/\LR ro [] w (es.take j).flatten l/\ ∀v∈l,Qp v
theorem QeX{fr ro:Nat->Prop}{σ:Sig}{w:World}{k j b off n c:Nat}{es:List (List A)}(h:RR ro [] w b k es off)(e:j<=es.length):
  allK k (es.take j)/\ ∃l,(Builtin.firstCells k j (.slice (some ⟨b,off,none⟩) n c)).run P w=.ok l.toArray w/\LR ro [] w (es.take j).flatten l/\ ∀v∈l,Qp v:=by
 obtain⟨f,d,a⟩:=(h.take j).flat;rw[XC,XG e]at a;obtain⟨l,g,i⟩:=Qcb (P:=P) (n:=j) (c:=c) f a;refine⟨d,l,?_,i⟩;exact g w rfl
theorem QcD{k n c:Nat}{a:Option Addr}{w:World}:(Builtin.firstCells k 0 (.slice a n c)).run P w=.ok #[] w:=by
 cases a<;>simp[Builtin.firstCells,loadCells,loadCellsFrom,go_sem]
theorem QpH{α:Type}{e:α->List A}{k:Nat}{l:List α}:Qmc P H (.rsl k (l.map e)) k (l.map e):=by
 intro fr i σ w v s ⟨a,c,h1,h2,d⟩;subst h1;refine⟨⟨a,c,rfl⟩,λj f=>?_⟩;rcases d with d|⟨b,h,rfl,m,g⟩
 .rw[d]at f⊢;obtain rfl:j=0:=by simpa using f
  exact⟨trivial,[],QcD,rfl,by simp⟩
 .exact QeX (fr:=fr) (σ:=σ) g f
theorem Qmc.osl{i s n k t:Nat}{es es':List (List A)}(hH:H[i]?=some (.row t k es))(he:(es.drop s).take n=es')(E:s+n<=es.length):Qmc P H (.osl i s n k) k es':=by
 intro fr F σ w v sm h;have d:es'.length=n:=by rw[<- he];simp;omega
 rcases h with⟨rfl,rfl⟩|⟨b,p,a,J,m,y,rfl,z,⟨G,q⟩,L,B⟩
 .have e:es'=[]:=VP.1 d;subst e;refine⟨⟨none,0,rfl⟩,λj f=>?_⟩;obtain rfl:j=0:=by simpa using f
  exact⟨trivial,[],QcD,rfl,by simp⟩
 .rw[d];refine⟨⟨_,a,rfl⟩,λj f=>?_⟩;obtain⟨l,u,r⟩:=sm.blk i _ _ y hH;have g:=((YV (pre:=[]) (by simpa using u) r).drop s).take n;rw[he]at g;by_cases x:0<a
  .obtain rfl:=z x;simpa using QeX (P:=P) (fr:=fr) (σ:=σ) (n:=n) (c:=a) g (by rw[d];exact f)
  .obtain rfl:j=0:=by omega
   exact⟨trivial,[],QcD,rfl,by simp⟩
theorem QpI{α:Type}{e:α->List A}{b t k:Nat}{l r:List α}{a c:Int}(h:slc l a c=some r)(hH:H[b]?=some (.row t k (l.map e)):=by exact rfl):Qmc P H (.osl b (0+a.toNat) (c.toNat-a.toNat) k) k (r.map e):=by
 obtain⟨g,f,i,d⟩:=Qdy h;refine Qmc.osl hH ?_ (by rw[X7];omega);rw[<- d, <- List.map_drop, <- List.map_take,XA,List.drop_take]
def cpy{α:Type}(l:List α)(a c:Int)(m:List α):Option (List α):=some (l.take a.toNat++m.take (c.toNat-a.toNat)++l.drop (a.toNat+min m.length (c.toNat-a.toNat)))
theorem QeD{α:Type}{l r l' m:List α}{a c:Int}(h:slc l a c=some r)(b:cpy l a c m=some l'):l.length=l'.length:=by
 obtain⟨e,d,f,_⟩:=Qdy h;rw[<- X5 b];simp only[X8,XC,XD];omega
theorem QfO{α:Type}{l l' m:List α}(a:cpy l 0 (l.length:Int) m=some l'):l.length=l'.length:=by
 rw[<- X5 a];simp only[X8,XC,XD];simp;omega
theorem Qg8{α:Type}{e:α->List A}{c:Call}{T T' et k b a n t:Nat}{x y:Operand}{ya:A}{l m l':List α}(ab:a+n<=l.length)(Q:l.take a++m.take n++l.drop (a+min m.length n)=l')(hT:∀w,(underlying T).run P w=.ok (.slice et) w)(B:∀w,(sizeOf et).run P w=.ok k w)(V:Qmc P H ya k (m.map e))
  (ho:o.op=.call c)(hc:c={callee:=.builtin .copy,args:= #[x,y],argTypes:= #[T,T']})(hx:opA env x=.osl b a n k)(hH:H[b]?=some (.row t k (l.map e)))(X:opA env y=ya):
  OpH P o env H (.int .i64 (min m.length n:Nat)) (H.set b (.row t k (l'.map e))):=by
 intro fr G σ N ac w r;have u:=Qg r x;rw[hx]at u;have h2:=Qg r y;rw[X]at h2;obtain⟨⟨ay,cy,W⟩,q2⟩:=V fr G σ w _ r.sim h2;rw[X7]at W q2;obtain⟨q3,J,M,O,q6⟩:=q2 (min m.length n) (Nat.min_le_left _ _);have d:((m.map e).take (min m.length n)).length=min m.length n:=by rw[XC,X7];omega
 have F:l'.map e=(l.map e).take a++(m.map e).take (min m.length n)++(l.map e).drop (a+((m.map e).take (min m.length n)).length):=by
  rw[d, <- Q,Xf,Xf, <- List.map_take, <- List.map_take, <- List.map_drop];have e2:m.take (min m.length n)=m.take n:=by
   by_cases q:m.length<=n
   .rw[XG q,Vf,VO q]
   .rw[Nat.min_eq_right (by omega)]
  rw[e2]
 have f:(Builtin.copy_ #[T,T'] o.type #[ac.eval x,ac.eval y]).run P w=.ok (.int .i64 (min m.length n:Nat)) w->min m.length n=0->
   ∃v w' ro' τ,(execOp ac.eval o).run P w=.ok (.value v) w'/\VR ro' (σ++τ) w' (.int .i64 (min m.length n:Nat)) v/\Sim fr ro' (σ++τ) (H.set b (.row t k (l'.map e))) w'/\Qh fr G w ro' w':=by
  intro g hz;have V:H.set b (.row t k (l'.map e))=H:=by
   have:l'.map e=l.map e:=by rw[F,d,hz];simp
   rw[this];obtain⟨hb,hv⟩:=XR.1 hH;rw[<- hv,List.set_getElem_self]
  refine⟨_,w,G,[],?_,rfl,by simpa[V]using r.sim,Qh.refl _ _ _⟩;subst hc;generalize ac.eval=ρ at*;simp only[execOp,ho,resolve,Vt,Vu,Result.andThen,invoke,builtin,XO,Vq,Vr,g]
 have z:∀j:Nat,goInt j=.int .i64 j:=λ_=>rfl;rcases u with⟨L,u⟩|⟨bb,p,ae,t',mm,u,h3,h4,⟨h5,ag⟩,h6,h7⟩
 .refine f ?_ (by omega);rw[W]at M⊢;rw[u];have:Nat.min m.length 0=min m.length n:=by rw[L]
  simp only[Builtin.copy_,XM,XK,XL,Vt,hT,B,Result.andThen,Builtin.lenOf,Vu,this,M,z]
 .have h:∀R:Result Unit,(storeCells ⟨bb,p,none⟩ J).run P w=R->(Builtin.copy_ #[T,T'] o.type #[ac.eval x,ac.eval y]).run P w=R.andThen λ_ w=>.ok (.int .i64 (min m.length n:Nat)) w:=by
   intro R hR;rw[W]at M⊢;rw[h3];have:Nat.min m.length n=min m.length n:=rfl;simp only[Builtin.copy_,XM,XK,XL,Vt,hT,B,Result.andThen,Builtin.lenOf,Vu,this,M,z,hR]
  by_cases L:min m.length n=0
  .have s:J=[]:=by
    have:=O.length;rw[L]at this;exact VP.1 (by simpa using this)
   refine f ?_ L;have:=h (.ok () w) (by rw[s];rfl);rw[this];rfl
  .obtain rfl:=h4 (by omega);obtain⟨l0,g1,g2⟩:=r.sim.blk b _ _ u hH;have aa:=g2.length;have s:=O.length;rw[Yz q3,d]at s;have af:a*k+(min m.length n)*k<=l0.length:=by
    rw[<- XF];refine X2 (XH k ?_) aa;rw[X7];omega
   have E:=Yb (P:=P) (vs:=J) (a*k) 0 g1 (by omega) q6;rw[XB]at E;have g:=h _ E;have i:=r.sim.set (x':=.row t k (l'.map e)) (obj:=.cells (splice l0 (a*k) J).toArray t (0,0)) u hH rfl
    (λy X=>Jt g1 (Ya (by omega)) y X)
    (λex Y=>⟨_,Y,by
     rw[F];exact(RL.put g2 (by rw[d,X7];omega) q3 O q6).mono ex.nil⟩)
   refine⟨_,_,G,[],?_,rfl,by simpa using i.1,i.2⟩;subst hc;generalize ac.eval=ρ at*;simp only[execOp,ho,resolve,Vt,Vu,Result.andThen,invoke,builtin,XO,Vq,Vr,g]
theorem Qmr{α:Type}{e:α->List A}{c:Call}{T T' et k b t:Nat}{x y:Operand}{ya:A}{l m l':List α}(h:cpy l 0 (l.length:Int) m=some l')(g:∀w,(underlying T).run P w=.ok (.slice et) w)(a:∀w,(sizeOf et).run P w=.ok k w)(f:Qmc P H ya k (m.map e))
  (d:o.op=.call c:=by exact rfl)(hc:c={callee:=.builtin .copy,args:= #[x,y],argTypes:= #[T,T']}:=by exact rfl)(hx:opA env x=.osl b 0 l.length k:=by exact rfl)(hH:H[b]?=some (.row t k (l.map e)):=by exact rfl)(hy:opA env y=ya:=by exact rfl):
  OpH P o env H (.int .i64 (min m.length l.length:Nat)) (H.set b (.row t k (l'.map e))):=by
 refine Qg8 (Nat.le_of_eq (XA _)) ?_ g a f d hc hx hH hy;rw[<- X5 h];rfl
theorem Qms{α:Type}{e:α->List A}{c:Call}{T T' et k b t:Nat}{x y:Operand}{ya:A}{l p m l':List α}{i j:Int}(hi:slc l i j=some p)(h:cpy l i j m=some l')(n:∀w,(underlying T).run P w=.ok (.slice et) w)(d:∀w,(sizeOf et).run P w=.ok k w)(g:Qmc P H ya k (m.map e))
  (f:o.op=.call c:=by exact rfl)(hc:c={callee:=.builtin .copy,args:= #[x,y],argTypes:= #[T,T']}:=by exact rfl)(hx:opA env x=.osl b (0+i.toNat) (j.toNat-i.toNat) k:=by exact rfl)(hH:H[b]?=some (.row t k (l.map e)):=by exact rfl)(hy:opA env y=ya:=by exact rfl):
  OpH P o env H (.int .i64 (min m.length (j.toNat-i.toNat):Nat)) (H.set b (.row t k (l'.map e))):=by
 obtain⟨s,u,q,r⟩:=Qdy hi;refine Qg8 (a:=i.toNat) (by omega) (X5 h) n d g f hc ?_ hH hy;rw[hx,XA]
end
end Go.Sw
namespace Go.Sw
open Go.MapKept
section
variable {fr ro ro':Nat->Prop} {σ:Sig} {H:Qd} {w:World}
end
end Go.Sw
namespace Go.Sw
theorem gd20{α:Type}{n:Int}{x:Option α}{r:α}(h:(bif decide (n<20)then x else none)=some r):decide (20<=n)=false/\decide (20<n)=false/\x=some r:=by
 cases q:decide (n<20)with
 |false=>rw[q]at h;cases h
 |true=>
  rw[q]at h;have:=VB q;exact⟨VD (by omega),VD (by omega),h⟩
def Qc6{α:Type}(l:List α)(o:Option (List α)):Option (List α):=o.bind λr=>bif Nat.beq l.length r.length then some r else none
theorem Qiz{α:Type}{l r:List α}{o:Option (List α)}(h:Qc6 l o=some r):o=some r/\l.length=r.length:=by
 cases o with
 |none=>cases h
 |some x=>
  have a:(bif Nat.beq l.length x.length then some x else none)=some r:=h;cases q:Nat.beq l.length x.length with
  |false=>rw[q]at a;cases a
  |true=>
   rw[q]at a;obtain rfl:=X5 a;exact⟨rfl,XW q⟩
theorem Qfl{α:Type}{l r:List α}{o:Option (List α)}(h:Qc6 l o=some r):o=some r:=(Qiz h).1
theorem Jw{α:Type}{l r:List α}{o:Option (List α)}(h:Qc6 l o=some r):l.length=r.length:=(Qiz h).2
section
variable {P:Program} {o:Oper} {env:Env} {H:Qd} {α:Type} {e:α->List A}
end
end Go.Sw
namespace Go.Sw
open Go.MapKept
section
variable {P:Program} {o:Oper} {env:Env} {H:Qd}
theorem Qkt{T:Nat}(b:o.op=.makeMap T none:=by exact rfl):OpH P o env H (.map H.length) (H++[.mapP []]):=by
 intro e d σ N a w r;refine⟨.map (some w.heap.size),w.alloc (.map #[] 0),d,[some w.heap.size],?_,⟨w.heap.size,?_,rfl⟩,r.sim.alloc ⟨#[],0,Q6 _ _,rfl,by simp,by simp,by simp⟩,Qh.alloc _ r.sim.roLt r.sim.frLt⟩
 .generalize a.eval=ρ at*;simp only[execOp,b,Instr.makeMap,Xk,Vt];rfl
 .rw[<- r.sim.len];simp
variable {T kt et:Nat} {α β:Type} [DecidableEq α] {ek:α->A} {ev:β->A} {x y:Operand} {i:Nat} {l:List (α×β)} {k:α} {z0:β} {z:Value}
theorem QcP(K:Y1 P kt ek){v:β}(q:YF l k=some v)(E:P.underlying T=some (.map kt et))
  (s:o.op=.lookup T x y false:=by exact rfl)(hx:opA env x=.map i:=by exact rfl)(hH:H[i]?=some (.mapP (Qi ek ev l)):=by exact rfl)(hy:opA env y=ek k:=by exact rfl):OpV P o env H (ev v):=by
 intro Y W σ N a w r;have n:=Qg r x;rw[hx]at n;obtain⟨b,G,t⟩:=n;have h:=Qg r y;rw[hy]at h;have M:=VR.val (K.scl _) h;obtain⟨u,f,F,p,Q,V,L⟩:=r.sim.blk i _ _ G hH;obtain⟨B,O⟩:=ER.find K p k L;rcases K.find w k u.toList (QaZ K p)with⟨g,d⟩|⟨j,e,g,d,J⟩
 .have:=(B d).1;rw[q]at this;cases this
 .obtain⟨R,X,m,z⟩:=O j e d J;rw[q]at m;obtain rfl:=X5 m;refine⟨e.val,?_,z⟩;simp only[execOp,s,t,M,Instr.lookup,Vt,run_underlying E,Result.andThen,MapKept.run_getObj_map F,Vu,K.check,g];rfl
theorem Qkp(K:Y1 P kt ek)(J:YF l k=none)(z:P.underlying T=some (.map kt et))(u:∀w,(zeroValue et).run P w=.ok (.pointer none) w)
  (q:o.op=.lookup T x y false:=by exact rfl)(hx:opA env x=.map i:=by exact rfl)(hH:H[i]?=some (.mapP (Qi ek ev l)):=by exact rfl)(hy:opA env y=ek k:=by exact rfl):OpV P o env H .nilp:=by
 intro fr X σ N a w r;have m:=Qg r x;rw[hx]at m;obtain⟨b,E,s⟩:=m;have g:=Qg r y;rw[hy]at g;have L:=VR.val (K.scl _) g;obtain⟨t,d,B,n,O,W,G⟩:=r.sim.blk i _ _ E hH;obtain⟨V,M⟩:=ER.find K n k G;rcases K.find w k t.toList (QaZ K n)with⟨f,p⟩|⟨j,e,f,p,F⟩
 .refine⟨.pointer none,?_,rfl⟩;simp only[execOp,q,s,L,Instr.lookup,Vt,run_underlying z,Result.andThen,MapKept.run_getObj_map B,Vu,K.check,f,u];rfl
 .obtain⟨Q,Y,h,R⟩:=M j e p F;rw[J]at h;cases h
theorem Qmq(K:Y1 P kt ek){v:β}{zz:Operand}(hm:YF l k=none)(X:P.underlying T=some (.map kt et))
  (R:o.op=.mapUpdate T x y zz:=by exact rfl)(hx:opA env x=.map i:=by exact rfl)(hH:H[i]?=some (.mapP (Qi ek ev l)):=by exact rfl)(m:opA env y=ek k:=by exact rfl)(hv:opA env zz=ev v:=by exact rfl):
  OpU P o env H (H.set i (.mapP (Qi ek ev (l++[(k,v)])))):=by
 intro fr Y σ N a w r;have L:=Qg r x;rw[hx]at L;obtain⟨b,M,V⟩:=L;have F:=Qg r y;rw[m]at F;have h3:=VR.val (K.scl _) F;have Q:=Qg r zz;rw[hv]at Q;obtain⟨J,f,t,p,B,W,O⟩:=r.sim.blk i _ _ M hH;obtain⟨f1,f2⟩:=ER.find K p k O;have z:∀(obj:Obj) y,w.shape? b=some y->({w with heap:=w.heap.setIfInBounds b obj}:World).shape? b=some y:=by
  intro obj y m;unfold World.shape? at m;rw[t]at m;simp at m
 rcases K.find w k J.toList (QaZ K p)with⟨E,s⟩|⟨j,e,E,s,g3⟩
 .have g:=r.sim.set (x':=.mapP (Qi ek ev (l++[(k,v)]))) (obj:=.map (J.push {key:=QO (ek k),val:=a.eval zz,born:=f}) (f+1)) M hH rfl (z _)
   (λe h=>⟨_,_,h,by
    rw[Qi,Xf,Array.toList_push];exact(p.mono e).append ⟨_,_,rfl,(Qb7 (K.scl _)),Q.mono e,rfl⟩,by
    rw[Array.toList_push];intro e h;rcases VJ.1 h with q|q
    .exact Nat.lt_succ_of_lt (B e q)
    .simp at q;subst q;exact Xo _,by
    rw[Array.toList_push,Xf];refine List.nodup_append.2 ⟨W,by simp,?_⟩;intro c u d n;simp at n;subst n;obtain⟨e,h,rfl⟩:=Xe.1 u;exact Nat.ne_of_lt (B e h),by
    rw[Array.toList_push,Xf];refine List.nodup_append.2 ⟨O,by simp,?_⟩;intro c u d n;simp at n;subst n;obtain⟨e,h,rfl⟩:=Xe.1 u;exact s e h⟩)
  refine⟨_,Y,[],?_,by simpa using g.1,g.2⟩;simp only[execOp,R,V,h3,Vt,Instr.mapUpdate,run_underlying X,Result.andThen,MapKept.run_getObj_map t,K.check,E,MapKept.run_setObj_map _ t];rfl
 .obtain⟨u1,v',G,u3⟩:=f2 j e s g3;rw[hm]at G;cases G
end
section
variable {fr ro:Nat->Prop} {σ:Sig} {H:Qd} {w:World}
theorem Sim.shutAny(s:Sim fr ro σ H w){i b:Nat}{r:Blk}(hσ:σ[i]?=some (some b))(hH:H[i]?=some r)(hl:r.live=true):
  Sim fr (λc=>ro c\/c=b) σ (H.set i .dead) w:=by
 have f:b<w.heap.size/\ ¬ro b/\ ¬fr b:=s.own i b _ hσ hH hl;have ext:Ext ro σ w (λc=>ro c\/c=b) σ w:=⟨λ_ q=>.inl q,λ_ _=>rfl,λ_ _ q=>q,λ_ _ q=>q⟩;have a:∀(j:Nat) (v:Blk),(H.set i .dead)[j]?=some v->v≠ .dead->j≠i/\H[j]?=some v:=by
  intro j v h m;by_cases e:j=i
  .subst e;rw[Xb]at h;simp only[if_true]at h;split at h
   .cases h;exact absurd rfl m
   .simp at h
  .rw[XV (λq=>e q.symm)]at h;exact⟨e,h⟩
 refine⟨by rw[X9];exact s.len,s.roOk.to (λ_ q=>.inl q) (λ_ _=>rfl) ?_,s.frLt,?_,?_,?_,?_,s.hidTo (· = ·) Q0 (XZ _) (λj d x c M F E P=>P.elim id λq=>((s.hid j d x c M F E).ne i b _ hσ hH hl q).elim) (λ_ _ _ _ _ _ _ q=>q) λj d y B J N=>.inl ⟨j,y,rfl,B,(a j y J (QeL N)).2,id,λ_ q=>q⟩⟩
 .rintro c (q|rfl)
  .exact s.roLt c q
  .exact f.1
 .rintro c (q|rfl)
  .exact s.roFr c q
  .exact f.2.2
 .intro j c v k g l;obtain⟨e,g⟩:=a j v g (Qay l);obtain⟨L,G,z⟩:=s.own j c v k g l;refine⟨L,?_,z⟩;rintro(q|rfl)
  .exact G q
  .exact e (s.inj j i c v _ k hσ g hH l hl)
 .intro j n c v u k g l O t p;exact s.inj j n c v u k g (a j v l (Qay t)).2 (a n u O (Qay p)).2 t p
 .intro j y v k g;by_cases m:v≠ .dead
  .exact(s.blk j y v k (a j v g m).2).keep ext (λ_ _ _=>rfl) (λ_ _ _ _=>rfl)
  .obtain rfl:v=.dead:=Classical.not_not.1 m;trivial
def QbZ(H:Qd):List Nat->Qd
 |[]=>H
 |i::l=>QbZ (H.set i .dead) l
theorem QgD{l:List Nat}:∀{H:Qd} {j:Nat},j∉l->(QbZ H l)[j]?=H[j]? :=by
 induction l with
 |nil=>intro H j _;rfl
 |cons i l a=>
  intro H j hj;rw[Vc,not_or]at hj;unfold QbZ;rw[a hj.2,XV (λq=>hj.1 q.symm)]
theorem QdR:∀{l:List Nat} {ro:Nat->Prop} {H:Qd} (s:Sim fr ro σ H w),l.Nodup->(∀i∈l,∃x,H[i]?=some x/\x.live=true)->
  ∃ro',Sim fr ro' σ (QbZ H l) w/\(∀c,ro c->ro' c)/\ ∀i∈l,∀b,σ[i]?=some (some b)->ro' b
 |[],ro,H,s,_,_=>⟨ro,s,λ_ q=>q,λ_ h=>by cases h⟩
 |i::l,ro,H,s,hn,hl=>by
  rw[List.nodup_cons]at hn;obtain⟨x,hx,hxl⟩:=hl i (by simp);have rest:∀i'∈l,∃x,(H.set i .dead)[i']?=some x/\x.live=true:=by
   intro i' a;obtain⟨y,r,f⟩:=hl i' (Vb _ a);exact⟨y,by rw[XV (λq=>hn.1 (by rw[q];exact a))];exact r,f⟩
  have n:∃q,σ[i]?=some q:=by
   have:i<σ.length:=by rw[s.len];exact(XR.1 hx).1
   exact⟨_,XQ this⟩
  obtain⟨q,j⟩:=n;cases q with
  |some b=>
   obtain⟨ro',m,e,g⟩:=QdR (s.shutAny j hx hxl) hn.2 rest;refine⟨ro',m,λc p=>e c (.inl p),λi' a k d=>?_⟩;rcases Vc.1 a with rfl|a
   .rw[j]at d;cases d;exact e _ (.inr rfl)
   .exact g i' a k d
  |none=>
   obtain⟨ro',m,e,g⟩:=QdR (s.kill i) hn.2 rest;refine⟨ro',m,e,λi' a k d=>?_⟩;rcases Vc.1 a with rfl|a
   .rw[j]at d;cases d
   .exact g i' a k d
end
end Go.Sw
namespace Go.Sw
structure Fil (α β:Type) where
 number:Int
 r0:List α
 r1:List α
 r2:List α
 reports:List β
 appeal:Bool
 deriving DecidableEq
structure FK (α β:Type) where
 T:Nat
 tF:Nat
 kF:Nat
 tR:Nat
 kR:Nat
 eF:α->List A
 eR:β->List A
section
variable {α β:Type} (K:FK α β)
def QnN(b:Nat)(x:Fil α β):List A:=[.int .i64 x.number,.osl (b+1) 0 x.r0.length K.kF,.osl (b+2) 0 x.r1.length K.kF,.osl (b+3) 0 x.r2.length K.kF,.osl (b+4) 0 x.reports.length K.kR,.bool x.appeal]
def Qk5(b:Nat)(x:Fil α β):List Blk:=[.cells K.T (QnN K b x),.row K.tF K.kF (x.r0.map K.eF),.row K.tF K.kF (x.r1.map K.eF),.row K.tF K.kF (x.r2.map K.eF),.row K.tR K.kR (x.reports.map K.eR)]
def fall:Nat->List (Fil α β)->List Blk
 |_,[]=>[]
 |b,x::l=>Qk5 K b x++fall (b+5) l
def frp(x:Fil α β):List A:=[.int .i64 x.number,.rsl K.kF (x.r0.map K.eF),.rsl K.kF (x.r1.map K.eF),.rsl K.kF (x.r2.map K.eF),.rsl K.kR (x.reports.map K.eR),.bool x.appeal]
def fent:Nat->List (Fil α β)->List (Int×Nat)
 |_,[]=>[]
 |b,x::l=>(x.number,b)::fent (b+5) l
def Qep(j:Nat):A:=.ptr j 0
def rpE(x:Fil α β):A:=.rp (frp K x)
def Qet(fs:List (Fil α β)):List (Int×Fil α β):=fs.map λx=>(x.number,x)
theorem QgN(b:Nat)(x:Fil α β)(l:List (Fil α β)):fall K b (x::l)=Qk5 K b x++fall K (b+5) l:=rfl
theorem QgM(b:Nat)(x:Fil α β):(Qk5 K b x).length=5:=rfl
end
section
variable {fr ro ro':Nat->Prop} {σ:Sig} {w:World}
theorem Qa4(sub:∀c,ro c->ro' c){i t k:Nat}{es:List (List A)}{v:Value}(u:∀b,σ[i]?=some (some b)->BR ro σ w (.row t k es) (some b)/\ro' b)(h:VR ro σ w (.osl i 0 es.length k) v):VR ro' [] w (.rsl k es) v:=by
 rcases h with⟨f,h⟩|⟨b,p,a,B,m,j,h,y,⟨e,g⟩,E,z⟩
 .have:es=[]:=VP.1 f;subst this;exact⟨none,0,h,XZ _,.inl rfl⟩
 .refine⟨_,a,h,e,?_⟩;by_cases d:es=[]
  .exact .inl d
  .right;have r:0<a:=Vl (List.length_pos_iff.2 d) e;obtain rfl:=y r;obtain⟨⟨l,s,n⟩,x⟩:=u b j;refine⟨b,0,by simp,x,?_⟩;have:=YV (pre:=[]) (by simpa using s) n;exact this.keep ⟨sub,λ_ _=>rfl,λ_ _ q=>q,λ_ _ q=>q⟩ rfl
theorem Qh5{ro:Nat->Prop}{w:World}{b t:Nat}:∀{cs:List A} {pre l:List Value},w.heap[b]?=some (.cells (pre++l).toArray t (0,0))->LR ro [] w cs l->(∀v∈l,Qp v)->CR ro [] w b cs pre.length
 |[],pre,l,_,_,_=>trivial
 |a::cs,pre,l,hb,hl,hp=>by
  obtain⟨v,l',rfl,h1,h2⟩:=hl;refine⟨⟨v,?_,hp v (by simp),h1⟩,?_⟩
  .unfold World.cell?;rw[hb];simp
  .have:=Qh5 (pre:=pre++[v]) (l:=l') (by simpa using hb) h2 λu hu=>hp u (Vb _ hu);simpa using this
variable {α β:Type} (K:FK α β)
theorem QpF(sub:∀c,ro c->ro' c){b:Nat}{x:Fil α β}{v:Value}(f:∀(d c:Nat) (y:Blk),(Qk5 K b x)[d]?=some y->σ[b+d]?=some (some c)->BR ro σ w y (some c)/\ro' c)(h:VR ro σ w (.ptr b 0) v):VR ro' [] w (.rp (frp K x)) v:=by
 obtain⟨c,s,p⟩:=h;obtain⟨⟨l,m,a,F⟩,z⟩:=f 0 c _ rfl s;refine⟨c,0,p,z,?_⟩;refine Qh5 (pre:=[]) (by simpa using m) ?_ F;unfold QnN at a;obtain⟨v0,M,rfl,q,a⟩:=a;obtain⟨k,L,rfl,B,a⟩:=a;obtain⟨u,N,rfl,r,a⟩:=a;obtain⟨j,H,rfl,n,a⟩:=a;obtain⟨g,O,rfl,G,a⟩:=a;obtain⟨E,J,rfl,i,a⟩:=a;refine⟨v0,_,rfl,q,k,_,rfl,Qa4 sub (t:=K.tF) (λc e=>f 1 c _ rfl e) (by simpa using B),u,_,rfl,Qa4 sub (t:=K.tF) (λc e=>f 2 c _ rfl e) (by simpa using r),j,_,rfl,Qa4 sub (t:=K.tF) (λc e=>f 3 c _ rfl e) (by simpa using n),
  g,_,rfl,Qa4 sub (t:=K.tR) (λc e=>f 4 c _ rfl e) (by simpa using G),E,_,rfl,i,a⟩
theorem QoR(sub:∀c,ro c->ro' c){ek:Int->A}(hek:∀(k:Int) (v:Value),VR ro σ w (ek k) v->VR ro' [] w (ek k) v):∀{b:Nat} {fs:List (Fil α β)} {es:List MapEntry},(∀(d c:Nat) (y:Blk),(fall K b fs)[d]?=some y->σ[b+d]?=some (some c)->BR ro σ w y (some c)/\ro' c)->
  ER ro σ w (Qi ek Qep (fent b fs)) es->ER ro' [] w (Qi ek (rpE K) (Qet fs)) es
 |b,[],es,_,h=>h
 |b,x::l,es,hb,h=>by
  obtain⟨e,l',rfl,h1,h2,h3⟩:=h;refine⟨e,l',rfl,hek _ _ h1,?_,?_⟩
  .refine QpF K sub (λd c y hy hc=>hb d c y ?_ hc) h2;rw[QgN,XS (XR.1 hy).1];exact hy
  .refine QoR sub hek (b:=b+5) (fs:=l) (λd c y hy hc=>hb (d+5) c y ?_ (by rw[show b+(d+5)=b+5+d by omega];exact hc)) h3;rw[QgN,XT (by rw[QgM];omega),QgM,Nat.add_sub_cancel];exact hy
end
section
variable {fr ro:Nat->Prop} {σ:Sig} {w:World} {α β:Type} (K:FK α β)
theorem Sim.shutMapP{H:Qd}(s:Sim fr ro σ H w){i b:Nat}{es es':List (A×A)}(hσ:σ[i]?=some (some b))(hH:H[i]?=some (.mapP es))(he:∀l,ER ro σ w es l->ER (λc=>ro c\/c=b) [] w es' l):
  Sim fr (λc=>ro c\/c=b) σ (H.set i (.fmap es')) w:=by
 have k:b<w.heap.size/\ ¬ro b/\ ¬fr b:=s.own i b _ hσ hH rfl;have ext:Ext ro σ w (λc=>ro c\/c=b) σ w:=⟨λ_ q=>.inl q,λ_ _=>rfl,λ_ _ q=>q,λ_ _ q=>q⟩;have a:∀(j:Nat) (v:Blk),(H.set i (.fmap es'))[j]?=some v->v.live=true->j≠i/\H[j]?=some v:=by
  intro j v h z;by_cases e:j=i
  .subst e;rw[Xb]at h;simp only[if_true]at h;split at h
   .cases h;simp[Blk.live]at z
   .simp at h
  .rw[XV (λq=>e q.symm)]at h;exact⟨e,h⟩
 have g:∀(j:Nat) (v:Blk),(H.set i (.fmap es'))[j]?=some v->v.holds=true->H[j]?=some v:=by
  intro j v h z;by_cases e:j=i
  .subst e;rw[Xb]at h;simp only[if_true]at h;split at h
   .cases h;cases z
   .simp at h
  .rw[XV (λq=>e q.symm)]at h;exact h
 refine⟨by rw[X9];exact s.len,s.roOk.to (λ_ q=>.inl q) (λ_ _=>rfl) ?_,s.frLt,?_,?_,?_,?_,s.hidTo (· = ·) Q0 (XZ _) (λj d x c O M L R=>R.elim id λq=>((s.hid j d x c O M L).ne i b _ hσ hH rfl q).elim) (λ_ _ _ _ _ _ _ q=>q) λj d y J N P=>.inl ⟨j,y,rfl,J,g j y N P,id,λ_ q=>q⟩⟩
 .rintro c (q|rfl)
  .exact s.roLt c q
  .exact k.1
 .rintro c (q|rfl)
  .exact s.roFr c q
  .exact k.2.2
 .intro j c v m f p;obtain⟨e,f⟩:=a j v f p;obtain⟨u,t,r⟩:=s.own j c v m f p;refine⟨u,?_,r⟩;rintro(q|rfl)
  .exact t q
  .exact e (s.inj j i c v _ m hσ f hH p rfl)
 .intro j B c v G m f p Q F E;exact s.inj j B c v G m f (a j v p F).2 (a B G Q E).2 F E
 .intro j y v m f;by_cases e:j=i
  .subst e;rw[Xa (XR.1 hH).1]at f;cases f;rw[hσ]at m;cases m;obtain⟨l,n,u,t,r⟩:=s.blk j _ _ hσ hH;exact⟨.inr rfl,l,n,u,he _ t,r⟩
  .rw[XV (λq=>e q.symm)]at f;exact(s.blk j y v m f).keep ext (λ_ _ _=>rfl) (λ_ _ _ _=>rfl)
end
end Go.Sw
namespace Go.Sw
open Go.Sort Go.Proofs Go.Shelf
theorem Qni{α:Type}{l:List α}(h:l.length=1):∃v,l=[v]:=by
 match l,h with
 |[v],_=>exact⟨v,rfl⟩
theorem Qfw{α β:Type}(f:α->β):∀l:List α,(l.map λa=>[f a]).flatten=l.map f
 |[]=>rfl
 |a::l=>by simp[Qfw f l]
structure Elt1 (ro:Nat->Prop) (w:World) {T:Type} (ea:T->A) (l:List T) where
 x:T
 v:Value
 mem:x∈l
 rel:VR ro [] w (ea x) v
 plain:Qp v
theorem QpP{P:Program}{ρ:Ren}(L0:SlLaysF0.n6 P ρ){T:Type}[DecidableEq T]{ea:T->A}{t g:Nat}{cap:List A}{l l':List T}{cf:T->T->Option Int}(hs:QbQ cf l=some l')
  (a0:∀x y c,cf x y=some c->C P g ([ea x,ea y]++cap) [] (λa H=>a=.int .i64 c/\H=[]))
  (aE:∀w,(isAgg (ρ.t 24)).run P w=.ok false w)(zE:∀w,(Go.sizeOf (ρ.t 24)).run P w=.ok 1 w)(eg:∀args w,(callFunc g args).run P w=.ok (.enter g args) w)(hd:Yo cap=true):
  C P (ρ.f 6) [.osl 0 0 l.length 1,.fn (.func g) [] cap] [.row t 1 (l.map λx=>[ea x])] (λa H=>a=.tup []/\H=[.row t 1 (l'.map λx=>[ea x])]):=by
 have L:SlLaysF.n6 P ρ:={L0 with a24:=aE,z24:=zE};intro fr F σ vals w s hv;obtain⟨vs,r1,rfl,bk,vf,r2,rfl,bp,hr⟩:=hv;cases(show r2=[]from hr);obtain⟨lf,lc,rfl,h1,ay⟩:=bp;cases(show lf=[]from h1);have ao:LR F [] w cap lc:=LR.data hd ay;obtain⟨a9,ah,M,ak,av⟩:=QcT hs;have B:∀(ad:Option Addr) (c:Nat),vs=.slice ad 0 c->l=[]->
   Calls P (ρ.f 6) [vs,.func (.func g) #[] lc.toArray].toArray w λe w'=>∃v r H' ac τ,e=.returned v/\(r=.tup []/\H'=[.row t 1 (l'.map λx=>[ea x])])/\Sim fr ac (σ++τ) H' w'/\VR ac (σ++τ) w' r v/\Qh fr F w ac w':=by
  rintro ad c rfl rfl;have ae:l'=[]:=by rw[<- av];rfl
  subst ae;refine(AnyF.slices_SortFunc_none L0 ad c (.func (.func g) #[] lc.toArray) w).mono ?_;rintro e w' ⟨rfl,rfl⟩;exact⟨_,_,_,F,[],rfl,⟨rfl,rfl⟩,by simpa using s,⟨[],rfl,rfl⟩,Qh.refl _ _ _⟩
 rcases bk with⟨h0,rfl⟩|⟨b,p,cp,t',m,q1,rfl,q2,⟨q3,bs⟩,q4,q5⟩
 .exact B none 0 rfl (VP.1 h0)
 .by_cases ae:l=[]
  .subst ae;exact B _ cp rfl rfl
  .have bj:0<l.length:=List.length_pos_iff.2 ae;obtain rfl:=q2 (Vl bj q3);obtain⟨lv,e1,e2⟩:=s.blk 0 _ _ q1 rfl;obtain⟨hb,ag,a5⟩:=s.own 0 b _ q1 rfl rfl;obtain⟨R,G,ba,rfl,bi⟩:=RL.parts e2
   let α:=Elt1 F w ea l
   have aw:∀p∈R,p.1∈l:=λp hp=>by rw[<- ba];exact VM hp
   have a6:∀p∈R,∃v,p.2=[v]/\VR F [] w (ea p.1) v/\Qp v:=by
    intro p hp;obtain⟨g1,g2,g3⟩:=bi p hp;obtain⟨v,e⟩:=Qni g1;rw[e]at g2 g3;obtain⟨v',l',e',g4,g5⟩:=g2;cases e';exact⟨v,e,g4,g3 v (by simp)⟩
   let val:List Value->Value:=λl=>l.headD .nilFunc
   have V:∀p∈R,p.2=[val p.2]/\VR F [] w (ea p.1) (val p.2)/\Qp (val p.2):=by
    intro p hp;obtain⟨v,e,g⟩:=a6 p hp;rw[e];exact⟨rfl,g⟩
   let ds:List α:=R.attach.map λp=>⟨p.1.1,val p.1.2,aw _ p.2,(V _ p.2).2.1,(V _ p.2).2.2⟩
   have a3:∀{γ:Type} (f:T×List Value->γ),R.attach.map (λp=>f p.1)=R.map f:=λf=>by simp
   have O:ds.map (·.x)=l:=by
    show(R.attach.map _).map _=_;rw[List.map_map];exact(a3 (·.1)).trans ba
   have ax:ds.map (·.v)=R.map λp=>val p.2:=by
    show(R.attach.map _).map _=_;rw[List.map_map];exact a3 λp=>val p.2
   have au:ds.length=l.length:=by rw[<- O];simp
   have az:ds≠[]:=by intro q;rw[q]at au;simp at au;omega
   let inh:Inhabited α:=⟨ds.head az⟩
   let enc':α->Value:=λa=>a.v
   let cf':α->α->Int:=λx y=>(cf x.x y.x).getD 0
   have ab:∀x y:α,ltOf cf' x y=ltO cf x.x y.x:=by
    intro x y;obtain⟨c,u⟩:=ah x.x x.mem y.x y.mem;simp only[ltOf,ltO,cf',u,Option.getD_some]
   have hO:SWO (ltOf cf'):=⟨λx=>by rw[ab];exact M.irrefl _ x.mem,λx y z a b=>by rw[ab]at*;exact M.trans _ x.mem _ y.mem _ z.mem a b,
    λx y z a b=>by rw[ab]at*;exact M.ntrans _ x.mem _ y.mem _ z.mem a b⟩
   have bq:(R.map (·.2)).flatten=ds.map enc':=by
    have e3:R.map (·.2)=(R.map λp=>val p.2).map λv=>[v]:=by
     rw[List.map_map];exact List.map_congr_left λp hp=>(V p hp).1
    rw[e3, <- ax];have:=Qfw (λv:Value=>v) (ds.map (·.v));rw[this];simp[enc']
   rw[bq]at e1;have hH:Holds enc' w b 0 ds.toArray:=by
    intro j hj;simp only[List.size_toArray]at hj;constructor
    .unfold World.cell?;simp only[e1,Option.isSome_none,Xi,if_false,XA];rw[Jc,XS (by simpa using hj),Xq,Qfs _ _ hj];rfl
    .unfold World.frozen?;simp only[e1];simp
   have aq:∀(d:Array α),d.size=ds.toArray.size->(putRow enc' w b 0 d).heap=w.heap.setIfInBounds b (.cells ((d.toList.map enc'++G)).toArray t (0,0)):=by
    intro d k;have ar:(d.toList.map enc').length=(ds.map enc').length:=by simp at k⊢;rw[k]
    unfold putRow mapBlock;show w.heap.modify b _=_;rw[Qbh e1];simp only[onCells];congr 2;unfold putCells;apply Array.ext_getElem?;intro i;simp only[Array.getElem?_mapIdx,Jc,X0,true_and,XA,Xz];by_cases hi:i<d.size
    .have Y:i<(d.toList.map enc').length:=by simpa using hi
     rw[XS Y,XS (by rw[<- ar];exact Y),XQ (by rw[<- ar];exact Y),XQ Y];simp only[Xj,Vz hi];congr 1;rw[getElem!_pos d i hi];simp
    .have Y:¬i<(d.toList.map enc').length:=by simpa using hi
     rw[XT (by omega),XT (by omega),ar];cases(G[i-(ds.map enc').length]?)with
     |none=>rfl
     |some v=>exact congrArg some (Vy hi)
   have Q:∀(m:Nat) (os:Array Obj) (d:Array α),d.size=ds.toArray.size->
     (∀c,c<w.heap.size->c≠b->(sortWorld enc' w b 0 m d os).heap[c]?=w.heap[c]?)/\(sortWorld enc' w b 0 m d os).heap[b]?=some (.cells ((d.toList.map enc'++G)).toArray t (0,0))/\
     w.heap.size<=(sortWorld enc' w b 0 m d os).heap.size:=by
    intro m os d k;have e:(sortWorld enc' w b 0 m d os).heap=w.heap.setIfInBounds b (.cells ((d.toList.map enc'++G)).toArray t (0,0))++os:=by
     rw[<- aq d k];rfl
    rw[e];refine⟨λc u bh=>?_,?_,by simp⟩
    .rw[Array.getElem?_append_left (by simpa using u),Vk,Vy (λq=>bh q.symm)]
    .rw[Array.getElem?_append_left (by simpa using hb),Vk,Vz rfl,Vz hb]
   have N:∀(m:Nat) (os:Array Obj) (d:Array α),d.size=ds.toArray.size->∀c y,w.shape? c=some y->(sortWorld enc' w b 0 m d os).shape? c=some y:=by
    intro m os d k c y hy;obtain⟨g1,g2,g3⟩:=Q m os d k;by_cases u:c=b
    .subst u;unfold World.shape? at hy⊢;rw[e1]at hy;rw[g2];simp only[Option.some.injEq]at hy⊢;rw[<- hy];congr 1;simp only[List.size_toArray,X8,X7];simp at k⊢;rw[k]
    .unfold World.shape? at hy⊢;rw[g1 c (QbR hy) u];exact hy
   have af:∀(m:Nat) (os:Array Obj) (d:Array α),d.size=ds.toArray.size->∀τ,Ext F τ w F τ (sortWorld enc' w b 0 m d os):=by
    intro m os d k τ;obtain⟨g1,g2,g3⟩:=Q m os d k;exact⟨λ_ q=>q,λc u=>g1 c (s.roLt c u) (λq=>ag (q▸u)),N m os d k,λ_ _ q=>q⟩
   have bc:CmpLays1 P g lc.toArray enc' cf' b 0 ds.toArray.size w:=by
    intro m os dk a2 x y;obtain⟨c,u⟩:=ah x.x x.mem y.x y.mem;have E:=af m os dk a2 [];have bn:=a0 _ _ _ u;generalize hW:sortWorld enc' w b 0 m dk os=W at*;have be:w.heap.size<=W.heap.size:=by rw[<- hW];exact(Q m os dk a2).2.2
    have sW:Sim (λc=>c<W.heap.size/\ ¬F c) F [] [] W:=
     ⟨rfl,s.roOk.to (λ_ q=>q) E.keep (λc u=>Vl (s.roLt c u) be),λc u=>u.1,λc u hf=>hf.2 u,λi b x h=>by simp at h,λi j b x y h=>by simp at h,λi y x h=>by simp at h,λi b x c h=>by simp at h⟩
    have aj:LR F [] W ([ea x.x,ea y.x]++cap) ([x.v,y.v]++lc):=
     LR.append (show LR F [] W [ea x.x,ea y.x] [x.v,y.v]from⟨_,_,rfl,x.rel.mono E,_,_,rfl,y.rel.mono E,rfl⟩) (ao.mono E)
    have J:=bn _ F [] _ W sW aj;have bd:(([x.v,y.v]++lc).toArray:Array Value)= #[enc' x,enc' y]++lc.toArray:=by simp[enc']
    rw[bd]at J;refine J.mono ?_;rintro e w' ⟨v,r,H',ac,τ,rfl,⟨rfl,rfl⟩,s',bg,ev⟩;refine⟨?_,?_⟩
    .rw[show v=.int .i64 c from bg];simp only[cf',u,Option.getD_some]
    .refine Qk1 (λc u=>?_) ev.size ev.os ev.tape ev.output ev.drawn;by_cases a1:F c
     .exact ev.keepRo c a1
     .exact ev.keepFr c ⟨u,a1⟩
   have aa:ds.toArray.size=l.length:=by simpa using au
   have br:b+0=b:=rfl;have ai:=Any.slices_SortFunc L enc' (λx=>Qgx x.plain) cf' hO g lc.toArray b 0 cp ds.toArray w eg bc hH hb (by rw[aa];unfold Qt at a9;omega);rw[aa]at ai;rw[Nat.zero_mul];refine ai.mono ?_;rintro e w' ⟨rfl,d,n,os,X,am,rfl⟩;have k:d.size=ds.toArray.size:=X.1;obtain⟨g1,g2,g3⟩:=Q n os d k;have al:d.toList.Perm ds:=by
    have h:=X.2.2;have x1:d.extract 0 l.length=d:=by rw[<- aa, <- k];exact Array.extract_size
    have x2:ds.toArray.extract 0 l.length=ds.toArray:=by rw[<- aa];exact Array.extract_size
    rw[x1,x2]at h;simpa using h
   have a7:d.toList.map (·.x)=l':=by
    rw[<- av];refine Jp (lt:=ltO cf) ?_ ?_ ?_ (QT M)
    .exact((al.map (·.x)).trans (by rw[O])).trans (Qn _ _).symm
    .intro x hx y hy;have bo:x∈l:=by rw[<- O];exact(al.map (·.x)).mem_iff.1 hx
     have bl:y∈l:=by rw[<- O];exact(al.map (·.x)).mem_iff.1 hy
     exact ak x bo y bl
    .rw[VK];intro i j hi hj bm;simp only[X7]at hi hj;simp only[List.getElem_map];rw[<- ab];have:=am i j (X0 _) bm (by rw[<- aa, <- k];simpa using hj);rw[getElem!_pos d j (by simpa using hj),getElem!_pos d i (by simpa using hi)]at this;simpa using this
   have bb:RL F [] (sortWorld enc' w b 0 n d os) 1 (l'.map λx=>[ea x]) (d.toList.map enc'++G):=by
    have e3:d.toList.map enc'=((d.toList.map λa=>(a.x,[a.v])).map (·.2)).flatten:=by
     rw[List.map_map];exact(Qfw (λa:α=>a.v) d.toList).symm
    have e4:l'=(d.toList.map λa=>(a.x,[a.v])).map (·.1):=by rw[<- a7];simp
    rw[e3,e4];refine Qb8 (enc:=λx=>[ea x]) (λ_=>rfl) ?_;intro p hp;obtain⟨a,_,rfl⟩:=Xe.1 hp;exact⟨⟨_,_,rfl,a.rel.mono (af n os d k []),rfl⟩,λv hv=>by rw[VH.1 hv];exact a.plain⟩
   have a8:Qh fr F w F (sortWorld enc' w b 0 n d os):=
    ⟨λ_ q=>q,λc u=>g1 c (s.roLt c u) (λq=>ag (q▸u)),λc u=>g1 c (s.frLt c u) (λq=>a5 (q▸u)),g3,N n os d k,rfl,rfl,rfl,Nat.le_add_right _ _⟩
   have an:σ.length=1:=s.len;have a4:Sim fr F σ [.row t 1 (l'.map λx=>[ea x])] (sortWorld enc' w b 0 n d os):=by
    have i0:∀{i:Nat} {x:Blk},([.row t 1 (l'.map λx=>[ea x])]:Qd)[i]?=some x->i=0/\x=.row t 1 (l'.map λx=>[ea x]):=by
     intro i x h;cases i with
     |zero=>simp at h;exact⟨rfl,h.symm⟩
     |succ i=>simp at h
    refine⟨an,s.roOk.to (λ_ q=>q) a8.keepRo (λc u=>Vl (s.roLt c u) g3),λc u=>Vl (s.frLt c u) g3,s.roFr,λi c x h1 h2 h3=>?_,λi j c x y h1 h2 h3 h4 _ _=>?_,λi y x h1 h2=>?_,λi b x c h1 h2 h3=>by obtain⟨rfl,rfl⟩:=i0 h2;exact h3.elim⟩
    .obtain⟨rfl,rfl⟩:=i0 h2;obtain⟨p1,p2⟩:=s.own 0 c _ h1 rfl rfl;exact⟨Vl p1 g3,p2⟩
    .rw[(i0 h3).1,(i0 h4).1]
    .obtain⟨rfl,rfl⟩:=i0 h2;rw[q1]at h1;cases h1;exact⟨_,g2,bb⟩
   exact⟨_,_,_,F,[],rfl,⟨rfl,rfl⟩,by simpa using a4,⟨[],rfl,rfl⟩,a8⟩
end Go.Sw
namespace Go.Sw
structure Pl where
 b:Nat
 i0:Nat
 i1:Nat
 i2:Nat
 i3:Nat
def Pl.ix(p:Pl):List Nat:=[p.b,p.i0,p.i1,p.i2,p.i3]
section
variable {α β:Type} (K:FK α β)
def Q4(p:Pl)(x:Fil α β):List A:=[.int .i64 x.number,.osl p.i0 0 x.r0.length K.kF,.osl p.i1 0 x.r1.length K.kF,.osl p.i2 0 x.r2.length K.kF,.osl p.i3 0 x.reports.length K.kR,.bool x.appeal]
structure QbF (H:Qd) (x:Fil α β) (p:Pl):Prop where
 c:H[p.b]?=some (.cells K.T (Q4 K p x))
 r0:H[p.i0]?=some (.row K.tF K.kF (x.r0.map K.eF))
 r1:H[p.i1]?=some (.row K.tF K.kF (x.r1.map K.eF))
 r2:H[p.i2]?=some (.row K.tF K.kF (x.r2.map K.eF))
 r3:H[p.i3]?=some (.row K.tR K.kR (x.reports.map K.eR))
abbrev Qa0(α β:Type):=List (Fil α β×Pl)
def YR(bk:Qa0 α β):List (Int×Nat):=bk.map λe=>(e.1.number,e.2.b)
structure YA (lo:Nat) (H:Qd) (bk:Qa0 α β):Prop where
 laid:∀e∈bk,QbF K H e.1 e.2
 own:∀e∈bk,e.2.ix.Nodup
 ne:bk.Pairwise λe f=>∀i∈e.2.ix,i∉f.2.ix
 lo:∀e∈bk,∀i∈e.2.ix,lo<=i
 num:(bk.map (·.1.number)).Nodup
variable {K} {lo:Nat} {H H':Qd} {bk l r:Qa0 α β} {e:Fil α β×Pl} {x':Fil α β} {p':Pl}
theorem YA.nil:YA K lo H ([]:Qa0 α β):=⟨(λ_ h=>by cases h),(λ_ h=>by cases h),List.Pairwise.nil,(λ_ h=>by cases h),List.nodup_nil⟩
theorem QbF.lt(h:QbF K H e.1 e.2):∀i∈e.2.ix,i<H.length:=by
 intro i a;have g:∀{j:Nat} {y:Blk},H[j]?=some y->j<H.length:=λq=>(XR.1 q).1;simp only[Pl.ix,Vc,List.not_mem_nil,or_false]at a;rcases a with rfl|rfl|rfl|rfl|rfl
 .exact g h.c
 .exact g h.r0
 .exact g h.r1
 .exact g h.r2
 .exact g h.r3
theorem QbF.keep(h:QbF K H e.1 e.2)(k:∀i∈e.2.ix,H'[i]?=H[i]?):QbF K H' e.1 e.2:=by
 refine⟨?_,?_,?_,?_,?_⟩
 .rw[k _ (by simp[Pl.ix])];exact h.c
 .rw[k _ (by simp[Pl.ix])];exact h.r0
 .rw[k _ (by simp[Pl.ix])];exact h.r1
 .rw[k _ (by simp[Pl.ix])];exact h.r2
 .rw[k _ (by simp[Pl.ix])];exact h.r3
theorem YA.keep(h:YA K lo H bk)(k:∀j,lo<=j->j<H.length->H'[j]?=H[j]?):YA K lo H' bk:=
 ⟨λe he=>(h.laid e he).keep λi hi=>k i (h.lo e he i hi) ((h.laid e he).lt i hi),h.own,h.ne,h.lo,h.num⟩
theorem YA.upd(h:YA K lo H (l++e::r))(z:QbF K H' x' p')(x:x'.number=e.1.number)(w:∀j,lo<=j->j<H.length->j∉e.2.ix->H'[j]?=H[j]?)
  (hi:∀i∈p'.ix,i∈e.2.ix\/H.length<=i)(B:p'.ix.Nodup)(hl:lo<=H.length):YA K lo H' (l++(x',p')::r):=by
 obtain⟨u,y,n⟩:=List.pairwise_append.1 h.ne;obtain⟨t,E⟩:=Xc.1 y;have mem:∀f∈l++(x',p')::r,f=(x',p')\/(f∈l++e::r/\ ∀i∈f.2.ix,i∉e.2.ix):=by
  intro f b;rcases VJ.1 b with q|q
  .exact .inr ⟨List.mem_append_left _ q,λi hi a=>n f q e (by simp) i hi a⟩
  .rcases Vc.1 q with q|q
   .exact .inl q
   .exact .inr ⟨by simp[q],λi hi a=>t f q i a hi⟩
 refine⟨?_,?_,?_,?_,?_⟩
 .intro f b;rcases mem f b with rfl|⟨k,p⟩
  .exact z
  .exact(h.laid f k).keep λi hi=>w i (h.lo f k i hi) ((h.laid f k).lt i hi) (p i hi)
 .intro f b;rcases mem f b with rfl|⟨k,p⟩
  .exact B
  .exact h.own f k
 .refine List.pairwise_append.2 ⟨u,Xc.2 ⟨?_,E⟩,?_⟩
  .intro f b i a d;rcases hi i a with q|q
   .exact t f b i q d
   .have:=(h.laid f (by simp[b])).lt i d;omega
  .intro f b g s i d m;rcases Vc.1 s with rfl|s
   .rcases hi i m with q|q
    .exact n f b e (by simp) i d q
    .have:=(h.laid f (by simp[b])).lt i d;omega
   .exact n f b g (by simp[s]) i d m
 .intro f b;rcases mem f b with rfl|⟨k,p⟩
  .intro i a;rcases hi i a with q|q
   .exact h.lo e (by simp) i q
   .omega
  .exact h.lo f k
 .have:=h.num;rw[Xf,Vq]at this⊢;show(_++x'.number::_).Nodup;rw[x];exact this
theorem YA.add(h:YA K lo H bk)(s:QbF K H' x' p')(r:∀e∈bk,e.1.number≠x'.number)(n:∀j,lo<=j->j<H.length->H'[j]?=H[j]?)
  (hi:∀i∈p'.ix,H.length<=i)(u:p'.ix.Nodup)(hl:lo<=H.length):YA K lo H' (bk++[(x',p')]):=by
 have t:=h.keep n;have mem:∀f∈bk++[(x',p')],f∈bk\/f=(x',p'):=by
  intro f d;rcases VJ.1 d with q|q
  .exact .inl q
  .exact .inr (VH.1 q)
 refine⟨?_,?_,?_,?_,?_⟩
 .intro f d;rcases mem f d with q|rfl
  .exact t.laid f q
  .exact s
 .intro f d;rcases mem f d with q|rfl
  .exact h.own f q
  .exact u
 .refine List.pairwise_append.2 ⟨h.ne,by simp,λf d g w i k l=>?_⟩;obtain rfl:=VH.1 w;have:=(h.laid f d).lt i k;have:=hi i l;omega
 .intro f d i k;rcases mem f d with q|rfl
  .exact h.lo f q i k
  .have:=hi i k;omega
 .rw[Xf];refine List.nodup_append.2 ⟨h.num,by simp,?_⟩;intro a p b m;simp at m;subst m;obtain⟨f,d,rfl⟩:=Xe.1 p;exact r f d
theorem QdP:∀(d:Qa0 α β) (k:Int),(YF (YR d) k=none/\ ∀e∈d,e.1.number≠k)\/ ∃l e r,d=l++e::r/\e.1.number=k/\(∀y∈l,y.1.number≠k)/\YF (YR d) k=some e.2.b
 |[],k=>.inl ⟨rfl,λ_ h=>by cases h⟩
 |e::l,k=>by
  have e0:YF (YR (e::l)) k=if e.1.number=k then some e.2.b else YF (YR l) k:=by
   show YF ((e.1.number,e.2.b)::YR l) k=_;simp[YF];by_cases q:e.1.number=k<;>simp[q]
  by_cases q:e.1.number=k
  .exact .inr ⟨[],e,l,rfl,q,(λ_ h=>by cases h),by rw[e0,Vz q]⟩
  .rcases QdP l k with⟨f,g⟩|⟨p,y,r,f,g,i,j⟩
   .refine .inl ⟨by rw[e0,Vy q];exact f,λz a=>?_⟩;rcases Vc.1 a with rfl|a
    .exact q
    .exact g z a
   .refine .inr ⟨e::p,y,r,by rw[f];rfl,g,λz a=>?_,by rw[e0,Vy q,j]⟩;rcases Vc.1 a with rfl|a
    .exact q
    .exact i z a
theorem Ql7(p q:Qa0 α β):YR (p++q)=YR p++YR q:=by simp[YR]
theorem Ql6(a:x'.number=e.1.number)(d:p'.b=e.2.b):YR (l++(x',p')::r)=YR (l++e::r):=by simp[YR,a,d]
end
section
variable {fr ro ro':Nat->Prop} {σ:Sig} {w:World} {α β:Type} (K:FK α β)
theorem Qot(sub:∀c,ro c->ro' c){p:Pl}{x:Fil α β}{v:Value}{H:Qd}(hl:QbF K H x p)(e:∀i∈p.ix,∀(c:Nat) (y:Blk),H[i]?=some y->σ[i]?=some (some c)->BR ro σ w y (some c)/\ro' c)(h:VR ro σ w (.ptr p.b 0) v):VR ro' [] w (.rp (frp K x)) v:=by
 obtain⟨c,u,q⟩:=h;obtain⟨⟨l,m,a,G⟩,B⟩:=e p.b (by simp[Pl.ix]) c _ hl.c u;refine⟨c,0,q,B,?_⟩;refine Qh5 (pre:=[]) (by simpa using m) ?_ G;unfold Q4 at a;obtain⟨v0,O,rfl,r,a⟩:=a;obtain⟨k,N,rfl,E,a⟩:=a;obtain⟨z,P,rfl,s,a⟩:=a;obtain⟨j,L,rfl,n,a⟩:=a;obtain⟨f,Q,rfl,J,a⟩:=a;obtain⟨F,M,rfl,g,a⟩:=a;refine⟨v0,_,rfl,r,k,_,rfl,Qa4 sub (t:=K.tF) (λc d=>e p.i0 (by simp[Pl.ix]) c _ hl.r0 d) (by simpa using E),z,_,rfl,Qa4 sub (t:=K.tF) (λc d=>e p.i1 (by simp[Pl.ix]) c _ hl.r1 d) (by simpa using s),j,_,rfl,Qa4 sub (t:=K.tF) (λc d=>e p.i2 (by simp[Pl.ix]) c _ hl.r2 d) (by simpa using n),
  f,_,rfl,Qa4 sub (t:=K.tR) (λc d=>e p.i3 (by simp[Pl.ix]) c _ hl.r3 d) (by simpa using J),F,_,rfl,g,a⟩
theorem Qhb(sub:∀c,ro c->ro' c){H:Qd}{ek:Int->A}(hek:∀(k:Int) (v:Value),VR ro σ w (ek k) v->VR ro' [] w (ek k) v):∀{bk:Qa0 α β} {es:List MapEntry},(∀e∈bk,QbF K H e.1 e.2)->(∀e∈bk,∀i∈e.2.ix,∀(c:Nat) (y:Blk),H[i]?=some y->σ[i]?=some (some c)->BR ro σ w y (some c)/\ro' c)->
  ER ro σ w (Qi ek Qep (YR bk)) es->ER ro' [] w (Qi ek (rpE K) (Qet (bk.map (·.1)))) es
 |[],es,_,_,h=>h
 |x::l,es,hl,hb,h=>by
  obtain⟨e,l',rfl,h1,h2,h3⟩:=h;exact⟨e,l',rfl,hek _ _ h1,Qot K sub (hl x (by simp)) (hb x (by simp)) h2,Qhb sub hek (λe he=>hl e (by simp[he])) (λe he=>hb e (by simp[he])) h3⟩
def Qcx(bk:Qa0 α β):List Nat:=bk.flatMap λe=>e.2.ix
theorem YA.all{lo:Nat}{H:Qd}:∀{j:Qa0 α β},YA K lo H j->(Qcx j).Nodup/\ ∀i∈Qcx j,lo<=i/\ ∃y,H[i]?=some y/\y.live=true:=by
 intro j h;refine⟨?_,?_⟩
 .have q:=h.own;have w:=h.ne;clear h
  induction j with
  |nil=>exact List.nodup_nil
  |cons e l r=>
   obtain⟨s,u⟩:=Xc.1 w;show(e.2.ix++Qcx l).Nodup;refine List.nodup_append.2 ⟨q e (by simp),r (λf n=>q f (by simp[n])) u,?_⟩;intro a t b x k;obtain⟨f,n,m⟩:=List.mem_flatMap.1 x;exact s f n a t (k▸m)
 .intro i g;obtain⟨e,p,g⟩:=List.mem_flatMap.1 g;refine⟨h.lo e p i g,?_⟩;have d:=h.laid e p;simp only[Pl.ix,Vc,List.not_mem_nil,or_false]at g;rcases g with rfl|rfl|rfl|rfl|rfl
  .exact⟨_,d.c,rfl⟩
  .exact⟨_,d.r0,rfl⟩
  .exact⟨_,d.r1,rfl⟩
  .exact⟨_,d.r2,rfl⟩
  .exact⟨_,d.r3,rfl⟩
end
section
variable {α β:Type} (K:FK α β) {env:Env} {H:Qd}
theorem QoH{h0 lo m:Nat}{g:Qa0 α β}(F:YA K lo H g)(u:Nat.blt m lo=true)(t:H[m]?=some (.mapP (Qi (λn=>.int .i64 n) Qep (YR g)))):
  Le h0 env H env ((QbZ H (Qcx g)).set m (.fmap (Qi (λn=>.int .i64 n) (rpE K) (Qet (g.map (·.1)))))):=by
 intro R ro σ N a w r;have s:=r.sim;obtain⟨nd,d⟩:=F.all;have M:m<lo:=by simpa[Nat.blt_eq]using u
 have L:∃q,σ[m]?=some q:=by
  have:m<σ.length:=by rw[s.len];exact(XR.1 t).1
  exact⟨_,XQ this⟩
 obtain⟨q,E⟩:=L;cases q with
 |none=>exact(s.blk m _ _ E t).elim
 |some x=>
 obtain⟨b,Q,f,p⟩:=QdR s (l:=Qcx g) nd (λi z=>(d i z).2);have B:(QbZ H (Qcx g))[m]?=some (.mapP (Qi (λn=>.int .i64 n) Qep (YR g))):=by
  rw[QgD (λq=>by have:=(d m q).1;omega)];exact t
 have P:=Q.shutMapP (es':=Qi (λn=>.int .i64 n) (rpE K) (Qet (g.map (·.1)))) E B (λl G=>?_)
 .have sub:∀c,ro c->b c\/c=x:=λc j=>.inl (f c j);have ext:Ext ro σ w (λc=>b c\/c=x) σ w:=⟨sub,λ_ _=>rfl,λ_ _ q=>q,λ_ _ q=>q⟩;exact⟨_,σ,⟨P,λq=>(r.env q).mono ext,r.size,r.defers⟩,sub,rfl⟩
 .have ext:Ext ro σ w b σ w:=⟨f,λ_ _=>rfl,λ_ _ q=>q,λ_ _ q=>q⟩;refine Qhb K (ek:=λn=>.int .i64 n) (ro:=b) (ro':=λc=>b c\/c=x) (H:=H) (λc j=>.inl j) (λk v h=>h) F.laid (λe J i z c y O j=>?_) G;exact⟨(s.blk _ _ _ j O).keep ext (λ_ _ _=>rfl) (λ_ _ _ _=>rfl),.inl (p _ (List.mem_flatMap.2 ⟨e,J,z⟩) c j)⟩
end
end Go.Sw
namespace Go.Sw
section
variable {P:Program} {h0 N:Nat} {all:Array Oper} {o:Oper} {l:List Oper} {env:Env} {H:Qd} {Q:QB}
theorem QcO{d:Nat}{f:FuncId}{args:List A}{Qr:A->Qd->Prop}(i:OpC P o env H f args)(x:C P f args H Qr)
  (k:∀r H1,Qr r H1->WO P h0 N all l (up env d r) H1 Q)(G:h0<=H.length)(hg:Qs all o env true:=by exact rfl)(hd:o.dst=some d:=by exact rfl)(hN:Nat.blt d N=true:=by exact rfl):
  WO P h0 N all (o::l) env H Q:=by
 intro z fr m σ a w r hrd;obtain⟨g,B,F⟩:=i fr m σ N a w r;refine Qdu (YH hg r) B ?_;have hσl:=r.sim.len;refine Calls.mono (x fr m σ g w r.sim F) ?_;rintro e j ⟨v,n,H1,b,τ,rfl,u,y,p,ev⟩;have t:=k n H1 u;simp only[hd,Act.put];have h:d<N:=by simpa[Nat.blt_eq]using hN
 have E:Rel fr b (σ++τ) H1 (up env d n) N {a with tmps:=a.tmps.setIfInBounds d v} j:=
  ⟨y,VR.up (fr:=fr) (λs=>(r.env s).mono (ev.ext σ τ)) (by rw[r.size];exact h) p,by simpa using r.size,r.defers.keep ev⟩
 exact⟨_,rfl,Yk (λe a w q=>q.step ev (Qw (by omega))) _ _ _ (t z fr b (σ++τ) _ j E (hrd.to ev λ_ q=>q))⟩
end
section
variable {h0 n:Nat} {env env':Env} {H H':Qd}
theorem QoJ(n:Nat)(hn:h0<=n)(hl:n<=H.length)(hH:(H'.map (QX (rho (List.range n) H.length))).map some=(List.range n).map (λp=>H[p]?))(hE:Qem (rho (List.range n) H.length) env env'):Le h0 env H env' H':=
 QoI (List.range n) (by rw[List.take_range,XG hn]) hH.symm List.nodup_range hE
end
section
variable {P:Program} {o:Oper} {env:Env} {H:Qd} {α:Type}
end
end Go.Sw
namespace Go.Sw
section
variable {α β:Type}
def Qat(k:Int):Fil α β:=⟨k,[],[],[],[],false⟩
def Qah(fs:List (Fil α β))(k:Int):List (Fil α β):=bif fs.any (λx=>decide (x.number=k))then fs else fs++[Qat k]
def Qbp(fs:List (Fil α β))(k:Int)(g:Fil α β->Fil α β):List (Fil α β):=fs.map λx=>bif decide (x.number=k)then g x else x
def Qd3(fs:List (Fil α β)):Bool:=fs.all λx=>Nat.ble (x.r0.length+1) Qt&&Nat.ble (x.r1.length+1) Qt&&Nat.ble (x.r2.length+1) Qt&&Nat.ble (x.reports.length+1) Qt
variable (K:FK α β) {lo:Nat} {H H':Qd} {bk:Qa0 α β}
theorem Qc8{fs:List (Fil α β)}{k:Int}(h:∃x∈fs,x.number=k):Qah fs k=fs:=by
 unfold Qah;have:fs.any (λx=>decide (x.number=k))=true:=by
  obtain⟨x,a,e⟩:=h;exact Xw.2 ⟨x,a,by simp[e]⟩
 rw[this];rfl
theorem Qb2{fs:List (Fil α β)}{k:Int}(h:∀x∈fs,x.number≠k):Qah fs k=fs++[Qat k]:=by
 unfold Qah;have:fs.any (λx=>decide (x.number=k))=false:=by
  rw[List.any_eq_false];intro x a;simp[h x a]
 rw[this];rfl
theorem QoZ{l r:List (Fil α β)}{x:Fil α β}{k:Int}{g:Fil α β->Fil α β}(d:((l++x::r).map (·.number)).Nodup)(b:x.number=k):Qbp (l++x::r) k g=l++g x::r:=by
 rw[Xf,Vq,List.nodup_append]at d;obtain⟨p,f,n⟩:=d;rw[List.nodup_cons]at f;have e:∀m:List (Fil α β),(∀y∈m,y.number≠k)->Qbp m k g=m:=by
  intro m j;unfold Qbp
  conv=>rhs;rw[<- List.map_id m]
  exact List.map_congr_left λy a=>by simp[j y a]
 have h:=e l (λy a q=>n y.number (VM a) x.number (by simp) (by rw[q,b]));have i:=e r (λy a q=>f.1 (by rw[b, <- q];exact VM a));unfold Qbp at h i⊢;rw[Xf,Vq,h,i];simp[b]
theorem Qik{l r:List (Fil α β)}{x:Fil α β}(h:Qd3 (l++x::r)=true):x.r0.length+1<=Qt/\x.r1.length+1<=Qt/\x.r2.length+1<=Qt/\x.reports.length+1<=Qt:=by
 unfold Qd3 at h;have:=Xv.1 h x (by simp);simp only[X3]at this;obtain⟨⟨⟨a,e⟩,b⟩,d⟩:=this;exact⟨XX a,XX e,XX b,XX d⟩
def Qa1(n:Nat):Pl:=⟨n,n+1,n+2,n+3,n+4⟩
def Qcf(n:Nat)(k:Int):Qd:=[.cells K.T (Q4 K (Qa1 n) (Qat k)),.row K.tF K.kF [],.row K.tF K.kF [],.row K.tF K.kF [],.row K.tR K.kR []]
theorem Qkx{h0:Nat}{env:Env}{k:Int}(d:h0<=H.length):
  Le h0 env (H++[.cells K.T [.int .i64 k,.nils,.nils,.nils,.nils,.bool false]]) env (H++Qcf K H.length k):=by
 have a:∀(n:Nat) (G:Qd) (cs cs':List A) (t k':Nat) (m:Nat),n=H.length+1+G.length->cs[m]?=some .nils->cs'=cs.set m (.osl n 0 0 k')->
   Le h0 env (H++.cells K.T cs::G) env (H++.cells K.T cs'::(G++[.row t k' []])):=by
  intro n G cs cs' t k' m hn hm hc;have:=YT (h0:=h0) (env:=env) (H:=H++.cells K.T cs::G) (i:=H.length) (m:=m) (t:=t) (k:=k') (T:=K.T) (cs:=cs)
   (by simp;omega) (by simp) hm
  have e:(H++.cells K.T cs::G).length=n:=by simp;omega
  rw[e]at this;have b:(H++.cells K.T cs::G).set H.length (.cells K.T (cs.set m (.osl n 0 0 k')))=H++.cells K.T cs'::G:=by
   rw[List.set_append_right _ _ (XZ _),Nat.sub_self,hc];rfl
  rw[b,Vp]at this;exact this
 refine Le.trans (a (H.length+1) [] _ _ K.tF K.kF 1 (by simp) rfl rfl) ?_;refine Le.trans (a (H.length+2) [.row K.tF K.kF []] _ _ K.tF K.kF 2 (by simp) rfl rfl) ?_;refine Le.trans (a (H.length+3) [.row K.tF K.kF [],.row K.tF K.kF []] _ _ K.tF K.kF 3 (by simp) rfl rfl) ?_;exact a (H.length+4) [.row K.tF K.kF [],.row K.tF K.kF [],.row K.tF K.kF []] _ _ K.tR K.kR 4 (by simp) rfl rfl
theorem QbF.new{k:Int}:QbF K (H++Qcf K H.length k) (Qat k) (Qa1 H.length):=by
 have g:∀(j:Nat) (y:Blk),(Qcf K H.length k)[j]?=some y->(H++Qcf K H.length k)[H.length+j]?=some y:=by
  intro j y h;rw[XT (by omega),Nat.add_sub_cancel_left];exact h
 exact⟨g 0 _ rfl,g 1 _ rfl,g 2 _ rfl,g 3 _ rfl,g 4 _ rfl⟩
theorem QkO(n:Nat):(∀i∈(Qa1 n).ix,n<=i)/\(Qa1 n).ix.Nodup:=by
 refine⟨?_,?_⟩
 .intro i a;simp only[Pl.ix,Qa1,Vc,List.not_mem_nil,or_false]at a;omega
 .simp[Pl.ix,Qa1]
variable {K}
theorem YA.new{k:Int}(h:YA K lo H bk)(a:∀e∈bk,e.1.number≠k)(hl:lo<=H.length):YA K lo (H++Qcf K H.length k) (bk++[(Qat k,Qa1 H.length)]):=by
 refine h.add (QbF.new K) a (λj d b=>by rw[XS b]) (QkO _).1 (QkO _).2 hl
theorem YA.row{l r:Qa0 α β}{e:Fil α β×Pl}{x':Fil α β}{p':Pl}{i:Nat}{y:Blk}(h:YA K lo H (l++e::r))(hl:lo<=H.length)(F:x'.number=e.1.number)(hi:i∈e.2.ix)(E:i≠e.2.b)(g:p'.b=e.2.b)
  (hH:H'=(H.set i .dead++[y]).set e.2.b (.cells K.T (Q4 K p' x')))
  (s:p'.ix=e.2.ix.map λj=>bif Nat.beq j i then H.length else j)
  (h0:H'[p'.i0]?=some (.row K.tF K.kF (x'.r0.map K.eF)))(M:H'[p'.i1]?=some (.row K.tF K.kF (x'.r1.map K.eF)))(z:H'[p'.i2]?=some (.row K.tF K.kF (x'.r2.map K.eF)))(L:H'[p'.i3]?=some (.row K.tR K.kR (x'.reports.map K.eR))):
  YA K lo H' (l++(x',p')::r):=by
 have w:=h.laid e (by simp);have d:=w.lt;have u:e.2.b<H.length:=d _ (by simp[Pl.ix]);refine h.upd ⟨?_,h0,M,z,L⟩ F ?_ ?_ ?_ hl
 .rw[hH,g,Xa (by simp;omega)]
 .intro j m J n;rw[hH,XV (λq=>n (by rw[<- q];simp[Pl.ix])),XS (by simpa using J),XV (λq=>n (by rw[<- q];exact hi))]
 .intro j p;rw[s]at p;obtain⟨x,m,rfl⟩:=Xe.1 p;cases q:Nat.beq x i with
  |true=>exact .inr (XZ _)
  |false=>exact .inl m
 .rw[s];have t:=h.own e (by simp);refine List.pairwise_map.2 (List.Pairwise.imp_of_mem ?_ t);intro a b B g f;have N:=d a B;have O:=d b g;cases G:Nat.beq a i with
  |true=>
   cases k:Nat.beq b i with
   |true=>exact absurd ((XW G).trans (XW k).symm) f
   |false=>simp only[Vv,Vw];omega
  |false=>
   cases k:Nat.beq b i with
   |true=>simp only[Vv,Vw];omega
   |false=>exact f
end
end Go.Sw
namespace Go.Sw
section
variable {fr ro:Nat->Prop} {σ:Sig} {H:Qd} {w:World}
end
section
variable {P:Program} {o:Oper} {env:Env} {H:Qd}
theorem Le.frow{h0 s i n k t:Nat}{es:List (List A)}(y:lk env s=.osl i 0 n k)(hH:H[i]?=some (.frow t k es))(E:es.length=n):Le h0 env H (up env s (.rsl k es)) H:=by
 intro T j σ N a w r;refine⟨j,σ,⟨r.sim,?_,r.size,r.defers⟩,λ_ q=>q,rfl⟩;intro e;simp only[lk];by_cases q:e=s
 .subst q;rw[VL];have:=r.env e;rw[y]at this;show VR j σ w (.rsl k es) _;rcases this with⟨g,f⟩|⟨b,p,d,R,m,g,f,G,⟨J,F⟩,Q,O⟩
  .have:es=[]:=VP.1 (by omega);subst this;exact⟨none,0,by rw[f];rfl,XZ _,.inl rfl⟩
  .obtain⟨x,l,u,B,P⟩:=r.sim.blk i _ _ g hH;refine⟨_,d,by rw[f,E],by omega,?_⟩;by_cases h:es=[]
   .exact .inl h
   .right;have L:0<d:=Vl (by have:=List.length_pos_iff.2 h;omega) J;have M:=G L;refine⟨b,0,by rw[M];simp,x,?_⟩;exact YV (pre:=[]) (by simpa using u) B
 .have:Nat.beq e s=false:=by
   cases z:Nat.beq e s with
   |true=>exact absurd (XW z) q
   |false=>rfl
  rw[this];exact r.env e
end
end Go.Sw
namespace Go.Sw
open Go.MapKept
section
variable {P:Program} {kt et:Nat} {α β:Type} [DecidableEq α] {ek:α->A} {ev:β->A} {ro:Nat->Prop} {σ:Sig} {w:World} (K:Y1 P kt ek)
include K
variable {o:Oper} {env:Env} {H:Qd} {T T' i:Nat} {x y:Operand} {l m:List (α×β)} {k:α}
end
end Go.Sw
namespace Go.Sw
section
variable {P:Program} {h0 N:Nat} {all:Array Oper} {o1 o2:Oper} {l:List Oper} {env:Env} {H:Qd} {Q:QB}
theorem Ql9{t n d:Nat}{z:Value}{v:A}{cs zs:List A}{y:Operand}(hz:∀w,(zeroValue t).run P w=.ok z w)(hv:ZR v z)(hs:∀w,(Go.sizeOf t).run P w=.ok n w)
  (k:WO P h0 N all l (up env d (.rp cs)) H Q)(hk:Yf v=true:=by exact rfl)(hzs:Q8 v=zs:=by exact rfl)(hpl:zs.all Ym=true:=by exact rfl)(hzn:zs.length=n:=by exact rfl)(hn:cs.length=n:=by exact rfl)
  (ho1:o1.op=.alloc t:=by exact rfl)(hd1:o1.dst=some d:=by exact rfl)(ho2:o2.op=.store t (.tmp d) y:=by exact rfl)(hd2:o2.dst=none:=by exact rfl)(hy:opA (up env d .any) y=.agg cs:=by exact rfl)(hda:Yo cs=true:=by exact rfl)(hcp:cs.all Ym=true:=by exact rfl)(hkc:Yf (.agg cs)=true:=by exact rfl)(hcc:Q8 (.agg cs)=cs:=by exact rfl)
  (hg1:Qs all o1 env true:=by exact rfl)(hg2:Qs all o2 (up env d .any) true:=by exact rfl)(hN:Nat.blt d N=true:=by exact rfl):WO P h0 N all (o1::o2::l) env H Q:=by
 intro rd fr B σ a w r hrd;obtain⟨M,h2,h3⟩:=(hv B σ w).cells hk;rw[hzs]at h3
 let w1:World:=w.alloc (.cells M.toArray t)
 have V:(execOp a.eval o1).run P w=.ok (.value (.pointer (some ⟨w.heap.size,0,none⟩))) w1:=by
  generalize a.eval=ρ at*;have e:(newVar t z).run P w=.ok ⟨w.heap.size,0,none⟩ (w.alloc (.cells M.toArray t)):=by
   unfold newVar;rw[h2];rfl
  simp only[execOp,ho1,Instr.alloc,Vt,hz,Result.andThen,e];rfl
 refine Js (YH hg1 r) V ?_;simp only[hd1,Act.put];have ae:d<N:=by simpa[Nat.blt_eq]using hN
 have L:d<a.tmps.size:=by rw[r.size];exact ae
 let a1:Act:={a with tmps:=a.tmps.setIfInBounds d (.pointer (some ⟨w.heap.size,0,none⟩))}
 have u:∀b,b<w.heap.size->w1.heap[b]?=w.heap[b]? :=λb R=>Yv _ _ b R;have F:w.heap.size<=w1.heap.size:=by show _<=(w.alloc _).heap.size;rw[Yu];omega
 have g:Qh fr B w B w1:=Qh.alloc _ r.sim.roLt r.sim.frLt;have r1:Rel fr B σ H (up env d .any) N a1 w1:=⟨r.sim.grown u F,VR.up (fr:=fr) (λs=>(r.env s).mono (g.ext0 σ)) L trivial,by simpa[a1]using r.size,r.defers.keep g⟩;have O:=Qg r1 y;rw[hy]at O;obtain⟨m,h4,h5⟩:=O.cells hkc;rw[hcc]at h5;have j:w1.heap[w.heap.size]?=some (.cells M.toArray t (0,0)):=Q6 _ _;have ab:M.length=n:=by rw[h3.length,hzn]
 have J:m.length=n:=by rw[h5.length,hn]
 have Y:=Yb (P:=P) (vs:=m) 0 0 j (by omega) (h5.plain hcp);have ag:splice M (0+0) m=m:=by
  unfold splice;simp[ab,J]
 rw[ag]at Y
 let w2:World:={w1 with heap:=w1.heap.setIfInBounds w.heap.size (.cells m.toArray t (0,0))}
 have he:a1.eval (.tmp d)=.pointer (some ⟨w.heap.size,0,none⟩):=by
  show(a.tmps.setIfInBounds d _).getD d undef=_;rw[QiD L,Vz rfl]
 have aa:(execOp a1.eval o2).run P w1=.ok .skip w2:=by
  have af:(storeVar t ⟨w.heap.size,0,none⟩ (a1.eval y)).run P w1=.ok () w2:=by
   unfold storeVar;rw[Vt,hs];simp only[Result.andThen];rw[Vy (by simp[h4,J]),h4];simpa using Y
  generalize a1.eval=ρ at*;simp only[execOp,ho2,he,Instr.storeAt,Instr.sureAddr,pure_bind,Vt,af];rfl
 refine Qh8 (YH hg2 r1) aa ?_;simp only[hd2,Act.put];have f:∀b,b<w.heap.size->w2.heap[b]?=w.heap[b]? :=λb R=>by
  show(w1.heap.setIfInBounds w.heap.size _)[b]?=_;rw[Array.getElem?_setIfInBounds_ne (by omega)];exact u b R
 have E:w2.heap.size=w1.heap.size:=by simp[w2]
 have G:w.heap.size<w1.heap.size:=(Vi.1 j).1;have T:w.heap.size<=w2.heap.size:=by rw[E];exact F
 have p:w2.heap[w.heap.size]?=some (.cells m.toArray t (0,0)):=by
  show(w1.heap.setIfInBounds w.heap.size _)[w.heap.size]?=_;rw[Array.getElem?_setIfInBounds_self_of_lt G]
 have s1:=r.sim.grown f T;have s2:=s1.addRo (b:=w.heap.size) (by rw[E];exact G) (λq=>Nat.lt_irrefl _ (r.sim.frLt _ q)) (λi x X W p3=>Nat.lt_irrefl _ (r.sim.own i _ x X W p3).1)
  (λi d x X W p3=>Nat.lt_irrefl _ (r.sim.hid i d x _ X W (r.sim.hidKeep X W (λz=>f d (r.sim.own i d x X W z).1) (λb q=>f b (r.sim.roLt b q)) p3)).lt)
 have ev:Qh fr B w (λc=>B c\/c=w.heap.size) w2:=by
  refine⟨λb q=>.inl q,λb q=>f b (r.sim.roLt b q),λb q=>f b (r.sim.frLt b q),T,?_,g.os,g.tape,g.output,g.drawn⟩;intro b x h;have R:b<w.heap.size:=by
   unfold World.shape? at h;cases q:w.heap[b]? with
   |none=>rw[q]at h;simp at h
   |some _=>exact(Vi.1 q).1
  unfold World.shape? at h⊢;rw[f b R];exact h
 have ac:VR (λc=>B c\/c=w.heap.size) σ w2 (.rp cs) (.pointer (some ⟨w.heap.size,0,none⟩)):=by
  refine⟨w.heap.size,0,rfl,.inr rfl,?_⟩;refine Qh5 (pre:=[]) (by simpa using p) ?_ (h5.plain hcp);have h6:LR B [] w1 cs m:=LR.data hda h5;refine h6.mono ⟨λ_ q=>.inl q,λb q=>?_,λb x h=>?_,λ_ _ q=>q⟩
  .show(w1.heap.setIfInBounds w.heap.size _)[b]?=_;have:=r.sim.roLt b q;rw[Array.getElem?_setIfInBounds_ne (by omega)]
  .by_cases e:b=w.heap.size
   .subst e;unfold World.shape? at h⊢;rw[j]at h;rw[p];simp at h⊢;rw[ab]at h;rw[J];exact h
   .unfold World.shape? at h⊢;rw[show w2.heap[b]?=w1.heap[b]? from Array.getElem?_setIfInBounds_ne (Ne.symm e)];exact h
 have r2:Rel fr (λc=>B c\/c=w.heap.size) σ H (up env d (.rp cs)) N a1 w2:=
  ⟨s2,VR.up (fr:=fr) (λs=>(r.env s).mono (ev.ext0 σ)) L ac,by simpa[a1]using r.size,r.defers.keep ev⟩
 exact Yk (λe a w q=>q.step ev rfl) _ _ _ (k rd fr _ σ a1 w2 r2 (hrd.to ev λ_ q=>q))
end
end Go.Sw
namespace Go.Sw
section
variable {P:Program} {o:Oper} {env:Env} {H:Qd}
theorem Qdd{t e:TypeId}{p:Option Addr}{w:World}(a:∀w,(underlying t).run P w=.ok (.pointer e) w):(Op.equal t (.pointer p) (.pointer none)).run P w=.ok p.isNone w:=by
 have k:∀d,(Op.equalIn (d+1) t (.pointer p) (.pointer none)).run P w=.ok p.isNone w:=by
  intro d;cases p<;>simp[Op.equalIn,a,go_sem]
 exact k 9999
theorem Qjj{t e u:TypeId}{x:Operand}{i off:Nat}(j:∀w,(underlying t).run P w=.ok (.pointer e) w)(g:opA env x=.ptr i off)(f:o.op=.binOp .eql t x (.const (.pointer none)) u:=by exact rfl):OpV P o env H (.bool false):=by
 intro n l σ N a w r;have d:=Qg r x;rw[g]at d;obtain⟨b,m,k⟩:=d;have h:a.eval (.const (.pointer none))=.pointer none:=rfl;refine⟨_,?_,rfl⟩;generalize a.eval=ρ at*;simp[execOp,f,k,h,Go.binOp,eqGuard,Qdd j,go_sem]
theorem Qjk{t e u:TypeId}{x:Operand}(h:∀w,(underlying t).run P w=.ok (.pointer e) w)(f:opA env x=.nilp)(d:o.op=.binOp .eql t x (.const (.pointer none)) u:=by exact rfl):OpV P o env H (.bool true):=by
 intro k j σ N a w r;have b:=Qg r x;rw[f]at b;have g:a.eval (.const (.pointer none))=.pointer none:=rfl;have i:a.eval x=.pointer none:=b;refine⟨_,?_,rfl⟩;generalize a.eval=ρ at*;simp[execOp,d,i,g,Go.binOp,eqGuard,Qdd h,go_sem]
end
end Go.Sw
namespace Go.Sw
section
variable {P:Program} {o:Oper} {env:Env} {H:Qd} {α:Type}
def Qhz(l:List α)(lo hi i:Int):Option α:=bif decide (0<=lo)&&(decide (0<=i)&&decide (lo+i<hi))then idx l (lo+i)else none
theorem QkY{l:List α}{lo hi i:Int}{v:α}(h:Qhz l lo hi i=some v):0<=lo/\0<=i/\lo+i<hi/\idx l (lo+i)=some v:=by
 unfold Qhz at h;cases q:decide (0<=lo)&&(decide (0<=i)&&decide (lo+i<hi))with
 |false=>rw[q]at h;cases h
 |true=>
  rw[q]at h;rw[X3,X3,Vx,Vx,Vx]at q;exact⟨q.1,q.2.1,q.2.2,h⟩
theorem Qhy{l:List α}{lo hi i:Int}{v:α}(h:Qhz l lo hi i=some v):idx l (lo+i)=some v:=(QkY h).2.2.2
theorem Qf1{t et k b:Nat}{x y:Operand}{l:List α}{f:IntKind}{lo hi i:Int}{v:α}(h:Qhz l lo hi i=some v)(j:∀w,(underlying t).run P w=.ok (.slice et) w)(d:∀w,(sizeOf et).run P w=.ok k w)
  (a:o.op=.indexAddr t x y:=by exact rfl)(hx:opA env x=.osl b (0+lo.toNat) (hi.toNat-lo.toNat) k:=by exact rfl)(hy:opA env y=.int f i:=by exact rfl):OpV P o env H (.ptr b ((lo+i).toNat*k)):=by
 obtain⟨n,m,p,_⟩:=QkY h;have g:=QhW (H:=H) a j d hx hy m (by omega);have e:(0+lo.toNat)*k+i.toNat*k=(lo+i).toNat*k:=by
  rw[<- XF];congr 1;omega
 rwa [e]at g
end
end Go.Sw
namespace Go.Sw
section
variable {P:Program} {o:Oper} {env:Env} {H:Qd}
theorem QcR{β:Type}{t et n:Nat}{x y:Operand}{L:List β}{f:β->A}{rest cs:List A}{i:Int}{l:β}{G:IntKind}(h:idx L i=some l)(B:cs=L.map f++rest)(hn:L.length=n)(Q:∀w,(underlying t).run P w=.ok (.array n et) w)(V:∀w,(sizeOf et).run P w=.ok 1 w)(u:Nat.ble 2 n=true)
  (O:o.op=.indexAddr t x y:=by exact rfl)(hx:opA env x=.rp cs:=by exact rfl)(hy:opA env y=.int G i:=by exact rfl):OpV P o env H (.rp [f l]):=by
 intro fr ro σ N a w r;have k:=Qg r x;rw[hx]at k;obtain⟨m,b,k,E,z⟩:=k;have J:=Qg r y;rw[hy]at J;have s:a.eval y=.int G i:=J;obtain⟨Y,d⟩:=Qau h;have F:i.toNat<L.length:=(XR.1 d).1;have R:2<=n:=XX u;have W:i=(i.toNat:Int):=by omega
 generalize i.toNat=j at*;subst W;have p:j<n:=by omega
 refine⟨.pointer (some ⟨m,b+j*1,none⟩),?_,m,b+j*1,rfl,E,?_⟩
 .have T:0<=(j:Int)/\(j:Int)<(n:Int):=by omega
  have g:(⟨m,b,none⟩:Addr).add ((j:Int).toNat*1)=⟨m,b+j*1,none⟩:=by
   unfold Addr.add;split
   .rename_i q;simp at q;simp[q]
   .simp
  generalize a.eval=ρ at*;simp[execOp,O,k,s,Instr.indexAt,asIntOf,Q,V,Instr.sureAddr,T,g,go_sem,Result.andThen,p]
 .have M:=CR.take 1 (CR.drop j z);have e:(cs.drop j).take 1=[f l]:=by
   rw[B,Ve (by rw[X7];omega), <- List.map_drop];have:L.drop j=l::L.drop (j+1):=by
    have X:=Xr F;rw[X,(XR.1 d).2]
   rw[this];rfl
  rw[e]at M;rw[Nat.mul_one];exact M
end
end Go.Sw
namespace Go.Sw
section
variable {env:Env} {H:Qd}
theorem Qmx{h0 i j m o' n k T:Nat}{x:Blk}{cs:List A}(hi:H[i]?=some x)(F:H[j]?=some (.cells T cs))(s:cs[m]?=some (.osl i o' n k))(f:Nat.beq i j=false)(V:Nat.ble h0 H.length=true):
  Le h0 env H env ((H.set i .dead).set j (.cells T (cs.set m (.osl H.length o' n k)))++[x]):=by
 intro Y B σ N a w r;have hiσ:i<σ.length:=by rw[r.sim.len];exact(XR.1 hi).1
 have hσ:σ[i]?=some σ[i]:=XQ hiσ;have ext:Ext B σ w B (σ++[σ[i]]) w:=⟨λ_ q=>q,λ_ _=>rfl,λ_ _ q=>q,λ_ _ h=>YL h⟩;have Q:=r.sim.moved hi hσ;have d:j<H.length:=(XR.1 F).1;have E:i≠j:=λq=>by rw[q,VL]at f;cases f
 have e:(H.set i .dead++[x])[j]?=some (.cells T cs):=by
  rw[XS (by simpa using d),XV E];exact F
 have M:(H.set i .dead).set j (.cells T (cs.set m (.osl H.length o' n k)))++[x]=(H.set i .dead++[x]).set j (.cells T (cs.set m (.osl H.length o' n k))):=by
  rw[List.set_append_left _ _ (by simpa using d)]
 rw[M];refine⟨B,σ++[σ[i]],⟨Q.weaken e rfl ?_,λq=>(r.env q).mono ext,r.size,r.defers⟩,λ_ q=>q,Qw (by rw[r.sim.len];exact XX V)⟩;have g:σ.length=H.length:=r.sim.len;intro y h;cases y with
 |none=>exact h
 |some b=>
  obtain⟨l,G,R,L⟩:=h;refine⟨l,G,?_,L⟩;clear G L e M F Q
  induction cs generalizing m l with
  |nil=>cases s
  |cons c cs X=>
   obtain⟨v,u,rfl,J,O⟩:=R;cases m with
   |zero=>
    simp at s;subst s;refine⟨v,u,rfl,?_,O⟩;rcases J with h|⟨b,p,z,t,m,P,W⟩
    .exact .inl h
    .refine .inr ⟨b,p,z,t,m,?_,W⟩;rw[XS hiσ,hσ]at P;rw[<- g];simpa using P
   |succ m=>exact⟨v,u,rfl,J,X (by simpa using s) u O⟩
def Qff{β γ:Type}(o:Option β)(n:Option γ)(s:β->Option γ):Option γ:=match o with
 |none=>n
 |some v=>s v
theorem Qnt{β γ:Type}{o:Option β}{n:Option γ}{s:β->Option γ}{r:γ}(h:Qff o n s=some r):(o=none/\n=some r)\/ ∃v,o=some v/\s v=some r:=by
 cases o with
 |none=>exact .inl ⟨rfl,h⟩
 |some v=>exact .inr ⟨v,rfl,h⟩
theorem QhY{P:Program}{o:Oper}{H':Qd}{T:Nat}{x y zz:Operand}(d:o.op=.insert T x y zz)(h:OpU P {o with op:=.mapUpdate T x y zz} env H H'):OpU P o env H H':=by
 intro g e σ N a w r;obtain⟨j,b,τ,i,k,f⟩:=h g e σ N a w r;exact⟨j,b,τ,by simpa only[execOp,d]using i,k,f⟩
end
section
variable {P:Program} {o:Oper} {env:Env} {H:Qd} {T kt et:Nat} {α β:Type} [DecidableEq α] {ek:α->A} {ev:β->A} {x y:Operand} {i:Nat} {l:List (α×β)} {k:α} {z:Value} {zA:A}
theorem Qmk{v:β}(K:Y1 P kt ek)(g:YF l k=some v)(F:P.underlying T=some (.map kt et))
  (t:o.op=.lookup T x y true:=by exact rfl)(hx:opA env x=.map i:=by exact rfl)(hH:H[i]?=some (.map (Qi ek ev l)):=by exact rfl)(hy:opA env y=ek k:=by exact rfl):OpV P o env H (.tup [ev v,.bool true]):=by
 intro fr X σ N a w r;have p:=Qg r x;rw[hx]at p;obtain⟨b,J,u⟩:=p;have m:=Qg r y;rw[hy]at m;have O:=VR.val (K.scl _) m;obtain⟨z,f,G,s,R,W,M⟩:=r.sim.blk i _ _ J hH;obtain⟨E,Q⟩:=ER.find K s k M;rcases K.find w k z.toList (QaZ K s)with⟨h,d⟩|⟨j,e,h,d,L⟩
 .rw[(E d).1]at g;cases g
 .obtain⟨V,Y,n,B⟩:=Q j e d L;rw[g]at n;cases n;refine⟨.tuple #[e.val,.bool true],?_,[e.val,.bool true],rfl,e.val,_,rfl,B.mono ⟨λ_ q=>q,λ_ _=>rfl,λ_ _ q=>q,λj c q=>by simp at q⟩,_,_,rfl,rfl,rfl⟩;have:(Instr.lookup T (.map (some b)) (QO (ek k)) true).run P w=.ok (.tuple #[e.val,.bool true]) w:=by
   simp only[Instr.lookup,Vt,run_underlying F,Result.andThen,MapKept.run_getObj_map G,Vu,K.check,h,if_true]
  simp only[execOp,t,u,O,Vt,this,Result.andThen];rfl
theorem Qml(K:Y1 P kt ek)(M:YF l k=none)(E:P.underlying T=some (.map kt et))(B:∀w,(zeroValue et).run P w=.ok z w)(f:ZR zA z)
  (s:o.op=.lookup T x y true:=by exact rfl)(hx:opA env x=.map i:=by exact rfl)(hH:H[i]?=some (.map (Qi ek ev l)):=by exact rfl)(hy:opA env y=ek k:=by exact rfl):OpV P o env H (.tup [zA,.bool false]):=by
 intro fr ro σ N a w r;have n:=Qg r x;rw[hx]at n;obtain⟨b,G,t⟩:=n;have h:=Qg r y;rw[hy]at h;have O:=VR.val (K.scl _) h;obtain⟨u,d,F,p,R,Y,L⟩:=r.sim.blk i _ _ G hH;obtain⟨X,Q⟩:=ER.find K p k L;rcases K.find w k u.toList (QaZ K p)with⟨g,q⟩|⟨j,e,g,q,J⟩
 .refine⟨.tuple #[z,.bool false],?_,[z,.bool false],rfl,z,_,rfl,f _ _ _,_,_,rfl,rfl,rfl⟩;have:(Instr.lookup T (.map (some b)) (QO (ek k)) true).run P w=.ok (.tuple #[z,.bool false]) w:=by
   simp only[Instr.lookup,Vt,run_underlying E,Result.andThen,MapKept.run_getObj_map F,Vu,K.check,g,B,if_true]
  simp only[execOp,s,t,O,Vt,this,Result.andThen];rfl
 .obtain⟨V,v',m,W⟩:=Q j e q J;rw[M]at m;cases m
end
end Go.Sw
namespace Go.Sw
open Go.Sort Go.Proofs Go.Shelf
def QlL(l:List Int)(i:Int)(m:List Int):Option (List Int):=bif decide (0<=i)&&(decide (i<=l.length)&&(Nat.blt 0 m.length&&Nat.ble (l.length+m.length) Qt))then some (l.take i.toNat++m++l.drop i.toNat)else none
theorem Qpg{l m r:List Int}{i:Int}(h:QlL l i m=some r):∃j:Nat,i=(j:Int)/\j<=l.length/\0<m.length/\l.length+m.length<=Qt/\r=l.take j++m++l.drop j:=by
 unfold QlL at h;cases q:decide (0<=i)&&(decide (i<=l.length)&&(Nat.blt 0 m.length&&Nat.ble (l.length+m.length) Qt))with
 |false=>rw[q]at h;cases h
 |true=>
  rw[q]at h;cases h;simp only[X3,Vx]at q;obtain⟨e,d,a,b⟩:=q;exact⟨i.toNat,by omega,by omega,by simpa using a,XX b,rfl⟩
theorem Ju(b:Nat)(t:TypeId):∀(vs pre a post:List Value) (w:World),a.length=vs.length->w.heap[b]?=some (.cells (pre++a++post).toArray t (0,0))->
  w.setCells b pre.length vs={w with heap:=w.heap.setIfInBounds b (.cells (pre++vs++post).toArray t (0,0))}
 |[],pre,a,post,w,hl,hb=>by
  have:a=[]:=VP.1 hl;subst this;rw[World.setCells];obtain⟨h1,h2⟩:=Vi.1 hb;have:w.heap.setIfInBounds b (.cells (pre++[]++post).toArray t (0,0))=w.heap:=by
   apply Array.ext_getElem?;intro i;rw[Vk];by_cases h:b=i
   .subst h;rw[Vz rfl,Vz h1,hb]
   .rw[Vy h]
  rw[this]
 |v::vs,pre,a,post,w,hl,hb=>by
  cases a with
  |nil=>cases hl
  |cons z a=>
   simp only[X6,Nat.add_right_cancel_iff]at hl;have d:b<w.heap.size:=(Vi.1 hb).1;have e:w.setCell ⟨b,pre.length,none⟩ v={w with heap:=w.heap.setIfInBounds b (.cells ((pre++[v])++a++post).toArray t (0,0))}:=by
    unfold World.setCell;congr 1;apply Array.ext_getElem?;intro i;rw[Array.getElem?_modify,Vk];by_cases h:b=i
    .subst h;rw[Vz rfl,Vz rfl,Vz d,hb];simp
    .rw[Vy h,Vy h]
   rw[World.setCells,e];have:=Ju b t vs (pre++[v]) a post {w with heap:=w.heap.setIfInBounds b (.cells ((pre++[v])++a++post).toArray t (0,0))} hl (by
    show(w.heap.setIfInBounds b _)[b]?=_;rw[Vk,Vz rfl,Vz d])
   rw[X8,List.length_singleton]at this;rw[this];simp[Array.setIfInBounds_setIfInBounds]
theorem Qbr(l:List Int):∀v∈l.map (Value.int .i64),v.oneCell'=true:=by
 intro v a;obtain⟨x,_,rfl⟩:=Xe.1 a;rfl
theorem Qhx{ro:Nat->Prop}{σ:Sig}{w:World}:∀l:List Int,LR ro σ w ((l.map λx=>[A.int .i64 x]).flatten) (l.map (Value.int .i64))
 |[]=>rfl
 |x::l=>⟨_,_,rfl,rfl,Qhx l⟩
theorem Qfm(l:List Int):∀v∈l.map (Value.int .i64),Qp v:=by
 intro v a;obtain⟨x,_,rfl⟩:=Xe.1 a;trivial
theorem QdL:∀l:List Int,allK 1 (l.map λx=>[A.int .i64 x])
 |[]=>trivial
 |_::l=>⟨rfl,QdL l⟩
theorem QqO{fr ro:Nat->Prop}{σ:Sig}{t:Nat}{B:Blk}{l r:List Int}{w W:World}{rest:List Value}(s:Sim fr ro σ [.row t 1 (l.map λx=>[A.int .i64 x]),B] w)
  (f:W.heap=(w.alloc (.cells (r.map (Value.int .i64)++rest).toArray t)).heap)(e:W.os=w.os)(a:W.tape=w.tape)(b:W.output=w.output)(d:w.drawn<=W.drawn):
  Sim fr ro (σ++[some w.heap.size]) [.dead,B,.row t 1 (r.map λx=>[A.int .i64 x])] W/\Qh fr ro w ro W:=by
 have g:=s.kill 0;obtain⟨h,i⟩:Sim fr ro (σ++[some w.heap.size]) ([.dead,B]++[.row t 1 (r.map λx=>[A.int .i64 x])]) (w.alloc (.cells (r.map (Value.int .i64)++rest).toArray t))/\Qh fr ro w ro (w.alloc (.cells (r.map (Value.int .i64)++rest).toArray t)):=
  ⟨Sim.allocRow g (QdL r) (Qhx r) (Qfm r),Qh.alloc _ s.roLt s.frLt⟩
 exact⟨h.heap f,i.trans (Qh.heap f e a b d)⟩
theorem QnB{fr ro:Nat->Prop}{σ:Sig}{t b:Nat}{B:Blk}{l r:List Int}{w:World}{d rest:List Value}(s:Sim fr ro σ [.row t 1 (l.map λx=>[A.int .i64 x]),B] w)(a:σ[0]?=some (some b))
  (e:w.heap[b]?=some (.cells d.toArray t (0,0)))(hl:(r.map (Value.int .i64)++rest).length=d.length):
  Sim fr ro (σ++[some b]) [.dead,B,.row t 1 (r.map λx=>[A.int .i64 x])] {w with heap:=w.heap.setIfInBounds b (.cells (r.map (Value.int .i64)++rest).toArray t (0,0))}/\
   Qh fr ro w ro {w with heap:=w.heap.setIfInBounds b (.cells (r.map (Value.int .i64)++rest).toArray t (0,0))}:=by
 obtain⟨g,f⟩:=s.set (i:=0) (x:=.row t 1 (l.map λx=>[A.int .i64 x])) (x':=.row t 1 (r.map λx=>[A.int .i64 x])) (obj:=.cells (r.map (Value.int .i64)++rest).toArray t (0,0)) a rfl rfl
  (λy h=>Jt e hl y h) (λ_ hex=>⟨_,hex,Y7 (QdL r) (Qhx r) (Qfm r)⟩)
 exact⟨g.moved (i:=0) rfl a,f⟩
theorem Qi3{w:World}{a b:Array Value}{t:Nat}(h:a.toList=b.toList):(w.drew.alloc (.cells a t)).heap=(w.alloc (.cells b t)).heap:=by
 rw[Xy.1 h];rfl
theorem Jd(b:Nat):∀(vs:List Value) (o:Nat) (w:World),(w.setCells b o vs).os=w.os/\(w.setCells b o vs).tape=w.tape/\(w.setCells b o vs).output=w.output/\(w.setCells b o vs).drawn=w.drawn
 |[],_,_=>⟨rfl,rfl,rfl,rfl⟩
 |v::vs,o,w=>Jd b vs (o+1) (w.setCell ⟨b,o,none⟩ v)
theorem Qe6{h:Array Obj}{a b:Obj}:(h.push a).setIfInBounds h.size b=h.push b:=by
 apply Array.ext_getElem?;intro i;rw[Vk];by_cases q:h.size=i
 .subst q;simp
 .rw[Vy q,Array.getElem?_push,Array.getElem?_push,Vy (λe=>q e.symm),Vy (λe=>q e.symm)]
theorem Qqb{n:Nat}:(Builtin.zeroCells (Value.int .i64 0).cells n).toList.length=n:=by simp[Builtin.zeroCells,Value.cells]
theorem QlK{w:World}{t c j:Nat}{l m:List Int}(f:j<=l.length):
  (((((w.alloc (.cells (((l.map (Value.int .i64)).take j).toArray++Builtin.zeroCells (Value.int .i64 0).cells (l.length+m.length-j)++Builtin.zeroCells (Value.int .i64 0).cells c) t)).drew.setCells w.heap.size j (m.map (Value.int .i64))).drew).setCells w.heap.size (j+m.length) ((l.map (Value.int .i64)).drop j)).heap)=
   (w.alloc (.cells ((l.take j++m++l.drop j).map (Value.int .i64)++(Builtin.zeroCells (Value.int .i64 0).cells c).toList).toArray t)).heap:=by
 have d:=Qqb (n:=l.length+m.length-j);generalize(Builtin.zeroCells (Value.int .i64 0).cells (l.length+m.length-j))=Z1 at*;generalize(Builtin.zeroCells (Value.int .i64 0).cells c)=Z2 at*;rw[show(((l.map (Value.int .i64)).take j).toArray++Z1++Z2)=((l.map (Value.int .i64)).take j++Z1.toList.take m.length++(Z1.toList.drop m.length++Z2.toList)).toArray from by
  apply Xy.1;simp only[Array.toList_append,Vp];rw[<- Vp (List.take m.length _),XE]]
 have e:((l.map (Value.int .i64)).take j).length=j:=by simp;omega
 have b:=Ju w.heap.size t (m.map (Value.int .i64)) ((l.map (Value.int .i64)).take j) (Z1.toList.take m.length) (Z1.toList.drop m.length++Z2.toList) (w.alloc (.cells ((l.map (Value.int .i64)).take j++Z1.toList.take m.length++(Z1.toList.drop m.length++Z2.toList)).toArray t)).drew (by simp at d⊢;omega) (Q6 _ _);rw[e]at b;have a:=Ju w.heap.size t ((l.map (Value.int .i64)).drop j) ((l.map (Value.int .i64)).take j++m.map (Value.int .i64)) (Z1.toList.drop m.length) Z2.toList
  ({(w.alloc (.cells ((l.map (Value.int .i64)).take j++Z1.toList.take m.length++(Z1.toList.drop m.length++Z2.toList)).toArray t)).drew with heap:=(w.alloc (.cells ((l.map (Value.int .i64)).take j++Z1.toList.take m.length++(Z1.toList.drop m.length++Z2.toList)).toArray t)).drew.heap.setIfInBounds w.heap.size (.cells ((l.map (Value.int .i64)).take j++m.map (Value.int .i64)++(Z1.toList.drop m.length++Z2.toList)).toArray t (0,0))}:World).drew (by simp at d⊢;omega) (by
   show((w.heap.push _).setIfInBounds w.heap.size _)[w.heap.size]?=_;rw[Qe6];simp)
 rw[show((l.map (Value.int .i64)).take j++m.map (Value.int .i64)).length=j+m.length from by simp;omega]at a;rw[b,a];show((w.heap.push _).setIfInBounds w.heap.size _).setIfInBounds w.heap.size _=w.heap.push _;rw[Qe6,Qe6];simp only[Xf,List.map_take,List.map_drop,Vp]
theorem QmD{P:Program}{ρ:Ren}(L:Lays2.n21 P ρ){t2:Nat}{l m r:List Int}{i:Int}(h:QlL l i m=some r):
  C P (ρ.f 21) [.osl 0 0 l.length 1,.int .i64 i,.osl 1 0 m.length 1] [.row (ρ.t 3) 1 (l.map λx=>[A.int .i64 x]),.row t2 1 (m.map λx=>[A.int .i64 x])]
   (λa H=>a=.osl 2 0 r.length 1/\H=[.dead,.row t2 1 (m.map λx=>[A.int .i64 x]),.row (ρ.t 3) 1 (r.map λx=>[A.int .i64 x])]):=by
 obtain⟨j,rfl,hj,hm,ac,rfl⟩:=Qpg h;intro fr ro σ vals w s hv;obtain⟨v0,r0,rfl,ak,v1,r1,rfl,al,v2,r2,rfl,aj,hr⟩:=hv;cases(show r2=[]from hr);cases(show v1=.int .i64 (j:Int)from al);have am:Qt=4294967296:=rfl;have ab:σ.length=2:=s.len;rcases aj with⟨h0,_⟩|⟨M,vp,T,vt,vm,g1,rfl,g2,g3,g4,g5⟩
 .omega
 obtain rfl:vp=0:=by have:=g2 (by omega);omega
 obtain⟨ao,f1,f2⟩:=s.blk 1 _ _ g1 rfl;obtain⟨ah,rfl⟩:=QeH f2;have y:∀(k:Nat) v,(m.map (Value.int .i64))[k]?=some v->w.cell? ⟨M,0+k,none⟩=some v:=by
  intro k v E;unfold World.cell?;simp only[f1,Option.isSome_none,Xi,if_false,XA];rw[Jc,XS (by rw[X7];have:=(XR.1 E).1;rw[X7]at this;exact this)];exact E
 have B:(l.take j++m++l.drop j).length=l.length+m.length:=by simp;omega
 have u:∀(c0:Nat) (W:World) (zs:List Value) (e:Value),zs.length=grownCap w (l.length+m.length) c0 (ρ.t 3)-(l.length+m.length)->W.heap=(w.alloc (.cells ((l.take j++m++l.drop j).map (Value.int .i64)++zs).toArray (ρ.t 3))).heap->W.os=w.os->W.tape=w.tape->W.output=w.output->w.drawn<=W.drawn->
   e=.slice (some ⟨w.heap.size,0,none⟩) (l.length+m.length) (grownCap w (l.length+m.length) c0 (ρ.t 3))->
   ∃v r H' ro' τ,Ending.returned e=.returned v/\(r=.osl 2 0 (l.take j++m++l.drop j).length 1/\H'=[.dead,.row t2 1 (m.map λx=>[A.int .i64 x]),.row (ρ.t 3) 1 ((l.take j++m++l.drop j).map λx=>[A.int .i64 x])])/\Sim fr ro' (σ++τ) H' W/\VR ro' (σ++τ) W r v/\Qh fr ro w ro' W:=by
  intro c0 W zs e hz hh hos htp hou hdr he;obtain⟨s1,e1⟩:=QqO s hh hos htp hou hdr;have ag:=grownCap_ge w (l.length+m.length) c0 (ρ.t 3);refine⟨_,_,_,ro,[some w.heap.size],rfl,⟨rfl,rfl⟩,s1,?_,e1⟩;rw[he];refine .inr ⟨w.heap.size,0,_,ρ.t 3,((l.take j++m++l.drop j).map (Value.int .i64)++zs).length,?_,by rw[B],λ_=>by simp,⟨by rw[B];exact ag,grownCap_le_maxLen _ _ _ _ (by unfold maxLen;omega)⟩,?_,?_⟩
  .rw[XT (by omega),ab];rfl
  .unfold World.shape?;rw[hh,Q6];simp
  .rw[X8,X7,B,hz];omega
 have fin:∀{W:World} {b n t' R:Nat} (z:Nat),l.length+m.length<=n->n<=9223372036854775807->W.shape? b=some (t',R)->(0+n)*1<=R->z=l.length+m.length->VR ro (σ++[some b]) W (.osl 2 0 (l.take j++m++l.drop j).length 1) (.slice (some ⟨b,0,none⟩) z n):=by
  intro W b n t' R z h1 h2 h3 h4 h5;refine .inr ⟨b,0,n,t',R,?_,by rw[B,h5],λ_=>by simp,⟨by rw[B];exact h1,h2⟩,h3,h4⟩;rw[XT (by omega),ab];rfl
 rcases ak with⟨h0,rfl⟩|⟨b,p,n,t',R,q1,rfl,q2,q3,q4,q5⟩
 .have af:l=[]:=VP.1 h0;subst af;obtain rfl:j=0:=by simpa using hj
  have N:=Any2.slices_Insert_int_end_grow L none 0 0 M 0 m.length T [] (m.map (Value.int .i64)) w hm (XZ _) (by omega) (by simp at ac;omega) rfl (by simp) (λ_=>rfl) (λa ha=>by cases ha) y (Qbr m);refine N.mono ?_;rintro e W ⟨rfl,rfl⟩;refine u 0 _ (Builtin.zeroCells (Value.int .i64 0).cells (grownCap w (0+m.length) 0 (ρ.t 3)-(0+m.length))).toList _ (by simp[Builtin.zeroCells,Value.cells]) ?_ rfl rfl rfl (Nat.le_succ _) (by simp);exact Qi3 (by simp)
 .obtain⟨q3,G⟩:=q3;obtain⟨an,y1,y2⟩:=s.blk 0 _ _ q1 rfl;obtain⟨d,rfl⟩:=QeH y2;have ai:M≠b:=λe=>by
   have:=s.inj 1 0 M _ _ g1 (e▸q1) rfl rfl rfl rfl;omega
  have aq:n<=l.length+d.length:=by
   have:w.shape? b=some (ρ.t 3,(l.map (Value.int .i64)++d).length):=by unfold World.shape?;rw[y1];simp
   rw[this]at q4;cases q4;simp at q5;omega
  have hp:0<n->p=0:=λq=>by have:=q2 q;omega
  have F:∀k v,(l.map (Value.int .i64)++d)[k]?=some v->w.cell? ⟨b,0+k,none⟩=some v:=by
   intro k v E;unfold World.cell?;simp only[y1,Option.isSome_none,Xi,if_false,XA];rw[Jc];exact E
  have Q:∀(k:Nat) v,(l.map (Value.int .i64))[k]?=some v->w.cell? ⟨b,p+k,none⟩=some v:=by
   intro k v E;have J:=(XR.1 E).1;rw[X7]at J;obtain rfl:=hp (by omega);exact F k v (by rw[XS (by rw[X7];exact J)];exact E)
  have V:∀k,w.frozen? ⟨b,k,none⟩=false:=by
   intro k;unfold World.frozen?;simp only[y1];simp
  have Y:∀k,w.frozen? ⟨M,k,none⟩=false:=by
   intro k;unfold World.frozen?;simp only[f1];simp
  by_cases g:l.length+m.length<=n
  .obtain rfl:=hp (by omega);have aa:∀k,k<l.length+m.length->(w.cell? ⟨b,0+k,none⟩).isSome=true:=by
    intro k E;have J:k<(l.map (Value.int .i64)++d).length:=by simp;omega
    rw[F k _ (XQ J)];rfl
   by_cases O:j=l.length
   .subst O;have N:=Any2.slices_Insert_int_end_room L b 0 l.length n M 0 m.length T (m.map (Value.int .i64)) w hm g G (by simp) (λk E=>by simpa[Nat.add_assoc]using aa (l.length+k) (by omega)) (λk _=>V _) y (Qbr m);refine N.mono ?_;rintro e W ⟨rfl,rfl⟩;have e1:w.setCells b (0+l.length) (m.map (Value.int .i64))={w with heap:=w.heap.setIfInBounds b (.cells ((l.take l.length++m++l.drop l.length).map (Value.int .i64)++d.drop m.length).toArray (ρ.t 3) (0,0))}:=by
     have:=Ju b (ρ.t 3) (m.map (Value.int .i64)) (l.map (Value.int .i64)) (d.take m.length) (d.drop m.length) w (by simp;omega) (by rw[Vp,XE];exact y1);rw[X7]at this;rw[XA,this,Vf,Xt];simp
    rw[e1];obtain⟨s2,X⟩:=QnB (r:=l.take l.length++m++l.drop l.length) (rest:=d.drop m.length) s q1 y1 (by simp;omega);exact⟨_,_,_,ro,[some b],rfl,⟨rfl,rfl⟩,s2,fin _ g G (X.shape _ _ q4) q5 rfl,X⟩
   .have N:=Any2.slices_Insert_int_shift L b 0 l.length n j M 0 m.length T (l.map (Value.int .i64)) (m.map (Value.int .i64)) w (by omega) hm g G ai (by simp) (by simp) Q aa (λk _=>V _) y (Qbr l) (Qbr m) vt t' vm R g4 q4 (by omega) (Y _) (Y _);refine N.mono ?_;rintro e W ⟨rfl,rfl⟩;have e1:(w.drew.setCells b (0+(j+m.length)) ((l.map (Value.int .i64)).drop j)).setCells b (0+j) (m.map (Value.int .i64))={w.drew with heap:=w.drew.heap.setIfInBounds b (.cells ((l.take j++m++l.drop j).map (Value.int .i64)++d.drop m.length).toArray (ρ.t 3) (0,0))}:=by
     have ae:b<w.drew.heap.size:=(Vi.1 y1).1;have k1:=Ju b (ρ.t 3) ((l.map (Value.int .i64)).drop j) ((l.map (Value.int .i64)++d).take (j+m.length)) (((l.map (Value.int .i64)++d).drop (j+m.length)).take (l.length-j)) (((l.map (Value.int .i64)++d).drop (j+m.length)).drop (l.length-j)) w.drew (by simp;omega) (by rw[Vp,XE,XE];exact y1);rw[show((l.map (Value.int .i64)++d).take (j+m.length)).length=0+(j+m.length)from by simp;omega]at k1;have k2:=Ju b (ρ.t 3) (m.map (Value.int .i64)) ((l.map (Value.int .i64)++d).take j) (((l.map (Value.int .i64)++d).drop j).take m.length) ((l.map (Value.int .i64)).drop j++(((l.map (Value.int .i64)++d).drop (j+m.length)).drop (l.length-j))) {w.drew with heap:=w.drew.heap.setIfInBounds b (.cells ((l.map (Value.int .i64)++d).take (j+m.length)++(l.map (Value.int .i64)).drop j++((l.map (Value.int .i64)++d).drop (j+m.length)).drop (l.length-j)).toArray (ρ.t 3) (0,0))} (by simp;omega) (by
      show(w.drew.heap.setIfInBounds b _)[b]?=_;rw[Vk,Vz rfl,Vz ae,List.take_add];simp only[Vp])
     rw[show((l.map (Value.int .i64)++d).take j).length=0+j from by simp;omega]at k2;rw[k1,k2];simp only[Array.setIfInBounds_setIfInBounds];rw[List.drop_drop,show j+m.length+(l.length-j)=(l.map (Value.int .i64)).length+m.length from by simp;omega,Vg,Vd (by simpa using hj)];simp only[Xf,List.map_take,List.map_drop,Vp]
    rw[e1];obtain⟨s2,X⟩:=QnB (w:=w.drew) (r:=l.take j++m++l.drop j) (rest:=d.drop m.length) (s.heap rfl) q1 y1 (by simp;omega);exact⟨_,_,_,ro,[some b],rfl,⟨rfl,rfl⟩,s2,fin _ g G (X.shape _ _ q4) q5 rfl,(Qh.heap (w:=w) (w':=w.drew) rfl rfl rfl rfl (Nat.le_succ _)).trans X⟩
  .by_cases O:j=l.length
   .subst O;have N:=Any2.slices_Insert_int_end_grow L (some ⟨b,p,none⟩) l.length n M 0 m.length T (l.map (Value.int .i64)) (m.map (Value.int .i64)) w hm q3 (by omega) (by omega) (by simp) (by simp) (λh=>by cases h) (λa ha k v E=>by cases ha;rw[Y4];exact Q k v E) y (Qbr m);refine N.mono ?_;rintro e W ⟨rfl,rfl⟩;exact u n _ (Builtin.zeroCells (Value.int .i64 0).cells (grownCap w (l.length+m.length) n (ρ.t 3)-(l.length+m.length))).toList _ (by simp[Builtin.zeroCells,Value.cells]) (Qi3 (by simp)) rfl rfl rfl (Nat.le_succ _) rfl
   .have N:=Any2.slices_Insert_int_grow L b p l.length n j M 0 m.length T (l.map (Value.int .i64)) (m.map (Value.int .i64)) w (by omega) hm q3 (by omega) (by omega) (by simp) (by simp) Q y (Qbr l) (Qbr m);refine N.mono ?_;rintro e W ⟨rfl,rfl⟩;refine u n _ (Builtin.zeroCells (Value.int .i64 0).cells (grownCap w (l.length+m.length) n (ρ.t 3)-(l.length+m.length))).toList _ (by simp[Builtin.zeroCells,Value.cells]) ?_ (by rw[(Jd _ _ _ _).1];exact(Jd _ _ _ _).1) (by rw[(Jd _ _ _ _).2.1];exact(Jd _ _ _ _).2.1) (by rw[(Jd _ _ _ _).2.2.1];exact(Jd _ _ _ _).2.2.1) (by
     rw[(Jd _ _ _ _).2.2.2];show _<=(World.setCells _ _ _ _).drawn+1;rw[(Jd _ _ _ _).2.2.2];exact Nat.le_add_right_of_le (Nat.le_add_right _ _)) rfl
    exact QlK (by simpa using hj)
abbrev Ea:=@Ev.bind
abbrev Ec:=@FzH.keep
abbrev Ed:=@FzL.cons
abbrev Ee:=@FzA.refl
abbrev Ef:=@TC.le
abbrev Eg:=@PL.cons
abbrev Eh:=@DS.done
abbrev Ei:=@Ev.and
abbrev Ej:=@EvI.done
abbrev Ek:=@FzL.refl
abbrev El:=@OpH.lit
abbrev Em:=@RF.cons
abbrev En:=@Le.trans
abbrev Eo:=@ZR.int
abbrev Ep:=@FzA.o
abbrev Er:=@Le.phantom
abbrev Et:=@WO.le
abbrev Eu:=@Ev.or
abbrev Ew:=@Ev.eq
abbrev Ex:=@EvI.cont
abbrev Ey:=@OpU.store
abbrev Ez:=@OpV.load
abbrev EA:=@Ev.const
theorem Zf.{u,v}{α:Sort u}{β:Sort v}{f:α->β}:∀x,f x=f x:=λ_=>rfl
abbrev Ze.{u,v}{α:Sort u}{β:Type v}:α->List β:=λ_=>[]
end Go.Sw
