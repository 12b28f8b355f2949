/- The rules by which the code is walked, with what they rest on (part 3). -/
import Derived.Test.YtckiejaapddafaaGreatDoorL2
import Derived.Laws.BytesString
set_option linter.unusedVariables false
set_option linter.unusedSectionVars false
set_option linter.unusedSimpArgs false
namespace Go.Sw
def QcH:Option Blk->Bool
 |some .dead=>true
 |_=>false
def Qau(hB hE:Nat)(H H':Qd):Bool:=(List.range (hE-hB)).all λp=> !QcH H'[hB+p]? ||QcH H[hB+p]?
def Qlf(hB hE:Nat)(σ:Sig)(H:Qd):Prop:=∀p,hB<=p->p<hE->QcH H[p]?=true->σ[p]?=some none
theorem QlO{hB hE:Nat}{H H':Qd}(h:Qau hB hE H H'=true){p:Nat}(d:hB<=p)(b:p<hE)(a:QcH H'[p]?=true):QcH H[p]?=true:=by
 have:=Xu.1 h (p-hB) (List.mem_range.2 (by omega));rw[show hB+(p-hB)=p by omega,a]at this;simpa using this
theorem Sim.allocAt{fr ro:Nat->Prop}{σ:Sig}{H:Qd}{w:World}(s:Sim fr ro σ H w){p:Nat}(L:σ[p]?=some none){obj:Obj}{x:Blk}
  (N:BR ro (σ.set p (some w.heap.size)) (w.alloc obj) x (some w.heap.size))
  (E:∀c,Hid (w.alloc obj) x w.heap.size c->False:=by exact λ_ h=>h.elim):Sim fr ro (σ.set p (some w.heap.size)) (H.set p x) (w.alloc obj):=by
 have ev:Qh fr ro w ro (w.alloc obj):=Qh.alloc obj s.roLt s.frLt;have t:=s.len;have F:p<σ.length:=(XP.1 L).1;have u:Ext ro σ w ro (σ.set p (some w.heap.size)) (w.alloc obj):=⟨ev.sub,ev.keepRo,ev.shape,λi b q=>by
  rw[XT (λz=>by subst z;rw[L]at q;cases q)];exact q⟩
 have e:∀(i:Nat) (y:Option Nat),(σ.set p (some w.heap.size))[i]?=some y->(i≠p/\σ[i]?=some y)\/(i=p/\y=some w.heap.size):=by
  intro i y h;by_cases q:i=p
  .subst q;rw[Xa F]at h;exact .inr ⟨rfl,(X4 h).symm⟩
  .rw[XT (λz=>q z.symm)]at h;exact .inl ⟨q,h⟩
 have m:∀i:Nat,i≠p->(H.set p x)[i]?=H[i]? :=λi P=>XT (λz=>P z.symm);have J:(H.set p x)[p]?=some x:=Xa (by omega);refine⟨by simp[t],s.roOk.to (λ_ q=>q) ev.keepRo (λb h=>?_),λb h=>?_,s.roFr,?_,?_,?_,s.hidTo (· = ·) QZ (by rw[Yu];omega) (λ_ _ _ _ _ _ _ q=>q) (λ_ _ _ _ _ _ _ q=>q) λj d y l k Q=>?_⟩
 rotate_left 5
 .rcases e j _ l with⟨q,l⟩|⟨rfl,n⟩
  .rw[m j q]at k;exact .inl ⟨j,y,rfl,l,k,id,λc q=>s.hidKeep l k (λz=>Yv w obj d (s.own j d y l k z).1) ev.keepRo q⟩
  .rw[J]at k;cases k;cases n;exact .inr ⟨XX _,E⟩
 .rw[Yu];have:=s.roLt b h;omega
 .rw[Yu];have:=s.frLt b h;omega
 .intro i b y f g r;rw[Yu];rcases e i _ f with⟨q,f⟩|⟨rfl,n⟩
  .rw[m i q]at g;obtain⟨a,b,c⟩:=s.own i b y f g r;exact⟨by omega,b,c⟩
  .cases n;exact⟨by omega,λq=>by have:=s.roLt _ q;omega,λq=>by have:=s.frLt _ q;omega⟩
 .intro i j b y z f g r B G M;rcases e i _ f with⟨q,l⟩|⟨O,n⟩<;>rcases e j _ g with⟨q',k⟩|⟨ej,e2⟩
  .rw[m i q]at r;rw[m j q']at B;exact s.inj i j b y z l k r B G M
  .cases e2;rw[m i q]at r;have:=(s.own i _ y l r G).1;omega
  .cases n;rw[m j q']at B;have:=(s.own j _ z k B M).1;omega
  .rw[O,ej]
 .intro i y z f g;rcases e i _ f with⟨q,f⟩|⟨rfl,n⟩
  .rw[m i q]at g;refine(s.blk i y z f g).keep u ?_ ?_
   .rintro b rfl t;exact Yv w obj b (s.own i b z f g t).1
   .rintro b c rfl t;exact Yv w obj c (s.hid i b z c f g t).lt
  .rw[J]at g;cases g;subst n;exact N
def OpZ(P:Program)(o:Oper)(t:Nat)(cs:List A):Prop:=
 ∀(ro:Nat->Prop) (σ:Sig) (w:World) (a:Act),∃l:List Value,(execOp a.eval o).run P w=.ok (.value (.pointer (some ⟨w.heap.size,0,none⟩))) (w.alloc (.cells l.toArray t))/\LR ro σ w cs l/\ ∀v∈l,Qq v
theorem OpZ.alloc{P:Program}{o:Oper}{t:Nat}{z:Value}{v:A}{cs:List A}(f:∀w,(zeroValue t).run P w=.ok z w)(g:ZR v z)(h:o.op=.alloc t:=by exact rfl)(hk:Yf v=true:=by exact rfl)(hcs:Q9 v=cs:=by exact rfl)(hpl:cs.all Yt=true:=by exact rfl):
  OpZ P o t cs:=by
 intro d σ w a;obtain⟨l,i,b⟩:=(g d σ w).cells hk;subst hcs;refine⟨l,?_,b,b.plain hpl⟩;generalize a.eval=ρ at*;have e:(newVar t z).run P w=.ok ⟨w.heap.size,0,none⟩ (w.alloc (.cells l.toArray t)):=by
  unfold newVar;rw[i];rfl
 simp only[execOp,h,Instr.alloc,Vr,f,Result.andThen,e];rfl
theorem Qc2{P:Program}{l:List Oper}{i:Nat}{o:Oper}{rd:Option Nat}{R:Exit->Act->World->Prop}{Q:Exit->Act->World->Prop}{K:Act->World->Prop}{a:Act}{w:World}
  (B:l[i]?=some o)(g:wpL P rd l.toArray R [o] a w)(j:∀e a' w',R e a' w'->e=.normal/\a'.defers=a.defers)(k:∀v w',R .normal (a.put o.dst v) w'->K (a.put o.dst v) w'):
  wpOpIn (WF rd) 0 P l.toArray Q i K a w:=by
 unfold wpOpIn;have t:l.toArray[i]?=some o:=by simpa using B
 rw[t];simp only;unfold wpL wpListIn at g;split at g
 .rename_i p;rw[Vx p];obtain⟨h,g⟩:=g;refine⟨h,?_⟩;have d:=Qms (by
   intro a' w' q;unfold wpListIn at q;exact(j _ _ _ q).2) g
  generalize(o.semAt (WF rd).round a.eval).run P w=res at*;cases res with
  |ok n w'=>
   cases n with
   |value v=>exact k _ _ d.1
   |skip=>exact k _ _ d.1
   |defer E=>
    exfalso;have:=(j _ _ _ d.1).2;have:=congrArg List.length this
    revert this
    cases o.dst<;>simp[Act.put]
   |enter f m=>
    refine⟨d.1,CallsIn.mono d.2 (λe s b=>?_)⟩;cases e with
    |returned v=>exact k _ _ b.1
    |panicked c=>have:=(j _ _ _ b).1;cases this
    |outgrown=>obtain⟨z,w1,b⟩:=b;have:=(j _ _ _ b).1;cases this
   |row r m=>
    exact⟨d.1,RowsIn.mono d.2 (λ_ _ b=>k _ _ b.1)⟩
   |round l f y assign u=>
    refine⟨d.1,RoundIn.mono d.2 (λe s b=>?_)⟩;cases e with
    |returned v=>exact k _ _ b.1
    |panicked c=>have:=(j _ _ _ b).1;cases this
    |outgrown=>obtain⟨z,w1,b⟩:=b;have:=(j _ _ _ b).1;cases this
   |_=>exact d.elim
  |halt x w'=>
   cases x with
   |panic v=>have:=(j _ _ _ d).1;cases this
   |_=>exact d.elim
 .rename_i p;rw[Vw p];obtain⟨h,g⟩:=g;refine⟨h,?_⟩;unfold wpListIn at g;exact k _ _ g
theorem QlN{P:Program}{l:List Oper}{m:Nat}(n:∀i o,l[i]?=some o->∀j∈Qi o,j<i)(g:∀i o,m<i->l[i]?=some o->i-1∈Qi o){Q:Exit->Act->World->Prop}{rd:Option Nat}:
  ∀(b t:Nat) (L:Array Bool) (a:Act) (w:World),L.size=l.length->(∀i,i<l.length->(onL L i↔i<t))->unl L<=b->m<=t->t<=l.length->
   wpL P rd l.toArray Q (l.drop t) a w->wpAnyIn (WF rd) 0 P .any l.toArray Q b L a w:=by
 intro b
 induction b with
 |zero=>
  intro t L a w hsz hL hf hm ht h;have:t=l.length:=by
   rcases VG t l.length with q|q
   .have:=Qkz (L:=L) (i:=t) (by omega) (λz=>by have:=(hL t q).1 z;omega);omega
   .omega
  subst this;refine⟨List.eq_nil_iff_forall_not_mem.2 λi r=>?_,?_⟩
  .obtain⟨o,f,k,_⟩:=(QaJ hsz).1 r;have d:=(XP.1 f).1;exact k ((hL i d).2 d)
  .rw[List.drop_length]at h;exact h
 |succ b H=>
  intro t L a w hsz hL hf hm ht h;have y:∀i o,l[i]?=some o->¬onL L i->(∀j∈Qi o,onL L j)->i=t:=by
   intro i o f k x;have d:=(XP.1 f).1;have G:t<=i:=by
    rcases VG i t with q|q
    .exact absurd ((hL i d).2 q) k
    .exact q
   rcases VG t i with q|q
   .have:=(hL (i-1) (by omega)).1 (x _ (g i o (by omega) f));omega
   .omega
  rcases VG t l.length with e|e
  .have B:l[t]?=some l[t]:=XO e;have p:¬onL L t:=λq=>by have:=(hL t e).1 q;omega
   have F:t∈Region.ready .any l.toArray L:=by
    refine(QaJ hsz).2 ⟨_,B,p,λj s=>?_⟩;have:=n t _ B j s;exact(hL j (by omega)).2 this
   refine⟨λq=>(by rw[q]at F;cases F),λi r=>?_⟩;obtain⟨o,f,k,x⟩:=(QaJ hsz).1 r;obtain rfl:=y i o f k x;rw[Xr e]at h;obtain rfl:l[i]=o:=by rw[XO e]at f;exact X4 f
   unfold wpOpIn;rw[show l.toArray[i]?=some l[i]by rw[XK];exact f];simp only;unfold wpL wpListIn at h;have E:∀a w,wpL P rd l.toArray Q (l.drop (i+1)) a w->wpAnyIn (WF rd) 0 P .any l.toArray Q b (L.setIfInBounds i true) a w:=by
    intro a w q;have J:=Qhc (L:=L) (i:=i) (by omega) p;refine H (i+1) _ a w (by simpa using hsz) (λj s=>?_) (by omega) (by omega) (by omega) q;rw[JC (by omega),hL j s];omega
   split at h
   .rename_i u;rw[Vx u];exact Oper.wpIn_mono E h
   .rename_i u;rw[Vw u];exact⟨h.1,E _ _ h.2⟩
  .have:t=l.length:=by omega
   subst this;rw[List.drop_length]at h;refine⟨λ_=>h,λi r=>?_⟩;obtain⟨o,f,k,_⟩:=(QaJ hsz).1 r;have d:=(XP.1 f).1;exact absurd ((hL i d).2 d) k
def Qom(af ds:List Nat)(xs:List A)(env0 e:Env):Prop:=
 ∀s,(∃j x,af.contains j=true/\ds[j]?=some s/\xs[j]?=some x/\lk e s=x)\/lk e s=.any\/(ds.contains s=false/\lk e s=lk env0 s)
inductive JH (P:Program) (N:Nat) (l:List Oper) (ds:List Nat) (xs:List A) (env0:Env) (hB hE:Nat) (i:Nat) (H H':Qd):Prop
 |mk (o:Oper) (e:Env) (d:Nat) (x:A) (ho:l[i]?=some o) (hd:o.dst=some d) (hx:xs[i]?=some x) (hdd:Qau hB hE H H'=true) (hs:Sb (Qi o) (Qj9 l i) ds xs env0 e)
   (h:WO P H.length N l.toArray [o] e H (Y8 (up e d x) H')):JH P N l ds xs env0 hB hE i H H'
 |unit (o:Oper) (e:Env) (ho:l[i]?=some o) (hd:o.dst=none) (hx:xs[i]?=some .any) (hdd:Qau hB hE H H'=true) (hs:Sb (Qi o) (Qj9 l i) ds xs env0 e)
   (h:WO P H.length N l.toArray [o] e H (Y8 e H')):JH P N l ds xs env0 hB hE i H H'
 |alloc (o:Oper) (d t p:Nat) (cs:List A) (ho:l[i]?=some o) (hd:o.dst=some d) (hg:o.guard=none) (hx:xs[i]?=some (.ptr p 0)) (hp:(Nat.ble hB p&&Nat.blt p hE)=true) (hdead:QcH H[p]?=true)
   (hH:H.set p (.cells t cs)=H') (h:OpZ P o t cs) (hN:Nat.blt d N=true):JH P N l ds xs env0 hB hE i H H'
 |val (o:Oper) (e:Env) (d:Nat) (x:A) (ho:l[i]?=some o) (hd:o.dst=some d) (hg:o.guard=none) (hx:xs[i]?=some x) (hN:Nat.blt d N=true) (he:Qom (Qi o) ds xs env0 e) (h:OpV P o e H x)
   (hH:H=H':=by rfl):JH P N l ds xs env0 hB hE i H H'
 |woE (o:Oper) (e:Env) (d:Nat) (x:A) (ho:l[i]?=some o) (hd:o.dst=some d) (hx:xs[i]?=some x) (he:Qom (Qi o) ds xs env0 e) (hdd:Qau hB hE H H'=true) (h:WO P H.length N l.toArray [o] e H (Y8 (up e d x) H')):JH P N l ds xs env0 hB hE i H H'
theorem Sb.rel{af f d:List Nat}{xs:List A}{env0 e:Env}{ro:Nat->Prop}{σ:Sig}{w:World}{a:Act}(g:Sb af f d xs env0 e)
  (i:∀j∈af,∀s x,d[j]?=some s->xs[j]?=some x->VR ro σ w x (a.tmps.getD s undef))
  (h:∀s,d.contains s=false->VR ro σ w (lk env0 s) (a.tmps.getD s undef))(hP:∀j s,f.contains j=true->d[j]?=some s->VR ro σ w (lk env0 s) (a.tmps.getD s undef)):
  ∀s,VR ro σ w (lk e s) (a.tmps.getD s undef):=by
 intro s
 induction g with
 |nil=>exact trivial
 | @dep j s1 x1 r h1 h2 h3 _ ih=>
  unfold lk;cases b:Nat.beq s s1 with
  |false=>exact ih
  |true=>
   obtain rfl:=XU b;exact i j (by simpa using h1) _ _ h2 h3
 | @old s1 x1 r h1 h2 _ ih=>
  unfold lk;cases b:Nat.beq s s1 with
  |false=>exact ih
  |true=>
   obtain rfl:=XU b;subst h2;exact h _ h1
 | @pre j s1 x1 r h1 h2 h3 _ ih=>
  unfold lk;cases b:Nat.beq s s1 with
  |false=>exact ih
  |true=>
   obtain rfl:=XU b;subst h3;exact hP j _ h1 h2
structure After (fr ro:Nat->Prop) (σ:Sig) (w:World) (hB hE:Nat) (H':Qd) (xs:List A) (i:Nat) (o:Oper) (a':Act) (w':World) (ro':Nat->Prop) (σ':Sig):Prop where
 val:∀x,xs[i]?=some x->match o.dst with
  |some d=>VR ro' σ' w' x (a'.tmps.getD d undef)
  |none=>x=.any
 sim:Sim fr ro' σ' H' w'
 ev:Qh fr ro w ro' w'
 ext:Ext ro σ w ro' σ' w'
 holes:Qlf hB hE σ' H'
 take:σ'.take hB=σ.take hB
theorem JH.use{P:Program}{N:Nat}{l:List Oper}{ds:List Nat}{xs:List A}{env0:Env}{hB hE i:Nat}{H H':Qd}(hb:JH P N l ds xs env0 hB hE i H H')
  {Q:Exit->Act->World->Prop}{K:Act->World->Prop}{fr ro:Nat->Prop}{σ:Sig}{a:Act}{w:World}{o:Oper}{rd:Option Nat}(M:l[i]?=some o)
  (f:Sim fr ro σ H w)(hN:a.tmps.size=N)(n:Qdu fr a.defers w)(ab:Qet rd fr w)(hh:Qlf hB hE σ H)(hl:hE<=H.length)(al:hB<=hE)
  (hD:∀j∈Qi o,∀s x,ds[j]?=some s->xs[j]?=some x->VR ro σ w x (a.tmps.getD s undef))
  (hO:∀s,ds.contains s=false->VR ro σ w (lk env0 s) (a.tmps.getD s undef))(hP:∀j s,(Qj9 l i).contains j=true->ds[j]?=some s->VR ro σ w (lk env0 s) (a.tmps.getD s undef))
  (hK:∀v w' ro' σ',After fr ro σ w hB hE H' xs i o (a.put o.dst v) w' ro' σ'->K (a.put o.dst v) w'):
  wpOpIn (WF rd) 0 P l.toArray Q i K a w:=by
 have J:∀{e:Env} {H2:Qd} {E:Exit} {u:Act} {w':World},Qb7 H.length fr ro σ w N a.defers (Y8 e H2) E u w'->E=.normal/\u.defers=a.defers:=by
  rintro e H2 E u w' ⟨x,_,_,_,_,_,k,⟨rfl,_⟩,_,_,_,B,_⟩;refine⟨?_,B⟩;cases E<;>first|rfl|exact k.elim|cases k
 have ai:∀{σ':Sig} {w':World},Qh fr ro w ro w'->σ'.take H.length=σ.take H.length->True:=λ_ _=>trivial;have F:∀{e:Env} {u:Act} {w':World},Qb7 H.length fr ro σ w N a.defers (Y8 e H') .normal u w'->Qau hB hE H H'=true->
   ∃ro' σ',Sim fr ro' σ' H' w'/\Qh fr ro w ro' w'/\Ext ro σ w ro' σ' w'/\Qlf hB hE σ' H'/\σ'.take hB=σ.take hB/\ ∀s,VR ro' σ' w' (lk e s) (u.tmps.getD s undef):=by
  rintro e u w' ⟨_,aj,H2,ro',σ',ak,_,⟨_,rfl,rfl⟩,r',he,ht,_,ah⟩ m;have hσ:σ'=σ++σ'.drop H.length:=by
   conv=>lhs;rw[<- XC H.length σ']
   rw[ht, <- f.len,Vd]
  refine⟨ro',σ',r'.sim.frMono ah.sub,he,?_,?_,?_,r'.env⟩
  .rw[hσ];exact he.ext σ _
  .intro p k B h3;have:=hh p k B (QlO m k B h3);rw[hσ,XQ (by rw[f.len];omega)];exact this
  .rw[hσ];exact Qt (by rw[f.len];omega)
 cases hb with
 |woE r e d x g L T he m h=>
  obtain rfl:r=o:=X4 (g.symm.trans M);have hr:∀s,VR ro σ w (lk e s) (a.tmps.getD s undef):=λs=>by
   rcases he s with⟨j,x,k,B,h3,G⟩|G|⟨k,G⟩
   .rw[G];exact hD j (by simpa using k) s x B h3
   .rw[G];exact trivial
   .rw[G];exact hO s k
  refine Qc2 M (h rd fr ro σ a w ⟨f,hr,hN,n⟩ ab) (λ_ _ _ q=>J q) (λv w' q=>?_);obtain⟨ro',σ',g1,Y,O,g4,g5,g6⟩:=F q m;refine hK v w' ro' σ' ⟨λy V=>?_,g1,Y,O,g4,g5⟩;obtain rfl:=X4 (T.symm.trans V);have:=g6 d;unfold lk at this;rw[VJ]at this;rw[L]at this⊢;exact this
 |mk r e d x g L T m hs h=>
  obtain rfl:r=o:=X4 (g.symm.trans M);refine Qc2 M (h rd fr ro σ a w ⟨f,hs.rel hD hO hP,hN,n⟩ ab) (λ_ _ _ q=>J q) (λv w' q=>?_);obtain⟨ro',σ',g1,Y,O,g4,g5,g6⟩:=F q m;refine hK v w' ro' σ' ⟨λy V=>?_,g1,Y,O,g4,g5⟩;obtain rfl:=X4 (T.symm.trans V);have:=g6 d;unfold lk at this;rw[VJ]at this;rw[L]at this⊢;exact this
 |unit r e g L T m hs h=>
  obtain rfl:r=o:=X4 (g.symm.trans M);refine Qc2 M (h rd fr ro σ a w ⟨f,hs.rel hD hO hP,hN,n⟩ ab) (λ_ _ _ q=>J q) (λv w' q=>?_);obtain⟨ro',σ',g1,Y,O,g4,g5,g6⟩:=F q m;refine hK v w' ro' σ' ⟨λy V=>?_,g1,Y,O,g4,g5⟩;obtain rfl:=X4 (T.symm.trans V);rw[L]
 |val r e d x g L hg T ac he h hH=>
  obtain rfl:r=o:=X4 (g.symm.trans M);subst hH;have hr:Rel fr ro σ H e N a w:=by
   refine⟨f,λs=>?_,hN,n⟩;rcases he s with⟨j,x,k,B,h3,G⟩|G|⟨k,G⟩
   .rw[G];exact hD j (by simpa using k) s x B h3
   .rw[G];exact trivial
   .rw[G];exact hO s k
  obtain⟨v0,k,B⟩:=h fr ro σ N a w hr;have hw:Region.wanted r (yielded l.toArray a.tmps)=true:=by unfold Region.wanted;rw[hg]
  refine Qc2 (R:=λE u w'=>E=.normal/\u.defers=a.defers/\u=a.put r.dst v0/\w'=w) M (Qab hw k ?_) (λ_ _ _ q=>⟨q.1,q.2.1⟩) (λv w' q=>?_)
  .unfold wpL wpListIn;refine⟨rfl,?_,rfl,rfl⟩;rw[L];rfl
  .obtain⟨_,_,q1,rfl⟩:=q;refine hK v _ ro σ ⟨λy V=>?_,f,Qh.refl _ _ _,⟨λ_ q=>q,λ_ _=>rfl,λ_ _ q=>q,λ_ _ q=>q⟩,hh,rfl⟩;obtain rfl:=X4 (T.symm.trans V);rw[q1,L];have aa:d<a.tmps.size:=by rw[hN];simpa using ac
   show VR ro σ w' x _;simpa[Act.put,Array.getD_eq_getD_getElem?,aa]using B
 |alloc r d t p cs g L hg T hp X hH h ac=>
  obtain rfl:r=o:=X4 (g.symm.trans M);subst hH;simp only[X0]at hp;have ae:=XV hp.1;have af:p<hE:=by simpa using hp.2
  have hσp:=hh p ae af X;obtain⟨lv,k,B,h3⟩:=h ro σ w a;have hw:Region.wanted r (yielded l.toArray a.tmps)=true:=by unfold Region.wanted;rw[hg]
  have ev:Qh fr ro w ro (w.alloc (.cells lv.toArray t)):=Qh.alloc _ f.roLt f.frLt;have ag:p<σ.length:=by rw[f.len];omega
  have W:Ext ro σ w ro (σ.set p (some w.heap.size)) (w.alloc (.cells lv.toArray t)):=⟨ev.sub,ev.keepRo,ev.shape,λj b q=>by
   rw[XT (λz=>by subst z;rw[hσp]at q;cases q)];exact q⟩
  refine Qc2 (R:=λE u w'=>E=.normal/\u.defers=a.defers/\u=a.put r.dst (.pointer (some ⟨w.heap.size,0,none⟩))/\w'=w.alloc (.cells lv.toArray t)) M (Qab hw k ?_) (λ_ _ _ q=>⟨q.1,q.2.1⟩) (λv w' q=>?_)
  .unfold wpL wpListIn;refine⟨rfl,?_,rfl,rfl⟩;rw[L];rfl
  .obtain⟨_,_,q1,rfl⟩:=q;refine hK v _ ro (σ.set p (some w.heap.size)) ⟨λy V=>?_,f.allocAt hσp ⟨lv,Yg _ _,B.mono W,h3⟩,ev,W,λp' g1 Y O=>?_,?_⟩
   .obtain rfl:=X4 (T.symm.trans V);rw[q1,L];have aa:d<a.tmps.size:=by rw[hN];simpa using ac
    refine⟨w.heap.size,Xa ag,?_⟩;simp[Act.put,Array.getD_eq_getD_getElem?,aa]
   .by_cases q:p'=p
    .subst q;rw[Xa (by omega)]at O;cases O
    .rw[XT (λz=>q z.symm)]at O⊢;exact hh p' g1 Y O
   .rw[List.take_set,List.set_eq_of_length_le];rw[XA];omega
def same(a b:List Nat):Bool:=a.all (b.contains ·)&&b.all (a.contains ·)
theorem Qoz{a b:List Nat}(h:same a b=true)(i:Nat):i∈a↔i∈b:=by
 unfold same at h;simp only[X0,Xu,List.contains_iff_mem]at h;exact⟨h.1 i,h.2 i⟩
structure Qop (l:List Oper) (m:Nat) (ds:List Nat) (hs:List Bool) (rq ms:List (List Nat)) (pl:List (List (Nat×Nat))) (N:Nat):Prop where
 len:m<=l.length
 dst:∀i o,i<m->l[i]?=some o->(∃d,o.dst=some d/\ds[i]?=some d/\d<N)\/o.dst=none
 dsl:ds.length=m
 nodup:∀(i j d:Nat),ds[i]?=some d->ds[j]?=some d->i=j
 back:∀i o,l[i]?=some o->∀j∈Qi o,j<i
 mid:∀o,l[m]?=some o->∀j,j<m->Qcz l m j
 chain:∀i o,m<i->l[i]?=some o->i-1∈Qi o
 rqs:∀i o,i<m->l[i]?=some o->∀h∈rq.getD i [],h<m/\hs.getD h false=true/\(h∈Qi o\/ ∃j∈Qi o,j<m/\h∈rq.getD j [])
 ms0:ms.getD 0 []=[]
 full:∀st,st<ms.length->st+1=ms.length\/ ∃i,i<m/\hs.getD i false=true/\i∉ms.getD st []
 msh:∀st h,h∈ms.getD st []->h<m/\hs.getD h false=true
 pls:∀i st,i<m->st<ms.length->(∀h∈rq.getD i [],h∈ms.getD st [])->(hs.getD i false=true->i∉ms.getD st [])->(∀h∈ms.getD st [],¬Qcz l h i)->
  ∃st',(st,st')∈pl.getD i []/\st'<ms.length/\if hs.getD i false then∀j,j∈ms.getD st' []↔j=i\/j∈ms.getD st []else st'=st
theorem QkU{α:Type}{l:List α}{i:Nat}{d x:α}(h:l[i]?=some x):l.getD i d=x:=by rw[VP,h];rfl
theorem Qi0{P:Program}{l:List Oper}{m:Nat}{W:List Nat}{hs:List Bool}{rq X:List (List Nat)}{pl:List (List (Nat×Nat))}{N h0 hB hE:Nat}{xs:List A}{env0:Env}{Hs:List Qd}{Hk:Qd}
  (ok:Qop l m W hs rq X pl N)(ar:xs.length=m)(bc:Hs.length=X.length)(au:h0<=hB)(a0:hB<=hE)(a6:∀H∈Hs,hE<=H.length)
  (aq:∀i p,i<m->p∈pl.getD i []->JH P N l W xs env0 hB hE i (Hs.getD p.1 []) (Hs.getD p.2 []))(a9:Hs.getD (X.length-1) []=Hk)
  {fr ro0:Nat->Prop}{σ0:Sig}{w0:World}{rd:Option Nat}{ds0:List Deferred}{R:Exit->Act->World->Prop}
  (hk:∀ro σ a w,Rel fr ro σ Hk (Qaw W xs env0) N a w->Qh fr ro0 w0 ro w->σ.take h0=σ0.take h0->a.defers=ds0->wpL P rd l.toArray R (l.drop m) a w)(ao:Qdu fr ds0 w0)(a8:Qet rd fr w0):
  ∀(f:Nat) (L:Array Bool) (a:Act) (w:World) (ro:Nat->Prop) (σ:Sig) (t:Nat),
   L.size=l.length->unl L<=f->(∀i,m<=i->¬onL L i)->t<X.length->Sim fr ro σ (Hs.getD t []) w->a.tmps.size=N->a.defers=ds0->
   (∀(i d:Nat) (x:A),onL L i->W[i]?=some d->xs[i]?=some x->VR ro σ w x (a.tmps.getD d undef))->(∀s,(∀j,W[j]?=some s->¬onL L j)->VR ro σ w (lk env0 s) (a.tmps.getD s undef))->
   Qh fr ro0 w0 ro w->σ.take h0=σ0.take h0->Qlf hB hE σ (Hs.getD t [])->
   (∀i,i<m->onL L i->∀h∈rq.getD i [],onL L h)->(∀i,i<m->hs.getD i false=true->(onL L i↔i∈X.getD t []))->
   (∀i o,onL L i->l[i]?=some o->∀j∈Qi o,onL L j)->
   wpAnyIn (WF rd) 0 P .any l.toArray R f L a w:=by
 have a2:∀t,t<X.length->hE<=(Hs.getD t []).length:=by
  intro t h;have e:Hs[t]?=some Hs[t]:=XO (by omega);rw[QkU e];exact a6 _ (Vh _)
 have fin:∀(f:Nat) (L:Array Bool) (a:Act) (w:World) (ro:Nat->Prop) (σ:Sig) (t:Nat),
   L.size=l.length->unl L<=f->(∀i,m<=i->¬onL L i)->t<X.length->Sim fr ro σ (Hs.getD t []) w->a.tmps.size=N->a.defers=ds0->
   (∀(i d:Nat) (x:A),onL L i->W[i]?=some d->xs[i]?=some x->VR ro σ w x (a.tmps.getD d undef))->(∀s,(∀j,W[j]?=some s->¬onL L j)->VR ro σ w (lk env0 s) (a.tmps.getD s undef))->
   Qh fr ro0 w0 ro w->σ.take h0=σ0.take h0->
   (∀i,i<m->hs.getD i false=true->(onL L i↔i∈X.getD t []))->(∀i,i<m->onL L i)->
   wpAnyIn (WF rd) 0 P .any l.toArray R f L a w:=by
  intro f L a w ro σ t hsz hu hsuf hst hsim hN hdef hD hE' hev htk hI2 k;have ai:t=X.length-1:=by
   rcases ok.full t hst with q|⟨i,O,Y,h3⟩
   .omega
   .exact absurd ((hI2 i O Y).1 (k i O)) h3
  rw[ai,a9]at hsim;refine QlN ok.back ok.chain f m L a w hsz (λi hi=>⟨λq=>?_,λq=>k i q⟩) hu (XX _) ok.len ?_
  .rcases VG i m with z|z
   .exact z
   .exact absurd q (hsuf i z)
  .have hr:Rel fr ro σ Hk (Qaw W xs env0) N a w:=by
    refine⟨hsim,λs=>?_,hN,by rw[hdef];exact ao.keep hev⟩;rcases QoI (env0:=env0) (by rw[ok.dsl,ar]) s with⟨j,x,O,Y,h3⟩|⟨O,Y⟩
    .rw[h3];have b:j<m:=by have:=(XP.1 O).1;rw[ok.dsl]at this;exact this
     exact hD j s x (k j b) O Y
    .rw[Y];exact hE' s (λj q=>absurd (VL q) (by simpa using O))
   exact hk ro σ a w hr hev htk hdef
 intro f
 induction f with
 |zero=>
  intro L a w ro σ t hsz hu hsuf hst hsim hN hdef hD hE' hev htk hho hI1 hI2 hcl;refine fin 0 L a w ro σ t hsz hu hsuf hst hsim hN hdef hD hE' hev htk hI2 (λi hi=>?_);by_cases q:onL L i
  .exact q
  .have:=Qkz (L:=L) (i:=i) (by have:=ok.len;omega) q;omega
 |succ f ih=>
  intro L a w ro σ t hsz hu hsuf hst hsim hN hdef hD hE' hev htk hho hI1 hI2 hcl;by_cases k:∀i,i<m->onL L i
  .exact fin (f+1) L a w ro σ t hsz hu hsuf hst hsim hN hdef hD hE' hev htk hI2 k
  .have a4:∃i,i<m/\ ¬onL L i:=by
    refine Classical.byContradiction λq=>k λi hi=>Classical.byContradiction λz=>q ⟨i,hi,z⟩
   obtain⟨n,hn,ah⟩:=a4;obtain⟨i0,O,Y,h3⟩:=least (p:=λi=>¬onL L i) (λi=>Classical.em _) n ah;have bd:=ok.len;have am:l[i0]?=some l[i0]:=XO (by omega);have hr:i0∈Region.ready .any l.toArray L:=(QaJ hsz).2 ⟨_,am,Y,λj b=>Classical.byContradiction λz=>h3 j (ok.back i0 _ am j b) z⟩;refine⟨λq=>(by rw[q]at hr;cases hr),λi hi=>?_⟩;obtain⟨o,V,aa,J⟩:=(QaJ hsz).1 hi;have B:i<m:=by
    rcases VG i m with q|q
    .exact q
    .exfalso;rcases VG m i with z|z
     .exact hsuf (i-1) (by omega) (J _ (ok.chain i o z V))
     .have:i=m:=by omega
      subst this;have ay:∀j,Qcz l i j->onL L j:=by
       intro j b
       induction b with
       |one r b=>rw[V]at r;cases r;exact J _ b
       |step _ r b ihr=>exact hcl _ _ ihr r _ b
      exact ah (ay n (ok.mid o V n hn))
   have ak:∀h∈rq.getD i [],onL L h:=by
    intro h T;obtain⟨_,_,q|⟨j,q1,q2,q3⟩⟩:=ok.rqs i o B V h T
    .exact J h q
    .exact hI1 j q2 (J j q1) h q3
   obtain⟨a1,aw,az,F⟩:=ok.pls i t B hst (λh T=>by
    obtain⟨q1,q2,_⟩:=ok.rqs i o B V h T;exact(hI2 h q1 q2).1 (ak h T)) (λq z=>aa ((hI2 i B q).2 z)) (λh T hR=>by
    obtain⟨q1,q2⟩:=ok.msh t h T;have a3:onL L h:=(hI2 h q1 q2).2 T;have al:∀j,Qcz l h j->onL L j:=by
     intro j b
     induction b with
     |one r b=>exact hcl _ _ a3 r _ b
     |step _ r b ihr=>exact hcl _ _ ihr r _ b
    exact aa (al i hR))
   have hb:=aq i _ B aw;refine hb.use V hsim hN (by rw[hdef];exact ao.keep hev) (a8.to hev λ_ q=>q) hho (a2 t hst) a0 (λj b s x q1 q2=>hD j s x (J j b) q1 q2) (λs O=>hE' s (λj q=>absurd (VL q) (by simpa using O))) (λj s O Y=>hE' s (λj' q q'=>?_)) ?_
   .obtain rfl:=ok.nodup j' j s q Y;have b:=Xd.1 (List.contains_iff_mem.1 O);cases ag:l[j']? with
    |none=>rw[ag]at b;simp at b
    |some oj=>
     rw[ag]at b;exact aa (hcl j' oj q' ag i (by simpa using b.2))
   intro v w' a7 σ' af;have ac:=af.ext;have ab:∀s,(∀d,o.dst=some d->s≠d)->(a.put o.dst v).tmps.getD s undef=a.tmps.getD s undef:=by
    intro s av;cases hd:o.dst with
    |none=>rfl
    |some d=>
     simp only[Act.put,Array.getD_eq_getD_getElem?,Vi];rw[Vw (λq=>av d hd q.symm)]
   have ae:(a.put o.dst v).tmps.size=N:=by
    cases hd:o.dst with
    |none=>simpa[Act.put]using hN
    |some d=>simpa[Act.put]using hN
   have ax:(a.put o.dst v).defers=ds0:=by
    cases hd:o.dst with
    |none=>simpa[Act.put]using hdef
    |some d=>simpa[Act.put]using hdef
   have bb:=Qhc (L:=L) (i:=i) (by omega) aa;have u:i<L.size:=by omega
   have a5:∀s j,W[j]?=some s->j≠i->∀d,o.dst=some d->s≠d:=by
    intro s j b E d hd q;subst q;rcases ok.dst i o B V with⟨d',g,Q,aj⟩|g
    .rw[hd]at g;cases g;exact E (ok.nodup j i _ b Q)
    .rw[hd]at g;cases g
   refine ih _ _ w' a7 σ' a1 (by simpa using hsz) (by omega) (λj b q=>?_) az af.sim ae ax ?_ ?_ (hev.trans af.ev) ?_ af.holes ?_ ?_ ?_
   .rcases(JC u).1 q with z|z
    .omega
    .exact hsuf j b z
   .intro j s y b G hy;by_cases E:j=i
    .subst E;have hv:=af.val y hy;rcases ok.dst j o B V with⟨d',g,Q,aj⟩|g
     .obtain rfl:s=d':=X4 (G.symm.trans Q);simp only[g]at hv⊢;exact hv
     .simp only[g]at hv;subst hv;exact trivial
    .rw[ab s (a5 s j G E)];rcases(JC u).1 b with z|z
     .exact absurd z E
     .exact(hD j s y z G hy).mono ac
   .intro s G;have ba:∀d,o.dst=some d->s≠d:=by
     rintro d hd rfl;rcases ok.dst i o B V with⟨d',g,Q,aj⟩|g
     .rw[hd]at g;cases g;exact G i Q ((JC u).2 (.inl rfl))
     .rw[hd]at g;cases g
    rw[ab s ba];exact(hE' s (λj q z=>G j q ((JC u).2 (.inr z)))).mono ac
   .rw[<- htk];have:=congrArg (List.take h0) af.take;rw[List.take_take,List.take_take,XE au]at this;exact this
   .intro j b M h T;refine(JC u).2 (.inr ?_);rcases(JC u).1 M with z|z
    .subst z;exact ak h T
    .exact hI1 j b z h T
   .intro j b M;rw[JC u];cases q:hs.getD i false with
    |false=>
     have E:j≠i:=by rintro rfl;rw[q]at M;cases M
     rw[q]at F;simp only[Xi,if_false]at F;simp only[E,false_or];rw[F];exact hI2 j b M
    |true=>
     rw[q]at F;simp only[if_true]at F;rw[F j,hI2 j b M]
   .intro j o' b r j' an;rcases(JC u).1 b with z|z
    .subst z;rw[V]at r;cases r;exact(JC u).2 (.inr (J _ an))
    .exact(JC u).2 (.inr (hcl j o' z r j' an))
def Qee.dstB(N:Nat):Nat->List Oper->List Nat->Bool
 |_,_,[]=>true
 |i,o::r,d::ds=>(match o.dst with|some d'=>Nat.beq d' d&&Nat.blt d N|none=>true)&&Qee.dstB N (i+1) r ds
 |_,[],_::_=>false
def Qee.rqB(m:Nat)(hs:List Bool)(rq:List (List Nat)):Nat->List Oper->Bool
 |_,[]=>true
 |i,o::r=>(rq.getD i []).all (λh=>Nat.blt h m&&hs.getD h false&&((Qi o).contains h||(Qi o).any λj=>Nat.blt j m&&(rq.getD j []).contains h))&&Qee.rqB m hs rq (i+1) r
def QjE(l:List Oper)(h:Nat):List Nat:=match l[h]? with
 |some o=>Qe0 l h (Qi o)
 |none=>[]
theorem Qlq{l:List Oper}{h j:Nat}(q:j∈QjE l h):Qcz l h j:=by
 unfold QjE at q;cases a:l[h]? with
 |none=>rw[a]at q;cases q
 |some o=>rw[a]at q;exact Qcb h (Qi o) (λi b=>.one a b) j q
def Qee.plB(l:List Oper)(m:Nat)(hs:List Bool)(rq ms:List (List Nat))(pl:List (List (Nat×Nat))):Bool:=
 (List.range m).all λi=>(List.range ms.length).all λst=>((ms.getD st []).any λh=>(QjE l h).contains i)|| !(rq.getD i []).all ((ms.getD st []).contains ·)||(hs.getD i false&&(ms.getD st []).contains i)||
  (pl.getD i []).any λp=>Nat.beq p.1 st&&Nat.blt p.2 ms.length&&(bif hs.getD i false then same (ms.getD p.2 []) (i::ms.getD st [])else Nat.beq p.2 st)
def Qee(l:List Oper)(m N:Nat)(ds:List Nat)(hs:List Bool)(rq ms:List (List Nat))(pl:List (List (Nat×Nat))):Bool:=
 Nat.ble m l.length&&(ds.length==m)&&Qee.dstB N 0 l ds&&drawChk.nodupB ds&&drawChk.goB l m 0 l&&Qee.rqB m hs rq 0 l&&(ms.getD 0 []).isEmpty&&Nat.blt 0 ms.length
 &&((List.range ms.length).all λst=>Nat.beq (st+1) ms.length||(List.range m).any λi=>hs.getD i false&& !(ms.getD st []).contains i)&&Qee.plB l m hs rq ms pl&&(List.range ms.length).all λst=>(ms.getD st []).all λh=>Nat.blt h m&&hs.getD h false
theorem QgQ{N:Nat}:∀(l:List Oper) (a:List Nat) (b:Nat),Qee.dstB N b l a=true->∀(i d:Nat) (o:Oper),l[i]?=some o->a[i]?=some d->
  (o.dst=some d/\d<N)\/o.dst=none:=by
 intro l
 induction l with
 |nil=>intro a b h i d o f;simp at f
 |cons x r k=>
  intro a b h i d o f g;cases a with
  |nil=>simp at g
  |cons y a=>
   simp only[Qee.dstB,X0]at h;cases i with
   |zero=>
    simp at f g;subst f;subst g;have h:=h.1;split at h
    .rename_i m j;simp only[X0]at h;have e:=XU h.1;subst e;exact .inl ⟨j,by simpa using h.2⟩
    .rename_i j;exact .inr j
   |succ i=>
    have:=k a (b+1) h.2 i d o (by simpa using f) (by simpa using g);exact this
theorem QmF{m:Nat}{e:List Bool}{d:List (List Nat)}:∀(l:List Oper) (b:Nat),Qee.rqB m e d b l=true->∀(i:Nat) (o:Oper),l[i]?=some o->
  ∀h∈d.getD (b+i) [],h<m/\e.getD h false=true/\(h∈Qi o\/ ∃j∈Qi o,j<m/\h∈d.getD j []):=by
 intro l
 induction l with
 |nil=>intro b h i o a;simp at a
 |cons x r u=>
  intro b h i o a;simp only[Qee.rqB,X0]at h;cases i with
  |zero=>
   simp at a;subst a;intro k p;have:=Xu.1 h.1 k (by simpa using p);simp only[X0,Bool.or_eq_true,List.contains_iff_mem,Xv]at this;obtain⟨⟨n,w⟩,t⟩:=this;refine⟨by simpa using n,w,?_⟩;rcases t with q|⟨j,f,s,g⟩
   .exact .inl q
   .exact .inr ⟨j,f,by simpa using s,g⟩
  |succ i=>
   have:=u (b+1) h.2 i o (by simpa using a);rw[show b+1+i=b+(i+1)by omega]at this;exact this
theorem QnM{l:List Oper}{m N:Nat}{r:List Nat}{y:List Bool}{B t:List (List Nat)}{H:List (List (Nat×Nat))}(h:Qee l m N r y B t H=true):
  Qop l m r y B t H N/\0<t.length:=by
 unfold Qee at h;simp only[X0]at h;obtain⟨⟨⟨⟨⟨⟨⟨⟨⟨⟨T,Y⟩,V⟩,X⟩,J⟩,O⟩,Q⟩,P⟩,M⟩,G⟩,F⟩:=h;have x:m<=l.length:=XV T;have E:r.length=m:=by simpa using Y
 have g:=Qiw l 0 J;refine⟨⟨x,λi o s b=>?_,E,Qd7 X,λi o b=>by have:=(g i o b).1;simpa using this,λo b j R=>Qcb m (Qi o) (λi s=>.one b s) j ((g m o b).2.1 (by omega) j R),
  λi o s b=>by have:=(g i o b).2.2 (by omega);simpa using this,λi o s b h d=>by have:=QmF l 0 O i o b h (by simpa using d);exact this,
  by simpa using Q,λk a=>?_,λk h d=>?_,λi k s a hr hn L=>?_⟩,by simpa using P⟩
 .have u:r[i]?=some r[i]:=XO (by omega);rcases QgQ l r 0 V i _ o b u with⟨n,w⟩|n
  .exact .inl ⟨_,n,u,w⟩
  .exact .inr n
 .have:=Xu.1 M k (List.mem_range.2 a);simp only[Bool.or_eq_true,Xv,X0,Bool.not_eq_true']at this;rcases this with q|⟨i,n,w,f⟩
  .exact .inl (XU q)
  .exact .inr ⟨i,List.mem_range.1 n,w,λz=>by rw[List.contains_iff_mem.2 z]at f;cases f⟩
 .have a:k<t.length:=by
   rcases VG k t.length with q|q
   .exact q
   .rw[VP,XS q]at d;cases d
  have:=Xu.1 (Xu.1 F k (List.mem_range.2 a)) h d;simp only[X0]at this;exact⟨by simpa using this.1,this.2⟩
 .have:=Xu.1 (Xu.1 G i (List.mem_range.2 s)) k (List.mem_range.2 a);simp only[Bool.or_eq_true,Bool.not_eq_true']at this;rcases this with((q|q)|q)|q
  .exfalso;obtain⟨h,d,q⟩:=Xv.1 q;exact L h d (Qlq (List.contains_iff_mem.1 q))
  .exfalso;have:((B.getD i []).all ((t.getD k []).contains ·))=true:=Xu.2 λh d=>List.contains_iff_mem.2 (hr h d);rw[this]at q;cases q
  .simp only[X0]at q;exact absurd (List.contains_iff_mem.1 q.2) (hn q.1)
  .obtain⟨p,W,q⟩:=Xv.1 q;simp only[X0]at q;obtain⟨⟨n,w⟩,f⟩:=q;have e:=XU n;refine⟨p.2,by rw[<- e];exact W,by simpa using w,?_⟩;cases z:y.getD i false with
   |true=>
    rw[z]at f;simp only[Vt]at f;simp only[if_true];intro j;rw[Qoz f j,Va]
   |false=>
    rw[z]at f;simp only[Vu]at f;simp only[Xi,if_false];exact XU f
inductive QhT (P:Program) (N:Nat) (l:List Oper) (ds:List Nat) (xs:List A) (env0:Env) (hB hE:Nat):Nat->List (List (Qd×Qd))->Prop
 |nil {i:Nat}:QhT P N l ds xs env0 hB hE i []
 |cons {i:Nat} {s:List (Qd×Qd)} {r:List (List (Qd×Qd))} (h:∀p∈s,JH P N l ds xs env0 hB hE i p.1 p.2) (k:QhT P N l ds xs env0 hB hE (i+1) r):QhT P N l ds xs env0 hB hE i (s::r)
theorem QhT.get{P:Program}{N:Nat}{l:List Oper}{d:List Nat}{xs:List A}{env0:Env}{hB hE b:Nat}{e:List (List (Qd×Qd))}(h:QhT P N l d xs env0 hB hE b e):
  ∀(i:Nat) (s:List (Qd×Qd)),e[i]?=some s->∀p∈s,JH P N l d xs env0 hB hE (b+i) p.1 p.2:=by
 induction h with
 |nil=>intro i s h;simp at h
 | @cons b s0 r h _ ih=>
  intro i s a;cases i with
  |zero=>simp at a;subst a;exact h
  |succ i=>
   have:=ih i s (by simpa using a);rw[show b+1+i=b+(i+1)by omega]at this;exact this
theorem Qe{P:Program}{N:Nat}{l:List Oper}{b:List Nat}{xs:List A}{env0:Env}{hB hE i:Nat}:∀p∈([]:List (Qd×Qd)),JH P N l b xs env0 hB hE i p.1 p.2:=by
 intro p a;cases a
theorem Qc{P:Program}{N:Nat}{l:List Oper}{a:List Nat}{xs:List A}{env0:Env}{hB hE i:Nat}{H H':Qd}{r:List (Qd×Qd)}(h:JH P N l a xs env0 hB hE i H H')
  (k:∀p∈r,JH P N l a xs env0 hB hE i p.1 p.2):∀p∈(H,H')::r,JH P N l a xs env0 hB hE i p.1 p.2:=by
 intro p b;rcases Va.1 b with rfl|q
 .exact h
 .exact k p q
theorem Qhi{P:Program}{h0 N:Nat}{id:Nat}{l:List Oper}{env:Env}{H:Qd}{fr ro:Nat->Prop}{σ:Sig}{a:Act}{w:World}{rd:Option Nat}{R:Exit->Act->World->Prop}(m c:Nat)(ds:List Nat)(hs:List Bool)(rq ms:List (List Nat))(F:List (List (Nat×Nat)))(xs:List A)(Hs:List Qd)(Hk:Qd)
  (hm:P.follows .mixedOrders=true)(hc:Qee l m N ds hs rq ms F=true)(W:Nat.beq xs.length m=true)(ae:Nat.beq Hs.length ms.length=true)(Y:Nat.ble h0 H.length=true)
  (hh:Hs.all (λX=>Nat.ble (H.length+c) X.length)=true)(ab:Hs[0]?=some (H++List.replicate c .dead))(aa:Hs.getD (ms.length-1) []=Hk)
  (V:QhT P N l ds xs env H.length (H.length+c) 0 (F.map λq=>q.map λp=>(Hs.getD p.1 [],Hs.getD p.2 [])))(af:Nat.beq F.length m=true)
  (r:Rel fr ro σ H env N a w)(ac:Qet rd fr w)
  (hk:∀ro' σ' a' w',Rel fr ro' σ' Hk (Qaw ds xs env) N a' w'->Qh fr ro w ro' w'->σ'.take h0=σ.take h0->a'.defers=a.defers->wpL P rd l.toArray R (l.drop m) a' w'):(Code.region id l.toArray true).wpIn (WF rd) 0 P R a w:=by
 obtain⟨ok,M⟩:=QnM hc;have G:=XU W;have L:=XU ae;have ag:=XU af;have B:Qh fr ro w ro {w with drawn:=w.drawn+1}:=⟨λ_ q=>q,λ_ _=>rfl,λ_ _=>rfl,XX _,λ_ _ q=>q,rfl,rfl,rfl,Nat.le_succ _⟩;have u:Ext ro σ w ro (σ++List.replicate c none) {w with drawn:=w.drawn+1}:=B.ext σ _;have T:=r.sim.len;have O:Hs.getD 0 []=H++List.replicate c .dead:=QkU ab;have h:∀(i:Nat) (s:Option Nat) (x:Blk),(σ++List.replicate c none)[i]?=some s->(H++List.replicate c Blk.dead)[i]?=some x->(σ[i]?=some s/\H[i]?=some x)\/(s=none/\x=.dead):=by
  intro i s x k n;rcases VG i σ.length with q|q
  .rw[XQ q]at k;rw[XQ (by omega)]at n;exact .inl ⟨k,n⟩
  .rw[XR q]at k;rw[XR (by omega)]at n;have a1:=VL k;have a2:=VL n;exact .inr ⟨(List.mem_replicate.1 a1).2,(List.mem_replicate.1 a2).2⟩
 have E:Sim fr ro (σ++List.replicate c none) (H++List.replicate c .dead) {w with drawn:=w.drawn+1}:=by
  refine⟨by simp[T],r.sim.roOk.to (λ_ q=>q) (λ_ _=>rfl) r.sim.roLt,r.sim.frLt,r.sim.roFr,?_,?_,?_,
   r.sim.hidTo (· = ·) QZ (XX _) (λ_ _ _ _ _ _ _ q=>q) (λ_ _ _ _ _ _ _ q=>q) λj d y g1 g2 g3=>.inl ?_⟩
  rotate_left 3
  .rcases h j _ _ g1 g2 with⟨g,t⟩|⟨g,_⟩
   .exact⟨j,y,rfl,g,t,(λz=>z),λc q=>q⟩
   .cases g
  .intro i b blk k n Q;rcases h i _ _ k n with⟨g,t⟩|⟨g,_⟩
   .exact r.sim.own i b blk g t Q
   .cases g
  .intro i j b x y k n Q h4 h5 h6;rcases h i _ _ k Q with⟨g,t⟩|⟨g,_⟩
   .rcases h j _ _ n h4 with⟨q3,q4⟩|⟨q3,_⟩
    .exact r.sim.inj i j b x y g q3 t q4 h5 h6
    .cases q3
   .cases g
  .intro i s x k n;rcases h i _ _ k n with⟨g,t⟩|⟨g,t⟩
   .exact BR.keep u (λb hb _=>rfl) (r.sim.blk i s x g t) (λ_ _ _ _=>rfl)
   .subst t;exact trivial
 have f:∀i,¬onL (Array.replicate l.length false) i:=by
  intro i q;unfold onL at q;rw[Array.getElem?_replicate]at q;split at q<;>simp at q
 have J:=XV Y;refine wpIn_region_any hm ?_;rw[List.size_toArray];refine Qi0 ok G L J (Nat.le_add_right _ _) (λX hX=>XV (Xu.1 hh X hX)) ?_ aa (ro0:=ro) (σ0:=σ) (w0:=w) (ds0:=a.defers) hk r.defers ac
  l.length _ a _ ro (σ++List.replicate c none) 0 (by simp) ?_ (λi _=>f i) M (by rw[O];exact E) r.size rfl (λi d x q=>absurd q (f i)) (λs _=>(r.env s).mono u) B (Qt (by omega)) ?_
  (λi _ q=>absurd q (f i)) (λi _ _=>⟨λq=>absurd q (f i),λq=>by rw[ok.ms0]at q;cases q⟩) (λi o q=>absurd q (f i))
 .intro i p hi hp;have e:(F.map λq=>q.map λp=>(Hs.getD p.1 [],Hs.getD p.2 []))[i]?=some ((F.getD i []).map λp=>(Hs.getD p.1 [],Hs.getD p.2 [])):=by
   rw[Xq,XO (by omega),VP,XO (by omega)];rfl
  have:=V.get i _ e _ (Xe.2 ⟨p,hp,rfl⟩);simpa using this
 .unfold unl;simp[List.countP_replicate]
 .intro p k n Q;rw[XR (by omega),List.getElem?_replicate,Vx (by omega)]
theorem Y1{P:Program}{h0 N:Nat}{id:Nat}{l:List Oper}{env:Env}{H:Qd}{Q:QD}(m c:Nat)(g:List Nat)(u:List Bool)(x f:List (List Nat))(d:List (List (Nat×Nat)))(xs:List A)(Hs:List Qd)(Hk:Qd)
  (E:P.follows .mixedOrders=true)(G:Qee l m N g u x f d=true)(j:Nat.beq xs.length m=true)(n:Nat.beq Hs.length f.length=true)(k:Nat.ble h0 H.length=true)
  (y:Hs.all (λX=>Nat.ble (H.length+c) X.length)=true)(i:Hs[0]?=some (H++List.replicate c .dead))(s:Hs.getD (f.length-1) []=Hk)
  (h:QhT P N l g xs env H.length (H.length+c) 0 (d.map λq=>q.map λp=>(Hs.getD p.1 [],Hs.getD p.2 [])))(t:Nat.beq d.length m=true)
  (F:WO P h0 N l.toArray (l.drop m) (Qaw g xs env) Hk Q):TC P h0 N (.region id l.toArray true) env H Q:=by
 intro z B J σ a w r hrd;refine Code.wpIn_mono (λe a w q=>Qb7.postW q) (Qhi m c g u x f d xs Hs Hk E G j n k y i s h t r hrd λro' σ' a' w' hr hev htk hdf=>?_);have b:=F z B ro' σ' a' w' hr (hrd.to hev λ_ q=>q);rw[hdf]at b;exact Yk (λe a w q=>q.step hev htk) _ _ _ b
def draw0(l:List Oper)(m N:Nat)(ds:List Nat):Bool:=Nat.ble m l.length&&(ds.length==m)&&Qee.dstB N 0 l ds&&drawChk.nodupB ds&&drawChk.goB l m 0 l
inductive Oq (P:Program) (N:Nat) (l:List Oper) (ds:List Nat) (xs:List A) (env0:Env) (H:Qd):Nat->Nat->Prop
 |n {i:Nat}:Oq P N l ds xs env0 H i 0
 |c {i c:Nat} (h:JH P N l ds xs env0 H.length H.length i H H) (k:Oq P N l ds xs env0 H (i+1) c):Oq P N l ds xs env0 H i (c+1)
theorem Oq.get{P:Program}{N:Nat}{l:List Oper}{a:List Nat}{xs:List A}{env0:Env}{H:Qd}{b c:Nat}(h:Oq P N l a xs env0 H b c):∀i,i<c->JH P N l a xs env0 H.length H.length (b+i) H H:=by
 induction h with
 |n=>intro i d;omega
 | @c b c h _ ih=>
  intro i d;cases i with
  |zero=>exact h
  |succ i=>
   have:=ih i (by omega);rw[show b+1+i=b+(i+1)by omega]at this;exact this
theorem QnN{l:List Oper}{m N:Nat}{e:List Nat}(h:draw0 l m N e=true):Qop l m e [] [] [[]] (List.replicate m [(0,0)]) N:=by
 unfold draw0 at h;simp only[X0]at h;obtain⟨⟨⟨⟨w,x⟩,y⟩,u⟩,t⟩:=h;have q:m<=l.length:=XV w;have n:e.length=m:=by simpa using x
 have g:=Qiw l 0 t;refine⟨q,λi o d b=>?_,n,Qd7 u,λi o b=>by have:=(g i o b).1;simpa using this,λo b j s=>Qcb m (Qi o) (λi d=>.one b d) j ((g m o b).2.1 (by omega) j s),
  λi o d b=>by have:=(g i o b).2.2 (by omega);simpa using this,λi o d b h r=>by simp at r,rfl,λk a=>.inl (by simp at a;simp[a]),λk h r=>by cases k<;>simp at r,λi k d a _ _ _=>?_⟩
 .have f:e[i]?=some e[i]:=XO (by omega);rcases QgQ l e 0 y i _ o b f with⟨p,z⟩|p
  .exact .inl ⟨_,p,f,z⟩
  .exact .inr p
 .have:k=0:=by simp at a;exact a
  subst this;refine⟨0,?_,by simp,by simp⟩;rw[VP,List.getElem?_replicate,Vx d];exact VF.2 rfl
theorem Qhj{P:Program}{h0 N:Nat}{id:Nat}{l:List Oper}{env:Env}{H:Qd}{fr ro:Nat->Prop}{σ:Sig}{a:Act}{w:World}{rd:Option Nat}{R:Exit->Act->World->Prop}(m:Nat)(k:List Nat)(xs:List A)
  (B:P.follows .mixedOrders=true)(F:Go.Sw.draw0 l m N k=true)(t:Nat.beq xs.length m=true)(u:Nat.ble h0 H.length=true)
  (j:Oq P N l k xs env H 0 m)(r:Rel fr ro σ H env N a w)(n:Qet rd fr w)
  (E:∀ro' σ' a' w',Rel fr ro' σ' H (Qaw k xs env) N a' w'->Qh fr ro w ro' w'->σ'.take h0=σ.take h0->a'.defers=a.defers->wpL P rd l.toArray R (l.drop m) a' w'):(Code.region id l.toArray true).wpIn (WF rd) 0 P R a w:=by
 have ok:=QnN F;have h:=XU t;have e:Qh fr ro w ro {w with drawn:=w.drawn+1}:=⟨λ_ q=>q,λ_ _=>rfl,λ_ _=>rfl,XX _,λ_ _ q=>q,rfl,rfl,rfl,Nat.le_succ _⟩;have g:Ext ro σ w ro σ {w with drawn:=w.drawn+1}:=e.ext0 σ;have f:Sim fr ro σ H {w with drawn:=w.drawn+1}:=r.sim.heap rfl;have b:∀i,¬onL (Array.replicate l.length false) i:=by
  intro i q;unfold onL at q;rw[Array.getElem?_replicate]at q;split at q<;>simp at q
 refine wpIn_region_any B ?_;rw[List.size_toArray];refine Qi0 (hB:=H.length) (hE:=H.length) (Hs:=[H]) (Hk:=H) ok h rfl (XV u) (XX _) (λX hX=>by rw[VF.1 hX];exact XX _) ?_ rfl (ro0:=ro) (σ0:=σ) (w0:=w) (ds0:=a.defers) E r.defers n
  l.length _ a _ ro σ 0 (by simp) ?_ (λi _=>b i) (by simp) f r.size rfl (λi d x q=>absurd q (b i)) (λs _=>(r.env s).mono g) e rfl (λp J G=>by omega)
  (λi _ q=>absurd q (b i)) (λi _ _=>⟨λq=>absurd q (b i),λq=>by cases q⟩) (λi o q=>absurd q (b i))
 .intro i p z y;rw[VP,List.getElem?_replicate,Vx z]at y;obtain rfl:=VF.1 y;have:=j.get i z;rw[Xy]at this;exact this
 .unfold unl;simp[List.countP_replicate]
theorem TC.draw0{P:Program}{h0 N:Nat}{id:Nat}{l:List Oper}{env:Env}{H:Qd}{Q:QD}(m:Nat)(d:List Nat)(xs:List A)
  (i:P.follows .mixedOrders=true)(p:Go.Sw.draw0 l m N d=true)(g:Nat.beq xs.length m=true)(h:Nat.ble h0 H.length=true)
  (f:Oq P N l d xs env H 0 m)(j:WO P h0 N l.toArray (l.drop m) (Qaw d xs env) H Q):TC P h0 N (.region id l.toArray true) env H Q:=by
 intro k n s σ a w r hrd;refine Code.wpIn_mono (λe a w q=>Qb7.postW q) (Qhj m d xs i p g h f r hrd λro' σ' a' w' hr hev htk hdf=>?_);have b:=j k n ro' σ' a' w' hr (hrd.to hev λ_ q=>q);rw[hdf]at b;exact Yk (λe a w q=>q.step hev htk) _ _ _ b
section
variable {P:Program} {N:Nat} {l:List Oper} {ds af bf:List Nat} {xs:List A} {env0 e r:Env} {H H':Qd} {i hB hE:Nat} {o:Oper} {d s:Nat} {x a:A}
theorem sN:Sb af bf ds xs env0 []:=.nil
theorem sD(j:Nat)(k:Sb af bf ds xs env0 r)(b:af.contains j=true:=by exact rfl)(h2:ds[j]?=some s:=by exact rfl)(h3:xs[j]?=some a:=by exact rfl):Sb af bf ds xs env0 ((s,a)::r):=.dep j b h2 h3 k
theorem sP(j:Nat)(k:Sb af bf ds xs env0 r)(b:bf.contains j=true:=by exact rfl)(h2:ds[j]?=some s:=by exact rfl)(h3:lk env0 s=a:=by exact rfl):Sb af bf ds xs env0 ((s,a)::r):=.pre j b h2 h3 k
theorem sO(s:Nat)(k:Sb af bf ds xs env0 r)(b:ds.contains s=false:=by exact rfl)(h2:lk env0 s=a:=by exact rfl):Sb af bf ds xs env0 ((s,a)::r):=.old b h2 k
theorem Qef(H:Qd):Qau hB hE H H=true:=by
 unfold Qau;refine Xu.2 λp _=>?_;cases QcH H[hB+p]? <;>rfl
theorem Om(a:l[i]?=some o)(f:Sb (Qi o) (Qj9 l i) ds xs env0 e)(h:WO P H.length N l.toArray [o] e H (Y8 (up e d x) H))(b:o.dst=some d:=by exact rfl)(hx:xs[i]?=some x:=by exact rfl):JH P N l ds xs env0 hB hE i H H:=
 .mk o e d x a b hx (Qef H) f h
theorem Om1(a:l[i]?=some o)(f:Sb (Qi o) (Qj9 l i) ds xs env0 e)(h:WO P H.length N l.toArray [o] e H (Y8 (up e d x) H'))(b:o.dst=some d:=by exact rfl)(hx:xs[i]?=some x:=by exact rfl)(hdd:Qau hB hE H H'=true:=by exact rfl):JH P N l ds xs env0 hB hE i H H':=
 .mk o e d x a b hx hdd f h
theorem Om2(a:l[i]?=some o)(d:Sb (Qi o) (Qj9 l i) ds xs env0 e)(h:WO P H.length N l.toArray [o] e H (Y8 e H'))(b:o.dst=none:=by exact rfl)(hx:xs[i]?=some .any:=by exact rfl)(hdd:Qau hB hE H H'=true:=by exact rfl):JH P N l ds xs env0 hB hE i H H':=
 .unit o e a b hx hdd d h
end
end Go.Sw
namespace Go.Sw
structure TyI where
 fld:List (Nat×Nat×Nat)
 agg:List (Nat×Bool×Nat)
 zer:List (Nat×List A×List (Nat×Nat))
structure TyOK (P:Program) (T:TyI):Prop where
 fld:∀e∈T.fld,∃n,QM P e.1 e.2.1 e.2.2 n
 agg:∀e∈T.agg,(∀w,(isAgg e.1).run P w=.ok e.2.1 w)/\ ∀w,(sizeOf e.1).run P w=.ok e.2.2 w
 zer:∀e∈T.zer,(∃z,(∀w,(zeroValue e.1).run P w=.ok z w)/\ZR (.agg e.2.1) z)/\QE P e.1 e.2.2
def QiB:List (Nat×Nat×Nat)->Nat->Nat->Option Nat
 |[],_,_=>none
 |(a,b,c)::r,t,f=>bif Nat.beq a t&&Nat.beq b f then some c else QiB r t f
def Qcp{β:Type}:List (Nat×β)->Nat->Option β
 |[],_=>none
 |(a,b)::r,t=>bif Nat.beq a t then some b else Qcp r t
theorem QiA{l:List (Nat×Nat×Nat)}{t f c:Nat}(h:QiB l t f=some c):(t,f,c)∈l:=by
 induction l with
 |nil=>cases h
 |cons x r g=>
  obtain⟨a,b,d⟩:=x;unfold QiB at h;cases q:(Nat.beq a t&&Nat.beq b f)with
  |true=>
   rw[q]at h;simp only[X0]at q;have i:=XU q.1;have e:=XU q.2;simp only[Vt,Option.some.injEq]at h;subst i e h;exact .head _
  |false=>rw[q]at h;exact .tail _ (g h)
theorem Qay{β:Type}{l:List (Nat×β)}{t:Nat}{c:β}(h:Qcp l t=some c):(t,c)∈l:=by
 induction l with
 |nil=>cases h
 |cons x r d=>
  obtain⟨a,b⟩:=x;unfold Qcp at h;cases q:Nat.beq a t with
  |true=>
   rw[q]at h;have e:=XU q;simp only[Vt,Option.some.injEq]at h;subst e h;exact .head _
  |false=>rw[q]at h;exact .tail _ (d h)
def QhI(H:Qd):A->Option (List A)
 |.rp cs=>some cs
 |.ptr i off=>match H[i]? with
  |some (.cells _ cs)=>some (cs.drop off)
  |_=>none
 |_=>none
theorem Qj8{H:Qd}{p:A}{cs:List A}(h:QhI H p=some cs):Pts H p cs:=by
 unfold QhI at h;split at h
 .cases h;exact Pts.rp
 .split at h
  .rename_i a;cases h;exact Pts.cells a rfl
  .cases h
 .cases h
def Qmz(T:TyI)(o:Oper)(env:Env)(H:Qd):Option A:=
 match o.op with
 |.move x=>some (opA env x)
 |.assign x=>some (opA env x)
 |.fieldAddr t x f=>match QiB T.fld t f with
  |none=>none
  |some off=>match opA env x with
   |.ptr i p=>some (.ptr i (p+off))
   |.rp cs=>some (.rp (cs.drop off))
   |_=>none
 |.load t x=>match Qcp T.agg t with
  |none=>none
  |some (b,n)=>match x with
   |.global g=>match QjO[g]? with
    |some zs=>bif b&&Nat.beq zs.length n then some (.agg (zs.map (A.int .i64)))else none
    |none=>none
   |x=>match QhI H (opA env x)with
    |none=>none
    |some cs=>bif b then(bif Nat.beq (cs.take n).length n then some (.agg (cs.take n))else none)else cs.head?
 |.build t parts=>match Qcp T.zer t with
  |none=>none
  |some (zs,pl)=>match Qec env pl zs parts.toList with
   |some cs=>some (.agg cs)
   |none=>none
 |.extract x i=>match opA env x with
  |.tup vs=>vs[i]?
  |_=>none
 |.makeFunc f first cap=>some (.fn f (first.toList.map (opA env)) (cap.toList.map (opA env)))
 |_=>none
theorem Qmy{P:Program}{T:TyI}(m:TyOK P T){o:Oper}{env:Env}{H:Qd}{x:A}(h:Qmz T o env H=some x):OpV P o env H x:=by
 unfold Qmz at h;split at h
 .rename_i y a;cases h;exact OpV.move a rfl
 .rename_i y a;cases h;exact OpV.assign a rfl
 .rename_i t y f a;split at h
  .cases h
  .rename_i E l;obtain⟨n,u⟩:=m.fld _ (QiA l);split at h
   .rename_i i p e;cases h;exact Yw u a e
   .rename_i j e;cases h;exact Qv u a e rfl
   .cases h
 .rename_i t y a;split at h
  .cases h
  .rename_i b n w;obtain⟨d,k⟩:=m.agg _ (Qay w);split at h
   .rename_i g;split at h
    .rename_i s F;cases q:(b&&Nat.beq s.length n)with
     |false=>rw[q]at h;cases h
     |true=>
      rw[q]at h;cases h;simp only[X0]at q;obtain⟨rfl,L⟩:=q;exact QgZ d k F (XU L) a
    .cases h
   .split at h
    .cases h
    .rename_i j J;have r:=Qj8 J;cases b with
     |true=>
      simp only[Vt]at h;cases q:Nat.beq (j.take n).length n with
      |false=>rw[q]at h;cases h
      |true=>
       rw[q]at h;cases h;exact Qm a d k rfl r rfl (XU q)
     |false=>
      simp only[Vu]at h;cases j with
      |nil=>cases h
      |cons v j=>cases h;exact OpV.load a d rfl r
 .rename_i t parts a;split at h
  .cases h
  .rename_i s M B;obtain⟨⟨z,d,k⟩,G⟩:=m.zer _ (Qay B);split at h
   .rename_i j l;cases h;exact OpV.build d k G (by rw[a]) l
   .cases h
 .rename_i y i a;split at h
  .rename_i vs e;exact OpV.extract a e h
  .cases h
 .rename_i f first cap a
  cases h;exact OpV.makeFunc (first:=first.toList) (cap:=cap.toList) (by rw[a]) rfl rfl
 .cases h
def QiZ(af:List Nat):Nat->List Nat->List A->Env->Env
 |j,d::ds,x::xs,e=>(d,bif af.contains j then x else .any)::QiZ af (j+1) ds xs e
 |_,_,_,e=>e
theorem Qo7{af:List Nat}{env0:Env}(s:Nat):∀(a:List Nat) (xs:List A) (b:Nat),a.length=xs.length->
  (∃(j:Nat) (x:A),a[j]?=some s/\xs[j]?=some x/\lk (QiZ af b a xs env0) s=bif af.contains (b+j)then x else .any)\/(a.contains s=false/\lk (QiZ af b a xs env0) s=lk env0 s):=by
 intro a
 induction a with
 |nil=>intro xs b f;right;exact⟨rfl,by unfold QiZ;rfl⟩
 |cons d a k=>
  intro xs b f;cases xs with
  |nil=>cases f
  |cons x xs=>
   cases q:Nat.beq s d with
   |true=>
    have e:=XU q;subst e;left;refine⟨0,x,rfl,rfl,?_⟩;simp only[QiZ,lk,q,Vt];rfl
   |false=>
    have i:s≠d:=λz=>by subst z;simp[VJ]at q
    simp only[QiZ,lk,q,Vu];rcases k xs (b+1) (by simpa using f)with⟨j,y,h,g,l⟩|⟨h,g⟩
    .left;refine⟨j+1,y,by simpa using h,by simpa using g,?_⟩;rw[show b+(j+1)=b+1+j by omega];exact l
    .right;refine⟨?_,g⟩;rw[List.contains_cons,h];simpa using i
def QkA(T:TyI)(N:Nat)(l:List Oper)(ds:List Nat)(xs:List A)(env0:Env)(H:Qd)(i:Nat):Option A:=
 match l[i]? with
 |none=>none
 |some o=>match o.guard,o.dst with
  |none,some d=>bif Nat.blt d N&&Nat.beq ds.length xs.length then Qmz T o (QiZ (Qi o) 0 ds xs env0) H else none
  |_,_=>none
theorem Qo6{af b:List Nat}{xs:List A}{env0:Env}(hl:b.length=xs.length):Qom af b xs env0 (QiZ af 0 b xs env0):=by
 intro s;rcases Qo7 (af:=af) (env0:=env0) s b xs 0 hl with⟨j,x,e,d,a⟩|h
 .rw[Xy]at a;cases q:af.contains j with
  |true=>rw[q]at a;exact .inl ⟨j,x,q,e,d,a⟩
  |false=>rw[q]at a;exact .inr (.inl a)
 .exact .inr (.inr h)
theorem vQ{P:Program}{T:TyI}(g:TyOK P T){N:Nat}{l:List Oper}{a:List Nat}{xs:List A}{env0:Env}{hB hE i:Nat}{H:Qd}{x:A}(j:xs[i]?=some x)(h:QkA T N l a xs env0 H i=some x):JH P N l a xs env0 hB hE i H H:=by
 unfold QkA at h;split at h
 .cases h
 .rename_i o f;split at h
  .rename_i d e b;cases q:(Nat.blt d N&&Nat.beq a.length xs.length)with
   |false=>rw[q]at h;cases h
   |true=>
    rw[q]at h;simp only[X0]at q;exact .val o _ d x f b e j q.1 (Qo6 (XU q.2)) (Qmy g h)
  .cases h
abbrev I(n:Int):A:=.int .i64 n
theorem zc{a:A}{v:Value}{al:List A}{vl:List Value}(h:ZR a v)(k:ZL al vl):ZL (a::al) (v::vl):=ZL.cons h k
def zr1:A->Value->Bool
 |.int k n,.int k' n'=>decide (k=k')&&decide (n=n')
 |.bool b,.bool b'=>b==b'
 |.str s,.string s'=>s.isEmpty&&s'.data.toList.isEmpty
 |.rsl _ es,.slice none 0 0=>es.isEmpty
 |.nils,.slice none 0 0=>true
 |.nilp,.pointer none=>true
 |.nilf,.nilFunc=>true
 |.nilm,.map none=>true
 |.nilif,.nilIface=>true
 |_,_=>false
def zrL:List A->List Value->Bool
 |[],[]=>true
 |a::r,v::s=>zr1 a v&&zrL r s
 |_,_=>false
def zrB:A->Value->Bool
 |.agg r,.agg s=>zrL r s.toList
 |a,v=>zr1 a v
theorem Qmq{a:A}{v:Value}(h:zr1 a v=true):ZR a v:=by
 unfold zr1 at h;split at h
 .simp only[X0,Vv]at h;obtain⟨rfl,rfl⟩:=h;exact ZR.int
 .simp only[VC]at h;subst h;exact ZR.bool
 .rename_i s g;simp only[X0,List.isEmpty_iff]at h;obtain⟨rfl,b⟩:=h;obtain⟨d⟩:=g;obtain⟨d⟩:=d;have b:d=[]:=b;subst b;exact ZR.str
 .rename_i k f;have h:f=[]:=List.isEmpty_iff.1 h;subst h;exact ZR.rsl (α:=A) (e:=λx=>[x])
 .exact ZR.nils
 .exact ZR.nilp
 .exact ZR.nilf
 .exact ZR.nilm
 .exact Qpc
 .cases h
theorem Qmp:∀{r:List A} {s:List Value},zrL r s=true->ZL r s
 |[],[],_=>ZL.nil
 |a::r,v::s,h=>by
  simp only[zrL,X0]at h;exact ZL.cons (Qmq h.1) (Qmp h.2)
 |[],_::_,h=>by cases h
 |_::_,[],h=>by cases h
theorem zrC{a:A}{v:Value}(h:zrB a v=true):ZR a v:=by
 unfold zrB at h;split at h
 .rename_i r s;have:=ZR.agg (Qmp h);simpa using this
 .exact Qmq h
end Go.Sw
namespace Go.Sw
section
variable {P:Program} {o:Oper} {env:Env} {H:Qd}
end
end Go.Sw
namespace Go.Sw
structure TyX where
 ty:TyI
 al:List (Nat×A)
 sl:List Nat
structure QbK (P:Program) (T:TyX):Prop where
 ty:TyOK P T.ty
 al:∀e∈T.al,(∃z,(∀w,(zeroValue e.1).run P w=.ok z w)/\ZR e.2 z)/\Yf e.2=true/\(Q9 e.2).all Yt=true
 sl:∀t∈T.sl,∃et,∀w,(underlying t).run P w=.ok (.slice et) w
def YY(all:Array Oper)(o:Oper)(env:Env):Option Bool:=
 match o.guard with
 |none=>some true
 |some (j,c)=>match(all[j]?).bind (·.dst)with
  |none=>none
  |some d=>match lk env d with
   |.bool true=>some c
   |.bool false=>some (!c)
   |.tup []=>some false
   |_=>none
theorem QR{all:Array Oper}{o:Oper}{env:Env}{b:Bool}(h:YY all o env=some b):Qp all o env b:=by
 unfold YY at h;unfold Qp;split at h
 .rename_i q;rw[q];cases h;rfl
 .rename_i j c q;rw[q];split at h
  .cases h
  .rename_i d e;refine⟨d,e,?_⟩;split at h
   .rename_i a;cases h;exact .inl ⟨true,a,by simp⟩
   .rename_i a;cases h;exact .inl ⟨false,a,by cases c<;>rfl⟩
   .rename_i a;cases h;exact .inr ⟨a,rfl⟩
   .cases h
def QdJ:List Nat->Nat->Bool
 |[],_=>false
 |a::r,t=>bif Nat.beq a t then true else QdJ r t
theorem Qhn{l:List Nat}{t:Nat}(h:QdJ l t=true):t∈l:=by
 induction l with
 |nil=>cases h
 |cons a r b=>
  unfold QdJ at h;cases q:Nat.beq a t with
  |true=>have:=XU q;subst this;exact .head _
  |false=>rw[q]at h;exact .tail _ (b h)
inductive FL where
 |mk (l:List A)
def fl:List A->FL
 |[]=>.mk []
 |a::r=>match fl r with
  |.mk r'=>.mk (a::r')
theorem Qcv:∀l:List A,fl l=.mk l
 |[]=>rfl
 |a::r=>by unfold fl;rw[Qcv r]
inductive FB where
 |mk (l:List Blk)
def fb:List Blk->FB
 |[]=>.mk []
 |a::r=>match fb r with
  |.mk r'=>.mk (a::r')
theorem QkY:∀l:List Blk,fb l=.mk l
 |[]=>rfl
 |a::r=>by unfold fb;rw[QkY r]
inductive FN where
 |mk (n:Nat)
def fn:List Blk->Nat->FN
 |[],n=>.mk n
 |_::r,n=>fn r (n+1)
theorem Qnm:∀(l:List Blk) (n:Nat),fn l n=.mk (l.length+n)
 |[],n=>by simp[fn]
 |a::r,n=>by unfold fn;rw[Qnm r];simp;omega
def QkW(env:Env)(pl:List (Nat×Nat)):List A->List (Nat×Operand)->Option (List A)
 |cs,[]=>some cs
 |cs,(i,x)::r=>match YQ pl i with
  |none=>none
  |some (off,size)=>match opB env x with
   |.mk a=>match fl (Q9 a)with
    |.mk vs=>bif Yf a&&Nat.beq vs.length size&&Nat.ble (off+size) cs.length then(match fl (splice cs off vs)with
     |.mk cs'=>QkW env pl cs' r)else none
theorem QiF{env:Env}{pl:List (Nat×Nat)}:∀(parts:List (Nat×Operand)) (cs:List A),QkW env pl cs parts=Qec env pl cs parts
 |[],cs=>rfl
 |(i,x)::r,cs=>by
  unfold QkW Qec;rw[QaD];cases pl[i]? with
  |none=>rfl
  |some q=>
   obtain⟨off,size⟩:=q;cases h:opB env x with
   |mk a=>
    rw[QF h];simp only[Qcv];cases(Yf a&&Nat.beq (Q9 a).length size&&Nat.ble (off+size) cs.length)with
    |false=>rfl
    |true=>exact QiF r _
def Qip(env:Env):List Operand->List A
 |[]=>[]
 |x::r=>match opB env x with
  |.mk a=>a::Qip env r
theorem Qc5{env:Env}:∀l:List Operand,Qip env l=l.map (opA env)
 |[]=>rfl
 |x::r=>by
  unfold Qip;cases h:opB env x with
  |mk a=>rw[Vn,QF h];show a::Qip env r=_;rw[Qc5 r]
def ptX(H:Qd):Bx->Option Lx
 |.mk (.rp cs)=>some (.mk cs)
 |.mk (.ptr i off)=>match YQ H i with
  |some (.cells _ cs)=>some (QfF off cs)
  |_=>none
 |_=>none
theorem Qp1{H:Qd}{p:A}{cs:List A}(h:ptX H (.mk p)=some (.mk cs)):Pts H p cs:=by
 unfold ptX at h;split at h
 .rename_i q;cases q;cases h;exact Pts.rp
 .rename_i i b q;cases q;split at h
  .rename_i a;rw[QaD]at a;simp only[Option.some.injEq]at h;exact Pts.cells a (Qdh h)
  .cases h
 .cases h
def Qdz(T:TyX)(o:Oper)(env:Env)(H:Qd):Option A:=
 match o.op with
 |.move x=>match opB env x with|.mk a=>some a
 |.assign x=>match opB env x with|.mk a=>some a
 |.nilCheck x=>nlB (opB env x)
 |.extract x i=>exB (opB env x) i
 |.unOp u _ x=>unB u (opB env x)
 |.pick c x y=>piB (opB env c) (opB env x) (opB env y)
 |.binOp b _ x y _=>biB b (opB env x) (opB env y)
 |.fieldAddr t x f=>match QiB T.ty.fld t f with
  |none=>none
  |some off=>match opB env x with
   |.mk (.ptr i p)=>some (.ptr i (p+off))
   |.mk (.rp cs)=>match QfF off cs with
    |.mk r=>some (.rp r)
   |_=>none
 |.load t x=>match Qcp T.ty.agg t with
  |none=>none
  |some (b,n)=>match x with
   |.global g=>match YQ QjO g with
    |some zs=>bif b&&Nat.beq zs.length n then(match fl (zs.map (A.int .i64))with|.mk l=>some (.agg l))else none
    |none=>none
   |x=>match ptX H (opB env x)with
    |none=>none
    |some (.mk cs)=>match b with
     |true=>(match fl (cs.take n)with|.mk l=>bif Nat.beq l.length n then some (.agg l)else none)
     |false=>(match cs with|[]=>none|a::_=>some a)
 |.build t parts=>match Qcp T.ty.zer t with
  |none=>none
  |some (zs,pl)=>match QkW env pl zs parts.toList with
   |some cs=>some (.agg cs)
   |none=>none
 |.makeFunc f first cap=>match fl (Qip env first.toList),fl (Qip env cap.toList)with
  |.mk l,.mk l'=>some (.fn f l l')
 |.call c=>match c with
  |{callee:=.builtin .len,args:=⟨[x]⟩,argTypes:=⟨[t]⟩}=>bif QdJ T.sl t then(match opB env x with
   |.mk (.osl _ 0 n _)=>some (.int .i64 n)
   |_=>none)else none
  |_=>none
 |_=>none
theorem Qax{P:Program}{T:TyX}(m:QbK P T){o:Oper}{env:Env}{H:Qd}{x:A}(h:Qdz T o env H=some x):OpV P o env H x:=by
 unfold Qdz at h;split at h
 .rename_i y a;exact QbN a (by unfold svB;exact h)
 .rename_i y a;exact QbN a (by unfold svB;exact h)
 .rename_i y a;exact QbN a (by unfold svB;exact h)
 .rename_i y i a;exact QbN a (by unfold svB;exact h)
 .rename_i u t y a;exact QbN a (by unfold svB;exact h)
 .rename_i c y z a;exact QbN a (by unfold svB;exact h)
 .rename_i b t y z u a;exact QbN a (by unfold svB;exact h)
 .rename_i t y f a;split at h
  .cases h
  .rename_i w l;obtain⟨n,L⟩:=m.ty.fld _ (QiA l);split at h
   .rename_i i p B;cases h;exact Yw L a (QF B)
   .rename_i d B;cases q:QfF w d with
    |mk r=>rw[q]at h;cases h;exact Qv L a (QF B) (Qdh q)
   .cases h
 .rename_i t y a;split at h
  .cases h
  .rename_i b n Q;obtain⟨j,s⟩:=m.ty.agg _ (Qay Q);split at h
   .rename_i g;split at h
    .rename_i F J;rw[QaD]at J;cases q:(b&&Nat.beq F.length n)with
     |false=>rw[q]at h;cases h
     |true=>
      rw[q,Qcv]at h;cases h;simp only[X0]at q;obtain⟨rfl,E⟩:=q;exact QgZ j s J (XU E) a
    .cases h
   .cases e:opB env y with
    |mk p=>
     rw[e]at h;split at h
     .cases h
     .rename_i d R;have G:=Qp1 R;cases b with
      |true=>
       simp only[Qcv]at h;cases q:Nat.beq (d.take n).length n with
       |false=>rw[q]at h;cases h
       |true=>
        rw[q]at h;cases h;exact Qm a j s (QF e) G rfl (XU q)
      |false=>
       cases d with
       |nil=>cases h
       |cons v d=>cases h;exact OpV.load a j (QF e) G
 .rename_i t parts a;split at h
  .cases h
  .rename_i F V M;obtain⟨⟨z,j,s⟩,O⟩:=m.ty.zer _ (Qay M);split at h
   .rename_i d l;cases h;rw[QiF]at l;exact OpV.build j s O (by rw[a]) l
   .cases h
 .rename_i f first cap a
  simp only[Qcv]at h;cases h;rw[Qc5,Qc5];exact OpV.makeFunc (first:=first.toList) (cap:=cap.toList) (by rw[a]) rfl rfl
 .rename_i c a;split at h
  .rename_i y t;cases q:QdJ T.sl t with
   |false=>rw[q]at h;cases h
   |true=>
    rw[q]at h;simp only[Vt]at h;obtain⟨W,N⟩:=m.sl t (Qhn q);split at h
    .rename_i i n k E;cases h;exact Qma N a rfl (QF E)
    .cases h
  .cases h
 .cases h
def stX(T:TyX)(h0 N:Nat)(all:Array Oper)(o:Oper)(env:Env)(H:Qd):Option (Env×Qd):=
 match YY all o env with
 |none=>none
 |some false=>match o.dst with
  |none=>none
  |some d=>bif Nat.blt d N then some (up env d (.tup []),H)else none
 |some true=>match o.dst with
  |none=>match o.op with
   |.store t x y=>match opB env x,Qcp T.ty.agg t with
    |.mk (.ptr i off),some (_,n)=>match YQ H i with
     |some (.cells S cs)=>match opB env y with
      |.mk a=>match fl (Q9 a)with
       |.mk vs=>bif Nat.ble h0 H.length&&(Yf a&&(Nat.beq vs.length n&&(vs.all Yt&&Nat.ble (off+n) cs.length)))then(match fl (splice cs off vs)with
        |.mk cs'=>match fb (H.set i (.cells S cs'))with
         |.mk H'=>some (env,H'))else none
     |_=>none
    |_,_=>none
   |_=>none
  |some d=>bif Nat.blt d N then(match o.op with
   |.alloc t=>match Qcp T.al t with
    |some v=>bif Nat.ble h0 H.length then(match fn H 0,fl (Q9 v)with
     |.mk n,.mk cs=>match fb (H++[.cells t cs])with
      |.mk H'=>some (up env d (.ptr n 0),H'))else none
    |none=>none
   |.box t x=>match opB env x with
    |.mk a=>bif Nat.ble h0 H.length&&(Yf a&&(Q9 a).all Yt)then(match fn H 0,fl (Q9 a)with
     |.mk n,.mk cs=>match fb (H++[.cells t cs])with
      |.mk H'=>some (up env d (.ptr n 0),H'))else none
   |_=>match Qdz T o env H with
    |some a=>some (up env d a,H)
    |none=>none)else none
section
variable {P:Program} {T:TyX} {h0 N:Nat} {all:Array Oper} {l l':List Oper} {env env':Env} {H H':Qd} {Q:QD}
theorem QmA(w:QbK P T){o:Oper}(h:stX T h0 N all o env H=some (env',H'))(k:WO P h0 N all l env' H' Q):WO P h0 N all (o::l) env H Q:=by
 unfold stX at h;split at h
 .cases h
 .rename_i s;have g:=QR s;split at h
  .cases h
  .rename_i d f;cases q:Nat.blt d N with
   |false=>rw[q]at h;cases h
   |true=>rw[q]at h;cases h;exact WO.skip g f q k
 .rename_i s;have g:=QR s;split at h
  .rename_i f;split at h
   .rename_i t x y j;split at h
    .rename_i i m b n B O;split at h
     .rename_i S cs hH;rw[QaD]at hH;cases e:opB env y with
      |mk a=>
       rw[e]at h;simp only[Qcv,QkY]at h;generalize hc:(Nat.ble h0 H.length&&(Yf a&&(Nat.beq (Q9 a).length n&&((Q9 a).all Yt&&Nat.ble (m+n) cs.length))))=c at h;cases c with
       |false=>cases h
       |true=>
        cases h;simp only[X0]at hc;obtain⟨u,p,r,G,R⟩:=hc;obtain⟨_,L⟩:=w.ty.agg _ (Qay O);exact QbA (XV u) g f (OpU.store j (QF B) hH L (QF e) p rfl (XU r) G R rfl) k
     .cases h
    .cases h
   .cases h
  .rename_i d f;cases q:Nat.blt d N with
   |false=>rw[q]at h;cases h
   |true=>
    rw[q]at h;simp only[Vt]at h;split at h
    .rename_i t j;split at h
     .rename_i v F;cases c:Nat.ble h0 H.length with
      |false=>rw[c]at h;cases h
      |true=>
       rw[c]at h;simp only[Qcv,QkY,Qnm,Vt,Xz]at h;cases h;obtain⟨⟨z,V,E⟩,M,W⟩:=w.al _ (Qay F);exact Y6 (XV c) g f q (QfW V E j M rfl W) k
     .cases h
    .rename_i t x j;cases e:opB env x with
     |mk a=>
      rw[e]at h;simp only[Qcv,QkY,Qnm,Xz]at h;generalize hc:(Nat.ble h0 H.length&&(Yf a&&(Q9 a).all Yt))=c at h;cases c with
      |false=>cases h
      |true=>
       cases h;simp only[X0]at hc;obtain⟨u,p,r⟩:=hc;exact Y6 (XV u) g f q (OpH.box j (QF e) p rfl r) k
    .split at h
     .rename_i a J;cases h;exact QH g f q (Qax w J) k
     .cases h
end
theorem yc{α:Type}{p:α->Prop}{a:α}{l:List α}(h:p a)(k:∀x∈l,p x):∀x∈a::l,p x:=List.forall_mem_cons.2 ⟨h,k⟩
theorem FA{P:Program}{T f off n:Nat}{fs:Array Field}{a:Field}(g:∀w,(underlying T).run P w=.ok (.struct fs) w)(d:fs[f]?=some a)(b:∀w,(sizeOf a.type).run P w=.ok n w)(e:a.offset=off:=by exact rfl)(h5:n≠0:=by decide):QM P T f off n:=⟨_,_,g,d,e,b,h5⟩
theorem QbQ:∀(π:List Nat) (H:Qd) (xs:List Blk),π.map (λp=>H[p]?)=xs.map some->Ys H π xs=H
 |[],H,xs,h=>by
  have:xs=[]:=by cases xs with
   |nil=>rfl
   |cons x xs=>simp at h
  subst this;simp[Ys]
 |p::π,H,[],h=>by simp at h
 |p::π,H,x::xs,h=>by
  simp only[Vn,List.cons.injEq]at h;have e:H.set p x=H:=by
   apply List.ext_getElem?;intro i;rw[Xb];by_cases q:p=i
   .subst q;rw[Vx rfl,h.1];have:=(XP.1 h.1).1;rw[Vx this]
   .rw[Vw q]
  unfold Ys;rw[e];exact QbQ π H xs h.2
def Qjz:A->Option Bx
 |.bool b=>some (.mk (.bool b))
 |.int k n=>some (.mk (.int k n))
 |.str s=>some (.mk (.str s))
 |.rsl k es=>some (.mk (.rsl k es))
 |_=>none
theorem QkC{v a:A}(h:Qjz v=some (.mk a))(ρ:Nat->Nat):YF ρ v=a:=by
 cases v<;>first|(cases h;rfl)|cases h
theorem Pc{P:Program}{h0 N:Nat}{all:Array Oper}{o:Oper}{l:List Oper}{env:Env}{H:Qd}{Q:QD}{d:Nat}{f:FuncId}{args b:List A}{Hc:Qd}{v g:A}(π:List Nat)(i:o.dst=some d)(e:OpC P o env H f args)(h:C P f b Hc (λa H1=>a=v/\H1=Hc))(j:Qjz v=some (.mk g))
  (k:WO P h0 N all l (up env d g) H Q)
  (hargs:args=Qaa (rho π H.length) b:=by exact rfl)(hH:π.map (λp=>H[p]?)=(Hc.map (QW (rho π H.length))).map some:=by exact rfl)(hπ:π.Nodup:=by decide)
  (hg:Qp all o env true:=by exact rfl)(hN:Nat.blt d N=true:=by exact rfl)(hh:Nat.ble h0 H.length=true:=by exact rfl):WO P h0 N all (o::l) env H Q:=by
 refine QA π e h ?_ hargs hH hπ hg i hN hh;rintro r H1 ⟨rfl,rfl⟩;rw[QkC j,QbQ π H _ hH];exact k
theorem YH{i k:Nat}{es:List (List A)}:∀H:Qd,FzH i k es H H
 |[]=>.nil
 |_::r=>.keep (YH r)
def foN:Nat->FN
 |0=>.mk 0
 |n+1=>match foN n with
  |.mk m=>.mk (m+1)
theorem Qfm:∀n,foN n=.mk n
 |0=>rfl
 |n+1=>by unfold foN;rw[Qfm n]
mutual
def foA:A->Bx
 |.agg cs=>match foL cs with
  |.mk l=>.mk (.agg l)
 |.tup cs=>match foL cs with
  |.mk l=>.mk (.tup l)
 |.fn f a c=>match foL a,foL c with
  |.mk l,.mk l'=>.mk (.fn f l l')
 |.iface t v=>match foA v with
  |.mk v'=>.mk (.iface t v')
 |.ptr i off=>match foN i with
  |.mk i'=>.mk (.ptr i' off)
 |.osl i o n k=>match foN i with
  |.mk i'=>.mk (.osl i' o n k)
 |.map i=>match foN i with
  |.mk i'=>.mk (.map i')
 |a=>.mk a
def foL:List A->FL
 |[]=>.mk []
 |a::r=>match foA a,foL r with
  |.mk a',.mk r'=>.mk (a'::r')
end
mutual
theorem Qhv:∀a:A,foA a=.mk a
 |.agg cs=>by unfold foA;rw[QcI cs]
 |.tup cs=>by unfold foA;rw[QcI cs]
 |.fn f a c=>by unfold foA;rw[QcI a,QcI c]
 |.iface t v=>by unfold foA;rw[Qhv v]
 |.ptr i off=>by unfold foA;rw[Qfm]
 |.osl i o n k=>by unfold foA;rw[Qfm]
 |.map i=>by unfold foA;rw[Qfm]
 |.any|.bool _|.int _ _|.str _|.nilp|.rp _|.nils|.rsl _ _|.nilf|.nilif|.nilm=>by rfl
theorem QcI:∀l:List A,foL l=.mk l
 |[]=>by rfl
 |a::r=>by unfold foL;rw[Qhv a,QcI r]
end
inductive FE2 where
 |mk (l:List (List A))
def foE:List (List A)->FE2
 |[]=>.mk []
 |a::r=>match foL a,foE r with
  |.mk a',.mk r'=>.mk (a'::r')
theorem Qnl:∀l,foE l=.mk l
 |[]=>rfl
 |a::r=>by unfold foE;rw[QcI,Qnl r]
def foH:List Blk->FB
 |[]=>.mk []
 |b::r=>match foH r with
  |.mk r'=>match b with
   |.cells t cs=>match foL cs with
    |.mk l=>.mk (.cells t l::r')
   |.rowr t k es=>match foE es with
    |.mk l=>.mk (.rowr t k l::r')
   |.dead=>.mk (.dead::r')
   |.row t k es=>.mk (.row t k es::r')
   |.map es=>.mk (.map es::r')
   |.iter c es=>.mk (.iter c es::r')
   |.fmap es=>.mk (.fmap es::r')
   |.mapO fz t k es=>.mk (.mapO fz t k es::r')
   |.mapP es=>.mk (.mapP es::r')
   |.frow t k es=>.mk (.frow t k es::r')
   |.ents t a b es=>match foN a,foN b with
    |.mk a',.mk b'=>.mk (.ents t a' b' es::r')
theorem QjR:∀l,foH l=.mk l
 |[]=>rfl
 |b::r=>by
  unfold foH;rw[QjR r];cases b<;>simp only[QcI,Qnl,Qfm]
def foS(env:Env)(H:Qd):Option (Env×Qd):=
 match foH H with
 |.mk H'=>match env with
  |[]=>some ([],H')
  |(d,a)::e=>match foA a with
   |.mk a'=>some ((d,a')::e,H')
theorem Qqp(env:Env)(H:Qd):foS env H=some (env,H):=by
 unfold foS;rw[QjR];cases env with
 |nil=>rfl
 |cons p e=>obtain⟨d,a⟩:=p;simp only[Qhv]
theorem FE{P:Program}{h0 N:Nat}{all:Array Oper}{l:List Oper}{env env':Env}{H H':Qd}{Q:QD}(h:foS env H=some (env',H'))(k:WO P h0 N all l env' H' Q):WO P h0 N all l env H Q:=by
 rw[Qqp]at h;cases h;exact k
def entB(b1 b2:Nat):List (List A)->Option (List Ent)
 |[]=>some []
 |[.ptr b off,.int .i64 lo,.int .i64 hi]::r=>match entB b1 b2 r with
  |none=>none
  |some l=>match Nat.beq b b2 with
   |true=>some (⟨true,off,lo,hi⟩::l)
   |false=>match Nat.beq b b1 with
    |true=>some (⟨false,off,lo,hi⟩::l)
    |false=>none
 |_=>none
theorem Qo8{b1 b2:Nat}:∀{es:List (List A)} {l:List Ent},entB b1 b2 es=some l->l.map (eC b1 b2)=es:=by
 intro es
 induction es with
 |nil=>intro l h;cases h;rfl
 |cons e r f=>
  intro l h;unfold entB at h;split at h
  .cases ‹_=[]›
  .rename_i b d lo j i q;cases q;split at h
   .cases h
   .rename_i g a;have e:=f a;split at h
    .rename_i q;cases h;have:=XU q;subst this;rw[Vn,e];rfl
    .split at h
     .rename_i q;cases h;have:=XU q;subst this;rw[Vn,e];rfl
     .cases h
  .cases h
theorem TE{P:Program}{h0 N:Nat}{all:Array Oper}{l:List Oper}{env:Env}{H:Qd}{Q:QD}{t:Nat}{es:List (List A)}{L:List Ent}(i b1 b2:Nat)(hH:H[i]?=some (.rowr t 3 es))(h:entB b1 b2 es=some L)
  (k:WO P h0 N all l env (H.set i (.ents t b1 b2 L)) Q):WO P h0 N all l env H Q:=WO.le (Qmj hH (Qo8 h)) k
theorem R1{P:Program}{h0:Nat}{fn:Func}{env:Env}{H Hc:Qd}{v:A}(s:Nat)(hr:fn.results= #[.tmp s])(hle:Le h0 env H [(s,v)] Hc):Qdp P h0 fn (λa H=>a=v/\H=Hc) .ret env H:=
 ⟨[(s,v)],Hc,v,hle,Qcy.one hr (by show lk [(s,v)] s=v;unfold lk;rw[VJ];rfl),rfl,rfl⟩
theorem R2{P:Program}{h0:Nat}{fn:Func}{env:Env}{H Hc:Qd}{v v':A}(s t:Nat)(hr:fn.results= #[.tmp s,.tmp t])(hn:Nat.beq t s=false)(hle:Le h0 env H [(s,v),(t,v')] Hc):Qdp P h0 fn (λa H=>a=.tup [v,v']/\H=Hc) .ret env H:=
 ⟨[(s,v),(t,v')],Hc,_,hle,Ql1 hr (by show lk [(s,v),(t,v')] s=v;unfold lk;rw[VJ];rfl) (by show lk [(s,v),(t,v')] t=v';unfold lk lk;rw[hn,VJ];rfl),rfl,rfl⟩
theorem FzA.o{i k n:Nat}{es:List (List A)}(a:n=es.length:=by first|exact(X6 ..).symm|exact rfl):FzA i k es (.osl i 0 n k) (.rsl k es):=FzA.own a
end Go.Sw
namespace Go.Sw
theorem Le.env{h0:Nat}{env env':Env}{H:Qd}(h:∀s,lk env' s=.any\/lk env' s=lk env s):Le h0 env H env' H:=by
 intro d b σ N a w r;refine⟨b,σ,⟨r.sim,λs=>?_,r.size,r.defers⟩,λ_ q=>q,rfl⟩;rcases h s with h|h
 .rw[h];trivial
 .rw[h];exact r.env s
def Qol(env:Env):Env->Prop
 |[]=>True
 |(s,a)::r=>lk env s=a/\Qol env r
theorem Qol.ok{env:Env}:∀{env':Env},Qol env env'->∀s,lk env' s=.any\/lk env' s=lk env s
 |[],_,s=>.inl rfl
 |(d,a)::e,⟨h1,h2⟩,s=>by
  by_cases q:s=d
  .subst q;right;simp only[lk,VJ,Vt];exact h1.symm
  .have:Nat.beq s d=false:=by
    rw[VQ];intro b;exact q (XU b)
   simp only[lk,this,Vu];exact Qol.ok h2 s
theorem Lw{h0:Nat}{env env':Env}{H:Qd}(h:Qol env env'):Le h0 env H env' H:=Le.env h.ok
theorem QpO(n i:Nat):rho (List.range n) n i=i:=by
 unfold rho;by_cases h:i<n
 .rw[List.getElem?_range h]
 .rw[XS (by rw[Xw];omega)];simp only[Xw];omega
mutual
theorem Qhh{ρ:Nat->Nat}(h:∀i,ρ i=i):∀a:A,YF ρ a=a
 |.ptr i off=>by simp[YF,h]
 |.osl i o n k=>by simp[YF,h]
 |.agg cs=>by simp[YF,QaZ h cs]
 |.fn f a c=>by simp[YF,QaZ h a,QaZ h c]
 |.iface t v=>by simp[YF,Qhh h v]
 |.map i=>by simp[YF,h]
 |.tup vs=>by simp[YF,QaZ h vs]
 |.any|.bool _|.int _ _|.str _|.nilp|.rp _|.nils|.rsl _ _|.nilf|.nilif|.nilm=>by rfl
theorem QaZ{ρ:Nat->Nat}(h:∀i,ρ i=i):∀l:List A,Qaa ρ l=l
 |[]=>rfl
 |a::r=>by simp[Qaa,Qhh h a,QaZ h r]
end
theorem QkG{ρ:Nat->Nat}(h:∀i,ρ i=i):∀l:List (List A),Qhg ρ l=l
 |[]=>rfl
 |a::r=>by simp[Qhg,QaZ h a,QkG h r]
theorem QkF{ρ:Nat->Nat}(h:∀i,ρ i=i):∀l:List (A×A),QjC ρ l=l
 |[]=>rfl
 |a::r=>by simp[QjC,Qhh h,QkF h r]
theorem QoB{ρ:Nat->Nat}(h:∀i,ρ i=i):∀b:Blk,QW ρ b=b
 |.cells t cs=>by simp[QW,QaZ h cs]
 |.rowr t k es=>by simp[QW,QkG h es]
 |.ents t a b es=>by simp[QW,h]
 |.mapP es=>by simp[QW,QkF h es]
 |.dead|.row _ _ _|.map _|.iter _ _|.fmap _|.mapO _ _ _ _|.frow _ _ _=>by rfl
theorem Pw{P:Program}{h0 N:Nat}{all:Array Oper}{o:Oper}{l:List Oper}{env:Env}{H:Qd}{Q:QD}{d:Nat}{f:FuncId}{args:List A}{v h:A}(w:o.dst=some d)(g:OpC P o env H f args)(u:C P f args H (λa H1=>a=v/\H1=H))(n:Qjz v=some (.mk h))
  (hg:Qp all o env true)(t:Nat.blt d N=true)(s:h0<=H.length)(k:WO P h0 N all l (up env d h) H Q):WO P h0 N all (o::l) env H Q:=by
 have e:=QpO H.length;have m:H.map (QW (rho (List.range H.length) H.length))=H:=by
  conv=>rhs;rw[<- List.map_id H]
  exact List.map_congr_left λb _=>QoB e b
 have j:(List.range H.length).map (λp=>H[p]?)=(H.map (QW (rho (List.range H.length) H.length))).map some:=by
  rw[m];apply List.ext_getElem?;intro i;by_cases q:i<H.length
  .simp[q]
  .simp[q]
 refine QA (List.range H.length) g u ?_ (by rw[QaZ e]) j List.nodup_range hg w t (XW s);rintro r H1 ⟨rfl,rfl⟩;rw[QkC n,QbQ _ _ _ j];exact k
def ixE(d:Nat)(g:Ground):Edge:={on:=d,ground:=g}
def ixO(d:Nat)(op:Op)(t:Nat)(pos:String)(af:Array Edge):Oper:={dst:=some d,op:=op,type:=t,pos:=pos,after:=af,guard:=none}
def Qqm(ts te tf tI tB:Nat):Code:=
 (Code.region 0 [ixO 4 (.assign (.const (.int .i64 0))) tI "slices.go:107" #[]].toArray false).seq
  (((Code.region 1 [ixO 6 (.move (.tmp 0)) ts "slices.go:108" #[],ixO 7 (.call {callee:=.builtin .len,args:= #[.tmp 6],argTypes:= #[ts]}) tI "slices.go:108" #[ixE 0 .data],ixO 8 (.move (.const (.int .i64 0))) tI "slices.go:108" #[]].toArray false).seq
   (.block 0 (.loop ((Code.region 2 [ixO 9 (.binOp .lss tI (.tmp 8) (.tmp 7) tI) 0 "slices.go:108" #[]].toArray false).seq
    ((Code.cond (.tmp 9) .skip (.exit 0)).seq
    ((Code.block 1 ((Code.region 3 [ixO 10 (.move (.tmp 8)) tI "slices.go:108" #[],ixO 5 (.assign (.tmp 10)) tI "slices.go:108" #[ixE 0 .data,ixE 0 .phase]].toArray false).seq
     ((Code.region 4 [ixO 11 (.move (.tmp 1)) tf "slices.go:109" #[],ixO 12 (.move (.tmp 0)) ts "slices.go:109" #[],ixO 13 (.move (.tmp 5)) tI "slices.go:109" #[],ixO 14 (.indexAddr ts (.tmp 12) (.tmp 13)) 0 "slices.go:109" #[ixE 1 .data,ixE 2 .data],
       ixO 15 (.load te (.tmp 14)) te "slices.go:109" #[ixE 3 .data],ixO 16 (.call {callee:=.value (.tmp 11),args:= #[.tmp 15],argTypes:= #[te]}) tB "slices.go:109" #[ixE 0 .data,ixE 4 .data]].toArray false).seq
      (Code.cond (.tmp 16) ((Code.region 5 [ixO 17 (.move (.tmp 5)) tI "slices.go:110" #[],ixO 4 (.assign (.tmp 17)) tI "slices.go:110" #[ixE 0 .data,ixE 0 .phase]].toArray false).seq .ret) .skip)))).seq
     (Code.region 6 [ixO 18 (.binOp .add tI (.tmp 8) (.const (.int .i64 1)) tI) tI "slices.go:108" #[],ixO 8 (.move (.tmp 18)) tI "slices.go:108" #[ixE 0 .data]].toArray false))))))).seq
  ((Code.region 7 [ixO 4 (.assign (.const (.int .i64 (-1)))) tI "slices.go:113" #[]].toArray false).seq .ret))
theorem Yp{P:Program}{T:Type}{e:T->List A}{el:T->A}{V z tf tI tB k:Nat}{Q m:FuncId}{fn:Func}{i:List A}{Hc:Qd}{L:List T}{g:T->Option Bool}{n:Nat}{r:Int}
  (X:P.funcs[Q]?=some fn)(W:fn.body=some (Qqm V z tf tI tB))(hN:fn.ntmps=19)(O:fn.results= #[.tmp 4])(R:∀w,(underlying V).run P w=.ok (.slice z) w)(hs:∀w,(sizeOf z).run P w=.ok k w)
  (F:∀(o:Oper) (env:Env) (H:Qd) (x:T),o.op=.load z (.tmp 14)->opA env (.tmp 14)=.rp (e x)->OpV P o env H (el x))
  (J:∀(a:Array Value) (w:World),(callFunc m a).run P w=.ok (.enter m a) w)
  (N:∀x b,g x=some b->C P m (el x::i) Hc (λa H=>a=.bool b/\H=Hc))
  (h:((iter (λs:Int=>bif decide (s<(L.length:Int))then(idx L s).bind λx=>(g x).bind λb=>(bif b then some (Ctl.done (Ctl.done s))else some (Ctl.cont (IntKind.i64.wrap (s+1))))else some (Ctl.done (Ctl.cont ()))) n (0:Int):Option (Ctl Unit Int)).bind λb=>match b with|.cont _=>some (-1)|.done s=>some s)=some r):
  C P Q [.rsl k (L.map e),.fn (.func m) [] i] Hc (λa H=>a=.int .i64 r/\H=Hc):=by
 refine Qb X W hN rfl ?_;refine Rg (S rfl (Nx (TC.seq (Rg (S rfl (LnM R rfl (S rfl (Nx (Bd h λG M h=>?_)))))))));refine QhM (b:=G) (λ_=>[]) (λ_=>Hc) ?_ (λsb10 env H hbe hle=>?_)
 .refine TC.block ?_;refine TC.loop (E:=λy=>[(0,.rsl k (L.map e)),(1,.fn (.func m) [] i),(7,.int .i64 (L.length:Int)),(8,.int .i64 y)]) (Hp:=λ_=>Hc) M ?_ ?_
  .exact Lw ⟨rfl,rfl,rfl,rfl,trivial⟩
  intro y Y d l;refine Rg (S rfl (Nx (TC.seq (Jf rfl d (λq d=>?_) (λq d=>?_)))))
  .refine ExX (Qz d ?_);obtain rfl:=l _ (Oi d).symm;exact bloE (QN rfl (Lw trivial))
  refine SkN (TC.seq (TC.block (Rg (S rfl (S rfl (Nx (Rg (S rfl (S rfl (S rfl (Bd d λj u d=>Ix u R hs rfl ?_)))))))))));refine QH (x:=el j) rfl rfl rfl (F _ _ _ j rfl rfl) ?_;refine Bd d λB p d=>?_;refine Pw rfl (QaF (f:=m) (x:=.tmp 11) (xs:=[.tmp 15]) (vf:=[]) (vc:=i) (args:=el j::i) J rfl rfl rfl rfl) (N j B p) rfl rfl rfl (XX _) ?_;refine Nx (Cn rfl d (λt d=>?_) (λt d=>?_))
  .refine Rg (S rfl (S rfl (Nx (TC.ret (bloR (seqR (YD d ?_)))))));obtain rfl:=l _ (Oi d).symm;refine bloR (Q8 (seqR ?_));obtain rfl:=Oi h;exact R1 4 O (Lw ⟨rfl,trivial⟩)
  exact TC.skip (bloN (QmE (TC.region (S rfl (S rfl (WO.nil (Qw d (Lw ⟨rfl,rfl,rfl,rfl,trivial⟩))))))))
 subst hbe;refine QmE (TC.le hle (Rg (S rfl (Nx (TC.ret ?_)))));obtain rfl:=Oi h;exact R1 4 O (Lw ⟨rfl,trivial⟩)
end Go.Sw
namespace Go.Sw
inductive Kf where
 |seq (c:Code)
 |blo (id:Nat)
 |unr (c:Code)
inductive Cf where
 |code (c:Code)
 |ops (all:Array Oper) (l:List Oper)
 |out (x:AEx)
def kq(P:Program)(h0 N:Nat):List Kf->QD->QD
 |[],Q=>Q
 |.seq c::k,Q=>Seq P h0 N c (kq P h0 N k Q)
 |.blo id::k,Q=>Blo id (kq P h0 N k Q)
 |.unr c::k,Q=>Qke P h0 N c (kq P h0 N k Q)
@[reducible] def Hd(P:Program)(h0 N:Nat):Cf->List Kf->Env->Qd->QD->Prop
 |.code c,k,env,H,Q=>TC P h0 N c env H (kq P h0 N k Q)
 |.ops all l,k,env,H,Q=>WO P h0 N all l env H (kq P h0 N k Q)
 |.out x,k,env,H,Q=>kq P h0 N k Q x env H
def Qge(T:TyX)(h0 N:Nat):Cf->List Kf->Env->Qd->Option (Cf×List Kf×Env×Qd)
 |.code (.seq a b),k,env,H=>some (.code a,.seq b::k,env,H)
 |.code (.block id c),k,env,H=>some (.code c,.blo id::k,env,H)
 |.code (.loop c),k,env,H=>some (.code c,.unr c::k,env,H)
 |.code .skip,k,env,H=>some (.out .normal,k,env,H)
 |.code .ret,k,env,H=>some (.out .ret,k,env,H)
 |.code (.exit id),k,env,H=>some (.out (.exit id),k,env,H)
 |.code (.region id ⟨l⟩ false),k,env,H=>some (.ops ⟨l⟩ l,k,env,H)
 |.code (.cond x a b),k,env,H=>match opB env x with
  |.mk (.bool true)=>some (.code a,k,env,H)
  |.mk (.bool false)=>some (.code b,k,env,H)
  |_=>none
 |.ops all [],k,env,H=>some (.out .normal,k,env,H)
 |.ops all (o::l),k,env,H=>match stX T h0 N all o env H with
  |some (env',H')=>some (.ops all l,k,env',H')
  |none=>none
 |.out .normal,.seq c::k,env,H=>some (.code c,k,env,H)
 |.out (.exit i),.seq _::k,env,H=>some (.out (.exit i),k,env,H)
 |.out .ret,.seq _::k,env,H=>some (.out .ret,k,env,H)
 |.out .normal,.blo _::k,env,H=>some (.out .normal,k,env,H)
 |.out (.exit i),.blo id::k,env,H=>match Nat.beq i id with
  |true=>some (.out .normal,k,env,H)
  |false=>some (.out (.exit i),k,env,H)
 |.out .ret,.blo _::k,env,H=>some (.out .ret,k,env,H)
 |.out .normal,.unr c::k,env,H=>some (.code c,.unr c::k,env,H)
 |.out (.exit i),.unr _::k,env,H=>some (.out (.exit i),k,env,H)
 |.out .ret,.unr _::k,env,H=>some (.out .ret,k,env,H)
 |_,_,_,_=>none
def QjB(T:TyX)(h0 N:Nat):Nat->Cf->List Kf->Env->Qd->Option (Cf×List Kf×Env×Qd)
 |0,c,k,env,H=>some (c,k,env,H)
 |n+1,c,k,env,H=>match Qge T h0 N c k env H with
  |some (c',k',env',H')=>QjB T h0 N n c' k' env' H'
  |none=>none
section
variable {P:Program} {T:TyX} {h0 N:Nat} {Q:QD}
theorem Qmx(d:QbK P T){c a:Cf}{k b:List Kf}{env env':Env}{H H':Qd}(h:Qge T h0 N c k env H=some (a,b,env',H'))(g:Hd P h0 N a b env' H' Q):Hd P h0 N c k env H Q:=by
 unfold Qge at h;split at h
 .cases h;exact TC.seq g
 .cases h;exact TC.block g
 .cases h;exact QlY g
 .cases h;exact TC.skip g
 .cases h;exact TC.ret g
 .cases h;exact TC.exit g
 .cases h;exact TC.region g
 .split at h
  .rename_i q;cases h;exact Qjc (QF q) rfl g
  .rename_i q;cases h;exact QfL (QF q) rfl g
  .cases h
 .cases h;exact WO.nil g
 .split at h
  .rename_i q;cases h;exact QmA d q g
  .cases h
 .cases h;exact QmE g
 .cases h;exact seqX g
 .cases h;exact seqR g
 .cases h;exact bloN g
 .split at h
  .rename_i q;cases h;have:=XU q;subst this;exact bloE g
  .rename_i q;cases h;exact bloX q g
 .cases h;exact bloR g
 .cases h;exact unrN g
 .cases h;exact unrX g
 .cases h;exact unrR g
 .cases h
theorem QcY(hT:QbK P T):∀(n:Nat) {c c':Cf} {k k':List Kf} {env env':Env} {H H':Qd},QjB T h0 N n c k env H=some (c',k',env',H')->Hd P h0 N c' k' env' H' Q->Hd P h0 N c k env H Q
 |0,c,c',k,k',env,env',H,H',h,g=>by cases h;exact g
 |n+1,c,c',k,k',env,env',H,H',h,g=>by
  unfold QjB at h;split at h
  .rename_i e;exact Qmx hT e (QcY hT n h g)
  .cases h
theorem Qkw{env:Env}{s:Nat}{a:A}(h:lk env s=a):∀t,lk (up env s a) t=lk env t:=by
 intro t;simp only[up,lk];cases q:Nat.beq t s with
 |true=>have:=XU q;subst this;exact h.symm
 |false=>rfl
theorem Is{α:Type}{all:Array Oper}{l:List Oper}{env:Env}{H:Qd}{b:Bool}{x y:Option α}{r:α}(s:Nat)(h:(bif b then x else y)=some r)(d:lkB env s=.mk (.bool b))
  (t:b=true->x=some r->WO P h0 N all l (up env s (.bool true)) H Q)(e:b=false->y=some r->WO P h0 N all l (up env s (.bool false)) H Q):WO P h0 N all l env H Q:=by
 have a:=QjK d;cases b with
 |true=>exact WO.le (Le.env λt=>.inr (Qkw a t)) (t rfl h)
 |false=>exact WO.le (Le.env λt=>.inr (Qkw a t)) (e rfl h)
theorem Ct3E{S B1:Type}{A B C:Code}{env:Env}{H:Qd}{k:List Kf}{b:Ctl S B1}(Eb:S->Env)(Hb:S->Qd)(h:TC P h0 N A env H (kq P h0 N [.seq B] (Qf2 h0 b Eb Hb (kq P h0 N (.seq C::k) Q))))(g:∀s env H,b=.cont s->Le h0 env H (Eb s) (Hb s)->kq P h0 N (.seq C::k) Q .normal env H):TC P h0 N (.seq A (.seq B C)) env H (kq P h0 N k Q):=
 Qn6 Eb Hb h g
end
def dstN(o:Oper)(i:Nat):Nat:=match o.dst with|some d=>d|none=>1000000+i
def Qbj:Nat->Nat->List Oper->List Nat
 |0,_,_=>[]
 |_+1,_,[]=>[]
 |m+1,i,o::l=>dstN o i::Qbj m (i+1) l
def Yb(af:List Nat):Nat->List Nat->List A->Env->Env
 |j,d::ds,x::xs,e=>(d,bif QdJ af j then x else .any)::Yb af (j+1) ds xs e
 |j,d::ds,[],e=>(d,.any)::Yb af (j+1) ds [] e
 |_,[],_,e=>e
theorem Qf3{l:List Nat}{t:Nat}:QdJ l t=l.contains t:=by
 induction l with
 |nil=>rfl
 |cons a r d=>
  unfold QdJ;rw[List.contains_cons,d];cases q:Nat.beq a t with
  |true=>have:=XU q;subst this;simp
  |false=>
   have b:t≠a:=λz=>by subst z;rw[VJ]at q;cases q
   simp[b]
theorem Qk2{af:List Nat}{env0:Env}{s:Nat}:∀(a:List Nat) (xs g:List A) (b:Nat),
  (∃(j:Nat) (x:A),af.contains (b+j)=true/\a[j]?=some s/\(xs++g)[j]?=some x/\lk (Yb af b a xs env0) s=x)\/lk (Yb af b a xs env0) s=.any\/(a.contains s=false/\lk (Yb af b a xs env0) s=lk env0 s):=by
 intro a
 induction a with
 |nil=>intro xs g b;right;right;exact⟨rfl,by cases xs<;>rfl⟩
 |cons d a n=>
  intro xs g b;have next:∀(e:List A),(∃(j:Nat) (x:A),af.contains (b+1+j)=true/\a[j]?=some s/\(e++g)[j]?=some x/\lk (Yb af (b+1) a e env0) s=x)->∀p,(∃(j:Nat) (x:A),af.contains (b+j)=true/\(d::a)[j]?=some s/\(p::e++g)[j]?=some x/\lk (Yb af (b+1) a e env0) s=x):=by
   rintro e ⟨j,x,k,i,l,m⟩ p;exact⟨j+1,x,by rw[show b+(j+1)=b+1+j by omega];exact k,by simpa using i,by simpa using l,m⟩
  cases xs with
  |nil=>
   cases q:Nat.beq s d with
   |true=>right;left;simp only[Yb,lk,q,Vt]
   |false=>
    have f:s≠d:=λz=>by subst z;rw[VJ]at q;cases q
    simp only[Yb,lk,q,Vu];rcases n [] [] (b+1)with⟨j,x,k,i,l,m⟩|h|⟨k,i⟩
    .simp at l
    .exact .inr (.inl h)
    .exact .inr (.inr ⟨by rw[List.contains_cons,k];simpa using f,i⟩)
  |cons x xs=>
   cases q:Nat.beq s d with
   |true=>
    have:=XU q;subst this;simp only[Yb,lk,q,Vt];cases c:QdJ af b with
    |true=>left;exact⟨0,x,by rw[<- Qf3];exact c,rfl,rfl,rfl⟩
    |false=>right;left;rfl
   |false=>
    have f:s≠d:=λz=>by subst z;rw[VJ]at q;cases q
    simp only[Yb,lk,q,Vu];rcases n xs g (b+1)with h|h|⟨k,i⟩
    .exact .inl (next xs h x)
    .exact .inr (.inl h)
    .exact .inr (.inr ⟨by rw[List.contains_cons,k];simpa using f,i⟩)
section
variable {P:Program} {T:TyX} {h0 N m:Nat} {l:List Oper} {ds:List Nat} {env:Env} {H:Qd} {Q:QD} {K:List Oper->Env->Qd->Prop}
def DS(P:Program)(N m:Nat)(l:List Oper)(ds:List Nat)(env:Env)(H:Qd)(K:List Oper->Env->Qd->Prop)(r:List Oper)(xs:List A):Prop:=
 r=l.drop xs.length->∃ys,xs.length+ys.length=m/\(∀j,xs.length<=j->j<m->JH P N l ds (xs++ys) env H.length H.length j H H)/\K (l.drop m) (Qaw ds (xs++ys) env) H
theorem oqOf{xs:List A}:∀(c i:Nat),(∀j,i<=j->j<i+c->JH P N l ds xs env H.length H.length j H H)->Oq P N l ds xs env H i c
 |0,i,_=>.n
 |c+1,i,h=>.c (h i (XX _) (by omega)) (oqOf c (i+1) λj h1 h2=>h j (by omega) (by omega))
theorem Qoq{id:Nat}{k:List Kf}(m:Nat)(n:P.follows .mixedOrders=true)(i:Go.Sw.draw0 l m N (Qbj m 0 l)=true)(a:Nat.ble h0 H.length=true)
  (h:DS P N m l (Qbj m 0 l) env H (λr e H=>WO P h0 N l.toArray r e H Q) l []):TC P h0 N (.region id l.toArray true) env H Q:=by
 obtain⟨g,f,b,d⟩:=h rfl;simp only[List.length_nil,Xy,Vl]at f b d;exact TC.draw0 m _ g n i (by rw[f];exact VJ m) a (oqOf m 0 λj _ q=>b j (XY _) (by omega)) d
theorem DS.done{xs:List A}{r:List Oper}(b:Nat.beq xs.length m=true)(h:K r (Qaw ds xs env) H):DS P N m l ds env H K r xs:=by
 intro a;have e:=XU b;subst a;refine⟨[],by simpa using e,λj f d=>by omega,?_⟩;rw[<- e,Vk];exact h
theorem DS.add{xs:List A}{o:Oper}{r:List Oper}{x:A}(n:Nat.blt xs.length m=true)(f:∀ys,l[xs.length]?=some o->JH P N l ds (xs++x::ys) env H.length H.length xs.length H H)(k:DS P N m l ds env H K r (xs++[x])):DS P N m l ds env H K (o::r) xs:=by
 intro b;have a:xs.length<l.length:=by
  rcases VG xs.length l.length with q|q
  .exact q
  .rw[List.drop_eq_nil_of_le q]at b;cases b
 rw[Xr a]at b;cases b;obtain⟨ys,g,d,e⟩:=k (by simp);simp only[X7,X5,List.length_nil,Vm,VO,Vl]at g d e;refine⟨x::ys,by simp only[X5];omega,λj i h=>?_,e⟩;rcases VG xs.length j with q|q
 .exact d j (by omega) h
 .obtain rfl:j=xs.length:=by omega
  exact f ys (XO a)
theorem Qiy{xs a:List A}{x:A}:(xs++x::a)[xs.length]?=some x:=by simp
theorem DS.wo{xs:List A}{o:Oper}{r:List Oper}{x:A}{d:Nat}(h:WO P H.length N l.toArray [o] (Yb (Qi o) 0 ds xs env) H (Y8 (up (Yb (Qi o) 0 ds xs env) d x) H))(k:DS P N m l ds env H K r (xs++[x]))
  (i:o.dst=some d:=by exact rfl)(hx:Nat.blt xs.length m=true:=by exact rfl):DS P N m l ds env H K (o::r) xs:=
 .add hx (λe f=>.woE o _ d x f i Qiy (he:=by
  intro s;rcases Qk2 (af:=Qi o) (env0:=env) (s:=s) ds xs (x::e) 0 with⟨j,y,a,n,g,b⟩|q|q
  .rw[Xy]at a;exact .inl ⟨j,y,a,n,g,b⟩
  .exact .inr (.inl q)
  .exact .inr (.inr q)) (hdd:=Qef H) (h:=h)) k
theorem DS.v{xs:List A}{o:Oper}{r:List Oper}{x:A}{d:Nat}(h:OpV P o (Yb (Qi o) 0 ds xs env) H x)(k:DS P N m l ds env H K r (xs++[x]))(hg:Qp l.toArray o (Yb (Qi o) 0 ds xs env) true:=by exact rfl)
  (hd:o.dst=some d:=by exact rfl)(hN:Nat.blt d N=true:=by exact rfl)(hx:Nat.blt xs.length m=true:=by exact rfl):DS P N m l ds env H K (o::r) xs:=
 .wo (QH hg hd hN h (WO.nil Y8.mk)) k hd hx
def QcN:List A->A->FL
 |[],x=>.mk [x]
 |a::r,x=>match QcN r x with
  |.mk r'=>.mk (a::r')
theorem Jb:∀(l:List A) (x:A),QcN l x=.mk (l++[x])
 |[],x=>rfl
 |a::r,x=>by unfold QcN;rw[Jb r];rfl
def Qic(T:TyX)(N m:Nat)(l:List Oper)(ds:List Nat)(env:Env)(H:Qd):Nat->Nat->List Oper->List A->Option (List Oper×List A)
 |0,_,r,xs=>some (r,xs)
 |_+1,_,[],_=>none
 |n+1,i,o::r,xs=>match Nat.blt i m with
  |false=>none
  |true=>match o.dst with
   |none=>none
   |some d=>match Nat.blt d N with
    |false=>none
    |true=>match YY ⟨l⟩ o (Yb (Qi o) 0 ds xs env)with
     |none=>none
     |some false=>match QcN xs (.tup [])with
      |.mk xs'=>Qic T N m l ds env H n (i+1) r xs'
     |some true=>match Qdz T o (Yb (Qi o) 0 ds xs env) H with
      |none=>none
      |some x=>match QcN xs x with
       |.mk xs'=>Qic T N m l ds env H n (i+1) r xs'
theorem QeU(hT:QbK P T):∀(n i:Nat) {r r':List Oper} {xs xs':List A},i=xs.length->Qic T N m l ds env H n i r xs=some (r',xs')->DS P N m l ds env H K r' xs'->DS P N m l ds env H K r xs
 |0,i,r,r',xs,xs',_,h,k=>by cases h;exact k
 |n+1,i,[],r',xs,xs',_,h,k=>by cases h
 |n+1,i,o::r,r',xs,xs',hi,h,k=>by
  subst hi;unfold Qic at h;split at h
  .cases h
  .rename_i q1;split at h
   .cases h
   .rename_i d hd;split at h
    .cases h
    .rename_i q2;split at h
     .cases h
     .rename_i hw;simp only[Jb]at h;exact .wo (WO.skip (QR hw) hd q2 (WO.nil Y8.mk)) (QeU hT n _ (by simp) h k) hd q1
     .rename_i hw;split at h
      .cases h
      .rename_i x hv;simp only[Jb]at h;exact .v (Qax hT hv) (QeU hT n _ (by simp) h k) (QR hw) hd q2 q1
def Qjy:List A->Nat->A->FL
 |[],_,_=>.mk []
 |_::r,0,x=>.mk (x::r)
 |a::r,n+1,x=>match Qjy r n x with
  |.mk r'=>.mk (a::r')
theorem Qbb:∀{l:List A} {n:Nat} {x:A},YQ l n=some x->Qjy l n x=.mk l
 |[],n,x,h=>by cases h
 |a::r,0,x,h=>by cases h;rfl
 |a::r,n+1,x,h=>by unfold Qjy;rw[Qbb (l:=r) (n:=n) h]
theorem Qor{α:Type}{b:Bool}{x y:Option α}{v:α}{xs g i:List A}{r:List Oper}(j:Nat)(h:(bif b then x else y)=some v)(a:YQ xs j=some (.bool b))(d:Qjy xs j (.bool true)=.mk g)(f:Qjy xs j (.bool false)=.mk i)
  (t:b=true->x=some v->DS P N m l ds env H K r g)(e:b=false->y=some v->DS P N m l ds env H K r i):DS P N m l ds env H K r xs:=by
 cases b with
 |true=>rw[Qbb a]at d;cases d;exact t rfl h
 |false=>rw[Qbb a]at f;cases f;exact e rfl h
end
end Go.Sw
namespace Go.Sw
@[reducible] def RQ{β:Type}(w:β->A)(Hc:β->Qd)(r:β):A->Qd->Prop:=λa H=>a=w r/\H=Hc r
@[reducible] def Csm{β:Type}(P:Program)(f:FuncId)(args:List A)(H:Qd)(w:β->A)(r:β):Prop:=C P f args H (RQ w (λ_=>H) r)
structure TyZ where
 sl:List (Nat×Nat×Nat)
 fn:List Nat
structure Qdl (P:Program) (Z:TyZ):Prop where
 sl:∀e∈Z.sl,(∀w,(underlying e.1).run P w=.ok (.slice e.2.1) w)/\ ∀w,(sizeOf e.2.1).run P w=.ok e.2.2 w
 fn:∀f∈Z.fn,∀(a:Array Value) (w:World),(callFunc f a).run P w=.ok (.enter f a) w
section
variable {P:Program} {Z:TyZ} {h0 N:Nat} {all:Array Oper} {o:Oper} {l:List Oper} {env:Env} {H:Qd} {Q:QD} {d:Nat}
theorem Izz(a:Qdl P Z){α:Type}{e:α->List A}{t et k:Nat}{L:List α}{b:IntKind}{i:Int}{v:α}(h:idx L i=some v)(q:ixB o env=some (d,t,k,L.map e,b,i))(g:WO P h0 N all l (up env d (.rp (e v))) H Q)
  (f:Qcp Z.sl t=some (et,k))(hg:YY all o env=some true)(n:Nat.blt d N=true):WO P h0 N all (o::l) env H Q:=by
 obtain⟨m,j⟩:=a.sl _ (Qay f);exact Ix h m j q g (QR hg) n
theorem Ize(a:Qdl P Z){α:Type}{e:α->List A}{t et k:Nat}{L:List α}{b:IntKind}{i:Int}{v:α}{cs:List A}(h:idx L i=some v)(he:e v=cs)(q:ixB o env=some (d,t,k,L.map e,b,i))(g:WO P h0 N all l (up env d (.rp cs)) H Q)
  (j:Qcp Z.sl t=some (et,k))(hg:YY all o env=some true)(f:Nat.blt d N=true):WO P h0 N all (o::l) env H Q:=by
 subst he;exact Izz a h q g j hg f
theorem Lmz(a:Qdl P Z){α:Type}{e:α->List A}{t et k f:Nat}{L:List α}(q:lnB o env=some (d,t,.mk (.rsl k (L.map e))))(g:WO P h0 N all l (up env d (.int .i64 L.length)) H Q)
  (b:Qcp Z.sl t=some (et,f))(hg:YY all o env=some true)(i:Nat.blt d N=true):WO P h0 N all (o::l) env H Q:=by
 obtain⟨h,j⟩:=a.sl _ (Qay b);exact LnM h q g (QR hg) i
def Qf9(Z:TyZ)(o:Oper)(env:Env):Option (Nat×Nat×List A):=
 match o.dst with
 |none=>none
 |some d=>match o.op with
  |.call {callee:=.value (.func f),args:=⟨xs⟩,argTypes:=_}=>bif QdJ Z.fn f then(match fl (Qip env xs)with|.mk ax=>some (d,f,ax))else none
  |.call {callee:=.value (.tmp x),args:=⟨xs⟩,argTypes:=_}=>match opB env (.tmp x)with
   |.mk (.fn (.func f) vf vc)=>bif QdJ Z.fn f then(match fl (vf++(Qip env xs++vc))with|.mk ax=>some (d,f,ax))else none
   |_=>none
  |_=>none
theorem QeE(e:Qdl P Z){f:Nat}{args:List A}(h:Qf9 Z o env=some (d,f,args)):o.dst=some d/\OpC P o env H f args:=by
 unfold Qf9 at h;split at h
 .cases h
 .rename_i k g;split at h
  .rename_i a xs j b;cases q:QdJ Z.fn a with
   |false=>rw[q]at h;cases h
   |true=>
    rw[q]at h;simp only[Qcv,Vt]at h;cases h;exact⟨g,OpC.fn (xs:=xs) (e.fn _ (Qhn q)) b rfl (Qc5 xs).symm⟩
  .rename_i x xs j b;split at h
   .rename_i a m l i;cases q:QdJ Z.fn a with
    |false=>rw[q]at h;cases h
    |true=>
     rw[q]at h;simp only[Qcv,Vt]at h;cases h;exact⟨g,QaF (xs:=xs) (e.fn _ (Qhn q)) b rfl (QF i) (by rw[Qc5])⟩
   .cases h
  .cases h
theorem Czz(q:Qdl P Z){β γ:Type}{F:Option β}{F':β->Option γ}{r:γ}{f:Nat}{args a:List A}{Hc:Qd}{w:β->A}(π:List Nat)(h:F.bind F'=some r)(s:∀v,F=some v->C P f a Hc (RQ w (λ_=>Hc) v))
  (b:Qf9 Z o env=some (d,f,args))(g:∀v,F=some v->F' v=some r->WO P h0 N all l (up env d (w v)) H Q)(i:∀v,Qjz (w v)=some (.mk (w v)))
  (hargs:args=Qaa (rho π H.length) a)(hH:π.map (λp=>H[p]?)=(Hc.map (QW (rho π H.length))).map some)(hπ:π.Nodup)(hg:YY all o env=some true)(n:Nat.blt d N=true)(m:Nat.ble h0 H.length=true):WO P h0 N all (o::l) env H Q:=by
 obtain⟨v,e,k⟩:=Jh h;obtain⟨j,t⟩:=QeE (H:=H) q b;exact Pc π j t (s v e) (i v) (g v e k) hargs hH hπ (QR hg) n m
theorem DzZ(u:Qdl P Z){K:List Oper->Env->Qd->Prop}{m:Nat}{i:List Oper}{b:List Nat}{xs:List A}{β γ:Type}{F:Option β}{F':β->Option γ}{r:γ}{f:Nat}{args a:List A}{Hc:Qd}{w:β->A}(π:List Nat)(h:F.bind F'=some r)(x:∀v,F=some v->C P f a Hc (RQ w (λ_=>Hc) v))
  (e:Qf9 Z o (Yb (Qi o) 0 b xs env)=some (d,f,args))(g:∀v,F=some v->F' v=some r->DS P N m i b env H K l (xs++[w v]))(n:∀v,Qjz (w v)=some (.mk (w v)))
  (hargs:args=Qaa (rho π H.length) a)(hH:π.map (λp=>H[p]?)=(Hc.map (QW (rho π H.length))).map some)(hπ:π.Nodup)(hg:YY i.toArray o (Yb (Qi o) 0 b xs env)=some true)(t:Nat.blt d N=true)(s:Nat.blt xs.length m=true):DS P N m i b env H K (o::l) xs:=by
 obtain⟨v,k,q⟩:=Jh h;obtain⟨j,y⟩:=QeE (H:=H) u e;exact .wo (Pc π j y (x v k) (n v) (WO.nil Y8.mk) hargs hH hπ (QR hg) t (XW (XX _))) (g v k q) j s
theorem ln:Qbo H [] []:=trivial
theorem ls{ax b:List A}{a:A}(k:Qbo H ax b)(h:Yr a=true:=by exact rfl):Qbo H (a::ax) (a::b):=⟨.inl ⟨rfl,h⟩,k⟩
theorem lo{ax a:List A}{i n k t:Nat}{es:List (List A)}(b:Qbo H ax a)(hH:H[i]?=some (.row t k es):=by exact rfl)(hn:es.length=n:=by exact X6 ..):Qbo H (.osl i 0 n k::ax) (.rsl k es::a):=
 ⟨.inr ⟨_,_,_,_,_,rfl,hH,hn,rfl⟩,b⟩
theorem Cbz(n:Qdl P Z){β γ:Type}{F:Option β}{F':β->Option γ}{r:γ}{f:Nat}{args a:List A}{w:β->A}(h:F.bind F'=some r)(q:∀v,F=some v->C P f a [] (RQ w (λ_=>[]) v))
  (b:Qf9 Z o env=some (d,f,args))(p:Qbo H args a)(g:∀v,F=some v->F' v=some r->WO P h0 N all l (up env d (w v)) H Q)(i:∀v,Yq (w v)=true)
  (hg:YY all o env=some true)(m:Nat.blt d N=true):WO P h0 N all (o::l) env H Q:=by
 obtain⟨v,e,k⟩:=Jh h;obtain⟨j,s⟩:=QeE (H:=H) n b;refine Qdk s p (q v e) ?_ ?_ (QR hg) j m
 .rintro _ _ ⟨rfl,rfl⟩;exact i v
 .rintro _ _ ⟨rfl,rfl⟩;exact g v e k
end
def ixL:List Nat:=[0,1,2,3,4,5,6,7,8,9,10,11,12,13,14,15,16,17,18,19,20,21,22,23,24,25,26,27,28,29,30,31,32,33,34,35,36,37,38,39,40,41,42,43,44,45,46,47,48,49,50,51,52,53,54,55,56,57,58,59,60,61,62,63]
def Qlr:List Nat->List Nat->Nat->FN
 |a::r,b::s,j=>bif Nat.beq a j then .mk b else Qlr r s j
 |_,_,j=>.mk j
mutual
def cpA(sel:List Nat):A->Bx
 |.ptr i off=>match Qlr sel ixL i with
  |.mk j=>.mk (.ptr j off)
 |.osl i o n k=>match Qlr sel ixL i with
  |.mk j=>.mk (.osl j o n k)
 |.map i=>match Qlr sel ixL i with
  |.mk j=>.mk (.map j)
 |.fn f a c=>match cpL sel a,cpL sel c with
  |.mk a',.mk c'=>.mk (.fn f a' c')
 |a=>.mk a
def cpL(sel:List Nat):List A->FL
 |[]=>.mk []
 |a::r=>match cpA sel a,cpL sel r with
  |.mk a',.mk r'=>.mk (a'::r')
end
inductive FV where
 |mk (e:Env)
def Qnd(sel:List Nat)(env:Env):List Nat->Env->FV
 |[],nE=>.mk nE
 |s::r,nE=>match lkB env s with
  |.mk a=>match cpA sel a,Qnd sel env r nE with
   |.mk a',.mk e=>.mk ((s,a')::e)
def selH(H:Qd):List Nat->List Nat->List (Nat×Blk)->FB
 |a::r,p::ps,[]=>match YQ H a,selH H r ps []with
  |some b,.mk l=>.mk (b::l)
  |none,.mk l=>.mk l
 |a::r,p::ps,(q,b)::n=>bif Nat.beq p q then(match selH H r ps n with|.mk l=>.mk (b::l))else(match YQ H a,selH H r ps ((q,b)::n)with
  |some b,.mk l=>.mk (b::l)
  |none,.mk l=>.mk l)
 |_,_,_=>.mk []
def QnS(sel keep:List Nat)(nE:Env)(nH:List (Nat×Blk))(env:Env)(H:Qd):Option (Env×Qd):=
 match Qnd sel env keep nE,selH H sel ixL nH with
 |.mk e,.mk h=>some (e,h)
section
variable {P:Program} {h0 N:Nat} {c:Code} {env:Env} {H:Qd} {Q:QD}
def CutQ{β:Type}(h0:Nat)(b:β)(E':β->Env)(H':β->Qd)(Q:QD):QD
 |.normal,env,H=>Le h0 env H (E' b) (H' b)
 |.exit id,env,H=>Q (.exit id) env H
 |.ret,env,H=>Q .ret env H
theorem QI{h0:Nat}{env:Env}{H:Qd}{Q:QD}{β:Type}{b:β}{E':β->Env}{H':β->Qd}(h:Le h0 env H (E' b) (H' b)):CutQ h0 b E' H' Q .normal env H:=h
theorem Ct{β:Type}{E':β->Env}{H':β->Qd}(b:β)(sel keep:List Nat)(nE:β->Env)(nH:β->List (Nat×Blk))(_:∀b,QnS sel keep (nE b) (nH b) env H=some (E' b,H' b))(h:TC P h0 N c env H (CutQ h0 b E' H' Q))(k:∀env H,Le h0 env H (E' b) (H' b)->Q .normal env H):TC P h0 N c env H Q:=
 h.mono λx env' H' q=>by
  cases x with
  |normal=>exact k _ _ q
  |exit id=>exact q
  |ret=>exact q
theorem CtE{S B:Type}{b:Ctl S B}{E':S->Env}{H':S->Qd}(sel keep:List Nat)(nE:S->Env)(nH:S->List (Nat×Blk))(_:∀s,QnS sel keep (nE s) (nH s) env H=some (E' s,H' s))(h:TC P h0 N c env H (Qf2 h0 b E' H' Q))(k:∀s env H,b=.cont s->Le h0 env H (E' s) (H' s)->Q .normal env H):TC P h0 N c env H Q:=QhM E' H' h k
theorem Lp{S B:Type}{step:S->Option (Ctl S B)}{E':S->Env}{H':S->Qd}{m:Nat}{s0:S}{b0:B}(sel keep:List Nat)(nE:S->Env)(nH:S->List (Nat×Blk))(h:iter step m s0=some b0)(_:∀s,QnS sel keep (nE s) (nH s) env H=some (E' s,H' s))(hI:Le h0 env H (E' s0) (H' s0))
  (body:∀s d,step s=some d->(∀b,d=.done b->b=b0)->TC P h0 N c (E' s) (H' s) (Qbn (λs env H=>Le h0 env H (E' s) (H' s)) d Q)):TC P h0 N (.loop c) env H Q:=TC.loop E' H' h hI body
end
theorem Oj{S B:Type}{d:Ctl S B}{x b0:B}(hb:∀b,d=.done b->b=b0)(h:some (Ctl.done x)=some d):x=b0:=hb x (Oi h).symm
theorem Rt{P:Program}{h0:Nat}{fn:Func}{env:Env}{H:Qd}{β:Type}{e r:β}{w:β->A}{Hc:β->Qd}(h:some e=some r)(s:Nat)(π:List Nat)(a:fn.results= #[.tmp s]:=by exact rfl)(hpre:π.take h0=List.range h0:=by exact rfl)
  (hH:π.map (λp=>H[p]?)=((Hc e).map (QW (rho π H.length))).map some:=by exact rfl)(hπ:π.Nodup:=by decide)(hE:Qel (rho π H.length) env [(s,w e)]:=by exact⟨rfl,trivial⟩):Qdp P h0 fn (RQ w Hc r) .ret env H:=by
 cases h;exact R1 s a (Lr π hpre hH hπ hE)
theorem Cl{h0:Nat}{env:Env}{H:Qd}{Q:QD}{β:Type}{e b:β}{E':β->Env}{H':β->Qd}(h:some e=some b)(π:List Nat)(a:π.take h0=List.range h0:=by exact rfl)
  (hH:π.map (λp=>H[p]?)=((H' e).map (QW (rho π H.length))).map some:=by exact rfl)(hπ:π.Nodup:=by decide)(hE:Qel (rho π H.length) env (E' e):=by(repeat' (first|exact trivial|refine⟨rfl,?_⟩))):CutQ h0 b E' H' Q .normal env H:=by
 cases h;exact Lr π a hH hπ hE
end Go.Sw
namespace Go.Sw
def plC(cat:List Nat):List (List (Nat×Nat)):=cat.map λc=>match c with|0=>[(0,0)]|1=>[(0,1)]|2=>[(1,1)]|_=>[(0,0),(1,1)]
def rqC(b:Nat)(cat:List Nat):List (List Nat):=cat.map λc=>match c with|2=>[b]|_=>[]
def hsC(cat:List Nat):List Bool:=cat.map λc=>match c with|1=>true|_=>false
section
variable {P:Program} {T:TyX} {h0 N m b:Nat} {cat:List Nat} {l:List Oper} {ds:List Nat} {env:Env} {H H1:Qd} {Q:QD} {K:List Oper->Env->Qd->Prop}
theorem QhS{P:Program}{N:Nat}{l:List Oper}{ds:List Nat}{xs:List A}{env0:Env}{hB hE:Nat}:∀(ss:List (List (Qd×Qd))) (b:Nat),(∀i s,ss[i]?=some s->∀p∈s,JH P N l ds xs env0 hB hE (b+i) p.1 p.2)->QhT P N l ds xs env0 hB hE b ss
 |[],b,h=>.nil
 |s::ss,b,h=>.cons (h 0 s rfl) (QhS ss (b+1) λi s' hs=>by rw[show b+1+i=b+(i+1)by omega];exact h (i+1) s' hs)
def Dob(P:Program)(N:Nat)(cat:List Nat)(l:List Oper)(ds:List Nat)(env:Env)(H H1:Qd)(zs:List A)(j:Nat):Prop:=
 ∀p∈(plC cat).getD j [],JH P N l ds zs env H.length H.length j ([H,H1].getD p.1 []) ([H,H1].getD p.2 [])
def DB(P:Program)(N m:Nat)(cat:List Nat)(l:List Oper)(ds:List Nat)(env:Env)(H H1:Qd)(K:List Oper->Env->Qd->Prop)(r:List Oper)(xs:List A):Prop:=
 r=l.drop xs.length->∃ys,xs.length+ys.length=m/\(∀j,xs.length<=j->j<m->Dob P N cat l ds env H H1 (xs++ys) j)/\K (l.drop m) (Qaw ds (xs++ys) env) H1
def DA(P:Program)(N m:Nat)(cat:List Nat)(l:List Oper)(ds:List Nat)(env:Env)(H:Qd)(K:List Oper->Env->Qd->Prop)(r:List Oper)(xs:List A):Prop:=
 r=l.drop xs.length->∃ys H1,xs.length+ys.length=m/\H.length<=H1.length/\(∀j,xs.length<=j->j<m->Dob P N cat l ds env H H1 (xs++ys) j)/\K (l.drop m) (Qaw ds (xs++ys) env) H1
theorem QqJ{f:List A}(a:cat.length=m)(h:∀j,0<=j->j<m->Dob P N cat l ds env H H1 f j):QhT P N l ds f env H.length (H.length+0) 0 ((plC cat).map λq=>q.map λp=>([H,H1].getD p.1 [],[H,H1].getD p.2 [])):=by
 refine QhS _ 0 λi s b p k=>?_;rw[Xq]at b;cases e:(plC cat)[i]? with
 |none=>rw[e]at b;cases b
 |some q=>
  rw[e]at b;cases b;obtain⟨g,d,rfl⟩:=Xe.1 k;have n:i<m:=by
   have:=(XP.1 e).1;simpa[plC,a]using this
  have:=h i (XY _) n g (by rw[QkU e];exact d);simpa using this
theorem DA.len(a:H.length<=H1.length):[H,H1].all (λX=>Nat.ble (H.length+0) X.length)=true:=by
 simp only[List.all_cons,List.all_nil,Bool.and_true,Xz,X0];exact⟨XW (XX _),XW a⟩
theorem Qou{id:Nat}(m b:Nat)(cat:List Nat)(n:P.follows .mixedOrders=true)(q:Qee l m N (Qbj m 0 l) (hsC cat) (rqC b cat) [[],[b]] (plC cat)=true)(f:Nat.beq cat.length m=true)(d:Nat.ble h0 H.length=true)
  (h:DA P N m cat l (Qbj m 0 l) env H (λr e H=>WO P h0 N l.toArray r e H Q) l []):TC P h0 N (.region id l.toArray true) env H Q:=by
 obtain⟨k,H1,i,p,j,g⟩:=h rfl;simp only[List.length_nil,Xy,Vl]at i j g;have a:=XU f;exact Y1 m 0 _ _ _ _ _ k [H,H1] H1 n q (by rw[i];exact VJ m) rfl d (DA.len p) (by simp) rfl (QqJ a j) (by simp[plC,a]) g
theorem Qbk{xs:List A}{o:Oper}{r:List Oper}(b:o::r=l.drop xs.length):l[xs.length]?=some o/\r=l.drop (xs.length+1):=by
 have a:xs.length<l.length:=by
  rcases VG xs.length l.length with q|q
  .exact q
  .rw[List.drop_eq_nil_of_le q]at b;cases b
 rw[Xr a]at b;cases b;exact⟨XO a,rfl⟩
theorem QhY{zs:List A}{j c:Nat}(b:YQ cat j=some c)(h:∀p∈(match c with|0=>[(0,0)]|1=>[(0,1)]|2=>[(1,1)]|_=>[(0,0),(1,1)]:List (Nat×Nat)),JH P N l ds zs env H.length H.length j ([H,H1].getD p.1 []) ([H,H1].getD p.2 [])):Dob P N cat l ds env H H1 zs j:=by
 intro p a;rw[QaD]at b;unfold plC at a;rw[VP,Xq,b]at a;exact h p a
theorem QaB{hB hE:Nat}{xs a:List A}{o:Oper}{x:A}{d:Nat}{X X':Qd}(i:l[xs.length]?=some o)(hdd:Qau hB hE X X'=true)(h:WO P X.length N l.toArray [o] (Yb (Qi o) 0 ds xs env) X (Y8 (up (Yb (Qi o) 0 ds xs env) d x) X'))(g:o.dst=some d):
  JH P N l ds (xs++x::a) env hB hE xs.length X X':=
 .woE o _ d x i g Qiy (he:=by
  intro s;rcases Qk2 (af:=Qi o) (env0:=env) (s:=s) ds xs (x::a) 0 with⟨j,y,b,k,f,e⟩|q|q
  .rw[Xy]at b;exact .inl ⟨j,y,b,k,f,e⟩
  .exact .inr (.inl q)
  .exact .inr (.inr q)) (hdd:=hdd) (h:=h)
theorem Ja{n:Nat}{X X':Qd}:Qau n n X X'=true:=by unfold Qau;rw[Nat.sub_self];rfl
theorem DA.wo{xs:List A}{o:Oper}{r:List Oper}{x:A}{d:Nat}(h:WO P H.length N l.toArray [o] (Yb (Qi o) 0 ds xs env) H (Y8 (up (Yb (Qi o) 0 ds xs env) d x) H))(k:DA P N m cat l ds env H K r (xs++[x]))
  (u:YQ cat xs.length=some 0:=by exact rfl)(hd:o.dst=some d:=by exact rfl)(hx:Nat.blt xs.length m=true:=by exact rfl):DA P N m cat l ds env H K (o::r) xs:=by
 intro s;obtain⟨g,a⟩:=Qbk s;obtain⟨f,H1,n,i,e,b⟩:=k (by simpa using a);simp only[X7,X5,List.length_nil,Vm,VO,Vl]at n e b;refine⟨x::f,H1,by simp only[X5];omega,i,λj y w=>?_,b⟩;rcases VG xs.length j with q|q
 .exact e j (by omega) w
 .obtain rfl:j=xs.length:=by omega
  refine QhY u λp t=>?_;obtain rfl:=VF.1 t;exact QaB g Ja h hd
theorem DA.op{xs:List A}{o:Oper}{r:List Oper}{x:A}{d:Nat}(h:WO P H.length N l.toArray [o] (Yb (Qi o) 0 ds xs env) H (Y8 (up (Yb (Qi o) 0 ds xs env) d x) H1))(k:DB P N m cat l ds env H H1 K r (xs++[x]))(hl:Nat.ble H.length H1.length=true:=by exact rfl)
  (hc:YQ cat xs.length=some 1:=by exact rfl)(hd:o.dst=some d:=by exact rfl)(hx:Nat.blt xs.length m=true:=by exact rfl):DA P N m cat l ds env H K (o::r) xs:=by
 intro n;obtain⟨g,a⟩:=Qbk n;obtain⟨f,i,e,b⟩:=k (by simpa using a);simp only[X7,X5,List.length_nil,Vm,VO,Vl]at i e b;refine⟨x::f,H1,by simp only[X5];omega,XV hl,λj u t=>?_,b⟩;rcases VG xs.length j with q|q
 .exact e j (by omega) t
 .obtain rfl:j=xs.length:=by omega
  refine QhY hc λp s=>?_;obtain rfl:=VF.1 s;exact QaB g Ja h hd
theorem QbI{xs:List A}{o:Oper}{r:List Oper}{x x':A}{d:Nat}{H1':Qd}(h:OpH P o (Yb (Qi o) 0 ds xs env) H x H1)(a:foA x=.mk x')(b:foH H1=.mk H1')(k:DB P N m cat l ds env H H1' K r (xs++[x']))(e:o.dst=some d:=by exact rfl)(hg:YY ⟨l⟩ o (Yb (Qi o) 0 ds xs env)=some true:=by exact rfl)(hN:Nat.blt d N=true:=by exact rfl)(hl:Nat.ble H.length H1'.length=true:=by exact rfl)
  (hc:YQ cat xs.length=some 1:=by exact rfl)(hx:Nat.blt xs.length m=true:=by exact rfl):DA P N m cat l ds env H K (o::r) xs:=by
 rw[Qhv]at a;rw[QjR]at b;cases a;cases b;exact .op (Y6 (XX _) (QR hg) e hN h (WO.nil Y8.mk)) k hl hc e hx
theorem DB.done{xs:List A}{r:List Oper}(b:Nat.beq xs.length m=true)(h:K r (Qaw ds xs env) H1):DB P N m cat l ds env H H1 K r xs:=by
 intro a;have e:=XU b;subst a;refine⟨[],by simpa using e,λj f d=>by omega,?_⟩;rw[<- e,Vk];exact h
theorem DB.add{xs:List A}{o:Oper}{r:List Oper}{x:A}(e:∀ys,l[xs.length]?=some o->Dob P N cat l ds env H H1 (xs++x::ys) xs.length)(k:DB P N m cat l ds env H H1 K r (xs++[x])):DB P N m cat l ds env H H1 K (o::r) xs:=by
 intro h;obtain⟨f,a⟩:=Qbk h;obtain⟨ys,g,d,b⟩:=k (by simpa using a);simp only[X7,X5,List.length_nil,Vm,VO,Vl]at g d b;refine⟨x::ys,by simp only[X5];omega,λj n i=>?_,b⟩;rcases VG xs.length j with q|q
 .exact d j (by omega) i
 .obtain rfl:j=xs.length:=by omega
  exact e ys f
theorem DB.wo1{xs:List A}{o:Oper}{r:List Oper}{x:A}{d:Nat}(h:WO P H1.length N l.toArray [o] (Yb (Qi o) 0 ds xs env) H1 (Y8 (up (Yb (Qi o) 0 ds xs env) d x) H1))(k:DB P N m cat l ds env H H1 K r (xs++[x]))
  (b:YQ cat xs.length=some 2:=by exact rfl)(hd:o.dst=some d:=by exact rfl):DB P N m cat l ds env H H1 K (o::r) xs:=
 .add (λf e=>QhY b λp a=>by
  obtain rfl:=VF.1 a;exact QaB e Ja h hd) k
theorem DB.wo2{xs:List A}{o:Oper}{r:List Oper}{x:A}{d:Nat}(h:WO P H.length N l.toArray [o] (Yb (Qi o) 0 ds xs env) H (Y8 (up (Yb (Qi o) 0 ds xs env) d x) H))(e:WO P H1.length N l.toArray [o] (Yb (Qi o) 0 ds xs env) H1 (Y8 (up (Yb (Qi o) 0 ds xs env) d x) H1))(k:DB P N m cat l ds env H H1 K r (xs++[x]))
  (f:YQ cat xs.length=some 3:=by exact rfl)(hd:o.dst=some d:=by exact rfl):DB P N m cat l ds env H H1 K (o::r) xs:=
 .add (λg b=>QhY f λp a=>by
  rcases Va.1 a with rfl|a
  .exact QaB b Ja h hd
  .obtain rfl:=VF.1 a;exact QaB b Ja e hd) k
def Qid(T:TyX)(N m:Nat)(cat:List Nat)(l:List Oper)(ds:List Nat)(env:Env)(H:Qd):Nat->Nat->List Oper->List A->Option (List Oper×List A)
 |0,_,r,xs=>some (r,xs)
 |_+1,_,[],_=>none
 |n+1,i,o::r,xs=>match Nat.blt i m,YQ cat i with
  |true,some 0=>match o.dst with
   |none=>none
   |some d=>match Nat.blt d N with
    |false=>none
    |true=>match YY ⟨l⟩ o (Yb (Qi o) 0 ds xs env)with
     |none=>none
     |some false=>match QcN xs (.tup [])with
      |.mk xs'=>Qid T N m cat l ds env H n (i+1) r xs'
     |some true=>match Qdz T o (Yb (Qi o) 0 ds xs env) H with
      |none=>none
      |some x=>match QcN xs x with
       |.mk xs'=>Qid T N m cat l ds env H n (i+1) r xs'
  |_,_=>none
theorem QeX(hT:QbK P T):∀(n i:Nat) {r r':List Oper} {xs xs':List A},i=xs.length->Qid T N m cat l ds env H n i r xs=some (r',xs')->DA P N m cat l ds env H K r' xs'->DA P N m cat l ds env H K r xs
 |0,i,r,r',xs,xs',_,h,k=>by cases h;exact k
 |n+1,i,[],r',xs,xs',_,h,k=>by cases h
 |n+1,i,o::r,r',xs,xs',hi,h,k=>by
  subst hi;unfold Qid at h;split at h
  .rename_i q1 q0;split at h
   .cases h
   .rename_i d hd;split at h
    .cases h
    .rename_i q2;split at h
     .cases h
     .rename_i hw;simp only[Jb]at h;exact .wo (WO.skip (QR hw) hd q2 (WO.nil Y8.mk)) (QeX hT n _ (by simp) h k) q0 hd q1
     .rename_i hw;split at h
      .cases h
      .rename_i x hv;simp only[Jb]at h;exact .wo (QH (QR hw) hd q2 (Qax hT hv) (WO.nil Y8.mk)) (QeX hT n _ (by simp) h k) q0 hd q1
  .cases h
theorem QoC{H:Qd}{p:Bx}{r:Lx}(h:ptX [] p=some r):ptX H p=some r:=by
 unfold ptX at h⊢;split at h
 .exact h
 .rename_i i a;simp only[YQ]at h;cases h
 .cases h
theorem QeL{o:Oper}{e:Env}{H:Qd}{x:A}(h:Qdz T o e []=some x):Qdz T o e H=some x:=by
 unfold Qdz at h⊢;split at h<;>first|exact h|skip
 rename_i t y f;split at h
 .cases h
 .rename_i b n g;split at h
  .exact h
  .rename_i a;cases q:ptX [] (opB e y)with
   |none=>rw[q]at h;cases h
   |some r=>
    rw[q]at h;have d:=QoC (H:=H) q;simp only[d];exact h
def QeW(T:TyX)(N:Nat)(cat:List Nat)(l:List Oper)(ds:List Nat)(env:Env)(H1:Qd):Nat->Nat->List Oper->List A->Option (List Oper×List A)
 |0,_,r,xs=>some (r,xs)
 |_+1,_,[],_=>none
 |n+1,i,o::r,xs=>match o.dst with
  |none=>none
  |some d=>match Nat.blt d N with
   |false=>none
   |true=>match YY ⟨l⟩ o (Yb (Qi o) 0 ds xs env)with
    |none=>none
    |some false=>match YQ cat i with
     |some 2=>(match QcN xs (.tup [])with
      |.mk xs'=>QeW T N cat l ds env H1 n (i+1) r xs')
     |some 3=>(match QcN xs (.tup [])with
      |.mk xs'=>QeW T N cat l ds env H1 n (i+1) r xs')
     |_=>none
    |some true=>match YQ cat i with
     |some 2=>(match Qdz T o (Yb (Qi o) 0 ds xs env) H1 with
      |none=>none
      |some x=>match QcN xs x with
       |.mk xs'=>QeW T N cat l ds env H1 n (i+1) r xs')
     |some 3=>(match Qdz T o (Yb (Qi o) 0 ds xs env) []with
      |none=>none
      |some x=>match QcN xs x with
       |.mk xs'=>QeW T N cat l ds env H1 n (i+1) r xs')
     |_=>none
theorem QbT(hT:QbK P T):∀(n i:Nat) {r r':List Oper} {xs xs':List A},i=xs.length->QeW T N cat l ds env H1 n i r xs=some (r',xs')->DB P N m cat l ds env H H1 K r' xs'->DB P N m cat l ds env H H1 K r xs
 |0,i,r,r',xs,xs',_,h,k=>by cases h;exact k
 |n+1,i,[],r',xs,xs',_,h,k=>by cases h
 |n+1,i,o::r,r',xs,xs',hi,h,k=>by
  subst hi;unfold QeW at h;split at h
  .cases h
  .rename_i d hd;split at h
   .cases h
   .rename_i q2;split at h
    .cases h
    .rename_i hw;split at h
     .rename_i q0;simp only[Jb]at h;exact .wo1 (WO.skip (QR hw) hd q2 (WO.nil Y8.mk)) (QbT hT n _ (by simp) h k) q0 hd
     .rename_i q0;simp only[Jb]at h;exact .wo2 (WO.skip (QR hw) hd q2 (WO.nil Y8.mk)) (WO.skip (QR hw) hd q2 (WO.nil Y8.mk)) (QbT hT n _ (by simp) h k) q0 hd
     .cases h
    .rename_i hw;split at h
     .rename_i q0;split at h
      .cases h
      .rename_i x hv;simp only[Jb]at h;exact .wo1 (QH (QR hw) hd q2 (Qax hT hv) (WO.nil Y8.mk)) (QbT hT n _ (by simp) h k) q0 hd
     .rename_i q0;split at h
      .cases h
      .rename_i x hv;simp only[Jb]at h;exact .wo2 (QH (QR hw) hd q2 (Qax hT (QeL hv)) (WO.nil Y8.mk)) (QH (QR hw) hd q2 (Qax hT (QeL hv)) (WO.nil Y8.mk)) (QbT hT n _ (by simp) h k) q0 hd
     .cases h
end
end Go.Sw
namespace Go.Sw
def chkF(L:List (Nat×List (Nat×Nat)))(fs:List (Nat×Nat×Nat)):Bool:=
 fs.all λe=>match Qcp L e.1 with
  |some pl=>(match YQ pl e.2.1 with
   |some q=>Nat.beq q.1 e.2.2&& !(Nat.beq q.2 0)
   |none=>false)
  |none=>false
theorem PL.get{P:Program}{fs:List Field}{b:List (Nat×Nat)}(h:PL P fs b):∀{f off n:Nat},YQ b f=some (off,n)->∃fd,fs[f]?=some fd/\fd.offset=off/\ ∀w,(sizeOf fd.type).run P w=.ok n w:=by
 induction h with
 |nil=>intro f off n h;cases h
 |cons h k d=>
  intro f off n a;cases f with
  |zero=>cases a;exact⟨_,rfl,rfl,h⟩
  |succ f=>obtain⟨fd,g,e⟩:=d (show YQ _ f=_ from a);exact⟨fd,by simpa using g,e⟩
theorem Qqq{P:Program}{L:List (Nat×List (Nat×Nat))}{fs:List (Nat×Nat×Nat)}(m:∀e∈L,QE P e.1 e.2)(h:chkF L fs=true):∀e∈fs,∃n,QM P e.1 e.2.1 e.2.2 n:=by
 intro e f;have:=Xu.1 h e f;split at this
 .rename_i t b;split at this
  .rename_i q d;obtain⟨l,n⟩:=q;simp only[X0,Bool.not_eq_true']at this;have s:=XU this.1;obtain⟨p,j,a⟩:=m _ (Qay b);obtain⟨r,k,g,i⟩:=PL.get a d;refine⟨n,⟨⟨_,r,j,by simpa using k,g.trans s,i,?_⟩⟩⟩;intro z;have a:=this.2;rw[z,VJ]at a;cases a
  .cases this
 .cases this
section
variable {P:Program} {Z:TyZ} {h0 N:Nat} {all:Array Oper} {o:Oper} {l:List Oper} {env:Env} {H:Qd} {Q:QD} {d:Nat}
theorem Cdz(n:Qdl P Z){β γ:Type}{F:Option β}{F':β->Option γ}{r:γ}{f:Nat}{args a:List A}{Hc:Qd}{w:β->A}{Hr:β->Qd}(π:List Nat)(h:F.bind F'=some r)(q:∀v,F=some v->C P f a Hc (RQ w Hr v))
  (b:Qf9 Z o env=some (d,f,args))(g:∀v,F=some v->F' v=some r->WO P h0 N all l (up env d (YF (rho π H.length) (w v))) (Ys H π ((Hr v).map (QW (rho π H.length)))) Q)
  (hargs:args=Qaa (rho π H.length) a)(hH:π.map (λp=>H[p]?)=(Hc.map (QW (rho π H.length))).map some)(hπ:π.Nodup)(hg:YY all o env=some true)(m:Nat.blt d N=true)(k:Nat.ble h0 H.length=true):WO P h0 N all (o::l) env H Q:=by
 obtain⟨v,e,j⟩:=Jh h;obtain⟨i,s⟩:=QeE (H:=H) n b;refine QA π s (q v e) ?_ hargs hH hπ (QR hg) i m k;rintro _ _ ⟨rfl,rfl⟩;exact g v e j
end
inductive FLL where
 |mk (l:List (List A))
def cpLL(sel:List Nat):List (List A)->FLL
 |[]=>.mk []
 |a::r=>match cpL sel a,cpLL sel r with
  |.mk a',.mk r'=>.mk (a'::r')
inductive FBk where
 |mk (b:Blk)
def cpBk(sel:List Nat):Blk->FBk
 |.cells t cs=>match cpL sel cs with
  |.mk l=>.mk (.cells t l)
 |.rowr t k es=>match cpLL sel es with
  |.mk l=>.mk (.rowr t k l)
 |.ents t a b es=>match Qlr sel ixL a,Qlr sel ixL b with
  |.mk a',.mk b'=>.mk (.ents t a' b' es)
 |b=>.mk b
def selD(H:Qd)(sel:List Nat):List Nat->FB
 |[]=>.mk []
 |a::r=>match YQ H a with
  |some b=>(match cpBk sel b,selD H sel r with
   |.mk b',.mk l=>.mk (b'::l))
  |none=>.mk []
def retC(sel sl:List Nat)(env:Env)(H:Qd):Option (Env×Qd):=
 match Qnd sel env sl [],selD H sel sel with
 |.mk e,.mk h=>some (e,h)
theorem Rx{P:Program}{h0:Nat}{fn:Func}{env E':Env}{H H':Qd}{Qr:A->Qd->Prop}{d:A}(π sl:List Nat)(_:retC π sl env H=some (E',H'))(a:Qcy P fn E' H' d)(e:Qr d H')(b:π.take h0=List.range h0:=by exact rfl)
  (hH:π.map (λp=>H[p]?)=(H'.map (QW (rho π H.length))).map some:=by exact rfl)(hπ:π.Nodup:=by decide)(hE:Qel (rho π H.length) env E':=by(repeat' (first|exact trivial|refine⟨rfl,?_⟩))):Qdp P h0 fn Qr .ret env H:=
 ⟨E',H',d,Lr π b hH hπ hE,a,e⟩
end Go.Sw
namespace Go.Sw
def nxL{T:Type}:List T->T->List T->Prop:=λl x rem=>l=x::rem
def QcZ{S T B:Type}(step:S->T->Option (Ctl S B)):List T->S->Option (Ctl S B)
 |[],s=>some (.cont s)
 |x::l,s=>(step s x).bind λd=>match d with
  |.cont s'=>QcZ step l s'
  |.done b=>some (.done b)
def QbZ{S T B:Type}(step:S->Option (List T×Ctl S B)):Nat->S->Option (List T×B)
 |0,_=>none
 |n+1,s=>(step s).bind λp=>match p.2 with
  |.cont s'=>(QbZ step n s').bind λq=>some (p.1++q.1,q.2)
  |.done b=>some (p.1,b)
def Qn7{S B:Type}(h1:Nat)(env:Env)(Q:QD)(d:Ctl S B)(Hp:S->Qd):QD
 |.normal,env',H'=>∃s,d=.cont s/\Le h1 env' H' [] (Hp s)
 |.exit id,env',H'=>(∃b,d=.done b)/\ ∃H2,Le h1 env' H' [] H2/\Q (.exit id) env H2
 |.ret,env',H'=>(∃b,d=.done b)/\ ∃H2,Le h1 env' H' [] H2/\Q .ret env H2
theorem QkE{S B:Type}{h1:Nat}{env env':Env}{H':Qd}{Q:QD}{s:S}{d:Ctl S B}{Hp:S->Qd}(e:some (Ctl.cont s)=some d)(h:Le h1 env' H' [] (Hp s)):Qn7 h1 env Q d Hp .normal env' H':=⟨s,(Oi e).symm,h⟩
theorem QgX{P:Program}{h0 N:Nat}{m:Operand}{ps:List Nat}{assign body:Code}{env:Env}{H:Qd}{Q:QD}{f:FuncId}{g a:List A}{Hc:Qd}{T S B:Type}{enc:T->List A}{xs:List T}{step:S->T->Option (Ctl S B)}{s0:S}{D:Ctl S B}
  (π:List Nat)(Hp:S->Qd)(h:QcZ step xs s0=some D)(n:QhN P f a Hc enc nxL xs)(r:∀x,(enc x).length=ps.length)(R:∀args w,(callFunc f args).run P w=.ok (.enter f args) w)
  (G:Nat.ble h0 H.length=true)(hg:opA env m=.fn (.func f) [] g)(hargs:g=Qaa (rho π H.length) a)(hH:π.map (λp=>H[p]?)=(Hc.map (QW (rho π H.length))).map some)(hπ:π.Nodup)(u:(ps.all λp=>Nat.blt p N)=true)
  (i:Le H.length env (Qd9 H π) env (Hp s0))
  (j:∀s x d,step s x=some d->(∀b,d=.done b->D=.done b)->TC P H.length N assign (Qmu ps (enc x) env) (Hp s) λe env1 H1=>e=.normal/\TC P H.length N body env1 H1 (Qn7 H.length env Q d Hp))
  (k:∀s,D=.cont s->Q .normal env (Hp s)):TC P h0 N (.rangeFunc m ps.toArray assign body) env H Q:=by
 refine TC.rangeFunc π Hp (λs l=>QcZ step l s=some D) s0 (XV G) hg hargs hH hπ u R n r i h ?_ ?_
 .rintro s l x rem t rfl;obtain⟨d,O,t⟩:=Jh t;refine(j s x d O ?_).mono ?_
  .rintro b rfl;exact(Oi t).symm
  .rintro e env1 H1 ⟨J,F⟩;refine⟨J,F.mono ?_⟩;intro M z H2 q;cases M with
   |normal=>
    obtain⟨E,rfl,i⟩:=q;exact⟨Hp E,i,E,t,rfl⟩
   |exit id=>
    obtain⟨_,H3,y,q⟩:=q;exact⟨H3,y,q⟩
   |ret=>
    obtain⟨_,H3,y,q⟩:=q;exact⟨H3,y,q⟩
 .intro s L;exact k s (Oi L).symm
section
variable {T:Type} {X:Ctx T} {P:Program} {h0 N:Nat} {c:Code} {env:Env} {H:Qd} {st:YSt T} {Q:YG T}
def QfY{S B:Type}(h0:Nat)(E:S->Env)(Hp:S->Qd)(d:Ctl S B)(rest:List T)(Q:YG T):YG T
 |.normal,env,H,st=>∃s,d=.cont s/\Le h0 env H (E s) (Hp s)/\st=.on rest
 |.exit id,env,H,st=>Q (.exit id) env H st
 |.ret,env,H,st=>Q .ret env H st
theorem QlX{S B:Type}{step:S->Option (List T×Ctl S B)}{E:S->Env}{Hp:S->Qd}{m:Nat}{s0:S}{j rem:List T}{b:B}(h:QbZ step m s0=some (j,b))(z:Le h0 env H (E s0) (Hp s0))
  (body:∀s zs d rest,step s=some (zs,d)->(∀b',d=.done b'->b'=b/\rest=rem)->TCy X P h0 N c (E s) (Hp s) (.on (zs++rest)) (QfY h0 E Hp d rest Q)):TCy X P h0 N (.loop c) env H (.on (j++rem)) Q:=by
 refine QgW (I:=λn env H p=>∃s a,QbZ step n s=some (a,b)/\p=.on (a++rem)/\Le h0 env H (E s) (Hp s)) ?_ ⟨s0,j,h,rfl,z⟩;rintro n env H p ⟨s,a,f,rfl,k⟩;cases n with
 |zero=>cases f
 |succ n=>
  obtain⟨⟨zs,d⟩,r,f⟩:=Jh f;refine TCy.le k ?_;cases d with
  |cont y=>
   obtain⟨⟨u,F⟩,t,f⟩:=Jh f;cases f;rw[Vm];refine(body s zs (.cont y) (u++rem) r (λb' e=>by cases e)).mono ?_;rintro x g H' i q;cases x with
   |normal=>
    obtain⟨w,e,l,rfl⟩:=q;cases e;exact⟨n,Xo n,_,_,t,rfl,l⟩
   |exit id=>exact q
   |ret=>exact q
  |done b'=>
   cases f;refine(body s _ (.done b) rem r (λb' e=>by cases e;exact⟨rfl,rfl⟩)).mono ?_;rintro x g H' i q;cases x with
   |normal=>obtain⟨w,e,_⟩:=q;cases e
   |exit id=>exact q
   |ret=>exact q
def kqY(X:Ctx T)(P:Program)(h0 N:Nat):List Kf->YG T->YG T
 |[],Q=>Q
 |.seq c::k,Q=>SeqY X P h0 N c (kqY X P h0 N k Q)
 |.blo id::k,Q=>BloY id (kqY X P h0 N k Q)
 |.unr c::k,Q=>λ_ _ _ _=>False
@[reducible] def HdY(X:Ctx T)(P:Program)(h0 N:Nat):Cf->List Kf->Env->Qd->YSt T->YG T->Prop
 |.code c,k,env,H,st,Q=>TCy X P h0 N c env H st (kqY X P h0 N k Q)
 |.ops all l,k,env,H,st,Q=>WOy X P h0 N all l env H st (kqY X P h0 N k Q)
 |.out x,k,env,H,st,Q=>kqY X P h0 N k Q x env H st
def Qpw:Cf->List Kf->Bool
 |.code (.loop _),_=>false
 |.out _,.unr _::_=>false
 |_,_=>true
theorem Qmw{Tx:TyX}(f:QbK P Tx){c b:Cf}{k d:List Kf}{env env':Env}{H H':Qd}(h:Qge Tx h0 N c k env H=some (b,d,env',H'))(a:Qpw c k=true)(g:HdY X P h0 N b d env' H' st Q):HdY X P h0 N c k env H st Q:=by
 unfold Qge at h;split at h
 .cases h;exact TCy.seq g
 .cases h;exact TCy.block g
 .cases a
 .cases h;exact TCy.skip g
 .cases h;exact TCy.ret g
 .cases h;exact TCy.exit g
 .cases h;exact TCy.region g
 .split at h
  .rename_i q;cases h;exact TCy.cond (QF q) (λ_=>g) (λe=>by cases e)
  .rename_i q;cases h;exact TCy.cond (QF q) (λe=>by cases e) (λ_=>g)
  .cases h
 .cases h;exact WOy.nil g
 .split at h
  .rename_i q;cases h;exact WOy.step (QmA f q (WO.nil ⟨rfl,g⟩))
  .cases h
 .cases h;exact g
 .cases h;exact g
 .cases h;exact g
 .cases h;exact g
 .split at h
  .rename_i q;cases h;have e:=XU q;subst e;show(bif Nat.beq _ _ then _ else _);rw[VJ];exact g
  .rename_i q;cases h;show(bif Nat.beq _ _ then _ else _);rw[q];exact g
 .cases h;exact g
 .cases a
 .cases a
 .cases a
 .cases h
def QjA(Tx:TyX)(h0 N:Nat):Nat->Cf->List Kf->Env->Qd->Option (Cf×List Kf×Env×Qd)
 |0,c,k,env,H=>some (c,k,env,H)
 |n+1,c,k,env,H=>match Qpw c k with
  |true=>(match Qge Tx h0 N c k env H with
   |some (c',k',env',H')=>QjA Tx h0 N n c' k' env' H'
   |none=>none)
  |false=>none
theorem QcX{Tx:TyX}(hT:QbK P Tx):∀(n:Nat) {c c':Cf} {k k':List Kf} {env env':Env} {H H':Qd},QjA Tx h0 N n c k env H=some (c',k',env',H')->HdY X P h0 N c' k' env' H' st Q->HdY X P h0 N c k env H st Q
 |0,c,c',k,k',env,env',H,H',h,g=>by cases h;exact g
 |n+1,c,c',k,k',env,env',H,H',h,g=>by
  unfold QjA at h;split at h
  .rename_i hn;split at h
   .rename_i e;exact Qmw hT e hn (QcX hT n h g)
   .cases h
  .cases h
theorem TCy.lf{k:List Kf}(h:TC P h0 N c env H (λx env H=>kqY X P h0 N k Q x env H st)):TCy X P h0 N c env H st (kqY X P h0 N k Q):=TCy.lift h
theorem Qkc{all:Array Oper}{o:Oper}{r:List Oper}{d:Nat}{x:T}{l:List T}{e:T->A}{y z:Operand}{i:Array TypeId}(hE:X.enc=λx=>[e x])(h:X.nx=nxL)(a:o.op=.call {callee:=.value y,args:= #[z],argTypes:=i})(k:opA env y=.fn (.yield X.l) [] [])(g:opA env z=e x)(j:Yr (e x)=true)
  (m:WOy X P h0 N all r (up env d (.bool true)) H (.on l) Q)(f:WOy X P h0 N all r (up env d (.bool false)) H (.off l) Q)(hg:Qp all o env true:=by exact rfl)(hd:o.dst=some d:=by exact rfl)(hNd:Nat.blt d N=true:=by exact rfl):WOy X P h0 N all (o::r) env H (.on (x::l)) Q:=by
 refine WOy.yield (x:=x) (rem:=l) (by rw[h];rfl) hg hd hNd ?_ ?_
 .rw[hE];exact Qh1 a k g j
 .intro b;cases b with
  |true=>exact m
  |false=>exact f
theorem WOy.y2{all:Array Oper}{o:Oper}{r:List Oper}{d:Nat}{x:T}{l:List T}{h e:T->A}{y k j:Operand}{q:Array TypeId}(hE:X.enc=λx=>[h x,e x])(p:X.nx=nxL)(m:o.op=.call {callee:=.value y,args:= #[k,j],argTypes:=q})(s:opA env y=.fn (.yield X.l) [] [])(g:opA env k=h x)(i:opA env j=e x)(a:Yr (h x)=true)(f:Yr (e x)=true)
  (t:WOy X P h0 N all r (up env d (.bool true)) H (.on l) Q)(n:WOy X P h0 N all r (up env d (.bool false)) H (.off l) Q)(hg:Qp all o env true:=by exact rfl)(hd:o.dst=some d:=by exact rfl)(hNd:Nat.blt d N=true:=by exact rfl):WOy X P h0 N all (o::r) env H (.on (x::l)) Q:=by
 refine WOy.yield (x:=x) (rem:=l) (by rw[p];rfl) hg hd hNd ?_ ?_
 .rw[hE];exact Qlk m s g i a f
 .intro b;cases b with
  |true=>exact t
  |false=>exact n
end
end Go.Sw
namespace Go.Sw
def yl{T R:Type}(x:T)(k:Option (List T×R)):Option (List T×R):=k.bind λp=>some (x::p.1,p.2)
def ap{T B R:Type}(a:Option (List T×B))(k:B->Option (List T×R)):Option (List T×R):=a.bind λp=>(k p.2).bind λq=>some (p.1++q.1,q.2)
theorem Qmr{T R:Type}{x:T}{k:Option (List T×R)}{a:List T}{v:R}(h:yl x k=some (a,v)):∃zs,k=some (zs,v)/\a=x::zs:=by
 obtain⟨⟨zs,e⟩,b,d⟩:=Jh h;cases d;exact⟨zs,b,rfl⟩
theorem QpF{T B R:Type}{a:Option (List T×B)}{k:B->Option (List T×R)}{d:List T}{v:R}(h:ap a k=some (d,v)):∃y1 b y2,a=some (y1,b)/\k b=some (y2,v)/\d=y1++y2:=by
 obtain⟨⟨y1,b⟩,g,f⟩:=Jh h;obtain⟨⟨y2,j⟩,i,e⟩:=Jh f;cases e;exact⟨y1,b,y2,g,i,rfl⟩
section
variable {T:Type} {X:Ctx T} {P:Program} {h0 N:Nat} {c c':Code} {env:Env} {H:Qd} {st:YSt T} {Q:YG T}
def Qov{β:Type}(h0:Nat)(b:β)(E':β->Env)(H':β->Qd)(rem:List T)(Q:YG T):YG T
 |.normal,env,H,st=>Le h0 env H (E' b) (H' b)/\st=.on rem
 |.exit id,env,H,st=>Q (.exit id) env H st
 |.ret,env,H,st=>Q .ret env H st
theorem Qja{β:Type}{E':β->Env}{H':β->Qd}(b:β)(rem:List T)(sel keep:List Nat)(nE:β->Env)(nH:β->List (Nat×Blk))(_:∀b,QnS sel keep (nE b) (nH b) env H=some (E' b,H' b))(h:TCy X P h0 N c env H st (Qov h0 b E' H' rem Q))(k:∀env H,Le h0 env H (E' b) (H' b)->Q .normal env H (.on rem)):TCy X P h0 N c env H st Q:=
 h.mono λx env' H' st' q=>by
  cases x with
  |normal=>obtain⟨q1,rfl⟩:=q;exact k _ _ q1
  |exit id=>exact q
  |ret=>exact q
theorem QpC{β:Type}{b:β}{E':β->Env}{H':β->Qd}{rem:List T}(h:Le h0 env H (E' b) (H' b)):Qov h0 b E' H' rem Q .normal env H (.on rem):=⟨h,rfl⟩
theorem QnR{β:Type}{b:β}{E':β->Env}{H':β->Qd}{rem:List T}(h:Q .ret env H st):Qov h0 b E' H' rem Q .ret env H st:=h
theorem Qn2{S B:Type}{step:S->Option (List T×Ctl S B)}{E':S->Env}{H':S->Qd}{m:Nat}{s0:S}{ys rem:List T}{b:B}(sel keep:List Nat)(nE:S->Env)(nH:S->List (Nat×Blk))(h:QbZ step m s0=some (ys,b))(_:∀s,QnS sel keep (nE s) (nH s) env H=some (E' s,H' s))(hI:Le h0 env H (E' s0) (H' s0))
  (body:∀s zs d rest,step s=some (zs,d)->(∀b',d=.done b'->b'=b/\rest=rem)->TCy X P h0 N c (E' s) (H' s) (.on (zs++rest)) (QfY h0 E' H' d rest Q)):TCy X P h0 N (.loop c) env H (.on (ys++rem)) Q:=QlX h hI body
theorem QcG{S B:Type}{E':S->Env}{H':S->Qd}{s:S}{d:Ctl S B}{zs rest:List T}(e:some (([]:List T),Ctl.cont s)=some (zs,d))(h:Le h0 env H (E' s) (H' s)):QfY h0 E' H' d rest Q .normal env H (.on (zs++rest)):=by
 cases e;exact⟨s,rfl,h,rfl⟩
theorem Qm8{S B:Type}{id:Nat}{E':S->Env}{H':S->Qd}{d:Ctl S B}{rest:List T}(h:Q (.exit id) env H st):QfY h0 E' H' d rest Q (.exit id) env H st:=h
theorem QjJ{S B:Type}{E':S->Env}{H':S->Qd}{d:Ctl S B}{rest:List T}(h:Q .ret env H st):QfY h0 E' H' d rest Q .ret env H st:=h
theorem Oy{S B:Type}{d:Ctl S B}{x b:B}{zs rest rem:List T}(f:∀b',d=.done b'->b'=b/\rest=rem)(h:some (([]:List T),Ctl.done x)=some (zs,d)):zs=[]/\b=x/\rest=rem:=by
 cases h;obtain⟨e,a⟩:=f x rfl;exact⟨rfl,e.symm,a⟩
theorem Qej{f:FuncId}{fn:Func}{c:Code}{N:Nat}{a:List A}{H:Qd}{enc:T->List A}{xs:List T}(e:P.funcs[f]?=some fn)(d:fn.body=some c)(i:fn.ntmps=N)(g:Nat.ble (a.length+1) N=true)(b:fn.results= #[])
  (h:∀X:Ctx T,X.enc=enc->X.nx=nxL->TCy X P H.length N c (QgO 0 (.fn (.yield X.l) [] []::a)) H (.on (xs++[])) EndY):QhN P f a H enc nxL xs:=by
 rw[Vk]at h;exact Qdo e d i g b h
end
end Go.Sw
namespace Go.Sw
open Go.MapKept
section
variable {fr ro:Nat->Prop} {σ:Sig} {H:Qd} {w:World}
end
end Go.Sw
namespace Go.Sw
open Go.MapKept
def QbM{α β:Type}(ek:α->A)(ev:β->List A)(l:List (α×Option (List β))):List (A×Option (List (List A))):=l.map λp=>(ek p.1,p.2.map (List.map ev))
def QkJ{α β:Type}[DecidableEq α](l:List (α×Option (List β)))(x:α):List (α×Option (List β)):=l.map λp=>bif decide (p.1=x)then(p.1,none)else p
section
variable {P:Program} {kt:TypeId} {α β:Type} [DecidableEq α] {ek:α->A} {ev:β->List A} {ro:Nat->Prop} {w:World} {t k:Nat} (K:Y3 P kt ek)
include K
theorem Qlc{x:α}:∀{l:List (α×Option (List β))} {es:List MapEntry},MO ro w t k (QbM ek ev l) es->MO ro w t k (QbM ek ev (QkJ l x)) es
 |[],es,h=>h
 |p::l,es,h=>by
  obtain⟨e,l',rfl,h1,h2,h3⟩:=h;by_cases q:p.1=x
  .refine⟨e,l',rfl,by simpa[q]using h1,λrows hr=>?_,Qlc (l:=l) h3⟩;simp[q]at hr
  .refine⟨e,l',rfl,by simpa[q]using h1,λrows hr=>h2 rows (by simpa[q]using hr),Qlc (l:=l) h3⟩
omit K
theorem QdW{x:α}{c:Nat}:∀{l:List (α×Option (List β))} {es:List MapEntry},Qeu (QbM ek ev (QkJ l x)) es c->Qeu (QbM ek ev l) es c
 |[],es,h=>by cases es<;>exact h.elim
 |p::l,[],h=>h.elim
 |p::l,e::es,h=>by
  rcases h with⟨h1,h2⟩|h
  .by_cases q:p.1=x
   .simp[q]at h1
   .exact .inl ⟨by simpa[q]using h1,h2⟩
  .exact .inr (QdW (l:=l) h)
theorem Qml{x:α}:∀{l:List (α×Option (List β))} {es:List MapEntry},Qkr (QbM ek ev l) es->Qkr (QbM ek ev (QkJ l x)) es
 |[],es,h=>by cases es<;>trivial
 |p::l,[],h=>trivial
 |p::l,e::es,h=>by
  obtain⟨h1,h2⟩:=h;refine⟨λc q1 q2 q3=>?_,Qml (l:=l) h2⟩;by_cases q:p.1=x
  .simp[q]at q1
  .exact h1 c (by simpa[q]using q1) q2 (QdW (l:=l) q3)
include K
theorem MO.find:∀{l:List (α×Option (List β))} {es:List MapEntry},MO ro w t k (QbM ek ev l) es->∀(x:α),(es.map (·.key)).Nodup->
  ((∀e:MapEntry,e∈es->e.key≠QL (ek x))->Ye l x=none)/\
  (∀(j:Nat) (e:MapEntry),es[j]?=some e->e.key=QL (ek x)->∃q,Ye l x=some q/\(∀rows,q=some rows->SO ro w t k (rows.map ev) e.val)/\
   ∀c p n cap,q.isSome=true->e.val=.slice (some ⟨c,p,none⟩) n cap->Qeu (QbM ek ev l) es c/\(Qkr (QbM ek ev l) es->¬Qeu (QbM ek ev (QkJ l x)) es c))
 |[],es,h,x,_=>by
  cases(show es=[]from h);exact⟨λ_=>rfl,λj e he=>by simp at he⟩
 |p::l,es,h,x,hn=>by
  obtain⟨e0,l',rfl,h1,h2,h3⟩:=h;have hk:e0.key=QL (ek p.1):=VR.val (K.scl _) h1;simp only[Vn,List.nodup_cons]at hn;obtain⟨a1,a2⟩:=MO.find (l:=l) h3 x hn.2;by_cases hp:p.1=x
  .subst hp;constructor
   .intro q;exact absurd hk (q e0 (by simp))
   .intro j e he hx;cases j with
    |zero=>
     simp only[XI,Option.some.injEq]at he;subst he;refine⟨p.2,by simp[Ye],λrows hr=>h2 (rows.map ev) (by simp[hr]),λc p' n cap hs hv=>⟨.inl ⟨by simpa using hs,p',n,cap,hv⟩,λhd hq=>?_⟩⟩;rcases hq with⟨q1,_⟩|hq
     .simp at q1
     .exact hd.1 c (by simpa using hs) ⟨p',n,cap,hv⟩ (QdW (l:=l) hq)
    |succ j=>
     simp only[XJ]at he;exact absurd (hk.trans hx.symm▸VK (f:=λe:MapEntry=>e.key) (VL he)) hn.1
  .have e1:Ye (p::l) x=Ye l x:=by simp[Ye,hp]
   rw[e1];constructor
   .intro q;exact a1 λe he=>q e (by simp[he])
   .intro j e he hx;cases j with
    |zero=>
     simp only[XI,Option.some.injEq]at he;subst he;exact absurd (K.inj _ _ (hk.symm.trans hx)) hp
    |succ j=>
     obtain⟨q,g,b,d⟩:=a2 j e (by simpa using he) hx;refine⟨q,g,b,λc p' n cap hs hv=>?_⟩;obtain⟨a,m⟩:=d c p' n cap hs hv;refine⟨.inr a,λhd hq=>?_⟩;rcases hq with⟨q1,i⟩|hq
     .exact hd.1 c (by simpa[hp]using q1) i a
     .exact m hd.2 hq
end
section
variable {P:Program} {o:Oper} {env:Env} {H:Qd}
variable {T kt et:Nat} {α β:Type} [DecidableEq α] {ek:α->A} {ev:β->List A} {x y:Operand} {i t k:Nat} {l:List (α×Option (List β))} {key:α} {rows:List β}
end
end Go.Sw
namespace Go.Sw
open Go.MapKept
theorem MO.append{ro:Nat->Prop}{w:World}{t k:Nat}:∀{l m:List (A×Option (List (List A)))} {es fs:List MapEntry},MO ro w t k l es->MO ro w t k m fs->MO ro w t k (l++m) (es++fs)
 |[],m,es,fs,h,q=>by cases(show es=[]from h);exact q
 |p::l,m,es,fs,h,q=>by
  obtain⟨e,l',rfl,h1,h2,h3⟩:=h;exact⟨e,l'++fs,rfl,h1,h2,MO.append h3 q⟩
theorem MO.length{ro:Nat->Prop}{w:World}{t k:Nat}:∀{l:List (A×Option (List (List A)))} {es:List MapEntry},MO ro w t k l es->es.length=l.length
 |[],es,h=>by cases(show es=[]from h);rfl
 |p::l,es,h=>by
  obtain⟨e,l',rfl,h1,h2,h3⟩:=h;simp[MO.length h3]
def SlB(v:Value)(c:Nat):Prop:=∃p n cap,v=.slice (some ⟨c,p,none⟩) n cap
section
variable {P:Program} {kt:TypeId} {α β:Type} [DecidableEq α] {ek:α->A} {ev:β->List A} {ro:Nat->Prop} {w:World} {t k:Nat} (K:Y3 P kt ek)
def QdD{α β:Type}[DecidableEq α](l:List (α×Option (List β)))(x:α)(rows:List β):List (α×Option (List β)):=l.map λp=>bif decide (p.1=x)then(p.1,some rows)else p
include K
theorem Qgr{x:α}{rows:List β}:∀{l:List (α×Option (List β))} {es:List MapEntry},MO ro w t k (QbM ek ev l) es->(∀e∈es,e.key≠QL (ek x))->QdD l x rows=l
 |[],es,h,q=>rfl
 |p::l,es,h,q=>by
  obtain⟨e,l',rfl,h1,h2,h3⟩:=h;have hk:e.key=QL (ek p.1):=VR.val (K.scl _) h1;have hp:p.1≠x:=λz=>q e (by simp) (by rw[hk,z]);have:=Qgr (l:=l) h3 (λe he=>q e (by simp[he])) (rows:=rows);simp only[QdD,Vn,decide_false,hp,Vu];rw[show(l.map λp=>bif decide (p.1=x)then(p.1,some rows)else p)=l from this]
theorem MO.put{x:α}{rows:List β}{v:Value}(f:SO ro w t k (rows.map ev) v):∀{l:List (α×Option (List β))} {es:List MapEntry} {j:Nat} {e:MapEntry},MO ro w t k (QbM ek ev l) es->
  (es.map (·.key)).Nodup->es[j]?=some e->e.key=QL (ek x)->
  MO ro w t k (QbM ek ev (QdD l x rows)) (es.modify j λe=>{e with key:=QL (ek x),val:=v})/\
  (∀c,Qeu (QbM ek ev (QdD l x rows)) (es.modify j λe=>{e with key:=QL (ek x),val:=v}) c->Qeu (QbM ek ev l) es c\/SlB v c)/\
  (Qkr (QbM ek ev l) es->(∀c,Qeu (QbM ek ev l) es c->¬SlB v c)->Qkr (QbM ek ev (QdD l x rows)) (es.modify j λe=>{e with key:=QL (ek x),val:=v}))
 |[],es,j,e,h,hn,he,hk=>by cases(show es=[]from h);simp at he
 |p::l,es,j,e,h,hn,he,hk=>by
  obtain⟨e0,l',rfl,h1,h2,h3⟩:=h;have hk0:e0.key=QL (ek p.1):=VR.val (K.scl _) h1;simp only[Vn,List.nodup_cons]at hn;cases j with
  |zero=>
   simp only[XI,Option.some.injEq]at he;subst he;have hp:p.1=x:=K.inj _ _ (hk0.symm.trans hk);simp only[List.modify_zero_cons];have e0':QdD l x rows=l:=Qgr K h3 λe he z=>hn.1 (by rw[hk, <- z];exact VK he);have e1:QdD (p::l) x rows=(p.1,some rows)::l:=by
    have:QdD (p::l) x rows=(p.1,some rows)::QdD l x rows:=by simp[QdD,hp]
    rw[this,e0']
   rw[e1];refine⟨⟨_,l',rfl,?_,?_,h3⟩,?_,?_⟩
   .show VR ro [] w (ek p.1) (QL (ek x));rw[<- hp];exact Qb5 (K.scl _)
   .intro b u;cases u;exact f
   .rintro c (⟨_,q⟩|q)
    .exact .inr q
    .exact .inl (.inr q)
   .rintro⟨i,d⟩ a;exact⟨λc _ q z=>a c (.inr z) q,d⟩
  |succ j=>
   simp only[XJ]at he;have hp:p.1≠x:=by
    intro q;refine hn.1 (Xe.2 ⟨e,VL he,?_⟩);rw[hk,hk0,q]
   simp only[List.modify_succ_cons];obtain⟨y,m,s⟩:=MO.put f h3 hn.2 he hk;have e1:QdD (p::l) x rows=p::QdD l x rows:=by simp[QdD,hp]
   rw[e1];refine⟨⟨_,_,rfl,h1,h2,y⟩,?_,?_⟩
   .rintro c (q|q)
    .exact .inl (.inl q)
    .exact(m c q).imp .inr id
   .rintro⟨i,d⟩ a;refine⟨λc g n z=>?_,s d λc r=>a c (.inr r)⟩;rcases m c z with z|z
    .exact i c g n z
    .exact a c (.inl ⟨g,n⟩) z
end
section
variable {P:Program} {o:Oper} {env:Env} {H:Qd}
variable {T kt et:Nat} {α β:Type} [DecidableEq α] {ek:α->A} {ev:β->List A} {x y zz:Operand} {i j t k n:Nat} {l m:List (α×Option (List β))} {key:α} {rows:List β}
end
end Go.Sw
namespace Go.Sw
open Go.MapKept
section
variable {fr ro:Nat->Prop} {σ:Sig} {H:Qd} {w:World}
theorem MO.er{t k:Nat}:∀{es:List (A×Option (List (List A)))} {l:List MapEntry},MO ro w t k es l->ER ro [] w (es.map λe=>(e.1,.any)) l
 |[],_,h=>h
 |x::r,_,⟨e,l',h1,h2,h3,h4⟩=>⟨e,l',h1,h2,trivial,MO.er h4⟩
end
section
variable {P:Program} {o:Oper} {env:Env} {H:Qd} {T kt et i t k:Nat} {x:Operand} {es:List (A×Option (List (List A)))}
end
section
variable {P:Program} {o:Oper} {env:Env} {H:Qd}
variable {T kt et:Nat} {α β:Type} [DecidableEq α] {ek:α->A} {ev:β->List A} {x y zz:Operand} {i j t k n:Nat} {l m:List (α×Option (List β))} {key:α} {rows:List β}
end
end Go.Sw
namespace Go.Sw
open Go.MapKept
section
variable {P:Program} {o:Oper} {env:Env} {H:Qd}
variable {T kt et:Nat} {α β:Type} [DecidableEq α] {ek:α->A} {ev:β->List A} {x y zz:Operand} {i j t k n:Nat} {l m:List (α×Option (List β))} {key:α} {rows:List β}
end
end Go.Sw
namespace Go.Sw
abbrev Kat:=List (Nat×Nat×Nat)
def Qmt:Nat->Nat->List (Nat×Nat)
 |lo,0=>[(lo,lo)]
 |lo,n+1=>(lo,lo)::Qmt (lo+1) n
def rgK(p:Nat×Nat×Nat):List (Nat×Nat):=bif Nat.beq p.1 1 then[(p.2.1,p.2.1+1)]else Qmt p.2.1 (p.2.2-p.2.1)
def plK(cat:Kat):List (List (Nat×Nat)):=cat.map rgK
def rqK(bs:List Nat)(cat:Kat):List (List Nat):=cat.map λp=>bs.take p.2.1
def hsK(cat:Kat):List Bool:=cat.map λp=>Nat.beq p.1 1
def msK(bs:List Nat):List (List Nat):=(List.range (bs.length+1)).map bs.take
theorem Qhb:∀(n lo:Nat),∀p∈Qmt lo n,p.1=p.2
 |0,lo,p,h=>by cases h with|head=>rfl|tail _ h=>cases h
 |n+1,lo,p,h=>by
  rcases Va.1 h with rfl|h
  .rfl
  .exact Qhb n _ p h
section
variable {P:Program} {T:TyX} {h0 N m:Nat} {bs:List Nat} {cat:Kat} {l:List Oper} {ds:List Nat} {env:Env} {H:Qd} {Hs:List Qd} {Q:QD} {K:List Oper->Env->Qd->Prop}
def DobK(P:Program)(N:Nat)(cat:Kat)(l:List Oper)(ds:List Nat)(env:Env)(n:Nat)(Hs:List Qd)(zs:List A)(j:Nat):Prop:=
 ∀p∈(plK cat).getD j [],JH P N l ds zs env n n j (Hs.getD p.1 []) (Hs.getD p.2 [])
def DK(P:Program)(N m:Nat)(bs:List Nat)(cat:Kat)(l:List Oper)(ds:List Nat)(env:Env)(n:Nat)(K:List Oper->Env->Qd->Prop)(Hs:List Qd)(X:Qd)(r:List Oper)(xs:List A):Prop:=
 r=l.drop xs.length->∃ys Zs Y,xs.length+ys.length=m/\Hs.length+Zs.length=bs.length/\((∀Z∈Zs,n<=Z.length)/\(Hs.reverse++X::Zs).getD bs.length []=Y)/\(∀j,xs.length<=j->j<m->DobK P N cat l ds env n (Hs.reverse++X::Zs) (xs++ys) j)/\K (l.drop m) (Qaw ds (xs++ys) env) Y
theorem QqI{f:List A}{n:Nat}{Zs:List Qd}(a:cat.length=m)(h:∀j,0<=j->j<m->DobK P N cat l ds env n Zs f j):QhT P N l ds f env n (n+0) 0 ((plK cat).map λq=>q.map λp=>(Zs.getD p.1 [],Zs.getD p.2 [])):=by
 refine QhS _ 0 λi s b p k=>?_;rw[Xq]at b;cases e:(plK cat)[i]? with
 |none=>rw[e]at b;cases b
 |some q=>
  rw[e]at b;cases b;obtain⟨g,d,rfl⟩:=Xe.1 k;have r:i<m:=by
   have:=(XP.1 e).1;simpa[plK,a]using this
  have:=h i (XY _) r g (by rw[QkU e];exact d);simpa using this
theorem Qos{id:Nat}(m:Nat)(d:List Nat)(cat:Kat)(t:P.follows .mixedOrders=true)(u:Qee l m N (Qbj m 0 l) (hsK cat) (rqK d cat) (msK d) (plK cat)=true)(j:Nat.beq cat.length m=true)(g:Nat.ble h0 H.length=true)
  (h:DK P N m d cat l (Qbj m 0 l) env H.length (λr e H=>WO P h0 N l.toArray r e H Q) [] H l []):TC P h0 N (.region id l.toArray true) env H Q:=by
 obtain⟨s,Zs,Y,q,p,i,n,k⟩:=h rfl;simp only[List.length_nil,Xy,Vl,List.reverse_nil]at q p i n k;have b:=XU j;have a:(msK d).length=d.length+1:=by simp[msK]
 refine Y1 m 0 _ _ _ _ _ s (H::Zs) Y t u (by rw[q];exact VJ m) (by rw[a];simp[p]) g ?_ (by simp) (by rw[a];exact i.2) (QqI b n) (by simp[plK,b]) k;rw[Xu];intro Z f;rcases Va.1 f with rfl|f
 .exact XW (XX _)
 .exact XW (i.1 Z f)
variable {n:Nat} {X X1:Qd} {xs:List A} {o:Oper} {r:List Oper} {x:A} {d:Nat}
theorem DK.done(f:Nat.beq xs.length m=true)(b:Nat.beq Hs.length bs.length=true)(h:K r (Qaw ds xs env) X):DK P N m bs cat l ds env n K Hs X r xs:=by
 intro d;have e:=XU f;have a:=XU b;subst d;refine⟨[],[],X,by simpa using e,by simpa using a,⟨(λZ hZ=>by cases hZ),?_⟩,λj i g=>by omega,?_⟩
 .rw[<- a,VP,XR (by simp)];simp
 .rw[<- e,Vk];exact h
theorem DK.add(e:∀ys Zs,l[xs.length]?=some o->DobK P N cat l ds env n (Hs.reverse++X::Zs) (xs++x::ys) xs.length)(k:DK P N m bs cat l ds env n K Hs X r (xs++[x])):DK P N m bs cat l ds env n K Hs X (o::r) xs:=by
 intro i;obtain⟨f,a⟩:=Qbk i;obtain⟨ys,Zs,Y,h,g,p,d,b⟩:=k (by simpa using a);simp only[X7,X5,List.length_nil,Vm,VO,Vl]at h d b;refine⟨x::ys,Zs,Y,by simp only[X5];omega,g,p,λj t s=>?_,b⟩;rcases VG xs.length j with q|q
 .exact d j (by omega) s
 .obtain rfl:j=xs.length:=by omega
  exact e ys Zs f
theorem QeH{Zs:List Qd}{zs:List A}{j:Nat}{c:Nat×Nat×Nat}(b:YQ cat j=some c)(h:∀p∈rgK c,JH P N l ds zs env n n j (Zs.getD p.1 []) (Zs.getD p.2 [])):DobK P N cat l ds env n Zs zs j:=by
 intro p a;rw[QaD]at b;unfold plK at a;rw[VP,Xq,b]at a;exact h p a
theorem Qhs{Zs:List Qd}{c:Nat}(a:Nat.beq c Hs.length=true):(Hs.reverse++X::Zs).getD c []=X:=by
 rw[XU a,VP,XR (by simp)];simp
theorem DK.wo{c:Nat}(h:WO P X.length N l.toArray [o] (Yb (Qi o) 0 ds xs env) X (Y8 (up (Yb (Qi o) 0 ds xs env) d x) X))(k:DK P N m bs cat l ds env n K Hs X r (xs++[x]))
  (b:YQ cat xs.length=some (0,c,c):=by exact rfl)(hd:o.dst=some d:=by exact rfl)(hcH:Nat.beq c Hs.length=true:=by exact rfl):DK P N m bs cat l ds env n K Hs X (o::r) xs:=
 .add (λys Zs ho=>QeH b λp a=>by
  have:p=(c,c):=by
   change p∈Qmt c (c-c)at a;rw[Nat.sub_self]at a;exact VF.1 a
  subst this;rw[Qhs hcH];exact QaB ho Ja h hd) k
theorem DK.wa{lo hi:Nat}(h:∀X,WO P X.length N l.toArray [o] (Yb (Qi o) 0 ds xs env) X (Y8 (up (Yb (Qi o) 0 ds xs env) d x) X))(k:DK P N m bs cat l ds env n K Hs X r (xs++[x]))
  (b:YQ cat xs.length=some (0,lo,hi):=by exact rfl)(hd:o.dst=some d:=by exact rfl):DK P N m bs cat l ds env n K Hs X (o::r) xs:=
 .add (λys Zs ho=>QeH b λp a=>by
  have e:p.1=p.2:=Qhb _ _ p a;rw[<- e];exact QaB ho Ja (h _) hd) k
theorem DK.op{c u:Nat}(h:WO P X.length N l.toArray [o] (Yb (Qi o) 0 ds xs env) X (Y8 (up (Yb (Qi o) 0 ds xs env) d x) X1))(k:DK P N m bs cat l ds env n K (X::Hs) X1 r (xs++[x]))(hl:Nat.ble n X1.length=true:=by exact rfl)
  (hc:YQ cat xs.length=some (1,c,u):=by exact rfl)(hd:o.dst=some d:=by exact rfl)(hcH:Nat.beq c Hs.length=true:=by exact rfl):DK P N m bs cat l ds env n K Hs X (o::r) xs:=by
 intro z;obtain⟨s,e⟩:=Qbk z;obtain⟨i,Zs,Y,w,t,b,g,f⟩:=k (by simpa using e);simp only[X7,X5,List.length_nil,Vm,VO,Vl,List.reverse_cons]at w t b g f;refine⟨x::i,X1::Zs,Y,by simp only[X5];omega,by simp only[X5];omega,⟨λZ a=>?_,b.2⟩,λj G B=>?_,f⟩
 .rcases Va.1 a with rfl|a
  .exact XV hl
  .exact b.1 Z a
 .rcases VG xs.length j with q|q
  .exact g j (by omega) B
  .obtain rfl:j=xs.length:=by omega
   refine QeH hc λp E=>?_;have:p=(c,c+1):=VF.1 E;subst this;have F:(Hs.reverse++X::X1::Zs).getD c []=X:=Qhs hcH;have y:(Hs.reverse++X::X1::Zs).getD (c+1) []=X1:=by
    have:=Qhs (X:=X1) (Zs:=Zs) (Hs:=X::Hs) (c:=c+1) (by rw[XU hcH];exact VJ _);simpa using this
   simp only;rw[F,y];exact QaB s Ja h hd
def QeV(T:TyX)(N m:Nat)(cat:Kat)(l:List Oper)(ds:List Nat)(env:Env)(n:Nat):Nat->Nat->Nat->List Qd->Qd->List Oper->List A->Option (List Qd×List Oper×List A)
 |0,_,_,Hs,X,r,xs=>some (Hs,r,xs)
 |_+1,_,_,_,_,[],_=>none
 |k+1,i,j,Hs,X,o::r,xs=>match o.dst with
  |none=>none
  |some d=>match Nat.blt d N with
   |false=>none
   |true=>match YY ⟨l⟩ o (Yb (Qi o) 0 ds xs env)with
    |none=>none
    |some false=>(match QcN xs (.tup [])with
      |.mk xs'=>match YQ cat i with
       |some (0,_,_)=>QeV T N m cat l ds env n k (i+1) j Hs X r xs'
       |some (1,c,_)=>(match Nat.beq c j,Nat.ble n X.length with
        |true,true=>QeV T N m cat l ds env n k (i+1) (j+1) (X::Hs) X r xs'
        |_,_=>none)
       |_=>none)
    |some true=>match YQ cat i with
     |some (0,lo,hi)=>(match Qdz T o (Yb (Qi o) 0 ds xs env) []with
      |some x=>(match QcN xs x with
       |.mk xs'=>QeV T N m cat l ds env n k (i+1) j Hs X r xs')
      |none=>match Nat.beq lo hi,Nat.beq lo j with
       |true,true=>(match Qdz T o (Yb (Qi o) 0 ds xs env) X with
        |none=>none
        |some x=>match QcN xs x with
         |.mk xs'=>QeV T N m cat l ds env n k (i+1) j Hs X r xs')
       |_,_=>none)
     |_=>none
theorem QbS(hT:QbK P T):∀(k i j:Nat) {Hs Hs':List Qd} {r r':List Oper} {xs xs':List A},i=xs.length->j=Hs.length->QeV T N m cat l ds env n k i j Hs X r xs=some (Hs',r',xs')->DK P N m bs cat l ds env n K Hs' X r' xs'->DK P N m bs cat l ds env n K Hs X r xs
 |0,i,j,Hs,Hs',r,r',xs,xs',_,_,h,k=>by cases h;exact k
 |k0+1,i,j,Hs,Hs',[],r',xs,xs',_,_,h,k=>by cases h
 |k0+1,i,j,Hs,Hs',o::r,r',xs,xs',hi,hj,h,k=>by
  subst hi hj;unfold QeV at h;split at h
  .cases h
  .rename_i d hd;split at h
   .cases h
   .rename_i q2;split at h
    .cases h
    .rename_i hw;simp only[Jb]at h;split at h
     .rename_i lo hi' q0;exact .wa (λX=>WO.skip (QR hw) hd q2 (WO.nil Y8.mk)) (QbS hT k0 _ _ (by simp) rfl h k) q0 hd
     .rename_i c c' q0;split at h
      .rename_i q1 q3;exact .op (WO.skip (QR hw) hd q2 (WO.nil Y8.mk)) (QbS hT k0 _ _ (by simp) (by simp) h k) q3 q0 hd q1
      .cases h
     .cases h
    .rename_i hw;split at h
     .rename_i lo hi' q0;split at h
      .rename_i x hv;simp only[Jb]at h;exact .wa (λX=>QH (QR hw) hd q2 (Qax hT (QeL hv)) (WO.nil Y8.mk)) (QbS hT k0 _ _ (by simp) rfl h k) q0 hd
      .split at h
       .rename_i q1 q3;split at h
        .cases h
        .rename_i x hv;simp only[Jb]at h;obtain rfl:=XU q1;exact .wo (QH (QR hw) hd q2 (Qax hT hv) (WO.nil Y8.mk)) (QbS hT k0 _ _ (by simp) rfl h k) q0 hd q3
       .cases h
     .cases h
theorem QpH{α:Type}{b:Bool}{p q:Option α}{v:α}{g i:List A}(j:Nat)(h:(bif b then p else q)=some v)(a:YQ xs j=some (.bool b))(d:Qjy xs j (.bool true)=.mk g)(f:Qjy xs j (.bool false)=.mk i)
  (t:b=true->p=some v->DK P N m bs cat l ds env n K Hs X r g)(e:b=false->q=some v->DK P N m bs cat l ds env n K Hs X r i):DK P N m bs cat l ds env n K Hs X r xs:=by
 cases b with
 |true=>rw[Qbb a]at d;cases d;exact t rfl h
 |false=>rw[Qbb a]at f;cases f;exact e rfl h
theorem DK.v(h:OpV P o (Yb (Qi o) 0 ds xs env) X x)(k:DK P N m bs cat l ds env n K Hs X r (xs++[x])){c:Nat}(hg:YY ⟨l⟩ o (Yb (Qi o) 0 ds xs env)=some true:=by exact rfl)
  (hd:o.dst=some d:=by exact rfl)(hN:Nat.blt d N=true:=by exact rfl)(hc:YQ cat xs.length=some (0,c,c):=by exact rfl)(hcH:Nat.beq c Hs.length=true:=by exact rfl):DK P N m bs cat l ds env n K Hs X (o::r) xs:=
 .wo (QH (QR hg) hd hN h (WO.nil Y8.mk)) k hc hd hcH
def allV(T:TyX)(o:Oper)(e:Env)(x:A):Nat->List Qd->Prop
 |0,_=>True
 |k+1,Y::r=>Qdz T o e Y=some x/\allV T o e x k r
 |_+1,[]=>False
theorem Qkx:∀(n lo:Nat),∀p∈Qmt lo n,lo<=p.1/\p.1<=lo+n
 |0,lo,p,h=>by cases h with|head=>exact⟨XX _,XX _⟩|tail _ h=>cases h
 |n+1,lo,p,h=>by
  rcases Va.1 h with rfl|h
  .exact⟨XX _,Nat.le_add_right _ _⟩
  .have:=Qkx n _ p h;omega
def allW(P:Program)(N:Nat)(l:List Oper)(o:Oper)(e:Env)(d:Nat)(x:A):Nat->List Qd->Prop
 |0,_=>True
 |k+1,Y::r=>WO P Y.length N l.toArray [o] e Y (Y8 (up e d x) Y)/\allW P N l o e d x k r
 |_+1,[]=>False
theorem Qk8{e:Env}:∀{k:Nat} {r:List Qd},allW P N l o e d x k r->∀j,j<k->WO P (r.getD j []).length N l.toArray [o] e (r.getD j []) (Y8 (up e d x) (r.getD j []))
 |0,_,_,j,hj=>absurd hj (Xn _)
 |k+1,[],h,_,_=>h.elim
 |k+1,Y::r,h,0,_=>h.1
 |k+1,Y::r,h,j+1,hj=>by
  have:=Qk8 h.2 j (by omega);simpa using this
theorem Qjn{lo hi:Nat}(h:allW P N l o (Yb (Qi o) 0 ds xs env) d x (hi+1-lo) (X::Hs))(k:DK P N m bs cat l ds env n K Hs X r (xs++[x]))
  (j:YQ cat xs.length=some (0,lo,hi):=by exact rfl)(hd:o.dst=some d:=by exact rfl)(hcH:Nat.beq hi Hs.length=true:=by exact rfl)(hle:Nat.ble lo hi=true:=by exact rfl):DK P N m bs cat l ds env n K Hs X (o::r) xs:=
 .add (λys Zs ho=>QeH j λp b=>by
  have e:p.1=p.2:=Qhb _ _ p b;have a:=XV hle;have s:lo<=p.1/\p.1<=lo+(hi-lo):=Qkx (hi-lo) lo p b;have g:=XU hcH;rw[<- e];have f:=Qk8 h (Hs.length-p.1) (by omega);have i:(Hs.reverse++X::Zs).getD p.1 []=(X::Hs).getD (Hs.length-p.1) []:=by
   rw[VP,VP];congr 1;rcases VG p.1 Hs.length with q|q
   .rw[XQ (by simpa using q),List.getElem?_reverse q,show Hs.length-p.1=Hs.length-1-p.1+1 by omega,XJ]
   .have:p.1=Hs.length:=by omega
    rw[this,XR (by simp)];simp
  rw[i];exact QaB ho Ja f hd) k
theorem DK.vs(g:QbK P T){lo hi:Nat}(h:allV T o (Yb (Qi o) 0 ds xs env) x (hi+1-lo) (X::Hs))(k:DK P N m bs cat l ds env n K Hs X r (xs++[x]))
  (i:YQ cat xs.length=some (0,lo,hi))(e:o.dst=some d)(a:Nat.beq hi Hs.length=true)(hg:YY ⟨l⟩ o (Yb (Qi o) 0 ds xs env)=some true)(j:Nat.blt d N=true)(b:Nat.ble lo hi=true):DK P N m bs cat l ds env n K Hs X (o::r) xs:=by
 refine Qjn ?_ k i e a b;generalize hi+1-lo=c at h;generalize X::Hs=L at h
 induction c generalizing L with
 |zero=>trivial
 |succ c f=>
  cases L with
  |nil=>exact h.elim
  |cons Y L=>exact⟨QH (QR hg) e j (Qax g h.1) (WO.nil Y8.mk),f L h.2⟩
end
end Go.Sw
namespace Go.Sw
def room(n:Int):Option Nat:=bif decide (0<n)&&decide (n<=4294967296)then some n.toNat else none
section
variable {P:Program} {o:Oper} {env:Env} {H:Qd}
theorem Qkp{h0 i:Nat}{x x':Blk}(hH:H[i]?=some x)(e:x=x'):Le h0 env H env (H.set i x'):=by
 subst e;obtain⟨b,a⟩:=XP.1 hH;rw[<- a,List.set_getElem_self];exact Le.refl _ _ _
theorem RL.put{ro:Nat->Prop}{σ:Sig}{w:World}{k:Nat}:∀{a:Nat} {es fs:List (List A)} {l m:List Value},RL ro σ w k es l->a+fs.length<=es.length->Sw.allK k fs->LR ro σ w fs.flatten m->(∀v∈m,Qq v)->
  RL ro σ w k (es.take a++fs++es.drop (a+fs.length)) (Sw.splice l (a*k) m)
 |0,es,[],l,m,h,hn,hk,hm,hp=>by
  obtain rfl:m=[]:=hm;simpa[Sw.splice]using h
 |0,[],f::fs,l,m,h,hn,hk,hm,hp=>by simp at hn
 |0,c::es,f::fs,l,m,⟨l1,l2,h1,h2,h3,h4⟩,hn,hk,hm,hp=>by
  subst h1;have hl1:=h3.1.length;have hml:=hm.length;rw[Vq,X7]at hml;have e1:m.take k++m.drop k=m:=XC _ _;have q1:LR ro σ w f (m.take k):=by have:=hm.take k;rwa [Vq,Vb (by rw[hk.1];exact XX _),VM (by rw[hk.1];exact XX _)]at this
  have j:LR ro σ w fs.flatten (m.drop k):=by have:=hm.drop k;rwa [Vq,Vc (by rw[hk.1];exact XX _),List.drop_of_length_le (by rw[hk.1];exact XX _),Vl]at this
  have b:=RL.put (a:=0) h4 (by simpa using hn) hk.2 j (λv d=>hp v (List.mem_of_mem_drop d));simp only[List.take_zero,Vl,Xy,Nat.zero_mul,Sw.splice]at b⊢;refine⟨m.take k,m.drop k++l2.drop (m.drop k).length,?_,hk.1,⟨q1,λv d=>hp v (List.mem_of_mem_take d)⟩,by simpa using b⟩;have g:k<=m.length:=by rw[hml,hk.1];exact Nat.le_add_right _ _
  rw[<- Vm,e1];congr 1;rw[XB,show m.length=l1.length+(m.length-k)from by omega,Ve];have e:l1.length+(m.length-k)-k=m.length-k:=by omega
  rw[e]
 |a+1,[],fs,l,m,h,hn,hk,hm,hp=>by simp at hn
 |a+1,c::es,fs,l,m,⟨l1,l2,h1,h2,h3,h4⟩,hn,hk,hm,hp=>by
  subst h1;have hl1:=h3.1.length;have b:=RL.put (a:=a) h4 (by simp at hn;omega) hk hm hp;refine⟨l1,Sw.splice l2 (a*k) m,?_,h2,h3,?_⟩
  .have e1:(a+1)*k=l1.length+a*k:=by rw[Xm];omega
   unfold Sw.splice;rw[e1,Vf,show l1.length+a*k+m.length=l1.length+(a*k+m.length)from by omega,Ve];simp
  .have i:a+1+fs.length=(a+fs.length)+1:=by omega
   simpa[i]using b
def QlZ(P:Program)(H:Qd)(x:A)(k:Nat)(es:List (List A)):Prop:=
 ∀fr ro σ w v,Sim fr ro σ H w->VR ro σ w x v->(∃a c,v=.slice a es.length c)/\
  ∀j,j<=es.length->allK k (es.take j)/\ ∃l,(Builtin.firstCells k j v).run P w=.ok l.toArray w/\LR ro [] w (es.take j).flatten l/\ ∀v∈l,Qq v
theorem QeS{fr ro:Nat->Prop}{σ:Sig}{w:World}{k j b off n c:Nat}{es:List (List A)}(h:RR ro [] w b k es off)(d:j<=es.length):
  allK k (es.take j)/\ ∃l,(Builtin.firstCells k j (.slice (some ⟨b,off,none⟩) n c)).run P w=.ok l.toArray w/\LR ro [] w (es.take j).flatten l/\ ∀v∈l,Qq v:=by
 obtain⟨e,i,a⟩:=(h.take j).flat;rw[XA,XE d]at a;obtain⟨l,g,f⟩:=Qb9 (P:=P) (n:=j) (c:=c) e a;refine⟨i,l,?_,f⟩;exact g w rfl
theorem QcC{k n c:Nat}{a:Option Addr}{w:World}:(Builtin.firstCells k 0 (.slice a n c)).run P w=.ok #[] w:=by
 cases a<;>simp[Builtin.firstCells,loadCells,loadCellsFrom,go_sem]
theorem Qpf{α:Type}{e:α->List A}{k:Nat}{l:List α}:QlZ P H (.rsl k (l.map e)) k (l.map e):=by
 intro fr i σ w v s ⟨a,c,h1,h2,f⟩;subst h1;refine⟨⟨a,c,rfl⟩,λj d=>?_⟩;rcases f with f|⟨b,h,rfl,m,g⟩
 .rw[f]at d⊢;obtain rfl:j=0:=by simpa using d
  exact⟨trivial,[],QcC,rfl,by simp⟩
 .exact QeS (fr:=fr) (σ:=σ) g d
theorem QlZ.osl{i s n k t:Nat}{es es':List (List A)}(hH:H[i]?=some (.row t k es))(he:(es.drop s).take n=es')(G:s+n<=es.length):QlZ P H (.osl i s n k) k es':=by
 intro fr z σ w v sm h;have f:es'.length=n:=by rw[<- he];simp;omega
 rcases h with⟨rfl,rfl⟩|⟨b,p,a,E,m,u,rfl,r,J,F,B⟩
 .have e:es'=[]:=VN.1 f;subst e;refine⟨⟨none,0,rfl⟩,λj d=>?_⟩;obtain rfl:j=0:=by simpa using d
  exact⟨trivial,[],QcC,rfl,by simp⟩
 .rw[f];refine⟨⟨_,a,rfl⟩,λj d=>?_⟩;obtain⟨l,q,y⟩:=sm.blk i _ _ u hH;have g:=((YX (pre:=[]) (by simpa using q) y).drop s).take n;rw[he]at g;by_cases x:0<a
  .obtain rfl:=r x;simpa using QeS (P:=P) (fr:=fr) (σ:=σ) (n:=n) (c:=a) g (by rw[f];exact d)
  .obtain rfl:j=0:=by omega
   exact⟨trivial,[],QcC,rfl,by simp⟩
theorem Qpg{α:Type}{e:α->List A}{b t k:Nat}{l r:List α}{a c:Int}(h:slc l a c=some r)(hH:H[b]?=some (.row t k (l.map e)):=by exact rfl):QlZ P H (.osl b (0+a.toNat) (c.toNat-a.toNat) k) k (r.map e):=by
 obtain⟨i,g,f,d⟩:=QdA h;refine QlZ.osl hH ?_ (by rw[X6];omega);rw[<- d, <- List.map_drop, <- List.map_take,Xy,List.drop_take]
def cpy{α:Type}(l:List α)(a c:Int)(m:List α):Option (List α):=some (l.take a.toNat++m.take (c.toNat-a.toNat)++l.drop (a.toNat+min m.length (c.toNat-a.toNat)))
theorem QeC{α:Type}{l r l' m:List α}{a c:Int}(h:slc l a c=some r)(b:cpy l a c m=some l'):l.length=l'.length:=by
 obtain⟨f,e,d,_⟩:=QdA h;rw[<- X4 b];simp only[X7,XA,XB];omega
theorem QfG{α:Type}{l l' m:List α}(a:cpy l 0 (l.length:Int) m=some l'):l.length=l'.length:=by
 rw[<- X4 a];simp only[X7,XA,XB];simp;omega
theorem Qg0{α:Type}{e:α->List A}{c:Call}{T T' et k b a n t:Nat}{x y:Operand}{ya:A}{l m l':List α}(af:a+n<=l.length)(O:l.take a++m.take n++l.drop (a+min m.length n)=l')(hT:∀w,(underlying T).run P w=.ok (.slice et) w)(B:∀w,(sizeOf et).run P w=.ok k w)(W:QlZ P H ya k (m.map e))
  (ho:o.op=.call c)(hc:c={callee:=.builtin .copy,args:= #[x,y],argTypes:= #[T,T']})(hx:opA env x=.osl b a n k)(hH:H[b]?=some (.row t k (l.map e)))(hy:opA env y=ya):
  OpH P o env H (.int .i64 (min m.length n:Nat)) (H.set b (.row t k (l'.map e))):=by
 intro Q J σ N ac w r;have u:=Qg r x;rw[hx]at u;have h2:=Qg r y;rw[hy]at h2;obtain⟨⟨ay,cy,V⟩,q2⟩:=W Q J σ w _ r.sim h2;rw[X6]at V q2;obtain⟨q3,M,G,X,q6⟩:=q2 (min m.length n) (Nat.min_le_left _ _);have d:((m.map e).take (min m.length n)).length=min m.length n:=by rw[XA,X6];omega
 have E:l'.map e=(l.map e).take a++(m.map e).take (min m.length n)++(l.map e).drop (a+((m.map e).take (min m.length n)).length):=by
  rw[d, <- O,Xf,Xf, <- List.map_take, <- List.map_take, <- List.map_drop];have e2:m.take (min m.length n)=m.take n:=by
   by_cases q:m.length<=n
   .rw[XE q,Vd,VM q]
   .rw[Nat.min_eq_right (by omega)]
  rw[e2]
 have g:(Builtin.copy_ #[T,T'] o.type #[ac.eval x,ac.eval y]).run P w=.ok (.int .i64 (min m.length n:Nat)) w->min m.length n=0->
   ∃v w' ro' τ,(execOp ac.eval o).run P w=.ok (.value v) w'/\VR ro' (σ++τ) w' (.int .i64 (min m.length n:Nat)) v/\Sim Q ro' (σ++τ) (H.set b (.row t k (l'.map e))) w'/\Qh Q J w ro' w':=by
  intro h hz;have W:H.set b (.row t k (l'.map e))=H:=by
   have:l'.map e=l.map e:=by rw[E,d,hz];simp
   rw[this];obtain⟨hb,hv⟩:=XP.1 hH;rw[<- hv,List.set_getElem_self]
  refine⟨_,w,J,[],?_,rfl,by simpa[W]using r.sim,Qh.refl _ _ _⟩;subst hc;generalize ac.eval=ρ at*;simp only[execOp,ho,resolve,Vr,Vs,Result.andThen,invoke,builtin,XM,Vn,Vp,h]
 have F:∀j:Nat,goInt j=.int .i64 j:=λ_=>rfl;rcases u with⟨L,u⟩|⟨bb,p,ae,t',mm,u,h3,h4,h5,h6,h7⟩
 .refine g ?_ (by omega);rw[V]at G⊢;rw[u];have:Nat.min m.length 0=min m.length n:=by rw[L]
  simp only[Builtin.copy_,XK,XI,XJ,Vr,hT,B,Result.andThen,Builtin.lenOf,Vs,this,G,F]
 .have f:∀R:Result Unit,(storeCells ⟨bb,p,none⟩ M).run P w=R->(Builtin.copy_ #[T,T'] o.type #[ac.eval x,ac.eval y]).run P w=R.andThen λ_ w=>.ok (.int .i64 (min m.length n:Nat)) w:=by
   intro R hR;rw[V]at G⊢;rw[h3];have:Nat.min m.length n=min m.length n:=rfl;simp only[Builtin.copy_,XK,XI,XJ,Vr,hT,B,Result.andThen,Builtin.lenOf,Vs,this,G,F,hR]
  by_cases L:min m.length n=0
  .have s:M=[]:=by
    have:=X.length;rw[L]at this;exact VN.1 (by simpa using this)
   refine g ?_ L;have:=f (.ok () w) (by rw[s];rfl);rw[this];rfl
  .obtain rfl:=h4 (by omega);obtain⟨l0,g1,g2⟩:=r.sim.blk b _ _ u hH;have aa:=g2.length;have s:=X.length;rw[Yy q3,d]at s;have ab:a*k+(min m.length n)*k<=l0.length:=by
    rw[<- XD];refine XZ (XF k ?_) aa;rw[X6];omega
   have z:=Q3 (P:=P) (vs:=M) (a*k) 0 g1 (by omega) q6;rw[Xz]at z;have h:=f _ z;have i:=r.sim.set (x':=.row t k (l'.map e)) (obj:=.cells (splice l0 (a*k) M).toArray t (0,0)) u hH rfl
    (λy hy=>Qae g1 (Q2 (by omega)) y hy)
    (λex Y=>⟨_,Y,by
     rw[E];exact(RL.put g2 (by rw[d,X6];omega) q3 X q6).mono ex.nil⟩)
   refine⟨_,_,J,[],?_,rfl,by simpa using i.1,i.2⟩;subst hc;generalize ac.eval=ρ at*;simp only[execOp,ho,resolve,Vr,Vs,Result.andThen,invoke,builtin,XM,Vn,Vp,h]
theorem Qme{α:Type}{e:α->List A}{c:Call}{T T' et k b t:Nat}{x y:Operand}{ya:A}{l m l':List α}(h:cpy l 0 (l.length:Int) m=some l')(f:∀w,(underlying T).run P w=.ok (.slice et) w)(a:∀w,(sizeOf et).run P w=.ok k w)(g:QlZ P H ya k (m.map e))
  (d:o.op=.call c:=by exact rfl)(hc:c={callee:=.builtin .copy,args:= #[x,y],argTypes:= #[T,T']}:=by exact rfl)(hx:opA env x=.osl b 0 l.length k:=by exact rfl)(hH:H[b]?=some (.row t k (l.map e)):=by exact rfl)(hy:opA env y=ya:=by exact rfl):
  OpH P o env H (.int .i64 (min m.length l.length:Nat)) (H.set b (.row t k (l'.map e))):=by
 refine Qg0 (Nat.le_of_eq (Xy _)) ?_ f a g d hc hx hH hy;rw[<- X4 h];rfl
theorem Qmf{α:Type}{e:α->List A}{c:Call}{T T' et k b t:Nat}{x y:Operand}{ya:A}{l p m l':List α}{i j:Int}(hi:slc l i j=some p)(h:cpy l i j m=some l')(g:∀w,(underlying T).run P w=.ok (.slice et) w)(d:∀w,(sizeOf et).run P w=.ok k w)(n:QlZ P H ya k (m.map e))
  (f:o.op=.call c:=by exact rfl)(hc:c={callee:=.builtin .copy,args:= #[x,y],argTypes:= #[T,T']}:=by exact rfl)(hx:opA env x=.osl b (0+i.toNat) (j.toNat-i.toNat) k:=by exact rfl)(hH:H[b]?=some (.row t k (l.map e)):=by exact rfl)(hy:opA env y=ya:=by exact rfl):
  OpH P o env H (.int .i64 (min m.length (j.toNat-i.toNat):Nat)) (H.set b (.row t k (l'.map e))):=by
 obtain⟨s,r,u,q⟩:=QdA hi;refine Qg0 (a:=i.toNat) (by omega) (X4 h) g d n f hc ?_ hH hy;rw[hx,Xy]
end
end Go.Sw
namespace Go.Sw
open Go.MapKept
section
variable {fr ro ro':Nat->Prop} {σ:Sig} {H:Qd} {w:World}
end
end Go.Sw
namespace Go.Sw
theorem gd20{α:Type}{n:Int}{x:Option α}{r:α}(h:(bif decide (n<20)then x else none)=some r):decide (20<=n)=false/\decide (20<n)=false/\x=some r:=by
 cases q:decide (n<20)with
 |false=>rw[q]at h;cases h
 |true=>
  rw[q]at h;have:=Vz q;exact⟨VB (by omega),VB (by omega),h⟩
def Qc6{α:Type}(l:List α)(o:Option (List α)):Option (List α):=o.bind λr=>bif Nat.beq l.length r.length then some r else none
theorem Qit{α:Type}{l r:List α}{o:Option (List α)}(h:Qc6 l o=some r):o=some r/\l.length=r.length:=by
 cases o with
 |none=>cases h
 |some x=>
  have a:(bif Nat.beq l.length x.length then some x else none)=some r:=h;cases q:Nat.beq l.length x.length with
  |false=>rw[q]at a;cases a
  |true=>
   rw[q]at a;obtain rfl:=X4 a;exact⟨rfl,XU q⟩
theorem Qfe{α:Type}{l r:List α}{o:Option (List α)}(h:Qc6 l o=some r):o=some r:=(Qit h).1
theorem Jw{α:Type}{l r:List α}{o:Option (List α)}(h:Qc6 l o=some r):l.length=r.length:=(Qit h).2
section
variable {P:Program} {o:Oper} {env:Env} {H:Qd} {α:Type} {e:α->List A}
end
end Go.Sw
namespace Go.Sw
open Go.MapKept
section
variable {P:Program} {o:Oper} {env:Env} {H:Qd}
theorem Qkm{T:Nat}(d:o.op=.makeMap T none:=by exact rfl):OpH P o env H (.map H.length) (H++[.mapP []]):=by
 intro e b σ N a w r;refine⟨.map (some w.heap.size),w.alloc (.map #[] 0),b,[some w.heap.size],?_,⟨w.heap.size,?_,rfl⟩,r.sim.alloc ⟨#[],0,Yg _ _,rfl,by simp,by simp,by simp⟩,Qh.alloc _ r.sim.roLt r.sim.frLt⟩
 .generalize a.eval=ρ at*;simp only[execOp,d,Instr.makeMap,Xk,Vr];rfl
 .rw[<- r.sim.len];simp
variable {T kt et:Nat} {α β:Type} [DecidableEq α] {ek:α->A} {ev:β->A} {x y:Operand} {i:Nat} {l:List (α×β)} {k:α} {z0:β} {z:Value}
theorem QcP(K:Y3 P kt ek){v:β}(g:Ye l k=some v)(L:P.underlying T=some (.map kt et))
  (t:o.op=.lookup T x y false:=by exact rfl)(hx:opA env x=.map i:=by exact rfl)(hH:H[i]?=some (.mapP (Qj ek ev l)):=by exact rfl)(hy:opA env y=ek k:=by exact rfl):OpV P o env H (ev v):=by
 intro Q R σ N a w r;have m:=Qg r x;rw[hx]at m;obtain⟨b,E,O⟩:=m;have p:=Qg r y;rw[hy]at p;have G:=VR.val (K.scl _) p;obtain⟨z,f,s,n,X,Y,u⟩:=r.sim.blk i _ _ E hH;obtain⟨B,J⟩:=ER.find K n k u;rcases K.find w k z.toList (QaV K n)with⟨q,d⟩|⟨j,e,q,d,F⟩
 .have:=(B d).1;rw[g]at this;cases this
 .obtain⟨W,V,h,M⟩:=J j e d F;rw[g]at h;obtain rfl:=X4 h;refine⟨e.val,?_,M⟩;simp only[execOp,t,O,G,Instr.lookup,Vr,run_underlying L,Result.andThen,MapKept.run_getObj_map s,Vs,K.check,q];rfl
theorem Qki(K:Y3 P kt ek)(z:Ye l k=none)(J:P.underlying T=some (.map kt et))(s:∀w,(zeroValue et).run P w=.ok (.pointer none) w)
  (q:o.op=.lookup T x y false:=by exact rfl)(hx:opA env x=.map i:=by exact rfl)(hH:H[i]?=some (.mapP (Qj ek ev l)):=by exact rfl)(hy:opA env y=ek k:=by exact rfl):OpV P o env H .nilp:=by
 intro O Q σ N a w r;have m:=Qg r x;rw[hx]at m;obtain⟨b,B,M⟩:=m;have p:=Qg r y;rw[hy]at p;have F:=VR.val (K.scl _) p;obtain⟨u,d,L,n,X,p4,t⟩:=r.sim.blk i _ _ B hH;obtain⟨V,G⟩:=ER.find K n k t;rcases K.find w k u.toList (QaV K n)with⟨g,f⟩|⟨j,e,g,f,E⟩
 .refine⟨.pointer none,?_,rfl⟩;simp only[execOp,q,M,F,Instr.lookup,Vr,run_underlying J,Result.andThen,MapKept.run_getObj_map L,Vs,K.check,g,s];rfl
 .obtain⟨W,R,h,Y⟩:=G j e f E;rw[z]at h;cases h
theorem Qmd(K:Y3 P kt ek){v:β}{zz:Operand}(W:Ye l k=none)(hT:P.underlying T=some (.map kt et))
  (R:o.op=.mapUpdate T x y zz:=by exact rfl)(hx:opA env x=.map i:=by exact rfl)(hH:H[i]?=some (.mapP (Qj ek ev l)):=by exact rfl)(m:opA env y=ek k:=by exact rfl)(hv:opA env zz=ev v:=by exact rfl):
  OpU P o env H (H.set i (.mapP (Qj ek ev (l++[(k,v)])))):=by
 intro fr V σ N a w r;have L:=Qg r x;rw[hx]at L;obtain⟨b,G,q2⟩:=L;have O:=Qg r y;rw[m]at O;have Y:=VR.val (K.scl _) O;have M:=Qg r zz;rw[hv]at M;obtain⟨E,f,p,t,J,p4,B⟩:=r.sim.blk i _ _ G hH;obtain⟨f1,f2⟩:=ER.find K t k B;have z:∀(obj:Obj) y,w.shape? b=some y->({w with heap:=w.heap.setIfInBounds b obj}:World).shape? b=some y:=by
  intro obj y m;unfold World.shape? at m;rw[p]at m;simp at m
 rcases K.find w k E.toList (QaV K t)with⟨Q,s⟩|⟨j,e,Q,s,X⟩
 .have g:=r.sim.set (x':=.mapP (Qj ek ev (l++[(k,v)]))) (obj:=.map (E.push {key:=QL (ek k),val:=a.eval zz,born:=f}) (f+1)) G hH rfl (z _)
   (λe h=>⟨_,_,h,by
    rw[Qj,Xf,Array.toList_push];exact(t.mono e).append ⟨_,_,rfl,(Qb5 (K.scl _)),M.mono e,rfl⟩,by
    rw[Array.toList_push];intro e h;rcases VH.1 h with q|q
    .exact Nat.lt_succ_of_lt (J e q)
    .simp at q;subst q;exact Xo _,by
    rw[Array.toList_push,Xf];refine List.nodup_append.2 ⟨p4,by simp,?_⟩;intro c u d n;simp at n;subst n;obtain⟨e,h,rfl⟩:=Xe.1 u;exact Nat.ne_of_lt (J e h),by
    rw[Array.toList_push,Xf];refine List.nodup_append.2 ⟨B,by simp,?_⟩;intro c u d n;simp at n;subst n;obtain⟨e,h,rfl⟩:=Xe.1 u;exact s e h⟩)
  refine⟨_,V,[],?_,by simpa using g.1,g.2⟩;simp only[execOp,R,q2,Y,Vr,Instr.mapUpdate,run_underlying hT,Result.andThen,MapKept.run_getObj_map p,K.check,Q,MapKept.run_setObj_map _ p];rfl
 .obtain⟨u1,v',F,u3⟩:=f2 j e s X;rw[W]at F;cases F
end
section
variable {fr ro:Nat->Prop} {σ:Sig} {H:Qd} {w:World}
theorem Sim.shutAny(s:Sim fr ro σ H w){i b:Nat}{t:Blk}(hσ:σ[i]?=some (some b))(hH:H[i]?=some t)(hl:t.live=true):
  Sim fr (λc=>ro c\/c=b) σ (H.set i .dead) w:=by
 have f:b<w.heap.size/\ ¬ro b/\ ¬fr b:=s.own i b _ hσ hH hl;have ext:Ext ro σ w (λc=>ro c\/c=b) σ w:=⟨λ_ q=>.inl q,λ_ _=>rfl,λ_ _ q=>q,λ_ _ q=>q⟩;have a:∀(j:Nat) (v:Blk),(H.set i .dead)[j]?=some v->v≠ .dead->j≠i/\H[j]?=some v:=by
  intro j v h m;by_cases e:j=i
  .subst e;rw[Xb]at h;simp only[if_true]at h;split at h
   .cases h;exact absurd rfl m
   .simp at h
  .rw[XT (λq=>e q.symm)]at h;exact⟨e,h⟩
 refine⟨by rw[X8];exact s.len,s.roOk.to (λ_ q=>.inl q) (λ_ _=>rfl) ?_,s.frLt,?_,?_,?_,?_,s.hidTo (· = ·) QZ (XX _) (λj d x c F P L z=>z.elim id λq=>((s.hid j d x c F P L).ne i b _ hσ hH hl q).elim) (λ_ _ _ _ _ _ _ q=>q) λj d y O E G=>.inl ⟨j,y,rfl,O,(a j y E (QeI G)).2,id,λ_ q=>q⟩⟩
 .rintro c (q|rfl)
  .exact s.roLt c q
  .exact f.1
 .rintro c (q|rfl)
  .exact s.roFr c q
  .exact f.2.2
 .intro j c v k g l;obtain⟨e,g⟩:=a j v g (Qav l);obtain⟨B,M,J⟩:=s.own j c v k g l;refine⟨B,?_,J⟩;rintro(q|rfl)
  .exact M q
  .exact e (s.inj j i c v _ k hσ g hH l hl)
 .intro j u c v r k g l N n p;exact s.inj j u c v r k g (a j v l (Qav n)).2 (a u r N (Qav p)).2 n p
 .intro j y v k g;by_cases m:v≠ .dead
  .exact(s.blk j y v k (a j v g m).2).keep ext (λ_ _ _=>rfl) (λ_ _ _ _=>rfl)
  .obtain rfl:v=.dead:=Classical.not_not.1 m;trivial
def QbX(H:Qd):List Nat->Qd
 |[]=>H
 |i::l=>QbX (H.set i .dead) l
theorem Qgu{l:List Nat}:∀{H:Qd} {j:Nat},j∉l->(QbX H l)[j]?=H[j]? :=by
 induction l with
 |nil=>intro H j _;rfl
 |cons i l a=>
  intro H j hj;rw[Va,not_or]at hj;unfold QbX;rw[a hj.2,XT (λq=>hj.1 q.symm)]
theorem QdS:∀{l:List Nat} {ro:Nat->Prop} {H:Qd} (s:Sim fr ro σ H w),l.Nodup->(∀i∈l,∃x,H[i]?=some x/\x.live=true)->
  ∃ro',Sim fr ro' σ (QbX H l) w/\(∀c,ro c->ro' c)/\ ∀i∈l,∀b,σ[i]?=some (some b)->ro' b
 |[],ro,H,s,_,_=>⟨ro,s,λ_ q=>q,λ_ h=>by cases h⟩
 |i::l,ro,H,s,hn,hl=>by
  rw[List.nodup_cons]at hn;obtain⟨x,hx,hxl⟩:=hl i (by simp);have rest:∀i'∈l,∃x,(H.set i .dead)[i']?=some x/\x.live=true:=by
   intro i' a;obtain⟨y,n,j⟩:=hl i' (X9 _ a);exact⟨y,by rw[XT (λq=>hn.1 (by rw[q];exact a))];exact n,j⟩
  have p:∃q,σ[i]?=some q:=by
   have:i<σ.length:=by rw[s.len];exact(XP.1 hx).1
   exact⟨_,XO this⟩
  obtain⟨q,f⟩:=p;cases q with
  |some b=>
   obtain⟨ro',m,e,k⟩:=QdS (s.shutAny f hx hxl) hn.2 rest;refine⟨ro',m,λc r=>e c (.inl r),λi' a g d=>?_⟩;rcases Va.1 a with rfl|a
   .rw[f]at d;cases d;exact e _ (.inr rfl)
   .exact k i' a g d
  |none=>
   obtain⟨ro',m,e,k⟩:=QdS (s.kill i) hn.2 rest;refine⟨ro',m,e,λi' a g d=>?_⟩;rcases Va.1 a with rfl|a
   .rw[f]at d;cases d
   .exact k i' a g d
end
end Go.Sw
namespace Go.Sw
structure Fil (α β:Type) where
 number:Int
 r0:List α
 r1:List α
 r2:List α
 reports:List β
 appeal:Bool
 deriving DecidableEq
structure FK (α β:Type) where
 T:Nat
 tF:Nat
 kF:Nat
 tR:Nat
 kR:Nat
 eF:α->List A
 eR:β->List A
section
variable {α β:Type} (K:FK α β)
def Qnp(b:Nat)(x:Fil α β):List A:=[.int .i64 x.number,.osl (b+1) 0 x.r0.length K.kF,.osl (b+2) 0 x.r1.length K.kF,.osl (b+3) 0 x.r2.length K.kF,.osl (b+4) 0 x.reports.length K.kR,.bool x.appeal]
def QkX(b:Nat)(x:Fil α β):List Blk:=[.cells K.T (Qnp K b x),.row K.tF K.kF (x.r0.map K.eF),.row K.tF K.kF (x.r1.map K.eF),.row K.tF K.kF (x.r2.map K.eF),.row K.tR K.kR (x.reports.map K.eR)]
def fall:Nat->List (Fil α β)->List Blk
 |_,[]=>[]
 |b,x::l=>QkX K b x++fall (b+5) l
def frp(x:Fil α β):List A:=[.int .i64 x.number,.rsl K.kF (x.r0.map K.eF),.rsl K.kF (x.r1.map K.eF),.rsl K.kF (x.r2.map K.eF),.rsl K.kR (x.reports.map K.eR),.bool x.appeal]
def fent:Nat->List (Fil α β)->List (Int×Nat)
 |_,[]=>[]
 |b,x::l=>(x.number,b)::fent (b+5) l
def Qeo(j:Nat):A:=.ptr j 0
def rpE(x:Fil α β):A:=.rp (frp K x)
def Qes(fs:List (Fil α β)):List (Int×Fil α β):=fs.map λx=>(x.number,x)
theorem QgE(b:Nat)(x:Fil α β)(l:List (Fil α β)):fall K b (x::l)=QkX K b x++fall K (b+5) l:=rfl
theorem QgD(b:Nat)(x:Fil α β):(QkX K b x).length=5:=rfl
end
section
variable {fr ro ro':Nat->Prop} {σ:Sig} {w:World}
theorem Qa0(sub:∀c,ro c->ro' c){i t k:Nat}{es:List (List A)}{v:Value}(j:∀b,σ[i]?=some (some b)->BR ro σ w (.row t k es) (some b)/\ro' b)(h:VR ro σ w (.osl i 0 es.length k) v):VR ro' [] w (.rsl k es) v:=by
 rcases h with⟨f,h⟩|⟨b,p,a,z,m,r,h,n,e,B,y⟩
 .have:es=[]:=VN.1 f;subst this;exact⟨none,0,h,XX _,.inl rfl⟩
 .refine⟨_,a,h,e,?_⟩;by_cases d:es=[]
  .exact .inl d
  .right;have u:0<a:=Vj (List.length_pos_iff.2 d) e;obtain rfl:=n u;obtain⟨⟨l,g,x⟩,s⟩:=j b r;refine⟨b,0,by simp,s,?_⟩;have:=YX (pre:=[]) (by simpa using g) x;exact this.keep ⟨sub,λ_ _=>rfl,λ_ _ q=>q,λ_ _ q=>q⟩ rfl
theorem QhZ{ro:Nat->Prop}{w:World}{b t:Nat}:∀{cs:List A} {pre l:List Value},w.heap[b]?=some (.cells (pre++l).toArray t (0,0))->LR ro [] w cs l->(∀v∈l,Qq v)->CR ro [] w b cs pre.length
 |[],pre,l,_,_,_=>trivial
 |a::cs,pre,l,hb,hl,hp=>by
  obtain⟨v,l',rfl,h1,h2⟩:=hl;refine⟨⟨v,?_,hp v (by simp),h1⟩,?_⟩
  .unfold World.cell?;rw[hb];simp
  .have:=QhZ (pre:=pre++[v]) (l:=l') (by simpa using hb) h2 λu hu=>hp u (X9 _ hu);simpa using this
variable {α β:Type} (K:FK α β)
theorem Qpd(sub:∀c,ro c->ro' c){b:Nat}{x:Fil α β}{v:Value}(f:∀(d c:Nat) (y:Blk),(QkX K b x)[d]?=some y->σ[b+d]?=some (some c)->BR ro σ w y (some c)/\ro' c)(h:VR ro σ w (.ptr b 0) v):VR ro' [] w (.rp (frp K x)) v:=by
 obtain⟨c,r,B⟩:=h;obtain⟨⟨l,F,a,n⟩,i⟩:=f 0 c _ rfl r;refine⟨c,0,B,i,?_⟩;refine QhZ (pre:=[]) (by simpa using F) ?_ n;unfold Qnp at a;obtain⟨v0,N,rfl,m,a⟩:=a;obtain⟨E,J,rfl,p,a⟩:=a;obtain⟨s,O,rfl,G,a⟩:=a;obtain⟨q,M,rfl,u,a⟩:=a;obtain⟨j,L,rfl,g,a⟩:=a;obtain⟨z,H,rfl,k,a⟩:=a;refine⟨v0,_,rfl,m,E,_,rfl,Qa0 sub (t:=K.tF) (λc e=>f 1 c _ rfl e) (by simpa using p),s,_,rfl,Qa0 sub (t:=K.tF) (λc e=>f 2 c _ rfl e) (by simpa using G),q,_,rfl,Qa0 sub (t:=K.tF) (λc e=>f 3 c _ rfl e) (by simpa using u),
  j,_,rfl,Qa0 sub (t:=K.tR) (λc e=>f 4 c _ rfl e) (by simpa using g),z,_,rfl,k,a⟩
theorem Qoo(sub:∀c,ro c->ro' c){ek:Int->A}(hek:∀(k:Int) (v:Value),VR ro σ w (ek k) v->VR ro' [] w (ek k) v):∀{b:Nat} {fs:List (Fil α β)} {es:List MapEntry},(∀(d c:Nat) (y:Blk),(fall K b fs)[d]?=some y->σ[b+d]?=some (some c)->BR ro σ w y (some c)/\ro' c)->
  ER ro σ w (Qj ek Qeo (fent b fs)) es->ER ro' [] w (Qj ek (rpE K) (Qes fs)) es
 |b,[],es,_,h=>h
 |b,x::l,es,hb,h=>by
  obtain⟨e,l',rfl,h1,h2,h3⟩:=h;refine⟨e,l',rfl,hek _ _ h1,?_,?_⟩
  .refine Qpd K sub (λd c y hy hc=>hb d c y ?_ hc) h2;rw[QgE,XQ (XP.1 hy).1];exact hy
  .refine Qoo sub hek (b:=b+5) (fs:=l) (λd c y hy hc=>hb (d+5) c y ?_ (by rw[show b+(d+5)=b+5+d by omega];exact hc)) h3;rw[QgE,XR (by rw[QgD];omega),QgD,Nat.add_sub_cancel];exact hy
end
section
variable {fr ro:Nat->Prop} {σ:Sig} {w:World} {α β:Type} (K:FK α β)
theorem Sim.shutMapP{H:Qd}(s:Sim fr ro σ H w){i b:Nat}{es es':List (A×A)}(hσ:σ[i]?=some (some b))(hH:H[i]?=some (.mapP es))(he:∀l,ER ro σ w es l->ER (λc=>ro c\/c=b) [] w es' l):
  Sim fr (λc=>ro c\/c=b) σ (H.set i (.fmap es')) w:=by
 have k:b<w.heap.size/\ ¬ro b/\ ¬fr b:=s.own i b _ hσ hH rfl;have ext:Ext ro σ w (λc=>ro c\/c=b) σ w:=⟨λ_ q=>.inl q,λ_ _=>rfl,λ_ _ q=>q,λ_ _ q=>q⟩;have a:∀(j:Nat) (v:Blk),(H.set i (.fmap es'))[j]?=some v->v.live=true->j≠i/\H[j]?=some v:=by
  intro j v h t;by_cases e:j=i
  .subst e;rw[Xb]at h;simp only[if_true]at h;split at h
   .cases h;simp[Blk.live]at t
   .simp at h
  .rw[XT (λq=>e q.symm)]at h;exact⟨e,h⟩
 have g:∀(j:Nat) (v:Blk),(H.set i (.fmap es'))[j]?=some v->v.holds=true->H[j]?=some v:=by
  intro j v h t;by_cases e:j=i
  .subst e;rw[Xb]at h;simp only[if_true]at h;split at h
   .cases h;cases t
   .simp at h
  .rw[XT (λq=>e q.symm)]at h;exact h
 refine⟨by rw[X8];exact s.len,s.roOk.to (λ_ q=>.inl q) (λ_ _=>rfl) ?_,s.frLt,?_,?_,?_,?_,s.hidTo (· = ·) QZ (XX _) (λj d x c M R O J=>J.elim id λq=>((s.hid j d x c M R O).ne i b _ hσ hH rfl q).elim) (λ_ _ _ _ _ _ _ q=>q) λj d y Q L N=>.inl ⟨j,y,rfl,Q,g j y L N,id,λ_ q=>q⟩⟩
 .rintro c (q|rfl)
  .exact s.roLt c q
  .exact k.1
 .rintro c (q|rfl)
  .exact s.roFr c q
  .exact k.2.2
 .intro j c v m f p;obtain⟨e,f⟩:=a j v f p;obtain⟨r,z,u⟩:=s.own j c v m f p;refine⟨r,?_,u⟩;rintro(q|rfl)
  .exact z q
  .exact e (s.inj j i c v _ m hσ f hH p rfl)
 .intro j G c v F m f p P B E;exact s.inj j G c v F m f (a j v p B).2 (a G F P E).2 B E
 .intro j y v m f;by_cases e:j=i
  .subst e;rw[Xa (XP.1 hH).1]at f;cases f;rw[hσ]at m;cases m;obtain⟨l,n,r,z,u⟩:=s.blk j _ _ hσ hH;exact⟨.inr rfl,l,n,r,he _ z,u⟩
  .rw[XT (λq=>e q.symm)]at f;exact(s.blk j y v m f).keep ext (λ_ _ _=>rfl) (λ_ _ _ _=>rfl)
end
end Go.Sw
namespace Go.Sw
open Go.Sort Go.Proofs Go.Shelf
theorem QmX{α:Type}{l:List α}(h:l.length=1):∃v,l=[v]:=by
 match l,h with
 |[v],_=>exact⟨v,rfl⟩
theorem Qfn{α β:Type}(f:α->β):∀l:List α,(l.map λa=>[f a]).flatten=l.map f
 |[]=>rfl
 |a::l=>by simp[Qfn f l]
structure Elt1 (ro:Nat->Prop) (w:World) {T:Type} (ea:T->A) (l:List T) where
 x:T
 v:Value
 mem:x∈l
 rel:VR ro [] w (ea x) v
 plain:Qq v
theorem Qpn{P:Program}{ρ:Ren}(L0:SlLaysF0.n6 P ρ){T:Type}[DecidableEq T]{ea:T->A}{t g:Nat}{cap:List A}{l l':List T}{cf:T->T->Option Int}(hs:QbO cf l=some l')
  (a2:∀x y c,cf x y=some c->C P g ([ea x,ea y]++cap) [] (λa H=>a=.int .i64 c/\H=[]))
  (aE:∀w,(isAgg (ρ.t 24)).run P w=.ok false w)(zE:∀w,(Go.sizeOf (ρ.t 24)).run P w=.ok 1 w)(eg:∀args w,(callFunc g args).run P w=.ok (.enter g args) w)(hd:Yn cap=true):
  C P (ρ.f 6) [.osl 0 0 l.length 1,.fn (.func g) [] cap] [.row t 1 (l.map λx=>[ea x])] (λa H=>a=.tup []/\H=[.row t 1 (l'.map λx=>[ea x])]):=by
 have L:SlLaysF.n6 P ρ:={L0 with a24:=aE,z24:=zE};intro fr E σ vals w s hv;obtain⟨vs,r1,rfl,bj,vf,r2,rfl,bb,hr⟩:=hv;cases(show r2=[]from hr);obtain⟨lf,lc,rfl,h1,ay⟩:=bb;cases(show lf=[]from h1);have ak:LR E [] w cap lc:=LR.data hd ay;obtain⟨ba,af,J,ao,a6⟩:=QcT hs;have B:∀(ad:Option Addr) (c:Nat),vs=.slice ad 0 c->l=[]->
   Calls P (ρ.f 6) [vs,.func (.func g) #[] lc.toArray].toArray w λe w'=>∃v r H' ae τ,e=.returned v/\(r=.tup []/\H'=[.row t 1 (l'.map λx=>[ea x])])/\Sim fr ae (σ++τ) H' w'/\VR ae (σ++τ) w' r v/\Qh fr E w ae w':=by
  rintro ad c rfl rfl;have ab:l'=[]:=by rw[<- a6];rfl
  subst ab;refine(AnyF.slices_SortFunc_none L0 ad c (.func (.func g) #[] lc.toArray) w).mono ?_;rintro e w' ⟨rfl,rfl⟩;exact⟨_,_,_,E,[],rfl,⟨rfl,rfl⟩,by simpa using s,⟨[],rfl,rfl⟩,Qh.refl _ _ _⟩
 rcases bj with⟨h0,rfl⟩|⟨b,p,cp,t',m,q1,rfl,q2,q3,q4,q5⟩
 .exact B none 0 rfl (VN.1 h0)
 .by_cases ab:l=[]
  .subst ab;exact B _ cp rfl rfl
  .have bp:0<l.length:=List.length_pos_iff.2 ab;obtain rfl:=q2 (Vj bp q3);obtain⟨lv,e1,e2⟩:=s.blk 0 _ _ q1 rfl;obtain⟨hb,ag,a9⟩:=s.own 0 b _ q1 rfl rfl;obtain⟨R,G,aw,rfl,bf⟩:=RL.parts e2
   let α:=Elt1 E w ea l
   have a0:∀p∈R,p.1∈l:=λp hp=>by rw[<- aw];exact VK hp
   have a7:∀p∈R,∃v,p.2=[v]/\VR E [] w (ea p.1) v/\Qq v:=by
    intro p hp;obtain⟨g1,g2,g3⟩:=bf p hp;obtain⟨v,e⟩:=QmX g1;rw[e]at g2 g3;obtain⟨v',l',e',g4,g5⟩:=g2;cases e';exact⟨v,e,g4,g3 v (by simp)⟩
   let val:List Value->Value:=λl=>l.headD .nilFunc
   have V:∀p∈R,p.2=[val p.2]/\VR E [] w (ea p.1) (val p.2)/\Qq (val p.2):=by
    intro p hp;obtain⟨v,e,g⟩:=a7 p hp;rw[e];exact⟨rfl,g⟩
   let ds:List α:=R.attach.map λp=>⟨p.1.1,val p.1.2,a0 _ p.2,(V _ p.2).2.1,(V _ p.2).2.2⟩
   have ax:∀{γ:Type} (f:T×List Value->γ),R.attach.map (λp=>f p.1)=R.map f:=λf=>by simp
   have O:ds.map (·.x)=l:=by
    show(R.attach.map _).map _=_;rw[List.map_map];exact(ax (·.1)).trans aw
   have a5:ds.map (·.v)=R.map λp=>val p.2:=by
    show(R.attach.map _).map _=_;rw[List.map_map];exact ax λp=>val p.2
   have aj:ds.length=l.length:=by rw[<- O];simp
   have a3:ds≠[]:=by intro q;rw[q]at aj;simp at aj;omega
   let inh:Inhabited α:=⟨ds.head a3⟩
   let enc':α->Value:=λa=>a.v
   let cf':α->α->Int:=λx y=>(cf x.x y.x).getD 0
   have ac:∀x y:α,ltOf cf' x y=ltO cf x.x y.x:=by
    intro x y;obtain⟨c,u⟩:=af x.x x.mem y.x y.mem;simp only[ltOf,ltO,cf',u,Option.getD_some]
   have hO:SWO (ltOf cf'):=⟨λx=>by rw[ac];exact J.irrefl _ x.mem,λx y z a b=>by rw[ac]at*;exact J.trans _ x.mem _ y.mem _ z.mem a b,
    λx y z a b=>by rw[ac]at*;exact J.ntrans _ x.mem _ y.mem _ z.mem a b⟩
   have bi:(R.map (·.2)).flatten=ds.map enc':=by
    have e3:R.map (·.2)=(R.map λp=>val p.2).map λv=>[v]:=by
     rw[List.map_map];exact List.map_congr_left λp hp=>(V p hp).1
    rw[e3, <- a5];have:=Qfn (λv:Value=>v) (ds.map (·.v));rw[this];simp[enc']
   rw[bi]at e1;have hH:Holds enc' w b 0 ds.toArray:=by
    intro j hj;simp only[List.size_toArray]at hj;constructor
    .unfold World.cell?;simp only[e1,Option.isSome_none,Xi,if_false,Xy];rw[Qac,XQ (by simpa using hj),Xq,Qfj _ _ hj];rfl
    .unfold World.frozen?;simp only[e1];simp
   have an:∀(d:Array α),d.size=ds.toArray.size->(putRow enc' w b 0 d).heap=w.heap.setIfInBounds b (.cells ((d.toList.map enc'++G)).toArray t (0,0)):=by
    intro d k;have au:(d.toList.map enc').length=(ds.map enc').length:=by simp at k⊢;rw[k]
    unfold putRow mapBlock;show w.heap.modify b _=_;rw[Qbf e1];simp only[onCells];congr 2;unfold putCells;apply Array.ext_getElem?;intro i;simp only[Array.getElem?_mapIdx,Qac,XY,true_and,Xy,Xx];by_cases hi:i<d.size
    .have aa:i<(d.toList.map enc').length:=by simpa using hi
     rw[XQ aa,XQ (by rw[<- au];exact aa),XO (by rw[<- au];exact aa),XO aa];simp only[Xj,Vx hi];congr 1;rw[getElem!_pos d i hi];simp
    .have aa:¬i<(d.toList.map enc').length:=by simpa using hi
     rw[XR (by omega),XR (by omega),au];cases(G[i-(ds.map enc').length]?)with
     |none=>rfl
     |some v=>exact congrArg some (Vw hi)
   have M:∀(m:Nat) (os:Array Obj) (d:Array α),d.size=ds.toArray.size->
     (∀c,c<w.heap.size->c≠b->(sortWorld enc' w b 0 m d os).heap[c]?=w.heap[c]?)/\(sortWorld enc' w b 0 m d os).heap[b]?=some (.cells ((d.toList.map enc'++G)).toArray t (0,0))/\
     w.heap.size<=(sortWorld enc' w b 0 m d os).heap.size:=by
    intro m os d k;have e:(sortWorld enc' w b 0 m d os).heap=w.heap.setIfInBounds b (.cells ((d.toList.map enc'++G)).toArray t (0,0))++os:=by
     rw[<- an d k];rfl
    rw[e];refine⟨λc u bn=>?_,?_,by simp⟩
    .rw[Array.getElem?_append_left (by simpa using u),Vi,Vw (λq=>bn q.symm)]
    .rw[Array.getElem?_append_left (by simpa using hb),Vi,Vx rfl,Vx hb]
   have Q:∀(m:Nat) (os:Array Obj) (d:Array α),d.size=ds.toArray.size->∀c y,w.shape? c=some y->(sortWorld enc' w b 0 m d os).shape? c=some y:=by
    intro m os d k c y hy;obtain⟨g1,g2,g3⟩:=M m os d k;by_cases u:c=b
    .subst u;unfold World.shape? at hy⊢;rw[e1]at hy;rw[g2];simp only[Option.some.injEq]at hy⊢;rw[<- hy];congr 1;simp only[List.size_toArray,X7,X6];simp at k⊢;rw[k]
    .unfold World.shape? at hy⊢;rw[g1 c (QbP hy) u];exact hy
   have ah:∀(m:Nat) (os:Array Obj) (d:Array α),d.size=ds.toArray.size->∀τ,Ext E τ w E τ (sortWorld enc' w b 0 m d os):=by
    intro m os d k τ;obtain⟨g1,g2,g3⟩:=M m os d k;exact⟨λ_ q=>q,λc u=>g1 c (s.roLt c u) (λq=>ag (q▸u)),Q m os d k,λ_ _ q=>q⟩
   have bo:CmpLays1 P g lc.toArray enc' cf' b 0 ds.toArray.size w:=by
    intro m os dk az x y;obtain⟨c,u⟩:=af x.x x.mem y.x y.mem;have F:=ah m os dk az [];have bg:=a2 _ _ _ u;generalize hW:sortWorld enc' w b 0 m dk os=W at*;have bc:w.heap.size<=W.heap.size:=by rw[<- hW];exact(M m os dk az).2.2
    have sW:Sim (λc=>c<W.heap.size/\ ¬E c) E [] [] W:=
     ⟨rfl,s.roOk.to (λ_ q=>q) F.keep (λc u=>Vj (s.roLt c u) bc),λc u=>u.1,λc u hf=>hf.2 u,λi b x h=>by simp at h,λi j b x y h=>by simp at h,λi y x h=>by simp at h,λi b x c h=>by simp at h⟩
    have al:LR E [] W ([ea x.x,ea y.x]++cap) ([x.v,y.v]++lc):=
     LR.append (show LR E [] W [ea x.x,ea y.x] [x.v,y.v]from⟨_,_,rfl,x.rel.mono F,_,_,rfl,y.rel.mono F,rfl⟩) (ak.mono F)
    have N:=bg _ E [] _ W sW al;have bh:(([x.v,y.v]++lc).toArray:Array Value)= #[enc' x,enc' y]++lc.toArray:=by simp[enc']
    rw[bh]at N;refine N.mono ?_;rintro e w' ⟨v,r,H',ae,τ,rfl,⟨rfl,rfl⟩,s',bm,ev⟩;refine⟨?_,?_⟩
    .rw[show v=.int .i64 c from bm];simp only[cf',u,Option.getD_some]
    .refine QkT (λc u=>?_) ev.size ev.os ev.tape ev.output ev.drawn;by_cases a1:E c
     .exact ev.keepRo c a1
     .exact ev.keepFr c ⟨u,a1⟩
   have Y:ds.toArray.size=l.length:=by simpa using aj
   have bq:b+0=b:=rfl;have ai:=Any.slices_SortFunc L enc' (λx=>Qgp x.plain) cf' hO g lc.toArray b 0 cp ds.toArray w eg bo hH hb (by rw[Y];unfold Qy at ba;omega);rw[Y]at ai;rw[Nat.zero_mul];refine ai.mono ?_;rintro e w' ⟨rfl,d,n,os,X,ar,rfl⟩;have k:d.size=ds.toArray.size:=X.1;obtain⟨g1,g2,g3⟩:=M n os d k;have am:d.toList.Perm ds:=by
    have h:=X.2.2;have x1:d.extract 0 l.length=d:=by rw[<- Y, <- k];exact Array.extract_size
    have x2:ds.toArray.extract 0 l.length=ds.toArray:=by rw[<- Y];exact Array.extract_size
    rw[x1,x2]at h;simpa using h
   have a4:d.toList.map (·.x)=l':=by
    rw[<- a6];refine Jp (lt:=ltO cf) ?_ ?_ ?_ (QP J)
    .exact((am.map (·.x)).trans (by rw[O])).trans (Ql _ _).symm
    .intro x hx y hy;have bl:x∈l:=by rw[<- O];exact(am.map (·.x)).mem_iff.1 hx
     have be:y∈l:=by rw[<- O];exact(am.map (·.x)).mem_iff.1 hy
     exact ao x bl y be
    .rw[VI];intro i j hi hj bk;simp only[X6]at hi hj;simp only[List.getElem_map];rw[<- ac];have:=ar i j (XY _) bk (by rw[<- Y, <- k];simpa using hj);rw[getElem!_pos d j (by simpa using hj),getElem!_pos d i (by simpa using hi)]at this;simpa using this
   have bd:RL E [] (sortWorld enc' w b 0 n d os) 1 (l'.map λx=>[ea x]) (d.toList.map enc'++G):=by
    have e3:d.toList.map enc'=((d.toList.map λa=>(a.x,[a.v])).map (·.2)).flatten:=by
     rw[List.map_map];exact(Qfn (λa:α=>a.v) d.toList).symm
    have e4:l'=(d.toList.map λa=>(a.x,[a.v])).map (·.1):=by rw[<- a4];simp
    rw[e3,e4];refine Qb6 (enc:=λx=>[ea x]) (λ_=>rfl) ?_;intro p hp;obtain⟨a,_,rfl⟩:=Xe.1 hp;exact⟨⟨_,_,rfl,a.rel.mono (ah n os d k []),rfl⟩,λv hv=>by rw[VF.1 hv];exact a.plain⟩
   have av:Qh fr E w E (sortWorld enc' w b 0 n d os):=
    ⟨λ_ q=>q,λc u=>g1 c (s.roLt c u) (λq=>ag (q▸u)),λc u=>g1 c (s.frLt c u) (λq=>a9 (q▸u)),g3,Q n os d k,rfl,rfl,rfl,Nat.le_add_right _ _⟩
   have aq:σ.length=1:=s.len;have a8:Sim fr E σ [.row t 1 (l'.map λx=>[ea x])] (sortWorld enc' w b 0 n d os):=by
    have i0:∀{i:Nat} {x:Blk},([.row t 1 (l'.map λx=>[ea x])]:Qd)[i]?=some x->i=0/\x=.row t 1 (l'.map λx=>[ea x]):=by
     intro i x h;cases i with
     |zero=>simp at h;exact⟨rfl,h.symm⟩
     |succ i=>simp at h
    refine⟨aq,s.roOk.to (λ_ q=>q) av.keepRo (λc u=>Vj (s.roLt c u) g3),λc u=>Vj (s.frLt c u) g3,s.roFr,λi c x h1 h2 h3=>?_,λi j c x y h1 h2 h3 h4 _ _=>?_,λi y x h1 h2=>?_,λi b x c h1 h2 h3=>by obtain⟨rfl,rfl⟩:=i0 h2;exact h3.elim⟩
    .obtain⟨rfl,rfl⟩:=i0 h2;obtain⟨p1,p2⟩:=s.own 0 c _ h1 rfl rfl;exact⟨Vj p1 g3,p2⟩
    .rw[(i0 h3).1,(i0 h4).1]
    .obtain⟨rfl,rfl⟩:=i0 h2;rw[q1]at h1;cases h1;exact⟨_,g2,bd⟩
   exact⟨_,_,_,E,[],rfl,⟨rfl,rfl⟩,by simpa using a8,⟨[],rfl,rfl⟩,av⟩
end Go.Sw
namespace Go.Sw
structure Pl where
 b:Nat
 i0:Nat
 i1:Nat
 i2:Nat
 i3:Nat
def Pl.ix(p:Pl):List Nat:=[p.b,p.i0,p.i1,p.i2,p.i3]
section
variable {α β:Type} (K:FK α β)
def Q0(p:Pl)(x:Fil α β):List A:=[.int .i64 x.number,.osl p.i0 0 x.r0.length K.kF,.osl p.i1 0 x.r1.length K.kF,.osl p.i2 0 x.r2.length K.kF,.osl p.i3 0 x.reports.length K.kR,.bool x.appeal]
structure QbE (H:Qd) (x:Fil α β) (p:Pl):Prop where
 c:H[p.b]?=some (.cells K.T (Q0 K p x))
 r0:H[p.i0]?=some (.row K.tF K.kF (x.r0.map K.eF))
 r1:H[p.i1]?=some (.row K.tF K.kF (x.r1.map K.eF))
 r2:H[p.i2]?=some (.row K.tF K.kF (x.r2.map K.eF))
 r3:H[p.i3]?=some (.row K.tR K.kR (x.reports.map K.eR))
abbrev QaW(α β:Type):=List (Fil α β×Pl)
def YS(bk:QaW α β):List (Int×Nat):=bk.map λe=>(e.1.number,e.2.b)
structure Yz (lo:Nat) (H:Qd) (bk:QaW α β):Prop where
 laid:∀e∈bk,QbE K H e.1 e.2
 own:∀e∈bk,e.2.ix.Nodup
 ne:bk.Pairwise λe f=>∀i∈e.2.ix,i∉f.2.ix
 lo:∀e∈bk,∀i∈e.2.ix,lo<=i
 num:(bk.map (·.1.number)).Nodup
variable {K} {lo:Nat} {H H':Qd} {bk l r:QaW α β} {e:Fil α β×Pl} {x':Fil α β} {p':Pl}
theorem Yz.nil:Yz K lo H ([]:QaW α β):=⟨(λ_ h=>by cases h),(λ_ h=>by cases h),List.Pairwise.nil,(λ_ h=>by cases h),List.nodup_nil⟩
theorem QbE.lt(h:QbE K H e.1 e.2):∀i∈e.2.ix,i<H.length:=by
 intro i a;have g:∀{j:Nat} {y:Blk},H[j]?=some y->j<H.length:=λq=>(XP.1 q).1;simp only[Pl.ix,Va,List.not_mem_nil,or_false]at a;rcases a with rfl|rfl|rfl|rfl|rfl
 .exact g h.c
 .exact g h.r0
 .exact g h.r1
 .exact g h.r2
 .exact g h.r3
theorem QbE.keep(h:QbE K H e.1 e.2)(k:∀i∈e.2.ix,H'[i]?=H[i]?):QbE K H' e.1 e.2:=by
 refine⟨?_,?_,?_,?_,?_⟩
 .rw[k _ (by simp[Pl.ix])];exact h.c
 .rw[k _ (by simp[Pl.ix])];exact h.r0
 .rw[k _ (by simp[Pl.ix])];exact h.r1
 .rw[k _ (by simp[Pl.ix])];exact h.r2
 .rw[k _ (by simp[Pl.ix])];exact h.r3
theorem Yz.keep(h:Yz K lo H bk)(k:∀j,lo<=j->j<H.length->H'[j]?=H[j]?):Yz K lo H' bk:=
 ⟨λe he=>(h.laid e he).keep λi hi=>k i (h.lo e he i hi) ((h.laid e he).lt i hi),h.own,h.ne,h.lo,h.num⟩
theorem Yz.upd(h:Yz K lo H (l++e::r))(x:QbE K H' x' p')(E:x'.number=e.1.number)(z:∀j,lo<=j->j<H.length->j∉e.2.ix->H'[j]?=H[j]?)
  (hi:∀i∈p'.ix,i∈e.2.ix\/H.length<=i)(B:p'.ix.Nodup)(hl:lo<=H.length):Yz K lo H' (l++(x',p')::r):=by
 obtain⟨u,w,n⟩:=List.pairwise_append.1 h.ne;obtain⟨t,y⟩:=Xc.1 w;have mem:∀f∈l++(x',p')::r,f=(x',p')\/(f∈l++e::r/\ ∀i∈f.2.ix,i∉e.2.ix):=by
  intro f b;rcases VH.1 b with q|q
  .exact .inr ⟨List.mem_append_left _ q,λi hi a=>n f q e (by simp) i hi a⟩
  .rcases Va.1 q with q|q
   .exact .inl q
   .exact .inr ⟨by simp[q],λi hi a=>t f q i a hi⟩
 refine⟨?_,?_,?_,?_,?_⟩
 .intro f b;rcases mem f b with rfl|⟨k,s⟩
  .exact x
  .exact(h.laid f k).keep λi hi=>z i (h.lo f k i hi) ((h.laid f k).lt i hi) (s i hi)
 .intro f b;rcases mem f b with rfl|⟨k,s⟩
  .exact B
  .exact h.own f k
 .refine List.pairwise_append.2 ⟨u,Xc.2 ⟨?_,y⟩,?_⟩
  .intro f b i a d;rcases hi i a with q|q
   .exact t f b i q d
   .have:=(h.laid f (by simp[b])).lt i d;omega
  .intro f b g p i d m;rcases Va.1 p with rfl|p
   .rcases hi i m with q|q
    .exact n f b e (by simp) i d q
    .have:=(h.laid f (by simp[b])).lt i d;omega
   .exact n f b g (by simp[p]) i d m
 .intro f b;rcases mem f b with rfl|⟨k,s⟩
  .intro i a;rcases hi i a with q|q
   .exact h.lo e (by simp) i q
   .omega
  .exact h.lo f k
 .have:=h.num;rw[Xf,Vn]at this⊢;show(_++x'.number::_).Nodup;rw[E];exact this
theorem Yz.add(h:Yz K lo H bk)(n:QbE K H' x' p')(w:∀e∈bk,e.1.number≠x'.number)(s:∀j,lo<=j->j<H.length->H'[j]?=H[j]?)
  (hi:∀i∈p'.ix,H.length<=i)(t:p'.ix.Nodup)(hl:lo<=H.length):Yz K lo H' (bk++[(x',p')]):=by
 have r:=h.keep s;have mem:∀f∈bk++[(x',p')],f∈bk\/f=(x',p'):=by
  intro f d;rcases VH.1 d with q|q
  .exact .inl q
  .exact .inr (VF.1 q)
 refine⟨?_,?_,?_,?_,?_⟩
 .intro f d;rcases mem f d with q|rfl
  .exact r.laid f q
  .exact n
 .intro f d;rcases mem f d with q|rfl
  .exact h.own f q
  .exact t
 .refine List.pairwise_append.2 ⟨h.ne,by simp,λf d g u i k l=>?_⟩;obtain rfl:=VF.1 u;have:=(h.laid f d).lt i k;have:=hi i l;omega
 .intro f d i k;rcases mem f d with q|rfl
  .exact h.lo f q i k
  .have:=hi i k;omega
 .rw[Xf];refine List.nodup_append.2 ⟨h.num,by simp,?_⟩;intro a p b m;simp at m;subst m;obtain⟨f,d,rfl⟩:=Xe.1 p;exact w f d
theorem QdQ:∀(d:QaW α β) (k:Int),(Ye (YS d) k=none/\ ∀e∈d,e.1.number≠k)\/ ∃l e r,d=l++e::r/\e.1.number=k/\(∀y∈l,y.1.number≠k)/\Ye (YS d) k=some e.2.b
 |[],k=>.inl ⟨rfl,λ_ h=>by cases h⟩
 |e::l,k=>by
  have e0:Ye (YS (e::l)) k=if e.1.number=k then some e.2.b else Ye (YS l) k:=by
   show Ye ((e.1.number,e.2.b)::YS l) k=_;simp[Ye];by_cases q:e.1.number=k<;>simp[q]
  by_cases q:e.1.number=k
  .exact .inr ⟨[],e,l,rfl,q,(λ_ h=>by cases h),by rw[e0,Vx q]⟩
  .rcases QdQ l k with⟨g,f⟩|⟨p,y,r,g,f,j,i⟩
   .refine .inl ⟨by rw[e0,Vw q];exact g,λz a=>?_⟩;rcases Va.1 a with rfl|a
    .exact q
    .exact f z a
   .refine .inr ⟨e::p,y,r,by rw[g];rfl,f,λz a=>?_,by rw[e0,Vw q,i]⟩;rcases Va.1 a with rfl|a
    .exact q
    .exact j z a
theorem QlU(p q:QaW α β):YS (p++q)=YS p++YS q:=by simp[YS]
theorem QlT(a:x'.number=e.1.number)(d:p'.b=e.2.b):YS (l++(x',p')::r)=YS (l++e::r):=by simp[YS,a,d]
end
section
variable {fr ro ro':Nat->Prop} {σ:Sig} {w:World} {α β:Type} (K:FK α β)
theorem Qn1(sub:∀c,ro c->ro' c){p:Pl}{x:Fil α β}{v:Value}{H:Qd}(hl:QbE K H x p)(e:∀i∈p.ix,∀(c:Nat) (y:Blk),H[i]?=some y->σ[i]?=some (some c)->BR ro σ w y (some c)/\ro' c)(h:VR ro σ w (.ptr p.b 0) v):VR ro' [] w (.rp (frp K x)) v:=by
 obtain⟨c,s,E⟩:=h;obtain⟨⟨l,G,a,n⟩,g⟩:=e p.b (by simp[Pl.ix]) c _ hl.c s;refine⟨c,0,E,g,?_⟩;refine QhZ (pre:=[]) (by simpa using G) ?_ n;unfold Q0 at a;obtain⟨v0,P,rfl,m,a⟩:=a;obtain⟨F,M,rfl,q,a⟩:=a;obtain⟨u,Q,rfl,J,a⟩:=a;obtain⟨r,O,rfl,z,a⟩:=a;obtain⟨j,N,rfl,f,a⟩:=a;obtain⟨B,L,rfl,k,a⟩:=a;refine⟨v0,_,rfl,m,F,_,rfl,Qa0 sub (t:=K.tF) (λc d=>e p.i0 (by simp[Pl.ix]) c _ hl.r0 d) (by simpa using q),u,_,rfl,Qa0 sub (t:=K.tF) (λc d=>e p.i1 (by simp[Pl.ix]) c _ hl.r1 d) (by simpa using J),r,_,rfl,Qa0 sub (t:=K.tF) (λc d=>e p.i2 (by simp[Pl.ix]) c _ hl.r2 d) (by simpa using z),
  j,_,rfl,Qa0 sub (t:=K.tR) (λc d=>e p.i3 (by simp[Pl.ix]) c _ hl.r3 d) (by simpa using f),B,_,rfl,k,a⟩
theorem Qg4(sub:∀c,ro c->ro' c){H:Qd}{ek:Int->A}(hek:∀(k:Int) (v:Value),VR ro σ w (ek k) v->VR ro' [] w (ek k) v):∀{bk:QaW α β} {es:List MapEntry},(∀e∈bk,QbE K H e.1 e.2)->(∀e∈bk,∀i∈e.2.ix,∀(c:Nat) (y:Blk),H[i]?=some y->σ[i]?=some (some c)->BR ro σ w y (some c)/\ro' c)->
  ER ro σ w (Qj ek Qeo (YS bk)) es->ER ro' [] w (Qj ek (rpE K) (Qes (bk.map (·.1)))) es
 |[],es,_,_,h=>h
 |x::l,es,hl,hb,h=>by
  obtain⟨e,l',rfl,h1,h2,h3⟩:=h;exact⟨e,l',rfl,hek _ _ h1,Qn1 K sub (hl x (by simp)) (hb x (by simp)) h2,Qg4 sub hek (λe he=>hl e (by simp[he])) (λe he=>hb e (by simp[he])) h3⟩
def Qcx(bk:QaW α β):List Nat:=bk.flatMap λe=>e.2.ix
theorem Yz.all{lo:Nat}{H:Qd}:∀{g:QaW α β},Yz K lo H g->(Qcx g).Nodup/\ ∀i∈Qcx g,lo<=i/\ ∃y,H[i]?=some y/\y.live=true:=by
 intro g h;refine⟨?_,?_⟩
 .have q:=h.own;have x:=h.ne;clear h
  induction g with
  |nil=>exact List.nodup_nil
  |cons e l w=>
   obtain⟨r,s⟩:=Xc.1 x;show(e.2.ix++Qcx l).Nodup;refine List.nodup_append.2 ⟨q e (by simp),w (λf m=>q f (by simp[m])) s,?_⟩;intro a u b t k;obtain⟨f,m,n⟩:=List.mem_flatMap.1 t;exact r f m a u (k▸n)
 .intro i j;obtain⟨e,p,j⟩:=List.mem_flatMap.1 j;refine⟨h.lo e p i j,?_⟩;have d:=h.laid e p;simp only[Pl.ix,Va,List.not_mem_nil,or_false]at j;rcases j with rfl|rfl|rfl|rfl|rfl
  .exact⟨_,d.c,rfl⟩
  .exact⟨_,d.r0,rfl⟩
  .exact⟨_,d.r1,rfl⟩
  .exact⟨_,d.r2,rfl⟩
  .exact⟨_,d.r3,rfl⟩
end
section
variable {α β:Type} (K:FK α β) {env:Env} {H:Qd}
theorem Qoe{h0 lo m:Nat}{g:QaW α β}(F:Yz K lo H g)(t:Nat.blt m lo=true)(z:H[m]?=some (.mapP (Qj (λn=>.int .i64 n) Qeo (YS g)))):
  Le h0 env H env ((QbX H (Qcx g)).set m (.fmap (Qj (λn=>.int .i64 n) (rpE K) (Qes (g.map (·.1)))))):=by
 intro R ro σ N a w r;have s:=r.sim;obtain⟨nd,d⟩:=F.all;have L:m<lo:=by simpa[Nat.blt_eq]using t
 have Q:∃q,σ[m]?=some q:=by
  have:m<σ.length:=by rw[s.len];exact(XP.1 z).1
  exact⟨_,XO this⟩
 obtain⟨q,E⟩:=Q;cases q with
 |none=>exact(s.blk m _ _ E z).elim
 |some x=>
 obtain⟨b,J,f,u⟩:=QdS s (l:=Qcx g) nd (λi B=>(d i B).2);have p:(QbX H (Qcx g))[m]?=some (.mapP (Qj (λn=>.int .i64 n) Qeo (YS g))):=by
  rw[Qgu (λq=>by have:=(d m q).1;omega)];exact z
 have P:=J.shutMapP (es':=Qj (λn=>.int .i64 n) (rpE K) (Qes (g.map (·.1)))) E p (λl O=>?_)
 .have sub:∀c,ro c->b c\/c=x:=λc j=>.inl (f c j);have ext:Ext ro σ w (λc=>b c\/c=x) σ w:=⟨sub,λ_ _=>rfl,λ_ _ q=>q,λ_ _ q=>q⟩;exact⟨_,σ,⟨P,λq=>(r.env q).mono ext,r.size,r.defers⟩,sub,rfl⟩
 .have ext:Ext ro σ w b σ w:=⟨f,λ_ _=>rfl,λ_ _ q=>q,λ_ _ q=>q⟩;refine Qg4 K (ek:=λn=>.int .i64 n) (ro:=b) (ro':=λc=>b c\/c=x) (H:=H) (λc j=>.inl j) (λk v h=>h) F.laid (λe M i B c y G j=>?_) O;exact⟨(s.blk _ _ _ j G).keep ext (λ_ _ _=>rfl) (λ_ _ _ _=>rfl),.inl (u _ (List.mem_flatMap.2 ⟨e,M,B⟩) c j)⟩
end
end Go.Sw
namespace Go.Sw
section
variable {P:Program} {h0 N:Nat} {all:Array Oper} {o:Oper} {l:List Oper} {env:Env} {H:Qd} {Q:QD}
theorem QcO{d:Nat}{f:FuncId}{args:List A}{Qr:A->Qd->Prop}(h:OpC P o env H f args)(B:C P f args H Qr)
  (k:∀r H1,Qr r H1->WO P h0 N all l (up env d r) H1 Q)(G:h0<=H.length)(hg:Qp all o env true:=by exact rfl)(hd:o.dst=some d:=by exact rfl)(hN:Nat.blt d N=true:=by exact rfl):
  WO P h0 N all (o::l) env H Q:=by
 intro z fr j σ a w r hrd;obtain⟨g,y,x⟩:=h fr j σ N a w r;refine Qdx (YI hg r) y ?_;have hσl:=r.sim.len;refine Calls.mono (B fr j σ g w r.sim x) ?_;rintro e m ⟨v,n,H1,b,τ,rfl,p,F,t,ev⟩;have u:=k n H1 p;simp only[hd,Act.put];have i:d<N:=by simpa[Nat.blt_eq]using hN
 have E:Rel fr b (σ++τ) H1 (up env d n) N {a with tmps:=a.tmps.setIfInBounds d v} m:=
  ⟨F,VR.up (fr:=fr) (λs=>(r.env s).mono (ev.ext σ τ)) (by rw[r.size];exact i) t,by simpa using r.size,r.defers.keep ev⟩
 exact⟨_,rfl,Yk (λe a w q=>q.step ev (Qt (by omega))) _ _ _ (u z fr b (σ++τ) _ m E (hrd.to ev λ_ q=>q))⟩
end
section
variable {h0 n:Nat} {env env':Env} {H H':Qd}
theorem Qog(n:Nat)(hn:h0<=n)(hl:n<=H.length)(hH:(H'.map (QW (rho (List.range n) H.length))).map some=(List.range n).map (λp=>H[p]?))(hE:Qel (rho (List.range n) H.length) env env'):Le h0 env H env' H':=
 Qof (List.range n) (by rw[List.take_range,XE hn]) hH.symm List.nodup_range hE
end
section
variable {P:Program} {o:Oper} {env:Env} {H:Qd} {α:Type}
end
end Go.Sw
namespace Go.Sw
section
variable {α β:Type}
def Qar(k:Int):Fil α β:=⟨k,[],[],[],[],false⟩
def Qah(fs:List (Fil α β))(k:Int):List (Fil α β):=bif fs.any (λx=>decide (x.number=k))then fs else fs++[Qar k]
def Qbp(fs:List (Fil α β))(k:Int)(g:Fil α β->Fil α β):List (Fil α β):=fs.map λx=>bif decide (x.number=k)then g x else x
def Qd4(fs:List (Fil α β)):Bool:=fs.all λx=>Nat.ble (x.r0.length+1) Qy&&Nat.ble (x.r1.length+1) Qy&&Nat.ble (x.r2.length+1) Qy&&Nat.ble (x.reports.length+1) Qy
variable (K:FK α β) {lo:Nat} {H H':Qd} {bk:QaW α β}
theorem Qc8{fs:List (Fil α β)}{k:Int}(h:∃x∈fs,x.number=k):Qah fs k=fs:=by
 unfold Qah;have:fs.any (λx=>decide (x.number=k))=true:=by
  obtain⟨x,a,e⟩:=h;exact Xv.2 ⟨x,a,by simp[e]⟩
 rw[this];rfl
theorem Qb0{fs:List (Fil α β)}{k:Int}(h:∀x∈fs,x.number≠k):Qah fs k=fs++[Qar k]:=by
 unfold Qah;have:fs.any (λx=>decide (x.number=k))=false:=by
  rw[List.any_eq_false];intro x a;simp[h x a]
 rw[this];rfl
theorem Qox{l r:List (Fil α β)}{x:Fil α β}{k:Int}{g:Fil α β->Fil α β}(h:((l++x::r).map (·.number)).Nodup)(b:x.number=k):Qbp (l++x::r) k g=l++g x::r:=by
 rw[Xf,Vn,List.nodup_append]at h;obtain⟨p,d,n⟩:=h;rw[List.nodup_cons]at d;have e:∀m:List (Fil α β),(∀y∈m,y.number≠k)->Qbp m k g=m:=by
  intro m j;unfold Qbp
  conv=>rhs;rw[<- List.map_id m]
  exact List.map_congr_left λy a=>by simp[j y a]
 have i:=e l (λy a q=>n y.number (VK a) x.number (by simp) (by rw[q,b]));have f:=e r (λy a q=>d.1 (by rw[b, <- q];exact VK a));unfold Qbp at i f⊢;rw[Xf,Vn,i,f];simp[b]
theorem Qie{l r:List (Fil α β)}{x:Fil α β}(h:Qd4 (l++x::r)=true):x.r0.length+1<=Qy/\x.r1.length+1<=Qy/\x.r2.length+1<=Qy/\x.reports.length+1<=Qy:=by
 unfold Qd4 at h;have:=Xu.1 h x (by simp);simp only[X0]at this;obtain⟨⟨⟨d,a⟩,b⟩,e⟩:=this;exact⟨XV d,XV a,XV b,XV e⟩
def QaX(n:Nat):Pl:=⟨n,n+1,n+2,n+3,n+4⟩
def Qcc(n:Nat)(k:Int):Qd:=[.cells K.T (Q0 K (QaX n) (Qar k)),.row K.tF K.kF [],.row K.tF K.kF [],.row K.tF K.kF [],.row K.tR K.kR []]
theorem Qkq{h0:Nat}{env:Env}{k:Int}(d:h0<=H.length):
  Le h0 env (H++[.cells K.T [.int .i64 k,.nils,.nils,.nils,.nils,.bool false]]) env (H++Qcc K H.length k):=by
 have a:∀(n:Nat) (G:Qd) (cs cs':List A) (t k':Nat) (m:Nat),n=H.length+1+G.length->cs[m]?=some .nils->cs'=cs.set m (.osl n 0 0 k')->
   Le h0 env (H++.cells K.T cs::G) env (H++.cells K.T cs'::(G++[.row t k' []])):=by
  intro n G cs cs' t k' m hn hm hc;have:=YU (h0:=h0) (env:=env) (H:=H++.cells K.T cs::G) (i:=H.length) (m:=m) (t:=t) (k:=k') (T:=K.T) (cs:=cs)
   (by simp;omega) (by simp) hm
  have e:(H++.cells K.T cs::G).length=n:=by simp;omega
  rw[e]at this;have b:(H++.cells K.T cs::G).set H.length (.cells K.T (cs.set m (.osl n 0 0 k')))=H++.cells K.T cs'::G:=by
   rw[List.set_append_right _ _ (XX _),Nat.sub_self,hc];rfl
  rw[b,Vm]at this;exact this
 refine Le.trans (a (H.length+1) [] _ _ K.tF K.kF 1 (by simp) rfl rfl) ?_;refine Le.trans (a (H.length+2) [.row K.tF K.kF []] _ _ K.tF K.kF 2 (by simp) rfl rfl) ?_;refine Le.trans (a (H.length+3) [.row K.tF K.kF [],.row K.tF K.kF []] _ _ K.tF K.kF 3 (by simp) rfl rfl) ?_;exact a (H.length+4) [.row K.tF K.kF [],.row K.tF K.kF [],.row K.tF K.kF []] _ _ K.tR K.kR 4 (by simp) rfl rfl
theorem QbE.new{k:Int}:QbE K (H++Qcc K H.length k) (Qar k) (QaX H.length):=by
 have g:∀(j:Nat) (y:Blk),(Qcc K H.length k)[j]?=some y->(H++Qcc K H.length k)[H.length+j]?=some y:=by
  intro j y h;rw[XR (by omega),Nat.add_sub_cancel_left];exact h
 exact⟨g 0 _ rfl,g 1 _ rfl,g 2 _ rfl,g 3 _ rfl,g 4 _ rfl⟩
theorem QkH(n:Nat):(∀i∈(QaX n).ix,n<=i)/\(QaX n).ix.Nodup:=by
 refine⟨?_,?_⟩
 .intro i a;simp only[Pl.ix,QaX,Va,List.not_mem_nil,or_false]at a;omega
 .simp[Pl.ix,QaX]
variable {K}
theorem Yz.new{k:Int}(h:Yz K lo H bk)(b:∀e∈bk,e.1.number≠k)(hl:lo<=H.length):Yz K lo (H++Qcc K H.length k) (bk++[(Qar k,QaX H.length)]):=by
 refine h.add (QbE.new K) b (λj d a=>by rw[XQ a]) (QkH _).1 (QkH _).2 hl
theorem Yz.row{l r:QaW α β}{e:Fil α β×Pl}{x':Fil α β}{p':Pl}{i:Nat}{y:Blk}(h:Yz K lo H (l++e::r))(hl:lo<=H.length)(L:x'.number=e.1.number)(hi:i∈e.2.ix)(J:i≠e.2.b)(g:p'.b=e.2.b)
  (hH:H'=(H.set i .dead++[y]).set e.2.b (.cells K.T (Q0 K p' x')))
  (s:p'.ix=e.2.ix.map λj=>bif Nat.beq j i then H.length else j)
  (h0:H'[p'.i0]?=some (.row K.tF K.kF (x'.r0.map K.eF)))(w:H'[p'.i1]?=some (.row K.tF K.kF (x'.r1.map K.eF)))(B:H'[p'.i2]?=some (.row K.tF K.kF (x'.r2.map K.eF)))(x:H'[p'.i3]?=some (.row K.tR K.kR (x'.reports.map K.eR))):
  Yz K lo H' (l++(x',p')::r):=by
 have z:=h.laid e (by simp);have d:=z.lt;have E:e.2.b<H.length:=d _ (by simp[Pl.ix]);refine h.upd ⟨?_,h0,w,B,x⟩ L ?_ ?_ ?_ hl
 .rw[hH,g,Xa (by simp;omega)]
 .intro j m M p;rw[hH,XT (λq=>p (by rw[<- q];simp[Pl.ix])),XQ (by simpa using M),XT (λq=>p (by rw[<- q];exact hi))]
 .intro j k;rw[s]at k;obtain⟨F,m,rfl⟩:=Xe.1 k;cases q:Nat.beq F i with
  |true=>exact .inr (XX _)
  |false=>exact .inl m
 .rw[s];have t:=h.own e (by simp);refine List.pairwise_map.2 (List.Pairwise.imp_of_mem ?_ t);intro a b G g f;have N:=d a G;have O:=d b g;cases u:Nat.beq a i with
  |true=>
   cases n:Nat.beq b i with
   |true=>exact absurd ((XU u).trans (XU n).symm) f
   |false=>simp only[Vt,Vu];omega
  |false=>
   cases n:Nat.beq b i with
   |true=>simp only[Vt,Vu];omega
   |false=>exact f
end
end Go.Sw
namespace Go.Sw
section
variable {fr ro:Nat->Prop} {σ:Sig} {H:Qd} {w:World}
end
section
variable {P:Program} {o:Oper} {env:Env} {H:Qd}
theorem Le.frow{h0 s i n k t:Nat}{es:List (List A)}(F:lk env s=.osl i 0 n k)(hH:H[i]?=some (.frow t k es))(J:es.length=n):Le h0 env H (up env s (.rsl k es)) H:=by
 intro P h σ N a w r;refine⟨h,σ,⟨r.sim,?_,r.size,r.defers⟩,λ_ q=>q,rfl⟩;intro d;simp only[lk];by_cases q:d=s
 .subst q;rw[VJ];have:=r.env d;rw[F]at this;show VR h σ w (.rsl k es) _;rcases this with⟨g,f⟩|⟨b,p,e,Q,m,g,f,y,E,M,R⟩
  .have:es=[]:=VN.1 (by omega);subst this;exact⟨none,0,by rw[f];rfl,XX _,.inl rfl⟩
  .obtain⟨u,l,G,B,O⟩:=r.sim.blk i _ _ g hH;refine⟨_,e,by rw[f,J],by omega,?_⟩;by_cases j:es=[]
   .exact .inl j
   .right;have L:0<e:=Vj (by have:=List.length_pos_iff.2 j;omega) E;have x:=y L;refine⟨b,0,by rw[x];simp,u,?_⟩;exact YX (pre:=[]) (by simpa using G) B
 .have:Nat.beq d s=false:=by
   cases z:Nat.beq d s with
   |true=>exact absurd (XU z) q
   |false=>rfl
  rw[this];exact r.env d
end
end Go.Sw
namespace Go.Sw
open Go.MapKept
section
variable {P:Program} {kt et:Nat} {α β:Type} [DecidableEq α] {ek:α->A} {ev:β->A} {ro:Nat->Prop} {σ:Sig} {w:World} (K:Y3 P kt ek)
include K
variable {o:Oper} {env:Env} {H:Qd} {T T' i:Nat} {x y:Operand} {l m:List (α×β)} {k:α}
end
end Go.Sw
namespace Go.Sw
section
variable {P:Program} {h0 N:Nat} {all:Array Oper} {o1 o2:Oper} {l:List Oper} {env:Env} {H:Qd} {Q:QD}
theorem QlW{t n d:Nat}{z:Value}{v:A}{cs zs:List A}{y:Operand}(hz:∀w,(zeroValue t).run P w=.ok z w)(hv:ZR v z)(hs:∀w,(Go.sizeOf t).run P w=.ok n w)
  (k:WO P h0 N all l (up env d (.rp cs)) H Q)(hk:Yf v=true:=by exact rfl)(hzs:Q9 v=zs:=by exact rfl)(hpl:zs.all Yt=true:=by exact rfl)(hzn:zs.length=n:=by exact rfl)(hn:cs.length=n:=by exact rfl)
  (ho1:o1.op=.alloc t:=by exact rfl)(hd1:o1.dst=some d:=by exact rfl)(ho2:o2.op=.store t (.tmp d) y:=by exact rfl)(hd2:o2.dst=none:=by exact rfl)(hy:opA (up env d .any) y=.agg cs:=by exact rfl)(hda:Yn cs=true:=by exact rfl)(hcp:cs.all Yt=true:=by exact rfl)(hkc:Yf (.agg cs)=true:=by exact rfl)(hcc:Q9 (.agg cs)=cs:=by exact rfl)
  (hg1:Qp all o1 env true:=by exact rfl)(hg2:Qp all o2 (up env d .any) true:=by exact rfl)(hN:Nat.blt d N=true:=by exact rfl):WO P h0 N all (o1::o2::l) env H Q:=by
 intro rd fr B σ a w r hrd;obtain⟨zl,h2,h3⟩:=(hv B σ w).cells hk;rw[hzs]at h3
 let w1:World:=w.alloc (.cells zl.toArray t)
 have O:(execOp a.eval o1).run P w=.ok (.value (.pointer (some ⟨w.heap.size,0,none⟩))) w1:=by
  generalize a.eval=ρ at*;have e:(newVar t z).run P w=.ok ⟨w.heap.size,0,none⟩ (w.alloc (.cells zl.toArray t)):=by
   unfold newVar;rw[h2];rfl
  simp only[execOp,ho1,Instr.alloc,Vr,hz,Result.andThen,e];rfl
 refine Qab (YI hg1 r) O ?_;simp only[hd1,Act.put];have ab:d<N:=by simpa[Nat.blt_eq]using hN
 have J:d<a.tmps.size:=by rw[r.size];exact ab
 let a1:Act:={a with tmps:=a.tmps.setIfInBounds d (.pointer (some ⟨w.heap.size,0,none⟩))}
 have p:∀b,b<w.heap.size->w1.heap[b]?=w.heap[b]? :=λb W=>Yv _ _ b W;have E:w.heap.size<=w1.heap.size:=by show _<=(w.alloc _).heap.size;rw[Yu];omega
 have h:Qh fr B w B w1:=Qh.alloc _ r.sim.roLt r.sim.frLt;have r1:Rel fr B σ H (up env d .any) N a1 w1:=⟨r.sim.grown p E,VR.up (fr:=fr) (λs=>(r.env s).mono (h.ext0 σ)) J trivial,by simpa[a1]using r.size,r.defers.keep h⟩;have Y:=Qg r1 y;rw[hy]at Y;obtain⟨m,h4,M⟩:=Y.cells hkc;rw[hcc]at M;have u:w1.heap[w.heap.size]?=some (.cells zl.toArray t (0,0)):=Yg _ _;have X:zl.length=n:=by rw[h3.length,hzn]
 have L:m.length=n:=by rw[M.length,hn]
 have T:=Q3 (P:=P) (vs:=m) 0 0 u (by omega) (M.plain hcp);have aa:splice zl (0+0) m=m:=by
  unfold splice;simp[X,L]
 rw[aa]at T
 let w2:World:={w1 with heap:=w1.heap.setIfInBounds w.heap.size (.cells m.toArray t (0,0))}
 have he:a1.eval (.tmp d)=.pointer (some ⟨w.heap.size,0,none⟩):=by
  show(a.tmps.setIfInBounds d _).getD d undef=_;rw[Qix J,Vx rfl]
 have R:(execOp a1.eval o2).run P w1=.ok .skip w2:=by
  have ac:(storeVar t ⟨w.heap.size,0,none⟩ (a1.eval y)).run P w1=.ok () w2:=by
   unfold storeVar;rw[Vr,hs];simp only[Result.andThen];rw[Vw (by simp[h4,L]),h4];simpa using T
  generalize a1.eval=ρ at*;simp only[execOp,ho2,he,Instr.storeAt,Instr.sureAddr,pure_bind,Vr,ac];rfl
 refine Qh2 (YI hg2 r1) R ?_;simp only[hd2,Act.put];have f:∀b,b<w.heap.size->w2.heap[b]?=w.heap[b]? :=λb W=>by
  show(w1.heap.setIfInBounds w.heap.size _)[b]?=_;rw[Array.getElem?_setIfInBounds_ne (by omega)];exact p b W
 have F:w2.heap.size=w1.heap.size:=by simp[w2]
 have G:w.heap.size<w1.heap.size:=(Vg.1 u).1;have V:w.heap.size<=w2.heap.size:=by rw[F];exact E
 have j:w2.heap[w.heap.size]?=some (.cells m.toArray t (0,0)):=by
  show(w1.heap.setIfInBounds w.heap.size _)[w.heap.size]?=_;rw[Array.getElem?_setIfInBounds_self_of_lt G]
 have s1:=r.sim.grown f V;have s2:=s1.addRo (b:=w.heap.size) (by rw[F];exact G) (λq=>Nat.lt_irrefl _ (r.sim.frLt _ q)) (λi x p1 p2 p3=>Nat.lt_irrefl _ (r.sim.own i _ x p1 p2 p3).1)
  (λi d x p1 p2 p3=>Nat.lt_irrefl _ (r.sim.hid i d x _ p1 p2 (r.sim.hidKeep p1 p2 (λz=>f d (r.sim.own i d x p1 p2 z).1) (λb q=>f b (r.sim.roLt b q)) p3)).lt)
 have ev:Qh fr B w (λc=>B c\/c=w.heap.size) w2:=by
  refine⟨λb q=>.inl q,λb q=>f b (r.sim.roLt b q),λb q=>f b (r.sim.frLt b q),V,?_,h.os,h.tape,h.output,h.drawn⟩;intro b x g;have W:b<w.heap.size:=by
   unfold World.shape? at g;cases q:w.heap[b]? with
   |none=>rw[q]at g;simp at g
   |some _=>exact(Vg.1 q).1
  unfold World.shape? at g⊢;rw[f b W];exact g
 have ae:VR (λc=>B c\/c=w.heap.size) σ w2 (.rp cs) (.pointer (some ⟨w.heap.size,0,none⟩)):=by
  refine⟨w.heap.size,0,rfl,.inr rfl,?_⟩;refine QhZ (pre:=[]) (by simpa using j) ?_ (M.plain hcp);have h6:LR B [] w1 cs m:=LR.data hda M;refine h6.mono ⟨λ_ q=>.inl q,λb q=>?_,λb x g=>?_,λ_ _ q=>q⟩
  .show(w1.heap.setIfInBounds w.heap.size _)[b]?=_;have:=r.sim.roLt b q;rw[Array.getElem?_setIfInBounds_ne (by omega)]
  .by_cases e:b=w.heap.size
   .subst e;unfold World.shape? at g⊢;rw[u]at g;rw[j];simp at g⊢;rw[X]at g;rw[L];exact g
   .unfold World.shape? at g⊢;rw[show w2.heap[b]?=w1.heap[b]? from Array.getElem?_setIfInBounds_ne (Ne.symm e)];exact g
 have r2:Rel fr (λc=>B c\/c=w.heap.size) σ H (up env d (.rp cs)) N a1 w2:=
  ⟨s2,VR.up (fr:=fr) (λs=>(r.env s).mono (ev.ext0 σ)) J ae,by simpa[a1]using r.size,r.defers.keep ev⟩
 exact Yk (λe a w q=>q.step ev rfl) _ _ _ (k rd fr _ σ a1 w2 r2 (hrd.to ev λ_ q=>q))
end
end Go.Sw
namespace Go.Sw
section
variable {P:Program} {o:Oper} {env:Env} {H:Qd}
theorem Qde{t e:TypeId}{p:Option Addr}{w:World}(a:∀w,(underlying t).run P w=.ok (.pointer e) w):(Op.equal t (.pointer p) (.pointer none)).run P w=.ok p.isNone w:=by
 have k:∀d,(Op.equalIn (d+1) t (.pointer p) (.pointer none)).run P w=.ok p.isNone w:=by
  intro d;cases p<;>simp[Op.equalIn,a,go_sem]
 exact k 9999
theorem Qje{t e u:TypeId}{x:Operand}{i off:Nat}(f:∀w,(underlying t).run P w=.ok (.pointer e) w)(h:opA env x=.ptr i off)(g:o.op=.binOp .eql t x (.const (.pointer none)) u:=by exact rfl):OpV P o env H (.bool false):=by
 intro n l σ N a w r;have d:=Qg r x;rw[h]at d;obtain⟨b,m,k⟩:=d;have j:a.eval (.const (.pointer none))=.pointer none:=rfl;refine⟨_,?_,rfl⟩;generalize a.eval=ρ at*;simp[execOp,g,k,j,Go.binOp,eqGuard,Qde f,go_sem]
theorem Qjf{t e u:TypeId}{x:Operand}(d:∀w,(underlying t).run P w=.ok (.pointer e) w)(g:opA env x=.nilp)(f:o.op=.binOp .eql t x (.const (.pointer none)) u:=by exact rfl):OpV P o env H (.bool true):=by
 intro k j σ N a w r;have b:=Qg r x;rw[g]at b;have h:a.eval (.const (.pointer none))=.pointer none:=rfl;have i:a.eval x=.pointer none:=b;refine⟨_,?_,rfl⟩;generalize a.eval=ρ at*;simp[execOp,f,i,h,Go.binOp,eqGuard,Qde d,go_sem]
end
end Go.Sw
namespace Go.Sw
section
variable {P:Program} {o:Oper} {env:Env} {H:Qd} {α:Type}
def Qhr(l:List α)(lo hi i:Int):Option α:=bif decide (0<=lo)&&(decide (0<=i)&&decide (lo+i<hi))then idx l (lo+i)else none
theorem QkQ{l:List α}{lo hi i:Int}{v:α}(h:Qhr l lo hi i=some v):0<=lo/\0<=i/\lo+i<hi/\idx l (lo+i)=some v:=by
 unfold Qhr at h;cases q:decide (0<=lo)&&(decide (0<=i)&&decide (lo+i<hi))with
 |false=>rw[q]at h;cases h
 |true=>
  rw[q]at h;rw[X0,X0,Vv,Vv,Vv]at q;exact⟨q.1,q.2.1,q.2.2,h⟩
theorem Qhq{l:List α}{lo hi i:Int}{v:α}(h:Qhr l lo hi i=some v):idx l (lo+i)=some v:=(QkQ h).2.2.2
theorem QfS{t et k b:Nat}{x y:Operand}{l:List α}{a:IntKind}{lo hi i:Int}{v:α}(h:Qhr l lo hi i=some v)(d:∀w,(underlying t).run P w=.ok (.slice et) w)(j:∀w,(sizeOf et).run P w=.ok k w)
  (f:o.op=.indexAddr t x y:=by exact rfl)(hx:opA env x=.osl b (0+lo.toNat) (hi.toNat-lo.toNat) k:=by exact rfl)(hy:opA env y=.int a i:=by exact rfl):OpV P o env H (.ptr b ((lo+i).toNat*k)):=by
 obtain⟨n,g,p,_⟩:=QkQ h;have m:=QhP (H:=H) f d j hx hy g (by omega);have e:(0+lo.toNat)*k+i.toNat*k=(lo+i).toNat*k:=by
  rw[<- XD];congr 1;omega
 rwa [e]at m
end
end Go.Sw
namespace Go.Sw
section
variable {P:Program} {o:Oper} {env:Env} {H:Qd}
theorem QcR{β:Type}{t et n:Nat}{x y:Operand}{L:List β}{f:β->A}{rest cs:List A}{i:Int}{l:β}{G:IntKind}(h:idx L i=some l)(z:cs=L.map f++rest)(hn:L.length=n)(V:∀w,(underlying t).run P w=.ok (.array n et) w)(R:∀w,(sizeOf et).run P w=.ok 1 w)(p:Nat.ble 2 n=true)
  (O:o.op=.indexAddr t x y:=by exact rfl)(hx:opA env x=.rp cs:=by exact rfl)(hy:opA env y=.int G i:=by exact rfl):OpV P o env H (.rp [f l]):=by
 intro Y ro σ N a w r;have m:=Qg r x;rw[hx]at m;obtain⟨k,b,m,u,B⟩:=m;have J:=Qg r y;rw[hy]at J;have F:a.eval y=.int G i:=J;obtain⟨i0,d⟩:=Qas h;have s:i.toNat<L.length:=(XP.1 d).1;have Q:2<=n:=XV p;have T:i=(i.toNat:Int):=by omega
 generalize i.toNat=j at*;subst T;have E:j<n:=by omega
 refine⟨.pointer (some ⟨k,b+j*1,none⟩),?_,k,b+j*1,rfl,u,?_⟩
 .have X:0<=(j:Int)/\(j:Int)<(n:Int):=by omega
  have g:(⟨k,b,none⟩:Addr).add ((j:Int).toNat*1)=⟨k,b+j*1,none⟩:=by
   unfold Addr.add;split
   .rename_i q;simp at q;simp[q]
   .simp
  generalize a.eval=ρ at*;simp[execOp,O,m,F,Instr.indexAt,asIntOf,V,R,Instr.sureAddr,X,g,go_sem,Result.andThen,E]
 .have M:=CR.take 1 (CR.drop j B);have e:(cs.drop j).take 1=[f l]:=by
   rw[z,Vc (by rw[X6];omega), <- List.map_drop];have:L.drop j=l::L.drop (j+1):=by
    have W:=Xr s;rw[W,(XP.1 d).2]
   rw[this];rfl
  rw[e]at M;rw[Nat.mul_one];exact M
end
end Go.Sw
namespace Go.Sw
section
variable {env:Env} {H:Qd}
theorem Qmk{h0 i j m o' n k T:Nat}{x:Blk}{cs:List A}(hi:H[i]?=some x)(u:H[j]?=some (.cells T cs))(s:cs[m]?=some (.osl i o' n k))(f:Nat.beq i j=false)(R:Nat.ble h0 H.length=true):
  Le h0 env H env ((H.set i .dead).set j (.cells T (cs.set m (.osl H.length o' n k)))++[x]):=by
 intro Y z σ N a w r;have hiσ:i<σ.length:=by rw[r.sim.len];exact(XP.1 hi).1
 have hσ:σ[i]?=some σ[i]:=XO hiσ;have ext:Ext z σ w z (σ++[σ[i]]) w:=⟨λ_ q=>q,λ_ _=>rfl,λ_ _ q=>q,λ_ _ h=>YM h⟩;have O:=r.sim.moved hi hσ;have e:j<H.length:=(XP.1 u).1;have F:i≠j:=λq=>by rw[q,VJ]at f;cases f
 have d:(H.set i .dead++[x])[j]?=some (.cells T cs):=by
  rw[XQ (by simpa using e),XT F];exact u
 have M:(H.set i .dead).set j (.cells T (cs.set m (.osl H.length o' n k)))++[x]=(H.set i .dead++[x]).set j (.cells T (cs.set m (.osl H.length o' n k))):=by
  rw[List.set_append_left _ _ (by simpa using e)]
 rw[M];refine⟨z,σ++[σ[i]],⟨O.weaken d rfl ?_,λq=>(r.env q).mono ext,r.size,r.defers⟩,λ_ q=>q,Qt (by rw[r.sim.len];exact XV R)⟩;have g:σ.length=H.length:=r.sim.len;intro y h;cases y with
 |none=>exact h
 |some b=>
  obtain⟨l,P,V,G⟩:=h;refine⟨l,P,?_,G⟩;clear P G d M u O
  induction cs generalizing m l with
  |nil=>cases s
  |cons c cs X=>
   obtain⟨v,E,rfl,J,Q⟩:=V;cases m with
   |zero=>
    simp at s;subst s;refine⟨v,E,rfl,?_,Q⟩;rcases J with h|⟨b,p,B,t,m,L,W⟩
    .exact .inl h
    .refine .inr ⟨b,p,B,t,m,?_,W⟩;rw[XQ hiσ,hσ]at L;rw[<- g];simpa using L
   |succ m=>exact⟨v,E,rfl,J,X (by simpa using s) E Q⟩
def Qe9{β γ:Type}(o:Option β)(n:Option γ)(s:β->Option γ):Option γ:=match o with
 |none=>n
 |some v=>s v
theorem Qm7{β γ:Type}{o:Option β}{n:Option γ}{s:β->Option γ}{r:γ}(h:Qe9 o n s=some r):(o=none/\n=some r)\/ ∃v,o=some v/\s v=some r:=by
 cases o with
 |none=>exact .inl ⟨rfl,h⟩
 |some v=>exact .inr ⟨v,rfl,h⟩
theorem QhR{P:Program}{o:Oper}{H':Qd}{T:Nat}{x y zz:Operand}(f:o.op=.insert T x y zz)(h:OpU P {o with op:=.mapUpdate T x y zz} env H H'):OpU P o env H H':=by
 intro j d σ N a w r;obtain⟨e,b,τ,i,g,k⟩:=h j d σ N a w r;exact⟨e,b,τ,by simpa only[execOp,f]using i,g,k⟩
end
section
variable {P:Program} {o:Oper} {env:Env} {H:Qd} {T kt et:Nat} {α β:Type} [DecidableEq α] {ek:α->A} {ev:β->A} {x y:Operand} {i:Nat} {l:List (α×β)} {k:α} {z:Value} {zA:A}
theorem Ql7{v:β}(K:Y3 P kt ek)(d:Ye l k=some v)(L:P.underlying T=some (.map kt et))
  (t:o.op=.lookup T x y true:=by exact rfl)(hx:opA env x=.map i:=by exact rfl)(hH:H[i]?=some (.map (Qj ek ev l)):=by exact rfl)(hy:opA env y=ek k:=by exact rfl):OpV P o env H (.tup [ev v,.bool true]):=by
 intro R V σ N a w r;have n:=Qg r x;rw[hx]at n;obtain⟨b,E,Q⟩:=n;have s:=Qg r y;rw[hy]at s;have G:=VR.val (K.scl _) s;obtain⟨z,g,O,p,Y,p4,u⟩:=r.sim.blk i _ _ E hH;obtain⟨B,J⟩:=ER.find K p k u;rcases K.find w k z.toList (QaV K p)with⟨h,f⟩|⟨j,e,h,f,F⟩
 .rw[(B f).1]at d;cases d
 .obtain⟨X,W,m,M⟩:=J j e f F;rw[d]at m;cases m;refine⟨.tuple #[e.val,.bool true],?_,[e.val,.bool true],rfl,e.val,_,rfl,M.mono ⟨λ_ q=>q,λ_ _=>rfl,λ_ _ q=>q,λj c q=>by simp at q⟩,_,_,rfl,rfl,rfl⟩;have:(Instr.lookup T (.map (some b)) (QL (ek k)) true).run P w=.ok (.tuple #[e.val,.bool true]) w:=by
   simp only[Instr.lookup,Vr,run_underlying L,Result.andThen,MapKept.run_getObj_map O,Vs,K.check,h,if_true]
  simp only[execOp,t,Q,G,Vr,this,Result.andThen];rfl
theorem Ql8(K:Y3 P kt ek)(E:Ye l k=none)(M:P.underlying T=some (.map kt et))(t:∀w,(zeroValue et).run P w=.ok z w)(d:ZR zA z)
  (s:o.op=.lookup T x y true:=by exact rfl)(hx:opA env x=.map i:=by exact rfl)(hH:H[i]?=some (.map (Qj ek ev l)):=by exact rfl)(hy:opA env y=ek k:=by exact rfl):OpV P o env H (.tup [zA,.bool false]):=by
 intro R V σ N a w r;have n:=Qg r x;rw[hx]at n;obtain⟨b,F,Q⟩:=n;have q:=Qg r y;rw[hy]at q;have J:=VR.val (K.scl _) q;obtain⟨B,f,O,p,p3,p4,u⟩:=r.sim.blk i _ _ F hH;obtain⟨X,L⟩:=ER.find K p k u;rcases K.find w k B.toList (QaV K p)with⟨h,g⟩|⟨j,e,h,g,G⟩
 .refine⟨.tuple #[z,.bool false],?_,[z,.bool false],rfl,z,_,rfl,d _ _ _,_,_,rfl,rfl,rfl⟩;have:(Instr.lookup T (.map (some b)) (QL (ek k)) true).run P w=.ok (.tuple #[z,.bool false]) w:=by
   simp only[Instr.lookup,Vr,run_underlying M,Result.andThen,MapKept.run_getObj_map O,Vs,K.check,h,t,if_true]
  simp only[execOp,s,Q,J,Vr,this,Result.andThen];rfl
 .obtain⟨Y,W,m,u3⟩:=L j e g G;rw[E]at m;cases m
end
abbrev Ea:=@Ev.bind
abbrev Ec:=@FzH.keep
abbrev Ed:=@FzL.cons
abbrev Ee:=@FzA.refl
abbrev Ef:=@TC.le
abbrev Eg:=@PL.cons
abbrev Eh:=@DS.done
abbrev Ei:=@Ev.and
abbrev Ej:=@EvI.done
abbrev Ek:=@FzL.refl
abbrev El:=@OpH.lit
abbrev Em:=@RF.cons
abbrev En:=@Le.trans
abbrev Eo:=@ZR.int
abbrev Ep:=@FzA.o
abbrev Er:=@Le.phantom
abbrev Et:=@WO.le
abbrev Eu:=@Ev.or
abbrev Ew:=@Ev.eq
abbrev Ex:=@EvI.cont
abbrev Ey:=@DK.op
abbrev Ez:=@OpU.store
abbrev EA:=@OpV.load
abbrev EB:=@Ev.const
theorem Zf.{u,v}{α:Sort u}{β:Sort v}{f:α->β}:∀x,f x=f x:=λ_=>rfl
abbrev Ze.{u,v}{α:Sort u}{β:Type v}:α->List β:=λ_=>[]
end Go.Sw
