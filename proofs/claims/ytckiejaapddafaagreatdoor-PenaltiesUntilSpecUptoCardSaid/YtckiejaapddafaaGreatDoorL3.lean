/- The rules by which the code is walked, with what they rest on (part 3). -/
import Derived.Test.YtckiejaapddafaaGreatDoorL2
import Derived.Laws.BytesString
set_option linter.unusedVariables false
set_option linter.unusedSectionVars false
set_option linter.unusedSimpArgs false
namespace Go.Sw
def QbW:Option Blk->Bool
 |some .dead=>true
 |_=>false
def Qar(hB hE:Nat)(H H':Qc):Bool:=(List.range (hE-hB)).all λp=> !QbW H'[hB+p]? ||QbW H[hB+p]?
def Qhv(hB hE:Nat)(σ:Sig)(H:Qc):Prop:=∀p,hB<=p->p<hE->QbW H[p]?=true->σ[p]?=some none
theorem QhH{hB hE:Nat}{H H':Qc}(h:Qar hB hE H H'=true){p:Nat}(d:hB<=p)(b:p<hE)(a:QbW H'[p]?=true):QbW H[p]?=true:=by
 have:=Xq.1 h (p-hB) (List.mem_range.2 (by omega));rw[show hB+(p-hB)=p by omega,a]at this;simpa using this
theorem Sim.allocAt{fr ro:Nat->Prop}{σ:Sig}{H:Qc}{w:World}(s:Sim fr ro σ H w){p:Nat}(G:σ[p]?=some none){obj:Obj}{x:Blk}
  (N:BR ro (σ.set p (some w.heap.size)) (w.alloc obj) x (some w.heap.size))
  (F:∀c,Hid (w.alloc obj) x w.heap.size c->False:=by exact λ_ h=>h.elim):Sim fr ro (σ.set p (some w.heap.size)) (H.set p x) (w.alloc obj):=by
 have ev:Qg fr ro w ro (w.alloc obj):=Qg.alloc obj s.roLt s.frLt;have u:=s.len;have E:p<σ.length:=(XJ.1 G).1;have t:Ext ro σ w ro (σ.set p (some w.heap.size)) (w.alloc obj):=⟨ev.sub,ev.keepRo,ev.shape,λi b q=>by
  rw[XN (λz=>by subst z;rw[G]at q;cases q)];exact q⟩
 have e:∀(i:Nat) (y:Option Nat),(σ.set p (some w.heap.size))[i]?=some y->(i≠p/\σ[i]?=some y)\/(i=p/\y=some w.heap.size):=by
  intro i y h;by_cases q:i=p
  .subst q;rw[Xa E]at h;exact .inr ⟨rfl,(XV h).symm⟩
  .rw[XN (λz=>q z.symm)]at h;exact .inl ⟨q,h⟩
 have m:∀i:Nat,i≠p->(H.set p x)[i]?=H[i]? :=λi O=>XN (λz=>O z.symm);have L:(H.set p x)[p]?=some x:=Xa (by omega);refine⟨by simp[u],s.roOk.to (λ_ q=>q) ev.keepRo (λb h=>?_),λb h=>?_,s.roFr,?_,?_,?_,s.hidTo (· = ·) QP (by rw[Yc];omega) (λ_ _ _ _ _ _ _ q=>q) (λ_ _ _ _ _ _ _ q=>q) λj d y l k Q=>?_⟩
 rotate_left 5
 .rcases e j _ l with⟨q,l⟩|⟨rfl,n⟩
  .rw[m j q]at k;exact .inl ⟨j,y,rfl,l,k,id,λc q=>s.hidKeep l k (λz=>Yd w obj d (s.own j d y l k z).1) ev.keepRo q⟩
  .rw[L]at k;cases k;cases n;exact .inr ⟨XR _,F⟩
 .rw[Yc];have:=s.roLt b h;omega
 .rw[Yc];have:=s.frLt b h;omega
 .intro i b y g f r;rw[Yc];rcases e i _ g with⟨q,g⟩|⟨rfl,n⟩
  .rw[m i q]at f;obtain⟨a,b,c⟩:=s.own i b y g f r;exact⟨by omega,b,c⟩
  .cases n;exact⟨by omega,λq=>by have:=s.roLt _ q;omega,λq=>by have:=s.frLt _ q;omega⟩
 .intro i j b y z g f r B M J;rcases e i _ g with⟨q,l⟩|⟨P,n⟩<;>rcases e j _ f with⟨q',k⟩|⟨ej,e2⟩
  .rw[m i q]at r;rw[m j q']at B;exact s.inj i j b y z l k r B M J
  .cases e2;rw[m i q]at r;have:=(s.own i _ y l r M).1;omega
  .cases n;rw[m j q']at B;have:=(s.own j _ z k B J).1;omega
  .rw[P,ej]
 .intro i y z g f;rcases e i _ g with⟨q,g⟩|⟨rfl,n⟩
  .rw[m i q]at f;refine(s.blk i y z g f).keep t ?_ ?_
   .rintro b rfl u;exact Yd w obj b (s.own i b z g f u).1
   .rintro b c rfl u;exact Yd w obj c (s.hid i b z c g f u).lt
  .rw[L]at f;cases f;subst n;exact N
def OpZ(P:Program)(o:Oper)(t:Nat)(cs:List A):Prop:=
 ∀(ro:Nat->Prop) (σ:Sig) (w:World) (a:Act),∃l:List Value,(execOp a.eval o).run P w=.ok (.value (.pointer (some ⟨w.heap.size,0,none⟩))) (w.alloc (.cells l.toArray t))/\LR ro σ w cs l/\ ∀v∈l,Qn v
theorem OpZ.alloc{P:Program}{o:Oper}{t:Nat}{z:Value}{v:A}{cs:List A}(h:∀w,(zeroValue t).run P w=.ok z w)(g:ZR v z)(i:o.op=.alloc t:=by exact rfl)(hk:Q0 v=true:=by exact rfl)(hcs:QX v=cs:=by exact rfl)(hpl:cs.all Yb=true:=by exact rfl):
  OpZ P o t cs:=by
 intro f σ w a;obtain⟨l,d,b⟩:=(g f σ w).cells hk;subst hcs;refine⟨l,?_,b,b.plain hpl⟩;generalize a.eval=ρ at*;have e:(newVar t z).run P w=.ok ⟨w.heap.size,0,none⟩ (w.alloc (.cells l.toArray t)):=by
  unfold newVar;rw[d];rfl
 simp only[execOp,i,Instr.alloc,Vi,h,Result.andThen,e];rfl
theorem Qb8{P:Program}{l:List Oper}{i:Nat}{o:Oper}{rd:Option Nat}{R:Exit->Act->World->Prop}{Q:Exit->Act->World->Prop}{K:Act->World->Prop}{a:Act}{w:World}
  (B:l[i]?=some o)(g:wpL P rd l.toArray R [o] a w)(j:∀e a' w',R e a' w'->e=.normal/\a'.defers=a.defers)(k:∀v w',R .normal (a.put o.dst v) w'->K (a.put o.dst v) w'):
  wpOpIn (WF rd) 0 P l.toArray Q i K a w:=by
 unfold wpOpIn;have s:l.toArray[i]?=some o:=by simpa using B
 rw[s];simp only;unfold wpL wpListIn at g;split at g
 .rename_i p;rw[Vo p];obtain⟨h,g⟩:=g;refine⟨h,?_⟩;have d:=Qif (by
   intro a' w' q;unfold wpListIn at q;exact(j _ _ _ q).2) g
  generalize(o.semAt (WF rd).round a.eval).run P w=res at*;cases res with
  |ok n w'=>
   cases n with
   |value v=>exact k _ _ d.1
   |skip=>exact k _ _ d.1
   |defer E=>
    exfalso;have:=(j _ _ _ d.1).2;have:=congrArg List.length this
    revert this
    cases o.dst<;>simp[Act.put]
   |enter f m=>
    refine⟨d.1,CallsIn.mono d.2 (λe t b=>?_)⟩;cases e with
    |returned v=>exact k _ _ b.1
    |panicked c=>have:=(j _ _ _ b).1;cases this
    |outgrown=>obtain⟨z,w1,b⟩:=b;have:=(j _ _ _ b).1;cases this
   |row r m=>
    exact⟨d.1,RowsIn.mono d.2 (λ_ _ b=>k _ _ b.1)⟩
   |round l f y assign u=>
    refine⟨d.1,RoundIn.mono d.2 (λe t b=>?_)⟩;cases e with
    |returned v=>exact k _ _ b.1
    |panicked c=>have:=(j _ _ _ b).1;cases this
    |outgrown=>obtain⟨z,w1,b⟩:=b;have:=(j _ _ _ b).1;cases this
   |_=>exact d.elim
  |halt x w'=>
   cases x with
   |panic v=>have:=(j _ _ _ d).1;cases this
   |_=>exact d.elim
 .rename_i p;rw[Vn p];obtain⟨h,g⟩:=g;refine⟨h,?_⟩;unfold wpListIn at g;exact k _ _ g
theorem QhG{P:Program}{l:List Oper}{m:Nat}(p:∀i o,l[i]?=some o->∀j∈Qi o,j<i)(k:∀i o,m<i->l[i]?=some o->i-1∈Qi o){Q:Exit->Act->World->Prop}{rd:Option Nat}:
  ∀(b t:Nat) (L:Array Bool) (a:Act) (w:World),L.size=l.length->(∀i,i<l.length->(onL L i↔i<t))->unl L<=b->m<=t->t<=l.length->
   wpL P rd l.toArray Q (l.drop t) a w->wpAnyIn (WF rd) 0 P .any l.toArray Q b L a w:=by
 intro b
 induction b with
 |zero=>
  intro t L a w hsz hL hf hm ht h;have:t=l.length:=by
   rcases Vu t l.length with q|q
   .have:=Qg2 (L:=L) (i:=t) (by omega) (λz=>by have:=(hL t q).1 z;omega);omega
   .omega
  subst this;refine⟨List.eq_nil_iff_forall_not_mem.2 λi n=>?_,?_⟩
  .obtain⟨o,f,g,_⟩:=(QaG hsz).1 n;have d:=(XJ.1 f).1;exact g ((hL i d).2 d)
  .rw[List.drop_length]at h;exact h
 |succ b G=>
  intro t L a w hsz hL hf hm ht h;have y:∀i o,l[i]?=some o->¬onL L i->(∀j∈Qi o,onL L j)->i=t:=by
   intro i o f g s;have d:=(XJ.1 f).1;have H:t<=i:=by
    rcases Vu i t with q|q
    .exact absurd ((hL i d).2 q) g
    .exact q
   rcases Vu t i with q|q
   .have:=(hL (i-1) (by omega)).1 (s _ (k i o (by omega) f));omega
   .omega
  rcases Vu t l.length with e|e
  .have F:l[t]?=some l[t]:=XI e;have r:¬onL L t:=λq=>by have:=(hL t e).1 q;omega
   have E:t∈Region.ready .any l.toArray L:=by
    refine(QaG hsz).2 ⟨_,F,r,λj x=>?_⟩;have:=p t _ F j x;exact(hL j (by omega)).2 this
   refine⟨λq=>(by rw[q]at E;cases E),λi n=>?_⟩;obtain⟨o,f,g,s⟩:=(QaG hsz).1 n;obtain rfl:=y i o f g s;rw[Xo e]at h;obtain rfl:l[i]=o:=by rw[XI e]at f;exact XV f
   unfold wpOpIn;rw[show l.toArray[i]?=some l[i]by rw[XE];exact f];simp only;unfold wpL wpListIn at h;have B:∀a w,wpL P rd l.toArray Q (l.drop (i+1)) a w->wpAnyIn (WF rd) 0 P .any l.toArray Q b (L.setIfInBounds i true) a w:=by
    intro a w q;have J:=QeS (L:=L) (i:=i) (by omega) r;refine G (i+1) _ a w (by simpa using hsz) (λj x=>?_) (by omega) (by omega) (by omega) q;rw[Y5 (by omega),hL j x];omega
   split at h
   .rename_i u;rw[Vo u];exact Oper.wpIn_mono B h
   .rename_i u;rw[Vn u];exact⟨h.1,B _ _ h.2⟩
  .have:t=l.length:=by omega
   subst this;rw[List.drop_length]at h;refine⟨λ_=>h,λi n=>?_⟩;obtain⟨o,f,g,_⟩:=(QaG hsz).1 n;have d:=(XJ.1 f).1;exact absurd ((hL i d).2 d) g
def Qju(af ds:List Nat)(xs:List A)(env0 e:Env):Prop:=
 ∀s,(∃j x,af.contains j=true/\ds[j]?=some s/\xs[j]?=some x/\lk e s=x)\/lk e s=.any\/(ds.contains s=false/\lk e s=lk env0 s)
inductive Ja (P:Program) (N:Nat) (l:List Oper) (ds:List Nat) (xs:List A) (env0:Env) (hB hE:Nat) (i:Nat) (H H':Qc):Prop
 |mk (o:Oper) (e:Env) (d:Nat) (x:A) (ho:l[i]?=some o) (hd:o.dst=some d) (hx:xs[i]?=some x) (hdd:Qar hB hE H H'=true) (hs:Sb (Qi o) (QgF l i) ds xs env0 e)
   (h:WO P H.length N l.toArray [o] e H (YJ (up e d x) H')):Ja P N l ds xs env0 hB hE i H H'
 |unit (o:Oper) (e:Env) (ho:l[i]?=some o) (hd:o.dst=none) (hx:xs[i]?=some .any) (hdd:Qar hB hE H H'=true) (hs:Sb (Qi o) (QgF l i) ds xs env0 e)
   (h:WO P H.length N l.toArray [o] e H (YJ e H')):Ja P N l ds xs env0 hB hE i H H'
 |alloc (o:Oper) (d t p:Nat) (cs:List A) (ho:l[i]?=some o) (hd:o.dst=some d) (hg:o.guard=none) (hx:xs[i]?=some (.ptr p 0)) (hp:(Nat.ble hB p&&Nat.blt p hE)=true) (hdead:QbW H[p]?=true)
   (hH:H.set p (.cells t cs)=H') (h:OpZ P o t cs) (hN:Nat.blt d N=true):Ja P N l ds xs env0 hB hE i H H'
 |val (o:Oper) (e:Env) (d:Nat) (x:A) (ho:l[i]?=some o) (hd:o.dst=some d) (hg:o.guard=none) (hx:xs[i]?=some x) (hN:Nat.blt d N=true) (he:Qju (Qi o) ds xs env0 e) (h:OpV P o e H x)
   (hH:H=H':=by rfl):Ja P N l ds xs env0 hB hE i H H'
 |woE (o:Oper) (e:Env) (d:Nat) (x:A) (ho:l[i]?=some o) (hd:o.dst=some d) (hx:xs[i]?=some x) (he:Qju (Qi o) ds xs env0 e) (hdd:Qar hB hE H H'=true) (h:WO P H.length N l.toArray [o] e H (YJ (up e d x) H')):Ja P N l ds xs env0 hB hE i H H'
theorem Sb.rel{af f d:List Nat}{xs:List A}{env0 e:Env}{ro:Nat->Prop}{σ:Sig}{w:World}{a:Act}(h:Sb af f d xs env0 e)
  (g:∀j∈af,∀s x,d[j]?=some s->xs[j]?=some x->VR ro σ w x (a.tmps.getD s undef))
  (i:∀s,d.contains s=false->VR ro σ w (lk env0 s) (a.tmps.getD s undef))(k:∀j s,f.contains j=true->d[j]?=some s->VR ro σ w (lk env0 s) (a.tmps.getD s undef)):
  ∀s,VR ro σ w (lk e s) (a.tmps.getD s undef):=by
 intro s
 induction h with
 |nil=>exact trivial
 | @dep j s1 x1 r h1 h2 h3 _ ih=>
  unfold lk;cases b:Nat.beq s s1 with
  |false=>exact ih
  |true=>
   obtain rfl:=XO b;exact g j (by simpa using h1) _ _ h2 h3
 | @old s1 x1 r h1 h2 _ ih=>
  unfold lk;cases b:Nat.beq s s1 with
  |false=>exact ih
  |true=>
   obtain rfl:=XO b;subst h2;exact i _ h1
 | @pre j s1 x1 r h1 h2 h3 _ ih=>
  unfold lk;cases b:Nat.beq s s1 with
  |false=>exact ih
  |true=>
   obtain rfl:=XO b;subst h3;exact k j _ h1 h2
structure After (fr ro:Nat->Prop) (σ:Sig) (w:World) (hB hE:Nat) (H':Qc) (xs:List A) (i:Nat) (o:Oper) (a':Act) (w':World) (ro':Nat->Prop) (σ':Sig):Prop where
 val:∀x,xs[i]?=some x->match o.dst with
  |some d=>VR ro' σ' w' x (a'.tmps.getD d undef)
  |none=>x=.any
 sim:Sim fr ro' σ' H' w'
 ev:Qg fr ro w ro' w'
 ext:Ext ro σ w ro' σ' w'
 holes:Qhv hB hE σ' H'
 take:σ'.take hB=σ.take hB
theorem Ja.use{P:Program}{N:Nat}{l:List Oper}{ds:List Nat}{xs:List A}{env0:Env}{hB hE i:Nat}{H H':Qc}(hb:Ja P N l ds xs env0 hB hE i H H')
  {Q:Exit->Act->World->Prop}{K:Act->World->Prop}{fr ro:Nat->Prop}{σ:Sig}{a:Act}{w:World}{o:Oper}{rd:Option Nat}(O:l[i]?=some o)
  (f:Sim fr ro σ H w)(hN:a.tmps.size=N)(n:Qcm fr a.defers w)(Y:Qc7 rd fr w)(hh:Qhv hB hE σ H)(hl:hE<=H.length)(aj:hB<=hE)
  (hD:∀j∈Qi o,∀s x,ds[j]?=some s->xs[j]?=some x->VR ro σ w x (a.tmps.getD s undef))
  (hO:∀s,ds.contains s=false->VR ro σ w (lk env0 s) (a.tmps.getD s undef))(hP:∀j s,(QgF l i).contains j=true->ds[j]?=some s->VR ro σ w (lk env0 s) (a.tmps.getD s undef))
  (hK:∀v w' ro' σ',After fr ro σ w hB hE H' xs i o (a.put o.dst v) w' ro' σ'->K (a.put o.dst v) w'):
  wpOpIn (WF rd) 0 P l.toArray Q i K a w:=by
 have J:∀{e:Env} {H2:Qc} {E:Exit} {r:Act} {w':World},Qbx H.length fr ro σ w N a.defers (YJ e H2) E r w'->E=.normal/\r.defers=a.defers:=by
  rintro e H2 E r w' ⟨x,_,_,_,_,_,k,⟨rfl,_⟩,_,_,_,B,_⟩;refine⟨?_,B⟩;cases E<;>first|rfl|exact k.elim|cases k
 have ai:∀{σ':Sig} {w':World},Qg fr ro w ro w'->σ'.take H.length=σ.take H.length->True:=λ_ _=>trivial;have F:∀{e:Env} {r:Act} {w':World},Qbx H.length fr ro σ w N a.defers (YJ e H') .normal r w'->Qar hB hE H H'=true->
   ∃ro' σ',Sim fr ro' σ' H' w'/\Qg fr ro w ro' w'/\Ext ro σ w ro' σ' w'/\Qhv hB hE σ' H'/\σ'.take hB=σ.take hB/\ ∀s,VR ro' σ' w' (lk e s) (r.tmps.getD s undef):=by
  rintro e r w' ⟨_,ah,H2,ro',σ',ak,_,⟨_,rfl,rfl⟩,r',he,ht,_,ag⟩ m;have hσ:σ'=σ++σ'.drop H.length:=by
   conv=>lhs;rw[<- Xy H.length σ']
   rw[ht, <- f.len,X5]
  refine⟨ro',σ',r'.sim.frMono ag.sub,he,?_,?_,?_,r'.env⟩
  .rw[hσ];exact he.ext σ _
  .intro p k B h3;have:=hh p k B (QhH m k B h3);rw[hσ,XK (by rw[f.len];omega)];exact this
  .rw[hσ];exact Qp (by rw[f.len];omega)
 cases hb with
 |woE u e d x g G V he m h=>
  obtain rfl:u=o:=XV (g.symm.trans O);have hr:∀s,VR ro σ w (lk e s) (a.tmps.getD s undef):=λs=>by
   rcases he s with⟨j,x,k,B,h3,L⟩|L|⟨k,L⟩
   .rw[L];exact hD j (by simpa using k) s x B h3
   .rw[L];exact trivial
   .rw[L];exact hO s k
  refine Qb8 O (h rd fr ro σ a w ⟨f,hr,hN,n⟩ Y) (λ_ _ _ q=>J q) (λv w' q=>?_);obtain⟨ro',σ',g1,g2,M,g4,g5,g6⟩:=F q m;refine hK v w' ro' σ' ⟨λy T=>?_,g1,g2,M,g4,g5⟩;obtain rfl:=XV (V.symm.trans T);have:=g6 d;unfold lk at this;rw[Vx]at this;rw[G]at this⊢;exact this
 |mk u e d x g G V m hs h=>
  obtain rfl:u=o:=XV (g.symm.trans O);refine Qb8 O (h rd fr ro σ a w ⟨f,hs.rel hD hO hP,hN,n⟩ Y) (λ_ _ _ q=>J q) (λv w' q=>?_);obtain⟨ro',σ',g1,g2,M,g4,g5,g6⟩:=F q m;refine hK v w' ro' σ' ⟨λy T=>?_,g1,g2,M,g4,g5⟩;obtain rfl:=XV (V.symm.trans T);have:=g6 d;unfold lk at this;rw[Vx]at this;rw[G]at this⊢;exact this
 |unit u e g G V m hs h=>
  obtain rfl:u=o:=XV (g.symm.trans O);refine Qb8 O (h rd fr ro σ a w ⟨f,hs.rel hD hO hP,hN,n⟩ Y) (λ_ _ _ q=>J q) (λv w' q=>?_);obtain⟨ro',σ',g1,g2,M,g4,g5,g6⟩:=F q m;refine hK v w' ro' σ' ⟨λy T=>?_,g1,g2,M,g4,g5⟩;obtain rfl:=XV (V.symm.trans T);rw[G]
 |val u e d x g G hg V X he h hH=>
  obtain rfl:u=o:=XV (g.symm.trans O);subst hH;have hr:Rel fr ro σ H e N a w:=by
   refine⟨f,λs=>?_,hN,n⟩;rcases he s with⟨j,x,k,B,h3,L⟩|L|⟨k,L⟩
   .rw[L];exact hD j (by simpa using k) s x B h3
   .rw[L];exact trivial
   .rw[L];exact hO s k
  obtain⟨v0,k,B⟩:=h fr ro σ N a w hr;have hw:Region.wanted u (yielded l.toArray a.tmps)=true:=by unfold Region.wanted;rw[hg]
  refine Qb8 (R:=λE r w'=>E=.normal/\r.defers=a.defers/\r=a.put u.dst v0/\w'=w) O (Qab hw k ?_) (λ_ _ _ q=>⟨q.1,q.2.1⟩) (λv w' q=>?_)
  .unfold wpL wpListIn;refine⟨rfl,?_,rfl,rfl⟩;rw[G];rfl
  .obtain⟨_,_,q1,rfl⟩:=q;refine hK v _ ro σ ⟨λy T=>?_,f,Qg.refl _ _ _,⟨λ_ q=>q,λ_ _=>rfl,λ_ _ q=>q,λ_ _ q=>q⟩,hh,rfl⟩;obtain rfl:=XV (V.symm.trans T);rw[q1,G];have aa:d<a.tmps.size:=by rw[hN];simpa using X
   show VR ro σ w' x _;simpa[Act.put,Array.getD_eq_getD_getElem?,aa]using B
 |alloc u d t p cs g G hg V hp ab hH h X=>
  obtain rfl:u=o:=XV (g.symm.trans O);subst hH;simp only[XU]at hp;have ae:=XP hp.1;have ac:p<hE:=by simpa using hp.2
  have hσp:=hh p ae ac ab;obtain⟨lv,k,B,h3⟩:=h ro σ w a;have hw:Region.wanted u (yielded l.toArray a.tmps)=true:=by unfold Region.wanted;rw[hg]
  have ev:Qg fr ro w ro (w.alloc (.cells lv.toArray t)):=Qg.alloc _ f.roLt f.frLt;have af:p<σ.length:=by rw[f.len];omega
  have W:Ext ro σ w ro (σ.set p (some w.heap.size)) (w.alloc (.cells lv.toArray t)):=⟨ev.sub,ev.keepRo,ev.shape,λj b q=>by
   rw[XN (λz=>by subst z;rw[hσp]at q;cases q)];exact q⟩
  refine Qb8 (R:=λE r w'=>E=.normal/\r.defers=a.defers/\r=a.put u.dst (.pointer (some ⟨w.heap.size,0,none⟩))/\w'=w.alloc (.cells lv.toArray t)) O (Qab hw k ?_) (λ_ _ _ q=>⟨q.1,q.2.1⟩) (λv w' q=>?_)
  .unfold wpL wpListIn;refine⟨rfl,?_,rfl,rfl⟩;rw[G];rfl
  .obtain⟨_,_,q1,rfl⟩:=q;refine hK v _ ro (σ.set p (some w.heap.size)) ⟨λy T=>?_,f.allocAt hσp ⟨lv,Q1 _ _,B.mono W,h3⟩,ev,W,λp' g1 g2 M=>?_,?_⟩
   .obtain rfl:=XV (V.symm.trans T);rw[q1,G];have aa:d<a.tmps.size:=by rw[hN];simpa using X
    refine⟨w.heap.size,Xa af,?_⟩;simp[Act.put,Array.getD_eq_getD_getElem?,aa]
   .by_cases q:p'=p
    .subst q;rw[Xa (by omega)]at M;cases M
    .rw[XN (λz=>q z.symm)]at M⊢;exact hh p' g1 g2 M
   .rw[List.take_set,List.set_eq_of_length_le];rw[Xw];omega
def same(a b:List Nat):Bool:=a.all (b.contains ·)&&b.all (a.contains ·)
theorem QjF{a b:List Nat}(h:same a b=true)(i:Nat):i∈a↔i∈b:=by
 unfold same at h;simp only[XU,Xq,List.contains_iff_mem]at h;exact⟨h.1 i,h.2 i⟩
structure Qjx (l:List Oper) (m:Nat) (ds:List Nat) (hs:List Bool) (rq ms:List (List Nat)) (pl:List (List (Nat×Nat))) (N:Nat):Prop where
 len:m<=l.length
 dst:∀i o,i<m->l[i]?=some o->(∃d,o.dst=some d/\ds[i]?=some d/\d<N)\/o.dst=none
 dsl:ds.length=m
 nodup:∀(i j d:Nat),ds[i]?=some d->ds[j]?=some d->i=j
 back:∀i o,l[i]?=some o->∀j∈Qi o,j<i
 mid:∀o,l[m]?=some o->∀j,j<m->QbP l m j
 chain:∀i o,m<i->l[i]?=some o->i-1∈Qi o
 rqs:∀i o,i<m->l[i]?=some o->∀h∈rq.getD i [],h<m/\hs.getD h false=true/\(h∈Qi o\/ ∃j∈Qi o,j<m/\h∈rq.getD j [])
 ms0:ms.getD 0 []=[]
 full:∀st,st<ms.length->st+1=ms.length\/ ∃i,i<m/\hs.getD i false=true/\i∉ms.getD st []
 msh:∀st h,h∈ms.getD st []->h<m/\hs.getD h false=true
 pls:∀i st,i<m->st<ms.length->(∀h∈rq.getD i [],h∈ms.getD st [])->(hs.getD i false=true->i∉ms.getD st [])->(∀h∈ms.getD st [],¬QbP l h i)->
  ∃st',(st,st')∈pl.getD i []/\st'<ms.length/\if hs.getD i false then∀j,j∈ms.getD st' []↔j=i\/j∈ms.getD st []else st'=st
theorem Qhf{α:Type}{l:List α}{i:Nat}{d x:α}(h:l[i]?=some x):l.getD i d=x:=by rw[VD,h];rfl
theorem QfX{P:Program}{l:List Oper}{m:Nat}{Y:List Nat}{hs:List Bool}{rq ms:List (List Nat)}{pl:List (List (Nat×Nat))}{N h0 hB hE:Nat}{xs:List A}{env0:Env}{Hs:List Qc}{Hk:Qc}
  (ok:Qjx l m Y hs rq ms pl N)(av:xs.length=m)(ba:Hs.length=ms.length)(a4:h0<=hB)(a2:hB<=hE)(aw:∀H∈Hs,hE<=H.length)
  (ax:∀i p,i<m->p∈pl.getD i []->Ja P N l Y xs env0 hB hE i (Hs.getD p.1 []) (Hs.getD p.2 []))(a9:Hs.getD (ms.length-1) []=Hk)
  {fr ro0:Nat->Prop}{σ0:Sig}{w0:World}{rd:Option Nat}{ds0:List Deferred}{R:Exit->Act->World->Prop}
  (hk:∀ro σ a w,Rel fr ro σ Hk (Qat Y xs env0) N a w->Qg fr ro0 w0 ro w->σ.take h0=σ0.take h0->a.defers=ds0->wpL P rd l.toArray R (l.drop m) a w)(ag:Qcm fr ds0 w0)(ay:Qc7 rd fr w0):
  ∀(f:Nat) (L:Array Bool) (a:Act) (w:World) (ro:Nat->Prop) (σ:Sig) (t:Nat),
   L.size=l.length->unl L<=f->(∀i,m<=i->¬onL L i)->t<ms.length->Sim fr ro σ (Hs.getD t []) w->a.tmps.size=N->a.defers=ds0->
   (∀(i d:Nat) (x:A),onL L i->Y[i]?=some d->xs[i]?=some x->VR ro σ w x (a.tmps.getD d undef))->(∀s,(∀j,Y[j]?=some s->¬onL L j)->VR ro σ w (lk env0 s) (a.tmps.getD s undef))->
   Qg fr ro0 w0 ro w->σ.take h0=σ0.take h0->Qhv hB hE σ (Hs.getD t [])->
   (∀i,i<m->onL L i->∀h∈rq.getD i [],onL L h)->(∀i,i<m->hs.getD i false=true->(onL L i↔i∈ms.getD t []))->
   (∀i o,onL L i->l[i]?=some o->∀j∈Qi o,onL L j)->
   wpAnyIn (WF rd) 0 P .any l.toArray R f L a w:=by
 have a6:∀t,t<ms.length->hE<=(Hs.getD t []).length:=by
  intro t h;have e:Hs[t]?=some Hs[t]:=XI (by omega);rw[Qhf e];exact aw _ (X9 _)
 have fin:∀(f:Nat) (L:Array Bool) (a:Act) (w:World) (ro:Nat->Prop) (σ:Sig) (t:Nat),
   L.size=l.length->unl L<=f->(∀i,m<=i->¬onL L i)->t<ms.length->Sim fr ro σ (Hs.getD t []) w->a.tmps.size=N->a.defers=ds0->
   (∀(i d:Nat) (x:A),onL L i->Y[i]?=some d->xs[i]?=some x->VR ro σ w x (a.tmps.getD d undef))->(∀s,(∀j,Y[j]?=some s->¬onL L j)->VR ro σ w (lk env0 s) (a.tmps.getD s undef))->
   Qg fr ro0 w0 ro w->σ.take h0=σ0.take h0->
   (∀i,i<m->hs.getD i false=true->(onL L i↔i∈ms.getD t []))->(∀i,i<m->onL L i)->
   wpAnyIn (WF rd) 0 P .any l.toArray R f L a w:=by
  intro f L a w ro σ t hsz hu hsuf hst hsim hN hdef hD hE' hev htk hI2 k;have aj:t=ms.length-1:=by
   rcases ok.full t hst with q|⟨i,O,h2,h3⟩
   .omega
   .exact absurd ((hI2 i O h2).1 (k i O)) h3
  rw[aj,a9]at hsim;refine QhG ok.back ok.chain f m L a w hsz (λi hi=>⟨λq=>?_,λq=>k i q⟩) hu (XR _) ok.len ?_
  .rcases Vu i m with z|z
   .exact z
   .exact absurd q (hsuf i z)
  .have hr:Rel fr ro σ Hk (Qat Y xs env0) N a w:=by
    refine⟨hsim,λs=>?_,hN,by rw[hdef];exact ag.keep hev⟩;rcases QjK (env0:=env0) (by rw[ok.dsl,av]) s with⟨j,x,O,h2,h3⟩|⟨O,h2⟩
    .rw[h3];have b:j<m:=by have:=(XJ.1 O).1;rw[ok.dsl]at this;exact this
     exact hD j s x (k j b) O h2
    .rw[h2];exact hE' s (λj q=>absurd (Vz q) (by simpa using O))
   exact hk ro σ a w hr hev htk hdef
 intro f
 induction f with
 |zero=>
  intro L a w ro σ t hsz hu hsuf hst hsim hN hdef hD hE' hev htk hho hI1 hI2 hcl;refine fin 0 L a w ro σ t hsz hu hsuf hst hsim hN hdef hD hE' hev htk hI2 (λi hi=>?_);by_cases q:onL L i
  .exact q
  .have:=Qg2 (L:=L) (i:=i) (by have:=ok.len;omega) q;omega
 |succ f ih=>
  intro L a w ro σ t hsz hu hsuf hst hsim hN hdef hD hE' hev htk hho hI1 hI2 hcl;by_cases k:∀i,i<m->onL L i
  .exact fin (f+1) L a w ro σ t hsz hu hsuf hst hsim hN hdef hD hE' hev htk hI2 k
  .have az:∃i,i<m/\ ¬onL L i:=by
    refine Classical.byContradiction λq=>k λi hi=>Classical.byContradiction λz=>q ⟨i,hi,z⟩
   obtain⟨n,hn,an⟩:=az;obtain⟨i0,O,h2,h3⟩:=least (p:=λi=>¬onL L i) (λi=>Classical.em _) n an;have bb:=ok.len;have am:l[i0]?=some l[i0]:=XI (by omega);have hr:i0∈Region.ready .any l.toArray L:=(QaG hsz).2 ⟨_,am,h2,λj b=>Classical.byContradiction λz=>h3 j (ok.back i0 _ am j b) z⟩;refine⟨λq=>(by rw[q]at hr;cases hr),λi hi=>?_⟩;obtain⟨o,T,W,J⟩:=(QaG hsz).1 hi;have B:i<m:=by
    rcases Vu i m with q|q
    .exact q
    .exfalso;rcases Vu m i with z|z
     .exact hsuf (i-1) (by omega) (J _ (ok.chain i o z T))
     .have:i=m:=by omega
      subst this;have a5:∀j,QbP l i j->onL L j:=by
       intro j b
       induction b with
       |one r b=>rw[T]at r;cases r;exact J _ b
       |step _ r b ihr=>exact hcl _ _ ihr r _ b
      exact an (a5 n (ok.mid o T n hn))
   have ai:∀h∈rq.getD i [],onL L h:=by
    intro h V;obtain⟨_,_,q|⟨j,q1,q2,q3⟩⟩:=ok.rqs i o B T h V
    .exact J h q
    .exact hI1 j q2 (J j q1) h q3
   obtain⟨a0,au,ar,M⟩:=ok.pls i t B hst (λh V=>by
    obtain⟨q1,q2,_⟩:=ok.rqs i o B T h V;exact(hI2 h q1 q2).1 (ai h V)) (λq z=>W ((hI2 i B q).2 z)) (λh V hR=>by
    obtain⟨q1,q2⟩:=ok.msh t h V;have a8:onL L h:=(hI2 h q1 q2).2 V;have al:∀j,QbP l h j->onL L j:=by
     intro j b
     induction b with
     |one r b=>exact hcl _ _ a8 r _ b
     |step _ r b ihr=>exact hcl _ _ ihr r _ b
    exact W (al i hR))
   have hb:=ax i _ B au;refine hb.use T hsim hN (by rw[hdef];exact ag.keep hev) (ay.to hev λ_ q=>q) hho (a6 t hst) a2 (λj b s x q1 q2=>hD j s x (J j b) q1 q2) (λs O=>hE' s (λj q=>absurd (Vz q) (by simpa using O))) (λj s O h2=>hE' s (λj' q q'=>?_)) ?_
   .obtain rfl:=ok.nodup j' j s q h2;have b:=Xd.1 (List.contains_iff_mem.1 O);cases ac:l[j']? with
    |none=>rw[ac]at b;simp at b
    |some oj=>
     rw[ac]at b;exact W (hcl j' oj q' ac i (by simpa using b.2))
   intro v w' a7 σ' af;have ab:=af.ext;have aa:∀s,(∀d,o.dst=some d->s≠d)->(a.put o.dst v).tmps.getD s undef=a.tmps.getD s undef:=by
    intro s a1;cases X:o.dst with
    |none=>rfl
    |some d=>
     simp only[Act.put,Array.getD_eq_getD_getElem?,Va];rw[Vn (λq=>a1 d X q.symm)]
   have ae:(a.put o.dst v).tmps.size=N:=by
    cases X:o.dst with
    |none=>simpa[Act.put]using hN
    |some d=>simpa[Act.put]using hN
   have ao:(a.put o.dst v).defers=ds0:=by
    cases X:o.dst with
    |none=>simpa[Act.put]using hdef
    |some d=>simpa[Act.put]using hdef
   have bc:=QeS (L:=L) (i:=i) (by omega) W;have u:i<L.size:=by omega
   have a3:∀s j,Y[j]?=some s->j≠i->∀d,o.dst=some d->s≠d:=by
    intro s j b E d X q;subst q;rcases ok.dst i o B T with⟨d',g,Q,ak⟩|g
    .rw[X]at g;cases g;exact E (ok.nodup j i _ b Q)
    .rw[X]at g;cases g
   refine ih _ _ w' a7 σ' a0 (by simpa using hsz) (by omega) (λj b q=>?_) ar af.sim ae ao ?_ ?_ (hev.trans af.ev) ?_ af.holes ?_ ?_ ?_
   .rcases(Y5 u).1 q with z|z
    .omega
    .exact hsuf j b z
   .intro j s y b F hy;by_cases E:j=i
    .subst E;have hv:=af.val y hy;rcases ok.dst j o B T with⟨d',g,Q,ak⟩|g
     .obtain rfl:s=d':=XV (F.symm.trans Q);simp only[g]at hv⊢;exact hv
     .simp only[g]at hv;subst hv;exact trivial
    .rw[aa s (a3 s j F E)];rcases(Y5 u).1 b with z|z
     .exact absurd z E
     .exact(hD j s y z F hy).mono ab
   .intro s F;have aq:∀d,o.dst=some d->s≠d:=by
     rintro d X rfl;rcases ok.dst i o B T with⟨d',g,Q,ak⟩|g
     .rw[X]at g;cases g;exact F i Q ((Y5 u).2 (.inl rfl))
     .rw[X]at g;cases g
    rw[aa s aq];exact(hE' s (λj q z=>F j q ((Y5 u).2 (.inr z)))).mono ab
   .rw[<- htk];have:=congrArg (List.take h0) af.take;rw[List.take_take,List.take_take,XA a4]at this;exact this
   .intro j b G h V;refine(Y5 u).2 (.inr ?_);rcases(Y5 u).1 G with z|z
    .subst z;exact ai h V
    .exact hI1 j b z h V
   .intro j b G;rw[Y5 u];cases q:hs.getD i false with
    |false=>
     have E:j≠i:=by rintro rfl;rw[q]at G;cases G
     rw[q]at M;simp only[Xg,if_false]at M;simp only[E,false_or];rw[M];exact hI2 j b G
    |true=>
     rw[q]at M;simp only[if_true]at M;rw[M j,hI2 j b G]
   .intro j o' b r j' ah;rcases(Y5 u).1 b with z|z
    .subst z;rw[T]at r;cases r;exact(Y5 u).2 (.inr (J _ ah))
    .exact(Y5 u).2 (.inr (hcl j o' z r j' ah))
def QcV.dstB(N:Nat):Nat->List Oper->List Nat->Bool
 |_,_,[]=>true
 |i,o::r,d::ds=>(match o.dst with|some d'=>Nat.beq d' d&&Nat.blt d N|none=>true)&&QcV.dstB N (i+1) r ds
 |_,[],_::_=>false
def QcV.rqB(m:Nat)(hs:List Bool)(rq:List (List Nat)):Nat->List Oper->Bool
 |_,[]=>true
 |i,o::r=>(rq.getD i []).all (λh=>Nat.blt h m&&hs.getD h false&&((Qi o).contains h||(Qi o).any λj=>Nat.blt j m&&(rq.getD j []).contains h))&&QcV.rqB m hs rq (i+1) r
def Qgr(l:List Oper)(h:Nat):List Nat:=match l[h]? with
 |some o=>Qdv l h (Qi o)
 |none=>[]
theorem QhC{l:List Oper}{h j:Nat}(q:j∈Qgr l h):QbP l h j:=by
 unfold Qgr at q;cases a:l[h]? with
 |none=>rw[a]at q;cases q
 |some o=>rw[a]at q;exact Qbz h (Qi o) (λi b=>.one a b) j q
def QcV.plB(l:List Oper)(m:Nat)(hs:List Bool)(rq ms:List (List Nat))(pl:List (List (Nat×Nat))):Bool:=
 (List.range m).all λi=>(List.range ms.length).all λst=>((ms.getD st []).any λh=>(Qgr l h).contains i)|| !(rq.getD i []).all ((ms.getD st []).contains ·)||(hs.getD i false&&(ms.getD st []).contains i)||
  (pl.getD i []).any λp=>Nat.beq p.1 st&&Nat.blt p.2 ms.length&&(bif hs.getD i false then same (ms.getD p.2 []) (i::ms.getD st [])else Nat.beq p.2 st)
def QcV(l:List Oper)(m N:Nat)(ds:List Nat)(hs:List Bool)(rq ms:List (List Nat))(pl:List (List (Nat×Nat))):Bool:=
 Nat.ble m l.length&&(ds.length==m)&&QcV.dstB N 0 l ds&&drawChk.nodupB ds&&drawChk.goB l m 0 l&&QcV.rqB m hs rq 0 l&&(ms.getD 0 []).isEmpty&&Nat.blt 0 ms.length
 &&((List.range ms.length).all λst=>Nat.beq (st+1) ms.length||(List.range m).any λi=>hs.getD i false&& !(ms.getD st []).contains i)&&QcV.plB l m hs rq ms pl&&(List.range ms.length).all λst=>(ms.getD st []).all λh=>Nat.blt h m&&hs.getD h false
theorem QeB{N:Nat}:∀(l:List Oper) (a:List Nat) (b:Nat),QcV.dstB N b l a=true->∀(i d:Nat) (o:Oper),l[i]?=some o->a[i]?=some d->
  (o.dst=some d/\d<N)\/o.dst=none:=by
 intro l
 induction l with
 |nil=>intro a b h i d o f;simp at f
 |cons x r k=>
  intro a b h i d o f g;cases a with
  |nil=>simp at g
  |cons y a=>
   simp only[QcV.dstB,XU]at h;cases i with
   |zero=>
    simp at f g;subst f;subst g;have h:=h.1;split at h
    .rename_i m j;simp only[XU]at h;have e:=XO h.1;subst e;exact .inl ⟨j,by simpa using h.2⟩
    .rename_i j;exact .inr j
   |succ i=>
    have:=k a (b+1) h.2 i d o (by simpa using f) (by simpa using g);exact this
theorem Qiq{m:Nat}{e:List Bool}{d:List (List Nat)}:∀(l:List Oper) (b:Nat),QcV.rqB m e d b l=true->∀(i:Nat) (o:Oper),l[i]?=some o->
  ∀h∈d.getD (b+i) [],h<m/\e.getD h false=true/\(h∈Qi o\/ ∃j∈Qi o,j<m/\h∈d.getD j []):=by
 intro l
 induction l with
 |nil=>intro b h i o a;simp at a
 |cons x r s=>
  intro b h i o a;simp only[QcV.rqB,XU]at h;cases i with
  |zero=>
   simp at a;subst a;intro k t;have:=Xq.1 h.1 k (by simpa using t);simp only[XU,Bool.or_eq_true,List.contains_iff_mem,Xr]at this;obtain⟨⟨g,f⟩,p⟩:=this;refine⟨by simpa using g,f,?_⟩;rcases p with q|⟨j,w,n,u⟩
   .exact .inl q
   .exact .inr ⟨j,w,by simpa using n,u⟩
  |succ i=>
   have:=s (b+1) h.2 i o (by simpa using a);rw[show b+1+i=b+(i+1)by omega]at this;exact this
theorem Qi3{l:List Oper}{m N:Nat}{s:List Nat}{F:List Bool}{B t:List (List Nat)}{H:List (List (Nat×Nat))}(h:QcV l m N s F B t H=true):
  Qjx l m s F B t H N/\0<t.length:=by
 unfold QcV at h;simp only[XU]at h;obtain⟨⟨⟨⟨⟨⟨⟨⟨⟨⟨X,M⟩,R⟩,Y⟩,h5⟩,O⟩,Q⟩,V⟩,P⟩,E⟩,y⟩:=h;have G:m<=l.length:=XP X;have x:s.length=m:=by simpa using M
 have g:=QfI l 0 h5;refine⟨⟨G,λi o r b=>?_,x,QcP Y,λi o b=>by have:=(g i o b).1;simpa using this,λo b j T=>Qbz m (Qi o) (λi r=>.one b r) j ((g m o b).2.1 (by omega) j T),
  λi o r b=>by have:=(g i o b).2.2 (by omega);simpa using this,λi o r b h f=>by have:=Qiq l 0 O i o b h (by simpa using f);exact this,
  by simpa using Q,λk a=>?_,λk h f=>?_,λi k r a W hn J=>?_⟩,by simpa using V⟩
 .have w:s[i]?=some s[i]:=XI (by omega);rcases QeB l s 0 R i _ o b w with⟨n,u⟩|n
  .exact .inl ⟨_,n,w,u⟩
  .exact .inr n
 .have:=Xq.1 P k (List.mem_range.2 a);simp only[Bool.or_eq_true,Xr,XU,Bool.not_eq_true']at this;rcases this with q|⟨i,n,u,d⟩
  .exact .inl (XO q)
  .exact .inr ⟨i,List.mem_range.1 n,u,λz=>by rw[List.contains_iff_mem.2 z]at d;cases d⟩
 .have a:k<t.length:=by
   rcases Vu k t.length with q|q
   .exact q
   .rw[VD,XM q]at f;cases f
  have:=Xq.1 (Xq.1 y k (List.mem_range.2 a)) h f;simp only[XU]at this;exact⟨by simpa using this.1,this.2⟩
 .have:=Xq.1 (Xq.1 E i (List.mem_range.2 r)) k (List.mem_range.2 a);simp only[Bool.or_eq_true,Bool.not_eq_true']at this;rcases this with((q|q)|q)|q
  .exfalso;obtain⟨h,f,q⟩:=Xr.1 q;exact J h f (QhC (List.contains_iff_mem.1 q))
  .exfalso;have:((B.getD i []).all ((t.getD k []).contains ·))=true:=Xq.2 λh f=>List.contains_iff_mem.2 (W h f);rw[this]at q;cases q
  .simp only[XU]at q;exact absurd (List.contains_iff_mem.1 q.2) (hn q.1)
  .obtain⟨p,L,q⟩:=Xr.1 q;simp only[XU]at q;obtain⟨⟨n,u⟩,d⟩:=q;have e:=XO n;refine⟨p.2,by rw[<- e];exact L,by simpa using u,?_⟩;cases z:F.getD i false with
   |true=>
    rw[z]at d;simp only[Vk]at d;simp only[if_true];intro j;rw[QjF d j,X2]
   |false=>
    rw[z]at d;simp only[Vl]at d;simp only[Xg,if_false];exact XO d
inductive Qfm (P:Program) (N:Nat) (l:List Oper) (ds:List Nat) (xs:List A) (env0:Env) (hB hE:Nat):Nat->List (List (Qc×Qc))->Prop
 |nil {i:Nat}:Qfm P N l ds xs env0 hB hE i []
 |cons {i:Nat} {s:List (Qc×Qc)} {r:List (List (Qc×Qc))} (h:∀p∈s,Ja P N l ds xs env0 hB hE i p.1 p.2) (k:Qfm P N l ds xs env0 hB hE (i+1) r):Qfm P N l ds xs env0 hB hE i (s::r)
theorem Qfm.get{P:Program}{N:Nat}{l:List Oper}{e:List Nat}{xs:List A}{env0:Env}{hB hE b:Nat}{d:List (List (Qc×Qc))}(h:Qfm P N l e xs env0 hB hE b d):
  ∀(i:Nat) (s:List (Qc×Qc)),d[i]?=some s->∀p∈s,Ja P N l e xs env0 hB hE (b+i) p.1 p.2:=by
 induction h with
 |nil=>intro i s h;simp at h
 | @cons b s0 r h _ ih=>
  intro i s a;cases i with
  |zero=>simp at a;subst a;exact h
  |succ i=>
   have:=ih i s (by simpa using a);rw[show b+1+i=b+(i+1)by omega]at this;exact this
theorem Qd{P:Program}{N:Nat}{l:List Oper}{a:List Nat}{xs:List A}{env0:Env}{hB hE i:Nat}:∀p∈([]:List (Qc×Qc)),Ja P N l a xs env0 hB hE i p.1 p.2:=by
 intro p b;cases b
theorem Qb{P:Program}{N:Nat}{l:List Oper}{a:List Nat}{xs:List A}{env0:Env}{hB hE i:Nat}{H H':Qc}{r:List (Qc×Qc)}(h:Ja P N l a xs env0 hB hE i H H')
  (k:∀p∈r,Ja P N l a xs env0 hB hE i p.1 p.2):∀p∈(H,H')::r,Ja P N l a xs env0 hB hE i p.1 p.2:=by
 intro p b;rcases X2.1 b with rfl|q
 .exact h
 .exact k p q
theorem QeX{P:Program}{h0 N:Nat}{id:Nat}{l:List Oper}{env:Env}{H:Qc}{fr ro:Nat->Prop}{σ:Sig}{a:Act}{w:World}{rd:Option Nat}{R:Exit->Act->World->Prop}(m c:Nat)(ds:List Nat)(hs:List Bool)(rq ms:List (List Nat))(E:List (List (Nat×Nat)))(xs:List A)(Hs:List Qc)(Hk:Qc)
  (hm:P.follows .mixedOrders=true)(hc:QcV l m N ds hs rq ms E=true)(ab:Nat.beq xs.length m=true)(ae:Nat.beq Hs.length ms.length=true)(aa:Nat.ble h0 H.length=true)
  (hh:Hs.all (λX=>Nat.ble (H.length+c) X.length)=true)(W:Hs[0]?=some (H++List.replicate c .dead))(Y:Hs.getD (ms.length-1) []=Hk)
  (af:Qfm P N l ds xs env H.length (H.length+c) 0 (E.map λq=>q.map λp=>(Hs.getD p.1 [],Hs.getD p.2 [])))(ac:Nat.beq E.length m=true)
  (r:Rel fr ro σ H env N a w)(V:Qc7 rd fr w)
  (hk:∀ro' σ' a' w',Rel fr ro' σ' Hk (Qat ds xs env) N a' w'->Qg fr ro w ro' w'->σ'.take h0=σ.take h0->a'.defers=a.defers->wpL P rd l.toArray R (l.drop m) a' w'):(Code.region id l.toArray true).wpIn (WF rd) 0 P R a w:=by
 obtain⟨ok,L⟩:=Qi3 hc;have M:=XO ab;have F:=XO ae;have ag:=XO ac;have G:Qg fr ro w ro {w with drawn:=w.drawn+1}:=⟨λ_ q=>q,λ_ _=>rfl,λ_ _=>rfl,XR _,λ_ _ q=>q,rfl,rfl,rfl,Nat.le_succ _⟩;have u:Ext ro σ w ro (σ++List.replicate c none) {w with drawn:=w.drawn+1}:=G.ext σ _;have T:=r.sim.len;have B:Hs.getD 0 []=H++List.replicate c .dead:=Qhf W;have n:∀(i:Nat) (s:Option Nat) (x:Blk),(σ++List.replicate c none)[i]?=some s->(H++List.replicate c Blk.dead)[i]?=some x->(σ[i]?=some s/\H[i]?=some x)\/(s=none/\x=.dead):=by
  intro i s x k h;rcases Vu i σ.length with q|q
  .rw[XK q]at k;rw[XK (by omega)]at h;exact .inl ⟨k,h⟩
  .rw[XL q]at k;rw[XL (by omega)]at h;have a1:=Vz k;have a2:=Vz h;exact .inr ⟨(List.mem_replicate.1 a1).2,(List.mem_replicate.1 a2).2⟩
 have O:Sim fr ro (σ++List.replicate c none) (H++List.replicate c .dead) {w with drawn:=w.drawn+1}:=by
  refine⟨by simp[T],r.sim.roOk.to (λ_ q=>q) (λ_ _=>rfl) r.sim.roLt,r.sim.frLt,r.sim.roFr,?_,?_,?_,
   r.sim.hidTo (· = ·) QP (XR _) (λ_ _ _ _ _ _ _ q=>q) (λ_ _ _ _ _ _ _ q=>q) λj d y g1 g2 g3=>.inl ?_⟩
  rotate_left 3
  .rcases n j _ _ g1 g2 with⟨g,t⟩|⟨g,_⟩
   .exact⟨j,y,rfl,g,t,(λz=>z),λc q=>q⟩
   .cases g
  .intro i b blk k h Q;rcases n i _ _ k h with⟨g,t⟩|⟨g,_⟩
   .exact r.sim.own i b blk g t Q
   .cases g
  .intro i j b x y k h Q h4 h5 h6;rcases n i _ _ k Q with⟨g,t⟩|⟨g,_⟩
   .rcases n j _ _ h h4 with⟨q3,q4⟩|⟨q3,_⟩
    .exact r.sim.inj i j b x y g q3 t q4 h5 h6
    .cases q3
   .cases g
  .intro i s x k h;rcases n i _ _ k h with⟨g,t⟩|⟨g,t⟩
   .exact BR.keep u (λb hb _=>rfl) (r.sim.blk i s x g t) (λ_ _ _ _=>rfl)
   .subst t;exact trivial
 have f:∀i,¬onL (Array.replicate l.length false) i:=by
  intro i q;unfold onL at q;rw[Array.getElem?_replicate]at q;split at q<;>simp at q
 have J:=XP aa;refine wpIn_region_any hm ?_;rw[List.size_toArray];refine QfX ok M F J (Nat.le_add_right _ _) (λX hX=>XP (Xq.1 hh X hX)) ?_ Y (ro0:=ro) (σ0:=σ) (w0:=w) (ds0:=a.defers) hk r.defers V
  l.length _ a _ ro (σ++List.replicate c none) 0 (by simp) ?_ (λi _=>f i) L (by rw[B];exact O) r.size rfl (λi d x q=>absurd q (f i)) (λs _=>(r.env s).mono u) G (Qp (by omega)) ?_
  (λi _ q=>absurd q (f i)) (λi _ _=>⟨λq=>absurd q (f i),λq=>by rw[ok.ms0]at q;cases q⟩) (λi o q=>absurd q (f i))
 .intro i p hi hp;have e:(E.map λq=>q.map λp=>(Hs.getD p.1 [],Hs.getD p.2 []))[i]?=some ((E.getD i []).map λp=>(Hs.getD p.1 [],Hs.getD p.2 [])):=by
   rw[Xn,XI (by omega),VD,XI (by omega)];rfl
  have:=af.get i _ e _ (Xe.2 ⟨p,hp,rfl⟩);simpa using this
 .unfold unl;simp[List.countP_replicate]
 .intro p k h Q;rw[XL (by omega),List.getElem?_replicate,Vo (by omega)]
theorem YC{P:Program}{h0 N:Nat}{id:Nat}{l:List Oper}{env:Env}{H:Qc}{Q:Qv}(m c:Nat)(f:List Nat)(x:List Bool)(u g:List (List Nat))(d:List (List (Nat×Nat)))(xs:List A)(Hs:List Qc)(Hk:Qc)
  (G:P.follows .mixedOrders=true)(E:QcV l m N f x u g d=true)(k:Nat.beq xs.length m=true)(s:Nat.beq Hs.length g.length=true)(j:Nat.ble h0 H.length=true)
  (F:Hs.all (λX=>Nat.ble (H.length+c) X.length)=true)(h:Hs[0]?=some (H++List.replicate c .dead))(i:Hs.getD (g.length-1) []=Hk)
  (t:Qfm P N l f xs env H.length (H.length+c) 0 (d.map λq=>q.map λp=>(Hs.getD p.1 [],Hs.getD p.2 [])))(n:Nat.beq d.length m=true)
  (y:WO P h0 N l.toArray (l.drop m) (Qat f xs env) Hk Q):TC P h0 N (.region id l.toArray true) env H Q:=by
 intro z B J σ a w r hrd;refine Code.wpIn_mono (λe a w q=>Qbx.postW q) (QeX m c f x u g d xs Hs Hk G E k s j F h i t n r hrd λro' σ' a' w' hr hev htk hdf=>?_);have b:=y z B ro' σ' a' w' hr (hrd.to hev λ_ q=>q);rw[hdf]at b;exact Q4 (λe a w q=>q.step hev htk) _ _ _ b
def draw0(l:List Oper)(m N:Nat)(ds:List Nat):Bool:=Nat.ble m l.length&&(ds.length==m)&&QcV.dstB N 0 l ds&&drawChk.nodupB ds&&drawChk.goB l m 0 l
inductive Oq (P:Program) (N:Nat) (l:List Oper) (ds:List Nat) (xs:List A) (env0:Env) (H:Qc):Nat->Nat->Prop
 |n {i:Nat}:Oq P N l ds xs env0 H i 0
 |c {i c:Nat} (h:Ja P N l ds xs env0 H.length H.length i H H) (k:Oq P N l ds xs env0 H (i+1) c):Oq P N l ds xs env0 H i (c+1)
theorem Oq.get{P:Program}{N:Nat}{l:List Oper}{a:List Nat}{xs:List A}{env0:Env}{H:Qc}{b c:Nat}(h:Oq P N l a xs env0 H b c):∀i,i<c->Ja P N l a xs env0 H.length H.length (b+i) H H:=by
 induction h with
 |n=>intro i d;omega
 | @c b c h _ ih=>
  intro i d;cases i with
  |zero=>exact h
  |succ i=>
   have:=ih i (by omega);rw[show b+1+i=b+(i+1)by omega]at this;exact this
theorem Qi4{l:List Oper}{m N:Nat}{d:List Nat}(h:draw0 l m N d=true):Qjx l m d [] [] [[]] (List.replicate m [(0,0)]) N:=by
 unfold draw0 at h;simp only[XU]at h;obtain⟨⟨⟨⟨u,w⟩,s⟩,x⟩,z⟩:=h;have r:m<=l.length:=XP u;have p:d.length=m:=by simpa using w
 have g:=QfI l 0 z;refine⟨r,λi o e b=>?_,p,QcP x,λi o b=>by have:=(g i o b).1;simpa using this,λo b j y=>Qbz m (Qi o) (λi e=>.one b e) j ((g m o b).2.1 (by omega) j y),
  λi o e b=>by have:=(g i o b).2.2 (by omega);simpa using this,λi o e b h q=>by simp at q,rfl,λk a=>.inl (by simp at a;simp[a]),λk h q=>by cases k<;>simp at q,λi k e a _ _ _=>?_⟩
 .have f:d[i]?=some d[i]:=XI (by omega);rcases QeB l d 0 s i _ o b f with⟨n,t⟩|n
  .exact .inl ⟨_,n,f,t⟩
  .exact .inr n
 .have:k=0:=by simp at a;exact a
  subst this;refine⟨0,?_,by simp,by simp⟩;rw[VD,List.getElem?_replicate,Vo e];exact Vt.2 rfl
theorem QeY{P:Program}{h0 N:Nat}{id:Nat}{l:List Oper}{env:Env}{H:Qc}{fr ro:Nat->Prop}{σ:Sig}{a:Act}{w:World}{rd:Option Nat}{R:Exit->Act->World->Prop}(m:Nat)(n:List Nat)(xs:List A)
  (F:P.follows .mixedOrders=true)(B:Go.Sw.draw0 l m N n=true)(t:Nat.beq xs.length m=true)(k:Nat.ble h0 H.length=true)
  (u:Oq P N l n xs env H 0 m)(r:Rel fr ro σ H env N a w)(j:Qc7 rd fr w)
  (E:∀ro' σ' a' w',Rel fr ro' σ' H (Qat n xs env) N a' w'->Qg fr ro w ro' w'->σ'.take h0=σ.take h0->a'.defers=a.defers->wpL P rd l.toArray R (l.drop m) a' w'):(Code.region id l.toArray true).wpIn (WF rd) 0 P R a w:=by
 have ok:=Qi4 B;have e:=XO t;have h:Qg fr ro w ro {w with drawn:=w.drawn+1}:=⟨λ_ q=>q,λ_ _=>rfl,λ_ _=>rfl,XR _,λ_ _ q=>q,rfl,rfl,rfl,Nat.le_succ _⟩;have f:Ext ro σ w ro σ {w with drawn:=w.drawn+1}:=h.ext0 σ;have g:Sim fr ro σ H {w with drawn:=w.drawn+1}:=r.sim.heap rfl;have b:∀i,¬onL (Array.replicate l.length false) i:=by
  intro i q;unfold onL at q;rw[Array.getElem?_replicate]at q;split at q<;>simp at q
 refine wpIn_region_any F ?_;rw[List.size_toArray];refine QfX (hB:=H.length) (hE:=H.length) (Hs:=[H]) (Hk:=H) ok e rfl (XP k) (XR _) (λX hX=>by rw[Vt.1 hX];exact XR _) ?_ rfl (ro0:=ro) (σ0:=σ) (w0:=w) (ds0:=a.defers) E r.defers j
  l.length _ a _ ro σ 0 (by simp) ?_ (λi _=>b i) (by simp) g r.size rfl (λi d x q=>absurd q (b i)) (λs _=>(r.env s).mono f) h rfl (λp G J=>by omega)
  (λi _ q=>absurd q (b i)) (λi _ _=>⟨λq=>absurd q (b i),λq=>by cases q⟩) (λi o q=>absurd q (b i))
 .intro i p z y;rw[VD,List.getElem?_replicate,Vo z]at y;obtain rfl:=Vt.1 y;have:=u.get i z;rw[Xu]at this;exact this
 .unfold unl;simp[List.countP_replicate]
theorem TC.draw0{P:Program}{h0 N:Nat}{id:Nat}{l:List Oper}{env:Env}{H:Qc}{Q:Qv}(m:Nat)(d:List Nat)(xs:List A)
  (n:P.follows .mixedOrders=true)(i:Go.Sw.draw0 l m N d=true)(h:Nat.beq xs.length m=true)(g:Nat.ble h0 H.length=true)
  (f:Oq P N l d xs env H 0 m)(j:WO P h0 N l.toArray (l.drop m) (Qat d xs env) H Q):TC P h0 N (.region id l.toArray true) env H Q:=by
 intro k p s σ a w r hrd;refine Code.wpIn_mono (λe a w q=>Qbx.postW q) (QeY m d xs n i h g f r hrd λro' σ' a' w' hr hev htk hdf=>?_);have b:=j k p ro' σ' a' w' hr (hrd.to hev λ_ q=>q);rw[hdf]at b;exact Q4 (λe a w q=>q.step hev htk) _ _ _ b
section
variable {P:Program} {N:Nat} {l:List Oper} {ds af bf:List Nat} {xs:List A} {env0 e r:Env} {H H':Qc} {i hB hE:Nat} {o:Oper} {d s:Nat} {x a:A}
theorem sN:Sb af bf ds xs env0 []:=.nil
theorem sD(j:Nat)(k:Sb af bf ds xs env0 r)(b:af.contains j=true:=by exact rfl)(h2:ds[j]?=some s:=by exact rfl)(h3:xs[j]?=some a:=by exact rfl):Sb af bf ds xs env0 ((s,a)::r):=.dep j b h2 h3 k
theorem sP(j:Nat)(k:Sb af bf ds xs env0 r)(b:bf.contains j=true:=by exact rfl)(h2:ds[j]?=some s:=by exact rfl)(h3:lk env0 s=a:=by exact rfl):Sb af bf ds xs env0 ((s,a)::r):=.pre j b h2 h3 k
theorem sO(s:Nat)(k:Sb af bf ds xs env0 r)(b:ds.contains s=false:=by exact rfl)(h2:lk env0 s=a:=by exact rfl):Sb af bf ds xs env0 ((s,a)::r):=.old b h2 k
theorem QcW(H:Qc):Qar hB hE H H=true:=by
 unfold Qar;refine Xq.2 λp _=>?_;cases QbW H[hB+p]? <;>rfl
theorem Om(b:l[i]?=some o)(f:Sb (Qi o) (QgF l i) ds xs env0 e)(h:WO P H.length N l.toArray [o] e H (YJ (up e d x) H))(a:o.dst=some d:=by exact rfl)(hx:xs[i]?=some x:=by exact rfl):Ja P N l ds xs env0 hB hE i H H:=
 .mk o e d x b a hx (QcW H) f h
theorem Om1(b:l[i]?=some o)(f:Sb (Qi o) (QgF l i) ds xs env0 e)(h:WO P H.length N l.toArray [o] e H (YJ (up e d x) H'))(a:o.dst=some d:=by exact rfl)(hx:xs[i]?=some x:=by exact rfl)(hdd:Qar hB hE H H'=true:=by exact rfl):Ja P N l ds xs env0 hB hE i H H':=
 .mk o e d x b a hx hdd f h
theorem Om2(b:l[i]?=some o)(d:Sb (Qi o) (QgF l i) ds xs env0 e)(h:WO P H.length N l.toArray [o] e H (YJ e H'))(a:o.dst=none:=by exact rfl)(hx:xs[i]?=some .any:=by exact rfl)(hdd:Qar hB hE H H'=true:=by exact rfl):Ja P N l ds xs env0 hB hE i H H':=
 .unit o e b a hx hdd d h
end
end Go.Sw
namespace Go.Sw
structure TyI where
 fld:List (Nat×Nat×Nat)
 agg:List (Nat×Bool×Nat)
 zer:List (Nat×List A×List (Nat×Nat))
structure TyOK (P:Program) (T:TyI):Prop where
 fld:∀e∈T.fld,∃n,QD P e.1 e.2.1 e.2.2 n
 agg:∀e∈T.agg,(∀w,(isAgg e.1).run P w=.ok e.2.1 w)/\ ∀w,(sizeOf e.1).run P w=.ok e.2.2 w
 zer:∀e∈T.zer,(∃z,(∀w,(zeroValue e.1).run P w=.ok z w)/\ZR (.agg e.2.1) z)/\Qw P e.1 e.2.2
def QfM:List (Nat×Nat×Nat)->Nat->Nat->Option Nat
 |[],_,_=>none
 |(a,b,c)::r,t,f=>bif Nat.beq a t&&Nat.beq b f then some c else QfM r t f
def QbG{β:Type}:List (Nat×β)->Nat->Option β
 |[],_=>none
 |(a,b)::r,t=>bif Nat.beq a t then some b else QbG r t
theorem QfL{l:List (Nat×Nat×Nat)}{t f c:Nat}(h:QfM l t f=some c):(t,f,c)∈l:=by
 induction l with
 |nil=>cases h
 |cons x r i=>
  obtain⟨a,b,d⟩:=x;unfold QfM at h;cases q:(Nat.beq a t&&Nat.beq b f)with
  |true=>
   rw[q]at h;simp only[XU]at q;have e:=XO q.1;have g:=XO q.2;simp only[Vk,Option.some.injEq]at h;subst e g h;exact .head _
  |false=>rw[q]at h;exact .tail _ (i h)
theorem Qav{β:Type}{l:List (Nat×β)}{t:Nat}{c:β}(h:QbG l t=some c):(t,c)∈l:=by
 induction l with
 |nil=>cases h
 |cons x r e=>
  obtain⟨a,b⟩:=x;unfold QbG at h;cases q:Nat.beq a t with
  |true=>
   rw[q]at h;have d:=XO q;simp only[Vk,Option.some.injEq]at h;subst d h;exact .head _
  |false=>rw[q]at h;exact .tail _ (e h)
def Qfc(H:Qc):A->Option (List A)
 |.rp cs=>some cs
 |.ptr i off=>match H[i]? with
  |some (.cells _ cs)=>some (cs.drop off)
  |_=>none
 |_=>none
theorem QgE{H:Qc}{p:A}{cs:List A}(h:Qfc H p=some cs):Pts H p cs:=by
 unfold Qfc at h;split at h
 .cases h;exact Pts.rp
 .split at h
  .rename_i a;cases h;exact Pts.cells a rfl
  .cases h
 .cases h
def Qil(T:TyI)(o:Oper)(env:Env)(H:Qc):Option A:=
 match o.op with
 |.move x=>some (opA env x)
 |.assign x=>some (opA env x)
 |.fieldAddr t x f=>match QfM T.fld t f with
  |none=>none
  |some off=>match opA env x with
   |.ptr i p=>some (.ptr i (p+off))
   |.rp cs=>some (.rp (cs.drop off))
   |_=>none
 |.load t x=>match QbG T.agg t with
  |none=>none
  |some (b,n)=>match x with
   |.global g=>match QgB[g]? with
    |some zs=>bif b&&Nat.beq zs.length n then some (.agg (zs.map (A.int .i64)))else none
    |none=>none
   |x=>match Qfc H (opA env x)with
    |none=>none
    |some cs=>bif b then(bif Nat.beq (cs.take n).length n then some (.agg (cs.take n))else none)else cs.head?
 |.build t parts=>match QbG T.zer t with
  |none=>none
  |some (zs,pl)=>match QcT env pl zs parts.toList with
   |some cs=>some (.agg cs)
   |none=>none
 |.extract x i=>match opA env x with
  |.tup vs=>vs[i]?
  |_=>none
 |.makeFunc f first cap=>some (.fn f (first.toList.map (opA env)) (cap.toList.map (opA env)))
 |_=>none
theorem Qik{P:Program}{T:TyI}(l:TyOK P T){o:Oper}{env:Env}{H:Qc}{x:A}(h:Qil T o env H=some x):OpV P o env H x:=by
 unfold Qil at h;split at h
 .rename_i y a;cases h;exact OpV.move a rfl
 .rename_i y a;cases h;exact OpV.assign a rfl
 .rename_i t y f a;split at h
  .cases h
  .rename_i L m;obtain⟨n,s⟩:=l.fld _ (QfL m);split at h
   .rename_i i p d;cases h;exact Ye s a d
   .rename_i j d;cases h;exact Qs s a d rfl
   .cases h
 .rename_i t y a;split at h
  .cases h
  .rename_i b n G;obtain⟨e,k⟩:=l.agg _ (Qav G);split at h
   .rename_i g;split at h
    .rename_i u F;cases q:(b&&Nat.beq u.length n)with
     |false=>rw[q]at h;cases h
     |true=>
      rw[q]at h;cases h;simp only[XU]at q;obtain⟨rfl,B⟩:=q;exact QeJ e k F (XO B) a
    .cases h
   .split at h
    .cases h
    .rename_i j w;have r:=QgE w;cases b with
     |true=>
      simp only[Vk]at h;cases q:Nat.beq (j.take n).length n with
      |false=>rw[q]at h;cases h
      |true=>
       rw[q]at h;cases h;exact Qj a e k rfl r rfl (XO q)
     |false=>
      simp only[Vl]at h;cases j with
      |nil=>cases h
      |cons v j=>cases h;exact OpV.load a e rfl r
 .rename_i t parts a;split at h
  .cases h
  .rename_i u M J;obtain⟨⟨z,e,k⟩,E⟩:=l.zer _ (Qav J);split at h
   .rename_i j m;cases h;exact OpV.build e k E (by rw[a]) m
   .cases h
 .rename_i y i a;split at h
  .rename_i vs d;exact OpV.extract a d h
  .cases h
 .rename_i f first cap a
  cases h;exact OpV.makeFunc (first:=first.toList) (cap:=cap.toList) (by rw[a]) rfl rfl
 .cases h
def QfW(af:List Nat):Nat->List Nat->List A->Env->Env
 |j,d::ds,x::xs,e=>(d,bif af.contains j then x else .any)::QfW af (j+1) ds xs e
 |_,_,_,e=>e
theorem Qj0{af:List Nat}{env0:Env}(s:Nat):∀(a:List Nat) (xs:List A) (b:Nat),a.length=xs.length->
  (∃(j:Nat) (x:A),a[j]?=some s/\xs[j]?=some x/\lk (QfW af b a xs env0) s=bif af.contains (b+j)then x else .any)\/(a.contains s=false/\lk (QfW af b a xs env0) s=lk env0 s):=by
 intro a
 induction a with
 |nil=>intro xs b g;right;exact⟨rfl,by unfold QfW;rfl⟩
 |cons d a l=>
  intro xs b g;cases xs with
  |nil=>cases g
  |cons x xs=>
   cases q:Nat.beq s d with
   |true=>
    have e:=XO q;subst e;left;refine⟨0,x,rfl,rfl,?_⟩;simp only[QfW,lk,q,Vk];rfl
   |false=>
    have i:s≠d:=λz=>by subst z;simp[Vx]at q
    simp only[QfW,lk,q,Vl];rcases l xs (b+1) (by simpa using g)with⟨j,y,f,h,k⟩|⟨f,h⟩
    .left;refine⟨j+1,y,by simpa using f,by simpa using h,?_⟩;rw[show b+(j+1)=b+1+j by omega];exact k
    .right;refine⟨?_,h⟩;rw[List.contains_cons,f];simpa using i
def Qg3(T:TyI)(N:Nat)(l:List Oper)(ds:List Nat)(xs:List A)(env0:Env)(H:Qc)(i:Nat):Option A:=
 match l[i]? with
 |none=>none
 |some o=>match o.guard,o.dst with
  |none,some d=>bif Nat.blt d N&&Nat.beq ds.length xs.length then Qil T o (QfW (Qi o) 0 ds xs env0) H else none
  |_,_=>none
theorem QjZ{af b:List Nat}{xs:List A}{env0:Env}(hl:b.length=xs.length):Qju af b xs env0 (QfW af 0 b xs env0):=by
 intro s;rcases Qj0 (af:=af) (env0:=env0) s b xs 0 hl with⟨j,x,e,d,a⟩|h
 .rw[Xu]at a;cases q:af.contains j with
  |true=>rw[q]at a;exact .inl ⟨j,x,q,e,d,a⟩
  |false=>rw[q]at a;exact .inr (.inl a)
 .exact .inr (.inr h)
theorem vQ{P:Program}{T:TyI}(b:TyOK P T){N:Nat}{l:List Oper}{a:List Nat}{xs:List A}{env0:Env}{hB hE i:Nat}{H:Qc}{x:A}(f:xs[i]?=some x)(h:Qg3 T N l a xs env0 H i=some x):Ja P N l a xs env0 hB hE i H H:=by
 unfold Qg3 at h;split at h
 .cases h
 .rename_i o j;split at h
  .rename_i d g e;cases q:(Nat.blt d N&&Nat.beq a.length xs.length)with
   |false=>rw[q]at h;cases h
   |true=>
    rw[q]at h;simp only[XU]at q;exact .val o _ d x j e g f q.1 (QjZ (XO q.2)) (Qik b h)
  .cases h
abbrev I(n:Int):A:=.int .i64 n
theorem zc{a:A}{v:Value}{al:List A}{vl:List Value}(h:ZR a v)(k:ZL al vl):ZL (a::al) (v::vl):=ZL.cons h k
def zr1:A->Value->Bool
 |.int k n,.int k' n'=>decide (k=k')&&decide (n=n')
 |.bool b,.bool b'=>b==b'
 |.str s,.string s'=>s.isEmpty&&s'.data.toList.isEmpty
 |.rsl _ es,.slice none 0 0=>es.isEmpty
 |.nils,.slice none 0 0=>true
 |.nilp,.pointer none=>true
 |.nilf,.nilFunc=>true
 |.nilm,.map none=>true
 |.nilif,.nilIface=>true
 |_,_=>false
def zrL:List A->List Value->Bool
 |[],[]=>true
 |a::r,v::s=>zr1 a v&&zrL r s
 |_,_=>false
def zrB:A->Value->Bool
 |.agg r,.agg s=>zrL r s.toList
 |a,v=>zr1 a v
theorem Qid{a:A}{v:Value}(h:zr1 a v=true):ZR a v:=by
 unfold zr1 at h;split at h
 .simp only[XU,Vm]at h;obtain⟨rfl,rfl⟩:=h;exact ZR.int
 .simp only[Vs]at h;subst h;exact ZR.bool
 .rename_i s g;simp only[XU,List.isEmpty_iff]at h;obtain⟨rfl,b⟩:=h;obtain⟨d⟩:=g;obtain⟨d⟩:=d;have b:d=[]:=b;subst b;exact ZR.str
 .rename_i k f;have h:f=[]:=List.isEmpty_iff.1 h;subst h;exact ZR.rsl (α:=A) (e:=λx=>[x])
 .exact ZR.nils
 .exact ZR.nilp
 .exact ZR.nilf
 .exact ZR.nilm
 .exact Qj3
 .cases h
theorem Qic:∀{r:List A} {s:List Value},zrL r s=true->ZL r s
 |[],[],_=>ZL.nil
 |a::r,v::s,h=>by
  simp only[zrL,XU]at h;exact ZL.cons (Qid h.1) (Qic h.2)
 |[],_::_,h=>by cases h
 |_::_,[],h=>by cases h
theorem zrC{a:A}{v:Value}(h:zrB a v=true):ZR a v:=by
 unfold zrB at h;split at h
 .rename_i r s;have:=ZR.agg (Qic h);simpa using this
 .exact Qid h
end Go.Sw
namespace Go.Sw
section
variable {P:Program} {o:Oper} {env:Env} {H:Qc}
end
end Go.Sw
namespace Go.Sw
structure TyX where
 ty:TyI
 al:List (Nat×A)
 sl:List Nat
structure Qbk (P:Program) (T:TyX):Prop where
 ty:TyOK P T.ty
 al:∀e∈T.al,(∃z,(∀w,(zeroValue e.1).run P w=.ok z w)/\ZR e.2 z)/\Q0 e.2=true/\(QX e.2).all Yb=true
 sl:∀t∈T.sl,∃et,∀w,(underlying t).run P w=.ok (.slice et) w
def YD(all:Array Oper)(o:Oper)(env:Env):Option Bool:=
 match o.guard with
 |none=>some true
 |some (j,c)=>match(all[j]?).bind (·.dst)with
  |none=>none
  |some d=>match lk env d with
   |.bool true=>some c
   |.bool false=>some (!c)
   |.tup []=>some false
   |_=>none
theorem QH{all:Array Oper}{o:Oper}{env:Env}{b:Bool}(h:YD all o env=some b):Qm all o env b:=by
 unfold YD at h;unfold Qm;split at h
 .rename_i q;rw[q];cases h;rfl
 .rename_i j c q;rw[q];split at h
  .cases h
  .rename_i d e;refine⟨d,e,?_⟩;split at h
   .rename_i a;cases h;exact .inl ⟨true,a,by simp⟩
   .rename_i a;cases h;exact .inl ⟨false,a,by cases c<;>rfl⟩
   .rename_i a;cases h;exact .inr ⟨a,rfl⟩
   .cases h
def Qcy:List Nat->Nat->Bool
 |[],_=>false
 |a::r,t=>bif Nat.beq a t then true else Qcy r t
theorem QeZ{l:List Nat}{t:Nat}(h:Qcy l t=true):t∈l:=by
 induction l with
 |nil=>cases h
 |cons a r b=>
  unfold Qcy at h;cases q:Nat.beq a t with
  |true=>have:=XO q;subst this;exact .head _
  |false=>rw[q]at h;exact .tail _ (b h)
inductive FL where
 |mk (l:List A)
def fl:List A->FL
 |[]=>.mk []
 |a::r=>match fl r with
  |.mk r'=>.mk (a::r')
theorem QbM:∀l:List A,fl l=.mk l
 |[]=>rfl
 |a::r=>by unfold fl;rw[QbM r]
inductive FB where
 |mk (l:List Blk)
def fb:List Blk->FB
 |[]=>.mk []
 |a::r=>match fb r with
  |.mk r'=>.mk (a::r')
theorem Qhj:∀l:List Blk,fb l=.mk l
 |[]=>rfl
 |a::r=>by unfold fb;rw[Qhj r]
inductive FN where
 |mk (n:Nat)
def fn:List Blk->Nat->FN
 |[],n=>.mk n
 |_::r,n=>fn r (n+1)
theorem QiR:∀(l:List Blk) (n:Nat),fn l n=.mk (l.length+n)
 |[],n=>by simp[fn]
 |a::r,n=>by unfold fn;rw[QiR r];simp;omega
def Qhh(env:Env)(pl:List (Nat×Nat)):List A->List (Nat×Operand)->Option (List A)
 |cs,[]=>some cs
 |cs,(i,x)::r=>match YB pl i with
  |none=>none
  |some (off,size)=>match opB env x with
   |.mk a=>match fl (QX a)with
    |.mk vs=>bif Q0 a&&Nat.beq vs.length size&&Nat.ble (off+size) cs.length then(match fl (splice cs off vs)with
     |.mk cs'=>Qhh env pl cs' r)else none
theorem QfP{env:Env}{pl:List (Nat×Nat)}:∀(parts:List (Nat×Operand)) (cs:List A),Qhh env pl cs parts=QcT env pl cs parts
 |[],cs=>rfl
 |(i,x)::r,cs=>by
  unfold Qhh QcT;rw[QaC];cases pl[i]? with
  |none=>rfl
  |some q=>
   obtain⟨off,size⟩:=q;cases h:opB env x with
   |mk a=>
    rw[Qy h];simp only[QbM];cases(Q0 a&&Nat.beq (QX a).length size&&Nat.ble (off+size) cs.length)with
    |false=>rfl
    |true=>exact QfP r _
def QfF(env:Env):List Operand->List A
 |[]=>[]
 |x::r=>match opB env x with
  |.mk a=>a::QfF env r
theorem Qca{env:Env}:∀l:List Operand,QfF env l=l.map (opA env)
 |[]=>rfl
 |x::r=>by
  unfold QfF;cases h:opB env x with
  |mk a=>rw[Vf,Qy h];show a::QfF env r=_;rw[Qca r]
def ptX(H:Qc):Bx->Option Lx
 |.mk (.rp cs)=>some (.mk cs)
 |.mk (.ptr i off)=>match YB H i with
  |some (.cells _ cs)=>some (QdL off cs)
  |_=>none
 |_=>none
theorem QkC{H:Qc}{p:A}{cs:List A}(h:ptX H (.mk p)=some (.mk cs)):Pts H p cs:=by
 unfold ptX at h;split at h
 .rename_i q;cases q;cases h;exact Pts.rp
 .rename_i i b q;cases q;split at h
  .rename_i a;rw[QaC]at a;simp only[Option.some.injEq]at h;exact Pts.cells a (Qcg h)
  .cases h
 .cases h
def Qcp(T:TyX)(o:Oper)(env:Env)(H:Qc):Option A:=
 match o.op with
 |.move x=>match opB env x with|.mk a=>some a
 |.assign x=>match opB env x with|.mk a=>some a
 |.nilCheck x=>nlB (opB env x)
 |.extract x i=>exB (opB env x) i
 |.unOp u _ x=>unB u (opB env x)
 |.pick c x y=>piB (opB env c) (opB env x) (opB env y)
 |.binOp b _ x y _=>biB b (opB env x) (opB env y)
 |.fieldAddr t x f=>match QfM T.ty.fld t f with
  |none=>none
  |some off=>match opB env x with
   |.mk (.ptr i p)=>some (.ptr i (p+off))
   |.mk (.rp cs)=>match QdL off cs with
    |.mk r=>some (.rp r)
   |_=>none
 |.load t x=>match QbG T.ty.agg t with
  |none=>none
  |some (b,n)=>match x with
   |.global g=>match YB QgB g with
    |some zs=>bif b&&Nat.beq zs.length n then(match fl (zs.map (A.int .i64))with|.mk l=>some (.agg l))else none
    |none=>none
   |x=>match ptX H (opB env x)with
    |none=>none
    |some (.mk cs)=>match b with
     |true=>(match fl (cs.take n)with|.mk l=>bif Nat.beq l.length n then some (.agg l)else none)
     |false=>(match cs with|[]=>none|a::_=>some a)
 |.build t parts=>match QbG T.ty.zer t with
  |none=>none
  |some (zs,pl)=>match Qhh env pl zs parts.toList with
   |some cs=>some (.agg cs)
   |none=>none
 |.makeFunc f first cap=>match fl (QfF env first.toList),fl (QfF env cap.toList)with
  |.mk l,.mk l'=>some (.fn f l l')
 |.call c=>match c with
  |{callee:=.builtin .len,args:=⟨[x]⟩,argTypes:=⟨[t]⟩}=>bif Qcy T.sl t then(match opB env x with
   |.mk (.osl _ 0 n _)=>some (.int .i64 n)
   |_=>none)else none
  |_=>none
 |_=>none
theorem Qau{P:Program}{T:TyX}(s:Qbk P T){o:Oper}{env:Env}{H:Qc}{x:A}(h:Qcp T o env H=some x):OpV P o env H x:=by
 unfold Qcp at h;split at h
 .rename_i y a;exact Qbo a (by unfold svB;exact h)
 .rename_i y a;exact Qbo a (by unfold svB;exact h)
 .rename_i y a;exact Qbo a (by unfold svB;exact h)
 .rename_i y i a;exact Qbo a (by unfold svB;exact h)
 .rename_i u t y a;exact Qbo a (by unfold svB;exact h)
 .rename_i c y z a;exact Qbo a (by unfold svB;exact h)
 .rename_i b t y z u a;exact Qbo a (by unfold svB;exact h)
 .rename_i t y f a;split at h
  .cases h
  .rename_i w m;obtain⟨n,J⟩:=s.ty.fld _ (QfL m);split at h
   .rename_i i p E;cases h;exact Ye J a (Qy E)
   .rename_i d E;cases q:QdL w d with
    |mk r=>rw[q]at h;cases h;exact Qs J a (Qy E) (Qcg q)
   .cases h
 .rename_i t y a;split at h
  .cases h
  .rename_i b n O;obtain⟨j,l⟩:=s.ty.agg _ (Qav O);split at h
   .rename_i g;split at h
    .rename_i L G;rw[QaC]at G;cases q:(b&&Nat.beq L.length n)with
     |false=>rw[q]at h;cases h
     |true=>
      rw[q,QbM]at h;cases h;simp only[XU]at q;obtain⟨rfl,B⟩:=q;exact QeJ j l G (XO B) a
    .cases h
   .cases e:opB env y with
    |mk p=>
     rw[e]at h;split at h
     .cases h
     .rename_i d N;have F:=QkC N;cases b with
      |true=>
       simp only[QbM]at h;cases q:Nat.beq (d.take n).length n with
       |false=>rw[q]at h;cases h
       |true=>
        rw[q]at h;cases h;exact Qj a j l (Qy e) F rfl (XO q)
      |false=>
       cases d with
       |nil=>cases h
       |cons v d=>cases h;exact OpV.load a j (Qy e) F
 .rename_i t parts a;split at h
  .cases h
  .rename_i L V R;obtain⟨⟨z,j,l⟩,Q⟩:=s.ty.zer _ (Qav R);split at h
   .rename_i d m;cases h;rw[QfP]at m;exact OpV.build j l Q (by rw[a]) m
   .cases h
 .rename_i f first cap a
  simp only[QbM]at h;cases h;rw[Qca,Qca];exact OpV.makeFunc (first:=first.toList) (cap:=cap.toList) (by rw[a]) rfl rfl
 .rename_i c a;split at h
  .rename_i y t;cases q:Qcy T.sl t with
   |false=>rw[q]at h;cases h
   |true=>
    rw[q]at h;simp only[Vk]at h;obtain⟨W,M⟩:=s.sl t (QeZ q);split at h
    .rename_i i n k B;cases h;exact QhZ M a rfl (Qy B)
    .cases h
  .cases h
 .cases h
def stX(T:TyX)(h0 N:Nat)(all:Array Oper)(o:Oper)(env:Env)(H:Qc):Option (Env×Qc):=
 match YD all o env with
 |none=>none
 |some false=>match o.dst with
  |none=>none
  |some d=>bif Nat.blt d N then some (up env d (.tup []),H)else none
 |some true=>match o.dst with
  |none=>match o.op with
   |.store t x y=>match opB env x,QbG T.ty.agg t with
    |.mk (.ptr i off),some (_,n)=>match YB H i with
     |some (.cells S cs)=>match opB env y with
      |.mk a=>match fl (QX a)with
       |.mk vs=>bif Nat.ble h0 H.length&&(Q0 a&&(Nat.beq vs.length n&&(vs.all Yb&&Nat.ble (off+n) cs.length)))then(match fl (splice cs off vs)with
        |.mk cs'=>match fb (H.set i (.cells S cs'))with
         |.mk H'=>some (env,H'))else none
     |_=>none
    |_,_=>none
   |_=>none
  |some d=>bif Nat.blt d N then(match o.op with
   |.alloc t=>match QbG T.al t with
    |some v=>bif Nat.ble h0 H.length then(match fn H 0,fl (QX v)with
     |.mk n,.mk cs=>match fb (H++[.cells t cs])with
      |.mk H'=>some (up env d (.ptr n 0),H'))else none
    |none=>none
   |.box t x=>match opB env x with
    |.mk a=>bif Nat.ble h0 H.length&&(Q0 a&&(QX a).all Yb)then(match fn H 0,fl (QX a)with
     |.mk n,.mk cs=>match fb (H++[.cells t cs])with
      |.mk H'=>some (up env d (.ptr n 0),H'))else none
   |_=>match Qcp T o env H with
    |some a=>some (up env d a,H)
    |none=>none)else none
section
variable {P:Program} {T:TyX} {h0 N:Nat} {all:Array Oper} {l l':List Oper} {env env':Env} {H H':Qc} {Q:Qv}
theorem Qim(u:Qbk P T){o:Oper}(h:stX T h0 N all o env H=some (env',H'))(k:WO P h0 N all l env' H' Q):WO P h0 N all (o::l) env H Q:=by
 unfold stX at h;split at h
 .cases h
 .rename_i r;have g:=QH r;split at h
  .cases h
  .rename_i d f;cases q:Nat.blt d N with
   |false=>rw[q]at h;cases h
   |true=>rw[q]at h;cases h;exact WO.skip g f q k
 .rename_i r;have g:=QH r;split at h
  .rename_i f;split at h
   .rename_i t x y j;split at h
    .rename_i i p b n W G;split at h
     .rename_i S cs hH;rw[QaC]at hH;cases e:opB env y with
      |mk a=>
       rw[e]at h;simp only[QbM,Qhj]at h;generalize hc:(Nat.ble h0 H.length&&(Q0 a&&(Nat.beq (QX a).length n&&((QX a).all Yb&&Nat.ble (p+n) cs.length))))=c at h;cases c with
       |false=>cases h
       |true=>
        cases h;simp only[XU]at hc;obtain⟨s,w,m,E,V⟩:=hc;obtain⟨_,O⟩:=u.ty.agg _ (Qav G);exact Qba (XP s) g f (OpU.store j (Qy W) hH O (Qy e) w rfl (XO m) E V rfl) k
     .cases h
    .cases h
   .cases h
  .rename_i d f;cases q:Nat.blt d N with
   |false=>rw[q]at h;cases h
   |true=>
    rw[q]at h;simp only[Vk]at h;split at h
    .rename_i t j;split at h
     .rename_i v F;cases c:Nat.ble h0 H.length with
      |false=>rw[c]at h;cases h
      |true=>
       rw[c]at h;simp only[QbM,Qhj,QiR,Vk,Xv]at h;cases h;obtain⟨⟨z,J,R⟩,B,L⟩:=u.al _ (Qav F);exact YH (XP c) g f q (Qd0 J R j B rfl L) k
     .cases h
    .rename_i t x j;cases e:opB env x with
     |mk a=>
      rw[e]at h;simp only[QbM,Qhj,QiR,Xv]at h;generalize hc:(Nat.ble h0 H.length&&(Q0 a&&(QX a).all Yb))=c at h;cases c with
      |false=>cases h
      |true=>
       cases h;simp only[XU]at hc;obtain⟨s,w,m⟩:=hc;exact YH (XP s) g f q (OpH.box j (Qy e) w rfl m) k
    .split at h
     .rename_i a M;cases h;exact Qz g f q (Qau u M) k
     .cases h
end
theorem yc{α:Type}{p:α->Prop}{a:α}{l:List α}(h:p a)(k:∀x∈l,p x):∀x∈a::l,p x:=List.forall_mem_cons.2 ⟨h,k⟩
theorem FA{P:Program}{T f off n:Nat}{fs:Array Field}{a:Field}(g:∀w,(underlying T).run P w=.ok (.struct fs) w)(b:fs[f]?=some a)(d:∀w,(sizeOf a.type).run P w=.ok n w)(e:a.offset=off:=by exact rfl)(h5:n≠0:=by decide):QD P T f off n:=⟨_,_,g,b,e,d,h5⟩
theorem Qbq:∀(π:List Nat) (H:Qc) (xs:List Blk),π.map (λp=>H[p]?)=xs.map some->Ya H π xs=H
 |[],H,xs,h=>by
  have:xs=[]:=by cases xs with
   |nil=>rfl
   |cons x xs=>simp at h
  subst this;simp[Ya]
 |p::π,H,[],h=>by simp at h
 |p::π,H,x::xs,h=>by
  simp only[Vf,List.cons.injEq]at h;have e:H.set p x=H:=by
   apply List.ext_getElem?;intro i;rw[Xb];by_cases q:p=i
   .subst q;rw[Vo rfl,h.1];have:=(XJ.1 h.1).1;rw[Vo this]
   .rw[Vn q]
  unfold Ya;rw[e];exact Qbq π H xs h.2
def Qgm:A->Option Bx
 |.bool b=>some (.mk (.bool b))
 |.int k n=>some (.mk (.int k n))
 |.str s=>some (.mk (.str s))
 |.rsl k es=>some (.mk (.rsl k es))
 |_=>none
theorem Qg4{v a:A}(h:Qgm v=some (.mk a))(ρ:Nat->Nat):Yk ρ v=a:=by
 cases v<;>first|(cases h;rfl)|cases h
theorem Pc{P:Program}{h0 N:Nat}{all:Array Oper}{o:Oper}{l:List Oper}{env:Env}{H:Qc}{Q:Qv}{d:Nat}{f:FuncId}{args b:List A}{Hc:Qc}{v g:A}(π:List Nat)(i:o.dst=some d)(e:OpC P o env H f args)(h:C P f b Hc (λa H1=>a=v/\H1=Hc))(j:Qgm v=some (.mk g))
  (k:WO P h0 N all l (up env d g) H Q)
  (hargs:args=Qaa (rho π H.length) b:=by exact rfl)(hH:π.map (λp=>H[p]?)=(Hc.map (QN (rho π H.length))).map some:=by exact rfl)(hπ:π.Nodup:=by decide)
  (hg:Qm all o env true:=by exact rfl)(hN:Nat.blt d N=true:=by exact rfl)(hh:Nat.ble h0 H.length=true:=by exact rfl):WO P h0 N all (o::l) env H Q:=by
 refine Qu π e h ?_ hargs hH hπ hg i hN hh;rintro r H1 ⟨rfl,rfl⟩;rw[Qg4 j,Qbq π H _ hH];exact k
theorem Yr{i k:Nat}{es:List (List A)}:∀H:Qc,FzH i k es H H
 |[]=>.nil
 |_::r=>.keep (Yr r)
def foN:Nat->FN
 |0=>.mk 0
 |n+1=>match foN n with
  |.mk m=>.mk (m+1)
theorem QdE:∀n,foN n=.mk n
 |0=>rfl
 |n+1=>by unfold foN;rw[QdE n]
mutual
def foA:A->Bx
 |.agg cs=>match foL cs with
  |.mk l=>.mk (.agg l)
 |.tup cs=>match foL cs with
  |.mk l=>.mk (.tup l)
 |.fn f a c=>match foL a,foL c with
  |.mk l,.mk l'=>.mk (.fn f l l')
 |.iface t v=>match foA v with
  |.mk v'=>.mk (.iface t v')
 |.ptr i off=>match foN i with
  |.mk i'=>.mk (.ptr i' off)
 |.osl i o n k=>match foN i with
  |.mk i'=>.mk (.osl i' o n k)
 |.map i=>match foN i with
  |.mk i'=>.mk (.map i')
 |a=>.mk a
def foL:List A->FL
 |[]=>.mk []
 |a::r=>match foA a,foL r with
  |.mk a',.mk r'=>.mk (a'::r')
end
mutual
theorem Qe5:∀a:A,foA a=.mk a
 |.agg cs=>by unfold foA;rw[QbX cs]
 |.tup cs=>by unfold foA;rw[QbX cs]
 |.fn f a c=>by unfold foA;rw[QbX a,QbX c]
 |.iface t v=>by unfold foA;rw[Qe5 v]
 |.ptr i off=>by unfold foA;rw[QdE]
 |.osl i o n k=>by unfold foA;rw[QdE]
 |.map i=>by unfold foA;rw[QdE]
 |.any|.bool _|.int _ _|.str _|.nilp|.rp _|.nils|.rsl _ _|.nilf|.nilif|.nilm=>by rfl
theorem QbX:∀l:List A,foL l=.mk l
 |[]=>by rfl
 |a::r=>by unfold foL;rw[Qe5 a,QbX r]
end
inductive FE2 where
 |mk (l:List (List A))
def foE:List (List A)->FE2
 |[]=>.mk []
 |a::r=>match foL a,foE r with
  |.mk a',.mk r'=>.mk (a'::r')
theorem QiQ:∀l,foE l=.mk l
 |[]=>rfl
 |a::r=>by unfold foE;rw[QbX,QiQ r]
def foH:List Blk->FB
 |[]=>.mk []
 |b::r=>match foH r with
  |.mk r'=>match b with
   |.cells t cs=>match foL cs with
    |.mk l=>.mk (.cells t l::r')
   |.rowr t k es=>match foE es with
    |.mk l=>.mk (.rowr t k l::r')
   |.dead=>.mk (.dead::r')
   |.row t k es=>.mk (.row t k es::r')
   |.map es=>.mk (.map es::r')
   |.iter c es=>.mk (.iter c es::r')
   |.fmap es=>.mk (.fmap es::r')
   |.mapO fz t k es=>.mk (.mapO fz t k es::r')
   |.mapP es=>.mk (.mapP es::r')
   |.frow t k es=>.mk (.frow t k es::r')
   |.ents t a b es=>match foN a,foN b with
    |.mk a',.mk b'=>.mk (.ents t a' b' es::r')
theorem QgC:∀l,foH l=.mk l
 |[]=>rfl
 |b::r=>by
  unfold foH;rw[QgC r];cases b<;>simp only[QbX,QiQ,QdE]
def foS(env:Env)(H:Qc):Option (Env×Qc):=
 match foH H with
 |.mk H'=>match env with
  |[]=>some ([],H')
  |(d,a)::e=>match foA a with
   |.mk a'=>some ((d,a')::e,H')
theorem QkX(env:Env)(H:Qc):foS env H=some (env,H):=by
 unfold foS;rw[QgC];cases env with
 |nil=>rfl
 |cons p e=>obtain⟨d,a⟩:=p;simp only[Qe5]
theorem FE{P:Program}{h0 N:Nat}{all:Array Oper}{l:List Oper}{env env':Env}{H H':Qc}{Q:Qv}(h:foS env H=some (env',H'))(k:WO P h0 N all l env' H' Q):WO P h0 N all l env H Q:=by
 rw[QkX]at h;cases h;exact k
def entB(b1 b2:Nat):List (List A)->Option (List Ent)
 |[]=>some []
 |[.ptr b off,.int .i64 lo,.int .i64 hi]::r=>match entB b1 b2 r with
  |none=>none
  |some l=>match Nat.beq b b2 with
   |true=>some (⟨true,off,lo,hi⟩::l)
   |false=>match Nat.beq b b1 with
    |true=>some (⟨false,off,lo,hi⟩::l)
    |false=>none
 |_=>none
theorem Qj1{b1 b2:Nat}:∀{es:List (List A)} {l:List Ent},entB b1 b2 es=some l->l.map (eC b1 b2)=es:=by
 intro es
 induction es with
 |nil=>intro l h;cases h;rfl
 |cons e r a=>
  intro l h;unfold entB at h;split at h
  .cases ‹_=[]›
  .rename_i b f lo j i q;cases q;split at h
   .cases h
   .rename_i g d;have e:=a d;split at h
    .rename_i q;cases h;have:=XO q;subst this;rw[Vf,e];rfl
    .split at h
     .rename_i q;cases h;have:=XO q;subst this;rw[Vf,e];rfl
     .cases h
  .cases h
theorem TE{P:Program}{h0 N:Nat}{all:Array Oper}{l:List Oper}{env:Env}{H:Qc}{Q:Qv}{t:Nat}{es:List (List A)}{L:List Ent}(i b1 b2:Nat)(hH:H[i]?=some (.rowr t 3 es))(h:entB b1 b2 es=some L)
  (k:WO P h0 N all l env (H.set i (.ents t b1 b2 L)) Q):WO P h0 N all l env H Q:=WO.le (Qh8 hH (Qj1 h)) k
theorem R1{P:Program}{h0:Nat}{fn:Func}{env:Env}{H Hc:Qc}{v:A}(s:Nat)(hr:fn.results= #[.tmp s])(hle:Le h0 env H [(s,v)] Hc):Qcj P h0 fn (λa H=>a=v/\H=Hc) .ret env H:=
 ⟨[(s,v)],Hc,v,hle,QbO.one hr (by show lk [(s,v)] s=v;unfold lk;rw[Vx];rfl),rfl,rfl⟩
theorem R2{P:Program}{h0:Nat}{fn:Func}{env:Env}{H Hc:Qc}{v v':A}(s t:Nat)(hr:fn.results= #[.tmp s,.tmp t])(hn:Nat.beq t s=false)(hle:Le h0 env H [(s,v),(t,v')] Hc):Qcj P h0 fn (λa H=>a=.tup [v,v']/\H=Hc) .ret env H:=
 ⟨[(s,v),(t,v')],Hc,_,hle,QhQ hr (by show lk [(s,v),(t,v')] s=v;unfold lk;rw[Vx];rfl) (by show lk [(s,v),(t,v')] t=v';unfold lk lk;rw[hn,Vx];rfl),rfl,rfl⟩
theorem FzA.o{i k n:Nat}{es:List (List A)}(a:n=es.length:=by first|exact(XX ..).symm|exact rfl):FzA i k es (.osl i 0 n k) (.rsl k es):=FzA.own a
end Go.Sw
namespace Go.Sw
theorem Le.env{h0:Nat}{env env':Env}{H:Qc}(h:∀s,lk env' s=.any\/lk env' s=lk env s):Le h0 env H env' H:=by
 intro d b σ N a w r;refine⟨b,σ,⟨r.sim,λs=>?_,r.size,r.defers⟩,λ_ q=>q,rfl⟩;rcases h s with h|h
 .rw[h];trivial
 .rw[h];exact r.env s
def Qjt(env:Env):Env->Prop
 |[]=>True
 |(s,a)::r=>lk env s=a/\Qjt env r
theorem Qjt.ok{env:Env}:∀{env':Env},Qjt env env'->∀s,lk env' s=.any\/lk env' s=lk env s
 |[],_,s=>.inl rfl
 |(d,a)::e,⟨h1,h2⟩,s=>by
  by_cases q:s=d
  .subst q;right;simp only[lk,Vx,Vk];exact h1.symm
  .have:Nat.beq s d=false:=by
    rw[VE];intro b;exact q (XO b)
   simp only[lk,this,Vl];exact Qjt.ok h2 s
theorem Lw{h0:Nat}{env env':Env}{H:Qc}(h:Qjt env env'):Le h0 env H env' H:=Le.env h.ok
theorem QkA(n i:Nat):rho (List.range n) n i=i:=by
 unfold rho;by_cases h:i<n
 .rw[List.getElem?_range h]
 .rw[XM (by rw[Xs];omega)];simp only[Xs];omega
mutual
theorem QeW{ρ:Nat->Nat}(h:∀i,ρ i=i):∀a:A,Yk ρ a=a
 |.ptr i off=>by simp[Yk,h]
 |.osl i o n k=>by simp[Yk,h]
 |.agg cs=>by simp[Yk,QaP h cs]
 |.fn f a c=>by simp[Yk,QaP h a,QaP h c]
 |.iface t v=>by simp[Yk,QeW h v]
 |.map i=>by simp[Yk,h]
 |.tup vs=>by simp[Yk,QaP h vs]
 |.any|.bool _|.int _ _|.str _|.nilp|.rp _|.nils|.rsl _ _|.nilf|.nilif|.nilm=>by rfl
theorem QaP{ρ:Nat->Nat}(h:∀i,ρ i=i):∀l:List A,Qaa ρ l=l
 |[]=>rfl
 |a::r=>by simp[Qaa,QeW h a,QaP h r]
end
theorem Qg8{ρ:Nat->Nat}(h:∀i,ρ i=i):∀l:List (List A),QeV ρ l=l
 |[]=>rfl
 |a::r=>by simp[QeV,QaP h a,Qg8 h r]
theorem Qg7{ρ:Nat->Nat}(h:∀i,ρ i=i):∀l:List (A×A),Qgq ρ l=l
 |[]=>rfl
 |a::r=>by simp[Qgq,QeW h,Qg7 h r]
theorem QjH{ρ:Nat->Nat}(h:∀i,ρ i=i):∀b:Blk,QN ρ b=b
 |.cells t cs=>by simp[QN,QaP h cs]
 |.rowr t k es=>by simp[QN,Qg8 h es]
 |.ents t a b es=>by simp[QN,h]
 |.mapP es=>by simp[QN,Qg7 h es]
 |.dead|.row _ _ _|.map _|.iter _ _|.fmap _|.mapO _ _ _ _|.frow _ _ _=>by rfl
theorem Pw{P:Program}{h0 N:Nat}{all:Array Oper}{o:Oper}{l:List Oper}{env:Env}{H:Qc}{Q:Qv}{d:Nat}{f:FuncId}{args:List A}{v j:A}(s:o.dst=some d)(g:OpC P o env H f args)(n:C P f args H (λa H1=>a=v/\H1=H))(t:Qgm v=some (.mk j))
  (hg:Qm all o env true)(m:Nat.blt d N=true)(u:h0<=H.length)(k:WO P h0 N all l (up env d j) H Q):WO P h0 N all (o::l) env H Q:=by
 have e:=QkA H.length;have w:H.map (QN (rho (List.range H.length) H.length))=H:=by
  conv=>rhs;rw[<- List.map_id H]
  exact List.map_congr_left λb _=>QjH e b
 have h:(List.range H.length).map (λp=>H[p]?)=(H.map (QN (rho (List.range H.length) H.length))).map some:=by
  rw[w];apply List.ext_getElem?;intro i;by_cases q:i<H.length
  .simp[q]
  .simp[q]
 refine Qu (List.range H.length) g n ?_ (by rw[QaP e]) h List.nodup_range hg s m (XQ u);rintro r H1 ⟨rfl,rfl⟩;rw[Qg4 t,Qbq _ _ _ h];exact k
def ixE(d:Nat)(g:Ground):Edge:={on:=d,ground:=g}
def ixO(d:Nat)(op:Op)(t:Nat)(pos:String)(af:Array Edge):Oper:={dst:=some d,op:=op,type:=t,pos:=pos,after:=af,guard:=none}
def QkV(ts te tf tI tB:Nat):Code:=
 (Code.region 0 [ixO 4 (.assign (.const (.int .i64 0))) tI "slices.go:107" #[]].toArray false).seq
  (((Code.region 1 [ixO 6 (.move (.tmp 0)) ts "slices.go:108" #[],ixO 7 (.call {callee:=.builtin .len,args:= #[.tmp 6],argTypes:= #[ts]}) tI "slices.go:108" #[ixE 0 .data],ixO 8 (.move (.const (.int .i64 0))) tI "slices.go:108" #[]].toArray false).seq
   (.block 0 (.loop ((Code.region 2 [ixO 9 (.binOp .lss tI (.tmp 8) (.tmp 7) tI) 0 "slices.go:108" #[]].toArray false).seq
    ((Code.cond (.tmp 9) .skip (.exit 0)).seq
    ((Code.block 1 ((Code.region 3 [ixO 10 (.move (.tmp 8)) tI "slices.go:108" #[],ixO 5 (.assign (.tmp 10)) tI "slices.go:108" #[ixE 0 .data,ixE 0 .phase]].toArray false).seq
     ((Code.region 4 [ixO 11 (.move (.tmp 1)) tf "slices.go:109" #[],ixO 12 (.move (.tmp 0)) ts "slices.go:109" #[],ixO 13 (.move (.tmp 5)) tI "slices.go:109" #[],ixO 14 (.indexAddr ts (.tmp 12) (.tmp 13)) 0 "slices.go:109" #[ixE 1 .data,ixE 2 .data],
       ixO 15 (.load te (.tmp 14)) te "slices.go:109" #[ixE 3 .data],ixO 16 (.call {callee:=.value (.tmp 11),args:= #[.tmp 15],argTypes:= #[te]}) tB "slices.go:109" #[ixE 0 .data,ixE 4 .data]].toArray false).seq
      (Code.cond (.tmp 16) ((Code.region 5 [ixO 17 (.move (.tmp 5)) tI "slices.go:110" #[],ixO 4 (.assign (.tmp 17)) tI "slices.go:110" #[ixE 0 .data,ixE 0 .phase]].toArray false).seq .ret) .skip)))).seq
     (Code.region 6 [ixO 18 (.binOp .add tI (.tmp 8) (.const (.int .i64 1)) tI) tI "slices.go:108" #[],ixO 8 (.move (.tmp 18)) tI "slices.go:108" #[ixE 0 .data]].toArray false))))))).seq
  ((Code.region 7 [ixO 4 (.assign (.const (.int .i64 (-1)))) tI "slices.go:113" #[]].toArray false).seq .ret))
theorem Q7{P:Program}{T:Type}{e:T->List A}{el:T->A}{R z tf X tB k:Nat}{O m:FuncId}{fn:Func}{i:List A}{Hc:Qc}{L:List T}{g:T->Option Bool}{n:Nat}{r:Int}
  (hf:P.funcs[O]?=some fn)(Y:fn.body=some (QkV R z tf X tB))(W:fn.ntmps=19)(V:fn.results= #[.tmp 4])(Q:∀w,(underlying R).run P w=.ok (.slice z) w)(hs:∀w,(sizeOf z).run P w=.ok k w)
  (B:∀(o:Oper) (env:Env) (H:Qc) (x:T),o.op=.load z (.tmp 14)->opA env (.tmp 14)=.rp (e x)->OpV P o env H (el x))
  (M:∀(a:Array Value) (w:World),(callFunc m a).run P w=.ok (.enter m a) w)
  (G:∀x b,g x=some b->C P m (el x::i) Hc (λa H=>a=.bool b/\H=Hc))
  (h:((iter (λs:Int=>bif decide (s<(L.length:Int))then(idx L s).bind λx=>(g x).bind λb=>(bif b then some (Ctl.done (Ctl.done s))else some (Ctl.cont (IntKind.i64.wrap (s+1))))else some (Ctl.done (Ctl.cont ()))) n (0:Int):Option (Ctl Unit Int)).bind λb=>match b with|.cont _=>some (-1)|.done s=>some s)=some r):
  C P O [.rsl k (L.map e),.fn (.func m) [] i] Hc (λa H=>a=.int .i64 r/\H=Hc):=by
 refine Qa hf Y W rfl ?_;refine Rg (S rfl (Nx (TC.seq (Rg (S rfl (LnM Q rfl (S rfl (Nx (Bd h λF J h=>?_)))))))));refine Qfd (b:=F) (λ_=>[]) (λ_=>Hc) ?_ (λsb10 env H hbe hle=>?_)
 .refine TC.block ?_;refine TC.loop (E:=λy=>[(0,.rsl k (L.map e)),(1,.fn (.func m) [] i),(7,.int .i64 (L.length:Int)),(8,.int .i64 y)]) (Hp:=λ_=>Hc) J ?_ ?_
  .exact Lw ⟨rfl,rfl,rfl,rfl,trivial⟩
  intro y aa d l;refine Rg (S rfl (Nx (TC.seq (YT rfl d (λq d=>?_) (λq d=>?_)))))
  .refine ExX (Qx d ?_);obtain rfl:=l _ (Oi d).symm;exact bloE (QG rfl (Lw trivial))
  refine SkN (TC.seq (TC.block (Rg (S rfl (S rfl (Nx (Rg (S rfl (S rfl (S rfl (Bd d λj t d=>Ix t Q hs rfl ?_)))))))))));refine Qz (x:=el j) rfl rfl rfl (B _ _ _ j rfl rfl) ?_;refine Bd d λN u d=>?_;refine Pw rfl (QaD (f:=m) (x:=.tmp 11) (xs:=[.tmp 15]) (vf:=[]) (vc:=i) (args:=el j::i) M rfl rfl rfl rfl) (G j N u) rfl rfl rfl (XR _) ?_;refine Nx (Cn rfl d (λp d=>?_) (λp d=>?_))
  .refine Rg (S rfl (S rfl (Nx (TC.ret (bloR (seqR (Yl d ?_)))))));obtain rfl:=l _ (Oi d).symm;refine bloR (QZ (seqR ?_));obtain rfl:=Oi h;exact R1 4 V (Lw ⟨rfl,trivial⟩)
  exact TC.skip (bloN (Qio (TC.region (S rfl (S rfl (WO.nil (Qt d (Lw ⟨rfl,rfl,rfl,rfl,trivial⟩))))))))
 subst hbe;refine Qio (TC.le hle (Rg (S rfl (Nx (TC.ret ?_)))));obtain rfl:=Oi h;exact R1 4 V (Lw ⟨rfl,trivial⟩)
end Go.Sw
namespace Go.Sw
inductive Kf where
 |seq (c:Code)
 |blo (id:Nat)
 |unr (c:Code)
inductive Cf where
 |code (c:Code)
 |ops (all:Array Oper) (l:List Oper)
 |out (x:AEx)
def kq(P:Program)(h0 N:Nat):List Kf->Qv->Qv
 |[],Q=>Q
 |.seq c::k,Q=>Seq P h0 N c (kq P h0 N k Q)
 |.blo id::k,Q=>Blo id (kq P h0 N k Q)
 |.unr c::k,Q=>QgJ P h0 N c (kq P h0 N k Q)
@[reducible] def Hd(P:Program)(h0 N:Nat):Cf->List Kf->Env->Qc->Qv->Prop
 |.code c,k,env,H,Q=>TC P h0 N c env H (kq P h0 N k Q)
 |.ops all l,k,env,H,Q=>WO P h0 N all l env H (kq P h0 N k Q)
 |.out x,k,env,H,Q=>kq P h0 N k Q x env H
def Qee(T:TyX)(h0 N:Nat):Cf->List Kf->Env->Qc->Option (Cf×List Kf×Env×Qc)
 |.code (.seq a b),k,env,H=>some (.code a,.seq b::k,env,H)
 |.code (.block id c),k,env,H=>some (.code c,.blo id::k,env,H)
 |.code (.loop c),k,env,H=>some (.code c,.unr c::k,env,H)
 |.code .skip,k,env,H=>some (.out .normal,k,env,H)
 |.code .ret,k,env,H=>some (.out .ret,k,env,H)
 |.code (.exit id),k,env,H=>some (.out (.exit id),k,env,H)
 |.code (.region id ⟨l⟩ false),k,env,H=>some (.ops ⟨l⟩ l,k,env,H)
 |.code (.cond x a b),k,env,H=>match opB env x with
  |.mk (.bool true)=>some (.code a,k,env,H)
  |.mk (.bool false)=>some (.code b,k,env,H)
  |_=>none
 |.ops all [],k,env,H=>some (.out .normal,k,env,H)
 |.ops all (o::l),k,env,H=>match stX T h0 N all o env H with
  |some (env',H')=>some (.ops all l,k,env',H')
  |none=>none
 |.out .normal,.seq c::k,env,H=>some (.code c,k,env,H)
 |.out (.exit i),.seq _::k,env,H=>some (.out (.exit i),k,env,H)
 |.out .ret,.seq _::k,env,H=>some (.out .ret,k,env,H)
 |.out .normal,.blo _::k,env,H=>some (.out .normal,k,env,H)
 |.out (.exit i),.blo id::k,env,H=>match Nat.beq i id with
  |true=>some (.out .normal,k,env,H)
  |false=>some (.out (.exit i),k,env,H)
 |.out .ret,.blo _::k,env,H=>some (.out .ret,k,env,H)
 |.out .normal,.unr c::k,env,H=>some (.code c,.unr c::k,env,H)
 |.out (.exit i),.unr _::k,env,H=>some (.out (.exit i),k,env,H)
 |.out .ret,.unr _::k,env,H=>some (.out .ret,k,env,H)
 |_,_,_,_=>none
def Qgp(T:TyX)(h0 N:Nat):Nat->Cf->List Kf->Env->Qc->Option (Cf×List Kf×Env×Qc)
 |0,c,k,env,H=>some (c,k,env,H)
 |n+1,c,k,env,H=>match Qee T h0 N c k env H with
  |some (c',k',env',H')=>Qgp T h0 N n c' k' env' H'
  |none=>none
section
variable {P:Program} {T:TyX} {h0 N:Nat} {Q:Qv}
theorem Qij(d:Qbk P T){c b:Cf}{k a:List Kf}{env env':Env}{H H':Qc}(h:Qee T h0 N c k env H=some (b,a,env',H'))(g:Hd P h0 N b a env' H' Q):Hd P h0 N c k env H Q:=by
 unfold Qee at h;split at h
 .cases h;exact TC.seq g
 .cases h;exact TC.block g
 .cases h;exact QhN g
 .cases h;exact TC.skip g
 .cases h;exact TC.ret g
 .cases h;exact TC.exit g
 .cases h;exact TC.region g
 .split at h
  .rename_i q;cases h;exact Qf4 (Qy q) rfl g
  .rename_i q;cases h;exact QdP (Qy q) rfl g
  .cases h
 .cases h;exact WO.nil g
 .split at h
  .rename_i q;cases h;exact Qim d q g
  .cases h
 .cases h;exact Qio g
 .cases h;exact seqX g
 .cases h;exact seqR g
 .cases h;exact bloN g
 .split at h
  .rename_i q;cases h;have:=XO q;subst this;exact bloE g
  .rename_i q;cases h;exact bloX q g
 .cases h;exact bloR g
 .cases h;exact unrN g
 .cases h;exact unrX g
 .cases h;exact unrR g
 .cases h
theorem Qb7(hT:Qbk P T):∀(n:Nat) {c c':Cf} {k k':List Kf} {env env':Env} {H H':Qc},Qgp T h0 N n c k env H=some (c',k',env',H')->Hd P h0 N c' k' env' H' Q->Hd P h0 N c k env H Q
 |0,c,c',k,k',env,env',H,H',h,g=>by cases h;exact g
 |n+1,c,c',k,k',env,env',H,H',h,g=>by
  unfold Qgp at h;split at h
  .rename_i e;exact Qij hT e (Qb7 hT n h g)
  .cases h
theorem QgZ{env:Env}{s:Nat}{a:A}(h:lk env s=a):∀t,lk (up env s a) t=lk env t:=by
 intro t;simp only[up,lk];cases q:Nat.beq t s with
 |true=>have:=XO q;subst this;exact h.symm
 |false=>rfl
theorem Is{α:Type}{all:Array Oper}{l:List Oper}{env:Env}{H:Qc}{b:Bool}{x y:Option α}{r:α}(s:Nat)(h:(bif b then x else y)=some r)(d:lkB env s=.mk (.bool b))
  (t:b=true->x=some r->WO P h0 N all l (up env s (.bool true)) H Q)(e:b=false->y=some r->WO P h0 N all l (up env s (.bool false)) H Q):WO P h0 N all l env H Q:=by
 have a:=Qgv d;cases b with
 |true=>exact WO.le (Le.env λt=>.inr (QgZ a t)) (t rfl h)
 |false=>exact WO.le (Le.env λt=>.inr (QgZ a t)) (e rfl h)
theorem Ct3E{S B1:Type}{A B C:Code}{env:Env}{H:Qc}{k:List Kf}{b:Ctl S B1}(Eb:S->Env)(Hb:S->Qc)(h:TC P h0 N A env H (kq P h0 N [.seq B] (Qd4 h0 b Eb Hb (kq P h0 N (.seq C::k) Q))))(g:∀s env H,b=.cont s->Le h0 env H (Eb s) (Hb s)->kq P h0 N (.seq C::k) Q .normal env H):TC P h0 N (.seq A (.seq B C)) env H (kq P h0 N k Q):=
 Qjh Eb Hb h g
end
def dstN(o:Oper)(i:Nat):Nat:=match o.dst with|some d=>d|none=>1000000+i
def Qa1:Nat->Nat->List Oper->List Nat
 |0,_,_=>[]
 |_+1,_,[]=>[]
 |m+1,i,o::l=>dstN o i::Qa1 m (i+1) l
def Q3(af:List Nat):Nat->List Nat->List A->Env->Env
 |j,d::ds,x::xs,e=>(d,bif Qcy af j then x else .any)::Q3 af (j+1) ds xs e
 |j,d::ds,[],e=>(d,.any)::Q3 af (j+1) ds [] e
 |_,[],_,e=>e
theorem Qd5{l:List Nat}{t:Nat}:Qcy l t=l.contains t:=by
 induction l with
 |nil=>rfl
 |cons a r d=>
  unfold Qcy;rw[List.contains_cons,d];cases q:Nat.beq a t with
  |true=>have:=XO q;subst this;simp
  |false=>
   have b:t≠a:=λz=>by subst z;rw[Vx]at q;cases q
   simp[b]
theorem Qhl{af:List Nat}{env0:Env}{s:Nat}:∀(a:List Nat) (xs g:List A) (b:Nat),
  (∃(j:Nat) (x:A),af.contains (b+j)=true/\a[j]?=some s/\(xs++g)[j]?=some x/\lk (Q3 af b a xs env0) s=x)\/lk (Q3 af b a xs env0) s=.any\/(a.contains s=false/\lk (Q3 af b a xs env0) s=lk env0 s):=by
 intro a
 induction a with
 |nil=>intro xs g b;right;right;exact⟨rfl,by cases xs<;>rfl⟩
 |cons d a m=>
  intro xs g b;have next:∀(e:List A),(∃(j:Nat) (x:A),af.contains (b+1+j)=true/\a[j]?=some s/\(e++g)[j]?=some x/\lk (Q3 af (b+1) a e env0) s=x)->∀p,(∃(j:Nat) (x:A),af.contains (b+j)=true/\(d::a)[j]?=some s/\(p::e++g)[j]?=some x/\lk (Q3 af (b+1) a e env0) s=x):=by
   rintro e ⟨j,x,i,k,l,n⟩ p;exact⟨j+1,x,by rw[show b+(j+1)=b+1+j by omega];exact i,by simpa using k,by simpa using l,n⟩
  cases xs with
  |nil=>
   cases q:Nat.beq s d with
   |true=>right;left;simp only[Q3,lk,q,Vk]
   |false=>
    have f:s≠d:=λz=>by subst z;rw[Vx]at q;cases q
    simp only[Q3,lk,q,Vl];rcases m [] [] (b+1)with⟨j,x,i,k,l,n⟩|h|⟨i,k⟩
    .simp at l
    .exact .inr (.inl h)
    .exact .inr (.inr ⟨by rw[List.contains_cons,i];simpa using f,k⟩)
  |cons x xs=>
   cases q:Nat.beq s d with
   |true=>
    have:=XO q;subst this;simp only[Q3,lk,q,Vk];cases c:Qcy af b with
    |true=>left;exact⟨0,x,by rw[<- Qd5];exact c,rfl,rfl,rfl⟩
    |false=>right;left;rfl
   |false=>
    have f:s≠d:=λz=>by subst z;rw[Vx]at q;cases q
    simp only[Q3,lk,q,Vl];rcases m xs g (b+1)with h|h|⟨i,k⟩
    .exact .inl (next xs h x)
    .exact .inr (.inl h)
    .exact .inr (.inr ⟨by rw[List.contains_cons,i];simpa using f,k⟩)
section
variable {P:Program} {T:TyX} {h0 N m:Nat} {l:List Oper} {ds:List Nat} {env:Env} {H:Qc} {Q:Qv} {K:List Oper->Env->Qc->Prop}
def DS(P:Program)(N m:Nat)(l:List Oper)(ds:List Nat)(env:Env)(H:Qc)(K:List Oper->Env->Qc->Prop)(r:List Oper)(xs:List A):Prop:=
 r=l.drop xs.length->∃ys,xs.length+ys.length=m/\(∀j,xs.length<=j->j<m->Ja P N l ds (xs++ys) env H.length H.length j H H)/\K (l.drop m) (Qat ds (xs++ys) env) H
theorem oqOf{xs:List A}:∀(c i:Nat),(∀j,i<=j->j<i+c->Ja P N l ds xs env H.length H.length j H H)->Oq P N l ds xs env H i c
 |0,i,_=>.n
 |c+1,i,h=>.c (h i (XR _) (by omega)) (oqOf c (i+1) λj h1 h2=>h j (by omega) (by omega))
theorem Qjy{id:Nat}{k:List Kf}(m:Nat)(n:P.follows .mixedOrders=true)(i:Go.Sw.draw0 l m N (Qa1 m 0 l)=true)(a:Nat.ble h0 H.length=true)
  (h:DS P N m l (Qa1 m 0 l) env H (λr e H=>WO P h0 N l.toArray r e H Q) l []):TC P h0 N (.region id l.toArray true) env H Q:=by
 obtain⟨g,f,b,d⟩:=h rfl;simp only[List.length_nil,Xu,Vd]at f b d;exact TC.draw0 m _ g n i (by rw[f];exact Vx m) a (oqOf m 0 λj _ q=>b j (XS _) (by omega)) d
theorem DS.done{xs:List A}{r:List Oper}(a:Nat.beq xs.length m=true)(h:K r (Qat ds xs env) H):DS P N m l ds env H K r xs:=by
 intro b;have e:=XO a;subst b;refine⟨[],by simpa using e,λj f d=>by omega,?_⟩;rw[<- e,Vc];exact h
theorem DS.add{xs:List A}{o:Oper}{r:List Oper}{x:A}(n:Nat.blt xs.length m=true)(g:∀ys,l[xs.length]?=some o->Ja P N l ds (xs++x::ys) env H.length H.length xs.length H H)(k:DS P N m l ds env H K r (xs++[x])):DS P N m l ds env H K (o::r) xs:=by
 intro b;have a:xs.length<l.length:=by
  rcases Vu xs.length l.length with q|q
  .exact q
  .rw[List.drop_eq_nil_of_le q]at b;cases b
 rw[Xo a]at b;cases b;obtain⟨ys,h,e,d⟩:=k (by simp);simp only[XY,XW,List.length_nil,Ve,VC,Vd]at h e d;refine⟨x::ys,by simp only[XW];omega,λj i f=>?_,d⟩;rcases Vu xs.length j with q|q
 .exact e j (by omega) f
 .obtain rfl:j=xs.length:=by omega
  exact g ys (XI a)
theorem QfK{xs a:List A}{x:A}:(xs++x::a)[xs.length]?=some x:=by simp
theorem DS.wo{xs:List A}{o:Oper}{r:List Oper}{x:A}{d:Nat}(h:WO P H.length N l.toArray [o] (Q3 (Qi o) 0 ds xs env) H (YJ (up (Q3 (Qi o) 0 ds xs env) d x) H))(k:DS P N m l ds env H K r (xs++[x]))
  (g:o.dst=some d:=by exact rfl)(hx:Nat.blt xs.length m=true:=by exact rfl):DS P N m l ds env H K (o::r) xs:=
 .add hx (λb n=>.woE o _ d x n g QfK (he:=by
  intro s;rcases Qhl (af:=Qi o) (env0:=env) (s:=s) ds xs (x::b) 0 with⟨j,y,a,e,f,i⟩|q|q
  .rw[Xu]at a;exact .inl ⟨j,y,a,e,f,i⟩
  .exact .inr (.inl q)
  .exact .inr (.inr q)) (hdd:=QcW H) (h:=h)) k
theorem DS.v{xs:List A}{o:Oper}{r:List Oper}{x:A}{d:Nat}(h:OpV P o (Q3 (Qi o) 0 ds xs env) H x)(k:DS P N m l ds env H K r (xs++[x]))(hg:Qm l.toArray o (Q3 (Qi o) 0 ds xs env) true:=by exact rfl)
  (hd:o.dst=some d:=by exact rfl)(hN:Nat.blt d N=true:=by exact rfl)(hx:Nat.blt xs.length m=true:=by exact rfl):DS P N m l ds env H K (o::r) xs:=
 .wo (Qz hg hd hN h (WO.nil YJ.mk)) k hd hx
def QbZ:List A->A->FL
 |[],x=>.mk [x]
 |a::r,x=>match QbZ r x with
  |.mk r'=>.mk (a::r')
theorem YN:∀(l:List A) (x:A),QbZ l x=.mk (l++[x])
 |[],x=>rfl
 |a::r,x=>by unfold QbZ;rw[YN r];rfl
def QfA(T:TyX)(N m:Nat)(l:List Oper)(ds:List Nat)(env:Env)(H:Qc):Nat->Nat->List Oper->List A->Option (List Oper×List A)
 |0,_,r,xs=>some (r,xs)
 |_+1,_,[],_=>none
 |n+1,i,o::r,xs=>match Nat.blt i m with
  |false=>none
  |true=>match o.dst with
   |none=>none
   |some d=>match Nat.blt d N with
    |false=>none
    |true=>match YD ⟨l⟩ o (Q3 (Qi o) 0 ds xs env)with
     |none=>none
     |some false=>match QbZ xs (.tup [])with
      |.mk xs'=>QfA T N m l ds env H n (i+1) r xs'
     |some true=>match Qcp T o (Q3 (Qi o) 0 ds xs env) H with
      |none=>none
      |some x=>match QbZ xs x with
       |.mk xs'=>QfA T N m l ds env H n (i+1) r xs'
theorem Qdr(hT:Qbk P T):∀(n i:Nat) {r r':List Oper} {xs xs':List A},i=xs.length->QfA T N m l ds env H n i r xs=some (r',xs')->DS P N m l ds env H K r' xs'->DS P N m l ds env H K r xs
 |0,i,r,r',xs,xs',_,h,k=>by cases h;exact k
 |n+1,i,[],r',xs,xs',_,h,k=>by cases h
 |n+1,i,o::r,r',xs,xs',hi,h,k=>by
  subst hi;unfold QfA at h;split at h
  .cases h
  .rename_i q1;split at h
   .cases h
   .rename_i d hd;split at h
    .cases h
    .rename_i q2;split at h
     .cases h
     .rename_i hw;simp only[YN]at h;exact .wo (WO.skip (QH hw) hd q2 (WO.nil YJ.mk)) (Qdr hT n _ (by simp) h k) hd q1
     .rename_i hw;split at h
      .cases h
      .rename_i x hv;simp only[YN]at h;exact .v (Qau hT hv) (Qdr hT n _ (by simp) h k) (QH hw) hd q2 q1
def Qin:List A->Nat->A->FL
 |[],_,_=>.mk []
 |_::r,0,x=>.mk (x::r)
 |a::r,n+1,x=>match Qin r n x with
  |.mk r'=>.mk (a::r')
theorem Qcs:∀{l:List A} {n:Nat} {x:A},YB l n=some x->Qin l n x=.mk l
 |[],n,x,h=>by cases h
 |a::r,0,x,h=>by cases h;rfl
 |a::r,n+1,x,h=>by unfold Qin;rw[Qcs (l:=r) (n:=n) h]
theorem Qjz{α:Type}{b:Bool}{x y:Option α}{v:α}{xs a d:List A}{r:List Oper}(j:Nat)(h:(bif b then x else y)=some v)(g:YB xs j=some (.bool b))(f:Qin xs j (.bool true)=.mk a)(i:Qin xs j (.bool false)=.mk d)
  (t:b=true->x=some v->DS P N m l ds env H K r a)(e:b=false->y=some v->DS P N m l ds env H K r d):DS P N m l ds env H K r xs:=by
 cases b with
 |true=>rw[Qcs g]at f;cases f;exact t rfl h
 |false=>rw[Qcs g]at i;cases i;exact e rfl h
end
end Go.Sw
namespace Go.Sw
@[reducible] def RQ{β:Type}(w:β->A)(Hc:β->Qc)(r:β):A->Qc->Prop:=λa H=>a=w r/\H=Hc r
@[reducible] def Csm{β:Type}(P:Program)(f:FuncId)(args:List A)(H:Qc)(w:β->A)(r:β):Prop:=C P f args H (RQ w (λ_=>H) r)
structure TyZ where
 sl:List (Nat×Nat×Nat)
 fn:List Nat
structure Qch (P:Program) (Z:TyZ):Prop where
 sl:∀e∈Z.sl,(∀w,(underlying e.1).run P w=.ok (.slice e.2.1) w)/\ ∀w,(sizeOf e.2.1).run P w=.ok e.2.2 w
 fn:∀f∈Z.fn,∀(a:Array Value) (w:World),(callFunc f a).run P w=.ok (.enter f a) w
section
variable {P:Program} {Z:TyZ} {h0 N:Nat} {all:Array Oper} {o:Oper} {l:List Oper} {env:Env} {H:Qc} {Q:Qv} {d:Nat}
theorem Izz(j:Qch P Z){α:Type}{e:α->List A}{t et k:Nat}{L:List α}{m:IntKind}{i:Int}{v:α}(h:idx L i=some v)(q:ixB o env=some (d,t,k,L.map e,m,i))(g:WO P h0 N all l (up env d (.rp (e v))) H Q)
  (f:QbG Z.sl t=some (et,k))(hg:YD all o env=some true)(b:Nat.blt d N=true):WO P h0 N all (o::l) env H Q:=by
 obtain⟨n,a⟩:=j.sl _ (Qav f);exact Ix h n a q g (QH hg) b
theorem Ize(f:Qch P Z){α:Type}{e:α->List A}{t et k:Nat}{L:List α}{b:IntKind}{i:Int}{v:α}{cs:List A}(h:idx L i=some v)(he:e v=cs)(q:ixB o env=some (d,t,k,L.map e,b,i))(g:WO P h0 N all l (up env d (.rp cs)) H Q)
  (j:QbG Z.sl t=some (et,k))(hg:YD all o env=some true)(a:Nat.blt d N=true):WO P h0 N all (o::l) env H Q:=by
 subst he;exact Izz f h q g j hg a
theorem Lmz(h:Qch P Z){α:Type}{e:α->List A}{t et k b:Nat}{L:List α}(q:lnB o env=some (d,t,.mk (.rsl k (L.map e))))(g:WO P h0 N all l (up env d (.int .i64 L.length)) H Q)
  (f:QbG Z.sl t=some (et,b))(hg:YD all o env=some true)(a:Nat.blt d N=true):WO P h0 N all (o::l) env H Q:=by
 obtain⟨i,j⟩:=h.sl _ (Qav f);exact LnM i q g (QH hg) a
def Qea(Z:TyZ)(o:Oper)(env:Env):Option (Nat×Nat×List A):=
 match o.dst with
 |none=>none
 |some d=>match o.op with
  |.call {callee:=.value (.func f),args:=⟨xs⟩,argTypes:=_}=>bif Qcy Z.fn f then(match fl (QfF env xs)with|.mk ax=>some (d,f,ax))else none
  |.call {callee:=.value (.tmp x),args:=⟨xs⟩,argTypes:=_}=>match opB env (.tmp x)with
   |.mk (.fn (.func f) vf vc)=>bif Qcy Z.fn f then(match fl (vf++(QfF env xs++vc))with|.mk ax=>some (d,f,ax))else none
   |_=>none
  |_=>none
theorem Qdg(g:Qch P Z){f:Nat}{args:List A}(h:Qea Z o env=some (d,f,args)):o.dst=some d/\OpC P o env H f args:=by
 unfold Qea at h;split at h
 .cases h
 .rename_i m e;split at h
  .rename_i a xs i b;cases q:Qcy Z.fn a with
   |false=>rw[q]at h;cases h
   |true=>
    rw[q]at h;simp only[QbM,Vk]at h;cases h;exact⟨e,OpC.fn (xs:=xs) (g.fn _ (QeZ q)) b rfl (Qca xs).symm⟩
  .rename_i x xs i b;split at h
   .rename_i a k l j;cases q:Qcy Z.fn a with
    |false=>rw[q]at h;cases h
    |true=>
     rw[q]at h;simp only[QbM,Vk]at h;cases h;exact⟨e,QaD (xs:=xs) (g.fn _ (QeZ q)) b rfl (Qy j) (by rw[Qca])⟩
   .cases h
  .cases h
theorem Czz(n:Qch P Z){β γ:Type}{F:Option β}{F':β->Option γ}{r:γ}{f:Nat}{args a:List A}{Hc:Qc}{w:β->A}(π:List Nat)(h:F.bind F'=some r)(m:∀v,F=some v->C P f a Hc (RQ w (λ_=>Hc) v))
  (b:Qea Z o env=some (d,f,args))(g:∀v,F=some v->F' v=some r->WO P h0 N all l (up env d (w v)) H Q)(q:∀v,Qgm (w v)=some (.mk (w v)))
  (hargs:args=Qaa (rho π H.length) a)(hH:π.map (λp=>H[p]?)=(Hc.map (QN (rho π H.length))).map some)(hπ:π.Nodup)(hg:YD all o env=some true)(i:Nat.blt d N=true)(t:Nat.ble h0 H.length=true):WO P h0 N all (o::l) env H Q:=by
 obtain⟨v,e,s⟩:=bnd h;obtain⟨k,j⟩:=Qdg (H:=H) n b;exact Pc π k j (m v e) (q v) (g v e s) hargs hH hπ (QH hg) i t
theorem DzZ(t:Qch P Z){K:List Oper->Env->Qc->Prop}{m:Nat}{i:List Oper}{b:List Nat}{xs:List A}{β γ:Type}{F:Option β}{F':β->Option γ}{r:γ}{f:Nat}{args a:List A}{Hc:Qc}{w:β->A}(π:List Nat)(h:F.bind F'=some r)(s:∀v,F=some v->C P f a Hc (RQ w (λ_=>Hc) v))
  (e:Qea Z o (Q3 (Qi o) 0 b xs env)=some (d,f,args))(g:∀v,F=some v->F' v=some r->DS P N m i b env H K l (xs++[w v]))(u:∀v,Qgm (w v)=some (.mk (w v)))
  (hargs:args=Qaa (rho π H.length) a)(hH:π.map (λp=>H[p]?)=(Hc.map (QN (rho π H.length))).map some)(hπ:π.Nodup)(hg:YD i.toArray o (Q3 (Qi o) 0 b xs env)=some true)(n:Nat.blt d N=true)(y:Nat.blt xs.length m=true):DS P N m i b env H K (o::l) xs:=by
 obtain⟨v,k,x⟩:=bnd h;obtain⟨j,q⟩:=Qdg (H:=H) t e;exact .wo (Pc π j q (s v k) (u v) (WO.nil YJ.mk) hargs hH hπ (QH hg) n (XQ (XR _))) (g v k x) j y
theorem ln:Qa5 H [] []:=trivial
theorem ls{ax b:List A}{a:A}(k:Qa5 H ax b)(h:Q9 a=true:=by exact rfl):Qa5 H (a::ax) (a::b):=⟨.inl ⟨rfl,h⟩,k⟩
theorem lo{ax a:List A}{i n k t:Nat}{es:List (List A)}(b:Qa5 H ax a)(hH:H[i]?=some (.row t k es):=by exact rfl)(hn:es.length=n:=by exact XX ..):Qa5 H (.osl i 0 n k::ax) (.rsl k es::a):=
 ⟨.inr ⟨_,_,_,_,_,rfl,hH,hn,rfl⟩,b⟩
theorem Cbz(n:Qch P Z){β γ:Type}{F:Option β}{F':β->Option γ}{r:γ}{f:Nat}{args a:List A}{w:β->A}(h:F.bind F'=some r)(m:∀v,F=some v->C P f a [] (RQ w (λ_=>[]) v))
  (b:Qea Z o env=some (d,f,args))(q:Qa5 H args a)(g:∀v,F=some v->F' v=some r->WO P h0 N all l (up env d (w v)) H Q)(p:∀v,Q8 (w v)=true)
  (hg:YD all o env=some true)(i:Nat.blt d N=true):WO P h0 N all (o::l) env H Q:=by
 obtain⟨v,e,s⟩:=bnd h;obtain⟨k,j⟩:=Qdg (H:=H) n b;refine Qf1 j q (m v e) ?_ ?_ (QH hg) k i
 .rintro _ _ ⟨rfl,rfl⟩;exact p v
 .rintro _ _ ⟨rfl,rfl⟩;exact g v e s
end
def ixL:List Nat:=[0,1,2,3,4,5,6,7,8,9,10,11,12,13,14,15,16,17,18,19,20,21,22,23,24,25,26,27,28,29,30,31,32,33,34,35,36,37,38,39,40,41,42,43,44,45,46,47,48,49,50,51,52,53,54,55,56,57,58,59,60,61,62,63]
def QhD:List Nat->List Nat->Nat->FN
 |a::r,b::s,j=>bif Nat.beq a j then .mk b else QhD r s j
 |_,_,j=>.mk j
mutual
def cpA(sel:List Nat):A->Bx
 |.ptr i off=>match QhD sel ixL i with
  |.mk j=>.mk (.ptr j off)
 |.osl i o n k=>match QhD sel ixL i with
  |.mk j=>.mk (.osl j o n k)
 |.map i=>match QhD sel ixL i with
  |.mk j=>.mk (.map j)
 |.fn f a c=>match cpL sel a,cpL sel c with
  |.mk a',.mk c'=>.mk (.fn f a' c')
 |a=>.mk a
def cpL(sel:List Nat):List A->FL
 |[]=>.mk []
 |a::r=>match cpA sel a,cpL sel r with
  |.mk a',.mk r'=>.mk (a'::r')
end
inductive FV where
 |mk (e:Env)
def QiL(sel:List Nat)(env:Env):List Nat->Env->FV
 |[],nE=>.mk nE
 |s::r,nE=>match lkB env s with
  |.mk a=>match cpA sel a,QiL sel env r nE with
   |.mk a',.mk e=>.mk ((s,a')::e)
def selH(H:Qc):List Nat->List Nat->List (Nat×Blk)->FB
 |a::r,p::ps,[]=>match YB H a,selH H r ps []with
  |some b,.mk l=>.mk (b::l)
  |none,.mk l=>.mk l
 |a::r,p::ps,(q,b)::n=>bif Nat.beq p q then(match selH H r ps n with|.mk l=>.mk (b::l))else(match YB H a,selH H r ps ((q,b)::n)with
  |some b,.mk l=>.mk (b::l)
  |none,.mk l=>.mk l)
 |_,_,_=>.mk []
def Qi6(sel keep:List Nat)(nE:Env)(nH:List (Nat×Blk))(env:Env)(H:Qc):Option (Env×Qc):=
 match QiL sel env keep nE,selH H sel ixL nH with
 |.mk e,.mk h=>some (e,h)
section
variable {P:Program} {h0 N:Nat} {c:Code} {env:Env} {H:Qc} {Q:Qv}
def CutQ{β:Type}(h0:Nat)(b:β)(E':β->Env)(H':β->Qc)(Q:Qv):Qv
 |.normal,env,H=>Le h0 env H (E' b) (H' b)
 |.exit id,env,H=>Q (.exit id) env H
 |.ret,env,H=>Q .ret env H
theorem QC{h0:Nat}{env:Env}{H:Qc}{Q:Qv}{β:Type}{b:β}{E':β->Env}{H':β->Qc}(h:Le h0 env H (E' b) (H' b)):CutQ h0 b E' H' Q .normal env H:=h
theorem Ct{β:Type}{E':β->Env}{H':β->Qc}(b:β)(sel keep:List Nat)(nE:β->Env)(nH:β->List (Nat×Blk))(_:∀b,Qi6 sel keep (nE b) (nH b) env H=some (E' b,H' b))(h:TC P h0 N c env H (CutQ h0 b E' H' Q))(k:∀env H,Le h0 env H (E' b) (H' b)->Q .normal env H):TC P h0 N c env H Q:=
 h.mono λx env' H' q=>by
  cases x with
  |normal=>exact k _ _ q
  |exit id=>exact q
  |ret=>exact q
theorem CtE{S B:Type}{b:Ctl S B}{E':S->Env}{H':S->Qc}(sel keep:List Nat)(nE:S->Env)(nH:S->List (Nat×Blk))(_:∀s,Qi6 sel keep (nE s) (nH s) env H=some (E' s,H' s))(h:TC P h0 N c env H (Qd4 h0 b E' H' Q))(k:∀s env H,b=.cont s->Le h0 env H (E' s) (H' s)->Q .normal env H):TC P h0 N c env H Q:=Qfd E' H' h k
theorem Lp{S B:Type}{step:S->Option (Ctl S B)}{E':S->Env}{H':S->Qc}{m:Nat}{s0:S}{b0:B}(sel keep:List Nat)(nE:S->Env)(nH:S->List (Nat×Blk))(h:iter step m s0=some b0)(_:∀s,Qi6 sel keep (nE s) (nH s) env H=some (E' s,H' s))(hI:Le h0 env H (E' s0) (H' s0))
  (body:∀s d,step s=some d->(∀b,d=.done b->b=b0)->TC P h0 N c (E' s) (H' s) (Qa4 (λs env H=>Le h0 env H (E' s) (H' s)) d Q)):TC P h0 N (.loop c) env H Q:=TC.loop E' H' h hI body
end
theorem Oj{S B:Type}{d:Ctl S B}{x b0:B}(hb:∀b,d=.done b->b=b0)(h:some (Ctl.done x)=some d):x=b0:=hb x (Oi h).symm
theorem Rt{P:Program}{h0:Nat}{fn:Func}{env:Env}{H:Qc}{β:Type}{e r:β}{w:β->A}{Hc:β->Qc}(h:some e=some r)(s:Nat)(π:List Nat)(a:fn.results= #[.tmp s]:=by exact rfl)(hpre:π.take h0=List.range h0:=by exact rfl)
  (hH:π.map (λp=>H[p]?)=((Hc e).map (QN (rho π H.length))).map some:=by exact rfl)(hπ:π.Nodup:=by decide)(hE:Qc2 (rho π H.length) env [(s,w e)]:=by exact⟨rfl,trivial⟩):Qcj P h0 fn (RQ w Hc r) .ret env H:=by
 cases h;exact R1 s a (Lr π hpre hH hπ hE)
theorem Cl{h0:Nat}{env:Env}{H:Qc}{Q:Qv}{β:Type}{e b:β}{E':β->Env}{H':β->Qc}(h:some e=some b)(π:List Nat)(a:π.take h0=List.range h0:=by exact rfl)
  (hH:π.map (λp=>H[p]?)=((H' e).map (QN (rho π H.length))).map some:=by exact rfl)(hπ:π.Nodup:=by decide)(hE:Qc2 (rho π H.length) env (E' e):=by(repeat' (first|exact trivial|refine⟨rfl,?_⟩))):CutQ h0 b E' H' Q .normal env H:=by
 cases h;exact Lr π a hH hπ hE
end Go.Sw
namespace Go.Sw
def plC(cat:List Nat):List (List (Nat×Nat)):=cat.map λc=>match c with|0=>[(0,0)]|1=>[(0,1)]|2=>[(1,1)]|_=>[(0,0),(1,1)]
def rqC(b:Nat)(cat:List Nat):List (List Nat):=cat.map λc=>match c with|2=>[b]|_=>[]
def hsC(cat:List Nat):List Bool:=cat.map λc=>match c with|1=>true|_=>false
section
variable {P:Program} {T:TyX} {h0 N m b:Nat} {cat:List Nat} {l:List Oper} {ds:List Nat} {env:Env} {H H1:Qc} {Q:Qv} {K:List Oper->Env->Qc->Prop}
theorem Qfl{P:Program}{N:Nat}{l:List Oper}{ds:List Nat}{xs:List A}{env0:Env}{hB hE:Nat}:∀(ss:List (List (Qc×Qc))) (b:Nat),(∀i s,ss[i]?=some s->∀p∈s,Ja P N l ds xs env0 hB hE (b+i) p.1 p.2)->Qfm P N l ds xs env0 hB hE b ss
 |[],b,h=>.nil
 |s::ss,b,h=>.cons (h 0 s rfl) (Qfl ss (b+1) λi s' hs=>by rw[show b+1+i=b+(i+1)by omega];exact h (i+1) s' hs)
def Dob(P:Program)(N:Nat)(cat:List Nat)(l:List Oper)(ds:List Nat)(env:Env)(H H1:Qc)(zs:List A)(j:Nat):Prop:=
 ∀p∈(plC cat).getD j [],Ja P N l ds zs env H.length H.length j ([H,H1].getD p.1 []) ([H,H1].getD p.2 [])
def DB(P:Program)(N m:Nat)(cat:List Nat)(l:List Oper)(ds:List Nat)(env:Env)(H H1:Qc)(K:List Oper->Env->Qc->Prop)(r:List Oper)(xs:List A):Prop:=
 r=l.drop xs.length->∃ys,xs.length+ys.length=m/\(∀j,xs.length<=j->j<m->Dob P N cat l ds env H H1 (xs++ys) j)/\K (l.drop m) (Qat ds (xs++ys) env) H1
def DA(P:Program)(N m:Nat)(cat:List Nat)(l:List Oper)(ds:List Nat)(env:Env)(H:Qc)(K:List Oper->Env->Qc->Prop)(r:List Oper)(xs:List A):Prop:=
 r=l.drop xs.length->∃ys H1,xs.length+ys.length=m/\H.length<=H1.length/\(∀j,xs.length<=j->j<m->Dob P N cat l ds env H H1 (xs++ys) j)/\K (l.drop m) (Qat ds (xs++ys) env) H1
theorem Qlc{f:List A}(a:cat.length=m)(g:∀j,0<=j->j<m->Dob P N cat l ds env H H1 f j):Qfm P N l ds f env H.length (H.length+0) 0 ((plC cat).map λq=>q.map λp=>([H,H1].getD p.1 [],[H,H1].getD p.2 [])):=by
 refine Qfl _ 0 λi s b p h=>?_;rw[Xn]at b;cases e:(plC cat)[i]? with
 |none=>rw[e]at b;cases b
 |some q=>
  rw[e]at b;cases b;obtain⟨n,d,rfl⟩:=Xe.1 h;have k:i<m:=by
   have:=(XJ.1 e).1;simpa[plC,a]using this
  have:=g i (XS _) k n (by rw[Qhf e];exact d);simpa using this
theorem DA.len(a:H.length<=H1.length):[H,H1].all (λX=>Nat.ble (H.length+0) X.length)=true:=by
 simp only[List.all_cons,List.all_nil,Bool.and_true,Xv,XU];exact⟨XQ (XR _),XQ a⟩
theorem QjC{id:Nat}(m b:Nat)(cat:List Nat)(q:P.follows .mixedOrders=true)(n:QcV l m N (Qa1 m 0 l) (hsC cat) (rqC b cat) [[],[b]] (plC cat)=true)(f:Nat.beq cat.length m=true)(d:Nat.ble h0 H.length=true)
  (h:DA P N m cat l (Qa1 m 0 l) env H (λr e H=>WO P h0 N l.toArray r e H Q) l []):TC P h0 N (.region id l.toArray true) env H Q:=by
 obtain⟨k,H1,i,p,g,j⟩:=h rfl;simp only[List.length_nil,Xu,Vd]at i g j;have a:=XO f;exact YC m 0 _ _ _ _ _ k [H,H1] H1 q n (by rw[i];exact Vx m) rfl d (DA.len p) (by simp) rfl (Qlc a g) (by simp[plC,a]) j
theorem Qa2{xs:List A}{o:Oper}{r:List Oper}(b:o::r=l.drop xs.length):l[xs.length]?=some o/\r=l.drop (xs.length+1):=by
 have a:xs.length<l.length:=by
  rcases Vu xs.length l.length with q|q
  .exact q
  .rw[List.drop_eq_nil_of_le q]at b;cases b
 rw[Xo a]at b;cases b;exact⟨XI a,rfl⟩
theorem Qfo{zs:List A}{j c:Nat}(b:YB cat j=some c)(h:∀p∈(match c with|0=>[(0,0)]|1=>[(0,1)]|2=>[(1,1)]|_=>[(0,0),(1,1)]:List (Nat×Nat)),Ja P N l ds zs env H.length H.length j ([H,H1].getD p.1 []) ([H,H1].getD p.2 [])):Dob P N cat l ds env H H1 zs j:=by
 intro p a;rw[QaC]at b;unfold plC at a;rw[VD,Xn,b]at a;exact h p a
theorem Qay{hB hE:Nat}{xs b:List A}{o:Oper}{x:A}{d:Nat}{X X':Qc}(k:l[xs.length]?=some o)(hdd:Qar hB hE X X'=true)(h:WO P X.length N l.toArray [o] (Q3 (Qi o) 0 ds xs env) X (YJ (up (Q3 (Qi o) 0 ds xs env) d x) X'))(i:o.dst=some d):
  Ja P N l ds (xs++x::b) env hB hE xs.length X X':=
 .woE o _ d x k i QfK (he:=by
  intro s;rcases Qhl (af:=Qi o) (env0:=env) (s:=s) ds xs (x::b) 0 with⟨j,y,a,f,g,e⟩|q|q
  .rw[Xu]at a;exact .inl ⟨j,y,a,f,g,e⟩
  .exact .inr (.inl q)
  .exact .inr (.inr q)) (hdd:=hdd) (h:=h)
theorem YM{n:Nat}{X X':Qc}:Qar n n X X'=true:=by unfold Qar;rw[Nat.sub_self];rfl
theorem DA.wo{xs:List A}{o:Oper}{r:List Oper}{x:A}{d:Nat}(h:WO P H.length N l.toArray [o] (Q3 (Qi o) 0 ds xs env) H (YJ (up (Q3 (Qi o) 0 ds xs env) d x) H))(k:DA P N m cat l ds env H K r (xs++[x]))
  (n:YB cat xs.length=some 0:=by exact rfl)(hd:o.dst=some d:=by exact rfl)(hx:Nat.blt xs.length m=true:=by exact rfl):DA P N m cat l ds env H K (o::r) xs:=by
 intro s;obtain⟨w,a⟩:=Qa2 s;obtain⟨f,H1,t,u,b,e⟩:=k (by simpa using a);simp only[XY,XW,List.length_nil,Ve,VC,Vd]at t b e;refine⟨x::f,H1,by simp only[XW];omega,u,λj y g=>?_,e⟩;rcases Vu xs.length j with q|q
 .exact b j (by omega) g
 .obtain rfl:j=xs.length:=by omega
  refine Qfo n λp i=>?_;obtain rfl:=Vt.1 i;exact Qay w YM h hd
theorem DA.op{xs:List A}{o:Oper}{r:List Oper}{x:A}{d:Nat}(h:WO P H.length N l.toArray [o] (Q3 (Qi o) 0 ds xs env) H (YJ (up (Q3 (Qi o) 0 ds xs env) d x) H1))(k:DB P N m cat l ds env H H1 K r (xs++[x]))(hl:Nat.ble H.length H1.length=true:=by exact rfl)
  (hc:YB cat xs.length=some 1:=by exact rfl)(hd:o.dst=some d:=by exact rfl)(hx:Nat.blt xs.length m=true:=by exact rfl):DA P N m cat l ds env H K (o::r) xs:=by
 intro n;obtain⟨t,a⟩:=Qa2 n;obtain⟨f,s,b,e⟩:=k (by simpa using a);simp only[XY,XW,List.length_nil,Ve,VC,Vd]at s b e;refine⟨x::f,H1,by simp only[XW];omega,XP hl,λj u g=>?_,e⟩;rcases Vu xs.length j with q|q
 .exact b j (by omega) g
 .obtain rfl:j=xs.length:=by omega
  refine Qfo hc λp i=>?_;obtain rfl:=Vt.1 i;exact Qay t YM h hd
theorem Qbh{xs:List A}{o:Oper}{r:List Oper}{x x':A}{d:Nat}{H1':Qc}(h:OpH P o (Q3 (Qi o) 0 ds xs env) H x H1)(b:foA x=.mk x')(a:foH H1=.mk H1')(k:DB P N m cat l ds env H H1' K r (xs++[x']))(e:o.dst=some d:=by exact rfl)(hg:YD ⟨l⟩ o (Q3 (Qi o) 0 ds xs env)=some true:=by exact rfl)(hN:Nat.blt d N=true:=by exact rfl)(hl:Nat.ble H.length H1'.length=true:=by exact rfl)
  (hc:YB cat xs.length=some 1:=by exact rfl)(hx:Nat.blt xs.length m=true:=by exact rfl):DA P N m cat l ds env H K (o::r) xs:=by
 rw[Qe5]at b;rw[QgC]at a;cases b;cases a;exact .op (YH (XR _) (QH hg) e hN h (WO.nil YJ.mk)) k hl hc e hx
theorem DB.done{xs:List A}{r:List Oper}(a:Nat.beq xs.length m=true)(h:K r (Qat ds xs env) H1):DB P N m cat l ds env H H1 K r xs:=by
 intro b;have e:=XO a;subst b;refine⟨[],by simpa using e,λj f d=>by omega,?_⟩;rw[<- e,Vc];exact h
theorem DB.add{xs:List A}{o:Oper}{r:List Oper}{x:A}(f:∀ys,l[xs.length]?=some o->Dob P N cat l ds env H H1 (xs++x::ys) xs.length)(k:DB P N m cat l ds env H H1 K r (xs++[x])):DB P N m cat l ds env H H1 K (o::r) xs:=by
 intro g;obtain⟨i,a⟩:=Qa2 g;obtain⟨ys,h,b,d⟩:=k (by simpa using a);simp only[XY,XW,List.length_nil,Ve,VC,Vd]at h b d;refine⟨x::ys,by simp only[XW];omega,λj n e=>?_,d⟩;rcases Vu xs.length j with q|q
 .exact b j (by omega) e
 .obtain rfl:j=xs.length:=by omega
  exact f ys i
theorem DB.wo1{xs:List A}{o:Oper}{r:List Oper}{x:A}{d:Nat}(h:WO P H1.length N l.toArray [o] (Q3 (Qi o) 0 ds xs env) H1 (YJ (up (Q3 (Qi o) 0 ds xs env) d x) H1))(k:DB P N m cat l ds env H H1 K r (xs++[x]))
  (a:YB cat xs.length=some 2:=by exact rfl)(hd:o.dst=some d:=by exact rfl):DB P N m cat l ds env H H1 K (o::r) xs:=
 .add (λf b=>Qfo a λp e=>by
  obtain rfl:=Vt.1 e;exact Qay b YM h hd) k
theorem DB.wo2{xs:List A}{o:Oper}{r:List Oper}{x:A}{d:Nat}(h:WO P H.length N l.toArray [o] (Q3 (Qi o) 0 ds xs env) H (YJ (up (Q3 (Qi o) 0 ds xs env) d x) H))(f:WO P H1.length N l.toArray [o] (Q3 (Qi o) 0 ds xs env) H1 (YJ (up (Q3 (Qi o) 0 ds xs env) d x) H1))(k:DB P N m cat l ds env H H1 K r (xs++[x]))
  (e:YB cat xs.length=some 3:=by exact rfl)(hd:o.dst=some d:=by exact rfl):DB P N m cat l ds env H H1 K (o::r) xs:=
 .add (λg b=>Qfo e λp a=>by
  rcases X2.1 a with rfl|a
  .exact Qay b YM h hd
  .obtain rfl:=Vt.1 a;exact Qay b YM f hd) k
def QfB(T:TyX)(N m:Nat)(cat:List Nat)(l:List Oper)(ds:List Nat)(env:Env)(H:Qc):Nat->Nat->List Oper->List A->Option (List Oper×List A)
 |0,_,r,xs=>some (r,xs)
 |_+1,_,[],_=>none
 |n+1,i,o::r,xs=>match Nat.blt i m,YB cat i with
  |true,some 0=>match o.dst with
   |none=>none
   |some d=>match Nat.blt d N with
    |false=>none
    |true=>match YD ⟨l⟩ o (Q3 (Qi o) 0 ds xs env)with
     |none=>none
     |some false=>match QbZ xs (.tup [])with
      |.mk xs'=>QfB T N m cat l ds env H n (i+1) r xs'
     |some true=>match Qcp T o (Q3 (Qi o) 0 ds xs env) H with
      |none=>none
      |some x=>match QbZ xs x with
       |.mk xs'=>QfB T N m cat l ds env H n (i+1) r xs'
  |_,_=>none
theorem Qdu(hT:Qbk P T):∀(n i:Nat) {r r':List Oper} {xs xs':List A},i=xs.length->QfB T N m cat l ds env H n i r xs=some (r',xs')->DA P N m cat l ds env H K r' xs'->DA P N m cat l ds env H K r xs
 |0,i,r,r',xs,xs',_,h,k=>by cases h;exact k
 |n+1,i,[],r',xs,xs',_,h,k=>by cases h
 |n+1,i,o::r,r',xs,xs',hi,h,k=>by
  subst hi;unfold QfB at h;split at h
  .rename_i q1 q0;split at h
   .cases h
   .rename_i d hd;split at h
    .cases h
    .rename_i q2;split at h
     .cases h
     .rename_i hw;simp only[YN]at h;exact .wo (WO.skip (QH hw) hd q2 (WO.nil YJ.mk)) (Qdu hT n _ (by simp) h k) q0 hd q1
     .rename_i hw;split at h
      .cases h
      .rename_i x hv;simp only[YN]at h;exact .wo (Qz (QH hw) hd q2 (Qau hT hv) (WO.nil YJ.mk)) (Qdu hT n _ (by simp) h k) q0 hd q1
  .cases h
theorem QjI{H:Qc}{p:Bx}{r:Lx}(h:ptX [] p=some r):ptX H p=some r:=by
 unfold ptX at h⊢;split at h
 .exact h
 .rename_i i a;simp only[YB]at h;cases h
 .cases h
theorem Qdk{o:Oper}{e:Env}{H:Qc}{x:A}(h:Qcp T o e []=some x):Qcp T o e H=some x:=by
 unfold Qcp at h⊢;split at h<;>first|exact h|skip
 rename_i t y g;split at h
 .cases h
 .rename_i b n f;split at h
  .exact h
  .rename_i a;cases q:ptX [] (opB e y)with
   |none=>rw[q]at h;cases h
   |some r=>
    rw[q]at h;have d:=QjI (H:=H) q;simp only[d];exact h
def Qdt(T:TyX)(N:Nat)(cat:List Nat)(l:List Oper)(ds:List Nat)(env:Env)(H1:Qc):Nat->Nat->List Oper->List A->Option (List Oper×List A)
 |0,_,r,xs=>some (r,xs)
 |_+1,_,[],_=>none
 |n+1,i,o::r,xs=>match o.dst with
  |none=>none
  |some d=>match Nat.blt d N with
   |false=>none
   |true=>match YD ⟨l⟩ o (Q3 (Qi o) 0 ds xs env)with
    |none=>none
    |some false=>match YB cat i with
     |some 2=>(match QbZ xs (.tup [])with
      |.mk xs'=>Qdt T N cat l ds env H1 n (i+1) r xs')
     |some 3=>(match QbZ xs (.tup [])with
      |.mk xs'=>Qdt T N cat l ds env H1 n (i+1) r xs')
     |_=>none
    |some true=>match YB cat i with
     |some 2=>(match Qcp T o (Q3 (Qi o) 0 ds xs env) H1 with
      |none=>none
      |some x=>match QbZ xs x with
       |.mk xs'=>Qdt T N cat l ds env H1 n (i+1) r xs')
     |some 3=>(match Qcp T o (Q3 (Qi o) 0 ds xs env) []with
      |none=>none
      |some x=>match QbZ xs x with
       |.mk xs'=>Qdt T N cat l ds env H1 n (i+1) r xs')
     |_=>none
theorem Qbt(hT:Qbk P T):∀(n i:Nat) {r r':List Oper} {xs xs':List A},i=xs.length->Qdt T N cat l ds env H1 n i r xs=some (r',xs')->DB P N m cat l ds env H H1 K r' xs'->DB P N m cat l ds env H H1 K r xs
 |0,i,r,r',xs,xs',_,h,k=>by cases h;exact k
 |n+1,i,[],r',xs,xs',_,h,k=>by cases h
 |n+1,i,o::r,r',xs,xs',hi,h,k=>by
  subst hi;unfold Qdt at h;split at h
  .cases h
  .rename_i d hd;split at h
   .cases h
   .rename_i q2;split at h
    .cases h
    .rename_i hw;split at h
     .rename_i q0;simp only[YN]at h;exact .wo1 (WO.skip (QH hw) hd q2 (WO.nil YJ.mk)) (Qbt hT n _ (by simp) h k) q0 hd
     .rename_i q0;simp only[YN]at h;exact .wo2 (WO.skip (QH hw) hd q2 (WO.nil YJ.mk)) (WO.skip (QH hw) hd q2 (WO.nil YJ.mk)) (Qbt hT n _ (by simp) h k) q0 hd
     .cases h
    .rename_i hw;split at h
     .rename_i q0;split at h
      .cases h
      .rename_i x hv;simp only[YN]at h;exact .wo1 (Qz (QH hw) hd q2 (Qau hT hv) (WO.nil YJ.mk)) (Qbt hT n _ (by simp) h k) q0 hd
     .rename_i q0;split at h
      .cases h
      .rename_i x hv;simp only[YN]at h;exact .wo2 (Qz (QH hw) hd q2 (Qau hT (Qdk hv)) (WO.nil YJ.mk)) (Qz (QH hw) hd q2 (Qau hT (Qdk hv)) (WO.nil YJ.mk)) (Qbt hT n _ (by simp) h k) q0 hd
     .cases h
end
end Go.Sw
namespace Go.Sw
def chkF(L:List (Nat×List (Nat×Nat)))(fs:List (Nat×Nat×Nat)):Bool:=
 fs.all λe=>match QbG L e.1 with
  |some pl=>(match YB pl e.2.1 with
   |some q=>Nat.beq q.1 e.2.2&& !(Nat.beq q.2 0)
   |none=>false)
  |none=>false
theorem PL.get{P:Program}{fs:List Field}{a:List (Nat×Nat)}(h:PL P fs a):∀{f off n:Nat},YB a f=some (off,n)->∃fd,fs[f]?=some fd/\fd.offset=off/\ ∀w,(sizeOf fd.type).run P w=.ok n w:=by
 induction h with
 |nil=>intro f off n h;cases h
 |cons h k e=>
  intro f off n b;cases f with
  |zero=>cases b;exact⟨_,rfl,rfl,h⟩
  |succ f=>obtain⟨fd,g,d⟩:=e (show YB _ f=_ from b);exact⟨fd,by simpa using g,d⟩
theorem QkY{P:Program}{L:List (Nat×List (Nat×Nat))}{fs:List (Nat×Nat×Nat)}(j:∀e∈L,Qw P e.1 e.2)(h:chkF L fs=true):∀e∈fs,∃n,QD P e.1 e.2.1 e.2.2 n:=by
 intro e d;have:=Xq.1 h e d;split at this
 .rename_i t b;split at this
  .rename_i q f;obtain⟨s,n⟩:=q;simp only[XU,Bool.not_eq_true']at this;have m:=XO this.1;obtain⟨r,i,a⟩:=j _ (Qav b);obtain⟨k,g,p,l⟩:=PL.get a f;refine⟨n,⟨⟨_,k,i,by simpa using g,p.trans m,l,?_⟩⟩⟩;intro z;have a:=this.2;rw[z,Vx]at a;cases a
  .cases this
 .cases this
section
variable {P:Program} {Z:TyZ} {h0 N:Nat} {all:Array Oper} {o:Oper} {l:List Oper} {env:Env} {H:Qc} {Q:Qv} {d:Nat}
theorem Cdz(n:Qch P Z){β γ:Type}{F:Option β}{F':β->Option γ}{r:γ}{f:Nat}{args a:List A}{Hc:Qc}{w:β->A}{Hr:β->Qc}(π:List Nat)(h:F.bind F'=some r)(m:∀v,F=some v->C P f a Hc (RQ w Hr v))
  (b:Qea Z o env=some (d,f,args))(g:∀v,F=some v->F' v=some r->WO P h0 N all l (up env d (Yk (rho π H.length) (w v))) (Ya H π ((Hr v).map (QN (rho π H.length)))) Q)
  (hargs:args=Qaa (rho π H.length) a)(hH:π.map (λp=>H[p]?)=(Hc.map (QN (rho π H.length))).map some)(hπ:π.Nodup)(hg:YD all o env=some true)(i:Nat.blt d N=true)(s:Nat.ble h0 H.length=true):WO P h0 N all (o::l) env H Q:=by
 obtain⟨v,e,q⟩:=bnd h;obtain⟨k,j⟩:=Qdg (H:=H) n b;refine Qu π j (m v e) ?_ hargs hH hπ (QH hg) k i s;rintro _ _ ⟨rfl,rfl⟩;exact g v e q
end
inductive FLL where
 |mk (l:List (List A))
def cpLL(sel:List Nat):List (List A)->FLL
 |[]=>.mk []
 |a::r=>match cpL sel a,cpLL sel r with
  |.mk a',.mk r'=>.mk (a'::r')
inductive FBk where
 |mk (b:Blk)
def cpBk(sel:List Nat):Blk->FBk
 |.cells t cs=>match cpL sel cs with
  |.mk l=>.mk (.cells t l)
 |.rowr t k es=>match cpLL sel es with
  |.mk l=>.mk (.rowr t k l)
 |.ents t a b es=>match QhD sel ixL a,QhD sel ixL b with
  |.mk a',.mk b'=>.mk (.ents t a' b' es)
 |b=>.mk b
def selD(H:Qc)(sel:List Nat):List Nat->FB
 |[]=>.mk []
 |a::r=>match YB H a with
  |some b=>(match cpBk sel b,selD H sel r with
   |.mk b',.mk l=>.mk (b'::l))
  |none=>.mk []
def retC(sel sl:List Nat)(env:Env)(H:Qc):Option (Env×Qc):=
 match QiL sel env sl [],selD H sel sel with
 |.mk e,.mk h=>some (e,h)
theorem Rx{P:Program}{h0:Nat}{fn:Func}{env E':Env}{H H':Qc}{Qr:A->Qc->Prop}{d:A}(π sl:List Nat)(_:retC π sl env H=some (E',H'))(a:QbO P fn E' H' d)(e:Qr d H')(b:π.take h0=List.range h0:=by exact rfl)
  (hH:π.map (λp=>H[p]?)=(H'.map (QN (rho π H.length))).map some:=by exact rfl)(hπ:π.Nodup:=by decide)(hE:Qc2 (rho π H.length) env E':=by(repeat' (first|exact trivial|refine⟨rfl,?_⟩))):Qcj P h0 fn Qr .ret env H:=
 ⟨E',H',d,Lr π b hH hπ hE,a,e⟩
end Go.Sw
namespace Go.Sw
def nxL{T:Type}:List T->T->List T->Prop:=λl x rem=>l=x::rem
def Qip{S T B:Type}(step:S->T->Option (Ctl S B)):List T->S->Option (Ctl S B)
 |[],s=>some (.cont s)
 |x::l,s=>(step s x).bind λd=>match d with
  |.cont s'=>Qip step l s'
  |.done b=>some (.done b)
def QbL{S T B:Type}(step:S->Option (List T×Ctl S B)):Nat->S->Option (List T×B)
 |0,_=>none
 |n+1,s=>(step s).bind λp=>match p.2 with
  |.cont s'=>(QbL step n s').bind λq=>some (p.1++q.1,q.2)
  |.done b=>some (p.1,b)
def Qji{S B:Type}(h1:Nat)(env:Env)(Q:Qv)(d:Ctl S B)(Hp:S->Qc):Qv
 |.normal,env',H'=>∃s,d=.cont s/\Le h1 env' H' [] (Hp s)
 |.exit id,env',H'=>(∃b,d=.done b)/\ ∃H2,Le h1 env' H' [] H2/\Q (.exit id) env H2
 |.ret,env',H'=>(∃b,d=.done b)/\ ∃H2,Le h1 env' H' [] H2/\Q .ret env H2
theorem Qg5{S B:Type}{h1:Nat}{env env':Env}{H':Qc}{Q:Qv}{s:S}{d:Ctl S B}{Hp:S->Qc}(e:some (Ctl.cont s)=some d)(h:Le h1 env' H' [] (Hp s)):Qji h1 env Q d Hp .normal env' H':=⟨s,(Oi e).symm,h⟩
theorem QeH{P:Program}{h0 N:Nat}{r:Operand}{ps:List Nat}{assign body:Code}{env:Env}{H:Qc}{Q:Qv}{f:FuncId}{a g:List A}{Hc:Qc}{T S B:Type}{enc:T->List A}{xs:List T}{step:S->T->Option (Ctl S B)}{z:S}{D:Ctl S B}
  (π:List Nat)(Hp:S->Qc)(h:Qip step xs z=some D)(n:Qff P f g Hc enc nxL xs)(m:∀x,(enc x).length=ps.length)(R:∀args w,(callFunc f args).run P w=.ok (.enter f args) w)
  (V:Nat.ble h0 H.length=true)(hg:opA env r=.fn (.func f) [] a)(hargs:a=Qaa (rho π H.length) g)(hH:π.map (λp=>H[p]?)=(Hc.map (QN (rho π H.length))).map some)(hπ:π.Nodup)(y:(ps.all λp=>Nat.blt p N)=true)
  (i:Le H.length env (QcQ H π) env (Hp z))
  (j:∀s x d,step s x=some d->(∀b,d=.done b->D=.done b)->TC P H.length N assign (Qih ps (enc x) env) (Hp s) λe env1 H1=>e=.normal/\TC P H.length N body env1 H1 (Qji H.length env Q d Hp))
  (k:∀s,D=.cont s->Q .normal env (Hp s)):TC P h0 N (.rangeFunc r ps.toArray assign body) env H Q:=by
 refine TC.rangeFunc π Hp (λs l=>Qip step l s=some D) z (XP V) hg hargs hH hπ y R n m i h ?_ ?_
 .rintro s l x rem t rfl;obtain⟨d,O,t⟩:=bnd t;refine(j s x d O ?_).mono ?_
  .rintro b rfl;exact(Oi t).symm
  .rintro e env1 H1 ⟨G,J⟩;refine⟨G,J.mono ?_⟩;intro L E H2 q;cases L with
   |normal=>
    obtain⟨F,rfl,i⟩:=q;exact⟨Hp F,i,F,t,rfl⟩
   |exit id=>
    obtain⟨_,H3,u,q⟩:=q;exact⟨H3,u,q⟩
   |ret=>
    obtain⟨_,H3,u,q⟩:=q;exact⟨H3,u,q⟩
 .intro s M;exact k s (Oi M).symm
section
variable {T:Type} {X:Ctx T} {P:Program} {h0 N:Nat} {c:Code} {env:Env} {H:Qc} {st:YSt T} {Q:Ym T}
def Qd2{S B:Type}(h0:Nat)(E:S->Env)(Hp:S->Qc)(d:Ctl S B)(rest:List T)(Q:Ym T):Ym T
 |.normal,env,H,st=>∃s,d=.cont s/\Le h0 env H (E s) (Hp s)/\st=.on rest
 |.exit id,env,H,st=>Q (.exit id) env H st
 |.ret,env,H,st=>Q .ret env H st
theorem QhM{S B:Type}{step:S->Option (List T×Ctl S B)}{E:S->Env}{Hp:S->Qc}{m:Nat}{i:S}{k rem:List T}{b:B}(h:QbL step m i=some (k,b))(z:Le h0 env H (E i) (Hp i))
  (body:∀s zs d rest,step s=some (zs,d)->(∀b',d=.done b'->b'=b/\rest=rem)->TCy X P h0 N c (E s) (Hp s) (.on (zs++rest)) (Qd2 h0 E Hp d rest Q)):TCy X P h0 N (.loop c) env H (.on (k++rem)) Q:=by
 refine QeG (I:=λn env H r=>∃s a,QbL step n s=some (a,b)/\r=.on (a++rem)/\Le h0 env H (E s) (Hp s)) ?_ ⟨i,k,h,rfl,z⟩;rintro n env H r ⟨s,a,f,rfl,j⟩;cases n with
 |zero=>cases f
 |succ n=>
  obtain⟨⟨zs,d⟩,t,f⟩:=bnd f;refine TCy.le j ?_;cases d with
  |cont F=>
   obtain⟨⟨y,G⟩,u,f⟩:=bnd f;cases f;rw[Ve];refine(body s zs (.cont F) (y++rem) t (λb' e=>by cases e)).mono ?_;rintro x g H' p q;cases x with
   |normal=>
    obtain⟨w,e,l,rfl⟩:=q;cases e;exact⟨n,Xl n,_,_,u,rfl,l⟩
   |exit id=>exact q
   |ret=>exact q
  |done b'=>
   cases f;refine(body s _ (.done b) rem t (λb' e=>by cases e;exact⟨rfl,rfl⟩)).mono ?_;rintro x g H' p q;cases x with
   |normal=>obtain⟨w,e,_⟩:=q;cases e
   |exit id=>exact q
   |ret=>exact q
def kqY(X:Ctx T)(P:Program)(h0 N:Nat):List Kf->Ym T->Ym T
 |[],Q=>Q
 |.seq c::k,Q=>SeqY X P h0 N c (kqY X P h0 N k Q)
 |.blo id::k,Q=>BloY id (kqY X P h0 N k Q)
 |.unr c::k,Q=>λ_ _ _ _=>False
@[reducible] def HdY(X:Ctx T)(P:Program)(h0 N:Nat):Cf->List Kf->Env->Qc->YSt T->Ym T->Prop
 |.code c,k,env,H,st,Q=>TCy X P h0 N c env H st (kqY X P h0 N k Q)
 |.ops all l,k,env,H,st,Q=>WOy X P h0 N all l env H st (kqY X P h0 N k Q)
 |.out x,k,env,H,st,Q=>kqY X P h0 N k Q x env H st
def Qkn:Cf->List Kf->Bool
 |.code (.loop _),_=>false
 |.out _,.unr _::_=>false
 |_,_=>true
theorem Qii{Tx:TyX}(f:Qbk P Tx){c d:Cf}{k b:List Kf}{env env':Env}{H H':Qc}(h:Qee Tx h0 N c k env H=some (d,b,env',H'))(a:Qkn c k=true)(g:HdY X P h0 N d b env' H' st Q):HdY X P h0 N c k env H st Q:=by
 unfold Qee at h;split at h
 .cases h;exact TCy.seq g
 .cases h;exact TCy.block g
 .cases a
 .cases h;exact TCy.skip g
 .cases h;exact TCy.ret g
 .cases h;exact TCy.exit g
 .cases h;exact TCy.region g
 .split at h
  .rename_i q;cases h;exact TCy.cond (Qy q) (λ_=>g) (λe=>by cases e)
  .rename_i q;cases h;exact TCy.cond (Qy q) (λe=>by cases e) (λ_=>g)
  .cases h
 .cases h;exact WOy.nil g
 .split at h
  .rename_i q;cases h;exact WOy.step (Qim f q (WO.nil ⟨rfl,g⟩))
  .cases h
 .cases h;exact g
 .cases h;exact g
 .cases h;exact g
 .cases h;exact g
 .split at h
  .rename_i q;cases h;have e:=XO q;subst e;show(bif Nat.beq _ _ then _ else _);rw[Vx];exact g
  .rename_i q;cases h;show(bif Nat.beq _ _ then _ else _);rw[q];exact g
 .cases h;exact g
 .cases a
 .cases a
 .cases a
 .cases h
def Qgn(Tx:TyX)(h0 N:Nat):Nat->Cf->List Kf->Env->Qc->Option (Cf×List Kf×Env×Qc)
 |0,c,k,env,H=>some (c,k,env,H)
 |n+1,c,k,env,H=>match Qkn c k with
  |true=>(match Qee Tx h0 N c k env H with
   |some (c',k',env',H')=>Qgn Tx h0 N n c' k' env' H'
   |none=>none)
  |false=>none
theorem Qb6{Tx:TyX}(hT:Qbk P Tx):∀(n:Nat) {c c':Cf} {k k':List Kf} {env env':Env} {H H':Qc},Qgn Tx h0 N n c k env H=some (c',k',env',H')->HdY X P h0 N c' k' env' H' st Q->HdY X P h0 N c k env H st Q
 |0,c,c',k,k',env,env',H,H',h,g=>by cases h;exact g
 |n+1,c,c',k,k',env,env',H,H',h,g=>by
  unfold Qgn at h;split at h
  .rename_i hn;split at h
   .rename_i e;exact Qii hT e hn (Qb6 hT n h g)
   .cases h
  .cases h
theorem TCy.lf{k:List Kf}(h:TC P h0 N c env H (λx env H=>kqY X P h0 N k Q x env H st)):TCy X P h0 N c env H st (kqY X P h0 N k Q):=TCy.lift h
theorem QgH{all:Array Oper}{o:Oper}{r:List Oper}{d:Nat}{x:T}{l:List T}{e:T->A}{y z:Operand}{j:Array TypeId}(hE:X.enc=λx=>[e x])(a:X.nx=nxL)(m:o.op=.call {callee:=.value y,args:= #[z],argTypes:=j})(i:opA env y=.fn (.yield X.l) [] [])(k:opA env z=e x)(f:Q9 (e x)=true)
  (g:WOy X P h0 N all r (up env d (.bool true)) H (.on l) Q)(h:WOy X P h0 N all r (up env d (.bool false)) H (.off l) Q)(hg:Qm all o env true:=by exact rfl)(hd:o.dst=some d:=by exact rfl)(hNd:Nat.blt d N=true:=by exact rfl):WOy X P h0 N all (o::r) env H (.on (x::l)) Q:=by
 refine WOy.yield (x:=x) (rem:=l) (by rw[a];rfl) hg hd hNd ?_ ?_
 .rw[hE];exact Qft m i k f
 .intro b;cases b with
  |true=>exact g
  |false=>exact h
theorem WOy.y2{all:Array Oper}{o:Oper}{r:List Oper}{d:Nat}{x:T}{l:List T}{g i:T->A}{y k j:Operand}{s:Array TypeId}(hE:X.enc=λx=>[g x,i x])(m:X.nx=nxL)(t:o.op=.call {callee:=.value y,args:= #[k,j],argTypes:=s})(q:opA env y=.fn (.yield X.l) [] [])(f:opA env k=g x)(a:opA env j=i x)(h:Q9 (g x)=true)(e:Q9 (i x)=true)
  (n:WOy X P h0 N all r (up env d (.bool true)) H (.on l) Q)(p:WOy X P h0 N all r (up env d (.bool false)) H (.off l) Q)(hg:Qm all o env true:=by exact rfl)(hd:o.dst=some d:=by exact rfl)(hNd:Nat.blt d N=true:=by exact rfl):WOy X P h0 N all (o::r) env H (.on (x::l)) Q:=by
 refine WOy.yield (x:=x) (rem:=l) (by rw[m];rfl) hg hd hNd ?_ ?_
 .rw[hE];exact Qhy t q f a h e
 .intro b;cases b with
  |true=>exact n
  |false=>exact p
end
end Go.Sw
namespace Go.Sw
def yl{T R:Type}(x:T)(k:Option (List T×R)):Option (List T×R):=k.bind λp=>some (x::p.1,p.2)
def ap{T B R:Type}(a:Option (List T×B))(k:B->Option (List T×R)):Option (List T×R):=a.bind λp=>(k p.2).bind λq=>some (p.1++q.1,q.2)
theorem Qie{T R:Type}{x:T}{k:Option (List T×R)}{a:List T}{v:R}(h:yl x k=some (a,v)):∃zs,k=some (zs,v)/\a=x::zs:=by
 obtain⟨⟨zs,e⟩,d,b⟩:=bnd h;cases b;exact⟨zs,d,rfl⟩
theorem Qku{T B R:Type}{a:Option (List T×B)}{k:B->Option (List T×R)}{d:List T}{v:R}(h:ap a k=some (d,v)):∃y1 b y2,a=some (y1,b)/\k b=some (y2,v)/\d=y1++y2:=by
 obtain⟨⟨y1,b⟩,f,g⟩:=bnd h;obtain⟨⟨y2,j⟩,e,i⟩:=bnd g;cases i;exact⟨y1,b,y2,f,e,rfl⟩
section
variable {T:Type} {X:Ctx T} {P:Program} {h0 N:Nat} {c c':Code} {env:Env} {H:Qc} {st:YSt T} {Q:Ym T}
def QjD{β:Type}(h0:Nat)(b:β)(E':β->Env)(H':β->Qc)(rem:List T)(Q:Ym T):Ym T
 |.normal,env,H,st=>Le h0 env H (E' b) (H' b)/\st=.on rem
 |.exit id,env,H,st=>Q (.exit id) env H st
 |.ret,env,H,st=>Q .ret env H st
theorem Qf2{β:Type}{E':β->Env}{H':β->Qc}(b:β)(rem:List T)(sel keep:List Nat)(nE:β->Env)(nH:β->List (Nat×Blk))(_:∀b,Qi6 sel keep (nE b) (nH b) env H=some (E' b,H' b))(h:TCy X P h0 N c env H st (QjD h0 b E' H' rem Q))(k:∀env H,Le h0 env H (E' b) (H' b)->Q .normal env H (.on rem)):TCy X P h0 N c env H st Q:=
 h.mono λx env' H' st' q=>by
  cases x with
  |normal=>obtain⟨q1,rfl⟩:=q;exact k _ _ q1
  |exit id=>exact q
  |ret=>exact q
theorem Qks{β:Type}{b:β}{E':β->Env}{H':β->Qc}{rem:List T}(h:Le h0 env H (E' b) (H' b)):QjD h0 b E' H' rem Q .normal env H (.on rem):=⟨h,rfl⟩
theorem Qi5{β:Type}{b:β}{E':β->Env}{H':β->Qc}{rem:List T}(h:Q .ret env H st):QjD h0 b E' H' rem Q .ret env H st:=h
theorem Qjd{S B:Type}{step:S->Option (List T×Ctl S B)}{E':S->Env}{H':S->Qc}{m:Nat}{s0:S}{ys rem:List T}{b:B}(sel keep:List Nat)(nE:S->Env)(nH:S->List (Nat×Blk))(h:QbL step m s0=some (ys,b))(_:∀s,Qi6 sel keep (nE s) (nH s) env H=some (E' s,H' s))(hI:Le h0 env H (E' s0) (H' s0))
  (body:∀s zs d rest,step s=some (zs,d)->(∀b',d=.done b'->b'=b/\rest=rem)->TCy X P h0 N c (E' s) (H' s) (.on (zs++rest)) (Qd2 h0 E' H' d rest Q)):TCy X P h0 N (.loop c) env H (.on (ys++rem)) Q:=QhM h hI body
theorem QbV{S B:Type}{E':S->Env}{H':S->Qc}{s:S}{d:Ctl S B}{zs rest:List T}(e:some (([]:List T),Ctl.cont s)=some (zs,d))(h:Le h0 env H (E' s) (H' s)):Qd2 h0 E' H' d rest Q .normal env H (.on (zs++rest)):=by
 cases e;exact⟨s,rfl,h,rfl⟩
theorem QiI{S B:Type}{id:Nat}{E':S->Env}{H':S->Qc}{d:Ctl S B}{rest:List T}(h:Q (.exit id) env H st):Qd2 h0 E' H' d rest Q (.exit id) env H st:=h
theorem Qgu{S B:Type}{E':S->Env}{H':S->Qc}{d:Ctl S B}{rest:List T}(h:Q .ret env H st):Qd2 h0 E' H' d rest Q .ret env H st:=h
theorem Oy{S B:Type}{d:Ctl S B}{x b:B}{zs rest rem:List T}(e:∀b',d=.done b'->b'=b/\rest=rem)(h:some (([]:List T),Ctl.done x)=some (zs,d)):zs=[]/\b=x/\rest=rem:=by
 cases h;obtain⟨f,a⟩:=e x rfl;exact⟨rfl,f.symm,a⟩
theorem QcY{f:FuncId}{fn:Func}{c:Code}{N:Nat}{a:List A}{H:Qc}{enc:T->List A}{xs:List T}(i:P.funcs[f]?=some fn)(g:fn.body=some c)(d:fn.ntmps=N)(b:Nat.ble (a.length+1) N=true)(e:fn.results= #[])
  (h:∀X:Ctx T,X.enc=enc->X.nx=nxL->TCy X P H.length N c (QeA 0 (.fn (.yield X.l) [] []::a)) H (.on (xs++[])) EndY):Qff P f a H enc nxL xs:=by
 rw[Vc]at h;exact Qci i g d b e h
end
end Go.Sw
namespace Go.Sw
open Go.MapKept
section
variable {fr ro:Nat->Prop} {σ:Sig} {H:Qc} {w:World}
end
end Go.Sw
namespace Go.Sw
open Go.MapKept
def Qbl{α β:Type}(ek:α->A)(ev:β->List A)(l:List (α×Option (List β))):List (A×Option (List (List A))):=l.map λp=>(ek p.1,p.2.map (List.map ev))
def Qha{α β:Type}[DecidableEq α](l:List (α×Option (List β)))(x:α):List (α×Option (List β)):=l.map λp=>bif decide (p.1=x)then(p.1,none)else p
section
variable {P:Program} {kt:TypeId} {α β:Type} [DecidableEq α] {ek:α->A} {ev:β->List A} {ro:Nat->Prop} {w:World} {t k:Nat} (K:YE P kt ek)
include K
theorem Qhs{x:α}:∀{l:List (α×Option (List β))} {es:List MapEntry},MO ro w t k (Qbl ek ev l) es->MO ro w t k (Qbl ek ev (Qha l x)) es
 |[],es,h=>h
 |p::l,es,h=>by
  obtain⟨e,l',rfl,h1,h2,h3⟩:=h;by_cases q:p.1=x
  .refine⟨e,l',rfl,by simpa[q]using h1,λrows hr=>?_,Qhs (l:=l) h3⟩;simp[q]at hr
  .refine⟨e,l',rfl,by simpa[q]using h1,λrows hr=>h2 rows (by simpa[q]using hr),Qhs (l:=l) h3⟩
omit K
theorem QcI{x:α}{c:Nat}:∀{l:List (α×Option (List β))} {es:List MapEntry},Qc8 (Qbl ek ev (Qha l x)) es c->Qc8 (Qbl ek ev l) es c
 |[],es,h=>by cases es<;>exact h.elim
 |p::l,[],h=>h.elim
 |p::l,e::es,h=>by
  rcases h with⟨h1,h2⟩|h
  .by_cases q:p.1=x
   .simp[q]at h1
   .exact .inl ⟨by simpa[q]using h1,h2⟩
  .exact .inr (QcI (l:=l) h)
theorem Qia{x:α}:∀{l:List (α×Option (List β))} {es:List MapEntry},QgX (Qbl ek ev l) es->QgX (Qbl ek ev (Qha l x)) es
 |[],es,h=>by cases es<;>trivial
 |p::l,[],h=>trivial
 |p::l,e::es,h=>by
  obtain⟨h1,h2⟩:=h;refine⟨λc q1 q2 q3=>?_,Qia (l:=l) h2⟩;by_cases q:p.1=x
  .simp[q]at q1
  .exact h1 c (by simpa[q]using q1) q2 (QcI (l:=l) q3)
include K
theorem MO.find:∀{l:List (α×Option (List β))} {es:List MapEntry},MO ro w t k (Qbl ek ev l) es->∀(x:α),(es.map (·.key)).Nodup->
  ((∀e:MapEntry,e∈es->e.key≠QB (ek x))->Qak l x=none)/\
  (∀(j:Nat) (e:MapEntry),es[j]?=some e->e.key=QB (ek x)->∃q,Qak l x=some q/\(∀rows,q=some rows->SO ro w t k (rows.map ev) e.val)/\
   ∀c p n cap,q.isSome=true->e.val=.slice (some ⟨c,p,none⟩) n cap->Qc8 (Qbl ek ev l) es c/\(QgX (Qbl ek ev l) es->¬Qc8 (Qbl ek ev (Qha l x)) es c))
 |[],es,h,x,_=>by
  cases(show es=[]from h);exact⟨λ_=>rfl,λj e he=>by simp at he⟩
 |p::l,es,h,x,hn=>by
  obtain⟨e0,l',rfl,h1,h2,h3⟩:=h;have hk:e0.key=QB (ek p.1):=VR.val (K.scl _) h1;simp only[Vf,List.nodup_cons]at hn;obtain⟨a1,a2⟩:=MO.find (l:=l) h3 x hn.2;by_cases hp:p.1=x
  .subst hp;constructor
   .intro q;exact absurd hk (q e0 (by simp))
   .intro j e he hx;cases j with
    |zero=>
     simp only[XC,Option.some.injEq]at he;subst he;refine⟨p.2,by simp[Qak],λrows hr=>h2 (rows.map ev) (by simp[hr]),λc p' n cap hs hv=>⟨.inl ⟨by simpa using hs,p',n,cap,hv⟩,λhd hq=>?_⟩⟩;rcases hq with⟨q1,_⟩|hq
     .simp at q1
     .exact hd.1 c (by simpa using hs) ⟨p',n,cap,hv⟩ (QcI (l:=l) hq)
    |succ j=>
     simp only[XD]at he;exact absurd (hk.trans hx.symm▸Vy (f:=λe:MapEntry=>e.key) (Vz he)) hn.1
  .have e1:Qak (p::l) x=Qak l x:=by simp[Qak,hp]
   rw[e1];constructor
   .intro q;exact a1 λe he=>q e (by simp[he])
   .intro j e he hx;cases j with
    |zero=>
     simp only[XC,Option.some.injEq]at he;subst he;exact absurd (K.inj _ _ (hk.symm.trans hx)) hp
    |succ j=>
     obtain⟨q,d,m,g⟩:=a2 j e (by simpa using he) hx;refine⟨q,d,m,λc p' n cap hs hv=>?_⟩;obtain⟨a,i⟩:=g c p' n cap hs hv;refine⟨.inr a,λhd hq=>?_⟩;rcases hq with⟨q1,b⟩|hq
     .exact hd.1 c (by simpa[hp]using q1) b a
     .exact i hd.2 hq
end
section
variable {P:Program} {o:Oper} {env:Env} {H:Qc}
variable {T kt et:Nat} {α β:Type} [DecidableEq α] {ek:α->A} {ev:β->List A} {x y:Operand} {i t k:Nat} {l:List (α×Option (List β))} {key:α} {rows:List β}
end
end Go.Sw
namespace Go.Sw
open Go.MapKept
theorem MO.append{ro:Nat->Prop}{w:World}{t k:Nat}:∀{l m:List (A×Option (List (List A)))} {es fs:List MapEntry},MO ro w t k l es->MO ro w t k m fs->MO ro w t k (l++m) (es++fs)
 |[],m,es,fs,h,q=>by cases(show es=[]from h);exact q
 |p::l,m,es,fs,h,q=>by
  obtain⟨e,l',rfl,h1,h2,h3⟩:=h;exact⟨e,l'++fs,rfl,h1,h2,MO.append h3 q⟩
theorem MO.length{ro:Nat->Prop}{w:World}{t k:Nat}:∀{l:List (A×Option (List (List A)))} {es:List MapEntry},MO ro w t k l es->es.length=l.length
 |[],es,h=>by cases(show es=[]from h);rfl
 |p::l,es,h=>by
  obtain⟨e,l',rfl,h1,h2,h3⟩:=h;simp[MO.length h3]
def SlB(v:Value)(c:Nat):Prop:=∃p n cap,v=.slice (some ⟨c,p,none⟩) n cap
section
variable {P:Program} {kt:TypeId} {α β:Type} [DecidableEq α] {ek:α->A} {ev:β->List A} {ro:Nat->Prop} {w:World} {t k:Nat} (K:YE P kt ek)
def Qcv{α β:Type}[DecidableEq α](l:List (α×Option (List β)))(x:α)(rows:List β):List (α×Option (List β)):=l.map λp=>bif decide (p.1=x)then(p.1,some rows)else p
include K
theorem Qeq{x:α}{rows:List β}:∀{l:List (α×Option (List β))} {es:List MapEntry},MO ro w t k (Qbl ek ev l) es->(∀e∈es,e.key≠QB (ek x))->Qcv l x rows=l
 |[],es,h,q=>rfl
 |p::l,es,h,q=>by
  obtain⟨e,l',rfl,h1,h2,h3⟩:=h;have hk:e.key=QB (ek p.1):=VR.val (K.scl _) h1;have hp:p.1≠x:=λz=>q e (by simp) (by rw[hk,z]);have:=Qeq (l:=l) h3 (λe he=>q e (by simp[he])) (rows:=rows);simp only[Qcv,Vf,decide_false,hp,Vl];rw[show(l.map λp=>bif decide (p.1=x)then(p.1,some rows)else p)=l from this]
theorem MO.put{x:α}{rows:List β}{v:Value}(m:SO ro w t k (rows.map ev) v):∀{l:List (α×Option (List β))} {es:List MapEntry} {j:Nat} {e:MapEntry},MO ro w t k (Qbl ek ev l) es->
  (es.map (·.key)).Nodup->es[j]?=some e->e.key=QB (ek x)->
  MO ro w t k (Qbl ek ev (Qcv l x rows)) (es.modify j λe=>{e with key:=QB (ek x),val:=v})/\
  (∀c,Qc8 (Qbl ek ev (Qcv l x rows)) (es.modify j λe=>{e with key:=QB (ek x),val:=v}) c->Qc8 (Qbl ek ev l) es c\/SlB v c)/\
  (QgX (Qbl ek ev l) es->(∀c,Qc8 (Qbl ek ev l) es c->¬SlB v c)->QgX (Qbl ek ev (Qcv l x rows)) (es.modify j λe=>{e with key:=QB (ek x),val:=v}))
 |[],es,j,e,h,hn,he,hk=>by cases(show es=[]from h);simp at he
 |p::l,es,j,e,h,hn,he,hk=>by
  obtain⟨e0,l',rfl,h1,h2,h3⟩:=h;have hk0:e0.key=QB (ek p.1):=VR.val (K.scl _) h1;simp only[Vf,List.nodup_cons]at hn;cases j with
  |zero=>
   simp only[XC,Option.some.injEq]at he;subst he;have hp:p.1=x:=K.inj _ _ (hk0.symm.trans hk);simp only[List.modify_zero_cons];have e0':Qcv l x rows=l:=Qeq K h3 λe he z=>hn.1 (by rw[hk, <- z];exact Vy he);have e1:Qcv (p::l) x rows=(p.1,some rows)::l:=by
    have:Qcv (p::l) x rows=(p.1,some rows)::Qcv l x rows:=by simp[Qcv,hp]
    rw[this,e0']
   rw[e1];refine⟨⟨_,l',rfl,?_,?_,h3⟩,?_,?_⟩
   .show VR ro [] w (ek p.1) (QB (ek x));rw[<- hp];exact Qbv (K.scl _)
   .intro d s;cases s;exact m
   .rintro c (⟨_,q⟩|q)
    .exact .inr q
    .exact .inl (.inr q)
   .rintro⟨n,b⟩ a;exact⟨λc _ q z=>a c (.inr z) q,b⟩
  |succ j=>
   simp only[XD]at he;have hp:p.1≠x:=by
    intro q;refine hn.1 (Xe.2 ⟨e,Vz he,?_⟩);rw[hk,hk0,q]
   simp only[List.modify_succ_cons];obtain⟨r,i,u⟩:=MO.put m h3 hn.2 he hk;have e1:Qcv (p::l) x rows=p::Qcv l x rows:=by simp[Qcv,hp]
   rw[e1];refine⟨⟨_,_,rfl,h1,h2,r⟩,?_,?_⟩
   .rintro c (q|q)
    .exact .inl (.inl q)
    .exact(i c q).imp .inr id
   .rintro⟨n,b⟩ a;refine⟨λc f g z=>?_,u b λc y=>a c (.inr y)⟩;rcases i c z with z|z
    .exact n c f g z
    .exact a c (.inl ⟨f,g⟩) z
end
section
variable {P:Program} {o:Oper} {env:Env} {H:Qc}
variable {T kt et:Nat} {α β:Type} [DecidableEq α] {ek:α->A} {ev:β->List A} {x y zz:Operand} {i j t k n:Nat} {l m:List (α×Option (List β))} {key:α} {rows:List β}
end
end Go.Sw
namespace Go.Sw
open Go.MapKept
section
variable {fr ro:Nat->Prop} {σ:Sig} {H:Qc} {w:World}
end
section
variable {P:Program} {o:Oper} {env:Env} {H:Qc} {T kt et i t k:Nat} {x:Operand} {es:List (A×Option (List (List A)))}
end
section
variable {P:Program} {o:Oper} {env:Env} {H:Qc}
variable {T kt et:Nat} {α β:Type} [DecidableEq α] {ek:α->A} {ev:β->List A} {x y zz:Operand} {i j t k n:Nat} {l m:List (α×Option (List β))} {key:α} {rows:List β}
end
end Go.Sw
namespace Go.Sw
open Go.MapKept
section
variable {P:Program} {o:Oper} {env:Env} {H:Qc}
variable {T kt et:Nat} {α β:Type} [DecidableEq α] {ek:α->A} {ev:β->List A} {x y zz:Operand} {i j t k n:Nat} {l m:List (α×Option (List β))} {key:α} {rows:List β}
end
end Go.Sw
namespace Go.Sw
abbrev Kat:=List (Nat×Nat×Nat)
def Qig:Nat->Nat->List (Nat×Nat)
 |lo,0=>[(lo,lo)]
 |lo,n+1=>(lo,lo)::Qig (lo+1) n
def rgK(p:Nat×Nat×Nat):List (Nat×Nat):=bif Nat.beq p.1 1 then[(p.2.1,p.2.1+1)]else Qig p.2.1 (p.2.2-p.2.1)
def plK(cat:Kat):List (List (Nat×Nat)):=cat.map rgK
def rqK(bs:List Nat)(cat:Kat):List (List Nat):=cat.map λp=>bs.take p.2.1
def hsK(cat:Kat):List Bool:=cat.map λp=>Nat.beq p.1 1
def msK(bs:List Nat):List (List Nat):=(List.range (bs.length+1)).map bs.take
theorem QeR:∀(n lo:Nat),∀p∈Qig lo n,p.1=p.2
 |0,lo,p,h=>by cases h with|head=>rfl|tail _ h=>cases h
 |n+1,lo,p,h=>by
  rcases X2.1 h with rfl|h
  .rfl
  .exact QeR n _ p h
section
variable {P:Program} {T:TyX} {h0 N m:Nat} {bs:List Nat} {cat:Kat} {l:List Oper} {ds:List Nat} {env:Env} {H:Qc} {Hs:List Qc} {Q:Qv} {K:List Oper->Env->Qc->Prop}
def DobK(P:Program)(N:Nat)(cat:Kat)(l:List Oper)(ds:List Nat)(env:Env)(n:Nat)(Hs:List Qc)(zs:List A)(j:Nat):Prop:=
 ∀p∈(plK cat).getD j [],Ja P N l ds zs env n n j (Hs.getD p.1 []) (Hs.getD p.2 [])
def DK(P:Program)(N m:Nat)(bs:List Nat)(cat:Kat)(l:List Oper)(ds:List Nat)(env:Env)(n:Nat)(K:List Oper->Env->Qc->Prop)(Hs:List Qc)(X:Qc)(r:List Oper)(xs:List A):Prop:=
 r=l.drop xs.length->∃ys Zs Y,xs.length+ys.length=m/\Hs.length+Zs.length=bs.length/\((∀Z∈Zs,n<=Z.length)/\(Hs.reverse++X::Zs).getD bs.length []=Y)/\(∀j,xs.length<=j->j<m->DobK P N cat l ds env n (Hs.reverse++X::Zs) (xs++ys) j)/\K (l.drop m) (Qat ds (xs++ys) env) Y
theorem Qlb{f:List A}{n:Nat}{Zs:List Qc}(a:cat.length=m)(g:∀j,0<=j->j<m->DobK P N cat l ds env n Zs f j):Qfm P N l ds f env n (n+0) 0 ((plK cat).map λq=>q.map λp=>(Zs.getD p.1 [],Zs.getD p.2 [])):=by
 refine Qfl _ 0 λi s b p h=>?_;rw[Xn]at b;cases e:(plK cat)[i]? with
 |none=>rw[e]at b;cases b
 |some q=>
  rw[e]at b;cases b;obtain⟨r,d,rfl⟩:=Xe.1 h;have k:i<m:=by
   have:=(XJ.1 e).1;simpa[plK,a]using this
  have:=g i (XS _) k r (by rw[Qhf e];exact d);simpa using this
theorem QjA{id:Nat}(m:Nat)(d:List Nat)(cat:Kat)(u:P.follows .mixedOrders=true)(t:QcV l m N (Qa1 m 0 l) (hsK cat) (rqK d cat) (msK d) (plK cat)=true)(j:Nat.beq cat.length m=true)(i:Nat.ble h0 H.length=true)
  (h:DK P N m d cat l (Qa1 m 0 l) env H.length (λr e H=>WO P h0 N l.toArray r e H Q) [] H l []):TC P h0 N (.region id l.toArray true) env H Q:=by
 obtain⟨s,Zs,Y,k,n,f,p,q⟩:=h rfl;simp only[List.length_nil,Xu,Vd,List.reverse_nil]at k n f p q;have a:=XO j;have b:(msK d).length=d.length+1:=by simp[msK]
 refine YC m 0 _ _ _ _ _ s (H::Zs) Y u t (by rw[k];exact Vx m) (by rw[b];simp[n]) i ?_ (by simp) (by rw[b];exact f.2) (Qlb a p) (by simp[plK,a]) q;rw[Xq];intro Z g;rcases X2.1 g with rfl|g
 .exact XQ (XR _)
 .exact XQ (f.1 Z g)
variable {n:Nat} {X X1:Qc} {xs:List A} {o:Oper} {r:List Oper} {x:A} {d:Nat}
theorem DK.done(d:Nat.beq xs.length m=true)(b:Nat.beq Hs.length bs.length=true)(h:K r (Qat ds xs env) X):DK P N m bs cat l ds env n K Hs X r xs:=by
 intro f;have e:=XO d;have a:=XO b;subst f;refine⟨[],[],X,by simpa using e,by simpa using a,⟨(λZ hZ=>by cases hZ),?_⟩,λj i g=>by omega,?_⟩
 .rw[<- a,VD,XL (by simp)];simp
 .rw[<- e,Vc];exact h
theorem DK.add(g:∀ys Zs,l[xs.length]?=some o->DobK P N cat l ds env n (Hs.reverse++X::Zs) (xs++x::ys) xs.length)(k:DK P N m bs cat l ds env n K Hs X r (xs++[x])):DK P N m bs cat l ds env n K Hs X (o::r) xs:=by
 intro h;obtain⟨s,a⟩:=Qa2 h;obtain⟨ys,Zs,Y,i,p,e,b,d⟩:=k (by simpa using a);simp only[XY,XW,List.length_nil,Ve,VC,Vd]at i b d;refine⟨x::ys,Zs,Y,by simp only[XW];omega,p,e,λj t f=>?_,d⟩;rcases Vu xs.length j with q|q
 .exact b j (by omega) f
 .obtain rfl:j=xs.length:=by omega
  exact g ys Zs s
theorem Qdi{Zs:List Qc}{zs:List A}{j:Nat}{c:Nat×Nat×Nat}(b:YB cat j=some c)(h:∀p∈rgK c,Ja P N l ds zs env n n j (Zs.getD p.1 []) (Zs.getD p.2 [])):DobK P N cat l ds env n Zs zs j:=by
 intro p a;rw[QaC]at b;unfold plK at a;rw[VD,Xn,b]at a;exact h p a
theorem Qe2{Zs:List Qc}{c:Nat}(a:Nat.beq c Hs.length=true):(Hs.reverse++X::Zs).getD c []=X:=by
 rw[XO a,VD,XL (by simp)];simp
theorem DK.wo{c:Nat}(h:WO P X.length N l.toArray [o] (Q3 (Qi o) 0 ds xs env) X (YJ (up (Q3 (Qi o) 0 ds xs env) d x) X))(k:DK P N m bs cat l ds env n K Hs X r (xs++[x]))
  (b:YB cat xs.length=some (0,c,c):=by exact rfl)(hd:o.dst=some d:=by exact rfl)(hcH:Nat.beq c Hs.length=true:=by exact rfl):DK P N m bs cat l ds env n K Hs X (o::r) xs:=
 .add (λys Zs ho=>Qdi b λp a=>by
  have:p=(c,c):=by
   change p∈Qig c (c-c)at a;rw[Nat.sub_self]at a;exact Vt.1 a
  subst this;rw[Qe2 hcH];exact Qay ho YM h hd) k
theorem DK.wa{lo hi:Nat}(h:∀X,WO P X.length N l.toArray [o] (Q3 (Qi o) 0 ds xs env) X (YJ (up (Q3 (Qi o) 0 ds xs env) d x) X))(k:DK P N m bs cat l ds env n K Hs X r (xs++[x]))
  (a:YB cat xs.length=some (0,lo,hi):=by exact rfl)(hd:o.dst=some d:=by exact rfl):DK P N m bs cat l ds env n K Hs X (o::r) xs:=
 .add (λys Zs ho=>Qdi a λp b=>by
  have e:p.1=p.2:=QeR _ _ p b;rw[<- e];exact Qay ho YM (h _) hd) k
theorem DK.op{c z:Nat}(h:WO P X.length N l.toArray [o] (Q3 (Qi o) 0 ds xs env) X (YJ (up (Q3 (Qi o) 0 ds xs env) d x) X1))(k:DK P N m bs cat l ds env n K (X::Hs) X1 r (xs++[x]))(hl:Nat.ble n X1.length=true:=by exact rfl)
  (hc:YB cat xs.length=some (1,c,z):=by exact rfl)(hd:o.dst=some d:=by exact rfl)(hcH:Nat.beq c Hs.length=true:=by exact rfl):DK P N m bs cat l ds env n K Hs X (o::r) xs:=by
 intro u;obtain⟨F,b⟩:=Qa2 u;obtain⟨i,Zs,Y,w,y,a,f,g⟩:=k (by simpa using b);simp only[XY,XW,List.length_nil,Ve,VC,Vd,List.reverse_cons]at w y a f g;refine⟨x::i,X1::Zs,Y,by simp only[XW];omega,by simp only[XW];omega,⟨λZ e=>?_,a.2⟩,λj G s=>?_,g⟩
 .rcases X2.1 e with rfl|e
  .exact XP hl
  .exact a.1 Z e
 .rcases Vu xs.length j with q|q
  .exact f j (by omega) s
  .obtain rfl:j=xs.length:=by omega
   refine Qdi hc λp t=>?_;have:p=(c,c+1):=Vt.1 t;subst this;have B:(Hs.reverse++X::X1::Zs).getD c []=X:=Qe2 hcH;have E:(Hs.reverse++X::X1::Zs).getD (c+1) []=X1:=by
    have:=Qe2 (X:=X1) (Zs:=Zs) (Hs:=X::Hs) (c:=c+1) (by rw[XO hcH];exact Vx _);simpa using this
   simp only;rw[B,E];exact Qay F YM h hd
def Qds(T:TyX)(N m:Nat)(cat:Kat)(l:List Oper)(ds:List Nat)(env:Env)(n:Nat):Nat->Nat->Nat->List Qc->Qc->List Oper->List A->Option (List Qc×List Oper×List A)
 |0,_,_,Hs,X,r,xs=>some (Hs,r,xs)
 |_+1,_,_,_,_,[],_=>none
 |k+1,i,j,Hs,X,o::r,xs=>match o.dst with
  |none=>none
  |some d=>match Nat.blt d N with
   |false=>none
   |true=>match YD ⟨l⟩ o (Q3 (Qi o) 0 ds xs env)with
    |none=>none
    |some false=>(match QbZ xs (.tup [])with
      |.mk xs'=>match YB cat i with
       |some (0,_,_)=>Qds T N m cat l ds env n k (i+1) j Hs X r xs'
       |some (1,c,_)=>(match Nat.beq c j,Nat.ble n X.length with
        |true,true=>Qds T N m cat l ds env n k (i+1) (j+1) (X::Hs) X r xs'
        |_,_=>none)
       |_=>none)
    |some true=>match YB cat i with
     |some (0,lo,hi)=>(match Qcp T o (Q3 (Qi o) 0 ds xs env) []with
      |some x=>(match QbZ xs x with
       |.mk xs'=>Qds T N m cat l ds env n k (i+1) j Hs X r xs')
      |none=>match Nat.beq lo hi,Nat.beq lo j with
       |true,true=>(match Qcp T o (Q3 (Qi o) 0 ds xs env) X with
        |none=>none
        |some x=>match QbZ xs x with
         |.mk xs'=>Qds T N m cat l ds env n k (i+1) j Hs X r xs')
       |_,_=>none)
     |_=>none
theorem Qbs(hT:Qbk P T):∀(k i j:Nat) {Hs Hs':List Qc} {r r':List Oper} {xs xs':List A},i=xs.length->j=Hs.length->Qds T N m cat l ds env n k i j Hs X r xs=some (Hs',r',xs')->DK P N m bs cat l ds env n K Hs' X r' xs'->DK P N m bs cat l ds env n K Hs X r xs
 |0,i,j,Hs,Hs',r,r',xs,xs',_,_,h,k=>by cases h;exact k
 |k0+1,i,j,Hs,Hs',[],r',xs,xs',_,_,h,k=>by cases h
 |k0+1,i,j,Hs,Hs',o::r,r',xs,xs',hi,hj,h,k=>by
  subst hi hj;unfold Qds at h;split at h
  .cases h
  .rename_i d hd;split at h
   .cases h
   .rename_i q2;split at h
    .cases h
    .rename_i hw;simp only[YN]at h;split at h
     .rename_i lo hi' q0;exact .wa (λX=>WO.skip (QH hw) hd q2 (WO.nil YJ.mk)) (Qbs hT k0 _ _ (by simp) rfl h k) q0 hd
     .rename_i c c' q0;split at h
      .rename_i q1 q3;exact .op (WO.skip (QH hw) hd q2 (WO.nil YJ.mk)) (Qbs hT k0 _ _ (by simp) (by simp) h k) q3 q0 hd q1
      .cases h
     .cases h
    .rename_i hw;split at h
     .rename_i lo hi' q0;split at h
      .rename_i x hv;simp only[YN]at h;exact .wa (λX=>Qz (QH hw) hd q2 (Qau hT (Qdk hv)) (WO.nil YJ.mk)) (Qbs hT k0 _ _ (by simp) rfl h k) q0 hd
      .split at h
       .rename_i q1 q3;split at h
        .cases h
        .rename_i x hv;simp only[YN]at h;obtain rfl:=XO q1;exact .wo (Qz (QH hw) hd q2 (Qau hT hv) (WO.nil YJ.mk)) (Qbs hT k0 _ _ (by simp) rfl h k) q0 hd q3
       .cases h
     .cases h
theorem DK.v(h:OpV P o (Q3 (Qi o) 0 ds xs env) X x)(k:DK P N m bs cat l ds env n K Hs X r (xs++[x])){c:Nat}(hg:YD ⟨l⟩ o (Q3 (Qi o) 0 ds xs env)=some true:=by exact rfl)
  (hd:o.dst=some d:=by exact rfl)(hN:Nat.blt d N=true:=by exact rfl)(hc:YB cat xs.length=some (0,c,c):=by exact rfl)(hcH:Nat.beq c Hs.length=true:=by exact rfl):DK P N m bs cat l ds env n K Hs X (o::r) xs:=
 .wo (Qz (QH hg) hd hN h (WO.nil YJ.mk)) k hc hd hcH
def allV(T:TyX)(o:Oper)(e:Env)(x:A):Nat->List Qc->Prop
 |0,_=>True
 |k+1,Y::r=>Qcp T o e Y=some x/\allV T o e x k r
 |_+1,[]=>False
theorem Qg0:∀(n lo:Nat),∀p∈Qig lo n,lo<=p.1/\p.1<=lo+n
 |0,lo,p,h=>by cases h with|head=>exact⟨XR _,XR _⟩|tail _ h=>cases h
 |n+1,lo,p,h=>by
  rcases X2.1 h with rfl|h
  .exact⟨XR _,Nat.le_add_right _ _⟩
  .have:=Qg0 n _ p h;omega
def allW(P:Program)(N:Nat)(l:List Oper)(o:Oper)(e:Env)(d:Nat)(x:A):Nat->List Qc->Prop
 |0,_=>True
 |k+1,Y::r=>WO P Y.length N l.toArray [o] e Y (YJ (up e d x) Y)/\allW P N l o e d x k r
 |_+1,[]=>False
theorem Qho{e:Env}:∀{k:Nat} {r:List Qc},allW P N l o e d x k r->∀j,j<k->WO P (r.getD j []).length N l.toArray [o] e (r.getD j []) (YJ (up e d x) (r.getD j []))
 |0,_,_,j,hj=>absurd hj (Xk _)
 |k+1,[],h,_,_=>h.elim
 |k+1,Y::r,h,0,_=>h.1
 |k+1,Y::r,h,j+1,hj=>by
  have:=Qho h.2 j (by omega);simpa using this
theorem DK.ws{lo hi:Nat}(h:allW P N l o (Q3 (Qi o) 0 ds xs env) d x (hi+1-lo) (X::Hs))(k:DK P N m bs cat l ds env n K Hs X r (xs++[x]))
  (f:YB cat xs.length=some (0,lo,hi):=by exact rfl)(hd:o.dst=some d:=by exact rfl)(hcH:Nat.beq hi Hs.length=true:=by exact rfl)(hle:Nat.ble lo hi=true:=by exact rfl):DK P N m bs cat l ds env n K Hs X (o::r) xs:=
 .add (λys Zs ho=>Qdi f λp a=>by
  have e:p.1=p.2:=QeR _ _ p a;have b:=XP hle;have s:lo<=p.1/\p.1<=lo+(hi-lo):=Qg0 (hi-lo) lo p a;have j:=XO hcH;rw[<- e];have g:=Qho h (Hs.length-p.1) (by omega);have i:(Hs.reverse++X::Zs).getD p.1 []=(X::Hs).getD (Hs.length-p.1) []:=by
   rw[VD,VD];congr 1;rcases Vu p.1 Hs.length with q|q
   .rw[XK (by simpa using q),List.getElem?_reverse q,show Hs.length-p.1=Hs.length-1-p.1+1 by omega,XD]
   .have:p.1=Hs.length:=by omega
    rw[this,XL (by simp)];simp
  rw[i];exact Qay ho YM g hd) k
theorem DK.vs(j:Qbk P T){lo hi:Nat}(h:allV T o (Q3 (Qi o) 0 ds xs env) x (hi+1-lo) (X::Hs))(k:DK P N m bs cat l ds env n K Hs X r (xs++[x]))
  (f:YB cat xs.length=some (0,lo,hi))(e:o.dst=some d)(b:Nat.beq hi Hs.length=true)(hg:YD ⟨l⟩ o (Q3 (Qi o) 0 ds xs env)=some true)(g:Nat.blt d N=true)(a:Nat.ble lo hi=true):DK P N m bs cat l ds env n K Hs X (o::r) xs:=by
 refine DK.ws ?_ k f e b a;generalize hi+1-lo=c at h;generalize X::Hs=L at h
 induction c generalizing L with
 |zero=>trivial
 |succ c i=>
  cases L with
  |nil=>exact h.elim
  |cons Y L=>exact⟨Qz (QH hg) e g (Qau j h.1) (WO.nil YJ.mk),i L h.2⟩
end
end Go.Sw
namespace Go.Sw
def room(n:Int):Option Nat:=bif decide (0<n)&&decide (n<=4294967296)then some n.toNat else none
section
variable {P:Program} {o:Oper} {env:Env} {H:Qc}
theorem QgV{h0 i:Nat}{x x':Blk}(hH:H[i]?=some x)(e:x=x'):Le h0 env H env (H.set i x'):=by
 subst e;obtain⟨b,a⟩:=XJ.1 hH;rw[<- a,List.set_getElem_self];exact Le.refl _ _ _
theorem RL.put{ro:Nat->Prop}{σ:Sig}{w:World}{k:Nat}:∀{a:Nat} {es fs:List (List A)} {l m:List Value},RL ro σ w k es l->a+fs.length<=es.length->Sw.allK k fs->LR ro σ w fs.flatten m->(∀v∈m,Qn v)->
  RL ro σ w k (es.take a++fs++es.drop (a+fs.length)) (Sw.splice l (a*k) m)
 |0,es,[],l,m,h,hn,hk,hm,hp=>by
  obtain rfl:m=[]:=hm;simpa[Sw.splice]using h
 |0,[],f::fs,l,m,h,hn,hk,hm,hp=>by simp at hn
 |0,c::es,f::fs,l,m,⟨l1,l2,h1,h2,h3,h4⟩,hn,hk,hm,hp=>by
  subst h1;have hl1:=h3.1.length;have hml:=hm.length;rw[Vh,XY]at hml;have e1:m.take k++m.drop k=m:=Xy _ _;have q1:LR ro σ w f (m.take k):=by have:=hm.take k;rwa [Vh,X3 (by rw[hk.1];exact XR _),VA (by rw[hk.1];exact XR _)]at this
  have e:LR ro σ w fs.flatten (m.drop k):=by have:=hm.drop k;rwa [Vh,X4 (by rw[hk.1];exact XR _),List.drop_of_length_le (by rw[hk.1];exact XR _),Vd]at this
  have b:=RL.put (a:=0) h4 (by simpa using hn) hk.2 e (λv d=>hp v (List.mem_of_mem_drop d));simp only[List.take_zero,Vd,Xu,Nat.zero_mul,Sw.splice]at b⊢;refine⟨m.take k,m.drop k++l2.drop (m.drop k).length,?_,hk.1,⟨q1,λv d=>hp v (List.mem_of_mem_take d)⟩,by simpa using b⟩;have i:k<=m.length:=by rw[hml,hk.1];exact Nat.le_add_right _ _
  rw[<- Ve,e1];congr 1;rw[Xx,show m.length=l1.length+(m.length-k)from by omega,X6];have g:l1.length+(m.length-k)-k=m.length-k:=by omega
  rw[g]
 |a+1,[],fs,l,m,h,hn,hk,hm,hp=>by simp at hn
 |a+1,c::es,fs,l,m,⟨l1,l2,h1,h2,h3,h4⟩,hn,hk,hm,hp=>by
  subst h1;have hl1:=h3.1.length;have b:=RL.put (a:=a) h4 (by simp at hn;omega) hk hm hp;refine⟨l1,Sw.splice l2 (a*k) m,?_,h2,h3,?_⟩
  .have e1:(a+1)*k=l1.length+a*k:=by rw[Xj];omega
   unfold Sw.splice;rw[e1,X7,show l1.length+a*k+m.length=l1.length+(a*k+m.length)from by omega,X6];simp
  .have j:a+1+fs.length=(a+fs.length)+1:=by omega
   simpa[j]using b
def QhO(P:Program)(H:Qc)(x:A)(k:Nat)(es:List (List A)):Prop:=
 ∀fr ro σ w v,Sim fr ro σ H w->VR ro σ w x v->(∃a c,v=.slice a es.length c)/\
  ∀j,j<=es.length->allK k (es.take j)/\ ∃l,(Builtin.firstCells k j v).run P w=.ok l.toArray w/\LR ro [] w (es.take j).flatten l/\ ∀v∈l,Qn v
theorem Qdq{fr ro:Nat->Prop}{σ:Sig}{w:World}{k j b off n c:Nat}{es:List (List A)}(h:RR ro [] w b k es off)(g:j<=es.length):
  allK k (es.take j)/\ ∃l,(Builtin.firstCells k j (.slice (some ⟨b,off,none⟩) n c)).run P w=.ok l.toArray w/\LR ro [] w (es.take j).flatten l/\ ∀v∈l,Qn v:=by
 obtain⟨e,d,a⟩:=(h.take j).flat;rw[Xw,XA g]at a;obtain⟨l,i,f⟩:=Qby (P:=P) (n:=j) (c:=c) e a;refine⟨d,l,?_,f⟩;exact i w rfl
theorem QbS{k n c:Nat}{a:Option Addr}{w:World}:(Builtin.firstCells k 0 (.slice a n c)).run P w=.ok #[] w:=by
 cases a<;>simp[Builtin.firstCells,loadCells,loadCellsFrom,go_sem]
theorem Qj6{α:Type}{e:α->List A}{k:Nat}{l:List α}:QhO P H (.rsl k (l.map e)) k (l.map e):=by
 intro fr m σ w v s ⟨a,c,h1,h2,d⟩;subst h1;refine⟨⟨a,c,rfl⟩,λj f=>?_⟩;rcases d with d|⟨b,h,rfl,i,g⟩
 .rw[d]at f⊢;obtain rfl:j=0:=by simpa using f
  exact⟨trivial,[],QbS,rfl,by simp⟩
 .exact Qdq (fr:=fr) (σ:=σ) g f
theorem QhO.osl{i s n k t:Nat}{es es':List (List A)}(hH:H[i]?=some (.row t k es))(he:(es.drop s).take n=es')(J:s+n<=es.length):QhO P H (.osl i s n k) k es':=by
 intro fr E σ w v sm h;have d:es'.length=n:=by rw[<- he];simp;omega
 rcases h with⟨rfl,rfl⟩|⟨b,p,a,G,m,x,rfl,y,z,B,F⟩
 .have e:es'=[]:=VB.1 d;subst e;refine⟨⟨none,0,rfl⟩,λj f=>?_⟩;obtain rfl:j=0:=by simpa using f
  exact⟨trivial,[],QbS,rfl,by simp⟩
 .rw[d];refine⟨⟨_,a,rfl⟩,λj f=>?_⟩;obtain⟨l,u,r⟩:=sm.blk i _ _ x hH;have g:=((Yz (pre:=[]) (by simpa using u) r).drop s).take n;rw[he]at g;by_cases q:0<a
  .obtain rfl:=y q;simpa using Qdq (P:=P) (fr:=fr) (σ:=σ) (n:=n) (c:=a) g (by rw[d];exact f)
  .obtain rfl:j=0:=by omega
   exact⟨trivial,[],QbS,rfl,by simp⟩
theorem Qj7{α:Type}{e:α->List A}{b t k:Nat}{l r:List α}{a c:Int}(h:slc l a c=some r)(hH:H[b]?=some (.row t k (l.map e)):=by exact rfl):QhO P H (.osl b (0+a.toNat) (c.toNat-a.toNat) k) k (r.map e):=by
 obtain⟨f,g,i,d⟩:=Qcr h;refine QhO.osl hH ?_ (by rw[XX];omega);rw[<- d, <- List.map_drop, <- List.map_take,Xu,List.drop_take]
def cpy{α:Type}(l:List α)(a c:Int)(m:List α):Option (List α):=some (l.take a.toNat++m.take (c.toNat-a.toNat)++l.drop (a.toNat+min m.length (c.toNat-a.toNat)))
theorem Qdf{α:Type}{l r l' m:List α}{a c:Int}(h:slc l a c=some r)(b:cpy l a c m=some l'):l.length=l'.length:=by
 obtain⟨d,e,f,_⟩:=Qcr h;rw[<- XV b];simp only[XY,Xw,Xx];omega
theorem QdM{α:Type}{l l' m:List α}(a:cpy l 0 (l.length:Int) m=some l'):l.length=l'.length:=by
 rw[<- XV a];simp only[XY,Xw,Xx];simp;omega
theorem QeK{α:Type}{e:α->List A}{c:Call}{T T' et k b a n t:Nat}{x y:Operand}{ya:A}{l m l':List α}(aa:a+n<=l.length)(Y:l.take a++m.take n++l.drop (a+min m.length n)=l')(hT:∀w,(underlying T).run P w=.ok (.slice et) w)(z:∀w,(sizeOf et).run P w=.ok k w)(hs:QhO P H ya k (m.map e))
  (ho:o.op=.call c)(hc:c={callee:=.builtin .copy,args:= #[x,y],argTypes:= #[T,T']})(hx:opA env x=.osl b a n k)(hH:H[b]?=some (.row t k (l.map e)))(hy:opA env y=ya):
  OpH P o env H (.int .i64 (min m.length n:Nat)) (H.set b (.row t k (l'.map e))):=by
 intro W J σ N ac w r;have u:=Qf r x;rw[hx]at u;have h2:=Qf r y;rw[hy]at h2;obtain⟨⟨ay,cy,V⟩,q2⟩:=hs W J σ w _ r.sim h2;rw[XX]at V q2;obtain⟨q3,G,L,O,q6⟩:=q2 (min m.length n) (Nat.min_le_left _ _);have d:((m.map e).take (min m.length n)).length=min m.length n:=by rw[Xw,XX];omega
 have B:l'.map e=(l.map e).take a++(m.map e).take (min m.length n)++(l.map e).drop (a+((m.map e).take (min m.length n)).length):=by
  rw[d, <- Y,Xf,Xf, <- List.map_take, <- List.map_take, <- List.map_drop];have e2:m.take (min m.length n)=m.take n:=by
   by_cases q:m.length<=n
   .rw[XA q,X5,VA q]
   .rw[Nat.min_eq_right (by omega)]
  rw[e2]
 have h:(Builtin.copy_ #[T,T'] o.type #[ac.eval x,ac.eval y]).run P w=.ok (.int .i64 (min m.length n:Nat)) w->min m.length n=0->
   ∃v w' ro' τ,(execOp ac.eval o).run P w=.ok (.value v) w'/\VR ro' (σ++τ) w' (.int .i64 (min m.length n:Nat)) v/\Sim W ro' (σ++τ) (H.set b (.row t k (l'.map e))) w'/\Qg W J w ro' w':=by
  intro f hz;have hs:H.set b (.row t k (l'.map e))=H:=by
   have:l'.map e=l.map e:=by rw[B,d,hz];simp
   rw[this];obtain⟨hb,hv⟩:=XJ.1 hH;rw[<- hv,List.set_getElem_self]
  refine⟨_,w,J,[],?_,rfl,by simpa[hs]using r.sim,Qg.refl _ _ _⟩;subst hc;generalize ac.eval=ρ at*;simp only[execOp,ho,resolve,Vi,Vj,Result.andThen,invoke,builtin,XG,Vf,Vg,f]
 have F:∀j:Nat,goInt j=.int .i64 j:=λ_=>rfl;rcases u with⟨M,u⟩|⟨bb,p,ab,t',mm,u,h3,h4,h5,h6,h7⟩
 .refine h ?_ (by omega);rw[V]at L⊢;rw[u];have:Nat.min m.length 0=min m.length n:=by rw[M]
  simp only[Builtin.copy_,XE,XC,XD,Vi,hT,z,Result.andThen,Builtin.lenOf,Vj,this,L,F]
 .have g:∀R:Result Unit,(storeCells ⟨bb,p,none⟩ G).run P w=R->(Builtin.copy_ #[T,T'] o.type #[ac.eval x,ac.eval y]).run P w=R.andThen λ_ w=>.ok (.int .i64 (min m.length n:Nat)) w:=by
   intro R hR;rw[V]at L⊢;rw[h3];have:Nat.min m.length n=min m.length n:=rfl;simp only[Builtin.copy_,XE,XC,XD,Vi,hT,z,Result.andThen,Builtin.lenOf,Vj,this,L,F,hR]
  by_cases M:min m.length n=0
  .have s:G=[]:=by
    have:=O.length;rw[M]at this;exact VB.1 (by simpa using this)
   refine h ?_ M;have:=g (.ok () w) (by rw[s];rfl);rw[this];rfl
  .obtain rfl:=h4 (by omega);obtain⟨l0,g1,g2⟩:=r.sim.blk b _ _ u hH;have X:=g2.length;have s:=O.length;rw[Yg q3,d]at s;have ae:a*k+(min m.length n)*k<=l0.length:=by
    rw[<- Xz];refine XT (XB k ?_) X;rw[XX];omega
   have E:=QT (P:=P) (vs:=G) (a*k) 0 g1 (by omega) q6;rw[Xv]at E;have f:=g _ E;have i:=r.sim.set (x':=.row t k (l'.map e)) (obj:=.cells (splice l0 (a*k) G).toArray t (0,0)) u hH rfl
    (λy hy=>Qae g1 (QS (by omega)) y hy)
    (λex Q=>⟨_,Q,by
     rw[B];exact(RL.put g2 (by rw[d,XX];omega) q3 O q6).mono ex.nil⟩)
   refine⟨_,_,J,[],?_,rfl,by simpa using i.1,i.2⟩;subst hc;generalize ac.eval=ρ at*;simp only[execOp,ho,resolve,Vi,Vj,Result.andThen,invoke,builtin,XG,Vf,Vg,f]
theorem Qh3{α:Type}{e:α->List A}{c:Call}{T T' et k b t:Nat}{x y:Operand}{ya:A}{l m l':List α}(h:cpy l 0 (l.length:Int) m=some l')(f:∀w,(underlying T).run P w=.ok (.slice et) w)(a:∀w,(sizeOf et).run P w=.ok k w)(g:QhO P H ya k (m.map e))
  (d:o.op=.call c:=by exact rfl)(hc:c={callee:=.builtin .copy,args:= #[x,y],argTypes:= #[T,T']}:=by exact rfl)(hx:opA env x=.osl b 0 l.length k:=by exact rfl)(hH:H[b]?=some (.row t k (l.map e)):=by exact rfl)(hy:opA env y=ya:=by exact rfl):
  OpH P o env H (.int .i64 (min m.length l.length:Nat)) (H.set b (.row t k (l'.map e))):=by
 refine QeK (Nat.le_of_eq (Xu _)) ?_ f a g d hc hx hH hy;rw[<- XV h];rfl
theorem Qh4{α:Type}{e:α->List A}{c:Call}{T T' et k b t:Nat}{x y:Operand}{ya:A}{l n m l':List α}{i j:Int}(hi:slc l i j=some n)(h:cpy l i j m=some l')(g:∀w,(underlying T).run P w=.ok (.slice et) w)(d:∀w,(sizeOf et).run P w=.ok k w)(f:QhO P H ya k (m.map e))
  (p:o.op=.call c:=by exact rfl)(hc:c={callee:=.builtin .copy,args:= #[x,y],argTypes:= #[T,T']}:=by exact rfl)(hx:opA env x=.osl b (0+i.toNat) (j.toNat-i.toNat) k:=by exact rfl)(hH:H[b]?=some (.row t k (l.map e)):=by exact rfl)(hy:opA env y=ya:=by exact rfl):
  OpH P o env H (.int .i64 (min m.length (j.toNat-i.toNat):Nat)) (H.set b (.row t k (l'.map e))):=by
 obtain⟨r,s,q,u⟩:=Qcr hi;refine QeK (a:=i.toNat) (by omega) (XV h) g d f p hc ?_ hH hy;rw[hx,Xu]
end
end Go.Sw
namespace Go.Sw
open Go.MapKept
section
variable {fr ro ro':Nat->Prop} {σ:Sig} {H:Qc} {w:World}
end
end Go.Sw
namespace Go.Sw
theorem gd20{α:Type}{n:Int}{x:Option α}{r:α}(h:(bif decide (n<20)then x else none)=some r):decide (20<=n)=false/\decide (20<n)=false/\x=some r:=by
 cases q:decide (n<20)with
 |false=>rw[q]at h;cases h
 |true=>
  rw[q]at h;have:=Vq q;exact⟨Vr (by omega),Vr (by omega),h⟩
def Qet{α:Type}(l:List α)(o:Option (List α)):Option (List α):=o.bind λr=>bif Nat.beq l.length r.length then some r else none
theorem QfG{α:Type}{l r:List α}{o:Option (List α)}(h:Qet l o=some r):o=some r/\l.length=r.length:=by
 cases o with
 |none=>cases h
 |some x=>
  have a:(bif Nat.beq l.length x.length then some x else none)=some r:=h;cases q:Nat.beq l.length x.length with
  |false=>rw[q]at a;cases a
  |true=>
   rw[q]at a;obtain rfl:=XV a;exact⟨rfl,XO q⟩
theorem Qdz{α:Type}{l r:List α}{o:Option (List α)}(h:Qet l o=some r):o=some r:=(QfG h).1
theorem Y0{α:Type}{l r:List α}{o:Option (List α)}(h:Qet l o=some r):l.length=r.length:=(QfG h).2
section
variable {P:Program} {o:Oper} {env:Env} {H:Qc} {α:Type} {e:α->List A}
end
end Go.Sw
namespace Go.Sw
open Go.MapKept
section
variable {P:Program} {o:Oper} {env:Env} {H:Qc}
theorem QgS{T:Nat}(b:o.op=.makeMap T none:=by exact rfl):OpH P o env H (.map H.length) (H++[.mapP []]):=by
 intro e d σ N a w r;refine⟨.map (some w.heap.size),w.alloc (.map #[] 0),d,[some w.heap.size],?_,⟨w.heap.size,?_,rfl⟩,r.sim.alloc ⟨#[],0,Q1 _ _,rfl,by simp,by simp,by simp⟩,Qg.alloc _ r.sim.roLt r.sim.frLt⟩
 .generalize a.eval=ρ at*;simp only[execOp,b,Instr.makeMap,Xi,Vi];rfl
 .rw[<- r.sim.len];simp
variable {T kt et:Nat} {α β:Type} [DecidableEq α] {ek:α->A} {ev:β->A} {x y:Operand} {i:Nat} {l:List (α×β)} {k:α} {z0:β} {z:Value}
theorem Qb1(K:YE P kt ek){v:β}(h:Qak l k=some v)(L:P.underlying T=some (.map kt et))
  (O:o.op=.lookup T x y false:=by exact rfl)(hx:opA env x=.map i:=by exact rfl)(hH:H[i]?=some (.mapP (Qh ek ev l)):=by exact rfl)(hy:opA env y=ek k:=by exact rfl):OpV P o env H (ev v):=by
 intro R Q σ N a w r;have p:=Qf r x;rw[hx]at p;obtain⟨b,s,E⟩:=p;have g:=Qf r y;rw[hy]at g;have F:=VR.val (K.scl _) g;obtain⟨G,d,z,q,W,Y,M⟩:=r.sim.blk i _ _ s hH;obtain⟨J,t⟩:=ER.find K q k M;rcases K.find w k G.toList (QaL K q)with⟨m,f⟩|⟨j,e,m,f,u⟩
 .have:=(J f).1;rw[h]at this;cases this
 .obtain⟨V,X,n,B⟩:=t j e f u;rw[h]at n;obtain rfl:=XV n;refine⟨e.val,?_,B⟩;simp only[execOp,O,E,F,Instr.lookup,Vi,run_underlying L,Result.andThen,MapKept.run_getObj_map z,Vj,K.check,m];rfl
theorem QgN(K:YE P kt ek)(z:Qak l k=none)(G:P.underlying T=some (.map kt et))(L:∀w,(zeroValue et).run P w=.ok (.pointer none) w)
  (M:o.op=.lookup T x y false:=by exact rfl)(hx:opA env x=.map i:=by exact rfl)(hH:H[i]?=some (.mapP (Qh ek ev l)):=by exact rfl)(hy:opA env y=ek k:=by exact rfl):OpV P o env H .nilp:=by
 intro Q O σ N a w r;have n:=Qf r x;rw[hx]at n;obtain⟨b,q,B⟩:=n;have f:=Qf r y;rw[hy]at f;have E:=VR.val (K.scl _) f;obtain⟨F,d,u,p,W,p4,J⟩:=r.sim.blk i _ _ q hH;obtain⟨X,s⟩:=ER.find K p k J;rcases K.find w k F.toList (QaL K p)with⟨h,g⟩|⟨j,e,h,g,t⟩
 .refine⟨.pointer none,?_,rfl⟩;simp only[execOp,M,B,E,Instr.lookup,Vi,run_underlying G,Result.andThen,MapKept.run_getObj_map u,Vj,K.check,h,L];rfl
 .obtain⟨R,Y,m,V⟩:=s j e g t;rw[z]at m;cases m
theorem Qh2(K:YE P kt ek){v:β}{zz:Operand}(X:Qak l k=none)(hT:P.underlying T=some (.map kt et))
  (ho:o.op=.mapUpdate T x y zz:=by exact rfl)(hx:opA env x=.map i:=by exact rfl)(hH:H[i]?=some (.mapP (Qh ek ev l)):=by exact rfl)(n:opA env y=ek k:=by exact rfl)(hv:opA env zz=ev v:=by exact rfl):
  OpU P o env H (H.set i (.mapP (Qh ek ev (l++[(k,v)])))):=by
 intro fr W σ N a w r;have M:=Qf r x;rw[hx]at M;obtain⟨b,B,Y⟩:=M;have E:=Qf r y;rw[n]at E;have h3:=VR.val (K.scl _) E;have O:=Qf r zz;rw[hv]at O;obtain⟨L,f,s,z,G,p4,Q⟩:=r.sim.blk i _ _ B hH;obtain⟨f1,R⟩:=ER.find K z k Q;have u:∀(obj:Obj) y,w.shape? b=some y->({w with heap:=w.heap.setIfInBounds b obj}:World).shape? b=some y:=by
  intro obj y n;unfold World.shape? at n;rw[s]at n;simp at n
 rcases K.find w k L.toList (QaL K z)with⟨F,t⟩|⟨j,e,F,t,V⟩
 .have g:=r.sim.set (x':=.mapP (Qh ek ev (l++[(k,v)]))) (obj:=.map (L.push {key:=QB (ek k),val:=a.eval zz,born:=f}) (f+1)) B hH rfl (u _)
   (λe h=>⟨_,_,h,by
    rw[Qh,Xf,Array.toList_push];exact(z.mono e).append ⟨_,_,rfl,(Qbv (K.scl _)),O.mono e,rfl⟩,by
    rw[Array.toList_push];intro e h;rcases Vv.1 h with q|q
    .exact Nat.lt_succ_of_lt (G e q)
    .simp at q;subst q;exact Xl _,by
    rw[Array.toList_push,Xf];refine List.nodup_append.2 ⟨p4,by simp,?_⟩;intro c p d m;simp at m;subst m;obtain⟨e,h,rfl⟩:=Xe.1 p;exact Nat.ne_of_lt (G e h),by
    rw[Array.toList_push,Xf];refine List.nodup_append.2 ⟨Q,by simp,?_⟩;intro c p d m;simp at m;subst m;obtain⟨e,h,rfl⟩:=Xe.1 p;exact t e h⟩)
  refine⟨_,W,[],?_,by simpa using g.1,g.2⟩;simp only[execOp,ho,Y,h3,Vi,Instr.mapUpdate,run_underlying hT,Result.andThen,MapKept.run_getObj_map s,K.check,F,MapKept.run_setObj_map _ s];rfl
 .obtain⟨u1,v',J,u3⟩:=R j e t V;rw[X]at J;cases J
end
section
variable {fr ro:Nat->Prop} {σ:Sig} {H:Qc} {w:World}
theorem Sim.shutAny(s:Sim fr ro σ H w){i b:Nat}{r:Blk}(hσ:σ[i]?=some (some b))(hH:H[i]?=some r)(hl:r.live=true):
  Sim fr (λc=>ro c\/c=b) σ (H.set i .dead) w:=by
 have g:b<w.heap.size/\ ¬ro b/\ ¬fr b:=s.own i b _ hσ hH hl;have ext:Ext ro σ w (λc=>ro c\/c=b) σ w:=⟨λ_ q=>.inl q,λ_ _=>rfl,λ_ _ q=>q,λ_ _ q=>q⟩;have a:∀(j:Nat) (v:Blk),(H.set i .dead)[j]?=some v->v≠ .dead->j≠i/\H[j]?=some v:=by
  intro j v h m;by_cases e:j=i
  .subst e;rw[Xb]at h;simp only[if_true]at h;split at h
   .cases h;exact absurd rfl m
   .simp at h
  .rw[XN (λq=>e q.symm)]at h;exact⟨e,h⟩
 refine⟨by rw[XZ];exact s.len,s.roOk.to (λ_ q=>.inl q) (λ_ _=>rfl) ?_,s.frLt,?_,?_,?_,?_,s.hidTo (· = ·) QP (XR _) (λj d x c z J F O=>O.elim id λq=>((s.hid j d x c z J F).ne i b _ hσ hH hl q).elim) (λ_ _ _ _ _ _ _ q=>q) λj d y L G B=>.inl ⟨j,y,rfl,L,(a j y G (Qdj B)).2,id,λ_ q=>q⟩⟩
 .rintro c (q|rfl)
  .exact s.roLt c q
  .exact g.1
 .rintro c (q|rfl)
  .exact s.roFr c q
  .exact g.2.2
 .intro j c v k f l;obtain⟨e,f⟩:=a j v f (Qas l);obtain⟨E,P,M⟩:=s.own j c v k f l;refine⟨E,?_,M⟩;rintro(q|rfl)
  .exact P q
  .exact e (s.inj j i c v _ k hσ f hH l hl)
 .intro j n c v t k f l N u p;exact s.inj j n c v t k f (a j v l (Qas u)).2 (a n t N (Qas p)).2 u p
 .intro j y v k f;by_cases m:v≠ .dead
  .exact(s.blk j y v k (a j v f m).2).keep ext (λ_ _ _=>rfl) (λ_ _ _ _=>rfl)
  .obtain rfl:v=.dead:=Classical.not_not.1 m;trivial
def Qbu(H:Qc):List Nat->Qc
 |[]=>H
 |i::l=>Qbu (H.set i .dead) l
theorem Qes{l:List Nat}:∀{H:Qc} {j:Nat},j∉l->(Qbu H l)[j]?=H[j]? :=by
 induction l with
 |nil=>intro H j _;rfl
 |cons i l a=>
  intro H j hj;rw[X2,not_or]at hj;unfold Qbu;rw[a hj.2,XN (λq=>hj.1 q.symm)]
theorem QcE:∀{l:List Nat} {ro:Nat->Prop} {H:Qc} (s:Sim fr ro σ H w),l.Nodup->(∀i∈l,∃x,H[i]?=some x/\x.live=true)->
  ∃ro',Sim fr ro' σ (Qbu H l) w/\(∀c,ro c->ro' c)/\ ∀i∈l,∀b,σ[i]?=some (some b)->ro' b
 |[],ro,H,s,_,_=>⟨ro,s,λ_ q=>q,λ_ h=>by cases h⟩
 |i::l,ro,H,s,hn,hl=>by
  rw[List.nodup_cons]at hn;obtain⟨x,hx,hxl⟩:=hl i (by simp);have rest:∀i'∈l,∃x,(H.set i .dead)[i']?=some x/\x.live=true:=by
   intro i' a;obtain⟨y,r,k⟩:=hl i' (X0 _ a);exact⟨y,by rw[XN (λq=>hn.1 (by rw[q];exact a))];exact r,k⟩
  have p:∃q,σ[i]?=some q:=by
   have:i<σ.length:=by rw[s.len];exact(XJ.1 hx).1
   exact⟨_,XI this⟩
  obtain⟨q,f⟩:=p;cases q with
  |some b=>
   obtain⟨ro',g,e,m⟩:=QcE (s.shutAny f hx hxl) hn.2 rest;refine⟨ro',g,λc n=>e c (.inl n),λi' a j d=>?_⟩;rcases X2.1 a with rfl|a
   .rw[f]at d;cases d;exact e _ (.inr rfl)
   .exact m i' a j d
  |none=>
   obtain⟨ro',g,e,m⟩:=QcE (s.kill i) hn.2 rest;refine⟨ro',g,e,λi' a j d=>?_⟩;rcases X2.1 a with rfl|a
   .rw[f]at d;cases d
   .exact m i' a j d
end
end Go.Sw
namespace Go.Sw
structure Fil (α β:Type) where
 number:Int
 r0:List α
 r1:List α
 r2:List α
 reports:List β
 appeal:Bool
 deriving DecidableEq
structure FK (α β:Type) where
 T:Nat
 tF:Nat
 kF:Nat
 tR:Nat
 kR:Nat
 eF:α->List A
 eR:β->List A
section
variable {α β:Type} (K:FK α β)
def QiU(b:Nat)(x:Fil α β):List A:=[.int .i64 x.number,.osl (b+1) 0 x.r0.length K.kF,.osl (b+2) 0 x.r1.length K.kF,.osl (b+3) 0 x.r2.length K.kF,.osl (b+4) 0 x.reports.length K.kR,.bool x.appeal]
def Qhi(b:Nat)(x:Fil α β):List Blk:=[.cells K.T (QiU K b x),.row K.tF K.kF (x.r0.map K.eF),.row K.tF K.kF (x.r1.map K.eF),.row K.tF K.kF (x.r2.map K.eF),.row K.tR K.kR (x.reports.map K.eR)]
def fall:Nat->List (Fil α β)->List Blk
 |_,[]=>[]
 |b,x::l=>Qhi K b x++fall (b+5) l
def frp(x:Fil α β):List A:=[.int .i64 x.number,.rsl K.kF (x.r0.map K.eF),.rsl K.kF (x.r1.map K.eF),.rsl K.kF (x.r2.map K.eF),.rsl K.kR (x.reports.map K.eR),.bool x.appeal]
def fent:Nat->List (Fil α β)->List (Int×Nat)
 |_,[]=>[]
 |b,x::l=>(x.number,b)::fent (b+5) l
def Qc4(j:Nat):A:=.ptr j 0
def rpE(x:Fil α β):A:=.rp (frp K x)
def Qd9(fs:List (Fil α β)):List (Int×Fil α β):=fs.map λx=>(x.number,x)
theorem Qez(b:Nat)(x:Fil α β)(l:List (Fil α β)):fall K b (x::l)=Qhi K b x++fall K (b+5) l:=rfl
theorem Qey(b:Nat)(x:Fil α β):(Qhi K b x).length=5:=rfl
end
section
variable {fr ro ro':Nat->Prop} {σ:Sig} {w:World}
theorem QaQ(sub:∀c,ro c->ro' c){i t k:Nat}{es:List (List A)}{v:Value}(r:∀b,σ[i]?=some (some b)->BR ro σ w (.row t k es) (some b)/\ro' b)(h:VR ro σ w (.osl i 0 es.length k) v):VR ro' [] w (.rsl k es) v:=by
 rcases h with⟨x,h⟩|⟨b,p,a,B,m,s,h,u,e,y,z⟩
 .have:es=[]:=VB.1 x;subst this;exact⟨none,0,h,XR _,.inl rfl⟩
 .refine⟨_,a,h,e,?_⟩;by_cases d:es=[]
  .exact .inl d
  .right;have f:0<a:=Vb (List.length_pos_iff.2 d) e;obtain rfl:=u f;obtain⟨⟨l,j,g⟩,n⟩:=r b s;refine⟨b,0,by simp,n,?_⟩;have:=Yz (pre:=[]) (by simpa using j) g;exact this.keep ⟨sub,λ_ _=>rfl,λ_ _ q=>q,λ_ _ q=>q⟩ rfl
theorem Qfq{ro:Nat->Prop}{w:World}{b t:Nat}:∀{cs:List A} {pre l:List Value},w.heap[b]?=some (.cells (pre++l).toArray t (0,0))->LR ro [] w cs l->(∀v∈l,Qn v)->CR ro [] w b cs pre.length
 |[],pre,l,_,_,_=>trivial
 |a::cs,pre,l,hb,hl,hp=>by
  obtain⟨v,l',rfl,h1,h2⟩:=hl;refine⟨⟨v,?_,hp v (by simp),h1⟩,?_⟩
  .unfold World.cell?;rw[hb];simp
  .have:=Qfq (pre:=pre++[v]) (l:=l') (by simpa using hb) h2 λu hu=>hp u (X0 _ hu);simpa using this
variable {α β:Type} (K:FK α β)
theorem Qj4(sub:∀c,ro c->ro' c){b:Nat}{x:Fil α β}{v:Value}(f:∀(d c:Nat) (y:Blk),(Qhi K b x)[d]?=some y->σ[b+d]?=some (some c)->BR ro σ w y (some c)/\ro' c)(h:VR ro σ w (.ptr b 0) v):VR ro' [] w (.rp (frp K x)) v:=by
 obtain⟨c,E,j⟩:=h;obtain⟨⟨l,z,a,k⟩,s⟩:=f 0 c _ rfl E;refine⟨c,0,j,s,?_⟩;refine Qfq (pre:=[]) (by simpa using z) ?_ k;unfold QiU at a;obtain⟨v0,N,rfl,n,a⟩:=a;obtain⟨F,H,rfl,g,a⟩:=a;obtain⟨m,O,rfl,r,a⟩:=a;obtain⟨q,M,rfl,p,a⟩:=a;obtain⟨u,L,rfl,G,a⟩:=a;obtain⟨B,J,rfl,i,a⟩:=a;refine⟨v0,_,rfl,n,F,_,rfl,QaQ sub (t:=K.tF) (λc e=>f 1 c _ rfl e) (by simpa using g),m,_,rfl,QaQ sub (t:=K.tF) (λc e=>f 2 c _ rfl e) (by simpa using r),q,_,rfl,QaQ sub (t:=K.tF) (λc e=>f 3 c _ rfl e) (by simpa using p),
  u,_,rfl,QaQ sub (t:=K.tR) (λc e=>f 4 c _ rfl e) (by simpa using G),B,_,rfl,i,a⟩
theorem Qjw(sub:∀c,ro c->ro' c){ek:Int->A}(hek:∀(k:Int) (v:Value),VR ro σ w (ek k) v->VR ro' [] w (ek k) v):∀{b:Nat} {fs:List (Fil α β)} {es:List MapEntry},(∀(d c:Nat) (y:Blk),(fall K b fs)[d]?=some y->σ[b+d]?=some (some c)->BR ro σ w y (some c)/\ro' c)->
  ER ro σ w (Qh ek Qc4 (fent b fs)) es->ER ro' [] w (Qh ek (rpE K) (Qd9 fs)) es
 |b,[],es,_,h=>h
 |b,x::l,es,hb,h=>by
  obtain⟨e,l',rfl,h1,h2,h3⟩:=h;refine⟨e,l',rfl,hek _ _ h1,?_,?_⟩
  .refine Qj4 K sub (λd c y hy hc=>hb d c y ?_ hc) h2;rw[Qez,XK (XJ.1 hy).1];exact hy
  .refine Qjw sub hek (b:=b+5) (fs:=l) (λd c y hy hc=>hb (d+5) c y ?_ (by rw[show b+(d+5)=b+5+d by omega];exact hc)) h3;rw[Qez,XL (by rw[Qey];omega),Qey,Nat.add_sub_cancel];exact hy
end
section
variable {fr ro:Nat->Prop} {σ:Sig} {w:World} {α β:Type} (K:FK α β)
theorem Sim.shutMapP{H:Qc}(s:Sim fr ro σ H w){i b:Nat}{es es':List (A×A)}(hσ:σ[i]?=some (some b))(hH:H[i]?=some (.mapP es))(he:∀l,ER ro σ w es l->ER (λc=>ro c\/c=b) [] w es' l):
  Sim fr (λc=>ro c\/c=b) σ (H.set i (.fmap es')) w:=by
 have k:b<w.heap.size/\ ¬ro b/\ ¬fr b:=s.own i b _ hσ hH rfl;have ext:Ext ro σ w (λc=>ro c\/c=b) σ w:=⟨λ_ q=>.inl q,λ_ _=>rfl,λ_ _ q=>q,λ_ _ q=>q⟩;have a:∀(j:Nat) (v:Blk),(H.set i (.fmap es'))[j]?=some v->v.live=true->j≠i/\H[j]?=some v:=by
  intro j v h t;by_cases e:j=i
  .subst e;rw[Xb]at h;simp only[if_true]at h;split at h
   .cases h;simp[Blk.live]at t
   .simp at h
  .rw[XN (λq=>e q.symm)]at h;exact⟨e,h⟩
 have g:∀(j:Nat) (v:Blk),(H.set i (.fmap es'))[j]?=some v->v.holds=true->H[j]?=some v:=by
  intro j v h t;by_cases e:j=i
  .subst e;rw[Xb]at h;simp only[if_true]at h;split at h
   .cases h;cases t
   .simp at h
  .rw[XN (λq=>e q.symm)]at h;exact h
 refine⟨by rw[XZ];exact s.len,s.roOk.to (λ_ q=>.inl q) (λ_ _=>rfl) ?_,s.frLt,?_,?_,?_,?_,s.hidTo (· = ·) QP (XR _) (λj d x c J O M R=>R.elim id λq=>((s.hid j d x c J O M).ne i b _ hσ hH rfl q).elim) (λ_ _ _ _ _ _ _ q=>q) λj d y P N L=>.inl ⟨j,y,rfl,P,g j y N L,id,λ_ q=>q⟩⟩
 .rintro c (q|rfl)
  .exact s.roLt c q
  .exact k.1
 .rintro c (q|rfl)
  .exact s.roFr c q
  .exact k.2.2
 .intro j c v m f p;obtain⟨e,f⟩:=a j v f p;obtain⟨r,z,u⟩:=s.own j c v m f p;refine⟨r,?_,u⟩;rintro(q|rfl)
  .exact z q
  .exact e (s.inj j i c v _ m hσ f hH p rfl)
 .intro j B c v F m f p Q G E;exact s.inj j B c v F m f (a j v p G).2 (a B F Q E).2 G E
 .intro j y v m f;by_cases e:j=i
  .subst e;rw[Xa (XJ.1 hH).1]at f;cases f;rw[hσ]at m;cases m;obtain⟨l,n,r,z,u⟩:=s.blk j _ _ hσ hH;exact⟨.inr rfl,l,n,r,he _ z,u⟩
  .rw[XN (λq=>e q.symm)]at f;exact(s.blk j y v m f).keep ext (λ_ _ _=>rfl) (λ_ _ _ _=>rfl)
end
end Go.Sw
namespace Go.Sw
open Go.Sort Go.Proofs Go.Shelf
theorem QiG{α:Type}{l:List α}(h:l.length=1):∃v,l=[v]:=by
 match l,h with
 |[v],_=>exact⟨v,rfl⟩
theorem QdF{α β:Type}(f:α->β):∀l:List α,(l.map λa=>[f a]).flatten=l.map f
 |[]=>rfl
 |a::l=>by simp[QdF f l]
structure Elt1 (ro:Nat->Prop) (w:World) {T:Type} (ea:T->A) (l:List T) where
 x:T
 v:Value
 mem:x∈l
 rel:VR ro [] w (ea x) v
 plain:Qn v
theorem Qkf{P:Program}{ρ:Ren}(L0:SlLaysF0.n6 P ρ){T:Type}[DecidableEq T]{ea:T->A}{t g:Nat}{cap:List A}{l l':List T}{cf:T->T->Option Int}(hs:Qdn cf l=some l')
  (ba:∀x y c,cf x y=some c->C P g ([ea x,ea y]++cap) [] (λa H=>a=.int .i64 c/\H=[]))
  (aE:∀w,(isAgg (ρ.t 24)).run P w=.ok false w)(zE:∀w,(Go.sizeOf (ρ.t 24)).run P w=.ok 1 w)(eg:∀args w,(callFunc g args).run P w=.ok (.enter g args) w)(hd:Q6 cap=true):
  C P (ρ.f 6) [.osl 0 0 l.length 1,.fn (.func g) [] cap] [.row t 1 (l.map λx=>[ea x])] (λa H=>a=.tup []/\H=[.row t 1 (l'.map λx=>[ea x])]):=by
 have L:SlLaysF.n6 P ρ:={L0 with a24:=aE,z24:=zE};intro fr F σ vals w s hv;obtain⟨vs,r1,rfl,bl,vf,r2,rfl,bf,hr⟩:=hv;cases(show r2=[]from hr);obtain⟨lf,lc,rfl,h1,a7⟩:=bf;cases(show lf=[]from h1);have ak:LR F [] w cap lc:=LR.data hd a7;obtain⟨av,ag,J,ao,ax⟩:=Qdm hs;have B:∀(ad:Option Addr) (c:Nat),vs=.slice ad 0 c->l=[]->
   Calls P (ρ.f 6) [vs,.func (.func g) #[] lc.toArray].toArray w λe w'=>∃v r H' ae τ,e=.returned v/\(r=.tup []/\H'=[.row t 1 (l'.map λx=>[ea x])])/\Sim fr ae (σ++τ) H' w'/\VR ae (σ++τ) w' r v/\Qg fr F w ae w':=by
  rintro ad c rfl rfl;have ac:l'=[]:=by rw[<- ax];rfl
  subst ac;refine(AnyF.slices_SortFunc_none L0 ad c (.func (.func g) #[] lc.toArray) w).mono ?_;rintro e w' ⟨rfl,rfl⟩;exact⟨_,_,_,F,[],rfl,⟨rfl,rfl⟩,by simpa using s,⟨[],rfl,rfl⟩,Qg.refl _ _ _⟩
 rcases bl with⟨h0,rfl⟩|⟨b,p,cp,t',m,q1,rfl,q2,q3,q4,q5⟩
 .exact B none 0 rfl (VB.1 h0)
 .by_cases ac:l=[]
  .subst ac;exact B _ cp rfl rfl
  .have bg:0<l.length:=List.length_pos_iff.2 ac;obtain rfl:=q2 (Vb bg q3);obtain⟨lv,e1,e2⟩:=s.blk 0 _ _ q1 rfl;obtain⟨hb,af,a5⟩:=s.own 0 b _ q1 rfl rfl;obtain⟨R,G,a1,rfl,bk⟩:=RL.parts e2
   let α:=Elt1 F w ea l
   have a3:∀p∈R,p.1∈l:=λp hp=>by rw[<- a1];exact Vy hp
   have a8:∀p∈R,∃v,p.2=[v]/\VR F [] w (ea p.1) v/\Qn v:=by
    intro p hp;obtain⟨g1,g2,g3⟩:=bk p hp;obtain⟨v,e⟩:=QiG g1;rw[e]at g2 g3;obtain⟨v',l',e',g4,g5⟩:=g2;cases e';exact⟨v,e,g4,g3 v (by simp)⟩
   let val:List Value->Value:=λl=>l.headD .nilFunc
   have aa:∀p∈R,p.2=[val p.2]/\VR F [] w (ea p.1) (val p.2)/\Qn (val p.2):=by
    intro p hp;obtain⟨v,e,g⟩:=a8 p hp;rw[e];exact⟨rfl,g⟩
   let ds:List α:=R.attach.map λp=>⟨p.1.1,val p.1.2,a3 _ p.2,(aa _ p.2).2.1,(aa _ p.2).2.2⟩
   have a6:∀{γ:Type} (f:T×List Value->γ),R.attach.map (λp=>f p.1)=R.map f:=λf=>by simp
   have M:ds.map (·.x)=l:=by
    show(R.attach.map _).map _=_;rw[List.map_map];exact(a6 (·.1)).trans a1
   have a4:ds.map (·.v)=R.map λp=>val p.2:=by
    show(R.attach.map _).map _=_;rw[List.map_map];exact a6 λp=>val p.2
   have al:ds.length=l.length:=by rw[<- M];simp
   have a0:ds≠[]:=by intro q;rw[q]at al;simp at al;omega
   let inh:Inhabited α:=⟨ds.head a0⟩
   let enc':α->Value:=λa=>a.v
   let cf':α->α->Int:=λx y=>(cf x.x y.x).getD 0
   have ab:∀x y:α,ltOf cf' x y=ltO cf x.x y.x:=by
    intro x y;obtain⟨c,u⟩:=ag x.x x.mem y.x y.mem;simp only[ltOf,ltO,cf',u,Option.getD_some]
   have hO:SWO (ltOf cf'):=⟨λx=>by rw[ab];exact J.irrefl _ x.mem,λx y z a b=>by rw[ab]at*;exact J.trans _ x.mem _ y.mem _ z.mem a b,
    λx y z a b=>by rw[ab]at*;exact J.ntrans _ x.mem _ y.mem _ z.mem a b⟩
   have bn:(R.map (·.2)).flatten=ds.map enc':=by
    have e3:R.map (·.2)=(R.map λp=>val p.2).map λv=>[v]:=by
     rw[List.map_map];exact List.map_congr_left λp hp=>(aa p hp).1
    rw[e3, <- a4];have:=QdF (λv:Value=>v) (ds.map (·.v));rw[this];simp[enc']
   rw[bn]at e1;have hH:Holds enc' w b 0 ds.toArray:=by
    intro j hj;simp only[List.size_toArray]at hj;constructor
    .unfold World.cell?;simp only[e1,Option.isSome_none,Xg,if_false,Xu];rw[Qac,XK (by simpa using hj),Xn,QdD _ _ hj];rfl
    .unfold World.frozen?;simp only[e1];simp
   have au:∀(d:Array α),d.size=ds.toArray.size->(putRow enc' w b 0 d).heap=w.heap.setIfInBounds b (.cells ((d.toList.map enc'++G)).toArray t (0,0)):=by
    intro d k;have aj:(d.toList.map enc').length=(ds.map enc').length:=by simp at k⊢;rw[k]
    unfold putRow mapBlock;show w.heap.modify b _=_;rw[Qa0 e1];simp only[onCells];congr 2;unfold putCells;apply Array.ext_getElem?;intro i;simp only[Array.getElem?_mapIdx,Qac,XS,true_and,Xu,Xt];by_cases hi:i<d.size
    .have V:i<(d.toList.map enc').length:=by simpa using hi
     rw[XK V,XK (by rw[<- aj];exact V),XI (by rw[<- aj];exact V),XI V];simp only[Xh,Vo hi];congr 1;rw[getElem!_pos d i hi];simp
    .have V:¬i<(d.toList.map enc').length:=by simpa using hi
     rw[XL (by omega),XL (by omega),aj];cases(G[i-(ds.map enc').length]?)with
     |none=>rfl
     |some v=>exact congrArg some (Vn hi)
   have Q:∀(m:Nat) (os:Array Obj) (d:Array α),d.size=ds.toArray.size->
     (∀c,c<w.heap.size->c≠b->(sortWorld enc' w b 0 m d os).heap[c]?=w.heap[c]?)/\(sortWorld enc' w b 0 m d os).heap[b]?=some (.cells ((d.toList.map enc'++G)).toArray t (0,0))/\
     w.heap.size<=(sortWorld enc' w b 0 m d os).heap.size:=by
    intro m os d k;have e:(sortWorld enc' w b 0 m d os).heap=w.heap.setIfInBounds b (.cells ((d.toList.map enc'++G)).toArray t (0,0))++os:=by
     rw[<- au d k];rfl
    rw[e];refine⟨λc u bm=>?_,?_,by simp⟩
    .rw[Array.getElem?_append_left (by simpa using u),Va,Vn (λq=>bm q.symm)]
    .rw[Array.getElem?_append_left (by simpa using hb),Va,Vo rfl,Vo hb]
   have N:∀(m:Nat) (os:Array Obj) (d:Array α),d.size=ds.toArray.size->∀c y,w.shape? c=some y->(sortWorld enc' w b 0 m d os).shape? c=some y:=by
    intro m os d k c y hy;obtain⟨g1,g2,g3⟩:=Q m os d k;by_cases u:c=b
    .subst u;unfold World.shape? at hy⊢;rw[e1]at hy;rw[g2];simp only[Option.some.injEq]at hy⊢;rw[<- hy];congr 1;simp only[List.size_toArray,XY,XX];simp at k⊢;rw[k]
    .unfold World.shape? at hy⊢;rw[g1 c (Qbp hy) u];exact hy
   have ai:∀(m:Nat) (os:Array Obj) (d:Array α),d.size=ds.toArray.size->∀τ,Ext F τ w F τ (sortWorld enc' w b 0 m d os):=by
    intro m os d k τ;obtain⟨g1,g2,g3⟩:=Q m os d k;exact⟨λ_ q=>q,λc u=>g1 c (s.roLt c u) (λq=>af (q▸u)),N m os d k,λ_ _ q=>q⟩
   have bp:CmpLays1 P g lc.toArray enc' cf' b 0 ds.toArray.size w:=by
    intro m os dk aw x y;obtain⟨c,u⟩:=ag x.x x.mem y.x y.mem;have E:=ai m os dk aw [];have bh:=ba _ _ _ u;generalize hW:sortWorld enc' w b 0 m dk os=W at*;have bb:w.heap.size<=W.heap.size:=by rw[<- hW];exact(Q m os dk aw).2.2
    have sW:Sim (λc=>c<W.heap.size/\ ¬F c) F [] [] W:=
     ⟨rfl,s.roOk.to (λ_ q=>q) E.keep (λc u=>Vb (s.roLt c u) bb),λc u=>u.1,λc u hf=>hf.2 u,λi b x h=>by simp at h,λi j b x y h=>by simp at h,λi y x h=>by simp at h,λi b x c h=>by simp at h⟩
    have am:LR F [] W ([ea x.x,ea y.x]++cap) ([x.v,y.v]++lc):=
     LR.append (show LR F [] W [ea x.x,ea y.x] [x.v,y.v]from⟨_,_,rfl,x.rel.mono E,_,_,rfl,y.rel.mono E,rfl⟩) (ak.mono E)
    have O:=bh _ F [] _ W sW am;have bi:(([x.v,y.v]++lc).toArray:Array Value)= #[enc' x,enc' y]++lc.toArray:=by simp[enc']
    rw[bi]at O;refine O.mono ?_;rintro e w' ⟨v,r,H',ae,τ,rfl,⟨rfl,rfl⟩,s',bd,ev⟩;refine⟨?_,?_⟩
    .rw[show v=.int .i64 c from bd];simp only[cf',u,Option.getD_some]
    .refine Qhe (λc u=>?_) ev.size ev.os ev.tape ev.output ev.drawn;by_cases a2:F c
     .exact ev.keepRo c a2
     .exact ev.keepFr c ⟨u,a2⟩
   have X:ds.toArray.size=l.length:=by simpa using al
   have bq:b+0=b:=rfl;have ah:=Any.slices_SortFunc L enc' (λx=>Qem x.plain) cf' hO g lc.toArray b 0 cp ds.toArray w eg bp hH hb (by rw[X];unfold QK at av;omega);rw[X]at ah;rw[Nat.zero_mul];refine ah.mono ?_;rintro e w' ⟨rfl,d,n,os,Y,aq,rfl⟩;have k:d.size=ds.toArray.size:=Y.1;obtain⟨g1,g2,g3⟩:=Q n os d k;have an:d.toList.Perm ds:=by
    have h:=Y.2.2;have x1:d.extract 0 l.length=d:=by rw[<- X, <- k];exact Array.extract_size
    have x2:ds.toArray.extract 0 l.length=ds.toArray:=by rw[<- X];exact Array.extract_size
    rw[x1,x2]at h;simpa using h
   have az:d.toList.map (·.x)=l':=by
    rw[<- ax];refine Qa6 (lt:=ltO cf) ?_ ?_ ?_ (QaB J)
    .exact((an.map (·.x)).trans (by rw[M])).trans (YW _ _).symm
    .intro x hx y hy;have be:x∈l:=by rw[<- M];exact(an.map (·.x)).mem_iff.1 hx
     have bo:y∈l:=by rw[<- M];exact(an.map (·.x)).mem_iff.1 hy
     exact ao x be y bo
    .rw[Vw];intro i j hi hj bj;simp only[XX]at hi hj;simp only[List.getElem_map];rw[<- ab];have:=aq i j (XS _) bj (by rw[<- X, <- k];simpa using hj);rw[getElem!_pos d j (by simpa using hj),getElem!_pos d i (by simpa using hi)]at this;simpa using this
   have bc:RL F [] (sortWorld enc' w b 0 n d os) 1 (l'.map λx=>[ea x]) (d.toList.map enc'++G):=by
    have e3:d.toList.map enc'=((d.toList.map λa=>(a.x,[a.v])).map (·.2)).flatten:=by
     rw[List.map_map];exact(QdF (λa:α=>a.v) d.toList).symm
    have e4:l'=(d.toList.map λa=>(a.x,[a.v])).map (·.1):=by rw[<- az];simp
    rw[e3,e4];refine Qbw (enc:=λx=>[ea x]) (λ_=>rfl) ?_;intro p hp;obtain⟨a,_,rfl⟩:=Xe.1 hp;exact⟨⟨_,_,rfl,a.rel.mono (ai n os d k []),rfl⟩,λv hv=>by rw[Vt.1 hv];exact a.plain⟩
   have a9:Qg fr F w F (sortWorld enc' w b 0 n d os):=
    ⟨λ_ q=>q,λc u=>g1 c (s.roLt c u) (λq=>af (q▸u)),λc u=>g1 c (s.frLt c u) (λq=>a5 (q▸u)),g3,N n os d k,rfl,rfl,rfl,Nat.le_add_right _ _⟩
   have ar:σ.length=1:=s.len;have ay:Sim fr F σ [.row t 1 (l'.map λx=>[ea x])] (sortWorld enc' w b 0 n d os):=by
    have i0:∀{i:Nat} {x:Blk},([.row t 1 (l'.map λx=>[ea x])]:Qc)[i]?=some x->i=0/\x=.row t 1 (l'.map λx=>[ea x]):=by
     intro i x h;cases i with
     |zero=>simp at h;exact⟨rfl,h.symm⟩
     |succ i=>simp at h
    refine⟨ar,s.roOk.to (λ_ q=>q) a9.keepRo (λc u=>Vb (s.roLt c u) g3),λc u=>Vb (s.frLt c u) g3,s.roFr,λi c x h1 h2 h3=>?_,λi j c x y h1 h2 h3 h4 _ _=>?_,λi y x h1 h2=>?_,λi b x c h1 h2 h3=>by obtain⟨rfl,rfl⟩:=i0 h2;exact h3.elim⟩
    .obtain⟨rfl,rfl⟩:=i0 h2;obtain⟨p1,p2⟩:=s.own 0 c _ h1 rfl rfl;exact⟨Vb p1 g3,p2⟩
    .rw[(i0 h3).1,(i0 h4).1]
    .obtain⟨rfl,rfl⟩:=i0 h2;rw[q1]at h1;cases h1;exact⟨_,g2,bc⟩
   exact⟨_,_,_,F,[],rfl,⟨rfl,rfl⟩,by simpa using ay,⟨[],rfl,rfl⟩,a9⟩
end Go.Sw
namespace Go.Sw
structure Pl where
 b:Nat
 i0:Nat
 i1:Nat
 i2:Nat
 i3:Nat
def Pl.ix(p:Pl):List Nat:=[p.b,p.i0,p.i1,p.i2,p.i3]
section
variable {α β:Type} (K:FK α β)
def QQ(p:Pl)(x:Fil α β):List A:=[.int .i64 x.number,.osl p.i0 0 x.r0.length K.kF,.osl p.i1 0 x.r1.length K.kF,.osl p.i2 0 x.r2.length K.kF,.osl p.i3 0 x.reports.length K.kR,.bool x.appeal]
structure Qbf (H:Qc) (x:Fil α β) (p:Pl):Prop where
 c:H[p.b]?=some (.cells K.T (QQ K p x))
 r0:H[p.i0]?=some (.row K.tF K.kF (x.r0.map K.eF))
 r1:H[p.i1]?=some (.row K.tF K.kF (x.r1.map K.eF))
 r2:H[p.i2]?=some (.row K.tF K.kF (x.r2.map K.eF))
 r3:H[p.i3]?=some (.row K.tR K.kR (x.reports.map K.eR))
abbrev QaM(α β:Type):=List (Fil α β×Pl)
def Yw(bk:QaM α β):List (Int×Nat):=bk.map λe=>(e.1.number,e.2.b)
structure Yh (lo:Nat) (H:Qc) (bk:QaM α β):Prop where
 laid:∀e∈bk,Qbf K H e.1 e.2
 own:∀e∈bk,e.2.ix.Nodup
 ne:bk.Pairwise λe f=>∀i∈e.2.ix,i∉f.2.ix
 lo:∀e∈bk,∀i∈e.2.ix,lo<=i
 num:(bk.map (·.1.number)).Nodup
variable {K} {lo:Nat} {H H':Qc} {bk l r:QaM α β} {e:Fil α β×Pl} {x':Fil α β} {p':Pl}
theorem Yh.nil:Yh K lo H ([]:QaM α β):=⟨(λ_ h=>by cases h),(λ_ h=>by cases h),List.Pairwise.nil,(λ_ h=>by cases h),List.nodup_nil⟩
theorem Qbf.lt(h:Qbf K H e.1 e.2):∀i∈e.2.ix,i<H.length:=by
 intro i a;have g:∀{j:Nat} {y:Blk},H[j]?=some y->j<H.length:=λq=>(XJ.1 q).1;simp only[Pl.ix,X2,List.not_mem_nil,or_false]at a;rcases a with rfl|rfl|rfl|rfl|rfl
 .exact g h.c
 .exact g h.r0
 .exact g h.r1
 .exact g h.r2
 .exact g h.r3
theorem Qbf.keep(h:Qbf K H e.1 e.2)(k:∀i∈e.2.ix,H'[i]?=H[i]?):Qbf K H' e.1 e.2:=by
 refine⟨?_,?_,?_,?_,?_⟩
 .rw[k _ (by simp[Pl.ix])];exact h.c
 .rw[k _ (by simp[Pl.ix])];exact h.r0
 .rw[k _ (by simp[Pl.ix])];exact h.r1
 .rw[k _ (by simp[Pl.ix])];exact h.r2
 .rw[k _ (by simp[Pl.ix])];exact h.r3
theorem Yh.keep(h:Yh K lo H bk)(k:∀j,lo<=j->j<H.length->H'[j]?=H[j]?):Yh K lo H' bk:=
 ⟨λe he=>(h.laid e he).keep λi hi=>k i (h.lo e he i hi) ((h.laid e he).lt i hi),h.own,h.ne,h.lo,h.num⟩
theorem Yh.upd(h:Yh K lo H (l++e::r))(E:Qbf K H' x' p')(B:x'.number=e.1.number)(w:∀j,lo<=j->j<H.length->j∉e.2.ix->H'[j]?=H[j]?)
  (hi:∀i∈p'.ix,i∈e.2.ix\/H.length<=i)(x:p'.ix.Nodup)(hl:lo<=H.length):Yh K lo H' (l++(x',p')::r):=by
 obtain⟨u,z,s⟩:=List.pairwise_append.1 h.ne;obtain⟨t,y⟩:=Xc.1 z;have mem:∀f∈l++(x',p')::r,f=(x',p')\/(f∈l++e::r/\ ∀i∈f.2.ix,i∉e.2.ix):=by
  intro f b;rcases Vv.1 b with q|q
  .exact .inr ⟨List.mem_append_left _ q,λi hi a=>s f q e (by simp) i hi a⟩
  .rcases X2.1 q with q|q
   .exact .inl q
   .exact .inr ⟨by simp[q],λi hi a=>t f q i a hi⟩
 refine⟨?_,?_,?_,?_,?_⟩
 .intro f b;rcases mem f b with rfl|⟨k,n⟩
  .exact E
  .exact(h.laid f k).keep λi hi=>w i (h.lo f k i hi) ((h.laid f k).lt i hi) (n i hi)
 .intro f b;rcases mem f b with rfl|⟨k,n⟩
  .exact x
  .exact h.own f k
 .refine List.pairwise_append.2 ⟨u,Xc.2 ⟨?_,y⟩,?_⟩
  .intro f b i a d;rcases hi i a with q|q
   .exact t f b i q d
   .have:=(h.laid f (by simp[b])).lt i d;omega
  .intro f b g p i d m;rcases X2.1 p with rfl|p
   .rcases hi i m with q|q
    .exact s f b e (by simp) i d q
    .have:=(h.laid f (by simp[b])).lt i d;omega
   .exact s f b g (by simp[p]) i d m
 .intro f b;rcases mem f b with rfl|⟨k,n⟩
  .intro i a;rcases hi i a with q|q
   .exact h.lo e (by simp) i q
   .omega
  .exact h.lo f k
 .have:=h.num;rw[Xf,Vf]at this⊢;show(_++x'.number::_).Nodup;rw[B];exact this
theorem Yh.add(h:Yh K lo H bk)(u:Qbf K H' x' p')(t:∀e∈bk,e.1.number≠x'.number)(r:∀j,lo<=j->j<H.length->H'[j]?=H[j]?)
  (hi:∀i∈p'.ix,H.length<=i)(s:p'.ix.Nodup)(hl:lo<=H.length):Yh K lo H' (bk++[(x',p')]):=by
 have n:=h.keep r;have mem:∀f∈bk++[(x',p')],f∈bk\/f=(x',p'):=by
  intro f d;rcases Vv.1 d with q|q
  .exact .inl q
  .exact .inr (Vt.1 q)
 refine⟨?_,?_,?_,?_,?_⟩
 .intro f d;rcases mem f d with q|rfl
  .exact n.laid f q
  .exact u
 .intro f d;rcases mem f d with q|rfl
  .exact h.own f q
  .exact s
 .refine List.pairwise_append.2 ⟨h.ne,by simp,λf d g w i k l=>?_⟩;obtain rfl:=Vt.1 w;have:=(h.laid f d).lt i k;have:=hi i l;omega
 .intro f d i k;rcases mem f d with q|rfl
  .exact h.lo f q i k
  .have:=hi i k;omega
 .rw[Xf];refine List.nodup_append.2 ⟨h.num,by simp,?_⟩;intro a p b m;simp at m;subst m;obtain⟨f,d,rfl⟩:=Xe.1 p;exact t f d
theorem QcC:∀(d:QaM α β) (k:Int),(Qak (Yw d) k=none/\ ∀e∈d,e.1.number≠k)\/ ∃l e r,d=l++e::r/\e.1.number=k/\(∀y∈l,y.1.number≠k)/\Qak (Yw d) k=some e.2.b
 |[],k=>.inl ⟨rfl,λ_ h=>by cases h⟩
 |e::l,k=>by
  have e0:Qak (Yw (e::l)) k=if e.1.number=k then some e.2.b else Qak (Yw l) k:=by
   show Qak ((e.1.number,e.2.b)::Yw l) k=_;simp[Qak];by_cases q:e.1.number=k<;>simp[q]
  by_cases q:e.1.number=k
  .exact .inr ⟨[],e,l,rfl,q,(λ_ h=>by cases h),by rw[e0,Vo q]⟩
  .rcases QcC l k with⟨f,g⟩|⟨p,y,r,f,g,i,j⟩
   .refine .inl ⟨by rw[e0,Vn q];exact f,λz a=>?_⟩;rcases X2.1 a with rfl|a
    .exact q
    .exact g z a
   .refine .inr ⟨e::p,y,r,by rw[f];rfl,g,λz a=>?_,by rw[e0,Vn q,j]⟩;rcases X2.1 a with rfl|a
    .exact q
    .exact i z a
theorem QhK(p q:QaM α β):Yw (p++q)=Yw p++Yw q:=by simp[Yw]
theorem QhJ(d:x'.number=e.1.number)(a:p'.b=e.2.b):Yw (l++(x',p')::r)=Yw (l++e::r):=by simp[Yw,d,a]
end
section
variable {fr ro ro':Nat->Prop} {σ:Sig} {w:World} {α β:Type} (K:FK α β)
theorem Qjc(sub:∀c,ro c->ro' c){p:Pl}{x:Fil α β}{v:Value}{H:Qc}(hl:Qbf K H x p)(e:∀i∈p.ix,∀(c:Nat) (y:Blk),H[i]?=some y->σ[i]?=some (some c)->BR ro σ w y (some c)/\ro' c)(h:VR ro σ w (.ptr p.b 0) v):VR ro' [] w (.rp (frp K x)) v:=by
 obtain⟨c,F,j⟩:=h;obtain⟨⟨l,B,a,k⟩,u⟩:=e p.b (by simp[Pl.ix]) c _ hl.c F;refine⟨c,0,j,u,?_⟩;refine Qfq (pre:=[]) (by simpa using B) ?_ k;unfold QQ at a;obtain⟨v0,P,rfl,n,a⟩:=a;obtain⟨G,L,rfl,f,a⟩:=a;obtain⟨m,Q,rfl,s,a⟩:=a;obtain⟨r,O,rfl,q,a⟩:=a;obtain⟨z,N,rfl,J,a⟩:=a;obtain⟨E,M,rfl,g,a⟩:=a;refine⟨v0,_,rfl,n,G,_,rfl,QaQ sub (t:=K.tF) (λc d=>e p.i0 (by simp[Pl.ix]) c _ hl.r0 d) (by simpa using f),m,_,rfl,QaQ sub (t:=K.tF) (λc d=>e p.i1 (by simp[Pl.ix]) c _ hl.r1 d) (by simpa using s),r,_,rfl,QaQ sub (t:=K.tF) (λc d=>e p.i2 (by simp[Pl.ix]) c _ hl.r2 d) (by simpa using q),
  z,_,rfl,QaQ sub (t:=K.tR) (λc d=>e p.i3 (by simp[Pl.ix]) c _ hl.r3 d) (by simpa using J),E,_,rfl,g,a⟩
theorem QeO(sub:∀c,ro c->ro' c){H:Qc}{ek:Int->A}(hek:∀(k:Int) (v:Value),VR ro σ w (ek k) v->VR ro' [] w (ek k) v):∀{bk:QaM α β} {es:List MapEntry},(∀e∈bk,Qbf K H e.1 e.2)->(∀e∈bk,∀i∈e.2.ix,∀(c:Nat) (y:Blk),H[i]?=some y->σ[i]?=some (some c)->BR ro σ w y (some c)/\ro' c)->
  ER ro σ w (Qh ek Qc4 (Yw bk)) es->ER ro' [] w (Qh ek (rpE K) (Qd9 (bk.map (·.1)))) es
 |[],es,_,_,h=>h
 |x::l,es,hl,hb,h=>by
  obtain⟨e,l',rfl,h1,h2,h3⟩:=h;exact⟨e,l',rfl,hek _ _ h1,Qjc K sub (hl x (by simp)) (hb x (by simp)) h2,QeO sub hek (λe he=>hl e (by simp[he])) (λe he=>hb e (by simp[he])) h3⟩
def QbN(bk:QaM α β):List Nat:=bk.flatMap λe=>e.2.ix
theorem Yh.all{lo:Nat}{H:Qc}:∀{d:QaM α β},Yh K lo H d->(QbN d).Nodup/\ ∀i∈QbN d,lo<=i/\ ∃y,H[i]?=some y/\y.live=true:=by
 intro d h;refine⟨?_,?_⟩
 .have q:=h.own;have t:=h.ne;clear h
  induction d with
  |nil=>exact List.nodup_nil
  |cons e l u=>
   obtain⟨s,x⟩:=Xc.1 t;show(e.2.ix++QbN l).Nodup;refine List.nodup_append.2 ⟨q e (by simp),u (λf n=>q f (by simp[n])) x,?_⟩;intro a r b w k;obtain⟨f,n,m⟩:=List.mem_flatMap.1 w;exact s f n a r (k▸m)
 .intro i j;obtain⟨e,p,j⟩:=List.mem_flatMap.1 j;refine⟨h.lo e p i j,?_⟩;have g:=h.laid e p;simp only[Pl.ix,X2,List.not_mem_nil,or_false]at j;rcases j with rfl|rfl|rfl|rfl|rfl
  .exact⟨_,g.c,rfl⟩
  .exact⟨_,g.r0,rfl⟩
  .exact⟨_,g.r1,rfl⟩
  .exact⟨_,g.r2,rfl⟩
  .exact⟨_,g.r3,rfl⟩
end
section
variable {α β:Type} (K:FK α β) {env:Env} {H:Qc}
theorem Qjo{h0 lo m:Nat}{d:QaM α β}(F:Yh K lo H d)(p:Nat.blt m lo=true)(B:H[m]?=some (.mapP (Qh (λn=>.int .i64 n) Qc4 (Yw d)))):
  Le h0 env H env ((Qbu H (QbN d)).set m (.fmap (Qh (λn=>.int .i64 n) (rpE K) (Qd9 (d.map (·.1)))))):=by
 intro R ro σ N a w r;have s:=r.sim;obtain⟨nd,g⟩:=F.all;have Q:m<lo:=by simpa[Nat.blt_eq]using p
 have L:∃q,σ[m]?=some q:=by
  have:m<σ.length:=by rw[s.len];exact(XJ.1 B).1
  exact⟨_,XI this⟩
 obtain⟨q,E⟩:=L;cases q with
 |none=>exact(s.blk m _ _ E B).elim
 |some t=>
 obtain⟨b,P,f,z⟩:=QcE s (l:=QbN d) nd (λi u=>(g i u).2);have x:(Qbu H (QbN d))[m]?=some (.mapP (Qh (λn=>.int .i64 n) Qc4 (Yw d))):=by
  rw[Qes (λq=>by have:=(g m q).1;omega)];exact B
 have J:=P.shutMapP (es':=Qh (λn=>.int .i64 n) (rpE K) (Qd9 (d.map (·.1)))) E x (λl M=>?_)
 .have sub:∀c,ro c->b c\/c=t:=λc j=>.inl (f c j);have ext:Ext ro σ w (λc=>b c\/c=t) σ w:=⟨sub,λ_ _=>rfl,λ_ _ q=>q,λ_ _ q=>q⟩;exact⟨_,σ,⟨J,λq=>(r.env q).mono ext,r.size,r.defers⟩,sub,rfl⟩
 .have ext:Ext ro σ w b σ w:=⟨f,λ_ _=>rfl,λ_ _ q=>q,λ_ _ q=>q⟩;refine QeO K (ek:=λn=>.int .i64 n) (ro:=b) (ro':=λc=>b c\/c=t) (H:=H) (λc j=>.inl j) (λk v h=>h) F.laid (λe G i u c y O j=>?_) M;exact⟨(s.blk _ _ _ j O).keep ext (λ_ _ _=>rfl) (λ_ _ _ _=>rfl),.inl (z _ (List.mem_flatMap.2 ⟨e,G,u⟩) c j)⟩
end
end Go.Sw
namespace Go.Sw
section
variable {P:Program} {h0 N:Nat} {all:Array Oper} {o:Oper} {l:List Oper} {env:Env} {H:Qc} {Q:Qv}
theorem Qb0{d:Nat}{f:FuncId}{args:List A}{Qr:A->Qc->Prop}(h:OpC P o env H f args)(u:C P f args H Qr)
  (k:∀r H1,Qr r H1->WO P h0 N all l (up env d r) H1 Q)(G:h0<=H.length)(hg:Qm all o env true:=by exact rfl)(hd:o.dst=some d:=by exact rfl)(hN:Nat.blt d N=true:=by exact rfl):
  WO P h0 N all (o::l) env H Q:=by
 intro F fr m σ a w r hrd;obtain⟨b,x,B⟩:=h fr m σ N a w r;refine Qco (Yn hg r) x ?_;have hσl:=r.sim.len;refine Calls.mono (u fr m σ b w r.sim B) ?_;rintro e n ⟨v,j,H1,g,τ,rfl,p,t,y,ev⟩;have E:=k j H1 p;simp only[hd,Act.put];have i:d<N:=by simpa[Nat.blt_eq]using hN
 have z:Rel fr g (σ++τ) H1 (up env d j) N {a with tmps:=a.tmps.setIfInBounds d v} n:=
  ⟨t,VR.up (fr:=fr) (λs=>(r.env s).mono (ev.ext σ τ)) (by rw[r.size];exact i) y,by simpa using r.size,r.defers.keep ev⟩
 exact⟨_,rfl,Q4 (λe a w q=>q.step ev (Qp (by omega))) _ _ _ (E F fr g (σ++τ) _ n z (hrd.to ev λ_ q=>q))⟩
end
section
variable {h0 n:Nat} {env env':Env} {H H':Qc}
theorem Qjq(n:Nat)(hn:h0<=n)(hl:n<=H.length)(hH:(H'.map (QN (rho (List.range n) H.length))).map some=(List.range n).map (λp=>H[p]?))(hE:Qc2 (rho (List.range n) H.length) env env'):Le h0 env H env' H':=
 Qjp (List.range n) (by rw[List.take_range,XA hn]) hH.symm List.nodup_range hE
end
section
variable {P:Program} {o:Oper} {env:Env} {H:Qc} {α:Type}
end
end Go.Sw
namespace Go.Sw
section
variable {α β:Type}
def Qaz(k:Int):Fil α β:=⟨k,[],[],[],[],false⟩
def Qbm(fs:List (Fil α β))(k:Int):List (Fil α β):=bif fs.any (λx=>decide (x.number=k))then fs else fs++[Qaz k]
def Qcq(fs:List (Fil α β))(k:Int)(g:Fil α β->Fil α β):List (Fil α β):=fs.map λx=>bif decide (x.number=k)then g x else x
def Qg6(fs:List (Fil α β)):Bool:=fs.all λx=>Nat.ble (x.r0.length+1) QK&&Nat.ble (x.r1.length+1) QK&&Nat.ble (x.r2.length+1) QK&&Nat.ble (x.reports.length+1) QK
variable (K:FK α β) {lo:Nat} {H H':Qc} {bk:QaM α β}
theorem Qde{fs:List (Fil α β)}{k:Int}(h:∃x∈fs,x.number=k):Qbm fs k=fs:=by
 unfold Qbm;have:fs.any (λx=>decide (x.number=k))=true:=by
  obtain⟨x,a,e⟩:=h;exact Xr.2 ⟨x,a,by simp[e]⟩
 rw[this];rfl
theorem Qcc{fs:List (Fil α β)}{k:Int}(h:∀x∈fs,x.number≠k):Qbm fs k=fs++[Qaz k]:=by
 unfold Qbm;have:fs.any (λx=>decide (x.number=k))=false:=by
  rw[List.any_eq_false];intro x a;simp[h x a]
 rw[this];rfl
theorem QjE{l r:List (Fil α β)}{x:Fil α β}{k:Int}{g:Fil α β->Fil α β}(f:((l++x::r).map (·.number)).Nodup)(b:x.number=k):Qcq (l++x::r) k g=l++g x::r:=by
 rw[Xf,Vf,List.nodup_append]at f;obtain⟨p,d,n⟩:=f;rw[List.nodup_cons]at d;have e:∀m:List (Fil α β),(∀y∈m,y.number≠k)->Qcq m k g=m:=by
  intro m j;unfold Qcq
  conv=>rhs;rw[<- List.map_id m]
  exact List.map_congr_left λy a=>by simp[j y a]
 have h:=e l (λy a q=>n y.number (Vy a) x.number (by simp) (by rw[q,b]));have i:=e r (λy a q=>d.1 (by rw[b, <- q];exact Vy a));unfold Qcq at h i⊢;rw[Xf,Vf,h,i];simp[b]
theorem QfC{l r:List (Fil α β)}{x:Fil α β}(h:Qg6 (l++x::r)=true):x.r0.length+1<=QK/\x.r1.length+1<=QK/\x.r2.length+1<=QK/\x.reports.length+1<=QK:=by
 unfold Qg6 at h;have:=Xq.1 h x (by simp);simp only[XU]at this;obtain⟨⟨⟨e,a⟩,d⟩,b⟩:=this;exact⟨XP e,XP a,XP d,XP b⟩
def QaN(n:Nat):Pl:=⟨n,n+1,n+2,n+3,n+4⟩
def QbA(n:Nat)(k:Int):Qc:=[.cells K.T (QQ K (QaN n) (Qaz k)),.row K.tF K.kF [],.row K.tF K.kF [],.row K.tF K.kF [],.row K.tR K.kR []]
theorem QgW{h0:Nat}{env:Env}{k:Int}(d:h0<=H.length):
  Le h0 env (H++[.cells K.T [.int .i64 k,.nils,.nils,.nils,.nils,.bool false]]) env (H++QbA K H.length k):=by
 have a:∀(n:Nat) (G:Qc) (cs cs':List A) (t k':Nat) (m:Nat),n=H.length+1+G.length->cs[m]?=some .nils->cs'=cs.set m (.osl n 0 0 k')->
   Le h0 env (H++.cells K.T cs::G) env (H++.cells K.T cs'::(G++[.row t k' []])):=by
  intro n G cs cs' t k' m hn hm hc;have:=Yx (h0:=h0) (env:=env) (H:=H++.cells K.T cs::G) (i:=H.length) (m:=m) (t:=t) (k:=k') (T:=K.T) (cs:=cs)
   (by simp;omega) (by simp) hm
  have e:(H++.cells K.T cs::G).length=n:=by simp;omega
  rw[e]at this;have b:(H++.cells K.T cs::G).set H.length (.cells K.T (cs.set m (.osl n 0 0 k')))=H++.cells K.T cs'::G:=by
   rw[List.set_append_right _ _ (XR _),Nat.sub_self,hc];rfl
  rw[b,Ve]at this;exact this
 refine Le.trans (a (H.length+1) [] _ _ K.tF K.kF 1 (by simp) rfl rfl) ?_;refine Le.trans (a (H.length+2) [.row K.tF K.kF []] _ _ K.tF K.kF 2 (by simp) rfl rfl) ?_;refine Le.trans (a (H.length+3) [.row K.tF K.kF [],.row K.tF K.kF []] _ _ K.tF K.kF 3 (by simp) rfl rfl) ?_;exact a (H.length+4) [.row K.tF K.kF [],.row K.tF K.kF [],.row K.tF K.kF []] _ _ K.tR K.kR 4 (by simp) rfl rfl
theorem Qbf.new{k:Int}:Qbf K (H++QbA K H.length k) (Qaz k) (QaN H.length):=by
 have g:∀(j:Nat) (y:Blk),(QbA K H.length k)[j]?=some y->(H++QbA K H.length k)[H.length+j]?=some y:=by
  intro j y h;rw[XL (by omega),Nat.add_sub_cancel_left];exact h
 exact⟨g 0 _ rfl,g 1 _ rfl,g 2 _ rfl,g 3 _ rfl,g 4 _ rfl⟩
theorem Qg9(n:Nat):(∀i∈(QaN n).ix,n<=i)/\(QaN n).ix.Nodup:=by
 refine⟨?_,?_⟩
 .intro i a;simp only[Pl.ix,QaN,X2,List.not_mem_nil,or_false]at a;omega
 .simp[Pl.ix,QaN]
variable {K}
theorem Yh.new{k:Int}(h:Yh K lo H bk)(b:∀e∈bk,e.1.number≠k)(hl:lo<=H.length):Yh K lo (H++QbA K H.length k) (bk++[(Qaz k,QaN H.length)]):=by
 refine h.add (Qbf.new K) b (λj d a=>by rw[XK a]) (Qg9 _).1 (Qg9 _).2 hl
theorem Yh.row{l r:QaM α β}{e:Fil α β×Pl}{x':Fil α β}{p':Pl}{i:Nat}{y:Blk}(h:Yh K lo H (l++e::r))(hl:lo<=H.length)(B:x'.number=e.1.number)(hi:i∈e.2.ix)(E:i≠e.2.b)(g:p'.b=e.2.b)
  (hH:H'=(H.set i .dead++[y]).set e.2.b (.cells K.T (QQ K p' x')))
  (m:p'.ix=e.2.ix.map λj=>bif Nat.beq j i then H.length else j)
  (h0:H'[p'.i0]?=some (.row K.tF K.kF (x'.r0.map K.eF)))(L:H'[p'.i1]?=some (.row K.tF K.kF (x'.r1.map K.eF)))(z:H'[p'.i2]?=some (.row K.tF K.kF (x'.r2.map K.eF)))(w:H'[p'.i3]?=some (.row K.tR K.kR (x'.reports.map K.eR))):
  Yh K lo H' (l++(x',p')::r):=by
 have t:=h.laid e (by simp);have d:=t.lt;have x:e.2.b<H.length:=d _ (by simp[Pl.ix]);refine h.upd ⟨?_,h0,L,z,w⟩ B ?_ ?_ ?_ hl
 .rw[hH,g,Xa (by simp;omega)]
 .intro j k u p;rw[hH,XN (λq=>p (by rw[<- q];simp[Pl.ix])),XK (by simpa using u),XN (λq=>p (by rw[<- q];exact hi))]
 .intro j n;rw[m]at n;obtain⟨J,k,rfl⟩:=Xe.1 n;cases q:Nat.beq J i with
  |true=>exact .inr (XR _)
  |false=>exact .inl k
 .rw[m];have M:=h.own e (by simp);refine List.pairwise_map.2 (List.Pairwise.imp_of_mem ?_ M);intro a b G g f;have O:=d a G;have N:=d b g;cases F:Nat.beq a i with
  |true=>
   cases s:Nat.beq b i with
   |true=>exact absurd ((XO F).trans (XO s).symm) f
   |false=>simp only[Vk,Vl];omega
  |false=>
   cases s:Nat.beq b i with
   |true=>simp only[Vk,Vl];omega
   |false=>exact f
end
end Go.Sw
namespace Go.Sw
section
variable {fr ro:Nat->Prop} {σ:Sig} {H:Qc} {w:World}
end
section
variable {P:Program} {o:Oper} {env:Env} {H:Qc}
theorem Le.frow{h0 s i n k t:Nat}{es:List (List A)}(F:lk env s=.osl i 0 n k)(hH:H[i]?=some (.frow t k es))(J:es.length=n):Le h0 env H (up env s (.rsl k es)) H:=by
 intro O h σ N a w r;refine⟨h,σ,⟨r.sim,?_,r.size,r.defers⟩,λ_ q=>q,rfl⟩;intro d;simp only[lk];by_cases q:d=s
 .subst q;rw[Vx];have:=r.env d;rw[F]at this;show VR h σ w (.rsl k es) _;rcases this with⟨j,f⟩|⟨b,p,e,R,m,j,f,u,G,Q,P⟩
  .have:es=[]:=VB.1 (by omega);subst this;exact⟨none,0,by rw[f];rfl,XR _,.inl rfl⟩
  .obtain⟨B,l,y,L,M⟩:=r.sim.blk i _ _ j hH;refine⟨_,e,by rw[f,J],by omega,?_⟩;by_cases g:es=[]
   .exact .inl g
   .right;have E:0<e:=Vb (by have:=List.length_pos_iff.2 g;omega) G;have x:=u E;refine⟨b,0,by rw[x];simp,B,?_⟩;exact Yz (pre:=[]) (by simpa using y) L
 .have:Nat.beq d s=false:=by
   cases z:Nat.beq d s with
   |true=>exact absurd (XO z) q
   |false=>rfl
  rw[this];exact r.env d
end
end Go.Sw
namespace Go.Sw
open Go.MapKept
section
variable {P:Program} {kt et:Nat} {α β:Type} [DecidableEq α] {ek:α->A} {ev:β->A} {ro:Nat->Prop} {σ:Sig} {w:World} (K:YE P kt ek)
include K
variable {o:Oper} {env:Env} {H:Qc} {T T' i:Nat} {x y:Operand} {l m:List (α×β)} {k:α}
end
end Go.Sw
namespace Go.Sw
section
variable {P:Program} {h0 N:Nat} {all:Array Oper} {o1 o2:Oper} {l:List Oper} {env:Env} {H:Qc} {Q:Qv}
theorem QhL{t n d:Nat}{z:Value}{v:A}{cs zs:List A}{y:Operand}(hz:∀w,(zeroValue t).run P w=.ok z w)(hv:ZR v z)(hs:∀w,(Go.sizeOf t).run P w=.ok n w)
  (k:WO P h0 N all l (up env d (.rp cs)) H Q)(hk:Q0 v=true:=by exact rfl)(hzs:QX v=zs:=by exact rfl)(hpl:zs.all Yb=true:=by exact rfl)(hzn:zs.length=n:=by exact rfl)(hn:cs.length=n:=by exact rfl)
  (ho1:o1.op=.alloc t:=by exact rfl)(hd1:o1.dst=some d:=by exact rfl)(ho2:o2.op=.store t (.tmp d) y:=by exact rfl)(hd2:o2.dst=none:=by exact rfl)(hy:opA (up env d .any) y=.agg cs:=by exact rfl)(hda:Q6 cs=true:=by exact rfl)(hcp:cs.all Yb=true:=by exact rfl)(hkc:Q0 (.agg cs)=true:=by exact rfl)(hcc:QX (.agg cs)=cs:=by exact rfl)
  (hg1:Qm all o1 env true:=by exact rfl)(hg2:Qm all o2 (up env d .any) true:=by exact rfl)(hN:Nat.blt d N=true:=by exact rfl):WO P h0 N all (o1::o2::l) env H Q:=by
 intro rd fr B σ a w r hrd;obtain⟨W,h2,h3⟩:=(hv B σ w).cells hk;rw[hzs]at h3
 let w1:World:=w.alloc (.cells W.toArray t)
 have X:(execOp a.eval o1).run P w=.ok (.value (.pointer (some ⟨w.heap.size,0,none⟩))) w1:=by
  generalize a.eval=ρ at*;have e:(newVar t z).run P w=.ok ⟨w.heap.size,0,none⟩ (w.alloc (.cells W.toArray t)):=by
   unfold newVar;rw[h2];rfl
  simp only[execOp,ho1,Instr.alloc,Vi,hz,Result.andThen,e];rfl
 refine Qab (Yn hg1 r) X ?_;simp only[hd1,Act.put];have ab:d<N:=by simpa[Nat.blt_eq]using hN
 have L:d<a.tmps.size:=by rw[r.size];exact ab
 let a1:Act:={a with tmps:=a.tmps.setIfInBounds d (.pointer (some ⟨w.heap.size,0,none⟩))}
 have p:∀b,b<w.heap.size->w1.heap[b]?=w.heap[b]? :=λb R=>Yd _ _ b R;have G:w.heap.size<=w1.heap.size:=by show _<=(w.alloc _).heap.size;rw[Yc];omega
 have g:Qg fr B w B w1:=Qg.alloc _ r.sim.roLt r.sim.frLt;have r1:Rel fr B σ H (up env d .any) N a1 w1:=⟨r.sim.grown p G,VR.up (fr:=fr) (λs=>(r.env s).mono (g.ext0 σ)) L trivial,by simpa[a1]using r.size,r.defers.keep g⟩;have aa:=Qf r1 y;rw[hy]at aa;obtain⟨m,h4,h5⟩:=aa.cells hkc;rw[hcc]at h5;have j:w1.heap[w.heap.size]?=some (.cells W.toArray t (0,0)):=Q1 _ _;have O:W.length=n:=by rw[h3.length,hzn]
 have J:m.length=n:=by rw[h5.length,hn]
 have V:=QT (P:=P) (vs:=m) 0 0 j (by omega) (h5.plain hcp);have ac:splice W (0+0) m=m:=by
  unfold splice;simp[O,J]
 rw[ac]at V
 let w2:World:={w1 with heap:=w1.heap.setIfInBounds w.heap.size (.cells m.toArray t (0,0))}
 have he:a1.eval (.tmp d)=.pointer (some ⟨w.heap.size,0,none⟩):=by
  show(a.tmps.setIfInBounds d _).getD d undef=_;rw[QfJ L,Vo rfl]
 have Y:(execOp a1.eval o2).run P w1=.ok .skip w2:=by
  have af:(storeVar t ⟨w.heap.size,0,none⟩ (a1.eval y)).run P w1=.ok () w2:=by
   unfold storeVar;rw[Vi,hs];simp only[Result.andThen];rw[Vn (by simp[h4,J]),h4];simpa using V
  generalize a1.eval=ρ at*;simp only[execOp,ho2,he,Instr.storeAt,Instr.sureAddr,pure_bind,Vi,af];rfl
 refine Qfu (Yn hg2 r1) Y ?_;simp only[hd2,Act.put];have f:∀b,b<w.heap.size->w2.heap[b]?=w.heap[b]? :=λb R=>by
  show(w1.heap.setIfInBounds w.heap.size _)[b]?=_;rw[Array.getElem?_setIfInBounds_ne (by omega)];exact p b R
 have E:w2.heap.size=w1.heap.size:=by simp[w2]
 have F:w.heap.size<w1.heap.size:=(X8.1 j).1;have M:w.heap.size<=w2.heap.size:=by rw[E];exact G
 have u:w2.heap[w.heap.size]?=some (.cells m.toArray t (0,0)):=by
  show(w1.heap.setIfInBounds w.heap.size _)[w.heap.size]?=_;rw[Array.getElem?_setIfInBounds_self_of_lt F]
 have s1:=r.sim.grown f M;have s2:=s1.addRo (b:=w.heap.size) (by rw[E];exact F) (λq=>Nat.lt_irrefl _ (r.sim.frLt _ q)) (λi x T p2 p3=>Nat.lt_irrefl _ (r.sim.own i _ x T p2 p3).1)
  (λi d x T p2 p3=>Nat.lt_irrefl _ (r.sim.hid i d x _ T p2 (r.sim.hidKeep T p2 (λz=>f d (r.sim.own i d x T p2 z).1) (λb q=>f b (r.sim.roLt b q)) p3)).lt)
 have ev:Qg fr B w (λc=>B c\/c=w.heap.size) w2:=by
  refine⟨λb q=>.inl q,λb q=>f b (r.sim.roLt b q),λb q=>f b (r.sim.frLt b q),M,?_,g.os,g.tape,g.output,g.drawn⟩;intro b x h;have R:b<w.heap.size:=by
   unfold World.shape? at h;cases q:w.heap[b]? with
   |none=>rw[q]at h;simp at h
   |some _=>exact(X8.1 q).1
  unfold World.shape? at h⊢;rw[f b R];exact h
 have ae:VR (λc=>B c\/c=w.heap.size) σ w2 (.rp cs) (.pointer (some ⟨w.heap.size,0,none⟩)):=by
  refine⟨w.heap.size,0,rfl,.inr rfl,?_⟩;refine Qfq (pre:=[]) (by simpa using u) ?_ (h5.plain hcp);have h6:LR B [] w1 cs m:=LR.data hda h5;refine h6.mono ⟨λ_ q=>.inl q,λb q=>?_,λb x h=>?_,λ_ _ q=>q⟩
  .show(w1.heap.setIfInBounds w.heap.size _)[b]?=_;have:=r.sim.roLt b q;rw[Array.getElem?_setIfInBounds_ne (by omega)]
  .by_cases e:b=w.heap.size
   .subst e;unfold World.shape? at h⊢;rw[j]at h;rw[u];simp at h⊢;rw[O]at h;rw[J];exact h
   .unfold World.shape? at h⊢;rw[show w2.heap[b]?=w1.heap[b]? from Array.getElem?_setIfInBounds_ne (Ne.symm e)];exact h
 have r2:Rel fr (λc=>B c\/c=w.heap.size) σ H (up env d (.rp cs)) N a1 w2:=
  ⟨s2,VR.up (fr:=fr) (λs=>(r.env s).mono (ev.ext0 σ)) L ae,by simpa[a1]using r.size,r.defers.keep ev⟩
 exact Q4 (λe a w q=>q.step ev rfl) _ _ _ (k rd fr _ σ a1 w2 r2 (hrd.to ev λ_ q=>q))
end
end Go.Sw
namespace Go.Sw
section
variable {P:Program} {o:Oper} {env:Env} {H:Qc}
theorem Qcd{t e:TypeId}{p:Option Addr}{w:World}(a:∀w,(underlying t).run P w=.ok (.pointer e) w):(Op.equal t (.pointer p) (.pointer none)).run P w=.ok p.isNone w:=by
 have k:∀d,(Op.equalIn (d+1) t (.pointer p) (.pointer none)).run P w=.ok p.isNone w:=by
  intro d;cases p<;>simp[Op.equalIn,a,go_sem]
 exact k 9999
theorem Qf6{t e u:TypeId}{x:Operand}{i off:Nat}(h:∀w,(underlying t).run P w=.ok (.pointer e) w)(j:opA env x=.ptr i off)(k:o.op=.binOp .eql t x (.const (.pointer none)) u:=by exact rfl):OpV P o env H (.bool false):=by
 intro n m σ N a w r;have d:=Qf r x;rw[j]at d;obtain⟨b,l,f⟩:=d;have g:a.eval (.const (.pointer none))=.pointer none:=rfl;refine⟨_,?_,rfl⟩;generalize a.eval=ρ at*;simp[execOp,k,f,g,Go.binOp,eqGuard,Qcd h,go_sem]
theorem Qf7{t e u:TypeId}{x:Operand}(g:∀w,(underlying t).run P w=.ok (.pointer e) w)(h:opA env x=.nilp)(i:o.op=.binOp .eql t x (.const (.pointer none)) u:=by exact rfl):OpV P o env H (.bool true):=by
 intro k j σ N a w r;have b:=Qf r x;rw[h]at b;have f:a.eval (.const (.pointer none))=.pointer none:=rfl;have d:a.eval x=.pointer none:=b;refine⟨_,?_,rfl⟩;generalize a.eval=ρ at*;simp[execOp,i,d,f,Go.binOp,eqGuard,Qcd g,go_sem]
end
end Go.Sw
namespace Go.Sw
section
variable {P:Program} {o:Oper} {env:Env} {H:Qc} {α:Type}
def Qgx(l:List α)(lo hi i:Int):Option α:=bif decide (0<=lo)&&(decide (0<=i)&&decide (lo+i<hi))then idx l (lo+i)else none
theorem Qhd{l:List α}{lo hi i:Int}{v:α}(h:Qgx l lo hi i=some v):0<=lo/\0<=i/\lo+i<hi/\idx l (lo+i)=some v:=by
 unfold Qgx at h;cases q:decide (0<=lo)&&(decide (0<=i)&&decide (lo+i<hi))with
 |false=>rw[q]at h;cases h
 |true=>
  rw[q]at h;rw[XU,XU,Vm,Vm,Vm]at q;exact⟨q.1,q.2.1,q.2.2,h⟩
theorem Qe1{l:List α}{lo hi i:Int}{v:α}(h:Qgx l lo hi i=some v):idx l (lo+i)=some v:=(Qhd h).2.2.2
theorem QdW{t et k b:Nat}{x y:Operand}{l:List α}{j:IntKind}{lo hi i:Int}{v:α}(h:Qgx l lo hi i=some v)(g:∀w,(underlying t).run P w=.ok (.slice et) w)(d:∀w,(sizeOf et).run P w=.ok k w)
  (m:o.op=.indexAddr t x y:=by exact rfl)(hx:opA env x=.osl b (0+lo.toNat) (hi.toNat-lo.toNat) k:=by exact rfl)(hy:opA env y=.int j i:=by exact rfl):OpV P o env H (.ptr b ((lo+i).toNat*k)):=by
 obtain⟨n,f,p,_⟩:=Qhd h;have a:=Qfi (H:=H) m g d hx hy f (by omega);have e:(0+lo.toNat)*k+i.toNat*k=(lo+i).toNat*k:=by
  rw[<- Xz];congr 1;omega
 rwa [e]at a
end
end Go.Sw
namespace Go.Sw
section
variable {P:Program} {o:Oper} {env:Env} {H:Qc}
theorem Qb3{β:Type}{t et n:Nat}{x y:Operand}{L:List β}{f:β->A}{rest cs:List A}{i:Int}{l:β}{M:IntKind}(h:idx L i=some l)(B:cs=L.map f++rest)(hn:L.length=n)(Q:∀w,(underlying t).run P w=.ok (.array n et) w)(T:∀w,(sizeOf et).run P w=.ok 1 w)(u:Nat.ble 2 n=true)
  (X:o.op=.indexAddr t x y:=by exact rfl)(hx:opA env x=.rp cs:=by exact rfl)(hy:opA env y=.int M i:=by exact rfl):OpV P o env H (.rp [f l]):=by
 intro fr Y σ N a w r;have m:=Qf r x;rw[hx]at m;obtain⟨k,b,m,E,s⟩:=m;have G:=Qf r y;rw[hy]at G;have z:a.eval y=.int M i:=G;obtain⟨i0,d⟩:=Qap h;have F:i.toNat<L.length:=(XJ.1 d).1;have W:2<=n:=XP u;have R:i=(i.toNat:Int):=by omega
 generalize i.toNat=j at*;subst R;have p:j<n:=by omega
 refine⟨.pointer (some ⟨k,b+j*1,none⟩),?_,k,b+j*1,rfl,E,?_⟩
 .have V:0<=(j:Int)/\(j:Int)<(n:Int):=by omega
  have g:(⟨k,b,none⟩:Addr).add ((j:Int).toNat*1)=⟨k,b+j*1,none⟩:=by
   unfold Addr.add;split
   .rename_i q;simp at q;simp[q]
   .simp
  generalize a.eval=ρ at*;simp[execOp,X,m,z,Instr.indexAt,asIntOf,Q,T,Instr.sureAddr,V,g,go_sem,Result.andThen,p]
 .have J:=CR.take 1 (CR.drop j s);have e:(cs.drop j).take 1=[f l]:=by
   rw[B,X4 (by rw[XX];omega), <- List.map_drop];have:L.drop j=l::L.drop (j+1):=by
    have O:=Xo F;rw[O,(XJ.1 d).2]
   rw[this];rfl
  rw[e]at J;rw[Nat.mul_one];exact J
end
end Go.Sw
namespace Go.Sw
section
variable {env:Env} {H:Qc}
theorem Qh9{h0 i j m o' n k T:Nat}{x:Blk}{cs:List A}(hi:H[i]?=some x)(z:H[j]?=some (.cells T cs))(s:cs[m]?=some (.osl i o' n k))(g:Nat.beq i j=false)(W:Nat.ble h0 H.length=true):
  Le h0 env H env ((H.set i .dead).set j (.cells T (cs.set m (.osl H.length o' n k)))++[x]):=by
 intro Y B σ N a w r;have hiσ:i<σ.length:=by rw[r.sim.len];exact(XJ.1 hi).1
 have hσ:σ[i]?=some σ[i]:=XI hiσ;have ext:Ext B σ w B (σ++[σ[i]]) w:=⟨λ_ q=>q,λ_ _=>rfl,λ_ _ q=>q,λ_ _ h=>Yq h⟩;have O:=r.sim.moved hi hσ;have e:j<H.length:=(XJ.1 z).1;have E:i≠j:=λq=>by rw[q,Vx]at g;cases g
 have f:(H.set i .dead++[x])[j]?=some (.cells T cs):=by
  rw[XK (by simpa using e),XN E];exact z
 have Q:(H.set i .dead).set j (.cells T (cs.set m (.osl H.length o' n k)))++[x]=(H.set i .dead++[x]).set j (.cells T (cs.set m (.osl H.length o' n k))):=by
  rw[List.set_append_left _ _ (by simpa using e)]
 rw[Q];refine⟨B,σ++[σ[i]],⟨O.weaken f rfl ?_,λq=>(r.env q).mono ext,r.size,r.defers⟩,λ_ q=>q,Qp (by rw[r.sim.len];exact XP W)⟩;have d:σ.length=H.length:=r.sim.len;intro y h;cases y with
 |none=>exact h
 |some b=>
  obtain⟨l,L,X,M⟩:=h;refine⟨l,L,?_,M⟩;clear L M f Q z O
  induction cs generalizing m l with
  |nil=>cases s
  |cons c cs R=>
   obtain⟨v,u,rfl,J,G⟩:=X;cases m with
   |zero=>
    simp at s;subst s;refine⟨v,u,rfl,?_,G⟩;rcases J with h|⟨b,p,F,t,m,P,V⟩
    .exact .inl h
    .refine .inr ⟨b,p,F,t,m,?_,V⟩;rw[XK hiσ,hσ]at P;rw[<- d];simpa using P
   |succ m=>exact⟨v,u,rfl,J,R (by simpa using s) u G⟩
def Qko{β γ:Type}(o:Option β)(n:Option γ)(s:β->Option γ):Option γ:=match o with
 |none=>n
 |some v=>s v
theorem QiH{β γ:Type}{o:Option β}{n:Option γ}{s:β->Option γ}{r:γ}(h:Qko o n s=some r):(o=none/\n=some r)\/ ∃v,o=some v/\s v=some r:=by
 cases o with
 |none=>exact .inl ⟨rfl,h⟩
 |some v=>exact .inr ⟨v,rfl,h⟩
theorem Qfk{P:Program}{o:Oper}{H':Qc}{T:Nat}{x y zz:Operand}(k:o.op=.insert T x y zz)(h:OpU P {o with op:=.mapUpdate T x y zz} env H H'):OpU P o env H H':=by
 intro j g σ N a w r;obtain⟨i,b,τ,e,f,d⟩:=h j g σ N a w r;exact⟨i,b,τ,by simpa only[execOp,k]using e,f,d⟩
end
section
variable {P:Program} {o:Oper} {env:Env} {H:Qc} {T kt et:Nat} {α β:Type} [DecidableEq α] {ek:α->A} {ev:β->A} {x y:Operand} {i:Nat} {l:List (α×β)} {k:α} {z:Value} {zA:A}
theorem QhW{v:β}(K:YE P kt ek)(g:Qak l k=some v)(M:P.underlying T=some (.map kt et))
  (Q:o.op=.lookup T x y true:=by exact rfl)(hx:opA env x=.map i:=by exact rfl)(hH:H[i]?=some (.map (Qh ek ev l)):=by exact rfl)(hy:opA env y=ek k:=by exact rfl):OpV P o env H (.tup [ev v,.bool true]):=by
 intro V R σ N a w r;have p:=Qf r x;rw[hx]at p;obtain⟨b,t,F⟩:=p;have h:=Qf r y;rw[hy]at h;have G:=VR.val (K.scl _) h;obtain⟨J,d,B,s,X,p4,O⟩:=r.sim.blk i _ _ t hH;obtain⟨L,u⟩:=ER.find K s k O;rcases K.find w k J.toList (QaL K s)with⟨m,f⟩|⟨j,e,m,f,z⟩
 .rw[(L f).1]at g;cases g
 .obtain⟨W,Y,n,E⟩:=u j e f z;rw[g]at n;cases n;refine⟨.tuple #[e.val,.bool true],?_,[e.val,.bool true],rfl,e.val,_,rfl,E.mono ⟨λ_ q=>q,λ_ _=>rfl,λ_ _ q=>q,λj c q=>by simp at q⟩,_,_,rfl,rfl,rfl⟩;have:(Instr.lookup T (.map (some b)) (QB (ek k)) true).run P w=.ok (.tuple #[e.val,.bool true]) w:=by
   simp only[Instr.lookup,Vi,run_underlying M,Result.andThen,MapKept.run_getObj_map B,Vj,K.check,m,if_true]
  simp only[execOp,Q,F,G,Vi,this,Result.andThen];rfl
theorem QhX(K:YE P kt ek)(E:Qak l k=none)(L:P.underlying T=some (.map kt et))(O:∀w,(zeroValue et).run P w=.ok z w)(f:ZR zA z)
  (Q:o.op=.lookup T x y true:=by exact rfl)(hx:opA env x=.map i:=by exact rfl)(hH:H[i]?=some (.map (Qh ek ev l)):=by exact rfl)(hy:opA env y=ek k:=by exact rfl):OpV P o env H (.tup [zA,.bool false]):=by
 intro V R σ N a w r;have p:=Qf r x;rw[hx]at p;obtain⟨b,s,F⟩:=p;have g:=Qf r y;rw[hy]at g;have G:=VR.val (K.scl _) g;obtain⟨J,d,B,q,Y,p4,M⟩:=r.sim.blk i _ _ s hH;obtain⟨f1,t⟩:=ER.find K q k M;rcases K.find w k J.toList (QaL K q)with⟨m,h⟩|⟨j,e,m,h,u⟩
 .refine⟨.tuple #[z,.bool false],?_,[z,.bool false],rfl,z,_,rfl,f _ _ _,_,_,rfl,rfl,rfl⟩;have:(Instr.lookup T (.map (some b)) (QB (ek k)) true).run P w=.ok (.tuple #[z,.bool false]) w:=by
   simp only[Instr.lookup,Vi,run_underlying L,Result.andThen,MapKept.run_getObj_map B,Vj,K.check,m,O,if_true]
  simp only[execOp,Q,F,G,Vi,this,Result.andThen];rfl
 .obtain⟨W,v',n,X⟩:=t j e h u;rw[E]at n;cases n
end
abbrev Ea:=@Ev.bind
abbrev Ec:=@FzH.keep
abbrev Ed:=@FzL.cons
abbrev Ee:=@FzA.refl
abbrev Ef:=@TC.le
abbrev Eg:=@PL.cons
abbrev Eh:=@DS.done
abbrev Ei:=@FzL.refl
abbrev Ej:=@OpH.lit
abbrev Ek:=@Le.trans
abbrev El:=@ZR.int
abbrev Em:=@FzA.o
abbrev En:=@Le.phantom
abbrev Eo:=@WO.le
abbrev Ep:=@OpU.store
abbrev Er:=@OpV.load
theorem Zf.{u,v}{α:Sort u}{β:Sort v}{f:α->β}:∀x,f x=f x:=λ_=>rfl
abbrev Ze.{u,v}{α:Sort u}{β:Type v}:α->List β:=λ_=>[]
end Go.Sw
