/- The rules by which the code is walked, with what they rest on (part 3). -/
import Derived.Test.YthihlfoplokmiaaGreatDoorL2
import Derived.Laws.BytesString
set_option linter.unusedVariables false
set_option linter.unusedSectionVars false
set_option linter.unusedSimpArgs false
namespace Go.Sw
def Qcy:Option Blk->Bool
 |some .dead=>true
 |_=>false
def Qaz(hB hE:Nat)(H H':Qc):Bool:=(List.range (hE-hB)).all λp=> !Qcy H'[hB+p]? ||Qcy H[hB+p]?
def QkC(hB hE:Nat)(σ:Sig)(H:Qc):Prop:=∀p,hB<=p->p<hE->Qcy H[p]?=true->σ[p]?=some none
theorem Qlb{hB hE:Nat}{H H':Qc}(h:Qaz hB hE H H'=true){p:Nat}(d:hB<=p)(b:p<hE)(a:Qcy H'[p]?=true):Qcy H[p]?=true:=by
 have:=Xt.1 h (p-hB) (List.mem_range.2 (by omega));rw[show hB+(p-hB)=p by omega,a]at this;simpa using this
theorem Sim.allocAt{fr ro:Nat->Prop}{σ:Sig}{H:Qc}{w:World}(s:Sim fr ro σ H w){p:Nat}(J:σ[p]?=some none){obj:Obj}{x:Blk}
  (N:BR ro (σ.set p (some w.heap.size)) (w.alloc obj) x (some w.heap.size))
  (F:∀c,Hid (w.alloc obj) x w.heap.size c->False:=by exact λ_ h=>h.elim):Sim fr ro (σ.set p (some w.heap.size)) (H.set p x) (w.alloc obj):=by
 have ev:Qf fr ro w ro (w.alloc obj):=Qf.alloc obj s.roLt s.frLt;have u:=s.len;have E:p<σ.length:=(XM.1 J).1;have t:Ext ro σ w ro (σ.set p (some w.heap.size)) (w.alloc obj):=⟨ev.sub,ev.keepRo,ev.shape,λi b q=>by
  rw[XQ (λz=>by subst z;rw[J]at q;cases q)];exact q⟩
 have e:∀(i:Nat) (y:Option Nat),(σ.set p (some w.heap.size))[i]?=some y->(i≠p/\σ[i]?=some y)\/(i=p/\y=some w.heap.size):=by
  intro i y h;by_cases q:i=p
  .subst q;rw[Xa E]at h;exact .inr ⟨rfl,(XZ h).symm⟩
  .rw[XQ (λz=>q z.symm)]at h;exact .inl ⟨q,h⟩
 have n:∀i:Nat,i≠p->(H.set p x)[i]?=H[i]? :=λi O=>XQ (λz=>O z.symm);have L:(H.set p x)[p]?=some x:=Xa (by omega);refine⟨by simp[u],s.roOk.to (λ_ q=>q) ev.keepRo (λb h=>?_),λb h=>?_,s.roFr,?_,?_,?_,s.hidTo (· = ·) QU (by rw[Q3];omega) (λ_ _ _ _ _ _ _ q=>q) (λ_ _ _ _ _ _ _ q=>q) λj d y l k Q=>?_⟩
 rotate_left 5
 .rcases e j _ l with⟨q,l⟩|⟨rfl,m⟩
  .rw[n j q]at k;exact .inl ⟨j,y,rfl,l,k,id,λc q=>s.hidKeep l k (λz=>Q7 w obj d (s.own j d y l k z).1) ev.keepRo q⟩
  .rw[L]at k;cases k;cases m;exact .inr ⟨XU _,F⟩
 .rw[Q3];have:=s.roLt b h;omega
 .rw[Q3];have:=s.frLt b h;omega
 .intro i b y f g r;rw[Q3];rcases e i _ f with⟨q,f⟩|⟨rfl,m⟩
  .rw[n i q]at g;obtain⟨a,b,c⟩:=s.own i b y f g r;exact⟨by omega,b,c⟩
  .cases m;exact⟨by omega,λq=>by have:=s.roLt _ q;omega,λq=>by have:=s.frLt _ q;omega⟩
 .intro i j b y z f g r B M G;rcases e i _ f with⟨q,l⟩|⟨P,m⟩<;>rcases e j _ g with⟨q',k⟩|⟨ej,e2⟩
  .rw[n i q]at r;rw[n j q']at B;exact s.inj i j b y z l k r B M G
  .cases e2;rw[n i q]at r;have:=(s.own i _ y l r M).1;omega
  .cases m;rw[n j q']at B;have:=(s.own j _ z k B G).1;omega
  .rw[P,ej]
 .intro i y z f g;rcases e i _ f with⟨q,f⟩|⟨rfl,m⟩
  .rw[n i q]at g;refine(s.blk i y z f g).keep t ?_ ?_
   .rintro b rfl u;exact Q7 w obj b (s.own i b z f g u).1
   .rintro b c rfl u;exact Q7 w obj c (s.hid i b z c f g u).lt
  .rw[L]at g;cases g;subst m;exact N
def OpZ(P:Program)(o:Oper)(t:Nat)(cs:List A):Prop:=
 ∀(ro:Nat->Prop) (σ:Sig) (w:World) (a:Act),∃l:List Value,(execOp a.eval o).run P w=.ok (.value (.pointer (some ⟨w.heap.size,0,none⟩))) (w.alloc (.cells l.toArray t))/\LR ro σ w cs l/\ ∀v∈l,Ql v
theorem OpZ.alloc{P:Program}{o:Oper}{t:Nat}{z:Value}{v:A}{cs:List A}(h:∀w,(zeroValue t).run P w=.ok z w)(f:ZR v z)(i:o.op=.alloc t:=by exact rfl)(hk:Q5 v=true:=by exact rfl)(hcs:Yh v=cs:=by exact rfl)(hpl:cs.all Ym=true:=by exact rfl):
  OpZ P o t cs:=by
 intro g σ w a;obtain⟨l,d,b⟩:=(f g σ w).cells hk;subst hcs;refine⟨l,?_,b,b.plain hpl⟩;generalize a.eval=ρ at*;have e:(newVar t z).run P w=.ok ⟨w.heap.size,0,none⟩ (w.alloc (.cells l.toArray t)):=by
  unfold newVar;rw[d];rfl
 simp only[execOp,i,Instr.alloc,Vm,h,Result.andThen,e];rfl
theorem QcO{P:Program}{l:List Oper}{i:Nat}{o:Oper}{rd:Option Nat}{R:Exit->Act->World->Prop}{Q:Exit->Act->World->Prop}{K:Act->World->Prop}{a:Act}{w:World}
  (B:l[i]?=some o)(g:wpL P rd l.toArray R [o] a w)(h:∀e a' w',R e a' w'->e=.normal/\a'.defers=a.defers)(k:∀v w',R .normal (a.put o.dst v) w'->K (a.put o.dst v) w'):
  wpOpIn (WF rd) 0 P l.toArray Q i K a w:=by
 unfold wpOpIn;have t:l.toArray[i]?=some o:=by simpa using B
 rw[t];simp only;unfold wpL wpListIn at g;split at g
 .rename_i s;rw[Vt s];obtain⟨j,g⟩:=g;refine⟨j,?_⟩;have d:=QlK (by
   intro a' w' q;unfold wpListIn at q;exact(h _ _ _ q).2) g
  generalize(o.semAt (WF rd).round a.eval).run P w=res at*;cases res with
  |ok n w'=>
   cases n with
   |value v=>exact k _ _ d.1
   |skip=>exact k _ _ d.1
   |defer F=>
    exfalso;have:=(h _ _ _ d.1).2;have:=congrArg List.length this
    revert this
    cases o.dst<;>simp[Act.put]
   |enter f m=>
    refine⟨d.1,CallsIn.mono d.2 (λe p b=>?_)⟩;cases e with
    |returned v=>exact k _ _ b.1
    |panicked c=>have:=(h _ _ _ b).1;cases this
    |outgrown=>obtain⟨z,E,b⟩:=b;have:=(h _ _ _ b).1;cases this
   |row r m=>
    exact⟨d.1,RowsIn.mono d.2 (λ_ _ b=>k _ _ b.1)⟩
   |round l f u assign y=>
    refine⟨d.1,RoundIn.mono d.2 (λe p b=>?_)⟩;cases e with
    |returned v=>exact k _ _ b.1
    |panicked c=>have:=(h _ _ _ b).1;cases this
    |outgrown=>obtain⟨z,E,b⟩:=b;have:=(h _ _ _ b).1;cases this
   |_=>exact d.elim
  |halt x w'=>
   cases x with
   |panic v=>have:=(h _ _ _ d).1;cases this
   |_=>exact d.elim
 .rename_i s;rw[Vs s];obtain⟨j,g⟩:=g;refine⟨j,?_⟩;unfold wpListIn at g;exact k _ _ g
theorem Qk9{P:Program}{l:List Oper}{m:Nat}(n:∀i o,l[i]?=some o->∀j∈Qg o,j<i)(k:∀i o,m<i->l[i]?=some o->i-1∈Qg o){Q:Exit->Act->World->Prop}{rd:Option Nat}:
  ∀(b t:Nat) (L:Array Bool) (a:Act) (w:World),L.size=l.length->(∀i,i<l.length->(onL L i↔i<t))->unl L<=b->m<=t->t<=l.length->
   wpL P rd l.toArray Q (l.drop t) a w->wpAnyIn (WF rd) 0 P .any l.toArray Q b L a w:=by
 intro b
 induction b with
 |zero=>
  intro t L a w hsz hL hf hm ht h;have:t=l.length:=by
   rcases VC t l.length with q|q
   .have:=QjY (L:=L) (i:=t) (by omega) (λz=>by have:=(hL t q).1 z;omega);omega
   .omega
  subst this;refine⟨List.eq_nil_iff_forall_not_mem.2 λi r=>?_,?_⟩
  .obtain⟨o,f,g,_⟩:=(QaO hsz).1 r;have d:=(XM.1 f).1;exact g ((hL i d).2 d)
  .rw[List.drop_length]at h;exact h
 |succ b G=>
  intro t L a w hsz hL hf hm ht h;have s:∀i o,l[i]?=some o->¬onL L i->(∀j∈Qg o,onL L j)->i=t:=by
   intro i o f g x;have d:=(XM.1 f).1;have H:t<=i:=by
    rcases VC i t with q|q
    .exact absurd ((hL i d).2 q) g
    .exact q
   rcases VC t i with q|q
   .have:=(hL (i-1) (by omega)).1 (x _ (k i o (by omega) f));omega
   .omega
  rcases VC t l.length with e|e
  .have E:l[t]?=some l[t]:=XL e;have p:¬onL L t:=λq=>by have:=(hL t e).1 q;omega
   have B:t∈Region.ready .any l.toArray L:=by
    refine(QaO hsz).2 ⟨_,E,p,λj y=>?_⟩;have:=n t _ E j y;exact(hL j (by omega)).2 this
   refine⟨λq=>(by rw[q]at B;cases B),λi r=>?_⟩;obtain⟨o,f,g,x⟩:=(QaO hsz).1 r;obtain rfl:=s i o f g x;rw[Xr e]at h;obtain rfl:l[i]=o:=by rw[XL e]at f;exact XZ f
   unfold wpOpIn;rw[show l.toArray[i]?=some l[i]by rw[XH];exact f];simp only;unfold wpL wpListIn at h;have F:∀a w,wpL P rd l.toArray Q (l.drop (i+1)) a w->wpAnyIn (WF rd) 0 P .any l.toArray Q b (L.setIfInBounds i true) a w:=by
    intro a w q;have J:=QgJ (L:=L) (i:=i) (by omega) p;refine G (i+1) _ a w (by simpa using hsz) (λj y=>?_) (by omega) (by omega) (by omega) q;rw[Jq (by omega),hL j y];omega
   split at h
   .rename_i u;rw[Vt u];exact Oper.wpIn_mono F h
   .rename_i u;rw[Vs u];exact⟨h.1,F _ _ h.2⟩
  .have:t=l.length:=by omega
   subst this;rw[List.drop_length]at h;refine⟨λ_=>h,λi r=>?_⟩;obtain⟨o,f,g,_⟩:=(QaO hsz).1 r;have d:=(XM.1 f).1;exact absurd ((hL i d).2 d) g
def Qns(af ds:List Nat)(xs:List A)(env0 e:Env):Prop:=
 ∀s,(∃j x,af.contains j=true/\ds[j]?=some s/\xs[j]?=some x/\lk e s=x)\/lk e s=.any\/(ds.contains s=false/\lk e s=lk env0 s)
inductive Ju (P:Program) (N:Nat) (l:List Oper) (ds:List Nat) (xs:List A) (env0:Env) (hB hE:Nat) (i:Nat) (H H':Qc):Prop
 |mk (o:Oper) (e:Env) (d:Nat) (x:A) (ho:l[i]?=some o) (hd:o.dst=some d) (hx:xs[i]?=some x) (hdd:Qaz hB hE H H'=true) (hs:Sb (Qg o) (QjA l i) ds xs env0 e)
   (h:WO P H.length N l.toArray [o] e H (YY (up e d x) H')):Ju P N l ds xs env0 hB hE i H H'
 |unit (o:Oper) (e:Env) (ho:l[i]?=some o) (hd:o.dst=none) (hx:xs[i]?=some .any) (hdd:Qaz hB hE H H'=true) (hs:Sb (Qg o) (QjA l i) ds xs env0 e)
   (h:WO P H.length N l.toArray [o] e H (YY e H')):Ju P N l ds xs env0 hB hE i H H'
 |alloc (o:Oper) (d t p:Nat) (cs:List A) (ho:l[i]?=some o) (hd:o.dst=some d) (hg:o.guard=none) (hx:xs[i]?=some (.ptr p 0)) (hp:(Nat.ble hB p&&Nat.blt p hE)=true) (hdead:Qcy H[p]?=true)
   (hH:H.set p (.cells t cs)=H') (h:OpZ P o t cs) (hN:Nat.blt d N=true):Ju P N l ds xs env0 hB hE i H H'
 |val (o:Oper) (e:Env) (d:Nat) (x:A) (ho:l[i]?=some o) (hd:o.dst=some d) (hg:o.guard=none) (hx:xs[i]?=some x) (hN:Nat.blt d N=true) (he:Qns (Qg o) ds xs env0 e) (h:OpV P o e H x)
   (hH:H=H':=by rfl):Ju P N l ds xs env0 hB hE i H H'
 |woE (o:Oper) (e:Env) (d:Nat) (x:A) (ho:l[i]?=some o) (hd:o.dst=some d) (hx:xs[i]?=some x) (he:Qns (Qg o) ds xs env0 e) (hdd:Qaz hB hE H H'=true) (h:WO P H.length N l.toArray [o] e H (YY (up e d x) H')):Ju P N l ds xs env0 hB hE i H H'
theorem Sb.rel{af f d:List Nat}{xs:List A}{env0 e:Env}{ro:Nat->Prop}{σ:Sig}{w:World}{a:Act}(g:Sb af f d xs env0 e)
  (h:∀j∈af,∀s x,d[j]?=some s->xs[j]?=some x->VR ro σ w x (a.tmps.getD s undef))
  (i:∀s,d.contains s=false->VR ro σ w (lk env0 s) (a.tmps.getD s undef))(hP:∀j s,f.contains j=true->d[j]?=some s->VR ro σ w (lk env0 s) (a.tmps.getD s undef)):
  ∀s,VR ro σ w (lk e s) (a.tmps.getD s undef):=by
 intro s
 induction g with
 |nil=>exact trivial
 | @dep j s1 x1 r h1 h2 h3 _ ih=>
  unfold lk;cases b:Nat.beq s s1 with
  |false=>exact ih
  |true=>
   obtain rfl:=XR b;exact h j (by simpa using h1) _ _ h2 h3
 | @old s1 x1 r h1 h2 _ ih=>
  unfold lk;cases b:Nat.beq s s1 with
  |false=>exact ih
  |true=>
   obtain rfl:=XR b;subst h2;exact i _ h1
 | @pre j s1 x1 r h1 h2 h3 _ ih=>
  unfold lk;cases b:Nat.beq s s1 with
  |false=>exact ih
  |true=>
   obtain rfl:=XR b;subst h3;exact hP j _ h1 h2
structure After (fr ro:Nat->Prop) (σ:Sig) (w:World) (hB hE:Nat) (H':Qc) (xs:List A) (i:Nat) (o:Oper) (a':Act) (w':World) (ro':Nat->Prop) (σ':Sig):Prop where
 val:∀x,xs[i]?=some x->match o.dst with
  |some d=>VR ro' σ' w' x (a'.tmps.getD d undef)
  |none=>x=.any
 sim:Sim fr ro' σ' H' w'
 ev:Qf fr ro w ro' w'
 ext:Ext ro σ w ro' σ' w'
 holes:QkC hB hE σ' H'
 take:σ'.take hB=σ.take hB
theorem Ju.use{P:Program}{N:Nat}{l:List Oper}{ds:List Nat}{xs:List A}{env0:Env}{hB hE i:Nat}{H H':Qc}(hb:Ju P N l ds xs env0 hB hE i H H')
  {Q:Exit->Act->World->Prop}{K:Act->World->Prop}{fr ro:Nat->Prop}{σ:Sig}{a:Act}{w:World}{o:Oper}{rd:Option Nat}(M:l[i]?=some o)
  (f:Sim fr ro σ H w)(hN:a.tmps.size=N)(n:Qde fr a.defers w)(aa:Qeg rd fr w)(hh:QkC hB hE σ H)(hl:hE<=H.length)(ak:hB<=hE)
  (hD:∀j∈Qg o,∀s x,ds[j]?=some s->xs[j]?=some x->VR ro σ w x (a.tmps.getD s undef))
  (hO:∀s,ds.contains s=false->VR ro σ w (lk env0 s) (a.tmps.getD s undef))(hP:∀j s,(QjA l i).contains j=true->ds[j]?=some s->VR ro σ w (lk env0 s) (a.tmps.getD s undef))
  (hK:∀v w' ro' σ',After fr ro σ w hB hE H' xs i o (a.put o.dst v) w' ro' σ'->K (a.put o.dst v) w'):
  wpOpIn (WF rd) 0 P l.toArray Q i K a w:=by
 have G:∀{e:Env} {H2:Qc} {E:Exit} {r:Act} {w':World},Qb0 H.length fr ro σ w N a.defers (YY e H2) E r w'->E=.normal/\r.defers=a.defers:=by
  rintro e H2 E r w' ⟨x,_,_,_,_,_,k,⟨rfl,_⟩,_,_,_,B,_⟩;refine⟨?_,B⟩;cases E<;>first|rfl|exact k.elim|cases k
 have aj:∀{σ':Sig} {w':World},Qf fr ro w ro w'->σ'.take H.length=σ.take H.length->True:=λ_ _=>trivial;have J:∀{e:Env} {r:Act} {w':World},Qb0 H.length fr ro σ w N a.defers (YY e H') .normal r w'->Qaz hB hE H H'=true->
   ∃ro' σ',Sim fr ro' σ' H' w'/\Qf fr ro w ro' w'/\Ext ro σ w ro' σ' w'/\QkC hB hE σ' H'/\σ'.take hB=σ.take hB/\ ∀s,VR ro' σ' w' (lk e s) (r.tmps.getD s undef):=by
  rintro e r w' ⟨_,ai,H2,ro',σ',al,_,⟨_,rfl,rfl⟩,r',he,ht,_,af⟩ m;have hσ:σ'=σ++σ'.drop H.length:=by
   conv=>lhs;rw[<- Xz H.length σ']
   rw[ht, <- f.len,X9]
  refine⟨ro',σ',r'.sim.frMono af.sub,he,?_,?_,?_,r'.env⟩
  .rw[hσ];exact he.ext σ _
  .intro p k B X;have:=hh p k B (Qlb m k B X);rw[hσ,XN (by rw[f.len];omega)];exact this
  .rw[hσ];exact Qs (by rw[f.len];omega)
 cases hb with
 |woE u e d x g L V he m h=>
  obtain rfl:u=o:=XZ (g.symm.trans M);have hr:∀s,VR ro σ w (lk e s) (a.tmps.getD s undef):=λs=>by
   rcases he s with⟨j,x,k,B,X,F⟩|F|⟨k,F⟩
   .rw[F];exact hD j (by simpa using k) s x B X
   .rw[F];exact trivial
   .rw[F];exact hO s k
  refine QcO M (h rd fr ro σ a w ⟨f,hr,hN,n⟩ aa) (λ_ _ _ q=>G q) (λv w' q=>?_);obtain⟨ro',σ',g1,g2,O,g4,g5,g6⟩:=J q m;refine hK v w' ro' σ' ⟨λy T=>?_,g1,g2,O,g4,g5⟩;obtain rfl:=XZ (V.symm.trans T);have:=g6 d;unfold lk at this;rw[VF]at this;rw[L]at this⊢;exact this
 |mk u e d x g L V m hs h=>
  obtain rfl:u=o:=XZ (g.symm.trans M);refine QcO M (h rd fr ro σ a w ⟨f,hs.rel hD hO hP,hN,n⟩ aa) (λ_ _ _ q=>G q) (λv w' q=>?_);obtain⟨ro',σ',g1,g2,O,g4,g5,g6⟩:=J q m;refine hK v w' ro' σ' ⟨λy T=>?_,g1,g2,O,g4,g5⟩;obtain rfl:=XZ (V.symm.trans T);have:=g6 d;unfold lk at this;rw[VF]at this;rw[L]at this⊢;exact this
 |unit u e g L V m hs h=>
  obtain rfl:u=o:=XZ (g.symm.trans M);refine QcO M (h rd fr ro σ a w ⟨f,hs.rel hD hO hP,hN,n⟩ aa) (λ_ _ _ q=>G q) (λv w' q=>?_);obtain⟨ro',σ',g1,g2,O,g4,g5,g6⟩:=J q m;refine hK v w' ro' σ' ⟨λy T=>?_,g1,g2,O,g4,g5⟩;obtain rfl:=XZ (V.symm.trans T);rw[L]
 |val u e d x g L hg V ac he h hH=>
  obtain rfl:u=o:=XZ (g.symm.trans M);subst hH;have hr:Rel fr ro σ H e N a w:=by
   refine⟨f,λs=>?_,hN,n⟩;rcases he s with⟨j,x,k,B,X,F⟩|F|⟨k,F⟩
   .rw[F];exact hD j (by simpa using k) s x B X
   .rw[F];exact trivial
   .rw[F];exact hO s k
  obtain⟨v0,k,B⟩:=h fr ro σ N a w hr;have hw:Region.wanted u (yielded l.toArray a.tmps)=true:=by unfold Region.wanted;rw[hg]
  refine QcO (R:=λE r w'=>E=.normal/\r.defers=a.defers/\r=a.put u.dst v0/\w'=w) M (Qac hw k ?_) (λ_ _ _ q=>⟨q.1,q.2.1⟩) (λv w' q=>?_)
  .unfold wpL wpListIn;refine⟨rfl,?_,rfl,rfl⟩;rw[L];rfl
  .obtain⟨_,_,q1,rfl⟩:=q;refine hK v _ ro σ ⟨λy T=>?_,f,Qf.refl _ _ _,⟨λ_ q=>q,λ_ _=>rfl,λ_ _ q=>q,λ_ _ q=>q⟩,hh,rfl⟩;obtain rfl:=XZ (V.symm.trans T);rw[q1,L];have Y:d<a.tmps.size:=by rw[hN];simpa using ac
   show VR ro σ w' x _;simpa[Act.put,Array.getD_eq_getD_getElem?,Y]using B
 |alloc u d t p cs g L hg V hp ab hH h ac=>
  obtain rfl:u=o:=XZ (g.symm.trans M);subst hH;simp only[XX]at hp;have ah:=XS hp.1;have ag:p<hE:=by simpa using hp.2
  have hσp:=hh p ah ag ab;obtain⟨lv,k,B,X⟩:=h ro σ w a;have hw:Region.wanted u (yielded l.toArray a.tmps)=true:=by unfold Region.wanted;rw[hg]
  have ev:Qf fr ro w ro (w.alloc (.cells lv.toArray t)):=Qf.alloc _ f.roLt f.frLt;have ae:p<σ.length:=by rw[f.len];omega
  have W:Ext ro σ w ro (σ.set p (some w.heap.size)) (w.alloc (.cells lv.toArray t)):=⟨ev.sub,ev.keepRo,ev.shape,λj b q=>by
   rw[XQ (λz=>by subst z;rw[hσp]at q;cases q)];exact q⟩
  refine QcO (R:=λE r w'=>E=.normal/\r.defers=a.defers/\r=a.put u.dst (.pointer (some ⟨w.heap.size,0,none⟩))/\w'=w.alloc (.cells lv.toArray t)) M (Qac hw k ?_) (λ_ _ _ q=>⟨q.1,q.2.1⟩) (λv w' q=>?_)
  .unfold wpL wpListIn;refine⟨rfl,?_,rfl,rfl⟩;rw[L];rfl
  .obtain⟨_,_,q1,rfl⟩:=q;refine hK v _ ro (σ.set p (some w.heap.size)) ⟨λy T=>?_,f.allocAt hσp ⟨lv,Q6 _ _,B.mono W,X⟩,ev,W,λp' g1 g2 O=>?_,?_⟩
   .obtain rfl:=XZ (V.symm.trans T);rw[q1,L];have Y:d<a.tmps.size:=by rw[hN];simpa using ac
    refine⟨w.heap.size,Xa ae,?_⟩;simp[Act.put,Array.getD_eq_getD_getElem?,Y]
   .by_cases q:p'=p
    .subst q;rw[Xa (by omega)]at O;cases O
    .rw[XQ (λz=>q z.symm)]at O⊢;exact hh p' g1 g2 O
   .rw[List.take_set,List.set_eq_of_length_le];rw[Xy];omega
def same(a b:List Nat):Bool:=a.all (b.contains ·)&&b.all (a.contains ·)
theorem QnE{a b:List Nat}(h:same a b=true)(i:Nat):i∈a↔i∈b:=by
 unfold same at h;simp only[XX,Xt,List.contains_iff_mem]at h;exact⟨h.1 i,h.2 i⟩
structure Qnv (l:List Oper) (m:Nat) (ds:List Nat) (hs:List Bool) (rq ms:List (List Nat)) (pl:List (List (Nat×Nat))) (N:Nat):Prop where
 len:m<=l.length
 dst:∀i o,i<m->l[i]?=some o->(∃d,o.dst=some d/\ds[i]?=some d/\d<N)\/o.dst=none
 dsl:ds.length=m
 nodup:∀(i j d:Nat),ds[i]?=some d->ds[j]?=some d->i=j
 back:∀i o,l[i]?=some o->∀j∈Qg o,j<i
 mid:∀o,l[m]?=some o->∀j,j<m->Qcq l m j
 chain:∀i o,m<i->l[i]?=some o->i-1∈Qg o
 rqs:∀i o,i<m->l[i]?=some o->∀h∈rq.getD i [],h<m/\hs.getD h false=true/\(h∈Qg o\/ ∃j∈Qg o,j<m/\h∈rq.getD j [])
 ms0:ms.getD 0 []=[]
 full:∀st,st<ms.length->st+1=ms.length\/ ∃i,i<m/\hs.getD i false=true/\i∉ms.getD st []
 msh:∀st h,h∈ms.getD st []->h<m/\hs.getD h false=true
 pls:∀i st,i<m->st<ms.length->(∀h∈rq.getD i [],h∈ms.getD st [])->(hs.getD i false=true->i∉ms.getD st [])->(∀h∈ms.getD st [],¬Qcq l h i)->
  ∃st',(st,st')∈pl.getD i []/\st'<ms.length/\if hs.getD i false then∀j,j∈ms.getD st' []↔j=i\/j∈ms.getD st []else st'=st
theorem Qki{α:Type}{l:List α}{i:Nat}{d x:α}(h:l[i]?=some x):l.getD i d=x:=by rw[VL,h];rfl
theorem Qir{P:Program}{l:List Oper}{m:Nat}{ds:List Nat}{hs:List Bool}{rq Y:List (List Nat)}{pl:List (List (Nat×Nat))}{N h0 hB hE:Nat}{xs:List A}{env0:Env}{Hs:List Qc}{Hk:Qc}
  (ok:Qnv l m ds hs rq Y pl N)(av:xs.length=m)(ba:Hs.length=Y.length)(au:h0<=hB)(aw:hB<=hE)(a4:∀H∈Hs,hE<=H.length)
  (a3:∀i p,i<m->p∈pl.getD i []->Ju P N l ds xs env0 hB hE i (Hs.getD p.1 []) (Hs.getD p.2 []))(a0:Hs.getD (Y.length-1) []=Hk)
  {fr ro0:Nat->Prop}{σ0:Sig}{w0:World}{rd:Option Nat}{ds0:List Deferred}{R:Exit->Act->World->Prop}
  (hk:∀ro σ a w,Rel fr ro σ Hk (QaB ds xs env0) N a w->Qf fr ro0 w0 ro w->σ.take h0=σ0.take h0->a.defers=ds0->wpL P rd l.toArray R (l.drop m) a w)(ah:Qde fr ds0 w0)(a6:Qeg rd fr w0):
  ∀(f:Nat) (L:Array Bool) (a:Act) (w:World) (ro:Nat->Prop) (σ:Sig) (st:Nat),
   L.size=l.length->unl L<=f->(∀i,m<=i->¬onL L i)->st<Y.length->Sim fr ro σ (Hs.getD st []) w->a.tmps.size=N->a.defers=ds0->
   (∀(i d:Nat) (x:A),onL L i->ds[i]?=some d->xs[i]?=some x->VR ro σ w x (a.tmps.getD d undef))->(∀s,(∀j,ds[j]?=some s->¬onL L j)->VR ro σ w (lk env0 s) (a.tmps.getD s undef))->
   Qf fr ro0 w0 ro w->σ.take h0=σ0.take h0->QkC hB hE σ (Hs.getD st [])->
   (∀i,i<m->onL L i->∀h∈rq.getD i [],onL L h)->(∀i,i<m->hs.getD i false=true->(onL L i↔i∈Y.getD st []))->
   (∀i o,onL L i->l[i]?=some o->∀j∈Qg o,onL L j)->
   wpAnyIn (WF rd) 0 P .any l.toArray R f L a w:=by
 have a7:∀st,st<Y.length->hE<=(Hs.getD st []).length:=by
  intro st h;have e:Hs[st]?=some Hs[st]:=XL (by omega);rw[Qki e];exact a4 _ (Vd _)
 have fin:∀(f:Nat) (L:Array Bool) (a:Act) (w:World) (ro:Nat->Prop) (σ:Sig) (st:Nat),
   L.size=l.length->unl L<=f->(∀i,m<=i->¬onL L i)->st<Y.length->Sim fr ro σ (Hs.getD st []) w->a.tmps.size=N->a.defers=ds0->
   (∀(i d:Nat) (x:A),onL L i->ds[i]?=some d->xs[i]?=some x->VR ro σ w x (a.tmps.getD d undef))->(∀s,(∀j,ds[j]?=some s->¬onL L j)->VR ro σ w (lk env0 s) (a.tmps.getD s undef))->
   Qf fr ro0 w0 ro w->σ.take h0=σ0.take h0->
   (∀i,i<m->hs.getD i false=true->(onL L i↔i∈Y.getD st []))->(∀i,i<m->onL L i)->
   wpAnyIn (WF rd) 0 P .any l.toArray R f L a w:=by
  intro f L a w ro σ st hsz hu hsuf hst hsim hN hdef hD hE' hev htk hI2 k;have aj:st=Y.length-1:=by
   rcases ok.full st hst with q|⟨i,M,V,h3⟩
   .omega
   .exact absurd ((hI2 i M V).1 (k i M)) h3
  rw[aj,a0]at hsim;refine Qk9 ok.back ok.chain f m L a w hsz (λi hi=>⟨λq=>?_,λq=>k i q⟩) hu (XU _) ok.len ?_
  .rcases VC i m with z|z
   .exact z
   .exact absurd q (hsuf i z)
  .have hr:Rel fr ro σ Hk (QaB ds xs env0) N a w:=by
    refine⟨hsim,λs=>?_,hN,by rw[hdef];exact ah.keep hev⟩;rcases QnM (env0:=env0) (by rw[ok.dsl,av]) s with⟨j,x,M,V,h3⟩|⟨M,V⟩
    .rw[h3];have b:j<m:=by have:=(XM.1 M).1;rw[ok.dsl]at this;exact this
     exact hD j s x (k j b) M V
    .rw[V];exact hE' s (λj q=>absurd (VH q) (by simpa using M))
   exact hk ro σ a w hr hev htk hdef
 intro f
 induction f with
 |zero=>
  intro L a w ro σ st hsz hu hsuf hst hsim hN hdef hD hE' hev htk hho hI1 hI2 hcl;refine fin 0 L a w ro σ st hsz hu hsuf hst hsim hN hdef hD hE' hev htk hI2 (λi hi=>?_);by_cases q:onL L i
  .exact q
  .have:=QjY (L:=L) (i:=i) (by have:=ok.len;omega) q;omega
 |succ f ih=>
  intro L a w ro σ st hsz hu hsuf hst hsim hN hdef hD hE' hev htk hho hI1 hI2 hcl;by_cases k:∀i,i<m->onL L i
  .exact fin (f+1) L a w ro σ st hsz hu hsuf hst hsim hN hdef hD hE' hev htk hI2 k
  .have a1:∃i,i<m/\ ¬onL L i:=by
    refine Classical.byContradiction λq=>k λi hi=>Classical.byContradiction λz=>q ⟨i,hi,z⟩
   obtain⟨n,hn,ak⟩:=a1;obtain⟨i0,M,V,h3⟩:=least (p:=λi=>¬onL L i) (λi=>Classical.em _) n ak;have bb:=ok.len;have am:l[i0]?=some l[i0]:=XL (by omega);have hr:i0∈Region.ready .any l.toArray L:=(QaO hsz).2 ⟨_,am,V,λj b=>Classical.byContradiction λz=>h3 j (ok.back i0 _ am j b) z⟩;refine⟨λq=>(by rw[q]at hr;cases hr),λi hi=>?_⟩;obtain⟨o,Q,X,E⟩:=(QaO hsz).1 hi;have u:i<m:=by
    rcases VC i m with q|q
    .exact q
    .exfalso;rcases VC m i with z|z
     .exact hsuf (i-1) (by omega) (E _ (ok.chain i o z Q))
     .have:i=m:=by omega
      subst this;have a8:∀j,Qcq l i j->onL L j:=by
       intro j b
       induction b with
       |one r b=>rw[Q]at r;cases r;exact E _ b
       |step _ r b ihr=>exact hcl _ _ ihr r _ b
      exact ak (a8 n (ok.mid o Q n hn))
   have ag:∀h∈rq.getD i [],onL L h:=by
    intro h T;obtain⟨_,_,q|⟨j,q1,q2,q3⟩⟩:=ok.rqs i o u Q h T
    .exact E h q
    .exact hI1 j q2 (E j q1) h q3
   obtain⟨aq,a9,a5,F⟩:=ok.pls i st u hst (λh T=>by
    obtain⟨q1,q2,_⟩:=ok.rqs i o u Q h T;exact(hI2 h q1 q2).1 (ag h T)) (λq z=>X ((hI2 i u q).2 z)) (λh T hR=>by
    obtain⟨q1,q2⟩:=ok.msh st h T;have ar:onL L h:=(hI2 h q1 q2).2 T;have ai:∀j,Qcq l h j->onL L j:=by
     intro j b
     induction b with
     |one r b=>exact hcl _ _ ar r _ b
     |step _ r b ihr=>exact hcl _ _ ihr r _ b
    exact X (ai i hR))
   have hb:=a3 i _ u a9;refine hb.use Q hsim hN (by rw[hdef];exact ah.keep hev) (a6.to hev λ_ q=>q) hho (a7 st hst) aw (λj b s x q1 q2=>hD j s x (E j b) q1 q2) (λs M=>hE' s (λj q=>absurd (VH q) (by simpa using M))) (λj s M V=>hE' s (λj' q q'=>?_)) ?_
   .obtain rfl:=ok.nodup j' j s q V;have b:=Xe.1 (List.contains_iff_mem.1 M);cases ac:l[j']? with
    |none=>rw[ac]at b;simp at b
    |some oj=>
     rw[ac]at b;exact X (hcl j' oj q' ac i (by simpa using b.2))
   intro v w' az σ' af;have aa:=af.ext;have ab:∀s,(∀d,o.dst=some d->s≠d)->(a.put o.dst v).tmps.getD s undef=a.tmps.getD s undef:=by
    intro s ao;cases W:o.dst with
    |none=>rfl
    |some d=>
     simp only[Act.put,Array.getD_eq_getD_getElem?,Ve];rw[Vs (λq=>ao d W q.symm)]
   have ae:(a.put o.dst v).tmps.size=N:=by
    cases W:o.dst with
    |none=>simpa[Act.put]using hN
    |some d=>simpa[Act.put]using hN
   have ax:(a.put o.dst v).defers=ds0:=by
    cases W:o.dst with
    |none=>simpa[Act.put]using hdef
    |some d=>simpa[Act.put]using hdef
   have bc:=QgJ (L:=L) (i:=i) (by omega) X;have t:i<L.size:=by omega
   have a2:∀s j,ds[j]?=some s->j≠i->∀d,o.dst=some d->s≠d:=by
    intro s j b B d W q;subst q;rcases ok.dst i o u Q with⟨d',g,O,al⟩|g
    .rw[W]at g;cases g;exact B (ok.nodup j i _ b O)
    .rw[W]at g;cases g
   refine ih _ _ w' az σ' aq (by simpa using hsz) (by omega) (λj b q=>?_) a5 af.sim ae ax ?_ ?_ (hev.trans af.ev) ?_ af.holes ?_ ?_ ?_
   .rcases(Jq t).1 q with z|z
    .omega
    .exact hsuf j b z
   .intro j s y b J hy;by_cases B:j=i
    .subst B;have hv:=af.val y hy;rcases ok.dst j o u Q with⟨d',g,O,al⟩|g
     .obtain rfl:s=d':=XZ (J.symm.trans O);simp only[g]at hv⊢;exact hv
     .simp only[g]at hv;subst hv;exact trivial
    .rw[ab s (a2 s j J B)];rcases(Jq t).1 b with z|z
     .exact absurd z B
     .exact(hD j s y z J hy).mono aa
   .intro s J;have ay:∀d,o.dst=some d->s≠d:=by
     rintro d W rfl;rcases ok.dst i o u Q with⟨d',g,O,al⟩|g
     .rw[W]at g;cases g;exact J i O ((Jq t).2 (.inl rfl))
     .rw[W]at g;cases g
    rw[ab s ay];exact(hE' s (λj q z=>J j q ((Jq t).2 (.inr z)))).mono aa
   .rw[<- htk];have:=congrArg (List.take h0) af.take;rw[List.take_take,List.take_take,XB au]at this;exact this
   .intro j b G h T;refine(Jq t).2 (.inr ?_);rcases(Jq t).1 G with z|z
    .subst z;exact ag h T
    .exact hI1 j b z h T
   .intro j b G;rw[Jq t];cases q:hs.getD i false with
    |false=>
     have B:j≠i:=by rintro rfl;rw[q]at G;cases G
     rw[q]at F;simp only[Xj,if_false]at F;simp only[B,false_or];rw[F];exact hI2 j b G
    |true=>
     rw[q]at F;simp only[if_true]at F;rw[F j,hI2 j b G]
   .intro j o' b r j' an;rcases(Jq t).1 b with z|z
    .subst z;rw[Q]at r;cases r;exact(Jq t).2 (.inr (E _ an))
    .exact(Jq t).2 (.inr (hcl j o' z r j' an))
def Qd0.dstB(N:Nat):Nat->List Oper->List Nat->Bool
 |_,_,[]=>true
 |i,o::r,d::ds=>(match o.dst with|some d'=>Nat.beq d' d&&Nat.blt d N|none=>true)&&Qd0.dstB N (i+1) r ds
 |_,[],_::_=>false
def Qd0.rqB(m:Nat)(hs:List Bool)(rq:List (List Nat)):Nat->List Oper->Bool
 |_,[]=>true
 |i,o::r=>(rq.getD i []).all (λh=>Nat.blt h m&&hs.getD h false&&((Qg o).contains h||(Qg o).any λj=>Nat.blt j m&&(rq.getD j []).contains h))&&Qd0.rqB m hs rq (i+1) r
def Qi9(l:List Oper)(h:Nat):List Nat:=match l[h]? with
 |some o=>QeM l h (Qg o)
 |none=>[]
theorem QkO{l:List Oper}{h j:Nat}(q:j∈Qi9 l h):Qcq l h j:=by
 unfold Qi9 at q;cases a:l[h]? with
 |none=>rw[a]at q;cases q
 |some o=>rw[a]at q;exact Qb6 h (Qg o) (λi b=>.one a b) j q
def Qd0.plB(l:List Oper)(m:Nat)(hs:List Bool)(rq ms:List (List Nat))(pl:List (List (Nat×Nat))):Bool:=
 (List.range m).all λi=>(List.range ms.length).all λst=>((ms.getD st []).any λh=>(Qi9 l h).contains i)|| !(rq.getD i []).all ((ms.getD st []).contains ·)||(hs.getD i false&&(ms.getD st []).contains i)||
  (pl.getD i []).any λp=>Nat.beq p.1 st&&Nat.blt p.2 ms.length&&(bif hs.getD i false then same (ms.getD p.2 []) (i::ms.getD st [])else Nat.beq p.2 st)
def Qd0(l:List Oper)(m N:Nat)(ds:List Nat)(hs:List Bool)(rq ms:List (List Nat))(pl:List (List (Nat×Nat))):Bool:=
 Nat.ble m l.length&&(ds.length==m)&&Qd0.dstB N 0 l ds&&drawChk.nodupB ds&&drawChk.goB l m 0 l&&Qd0.rqB m hs rq 0 l&&(ms.getD 0 []).isEmpty&&Nat.blt 0 ms.length
 &&((List.range ms.length).all λst=>Nat.beq (st+1) ms.length||(List.range m).any λi=>hs.getD i false&& !(ms.getD st []).contains i)&&Qd0.plB l m hs rq ms pl&&(List.range ms.length).all λst=>(ms.getD st []).all λh=>Nat.blt h m&&hs.getD h false
theorem Qgp{N:Nat}:∀(l:List Oper) (a:List Nat) (b:Nat),Qd0.dstB N b l a=true->∀(i d:Nat) (o:Oper),l[i]?=some o->a[i]?=some d->
  (o.dst=some d/\d<N)\/o.dst=none:=by
 intro l
 induction l with
 |nil=>intro a b h i d o f;simp at f
 |cons x r k=>
  intro a b h i d o f g;cases a with
  |nil=>simp at g
  |cons y a=>
   simp only[Qd0.dstB,XX]at h;cases i with
   |zero=>
    simp at f g;subst f;subst g;have h:=h.1;split at h
    .rename_i m j;simp only[XX]at h;have e:=XR h.1;subst e;exact .inl ⟨j,by simpa using h.2⟩
    .rename_i j;exact .inr j
   |succ i=>
    have:=k a (b+1) h.2 i d o (by simpa using f) (by simpa using g);exact this
theorem QlW{m:Nat}{e:List Bool}{d:List (List Nat)}:∀(l:List Oper) (b:Nat),Qd0.rqB m e d b l=true->∀(i:Nat) (o:Oper),l[i]?=some o->
  ∀h∈d.getD (b+i) [],h<m/\e.getD h false=true/\(h∈Qg o\/ ∃j∈Qg o,j<m/\h∈d.getD j []):=by
 intro l
 induction l with
 |nil=>intro b h i o a;simp at a
 |cons x r f=>
  intro b h i o a;simp only[Qd0.rqB,XX]at h;cases i with
  |zero=>
   simp at a;subst a;intro k u;have:=Xt.1 h.1 k (by simpa using u);simp only[XX,Bool.or_eq_true,List.contains_iff_mem,Xu]at this;obtain⟨⟨n,w⟩,t⟩:=this;refine⟨by simpa using n,w,?_⟩;rcases t with q|⟨j,g,s,p⟩
   .exact .inl q
   .exact .inr ⟨j,g,by simpa using s,p⟩
  |succ i=>
   have:=f (b+1) h.2 i o (by simpa using a);rw[show b+1+i=b+(i+1)by omega]at this;exact this
theorem QmP{l:List Oper}{m N:Nat}{t:List Nat}{G:List Bool}{B s:List (List Nat)}{H:List (List (Nat×Nat))}(h:Qd0 l m N t G B s H=true):
  Qnv l m t G B s H N/\0<s.length:=by
 unfold Qd0 at h;simp only[XX]at h;obtain⟨⟨⟨⟨⟨⟨⟨⟨⟨⟨X,Y⟩,L⟩,Q⟩,h5⟩,V⟩,M⟩,R⟩,O⟩,y⟩,F⟩:=h;have x:m<=l.length:=XS X;have E:t.length=m:=by simpa using Y
 have g:=QhY l 0 h5;refine⟨⟨x,λi o r b=>?_,E,QdS Q,λi o b=>by have:=(g i o b).1;simpa using this,λo b j P=>Qb6 m (Qg o) (λi r=>.one b r) j ((g m o b).2.1 (by omega) j P),
  λi o r b=>by have:=(g i o b).2.2 (by omega);simpa using this,λi o r b h d=>by have:=QlW l 0 V i o b h (by simpa using d);exact this,
  by simpa using M,λk a=>?_,λk h d=>?_,λi k r a J W hx=>?_⟩,by simpa using R⟩
 .have w:t[i]?=some t[i]:=XL (by omega);rcases Qgp l t 0 L i _ o b w with⟨n,u⟩|n
  .exact .inl ⟨_,n,w,u⟩
  .exact .inr n
 .have:=Xt.1 O k (List.mem_range.2 a);simp only[Bool.or_eq_true,Xu,XX,Bool.not_eq_true']at this;rcases this with q|⟨i,n,u,f⟩
  .exact .inl (XR q)
  .exact .inr ⟨i,List.mem_range.1 n,u,λz=>by rw[List.contains_iff_mem.2 z]at f;cases f⟩
 .have a:k<s.length:=by
   rcases VC k s.length with q|q
   .exact q
   .rw[VL,XP q]at d;cases d
  have:=Xt.1 (Xt.1 F k (List.mem_range.2 a)) h d;simp only[XX]at this;exact⟨by simpa using this.1,this.2⟩
 .have:=Xt.1 (Xt.1 y i (List.mem_range.2 r)) k (List.mem_range.2 a);simp only[Bool.or_eq_true,Bool.not_eq_true']at this;rcases this with((q|q)|q)|q
  .exfalso;obtain⟨h,d,q⟩:=Xu.1 q;exact hx h d (QkO (List.contains_iff_mem.1 q))
  .exfalso;have:((B.getD i []).all ((s.getD k []).contains ·))=true:=Xt.2 λh d=>List.contains_iff_mem.2 (J h d);rw[this]at q;cases q
  .simp only[XX]at q;exact absurd (List.contains_iff_mem.1 q.2) (W q.1)
  .obtain⟨p,T,q⟩:=Xu.1 q;simp only[XX]at q;obtain⟨⟨n,u⟩,f⟩:=q;have e:=XR n;refine⟨p.2,by rw[<- e];exact T,by simpa using u,?_⟩;cases z:G.getD i false with
   |true=>
    rw[z]at f;simp only[Vp]at f;simp only[if_true];intro j;rw[QnE f j,X6]
   |false=>
    rw[z]at f;simp only[Vq]at f;simp only[Xj,if_false];exact XR f
inductive Qhp (P:Program) (N:Nat) (l:List Oper) (ds:List Nat) (xs:List A) (env0:Env) (hB hE:Nat):Nat->List (List (Qc×Qc))->Prop
 |nil {i:Nat}:Qhp P N l ds xs env0 hB hE i []
 |cons {i:Nat} {s:List (Qc×Qc)} {r:List (List (Qc×Qc))} (h:∀p∈s,Ju P N l ds xs env0 hB hE i p.1 p.2) (k:Qhp P N l ds xs env0 hB hE (i+1) r):Qhp P N l ds xs env0 hB hE i (s::r)
theorem Qhp.get{P:Program}{N:Nat}{l:List Oper}{e:List Nat}{xs:List A}{env0:Env}{hB hE b:Nat}{d:List (List (Qc×Qc))}(h:Qhp P N l e xs env0 hB hE b d):
  ∀(i:Nat) (s:List (Qc×Qc)),d[i]?=some s->∀p∈s,Ju P N l e xs env0 hB hE (b+i) p.1 p.2:=by
 induction h with
 |nil=>intro i s h;simp at h
 | @cons b s0 r h _ ih=>
  intro i s a;cases i with
  |zero=>simp at a;subst a;exact h
  |succ i=>
   have:=ih i s (by simpa using a);rw[show b+1+i=b+(i+1)by omega]at this;exact this
theorem Qy{P:Program}{N:Nat}{l:List Oper}{b:List Nat}{xs:List A}{env0:Env}{hB hE i:Nat}:∀p∈([]:List (Qc×Qc)),Ju P N l b xs env0 hB hE i p.1 p.2:=by
 intro p a;cases a
theorem Qd{P:Program}{N:Nat}{l:List Oper}{a:List Nat}{xs:List A}{env0:Env}{hB hE i:Nat}{H H':Qc}{r:List (Qc×Qc)}(h:Ju P N l a xs env0 hB hE i H H')
  (k:∀p∈r,Ju P N l a xs env0 hB hE i p.1 p.2):∀p∈(H,H')::r,Ju P N l a xs env0 hB hE i p.1 p.2:=by
 intro p b;rcases X6.1 b with rfl|q
 .exact h
 .exact k p q
theorem QgP{P:Program}{h0 N:Nat}{id:Nat}{l:List Oper}{env:Env}{H:Qc}{fr ro:Nat->Prop}{σ:Sig}{a:Act}{w:World}{rd:Option Nat}{R:Exit->Act->World->Prop}(m c:Nat)(ds:List Nat)(hs:List Bool)(rq ms:List (List Nat))(G:List (List (Nat×Nat)))(xs:List A)(Hs:List Qc)(Hk:Qc)
  (hm:P.follows .mixedOrders=true)(hc:Qd0 l m N ds hs rq ms G=true)(aa:Nat.beq xs.length m=true)(Y:Nat.beq Hs.length ms.length=true)(W:Nat.ble h0 H.length=true)
  (hh:Hs.all (λX=>Nat.ble (H.length+c) X.length)=true)(ae:Hs[0]?=some (H++List.replicate c .dead))(V:Hs.getD (ms.length-1) []=Hk)
  (ab:Qhp P N l ds xs env H.length (H.length+c) 0 (G.map λq=>q.map λp=>(Hs.getD p.1 [],Hs.getD p.2 [])))(T:Nat.beq G.length m=true)
  (r:Rel fr ro σ H env N a w)(ac:Qeg rd fr w)
  (hk:∀ro' σ' a' w',Rel fr ro' σ' Hk (QaB ds xs env) N a' w'->Qf fr ro w ro' w'->σ'.take h0=σ.take h0->a'.defers=a.defers->wpL P rd l.toArray R (l.drop m) a' w'):(Code.region id l.toArray true).wpIn (WF rd) 0 P R a w:=by
 obtain⟨ok,E⟩:=QmP hc;have B:=XR aa;have F:=XR Y;have ag:=XR T;have O:Qf fr ro w ro {w with drawn:=w.drawn+1}:=⟨λ_ q=>q,λ_ _=>rfl,λ_ _=>rfl,XU _,λ_ _ q=>q,rfl,rfl,rfl,Nat.le_succ _⟩;have u:Ext ro σ w ro (σ++List.replicate c none) {w with drawn:=w.drawn+1}:=O.ext σ _;have af:=r.sim.len;have M:Hs.getD 0 []=H++List.replicate c .dead:=Qki ae;have n:∀(i:Nat) (s:Option Nat) (x:Blk),(σ++List.replicate c none)[i]?=some s->(H++List.replicate c Blk.dead)[i]?=some x->(σ[i]?=some s/\H[i]?=some x)\/(s=none/\x=.dead):=by
  intro i s x h k;rcases VC i σ.length with q|q
  .rw[XN q]at h;rw[XN (by omega)]at k;exact .inl ⟨h,k⟩
  .rw[XO q]at h;rw[XO (by omega)]at k;have a1:=VH h;have a2:=VH k;exact .inr ⟨(List.mem_replicate.1 a1).2,(List.mem_replicate.1 a2).2⟩
 have L:Sim fr ro (σ++List.replicate c none) (H++List.replicate c .dead) {w with drawn:=w.drawn+1}:=by
  refine⟨by simp[af],r.sim.roOk.to (λ_ q=>q) (λ_ _=>rfl) r.sim.roLt,r.sim.frLt,r.sim.roFr,?_,?_,?_,
   r.sim.hidTo (· = ·) QU (XU _) (λ_ _ _ _ _ _ _ q=>q) (λ_ _ _ _ _ _ _ q=>q) λj d y g1 g2 g3=>.inl ?_⟩
  rotate_left 3
  .rcases n j _ _ g1 g2 with⟨g,t⟩|⟨g,_⟩
   .exact⟨j,y,rfl,g,t,(λz=>z),λc q=>q⟩
   .cases g
  .intro i b blk h k Q;rcases n i _ _ h k with⟨g,t⟩|⟨g,_⟩
   .exact r.sim.own i b blk g t Q
   .cases g
  .intro i j b x y h k Q h4 h5 h6;rcases n i _ _ h Q with⟨g,t⟩|⟨g,_⟩
   .rcases n j _ _ k h4 with⟨q3,q4⟩|⟨q3,_⟩
    .exact r.sim.inj i j b x y g q3 t q4 h5 h6
    .cases q3
   .cases g
  .intro i s x h k;rcases n i _ _ h k with⟨g,t⟩|⟨g,t⟩
   .exact BR.keep u (λb hb _=>rfl) (r.sim.blk i s x g t) (λ_ _ _ _=>rfl)
   .subst t;exact trivial
 have f:∀i,¬onL (Array.replicate l.length false) i:=by
  intro i q;unfold onL at q;rw[Array.getElem?_replicate]at q;split at q<;>simp at q
 have J:=XS W;refine wpIn_region_any hm ?_;rw[List.size_toArray];refine Qir ok B F J (Nat.le_add_right _ _) (λX hX=>XS (Xt.1 hh X hX)) ?_ V (ro0:=ro) (σ0:=σ) (w0:=w) (ds0:=a.defers) hk r.defers ac
  l.length _ a _ ro (σ++List.replicate c none) 0 (by simp) ?_ (λi _=>f i) E (by rw[M];exact L) r.size rfl (λi d x q=>absurd q (f i)) (λs _=>(r.env s).mono u) O (Qs (by omega)) ?_
  (λi _ q=>absurd q (f i)) (λi _ _=>⟨λq=>absurd q (f i),λq=>by rw[ok.ms0]at q;cases q⟩) (λi o q=>absurd q (f i))
 .intro i p hi hp;have e:(G.map λq=>q.map λp=>(Hs.getD p.1 [],Hs.getD p.2 []))[i]?=some ((G.getD i []).map λp=>(Hs.getD p.1 [],Hs.getD p.2 [])):=by
   rw[Xq,XL (by omega),VL,XL (by omega)];rfl
  have:=ab.get i _ e _ (Xf.2 ⟨p,hp,rfl⟩);simpa using this
 .unfold unl;simp[List.countP_replicate]
 .intro p h k Q;rw[XO (by omega),List.getElem?_replicate,Vt (by omega)]
theorem Qbm{P:Program}{h0 N:Nat}{id:Nat}{l:List Oper}{env:Env}{H:Qc}{Q:Qv}(m c:Nat)(g:List Nat)(x:List Bool)(u f:List (List Nat))(d:List (List (Nat×Nat)))(xs:List A)(Hs:List Qc)(Hk:Qc)
  (F:P.follows .mixedOrders=true)(G:Qd0 l m N g x u f d=true)(t:Nat.beq xs.length m=true)(n:Nat.beq Hs.length f.length=true)(k:Nat.ble h0 H.length=true)
  (B:Hs.all (λX=>Nat.ble (H.length+c) X.length)=true)(s:Hs[0]?=some (H++List.replicate c .dead))(j:Hs.getD (f.length-1) []=Hk)
  (i:Qhp P N l g xs env H.length (H.length+c) 0 (d.map λq=>q.map λp=>(Hs.getD p.1 [],Hs.getD p.2 [])))(h:Nat.beq d.length m=true)
  (y:WO P h0 N l.toArray (l.drop m) (QaB g xs env) Hk Q):TC P h0 N (.region id l.toArray true) env H Q:=by
 intro z E J σ a w r hrd;refine Code.wpIn_mono (λe a w q=>Qb0.postW q) (QgP m c g x u f d xs Hs Hk F G t n k B s j i h r hrd λro' σ' a' w' hr hev htk hdf=>?_);have b:=y z E ro' σ' a' w' hr (hrd.to hev λ_ q=>q);rw[hdf]at b;exact Yd (λe a w q=>q.step hev htk) _ _ _ b
def draw0(l:List Oper)(m N:Nat)(ds:List Nat):Bool:=Nat.ble m l.length&&(ds.length==m)&&Qd0.dstB N 0 l ds&&drawChk.nodupB ds&&drawChk.goB l m 0 l
inductive Oq (P:Program) (N:Nat) (l:List Oper) (ds:List Nat) (xs:List A) (env0:Env) (H:Qc):Nat->Nat->Prop
 |n {i:Nat}:Oq P N l ds xs env0 H i 0
 |c {i c:Nat} (h:Ju P N l ds xs env0 H.length H.length i H H) (k:Oq P N l ds xs env0 H (i+1) c):Oq P N l ds xs env0 H i (c+1)
theorem Oq.get{P:Program}{N:Nat}{l:List Oper}{a:List Nat}{xs:List A}{env0:Env}{H:Qc}{b c:Nat}(h:Oq P N l a xs env0 H b c):∀i,i<c->Ju P N l a xs env0 H.length H.length (b+i) H H:=by
 induction h with
 |n=>intro i d;omega
 | @c b c h _ ih=>
  intro i d;cases i with
  |zero=>exact h
  |succ i=>
   have:=ih i (by omega);rw[show b+1+i=b+(i+1)by omega]at this;exact this
theorem QmQ{l:List Oper}{m N:Nat}{d:List Nat}(h:draw0 l m N d=true):Qnv l m d [] [] [[]] (List.replicate m [(0,0)]) N:=by
 unfold draw0 at h;simp only[XX]at h;obtain⟨⟨⟨⟨y,s⟩,z⟩,u⟩,x⟩:=h;have r:m<=l.length:=XS y;have p:d.length=m:=by simpa using s
 have g:=QhY l 0 x;refine⟨r,λi o e b=>?_,p,QdS u,λi o b=>by have:=(g i o b).1;simpa using this,λo b j t=>Qb6 m (Qg o) (λi e=>.one b e) j ((g m o b).2.1 (by omega) j t),
  λi o e b=>by have:=(g i o b).2.2 (by omega);simpa using this,λi o e b h n=>by simp at n,rfl,λk a=>.inl (by simp at a;simp[a]),λk h n=>by cases k<;>simp at n,λi k e a _ _ _=>?_⟩
 .have f:d[i]?=some d[i]:=XL (by omega);rcases Qgp l d 0 z i _ o b f with⟨q,w⟩|q
  .exact .inl ⟨_,q,f,w⟩
  .exact .inr q
 .have:k=0:=by simp at a;exact a
  subst this;refine⟨0,?_,by simp,by simp⟩;rw[VL,List.getElem?_replicate,Vt e];exact VB.2 rfl
theorem QgQ{P:Program}{h0 N:Nat}{id:Nat}{l:List Oper}{env:Env}{H:Qc}{fr ro:Nat->Prop}{σ:Sig}{a:Act}{w:World}{rd:Option Nat}{R:Exit->Act->World->Prop}(m:Nat)(t:List Nat)(xs:List A)
  (E:P.follows .mixedOrders=true)(F:Go.Sw.draw0 l m N t=true)(n:Nat.beq xs.length m=true)(j:Nat.ble h0 H.length=true)
  (k:Oq P N l t xs env H 0 m)(r:Rel fr ro σ H env N a w)(u:Qeg rd fr w)
  (B:∀ro' σ' a' w',Rel fr ro' σ' H (QaB t xs env) N a' w'->Qf fr ro w ro' w'->σ'.take h0=σ.take h0->a'.defers=a.defers->wpL P rd l.toArray R (l.drop m) a' w'):(Code.region id l.toArray true).wpIn (WF rd) 0 P R a w:=by
 have ok:=QmQ F;have e:=XR n;have h:Qf fr ro w ro {w with drawn:=w.drawn+1}:=⟨λ_ q=>q,λ_ _=>rfl,λ_ _=>rfl,XU _,λ_ _ q=>q,rfl,rfl,rfl,Nat.le_succ _⟩;have g:Ext ro σ w ro σ {w with drawn:=w.drawn+1}:=h.ext0 σ;have f:Sim fr ro σ H {w with drawn:=w.drawn+1}:=r.sim.heap rfl;have b:∀i,¬onL (Array.replicate l.length false) i:=by
  intro i q;unfold onL at q;rw[Array.getElem?_replicate]at q;split at q<;>simp at q
 refine wpIn_region_any E ?_;rw[List.size_toArray];refine Qir (hB:=H.length) (hE:=H.length) (Hs:=[H]) (Hk:=H) ok e rfl (XS j) (XU _) (λX hX=>by rw[VB.1 hX];exact XU _) ?_ rfl (ro0:=ro) (σ0:=σ) (w0:=w) (ds0:=a.defers) B r.defers u
  l.length _ a _ ro σ 0 (by simp) ?_ (λi _=>b i) (by simp) f r.size rfl (λi d x q=>absurd q (b i)) (λs _=>(r.env s).mono g) h rfl (λp J G=>by omega)
  (λi _ q=>absurd q (b i)) (λi _ _=>⟨λq=>absurd q (b i),λq=>by cases q⟩) (λi o q=>absurd q (b i))
 .intro i p z y;rw[VL,List.getElem?_replicate,Vt z]at y;obtain rfl:=VB.1 y;have:=k.get i z;rw[Xw]at this;exact this
 .unfold unl;simp[List.countP_replicate]
theorem TC.draw0{P:Program}{h0 N:Nat}{id:Nat}{l:List Oper}{env:Env}{H:Qc}{Q:Qv}(m:Nat)(d:List Nat)(xs:List A)
  (n:P.follows .mixedOrders=true)(p:Go.Sw.draw0 l m N d=true)(h:Nat.beq xs.length m=true)(f:Nat.ble h0 H.length=true)
  (g:Oq P N l d xs env H 0 m)(j:WO P h0 N l.toArray (l.drop m) (QaB d xs env) H Q):TC P h0 N (.region id l.toArray true) env H Q:=by
 intro i k s σ a w r hrd;refine Code.wpIn_mono (λe a w q=>Qb0.postW q) (QgQ m d xs n p h f g r hrd λro' σ' a' w' hr hev htk hdf=>?_);have b:=j i k ro' σ' a' w' hr (hrd.to hev λ_ q=>q);rw[hdf]at b;exact Yd (λe a w q=>q.step hev htk) _ _ _ b
section
variable {P:Program} {N:Nat} {l:List Oper} {ds af bf:List Nat} {xs:List A} {env0 e r:Env} {H H':Qc} {i hB hE:Nat} {o:Oper} {d s:Nat} {x a:A}
theorem sN:Sb af bf ds xs env0 []:=.nil
theorem sD(j:Nat)(k:Sb af bf ds xs env0 r)(b:af.contains j=true:=by exact rfl)(h2:ds[j]?=some s:=by exact rfl)(h3:xs[j]?=some a:=by exact rfl):Sb af bf ds xs env0 ((s,a)::r):=.dep j b h2 h3 k
theorem sP(j:Nat)(k:Sb af bf ds xs env0 r)(b:bf.contains j=true:=by exact rfl)(h2:ds[j]?=some s:=by exact rfl)(h3:lk env0 s=a:=by exact rfl):Sb af bf ds xs env0 ((s,a)::r):=.pre j b h2 h3 k
theorem Qd1(H:Qc):Qaz hB hE H H=true:=by
 unfold Qaz;refine Xt.2 λp _=>?_;cases Qcy H[hB+p]? <;>rfl
theorem Om(f:l[i]?=some o)(a:Sb (Qg o) (QjA l i) ds xs env0 e)(h:WO P H.length N l.toArray [o] e H (YY (up e d x) H))(b:o.dst=some d:=by exact rfl)(hx:xs[i]?=some x:=by exact rfl):Ju P N l ds xs env0 hB hE i H H:=
 .mk o e d x f b hx (Qd1 H) a h
theorem Om1(f:l[i]?=some o)(a:Sb (Qg o) (QjA l i) ds xs env0 e)(h:WO P H.length N l.toArray [o] e H (YY (up e d x) H'))(b:o.dst=some d:=by exact rfl)(hx:xs[i]?=some x:=by exact rfl)(hdd:Qaz hB hE H H'=true:=by exact rfl):Ju P N l ds xs env0 hB hE i H H':=
 .mk o e d x f b hx hdd a h
theorem Om2(d:l[i]?=some o)(a:Sb (Qg o) (QjA l i) ds xs env0 e)(h:WO P H.length N l.toArray [o] e H (YY e H'))(b:o.dst=none:=by exact rfl)(hx:xs[i]?=some .any:=by exact rfl)(hdd:Qaz hB hE H H'=true:=by exact rfl):Ju P N l ds xs env0 hB hE i H H':=
 .unit o e d b hx hdd a h
end
end Go.Sw
namespace Go.Sw
structure TyI where
 fld:List (Nat×Nat×Nat)
 agg:List (Nat×Bool×Nat)
 zer:List (Nat×List A×List (Nat×Nat))
structure TyOK (P:Program) (T:TyI):Prop where
 fld:∀e∈T.fld,∃n,QW P e.1 e.2.1 e.2.2 n
 agg:∀e∈T.agg,(∀w,(isAgg e.1).run P w=.ok e.2.1 w)/\ ∀w,(sizeOf e.1).run P w=.ok e.2.2 w
 zer:∀e∈T.zer,(∃z,(∀w,(zeroValue e.1).run P w=.ok z w)/\ZR (.agg e.2.1) z)/\QE P e.1 e.2.2
def Qh3:List (Nat×Nat×Nat)->Nat->Nat->Option Nat
 |[],_,_=>none
 |(a,b,c)::r,t,f=>bif Nat.beq a t&&Nat.beq b f then some c else Qh3 r t f
def Qcg{β:Type}:List (Nat×β)->Nat->Option β
 |[],_=>none
 |(a,b)::r,t=>bif Nat.beq a t then some b else Qcg r t
theorem Qh2{l:List (Nat×Nat×Nat)}{t f c:Nat}(h:Qh3 l t f=some c):(t,f,c)∈l:=by
 induction l with
 |nil=>cases h
 |cons x r e=>
  obtain⟨a,b,d⟩:=x;unfold Qh3 at h;cases q:(Nat.beq a t&&Nat.beq b f)with
  |true=>
   rw[q]at h;simp only[XX]at q;have g:=XR q.1;have i:=XR q.2;simp only[Vp,Option.some.injEq]at h;subst g i h;exact .head _
  |false=>rw[q]at h;exact .tail _ (e h)
theorem QaC{β:Type}{l:List (Nat×β)}{t:Nat}{c:β}(h:Qcg l t=some c):(t,c)∈l:=by
 induction l with
 |nil=>cases h
 |cons x r d=>
  obtain⟨a,b⟩:=x;unfold Qcg at h;cases q:Nat.beq a t with
  |true=>
   rw[q]at h;have e:=XR q;simp only[Vp,Option.some.injEq]at h;subst e h;exact .head _
  |false=>rw[q]at h;exact .tail _ (d h)
def Qhg(H:Qc):A->Option (List A)
 |.rp cs=>some cs
 |.ptr i off=>match H[i]? with
  |some (.cells _ cs)=>some (cs.drop off)
  |_=>none
 |_=>none
theorem Qjz{H:Qc}{p:A}{cs:List A}(h:Qhg H p=some cs):Pts H p cs:=by
 unfold Qhg at h;split at h
 .cases h;exact Pts.rp
 .split at h
  .rename_i a;cases h;exact Pts.cells a rfl
  .cases h
 .cases h
def QlR(T:TyI)(o:Oper)(env:Env)(H:Qc):Option A:=
 match o.op with
 |.move x=>some (opA env x)
 |.assign x=>some (opA env x)
 |.fieldAddr t x f=>match Qh3 T.fld t f with
  |none=>none
  |some off=>match opA env x with
   |.ptr i p=>some (.ptr i (p+off))
   |.rp cs=>some (.rp (cs.drop off))
   |_=>none
 |.load t x=>match Qcg T.agg t with
  |none=>none
  |some (b,n)=>match x with
   |.global g=>match Qjj[g]? with
    |some zs=>bif b&&Nat.beq zs.length n then some (.agg (zs.map (A.int .i64)))else none
    |none=>none
   |x=>match Qhg H (opA env x)with
    |none=>none
    |some cs=>bif b then(bif Nat.beq (cs.take n).length n then some (.agg (cs.take n))else none)else cs.head?
 |.build t parts=>match Qcg T.zer t with
  |none=>none
  |some (zs,pl)=>match QdY env pl zs parts.toList with
   |some cs=>some (.agg cs)
   |none=>none
 |.extract x i=>match opA env x with
  |.tup vs=>vs[i]?
  |_=>none
 |.makeFunc f first cap=>some (.fn f (first.toList.map (opA env)) (cap.toList.map (opA env)))
 |_=>none
theorem QlQ{P:Program}{T:TyI}(m:TyOK P T){o:Oper}{env:Env}{H:Qc}{x:A}(h:QlR T o env H=some x):OpV P o env H x:=by
 unfold QlR at h;split at h
 .rename_i y a;cases h;exact OpV.move a rfl
 .rename_i y a;cases h;exact OpV.assign a rfl
 .rename_i t y f a;split at h
  .cases h
  .rename_i J l;obtain⟨n,u⟩:=m.fld _ (Qh2 l);split at h
   .rename_i i p e;cases h;exact Yo u a e
   .rename_i d e;cases h;exact Qo u a e rfl
   .cases h
 .rename_i t y a;split at h
  .cases h
  .rename_i b n B;obtain⟨j,k⟩:=m.agg _ (QaC B);split at h
   .rename_i g;split at h
    .rename_i s F;cases q:(b&&Nat.beq s.length n)with
     |false=>rw[q]at h;cases h
     |true=>
      rw[q]at h;cases h;simp only[XX]at q;obtain⟨rfl,E⟩:=q;exact Qgx j k F (XR E) a
    .cases h
   .split at h
    .cases h
    .rename_i d G;have r:=Qjz G;cases b with
     |true=>
      simp only[Vp]at h;cases q:Nat.beq (d.take n).length n with
      |false=>rw[q]at h;cases h
      |true=>
       rw[q]at h;cases h;exact Qh a j k rfl r rfl (XR q)
     |false=>
      simp only[Vq]at h;cases d with
      |nil=>cases h
      |cons v d=>cases h;exact OpV.load a j rfl r
 .rename_i t parts a;split at h
  .cases h
  .rename_i s M w;obtain⟨⟨z,j,k⟩,L⟩:=m.zer _ (QaC w);split at h
   .rename_i d l;cases h;exact OpV.build j k L (by rw[a]) l
   .cases h
 .rename_i y i a;split at h
  .rename_i vs e;exact OpV.extract a e h
  .cases h
 .rename_i f first cap a
  cases h;exact OpV.makeFunc (first:=first.toList) (cap:=cap.toList) (by rw[a]) rfl rfl
 .cases h
def Qiq(af:List Nat):Nat->List Nat->List A->Env->Env
 |j,d::ds,x::xs,e=>(d,bif af.contains j then x else .any)::Qiq af (j+1) ds xs e
 |_,_,_,e=>e
theorem Qn4{af:List Nat}{env0:Env}(s:Nat):∀(a:List Nat) (xs:List A) (b:Nat),a.length=xs.length->
  (∃(j:Nat) (x:A),a[j]?=some s/\xs[j]?=some x/\lk (Qiq af b a xs env0) s=bif af.contains (b+j)then x else .any)\/(a.contains s=false/\lk (Qiq af b a xs env0) s=lk env0 s):=by
 intro a
 induction a with
 |nil=>intro xs b g;right;exact⟨rfl,by unfold Qiq;rfl⟩
 |cons d a k=>
  intro xs b g;cases xs with
  |nil=>cases g
  |cons x xs=>
   cases q:Nat.beq s d with
   |true=>
    have e:=XR q;subst e;left;refine⟨0,x,rfl,rfl,?_⟩;simp only[Qiq,lk,q,Vp];rfl
   |false=>
    have h:s≠d:=λz=>by subst z;simp[VF]at q
    simp only[Qiq,lk,q,Vq];rcases k xs (b+1) (by simpa using g)with⟨j,y,i,f,l⟩|⟨i,f⟩
    .left;refine⟨j+1,y,by simpa using i,by simpa using f,?_⟩;rw[show b+(j+1)=b+1+j by omega];exact l
    .right;refine⟨?_,f⟩;rw[List.contains_cons,i];simpa using h
def QjZ(T:TyI)(N:Nat)(l:List Oper)(ds:List Nat)(xs:List A)(env0:Env)(H:Qc)(i:Nat):Option A:=
 match l[i]? with
 |none=>none
 |some o=>match o.guard,o.dst with
  |none,some d=>bif Nat.blt d N&&Nat.beq ds.length xs.length then QlR T o (Qiq (Qg o) 0 ds xs env0) H else none
  |_,_=>none
theorem Qn3{af b:List Nat}{xs:List A}{env0:Env}(hl:b.length=xs.length):Qns af b xs env0 (Qiq af 0 b xs env0):=by
 intro s;rcases Qn4 (af:=af) (env0:=env0) s b xs 0 hl with⟨j,x,e,d,a⟩|h
 .rw[Xw]at a;cases q:af.contains j with
  |true=>rw[q]at a;exact .inl ⟨j,x,q,e,d,a⟩
  |false=>rw[q]at a;exact .inr (.inl a)
 .exact .inr (.inr h)
theorem vQ{P:Program}{T:TyI}(f:TyOK P T){N:Nat}{l:List Oper}{a:List Nat}{xs:List A}{env0:Env}{hB hE i:Nat}{H:Qc}{x:A}(b:xs[i]?=some x)(h:QjZ T N l a xs env0 H i=some x):Ju P N l a xs env0 hB hE i H H:=by
 unfold QjZ at h;split at h
 .cases h
 .rename_i o j;split at h
  .rename_i d e g;cases q:(Nat.blt d N&&Nat.beq a.length xs.length)with
   |false=>rw[q]at h;cases h
   |true=>
    rw[q]at h;simp only[XX]at q;exact .val o _ d x j g e b q.1 (Qn3 (XR q.2)) (QlQ f h)
  .cases h
abbrev I(n:Int):A:=.int .i64 n
theorem zc{a:A}{v:Value}{al:List A}{vl:List Value}(h:ZR a v)(k:ZL al vl):ZL (a::al) (v::vl):=ZL.cons h k
def zr1:A->Value->Bool
 |.int k n,.int k' n'=>decide (k=k')&&decide (n=n')
 |.bool b,.bool b'=>b==b'
 |.str s,.string s'=>s.isEmpty&&s'.data.toList.isEmpty
 |.rsl _ es,.slice none 0 0=>es.isEmpty
 |.nils,.slice none 0 0=>true
 |.nilp,.pointer none=>true
 |.nilf,.nilFunc=>true
 |.nilm,.map none=>true
 |.nilif,.nilIface=>true
 |_,_=>false
def zrL:List A->List Value->Bool
 |[],[]=>true
 |a::r,v::s=>zr1 a v&&zrL r s
 |_,_=>false
def zrB:A->Value->Bool
 |.agg r,.agg s=>zrL r s.toList
 |a,v=>zr1 a v
theorem QlH{a:A}{v:Value}(h:zr1 a v=true):ZR a v:=by
 unfold zr1 at h;split at h
 .simp only[XX,Vr]at h;obtain⟨rfl,rfl⟩:=h;exact ZR.int
 .simp only[Vy]at h;subst h;exact ZR.bool
 .rename_i s f;simp only[XX,List.isEmpty_iff]at h;obtain⟨rfl,b⟩:=h;obtain⟨d⟩:=f;obtain⟨d⟩:=d;have b:d=[]:=b;subst b;exact ZR.str
 .rename_i k g;have h:g=[]:=List.isEmpty_iff.1 h;subst h;exact ZR.rsl (α:=A) (e:=λx=>[x])
 .exact ZR.nils
 .exact ZR.nilp
 .exact ZR.nilf
 .exact ZR.nilm
 .exact Qn9
 .cases h
theorem QlG:∀{r:List A} {s:List Value},zrL r s=true->ZL r s
 |[],[],_=>ZL.nil
 |a::r,v::s,h=>by
  simp only[zrL,XX]at h;exact ZL.cons (QlH h.1) (QlG h.2)
 |[],_::_,h=>by cases h
 |_::_,[],h=>by cases h
theorem zrC{a:A}{v:Value}(h:zrB a v=true):ZR a v:=by
 unfold zrB at h;split at h
 .rename_i r s;have:=ZR.agg (QlG h);simpa using this
 .exact QlH h
end Go.Sw
namespace Go.Sw
section
variable {P:Program} {o:Oper} {env:Env} {H:Qc}
end
end Go.Sw
namespace Go.Sw
structure TyX where
 ty:TyI
 al:List (Nat×A)
 sl:List Nat
structure QbI (P:Program) (T:TyX):Prop where
 ty:TyOK P T.ty
 al:∀e∈T.al,(∃z,(∀w,(zeroValue e.1).run P w=.ok z w)/\ZR e.2 z)/\Q5 e.2=true/\(Yh e.2).all Ym=true
 sl:∀t∈T.sl,∃et,∀w,(underlying t).run P w=.ok (.slice et) w
def YR(all:Array Oper)(o:Oper)(env:Env):Option Bool:=
 match o.guard with
 |none=>some true
 |some (j,c)=>match(all[j]?).bind (·.dst)with
  |none=>none
  |some d=>match lk env d with
   |.bool true=>some c
   |.bool false=>some (!c)
   |.tup []=>some false
   |_=>none
theorem QX{all:Array Oper}{o:Oper}{env:Env}{b:Bool}(h:YR all o env=some b):Qm all o env b:=by
 unfold YR at h;unfold Qm;split at h
 .rename_i q;rw[q];cases h;rfl
 .rename_i j c q;rw[q];split at h
  .cases h
  .rename_i d e;refine⟨d,e,?_⟩;split at h
   .rename_i a;cases h;exact .inl ⟨true,a,by simp⟩
   .rename_i a;cases h;exact .inl ⟨false,a,by cases c<;>rfl⟩
   .rename_i a;cases h;exact .inr ⟨a,rfl⟩
   .cases h
def Qdt:List Nat->Nat->Bool
 |[],_=>false
 |a::r,t=>bif Nat.beq a t then true else Qdt r t
theorem QgU{l:List Nat}{t:Nat}(h:Qdt l t=true):t∈l:=by
 induction l with
 |nil=>cases h
 |cons a r b=>
  unfold Qdt at h;cases q:Nat.beq a t with
  |true=>have:=XR q;subst this;exact .head _
  |false=>rw[q]at h;exact .tail _ (b h)
inductive FL where
 |mk (l:List A)
def fl:List A->FL
 |[]=>.mk []
 |a::r=>match fl r with
  |.mk r'=>.mk (a::r')
theorem Qco:∀l:List A,fl l=.mk l
 |[]=>rfl
 |a::r=>by unfold fl;rw[Qco r]
inductive FB where
 |mk (l:List Blk)
def fb:List Blk->FB
 |[]=>.mk []
 |a::r=>match fb r with
  |.mk r'=>.mk (a::r')
theorem Qkm:∀l:List Blk,fb l=.mk l
 |[]=>rfl
 |a::r=>by unfold fb;rw[Qkm r]
inductive FN where
 |mk (n:Nat)
def fn:List Blk->Nat->FN
 |[],n=>.mk n
 |_::r,n=>fn r (n+1)
theorem Qmz:∀(l:List Blk) (n:Nat),fn l n=.mk (l.length+n)
 |[],n=>by simp[fn]
 |a::r,n=>by unfold fn;rw[Qmz r];simp;omega
def Qkk(env:Env)(pl:List (Nat×Nat)):List A->List (Nat×Operand)->Option (List A)
 |cs,[]=>some cs
 |cs,(i,x)::r=>match YQ pl i with
  |none=>none
  |some (off,size)=>match opB env x with
   |.mk a=>match fl (Yh a)with
    |.mk vs=>bif Q5 a&&Nat.beq vs.length size&&Nat.ble (off+size) cs.length then(match fl (splice cs off vs)with
     |.mk cs'=>Qkk env pl cs' r)else none
theorem Qh6{env:Env}{pl:List (Nat×Nat)}:∀(parts:List (Nat×Operand)) (cs:List A),Qkk env pl cs parts=QdY env pl cs parts
 |[],cs=>rfl
 |(i,x)::r,cs=>by
  unfold Qkk QdY;rw[QaG];cases pl[i]? with
  |none=>rfl
  |some q=>
   obtain⟨off,size⟩:=q;cases h:opB env x with
   |mk a=>
    rw[Qx h];simp only[Qco];cases(Q5 a&&Nat.beq (Yh a).length size&&Nat.ble (off+size) cs.length)with
    |false=>rfl
    |true=>exact Qh6 r _
def QhT(env:Env):List Operand->List A
 |[]=>[]
 |x::r=>match opB env x with
  |.mk a=>a::QhT env r
theorem QcR{env:Env}:∀l:List Operand,QhT env l=l.map (opA env)
 |[]=>rfl
 |x::r=>by
  unfold QhT;cases h:opB env x with
  |mk a=>rw[Vj,Qx h];show a::QhT env r=_;rw[QcR r]
def ptX(H:Qc):Bx->Option Lx
 |.mk (.rp cs)=>some (.mk cs)
 |.mk (.ptr i off)=>match YQ H i with
  |some (.cells _ cs)=>some (Qfn off cs)
  |_=>none
 |_=>none
theorem QoW{H:Qc}{p:A}{cs:List A}(h:ptX H (.mk p)=some (.mk cs)):Pts H p cs:=by
 unfold ptX at h;split at h
 .rename_i q;cases q;cases h;exact Pts.rp
 .rename_i i b q;cases q;split at h
  .rename_i a;rw[QaG]at a;simp only[Option.some.injEq]at h;exact Pts.cells a (Qc2 h)
  .cases h
 .cases h
def Qex(T:TyX)(o:Oper)(env:Env)(H:Qc):Option A:=
 match o.op with
 |.move x=>match opB env x with|.mk a=>some a
 |.assign x=>match opB env x with|.mk a=>some a
 |.nilCheck x=>nlB (opB env x)
 |.extract x i=>exB (opB env x) i
 |.unOp u _ x=>unB u (opB env x)
 |.pick c x y=>piB (opB env c) (opB env x) (opB env y)
 |.binOp b _ x y _=>biB b (opB env x) (opB env y)
 |.fieldAddr t x f=>match Qh3 T.ty.fld t f with
  |none=>none
  |some off=>match opB env x with
   |.mk (.ptr i p)=>some (.ptr i (p+off))
   |.mk (.rp cs)=>match Qfn off cs with
    |.mk r=>some (.rp r)
   |_=>none
 |.load t x=>match Qcg T.ty.agg t with
  |none=>none
  |some (b,n)=>match x with
   |.global g=>match YQ Qjj g with
    |some zs=>bif b&&Nat.beq zs.length n then(match fl (zs.map (A.int .i64))with|.mk l=>some (.agg l))else none
    |none=>none
   |x=>match ptX H (opB env x)with
    |none=>none
    |some (.mk cs)=>match b with
     |true=>(match fl (cs.take n)with|.mk l=>bif Nat.beq l.length n then some (.agg l)else none)
     |false=>(match cs with|[]=>none|a::_=>some a)
 |.build t parts=>match Qcg T.ty.zer t with
  |none=>none
  |some (zs,pl)=>match Qkk env pl zs parts.toList with
   |some cs=>some (.agg cs)
   |none=>none
 |.makeFunc f first cap=>match fl (QhT env first.toList),fl (QhT env cap.toList)with
  |.mk l,.mk l'=>some (.fn f l l')
 |.call c=>match c with
  |{callee:=.builtin .len,args:=⟨[x]⟩,argTypes:=⟨[t]⟩}=>bif Qdt T.sl t then(match opB env x with
   |.mk (.osl _ 0 n _)=>some (.int .i64 n)
   |_=>none)else none
  |_=>none
 |_=>none
theorem Qbq{P:Program}{T:TyX}(s:QbI P T){o:Oper}{env:Env}{H:Qc}{x:A}(h:Qex T o env H=some x):OpV P o env H x:=by
 unfold Qex at h;split at h
 .rename_i y a;exact QbL a (by unfold svB;exact h)
 .rename_i y a;exact QbL a (by unfold svB;exact h)
 .rename_i y a;exact QbL a (by unfold svB;exact h)
 .rename_i y i a;exact QbL a (by unfold svB;exact h)
 .rename_i u t y a;exact QbL a (by unfold svB;exact h)
 .rename_i c y z a;exact QbL a (by unfold svB;exact h)
 .rename_i b t y z u a;exact QbL a (by unfold svB;exact h)
 .rename_i t y f a;split at h
  .cases h
  .rename_i w l;obtain⟨n,G⟩:=s.ty.fld _ (Qh2 l);split at h
   .rename_i i p B;cases h;exact Yo G a (Qx B)
   .rename_i d B;cases q:Qfn w d with
    |mk r=>rw[q]at h;cases h;exact Qo G a (Qx B) (Qc2 q)
   .cases h
 .rename_i t y a;split at h
  .cases h
  .rename_i b n O;obtain⟨j,m⟩:=s.ty.agg _ (QaC O);split at h
   .rename_i g;split at h
    .rename_i L J;rw[QaG]at J;cases q:(b&&Nat.beq L.length n)with
     |false=>rw[q]at h;cases h
     |true=>
      rw[q,Qco]at h;cases h;simp only[XX]at q;obtain⟨rfl,E⟩:=q;exact Qgx j m J (XR E) a
    .cases h
   .cases e:opB env y with
    |mk p=>
     rw[e]at h;split at h
     .cases h
     .rename_i d R;have F:=QoW R;cases b with
      |true=>
       simp only[Qco]at h;cases q:Nat.beq (d.take n).length n with
       |false=>rw[q]at h;cases h
       |true=>
        rw[q]at h;cases h;exact Qh a j m (Qx e) F rfl (XR q)
      |false=>
       cases d with
       |nil=>cases h
       |cons v d=>cases h;exact OpV.load a j (Qx e) F
 .rename_i t parts a;split at h
  .cases h
  .rename_i L W N;obtain⟨⟨z,j,m⟩,Q⟩:=s.ty.zer _ (QaC N);split at h
   .rename_i d l;cases h;rw[Qh6]at l;exact OpV.build j m Q (by rw[a]) l
   .cases h
 .rename_i f first cap a
  simp only[Qco]at h;cases h;rw[QcR,QcR];exact OpV.makeFunc (first:=first.toList) (cap:=cap.toList) (by rw[a]) rfl rfl
 .rename_i c a;split at h
  .rename_i y t;cases q:Qdt T.sl t with
   |false=>rw[q]at h;cases h
   |true=>
    rw[q]at h;simp only[Vp]at h;obtain⟨V,M⟩:=s.sl t (QgU q);split at h
    .rename_i i n k E;cases h;exact Qlu M a rfl (Qx E)
    .cases h
  .cases h
 .cases h
def stX(T:TyX)(h0 N:Nat)(all:Array Oper)(o:Oper)(env:Env)(H:Qc):Option (Env×Qc):=
 match YR all o env with
 |none=>none
 |some false=>match o.dst with
  |none=>none
  |some d=>bif Nat.blt d N then some (up env d (.tup []),H)else none
 |some true=>match o.dst with
  |none=>match o.op with
   |.store t x y=>match opB env x,Qcg T.ty.agg t with
    |.mk (.ptr i off),some (_,n)=>match YQ H i with
     |some (.cells S cs)=>match opB env y with
      |.mk a=>match fl (Yh a)with
       |.mk vs=>bif Nat.ble h0 H.length&&(Q5 a&&(Nat.beq vs.length n&&(vs.all Ym&&Nat.ble (off+n) cs.length)))then(match fl (splice cs off vs)with
        |.mk cs'=>match fb (H.set i (.cells S cs'))with
         |.mk H'=>some (env,H'))else none
     |_=>none
    |_,_=>none
   |_=>none
  |some d=>bif Nat.blt d N then(match o.op with
   |.alloc t=>match Qcg T.al t with
    |some v=>bif Nat.ble h0 H.length then(match fn H 0,fl (Yh v)with
     |.mk n,.mk cs=>match fb (H++[.cells t cs])with
      |.mk H'=>some (up env d (.ptr n 0),H'))else none
    |none=>none
   |.box t x=>match opB env x with
    |.mk a=>bif Nat.ble h0 H.length&&(Q5 a&&(Yh a).all Ym)then(match fn H 0,fl (Yh a)with
     |.mk n,.mk cs=>match fb (H++[.cells t cs])with
      |.mk H'=>some (up env d (.ptr n 0),H'))else none
   |_=>match Qex T o env H with
    |some a=>some (up env d a,H)
    |none=>none)else none
def runX(T:TyX)(h0 N:Nat)(all:Array Oper):Nat->List Oper->Env->Qc->Option (List Oper×Env×Qc)
 |0,l,env,H=>some (l,env,H)
 |_+1,[],_,_=>none
 |n+1,o::l,env,H=>match stX T h0 N all o env H with
  |some (env',H')=>runX T h0 N all n l env' H'
  |none=>none
section
variable {P:Program} {T:TyX} {h0 N:Nat} {all:Array Oper} {l l':List Oper} {env env':Env} {H H':Qc} {Q:Qv}
theorem QiY(w:QbI P T){o:Oper}(h:stX T h0 N all o env H=some (env',H'))(k:WO P h0 N all l env' H' Q):WO P h0 N all (o::l) env H Q:=by
 unfold stX at h;split at h
 .cases h
 .rename_i s;have g:=QX s;split at h
  .cases h
  .rename_i d f;cases q:Nat.blt d N with
   |false=>rw[q]at h;cases h
   |true=>rw[q]at h;cases h;exact WO.skip g f q k
 .rename_i s;have g:=QX s;split at h
  .rename_i f;split at h
   .rename_i t x y j;split at h
    .rename_i i p b n W B;split at h
     .rename_i S cs hH;rw[QaG]at hH;cases e:opB env y with
      |mk a=>
       rw[e]at h;simp only[Qco,Qkm]at h;generalize hc:(Nat.ble h0 H.length&&(Q5 a&&(Nat.beq (Yh a).length n&&((Yh a).all Ym&&Nat.ble (p+n) cs.length))))=c at h;cases c with
       |false=>cases h
       |true=>
        cases h;simp only[XX]at hc;obtain⟨u,m,r,F,R⟩:=hc;obtain⟨_,V⟩:=w.ty.agg _ (QaC B);exact QbD (XS u) g f (OpU.store j (Qx W) hH V (Qx e) m rfl (XR r) F R rfl) k
     .cases h
    .cases h
   .cases h
  .rename_i d f;cases q:Nat.blt d N with
   |false=>rw[q]at h;cases h
   |true=>
    rw[q]at h;simp only[Vp]at h;split at h
    .rename_i t j;split at h
     .rename_i v E;cases c:Nat.ble h0 H.length with
      |false=>rw[c]at h;cases h
      |true=>
       rw[c]at h;simp only[Qco,Qkm,Qmz,Vp,Xx]at h;cases h;obtain⟨⟨z,O,L⟩,G,J⟩:=w.al _ (QaC E);exact YV (XS c) g f q (QfD O L j G rfl J) k
     .cases h
    .rename_i t x j;cases e:opB env x with
     |mk a=>
      rw[e]at h;simp only[Qco,Qkm,Qmz,Xx]at h;generalize hc:(Nat.ble h0 H.length&&(Q5 a&&(Yh a).all Ym))=c at h;cases c with
      |false=>cases h
      |true=>
       cases h;simp only[XX]at hc;obtain⟨u,m,r⟩:=hc;exact YV (XS u) g f q (OpH.box j (Qx e) m rfl r) k
    .split at h
     .rename_i a M;cases h;exact QF g f q (Qbq w M) k
     .cases h
theorem AU(hT:QbI P T):∀(n:Nat) {l l':List Oper} {env env':Env} {H H':Qc},runX T h0 N all n l env H=some (l',env',H')->WO P h0 N all l' env' H' Q->WO P h0 N all l env H Q
 |0,l,l',env,env',H,H',h,k=>by cases h;exact k
 |n+1,[],l',env,env',H,H',h,k=>by cases h
 |n+1,o::l,l',env,env',H,H',h,k=>by
  unfold runX at h;split at h
  .rename_i e1 H1 hs;exact QiY hT hs (AU hT n h k)
  .cases h
end
theorem yc{α:Type}{p:α->Prop}{a:α}{l:List α}(h:p a)(k:∀x∈l,p x):∀x∈a::l,p x:=List.forall_mem_cons.2 ⟨h,k⟩
theorem FA{P:Program}{T f off n:Nat}{fs:Array Field}{a:Field}(d:∀w,(underlying T).run P w=.ok (.struct fs) w)(b:fs[f]?=some a)(e:∀w,(sizeOf a.type).run P w=.ok n w)(g:a.offset=off:=by exact rfl)(h5:n≠0:=by decide):QW P T f off n:=⟨_,_,d,b,g,e,h5⟩
theorem QbO:∀(π:List Nat) (H:Qc) (xs:List Blk),π.map (λp=>H[p]?)=xs.map some->Yl H π xs=H
 |[],H,xs,h=>by
  have:xs=[]:=by cases xs with
   |nil=>rfl
   |cons x xs=>simp at h
  subst this;simp[Yl]
 |p::π,H,[],h=>by simp at h
 |p::π,H,x::xs,h=>by
  simp only[Vj,List.cons.injEq]at h;have e:H.set p x=H:=by
   apply List.ext_getElem?;intro i;rw[Xb];by_cases q:p=i
   .subst q;rw[Vt rfl,h.1];have:=(XM.1 h.1).1;rw[Vt this]
   .rw[Vs q]
  unfold Yl;rw[e];exact QbO π H xs h.2
def Qi4:A->Option Bx
 |.bool b=>some (.mk (.bool b))
 |.int k n=>some (.mk (.int k n))
 |.str s=>some (.mk (.str s))
 |.rsl k es=>some (.mk (.rsl k es))
 |_=>none
theorem Qj1{v a:A}(h:Qi4 v=some (.mk a))(ρ:Nat->Nat):Yx ρ v=a:=by
 cases v<;>first|(cases h;rfl)|cases h
theorem Pc{P:Program}{h0 N:Nat}{all:Array Oper}{o:Oper}{l:List Oper}{env:Env}{H:Qc}{Q:Qv}{d:Nat}{f:FuncId}{args b:List A}{Hc:Qc}{v g:A}(π:List Nat)(j:o.dst=some d)(e:OpC P o env H f args)(i:C P f b Hc (λa H1=>a=v/\H1=Hc))(h:Qi4 v=some (.mk g))
  (k:WO P h0 N all l (up env d g) H Q)
  (hargs:args=Qaa (rho π H.length) b:=by exact rfl)(hH:π.map (λp=>H[p]?)=(Hc.map (QT (rho π H.length))).map some:=by exact rfl)(hπ:π.Nodup:=by decide)
  (hg:Qm all o env true:=by exact rfl)(hN:Nat.blt d N=true:=by exact rfl)(hh:Nat.ble h0 H.length=true:=by exact rfl):WO P h0 N all (o::l) env H Q:=by
 refine QL π e i ?_ hargs hH hπ hg j hN hh;rintro r H1 ⟨rfl,rfl⟩;rw[Qj1 h,QbO π H _ hH];exact k
theorem Y7{i k:Nat}{es:List (List A)}:∀H:Qc,FzH i k es H H
 |[]=>.nil
 |_::r=>.keep (Y7 r)
def foN:Nat->FN
 |0=>.mk 0
 |n+1=>match foN n with
  |.mk m=>.mk (m+1)
theorem Qe2:∀n,foN n=.mk n
 |0=>rfl
 |n+1=>by unfold foN;rw[Qe2 n]
mutual
def foA:A->Bx
 |.agg cs=>match foL cs with
  |.mk l=>.mk (.agg l)
 |.tup cs=>match foL cs with
  |.mk l=>.mk (.tup l)
 |.fn f a c=>match foL a,foL c with
  |.mk l,.mk l'=>.mk (.fn f l l')
 |.iface t v=>match foA v with
  |.mk v'=>.mk (.iface t v')
 |.ptr i off=>match foN i with
  |.mk i'=>.mk (.ptr i' off)
 |.osl i o n k=>match foN i with
  |.mk i'=>.mk (.osl i' o n k)
 |.map i=>match foN i with
  |.mk i'=>.mk (.map i')
 |a=>.mk a
def foL:List A->FL
 |[]=>.mk []
 |a::r=>match foA a,foL r with
  |.mk a',.mk r'=>.mk (a'::r')
end
mutual
theorem Qg4:∀a:A,foA a=.mk a
 |.agg cs=>by unfold foA;rw[QcA cs]
 |.tup cs=>by unfold foA;rw[QcA cs]
 |.fn f a c=>by unfold foA;rw[QcA a,QcA c]
 |.iface t v=>by unfold foA;rw[Qg4 v]
 |.ptr i off=>by unfold foA;rw[Qe2]
 |.osl i o n k=>by unfold foA;rw[Qe2]
 |.map i=>by unfold foA;rw[Qe2]
 |.any|.bool _|.int _ _|.str _|.nilp|.rp _|.nils|.rsl _ _|.nilf|.nilif|.nilm=>by rfl
theorem QcA:∀l:List A,foL l=.mk l
 |[]=>by rfl
 |a::r=>by unfold foL;rw[Qg4 a,QcA r]
end
inductive FE2 where
 |mk (l:List (List A))
def foE:List (List A)->FE2
 |[]=>.mk []
 |a::r=>match foL a,foE r with
  |.mk a',.mk r'=>.mk (a'::r')
theorem Qmy:∀l,foE l=.mk l
 |[]=>rfl
 |a::r=>by unfold foE;rw[QcA,Qmy r]
def foH:List Blk->FB
 |[]=>.mk []
 |b::r=>match foH r with
  |.mk r'=>match b with
   |.cells t cs=>match foL cs with
    |.mk l=>.mk (.cells t l::r')
   |.rowr t k es=>match foE es with
    |.mk l=>.mk (.rowr t k l::r')
   |.dead=>.mk (.dead::r')
   |.row t k es=>.mk (.row t k es::r')
   |.map es=>.mk (.map es::r')
   |.iter c es=>.mk (.iter c es::r')
   |.fmap es=>.mk (.fmap es::r')
   |.mapO fz t k es=>.mk (.mapO fz t k es::r')
   |.mapP es=>.mk (.mapP es::r')
   |.frow t k es=>.mk (.frow t k es::r')
   |.ents t a b es=>match foN a,foN b with
    |.mk a',.mk b'=>.mk (.ents t a' b' es::r')
theorem Qjl:∀l,foH l=.mk l
 |[]=>rfl
 |b::r=>by
  unfold foH;rw[Qjl r];cases b<;>simp only[QcA,Qmy,Qe2]
def foS(env:Env)(H:Qc):Option (Env×Qc):=
 match foH H with
 |.mk H'=>match env with
  |[]=>some ([],H')
  |(d,a)::e=>match foA a with
   |.mk a'=>some ((d,a')::e,H')
theorem Qpj(env:Env)(H:Qc):foS env H=some (env,H):=by
 unfold foS;rw[Qjl];cases env with
 |nil=>rfl
 |cons p e=>obtain⟨d,a⟩:=p;simp only[Qg4]
theorem FE{P:Program}{h0 N:Nat}{all:Array Oper}{l:List Oper}{env env':Env}{H H':Qc}{Q:Qv}(h:foS env H=some (env',H'))(k:WO P h0 N all l env' H' Q):WO P h0 N all l env H Q:=by
 rw[Qpj]at h;cases h;exact k
def entB(b1 b2:Nat):List (List A)->Option (List Ent)
 |[]=>some []
 |[.ptr b off,.int .i64 lo,.int .i64 hi]::r=>match entB b1 b2 r with
  |none=>none
  |some l=>match Nat.beq b b2 with
   |true=>some (⟨true,off,lo,hi⟩::l)
   |false=>match Nat.beq b b1 with
    |true=>some (⟨false,off,lo,hi⟩::l)
    |false=>none
 |_=>none
theorem Qn5{b1 b2:Nat}:∀{es:List (List A)} {l:List Ent},entB b1 b2 es=some l->l.map (eC b1 b2)=es:=by
 intro es
 induction es with
 |nil=>intro l h;cases h;rfl
 |cons e r a=>
  intro l h;unfold entB at h;split at h
  .cases ‹_=[]›
  .rename_i b f lo j g q;cases q;split at h
   .cases h
   .rename_i i d;have e:=a d;split at h
    .rename_i q;cases h;have:=XR q;subst this;rw[Vj,e];rfl
    .split at h
     .rename_i q;cases h;have:=XR q;subst this;rw[Vj,e];rfl
     .cases h
  .cases h
theorem TE{P:Program}{h0 N:Nat}{all:Array Oper}{l:List Oper}{env:Env}{H:Qc}{Q:Qv}{t:Nat}{es:List (List A)}{L:List Ent}(i b1 b2:Nat)(hH:H[i]?=some (.rowr t 3 es))(h:entB b1 b2 es=some L)
  (k:WO P h0 N all l env (H.set i (.ents t b1 b2 L)) Q):WO P h0 N all l env H Q:=WO.le (QlC hH (Qn5 h)) k
theorem R1{P:Program}{h0:Nat}{fn:Func}{env:Env}{H Hc:Qc}{v:A}(s:Nat)(hr:fn.results= #[.tmp s])(hle:Le h0 env H [(s,v)] Hc):Qc8 P h0 fn (λa H=>a=v/\H=Hc) .ret env H:=
 ⟨[(s,v)],Hc,v,hle,Qc9.one hr (by show lk [(s,v)] s=v;unfold lk;rw[VF];rfl),rfl,rfl⟩
theorem R2{P:Program}{h0:Nat}{fn:Func}{env:Env}{H Hc:Qc}{v v':A}(s t:Nat)(hr:fn.results= #[.tmp s,.tmp t])(hn:Nat.beq t s=false)(hle:Le h0 env H [(s,v),(t,v')] Hc):Qc8 P h0 fn (λa H=>a=.tup [v,v']/\H=Hc) .ret env H:=
 ⟨[(s,v),(t,v')],Hc,_,hle,Qln hr (by show lk [(s,v),(t,v')] s=v;unfold lk;rw[VF];rfl) (by show lk [(s,v),(t,v')] t=v';unfold lk lk;rw[hn,VF];rfl),rfl,rfl⟩
theorem FzA.o{i k n:Nat}{es:List (List A)}(a:n=es.length:=by first|exact(X2 ..).symm|exact rfl):FzA i k es (.osl i 0 n k) (.rsl k es):=FzA.own a
end Go.Sw
namespace Go.Sw
theorem Le.env{h0:Nat}{env env':Env}{H:Qc}(h:∀s,lk env' s=.any\/lk env' s=lk env s):Le h0 env H env' H:=by
 intro d b σ N a w r;refine⟨b,σ,⟨r.sim,λs=>?_,r.size,r.defers⟩,λ_ q=>q,rfl⟩;rcases h s with h|h
 .rw[h];trivial
 .rw[h];exact r.env s
def Qnr(env:Env):Env->Prop
 |[]=>True
 |(s,a)::r=>lk env s=a/\Qnr env r
theorem Qnr.ok{env:Env}:∀{env':Env},Qnr env env'->∀s,lk env' s=.any\/lk env' s=lk env s
 |[],_,s=>.inl rfl
 |(d,a)::e,⟨h1,h2⟩,s=>by
  by_cases q:s=d
  .subst q;right;simp only[lk,VF,Vp];exact h1.symm
  .have:Nat.beq s d=false:=by
    rw[VM];intro b;exact q (XR b)
   simp only[lk,this,Vq];exact Qnr.ok h2 s
theorem Lw{h0:Nat}{env env':Env}{H:Qc}(h:Qnr env env'):Le h0 env H env' H:=Le.env h.ok
theorem QoK(n i:Nat):rho (List.range n) n i=i:=by
 unfold rho;by_cases h:i<n
 .rw[List.getElem?_range h]
 .rw[XP (by rw[List.length_range];omega)];simp only[List.length_range];omega
mutual
theorem QgO{ρ:Nat->Nat}(h:∀i,ρ i=i):∀a:A,Yx ρ a=a
 |.ptr i off=>by simp[Yx,h]
 |.osl i o n k=>by simp[Yx,h]
 |.agg cs=>by simp[Yx,Qa4 h cs]
 |.fn f a c=>by simp[Yx,Qa4 h a,Qa4 h c]
 |.iface t v=>by simp[Yx,QgO h v]
 |.map i=>by simp[Yx,h]
 |.tup vs=>by simp[Yx,Qa4 h vs]
 |.any|.bool _|.int _ _|.str _|.nilp|.rp _|.nils|.rsl _ _|.nilf|.nilif|.nilm=>by rfl
theorem Qa4{ρ:Nat->Nat}(h:∀i,ρ i=i):∀l:List A,Qaa ρ l=l
 |[]=>rfl
 |a::r=>by simp[Qaa,QgO h a,Qa4 h r]
end
theorem Qj6{ρ:Nat->Nat}(h:∀i,ρ i=i):∀l:List (List A),QgN ρ l=l
 |[]=>rfl
 |a::r=>by simp[QgN,Qa4 h a,Qj6 h r]
theorem Qj5{ρ:Nat->Nat}(h:∀i,ρ i=i):∀l:List (A×A),Qi8 ρ l=l
 |[]=>rfl
 |a::r=>by simp[Qi8,QgO h,Qj5 h r]
theorem QnH{ρ:Nat->Nat}(h:∀i,ρ i=i):∀b:Blk,QT ρ b=b
 |.cells t cs=>by simp[QT,Qa4 h cs]
 |.rowr t k es=>by simp[QT,Qj6 h es]
 |.ents t a b es=>by simp[QT,h]
 |.mapP es=>by simp[QT,Qj5 h es]
 |.dead|.row _ _ _|.map _|.iter _ _|.fmap _|.mapO _ _ _ _|.frow _ _ _=>by rfl
theorem Pw{P:Program}{h0 N:Nat}{all:Array Oper}{o:Oper}{l:List Oper}{env:Env}{H:Qc}{Q:Qv}{d:Nat}{f:FuncId}{args:List A}{v j:A}(u:o.dst=some d)(g:OpC P o env H f args)(s:C P f args H (λa H1=>a=v/\H1=H))(w:Qi4 v=some (.mk j))
  (hg:Qm all o env true)(n:Nat.blt d N=true)(m:h0<=H.length)(k:WO P h0 N all l (up env d j) H Q):WO P h0 N all (o::l) env H Q:=by
 have e:=QoK H.length;have t:H.map (QT (rho (List.range H.length) H.length))=H:=by
  conv=>rhs;rw[<- List.map_id H]
  exact List.map_congr_left λb _=>QnH e b
 have h:(List.range H.length).map (λp=>H[p]?)=(H.map (QT (rho (List.range H.length) H.length))).map some:=by
  rw[t];apply List.ext_getElem?;intro i;by_cases q:i<H.length
  .simp[q]
  .simp[q]
 refine QL (List.range H.length) g s ?_ (by rw[Qa4 e]) h List.nodup_range hg u n (XT m);rintro r H1 ⟨rfl,rfl⟩;rw[Qj1 w,QbO _ _ _ h];exact k
def ixE(d:Nat)(g:Ground):Edge:={on:=d,ground:=g}
def ixO(d:Nat)(op:Op)(t:Nat)(pos:String)(af:Array Edge):Oper:={dst:=some d,op:=op,type:=t,pos:=pos,after:=af,guard:=none}
def Qpg(ts te tf tI tB:Nat):Code:=
 (Code.region 0 [ixO 4 (.assign (.const (.int .i64 0))) tI "slices.go:107" #[]].toArray false).seq
  (((Code.region 1 [ixO 6 (.move (.tmp 0)) ts "slices.go:108" #[],ixO 7 (.call {callee:=.builtin .len,args:= #[.tmp 6],argTypes:= #[ts]}) tI "slices.go:108" #[ixE 0 .data],ixO 8 (.move (.const (.int .i64 0))) tI "slices.go:108" #[]].toArray false).seq
   (.block 0 (.loop ((Code.region 2 [ixO 9 (.binOp .lss tI (.tmp 8) (.tmp 7) tI) 0 "slices.go:108" #[]].toArray false).seq
    ((Code.cond (.tmp 9) .skip (.exit 0)).seq
    ((Code.block 1 ((Code.region 3 [ixO 10 (.move (.tmp 8)) tI "slices.go:108" #[],ixO 5 (.assign (.tmp 10)) tI "slices.go:108" #[ixE 0 .data,ixE 0 .phase]].toArray false).seq
     ((Code.region 4 [ixO 11 (.move (.tmp 1)) tf "slices.go:109" #[],ixO 12 (.move (.tmp 0)) ts "slices.go:109" #[],ixO 13 (.move (.tmp 5)) tI "slices.go:109" #[],ixO 14 (.indexAddr ts (.tmp 12) (.tmp 13)) 0 "slices.go:109" #[ixE 1 .data,ixE 2 .data],
       ixO 15 (.load te (.tmp 14)) te "slices.go:109" #[ixE 3 .data],ixO 16 (.call {callee:=.value (.tmp 11),args:= #[.tmp 15],argTypes:= #[te]}) tB "slices.go:109" #[ixE 0 .data,ixE 4 .data]].toArray false).seq
      (Code.cond (.tmp 16) ((Code.region 5 [ixO 17 (.move (.tmp 5)) tI "slices.go:110" #[],ixO 4 (.assign (.tmp 17)) tI "slices.go:110" #[ixE 0 .data,ixE 0 .phase]].toArray false).seq .ret) .skip)))).seq
     (Code.region 6 [ixO 18 (.binOp .add tI (.tmp 8) (.const (.int .i64 1)) tI) tI "slices.go:108" #[],ixO 8 (.move (.tmp 18)) tI "slices.go:108" #[ixE 0 .data]].toArray false))))))).seq
  ((Code.region 7 [ixO 4 (.assign (.const (.int .i64 (-1)))) tI "slices.go:113" #[]].toArray false).seq .ret))
theorem Yi{P:Program}{T:Type}{e:T->List A}{el:T->A}{O z tf tI Y k:Nat}{Q m:FuncId}{fn:Func}{i:List A}{Hc:Qc}{L:List T}{g:T->Option Bool}{n:Nat}{r:Int}
  (hf:P.funcs[Q]?=some fn)(W:fn.body=some (Qpg O z tf tI Y))(X:fn.ntmps=19)(R:fn.results= #[.tmp 4])(V:∀w,(underlying O).run P w=.ok (.slice z) w)(hs:∀w,(sizeOf z).run P w=.ok k w)
  (N:∀(o:Oper) (env:Env) (H:Qc) (x:T),o.op=.load z (.tmp 14)->opA env (.tmp 14)=.rp (e x)->OpV P o env H (el x))
  (G:∀(a:Array Value) (w:World),(callFunc m a).run P w=.ok (.enter m a) w)
  (F:∀x b,g x=some b->C P m (el x::i) Hc (λa H=>a=.bool b/\H=Hc))
  (h:((iter (λs:Int=>bif decide (s<(L.length:Int))then(idx L s).bind λx=>(g x).bind λb=>(bif b then some (Ctl.done (Ctl.done s))else some (Ctl.cont (IntKind.i64.wrap (s+1))))else some (Ctl.done (Ctl.cont ()))) n (0:Int):Option (Ctl Unit Int)).bind λb=>match b with|.cont _=>some (-1)|.done s=>some s)=some r):
  C P Q [.rsl k (L.map e),.fn (.func m) [] i] Hc (λa H=>a=.int .i64 r/\H=Hc):=by
 refine Qb hf W X rfl ?_;refine Rg (S rfl (Nx (TC.seq (Rg (S rfl (LnM V rfl (S rfl (Nx (Bd h λM B h=>?_)))))))));refine Qhj (b:=M) (λ_=>[]) (λ_=>Hc) ?_ (λsb10 env H hbe hle=>?_)
 .refine TC.block ?_;refine TC.loop (E:=λu=>[(0,.rsl k (L.map e)),(1,.fn (.func m) [] i),(7,.int .i64 (L.length:Int)),(8,.int .i64 u)]) (Hp:=λ_=>Hc) B ?_ ?_
  .exact Lw ⟨rfl,rfl,rfl,rfl,trivial⟩
  intro u aa d l;refine Rg (S rfl (Nx (TC.seq (Jw rfl d (λq d=>?_) (λq d=>?_)))))
  .refine ExX (Qz d ?_);obtain rfl:=l _ (Oi d).symm;exact bloE (QJ rfl (Lw trivial))
  refine SkN (TC.seq (TC.block (Rg (S rfl (S rfl (Nx (Rg (S rfl (S rfl (S rfl (Bd d λj t d=>Ix t V hs rfl ?_)))))))))));refine QF (x:=el j) rfl rfl rfl (N _ _ _ j rfl rfl) ?_;refine Bd d λJ y d=>?_;refine Pw rfl (Qcd (f:=m) (x:=.tmp 11) (xs:=[.tmp 15]) (vf:=[]) (vc:=i) (args:=el j::i) G rfl rfl rfl rfl) (F j J y) rfl rfl rfl (XU _) ?_;refine Nx (Cn rfl d (λp d=>?_) (λp d=>?_))
  .refine Rg (S rfl (S rfl (Nx (TC.ret (bloR (seqR (Yu d ?_)))))));obtain rfl:=l _ (Oi d).symm;refine bloR (Q4 (seqR ?_));obtain rfl:=Oi h;exact R1 4 R (Lw ⟨rfl,trivial⟩)
  exact TC.skip (bloN (QlV (TC.region (S rfl (S rfl (WO.nil (Qw d (Lw ⟨rfl,rfl,rfl,rfl,trivial⟩))))))))
 subst hbe;refine QlV (TC.le hle (Rg (S rfl (Nx (TC.ret ?_)))));obtain rfl:=Oi h;exact R1 4 R (Lw ⟨rfl,trivial⟩)
end Go.Sw
namespace Go.Sw
inductive Kf where
 |seq (c:Code)
 |blo (id:Nat)
 |unr (c:Code)
inductive Cf where
 |code (c:Code)
 |ops (all:Array Oper) (l:List Oper)
 |out (x:AEx)
def kq(P:Program)(h0 N:Nat):List Kf->Qv->Qv
 |[],Q=>Q
 |.seq c::k,Q=>Seq P h0 N c (kq P h0 N k Q)
 |.blo id::k,Q=>Blo id (kq P h0 N k Q)
 |.unr c::k,Q=>QjE P h0 N c (kq P h0 N k Q)
@[reducible] def Hd(P:Program)(h0 N:Nat):Cf->List Kf->Env->Qc->Qv->Prop
 |.code c,k,env,H,Q=>TC P h0 N c env H (kq P h0 N k Q)
 |.ops all l,k,env,H,Q=>WO P h0 N all l env H (kq P h0 N k Q)
 |.out x,k,env,H,Q=>kq P h0 N k Q x env H
def QfQ(T:TyX)(h0 N:Nat):Cf->List Kf->Env->Qc->Option (Cf×List Kf×Env×Qc)
 |.code (.seq a b),k,env,H=>some (.code a,.seq b::k,env,H)
 |.code (.block id c),k,env,H=>some (.code c,.blo id::k,env,H)
 |.code (.loop c),k,env,H=>some (.code c,.unr c::k,env,H)
 |.code .skip,k,env,H=>some (.out .normal,k,env,H)
 |.code .ret,k,env,H=>some (.out .ret,k,env,H)
 |.code (.exit id),k,env,H=>some (.out (.exit id),k,env,H)
 |.code (.region id ⟨l⟩ false),k,env,H=>some (.ops ⟨l⟩ l,k,env,H)
 |.code (.cond x a b),k,env,H=>match opB env x with
  |.mk (.bool true)=>some (.code a,k,env,H)
  |.mk (.bool false)=>some (.code b,k,env,H)
  |_=>none
 |.ops all [],k,env,H=>some (.out .normal,k,env,H)
 |.ops all (o::l),k,env,H=>match stX T h0 N all o env H with
  |some (env',H')=>some (.ops all l,k,env',H')
  |none=>none
 |.out .normal,.seq c::k,env,H=>some (.code c,k,env,H)
 |.out (.exit i),.seq _::k,env,H=>some (.out (.exit i),k,env,H)
 |.out .ret,.seq _::k,env,H=>some (.out .ret,k,env,H)
 |.out .normal,.blo _::k,env,H=>some (.out .normal,k,env,H)
 |.out (.exit i),.blo id::k,env,H=>match Nat.beq i id with
  |true=>some (.out .normal,k,env,H)
  |false=>some (.out (.exit i),k,env,H)
 |.out .ret,.blo _::k,env,H=>some (.out .ret,k,env,H)
 |.out .normal,.unr c::k,env,H=>some (.code c,.unr c::k,env,H)
 |.out (.exit i),.unr _::k,env,H=>some (.out (.exit i),k,env,H)
 |.out .ret,.unr _::k,env,H=>some (.out .ret,k,env,H)
 |_,_,_,_=>none
def Qi7(T:TyX)(h0 N:Nat):Nat->Cf->List Kf->Env->Qc->Option (Cf×List Kf×Env×Qc)
 |0,c,k,env,H=>some (c,k,env,H)
 |n+1,c,k,env,H=>match QfQ T h0 N c k env H with
  |some (c',k',env',H')=>Qi7 T h0 N n c' k' env' H'
  |none=>none
section
variable {P:Program} {T:TyX} {h0 N:Nat} {Q:Qv}
theorem QlP(d:QbI P T){c a:Cf}{k b:List Kf}{env env':Env}{H H':Qc}(h:QfQ T h0 N c k env H=some (a,b,env',H'))(g:Hd P h0 N a b env' H' Q):Hd P h0 N c k env H Q:=by
 unfold QfQ at h;split at h
 .cases h;exact TC.seq g
 .cases h;exact TC.block g
 .cases h;exact Qll g
 .cases h;exact TC.skip g
 .cases h;exact TC.ret g
 .cases h;exact TC.exit g
 .cases h;exact TC.region g
 .split at h
  .rename_i q;cases h;exact QiB (Qx q) rfl g
  .rename_i q;cases h;exact QiC (Qx q) rfl g
  .cases h
 .cases h;exact WO.nil g
 .split at h
  .rename_i q;cases h;exact QiY d q g
  .cases h
 .cases h;exact QlV g
 .cases h;exact seqX g
 .cases h;exact seqR g
 .cases h;exact bloN g
 .split at h
  .rename_i q;cases h;have:=XR q;subst this;exact bloE g
  .rename_i q;cases h;exact bloX q g
 .cases h;exact bloR g
 .cases h;exact unrN g
 .cases h;exact unrX g
 .cases h;exact unrR g
 .cases h
theorem QcM(hT:QbI P T):∀(n:Nat) {c c':Cf} {k k':List Kf} {env env':Env} {H H':Qc},Qi7 T h0 N n c k env H=some (c',k',env',H')->Hd P h0 N c' k' env' H' Q->Hd P h0 N c k env H Q
 |0,c,c',k,k',env,env',H,H',h,g=>by cases h;exact g
 |n+1,c,c',k,k',env,env',H,H',h,g=>by
  unfold Qi7 at h;split at h
  .rename_i e;exact QlP hT e (QcM hT n h g)
  .cases h
theorem QjV{env:Env}{s:Nat}{a:A}(h:lk env s=a):∀t,lk (up env s a) t=lk env t:=by
 intro t;simp only[up,lk];cases q:Nat.beq t s with
 |true=>have:=XR q;subst this;exact h.symm
 |false=>rfl
theorem Is{α:Type}{all:Array Oper}{l:List Oper}{env:Env}{H:Qc}{b:Bool}{x y:Option α}{r:α}(s:Nat)(h:(bif b then x else y)=some r)(d:lkB env s=.mk (.bool b))
  (t:b=true->x=some r->WO P h0 N all l (up env s (.bool true)) H Q)(e:b=false->y=some r->WO P h0 N all l (up env s (.bool false)) H Q):WO P h0 N all l env H Q:=by
 have a:=Qjg d;cases b with
 |true=>exact WO.le (Le.env λt=>.inr (QjV a t)) (t rfl h)
 |false=>exact WO.le (Le.env λt=>.inr (QjV a t)) (e rfl h)
theorem Ct3E{S B1:Type}{A B C:Code}{env:Env}{H:Qc}{k:List Kf}{b:Ctl S B1}(Eb:S->Env)(Hb:S->Qc)(h:TC P h0 N A env H (kq P h0 N [.seq B] (QgB h0 b Eb Hb (kq P h0 N (.seq C::k) Q))))(g:∀s env H,b=.cont s->Le h0 env H (Eb s) (Hb s)->kq P h0 N (.seq C::k) Q .normal env H):TC P h0 N (.seq A (.seq B C)) env H (kq P h0 N k Q):=
 Qnb Eb Hb h g
end
def dstN(o:Oper)(i:Nat):Nat:=match o.dst with|some d=>d|none=>1000000+i
def Qbj:Nat->Nat->List Oper->List Nat
 |0,_,_=>[]
 |_+1,_,[]=>[]
 |m+1,i,o::l=>dstN o i::Qbj m (i+1) l
def Yn(af:List Nat):Nat->List Nat->List A->Env->Env
 |j,d::ds,x::xs,e=>(d,bif Qdt af j then x else .any)::Yn af (j+1) ds xs e
 |j,d::ds,[],e=>(d,.any)::Yn af (j+1) ds [] e
 |_,[],_,e=>e
theorem QfH{l:List Nat}{t:Nat}:Qdt l t=l.contains t:=by
 induction l with
 |nil=>rfl
 |cons a r d=>
  unfold Qdt;rw[List.contains_cons,d];cases q:Nat.beq a t with
  |true=>have:=XR q;subst this;simp
  |false=>
   have b:t≠a:=λz=>by subst z;rw[VF]at q;cases q
   simp[b]
theorem Qko{af:List Nat}{env0:Env}{s:Nat}:∀(a:List Nat) (xs i:List A) (b:Nat),
  (∃(j:Nat) (x:A),af.contains (b+j)=true/\a[j]?=some s/\(xs++i)[j]?=some x/\lk (Yn af b a xs env0) s=x)\/lk (Yn af b a xs env0) s=.any\/(a.contains s=false/\lk (Yn af b a xs env0) s=lk env0 s):=by
 intro a
 induction a with
 |nil=>intro xs i b;right;right;exact⟨rfl,by cases xs<;>rfl⟩
 |cons d a m=>
  intro xs i b;have next:∀(e:List A),(∃(j:Nat) (x:A),af.contains (b+1+j)=true/\a[j]?=some s/\(e++i)[j]?=some x/\lk (Yn af (b+1) a e env0) s=x)->∀n,(∃(j:Nat) (x:A),af.contains (b+j)=true/\(d::a)[j]?=some s/\(n::e++i)[j]?=some x/\lk (Yn af (b+1) a e env0) s=x):=by
   rintro e ⟨j,x,k,g,l,p⟩ n;exact⟨j+1,x,by rw[show b+(j+1)=b+1+j by omega];exact k,by simpa using g,by simpa using l,p⟩
  cases xs with
  |nil=>
   cases q:Nat.beq s d with
   |true=>right;left;simp only[Yn,lk,q,Vp]
   |false=>
    have f:s≠d:=λz=>by subst z;rw[VF]at q;cases q
    simp only[Yn,lk,q,Vq];rcases m [] [] (b+1)with⟨j,x,k,g,l,p⟩|h|⟨k,g⟩
    .simp at l
    .exact .inr (.inl h)
    .exact .inr (.inr ⟨by rw[List.contains_cons,k];simpa using f,g⟩)
  |cons x xs=>
   cases q:Nat.beq s d with
   |true=>
    have:=XR q;subst this;simp only[Yn,lk,q,Vp];cases c:Qdt af b with
    |true=>left;exact⟨0,x,by rw[<- QfH];exact c,rfl,rfl,rfl⟩
    |false=>right;left;rfl
   |false=>
    have f:s≠d:=λz=>by subst z;rw[VF]at q;cases q
    simp only[Yn,lk,q,Vq];rcases m xs i (b+1)with h|h|⟨k,g⟩
    .exact .inl (next xs h x)
    .exact .inr (.inl h)
    .exact .inr (.inr ⟨by rw[List.contains_cons,k];simpa using f,g⟩)
section
variable {P:Program} {T:TyX} {h0 N m:Nat} {l:List Oper} {ds:List Nat} {env:Env} {H:Qc} {Q:Qv} {K:List Oper->Env->Qc->Prop}
def DS(P:Program)(N m:Nat)(l:List Oper)(ds:List Nat)(env:Env)(H:Qc)(K:List Oper->Env->Qc->Prop)(r:List Oper)(xs:List A):Prop:=
 r=l.drop xs.length->∃ys,xs.length+ys.length=m/\(∀j,xs.length<=j->j<m->Ju P N l ds (xs++ys) env H.length H.length j H H)/\K (l.drop m) (QaB ds (xs++ys) env) H
theorem oqOf{xs:List A}:∀(c i:Nat),(∀j,i<=j->j<i+c->Ju P N l ds xs env H.length H.length j H H)->Oq P N l ds xs env H i c
 |0,i,_=>.n
 |c+1,i,h=>.c (h i (XU _) (by omega)) (oqOf c (i+1) λj h1 h2=>h j (by omega) (by omega))
theorem Qnw{id:Nat}{k:List Kf}(m:Nat)(i:P.follows .mixedOrders=true)(n:Go.Sw.draw0 l m N (Qbj m 0 l)=true)(a:Nat.ble h0 H.length=true)
  (h:DS P N m l (Qbj m 0 l) env H (λr e H=>WO P h0 N l.toArray r e H Q) l []):TC P h0 N (.region id l.toArray true) env H Q:=by
 obtain⟨g,d,b,f⟩:=h rfl;simp only[List.length_nil,Xw,Vh]at d b f;exact TC.draw0 m _ g i n (by rw[d];exact VF m) a (oqOf m 0 λj _ q=>b j (XV _) (by omega)) f
theorem DS.done{xs:List A}{r:List Oper}(b:Nat.beq xs.length m=true)(h:K r (QaB ds xs env) H):DS P N m l ds env H K r xs:=by
 intro a;have e:=XR b;subst a;refine⟨[],by simpa using e,λj f d=>by omega,?_⟩;rw[<- e,Vg];exact h
theorem DS.add{xs:List A}{o:Oper}{r:List Oper}{x:A}(n:Nat.blt xs.length m=true)(f:∀ys,l[xs.length]?=some o->Ju P N l ds (xs++x::ys) env H.length H.length xs.length H H)(k:DS P N m l ds env H K r (xs++[x])):DS P N m l ds env H K (o::r) xs:=by
 intro b;have a:xs.length<l.length:=by
  rcases VC xs.length l.length with q|q
  .exact q
  .rw[List.drop_eq_nil_of_le q]at b;cases b
 rw[Xr a]at b;cases b;obtain⟨ys,h,d,e⟩:=k (by simp);simp only[X3,X0,List.length_nil,Vi,VK,Vh]at h d e;refine⟨x::ys,by simp only[X0];omega,λj i g=>?_,e⟩;rcases VC xs.length j with q|q
 .exact d j (by omega) g
 .obtain rfl:j=xs.length:=by omega
  exact f ys (XL a)
theorem Qh0{xs a:List A}{x:A}:(xs++x::a)[xs.length]?=some x:=by simp
theorem DS.wo{xs:List A}{o:Oper}{r:List Oper}{x:A}{d:Nat}(h:WO P H.length N l.toArray [o] (Yn (Qg o) 0 ds xs env) H (YY (up (Yn (Qg o) 0 ds xs env) d x) H))(k:DS P N m l ds env H K r (xs++[x]))
  (n:o.dst=some d:=by exact rfl)(hx:Nat.blt xs.length m=true:=by exact rfl):DS P N m l ds env H K (o::r) xs:=
 .add hx (λi e=>.woE o _ d x e n Qh0 (he:=by
  intro s;rcases Qko (af:=Qg o) (env0:=env) (s:=s) ds xs (x::i) 0 with⟨j,y,a,g,f,b⟩|q|q
  .rw[Xw]at a;exact .inl ⟨j,y,a,g,f,b⟩
  .exact .inr (.inl q)
  .exact .inr (.inr q)) (hdd:=Qd1 H) (h:=h)) k
theorem DS.v{xs:List A}{o:Oper}{r:List Oper}{x:A}{d:Nat}(h:OpV P o (Yn (Qg o) 0 ds xs env) H x)(k:DS P N m l ds env H K r (xs++[x]))(hg:Qm l.toArray o (Yn (Qg o) 0 ds xs env) true:=by exact rfl)
  (hd:o.dst=some d:=by exact rfl)(hN:Nat.blt d N=true:=by exact rfl)(hx:Nat.blt xs.length m=true:=by exact rfl):DS P N m l ds env H K (o::r) xs:=
 .wo (QF hg hd hN h (WO.nil YY.mk)) k hd hx
def Qef:List A->A->FL
 |[],x=>.mk [x]
 |a::r,x=>match Qef r x with
  |.mk r'=>.mk (a::r')
theorem Qao:∀(l:List A) (x:A),Qef l x=.mk (l++[x])
 |[],x=>rfl
 |a::r,x=>by unfold Qef;rw[Qao r];rfl
def QhK(T:TyX)(N m:Nat)(l:List Oper)(ds:List Nat)(env:Env)(H:Qc):Nat->Nat->List Oper->List A->Option (List Oper×List A)
 |0,_,r,xs=>some (r,xs)
 |_+1,_,[],_=>none
 |n+1,i,o::r,xs=>match Nat.blt i m with
  |false=>none
  |true=>match o.dst with
   |none=>none
   |some d=>match Nat.blt d N with
    |false=>none
    |true=>match YR ⟨l⟩ o (Yn (Qg o) 0 ds xs env)with
     |none=>none
     |some false=>match Qef xs (.tup [])with
      |.mk xs'=>QhK T N m l ds env H n (i+1) r xs'
     |some true=>match Qex T o (Yn (Qg o) 0 ds xs env) H with
      |none=>none
      |some x=>match Qef xs x with
       |.mk xs'=>QhK T N m l ds env H n (i+1) r xs'
theorem QeG(hT:QbI P T):∀(n i:Nat) {r r':List Oper} {xs xs':List A},i=xs.length->QhK T N m l ds env H n i r xs=some (r',xs')->DS P N m l ds env H K r' xs'->DS P N m l ds env H K r xs
 |0,i,r,r',xs,xs',_,h,k=>by cases h;exact k
 |n+1,i,[],r',xs,xs',_,h,k=>by cases h
 |n+1,i,o::r,r',xs,xs',hi,h,k=>by
  subst hi;unfold QhK at h;split at h
  .cases h
  .rename_i q1;split at h
   .cases h
   .rename_i d hd;split at h
    .cases h
    .rename_i q2;split at h
     .cases h
     .rename_i hw;simp only[Qao]at h;exact .wo (WO.skip (QX hw) hd q2 (WO.nil YY.mk)) (QeG hT n _ (by simp) h k) hd q1
     .rename_i hw;split at h
      .cases h
      .rename_i x hv;simp only[Qao]at h;exact .v (Qbq hT hv) (QeG hT n _ (by simp) h k) (QX hw) hd q2 q1
def QlU:List A->Nat->A->FL
 |[],_,_=>.mk []
 |_::r,0,x=>.mk (x::r)
 |a::r,n+1,x=>match QlU r n x with
  |.mk r'=>.mk (a::r')
theorem Qdj:∀{l:List A} {n:Nat} {x:A},YQ l n=some x->QlU l n x=.mk l
 |[],n,x,h=>by cases h
 |a::r,0,x,h=>by cases h;rfl
 |a::r,n+1,x,h=>by unfold QlU;rw[Qdj (l:=r) (n:=n) h]
theorem DS.is{α:Type}{b:Bool}{x y:Option α}{v:α}{xs d g:List A}{r:List Oper}(j:Nat)(h:(bif b then x else y)=some v)(a:YQ xs j=some (.bool b))(f:QlU xs j (.bool true)=.mk d)(i:QlU xs j (.bool false)=.mk g)
  (t:b=true->x=some v->DS P N m l ds env H K r d)(e:b=false->y=some v->DS P N m l ds env H K r g):DS P N m l ds env H K r xs:=by
 cases b with
 |true=>rw[Qdj a]at f;cases f;exact t rfl h
 |false=>rw[Qdj a]at i;cases i;exact e rfl h
end
end Go.Sw
namespace Go.Sw
@[reducible] def RQ{β:Type}(w:β->A)(Hc:β->Qc)(r:β):A->Qc->Prop:=λa H=>a=w r/\H=Hc r
@[reducible] def Csm{β:Type}(P:Program)(f:FuncId)(args:List A)(H:Qc)(w:β->A)(r:β):Prop:=C P f args H (RQ w (λ_=>H) r)
structure TyZ where
 sl:List (Nat×Nat×Nat)
 fn:List Nat
structure Qc4 (P:Program) (Z:TyZ):Prop where
 sl:∀e∈Z.sl,(∀w,(underlying e.1).run P w=.ok (.slice e.2.1) w)/\ ∀w,(sizeOf e.2.1).run P w=.ok e.2.2 w
 fn:∀f∈Z.fn,∀(a:Array Value) (w:World),(callFunc f a).run P w=.ok (.enter f a) w
section
variable {P:Program} {Z:TyZ} {h0 N:Nat} {all:Array Oper} {o:Oper} {l:List Oper} {env:Env} {H:Qc} {Q:Qv} {d:Nat}
theorem Izz(j:Qc4 P Z){α:Type}{e:α->List A}{t et k:Nat}{L:List α}{m:IntKind}{i:Int}{v:α}(h:idx L i=some v)(q:ixB o env=some (d,t,k,L.map e,m,i))(g:WO P h0 N all l (up env d (.rp (e v))) H Q)
  (n:Qcg Z.sl t=some (et,k))(hg:YR all o env=some true)(b:Nat.blt d N=true):WO P h0 N all (o::l) env H Q:=by
 obtain⟨f,a⟩:=j.sl _ (QaC n);exact Ix h f a q g (QX hg) b
theorem Ize(a:Qc4 P Z){α:Type}{e:α->List A}{t et k:Nat}{L:List α}{j:IntKind}{i:Int}{v:α}{cs:List A}(h:idx L i=some v)(he:e v=cs)(q:ixB o env=some (d,t,k,L.map e,j,i))(g:WO P h0 N all l (up env d (.rp cs)) H Q)
  (b:Qcg Z.sl t=some (et,k))(hg:YR all o env=some true)(f:Nat.blt d N=true):WO P h0 N all (o::l) env H Q:=by
 subst he;exact Izz a h q g b hg f
theorem Lmz(h:Qc4 P Z){α:Type}{e:α->List A}{t et k b:Nat}{L:List α}(q:lnB o env=some (d,t,.mk (.rsl k (L.map e))))(g:WO P h0 N all l (up env d (.int .i64 L.length)) H Q)
  (i:Qcg Z.sl t=some (et,b))(hg:YR all o env=some true)(a:Nat.blt d N=true):WO P h0 N all (o::l) env H Q:=by
 obtain⟨f,j⟩:=h.sl _ (QaC i);exact LnM f q g (QX hg) a
def QfL(Z:TyZ)(o:Oper)(env:Env):Option (Nat×Nat×List A):=
 match o.dst with
 |none=>none
 |some d=>match o.op with
  |.call {callee:=.value (.func f),args:=⟨xs⟩,argTypes:=_}=>bif Qdt Z.fn f then(match fl (QhT env xs)with|.mk ax=>some (d,f,ax))else none
  |.call {callee:=.value (.tmp x),args:=⟨xs⟩,argTypes:=_}=>match opB env (.tmp x)with
   |.mk (.fn (.func f) vf vc)=>bif Qdt Z.fn f then(match fl (vf++(QhT env xs++vc))with|.mk ax=>some (d,f,ax))else none
   |_=>none
  |_=>none
theorem Qep(e:Qc4 P Z){f:Nat}{args:List A}(h:QfL Z o env=some (d,f,args)):o.dst=some d/\OpC P o env H f args:=by
 unfold QfL at h;split at h
 .cases h
 .rename_i l g;split at h
  .rename_i b xs i a;cases q:Qdt Z.fn b with
   |false=>rw[q]at h;cases h
   |true=>
    rw[q]at h;simp only[Qco,Vp]at h;cases h;exact⟨g,OpC.fn (xs:=xs) (e.fn _ (QgU q)) a rfl (QcR xs).symm⟩
  .rename_i x xs i a;split at h
   .rename_i b k m j;cases q:Qdt Z.fn b with
    |false=>rw[q]at h;cases h
    |true=>
     rw[q]at h;simp only[Qco,Vp]at h;cases h;exact⟨g,Qcd (xs:=xs) (e.fn _ (QgU q)) a rfl (Qx j) (by rw[QcR])⟩
   .cases h
  .cases h
theorem Czz(s:Qc4 P Z){β γ:Type}{F:Option β}{F':β->Option γ}{r:γ}{f:Nat}{args a:List A}{Hc:Qc}{w:β->A}(π:List Nat)(h:F.bind F'=some r)(m:∀v,F=some v->C P f a Hc (RQ w (λ_=>Hc) v))
  (b:QfL Z o env=some (d,f,args))(g:∀v,F=some v->F' v=some r->WO P h0 N all l (up env d (w v)) H Q)(t:∀v,Qi4 (w v)=some (.mk (w v)))
  (hargs:args=Qaa (rho π H.length) a)(hH:π.map (λp=>H[p]?)=(Hc.map (QT (rho π H.length))).map some)(hπ:π.Nodup)(hg:YR all o env=some true)(k:Nat.blt d N=true)(j:Nat.ble h0 H.length=true):WO P h0 N all (o::l) env H Q:=by
 obtain⟨v,e,i⟩:=bnd h;obtain⟨n,q⟩:=Qep (H:=H) s b;exact Pc π n q (m v e) (t v) (g v e i) hargs hH hπ (QX hg) k j
theorem DzZ(n:Qc4 P Z){K:List Oper->Env->Qc->Prop}{m:Nat}{e:List Oper}{b:List Nat}{xs:List A}{β γ:Type}{F:Option β}{F':β->Option γ}{r:γ}{f:Nat}{args a:List A}{Hc:Qc}{w:β->A}(π:List Nat)(h:F.bind F'=some r)(t:∀v,F=some v->C P f a Hc (RQ w (λ_=>Hc) v))
  (i:QfL Z o (Yn (Qg o) 0 b xs env)=some (d,f,args))(g:∀v,F=some v->F' v=some r->DS P N m e b env H K l (xs++[w v]))(y:∀v,Qi4 (w v)=some (.mk (w v)))
  (hargs:args=Qaa (rho π H.length) a)(hH:π.map (λp=>H[p]?)=(Hc.map (QT (rho π H.length))).map some)(hπ:π.Nodup)(hg:YR e.toArray o (Yn (Qg o) 0 b xs env)=some true)(s:Nat.blt d N=true)(x:Nat.blt xs.length m=true):DS P N m e b env H K (o::l) xs:=by
 obtain⟨v,k,q⟩:=bnd h;obtain⟨j,u⟩:=Qep (H:=H) n i;exact .wo (Pc π j u (t v k) (y v) (WO.nil YY.mk) hargs hH hπ (QX hg) s (XT (XU _))) (g v k q) j x
theorem ln:Qbo H [] []:=trivial
theorem ls{ax b:List A}{a:A}(k:Qbo H ax b)(h:Yk a=true:=by exact rfl):Qbo H (a::ax) (a::b):=⟨.inl ⟨rfl,h⟩,k⟩
theorem lo{ax a:List A}{i n k t:Nat}{es:List (List A)}(b:Qbo H ax a)(hH:H[i]?=some (.row t k es):=by exact rfl)(hn:es.length=n:=by exact X2 ..):Qbo H (.osl i 0 n k::ax) (.rsl k es::a):=
 ⟨.inr ⟨_,_,_,_,_,rfl,hH,hn,rfl⟩,b⟩
theorem Cbz(q:Qc4 P Z){β γ:Type}{F:Option β}{F':β->Option γ}{r:γ}{f:Nat}{args a:List A}{w:β->A}(h:F.bind F'=some r)(m:∀v,F=some v->C P f a [] (RQ w (λ_=>[]) v))
  (b:QfL Z o env=some (d,f,args))(j:Qbo H args a)(g:∀v,F=some v->F' v=some r->WO P h0 N all l (up env d (w v)) H Q)(s:∀v,Yj (w v)=true)
  (hg:YR all o env=some true)(k:Nat.blt d N=true):WO P h0 N all (o::l) env H Q:=by
 obtain⟨v,e,i⟩:=bnd h;obtain⟨n,p⟩:=Qep (H:=H) q b;refine Qm4 p j (m v e) ?_ ?_ (QX hg) n k
 .rintro _ _ ⟨rfl,rfl⟩;exact s v
 .rintro _ _ ⟨rfl,rfl⟩;exact g v e i
end
def ixL:List Nat:=[0,1,2,3,4,5,6,7,8,9,10,11,12,13,14,15,16,17,18,19,20,21,22,23,24,25,26,27,28,29,30,31,32,33,34,35,36,37,38,39,40,41,42,43,44,45,46,47,48,49,50,51,52,53,54,55,56,57,58,59,60,61,62,63]
def QkP:List Nat->List Nat->Nat->FN
 |a::r,b::s,j=>bif Nat.beq a j then .mk b else QkP r s j
 |_,_,j=>.mk j
mutual
def cpA(sel:List Nat):A->Bx
 |.ptr i off=>match QkP sel ixL i with
  |.mk j=>.mk (.ptr j off)
 |.osl i o n k=>match QkP sel ixL i with
  |.mk j=>.mk (.osl j o n k)
 |.map i=>match QkP sel ixL i with
  |.mk j=>.mk (.map j)
 |.fn f a c=>match cpL sel a,cpL sel c with
  |.mk a',.mk c'=>.mk (.fn f a' c')
 |a=>.mk a
def cpL(sel:List Nat):List A->FL
 |[]=>.mk []
 |a::r=>match cpA sel a,cpL sel r with
  |.mk a',.mk r'=>.mk (a'::r')
end
inductive FV where
 |mk (e:Env)
def Qmp(sel:List Nat)(env:Env):List Nat->Env->FV
 |[],nE=>.mk nE
 |s::r,nE=>match lkB env s with
  |.mk a=>match cpA sel a,Qmp sel env r nE with
   |.mk a',.mk e=>.mk ((s,a')::e)
def selH(H:Qc):List Nat->List Nat->List (Nat×Blk)->FB
 |a::r,p::ps,[]=>match YQ H a,selH H r ps []with
  |some b,.mk l=>.mk (b::l)
  |none,.mk l=>.mk l
 |a::r,p::ps,(q,b)::n=>bif Nat.beq p q then(match selH H r ps n with|.mk l=>.mk (b::l))else(match YQ H a,selH H r ps ((q,b)::n)with
  |some b,.mk l=>.mk (b::l)
  |none,.mk l=>.mk l)
 |_,_,_=>.mk []
def QmU(sel keep:List Nat)(nE:Env)(nH:List (Nat×Blk))(env:Env)(H:Qc):Option (Env×Qc):=
 match Qmp sel env keep nE,selH H sel ixL nH with
 |.mk e,.mk h=>some (e,h)
section
variable {P:Program} {h0 N:Nat} {c:Code} {env:Env} {H:Qc} {Q:Qv}
def CutQ{β:Type}(h0:Nat)(b:β)(E':β->Env)(H':β->Qc)(Q:Qv):Qv
 |.normal,env,H=>Le h0 env H (E' b) (H' b)
 |.exit id,env,H=>Q (.exit id) env H
 |.ret,env,H=>Q .ret env H
theorem QP{h0:Nat}{env:Env}{H:Qc}{Q:Qv}{β:Type}{b:β}{E':β->Env}{H':β->Qc}(h:Le h0 env H (E' b) (H' b)):CutQ h0 b E' H' Q .normal env H:=h
theorem Ct{β:Type}{E':β->Env}{H':β->Qc}(b:β)(sel keep:List Nat)(nE:β->Env)(nH:β->List (Nat×Blk))(_:∀b,QmU sel keep (nE b) (nH b) env H=some (E' b,H' b))(h:TC P h0 N c env H (CutQ h0 b E' H' Q))(k:∀env H,Le h0 env H (E' b) (H' b)->Q .normal env H):TC P h0 N c env H Q:=
 h.mono λx env' H' q=>by
  cases x with
  |normal=>exact k _ _ q
  |exit id=>exact q
  |ret=>exact q
theorem CtE{S B:Type}{b:Ctl S B}{E':S->Env}{H':S->Qc}(sel keep:List Nat)(nE:S->Env)(nH:S->List (Nat×Blk))(_:∀s,QmU sel keep (nE s) (nH s) env H=some (E' s,H' s))(h:TC P h0 N c env H (QgB h0 b E' H' Q))(k:∀s env H,b=.cont s->Le h0 env H (E' s) (H' s)->Q .normal env H):TC P h0 N c env H Q:=Qhj E' H' h k
theorem Lp{S B:Type}{step:S->Option (Ctl S B)}{E':S->Env}{H':S->Qc}{m:Nat}{s0:S}{b0:B}(sel keep:List Nat)(nE:S->Env)(nH:S->List (Nat×Blk))(h:iter step m s0=some b0)(_:∀s,QmU sel keep (nE s) (nH s) env H=some (E' s,H' s))(hI:Le h0 env H (E' s0) (H' s0))
  (body:∀s d,step s=some d->(∀b,d=.done b->b=b0)->TC P h0 N c (E' s) (H' s) (Qbn (λs env H=>Le h0 env H (E' s) (H' s)) d Q)):TC P h0 N (.loop c) env H Q:=TC.loop E' H' h hI body
end
theorem Oj{S B:Type}{d:Ctl S B}{x b0:B}(hb:∀b,d=.done b->b=b0)(h:some (Ctl.done x)=some d):x=b0:=hb x (Oi h).symm
theorem Rt{P:Program}{h0:Nat}{fn:Func}{env:Env}{H:Qc}{β:Type}{e r:β}{w:β->A}{Hc:β->Qc}(h:some e=some r)(s:Nat)(π:List Nat)(a:fn.results= #[.tmp s]:=by exact rfl)(hpre:π.take h0=List.range h0:=by exact rfl)
  (hH:π.map (λp=>H[p]?)=((Hc e).map (QT (rho π H.length))).map some:=by exact rfl)(hπ:π.Nodup:=by decide)(hE:Qd7 (rho π H.length) env [(s,w e)]:=by exact⟨rfl,trivial⟩):Qc8 P h0 fn (RQ w Hc r) .ret env H:=by
 cases h;exact R1 s a (Lr π hpre hH hπ hE)
theorem Cl{h0:Nat}{env:Env}{H:Qc}{Q:Qv}{β:Type}{e b:β}{E':β->Env}{H':β->Qc}(h:some e=some b)(π:List Nat)(a:π.take h0=List.range h0:=by exact rfl)
  (hH:π.map (λp=>H[p]?)=((H' e).map (QT (rho π H.length))).map some:=by exact rfl)(hπ:π.Nodup:=by decide)(hE:Qd7 (rho π H.length) env (E' e):=by(repeat' (first|exact trivial|refine⟨rfl,?_⟩))):CutQ h0 b E' H' Q .normal env H:=by
 cases h;exact Lr π a hH hπ hE
end Go.Sw
namespace Go.Sw
def plC(cat:List Nat):List (List (Nat×Nat)):=cat.map λc=>match c with|0=>[(0,0)]|1=>[(0,1)]|2=>[(1,1)]|_=>[(0,0),(1,1)]
def rqC(b:Nat)(cat:List Nat):List (List Nat):=cat.map λc=>match c with|2=>[b]|_=>[]
def hsC(cat:List Nat):List Bool:=cat.map λc=>match c with|1=>true|_=>false
section
variable {P:Program} {T:TyX} {h0 N m b:Nat} {cat:List Nat} {l:List Oper} {ds:List Nat} {env:Env} {H H1:Qc} {Q:Qv} {K:List Oper->Env->Qc->Prop}
theorem Qho{P:Program}{N:Nat}{l:List Oper}{ds:List Nat}{xs:List A}{env0:Env}{hB hE:Nat}:∀(ss:List (List (Qc×Qc))) (b:Nat),(∀i s,ss[i]?=some s->∀p∈s,Ju P N l ds xs env0 hB hE (b+i) p.1 p.2)->Qhp P N l ds xs env0 hB hE b ss
 |[],b,h=>.nil
 |s::ss,b,h=>.cons (h 0 s rfl) (Qho ss (b+1) λi s' hs=>by rw[show b+1+i=b+(i+1)by omega];exact h (i+1) s' hs)
def Dob(P:Program)(N:Nat)(cat:List Nat)(l:List Oper)(ds:List Nat)(env:Env)(H H1:Qc)(zs:List A)(j:Nat):Prop:=
 ∀p∈(plC cat).getD j [],Ju P N l ds zs env H.length H.length j ([H,H1].getD p.1 []) ([H,H1].getD p.2 [])
def DB(P:Program)(N m:Nat)(cat:List Nat)(l:List Oper)(ds:List Nat)(env:Env)(H H1:Qc)(K:List Oper->Env->Qc->Prop)(r:List Oper)(xs:List A):Prop:=
 r=l.drop xs.length->∃ys,xs.length+ys.length=m/\(∀j,xs.length<=j->j<m->Dob P N cat l ds env H H1 (xs++ys) j)/\K (l.drop m) (QaB ds (xs++ys) env) H1
def DA(P:Program)(N m:Nat)(cat:List Nat)(l:List Oper)(ds:List Nat)(env:Env)(H:Qc)(K:List Oper->Env->Qc->Prop)(r:List Oper)(xs:List A):Prop:=
 r=l.drop xs.length->∃ys H1,xs.length+ys.length=m/\H.length<=H1.length/\(∀j,xs.length<=j->j<m->Dob P N cat l ds env H H1 (xs++ys) j)/\K (l.drop m) (QaB ds (xs++ys) env) H1
theorem QpB{f:List A}(b:cat.length=m)(n:∀j,0<=j->j<m->Dob P N cat l ds env H H1 f j):Qhp P N l ds f env H.length (H.length+0) 0 ((plC cat).map λq=>q.map λp=>([H,H1].getD p.1 [],[H,H1].getD p.2 [])):=by
 refine Qho _ 0 λi s a p g=>?_;rw[Xq]at a;cases e:(plC cat)[i]? with
 |none=>rw[e]at a;cases a
 |some q=>
  rw[e]at a;cases a;obtain⟨k,d,rfl⟩:=Xf.1 g;have h:i<m:=by
   have:=(XM.1 e).1;simpa[plC,b]using this
  have:=n i (XV _) h k (by rw[Qki e];exact d);simpa using this
theorem DA.len(a:H.length<=H1.length):[H,H1].all (λX=>Nat.ble (H.length+0) X.length)=true:=by
 simp only[List.all_cons,List.all_nil,Bool.and_true,Xx,XX];exact⟨XT (XU _),XT a⟩
theorem Qnz{id:Nat}(m b:Nat)(cat:List Nat)(p:P.follows .mixedOrders=true)(q:Qd0 l m N (Qbj m 0 l) (hsC cat) (rqC b cat) [[],[b]] (plC cat)=true)(f:Nat.beq cat.length m=true)(d:Nat.ble h0 H.length=true)
  (h:DA P N m cat l (Qbj m 0 l) env H (λr e H=>WO P h0 N l.toArray r e H Q) l []):TC P h0 N (.region id l.toArray true) env H Q:=by
 obtain⟨n,H1,i,k,j,g⟩:=h rfl;simp only[List.length_nil,Xw,Vh]at i j g;have a:=XR f;exact Qbm m 0 _ _ _ _ _ n [H,H1] H1 p q (by rw[i];exact VF m) rfl d (DA.len k) (by simp) rfl (QpB a j) (by simp[plC,a]) g
theorem Qbk{xs:List A}{o:Oper}{r:List Oper}(b:o::r=l.drop xs.length):l[xs.length]?=some o/\r=l.drop (xs.length+1):=by
 have a:xs.length<l.length:=by
  rcases VC xs.length l.length with q|q
  .exact q
  .rw[List.drop_eq_nil_of_le q]at b;cases b
 rw[Xr a]at b;cases b;exact⟨XL a,rfl⟩
theorem Qhu{zs:List A}{j c:Nat}(b:YQ cat j=some c)(h:∀p∈(match c with|0=>[(0,0)]|1=>[(0,1)]|2=>[(1,1)]|_=>[(0,0),(1,1)]:List (Nat×Nat)),Ju P N l ds zs env H.length H.length j ([H,H1].getD p.1 []) ([H,H1].getD p.2 [])):Dob P N cat l ds env H H1 zs j:=by
 intro p a;rw[QaG]at b;unfold plC at a;rw[VL,Xq,b]at a;exact h p a
theorem QaF{hB hE:Nat}{xs a:List A}{o:Oper}{x:A}{d:Nat}{X X':Qc}(k:l[xs.length]?=some o)(hdd:Qaz hB hE X X'=true)(h:WO P X.length N l.toArray [o] (Yn (Qg o) 0 ds xs env) X (YY (up (Yn (Qg o) 0 ds xs env) d x) X'))(i:o.dst=some d):
  Ju P N l ds (xs++x::a) env hB hE xs.length X X':=
 .woE o _ d x k i Qh0 (he:=by
  intro s;rcases Qko (af:=Qg o) (env0:=env) (s:=s) ds xs (x::a) 0 with⟨j,y,b,f,e,g⟩|q|q
  .rw[Xw]at b;exact .inl ⟨j,y,b,f,e,g⟩
  .exact .inr (.inl q)
  .exact .inr (.inr q)) (hdd:=hdd) (h:=h)
theorem Y1{n:Nat}{X X':Qc}:Qaz n n X X'=true:=by unfold Qaz;rw[Nat.sub_self];rfl
theorem DA.wo{xs:List A}{o:Oper}{r:List Oper}{x:A}{d:Nat}(h:WO P H.length N l.toArray [o] (Yn (Qg o) 0 ds xs env) H (YY (up (Yn (Qg o) 0 ds xs env) d x) H))(k:DA P N m cat l ds env H K r (xs++[x]))
  (w:YQ cat xs.length=some 0:=by exact rfl)(hd:o.dst=some d:=by exact rfl)(hx:Nat.blt xs.length m=true:=by exact rfl):DA P N m cat l ds env H K (o::r) xs:=by
 intro g;obtain⟨n,a⟩:=Qbk g;obtain⟨t,H1,u,f,e,b⟩:=k (by simpa using a);simp only[X3,X0,List.length_nil,Vi,VK,Vh]at u e b;refine⟨x::t,H1,by simp only[X0];omega,f,λj y s=>?_,b⟩;rcases VC xs.length j with q|q
 .exact e j (by omega) s
 .obtain rfl:j=xs.length:=by omega
  refine Qhu w λp i=>?_;obtain rfl:=VB.1 i;exact QaF n Y1 h hd
theorem DA.op{xs:List A}{o:Oper}{r:List Oper}{x:A}{d:Nat}(h:WO P H.length N l.toArray [o] (Yn (Qg o) 0 ds xs env) H (YY (up (Yn (Qg o) 0 ds xs env) d x) H1))(k:DB P N m cat l ds env H H1 K r (xs++[x]))(hl:Nat.ble H.length H1.length=true:=by exact rfl)
  (hc:YQ cat xs.length=some 1:=by exact rfl)(hd:o.dst=some d:=by exact rfl)(hx:Nat.blt xs.length m=true:=by exact rfl):DA P N m cat l ds env H K (o::r) xs:=by
 intro f;obtain⟨i,a⟩:=Qbk f;obtain⟨s,t,e,b⟩:=k (by simpa using a);simp only[X3,X0,List.length_nil,Vi,VK,Vh]at t e b;refine⟨x::s,H1,by simp only[X0];omega,XS hl,λj u n=>?_,b⟩;rcases VC xs.length j with q|q
 .exact e j (by omega) n
 .obtain rfl:j=xs.length:=by omega
  refine Qhu hc λp g=>?_;obtain rfl:=VB.1 g;exact QaF i Y1 h hd
theorem Qb3{xs:List A}{o:Oper}{r:List Oper}{x x':A}{d:Nat}{H1':Qc}(h:OpH P o (Yn (Qg o) 0 ds xs env) H x H1)(b:foA x=.mk x')(a:foH H1=.mk H1')(k:DB P N m cat l ds env H H1' K r (xs++[x']))(e:o.dst=some d:=by exact rfl)(hg:YR ⟨l⟩ o (Yn (Qg o) 0 ds xs env)=some true:=by exact rfl)(hN:Nat.blt d N=true:=by exact rfl)(hl:Nat.ble H.length H1'.length=true:=by exact rfl)
  (hc:YQ cat xs.length=some 1:=by exact rfl)(hx:Nat.blt xs.length m=true:=by exact rfl):DA P N m cat l ds env H K (o::r) xs:=by
 rw[Qg4]at b;rw[Qjl]at a;cases b;cases a;exact .op (YV (XU _) (QX hg) e hN h (WO.nil YY.mk)) k hl hc e hx
theorem DB.done{xs:List A}{r:List Oper}(b:Nat.beq xs.length m=true)(h:K r (QaB ds xs env) H1):DB P N m cat l ds env H H1 K r xs:=by
 intro a;have e:=XR b;subst a;refine⟨[],by simpa using e,λj f d=>by omega,?_⟩;rw[<- e,Vg];exact h
theorem DB.add{xs:List A}{o:Oper}{r:List Oper}{x:A}(e:∀ys,l[xs.length]?=some o->Dob P N cat l ds env H H1 (xs++x::ys) xs.length)(k:DB P N m cat l ds env H H1 K r (xs++[x])):DB P N m cat l ds env H H1 K (o::r) xs:=by
 intro f;obtain⟨g,a⟩:=Qbk f;obtain⟨ys,i,d,b⟩:=k (by simpa using a);simp only[X3,X0,List.length_nil,Vi,VK,Vh]at i d b;refine⟨x::ys,by simp only[X0];omega,λj n h=>?_,b⟩;rcases VC xs.length j with q|q
 .exact d j (by omega) h
 .obtain rfl:j=xs.length:=by omega
  exact e ys g
theorem DB.wo1{xs:List A}{o:Oper}{r:List Oper}{x:A}{d:Nat}(h:WO P H1.length N l.toArray [o] (Yn (Qg o) 0 ds xs env) H1 (YY (up (Yn (Qg o) 0 ds xs env) d x) H1))(k:DB P N m cat l ds env H H1 K r (xs++[x]))
  (a:YQ cat xs.length=some 2:=by exact rfl)(hd:o.dst=some d:=by exact rfl):DB P N m cat l ds env H H1 K (o::r) xs:=
 .add (λf e=>Qhu a λp b=>by
  obtain rfl:=VB.1 b;exact QaF e Y1 h hd) k
theorem DB.wo2{xs:List A}{o:Oper}{r:List Oper}{x:A}{d:Nat}(h:WO P H.length N l.toArray [o] (Yn (Qg o) 0 ds xs env) H (YY (up (Yn (Qg o) 0 ds xs env) d x) H))(f:WO P H1.length N l.toArray [o] (Yn (Qg o) 0 ds xs env) H1 (YY (up (Yn (Qg o) 0 ds xs env) d x) H1))(k:DB P N m cat l ds env H H1 K r (xs++[x]))
  (e:YQ cat xs.length=some 3:=by exact rfl)(hd:o.dst=some d:=by exact rfl):DB P N m cat l ds env H H1 K (o::r) xs:=
 .add (λg b=>Qhu e λp a=>by
  rcases X6.1 a with rfl|a
  .exact QaF b Y1 h hd
  .obtain rfl:=VB.1 a;exact QaF b Y1 f hd) k
def QhL(T:TyX)(N m:Nat)(cat:List Nat)(l:List Oper)(ds:List Nat)(env:Env)(H:Qc):Nat->Nat->List Oper->List A->Option (List Oper×List A)
 |0,_,r,xs=>some (r,xs)
 |_+1,_,[],_=>none
 |n+1,i,o::r,xs=>match Nat.blt i m,YQ cat i with
  |true,some 0=>match o.dst with
   |none=>none
   |some d=>match Nat.blt d N with
    |false=>none
    |true=>match YR ⟨l⟩ o (Yn (Qg o) 0 ds xs env)with
     |none=>none
     |some false=>match Qef xs (.tup [])with
      |.mk xs'=>QhL T N m cat l ds env H n (i+1) r xs'
     |some true=>match Qex T o (Yn (Qg o) 0 ds xs env) H with
      |none=>none
      |some x=>match Qef xs x with
       |.mk xs'=>QhL T N m cat l ds env H n (i+1) r xs'
  |_,_=>none
theorem QeI(hT:QbI P T):∀(n i:Nat) {r r':List Oper} {xs xs':List A},i=xs.length->QhL T N m cat l ds env H n i r xs=some (r',xs')->DA P N m cat l ds env H K r' xs'->DA P N m cat l ds env H K r xs
 |0,i,r,r',xs,xs',_,h,k=>by cases h;exact k
 |n+1,i,[],r',xs,xs',_,h,k=>by cases h
 |n+1,i,o::r,r',xs,xs',hi,h,k=>by
  subst hi;unfold QhL at h;split at h
  .rename_i q1 q0;split at h
   .cases h
   .rename_i d hd;split at h
    .cases h
    .rename_i q2;split at h
     .cases h
     .rename_i hw;simp only[Qao]at h;exact .wo (WO.skip (QX hw) hd q2 (WO.nil YY.mk)) (QeI hT n _ (by simp) h k) q0 hd q1
     .rename_i hw;split at h
      .cases h
      .rename_i x hv;simp only[Qao]at h;exact .wo (QF (QX hw) hd q2 (Qbq hT hv) (WO.nil YY.mk)) (QeI hT n _ (by simp) h k) q0 hd q1
  .cases h
theorem QnI{H:Qc}{p:Bx}{r:Lx}(h:ptX [] p=some r):ptX H p=some r:=by
 unfold ptX at h⊢;split at h
 .exact h
 .rename_i i a;simp only[YQ]at h;cases h
 .cases h
theorem QhA{o:Oper}{e:Env}{H:Qc}{x:A}(h:Qex T o e []=some x):Qex T o e H=some x:=by
 unfold Qex at h⊢;split at h<;>first|exact h|skip
 rename_i t y g;split at h
 .cases h
 .rename_i b n f;split at h
  .exact h
  .rename_i d;cases q:ptX [] (opB e y)with
   |none=>rw[q]at h;cases h
   |some r=>
    rw[q]at h;have a:=QnI (H:=H) q;simp only[a];exact h
def QeH(T:TyX)(N:Nat)(cat:List Nat)(l:List Oper)(ds:List Nat)(env:Env)(H1:Qc):Nat->Nat->List Oper->List A->Option (List Oper×List A)
 |0,_,r,xs=>some (r,xs)
 |_+1,_,[],_=>none
 |n+1,i,o::r,xs=>match o.dst with
  |none=>none
  |some d=>match Nat.blt d N with
   |false=>none
   |true=>match YR ⟨l⟩ o (Yn (Qg o) 0 ds xs env)with
    |none=>none
    |some false=>match YQ cat i with
     |some 2=>(match Qef xs (.tup [])with
      |.mk xs'=>QeH T N cat l ds env H1 n (i+1) r xs')
     |some 3=>(match Qef xs (.tup [])with
      |.mk xs'=>QeH T N cat l ds env H1 n (i+1) r xs')
     |_=>none
    |some true=>match YQ cat i with
     |some 2=>(match Qex T o (Yn (Qg o) 0 ds xs env) H1 with
      |none=>none
      |some x=>match Qef xs x with
       |.mk xs'=>QeH T N cat l ds env H1 n (i+1) r xs')
     |some 3=>(match Qex T o (Yn (Qg o) 0 ds xs env) []with
      |none=>none
      |some x=>match Qef xs x with
       |.mk xs'=>QeH T N cat l ds env H1 n (i+1) r xs')
     |_=>none
theorem QbQ(hT:QbI P T):∀(n i:Nat) {r r':List Oper} {xs xs':List A},i=xs.length->QeH T N cat l ds env H1 n i r xs=some (r',xs')->DB P N m cat l ds env H H1 K r' xs'->DB P N m cat l ds env H H1 K r xs
 |0,i,r,r',xs,xs',_,h,k=>by cases h;exact k
 |n+1,i,[],r',xs,xs',_,h,k=>by cases h
 |n+1,i,o::r,r',xs,xs',hi,h,k=>by
  subst hi;unfold QeH at h;split at h
  .cases h
  .rename_i d hd;split at h
   .cases h
   .rename_i q2;split at h
    .cases h
    .rename_i hw;split at h
     .rename_i q0;simp only[Qao]at h;exact .wo1 (WO.skip (QX hw) hd q2 (WO.nil YY.mk)) (QbQ hT n _ (by simp) h k) q0 hd
     .rename_i q0;simp only[Qao]at h;exact .wo2 (WO.skip (QX hw) hd q2 (WO.nil YY.mk)) (WO.skip (QX hw) hd q2 (WO.nil YY.mk)) (QbQ hT n _ (by simp) h k) q0 hd
     .cases h
    .rename_i hw;split at h
     .rename_i q0;split at h
      .cases h
      .rename_i x hv;simp only[Qao]at h;exact .wo1 (QF (QX hw) hd q2 (Qbq hT hv) (WO.nil YY.mk)) (QbQ hT n _ (by simp) h k) q0 hd
     .rename_i q0;split at h
      .cases h
      .rename_i x hv;simp only[Qao]at h;exact .wo2 (QF (QX hw) hd q2 (Qbq hT (QhA hv)) (WO.nil YY.mk)) (QF (QX hw) hd q2 (Qbq hT (QhA hv)) (WO.nil YY.mk)) (QbQ hT n _ (by simp) h k) q0 hd
     .cases h
end
end Go.Sw
namespace Go.Sw
def chkF(L:List (Nat×List (Nat×Nat)))(fs:List (Nat×Nat×Nat)):Bool:=
 fs.all λe=>match Qcg L e.1 with
  |some pl=>(match YQ pl e.2.1 with
   |some q=>Nat.beq q.1 e.2.2&& !(Nat.beq q.2 0)
   |none=>false)
  |none=>false
theorem PL.get{P:Program}{fs:List Field}{b:List (Nat×Nat)}(h:PL P fs b):∀{f off n:Nat},YQ b f=some (off,n)->∃fd,fs[f]?=some fd/\fd.offset=off/\ ∀w,(sizeOf fd.type).run P w=.ok n w:=by
 induction h with
 |nil=>intro f off n h;cases h
 |cons h k e=>
  intro f off n a;cases f with
  |zero=>cases a;exact⟨_,rfl,rfl,h⟩
  |succ f=>obtain⟨fd,g,d⟩:=e (show YQ _ f=_ from a);exact⟨fd,by simpa using g,d⟩
theorem Qpk{P:Program}{L:List (Nat×List (Nat×Nat))}{fs:List (Nat×Nat×Nat)}(g:∀e∈L,QE P e.1 e.2)(h:chkF L fs=true):∀e∈fs,∃n,QW P e.1 e.2.1 e.2.2 n:=by
 intro e f;have:=Xt.1 h e f;split at this
 .rename_i t b;split at this
  .rename_i q m;obtain⟨s,n⟩:=q;simp only[XX,Bool.not_eq_true']at this;have l:=XR this.1;obtain⟨j,p,a⟩:=g _ (QaC b);obtain⟨d,i,r,k⟩:=PL.get a m;refine⟨n,⟨⟨_,d,p,by simpa using i,r.trans l,k,?_⟩⟩⟩;intro z;have a:=this.2;rw[z,VF]at a;cases a
  .cases this
 .cases this
section
variable {P:Program} {Z:TyZ} {h0 N:Nat} {all:Array Oper} {o:Oper} {l:List Oper} {env:Env} {H:Qc} {Q:Qv} {d:Nat}
theorem Cdz(s:Qc4 P Z){β γ:Type}{F:Option β}{F':β->Option γ}{r:γ}{f:Nat}{args a:List A}{Hc:Qc}{w:β->A}{Hr:β->Qc}(π:List Nat)(h:F.bind F'=some r)(m:∀v,F=some v->C P f a Hc (RQ w Hr v))
  (b:QfL Z o env=some (d,f,args))(g:∀v,F=some v->F' v=some r->WO P h0 N all l (up env d (Yx (rho π H.length) (w v))) (Yl H π ((Hr v).map (QT (rho π H.length)))) Q)
  (hargs:args=Qaa (rho π H.length) a)(hH:π.map (λp=>H[p]?)=(Hc.map (QT (rho π H.length))).map some)(hπ:π.Nodup)(hg:YR all o env=some true)(k:Nat.blt d N=true)(j:Nat.ble h0 H.length=true):WO P h0 N all (o::l) env H Q:=by
 obtain⟨v,e,i⟩:=bnd h;obtain⟨n,q⟩:=Qep (H:=H) s b;refine QL π q (m v e) ?_ hargs hH hπ (QX hg) n k j;rintro _ _ ⟨rfl,rfl⟩;exact g v e i
end
inductive FLL where
 |mk (l:List (List A))
def cpLL(sel:List Nat):List (List A)->FLL
 |[]=>.mk []
 |a::r=>match cpL sel a,cpLL sel r with
  |.mk a',.mk r'=>.mk (a'::r')
inductive FBk where
 |mk (b:Blk)
def cpBk(sel:List Nat):Blk->FBk
 |.cells t cs=>match cpL sel cs with
  |.mk l=>.mk (.cells t l)
 |.rowr t k es=>match cpLL sel es with
  |.mk l=>.mk (.rowr t k l)
 |.ents t a b es=>match QkP sel ixL a,QkP sel ixL b with
  |.mk a',.mk b'=>.mk (.ents t a' b' es)
 |b=>.mk b
def selD(H:Qc)(sel:List Nat):List Nat->FB
 |[]=>.mk []
 |a::r=>match YQ H a with
  |some b=>(match cpBk sel b,selD H sel r with
   |.mk b',.mk l=>.mk (b'::l))
  |none=>.mk []
def retC(sel sl:List Nat)(env:Env)(H:Qc):Option (Env×Qc):=
 match Qmp sel env sl [],selD H sel sel with
 |.mk e,.mk h=>some (e,h)
theorem Rx{P:Program}{h0:Nat}{fn:Func}{env E':Env}{H H':Qc}{Qr:A->Qc->Prop}{d:A}(π sl:List Nat)(_:retC π sl env H=some (E',H'))(a:Qc9 P fn E' H' d)(e:Qr d H')(b:π.take h0=List.range h0:=by exact rfl)
  (hH:π.map (λp=>H[p]?)=(H'.map (QT (rho π H.length))).map some:=by exact rfl)(hπ:π.Nodup:=by decide)(hE:Qd7 (rho π H.length) env E':=by(repeat' (first|exact trivial|refine⟨rfl,?_⟩))):Qc8 P h0 fn Qr .ret env H:=
 ⟨E',H',d,Lr π b hH hπ hE,a,e⟩
end Go.Sw
namespace Go.Sw
def nxL{T:Type}:List T->T->List T->Prop:=λl x rem=>l=x::rem
def Qd9{S T B:Type}(step:S->T->Option (Ctl S B)):List T->S->Option (Ctl S B)
 |[],s=>some (.cont s)
 |x::l,s=>(step s x).bind λd=>match d with
  |.cont s'=>Qd9 step l s'
  |.done b=>some (.done b)
def Qcn{S T B:Type}(step:S->Option (List T×Ctl S B)):Nat->S->Option (List T×B)
 |0,_=>none
 |n+1,s=>(step s).bind λp=>match p.2 with
  |.cont s'=>(Qcn step n s').bind λq=>some (p.1++q.1,q.2)
  |.done b=>some (p.1,b)
def Qnc{S B:Type}(h1:Nat)(env:Env)(Q:Qv)(d:Ctl S B)(Hp:S->Qc):Qv
 |.normal,env',H'=>∃s,d=.cont s/\Le h1 env' H' [] (Hp s)
 |.exit id,env',H'=>(∃b,d=.done b)/\ ∃H2,Le h1 env' H' [] H2/\Q (.exit id) env H2
 |.ret,env',H'=>(∃b,d=.done b)/\ ∃H2,Le h1 env' H' [] H2/\Q .ret env H2
theorem QgM{S B:Type}{h1:Nat}{env env':Env}{H':Qc}{Q:Qv}{s:S}{d:Ctl S B}{Hp:S->Qc}(e:some (Ctl.cont s)=some d)(h:Le h1 env' H' [] (Hp s)):Qnc h1 env Q d Hp .normal env' H':=⟨s,(Oi e).symm,h⟩
theorem QdD{P:Program}{h0 N:Nat}{r:Operand}{ps:List Nat}{assign body:Code}{env:Env}{H:Qc}{Q:Qv}{f:FuncId}{g a:List A}{Hc:Qc}{T S B:Type}{enc:T->List A}{xs:List T}{step:S->T->Option (Ctl S B)}{s0:S}{D:Ctl S B}
  (π:List Nat)(Hp:S->Qc)(h:Qd9 step xs s0=some D)(n:QiE P f a Hc enc nxL xs)(m:∀x,(enc x).length=ps.length)(L:∀args w,(callFunc f args).run P w=.ok (.enter f args) w)
  (J:Nat.ble h0 H.length=true)(hg:opA env r=.fn (.func f) [] g)(hargs:g=Qaa (rho π H.length) a)(hH:π.map (λp=>H[p]?)=(Hc.map (QT (rho π H.length))).map some)(hπ:π.Nodup)(u:(ps.all λp=>Nat.blt p N)=true)
  (j:Le H.length env (QdU H π) env (Hp s0))
  (i:∀s x d,step s x=some d->(∀b,d=.done b->D=.done b)->TC P H.length N assign (QlM ps (enc x) env) (Hp s) λe env1 H1=>e=.normal/\TC P H.length N body env1 H1 (Qnc H.length env Q d Hp))
  (k:∀s,D=.cont s->Q .normal env (Hp s)):TC P h0 N (.rangeFunc r ps.toArray assign body) env H Q:=by
 refine TC.rangeFunc π Hp (λs l=>Qd9 step l s=some D) s0 (XS J) hg hargs hH hπ u L n m j h ?_ ?_
 .rintro s l x rem t rfl;obtain⟨d,R,t⟩:=bnd t;refine(i s x d R ?_).mono ?_
  .rintro b rfl;exact(Oi t).symm
  .rintro e env1 H1 ⟨F,G⟩;refine⟨F,G.mono ?_⟩;intro M E H2 q;cases M with
   |normal=>
    obtain⟨z,rfl,j⟩:=q;exact⟨Hp z,j,z,t,rfl⟩
   |exit id=>
    obtain⟨_,H3,y,q⟩:=q;exact⟨H3,y,q⟩
   |ret=>
    obtain⟨_,H3,y,q⟩:=q;exact⟨H3,y,q⟩
 .intro s O;exact k s (Oi O).symm
section
variable {T:Type} {X:Ctx T} {P:Program} {h0 N:Nat} {c:Code} {env:Env} {H:Qc} {st:YSt T} {Q:Yy T}
def QfF{S B:Type}(h0:Nat)(E:S->Env)(Hp:S->Qc)(d:Ctl S B)(rest:List T)(Q:Yy T):Yy T
 |.normal,env,H,st=>∃s,d=.cont s/\Le h0 env H (E s) (Hp s)/\st=.on rest
 |.exit id,env,H,st=>Q (.exit id) env H st
 |.ret,env,H,st=>Q .ret env H st
theorem Qlk{S B:Type}{step:S->Option (List T×Ctl S B)}{E:S->Env}{Hp:S->Qc}{m:Nat}{s0:S}{l rem:List T}{b:B}(h:Qcn step m s0=some (l,b))(w:Le h0 env H (E s0) (Hp s0))
  (body:∀s zs d rest,step s=some (zs,d)->(∀b',d=.done b'->b'=b/\rest=rem)->TCy X P h0 N c (E s) (Hp s) (.on (zs++rest)) (QfF h0 E Hp d rest Q)):TCy X P h0 N (.loop c) env H (.on (l++rem)) Q:=by
 refine Qgw (I:=λn env H p=>∃s a,Qcn step n s=some (a,b)/\p=.on (a++rem)/\Le h0 env H (E s) (Hp s)) ?_ ⟨s0,l,h,rfl,w⟩;rintro n env H p ⟨s,a,f,rfl,j⟩;cases n with
 |zero=>cases f
 |succ n=>
  obtain⟨⟨zs,d⟩,r,f⟩:=bnd f;refine TCy.le j ?_;cases d with
  |cont t=>
   obtain⟨⟨u,F⟩,y,f⟩:=bnd f;cases f;rw[Vi];refine(body s zs (.cont t) (u++rem) r (λb' e=>by cases e)).mono ?_;rintro x g H' k q;cases x with
   |normal=>
    obtain⟨z,e,i,rfl⟩:=q;cases e;exact⟨n,Xo n,_,_,y,rfl,i⟩
   |exit id=>exact q
   |ret=>exact q
  |done b'=>
   cases f;refine(body s _ (.done b) rem r (λb' e=>by cases e;exact⟨rfl,rfl⟩)).mono ?_;rintro x g H' k q;cases x with
   |normal=>obtain⟨z,e,_⟩:=q;cases e
   |exit id=>exact q
   |ret=>exact q
def kqY(X:Ctx T)(P:Program)(h0 N:Nat):List Kf->Yy T->Yy T
 |[],Q=>Q
 |.seq c::k,Q=>SeqY X P h0 N c (kqY X P h0 N k Q)
 |.blo id::k,Q=>BloY id (kqY X P h0 N k Q)
 |.unr c::k,Q=>λ_ _ _ _=>False
@[reducible] def HdY(X:Ctx T)(P:Program)(h0 N:Nat):Cf->List Kf->Env->Qc->YSt T->Yy T->Prop
 |.code c,k,env,H,st,Q=>TCy X P h0 N c env H st (kqY X P h0 N k Q)
 |.ops all l,k,env,H,st,Q=>WOy X P h0 N all l env H st (kqY X P h0 N k Q)
 |.out x,k,env,H,st,Q=>kqY X P h0 N k Q x env H st
def Qow:Cf->List Kf->Bool
 |.code (.loop _),_=>false
 |.out _,.unr _::_=>false
 |_,_=>true
theorem QlO{Tx:TyX}(f:QbI P Tx){c b:Cf}{k d:List Kf}{env env':Env}{H H':Qc}(h:QfQ Tx h0 N c k env H=some (b,d,env',H'))(a:Qow c k=true)(g:HdY X P h0 N b d env' H' st Q):HdY X P h0 N c k env H st Q:=by
 unfold QfQ at h;split at h
 .cases h;exact TCy.seq g
 .cases h;exact TCy.block g
 .cases a
 .cases h;exact TCy.skip g
 .cases h;exact TCy.ret g
 .cases h;exact TCy.exit g
 .cases h;exact TCy.region g
 .split at h
  .rename_i q;cases h;exact TCy.cond (Qx q) (λ_=>g) (λe=>by cases e)
  .rename_i q;cases h;exact TCy.cond (Qx q) (λe=>by cases e) (λ_=>g)
  .cases h
 .cases h;exact WOy.nil g
 .split at h
  .rename_i q;cases h;exact WOy.step (QiY f q (WO.nil ⟨rfl,g⟩))
  .cases h
 .cases h;exact g
 .cases h;exact g
 .cases h;exact g
 .cases h;exact g
 .split at h
  .rename_i q;cases h;have e:=XR q;subst e;show(bif Nat.beq _ _ then _ else _);rw[VF];exact g
  .rename_i q;cases h;show(bif Nat.beq _ _ then _ else _);rw[q];exact g
 .cases h;exact g
 .cases a
 .cases a
 .cases a
 .cases h
def Qi6(Tx:TyX)(h0 N:Nat):Nat->Cf->List Kf->Env->Qc->Option (Cf×List Kf×Env×Qc)
 |0,c,k,env,H=>some (c,k,env,H)
 |n+1,c,k,env,H=>match Qow c k with
  |true=>(match QfQ Tx h0 N c k env H with
   |some (c',k',env',H')=>Qi6 Tx h0 N n c' k' env' H'
   |none=>none)
  |false=>none
theorem QcL{Tx:TyX}(hT:QbI P Tx):∀(n:Nat) {c c':Cf} {k k':List Kf} {env env':Env} {H H':Qc},Qi6 Tx h0 N n c k env H=some (c',k',env',H')->HdY X P h0 N c' k' env' H' st Q->HdY X P h0 N c k env H st Q
 |0,c,c',k,k',env,env',H,H',h,g=>by cases h;exact g
 |n+1,c,c',k,k',env,env',H,H',h,g=>by
  unfold Qi6 at h;split at h
  .rename_i hn;split at h
   .rename_i e;exact QlO hT e hn (QcL hT n h g)
   .cases h
  .cases h
theorem TCy.lf{k:List Kf}(h:TC P h0 N c env H (λx env H=>kqY X P h0 N k Q x env H st)):TCy X P h0 N c env H st (kqY X P h0 N k Q):=TCy.lift h
theorem Qm2{all:Array Oper}{o:Oper}{r:List Oper}{d:Nat}{x:T}{l:List T}{e:T->A}{y z:Operand}{h:Array TypeId}(hE:X.enc=λx=>[e x])(a:X.nx=nxL)(i:o.op=.call {callee:=.value y,args:= #[z],argTypes:=h})(j:opA env y=.fn (.yield X.l) [] [])(g:opA env z=e x)(k:Yk (e x)=true)
  (m:WOy X P h0 N all r (up env d (.bool true)) H (.on l) Q)(f:WOy X P h0 N all r (up env d (.bool false)) H (.off l) Q)(hg:Qm all o env true:=by exact rfl)(hd:o.dst=some d:=by exact rfl)(hNd:Nat.blt d N=true:=by exact rfl):WOy X P h0 N all (o::r) env H (.on (x::l)) Q:=by
 refine WOy.yield (x:=x) (rem:=l) (by rw[a];rfl) hg hd hNd ?_ ?_
 .rw[hE];exact Qhx i j g k
 .intro b;cases b with
  |true=>exact m
  |false=>exact f
theorem WOy.y2{all:Array Oper}{o:Oper}{r:List Oper}{d:Nat}{x:T}{l:List T}{i e:T->A}{y k j:Operand}{p:Array TypeId}(hE:X.enc=λx=>[i x,e x])(m:X.nx=nxL)(q:o.op=.call {callee:=.value y,args:= #[k,j],argTypes:=p})(s:opA env y=.fn (.yield X.l) [] [])(f:opA env k=i x)(g:opA env j=e x)(a:Yk (i x)=true)(h:Yk (e x)=true)
  (t:WOy X P h0 N all r (up env d (.bool true)) H (.on l) Q)(n:WOy X P h0 N all r (up env d (.bool false)) H (.off l) Q)(hg:Qm all o env true:=by exact rfl)(hd:o.dst=some d:=by exact rfl)(hNd:Nat.blt d N=true:=by exact rfl):WOy X P h0 N all (o::r) env H (.on (x::l)) Q:=by
 refine WOy.yield (x:=x) (rem:=l) (by rw[m];rfl) hg hd hNd ?_ ?_
 .rw[hE];exact QkG q s f g a h
 .intro b;cases b with
  |true=>exact t
  |false=>exact n
end
end Go.Sw
namespace Go.Sw
def yl{T R:Type}(x:T)(k:Option (List T×R)):Option (List T×R):=k.bind λp=>some (x::p.1,p.2)
def ap{T B R:Type}(a:Option (List T×B))(k:B->Option (List T×R)):Option (List T×R):=a.bind λp=>(k p.2).bind λq=>some (p.1++q.1,q.2)
theorem Qoj{T R:Type}{x:T}{k:Option (List T×R)}{a:List T}{v:R}(h:yl x k=some (a,v)):∃zs,k=some (zs,v)/\a=x::zs:=by
 obtain⟨⟨zs,e⟩,b,d⟩:=bnd h;cases d;exact⟨zs,b,rfl⟩
theorem ap_ok{T B R:Type}{a:Option (List T×B)}{k:B->Option (List T×R)}{d:List T}{v:R}(h:ap a k=some (d,v)):∃y1 b y2,a=some (y1,b)/\k b=some (y2,v)/\d=y1++y2:=by
 obtain⟨⟨y1,b⟩,g,e⟩:=bnd h;obtain⟨⟨y2,j⟩,i,f⟩:=bnd e;cases f;exact⟨y1,b,y2,g,i,rfl⟩
section
variable {T:Type} {X:Ctx T} {P:Program} {h0 N:Nat} {c c':Code} {env:Env} {H:Qc} {st:YSt T} {Q:Yy T}
def QnA{β:Type}(h0:Nat)(b:β)(E':β->Env)(H':β->Qc)(rem:List T)(Q:Yy T):Yy T
 |.normal,env,H,st=>Le h0 env H (E' b) (H' b)/\st=.on rem
 |.exit id,env,H,st=>Q (.exit id) env H st
 |.ret,env,H,st=>Q .ret env H st
theorem Qm7{β:Type}{E':β->Env}{H':β->Qc}(b:β)(rem:List T)(sel keep:List Nat)(nE:β->Env)(nH:β->List (Nat×Blk))(_:∀b,QmU sel keep (nE b) (nH b) env H=some (E' b,H' b))(h:TCy X P h0 N c env H st (QnA h0 b E' H' rem Q))(k:∀env H,Le h0 env H (E' b) (H' b)->Q .normal env H (.on rem)):TCy X P h0 N c env H st Q:=
 h.mono λx env' H' st' q=>by
  cases x with
  |normal=>obtain⟨q1,rfl⟩:=q;exact k _ _ q1
  |exit id=>exact q
  |ret=>exact q
theorem cutYN{β:Type}{b:β}{E':β->Env}{H':β->Qc}{rem:List T}(h:Le h0 env H (E' b) (H' b)):QnA h0 b E' H' rem Q .normal env H (.on rem):=⟨h,rfl⟩
theorem cutYR{β:Type}{b:β}{E':β->Env}{H':β->Qc}{rem:List T}(h:Q .ret env H st):QnA h0 b E' H' rem Q .ret env H st:=h
theorem Qpy{S B:Type}{step:S->Option (List T×Ctl S B)}{E':S->Env}{H':S->Qc}{m:Nat}{s0:S}{ys rem:List T}{b:B}(sel keep:List Nat)(nE:S->Env)(nH:S->List (Nat×Blk))(h:Qcn step m s0=some (ys,b))(_:∀s,QmU sel keep (nE s) (nH s) env H=some (E' s,H' s))(hI:Le h0 env H (E' s0) (H' s0))
  (body:∀s zs d rest,step s=some (zs,d)->(∀b',d=.done b'->b'=b/\rest=rem)->TCy X P h0 N c (E' s) (H' s) (.on (zs++rest)) (QfF h0 E' H' d rest Q)):TCy X P h0 N (.loop c) env H (.on (ys++rem)) Q:=Qlk h hI body
theorem QgX{S B:Type}{E':S->Env}{H':S->Qc}{s:S}{d:Ctl S B}{zs rest:List T}(e:some (([]:List T),Ctl.cont s)=some (zs,d))(h:Le h0 env H (E' s) (H' s)):QfF h0 E' H' d rest Q .normal env H (.on (zs++rest)):=by
 cases e;exact⟨s,rfl,h,rfl⟩
theorem Qpb{S B:Type}{id:Nat}{E':S->Env}{H':S->Qc}{d:Ctl S B}{rest:List T}(h:Q (.exit id) env H st):QfF h0 E' H' d rest Q (.exit id) env H st:=h
theorem Qpc{S B:Type}{E':S->Env}{H':S->Qc}{d:Ctl S B}{rest:List T}(h:Q .ret env H st):QfF h0 E' H' d rest Q .ret env H st:=h
theorem Oy{S B:Type}{d:Ctl S B}{x b:B}{zs rest rem:List T}(e:∀b',d=.done b'->b'=b/\rest=rem)(h:some (([]:List T),Ctl.done x)=some (zs,d)):zs=[]/\b=x/\rest=rem:=by
 cases h;obtain⟨f,a⟩:=e x rfl;exact⟨rfl,f.symm,a⟩
theorem Cny{α:Type}{x:Operand}{t:Bool}{p q:Option α}{r:α}(hx:opB env x=.mk (.bool t))(h:(bif t then p else q)=some r)(ht:t=true->p=some r->TCy X P h0 N c env H st Q)(hf:t=false->q=some r->TCy X P h0 N c' env H st Q):TCy X P h0 N (.cond x c c') env H st Q:=
 TCy.cond (Qx hx) (λe=>ht e (ifT e h)) (λe=>hf e (ifF e h))
theorem QiD{f:FuncId}{fn:Func}{c:Code}{N:Nat}{a:List A}{H:Qc}{enc:T->List A}{xs:List T}(i:P.funcs[f]?=some fn)(b:fn.body=some c)(d:fn.ntmps=N)(g:Nat.ble (a.length+1) N=true)(e:fn.results= #[])
  (h:∀X:Ctx T,X.enc=enc->X.nx=nxL->TCy X P H.length N c (Qgn 0 (.fn (.yield X.l) [] []::a)) H (.on (xs++[])) EndY):QiE P f a H enc nxL xs:=by
 rw[Vg]at h;exact Qc7 i b d g e h
end
end Go.Sw
namespace Go.Sw
open Go.MapKept
section
variable {fr ro:Nat->Prop} {σ:Sig} {H:Qc} {w:World}
end
end Go.Sw
namespace Go.Sw
open Go.MapKept
def QbJ{α β:Type}(ek:α->A)(ev:β->List A)(l:List (α×Option (List β))):List (A×Option (List (List A))):=l.map λp=>(ek p.1,p.2.map (List.map ev))
def Qj9{α β:Type}[DecidableEq α](l:List (α×Option (List β)))(x:α):List (α×Option (List β)):=l.map λp=>bif decide (p.1=x)then(p.1,none)else p
section
variable {P:Program} {kt:TypeId} {α β:Type} [DecidableEq α] {ek:α->A} {ev:β->List A} {ro:Nat->Prop} {w:World} {t k:Nat} (K:Y6 P kt ek)
include K
theorem Qkz{x:α}:∀{l:List (α×Option (List β))} {es:List MapEntry},MO ro w t k (QbJ ek ev l) es->MO ro w t k (QbJ ek ev (Qj9 l x)) es
 |[],es,h=>h
 |p::l,es,h=>by
  obtain⟨e,l',rfl,h1,h2,h3⟩:=h;by_cases q:p.1=x
  .refine⟨e,l',rfl,by simpa[q]using h1,λrows hr=>?_,Qkz (l:=l) h3⟩;simp[q]at hr
  .refine⟨e,l',rfl,by simpa[q]using h1,λrows hr=>h2 rows (by simpa[q]using hr),Qkz (l:=l) h3⟩
omit K
theorem QdI{x:α}{c:Nat}:∀{l:List (α×Option (List β))} {es:List MapEntry},Qeh (QbJ ek ev (Qj9 l x)) es c->Qeh (QbJ ek ev l) es c
 |[],es,h=>by cases es<;>exact h.elim
 |p::l,[],h=>h.elim
 |p::l,e::es,h=>by
  rcases h with⟨h1,h2⟩|h
  .by_cases q:p.1=x
   .simp[q]at h1
   .exact .inl ⟨by simpa[q]using h1,h2⟩
  .exact .inr (QdI (l:=l) h)
theorem QlE{x:α}:∀{l:List (α×Option (List β))} {es:List MapEntry},QjP (QbJ ek ev l) es->QjP (QbJ ek ev (Qj9 l x)) es
 |[],es,h=>by cases es<;>trivial
 |p::l,[],h=>trivial
 |p::l,e::es,h=>by
  obtain⟨h1,h2⟩:=h;refine⟨λc q1 q2 q3=>?_,QlE (l:=l) h2⟩;by_cases q:p.1=x
  .simp[q]at q1
  .exact h1 c (by simpa[q]using q1) q2 (QdI (l:=l) q3)
include K
theorem MO.find:∀{l:List (α×Option (List β))} {es:List MapEntry},MO ro w t k (QbJ ek ev l) es->∀(x:α),(es.map (·.key)).Nodup->
  ((∀e:MapEntry,e∈es->e.key≠QA (ek x))->YO l x=none)/\
  (∀(j:Nat) (e:MapEntry),es[j]?=some e->e.key=QA (ek x)->∃q,YO l x=some q/\(∀rows,q=some rows->SO ro w t k (rows.map ev) e.val)/\
   ∀c p n cap,q.isSome=true->e.val=.slice (some ⟨c,p,none⟩) n cap->Qeh (QbJ ek ev l) es c/\(QjP (QbJ ek ev l) es->¬Qeh (QbJ ek ev (Qj9 l x)) es c))
 |[],es,h,x,_=>by
  cases(show es=[]from h);exact⟨λ_=>rfl,λj e he=>by simp at he⟩
 |p::l,es,h,x,hn=>by
  obtain⟨e0,l',rfl,h1,h2,h3⟩:=h;have hk:e0.key=QA (ek p.1):=VR.val (K.scl _) h1;simp only[Vj,List.nodup_cons]at hn;obtain⟨a1,a2⟩:=MO.find (l:=l) h3 x hn.2;by_cases hp:p.1=x
  .subst hp;constructor
   .intro q;exact absurd hk (q e0 (by simp))
   .intro j e he hx;cases j with
    |zero=>
     simp only[XF,Option.some.injEq]at he;subst he;refine⟨p.2,by simp[YO],λrows hr=>h2 (rows.map ev) (by simp[hr]),λc p' n cap hs hv=>⟨.inl ⟨by simpa using hs,p',n,cap,hv⟩,λhd hq=>?_⟩⟩;rcases hq with⟨q1,_⟩|hq
     .simp at q1
     .exact hd.1 c (by simpa using hs) ⟨p',n,cap,hv⟩ (QdI (l:=l) hq)
    |succ j=>
     simp only[XG]at he;exact absurd (hk.trans hx.symm▸VG (f:=λe:MapEntry=>e.key) (VH he)) hn.1
  .have e1:YO (p::l) x=YO l x:=by simp[YO,hp]
   rw[e1];constructor
   .intro q;exact a1 λe he=>q e (by simp[he])
   .intro j e he hx;cases j with
    |zero=>
     simp only[XF,Option.some.injEq]at he;subst he;exact absurd (K.inj _ _ (hk.symm.trans hx)) hp
    |succ j=>
     obtain⟨q,b,m,d⟩:=a2 j e (by simpa using he) hx;refine⟨q,b,m,λc p' n cap hs hv=>?_⟩;obtain⟨a,g⟩:=d c p' n cap hs hv;refine⟨.inr a,λhd hq=>?_⟩;rcases hq with⟨q1,i⟩|hq
     .exact hd.1 c (by simpa[hp]using q1) i a
     .exact g hd.2 hq
end
section
variable {P:Program} {o:Oper} {env:Env} {H:Qc}
variable {T kt et:Nat} {α β:Type} [DecidableEq α] {ek:α->A} {ev:β->List A} {x y:Operand} {i t k:Nat} {l:List (α×Option (List β))} {key:α} {rows:List β}
end
end Go.Sw
namespace Go.Sw
open Go.MapKept
theorem MO.append{ro:Nat->Prop}{w:World}{t k:Nat}:∀{l m:List (A×Option (List (List A)))} {es fs:List MapEntry},MO ro w t k l es->MO ro w t k m fs->MO ro w t k (l++m) (es++fs)
 |[],m,es,fs,h,q=>by cases(show es=[]from h);exact q
 |p::l,m,es,fs,h,q=>by
  obtain⟨e,l',rfl,h1,h2,h3⟩:=h;exact⟨e,l'++fs,rfl,h1,h2,MO.append h3 q⟩
theorem MO.length{ro:Nat->Prop}{w:World}{t k:Nat}:∀{l:List (A×Option (List (List A)))} {es:List MapEntry},MO ro w t k l es->es.length=l.length
 |[],es,h=>by cases(show es=[]from h);rfl
 |p::l,es,h=>by
  obtain⟨e,l',rfl,h1,h2,h3⟩:=h;simp[MO.length h3]
def SlB(v:Value)(c:Nat):Prop:=∃p n cap,v=.slice (some ⟨c,p,none⟩) n cap
section
variable {P:Program} {kt:TypeId} {α β:Type} [DecidableEq α] {ek:α->A} {ev:β->List A} {ro:Nat->Prop} {w:World} {t k:Nat} (K:Y6 P kt ek)
def Qdo{α β:Type}[DecidableEq α](l:List (α×Option (List β)))(x:α)(rows:List β):List (α×Option (List β)):=l.map λp=>bif decide (p.1=x)then(p.1,some rows)else p
include K
theorem Qf1{x:α}{rows:List β}:∀{l:List (α×Option (List β))} {es:List MapEntry},MO ro w t k (QbJ ek ev l) es->(∀e∈es,e.key≠QA (ek x))->Qdo l x rows=l
 |[],es,h,q=>rfl
 |p::l,es,h,q=>by
  obtain⟨e,l',rfl,h1,h2,h3⟩:=h;have hk:e.key=QA (ek p.1):=VR.val (K.scl _) h1;have hp:p.1≠x:=λz=>q e (by simp) (by rw[hk,z]);have:=Qf1 (l:=l) h3 (λe he=>q e (by simp[he])) (rows:=rows);simp only[Qdo,Vj,decide_false,hp,Vq];rw[show(l.map λp=>bif decide (p.1=x)then(p.1,some rows)else p)=l from this]
theorem MO.put{x:α}{rows:List β}{v:Value}(n:SO ro w t k (rows.map ev) v):∀{l:List (α×Option (List β))} {es:List MapEntry} {j:Nat} {e:MapEntry},MO ro w t k (QbJ ek ev l) es->
  (es.map (·.key)).Nodup->es[j]?=some e->e.key=QA (ek x)->
  MO ro w t k (QbJ ek ev (Qdo l x rows)) (es.modify j λe=>{e with key:=QA (ek x),val:=v})/\
  (∀c,Qeh (QbJ ek ev (Qdo l x rows)) (es.modify j λe=>{e with key:=QA (ek x),val:=v}) c->Qeh (QbJ ek ev l) es c\/SlB v c)/\
  (QjP (QbJ ek ev l) es->(∀c,Qeh (QbJ ek ev l) es c->¬SlB v c)->QjP (QbJ ek ev (Qdo l x rows)) (es.modify j λe=>{e with key:=QA (ek x),val:=v}))
 |[],es,j,e,h,hn,he,hk=>by cases(show es=[]from h);simp at he
 |p::l,es,j,e,h,hn,he,hk=>by
  obtain⟨e0,l',rfl,h1,h2,h3⟩:=h;have hk0:e0.key=QA (ek p.1):=VR.val (K.scl _) h1;simp only[Vj,List.nodup_cons]at hn;cases j with
  |zero=>
   simp only[XF,Option.some.injEq]at he;subst he;have hp:p.1=x:=K.inj _ _ (hk0.symm.trans hk);simp only[List.modify_zero_cons];have e0':Qdo l x rows=l:=Qf1 K h3 λe he z=>hn.1 (by rw[hk, <- z];exact VG he);have e1:Qdo (p::l) x rows=(p.1,some rows)::l:=by
    have:Qdo (p::l) x rows=(p.1,some rows)::Qdo l x rows:=by simp[Qdo,hp]
    rw[this,e0']
   rw[e1];refine⟨⟨_,l',rfl,?_,?_,h3⟩,?_,?_⟩
   .show VR ro [] w (ek p.1) (QA (ek x));rw[<- hp];exact QbY (K.scl _)
   .intro b s;cases s;exact n
   .rintro c (⟨_,q⟩|q)
    .exact .inr q
    .exact .inl (.inr q)
   .rintro⟨m,d⟩ a;exact⟨λc _ q z=>a c (.inr z) q,d⟩
  |succ j=>
   simp only[XG]at he;have hp:p.1≠x:=by
    intro q;refine hn.1 (Xf.2 ⟨e,VH he,?_⟩);rw[hk,hk0,q]
   simp only[List.modify_succ_cons];obtain⟨r,f,y⟩:=MO.put n h3 hn.2 he hk;have e1:Qdo (p::l) x rows=p::Qdo l x rows:=by simp[Qdo,hp]
   rw[e1];refine⟨⟨_,_,rfl,h1,h2,r⟩,?_,?_⟩
   .rintro c (q|q)
    .exact .inl (.inl q)
    .exact(f c q).imp .inr id
   .rintro⟨m,d⟩ a;refine⟨λc g i z=>?_,y d λc u=>a c (.inr u)⟩;rcases f c z with z|z
    .exact m c g i z
    .exact a c (.inl ⟨g,i⟩) z
end
section
variable {P:Program} {o:Oper} {env:Env} {H:Qc}
variable {T kt et:Nat} {α β:Type} [DecidableEq α] {ek:α->A} {ev:β->List A} {x y zz:Operand} {i j t k n:Nat} {l m:List (α×Option (List β))} {key:α} {rows:List β}
end
end Go.Sw
namespace Go.Sw
open Go.MapKept
section
variable {fr ro:Nat->Prop} {σ:Sig} {H:Qc} {w:World}
end
section
variable {P:Program} {o:Oper} {env:Env} {H:Qc} {T kt et i t k:Nat} {x:Operand} {es:List (A×Option (List (List A)))}
end
section
variable {P:Program} {o:Oper} {env:Env} {H:Qc}
variable {T kt et:Nat} {α β:Type} [DecidableEq α] {ek:α->A} {ev:β->List A} {x y zz:Operand} {i j t k n:Nat} {l m:List (α×Option (List β))} {key:α} {rows:List β}
end
end Go.Sw
namespace Go.Sw
open Go.MapKept
section
variable {P:Program} {o:Oper} {env:Env} {H:Qc}
variable {T kt et:Nat} {α β:Type} [DecidableEq α] {ek:α->A} {ev:β->List A} {x y zz:Operand} {i j t k n:Nat} {l m:List (α×Option (List β))} {key:α} {rows:List β}
end
end Go.Sw
namespace Go.Sw
theorem Qnm{h0 d:Nat}{x y:A}{e:Env}{H:Qc}:Le h0 ((d,x)::(d,y)::e) H ((d,x)::e) H:=Le.env λs=>.inr (by
 simp only[lk];cases Nat.beq s d<;>rfl)
abbrev Kat:=List (Nat×Nat×Nat)
def QlL:Nat->Nat->List (Nat×Nat)
 |lo,0=>[(lo,lo)]
 |lo,n+1=>(lo,lo)::QlL (lo+1) n
def rgK(p:Nat×Nat×Nat):List (Nat×Nat):=bif Nat.beq p.1 1 then[(p.2.1,p.2.1+1)]else QlL p.2.1 (p.2.2-p.2.1)
def plK(cat:Kat):List (List (Nat×Nat)):=cat.map rgK
def rqK(bs:List Nat)(cat:Kat):List (List Nat):=cat.map λp=>bs.take p.2.1
def hsK(cat:Kat):List Bool:=cat.map λp=>Nat.beq p.1 1
def msK(bs:List Nat):List (List Nat):=(List.range (bs.length+1)).map bs.take
theorem QgI:∀(n lo:Nat),∀p∈QlL lo n,p.1=p.2
 |0,lo,p,h=>by cases h with|head=>rfl|tail _ h=>cases h
 |n+1,lo,p,h=>by
  rcases X6.1 h with rfl|h
  .rfl
  .exact QgI n _ p h
section
variable {P:Program} {T:TyX} {h0 N m:Nat} {bs:List Nat} {cat:Kat} {l:List Oper} {ds:List Nat} {env:Env} {H:Qc} {Hs:List Qc} {Q:Qv} {K:List Oper->Env->Qc->Prop}
def DobK(P:Program)(N:Nat)(cat:Kat)(l:List Oper)(ds:List Nat)(env:Env)(n:Nat)(Hs:List Qc)(zs:List A)(j:Nat):Prop:=
 ∀p∈(plK cat).getD j [],Ju P N l ds zs env n n j (Hs.getD p.1 []) (Hs.getD p.2 [])
def DK(P:Program)(N m:Nat)(bs:List Nat)(cat:Kat)(l:List Oper)(ds:List Nat)(env:Env)(n:Nat)(K:List Oper->Env->Qc->Prop)(Hs:List Qc)(X:Qc)(r:List Oper)(xs:List A):Prop:=
 r=l.drop xs.length->∃ys Zs Y,xs.length+ys.length=m/\Hs.length+Zs.length=bs.length/\((∀Z∈Zs,n<=Z.length)/\(Hs.reverse++X::Zs).getD bs.length []=Y)/\(∀j,xs.length<=j->j<m->DobK P N cat l ds env n (Hs.reverse++X::Zs) (xs++ys) j)/\K (l.drop m) (QaB ds (xs++ys) env) Y
theorem QpA{f:List A}{n:Nat}{Zs:List Qc}(b:cat.length=m)(r:∀j,0<=j->j<m->DobK P N cat l ds env n Zs f j):Qhp P N l ds f env n (n+0) 0 ((plK cat).map λq=>q.map λp=>(Zs.getD p.1 [],Zs.getD p.2 [])):=by
 refine Qho _ 0 λi s a p g=>?_;rw[Xq]at a;cases e:(plK cat)[i]? with
 |none=>rw[e]at a;cases a
 |some q=>
  rw[e]at a;cases a;obtain⟨k,d,rfl⟩:=Xf.1 g;have h:i<m:=by
   have:=(XM.1 e).1;simpa[plK,b]using this
  have:=r i (XV _) h k (by rw[Qki e];exact d);simpa using this
theorem Qnx{id:Nat}(m:Nat)(d:List Nat)(cat:Kat)(t:P.follows .mixedOrders=true)(u:Qd0 l m N (Qbj m 0 l) (hsK cat) (rqK d cat) (msK d) (plK cat)=true)(i:Nat.beq cat.length m=true)(f:Nat.ble h0 H.length=true)
  (h:DK P N m d cat l (Qbj m 0 l) env H.length (λr e H=>WO P h0 N l.toArray r e H Q) [] H l []):TC P h0 N (.region id l.toArray true) env H Q:=by
 obtain⟨s,Zs,Y,p,k,j,n,q⟩:=h rfl;simp only[List.length_nil,Xw,Vh,List.reverse_nil]at p k j n q;have b:=XR i;have a:(msK d).length=d.length+1:=by simp[msK]
 refine Qbm m 0 _ _ _ _ _ s (H::Zs) Y t u (by rw[p];exact VF m) (by rw[a];simp[k]) f ?_ (by simp) (by rw[a];exact j.2) (QpA b n) (by simp[plK,b]) q;rw[Xt];intro Z g;rcases X6.1 g with rfl|g
 .exact XT (XU _)
 .exact XT (j.1 Z g)
variable {n:Nat} {X X1:Qc} {xs:List A} {o:Oper} {r:List Oper} {x:A} {d:Nat}
theorem DK.done(d:Nat.beq xs.length m=true)(b:Nat.beq Hs.length bs.length=true)(h:K r (QaB ds xs env) X):DK P N m bs cat l ds env n K Hs X r xs:=by
 intro f;have e:=XR d;have a:=XR b;subst f;refine⟨[],[],X,by simpa using e,by simpa using a,⟨(λZ hZ=>by cases hZ),?_⟩,λj i g=>by omega,?_⟩
 .rw[<- a,VL,XO (by simp)];simp
 .rw[<- e,Vg];exact h
theorem DK.add(f:∀ys Zs,l[xs.length]?=some o->DobK P N cat l ds env n (Hs.reverse++X::Zs) (xs++x::ys) xs.length)(k:DK P N m bs cat l ds env n K Hs X r (xs++[x])):DK P N m bs cat l ds env n K Hs X (o::r) xs:=by
 intro g;obtain⟨h,a⟩:=Qbk g;obtain⟨ys,Zs,Y,p,e,s,b,d⟩:=k (by simpa using a);simp only[X3,X0,List.length_nil,Vi,VK,Vh]at p b d;refine⟨x::ys,Zs,Y,by simp only[X0];omega,e,s,λj t i=>?_,d⟩;rcases VC xs.length j with q|q
 .exact b j (by omega) i
 .obtain rfl:j=xs.length:=by omega
  exact f ys Zs h
theorem Qet{Zs:List Qc}{zs:List A}{j:Nat}{c:Nat×Nat×Nat}(b:YQ cat j=some c)(h:∀p∈rgK c,Ju P N l ds zs env n n j (Zs.getD p.1 []) (Zs.getD p.2 [])):DobK P N cat l ds env n Zs zs j:=by
 intro p a;rw[QaG]at b;unfold plK at a;rw[VL,Xq,b]at a;exact h p a
theorem Qg2{Zs:List Qc}{c:Nat}(a:Nat.beq c Hs.length=true):(Hs.reverse++X::Zs).getD c []=X:=by
 rw[XR a,VL,XO (by simp)];simp
theorem DK.wo{c:Nat}(h:WO P X.length N l.toArray [o] (Yn (Qg o) 0 ds xs env) X (YY (up (Yn (Qg o) 0 ds xs env) d x) X))(k:DK P N m bs cat l ds env n K Hs X r (xs++[x]))
  (b:YQ cat xs.length=some (0,c,c):=by exact rfl)(hd:o.dst=some d:=by exact rfl)(hcH:Nat.beq c Hs.length=true:=by exact rfl):DK P N m bs cat l ds env n K Hs X (o::r) xs:=
 .add (λys Zs ho=>Qet b λp a=>by
  have:p=(c,c):=by
   change p∈QlL c (c-c)at a;rw[Nat.sub_self]at a;exact VB.1 a
  subst this;rw[Qg2 hcH];exact QaF ho Y1 h hd) k
theorem YP{lo hi:Nat}(h:∀X,WO P X.length N l.toArray [o] (Yn (Qg o) 0 ds xs env) X (YY (up (Yn (Qg o) 0 ds xs env) d x) X))(k:DK P N m bs cat l ds env n K Hs X r (xs++[x]))
  (a:YQ cat xs.length=some (0,lo,hi):=by exact rfl)(hd:o.dst=some d:=by exact rfl):DK P N m bs cat l ds env n K Hs X (o::r) xs:=
 .add (λys Zs ho=>Qet a λp b=>by
  have e:p.1=p.2:=QgI _ _ p b;rw[<- e];exact QaF ho Y1 (h _) hd) k
theorem DK.op{c F:Nat}(h:WO P X.length N l.toArray [o] (Yn (Qg o) 0 ds xs env) X (YY (up (Yn (Qg o) 0 ds xs env) d x) X1))(k:DK P N m bs cat l ds env n K (X::Hs) X1 r (xs++[x]))(hl:Nat.ble n X1.length=true:=by exact rfl)
  (hc:YQ cat xs.length=some (1,c,F):=by exact rfl)(hd:o.dst=some d:=by exact rfl)(hcH:Nat.beq c Hs.length=true:=by exact rfl):DK P N m bs cat l ds env n K Hs X (o::r) xs:=by
 intro s;obtain⟨w,a⟩:=Qbk s;obtain⟨z,Zs,Y,B,i,e,f,g⟩:=k (by simpa using a);simp only[X3,X0,List.length_nil,Vi,VK,Vh,List.reverse_cons]at B i e f g;refine⟨x::z,X1::Zs,Y,by simp only[X0];omega,by simp only[X0];omega,⟨λZ b=>?_,e.2⟩,λj G y=>?_,g⟩
 .rcases X6.1 b with rfl|b
  .exact XS hl
  .exact e.1 Z b
 .rcases VC xs.length j with q|q
  .exact f j (by omega) y
  .obtain rfl:j=xs.length:=by omega
   refine Qet hc λp u=>?_;have:p=(c,c+1):=VB.1 u;subst this;have E:(Hs.reverse++X::X1::Zs).getD c []=X:=Qg2 hcH;have t:(Hs.reverse++X::X1::Zs).getD (c+1) []=X1:=by
    have:=Qg2 (X:=X1) (Zs:=Zs) (Hs:=X::Hs) (c:=c+1) (by rw[XR hcH];exact VF _);simpa using this
   simp only;rw[E,t];exact QaF w Y1 h hd
theorem DK.v(h:OpV P o (Yn (Qg o) 0 ds xs env) X x)(k:DK P N m bs cat l ds env n K Hs X r (xs++[x])){c:Nat}(hg:YR ⟨l⟩ o (Yn (Qg o) 0 ds xs env)=some true:=by exact rfl)
  (hd:o.dst=some d:=by exact rfl)(hN:Nat.blt d N=true:=by exact rfl)(hc:YQ cat xs.length=some (0,c,c):=by exact rfl)(hcH:Nat.beq c Hs.length=true:=by exact rfl):DK P N m bs cat l ds env n K Hs X (o::r) xs:=
 .wo (QF (QX hg) hd hN h (WO.nil YY.mk)) k hc hd hcH
def allV(T:TyX)(o:Oper)(e:Env)(x:A):Nat->List Qc->Prop
 |0,_=>True
 |k+1,Y::r=>Qex T o e Y=some x/\allV T o e x k r
 |_+1,[]=>False
theorem QjW:∀(n lo:Nat),∀p∈QlL lo n,lo<=p.1/\p.1<=lo+n
 |0,lo,p,h=>by cases h with|head=>exact⟨XU _,XU _⟩|tail _ h=>cases h
 |n+1,lo,p,h=>by
  rcases X6.1 h with rfl|h
  .exact⟨XU _,Nat.le_add_right _ _⟩
  .have:=QjW n _ p h;omega
def allW(P:Program)(N:Nat)(l:List Oper)(o:Oper)(e:Env)(d:Nat)(x:A):Nat->List Qc->Prop
 |0,_=>True
 |k+1,Y::r=>WO P Y.length N l.toArray [o] e Y (YY (up e d x) Y)/\allW P N l o e d x k r
 |_+1,[]=>False
theorem Qkw{e:Env}:∀{k:Nat} {r:List Qc},allW P N l o e d x k r->∀j,j<k->WO P (r.getD j []).length N l.toArray [o] e (r.getD j []) (YY (up e d x) (r.getD j []))
 |0,_,_,j,hj=>absurd hj (Xn _)
 |k+1,[],h,_,_=>h.elim
 |k+1,Y::r,h,0,_=>h.1
 |k+1,Y::r,h,j+1,hj=>by
  have:=Qkw h.2 j (by omega);simpa using this
theorem DK.ws{lo hi:Nat}(h:allW P N l o (Yn (Qg o) 0 ds xs env) d x (hi+1-lo) (X::Hs))(k:DK P N m bs cat l ds env n K Hs X r (xs++[x]))
  (i:YQ cat xs.length=some (0,lo,hi):=by exact rfl)(hd:o.dst=some d:=by exact rfl)(hcH:Nat.beq hi Hs.length=true:=by exact rfl)(hle:Nat.ble lo hi=true:=by exact rfl):DK P N m bs cat l ds env n K Hs X (o::r) xs:=
 .add (λys Zs ho=>Qet i λp b=>by
  have e:p.1=p.2:=QgI _ _ p b;have a:=XS hle;have s:lo<=p.1/\p.1<=lo+(hi-lo):=QjW (hi-lo) lo p b;have f:=XR hcH;rw[<- e];have j:=Qkw h (Hs.length-p.1) (by omega);have g:(Hs.reverse++X::Zs).getD p.1 []=(X::Hs).getD (Hs.length-p.1) []:=by
   rw[VL,VL];congr 1;rcases VC p.1 Hs.length with q|q
   .rw[XN (by simpa using q),List.getElem?_reverse q,show Hs.length-p.1=Hs.length-1-p.1+1 by omega,XG]
   .have:p.1=Hs.length:=by omega
    rw[this,XO (by simp)];simp
  rw[g];exact QaF ho Y1 j hd) k
theorem DK.vs(i:QbI P T){lo hi:Nat}(h:allV T o (Yn (Qg o) 0 ds xs env) x (hi+1-lo) (X::Hs))(k:DK P N m bs cat l ds env n K Hs X r (xs++[x]))
  (j:YQ cat xs.length=some (0,lo,hi))(e:o.dst=some d)(b:Nat.beq hi Hs.length=true)(hg:YR ⟨l⟩ o (Yn (Qg o) 0 ds xs env)=some true)(g:Nat.blt d N=true)(a:Nat.ble lo hi=true):DK P N m bs cat l ds env n K Hs X (o::r) xs:=by
 refine DK.ws ?_ k j e b a;generalize hi+1-lo=c at h;generalize X::Hs=L at h
 induction c generalizing L with
 |zero=>trivial
 |succ c f=>
  cases L with
  |nil=>exact h.elim
  |cons Y L=>exact⟨QF (QX hg) e g (Qbq i h.1) (WO.nil YY.mk),f L h.2⟩
end
end Go.Sw
namespace Go.Sw
def room(n:Int):Option Nat:=bif decide (0<n)&&decide (n<=4294967296)then some n.toNat else none
section
variable {P:Program} {o:Oper} {env:Env} {H:Qc}
theorem RL.put{ro:Nat->Prop}{σ:Sig}{w:World}{k:Nat}:∀{a:Nat} {es fs:List (List A)} {l m:List Value},RL ro σ w k es l->a+fs.length<=es.length->Sw.allK k fs->LR ro σ w fs.flatten m->(∀v∈m,Ql v)->
  RL ro σ w k (es.take a++fs++es.drop (a+fs.length)) (Sw.splice l (a*k) m)
 |0,es,[],l,m,h,hn,hk,hm,hp=>by
  obtain rfl:m=[]:=hm;simpa[Sw.splice]using h
 |0,[],f::fs,l,m,h,hn,hk,hm,hp=>by simp at hn
 |0,c::es,f::fs,l,m,⟨l1,l2,h1,h2,h3,h4⟩,hn,hk,hm,hp=>by
  subst h1;have hl1:=h3.1.length;have hml:=hm.length;rw[Vl,X3]at hml;have e1:m.take k++m.drop k=m:=Xz _ _;have q1:LR ro σ w f (m.take k):=by have:=hm.take k;rwa [Vl,X7 (by rw[hk.1];exact XU _),VI (by rw[hk.1];exact XU _)]at this
  have i:LR ro σ w fs.flatten (m.drop k):=by have:=hm.drop k;rwa [Vl,X8 (by rw[hk.1];exact XU _),List.drop_of_length_le (by rw[hk.1];exact XU _),Vh]at this
  have b:=RL.put (a:=0) h4 (by simpa using hn) hk.2 i (λv d=>hp v (List.mem_of_mem_drop d));simp only[List.take_zero,Vh,Xw,Nat.zero_mul,Sw.splice]at b⊢;refine⟨m.take k,m.drop k++l2.drop (m.drop k).length,?_,hk.1,⟨q1,λv d=>hp v (List.mem_of_mem_take d)⟩,by simpa using b⟩;have g:k<=m.length:=by rw[hml,hk.1];exact Nat.le_add_right _ _
  rw[<- Vi,e1];congr 1;rw[List.length_drop,show m.length=l1.length+(m.length-k)from by omega,Va];have j:l1.length+(m.length-k)-k=m.length-k:=by omega
  rw[j]
 |a+1,[],fs,l,m,h,hn,hk,hm,hp=>by simp at hn
 |a+1,c::es,fs,l,m,⟨l1,l2,h1,h2,h3,h4⟩,hn,hk,hm,hp=>by
  subst h1;have hl1:=h3.1.length;have b:=RL.put (a:=a) h4 (by simp at hn;omega) hk hm hp;refine⟨l1,Sw.splice l2 (a*k) m,?_,h2,h3,?_⟩
  .have e1:(a+1)*k=l1.length+a*k:=by rw[Xm];omega
   unfold Sw.splice;rw[e1,Vb,show l1.length+a*k+m.length=l1.length+(a*k+m.length)from by omega,Va];simp
  .have e:a+1+fs.length=(a+fs.length)+1:=by omega
   simpa[e]using b
def SrcP(P:Program)(H:Qc)(x:A)(k:Nat)(es:List (List A)):Prop:=
 ∀fr ro σ w v,Sim fr ro σ H w->VR ro σ w x v->(∃a c,v=.slice a es.length c)/\
  ∀j,j<=es.length->allK k (es.take j)/\ ∃l,(Builtin.firstCells k j v).run P w=.ok l.toArray w/\LR ro [] w (es.take j).flatten l/\ ∀v∈l,Ql v
theorem Qi5{fr ro:Nat->Prop}{σ:Sig}{w:World}{k j b off n c:Nat}{es:List (List A)}(h:RR ro [] w b k es off)(e:j<=es.length):
  allK k (es.take j)/\ ∃l,(Builtin.firstCells k j (.slice (some ⟨b,off,none⟩) n c)).run P w=.ok l.toArray w/\LR ro [] w (es.take j).flatten l/\ ∀v∈l,Ql v:=by
 obtain⟨f,i,a⟩:=(h.take j).flat;rw[Xy,XB e]at a;obtain⟨l,g,d⟩:=Qb5 (P:=P) (n:=j) (c:=c) f a;refine⟨i,l,?_,d⟩;exact g w rfl
theorem QeE{k n c:Nat}{a:Option Addr}{w:World}:(Builtin.firstCells k 0 (.slice a n c)).run P w=.ok #[] w:=by
 cases a<;>simp[Builtin.firstCells,loadCells,loadCellsFrom,go_sem]
theorem SrcP.osl{i s n k t:Nat}{es es':List (List A)}(hH:H[i]?=some (.row t k es))(he:(es.drop s).take n=es')(E:s+n<=es.length):SrcP P H (.osl i s n k) k es':=by
 intro fr G σ w v sm h;have d:es'.length=n:=by rw[<- he];simp;omega
 rcases h with⟨rfl,rfl⟩|⟨b,p,a,z,m,x,rfl,q,J,B,F⟩
 .have e:es'=[]:=VJ.1 d;subst e;refine⟨⟨none,0,rfl⟩,λj f=>?_⟩;obtain rfl:j=0:=by simpa using f
  exact⟨trivial,[],QeE,rfl,by simp⟩
 .rw[d];refine⟨⟨_,a,rfl⟩,λj f=>?_⟩;obtain⟨l,r,u⟩:=sm.blk i _ _ x hH;have g:=((YG (pre:=[]) (by simpa using r) u).drop s).take n;rw[he]at g;by_cases y:0<a
  .obtain rfl:=q y;simpa using Qi5 (P:=P) (fr:=fr) (σ:=σ) (n:=n) (c:=a) g (by rw[d];exact f)
  .obtain rfl:j=0:=by omega
   exact⟨trivial,[],QeE,rfl,by simp⟩
end
end Go.Sw
namespace Go.Sw
open Go.MapKept
section
variable {fr ro ro':Nat->Prop} {σ:Sig} {H:Qc} {w:World}
end
end Go.Sw
namespace Go.Sw
section
variable {P:Program} {o:Oper} {env:Env} {H:Qc} {α:Type} {e:α->List A}
end
end Go.Sw
namespace Go.Sw
open Go.MapKept
section
variable {P:Program} {o:Oper} {env:Env} {H:Qc}
theorem QjM{T:Nat}(b:o.op=.makeMap T none:=by exact rfl):OpH P o env H (.map H.length) (H++[.mapP []]):=by
 intro e d σ N a w r;refine⟨.map (some w.heap.size),w.alloc (.map #[] 0),d,[some w.heap.size],?_,⟨w.heap.size,?_,rfl⟩,r.sim.alloc ⟨#[],0,Q6 _ _,rfl,by simp,by simp,by simp⟩,Qf.alloc _ r.sim.roLt r.sim.frLt⟩
 .generalize a.eval=ρ at*;simp only[execOp,b,Instr.makeMap,Xl,Vm];rfl
 .rw[<- r.sim.len];simp
variable {T kt et:Nat} {α β:Type} [DecidableEq α] {ek:α->A} {ev:β->A} {x y:Operand} {i:Nat} {l:List (α×β)} {k:α} {z0:β} {z:Value}
theorem QcF(K:Y6 P kt ek){v:β}(p:YO l k=some v)(O:P.underlying T=some (.map kt et))
  (t:o.op=.lookup T x y false:=by exact rfl)(hx:opA env x=.map i:=by exact rfl)(hH:H[i]?=some (.mapP (Qk ek ev l)):=by exact rfl)(hy:opA env y=ek k:=by exact rfl):OpV P o env H (ev v):=by
 intro Y R σ N a w r;have h:=Qe r x;rw[hx]at h;obtain⟨b,z,M⟩:=h;have m:=Qe r y;rw[hy]at m;have u:=VR.val (K.scl _) m;obtain⟨B,d,F,g,Q,V,G⟩:=r.sim.blk i _ _ z hH;obtain⟨J,L⟩:=ER.find K g k G;rcases K.find w k B.toList (Qbp K g)with⟨n,f⟩|⟨j,e,n,f,E⟩
 .have:=(J f).1;rw[p]at this;cases this
 .obtain⟨X,W,q,s⟩:=L j e f E;rw[p]at q;obtain rfl:=XZ q;refine⟨e.val,?_,s⟩;simp only[execOp,t,M,u,Instr.lookup,Vm,run_underlying O,Result.andThen,MapKept.run_getObj_map F,Vn,K.check,n];rfl
theorem QjJ(K:Y6 P kt ek)(L:YO l k=none)(M:P.underlying T=some (.map kt et))(q:∀w,(zeroValue et).run P w=.ok (.pointer none) w)
  (s:o.op=.lookup T x y false:=by exact rfl)(hx:opA env x=.map i:=by exact rfl)(hH:H[i]?=some (.mapP (Qk ek ev l)):=by exact rfl)(hy:opA env y=ek k:=by exact rfl):OpV P o env H .nilp:=by
 intro fr R σ N a w r;have h:=Qe r x;rw[hx]at h;obtain⟨b,u,J⟩:=h;have m:=Qe r y;rw[hy]at m;have t:=VR.val (K.scl _) m;obtain⟨z,d,E,g,Q,V,F⟩:=r.sim.blk i _ _ u hH;obtain⟨W,G⟩:=ER.find K g k F;rcases K.find w k z.toList (Qbp K g)with⟨n,f⟩|⟨j,e,n,f,B⟩
 .refine⟨.pointer none,?_,rfl⟩;simp only[execOp,s,J,t,Instr.lookup,Vm,run_underlying M,Result.andThen,MapKept.run_getObj_map E,Vn,K.check,n,q];rfl
 .obtain⟨Y,X,p,O⟩:=G j e f B;rw[L]at p;cases p
theorem Qly(K:Y6 P kt ek){v:β}{zz:Operand}(hm:YO l k=none)(hT:P.underlying T=some (.map kt et))
  (R:o.op=.mapUpdate T x y zz:=by exact rfl)(hx:opA env x=.map i:=by exact rfl)(hH:H[i]?=some (.mapP (Qk ek ev l)):=by exact rfl)(m:opA env y=ek k:=by exact rfl)(hv:opA env zz=ev v:=by exact rfl):
  OpU P o env H (H.set i (.mapP (Qk ek ev (l++[(k,v)])))):=by
 intro fr V σ N a w r;have L:=Qe r x;rw[hx]at L;obtain⟨b,F,q2⟩:=L;have M:=Qe r y;rw[m]at M;have W:=VR.val (K.scl _) M;have E:=Qe r zz;rw[hv]at E;obtain⟨G,f,p,u,B,Y,J⟩:=r.sim.blk i _ _ F hH;obtain⟨f1,f2⟩:=ER.find K u k J;have z:∀(obj:Obj) y,w.shape? b=some y->({w with heap:=w.heap.setIfInBounds b obj}:World).shape? b=some y:=by
  intro obj y m;unfold World.shape? at m;rw[p]at m;simp at m
 rcases K.find w k G.toList (Qbp K u)with⟨O,s⟩|⟨j,e,O,s,X⟩
 .have g:=r.sim.set (x':=.mapP (Qk ek ev (l++[(k,v)]))) (obj:=.map (G.push {key:=QA (ek k),val:=a.eval zz,born:=f}) (f+1)) F hH rfl (z _)
   (λe h=>⟨_,_,h,by
    rw[Qk,Xg,Array.toList_push];exact(u.mono e).append ⟨_,_,rfl,(QbY (K.scl _)),E.mono e,rfl⟩,by
    rw[Array.toList_push];intro e h;rcases VD.1 h with q|q
    .exact Nat.lt_succ_of_lt (B e q)
    .simp at q;subst q;exact Xo _,by
    rw[Array.toList_push,Xg];refine List.nodup_append.2 ⟨Y,by simp,?_⟩;intro c t d n;simp at n;subst n;obtain⟨e,h,rfl⟩:=Xf.1 t;exact Nat.ne_of_lt (B e h),by
    rw[Array.toList_push,Xg];refine List.nodup_append.2 ⟨J,by simp,?_⟩;intro c t d n;simp at n;subst n;obtain⟨e,h,rfl⟩:=Xf.1 t;exact s e h⟩)
  refine⟨_,V,[],?_,by simpa using g.1,g.2⟩;simp only[execOp,R,q2,W,Vm,Instr.mapUpdate,run_underlying hT,Result.andThen,MapKept.run_getObj_map p,K.check,O,MapKept.run_setObj_map _ p];rfl
 .obtain⟨u1,v',Q,u3⟩:=f2 j e s X;rw[hm]at Q;cases Q
end
section
variable {fr ro:Nat->Prop} {σ:Sig} {H:Qc} {w:World}
theorem Sim.shutAny(s:Sim fr ro σ H w){i b:Nat}{n:Blk}(hσ:σ[i]?=some (some b))(hH:H[i]?=some n)(hl:n.live=true):
  Sim fr (λc=>ro c\/c=b) σ (H.set i .dead) w:=by
 have f:b<w.heap.size/\ ¬ro b/\ ¬fr b:=s.own i b _ hσ hH hl;have ext:Ext ro σ w (λc=>ro c\/c=b) σ w:=⟨λ_ q=>.inl q,λ_ _=>rfl,λ_ _ q=>q,λ_ _ q=>q⟩;have a:∀(j:Nat) (v:Blk),(H.set i .dead)[j]?=some v->v≠ .dead->j≠i/\H[j]?=some v:=by
  intro j v h m;by_cases e:j=i
  .subst e;rw[Xb]at h;simp only[if_true]at h;split at h
   .cases h;exact absurd rfl m
   .simp at h
  .rw[XQ (λq=>e q.symm)]at h;exact⟨e,h⟩
 refine⟨by rw[X4];exact s.len,s.roOk.to (λ_ q=>.inl q) (λ_ _=>rfl) ?_,s.frLt,?_,?_,?_,?_,s.hidTo (· = ·) QU (XU _) (λj d x c E O N M=>M.elim id λq=>((s.hid j d x c E O N).ne i b _ hσ hH hl q).elim) (λ_ _ _ _ _ _ _ q=>q) λj d y P J F=>.inl ⟨j,y,rfl,P,(a j y J (Qeu F)).2,id,λ_ q=>q⟩⟩
 .rintro c (q|rfl)
  .exact s.roLt c q
  .exact f.1
 .rintro c (q|rfl)
  .exact s.roFr c q
  .exact f.2.2
 .intro j c v k g l;obtain⟨e,g⟩:=a j v g (QaA l);obtain⟨G,L,z⟩:=s.own j c v k g l;refine⟨G,?_,z⟩;rintro(q|rfl)
  .exact L q
  .exact e (s.inj j i c v _ k hσ g hH l hl)
 .intro j p c v t k g l B u r;exact s.inj j p c v t k g (a j v l (QaA u)).2 (a p t B (QaA r)).2 u r
 .intro j y v k g;by_cases m:v≠ .dead
  .exact(s.blk j y v k (a j v g m).2).keep ext (λ_ _ _=>rfl) (λ_ _ _ _=>rfl)
  .obtain rfl:v=.dead:=Classical.not_not.1 m;trivial
def QbS(H:Qc):List Nat->Qc
 |[]=>H
 |i::l=>QbS (H.set i .dead) l
theorem Qf7{l:List Nat}:∀{H:Qc} {j:Nat},j∉l->(QbS H l)[j]?=H[j]? :=by
 induction l with
 |nil=>intro H j _;rfl
 |cons i l a=>
  intro H j hj;rw[X6,not_or]at hj;unfold QbS;rw[a hj.2,XQ (λq=>hj.1 q.symm)]
theorem QdE:∀{l:List Nat} {ro:Nat->Prop} {H:Qc} (s:Sim fr ro σ H w),l.Nodup->(∀i∈l,∃x,H[i]?=some x/\x.live=true)->
  ∃ro',Sim fr ro' σ (QbS H l) w/\(∀c,ro c->ro' c)/\ ∀i∈l,∀b,σ[i]?=some (some b)->ro' b
 |[],ro,H,s,_,_=>⟨ro,s,λ_ q=>q,λ_ h=>by cases h⟩
 |i::l,ro,H,s,hn,hl=>by
  rw[List.nodup_cons]at hn;obtain⟨x,hx,hxl⟩:=hl i (by simp);have rest:∀i'∈l,∃x,(H.set i .dead)[i']?=some x/\x.live=true:=by
   intro i' a;obtain⟨y,n,k⟩:=hl i' (X5 _ a);exact⟨y,by rw[XQ (λq=>hn.1 (by rw[q];exact a))];exact n,k⟩
  have p:∃q,σ[i]?=some q:=by
   have:i<σ.length:=by rw[s.len];exact(XM.1 hx).1
   exact⟨_,XL this⟩
  obtain⟨q,j⟩:=p;cases q with
  |some b=>
   obtain⟨ro',f,e,g⟩:=QdE (s.shutAny j hx hxl) hn.2 rest;refine⟨ro',f,λc r=>e c (.inl r),λi' a m d=>?_⟩;rcases X6.1 a with rfl|a
   .rw[j]at d;cases d;exact e _ (.inr rfl)
   .exact g i' a m d
  |none=>
   obtain⟨ro',f,e,g⟩:=QdE (s.kill i) hn.2 rest;refine⟨ro',f,e,λi' a m d=>?_⟩;rcases X6.1 a with rfl|a
   .rw[j]at d;cases d
   .exact g i' a m d
end
end Go.Sw
namespace Go.Sw
structure Fil (α β:Type) where
 number:Int
 r0:List α
 r1:List α
 r2:List α
 reports:List β
 appeal:Bool
 deriving DecidableEq
structure FK (α β:Type) where
 T:Nat
 tF:Nat
 kF:Nat
 tR:Nat
 kR:Nat
 eF:α->List A
 eR:β->List A
section
variable {α β:Type} (K:FK α β)
def QmC(b:Nat)(x:Fil α β):List A:=[.int .i64 x.number,.osl (b+1) 0 x.r0.length K.kF,.osl (b+2) 0 x.r1.length K.kF,.osl (b+3) 0 x.r2.length K.kF,.osl (b+4) 0 x.reports.length K.kR,.bool x.appeal]
def Qkl(b:Nat)(x:Fil α β):List Blk:=[.cells K.T (QmC K b x),.row K.tF K.kF (x.r0.map K.eF),.row K.tF K.kF (x.r1.map K.eF),.row K.tF K.kF (x.r2.map K.eF),.row K.tR K.kR (x.reports.map K.eR)]
def fall:Nat->List (Fil α β)->List Blk
 |_,[]=>[]
 |b,x::l=>Qkl K b x++fall (b+5) l
def frp(x:Fil α β):List A:=[.int .i64 x.number,.rsl K.kF (x.r0.map K.eF),.rsl K.kF (x.r1.map K.eF),.rsl K.kF (x.r2.map K.eF),.rsl K.kR (x.reports.map K.eR),.bool x.appeal]
def fent:Nat->List (Fil α β)->List (Int×Nat)
 |_,[]=>[]
 |b,x::l=>(x.number,b)::fent (b+5) l
def Qea(j:Nat):A:=.ptr j 0
def rpE(x:Fil α β):A:=.rp (frp K x)
def Qee(fs:List (Fil α β)):List (Int×Fil α β):=fs.map λx=>(x.number,x)
theorem Qgf(b:Nat)(x:Fil α β)(l:List (Fil α β)):fall K b (x::l)=Qkl K b x++fall K (b+5) l:=rfl
theorem Qge(b:Nat)(x:Fil α β):(Qkl K b x).length=5:=rfl
end
section
variable {fr ro ro':Nat->Prop} {σ:Sig} {w:World}
theorem Qa5(sub:∀c,ro c->ro' c){i t k:Nat}{es:List (List A)}{v:Value}(g:∀b,σ[i]?=some (some b)->BR ro σ w (.row t k es) (some b)/\ro' b)(h:VR ro σ w (.osl i 0 es.length k) v):VR ro' [] w (.rsl k es) v:=by
 rcases h with⟨r,h⟩|⟨b,p,a,y,m,u,h,f,e,z,B⟩
 .have:es=[]:=VJ.1 r;subst this;exact⟨none,0,h,XU _,.inl rfl⟩
 .refine⟨_,a,h,e,?_⟩;by_cases d:es=[]
  .exact .inl d
  .right;have x:0<a:=Vf (List.length_pos_iff.2 d) e;obtain rfl:=f x;obtain⟨⟨l,j,s⟩,n⟩:=g b u;refine⟨b,0,by simp,n,?_⟩;have:=YG (pre:=[]) (by simpa using j) s;exact this.keep ⟨sub,λ_ _=>rfl,λ_ _ q=>q,λ_ _ q=>q⟩ rfl
theorem Qhv{ro:Nat->Prop}{w:World}{b t:Nat}:∀{cs:List A} {pre l:List Value},w.heap[b]?=some (.cells (pre++l).toArray t (0,0))->LR ro [] w cs l->(∀v∈l,Ql v)->CR ro [] w b cs pre.length
 |[],pre,l,_,_,_=>trivial
 |a::cs,pre,l,hb,hl,hp=>by
  obtain⟨v,l',rfl,h1,h2⟩:=hl;refine⟨⟨v,?_,hp v (by simp),h1⟩,?_⟩
  .unfold World.cell?;rw[hb];simp
  .have:=Qhv (pre:=pre++[v]) (l:=l') (by simpa using hb) h2 λu hu=>hp u (X5 _ hu);simpa using this
variable {α β:Type} (K:FK α β)
theorem Qoa(sub:∀c,ro c->ro' c){b:Nat}{x:Fil α β}{v:Value}(f:∀(d c:Nat) (y:Blk),(Qkl K b x)[d]?=some y->σ[b+d]?=some (some c)->BR ro σ w y (some c)/\ro' c)(h:VR ro σ w (.ptr b 0) v):VR ro' [] w (.rp (frp K x)) v:=by
 obtain⟨c,z,E⟩:=h;obtain⟨⟨l,G,a,m⟩,g⟩:=f 0 c _ rfl z;refine⟨c,0,E,g,?_⟩;refine Qhv (pre:=[]) (by simpa using G) ?_ m;unfold QmC at a;obtain⟨v0,O,rfl,p,a⟩:=a;obtain⟨j,J,rfl,n,a⟩:=a;obtain⟨k,M,rfl,u,a⟩:=a;obtain⟨q,H,rfl,s,a⟩:=a;obtain⟨B,L,rfl,r,a⟩:=a;obtain⟨F,N,rfl,i,a⟩:=a;refine⟨v0,_,rfl,p,j,_,rfl,Qa5 sub (t:=K.tF) (λc e=>f 1 c _ rfl e) (by simpa using n),k,_,rfl,Qa5 sub (t:=K.tF) (λc e=>f 2 c _ rfl e) (by simpa using u),q,_,rfl,Qa5 sub (t:=K.tF) (λc e=>f 3 c _ rfl e) (by simpa using s),
  B,_,rfl,Qa5 sub (t:=K.tR) (λc e=>f 4 c _ rfl e) (by simpa using r),F,_,rfl,i,a⟩
theorem Qnu(sub:∀c,ro c->ro' c){ek:Int->A}(hek:∀(k:Int) (v:Value),VR ro σ w (ek k) v->VR ro' [] w (ek k) v):∀{b:Nat} {fs:List (Fil α β)} {es:List MapEntry},(∀(d c:Nat) (y:Blk),(fall K b fs)[d]?=some y->σ[b+d]?=some (some c)->BR ro σ w y (some c)/\ro' c)->
  ER ro σ w (Qk ek Qea (fent b fs)) es->ER ro' [] w (Qk ek (rpE K) (Qee fs)) es
 |b,[],es,_,h=>h
 |b,x::l,es,hb,h=>by
  obtain⟨e,l',rfl,h1,h2,h3⟩:=h;refine⟨e,l',rfl,hek _ _ h1,?_,?_⟩
  .refine Qoa K sub (λd c y hy hc=>hb d c y ?_ hc) h2;rw[Qgf,XN (XM.1 hy).1];exact hy
  .refine Qnu sub hek (b:=b+5) (fs:=l) (λd c y hy hc=>hb (d+5) c y ?_ (by rw[show b+(d+5)=b+5+d by omega];exact hc)) h3;rw[Qgf,XO (by rw[Qge];omega),Qge,Nat.add_sub_cancel];exact hy
end
section
variable {fr ro:Nat->Prop} {σ:Sig} {w:World} {α β:Type} (K:FK α β)
theorem Sim.shutMapP{H:Qc}(s:Sim fr ro σ H w){i b:Nat}{es es':List (A×A)}(hσ:σ[i]?=some (some b))(hH:H[i]?=some (.mapP es))(he:∀l,ER ro σ w es l->ER (λc=>ro c\/c=b) [] w es' l):
  Sim fr (λc=>ro c\/c=b) σ (H.set i (.fmap es')) w:=by
 have k:b<w.heap.size/\ ¬ro b/\ ¬fr b:=s.own i b _ hσ hH rfl;have ext:Ext ro σ w (λc=>ro c\/c=b) σ w:=⟨λ_ q=>.inl q,λ_ _=>rfl,λ_ _ q=>q,λ_ _ q=>q⟩;have a:∀(j:Nat) (v:Blk),(H.set i (.fmap es'))[j]?=some v->v.live=true->j≠i/\H[j]?=some v:=by
  intro j v h t;by_cases e:j=i
  .subst e;rw[Xb]at h;simp only[if_true]at h;split at h
   .cases h;simp[Blk.live]at t
   .simp at h
  .rw[XQ (λq=>e q.symm)]at h;exact⟨e,h⟩
 have g:∀(j:Nat) (v:Blk),(H.set i (.fmap es'))[j]?=some v->v.holds=true->H[j]?=some v:=by
  intro j v h t;by_cases e:j=i
  .subst e;rw[Xb]at h;simp only[if_true]at h;split at h
   .cases h;cases t
   .simp at h
  .rw[XQ (λq=>e q.symm)]at h;exact h
 refine⟨by rw[X4];exact s.len,s.roOk.to (λ_ q=>.inl q) (λ_ _=>rfl) ?_,s.frLt,?_,?_,?_,?_,s.hidTo (· = ·) QU (XU _) (λj d x c L Q P O=>O.elim id λq=>((s.hid j d x c L Q P).ne i b _ hσ hH rfl q).elim) (λ_ _ _ _ _ _ _ q=>q) λj d y R N M=>.inl ⟨j,y,rfl,R,g j y N M,id,λ_ q=>q⟩⟩
 .rintro c (q|rfl)
  .exact s.roLt c q
  .exact k.1
 .rintro c (q|rfl)
  .exact s.roFr c q
  .exact k.2.2
 .intro j c v m f p;obtain⟨e,f⟩:=a j v f p;obtain⟨u,z,r⟩:=s.own j c v m f p;refine⟨u,?_,r⟩;rintro(q|rfl)
  .exact z q
  .exact e (s.inj j i c v _ m hσ f hH p rfl)
 .intro j B c v F m f p J G E;exact s.inj j B c v F m f (a j v p G).2 (a B F J E).2 G E
 .intro j y v m f;by_cases e:j=i
  .subst e;rw[Xa (XM.1 hH).1]at f;cases f;rw[hσ]at m;cases m;obtain⟨l,n,u,z,r⟩:=s.blk j _ _ hσ hH;exact⟨.inr rfl,l,n,u,he _ z,r⟩
  .rw[XQ (λq=>e q.symm)]at f;exact(s.blk j y v m f).keep ext (λ_ _ _=>rfl) (λ_ _ _ _=>rfl)
end
end Go.Sw
namespace Go.Sw
open Go.Sort Go.Proofs Go.Shelf
theorem Qmb{α:Type}{l:List α}(h:l.length=1):∃v,l=[v]:=by
 match l,h with
 |[v],_=>exact⟨v,rfl⟩
theorem Qe3{α β:Type}(f:α->β):∀l:List α,(l.map λa=>[f a]).flatten=l.map f
 |[]=>rfl
 |a::l=>by simp[Qe3 f l]
structure Elt1 (ro:Nat->Prop) (w:World) {T:Type} (ea:T->A) (l:List T) where
 x:T
 v:Value
 mem:x∈l
 rel:VR ro [] w (ea x) v
 plain:Ql v
theorem Qoi{P:Program}{ρ:Ren}(L0:SlLaysF0.n6 P ρ){T:Type}[DecidableEq T]{ea:T->A}{t g:Nat}{cap:List A}{l l':List T}{cf:T->T->Option Int}(hs:QbM cf l=some l')
  (a1:∀x y c,cf x y=some c->C P g ([ea x,ea y]++cap) [] (λa H=>a=.int .i64 c/\H=[]))
  (aE:∀w,(isAgg (ρ.t 24)).run P w=.ok false w)(zE:∀w,(Go.sizeOf (ρ.t 24)).run P w=.ok 1 w)(eg:∀args w,(callFunc g args).run P w=.ok (.enter g args) w)(hd:Ya cap=true):
  C P (ρ.f 6) [.osl 0 0 l.length 1,.fn (.func g) [] cap] [.row t 1 (l.map λx=>[ea x])] (λa H=>a=.tup []/\H=[.row t 1 (l'.map λx=>[ea x])]):=by
 have L:SlLaysF.n6 P ρ:={L0 with a24:=aE,z24:=zE};intro fr F σ vals w s hv;obtain⟨vs,r1,rfl,bg,vf,r2,rfl,bm,hr⟩:=hv;cases(show r2=[]from hr);obtain⟨lf,lc,rfl,h1,a8⟩:=bm;cases(show lf=[]from h1);have ao:LR F [] w cap lc:=LR.data hd a8;obtain⟨a7,ah,M,an,a9⟩:=QcI hs;have B:∀(ad:Option Addr) (c:Nat),vs=.slice ad 0 c->l=[]->
   Calls P (ρ.f 6) [vs,.func (.func g) #[] lc.toArray].toArray w λe w'=>∃v r H' ac τ,e=.returned v/\(r=.tup []/\H'=[.row t 1 (l'.map λx=>[ea x])])/\Sim fr ac (σ++τ) H' w'/\VR ac (σ++τ) w' r v/\Qf fr F w ac w':=by
  rintro ad c rfl rfl;have ae:l'=[]:=by rw[<- a9];rfl
  subst ae;refine(AnyF.slices_SortFunc_none L0 ad c (.func (.func g) #[] lc.toArray) w).mono ?_;rintro e w' ⟨rfl,rfl⟩;exact⟨_,_,_,F,[],rfl,⟨rfl,rfl⟩,by simpa using s,⟨[],rfl,rfl⟩,Qf.refl _ _ _⟩
 rcases bg with⟨h0,rfl⟩|⟨b,p,cp,t',m,q1,rfl,q2,q3,q4,q5⟩
 .exact B none 0 rfl (VJ.1 h0)
 .by_cases ae:l=[]
  .subst ae;exact B _ cp rfl rfl
  .have bk:0<l.length:=List.length_pos_iff.2 ae;obtain rfl:=q2 (Vf bk q3);obtain⟨lv,e1,e2⟩:=s.blk 0 _ _ q1 rfl;obtain⟨hb,af,aw⟩:=s.own 0 b _ q1 rfl rfl;obtain⟨R,G,ax,rfl,bo⟩:=RL.parts e2
   let α:=Elt1 F w ea l
   have ay:∀p∈R,p.1∈l:=λp hp=>by rw[<- ax];exact VG hp
   have ba:∀p∈R,∃v,p.2=[v]/\VR F [] w (ea p.1) v/\Ql v:=by
    intro p hp;obtain⟨g1,g2,g3⟩:=bo p hp;obtain⟨v,e⟩:=Qmb g1;rw[e]at g2 g3;obtain⟨v',l',e',g4,g5⟩:=g2;cases e';exact⟨v,e,g4,g3 v (by simp)⟩
   let val:List Value->Value:=λl=>l.headD .nilFunc
   have Y:∀p∈R,p.2=[val p.2]/\VR F [] w (ea p.1) (val p.2)/\Ql (val p.2):=by
    intro p hp;obtain⟨v,e,g⟩:=ba p hp;rw[e];exact⟨rfl,g⟩
   let ds:List α:=R.attach.map λp=>⟨p.1.1,val p.1.2,ay _ p.2,(Y _ p.2).2.1,(Y _ p.2).2.2⟩
   have av:∀{γ:Type} (f:T×List Value->γ),R.attach.map (λp=>f p.1)=R.map f:=λf=>by simp
   have Q:ds.map (·.x)=l:=by
    show(R.attach.map _).map _=_;rw[List.map_map];exact(av (·.1)).trans ax
   have a5:ds.map (·.v)=R.map λp=>val p.2:=by
    show(R.attach.map _).map _=_;rw[List.map_map];exact av λp=>val p.2
   have au:ds.length=l.length:=by rw[<- Q];simp
   have a4:ds≠[]:=by intro q;rw[q]at au;simp at au;omega
   let inh:Inhabited α:=⟨ds.head a4⟩
   let enc':α->Value:=λa=>a.v
   let cf':α->α->Int:=λx y=>(cf x.x y.x).getD 0
   have ab:∀x y:α,ltOf cf' x y=ltO cf x.x y.x:=by
    intro x y;obtain⟨c,u⟩:=ah x.x x.mem y.x y.mem;simp only[ltOf,ltO,cf',u,Option.getD_some]
   have hO:SWO (ltOf cf'):=⟨λx=>by rw[ab];exact M.irrefl _ x.mem,λx y z a b=>by rw[ab]at*;exact M.trans _ x.mem _ y.mem _ z.mem a b,
    λx y z a b=>by rw[ab]at*;exact M.ntrans _ x.mem _ y.mem _ z.mem a b⟩
   have bh:(R.map (·.2)).flatten=ds.map enc':=by
    have e3:R.map (·.2)=(R.map λp=>val p.2).map λv=>[v]:=by
     rw[List.map_map];exact List.map_congr_left λp hp=>(Y p hp).1
    rw[e3, <- a5];have:=Qe3 (λv:Value=>v) (ds.map (·.v));rw[this];simp[enc']
   rw[bh]at e1;have hH:Holds enc' w b 0 ds.toArray:=by
    intro j hj;simp only[List.size_toArray]at hj;constructor
    .unfold World.cell?;simp only[e1,Option.isSome_none,Xj,if_false,Xw];rw[Qad,XN (by simpa using hj),Xq,Qe0 _ _ hj];rfl
    .unfold World.frozen?;simp only[e1];simp
   have ak:∀(d:Array α),d.size=ds.toArray.size->(putRow enc' w b 0 d).heap=w.heap.setIfInBounds b (.cells ((d.toList.map enc'++G)).toArray t (0,0)):=by
    intro d k;have aq:(d.toList.map enc').length=(ds.map enc').length:=by simp at k⊢;rw[k]
    unfold putRow mapBlock;show w.heap.modify b _=_;rw[Qbg e1];simp only[onCells];congr 2;unfold putCells;apply Array.ext_getElem?;intro i;simp only[Array.getElem?_mapIdx,Qad,XV,true_and,Xw,Xv];by_cases hi:i<d.size
    .have X:i<(d.toList.map enc').length:=by simpa using hi
     rw[XN X,XN (by rw[<- aq];exact X),XL (by rw[<- aq];exact X),XL X];simp only[Xk,Vt hi];congr 1;rw[getElem!_pos d i hi];simp
    .have X:¬i<(d.toList.map enc').length:=by simpa using hi
     rw[XO (by omega),XO (by omega),aq];cases(G[i-(ds.map enc').length]?)with
     |none=>rfl
     |some v=>exact congrArg some (Vs hi)
   have O:∀(m:Nat) (os:Array Obj) (d:Array α),d.size=ds.toArray.size->
     (∀c,c<w.heap.size->c≠b->(sortWorld enc' w b 0 m d os).heap[c]?=w.heap[c]?)/\(sortWorld enc' w b 0 m d os).heap[b]?=some (.cells ((d.toList.map enc'++G)).toArray t (0,0))/\
     w.heap.size<=(sortWorld enc' w b 0 m d os).heap.size:=by
    intro m os d k;have e:(sortWorld enc' w b 0 m d os).heap=w.heap.setIfInBounds b (.cells ((d.toList.map enc'++G)).toArray t (0,0))++os:=by
     rw[<- ak d k];rfl
    rw[e];refine⟨λc u bf=>?_,?_,by simp⟩
    .rw[Array.getElem?_append_left (by simpa using u),Ve,Vs (λq=>bf q.symm)]
    .rw[Array.getElem?_append_left (by simpa using hb),Ve,Vt rfl,Vt hb]
   have N:∀(m:Nat) (os:Array Obj) (d:Array α),d.size=ds.toArray.size->∀c y,w.shape? c=some y->(sortWorld enc' w b 0 m d os).shape? c=some y:=by
    intro m os d k c y hy;obtain⟨g1,g2,g3⟩:=O m os d k;by_cases u:c=b
    .subst u;unfold World.shape? at hy⊢;rw[e1]at hy;rw[g2];simp only[Option.some.injEq]at hy⊢;rw[<- hy];congr 1;simp only[List.size_toArray,X3,X2];simp at k⊢;rw[k]
    .unfold World.shape? at hy⊢;rw[g1 c (QbN hy) u];exact hy
   have ai:∀(m:Nat) (os:Array Obj) (d:Array α),d.size=ds.toArray.size->∀τ,Ext F τ w F τ (sortWorld enc' w b 0 m d os):=by
    intro m os d k τ;obtain⟨g1,g2,g3⟩:=O m os d k;exact⟨λ_ q=>q,λc u=>g1 c (s.roLt c u) (λq=>af (q▸u)),N m os d k,λ_ _ q=>q⟩
   have bd:CmpLays1 P g lc.toArray enc' cf' b 0 ds.toArray.size w:=by
    intro m os dk a6 x y;obtain⟨c,u⟩:=ah x.x x.mem y.x y.mem;have E:=ai m os dk a6 [];have bn:=a1 _ _ _ u;generalize hW:sortWorld enc' w b 0 m dk os=W at*;have bl:w.heap.size<=W.heap.size:=by rw[<- hW];exact(O m os dk a6).2.2
    have sW:Sim (λc=>c<W.heap.size/\ ¬F c) F [] [] W:=
     ⟨rfl,s.roOk.to (λ_ q=>q) E.keep (λc u=>Vf (s.roLt c u) bl),λc u=>u.1,λc u hf=>hf.2 u,λi b x h=>by simp at h,λi j b x y h=>by simp at h,λi y x h=>by simp at h,λi b x c h=>by simp at h⟩
    have ar:LR F [] W ([ea x.x,ea y.x]++cap) ([x.v,y.v]++lc):=
     LR.append (show LR F [] W [ea x.x,ea y.x] [x.v,y.v]from⟨_,_,rfl,x.rel.mono E,_,_,rfl,y.rel.mono E,rfl⟩) (ao.mono E)
    have J:=bn _ F [] _ W sW ar;have be:(([x.v,y.v]++lc).toArray:Array Value)= #[enc' x,enc' y]++lc.toArray:=by simp[enc']
    rw[be]at J;refine J.mono ?_;rintro e w' ⟨v,r,H',ac,τ,rfl,⟨rfl,rfl⟩,s',bc,ev⟩;refine⟨?_,?_⟩
    .rw[show v=.int .i64 c from bc];simp only[cf',u,Option.getD_some]
    .refine Qkh (λc u=>?_) ev.size ev.os ev.tape ev.output ev.drawn;by_cases a2:F c
     .exact ev.keepRo c a2
     .exact ev.keepFr c ⟨u,a2⟩
   have V:ds.toArray.size=l.length:=by simpa using au
   have bq:b+0=b:=rfl;have ag:=Any.slices_SortFunc L enc' (λx=>QfZ x.plain) cf' hO g lc.toArray b 0 cp ds.toArray w eg bd hH hb (by rw[V];unfold Qp at a7;omega);rw[V]at ag;rw[Nat.zero_mul];refine ag.mono ?_;rintro e w' ⟨rfl,d,n,os,aa,aj,rfl⟩;have k:d.size=ds.toArray.size:=aa.1;obtain⟨g1,g2,g3⟩:=O n os d k;have al:d.toList.Perm ds:=by
    have h:=aa.2.2;have x1:d.extract 0 l.length=d:=by rw[<- V, <- k];exact Array.extract_size
    have x2:ds.toArray.extract 0 l.length=ds.toArray:=by rw[<- V];exact Array.extract_size
    rw[x1,x2]at h;simpa using h
   have a0:d.toList.map (·.x)=l':=by
    rw[<- a9];refine Jf (lt:=ltO cf) ?_ ?_ ?_ (QZ M)
    .exact((al.map (·.x)).trans (by rw[Q])).trans (Qn _ _).symm
    .intro x hx y hy;have bi:x∈l:=by rw[<- Q];exact(al.map (·.x)).mem_iff.1 hx
     have bj:y∈l:=by rw[<- Q];exact(al.map (·.x)).mem_iff.1 hy
     exact an x bi y bj
    .rw[VE];intro i j hi hj bb;simp only[X2]at hi hj;simp only[List.getElem_map];rw[<- ab];have:=aj i j (XV _) bb (by rw[<- V, <- k];simpa using hj);rw[getElem!_pos d j (by simpa using hj),getElem!_pos d i (by simpa using hi)]at this;simpa using this
   have bp:RL F [] (sortWorld enc' w b 0 n d os) 1 (l'.map λx=>[ea x]) (d.toList.map enc'++G):=by
    have e3:d.toList.map enc'=((d.toList.map λa=>(a.x,[a.v])).map (·.2)).flatten:=by
     rw[List.map_map];exact(Qe3 (λa:α=>a.v) d.toList).symm
    have e4:l'=(d.toList.map λa=>(a.x,[a.v])).map (·.1):=by rw[<- a0];simp
    rw[e3,e4];refine QbZ (enc:=λx=>[ea x]) (λ_=>rfl) ?_;intro p hp;obtain⟨a,_,rfl⟩:=Xf.1 hp;exact⟨⟨_,_,rfl,a.rel.mono (ai n os d k []),rfl⟩,λv hv=>by rw[VB.1 hv];exact a.plain⟩
   have a3:Qf fr F w F (sortWorld enc' w b 0 n d os):=
    ⟨λ_ q=>q,λc u=>g1 c (s.roLt c u) (λq=>af (q▸u)),λc u=>g1 c (s.frLt c u) (λq=>aw (q▸u)),g3,N n os d k,rfl,rfl,rfl,Nat.le_add_right _ _⟩
   have am:σ.length=1:=s.len;have az:Sim fr F σ [.row t 1 (l'.map λx=>[ea x])] (sortWorld enc' w b 0 n d os):=by
    have i0:∀{i:Nat} {x:Blk},([.row t 1 (l'.map λx=>[ea x])]:Qc)[i]?=some x->i=0/\x=.row t 1 (l'.map λx=>[ea x]):=by
     intro i x h;cases i with
     |zero=>simp at h;exact⟨rfl,h.symm⟩
     |succ i=>simp at h
    refine⟨am,s.roOk.to (λ_ q=>q) a3.keepRo (λc u=>Vf (s.roLt c u) g3),λc u=>Vf (s.frLt c u) g3,s.roFr,λi c x h1 h2 h3=>?_,λi j c x y h1 h2 h3 h4 _ _=>?_,λi y x h1 h2=>?_,λi b x c h1 h2 h3=>by obtain⟨rfl,rfl⟩:=i0 h2;exact h3.elim⟩
    .obtain⟨rfl,rfl⟩:=i0 h2;obtain⟨p1,p2⟩:=s.own 0 c _ h1 rfl rfl;exact⟨Vf p1 g3,p2⟩
    .rw[(i0 h3).1,(i0 h4).1]
    .obtain⟨rfl,rfl⟩:=i0 h2;rw[q1]at h1;cases h1;exact⟨_,g2,bp⟩
   exact⟨_,_,_,F,[],rfl,⟨rfl,rfl⟩,by simpa using az,⟨[],rfl,rfl⟩,a3⟩
end Go.Sw
namespace Go.Sw
structure Pl where
 b:Nat
 i0:Nat
 i1:Nat
 i2:Nat
 i3:Nat
def Pl.ix(p:Pl):List Nat:=[p.b,p.i0,p.i1,p.i2,p.i3]
section
variable {α β:Type} (K:FK α β)
def Q1(p:Pl)(x:Fil α β):List A:=[.int .i64 x.number,.osl p.i0 0 x.r0.length K.kF,.osl p.i1 0 x.r1.length K.kF,.osl p.i2 0 x.r2.length K.kF,.osl p.i3 0 x.reports.length K.kR,.bool x.appeal]
structure QbG (H:Qc) (x:Fil α β) (p:Pl):Prop where
 c:H[p.b]?=some (.cells K.T (Q1 K p x))
 r0:H[p.i0]?=some (.row K.tF K.kF (x.r0.map K.eF))
 r1:H[p.i1]?=some (.row K.tF K.kF (x.r1.map K.eF))
 r2:H[p.i2]?=some (.row K.tF K.kF (x.r2.map K.eF))
 r3:H[p.i3]?=some (.row K.tR K.kR (x.reports.map K.eR))
abbrev Qa0(α β:Type):=List (Fil α β×Pl)
def YJ(bk:Qa0 α β):List (Int×Nat):=bk.map λe=>(e.1.number,e.2.b)
structure Ys (lo:Nat) (H:Qc) (bk:Qa0 α β):Prop where
 laid:∀e∈bk,QbG K H e.1 e.2
 own:∀e∈bk,e.2.ix.Nodup
 ne:bk.Pairwise λe f=>∀i∈e.2.ix,i∉f.2.ix
 lo:∀e∈bk,∀i∈e.2.ix,lo<=i
 num:(bk.map (·.1.number)).Nodup
variable {K} {lo:Nat} {H H':Qc} {bk l r:Qa0 α β} {e:Fil α β×Pl} {x':Fil α β} {p':Pl}
theorem Ys.nil:Ys K lo H ([]:Qa0 α β):=⟨(λ_ h=>by cases h),(λ_ h=>by cases h),List.Pairwise.nil,(λ_ h=>by cases h),List.nodup_nil⟩
theorem QbG.lt(h:QbG K H e.1 e.2):∀i∈e.2.ix,i<H.length:=by
 intro i a;have g:∀{j:Nat} {y:Blk},H[j]?=some y->j<H.length:=λq=>(XM.1 q).1;simp only[Pl.ix,X6,List.not_mem_nil,or_false]at a;rcases a with rfl|rfl|rfl|rfl|rfl
 .exact g h.c
 .exact g h.r0
 .exact g h.r1
 .exact g h.r2
 .exact g h.r3
theorem QbG.keep(h:QbG K H e.1 e.2)(k:∀i∈e.2.ix,H'[i]?=H[i]?):QbG K H' e.1 e.2:=by
 refine⟨?_,?_,?_,?_,?_⟩
 .rw[k _ (by simp[Pl.ix])];exact h.c
 .rw[k _ (by simp[Pl.ix])];exact h.r0
 .rw[k _ (by simp[Pl.ix])];exact h.r1
 .rw[k _ (by simp[Pl.ix])];exact h.r2
 .rw[k _ (by simp[Pl.ix])];exact h.r3
theorem Ys.keep(h:Ys K lo H bk)(k:∀j,lo<=j->j<H.length->H'[j]?=H[j]?):Ys K lo H' bk:=
 ⟨λe he=>(h.laid e he).keep λi hi=>k i (h.lo e he i hi) ((h.laid e he).lt i hi),h.own,h.ne,h.lo,h.num⟩
theorem Ys.upd(h:Ys K lo H (l++e::r))(z:QbG K H' x' p')(y:x'.number=e.1.number)(x:∀j,lo<=j->j<H.length->j∉e.2.ix->H'[j]?=H[j]?)
  (hi:∀i∈p'.ix,i∈e.2.ix\/H.length<=i)(w:p'.ix.Nodup)(hl:lo<=H.length):Ys K lo H' (l++(x',p')::r):=by
 obtain⟨u,B,n⟩:=List.pairwise_append.1 h.ne;obtain⟨t,E⟩:=Xc.1 B;have mem:∀f∈l++(x',p')::r,f=(x',p')\/(f∈l++e::r/\ ∀i∈f.2.ix,i∉e.2.ix):=by
  intro f b;rcases VD.1 b with q|q
  .exact .inr ⟨List.mem_append_left _ q,λi hi a=>n f q e (by simp) i hi a⟩
  .rcases X6.1 q with q|q
   .exact .inl q
   .exact .inr ⟨by simp[q],λi hi a=>t f q i a hi⟩
 refine⟨?_,?_,?_,?_,?_⟩
 .intro f b;rcases mem f b with rfl|⟨k,p⟩
  .exact z
  .exact(h.laid f k).keep λi hi=>x i (h.lo f k i hi) ((h.laid f k).lt i hi) (p i hi)
 .intro f b;rcases mem f b with rfl|⟨k,p⟩
  .exact w
  .exact h.own f k
 .refine List.pairwise_append.2 ⟨u,Xc.2 ⟨?_,E⟩,?_⟩
  .intro f b i a d;rcases hi i a with q|q
   .exact t f b i q d
   .have:=(h.laid f (by simp[b])).lt i d;omega
  .intro f b g s i d m;rcases X6.1 s with rfl|s
   .rcases hi i m with q|q
    .exact n f b e (by simp) i d q
    .have:=(h.laid f (by simp[b])).lt i d;omega
   .exact n f b g (by simp[s]) i d m
 .intro f b;rcases mem f b with rfl|⟨k,p⟩
  .intro i a;rcases hi i a with q|q
   .exact h.lo e (by simp) i q
   .omega
  .exact h.lo f k
 .have:=h.num;rw[Xg,Vj]at this⊢;show(_++x'.number::_).Nodup;rw[y];exact this
theorem Ys.add(h:Ys K lo H bk)(s:QbG K H' x' p')(r:∀e∈bk,e.1.number≠x'.number)(p:∀j,lo<=j->j<H.length->H'[j]?=H[j]?)
  (hi:∀i∈p'.ix,H.length<=i)(w:p'.ix.Nodup)(hl:lo<=H.length):Ys K lo H' (bk++[(x',p')]):=by
 have t:=h.keep p;have mem:∀f∈bk++[(x',p')],f∈bk\/f=(x',p'):=by
  intro f d;rcases VD.1 d with q|q
  .exact .inl q
  .exact .inr (VB.1 q)
 refine⟨?_,?_,?_,?_,?_⟩
 .intro f d;rcases mem f d with q|rfl
  .exact t.laid f q
  .exact s
 .intro f d;rcases mem f d with q|rfl
  .exact h.own f q
  .exact w
 .refine List.pairwise_append.2 ⟨h.ne,by simp,λf d g u i k l=>?_⟩;obtain rfl:=VB.1 u;have:=(h.laid f d).lt i k;have:=hi i l;omega
 .intro f d i k;rcases mem f d with q|rfl
  .exact h.lo f q i k
  .have:=hi i k;omega
 .rw[Xg];refine List.nodup_append.2 ⟨h.num,by simp,?_⟩;intro a n b m;simp at m;subst m;obtain⟨f,d,rfl⟩:=Xf.1 n;exact r f d
theorem QdA:∀(d:Qa0 α β) (k:Int),(YO (YJ d) k=none/\ ∀e∈d,e.1.number≠k)\/ ∃l e r,d=l++e::r/\e.1.number=k/\(∀y∈l,y.1.number≠k)/\YO (YJ d) k=some e.2.b
 |[],k=>.inl ⟨rfl,λ_ h=>by cases h⟩
 |e::l,k=>by
  have e0:YO (YJ (e::l)) k=if e.1.number=k then some e.2.b else YO (YJ l) k:=by
   show YO ((e.1.number,e.2.b)::YJ l) k=_;simp[YO];by_cases q:e.1.number=k<;>simp[q]
  by_cases q:e.1.number=k
  .exact .inr ⟨[],e,l,rfl,q,(λ_ h=>by cases h),by rw[e0,Vt q]⟩
  .rcases QdA l k with⟨g,f⟩|⟨p,y,r,g,f,j,i⟩
   .refine .inl ⟨by rw[e0,Vs q];exact g,λz a=>?_⟩;rcases X6.1 a with rfl|a
    .exact q
    .exact f z a
   .refine .inr ⟨e::p,y,r,by rw[g];rfl,f,λz a=>?_,by rw[e0,Vs q,i]⟩;rcases X6.1 a with rfl|a
    .exact q
    .exact j z a
theorem Qlh(p q:Qa0 α β):YJ (p++q)=YJ p++YJ q:=by simp[YJ]
theorem Qlg(a:x'.number=e.1.number)(d:p'.b=e.2.b):YJ (l++(x',p')::r)=YJ (l++e::r):=by simp[YJ,a,d]
end
section
variable {fr ro ro':Nat->Prop} {σ:Sig} {w:World} {α β:Type} (K:FK α β)
theorem Qm6(sub:∀c,ro c->ro' c){p:Pl}{x:Fil α β}{v:Value}{H:Qc}(hl:QbG K H x p)(e:∀i∈p.ix,∀(c:Nat) (y:Blk),H[i]?=some y->σ[i]?=some (some c)->BR ro σ w y (some c)/\ro' c)(h:VR ro σ w (.ptr p.b 0) v):VR ro' [] w (.rp (frp K x)) v:=by
 obtain⟨c,B,F⟩:=h;obtain⟨⟨l,J,a,m⟩,f⟩:=e p.b (by simp[Pl.ix]) c _ hl.c B;refine⟨c,0,F,f,?_⟩;refine Qhv (pre:=[]) (by simpa using J) ?_ m;unfold Q1 at a;obtain⟨v0,Q,rfl,q,a⟩:=a;obtain⟨j,M,rfl,n,a⟩:=a;obtain⟨k,O,rfl,z,a⟩:=a;obtain⟨r,L,rfl,u,a⟩:=a;obtain⟨E,N,rfl,s,a⟩:=a;obtain⟨G,P,rfl,g,a⟩:=a;refine⟨v0,_,rfl,q,j,_,rfl,Qa5 sub (t:=K.tF) (λc d=>e p.i0 (by simp[Pl.ix]) c _ hl.r0 d) (by simpa using n),k,_,rfl,Qa5 sub (t:=K.tF) (λc d=>e p.i1 (by simp[Pl.ix]) c _ hl.r1 d) (by simpa using z),r,_,rfl,Qa5 sub (t:=K.tF) (λc d=>e p.i2 (by simp[Pl.ix]) c _ hl.r2 d) (by simpa using u),
  E,_,rfl,Qa5 sub (t:=K.tR) (λc d=>e p.i3 (by simp[Pl.ix]) c _ hl.r3 d) (by simpa using s),G,_,rfl,g,a⟩
theorem QgA(sub:∀c,ro c->ro' c){H:Qc}{ek:Int->A}(hek:∀(k:Int) (v:Value),VR ro σ w (ek k) v->VR ro' [] w (ek k) v):∀{bk:Qa0 α β} {es:List MapEntry},(∀e∈bk,QbG K H e.1 e.2)->(∀e∈bk,∀i∈e.2.ix,∀(c:Nat) (y:Blk),H[i]?=some y->σ[i]?=some (some c)->BR ro σ w y (some c)/\ro' c)->
  ER ro σ w (Qk ek Qea (YJ bk)) es->ER ro' [] w (Qk ek (rpE K) (Qee (bk.map (·.1)))) es
 |[],es,_,_,h=>h
 |x::l,es,hl,hb,h=>by
  obtain⟨e,l',rfl,h1,h2,h3⟩:=h;exact⟨e,l',rfl,hek _ _ h1,Qm6 K sub (hl x (by simp)) (hb x (by simp)) h2,QgA sub hek (λe he=>hl e (by simp[he])) (λe he=>hb e (by simp[he])) h3⟩
def Qcp(bk:Qa0 α β):List Nat:=bk.flatMap λe=>e.2.ix
theorem Ys.all{lo:Nat}{H:Qc}:∀{j:Qa0 α β},Ys K lo H j->(Qcp j).Nodup/\ ∀i∈Qcp j,lo<=i/\ ∃y,H[i]?=some y/\y.live=true:=by
 intro j h;refine⟨?_,?_⟩
 .have q:=h.own;have x:=h.ne;clear h
  induction j with
  |nil=>exact List.nodup_nil
  |cons e l s=>
   obtain⟨t,w⟩:=Xc.1 x;show(e.2.ix++Qcp l).Nodup;refine List.nodup_append.2 ⟨q e (by simp),s (λf m=>q f (by simp[m])) w,?_⟩;intro a u b r n;obtain⟨f,m,k⟩:=List.mem_flatMap.1 r;exact t f m a u (n▸k)
 .intro i g;obtain⟨e,p,g⟩:=List.mem_flatMap.1 g;refine⟨h.lo e p i g,?_⟩;have d:=h.laid e p;simp only[Pl.ix,X6,List.not_mem_nil,or_false]at g;rcases g with rfl|rfl|rfl|rfl|rfl
  .exact⟨_,d.c,rfl⟩
  .exact⟨_,d.r0,rfl⟩
  .exact⟨_,d.r1,rfl⟩
  .exact⟨_,d.r2,rfl⟩
  .exact⟨_,d.r3,rfl⟩
end
section
variable {α β:Type} (K:FK α β) {env:Env} {H:Qc}
theorem Qnk{h0 lo m:Nat}{d:Qa0 α β}(E:Ys K lo H d)(t:Nat.blt m lo=true)(B:H[m]?=some (.mapP (Qk (λn=>.int .i64 n) Qea (YJ d)))):
  Le h0 env H env ((QbS H (Qcp d)).set m (.fmap (Qk (λn=>.int .i64 n) (rpE K) (Qee (d.map (·.1)))))):=by
 intro R ro σ N a w r;have s:=r.sim;obtain⟨nd,f⟩:=E.all;have M:m<lo:=by simpa[Nat.blt_eq]using t
 have P:∃q,σ[m]?=some q:=by
  have:m<σ.length:=by rw[s.len];exact(XM.1 B).1
  exact⟨_,XL this⟩
 obtain⟨q,F⟩:=P;cases q with
 |none=>exact(s.blk m _ _ F B).elim
 |some x=>
 obtain⟨b,Q,g,u⟩:=QdE s (l:=Qcp d) nd (λi z=>(f i z).2);have p:(QbS H (Qcp d))[m]?=some (.mapP (Qk (λn=>.int .i64 n) Qea (YJ d))):=by
  rw[Qf7 (λq=>by have:=(f m q).1;omega)];exact B
 have L:=Q.shutMapP (es':=Qk (λn=>.int .i64 n) (rpE K) (Qee (d.map (·.1)))) F p (λl O=>?_)
 .have sub:∀c,ro c->b c\/c=x:=λc j=>.inl (g c j);have ext:Ext ro σ w (λc=>b c\/c=x) σ w:=⟨sub,λ_ _=>rfl,λ_ _ q=>q,λ_ _ q=>q⟩;exact⟨_,σ,⟨L,λq=>(r.env q).mono ext,r.size,r.defers⟩,sub,rfl⟩
 .have ext:Ext ro σ w b σ w:=⟨g,λ_ _=>rfl,λ_ _ q=>q,λ_ _ q=>q⟩;refine QgA K (ek:=λn=>.int .i64 n) (ro:=b) (ro':=λc=>b c\/c=x) (H:=H) (λc j=>.inl j) (λk v h=>h) E.laid (λe G i z c y J j=>?_) O;exact⟨(s.blk _ _ _ j J).keep ext (λ_ _ _=>rfl) (λ_ _ _ _=>rfl),.inl (u _ (List.mem_flatMap.2 ⟨e,G,z⟩) c j)⟩
end
end Go.Sw
namespace Go.Sw
section
variable {P:Program} {h0 N:Nat} {all:Array Oper} {o:Oper} {l:List Oper} {env:Env} {H:Qc} {Q:Qv}
theorem QcE{d:Nat}{f:FuncId}{args:List A}{Qr:A->Qc->Prop}(i:OpC P o env H f args)(x:C P f args H Qr)
  (k:∀r H1,Qr r H1->WO P h0 N all l (up env d r) H1 Q)(G:h0<=H.length)(hg:Qm all o env true:=by exact rfl)(hd:o.dst=some d:=by exact rfl)(hN:Nat.blt d N=true:=by exact rfl):
  WO P h0 N all (o::l) env H Q:=by
 intro t fr n σ a w r hrd;obtain⟨b,B,p⟩:=i fr n σ N a w r;refine Qdh (YA hg r) B ?_;have hσl:=r.sim.len;refine Calls.mono (x fr n σ b w r.sim p) ?_;rintro e m ⟨v,j,H1,g,τ,rfl,E,y,F,ev⟩;have z:=k j H1 E;simp only[hd,Act.put];have h:d<N:=by simpa[Nat.blt_eq]using hN
 have u:Rel fr g (σ++τ) H1 (up env d j) N {a with tmps:=a.tmps.setIfInBounds d v} m:=
  ⟨y,VR.up (fr:=fr) (λs=>(r.env s).mono (ev.ext σ τ)) (by rw[r.size];exact h) F,by simpa using r.size,r.defers.keep ev⟩
 exact⟨_,rfl,Yd (λe a w q=>q.step ev (Qs (by omega))) _ _ _ (z t fr g (σ++τ) _ m u (hrd.to ev λ_ q=>q))⟩
end
section
variable {h0 n:Nat} {env env':Env} {H H':Qc}
theorem Qnn(n:Nat)(hn:h0<=n)(hl:n<=H.length)(hH:(H'.map (QT (rho (List.range n) H.length))).map some=(List.range n).map (λp=>H[p]?))(hE:Qd7 (rho (List.range n) H.length) env env'):Le h0 env H env' H':=
 Qnl (List.range n) (by rw[List.take_range,XB hn]) hH.symm List.nodup_range hE
end
section
variable {P:Program} {o:Oper} {env:Env} {H:Qc} {α:Type}
theorem Qlw{t E n:Nat}{x y:Operand}{l:List α}{e:α->List A}{c:α}{k:IntKind}{i:Int}{v:A}(h:idx l i=some c)(hl:l.length=n)(d:∀x,∃v,e x=[v])(O:e c=[v])(p:∀w,(underlying t).run P w=.ok (.array n E) w)(q:∀w,(isAgg E).run P w=.ok false w)(M:∀w,(Go.sizeOf E).run P w=.ok 1 w)
  (s:o.op=.index t x y:=by exact rfl)(hx:opA env x=.agg (l.map e).flatten:=by exact rfl)(hy:opA env y=.int k i:=by exact rfl):OpV P o env H v:=by
 obtain⟨L,g⟩:=QaQ h;intro T R σ N a w r;have b:=Qe r x;rw[hx]at b;obtain⟨m,b,F⟩:=b;have z:=QI r hy;have Q:∀(l:List α),(l.map e).flatten[i.toNat]?=(l.map λx=>(e x).headD .any)[i.toNat]? :=by
  intro l;have:(l.map e).flatten=l.map λx=>(e x).headD .any:=by
   induction l with
   |nil=>rfl
   |cons a l G=>
    obtain⟨v,d⟩:=d a;simp[d,G]
  rw[this]
 have j:(l.map e).flatten[i.toNat]?=some v:=by
  rw[Q,Xq,g];simp[O]
 obtain⟨u,B,J⟩:=F.get _ j;have f:i<(n:Int):=by
  have:=(XM.1 g).1;omega
 refine⟨u,?_,J⟩;generalize a.eval=ρ at*;simp[execOp,s,b,z,Instr.index,asIntOf,p,L,f,M,part,q,B,go_sem]
end
end Go.Sw
namespace Go.Sw
section
variable {α β:Type}
def Qay(k:Int):Fil α β:=⟨k,[],[],[],[],false⟩
def Qah(fs:List (Fil α β))(k:Int):List (Fil α β):=bif fs.any (λx=>decide (x.number=k))then fs else fs++[Qay k]
def Qbr(fs:List (Fil α β))(k:Int)(g:Fil α β->Fil α β):List (Fil α β):=fs.map λx=>bif decide (x.number=k)then g x else x
def QdP(fs:List (Fil α β)):Bool:=fs.all λx=>Nat.ble (x.r0.length+1) Qp&&Nat.ble (x.r1.length+1) Qp&&Nat.ble (x.r2.length+1) Qp&&Nat.ble (x.reports.length+1) Qp
variable (K:FK α β) {lo:Nat} {H H':Qc} {bk:Qa0 α β}
theorem QcV{fs:List (Fil α β)}{k:Int}(h:∃x∈fs,x.number=k):Qah fs k=fs:=by
 unfold Qah;have:fs.any (λx=>decide (x.number=k))=true:=by
  obtain⟨x,a,e⟩:=h;exact Xu.2 ⟨x,a,by simp[e]⟩
 rw[this];rfl
theorem QbT{fs:List (Fil α β)}{k:Int}(h:∀x∈fs,x.number≠k):Qah fs k=fs++[Qay k]:=by
 unfold Qah;have:fs.any (λx=>decide (x.number=k))=false:=by
  rw[List.any_eq_false];intro x a;simp[h x a]
 rw[this];rfl
theorem QnC{l r:List (Fil α β)}{x:Fil α β}{k:Int}{g:Fil α β->Fil α β}(f:((l++x::r).map (·.number)).Nodup)(b:x.number=k):Qbr (l++x::r) k g=l++g x::r:=by
 rw[Xg,Vj,List.nodup_append]at f;obtain⟨p,h,j⟩:=f;rw[List.nodup_cons]at h;have e:∀m:List (Fil α β),(∀y∈m,y.number≠k)->Qbr m k g=m:=by
  intro m n;unfold Qbr
  conv=>rhs;rw[<- List.map_id m]
  exact List.map_congr_left λy a=>by simp[n y a]
 have i:=e l (λy a q=>j y.number (VG a) x.number (by simp) (by rw[q,b]));have d:=e r (λy a q=>h.1 (by rw[b, <- q];exact VG a));unfold Qbr at i d⊢;rw[Xg,Vj,i,d];simp[b]
theorem QhM{l r:List (Fil α β)}{x:Fil α β}(h:QdP (l++x::r)=true):x.r0.length+1<=Qp/\x.r1.length+1<=Qp/\x.r2.length+1<=Qp/\x.reports.length+1<=Qp:=by
 unfold QdP at h;have:=Xt.1 h x (by simp);simp only[XX]at this;obtain⟨⟨⟨d,a⟩,e⟩,b⟩:=this;exact⟨XS d,XS a,XS e,XS b⟩
def Qa1(n:Nat):Pl:=⟨n,n+1,n+2,n+3,n+4⟩
def Qb7(n:Nat)(k:Int):Qc:=[.cells K.T (Q1 K (Qa1 n) (Qay k)),.row K.tF K.kF [],.row K.tF K.kF [],.row K.tF K.kF [],.row K.tR K.kR []]
theorem QjO{h0:Nat}{env:Env}{k:Int}(d:h0<=H.length):
  Le h0 env (H++[.cells K.T [.int .i64 k,.nils,.nils,.nils,.nils,.bool false]]) env (H++Qb7 K H.length k):=by
 have a:∀(n:Nat) (G:Qc) (cs cs':List A) (t k':Nat) (m:Nat),n=H.length+1+G.length->cs[m]?=some .nils->cs'=cs.set m (.osl n 0 0 k')->
   Le h0 env (H++.cells K.T cs::G) env (H++.cells K.T cs'::(G++[.row t k' []])):=by
  intro n G cs cs' t k' m hn hm hc;have:=Qd6 (h0:=h0) (env:=env) (H:=H++.cells K.T cs::G) (i:=H.length) (m:=m) (t:=t) (k:=k') (T:=K.T) (cs:=cs)
   (by simp;omega) (by simp) hm
  have e:(H++.cells K.T cs::G).length=n:=by simp;omega
  rw[e]at this;have b:(H++.cells K.T cs::G).set H.length (.cells K.T (cs.set m (.osl n 0 0 k')))=H++.cells K.T cs'::G:=by
   rw[List.set_append_right _ _ (XU _),Nat.sub_self,hc];rfl
  rw[b,Vi]at this;exact this
 refine Le.trans (a (H.length+1) [] _ _ K.tF K.kF 1 (by simp) rfl rfl) ?_;refine Le.trans (a (H.length+2) [.row K.tF K.kF []] _ _ K.tF K.kF 2 (by simp) rfl rfl) ?_;refine Le.trans (a (H.length+3) [.row K.tF K.kF [],.row K.tF K.kF []] _ _ K.tF K.kF 3 (by simp) rfl rfl) ?_;exact a (H.length+4) [.row K.tF K.kF [],.row K.tF K.kF [],.row K.tF K.kF []] _ _ K.tR K.kR 4 (by simp) rfl rfl
theorem QbG.new{k:Int}:QbG K (H++Qb7 K H.length k) (Qay k) (Qa1 H.length):=by
 have g:∀(j:Nat) (y:Blk),(Qb7 K H.length k)[j]?=some y->(H++Qb7 K H.length k)[H.length+j]?=some y:=by
  intro j y h;rw[XO (by omega),Nat.add_sub_cancel_left];exact h
 exact⟨g 0 _ rfl,g 1 _ rfl,g 2 _ rfl,g 3 _ rfl,g 4 _ rfl⟩
theorem Qj7(n:Nat):(∀i∈(Qa1 n).ix,n<=i)/\(Qa1 n).ix.Nodup:=by
 refine⟨?_,?_⟩
 .intro i a;simp only[Pl.ix,Qa1,X6,List.not_mem_nil,or_false]at a;omega
 .simp[Pl.ix,Qa1]
variable {K}
theorem Ys.new{k:Int}(h:Ys K lo H bk)(b:∀e∈bk,e.1.number≠k)(hl:lo<=H.length):Ys K lo (H++Qb7 K H.length k) (bk++[(Qay k,Qa1 H.length)]):=by
 refine h.add (QbG.new K) b (λj d a=>by rw[XN a]) (Qj7 _).1 (Qj7 _).2 hl
theorem Ys.row{l r:Qa0 α β}{e:Fil α β×Pl}{x':Fil α β}{p':Pl}{i:Nat}{y:Blk}(h:Ys K lo H (l++e::r))(hl:lo<=H.length)(B:x'.number=e.1.number)(hi:i∈e.2.ix)(M:i≠e.2.b)(g:p'.b=e.2.b)
  (hH:H'=(H.set i .dead++[y]).set e.2.b (.cells K.T (Q1 K p' x')))
  (s:p'.ix=e.2.ix.map λj=>bif Nat.beq j i then H.length else j)
  (h0:H'[p'.i0]?=some (.row K.tF K.kF (x'.r0.map K.eF)))(F:H'[p'.i1]?=some (.row K.tF K.kF (x'.r1.map K.eF)))(J:H'[p'.i2]?=some (.row K.tF K.kF (x'.r2.map K.eF)))(G:H'[p'.i3]?=some (.row K.tR K.kR (x'.reports.map K.eR))):
  Ys K lo H' (l++(x',p')::r):=by
 have t:=h.laid e (by simp);have d:=t.lt;have E:e.2.b<H.length:=d _ (by simp[Pl.ix]);refine h.upd ⟨?_,h0,F,J,G⟩ B ?_ ?_ ?_ hl
 .rw[hH,g,Xa (by simp;omega)]
 .intro j p z k;rw[hH,XQ (λq=>k (by rw[<- q];simp[Pl.ix])),XN (by simpa using z),XQ (λq=>k (by rw[<- q];exact hi))]
 .intro j n;rw[s]at n;obtain⟨x,p,rfl⟩:=Xf.1 n;cases q:Nat.beq x i with
  |true=>exact .inr (XU _)
  |false=>exact .inl p
 .rw[s];have w:=h.own e (by simp);refine List.pairwise_map.2 (List.Pairwise.imp_of_mem ?_ w);intro a b u g f;have N:=d a u;have O:=d b g;cases L:Nat.beq a i with
  |true=>
   cases m:Nat.beq b i with
   |true=>exact absurd ((XR L).trans (XR m).symm) f
   |false=>simp only[Vp,Vq];omega
  |false=>
   cases m:Nat.beq b i with
   |true=>simp only[Vp,Vq];omega
   |false=>exact f
end
end Go.Sw
namespace Go.Sw
section
variable {fr ro:Nat->Prop} {σ:Sig} {H:Qc} {w:World}
theorem Sim.addIdle(s:Sim fr ro σ H w){x:Blk}{z:Option Nat}(u:x.holds=false)(G:BR ro (σ++[z]) w x z):Sim fr ro (σ++[z]) (H++[x]) w:=by
 have ext:Ext ro σ w ro (σ++[z]) w:=⟨λ_ q=>q,λ_ _=>rfl,λ_ _ q=>q,λ_ _ h=>YF h⟩;have B:=s.len;have f:x.live=false:=by
  cases q:x.live with
  |true=>rw[QaK q]at u;exact u
  |false=>rfl
 have a:∀(j:Nat) (v:Blk),(H++[x])[j]?=some v->(j<H.length/\H[j]?=some v)\/(j=H.length/\v=x):=by
  intro j v h;rcases Nat.lt_trichotomy j H.length with q|q|q
  .rw[XN q]at h;exact .inl ⟨q,h⟩
  .subst q;simp at h;exact .inr ⟨rfl,h.symm⟩
  .rw[XP (by simp;omega)]at h;cases h
 have hσ:∀(j:Nat) (n:Option Nat),j<H.length->(σ++[z])[j]?=some n->σ[j]?=some n:=by
  intro j n q h
  rwa [XN (by omega)]at h
 refine⟨by simp[B],s.roOk,s.frLt,s.roFr,λi b y g m l=>?_,λi j b y F g m l J p t=>?_,λi n y g m=>?_,
  s.hidTo (· = ·) QU (XU _) (λ_ _ _ _ _ _ _ q=>q) (λ_ _ _ _ _ _ _ q=>q) λj d y M O E=>.inl ?_⟩
 .rcases a i y m with⟨e,k⟩|⟨_,rfl⟩
  .exact s.own i b y (hσ i _ e g) k l
  .rw[f]at l;cases l
 .rcases a i y l with⟨e,k⟩|⟨_,rfl⟩
  .rcases a j F J with⟨N,L⟩|⟨_,rfl⟩
   .exact s.inj i j b y F (hσ i _ e g) (hσ j _ N m) k L p t
   .rw[f]at t;cases t
  .rw[f]at p;cases p
 .rcases a i y m with⟨e,k⟩|⟨r,rfl⟩
  .exact(s.blk i n y (hσ i _ e g) k).keep ext (λ_ _ _=>rfl) (λ_ _ _ _=>rfl)
  .subst r;have:(σ++[z])[H.length]?=some z:=by rw[<- B];simp
   rw[this]at g;cases g;exact G
 .rcases a j y O with⟨e,k⟩|⟨_,rfl⟩
  .exact⟨j,y,rfl,hσ j _ e M,k,id,λ_ q=>q⟩
  .rw[u]at E;cases E
end
section
variable {P:Program} {o:Oper} {env:Env} {H:Qc}
theorem Qng{T e k n:Nat}{xs:List Operand}{es:List (List A)}(E:QK P T e k)(R:o.op=.buildSlice T n (Qak 0 xs).toArray)(J:xs.length=n)(B:Nat.ble (n*k) 16777216=true)
  (Y:(xs.all λx=>Q5 (opA env x))=true)(y:QB env xs=es)(F:allK k es)(W:es.flatten.all Ym=true)(hd:Ya es.flatten=true):
  OpH P o env H (.osl H.length 0 n k) (H++[.frow e k es]):=by
 intro fr h σ N a w r;subst y;obtain⟨l,h1,L⟩:=Jp r E J B Y F;have G:LR h [] w (QB env xs).flatten l:=L.data hd;have f:∀b,b<w.heap.size->(w.alloc (.cells l.toArray e)).heap[b]?=w.heap[b]? :=λb Q=>Q7 _ _ b Q;have j:w.heap.size<=(w.alloc (.cells l.toArray e)).heap.size:=by rw[Q3];omega
 have X:=r.sim.grown f j;have t:Qf fr h w h (w.alloc (.cells l.toArray e)):=Qf.alloc _ r.sim.roLt r.sim.frLt;have V:=X.addRo (b:=w.heap.size) (by rw[Q3];omega) (λq=>Nat.lt_irrefl _ (r.sim.frLt _ q)) (λi x m p u=>Nat.lt_irrefl _ (r.sim.own i _ x m p u).1)
  (λi d x m p u=>Nat.lt_irrefl _ (r.sim.hid i d x _ m p (r.sim.hidKeep m p (λz=>f d (r.sim.own i d x m p z).1) (λb q=>f b (r.sim.roLt b q)) u)).lt)
 have M:RL h [] (w.alloc (.cells l.toArray e)) k (QB env xs) l:=by
  have:=YX (rest:=[]) F (G.mono (t.ext0 [])) (L.plain W)
  rwa [Vg]at this
 have s:(QB env xs).length=n:=by simp[QB,J]
 have O:l.length=n*k:=by rw[L.length,Yr F];simp[QB,J]
 have g:(w.alloc (.cells l.toArray e)).heap[w.heap.size]?=some (.cells l.toArray e (0,0)):=Q6 _ _;have s3:=V.addIdle (x:=.frow e k (QB env xs)) (z:=some w.heap.size) rfl
  ⟨.inr rfl,l,g,M.mono ⟨λ_ q=>.inl q,λ_ _=>rfl,λ_ _ q=>q,λ_ _ q=>q⟩,by rw[O,s]⟩
 refine⟨_,_,λc=>h c\/c=w.heap.size,[some w.heap.size],Jb R a.eval h1,.inr ⟨w.heap.size,0,n,e,l.length,?_,rfl,λ_=>by simp,XU _,?_,by rw[O,Xw];exact XU _⟩,s3,t.trans (YE λ_ q=>.inl q)⟩
 .rw[<- r.sim.len];simp
 .unfold World.shape?;rw[g];simp
theorem Le.frow{h0 s i n k t:Nat}{es:List (List A)}(G:lk env s=.osl i 0 n k)(hH:H[i]?=some (.frow t k es))(x:es.length=n):Le h0 env H (up env s (.rsl k es)) H:=by
 intro Q j σ N a w r;refine⟨j,σ,⟨r.sim,?_,r.size,r.defers⟩,λ_ q=>q,rfl⟩;intro d;simp only[lk];by_cases q:d=s
 .subst q;rw[VF];have:=r.env d;rw[G]at this;show VR j σ w (.rsl k es) _;rcases this with⟨h,f⟩|⟨b,p,e,O,m,h,f,y,E,R,M⟩
  .have:es=[]:=VJ.1 (by omega);subst this;exact⟨none,0,by rw[f];rfl,XU _,.inl rfl⟩
  .obtain⟨u,l,B,J,P⟩:=r.sim.blk i _ _ h hH;refine⟨_,e,by rw[f,x],by omega,?_⟩;by_cases g:es=[]
   .exact .inl g
   .right;have L:0<e:=Vf (by have:=List.length_pos_iff.2 g;omega) E;have F:=y L;refine⟨b,0,by rw[F];simp,u,?_⟩;exact YG (pre:=[]) (by simpa using B) J
 .have:Nat.beq d s=false:=by
   cases z:Nat.beq d s with
   |true=>exact absurd (XR z) q
   |false=>rfl
  rw[this];exact r.env d
theorem QiK{c:Call}{T T' e e' k i n:Nat}{x y:Operand}{ya:A}{es fs gs:List (List A)}(E:QK P T e k)(Q:∀w,(underlying T').run P w=.ok (.slice e') w)(u:Nat.blt 0 k=true)(s:Nat.blt 0 fs.length=true)(G:o.op=.call c)
  (m:c={callee:=.builtin .append,args:= #[x,y],argTypes:= #[T,T']})(hx:opA env x=.osl i 0 n k)(hH:H[i]?=some (.frow e k es))(q:es.length=n)(hy:opA env y=ya)(hs:Src P H ya k fs)(f:n+fs.length<=Qp)
  (hg:es++fs=gs):OpH P o env H (.osl H.length 0 (n+fs.length) k) (H++[.row e k gs]):=by
 intro fr j σ N a w r;subst hg;have hf:0<fs.length:=by simpa[Nat.blt_eq]using s
 have hk:0<k:=by simpa[Nat.blt_eq]using u
 have g:=Qe r x;rw[hx]at g;have Y:=Qe r y;rw[hy]at Y;obtain⟨⟨ay,cy,t⟩,R,l,z,O,J⟩:=hs fr j σ w _ r.sim Y;rw[t]at z;rcases g with⟨h0,g⟩|⟨b,p,d,t',mm,h3,g,h4,h5,W,L⟩
 .have:es=[]:=VJ.1 (by omega);subst this;subst h0;have:=grown (es:=[]) (old:=[]) E Q G m g t r.sim (by omega) f (λ_ _=>YK) z rfl (by simp) trivial O J R rfl rfl;simpa using this
 .obtain⟨g0,lb,g1,M,g3⟩:=r.sim.blk i _ _ h3 hH;have hm:mm=n*k:=by
   have:w.shape? b=some (e,lb.length):=by unfold World.shape?;rw[g1];simp
   rw[this]at W;cases W;rw[g3,q]
  have X:d<=n:=by
   rw[hm,Xw]at L;exact Nat.le_of_mul_le_mul_right L hk
  obtain⟨old,o1,o2,o3⟩:∃old:List Value,(∀B:World,B.heap=w.heap->(Builtin.firstCells k n (.slice (some ⟨b,p,none⟩) n d)).run P B=.ok old.toArray B)/\LR j [] w es.flatten old/\ ∀v∈old,Ql v:=by
   have hr:VR j σ w (.rsl k es) (.slice (some ⟨b,p,none⟩) n d):=by
    refine⟨_,d,by rw[q],by omega,?_⟩;by_cases F:es=[]
    .exact .inl F
    .right;have m:0<d:=Vf (by have:=List.length_pos_iff.2 F;omega) h5;have hp:=h4 m;exact⟨b,0,by rw[hp];simp,g0,YG (pre:=[]) (by simpa using g1) M⟩
   have h:Src P H (.rsl k es) k es:=Src.rsl;obtain⟨_,_,l',V,z2,z3⟩:=h fr j σ w _ r.sim hr;rw[q]at V;exact⟨l',V,z2,z3⟩
  have:=grown (es:=es) (old:=old) (fs:=fs) E Q G m g t r.sim (by omega) f o1 z o2 o3 M.allK O J R q rfl;exact this
theorem QiM{α:Type}{e:α->List A}{c:Call}{T T' et et' k i n:Nat}{x y:Operand}{ya:A}{l m r:List α}(h:app l m=some r)(E:QK P T et k)(b:∀w,(underlying T').run P w=.ok (.slice et') w)(a:Src P H ya k (m.map e))
  (d:Nat.blt 0 m.length=true:=by exact rfl)(hk:Nat.blt 0 k=true:=by exact rfl)(hn:l.length=n:=by exact rfl)(ho:o.op=.call c:=by exact rfl)(hc:c={callee:=.builtin .append,args:= #[x,y],argTypes:= #[T,T']}:=by exact rfl)(hx:opA env x=.osl i 0 n k:=by exact rfl)
  (hH:H[i]?=some (.frow et k (l.map e)):=by exact rfl)(hy:opA env y=ya:=by exact rfl):
  OpH P o env H (.osl H.length 0 r.length k) (H++[.row et k (r.map e)]):=by
 obtain⟨f,rfl⟩:=Qhh h;subst hn;have:=QiK E b hk (by simpa using d) ho hc hx hH (by simp) hy a (by simpa using f) (gs:=(l++m).map e) (by simp);simpa using this
end
end Go.Sw
namespace Go.Sw
open Go.MapKept
section
variable {P:Program} {kt et:Nat} {α β:Type} [DecidableEq α] {ek:α->A} {ev:β->A} {ro:Nat->Prop} {σ:Sig} {w:World} (K:Y6 P kt ek)
include K
theorem Qdu:∀{l:List (α×β)} {es:List MapEntry} {k:α},ER ro σ w (Qk ek ev l) es->(∀e∈es,e.key≠QA (ek k))->mdel l k=l
 |[],_,_,_,_=>rfl
 |p::l,es,k,h,hk=>by
  obtain⟨e,l',rfl,h1,h2,h3⟩:=h;have e1:e.key=QA (ek p.1):=VR.val (K.scl _) h1;have hp:p.1≠k:=λq=>hk e (by simp) (by rw[e1,q]);have ih:=Qdu (l:=l) h3 λe he=>hk e (by simp[he]);unfold mdel at ih⊢;rw[Xd,ih];simp[hp]
theorem Qf5:∀{l:List (α×β)} {es:List MapEntry} {k:α} {j:Nat} {e:MapEntry},ER ro σ w (Qk ek ev l) es->(es.map (·.key)).Nodup->es[j]?=some e->e.key=QA (ek k)->ER ro σ w (Qk ek ev (mdel l k)) (es.eraseIdx j)
 |[],es,k,j,e,h,_,hj,_=>by
  cases(show es=[]from h);simp at hj
 |p::l,es,k,j,e,h,hn,hj,hk=>by
  obtain⟨e0,l',rfl,h1,h2,h3⟩:=h;have e1:e0.key=QA (ek p.1):=VR.val (K.scl _) h1;rw[Vj,List.nodup_cons]at hn;cases j with
  |zero=>
   simp at hj;subst hj;have hp:p.1=k:=K.inj _ _ (by rw[<- e1,hk]);have:=Qdu K (l:=l) (k:=k) h3 λe he q=>hn.1 (by rw[hk, <- q];exact VG he);have e2:mdel (p::l) k=l:=by
    unfold mdel at this⊢;rw[Xd,this];simp[hp]
   rw[e2];exact h3
  |succ j=>
   have a:l'[j]?=some e:=by simpa using hj
   have hp:p.1≠k:=λq=>hn.1 (by
    show e0.key∈_;rw[e1,q, <- hk];exact VG (VH a))
   have e2:mdel (p::l) k=p::mdel l k:=by
    unfold mdel;rw[Xd];simp[hp]
   rw[e2];exact⟨e0,_,rfl,h1,h2,Qf5 h3 hn.2 a hk⟩
variable {o:Oper} {env:Env} {H:Qc} {T T' i:Nat} {x y:Operand} {l m:List (α×β)} {k:α}
theorem OpH.mdel{c:Call}(hm:some (Sw.mdel l k)=some m)(X:P.underlying T=some (.map kt et))(Y:o.op=.call c:=by exact rfl)(hc:c={callee:=.builtin .delete,args:= #[x,y],argTypes:= #[T,T']}:=by exact rfl)
  (hx:opA env x=.map i:=by exact rfl)(hH:H[i]?=some (.map (Qk ek ev l)):=by exact rfl)(z:opA env y=ek k:=by exact rfl):OpH P o env H (.tup []) (H.set i (.map (Qk ek ev m))):=by
 obtain rfl:=XZ hm;subst hc;intro fr Q σ N a w r;have V:=Qe r x;rw[hx]at V;obtain⟨b,G,q2⟩:=V;have W:=Qe r y;rw[z]at W;have h3:=VR.val (K.scl _) W;obtain⟨n,d,t,E,O,R,L⟩:=r.sim.blk i _ _ G hH;have u:∀(obj:Obj) y,w.shape? b=some y->({w with heap:=w.heap.setIfInBounds b obj}:World).shape? b=some y:=by
  intro obj y z;unfold World.shape? at z;rw[t]at z;simp at z
 have run:∀s:Array MapEntry,(Builtin.delete_ #[T,T'] o.type #[.map (some b),QA (ek k)]).run P w=.ok (.tuple #[]) {w with heap:=w.heap.setIfInBounds b (.map s d)}->
   (execOp a.eval o).run P w=.ok (.value (.tuple #[])) {w with heap:=w.heap.setIfInBounds b (.map s d)}:=by
  intro s h;simp only[execOp,Y,resolve,invoke,Go.builtin,Vm,Vn,Result.andThen];simp only[XJ,Vj,Vk,q2,h3,h]
 rcases K.find w k n.toList (Qbp K E)with⟨M,J⟩|⟨j,e,M,J,g3⟩
 .have g:=r.sim.set (x':=.map (Qk ek ev (Sw.mdel l k))) (obj:=.map n d) G hH rfl (u _)
   (λe F=>⟨n,d,F,by rw[Qdu K E J];exact E.mono e.nil,O,R,L⟩)
  refine⟨_,_,Q,[],run n ?_,⟨[],rfl,rfl⟩,by simpa using g.1,g.2⟩;simp[Builtin.delete_,Vm,run_underlying X,Result.andThen,MapKept.run_getObj_map t,K.check,M,MapKept.run_setObj_map _ t,go_sem]
 .have q:(n.eraseIdxIfInBounds j).toList=n.toList.eraseIdx j:=by simp
  have p:∀{γ:Type} (f:MapEntry->γ),((n.eraseIdxIfInBounds j).toList.map f).Sublist (n.toList.map f):=λf=>by
   rw[q];exact(List.eraseIdx_sublist _ _).map f
  have g:=r.sim.set (x':=.map (Qk ek ev (Sw.mdel l k))) (obj:=.map (n.eraseIdxIfInBounds j) d) G hH rfl (u _)
   (λe F=>⟨_,d,F,by rw[q];exact(Qf5 K E L J g3).mono e.nil,λe' B=>O e' ((by rw[q]at B;exact List.mem_of_mem_eraseIdx B)),(p _).nodup R,(p _).nodup L⟩)
  refine⟨_,_,Q,[],run _ ?_,⟨[],rfl,rfl⟩,by simpa using g.1,g.2⟩;simp[Builtin.delete_,Vm,run_underlying X,Result.andThen,MapKept.run_getObj_map t,K.check,M,MapKept.run_setObj_map _ t,go_sem]
end
end Go.Sw
namespace Go.Sw
section
variable {P:Program} {h0 N:Nat} {all:Array Oper} {o1 o2:Oper} {l:List Oper} {env:Env} {H:Qc} {Q:Qv}
theorem Qlj{t n d:Nat}{z:Value}{v:A}{cs zs:List A}{y:Operand}(hz:∀w,(zeroValue t).run P w=.ok z w)(hv:ZR v z)(hs:∀w,(Go.sizeOf t).run P w=.ok n w)
  (k:WO P h0 N all l (up env d (.rp cs)) H Q)(hk:Q5 v=true:=by exact rfl)(hzs:Yh v=zs:=by exact rfl)(hpl:zs.all Ym=true:=by exact rfl)(hzn:zs.length=n:=by exact rfl)(hn:cs.length=n:=by exact rfl)
  (ho1:o1.op=.alloc t:=by exact rfl)(hd1:o1.dst=some d:=by exact rfl)(ho2:o2.op=.store t (.tmp d) y:=by exact rfl)(hd2:o2.dst=none:=by exact rfl)(hy:opA (up env d .any) y=.agg cs:=by exact rfl)(hda:Ya cs=true:=by exact rfl)(hcp:cs.all Ym=true:=by exact rfl)(hkc:Q5 (.agg cs)=true:=by exact rfl)(hcc:Yh (.agg cs)=cs:=by exact rfl)
  (hg1:Qm all o1 env true:=by exact rfl)(hg2:Qm all o2 (up env d .any) true:=by exact rfl)(hN:Nat.blt d N=true:=by exact rfl):WO P h0 N all (o1::o2::l) env H Q:=by
 intro rd fr B σ a w r hrd;obtain⟨zl,h2,h3⟩:=(hv B σ w).cells hk;rw[hzs]at h3
 let w1:World:=w.alloc (.cells zl.toArray t)
 have O:(execOp a.eval o1).run P w=.ok (.value (.pointer (some ⟨w.heap.size,0,none⟩))) w1:=by
  generalize a.eval=ρ at*;have e:(newVar t z).run P w=.ok ⟨w.heap.size,0,none⟩ (w.alloc (.cells zl.toArray t)):=by
   unfold newVar;rw[h2];rfl
  simp only[execOp,ho1,Instr.alloc,Vm,hz,Result.andThen,e];rfl
 refine Qac (YA hg1 r) O ?_;simp only[hd1,Act.put];have ac:d<N:=by simpa[Nat.blt_eq]using hN
 have J:d<a.tmps.size:=by rw[r.size];exact ac
 let a1:Act:={a with tmps:=a.tmps.setIfInBounds d (.pointer (some ⟨w.heap.size,0,none⟩))}
 have u:∀b,b<w.heap.size->w1.heap[b]?=w.heap[b]? :=λb M=>Q7 _ _ b M;have G:w.heap.size<=w1.heap.size:=by show _<=(w.alloc _).heap.size;rw[Q3];omega
 have h:Qf fr B w B w1:=Qf.alloc _ r.sim.roLt r.sim.frLt;have r1:Rel fr B σ H (up env d .any) N a1 w1:=⟨r.sim.grown u G,VR.up (fr:=fr) (λs=>(r.env s).mono (h.ext0 σ)) J trivial,by simpa[a1]using r.size,r.defers.keep h⟩;have aa:=Qe r1 y;rw[hy]at aa;obtain⟨m,h4,h5⟩:=aa.cells hkc;rw[hcc]at h5;have p:w1.heap[w.heap.size]?=some (.cells zl.toArray t (0,0)):=Q6 _ _;have Y:zl.length=n:=by rw[h3.length,hzn]
 have L:m.length=n:=by rw[h5.length,hn]
 have T:=Yf (P:=P) (vs:=m) 0 0 p (by omega) (h5.plain hcp);have af:splice zl (0+0) m=m:=by
  unfold splice;simp[Y,L]
 rw[af]at T
 let w2:World:={w1 with heap:=w1.heap.setIfInBounds w.heap.size (.cells m.toArray t (0,0))}
 have he:a1.eval (.tmp d)=.pointer (some ⟨w.heap.size,0,none⟩):=by
  show(a.tmps.setIfInBounds d _).getD d undef=_;rw[QhZ J,Vt rfl]
 have V:(execOp a1.eval o2).run P w1=.ok .skip w2:=by
  have ab:(storeVar t ⟨w.heap.size,0,none⟩ (a1.eval y)).run P w1=.ok () w2:=by
   unfold storeVar;rw[Vm,hs];simp only[Result.andThen];rw[Vs (by simp[h4,L]),h4];simpa using T
  generalize a1.eval=ρ at*;simp only[execOp,ho2,he,Instr.storeAt,Instr.sureAddr,pure_bind,Vm,ab];rfl
 refine Qhy (YA hg2 r1) V ?_;simp only[hd2,Act.put];have f:∀b,b<w.heap.size->w2.heap[b]?=w.heap[b]? :=λb M=>by
  show(w1.heap.setIfInBounds w.heap.size _)[b]?=_;rw[Array.getElem?_setIfInBounds_ne (by omega)];exact u b M
 have E:w2.heap.size=w1.heap.size:=by simp[w2]
 have F:w.heap.size<w1.heap.size:=(Vc.1 p).1;have R:w.heap.size<=w2.heap.size:=by rw[E];exact G
 have j:w2.heap[w.heap.size]?=some (.cells m.toArray t (0,0)):=by
  show(w1.heap.setIfInBounds w.heap.size _)[w.heap.size]?=_;rw[Array.getElem?_setIfInBounds_self_of_lt F]
 have s1:=r.sim.grown f R;have s2:=s1.addRo (b:=w.heap.size) (by rw[E];exact F) (λq=>Nat.lt_irrefl _ (r.sim.frLt _ q)) (λi x W X p3=>Nat.lt_irrefl _ (r.sim.own i _ x W X p3).1)
  (λi d x W X p3=>Nat.lt_irrefl _ (r.sim.hid i d x _ W X (r.sim.hidKeep W X (λz=>f d (r.sim.own i d x W X z).1) (λb q=>f b (r.sim.roLt b q)) p3)).lt)
 have ev:Qf fr B w (λc=>B c\/c=w.heap.size) w2:=by
  refine⟨λb q=>.inl q,λb q=>f b (r.sim.roLt b q),λb q=>f b (r.sim.frLt b q),R,?_,h.os,h.tape,h.output,h.drawn⟩;intro b x g;have M:b<w.heap.size:=by
   unfold World.shape? at g;cases q:w.heap[b]? with
   |none=>rw[q]at g;simp at g
   |some _=>exact(Vc.1 q).1
  unfold World.shape? at g⊢;rw[f b M];exact g
 have ae:VR (λc=>B c\/c=w.heap.size) σ w2 (.rp cs) (.pointer (some ⟨w.heap.size,0,none⟩)):=by
  refine⟨w.heap.size,0,rfl,.inr rfl,?_⟩;refine Qhv (pre:=[]) (by simpa using j) ?_ (h5.plain hcp);have h6:LR B [] w1 cs m:=LR.data hda h5;refine h6.mono ⟨λ_ q=>.inl q,λb q=>?_,λb x g=>?_,λ_ _ q=>q⟩
  .show(w1.heap.setIfInBounds w.heap.size _)[b]?=_;have:=r.sim.roLt b q;rw[Array.getElem?_setIfInBounds_ne (by omega)]
  .by_cases e:b=w.heap.size
   .subst e;unfold World.shape? at g⊢;rw[p]at g;rw[j];simp at g⊢;rw[Y]at g;rw[L];exact g
   .unfold World.shape? at g⊢;rw[show w2.heap[b]?=w1.heap[b]? from Array.getElem?_setIfInBounds_ne (Ne.symm e)];exact g
 have r2:Rel fr (λc=>B c\/c=w.heap.size) σ H (up env d (.rp cs)) N a1 w2:=
  ⟨s2,VR.up (fr:=fr) (λs=>(r.env s).mono (ev.ext0 σ)) J ae,by simpa[a1]using r.size,r.defers.keep ev⟩
 exact Yd (λe a w q=>q.step ev rfl) _ _ _ (k rd fr _ σ a1 w2 r2 (hrd.to ev λ_ q=>q))
end
end Go.Sw
namespace Go.Sw
section
variable {P:Program} {o:Oper} {env:Env} {H:Qc}
theorem Qc0{t e:TypeId}{p:Option Addr}{w:World}(a:∀w,(underlying t).run P w=.ok (.pointer e) w):(Op.equal t (.pointer p) (.pointer none)).run P w=.ok p.isNone w:=by
 have k:∀d,(Op.equalIn (d+1) t (.pointer p) (.pointer none)).run P w=.ok p.isNone w:=by
  intro d;cases p<;>simp[Op.equalIn,a,go_sem]
 exact k 9999
theorem QiF{t e u:TypeId}{x:Operand}{i off:Nat}(g:∀w,(underlying t).run P w=.ok (.pointer e) w)(k:opA env x=.ptr i off)(h:o.op=.binOp .eql t x (.const (.pointer none)) u:=by exact rfl):OpV P o env H (.bool false):=by
 intro m n σ N a w r;have d:=Qe r x;rw[k]at d;obtain⟨b,l,j⟩:=d;have f:a.eval (.const (.pointer none))=.pointer none:=rfl;refine⟨_,?_,rfl⟩;generalize a.eval=ρ at*;simp[execOp,h,j,f,Go.binOp,eqGuard,Qc0 g,go_sem]
theorem QiG{t e u:TypeId}{x:Operand}(f:∀w,(underlying t).run P w=.ok (.pointer e) w)(i:opA env x=.nilp)(g:o.op=.binOp .eql t x (.const (.pointer none)) u:=by exact rfl):OpV P o env H (.bool true):=by
 intro j k σ N a w r;have b:=Qe r x;rw[i]at b;have d:a.eval (.const (.pointer none))=.pointer none:=rfl;have h:a.eval x=.pointer none:=b;refine⟨_,?_,rfl⟩;generalize a.eval=ρ at*;simp[execOp,g,h,d,Go.binOp,eqGuard,Qc0 f,go_sem]
end
end Go.Sw
namespace Go.Sw
section
variable {P:Program} {o:Oper} {env:Env} {H:Qc} {α:Type}
def Qg1(l:List α)(lo hi i:Int):Option α:=bif decide (0<=lo)&&(decide (0<=i)&&decide (lo+i<hi))then idx l (lo+i)else none
theorem Qke{l:List α}{lo hi i:Int}{v:α}(h:Qg1 l lo hi i=some v):0<=lo/\0<=i/\lo+i<hi/\idx l (lo+i)=some v:=by
 unfold Qg1 at h;cases q:decide (0<=lo)&&(decide (0<=i)&&decide (lo+i<hi))with
 |false=>rw[q]at h;cases h
 |true=>
  rw[q]at h;rw[XX,XX,Vr,Vr,Vr]at q;exact⟨q.1,q.2.1,q.2.2,h⟩
theorem Qg0{l:List α}{lo hi i:Int}{v:α}(h:Qg1 l lo hi i=some v):idx l (lo+i)=some v:=(Qke h).2.2.2
theorem Qfv{t et k b:Nat}{x y:Operand}{l:List α}{j:IntKind}{lo hi i:Int}{v:α}(h:Qg1 l lo hi i=some v)(a:∀w,(underlying t).run P w=.ok (.slice et) w)(f:∀w,(sizeOf et).run P w=.ok k w)
  (d:o.op=.indexAddr t x y:=by exact rfl)(hx:opA env x=.osl b (0+lo.toNat) (hi.toNat-lo.toNat) k:=by exact rfl)(hy:opA env y=.int j i:=by exact rfl):OpV P o env H (.ptr b ((lo+i).toNat*k)):=by
 obtain⟨p,g,n,_⟩:=Qke h;have m:=Qhl (H:=H) d a f hx hy g (by omega);have e:(0+lo.toNat)*k+i.toNat*k=(lo+i).toNat*k:=by
  rw[<- XA];congr 1;omega
 rwa [e]at m
end
abbrev Ea:=@Ev.bind
abbrev Ec:=@FzH.keep
abbrev Ed:=@FzL.cons
abbrev Ee:=@FzA.refl
abbrev Ef:=@TC.le
abbrev Eg:=@PL.cons
abbrev Eh:=@DS.done
abbrev Ei:=@EvI.done
abbrev Ej:=@FzL.refl
abbrev Ek:=@OpH.lit
abbrev El:=@RF.cons
abbrev Em:=@Le.trans
abbrev En:=@ZR.int
abbrev Eo:=@FzA.o
abbrev Ep:=@Le.phantom
abbrev Er:=@WO.le
abbrev Et:=@Ev.or
abbrev Eu:=@Ev.eq
abbrev Ew:=@EvI.cont
abbrev Ex:=@OpU.store
abbrev Ey:=@OpV.load
abbrev Ez:=@Ev.const
theorem Zf.{u,v}{α:Sort u}{β:Sort v}{f:α->β}:∀x,f x=f x:=λ_=>rfl
abbrev Ze.{u,v}{α:Sort u}{β:Type v}:α->List β:=λ_=>[]
end Go.Sw
