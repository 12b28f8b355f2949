/- The rules by which the code is walked, with what they rest on (part 3). -/
import Derived.Test.YthihlfoplokmiaaGreatDoorL2
import Derived.Laws.BytesString
set_option linter.unusedVariables false
set_option linter.unusedSectionVars false
set_option linter.unusedSimpArgs false
namespace Go.Sw
def QcD:Option Blk->Bool
 |some .dead=>true
 |_=>false
def Qaw(hB hE:Nat)(H H':Qc):Bool:=(List.range (hE-hB)).all λp=> !QcD H'[hB+p]? ||QcD H[hB+p]?
def Qk1(hB hE:Nat)(σ:Sig)(H:Qc):Prop:=∀p,hB<=p->p<hE->QcD H[p]?=true->σ[p]?=some none
theorem Qly{hB hE:Nat}{H H':Qc}(h:Qaw hB hE H H'=true){p:Nat}(d:hB<=p)(b:p<hE)(a:QcD H'[p]?=true):QcD H[p]?=true:=by
 have:=Xt.1 h (p-hB) (List.mem_range.2 (by omega));rw[show hB+(p-hB)=p by omega,a]at this;simpa using this
theorem Sim.allocAt{fr ro:Nat->Prop}{σ:Sig}{H:Qc}{w:World}(s:Sim fr ro σ H w){p:Nat}(J:σ[p]?=some none){obj:Obj}{x:Blk}
  (N:BR ro (σ.set p (some w.heap.size)) (w.alloc obj) x (some w.heap.size))
  (E:∀c,Hid (w.alloc obj) x w.heap.size c->False:=by exact λ_ h=>h.elim):Sim fr ro (σ.set p (some w.heap.size)) (H.set p x) (w.alloc obj):=by
 have ev:Qe fr ro w ro (w.alloc obj):=Qe.alloc obj s.roLt s.frLt;have t:=s.len;have F:p<σ.length:=(XM.1 J).1;have u:Ext ro σ w ro (σ.set p (some w.heap.size)) (w.alloc obj):=⟨ev.sub,ev.keepRo,ev.shape,λi b q=>by
  rw[XQ (λz=>by subst z;rw[J]at q;cases q)];exact q⟩
 have e:∀(i:Nat) (y:Option Nat),(σ.set p (some w.heap.size))[i]?=some y->(i≠p/\σ[i]?=some y)\/(i=p/\y=some w.heap.size):=by
  intro i y h;by_cases q:i=p
  .subst q;rw[Xa F]at h;exact .inr ⟨rfl,(X0 h).symm⟩
  .rw[XQ (λz=>q z.symm)]at h;exact .inl ⟨q,h⟩
 have m:∀i:Nat,i≠p->(H.set p x)[i]?=H[i]? :=λi P=>XQ (λz=>P z.symm);have G:(H.set p x)[p]?=some x:=Xa (by omega);refine⟨by simp[t],s.roOk.to (λ_ q=>q) ev.keepRo (λb h=>?_),λb h=>?_,s.roFr,?_,?_,?_,s.hidTo (· = ·) QU (by rw[Q2];omega) (λ_ _ _ _ _ _ _ q=>q) (λ_ _ _ _ _ _ _ q=>q) λj d y l k Q=>?_⟩
 rotate_left 5
 .rcases e j _ l with⟨q,l⟩|⟨rfl,n⟩
  .rw[m j q]at k;exact .inl ⟨j,y,rfl,l,k,id,λc q=>s.hidKeep l k (λz=>Q8 w obj d (s.own j d y l k z).1) ev.keepRo q⟩
  .rw[G]at k;cases k;cases n;exact .inr ⟨XU _,E⟩
 .rw[Q2];have:=s.roLt b h;omega
 .rw[Q2];have:=s.frLt b h;omega
 .intro i b y g f r;rw[Q2];rcases e i _ g with⟨q,g⟩|⟨rfl,n⟩
  .rw[m i q]at f;obtain⟨a,b,c⟩:=s.own i b y g f r;exact⟨by omega,b,c⟩
  .cases n;exact⟨by omega,λq=>by have:=s.roLt _ q;omega,λq=>by have:=s.frLt _ q;omega⟩
 .intro i j b y z g f r B M L;rcases e i _ g with⟨q,l⟩|⟨O,n⟩<;>rcases e j _ f with⟨q',k⟩|⟨ej,e2⟩
  .rw[m i q]at r;rw[m j q']at B;exact s.inj i j b y z l k r B M L
  .cases e2;rw[m i q]at r;have:=(s.own i _ y l r M).1;omega
  .cases n;rw[m j q']at B;have:=(s.own j _ z k B L).1;omega
  .rw[O,ej]
 .intro i y z g f;rcases e i _ g with⟨q,g⟩|⟨rfl,n⟩
  .rw[m i q]at f;refine(s.blk i y z g f).keep u ?_ ?_
   .rintro b rfl t;exact Q8 w obj b (s.own i b z g f t).1
   .rintro b c rfl t;exact Q8 w obj c (s.hid i b z c g f t).lt
  .rw[G]at f;cases f;subst n;exact N
def OpZ(P:Program)(o:Oper)(t:Nat)(cs:List A):Prop:=
 ∀(ro:Nat->Prop) (σ:Sig) (w:World) (a:Act),∃l:List Value,(execOp a.eval o).run P w=.ok (.value (.pointer (some ⟨w.heap.size,0,none⟩))) (w.alloc (.cells l.toArray t))/\LR ro σ w cs l/\ ∀v∈l,Qn v
theorem OpZ.alloc{P:Program}{o:Oper}{t:Nat}{z:Value}{v:A}{cs:List A}(f:∀w,(zeroValue t).run P w=.ok z w)(d:ZR v z)(g:o.op=.alloc t:=by exact rfl)(hk:Q6 v=true:=by exact rfl)(hcs:Yh v=cs:=by exact rfl)(hpl:cs.all Ym=true:=by exact rfl):
  OpZ P o t cs:=by
 intro i σ w a;obtain⟨l,h,b⟩:=(d i σ w).cells hk;subst hcs;refine⟨l,?_,b,b.plain hpl⟩;generalize a.eval=ρ at*;have e:(newVar t z).run P w=.ok ⟨w.heap.size,0,none⟩ (w.alloc (.cells l.toArray t)):=by
  unfold newVar;rw[h];rfl
 simp only[execOp,g,Instr.alloc,Vn,f,Result.andThen,e];rfl
theorem QcW{P:Program}{l:List Oper}{i:Nat}{o:Oper}{rd:Option Nat}{R:Exit->Act->World->Prop}{Q:Exit->Act->World->Prop}{K:Act->World->Prop}{a:Act}{w:World}
  (z:l[i]?=some o)(g:wpL P rd l.toArray R [o] a w)(j:∀e a' w',R e a' w'->e=.normal/\a'.defers=a.defers)(k:∀v w',R .normal (a.put o.dst v) w'->K (a.put o.dst v) w'):
  wpOpIn (WF rd) 0 P l.toArray Q i K a w:=by
 unfold wpOpIn;have p:l.toArray[i]?=some o:=by simpa using z
 rw[p];simp only;unfold wpL wpListIn at g;split at g
 .rename_i s;rw[Vu s];obtain⟨h,g⟩:=g;refine⟨h,?_⟩;have d:=Ql9 (by
   intro a' w' q;unfold wpListIn at q;exact(j _ _ _ q).2) g
  generalize(o.semAt (WF rd).round a.eval).run P w=res at*;cases res with
  |ok n w'=>
   cases n with
   |value v=>exact k _ _ d.1
   |skip=>exact k _ _ d.1
   |defer F=>
    exfalso;have:=(j _ _ _ d.1).2;have:=congrArg List.length this
    revert this
    cases o.dst<;>simp[Act.put]
   |enter f m=>
    refine⟨d.1,CallsIn.mono d.2 (λe t b=>?_)⟩;cases e with
    |returned v=>exact k _ _ b.1
    |panicked c=>have:=(j _ _ _ b).1;cases this
    |outgrown=>obtain⟨E,B,b⟩:=b;have:=(j _ _ _ b).1;cases this
   |row r m=>
    exact⟨d.1,RowsIn.mono d.2 (λ_ _ b=>k _ _ b.1)⟩
   |round l f u assign y=>
    refine⟨d.1,RoundIn.mono d.2 (λe t b=>?_)⟩;cases e with
    |returned v=>exact k _ _ b.1
    |panicked c=>have:=(j _ _ _ b).1;cases this
    |outgrown=>obtain⟨E,B,b⟩:=b;have:=(j _ _ _ b).1;cases this
   |_=>exact d.elim
  |halt x w'=>
   cases x with
   |panic v=>have:=(j _ _ _ d).1;cases this
   |_=>exact d.elim
 .rename_i s;rw[Vt s];obtain⟨h,g⟩:=g;refine⟨h,?_⟩;unfold wpListIn at g;exact k _ _ g
theorem Qlx{P:Program}{l:List Oper}{m:Nat}(n:∀i o,l[i]?=some o->∀j∈Qf o,j<i)(k:∀i o,m<i->l[i]?=some o->i-1∈Qf o){Q:Exit->Act->World->Prop}{rd:Option Nat}:
  ∀(b t:Nat) (L:Array Bool) (a:Act) (w:World),L.size=l.length->(∀i,i<l.length->(onL L i↔i<t))->unl L<=b->m<=t->t<=l.length->
   wpL P rd l.toArray Q (l.drop t) a w->wpAnyIn (WF rd) 0 P .any l.toArray Q b L a w:=by
 intro b
 induction b with
 |zero=>
  intro t L a w hsz hL hf hm ht h;have:t=l.length:=by
   rcases VD t l.length with q|q
   .have:=Qkn (L:=L) (i:=t) (by omega) (λz=>by have:=(hL t q).1 z;omega);omega
   .omega
  subst this;refine⟨List.eq_nil_iff_forall_not_mem.2 λi r=>?_,?_⟩
  .obtain⟨o,f,g,_⟩:=(QaM hsz).1 r;have d:=(XM.1 f).1;exact g ((hL i d).2 d)
  .rw[List.drop_length]at h;exact h
 |succ b G=>
  intro t L a w hsz hL hf hm ht h;have s:∀i o,l[i]?=some o->¬onL L i->(∀j∈Qf o,onL L j)->i=t:=by
   intro i o f g u;have d:=(XM.1 f).1;have H:t<=i:=by
    rcases VD i t with q|q
    .exact absurd ((hL i d).2 q) g
    .exact q
   rcases VD t i with q|q
   .have:=(hL (i-1) (by omega)).1 (u _ (k i o (by omega) f));omega
   .omega
  rcases VD t l.length with e|e
  .have B:l[t]?=some l[t]:=XL e;have p:¬onL L t:=λq=>by have:=(hL t e).1 q;omega
   have F:t∈Region.ready .any l.toArray L:=by
    refine(QaM hsz).2 ⟨_,B,p,λj x=>?_⟩;have:=n t _ B j x;exact(hL j (by omega)).2 this
   refine⟨λq=>(by rw[q]at F;cases F),λi r=>?_⟩;obtain⟨o,f,g,u⟩:=(QaM hsz).1 r;obtain rfl:=s i o f g u;rw[Xr e]at h;obtain rfl:l[i]=o:=by rw[XL e]at f;exact X0 f
   unfold wpOpIn;rw[show l.toArray[i]?=some l[i]by rw[XH];exact f];simp only;unfold wpL wpListIn at h;have E:∀a w,wpL P rd l.toArray Q (l.drop (i+1)) a w->wpAnyIn (WF rd) 0 P .any l.toArray Q b (L.setIfInBounds i true) a w:=by
    intro a w q;have J:=Qg2 (L:=L) (i:=i) (by omega) p;refine G (i+1) _ a w (by simpa using hsz) (λj x=>?_) (by omega) (by omega) (by omega) q;rw[Jt (by omega),hL j x];omega
   split at h
   .rename_i y;rw[Vu y];exact Oper.wpIn_mono E h
   .rename_i y;rw[Vt y];exact⟨h.1,E _ _ h.2⟩
  .have:t=l.length:=by omega
   subst this;rw[List.drop_length]at h;refine⟨λ_=>h,λi r=>?_⟩;obtain⟨o,f,g,_⟩:=(QaM hsz).1 r;have d:=(XM.1 f).1;exact absurd ((hL i d).2 d) g
def QnS(af ds:List Nat)(xs:List A)(env0 e:Env):Prop:=
 ∀s,(∃j x,af.contains j=true/\ds[j]?=some s/\xs[j]?=some x/\lk e s=x)\/lk e s=.any\/(ds.contains s=false/\lk e s=lk env0 s)
inductive Jz (P:Program) (N:Nat) (l:List Oper) (ds:List Nat) (xs:List A) (env0:Env) (hB hE:Nat) (i:Nat) (H H':Qc):Prop
 |mk (o:Oper) (e:Env) (d:Nat) (x:A) (ho:l[i]?=some o) (hd:o.dst=some d) (hx:xs[i]?=some x) (hdd:Qaw hB hE H H'=true) (hs:Sb (Qf o) (QjZ l i) ds xs env0 e)
   (h:WO P H.length N l.toArray [o] e H (YZ (up e d x) H')):Jz P N l ds xs env0 hB hE i H H'
 |unit (o:Oper) (e:Env) (ho:l[i]?=some o) (hd:o.dst=none) (hx:xs[i]?=some .any) (hdd:Qaw hB hE H H'=true) (hs:Sb (Qf o) (QjZ l i) ds xs env0 e)
   (h:WO P H.length N l.toArray [o] e H (YZ e H')):Jz P N l ds xs env0 hB hE i H H'
 |alloc (o:Oper) (d t p:Nat) (cs:List A) (ho:l[i]?=some o) (hd:o.dst=some d) (hg:o.guard=none) (hx:xs[i]?=some (.ptr p 0)) (hp:(Nat.ble hB p&&Nat.blt p hE)=true) (hdead:QcD H[p]?=true)
   (hH:H.set p (.cells t cs)=H') (h:OpZ P o t cs) (hN:Nat.blt d N=true):Jz P N l ds xs env0 hB hE i H H'
 |val (o:Oper) (e:Env) (d:Nat) (x:A) (ho:l[i]?=some o) (hd:o.dst=some d) (hg:o.guard=none) (hx:xs[i]?=some x) (hN:Nat.blt d N=true) (he:QnS (Qf o) ds xs env0 e) (h:OpV P o e H x)
   (hH:H=H':=by rfl):Jz P N l ds xs env0 hB hE i H H'
 |woE (o:Oper) (e:Env) (d:Nat) (x:A) (ho:l[i]?=some o) (hd:o.dst=some d) (hx:xs[i]?=some x) (he:QnS (Qf o) ds xs env0 e) (hdd:Qaw hB hE H H'=true) (h:WO P H.length N l.toArray [o] e H (YZ (up e d x) H')):Jz P N l ds xs env0 hB hE i H H'
theorem Sb.rel{af f d:List Nat}{xs:List A}{env0 e:Env}{ro:Nat->Prop}{σ:Sig}{w:World}{a:Act}(g:Sb af f d xs env0 e)
  (i:∀j∈af,∀s x,d[j]?=some s->xs[j]?=some x->VR ro σ w x (a.tmps.getD s undef))
  (h:∀s,d.contains s=false->VR ro σ w (lk env0 s) (a.tmps.getD s undef))(hP:∀j s,f.contains j=true->d[j]?=some s->VR ro σ w (lk env0 s) (a.tmps.getD s undef)):
  ∀s,VR ro σ w (lk e s) (a.tmps.getD s undef):=by
 intro s
 induction g with
 |nil=>exact trivial
 | @dep j s1 x1 r h1 h2 h3 _ ih=>
  unfold lk;cases b:Nat.beq s s1 with
  |false=>exact ih
  |true=>
   obtain rfl:=XR b;exact i j (by simpa using h1) _ _ h2 h3
 | @old s1 x1 r h1 h2 _ ih=>
  unfold lk;cases b:Nat.beq s s1 with
  |false=>exact ih
  |true=>
   obtain rfl:=XR b;subst h2;exact h _ h1
 | @pre j s1 x1 r h1 h2 h3 _ ih=>
  unfold lk;cases b:Nat.beq s s1 with
  |false=>exact ih
  |true=>
   obtain rfl:=XR b;subst h3;exact hP j _ h1 h2
structure After (fr ro:Nat->Prop) (σ:Sig) (w:World) (hB hE:Nat) (H':Qc) (xs:List A) (i:Nat) (o:Oper) (a':Act) (w':World) (ro':Nat->Prop) (σ':Sig):Prop where
 val:∀x,xs[i]?=some x->match o.dst with
  |some d=>VR ro' σ' w' x (a'.tmps.getD d undef)
  |none=>x=.any
 sim:Sim fr ro' σ' H' w'
 ev:Qe fr ro w ro' w'
 ext:Ext ro σ w ro' σ' w'
 holes:Qk1 hB hE σ' H'
 take:σ'.take hB=σ.take hB
theorem Jz.use{P:Program}{N:Nat}{l:List Oper}{ds:List Nat}{xs:List A}{env0:Env}{hB hE i:Nat}{H H':Qc}(hb:Jz P N l ds xs env0 hB hE i H H')
  {Q:Exit->Act->World->Prop}{K:Act->World->Prop}{fr ro:Nat->Prop}{σ:Sig}{a:Act}{w:World}{o:Oper}{rd:Option Nat}(O:l[i]?=some o)
  (f:Sim fr ro σ H w)(hN:a.tmps.size=N)(n:Qdn fr a.defers w)(ac:Qeu rd fr w)(hh:Qk1 hB hE σ H)(hl:hE<=H.length)(ak:hB<=hE)
  (hD:∀j∈Qf o,∀s x,ds[j]?=some s->xs[j]?=some x->VR ro σ w x (a.tmps.getD s undef))
  (hO:∀s,ds.contains s=false->VR ro σ w (lk env0 s) (a.tmps.getD s undef))(hP:∀j s,(QjZ l i).contains j=true->ds[j]?=some s->VR ro σ w (lk env0 s) (a.tmps.getD s undef))
  (hK:∀v w' ro' σ',After fr ro σ w hB hE H' xs i o (a.put o.dst v) w' ro' σ'->K (a.put o.dst v) w'):
  wpOpIn (WF rd) 0 P l.toArray Q i K a w:=by
 have G:∀{e:Env} {H2:Qc} {E:Exit} {u:Act} {w':World},Qb4 H.length fr ro σ w N a.defers (YZ e H2) E u w'->E=.normal/\u.defers=a.defers:=by
  rintro e H2 E u w' ⟨x,_,_,_,_,_,k,⟨rfl,_⟩,_,_,_,B,_⟩;refine⟨?_,B⟩;cases E<;>first|rfl|exact k.elim|cases k
 have aj:∀{σ':Sig} {w':World},Qe fr ro w ro w'->σ'.take H.length=σ.take H.length->True:=λ_ _=>trivial;have F:∀{e:Env} {u:Act} {w':World},Qb4 H.length fr ro σ w N a.defers (YZ e H') .normal u w'->Qaw hB hE H H'=true->
   ∃ro' σ',Sim fr ro' σ' H' w'/\Qe fr ro w ro' w'/\Ext ro σ w ro' σ' w'/\Qk1 hB hE σ' H'/\σ'.take hB=σ.take hB/\ ∀s,VR ro' σ' w' (lk e s) (u.tmps.getD s undef):=by
  rintro e u w' ⟨_,ai,H2,ro',σ',al,_,⟨_,rfl,rfl⟩,r',he,ht,_,ae⟩ m;have hσ:σ'=σ++σ'.drop H.length:=by
   conv=>lhs;rw[<- Xz H.length σ']
   rw[ht, <- f.len,Va]
  refine⟨ro',σ',r'.sim.frMono ae.sub,he,?_,?_,?_,r'.env⟩
  .rw[hσ];exact he.ext σ _
  .intro p k B h3;have:=hh p k B (Qly m k B h3);rw[hσ,XN (by rw[f.len];omega)];exact this
  .rw[hσ];exact Qs (by rw[f.len];omega)
 cases hb with
 |woE r e d x g L V he m h=>
  obtain rfl:r=o:=X0 (g.symm.trans O);have hr:∀s,VR ro σ w (lk e s) (a.tmps.getD s undef):=λs=>by
   rcases he s with⟨j,x,k,B,h3,J⟩|J|⟨k,J⟩
   .rw[J];exact hD j (by simpa using k) s x B h3
   .rw[J];exact trivial
   .rw[J];exact hO s k
  refine QcW O (h rd fr ro σ a w ⟨f,hr,hN,n⟩ ac) (λ_ _ _ q=>G q) (λv w' q=>?_);obtain⟨ro',σ',g1,X,M,g4,g5,g6⟩:=F q m;refine hK v w' ro' σ' ⟨λy T=>?_,g1,X,M,g4,g5⟩;obtain rfl:=X0 (V.symm.trans T);have:=g6 d;unfold lk at this;rw[VG]at this;rw[L]at this⊢;exact this
 |mk r e d x g L V m hs h=>
  obtain rfl:r=o:=X0 (g.symm.trans O);refine QcW O (h rd fr ro σ a w ⟨f,hs.rel hD hO hP,hN,n⟩ ac) (λ_ _ _ q=>G q) (λv w' q=>?_);obtain⟨ro',σ',g1,X,M,g4,g5,g6⟩:=F q m;refine hK v w' ro' σ' ⟨λy T=>?_,g1,X,M,g4,g5⟩;obtain rfl:=X0 (V.symm.trans T);have:=g6 d;unfold lk at this;rw[VG]at this;rw[L]at this⊢;exact this
 |unit r e g L V m hs h=>
  obtain rfl:r=o:=X0 (g.symm.trans O);refine QcW O (h rd fr ro σ a w ⟨f,hs.rel hD hO hP,hN,n⟩ ac) (λ_ _ _ q=>G q) (λv w' q=>?_);obtain⟨ro',σ',g1,X,M,g4,g5,g6⟩:=F q m;refine hK v w' ro' σ' ⟨λy T=>?_,g1,X,M,g4,g5⟩;obtain rfl:=X0 (V.symm.trans T);rw[L]
 |val r e d x g L hg V Y he h hH=>
  obtain rfl:r=o:=X0 (g.symm.trans O);subst hH;have hr:Rel fr ro σ H e N a w:=by
   refine⟨f,λs=>?_,hN,n⟩;rcases he s with⟨j,x,k,B,h3,J⟩|J|⟨k,J⟩
   .rw[J];exact hD j (by simpa using k) s x B h3
   .rw[J];exact trivial
   .rw[J];exact hO s k
  obtain⟨v0,k,B⟩:=h fr ro σ N a w hr;have hw:Region.wanted r (yielded l.toArray a.tmps)=true:=by unfold Region.wanted;rw[hg]
  refine QcW (R:=λE u w'=>E=.normal/\u.defers=a.defers/\u=a.put r.dst v0/\w'=w) O (Qab hw k ?_) (λ_ _ _ q=>⟨q.1,q.2.1⟩) (λv w' q=>?_)
  .unfold wpL wpListIn;refine⟨rfl,?_,rfl,rfl⟩;rw[L];rfl
  .obtain⟨_,_,q1,rfl⟩:=q;refine hK v _ ro σ ⟨λy T=>?_,f,Qe.refl _ _ _,⟨λ_ q=>q,λ_ _=>rfl,λ_ _ q=>q,λ_ _ q=>q⟩,hh,rfl⟩;obtain rfl:=X0 (V.symm.trans T);rw[q1,L];have ab:d<a.tmps.size:=by rw[hN];simpa using Y
   show VR ro σ w' x _;simpa[Act.put,Array.getD_eq_getD_getElem?,ab]using B
 |alloc r d t p cs g L hg V hp aa hH h Y=>
  obtain rfl:r=o:=X0 (g.symm.trans O);subst hH;simp only[XX]at hp;have ag:=XS hp.1;have ah:p<hE:=by simpa using hp.2
  have hσp:=hh p ag ah aa;obtain⟨lv,k,B,h3⟩:=h ro σ w a;have hw:Region.wanted r (yielded l.toArray a.tmps)=true:=by unfold Region.wanted;rw[hg]
  have ev:Qe fr ro w ro (w.alloc (.cells lv.toArray t)):=Qe.alloc _ f.roLt f.frLt;have af:p<σ.length:=by rw[f.len];omega
  have W:Ext ro σ w ro (σ.set p (some w.heap.size)) (w.alloc (.cells lv.toArray t)):=⟨ev.sub,ev.keepRo,ev.shape,λj b q=>by
   rw[XQ (λz=>by subst z;rw[hσp]at q;cases q)];exact q⟩
  refine QcW (R:=λE u w'=>E=.normal/\u.defers=a.defers/\u=a.put r.dst (.pointer (some ⟨w.heap.size,0,none⟩))/\w'=w.alloc (.cells lv.toArray t)) O (Qab hw k ?_) (λ_ _ _ q=>⟨q.1,q.2.1⟩) (λv w' q=>?_)
  .unfold wpL wpListIn;refine⟨rfl,?_,rfl,rfl⟩;rw[L];rfl
  .obtain⟨_,_,q1,rfl⟩:=q;refine hK v _ ro (σ.set p (some w.heap.size)) ⟨λy T=>?_,f.allocAt hσp ⟨lv,Q7 _ _,B.mono W,h3⟩,ev,W,λp' g1 X M=>?_,?_⟩
   .obtain rfl:=X0 (V.symm.trans T);rw[q1,L];have ab:d<a.tmps.size:=by rw[hN];simpa using Y
    refine⟨w.heap.size,Xa af,?_⟩;simp[Act.put,Array.getD_eq_getD_getElem?,ab]
   .by_cases q:p'=p
    .subst q;rw[Xa (by omega)]at M;cases M
    .rw[XQ (λz=>q z.symm)]at M⊢;exact hh p' g1 X M
   .rw[List.take_set,List.set_eq_of_length_le];rw[Xy];omega
def same(a b:List Nat):Bool:=a.all (b.contains ·)&&b.all (a.contains ·)
theorem Qn5{a b:List Nat}(h:same a b=true)(i:Nat):i∈a↔i∈b:=by
 unfold same at h;simp only[XX,Xt,List.contains_iff_mem]at h;exact⟨h.1 i,h.2 i⟩
structure QnV (l:List Oper) (m:Nat) (ds:List Nat) (hs:List Bool) (rq ms:List (List Nat)) (pl:List (List (Nat×Nat))) (N:Nat):Prop where
 len:m<=l.length
 dst:∀i o,i<m->l[i]?=some o->(∃d,o.dst=some d/\ds[i]?=some d/\d<N)\/o.dst=none
 dsl:ds.length=m
 nodup:∀(i j d:Nat),ds[i]?=some d->ds[j]?=some d->i=j
 back:∀i o,l[i]?=some o->∀j∈Qf o,j<i
 mid:∀o,l[m]?=some o->∀j,j<m->Qcu l m j
 chain:∀i o,m<i->l[i]?=some o->i-1∈Qf o
 rqs:∀i o,i<m->l[i]?=some o->∀h∈rq.getD i [],h<m/\hs.getD h false=true/\(h∈Qf o\/ ∃j∈Qf o,j<m/\h∈rq.getD j [])
 ms0:ms.getD 0 []=[]
 full:∀st,st<ms.length->st+1=ms.length\/ ∃i,i<m/\hs.getD i false=true/\i∉ms.getD st []
 msh:∀st h,h∈ms.getD st []->h<m/\hs.getD h false=true
 pls:∀i st,i<m->st<ms.length->(∀h∈rq.getD i [],h∈ms.getD st [])->(hs.getD i false=true->i∉ms.getD st [])->(∀h∈ms.getD st [],¬Qcu l h i)->
  ∃st',(st,st')∈pl.getD i []/\st'<ms.length/\if hs.getD i false then∀j,j∈ms.getD st' []↔j=i\/j∈ms.getD st []else st'=st
theorem QkH{α:Type}{l:List α}{i:Nat}{d x:α}(h:l[i]?=some x):l.getD i d=x:=by rw[VM,h];rfl
theorem QiN{P:Program}{l:List Oper}{m:Nat}{X:List Nat}{hs:List Bool}{rq Y:List (List Nat)}{pl:List (List (Nat×Nat))}{N h0 hB hE:Nat}{xs:List A}{env0:Env}{Hs:List Qc}{Hk:Qc}
  (ok:QnV l m X hs rq Y pl N)(a7:xs.length=m)(bb:Hs.length=Y.length)(a5:h0<=hB)(a3:hB<=hE)(ao:∀H∈Hs,hE<=H.length)
  (a9:∀i p,i<m->p∈pl.getD i []->Jz P N l X xs env0 hB hE i (Hs.getD p.1 []) (Hs.getD p.2 []))(aw:Hs.getD (Y.length-1) []=Hk)
  {fr ro0:Nat->Prop}{σ0:Sig}{w0:World}{rd:Option Nat}{ds0:List Deferred}{R:Exit->Act->World->Prop}
  (hk:∀ro σ a w,Rel fr ro σ Hk (Qay X xs env0) N a w->Qe fr ro0 w0 ro w->σ.take h0=σ0.take h0->a.defers=ds0->wpL P rd l.toArray R (l.drop m) a w)(al:Qdn fr ds0 w0)(ax:Qeu rd fr w0):
  ∀(f:Nat) (L:Array Bool) (a:Act) (w:World) (ro:Nat->Prop) (σ:Sig) (st:Nat),
   L.size=l.length->unl L<=f->(∀i,m<=i->¬onL L i)->st<Y.length->Sim fr ro σ (Hs.getD st []) w->a.tmps.size=N->a.defers=ds0->
   (∀(i d:Nat) (x:A),onL L i->X[i]?=some d->xs[i]?=some x->VR ro σ w x (a.tmps.getD d undef))->(∀s,(∀j,X[j]?=some s->¬onL L j)->VR ro σ w (lk env0 s) (a.tmps.getD s undef))->
   Qe fr ro0 w0 ro w->σ.take h0=σ0.take h0->Qk1 hB hE σ (Hs.getD st [])->
   (∀i,i<m->onL L i->∀h∈rq.getD i [],onL L h)->(∀i,i<m->hs.getD i false=true->(onL L i↔i∈Y.getD st []))->
   (∀i o,onL L i->l[i]?=some o->∀j∈Qf o,onL L j)->
   wpAnyIn (WF rd) 0 P .any l.toArray R f L a w:=by
 have aq:∀st,st<Y.length->hE<=(Hs.getD st []).length:=by
  intro st h;have e:Hs[st]?=some Hs[st]:=XL (by omega);rw[QkH e];exact ao _ (Ve _)
 have fin:∀(f:Nat) (L:Array Bool) (a:Act) (w:World) (ro:Nat->Prop) (σ:Sig) (st:Nat),
   L.size=l.length->unl L<=f->(∀i,m<=i->¬onL L i)->st<Y.length->Sim fr ro σ (Hs.getD st []) w->a.tmps.size=N->a.defers=ds0->
   (∀(i d:Nat) (x:A),onL L i->X[i]?=some d->xs[i]?=some x->VR ro σ w x (a.tmps.getD d undef))->(∀s,(∀j,X[j]?=some s->¬onL L j)->VR ro σ w (lk env0 s) (a.tmps.getD s undef))->
   Qe fr ro0 w0 ro w->σ.take h0=σ0.take h0->
   (∀i,i<m->hs.getD i false=true->(onL L i↔i∈Y.getD st []))->(∀i,i<m->onL L i)->
   wpAnyIn (WF rd) 0 P .any l.toArray R f L a w:=by
  intro f L a w ro σ st hsz hu hsuf hst hsim hN hdef hD hE' hev htk hI2 k;have ah:st=Y.length-1:=by
   rcases ok.full st hst with q|⟨i,M,V,h3⟩
   .omega
   .exact absurd ((hI2 i M V).1 (k i M)) h3
  rw[ah,aw]at hsim;refine Qlx ok.back ok.chain f m L a w hsz (λi hi=>⟨λq=>?_,λq=>k i q⟩) hu (XU _) ok.len ?_
  .rcases VD i m with z|z
   .exact z
   .exact absurd q (hsuf i z)
  .have hr:Rel fr ro σ Hk (Qay X xs env0) N a w:=by
    refine⟨hsim,λs=>?_,hN,by rw[hdef];exact al.keep hev⟩;rcases Qoe (env0:=env0) (by rw[ok.dsl,a7]) s with⟨j,x,M,V,h3⟩|⟨M,V⟩
    .rw[h3];have b:j<m:=by have:=(XM.1 M).1;rw[ok.dsl]at this;exact this
     exact hD j s x (k j b) M V
    .rw[V];exact hE' s (λj q=>absurd (VI q) (by simpa using M))
   exact hk ro σ a w hr hev htk hdef
 intro f
 induction f with
 |zero=>
  intro L a w ro σ st hsz hu hsuf hst hsim hN hdef hD hE' hev htk hho hI1 hI2 hcl;refine fin 0 L a w ro σ st hsz hu hsuf hst hsim hN hdef hD hE' hev htk hI2 (λi hi=>?_);by_cases q:onL L i
  .exact q
  .have:=Qkn (L:=L) (i:=i) (by have:=ok.len;omega) q;omega
 |succ f ih=>
  intro L a w ro σ st hsz hu hsuf hst hsim hN hdef hD hE' hev htk hho hI1 hI2 hcl;by_cases k:∀i,i<m->onL L i
  .exact fin (f+1) L a w ro σ st hsz hu hsuf hst hsim hN hdef hD hE' hev htk hI2 k
  .have ay:∃i,i<m/\ ¬onL L i:=by
    refine Classical.byContradiction λq=>k λi hi=>Classical.byContradiction λz=>q ⟨i,hi,z⟩
   obtain⟨n,hn,ag⟩:=ay;obtain⟨i0,M,V,h3⟩:=least (p:=λi=>¬onL L i) (λi=>Classical.em _) n ag;have bc:=ok.len;have an:l[i0]?=some l[i0]:=XL (by omega);have hr:i0∈Region.ready .any l.toArray L:=(QaM hsz).2 ⟨_,an,V,λj b=>Classical.byContradiction λz=>h3 j (ok.back i0 _ an j b) z⟩;refine⟨λq=>(by rw[q]at hr;cases hr),λi hi=>?_⟩;obtain⟨o,T,W,G⟩:=(QaM hsz).1 hi;have u:i<m:=by
    rcases VD i m with q|q
    .exact q
    .exfalso;rcases VD m i with z|z
     .exact hsuf (i-1) (by omega) (G _ (ok.chain i o z T))
     .have:i=m:=by omega
      subst this;have a4:∀j,Qcu l i j->onL L j:=by
       intro j b
       induction b with
       |one r b=>rw[T]at r;cases r;exact G _ b
       |step _ r b ihr=>exact hcl _ _ ihr r _ b
      exact ag (a4 n (ok.mid o T n hn))
   have aj:∀h∈rq.getD i [],onL L h:=by
    intro h Q;obtain⟨_,_,q|⟨j,q1,q2,q3⟩⟩:=ok.rqs i o u T h Q
    .exact G h q
    .exact hI1 j q2 (G j q1) h q3
   obtain⟨az,au,a6,E⟩:=ok.pls i st u hst (λh Q=>by
    obtain⟨q1,q2,_⟩:=ok.rqs i o u T h Q;exact(hI2 h q1 q2).1 (aj h Q)) (λq z=>W ((hI2 i u q).2 z)) (λh Q hR=>by
    obtain⟨q1,q2⟩:=ok.msh st h Q;have av:onL L h:=(hI2 h q1 q2).2 Q;have ak:∀j,Qcu l h j->onL L j:=by
     intro j b
     induction b with
     |one r b=>exact hcl _ _ av r _ b
     |step _ r b ihr=>exact hcl _ _ ihr r _ b
    exact W (ak i hR))
   have hb:=a9 i _ u au;refine hb.use T hsim hN (by rw[hdef];exact al.keep hev) (ax.to hev λ_ q=>q) hho (aq st hst) a3 (λj b s x q1 q2=>hD j s x (G j b) q1 q2) (λs M=>hE' s (λj q=>absurd (VI q) (by simpa using M))) (λj s M V=>hE' s (λj' q q'=>?_)) ?_
   .obtain rfl:=ok.nodup j' j s q V;have b:=Xe.1 (List.contains_iff_mem.1 M);cases ac:l[j']? with
    |none=>rw[ac]at b;simp at b
    |some oj=>
     rw[ac]at b;exact W (hcl j' oj q' ac i (by simpa using b.2))
   intro v w' a0 σ' af;have ab:=af.ext;have aa:∀s,(∀d,o.dst=some d->s≠d)->(a.put o.dst v).tmps.getD s undef=a.tmps.getD s undef:=by
    intro s a8;cases hd:o.dst with
    |none=>rfl
    |some d=>
     simp only[Act.put,Array.getD_eq_getD_getElem?,Vf];rw[Vt (λq=>a8 d hd q.symm)]
   have ae:(a.put o.dst v).tmps.size=N:=by
    cases hd:o.dst with
    |none=>simpa[Act.put]using hN
    |some d=>simpa[Act.put]using hN
   have a1:(a.put o.dst v).defers=ds0:=by
    cases hd:o.dst with
    |none=>simpa[Act.put]using hdef
    |some d=>simpa[Act.put]using hdef
   have ba:=Qg2 (L:=L) (i:=i) (by omega) W;have t:i<L.size:=by omega
   have ar:∀s j,X[j]?=some s->j≠i->∀d,o.dst=some d->s≠d:=by
    intro s j b B d hd q;subst q;rcases ok.dst i o u T with⟨d',g,O,am⟩|g
    .rw[hd]at g;cases g;exact B (ok.nodup j i _ b O)
    .rw[hd]at g;cases g
   refine ih _ _ w' a0 σ' az (by simpa using hsz) (by omega) (λj b q=>?_) a6 af.sim ae a1 ?_ ?_ (hev.trans af.ev) ?_ af.holes ?_ ?_ ?_
   .rcases(Jt t).1 q with z|z
    .omega
    .exact hsuf j b z
   .intro j s y b F hy;by_cases B:j=i
    .subst B;have hv:=af.val y hy;rcases ok.dst j o u T with⟨d',g,O,am⟩|g
     .obtain rfl:s=d':=X0 (F.symm.trans O);simp only[g]at hv⊢;exact hv
     .simp only[g]at hv;subst hv;exact trivial
    .rw[aa s (ar s j F B)];rcases(Jt t).1 b with z|z
     .exact absurd z B
     .exact(hD j s y z F hy).mono ab
   .intro s F;have a2:∀d,o.dst=some d->s≠d:=by
     rintro d hd rfl;rcases ok.dst i o u T with⟨d',g,O,am⟩|g
     .rw[hd]at g;cases g;exact F i O ((Jt t).2 (.inl rfl))
     .rw[hd]at g;cases g
    rw[aa s a2];exact(hE' s (λj q z=>F j q ((Jt t).2 (.inr z)))).mono ab
   .rw[<- htk];have:=congrArg (List.take h0) af.take;rw[List.take_take,List.take_take,XB a5]at this;exact this
   .intro j b J h Q;refine(Jt t).2 (.inr ?_);rcases(Jt t).1 J with z|z
    .subst z;exact aj h Q
    .exact hI1 j b z h Q
   .intro j b J;rw[Jt t];cases q:hs.getD i false with
    |false=>
     have B:j≠i:=by rintro rfl;rw[q]at J;cases J
     rw[q]at E;simp only[Xj,if_false]at E;simp only[B,false_or];rw[E];exact hI2 j b J
    |true=>
     rw[q]at E;simp only[if_true]at E;rw[E j,hI2 j b J]
   .intro j o' b r j' ai;rcases(Jt t).1 b with z|z
    .subst z;rw[T]at r;cases r;exact(Jt t).2 (.inr (G _ ai))
    .exact(Jt t).2 (.inr (hcl j o' z r j' ai))
def Qeg.dstB(N:Nat):Nat->List Oper->List Nat->Bool
 |_,_,[]=>true
 |i,o::r,d::ds=>(match o.dst with|some d'=>Nat.beq d' d&&Nat.blt d N|none=>true)&&Qeg.dstB N (i+1) r ds
 |_,[],_::_=>false
def Qeg.rqB(m:Nat)(hs:List Bool)(rq:List (List Nat)):Nat->List Oper->Bool
 |_,[]=>true
 |i,o::r=>(rq.getD i []).all (λh=>Nat.blt h m&&hs.getD h false&&((Qf o).contains h||(Qf o).any λj=>Nat.blt j m&&(rq.getD j []).contains h))&&Qeg.rqB m hs rq (i+1) r
def Qjx(l:List Oper)(h:Nat):List Nat:=match l[h]? with
 |some o=>Qe1 l h (Qf o)
 |none=>[]
theorem Qld{l:List Oper}{h j:Nat}(q:j∈Qjx l h):Qcu l h j:=by
 unfold Qjx at q;cases a:l[h]? with
 |none=>rw[a]at q;cases q
 |some o=>rw[a]at q;exact Qb9 h (Qf o) (λi b=>.one a b) j q
def Qeg.plB(l:List Oper)(m:Nat)(hs:List Bool)(rq ms:List (List Nat))(pl:List (List (Nat×Nat))):Bool:=
 (List.range m).all λi=>(List.range ms.length).all λst=>((ms.getD st []).any λh=>(Qjx l h).contains i)|| !(rq.getD i []).all ((ms.getD st []).contains ·)||(hs.getD i false&&(ms.getD st []).contains i)||
  (pl.getD i []).any λp=>Nat.beq p.1 st&&Nat.blt p.2 ms.length&&(bif hs.getD i false then same (ms.getD p.2 []) (i::ms.getD st [])else Nat.beq p.2 st)
def Qeg(l:List Oper)(m N:Nat)(ds:List Nat)(hs:List Bool)(rq ms:List (List Nat))(pl:List (List (Nat×Nat))):Bool:=
 Nat.ble m l.length&&(ds.length==m)&&Qeg.dstB N 0 l ds&&drawChk.nodupB ds&&drawChk.goB l m 0 l&&Qeg.rqB m hs rq 0 l&&(ms.getD 0 []).isEmpty&&Nat.blt 0 ms.length
 &&((List.range ms.length).all λst=>Nat.beq (st+1) ms.length||(List.range m).any λi=>hs.getD i false&& !(ms.getD st []).contains i)&&Qeg.plB l m hs rq ms pl&&(List.range ms.length).all λst=>(ms.getD st []).all λh=>Nat.blt h m&&hs.getD h false
theorem QgF{N:Nat}:∀(l:List Oper) (a:List Nat) (b:Nat),Qeg.dstB N b l a=true->∀(i d:Nat) (o:Oper),l[i]?=some o->a[i]?=some d->
  (o.dst=some d/\d<N)\/o.dst=none:=by
 intro l
 induction l with
 |nil=>intro a b h i d o f;simp at f
 |cons x r k=>
  intro a b h i d o f g;cases a with
  |nil=>simp at g
  |cons y a=>
   simp only[Qeg.dstB,XX]at h;cases i with
   |zero=>
    simp at f g;subst f;subst g;have h:=h.1;split at h
    .rename_i m j;simp only[XX]at h;have e:=XR h.1;subst e;exact .inl ⟨j,by simpa using h.2⟩
    .rename_i j;exact .inr j
   |succ i=>
    have:=k a (b+1) h.2 i d o (by simpa using f) (by simpa using g);exact this
theorem Qmj{m:Nat}{e:List Bool}{d:List (List Nat)}:∀(l:List Oper) (b:Nat),Qeg.rqB m e d b l=true->∀(i:Nat) (o:Oper),l[i]?=some o->
  ∀h∈d.getD (b+i) [],h<m/\e.getD h false=true/\(h∈Qf o\/ ∃j∈Qf o,j<m/\h∈d.getD j []):=by
 intro l
 induction l with
 |nil=>intro b h i o a;simp at a
 |cons x r g=>
  intro b h i o a;simp only[Qeg.rqB,XX]at h;cases i with
  |zero=>
   simp at a;subst a;intro k w;have:=Xt.1 h.1 k (by simpa using w);simp only[XX,Bool.or_eq_true,List.contains_iff_mem,Xu]at this;obtain⟨⟨s,u⟩,f⟩:=this;refine⟨by simpa using s,u,?_⟩;rcases f with q|⟨j,t,p,n⟩
   .exact .inl q
   .exact .inr ⟨j,t,by simpa using p,n⟩
  |succ i=>
   have:=g (b+1) h.2 i o (by simpa using a);rw[show b+1+i=b+(i+1)by omega]at this;exact this
theorem Qnf{l:List Oper}{m N:Nat}{s:List Nat}{B:List Bool}{y t:List (List Nat)}{H:List (List (Nat×Nat))}(h:Qeg l m N s B y t H=true):
  QnV l m s B y t H N/\0<t.length:=by
 unfold Qeg at h;simp only[XX]at h;obtain⟨⟨⟨⟨⟨⟨⟨⟨⟨⟨X,J⟩,W⟩,R⟩,h5⟩,h6⟩,O⟩,L⟩,Y⟩,G⟩,E⟩:=h;have F:m<=l.length:=XS X;have x:s.length=m:=by simpa using J
 have g:=Qim l 0 h5;refine⟨⟨F,λi o r b=>?_,x,Qd8 R,λi o b=>by have:=(g i o b).1;simpa using this,λo b j P=>Qb9 m (Qf o) (λi r=>.one b r) j ((g m o b).2.1 (by omega) j P),
  λi o r b=>by have:=(g i o b).2.2 (by omega);simpa using this,λi o r b h f=>by have:=Qmj l 0 h6 i o b h (by simpa using f);exact this,
  by simpa using O,λk a=>?_,λk h f=>?_,λi k r a Q T V=>?_⟩,by simpa using L⟩
 .have u:s[i]?=some s[i]:=XL (by omega);rcases QgF l s 0 W i _ o b u with⟨n,w⟩|n
  .exact .inl ⟨_,n,u,w⟩
  .exact .inr n
 .have:=Xt.1 Y k (List.mem_range.2 a);simp only[Bool.or_eq_true,Xu,XX,Bool.not_eq_true']at this;rcases this with q|⟨i,n,w,d⟩
  .exact .inl (XR q)
  .exact .inr ⟨i,List.mem_range.1 n,w,λz=>by rw[List.contains_iff_mem.2 z]at d;cases d⟩
 .have a:k<t.length:=by
   rcases VD k t.length with q|q
   .exact q
   .rw[VM,XP q]at f;cases f
  have:=Xt.1 (Xt.1 E k (List.mem_range.2 a)) h f;simp only[XX]at this;exact⟨by simpa using this.1,this.2⟩
 .have:=Xt.1 (Xt.1 G i (List.mem_range.2 r)) k (List.mem_range.2 a);simp only[Bool.or_eq_true,Bool.not_eq_true']at this;rcases this with((q|q)|q)|q
  .exfalso;obtain⟨h,f,q⟩:=Xu.1 q;exact V h f (Qld (List.contains_iff_mem.1 q))
  .exfalso;have:((y.getD i []).all ((t.getD k []).contains ·))=true:=Xt.2 λh f=>List.contains_iff_mem.2 (Q h f);rw[this]at q;cases q
  .simp only[XX]at q;exact absurd (List.contains_iff_mem.1 q.2) (T q.1)
  .obtain⟨p,M,q⟩:=Xu.1 q;simp only[XX]at q;obtain⟨⟨n,w⟩,d⟩:=q;have e:=XR n;refine⟨p.2,by rw[<- e];exact M,by simpa using w,?_⟩;cases z:B.getD i false with
   |true=>
    rw[z]at d;simp only[Vq]at d;simp only[if_true];intro j;rw[Qn5 d j,X7]
   |false=>
    rw[z]at d;simp only[Vr]at d;simp only[Xj,if_false];exact XR d
inductive QhK (P:Program) (N:Nat) (l:List Oper) (ds:List Nat) (xs:List A) (env0:Env) (hB hE:Nat):Nat->List (List (Qc×Qc))->Prop
 |nil {i:Nat}:QhK P N l ds xs env0 hB hE i []
 |cons {i:Nat} {s:List (Qc×Qc)} {r:List (List (Qc×Qc))} (h:∀p∈s,Jz P N l ds xs env0 hB hE i p.1 p.2) (k:QhK P N l ds xs env0 hB hE (i+1) r):QhK P N l ds xs env0 hB hE i (s::r)
theorem QhK.get{P:Program}{N:Nat}{l:List Oper}{e:List Nat}{xs:List A}{env0:Env}{hB hE b:Nat}{d:List (List (Qc×Qc))}(h:QhK P N l e xs env0 hB hE b d):
  ∀(i:Nat) (s:List (Qc×Qc)),d[i]?=some s->∀p∈s,Jz P N l e xs env0 hB hE (b+i) p.1 p.2:=by
 induction h with
 |nil=>intro i s h;simp at h
 | @cons b s0 r h _ ih=>
  intro i s a;cases i with
  |zero=>simp at a;subst a;exact h
  |succ i=>
   have:=ih i s (by simpa using a);rw[show b+1+i=b+(i+1)by omega]at this;exact this
theorem Q1{P:Program}{N:Nat}{l:List Oper}{a:List Nat}{xs:List A}{env0:Env}{hB hE i:Nat}:∀p∈([]:List (Qc×Qc)),Jz P N l a xs env0 hB hE i p.1 p.2:=by
 intro p b;cases b
theorem Qg{P:Program}{N:Nat}{l:List Oper}{a:List Nat}{xs:List A}{env0:Env}{hB hE i:Nat}{H H':Qc}{r:List (Qc×Qc)}(h:Jz P N l a xs env0 hB hE i H H')
  (k:∀p∈r,Jz P N l a xs env0 hB hE i p.1 p.2):∀p∈(H,H')::r,Jz P N l a xs env0 hB hE i p.1 p.2:=by
 intro p b;rcases X7.1 b with rfl|q
 .exact h
 .exact k p q
theorem Qg8{P:Program}{h0 N:Nat}{id:Nat}{l:List Oper}{env:Env}{H:Qc}{fr ro:Nat->Prop}{σ:Sig}{a:Act}{w:World}{rd:Option Nat}{R:Exit->Act->World->Prop}(m c:Nat)(ds:List Nat)(hs:List Bool)(rq ms:List (List Nat))(F:List (List (Nat×Nat)))(xs:List A)(Hs:List Qc)(Hk:Qc)
  (hm:P.follows .mixedOrders=true)(hc:Qeg l m N ds hs rq ms F=true)(ac:Nat.beq xs.length m=true)(W:Nat.beq Hs.length ms.length=true)(aa:Nat.ble h0 H.length=true)
  (hh:Hs.all (λX=>Nat.ble (H.length+c) X.length)=true)(Y:Hs[0]?=some (H++List.replicate c .dead))(af:Hs.getD (ms.length-1) []=Hk)
  (ae:QhK P N l ds xs env H.length (H.length+c) 0 (F.map λq=>q.map λp=>(Hs.getD p.1 [],Hs.getD p.2 [])))(V:Nat.beq F.length m=true)
  (r:Rel fr ro σ H env N a w)(ag:Qeu rd fr w)
  (hk:∀ro' σ' a' w',Rel fr ro' σ' Hk (Qay ds xs env) N a' w'->Qe fr ro w ro' w'->σ'.take h0=σ.take h0->a'.defers=a.defers->wpL P rd l.toArray R (l.drop m) a' w'):(Code.region id l.toArray true).wpIn (WF rd) 0 P R a w:=by
 obtain⟨ok,M⟩:=Qnf hc;have O:=XR ac;have L:=XR W;have ah:=XR V;have B:Qe fr ro w ro {w with drawn:=w.drawn+1}:=⟨λ_ q=>q,λ_ _=>rfl,λ_ _=>rfl,XU _,λ_ _ q=>q,rfl,rfl,rfl,Nat.le_succ _⟩;have u:Ext ro σ w ro (σ++List.replicate c none) {w with drawn:=w.drawn+1}:=B.ext σ _;have ab:=r.sim.len;have G:Hs.getD 0 []=H++List.replicate c .dead:=QkH Y;have k:∀(i:Nat) (s:Option Nat) (x:Blk),(σ++List.replicate c none)[i]?=some s->(H++List.replicate c Blk.dead)[i]?=some x->(σ[i]?=some s/\H[i]?=some x)\/(s=none/\x=.dead):=by
  intro i s x n h;rcases VD i σ.length with q|q
  .rw[XN q]at n;rw[XN (by omega)]at h;exact .inl ⟨n,h⟩
  .rw[XO q]at n;rw[XO (by omega)]at h;have a1:=VI n;have a2:=VI h;exact .inr ⟨(List.mem_replicate.1 a1).2,(List.mem_replicate.1 a2).2⟩
 have E:Sim fr ro (σ++List.replicate c none) (H++List.replicate c .dead) {w with drawn:=w.drawn+1}:=by
  refine⟨by simp[ab],r.sim.roOk.to (λ_ q=>q) (λ_ _=>rfl) r.sim.roLt,r.sim.frLt,r.sim.roFr,?_,?_,?_,
   r.sim.hidTo (· = ·) QU (XU _) (λ_ _ _ _ _ _ _ q=>q) (λ_ _ _ _ _ _ _ q=>q) λj d y g1 g2 g3=>.inl ?_⟩
  rotate_left 3
  .rcases k j _ _ g1 g2 with⟨g,t⟩|⟨g,_⟩
   .exact⟨j,y,rfl,g,t,(λz=>z),λc q=>q⟩
   .cases g
  .intro i b blk n h Q;rcases k i _ _ n h with⟨g,t⟩|⟨g,_⟩
   .exact r.sim.own i b blk g t Q
   .cases g
  .intro i j b x y n h Q h4 h5 h6;rcases k i _ _ n Q with⟨g,t⟩|⟨g,_⟩
   .rcases k j _ _ h h4 with⟨T,q4⟩|⟨T,_⟩
    .exact r.sim.inj i j b x y g T t q4 h5 h6
    .cases T
   .cases g
  .intro i s x n h;rcases k i _ _ n h with⟨g,t⟩|⟨g,t⟩
   .exact BR.keep u (λb hb _=>rfl) (r.sim.blk i s x g t) (λ_ _ _ _=>rfl)
   .subst t;exact trivial
 have f:∀i,¬onL (Array.replicate l.length false) i:=by
  intro i q;unfold onL at q;rw[Array.getElem?_replicate]at q;split at q<;>simp at q
 have J:=XS aa;refine wpIn_region_any hm ?_;rw[List.size_toArray];refine QiN ok O L J (Nat.le_add_right _ _) (λX hX=>XS (Xt.1 hh X hX)) ?_ af (ro0:=ro) (σ0:=σ) (w0:=w) (ds0:=a.defers) hk r.defers ag
  l.length _ a _ ro (σ++List.replicate c none) 0 (by simp) ?_ (λi _=>f i) M (by rw[G];exact E) r.size rfl (λi d x q=>absurd q (f i)) (λs _=>(r.env s).mono u) B (Qs (by omega)) ?_
  (λi _ q=>absurd q (f i)) (λi _ _=>⟨λq=>absurd q (f i),λq=>by rw[ok.ms0]at q;cases q⟩) (λi o q=>absurd q (f i))
 .intro i p hi hp;have e:(F.map λq=>q.map λp=>(Hs.getD p.1 [],Hs.getD p.2 []))[i]?=some ((F.getD i []).map λp=>(Hs.getD p.1 [],Hs.getD p.2 [])):=by
   rw[Xq,XL (by omega),VM,XL (by omega)];rfl
  have:=ae.get i _ e _ (Xf.2 ⟨p,hp,rfl⟩);simpa using this
 .unfold unl;simp[List.countP_replicate]
 .intro p n h Q;rw[XO (by omega),List.getElem?_replicate,Vu (by omega)]
theorem Qb2{P:Program}{h0 N:Nat}{id:Nat}{l:List Oper}{env:Env}{H:Qc}{Q:Qu}(m c:Nat)(d:List Nat)(u:List Bool)(x g:List (List Nat))(f:List (List (Nat×Nat)))(xs:List A)(Hs:List Qc)(Hk:Qc)
  (z:P.follows .mixedOrders=true)(F:Qeg l m N d u x g f=true)(i:Nat.beq xs.length m=true)(s:Nat.beq Hs.length g.length=true)(h:Nat.ble h0 H.length=true)
  (y:Hs.all (λX=>Nat.ble (H.length+c) X.length)=true)(t:Hs[0]?=some (H++List.replicate c .dead))(k:Hs.getD (g.length-1) []=Hk)
  (j:QhK P N l d xs env H.length (H.length+c) 0 (f.map λq=>q.map λp=>(Hs.getD p.1 [],Hs.getD p.2 [])))(n:Nat.beq f.length m=true)
  (G:WO P h0 N l.toArray (l.drop m) (Qay d xs env) Hk Q):TC P h0 N (.region id l.toArray true) env H Q:=by
 intro B E J σ a w r hrd;refine Code.wpIn_mono (λe a w q=>Qb4.postW q) (Qg8 m c d u x g f xs Hs Hk z F i s h y t k j n r hrd λro' σ' a' w' hr hev htk hdf=>?_);have b:=G B E ro' σ' a' w' hr (hrd.to hev λ_ q=>q);rw[hdf]at b;exact Yd (λe a w q=>q.step hev htk) _ _ _ b
def draw0(l:List Oper)(m N:Nat)(ds:List Nat):Bool:=Nat.ble m l.length&&(ds.length==m)&&Qeg.dstB N 0 l ds&&drawChk.nodupB ds&&drawChk.goB l m 0 l
inductive Oq (P:Program) (N:Nat) (l:List Oper) (ds:List Nat) (xs:List A) (env0:Env) (H:Qc):Nat->Nat->Prop
 |n {i:Nat}:Oq P N l ds xs env0 H i 0
 |c {i c:Nat} (h:Jz P N l ds xs env0 H.length H.length i H H) (k:Oq P N l ds xs env0 H (i+1) c):Oq P N l ds xs env0 H i (c+1)
theorem Oq.get{P:Program}{N:Nat}{l:List Oper}{a:List Nat}{xs:List A}{env0:Env}{H:Qc}{b c:Nat}(h:Oq P N l a xs env0 H b c):∀i,i<c->Jz P N l a xs env0 H.length H.length (b+i) H H:=by
 induction h with
 |n=>intro i d;omega
 | @c b c h _ ih=>
  intro i d;cases i with
  |zero=>exact h
  |succ i=>
   have:=ih i (by omega);rw[show b+1+i=b+(i+1)by omega]at this;exact this
theorem Qng{l:List Oper}{m N:Nat}{d:List Nat}(h:draw0 l m N d=true):QnV l m d [] [] [[]] (List.replicate m [(0,0)]) N:=by
 unfold draw0 at h;simp only[XX]at h;obtain⟨⟨⟨⟨w,t⟩,z⟩,s⟩,x⟩:=h;have q:m<=l.length:=XS w;have n:d.length=m:=by simpa using t
 have g:=Qim l 0 x;refine⟨q,λi o e b=>?_,n,Qd8 s,λi o b=>by have:=(g i o b).1;simpa using this,λo b j u=>Qb9 m (Qf o) (λi e=>.one b e) j ((g m o b).2.1 (by omega) j u),
  λi o e b=>by have:=(g i o b).2.2 (by omega);simpa using this,λi o e b h p=>by simp at p,rfl,λk a=>.inl (by simp at a;simp[a]),λk h p=>by cases k<;>simp at p,λi k e a _ _ _=>?_⟩
 .have f:d[i]?=some d[i]:=XL (by omega);rcases QgF l d 0 z i _ o b f with⟨r,y⟩|r
  .exact .inl ⟨_,r,f,y⟩
  .exact .inr r
 .have:k=0:=by simp at a;exact a
  subst this;refine⟨0,?_,by simp,by simp⟩;rw[VM,List.getElem?_replicate,Vu e];exact VC.2 rfl
theorem Qg9{P:Program}{h0 N:Nat}{id:Nat}{l:List Oper}{env:Env}{H:Qc}{fr ro:Nat->Prop}{σ:Sig}{a:Act}{w:World}{rd:Option Nat}{R:Exit->Act->World->Prop}(m:Nat)(n:List Nat)(xs:List A)
  (B:P.follows .mixedOrders=true)(F:Go.Sw.draw0 l m N n=true)(t:Nat.beq xs.length m=true)(k:Nat.ble h0 H.length=true)
  (u:Oq P N l n xs env H 0 m)(r:Rel fr ro σ H env N a w)(j:Qeu rd fr w)
  (E:∀ro' σ' a' w',Rel fr ro' σ' H (Qay n xs env) N a' w'->Qe fr ro w ro' w'->σ'.take h0=σ.take h0->a'.defers=a.defers->wpL P rd l.toArray R (l.drop m) a' w'):(Code.region id l.toArray true).wpIn (WF rd) 0 P R a w:=by
 have ok:=Qng F;have f:=XR t;have e:Qe fr ro w ro {w with drawn:=w.drawn+1}:=⟨λ_ q=>q,λ_ _=>rfl,λ_ _=>rfl,XU _,λ_ _ q=>q,rfl,rfl,rfl,Nat.le_succ _⟩;have h:Ext ro σ w ro σ {w with drawn:=w.drawn+1}:=e.ext0 σ;have g:Sim fr ro σ H {w with drawn:=w.drawn+1}:=r.sim.heap rfl;have b:∀i,¬onL (Array.replicate l.length false) i:=by
  intro i q;unfold onL at q;rw[Array.getElem?_replicate]at q;split at q<;>simp at q
 refine wpIn_region_any B ?_;rw[List.size_toArray];refine QiN (hB:=H.length) (hE:=H.length) (Hs:=[H]) (Hk:=H) ok f rfl (XS k) (XU _) (λX hX=>by rw[VC.1 hX];exact XU _) ?_ rfl (ro0:=ro) (σ0:=σ) (w0:=w) (ds0:=a.defers) E r.defers j
  l.length _ a _ ro σ 0 (by simp) ?_ (λi _=>b i) (by simp) g r.size rfl (λi d x q=>absurd q (b i)) (λs _=>(r.env s).mono h) e rfl (λp J G=>by omega)
  (λi _ q=>absurd q (b i)) (λi _ _=>⟨λq=>absurd q (b i),λq=>by cases q⟩) (λi o q=>absurd q (b i))
 .intro i p z y;rw[VM,List.getElem?_replicate,Vu z]at y;obtain rfl:=VC.1 y;have:=u.get i z;rw[Xw]at this;exact this
 .unfold unl;simp[List.countP_replicate]
theorem TC.draw0{P:Program}{h0 N:Nat}{id:Nat}{l:List Oper}{env:Env}{H:Qc}{Q:Qu}(m:Nat)(d:List Nat)(xs:List A)
  (p:P.follows .mixedOrders=true)(k:Go.Sw.draw0 l m N d=true)(g:Nat.beq xs.length m=true)(f:Nat.ble h0 H.length=true)
  (h:Oq P N l d xs env H 0 m)(n:WO P h0 N l.toArray (l.drop m) (Qay d xs env) H Q):TC P h0 N (.region id l.toArray true) env H Q:=by
 intro i j s σ a w r hrd;refine Code.wpIn_mono (λe a w q=>Qb4.postW q) (Qg9 m d xs p k g f h r hrd λro' σ' a' w' hr hev htk hdf=>?_);have b:=n i j ro' σ' a' w' hr (hrd.to hev λ_ q=>q);rw[hdf]at b;exact Yd (λe a w q=>q.step hev htk) _ _ _ b
section
variable {P:Program} {N:Nat} {l:List Oper} {ds af bf:List Nat} {xs:List A} {env0 e r:Env} {H H':Qc} {i hB hE:Nat} {o:Oper} {d s:Nat} {x a:A}
theorem sN:Sb af bf ds xs env0 []:=.nil
theorem sD(j:Nat)(k:Sb af bf ds xs env0 r)(b:af.contains j=true:=by exact rfl)(h2:ds[j]?=some s:=by exact rfl)(h3:xs[j]?=some a:=by exact rfl):Sb af bf ds xs env0 ((s,a)::r):=.dep j b h2 h3 k
theorem sP(j:Nat)(k:Sb af bf ds xs env0 r)(b:bf.contains j=true:=by exact rfl)(h2:ds[j]?=some s:=by exact rfl)(h3:lk env0 s=a:=by exact rfl):Sb af bf ds xs env0 ((s,a)::r):=.pre j b h2 h3 k
theorem Qeh(H:Qc):Qaw hB hE H H=true:=by
 unfold Qaw;refine Xt.2 λp _=>?_;cases QcD H[hB+p]? <;>rfl
theorem Om(f:l[i]?=some o)(a:Sb (Qf o) (QjZ l i) ds xs env0 e)(h:WO P H.length N l.toArray [o] e H (YZ (up e d x) H))(b:o.dst=some d:=by exact rfl)(hx:xs[i]?=some x:=by exact rfl):Jz P N l ds xs env0 hB hE i H H:=
 .mk o e d x f b hx (Qeh H) a h
theorem Om1(f:l[i]?=some o)(a:Sb (Qf o) (QjZ l i) ds xs env0 e)(h:WO P H.length N l.toArray [o] e H (YZ (up e d x) H'))(b:o.dst=some d:=by exact rfl)(hx:xs[i]?=some x:=by exact rfl)(hdd:Qaw hB hE H H'=true:=by exact rfl):Jz P N l ds xs env0 hB hE i H H':=
 .mk o e d x f b hx hdd a h
theorem Om2(d:l[i]?=some o)(a:Sb (Qf o) (QjZ l i) ds xs env0 e)(h:WO P H.length N l.toArray [o] e H (YZ e H'))(b:o.dst=none:=by exact rfl)(hx:xs[i]?=some .any:=by exact rfl)(hdd:Qaw hB hE H H'=true:=by exact rfl):Jz P N l ds xs env0 hB hE i H H':=
 .unit o e d b hx hdd a h
end
end Go.Sw
namespace Go.Sw
structure TyI where
 fld:List (Nat×Nat×Nat)
 agg:List (Nat×Bool×Nat)
 zer:List (Nat×List A×List (Nat×Nat))
structure TyOK (P:Program) (T:TyI):Prop where
 fld:∀e∈T.fld,∃n,QW P e.1 e.2.1 e.2.2 n
 agg:∀e∈T.agg,(∀w,(isAgg e.1).run P w=.ok e.2.1 w)/\ ∀w,(sizeOf e.1).run P w=.ok e.2.2 w
 zer:∀e∈T.zer,(∃z,(∀w,(zeroValue e.1).run P w=.ok z w)/\ZR (.agg e.2.1) z)/\QD P e.1 e.2.2
def Qir:List (Nat×Nat×Nat)->Nat->Nat->Option Nat
 |[],_,_=>none
 |(a,b,c)::r,t,f=>bif Nat.beq a t&&Nat.beq b f then some c else Qir r t f
def Qcl{β:Type}:List (Nat×β)->Nat->Option β
 |[],_=>none
 |(a,b)::r,t=>bif Nat.beq a t then some b else Qcl r t
theorem Qiq{l:List (Nat×Nat×Nat)}{t f c:Nat}(h:Qir l t f=some c):(t,f,c)∈l:=by
 induction l with
 |nil=>cases h
 |cons x r g=>
  obtain⟨a,b,d⟩:=x;unfold Qir at h;cases q:(Nat.beq a t&&Nat.beq b f)with
  |true=>
   rw[q]at h;simp only[XX]at q;have i:=XR q.1;have e:=XR q.2;simp only[Vq,Option.some.injEq]at h;subst i e h;exact .head _
  |false=>rw[q]at h;exact .tail _ (g h)
theorem QaB{β:Type}{l:List (Nat×β)}{t:Nat}{c:β}(h:Qcl l t=some c):(t,c)∈l:=by
 induction l with
 |nil=>cases h
 |cons x r d=>
  obtain⟨a,b⟩:=x;unfold Qcl at h;cases q:Nat.beq a t with
  |true=>
   rw[q]at h;have e:=XR q;simp only[Vq,Option.some.injEq]at h;subst e h;exact .head _
  |false=>rw[q]at h;exact .tail _ (d h)
def Qhz(H:Qc):A->Option (List A)
 |.rp cs=>some cs
 |.ptr i off=>match H[i]? with
  |some (.cells _ cs)=>some (cs.drop off)
  |_=>none
 |_=>none
theorem QjY{H:Qc}{p:A}{cs:List A}(h:Qhz H p=some cs):Pts H p cs:=by
 unfold Qhz at h;split at h
 .cases h;exact Pts.rp
 .split at h
  .rename_i a;cases h;exact Pts.cells a rfl
  .cases h
 .cases h
def Qmg(T:TyI)(o:Oper)(env:Env)(H:Qc):Option A:=
 match o.op with
 |.move x=>some (opA env x)
 |.assign x=>some (opA env x)
 |.fieldAddr t x f=>match Qir T.fld t f with
  |none=>none
  |some off=>match opA env x with
   |.ptr i p=>some (.ptr i (p+off))
   |.rp cs=>some (.rp (cs.drop off))
   |_=>none
 |.load t x=>match Qcl T.agg t with
  |none=>none
  |some (b,n)=>match x with
   |.global g=>match QjI[g]? with
    |some zs=>bif b&&Nat.beq zs.length n then some (.agg (zs.map (A.int .i64)))else none
    |none=>none
   |x=>match Qhz H (opA env x)with
    |none=>none
    |some cs=>bif b then(bif Nat.beq (cs.take n).length n then some (.agg (cs.take n))else none)else cs.head?
 |.build t parts=>match Qcl T.zer t with
  |none=>none
  |some (zs,pl)=>match Qee env pl zs parts.toList with
   |some cs=>some (.agg cs)
   |none=>none
 |.extract x i=>match opA env x with
  |.tup vs=>vs[i]?
  |_=>none
 |.makeFunc f first cap=>some (.fn f (first.toList.map (opA env)) (cap.toList.map (opA env)))
 |_=>none
theorem Qmf{P:Program}{T:TyI}(m:TyOK P T){o:Oper}{env:Env}{H:Qc}{x:A}(h:Qmg T o env H=some x):OpV P o env H x:=by
 unfold Qmg at h;split at h
 .rename_i y a;cases h;exact OpV.move a rfl
 .rename_i y a;cases h;exact OpV.assign a rfl
 .rename_i t y f a;split at h
  .cases h
  .rename_i E l;obtain⟨n,s⟩:=m.fld _ (Qiq l);split at h
   .rename_i i p d;cases h;exact Yo s a d
   .rename_i e d;cases h;exact Qp s a d rfl
   .cases h
 .rename_i t y a;split at h
  .cases h
  .rename_i b n F;obtain⟨j,k⟩:=m.agg _ (QaB F);split at h
   .rename_i g;split at h
    .rename_i u J;cases q:(b&&Nat.beq u.length n)with
     |false=>rw[q]at h;cases h
     |true=>
      rw[q]at h;cases h;simp only[XX]at q;obtain⟨rfl,G⟩:=q;exact QgP j k J (XR G) a
    .cases h
   .split at h
    .cases h
    .rename_i e B;have r:=QjY B;cases b with
     |true=>
      simp only[Vq]at h;cases q:Nat.beq (e.take n).length n with
      |false=>rw[q]at h;cases h
      |true=>
       rw[q]at h;cases h;exact Qh a j k rfl r rfl (XR q)
     |false=>
      simp only[Vr]at h;cases e with
      |nil=>cases h
      |cons v e=>cases h;exact OpV.load a j rfl r
 .rename_i t parts a;split at h
  .cases h
  .rename_i u M w;obtain⟨⟨z,j,k⟩,L⟩:=m.zer _ (QaB w);split at h
   .rename_i e l;cases h;exact OpV.build j k L (by rw[a]) l
   .cases h
 .rename_i y i a;split at h
  .rename_i vs d;exact OpV.extract a d h
  .cases h
 .rename_i f first cap a
  cases h;exact OpV.makeFunc (first:=first.toList) (cap:=cap.toList) (by rw[a]) rfl rfl
 .cases h
def QiM(af:List Nat):Nat->List Nat->List A->Env->Env
 |j,d::ds,x::xs,e=>(d,bif af.contains j then x else .any)::QiM af (j+1) ds xs e
 |_,_,_,e=>e
theorem Qow{af:List Nat}{env0:Env}(s:Nat):∀(a:List Nat) (xs:List A) (b:Nat),a.length=xs.length->
  (∃(j:Nat) (x:A),a[j]?=some s/\xs[j]?=some x/\lk (QiM af b a xs env0) s=bif af.contains (b+j)then x else .any)\/(a.contains s=false/\lk (QiM af b a xs env0) s=lk env0 s):=by
 intro a
 induction a with
 |nil=>intro xs b f;right;exact⟨rfl,by unfold QiM;rfl⟩
 |cons d a k=>
  intro xs b f;cases xs with
  |nil=>cases f
  |cons x xs=>
   cases q:Nat.beq s d with
   |true=>
    have e:=XR q;subst e;left;refine⟨0,x,rfl,rfl,?_⟩;simp only[QiM,lk,q,Vq];rfl
   |false=>
    have h:s≠d:=λz=>by subst z;simp[VG]at q
    simp only[QiM,lk,q,Vr];rcases k xs (b+1) (by simpa using f)with⟨j,y,i,g,l⟩|⟨i,g⟩
    .left;refine⟨j+1,y,by simpa using i,by simpa using g,?_⟩;rw[show b+(j+1)=b+1+j by omega];exact l
    .right;refine⟨?_,g⟩;rw[List.contains_cons,i];simpa using h
def Qko(T:TyI)(N:Nat)(l:List Oper)(ds:List Nat)(xs:List A)(env0:Env)(H:Qc)(i:Nat):Option A:=
 match l[i]? with
 |none=>none
 |some o=>match o.guard,o.dst with
  |none,some d=>bif Nat.blt d N&&Nat.beq ds.length xs.length then Qmg T o (QiM (Qf o) 0 ds xs env0) H else none
  |_,_=>none
theorem Qov{af b:List Nat}{xs:List A}{env0:Env}(hl:b.length=xs.length):QnS af b xs env0 (QiM af 0 b xs env0):=by
 intro s;rcases Qow (af:=af) (env0:=env0) s b xs 0 hl with⟨j,x,e,d,a⟩|h
 .rw[Xw]at a;cases q:af.contains j with
  |true=>rw[q]at a;exact .inl ⟨j,x,q,e,d,a⟩
  |false=>rw[q]at a;exact .inr (.inl a)
 .exact .inr (.inr h)
theorem vQ{P:Program}{T:TyI}(j:TyOK P T){N:Nat}{l:List Oper}{a:List Nat}{xs:List A}{env0:Env}{hB hE i:Nat}{H:Qc}{x:A}(g:xs[i]?=some x)(h:Qko T N l a xs env0 H i=some x):Jz P N l a xs env0 hB hE i H H:=by
 unfold Qko at h;split at h
 .cases h
 .rename_i o b;split at h
  .rename_i d f e;cases q:(Nat.blt d N&&Nat.beq a.length xs.length)with
   |false=>rw[q]at h;cases h
   |true=>
    rw[q]at h;simp only[XX]at q;exact .val o _ d x b e f g q.1 (Qov (XR q.2)) (Qmf j h)
  .cases h
abbrev I(n:Int):A:=.int .i64 n
theorem zc{a:A}{v:Value}{al:List A}{vl:List Value}(h:ZR a v)(k:ZL al vl):ZL (a::al) (v::vl):=ZL.cons h k
def zr1:A->Value->Bool
 |.int k n,.int k' n'=>decide (k=k')&&decide (n=n')
 |.bool b,.bool b'=>b==b'
 |.str s,.string s'=>s.isEmpty&&s'.data.toList.isEmpty
 |.rsl _ es,.slice none 0 0=>es.isEmpty
 |.nils,.slice none 0 0=>true
 |.nilp,.pointer none=>true
 |.nilf,.nilFunc=>true
 |.nilm,.map none=>true
 |.nilif,.nilIface=>true
 |_,_=>false
def zrL:List A->List Value->Bool
 |[],[]=>true
 |a::r,v::s=>zr1 a v&&zrL r s
 |_,_=>false
def zrB:A->Value->Bool
 |.agg r,.agg s=>zrL r s.toList
 |a,v=>zr1 a v
theorem Ql5{a:A}{v:Value}(h:zr1 a v=true):ZR a v:=by
 unfold zr1 at h;split at h
 .simp only[XX,Vs]at h;obtain⟨rfl,rfl⟩:=h;exact ZR.int
 .simp only[Vz]at h;subst h;exact ZR.bool
 .rename_i s g;simp only[XX,List.isEmpty_iff]at h;obtain⟨rfl,b⟩:=h;obtain⟨d⟩:=g;obtain⟨d⟩:=d;have b:d=[]:=b;subst b;exact ZR.str
 .rename_i k f;have h:f=[]:=List.isEmpty_iff.1 h;subst h;exact ZR.rsl (α:=A) (e:=λx=>[x])
 .exact ZR.nils
 .exact ZR.nilp
 .exact ZR.nilf
 .exact ZR.nilm
 .exact QoC
 .cases h
theorem Ql4:∀{r:List A} {s:List Value},zrL r s=true->ZL r s
 |[],[],_=>ZL.nil
 |a::r,v::s,h=>by
  simp only[zrL,XX]at h;exact ZL.cons (Ql5 h.1) (Ql4 h.2)
 |[],_::_,h=>by cases h
 |_::_,[],h=>by cases h
theorem zrC{a:A}{v:Value}(h:zrB a v=true):ZR a v:=by
 unfold zrB at h;split at h
 .rename_i r s;have:=ZR.agg (Ql4 h);simpa using this
 .exact Ql5 h
end Go.Sw
namespace Go.Sw
section
variable {P:Program} {o:Oper} {env:Env} {H:Qc}
end
end Go.Sw
namespace Go.Sw
structure TyX where
 ty:TyI
 al:List (Nat×A)
 sl:List Nat
structure Qbr (P:Program) (T:TyX):Prop where
 ty:TyOK P T.ty
 al:∀e∈T.al,(∃z,(∀w,(zeroValue e.1).run P w=.ok z w)/\ZR e.2 z)/\Q6 e.2=true/\(Yh e.2).all Ym=true
 sl:∀t∈T.sl,∃et,∀w,(underlying t).run P w=.ok (.slice et) w
def YQ(all:Array Oper)(o:Oper)(env:Env):Option Bool:=
 match o.guard with
 |none=>some true
 |some (j,c)=>match(all[j]?).bind (·.dst)with
  |none=>none
  |some d=>match lk env d with
   |.bool true=>some c
   |.bool false=>some (!c)
   |.tup []=>some false
   |_=>none
theorem QJ{all:Array Oper}{o:Oper}{env:Env}{b:Bool}(h:YQ all o env=some b):Qo all o env b:=by
 unfold YQ at h;unfold Qo;split at h
 .rename_i q;rw[q];cases h;rfl
 .rename_i j c q;rw[q];split at h
  .cases h
  .rename_i d e;refine⟨d,e,?_⟩;split at h
   .rename_i a;cases h;exact .inl ⟨true,a,by simp⟩
   .rename_i a;cases h;exact .inl ⟨false,a,by cases c<;>rfl⟩
   .rename_i a;cases h;exact .inr ⟨a,rfl⟩
   .cases h
def QdF:List Nat->Nat->Bool
 |[],_=>false
 |a::r,t=>bif Nat.beq a t then true else QdF r t
theorem Qhd{l:List Nat}{t:Nat}(h:QdF l t=true):t∈l:=by
 induction l with
 |nil=>cases h
 |cons a r b=>
  unfold QdF at h;cases q:Nat.beq a t with
  |true=>have:=XR q;subst this;exact .head _
  |false=>rw[q]at h;exact .tail _ (b h)
inductive FL where
 |mk (l:List A)
def fl:List A->FL
 |[]=>.mk []
 |a::r=>match fl r with
  |.mk r'=>.mk (a::r')
theorem Qcs:∀l:List A,fl l=.mk l
 |[]=>rfl
 |a::r=>by unfold fl;rw[Qcs r]
inductive FB where
 |mk (l:List Blk)
def fb:List Blk->FB
 |[]=>.mk []
 |a::r=>match fb r with
  |.mk r'=>.mk (a::r')
theorem QkL:∀l:List Blk,fb l=.mk l
 |[]=>rfl
 |a::r=>by unfold fb;rw[QkL r]
inductive FN where
 |mk (n:Nat)
def fn:List Blk->Nat->FN
 |[],n=>.mk n
 |_::r,n=>fn r (n+1)
theorem QmX:∀(l:List Blk) (n:Nat),fn l n=.mk (l.length+n)
 |[],n=>by simp[fn]
 |a::r,n=>by unfold fn;rw[QmX r];simp;omega
def QkJ(env:Env)(pl:List (Nat×Nat)):List A->List (Nat×Operand)->Option (List A)
 |cs,[]=>some cs
 |cs,(i,x)::r=>match YL pl i with
  |none=>none
  |some (off,size)=>match opB env x with
   |.mk a=>match fl (Yh a)with
    |.mk vs=>bif Q6 a&&Nat.beq vs.length size&&Nat.ble (off+size) cs.length then(match fl (splice cs off vs)with
     |.mk cs'=>QkJ env pl cs' r)else none
theorem Qiv{env:Env}{pl:List (Nat×Nat)}:∀(parts:List (Nat×Operand)) (cs:List A),QkJ env pl cs parts=Qee env pl cs parts
 |[],cs=>rfl
 |(i,x)::r,cs=>by
  unfold QkJ Qee;rw[QaF];cases pl[i]? with
  |none=>rfl
  |some q=>
   obtain⟨off,size⟩:=q;cases h:opB env x with
   |mk a=>
    rw[Qw h];simp only[Qcs];cases(Q6 a&&Nat.beq (Yh a).length size&&Nat.ble (off+size) cs.length)with
    |false=>rfl
    |true=>exact Qiv r _
def Qih(env:Env):List Operand->List A
 |[]=>[]
 |x::r=>match opB env x with
  |.mk a=>a::Qih env r
theorem QcZ{env:Env}:∀l:List Operand,Qih env l=l.map (opA env)
 |[]=>rfl
 |x::r=>by
  unfold Qih;cases h:opB env x with
  |mk a=>rw[Vk,Qw h];show a::Qih env r=_;rw[QcZ r]
def ptX(H:Qc):Bx->Option Lx
 |.mk (.rp cs)=>some (.mk cs)
 |.mk (.ptr i off)=>match YL H i with
  |some (.cells _ cs)=>some (QfD off cs)
  |_=>none
 |_=>none
theorem Qpq{H:Qc}{p:A}{cs:List A}(h:ptX H (.mk p)=some (.mk cs)):Pts H p cs:=by
 unfold ptX at h;split at h
 .rename_i q;cases q;cases h;exact Pts.rp
 .rename_i i b q;cases q;split at h
  .rename_i a;rw[QaF]at a;simp only[Option.some.injEq]at h;exact Pts.cells a (Qdb h)
  .cases h
 .cases h
def Qdt(T:TyX)(o:Oper)(env:Env)(H:Qc):Option A:=
 match o.op with
 |.move x=>match opB env x with|.mk a=>some a
 |.assign x=>match opB env x with|.mk a=>some a
 |.nilCheck x=>nlB (opB env x)
 |.extract x i=>exB (opB env x) i
 |.unOp u _ x=>unB u (opB env x)
 |.pick c x y=>piB (opB env c) (opB env x) (opB env y)
 |.binOp b _ x y _=>biB b (opB env x) (opB env y)
 |.fieldAddr t x f=>match Qir T.ty.fld t f with
  |none=>none
  |some off=>match opB env x with
   |.mk (.ptr i p)=>some (.ptr i (p+off))
   |.mk (.rp cs)=>match QfD off cs with
    |.mk r=>some (.rp r)
   |_=>none
 |.load t x=>match Qcl T.ty.agg t with
  |none=>none
  |some (b,n)=>match x with
   |.global g=>match YL QjI g with
    |some zs=>bif b&&Nat.beq zs.length n then(match fl (zs.map (A.int .i64))with|.mk l=>some (.agg l))else none
    |none=>none
   |x=>match ptX H (opB env x)with
    |none=>none
    |some (.mk cs)=>match b with
     |true=>(match fl (cs.take n)with|.mk l=>bif Nat.beq l.length n then some (.agg l)else none)
     |false=>(match cs with|[]=>none|a::_=>some a)
 |.build t parts=>match Qcl T.ty.zer t with
  |none=>none
  |some (zs,pl)=>match QkJ env pl zs parts.toList with
   |some cs=>some (.agg cs)
   |none=>none
 |.makeFunc f first cap=>match fl (Qih env first.toList),fl (Qih env cap.toList)with
  |.mk l,.mk l'=>some (.fn f l l')
 |.call c=>match c with
  |{callee:=.builtin .len,args:=⟨[x]⟩,argTypes:=⟨[t]⟩}=>bif QdF T.sl t then(match opB env x with
   |.mk (.osl _ 0 n _)=>some (.int .i64 n)
   |_=>none)else none
  |_=>none
 |_=>none
theorem QaA{P:Program}{T:TyX}(s:Qbr P T){o:Oper}{env:Env}{H:Qc}{x:A}(h:Qdt T o env H=some x):OpV P o env H x:=by
 unfold Qdt at h;split at h
 .rename_i y a;exact QbL a (by unfold svB;exact h)
 .rename_i y a;exact QbL a (by unfold svB;exact h)
 .rename_i y a;exact QbL a (by unfold svB;exact h)
 .rename_i y i a;exact QbL a (by unfold svB;exact h)
 .rename_i u t y a;exact QbL a (by unfold svB;exact h)
 .rename_i c y z a;exact QbL a (by unfold svB;exact h)
 .rename_i b t y z u a;exact QbL a (by unfold svB;exact h)
 .rename_i t y f a;split at h
  .cases h
  .rename_i B m;obtain⟨n,L⟩:=s.ty.fld _ (Qiq m);split at h
   .rename_i i p w;cases h;exact Yo L a (Qw w)
   .rename_i d w;cases q:QfD B d with
    |mk r=>rw[q]at h;cases h;exact Qp L a (Qw w) (Qdb q)
   .cases h
 .rename_i t y a;split at h
  .cases h
  .rename_i b n N;obtain⟨j,l⟩:=s.ty.agg _ (QaB N);split at h
   .rename_i g;split at h
    .rename_i J F;rw[QaF]at F;cases q:(b&&Nat.beq J.length n)with
     |false=>rw[q]at h;cases h
     |true=>
      rw[q,Qcs]at h;cases h;simp only[XX]at q;obtain⟨rfl,E⟩:=q;exact QgP j l F (XR E) a
    .cases h
   .cases e:opB env y with
    |mk p=>
     rw[e]at h;split at h
     .cases h
     .rename_i d Q;have G:=Qpq Q;cases b with
      |true=>
       simp only[Qcs]at h;cases q:Nat.beq (d.take n).length n with
       |false=>rw[q]at h;cases h
       |true=>
        rw[q]at h;cases h;exact Qh a j l (Qw e) G rfl (XR q)
      |false=>
       cases d with
       |nil=>cases h
       |cons v d=>cases h;exact OpV.load a j (Qw e) G
 .rename_i t parts a;split at h
  .cases h
  .rename_i J V M;obtain⟨⟨z,j,l⟩,O⟩:=s.ty.zer _ (QaB M);split at h
   .rename_i d m;cases h;rw[Qiv]at m;exact OpV.build j l O (by rw[a]) m
   .cases h
 .rename_i f first cap a
  simp only[Qcs]at h;cases h;rw[QcZ,QcZ];exact OpV.makeFunc (first:=first.toList) (cap:=cap.toList) (by rw[a]) rfl rfl
 .rename_i c a;split at h
  .rename_i y t;cases q:QdF T.sl t with
   |false=>rw[q]at h;cases h
   |true=>
    rw[q]at h;simp only[Vq]at h;obtain⟨W,R⟩:=s.sl t (Qhd q);split at h
    .rename_i i n k E;cases h;exact QlS R a rfl (Qw E)
    .cases h
  .cases h
 .cases h
def stX(T:TyX)(h0 N:Nat)(all:Array Oper)(o:Oper)(env:Env)(H:Qc):Option (Env×Qc):=
 match YQ all o env with
 |none=>none
 |some false=>match o.dst with
  |none=>none
  |some d=>bif Nat.blt d N then some (up env d (.tup []),H)else none
 |some true=>match o.dst with
  |none=>match o.op with
   |.store t x y=>match opB env x,Qcl T.ty.agg t with
    |.mk (.ptr i off),some (_,n)=>match YL H i with
     |some (.cells S cs)=>match opB env y with
      |.mk a=>match fl (Yh a)with
       |.mk vs=>bif Nat.ble h0 H.length&&(Q6 a&&(Nat.beq vs.length n&&(vs.all Ym&&Nat.ble (off+n) cs.length)))then(match fl (splice cs off vs)with
        |.mk cs'=>match fb (H.set i (.cells S cs'))with
         |.mk H'=>some (env,H'))else none
     |_=>none
    |_,_=>none
   |_=>none
  |some d=>bif Nat.blt d N then(match o.op with
   |.alloc t=>match Qcl T.al t with
    |some v=>bif Nat.ble h0 H.length then(match fn H 0,fl (Yh v)with
     |.mk n,.mk cs=>match fb (H++[.cells t cs])with
      |.mk H'=>some (up env d (.ptr n 0),H'))else none
    |none=>none
   |.box t x=>match opB env x with
    |.mk a=>bif Nat.ble h0 H.length&&(Q6 a&&(Yh a).all Ym)then(match fn H 0,fl (Yh a)with
     |.mk n,.mk cs=>match fb (H++[.cells t cs])with
      |.mk H'=>some (up env d (.ptr n 0),H'))else none
   |_=>match Qdt T o env H with
    |some a=>some (up env d a,H)
    |none=>none)else none
def runX(T:TyX)(h0 N:Nat)(all:Array Oper):Nat->List Oper->Env->Qc->Option (List Oper×Env×Qc)
 |0,l,env,H=>some (l,env,H)
 |_+1,[],_,_=>none
 |n+1,o::l,env,H=>match stX T h0 N all o env H with
  |some (env',H')=>runX T h0 N all n l env' H'
  |none=>none
section
variable {P:Program} {T:TyX} {h0 N:Nat} {all:Array Oper} {l l':List Oper} {env env':Env} {H H':Qc} {Q:Qu}
theorem Qjk(p:Qbr P T){o:Oper}(h:stX T h0 N all o env H=some (env',H'))(k:WO P h0 N all l env' H' Q):WO P h0 N all (o::l) env H Q:=by
 unfold stX at h;split at h
 .cases h
 .rename_i r;have g:=QJ r;split at h
  .cases h
  .rename_i d f;cases q:Nat.blt d N with
   |false=>rw[q]at h;cases h
   |true=>rw[q]at h;cases h;exact WO.skip g f q k
 .rename_i r;have g:=QJ r;split at h
  .rename_i f;split at h
   .rename_i t x y j;split at h
    .rename_i i s b n L R;split at h
     .rename_i S cs hH;rw[QaF]at hH;cases e:opB env y with
      |mk a=>
       rw[e]at h;simp only[Qcs,QkL]at h;generalize hc:(Nat.ble h0 H.length&&(Q6 a&&(Nat.beq (Yh a).length n&&((Yh a).all Ym&&Nat.ble (s+n) cs.length))))=c at h;cases c with
       |false=>cases h
       |true=>
        cases h;simp only[XX]at hc;obtain⟨u,w,m,E,O⟩:=hc;obtain⟨_,J⟩:=p.ty.agg _ (QaB R);exact QbF (XS u) g f (OpU.store j (Qw L) hH J (Qw e) w rfl (XR m) E O rfl) k
     .cases h
    .cases h
   .cases h
  .rename_i d f;cases q:Nat.blt d N with
   |false=>rw[q]at h;cases h
   |true=>
    rw[q]at h;simp only[Vq]at h;split at h
    .rename_i t j;split at h
     .rename_i v V;cases c:Nat.ble h0 H.length with
      |false=>rw[c]at h;cases h
      |true=>
       rw[c]at h;simp only[Qcs,QkL,QmX,Vq,Xx]at h;cases h;obtain⟨⟨z,B,G⟩,W,F⟩:=p.al _ (QaB V);exact YW (XS c) g f q (QfT B G j W rfl F) k
     .cases h
    .rename_i t x j;cases e:opB env x with
     |mk a=>
      rw[e]at h;simp only[Qcs,QkL,QmX,Xx]at h;generalize hc:(Nat.ble h0 H.length&&(Q6 a&&(Yh a).all Ym))=c at h;cases c with
      |false=>cases h
      |true=>
       cases h;simp only[XX]at hc;obtain⟨u,w,m⟩:=hc;exact YW (XS u) g f q (OpH.box j (Qw e) w rfl m) k
    .split at h
     .rename_i a M;cases h;exact Qx g f q (QaA p M) k
     .cases h
theorem AU(hT:Qbr P T):∀(n:Nat) {l l':List Oper} {env env':Env} {H H':Qc},runX T h0 N all n l env H=some (l',env',H')->WO P h0 N all l' env' H' Q->WO P h0 N all l env H Q
 |0,l,l',env,env',H,H',h,k=>by cases h;exact k
 |n+1,[],l',env,env',H,H',h,k=>by cases h
 |n+1,o::l,l',env,env',H,H',h,k=>by
  unfold runX at h;split at h
  .rename_i e1 H1 hs;exact Qjk hT hs (AU hT n h k)
  .cases h
end
theorem yc{α:Type}{p:α->Prop}{a:α}{l:List α}(h:p a)(k:∀x∈l,p x):∀x∈a::l,p x:=List.forall_mem_cons.2 ⟨h,k⟩
theorem FA{P:Program}{T f off n:Nat}{fs:Array Field}{a:Field}(d:∀w,(underlying T).run P w=.ok (.struct fs) w)(e:fs[f]?=some a)(b:∀w,(sizeOf a.type).run P w=.ok n w)(g:a.offset=off:=by exact rfl)(h5:n≠0:=by decide):QW P T f off n:=⟨_,_,d,e,g,b,h5⟩
theorem QbO:∀(π:List Nat) (H:Qc) (xs:List Blk),π.map (λp=>H[p]?)=xs.map some->Yl H π xs=H
 |[],H,xs,h=>by
  have:xs=[]:=by cases xs with
   |nil=>rfl
   |cons x xs=>simp at h
  subst this;simp[Yl]
 |p::π,H,[],h=>by simp at h
 |p::π,H,x::xs,h=>by
  simp only[Vk,List.cons.injEq]at h;have e:H.set p x=H:=by
   apply List.ext_getElem?;intro i;rw[Xb];by_cases q:p=i
   .subst q;rw[Vu rfl,h.1];have:=(XM.1 h.1).1;rw[Vu this]
   .rw[Vt q]
  unfold Yl;rw[e];exact QbO π H xs h.2
def Qjs:A->Option Bx
 |.bool b=>some (.mk (.bool b))
 |.int k n=>some (.mk (.int k n))
 |.str s=>some (.mk (.str s))
 |.rsl k es=>some (.mk (.rsl k es))
 |_=>none
theorem Qkq{v a:A}(h:Qjs v=some (.mk a))(ρ:Nat->Nat):Yz ρ v=a:=by
 cases v<;>first|(cases h;rfl)|cases h
theorem Pc{P:Program}{h0 N:Nat}{all:Array Oper}{o:Oper}{l:List Oper}{env:Env}{H:Qc}{Q:Qu}{d:Nat}{f:FuncId}{args b:List A}{Hc:Qc}{v g:A}(π:List Nat)(i:o.dst=some d)(e:OpC P o env H f args)(j:C P f b Hc (λa H1=>a=v/\H1=Hc))(h:Qjs v=some (.mk g))
  (k:WO P h0 N all l (up env d g) H Q)
  (hargs:args=Qaa (rho π H.length) b:=by exact rfl)(hH:π.map (λp=>H[p]?)=(Hc.map (QT (rho π H.length))).map some:=by exact rfl)(hπ:π.Nodup:=by decide)
  (hg:Qo all o env true:=by exact rfl)(hN:Nat.blt d N=true:=by exact rfl)(hh:Nat.ble h0 H.length=true:=by exact rfl):WO P h0 N all (o::l) env H Q:=by
 refine QM π e j ?_ hargs hH hπ hg i hN hh;rintro r H1 ⟨rfl,rfl⟩;rw[Qkq h,QbO π H _ hH];exact k
theorem Y0{i k:Nat}{es:List (List A)}:∀H:Qc,FzH i k es H H
 |[]=>.nil
 |_::r=>.keep (Y0 r)
def foN:Nat->FN
 |0=>.mk 0
 |n+1=>match foN n with
  |.mk m=>.mk (m+1)
theorem Qfh:∀n,foN n=.mk n
 |0=>rfl
 |n+1=>by unfold foN;rw[Qfh n]
mutual
def foA:A->Bx
 |.agg cs=>match foL cs with
  |.mk l=>.mk (.agg l)
 |.tup cs=>match foL cs with
  |.mk l=>.mk (.tup l)
 |.fn f a c=>match foL a,foL c with
  |.mk l,.mk l'=>.mk (.fn f l l')
 |.iface t v=>match foA v with
  |.mk v'=>.mk (.iface t v')
 |.ptr i off=>match foN i with
  |.mk i'=>.mk (.ptr i' off)
 |.osl i o n k=>match foN i with
  |.mk i'=>.mk (.osl i' o n k)
 |.map i=>match foN i with
  |.mk i'=>.mk (.map i')
 |a=>.mk a
def foL:List A->FL
 |[]=>.mk []
 |a::r=>match foA a,foL r with
  |.mk a',.mk r'=>.mk (a'::r')
end
mutual
theorem Qhm:∀a:A,foA a=.mk a
 |.agg cs=>by unfold foA;rw[QcF cs]
 |.tup cs=>by unfold foA;rw[QcF cs]
 |.fn f a c=>by unfold foA;rw[QcF a,QcF c]
 |.iface t v=>by unfold foA;rw[Qhm v]
 |.ptr i off=>by unfold foA;rw[Qfh]
 |.osl i o n k=>by unfold foA;rw[Qfh]
 |.map i=>by unfold foA;rw[Qfh]
 |.any|.bool _|.int _ _|.str _|.nilp|.rp _|.nils|.rsl _ _|.nilf|.nilif|.nilm=>by rfl
theorem QcF:∀l:List A,foL l=.mk l
 |[]=>by rfl
 |a::r=>by unfold foL;rw[Qhm a,QcF r]
end
inductive FE2 where
 |mk (l:List (List A))
def foE:List (List A)->FE2
 |[]=>.mk []
 |a::r=>match foL a,foE r with
  |.mk a',.mk r'=>.mk (a'::r')
theorem QmW:∀l,foE l=.mk l
 |[]=>rfl
 |a::r=>by unfold foE;rw[QcF,QmW r]
def foH:List Blk->FB
 |[]=>.mk []
 |b::r=>match foH r with
  |.mk r'=>match b with
   |.cells t cs=>match foL cs with
    |.mk l=>.mk (.cells t l::r')
   |.rowr t k es=>match foE es with
    |.mk l=>.mk (.rowr t k l::r')
   |.dead=>.mk (.dead::r')
   |.row t k es=>.mk (.row t k es::r')
   |.map es=>.mk (.map es::r')
   |.iter c es=>.mk (.iter c es::r')
   |.fmap es=>.mk (.fmap es::r')
   |.mapO fz t k es=>.mk (.mapO fz t k es::r')
   |.mapP es=>.mk (.mapP es::r')
   |.frow t k es=>.mk (.frow t k es::r')
   |.ents t a b es=>match foN a,foN b with
    |.mk a',.mk b'=>.mk (.ents t a' b' es::r')
theorem QjK:∀l,foH l=.mk l
 |[]=>rfl
 |b::r=>by
  unfold foH;rw[QjK r];cases b<;>simp only[QcF,QmW,Qfh]
def foS(env:Env)(H:Qc):Option (Env×Qc):=
 match foH H with
 |.mk H'=>match env with
  |[]=>some ([],H')
  |(d,a)::e=>match foA a with
   |.mk a'=>some ((d,a')::e,H')
theorem QpO(env:Env)(H:Qc):foS env H=some (env,H):=by
 unfold foS;rw[QjK];cases env with
 |nil=>rfl
 |cons p e=>obtain⟨d,a⟩:=p;simp only[Qhm]
theorem FE{P:Program}{h0 N:Nat}{all:Array Oper}{l:List Oper}{env env':Env}{H H':Qc}{Q:Qu}(h:foS env H=some (env',H'))(k:WO P h0 N all l env' H' Q):WO P h0 N all l env H Q:=by
 rw[QpO]at h;cases h;exact k
def entB(b1 b2:Nat):List (List A)->Option (List Ent)
 |[]=>some []
 |[.ptr b off,.int .i64 lo,.int .i64 hi]::r=>match entB b1 b2 r with
  |none=>none
  |some l=>match Nat.beq b b2 with
   |true=>some (⟨true,off,lo,hi⟩::l)
   |false=>match Nat.beq b b1 with
    |true=>some (⟨false,off,lo,hi⟩::l)
    |false=>none
 |_=>none
theorem Qox{b1 b2:Nat}:∀{es:List (List A)} {l:List Ent},entB b1 b2 es=some l->l.map (eC b1 b2)=es:=by
 intro es
 induction es with
 |nil=>intro l h;cases h;rfl
 |cons e r a=>
  intro l h;unfold entB at h;split at h
  .cases ‹_=[]›
  .rename_i b f lo j i q;cases q;split at h
   .cases h
   .rename_i g d;have e:=a d;split at h
    .rename_i q;cases h;have:=XR q;subst this;rw[Vk,e];rfl
    .split at h
     .rename_i q;cases h;have:=XR q;subst this;rw[Vk,e];rfl
     .cases h
  .cases h
theorem TE{P:Program}{h0 N:Nat}{all:Array Oper}{l:List Oper}{env:Env}{H:Qc}{Q:Qu}{t:Nat}{es:List (List A)}{L:List Ent}(i b1 b2:Nat)(hH:H[i]?=some (.rowr t 3 es))(h:entB b1 b2 es=some L)
  (k:WO P h0 N all l env (H.set i (.ents t b1 b2 L)) Q):WO P h0 N all l env H Q:=WO.le (Ql0 hH (Qox h)) k
theorem R1{P:Program}{h0:Nat}{fn:Func}{env:Env}{H Hc:Qc}{v:A}(s:Nat)(hr:fn.results= #[.tmp s])(hle:Le h0 env H [(s,v)] Hc):Qdh P h0 fn (λa H=>a=v/\H=Hc) .ret env H:=
 ⟨[(s,v)],Hc,v,hle,Qdi.one hr (by show lk [(s,v)] s=v;unfold lk;rw[VG];rfl),rfl,rfl⟩
theorem R2{P:Program}{h0:Nat}{fn:Func}{env:Env}{H Hc:Qc}{v v':A}(s t:Nat)(hr:fn.results= #[.tmp s,.tmp t])(hn:Nat.beq t s=false)(hle:Le h0 env H [(s,v),(t,v')] Hc):Qdh P h0 fn (λa H=>a=.tup [v,v']/\H=Hc) .ret env H:=
 ⟨[(s,v),(t,v')],Hc,_,hle,QlL hr (by show lk [(s,v),(t,v')] s=v;unfold lk;rw[VG];rfl) (by show lk [(s,v),(t,v')] t=v';unfold lk lk;rw[hn,VG];rfl),rfl,rfl⟩
theorem FzA.o{i k n:Nat}{es:List (List A)}(a:n=es.length:=by first|exact(X3 ..).symm|exact rfl):FzA i k es (.osl i 0 n k) (.rsl k es):=FzA.own a
end Go.Sw
namespace Go.Sw
theorem Le.env{h0:Nat}{env env':Env}{H:Qc}(h:∀s,lk env' s=.any\/lk env' s=lk env s):Le h0 env H env' H:=by
 intro d b σ N a w r;refine⟨b,σ,⟨r.sim,λs=>?_,r.size,r.defers⟩,λ_ q=>q,rfl⟩;rcases h s with h|h
 .rw[h];trivial
 .rw[h];exact r.env s
def QnR(env:Env):Env->Prop
 |[]=>True
 |(s,a)::r=>lk env s=a/\QnR env r
theorem QnR.ok{env:Env}:∀{env':Env},QnR env env'->∀s,lk env' s=.any\/lk env' s=lk env s
 |[],_,s=>.inl rfl
 |(d,a)::e,⟨h1,h2⟩,s=>by
  by_cases q:s=d
  .subst q;right;simp only[lk,VG,Vq];exact h1.symm
  .have:Nat.beq s d=false:=by
    rw[VN];intro b;exact q (XR b)
   simp only[lk,this,Vr];exact QnR.ok h2 s
theorem Lw{h0:Nat}{env env':Env}{H:Qc}(h:QnR env env'):Le h0 env H env' H:=Le.env h.ok
theorem Qpe(n i:Nat):rho (List.range n) n i=i:=by
 unfold rho;by_cases h:i<n
 .rw[List.getElem?_range h]
 .rw[XP (by rw[List.length_range];omega)];simp only[List.length_range];omega
mutual
theorem Qg7{ρ:Nat->Nat}(h:∀i,ρ i=i):∀a:A,Yz ρ a=a
 |.ptr i off=>by simp[Yz,h]
 |.osl i o n k=>by simp[Yz,h]
 |.agg cs=>by simp[Yz,Qa4 h cs]
 |.fn f a c=>by simp[Yz,Qa4 h a,Qa4 h c]
 |.iface t v=>by simp[Yz,Qg7 h v]
 |.map i=>by simp[Yz,h]
 |.tup vs=>by simp[Yz,Qa4 h vs]
 |.any|.bool _|.int _ _|.str _|.nilp|.rp _|.nils|.rsl _ _|.nilf|.nilif|.nilm=>by rfl
theorem Qa4{ρ:Nat->Nat}(h:∀i,ρ i=i):∀l:List A,Qaa ρ l=l
 |[]=>rfl
 |a::r=>by simp[Qaa,Qg7 h a,Qa4 h r]
end
theorem Qkv{ρ:Nat->Nat}(h:∀i,ρ i=i):∀l:List (List A),Qg6 ρ l=l
 |[]=>rfl
 |a::r=>by simp[Qg6,Qa4 h a,Qkv h r]
theorem Qku{ρ:Nat->Nat}(h:∀i,ρ i=i):∀l:List (A×A),Qjw ρ l=l
 |[]=>rfl
 |a::r=>by simp[Qjw,Qg7 h,Qku h r]
theorem Qn8{ρ:Nat->Nat}(h:∀i,ρ i=i):∀b:Blk,QT ρ b=b
 |.cells t cs=>by simp[QT,Qa4 h cs]
 |.rowr t k es=>by simp[QT,Qkv h es]
 |.ents t a b es=>by simp[QT,h]
 |.mapP es=>by simp[QT,Qku h es]
 |.dead|.row _ _ _|.map _|.iter _ _|.fmap _|.mapO _ _ _ _|.frow _ _ _=>by rfl
theorem Pw{P:Program}{h0 N:Nat}{all:Array Oper}{o:Oper}{l:List Oper}{env:Env}{H:Qc}{Q:Qu}{d:Nat}{f:FuncId}{args:List A}{v h:A}(m:o.dst=some d)(g:OpC P o env H f args)(t:C P f args H (λa H1=>a=v/\H1=H))(u:Qjs v=some (.mk h))
  (hg:Qo all o env true)(n:Nat.blt d N=true)(s:h0<=H.length)(k:WO P h0 N all l (up env d h) H Q):WO P h0 N all (o::l) env H Q:=by
 have e:=Qpe H.length;have w:H.map (QT (rho (List.range H.length) H.length))=H:=by
  conv=>rhs;rw[<- List.map_id H]
  exact List.map_congr_left λb _=>Qn8 e b
 have j:(List.range H.length).map (λp=>H[p]?)=(H.map (QT (rho (List.range H.length) H.length))).map some:=by
  rw[w];apply List.ext_getElem?;intro i;by_cases q:i<H.length
  .simp[q]
  .simp[q]
 refine QM (List.range H.length) g t ?_ (by rw[Qa4 e]) j List.nodup_range hg m n (XT s);rintro r H1 ⟨rfl,rfl⟩;rw[Qkq u,QbO _ _ _ j];exact k
def ixE(d:Nat)(g:Ground):Edge:={on:=d,ground:=g}
def ixO(d:Nat)(op:Op)(t:Nat)(pos:String)(af:Array Edge):Oper:={dst:=some d,op:=op,type:=t,pos:=pos,after:=af,guard:=none}
def QpL(ts te tf tI tB:Nat):Code:=
 (Code.region 0 [ixO 4 (.assign (.const (.int .i64 0))) tI "slices.go:107" #[]].toArray false).seq
  (((Code.region 1 [ixO 6 (.move (.tmp 0)) ts "slices.go:108" #[],ixO 7 (.call {callee:=.builtin .len,args:= #[.tmp 6],argTypes:= #[ts]}) tI "slices.go:108" #[ixE 0 .data],ixO 8 (.move (.const (.int .i64 0))) tI "slices.go:108" #[]].toArray false).seq
   (.block 0 (.loop ((Code.region 2 [ixO 9 (.binOp .lss tI (.tmp 8) (.tmp 7) tI) 0 "slices.go:108" #[]].toArray false).seq
    ((Code.cond (.tmp 9) .skip (.exit 0)).seq
    ((Code.block 1 ((Code.region 3 [ixO 10 (.move (.tmp 8)) tI "slices.go:108" #[],ixO 5 (.assign (.tmp 10)) tI "slices.go:108" #[ixE 0 .data,ixE 0 .phase]].toArray false).seq
     ((Code.region 4 [ixO 11 (.move (.tmp 1)) tf "slices.go:109" #[],ixO 12 (.move (.tmp 0)) ts "slices.go:109" #[],ixO 13 (.move (.tmp 5)) tI "slices.go:109" #[],ixO 14 (.indexAddr ts (.tmp 12) (.tmp 13)) 0 "slices.go:109" #[ixE 1 .data,ixE 2 .data],
       ixO 15 (.load te (.tmp 14)) te "slices.go:109" #[ixE 3 .data],ixO 16 (.call {callee:=.value (.tmp 11),args:= #[.tmp 15],argTypes:= #[te]}) tB "slices.go:109" #[ixE 0 .data,ixE 4 .data]].toArray false).seq
      (Code.cond (.tmp 16) ((Code.region 5 [ixO 17 (.move (.tmp 5)) tI "slices.go:110" #[],ixO 4 (.assign (.tmp 17)) tI "slices.go:110" #[ixE 0 .data,ixE 0 .phase]].toArray false).seq .ret) .skip)))).seq
     (Code.region 6 [ixO 18 (.binOp .add tI (.tmp 8) (.const (.int .i64 1)) tI) tI "slices.go:108" #[],ixO 8 (.move (.tmp 18)) tI "slices.go:108" #[ixE 0 .data]].toArray false))))))).seq
  ((Code.region 7 [ixO 4 (.assign (.const (.int .i64 (-1)))) tI "slices.go:113" #[]].toArray false).seq .ret))
theorem Yi{P:Program}{T:Type}{e:T->List A}{el:T->A}{V z X tI tB k:Nat}{R m:FuncId}{fn:Func}{i:List A}{Hc:Qc}{L:List T}{g:T->Option Bool}{n:Nat}{r:Int}
  (hf:P.funcs[R]?=some fn)(Y:fn.body=some (QpL V z X tI tB))(hN:fn.ntmps=19)(O:fn.results= #[.tmp 4])(Q:∀w,(underlying V).run P w=.ok (.slice z) w)(W:∀w,(sizeOf z).run P w=.ok k w)
  (N:∀(o:Oper) (env:Env) (H:Qc) (x:T),o.op=.load z (.tmp 14)->opA env (.tmp 14)=.rp (e x)->OpV P o env H (el x))
  (G:∀(a:Array Value) (w:World),(callFunc m a).run P w=.ok (.enter m a) w)
  (M:∀x b,g x=some b->C P m (el x::i) Hc (λa H=>a=.bool b/\H=Hc))
  (h:((iter (λs:Int=>bif decide (s<(L.length:Int))then(idx L s).bind λx=>(g x).bind λb=>(bif b then some (Ctl.done (Ctl.done s))else some (Ctl.cont (IntKind.i64.wrap (s+1))))else some (Ctl.done (Ctl.cont ()))) n (0:Int):Option (Ctl Unit Int)).bind λb=>match b with|.cont _=>some (-1)|.done s=>some s)=some r):
  C P R [.rsl k (L.map e),.fn (.func m) [] i] Hc (λa H=>a=.int .i64 r/\H=Hc):=by
 refine Qb hf Y hN rfl ?_;refine Rg (S rfl (Nx (TC.seq (Rg (S rfl (LnM Q rfl (S rfl (Nx (Bd h λJ B h=>?_)))))))));refine QhE (b:=J) (λ_=>[]) (λ_=>Hc) ?_ (λsb10 env H hbe hle=>?_)
 .refine TC.block ?_;refine TC.loop (E:=λp=>[(0,.rsl k (L.map e)),(1,.fn (.func m) [] i),(7,.int .i64 (L.length:Int)),(8,.int .i64 p)]) (Hp:=λ_=>Hc) B ?_ ?_
  .exact Lw ⟨rfl,rfl,rfl,rfl,trivial⟩
  intro p aa d l;refine Rg (S rfl (Nx (TC.seq (JA rfl d (λy d=>?_) (λy d=>?_)))))
  .refine ExX (Qy d ?_);obtain rfl:=l _ (Oi d).symm;exact bloE (QL rfl (Lw trivial))
  refine SkN (TC.seq (TC.block (Rg (S rfl (S rfl (Nx (Rg (S rfl (S rfl (S rfl (Bd d λj q d=>Ix q Q W rfl ?_)))))))))));refine Qx (x:=el j) rfl rfl rfl (N _ _ _ j rfl rfl) ?_;refine Bd d λF t d=>?_;refine Pw rfl (Qci (f:=m) (x:=.tmp 11) (xs:=[.tmp 15]) (vf:=[]) (vc:=i) (args:=el j::i) G rfl rfl rfl rfl) (M j F t) rfl rfl rfl (XU _) ?_;refine Nx (Cn rfl d (λu d=>?_) (λu d=>?_))
  .refine Rg (S rfl (S rfl (Nx (TC.ret (bloR (seqR (Yv d ?_)))))));obtain rfl:=l _ (Oi d).symm;refine bloR (Q4 (seqR ?_));obtain rfl:=Oi h;exact R1 4 O (Lw ⟨rfl,trivial⟩)
  exact TC.skip (bloN (Qmi (TC.region (S rfl (S rfl (WO.nil (Qv d (Lw ⟨rfl,rfl,rfl,rfl,trivial⟩))))))))
 subst hbe;refine Qmi (TC.le hle (Rg (S rfl (Nx (TC.ret ?_)))));obtain rfl:=Oi h;exact R1 4 O (Lw ⟨rfl,trivial⟩)
end Go.Sw
namespace Go.Sw
inductive Kf where
 |seq (c:Code)
 |blo (id:Nat)
 |unr (c:Code)
inductive Cf where
 |code (c:Code)
 |ops (all:Array Oper) (l:List Oper)
 |out (x:AEx)
def kq(P:Program)(h0 N:Nat):List Kf->Qu->Qu
 |[],Q=>Q
 |.seq c::k,Q=>Seq P h0 N c (kq P h0 N k Q)
 |.blo id::k,Q=>Blo id (kq P h0 N k Q)
 |.unr c::k,Q=>Qj3 P h0 N c (kq P h0 N k Q)
@[reducible] def Hd(P:Program)(h0 N:Nat):Cf->List Kf->Env->Qc->Qu->Prop
 |.code c,k,env,H,Q=>TC P h0 N c env H (kq P h0 N k Q)
 |.ops all l,k,env,H,Q=>WO P h0 N all l env H (kq P h0 N k Q)
 |.out x,k,env,H,Q=>kq P h0 N k Q x env H
def Qf6(T:TyX)(h0 N:Nat):Cf->List Kf->Env->Qc->Option (Cf×List Kf×Env×Qc)
 |.code (.seq a b),k,env,H=>some (.code a,.seq b::k,env,H)
 |.code (.block id c),k,env,H=>some (.code c,.blo id::k,env,H)
 |.code (.loop c),k,env,H=>some (.code c,.unr c::k,env,H)
 |.code .skip,k,env,H=>some (.out .normal,k,env,H)
 |.code .ret,k,env,H=>some (.out .ret,k,env,H)
 |.code (.exit id),k,env,H=>some (.out (.exit id),k,env,H)
 |.code (.region id ⟨l⟩ false),k,env,H=>some (.ops ⟨l⟩ l,k,env,H)
 |.code (.cond x a b),k,env,H=>match opB env x with
  |.mk (.bool true)=>some (.code a,k,env,H)
  |.mk (.bool false)=>some (.code b,k,env,H)
  |_=>none
 |.ops all [],k,env,H=>some (.out .normal,k,env,H)
 |.ops all (o::l),k,env,H=>match stX T h0 N all o env H with
  |some (env',H')=>some (.ops all l,k,env',H')
  |none=>none
 |.out .normal,.seq c::k,env,H=>some (.code c,k,env,H)
 |.out (.exit i),.seq _::k,env,H=>some (.out (.exit i),k,env,H)
 |.out .ret,.seq _::k,env,H=>some (.out .ret,k,env,H)
 |.out .normal,.blo _::k,env,H=>some (.out .normal,k,env,H)
 |.out (.exit i),.blo id::k,env,H=>match Nat.beq i id with
  |true=>some (.out .normal,k,env,H)
  |false=>some (.out (.exit i),k,env,H)
 |.out .ret,.blo _::k,env,H=>some (.out .ret,k,env,H)
 |.out .normal,.unr c::k,env,H=>some (.code c,.unr c::k,env,H)
 |.out (.exit i),.unr _::k,env,H=>some (.out (.exit i),k,env,H)
 |.out .ret,.unr _::k,env,H=>some (.out .ret,k,env,H)
 |_,_,_,_=>none
def Qjv(T:TyX)(h0 N:Nat):Nat->Cf->List Kf->Env->Qc->Option (Cf×List Kf×Env×Qc)
 |0,c,k,env,H=>some (c,k,env,H)
 |n+1,c,k,env,H=>match Qf6 T h0 N c k env H with
  |some (c',k',env',H')=>Qjv T h0 N n c' k' env' H'
  |none=>none
section
variable {P:Program} {T:TyX} {h0 N:Nat} {Q:Qu}
theorem Qme(d:Qbr P T){c a:Cf}{k b:List Kf}{env env':Env}{H H':Qc}(h:Qf6 T h0 N c k env H=some (a,b,env',H'))(g:Hd P h0 N a b env' H' Q):Hd P h0 N c k env H Q:=by
 unfold Qf6 at h;split at h
 .cases h;exact TC.seq g
 .cases h;exact TC.block g
 .cases h;exact QlJ g
 .cases h;exact TC.skip g
 .cases h;exact TC.ret g
 .cases h;exact TC.exit g
 .cases h;exact TC.region g
 .split at h
  .rename_i q;cases h;exact QiX (Qw q) rfl g
  .rename_i q;cases h;exact QiY (Qw q) rfl g
  .cases h
 .cases h;exact WO.nil g
 .split at h
  .rename_i q;cases h;exact Qjk d q g
  .cases h
 .cases h;exact Qmi g
 .cases h;exact seqX g
 .cases h;exact seqR g
 .cases h;exact bloN g
 .split at h
  .rename_i q;cases h;have:=XR q;subst this;exact bloE g
  .rename_i q;cases h;exact bloX q g
 .cases h;exact bloR g
 .cases h;exact unrN g
 .cases h;exact unrX g
 .cases h;exact unrR g
 .cases h
theorem QcU(hT:Qbr P T):∀(n:Nat) {c c':Cf} {k k':List Kf} {env env':Env} {H H':Qc},Qjv T h0 N n c k env H=some (c',k',env',H')->Hd P h0 N c' k' env' H' Q->Hd P h0 N c k env H Q
 |0,c,c',k,k',env,env',H,H',h,g=>by cases h;exact g
 |n+1,c,c',k,k',env,env',H,H',h,g=>by
  unfold Qjv at h;split at h
  .rename_i e;exact Qme hT e (QcU hT n h g)
  .cases h
theorem Qkk{env:Env}{s:Nat}{a:A}(h:lk env s=a):∀t,lk (up env s a) t=lk env t:=by
 intro t;simp only[up,lk];cases q:Nat.beq t s with
 |true=>have:=XR q;subst this;exact h.symm
 |false=>rfl
theorem Is{α:Type}{all:Array Oper}{l:List Oper}{env:Env}{H:Qc}{b:Bool}{x y:Option α}{r:α}(s:Nat)(h:(bif b then x else y)=some r)(d:lkB env s=.mk (.bool b))
  (t:b=true->x=some r->WO P h0 N all l (up env s (.bool true)) H Q)(e:b=false->y=some r->WO P h0 N all l (up env s (.bool false)) H Q):WO P h0 N all l env H Q:=by
 have a:=QjF d;cases b with
 |true=>exact WO.le (Le.env λt=>.inr (Qkk a t)) (t rfl h)
 |false=>exact WO.le (Le.env λt=>.inr (Qkk a t)) (e rfl h)
theorem Ct3E{S B1:Type}{A B C:Code}{env:Env}{H:Qc}{k:List Kf}{b:Ctl S B1}(Eb:S->Env)(Hb:S->Qc)(h:TC P h0 N A env H (kq P h0 N [.seq B] (QgU h0 b Eb Hb (kq P h0 N (.seq C::k) Q))))(g:∀s env H,b=.cont s->Le h0 env H (Eb s) (Hb s)->kq P h0 N (.seq C::k) Q .normal env H):TC P h0 N (.seq A (.seq B C)) env H (kq P h0 N k Q):=
 QnB Eb Hb h g
end
def dstN(o:Oper)(i:Nat):Nat:=match o.dst with|some d=>d|none=>1000000+i
def Qbo:Nat->Nat->List Oper->List Nat
 |0,_,_=>[]
 |_+1,_,[]=>[]
 |m+1,i,o::l=>dstN o i::Qbo m (i+1) l
def Q5(af:List Nat):Nat->List Nat->List A->Env->Env
 |j,d::ds,x::xs,e=>(d,bif QdF af j then x else .any)::Q5 af (j+1) ds xs e
 |j,d::ds,[],e=>(d,.any)::Q5 af (j+1) ds [] e
 |_,[],_,e=>e
theorem QfX{l:List Nat}{t:Nat}:QdF l t=l.contains t:=by
 induction l with
 |nil=>rfl
 |cons a r d=>
  unfold QdF;rw[List.contains_cons,d];cases q:Nat.beq a t with
  |true=>have:=XR q;subst this;simp
  |false=>
   have b:t≠a:=λz=>by subst z;rw[VG]at q;cases q
   simp[b]
theorem QkO{af:List Nat}{env0:Env}{s:Nat}:∀(a:List Nat) (xs i:List A) (b:Nat),
  (∃(j:Nat) (x:A),af.contains (b+j)=true/\a[j]?=some s/\(xs++i)[j]?=some x/\lk (Q5 af b a xs env0) s=x)\/lk (Q5 af b a xs env0) s=.any\/(a.contains s=false/\lk (Q5 af b a xs env0) s=lk env0 s):=by
 intro a
 induction a with
 |nil=>intro xs i b;right;right;exact⟨rfl,by cases xs<;>rfl⟩
 |cons d a n=>
  intro xs i b;have next:∀(e:List A),(∃(j:Nat) (x:A),af.contains (b+1+j)=true/\a[j]?=some s/\(e++i)[j]?=some x/\lk (Q5 af (b+1) a e env0) s=x)->∀p,(∃(j:Nat) (x:A),af.contains (b+j)=true/\(d::a)[j]?=some s/\(p::e++i)[j]?=some x/\lk (Q5 af (b+1) a e env0) s=x):=by
   rintro e ⟨j,x,k,g,l,m⟩ p;exact⟨j+1,x,by rw[show b+(j+1)=b+1+j by omega];exact k,by simpa using g,by simpa using l,m⟩
  cases xs with
  |nil=>
   cases q:Nat.beq s d with
   |true=>right;left;simp only[Q5,lk,q,Vq]
   |false=>
    have f:s≠d:=λz=>by subst z;rw[VG]at q;cases q
    simp only[Q5,lk,q,Vr];rcases n [] [] (b+1)with⟨j,x,k,g,l,m⟩|h|⟨k,g⟩
    .simp at l
    .exact .inr (.inl h)
    .exact .inr (.inr ⟨by rw[List.contains_cons,k];simpa using f,g⟩)
  |cons x xs=>
   cases q:Nat.beq s d with
   |true=>
    have:=XR q;subst this;simp only[Q5,lk,q,Vq];cases c:QdF af b with
    |true=>left;exact⟨0,x,by rw[<- QfX];exact c,rfl,rfl,rfl⟩
    |false=>right;left;rfl
   |false=>
    have f:s≠d:=λz=>by subst z;rw[VG]at q;cases q
    simp only[Q5,lk,q,Vr];rcases n xs i (b+1)with h|h|⟨k,g⟩
    .exact .inl (next xs h x)
    .exact .inr (.inl h)
    .exact .inr (.inr ⟨by rw[List.contains_cons,k];simpa using f,g⟩)
section
variable {P:Program} {T:TyX} {h0 N m:Nat} {l:List Oper} {ds:List Nat} {env:Env} {H:Qc} {Q:Qu} {K:List Oper->Env->Qc->Prop}
def DS(P:Program)(N m:Nat)(l:List Oper)(ds:List Nat)(env:Env)(H:Qc)(K:List Oper->Env->Qc->Prop)(r:List Oper)(xs:List A):Prop:=
 r=l.drop xs.length->∃ys,xs.length+ys.length=m/\(∀j,xs.length<=j->j<m->Jz P N l ds (xs++ys) env H.length H.length j H H)/\K (l.drop m) (Qay ds (xs++ys) env) H
theorem oqOf{xs:List A}:∀(c i:Nat),(∀j,i<=j->j<i+c->Jz P N l ds xs env H.length H.length j H H)->Oq P N l ds xs env H i c
 |0,i,_=>.n
 |c+1,i,h=>.c (h i (XU _) (by omega)) (oqOf c (i+1) λj h1 h2=>h j (by omega) (by omega))
theorem QnW{id:Nat}{k:List Kf}(m:Nat)(n:P.follows .mixedOrders=true)(g:Go.Sw.draw0 l m N (Qbo m 0 l)=true)(a:Nat.ble h0 H.length=true)
  (h:DS P N m l (Qbo m 0 l) env H (λr e H=>WO P h0 N l.toArray r e H Q) l []):TC P h0 N (.region id l.toArray true) env H Q:=by
 obtain⟨i,b,d,f⟩:=h rfl;simp only[List.length_nil,Xw,Vi]at b d f;exact TC.draw0 m _ i n g (by rw[b];exact VG m) a (oqOf m 0 λj _ q=>d j (XV _) (by omega)) f
theorem DS.done{xs:List A}{r:List Oper}(b:Nat.beq xs.length m=true)(h:K r (Qay ds xs env) H):DS P N m l ds env H K r xs:=by
 intro a;have e:=XR b;subst a;refine⟨[],by simpa using e,λj f d=>by omega,?_⟩;rw[<- e,Vh];exact h
theorem DS.add{xs:List A}{o:Oper}{r:List Oper}{x:A}(i:Nat.blt xs.length m=true)(f:∀ys,l[xs.length]?=some o->Jz P N l ds (xs++x::ys) env H.length H.length xs.length H H)(k:DS P N m l ds env H K r (xs++[x])):DS P N m l ds env H K (o::r) xs:=by
 intro b;have a:xs.length<l.length:=by
  rcases VD xs.length l.length with q|q
  .exact q
  .rw[List.drop_eq_nil_of_le q]at b;cases b
 rw[Xr a]at b;cases b;obtain⟨ys,g,d,e⟩:=k (by simp);simp only[X4,X2,List.length_nil,Vj,VL,Vi]at g d e;refine⟨x::ys,by simp only[X2];omega,λj n h=>?_,e⟩;rcases VD xs.length j with q|q
 .exact d j (by omega) h
 .obtain rfl:j=xs.length:=by omega
  exact f ys (XL a)
theorem Qio{xs a:List A}{x:A}:(xs++x::a)[xs.length]?=some x:=by simp
theorem DS.wo{xs:List A}{o:Oper}{r:List Oper}{x:A}{d:Nat}(h:WO P H.length N l.toArray [o] (Q5 (Qf o) 0 ds xs env) H (YZ (up (Q5 (Qf o) 0 ds xs env) d x) H))(k:DS P N m l ds env H K r (xs++[x]))
  (f:o.dst=some d:=by exact rfl)(hx:Nat.blt xs.length m=true:=by exact rfl):DS P N m l ds env H K (o::r) xs:=
 .add hx (λg e=>.woE o _ d x e f Qio (he:=by
  intro s;rcases QkO (af:=Qf o) (env0:=env) (s:=s) ds xs (x::g) 0 with⟨j,y,a,n,b,i⟩|q|q
  .rw[Xw]at a;exact .inl ⟨j,y,a,n,b,i⟩
  .exact .inr (.inl q)
  .exact .inr (.inr q)) (hdd:=Qeh H) (h:=h)) k
theorem DS.v{xs:List A}{o:Oper}{r:List Oper}{x:A}{d:Nat}(h:OpV P o (Q5 (Qf o) 0 ds xs env) H x)(k:DS P N m l ds env H K r (xs++[x]))(hg:Qo l.toArray o (Q5 (Qf o) 0 ds xs env) true:=by exact rfl)
  (hd:o.dst=some d:=by exact rfl)(hN:Nat.blt d N=true:=by exact rfl)(hx:Nat.blt xs.length m=true:=by exact rfl):DS P N m l ds env H K (o::r) xs:=
 .wo (Qx hg hd hN h (WO.nil YZ.mk)) k hd hx
def QcK:List A->A->FL
 |[],x=>.mk [x]
 |a::r,x=>match QcK r x with
  |.mk r'=>.mk (a::r')
theorem Y3:∀(l:List A) (x:A),QcK l x=.mk (l++[x])
 |[],x=>rfl
 |a::r,x=>by unfold QcK;rw[Y3 r];rfl
def Qh4(T:TyX)(N m:Nat)(l:List Oper)(ds:List Nat)(env:Env)(H:Qc):Nat->Nat->List Oper->List A->Option (List Oper×List A)
 |0,_,r,xs=>some (r,xs)
 |_+1,_,[],_=>none
 |n+1,i,o::r,xs=>match Nat.blt i m with
  |false=>none
  |true=>match o.dst with
   |none=>none
   |some d=>match Nat.blt d N with
    |false=>none
    |true=>match YQ ⟨l⟩ o (Q5 (Qf o) 0 ds xs env)with
     |none=>none
     |some false=>match QcK xs (.tup [])with
      |.mk xs'=>Qh4 T N m l ds env H n (i+1) r xs'
     |some true=>match Qdt T o (Q5 (Qf o) 0 ds xs env) H with
      |none=>none
      |some x=>match QcK xs x with
       |.mk xs'=>Qh4 T N m l ds env H n (i+1) r xs'
theorem QeU(hT:Qbr P T):∀(n i:Nat) {r r':List Oper} {xs xs':List A},i=xs.length->Qh4 T N m l ds env H n i r xs=some (r',xs')->DS P N m l ds env H K r' xs'->DS P N m l ds env H K r xs
 |0,i,r,r',xs,xs',_,h,k=>by cases h;exact k
 |n+1,i,[],r',xs,xs',_,h,k=>by cases h
 |n+1,i,o::r,r',xs,xs',hi,h,k=>by
  subst hi;unfold Qh4 at h;split at h
  .cases h
  .rename_i q1;split at h
   .cases h
   .rename_i d hd;split at h
    .cases h
    .rename_i q2;split at h
     .cases h
     .rename_i hw;simp only[Y3]at h;exact .wo (WO.skip (QJ hw) hd q2 (WO.nil YZ.mk)) (QeU hT n _ (by simp) h k) hd q1
     .rename_i hw;split at h
      .cases h
      .rename_i x hv;simp only[Y3]at h;exact .v (QaA hT hv) (QeU hT n _ (by simp) h k) (QJ hw) hd q2 q1
def Qjr:List A->Nat->A->FL
 |[],_,_=>.mk []
 |_::r,0,x=>.mk (x::r)
 |a::r,n+1,x=>match Qjr r n x with
  |.mk r'=>.mk (a::r')
theorem Qbf:∀{l:List A} {n:Nat} {x:A},YL l n=some x->Qjr l n x=.mk l
 |[],n,x,h=>by cases h
 |a::r,0,x,h=>by cases h;rfl
 |a::r,n+1,x,h=>by unfold Qjr;rw[Qbf (l:=r) (n:=n) h]
theorem DS.is{α:Type}{b:Bool}{x y:Option α}{v:α}{xs i a:List A}{r:List Oper}(j:Nat)(h:(bif b then x else y)=some v)(d:YL xs j=some (.bool b))(f:Qjr xs j (.bool true)=.mk i)(g:Qjr xs j (.bool false)=.mk a)
  (t:b=true->x=some v->DS P N m l ds env H K r i)(e:b=false->y=some v->DS P N m l ds env H K r a):DS P N m l ds env H K r xs:=by
 cases b with
 |true=>rw[Qbf d]at f;cases f;exact t rfl h
 |false=>rw[Qbf d]at g;cases g;exact e rfl h
end
end Go.Sw
namespace Go.Sw
@[reducible] def RQ{β:Type}(w:β->A)(Hc:β->Qc)(r:β):A->Qc->Prop:=λa H=>a=w r/\H=Hc r
@[reducible] def Csm{β:Type}(P:Program)(f:FuncId)(args:List A)(H:Qc)(w:β->A)(r:β):Prop:=C P f args H (RQ w (λ_=>H) r)
structure TyZ where
 sl:List (Nat×Nat×Nat)
 fn:List Nat
structure Qdd (P:Program) (Z:TyZ):Prop where
 sl:∀e∈Z.sl,(∀w,(underlying e.1).run P w=.ok (.slice e.2.1) w)/\ ∀w,(sizeOf e.2.1).run P w=.ok e.2.2 w
 fn:∀f∈Z.fn,∀(a:Array Value) (w:World),(callFunc f a).run P w=.ok (.enter f a) w
section
variable {P:Program} {Z:TyZ} {h0 N:Nat} {all:Array Oper} {o:Oper} {l:List Oper} {env:Env} {H:Qc} {Q:Qu} {d:Nat}
theorem Izz(a:Qdd P Z){α:Type}{e:α->List A}{t et k:Nat}{L:List α}{j:IntKind}{i:Int}{v:α}(h:idx L i=some v)(q:ixB o env=some (d,t,k,L.map e,j,i))(g:WO P h0 N all l (up env d (.rp (e v))) H Q)
  (b:Qcl Z.sl t=some (et,k))(hg:YQ all o env=some true)(f:Nat.blt d N=true):WO P h0 N all (o::l) env H Q:=by
 obtain⟨m,n⟩:=a.sl _ (QaB b);exact Ix h m n q g (QJ hg) f
theorem Ize(a:Qdd P Z){α:Type}{e:α->List A}{t et k:Nat}{L:List α}{f:IntKind}{i:Int}{v:α}{cs:List A}(h:idx L i=some v)(he:e v=cs)(q:ixB o env=some (d,t,k,L.map e,f,i))(g:WO P h0 N all l (up env d (.rp cs)) H Q)
  (j:Qcl Z.sl t=some (et,k))(hg:YQ all o env=some true)(b:Nat.blt d N=true):WO P h0 N all (o::l) env H Q:=by
 subst he;exact Izz a h q g j hg b
theorem Lmz(a:Qdd P Z){α:Type}{e:α->List A}{t et k i:Nat}{L:List α}(q:lnB o env=some (d,t,.mk (.rsl k (L.map e))))(g:WO P h0 N all l (up env d (.int .i64 L.length)) H Q)
  (b:Qcl Z.sl t=some (et,i))(hg:YQ all o env=some true)(f:Nat.blt d N=true):WO P h0 N all (o::l) env H Q:=by
 obtain⟨h,j⟩:=a.sl _ (QaB b);exact LnM h q g (QJ hg) f
def Qf1(Z:TyZ)(o:Oper)(env:Env):Option (Nat×Nat×List A):=
 match o.dst with
 |none=>none
 |some d=>match o.op with
  |.call {callee:=.value (.func f),args:=⟨xs⟩,argTypes:=_}=>bif QdF Z.fn f then(match fl (Qih env xs)with|.mk ax=>some (d,f,ax))else none
  |.call {callee:=.value (.tmp x),args:=⟨xs⟩,argTypes:=_}=>match opB env (.tmp x)with
   |.mk (.fn (.func f) vf vc)=>bif QdF Z.fn f then(match fl (vf++(Qih env xs++vc))with|.mk ax=>some (d,f,ax))else none
   |_=>none
  |_=>none
theorem QeC(e:Qdd P Z){f:Nat}{args:List A}(h:Qf1 Z o env=some (d,f,args)):o.dst=some d/\OpC P o env H f args:=by
 unfold Qf1 at h;split at h
 .cases h
 .rename_i m g;split at h
  .rename_i b xs j a;cases q:QdF Z.fn b with
   |false=>rw[q]at h;cases h
   |true=>
    rw[q]at h;simp only[Qcs,Vq]at h;cases h;exact⟨g,OpC.fn (xs:=xs) (e.fn _ (Qhd q)) a rfl (QcZ xs).symm⟩
  .rename_i x xs j a;split at h
   .rename_i b l k i;cases q:QdF Z.fn b with
    |false=>rw[q]at h;cases h
    |true=>
     rw[q]at h;simp only[Qcs,Vq]at h;cases h;exact⟨g,Qci (xs:=xs) (e.fn _ (Qhd q)) a rfl (Qw i) (by rw[QcZ])⟩
   .cases h
  .cases h
theorem Czz(i:Qdd P Z){β γ:Type}{F:Option β}{F':β->Option γ}{r:γ}{f:Nat}{args a:List A}{Hc:Qc}{w:β->A}(π:List Nat)(h:F.bind F'=some r)(m:∀v,F=some v->C P f a Hc (RQ w (λ_=>Hc) v))
  (b:Qf1 Z o env=some (d,f,args))(g:∀v,F=some v->F' v=some r->WO P h0 N all l (up env d (w v)) H Q)(q:∀v,Qjs (w v)=some (.mk (w v)))
  (hargs:args=Qaa (rho π H.length) a)(hH:π.map (λp=>H[p]?)=(Hc.map (QT (rho π H.length))).map some)(hπ:π.Nodup)(hg:YQ all o env=some true)(j:Nat.blt d N=true)(k:Nat.ble h0 H.length=true):WO P h0 N all (o::l) env H Q:=by
 obtain⟨v,e,n⟩:=bnd h;obtain⟨s,t⟩:=QeC (H:=H) i b;exact Pc π s t (m v e) (q v) (g v e n) hargs hH hπ (QJ hg) j k
theorem DzZ(n:Qdd P Z){K:List Oper->Env->Qc->Prop}{m:Nat}{i:List Oper}{b:List Nat}{xs:List A}{β γ:Type}{F:Option β}{F':β->Option γ}{r:γ}{f:Nat}{args a:List A}{Hc:Qc}{w:β->A}(π:List Nat)(h:F.bind F'=some r)(s:∀v,F=some v->C P f a Hc (RQ w (λ_=>Hc) v))
  (e:Qf1 Z o (Q5 (Qf o) 0 b xs env)=some (d,f,args))(g:∀v,F=some v->F' v=some r->DS P N m i b env H K l (xs++[w v]))(x:∀v,Qjs (w v)=some (.mk (w v)))
  (hargs:args=Qaa (rho π H.length) a)(hH:π.map (λp=>H[p]?)=(Hc.map (QT (rho π H.length))).map some)(hπ:π.Nodup)(hg:YQ i.toArray o (Q5 (Qf o) 0 b xs env)=some true)(q:Nat.blt d N=true)(u:Nat.blt xs.length m=true):DS P N m i b env H K (o::l) xs:=by
 obtain⟨v,j,t⟩:=bnd h;obtain⟨k,y⟩:=QeC (H:=H) n e;exact .wo (Pc π k y (s v j) (x v) (WO.nil YZ.mk) hargs hH hπ (QJ hg) q (XT (XU _))) (g v j t) k u
theorem ln:Qbt H [] []:=trivial
theorem ls{ax b:List A}{a:A}(k:Qbt H ax b)(h:Yk a=true:=by exact rfl):Qbt H (a::ax) (a::b):=⟨.inl ⟨rfl,h⟩,k⟩
theorem lo{ax a:List A}{i n k t:Nat}{es:List (List A)}(b:Qbt H ax a)(hH:H[i]?=some (.row t k es):=by exact rfl)(hn:es.length=n:=by exact X3 ..):Qbt H (.osl i 0 n k::ax) (.rsl k es::a):=
 ⟨.inr ⟨_,_,_,_,_,rfl,hH,hn,rfl⟩,b⟩
theorem Cbz(i:Qdd P Z){β γ:Type}{F:Option β}{F':β->Option γ}{r:γ}{f:Nat}{args a:List A}{w:β->A}(h:F.bind F'=some r)(k:∀v,F=some v->C P f a [] (RQ w (λ_=>[]) v))
  (b:Qf1 Z o env=some (d,f,args))(p:Qbt H args a)(g:∀v,F=some v->F' v=some r->WO P h0 N all l (up env d (w v)) H Q)(n:∀v,Yj (w v)=true)
  (hg:YQ all o env=some true)(j:Nat.blt d N=true):WO P h0 N all (o::l) env H Q:=by
 obtain⟨v,e,m⟩:=bnd h;obtain⟨q,s⟩:=QeC (H:=H) i b;refine Qnu s p (k v e) ?_ ?_ (QJ hg) q j
 .rintro _ _ ⟨rfl,rfl⟩;exact n v
 .rintro _ _ ⟨rfl,rfl⟩;exact g v e m
end
def ixL:List Nat:=[0,1,2,3,4,5,6,7,8,9,10,11,12,13,14,15,16,17,18,19,20,21,22,23,24,25,26,27,28,29,30,31,32,33,34,35,36,37,38,39,40,41,42,43,44,45,46,47,48,49,50,51,52,53,54,55,56,57,58,59,60,61,62,63]
def Qle:List Nat->List Nat->Nat->FN
 |a::r,b::s,j=>bif Nat.beq a j then .mk b else Qle r s j
 |_,_,j=>.mk j
mutual
def cpA(sel:List Nat):A->Bx
 |.ptr i off=>match Qle sel ixL i with
  |.mk j=>.mk (.ptr j off)
 |.osl i o n k=>match Qle sel ixL i with
  |.mk j=>.mk (.osl j o n k)
 |.map i=>match Qle sel ixL i with
  |.mk j=>.mk (.map j)
 |.fn f a c=>match cpL sel a,cpL sel c with
  |.mk a',.mk c'=>.mk (.fn f a' c')
 |a=>.mk a
def cpL(sel:List Nat):List A->FL
 |[]=>.mk []
 |a::r=>match cpA sel a,cpL sel r with
  |.mk a',.mk r'=>.mk (a'::r')
end
inductive FV where
 |mk (e:Env)
def QmN(sel:List Nat)(env:Env):List Nat->Env->FV
 |[],nE=>.mk nE
 |s::r,nE=>match lkB env s with
  |.mk a=>match cpA sel a,QmN sel env r nE with
   |.mk a',.mk e=>.mk ((s,a')::e)
def selH(H:Qc):List Nat->List Nat->List (Nat×Blk)->FB
 |a::r,p::ps,[]=>match YL H a,selH H r ps []with
  |some b,.mk l=>.mk (b::l)
  |none,.mk l=>.mk l
 |a::r,p::ps,(q,b)::n=>bif Nat.beq p q then(match selH H r ps n with|.mk l=>.mk (b::l))else(match YL H a,selH H r ps ((q,b)::n)with
  |some b,.mk l=>.mk (b::l)
  |none,.mk l=>.mk l)
 |_,_,_=>.mk []
def Qnk(sel keep:List Nat)(nE:Env)(nH:List (Nat×Blk))(env:Env)(H:Qc):Option (Env×Qc):=
 match QmN sel env keep nE,selH H sel ixL nH with
 |.mk e,.mk h=>some (e,h)
section
variable {P:Program} {h0 N:Nat} {c:Code} {env:Env} {H:Qc} {Q:Qu}
def CutQ{β:Type}(h0:Nat)(b:β)(E':β->Env)(H':β->Qc)(Q:Qu):Qu
 |.normal,env,H=>Le h0 env H (E' b) (H' b)
 |.exit id,env,H=>Q (.exit id) env H
 |.ret,env,H=>Q .ret env H
theorem QP{h0:Nat}{env:Env}{H:Qc}{Q:Qu}{β:Type}{b:β}{E':β->Env}{H':β->Qc}(h:Le h0 env H (E' b) (H' b)):CutQ h0 b E' H' Q .normal env H:=h
theorem Ct{β:Type}{E':β->Env}{H':β->Qc}(b:β)(sel keep:List Nat)(nE:β->Env)(nH:β->List (Nat×Blk))(_:∀b,Qnk sel keep (nE b) (nH b) env H=some (E' b,H' b))(h:TC P h0 N c env H (CutQ h0 b E' H' Q))(k:∀env H,Le h0 env H (E' b) (H' b)->Q .normal env H):TC P h0 N c env H Q:=
 h.mono λx env' H' q=>by
  cases x with
  |normal=>exact k _ _ q
  |exit id=>exact q
  |ret=>exact q
theorem CtE{S B:Type}{b:Ctl S B}{E':S->Env}{H':S->Qc}(sel keep:List Nat)(nE:S->Env)(nH:S->List (Nat×Blk))(_:∀s,Qnk sel keep (nE s) (nH s) env H=some (E' s,H' s))(h:TC P h0 N c env H (QgU h0 b E' H' Q))(k:∀s env H,b=.cont s->Le h0 env H (E' s) (H' s)->Q .normal env H):TC P h0 N c env H Q:=QhE E' H' h k
theorem Lp{S B:Type}{step:S->Option (Ctl S B)}{E':S->Env}{H':S->Qc}{m:Nat}{s0:S}{b0:B}(sel keep:List Nat)(nE:S->Env)(nH:S->List (Nat×Blk))(h:iter step m s0=some b0)(_:∀s,Qnk sel keep (nE s) (nH s) env H=some (E' s,H' s))(hI:Le h0 env H (E' s0) (H' s0))
  (body:∀s d,step s=some d->(∀b,d=.done b->b=b0)->TC P h0 N c (E' s) (H' s) (Qbs (λs env H=>Le h0 env H (E' s) (H' s)) d Q)):TC P h0 N (.loop c) env H Q:=TC.loop E' H' h hI body
end
theorem Oj{S B:Type}{d:Ctl S B}{x b0:B}(hb:∀b,d=.done b->b=b0)(h:some (Ctl.done x)=some d):x=b0:=hb x (Oi h).symm
theorem Rt{P:Program}{h0:Nat}{fn:Func}{env:Env}{H:Qc}{β:Type}{e r:β}{w:β->A}{Hc:β->Qc}(h:some e=some r)(s:Nat)(π:List Nat)(a:fn.results= #[.tmp s]:=by exact rfl)(hpre:π.take h0=List.range h0:=by exact rfl)
  (hH:π.map (λp=>H[p]?)=((Hc e).map (QT (rho π H.length))).map some:=by exact rfl)(hπ:π.Nodup:=by decide)(hE:Qen (rho π H.length) env [(s,w e)]:=by exact⟨rfl,trivial⟩):Qdh P h0 fn (RQ w Hc r) .ret env H:=by
 cases h;exact R1 s a (Lr π hpre hH hπ hE)
theorem Cl{h0:Nat}{env:Env}{H:Qc}{Q:Qu}{β:Type}{e b:β}{E':β->Env}{H':β->Qc}(h:some e=some b)(π:List Nat)(a:π.take h0=List.range h0:=by exact rfl)
  (hH:π.map (λp=>H[p]?)=((H' e).map (QT (rho π H.length))).map some:=by exact rfl)(hπ:π.Nodup:=by decide)(hE:Qen (rho π H.length) env (E' e):=by(repeat' (first|exact trivial|refine⟨rfl,?_⟩))):CutQ h0 b E' H' Q .normal env H:=by
 cases h;exact Lr π a hH hπ hE
end Go.Sw
namespace Go.Sw
def plC(cat:List Nat):List (List (Nat×Nat)):=cat.map λc=>match c with|0=>[(0,0)]|1=>[(0,1)]|2=>[(1,1)]|_=>[(0,0),(1,1)]
def rqC(b:Nat)(cat:List Nat):List (List Nat):=cat.map λc=>match c with|2=>[b]|_=>[]
def hsC(cat:List Nat):List Bool:=cat.map λc=>match c with|1=>true|_=>false
section
variable {P:Program} {T:TyX} {h0 N m b:Nat} {cat:List Nat} {l:List Oper} {ds:List Nat} {env:Env} {H H1:Qc} {Q:Qu} {K:List Oper->Env->Qc->Prop}
theorem QhJ{P:Program}{N:Nat}{l:List Oper}{ds:List Nat}{xs:List A}{env0:Env}{hB hE:Nat}:∀(ss:List (List (Qc×Qc))) (b:Nat),(∀i s,ss[i]?=some s->∀p∈s,Jz P N l ds xs env0 hB hE (b+i) p.1 p.2)->QhK P N l ds xs env0 hB hE b ss
 |[],b,h=>.nil
 |s::ss,b,h=>.cons (h 0 s rfl) (QhJ ss (b+1) λi s' hs=>by rw[show b+1+i=b+(i+1)by omega];exact h (i+1) s' hs)
def Dob(P:Program)(N:Nat)(cat:List Nat)(l:List Oper)(ds:List Nat)(env:Env)(H H1:Qc)(zs:List A)(j:Nat):Prop:=
 ∀p∈(plC cat).getD j [],Jz P N l ds zs env H.length H.length j ([H,H1].getD p.1 []) ([H,H1].getD p.2 [])
def DB(P:Program)(N m:Nat)(cat:List Nat)(l:List Oper)(ds:List Nat)(env:Env)(H H1:Qc)(K:List Oper->Env->Qc->Prop)(r:List Oper)(xs:List A):Prop:=
 r=l.drop xs.length->∃ys,xs.length+ys.length=m/\(∀j,xs.length<=j->j<m->Dob P N cat l ds env H H1 (xs++ys) j)/\K (l.drop m) (Qay ds (xs++ys) env) H1
def DA(P:Program)(N m:Nat)(cat:List Nat)(l:List Oper)(ds:List Nat)(env:Env)(H:Qc)(K:List Oper->Env->Qc->Prop)(r:List Oper)(xs:List A):Prop:=
 r=l.drop xs.length->∃ys H1,xs.length+ys.length=m/\H.length<=H1.length/\(∀j,xs.length<=j->j<m->Dob P N cat l ds env H H1 (xs++ys) j)/\K (l.drop m) (Qay ds (xs++ys) env) H1
theorem Qp6{f:List A}(b:cat.length=m)(n:∀j,0<=j->j<m->Dob P N cat l ds env H H1 f j):QhK P N l ds f env H.length (H.length+0) 0 ((plC cat).map λq=>q.map λp=>([H,H1].getD p.1 [],[H,H1].getD p.2 [])):=by
 refine QhJ _ 0 λi s a p g=>?_;rw[Xq]at a;cases e:(plC cat)[i]? with
 |none=>rw[e]at a;cases a
 |some q=>
  rw[e]at a;cases a;obtain⟨h,d,rfl⟩:=Xf.1 g;have k:i<m:=by
   have:=(XM.1 e).1;simpa[plC,b]using this
  have:=n i (XV _) k h (by rw[QkH e];exact d);simpa using this
theorem DA.len(a:H.length<=H1.length):[H,H1].all (λX=>Nat.ble (H.length+0) X.length)=true:=by
 simp only[List.all_cons,List.all_nil,Bool.and_true,Xx,XX];exact⟨XT (XU _),XT a⟩
theorem QnZ{id:Nat}(m b:Nat)(cat:List Nat)(q:P.follows .mixedOrders=true)(n:Qeg l m N (Qbo m 0 l) (hsC cat) (rqC b cat) [[],[b]] (plC cat)=true)(d:Nat.beq cat.length m=true)(f:Nat.ble h0 H.length=true)
  (h:DA P N m cat l (Qbo m 0 l) env H (λr e H=>WO P h0 N l.toArray r e H Q) l []):TC P h0 N (.region id l.toArray true) env H Q:=by
 obtain⟨p,H1,i,k,j,g⟩:=h rfl;simp only[List.length_nil,Xw,Vi]at i j g;have a:=XR d;exact Qb2 m 0 _ _ _ _ _ p [H,H1] H1 q n (by rw[i];exact VG m) rfl f (DA.len k) (by simp) rfl (Qp6 a j) (by simp[plC,a]) g
theorem Qbp{xs:List A}{o:Oper}{r:List Oper}(b:o::r=l.drop xs.length):l[xs.length]?=some o/\r=l.drop (xs.length+1):=by
 have a:xs.length<l.length:=by
  rcases VD xs.length l.length with q|q
  .exact q
  .rw[List.drop_eq_nil_of_le q]at b;cases b
 rw[Xr a]at b;cases b;exact⟨XL a,rfl⟩
theorem QhP{zs:List A}{j c:Nat}(b:YL cat j=some c)(h:∀p∈(match c with|0=>[(0,0)]|1=>[(0,1)]|2=>[(1,1)]|_=>[(0,0),(1,1)]:List (Nat×Nat)),Jz P N l ds zs env H.length H.length j ([H,H1].getD p.1 []) ([H,H1].getD p.2 [])):Dob P N cat l ds env H H1 zs j:=by
 intro p a;rw[QaF]at b;unfold plC at a;rw[VM,Xq,b]at a;exact h p a
theorem QaE{hB hE:Nat}{xs a:List A}{o:Oper}{x:A}{d:Nat}{X X':Qc}(f:l[xs.length]?=some o)(hdd:Qaw hB hE X X'=true)(h:WO P X.length N l.toArray [o] (Q5 (Qf o) 0 ds xs env) X (YZ (up (Q5 (Qf o) 0 ds xs env) d x) X'))(g:o.dst=some d):
  Jz P N l ds (xs++x::a) env hB hE xs.length X X':=
 .woE o _ d x f g Qio (he:=by
  intro s;rcases QkO (af:=Qf o) (env0:=env) (s:=s) ds xs (x::a) 0 with⟨j,y,b,k,e,i⟩|q|q
  .rw[Xw]at b;exact .inl ⟨j,y,b,k,e,i⟩
  .exact .inr (.inl q)
  .exact .inr (.inr q)) (hdd:=hdd) (h:=h)
theorem Y2{n:Nat}{X X':Qc}:Qaw n n X X'=true:=by unfold Qaw;rw[Nat.sub_self];rfl
theorem DA.wo{xs:List A}{o:Oper}{r:List Oper}{x:A}{d:Nat}(h:WO P H.length N l.toArray [o] (Q5 (Qf o) 0 ds xs env) H (YZ (up (Q5 (Qf o) 0 ds xs env) d x) H))(k:DA P N m cat l ds env H K r (xs++[x]))
  (n:YL cat xs.length=some 0:=by exact rfl)(hd:o.dst=some d:=by exact rfl)(hx:Nat.blt xs.length m=true:=by exact rfl):DA P N m cat l ds env H K (o::r) xs:=by
 intro w;obtain⟨f,a⟩:=Qbp w;obtain⟨s,H1,t,i,e,b⟩:=k (by simpa using a);simp only[X4,X2,List.length_nil,Vj,VL,Vi]at t e b;refine⟨x::s,H1,by simp only[X2];omega,i,λj y u=>?_,b⟩;rcases VD xs.length j with q|q
 .exact e j (by omega) u
 .obtain rfl:j=xs.length:=by omega
  refine QhP n λp g=>?_;obtain rfl:=VC.1 g;exact QaE f Y2 h hd
theorem DA.op{xs:List A}{o:Oper}{r:List Oper}{x:A}{d:Nat}(h:WO P H.length N l.toArray [o] (Q5 (Qf o) 0 ds xs env) H (YZ (up (Q5 (Qf o) 0 ds xs env) d x) H1))(k:DB P N m cat l ds env H H1 K r (xs++[x]))(hl:Nat.ble H.length H1.length=true:=by exact rfl)
  (hc:YL cat xs.length=some 1:=by exact rfl)(hd:o.dst=some d:=by exact rfl)(hx:Nat.blt xs.length m=true:=by exact rfl):DA P N m cat l ds env H K (o::r) xs:=by
 intro t;obtain⟨f,a⟩:=Qbp t;obtain⟨i,n,e,b⟩:=k (by simpa using a);simp only[X4,X2,List.length_nil,Vj,VL,Vi]at n e b;refine⟨x::i,H1,by simp only[X2];omega,XS hl,λj u s=>?_,b⟩;rcases VD xs.length j with q|q
 .exact e j (by omega) s
 .obtain rfl:j=xs.length:=by omega
  refine QhP hc λp g=>?_;obtain rfl:=VC.1 g;exact QaE f Y2 h hd
theorem Qb7{xs:List A}{o:Oper}{r:List Oper}{x x':A}{d:Nat}{H1':Qc}(h:OpH P o (Q5 (Qf o) 0 ds xs env) H x H1)(a:foA x=.mk x')(b:foH H1=.mk H1')(k:DB P N m cat l ds env H H1' K r (xs++[x']))(e:o.dst=some d:=by exact rfl)(hg:YQ ⟨l⟩ o (Q5 (Qf o) 0 ds xs env)=some true:=by exact rfl)(hN:Nat.blt d N=true:=by exact rfl)(hl:Nat.ble H.length H1'.length=true:=by exact rfl)
  (hc:YL cat xs.length=some 1:=by exact rfl)(hx:Nat.blt xs.length m=true:=by exact rfl):DA P N m cat l ds env H K (o::r) xs:=by
 rw[Qhm]at a;rw[QjK]at b;cases a;cases b;exact .op (YW (XU _) (QJ hg) e hN h (WO.nil YZ.mk)) k hl hc e hx
theorem DB.done{xs:List A}{r:List Oper}(b:Nat.beq xs.length m=true)(h:K r (Qay ds xs env) H1):DB P N m cat l ds env H H1 K r xs:=by
 intro a;have e:=XR b;subst a;refine⟨[],by simpa using e,λj f d=>by omega,?_⟩;rw[<- e,Vh];exact h
theorem DB.add{xs:List A}{o:Oper}{r:List Oper}{x:A}(f:∀ys,l[xs.length]?=some o->Dob P N cat l ds env H H1 (xs++x::ys) xs.length)(k:DB P N m cat l ds env H H1 K r (xs++[x])):DB P N m cat l ds env H H1 K (o::r) xs:=by
 intro i;obtain⟨e,a⟩:=Qbp i;obtain⟨ys,g,d,b⟩:=k (by simpa using a);simp only[X4,X2,List.length_nil,Vj,VL,Vi]at g d b;refine⟨x::ys,by simp only[X2];omega,λj n h=>?_,b⟩;rcases VD xs.length j with q|q
 .exact d j (by omega) h
 .obtain rfl:j=xs.length:=by omega
  exact f ys e
theorem DB.wo1{xs:List A}{o:Oper}{r:List Oper}{x:A}{d:Nat}(h:WO P H1.length N l.toArray [o] (Q5 (Qf o) 0 ds xs env) H1 (YZ (up (Q5 (Qf o) 0 ds xs env) d x) H1))(k:DB P N m cat l ds env H H1 K r (xs++[x]))
  (e:YL cat xs.length=some 2:=by exact rfl)(hd:o.dst=some d:=by exact rfl):DB P N m cat l ds env H H1 K (o::r) xs:=
 .add (λf a=>QhP e λp b=>by
  obtain rfl:=VC.1 b;exact QaE a Y2 h hd) k
theorem DB.wo2{xs:List A}{o:Oper}{r:List Oper}{x:A}{d:Nat}(h:WO P H.length N l.toArray [o] (Q5 (Qf o) 0 ds xs env) H (YZ (up (Q5 (Qf o) 0 ds xs env) d x) H))(f:WO P H1.length N l.toArray [o] (Q5 (Qf o) 0 ds xs env) H1 (YZ (up (Q5 (Qf o) 0 ds xs env) d x) H1))(k:DB P N m cat l ds env H H1 K r (xs++[x]))
  (e:YL cat xs.length=some 3:=by exact rfl)(hd:o.dst=some d:=by exact rfl):DB P N m cat l ds env H H1 K (o::r) xs:=
 .add (λg b=>QhP e λp a=>by
  rcases X7.1 a with rfl|a
  .exact QaE b Y2 h hd
  .obtain rfl:=VC.1 a;exact QaE b Y2 f hd) k
def Qh5(T:TyX)(N m:Nat)(cat:List Nat)(l:List Oper)(ds:List Nat)(env:Env)(H:Qc):Nat->Nat->List Oper->List A->Option (List Oper×List A)
 |0,_,r,xs=>some (r,xs)
 |_+1,_,[],_=>none
 |n+1,i,o::r,xs=>match Nat.blt i m,YL cat i with
  |true,some 0=>match o.dst with
   |none=>none
   |some d=>match Nat.blt d N with
    |false=>none
    |true=>match YQ ⟨l⟩ o (Q5 (Qf o) 0 ds xs env)with
     |none=>none
     |some false=>match QcK xs (.tup [])with
      |.mk xs'=>Qh5 T N m cat l ds env H n (i+1) r xs'
     |some true=>match Qdt T o (Q5 (Qf o) 0 ds xs env) H with
      |none=>none
      |some x=>match QcK xs x with
       |.mk xs'=>Qh5 T N m cat l ds env H n (i+1) r xs'
  |_,_=>none
theorem QeX(hT:Qbr P T):∀(n i:Nat) {r r':List Oper} {xs xs':List A},i=xs.length->Qh5 T N m cat l ds env H n i r xs=some (r',xs')->DA P N m cat l ds env H K r' xs'->DA P N m cat l ds env H K r xs
 |0,i,r,r',xs,xs',_,h,k=>by cases h;exact k
 |n+1,i,[],r',xs,xs',_,h,k=>by cases h
 |n+1,i,o::r,r',xs,xs',hi,h,k=>by
  subst hi;unfold Qh5 at h;split at h
  .rename_i q1 q0;split at h
   .cases h
   .rename_i d hd;split at h
    .cases h
    .rename_i q2;split at h
     .cases h
     .rename_i hw;simp only[Y3]at h;exact .wo (WO.skip (QJ hw) hd q2 (WO.nil YZ.mk)) (QeX hT n _ (by simp) h k) q0 hd q1
     .rename_i hw;split at h
      .cases h
      .rename_i x hv;simp only[Y3]at h;exact .wo (Qx (QJ hw) hd q2 (QaA hT hv) (WO.nil YZ.mk)) (QeX hT n _ (by simp) h k) q0 hd q1
  .cases h
theorem Qn9{H:Qc}{p:Bx}{r:Lx}(h:ptX [] p=some r):ptX H p=some r:=by
 unfold ptX at h⊢;split at h
 .exact h
 .rename_i i a;simp only[YL]at h;cases h
 .cases h
theorem QeK{o:Oper}{e:Env}{H:Qc}{x:A}(h:Qdt T o e []=some x):Qdt T o e H=some x:=by
 unfold Qdt at h⊢;split at h<;>first|exact h|skip
 rename_i t y f;split at h
 .cases h
 .rename_i b n g;split at h
  .exact h
  .rename_i d;cases q:ptX [] (opB e y)with
   |none=>rw[q]at h;cases h
   |some r=>
    rw[q]at h;have a:=Qn9 (H:=H) q;simp only[a];exact h
def QeW(T:TyX)(N:Nat)(cat:List Nat)(l:List Oper)(ds:List Nat)(env:Env)(H1:Qc):Nat->Nat->List Oper->List A->Option (List Oper×List A)
 |0,_,r,xs=>some (r,xs)
 |_+1,_,[],_=>none
 |n+1,i,o::r,xs=>match o.dst with
  |none=>none
  |some d=>match Nat.blt d N with
   |false=>none
   |true=>match YQ ⟨l⟩ o (Q5 (Qf o) 0 ds xs env)with
    |none=>none
    |some false=>match YL cat i with
     |some 2=>(match QcK xs (.tup [])with
      |.mk xs'=>QeW T N cat l ds env H1 n (i+1) r xs')
     |some 3=>(match QcK xs (.tup [])with
      |.mk xs'=>QeW T N cat l ds env H1 n (i+1) r xs')
     |_=>none
    |some true=>match YL cat i with
     |some 2=>(match Qdt T o (Q5 (Qf o) 0 ds xs env) H1 with
      |none=>none
      |some x=>match QcK xs x with
       |.mk xs'=>QeW T N cat l ds env H1 n (i+1) r xs')
     |some 3=>(match Qdt T o (Q5 (Qf o) 0 ds xs env) []with
      |none=>none
      |some x=>match QcK xs x with
       |.mk xs'=>QeW T N cat l ds env H1 n (i+1) r xs')
     |_=>none
theorem QbR(hT:Qbr P T):∀(n i:Nat) {r r':List Oper} {xs xs':List A},i=xs.length->QeW T N cat l ds env H1 n i r xs=some (r',xs')->DB P N m cat l ds env H H1 K r' xs'->DB P N m cat l ds env H H1 K r xs
 |0,i,r,r',xs,xs',_,h,k=>by cases h;exact k
 |n+1,i,[],r',xs,xs',_,h,k=>by cases h
 |n+1,i,o::r,r',xs,xs',hi,h,k=>by
  subst hi;unfold QeW at h;split at h
  .cases h
  .rename_i d hd;split at h
   .cases h
   .rename_i q2;split at h
    .cases h
    .rename_i hw;split at h
     .rename_i q0;simp only[Y3]at h;exact .wo1 (WO.skip (QJ hw) hd q2 (WO.nil YZ.mk)) (QbR hT n _ (by simp) h k) q0 hd
     .rename_i q0;simp only[Y3]at h;exact .wo2 (WO.skip (QJ hw) hd q2 (WO.nil YZ.mk)) (WO.skip (QJ hw) hd q2 (WO.nil YZ.mk)) (QbR hT n _ (by simp) h k) q0 hd
     .cases h
    .rename_i hw;split at h
     .rename_i q0;split at h
      .cases h
      .rename_i x hv;simp only[Y3]at h;exact .wo1 (Qx (QJ hw) hd q2 (QaA hT hv) (WO.nil YZ.mk)) (QbR hT n _ (by simp) h k) q0 hd
     .rename_i q0;split at h
      .cases h
      .rename_i x hv;simp only[Y3]at h;exact .wo2 (Qx (QJ hw) hd q2 (QaA hT (QeK hv)) (WO.nil YZ.mk)) (Qx (QJ hw) hd q2 (QaA hT (QeK hv)) (WO.nil YZ.mk)) (QbR hT n _ (by simp) h k) q0 hd
     .cases h
end
end Go.Sw
namespace Go.Sw
def chkF(L:List (Nat×List (Nat×Nat)))(fs:List (Nat×Nat×Nat)):Bool:=
 fs.all λe=>match Qcl L e.1 with
  |some pl=>(match YL pl e.2.1 with
   |some q=>Nat.beq q.1 e.2.2&& !(Nat.beq q.2 0)
   |none=>false)
  |none=>false
theorem PL.get{P:Program}{fs:List Field}{a:List (Nat×Nat)}(h:PL P fs a):∀{f off n:Nat},YL a f=some (off,n)->∃fd,fs[f]?=some fd/\fd.offset=off/\ ∀w,(sizeOf fd.type).run P w=.ok n w:=by
 induction h with
 |nil=>intro f off n h;cases h
 |cons h k d=>
  intro f off n b;cases f with
  |zero=>cases b;exact⟨_,rfl,rfl,h⟩
  |succ f=>obtain⟨fd,e,g⟩:=d (show YL _ f=_ from b);exact⟨fd,by simpa using e,g⟩
theorem QpP{P:Program}{L:List (Nat×List (Nat×Nat))}{fs:List (Nat×Nat×Nat)}(l:∀e∈L,QD P e.1 e.2)(h:chkF L fs=true):∀e∈fs,∃n,QW P e.1 e.2.1 e.2.2 n:=by
 intro e f;have:=Xt.1 h e f;split at this
 .rename_i t b;split at this
  .rename_i q d;obtain⟨j,n⟩:=q;simp only[XX,Bool.not_eq_true']at this;have s:=XR this.1;obtain⟨r,i,a⟩:=l _ (QaB b);obtain⟨p,k,m,g⟩:=PL.get a d;refine⟨n,⟨⟨_,p,i,by simpa using k,m.trans s,g,?_⟩⟩⟩;intro z;have a:=this.2;rw[z,VG]at a;cases a
  .cases this
 .cases this
section
variable {P:Program} {Z:TyZ} {h0 N:Nat} {all:Array Oper} {o:Oper} {l:List Oper} {env:Env} {H:Qc} {Q:Qu} {d:Nat}
theorem Cdz(i:Qdd P Z){β γ:Type}{F:Option β}{F':β->Option γ}{r:γ}{f:Nat}{args a:List A}{Hc:Qc}{w:β->A}{Hr:β->Qc}(π:List Nat)(h:F.bind F'=some r)(m:∀v,F=some v->C P f a Hc (RQ w Hr v))
  (b:Qf1 Z o env=some (d,f,args))(g:∀v,F=some v->F' v=some r->WO P h0 N all l (up env d (Yz (rho π H.length) (w v))) (Yl H π ((Hr v).map (QT (rho π H.length)))) Q)
  (hargs:args=Qaa (rho π H.length) a)(hH:π.map (λp=>H[p]?)=(Hc.map (QT (rho π H.length))).map some)(hπ:π.Nodup)(hg:YQ all o env=some true)(j:Nat.blt d N=true)(k:Nat.ble h0 H.length=true):WO P h0 N all (o::l) env H Q:=by
 obtain⟨v,e,n⟩:=bnd h;obtain⟨q,s⟩:=QeC (H:=H) i b;refine QM π s (m v e) ?_ hargs hH hπ (QJ hg) q j k;rintro _ _ ⟨rfl,rfl⟩;exact g v e n
end
inductive FLL where
 |mk (l:List (List A))
def cpLL(sel:List Nat):List (List A)->FLL
 |[]=>.mk []
 |a::r=>match cpL sel a,cpLL sel r with
  |.mk a',.mk r'=>.mk (a'::r')
inductive FBk where
 |mk (b:Blk)
def cpBk(sel:List Nat):Blk->FBk
 |.cells t cs=>match cpL sel cs with
  |.mk l=>.mk (.cells t l)
 |.rowr t k es=>match cpLL sel es with
  |.mk l=>.mk (.rowr t k l)
 |.ents t a b es=>match Qle sel ixL a,Qle sel ixL b with
  |.mk a',.mk b'=>.mk (.ents t a' b' es)
 |b=>.mk b
def selD(H:Qc)(sel:List Nat):List Nat->FB
 |[]=>.mk []
 |a::r=>match YL H a with
  |some b=>(match cpBk sel b,selD H sel r with
   |.mk b',.mk l=>.mk (b'::l))
  |none=>.mk []
def retC(sel sl:List Nat)(env:Env)(H:Qc):Option (Env×Qc):=
 match QmN sel env sl [],selD H sel sel with
 |.mk e,.mk h=>some (e,h)
theorem Rx{P:Program}{h0:Nat}{fn:Func}{env E':Env}{H H':Qc}{Qr:A->Qc->Prop}{d:A}(π sl:List Nat)(_:retC π sl env H=some (E',H'))(a:Qdi P fn E' H' d)(e:Qr d H')(b:π.take h0=List.range h0:=by exact rfl)
  (hH:π.map (λp=>H[p]?)=(H'.map (QT (rho π H.length))).map some:=by exact rfl)(hπ:π.Nodup:=by decide)(hE:Qen (rho π H.length) env E':=by(repeat' (first|exact trivial|refine⟨rfl,?_⟩))):Qdh P h0 fn Qr .ret env H:=
 ⟨E',H',d,Lr π b hH hπ hE,a,e⟩
end Go.Sw
namespace Go.Sw
def nxL{T:Type}:List T->T->List T->Prop:=λl x rem=>l=x::rem
def Qcm{S T B:Type}(step:S->T->Option (Ctl S B)):List T->S->Option (Ctl S B)
 |[],s=>some (.cont s)
 |x::l,s=>(step s x).bind λd=>match d with
  |.cont s'=>Qcm step l s'
  |.done b=>some (.done b)
def Qcr{S T B:Type}(step:S->Option (List T×Ctl S B)):Nat->S->Option (List T×B)
 |0,_=>none
 |n+1,s=>(step s).bind λp=>match p.2 with
  |.cont s'=>(Qcr step n s').bind λq=>some (p.1++q.1,q.2)
  |.done b=>some (p.1,b)
def QnC{S B:Type}(h1:Nat)(env:Env)(Q:Qu)(d:Ctl S B)(Hp:S->Qc):Qu
 |.normal,env',H'=>∃s,d=.cont s/\Le h1 env' H' [] (Hp s)
 |.exit id,env',H'=>(∃b,d=.done b)/\ ∃H2,Le h1 env' H' [] H2/\Q (.exit id) env H2
 |.ret,env',H'=>(∃b,d=.done b)/\ ∃H2,Le h1 env' H' [] H2/\Q .ret env H2
theorem Qg5{S B:Type}{h1:Nat}{env env':Env}{H':Qc}{Q:Qu}{s:S}{d:Ctl S B}{Hp:S->Qc}(e:some (Ctl.cont s)=some d)(h:Le h1 env' H' [] (Hp s)):QnC h1 env Q d Hp .normal env' H':=⟨s,(Oi e).symm,h⟩
theorem QdR{P:Program}{h0 N:Nat}{n:Operand}{ps:List Nat}{assign body:Code}{env:Env}{H:Qc}{Q:Qu}{f:FuncId}{g a:List A}{Hc:Qc}{T S B:Type}{enc:T->List A}{xs:List T}{step:S->T->Option (Ctl S B)}{s0:S}{D:Ctl S B}
  (π:List Nat)(Hp:S->Qc)(h:Qcm step xs s0=some D)(m:Qi0 P f a Hc enc nxL xs)(r:∀x,(enc x).length=ps.length)(O:∀args w,(callFunc f args).run P w=.ok (.enter f args) w)
  (J:Nat.ble h0 H.length=true)(hg:opA env n=.fn (.func f) [] g)(hargs:g=Qaa (rho π H.length) a)(hH:π.map (λp=>H[p]?)=(Hc.map (QT (rho π H.length))).map some)(hπ:π.Nodup)(u:(ps.all λp=>Nat.blt p N)=true)
  (k:Le H.length env (Qea H π) env (Hp s0))
  (j:∀s x d,step s x=some d->(∀b,d=.done b->D=.done b)->TC P H.length N assign (Qmb ps (enc x) env) (Hp s) λe env1 H1=>e=.normal/\TC P H.length N body env1 H1 (QnC H.length env Q d Hp))
  (i:∀s,D=.cont s->Q .normal env (Hp s)):TC P h0 N (.rangeFunc n ps.toArray assign body) env H Q:=by
 refine TC.rangeFunc π Hp (λs l=>Qcm step l s=some D) s0 (XS J) hg hargs hH hπ u O m r k h ?_ ?_
 .rintro s l x rem t rfl;obtain⟨d,M,t⟩:=bnd t;refine(j s x d M ?_).mono ?_
  .rintro b rfl;exact(Oi t).symm
  .rintro e env1 H1 ⟨R,L⟩;refine⟨R,L.mono ?_⟩;intro G E H2 q;cases G with
   |normal=>
    obtain⟨z,rfl,k⟩:=q;exact⟨Hp z,k,z,t,rfl⟩
   |exit id=>
    obtain⟨_,H3,y,q⟩:=q;exact⟨H3,y,q⟩
   |ret=>
    obtain⟨_,H3,y,q⟩:=q;exact⟨H3,y,q⟩
 .intro s F;exact i s (Oi F).symm
section
variable {T:Type} {X:Ctx T} {P:Program} {h0 N:Nat} {c:Code} {env:Env} {H:Qc} {st:YSt T} {Q:YA T}
def QfV{S B:Type}(h0:Nat)(E:S->Env)(Hp:S->Qc)(d:Ctl S B)(rest:List T)(Q:YA T):YA T
 |.normal,env,H,st=>∃s,d=.cont s/\Le h0 env H (E s) (Hp s)/\st=.on rest
 |.exit id,env,H,st=>Q (.exit id) env H st
 |.ret,env,H,st=>Q .ret env H st
theorem QlI{S B:Type}{step:S->Option (List T×Ctl S B)}{E:S->Env}{Hp:S->Qc}{m:Nat}{s0:S}{k rem:List T}{b:B}(h:Qcr step m s0=some (k,b))(y:Le h0 env H (E s0) (Hp s0))
  (body:∀s zs d rest,step s=some (zs,d)->(∀b',d=.done b'->b'=b/\rest=rem)->TCy X P h0 N c (E s) (Hp s) (.on (zs++rest)) (QfV h0 E Hp d rest Q)):TCy X P h0 N (.loop c) env H (.on (k++rem)) Q:=by
 refine QgO (I:=λn env H r=>∃s a,Qcr step n s=some (a,b)/\r=.on (a++rem)/\Le h0 env H (E s) (Hp s)) ?_ ⟨s0,k,h,rfl,y⟩;rintro n env H r ⟨s,a,f,rfl,j⟩;cases n with
 |zero=>cases f
 |succ n=>
  obtain⟨⟨zs,d⟩,p,f⟩:=bnd f;refine TCy.le j ?_;cases d with
  |cont u=>
   obtain⟨⟨z,F⟩,t,f⟩:=bnd f;cases f;rw[Vj];refine(body s zs (.cont u) (z++rem) p (λb' e=>by cases e)).mono ?_;rintro x g H' l q;cases x with
   |normal=>
    obtain⟨w,e,i,rfl⟩:=q;cases e;exact⟨n,Xo n,_,_,t,rfl,i⟩
   |exit id=>exact q
   |ret=>exact q
  |done b'=>
   cases f;refine(body s _ (.done b) rem p (λb' e=>by cases e;exact⟨rfl,rfl⟩)).mono ?_;rintro x g H' l q;cases x with
   |normal=>obtain⟨w,e,_⟩:=q;cases e
   |exit id=>exact q
   |ret=>exact q
def kqY(X:Ctx T)(P:Program)(h0 N:Nat):List Kf->YA T->YA T
 |[],Q=>Q
 |.seq c::k,Q=>SeqY X P h0 N c (kqY X P h0 N k Q)
 |.blo id::k,Q=>BloY id (kqY X P h0 N k Q)
 |.unr c::k,Q=>λ_ _ _ _=>False
@[reducible] def HdY(X:Ctx T)(P:Program)(h0 N:Nat):Cf->List Kf->Env->Qc->YSt T->YA T->Prop
 |.code c,k,env,H,st,Q=>TCy X P h0 N c env H st (kqY X P h0 N k Q)
 |.ops all l,k,env,H,st,Q=>WOy X P h0 N all l env H st (kqY X P h0 N k Q)
 |.out x,k,env,H,st,Q=>kqY X P h0 N k Q x env H st
def Qo0:Cf->List Kf->Bool
 |.code (.loop _),_=>false
 |.out _,.unr _::_=>false
 |_,_=>true
theorem Qmd{Tx:TyX}(f:Qbr P Tx){c b:Cf}{k d:List Kf}{env env':Env}{H H':Qc}(h:Qf6 Tx h0 N c k env H=some (b,d,env',H'))(a:Qo0 c k=true)(g:HdY X P h0 N b d env' H' st Q):HdY X P h0 N c k env H st Q:=by
 unfold Qf6 at h;split at h
 .cases h;exact TCy.seq g
 .cases h;exact TCy.block g
 .cases a
 .cases h;exact TCy.skip g
 .cases h;exact TCy.ret g
 .cases h;exact TCy.exit g
 .cases h;exact TCy.region g
 .split at h
  .rename_i q;cases h;exact TCy.cond (Qw q) (λ_=>g) (λe=>by cases e)
  .rename_i q;cases h;exact TCy.cond (Qw q) (λe=>by cases e) (λ_=>g)
  .cases h
 .cases h;exact WOy.nil g
 .split at h
  .rename_i q;cases h;exact WOy.step (Qjk f q (WO.nil ⟨rfl,g⟩))
  .cases h
 .cases h;exact g
 .cases h;exact g
 .cases h;exact g
 .cases h;exact g
 .split at h
  .rename_i q;cases h;have e:=XR q;subst e;show(bif Nat.beq _ _ then _ else _);rw[VG];exact g
  .rename_i q;cases h;show(bif Nat.beq _ _ then _ else _);rw[q];exact g
 .cases h;exact g
 .cases a
 .cases a
 .cases a
 .cases h
def Qju(Tx:TyX)(h0 N:Nat):Nat->Cf->List Kf->Env->Qc->Option (Cf×List Kf×Env×Qc)
 |0,c,k,env,H=>some (c,k,env,H)
 |n+1,c,k,env,H=>match Qo0 c k with
  |true=>(match Qf6 Tx h0 N c k env H with
   |some (c',k',env',H')=>Qju Tx h0 N n c' k' env' H'
   |none=>none)
  |false=>none
theorem QcT{Tx:TyX}(hT:Qbr P Tx):∀(n:Nat) {c c':Cf} {k k':List Kf} {env env':Env} {H H':Qc},Qju Tx h0 N n c k env H=some (c',k',env',H')->HdY X P h0 N c' k' env' H' st Q->HdY X P h0 N c k env H st Q
 |0,c,c',k,k',env,env',H,H',h,g=>by cases h;exact g
 |n+1,c,c',k,k',env,env',H,H',h,g=>by
  unfold Qju at h;split at h
  .rename_i hn;split at h
   .rename_i e;exact Qmd hT e hn (QcT hT n h g)
   .cases h
  .cases h
theorem TCy.lf{k:List Kf}(h:TC P h0 N c env H (λx env H=>kqY X P h0 N k Q x env H st)):TCy X P h0 N c env H st (kqY X P h0 N k Q):=TCy.lift h
theorem Qns{all:Array Oper}{o:Oper}{r:List Oper}{d:Nat}{x:T}{l:List T}{e:T->A}{y z:Operand}{m:Array TypeId}(hE:X.enc=λx=>[e x])(h:X.nx=nxL)(i:o.op=.call {callee:=.value y,args:= #[z],argTypes:=m})(j:opA env y=.fn (.yield X.l) [] [])(f:opA env z=e x)(g:Yk (e x)=true)
  (k:WOy X P h0 N all r (up env d (.bool true)) H (.on l) Q)(a:WOy X P h0 N all r (up env d (.bool false)) H (.off l) Q)(hg:Qo all o env true:=by exact rfl)(hd:o.dst=some d:=by exact rfl)(hNd:Nat.blt d N=true:=by exact rfl):WOy X P h0 N all (o::r) env H (.on (x::l)) Q:=by
 refine WOy.yield (x:=x) (rem:=l) (by rw[h];rfl) hg hd hNd ?_ ?_
 .rw[hE];exact QhS i j f g
 .intro b;cases b with
  |true=>exact k
  |false=>exact a
theorem WOy.y2{all:Array Oper}{o:Oper}{r:List Oper}{d:Nat}{x:T}{l:List T}{i f:T->A}{y j k:Operand}{t:Array TypeId}(hE:X.enc=λx=>[i x,f x])(n:X.nx=nxL)(p:o.op=.call {callee:=.value y,args:= #[j,k],argTypes:=t})(q:opA env y=.fn (.yield X.l) [] [])(a:opA env j=i x)(e:opA env k=f x)(h:Yk (i x)=true)(g:Yk (f x)=true)
  (s:WOy X P h0 N all r (up env d (.bool true)) H (.on l) Q)(m:WOy X P h0 N all r (up env d (.bool false)) H (.off l) Q)(hg:Qo all o env true:=by exact rfl)(hd:o.dst=some d:=by exact rfl)(hNd:Nat.blt d N=true:=by exact rfl):WOy X P h0 N all (o::r) env H (.on (x::l)) Q:=by
 refine WOy.yield (x:=x) (rem:=l) (by rw[n];rfl) hg hd hNd ?_ ?_
 .rw[hE];exact Qk5 p q a e h g
 .intro b;cases b with
  |true=>exact s
  |false=>exact m
end
end Go.Sw
namespace Go.Sw
def yl{T R:Type}(x:T)(k:Option (List T×R)):Option (List T×R):=k.bind λp=>some (x::p.1,p.2)
def ap{T B R:Type}(a:Option (List T×B))(k:B->Option (List T×R)):Option (List T×R):=a.bind λp=>(k p.2).bind λq=>some (p.1++q.1,q.2)
theorem QoN{T R:Type}{x:T}{k:Option (List T×R)}{a:List T}{v:R}(h:yl x k=some (a,v)):∃zs,k=some (zs,v)/\a=x::zs:=by
 obtain⟨⟨zs,e⟩,d,b⟩:=bnd h;cases b;exact⟨zs,d,rfl⟩
theorem ap_ok{T B R:Type}{a:Option (List T×B)}{k:B->Option (List T×R)}{d:List T}{v:R}(h:ap a k=some (d,v)):∃y1 b y2,a=some (y1,b)/\k b=some (y2,v)/\d=y1++y2:=by
 obtain⟨⟨y1,b⟩,g,f⟩:=bnd h;obtain⟨⟨y2,j⟩,i,e⟩:=bnd f;cases e;exact⟨y1,b,y2,g,i,rfl⟩
section
variable {T:Type} {X:Ctx T} {P:Program} {h0 N:Nat} {c c':Code} {env:Env} {H:Qc} {st:YSt T} {Q:YA T}
def Qn0{β:Type}(h0:Nat)(b:β)(E':β->Env)(H':β->Qc)(rem:List T)(Q:YA T):YA T
 |.normal,env,H,st=>Le h0 env H (E' b) (H' b)/\st=.on rem
 |.exit id,env,H,st=>Q (.exit id) env H st
 |.ret,env,H,st=>Q .ret env H st
theorem Qnx{β:Type}{E':β->Env}{H':β->Qc}(b:β)(rem:List T)(sel keep:List Nat)(nE:β->Env)(nH:β->List (Nat×Blk))(_:∀b,Qnk sel keep (nE b) (nH b) env H=some (E' b,H' b))(h:TCy X P h0 N c env H st (Qn0 h0 b E' H' rem Q))(k:∀env H,Le h0 env H (E' b) (H' b)->Q .normal env H (.on rem)):TCy X P h0 N c env H st Q:=
 h.mono λx env' H' st' q=>by
  cases x with
  |normal=>obtain⟨q1,rfl⟩:=q;exact k _ _ q1
  |exit id=>exact q
  |ret=>exact q
theorem cutYN{β:Type}{b:β}{E':β->Env}{H':β->Qc}{rem:List T}(h:Le h0 env H (E' b) (H' b)):Qn0 h0 b E' H' rem Q .normal env H (.on rem):=⟨h,rfl⟩
theorem cutYR{β:Type}{b:β}{E':β->Env}{H':β->Qc}{rem:List T}(h:Q .ret env H st):Qn0 h0 b E' H' rem Q .ret env H st:=h
theorem Qp3{S B:Type}{step:S->Option (List T×Ctl S B)}{E':S->Env}{H':S->Qc}{m:Nat}{s0:S}{ys rem:List T}{b:B}(sel keep:List Nat)(nE:S->Env)(nH:S->List (Nat×Blk))(h:Qcr step m s0=some (ys,b))(_:∀s,Qnk sel keep (nE s) (nH s) env H=some (E' s,H' s))(hI:Le h0 env H (E' s0) (H' s0))
  (body:∀s zs d rest,step s=some (zs,d)->(∀b',d=.done b'->b'=b/\rest=rem)->TCy X P h0 N c (E' s) (H' s) (.on (zs++rest)) (QfV h0 E' H' d rest Q)):TCy X P h0 N (.loop c) env H (.on (ys++rem)) Q:=QlI h hI body
theorem Qhf{S B:Type}{E':S->Env}{H':S->Qc}{s:S}{d:Ctl S B}{zs rest:List T}(e:some (([]:List T),Ctl.cont s)=some (zs,d))(h:Le h0 env H (E' s) (H' s)):QfV h0 E' H' d rest Q .normal env H (.on (zs++rest)):=by
 cases e;exact⟨s,rfl,h,rfl⟩
theorem QpG{S B:Type}{id:Nat}{E':S->Env}{H':S->Qc}{d:Ctl S B}{rest:List T}(h:Q (.exit id) env H st):QfV h0 E' H' d rest Q (.exit id) env H st:=h
theorem QpH{S B:Type}{E':S->Env}{H':S->Qc}{d:Ctl S B}{rest:List T}(h:Q .ret env H st):QfV h0 E' H' d rest Q .ret env H st:=h
theorem Oy{S B:Type}{d:Ctl S B}{x b:B}{zs rest rem:List T}(e:∀b',d=.done b'->b'=b/\rest=rem)(h:some (([]:List T),Ctl.done x)=some (zs,d)):zs=[]/\b=x/\rest=rem:=by
 cases h;obtain⟨f,a⟩:=e x rfl;exact⟨rfl,f.symm,a⟩
theorem Cny{α:Type}{x:Operand}{t:Bool}{p q:Option α}{r:α}(hx:opB env x=.mk (.bool t))(h:(bif t then p else q)=some r)(ht:t=true->p=some r->TCy X P h0 N c env H st Q)(hf:t=false->q=some r->TCy X P h0 N c' env H st Q):TCy X P h0 N (.cond x c c') env H st Q:=
 TCy.cond (Qw hx) (λe=>ht e (ifT e h)) (λe=>hf e (ifF e h))
theorem QiZ{f:FuncId}{fn:Func}{c:Code}{N:Nat}{a:List A}{H:Qc}{enc:T->List A}{xs:List T}(g:P.funcs[f]?=some fn)(e:fn.body=some c)(d:fn.ntmps=N)(b:Nat.ble (a.length+1) N=true)(i:fn.results= #[])
  (h:∀X:Ctx T,X.enc=enc->X.nx=nxL->TCy X P H.length N c (QgD 0 (.fn (.yield X.l) [] []::a)) H (.on (xs++[])) EndY):Qi0 P f a H enc nxL xs:=by
 rw[Vh]at h;exact Qdg g e d b i h
end
end Go.Sw
namespace Go.Sw
open Go.MapKept
section
variable {fr ro:Nat->Prop} {σ:Sig} {H:Qc} {w:World}
end
end Go.Sw
namespace Go.Sw
open Go.MapKept
def QbK{α β:Type}(ek:α->A)(ev:β->List A)(l:List (α×Option (List β))):List (A×Option (List (List A))):=l.map λp=>(ek p.1,p.2.map (List.map ev))
def Qky{α β:Type}[DecidableEq α](l:List (α×Option (List β)))(x:α):List (α×Option (List β)):=l.map λp=>bif decide (p.1=x)then(p.1,none)else p
section
variable {P:Program} {kt:TypeId} {α β:Type} [DecidableEq α] {ek:α->A} {ev:β->List A} {ro:Nat->Prop} {w:World} {t k:Nat} (K:Y7 P kt ek)
include K
theorem QkY{x:α}:∀{l:List (α×Option (List β))} {es:List MapEntry},MO ro w t k (QbK ek ev l) es->MO ro w t k (QbK ek ev (Qky l x)) es
 |[],es,h=>h
 |p::l,es,h=>by
  obtain⟨e,l',rfl,h1,h2,h3⟩:=h;by_cases q:p.1=x
  .refine⟨e,l',rfl,by simpa[q]using h1,λrows hr=>?_,QkY (l:=l) h3⟩;simp[q]at hr
  .refine⟨e,l',rfl,by simpa[q]using h1,λrows hr=>h2 rows (by simpa[q]using hr),QkY (l:=l) h3⟩
omit K
theorem QdW{x:α}{c:Nat}:∀{l:List (α×Option (List β))} {es:List MapEntry},Qev (QbK ek ev (Qky l x)) es c->Qev (QbK ek ev l) es c
 |[],es,h=>by cases es<;>exact h.elim
 |p::l,[],h=>h.elim
 |p::l,e::es,h=>by
  rcases h with⟨h1,h2⟩|h
  .by_cases q:p.1=x
   .simp[q]at h1
   .exact .inl ⟨by simpa[q]using h1,h2⟩
  .exact .inr (QdW (l:=l) h)
theorem Ql2{x:α}:∀{l:List (α×Option (List β))} {es:List MapEntry},Qke (QbK ek ev l) es->Qke (QbK ek ev (Qky l x)) es
 |[],es,h=>by cases es<;>trivial
 |p::l,[],h=>trivial
 |p::l,e::es,h=>by
  obtain⟨h1,h2⟩:=h;refine⟨λc q1 q2 q3=>?_,Ql2 (l:=l) h2⟩;by_cases q:p.1=x
  .simp[q]at q1
  .exact h1 c (by simpa[q]using q1) q2 (QdW (l:=l) q3)
include K
theorem MO.find:∀{l:List (α×Option (List β))} {es:List MapEntry},MO ro w t k (QbK ek ev l) es->∀(x:α),(es.map (·.key)).Nodup->
  ((∀e:MapEntry,e∈es->e.key≠Qz (ek x))->Yn l x=none)/\
  (∀(j:Nat) (e:MapEntry),es[j]?=some e->e.key=Qz (ek x)->∃q,Yn l x=some q/\(∀rows,q=some rows->SO ro w t k (rows.map ev) e.val)/\
   ∀c p n cap,q.isSome=true->e.val=.slice (some ⟨c,p,none⟩) n cap->Qev (QbK ek ev l) es c/\(Qke (QbK ek ev l) es->¬Qev (QbK ek ev (Qky l x)) es c))
 |[],es,h,x,_=>by
  cases(show es=[]from h);exact⟨λ_=>rfl,λj e he=>by simp at he⟩
 |p::l,es,h,x,hn=>by
  obtain⟨e0,l',rfl,h1,h2,h3⟩:=h;have hk:e0.key=Qz (ek p.1):=VR.val (K.scl _) h1;simp only[Vk,List.nodup_cons]at hn;obtain⟨a1,a2⟩:=MO.find (l:=l) h3 x hn.2;by_cases hp:p.1=x
  .subst hp;constructor
   .intro q;exact absurd hk (q e0 (by simp))
   .intro j e he hx;cases j with
    |zero=>
     simp only[XF,Option.some.injEq]at he;subst he;refine⟨p.2,by simp[Yn],λrows hr=>h2 (rows.map ev) (by simp[hr]),λc p' n cap hs hv=>⟨.inl ⟨by simpa using hs,p',n,cap,hv⟩,λhd hq=>?_⟩⟩;rcases hq with⟨q1,_⟩|hq
     .simp at q1
     .exact hd.1 c (by simpa using hs) ⟨p',n,cap,hv⟩ (QdW (l:=l) hq)
    |succ j=>
     simp only[XG]at he;exact absurd (hk.trans hx.symm▸VH (f:=λe:MapEntry=>e.key) (VI he)) hn.1
  .have e1:Yn (p::l) x=Yn l x:=by simp[Yn,hp]
   rw[e1];constructor
   .intro q;exact a1 λe he=>q e (by simp[he])
   .intro j e he hx;cases j with
    |zero=>
     simp only[XF,Option.some.injEq]at he;subst he;exact absurd (K.inj _ _ (hk.symm.trans hx)) hp
    |succ j=>
     obtain⟨q,g,i,d⟩:=a2 j e (by simpa using he) hx;refine⟨q,g,i,λc p' n cap hs hv=>?_⟩;obtain⟨a,b⟩:=d c p' n cap hs hv;refine⟨.inr a,λhd hq=>?_⟩;rcases hq with⟨q1,m⟩|hq
     .exact hd.1 c (by simpa[hp]using q1) m a
     .exact b hd.2 hq
end
section
variable {P:Program} {o:Oper} {env:Env} {H:Qc}
variable {T kt et:Nat} {α β:Type} [DecidableEq α] {ek:α->A} {ev:β->List A} {x y:Operand} {i t k:Nat} {l:List (α×Option (List β))} {key:α} {rows:List β}
end
end Go.Sw
namespace Go.Sw
open Go.MapKept
theorem MO.append{ro:Nat->Prop}{w:World}{t k:Nat}:∀{l m:List (A×Option (List (List A)))} {es fs:List MapEntry},MO ro w t k l es->MO ro w t k m fs->MO ro w t k (l++m) (es++fs)
 |[],m,es,fs,h,q=>by cases(show es=[]from h);exact q
 |p::l,m,es,fs,h,q=>by
  obtain⟨e,l',rfl,h1,h2,h3⟩:=h;exact⟨e,l'++fs,rfl,h1,h2,MO.append h3 q⟩
theorem MO.length{ro:Nat->Prop}{w:World}{t k:Nat}:∀{l:List (A×Option (List (List A)))} {es:List MapEntry},MO ro w t k l es->es.length=l.length
 |[],es,h=>by cases(show es=[]from h);rfl
 |p::l,es,h=>by
  obtain⟨e,l',rfl,h1,h2,h3⟩:=h;simp[MO.length h3]
def SlB(v:Value)(c:Nat):Prop:=∃p n cap,v=.slice (some ⟨c,p,none⟩) n cap
section
variable {P:Program} {kt:TypeId} {α β:Type} [DecidableEq α] {ek:α->A} {ev:β->List A} {ro:Nat->Prop} {w:World} {t k:Nat} (K:Y7 P kt ek)
def Qdy{α β:Type}[DecidableEq α](l:List (α×Option (List β)))(x:α)(rows:List β):List (α×Option (List β)):=l.map λp=>bif decide (p.1=x)then(p.1,some rows)else p
include K
theorem Qgh{x:α}{rows:List β}:∀{l:List (α×Option (List β))} {es:List MapEntry},MO ro w t k (QbK ek ev l) es->(∀e∈es,e.key≠Qz (ek x))->Qdy l x rows=l
 |[],es,h,q=>rfl
 |p::l,es,h,q=>by
  obtain⟨e,l',rfl,h1,h2,h3⟩:=h;have hk:e.key=Qz (ek p.1):=VR.val (K.scl _) h1;have hp:p.1≠x:=λz=>q e (by simp) (by rw[hk,z]);have:=Qgh (l:=l) h3 (λe he=>q e (by simp[he])) (rows:=rows);simp only[Qdy,Vk,decide_false,hp,Vr];rw[show(l.map λp=>bif decide (p.1=x)then(p.1,some rows)else p)=l from this]
theorem MO.put{x:α}{rows:List β}{v:Value}(m:SO ro w t k (rows.map ev) v):∀{l:List (α×Option (List β))} {es:List MapEntry} {j:Nat} {e:MapEntry},MO ro w t k (QbK ek ev l) es->
  (es.map (·.key)).Nodup->es[j]?=some e->e.key=Qz (ek x)->
  MO ro w t k (QbK ek ev (Qdy l x rows)) (es.modify j λe=>{e with key:=Qz (ek x),val:=v})/\
  (∀c,Qev (QbK ek ev (Qdy l x rows)) (es.modify j λe=>{e with key:=Qz (ek x),val:=v}) c->Qev (QbK ek ev l) es c\/SlB v c)/\
  (Qke (QbK ek ev l) es->(∀c,Qev (QbK ek ev l) es c->¬SlB v c)->Qke (QbK ek ev (Qdy l x rows)) (es.modify j λe=>{e with key:=Qz (ek x),val:=v}))
 |[],es,j,e,h,hn,he,hk=>by cases(show es=[]from h);simp at he
 |p::l,es,j,e,h,hn,he,hk=>by
  obtain⟨e0,l',rfl,h1,h2,h3⟩:=h;have hk0:e0.key=Qz (ek p.1):=VR.val (K.scl _) h1;simp only[Vk,List.nodup_cons]at hn;cases j with
  |zero=>
   simp only[XF,Option.some.injEq]at he;subst he;have hp:p.1=x:=K.inj _ _ (hk0.symm.trans hk);simp only[List.modify_zero_cons];have e0':Qdy l x rows=l:=Qgh K h3 λe he z=>hn.1 (by rw[hk, <- z];exact VH he);have e1:Qdy (p::l) x rows=(p.1,some rows)::l:=by
    have:Qdy (p::l) x rows=(p.1,some rows)::Qdy l x rows:=by simp[Qdy,hp]
    rw[this,e0']
   rw[e1];refine⟨⟨_,l',rfl,?_,?_,h3⟩,?_,?_⟩
   .show VR ro [] w (ek p.1) (Qz (ek x));rw[<- hp];exact Qb1 (K.scl _)
   .intro d y;cases y;exact m
   .rintro c (⟨_,q⟩|q)
    .exact .inr q
    .exact .inl (.inr q)
   .rintro⟨g,b⟩ a;exact⟨λc _ q z=>a c (.inr z) q,b⟩
  |succ j=>
   simp only[XG]at he;have hp:p.1≠x:=by
    intro q;refine hn.1 (Xf.2 ⟨e,VI he,?_⟩);rw[hk,hk0,q]
   simp only[List.modify_succ_cons];obtain⟨u,f,s⟩:=MO.put m h3 hn.2 he hk;have e1:Qdy (p::l) x rows=p::Qdy l x rows:=by simp[Qdy,hp]
   rw[e1];refine⟨⟨_,_,rfl,h1,h2,u⟩,?_,?_⟩
   .rintro c (q|q)
    .exact .inl (.inl q)
    .exact(f c q).imp .inr id
   .rintro⟨g,b⟩ a;refine⟨λc i n z=>?_,s b λc r=>a c (.inr r)⟩;rcases f c z with z|z
    .exact g c i n z
    .exact a c (.inl ⟨i,n⟩) z
end
section
variable {P:Program} {o:Oper} {env:Env} {H:Qc}
variable {T kt et:Nat} {α β:Type} [DecidableEq α] {ek:α->A} {ev:β->List A} {x y zz:Operand} {i j t k n:Nat} {l m:List (α×Option (List β))} {key:α} {rows:List β}
end
end Go.Sw
namespace Go.Sw
open Go.MapKept
section
variable {fr ro:Nat->Prop} {σ:Sig} {H:Qc} {w:World}
end
section
variable {P:Program} {o:Oper} {env:Env} {H:Qc} {T kt et i t k:Nat} {x:Operand} {es:List (A×Option (List (List A)))}
end
section
variable {P:Program} {o:Oper} {env:Env} {H:Qc}
variable {T kt et:Nat} {α β:Type} [DecidableEq α] {ek:α->A} {ev:β->List A} {x y zz:Operand} {i j t k n:Nat} {l m:List (α×Option (List β))} {key:α} {rows:List β}
end
end Go.Sw
namespace Go.Sw
open Go.MapKept
section
variable {P:Program} {o:Oper} {env:Env} {H:Qc}
variable {T kt et:Nat} {α β:Type} [DecidableEq α] {ek:α->A} {ev:β->List A} {x y zz:Operand} {i j t k n:Nat} {l m:List (α×Option (List β))} {key:α} {rows:List β}
end
end Go.Sw
namespace Go.Sw
theorem QnM{h0 d:Nat}{x y:A}{e:Env}{H:Qc}:Le h0 ((d,x)::(d,y)::e) H ((d,x)::e) H:=Le.env λs=>.inr (by
 simp only[lk];cases Nat.beq s d<;>rfl)
abbrev Kat:=List (Nat×Nat×Nat)
def Qma:Nat->Nat->List (Nat×Nat)
 |lo,0=>[(lo,lo)]
 |lo,n+1=>(lo,lo)::Qma (lo+1) n
def rgK(p:Nat×Nat×Nat):List (Nat×Nat):=bif Nat.beq p.1 1 then[(p.2.1,p.2.1+1)]else Qma p.2.1 (p.2.2-p.2.1)
def plK(cat:Kat):List (List (Nat×Nat)):=cat.map rgK
def rqK(bs:List Nat)(cat:Kat):List (List Nat):=cat.map λp=>bs.take p.2.1
def hsK(cat:Kat):List Bool:=cat.map λp=>Nat.beq p.1 1
def msK(bs:List Nat):List (List Nat):=(List.range (bs.length+1)).map bs.take
theorem Qg1:∀(n lo:Nat),∀p∈Qma lo n,p.1=p.2
 |0,lo,p,h=>by cases h with|head=>rfl|tail _ h=>cases h
 |n+1,lo,p,h=>by
  rcases X7.1 h with rfl|h
  .rfl
  .exact Qg1 n _ p h
section
variable {P:Program} {T:TyX} {h0 N m:Nat} {bs:List Nat} {cat:Kat} {l:List Oper} {ds:List Nat} {env:Env} {H:Qc} {Hs:List Qc} {Q:Qu} {K:List Oper->Env->Qc->Prop}
def DobK(P:Program)(N:Nat)(cat:Kat)(l:List Oper)(ds:List Nat)(env:Env)(n:Nat)(Hs:List Qc)(zs:List A)(j:Nat):Prop:=
 ∀p∈(plK cat).getD j [],Jz P N l ds zs env n n j (Hs.getD p.1 []) (Hs.getD p.2 [])
def DK(P:Program)(N m:Nat)(bs:List Nat)(cat:Kat)(l:List Oper)(ds:List Nat)(env:Env)(n:Nat)(K:List Oper->Env->Qc->Prop)(Hs:List Qc)(X:Qc)(r:List Oper)(xs:List A):Prop:=
 r=l.drop xs.length->∃ys Zs Y,xs.length+ys.length=m/\Hs.length+Zs.length=bs.length/\((∀Z∈Zs,n<=Z.length)/\(Hs.reverse++X::Zs).getD bs.length []=Y)/\(∀j,xs.length<=j->j<m->DobK P N cat l ds env n (Hs.reverse++X::Zs) (xs++ys) j)/\K (l.drop m) (Qay ds (xs++ys) env) Y
theorem Qp5{f:List A}{n:Nat}{Zs:List Qc}(b:cat.length=m)(r:∀j,0<=j->j<m->DobK P N cat l ds env n Zs f j):QhK P N l ds f env n (n+0) 0 ((plK cat).map λq=>q.map λp=>(Zs.getD p.1 [],Zs.getD p.2 [])):=by
 refine QhJ _ 0 λi s a p g=>?_;rw[Xq]at a;cases e:(plK cat)[i]? with
 |none=>rw[e]at a;cases a
 |some q=>
  rw[e]at a;cases a;obtain⟨h,d,rfl⟩:=Xf.1 g;have k:i<m:=by
   have:=(XM.1 e).1;simpa[plK,b]using this
  have:=r i (XV _) k h (by rw[QkH e];exact d);simpa using this
theorem QnX{id:Nat}(m:Nat)(d:List Nat)(cat:Kat)(u:P.follows .mixedOrders=true)(s:Qeg l m N (Qbo m 0 l) (hsK cat) (rqK d cat) (msK d) (plK cat)=true)(g:Nat.beq cat.length m=true)(i:Nat.ble h0 H.length=true)
  (h:DK P N m d cat l (Qbo m 0 l) env H.length (λr e H=>WO P h0 N l.toArray r e H Q) [] H l []):TC P h0 N (.region id l.toArray true) env H Q:=by
 obtain⟨t,Zs,Y,q,n,j,k,p⟩:=h rfl;simp only[List.length_nil,Xw,Vi,List.reverse_nil]at q n j k p;have a:=XR g;have b:(msK d).length=d.length+1:=by simp[msK]
 refine Qb2 m 0 _ _ _ _ _ t (H::Zs) Y u s (by rw[q];exact VG m) (by rw[b];simp[n]) i ?_ (by simp) (by rw[b];exact j.2) (Qp5 a k) (by simp[plK,a]) p;rw[Xt];intro Z f;rcases X7.1 f with rfl|f
 .exact XT (XU _)
 .exact XT (j.1 Z f)
variable {n:Nat} {X X1:Qc} {xs:List A} {o:Oper} {r:List Oper} {x:A} {d:Nat}
theorem DK.done(b:Nat.beq xs.length m=true)(d:Nat.beq Hs.length bs.length=true)(h:K r (Qay ds xs env) X):DK P N m bs cat l ds env n K Hs X r xs:=by
 intro f;have e:=XR b;have a:=XR d;subst f;refine⟨[],[],X,by simpa using e,by simpa using a,⟨(λZ hZ=>by cases hZ),?_⟩,λj i g=>by omega,?_⟩
 .rw[<- a,VM,XO (by simp)];simp
 .rw[<- e,Vh];exact h
theorem DK.add(g:∀ys Zs,l[xs.length]?=some o->DobK P N cat l ds env n (Hs.reverse++X::Zs) (xs++x::ys) xs.length)(k:DK P N m bs cat l ds env n K Hs X r (xs++[x])):DK P N m bs cat l ds env n K Hs X (o::r) xs:=by
 intro p;obtain⟨e,a⟩:=Qbp p;obtain⟨ys,Zs,Y,h,f,s,b,d⟩:=k (by simpa using a);simp only[X4,X2,List.length_nil,Vj,VL,Vi]at h b d;refine⟨x::ys,Zs,Y,by simp only[X2];omega,f,s,λj t i=>?_,d⟩;rcases VD xs.length j with q|q
 .exact b j (by omega) i
 .obtain rfl:j=xs.length:=by omega
  exact g ys Zs e
theorem QeG{Zs:List Qc}{zs:List A}{j:Nat}{c:Nat×Nat×Nat}(b:YL cat j=some c)(h:∀p∈rgK c,Jz P N l ds zs env n n j (Zs.getD p.1 []) (Zs.getD p.2 [])):DobK P N cat l ds env n Zs zs j:=by
 intro p a;rw[QaF]at b;unfold plK at a;rw[VM,Xq,b]at a;exact h p a
theorem Qhk{Zs:List Qc}{c:Nat}(a:Nat.beq c Hs.length=true):(Hs.reverse++X::Zs).getD c []=X:=by
 rw[XR a,VM,XO (by simp)];simp
theorem DK.wo{c:Nat}(h:WO P X.length N l.toArray [o] (Q5 (Qf o) 0 ds xs env) X (YZ (up (Q5 (Qf o) 0 ds xs env) d x) X))(k:DK P N m bs cat l ds env n K Hs X r (xs++[x]))
  (b:YL cat xs.length=some (0,c,c):=by exact rfl)(hd:o.dst=some d:=by exact rfl)(hcH:Nat.beq c Hs.length=true:=by exact rfl):DK P N m bs cat l ds env n K Hs X (o::r) xs:=
 .add (λys Zs ho=>QeG b λp a=>by
  have:p=(c,c):=by
   change p∈Qma c (c-c)at a;rw[Nat.sub_self]at a;exact VC.1 a
  subst this;rw[Qhk hcH];exact QaE ho Y2 h hd) k
theorem DK.wa{lo hi:Nat}(h:∀X,WO P X.length N l.toArray [o] (Q5 (Qf o) 0 ds xs env) X (YZ (up (Q5 (Qf o) 0 ds xs env) d x) X))(k:DK P N m bs cat l ds env n K Hs X r (xs++[x]))
  (b:YL cat xs.length=some (0,lo,hi):=by exact rfl)(hd:o.dst=some d:=by exact rfl):DK P N m bs cat l ds env n K Hs X (o::r) xs:=
 .add (λys Zs ho=>QeG b λp a=>by
  have e:p.1=p.2:=Qg1 _ _ p a;rw[<- e];exact QaE ho Y2 (h _) hd) k
theorem DK.op{c t:Nat}(h:WO P X.length N l.toArray [o] (Q5 (Qf o) 0 ds xs env) X (YZ (up (Q5 (Qf o) 0 ds xs env) d x) X1))(k:DK P N m bs cat l ds env n K (X::Hs) X1 r (xs++[x]))(hl:Nat.ble n X1.length=true:=by exact rfl)
  (hc:YL cat xs.length=some (1,c,t):=by exact rfl)(hd:o.dst=some d:=by exact rfl)(hcH:Nat.beq c Hs.length=true:=by exact rfl):DK P N m bs cat l ds env n K Hs X (o::r) xs:=by
 intro F;obtain⟨s,b⟩:=Qbp F;obtain⟨B,Zs,Y,E,w,e,f,g⟩:=k (by simpa using b);simp only[X4,X2,List.length_nil,Vj,VL,Vi,List.reverse_cons]at E w e f g;refine⟨x::B,X1::Zs,Y,by simp only[X2];omega,by simp only[X2];omega,⟨λZ a=>?_,e.2⟩,λj G z=>?_,g⟩
 .rcases X7.1 a with rfl|a
  .exact XS hl
  .exact e.1 Z a
 .rcases VD xs.length j with q|q
  .exact f j (by omega) z
  .obtain rfl:j=xs.length:=by omega
   refine QeG hc λp u=>?_;have:p=(c,c+1):=VC.1 u;subst this;have y:(Hs.reverse++X::X1::Zs).getD c []=X:=Qhk hcH;have i:(Hs.reverse++X::X1::Zs).getD (c+1) []=X1:=by
    have:=Qhk (X:=X1) (Zs:=Zs) (Hs:=X::Hs) (c:=c+1) (by rw[XR hcH];exact VG _);simpa using this
   simp only;rw[y,i];exact QaE s Y2 h hd
def QeV(T:TyX)(N m:Nat)(cat:Kat)(l:List Oper)(ds:List Nat)(env:Env)(n:Nat):Nat->Nat->Nat->List Qc->Qc->List Oper->List A->Option (List Qc×List Oper×List A)
 |0,_,_,Hs,X,r,xs=>some (Hs,r,xs)
 |_+1,_,_,_,_,[],_=>none
 |k+1,i,j,Hs,X,o::r,xs=>match o.dst with
  |none=>none
  |some d=>match Nat.blt d N with
   |false=>none
   |true=>match YQ ⟨l⟩ o (Q5 (Qf o) 0 ds xs env)with
    |none=>none
    |some false=>(match QcK xs (.tup [])with
      |.mk xs'=>match YL cat i with
       |some (0,_,_)=>QeV T N m cat l ds env n k (i+1) j Hs X r xs'
       |some (1,c,_)=>(match Nat.beq c j,Nat.ble n X.length with
        |true,true=>QeV T N m cat l ds env n k (i+1) (j+1) (X::Hs) X r xs'
        |_,_=>none)
       |_=>none)
    |some true=>match YL cat i with
     |some (0,lo,hi)=>(match Qdt T o (Q5 (Qf o) 0 ds xs env) []with
      |some x=>(match QcK xs x with
       |.mk xs'=>QeV T N m cat l ds env n k (i+1) j Hs X r xs')
      |none=>match Nat.beq lo hi,Nat.beq lo j with
       |true,true=>(match Qdt T o (Q5 (Qf o) 0 ds xs env) X with
        |none=>none
        |some x=>match QcK xs x with
         |.mk xs'=>QeV T N m cat l ds env n k (i+1) j Hs X r xs')
       |_,_=>none)
     |_=>none
theorem QbQ(hT:Qbr P T):∀(k i j:Nat) {Hs Hs':List Qc} {r r':List Oper} {xs xs':List A},i=xs.length->j=Hs.length->QeV T N m cat l ds env n k i j Hs X r xs=some (Hs',r',xs')->DK P N m bs cat l ds env n K Hs' X r' xs'->DK P N m bs cat l ds env n K Hs X r xs
 |0,i,j,Hs,Hs',r,r',xs,xs',_,_,h,k=>by cases h;exact k
 |k0+1,i,j,Hs,Hs',[],r',xs,xs',_,_,h,k=>by cases h
 |k0+1,i,j,Hs,Hs',o::r,r',xs,xs',hi,hj,h,k=>by
  subst hi hj;unfold QeV at h;split at h
  .cases h
  .rename_i d hd;split at h
   .cases h
   .rename_i q2;split at h
    .cases h
    .rename_i hw;simp only[Y3]at h;split at h
     .rename_i lo hi' q0;exact .wa (λX=>WO.skip (QJ hw) hd q2 (WO.nil YZ.mk)) (QbQ hT k0 _ _ (by simp) rfl h k) q0 hd
     .rename_i c c' q0;split at h
      .rename_i q1 q3;exact .op (WO.skip (QJ hw) hd q2 (WO.nil YZ.mk)) (QbQ hT k0 _ _ (by simp) (by simp) h k) q3 q0 hd q1
      .cases h
     .cases h
    .rename_i hw;split at h
     .rename_i lo hi' q0;split at h
      .rename_i x hv;simp only[Y3]at h;exact .wa (λX=>Qx (QJ hw) hd q2 (QaA hT (QeK hv)) (WO.nil YZ.mk)) (QbQ hT k0 _ _ (by simp) rfl h k) q0 hd
      .split at h
       .rename_i q1 q3;split at h
        .cases h
        .rename_i x hv;simp only[Y3]at h;obtain rfl:=XR q1;exact .wo (Qx (QJ hw) hd q2 (QaA hT hv) (WO.nil YZ.mk)) (QbQ hT k0 _ _ (by simp) rfl h k) q0 hd q3
       .cases h
     .cases h
theorem Qk3{α:Type}{b:Bool}{p q:Option α}{v:α}{i a:List A}(j:Nat)(h:(bif b then p else q)=some v)(d:YL xs j=some (.bool b))(f:Qjr xs j (.bool true)=.mk i)(g:Qjr xs j (.bool false)=.mk a)
  (t:b=true->p=some v->DK P N m bs cat l ds env n K Hs X r i)(e:b=false->q=some v->DK P N m bs cat l ds env n K Hs X r a):DK P N m bs cat l ds env n K Hs X r xs:=by
 cases b with
 |true=>rw[Qbf d]at f;cases f;exact t rfl h
 |false=>rw[Qbf d]at g;cases g;exact e rfl h
theorem DK.v(h:OpV P o (Q5 (Qf o) 0 ds xs env) X x)(k:DK P N m bs cat l ds env n K Hs X r (xs++[x])){c:Nat}(hg:YQ ⟨l⟩ o (Q5 (Qf o) 0 ds xs env)=some true:=by exact rfl)
  (hd:o.dst=some d:=by exact rfl)(hN:Nat.blt d N=true:=by exact rfl)(hc:YL cat xs.length=some (0,c,c):=by exact rfl)(hcH:Nat.beq c Hs.length=true:=by exact rfl):DK P N m bs cat l ds env n K Hs X (o::r) xs:=
 .wo (Qx (QJ hg) hd hN h (WO.nil YZ.mk)) k hc hd hcH
def allV(T:TyX)(o:Oper)(e:Env)(x:A):Nat->List Qc->Prop
 |0,_=>True
 |k+1,Y::r=>Qdt T o e Y=some x/\allV T o e x k r
 |_+1,[]=>False
theorem Qkl:∀(n lo:Nat),∀p∈Qma lo n,lo<=p.1/\p.1<=lo+n
 |0,lo,p,h=>by cases h with|head=>exact⟨XU _,XU _⟩|tail _ h=>cases h
 |n+1,lo,p,h=>by
  rcases X7.1 h with rfl|h
  .exact⟨XU _,Nat.le_add_right _ _⟩
  .have:=Qkl n _ p h;omega
def allW(P:Program)(N:Nat)(l:List Oper)(o:Oper)(e:Env)(d:Nat)(x:A):Nat->List Qc->Prop
 |0,_=>True
 |k+1,Y::r=>WO P Y.length N l.toArray [o] e Y (YZ (up e d x) Y)/\allW P N l o e d x k r
 |_+1,[]=>False
theorem QkV{e:Env}:∀{k:Nat} {r:List Qc},allW P N l o e d x k r->∀j,j<k->WO P (r.getD j []).length N l.toArray [o] e (r.getD j []) (YZ (up e d x) (r.getD j []))
 |0,_,_,j,hj=>absurd hj (Xn _)
 |k+1,[],h,_,_=>h.elim
 |k+1,Y::r,h,0,_=>h.1
 |k+1,Y::r,h,j+1,hj=>by
  have:=QkV h.2 j (by omega);simpa using this
theorem Qjc{lo hi:Nat}(h:allW P N l o (Q5 (Qf o) 0 ds xs env) d x (hi+1-lo) (X::Hs))(k:DK P N m bs cat l ds env n K Hs X r (xs++[x]))
  (j:YL cat xs.length=some (0,lo,hi):=by exact rfl)(hd:o.dst=some d:=by exact rfl)(hcH:Nat.beq hi Hs.length=true:=by exact rfl)(hle:Nat.ble lo hi=true:=by exact rfl):DK P N m bs cat l ds env n K Hs X (o::r) xs:=
 .add (λys Zs ho=>QeG j λp a=>by
  have e:p.1=p.2:=Qg1 _ _ p a;have b:=XS hle;have s:lo<=p.1/\p.1<=lo+(hi-lo):=Qkl (hi-lo) lo p a;have i:=XR hcH;rw[<- e];have g:=QkV h (Hs.length-p.1) (by omega);have f:(Hs.reverse++X::Zs).getD p.1 []=(X::Hs).getD (Hs.length-p.1) []:=by
   rw[VM,VM];congr 1;rcases VD p.1 Hs.length with q|q
   .rw[XN (by simpa using q),List.getElem?_reverse q,show Hs.length-p.1=Hs.length-1-p.1+1 by omega,XG]
   .have:p.1=Hs.length:=by omega
    rw[this,XO (by simp)];simp
  rw[f];exact QaE ho Y2 g hd) k
theorem DK.vs(i:Qbr P T){lo hi:Nat}(h:allV T o (Q5 (Qf o) 0 ds xs env) x (hi+1-lo) (X::Hs))(k:DK P N m bs cat l ds env n K Hs X r (xs++[x]))
  (j:YL cat xs.length=some (0,lo,hi))(e:o.dst=some d)(b:Nat.beq hi Hs.length=true)(hg:YQ ⟨l⟩ o (Q5 (Qf o) 0 ds xs env)=some true)(g:Nat.blt d N=true)(a:Nat.ble lo hi=true):DK P N m bs cat l ds env n K Hs X (o::r) xs:=by
 refine Qjc ?_ k j e b a;generalize hi+1-lo=c at h;generalize X::Hs=L at h
 induction c generalizing L with
 |zero=>trivial
 |succ c f=>
  cases L with
  |nil=>exact h.elim
  |cons Y L=>exact⟨Qx (QJ hg) e g (QaA i h.1) (WO.nil YZ.mk),f L h.2⟩
end
end Go.Sw
namespace Go.Sw
def room(n:Int):Option Nat:=bif decide (0<n)&&decide (n<=4294967296)then some n.toNat else none
section
variable {P:Program} {o:Oper} {env:Env} {H:Qc}
theorem RL.put{ro:Nat->Prop}{σ:Sig}{w:World}{k:Nat}:∀{a:Nat} {es fs:List (List A)} {l m:List Value},RL ro σ w k es l->a+fs.length<=es.length->Sw.allK k fs->LR ro σ w fs.flatten m->(∀v∈m,Qn v)->
  RL ro σ w k (es.take a++fs++es.drop (a+fs.length)) (Sw.splice l (a*k) m)
 |0,es,[],l,m,h,hn,hk,hm,hp=>by
  obtain rfl:m=[]:=hm;simpa[Sw.splice]using h
 |0,[],f::fs,l,m,h,hn,hk,hm,hp=>by simp at hn
 |0,c::es,f::fs,l,m,⟨l1,l2,h1,h2,h3,h4⟩,hn,hk,hm,hp=>by
  subst h1;have hl1:=h3.1.length;have hml:=hm.length;rw[Vm,X4]at hml;have e1:m.take k++m.drop k=m:=Xz _ _;have q1:LR ro σ w f (m.take k):=by have:=hm.take k;rwa [Vm,X8 (by rw[hk.1];exact XU _),VJ (by rw[hk.1];exact XU _)]at this
  have j:LR ro σ w fs.flatten (m.drop k):=by have:=hm.drop k;rwa [Vm,X9 (by rw[hk.1];exact XU _),List.drop_of_length_le (by rw[hk.1];exact XU _),Vi]at this
  have b:=RL.put (a:=0) h4 (by simpa using hn) hk.2 j (λv d=>hp v (List.mem_of_mem_drop d));simp only[List.take_zero,Vi,Xw,Nat.zero_mul,Sw.splice]at b⊢;refine⟨m.take k,m.drop k++l2.drop (m.drop k).length,?_,hk.1,⟨q1,λv d=>hp v (List.mem_of_mem_take d)⟩,by simpa using b⟩;have g:k<=m.length:=by rw[hml,hk.1];exact Nat.le_add_right _ _
  rw[<- Vj,e1];congr 1;rw[List.length_drop,show m.length=l1.length+(m.length-k)from by omega,Vb];have i:l1.length+(m.length-k)-k=m.length-k:=by omega
  rw[i]
 |a+1,[],fs,l,m,h,hn,hk,hm,hp=>by simp at hn
 |a+1,c::es,fs,l,m,⟨l1,l2,h1,h2,h3,h4⟩,hn,hk,hm,hp=>by
  subst h1;have hl1:=h3.1.length;have b:=RL.put (a:=a) h4 (by simp at hn;omega) hk hm hp;refine⟨l1,Sw.splice l2 (a*k) m,?_,h2,h3,?_⟩
  .have e1:(a+1)*k=l1.length+a*k:=by rw[Xm];omega
   unfold Sw.splice;rw[e1,Vc,show l1.length+a*k+m.length=l1.length+(a*k+m.length)from by omega,Vb];simp
  .have e:a+1+fs.length=(a+fs.length)+1:=by omega
   simpa[e]using b
def SrcP(P:Program)(H:Qc)(x:A)(k:Nat)(es:List (List A)):Prop:=
 ∀fr ro σ w v,Sim fr ro σ H w->VR ro σ w x v->(∃a c,v=.slice a es.length c)/\
  ∀j,j<=es.length->allK k (es.take j)/\ ∃l,(Builtin.firstCells k j v).run P w=.ok l.toArray w/\LR ro [] w (es.take j).flatten l/\ ∀v∈l,Qn v
theorem Qjt{fr ro:Nat->Prop}{σ:Sig}{w:World}{k j b off n c:Nat}{es:List (List A)}(h:RR ro [] w b k es off)(f:j<=es.length):
  allK k (es.take j)/\ ∃l,(Builtin.firstCells k j (.slice (some ⟨b,off,none⟩) n c)).run P w=.ok l.toArray w/\LR ro [] w (es.take j).flatten l/\ ∀v∈l,Qn v:=by
 obtain⟨e,i,a⟩:=(h.take j).flat;rw[Xy,XB f]at a;obtain⟨l,d,g⟩:=Qb8 (P:=P) (n:=j) (c:=c) e a;refine⟨i,l,?_,g⟩;exact d w rfl
theorem QeS{k n c:Nat}{a:Option Addr}{w:World}:(Builtin.firstCells k 0 (.slice a n c)).run P w=.ok #[] w:=by
 cases a<;>simp[Builtin.firstCells,loadCells,loadCellsFrom,go_sem]
theorem SrcP.osl{i s n k t:Nat}{es es':List (List A)}(hH:H[i]?=some (.row t k es))(he:(es.drop s).take n=es')(E:s+n<=es.length):SrcP P H (.osl i s n k) k es':=by
 intro fr G σ w v sm h;have d:es'.length=n:=by rw[<- he];simp;omega
 rcases h with⟨rfl,rfl⟩|⟨b,p,a,B,m,r,rfl,q,J,z,F⟩
 .have e:es'=[]:=VK.1 d;subst e;refine⟨⟨none,0,rfl⟩,λj f=>?_⟩;obtain rfl:j=0:=by simpa using f
  exact⟨trivial,[],QeS,rfl,by simp⟩
 .rw[d];refine⟨⟨_,a,rfl⟩,λj f=>?_⟩;obtain⟨l,y,u⟩:=sm.blk i _ _ r hH;have g:=((YJ (pre:=[]) (by simpa using y) u).drop s).take n;rw[he]at g;by_cases x:0<a
  .obtain rfl:=q x;simpa using Qjt (P:=P) (fr:=fr) (σ:=σ) (n:=n) (c:=a) g (by rw[d];exact f)
  .obtain rfl:j=0:=by omega
   exact⟨trivial,[],QeS,rfl,by simp⟩
end
end Go.Sw
namespace Go.Sw
open Go.MapKept
section
variable {fr ro ro':Nat->Prop} {σ:Sig} {H:Qc} {w:World}
end
end Go.Sw
namespace Go.Sw
section
variable {P:Program} {o:Oper} {env:Env} {H:Qc} {α:Type} {e:α->List A}
end
end Go.Sw
namespace Go.Sw
open Go.MapKept
section
variable {P:Program} {o:Oper} {env:Env} {H:Qc}
theorem Qkb{T:Nat}(b:o.op=.makeMap T none:=by exact rfl):OpH P o env H (.map H.length) (H++[.mapP []]):=by
 intro e d σ N a w r;refine⟨.map (some w.heap.size),w.alloc (.map #[] 0),d,[some w.heap.size],?_,⟨w.heap.size,?_,rfl⟩,r.sim.alloc ⟨#[],0,Q7 _ _,rfl,by simp,by simp,by simp⟩,Qe.alloc _ r.sim.roLt r.sim.frLt⟩
 .generalize a.eval=ρ at*;simp only[execOp,b,Instr.makeMap,Xl,Vn];rfl
 .rw[<- r.sim.len];simp
variable {T kt et:Nat} {α β:Type} [DecidableEq α] {ek:α->A} {ev:β->A} {x y:Operand} {i:Nat} {l:List (α×β)} {k:α} {z0:β} {z:Value}
theorem QcM(K:Y7 P kt ek){v:β}(n:Yn l k=some v)(u:P.underlying T=some (.map kt et))
  (O:o.op=.lookup T x y false:=by exact rfl)(hx:opA env x=.map i:=by exact rfl)(hH:H[i]?=some (.mapP (Qm ek ev l)):=by exact rfl)(hy:opA env y=ek k:=by exact rfl):OpV P o env H (ev v):=by
 intro V Y σ N a w r;have p:=Qd r x;rw[hx]at p;obtain⟨b,t,G⟩:=p;have g:=Qd r y;rw[hy]at g;have J:=VR.val (K.scl _) g;obtain⟨B,f,E,m,W,R,F⟩:=r.sim.blk i _ _ t hH;obtain⟨z,L⟩:=ER.find K m k F;rcases K.find w k B.toList (Qbu K m)with⟨h,d⟩|⟨j,e,h,d,s⟩
 .have:=(z d).1;rw[n]at this;cases this
 .obtain⟨Q,X,q,M⟩:=L j e d s;rw[n]at q;obtain rfl:=X0 q;refine⟨e.val,?_,M⟩;simp only[execOp,O,G,J,Instr.lookup,Vn,run_underlying u,Result.andThen,MapKept.run_getObj_map E,Vp,K.check,h];rfl
theorem Qj8(K:Y7 P kt ek)(G:Yn l k=none)(t:P.underlying T=some (.map kt et))(z:∀w,(zeroValue et).run P w=.ok (.pointer none) w)
  (M:o.op=.lookup T x y false:=by exact rfl)(hx:opA env x=.map i:=by exact rfl)(hH:H[i]?=some (.mapP (Qm ek ev l)):=by exact rfl)(hy:opA env y=ek k:=by exact rfl):OpV P o env H .nilp:=by
 intro W ro σ N a w r;have n:=Qd r x;rw[hx]at n;obtain⟨b,s,F⟩:=n;have f:=Qd r y;rw[hy]at f;have J:=VR.val (K.scl _) f;obtain⟨u,d,B,m,X,R,E⟩:=r.sim.blk i _ _ s hH;obtain⟨Q,L⟩:=ER.find K m k E;rcases K.find w k u.toList (Qbu K m)with⟨h,g⟩|⟨j,e,h,g,q⟩
 .refine⟨.pointer none,?_,rfl⟩;simp only[execOp,M,F,J,Instr.lookup,Vn,run_underlying t,Result.andThen,MapKept.run_getObj_map B,Vp,K.check,h,z];rfl
 .obtain⟨O,Y,p,V⟩:=L j e g q;rw[G]at p;cases p
theorem QlW(K:Y7 P kt ek){v:β}{zz:Operand}(Y:Yn l k=none)(V:P.underlying T=some (.map kt et))
  (ho:o.op=.mapUpdate T x y zz:=by exact rfl)(hx:opA env x=.map i:=by exact rfl)(hH:H[i]?=some (.mapP (Qm ek ev l)):=by exact rfl)(m:opA env y=ek k:=by exact rfl)(hv:opA env zz=ev v:=by exact rfl):
  OpU P o env H (H.set i (.mapP (Qm ek ev (l++[(k,v)])))):=by
 intro fr ro σ N a w r;have O:=Qd r x;rw[hx]at O;obtain⟨b,E,X⟩:=O;have B:=Qd r y;rw[m]at B;have h3:=VR.val (K.scl _) B;have G:=Qd r zz;rw[hv]at G;obtain⟨J,f,u,t,M,W,L⟩:=r.sim.blk i _ _ E hH;obtain⟨f1,f2⟩:=ER.find K t k L;have p:∀(obj:Obj) y,w.shape? b=some y->({w with heap:=w.heap.setIfInBounds b obj}:World).shape? b=some y:=by
  intro obj y m;unfold World.shape? at m;rw[u]at m;simp at m
 rcases K.find w k J.toList (Qbu K t)with⟨F,s⟩|⟨j,e,F,s,R⟩
 .have g:=r.sim.set (x':=.mapP (Qm ek ev (l++[(k,v)]))) (obj:=.map (J.push {key:=Qz (ek k),val:=a.eval zz,born:=f}) (f+1)) E hH rfl (p _)
   (λe h=>⟨_,_,h,by
    rw[Qm,Xg,Array.toList_push];exact(t.mono e).append ⟨_,_,rfl,(Qb1 (K.scl _)),G.mono e,rfl⟩,by
    rw[Array.toList_push];intro e h;rcases VE.1 h with q|q
    .exact Nat.lt_succ_of_lt (M e q)
    .simp at q;subst q;exact Xo _,by
    rw[Array.toList_push,Xg];refine List.nodup_append.2 ⟨W,by simp,?_⟩;intro c z d n;simp at n;subst n;obtain⟨e,h,rfl⟩:=Xf.1 z;exact Nat.ne_of_lt (M e h),by
    rw[Array.toList_push,Xg];refine List.nodup_append.2 ⟨L,by simp,?_⟩;intro c z d n;simp at n;subst n;obtain⟨e,h,rfl⟩:=Xf.1 z;exact s e h⟩)
  refine⟨_,ro,[],?_,by simpa using g.1,g.2⟩;simp only[execOp,ho,X,h3,Vn,Instr.mapUpdate,run_underlying V,Result.andThen,MapKept.run_getObj_map u,K.check,F,MapKept.run_setObj_map _ u];rfl
 .obtain⟨u1,v',Q,u3⟩:=f2 j e s R;rw[Y]at Q;cases Q
end
section
variable {fr ro:Nat->Prop} {σ:Sig} {H:Qc} {w:World}
theorem Sim.shutAny(s:Sim fr ro σ H w){i b:Nat}{p:Blk}(hσ:σ[i]?=some (some b))(hH:H[i]?=some p)(hl:p.live=true):
  Sim fr (λc=>ro c\/c=b) σ (H.set i .dead) w:=by
 have f:b<w.heap.size/\ ¬ro b/\ ¬fr b:=s.own i b _ hσ hH hl;have ext:Ext ro σ w (λc=>ro c\/c=b) σ w:=⟨λ_ q=>.inl q,λ_ _=>rfl,λ_ _ q=>q,λ_ _ q=>q⟩;have a:∀(j:Nat) (v:Blk),(H.set i .dead)[j]?=some v->v≠ .dead->j≠i/\H[j]?=some v:=by
  intro j v h m;by_cases e:j=i
  .subst e;rw[Xb]at h;simp only[if_true]at h;split at h
   .cases h;exact absurd rfl m
   .simp at h
  .rw[XQ (λq=>e q.symm)]at h;exact⟨e,h⟩
 refine⟨by rw[X5];exact s.len,s.roOk.to (λ_ q=>.inl q) (λ_ _=>rfl) ?_,s.frLt,?_,?_,?_,?_,s.hidTo (· = ·) QU (XU _) (λj d x c F O z G=>G.elim id λq=>((s.hid j d x c F O z).ne i b _ hσ hH hl q).elim) (λ_ _ _ _ _ _ _ q=>q) λj d y J E B=>.inl ⟨j,y,rfl,J,(a j y E (QeH B)).2,id,λ_ q=>q⟩⟩
 .rintro c (q|rfl)
  .exact s.roLt c q
  .exact f.1
 .rintro c (q|rfl)
  .exact s.roFr c q
  .exact f.2.2
 .intro j c v k g l;obtain⟨e,g⟩:=a j v g (Qax l);obtain⟨N,M,P⟩:=s.own j c v k g l;refine⟨N,?_,P⟩;rintro(q|rfl)
  .exact M q
  .exact e (s.inj j i c v _ k hσ g hH l hl)
 .intro j n c v u k g l L t r;exact s.inj j n c v u k g (a j v l (Qax t)).2 (a n u L (Qax r)).2 t r
 .intro j y v k g;by_cases m:v≠ .dead
  .exact(s.blk j y v k (a j v g m).2).keep ext (λ_ _ _=>rfl) (λ_ _ _ _=>rfl)
  .obtain rfl:v=.dead:=Classical.not_not.1 m;trivial
def QbT(H:Qc):List Nat->Qc
 |[]=>H
 |i::l=>QbT (H.set i .dead) l
theorem Qgl{l:List Nat}:∀{H:Qc} {j:Nat},j∉l->(QbT H l)[j]?=H[j]? :=by
 induction l with
 |nil=>intro H j _;rfl
 |cons i l a=>
  intro H j hj;rw[X7,not_or]at hj;unfold QbT;rw[a hj.2,XQ (λq=>hj.1 q.symm)]
theorem QdS:∀{l:List Nat} {ro:Nat->Prop} {H:Qc} (s:Sim fr ro σ H w),l.Nodup->(∀i∈l,∃x,H[i]?=some x/\x.live=true)->
  ∃ro',Sim fr ro' σ (QbT H l) w/\(∀c,ro c->ro' c)/\ ∀i∈l,∀b,σ[i]?=some (some b)->ro' b
 |[],ro,H,s,_,_=>⟨ro,s,λ_ q=>q,λ_ h=>by cases h⟩
 |i::l,ro,H,s,hn,hl=>by
  rw[List.nodup_cons]at hn;obtain⟨x,hx,hxl⟩:=hl i (by simp);have rest:∀i'∈l,∃x,(H.set i .dead)[i']?=some x/\x.live=true:=by
   intro i' a;obtain⟨y,p,m⟩:=hl i' (X6 _ a);exact⟨y,by rw[XQ (λq=>hn.1 (by rw[q];exact a))];exact p,m⟩
  have n:∃q,σ[i]?=some q:=by
   have:i<σ.length:=by rw[s.len];exact(XM.1 hx).1
   exact⟨_,XL this⟩
  obtain⟨q,f⟩:=n;cases q with
  |some b=>
   obtain⟨ro',k,e,g⟩:=QdS (s.shutAny f hx hxl) hn.2 rest;refine⟨ro',k,λc r=>e c (.inl r),λi' a j d=>?_⟩;rcases X7.1 a with rfl|a
   .rw[f]at d;cases d;exact e _ (.inr rfl)
   .exact g i' a j d
  |none=>
   obtain⟨ro',k,e,g⟩:=QdS (s.kill i) hn.2 rest;refine⟨ro',k,e,λi' a j d=>?_⟩;rcases X7.1 a with rfl|a
   .rw[f]at d;cases d
   .exact g i' a j d
end
end Go.Sw
namespace Go.Sw
structure Fil (α β:Type) where
 number:Int
 r0:List α
 r1:List α
 r2:List α
 reports:List β
 appeal:Bool
 deriving DecidableEq
structure FK (α β:Type) where
 T:Nat
 tF:Nat
 kF:Nat
 tR:Nat
 kR:Nat
 eF:α->List A
 eR:β->List A
section
variable {α β:Type} (K:FK α β)
def Qm0(b:Nat)(x:Fil α β):List A:=[.int .i64 x.number,.osl (b+1) 0 x.r0.length K.kF,.osl (b+2) 0 x.r1.length K.kF,.osl (b+3) 0 x.r2.length K.kF,.osl (b+4) 0 x.reports.length K.kR,.bool x.appeal]
def QkK(b:Nat)(x:Fil α β):List Blk:=[.cells K.T (Qm0 K b x),.row K.tF K.kF (x.r0.map K.eF),.row K.tF K.kF (x.r1.map K.eF),.row K.tF K.kF (x.r2.map K.eF),.row K.tR K.kR (x.reports.map K.eR)]
def fall:Nat->List (Fil α β)->List Blk
 |_,[]=>[]
 |b,x::l=>QkK K b x++fall (b+5) l
def frp(x:Fil α β):List A:=[.int .i64 x.number,.rsl K.kF (x.r0.map K.eF),.rsl K.kF (x.r1.map K.eF),.rsl K.kF (x.r2.map K.eF),.rsl K.kR (x.reports.map K.eR),.bool x.appeal]
def fent:Nat->List (Fil α β)->List (Int×Nat)
 |_,[]=>[]
 |b,x::l=>(x.number,b)::fent (b+5) l
def Qep(j:Nat):A:=.ptr j 0
def rpE(x:Fil α β):A:=.rp (frp K x)
def Qet(fs:List (Fil α β)):List (Int×Fil α β):=fs.map λx=>(x.number,x)
theorem Qgv(b:Nat)(x:Fil α β)(l:List (Fil α β)):fall K b (x::l)=QkK K b x++fall K (b+5) l:=rfl
theorem Qgu(b:Nat)(x:Fil α β):(QkK K b x).length=5:=rfl
end
section
variable {fr ro ro':Nat->Prop} {σ:Sig} {w:World}
theorem Qa5(sub:∀c,ro c->ro' c){i t k:Nat}{es:List (List A)}{v:Value}(r:∀b,σ[i]?=some (some b)->BR ro σ w (.row t k es) (some b)/\ro' b)(h:VR ro σ w (.osl i 0 es.length k) v):VR ro' [] w (.rsl k es) v:=by
 rcases h with⟨g,h⟩|⟨b,p,a,z,m,s,h,j,e,y,B⟩
 .have:es=[]:=VK.1 g;subst this;exact⟨none,0,h,XU _,.inl rfl⟩
 .refine⟨_,a,h,e,?_⟩;by_cases d:es=[]
  .exact .inl d
  .right;have n:0<a:=Vg (List.length_pos_iff.2 d) e;obtain rfl:=j n;obtain⟨⟨l,u,x⟩,f⟩:=r b s;refine⟨b,0,by simp,f,?_⟩;have:=YJ (pre:=[]) (by simpa using u) x;exact this.keep ⟨sub,λ_ _=>rfl,λ_ _ q=>q,λ_ _ q=>q⟩ rfl
theorem QhQ{ro:Nat->Prop}{w:World}{b t:Nat}:∀{cs:List A} {pre l:List Value},w.heap[b]?=some (.cells (pre++l).toArray t (0,0))->LR ro [] w cs l->(∀v∈l,Qn v)->CR ro [] w b cs pre.length
 |[],pre,l,_,_,_=>trivial
 |a::cs,pre,l,hb,hl,hp=>by
  obtain⟨v,l',rfl,h1,h2⟩:=hl;refine⟨⟨v,?_,hp v (by simp),h1⟩,?_⟩
  .unfold World.cell?;rw[hb];simp
  .have:=QhQ (pre:=pre++[v]) (l:=l') (by simpa using hb) h2 λu hu=>hp u (X6 _ hu);simpa using this
variable {α β:Type} (K:FK α β)
theorem QoD(sub:∀c,ro c->ro' c){b:Nat}{x:Fil α β}{v:Value}(f:∀(d c:Nat) (y:Blk),(QkK K b x)[d]?=some y->σ[b+d]?=some (some c)->BR ro σ w y (some c)/\ro' c)(h:VR ro σ w (.ptr b 0) v):VR ro' [] w (.rp (frp K x)) v:=by
 obtain⟨c,E,k⟩:=h;obtain⟨⟨l,p,a,j⟩,i⟩:=f 0 c _ rfl E;refine⟨c,0,k,i,?_⟩;refine QhQ (pre:=[]) (by simpa using p) ?_ j;unfold Qm0 at a;obtain⟨v0,M,rfl,G,a⟩:=a;obtain⟨u,O,rfl,m,a⟩:=a;obtain⟨q,L,rfl,z,a⟩:=a;obtain⟨r,J,rfl,g,a⟩:=a;obtain⟨B,H,rfl,n,a⟩:=a;obtain⟨s,N,rfl,F,a⟩:=a;refine⟨v0,_,rfl,G,u,_,rfl,Qa5 sub (t:=K.tF) (λc e=>f 1 c _ rfl e) (by simpa using m),q,_,rfl,Qa5 sub (t:=K.tF) (λc e=>f 2 c _ rfl e) (by simpa using z),r,_,rfl,Qa5 sub (t:=K.tF) (λc e=>f 3 c _ rfl e) (by simpa using g),
  B,_,rfl,Qa5 sub (t:=K.tR) (λc e=>f 4 c _ rfl e) (by simpa using n),s,_,rfl,F,a⟩
theorem QnU(sub:∀c,ro c->ro' c){ek:Int->A}(hek:∀(k:Int) (v:Value),VR ro σ w (ek k) v->VR ro' [] w (ek k) v):∀{b:Nat} {fs:List (Fil α β)} {es:List MapEntry},(∀(d c:Nat) (y:Blk),(fall K b fs)[d]?=some y->σ[b+d]?=some (some c)->BR ro σ w y (some c)/\ro' c)->
  ER ro σ w (Qm ek Qep (fent b fs)) es->ER ro' [] w (Qm ek (rpE K) (Qet fs)) es
 |b,[],es,_,h=>h
 |b,x::l,es,hb,h=>by
  obtain⟨e,l',rfl,h1,h2,h3⟩:=h;refine⟨e,l',rfl,hek _ _ h1,?_,?_⟩
  .refine QoD K sub (λd c y hy hc=>hb d c y ?_ hc) h2;rw[Qgv,XN (XM.1 hy).1];exact hy
  .refine QnU sub hek (b:=b+5) (fs:=l) (λd c y hy hc=>hb (d+5) c y ?_ (by rw[show b+(d+5)=b+5+d by omega];exact hc)) h3;rw[Qgv,XO (by rw[Qgu];omega),Qgu,Nat.add_sub_cancel];exact hy
end
section
variable {fr ro:Nat->Prop} {σ:Sig} {w:World} {α β:Type} (K:FK α β)
theorem Sim.shutMapP{H:Qc}(s:Sim fr ro σ H w){i b:Nat}{es es':List (A×A)}(hσ:σ[i]?=some (some b))(hH:H[i]?=some (.mapP es))(he:∀l,ER ro σ w es l->ER (λc=>ro c\/c=b) [] w es' l):
  Sim fr (λc=>ro c\/c=b) σ (H.set i (.fmap es')) w:=by
 have k:b<w.heap.size/\ ¬ro b/\ ¬fr b:=s.own i b _ hσ hH rfl;have ext:Ext ro σ w (λc=>ro c\/c=b) σ w:=⟨λ_ q=>.inl q,λ_ _=>rfl,λ_ _ q=>q,λ_ _ q=>q⟩;have a:∀(j:Nat) (v:Blk),(H.set i (.fmap es'))[j]?=some v->v.live=true->j≠i/\H[j]?=some v:=by
  intro j v h u;by_cases e:j=i
  .subst e;rw[Xb]at h;simp only[if_true]at h;split at h
   .cases h;simp[Blk.live]at u
   .simp at h
  .rw[XQ (λq=>e q.symm)]at h;exact⟨e,h⟩
 have g:∀(j:Nat) (v:Blk),(H.set i (.fmap es'))[j]?=some v->v.holds=true->H[j]?=some v:=by
  intro j v h u;by_cases e:j=i
  .subst e;rw[Xb]at h;simp only[if_true]at h;split at h
   .cases h;cases u
   .simp at h
  .rw[XQ (λq=>e q.symm)]at h;exact h
 refine⟨by rw[X5];exact s.len,s.roOk.to (λ_ q=>.inl q) (λ_ _=>rfl) ?_,s.frLt,?_,?_,?_,?_,s.hidTo (· = ·) QU (XU _) (λj d x c N R J O=>O.elim id λq=>((s.hid j d x c N R J).ne i b _ hσ hH rfl q).elim) (λ_ _ _ _ _ _ _ q=>q) λj d y P M L=>.inl ⟨j,y,rfl,P,g j y M L,id,λ_ q=>q⟩⟩
 .rintro c (q|rfl)
  .exact s.roLt c q
  .exact k.1
 .rintro c (q|rfl)
  .exact s.roFr c q
  .exact k.2.2
 .intro j c v m f p;obtain⟨e,f⟩:=a j v f p;obtain⟨t,r,z⟩:=s.own j c v m f p;refine⟨t,?_,z⟩;rintro(q|rfl)
  .exact r q
  .exact e (s.inj j i c v _ m hσ f hH p rfl)
 .intro j B c v G m f p Q F E;exact s.inj j B c v G m f (a j v p F).2 (a B G Q E).2 F E
 .intro j y v m f;by_cases e:j=i
  .subst e;rw[Xa (XM.1 hH).1]at f;cases f;rw[hσ]at m;cases m;obtain⟨l,n,t,r,z⟩:=s.blk j _ _ hσ hH;exact⟨.inr rfl,l,n,t,he _ r,z⟩
  .rw[XQ (λq=>e q.symm)]at f;exact(s.blk j y v m f).keep ext (λ_ _ _=>rfl) (λ_ _ _ _=>rfl)
end
end Go.Sw
namespace Go.Sw
open Go.Sort Go.Proofs Go.Shelf
theorem Qmy{α:Type}{l:List α}(h:l.length=1):∃v,l=[v]:=by
 match l,h with
 |[v],_=>exact⟨v,rfl⟩
theorem Qfi{α β:Type}(f:α->β):∀l:List α,(l.map λa=>[f a]).flatten=l.map f
 |[]=>rfl
 |a::l=>by simp[Qfi f l]
structure Elt1 (ro:Nat->Prop) (w:World) {T:Type} (ea:T->A) (l:List T) where
 x:T
 v:Value
 mem:x∈l
 rel:VR ro [] w (ea x) v
 plain:Qn v
theorem QoM{P:Program}{ρ:Ren}(L0:SlLaysF0.n6 P ρ){T:Type}[DecidableEq T]{ea:T->A}{t g:Nat}{cap:List A}{l l':List T}{cf:T->T->Option Int}(hs:QbM cf l=some l')
  (a3:∀x y c,cf x y=some c->C P g ([ea x,ea y]++cap) [] (λa H=>a=.int .i64 c/\H=[]))
  (aE:∀w,(isAgg (ρ.t 24)).run P w=.ok false w)(zE:∀w,(Go.sizeOf (ρ.t 24)).run P w=.ok 1 w)(eg:∀args w,(callFunc g args).run P w=.ok (.enter g args) w)(hd:Yb cap=true):
  C P (ρ.f 6) [.osl 0 0 l.length 1,.fn (.func g) [] cap] [.row t 1 (l.map λx=>[ea x])] (λa H=>a=.tup []/\H=[.row t 1 (l'.map λx=>[ea x])]):=by
 have L:SlLaysF.n6 P ρ:={L0 with a24:=aE,z24:=zE};intro fr E σ vals w s hv;obtain⟨vs,r1,rfl,bn,vf,r2,rfl,bp,hr⟩:=hv;cases(show r2=[]from hr);obtain⟨lf,lc,rfl,h1,a6⟩:=bp;cases(show lf=[]from h1);have ao:LR E [] w cap lc:=LR.data hd a6;obtain⟨ba,ag,O,au,a0⟩:=QcQ hs;have B:∀(ad:Option Addr) (c:Nat),vs=.slice ad 0 c->l=[]->
   Calls P (ρ.f 6) [vs,.func (.func g) #[] lc.toArray].toArray w λe w'=>∃v r H' ac τ,e=.returned v/\(r=.tup []/\H'=[.row t 1 (l'.map λx=>[ea x])])/\Sim fr ac (σ++τ) H' w'/\VR ac (σ++τ) w' r v/\Qe fr E w ac w':=by
  rintro ad c rfl rfl;have ab:l'=[]:=by rw[<- a0];rfl
  subst ab;refine(AnyF.slices_SortFunc_none L0 ad c (.func (.func g) #[] lc.toArray) w).mono ?_;rintro e w' ⟨rfl,rfl⟩;exact⟨_,_,_,E,[],rfl,⟨rfl,rfl⟩,by simpa using s,⟨[],rfl,rfl⟩,Qe.refl _ _ _⟩
 rcases bn with⟨h0,rfl⟩|⟨b,p,cp,t',m,q1,rfl,q2,q3,q4,q5⟩
 .exact B none 0 rfl (VK.1 h0)
 .by_cases ab:l=[]
  .subst ab;exact B _ cp rfl rfl
  .have bo:0<l.length:=List.length_pos_iff.2 ab;obtain rfl:=q2 (Vg bo q3);obtain⟨lv,e1,e2⟩:=s.blk 0 _ _ q1 rfl;obtain⟨hb,af,a5⟩:=s.own 0 b _ q1 rfl rfl;obtain⟨R,G,a2,rfl,bh⟩:=RL.parts e2
   let α:=Elt1 E w ea l
   have aw:∀p∈R,p.1∈l:=λp hp=>by rw[<- a2];exact VH hp
   have av:∀p∈R,∃v,p.2=[v]/\VR E [] w (ea p.1) v/\Qn v:=by
    intro p hp;obtain⟨g1,g2,g3⟩:=bh p hp;obtain⟨v,e⟩:=Qmy g1;rw[e]at g2 g3;obtain⟨v',l',e',g4,g5⟩:=g2;cases e';exact⟨v,e,g4,g3 v (by simp)⟩
   let val:List Value->Value:=λl=>l.headD .nilFunc
   have Y:∀p∈R,p.2=[val p.2]/\VR E [] w (ea p.1) (val p.2)/\Qn (val p.2):=by
    intro p hp;obtain⟨v,e,g⟩:=av p hp;rw[e];exact⟨rfl,g⟩
   let ds:List α:=R.attach.map λp=>⟨p.1.1,val p.1.2,aw _ p.2,(Y _ p.2).2.1,(Y _ p.2).2.2⟩
   have ax:∀{γ:Type} (f:T×List Value->γ),R.attach.map (λp=>f p.1)=R.map f:=λf=>by simp
   have J:ds.map (·.x)=l:=by
    show(R.attach.map _).map _=_;rw[List.map_map];exact(ax (·.1)).trans a2
   have ay:ds.map (·.v)=R.map λp=>val p.2:=by
    show(R.attach.map _).map _=_;rw[List.map_map];exact ax λp=>val p.2
   have al:ds.length=l.length:=by rw[<- J];simp
   have a9:ds≠[]:=by intro q;rw[q]at al;simp at al;omega
   let inh:Inhabited α:=⟨ds.head a9⟩
   let enc':α->Value:=λa=>a.v
   let cf':α->α->Int:=λx y=>(cf x.x y.x).getD 0
   have ae:∀x y:α,ltOf cf' x y=ltO cf x.x y.x:=by
    intro x y;obtain⟨c,u⟩:=ag x.x x.mem y.x y.mem;simp only[ltOf,ltO,cf',u,Option.getD_some]
   have hO:SWO (ltOf cf'):=⟨λx=>by rw[ae];exact O.irrefl _ x.mem,λx y z a b=>by rw[ae]at*;exact O.trans _ x.mem _ y.mem _ z.mem a b,
    λx y z a b=>by rw[ae]at*;exact O.ntrans _ x.mem _ y.mem _ z.mem a b⟩
   have bc:(R.map (·.2)).flatten=ds.map enc':=by
    have e3:R.map (·.2)=(R.map λp=>val p.2).map λv=>[v]:=by
     rw[List.map_map];exact List.map_congr_left λp hp=>(Y p hp).1
    rw[e3, <- ay];have:=Qfi (λv:Value=>v) (ds.map (·.v));rw[this];simp[enc']
   rw[bc]at e1;have hH:Holds enc' w b 0 ds.toArray:=by
    intro j hj;simp only[List.size_toArray]at hj;constructor
    .unfold World.cell?;simp only[e1,Option.isSome_none,Xj,if_false,Xw];rw[Qac,XN (by simpa using hj),Xq,Qff _ _ hj];rfl
    .unfold World.frozen?;simp only[e1];simp
   have an:∀(d:Array α),d.size=ds.toArray.size->(putRow enc' w b 0 d).heap=w.heap.setIfInBounds b (.cells ((d.toList.map enc'++G)).toArray t (0,0)):=by
    intro d k;have aj:(d.toList.map enc').length=(ds.map enc').length:=by simp at k⊢;rw[k]
    unfold putRow mapBlock;show w.heap.modify b _=_;rw[Qbk e1];simp only[onCells];congr 2;unfold putCells;apply Array.ext_getElem?;intro i;simp only[Array.getElem?_mapIdx,Qac,XV,true_and,Xw,Xv];by_cases hi:i<d.size
    .have aa:i<(d.toList.map enc').length:=by simpa using hi
     rw[XN aa,XN (by rw[<- aj];exact aa),XL (by rw[<- aj];exact aa),XL aa];simp only[Xk,Vu hi];congr 1;rw[getElem!_pos d i hi];simp
    .have aa:¬i<(d.toList.map enc').length:=by simpa using hi
     rw[XO (by omega),XO (by omega),aj];cases(G[i-(ds.map enc').length]?)with
     |none=>rfl
     |some v=>exact congrArg some (Vt hi)
   have N:∀(m:Nat) (os:Array Obj) (d:Array α),d.size=ds.toArray.size->
     (∀c,c<w.heap.size->c≠b->(sortWorld enc' w b 0 m d os).heap[c]?=w.heap[c]?)/\(sortWorld enc' w b 0 m d os).heap[b]?=some (.cells ((d.toList.map enc'++G)).toArray t (0,0))/\
     w.heap.size<=(sortWorld enc' w b 0 m d os).heap.size:=by
    intro m os d k;have e:(sortWorld enc' w b 0 m d os).heap=w.heap.setIfInBounds b (.cells ((d.toList.map enc'++G)).toArray t (0,0))++os:=by
     rw[<- an d k];rfl
    rw[e];refine⟨λc u bm=>?_,?_,by simp⟩
    .rw[Array.getElem?_append_left (by simpa using u),Vf,Vt (λq=>bm q.symm)]
    .rw[Array.getElem?_append_left (by simpa using hb),Vf,Vu rfl,Vu hb]
   have M:∀(m:Nat) (os:Array Obj) (d:Array α),d.size=ds.toArray.size->∀c y,w.shape? c=some y->(sortWorld enc' w b 0 m d os).shape? c=some y:=by
    intro m os d k c y hy;obtain⟨g1,g2,g3⟩:=N m os d k;by_cases u:c=b
    .subst u;unfold World.shape? at hy⊢;rw[e1]at hy;rw[g2];simp only[Option.some.injEq]at hy⊢;rw[<- hy];congr 1;simp only[List.size_toArray,X4,X3];simp at k⊢;rw[k]
    .unfold World.shape? at hy⊢;rw[g1 c (QbN hy) u];exact hy
   have ai:∀(m:Nat) (os:Array Obj) (d:Array α),d.size=ds.toArray.size->∀τ,Ext E τ w E τ (sortWorld enc' w b 0 m d os):=by
    intro m os d k τ;obtain⟨g1,g2,g3⟩:=N m os d k;exact⟨λ_ q=>q,λc u=>g1 c (s.roLt c u) (λq=>af (q▸u)),M m os d k,λ_ _ q=>q⟩
   have bg:CmpLays1 P g lc.toArray enc' cf' b 0 ds.toArray.size w:=by
    intro m os dk a1 x y;obtain⟨c,u⟩:=ag x.x x.mem y.x y.mem;have F:=ai m os dk a1 [];have bd:=a3 _ _ _ u;generalize hW:sortWorld enc' w b 0 m dk os=W at*;have bk:w.heap.size<=W.heap.size:=by rw[<- hW];exact(N m os dk a1).2.2
    have sW:Sim (λc=>c<W.heap.size/\ ¬E c) E [] [] W:=
     ⟨rfl,s.roOk.to (λ_ q=>q) F.keep (λc u=>Vg (s.roLt c u) bk),λc u=>u.1,λc u hf=>hf.2 u,λi b x h=>by simp at h,λi j b x y h=>by simp at h,λi y x h=>by simp at h,λi b x c h=>by simp at h⟩
    have aq:LR E [] W ([ea x.x,ea y.x]++cap) ([x.v,y.v]++lc):=
     LR.append (show LR E [] W [ea x.x,ea y.x] [x.v,y.v]from⟨_,_,rfl,x.rel.mono F,_,_,rfl,y.rel.mono F,rfl⟩) (ao.mono F)
    have Q:=bd _ E [] _ W sW aq;have be:(([x.v,y.v]++lc).toArray:Array Value)= #[enc' x,enc' y]++lc.toArray:=by simp[enc']
    rw[be]at Q;refine Q.mono ?_;rintro e w' ⟨v,r,H',ac,τ,rfl,⟨rfl,rfl⟩,s',bl,ev⟩;refine⟨?_,?_⟩
    .rw[show v=.int .i64 c from bl];simp only[cf',u,Option.getD_some]
    .refine QkG (λc u=>?_) ev.size ev.os ev.tape ev.output ev.drawn;by_cases a4:E c
     .exact ev.keepRo c a4
     .exact ev.keepFr c ⟨u,a4⟩
   have X:ds.toArray.size=l.length:=by simpa using al
   have bq:b+0=b:=rfl;have ah:=Any.slices_SortFunc L enc' (λx=>Qgf x.plain) cf' hO g lc.toArray b 0 cp ds.toArray w eg bg hH hb (by rw[X];unfold Qq at ba;omega);rw[X]at ah;rw[Nat.zero_mul];refine ah.mono ?_;rintro e w' ⟨rfl,d,n,os,V,am,rfl⟩;have k:d.size=ds.toArray.size:=V.1;obtain⟨g1,g2,g3⟩:=N n os d k;have ak:d.toList.Perm ds:=by
    have h:=V.2.2;have x1:d.extract 0 l.length=d:=by rw[<- X, <- k];exact Array.extract_size
    have x2:ds.toArray.extract 0 l.length=ds.toArray:=by rw[<- X];exact Array.extract_size
    rw[x1,x2]at h;simpa using h
   have az:d.toList.map (·.x)=l':=by
    rw[<- a0];refine Jh (lt:=ltO cf) ?_ ?_ ?_ (QK O)
    .exact((ak.map (·.x)).trans (by rw[J])).trans (Qk _ _).symm
    .intro x hx y hy;have bb:x∈l:=by rw[<- J];exact(ak.map (·.x)).mem_iff.1 hx
     have bi:y∈l:=by rw[<- J];exact(ak.map (·.x)).mem_iff.1 hy
     exact au x bb y bi
    .rw[VF];intro i j hi hj bj;simp only[X3]at hi hj;simp only[List.getElem_map];rw[<- ae];have:=am i j (XV _) bj (by rw[<- X, <- k];simpa using hj);rw[getElem!_pos d j (by simpa using hj),getElem!_pos d i (by simpa using hi)]at this;simpa using this
   have bf:RL E [] (sortWorld enc' w b 0 n d os) 1 (l'.map λx=>[ea x]) (d.toList.map enc'++G):=by
    have e3:d.toList.map enc'=((d.toList.map λa=>(a.x,[a.v])).map (·.2)).flatten:=by
     rw[List.map_map];exact(Qfi (λa:α=>a.v) d.toList).symm
    have e4:l'=(d.toList.map λa=>(a.x,[a.v])).map (·.1):=by rw[<- az];simp
    rw[e3,e4];refine Qb3 (enc:=λx=>[ea x]) (λ_=>rfl) ?_;intro p hp;obtain⟨a,_,rfl⟩:=Xf.1 hp;exact⟨⟨_,_,rfl,a.rel.mono (ai n os d k []),rfl⟩,λv hv=>by rw[VC.1 hv];exact a.plain⟩
   have a7:Qe fr E w E (sortWorld enc' w b 0 n d os):=
    ⟨λ_ q=>q,λc u=>g1 c (s.roLt c u) (λq=>af (q▸u)),λc u=>g1 c (s.frLt c u) (λq=>a5 (q▸u)),g3,M n os d k,rfl,rfl,rfl,Nat.le_add_right _ _⟩
   have ar:σ.length=1:=s.len;have a8:Sim fr E σ [.row t 1 (l'.map λx=>[ea x])] (sortWorld enc' w b 0 n d os):=by
    have i0:∀{i:Nat} {x:Blk},([.row t 1 (l'.map λx=>[ea x])]:Qc)[i]?=some x->i=0/\x=.row t 1 (l'.map λx=>[ea x]):=by
     intro i x h;cases i with
     |zero=>simp at h;exact⟨rfl,h.symm⟩
     |succ i=>simp at h
    refine⟨ar,s.roOk.to (λ_ q=>q) a7.keepRo (λc u=>Vg (s.roLt c u) g3),λc u=>Vg (s.frLt c u) g3,s.roFr,λi c x h1 h2 h3=>?_,λi j c x y h1 h2 h3 h4 _ _=>?_,λi y x h1 h2=>?_,λi b x c h1 h2 h3=>by obtain⟨rfl,rfl⟩:=i0 h2;exact h3.elim⟩
    .obtain⟨rfl,rfl⟩:=i0 h2;obtain⟨p1,p2⟩:=s.own 0 c _ h1 rfl rfl;exact⟨Vg p1 g3,p2⟩
    .rw[(i0 h3).1,(i0 h4).1]
    .obtain⟨rfl,rfl⟩:=i0 h2;rw[q1]at h1;cases h1;exact⟨_,g2,bf⟩
   exact⟨_,_,_,E,[],rfl,⟨rfl,rfl⟩,by simpa using a8,⟨[],rfl,rfl⟩,a7⟩
end Go.Sw
namespace Go.Sw
structure Pl where
 b:Nat
 i0:Nat
 i1:Nat
 i2:Nat
 i3:Nat
def Pl.ix(p:Pl):List Nat:=[p.b,p.i0,p.i1,p.i2,p.i3]
section
variable {α β:Type} (K:FK α β)
def QZ(p:Pl)(x:Fil α β):List A:=[.int .i64 x.number,.osl p.i0 0 x.r0.length K.kF,.osl p.i1 0 x.r1.length K.kF,.osl p.i2 0 x.r2.length K.kF,.osl p.i3 0 x.reports.length K.kR,.bool x.appeal]
structure QbI (H:Qc) (x:Fil α β) (p:Pl):Prop where
 c:H[p.b]?=some (.cells K.T (QZ K p x))
 r0:H[p.i0]?=some (.row K.tF K.kF (x.r0.map K.eF))
 r1:H[p.i1]?=some (.row K.tF K.kF (x.r1.map K.eF))
 r2:H[p.i2]?=some (.row K.tF K.kF (x.r2.map K.eF))
 r3:H[p.i3]?=some (.row K.tR K.kR (x.reports.map K.eR))
abbrev Qa0(α β:Type):=List (Fil α β×Pl)
def YN(bk:Qa0 α β):List (Int×Nat):=bk.map λe=>(e.1.number,e.2.b)
structure Yu (lo:Nat) (H:Qc) (bk:Qa0 α β):Prop where
 laid:∀e∈bk,QbI K H e.1 e.2
 own:∀e∈bk,e.2.ix.Nodup
 ne:bk.Pairwise λe f=>∀i∈e.2.ix,i∉f.2.ix
 lo:∀e∈bk,∀i∈e.2.ix,lo<=i
 num:(bk.map (·.1.number)).Nodup
variable {K} {lo:Nat} {H H':Qc} {bk l r:Qa0 α β} {e:Fil α β×Pl} {x':Fil α β} {p':Pl}
theorem Yu.nil:Yu K lo H ([]:Qa0 α β):=⟨(λ_ h=>by cases h),(λ_ h=>by cases h),List.Pairwise.nil,(λ_ h=>by cases h),List.nodup_nil⟩
theorem QbI.lt(h:QbI K H e.1 e.2):∀i∈e.2.ix,i<H.length:=by
 intro i a;have g:∀{j:Nat} {y:Blk},H[j]?=some y->j<H.length:=λq=>(XM.1 q).1;simp only[Pl.ix,X7,List.not_mem_nil,or_false]at a;rcases a with rfl|rfl|rfl|rfl|rfl
 .exact g h.c
 .exact g h.r0
 .exact g h.r1
 .exact g h.r2
 .exact g h.r3
theorem QbI.keep(h:QbI K H e.1 e.2)(k:∀i∈e.2.ix,H'[i]?=H[i]?):QbI K H' e.1 e.2:=by
 refine⟨?_,?_,?_,?_,?_⟩
 .rw[k _ (by simp[Pl.ix])];exact h.c
 .rw[k _ (by simp[Pl.ix])];exact h.r0
 .rw[k _ (by simp[Pl.ix])];exact h.r1
 .rw[k _ (by simp[Pl.ix])];exact h.r2
 .rw[k _ (by simp[Pl.ix])];exact h.r3
theorem Yu.keep(h:Yu K lo H bk)(k:∀j,lo<=j->j<H.length->H'[j]?=H[j]?):Yu K lo H' bk:=
 ⟨λe he=>(h.laid e he).keep λi hi=>k i (h.lo e he i hi) ((h.laid e he).lt i hi),h.own,h.ne,h.lo,h.num⟩
theorem Yu.upd(h:Yu K lo H (l++e::r))(B:QbI K H' x' p')(y:x'.number=e.1.number)(u:∀j,lo<=j->j<H.length->j∉e.2.ix->H'[j]?=H[j]?)
  (hi:∀i∈p'.ix,i∈e.2.ix\/H.length<=i)(x:p'.ix.Nodup)(hl:lo<=H.length):Yu K lo H' (l++(x',p')::r):=by
 obtain⟨w,E,n⟩:=List.pairwise_append.1 h.ne;obtain⟨t,z⟩:=Xc.1 E;have mem:∀f∈l++(x',p')::r,f=(x',p')\/(f∈l++e::r/\ ∀i∈f.2.ix,i∉e.2.ix):=by
  intro f b;rcases VE.1 b with q|q
  .exact .inr ⟨List.mem_append_left _ q,λi hi a=>n f q e (by simp) i hi a⟩
  .rcases X7.1 q with q|q
   .exact .inl q
   .exact .inr ⟨by simp[q],λi hi a=>t f q i a hi⟩
 refine⟨?_,?_,?_,?_,?_⟩
 .intro f b;rcases mem f b with rfl|⟨k,s⟩
  .exact B
  .exact(h.laid f k).keep λi hi=>u i (h.lo f k i hi) ((h.laid f k).lt i hi) (s i hi)
 .intro f b;rcases mem f b with rfl|⟨k,s⟩
  .exact x
  .exact h.own f k
 .refine List.pairwise_append.2 ⟨w,Xc.2 ⟨?_,z⟩,?_⟩
  .intro f b i a d;rcases hi i a with q|q
   .exact t f b i q d
   .have:=(h.laid f (by simp[b])).lt i d;omega
  .intro f b g p i d m;rcases X7.1 p with rfl|p
   .rcases hi i m with q|q
    .exact n f b e (by simp) i d q
    .have:=(h.laid f (by simp[b])).lt i d;omega
   .exact n f b g (by simp[p]) i d m
 .intro f b;rcases mem f b with rfl|⟨k,s⟩
  .intro i a;rcases hi i a with q|q
   .exact h.lo e (by simp) i q
   .omega
  .exact h.lo f k
 .have:=h.num;rw[Xg,Vk]at this⊢;show(_++x'.number::_).Nodup;rw[y];exact this
theorem Yu.add(h:Yu K lo H bk)(s:QbI K H' x' p')(r:∀e∈bk,e.1.number≠x'.number)(n:∀j,lo<=j->j<H.length->H'[j]?=H[j]?)
  (hi:∀i∈p'.ix,H.length<=i)(p:p'.ix.Nodup)(hl:lo<=H.length):Yu K lo H' (bk++[(x',p')]):=by
 have t:=h.keep n;have mem:∀f∈bk++[(x',p')],f∈bk\/f=(x',p'):=by
  intro f d;rcases VE.1 d with q|q
  .exact .inl q
  .exact .inr (VC.1 q)
 refine⟨?_,?_,?_,?_,?_⟩
 .intro f d;rcases mem f d with q|rfl
  .exact t.laid f q
  .exact s
 .intro f d;rcases mem f d with q|rfl
  .exact h.own f q
  .exact p
 .refine List.pairwise_append.2 ⟨h.ne,by simp,λf d g w i k l=>?_⟩;obtain rfl:=VC.1 w;have:=(h.laid f d).lt i k;have:=hi i l;omega
 .intro f d i k;rcases mem f d with q|rfl
  .exact h.lo f q i k
  .have:=hi i k;omega
 .rw[Xg];refine List.nodup_append.2 ⟨h.num,by simp,?_⟩;intro a u b m;simp at m;subst m;obtain⟨f,d,rfl⟩:=Xf.1 u;exact r f d
theorem QdO:∀(d:Qa0 α β) (k:Int),(Yn (YN d) k=none/\ ∀e∈d,e.1.number≠k)\/ ∃l e r,d=l++e::r/\e.1.number=k/\(∀y∈l,y.1.number≠k)/\Yn (YN d) k=some e.2.b
 |[],k=>.inl ⟨rfl,λ_ h=>by cases h⟩
 |e::l,k=>by
  have e0:Yn (YN (e::l)) k=if e.1.number=k then some e.2.b else Yn (YN l) k:=by
   show Yn ((e.1.number,e.2.b)::YN l) k=_;simp[Yn];by_cases q:e.1.number=k<;>simp[q]
  by_cases q:e.1.number=k
  .exact .inr ⟨[],e,l,rfl,q,(λ_ h=>by cases h),by rw[e0,Vu q]⟩
  .rcases QdO l k with⟨g,f⟩|⟨p,y,r,g,f,j,i⟩
   .refine .inl ⟨by rw[e0,Vt q];exact g,λz a=>?_⟩;rcases X7.1 a with rfl|a
    .exact q
    .exact f z a
   .refine .inr ⟨e::p,y,r,by rw[g];rfl,f,λz a=>?_,by rw[e0,Vt q,i]⟩;rcases X7.1 a with rfl|a
    .exact q
    .exact j z a
theorem QlE(p q:Qa0 α β):YN (p++q)=YN p++YN q:=by simp[YN]
theorem QlD(a:x'.number=e.1.number)(d:p'.b=e.2.b):YN (l++(x',p')::r)=YN (l++e::r):=by simp[YN,a,d]
end
section
variable {fr ro ro':Nat->Prop} {σ:Sig} {w:World} {α β:Type} (K:FK α β)
theorem Qnw(sub:∀c,ro c->ro' c){p:Pl}{x:Fil α β}{v:Value}{H:Qc}(hl:QbI K H x p)(e:∀i∈p.ix,∀(c:Nat) (y:Blk),H[i]?=some y->σ[i]?=some (some c)->BR ro σ w y (some c)/\ro' c)(h:VR ro σ w (.ptr p.b 0) v):VR ro' [] w (.rp (frp K x)) v:=by
 obtain⟨c,F,k⟩:=h;obtain⟨⟨l,q,a,j⟩,g⟩:=e p.b (by simp[Pl.ix]) c _ hl.c F;refine⟨c,0,k,g,?_⟩;refine QhQ (pre:=[]) (by simpa using q) ?_ j;unfold QZ at a;obtain⟨v0,O,rfl,J,a⟩:=a;obtain⟨z,Q,rfl,m,a⟩:=a;obtain⟨r,N,rfl,B,a⟩:=a;obtain⟨s,M,rfl,f,a⟩:=a;obtain⟨E,L,rfl,n,a⟩:=a;obtain⟨u,P,rfl,G,a⟩:=a;refine⟨v0,_,rfl,J,z,_,rfl,Qa5 sub (t:=K.tF) (λc d=>e p.i0 (by simp[Pl.ix]) c _ hl.r0 d) (by simpa using m),r,_,rfl,Qa5 sub (t:=K.tF) (λc d=>e p.i1 (by simp[Pl.ix]) c _ hl.r1 d) (by simpa using B),s,_,rfl,Qa5 sub (t:=K.tF) (λc d=>e p.i2 (by simp[Pl.ix]) c _ hl.r2 d) (by simpa using f),
  E,_,rfl,Qa5 sub (t:=K.tR) (λc d=>e p.i3 (by simp[Pl.ix]) c _ hl.r3 d) (by simpa using n),u,_,rfl,G,a⟩
theorem QgT(sub:∀c,ro c->ro' c){H:Qc}{ek:Int->A}(hek:∀(k:Int) (v:Value),VR ro σ w (ek k) v->VR ro' [] w (ek k) v):∀{bk:Qa0 α β} {es:List MapEntry},(∀e∈bk,QbI K H e.1 e.2)->(∀e∈bk,∀i∈e.2.ix,∀(c:Nat) (y:Blk),H[i]?=some y->σ[i]?=some (some c)->BR ro σ w y (some c)/\ro' c)->
  ER ro σ w (Qm ek Qep (YN bk)) es->ER ro' [] w (Qm ek (rpE K) (Qet (bk.map (·.1)))) es
 |[],es,_,_,h=>h
 |x::l,es,hl,hb,h=>by
  obtain⟨e,l',rfl,h1,h2,h3⟩:=h;exact⟨e,l',rfl,hek _ _ h1,Qnw K sub (hl x (by simp)) (hb x (by simp)) h2,QgT sub hek (λe he=>hl e (by simp[he])) (λe he=>hb e (by simp[he])) h3⟩
def Qct(bk:Qa0 α β):List Nat:=bk.flatMap λe=>e.2.ix
theorem Yu.all{lo:Nat}{H:Qc}:∀{d:Qa0 α β},Yu K lo H d->(Qct d).Nodup/\ ∀i∈Qct d,lo<=i/\ ∃y,H[i]?=some y/\y.live=true:=by
 intro d h;refine⟨?_,?_⟩
 .have q:=h.own;have x:=h.ne;clear h
  induction d with
  |nil=>exact List.nodup_nil
  |cons e l r=>
   obtain⟨s,w⟩:=Xc.1 x;show(e.2.ix++Qct l).Nodup;refine List.nodup_append.2 ⟨q e (by simp),r (λf n=>q f (by simp[n])) w,?_⟩;intro a t b u m;obtain⟨f,n,k⟩:=List.mem_flatMap.1 u;exact s f n a t (m▸k)
 .intro i j;obtain⟨e,p,j⟩:=List.mem_flatMap.1 j;refine⟨h.lo e p i j,?_⟩;have g:=h.laid e p;simp only[Pl.ix,X7,List.not_mem_nil,or_false]at j;rcases j with rfl|rfl|rfl|rfl|rfl
  .exact⟨_,g.c,rfl⟩
  .exact⟨_,g.r0,rfl⟩
  .exact⟨_,g.r1,rfl⟩
  .exact⟨_,g.r2,rfl⟩
  .exact⟨_,g.r3,rfl⟩
end
section
variable {α β:Type} (K:FK α β) {env:Env} {H:Qc}
theorem QnK{h0 lo m:Nat}{g:Qa0 α β}(F:Yu K lo H g)(x:Nat.blt m lo=true)(u:H[m]?=some (.mapP (Qm (λn=>.int .i64 n) Qep (YN g)))):
  Le h0 env H env ((QbT H (Qct g)).set m (.fmap (Qm (λn=>.int .i64 n) (rpE K) (Qet (g.map (·.1)))))):=by
 intro R ro σ N a w r;have s:=r.sim;obtain⟨nd,f⟩:=F.all;have O:m<lo:=by simpa[Nat.blt_eq]using x
 have G:∃q,σ[m]?=some q:=by
  have:m<σ.length:=by rw[s.len];exact(XM.1 u).1
  exact⟨_,XL this⟩
 obtain⟨q,E⟩:=G;cases q with
 |none=>exact(s.blk m _ _ E u).elim
 |some p=>
 obtain⟨b,M,d,z⟩:=QdS s (l:=Qct g) nd (λi B=>(f i B).2);have t:(QbT H (Qct g))[m]?=some (.mapP (Qm (λn=>.int .i64 n) Qep (YN g))):=by
  rw[Qgl (λq=>by have:=(f m q).1;omega)];exact u
 have L:=M.shutMapP (es':=Qm (λn=>.int .i64 n) (rpE K) (Qet (g.map (·.1)))) E t (λl P=>?_)
 .have sub:∀c,ro c->b c\/c=p:=λc j=>.inl (d c j);have ext:Ext ro σ w (λc=>b c\/c=p) σ w:=⟨sub,λ_ _=>rfl,λ_ _ q=>q,λ_ _ q=>q⟩;exact⟨_,σ,⟨L,λq=>(r.env q).mono ext,r.size,r.defers⟩,sub,rfl⟩
 .have ext:Ext ro σ w b σ w:=⟨d,λ_ _=>rfl,λ_ _ q=>q,λ_ _ q=>q⟩;refine QgT K (ek:=λn=>.int .i64 n) (ro:=b) (ro':=λc=>b c\/c=p) (H:=H) (λc j=>.inl j) (λk v h=>h) F.laid (λe Q i B c y J j=>?_) P;exact⟨(s.blk _ _ _ j J).keep ext (λ_ _ _=>rfl) (λ_ _ _ _=>rfl),.inl (z _ (List.mem_flatMap.2 ⟨e,Q,B⟩) c j)⟩
end
end Go.Sw
namespace Go.Sw
section
variable {P:Program} {h0 N:Nat} {all:Array Oper} {o:Oper} {l:List Oper} {env:Env} {H:Qc} {Q:Qu}
theorem QcL{d:Nat}{f:FuncId}{args:List A}{Qr:A->Qc->Prop}(i:OpC P o env H f args)(u:C P f args H Qr)
  (k:∀r H1,Qr r H1->WO P h0 N all l (up env d r) H1 Q)(G:h0<=H.length)(hg:Qo all o env true:=by exact rfl)(hd:o.dst=some d:=by exact rfl)(hN:Nat.blt d N=true:=by exact rfl):
  WO P h0 N all (o::l) env H Q:=by
 intro t fr n σ a w r hrd;obtain⟨g,z,x⟩:=i fr n σ N a w r;refine Qdq (YC hg r) z ?_;have hσl:=r.sim.len;refine Calls.mono (u fr n σ g w r.sim x) ?_;rintro e m ⟨v,j,H1,b,τ,rfl,p,B,y,ev⟩;have F:=k j H1 p;simp only[hd,Act.put];have h:d<N:=by simpa[Nat.blt_eq]using hN
 have E:Rel fr b (σ++τ) H1 (up env d j) N {a with tmps:=a.tmps.setIfInBounds d v} m:=
  ⟨B,VR.up (fr:=fr) (λs=>(r.env s).mono (ev.ext σ τ)) (by rw[r.size];exact h) y,by simpa using r.size,r.defers.keep ev⟩
 exact⟨_,rfl,Yd (λe a w q=>q.step ev (Qs (by omega))) _ _ _ (F t fr b (σ++τ) _ m E (hrd.to ev λ_ q=>q))⟩
end
section
variable {h0 n:Nat} {env env':Env} {H H':Qc}
theorem QnN(n:Nat)(hn:h0<=n)(hl:n<=H.length)(hH:(H'.map (QT (rho (List.range n) H.length))).map some=(List.range n).map (λp=>H[p]?))(hE:Qen (rho (List.range n) H.length) env env'):Le h0 env H env' H':=
 QnL (List.range n) (by rw[List.take_range,XB hn]) hH.symm List.nodup_range hE
end
section
variable {P:Program} {o:Oper} {env:Env} {H:Qc} {α:Type}
theorem QlU{t E n:Nat}{x y:Operand}{l:List α}{e:α->List A}{c:α}{k:IntKind}{i:Int}{v:A}(h:idx l i=some c)(hl:l.length=n)(f:∀x,∃v,e x=[v])(G:e c=[v])(F:∀w,(underlying t).run P w=.ok (.array n E) w)(q:∀w,(isAgg E).run P w=.ok false w)(p:∀w,(Go.sizeOf E).run P w=.ok 1 w)
  (J:o.op=.index t x y:=by exact rfl)(hx:opA env x=.agg (l.map e).flatten:=by exact rfl)(hy:opA env y=.int k i:=by exact rfl):OpV P o env H v:=by
 obtain⟨O,g⟩:=QaP h;intro R T σ N a w r;have b:=Qd r x;rw[hx]at b;obtain⟨m,b,z⟩:=b;have j:=QH r hy;have s:∀(l:List α),(l.map e).flatten[i.toNat]?=(l.map λx=>(e x).headD .any)[i.toNat]? :=by
  intro l;have:(l.map e).flatten=l.map λx=>(e x).headD .any:=by
   induction l with
   |nil=>rfl
   |cons a l L=>
    obtain⟨v,f⟩:=f a;simp[f,L]
  rw[this]
 have B:(l.map e).flatten[i.toNat]?=some v:=by
  rw[s,Xq,g];simp[G]
 obtain⟨u,Q,M⟩:=z.get _ B;have d:i<(n:Int):=by
  have:=(XM.1 g).1;omega
 refine⟨u,?_,M⟩;generalize a.eval=ρ at*;simp[execOp,J,b,j,Instr.index,asIntOf,F,O,d,p,part,q,Q,go_sem]
end
end Go.Sw
namespace Go.Sw
section
variable {α β:Type}
def Qau(k:Int):Fil α β:=⟨k,[],[],[],[],false⟩
def Qag(fs:List (Fil α β))(k:Int):List (Fil α β):=bif fs.any (λx=>decide (x.number=k))then fs else fs++[Qau k]
def Qbv(fs:List (Fil α β))(k:Int)(g:Fil α β->Fil α β):List (Fil α β):=fs.map λx=>bif decide (x.number=k)then g x else x
def Qd5(fs:List (Fil α β)):Bool:=fs.all λx=>Nat.ble (x.r0.length+1) Qq&&Nat.ble (x.r1.length+1) Qq&&Nat.ble (x.r2.length+1) Qq&&Nat.ble (x.reports.length+1) Qq
variable (K:FK α β) {lo:Nat} {H H':Qc} {bk:Qa0 α β}
theorem Qc4{fs:List (Fil α β)}{k:Int}(h:∃x∈fs,x.number=k):Qag fs k=fs:=by
 unfold Qag;have:fs.any (λx=>decide (x.number=k))=true:=by
  obtain⟨x,a,e⟩:=h;exact Xu.2 ⟨x,a,by simp[e]⟩
 rw[this];rfl
theorem QbU{fs:List (Fil α β)}{k:Int}(h:∀x∈fs,x.number≠k):Qag fs k=fs++[Qau k]:=by
 unfold Qag;have:fs.any (λx=>decide (x.number=k))=false:=by
  rw[List.any_eq_false];intro x a;simp[h x a]
 rw[this];rfl
theorem Qn2{l r:List (Fil α β)}{x:Fil α β}{k:Int}{g:Fil α β->Fil α β}(f:((l++x::r).map (·.number)).Nodup)(b:x.number=k):Qbv (l++x::r) k g=l++g x::r:=by
 rw[Xg,Vk,List.nodup_append]at f;obtain⟨p,h,j⟩:=f;rw[List.nodup_cons]at h;have e:∀m:List (Fil α β),(∀y∈m,y.number≠k)->Qbv m k g=m:=by
  intro m n;unfold Qbv
  conv=>rhs;rw[<- List.map_id m]
  exact List.map_congr_left λy a=>by simp[n y a]
 have i:=e l (λy a q=>j y.number (VH a) x.number (by simp) (by rw[q,b]));have d:=e r (λy a q=>h.1 (by rw[b, <- q];exact VH a));unfold Qbv at i d⊢;rw[Xg,Vk,i,d];simp[b]
theorem Qh6{l r:List (Fil α β)}{x:Fil α β}(h:Qd5 (l++x::r)=true):x.r0.length+1<=Qq/\x.r1.length+1<=Qq/\x.r2.length+1<=Qq/\x.reports.length+1<=Qq:=by
 unfold Qd5 at h;have:=Xt.1 h x (by simp);simp only[XX]at this;obtain⟨⟨⟨d,b⟩,e⟩,a⟩:=this;exact⟨XS d,XS b,XS e,XS a⟩
def Qa1(n:Nat):Pl:=⟨n,n+1,n+2,n+3,n+4⟩
def Qca(n:Nat)(k:Int):Qc:=[.cells K.T (QZ K (Qa1 n) (Qau k)),.row K.tF K.kF [],.row K.tF K.kF [],.row K.tF K.kF [],.row K.tR K.kR []]
theorem Qkd{h0:Nat}{env:Env}{k:Int}(d:h0<=H.length):
  Le h0 env (H++[.cells K.T [.int .i64 k,.nils,.nils,.nils,.nils,.bool false]]) env (H++Qca K H.length k):=by
 have a:∀(n:Nat) (G:Qc) (cs cs':List A) (t k':Nat) (m:Nat),n=H.length+1+G.length->cs[m]?=some .nils->cs'=cs.set m (.osl n 0 0 k')->
   Le h0 env (H++.cells K.T cs::G) env (H++.cells K.T cs'::(G++[.row t k' []])):=by
  intro n G cs cs' t k' m hn hm hc;have:=Qem (h0:=h0) (env:=env) (H:=H++.cells K.T cs::G) (i:=H.length) (m:=m) (t:=t) (k:=k') (T:=K.T) (cs:=cs)
   (by simp;omega) (by simp) hm
  have e:(H++.cells K.T cs::G).length=n:=by simp;omega
  rw[e]at this;have b:(H++.cells K.T cs::G).set H.length (.cells K.T (cs.set m (.osl n 0 0 k')))=H++.cells K.T cs'::G:=by
   rw[List.set_append_right _ _ (XU _),Nat.sub_self,hc];rfl
  rw[b,Vj]at this;exact this
 refine Le.trans (a (H.length+1) [] _ _ K.tF K.kF 1 (by simp) rfl rfl) ?_;refine Le.trans (a (H.length+2) [.row K.tF K.kF []] _ _ K.tF K.kF 2 (by simp) rfl rfl) ?_;refine Le.trans (a (H.length+3) [.row K.tF K.kF [],.row K.tF K.kF []] _ _ K.tF K.kF 3 (by simp) rfl rfl) ?_;exact a (H.length+4) [.row K.tF K.kF [],.row K.tF K.kF [],.row K.tF K.kF []] _ _ K.tR K.kR 4 (by simp) rfl rfl
theorem QbI.new{k:Int}:QbI K (H++Qca K H.length k) (Qau k) (Qa1 H.length):=by
 have g:∀(j:Nat) (y:Blk),(Qca K H.length k)[j]?=some y->(H++Qca K H.length k)[H.length+j]?=some y:=by
  intro j y h;rw[XO (by omega),Nat.add_sub_cancel_left];exact h
 exact⟨g 0 _ rfl,g 1 _ rfl,g 2 _ rfl,g 3 _ rfl,g 4 _ rfl⟩
theorem Qkw(n:Nat):(∀i∈(Qa1 n).ix,n<=i)/\(Qa1 n).ix.Nodup:=by
 refine⟨?_,?_⟩
 .intro i a;simp only[Pl.ix,Qa1,X7,List.not_mem_nil,or_false]at a;omega
 .simp[Pl.ix,Qa1]
variable {K}
theorem Yu.new{k:Int}(h:Yu K lo H bk)(b:∀e∈bk,e.1.number≠k)(hl:lo<=H.length):Yu K lo (H++Qca K H.length k) (bk++[(Qau k,Qa1 H.length)]):=by
 refine h.add (QbI.new K) b (λj d a=>by rw[XN a]) (Qkw _).1 (Qkw _).2 hl
theorem Yu.row{l r:Qa0 α β}{e:Fil α β×Pl}{x':Fil α β}{p':Pl}{i:Nat}{y:Blk}(h:Yu K lo H (l++e::r))(hl:lo<=H.length)(t:x'.number=e.1.number)(hi:i∈e.2.ix)(F:i≠e.2.b)(g:p'.b=e.2.b)
  (hH:H'=(H.set i .dead++[y]).set e.2.b (.cells K.T (QZ K p' x')))
  (n:p'.ix=e.2.ix.map λj=>bif Nat.beq j i then H.length else j)
  (h0:H'[p'.i0]?=some (.row K.tF K.kF (x'.r0.map K.eF)))(L:H'[p'.i1]?=some (.row K.tF K.kF (x'.r1.map K.eF)))(w:H'[p'.i2]?=some (.row K.tF K.kF (x'.r2.map K.eF)))(G:H'[p'.i3]?=some (.row K.tR K.kR (x'.reports.map K.eR))):
  Yu K lo H' (l++(x',p')::r):=by
 have M:=h.laid e (by simp);have d:=M.lt;have u:e.2.b<H.length:=d _ (by simp[Pl.ix]);refine h.upd ⟨?_,h0,L,w,G⟩ t ?_ ?_ ?_ hl
 .rw[hH,g,Xa (by simp;omega)]
 .intro j m B k;rw[hH,XQ (λq=>k (by rw[<- q];simp[Pl.ix])),XN (by simpa using B),XQ (λq=>k (by rw[<- q];exact hi))]
 .intro j s;rw[n]at s;obtain⟨x,m,rfl⟩:=Xf.1 s;cases q:Nat.beq x i with
  |true=>exact .inr (XU _)
  |false=>exact .inl m
 .rw[n];have J:=h.own e (by simp);refine List.pairwise_map.2 (List.Pairwise.imp_of_mem ?_ J);intro a b z g f;have O:=d a z;have N:=d b g;cases E:Nat.beq a i with
  |true=>
   cases p:Nat.beq b i with
   |true=>exact absurd ((XR E).trans (XR p).symm) f
   |false=>simp only[Vq,Vr];omega
  |false=>
   cases p:Nat.beq b i with
   |true=>simp only[Vq,Vr];omega
   |false=>exact f
end
end Go.Sw
namespace Go.Sw
section
variable {fr ro:Nat->Prop} {σ:Sig} {H:Qc} {w:World}
theorem Sim.addIdle(s:Sim fr ro σ H w){x:Blk}{z:Option Nat}(p:x.holds=false)(J:BR ro (σ++[z]) w x z):Sim fr ro (σ++[z]) (H++[x]) w:=by
 have ext:Ext ro σ w ro (σ++[z]) w:=⟨λ_ q=>q,λ_ _=>rfl,λ_ _ q=>q,λ_ _ h=>YH h⟩;have E:=s.len;have k:x.live=false:=by
  cases q:x.live with
  |true=>rw[QaI q]at p;exact p
  |false=>rfl
 have a:∀(j:Nat) (v:Blk),(H++[x])[j]?=some v->(j<H.length/\H[j]?=some v)\/(j=H.length/\v=x):=by
  intro j v h;rcases Nat.lt_trichotomy j H.length with q|q|q
  .rw[XN q]at h;exact .inl ⟨q,h⟩
  .subst q;simp at h;exact .inr ⟨rfl,h.symm⟩
  .rw[XP (by simp;omega)]at h;cases h
 have hσ:∀(j:Nat) (l:Option Nat),j<H.length->(σ++[z])[j]?=some l->σ[j]?=some l:=by
  intro j l q h
  rwa [XN (by omega)]at h
 refine⟨by simp[E],s.roOk,s.frLt,s.roFr,λi b y e n m=>?_,λi j b y F e n m M u t=>?_,λi l y e n=>?_,
  s.hidTo (· = ·) QU (XU _) (λ_ _ _ _ _ _ _ q=>q) (λ_ _ _ _ _ _ _ q=>q) λj d y O L B=>.inl ?_⟩
 .rcases a i y n with⟨g,f⟩|⟨_,rfl⟩
  .exact s.own i b y (hσ i _ g e) f m
  .rw[k]at m;cases m
 .rcases a i y m with⟨g,f⟩|⟨_,rfl⟩
  .rcases a j F M with⟨G,N⟩|⟨_,rfl⟩
   .exact s.inj i j b y F (hσ i _ g e) (hσ j _ G n) f N u t
   .rw[k]at t;cases t
  .rw[k]at u;cases u
 .rcases a i y n with⟨g,f⟩|⟨r,rfl⟩
  .exact(s.blk i l y (hσ i _ g e) f).keep ext (λ_ _ _=>rfl) (λ_ _ _ _=>rfl)
  .subst r;have:(σ++[z])[H.length]?=some z:=by rw[<- E];simp
   rw[this]at e;cases e;exact J
 .rcases a j y L with⟨g,f⟩|⟨_,rfl⟩
  .exact⟨j,y,rfl,hσ j _ g O,f,id,λ_ q=>q⟩
  .rw[p]at B;cases B
end
section
variable {P:Program} {o:Oper} {env:Env} {H:Qc}
theorem QnG{T e k n:Nat}{xs:List Operand}{es:List (List A)}(E:QN P T e k)(ho:o.op=.buildSlice T n (Qai 0 xs).toArray)(F:xs.length=n)(G:Nat.ble (n*k) 16777216=true)
  (hk:(xs.all λx=>Q6 (opA env x))=true)(y:QA env xs=es)(B:allK k es)(X:es.flatten.all Ym=true)(hd:Yb es.flatten=true):
  OpH P o env H (.osl H.length 0 n k) (H++[.frow e k es]):=by
 intro fr t σ N a w r;subst y;obtain⟨l,Y,u⟩:=Js r E F G hk B;have J:LR t [] w (QA env xs).flatten l:=u.data hd;have f:∀b,b<w.heap.size->(w.alloc (.cells l.toArray e)).heap[b]?=w.heap[b]? :=λb V=>Q8 _ _ b V;have s:w.heap.size<=(w.alloc (.cells l.toArray e)).heap.size:=by rw[Q2];omega
 have W:=r.sim.grown f s;have j:Qe fr t w t (w.alloc (.cells l.toArray e)):=Qe.alloc _ r.sim.roLt r.sim.frLt;have R:=W.addRo (b:=w.heap.size) (by rw[Q2];omega) (λq=>Nat.lt_irrefl _ (r.sim.frLt _ q)) (λi x p h M=>Nat.lt_irrefl _ (r.sim.own i _ x p h M).1)
  (λi d x p h M=>Nat.lt_irrefl _ (r.sim.hid i d x _ p h (r.sim.hidKeep p h (λz=>f d (r.sim.own i d x p h z).1) (λb q=>f b (r.sim.roLt b q)) M)).lt)
 have L:RL t [] (w.alloc (.cells l.toArray e)) k (QA env xs) l:=by
  have:=YY (rest:=[]) B (J.mono (j.ext0 [])) (u.plain X)
  rwa [Vh]at this
 have m:(QA env xs).length=n:=by simp[QA,F]
 have O:l.length=n*k:=by rw[u.length,Yt B];simp[QA,F]
 have g:(w.alloc (.cells l.toArray e)).heap[w.heap.size]?=some (.cells l.toArray e (0,0)):=Q7 _ _;have Q:=R.addIdle (x:=.frow e k (QA env xs)) (z:=some w.heap.size) rfl
  ⟨.inr rfl,l,g,L.mono ⟨λ_ q=>.inl q,λ_ _=>rfl,λ_ _ q=>q,λ_ _ q=>q⟩,by rw[O,m]⟩
 refine⟨_,_,λc=>t c\/c=w.heap.size,[some w.heap.size],Jd ho a.eval Y,.inr ⟨w.heap.size,0,n,e,l.length,?_,rfl,λ_=>by simp,XU _,?_,by rw[O,Xw];exact XU _⟩,Q,j.trans (YF λ_ q=>.inl q)⟩
 .rw[<- r.sim.len];simp
 .unfold World.shape?;rw[g];simp
theorem Le.frow{h0 s i n k t:Nat}{es:List (List A)}(x:lk env s=.osl i 0 n k)(hH:H[i]?=some (.frow t k es))(y:es.length=n):Le h0 env H (up env s (.rsl k es)) H:=by
 intro P h σ N a w r;refine⟨h,σ,⟨r.sim,?_,r.size,r.defers⟩,λ_ q=>q,rfl⟩;intro d;simp only[lk];by_cases q:d=s
 .subst q;rw[VG];have:=r.env d;rw[x]at this;show VR h σ w (.rsl k es) _;rcases this with⟨g,f⟩|⟨b,p,e,M,m,g,f,F,u,R,Q⟩
  .have:es=[]:=VK.1 (by omega);subst this;exact⟨none,0,by rw[f];rfl,XU _,.inl rfl⟩
  .obtain⟨B,l,J,E,O⟩:=r.sim.blk i _ _ g hH;refine⟨_,e,by rw[f,y],by omega,?_⟩;by_cases j:es=[]
   .exact .inl j
   .right;have L:0<e:=Vg (by have:=List.length_pos_iff.2 j;omega) u;have G:=F L;refine⟨b,0,by rw[G];simp,B,?_⟩;exact YJ (pre:=[]) (by simpa using J) E
 .have:Nat.beq d s=false:=by
   cases z:Nat.beq d s with
   |true=>exact absurd (XR z) q
   |false=>rfl
  rw[this];exact r.env d
theorem Qi5{c:Call}{T T' e e' k i n:Nat}{x y:Operand}{ya:A}{es fs gs:List (List A)}(E:QN P T e k)(V:∀w,(underlying T').run P w=.ok (.slice e') w)(B:Nat.blt 0 k=true)(t:Nat.blt 0 fs.length=true)(R:o.op=.call c)
  (q:c={callee:=.builtin .append,args:= #[x,y],argTypes:= #[T,T']})(hx:opA env x=.osl i 0 n k)(hH:H[i]?=some (.frow e k es))(m:es.length=n)(hy:opA env y=ya)(hs:Src P H ya k fs)(f:n+fs.length<=Qq)
  (hg:es++fs=gs):OpH P o env H (.osl H.length 0 (n+fs.length) k) (H++[.row e k gs]):=by
 intro W j σ N a w r;subst hg;have hf:0<fs.length:=by simpa[Nat.blt_eq]using t
 have hk:0<k:=by simpa[Nat.blt_eq]using B
 have g:=Qd r x;rw[hx]at g;have G:=Qd r y;rw[hy]at G;obtain⟨⟨ay,cy,z⟩,Q,l,s,L,X⟩:=hs W j σ w _ r.sim G;rw[z]at s;rcases g with⟨h0,g⟩|⟨b,p,d,t',mm,h3,g,h4,h5,Y,M⟩
 .have:es=[]:=VK.1 (by omega);subst this;subst h0;have:=grown (es:=[]) (old:=[]) E V R q g z r.sim (by omega) f (λ_ _=>YO) s rfl (by simp) trivial L X Q rfl rfl;simpa using this
 .obtain⟨g0,lb,O,J,g3⟩:=r.sim.blk i _ _ h3 hH;have hm:mm=n*k:=by
   have:w.shape? b=some (e,lb.length):=by unfold World.shape?;rw[O];simp
   rw[this]at Y;cases Y;rw[g3,m]
  have aa:d<=n:=by
   rw[hm,Xw]at M;exact Nat.le_of_mul_le_mul_right M hk
  obtain⟨old,o1,o2,o3⟩:∃old:List Value,(∀u:World,u.heap=w.heap->(Builtin.firstCells k n (.slice (some ⟨b,p,none⟩) n d)).run P u=.ok old.toArray u)/\LR j [] w es.flatten old/\ ∀v∈old,Qn v:=by
   have hr:VR j σ w (.rsl k es) (.slice (some ⟨b,p,none⟩) n d):=by
    refine⟨_,d,by rw[m],by omega,?_⟩;by_cases he:es=[]
    .exact .inl he
    .right;have q:0<d:=Vg (by have:=List.length_pos_iff.2 he;omega) h5;have hp:=h4 q;exact⟨b,0,by rw[hp];simp,g0,YJ (pre:=[]) (by simpa using O) J⟩
   have h:Src P H (.rsl k es) k es:=Src.rsl;obtain⟨_,_,l',F,z2,z3⟩:=h W j σ w _ r.sim hr;rw[m]at F;exact⟨l',F,z2,z3⟩
  have:=grown (es:=es) (old:=old) (fs:=fs) E V R q g z r.sim (by omega) f o1 s o2 o3 J.allK L X Q m rfl;exact this
theorem Qi7{α:Type}{e:α->List A}{c:Call}{T T' et et' k i n:Nat}{x y:Operand}{ya:A}{l m r:List α}(h:app l m=some r)(E:QN P T et k)(d:∀w,(underlying T').run P w=.ok (.slice et') w)(b:Src P H ya k (m.map e))
  (a:Nat.blt 0 m.length=true:=by exact rfl)(hk:Nat.blt 0 k=true:=by exact rfl)(hn:l.length=n:=by exact rfl)(ho:o.op=.call c:=by exact rfl)(hc:c={callee:=.builtin .append,args:= #[x,y],argTypes:= #[T,T']}:=by exact rfl)(hx:opA env x=.osl i 0 n k:=by exact rfl)
  (hH:H[i]?=some (.frow et k (l.map e)):=by exact rfl)(hy:opA env y=ya:=by exact rfl):
  OpH P o env H (.osl H.length 0 r.length k) (H++[.row et k (r.map e)]):=by
 obtain⟨f,rfl⟩:=QhA h;subst hn;have:=Qi5 E d hk (by simpa using a) ho hc hx hH (by simp) hy b (by simpa using f) (gs:=(l++m).map e) (by simp);simpa using this
end
end Go.Sw
namespace Go.Sw
open Go.MapKept
section
variable {P:Program} {kt et:Nat} {α β:Type} [DecidableEq α] {ek:α->A} {ev:β->A} {ro:Nat->Prop} {σ:Sig} {w:World} (K:Y7 P kt ek)
include K
theorem QdG:∀{l:List (α×β)} {es:List MapEntry} {k:α},ER ro σ w (Qm ek ev l) es->(∀e∈es,e.key≠Qz (ek k))->mdel l k=l
 |[],_,_,_,_=>rfl
 |p::l,es,k,h,hk=>by
  obtain⟨e,l',rfl,h1,h2,h3⟩:=h;have e1:e.key=Qz (ek p.1):=VR.val (K.scl _) h1;have hp:p.1≠k:=λq=>hk e (by simp) (by rw[e1,q]);have ih:=QdG (l:=l) h3 λe he=>hk e (by simp[he]);unfold mdel at ih⊢;rw[Xd,ih];simp[hp]
theorem Qgj:∀{l:List (α×β)} {es:List MapEntry} {k:α} {j:Nat} {e:MapEntry},ER ro σ w (Qm ek ev l) es->(es.map (·.key)).Nodup->es[j]?=some e->e.key=Qz (ek k)->ER ro σ w (Qm ek ev (mdel l k)) (es.eraseIdx j)
 |[],es,k,j,e,h,_,hj,_=>by
  cases(show es=[]from h);simp at hj
 |p::l,es,k,j,e,h,hn,hj,hk=>by
  obtain⟨e0,l',rfl,h1,h2,h3⟩:=h;have e1:e0.key=Qz (ek p.1):=VR.val (K.scl _) h1;rw[Vk,List.nodup_cons]at hn;cases j with
  |zero=>
   simp at hj;subst hj;have hp:p.1=k:=K.inj _ _ (by rw[<- e1,hk]);have:=QdG K (l:=l) (k:=k) h3 λe he q=>hn.1 (by rw[hk, <- q];exact VH he);have e2:mdel (p::l) k=l:=by
    unfold mdel at this⊢;rw[Xd,this];simp[hp]
   rw[e2];exact h3
  |succ j=>
   have a:l'[j]?=some e:=by simpa using hj
   have hp:p.1≠k:=λq=>hn.1 (by
    show e0.key∈_;rw[e1,q, <- hk];exact VH (VI a))
   have e2:mdel (p::l) k=p::mdel l k:=by
    unfold mdel;rw[Xd];simp[hp]
   rw[e2];exact⟨e0,_,rfl,h1,h2,Qgj h3 hn.2 a hk⟩
variable {o:Oper} {env:Env} {H:Qc} {T T' i:Nat} {x y:Operand} {l m:List (α×β)} {k:α}
theorem OpH.mdel{c:Call}(hm:some (Sw.mdel l k)=some m)(Q:P.underlying T=some (.map kt et))(ho:o.op=.call c:=by exact rfl)(hc:c={callee:=.builtin .delete,args:= #[x,y],argTypes:= #[T,T']}:=by exact rfl)
  (hx:opA env x=.map i:=by exact rfl)(hH:H[i]?=some (.map (Qm ek ev l)):=by exact rfl)(u:opA env y=ek k:=by exact rfl):OpH P o env H (.tup []) (H.set i (.map (Qm ek ev m))):=by
 obtain rfl:=X0 hm;subst hc;intro fr X σ N a w r;have W:=Qd r x;rw[hx]at W;obtain⟨b,G,q2⟩:=W;have O:=Qd r y;rw[u]at O;have h3:=VR.val (K.scl _) O;obtain⟨n,d,B,E,V,R,L⟩:=r.sim.blk i _ _ G hH;have t:∀(obj:Obj) y,w.shape? b=some y->({w with heap:=w.heap.setIfInBounds b obj}:World).shape? b=some y:=by
  intro obj y u;unfold World.shape? at u;rw[B]at u;simp at u
 have run:∀q:Array MapEntry,(Builtin.delete_ #[T,T'] o.type #[.map (some b),Qz (ek k)]).run P w=.ok (.tuple #[]) {w with heap:=w.heap.setIfInBounds b (.map q d)}->
   (execOp a.eval o).run P w=.ok (.value (.tuple #[])) {w with heap:=w.heap.setIfInBounds b (.map q d)}:=by
  intro q h;simp only[execOp,ho,resolve,invoke,Go.builtin,Vn,Vp,Result.andThen];simp only[XJ,Vk,Vl,q2,h3,h]
 rcases K.find w k n.toList (Qbu K E)with⟨J,F⟩|⟨j,e,J,F,Y⟩
 .have g:=r.sim.set (x':=.map (Qm ek ev (Sw.mdel l k))) (obj:=.map n d) G hH rfl (t _)
   (λe M=>⟨n,d,M,by rw[QdG K E F];exact E.mono e.nil,V,R,L⟩)
  refine⟨_,_,X,[],run n ?_,⟨[],rfl,rfl⟩,by simpa using g.1,g.2⟩;simp[Builtin.delete_,Vn,run_underlying Q,Result.andThen,MapKept.run_getObj_map B,K.check,J,MapKept.run_setObj_map _ B,go_sem]
 .have s:(n.eraseIdxIfInBounds j).toList=n.toList.eraseIdx j:=by simp
  have p:∀{γ:Type} (f:MapEntry->γ),((n.eraseIdxIfInBounds j).toList.map f).Sublist (n.toList.map f):=λf=>by
   rw[s];exact(List.eraseIdx_sublist _ _).map f
  have g:=r.sim.set (x':=.map (Qm ek ev (Sw.mdel l k))) (obj:=.map (n.eraseIdxIfInBounds j) d) G hH rfl (t _)
   (λe M=>⟨_,d,M,by rw[s];exact(Qgj K E L F Y).mono e.nil,λe' z=>V e' ((by rw[s]at z;exact List.mem_of_mem_eraseIdx z)),(p _).nodup R,(p _).nodup L⟩)
  refine⟨_,_,X,[],run _ ?_,⟨[],rfl,rfl⟩,by simpa using g.1,g.2⟩;simp[Builtin.delete_,Vn,run_underlying Q,Result.andThen,MapKept.run_getObj_map B,K.check,J,MapKept.run_setObj_map _ B,go_sem]
end
end Go.Sw
namespace Go.Sw
section
variable {P:Program} {h0 N:Nat} {all:Array Oper} {o1 o2:Oper} {l:List Oper} {env:Env} {H:Qc} {Q:Qu}
theorem QlH{t n d:Nat}{z:Value}{v:A}{cs zs:List A}{y:Operand}(hz:∀w,(zeroValue t).run P w=.ok z w)(hv:ZR v z)(hs:∀w,(Go.sizeOf t).run P w=.ok n w)
  (k:WO P h0 N all l (up env d (.rp cs)) H Q)(hk:Q6 v=true:=by exact rfl)(hzs:Yh v=zs:=by exact rfl)(hpl:zs.all Ym=true:=by exact rfl)(hzn:zs.length=n:=by exact rfl)(hn:cs.length=n:=by exact rfl)
  (ho1:o1.op=.alloc t:=by exact rfl)(hd1:o1.dst=some d:=by exact rfl)(ho2:o2.op=.store t (.tmp d) y:=by exact rfl)(hd2:o2.dst=none:=by exact rfl)(hy:opA (up env d .any) y=.agg cs:=by exact rfl)(hda:Yb cs=true:=by exact rfl)(hcp:cs.all Ym=true:=by exact rfl)(hkc:Q6 (.agg cs)=true:=by exact rfl)(hcc:Yh (.agg cs)=cs:=by exact rfl)
  (hg1:Qo all o1 env true:=by exact rfl)(hg2:Qo all o2 (up env d .any) true:=by exact rfl)(hN:Nat.blt d N=true:=by exact rfl):WO P h0 N all (o1::o2::l) env H Q:=by
 intro rd fr B σ a w r hrd;obtain⟨Y,h2,h3⟩:=(hv B σ w).cells hk;rw[hzs]at h3
 let w1:World:=w.alloc (.cells Y.toArray t)
 have X:(execOp a.eval o1).run P w=.ok (.value (.pointer (some ⟨w.heap.size,0,none⟩))) w1:=by
  generalize a.eval=ρ at*;have e:(newVar t z).run P w=.ok ⟨w.heap.size,0,none⟩ (w.alloc (.cells Y.toArray t)):=by
   unfold newVar;rw[h2];rfl
  simp only[execOp,ho1,Instr.alloc,Vn,hz,Result.andThen,e];rfl
 refine Qab (YC hg1 r) X ?_;simp only[hd1,Act.put];have ae:d<N:=by simpa[Nat.blt_eq]using hN
 have J:d<a.tmps.size:=by rw[r.size];exact ae
 let a1:Act:={a with tmps:=a.tmps.setIfInBounds d (.pointer (some ⟨w.heap.size,0,none⟩))}
 have u:∀b,b<w.heap.size->w1.heap[b]?=w.heap[b]? :=λb M=>Q8 _ _ b M;have G:w.heap.size<=w1.heap.size:=by show _<=(w.alloc _).heap.size;rw[Q2];omega
 have h:Qe fr B w B w1:=Qe.alloc _ r.sim.roLt r.sim.frLt;have r1:Rel fr B σ H (up env d .any) N a1 w1:=⟨r.sim.grown u G,VR.up (fr:=fr) (λs=>(r.env s).mono (h.ext0 σ)) J trivial,by simpa[a1]using r.size,r.defers.keep h⟩;have T:=Qd r1 y;rw[hy]at T;obtain⟨m,h4,h5⟩:=T.cells hkc;rw[hcc]at h5;have p:w1.heap[w.heap.size]?=some (.cells Y.toArray t (0,0)):=Q7 _ _;have aa:Y.length=n:=by rw[h3.length,hzn]
 have L:m.length=n:=by rw[h5.length,hn]
 have O:=Yf (P:=P) (vs:=m) 0 0 p (by omega) (h5.plain hcp);have ab:splice Y (0+0) m=m:=by
  unfold splice;simp[aa,L]
 rw[ab]at O
 let w2:World:={w1 with heap:=w1.heap.setIfInBounds w.heap.size (.cells m.toArray t (0,0))}
 have he:a1.eval (.tmp d)=.pointer (some ⟨w.heap.size,0,none⟩):=by
  show(a.tmps.setIfInBounds d _).getD d undef=_;rw[Qin J,Vu rfl]
 have R:(execOp a1.eval o2).run P w1=.ok .skip w2:=by
  have ac:(storeVar t ⟨w.heap.size,0,none⟩ (a1.eval y)).run P w1=.ok () w2:=by
   unfold storeVar;rw[Vn,hs];simp only[Result.andThen];rw[Vt (by simp[h4,L]),h4];simpa using O
  generalize a1.eval=ρ at*;simp only[execOp,ho2,he,Instr.storeAt,Instr.sureAddr,pure_bind,Vn,ac];rfl
 refine QhT (YC hg2 r1) R ?_;simp only[hd2,Act.put];have f:∀b,b<w.heap.size->w2.heap[b]?=w.heap[b]? :=λb M=>by
  show(w1.heap.setIfInBounds w.heap.size _)[b]?=_;rw[Array.getElem?_setIfInBounds_ne (by omega)];exact u b M
 have F:w2.heap.size=w1.heap.size:=by simp[w2]
 have E:w.heap.size<w1.heap.size:=(Vd.1 p).1;have W:w.heap.size<=w2.heap.size:=by rw[F];exact G
 have j:w2.heap[w.heap.size]?=some (.cells m.toArray t (0,0)):=by
  show(w1.heap.setIfInBounds w.heap.size _)[w.heap.size]?=_;rw[Array.getElem?_setIfInBounds_self_of_lt E]
 have s1:=r.sim.grown f W;have s2:=s1.addRo (b:=w.heap.size) (by rw[F];exact E) (λq=>Nat.lt_irrefl _ (r.sim.frLt _ q)) (λi x p1 V p3=>Nat.lt_irrefl _ (r.sim.own i _ x p1 V p3).1)
  (λi d x p1 V p3=>Nat.lt_irrefl _ (r.sim.hid i d x _ p1 V (r.sim.hidKeep p1 V (λz=>f d (r.sim.own i d x p1 V z).1) (λb q=>f b (r.sim.roLt b q)) p3)).lt)
 have ev:Qe fr B w (λc=>B c\/c=w.heap.size) w2:=by
  refine⟨λb q=>.inl q,λb q=>f b (r.sim.roLt b q),λb q=>f b (r.sim.frLt b q),W,?_,h.os,h.tape,h.output,h.drawn⟩;intro b x g;have M:b<w.heap.size:=by
   unfold World.shape? at g;cases q:w.heap[b]? with
   |none=>rw[q]at g;simp at g
   |some _=>exact(Vd.1 q).1
  unfold World.shape? at g⊢;rw[f b M];exact g
 have af:VR (λc=>B c\/c=w.heap.size) σ w2 (.rp cs) (.pointer (some ⟨w.heap.size,0,none⟩)):=by
  refine⟨w.heap.size,0,rfl,.inr rfl,?_⟩;refine QhQ (pre:=[]) (by simpa using j) ?_ (h5.plain hcp);have h6:LR B [] w1 cs m:=LR.data hda h5;refine h6.mono ⟨λ_ q=>.inl q,λb q=>?_,λb x g=>?_,λ_ _ q=>q⟩
  .show(w1.heap.setIfInBounds w.heap.size _)[b]?=_;have:=r.sim.roLt b q;rw[Array.getElem?_setIfInBounds_ne (by omega)]
  .by_cases e:b=w.heap.size
   .subst e;unfold World.shape? at g⊢;rw[p]at g;rw[j];simp at g⊢;rw[aa]at g;rw[L];exact g
   .unfold World.shape? at g⊢;rw[show w2.heap[b]?=w1.heap[b]? from Array.getElem?_setIfInBounds_ne (Ne.symm e)];exact g
 have r2:Rel fr (λc=>B c\/c=w.heap.size) σ H (up env d (.rp cs)) N a1 w2:=
  ⟨s2,VR.up (fr:=fr) (λs=>(r.env s).mono (ev.ext0 σ)) J af,by simpa[a1]using r.size,r.defers.keep ev⟩
 exact Yd (λe a w q=>q.step ev rfl) _ _ _ (k rd fr _ σ a1 w2 r2 (hrd.to ev λ_ q=>q))
end
end Go.Sw
namespace Go.Sw
section
variable {P:Program} {o:Oper} {env:Env} {H:Qc}
theorem Qc9{t e:TypeId}{p:Option Addr}{w:World}(a:∀w,(underlying t).run P w=.ok (.pointer e) w):(Op.equal t (.pointer p) (.pointer none)).run P w=.ok p.isNone w:=by
 have k:∀d,(Op.equalIn (d+1) t (.pointer p) (.pointer none)).run P w=.ok p.isNone w:=by
  intro d;cases p<;>simp[Op.equalIn,a,go_sem]
 exact k 9999
theorem Qi1{t e u:TypeId}{x:Operand}{i off:Nat}(j:∀w,(underlying t).run P w=.ok (.pointer e) w)(h:opA env x=.ptr i off)(f:o.op=.binOp .eql t x (.const (.pointer none)) u:=by exact rfl):OpV P o env H (.bool false):=by
 intro l n σ N a w r;have d:=Qd r x;rw[h]at d;obtain⟨b,m,k⟩:=d;have g:a.eval (.const (.pointer none))=.pointer none:=rfl;refine⟨_,?_,rfl⟩;generalize a.eval=ρ at*;simp[execOp,f,k,g,Go.binOp,eqGuard,Qc9 j,go_sem]
theorem Qi2{t e u:TypeId}{x:Operand}(h:∀w,(underlying t).run P w=.ok (.pointer e) w)(g:opA env x=.nilp)(d:o.op=.binOp .eql t x (.const (.pointer none)) u:=by exact rfl):OpV P o env H (.bool true):=by
 intro j k σ N a w r;have b:=Qd r x;rw[g]at b;have f:a.eval (.const (.pointer none))=.pointer none:=rfl;have i:a.eval x=.pointer none:=b;refine⟨_,?_,rfl⟩;generalize a.eval=ρ at*;simp[execOp,d,i,f,Go.binOp,eqGuard,Qc9 h,go_sem]
end
end Go.Sw
namespace Go.Sw
section
variable {P:Program} {o:Oper} {env:Env} {H:Qc} {α:Type}
def Qhj(l:List α)(lo hi i:Int):Option α:=bif decide (0<=lo)&&(decide (0<=i)&&decide (lo+i<hi))then idx l (lo+i)else none
theorem QkD{l:List α}{lo hi i:Int}{v:α}(h:Qhj l lo hi i=some v):0<=lo/\0<=i/\lo+i<hi/\idx l (lo+i)=some v:=by
 unfold Qhj at h;cases q:decide (0<=lo)&&(decide (0<=i)&&decide (lo+i<hi))with
 |false=>rw[q]at h;cases h
 |true=>
  rw[q]at h;rw[XX,XX,Vs,Vs,Vs]at q;exact⟨q.1,q.2.1,q.2.2,h⟩
theorem Qhi{l:List α}{lo hi i:Int}{v:α}(h:Qhj l lo hi i=some v):idx l (lo+i)=some v:=(QkD h).2.2.2
theorem QfL{t et k b:Nat}{x y:Operand}{l:List α}{f:IntKind}{lo hi i:Int}{v:α}(h:Qhj l lo hi i=some v)(g:∀w,(underlying t).run P w=.ok (.slice et) w)(a:∀w,(sizeOf et).run P w=.ok k w)
  (d:o.op=.indexAddr t x y:=by exact rfl)(hx:opA env x=.osl b (0+lo.toNat) (hi.toNat-lo.toNat) k:=by exact rfl)(hy:opA env y=.int f i:=by exact rfl):OpV P o env H (.ptr b ((lo+i).toNat*k)):=by
 obtain⟨n,j,p,_⟩:=QkD h;have m:=QhG (H:=H) d g a hx hy j (by omega);have e:(0+lo.toNat)*k+i.toNat*k=(lo+i).toNat*k:=by
  rw[<- XA];congr 1;omega
 rwa [e]at m
end
abbrev Ea:=@Ev.bind
abbrev Ec:=@FzH.keep
abbrev Ed:=@FzL.cons
abbrev Ee:=@FzA.refl
abbrev Ef:=@TC.le
abbrev Eg:=@PL.cons
abbrev Eh:=@DS.done
abbrev Ei:=@Ev.and
abbrev Ej:=@EvI.done
abbrev Ek:=@FzL.refl
abbrev El:=@OpH.lit
abbrev Em:=@RF.cons
abbrev En:=@Le.trans
abbrev Eo:=@ZR.int
abbrev Ep:=@FzA.o
abbrev Er:=@Le.phantom
abbrev Et:=@WO.le
abbrev Eu:=@Ev.or
abbrev Ew:=@Ev.eq
abbrev Ex:=@EvI.cont
abbrev Ey:=@DK.op
abbrev Ez:=@OpU.store
abbrev EA:=@OpV.load
abbrev EB:=@Ev.const
theorem Zf.{u,v}{α:Sort u}{β:Sort v}{f:α->β}:∀x,f x=f x:=λ_=>rfl
abbrev Ze.{u,v}{α:Sort u}{β:Type v}:α->List β:=λ_=>[]
end Go.Sw
