/- The rules by which the code is walked, with what they rest on (part 3). -/
import Derived.Test.YtnlljbbflgfobaaGreatDoorL2
import Derived.Laws.BytesString
set_option linter.unusedVariables false
set_option linter.unusedSectionVars false
set_option linter.unusedSimpArgs false
namespace Go.Sw
def QbX:Option Blk->Bool
 |some .dead=>true
 |_=>false
def Qan(hB hE:Nat)(H H':Qc):Bool:=(List.range (hE-hB)).all fun p=> !QbX H'[hB+p]? ||QbX H[hB+p]?
def Qin(hB hE:Nat)(σ:Sig)(H:Qc):Prop:=∀p,hB<=p->p<hE->QbX H[p]?=true->σ[p]?=some none
theorem QiN{hB hE:Nat}{H H':Qc}(h:Qan hB hE H H'=true){p:Nat}(h1:hB<=p)(h2:p<hE)(h3:QbX H'[p]?=true):QbX H[p]?=true:=by
 have:=List.all_eq_true.1 h (p-hB) (List.mem_range.2 (by omega))
 rw[show hB+(p-hB)=p by omega,h3]at this
 simpa using this
theorem Sim.allocAt{fr ro:Nat->Prop}{σ:Sig}{H:Qc}{w:World}(s:Sim fr ro σ H w){p:Nat}(hp:σ[p]?=some none){obj:Obj}{x:Blk}
  (hb:BR ro (σ.set p (some w.heap.size)) (w.alloc obj) x (some w.heap.size))
  (hhd:∀c,Hid (w.alloc obj) x w.heap.size c->False:=by exact fun _ h=>h.elim):Sim fr ro (σ.set p (some w.heap.size)) (H.set p x) (w.alloc obj):=by
 have ev:Qe fr ro w ro (w.alloc obj):=Qe.alloc obj s.roLt s.frLt
 have hl:=s.len
 have hpl:p<σ.length:=(List.getElem?_eq_some_iff.1 hp).1
 have hext:Ext ro σ w ro (σ.set p (some w.heap.size)) (w.alloc obj):=⟨ev.sub,ev.keepRo,ev.shape,fun i b q=>by
  rw[List.getElem?_set_ne (fun z=>by subst z;rw[hp]at q;cases q)];exact q⟩
 have hcase:∀(i:Nat) (y:Option Nat),(σ.set p (some w.heap.size))[i]?=some y->(i≠p/\σ[i]?=some y)\/(i=p/\y=some w.heap.size):=by
  intro i y h
  by_cases q:i=p
  ·subst q
   rw[List.getElem?_set_self hpl]at h
   exact .inr ⟨rfl,(Option.some.inj h).symm⟩
  ·rw[List.getElem?_set_ne (fun z=>q z.symm)]at h
   exact .inl ⟨q,h⟩
 have hH:∀i:Nat,i≠p->(H.set p x)[i]?=H[i]? :=fun i hi=>List.getElem?_set_ne (fun z=>hi z.symm)
 have hx:(H.set p x)[p]?=some x:=List.getElem?_set_self (by omega)
 refine⟨by simp[hl],s.roOk.to (fun _ q=>q) ev.keepRo (fun b h=>?_),fun b h=>?_,s.roFr,?_,?_,?_,s.hidTo (· = ·) QJ (by rw[Yd];omega) (fun _ _ _ _ _ _ _ q=>q) (fun _ _ _ _ _ _ _ q=>q) fun j d y g1 g2 g3=>?_⟩
 rotate_left 5
 ·rcases hcase j _ g1 with⟨q,g1⟩|⟨rfl,e1⟩
  ·rw[hH j q]at g2
   exact .inl ⟨j,y,rfl,g1,g2,id,fun c q=>s.hidKeep g1 g2 (fun z=>Q2 w obj d (s.own j d y g1 g2 z).1) ev.keepRo q⟩
  ·rw[hx]at g2;cases g2;cases e1
   exact .inr ⟨Nat.le_refl _,hhd⟩
 ·rw[Yd];have:=s.roLt b h;omega
 ·rw[Yd];have:=s.frLt b h;omega
 ·intro i b y h1 h2 h3
  rw[Yd]
  rcases hcase i _ h1 with⟨q,h1⟩|⟨rfl,e1⟩
  ·rw[hH i q]at h2
   obtain⟨a,b,c⟩:=s.own i b y h1 h2 h3
   exact⟨by omega,b,c⟩
  ·cases e1
   exact⟨by omega,fun q=>by have:=s.roLt _ q;omega,fun q=>by have:=s.frLt _ q;omega⟩
 ·intro i j b y z h1 h2 h3 h4 h5 h6
  rcases hcase i _ h1 with⟨q,g1⟩|⟨ei,e1⟩<;>rcases hcase j _ h2 with⟨q',g2⟩|⟨ej,e2⟩
  ·rw[hH i q]at h3
   rw[hH j q']at h4
   exact s.inj i j b y z g1 g2 h3 h4 h5 h6
  ·cases e2
   rw[hH i q]at h3
   have:=(s.own i _ y g1 h3 h5).1
   omega
  ·cases e1
   rw[hH j q']at h4
   have:=(s.own j _ z g2 h4 h6).1
   omega
  ·rw[ei,ej]
 ·intro i y z h1 h2
  rcases hcase i _ h1 with⟨q,h1⟩|⟨rfl,e1⟩
  ·rw[hH i q]at h2
   refine(s.blk i y z h1 h2).keep hext ?_ ?_
   ·rintro b rfl hl
    exact Q2 w obj b (s.own i b z h1 h2 hl).1
   ·rintro b c rfl hl
    exact Q2 w obj c (s.hid i b z c h1 h2 hl).lt
  ·rw[hx]at h2;cases h2;subst e1;exact hb
def OpZ(P:Program)(o:Oper)(t:Nat)(cs:List A):Prop:=
 ∀(ro:Nat->Prop) (σ:Sig) (w:World) (a:Act),∃l:List Value,(execOp a.eval o).run P w=.ok (.value (.pointer (some ⟨w.heap.size,0,none⟩))) (w.alloc (.cells l.toArray t))/\LR ro σ w cs l/\ ∀v∈l,Qk v
theorem OpZ.alloc{P:Program}{o:Oper}{t:Nat}{z:Value}{v:A}{cs:List A}(hz:∀w,(zeroValue t).run P w=.ok z w)(hv:ZR v z)(ho:o.op=.alloc t:=by exact rfl)(hk:Yc v=true:=by exact rfl)(hcs:Q6 v=cs:=by exact rfl)(hpl:cs.all Yo=true:=by exact rfl):
  OpZ P o t cs:=by
 intro ro σ w a
 obtain⟨l,h2,h3⟩:=(hv ro σ w).cells hk
 subst hcs
 refine⟨l,?_,h3,h3.plain hpl⟩
 generalize a.eval=ρ at*
 have e:(newVar t z).run P w=.ok ⟨w.heap.size,0,none⟩ (w.alloc (.cells l.toArray t)):=by
  unfold newVar;rw[h2];rfl
 simp only[execOp,ho,Instr.alloc,Sem.run_bind,hz,Result.andThen,e]
 rfl
theorem Qce{P:Program}{l:List Oper}{i:Nat}{o:Oper}{rd:Option Nat}{R:Exit->Act->World->Prop}{Q:Exit->Act->World->Prop}{K:Act->World->Prop}{a:Act}{w:World}
  (ho:l[i]?=some o)(h':wpL P rd l.toArray R [o] a w)(hR:∀e a' w',R e a' w'->e=.normal/\a'.defers=a.defers)(hK:∀v w',R .normal (a.put o.dst v) w'->K (a.put o.dst v) w'):
  wpOpIn (WF rd) 0 P l.toArray Q i K a w:=by
 unfold wpOpIn
 have ho2:l.toArray[i]?=some o:=by simpa using ho
 rw[ho2]
 simp only
 unfold wpL wpListIn at h'
 split at h'
 ·rename_i hw
  rw[if_pos hw]
  obtain⟨hab,h'⟩:=h'
  refine⟨hab,?_⟩
  have h2:=Qjl (by
   intro a' w' q
   unfold wpListIn at q
   exact(hR _ _ _ q).2) h'
  generalize(o.semAt (WF rd).round a.eval).run P w=res at*
  cases res with
  |ok n w'=>
   cases n with
   |value v=>exact hK _ _ h2.1
   |skip=>exact hK _ _ h2.1
   |defer df=>
    exfalso
    have:=(hR _ _ _ h2.1).2
    have:=congrArg List.length this
    revert this
    cases o.dst<;>simp[Act.put]
   |enter f args=>
    refine⟨h2.1,CallsIn.mono h2.2 (fun e w'' he=>?_)⟩
    cases e with
    |returned v=>exact hK _ _ he.1
    |panicked c=>have:=(hR _ _ _ he).1;cases this
    |outgrown=>obtain⟨a1,w1,he⟩:=he;have:=(hR _ _ _ he).1;cases this
   |row r args=>
    exact⟨h2.1,RowsIn.mono h2.2 (fun _ _ he=>hK _ _ he.1)⟩
   |round l f tmps assign body=>
    refine⟨h2.1,RoundIn.mono h2.2 (fun e w'' he=>?_)⟩
    cases e with
    |returned v=>exact hK _ _ he.1
    |panicked c=>have:=(hR _ _ _ he).1;cases this
    |outgrown=>obtain⟨a1,w1,he⟩:=he;have:=(hR _ _ _ he).1;cases this
   |_=>exact h2.elim
  |halt x w'=>
   cases x with
   |panic v=>have:=(hR _ _ _ h2).1;cases this
   |_=>exact h2.elim
 ·rename_i hw
  rw[if_neg hw]
  obtain⟨hab,h'⟩:=h'
  refine⟨hab,?_⟩
  unfold wpListIn at h'
  exact hK _ _ h'
theorem QiM{P:Program}{l:List Oper}{m:Nat}(back:∀i o,l[i]?=some o->∀j∈Qf o,j<i)(chain:∀i o,m<i->l[i]?=some o->i-1∈Qf o){Q:Exit->Act->World->Prop}{rd:Option Nat}:
  ∀(fuel t:Nat) (L:Array Bool) (a:Act) (w:World),L.size=l.length->(∀i,i<l.length->(onL L i↔i<t))->unl L<=fuel->m<=t->t<=l.length->
   wpL P rd l.toArray Q (l.drop t) a w->wpAnyIn (WF rd) 0 P .any l.toArray Q fuel L a w:=by
 intro fuel
 induction fuel with
 |zero=>
  intro t L a w hsz hL hf hm ht h
  have:t=l.length:=by
   rcases Nat.lt_or_ge t l.length with q|q
   ·have:=Qh0 (L:=L) (i:=t) (by omega) (fun z=>by have:=(hL t q).1 z;omega);omega
   ·omega
  subst this
  refine⟨List.eq_nil_iff_forall_not_mem.2 fun i hi=>?_,?_⟩
  ·obtain⟨o,h1,h2,_⟩:=(QaA hsz).1 hi
   have hi':=(List.getElem?_eq_some_iff.1 h1).1
   exact h2 ((hL i hi').2 hi')
  ·rw[List.drop_length]at h;exact h
 |succ fuel ih=>
  intro t L a w hsz hL hf hm ht h
  have key:∀i o,l[i]?=some o->¬onL L i->(∀j∈Qf o,onL L j)->i=t:=by
   intro i o h1 h2 h3
   have hi':=(List.getElem?_eq_some_iff.1 h1).1
   have hge:t<=i:=by
    rcases Nat.lt_or_ge i t with q|q
    ·exact absurd ((hL i hi').2 q) h2
    ·exact q
   rcases Nat.lt_or_ge t i with q|q
   ·have:=(hL (i-1) (by omega)).1 (h3 _ (chain i o (by omega) h1))
    omega
   ·omega
  rcases Nat.lt_or_ge t l.length with htl|htl
  ·have ho:l[t]?=some l[t]:=List.getElem?_eq_getElem htl
   have htn:¬onL L t:=fun q=>by have:=(hL t htl).1 q;omega
   have hr:t∈Region.ready .any l.toArray L:=by
    refine(QaA hsz).2 ⟨_,ho,htn,fun j hj=>?_⟩
    have:=back t _ ho j hj
    exact(hL j (by omega)).2 this
   refine⟨fun q=>(by rw[q]at hr;cases hr),fun i hi=>?_⟩
   obtain⟨o,h1,h2,h3⟩:=(QaA hsz).1 hi
   obtain rfl:=key i o h1 h2 h3
   rw[List.drop_eq_getElem_cons htl]at h
   obtain rfl:l[i]=o:=by rw[List.getElem?_eq_getElem htl]at h1;exact Option.some.inj h1
   unfold wpOpIn
   rw[show l.toArray[i]?=some l[i]by rw[List.getElem?_toArray];exact h1]
   simp only
   unfold wpL wpListIn at h
   have nx:∀a w,wpL P rd l.toArray Q (l.drop (i+1)) a w->wpAnyIn (WF rd) 0 P .any l.toArray Q fuel (L.setIfInBounds i true) a w:=by
    intro a w q
    have hu:=Qfo (L:=L) (i:=i) (by omega) htn
    refine ih (i+1) _ a w (by simpa using hsz) (fun j hj=>?_) (by omega) (by omega) (by omega) q
    rw[Y3 (by omega),hL j hj]
    omega
   split at h
   ·rename_i hw;rw[if_pos hw];exact Oper.wpIn_mono nx h
   ·rename_i hw;rw[if_neg hw];exact⟨h.1,nx _ _ h.2⟩
  ·have:t=l.length:=by omega
   subst this
   rw[List.drop_length]at h
   refine⟨fun _=>h,fun i hi=>?_⟩
   obtain⟨o,h1,h2,_⟩:=(QaA hsz).1 hi
   have hi':=(List.getElem?_eq_some_iff.1 h1).1
   exact absurd ((hL i hi').2 hi') h2
def QkY(af ds:List Nat)(xs:List A)(env0 e:Env):Prop:=
 ∀s,(∃j x,af.contains j=true/\ds[j]?=some s/\xs[j]?=some x/\lk e s=x)\/lk e s=.any\/(ds.contains s=false/\lk e s=lk env0 s)
inductive Y8 (P:Program) (N:Nat) (l:List Oper) (ds:List Nat) (xs:List A) (env0:Env) (hB hE:Nat) (i:Nat) (H H':Qc):Prop
 |mk (o:Oper) (e:Env) (d:Nat) (x:A) (ho:l[i]?=some o) (hd:o.dst=some d) (hx:xs[i]?=some x) (hdd:Qan hB hE H H'=true) (hs:Sb (Qf o) (QhF l i) ds xs env0 e)
   (h:WO P H.length N l.toArray [o] e H (YE (up e d x) H')):Y8 P N l ds xs env0 hB hE i H H'
 |unit (o:Oper) (e:Env) (ho:l[i]?=some o) (hd:o.dst=none) (hx:xs[i]?=some .any) (hdd:Qan hB hE H H'=true) (hs:Sb (Qf o) (QhF l i) ds xs env0 e)
   (h:WO P H.length N l.toArray [o] e H (YE e H')):Y8 P N l ds xs env0 hB hE i H H'
 |alloc (o:Oper) (d t p:Nat) (cs:List A) (ho:l[i]?=some o) (hd:o.dst=some d) (hg:o.guard=none) (hx:xs[i]?=some (.ptr p 0)) (hp:(Nat.ble hB p&&Nat.blt p hE)=true) (hdead:QbX H[p]?=true)
   (hH:H.set p (.cells t cs)=H') (h:OpZ P o t cs) (hN:Nat.blt d N=true):Y8 P N l ds xs env0 hB hE i H H'
 |val (o:Oper) (e:Env) (d:Nat) (x:A) (ho:l[i]?=some o) (hd:o.dst=some d) (hg:o.guard=none) (hx:xs[i]?=some x) (hN:Nat.blt d N=true) (he:QkY (Qf o) ds xs env0 e) (h:OpV P o e H x)
   (hH:H=H':=by rfl):Y8 P N l ds xs env0 hB hE i H H'
 |woE (o:Oper) (e:Env) (d:Nat) (x:A) (ho:l[i]?=some o) (hd:o.dst=some d) (hx:xs[i]?=some x) (he:QkY (Qf o) ds xs env0 e) (hdd:Qan hB hE H H'=true) (h:WO P H.length N l.toArray [o] e H (YE (up e d x) H')):Y8 P N l ds xs env0 hB hE i H H'
theorem Sb.rel{af bf ds:List Nat}{xs:List A}{env0 e:Env}{ro:Nat->Prop}{σ:Sig}{w:World}{a:Act}(hs:Sb af bf ds xs env0 e)
  (hD:∀j∈af,∀s x,ds[j]?=some s->xs[j]?=some x->VR ro σ w x (a.tmps.getD s undef))
  (hO:∀s,ds.contains s=false->VR ro σ w (lk env0 s) (a.tmps.getD s undef))(hP:∀j s,bf.contains j=true->ds[j]?=some s->VR ro σ w (lk env0 s) (a.tmps.getD s undef)):
  ∀s,VR ro σ w (lk e s) (a.tmps.getD s undef):=by
 intro s
 induction hs with
 |nil=>exact trivial
 | @dep j s1 x1 r h1 h2 h3 _ ih=>
  unfold lk
  cases hb:Nat.beq s s1 with
  |false=>exact ih
  |true=>
   obtain rfl:=Nat.eq_of_beq_eq_true hb
   exact hD j (by simpa using h1) _ _ h2 h3
 | @old s1 x1 r h1 h2 _ ih=>
  unfold lk
  cases hb:Nat.beq s s1 with
  |false=>exact ih
  |true=>
   obtain rfl:=Nat.eq_of_beq_eq_true hb
   subst h2
   exact hO _ h1
 | @pre j s1 x1 r h1 h2 h3 _ ih=>
  unfold lk
  cases hb:Nat.beq s s1 with
  |false=>exact ih
  |true=>
   obtain rfl:=Nat.eq_of_beq_eq_true hb
   subst h3
   exact hP j _ h1 h2
structure After (fr ro:Nat->Prop) (σ:Sig) (w:World) (hB hE:Nat) (H':Qc) (xs:List A) (i:Nat) (o:Oper) (a':Act) (w':World) (ro':Nat->Prop) (σ':Sig):Prop where
 val:∀x,xs[i]?=some x->match o.dst with
  |some d=>VR ro' σ' w' x (a'.tmps.getD d undef)
  |none=>x=.any
 sim:Sim fr ro' σ' H' w'
 ev:Qe fr ro w ro' w'
 ext:Ext ro σ w ro' σ' w'
 holes:Qin hB hE σ' H'
 take:σ'.take hB=σ.take hB
theorem Y8.use{P:Program}{N:Nat}{l:List Oper}{ds:List Nat}{xs:List A}{env0:Env}{hB hE i:Nat}{H H':Qc}(hb:Y8 P N l ds xs env0 hB hE i H H')
  {Q:Exit->Act->World->Prop}{K:Act->World->Prop}{fr ro:Nat->Prop}{σ:Sig}{a:Act}{w:World}{o:Oper}{rd:Option Nat}(ho:l[i]?=some o)
  (hsim:Sim fr ro σ H w)(hN:a.tmps.size=N)(hdef:Qcz fr a.defers w)(hrd:Qdo rd fr w)(hh:Qin hB hE σ H)(hl:hE<=H.length)(hBE:hB<=hE)
  (hD:∀j∈Qf o,∀s x,ds[j]?=some s->xs[j]?=some x->VR ro σ w x (a.tmps.getD s undef))
  (hO:∀s,ds.contains s=false->VR ro σ w (lk env0 s) (a.tmps.getD s undef))(hP:∀j s,(QhF l i).contains j=true->ds[j]?=some s->VR ro σ w (lk env0 s) (a.tmps.getD s undef))
  (hK:∀v w' ro' σ',After fr ro σ w hB hE H' xs i o (a.put o.dst v) w' ro' σ'->K (a.put o.dst v) w'):
  wpOpIn (WF rd) 0 P l.toArray Q i K a w:=by
 have post:∀{e:Env}{H2:Qc}{E:Exit}{a':Act}{w':World},Qbu H.length fr ro σ w N a.defers (YE e H2) E a' w'->E=.normal/\a'.defers=a.defers:=by
  rintro e H2 E a' w' ⟨x,_,_,_,_,_,h1,⟨rfl,_⟩,_,_,_,h2,_⟩
  refine⟨?_,h2⟩
  cases E<;>first|rfl|exact h1.elim|cases h1
 have hgen:∀{σ':Sig}{w':World},Qe fr ro w ro w'->σ'.take H.length=σ.take H.length->True:=fun _ _=>trivial
 have hold:∀{e:Env}{a':Act}{w':World},Qbu H.length fr ro σ w N a.defers (YE e H') .normal a' w'->Qan hB hE H H'=true->
   ∃ro' σ',Sim fr ro' σ' H' w'/\Qe fr ro w ro' w'/\Ext ro σ w ro' σ' w'/\Qin hB hE σ' H'/\σ'.take hB=σ.take hB/\ ∀s,VR ro' σ' w' (lk e s) (a'.tmps.getD s undef):=by
  rintro e a' w' ⟨_,env',H2,ro',σ',fr',_,⟨_,rfl,rfl⟩,r',he,ht,_,hgr⟩ hdd
  have hσ:σ'=σ++σ'.drop H.length:=by
   conv=>lhs;rw[<- List.take_append_drop H.length σ']
   rw[ht, <- hsim.len,List.take_length]
  refine⟨ro',σ',r'.sim.frMono hgr.sub,he,?_,?_,?_,r'.env⟩
  ·rw[hσ];exact he.ext σ _
  ·intro p h1 h2 h3
   have:=hh p h1 h2 (QiN hdd h1 h2 h3)
   rw[hσ,List.getElem?_append_left (by rw[hsim.len];omega)]
   exact this
  ·rw[hσ]
   exact Qy (by rw[hsim.len];omega)
 cases hb with
 |woE o' e d x ho' hd hx he hdd h=>
  obtain rfl:o'=o:=Option.some.inj (ho'.symm.trans ho)
  have hr:∀s,VR ro σ w (lk e s) (a.tmps.getD s undef):=fun s=>by
   rcases he s with⟨j,x,h1,h2,h3,h4⟩|h4|⟨h1,h4⟩
   ·rw[h4];exact hD j (by simpa using h1) s x h2 h3
   ·rw[h4];exact trivial
   ·rw[h4];exact hO s h1
  refine Qce ho (h rd fr ro σ a w ⟨hsim,hr,hN,hdef⟩ hrd) (fun _ _ _ q=>post q) (fun v w' q=>?_)
  obtain⟨ro',σ',g1,g2,g3,g4,g5,g6⟩:=hold q hdd
  refine hK v w' ro' σ' ⟨fun y hy=>?_,g1,g2,g3,g4,g5⟩
  obtain rfl:=Option.some.inj (hx.symm.trans hy)
  have:=g6 d
  unfold lk at this
  rw[Nat.beq_refl]at this
  rw[hd]at this⊢
  exact this
 |mk o' e d x ho' hd hx hdd hs h=>
  obtain rfl:o'=o:=Option.some.inj (ho'.symm.trans ho)
  refine Qce ho (h rd fr ro σ a w ⟨hsim,hs.rel hD hO hP,hN,hdef⟩ hrd) (fun _ _ _ q=>post q) (fun v w' q=>?_)
  obtain⟨ro',σ',g1,g2,g3,g4,g5,g6⟩:=hold q hdd
  refine hK v w' ro' σ' ⟨fun y hy=>?_,g1,g2,g3,g4,g5⟩
  obtain rfl:=Option.some.inj (hx.symm.trans hy)
  have:=g6 d
  unfold lk at this
  rw[Nat.beq_refl]at this
  rw[hd]at this⊢
  exact this
 |unit o' e ho' hd hx hdd hs h=>
  obtain rfl:o'=o:=Option.some.inj (ho'.symm.trans ho)
  refine Qce ho (h rd fr ro σ a w ⟨hsim,hs.rel hD hO hP,hN,hdef⟩ hrd) (fun _ _ _ q=>post q) (fun v w' q=>?_)
  obtain⟨ro',σ',g1,g2,g3,g4,g5,g6⟩:=hold q hdd
  refine hK v w' ro' σ' ⟨fun y hy=>?_,g1,g2,g3,g4,g5⟩
  obtain rfl:=Option.some.inj (hx.symm.trans hy)
  rw[hd]
 |val o' e d x ho' hd hg hx hNd he h hH=>
  obtain rfl:o'=o:=Option.some.inj (ho'.symm.trans ho)
  subst hH
  have hr:Rel fr ro σ H e N a w:=by
   refine⟨hsim,fun s=>?_,hN,hdef⟩
   rcases he s with⟨j,x,h1,h2,h3,h4⟩|h4|⟨h1,h4⟩
   ·rw[h4];exact hD j (by simpa using h1) s x h2 h3
   ·rw[h4];exact trivial
   ·rw[h4];exact hO s h1
  obtain⟨v0,h1,h2⟩:=h fr ro σ N a w hr
  have hw:Region.wanted o' (yielded l.toArray a.tmps)=true:=by unfold Region.wanted;rw[hg]
  refine Qce (R:=fun E a' w'=>E=.normal/\a'.defers=a.defers/\a'=a.put o'.dst v0/\w'=w) ho (Qax hw h1 ?_) (fun _ _ _ q=>⟨q.1,q.2.1⟩) (fun v w' q=>?_)
  ·unfold wpL wpListIn
   refine⟨rfl,?_,rfl,rfl⟩
   rw[hd];rfl
  ·obtain⟨_,_,q1,rfl⟩:=q
   refine hK v _ ro σ ⟨fun y hy=>?_,hsim,Qe.refl _ _ _,⟨fun _ q=>q,fun _ _=>rfl,fun _ _ q=>q,fun _ _ q=>q⟩,hh,rfl⟩
   obtain rfl:=Option.some.inj (hx.symm.trans hy)
   rw[q1,hd]
   have hdN:d<a.tmps.size:=by rw[hN];simpa using hNd
   show VR ro σ w' x _
   simpa[Act.put,Array.getD_eq_getD_getElem?,hdN]using h2
 |alloc o' d t p cs ho' hd hg hx hp hdead hH h hNd=>
  obtain rfl:o'=o:=Option.some.inj (ho'.symm.trans ho)
  subst hH
  simp only[Bool.and_eq_true]at hp
  have hp1:=Nat.le_of_ble_eq_true hp.1
  have hp2:p<hE:=by simpa using hp.2
  have hσp:=hh p hp1 hp2 hdead
  obtain⟨lv,h1,h2,h3⟩:=h ro σ w a
  have hw:Region.wanted o' (yielded l.toArray a.tmps)=true:=by unfold Region.wanted;rw[hg]
  have ev:Qe fr ro w ro (w.alloc (.cells lv.toArray t)):=Qe.alloc _ hsim.roLt hsim.frLt
  have hpl:p<σ.length:=by rw[hsim.len];omega
  have hext:Ext ro σ w ro (σ.set p (some w.heap.size)) (w.alloc (.cells lv.toArray t)):=⟨ev.sub,ev.keepRo,ev.shape,fun j b q=>by
   rw[List.getElem?_set_ne (fun z=>by subst z;rw[hσp]at q;cases q)];exact q⟩
  refine Qce (R:=fun E a' w'=>E=.normal/\a'.defers=a.defers/\a'=a.put o'.dst (.pointer (some ⟨w.heap.size,0,none⟩))/\w'=w.alloc (.cells lv.toArray t)) ho (Qax hw h1 ?_) (fun _ _ _ q=>⟨q.1,q.2.1⟩) (fun v w' q=>?_)
  ·unfold wpL wpListIn
   refine⟨rfl,?_,rfl,rfl⟩
   rw[hd];rfl
  ·obtain⟨_,_,q1,rfl⟩:=q
   refine hK v _ ro (σ.set p (some w.heap.size)) ⟨fun y hy=>?_,hsim.allocAt hσp ⟨lv,QX _ _,h2.mono hext,h3⟩,ev,hext,fun p' g1 g2 g3=>?_,?_⟩
   ·obtain rfl:=Option.some.inj (hx.symm.trans hy)
    rw[q1,hd]
    have hdN:d<a.tmps.size:=by rw[hN];simpa using hNd
    refine⟨w.heap.size,List.getElem?_set_self hpl,?_⟩
    simp[Act.put,Array.getD_eq_getD_getElem?,hdN]
   ·by_cases q:p'=p
    ·subst q
     rw[List.getElem?_set_self (by omega)]at g3
     cases g3
    ·rw[List.getElem?_set_ne (fun z=>q z.symm)]at g3⊢
     exact hh p' g1 g2 g3
   ·rw[List.take_set,List.set_eq_of_length_le]
    rw[List.length_take];omega
def same(a b:List Nat):Bool:=a.all (b.contains ·)&&b.all (a.contains ·)
theorem Qk8{a b:List Nat}(h:same a b=true)(i:Nat):i∈a↔i∈b:=by
 unfold same at h
 simp only[Bool.and_eq_true,List.all_eq_true,List.contains_iff_mem]at h
 exact⟨h.1 i,h.2 i⟩
structure QkZ (l:List Oper) (m:Nat) (ds:List Nat) (hs:List Bool) (rq ms:List (List Nat)) (pl:List (List (Nat×Nat))) (N:Nat):Prop where
 len:m<=l.length
 dst:∀i o,i<m->l[i]?=some o->(∃d,o.dst=some d/\ds[i]?=some d/\d<N)\/o.dst=none
 dsl:ds.length=m
 nodup:∀(i j d:Nat),ds[i]?=some d->ds[j]?=some d->i=j
 back:∀i o,l[i]?=some o->∀j∈Qf o,j<i
 mid:∀o,l[m]?=some o->∀j,j<m->QbS l m j
 chain:∀i o,m<i->l[i]?=some o->i-1∈Qf o
 rqs:∀i o,i<m->l[i]?=some o->∀h∈rq.getD i [],h<m/\hs.getD h false=true/\(h∈Qf o\/ ∃j∈Qf o,j<m/\h∈rq.getD j [])
 ms0:ms.getD 0 []=[]
 full:∀st,st<ms.length->st+1=ms.length\/ ∃i,i<m/\hs.getD i false=true/\i∉ms.getD st []
 msh:∀st h,h∈ms.getD st []->h<m/\hs.getD h false=true
 pls:∀i st,i<m->st<ms.length->(∀h∈rq.getD i [],h∈ms.getD st [])->(hs.getD i false=true->i∉ms.getD st [])->(∀h∈ms.getD st [],¬QbS l h i)->
  ∃st',(st,st')∈pl.getD i []/\st'<ms.length/\if hs.getD i false then∀j,j∈ms.getD st' []↔j=i\/j∈ms.getD st []else st'=st
theorem Qid{α:Type}{l:List α}{i:Nat}{d x:α}(h:l[i]?=some x):l.getD i d=x:=by rw[List.getD_eq_getElem?_getD,h];rfl
theorem QgH{P:Program}{l:List Oper}{m:Nat}{ds:List Nat}{hs:List Bool}{rq ms:List (List Nat)}{pl:List (List (Nat×Nat))}{N h0 hB hE:Nat}{xs:List A}{env0:Env}{Hs:List Qc}{Hk:Qc}
  (ok:QkZ l m ds hs rq ms pl N)(hxs:xs.length=m)(hHs:Hs.length=ms.length)(h0B:h0<=hB)(hBE:hB<=hE)(hh0:∀H∈Hs,hE<=H.length)
  (hob:∀i p,i<m->p∈pl.getD i []->Y8 P N l ds xs env0 hB hE i (Hs.getD p.1 []) (Hs.getD p.2 []))(hkk:Hs.getD (ms.length-1) []=Hk)
  {fr ro0:Nat->Prop}{σ0:Sig}{w0:World}{rd:Option Nat}{ds0:List Deferred}{R:Exit->Act->World->Prop}
  (hk:∀ro σ a w,Rel fr ro σ Hk (Qao ds xs env0) N a w->Qe fr ro0 w0 ro w->σ.take h0=σ0.take h0->a.defers=ds0->wpL P rd l.toArray R (l.drop m) a w)(hm0:Qcz fr ds0 w0)(hrd:Qdo rd fr w0):
  ∀(fuel:Nat) (L:Array Bool) (a:Act) (w:World) (ro:Nat->Prop) (σ:Sig) (st:Nat),
   L.size=l.length->unl L<=fuel->(∀i,m<=i->¬onL L i)->st<ms.length->Sim fr ro σ (Hs.getD st []) w->a.tmps.size=N->a.defers=ds0->
   (∀(i d:Nat) (x:A),onL L i->ds[i]?=some d->xs[i]?=some x->VR ro σ w x (a.tmps.getD d undef))->(∀s,(∀j,ds[j]?=some s->¬onL L j)->VR ro σ w (lk env0 s) (a.tmps.getD s undef))->
   Qe fr ro0 w0 ro w->σ.take h0=σ0.take h0->Qin hB hE σ (Hs.getD st [])->
   (∀i,i<m->onL L i->∀h∈rq.getD i [],onL L h)->(∀i,i<m->hs.getD i false=true->(onL L i↔i∈ms.getD st []))->
   (∀i o,onL L i->l[i]?=some o->∀j∈Qf o,onL L j)->
   wpAnyIn (WF rd) 0 P .any l.toArray R fuel L a w:=by
 have hlH:∀st,st<ms.length->hE<=(Hs.getD st []).length:=by
  intro st h
  have e:Hs[st]?=some Hs[st]:=List.getElem?_eq_getElem (by omega)
  rw[Qid e]
  exact hh0 _ (List.getElem_mem _)
 have fin:∀(fuel:Nat) (L:Array Bool) (a:Act) (w:World) (ro:Nat->Prop) (σ:Sig) (st:Nat),
   L.size=l.length->unl L<=fuel->(∀i,m<=i->¬onL L i)->st<ms.length->Sim fr ro σ (Hs.getD st []) w->a.tmps.size=N->a.defers=ds0->
   (∀(i d:Nat) (x:A),onL L i->ds[i]?=some d->xs[i]?=some x->VR ro σ w x (a.tmps.getD d undef))->(∀s,(∀j,ds[j]?=some s->¬onL L j)->VR ro σ w (lk env0 s) (a.tmps.getD s undef))->
   Qe fr ro0 w0 ro w->σ.take h0=σ0.take h0->
   (∀i,i<m->hs.getD i false=true->(onL L i↔i∈ms.getD st []))->(∀i,i<m->onL L i)->
   wpAnyIn (WF rd) 0 P .any l.toArray R fuel L a w:=by
  intro fuel L a w ro σ st hsz hu hsuf hst hsim hN hdef hD hE' hev htk hI2 hdone
  have hst':st=ms.length-1:=by
   rcases ok.full st hst with q|⟨i,h1,h2,h3⟩
   ·omega
   ·exact absurd ((hI2 i h1 h2).1 (hdone i h1)) h3
  rw[hst',hkk]at hsim
  refine QiM ok.back ok.chain fuel m L a w hsz (fun i hi=>⟨fun q=>?_,fun q=>hdone i q⟩) hu (Nat.le_refl _) ok.len ?_
  ·rcases Nat.lt_or_ge i m with z|z
   ·exact z
   ·exact absurd q (hsuf i z)
  ·have hr:Rel fr ro σ Hk (Qao ds xs env0) N a w:=by
    refine⟨hsim,fun s=>?_,hN,by rw[hdef];exact hm0.keep hev⟩
    rcases Qlh (env0:=env0) (by rw[ok.dsl,hxs]) s with⟨j,x,h1,h2,h3⟩|⟨h1,h2⟩
    ·rw[h3]
     have hj:j<m:=by have:=(List.getElem?_eq_some_iff.1 h1).1;rw[ok.dsl]at this;exact this
     exact hD j s x (hdone j hj) h1 h2
    ·rw[h2];exact hE' s (fun j q=>absurd (List.mem_of_getElem? q) (by simpa using h1))
   exact hk ro σ a w hr hev htk hdef
 intro fuel
 induction fuel with
 |zero=>
  intro L a w ro σ st hsz hu hsuf hst hsim hN hdef hD hE' hev htk hho hI1 hI2 hcl
  refine fin 0 L a w ro σ st hsz hu hsuf hst hsim hN hdef hD hE' hev htk hI2 (fun i hi=>?_)
  by_cases q:onL L i
  ·exact q
  ·have:=Qh0 (L:=L) (i:=i) (by have:=ok.len;omega) q
   omega
 |succ fuel ih=>
  intro L a w ro σ st hsz hu hsuf hst hsim hN hdef hD hE' hev htk hho hI1 hI2 hcl
  by_cases hdone:∀i,i<m->onL L i
  ·exact fin (fuel+1) L a w ro σ st hsz hu hsuf hst hsim hN hdef hD hE' hev htk hI2 hdone
  ·have hex:∃i,i<m/\ ¬onL L i:=by
    refine Classical.byContradiction fun q=>hdone fun i hi=>Classical.byContradiction fun z=>q ⟨i,hi,z⟩
   obtain⟨n,hn,hn2⟩:=hex
   obtain⟨i0,h1,h2,h3⟩:=least (p:=fun i=>¬onL L i) (fun i=>Classical.em _) n hn2
   have hlm:=ok.len
   have hi0:l[i0]?=some l[i0]:=List.getElem?_eq_getElem (by omega)
   have hr:i0∈Region.ready .any l.toArray L:=(QaA hsz).2 ⟨_,hi0,h2,fun j hj=>Classical.byContradiction fun z=>h3 j (ok.back i0 _ hi0 j hj) z⟩
   refine⟨fun q=>(by rw[q]at hr;cases hr),fun i hi=>?_⟩
   obtain⟨o,ho,hno,haf⟩:=(QaA hsz).1 hi
   have him:i<m:=by
    rcases Nat.lt_or_ge i m with q|q
    ·exact q
    ·exfalso
     rcases Nat.lt_or_ge m i with z|z
     ·exact hsuf (i-1) (by omega) (haf _ (ok.chain i o z ho))
     ·have:i=m:=by omega
      subst this
      have hre:∀j,QbS l i j->onL L j:=by
       intro j hj
       induction hj with
       |one ho' hj=>rw[ho]at ho';cases ho';exact haf _ hj
       |step _ ho' hj ihr=>exact hcl _ _ ihr ho' _ hj
      exact hn2 (hre n (ok.mid o ho n hn))
   have hrq:∀h∈rq.getD i [],onL L h:=by
    intro h hh
    obtain⟨_,_,q|⟨j,q1,q2,q3⟩⟩:=ok.rqs i o him ho h hh
    ·exact haf h q
    ·exact hI1 j q2 (haf j q1) h q3
   obtain⟨st',hp1,hp2,hp3⟩:=ok.pls i st him hst (fun h hh=>by
    obtain⟨q1,q2,_⟩:=ok.rqs i o him ho h hh
    exact(hI2 h q1 q2).1 (hrq h hh)) (fun q z=>hno ((hI2 i him q).2 z)) (fun h hh hR=>by
    obtain⟨q1,q2⟩:=ok.msh st h hh
    have hon:onL L h:=(hI2 h q1 q2).2 hh
    have hcl2:∀j,QbS l h j->onL L j:=by
     intro j hj
     induction hj with
     |one ho' hj=>exact hcl _ _ hon ho' _ hj
     |step _ ho' hj ihr=>exact hcl _ _ ihr ho' _ hj
    exact hno (hcl2 i hR))
   have hb:=hob i _ him hp1
   refine hb.use ho hsim hN (by rw[hdef];exact hm0.keep hev) (hrd.to hev fun _ q=>q) hho (hlH st hst) hBE (fun j hj s x q1 q2=>hD j s x (haf j hj) q1 q2) (fun s h1=>hE' s (fun j q=>absurd (List.mem_of_getElem? q) (by simpa using h1))) (fun j s h1 h2=>hE' s (fun j' q q'=>?_)) ?_
   ·obtain rfl:=ok.nodup j' j s q h2
    have hj:=List.mem_filter.1 (List.contains_iff_mem.1 h1)
    cases hlj:l[j']? with
    |none=>rw[hlj]at hj;simp at hj
    |some oj=>
     rw[hlj]at hj
     exact hno (hcl j' oj q' hlj i (by simpa using hj.2))
   intro v w' ro' σ' af
   have hext:=af.ext
   have hget:∀s,(∀d,o.dst=some d->s≠d)->(a.put o.dst v).tmps.getD s undef=a.tmps.getD s undef:=by
    intro s hs'
    cases hd:o.dst with
    |none=>rfl
    |some d=>
     simp only[Act.put,Array.getD_eq_getD_getElem?,Array.getElem?_setIfInBounds]
     rw[if_neg (fun q=>hs' d hd q.symm)]
   have hsize:(a.put o.dst v).tmps.size=N:=by
    cases hd:o.dst with
    |none=>simpa[Act.put]using hN
    |some d=>simpa[Act.put]using hN
   have hds:(a.put o.dst v).defers=ds0:=by
    cases hd:o.dst with
    |none=>simpa[Act.put]using hdef
    |some d=>simpa[Act.put]using hdef
   have hu':=Qfo (L:=L) (i:=i) (by omega) hno
   have hli:i<L.size:=by omega
   have hnd:∀s j,ds[j]?=some s->j≠i->∀d,o.dst=some d->s≠d:=by
    intro s j hj hji d hd q
    subst q
    rcases ok.dst i o him ho with⟨d',hd',hdi,hdN⟩|hd'
    ·rw[hd]at hd';cases hd'
     exact hji (ok.nodup j i _ hj hdi)
    ·rw[hd]at hd';cases hd'
   refine ih _ _ w' ro' σ' st' (by simpa using hsz) (by omega) (fun j hj q=>?_) hp2 af.sim hsize hds ?_ ?_ (hev.trans af.ev) ?_ af.holes ?_ ?_ ?_
   ·rcases(Y3 hli).1 q with z|z
    ·omega
    ·exact hsuf j hj z
   ·intro j s y hj hs1 hy
    by_cases hji:j=i
    ·subst hji
     have hv:=af.val y hy
     rcases ok.dst j o him ho with⟨d',hd',hdi,hdN⟩|hd'
     ·obtain rfl:s=d':=Option.some.inj (hs1.symm.trans hdi)
      simp only[hd']at hv⊢
      exact hv
     ·simp only[hd']at hv
      subst hv
      exact trivial
    ·rw[hget s (hnd s j hs1 hji)]
     rcases(Y3 hli).1 hj with z|z
     ·exact absurd z hji
     ·exact(hD j s y z hs1 hy).mono hext
   ·intro s hs1
    have hne:∀d,o.dst=some d->s≠d:=by
     rintro d hd rfl
     rcases ok.dst i o him ho with⟨d',hd',hdi,hdN⟩|hd'
     ·rw[hd]at hd';cases hd'
      exact hs1 i hdi ((Y3 hli).2 (.inl rfl))
     ·rw[hd]at hd';cases hd'
    rw[hget s hne]
    exact(hE' s (fun j q z=>hs1 j q ((Y3 hli).2 (.inr z)))).mono hext
   ·rw[<- htk]
    have:=congrArg (List.take h0) af.take
    rw[List.take_take,List.take_take,Nat.min_eq_left h0B]at this
    exact this
   ·intro j hj hj2 h hh
    refine(Y3 hli).2 (.inr ?_)
    rcases(Y3 hli).1 hj2 with z|z
    ·subst z;exact hrq h hh
    ·exact hI1 j hj z h hh
   ·intro j hj hj2
    rw[Y3 hli]
    cases q:hs.getD i false with
    |false=>
     have hji:j≠i:=by rintro rfl;rw[q]at hj2;cases hj2
     rw[q]at hp3
     simp only[Bool.false_eq_true,if_false]at hp3
     simp only[hji,false_or]
     rw[hp3]
     exact hI2 j hj hj2
    |true=>
     rw[q]at hp3
     simp only[if_true]at hp3
     rw[hp3 j,hI2 j hj hj2]
   ·intro j o' hj ho' j' hj'
    rcases(Y3 hli).1 hj with z|z
    ·subst z
     rw[ho]at ho';cases ho'
     exact(Y3 hli).2 (.inr (haf _ hj'))
    ·exact(Y3 hli).2 (.inr (hcl j o' z ho' j' hj'))
def Qda.dstB(N:Nat):Nat->List Oper->List Nat->Bool
 |_,_,[]=>true
 |i,o::r,d::ds=>(match o.dst with|some d'=>Nat.beq d' d&&Nat.blt d N|none=>true)&&Qda.dstB N (i+1) r ds
 |_,[],_::_=>false
def Qda.rqB(m:Nat)(hs:List Bool)(rq:List (List Nat)):Nat->List Oper->Bool
 |_,[]=>true
 |i,o::r=>(rq.getD i []).all (fun h=>Nat.blt h m&&hs.getD h false&&((Qf o).contains h||(Qf o).any fun j=>Nat.blt j m&&(rq.getD j []).contains h))&&Qda.rqB m hs rq (i+1) r
def Qhg(l:List Oper)(h:Nat):List Nat:=match l[h]? with
 |some o=>QdS l h (Qf o)
 |none=>[]
theorem Qiv{l:List Oper}{h j:Nat}(q:j∈Qhg l h):QbS l h j:=by
 unfold Qhg at q
 cases ho:l[h]? with
 |none=>rw[ho]at q;cases q
 |some o=>rw[ho]at q;exact QbB h (Qf o) (fun i hi=>.one ho hi) j q
def Qda.plB(l:List Oper)(m:Nat)(hs:List Bool)(rq ms:List (List Nat))(pl:List (List (Nat×Nat))):Bool:=
 (List.range m).all fun i=>(List.range ms.length).all fun st=>((ms.getD st []).any fun h=>(Qhg l h).contains i)|| !(rq.getD i []).all ((ms.getD st []).contains ·)||(hs.getD i false&&(ms.getD st []).contains i)||
  (pl.getD i []).any fun p=>Nat.beq p.1 st&&Nat.blt p.2 ms.length&&(bif hs.getD i false then same (ms.getD p.2 []) (i::ms.getD st [])else Nat.beq p.2 st)
def Qda(l:List Oper)(m N:Nat)(ds:List Nat)(hs:List Bool)(rq ms:List (List Nat))(pl:List (List (Nat×Nat))):Bool:=
 Nat.ble m l.length&&(ds.length==m)&&Qda.dstB N 0 l ds&&drawChk.nodupB ds&&drawChk.goB l m 0 l&&Qda.rqB m hs rq 0 l&&(ms.getD 0 []).isEmpty&&Nat.blt 0 ms.length
 &&((List.range ms.length).all fun st=>Nat.beq (st+1) ms.length||(List.range m).any fun i=>hs.getD i false&& !(ms.getD st []).contains i)&&Qda.plB l m hs rq ms pl&&(List.range ms.length).all fun st=>(ms.getD st []).all fun h=>Nat.blt h m&&hs.getD h false
theorem Qe9{N:Nat}:∀(l:List Oper) (ds:List Nat) (b:Nat),Qda.dstB N b l ds=true->∀(i d:Nat) (o:Oper),l[i]?=some o->ds[i]?=some d->
  (o.dst=some d/\d<N)\/o.dst=none:=by
 intro l
 induction l with
 |nil=>intro ds b h i d o h1;simp at h1
 |cons x r ih=>
  intro ds b h i d o h1 h2
  cases ds with
  |nil=>simp at h2
  |cons y ds=>
   simp only[Qda.dstB,Bool.and_eq_true]at h
   cases i with
   |zero=>
    simp at h1 h2;subst h1;subst h2
    have h:=h.1
    split at h
    ·rename_i d' hd
     simp only[Bool.and_eq_true]at h
     have e:=Nat.eq_of_beq_eq_true h.1
     subst e
     exact .inl ⟨hd,by simpa using h.2⟩
    ·rename_i hd
     exact .inr hd
   |succ i=>
    have:=ih ds (b+1) h.2 i d o (by simpa using h1) (by simpa using h2)
    exact this
theorem Qjz{m:Nat}{hs:List Bool}{rq:List (List Nat)}:∀(l:List Oper) (b:Nat),Qda.rqB m hs rq b l=true->∀(i:Nat) (o:Oper),l[i]?=some o->
  ∀h∈rq.getD (b+i) [],h<m/\hs.getD h false=true/\(h∈Qf o\/ ∃j∈Qf o,j<m/\h∈rq.getD j []):=by
 intro l
 induction l with
 |nil=>intro b h i o h1;simp at h1
 |cons x r ih=>
  intro b h i o h1
  simp only[Qda.rqB,Bool.and_eq_true]at h
  cases i with
  |zero=>
   simp at h1;subst h1
   intro k hk
   have:=List.all_eq_true.1 h.1 k (by simpa using hk)
   simp only[Bool.and_eq_true,Bool.or_eq_true,List.contains_iff_mem,List.any_eq_true]at this
   obtain⟨⟨q1,q2⟩,q3⟩:=this
   refine⟨by simpa using q1,q2,?_⟩
   rcases q3 with q|⟨j,q4,q5,q6⟩
   ·exact .inl q
   ·exact .inr ⟨j,q4,by simpa using q5,q6⟩
  |succ i=>
   have:=ih (b+1) h.2 i o (by simpa using h1)
   rw[show b+1+i=b+(i+1)by omega]at this
   exact this
theorem Qko{l:List Oper}{m N:Nat}{ds:List Nat}{hs:List Bool}{rq ms:List (List Nat)}{pl:List (List (Nat×Nat))}(h:Qda l m N ds hs rq ms pl=true):
  QkZ l m ds hs rq ms pl N/\0<ms.length:=by
 unfold Qda at h
 simp only[Bool.and_eq_true]at h
 obtain⟨⟨⟨⟨⟨⟨⟨⟨⟨⟨h1,h2⟩,h3⟩,h4⟩,h5⟩,h6⟩,h7⟩,h8⟩,h9⟩,h10⟩,h11⟩:=h
 have hlm:m<=l.length:=Nat.le_of_ble_eq_true h1
 have hds:ds.length=m:=by simpa using h2
 have g:=Qgn l 0 h5
 refine⟨⟨hlm,fun i o hi ho=>?_,hds,Qc3 h4,fun i o ho=>by have:=(g i o ho).1;simpa using this,fun o ho j hj=>QbB m (Qf o) (fun i hi=>.one ho hi) j ((g m o ho).2.1 (by omega) j hj),
  fun i o hi ho=>by have:=(g i o ho).2.2 (by omega);simpa using this,fun i o hi ho h hh=>by have:=Qjz l 0 h6 i o ho h (by simpa using hh);exact this,
  by simpa using h7,fun st hst=>?_,fun st h hh=>?_,fun i st hi hst hr hn hx=>?_⟩,by simpa using h8⟩
 ·have hdi:ds[i]?=some ds[i]:=List.getElem?_eq_getElem (by omega)
  rcases Qe9 l ds 0 h3 i _ o ho hdi with⟨q1,q2⟩|q1
  ·exact .inl ⟨_,q1,hdi,q2⟩
  ·exact .inr q1
 ·have:=List.all_eq_true.1 h9 st (List.mem_range.2 hst)
  simp only[Bool.or_eq_true,List.any_eq_true,Bool.and_eq_true,Bool.not_eq_true']at this
  rcases this with q|⟨i,q1,q2,q3⟩
  ·exact .inl (Nat.eq_of_beq_eq_true q)
  ·exact .inr ⟨i,List.mem_range.1 q1,q2,fun z=>by rw[List.contains_iff_mem.2 z]at q3;cases q3⟩
 ·have hst:st<ms.length:=by
   rcases Nat.lt_or_ge st ms.length with q|q
   ·exact q
   ·rw[List.getD_eq_getElem?_getD,List.getElem?_eq_none q]at hh;cases hh
  have:=List.all_eq_true.1 (List.all_eq_true.1 h11 st (List.mem_range.2 hst)) h hh
  simp only[Bool.and_eq_true]at this
  exact⟨by simpa using this.1,this.2⟩
 ·have:=List.all_eq_true.1 (List.all_eq_true.1 h10 i (List.mem_range.2 hi)) st (List.mem_range.2 hst)
  simp only[Bool.or_eq_true,Bool.not_eq_true']at this
  rcases this with((q|q)|q)|q
  ·exfalso
   obtain⟨h,hh,q⟩:=List.any_eq_true.1 q
   exact hx h hh (Qiv (List.contains_iff_mem.1 q))
  ·exfalso
   have:((rq.getD i []).all ((ms.getD st []).contains ·))=true:=List.all_eq_true.2 fun h hh=>List.contains_iff_mem.2 (hr h hh)
   rw[this]at q;cases q
  ·simp only[Bool.and_eq_true]at q
   exact absurd (List.contains_iff_mem.1 q.2) (hn q.1)
  ·obtain⟨p,hp,q⟩:=List.any_eq_true.1 q
   simp only[Bool.and_eq_true]at q
   obtain⟨⟨q1,q2⟩,q3⟩:=q
   have e:=Nat.eq_of_beq_eq_true q1
   refine⟨p.2,by rw[<- e];exact hp,by simpa using q2,?_⟩
   cases z:hs.getD i false with
   |true=>
    rw[z]at q3
    simp only[cond_true]at q3
    simp only[if_true]
    intro j
    rw[Qk8 q3 j,List.mem_cons]
   |false=>
    rw[z]at q3
    simp only[cond_false]at q3
    simp only[Bool.false_eq_true,if_false]
    exact Nat.eq_of_beq_eq_true q3
inductive QfT (P:Program) (N:Nat) (l:List Oper) (ds:List Nat) (xs:List A) (env0:Env) (hB hE:Nat):Nat->List (List (Qc×Qc))->Prop
 |nil {i:Nat}:QfT P N l ds xs env0 hB hE i []
 |cons {i:Nat}{s:List (Qc×Qc)}{r:List (List (Qc×Qc))} (h:∀p∈s,Y8 P N l ds xs env0 hB hE i p.1 p.2) (k:QfT P N l ds xs env0 hB hE (i+1) r):QfT P N l ds xs env0 hB hE i (s::r)
theorem QfT.get{P:Program}{N:Nat}{l:List Oper}{ds:List Nat}{xs:List A}{env0:Env}{hB hE b:Nat}{ss:List (List (Qc×Qc))}(h:QfT P N l ds xs env0 hB hE b ss):
  ∀(i:Nat) (s:List (Qc×Qc)),ss[i]?=some s->∀p∈s,Y8 P N l ds xs env0 hB hE (b+i) p.1 p.2:=by
 induction h with
 |nil=>intro i s h;simp at h
 | @cons b s0 r h _ ih=>
  intro i s hi
  cases i with
  |zero=>simp at hi;subst hi;exact h
  |succ i=>
   have:=ih i s (by simpa using hi)
   rw[show b+1+i=b+(i+1)by omega]at this
   exact this
theorem Qo{P:Program}{N:Nat}{l:List Oper}{ds:List Nat}{xs:List A}{env0:Env}{hB hE i:Nat}:∀p∈([]:List (Qc×Qc)),Y8 P N l ds xs env0 hB hE i p.1 p.2:=by
 intro p hp;cases hp
theorem Qd{P:Program}{N:Nat}{l:List Oper}{ds:List Nat}{xs:List A}{env0:Env}{hB hE i:Nat}{H H':Qc}{r:List (Qc×Qc)}(h:Y8 P N l ds xs env0 hB hE i H H')
  (k:∀p∈r,Y8 P N l ds xs env0 hB hE i p.1 p.2):∀p∈(H,H')::r,Y8 P N l ds xs env0 hB hE i p.1 p.2:=by
 intro p hp
 rcases List.mem_cons.1 hp with rfl|q
 ·exact h
 ·exact k p q
theorem Qft{P:Program}{h0 N:Nat}{id:Nat}{l:List Oper}{env:Env}{H:Qc}{fr ro:Nat->Prop}{σ:Sig}{a:Act}{w:World}{rd:Option Nat}{R:Exit->Act->World->Prop}(m c:Nat)(ds:List Nat)(hs:List Bool)(rq ms:List (List Nat))(pl:List (List (Nat×Nat)))(xs:List A)(Hs:List Qc)(Hk:Qc)
  (hm:P.follows .mixedOrders=true)(hc:Qda l m N ds hs rq ms pl=true)(hxs:Nat.beq xs.length m=true)(hHs:Nat.beq Hs.length ms.length=true)(h0B:Nat.ble h0 H.length=true)
  (hh:Hs.all (fun X=>Nat.ble (H.length+c) X.length)=true)(h0':Hs[0]?=some (H++List.replicate c .dead))(hk':Hs.getD (ms.length-1) []=Hk)
  (hob:QfT P N l ds xs env H.length (H.length+c) 0 (pl.map fun q=>q.map fun p=>(Hs.getD p.1 [],Hs.getD p.2 [])))(hpl:Nat.beq pl.length m=true)
  (r:Rel fr ro σ H env N a w)(hrd:Qdo rd fr w)
  (hk:∀ro' σ' a' w',Rel fr ro' σ' Hk (Qao ds xs env) N a' w'->Qe fr ro w ro' w'->σ'.take h0=σ.take h0->a'.defers=a.defers->wpL P rd l.toArray R (l.drop m) a' w'):(Code.region id l.toArray true).wpIn (WF rd) 0 P R a w:=by
 obtain⟨ok,hpos⟩:=Qko hc
 have hxs':=Nat.eq_of_beq_eq_true hxs
 have hHs':=Nat.eq_of_beq_eq_true hHs
 have hpl':=Nat.eq_of_beq_eq_true hpl
 have hev:Qe fr ro w ro {w with drawn:=w.drawn+1}:=⟨fun _ q=>q,fun _ _=>rfl,fun _ _=>rfl,Nat.le_refl _,fun _ _ q=>q,rfl,rfl,rfl,Nat.le_succ _⟩
 have hext:Ext ro σ w ro (σ++List.replicate c none) {w with drawn:=w.drawn+1}:=hev.ext σ _
 have hle:=r.sim.len
 have hHs0:Hs.getD 0 []=H++List.replicate c .dead:=Qid h0'
 have hc2:∀(i:Nat) (s:Option Nat) (x:Blk),(σ++List.replicate c none)[i]?=some s->(H++List.replicate c Blk.dead)[i]?=some x->(σ[i]?=some s/\H[i]?=some x)\/(s=none/\x=.dead):=by
  intro i s x h1 h2
  rcases Nat.lt_or_ge i σ.length with q|q
  ·rw[List.getElem?_append_left q]at h1
   rw[List.getElem?_append_left (by omega)]at h2
   exact .inl ⟨h1,h2⟩
  ·rw[List.getElem?_append_right q]at h1
   rw[List.getElem?_append_right (by omega)]at h2
   have a1:=List.mem_of_getElem? h1
   have a2:=List.mem_of_getElem? h2
   exact .inr ⟨(List.mem_replicate.1 a1).2,(List.mem_replicate.1 a2).2⟩
 have hsim:Sim fr ro (σ++List.replicate c none) (H++List.replicate c .dead) {w with drawn:=w.drawn+1}:=by
  refine⟨by simp[hle],r.sim.roOk.to (fun _ q=>q) (fun _ _=>rfl) r.sim.roLt,r.sim.frLt,r.sim.roFr,?_,?_,?_,
   r.sim.hidTo (· = ·) QJ (Nat.le_refl _) (fun _ _ _ _ _ _ _ q=>q) (fun _ _ _ _ _ _ _ q=>q) fun j d y g1 g2 g3=>.inl ?_⟩
  rotate_left 3
  ·rcases hc2 j _ _ g1 g2 with⟨q1,q2⟩|⟨q1,_⟩
   ·exact⟨j,y,rfl,q1,q2,(fun z=>z),fun c q=>q⟩
   ·cases q1
  ·intro i b blk h1 h2 h3
   rcases hc2 i _ _ h1 h2 with⟨q1,q2⟩|⟨q1,_⟩
   ·exact r.sim.own i b blk q1 q2 h3
   ·cases q1
  ·intro i j b x y h1 h2 h3 h4 h5 h6
   rcases hc2 i _ _ h1 h3 with⟨q1,q2⟩|⟨q1,_⟩
   ·rcases hc2 j _ _ h2 h4 with⟨q3,q4⟩|⟨q3,_⟩
    ·exact r.sim.inj i j b x y q1 q3 q2 q4 h5 h6
    ·cases q3
   ·cases q1
  ·intro i s x h1 h2
   rcases hc2 i _ _ h1 h2 with⟨q1,q2⟩|⟨q1,q2⟩
   ·exact BR.keep hext (fun b hb _=>rfl) (r.sim.blk i s x q1 q2) (fun _ _ _ _=>rfl)
   ·subst q2;exact trivial
 have hrep:∀i,¬onL (Array.replicate l.length false) i:=by
  intro i q
  unfold onL at q
  rw[Array.getElem?_replicate]at q
  split at q<;>simp at q
 have h0B':=Nat.le_of_ble_eq_true h0B
 refine wpIn_region_any hm ?_
 rw[List.size_toArray]
 refine QgH ok hxs' hHs' h0B' (Nat.le_add_right _ _) (fun X hX=>Nat.le_of_ble_eq_true (List.all_eq_true.1 hh X hX)) ?_ hk' (ro0:=ro) (σ0:=σ) (w0:=w) (ds0:=a.defers) hk r.defers hrd
  l.length _ a _ ro (σ++List.replicate c none) 0 (by simp) ?_ (fun i _=>hrep i) hpos (by rw[hHs0];exact hsim) r.size rfl (fun i d x q=>absurd q (hrep i)) (fun s _=>(r.env s).mono hext) hev (Qy (by omega)) ?_
  (fun i _ q=>absurd q (hrep i)) (fun i _ _=>⟨fun q=>absurd q (hrep i),fun q=>by rw[ok.ms0]at q;cases q⟩) (fun i o q=>absurd q (hrep i))
 ·intro i p hi hp
  have e:(pl.map fun q=>q.map fun p=>(Hs.getD p.1 [],Hs.getD p.2 []))[i]?=some ((pl.getD i []).map fun p=>(Hs.getD p.1 [],Hs.getD p.2 [])):=by
   rw[List.getElem?_map,List.getElem?_eq_getElem (by omega),List.getD_eq_getElem?_getD,List.getElem?_eq_getElem (by omega)]
   rfl
  have:=hob.get i _ e _ (List.mem_map.2 ⟨p,hp,rfl⟩)
  simpa using this
 ·unfold unl
  simp[List.countP_replicate]
 ·intro p h1 h2 h3
  rw[List.getElem?_append_right (by omega),List.getElem?_replicate,if_pos (by omega)]
theorem Qbt{P:Program}{h0 N:Nat}{id:Nat}{l:List Oper}{env:Env}{H:Qc}{Q:Qm}(m c:Nat)(ds:List Nat)(hs:List Bool)(rq ms:List (List Nat))(pl:List (List (Nat×Nat)))(xs:List A)(Hs:List Qc)(Hk:Qc)
  (hm:P.follows .mixedOrders=true)(hc:Qda l m N ds hs rq ms pl=true)(hxs:Nat.beq xs.length m=true)(hHs:Nat.beq Hs.length ms.length=true)(h0B:Nat.ble h0 H.length=true)
  (hh:Hs.all (fun X=>Nat.ble (H.length+c) X.length)=true)(h0':Hs[0]?=some (H++List.replicate c .dead))(hk':Hs.getD (ms.length-1) []=Hk)
  (hob:QfT P N l ds xs env H.length (H.length+c) 0 (pl.map fun q=>q.map fun p=>(Hs.getD p.1 [],Hs.getD p.2 [])))(hpl:Nat.beq pl.length m=true)
  (hk:WO P h0 N l.toArray (l.drop m) (Qao ds xs env) Hk Q):TC P h0 N (.region id l.toArray true) env H Q:=by
 intro rd fr ro σ a w r hrd
 refine Code.wpIn_mono (fun e a w q=>Qbu.postW q) (Qft m c ds hs rq ms pl xs Hs Hk hm hc hxs hHs h0B hh h0' hk' hob hpl r hrd fun ro' σ' a' w' hr hev htk hdf=>?_)
 have hkk:=hk rd fr ro' σ' a' w' hr (hrd.to hev fun _ q=>q)
 rw[hdf]at hkk
 exact Q4 (fun e a w q=>q.step hev htk) _ _ _ hkk
def draw0(l:List Oper)(m N:Nat)(ds:List Nat):Bool:=Nat.ble m l.length&&(ds.length==m)&&Qda.dstB N 0 l ds&&drawChk.nodupB ds&&drawChk.goB l m 0 l
inductive Oq (P:Program) (N:Nat) (l:List Oper) (ds:List Nat) (xs:List A) (env0:Env) (H:Qc):Nat->Nat->Prop
 |n {i:Nat}:Oq P N l ds xs env0 H i 0
 |c {i c:Nat} (h:Y8 P N l ds xs env0 H.length H.length i H H) (k:Oq P N l ds xs env0 H (i+1) c):Oq P N l ds xs env0 H i (c+1)
theorem Oq.get{P:Program}{N:Nat}{l:List Oper}{ds:List Nat}{xs:List A}{env0:Env}{H:Qc}{b c:Nat}(h:Oq P N l ds xs env0 H b c):∀i,i<c->Y8 P N l ds xs env0 H.length H.length (b+i) H H:=by
 induction h with
 |n=>intro i hi;omega
 | @c b c h _ ih=>
  intro i hi
  cases i with
  |zero=>exact h
  |succ i=>
   have:=ih i (by omega)
   rw[show b+1+i=b+(i+1)by omega]at this
   exact this
theorem Qkp{l:List Oper}{m N:Nat}{ds:List Nat}(h:draw0 l m N ds=true):QkZ l m ds [] [] [[]] (List.replicate m [(0,0)]) N:=by
 unfold draw0 at h
 simp only[Bool.and_eq_true]at h
 obtain⟨⟨⟨⟨h1,h2⟩,h3⟩,h4⟩,h5⟩:=h
 have hlm:m<=l.length:=Nat.le_of_ble_eq_true h1
 have hds:ds.length=m:=by simpa using h2
 have g:=Qgn l 0 h5
 refine⟨hlm,fun i o hi ho=>?_,hds,Qc3 h4,fun i o ho=>by have:=(g i o ho).1;simpa using this,fun o ho j hj=>QbB m (Qf o) (fun i hi=>.one ho hi) j ((g m o ho).2.1 (by omega) j hj),
  fun i o hi ho=>by have:=(g i o ho).2.2 (by omega);simpa using this,fun i o hi ho h hh=>by simp at hh,rfl,fun st hst=>.inl (by simp at hst;simp[hst]),fun st h hh=>by cases st<;>simp at hh,fun i st hi hst _ _ _=>?_⟩
 ·have hdi:ds[i]?=some ds[i]:=List.getElem?_eq_getElem (by omega)
  rcases Qe9 l ds 0 h3 i _ o ho hdi with⟨q1,q2⟩|q1
  ·exact .inl ⟨_,q1,hdi,q2⟩
  ·exact .inr q1
 ·have:st=0:=by simp at hst;exact hst
  subst this
  refine⟨0,?_,by simp,by simp⟩
  rw[List.getD_eq_getElem?_getD,List.getElem?_replicate,if_pos hi]
  exact List.mem_singleton.2 rfl
theorem Qcb{P:Program}{h0 N:Nat}{id:Nat}{l:List Oper}{env:Env}{H:Qc}{fr ro:Nat->Prop}{σ:Sig}{a:Act}{w:World}{rd:Option Nat}{R:Exit->Act->World->Prop}(m:Nat)(ds:List Nat)(xs:List A)
  (hm:P.follows .mixedOrders=true)(hc:Go.Sw.draw0 l m N ds=true)(hxs:Nat.beq xs.length m=true)(h0B:Nat.ble h0 H.length=true)
  (hob:Oq P N l ds xs env H 0 m)(r:Rel fr ro σ H env N a w)(hrd:Qdo rd fr w)
  (hk:∀ro' σ' a' w',Rel fr ro' σ' H (Qao ds xs env) N a' w'->Qe fr ro w ro' w'->σ'.take h0=σ.take h0->a'.defers=a.defers->wpL P rd l.toArray R (l.drop m) a' w'):(Code.region id l.toArray true).wpIn (WF rd) 0 P R a w:=by
 have ok:=Qkp hc
 have hxs':=Nat.eq_of_beq_eq_true hxs
 have hev:Qe fr ro w ro {w with drawn:=w.drawn+1}:=⟨fun _ q=>q,fun _ _=>rfl,fun _ _=>rfl,Nat.le_refl _,fun _ _ q=>q,rfl,rfl,rfl,Nat.le_succ _⟩
 have hext:Ext ro σ w ro σ {w with drawn:=w.drawn+1}:=hev.ext0 σ
 have hsim:Sim fr ro σ H {w with drawn:=w.drawn+1}:=r.sim.heap rfl
 have hrep:∀i,¬onL (Array.replicate l.length false) i:=by
  intro i q
  unfold onL at q
  rw[Array.getElem?_replicate]at q
  split at q<;>simp at q
 refine wpIn_region_any hm ?_
 rw[List.size_toArray]
 refine QgH (hB:=H.length) (hE:=H.length) (Hs:=[H]) (Hk:=H) ok hxs' rfl (Nat.le_of_ble_eq_true h0B) (Nat.le_refl _) (fun X hX=>by rw[List.mem_singleton.1 hX];exact Nat.le_refl _) ?_ rfl (ro0:=ro) (σ0:=σ) (w0:=w) (ds0:=a.defers) hk r.defers hrd
  l.length _ a _ ro σ 0 (by simp) ?_ (fun i _=>hrep i) (by simp) hsim r.size rfl (fun i d x q=>absurd q (hrep i)) (fun s _=>(r.env s).mono hext) hev rfl (fun p h1 h2=>by omega)
  (fun i _ q=>absurd q (hrep i)) (fun i _ _=>⟨fun q=>absurd q (hrep i),fun q=>by cases q⟩) (fun i o q=>absurd q (hrep i))
 ·intro i p hi hp
  rw[List.getD_eq_getElem?_getD,List.getElem?_replicate,if_pos hi]at hp
  obtain rfl:=List.mem_singleton.1 hp
  have:=hob.get i hi
  rw[Nat.zero_add]at this
  exact this
 ·unfold unl
  simp[List.countP_replicate]
theorem TC.draw0{P:Program}{h0 N:Nat}{id:Nat}{l:List Oper}{env:Env}{H:Qc}{Q:Qm}(m:Nat)(ds:List Nat)(xs:List A)
  (hm:P.follows .mixedOrders=true)(hc:Go.Sw.draw0 l m N ds=true)(hxs:Nat.beq xs.length m=true)(h0B:Nat.ble h0 H.length=true)
  (hob:Oq P N l ds xs env H 0 m)(hk:WO P h0 N l.toArray (l.drop m) (Qao ds xs env) H Q):TC P h0 N (.region id l.toArray true) env H Q:=by
 intro rd fr ro σ a w r hrd
 refine Code.wpIn_mono (fun e a w q=>Qbu.postW q) (Qcb m ds xs hm hc hxs h0B hob r hrd fun ro' σ' a' w' hr hev htk hdf=>?_)
 have hkk:=hk rd fr ro' σ' a' w' hr (hrd.to hev fun _ q=>q)
 rw[hdf]at hkk
 exact Q4 (fun e a w q=>q.step hev htk) _ _ _ hkk
section
variable {P:Program}{N:Nat}{l:List Oper}{ds af bf:List Nat}{xs:List A}{env0 e r:Env}{H H':Qc}{i hB hE:Nat}{o:Oper}{d s:Nat}{x a:A}
theorem sN:Sb af bf ds xs env0 []:=.nil
theorem sD(j:Nat)(k:Sb af bf ds xs env0 r)(h1:af.contains j=true:=by exact rfl)(h2:ds[j]?=some s:=by exact rfl)(h3:xs[j]?=some a:=by exact rfl):Sb af bf ds xs env0 ((s,a)::r):=.dep j h1 h2 h3 k
theorem sP(j:Nat)(k:Sb af bf ds xs env0 r)(h1:bf.contains j=true:=by exact rfl)(h2:ds[j]?=some s:=by exact rfl)(h3:lk env0 s=a:=by exact rfl):Sb af bf ds xs env0 ((s,a)::r):=.pre j h1 h2 h3 k
theorem Qdb(H:Qc):Qan hB hE H H=true:=by
 unfold Qan
 refine List.all_eq_true.2 fun p _=>?_
 cases QbX H[hB+p]? <;>rfl
theorem Om(ho:l[i]?=some o)(hs:Sb (Qf o) (QhF l i) ds xs env0 e)(h:WO P H.length N l.toArray [o] e H (YE (up e d x) H))(hd:o.dst=some d:=by exact rfl)(hx:xs[i]?=some x:=by exact rfl):Y8 P N l ds xs env0 hB hE i H H:=
 .mk o e d x ho hd hx (Qdb H) hs h
theorem Om1(ho:l[i]?=some o)(hs:Sb (Qf o) (QhF l i) ds xs env0 e)(h:WO P H.length N l.toArray [o] e H (YE (up e d x) H'))(hd:o.dst=some d:=by exact rfl)(hx:xs[i]?=some x:=by exact rfl)(hdd:Qan hB hE H H'=true:=by exact rfl):Y8 P N l ds xs env0 hB hE i H H':=
 .mk o e d x ho hd hx hdd hs h
theorem Om2(ho:l[i]?=some o)(hs:Sb (Qf o) (QhF l i) ds xs env0 e)(h:WO P H.length N l.toArray [o] e H (YE e H'))(hd:o.dst=none:=by exact rfl)(hx:xs[i]?=some .any:=by exact rfl)(hdd:Qan hB hE H H'=true:=by exact rfl):Y8 P N l ds xs env0 hB hE i H H':=
 .unit o e ho hd hx hdd hs h
end
end Go.Sw
namespace Go.Sw
structure TyI where
 fld:List (Nat×Nat×Nat)
 agg:List (Nat×Bool×Nat)
 zer:List (Nat×List A×List (Nat×Nat))
structure TyOK (P:Program) (T:TyI):Prop where
 fld:∀e∈T.fld,∃n,YP P e.1 e.2.1 e.2.2 n
 agg:∀e∈T.agg,(∀w,(isAgg e.1).run P w=.ok e.2.1 w)/\ ∀w,(sizeOf e.1).run P w=.ok e.2.2 w
 zer:∀e∈T.zer,(∃z,(∀w,(zeroValue e.1).run P w=.ok z w)/\ZR (.agg e.2.1) z)/\Qv P e.1 e.2.2
def Qgr:List (Nat×Nat×Nat)->Nat->Nat->Option Nat
 |[],_,_=>none
 |(a,b,c)::r,t,f=>bif Nat.beq a t&&Nat.beq b f then some c else Qgr r t f
def QbJ{β:Type}:List (Nat×β)->Nat->Option β
 |[],_=>none
 |(a,b)::r,t=>bif Nat.beq a t then some b else QbJ r t
theorem Qgq{l:List (Nat×Nat×Nat)}{t f c:Nat}(h:Qgr l t f=some c):(t,f,c)∈l:=by
 induction l with
 |nil=>cases h
 |cons x r ih=>
  obtain⟨a,b,d⟩:=x
  unfold Qgr at h
  cases q:(Nat.beq a t&&Nat.beq b f)with
  |true=>
   rw[q]at h
   simp only[Bool.and_eq_true]at q
   have e1:=Nat.eq_of_beq_eq_true q.1
   have e2:=Nat.eq_of_beq_eq_true q.2
   simp only[cond_true,Option.some.injEq]at h
   subst e1 e2 h
   exact .head _
  |false=>rw[q]at h;exact .tail _ (ih h)
theorem Qaq{β:Type}{l:List (Nat×β)}{t:Nat}{c:β}(h:QbJ l t=some c):(t,c)∈l:=by
 induction l with
 |nil=>cases h
 |cons x r ih=>
  obtain⟨a,b⟩:=x
  unfold QbJ at h
  cases q:Nat.beq a t with
  |true=>
   rw[q]at h
   have e1:=Nat.eq_of_beq_eq_true q
   simp only[cond_true,Option.some.injEq]at h
   subst e1 h
   exact .head _
  |false=>rw[q]at h;exact .tail _ (ih h)
def QfI(H:Qc):A->Option (List A)
 |.rp cs=>some cs
 |.ptr i off=>match H[i]? with
  |some (.cells _ cs)=>some (cs.drop off)
  |_=>none
 |_=>none
theorem QhE{H:Qc}{p:A}{cs:List A}(h:QfI H p=some cs):Pts H p cs:=by
 unfold QfI at h
 split at h
 ·cases h;exact Pts.rp
 ·split at h
  ·rename_i hH
   cases h
   exact Pts.cells hH rfl
  ·cases h
 ·cases h
def Qjt(T:TyI)(o:Oper)(env:Env)(H:Qc):Option A:=
 match o.op with
 |.move x=>some (opA env x)
 |.assign x=>some (opA env x)
 |.fieldAddr t x f=>match Qgr T.fld t f with
  |none=>none
  |some off=>match opA env x with
   |.ptr i p=>some (.ptr i (p+off))
   |.rp cs=>some (.rp (cs.drop off))
   |_=>none
 |.load t x=>match QbJ T.agg t with
  |none=>none
  |some (b,n)=>match x with
   |.global g=>match Qhq[g]? with
    |some zs=>bif b&&Nat.beq zs.length n then some (.agg (zs.map (A.int .i64)))else none
    |none=>none
   |x=>match QfI H (opA env x)with
    |none=>none
    |some cs=>bif b then(bif Nat.beq (cs.take n).length n then some (.agg (cs.take n))else none)else cs.head?
 |.build t parts=>match QbJ T.zer t with
  |none=>none
  |some (zs,pl)=>match Qec env pl zs parts.toList with
   |some cs=>some (.agg cs)
   |none=>none
 |.extract x i=>match opA env x with
  |.tup vs=>vs[i]?
  |_=>none
 |.makeFunc f first cap=>some (.fn f (first.toList.map (opA env)) (cap.toList.map (opA env)))
 |_=>none
theorem Qjs{P:Program}{T:TyI}(hT:TyOK P T){o:Oper}{env:Env}{H:Qc}{x:A}(h:Qjt T o env H=some x):OpV P o env H x:=by
 unfold Qjt at h
 split at h
 ·rename_i y ho
  cases h;exact OpV.move ho rfl
 ·rename_i y ho
  cases h;exact OpV.assign ho rfl
 ·rename_i t y f ho
  split at h
  ·cases h
  ·rename_i off hf
   obtain⟨n,hn⟩:=hT.fld _ (Qgq hf)
   split at h
   ·rename_i i p hy
    cases h;exact Qb2 hn ho hy
   ·rename_i cs hy
    cases h;exact Qet hn ho hy rfl
   ·cases h
 ·rename_i t y ho
  split at h
  ·cases h
  ·rename_i b n ht
   obtain⟨h1,h2⟩:=hT.agg _ (Qaq ht)
   split at h
   ·rename_i g
    split at h
    ·rename_i zs hg
     cases q:(b&&Nat.beq zs.length n)with
     |false=>rw[q]at h;cases h
     |true=>
      rw[q]at h
      cases h
      simp only[Bool.and_eq_true]at q
      obtain⟨rfl,q2⟩:=q
      exact Qff h1 h2 hg (Nat.eq_of_beq_eq_true q2) ho
    ·cases h
   ·split at h
    ·cases h
    ·rename_i cs hc
     have hp:=QhE hc
     cases b with
     |true=>
      simp only[cond_true]at h
      cases q:Nat.beq (cs.take n).length n with
      |false=>rw[q]at h;cases h
      |true=>
       rw[q]at h
       cases h
       exact Qn ho h1 h2 rfl hp rfl (Nat.eq_of_beq_eq_true q)
     |false=>
      simp only[cond_false]at h
      cases cs with
      |nil=>cases h
      |cons v cs=>cases h;exact OpV.load ho h1 rfl hp
 ·rename_i t parts ho
  split at h
  ·cases h
  ·rename_i zs pl hz
   obtain⟨⟨z,h1,h2⟩,h3⟩:=hT.zer _ (Qaq hz)
   split at h
   ·rename_i cs hf
    cases h
    exact OpV.build h1 h2 h3 (by rw[ho]) hf
   ·cases h
 ·rename_i y i ho
  split at h
  ·rename_i vs hy
   exact OpV.extract ho hy h
  ·cases h
 ·rename_i f first cap ho
  cases h
  exact OpV.makeFunc (first:=first.toList) (cap:=cap.toList) (by rw[ho]) rfl rfl
 ·cases h
def QgE(af:List Nat):Nat->List Nat->List A->Env->Env
 |j,d::ds,x::xs,e=>(d,bif af.contains j then x else .any)::QgE af (j+1) ds xs e
 |_,_,_,e=>e
theorem Qlw{af:List Nat}{env0:Env}(s:Nat):∀(ds:List Nat) (xs:List A) (b:Nat),ds.length=xs.length->
  (∃(j:Nat) (x:A),ds[j]?=some s/\xs[j]?=some x/\lk (QgE af b ds xs env0) s=bif af.contains (b+j)then x else .any)\/(ds.contains s=false/\lk (QgE af b ds xs env0) s=lk env0 s):=by
 intro ds
 induction ds with
 |nil=>intro xs b hl;right;exact⟨rfl,by unfold QgE;rfl⟩
 |cons d ds ih=>
  intro xs b hl
  cases xs with
  |nil=>cases hl
  |cons x xs=>
   cases q:Nat.beq s d with
   |true=>
    have e:=Nat.eq_of_beq_eq_true q
    subst e
    left
    refine⟨0,x,rfl,rfl,?_⟩
    simp only[QgE,lk,q,cond_true]
    rfl
   |false=>
    have hne:s≠d:=fun z=>by subst z;simp[Nat.beq_refl]at q
    simp only[QgE,lk,q,cond_false]
    rcases ih xs (b+1) (by simpa using hl)with⟨j,y,h1,h2,h3⟩|⟨h1,h2⟩
    ·left
     refine⟨j+1,y,by simpa using h1,by simpa using h2,?_⟩
     rw[show b+(j+1)=b+1+j by omega]
     exact h3
    ·right
     refine⟨?_,h2⟩
     rw[List.contains_cons,h1]
     simpa using hne
def Qh1(T:TyI)(N:Nat)(l:List Oper)(ds:List Nat)(xs:List A)(env0:Env)(H:Qc)(i:Nat):Option A:=
 match l[i]? with
 |none=>none
 |some o=>match o.guard,o.dst with
  |none,some d=>bif Nat.blt d N&&Nat.beq ds.length xs.length then Qjt T o (QgE (Qf o) 0 ds xs env0) H else none
  |_,_=>none
theorem Qlv{af ds:List Nat}{xs:List A}{env0:Env}(hl:ds.length=xs.length):QkY af ds xs env0 (QgE af 0 ds xs env0):=by
 intro s
 rcases Qlw (af:=af) (env0:=env0) s ds xs 0 hl with⟨j,x,h1,h2,h3⟩|h
 ·rw[Nat.zero_add]at h3
  cases q:af.contains j with
  |true=>rw[q]at h3;exact .inl ⟨j,x,q,h1,h2,h3⟩
  |false=>rw[q]at h3;exact .inr (.inl h3)
 ·exact .inr (.inr h)
theorem vQ{P:Program}{T:TyI}(hT:TyOK P T){N:Nat}{l:List Oper}{ds:List Nat}{xs:List A}{env0:Env}{hB hE i:Nat}{H:Qc}{x:A}(hx:xs[i]?=some x)(h:Qh1 T N l ds xs env0 H i=some x):Y8 P N l ds xs env0 hB hE i H H:=by
 unfold Qh1 at h
 split at h
 ·cases h
 ·rename_i o ho
  split at h
  ·rename_i d hg hd
   cases q:(Nat.blt d N&&Nat.beq ds.length xs.length)with
   |false=>rw[q]at h;cases h
   |true=>
    rw[q]at h
    simp only[Bool.and_eq_true]at q
    exact .val o _ d x ho hd hg hx q.1 (Qlv (Nat.eq_of_beq_eq_true q.2)) (Qjs hT h)
  ·cases h
abbrev I(n:Int):A:=.int .i64 n
theorem zc{a:A}{v:Value}{al:List A}{vl:List Value}(h:ZR a v)(k:ZL al vl):ZL (a::al) (v::vl):=ZL.cons h k
def zr1:A->Value->Bool
 |.int k n,.int k' n'=>decide (k=k')&&decide (n=n')
 |.bool b,.bool b'=>b==b'
 |.str s,.string s'=>s.isEmpty&&s'.data.toList.isEmpty
 |.rsl _ es,.slice none 0 0=>es.isEmpty
 |.nils,.slice none 0 0=>true
 |.nilp,.pointer none=>true
 |.nilf,.nilFunc=>true
 |.nilm,.map none=>true
 |.nilif,.nilIface=>true
 |_,_=>false
def zrL:List A->List Value->Bool
 |[],[]=>true
 |a::r,v::s=>zr1 a v&&zrL r s
 |_,_=>false
def zrB:A->Value->Bool
 |.agg r,.agg s=>zrL r s.toList
 |a,v=>zr1 a v
theorem Qjg{a:A}{v:Value}(h:zr1 a v=true):ZR a v:=by
 unfold zr1 at h
 split at h
 ·simp only[Bool.and_eq_true,decide_eq_true_eq]at h
  obtain⟨rfl,rfl⟩:=h
  exact ZR.int
 ·simp only[beq_iff_eq]at h
  subst h;exact ZR.bool
 ·rename_i s s'
  simp only[Bool.and_eq_true,List.isEmpty_iff]at h
  obtain⟨rfl,h2⟩:=h
  obtain⟨d⟩:=s'
  obtain⟨d⟩:=d
  have h2:d=[]:=h2
  subst h2
  exact ZR.str
 ·rename_i k es
  have h:es=[]:=List.isEmpty_iff.1 h
  subst h
  exact ZR.rsl (α:=A) (e:=fun x=>[x])
 ·exact ZR.nils
 ·exact ZR.nilp
 ·exact ZR.nilf
 ·exact ZR.nilm
 ·exact QlB
 ·cases h
theorem Qjf:∀{r:List A}{s:List Value},zrL r s=true->ZL r s
 |[],[],_=>ZL.nil
 |a::r,v::s,h=>by
  simp only[zrL,Bool.and_eq_true]at h
  exact ZL.cons (Qjg h.1) (Qjf h.2)
 |[],_::_,h=>by cases h
 |_::_,[],h=>by cases h
theorem zrC{a:A}{v:Value}(h:zrB a v=true):ZR a v:=by
 unfold zrB at h
 split at h
 ·rename_i r s
  have:=ZR.agg (Qjf h)
  simpa using this
 ·exact Qjg h
end Go.Sw
namespace Go.Sw
section
variable {P:Program}{o:Oper}{env:Env}{H:Qc}
end
end Go.Sw
namespace Go.Sw
structure TyX where
 ty:TyI
 al:List (Nat×A)
 sl:List Nat
structure Qa2 (P:Program) (T:TyX):Prop where
 ty:TyOK P T.ty
 al:∀e∈T.al,(∃z,(∀w,(zeroValue e.1).run P w=.ok z w)/\ZR e.2 z)/\Yc e.2=true/\(Q6 e.2).all Yo=true
 sl:∀t∈T.sl,∃et,∀w,(underlying t).run P w=.ok (.slice et) w
def YA(all:Array Oper)(o:Oper)(env:Env):Option Bool:=
 match o.guard with
 |none=>some true
 |some (j,c)=>match(all[j]?).bind (·.dst)with
  |none=>none
  |some d=>match lk env d with
   |.bool true=>some c
   |.bool false=>some (!c)
   |.tup []=>some false
   |_=>none
theorem Qx{all:Array Oper}{o:Oper}{env:Env}{b:Bool}(h:YA all o env=some b):Ql all o env b:=by
 unfold YA at h
 unfold Ql
 split at h
 ·rename_i q
  rw[q]
  cases h;rfl
 ·rename_i j c q
  rw[q]
  split at h
  ·cases h
  ·rename_i d q2
   refine⟨d,q2,?_⟩
   split at h
   ·rename_i q3;cases h;exact .inl ⟨true,q3,by simp⟩
   ·rename_i q3;cases h;exact .inl ⟨false,q3,by cases c<;>rfl⟩
   ·rename_i q3;cases h;exact .inr ⟨q3,rfl⟩
   ·cases h
def QcN:List Nat->Nat->Bool
 |[],_=>false
 |a::r,t=>bif Nat.beq a t then true else QcN r t
theorem Qfx{l:List Nat}{t:Nat}(h:QcN l t=true):t∈l:=by
 induction l with
 |nil=>cases h
 |cons a r ih=>
  unfold QcN at h
  cases q:Nat.beq a t with
  |true=>have:=Nat.eq_of_beq_eq_true q;subst this;exact .head _
  |false=>rw[q]at h;exact .tail _ (ih h)
inductive FL where
 |mk (l:List A)
def fl:List A->FL
 |[]=>.mk []
 |a::r=>match fl r with
  |.mk r'=>.mk (a::r')
theorem QbR:∀l:List A,fl l=.mk l
 |[]=>rfl
 |a::r=>by unfold fl;rw[QbR r]
inductive FB where
 |mk (l:List Blk)
def fb:List Blk->FB
 |[]=>.mk []
 |a::r=>match fb r with
  |.mk r'=>.mk (a::r')
theorem Qig:∀l:List Blk,fb l=.mk l
 |[]=>rfl
 |a::r=>by unfold fb;rw[Qig r]
inductive FN where
 |mk (n:Nat)
def fn:List Blk->Nat->FN
 |[],n=>.mk n
 |_::r,n=>fn r (n+1)
theorem Qj9:∀(l:List Blk) (n:Nat),fn l n=.mk (l.length+n)
 |[],n=>by simp[fn]
 |a::r,n=>by unfold fn;rw[Qj9 r];simp;omega
def Qif(env:Env)(pl:List (Nat×Nat)):List A->List (Nat×Operand)->Option (List A)
 |cs,[]=>some cs
 |cs,(i,x)::r=>match Yt pl i with
  |none=>none
  |some (off,size)=>match opB env x with
   |.mk a=>match fl (Q6 a)with
    |.mk vs=>bif Yc a&&Nat.beq vs.length size&&Nat.ble (off+size) cs.length then(match fl (splice cs off vs)with
     |.mk cs'=>Qif env pl cs' r)else none
theorem Qgu{env:Env}{pl:List (Nat×Nat)}:∀(parts:List (Nat×Operand)) (cs:List A),Qif env pl cs parts=Qec env pl cs parts
 |[],cs=>rfl
 |(i,x)::r,cs=>by
  unfold Qif Qec
  rw[Qav]
  cases pl[i]? with
  |none=>rfl
  |some q=>
   obtain⟨off,size⟩:=q
   cases h:opB env x with
   |mk a=>
    rw[Qu h]
    simp only[QbR]
    cases(Yc a&&Nat.beq (Q6 a).length size&&Nat.ble (off+size) cs.length)with
    |false=>rfl
    |true=>exact Qgu r _
def Qgi(env:Env):List Operand->List A
 |[]=>[]
 |x::r=>match opB env x with
  |.mk a=>a::Qgi env r
theorem Qch{env:Env}:∀l:List Operand,Qgi env l=l.map (opA env)
 |[]=>rfl
 |x::r=>by
  unfold Qgi
  cases h:opB env x with
  |mk a=>rw[List.map_cons,Qu h];show a::Qgi env r=_;rw[Qch r]
def ptX(H:Qc):Bx->Option Lx
 |.mk (.rp cs)=>some (.mk cs)
 |.mk (.ptr i off)=>match Yt H i with
  |some (.cells _ cs)=>some (QgG off cs)
  |_=>none
 |_=>none
theorem Qmm{H:Qc}{p:A}{cs:List A}(h:ptX H (.mk p)=some (.mk cs)):Pts H p cs:=by
 unfold ptX at h
 split at h
 ·rename_i q;cases q;cases h;exact Pts.rp
 ·rename_i i off q
  cases q
  split at h
  ·rename_i hH
   rw[Qav]at hH
   simp only[Option.some.injEq]at h
   exact Pts.cells hH (Qel h)
  ·cases h
 ·cases h
def QcE(T:TyX)(o:Oper)(env:Env)(H:Qc):Option A:=
 match o.op with
 |.move x=>match opB env x with|.mk a=>some a
 |.assign x=>match opB env x with|.mk a=>some a
 |.nilCheck x=>nlB (opB env x)
 |.extract x i=>exB (opB env x) i
 |.unOp u _ x=>unB u (opB env x)
 |.pick c x y=>piB (opB env c) (opB env x) (opB env y)
 |.binOp b _ x y _=>biB b (opB env x) (opB env y)
 |.fieldAddr t x f=>match Qgr T.ty.fld t f with
  |none=>none
  |some off=>match opB env x with
   |.mk (.ptr i p)=>some (.ptr i (p+off))
   |.mk (.rp cs)=>match QgG off cs with
    |.mk r=>some (.rp r)
   |_=>none
 |.load t x=>match QbJ T.ty.agg t with
  |none=>none
  |some (b,n)=>match x with
   |.global g=>match Yt Qhq g with
    |some zs=>bif b&&Nat.beq zs.length n then(match fl (zs.map (A.int .i64))with|.mk l=>some (.agg l))else none
    |none=>none
   |x=>match ptX H (opB env x)with
    |none=>none
    |some (.mk cs)=>match b with
     |true=>(match fl (cs.take n)with|.mk l=>bif Nat.beq l.length n then some (.agg l)else none)
     |false=>(match cs with|[]=>none|a::_=>some a)
 |.build t parts=>match QbJ T.ty.zer t with
  |none=>none
  |some (zs,pl)=>match Qif env pl zs parts.toList with
   |some cs=>some (.agg cs)
   |none=>none
 |.makeFunc f first cap=>match fl (Qgi env first.toList),fl (Qgi env cap.toList)with
  |.mk l,.mk l'=>some (.fn f l l')
 |.call c=>match c with
  |{callee:=.builtin .len,args:=⟨[x]⟩,argTypes:=⟨[t]⟩}=>bif QcN T.sl t then(match opB env x with
   |.mk (.osl _ 0 n _)=>some (.int .i64 n)
   |_=>none)else none
  |_=>none
 |_=>none
theorem Qap{P:Program}{T:TyX}(hT:Qa2 P T){o:Oper}{env:Env}{H:Qc}{x:A}(h:QcE T o env H=some x):OpV P o env H x:=by
 unfold QcE at h
 split at h
 ·rename_i y ho;exact Qbm ho (by unfold svB;exact h)
 ·rename_i y ho;exact Qbm ho (by unfold svB;exact h)
 ·rename_i y ho;exact Qbm ho (by unfold svB;exact h)
 ·rename_i y i ho;exact Qbm ho (by unfold svB;exact h)
 ·rename_i u t y ho;exact Qbm ho (by unfold svB;exact h)
 ·rename_i c y z ho;exact Qbm ho (by unfold svB;exact h)
 ·rename_i b t y z u ho;exact Qbm ho (by unfold svB;exact h)
 ·rename_i t y f ho
  split at h
  ·cases h
  ·rename_i off hf
   obtain⟨n,hn⟩:=hT.ty.fld _ (Qgq hf)
   split at h
   ·rename_i i p hy;cases h;exact Qb2 hn ho (Qu hy)
   ·rename_i cs hy
    cases q:QgG off cs with
    |mk r=>rw[q]at h;cases h;exact Qet hn ho (Qu hy) (Qel q)
   ·cases h
 ·rename_i t y ho
  split at h
  ·cases h
  ·rename_i b n ht
   obtain⟨h1,h2⟩:=hT.ty.agg _ (Qaq ht)
   split at h
   ·rename_i g
    split at h
    ·rename_i zs hg
     rw[Qav]at hg
     cases q:(b&&Nat.beq zs.length n)with
     |false=>rw[q]at h;cases h
     |true=>
      rw[q,QbR]at h
      cases h
      simp only[Bool.and_eq_true]at q
      obtain⟨rfl,q2⟩:=q
      exact Qff h1 h2 hg (Nat.eq_of_beq_eq_true q2) ho
    ·cases h
   ·cases e:opB env y with
    |mk p=>
     rw[e]at h
     split at h
     ·cases h
     ·rename_i cs hc
      have hp:=Qmm hc
      cases b with
      |true=>
       simp only[QbR]at h
       cases q:Nat.beq (cs.take n).length n with
       |false=>rw[q]at h;cases h
       |true=>
        rw[q]at h
        cases h
        exact Qn ho h1 h2 (Qu e) hp rfl (Nat.eq_of_beq_eq_true q)
      |false=>
       cases cs with
       |nil=>cases h
       |cons v cs=>cases h;exact OpV.load ho h1 (Qu e) hp
 ·rename_i t parts ho
  split at h
  ·cases h
  ·rename_i zs pl hz
   obtain⟨⟨z,h1,h2⟩,h3⟩:=hT.ty.zer _ (Qaq hz)
   split at h
   ·rename_i cs hf
    cases h
    rw[Qgu]at hf
    exact OpV.build h1 h2 h3 (by rw[ho]) hf
   ·cases h
 ·rename_i f first cap ho
  simp only[QbR]at h
  cases h
  rw[Qch,Qch]
  exact OpV.makeFunc (first:=first.toList) (cap:=cap.toList) (by rw[ho]) rfl rfl
 ·rename_i c ho
  split at h
  ·rename_i y t
   cases q:QcN T.sl t with
   |false=>rw[q]at h;cases h
   |true=>
    rw[q]at h
    simp only[cond_true]at h
    obtain⟨et,he⟩:=hT.sl t (Qfx q)
    split at h
    ·rename_i i n k q2
     cases h
     exact Qfg he ho rfl (Qu q2)
    ·cases h
  ·cases h
 ·cases h
def stX(T:TyX)(h0 N:Nat)(all:Array Oper)(o:Oper)(env:Env)(H:Qc):Option (Env×Qc):=
 match YA all o env with
 |none=>none
 |some false=>match o.dst with
  |none=>none
  |some d=>bif Nat.blt d N then some (up env d (.tup []),H)else none
 |some true=>match o.dst with
  |none=>match o.op with
   |.store t x y=>match opB env x,QbJ T.ty.agg t with
    |.mk (.ptr i off),some (_,n)=>match Yt H i with
     |some (.cells S cs)=>match opB env y with
      |.mk a=>match fl (Q6 a)with
       |.mk vs=>bif Nat.ble h0 H.length&&(Yc a&&(Nat.beq vs.length n&&(vs.all Yo&&Nat.ble (off+n) cs.length)))then(match fl (splice cs off vs)with
        |.mk cs'=>match fb (H.set i (.cells S cs'))with
         |.mk H'=>some (env,H'))else none
     |_=>none
    |_,_=>none
   |_=>none
  |some d=>bif Nat.blt d N then(match o.op with
   |.alloc t=>match QbJ T.al t with
    |some v=>bif Nat.ble h0 H.length then(match fn H 0,fl (Q6 v)with
     |.mk n,.mk cs=>match fb (H++[.cells t cs])with
      |.mk H'=>some (up env d (.ptr n 0),H'))else none
    |none=>none
   |.box t x=>match opB env x with
    |.mk a=>bif Nat.ble h0 H.length&&(Yc a&&(Q6 a).all Yo)then(match fn H 0,fl (Q6 a)with
     |.mk n,.mk cs=>match fb (H++[.cells t cs])with
      |.mk H'=>some (up env d (.ptr n 0),H'))else none
   |_=>match QcE T o env H with
    |some a=>some (up env d a,H)
    |none=>none)else none
def runX(T:TyX)(h0 N:Nat)(all:Array Oper):Nat->List Oper->Env->Qc->Option (List Oper×Env×Qc)
 |0,l,env,H=>some (l,env,H)
 |_+1,[],_,_=>none
 |n+1,o::l,env,H=>match stX T h0 N all o env H with
  |some (env',H')=>runX T h0 N all n l env' H'
  |none=>none
section
variable {P:Program}{T:TyX}{h0 N:Nat}{all:Array Oper}{l l':List Oper}{env env':Env}{H H':Qc}{Q:Qm}
theorem Qg6(hT:Qa2 P T){o:Oper}(h:stX T h0 N all o env H=some (env',H'))(k:WO P h0 N all l env' H' Q):WO P h0 N all (o::l) env H Q:=by
 unfold stX at h
 split at h
 ·cases h
 ·rename_i hw
  have hg:=Qx hw
  split at h
  ·cases h
  ·rename_i d hd
   cases q:Nat.blt d N with
   |false=>rw[q]at h;cases h
   |true=>rw[q]at h;cases h;exact WO.skip hg hd q k
 ·rename_i hw
  have hg:=Qx hw
  split at h
  ·rename_i hd
   split at h
   ·rename_i t x y ho
    split at h
    ·rename_i i off b n hx ht
     split at h
     ·rename_i S cs hH
      rw[Qav]at hH
      cases e:opB env y with
      |mk a=>
       rw[e]at h
       simp only[QbR,Qig]at h
       generalize hc:(Nat.ble h0 H.length&&(Yc a&&(Nat.beq (Q6 a).length n&&((Q6 a).all Yo&&Nat.ble (off+n) cs.length))))=c at h
       cases c with
       |false=>cases h
       |true=>
        cases h
        simp only[Bool.and_eq_true]at hc
        obtain⟨c1,c2,c3,c4,c5⟩:=hc
        obtain⟨_,hs⟩:=hT.ty.agg _ (Qaq ht)
        exact Qkx (Nat.le_of_ble_eq_true c1) hg hd (OpU.store ho (Qu hx) hH hs (Qu e) c2 rfl (Nat.eq_of_beq_eq_true c3) c4 c5 rfl) k
     ·cases h
    ·cases h
   ·cases h
  ·rename_i d hd
   cases q:Nat.blt d N with
   |false=>rw[q]at h;cases h
   |true=>
    rw[q]at h
    simp only[cond_true]at h
    split at h
    ·rename_i t ho
     split at h
     ·rename_i v hv
      cases c:Nat.ble h0 H.length with
      |false=>rw[c]at h;cases h
      |true=>
       rw[c]at h
       simp only[QbR,Qig,Qj9,cond_true,Nat.add_zero]at h
       cases h
       obtain⟨⟨z,z1,z2⟩,z3,z4⟩:=hT.al _ (Qaq hv)
       exact QfK (Nat.le_of_ble_eq_true c) hg hd q (QhR z1 z2 ho z3 rfl z4) k
     ·cases h
    ·rename_i t x ho
     cases e:opB env x with
     |mk a=>
      rw[e]at h
      simp only[QbR,Qig,Qj9,Nat.add_zero]at h
      generalize hc:(Nat.ble h0 H.length&&(Yc a&&(Q6 a).all Yo))=c at h
      cases c with
      |false=>cases h
      |true=>
       cases h
       simp only[Bool.and_eq_true]at hc
       obtain⟨c1,c2,c3⟩:=hc
       exact QfK (Nat.le_of_ble_eq_true c1) hg hd q (OpH.box ho (Qu e) c2 rfl c3) k
    ·split at h
     ·rename_i a ha
      cases h
      exact Yp hg hd q (Qap hT ha) k
     ·cases h
theorem AU(hT:Qa2 P T):∀(n:Nat) {l l':List Oper}{env env':Env}{H H':Qc},runX T h0 N all n l env H=some (l',env',H')->WO P h0 N all l' env' H' Q->WO P h0 N all l env H Q
 |0,l,l',env,env',H,H',h,k=>by cases h;exact k
 |n+1,[],l',env,env',H,H',h,k=>by cases h
 |n+1,o::l,l',env,env',H,H',h,k=>by
  unfold runX at h
  split at h
  ·rename_i e1 H1 hs
   exact Qg6 hT hs (AU hT n h k)
  ·cases h
end
theorem yc{α:Type}{p:α->Prop}{a:α}{l:List α}(h:p a)(k:∀x∈l,p x):∀x∈a::l,p x:=List.forall_mem_cons.2 ⟨h,k⟩
theorem FA{P:Program}{T f off n:Nat}{fs:Array Field}{fd:Field}(h1:∀w,(underlying T).run P w=.ok (.struct fs) w)(h2:fs[f]?=some fd)(h4:∀w,(sizeOf fd.type).run P w=.ok n w)(h3:fd.offset=off:=by exact rfl)(h5:n≠0:=by decide):YP P T f off n:=⟨_,_,h1,h2,h3,h4,h5⟩
theorem Qbn:∀(π:List Nat) (H:Qc) (xs:List Blk),π.map (fun p=>H[p]?)=xs.map some->Q1 H π xs=H
 |[],H,xs,h=>by
  have:xs=[]:=by cases xs with
   |nil=>rfl
   |cons x xs=>simp at h
  subst this;simp[Q1]
 |p::π,H,[],h=>by simp at h
 |p::π,H,x::xs,h=>by
  simp only[List.map_cons,List.cons.injEq]at h
  have e:H.set p x=H:=by
   apply List.ext_getElem?
   intro i
   rw[List.getElem?_set]
   by_cases q:p=i
   ·subst q
    rw[if_pos rfl,h.1]
    have:=(List.getElem?_eq_some_iff.1 h.1).1
    rw[if_pos this]
   ·rw[if_neg q]
  unfold Q1
  rw[e]
  exact Qbn π H xs h.2
def Qhc:A->Option Bx
 |.bool b=>some (.mk (.bool b))
 |.int k n=>some (.mk (.int k n))
 |.str s=>some (.mk (.str s))
 |.rsl k es=>some (.mk (.rsl k es))
 |_=>none
theorem Qh2{v v':A}(h:Qhc v=some (.mk v'))(ρ:Nat->Nat):Yg ρ v=v':=by
 cases v<;>first|(cases h;rfl)|cases h
theorem Pc{P:Program}{h0 N:Nat}{all:Array Oper}{o:Oper}{l:List Oper}{env:Env}{H:Qc}{Q:Qm}{d:Nat}{f:FuncId}{args argsc:List A}{Hc:Qc}{v v':A}(π:List Nat)(hd:o.dst=some d)(hop:OpC P o env H f args)(hC:C P f argsc Hc (fun a H1=>a=v/\H1=Hc))(hv:Qhc v=some (.mk v'))
  (k:WO P h0 N all l (up env d v') H Q)
  (hargs:args=Qaa (rho π H.length) argsc:=by exact rfl)(hH:π.map (fun p=>H[p]?)=(Hc.map (QG (rho π H.length))).map some:=by exact rfl)(hπ:π.Nodup:=by decide)
  (hg:Ql all o env true:=by exact rfl)(hN:Nat.blt d N=true:=by exact rfl)(hh:Nat.ble h0 H.length=true:=by exact rfl):WO P h0 N all (o::l) env H Q:=by
 refine Qz π hop hC ?_ hargs hH hπ hg hd hN hh
 rintro r H1 ⟨rfl,rfl⟩
 rw[Qh2 hv,Qbn π H _ hH]
 exact k
theorem Y9{i k:Nat}{es:List (List A)}:∀H:Qc,FzH i k es H H
 |[]=>.nil
 |_::r=>.keep (Y9 r)
def foN:Nat->FN
 |0=>.mk 0
 |n+1=>match foN n with
  |.mk m=>.mk (m+1)
theorem Qea:∀n,foN n=.mk n
 |0=>rfl
 |n+1=>by unfold foN;rw[Qea n]
mutual
def foA:A->Bx
 |.agg cs=>match foL cs with
  |.mk l=>.mk (.agg l)
 |.tup cs=>match foL cs with
  |.mk l=>.mk (.tup l)
 |.fn f a c=>match foL a,foL c with
  |.mk l,.mk l'=>.mk (.fn f l l')
 |.iface t v=>match foA v with
  |.mk v'=>.mk (.iface t v')
 |.ptr i off=>match foN i with
  |.mk i'=>.mk (.ptr i' off)
 |.osl i o n k=>match foN i with
  |.mk i'=>.mk (.osl i' o n k)
 |.map i=>match foN i with
  |.mk i'=>.mk (.map i')
 |a=>.mk a
def foL:List A->FL
 |[]=>.mk []
 |a::r=>match foA a,foL r with
  |.mk a',.mk r'=>.mk (a'::r')
end
mutual
theorem QfC:∀a:A,foA a=.mk a
 |.agg cs=>by unfold foA;rw[QbY cs]
 |.tup cs=>by unfold foA;rw[QbY cs]
 |.fn f a c=>by unfold foA;rw[QbY a,QbY c]
 |.iface t v=>by unfold foA;rw[QfC v]
 |.ptr i off=>by unfold foA;rw[Qea]
 |.osl i o n k=>by unfold foA;rw[Qea]
 |.map i=>by unfold foA;rw[Qea]
 |.any|.bool _|.int _ _|.str _|.nilp|.rp _|.nils|.rsl _ _|.nilf|.nilif|.nilm=>by rfl
theorem QbY:∀l:List A,foL l=.mk l
 |[]=>by rfl
 |a::r=>by unfold foL;rw[QfC a,QbY r]
end
inductive FE2 where
 |mk (l:List (List A))
def foE:List (List A)->FE2
 |[]=>.mk []
 |a::r=>match foL a,foE r with
  |.mk a',.mk r'=>.mk (a'::r')
theorem Qj8:∀l,foE l=.mk l
 |[]=>rfl
 |a::r=>by unfold foE;rw[QbY,Qj8 r]
def foH:List Blk->FB
 |[]=>.mk []
 |b::r=>match foH r with
  |.mk r'=>match b with
   |.cells t cs=>match foL cs with
    |.mk l=>.mk (.cells t l::r')
   |.rowr t k es=>match foE es with
    |.mk l=>.mk (.rowr t k l::r')
   |.dead=>.mk (.dead::r')
   |.row t k es=>.mk (.row t k es::r')
   |.map es=>.mk (.map es::r')
   |.iter c es=>.mk (.iter c es::r')
   |.fmap es=>.mk (.fmap es::r')
   |.mapO fz t k es=>.mk (.mapO fz t k es::r')
   |.ents t a b es=>match foN a,foN b with
    |.mk a',.mk b'=>.mk (.ents t a' b' es::r')
theorem Qhr:∀l,foH l=.mk l
 |[]=>rfl
 |b::r=>by
  unfold foH
  rw[Qhr r]
  cases b<;>simp only[QbY,Qj8,Qea]
def foS(env:Env)(H:Qc):Option (Env×Qc):=
 match foH H with
 |.mk H'=>match env with
  |[]=>some ([],H')
  |(d,a)::e=>match foA a with
   |.mk a'=>some ((d,a')::e,H')
theorem QmI(env:Env)(H:Qc):foS env H=some (env,H):=by
 unfold foS
 rw[Qhr]
 cases env with
 |nil=>rfl
 |cons p e=>obtain⟨d,a⟩:=p;simp only[QfC]
theorem FE{P:Program}{h0 N:Nat}{all:Array Oper}{l:List Oper}{env env':Env}{H H':Qc}{Q:Qm}(h:foS env H=some (env',H'))(k:WO P h0 N all l env' H' Q):WO P h0 N all l env H Q:=by
 rw[QmI]at h
 cases h
 exact k
def entB(b1 b2:Nat):List (List A)->Option (List Ent)
 |[]=>some []
 |[.ptr b off,.int .i64 lo,.int .i64 hi]::r=>match entB b1 b2 r with
  |none=>none
  |some l=>match Nat.beq b b2 with
   |true=>some (⟨true,off,lo,hi⟩::l)
   |false=>match Nat.beq b b1 with
    |true=>some (⟨false,off,lo,hi⟩::l)
    |false=>none
 |_=>none
theorem Qlx{b1 b2:Nat}:∀{es:List (List A)}{l:List Ent},entB b1 b2 es=some l->l.map (eC b1 b2)=es:=by
 intro es
 induction es with
 |nil=>intro l h;cases h;rfl
 |cons e r ih=>
  intro l h
  unfold entB at h
  split at h
  ·cases ‹_=[]›
  ·rename_i b off lo hi r' q
   cases q
   split at h
   ·cases h
   ·rename_i l' hl
    have e:=ih hl
    split at h
    ·rename_i q;cases h;have:=Nat.eq_of_beq_eq_true q;subst this;rw[List.map_cons,e];rfl
    ·split at h
     ·rename_i q;cases h;have:=Nat.eq_of_beq_eq_true q;subst this;rw[List.map_cons,e];rfl
     ·cases h
  ·cases h
theorem TE{P:Program}{h0 N:Nat}{all:Array Oper}{l:List Oper}{env:Env}{H:Qc}{Q:Qm}{t:Nat}{es:List (List A)}{L:List Ent}(i b1 b2:Nat)(hH:H[i]?=some (.rowr t 3 es))(h:entB b1 b2 es=some L)
  (k:WO P h0 N all l env (H.set i (.ents t b1 b2 L)) Q):WO P h0 N all l env H Q:=WO.le (Qjb hH (Qlx h)) k
theorem R1{P:Program}{h0:Nat}{fn:Func}{env:Env}{H Hc:Qc}{v:A}(s:Nat)(hr:fn.results= #[.tmp s])(hle:Le h0 env H [(s,v)] Hc):Qcr P h0 fn (fun a H=>a=v/\H=Hc) .ret env H:=
 ⟨[(s,v)],Hc,v,hle,Qcs.one hr (by show lk [(s,v)] s=v;unfold lk;rw[Nat.beq_refl];rfl),rfl,rfl⟩
theorem R2{P:Program}{h0:Nat}{fn:Func}{env:Env}{H Hc:Qc}{v v':A}(s t:Nat)(hr:fn.results= #[.tmp s,.tmp t])(hn:Nat.beq t s=false)(hle:Le h0 env H [(s,v),(t,v')] Hc):Qcr P h0 fn (fun a H=>a=.tup [v,v']/\H=Hc) .ret env H:=
 ⟨[(s,v),(t,v')],Hc,_,hle,QiY hr (by show lk [(s,v),(t,v')] s=v;unfold lk;rw[Nat.beq_refl];rfl) (by show lk [(s,v),(t,v')] t=v';unfold lk lk;rw[hn,Nat.beq_refl];rfl),rfl,rfl⟩
theorem FzA.o{i k n:Nat}{es:List (List A)}(hn:n=es.length:=by first|exact(List.length_map ..).symm|exact rfl):FzA i k es (.osl i 0 n k) (.rsl k es):=FzA.own hn
end Go.Sw
namespace Go.Sw
theorem Le.env{h0:Nat}{env env':Env}{H:Qc}(h:∀s,lk env' s=.any\/lk env' s=lk env s):Le h0 env H env' H:=by
 intro fr ro σ N a w r
 refine⟨ro,σ,⟨r.sim,fun s=>?_,r.size,r.defers⟩,fun _ q=>q,rfl⟩
 rcases h s with h|h
 ·rw[h];trivial
 ·rw[h];exact r.env s
def QkX(env:Env):Env->Prop
 |[]=>True
 |(s,a)::r=>lk env s=a/\QkX env r
theorem QkX.ok{env:Env}:∀{env':Env},QkX env env'->∀s,lk env' s=.any\/lk env' s=lk env s
 |[],_,s=>.inl rfl
 |(d,a)::e,⟨h1,h2⟩,s=>by
  by_cases q:s=d
  ·subst q;right;simp only[lk,Nat.beq_refl,cond_true];exact h1.symm
  ·have:Nat.beq s d=false:=by
    rw[Bool.eq_false_iff];intro q';exact q (Nat.eq_of_beq_eq_true q')
   simp only[lk,this,cond_false]
   exact QkX.ok h2 s
theorem Lw{h0:Nat}{env env':Env}{H:Qc}(h:QkX env env'):Le h0 env H env' H:=Le.env h.ok
theorem Ql9(n i:Nat):rho (List.range n) n i=i:=by
 unfold rho
 by_cases h:i<n
 ·rw[List.getElem?_range h]
 ·rw[List.getElem?_eq_none (by rw[List.length_range];omega)]
  simp only[List.length_range]
  omega
mutual
theorem Qh6{ρ:Nat->Nat}(h:∀i,ρ i=i):∀a:A,Yg ρ a=a
 |.ptr i off=>by simp[Yg,h]
 |.osl i o n k=>by simp[Yg,h]
 |.agg cs=>by simp[Yg,QaL h cs]
 |.fn f a c=>by simp[Yg,QaL h a,QaL h c]
 |.iface t v=>by simp[Yg,Qh6 h v]
 |.map i=>by simp[Yg,h]
 |.tup vs=>by simp[Yg,QaL h vs]
 |.any|.bool _|.int _ _|.str _|.nilp|.rp _|.nils|.rsl _ _|.nilf|.nilif|.nilm=>by rfl
theorem QaL{ρ:Nat->Nat}(h:∀i,ρ i=i):∀l:List A,Qaa ρ l=l
 |[]=>rfl
 |a::r=>by simp[Qaa,Qh6 h a,QaL h r]
end
theorem Qh5{ρ:Nat->Nat}(h:∀i,ρ i=i):∀l:List (List A),Qfs ρ l=l
 |[]=>rfl
 |a::r=>by simp[Qfs,QaL h a,Qh5 h r]
theorem Qlb{ρ:Nat->Nat}(h:∀i,ρ i=i):∀b:Blk,QG ρ b=b
 |.cells t cs=>by simp[QG,QaL h cs]
 |.rowr t k es=>by simp[QG,Qh5 h es]
 |.ents t a b es=>by simp[QG,h]
 |.dead|.row _ _ _|.map _|.iter _ _|.fmap _|.mapO _ _ _ _=>by rfl
theorem Pw{P:Program}{h0 N:Nat}{all:Array Oper}{o:Oper}{l:List Oper}{env:Env}{H:Qc}{Q:Qm}{d:Nat}{f:FuncId}{args:List A}{v v':A}(hd:o.dst=some d)(hop:OpC P o env H f args)(hC:C P f args H (fun a H1=>a=v/\H1=H))(hv:Qhc v=some (.mk v'))
  (hg:Ql all o env true)(hN:Nat.blt d N=true)(hh:h0<=H.length)(k:WO P h0 N all l (up env d v') H Q):WO P h0 N all (o::l) env H Q:=by
 have hid:=Ql9 H.length
 have hm:H.map (QG (rho (List.range H.length) H.length))=H:=by
  conv=>rhs;rw[<- List.map_id H]
  exact List.map_congr_left fun b _=>Qlb hid b
 have hH:(List.range H.length).map (fun p=>H[p]?)=(H.map (QG (rho (List.range H.length) H.length))).map some:=by
  rw[hm]
  apply List.ext_getElem?
  intro i
  by_cases q:i<H.length
  ·simp[q]
  ·simp[q]
 refine Qz (List.range H.length) hop hC ?_ (by rw[QaL hid]) hH List.nodup_range hg hd hN (Nat.ble_eq_true_of_le hh)
 rintro r H1 ⟨rfl,rfl⟩
 rw[Qh2 hv,Qbn _ _ _ hH]
 exact k
def ixE(d:Nat)(g:Ground):Edge:={on:=d,ground:=g}
def ixO(d:Nat)(op:Op)(t:Nat)(pos:String)(af:Array Edge):Oper:={dst:=some d,op:=op,type:=t,pos:=pos,after:=af,guard:=none}
def QmE(ts te tf tI tB:Nat):Code:=
 (Code.region 0 [ixO 4 (.assign (.const (.int .i64 0))) tI "slices.go:107" #[]].toArray false).seq
  (((Code.region 1 [ixO 6 (.move (.tmp 0)) ts "slices.go:108" #[],ixO 7 (.call {callee:=.builtin .len,args:= #[.tmp 6],argTypes:= #[ts]}) tI "slices.go:108" #[ixE 0 .data],ixO 8 (.move (.const (.int .i64 0))) tI "slices.go:108" #[]].toArray false).seq
   (.block 0 (.loop ((Code.region 2 [ixO 9 (.binOp .lss tI (.tmp 8) (.tmp 7) tI) 0 "slices.go:108" #[]].toArray false).seq
    ((Code.cond (.tmp 9) .skip (.exit 0)).seq
    ((Code.block 1 ((Code.region 3 [ixO 10 (.move (.tmp 8)) tI "slices.go:108" #[],ixO 5 (.assign (.tmp 10)) tI "slices.go:108" #[ixE 0 .data,ixE 0 .phase]].toArray false).seq
     ((Code.region 4 [ixO 11 (.move (.tmp 1)) tf "slices.go:109" #[],ixO 12 (.move (.tmp 0)) ts "slices.go:109" #[],ixO 13 (.move (.tmp 5)) tI "slices.go:109" #[],ixO 14 (.indexAddr ts (.tmp 12) (.tmp 13)) 0 "slices.go:109" #[ixE 1 .data,ixE 2 .data],
       ixO 15 (.load te (.tmp 14)) te "slices.go:109" #[ixE 3 .data],ixO 16 (.call {callee:=.value (.tmp 11),args:= #[.tmp 15],argTypes:= #[te]}) tB "slices.go:109" #[ixE 0 .data,ixE 4 .data]].toArray false).seq
      (Code.cond (.tmp 16) ((Code.region 5 [ixO 17 (.move (.tmp 5)) tI "slices.go:110" #[],ixO 4 (.assign (.tmp 17)) tI "slices.go:110" #[ixE 0 .data,ixE 0 .phase]].toArray false).seq .ret) .skip)))).seq
     (Code.region 6 [ixO 18 (.binOp .add tI (.tmp 8) (.const (.int .i64 1)) tI) tI "slices.go:108" #[],ixO 8 (.move (.tmp 18)) tI "slices.go:108" #[ixE 0 .data]].toArray false))))))).seq
  ((Code.region 7 [ixO 4 (.assign (.const (.int .i64 (-1)))) tI "slices.go:113" #[]].toArray false).seq .ret))
theorem QN{P:Program}{T:Type}{e:T->List A}{el:T->A}{ts te tf tI tB k:Nat}{fI fc:FuncId}{fn:Func}{caps:List A}{Hc:Qc}{L:List T}{g:T->Option Bool}{n:Nat}{r:Int}
  (hf:P.funcs[fI]?=some fn)(hb:fn.body=some (QmE ts te tf tI tB))(hN:fn.ntmps=19)(hR:fn.results= #[.tmp 4])(hu:∀w,(underlying ts).run P w=.ok (.slice te) w)(hs:∀w,(sizeOf te).run P w=.ok k w)
  (hld:∀(o:Oper) (env:Env) (H:Qc) (x:T),o.op=.load te (.tmp 14)->opA env (.tmp 14)=.rp (e x)->OpV P o env H (el x))
  (hca:∀(a:Array Value) (w:World),(callFunc fc a).run P w=.ok (.enter fc a) w)
  (hcl:∀x b,g x=some b->C P fc (el x::caps) Hc (fun a H=>a=.bool b/\H=Hc))
  (h:((iter (fun s:Int=>bif decide (s<(L.length:Int))then(idx L s).bind fun x=>(g x).bind fun b=>(bif b then some (Ctl.done (Ctl.done s))else some (Ctl.cont (IntKind.i64.wrap (s+1))))else some (Ctl.done (Ctl.cont ()))) n (0:Int):Option (Ctl Unit Int)).bind fun b=>match b with|.cont _=>some (-1)|.done s=>some s)=some r):
  C P fI [.rsl k (L.map e),.fn (.func fc) [] caps] Hc (fun a H=>a=.int .i64 r/\H=Hc):=by
 refine Qb hf hb hN rfl ?_
 refine Rg (S rfl (Nx (TC.seq (Rg (S rfl (LnM hu rfl (S rfl (Nx (Bd h fun b10 h11 h=>?_)))))))))
 refine QfM (b:=b10) (fun _=>[]) (fun _=>Hc) ?_ (fun sb10 env H hbe hle=>?_)
 ·refine TC.block ?_
  refine TC.loop (E:=fun s13=>[(0,.rsl k (L.map e)),(1,.fn (.func fc) [] caps),(7,.int .i64 (L.length:Int)),(8,.int .i64 s13)]) (Hp:=fun _=>Hc) h11 ?_ ?_
  ·exact Lw ⟨rfl,rfl,rfl,rfl,trivial⟩
  intro s13 d14 h15 hb12
  refine Rg (S rfl (Nx (TC.seq (CnS rfl h15 (fun hc16 h15=>?_) (fun hc16 h15=>?_)))))
  ·refine ExX (QI h15 ?_)
   obtain rfl:=hb12 _ (Oi h15).symm
   exact bloE (Qw rfl (Lw trivial))
  refine SkN (TC.seq (TC.block (Rg (S rfl (S rfl (Nx (Rg (S rfl (S rfl (S rfl (Bd h15 fun x17 hx17 h15=>Ix hx17 hu hs rfl ?_)))))))))))
  refine Yp (x:=el x17) rfl rfl rfl (hld _ _ _ x17 rfl rfl) ?_
  refine Bd h15 fun r18 hr18 h15=>?_
  refine Pw rfl (QfR (f:=fc) (x:=.tmp 11) (xs:=[.tmp 15]) (vf:=[]) (vc:=caps) (args:=el x17::caps) hca rfl rfl rfl rfl) (hcl x17 r18 hr18) rfl rfl rfl (Nat.le_refl _) ?_
  refine Nx (Cn rfl h15 (fun hc19 h15=>?_) (fun hc19 h15=>?_))
  ·refine Rg (S rfl (S rfl (Nx (TC.ret (bloR (seqR (Yh h15 ?_)))))))
   obtain rfl:=hb12 _ (Oi h15).symm
   refine bloR (QK (seqR ?_))
   obtain rfl:=Oi h
   exact R1 4 hR (Lw ⟨rfl,trivial⟩)
  exact TC.skip (bloN (Qjy (TC.region (S rfl (S rfl (WO.nil (QH h15 (Lw ⟨rfl,rfl,rfl,rfl,trivial⟩))))))))
 subst hbe
 refine Qjy (TC.le hle (Rg (S rfl (Nx (TC.ret ?_)))))
 obtain rfl:=Oi h
 exact R1 4 hR (Lw ⟨rfl,trivial⟩)
end Go.Sw
namespace Go.Sw
inductive Kf where
 |seq (c:Code)
 |blo (id:Nat)
 |unr (c:Code)
inductive Cf where
 |code (c:Code)
 |ops (all:Array Oper) (l:List Oper)
 |out (x:AEx)
def kq(P:Program)(h0 N:Nat):List Kf->Qm->Qm
 |[],Q=>Q
 |.seq c::k,Q=>Seq P h0 N c (kq P h0 N k Q)
 |.blo id::k,Q=>Blo id (kq P h0 N k Q)
 |.unr c::k,Q=>QhH P h0 N c (kq P h0 N k Q)
@[reducible] def Hd(P:Program)(h0 N:Nat):Cf->List Kf->Env->Qc->Qm->Prop
 |.code c,k,env,H,Q=>TC P h0 N c env H (kq P h0 N k Q)
 |.ops all l,k,env,H,Q=>WO P h0 N all l env H (kq P h0 N k Q)
 |.out x,k,env,H,Q=>kq P h0 N k Q x env H
def QeK(T:TyX)(h0 N:Nat):Cf->List Kf->Env->Qc->Option (Cf×List Kf×Env×Qc)
 |.code (.seq a b),k,env,H=>some (.code a,.seq b::k,env,H)
 |.code (.block id c),k,env,H=>some (.code c,.blo id::k,env,H)
 |.code (.loop c),k,env,H=>some (.code c,.unr c::k,env,H)
 |.code .skip,k,env,H=>some (.out .normal,k,env,H)
 |.code .ret,k,env,H=>some (.out .ret,k,env,H)
 |.code (.exit id),k,env,H=>some (.out (.exit id),k,env,H)
 |.code (.region id ⟨l⟩ false),k,env,H=>some (.ops ⟨l⟩ l,k,env,H)
 |.code (.cond x a b),k,env,H=>match opB env x with
  |.mk (.bool true)=>some (.code a,k,env,H)
  |.mk (.bool false)=>some (.code b,k,env,H)
  |_=>none
 |.ops all [],k,env,H=>some (.out .normal,k,env,H)
 |.ops all (o::l),k,env,H=>match stX T h0 N all o env H with
  |some (env',H')=>some (.ops all l,k,env',H')
  |none=>none
 |.out .normal,.seq c::k,env,H=>some (.code c,k,env,H)
 |.out (.exit i),.seq _::k,env,H=>some (.out (.exit i),k,env,H)
 |.out .ret,.seq _::k,env,H=>some (.out .ret,k,env,H)
 |.out .normal,.blo _::k,env,H=>some (.out .normal,k,env,H)
 |.out (.exit i),.blo id::k,env,H=>match Nat.beq i id with
  |true=>some (.out .normal,k,env,H)
  |false=>some (.out (.exit i),k,env,H)
 |.out .ret,.blo _::k,env,H=>some (.out .ret,k,env,H)
 |.out .normal,.unr c::k,env,H=>some (.code c,.unr c::k,env,H)
 |.out (.exit i),.unr _::k,env,H=>some (.out (.exit i),k,env,H)
 |.out .ret,.unr _::k,env,H=>some (.out .ret,k,env,H)
 |_,_,_,_=>none
def Qhf(T:TyX)(h0 N:Nat):Nat->Cf->List Kf->Env->Qc->Option (Cf×List Kf×Env×Qc)
 |0,c,k,env,H=>some (c,k,env,H)
 |n+1,c,k,env,H=>match QeK T h0 N c k env H with
  |some (c',k',env',H')=>Qhf T h0 N n c' k' env' H'
  |none=>none
section
variable {P:Program}{T:TyX}{h0 N:Nat}{Q:Qm}
theorem Qjr(hT:Qa2 P T){c c':Cf}{k k':List Kf}{env env':Env}{H H':Qc}(h:QeK T h0 N c k env H=some (c',k',env',H'))(g:Hd P h0 N c' k' env' H' Q):Hd P h0 N c k env H Q:=by
 unfold QeK at h
 split at h
 ·cases h;exact TC.seq g
 ·cases h;exact TC.block g
 ·cases h;exact QiV g
 ·cases h;exact TC.skip g
 ·cases h;exact TC.ret g
 ·cases h;exact TC.exit g
 ·cases h;exact TC.region g
 ·split at h
  ·rename_i q;cases h;exact QkG (Qu q) rfl g
  ·rename_i q;cases h;exact QkH (Qu q) rfl g
  ·cases h
 ·cases h;exact WO.nil g
 ·split at h
  ·rename_i q;cases h;exact Qg6 hT q g
  ·cases h
 ·cases h;exact Qjy g
 ·cases h;exact seqX g
 ·cases h;exact seqR g
 ·cases h;exact bloN g
 ·split at h
  ·rename_i q;cases h;have:=Nat.eq_of_beq_eq_true q;subst this;exact bloE g
  ·rename_i q;cases h;exact bloX q g
 ·cases h;exact bloR g
 ·cases h;exact unrN g
 ·cases h;exact unrX g
 ·cases h;exact unrR g
 ·cases h
theorem Qca(hT:Qa2 P T):∀(n:Nat) {c c':Cf}{k k':List Kf}{env env':Env}{H H':Qc},Qhf T h0 N n c k env H=some (c',k',env',H')->Hd P h0 N c' k' env' H' Q->Hd P h0 N c k env H Q
 |0,c,c',k,k',env,env',H,H',h,g=>by cases h;exact g
 |n+1,c,c',k,k',env,env',H,H',h,g=>by
  unfold Qhf at h
  split at h
  ·rename_i e;exact Qjr hT e (Qca hT n h g)
  ·cases h
theorem QhX{env:Env}{s:Nat}{a:A}(h:lk env s=a):∀t,lk (up env s a) t=lk env t:=by
 intro t
 simp only[up,lk]
 cases q:Nat.beq t s with
 |true=>have:=Nat.eq_of_beq_eq_true q;subst this;exact h.symm
 |false=>rfl
theorem Is{α:Type}{all:Array Oper}{l:List Oper}{env:Env}{H:Qc}{b:Bool}{x y:Option α}{r:α}(s:Nat)(h:(bif b then x else y)=some r)(hs:lkB env s=.mk (.bool b))
  (t:b=true->x=some r->WO P h0 N all l (up env s (.bool true)) H Q)(e:b=false->y=some r->WO P h0 N all l (up env s (.bool false)) H Q):WO P h0 N all l env H Q:=by
 have hl:=Qhn hs
 cases b with
 |true=>exact WO.le (Le.env fun t=>.inr (QhX hl t)) (t rfl h)
 |false=>exact WO.le (Le.env fun t=>.inr (QhX hl t)) (e rfl h)
theorem Ct3E{S B1:Type}{A B C:Code}{env:Env}{H:Qc}{k:List Kf}{b:Ctl S B1}(Eb:S->Env)(Hb:S->Qc)(h:TC P h0 N A env H (kq P h0 N [.seq B] (Qfj h0 b Eb Hb (kq P h0 N (.seq C::k) Q))))(g:∀s env H,b=.cont s->Le h0 env H (Eb s) (Hb s)->kq P h0 N (.seq C::k) Q .normal env H):TC P h0 N (.seq A (.seq B C)) env H (kq P h0 N k Q):=
 QkF Eb Hb h g
end
def dstN(o:Oper)(i:Nat):Nat:=match o.dst with|some d=>d|none=>1000000+i
def Qaj:Nat->Nat->List Oper->List Nat
 |0,_,_=>[]
 |_+1,_,[]=>[]
 |m+1,i,o::l=>dstN o i::Qaj m (i+1) l
def QO(af:List Nat):Nat->List Nat->List A->Env->Env
 |j,d::ds,x::xs,e=>(d,bif QcN af j then x else .any)::QO af (j+1) ds xs e
 |j,d::ds,[],e=>(d,.any)::QO af (j+1) ds [] e
 |_,[],_,e=>e
theorem QeB{l:List Nat}{t:Nat}:QcN l t=l.contains t:=by
 induction l with
 |nil=>rfl
 |cons a r ih=>
  unfold QcN
  rw[List.contains_cons,ih]
  cases q:Nat.beq a t with
  |true=>have:=Nat.eq_of_beq_eq_true q;subst this;simp
  |false=>
   have hne:t≠a:=fun z=>by subst z;rw[Nat.beq_refl]at q;cases q
   simp[hne]
theorem Qih{af:List Nat}{env0:Env}{s:Nat}:∀(ds:List Nat) (xs ys:List A) (b:Nat),
  (∃(j:Nat) (x:A),af.contains (b+j)=true/\ds[j]?=some s/\(xs++ys)[j]?=some x/\lk (QO af b ds xs env0) s=x)\/lk (QO af b ds xs env0) s=.any\/(ds.contains s=false/\lk (QO af b ds xs env0) s=lk env0 s):=by
 intro ds
 induction ds with
 |nil=>intro xs ys b;right;right;exact⟨rfl,by cases xs<;>rfl⟩
 |cons d ds ih=>
  intro xs ys b
  have next:∀(xs':List A),(∃(j:Nat) (x:A),af.contains (b+1+j)=true/\ds[j]?=some s/\(xs'++ys)[j]?=some x/\lk (QO af (b+1) ds xs' env0) s=x)->∀x0,(∃(j:Nat) (x:A),af.contains (b+j)=true/\(d::ds)[j]?=some s/\(x0::xs'++ys)[j]?=some x/\lk (QO af (b+1) ds xs' env0) s=x):=by
   rintro xs' ⟨j,x,h1,h2,h3,h4⟩ x0
   exact⟨j+1,x,by rw[show b+(j+1)=b+1+j by omega];exact h1,by simpa using h2,by simpa using h3,h4⟩
  cases xs with
  |nil=>
   cases q:Nat.beq s d with
   |true=>right;left;simp only[QO,lk,q,cond_true]
   |false=>
    have hne:s≠d:=fun z=>by subst z;rw[Nat.beq_refl]at q;cases q
    simp only[QO,lk,q,cond_false]
    rcases ih [] [] (b+1)with⟨j,x,h1,h2,h3,h4⟩|h|⟨h1,h2⟩
    ·simp at h3
    ·exact .inr (.inl h)
    ·exact .inr (.inr ⟨by rw[List.contains_cons,h1];simpa using hne,h2⟩)
  |cons x xs=>
   cases q:Nat.beq s d with
   |true=>
    have:=Nat.eq_of_beq_eq_true q
    subst this
    simp only[QO,lk,q,cond_true]
    cases c:QcN af b with
    |true=>left;exact⟨0,x,by rw[<- QeB];exact c,rfl,rfl,rfl⟩
    |false=>right;left;rfl
   |false=>
    have hne:s≠d:=fun z=>by subst z;rw[Nat.beq_refl]at q;cases q
    simp only[QO,lk,q,cond_false]
    rcases ih xs ys (b+1)with h|h|⟨h1,h2⟩
    ·exact .inl (next xs h x)
    ·exact .inr (.inl h)
    ·exact .inr (.inr ⟨by rw[List.contains_cons,h1];simpa using hne,h2⟩)
section
variable {P:Program}{T:TyX}{h0 N m:Nat}{l:List Oper}{ds:List Nat}{env:Env}{H:Qc}{Q:Qm}{K:List Oper->Env->Qc->Prop}
def DS(P:Program)(N m:Nat)(l:List Oper)(ds:List Nat)(env:Env)(H:Qc)(K:List Oper->Env->Qc->Prop)(r:List Oper)(xs:List A):Prop:=
 r=l.drop xs.length->∃ys,xs.length+ys.length=m/\(∀j,xs.length<=j->j<m->Y8 P N l ds (xs++ys) env H.length H.length j H H)/\K (l.drop m) (Qao ds (xs++ys) env) H
theorem oqOf{xs:List A}:∀(c i:Nat),(∀j,i<=j->j<i+c->Y8 P N l ds xs env H.length H.length j H H)->Oq P N l ds xs env H i c
 |0,i,_=>.n
 |c+1,i,h=>.c (h i (Nat.le_refl _) (by omega)) (oqOf c (i+1) fun j h1 h2=>h j (by omega) (by omega))
theorem Qk0{id:Nat}{k:List Kf}(m:Nat)(hm:P.follows .mixedOrders=true)(hc:Go.Sw.draw0 l m N (Qaj m 0 l)=true)(h0B:Nat.ble h0 H.length=true)
  (h:DS P N m l (Qaj m 0 l) env H (fun r e H=>WO P h0 N l.toArray r e H Q) l []):TC P h0 N (.region id l.toArray true) env H Q:=by
 obtain⟨ys,h1,h2,h3⟩:=h rfl
 simp only[List.length_nil,Nat.zero_add,List.nil_append]at h1 h2 h3
 exact TC.draw0 m _ ys hm hc (by rw[h1];exact Nat.beq_refl m) h0B (oqOf m 0 fun j _ q=>h2 j (Nat.zero_le _) (by omega)) h3
theorem Qje{T':Type}{X:Ctx T'}{st:YSt T'}{QY:Ye T'}{id:Nat}(m:Nat)(hm:P.follows .mixedOrders=true)(hc:Go.Sw.draw0 l m N (Qaj m 0 l)=true)(h0B:Nat.ble h0 H.length=true)
  (h:DS P N m l (Qaj m 0 l) env H (fun r e H=>WOy X P h0 N l.toArray r e H st QY) l []):TCy X P h0 N (.region id l.toArray true) env H st QY:=by
 obtain⟨ys,h1,h2,h3⟩:=h rfl
 simp only[List.length_nil,Nat.zero_add,List.nil_append]at h1 h2 h3
 intro hX rd fr ro σ a w g r hs hj hrd
 refine Qcb m _ ys hm hc (by rw[h1];exact Nat.beq_refl m) h0B (oqOf m 0 fun j _ q=>h2 j (Nat.zero_le _) (by omega)) r (hrd▸QbF) fun ro' σ' a' w' hr hev htk hdf=>?_
 have:=h3 hX rd fr ro' σ' a' w' g hr (fun b q=>hev.sub b (hs b q)) ⟨hX.ev hs hj.1 (hev.frMono hj.2.sub),by rw[hdf];exact hj.2⟩ hrd
 refine Q4 (fun e a2 w2 q=>?_) _ _ _ this
 exact q.grow hev.sub hev.size htk (by rw[hdf];exact Qb3.refl _ _ _)
theorem DS.done{xs:List A}{r:List Oper}(hx:Nat.beq xs.length m=true)(h:K r (Qao ds xs env) H):DS P N m l ds env H K r xs:=by
 intro hr
 have e:=Nat.eq_of_beq_eq_true hx
 subst hr
 refine⟨[],by simpa using e,fun j q1 q2=>by omega,?_⟩
 rw[<- e,List.append_nil];exact h
theorem DS.add{xs:List A}{o:Oper}{r:List Oper}{x:A}(hx:Nat.blt xs.length m=true)(hb:∀ys,l[xs.length]?=some o->Y8 P N l ds (xs++x::ys) env H.length H.length xs.length H H)(k:DS P N m l ds env H K r (xs++[x])):DS P N m l ds env H K (o::r) xs:=by
 intro hr
 have hlt:xs.length<l.length:=by
  rcases Nat.lt_or_ge xs.length l.length with q|q
  ·exact q
  ·rw[List.drop_eq_nil_of_le q]at hr;cases hr
 rw[List.drop_eq_getElem_cons hlt]at hr
 cases hr
 obtain⟨ys,h1,h2,h3⟩:=k (by simp)
 simp only[List.length_append,List.length_cons,List.length_nil,List.append_assoc,List.cons_append,List.nil_append]at h1 h2 h3
 refine⟨x::ys,by simp only[List.length_cons];omega,fun j q1 q2=>?_,h3⟩
 rcases Nat.lt_or_ge xs.length j with q|q
 ·exact h2 j (by omega) q2
 ·obtain rfl:j=xs.length:=by omega
  exact hb ys (List.getElem?_eq_getElem hlt)
theorem Qgp{xs ys:List A}{x:A}:(xs++x::ys)[xs.length]?=some x:=by simp
theorem DS.wo{xs:List A}{o:Oper}{r:List Oper}{x:A}{d:Nat}(h:WO P H.length N l.toArray [o] (QO (Qf o) 0 ds xs env) H (YE (up (QO (Qf o) 0 ds xs env) d x) H))(k:DS P N m l ds env H K r (xs++[x]))
  (hd:o.dst=some d:=by exact rfl)(hx:Nat.blt xs.length m=true:=by exact rfl):DS P N m l ds env H K (o::r) xs:=
 .add hx (fun ys ho=>.woE o _ d x ho hd Qgp (he:=by
  intro s
  rcases Qih (af:=Qf o) (env0:=env) (s:=s) ds xs (x::ys) 0 with⟨j,y,q1,q2,q3,q4⟩|q|q
  ·rw[Nat.zero_add]at q1;exact .inl ⟨j,y,q1,q2,q3,q4⟩
  ·exact .inr (.inl q)
  ·exact .inr (.inr q)) (hdd:=Qdb H) (h:=h)) k
theorem DS.v{xs:List A}{o:Oper}{r:List Oper}{x:A}{d:Nat}(h:OpV P o (QO (Qf o) 0 ds xs env) H x)(k:DS P N m l ds env H K r (xs++[x]))(hg:Ql l.toArray o (QO (Qf o) 0 ds xs env) true:=by exact rfl)
  (hd:o.dst=some d:=by exact rfl)(hN:Nat.blt d N=true:=by exact rfl)(hx:Nat.blt xs.length m=true:=by exact rfl):DS P N m l ds env H K (o::r) xs:=
 .wo (Yp hg hd hN h (WO.nil YE.mk)) k hd hx
def Qcn:List A->A->FL
 |[],x=>.mk [x]
 |a::r,x=>match Qcn r x with
  |.mk r'=>.mk (a::r')
theorem YO:∀(l:List A) (x:A),Qcn l x=.mk (l++[x])
 |[],x=>rfl
 |a::r,x=>by unfold Qcn;rw[YO r];rfl
def Qf9(T:TyX)(N m:Nat)(l:List Oper)(ds:List Nat)(env:Env)(H:Qc):Nat->Nat->List Oper->List A->Option (List Oper×List A)
 |0,_,r,xs=>some (r,xs)
 |_+1,_,[],_=>none
 |n+1,i,o::r,xs=>match Nat.blt i m with
  |false=>none
  |true=>match o.dst with
   |none=>none
   |some d=>match Nat.blt d N with
    |false=>none
    |true=>match YA ⟨l⟩ o (QO (Qf o) 0 ds xs env)with
     |none=>none
     |some false=>match Qcn xs (.tup [])with
      |.mk xs'=>Qf9 T N m l ds env H n (i+1) r xs'
     |some true=>match QcE T o (QO (Qf o) 0 ds xs env) H with
      |none=>none
      |some x=>match Qcn xs x with
       |.mk xs'=>Qf9 T N m l ds env H n (i+1) r xs'
theorem QdL(hT:Qa2 P T):∀(n i:Nat) {r r':List Oper}{xs xs':List A},i=xs.length->Qf9 T N m l ds env H n i r xs=some (r',xs')->DS P N m l ds env H K r' xs'->DS P N m l ds env H K r xs
 |0,i,r,r',xs,xs',_,h,k=>by cases h;exact k
 |n+1,i,[],r',xs,xs',_,h,k=>by cases h
 |n+1,i,o::r,r',xs,xs',hi,h,k=>by
  subst hi
  unfold Qf9 at h
  split at h
  ·cases h
  ·rename_i q1
   split at h
   ·cases h
   ·rename_i d hd
    split at h
    ·cases h
    ·rename_i q2
     split at h
     ·cases h
     ·rename_i hw
      simp only[YO]at h
      exact .wo (WO.skip (Qx hw) hd q2 (WO.nil YE.mk)) (QdL hT n _ (by simp) h k) hd q1
     ·rename_i hw
      split at h
      ·cases h
      ·rename_i x hv
       simp only[YO]at h
       exact .v (Qap hT hv) (QdL hT n _ (by simp) h k) (Qx hw) hd q2 q1
def Qhb:List A->Nat->A->FL
 |[],_,_=>.mk []
 |_::r,0,x=>.mk (x::r)
 |a::r,n+1,x=>match Qhb r n x with
  |.mk r'=>.mk (a::r')
theorem QaV:∀{l:List A}{n:Nat}{x:A},Yt l n=some x->Qhb l n x=.mk l
 |[],n,x,h=>by cases h
 |a::r,0,x,h=>by cases h;rfl
 |a::r,n+1,x,h=>by unfold Qhb;rw[QaV (l:=r) (n:=n) h]
theorem Ql1{α:Type}{b:Bool}{x y:Option α}{v:α}{xs xt xf:List A}{r:List Oper}(j:Nat)(h:(bif b then x else y)=some v)(hs:Yt xs j=some (.bool b))(ht:Qhb xs j (.bool true)=.mk xt)(hf:Qhb xs j (.bool false)=.mk xf)
  (t:b=true->x=some v->DS P N m l ds env H K r xt)(e:b=false->y=some v->DS P N m l ds env H K r xf):DS P N m l ds env H K r xs:=by
 cases b with
 |true=>rw[QaV hs]at ht;cases ht;exact t rfl h
 |false=>rw[QaV hs]at hf;cases hf;exact e rfl h
end
end Go.Sw
namespace Go.Sw
@[reducible] def RQ{β:Type}(w:β->A)(Hc:β->Qc)(r:β):A->Qc->Prop:=fun a H=>a=w r/\H=Hc r
@[reducible] def Csm{β:Type}(P:Program)(f:FuncId)(args:List A)(H:Qc)(w:β->A)(r:β):Prop:=C P f args H (RQ w (fun _=>H) r)
structure TyZ where
 sl:List (Nat×Nat×Nat)
 fn:List Nat
structure Qco (P:Program) (Z:TyZ):Prop where
 sl:∀e∈Z.sl,(∀w,(underlying e.1).run P w=.ok (.slice e.2.1) w)/\ ∀w,(sizeOf e.2.1).run P w=.ok e.2.2 w
 fn:∀f∈Z.fn,∀(a:Array Value) (w:World),(callFunc f a).run P w=.ok (.enter f a) w
section
variable {P:Program}{Z:TyZ}{h0 N:Nat}{all:Array Oper}{o:Oper}{l:List Oper}{env:Env}{H:Qc}{Q:Qm}{d:Nat}
theorem Izz(hZ:Qco P Z){α:Type}{e:α->List A}{t et k:Nat}{L:List α}{kk:IntKind}{i:Int}{v:α}(h:idx L i=some v)(q:ixB o env=some (d,t,k,L.map e,kk,i))(g:WO P h0 N all l (up env d (.rp (e v))) H Q)
  (ht:QbJ Z.sl t=some (et,k))(hg:YA all o env=some true)(hN:Nat.blt d N=true):WO P h0 N all (o::l) env H Q:=by
 obtain⟨h1,h2⟩:=hZ.sl _ (Qaq ht)
 exact Ix h h1 h2 q g (Qx hg) hN
theorem Ize(hZ:Qco P Z){α:Type}{e:α->List A}{t et k:Nat}{L:List α}{kk:IntKind}{i:Int}{v:α}{cs:List A}(h:idx L i=some v)(he:e v=cs)(q:ixB o env=some (d,t,k,L.map e,kk,i))(g:WO P h0 N all l (up env d (.rp cs)) H Q)
  (ht:QbJ Z.sl t=some (et,k))(hg:YA all o env=some true)(hN:Nat.blt d N=true):WO P h0 N all (o::l) env H Q:=by
 subst he;exact Izz hZ h q g ht hg hN
theorem Lmz(hZ:Qco P Z){α:Type}{e:α->List A}{t et k k':Nat}{L:List α}(q:lnB o env=some (d,t,.mk (.rsl k (L.map e))))(g:WO P h0 N all l (up env d (.int .i64 L.length)) H Q)
  (ht:QbJ Z.sl t=some (et,k'))(hg:YA all o env=some true)(hN:Nat.blt d N=true):WO P h0 N all (o::l) env H Q:=by
 obtain⟨h1,h2⟩:=hZ.sl _ (Qaq ht)
 exact LnM h1 q g (Qx hg) hN
def QeG(Z:TyZ)(o:Oper)(env:Env):Option (Nat×Nat×List A):=
 match o.dst with
 |none=>none
 |some d=>match o.op with
  |.call {callee:=.value (.func f),args:=⟨xs⟩,argTypes:=_}=>bif QcN Z.fn f then(match fl (Qgi env xs)with|.mk ax=>some (d,f,ax))else none
  |.call {callee:=.value (.tmp x),args:=⟨xs⟩,argTypes:=_}=>match opB env (.tmp x)with
   |.mk (.fn (.func f) vf vc)=>bif QcN Z.fn f then(match fl (vf++(Qgi env xs++vc))with|.mk ax=>some (d,f,ax))else none
   |_=>none
  |_=>none
theorem Qdx(hZ:Qco P Z){f:Nat}{args:List A}(h:QeG Z o env=some (d,f,args)):o.dst=some d/\OpC P o env H f args:=by
 unfold QeG at h
 split at h
 ·cases h
 ·rename_i d' hd
  split at h
  ·rename_i f' xs ts ho
   cases q:QcN Z.fn f' with
   |false=>rw[q]at h;cases h
   |true=>
    rw[q]at h
    simp only[QbR,cond_true]at h
    cases h
    exact⟨hd,OpC.fn (xs:=xs) (hZ.fn _ (Qfx q)) ho rfl (Qch xs).symm⟩
  ·rename_i x xs ts ho
   split at h
   ·rename_i f' vf vc hx
    cases q:QcN Z.fn f' with
    |false=>rw[q]at h;cases h
    |true=>
     rw[q]at h
     simp only[QbR,cond_true]at h
     cases h
     exact⟨hd,QfR (xs:=xs) (hZ.fn _ (Qfx q)) ho rfl (Qu hx) (by rw[Qch])⟩
   ·cases h
  ·cases h
theorem Czz(hZ:Qco P Z){β γ:Type}{F:Option β}{F':β->Option γ}{r:γ}{f:Nat}{args argsc:List A}{Hc:Qc}{w:β->A}(π:List Nat)(h:F.bind F'=some r)(hC:∀v,F=some v->C P f argsc Hc (RQ w (fun _=>Hc) v))
  (hop:QeG Z o env=some (d,f,args))(g:∀v,F=some v->F' v=some r->WO P h0 N all l (up env d (w v)) H Q)(hv:∀v,Qhc (w v)=some (.mk (w v)))
  (hargs:args=Qaa (rho π H.length) argsc)(hH:π.map (fun p=>H[p]?)=(Hc.map (QG (rho π H.length))).map some)(hπ:π.Nodup)(hg:YA all o env=some true)(hN:Nat.blt d N=true)(hh:Nat.ble h0 H.length=true):WO P h0 N all (o::l) env H Q:=by
 obtain⟨v,h1,h2⟩:=bnd h
 obtain⟨q1,q2⟩:=Qdx (H:=H) hZ hop
 exact Pc π q1 q2 (hC v h1) (hv v) (g v h1 h2) hargs hH hπ (Qx hg) hN hh
theorem DzZ(hZ:Qco P Z){K:List Oper->Env->Qc->Prop}{m:Nat}{ll:List Oper}{ds:List Nat}{xs:List A}{β γ:Type}{F:Option β}{F':β->Option γ}{r:γ}{f:Nat}{args argsc:List A}{Hc:Qc}{w:β->A}(π:List Nat)(h:F.bind F'=some r)(hC:∀v,F=some v->C P f argsc Hc (RQ w (fun _=>Hc) v))
  (hop:QeG Z o (QO (Qf o) 0 ds xs env)=some (d,f,args))(g:∀v,F=some v->F' v=some r->DS P N m ll ds env H K l (xs++[w v]))(hv:∀v,Qhc (w v)=some (.mk (w v)))
  (hargs:args=Qaa (rho π H.length) argsc)(hH:π.map (fun p=>H[p]?)=(Hc.map (QG (rho π H.length))).map some)(hπ:π.Nodup)(hg:YA ll.toArray o (QO (Qf o) 0 ds xs env)=some true)(hN:Nat.blt d N=true)(hx:Nat.blt xs.length m=true):DS P N m ll ds env H K (o::l) xs:=by
 obtain⟨v,h1,h2⟩:=bnd h
 obtain⟨q1,q2⟩:=Qdx (H:=H) hZ hop
 exact .wo (Pc π q1 q2 (hC v h1) (hv v) (WO.nil YE.mk) hargs hH hπ (Qx hg) hN (Nat.ble_eq_true_of_le (Nat.le_refl _))) (g v h1 h2) q1 hx
theorem ln:Qa5 H [] []:=trivial
theorem ls{ax bs:List A}{a:A}(k:Qa5 H ax bs)(h:YC a=true:=by exact rfl):Qa5 H (a::ax) (a::bs):=⟨.inl ⟨rfl,h⟩,k⟩
theorem lo{ax bs:List A}{i n k t:Nat}{es:List (List A)}(k':Qa5 H ax bs)(hH:H[i]?=some (.row t k es):=by exact rfl)(hn:es.length=n:=by exact List.length_map ..):Qa5 H (.osl i 0 n k::ax) (.rsl k es::bs):=
 ⟨.inr ⟨_,_,_,_,_,rfl,hH,hn,rfl⟩,k'⟩
theorem Cbz(hZ:Qco P Z){β γ:Type}{F:Option β}{F':β->Option γ}{r:γ}{f:Nat}{args argsc:List A}{w:β->A}(h:F.bind F'=some r)(hC:∀v,F=some v->C P f argsc [] (RQ w (fun _=>[]) v))
  (hop:QeG Z o env=some (d,f,args))(hL:Qa5 H args argsc)(g:∀v,F=some v->F' v=some r->WO P h0 N all l (up env d (w v)) H Q)(hv:∀v,QU (w v)=true)
  (hg:YA all o env=some true)(hN:Nat.blt d N=true):WO P h0 N all (o::l) env H Q:=by
 obtain⟨v,h1,h2⟩:=bnd h
 obtain⟨q1,q2⟩:=Qdx (H:=H) hZ hop
 refine QgO q2 hL (hC v h1) ?_ ?_ (Qx hg) q1 hN
 ·rintro _ _ ⟨rfl,rfl⟩;exact hv v
 ·rintro _ _ ⟨rfl,rfl⟩;exact g v h1 h2
end
def ixL:List Nat:=[0,1,2,3,4,5,6,7,8,9,10,11,12,13,14,15,16,17,18,19,20,21,22,23,24,25,26,27,28,29,30,31,32,33,34,35,36,37,38,39,40,41,42,43,44,45,46,47,48,49,50,51,52,53,54,55,56,57,58,59,60,61,62,63]
def Qiw:List Nat->List Nat->Nat->FN
 |a::r,b::s,j=>bif Nat.beq a j then .mk b else Qiw r s j
 |_,_,j=>.mk j
mutual
def cpA(sel:List Nat):A->Bx
 |.ptr i off=>match Qiw sel ixL i with
  |.mk j=>.mk (.ptr j off)
 |.osl i o n k=>match Qiw sel ixL i with
  |.mk j=>.mk (.osl j o n k)
 |.map i=>match Qiw sel ixL i with
  |.mk j=>.mk (.map j)
 |.fn f a c=>match cpL sel a,cpL sel c with
  |.mk a',.mk c'=>.mk (.fn f a' c')
 |a=>.mk a
def cpL(sel:List Nat):List A->FL
 |[]=>.mk []
 |a::r=>match cpA sel a,cpL sel r with
  |.mk a',.mk r'=>.mk (a'::r')
end
inductive FV where
 |mk (e:Env)
def QjY(sel:List Nat)(env:Env):List Nat->Env->FV
 |[],nE=>.mk nE
 |s::r,nE=>match lkB env s with
  |.mk a=>match cpA sel a,QjY sel env r nE with
   |.mk a',.mk e=>.mk ((s,a')::e)
def selH(H:Qc):List Nat->List Nat->List (Nat×Blk)->FB
 |a::r,p::ps,[]=>match Yt H a,selH H r ps []with
  |some b,.mk l=>.mk (b::l)
  |none,.mk l=>.mk l
 |a::r,p::ps,(q,b)::n=>bif Nat.beq p q then(match selH H r ps n with|.mk l=>.mk (b::l))else(match Yt H a,selH H r ps ((q,b)::n)with
  |some b,.mk l=>.mk (b::l)
  |none,.mk l=>.mk l)
 |_,_,_=>.mk []
def Qkq(sel keep:List Nat)(nE:Env)(nH:List (Nat×Blk))(env:Env)(H:Qc):Option (Env×Qc):=
 match QjY sel env keep nE,selH H sel ixL nH with
 |.mk e,.mk h=>some (e,h)
section
variable {P:Program}{h0 N:Nat}{c:Code}{env:Env}{H:Qc}{Q:Qm}
def CutQ{β:Type}(h0:Nat)(b:β)(E':β->Env)(H':β->Qc)(Q:Qm):Qm
 |.normal,env,H=>Le h0 env H (E' b) (H' b)
 |.exit id,env,H=>Q (.exit id) env H
 |.ret,env,H=>Q .ret env H
theorem Q7{h0:Nat}{env:Env}{H:Qc}{Q:Qm}{β:Type}{b:β}{E':β->Env}{H':β->Qc}(h:Le h0 env H (E' b) (H' b)):CutQ h0 b E' H' Q .normal env H:=h
theorem Ct{β:Type}{E':β->Env}{H':β->Qc}(b:β)(sel keep:List Nat)(nE:β->Env)(nH:β->List (Nat×Blk))(_:∀b,Qkq sel keep (nE b) (nH b) env H=some (E' b,H' b))(h:TC P h0 N c env H (CutQ h0 b E' H' Q))(k:∀env H,Le h0 env H (E' b) (H' b)->Q .normal env H):TC P h0 N c env H Q:=
 h.mono fun x env' H' q=>by
  cases x with
  |normal=>exact k _ _ q
  |exit id=>exact q
  |ret=>exact q
theorem CtE{S B:Type}{b:Ctl S B}{E':S->Env}{H':S->Qc}(sel keep:List Nat)(nE:S->Env)(nH:S->List (Nat×Blk))(_:∀s,Qkq sel keep (nE s) (nH s) env H=some (E' s,H' s))(h:TC P h0 N c env H (Qfj h0 b E' H' Q))(k:∀s env H,b=.cont s->Le h0 env H (E' s) (H' s)->Q .normal env H):TC P h0 N c env H Q:=QfM E' H' h k
theorem Lp{S B:Type}{step:S->Option (Ctl S B)}{E':S->Env}{H':S->Qc}{m:Nat}{s0:S}{b0:B}(sel keep:List Nat)(nE:S->Env)(nH:S->List (Nat×Blk))(h:iter step m s0=some b0)(_:∀s,Qkq sel keep (nE s) (nH s) env H=some (E' s,H' s))(hI:Le h0 env H (E' s0) (H' s0))
  (body:∀s d,step s=some d->(∀b,d=.done b->b=b0)->TC P h0 N c (E' s) (H' s) (Qa4 (fun s env H=>Le h0 env H (E' s) (H' s)) d Q)):TC P h0 N (.loop c) env H Q:=TC.loop E' H' h hI body
end
theorem Oj{S B:Type}{d:Ctl S B}{x b0:B}(hb:∀b,d=.done b->b=b0)(h:some (Ctl.done x)=some d):x=b0:=hb x (Oi h).symm
theorem Rt{P:Program}{h0:Nat}{fn:Func}{env:Env}{H:Qc}{β:Type}{e r:β}{w:β->A}{Hc:β->Qc}(h:some e=some r)(s:Nat)(π:List Nat)(hr:fn.results= #[.tmp s]:=by exact rfl)(hpre:π.take h0=List.range h0:=by exact rfl)
  (hH:π.map (fun p=>H[p]?)=((Hc e).map (QG (rho π H.length))).map some:=by exact rfl)(hπ:π.Nodup:=by decide)(hE:Qey (rho π H.length) env [(s,w e)]:=by exact⟨rfl,trivial⟩):Qcr P h0 fn (RQ w Hc r) .ret env H:=by
 cases h
 exact R1 s hr (Lr π hpre hH hπ hE)
theorem Cl{h0:Nat}{env:Env}{H:Qc}{Q:Qm}{β:Type}{e b:β}{E':β->Env}{H':β->Qc}(h:some e=some b)(π:List Nat)(hpre:π.take h0=List.range h0:=by exact rfl)
  (hH:π.map (fun p=>H[p]?)=((H' e).map (QG (rho π H.length))).map some:=by exact rfl)(hπ:π.Nodup:=by decide)(hE:Qey (rho π H.length) env (E' e):=by(repeat' (first|exact trivial|refine⟨rfl,?_⟩))):CutQ h0 b E' H' Q .normal env H:=by
 cases h
 exact Lr π hpre hH hπ hE
end Go.Sw
namespace Go.Sw
def plC(cat:List Nat):List (List (Nat×Nat)):=cat.map fun c=>match c with|0=>[(0,0)]|1=>[(0,1)]|2=>[(1,1)]|_=>[(0,0),(1,1)]
def rqC(b:Nat)(cat:List Nat):List (List Nat):=cat.map fun c=>match c with|2=>[b]|_=>[]
def hsC(cat:List Nat):List Bool:=cat.map fun c=>match c with|1=>true|_=>false
section
variable {P:Program}{T:TyX}{h0 N m b:Nat}{cat:List Nat}{l:List Oper}{ds:List Nat}{env:Env}{H H1:Qc}{Q:Qm}{K:List Oper->Env->Qc->Prop}
theorem QfS{P:Program}{N:Nat}{l:List Oper}{ds:List Nat}{xs:List A}{env0:Env}{hB hE:Nat}:∀(ss:List (List (Qc×Qc))) (b:Nat),(∀i s,ss[i]?=some s->∀p∈s,Y8 P N l ds xs env0 hB hE (b+i) p.1 p.2)->QfT P N l ds xs env0 hB hE b ss
 |[],b,h=>.nil
 |s::ss,b,h=>.cons (h 0 s rfl) (QfS ss (b+1) fun i s' hs=>by rw[show b+1+i=b+(i+1)by omega];exact h (i+1) s' hs)
def Dob(P:Program)(N:Nat)(cat:List Nat)(l:List Oper)(ds:List Nat)(env:Env)(H H1:Qc)(zs:List A)(j:Nat):Prop:=
 ∀p∈(plC cat).getD j [],Y8 P N l ds zs env H.length H.length j ([H,H1].getD p.1 []) ([H,H1].getD p.2 [])
def DB(P:Program)(N m:Nat)(cat:List Nat)(l:List Oper)(ds:List Nat)(env:Env)(H H1:Qc)(K:List Oper->Env->Qc->Prop)(r:List Oper)(xs:List A):Prop:=
 r=l.drop xs.length->∃ys,xs.length+ys.length=m/\(∀j,xs.length<=j->j<m->Dob P N cat l ds env H H1 (xs++ys) j)/\K (l.drop m) (Qao ds (xs++ys) env) H1
def DA(P:Program)(N m:Nat)(cat:List Nat)(l:List Oper)(ds:List Nat)(env:Env)(H:Qc)(K:List Oper->Env->Qc->Prop)(r:List Oper)(xs:List A):Prop:=
 r=l.drop xs.length->∃ys H1,xs.length+ys.length=m/\H.length<=H1.length/\(∀j,xs.length<=j->j<m->Dob P N cat l ds env H H1 (xs++ys) j)/\K (l.drop m) (Qao ds (xs++ys) env) H1
theorem QmV{ys:List A}(hcl':cat.length=m)(h3:∀j,0<=j->j<m->Dob P N cat l ds env H H1 ys j):QfT P N l ds ys env H.length (H.length+0) 0 ((plC cat).map fun q=>q.map fun p=>([H,H1].getD p.1 [],[H,H1].getD p.2 [])):=by
 refine QfS _ 0 fun i s hs p hp=>?_
 rw[List.getElem?_map]at hs
 cases e:(plC cat)[i]? with
 |none=>rw[e]at hs;cases hs
 |some q=>
  rw[e]at hs
  cases hs
  obtain⟨p0,hp0,rfl⟩:=List.mem_map.1 hp
  have hi:i<m:=by
   have:=(List.getElem?_eq_some_iff.1 e).1
   simpa[plC,hcl']using this
  have:=h3 i (Nat.zero_le _) hi p0 (by rw[Qid e];exact hp0)
  simpa using this
theorem DA.len(h2:H.length<=H1.length):[H,H1].all (fun X=>Nat.ble (H.length+0) X.length)=true:=by
 simp only[List.all_cons,List.all_nil,Bool.and_true,Nat.add_zero,Bool.and_eq_true]
 exact⟨Nat.ble_eq_true_of_le (Nat.le_refl _),Nat.ble_eq_true_of_le h2⟩
theorem Qk2{id:Nat}(m b:Nat)(cat:List Nat)(hm:P.follows .mixedOrders=true)(hc:Qda l m N (Qaj m 0 l) (hsC cat) (rqC b cat) [[],[b]] (plC cat)=true)(hcl:Nat.beq cat.length m=true)(h0B:Nat.ble h0 H.length=true)
  (h:DA P N m cat l (Qaj m 0 l) env H (fun r e H=>WO P h0 N l.toArray r e H Q) l []):TC P h0 N (.region id l.toArray true) env H Q:=by
 obtain⟨ys,H1,h1,h2,h3,h4⟩:=h rfl
 simp only[List.length_nil,Nat.zero_add,List.nil_append]at h1 h3 h4
 have hcl':=Nat.eq_of_beq_eq_true hcl
 exact Qbt m 0 _ _ _ _ _ ys [H,H1] H1 hm hc (by rw[h1];exact Nat.beq_refl m) rfl h0B (DA.len h2) (by simp) rfl (QmV hcl' h3) (by simp[plC,hcl']) h4
theorem QaZ{xs:List A}{o:Oper}{r:List Oper}(hr:o::r=l.drop xs.length):l[xs.length]?=some o/\r=l.drop (xs.length+1):=by
 have hlt:xs.length<l.length:=by
  rcases Nat.lt_or_ge xs.length l.length with q|q
  ·exact q
  ·rw[List.drop_eq_nil_of_le q]at hr;cases hr
 rw[List.drop_eq_getElem_cons hlt]at hr
 cases hr
 exact⟨List.getElem?_eq_getElem hlt,rfl⟩
theorem QfW{zs:List A}{j c:Nat}(hc:Yt cat j=some c)(h:∀p∈(match c with|0=>[(0,0)]|1=>[(0,1)]|2=>[(1,1)]|_=>[(0,0),(1,1)]:List (Nat×Nat)),Y8 P N l ds zs env H.length H.length j ([H,H1].getD p.1 []) ([H,H1].getD p.2 [])):Dob P N cat l ds env H H1 zs j:=by
 intro p hp
 rw[Qav]at hc
 unfold plC at hp
 rw[List.getD_eq_getElem?_getD,List.getElem?_map,hc]at hp
 exact h p hp
theorem Qat{hB hE:Nat}{xs ys:List A}{o:Oper}{x:A}{d:Nat}{X X':Qc}(ho:l[xs.length]?=some o)(hdd:Qan hB hE X X'=true)(h:WO P X.length N l.toArray [o] (QO (Qf o) 0 ds xs env) X (YE (up (QO (Qf o) 0 ds xs env) d x) X'))(hd:o.dst=some d):
  Y8 P N l ds (xs++x::ys) env hB hE xs.length X X':=
 .woE o _ d x ho hd Qgp (he:=by
  intro s
  rcases Qih (af:=Qf o) (env0:=env) (s:=s) ds xs (x::ys) 0 with⟨j,y,q1,q2,q3,q4⟩|q|q
  ·rw[Nat.zero_add]at q1;exact .inl ⟨j,y,q1,q2,q3,q4⟩
  ·exact .inr (.inl q)
  ·exact .inr (.inr q)) (hdd:=hdd) (h:=h)
theorem YH{n:Nat}{X X':Qc}:Qan n n X X'=true:=by unfold Qan;rw[Nat.sub_self];rfl
theorem DA.wo{xs:List A}{o:Oper}{r:List Oper}{x:A}{d:Nat}(h:WO P H.length N l.toArray [o] (QO (Qf o) 0 ds xs env) H (YE (up (QO (Qf o) 0 ds xs env) d x) H))(k:DA P N m cat l ds env H K r (xs++[x]))
  (hc:Yt cat xs.length=some 0:=by exact rfl)(hd:o.dst=some d:=by exact rfl)(hx:Nat.blt xs.length m=true:=by exact rfl):DA P N m cat l ds env H K (o::r) xs:=by
 intro hr
 obtain⟨ho,hr'⟩:=QaZ hr
 obtain⟨ys,H1,h1,h2,h3,h4⟩:=k (by simpa using hr')
 simp only[List.length_append,List.length_cons,List.length_nil,List.append_assoc,List.cons_append,List.nil_append]at h1 h3 h4
 refine⟨x::ys,H1,by simp only[List.length_cons];omega,h2,fun j q1 q2=>?_,h4⟩
 rcases Nat.lt_or_ge xs.length j with q|q
 ·exact h3 j (by omega) q2
 ·obtain rfl:j=xs.length:=by omega
  refine QfW hc fun p hp=>?_
  obtain rfl:=List.mem_singleton.1 hp
  exact Qat ho YH h hd
theorem DA.op{xs:List A}{o:Oper}{r:List Oper}{x:A}{d:Nat}(h:WO P H.length N l.toArray [o] (QO (Qf o) 0 ds xs env) H (YE (up (QO (Qf o) 0 ds xs env) d x) H1))(k:DB P N m cat l ds env H H1 K r (xs++[x]))(hl:Nat.ble H.length H1.length=true:=by exact rfl)
  (hc:Yt cat xs.length=some 1:=by exact rfl)(hd:o.dst=some d:=by exact rfl)(hx:Nat.blt xs.length m=true:=by exact rfl):DA P N m cat l ds env H K (o::r) xs:=by
 intro hr
 obtain⟨ho,hr'⟩:=QaZ hr
 obtain⟨ys,h1,h3,h4⟩:=k (by simpa using hr')
 simp only[List.length_append,List.length_cons,List.length_nil,List.append_assoc,List.cons_append,List.nil_append]at h1 h3 h4
 refine⟨x::ys,H1,by simp only[List.length_cons];omega,Nat.le_of_ble_eq_true hl,fun j q1 q2=>?_,h4⟩
 rcases Nat.lt_or_ge xs.length j with q|q
 ·exact h3 j (by omega) q2
 ·obtain rfl:j=xs.length:=by omega
  refine QfW hc fun p hp=>?_
  obtain rfl:=List.mem_singleton.1 hp
  exact Qat ho YH h hd
theorem QfX{xs:List A}{o:Oper}{r:List Oper}{x x':A}{d:Nat}{H1':Qc}(h:OpH P o (QO (Qf o) 0 ds xs env) H x H1)(hx':foA x=.mk x')(hH':foH H1=.mk H1')(k:DB P N m cat l ds env H H1' K r (xs++[x']))(hd:o.dst=some d:=by exact rfl)(hg:YA ⟨l⟩ o (QO (Qf o) 0 ds xs env)=some true:=by exact rfl)(hN:Nat.blt d N=true:=by exact rfl)(hl:Nat.ble H.length H1'.length=true:=by exact rfl)
  (hc:Yt cat xs.length=some 1:=by exact rfl)(hx:Nat.blt xs.length m=true:=by exact rfl):DA P N m cat l ds env H K (o::r) xs:=by
 rw[QfC]at hx'
 rw[Qhr]at hH'
 cases hx'
 cases hH'
 exact .op (QfK (Nat.le_refl _) (Qx hg) hd hN h (WO.nil YE.mk)) k hl hc hd hx
theorem DB.done{xs:List A}{r:List Oper}(hx:Nat.beq xs.length m=true)(h:K r (Qao ds xs env) H1):DB P N m cat l ds env H H1 K r xs:=by
 intro hr
 have e:=Nat.eq_of_beq_eq_true hx
 subst hr
 refine⟨[],by simpa using e,fun j q1 q2=>by omega,?_⟩
 rw[<- e,List.append_nil];exact h
theorem DB.add{xs:List A}{o:Oper}{r:List Oper}{x:A}(hb:∀ys,l[xs.length]?=some o->Dob P N cat l ds env H H1 (xs++x::ys) xs.length)(k:DB P N m cat l ds env H H1 K r (xs++[x])):DB P N m cat l ds env H H1 K (o::r) xs:=by
 intro hr
 obtain⟨ho,hr'⟩:=QaZ hr
 obtain⟨ys,h1,h3,h4⟩:=k (by simpa using hr')
 simp only[List.length_append,List.length_cons,List.length_nil,List.append_assoc,List.cons_append,List.nil_append]at h1 h3 h4
 refine⟨x::ys,by simp only[List.length_cons];omega,fun j q1 q2=>?_,h4⟩
 rcases Nat.lt_or_ge xs.length j with q|q
 ·exact h3 j (by omega) q2
 ·obtain rfl:j=xs.length:=by omega
  exact hb ys ho
theorem DB.wo1{xs:List A}{o:Oper}{r:List Oper}{x:A}{d:Nat}(h:WO P H1.length N l.toArray [o] (QO (Qf o) 0 ds xs env) H1 (YE (up (QO (Qf o) 0 ds xs env) d x) H1))(k:DB P N m cat l ds env H H1 K r (xs++[x]))
  (hc:Yt cat xs.length=some 2:=by exact rfl)(hd:o.dst=some d:=by exact rfl):DB P N m cat l ds env H H1 K (o::r) xs:=
 .add (fun ys ho=>QfW hc fun p hp=>by
  obtain rfl:=List.mem_singleton.1 hp
  exact Qat ho YH h hd) k
theorem DB.wo2{xs:List A}{o:Oper}{r:List Oper}{x:A}{d:Nat}(h:WO P H.length N l.toArray [o] (QO (Qf o) 0 ds xs env) H (YE (up (QO (Qf o) 0 ds xs env) d x) H))(h1:WO P H1.length N l.toArray [o] (QO (Qf o) 0 ds xs env) H1 (YE (up (QO (Qf o) 0 ds xs env) d x) H1))(k:DB P N m cat l ds env H H1 K r (xs++[x]))
  (hc:Yt cat xs.length=some 3:=by exact rfl)(hd:o.dst=some d:=by exact rfl):DB P N m cat l ds env H H1 K (o::r) xs:=
 .add (fun ys ho=>QfW hc fun p hp=>by
  rcases List.mem_cons.1 hp with rfl|hp
  ·exact Qat ho YH h hd
  ·obtain rfl:=List.mem_singleton.1 hp
   exact Qat ho YH h1 hd) k
def Qga(T:TyX)(N m:Nat)(cat:List Nat)(l:List Oper)(ds:List Nat)(env:Env)(H:Qc):Nat->Nat->List Oper->List A->Option (List Oper×List A)
 |0,_,r,xs=>some (r,xs)
 |_+1,_,[],_=>none
 |n+1,i,o::r,xs=>match Nat.blt i m,Yt cat i with
  |true,some 0=>match o.dst with
   |none=>none
   |some d=>match Nat.blt d N with
    |false=>none
    |true=>match YA ⟨l⟩ o (QO (Qf o) 0 ds xs env)with
     |none=>none
     |some false=>match Qcn xs (.tup [])with
      |.mk xs'=>Qga T N m cat l ds env H n (i+1) r xs'
     |some true=>match QcE T o (QO (Qf o) 0 ds xs env) H with
      |none=>none
      |some x=>match Qcn xs x with
       |.mk xs'=>Qga T N m cat l ds env H n (i+1) r xs'
  |_,_=>none
theorem QdO(hT:Qa2 P T):∀(n i:Nat) {r r':List Oper}{xs xs':List A},i=xs.length->Qga T N m cat l ds env H n i r xs=some (r',xs')->DA P N m cat l ds env H K r' xs'->DA P N m cat l ds env H K r xs
 |0,i,r,r',xs,xs',_,h,k=>by cases h;exact k
 |n+1,i,[],r',xs,xs',_,h,k=>by cases h
 |n+1,i,o::r,r',xs,xs',hi,h,k=>by
  subst hi
  unfold Qga at h
  split at h
  ·rename_i q1 q0
   split at h
   ·cases h
   ·rename_i d hd
    split at h
    ·cases h
    ·rename_i q2
     split at h
     ·cases h
     ·rename_i hw
      simp only[YO]at h
      exact .wo (WO.skip (Qx hw) hd q2 (WO.nil YE.mk)) (QdO hT n _ (by simp) h k) q0 hd q1
     ·rename_i hw
      split at h
      ·cases h
      ·rename_i x hv
       simp only[YO]at h
       exact .wo (Yp (Qx hw) hd q2 (Qap hT hv) (WO.nil YE.mk)) (QdO hT n _ (by simp) h k) q0 hd q1
  ·cases h
theorem Qld{H:Qc}{p:Bx}{r:Lx}(h:ptX [] p=some r):ptX H p=some r:=by
 unfold ptX at h⊢
 split at h
 ·exact h
 ·rename_i i off
  simp only[Yt]at h
  cases h
 ·cases h
theorem QdF{o:Oper}{e:Env}{H:Qc}{x:A}(h:QcE T o e []=some x):QcE T o e H=some x:=by
 unfold QcE at h⊢
 split at h<;>first|exact h|skip
 rename_i t y ho
 split at h
 ·cases h
 ·rename_i b n ht
  split at h
  ·exact h
  ·rename_i hng
   cases q:ptX [] (opB e y)with
   |none=>rw[q]at h;cases h
   |some r=>
    rw[q]at h
    have q':=Qld (H:=H) q
    simp only[q']
    exact h
def QdN(T:TyX)(N:Nat)(cat:List Nat)(l:List Oper)(ds:List Nat)(env:Env)(H1:Qc):Nat->Nat->List Oper->List A->Option (List Oper×List A)
 |0,_,r,xs=>some (r,xs)
 |_+1,_,[],_=>none
 |n+1,i,o::r,xs=>match o.dst with
  |none=>none
  |some d=>match Nat.blt d N with
   |false=>none
   |true=>match YA ⟨l⟩ o (QO (Qf o) 0 ds xs env)with
    |none=>none
    |some false=>match Yt cat i with
     |some 2=>(match Qcn xs (.tup [])with
      |.mk xs'=>QdN T N cat l ds env H1 n (i+1) r xs')
     |some 3=>(match Qcn xs (.tup [])with
      |.mk xs'=>QdN T N cat l ds env H1 n (i+1) r xs')
     |_=>none
    |some true=>match Yt cat i with
     |some 2=>(match QcE T o (QO (Qf o) 0 ds xs env) H1 with
      |none=>none
      |some x=>match Qcn xs x with
       |.mk xs'=>QdN T N cat l ds env H1 n (i+1) r xs')
     |some 3=>(match QcE T o (QO (Qf o) 0 ds xs env) []with
      |none=>none
      |some x=>match Qcn xs x with
       |.mk xs'=>QdN T N cat l ds env H1 n (i+1) r xs')
     |_=>none
theorem Qbp(hT:Qa2 P T):∀(n i:Nat) {r r':List Oper}{xs xs':List A},i=xs.length->QdN T N cat l ds env H1 n i r xs=some (r',xs')->DB P N m cat l ds env H H1 K r' xs'->DB P N m cat l ds env H H1 K r xs
 |0,i,r,r',xs,xs',_,h,k=>by cases h;exact k
 |n+1,i,[],r',xs,xs',_,h,k=>by cases h
 |n+1,i,o::r,r',xs,xs',hi,h,k=>by
  subst hi
  unfold QdN at h
  split at h
  ·cases h
  ·rename_i d hd
   split at h
   ·cases h
   ·rename_i q2
    split at h
    ·cases h
    ·rename_i hw
     split at h
     ·rename_i q0
      simp only[YO]at h
      exact .wo1 (WO.skip (Qx hw) hd q2 (WO.nil YE.mk)) (Qbp hT n _ (by simp) h k) q0 hd
     ·rename_i q0
      simp only[YO]at h
      exact .wo2 (WO.skip (Qx hw) hd q2 (WO.nil YE.mk)) (WO.skip (Qx hw) hd q2 (WO.nil YE.mk)) (Qbp hT n _ (by simp) h k) q0 hd
     ·cases h
    ·rename_i hw
     split at h
     ·rename_i q0
      split at h
      ·cases h
      ·rename_i x hv
       simp only[YO]at h
       exact .wo1 (Yp (Qx hw) hd q2 (Qap hT hv) (WO.nil YE.mk)) (Qbp hT n _ (by simp) h k) q0 hd
     ·rename_i q0
      split at h
      ·cases h
      ·rename_i x hv
       simp only[YO]at h
       exact .wo2 (Yp (Qx hw) hd q2 (Qap hT (QdF hv)) (WO.nil YE.mk)) (Yp (Qx hw) hd q2 (Qap hT (QdF hv)) (WO.nil YE.mk)) (Qbp hT n _ (by simp) h k) q0 hd
     ·cases h
end
end Go.Sw
namespace Go.Sw
def chkF(L:List (Nat×List (Nat×Nat)))(fs:List (Nat×Nat×Nat)):Bool:=
 fs.all fun e=>match QbJ L e.1 with
  |some pl=>(match Yt pl e.2.1 with
   |some q=>Nat.beq q.1 e.2.2&& !(Nat.beq q.2 0)
   |none=>false)
  |none=>false
theorem PL.get{P:Program}{fs:List Field}{pl:List (Nat×Nat)}(h:PL P fs pl):∀{f off n:Nat},Yt pl f=some (off,n)->∃fd,fs[f]?=some fd/\fd.offset=off/\ ∀w,(sizeOf fd.type).run P w=.ok n w:=by
 induction h with
 |nil=>intro f off n h;cases h
 |cons h k ih=>
  intro f off n hg
  cases f with
  |zero=>cases hg;exact⟨_,rfl,rfl,h⟩
  |succ f=>obtain⟨fd,h1,h2⟩:=ih (show Yt _ f=_ from hg);exact⟨fd,by simpa using h1,h2⟩
theorem QmJ{P:Program}{L:List (Nat×List (Nat×Nat))}{fs:List (Nat×Nat×Nat)}(hL:∀e∈L,Qv P e.1 e.2)(h:chkF L fs=true):∀e∈fs,∃n,YP P e.1 e.2.1 e.2.2 n:=by
 intro e he
 have:=List.all_eq_true.1 h e he
 split at this
 ·rename_i pl hpl
  split at this
  ·rename_i q hq
   obtain⟨off,n⟩:=q
   simp only[Bool.and_eq_true,Bool.not_eq_true']at this
   have e1:=Nat.eq_of_beq_eq_true this.1
   obtain⟨fs',h1,h2⟩:=hL _ (Qaq hpl)
   obtain⟨fd,g1,g2,g3⟩:=PL.get h2 hq
   refine⟨n,⟨⟨_,fd,h1,by simpa using g1,g2.trans e1,g3,?_⟩⟩⟩
   intro z
   have h2:=this.2
   rw[z,Nat.beq_refl]at h2
   cases h2
  ·cases this
 ·cases this
section
variable {P:Program}{Z:TyZ}{h0 N:Nat}{all:Array Oper}{o:Oper}{l:List Oper}{env:Env}{H:Qc}{Q:Qm}{d:Nat}
theorem Cdz(hZ:Qco P Z){β γ:Type}{F:Option β}{F':β->Option γ}{r:γ}{f:Nat}{args argsc:List A}{Hc:Qc}{w:β->A}{Hr:β->Qc}(π:List Nat)(h:F.bind F'=some r)(hC:∀v,F=some v->C P f argsc Hc (RQ w Hr v))
  (hop:QeG Z o env=some (d,f,args))(g:∀v,F=some v->F' v=some r->WO P h0 N all l (up env d (Yg (rho π H.length) (w v))) (Q1 H π ((Hr v).map (QG (rho π H.length)))) Q)
  (hargs:args=Qaa (rho π H.length) argsc)(hH:π.map (fun p=>H[p]?)=(Hc.map (QG (rho π H.length))).map some)(hπ:π.Nodup)(hg:YA all o env=some true)(hN:Nat.blt d N=true)(hh:Nat.ble h0 H.length=true):WO P h0 N all (o::l) env H Q:=by
 obtain⟨v,h1,h2⟩:=bnd h
 obtain⟨q1,q2⟩:=Qdx (H:=H) hZ hop
 refine Qz π q2 (hC v h1) ?_ hargs hH hπ (Qx hg) q1 hN hh
 rintro _ _ ⟨rfl,rfl⟩
 exact g v h1 h2
end
inductive FLL where
 |mk (l:List (List A))
def cpLL(sel:List Nat):List (List A)->FLL
 |[]=>.mk []
 |a::r=>match cpL sel a,cpLL sel r with
  |.mk a',.mk r'=>.mk (a'::r')
inductive FBk where
 |mk (b:Blk)
def cpBk(sel:List Nat):Blk->FBk
 |.cells t cs=>match cpL sel cs with
  |.mk l=>.mk (.cells t l)
 |.rowr t k es=>match cpLL sel es with
  |.mk l=>.mk (.rowr t k l)
 |.ents t a b es=>match Qiw sel ixL a,Qiw sel ixL b with
  |.mk a',.mk b'=>.mk (.ents t a' b' es)
 |b=>.mk b
def selD(H:Qc)(sel:List Nat):List Nat->FB
 |[]=>.mk []
 |a::r=>match Yt H a with
  |some b=>(match cpBk sel b,selD H sel r with
   |.mk b',.mk l=>.mk (b'::l))
  |none=>.mk []
def retC(sel sl:List Nat)(env:Env)(H:Qc):Option (Env×Qc):=
 match QjY sel env sl [],selD H sel sel with
 |.mk e,.mk h=>some (e,h)
theorem Rx{P:Program}{h0:Nat}{fn:Func}{env E':Env}{H H':Qc}{Qr:A->Qc->Prop}{rr:A}(π sl:List Nat)(_:retC π sl env H=some (E',H'))(hres:Qcs P fn E' H' rr)(hq:Qr rr H')(hpre:π.take h0=List.range h0:=by exact rfl)
  (hH:π.map (fun p=>H[p]?)=(H'.map (QG (rho π H.length))).map some:=by exact rfl)(hπ:π.Nodup:=by decide)(hE:Qey (rho π H.length) env E':=by(repeat' (first|exact trivial|refine⟨rfl,?_⟩))):Qcr P h0 fn Qr .ret env H:=
 ⟨E',H',rr,Lr π hpre hH hπ hE,hres,hq⟩
end Go.Sw
namespace Go.Sw
def nxL{T:Type}:List T->T->List T->Prop:=fun l x rem=>l=x::rem
def Qf8{S T B:Type}(step:S->T->Option (Ctl S B)):List T->S->Option (Ctl S B)
 |[],s=>some (.cont s)
 |x::l,s=>(step s x).bind fun d=>match d with
  |.cont s'=>Qf8 step l s'
  |.done b=>some (.done b)
def QbQ{S T B:Type}(step:S->Option (List T×Ctl S B)):Nat->S->Option (List T×B)
 |0,_=>none
 |n+1,s=>(step s).bind fun p=>match p.2 with
  |.cont s'=>(QbQ step n s').bind fun q=>some (p.1++q.1,q.2)
  |.done b=>some (p.1,b)
def QkK{S B:Type}(h1:Nat)(env:Env)(Q:Qm)(d:Ctl S B)(Hp:S->Qc):Qm
 |.normal,env',H'=>∃s,d=.cont s/\Le h1 env' H' [] (Hp s)
 |.exit id,env',H'=>(∃b,d=.done b)/\ ∃H2,Le h1 env' H' [] H2/\Q (.exit id) env H2
 |.ret,env',H'=>(∃b,d=.done b)/\ ∃H2,Le h1 env' H' [] H2/\Q .ret env H2
theorem Qk9{S B:Type}{h1:Nat}{env env':Env}{H':Qc}{Q:Qm}{s:S}{d:Ctl S B}{Hp:S->Qc}(e:some (Ctl.cont s)=some d)(h:Le h1 env' H' [] (Hp s)):QkK h1 env Q d Hp .normal env' H':=⟨s,(Oi e).symm,h⟩
theorem QiW{P:Program}{h0 N:Nat}{gop:Operand}{ps:List Nat}{assign body:Code}{env:Env}{H:Qc}{Q:Qm}{f:FuncId}{caps capc:List A}{Hc:Qc}{T S B:Type}{enc:T->List A}{xs:List T}{step:S->T->Option (Ctl S B)}{s0:S}{D:Ctl S B}
  (π:List Nat)(Hp:S->Qc)(h:Qf8 step xs s0=some D)(hseq:QkI P f capc Hc enc nxL xs)(hscl:∀x,QbK (enc x)=true)(hlen:∀x,(enc x).length=ps.length)(eg:∀args w,(callFunc f args).run P w=.ok (.enter f args) w)
  (hh:Nat.ble h0 H.length=true)(hg:opA env gop=.fn (.func f) [] caps)(hargs:caps=Qaa (rho π H.length) capc)(hH:π.map (fun p=>H[p]?)=(Hc.map (QG (rho π H.length))).map some)(hπ:π.Nodup)(hps:(ps.all fun p=>Nat.blt p N)=true)
  (hle:Le H.length env (Qc6 H π) env (Hp s0))
  (hbody:∀s x d,step s x=some d->(∀b,d=.done b->D=.done b)->TC P H.length N assign (Qjn ps (enc x) env) (Hp s) fun e env1 H1=>e=.normal/\TC P H.length N body env1 H1 (QkK H.length env Q d Hp))
  (hdone:∀s,D=.cont s->Q .normal env (Hp s)):TC P h0 N (.rangeFunc gop ps.toArray assign body) env H Q:=by
 refine TC.rangeFunc π Hp (fun s l=>Qf8 step l s=some D) s0 (Nat.le_of_ble_eq_true hh) hg hargs hH hπ hps eg hseq hscl hlen hle h ?_ ?_
 ·rintro s l x rem hV rfl
  obtain⟨d,hd,hV⟩:=bnd hV
  refine(hbody s x d hd ?_).mono ?_
  ·rintro b rfl
   exact(Oi hV).symm
  ·rintro e env1 H1 ⟨he,hb⟩
   refine⟨he,hb.mono ?_⟩
   intro e2 env2 H2 q
   cases e2 with
   |normal=>
    obtain⟨s',rfl,hle⟩:=q
    exact⟨Hp s',hle,s',hV,rfl⟩
   |exit id=>
    obtain⟨_,H3,h3,q⟩:=q
    exact⟨H3,h3,q⟩
   |ret=>
    obtain⟨_,H3,h3,q⟩:=q
    exact⟨H3,h3,q⟩
 ·intro s hs
  exact hdone s (Oi hs).symm
section
variable {T:Type}{X:Ctx T}{P:Program}{h0 N:Nat}{c:Code}{env:Env}{H:Qc}{st:YSt T}{Q:Ye T}
def Qew{S B:Type}(h0:Nat)(E:S->Env)(Hp:S->Qc)(d:Ctl S B)(rest:List T)(Q:Ye T):Ye T
 |.normal,env,H,st=>∃s,d=.cont s/\Le h0 env H (E s) (Hp s)/\st=.on rest
 |.exit id,env,H,st=>Q (.exit id) env H st
 |.ret,env,H,st=>Q .ret env H st
theorem QiT{S B:Type}{step:S->Option (List T×Ctl S B)}{E:S->Env}{Hp:S->Qc}{m:Nat}{s0:S}{ys rem:List T}{b:B}(h:QbQ step m s0=some (ys,b))(hI:Le h0 env H (E s0) (Hp s0))
  (body:∀s zs d rest,step s=some (zs,d)->(∀b',d=.done b'->b'=b/\rest=rem)->TCy X P h0 N c (E s) (Hp s) (.on (zs++rest)) (Qew h0 E Hp d rest Q)):TCy X P h0 N (.loop c) env H (.on (ys++rem)) Q:=by
 refine QiU (I:=fun n env H st=>∃s ys',QbQ step n s=some (ys',b)/\st=.on (ys'++rem)/\Le h0 env H (E s) (Hp s)) ?_ ⟨s0,ys,h,rfl,hI⟩
 rintro n env H st ⟨s,ys',hi,rfl,hle⟩
 cases n with
 |zero=>cases hi
 |succ n=>
  obtain⟨⟨zs,d⟩,hs,hi⟩:=bnd hi
  refine TCy.le hle ?_
  cases d with
  |cont s'=>
   obtain⟨⟨q1,q2⟩,hq,hi⟩:=bnd hi
   cases hi
   rw[List.append_assoc]
   refine(body s zs (.cont s') (q1++rem) hs (fun b' e=>by cases e)).mono ?_
   rintro x env' H' st' q
   cases x with
   |normal=>
    obtain⟨s2,e,q1',rfl⟩:=q
    cases e
    exact⟨n,Nat.lt_succ_self n,_,_,hq,rfl,q1'⟩
   |exit id=>exact q
   |ret=>exact q
  |done b'=>
   cases hi
   refine(body s _ (.done b) rem hs (fun b' e=>by cases e;exact⟨rfl,rfl⟩)).mono ?_
   rintro x env' H' st' q
   cases x with
   |normal=>obtain⟨s2,e,_⟩:=q;cases e
   |exit id=>exact q
   |ret=>exact q
def kqY(X:Ctx T)(P:Program)(h0 N:Nat):List Kf->Ye T->Ye T
 |[],Q=>Q
 |.seq c::k,Q=>SeqY X P h0 N c (kqY X P h0 N k Q)
 |.blo id::k,Q=>BloY id (kqY X P h0 N k Q)
 |.unr c::k,Q=>fun _ _ _ _=>False
@[reducible] def HdY(X:Ctx T)(P:Program)(h0 N:Nat):Cf->List Kf->Env->Qc->YSt T->Ye T->Prop
 |.code c,k,env,H,st,Q=>TCy X P h0 N c env H st (kqY X P h0 N k Q)
 |.ops all l,k,env,H,st,Q=>WOy X P h0 N all l env H st (kqY X P h0 N k Q)
 |.out x,k,env,H,st,Q=>kqY X P h0 N k Q x env H st
def QlT:Cf->List Kf->Bool
 |.code (.loop _),_=>false
 |.out _,.unr _::_=>false
 |_,_=>true
theorem Qjq{Tx:TyX}(hT:Qa2 P Tx){c c':Cf}{k k':List Kf}{env env':Env}{H H':Qc}(h:QeK Tx h0 N c k env H=some (c',k',env',H'))(hn:QlT c k=true)(g:HdY X P h0 N c' k' env' H' st Q):HdY X P h0 N c k env H st Q:=by
 unfold QeK at h
 split at h
 ·cases h;exact TCy.seq g
 ·cases h;exact TCy.block g
 ·cases hn
 ·cases h;exact TCy.skip g
 ·cases h;exact TCy.ret g
 ·cases h;exact TCy.exit g
 ·cases h;exact TCy.region g
 ·split at h
  ·rename_i q;cases h;exact TCy.cond (Qu q) (fun _=>g) (fun e=>by cases e)
  ·rename_i q;cases h;exact TCy.cond (Qu q) (fun e=>by cases e) (fun _=>g)
  ·cases h
 ·cases h;exact WOy.nil g
 ·split at h
  ·rename_i q;cases h;exact WOy.step (Qg6 hT q (WO.nil ⟨rfl,g⟩))
  ·cases h
 ·cases h;exact g
 ·cases h;exact g
 ·cases h;exact g
 ·cases h;exact g
 ·split at h
  ·rename_i q
   cases h
   have e:=Nat.eq_of_beq_eq_true q
   subst e
   show(bif Nat.beq _ _ then _ else _)
   rw[Nat.beq_refl]
   exact g
  ·rename_i q
   cases h
   show(bif Nat.beq _ _ then _ else _)
   rw[q]
   exact g
 ·cases h;exact g
 ·cases hn
 ·cases hn
 ·cases hn
 ·cases h
def Qhe(Tx:TyX)(h0 N:Nat):Nat->Cf->List Kf->Env->Qc->Option (Cf×List Kf×Env×Qc)
 |0,c,k,env,H=>some (c,k,env,H)
 |n+1,c,k,env,H=>match QlT c k with
  |true=>(match QeK Tx h0 N c k env H with
   |some (c',k',env',H')=>Qhe Tx h0 N n c' k' env' H'
   |none=>none)
  |false=>none
theorem Qb9{Tx:TyX}(hT:Qa2 P Tx):∀(n:Nat) {c c':Cf}{k k':List Kf}{env env':Env}{H H':Qc},Qhe Tx h0 N n c k env H=some (c',k',env',H')->HdY X P h0 N c' k' env' H' st Q->HdY X P h0 N c k env H st Q
 |0,c,c',k,k',env,env',H,H',h,g=>by cases h;exact g
 |n+1,c,c',k,k',env,env',H,H',h,g=>by
  unfold Qhe at h
  split at h
  ·rename_i hn
   split at h
   ·rename_i e;exact Qjq hT e hn (Qb9 hT n h g)
   ·cases h
  ·cases h
theorem TCy.lf{k:List Kf}(h:TC P h0 N c env H (fun x env H=>kqY X P h0 N k Q x env H st)):TCy X P h0 N c env H st (kqY X P h0 N k Q):=TCy.lift h
theorem QmO{all:Array Oper}{o:Oper}{r:List Oper}{d:Nat}{x:T}{l:List T}{e:T->A}{y z:Operand}{ta:Array TypeId}(hE:X.enc=fun x=>[e x])(hN:X.nx=nxL)(ho:o.op=.call {callee:=.value y,args:= #[z],argTypes:=ta})(hy:opA env y=.fn (.yield X.l) [] [])(hz:opA env z=e x)(hs:Qfr (e x)=true)
  (k1:WOy X P h0 N all r (up env d (.bool true)) H (.on l) Q)(k2:WOy X P h0 N all r (up env d (.bool false)) H (.off l) Q)(hg:Ql all o env true:=by exact rfl)(hd:o.dst=some d:=by exact rfl)(hNd:Nat.blt d N=true:=by exact rfl):WOy X P h0 N all (o::r) env H (.on (x::l)) Q:=by
 refine WOy.yield (x:=x) (rem:=l) (by rw[hN];rfl) hg hd hNd ?_ ?_
 ·rw[hE]
  exact Qji ho hy hz hs
 ·intro b
  cases b with
  |true=>exact k1
  |false=>exact k2
end
end Go.Sw
namespace Go.Sw
def yl{T R:Type}(x:T)(k:Option (List T×R)):Option (List T×R):=k.bind fun p=>some (x::p.1,p.2)
def ap{T B R:Type}(a:Option (List T×B))(k:B->Option (List T×R)):Option (List T×R):=a.bind fun p=>(k p.2).bind fun q=>some (p.1++q.1,q.2)
theorem yl_ok{T R:Type}{x:T}{k:Option (List T×R)}{ys:List T}{v:R}(h:yl x k=some (ys,v)):∃zs,k=some (zs,v)/\ys=x::zs:=by
 obtain⟨⟨zs,v'⟩,h1,h2⟩:=bnd h
 cases h2
 exact⟨zs,h1,rfl⟩
theorem QlZ{T B R:Type}{a:Option (List T×B)}{k:B->Option (List T×R)}{ys:List T}{v:R}(h:ap a k=some (ys,v)):∃y1 b y2,a=some (y1,b)/\k b=some (y2,v)/\ys=y1++y2:=by
 obtain⟨⟨y1,b⟩,h1,h2⟩:=bnd h
 obtain⟨⟨y2,v'⟩,h3,h4⟩:=bnd h2
 cases h4
 exact⟨y1,b,y2,h1,h3,rfl⟩
section
variable {T:Type}{X:Ctx T}{P:Program}{h0 N:Nat}{c c':Code}{env:Env}{H:Qc}{st:YSt T}{Q:Ye T}
def Qk3{β:Type}(h0:Nat)(b:β)(E':β->Env)(H':β->Qc)(rem:List T)(Q:Ye T):Ye T
 |.normal,env,H,st=>Le h0 env H (E' b) (H' b)/\st=.on rem
 |.exit id,env,H,st=>Q (.exit id) env H st
 |.ret,env,H,st=>Q .ret env H st
theorem QgP{β:Type}{E':β->Env}{H':β->Qc}(b:β)(rem:List T)(sel keep:List Nat)(nE:β->Env)(nH:β->List (Nat×Blk))(_:∀b,Qkq sel keep (nE b) (nH b) env H=some (E' b,H' b))(h:TCy X P h0 N c env H st (Qk3 h0 b E' H' rem Q))(k:∀env H,Le h0 env H (E' b) (H' b)->Q .normal env H (.on rem)):TCy X P h0 N c env H st Q:=
 h.mono fun x env' H' st' q=>by
  cases x with
  |normal=>obtain⟨q1,rfl⟩:=q;exact k _ _ q1
  |exit id=>exact q
  |ret=>exact q
theorem QlX{β:Type}{b:β}{E':β->Env}{H':β->Qc}{rem:List T}(h:Le h0 env H (E' b) (H' b)):Qk3 h0 b E' H' rem Q .normal env H (.on rem):=⟨h,rfl⟩
theorem QlW{β:Type}{b:β}{E':β->Env}{H':β->Qc}{rem:List T}(h:Q .ret env H st):Qk3 h0 b E' H' rem Q .ret env H st:=h
theorem QkA{S B:Type}{step:S->Option (List T×Ctl S B)}{E':S->Env}{H':S->Qc}{m:Nat}{s0:S}{ys rem:List T}{b:B}(sel keep:List Nat)(nE:S->Env)(nH:S->List (Nat×Blk))(h:QbQ step m s0=some (ys,b))(_:∀s,Qkq sel keep (nE s) (nH s) env H=some (E' s,H' s))(hI:Le h0 env H (E' s0) (H' s0))
  (body:∀s zs d rest,step s=some (zs,d)->(∀b',d=.done b'->b'=b/\rest=rem)->TCy X P h0 N c (E' s) (H' s) (.on (zs++rest)) (Qew h0 E' H' d rest Q)):TCy X P h0 N (.loop c) env H (.on (ys++rem)) Q:=QiT h hI body
theorem QjT{S B:Type}{E':S->Env}{H':S->Qc}{s:S}{d:Ctl S B}{zs rest:List T}(e:some (([]:List T),Ctl.cont s)=some (zs,d))(h:Le h0 env H (E' s) (H' s)):Qew h0 E' H' d rest Q .normal env H (.on (zs++rest)):=by
 cases e;exact⟨s,rfl,h,rfl⟩
theorem QjR{S B:Type}{id:Nat}{E':S->Env}{H':S->Qc}{d:Ctl S B}{rest:List T}(h:Q (.exit id) env H st):Qew h0 E' H' d rest Q (.exit id) env H st:=h
theorem QjS{S B:Type}{E':S->Env}{H':S->Qc}{d:Ctl S B}{rest:List T}(h:Q .ret env H st):Qew h0 E' H' d rest Q .ret env H st:=h
theorem Oy{S B:Type}{d:Ctl S B}{x b:B}{zs rest rem:List T}(hb:∀b',d=.done b'->b'=b/\rest=rem)(h:some (([]:List T),Ctl.done x)=some (zs,d)):zs=[]/\b=x/\rest=rem:=by
 cases h
 obtain⟨h1,h2⟩:=hb x rfl
 exact⟨rfl,h1.symm,h2⟩
theorem QgQ{f:FuncId}{fn:Func}{c:Code}{N:Nat}{caps:List A}{H:Qc}{enc:T->List A}{xs:List T}(hf:P.funcs[f]?=some fn)(hb:fn.body=some c)(hN:fn.ntmps=N)(hA:Nat.ble (caps.length+1) N=true)(hR:fn.results= #[])
  (h:∀X:Ctx T,X.enc=enc->X.nx=nxL->TCy X P H.length N c (Qe6 0 (.fn (.yield X.l) [] []::caps)) H (.on (xs++[])) EndY):QkI P f caps H enc nxL xs:=by
 rw[List.append_nil]at h
 exact QfO hf hb hN hA hR h
end
end Go.Sw
namespace Go.Sw
open Go.MapKept
section
variable {fr ro:Nat->Prop}{σ:Sig}{H:Qc}{w:World}
theorem Sim.lendO(s:Sim fr ro σ H w){i b:Nat}{x x':Blk}(hσ:σ[i]?=some (some b))(hH:H[i]?=some x)(hbr:BR ro σ w x' (some b))(hh:∀d,Hid w x' b d->Hid w x b d)(hl:x'.live=true->x.live=true:=by exact id):
  Sim fr ro σ (H.set i x') w:=by
 have hi:i<H.length:=(List.getElem?_eq_some_iff.1 hH).1
 have hcase:∀(j:Nat) (v:Blk),(H.set i x')[j]?=some v->(j=i/\v=x')\/(j≠i/\H[j]?=some v):=by
  intro j v h
  by_cases e:j=i
  ·subst e;rw[List.getElem?_set_self hi]at h;cases h;exact .inl ⟨rfl,rfl⟩
  ·rw[List.getElem?_set_ne (fun q=>e q.symm)]at h;exact .inr ⟨e,h⟩
 have hx:∀(j:Nat) (v:Blk),(H.set i x')[j]?=some v->v.live=true->∃v',H[j]?=some v'/\v'.live=true:=by
  intro j v h hv
  rcases hcase j v h with⟨rfl,rfl⟩|⟨_,h⟩
  ·exact⟨x,hH,hl hv⟩
  ·exact⟨v,h,hv⟩
 refine⟨by rw[List.length_set];exact s.len,s.roOk,s.frLt,s.roFr,?_,?_,?_,s.hidTo (· = ·) QJ (Nat.le_refl _) (fun _ _ _ _ _ _ _ q=>q) (fun _ _ _ _ _ _ _ q=>q) fun j d y g1 g2 g3=>.inl ?_⟩
 ·intro j b v h1 h2 h3
  obtain⟨v',q1,q2⟩:=hx j v h2 h3
  exact s.own j b v' h1 q1 q2
 ·intro j j' b v v' h1 h2 h3 h4 h5 h6
  obtain⟨u,q1,q2⟩:=hx j v h3 h5
  obtain⟨u',q1',q2'⟩:=hx j' v' h4 h6
  exact s.inj j j' b u u' h1 h2 q1 q1' q2 q2'
 ·intro j y v h1 h2
  rcases hcase j v h2 with⟨rfl,rfl⟩|⟨_,h⟩
  ·rw[hσ]at h1;cases h1;exact hbr
  ·exact s.blk j y v h1 h
 ·rcases hcase j y g2 with⟨rfl,rfl⟩|⟨_,h⟩
  ·rw[hσ]at g1;cases g1;exact⟨j,x,rfl,hσ,hH,hl,hh⟩
  ·exact⟨j,y,rfl,g1,h,id,fun _ q=>q⟩
theorem Sim.unhide(s:Sim fr ro σ H w){i b c:Nat}{x x' y:Blk}(hσ:σ[i]?=some (some b))(hH:H[i]?=some x)(hx:Hid w x b c)(hl:x'.live=true->x.live=true)
  (hbr:BR ro σ w x' (some b))(hh:∀d,Hid w x' b d->Hid w x b d/\d≠c)(hy:BR ro (σ++[some c]) w y (some c))(hyh:∀d,Hid w y c d->False):
  Sim fr ro (σ++[some c]) (H.set i x'++[y]) w:=by
 have hlen:=s.len
 have hi:i<H.length:=(List.getElem?_eq_some_iff.1 hH).1
 have kc:=s.hid i b x c hσ hH hx
 have hcase:∀(j:Nat) (z:Option Nat) (v:Blk),(σ++[some c])[j]?=some z->(H.set i x'++[y])[j]?=some v->
   (j=i/\z=some b/\v=x')\/(j≠i/\j<σ.length/\σ[j]?=some z/\H[j]?=some v)\/(j=σ.length/\z=some c/\v=y):=by
  intro j z v h1 h2
  rcases Nat.lt_trichotomy j σ.length with q|q|q
  ·rw[List.getElem?_append_left q]at h1
   rw[List.getElem?_append_left (by rw[List.length_set];omega)]at h2
   by_cases e:j=i
   ·subst e;rw[List.getElem?_set_self hi]at h2;rw[hσ]at h1;cases h2;cases h1;exact .inl ⟨rfl,rfl,rfl⟩
   ·rw[List.getElem?_set_ne (fun q=>e q.symm)]at h2;exact .inr (.inl ⟨e,q,h1,h2⟩)
  ·subst q
   have e1:(σ++[some c])[σ.length]?=some (some c):=by simp
   have e2:(H.set i x'++[y])[σ.length]?=some y:=by rw[hlen,show H.length=(H.set i x').length from by simp];simp
   rw[e1]at h1;rw[e2]at h2;cases h1;cases h2
   exact .inr (.inr ⟨rfl,rfl,rfl⟩)
  ·rw[List.getElem?_eq_none (by simp;omega)]at h1;simp at h1
 have ext:Ext ro σ w ro (σ++[some c]) w:=⟨fun _ q=>q,fun _ _=>rfl,fun _ _ q=>q,fun _ _ h=>YD h⟩
 refine⟨by simp[hlen],s.roOk,s.frLt,s.roFr,?_,?_,?_,?_⟩
 ·intro j d v h1 h2 h3
  rcases hcase j _ v h1 h2 with⟨rfl,e,rfl⟩|⟨_,_,q1,q2⟩|⟨rfl,e,rfl⟩
  ·cases e;exact s.own j _ x hσ hH (hl h3)
  ·exact s.own j d v q1 q2 h3
  ·cases e;exact⟨kc.lt,kc.ro,kc.fr⟩
 ·intro j j' d v v' h1 h2 h3 h4 h5 h6
  rcases hcase j _ v h1 h3 with⟨r1,e,rfl⟩|⟨n1,l1,q1,q2⟩|⟨r1,e,rfl⟩<;>rcases hcase j' _ v' h2 h4 with⟨r1',e',rfl⟩|⟨n1',l1',q1',q2'⟩|⟨r1',e',rfl⟩
  ·rw[r1,r1']
  ·cases e;exact(n1' (s.inj j' i _ v' x q1' hσ q2' hH h6 (hl h5))).elim
  ·cases e;cases e';exact(kc.ne i _ x hσ hH (hl h5) rfl).elim
  ·cases e';exact(n1 (s.inj j i _ v x q1 hσ q2 hH h5 (hl h6))).elim
  ·exact s.inj j j' d v v' q1 q1' q2 q2' h5 h6
  ·cases e';exact(kc.ne j _ v q1 q2 h5 rfl).elim
  ·cases e;cases e';exact(kc.ne i _ x hσ hH (hl h6) rfl).elim
  ·cases e;exact(kc.ne j' _ v' q1' q2' h6 rfl).elim
  ·rw[r1,r1']
 ·intro j z v h1 h2
  rcases hcase j _ v h1 h2 with⟨rfl,rfl,rfl⟩|⟨_,_,q1,q2⟩|⟨rfl,rfl,rfl⟩
  ·exact hbr.keep ext (fun _ _ _=>rfl) (fun _ _ _ _=>rfl)
  ·exact(s.blk j z v q1 q2).keep ext (fun _ _ _=>rfl) (fun _ _ _ _=>rfl)
  ·exact hy
 ·intro j d v c' h1 h2 h3
  rcases hcase j _ v h1 h2 with⟨r1,e,r2⟩|⟨n1,l1,q1,q2⟩|⟨rfl,e,rfl⟩
  ·cases e
   subst r1 r2
   obtain⟨h4,h5⟩:=hh c' h3
   have k:=s.hid j _ x c' hσ hH h4
   refine⟨k.lt,k.ro,k.fr,fun j' d' v' g1 g2 g3=>?_,fun j' d' v' g1 g2 g3=>?_⟩
   ·rcases hcase j' _ v' g1 g2 with⟨_,e,rfl⟩|⟨_,_,f1,f2⟩|⟨_,e,rfl⟩
    ·cases e;exact k.ne j _ x hσ hH (hl g3)
    ·exact k.ne j' d' v' f1 f2 g3
    ·cases e;exact h5
   ·rcases hcase j' _ v' g1 g2 with⟨r,e,rfl⟩|⟨_,_,f1,f2⟩|⟨_,e,rfl⟩
    ·cases e;exact⟨rfl,r⟩
    ·exact k.one j' d' v' f1 f2 g3
    ·cases e;exact(hyh _ g3).elim
  ·have k:=s.hid j d v c' q1 q2 h3
   have hne:c'≠c:=fun e=>by subst e;exact n1 (kc.one j d v q1 q2 h3).2
   refine⟨k.lt,k.ro,k.fr,fun j' d' v' g1 g2 g3=>?_,fun j' d' v' g1 g2 g3=>?_⟩
   ·rcases hcase j' _ v' g1 g2 with⟨_,e,rfl⟩|⟨_,_,f1,f2⟩|⟨_,e,rfl⟩
    ·cases e;exact k.ne i _ x hσ hH (hl g3)
    ·exact k.ne j' d' v' f1 f2 g3
    ·cases e;exact hne
   ·rcases hcase j' _ v' g1 g2 with⟨r,e,rfl⟩|⟨_,_,f1,f2⟩|⟨_,e,rfl⟩
    ·cases e;subst r;exact k.one j' _ x hσ hH (hh c' g3).1
    ·exact k.one j' d' v' f1 f2 g3
    ·cases e;exact(hyh _ g3).elim
  ·cases e;exact(hyh _ h3).elim
theorem Sim.hideSet(s:Sim fr ro σ H w){i b j c:Nat}{x x' y:Blk}{obj:Obj}(hσ:σ[i]?=some (some b))(hH:H[i]?=some x)(hl:x.live=true)(hσj:σ[j]?=some (some c))(hHj:H[j]?=some y)(hly:y.live=true)(hij:i≠j)
  (hsh:∀y,w.shape? b=some y->({w with heap:=w.heap.setIfInBounds b obj}:World).shape? b=some y)
  (hbr:Ext ro σ w ro σ {w with heap:=w.heap.setIfInBounds b obj}->({w with heap:=w.heap.setIfInBounds b obj}:World).heap[b]?=some obj->(∀d,d≠b->({w with heap:=w.heap.setIfInBounds b obj}:World).heap[d]?=w.heap[d]?)->BR ro σ {w with heap:=w.heap.setIfInBounds b obj} x' (some b))
  (hhd:∀d,Hid {w with heap:=w.heap.setIfInBounds b obj} x' b d->Hid w x b d\/d=c):
  Sim fr ro σ ((H.set j .dead).set i x') {w with heap:=w.heap.setIfInBounds b obj}/\Qe fr ro w ro {w with heap:=w.heap.setIfInBounds b obj}:=by
 obtain⟨hb,hbro,hbfr⟩:=s.own i b x hσ hH hl
 obtain⟨hc,hcro,hcfr⟩:=s.own j c y hσj hHj hly
 have hbc:b≠c:=fun e=>hij (s.inj i j b x y hσ (by rw[e];exact hσj) hH hHj hl hly)
 have hne:∀c,c≠b->({w with heap:=w.heap.setIfInBounds b obj}:World).heap[c]?=w.heap[c]? :=by
  intro c hc
  show(w.heap.setIfInBounds b obj)[c]?=_
  rw[Array.getElem?_setIfInBounds,if_neg (fun q=>hc q.symm)]
 have heq:({w with heap:=w.heap.setIfInBounds b obj}:World).heap[b]?=some obj:=by
  show(w.heap.setIfInBounds b obj)[b]?=_
  rw[Array.getElem?_setIfInBounds,if_pos rfl,if_pos hb]
 have hsz:({w with heap:=w.heap.setIfInBounds b obj}:World).heap.size=w.heap.size:=by simp
 have ev:Qe fr ro w ro {w with heap:=w.heap.setIfInBounds b obj}:=
  ⟨fun _ h=>h,fun c h=>hne c (fun q=>hbro (q▸h)),fun c h=>hne c (fun q=>hbfr (q▸h)),by rw[hsz];exact Nat.le_refl _,by
   intro c y h
   by_cases q:c=b
   ·subst q;exact hsh y h
   ·unfold World.shape? at h⊢;rw[hne c q];exact h,rfl,rfl,rfl,Nat.le_refl _⟩
 have hi:i<H.length:=(List.getElem?_eq_some_iff.1 hH).1
 have hcase:∀(p:Nat) (v:Blk),((H.set j .dead).set i x')[p]?=some v->(p=i/\v=x')\/v=.dead\/(p≠i/\p≠j/\H[p]?=some v):=by
  intro p v h
  by_cases e:p=i
  ·subst e;rw[List.getElem?_set_self (by rw[List.length_set];exact hi)]at h;cases h;exact .inl ⟨rfl,rfl⟩
  ·rw[List.getElem?_set_ne (fun q=>e q.symm)]at h
   by_cases e':p=j
   ·subst e'
    rw[List.getElem?_set_self (List.getElem?_eq_some_iff.1 hHj).1]at h;cases h;exact .inr (.inl rfl)
   ·rw[List.getElem?_set_ne (fun q=>e' q.symm)]at h;exact .inr (.inr ⟨e,e',h⟩)
 have hbr':=hbr (ev.ext0 σ) heq hne
 have hback:∀(p d:Nat) (v:Blk) (e:Nat),p≠i->σ[p]?=some (some d)->H[p]?=some v->Hid {w with heap:=w.heap.setIfInBounds b obj} v d e->Hid w v d e:=fun p d v e n h1 h2 q=>
  s.hidKeep h1 h2 (fun z=>hne d (fun r=>n (s.inj p i b v x (r▸h1) hσ h2 hH z hl))) ev.keepRo q
 refine⟨⟨by rw[List.length_set,List.length_set];exact s.len,s.roOk.to (fun _ q=>q) ev.keepRo (fun c h=>by rw[hsz];exact s.roLt c h),fun c h=>by rw[hsz];exact s.frLt c h,s.roFr,?_,?_,?_,?_⟩,ev⟩
 ·intro p d v h1 h2 h3
  rw[hsz]
  rcases hcase p v h2 with⟨rfl,rfl⟩|rfl|⟨_,_,q⟩
  ·rw[hσ]at h1;cases h1;exact⟨hb,hbro,hbfr⟩
  ·cases h3
  ·exact s.own p d v h1 q h3
 ·intro p p' d v v' h1 h2 h3 h4 h5 h6
  rcases hcase p v h3 with⟨r,rfl⟩|rfl|⟨n,_,q⟩<;>rcases hcase p' v' h4 with⟨r',rfl⟩|rfl|⟨n',_,q'⟩
  ·rw[r,r']
  ·cases h6
  ·subst r;exact s.inj p p' d x v' h1 h2 hH q' hl h6
  ·cases h5
  ·cases h5
  ·cases h5
  ·subst r';exact s.inj p p' d v x h1 h2 q hH h5 hl
  ·cases h6
  ·exact s.inj p p' d v v' h1 h2 q q' h5 h6
 ·intro p z v h1 h2
  rcases hcase p v h2 with⟨rfl,rfl⟩|rfl|⟨n,_,q⟩
  ·rw[hσ]at h1;cases h1;exact hbr'
  ·trivial
  ·refine(s.blk p z v h1 q).keep (ev.ext0 σ) ?_ ?_
   ·rintro d rfl hz
    exact hne d (fun r=>n (s.inj p i b v x (r▸h1) hσ q hH hz hl))
   ·rintro d e rfl hz
    exact hne e ((s.hid p d v e h1 q hz).ne i b x hσ hH hl)
 ·intro p d v e h1 h2 h3
  rcases hcase p v h2 with⟨r,rfl⟩|rfl|⟨n,nj,q⟩
  ·subst r
   rw[hσ]at h1;cases h1
   rcases hhd e h3 with h4|rfl
   ·have k:=s.hid p b x e hσ hH h4
    refine⟨by rw[hsz];exact k.lt,k.ro,k.fr,fun p' d' v' g1 g2 g3=>?_,fun p' d' v' g1 g2 g3=>?_⟩
    ·rcases hcase p' v' g2 with⟨rfl,rfl⟩|rfl|⟨_,_,q'⟩
     ·exact k.ne p' d' x g1 hH hl
     ·cases g3
     ·exact k.ne p' d' v' g1 q' g3
    ·rcases hcase p' v' g2 with⟨r',rfl⟩|rfl|⟨n',_,q'⟩
     ·subst r';rw[hσ]at g1;cases g1;exact⟨rfl,rfl⟩
     ·exact g3.elim
     ·exact k.one p' d' v' g1 q' (hback p' d' v' e n' g1 q' g3)
   ·refine⟨by rw[hsz];exact hc,hcro,hcfr,fun p' d' v' g1 g2 g3=>?_,fun p' d' v' g1 g2 g3=>?_⟩
    ·rcases hcase p' v' g2 with⟨rfl,rfl⟩|rfl|⟨_,nj',q'⟩
     ·rw[hσ]at g1;cases g1;exact fun z=>hbc z.symm
     ·cases g3
     ·exact fun z=>nj' (s.inj p' j e v' y (z▸g1) hσj q' hHj g3 hly)
    ·rcases hcase p' v' g2 with⟨r',rfl⟩|rfl|⟨n',_,q'⟩
     ·subst r';rw[hσ]at g1;cases g1;exact⟨rfl,rfl⟩
     ·exact g3.elim
     ·exact((s.hid p' d' v' e g1 q' (hback p' d' v' e n' g1 q' g3)).ne j e y hσj hHj hly rfl).elim
  ·exact h3.elim
  ·have k:=s.hid p d v e h1 q (hback p d v e n h1 q h3)
   refine⟨by rw[hsz];exact k.lt,k.ro,k.fr,fun p' d' v' g1 g2 g3=>?_,fun p' d' v' g1 g2 g3=>?_⟩
   ·rcases hcase p' v' g2 with⟨rfl,rfl⟩|rfl|⟨_,_,q'⟩
    ·exact k.ne p' d' x g1 hH hl
    ·cases g3
    ·exact k.ne p' d' v' g1 q' g3
   ·rcases hcase p' v' g2 with⟨r',rfl⟩|rfl|⟨n',_,q'⟩
    ·subst r'
     rw[hσ]at g1;cases g1
     rcases hhd e g3 with h4|rfl
     ·exact k.one p' b x hσ hH h4
     ·exact(k.ne j e y hσj hHj hly rfl).elim
    ·exact g3.elim
    ·exact k.one p' d' v' g1 q' (hback p' d' v' e n' g1 q' g3)
end
end Go.Sw
namespace Go.Sw
open Go.MapKept
def Qs{α β:Type}(ek:α->A)(ev:β->List A)(l:List (α×Option (List β))):List (A×Option (List (List A))):=l.map fun p=>(ek p.1,p.2.map (List.map ev))
def QaQ{α β:Type}[DecidableEq α](l:List (α×Option (List β)))(x:α):Option (List β):=match Qal l x with
 |none=>some []
 |some q=>q
def YB{α β:Type}[DecidableEq α](l:List (α×Option (List β)))(x:α):List (α×Option (List β)):=l.map fun p=>bif decide (p.1=x)then(p.1,none)else p
section
variable {P:Program}{kt:TypeId}{α β:Type} [DecidableEq α] {ek:α->A}{ev:β->List A}{ro:Nat->Prop}{w:World}{t k:Nat} (K:YK P kt ek)
include K
theorem QcA:∀{l:List (α×Option (List β))}{es:List MapEntry},MO ro w t k (Qs ek ev l) es->es.map (·.key)=l.map fun p=>Qi (ek p.1)
 |[],es,h=>by cases(show es=[]from h);rfl
 |p::l,es,h=>by
  obtain⟨e,l',rfl,h1,h2,h3⟩:=h
  simp only[List.map_cons]
  rw[VR.val (K.scl _) h1,QcA (l:=l) h3]
theorem QgV{l:List (α×Option (List β))}{es:List MapEntry}(h:MO ro w t k (Qs ek ev l) es):∀e∈es,∃y,e.key=Qi (ek y):=by
 intro e he
 have:e.key∈es.map (·.key):=List.mem_map_of_mem he
 rw[QcA K h]at this
 obtain⟨p,_,hp⟩:=List.mem_map.1 this
 exact⟨p.1,hp.symm⟩
theorem QdA{x:α}:∀{l:List (α×Option (List β))}{es:List MapEntry},MO ro w t k (Qs ek ev l) es->MO ro w t k (Qs ek ev (YB l x)) es
 |[],es,h=>h
 |p::l,es,h=>by
  obtain⟨e,l',rfl,h1,h2,h3⟩:=h
  by_cases q:p.1=x
  ·refine⟨e,l',rfl,by simpa[q]using h1,fun rows hr=>?_,QdA (l:=l) h3⟩
   simp[q]at hr
  ·refine⟨e,l',rfl,by simpa[q]using h1,fun rows hr=>h2 rows (by simpa[q]using hr),QdA (l:=l) h3⟩
omit K
theorem Qa7{x:α}{c:Nat}:∀{l:List (α×Option (List β))}{es:List MapEntry},YZ (Qs ek ev (YB l x)) es c->YZ (Qs ek ev l) es c
 |[],es,h=>by cases es<;>exact h.elim
 |p::l,[],h=>h.elim
 |p::l,e::es,h=>by
  rcases h with⟨h1,h2⟩|h
  ·by_cases q:p.1=x
   ·simp[q]at h1
   ·exact .inl ⟨by simpa[q]using h1,h2⟩
  ·exact .inr (Qa7 (l:=l) h)
theorem QcS{x:α}:∀{l:List (α×Option (List β))}{es:List MapEntry},QcT (Qs ek ev l) es->QcT (Qs ek ev (YB l x)) es
 |[],es,h=>by cases es<;>trivial
 |p::l,[],h=>trivial
 |p::l,e::es,h=>by
  obtain⟨h1,h2⟩:=h
  refine⟨fun c q1 q2 q3=>?_,QcS (l:=l) h2⟩
  by_cases q:p.1=x
  ·simp[q]at q1
  ·exact h1 c (by simpa[q]using q1) q2 (Qa7 (l:=l) q3)
include K
theorem MO.find:∀{l:List (α×Option (List β))}{es:List MapEntry},MO ro w t k (Qs ek ev l) es->∀(x:α),(es.map (·.key)).Nodup->
  ((∀e:MapEntry,e∈es->e.key≠Qi (ek x))->Qal l x=none)/\
  (∀(j:Nat) (e:MapEntry),es[j]?=some e->e.key=Qi (ek x)->∃q,Qal l x=some q/\(∀rows,q=some rows->SO ro w t k (rows.map ev) e.val)/\
   ∀c p n cap,q.isSome=true->e.val=.slice (some ⟨c,p,none⟩) n cap->YZ (Qs ek ev l) es c/\(QcT (Qs ek ev l) es->¬YZ (Qs ek ev (YB l x)) es c))
 |[],es,h,x,_=>by
  cases(show es=[]from h)
  exact⟨fun _=>rfl,fun j e he=>by simp at he⟩
 |p::l,es,h,x,hn=>by
  obtain⟨e0,l',rfl,h1,h2,h3⟩:=h
  have hk:e0.key=Qi (ek p.1):=VR.val (K.scl _) h1
  simp only[List.map_cons,List.nodup_cons]at hn
  obtain⟨a1,a2⟩:=MO.find (l:=l) h3 x hn.2
  by_cases hp:p.1=x
  ·subst hp
   constructor
   ·intro q;exact absurd hk (q e0 (by simp))
   ·intro j e he hx
    cases j with
    |zero=>
     simp only[List.getElem?_cons_zero,Option.some.injEq]at he
     subst he
     refine⟨p.2,by simp[Qal],fun rows hr=>h2 (rows.map ev) (by simp[hr]),fun c p' n cap hs hv=>⟨.inl ⟨by simpa using hs,p',n,cap,hv⟩,fun hd hq=>?_⟩⟩
     rcases hq with⟨q1,_⟩|hq
     ·simp at q1
     ·exact hd.1 c (by simpa using hs) ⟨p',n,cap,hv⟩ (Qa7 (l:=l) hq)
    |succ j=>
     simp only[List.getElem?_cons_succ]at he
     exact absurd (hk.trans hx.symm▸List.mem_map_of_mem (f:=fun e:MapEntry=>e.key) (List.mem_of_getElem? he)) hn.1
  ·have e1:Qal (p::l) x=Qal l x:=by simp[Qal,hp]
   rw[e1]
   constructor
   ·intro q;exact a1 fun e he=>q e (by simp[he])
   ·intro j e he hx
    cases j with
    |zero=>
     simp only[List.getElem?_cons_zero,Option.some.injEq]at he
     subst he
     exact absurd (K.inj _ _ (hk.symm.trans hx)) hp
    |succ j=>
     obtain⟨q,g1,g2,g3⟩:=a2 j e (by simpa using he) hx
     refine⟨q,g1,g2,fun c p' n cap hs hv=>?_⟩
     obtain⟨f1,f2⟩:=g3 c p' n cap hs hv
     refine⟨.inr f1,fun hd hq=>?_⟩
     rcases hq with⟨q1,q2⟩|hq
     ·exact hd.1 c (by simpa[hp]using q1) q2 f1
     ·exact f2 hd.2 hq
end
section
variable {P:Program}{o:Oper}{env:Env}{H:Qc}
variable {T kt et:Nat}{α β:Type} [DecidableEq α] {ek:α->A}{ev:β->List A}{x y:Operand}{i t k:Nat}{l:List (α×Option (List β))}{key:α}{rows:List β}
theorem QhP(t k:Nat)(ho:o.op=.makeMap T none:=by exact rfl):OpH P o env H (.map H.length) (H++[.mapO false t k []]):=by
 intro fr ro σ N a w r
 refine⟨.map (some w.heap.size),w.alloc (.map #[] 0),ro,[some w.heap.size],?_,⟨w.heap.size,?_,rfl⟩,r.sim.alloc ⟨(fun h=>by cases h), #[],0,QX _ _,rfl,trivial,by simp,by simp,by simp,rfl,fun i e h=>by simp at h⟩ (fun c h=>?_),Qe.alloc _ r.sim.roLt r.sim.frLt⟩
 ·generalize a.eval=ρ at*
  simp only[execOp,ho,Instr.makeMap,Option.map_none,Sem.run_bind]
  rfl
 ·rw[<- r.sim.len];simp
 ·obtain⟨l,cl,h1,h2⟩:=h
  cases hl:l.toList with
  |nil=>rw[hl]at h2;exact h2
  |cons e r=>rw[hl]at h2;exact h2
theorem Qi7{fz:Bool}(K:YK P kt ek)(hm:QaQ l key=some rows)(hT:P.underlying T=some (.map kt et))(hz:∀w,(zeroValue et).run P w=.ok (.slice none 0 0) w)
  (ho:o.op=.lookup T x y false:=by exact rfl)(hx:opA env x=.map i:=by exact rfl)(hH:H[i]?=some (.mapO fz t k (Qs ek ev l)):=by exact rfl)(hy:opA env y=ek key:=by exact rfl):
  OpH P o env H (.osl H.length 0 rows.length k) (H.set i (.mapO fz t k (Qs ek ev (YB l key)))++[.row t k (rows.map ev)]):=by
 intro fr ro σ N a w r
 have h1:=Qg r x
 rw[hx]at h1
 obtain⟨b,q1,q2⟩:=h1
 have h2:=Qg r y
 rw[hy]at h2
 have h3:=VR.val (K.scl _) h2
 have hB:=r.sim.blk i _ _ q1 hH
 obtain⟨p0,es,clock,p1,p2,pd,p3,p4,p5⟩:=hB
 obtain⟨f1,f2⟩:=MO.find K p2 key p5.1
 have hbr:BR ro σ w (.mapO fz t k (Qs ek ev (YB l key))) (some b):=⟨p0,es,clock,p1,QdA K p2,QcS pd,p3,p4,p5⟩
 have hhd:∀d,Hid w (.mapO fz t k (Qs ek ev (YB l key))) b d->Hid w (.mapO fz t k (Qs ek ev l)) b d:=by
  rintro d ⟨l',cl,g1,g2⟩
  exact⟨l',cl,g1,Qa7 g2⟩
 have hlen:=r.sim.len
 have none_case:rows=[]->(execOp a.eval o).run P w=.ok (.value (.slice none 0 0)) w->∃v w' ro' τ,(execOp a.eval o).run P w=.ok (.value v) w'/\VR ro' (σ++τ) w' (.osl H.length 0 rows.length k) v/\
   Sim fr ro' (σ++τ) (H.set i (.mapO fz t k (Qs ek ev (YB l key)))++[.row t k (rows.map ev)]) w'/\Qe fr ro w ro' w':=by
  rintro rfl he
  refine⟨_,w,ro,[none],he,.inl ⟨rfl,rfl⟩,?_,Qe.refl _ _ _⟩
  exact(r.sim.lendO q1 hH hbr hhd).phantom t k
 rcases K.find w key es.toList (QgV K p2)with⟨h4,h5⟩|⟨j,e,h4,h5,h6⟩
 ·have g1:=f1 h5
  have hr:rows=[]:=by simp[QaQ,g1]at hm;exact hm
  refine none_case hr ?_
  simp only[execOp,ho,q2,h3,Sem.run_bind,Instr.lookup,run_underlying hT,Result.andThen,MapKept.run_getObj_map p1,Sem.run_pure,K.check,h4,hz]
  rfl
 ·obtain⟨q,g1,g2,g3⟩:=f2 j e h5 h6
  have hq:q=some rows:=by simpa[QaQ,g1]using hm
  subst hq
  have he:(execOp a.eval o).run P w=.ok (.value e.val) w:=by
   simp only[execOp,ho,q2,h3,Sem.run_bind,Instr.lookup,run_underlying hT,Result.andThen,MapKept.run_getObj_map p1,Sem.run_pure,K.check,h4]
   rfl
  rcases g2 rows rfl with⟨z1,z2⟩|⟨c,p,cap,vs,z1,z2,z3,z4,z5,z6⟩
  ·exact none_case (by simpa using z1) (by rw[he,z2])
  ·rw[z1]at he
   obtain⟨f3,f4⟩:=g3 c p _ cap rfl z1
   refine⟨_,w,ro,[some c],he,.inr ⟨c,p,cap,t,vs.length,?_,by simp,fun q=>by simpa using z6 q,by simpa using z2,?_,by simpa using z4⟩,?_,Qe.refl _ _ _⟩
   ·rw[<- hlen];simp
   ·unfold World.shape?;rw[z3];simp
   ·refine r.sim.unhide q1 hH ⟨es,clock,p1,f3⟩ id hbr (fun d hd=>⟨hhd d hd,?_⟩) ⟨vs,z3,z5⟩ (fun _ h=>h.elim)
    rintro rfl
    obtain⟨l',cl,g4,g5⟩:=hd
    rw[p1]at g4;cases g4
    exact f4 pd g5
end
end Go.Sw
namespace Go.Sw
open Go.MapKept
theorem MO.append{ro:Nat->Prop}{w:World}{t k:Nat}:∀{l m:List (A×Option (List (List A)))}{es fs:List MapEntry},MO ro w t k l es->MO ro w t k m fs->MO ro w t k (l++m) (es++fs)
 |[],m,es,fs,h,q=>by cases(show es=[]from h);exact q
 |p::l,m,es,fs,h,q=>by
  obtain⟨e,l',rfl,h1,h2,h3⟩:=h
  exact⟨e,l'++fs,rfl,h1,h2,MO.append h3 q⟩
theorem MO.length{ro:Nat->Prop}{w:World}{t k:Nat}:∀{l:List (A×Option (List (List A)))}{es:List MapEntry},MO ro w t k l es->es.length=l.length
 |[],es,h=>by cases(show es=[]from h);rfl
 |p::l,es,h=>by
  obtain⟨e,l',rfl,h1,h2,h3⟩:=h
  simp[MO.length h3]
def SlB(v:Value)(c:Nat):Prop:=∃p n cap,v=.slice (some ⟨c,p,none⟩) n cap
theorem YZ.push{c:Nat}{x:A}{r:Option (List (List A))}{e:MapEntry}:∀{l:List (A×Option (List (List A)))}{es:List MapEntry},es.length=l.length->YZ (l++[(x,r)]) (es++[e]) c->YZ l es c\/SlB e.val c
 |[],[],_,h=>by
  rcases h with⟨_,h⟩|h
  ·exact .inr h
  ·exact h.elim
 |[],_::_,q,_=>by simp at q
 |_::_,[],q,_=>by simp at q
 |p::l,e0::es,q,h=>by
  rcases h with h|h
  ·exact .inl (.inl h)
  ·exact(YZ.push (l:=l) (es:=es) (by simpa using q) h).imp .inr id
theorem QcT.push{x:A}{r:Option (List (List A))}{e:MapEntry}:∀{l:List (A×Option (List (List A)))}{es:List MapEntry},es.length=l.length->QcT l es->(∀c,YZ l es c->¬SlB e.val c)->QcT (l++[(x,r)]) (es++[e])
 |[],[],_,_,_=>⟨fun _ _ _ h=>h.elim,trivial⟩
 |[],_::_,q,_,_=>by simp at q
 |_::_,[],q,_,_=>by simp at q
 |p::l,e0::es,q,⟨h1,h2⟩,hn=>by
  refine⟨fun c q1 q2 q3=>?_,QcT.push (l:=l) (es:=es) (by simpa using q) h2 fun c hc=>hn c (.inr hc)⟩
  rcases YZ.push (l:=l) (es:=es) (by simpa using q) q3 with q4|q4
  ·exact h1 c q1 q2 q4
  ·exact hn c (.inl ⟨q1,q2⟩) q4
section
variable {P:Program}{kt:TypeId}{α β:Type} [DecidableEq α] {ek:α->A}{ev:β->List A}{ro:Nat->Prop}{w:World}{t k:Nat} (K:YK P kt ek)
def QaN{α β:Type}[DecidableEq α](l:List (α×Option (List β)))(x:α)(rows:List β):List (α×Option (List β)):=l.map fun p=>bif decide (p.1=x)then(p.1,some rows)else p
include K
theorem QeT{x:α}{rows:List β}:∀{l:List (α×Option (List β))}{es:List MapEntry},MO ro w t k (Qs ek ev l) es->(∀e∈es,e.key≠Qi (ek x))->QaN l x rows=l
 |[],es,h,q=>rfl
 |p::l,es,h,q=>by
  obtain⟨e,l',rfl,h1,h2,h3⟩:=h
  have hk:e.key=Qi (ek p.1):=VR.val (K.scl _) h1
  have hp:p.1≠x:=fun z=>q e (by simp) (by rw[hk,z])
  have:=QeT (l:=l) h3 (fun e he=>q e (by simp[he])) (rows:=rows)
  simp only[QaN,List.map_cons,decide_false,hp,cond_false]
  rw[show(l.map fun p=>bif decide (p.1=x)then(p.1,some rows)else p)=l from this]
theorem MO.put{x:α}{rows:List β}{v:Value}(hv:SO ro w t k (rows.map ev) v):∀{l:List (α×Option (List β))}{es:List MapEntry}{j:Nat}{e:MapEntry},MO ro w t k (Qs ek ev l) es->
  (es.map (·.key)).Nodup->es[j]?=some e->e.key=Qi (ek x)->
  MO ro w t k (Qs ek ev (QaN l x rows)) (es.modify j fun e=>{e with key:=Qi (ek x),val:=v})/\
  (∀c,YZ (Qs ek ev (QaN l x rows)) (es.modify j fun e=>{e with key:=Qi (ek x),val:=v}) c->YZ (Qs ek ev l) es c\/SlB v c)/\
  (QcT (Qs ek ev l) es->(∀c,YZ (Qs ek ev l) es c->¬SlB v c)->QcT (Qs ek ev (QaN l x rows)) (es.modify j fun e=>{e with key:=Qi (ek x),val:=v}))
 |[],es,j,e,h,hn,he,hk=>by cases(show es=[]from h);simp at he
 |p::l,es,j,e,h,hn,he,hk=>by
  obtain⟨e0,l',rfl,h1,h2,h3⟩:=h
  have hk0:e0.key=Qi (ek p.1):=VR.val (K.scl _) h1
  simp only[List.map_cons,List.nodup_cons]at hn
  cases j with
  |zero=>
   simp only[List.getElem?_cons_zero,Option.some.injEq]at he
   subst he
   have hp:p.1=x:=K.inj _ _ (hk0.symm.trans hk)
   simp only[List.modify_zero_cons]
   have e0':QaN l x rows=l:=QeT K h3 fun e he z=>hn.1 (by rw[hk, <- z];exact List.mem_map_of_mem he)
   have e1:QaN (p::l) x rows=(p.1,some rows)::l:=by
    have:QaN (p::l) x rows=(p.1,some rows)::QaN l x rows:=by simp[QaN,hp]
    rw[this,e0']
   rw[e1]
   refine⟨⟨_,l',rfl,?_,?_,h3⟩,?_,?_⟩
   ·show VR ro [] w (ek p.1) (Qi (ek x))
    rw[<- hp];exact Qa1 (K.scl _)
   ·intro rows' hr
    cases hr;exact hv
   ·rintro c (⟨_,q⟩|q)
    ·exact .inr q
    ·exact .inl (.inr q)
   ·rintro⟨d1,d2⟩ hc
    exact⟨fun c _ q z=>hc c (.inr z) q,d2⟩
  |succ j=>
   simp only[List.getElem?_cons_succ]at he
   have hp:p.1≠x:=by
    intro q
    refine hn.1 (List.mem_map.2 ⟨e,List.mem_of_getElem? he,?_⟩)
    rw[hk,hk0,q]
   simp only[List.modify_succ_cons]
   obtain⟨m1,m2,m3⟩:=MO.put hv h3 hn.2 he hk
   have e1:QaN (p::l) x rows=p::QaN l x rows:=by simp[QaN,hp]
   rw[e1]
   refine⟨⟨_,_,rfl,h1,h2,m1⟩,?_,?_⟩
   ·rintro c (q|q)
    ·exact .inl (.inl q)
    ·exact(m2 c q).imp .inr id
   ·rintro⟨d1,d2⟩ hc
    refine⟨fun c q1 q2 z=>?_,m3 d2 fun c hz=>hc c (.inr hz)⟩
    rcases m2 c z with z|z
    ·exact d1 c q1 q2 z
    ·exact hc c (.inl ⟨q1,q2⟩) z
end
section
variable {P:Program}{o:Oper}{env:Env}{H:Qc}
variable {T kt et:Nat}{α β:Type} [DecidableEq α] {ek:α->A}{ev:β->List A}{x y zz:Operand}{i j t k n:Nat}{l m:List (α×Option (List β))}{key:α}{rows:List β}
theorem Qlc(K:YK P kt ek){ro:Nat->Prop}{w:World}{clock:Nat}{es:Array MapEntry}{v:Value}(p2:MO ro w t k (Qs ek ev l) es.toList)(pd:QcT (Qs ek ev l) es.toList)
  (p3:∀e∈es.toList,e.born<clock)(p4:(es.toList.map (·.born)).Nodup)(p5:(es.toList.map (·.key)).Nodup/\QfY es clock)(hv:SO ro w t k (rows.map ev) v)(hn:∀c,YZ (Qs ek ev l) es.toList c->¬SlB v c)
  {jx:Nat}{e:MapEntry}(g2:es.toList[jx]?=some e)(g3:e.key=Qi (ek key)):
  MO ro w t k (Qs ek ev (QaN l key rows)) (es.modify jx fun e=>{e with key:=Qi (ek key),val:=v}).toList/\QcT (Qs ek ev (QaN l key rows)) (es.modify jx fun e=>{e with key:=Qi (ek key),val:=v}).toList/\
   (∀c,YZ (Qs ek ev (QaN l key rows)) (es.modify jx fun e=>{e with key:=Qi (ek key),val:=v}).toList c->YZ (Qs ek ev l) es.toList c\/SlB v c)/\(∀e'∈(es.modify jx fun e=>{e with key:=Qi (ek key),val:=v}).toList,e'.born<clock)/\
   ((es.modify jx fun e=>{e with key:=Qi (ek key),val:=v}).toList.map (·.born)).Nodup/\((es.modify jx fun e=>{e with key:=Qi (ek key),val:=v}).toList.map (·.key)).Nodup/\QfY (es.modify jx fun e=>{e with key:=Qi (ek key),val:=v}) clock:=by
 have hmod:(es.modify jx fun e=>{e with key:=Qi (ek key),val:=v}).toList=es.toList.modify jx fun e=>{e with key:=Qi (ek key),val:=v}:=by simp
 have hmap:∀{γ:Type} (f:MapEntry->γ),(∀e',es.toList[jx]?=some e'->f {e' with key:=Qi (ek key),val:=v}=f e')->(es.toList.modify jx fun e=>{e with key:=Qi (ek key),val:=v}).map f=es.toList.map f:=by
  intro γ f hf
  apply List.ext_getElem?
  intro n
  rw[List.getElem?_map,List.getElem?_map,List.getElem?_modify]
  by_cases hn:jx=n
  ·subst hn
   cases q:es.toList[jx]? with
   |none=>rfl
   |some e'=>simp[hf e' q]
  ·simp[hn]
 obtain⟨m1,m2,m3⟩:=MO.put K hv p2 p5.1 g2 g3
 refine⟨?_,?_,?_,?_,?_,?_,p5.2.modify fun _=>rfl⟩
 ·rw[hmod];exact m1
 ·rw[hmod];exact m3 pd hn
 ·rw[hmod];exact m2
 ·rw[hmod]
  intro e' he'
  have:e'.born∈(es.toList.modify jx fun e=>{e with key:=Qi (ek key),val:=v}).map (·.born):=List.mem_map_of_mem he'
  rw[hmap (·.born) (fun _ _=>rfl)]at this
  obtain⟨e2,h,h'⟩:=List.mem_map.1 this
  rw[<- h'];exact p3 e2 h
 ·rw[hmod,hmap (·.born) (fun _ _=>rfl)];exact p4
 ·rw[hmod,hmap (·.key) (fun e' he'=>by rw[g2]at he';cases he';exact g3.symm)];exact p5.1
def PutsO(P:Program)(o:Oper)(env:Env)(x zz:Operand)(t k:Nat)(L M:List (A×Option (List (List A))))(R:List (List A)):Prop:=
 ∀(ro:Nat->Prop) (σ:Sig) (a:Act) (w:World) (b clock:Nat) (es:Array MapEntry) (v:Value),(∀s,VR ro σ w (opA env s) (a.eval s))->a.eval x=.map (some b)->a.eval zz=v->w.heap[b]?=some (.map es clock)->MO ro w t k L es.toList->QcT L es.toList->
  (∀e∈es.toList,e.born<clock)->(es.toList.map (·.born)).Nodup->(es.toList.map (·.key)).Nodup/\QfY es clock->SO ro w t k R v->(∀c,YZ L es.toList c->¬SlB v c)->
  ∃es' clock',(execOp a.eval o).run P w=.ok .skip {w with heap:=w.heap.setIfInBounds b (.map es' clock')}/\MO ro w t k M es'.toList/\QcT M es'.toList/\
   (∀c,YZ M es'.toList c->YZ L es.toList c\/SlB v c)/\(∀e∈es'.toList,e.born<clock')/\(es'.toList.map (·.born)).Nodup/\(es'.toList.map (·.key)).Nodup/\QfY es' clock'
theorem QkP(hr:PutsO P o env x zz t k (Qs ek ev l) (Qs ek ev m) (rows.map ev))
  (hx:opA env x=.map i:=by exact rfl)(hH:H[i]?=some (.mapO false t k (Qs ek ev l)):=by exact rfl)(hv:opA env zz=.osl j 0 n k:=by exact rfl)
  (hHj:H[j]?=some (.row t k (rows.map ev)):=by exact rfl)(hn:rows.length=n:=by exact rfl)(hij:Nat.beq i j=false:=by exact rfl):
  OpU P o env H ((H.set j .dead).set i (.mapO false t k (Qs ek ev m))):=by
 subst hn
 intro fr ro σ N a w r
 have hij':i≠j:=fun e=>by subst e;rw[Nat.beq_refl]at hij;cases hij
 have h1:=Qg r x
 rw[hx]at h1
 obtain⟨b,q1,q2⟩:=h1
 have h4:=Qg r zz
 rw[hv]at h4
 obtain⟨_,es,clock,p1,p2,pd,p3,p4,p5⟩:=r.sim.blk i _ _ q1 hH
 have hsh:∀(obj:Obj) y,w.shape? b=some y->({w with heap:=w.heap.setIfInBounds b obj}:World).shape? b=some y:=by
  intro obj y hy
  unfold World.shape? at hy
  rw[p1]at hy
  simp at hy
 have hold:∀c,YZ (Qs ek ev l) es.toList c->Hid w (.mapO false t k (Qs ek ev l)) b c:=fun c hc=>⟨es,clock,p1,hc⟩
 rcases h4 with⟨z0,z1⟩|⟨c,p,cap,t',mm,z1,z2,z3,z4,z5,z6⟩
 ·have hr0:rows=[]:=List.length_eq_zero_iff.1 z0
  obtain⟨es',ck',f1,f2,f3,f4,f5,f6,f7⟩:=hr ro σ a w b clock es _ (fun s=>Qg r s) q2 z1 p1 p2 pd p3 p4 p5 (.inl ⟨by simp[hr0],rfl⟩) (fun c _ q=>by obtain⟨_,_,_,q⟩:=q;cases q)
  have hH1:(H.set j .dead)[i]?=some (.mapO false t k (Qs ek ev l)):=by rw[List.getElem?_set_ne (fun e=>hij' e.symm)];exact hH
  have kk:∀c,YZ (Qs ek ev m) es'.toList c->YZ (Qs ek ev l) es.toList c:=fun c hc=>(f4 c hc).elim id fun q=>by obtain⟨_,_,_,q⟩:=q;cases q
  have s1:=r.sim.kill j
  obtain⟨s2,e2⟩:=s1.set (x':=.mapO false t k (Qs ek ev m)) (obj:=.map es' ck') q1 hH1 rfl (hsh _) (fun ext hh=>⟨(fun z=>by cases z),es',ck',hh,f2.mono ext (fun c hc=>by
    show(w.heap.setIfInBounds b _)[c]?=_
    rw[Array.getElem?_setIfInBounds,if_neg]
    exact fun e=>(r.sim.hid i b _ c q1 hH (hold c (kk c hc))).ne i b _ q1 hH rfl e.symm),f3,f5,f6,f7⟩) (fun c hc=>by
    obtain⟨l',cl,g1,g2⟩:=hc
    have:({w with heap:=w.heap.setIfInBounds b (.map es' ck')}:World).heap[b]?=some (.map es' ck'):=by
     show(w.heap.setIfInBounds b _)[b]?=_
     rw[Array.getElem?_setIfInBounds,if_pos rfl,if_pos (r.sim.own i b _ q1 hH rfl).1]
    rw[this]at g1;cases g1
    exact hold c (kk c g2))
  exact⟨_,ro,[],f1,by simpa using s2,e2⟩
 ·obtain⟨vs,y1,y2⟩:=r.sim.blk j _ _ z1 hHj
  have hcap:cap*k<=vs.length:=by
   unfold World.shape? at z5
   rw[y1]at z5
   simp at z5
   have:=z5.2
   simp at z6
   omega
  have hnc:∀c',YZ (Qs ek ev l) es.toList c'->¬SlB (a.eval zz) c':=by
   intro c' hc hq
   obtain⟨_,_,_,hq⟩:=hq
   rw[z2]at hq
   cases hq
   exact(r.sim.hid i b _ _ q1 hH (hold _ hc)).ne j _ _ z1 hHj rfl rfl
  obtain⟨es',ck',f1,f2,f3,f4,f5,f6,f7⟩:=hr ro σ a w b clock es _ (fun s=>Qg r s) q2 rfl p1 p2 pd p3 p4 p5 (.inr ⟨c,p,cap,vs,by rw[z2];simp,by simpa using z4,y1,hcap,y2,fun q=>by simpa using z3 q⟩) hnc
  have kk:∀d,YZ (Qs ek ev m) es'.toList d->YZ (Qs ek ev l) es.toList d\/d=c:=fun d hd=>(f4 d hd).imp id fun q=>by
   obtain⟨_,_,_,q⟩:=q;rw[z2]at q;cases q;rfl
  have hbc:c≠b:=fun e=>hij' (r.sim.inj i j b _ _ q1 (e▸z1) hH hHj rfl rfl)
  obtain⟨s2,e2⟩:=r.sim.hideSet (x':=.mapO false t k (Qs ek ev m)) (obj:=.map es' ck') q1 hH rfl z1 hHj rfl hij' (hsh _)
   (fun ext hh hne=>⟨(fun z=>by cases z),es',ck',hh,f2.mono ext (fun d hd=>hne d ((kk d hd).elim (fun q=>(r.sim.hid i b _ d q1 hH (hold d q)).ne i b _ q1 hH rfl) (fun q=>q▸hbc))),f3,f5,f6,f7⟩)
   (fun d hd=>by
    obtain⟨l',cl,g1,g2⟩:=hd
    have:({w with heap:=w.heap.setIfInBounds b (.map es' ck')}:World).heap[b]?=some (.map es' ck'):=by
     show(w.heap.setIfInBounds b _)[b]?=_
     rw[Array.getElem?_setIfInBounds,if_pos rfl,if_pos (r.sim.own i b _ q1 hH rfl).1]
    rw[this]at g1;cases g1
    exact(kk d g2).imp (hold d) id)
  exact⟨_,ro,[],f1,by simpa using s2,e2⟩
end
end Go.Sw
namespace Go.Sw
open Go.MapKept
section
variable {fr ro:Nat->Prop}{σ:Sig}{H:Qc}{w:World}
theorem Sim.shutO(s:Sim fr ro σ H w){i b t k:Nat}{es:List (A×Option (List (List A)))}(hσ:σ[i]?=some (some b))(hH:H[i]?=some (.mapO false t k es)):
  Sim fr (fun c=>ro c\/c=b) σ (H.set i (.mapO true t k es)) w:=by
 have hown:b<w.heap.size/\ ¬ro b/\ ¬fr b:=s.own i b _ hσ hH rfl
 have ext:Ext ro σ w (fun c=>ro c\/c=b) σ w:=⟨fun _ q=>.inl q,fun _ _=>rfl,fun _ _ q=>q,fun _ _ q=>q⟩
 have hi:i<H.length:=(List.getElem?_eq_some_iff.1 hH).1
 have hcase0:∀(j:Nat) (v:Blk),(H.set i (.mapO true t k es))[j]?=some v->(j=i/\v=.mapO true t k es)\/(j≠i/\H[j]?=some v):=by
  intro j v h
  by_cases e:j=i
  ·subst e;rw[List.getElem?_set_self hi]at h;cases h;exact .inl ⟨rfl,rfl⟩
  ·rw[List.getElem?_set_ne (fun q=>e q.symm)]at h;exact .inr ⟨e,h⟩
 have hcase:∀(j:Nat) (v:Blk),(H.set i (.mapO true t k es))[j]?=some v->v.live=true->j≠i/\H[j]?=some v:=by
  intro j v h hv
  rcases hcase0 j v h with⟨_,rfl⟩|h
  ·cases hv
  ·exact h
 refine⟨by rw[List.length_set];exact s.len,s.roOk.to (fun _ q=>.inl q) (fun _ _=>rfl) ?_,s.frLt,?_,?_,?_,?_,
  s.hidTo (· = ·) QJ (Nat.le_refl _) (fun j d x c q1 q2 q3 q4=>q4.elim id fun q=>((s.hid j d x c q1 q2 q3).ne i b _ hσ hH rfl q).elim) (fun _ _ _ _ _ _ _ q=>q) fun j d y g1 g2 g3=>.inl ?_⟩
 ·rintro c (q|rfl)
  ·exact s.roLt c q
  ·exact hown.1
 ·rintro c (q|rfl)
  ·exact s.roFr c q
  ·exact hown.2.2
 ·intro j c v h1 h2 h3
  obtain⟨e,h2⟩:=hcase j v h2 h3
  obtain⟨p1,p2,p3⟩:=s.own j c v h1 h2 h3
  refine⟨p1,?_,p3⟩
  rintro(q|rfl)
  ·exact p2 q
  ·exact e (s.inj j i c v _ h1 hσ h2 hH h3 rfl)
 ·intro j j' c v v' h1 h2 h3 h4 h5 h6
  exact s.inj j j' c v v' h1 h2 (hcase j v h3 h5).2 (hcase j' v' h4 h6).2 h5 h6
 ·intro j y v h1 h2
  rcases hcase0 j v h2 with⟨rfl,rfl⟩|⟨_,h⟩
  ·rw[hσ]at h1;cases h1
   obtain⟨_,l,clock,p1,p2,p3⟩:=s.blk j _ _ hσ hH
   exact⟨fun _=>.inr rfl,l,clock,p1,p2.mono ext.nil (fun _ _=>rfl),p3⟩
  ·exact(s.blk j y v h1 h).keep ext (fun _ _ _=>rfl) (fun _ _ _ _=>rfl)
 ·rcases hcase0 j y g2 with⟨rfl,rfl⟩|⟨_,h⟩
  ·exact⟨j,_,rfl,g1,hH,fun _=>rfl,fun c q=>q⟩
  ·exact⟨j,y,rfl,g1,h,id,fun _ q=>q⟩
theorem MO.er{t k:Nat}:∀{es:List (A×Option (List (List A)))}{l:List MapEntry},MO ro w t k es l->ER ro [] w (es.map fun e=>(e.1,.any)) l
 |[],_,h=>h
 |x::r,_,⟨e,l',h1,h2,h3,h4⟩=>⟨e,l',h1,h2,trivial,MO.er h4⟩
end
section
variable {P:Program}{o:Oper}{env:Env}{H:Qc}{T kt et i t k:Nat}{x:Operand}{es:List (A×Option (List (List A)))}
theorem QhO(hT:P.underlying T=some (.map kt et))(ho:o.op=.range T x:=by exact rfl)(hx:opA env x=.map i:=by exact rfl)(hH:H[i]?=some (.mapO false t k es):=by exact rfl):
  OpH P o env H (.ptr H.length 0) (H.set i (.mapO true t k es)++[.iter none (es.map fun e=>(e.1,.any))]):=by
 intro fr ro σ N a w r
 have h1:=Qg r x
 rw[hx]at h1
 obtain⟨b,q1,q2⟩:=h1
 obtain⟨_,l,clock,p1,p2,pd,p3,p4,p5⟩:=r.sim.blk i _ _ q1 hH
 have hb:=(r.sim.own i b _ q1 hH rfl).1
 have s1:=r.sim.shutO q1 hH
 have ev1:Qe fr ro w (fun c=>ro c\/c=b) w:=Yn (fun _ q=>.inl q)
 have ev2:Qe fr (fun c=>ro c\/c=b) w (fun c=>ro c\/c=b) (w.alloc (.mapIter (some b) clock #[] clock)):=Qe.alloc _ s1.roLt s1.frLt
 have ext0:Ext ro [] w (fun c=>ro c\/c=b) [] (w.alloc (.mapIter (some b) clock #[] clock)):=(ev1.trans ev2).ext0 []
 refine⟨.pointer (some ⟨w.heap.size,0,none⟩),w.alloc (.mapIter (some b) clock #[] clock),_,[some w.heap.size],?_,⟨w.heap.size,?_,rfl⟩,
  s1.alloc (.inr ⟨b,l,clock, #[],l.toList,QX _ _,.inr rfl,by rw[Q2 _ _ _ hb];exact p1,p3,p4,?_,p2.er.mono ext0,fun _ h=>by cases h⟩),ev1.trans ev2⟩
 ·generalize a.eval=ρ at*
  simp only[execOp,ho,q2,Instr.range,Sem.run_bind,run_underlying hT,Result.andThen,MapKept.run_getObj_map p1]
  rfl
 ·rw[<- r.sim.len];simp
 ·have:l.toList.filter (fun e=> !(#[]:Array Nat).contains e.born)=l.toList:=by rw[List.filter_eq_self];intro e _;simp
  rw[this]
end
def Qgd{α β:Type}[DecidableEq α](l:List (α×Option (List β)))(x:α):Option (List β×List (α×Option (List β))):=(QaQ l x).map fun r=>(r,YB l x)
def QeU{α β:Type}(l:List (α×β)):List (α×Unit):=l.map fun p=>(p.1,())
section
variable {P:Program}{o:Oper}{env:Env}{H:Qc}
variable {T kt et:Nat}{α β:Type} [DecidableEq α] {ek:α->A}{ev:β->List A}{x y zz:Operand}{i j t k n:Nat}{l m:List (α×Option (List β))}{key:α}{rows:List β}
theorem Qi6{fz:Bool}{p:List β×List (α×Option (List β))}(K:YK P kt ek)(hm:Qgd l key=some p)(hT:P.underlying T=some (.map kt et))(hz:∀w,(zeroValue et).run P w=.ok (.slice none 0 0) w)
  (ho:o.op=.lookup T x y false:=by exact rfl)(hx:opA env x=.map i:=by exact rfl)(hH:H[i]?=some (.mapO fz t k (Qs ek ev l)):=by exact rfl)(hy:opA env y=ek key:=by exact rfl):
  OpH P o env H (.osl H.length 0 p.1.length k) (H.set i (.mapO fz t k (Qs ek ev p.2))++[.row t k (p.1.map ev)]):=by
 unfold Qgd at hm
 cases h:QaQ l key with
 |none=>rw[h]at hm;cases hm
 |some r=>rw[h]at hm;cases hm;exact Qi7 K h hT hz ho hx hH hy
theorem Qi8(hT:P.underlying T=some (.map kt et))(ho:o.op=.range T x:=by exact rfl)(hx:opA env x=.map i:=by exact rfl)(hH:H[i]?=some (.mapO false t k (Qs ek ev l)):=by exact rfl):
  OpH P o env H (.ptr H.length 0) (H.set i (.mapO true t k (Qs ek ev l))++[.iter none (Ya ek (fun _=>A.any) (QeU l))]):=by
 have:=QhO (P:=P) (env:=env) (H:=H) hT ho hx hH
 have e:(Qs ek ev l).map (fun e=>(e.1,A.any))=Ya ek (fun _=>A.any) (QeU l):=by simp[Qs,Ya,QeU,Function.comp_def]
 rwa [e]at this
end
end Go.Sw
namespace Go.Sw
open Go.MapKept
def oix{α β:Type}[DecidableEq α](l:List (α×β))(x:α):Nat:=l.findIdx fun p=>decide (p.1=x)
def Qgg{α β:Type}[DecidableEq α](l:List (α×Option (List β)))(x:α):Option (List β×List (α×Option (List β))×Int):=
 (QaQ l x).map fun r=>(r,(bif l.any fun p=>decide (p.1=x)then YB l x else l++[(x,none)]),(oix l x:Int))
def QcK{α β:Type}(l:List (α×Option (List β)))(ix:Int)(rows:List β):Option (List (α×Option (List β))):=
 bif decide (0<=ix)then(l[ix.toNat]?).bind fun p=>some (l.set ix.toNat (p.1,some rows))else none
theorem Qba{α β:Type}{f:α->β}:∀{l:List α},(l.map f).Nodup->l.Nodup
 |[],_=>.nil
 |x::l,h=>by
  simp only[List.map_cons,List.nodup_cons]at h⊢
  exact⟨fun q=>h.1 (List.mem_map_of_mem q),Qba h.2⟩
theorem QdV{α β:Type}[DecidableEq α]{x:α}{rows:List β}:∀{l:List (α×Option (List β))}{n:Nat}{q:Option (List β)},(l.map (·.1)).Nodup->l[n]?=some (x,q)->l.set n (x,some rows)=QaN l x rows
 |[],n,q,_,h=>by simp at h
 |p::l,0,q,hn,h=>by
  simp only[List.getElem?_cons_zero,Option.some.injEq]at h
  subst h
  simp only[List.map_cons,List.nodup_cons]at hn
  have:l.map (fun p=>bif decide (p.1=x)then(p.1,some rows)else p)=l:=by
   conv=>rhs;rw[<- List.map_id l]
   refine List.map_congr_left fun p hp=>?_
   have:p.1≠x:=fun e=>hn.1 (e▸List.mem_map_of_mem hp)
   simp[this]
  simp[QaN,this]
 |p::l,n+1,q,hn,h=>by
  simp only[List.getElem?_cons_succ]at h
  simp only[List.map_cons,List.nodup_cons]at hn
  have hp:p.1≠x:=fun e=>hn.1 (e▸List.mem_map_of_mem (f:=fun p:α×Option (List β)=>p.1) (List.mem_of_getElem? h))
  have:=QdV hn.2 h (rows:=rows)
  simp only[QaN,List.set_cons_succ,List.map_cons,hp,decide_false,cond_false]at this⊢
  rw[this]
section
variable {P:Program}{o:Oper}{env:Env}{H:Qc}
variable {T kt et:Nat}{α β:Type} [DecidableEq α] {ek:α->A}{ev:β->List A}{x y zz:Operand}{i j t k n:Nat}{l m:List (α×Option (List β))}{key:α}{rows:List β}
theorem Qmx{ro:Nat->Prop}{w:World}(K:YK P kt ek){es:List MapEntry}(h:MO ro w t k (Qs ek ev l) es)(hn:(es.map (·.key)).Nodup){jx:Nat}{e:MapEntry}(g2:es[jx]?=some e)(g3:e.key=Qi (ek key)):
  oix l key=jx/\ ∃q,l[jx]?=some (key,q):=by
 have hk:=QcA K h
 have hl:(l.map (·.1)).Nodup:=by
  rw[hk]at hn
  have:(l.map fun p=>Qi (ek p.1))=(l.map (·.1)).map fun z=>Qi (ek z):=by simp[Function.comp_def]
  rw[this]at hn
  exact Qba hn
 have h1:(l.map fun p=>Qi (ek p.1))[jx]?=some (Qi (ek key)):=by
  rw[<- hk,List.getElem?_map,g2, <- g3];rfl
 rw[List.getElem?_map]at h1
 cases hq:l[jx]? with
 |none=>rw[hq]at h1;simp at h1
 |some q=>
  rw[hq]at h1
  simp at h1
  have hkey:q.1=key:=K.inj _ _ h1
  refine⟨?_,q.2,by rw[<- hkey]⟩
  have hlt:=(List.getElem?_eq_some_iff.1 hq).1
  unfold oix
  rw[List.findIdx_eq hlt]
  have hv:=(List.getElem?_eq_some_iff.1 hq).2
  refine⟨by rw[hv];simp[hkey],fun p hp=>?_⟩
  have:=List.pairwise_iff_getElem.1 hl p jx (by simp;omega) (by simpa using hlt) hp
  simp only[List.getElem_map,hv,hkey]at this
  simpa using this
theorem Qg2{w:World}{b:Nat}{obj:Obj}(h:w.heap[b]?=some obj):({w with heap:=w.heap.setIfInBounds b obj}:World)=w:=by
 have:w.heap.setIfInBounds b obj=w.heap:=by
  apply Array.ext_getElem?
  intro c
  rw[Array.getElem?_setIfInBounds]
  by_cases e:b=c
  ·subst e
   have:=(Array.getElem?_eq_some_iff.1 h).1
   have h2:=(Array.getElem?_eq_some_iff.1 h).2
   simp[this,h2]
  ·simp[e]
 rw[this]
theorem QkR{p:List β×List (α×Option (List β))×Int}(K:YK P kt ek)(hm:Qgg l key=some p)(hT:P.underlying T=some (.map kt et))(hz:∀w,(zeroValue et).run P w=.ok (.slice none 0 0) w)
  (ho:o.op=.mapEntry T x y:=by exact rfl)(hx:opA env x=.map i:=by exact rfl)(hH:H[i]?=some (.mapO false t k (Qs ek ev l)):=by exact rfl)(hy:opA env y=ek key:=by exact rfl):
  OpH P o env H (.tup [.osl H.length 0 p.1.length k,.int .i64 p.2.2]) (H.set i (.mapO false t k (Qs ek ev p.2.1))++[.row t k (p.1.map ev)]):=by
 unfold Qgg at hm
 cases hg:QaQ l key with
 |none=>rw[hg]at hm;cases hm
 |some rows=>
 rw[hg]at hm
 obtain rfl:=Option.some.inj hm
 simp only
 intro fr ro σ N a w r
 have h1:=Qg r x
 rw[hx]at h1
 obtain⟨b,q1,q2⟩:=h1
 have h2:=Qg r y
 rw[hy]at h2
 have h3:=VR.val (K.scl _) h2
 have hB:=r.sim.blk i _ _ q1 hH
 obtain⟨p0,es,clock,p1,p2,pd,p3,p4,p5⟩:=hB
 obtain⟨f1,f2⟩:=MO.find K p2 key p5.1
 have hlen:=r.sim.len
 have hlk:=MO.length p2
 have hll:(Qs ek ev l).length=l.length:=by simp[Qs]
 have hkk:∀q:α×Option (List β),q∈l->∃e∈es.toList,e.key=Qi (ek q.1):=by
  intro q hq
  have:Qi (ek q.1)∈l.map fun p=>Qi (ek p.1):=List.mem_map.2 ⟨q,hq,rfl⟩
  rw[<- QcA K p2]at this
  obtain⟨e,he,h⟩:=List.mem_map.1 this
  exact⟨e,he,h⟩
 have hb:=(r.sim.own i b _ q1 hH rfl).1
 rcases K.find w key es.toList (QgV K p2)with⟨h4,h5⟩|⟨jx,e,h4,h5,h6⟩
 ·have hany:(l.any fun p=>decide (p.1=key))=false:=by
   rw[List.any_eq_false]
   intro q hq z
   obtain⟨e,he,h⟩:=hkk q hq
   exact h5 e he (by rw[h,of_decide_eq_true z])
  have hix:oix l key=l.length:=by
   unfold oix
   rw[List.findIdx_eq_length]
   intro p hp
   have:=List.any_eq_false.1 hany p hp
   simpa using this
  have hr:rows=[]:=by have g1:=f1 h5;simp[QaQ,g1]at hg;exact hg
  subst hr
  rw[hany,hix,cond_false]
  have hck:clock=l.length:=by have:=p5.2.1;rw[this, <- hll, <- hlk];simp
  have ho2:Qs ek ev (l++[(key,none)])=Qs ek ev l++[(ek key,none)]:=by simp[Qs]
  have hl2:es.toList.length=(Qs ek ev l).length:=hlk
  have hsh:∀(obj:Obj) y,w.shape? b=some y->({w with heap:=w.heap.setIfInBounds b obj}:World).shape? b=some y:=by
   intro obj y hy
   unfold World.shape? at hy
   rw[p1]at hy
   simp at hy
  have hold:∀c,YZ (Qs ek ev l) es.toList c->Hid w (.mapO false t k (Qs ek ev l)) b c:=fun c hc=>⟨es,clock,p1,hc⟩
  have hpush:∀c,YZ (Qs ek ev l++[(ek key,none)]) (es.toList++[{key:=Qi (ek key),val:=.slice none 0 0,born:=clock}]) c->YZ (Qs ek ev l) es.toList c:=fun c hc=>
   (YZ.push hl2 hc).elim id fun q=>by obtain⟨_,_,_,q⟩:=q;cases q
  obtain⟨s2,e2⟩:=r.sim.set (x':=.mapO false t k (Qs ek ev (l++[(key,none)]))) (obj:=.map (es.push {key:=Qi (ek key),val:=.slice none 0 0,born:=clock}) (clock+1)) q1 hH rfl (hsh _)
   (fun ext hh=>by
    refine⟨(fun z=>by cases z),_,_,hh,?_,?_,?_,?_,?_,p5.2.push rfl⟩
    ·rw[ho2,Array.toList_push]
     refine(MO.mono ext (fun c hc=>?_) p2).append ⟨_,_,rfl,Qa1 (K.scl _),(fun _ hr=>by cases hr),rfl⟩
     show(w.heap.setIfInBounds b _)[c]?=_
     rw[Array.getElem?_setIfInBounds,if_neg]
     exact fun e=>(r.sim.hid i b _ c q1 hH (hold c hc)).ne i b _ q1 hH rfl e.symm
    ·rw[ho2,Array.toList_push]
     exact QcT.push hl2 pd fun c _ q=>by obtain⟨_,_,_,q⟩:=q;cases q
    ·rw[Array.toList_push]
     intro e he
     rcases List.mem_append.1 he with q|q
     ·exact Nat.lt_succ_of_lt (p3 e q)
     ·simp at q;subst q;exact Nat.lt_succ_self _
    ·rw[Array.toList_push,List.map_append]
     refine List.nodup_append.2 ⟨p4,by simp,?_⟩
     intro c hc d hd
     simp at hd
     subst hd
     obtain⟨e,he,rfl⟩:=List.mem_map.1 hc
     exact Nat.ne_of_lt (p3 e he)
    ·rw[Array.toList_push,List.map_append]
     refine List.nodup_append.2 ⟨p5.1,by simp,?_⟩
     intro c hc d hd
     simp at hd
     subst hd
     obtain⟨e,he,rfl⟩:=List.mem_map.1 hc
     exact h5 e he)
   (fun c hc=>by
    obtain⟨l',cl,g1,g2⟩:=hc
    have:({w with heap:=w.heap.setIfInBounds b (.map (es.push {key:=Qi (ek key),val:=.slice none 0 0,born:=clock}) (clock+1))}:World).heap[b]?=some (.map (es.push {key:=Qi (ek key),val:=.slice none 0 0,born:=clock}) (clock+1)):=by
     show(w.heap.setIfInBounds b _)[b]?=_
     rw[Array.getElem?_setIfInBounds,if_pos rfl,if_pos hb]
    rw[this]at g1;cases g1
    rw[ho2,Array.toList_push]at g2
    exact hold c (hpush c g2))
  refine⟨.tuple #[.slice none 0 0,goInt clock],_,ro,[none],?_,⟨[.slice none 0 0,goInt clock],rfl,_,_,rfl,.inl ⟨rfl,rfl⟩,_,_,rfl,?_,rfl⟩,s2.phantom t k,e2⟩
  ·simp only[execOp,ho,q2,h3,Sem.run_bind,Instr.mapEntry,run_underlying hT,Result.andThen,MapKept.run_getObj_map p1,Sem.run_pure,K.check,h4,hz,MapKept.run_setObj_map _ p1]
  ·show goInt clock=_
   rw[hck];rfl
 ·obtain⟨hix,q0,hq0⟩:=Qmx K p2 p5.1 h5 h6
  have hany:(l.any fun p=>decide (p.1=key))=true:=List.any_eq_true.2 ⟨_,List.mem_of_getElem? hq0,by simp⟩
  rw[hany,hix,cond_true]
  have hborn:=p5.2.2 jx e h5
  have hj:es[jx]?=some e:=by rw[<- h5];simp
  have hstay:=K.stays w key
  have hmod:(es.modify jx fun e'=>{e' with key:=Qi (ek key)})=es:=by
   apply Array.ext_getElem?
   intro c
   rw[Array.getElem?_modify]
   by_cases hc:jx=c
   ·subst hc
    rw[if_pos rfl,hj]
    simp[<- h6]
   ·rw[if_neg hc]
  have hbr:BR ro σ w (.mapO false t k (Qs ek ev (YB l key))) (some b):=⟨p0,es,clock,p1,QdA K p2,QcS pd,p3,p4,p5⟩
  have hhd:∀d,Hid w (.mapO false t k (Qs ek ev (YB l key))) b d->Hid w (.mapO false t k (Qs ek ev l)) b d:=by
   rintro d ⟨l',cl,g1,g2⟩
   exact⟨l',cl,g1,Qa7 g2⟩
  have he:(execOp a.eval o).run P w=.ok (.value (.tuple #[e.val,goInt (jx:Int)])) w:=by
   have:(execOp a.eval o).run P w=.ok (.value (.tuple #[e.val,goInt (e.born:Int)])) {w with heap:=w.heap.setIfInBounds b (.map (es.modify jx fun e'=>{e' with key:=Qi (ek key)}) clock)}:=by
    simp only[execOp,ho,q2,h3,Sem.run_bind,Instr.mapEntry,run_underlying hT,Result.andThen,MapKept.run_getObj_map p1,Sem.run_pure,K.check,h4,hj,Option.map_some,Option.getD_some,h6,hstay,MapKept.run_setObj_map _ p1]
   rw[this,hmod,Qg2 p1,hborn]
  obtain⟨q,g1,g2,g3⟩:=f2 jx e h5 h6
  have hq:q=some rows:=by simpa[QaQ,g1]using hg
  subst hq
  rcases g2 rows rfl with⟨z1,z2⟩|⟨c,p,cap,vs,z1,z2,z3,z4,z5,z6⟩
  ·have hr:rows=[]:=by simpa using z1
   subst hr
   refine⟨_,w,ro,[none],he,⟨[e.val,goInt (jx:Int)],rfl,_,_,rfl,.inl ⟨rfl,z2⟩,_,_,rfl,rfl,rfl⟩,(r.sim.lendO q1 hH hbr hhd).phantom t k,Qe.refl _ _ _⟩
  ·obtain⟨f3,f4⟩:=g3 c p _ cap rfl z1
   refine⟨_,w,ro,[some c],he,⟨[e.val,goInt (jx:Int)],rfl,_,_,rfl,.inr ⟨c,p,cap,t,vs.length,?_,by simpa using z1,fun q=>by simpa using z6 q,by simpa using z2,?_,by simpa using z4⟩,_,_,rfl,rfl,rfl⟩,?_,Qe.refl _ _ _⟩
   ·rw[<- hlen];simp
   ·unfold World.shape?;rw[z3];simp
   ·refine r.sim.unhide q1 hH ⟨es,clock,p1,f3⟩ id hbr (fun d hd=>⟨hhd d hd,?_⟩) ⟨vs,z3,z5⟩ (fun _ h=>h.elim)
    rintro rfl
    obtain⟨l',cl,g4,g5⟩:=hd
    rw[p1]at g4;cases g4
    exact f4 pd g5
theorem QkQ{ix:Int}(K:YK P kt ek)(hm:QcK l ix rows=some m)(ho:o.op=.entryStore T x y zz:=by exact rfl)(hx:opA env x=.map i:=by exact rfl)(hH:H[i]?=some (.mapO false t k (Qs ek ev l)):=by exact rfl)
  (hy:opA env y=.int .i64 ix:=by exact rfl)(hv:opA env zz=.osl j 0 n k:=by exact rfl)
  (hHj:H[j]?=some (.row t k (rows.map ev)):=by exact rfl)(hn:rows.length=n:=by exact rfl)(hij:Nat.beq i j=false:=by exact rfl):
  OpU P o env H ((H.set j .dead).set i (.mapO false t k (Qs ek ev m))):=by
 refine QkP (fun ro σ a w b clock es v hE q2 h4 p1 p2 pd p3 p4 p5 hv hn=>?_) hx hH hv hHj hn hij
 have h2:=hE y
 rw[hy]at h2
 have h3:a.eval y=.int .i64 ix:=h2
 unfold QcK at hm
 cases h0:decide (0<=ix)with
 |false=>rw[h0]at hm;cases hm
 |true=>
 rw[h0,cond_true]at hm
 cases hq:l[ix.toNat]? with
 |none=>rw[hq]at hm;cases hm
 |some q=>
 rw[hq]at hm
 obtain rfl:=Option.some.inj hm
 have hix:((ix.toNat:Nat):Int)=ix:=Int.toNat_of_nonneg (of_decide_eq_true h0)
 generalize ix.toNat=nx at*
 have hk:=QcA K p2
 have hkn:(l.map (·.1)).Nodup:=by
  have hn:=p5.1
  rw[hk]at hn
  have:(l.map fun p=>Qi (ek p.1))=(l.map (·.1)).map fun z=>Qi (ek z):=by simp[Function.comp_def]
  rw[this]at hn
  exact Qba hn
 have he1:(es.toList.map (·.key))[nx]?=some (Qi (ek q.1)):=by
  rw[hk,List.getElem?_map,hq];rfl
 rw[List.getElem?_map]at he1
 cases hes:es.toList[nx]? with
 |none=>rw[hes]at he1;simp at he1
 |some e=>
 rw[hes]at he1
 simp at he1
 have g3:e.key=Qi (ek q.1):=he1
 obtain⟨r1,r2,r3,r4,r5,r6⟩:=Qlc K p2 pd p3 p4 p5 hv hn hes g3
 have hset:l.set nx (q.1,some rows)=QaN l q.1 rows:=QdV hkn (q:=q.2) hq
 rw[hset]
 have hj:es[nx]?=some e:=by rw[<- hes];simp
 have hmod:(es.modify nx fun e'=>{e' with val:=v})=es.modify nx fun e'=>{e' with key:=Qi (ek q.1),val:=v}:=by
  apply Array.ext_getElem?
  intro c
  rw[Array.getElem?_modify,Array.getElem?_modify]
  by_cases hc:nx=c
  ·subst hc
   rw[if_pos rfl,if_pos rfl,hj]
   simp[<- g3]
  ·rw[if_neg hc,if_neg hc]
 have hfind:es.findIdx? (fun e'=>(e'.born:Int)==ix)=some nx:=by
  rw[Array.findIdx?_eq_some_iff_getElem]
  have hlt:=(Array.getElem?_eq_some_iff.1 hj).1
  refine⟨hlt,?_,fun p hp=>?_⟩
  ·have:es[nx].born=nx:=p5.2.2 nx _ (by simp[hlt])
   rw[this,hix];simp
  ·have:es[p].born=p:=p5.2.2 p _ (by simp[Nat.lt_trans hp hlt])
   rw[this, <- hix]
   simp
   omega
 refine⟨_,clock,?_,r1,r2,r3,r4,r5,r6⟩
 rw[<- hmod]
 simp only[execOp,ho,q2,h3,h4,Sem.run_bind,Instr.entryStore,Result.andThen,MapKept.run_getObj_map p1,asInt,asIntOf,hfind,MapKept.run_setObj_map _ p1,Sem.run_pure]
end
theorem Qhk{α β:Type}[DecidableEq α]{l:List (α×Option (List β))}{key:α}{p:List β×List (α×Option (List β))×Int}{rows:List β}(hn:(l.map (·.1)).Nodup)(h:Qgg l key=some p):
  some p.1=QaQ l key/\QcK p.2.1 p.2.2 rows=some (Q8 l key (some rows)):=by
 unfold Qgg at h
 cases hg:QaQ l key with
 |none=>rw[hg]at h;cases h
 |some r=>
 rw[hg]at h
 obtain rfl:=Option.some.inj h
 refine⟨rfl,?_⟩
 simp only[QcK,Q8]
 rw[decide_eq_true (Int.natCast_nonneg _),cond_true,Int.toNat_natCast]
 cases ha:l.any fun p=>decide (p.1=key)with
 |false=>
  have hix:oix l key=l.length:=by
   unfold oix
   rw[List.findIdx_eq_length]
   intro p hp
   have:=List.any_eq_false.1 ha p hp
   simpa using this
  simp[hix]
 |true=>
  obtain⟨q,hq,hk⟩:=List.any_eq_true.1 ha
  obtain⟨n,hlt,hv⟩:=List.getElem_of_mem hq
  have hkey:q.1=key:=of_decide_eq_true hk
  have hix:oix l key=n:=by
   unfold oix
   rw[List.findIdx_eq hlt]
   refine⟨by rw[hv];exact hk,fun p hp=>?_⟩
   have:=List.pairwise_iff_getElem.1 hn p n (by simp;omega) (by simpa using hlt) hp
   simp only[List.getElem_map,hv,hkey]at this
   simpa using this
  have hn2:((YB l key).map (·.1)).Nodup:=by
   have:(YB l key).map (·.1)=l.map (·.1):=by
    unfold YB
    rw[List.map_map]
    refine List.map_congr_left fun p _=>?_
    simp only[Function.comp]
    cases decide (p.1=key)<;>rfl
   rw[this];exact hn
  have hg2:(YB l key)[n]?=some (key,none):=by
   unfold YB
   rw[List.getElem?_map,List.getElem?_eq_getElem hlt,hv]
   simp[hkey]
  simp only[cond_true,hix,hg2,Option.bind_some]
  rw[QdV hn2 hg2]
  unfold QaN YB
  rw[List.map_map]
  congr 1
  refine List.map_congr_left fun p _=>?_
  simp only[Function.comp]
  by_cases hd:p.1=key<;>simp[hd]
end Go.Sw
namespace Go.Sw
theorem Qbv{h0 d:Nat}{x y:A}{e:Env}{H:Qc}:Le h0 ((d,x)::(d,y)::e) H ((d,x)::e) H:=Le.env fun s=>.inr (by
 simp only[lk]
 cases Nat.beq s d<;>rfl)
abbrev Kat:=List (Nat×Nat×Nat)
def Qjm:Nat->Nat->List (Nat×Nat)
 |lo,0=>[(lo,lo)]
 |lo,n+1=>(lo,lo)::Qjm (lo+1) n
def rgK(p:Nat×Nat×Nat):List (Nat×Nat):=bif Nat.beq p.1 1 then[(p.2.1,p.2.1+1)]else Qjm p.2.1 (p.2.2-p.2.1)
def plK(cat:Kat):List (List (Nat×Nat)):=cat.map rgK
def rqK(bs:List Nat)(cat:Kat):List (List Nat):=cat.map fun p=>bs.take p.2.1
def hsK(cat:Kat):List Bool:=cat.map fun p=>Nat.beq p.1 1
def msK(bs:List Nat):List (List Nat):=(List.range (bs.length+1)).map bs.take
theorem Qfn:∀(n lo:Nat),∀p∈Qjm lo n,p.1=p.2
 |0,lo,p,h=>by cases h with|head=>rfl|tail _ h=>cases h
 |n+1,lo,p,h=>by
  rcases List.mem_cons.1 h with rfl|h
  ·rfl
  ·exact Qfn n _ p h
section
variable {P:Program}{T:TyX}{h0 N m:Nat}{bs:List Nat}{cat:Kat}{l:List Oper}{ds:List Nat}{env:Env}{H:Qc}{Hs:List Qc}{Q:Qm}{K:List Oper->Env->Qc->Prop}
def DobK(P:Program)(N:Nat)(cat:Kat)(l:List Oper)(ds:List Nat)(env:Env)(n:Nat)(Hs:List Qc)(zs:List A)(j:Nat):Prop:=
 ∀p∈(plK cat).getD j [],Y8 P N l ds zs env n n j (Hs.getD p.1 []) (Hs.getD p.2 [])
def DK(P:Program)(N m:Nat)(bs:List Nat)(cat:Kat)(l:List Oper)(ds:List Nat)(env:Env)(n:Nat)(K:List Oper->Env->Qc->Prop)(Hs:List Qc)(X:Qc)(r:List Oper)(xs:List A):Prop:=
 r=l.drop xs.length->∃ys Zs Y,xs.length+ys.length=m/\Hs.length+Zs.length=bs.length/\((∀Z∈Zs,n<=Z.length)/\(Hs.reverse++X::Zs).getD bs.length []=Y)/\(∀j,xs.length<=j->j<m->DobK P N cat l ds env n (Hs.reverse++X::Zs) (xs++ys) j)/\K (l.drop m) (Qao ds (xs++ys) env) Y
theorem QmU{ys:List A}{n:Nat}{Zs:List Qc}(hcl':cat.length=m)(h3:∀j,0<=j->j<m->DobK P N cat l ds env n Zs ys j):QfT P N l ds ys env n (n+0) 0 ((plK cat).map fun q=>q.map fun p=>(Zs.getD p.1 [],Zs.getD p.2 [])):=by
 refine QfS _ 0 fun i s hs p hp=>?_
 rw[List.getElem?_map]at hs
 cases e:(plK cat)[i]? with
 |none=>rw[e]at hs;cases hs
 |some q=>
  rw[e]at hs
  cases hs
  obtain⟨p0,hp0,rfl⟩:=List.mem_map.1 hp
  have hi:i<m:=by
   have:=(List.getElem?_eq_some_iff.1 e).1
   simpa[plK,hcl']using this
  have:=h3 i (Nat.zero_le _) hi p0 (by rw[Qid e];exact hp0)
  simpa using this
theorem Qk1{id:Nat}(m:Nat)(bs:List Nat)(cat:Kat)(hm:P.follows .mixedOrders=true)(hc:Qda l m N (Qaj m 0 l) (hsK cat) (rqK bs cat) (msK bs) (plK cat)=true)(hcl:Nat.beq cat.length m=true)(h0B:Nat.ble h0 H.length=true)
  (h:DK P N m bs cat l (Qaj m 0 l) env H.length (fun r e H=>WO P h0 N l.toArray r e H Q) [] H l []):TC P h0 N (.region id l.toArray true) env H Q:=by
 obtain⟨ys,Zs,Y,h1,h2,h3,h4,h5⟩:=h rfl
 simp only[List.length_nil,Nat.zero_add,List.nil_append,List.reverse_nil]at h1 h2 h3 h4 h5
 have hcl':=Nat.eq_of_beq_eq_true hcl
 have hlen:(msK bs).length=bs.length+1:=by simp[msK]
 refine Qbt m 0 _ _ _ _ _ ys (H::Zs) Y hm hc (by rw[h1];exact Nat.beq_refl m) (by rw[hlen];simp[h2]) h0B ?_ (by simp) (by rw[hlen];exact h3.2) (QmU hcl' h4) (by simp[plK,hcl']) h5
 rw[List.all_eq_true]
 intro Z hZ
 rcases List.mem_cons.1 hZ with rfl|hZ
 ·exact Nat.ble_eq_true_of_le (Nat.le_refl _)
 ·exact Nat.ble_eq_true_of_le (h3.1 Z hZ)
variable {n:Nat}{X X1:Qc}{xs:List A}{o:Oper}{r:List Oper}{x:A}{d:Nat}
theorem DK.done(hx:Nat.beq xs.length m=true)(hb:Nat.beq Hs.length bs.length=true)(h:K r (Qao ds xs env) X):DK P N m bs cat l ds env n K Hs X r xs:=by
 intro hr
 have e:=Nat.eq_of_beq_eq_true hx
 have e2:=Nat.eq_of_beq_eq_true hb
 subst hr
 refine⟨[],[],X,by simpa using e,by simpa using e2,⟨(fun Z hZ=>by cases hZ),?_⟩,fun j q1 q2=>by omega,?_⟩
 ·rw[<- e2,List.getD_eq_getElem?_getD,List.getElem?_append_right (by simp)];simp
 ·rw[<- e,List.append_nil];exact h
theorem DK.add(hb:∀ys Zs,l[xs.length]?=some o->DobK P N cat l ds env n (Hs.reverse++X::Zs) (xs++x::ys) xs.length)(k:DK P N m bs cat l ds env n K Hs X r (xs++[x])):DK P N m bs cat l ds env n K Hs X (o::r) xs:=by
 intro hr
 obtain⟨ho,hr'⟩:=QaZ hr
 obtain⟨ys,Zs,Y,h1,h2,h3,h4,h5⟩:=k (by simpa using hr')
 simp only[List.length_append,List.length_cons,List.length_nil,List.append_assoc,List.cons_append,List.nil_append]at h1 h4 h5
 refine⟨x::ys,Zs,Y,by simp only[List.length_cons];omega,h2,h3,fun j q1 q2=>?_,h5⟩
 rcases Nat.lt_or_ge xs.length j with q|q
 ·exact h4 j (by omega) q2
 ·obtain rfl:j=xs.length:=by omega
  exact hb ys Zs ho
theorem QdB{Zs:List Qc}{zs:List A}{j:Nat}{c:Nat×Nat×Nat}(hc:Yt cat j=some c)(h:∀p∈rgK c,Y8 P N l ds zs env n n j (Zs.getD p.1 []) (Zs.getD p.2 [])):DobK P N cat l ds env n Zs zs j:=by
 intro p hp
 rw[Qav]at hc
 unfold plK at hp
 rw[List.getD_eq_getElem?_getD,List.getElem?_map,hc]at hp
 exact h p hp
theorem QfA{Zs:List Qc}{c:Nat}(hc:Nat.beq c Hs.length=true):(Hs.reverse++X::Zs).getD c []=X:=by
 rw[Nat.eq_of_beq_eq_true hc,List.getD_eq_getElem?_getD,List.getElem?_append_right (by simp)];simp
theorem DK.wo{c:Nat}(h:WO P X.length N l.toArray [o] (QO (Qf o) 0 ds xs env) X (YE (up (QO (Qf o) 0 ds xs env) d x) X))(k:DK P N m bs cat l ds env n K Hs X r (xs++[x]))
  (hc:Yt cat xs.length=some (0,c,c):=by exact rfl)(hd:o.dst=some d:=by exact rfl)(hcH:Nat.beq c Hs.length=true:=by exact rfl):DK P N m bs cat l ds env n K Hs X (o::r) xs:=
 .add (fun ys Zs ho=>QdB hc fun p hp=>by
  have:p=(c,c):=by
   change p∈Qjm c (c-c)at hp
   rw[Nat.sub_self]at hp
   exact List.mem_singleton.1 hp
  subst this
  rw[QfA hcH]
  exact Qat ho YH h hd) k
theorem DK.wa{lo hi:Nat}(h:∀X,WO P X.length N l.toArray [o] (QO (Qf o) 0 ds xs env) X (YE (up (QO (Qf o) 0 ds xs env) d x) X))(k:DK P N m bs cat l ds env n K Hs X r (xs++[x]))
  (hc:Yt cat xs.length=some (0,lo,hi):=by exact rfl)(hd:o.dst=some d:=by exact rfl):DK P N m bs cat l ds env n K Hs X (o::r) xs:=
 .add (fun ys Zs ho=>QdB hc fun p hp=>by
  have e:p.1=p.2:=Qfn _ _ p hp
  rw[<- e]
  exact Qat ho YH (h _) hd) k
theorem DK.op{c c':Nat}(h:WO P X.length N l.toArray [o] (QO (Qf o) 0 ds xs env) X (YE (up (QO (Qf o) 0 ds xs env) d x) X1))(k:DK P N m bs cat l ds env n K (X::Hs) X1 r (xs++[x]))(hl:Nat.ble n X1.length=true:=by exact rfl)
  (hc:Yt cat xs.length=some (1,c,c'):=by exact rfl)(hd:o.dst=some d:=by exact rfl)(hcH:Nat.beq c Hs.length=true:=by exact rfl):DK P N m bs cat l ds env n K Hs X (o::r) xs:=by
 intro hr
 obtain⟨ho,hr'⟩:=QaZ hr
 obtain⟨ys,Zs,Y,h1,h2,h3,h4,h5⟩:=k (by simpa using hr')
 simp only[List.length_append,List.length_cons,List.length_nil,List.append_assoc,List.cons_append,List.nil_append,List.reverse_cons]at h1 h2 h3 h4 h5
 refine⟨x::ys,X1::Zs,Y,by simp only[List.length_cons];omega,by simp only[List.length_cons];omega,⟨fun Z hZ=>?_,h3.2⟩,fun j q1 q2=>?_,h5⟩
 ·rcases List.mem_cons.1 hZ with rfl|hZ
  ·exact Nat.le_of_ble_eq_true hl
  ·exact h3.1 Z hZ
 ·rcases Nat.lt_or_ge xs.length j with q|q
  ·exact h4 j (by omega) q2
  ·obtain rfl:j=xs.length:=by omega
   refine QdB hc fun p hp=>?_
   have:p=(c,c+1):=List.mem_singleton.1 hp
   subst this
   have e1:(Hs.reverse++X::X1::Zs).getD c []=X:=QfA hcH
   have e2:(Hs.reverse++X::X1::Zs).getD (c+1) []=X1:=by
    have:=QfA (X:=X1) (Zs:=Zs) (Hs:=X::Hs) (c:=c+1) (by rw[Nat.eq_of_beq_eq_true hcH];exact Nat.beq_refl _)
    simpa using this
   simp only
   rw[e1,e2]
   exact Qat ho YH h hd
def QdM(T:TyX)(N m:Nat)(cat:Kat)(l:List Oper)(ds:List Nat)(env:Env)(n:Nat):Nat->Nat->Nat->List Qc->Qc->List Oper->List A->Option (List Qc×List Oper×List A)
 |0,_,_,Hs,X,r,xs=>some (Hs,r,xs)
 |_+1,_,_,_,_,[],_=>none
 |k+1,i,j,Hs,X,o::r,xs=>match o.dst with
  |none=>none
  |some d=>match Nat.blt d N with
   |false=>none
   |true=>match YA ⟨l⟩ o (QO (Qf o) 0 ds xs env)with
    |none=>none
    |some false=>(match Qcn xs (.tup [])with
      |.mk xs'=>match Yt cat i with
       |some (0,_,_)=>QdM T N m cat l ds env n k (i+1) j Hs X r xs'
       |some (1,c,_)=>(match Nat.beq c j,Nat.ble n X.length with
        |true,true=>QdM T N m cat l ds env n k (i+1) (j+1) (X::Hs) X r xs'
        |_,_=>none)
       |_=>none)
    |some true=>match Yt cat i with
     |some (0,lo,hi)=>(match QcE T o (QO (Qf o) 0 ds xs env) []with
      |some x=>(match Qcn xs x with
       |.mk xs'=>QdM T N m cat l ds env n k (i+1) j Hs X r xs')
      |none=>match Nat.beq lo hi,Nat.beq lo j with
       |true,true=>(match QcE T o (QO (Qf o) 0 ds xs env) X with
        |none=>none
        |some x=>match Qcn xs x with
         |.mk xs'=>QdM T N m cat l ds env n k (i+1) j Hs X r xs')
       |_,_=>none)
     |_=>none
theorem Qbo(hT:Qa2 P T):∀(k i j:Nat) {Hs Hs':List Qc}{r r':List Oper}{xs xs':List A},i=xs.length->j=Hs.length->QdM T N m cat l ds env n k i j Hs X r xs=some (Hs',r',xs')->DK P N m bs cat l ds env n K Hs' X r' xs'->DK P N m bs cat l ds env n K Hs X r xs
 |0,i,j,Hs,Hs',r,r',xs,xs',_,_,h,k=>by cases h;exact k
 |k0+1,i,j,Hs,Hs',[],r',xs,xs',_,_,h,k=>by cases h
 |k0+1,i,j,Hs,Hs',o::r,r',xs,xs',hi,hj,h,k=>by
  subst hi hj
  unfold QdM at h
  split at h
  ·cases h
  ·rename_i d hd
   split at h
   ·cases h
   ·rename_i q2
    split at h
    ·cases h
    ·rename_i hw
     simp only[YO]at h
     split at h
     ·rename_i lo hi' q0
      exact .wa (fun X=>WO.skip (Qx hw) hd q2 (WO.nil YE.mk)) (Qbo hT k0 _ _ (by simp) rfl h k) q0 hd
     ·rename_i c c' q0
      split at h
      ·rename_i q1 q3
       exact .op (WO.skip (Qx hw) hd q2 (WO.nil YE.mk)) (Qbo hT k0 _ _ (by simp) (by simp) h k) q3 q0 hd q1
      ·cases h
     ·cases h
    ·rename_i hw
     split at h
     ·rename_i lo hi' q0
      split at h
      ·rename_i x hv
       simp only[YO]at h
       exact .wa (fun X=>Yp (Qx hw) hd q2 (Qap hT (QdF hv)) (WO.nil YE.mk)) (Qbo hT k0 _ _ (by simp) rfl h k) q0 hd
      ·split at h
       ·rename_i q1 q3
        split at h
        ·cases h
        ·rename_i x hv
         simp only[YO]at h
         obtain rfl:=Nat.eq_of_beq_eq_true q1
         exact .wo (Yp (Qx hw) hd q2 (Qap hT hv) (WO.nil YE.mk)) (Qbo hT k0 _ _ (by simp) rfl h k) q0 hd q3
       ·cases h
     ·cases h
theorem Qby{α:Type}{b:Bool}{p q:Option α}{v:α}{xt xf:List A}(j:Nat)(h:(bif b then p else q)=some v)(hs:Yt xs j=some (.bool b))(ht:Qhb xs j (.bool true)=.mk xt)(hf:Qhb xs j (.bool false)=.mk xf)
  (t:b=true->p=some v->DK P N m bs cat l ds env n K Hs X r xt)(e:b=false->q=some v->DK P N m bs cat l ds env n K Hs X r xf):DK P N m bs cat l ds env n K Hs X r xs:=by
 cases b with
 |true=>rw[QaV hs]at ht;cases ht;exact t rfl h
 |false=>rw[QaV hs]at hf;cases hf;exact e rfl h
theorem DK.v(h:OpV P o (QO (Qf o) 0 ds xs env) X x)(k:DK P N m bs cat l ds env n K Hs X r (xs++[x])){c:Nat}(hg:YA ⟨l⟩ o (QO (Qf o) 0 ds xs env)=some true:=by exact rfl)
  (hd:o.dst=some d:=by exact rfl)(hN:Nat.blt d N=true:=by exact rfl)(hc:Yt cat xs.length=some (0,c,c):=by exact rfl)(hcH:Nat.beq c Hs.length=true:=by exact rfl):DK P N m bs cat l ds env n K Hs X (o::r) xs:=
 .wo (Yp (Qx hg) hd hN h (WO.nil YE.mk)) k hc hd hcH
def allV(T:TyX)(o:Oper)(e:Env)(x:A):Nat->List Qc->Prop
 |0,_=>True
 |k+1,Y::r=>QcE T o e Y=some x/\allV T o e x k r
 |_+1,[]=>False
theorem QhY:∀(n lo:Nat),∀p∈Qjm lo n,lo<=p.1/\p.1<=lo+n
 |0,lo,p,h=>by cases h with|head=>exact⟨Nat.le_refl _,Nat.le_refl _⟩|tail _ h=>cases h
 |n+1,lo,p,h=>by
  rcases List.mem_cons.1 h with rfl|h
  ·exact⟨Nat.le_refl _,Nat.le_add_right _ _⟩
  ·have:=QhY n _ p h;omega
def allW(P:Program)(N:Nat)(l:List Oper)(o:Oper)(e:Env)(d:Nat)(x:A):Nat->List Qc->Prop
 |0,_=>True
 |k+1,Y::r=>WO P Y.length N l.toArray [o] e Y (YE (up e d x) Y)/\allW P N l o e d x k r
 |_+1,[]=>False
theorem Qii{e:Env}:∀{k:Nat}{r:List Qc},allW P N l o e d x k r->∀j,j<k->WO P (r.getD j []).length N l.toArray [o] e (r.getD j []) (YE (up e d x) (r.getD j []))
 |0,_,_,j,hj=>absurd hj (Nat.not_lt_zero _)
 |k+1,[],h,_,_=>h.elim
 |k+1,Y::r,h,0,_=>h.1
 |k+1,Y::r,h,j+1,hj=>by
  have:=Qii h.2 j (by omega)
  simpa using this
theorem Ql2{lo hi:Nat}(h:allW P N l o (QO (Qf o) 0 ds xs env) d x (hi+1-lo) (X::Hs))(k:DK P N m bs cat l ds env n K Hs X r (xs++[x]))
  (hc:Yt cat xs.length=some (0,lo,hi):=by exact rfl)(hd:o.dst=some d:=by exact rfl)(hcH:Nat.beq hi Hs.length=true:=by exact rfl)(hle:Nat.ble lo hi=true:=by exact rfl):DK P N m bs cat l ds env n K Hs X (o::r) xs:=
 .add (fun ys Zs ho=>QdB hc fun p hp=>by
  have e:p.1=p.2:=Qfn _ _ p hp
  have hle':=Nat.le_of_ble_eq_true hle
  have hb:lo<=p.1/\p.1<=lo+(hi-lo):=QhY (hi-lo) lo p hp
  have hhi:=Nat.eq_of_beq_eq_true hcH
  rw[<- e]
  have hv:=Qii h (Hs.length-p.1) (by omega)
  have hX:(Hs.reverse++X::Zs).getD p.1 []=(X::Hs).getD (Hs.length-p.1) []:=by
   rw[List.getD_eq_getElem?_getD,List.getD_eq_getElem?_getD]
   congr 1
   rcases Nat.lt_or_ge p.1 Hs.length with q|q
   ·rw[List.getElem?_append_left (by simpa using q),List.getElem?_reverse q,show Hs.length-p.1=Hs.length-1-p.1+1 by omega,List.getElem?_cons_succ]
   ·have:p.1=Hs.length:=by omega
    rw[this,List.getElem?_append_right (by simp)];simp
  rw[hX]
  exact Qat ho YH hv hd) k
theorem DK.vs(hT:Qa2 P T){lo hi:Nat}(h:allV T o (QO (Qf o) 0 ds xs env) x (hi+1-lo) (X::Hs))(k:DK P N m bs cat l ds env n K Hs X r (xs++[x]))
  (hc:Yt cat xs.length=some (0,lo,hi))(hd:o.dst=some d)(hcH:Nat.beq hi Hs.length=true)(hg:YA ⟨l⟩ o (QO (Qf o) 0 ds xs env)=some true)(hN:Nat.blt d N=true)(hle:Nat.ble lo hi=true):DK P N m bs cat l ds env n K Hs X (o::r) xs:=by
 refine Ql2 ?_ k hc hd hcH hle
 generalize hi+1-lo=c at h
 generalize X::Hs=L at h
 induction c generalizing L with
 |zero=>trivial
 |succ c ih=>
  cases L with
  |nil=>exact h.elim
  |cons Y L=>exact⟨Yp (Qx hg) hd hN (Qap hT h.1) (WO.nil YE.mk),ih L h.2⟩
end
end Go.Sw
