/- The rules by which the code is walked, with what they rest on (part 3). -/
import Derived.Test.YtkjlhfabbbomjaaGreatDoorL2
import Derived.Laws.BytesString
set_option linter.unusedVariables false
set_option linter.unusedSectionVars false
set_option linter.unusedSimpArgs false
namespace Go.Sw
def Qcr:Option Blk->Bool
 |some .dead=>true
 |_=>false
def Qao(hB hE:Nat)(H H':Qd):Bool:=(List.range (hE-hB)).all fun p=> !Qcr H'[hB+p]? ||Qcr H[hB+p]?
def Qj0(hB hE:Nat)(σ:Sig)(H:Qd):Prop:=∀p,hB<=p->p<hE->Qcr H[p]?=true->σ[p]?=some none
theorem Qky{hB hE:Nat}{H H':Qd}(h:Qao hB hE H H'=true){p:Nat}(h1:hB<=p)(h2:p<hE)(h3:Qcr H'[p]?=true):Qcr H[p]?=true:=by
 have:=List.all_eq_true.1 h (p-hB) (List.mem_range.2 (by omega))
 rw[show hB+(p-hB)=p by omega,h3]at this
 simpa using this
theorem Sim.allocAt{fr ro:Nat->Prop}{σ:Sig}{H:Qd}{w:World}(s:Sim fr ro σ H w){p:Nat}(hp:σ[p]?=some none){obj:Obj}{x:Blk}
  (hb:BR ro (σ.set p (some w.heap.size)) (w.alloc obj) x (some w.heap.size)):Sim fr ro (σ.set p (some w.heap.size)) (H.set p x) (w.alloc obj):=by
 have ev:Qg fr ro w ro (w.alloc obj):=Qg.alloc obj s.roLt s.frLt
 have hl:=s.len
 have hpl:p<σ.length:=(List.getElem?_eq_some_iff.1 hp).1
 have hext:Ext ro σ w ro (σ.set p (some w.heap.size)) (w.alloc obj):=⟨ev.sub,ev.keepRo,ev.shape,fun i b q=>by
  rw[List.getElem?_set_ne (fun z=>by subst z;rw[hp]at q;cases q)];exact q⟩
 have hcase:∀(i:Nat) (y:Option Nat),(σ.set p (some w.heap.size))[i]?=some y->(i≠p/\σ[i]?=some y)\/(i=p/\y=some w.heap.size):=by
  intro i y h
  by_cases q:i=p
  ·subst q
   rw[List.getElem?_set_self hpl]at h
   exact .inr ⟨rfl,(Option.some.inj h).symm⟩
  ·rw[List.getElem?_set_ne (fun z=>q z.symm)]at h
   exact .inl ⟨q,h⟩
 have hH:∀i:Nat,i≠p->(H.set p x)[i]?=H[i]? :=fun i hi=>List.getElem?_set_ne (fun z=>hi z.symm)
 have hx:(H.set p x)[p]?=some x:=List.getElem?_set_self (by omega)
 refine⟨by simp[hl],s.roOk.to (fun _ q=>q) ev.keepRo (fun b h=>?_),fun b h=>?_,s.roFr,?_,?_,?_⟩
 ·rw[YP];have:=s.roLt b h;omega
 ·rw[YP];have:=s.frLt b h;omega
 ·intro i b y h1 h2 h3
  rw[YP]
  rcases hcase i _ h1 with⟨q,h1⟩|⟨rfl,e1⟩
  ·rw[hH i q]at h2
   obtain⟨a,b,c⟩:=s.own i b y h1 h2 h3
   exact⟨by omega,b,c⟩
  ·cases e1
   exact⟨by omega,fun q=>by have:=s.roLt _ q;omega,fun q=>by have:=s.frLt _ q;omega⟩
 ·intro i j b y z h1 h2 h3 h4 h5 h6
  rcases hcase i _ h1 with⟨q,g1⟩|⟨ei,e1⟩<;>rcases hcase j _ h2 with⟨q',g2⟩|⟨ej,e2⟩
  ·rw[hH i q]at h3
   rw[hH j q']at h4
   exact s.inj i j b y z g1 g2 h3 h4 h5 h6
  ·cases e2
   rw[hH i q]at h3
   have:=(s.own i _ y g1 h3 h5).1
   omega
  ·cases e1
   rw[hH j q']at h4
   have:=(s.own j _ z g2 h4 h6).1
   omega
  ·rw[ei,ej]
 ·intro i y z h1 h2
  rcases hcase i _ h1 with⟨q,h1⟩|⟨rfl,e1⟩
  ·rw[hH i q]at h2
   refine(s.blk i y z h1 h2).keep hext ?_
   rintro b rfl hl
   exact Y0 w obj b (s.own i b z h1 h2 hl).1
  ·rw[hx]at h2;cases h2;subst e1;exact hb
def OpZ(P:Program)(o:Oper)(t:Nat)(cs:List A):Prop:=
 ∀(ro:Nat->Prop) (σ:Sig) (w:World) (a:Act),∃l:List Value,(execOp a.eval o).run P w=.ok (.value (.pointer (some ⟨w.heap.size,0,none⟩))) (w.alloc (.cells l.toArray t))/\LR ro σ w cs l/\ ∀v∈l,QB v
theorem OpZ.alloc{P:Program}{o:Oper}{t:Nat}{z:Value}{v:A}{cs:List A}(hz:∀w,(zeroValue t).run P w=.ok z w)(hv:ZR v z)(ho:o.op=.alloc t:=by exact rfl)(hk:Q9 v=true:=by exact rfl)(hcs:Q7 v=cs:=by exact rfl)(hpl:cs.all Ye=true:=by exact rfl):
  OpZ P o t cs:=by
 intro ro σ w a
 obtain⟨l,h2,h3⟩:=(hv ro σ w).cells hk
 subst hcs
 refine⟨l,?_,h3,h3.plain hpl⟩
 generalize a.eval=ρ at*
 have e:(newVar t z).run P w=.ok ⟨w.heap.size,0,none⟩ (w.alloc (.cells l.toArray t)):=by
  unfold newVar;rw[h2];rfl
 simp only[execOp,ho,Instr.alloc,Sem.run_bind,hz,Result.andThen,e]
 rfl
theorem QcJ{P:Program}{l:List Oper}{i:Nat}{o:Oper}{rd:Option Nat}{R:Exit->Act->World->Prop}{Q:Exit->Act->World->Prop}{K:Act->World->Prop}{a:Act}{w:World}
  (ho:l[i]?=some o)(h':wpL P rd l.toArray R [o] a w)(hR:∀e a' w',R e a' w'->e=.normal/\a'.defers=a.defers)(hK:∀v w',R .normal (a.put o.dst v) w'->K (a.put o.dst v) w'):
  wpOpIn (WF rd) 0 P l.toArray Q i K a w:=by
 unfold wpOpIn
 have ho2:l.toArray[i]?=some o:=by simpa using ho
 rw[ho2]
 simp only
 unfold wpL wpListIn at h'
 split at h'
 ·rename_i hw
  rw[if_pos hw]
  obtain⟨hab,h'⟩:=h'
  refine⟨hab,?_⟩
  have h2:=Qk0 (by
   intro a' w' q
   unfold wpListIn at q
   exact(hR _ _ _ q).2) h'
  generalize(o.semAt (WF rd).round a.eval).run P w=res at*
  cases res with
  |ok n w'=>
   cases n with
   |value v=>exact hK _ _ h2.1
   |skip=>exact hK _ _ h2.1
   |defer df=>
    exfalso
    have:=(hR _ _ _ h2.1).2
    have:=congrArg List.length this
    revert this
    cases o.dst<;>simp[Act.put]
   |enter f args=>
    refine⟨h2.1,CallsIn.mono h2.2 (fun e w'' he=>?_)⟩
    cases e with
    |returned v=>exact hK _ _ he.1
    |panicked c=>have:=(hR _ _ _ he).1;cases this
    |outgrown=>obtain⟨a1,w1,he⟩:=he;have:=(hR _ _ _ he).1;cases this
   |row r args=>
    exact⟨h2.1,RowsIn.mono h2.2 (fun _ _ he=>hK _ _ he.1)⟩
   |round l f tmps assign body=>
    refine⟨h2.1,RoundIn.mono h2.2 (fun e w'' he=>?_)⟩
    cases e with
    |returned v=>exact hK _ _ he.1
    |panicked c=>have:=(hR _ _ _ he).1;cases this
    |outgrown=>obtain⟨a1,w1,he⟩:=he;have:=(hR _ _ _ he).1;cases this
   |_=>exact h2.elim
  |halt x w'=>
   cases x with
   |panic v=>have:=(hR _ _ _ h2).1;cases this
   |_=>exact h2.elim
 ·rename_i hw
  rw[if_neg hw]
  obtain⟨hab,h'⟩:=h'
  refine⟨hab,?_⟩
  unfold wpListIn at h'
  exact hK _ _ h'
theorem Qkx{P:Program}{l:List Oper}{m:Nat}(back:∀i o,l[i]?=some o->∀j∈Qk o,j<i)(chain:∀i o,m<i->l[i]?=some o->i-1∈Qk o){Q:Exit->Act->World->Prop}{rd:Option Nat}:
  ∀(fuel t:Nat) (L:Array Bool) (a:Act) (w:World),L.size=l.length->(∀i,i<l.length->(onL L i↔i<t))->unl L<=fuel->m<=t->t<=l.length->
   wpL P rd l.toArray Q (l.drop t) a w->wpAnyIn (WF rd) 0 P .any l.toArray Q fuel L a w:=by
 intro fuel
 induction fuel with
 |zero=>
  intro t L a w hsz hL hf hm ht h
  have:t=l.length:=by
   rcases Nat.lt_or_ge t l.length with q|q
   ·have:=Qjq (L:=L) (i:=t) (by omega) (fun z=>by have:=(hL t q).1 z;omega);omega
   ·omega
  subst this
  refine⟨List.eq_nil_iff_forall_not_mem.2 fun i hi=>?_,?_⟩
  ·obtain⟨o,h1,h2,_⟩:=(Qaz hsz).1 hi
   have hi':=(List.getElem?_eq_some_iff.1 h1).1
   exact h2 ((hL i hi').2 hi')
  ·rw[List.drop_length]at h;exact h
 |succ fuel ih=>
  intro t L a w hsz hL hf hm ht h
  have key:∀i o,l[i]?=some o->¬onL L i->(∀j∈Qk o,onL L j)->i=t:=by
   intro i o h1 h2 h3
   have hi':=(List.getElem?_eq_some_iff.1 h1).1
   have hge:t<=i:=by
    rcases Nat.lt_or_ge i t with q|q
    ·exact absurd ((hL i hi').2 q) h2
    ·exact q
   rcases Nat.lt_or_ge t i with q|q
   ·have:=(hL (i-1) (by omega)).1 (h3 _ (chain i o (by omega) h1))
    omega
   ·omega
  rcases Nat.lt_or_ge t l.length with htl|htl
  ·have ho:l[t]?=some l[t]:=List.getElem?_eq_getElem htl
   have htn:¬onL L t:=fun q=>by have:=(hL t htl).1 q;omega
   have hr:t∈Region.ready .any l.toArray L:=by
    refine(Qaz hsz).2 ⟨_,ho,htn,fun j hj=>?_⟩
    have:=back t _ ho j hj
    exact(hL j (by omega)).2 this
   refine⟨fun q=>(by rw[q]at hr;cases hr),fun i hi=>?_⟩
   obtain⟨o,h1,h2,h3⟩:=(Qaz hsz).1 hi
   obtain rfl:=key i o h1 h2 h3
   rw[List.drop_eq_getElem_cons htl]at h
   obtain rfl:l[i]=o:=by rw[List.getElem?_eq_getElem htl]at h1;exact Option.some.inj h1
   unfold wpOpIn
   rw[show l.toArray[i]?=some l[i]by rw[List.getElem?_toArray];exact h1]
   simp only
   unfold wpL wpListIn at h
   have nx:∀a w,wpL P rd l.toArray Q (l.drop (i+1)) a w->wpAnyIn (WF rd) 0 P .any l.toArray Q fuel (L.setIfInBounds i true) a w:=by
    intro a w q
    have hu:=Qgl (L:=L) (i:=i) (by omega) htn
    refine ih (i+1) _ a w (by simpa using hsz) (fun j hj=>?_) (by omega) (by omega) (by omega) q
    rw[Js (by omega),hL j hj]
    omega
   split at h
   ·rename_i hw;rw[if_pos hw];exact Oper.wpIn_mono nx h
   ·rename_i hw;rw[if_neg hw];exact⟨h.1,nx _ _ h.2⟩
  ·have:t=l.length:=by omega
   subst this
   rw[List.drop_length]at h
   refine⟨fun _=>h,fun i hi=>?_⟩
   obtain⟨o,h1,h2,_⟩:=(Qaz hsz).1 hi
   have hi':=(List.getElem?_eq_some_iff.1 h1).1
   exact absurd ((hL i hi').2 hi') h2
def QmD(af ds:List Nat)(xs:List A)(env0 e:Env):Prop:=
 ∀s,(∃j x,af.contains j=true/\ds[j]?=some s/\xs[j]?=some x/\lk e s=x)\/lk e s=.any\/(ds.contains s=false/\lk e s=lk env0 s)
inductive Qai (P:Program) (N:Nat) (l:List Oper) (ds:List Nat) (xs:List A) (env0:Env) (hB hE:Nat) (i:Nat) (H H':Qd):Prop
 |mk (o:Oper) (e:Env) (d:Nat) (x:A) (ho:l[i]?=some o) (hd:o.dst=some d) (hx:xs[i]?=some x) (hdd:Qao hB hE H H'=true) (hs:Sb (Qk o) (Qi4 l i) ds xs env0 e)
   (h:WO P H.length N l.toArray [o] e H (Qab (up e d x) H')):Qai P N l ds xs env0 hB hE i H H'
 |unit (o:Oper) (e:Env) (ho:l[i]?=some o) (hd:o.dst=none) (hx:xs[i]?=some .any) (hdd:Qao hB hE H H'=true) (hs:Sb (Qk o) (Qi4 l i) ds xs env0 e)
   (h:WO P H.length N l.toArray [o] e H (Qab e H')):Qai P N l ds xs env0 hB hE i H H'
 |alloc (o:Oper) (d t p:Nat) (cs:List A) (ho:l[i]?=some o) (hd:o.dst=some d) (hg:o.guard=none) (hx:xs[i]?=some (.ptr p 0)) (hp:(Nat.ble hB p&&Nat.blt p hE)=true) (hdead:Qcr H[p]?=true)
   (hH:H.set p (.cells t cs)=H') (h:OpZ P o t cs) (hN:Nat.blt d N=true):Qai P N l ds xs env0 hB hE i H H'
 |val (o:Oper) (e:Env) (d:Nat) (x:A) (ho:l[i]?=some o) (hd:o.dst=some d) (hg:o.guard=none) (hx:xs[i]?=some x) (hN:Nat.blt d N=true) (he:QmD (Qk o) ds xs env0 e) (h:OpV P o e H x)
   (hH:H=H':=by rfl):Qai P N l ds xs env0 hB hE i H H'
 |woE (o:Oper) (e:Env) (d:Nat) (x:A) (ho:l[i]?=some o) (hd:o.dst=some d) (hx:xs[i]?=some x) (he:QmD (Qk o) ds xs env0 e) (hdd:Qao hB hE H H'=true) (h:WO P H.length N l.toArray [o] e H (Qab (up e d x) H')):Qai P N l ds xs env0 hB hE i H H'
theorem Sb.rel{af bf ds:List Nat}{xs:List A}{env0 e:Env}{ro:Nat->Prop}{σ:Sig}{w:World}{a:Act}(hs:Sb af bf ds xs env0 e)
  (hD:∀j∈af,∀s x,ds[j]?=some s->xs[j]?=some x->VR ro σ w x (a.tmps.getD s undef))
  (hO:∀s,ds.contains s=false->VR ro σ w (lk env0 s) (a.tmps.getD s undef))(hP:∀j s,bf.contains j=true->ds[j]?=some s->VR ro σ w (lk env0 s) (a.tmps.getD s undef)):
  ∀s,VR ro σ w (lk e s) (a.tmps.getD s undef):=by
 intro s
 induction hs with
 |nil=>exact trivial
 | @dep j s1 x1 r h1 h2 h3 _ ih=>
  unfold lk
  cases hb:Nat.beq s s1 with
  |false=>exact ih
  |true=>
   obtain rfl:=Nat.eq_of_beq_eq_true hb
   exact hD j (by simpa using h1) _ _ h2 h3
 | @old s1 x1 r h1 h2 _ ih=>
  unfold lk
  cases hb:Nat.beq s s1 with
  |false=>exact ih
  |true=>
   obtain rfl:=Nat.eq_of_beq_eq_true hb
   subst h2
   exact hO _ h1
 | @pre j s1 x1 r h1 h2 h3 _ ih=>
  unfold lk
  cases hb:Nat.beq s s1 with
  |false=>exact ih
  |true=>
   obtain rfl:=Nat.eq_of_beq_eq_true hb
   subst h3
   exact hP j _ h1 h2
structure After (fr ro:Nat->Prop) (σ:Sig) (w:World) (hB hE:Nat) (H':Qd) (xs:List A) (i:Nat) (o:Oper) (a':Act) (w':World) (ro':Nat->Prop) (σ':Sig):Prop where
 val:∀x,xs[i]?=some x->match o.dst with
  |some d=>VR ro' σ' w' x (a'.tmps.getD d undef)
  |none=>x=.any
 sim:Sim fr ro' σ' H' w'
 ev:Qg fr ro w ro' w'
 ext:Ext ro σ w ro' σ' w'
 holes:Qj0 hB hE σ' H'
 take:σ'.take hB=σ.take hB
theorem Qai.use{P:Program}{N:Nat}{l:List Oper}{ds:List Nat}{xs:List A}{env0:Env}{hB hE i:Nat}{H H':Qd}(hb:Qai P N l ds xs env0 hB hE i H H')
  {Q:Exit->Act->World->Prop}{K:Act->World->Prop}{fr ro:Nat->Prop}{σ:Sig}{a:Act}{w:World}{o:Oper}{rd:Option Nat}(ho:l[i]?=some o)
  (hsim:Sim fr ro σ H w)(hN:a.tmps.size=N)(hdef:Qdc fr a.defers w)(hrd:Qec rd fr w)(hh:Qj0 hB hE σ H)(hl:hE<=H.length)(hBE:hB<=hE)
  (hD:∀j∈Qk o,∀s x,ds[j]?=some s->xs[j]?=some x->VR ro σ w x (a.tmps.getD s undef))
  (hO:∀s,ds.contains s=false->VR ro σ w (lk env0 s) (a.tmps.getD s undef))(hP:∀j s,(Qi4 l i).contains j=true->ds[j]?=some s->VR ro σ w (lk env0 s) (a.tmps.getD s undef))
  (hK:∀v w' ro' σ',After fr ro σ w hB hE H' xs i o (a.put o.dst v) w' ro' σ'->K (a.put o.dst v) w'):
  wpOpIn (WF rd) 0 P l.toArray Q i K a w:=by
 have post:∀{e:Env}{H2:Qd}{E:Exit}{a':Act}{w':World},QbM H.length fr ro σ w N a.defers (Qab e H2) E a' w'->E=.normal/\a'.defers=a.defers:=by
  rintro e H2 E a' w' ⟨x,_,_,_,_,_,h1,⟨rfl,_⟩,_,_,_,h2,_⟩
  refine⟨?_,h2⟩
  cases E<;>first|rfl|exact h1.elim|cases h1
 have hgen:∀{σ':Sig}{w':World},Qg fr ro w ro w'->σ'.take H.length=σ.take H.length->True:=fun _ _=>trivial
 have hold:∀{e:Env}{a':Act}{w':World},QbM H.length fr ro σ w N a.defers (Qab e H') .normal a' w'->Qao hB hE H H'=true->
   ∃ro' σ',Sim fr ro' σ' H' w'/\Qg fr ro w ro' w'/\Ext ro σ w ro' σ' w'/\Qj0 hB hE σ' H'/\σ'.take hB=σ.take hB/\ ∀s,VR ro' σ' w' (lk e s) (a'.tmps.getD s undef):=by
  rintro e a' w' ⟨_,env',H2,ro',σ',fr',_,⟨_,rfl,rfl⟩,r',he,ht,_,hgr⟩ hdd
  have hσ:σ'=σ++σ'.drop H.length:=by
   conv=>lhs;rw[<- List.take_append_drop H.length σ']
   rw[ht, <- hsim.len,List.take_length]
  refine⟨ro',σ',r'.sim.frMono hgr.sub,he,?_,?_,?_,r'.env⟩
  ·rw[hσ];exact he.ext σ _
  ·intro p h1 h2 h3
   have:=hh p h1 h2 (Qky hdd h1 h2 h3)
   rw[hσ,List.getElem?_append_left (by rw[hsim.len];omega)]
   exact this
  ·rw[hσ]
   exact QE (by rw[hsim.len];omega)
 cases hb with
 |woE o' e d x ho' hd hx he hdd h=>
  obtain rfl:o'=o:=Option.some.inj (ho'.symm.trans ho)
  have hr:∀s,VR ro σ w (lk e s) (a.tmps.getD s undef):=fun s=>by
   rcases he s with⟨j,x,h1,h2,h3,h4⟩|h4|⟨h1,h4⟩
   ·rw[h4];exact hD j (by simpa using h1) s x h2 h3
   ·rw[h4];exact trivial
   ·rw[h4];exact hO s h1
  refine QcJ ho (h rd fr ro σ a w ⟨hsim,hr,hN,hdef⟩ hrd) (fun _ _ _ q=>post q) (fun v w' q=>?_)
  obtain⟨ro',σ',g1,g2,g3,g4,g5,g6⟩:=hold q hdd
  refine hK v w' ro' σ' ⟨fun y hy=>?_,g1,g2,g3,g4,g5⟩
  obtain rfl:=Option.some.inj (hx.symm.trans hy)
  have:=g6 d
  unfold lk at this
  rw[Nat.beq_refl]at this
  rw[hd]at this⊢
  exact this
 |mk o' e d x ho' hd hx hdd hs h=>
  obtain rfl:o'=o:=Option.some.inj (ho'.symm.trans ho)
  refine QcJ ho (h rd fr ro σ a w ⟨hsim,hs.rel hD hO hP,hN,hdef⟩ hrd) (fun _ _ _ q=>post q) (fun v w' q=>?_)
  obtain⟨ro',σ',g1,g2,g3,g4,g5,g6⟩:=hold q hdd
  refine hK v w' ro' σ' ⟨fun y hy=>?_,g1,g2,g3,g4,g5⟩
  obtain rfl:=Option.some.inj (hx.symm.trans hy)
  have:=g6 d
  unfold lk at this
  rw[Nat.beq_refl]at this
  rw[hd]at this⊢
  exact this
 |unit o' e ho' hd hx hdd hs h=>
  obtain rfl:o'=o:=Option.some.inj (ho'.symm.trans ho)
  refine QcJ ho (h rd fr ro σ a w ⟨hsim,hs.rel hD hO hP,hN,hdef⟩ hrd) (fun _ _ _ q=>post q) (fun v w' q=>?_)
  obtain⟨ro',σ',g1,g2,g3,g4,g5,g6⟩:=hold q hdd
  refine hK v w' ro' σ' ⟨fun y hy=>?_,g1,g2,g3,g4,g5⟩
  obtain rfl:=Option.some.inj (hx.symm.trans hy)
  rw[hd]
 |val o' e d x ho' hd hg hx hNd he h hH=>
  obtain rfl:o'=o:=Option.some.inj (ho'.symm.trans ho)
  subst hH
  have hr:Rel fr ro σ H e N a w:=by
   refine⟨hsim,fun s=>?_,hN,hdef⟩
   rcases he s with⟨j,x,h1,h2,h3,h4⟩|h4|⟨h1,h4⟩
   ·rw[h4];exact hD j (by simpa using h1) s x h2 h3
   ·rw[h4];exact trivial
   ·rw[h4];exact hO s h1
  obtain⟨v0,h1,h2⟩:=h fr ro σ N a w hr
  have hw:Region.wanted o' (yielded l.toArray a.tmps)=true:=by unfold Region.wanted;rw[hg]
  refine QcJ (R:=fun E a' w'=>E=.normal/\a'.defers=a.defers/\a'=a.put o'.dst v0/\w'=w) ho (Qa4 hw h1 ?_) (fun _ _ _ q=>⟨q.1,q.2.1⟩) (fun v w' q=>?_)
  ·unfold wpL wpListIn
   refine⟨rfl,?_,rfl,rfl⟩
   rw[hd];rfl
  ·obtain⟨_,_,q1,rfl⟩:=q
   refine hK v _ ro σ ⟨fun y hy=>?_,hsim,Qg.refl _ _ _,⟨fun _ q=>q,fun _ _=>rfl,fun _ _ q=>q,fun _ _ q=>q⟩,hh,rfl⟩
   obtain rfl:=Option.some.inj (hx.symm.trans hy)
   rw[q1,hd]
   have hdN:d<a.tmps.size:=by rw[hN];simpa using hNd
   show VR ro σ w' x _
   simpa[Act.put,Array.getD_eq_getD_getElem?,hdN]using h2
 |alloc o' d t p cs ho' hd hg hx hp hdead hH h hNd=>
  obtain rfl:o'=o:=Option.some.inj (ho'.symm.trans ho)
  subst hH
  simp only[Bool.and_eq_true]at hp
  have hp1:=Nat.le_of_ble_eq_true hp.1
  have hp2:p<hE:=by simpa using hp.2
  have hσp:=hh p hp1 hp2 hdead
  obtain⟨lv,h1,h2,h3⟩:=h ro σ w a
  have hw:Region.wanted o' (yielded l.toArray a.tmps)=true:=by unfold Region.wanted;rw[hg]
  have ev:Qg fr ro w ro (w.alloc (.cells lv.toArray t)):=Qg.alloc _ hsim.roLt hsim.frLt
  have hpl:p<σ.length:=by rw[hsim.len];omega
  have hext:Ext ro σ w ro (σ.set p (some w.heap.size)) (w.alloc (.cells lv.toArray t)):=⟨ev.sub,ev.keepRo,ev.shape,fun j b q=>by
   rw[List.getElem?_set_ne (fun z=>by subst z;rw[hσp]at q;cases q)];exact q⟩
  refine QcJ (R:=fun E a' w'=>E=.normal/\a'.defers=a.defers/\a'=a.put o'.dst (.pointer (some ⟨w.heap.size,0,none⟩))/\w'=w.alloc (.cells lv.toArray t)) ho (Qa4 hw h1 ?_) (fun _ _ _ q=>⟨q.1,q.2.1⟩) (fun v w' q=>?_)
  ·unfold wpL wpListIn
   refine⟨rfl,?_,rfl,rfl⟩
   rw[hd];rfl
  ·obtain⟨_,_,q1,rfl⟩:=q
   refine hK v _ ro (σ.set p (some w.heap.size)) ⟨fun y hy=>?_,hsim.allocAt hσp ⟨lv,Yt _ _,h2.mono hext,h3⟩,ev,hext,fun p' g1 g2 g3=>?_,?_⟩
   ·obtain rfl:=Option.some.inj (hx.symm.trans hy)
    rw[q1,hd]
    have hdN:d<a.tmps.size:=by rw[hN];simpa using hNd
    refine⟨w.heap.size,List.getElem?_set_self hpl,?_⟩
    simp[Act.put,Array.getD_eq_getD_getElem?,hdN]
   ·by_cases q:p'=p
    ·subst q
     rw[List.getElem?_set_self (by omega)]at g3
     cases g3
    ·rw[List.getElem?_set_ne (fun z=>q z.symm)]at g3⊢
     exact hh p' g1 g2 g3
   ·rw[List.take_set,List.set_eq_of_length_le]
    rw[List.length_take];omega
def same(a b:List Nat):Bool:=a.all (b.contains ·)&&b.all (a.contains ·)
theorem QmJ{a b:List Nat}(h:same a b=true)(i:Nat):i∈a↔i∈b:=by
 unfold same at h
 simp only[Bool.and_eq_true,List.all_eq_true,List.contains_iff_mem]at h
 exact⟨h.1 i,h.2 i⟩
structure QmE (l:List Oper) (m:Nat) (ds:List Nat) (hs:List Bool) (rq ms:List (List Nat)) (pl:List (List (Nat×Nat))) (N:Nat):Prop where
 len:m<=l.length
 dst:∀i o,i<m->l[i]?=some o->(∃d,o.dst=some d/\ds[i]?=some d/\d<N)\/o.dst=none
 dsl:ds.length=m
 nodup:∀(i j d:Nat),ds[i]?=some d->ds[j]?=some d->i=j
 back:∀i o,l[i]?=some o->∀j∈Qk o,j<i
 mid:∀o,l[m]?=some o->∀j,j<m->Qch l m j
 chain:∀i o,m<i->l[i]?=some o->i-1∈Qk o
 rqs:∀i o,i<m->l[i]?=some o->∀h∈rq.getD i [],h<m/\hs.getD h false=true/\(h∈Qk o\/ ∃j∈Qk o,j<m/\h∈rq.getD j [])
 ms0:ms.getD 0 []=[]
 full:∀st,st<ms.length->st+1=ms.length\/ ∃i,i<m/\hs.getD i false=true/\i∉ms.getD st []
 msh:∀st h,h∈ms.getD st []->h<m/\hs.getD h false=true
 pls:∀i st,i<m->st<ms.length->(∀h∈rq.getD i [],h∈ms.getD st [])->(hs.getD i false=true->i∉ms.getD st [])->(∀h∈ms.getD st [],¬Qch l h i)->
  ∃st',(st,st')∈pl.getD i []/\st'<ms.length/\if hs.getD i false then∀j,j∈ms.getD st' []↔j=i\/j∈ms.getD st []else st'=st
theorem QlN{α:Type}{l:List α}{i:Nat}{d x:α}(h:l[i]?=some x):l.getD i d=x:=by rw[List.getD_eq_getElem?_getD,h];rfl
theorem Qh1{P:Program}{l:List Oper}{m:Nat}{ds:List Nat}{hs:List Bool}{rq ms:List (List Nat)}{pl:List (List (Nat×Nat))}{N h0 hB hE:Nat}{xs:List A}{env0:Env}{Hs:List Qd}{Hk:Qd}
  (ok:QmE l m ds hs rq ms pl N)(hxs:xs.length=m)(hHs:Hs.length=ms.length)(h0B:h0<=hB)(hBE:hB<=hE)(hh0:∀H∈Hs,hE<=H.length)
  (hob:∀i p,i<m->p∈pl.getD i []->Qai P N l ds xs env0 hB hE i (Hs.getD p.1 []) (Hs.getD p.2 []))(hkk:Hs.getD (ms.length-1) []=Hk)
  {fr ro0:Nat->Prop}{σ0:Sig}{w0:World}{rd:Option Nat}{ds0:List Deferred}{R:Exit->Act->World->Prop}
  (hk:∀ro σ a w,Rel fr ro σ Hk (QaU ds xs env0) N a w->Qg fr ro0 w0 ro w->σ.take h0=σ0.take h0->a.defers=ds0->wpL P rd l.toArray R (l.drop m) a w)(hm0:Qdc fr ds0 w0)(hrd:Qec rd fr w0):
  ∀(fuel:Nat) (L:Array Bool) (a:Act) (w:World) (ro:Nat->Prop) (σ:Sig) (st:Nat),
   L.size=l.length->unl L<=fuel->(∀i,m<=i->¬onL L i)->st<ms.length->Sim fr ro σ (Hs.getD st []) w->a.tmps.size=N->a.defers=ds0->
   (∀(i d:Nat) (x:A),onL L i->ds[i]?=some d->xs[i]?=some x->VR ro σ w x (a.tmps.getD d undef))->(∀s,(∀j,ds[j]?=some s->¬onL L j)->VR ro σ w (lk env0 s) (a.tmps.getD s undef))->
   Qg fr ro0 w0 ro w->σ.take h0=σ0.take h0->Qj0 hB hE σ (Hs.getD st [])->
   (∀i,i<m->onL L i->∀h∈rq.getD i [],onL L h)->(∀i,i<m->hs.getD i false=true->(onL L i↔i∈ms.getD st []))->
   (∀i o,onL L i->l[i]?=some o->∀j∈Qk o,onL L j)->
   wpAnyIn (WF rd) 0 P .any l.toArray R fuel L a w:=by
 have hlH:∀st,st<ms.length->hE<=(Hs.getD st []).length:=by
  intro st h
  have e:Hs[st]?=some Hs[st]:=List.getElem?_eq_getElem (by omega)
  rw[QlN e]
  exact hh0 _ (List.getElem_mem _)
 have fin:∀(fuel:Nat) (L:Array Bool) (a:Act) (w:World) (ro:Nat->Prop) (σ:Sig) (st:Nat),
   L.size=l.length->unl L<=fuel->(∀i,m<=i->¬onL L i)->st<ms.length->Sim fr ro σ (Hs.getD st []) w->a.tmps.size=N->a.defers=ds0->
   (∀(i d:Nat) (x:A),onL L i->ds[i]?=some d->xs[i]?=some x->VR ro σ w x (a.tmps.getD d undef))->(∀s,(∀j,ds[j]?=some s->¬onL L j)->VR ro σ w (lk env0 s) (a.tmps.getD s undef))->
   Qg fr ro0 w0 ro w->σ.take h0=σ0.take h0->
   (∀i,i<m->hs.getD i false=true->(onL L i↔i∈ms.getD st []))->(∀i,i<m->onL L i)->
   wpAnyIn (WF rd) 0 P .any l.toArray R fuel L a w:=by
  intro fuel L a w ro σ st hsz hu hsuf hst hsim hN hdef hD hE' hev htk hI2 hdone
  have hst':st=ms.length-1:=by
   rcases ok.full st hst with q|⟨i,h1,h2,h3⟩
   ·omega
   ·exact absurd ((hI2 i h1 h2).1 (hdone i h1)) h3
  rw[hst',hkk]at hsim
  refine Qkx ok.back ok.chain fuel m L a w hsz (fun i hi=>⟨fun q=>?_,fun q=>hdone i q⟩) hu (Nat.le_refl _) ok.len ?_
  ·rcases Nat.lt_or_ge i m with z|z
   ·exact z
   ·exact absurd q (hsuf i z)
  ·have hr:Rel fr ro σ Hk (QaU ds xs env0) N a w:=by
    refine⟨hsim,fun s=>?_,hN,by rw[hdef];exact hm0.keep hev⟩
    rcases QmT (env0:=env0) (by rw[ok.dsl,hxs]) s with⟨j,x,h1,h2,h3⟩|⟨h1,h2⟩
    ·rw[h3]
     have hj:j<m:=by have:=(List.getElem?_eq_some_iff.1 h1).1;rw[ok.dsl]at this;exact this
     exact hD j s x (hdone j hj) h1 h2
    ·rw[h2];exact hE' s (fun j q=>absurd (List.mem_of_getElem? q) (by simpa using h1))
   exact hk ro σ a w hr hev htk hdef
 intro fuel
 induction fuel with
 |zero=>
  intro L a w ro σ st hsz hu hsuf hst hsim hN hdef hD hE' hev htk hho hI1 hI2 hcl
  refine fin 0 L a w ro σ st hsz hu hsuf hst hsim hN hdef hD hE' hev htk hI2 (fun i hi=>?_)
  by_cases q:onL L i
  ·exact q
  ·have:=Qjq (L:=L) (i:=i) (by have:=ok.len;omega) q
   omega
 |succ fuel ih=>
  intro L a w ro σ st hsz hu hsuf hst hsim hN hdef hD hE' hev htk hho hI1 hI2 hcl
  by_cases hdone:∀i,i<m->onL L i
  ·exact fin (fuel+1) L a w ro σ st hsz hu hsuf hst hsim hN hdef hD hE' hev htk hI2 hdone
  ·have hex:∃i,i<m/\ ¬onL L i:=by
    refine Classical.byContradiction fun q=>hdone fun i hi=>Classical.byContradiction fun z=>q ⟨i,hi,z⟩
   obtain⟨n,hn,hn2⟩:=hex
   obtain⟨i0,h1,h2,h3⟩:=least (p:=fun i=>¬onL L i) (fun i=>Classical.em _) n hn2
   have hlm:=ok.len
   have hi0:l[i0]?=some l[i0]:=List.getElem?_eq_getElem (by omega)
   have hr:i0∈Region.ready .any l.toArray L:=(Qaz hsz).2 ⟨_,hi0,h2,fun j hj=>Classical.byContradiction fun z=>h3 j (ok.back i0 _ hi0 j hj) z⟩
   refine⟨fun q=>(by rw[q]at hr;cases hr),fun i hi=>?_⟩
   obtain⟨o,ho,hno,haf⟩:=(Qaz hsz).1 hi
   have him:i<m:=by
    rcases Nat.lt_or_ge i m with q|q
    ·exact q
    ·exfalso
     rcases Nat.lt_or_ge m i with z|z
     ·exact hsuf (i-1) (by omega) (haf _ (ok.chain i o z ho))
     ·have:i=m:=by omega
      subst this
      have hre:∀j,Qch l i j->onL L j:=by
       intro j hj
       induction hj with
       |one ho' hj=>rw[ho]at ho';cases ho';exact haf _ hj
       |step _ ho' hj ihr=>exact hcl _ _ ihr ho' _ hj
      exact hn2 (hre n (ok.mid o ho n hn))
   have hrq:∀h∈rq.getD i [],onL L h:=by
    intro h hh
    obtain⟨_,_,q|⟨j,q1,q2,q3⟩⟩:=ok.rqs i o him ho h hh
    ·exact haf h q
    ·exact hI1 j q2 (haf j q1) h q3
   obtain⟨st',hp1,hp2,hp3⟩:=ok.pls i st him hst (fun h hh=>by
    obtain⟨q1,q2,_⟩:=ok.rqs i o him ho h hh
    exact(hI2 h q1 q2).1 (hrq h hh)) (fun q z=>hno ((hI2 i him q).2 z)) (fun h hh hR=>by
    obtain⟨q1,q2⟩:=ok.msh st h hh
    have hon:onL L h:=(hI2 h q1 q2).2 hh
    have hcl2:∀j,Qch l h j->onL L j:=by
     intro j hj
     induction hj with
     |one ho' hj=>exact hcl _ _ hon ho' _ hj
     |step _ ho' hj ihr=>exact hcl _ _ ihr ho' _ hj
    exact hno (hcl2 i hR))
   have hb:=hob i _ him hp1
   refine hb.use ho hsim hN (by rw[hdef];exact hm0.keep hev) (hrd.to hev fun _ q=>q) hho (hlH st hst) hBE (fun j hj s x q1 q2=>hD j s x (haf j hj) q1 q2) (fun s h1=>hE' s (fun j q=>absurd (List.mem_of_getElem? q) (by simpa using h1))) (fun j s h1 h2=>hE' s (fun j' q q'=>?_)) ?_
   ·obtain rfl:=ok.nodup j' j s q h2
    have hj:=List.mem_filter.1 (List.contains_iff_mem.1 h1)
    cases hlj:l[j']? with
    |none=>rw[hlj]at hj;simp at hj
    |some oj=>
     rw[hlj]at hj
     exact hno (hcl j' oj q' hlj i (by simpa using hj.2))
   intro v w' ro' σ' af
   have hext:=af.ext
   have hget:∀s,(∀d,o.dst=some d->s≠d)->(a.put o.dst v).tmps.getD s undef=a.tmps.getD s undef:=by
    intro s hs'
    cases hd:o.dst with
    |none=>rfl
    |some d=>
     simp only[Act.put,Array.getD_eq_getD_getElem?,Array.getElem?_setIfInBounds]
     rw[if_neg (fun q=>hs' d hd q.symm)]
   have hsize:(a.put o.dst v).tmps.size=N:=by
    cases hd:o.dst with
    |none=>simpa[Act.put]using hN
    |some d=>simpa[Act.put]using hN
   have hds:(a.put o.dst v).defers=ds0:=by
    cases hd:o.dst with
    |none=>simpa[Act.put]using hdef
    |some d=>simpa[Act.put]using hdef
   have hu':=Qgl (L:=L) (i:=i) (by omega) hno
   have hli:i<L.size:=by omega
   have hnd:∀s j,ds[j]?=some s->j≠i->∀d,o.dst=some d->s≠d:=by
    intro s j hj hji d hd q
    subst q
    rcases ok.dst i o him ho with⟨d',hd',hdi,hdN⟩|hd'
    ·rw[hd]at hd';cases hd'
     exact hji (ok.nodup j i _ hj hdi)
    ·rw[hd]at hd';cases hd'
   refine ih _ _ w' ro' σ' st' (by simpa using hsz) (by omega) (fun j hj q=>?_) hp2 af.sim hsize hds ?_ ?_ (hev.trans af.ev) ?_ af.holes ?_ ?_ ?_
   ·rcases(Js hli).1 q with z|z
    ·omega
    ·exact hsuf j hj z
   ·intro j s y hj hs1 hy
    by_cases hji:j=i
    ·subst hji
     have hv:=af.val y hy
     rcases ok.dst j o him ho with⟨d',hd',hdi,hdN⟩|hd'
     ·obtain rfl:s=d':=Option.some.inj (hs1.symm.trans hdi)
      simp only[hd']at hv⊢
      exact hv
     ·simp only[hd']at hv
      subst hv
      exact trivial
    ·rw[hget s (hnd s j hs1 hji)]
     rcases(Js hli).1 hj with z|z
     ·exact absurd z hji
     ·exact(hD j s y z hs1 hy).mono hext
   ·intro s hs1
    have hne:∀d,o.dst=some d->s≠d:=by
     rintro d hd rfl
     rcases ok.dst i o him ho with⟨d',hd',hdi,hdN⟩|hd'
     ·rw[hd]at hd';cases hd'
      exact hs1 i hdi ((Js hli).2 (.inl rfl))
     ·rw[hd]at hd';cases hd'
    rw[hget s hne]
    exact(hE' s (fun j q z=>hs1 j q ((Js hli).2 (.inr z)))).mono hext
   ·rw[<- htk]
    have:=congrArg (List.take h0) af.take
    rw[List.take_take,List.take_take,Nat.min_eq_left h0B]at this
    exact this
   ·intro j hj hj2 h hh
    refine(Js hli).2 (.inr ?_)
    rcases(Js hli).1 hj2 with z|z
    ·subst z;exact hrq h hh
    ·exact hI1 j hj z h hh
   ·intro j hj hj2
    rw[Js hli]
    cases q:hs.getD i false with
    |false=>
     have hji:j≠i:=by rintro rfl;rw[q]at hj2;cases hj2
     rw[q]at hp3
     simp only[Bool.false_eq_true,if_false]at hp3
     simp only[hji,false_or]
     rw[hp3]
     exact hI2 j hj hj2
    |true=>
     rw[q]at hp3
     simp only[if_true]at hp3
     rw[hp3 j,hI2 j hj hj2]
   ·intro j o' hj ho' j' hj'
    rcases(Js hli).1 hj with z|z
    ·subst z
     rw[ho]at ho';cases ho'
     exact(Js hli).2 (.inr (haf _ hj'))
    ·exact(Js hli).2 (.inr (hcl j o' z ho' j' hj'))
def Qf7.dstB(N:Nat):Nat->List Oper->List Nat->Bool
 |_,_,[]=>true
 |i,o::r,d::ds=>(match o.dst with|some d'=>Nat.beq d' d&&Nat.blt d N|none=>true)&&Qf7.dstB N (i+1) r ds
 |_,[],_::_=>false
def Qf7.rqB(m:Nat)(hs:List Bool)(rq:List (List Nat)):Nat->List Oper->Bool
 |_,[]=>true
 |i,o::r=>(rq.getD i []).all (fun h=>Nat.blt h m&&hs.getD h false&&((Qk o).contains h||(Qk o).any fun j=>Nat.blt j m&&(rq.getD j []).contains h))&&Qf7.rqB m hs rq (i+1) r
def Qix(l:List Oper)(h:Nat):List Nat:=match l[h]? with
 |some o=>QeE l h (Qk o)
 |none=>[]
theorem Qj8{l:List Oper}{h j:Nat}(q:j∈Qix l h):Qch l h j:=by
 unfold Qix at q
 cases ho:l[h]? with
 |none=>rw[ho]at q;cases q
 |some o=>rw[ho]at q;exact QbU h (Qk o) (fun i hi=>.one ho hi) j q
def Qf7.plB(l:List Oper)(m:Nat)(hs:List Bool)(rq ms:List (List Nat))(pl:List (List (Nat×Nat))):Bool:=
 (List.range m).all fun i=>(List.range ms.length).all fun st=>((ms.getD st []).any fun h=>(Qix l h).contains i)|| !(rq.getD i []).all ((ms.getD st []).contains ·)||(hs.getD i false&&(ms.getD st []).contains i)||
  (pl.getD i []).any fun p=>Nat.beq p.1 st&&Nat.blt p.2 ms.length&&(bif hs.getD i false then same (ms.getD p.2 []) (i::ms.getD st [])else Nat.beq p.2 st)
def Qf7(l:List Oper)(m N:Nat)(ds:List Nat)(hs:List Bool)(rq ms:List (List Nat))(pl:List (List (Nat×Nat))):Bool:=
 Nat.ble m l.length&&(ds.length==m)&&Qf7.dstB N 0 l ds&&drawChk.nodupB ds&&drawChk.goB l m 0 l&&Qf7.rqB m hs rq 0 l&&(ms.getD 0 []).isEmpty&&Nat.blt 0 ms.length
 &&((List.range ms.length).all fun st=>Nat.beq (st+1) ms.length||(List.range m).any fun i=>hs.getD i false&& !(ms.getD st []).contains i)&&Qf7.plB l m hs rq ms pl&&(List.range ms.length).all fun st=>(ms.getD st []).all fun h=>Nat.blt h m&&hs.getD h false
theorem Qf6{N:Nat}:∀(l:List Oper) (ds:List Nat) (b:Nat),Qf7.dstB N b l ds=true->∀(i d:Nat) (o:Oper),l[i]?=some o->ds[i]?=some d->
  (o.dst=some d/\d<N)\/o.dst=none:=by
 intro l
 induction l with
 |nil=>intro ds b h i d o h1;simp at h1
 |cons x r ih=>
  intro ds b h i d o h1 h2
  cases ds with
  |nil=>simp at h2
  |cons y ds=>
   simp only[Qf7.dstB,Bool.and_eq_true]at h
   cases i with
   |zero=>
    simp at h1 h2;subst h1;subst h2
    have h:=h.1
    split at h
    ·rename_i d' hd
     simp only[Bool.and_eq_true]at h
     have e:=Nat.eq_of_beq_eq_true h.1
     subst e
     exact .inl ⟨hd,by simpa using h.2⟩
    ·rename_i hd
     exact .inr hd
   |succ i=>
    have:=ih ds (b+1) h.2 i d o (by simpa using h1) (by simpa using h2)
    exact this
theorem Qlb{m:Nat}{hs:List Bool}{rq:List (List Nat)}:∀(l:List Oper) (b:Nat),Qf7.rqB m hs rq b l=true->∀(i:Nat) (o:Oper),l[i]?=some o->
  ∀h∈rq.getD (b+i) [],h<m/\hs.getD h false=true/\(h∈Qk o\/ ∃j∈Qk o,j<m/\h∈rq.getD j []):=by
 intro l
 induction l with
 |nil=>intro b h i o h1;simp at h1
 |cons x r ih=>
  intro b h i o h1
  simp only[Qf7.rqB,Bool.and_eq_true]at h
  cases i with
  |zero=>
   simp at h1;subst h1
   intro k hk
   have:=List.all_eq_true.1 h.1 k (by simpa using hk)
   simp only[Bool.and_eq_true,Bool.or_eq_true,List.contains_iff_mem,List.any_eq_true]at this
   obtain⟨⟨q1,q2⟩,q3⟩:=this
   refine⟨by simpa using q1,q2,?_⟩
   rcases q3 with q|⟨j,q4,q5,q6⟩
   ·exact .inl q
   ·exact .inr ⟨j,q4,by simpa using q5,q6⟩
  |succ i=>
   have:=ih (b+1) h.2 i o (by simpa using h1)
   rw[show b+1+i=b+(i+1)by omega]at this
   exact this
theorem Qmg{l:List Oper}{m N:Nat}{ds:List Nat}{hs:List Bool}{rq ms:List (List Nat)}{pl:List (List (Nat×Nat))}(h:Qf7 l m N ds hs rq ms pl=true):
  QmE l m ds hs rq ms pl N/\0<ms.length:=by
 unfold Qf7 at h
 simp only[Bool.and_eq_true]at h
 obtain⟨⟨⟨⟨⟨⟨⟨⟨⟨⟨h1,h2⟩,h3⟩,h4⟩,h5⟩,h6⟩,h7⟩,h8⟩,h9⟩,h10⟩,h11⟩:=h
 have hlm:m<=l.length:=Nat.le_of_ble_eq_true h1
 have hds:ds.length=m:=by simpa using h2
 have g:=QhC l 0 h5
 refine⟨⟨hlm,fun i o hi ho=>?_,hds,QdO h4,fun i o ho=>by have:=(g i o ho).1;simpa using this,fun o ho j hj=>QbU m (Qk o) (fun i hi=>.one ho hi) j ((g m o ho).2.1 (by omega) j hj),
  fun i o hi ho=>by have:=(g i o ho).2.2 (by omega);simpa using this,fun i o hi ho h hh=>by have:=Qlb l 0 h6 i o ho h (by simpa using hh);exact this,
  by simpa using h7,fun st hst=>?_,fun st h hh=>?_,fun i st hi hst hr hn hx=>?_⟩,by simpa using h8⟩
 ·have hdi:ds[i]?=some ds[i]:=List.getElem?_eq_getElem (by omega)
  rcases Qf6 l ds 0 h3 i _ o ho hdi with⟨q1,q2⟩|q1
  ·exact .inl ⟨_,q1,hdi,q2⟩
  ·exact .inr q1
 ·have:=List.all_eq_true.1 h9 st (List.mem_range.2 hst)
  simp only[Bool.or_eq_true,List.any_eq_true,Bool.and_eq_true,Bool.not_eq_true']at this
  rcases this with q|⟨i,q1,q2,q3⟩
  ·exact .inl (Nat.eq_of_beq_eq_true q)
  ·exact .inr ⟨i,List.mem_range.1 q1,q2,fun z=>by rw[List.contains_iff_mem.2 z]at q3;cases q3⟩
 ·have hst:st<ms.length:=by
   rcases Nat.lt_or_ge st ms.length with q|q
   ·exact q
   ·rw[List.getD_eq_getElem?_getD,List.getElem?_eq_none q]at hh;cases hh
  have:=List.all_eq_true.1 (List.all_eq_true.1 h11 st (List.mem_range.2 hst)) h hh
  simp only[Bool.and_eq_true]at this
  exact⟨by simpa using this.1,this.2⟩
 ·have:=List.all_eq_true.1 (List.all_eq_true.1 h10 i (List.mem_range.2 hi)) st (List.mem_range.2 hst)
  simp only[Bool.or_eq_true,Bool.not_eq_true']at this
  rcases this with((q|q)|q)|q
  ·exfalso
   obtain⟨h,hh,q⟩:=List.any_eq_true.1 q
   exact hx h hh (Qj8 (List.contains_iff_mem.1 q))
  ·exfalso
   have:((rq.getD i []).all ((ms.getD st []).contains ·))=true:=List.all_eq_true.2 fun h hh=>List.contains_iff_mem.2 (hr h hh)
   rw[this]at q;cases q
  ·simp only[Bool.and_eq_true]at q
   exact absurd (List.contains_iff_mem.1 q.2) (hn q.1)
  ·obtain⟨p,hp,q⟩:=List.any_eq_true.1 q
   simp only[Bool.and_eq_true]at q
   obtain⟨⟨q1,q2⟩,q3⟩:=q
   have e:=Nat.eq_of_beq_eq_true q1
   refine⟨p.2,by rw[<- e];exact hp,by simpa using q2,?_⟩
   cases z:hs.getD i false with
   |true=>
    rw[z]at q3
    simp only[cond_true]at q3
    simp only[if_true]
    intro j
    rw[QmJ q3 j,List.mem_cons]
   |false=>
    rw[z]at q3
    simp only[cond_false]at q3
    simp only[Bool.false_eq_true,if_false]
    exact Nat.eq_of_beq_eq_true q3
inductive Qic (P:Program) (N:Nat) (l:List Oper) (ds:List Nat) (xs:List A) (env0:Env) (hB hE:Nat):Nat->List (List (Qd×Qd))->Prop
 |nil {i:Nat}:Qic P N l ds xs env0 hB hE i []
 |cons {i:Nat}{s:List (Qd×Qd)}{r:List (List (Qd×Qd))} (h:∀p∈s,Qai P N l ds xs env0 hB hE i p.1 p.2) (k:Qic P N l ds xs env0 hB hE (i+1) r):Qic P N l ds xs env0 hB hE i (s::r)
theorem Qic.get{P:Program}{N:Nat}{l:List Oper}{ds:List Nat}{xs:List A}{env0:Env}{hB hE b:Nat}{ss:List (List (Qd×Qd))}(h:Qic P N l ds xs env0 hB hE b ss):
  ∀(i:Nat) (s:List (Qd×Qd)),ss[i]?=some s->∀p∈s,Qai P N l ds xs env0 hB hE (b+i) p.1 p.2:=by
 induction h with
 |nil=>intro i s h;simp at h
 | @cons b s0 r h _ ih=>
  intro i s hi
  cases i with
  |zero=>simp at hi;subst hi;exact h
  |succ i=>
   have:=ih i s (by simpa using hi)
   rw[show b+1+i=b+(i+1)by omega]at this
   exact this
theorem Qe{P:Program}{N:Nat}{l:List Oper}{ds:List Nat}{xs:List A}{env0:Env}{hB hE i:Nat}:∀p∈([]:List (Qd×Qd)),Qai P N l ds xs env0 hB hE i p.1 p.2:=by
 intro p hp;cases hp
theorem Qc{P:Program}{N:Nat}{l:List Oper}{ds:List Nat}{xs:List A}{env0:Env}{hB hE i:Nat}{H H':Qd}{r:List (Qd×Qd)}(h:Qai P N l ds xs env0 hB hE i H H')
  (k:∀p∈r,Qai P N l ds xs env0 hB hE i p.1 p.2):∀p∈(H,H')::r,Qai P N l ds xs env0 hB hE i p.1 p.2:=by
 intro p hp
 rcases List.mem_cons.1 hp with rfl|q
 ·exact h
 ·exact k p q
theorem Qgp{P:Program}{h0 N:Nat}{id:Nat}{l:List Oper}{env:Env}{H:Qd}{fr ro:Nat->Prop}{σ:Sig}{a:Act}{w:World}{rd:Option Nat}{R:Exit->Act->World->Prop}(m c:Nat)(ds:List Nat)(hs:List Bool)(rq ms:List (List Nat))(pl:List (List (Nat×Nat)))(xs:List A)(Hs:List Qd)(Hk:Qd)
  (hm:P.follows .mixedOrders=true)(hc:Qf7 l m N ds hs rq ms pl=true)(hxs:Nat.beq xs.length m=true)(hHs:Nat.beq Hs.length ms.length=true)(h0B:Nat.ble h0 H.length=true)
  (hh:Hs.all (fun X=>Nat.ble (H.length+c) X.length)=true)(h0':Hs[0]?=some (H++List.replicate c .dead))(hk':Hs.getD (ms.length-1) []=Hk)
  (hob:Qic P N l ds xs env H.length (H.length+c) 0 (pl.map fun q=>q.map fun p=>(Hs.getD p.1 [],Hs.getD p.2 [])))(hpl:Nat.beq pl.length m=true)
  (r:Rel fr ro σ H env N a w)(hrd:Qec rd fr w)
  (hk:∀ro' σ' a' w',Rel fr ro' σ' Hk (QaU ds xs env) N a' w'->Qg fr ro w ro' w'->σ'.take h0=σ.take h0->a'.defers=a.defers->wpL P rd l.toArray R (l.drop m) a' w'):(Code.region id l.toArray true).wpIn (WF rd) 0 P R a w:=by
 obtain⟨ok,hpos⟩:=Qmg hc
 have hxs':=Nat.eq_of_beq_eq_true hxs
 have hHs':=Nat.eq_of_beq_eq_true hHs
 have hpl':=Nat.eq_of_beq_eq_true hpl
 have hev:Qg fr ro w ro {w with drawn:=w.drawn+1}:=⟨fun _ q=>q,fun _ _=>rfl,fun _ _=>rfl,Nat.le_refl _,fun _ _ q=>q,rfl,rfl,rfl,Nat.le_succ _⟩
 have hext:Ext ro σ w ro (σ++List.replicate c none) {w with drawn:=w.drawn+1}:=hev.ext σ _
 have hle:=r.sim.len
 have hHs0:Hs.getD 0 []=H++List.replicate c .dead:=QlN h0'
 have hc2:∀(i:Nat) (s:Option Nat) (x:Blk),(σ++List.replicate c none)[i]?=some s->(H++List.replicate c Blk.dead)[i]?=some x->(σ[i]?=some s/\H[i]?=some x)\/(s=none/\x=.dead):=by
  intro i s x h1 h2
  rcases Nat.lt_or_ge i σ.length with q|q
  ·rw[List.getElem?_append_left q]at h1
   rw[List.getElem?_append_left (by omega)]at h2
   exact .inl ⟨h1,h2⟩
  ·rw[List.getElem?_append_right q]at h1
   rw[List.getElem?_append_right (by omega)]at h2
   have a1:=List.mem_of_getElem? h1
   have a2:=List.mem_of_getElem? h2
   exact .inr ⟨(List.mem_replicate.1 a1).2,(List.mem_replicate.1 a2).2⟩
 have hsim:Sim fr ro (σ++List.replicate c none) (H++List.replicate c .dead) {w with drawn:=w.drawn+1}:=by
  refine⟨by simp[hle],r.sim.roOk.to (fun _ q=>q) (fun _ _=>rfl) r.sim.roLt,r.sim.frLt,r.sim.roFr,?_,?_,?_⟩
  ·intro i b blk h1 h2 h3
   rcases hc2 i _ _ h1 h2 with⟨q1,q2⟩|⟨q1,_⟩
   ·exact r.sim.own i b blk q1 q2 h3
   ·cases q1
  ·intro i j b x y h1 h2 h3 h4 h5 h6
   rcases hc2 i _ _ h1 h3 with⟨q1,q2⟩|⟨q1,_⟩
   ·rcases hc2 j _ _ h2 h4 with⟨q3,q4⟩|⟨q3,_⟩
    ·exact r.sim.inj i j b x y q1 q3 q2 q4 h5 h6
    ·cases q3
   ·cases q1
  ·intro i s x h1 h2
   rcases hc2 i _ _ h1 h2 with⟨q1,q2⟩|⟨q1,q2⟩
   ·exact BR.keep hext (fun b hb _=>rfl) (r.sim.blk i s x q1 q2)
   ·subst q2;exact trivial
 have hrep:∀i,¬onL (Array.replicate l.length false) i:=by
  intro i q
  unfold onL at q
  rw[Array.getElem?_replicate]at q
  split at q<;>simp at q
 have h0B':=Nat.le_of_ble_eq_true h0B
 refine wpIn_region_any hm ?_
 rw[List.size_toArray]
 refine Qh1 ok hxs' hHs' h0B' (Nat.le_add_right _ _) (fun X hX=>Nat.le_of_ble_eq_true (List.all_eq_true.1 hh X hX)) ?_ hk' (ro0:=ro) (σ0:=σ) (w0:=w) (ds0:=a.defers) hk r.defers hrd
  l.length _ a _ ro (σ++List.replicate c none) 0 (by simp) ?_ (fun i _=>hrep i) hpos (by rw[hHs0];exact hsim) r.size rfl (fun i d x q=>absurd q (hrep i)) (fun s _=>(r.env s).mono hext) hev (QE (by omega)) ?_
  (fun i _ q=>absurd q (hrep i)) (fun i _ _=>⟨fun q=>absurd q (hrep i),fun q=>by rw[ok.ms0]at q;cases q⟩) (fun i o q=>absurd q (hrep i))
 ·intro i p hi hp
  have e:(pl.map fun q=>q.map fun p=>(Hs.getD p.1 [],Hs.getD p.2 []))[i]?=some ((pl.getD i []).map fun p=>(Hs.getD p.1 [],Hs.getD p.2 [])):=by
   rw[List.getElem?_map,List.getElem?_eq_getElem (by omega),List.getD_eq_getElem?_getD,List.getElem?_eq_getElem (by omega)]
   rfl
  have:=hob.get i _ e _ (List.mem_map.2 ⟨p,hp,rfl⟩)
  simpa using this
 ·unfold unl
  simp[List.countP_replicate]
 ·intro p h1 h2 h3
  rw[List.getElem?_append_right (by omega),List.getElem?_replicate,if_pos (by omega)]
theorem QaG{P:Program}{h0 N:Nat}{id:Nat}{l:List Oper}{env:Env}{H:Qd}{Q:QI}(m c:Nat)(ds:List Nat)(hs:List Bool)(rq ms:List (List Nat))(pl:List (List (Nat×Nat)))(xs:List A)(Hs:List Qd)(Hk:Qd)
  (hm:P.follows .mixedOrders=true)(hc:Qf7 l m N ds hs rq ms pl=true)(hxs:Nat.beq xs.length m=true)(hHs:Nat.beq Hs.length ms.length=true)(h0B:Nat.ble h0 H.length=true)
  (hh:Hs.all (fun X=>Nat.ble (H.length+c) X.length)=true)(h0':Hs[0]?=some (H++List.replicate c .dead))(hk':Hs.getD (ms.length-1) []=Hk)
  (hob:Qic P N l ds xs env H.length (H.length+c) 0 (pl.map fun q=>q.map fun p=>(Hs.getD p.1 [],Hs.getD p.2 [])))(hpl:Nat.beq pl.length m=true)
  (hk:WO P h0 N l.toArray (l.drop m) (QaU ds xs env) Hk Q):TC P h0 N (.region id l.toArray true) env H Q:=by
 intro rd fr ro σ a w r hrd
 refine Code.wpIn_mono (fun e a w q=>QbM.postW q) (Qgp m c ds hs rq ms pl xs Hs Hk hm hc hxs hHs h0B hh h0' hk' hob hpl r hrd fun ro' σ' a' w' hr hev htk hdf=>?_)
 have hkk:=hk rd fr ro' σ' a' w' hr (hrd.to hev fun _ q=>q)
 rw[hdf]at hkk
 exact Yy (fun e a w q=>q.step hev htk) _ _ _ hkk
def draw0(l:List Oper)(m N:Nat)(ds:List Nat):Bool:=Nat.ble m l.length&&(ds.length==m)&&Qf7.dstB N 0 l ds&&drawChk.nodupB ds&&drawChk.goB l m 0 l
inductive Oq (P:Program) (N:Nat) (l:List Oper) (ds:List Nat) (xs:List A) (env0:Env) (H:Qd):Nat->Nat->Prop
 |n {i:Nat}:Oq P N l ds xs env0 H i 0
 |c {i c:Nat} (h:Qai P N l ds xs env0 H.length H.length i H H) (k:Oq P N l ds xs env0 H (i+1) c):Oq P N l ds xs env0 H i (c+1)
theorem Oq.get{P:Program}{N:Nat}{l:List Oper}{ds:List Nat}{xs:List A}{env0:Env}{H:Qd}{b c:Nat}(h:Oq P N l ds xs env0 H b c):∀i,i<c->Qai P N l ds xs env0 H.length H.length (b+i) H H:=by
 induction h with
 |n=>intro i hi;omega
 | @c b c h _ ih=>
  intro i hi
  cases i with
  |zero=>exact h
  |succ i=>
   have:=ih i (by omega)
   rw[show b+1+i=b+(i+1)by omega]at this
   exact this
theorem Qmh{l:List Oper}{m N:Nat}{ds:List Nat}(h:draw0 l m N ds=true):QmE l m ds [] [] [[]] (List.replicate m [(0,0)]) N:=by
 unfold draw0 at h
 simp only[Bool.and_eq_true]at h
 obtain⟨⟨⟨⟨h1,h2⟩,h3⟩,h4⟩,h5⟩:=h
 have hlm:m<=l.length:=Nat.le_of_ble_eq_true h1
 have hds:ds.length=m:=by simpa using h2
 have g:=QhC l 0 h5
 refine⟨hlm,fun i o hi ho=>?_,hds,QdO h4,fun i o ho=>by have:=(g i o ho).1;simpa using this,fun o ho j hj=>QbU m (Qk o) (fun i hi=>.one ho hi) j ((g m o ho).2.1 (by omega) j hj),
  fun i o hi ho=>by have:=(g i o ho).2.2 (by omega);simpa using this,fun i o hi ho h hh=>by simp at hh,rfl,fun st hst=>.inl (by simp at hst;simp[hst]),fun st h hh=>by cases st<;>simp at hh,fun i st hi hst _ _ _=>?_⟩
 ·have hdi:ds[i]?=some ds[i]:=List.getElem?_eq_getElem (by omega)
  rcases Qf6 l ds 0 h3 i _ o ho hdi with⟨q1,q2⟩|q1
  ·exact .inl ⟨_,q1,hdi,q2⟩
  ·exact .inr q1
 ·have:st=0:=by simp at hst;exact hst
  subst this
  refine⟨0,?_,by simp,by simp⟩
  rw[List.getD_eq_getElem?_getD,List.getElem?_replicate,if_pos hi]
  exact List.mem_singleton.2 rfl
theorem Qgq{P:Program}{h0 N:Nat}{id:Nat}{l:List Oper}{env:Env}{H:Qd}{fr ro:Nat->Prop}{σ:Sig}{a:Act}{w:World}{rd:Option Nat}{R:Exit->Act->World->Prop}(m:Nat)(ds:List Nat)(xs:List A)
  (hm:P.follows .mixedOrders=true)(hc:Go.Sw.draw0 l m N ds=true)(hxs:Nat.beq xs.length m=true)(h0B:Nat.ble h0 H.length=true)
  (hob:Oq P N l ds xs env H 0 m)(r:Rel fr ro σ H env N a w)(hrd:Qec rd fr w)
  (hk:∀ro' σ' a' w',Rel fr ro' σ' H (QaU ds xs env) N a' w'->Qg fr ro w ro' w'->σ'.take h0=σ.take h0->a'.defers=a.defers->wpL P rd l.toArray R (l.drop m) a' w'):(Code.region id l.toArray true).wpIn (WF rd) 0 P R a w:=by
 have ok:=Qmh hc
 have hxs':=Nat.eq_of_beq_eq_true hxs
 have hev:Qg fr ro w ro {w with drawn:=w.drawn+1}:=⟨fun _ q=>q,fun _ _=>rfl,fun _ _=>rfl,Nat.le_refl _,fun _ _ q=>q,rfl,rfl,rfl,Nat.le_succ _⟩
 have hext:Ext ro σ w ro σ {w with drawn:=w.drawn+1}:=hev.ext0 σ
 have hsim:Sim fr ro σ H {w with drawn:=w.drawn+1}:=⟨r.sim.len,r.sim.roOk.to (fun _ q=>q) (fun _ _=>rfl) r.sim.roLt,r.sim.frLt,r.sim.roFr,r.sim.own,r.sim.inj,fun i s x q1 q2=>BR.keep hext (fun b hb _=>rfl) (r.sim.blk i s x q1 q2)⟩
 have hrep:∀i,¬onL (Array.replicate l.length false) i:=by
  intro i q
  unfold onL at q
  rw[Array.getElem?_replicate]at q
  split at q<;>simp at q
 refine wpIn_region_any hm ?_
 rw[List.size_toArray]
 refine Qh1 (hB:=H.length) (hE:=H.length) (Hs:=[H]) (Hk:=H) ok hxs' rfl (Nat.le_of_ble_eq_true h0B) (Nat.le_refl _) (fun X hX=>by rw[List.mem_singleton.1 hX];exact Nat.le_refl _) ?_ rfl (ro0:=ro) (σ0:=σ) (w0:=w) (ds0:=a.defers) hk r.defers hrd
  l.length _ a _ ro σ 0 (by simp) ?_ (fun i _=>hrep i) (by simp) hsim r.size rfl (fun i d x q=>absurd q (hrep i)) (fun s _=>(r.env s).mono hext) hev rfl (fun p h1 h2=>by omega)
  (fun i _ q=>absurd q (hrep i)) (fun i _ _=>⟨fun q=>absurd q (hrep i),fun q=>by cases q⟩) (fun i o q=>absurd q (hrep i))
 ·intro i p hi hp
  rw[List.getD_eq_getElem?_getD,List.getElem?_replicate,if_pos hi]at hp
  obtain rfl:=List.mem_singleton.1 hp
  have:=hob.get i hi
  rw[Nat.zero_add]at this
  exact this
 ·unfold unl
  simp[List.countP_replicate]
theorem TC.draw0{P:Program}{h0 N:Nat}{id:Nat}{l:List Oper}{env:Env}{H:Qd}{Q:QI}(m:Nat)(ds:List Nat)(xs:List A)
  (hm:P.follows .mixedOrders=true)(hc:Go.Sw.draw0 l m N ds=true)(hxs:Nat.beq xs.length m=true)(h0B:Nat.ble h0 H.length=true)
  (hob:Oq P N l ds xs env H 0 m)(hk:WO P h0 N l.toArray (l.drop m) (QaU ds xs env) H Q):TC P h0 N (.region id l.toArray true) env H Q:=by
 intro rd fr ro σ a w r hrd
 refine Code.wpIn_mono (fun e a w q=>QbM.postW q) (Qgq m ds xs hm hc hxs h0B hob r hrd fun ro' σ' a' w' hr hev htk hdf=>?_)
 have hkk:=hk rd fr ro' σ' a' w' hr (hrd.to hev fun _ q=>q)
 rw[hdf]at hkk
 exact Yy (fun e a w q=>q.step hev htk) _ _ _ hkk
section
variable {P:Program}{N:Nat}{l:List Oper}{ds af bf:List Nat}{xs:List A}{env0 e r:Env}{H H':Qd}{i hB hE:Nat}{o:Oper}{d s:Nat}{x a:A}
theorem sN:Sb af bf ds xs env0 []:=.nil
theorem sD(j:Nat)(k:Sb af bf ds xs env0 r)(h1:af.contains j=true:=by exact rfl)(h2:ds[j]?=some s:=by exact rfl)(h3:xs[j]?=some a:=by exact rfl):Sb af bf ds xs env0 ((s,a)::r):=.dep j h1 h2 h3 k
theorem sP(j:Nat)(k:Sb af bf ds xs env0 r)(h1:bf.contains j=true:=by exact rfl)(h2:ds[j]?=some s:=by exact rfl)(h3:lk env0 s=a:=by exact rfl):Sb af bf ds xs env0 ((s,a)::r):=.pre j h1 h2 h3 k
theorem sO(s:Nat)(k:Sb af bf ds xs env0 r)(h1:ds.contains s=false:=by exact rfl)(h2:lk env0 s=a:=by exact rfl):Sb af bf ds xs env0 ((s,a)::r):=.old h1 h2 k
theorem QdY(H:Qd):Qao hB hE H H=true:=by
 unfold Qao
 refine List.all_eq_true.2 fun p _=>?_
 cases Qcr H[hB+p]? <;>rfl
theorem Om(ho:l[i]?=some o)(hs:Sb (Qk o) (Qi4 l i) ds xs env0 e)(h:WO P H.length N l.toArray [o] e H (Qab (up e d x) H))(hd:o.dst=some d:=by exact rfl)(hx:xs[i]?=some x:=by exact rfl):Qai P N l ds xs env0 hB hE i H H:=
 .mk o e d x ho hd hx (QdY H) hs h
theorem Om1(ho:l[i]?=some o)(hs:Sb (Qk o) (Qi4 l i) ds xs env0 e)(h:WO P H.length N l.toArray [o] e H (Qab (up e d x) H'))(hd:o.dst=some d:=by exact rfl)(hx:xs[i]?=some x:=by exact rfl)(hdd:Qao hB hE H H'=true:=by exact rfl):Qai P N l ds xs env0 hB hE i H H':=
 .mk o e d x ho hd hx hdd hs h
theorem Om2(ho:l[i]?=some o)(hs:Sb (Qk o) (Qi4 l i) ds xs env0 e)(h:WO P H.length N l.toArray [o] e H (Qab e H'))(hd:o.dst=none:=by exact rfl)(hx:xs[i]?=some .any:=by exact rfl)(hdd:Qao hB hE H H'=true:=by exact rfl):Qai P N l ds xs env0 hB hE i H H':=
 .unit o e ho hd hx hdd hs h
end
end Go.Sw
namespace Go.Sw
structure TyI where
 fld:List (Nat×Nat×Nat)
 agg:List (Nat×Bool×Nat)
 zer:List (Nat×List A×List (Nat×Nat))
structure TyOK (P:Program) (T:TyI):Prop where
 fld:∀e∈T.fld,∃n,Yv P e.1 e.2.1 e.2.2 n
 agg:∀e∈T.agg,(∀w,(isAgg e.1).run P w=.ok e.2.1 w)/\ ∀w,(sizeOf e.1).run P w=.ok e.2.2 w
 zer:∀e∈T.zer,(∃z,(∀w,(zeroValue e.1).run P w=.ok z w)/\ZR (.agg e.2.1) z)/\QJ P e.1 e.2.2
def QhH:List (Nat×Nat×Nat)->Nat->Nat->Option Nat
 |[],_,_=>none
 |(a,b,c)::r,t,f=>bif Nat.beq a t&&Nat.beq b f then some c else QhH r t f
def Qb6{β:Type}:List (Nat×β)->Nat->Option β
 |[],_=>none
 |(a,b)::r,t=>bif Nat.beq a t then some b else Qb6 r t
theorem QhG{l:List (Nat×Nat×Nat)}{t f c:Nat}(h:QhH l t f=some c):(t,f,c)∈l:=by
 induction l with
 |nil=>cases h
 |cons x r ih=>
  obtain⟨a,b,d⟩:=x
  unfold QhH at h
  cases q:(Nat.beq a t&&Nat.beq b f)with
  |true=>
   rw[q]at h
   simp only[Bool.and_eq_true]at q
   have e1:=Nat.eq_of_beq_eq_true q.1
   have e2:=Nat.eq_of_beq_eq_true q.2
   simp only[cond_true,Option.some.injEq]at h
   subst e1 e2 h
   exact .head _
  |false=>rw[q]at h;exact .tail _ (ih h)
theorem Qar{β:Type}{l:List (Nat×β)}{t:Nat}{c:β}(h:Qb6 l t=some c):(t,c)∈l:=by
 induction l with
 |nil=>cases h
 |cons x r ih=>
  obtain⟨a,b⟩:=x
  unfold Qb6 at h
  cases q:Nat.beq a t with
  |true=>
   rw[q]at h
   have e1:=Nat.eq_of_beq_eq_true q
   simp only[cond_true,Option.some.injEq]at h
   subst e1 h
   exact .head _
  |false=>rw[q]at h;exact .tail _ (ih h)
def QgW(H:Qd):A->Option (List A)
 |.rp cs=>some cs
 |.ptr i off=>match H[i]? with
  |some (.cells _ cs)=>some (cs.drop off)
  |_=>none
 |_=>none
theorem Qi3{H:Qd}{p:A}{cs:List A}(h:QgW H p=some cs):Pts H p cs:=by
 unfold QgW at h
 split at h
 ·cases h;exact Pts.rp
 ·split at h
  ·rename_i hH
   cases h
   exact Pts.cells hH rfl
  ·cases h
 ·cases h
def Qk4(T:TyI)(o:Oper)(env:Env)(H:Qd):Option A:=
 match o.op with
 |.move x=>some (opA env x)
 |.assign x=>some (opA env x)
 |.fieldAddr t x f=>match QhH T.fld t f with
  |none=>none
  |some off=>match opA env x with
   |.ptr i p=>some (.ptr i (p+off))
   |.rp cs=>some (.rp (cs.drop off))
   |_=>none
 |.load t x=>match Qb6 T.agg t with
  |none=>none
  |some (b,n)=>match x with
   |.global g=>match QiG[g]? with
    |some zs=>bif b&&Nat.beq zs.length n then some (.agg (zs.map (A.int .i64)))else none
    |none=>none
   |x=>match QgW H (opA env x)with
    |none=>none
    |some cs=>bif b then(bif Nat.beq (cs.take n).length n then some (.agg (cs.take n))else none)else cs.head?
 |.build t parts=>match Qb6 T.zer t with
  |none=>none
  |some (zs,pl)=>match QdS env pl zs parts.toList with
   |some cs=>some (.agg cs)
   |none=>none
 |.extract x i=>match opA env x with
  |.tup vs=>vs[i]?
  |_=>none
 |.makeFunc f first cap=>some (.fn f (first.toList.map (opA env)) (cap.toList.map (opA env)))
 |_=>none
theorem Qk3{P:Program}{T:TyI}(hT:TyOK P T){o:Oper}{env:Env}{H:Qd}{x:A}(h:Qk4 T o env H=some x):OpV P o env H x:=by
 unfold Qk4 at h
 split at h
 ·rename_i y ho
  cases h;exact OpV.move ho rfl
 ·rename_i y ho
  cases h;exact OpV.assign ho rfl
 ·rename_i t y f ho
  split at h
  ·cases h
  ·rename_i off hf
   obtain⟨n,hn⟩:=hT.fld _ (QhG hf)
   split at h
   ·rename_i i p hy
    cases h;exact Qcv hn ho hy
   ·rename_i cs hy
    cases h;exact Qfr hn ho hy rfl
   ·cases h
 ·rename_i t y ho
  split at h
  ·cases h
  ·rename_i b n ht
   obtain⟨h1,h2⟩:=hT.agg _ (Qar ht)
   split at h
   ·rename_i g
    split at h
    ·rename_i zs hg
     cases q:(b&&Nat.beq zs.length n)with
     |false=>rw[q]at h;cases h
     |true=>
      rw[q]at h
      cases h
      simp only[Bool.and_eq_true]at q
      obtain⟨rfl,q2⟩:=q
      exact Qgc h1 h2 hg (Nat.eq_of_beq_eq_true q2) ho
    ·cases h
   ·split at h
    ·cases h
    ·rename_i cs hc
     have hp:=Qi3 hc
     cases b with
     |true=>
      simp only[cond_true]at h
      cases q:Nat.beq (cs.take n).length n with
      |false=>rw[q]at h;cases h
      |true=>
       rw[q]at h
       cases h
       exact Qo ho h1 h2 rfl hp rfl (Nat.eq_of_beq_eq_true q)
     |false=>
      simp only[cond_false]at h
      cases cs with
      |nil=>cases h
      |cons v cs=>cases h;exact OpV.load ho h1 rfl hp
 ·rename_i t parts ho
  split at h
  ·cases h
  ·rename_i zs pl hz
   obtain⟨⟨z,h1,h2⟩,h3⟩:=hT.zer _ (Qar hz)
   split at h
   ·rename_i cs hf
    cases h
    exact OpV.build h1 h2 h3 (by rw[ho]) hf
   ·cases h
 ·rename_i y i ho
  split at h
  ·rename_i vs hy
   exact OpV.extract ho hy h
  ·cases h
 ·rename_i f first cap ho
  cases h
  exact OpV.makeFunc (first:=first.toList) (cap:=cap.toList) (by rw[ho]) rfl rfl
 ·cases h
def QhZ(af:List Nat):Nat->List Nat->List A->Env->Env
 |j,d::ds,x::xs,e=>(d,bif af.contains j then x else .any)::QhZ af (j+1) ds xs e
 |_,_,_,e=>e
theorem Qm4{af:List Nat}{env0:Env}(s:Nat):∀(ds:List Nat) (xs:List A) (b:Nat),ds.length=xs.length->
  (∃(j:Nat) (x:A),ds[j]?=some s/\xs[j]?=some x/\lk (QhZ af b ds xs env0) s=bif af.contains (b+j)then x else .any)\/(ds.contains s=false/\lk (QhZ af b ds xs env0) s=lk env0 s):=by
 intro ds
 induction ds with
 |nil=>intro xs b hl;right;exact⟨rfl,by unfold QhZ;rfl⟩
 |cons d ds ih=>
  intro xs b hl
  cases xs with
  |nil=>cases hl
  |cons x xs=>
   cases q:Nat.beq s d with
   |true=>
    have e:=Nat.eq_of_beq_eq_true q
    subst e
    left
    refine⟨0,x,rfl,rfl,?_⟩
    simp only[QhZ,lk,q,cond_true]
    rfl
   |false=>
    have hne:s≠d:=fun z=>by subst z;simp[Nat.beq_refl]at q
    simp only[QhZ,lk,q,cond_false]
    rcases ih xs (b+1) (by simpa using hl)with⟨j,y,h1,h2,h3⟩|⟨h1,h2⟩
    ·left
     refine⟨j+1,y,by simpa using h1,by simpa using h2,?_⟩
     rw[show b+(j+1)=b+1+j by omega]
     exact h3
    ·right
     refine⟨?_,h2⟩
     rw[List.contains_cons,h1]
     simpa using hne
def Qjr(T:TyI)(N:Nat)(l:List Oper)(ds:List Nat)(xs:List A)(env0:Env)(H:Qd)(i:Nat):Option A:=
 match l[i]? with
 |none=>none
 |some o=>match o.guard,o.dst with
  |none,some d=>bif Nat.blt d N&&Nat.beq ds.length xs.length then Qk4 T o (QhZ (Qk o) 0 ds xs env0) H else none
  |_,_=>none
theorem Qm3{af ds:List Nat}{xs:List A}{env0:Env}(hl:ds.length=xs.length):QmD af ds xs env0 (QhZ af 0 ds xs env0):=by
 intro s
 rcases Qm4 (af:=af) (env0:=env0) s ds xs 0 hl with⟨j,x,h1,h2,h3⟩|h
 ·rw[Nat.zero_add]at h3
  cases q:af.contains j with
  |true=>rw[q]at h3;exact .inl ⟨j,x,q,h1,h2,h3⟩
  |false=>rw[q]at h3;exact .inr (.inl h3)
 ·exact .inr (.inr h)
theorem vQ{P:Program}{T:TyI}(hT:TyOK P T){N:Nat}{l:List Oper}{ds:List Nat}{xs:List A}{env0:Env}{hB hE i:Nat}{H:Qd}{x:A}(hx:xs[i]?=some x)(h:Qjr T N l ds xs env0 H i=some x):Qai P N l ds xs env0 hB hE i H H:=by
 unfold Qjr at h
 split at h
 ·cases h
 ·rename_i o ho
  split at h
  ·rename_i d hg hd
   cases q:(Nat.blt d N&&Nat.beq ds.length xs.length)with
   |false=>rw[q]at h;cases h
   |true=>
    rw[q]at h
    simp only[Bool.and_eq_true]at q
    exact .val o _ d x ho hd hg hx q.1 (Qm3 (Nat.eq_of_beq_eq_true q.2)) (Qk3 hT h)
  ·cases h
abbrev I(n:Int):A:=.int .i64 n
theorem zc{a:A}{v:Value}{al:List A}{vl:List Value}(h:ZR a v)(k:ZL al vl):ZL (a::al) (v::vl):=ZL.cons h k
def zr1:A->Value->Bool
 |.int k n,.int k' n'=>decide (k=k')&&decide (n=n')
 |.bool b,.bool b'=>b==b'
 |.str s,.string s'=>s.isEmpty&&s'.data.toList.isEmpty
 |.rsl _ es,.slice none 0 0=>es.isEmpty
 |.nils,.slice none 0 0=>true
 |.nilp,.pointer none=>true
 |.nilf,.nilFunc=>true
 |.nilm,.map none=>true
 |.nilif,.nilIface=>true
 |_,_=>false
def zrL:List A->List Value->Bool
 |[],[]=>true
 |a::r,v::s=>zr1 a v&&zrL r s
 |_,_=>false
def zrB:A->Value->Bool
 |.agg r,.agg s=>zrL r s.toList
 |a,v=>zr1 a v
theorem QkW{a:A}{v:Value}(h:zr1 a v=true):ZR a v:=by
 unfold zr1 at h
 split at h
 ·simp only[Bool.and_eq_true,decide_eq_true_eq]at h
  obtain⟨rfl,rfl⟩:=h
  exact ZR.int
 ·simp only[beq_iff_eq]at h
  subst h;exact ZR.bool
 ·rename_i s s'
  simp only[Bool.and_eq_true,List.isEmpty_iff]at h
  obtain⟨rfl,h2⟩:=h
  obtain⟨d⟩:=s'
  obtain⟨d⟩:=d
  have h2:d=[]:=h2
  subst h2
  exact ZR.str
 ·rename_i k es
  have h:es=[]:=List.isEmpty_iff.1 h
  subst h
  exact ZR.rsl (α:=A) (e:=fun x=>[x])
 ·exact ZR.nils
 ·exact ZR.nilp
 ·exact ZR.nilf
 ·exact ZR.nilm
 ·exact Qm7
 ·cases h
theorem QkV:∀{r:List A}{s:List Value},zrL r s=true->ZL r s
 |[],[],_=>ZL.nil
 |a::r,v::s,h=>by
  simp only[zrL,Bool.and_eq_true]at h
  exact ZL.cons (QkW h.1) (QkV h.2)
 |[],_::_,h=>by cases h
 |_::_,[],h=>by cases h
theorem zrC{a:A}{v:Value}(h:zrB a v=true):ZR a v:=by
 unfold zrB at h
 split at h
 ·rename_i r s
  have:=ZR.agg (QkV h)
  simpa using this
 ·exact QkW h
end Go.Sw
namespace Go.Sw
section
variable {P:Program}{o:Oper}{env:Env}{H:Qd}
theorem Qis{ro:Nat->Prop}{σ:Sig}{w:World}{b:Nat}{l:List Int}{off:Nat}(h:CR ro σ w b (l.map fun n=>A.int .u8 n) off):(loadCells ⟨b,off,none⟩ l.length).run P w=.ok (l.map fun n=>Value.int .u8 n).toArray w:=by
 obtain⟨vs,q1,_,q2⟩:=Yl (P:=P) (cs:=l.map fun n=>A.int .u8 n) 0 (by simpa using h)
 have e:∀(l:List Int) (vs:List Value),LR ro σ w (l.map fun n=>A.int .u8 n) vs->vs=l.map fun n=>Value.int .u8 n:=by
  intro l
  induction l with
  |nil=>intro vs h;exact h
  |cons n l ih=>
   rintro vs ⟨v,vs',rfl,h1,h2⟩
   have h1':v=.int .u8 n:=h1
   rw[h1',ih _ h2];rfl
 have:=q2 w #[] rfl
 rw[e _ _ q1,List.length_map]at this
 unfold loadCells
 simpa using this
theorem Qhq:∀(l:List Int) (acc:ByteArray),l.foldl (fun r n=>r.push (UInt8.ofNat n.toNat)) acc=⟨acc.data++(l.map Q1).toArray⟩
 |[],acc=>by simp
 |n::l,acc=>by
  rw[List.foldl_cons,Qhq l]
  simp[ByteArray.push,Q1]
theorem Qb3{t u e:TypeId}{x:Operand}{ax:A}{l:List Int}(h1:Qi9 P H ax l)(ht:∀w,(underlying t).run P w=.ok (.slice e) w)(he:∀w,(underlying e).run P w=.ok (.int .u8) w)(hu:∀w,(underlying u).run P w=.ok .string w)
  (ho:o.op=.convert t u x:=by exact rfl)(hx:opA env x=ax:=by exact rfl):OpV P o env H (.str (l.map Q1)):=by
 intro fr ro σ N a w r
 have hv:=Qi r x
 rw[hx]at hv
 refine⟨.string ⟨(l.map Q1).toArray⟩,?_,rfl⟩
 have key:(convert t u (a.eval x)).run P w=.ok (.string ⟨(l.map Q1).toArray⟩) w:=by
  rcases h1 fr ro σ w _ r.sim hv with⟨ad,c,hv2,rfl⟩|⟨b,off,c,hv2,hc⟩
  ·rw[hv2]
   cases ad with
   |none=>simp[convert,ht,hu,he,Conv.bytesToString,go_sem];rfl
   |some ad=>simp[convert,ht,hu,he,Conv.bytesToString,loadCells,loadCellsFrom,go_sem];rfl
  ·rw[hv2]
   have hl:(loadCells ⟨b,off,none⟩ l.length).run P w=.ok (l.map fun n=>Value.int .u8 n).toArray w:=by
    rcases hc with rfl|hc
    ·simp[loadCells,loadCellsFrom,go_sem]
    ·exact Qis hc
   have h2:(convert t u (.slice (some ⟨b,off,none⟩) l.length c)).run P w=(Conv.bytesToString (.slice (some ⟨b,off,none⟩) l.length c)).run P w:=by
    simp[convert,ht,hu,he,go_sem]
   rw[h2,run_bytesToString w ⟨b,off,none⟩ l.length c l hl,Qhq]
   simp[ByteArray.empty,ByteArray.emptyWithCapacity]
   rfl
 generalize a.eval=ρ at*
 simp[execOp,ho,go_sem,key]
theorem QkM{t u:TypeId}{x y:Operand}{p q:List UInt8}(ho:o.op=.binOp .gtr t x y u)(hx:opA env x=.str p)(hy:opA env y=.str q):OpV P o env H (.bool (!(Op.bytesLess p q||p==q))):=
 Qb1 (f:=fun a b=> !(Op.bytesLess a b||a==b)) ho hx hy (by simp)
end
end Go.Sw
namespace Go.Sw
structure TyX where
 ty:TyI
 al:List (Nat×A)
 sl:List Nat
structure Qd1 (P:Program) (T:TyX):Prop where
 ty:TyOK P T.ty
 al:∀e∈T.al,(∃z,(∀w,(zeroValue e.1).run P w=.ok z w)/\ZR e.2 z)/\Q9 e.2=true/\(Q7 e.2).all Ye=true
 sl:∀t∈T.sl,∃et,∀w,(underlying t).run P w=.ok (.slice et) w
def Y9(all:Array Oper)(o:Oper)(env:Env):Option Bool:=
 match o.guard with
 |none=>some true
 |some (j,c)=>match(all[j]?).bind (·.dst)with
  |none=>none
  |some d=>match lk env d with
   |.bool true=>some c
   |.bool false=>some (!c)
   |.tup []=>some false
   |_=>none
theorem Q8{all:Array Oper}{o:Oper}{env:Env}{b:Bool}(h:Y9 all o env=some b):Qz all o env b:=by
 unfold Y9 at h
 unfold Qz
 split at h
 ·rename_i q
  rw[q]
  cases h;rfl
 ·rename_i j c q
  rw[q]
  split at h
  ·cases h
  ·rename_i d q2
   refine⟨d,q2,?_⟩
   split at h
   ·rename_i q3;cases h;exact .inl ⟨true,q3,by simp⟩
   ·rename_i q3;cases h;exact .inl ⟨false,q3,by cases c<;>rfl⟩
   ·rename_i q3;cases h;exact .inr ⟨q3,rfl⟩
   ·cases h
def Qdq:List Nat->Nat->Bool
 |[],_=>false
 |a::r,t=>bif Nat.beq a t then true else Qdq r t
theorem Qgy{l:List Nat}{t:Nat}(h:Qdq l t=true):t∈l:=by
 induction l with
 |nil=>cases h
 |cons a r ih=>
  unfold Qdq at h
  cases q:Nat.beq a t with
  |true=>have:=Nat.eq_of_beq_eq_true q;subst this;exact .head _
  |false=>rw[q]at h;exact .tail _ (ih h)
inductive FL where
 |mk (l:List A)
def fl:List A->FL
 |[]=>.mk []
 |a::r=>match fl r with
  |.mk r'=>.mk (a::r')
theorem Qcc:∀l:List A,fl l=.mk l
 |[]=>rfl
 |a::r=>by unfold fl;rw[Qcc r]
inductive FB where
 |mk (l:List Blk)
def fb:List Blk->FB
 |[]=>.mk []
 |a::r=>match fb r with
  |.mk r'=>.mk (a::r')
theorem QjJ:∀l:List Blk,fb l=.mk l
 |[]=>rfl
 |a::r=>by unfold fb;rw[QjJ r]
inductive FN where
 |mk (n:Nat)
def fn:List Blk->Nat->FN
 |[],n=>.mk n
 |_::r,n=>fn r (n+1)
theorem QlV:∀(l:List Blk) (n:Nat),fn l n=.mk (l.length+n)
 |[],n=>by simp[fn]
 |a::r,n=>by unfold fn;rw[QlV r];simp;omega
def QjI(env:Env)(pl:List (Nat×Nat)):List A->List (Nat×Operand)->Option (List A)
 |cs,[]=>some cs
 |cs,(i,x)::r=>match Jt pl i with
  |none=>none
  |some (off,size)=>match opB env x with
   |.mk a=>match fl (Q7 a)with
    |.mk vs=>bif Q9 a&&Nat.beq vs.length size&&Nat.ble (off+size) cs.length then(match fl (splice cs off vs)with
     |.mk cs'=>QjI env pl cs' r)else none
theorem QhK{env:Env}{pl:List (Nat×Nat)}:∀(parts:List (Nat×Operand)) (cs:List A),QjI env pl cs parts=QdS env pl cs parts
 |[],cs=>rfl
 |(i,x)::r,cs=>by
  unfold QjI QdS
  rw[QaT]
  cases pl[i]? with
  |none=>rfl
  |some q=>
   obtain⟨off,size⟩:=q
   cases h:opB env x with
   |mk a=>
    rw[QH h]
    simp only[Qcc]
    cases(Q9 a&&Nat.beq (Q7 a).length size&&Nat.ble (off+size) cs.length)with
    |false=>rfl
    |true=>exact QhK r _
def Qhx(env:Env):List Operand->List A
 |[]=>[]
 |x::r=>match opB env x with
  |.mk a=>a::Qhx env r
theorem QcQ{env:Env}:∀l:List Operand,Qhx env l=l.map (opA env)
 |[]=>rfl
 |x::r=>by
  unfold Qhx
  cases h:opB env x with
  |mk a=>rw[List.map_cons,QH h];show a::Qhx env r=_;rw[QcQ r]
def ptX(H:Qd):Bx->Option Lx
 |.mk (.rp cs)=>some (.mk cs)
 |.mk (.ptr i off)=>match Jt H i with
  |some (.cells _ cs)=>some (Qh0 off cs)
  |_=>none
 |_=>none
theorem QnC{H:Qd}{p:A}{cs:List A}(h:ptX H (.mk p)=some (.mk cs)):Pts H p cs:=by
 unfold ptX at h
 split at h
 ·rename_i q;cases q;cases h;exact Pts.rp
 ·rename_i i off q
  cases q
  split at h
  ·rename_i hH
   rw[QaT]at hH
   simp only[Option.some.injEq]at h
   exact Pts.cells hH (Qff h)
  ·cases h
 ·cases h
def Qfw(T:TyX)(o:Oper)(env:Env)(H:Qd):Option A:=
 match o.op with
 |.move x=>match opB env x with|.mk a=>some a
 |.assign x=>match opB env x with|.mk a=>some a
 |.nilCheck x=>nlB (opB env x)
 |.extract x i=>exB (opB env x) i
 |.unOp u _ x=>unB u (opB env x)
 |.pick c x y=>piB (opB env c) (opB env x) (opB env y)
 |.binOp b _ x y _=>biB b (opB env x) (opB env y)
 |.fieldAddr t x f=>match QhH T.ty.fld t f with
  |none=>none
  |some off=>match opB env x with
   |.mk (.ptr i p)=>some (.ptr i (p+off))
   |.mk (.rp cs)=>match Qh0 off cs with
    |.mk r=>some (.rp r)
   |_=>none
 |.load t x=>match Qb6 T.ty.agg t with
  |none=>none
  |some (b,n)=>match x with
   |.global g=>match Jt QiG g with
    |some zs=>bif b&&Nat.beq zs.length n then(match fl (zs.map (A.int .i64))with|.mk l=>some (.agg l))else none
    |none=>none
   |x=>match ptX H (opB env x)with
    |none=>none
    |some (.mk cs)=>match b with
     |true=>(match fl (cs.take n)with|.mk l=>bif Nat.beq l.length n then some (.agg l)else none)
     |false=>(match cs with|[]=>none|a::_=>some a)
 |.build t parts=>match Qb6 T.ty.zer t with
  |none=>none
  |some (zs,pl)=>match QjI env pl zs parts.toList with
   |some cs=>some (.agg cs)
   |none=>none
 |.makeFunc f first cap=>match fl (Qhx env first.toList),fl (Qhx env cap.toList)with
  |.mk l,.mk l'=>some (.fn f l l')
 |.call c=>match c with
  |{callee:=.builtin .len,args:=⟨[x]⟩,argTypes:=⟨[t]⟩}=>bif Qdq T.sl t then(match opB env x with
   |.mk (.osl _ 0 n _)=>some (.int .i64 n)
   |_=>none)else none
  |_=>none
 |_=>none
theorem QbQ{P:Program}{T:TyX}(hT:Qd1 P T){o:Oper}{env:Env}{H:Qd}{x:A}(h:Qfw T o env H=some x):OpV P o env H x:=by
 unfold Qfw at h
 split at h
 ·rename_i y ho;exact Qbx ho (by unfold svB;exact h)
 ·rename_i y ho;exact Qbx ho (by unfold svB;exact h)
 ·rename_i y ho;exact Qbx ho (by unfold svB;exact h)
 ·rename_i y i ho;exact Qbx ho (by unfold svB;exact h)
 ·rename_i u t y ho;exact Qbx ho (by unfold svB;exact h)
 ·rename_i c y z ho;exact Qbx ho (by unfold svB;exact h)
 ·rename_i b t y z u ho;exact Qbx ho (by unfold svB;exact h)
 ·rename_i t y f ho
  split at h
  ·cases h
  ·rename_i off hf
   obtain⟨n,hn⟩:=hT.ty.fld _ (QhG hf)
   split at h
   ·rename_i i p hy;cases h;exact Qcv hn ho (QH hy)
   ·rename_i cs hy
    cases q:Qh0 off cs with
    |mk r=>rw[q]at h;cases h;exact Qfr hn ho (QH hy) (Qff q)
   ·cases h
 ·rename_i t y ho
  split at h
  ·cases h
  ·rename_i b n ht
   obtain⟨h1,h2⟩:=hT.ty.agg _ (Qar ht)
   split at h
   ·rename_i g
    split at h
    ·rename_i zs hg
     rw[QaT]at hg
     cases q:(b&&Nat.beq zs.length n)with
     |false=>rw[q]at h;cases h
     |true=>
      rw[q,Qcc]at h
      cases h
      simp only[Bool.and_eq_true]at q
      obtain⟨rfl,q2⟩:=q
      exact Qgc h1 h2 hg (Nat.eq_of_beq_eq_true q2) ho
    ·cases h
   ·cases e:opB env y with
    |mk p=>
     rw[e]at h
     split at h
     ·cases h
     ·rename_i cs hc
      have hp:=QnC hc
      cases b with
      |true=>
       simp only[Qcc]at h
       cases q:Nat.beq (cs.take n).length n with
       |false=>rw[q]at h;cases h
       |true=>
        rw[q]at h
        cases h
        exact Qo ho h1 h2 (QH e) hp rfl (Nat.eq_of_beq_eq_true q)
      |false=>
       cases cs with
       |nil=>cases h
       |cons v cs=>cases h;exact OpV.load ho h1 (QH e) hp
 ·rename_i t parts ho
  split at h
  ·cases h
  ·rename_i zs pl hz
   obtain⟨⟨z,h1,h2⟩,h3⟩:=hT.ty.zer _ (Qar hz)
   split at h
   ·rename_i cs hf
    cases h
    rw[QhK]at hf
    exact OpV.build h1 h2 h3 (by rw[ho]) hf
   ·cases h
 ·rename_i f first cap ho
  simp only[Qcc]at h
  cases h
  rw[QcQ,QcQ]
  exact OpV.makeFunc (first:=first.toList) (cap:=cap.toList) (by rw[ho]) rfl rfl
 ·rename_i c ho
  split at h
  ·rename_i y t
   cases q:Qdq T.sl t with
   |false=>rw[q]at h;cases h
   |true=>
    rw[q]at h
    simp only[cond_true]at h
    obtain⟨et,he⟩:=hT.sl t (Qgy q)
    split at h
    ·rename_i i n k q2
     cases h
     exact QkO he ho rfl (QH q2)
    ·cases h
  ·cases h
 ·cases h
def stX(T:TyX)(h0 N:Nat)(all:Array Oper)(o:Oper)(env:Env)(H:Qd):Option (Env×Qd):=
 match Y9 all o env with
 |none=>none
 |some false=>match o.dst with
  |none=>none
  |some d=>bif Nat.blt d N then some (up env d (.tup []),H)else none
 |some true=>match o.dst with
  |none=>match o.op with
   |.store t x y=>match opB env x,Qb6 T.ty.agg t with
    |.mk (.ptr i off),some (_,n)=>match Jt H i with
     |some (.cells S cs)=>match opB env y with
      |.mk a=>match fl (Q7 a)with
       |.mk vs=>bif Nat.ble h0 H.length&&(Q9 a&&(Nat.beq vs.length n&&(vs.all Ye&&Nat.ble (off+n) cs.length)))then(match fl (splice cs off vs)with
        |.mk cs'=>match fb (H.set i (.cells S cs'))with
         |.mk H'=>some (env,H'))else none
     |_=>none
    |_,_=>none
   |_=>none
  |some d=>bif Nat.blt d N then(match o.op with
   |.alloc t=>match Qb6 T.al t with
    |some v=>bif Nat.ble h0 H.length then(match fn H 0,fl (Q7 v)with
     |.mk n,.mk cs=>match fb (H++[.cells t cs])with
      |.mk H'=>some (up env d (.ptr n 0),H'))else none
    |none=>none
   |.box t x=>match opB env x with
    |.mk a=>bif Nat.ble h0 H.length&&(Q9 a&&(Q7 a).all Ye)then(match fn H 0,fl (Q7 a)with
     |.mk n,.mk cs=>match fb (H++[.cells t cs])with
      |.mk H'=>some (up env d (.ptr n 0),H'))else none
   |_=>match Qfw T o env H with
    |some a=>some (up env d a,H)
    |none=>none)else none
section
variable {P:Program}{T:TyX}{h0 N:Nat}{all:Array Oper}{l l':List Oper}{env env':Env}{H H':Qd}{Q:QI}
theorem Qno(hT:Qd1 P T){o:Oper}(h:stX T h0 N all o env H=some (env',H'))(k:WO P h0 N all l env' H' Q):WO P h0 N all (o::l) env H Q:=by
 unfold stX at h
 split at h
 ·cases h
 ·rename_i hw
  have hg:=Q8 hw
  split at h
  ·cases h
  ·rename_i d hd
   cases q:Nat.blt d N with
   |false=>rw[q]at h;cases h
   |true=>rw[q]at h;cases h;exact WO.skip hg hd q k
 ·rename_i hw
  have hg:=Q8 hw
  split at h
  ·rename_i hd
   split at h
   ·rename_i t x y ho
    split at h
    ·rename_i i off b n hx ht
     split at h
     ·rename_i S cs hH
      rw[QaT]at hH
      cases e:opB env y with
      |mk a=>
       rw[e]at h
       simp only[Qcc,QjJ]at h
       generalize hc:(Nat.ble h0 H.length&&(Q9 a&&(Nat.beq (Q7 a).length n&&((Q7 a).all Ye&&Nat.ble (off+n) cs.length))))=c at h
       cases c with
       |false=>cases h
       |true=>
        cases h
        simp only[Bool.and_eq_true]at hc
        obtain⟨c1,c2,c3,c4,c5⟩:=hc
        obtain⟨_,hs⟩:=hT.ty.agg _ (Qar ht)
        exact Qfl (Nat.le_of_ble_eq_true c1) hg hd (OpU.store ho (QH hx) hH hs (QH e) c2 rfl (Nat.eq_of_beq_eq_true c3) c4 c5 rfl) k
     ·cases h
    ·cases h
   ·cases h
  ·rename_i d hd
   cases q:Nat.blt d N with
   |false=>rw[q]at h;cases h
   |true=>
    rw[q]at h
    simp only[cond_true]at h
    split at h
    ·rename_i t ho
     split at h
     ·rename_i v hv
      cases c:Nat.ble h0 H.length with
      |false=>rw[c]at h;cases h
      |true=>
       rw[c]at h
       simp only[Qcc,QjJ,QlV,cond_true,Nat.add_zero]at h
       cases h
       obtain⟨⟨z,z1,z2⟩,z3,z4⟩:=hT.al _ (Qar hv)
       exact QaF (Nat.le_of_ble_eq_true c) hg hd q (QaH z1 z2 ho z3 rfl z4) k
     ·cases h
    ·rename_i t x ho
     cases e:opB env x with
     |mk a=>
      rw[e]at h
      simp only[Qcc,QjJ,QlV,Nat.add_zero]at h
      generalize hc:(Nat.ble h0 H.length&&(Q9 a&&(Q7 a).all Ye))=c at h
      cases c with
      |false=>cases h
      |true=>
       cases h
       simp only[Bool.and_eq_true]at hc
       obtain⟨c1,c2,c3⟩:=hc
       exact QaF (Nat.le_of_ble_eq_true c1) hg hd q (OpH.box ho (QH e) c2 rfl c3) k
    ·split at h
     ·rename_i a ha
      cases h
      exact QC hg hd q (QbQ hT ha) k
     ·cases h
end
theorem yc{α:Type}{p:α->Prop}{a:α}{l:List α}(h:p a)(k:∀x∈l,p x):∀x∈a::l,p x:=List.forall_mem_cons.2 ⟨h,k⟩
theorem FA{P:Program}{T f off n:Nat}{fs:Array Field}{fd:Field}(h1:∀w,(underlying T).run P w=.ok (.struct fs) w)(h2:fs[f]?=some fd)(h4:∀w,(sizeOf fd.type).run P w=.ok n w)(h3:fd.offset=off:=by exact rfl)(h5:n≠0:=by decide):Yv P T f off n:=⟨_,_,h1,h2,h3,h4,h5⟩
theorem Qby:∀(π:List Nat) (H:Qd) (xs:List Blk),π.map (fun p=>H[p]?)=xs.map some->Yn H π xs=H
 |[],H,xs,h=>by
  have:xs=[]:=by cases xs with
   |nil=>rfl
   |cons x xs=>simp at h
  subst this;simp[Yn]
 |p::π,H,[],h=>by simp at h
 |p::π,H,x::xs,h=>by
  simp only[List.map_cons,List.cons.injEq]at h
  have e:H.set p x=H:=by
   apply List.ext_getElem?
   intro i
   rw[List.getElem?_set]
   by_cases q:p=i
   ·subst q
    rw[if_pos rfl,h.1]
    have:=(List.getElem?_eq_some_iff.1 h.1).1
    rw[if_pos this]
   ·rw[if_neg q]
  unfold Yn
  rw[e]
  exact Qby π H xs h.2
def Qir:A->Option Bx
 |.bool b=>some (.mk (.bool b))
 |.int k n=>some (.mk (.int k n))
 |.str s=>some (.mk (.str s))
 |.rsl k es=>some (.mk (.rsl k es))
 |_=>none
theorem Qjt{v v':A}(h:Qir v=some (.mk v'))(ρ:Nat->Nat):Yz ρ v=v':=by
 cases v<;>first|(cases h;rfl)|cases h
theorem Pc{P:Program}{h0 N:Nat}{all:Array Oper}{o:Oper}{l:List Oper}{env:Env}{H:Qd}{Q:QI}{d:Nat}{f:FuncId}{args argsc:List A}{Hc:Qd}{v v':A}(π:List Nat)(hd:o.dst=some d)(hop:OpC P o env H f args)(hC:C P f argsc Hc (fun a H1=>a=v/\H1=Hc))(hv:Qir v=some (.mk v'))
  (k:WO P h0 N all l (up env d v') H Q)
  (hargs:args=Qad (rho π H.length) argsc:=by exact rfl)(hH:π.map (fun p=>H[p]?)=(Hc.map (Yc (rho π H.length))).map some:=by exact rfl)(hπ:π.Nodup:=by decide)
  (hg:Qz all o env true:=by exact rfl)(hN:Nat.blt d N=true:=by exact rfl)(hh:Nat.ble h0 H.length=true:=by exact rfl):WO P h0 N all (o::l) env H Q:=by
 refine QP π hop hC ?_ hargs hH hπ hg hd hN hh
 rintro r H1 ⟨rfl,rfl⟩
 rw[Qjt hv,Qby π H _ hH]
 exact k
theorem Y7{i k:Nat}{es:List (List A)}:∀H:Qd,FzH i k es H H
 |[]=>.nil
 |_::r=>.keep (Y7 r)
def foN:Nat->FN
 |0=>.mk 0
 |n+1=>match foN n with
  |.mk m=>.mk (m+1)
theorem QeV:∀n,foN n=.mk n
 |0=>rfl
 |n+1=>by unfold foN;rw[QeV n]
mutual
def foA:A->Bx
 |.agg cs=>match foL cs with
  |.mk l=>.mk (.agg l)
 |.tup cs=>match foL cs with
  |.mk l=>.mk (.tup l)
 |.fn f a c=>match foL a,foL c with
  |.mk l,.mk l'=>.mk (.fn f l l')
 |.iface t v=>match foA v with
  |.mk v'=>.mk (.iface t v')
 |.ptr i off=>match foN i with
  |.mk i'=>.mk (.ptr i' off)
 |.osl i o n k=>match foN i with
  |.mk i'=>.mk (.osl i' o n k)
 |.map i=>match foN i with
  |.mk i'=>.mk (.map i')
 |a=>.mk a
def foL:List A->FL
 |[]=>.mk []
 |a::r=>match foA a,foL r with
  |.mk a',.mk r'=>.mk (a'::r')
end
mutual
theorem QgD:∀a:A,foA a=.mk a
 |.agg cs=>by unfold foA;rw[Qcs cs]
 |.tup cs=>by unfold foA;rw[Qcs cs]
 |.fn f a c=>by unfold foA;rw[Qcs a,Qcs c]
 |.iface t v=>by unfold foA;rw[QgD v]
 |.ptr i off=>by unfold foA;rw[QeV]
 |.osl i o n k=>by unfold foA;rw[QeV]
 |.map i=>by unfold foA;rw[QeV]
 |.any|.bool _|.int _ _|.str _|.nilp|.rp _|.nils|.rsl _ _|.nilf|.nilif|.nilm=>by rfl
theorem Qcs:∀l:List A,foL l=.mk l
 |[]=>by rfl
 |a::r=>by unfold foL;rw[QgD a,Qcs r]
end
inductive FE2 where
 |mk (l:List (List A))
def foE:List (List A)->FE2
 |[]=>.mk []
 |a::r=>match foL a,foE r with
  |.mk a',.mk r'=>.mk (a'::r')
theorem QlS:∀l,foE l=.mk l
 |[]=>rfl
 |a::r=>by unfold foE;rw[Qcs,QlS r]
def foH:List Blk->FB
 |[]=>.mk []
 |b::r=>match foH r with
  |.mk r'=>match b with
   |.cells t cs=>match foL cs with
    |.mk l=>.mk (.cells t l::r')
   |.rowr t k es=>match foE es with
    |.mk l=>.mk (.rowr t k l::r')
   |.dead=>.mk (.dead::r')
   |.row t k es=>.mk (.row t k es::r')
   |.map es=>.mk (.map es::r')
   |.iter c es=>.mk (.iter c es::r')
   |.fmap es=>.mk (.fmap es::r')
   |.ents t a b es=>match foN a,foN b with
    |.mk a',.mk b'=>.mk (.ents t a' b' es::r')
theorem QiI:∀l,foH l=.mk l
 |[]=>rfl
 |b::r=>by
  unfold foH
  rw[QiI r]
  cases b<;>simp only[Qcs,QlS,QeV]
def foS(env:Env)(H:Qd):Option (Env×Qd):=
 match foH H with
 |.mk H'=>match env with
  |[]=>some ([],H')
  |(d,a)::e=>match foA a with
   |.mk a'=>some ((d,a')::e,H')
theorem QnY(env:Env)(H:Qd):foS env H=some (env,H):=by
 unfold foS
 rw[QiI]
 cases env with
 |nil=>rfl
 |cons p e=>obtain⟨d,a⟩:=p;simp only[QgD]
theorem FE{P:Program}{h0 N:Nat}{all:Array Oper}{l:List Oper}{env env':Env}{H H':Qd}{Q:QI}(h:foS env H=some (env',H'))(k:WO P h0 N all l env' H' Q):WO P h0 N all l env H Q:=by
 rw[QnY]at h
 cases h
 exact k
def entB(b1 b2:Nat):List (List A)->Option (List Ent)
 |[]=>some []
 |[.ptr b off,.int .i64 lo,.int .i64 hi]::r=>match entB b1 b2 r with
  |none=>none
  |some l=>match Nat.beq b b2 with
   |true=>some (⟨true,off,lo,hi⟩::l)
   |false=>match Nat.beq b b1 with
    |true=>some (⟨false,off,lo,hi⟩::l)
    |false=>none
 |_=>none
theorem Qm5{b1 b2:Nat}:∀{es:List (List A)}{l:List Ent},entB b1 b2 es=some l->l.map (eC b1 b2)=es:=by
 intro es
 induction es with
 |nil=>intro l h;cases h;rfl
 |cons e r ih=>
  intro l h
  unfold entB at h
  split at h
  ·cases ‹_=[]›
  ·rename_i b off lo hi r' q
   cases q
   split at h
   ·cases h
   ·rename_i l' hl
    have e:=ih hl
    split at h
    ·rename_i q;cases h;have:=Nat.eq_of_beq_eq_true q;subst this;rw[List.map_cons,e];rfl
    ·split at h
     ·rename_i q;cases h;have:=Nat.eq_of_beq_eq_true q;subst this;rw[List.map_cons,e];rfl
     ·cases h
  ·cases h
theorem TE{P:Program}{h0 N:Nat}{all:Array Oper}{l:List Oper}{env:Env}{H:Qd}{Q:QI}{t:Nat}{es:List (List A)}{L:List Ent}(i b1 b2:Nat)(hH:H[i]?=some (.rowr t 3 es))(h:entB b1 b2 es=some L)
  (k:WO P h0 N all l env (H.set i (.ents t b1 b2 L)) Q):WO P h0 N all l env H Q:=WO.le (QkR hH (Qm5 h)) k
theorem R1{P:Program}{h0:Nat}{fn:Func}{env:Env}{H Hc:Qd}{v:A}(s:Nat)(hr:fn.results= #[.tmp s])(hle:Le h0 env H [(s,v)] Hc):Qc6 P h0 fn (fun a H=>a=v/\H=Hc) .ret env H:=
 ⟨[(s,v)],Hc,v,hle,Qc7.one hr (by show lk [(s,v)] s=v;unfold lk;rw[Nat.beq_refl];rfl),rfl,rfl⟩
theorem R2{P:Program}{h0:Nat}{fn:Func}{env:Env}{H Hc:Qd}{v v':A}(s t:Nat)(hr:fn.results= #[.tmp s,.tmp t])(hn:Nat.beq t s=false)(hle:Le h0 env H [(s,v),(t,v')] Hc):Qc6 P h0 fn (fun a H=>a=.tup [v,v']/\H=Hc) .ret env H:=
 ⟨[(s,v),(t,v')],Hc,_,hle,QkG hr (by show lk [(s,v),(t,v')] s=v;unfold lk;rw[Nat.beq_refl];rfl) (by show lk [(s,v),(t,v')] t=v';unfold lk lk;rw[hn,Nat.beq_refl];rfl),rfl,rfl⟩
theorem FzA.o{i k n:Nat}{es:List (List A)}(hn:n=es.length:=by first|exact(List.length_map ..).symm|exact rfl):FzA i k es (.osl i 0 n k) (.rsl k es):=FzA.own hn
end Go.Sw
namespace Go.Sw
theorem Le.env{h0:Nat}{env env':Env}{H:Qd}(h:∀s,lk env' s=.any\/lk env' s=lk env s):Le h0 env H env' H:=by
 intro fr ro σ N a w r
 refine⟨ro,σ,⟨r.sim,fun s=>?_,r.size,r.defers⟩,fun _ q=>q,rfl⟩
 rcases h s with h|h
 ·rw[h];trivial
 ·rw[h];exact r.env s
def QmC(env:Env):Env->Prop
 |[]=>True
 |(s,a)::r=>lk env s=a/\QmC env r
theorem QmC.ok{env:Env}:∀{env':Env},QmC env env'->∀s,lk env' s=.any\/lk env' s=lk env s
 |[],_,s=>.inl rfl
 |(d,a)::e,⟨h1,h2⟩,s=>by
  by_cases q:s=d
  ·subst q;right;simp only[lk,Nat.beq_refl,cond_true];exact h1.symm
  ·have:Nat.beq s d=false:=by
    rw[Bool.eq_false_iff];intro q';exact q (Nat.eq_of_beq_eq_true q')
   simp only[lk,this,cond_false]
   exact QmC.ok h2 s
theorem Lw{h0:Nat}{env env':Env}{H:Qd}(h:QmC env env'):Le h0 env H env' H:=Le.env h.ok
theorem Qnq(n i:Nat):rho (List.range n) n i=i:=by
 unfold rho
 by_cases h:i<n
 ·rw[List.getElem?_range h]
 ·rw[List.getElem?_eq_none (by rw[List.length_range];omega)]
  simp only[List.length_range]
  omega
mutual
theorem Qjw{ρ:Nat->Nat}(h:∀i,ρ i=i):∀a:A,Yz ρ a=a
 |.ptr i off=>by simp[Yz,h]
 |.osl i o n k=>by simp[Yz,h]
 |.agg cs=>by simp[Yz,QaP h cs]
 |.fn f a c=>by simp[Yz,QaP h a,QaP h c]
 |.iface t v=>by simp[Yz,Qjw h v]
 |.map i=>by simp[Yz,h]
 |.tup vs=>by simp[Yz,QaP h vs]
 |.any|.bool _|.int _ _|.str _|.nilp|.rp _|.nils|.rsl _ _|.nilf|.nilif|.nilm=>by rfl
theorem QaP{ρ:Nat->Nat}(h:∀i,ρ i=i):∀l:List A,Qad ρ l=l
 |[]=>rfl
 |a::r=>by simp[Qad,Qjw h a,QaP h r]
end
theorem Qjv{ρ:Nat->Nat}(h:∀i,ρ i=i):∀l:List (List A),Qgo ρ l=l
 |[]=>rfl
 |a::r=>by simp[Qgo,QaP h a,Qjv h r]
theorem QmL{ρ:Nat->Nat}(h:∀i,ρ i=i):∀b:Blk,Yc ρ b=b
 |.cells t cs=>by simp[Yc,QaP h cs]
 |.rowr t k es=>by simp[Yc,Qjv h es]
 |.ents t a b es=>by simp[Yc,h]
 |.dead|.row _ _ _|.map _|.iter _ _|.fmap _=>by rfl
theorem Pw{P:Program}{h0 N:Nat}{all:Array Oper}{o:Oper}{l:List Oper}{env:Env}{H:Qd}{Q:QI}{d:Nat}{f:FuncId}{args:List A}{v v':A}(hd:o.dst=some d)(hop:OpC P o env H f args)(hC:C P f args H (fun a H1=>a=v/\H1=H))(hv:Qir v=some (.mk v'))
  (hg:Qz all o env true)(hN:Nat.blt d N=true)(hh:h0<=H.length)(k:WO P h0 N all l (up env d v') H Q):WO P h0 N all (o::l) env H Q:=by
 have hid:=Qnq H.length
 have hm:H.map (Yc (rho (List.range H.length) H.length))=H:=by
  conv=>rhs;rw[<- List.map_id H]
  exact List.map_congr_left fun b _=>QmL hid b
 have hH:(List.range H.length).map (fun p=>H[p]?)=(H.map (Yc (rho (List.range H.length) H.length))).map some:=by
  rw[hm]
  apply List.ext_getElem?
  intro i
  by_cases q:i<H.length
  ·simp[q]
  ·simp[q]
 refine QP (List.range H.length) hop hC ?_ (by rw[QaP hid]) hH List.nodup_range hg hd hN (Nat.ble_eq_true_of_le hh)
 rintro r H1 ⟨rfl,rfl⟩
 rw[Qjt hv,Qby _ _ _ hH]
 exact k
def ixE(d:Nat)(g:Ground):Edge:={on:=d,ground:=g}
def ixO(d:Nat)(op:Op)(t:Nat)(pos:String)(af:Array Edge):Oper:={dst:=some d,op:=op,type:=t,pos:=pos,after:=af,guard:=none}
def QnV(ts te tf tI tB:Nat):Code:=
 (Code.region 0 [ixO 4 (.assign (.const (.int .i64 0))) tI "slices.go:107" #[]].toArray false).seq
  (((Code.region 1 [ixO 6 (.move (.tmp 0)) ts "slices.go:108" #[],ixO 7 (.call {callee:=.builtin .len,args:= #[.tmp 6],argTypes:= #[ts]}) tI "slices.go:108" #[ixE 0 .data],ixO 8 (.move (.const (.int .i64 0))) tI "slices.go:108" #[]].toArray false).seq
   (.block 0 (.loop ((Code.region 2 [ixO 9 (.binOp .lss tI (.tmp 8) (.tmp 7) tI) 0 "slices.go:108" #[]].toArray false).seq
    ((Code.cond (.tmp 9) .skip (.exit 0)).seq
    ((Code.block 1 ((Code.region 3 [ixO 10 (.move (.tmp 8)) tI "slices.go:108" #[],ixO 5 (.assign (.tmp 10)) tI "slices.go:108" #[ixE 0 .data,ixE 0 .phase]].toArray false).seq
     ((Code.region 4 [ixO 11 (.move (.tmp 1)) tf "slices.go:109" #[],ixO 12 (.move (.tmp 0)) ts "slices.go:109" #[],ixO 13 (.move (.tmp 5)) tI "slices.go:109" #[],ixO 14 (.indexAddr ts (.tmp 12) (.tmp 13)) 0 "slices.go:109" #[ixE 1 .data,ixE 2 .data],
       ixO 15 (.load te (.tmp 14)) te "slices.go:109" #[ixE 3 .data],ixO 16 (.call {callee:=.value (.tmp 11),args:= #[.tmp 15],argTypes:= #[te]}) tB "slices.go:109" #[ixE 0 .data,ixE 4 .data]].toArray false).seq
      (Code.cond (.tmp 16) ((Code.region 5 [ixO 17 (.move (.tmp 5)) tI "slices.go:110" #[],ixO 4 (.assign (.tmp 17)) tI "slices.go:110" #[ixE 0 .data,ixE 0 .phase]].toArray false).seq .ret) .skip)))).seq
     (Code.region 6 [ixO 18 (.binOp .add tI (.tmp 8) (.const (.int .i64 1)) tI) tI "slices.go:108" #[],ixO 8 (.move (.tmp 18)) tI "slices.go:108" #[ixE 0 .data]].toArray false))))))).seq
  ((Code.region 7 [ixO 4 (.assign (.const (.int .i64 (-1)))) tI "slices.go:113" #[]].toArray false).seq .ret))
theorem Yj{P:Program}{T:Type}{e:T->List A}{el:T->A}{ts te tf tI tB k:Nat}{fI fc:FuncId}{fn:Func}{caps:List A}{Hc:Qd}{L:List T}{g:T->Option Bool}{n:Nat}{r:Int}
  (hf:P.funcs[fI]?=some fn)(hb:fn.body=some (QnV ts te tf tI tB))(hN:fn.ntmps=19)(hR:fn.results= #[.tmp 4])(hu:∀w,(underlying ts).run P w=.ok (.slice te) w)(hs:∀w,(sizeOf te).run P w=.ok k w)
  (hld:∀(o:Oper) (env:Env) (H:Qd) (x:T),o.op=.load te (.tmp 14)->opA env (.tmp 14)=.rp (e x)->OpV P o env H (el x))
  (hca:∀(a:Array Value) (w:World),(callFunc fc a).run P w=.ok (.enter fc a) w)
  (hcl:∀x b,g x=some b->C P fc (el x::caps) Hc (fun a H=>a=.bool b/\H=Hc))
  (h:((iter (fun s:Int=>bif decide (s<(L.length:Int))then(idx L s).bind fun x=>(g x).bind fun b=>(bif b then some (Ctl.done (Ctl.done s))else some (Ctl.cont (IntKind.i64.wrap (s+1))))else some (Ctl.done (Ctl.cont ()))) n (0:Int):Option (Ctl Unit Int)).bind fun b=>match b with|.cont _=>some (-1)|.done s=>some s)=some r):
  C P fI [.rsl k (L.map e),.fn (.func fc) [] caps] Hc (fun a H=>a=.int .i64 r/\H=Hc):=by
 refine Qb hf hb hN rfl ?_
 refine Rg (S rfl (Nx (TC.seq (Rg (S rfl (LnM hu rfl (S rfl (Nx (Bd h fun b10 h11 h=>?_)))))))))
 refine Qg0 (b:=b10) (fun _=>[]) (fun _=>Hc) ?_ (fun sb10 env H hbe hle=>?_)
 ·refine TC.block ?_
  refine TC.loop (E:=fun s13=>[(0,.rsl k (L.map e)),(1,.fn (.func fc) [] caps),(7,.int .i64 (L.length:Int)),(8,.int .i64 s13)]) (Hp:=fun _=>Hc) h11 ?_ ?_
  ·exact Lw ⟨rfl,rfl,rfl,rfl,trivial⟩
  intro s13 d14 h15 hb12
  refine Rg (S rfl (Nx (TC.seq (Ys rfl h15 (fun hc16 h15=>?_) (fun hc16 h15=>?_)))))
  ·refine ExX (Qm h15 ?_)
   obtain rfl:=hb12 _ (Oi h15).symm
   exact bloE (Qp rfl (Lw trivial))
  refine SkN (TC.seq (TC.block (Rg (S rfl (S rfl (Nx (Rg (S rfl (S rfl (S rfl (Bd h15 fun x17 hx17 h15=>Ix hx17 hu hs rfl ?_)))))))))))
  refine QC (x:=el x17) rfl rfl rfl (hld _ _ _ x17 rfl rfl) ?_
  refine Bd h15 fun r18 hr18 h15=>?_
  refine Pw rfl (Qg4 (f:=fc) (x:=.tmp 11) (xs:=[.tmp 15]) (vf:=[]) (vc:=caps) (args:=el x17::caps) hca rfl rfl rfl rfl) (hcl x17 r18 hr18) rfl rfl rfl (Nat.le_refl _) ?_
  refine Nx (Cn rfl h15 (fun hc19 h15=>?_) (fun hc19 h15=>?_))
  ·refine Rg (S rfl (S rfl (Nx (TC.ret (bloR (seqR (Qx h15 ?_)))))))
   obtain rfl:=hb12 _ (Oi h15).symm
   refine bloR (Qq (seqR ?_))
   obtain rfl:=Oi h
   exact R1 4 hR (Lw ⟨rfl,trivial⟩)
  exact TC.skip (bloN (Qla (TC.region (S rfl (S rfl (WO.nil (Qj h15 (Lw ⟨rfl,rfl,rfl,rfl,trivial⟩))))))))
 subst hbe
 refine Qla (TC.le hle (Rg (S rfl (Nx (TC.ret ?_)))))
 obtain rfl:=Oi h
 exact R1 4 hR (Lw ⟨rfl,trivial⟩)
end Go.Sw
namespace Go.Sw
inductive Kf where
 |seq (c:Code)
 |blo (id:Nat)
 |unr (c:Code)
inductive Cf where
 |code (c:Code)
 |ops (all:Array Oper) (l:List Oper)
 |out (x:AEx)
def kq(P:Program)(h0 N:Nat):List Kf->QI->QI
 |[],Q=>Q
 |.seq c::k,Q=>Seq P h0 N c (kq P h0 N k Q)
 |.blo id::k,Q=>Blo id (kq P h0 N k Q)
 |.unr c::k,Q=>Qi8 P h0 N c (kq P h0 N k Q)
@[reducible] def Hd(P:Program)(h0 N:Nat):Cf->List Kf->Env->Qd->QI->Prop
 |.code c,k,env,H,Q=>TC P h0 N c env H (kq P h0 N k Q)
 |.ops all l,k,env,H,Q=>WO P h0 N all l env H (kq P h0 N k Q)
 |.out x,k,env,H,Q=>kq P h0 N k Q x env H
def Qk2(T:TyX)(h0 N:Nat):Cf->List Kf->Env->Qd->Option (Cf×List Kf×Env×Qd)
 |.code (.seq a b),k,env,H=>some (.code a,.seq b::k,env,H)
 |.code (.block id c),k,env,H=>some (.code c,.blo id::k,env,H)
 |.code (.loop c),k,env,H=>some (.code c,.unr c::k,env,H)
 |.code .skip,k,env,H=>some (.out .normal,k,env,H)
 |.code .ret,k,env,H=>some (.out .ret,k,env,H)
 |.code (.exit id),k,env,H=>some (.out (.exit id),k,env,H)
 |.code (.region id ⟨l⟩ false),k,env,H=>some (.ops ⟨l⟩ l,k,env,H)
 |.code (.cond x a b),k,env,H=>match opB env x with
  |.mk (.bool true)=>some (.code a,k,env,H)
  |.mk (.bool false)=>some (.code b,k,env,H)
  |_=>none
 |.ops all [],k,env,H=>some (.out .normal,k,env,H)
 |.ops all (o::l),k,env,H=>match stX T h0 N all o env H with
  |some (env',H')=>some (.ops all l,k,env',H')
  |none=>none
 |.out .normal,.seq c::k,env,H=>some (.code c,k,env,H)
 |.out (.exit i),.seq _::k,env,H=>some (.out (.exit i),k,env,H)
 |.out .ret,.seq _::k,env,H=>some (.out .ret,k,env,H)
 |.out .normal,.blo _::k,env,H=>some (.out .normal,k,env,H)
 |.out (.exit i),.blo id::k,env,H=>match Nat.beq i id with
  |true=>some (.out .normal,k,env,H)
  |false=>some (.out (.exit i),k,env,H)
 |.out .ret,.blo _::k,env,H=>some (.out .ret,k,env,H)
 |.out .normal,.unr c::k,env,H=>some (.code c,.unr c::k,env,H)
 |.out (.exit i),.unr _::k,env,H=>some (.out (.exit i),k,env,H)
 |.out .ret,.unr _::k,env,H=>some (.out .ret,k,env,H)
 |_,_,_,_=>none
def Qit(T:TyX)(h0 N:Nat):Nat->Cf->List Kf->Env->Qd->Option (Cf×List Kf×Env×Qd)
 |0,c,k,env,H=>some (c,k,env,H)
 |n+1,c,k,env,H=>match Qk2 T h0 N c k env H with
  |some (c',k',env',H')=>Qit T h0 N n c' k' env' H'
  |none=>none
section
variable {P:Program}{T:TyX}{h0 N:Nat}{Q:QI}
theorem Qk1(hT:Qd1 P T){c c':Cf}{k k':List Kf}{env env':Env}{H H':Qd}(h:Qk2 T h0 N c k env H=some (c',k',env',H'))(g:Hd P h0 N c' k' env' H' Q):Hd P h0 N c k env H Q:=by
 unfold Qk2 at h
 split at h
 ·cases h;exact TC.seq g
 ·cases h;exact TC.block g
 ·cases h;exact QkF g
 ·cases h;exact TC.skip g
 ·cases h;exact TC.ret g
 ·cases h;exact TC.exit g
 ·cases h;exact TC.region g
 ·split at h
  ·rename_i q;cases h;exact Qms (QH q) rfl g
  ·rename_i q;cases h;exact Qmt (QH q) rfl g
  ·cases h
 ·cases h;exact WO.nil g
 ·split at h
  ·rename_i q;cases h;exact Qno hT q g
  ·cases h
 ·cases h;exact Qla g
 ·cases h;exact seqX g
 ·cases h;exact seqR g
 ·cases h;exact bloN g
 ·split at h
  ·rename_i q;cases h;have:=Nat.eq_of_beq_eq_true q;subst this;exact bloE g
  ·rename_i q;cases h;exact bloX q g
 ·cases h;exact bloR g
 ·cases h;exact unrN g
 ·cases h;exact unrX g
 ·cases h;exact unrR g
 ·cases h
theorem QcB(hT:Qd1 P T):∀(n:Nat) {c c':Cf}{k k':List Kf}{env env':Env}{H H':Qd},Qit T h0 N n c k env H=some (c',k',env',H')->Hd P h0 N c' k' env' H' Q->Hd P h0 N c k env H Q
 |0,c,c',k,k',env,env',H,H',h,g=>by cases h;exact g
 |n+1,c,c',k,k',env,env',H,H',h,g=>by
  unfold Qit at h
  split at h
  ·rename_i e;exact Qk1 hT e (QcB hT n h g)
  ·cases h
theorem Qjo{env:Env}{s:Nat}{a:A}(h:lk env s=a):∀t,lk (up env s a) t=lk env t:=by
 intro t
 simp only[up,lk]
 cases q:Nat.beq t s with
 |true=>have:=Nat.eq_of_beq_eq_true q;subst this;exact h.symm
 |false=>rfl
theorem Is{α:Type}{all:Array Oper}{l:List Oper}{env:Env}{H:Qd}{b:Bool}{x y:Option α}{r:α}(s:Nat)(h:(bif b then x else y)=some r)(hs:lkB env s=.mk (.bool b))
  (t:b=true->x=some r->WO P h0 N all l (up env s (.bool true)) H Q)(e:b=false->y=some r->WO P h0 N all l (up env s (.bool false)) H Q):WO P h0 N all l env H Q:=by
 have hl:=QiC hs
 cases b with
 |true=>exact WO.le (Le.env fun t=>.inr (Qjo hl t)) (t rfl h)
 |false=>exact WO.le (Le.env fun t=>.inr (Qjo hl t)) (e rfl h)
theorem Ct3E{S B1:Type}{A B C:Code}{env:Env}{H:Qd}{k:List Kf}{b:Ctl S B1}(Eb:S->Env)(Hb:S->Qd)(h:TC P h0 N A env H (kq P h0 N [.seq B] (Qgg h0 b Eb Hb (kq P h0 N (.seq C::k) Q))))(g:∀s env H,b=.cont s->Le h0 env H (Eb s) (Hb s)->kq P h0 N (.seq C::k) Q .normal env H):TC P h0 N (.seq A (.seq B C)) env H (kq P h0 N k Q):=
 Qmr Eb Hb h g
end
def dstN(o:Oper)(i:Nat):Nat:=match o.dst with|some d=>d|none=>1000000+i
def QcY:Nat->Nat->List Oper->List Nat
 |0,_,_=>[]
 |_+1,_,[]=>[]
 |m+1,i,o::l=>dstN o i::QcY m (i+1) l
def YL(af:List Nat):Nat->List Nat->List A->Env->Env
 |j,d::ds,x::xs,e=>(d,bif Qdq af j then x else .any)::YL af (j+1) ds xs e
 |j,d::ds,[],e=>(d,.any)::YL af (j+1) ds [] e
 |_,[],_,e=>e
theorem Qfy{l:List Nat}{t:Nat}:Qdq l t=l.contains t:=by
 induction l with
 |nil=>rfl
 |cons a r ih=>
  unfold Qdq
  rw[List.contains_cons,ih]
  cases q:Nat.beq a t with
  |true=>have:=Nat.eq_of_beq_eq_true q;subst this;simp
  |false=>
   have hne:t≠a:=fun z=>by subst z;rw[Nat.beq_refl]at q;cases q
   simp[hne]
theorem QjO{af:List Nat}{env0:Env}{s:Nat}:∀(ds:List Nat) (xs ys:List A) (b:Nat),
  (∃(j:Nat) (x:A),af.contains (b+j)=true/\ds[j]?=some s/\(xs++ys)[j]?=some x/\lk (YL af b ds xs env0) s=x)\/lk (YL af b ds xs env0) s=.any\/(ds.contains s=false/\lk (YL af b ds xs env0) s=lk env0 s):=by
 intro ds
 induction ds with
 |nil=>intro xs ys b;right;right;exact⟨rfl,by cases xs<;>rfl⟩
 |cons d ds ih=>
  intro xs ys b
  have next:∀(xs':List A),(∃(j:Nat) (x:A),af.contains (b+1+j)=true/\ds[j]?=some s/\(xs'++ys)[j]?=some x/\lk (YL af (b+1) ds xs' env0) s=x)->∀x0,(∃(j:Nat) (x:A),af.contains (b+j)=true/\(d::ds)[j]?=some s/\(x0::xs'++ys)[j]?=some x/\lk (YL af (b+1) ds xs' env0) s=x):=by
   rintro xs' ⟨j,x,h1,h2,h3,h4⟩ x0
   exact⟨j+1,x,by rw[show b+(j+1)=b+1+j by omega];exact h1,by simpa using h2,by simpa using h3,h4⟩
  cases xs with
  |nil=>
   cases q:Nat.beq s d with
   |true=>right;left;simp only[YL,lk,q,cond_true]
   |false=>
    have hne:s≠d:=fun z=>by subst z;rw[Nat.beq_refl]at q;cases q
    simp only[YL,lk,q,cond_false]
    rcases ih [] [] (b+1)with⟨j,x,h1,h2,h3,h4⟩|h|⟨h1,h2⟩
    ·simp at h3
    ·exact .inr (.inl h)
    ·exact .inr (.inr ⟨by rw[List.contains_cons,h1];simpa using hne,h2⟩)
  |cons x xs=>
   cases q:Nat.beq s d with
   |true=>
    have:=Nat.eq_of_beq_eq_true q
    subst this
    simp only[YL,lk,q,cond_true]
    cases c:Qdq af b with
    |true=>left;exact⟨0,x,by rw[<- Qfy];exact c,rfl,rfl,rfl⟩
    |false=>right;left;rfl
   |false=>
    have hne:s≠d:=fun z=>by subst z;rw[Nat.beq_refl]at q;cases q
    simp only[YL,lk,q,cond_false]
    rcases ih xs ys (b+1)with h|h|⟨h1,h2⟩
    ·exact .inl (next xs h x)
    ·exact .inr (.inl h)
    ·exact .inr (.inr ⟨by rw[List.contains_cons,h1];simpa using hne,h2⟩)
section
variable {P:Program}{T:TyX}{h0 N m:Nat}{l:List Oper}{ds:List Nat}{env:Env}{H:Qd}{Q:QI}{K:List Oper->Env->Qd->Prop}
def DS(P:Program)(N m:Nat)(l:List Oper)(ds:List Nat)(env:Env)(H:Qd)(K:List Oper->Env->Qd->Prop)(r:List Oper)(xs:List A):Prop:=
 r=l.drop xs.length->∃ys,xs.length+ys.length=m/\(∀j,xs.length<=j->j<m->Qai P N l ds (xs++ys) env H.length H.length j H H)/\K (l.drop m) (QaU ds (xs++ys) env) H
theorem oqOf{xs:List A}:∀(c i:Nat),(∀j,i<=j->j<i+c->Qai P N l ds xs env H.length H.length j H H)->Oq P N l ds xs env H i c
 |0,i,_=>.n
 |c+1,i,h=>.c (h i (Nat.le_refl _) (by omega)) (oqOf c (i+1) fun j h1 h2=>h j (by omega) (by omega))
theorem QmF{id:Nat}{k:List Kf}(m:Nat)(hm:P.follows .mixedOrders=true)(hc:Go.Sw.draw0 l m N (QcY m 0 l)=true)(h0B:Nat.ble h0 H.length=true)
  (h:DS P N m l (QcY m 0 l) env H (fun r e H=>WO P h0 N l.toArray r e H Q) l []):TC P h0 N (.region id l.toArray true) env H Q:=by
 obtain⟨ys,h1,h2,h3⟩:=h rfl
 simp only[List.length_nil,Nat.zero_add,List.nil_append]at h1 h2 h3
 exact TC.draw0 m _ ys hm hc (by rw[h1];exact Nat.beq_refl m) h0B (oqOf m 0 fun j _ q=>h2 j (Nat.zero_le _) (by omega)) h3
theorem DS.done{xs:List A}{r:List Oper}(hx:Nat.beq xs.length m=true)(h:K r (QaU ds xs env) H):DS P N m l ds env H K r xs:=by
 intro hr
 have e:=Nat.eq_of_beq_eq_true hx
 subst hr
 refine⟨[],by simpa using e,fun j q1 q2=>by omega,?_⟩
 rw[<- e,List.append_nil];exact h
theorem DS.add{xs:List A}{o:Oper}{r:List Oper}{x:A}(hx:Nat.blt xs.length m=true)(hb:∀ys,l[xs.length]?=some o->Qai P N l ds (xs++x::ys) env H.length H.length xs.length H H)(k:DS P N m l ds env H K r (xs++[x])):DS P N m l ds env H K (o::r) xs:=by
 intro hr
 have hlt:xs.length<l.length:=by
  rcases Nat.lt_or_ge xs.length l.length with q|q
  ·exact q
  ·rw[List.drop_eq_nil_of_le q]at hr;cases hr
 rw[List.drop_eq_getElem_cons hlt]at hr
 cases hr
 obtain⟨ys,h1,h2,h3⟩:=k (by simp)
 simp only[List.length_append,List.length_cons,List.length_nil,List.append_assoc,List.cons_append,List.nil_append]at h1 h2 h3
 refine⟨x::ys,by simp only[List.length_cons];omega,fun j q1 q2=>?_,h3⟩
 rcases Nat.lt_or_ge xs.length j with q|q
 ·exact h2 j (by omega) q2
 ·obtain rfl:j=xs.length:=by omega
  exact hb ys (List.getElem?_eq_getElem hlt)
theorem QhE{xs ys:List A}{x:A}:(xs++x::ys)[xs.length]?=some x:=by simp
theorem DS.wo{xs:List A}{o:Oper}{r:List Oper}{x:A}{d:Nat}(h:WO P H.length N l.toArray [o] (YL (Qk o) 0 ds xs env) H (Qab (up (YL (Qk o) 0 ds xs env) d x) H))(k:DS P N m l ds env H K r (xs++[x]))
  (hd:o.dst=some d:=by exact rfl)(hx:Nat.blt xs.length m=true:=by exact rfl):DS P N m l ds env H K (o::r) xs:=
 .add hx (fun ys ho=>.woE o _ d x ho hd QhE (he:=by
  intro s
  rcases QjO (af:=Qk o) (env0:=env) (s:=s) ds xs (x::ys) 0 with⟨j,y,q1,q2,q3,q4⟩|q|q
  ·rw[Nat.zero_add]at q1;exact .inl ⟨j,y,q1,q2,q3,q4⟩
  ·exact .inr (.inl q)
  ·exact .inr (.inr q)) (hdd:=QdY H) (h:=h)) k
theorem DS.v{xs:List A}{o:Oper}{r:List Oper}{x:A}{d:Nat}(h:OpV P o (YL (Qk o) 0 ds xs env) H x)(k:DS P N m l ds env H K r (xs++[x]))(hg:Qz l.toArray o (YL (Qk o) 0 ds xs env) true:=by exact rfl)
  (hd:o.dst=some d:=by exact rfl)(hN:Nat.blt d N=true:=by exact rfl)(hx:Nat.blt xs.length m=true:=by exact rfl):DS P N m l ds env H K (o::r) xs:=
 .wo (QC hg hd hN h (WO.nil Qab.mk)) k hd hx
def Qfk:List A->A->FL
 |[],x=>.mk [x]
 |a::r,x=>match Qfk r x with
  |.mk r'=>.mk (a::r')
theorem Qaw:∀(l:List A) (x:A),Qfk l x=.mk (l++[x])
 |[],x=>rfl
 |a::r,x=>by unfold Qfk;rw[Qaw r];rfl
def Qhj(T:TyX)(N m:Nat)(l:List Oper)(ds:List Nat)(env:Env)(H:Qd):Nat->Nat->List Oper->List A->Option (List Oper×List A)
 |0,_,r,xs=>some (r,xs)
 |_+1,_,[],_=>none
 |n+1,i,o::r,xs=>match Nat.blt i m with
  |false=>none
  |true=>match o.dst with
   |none=>none
   |some d=>match Nat.blt d N with
    |false=>none
    |true=>match Y9 ⟨l⟩ o (YL (Qk o) 0 ds xs env)with
     |none=>none
     |some false=>match Qfk xs (.tup [])with
      |.mk xs'=>Qhj T N m l ds env H n (i+1) r xs'
     |some true=>match Qfw T o (YL (Qk o) 0 ds xs env) H with
      |none=>none
      |some x=>match Qfk xs x with
       |.mk xs'=>Qhj T N m l ds env H n (i+1) r xs'
theorem QeB(hT:Qd1 P T):∀(n i:Nat) {r r':List Oper}{xs xs':List A},i=xs.length->Qhj T N m l ds env H n i r xs=some (r',xs')->DS P N m l ds env H K r' xs'->DS P N m l ds env H K r xs
 |0,i,r,r',xs,xs',_,h,k=>by cases h;exact k
 |n+1,i,[],r',xs,xs',_,h,k=>by cases h
 |n+1,i,o::r,r',xs,xs',hi,h,k=>by
  subst hi
  unfold Qhj at h
  split at h
  ·cases h
  ·rename_i q1
   split at h
   ·cases h
   ·rename_i d hd
    split at h
    ·cases h
    ·rename_i q2
     split at h
     ·cases h
     ·rename_i hw
      simp only[Qaw]at h
      exact .wo (WO.skip (Q8 hw) hd q2 (WO.nil Qab.mk)) (QeB hT n _ (by simp) h k) hd q1
     ·rename_i hw
      split at h
      ·cases h
      ·rename_i x hv
       simp only[Qaw]at h
       exact .v (QbQ hT hv) (QeB hT n _ (by simp) h k) (Q8 hw) hd q2 q1
def Qk9:List A->Nat->A->FL
 |[],_,_=>.mk []
 |_::r,0,x=>.mk (x::r)
 |a::r,n+1,x=>match Qk9 r n x with
  |.mk r'=>.mk (a::r')
theorem Qdl:∀{l:List A}{n:Nat}{x:A},Jt l n=some x->Qk9 l n x=.mk l
 |[],n,x,h=>by cases h
 |a::r,0,x,h=>by cases h;rfl
 |a::r,n+1,x,h=>by unfold Qk9;rw[Qdl (l:=r) (n:=n) h]
theorem Qdg{α:Type}{b:Bool}{x y:Option α}{v:α}{xs xt xf:List A}{r:List Oper}(j:Nat)(h:(bif b then x else y)=some v)(hs:Jt xs j=some (.bool b))(ht:Qk9 xs j (.bool true)=.mk xt)(hf:Qk9 xs j (.bool false)=.mk xf)
  (t:b=true->x=some v->DS P N m l ds env H K r xt)(e:b=false->y=some v->DS P N m l ds env H K r xf):DS P N m l ds env H K r xs:=by
 cases b with
 |true=>rw[Qdl hs]at ht;cases ht;exact t rfl h
 |false=>rw[Qdl hs]at hf;cases hf;exact e rfl h
end
end Go.Sw
namespace Go.Sw
@[reducible] def RQ{β:Type}(w:β->A)(Hc:β->Qd)(r:β):A->Qd->Prop:=fun a H=>a=w r/\H=Hc r
@[reducible] def Csm{β:Type}(P:Program)(f:FuncId)(args:List A)(H:Qd)(w:β->A)(r:β):Prop:=C P f args H (RQ w (fun _=>H) r)
structure TyZ where
 sl:List (Nat×Nat×Nat)
 fn:List Nat
structure Qc2 (P:Program) (Z:TyZ):Prop where
 sl:∀e∈Z.sl,(∀w,(underlying e.1).run P w=.ok (.slice e.2.1) w)/\ ∀w,(sizeOf e.2.1).run P w=.ok e.2.2 w
 fn:∀f∈Z.fn,∀(a:Array Value) (w:World),(callFunc f a).run P w=.ok (.enter f a) w
section
variable {P:Program}{Z:TyZ}{h0 N:Nat}{all:Array Oper}{o:Oper}{l:List Oper}{env:Env}{H:Qd}{Q:QI}{d:Nat}
theorem Izz(hZ:Qc2 P Z){α:Type}{e:α->List A}{t et k:Nat}{L:List α}{kk:IntKind}{i:Int}{v:α}(h:idx L i=some v)(q:ixB o env=some (d,t,k,L.map e,kk,i))(g:WO P h0 N all l (up env d (.rp (e v))) H Q)
  (ht:Qb6 Z.sl t=some (et,k))(hg:Y9 all o env=some true)(hN:Nat.blt d N=true):WO P h0 N all (o::l) env H Q:=by
 obtain⟨h1,h2⟩:=hZ.sl _ (Qar ht)
 exact Ix h h1 h2 q g (Q8 hg) hN
theorem Ize(hZ:Qc2 P Z){α:Type}{e:α->List A}{t et k:Nat}{L:List α}{kk:IntKind}{i:Int}{v:α}{cs:List A}(h:idx L i=some v)(he:e v=cs)(q:ixB o env=some (d,t,k,L.map e,kk,i))(g:WO P h0 N all l (up env d (.rp cs)) H Q)
  (ht:Qb6 Z.sl t=some (et,k))(hg:Y9 all o env=some true)(hN:Nat.blt d N=true):WO P h0 N all (o::l) env H Q:=by
 subst he;exact Izz hZ h q g ht hg hN
theorem Lmz(hZ:Qc2 P Z){α:Type}{e:α->List A}{t et k k':Nat}{L:List α}(q:lnB o env=some (d,t,.mk (.rsl k (L.map e))))(g:WO P h0 N all l (up env d (.int .i64 L.length)) H Q)
  (ht:Qb6 Z.sl t=some (et,k'))(hg:Y9 all o env=some true)(hN:Nat.blt d N=true):WO P h0 N all (o::l) env H Q:=by
 obtain⟨h1,h2⟩:=hZ.sl _ (Qar ht)
 exact LnM h1 q g (Q8 hg) hN
def QfE(Z:TyZ)(o:Oper)(env:Env):Option (Nat×Nat×List A):=
 match o.dst with
 |none=>none
 |some d=>match o.op with
  |.call {callee:=.value (.func f),args:=⟨xs⟩,argTypes:=_}=>bif Qdq Z.fn f then(match fl (Qhx env xs)with|.mk ax=>some (d,f,ax))else none
  |.call {callee:=.value (.tmp x),args:=⟨xs⟩,argTypes:=_}=>match opB env (.tmp x)with
   |.mk (.fn (.func f) vf vc)=>bif Qdq Z.fn f then(match fl (vf++(Qhx env xs++vc))with|.mk ax=>some (d,f,ax))else none
   |_=>none
  |_=>none
theorem Qen(hZ:Qc2 P Z){f:Nat}{args:List A}(h:QfE Z o env=some (d,f,args)):o.dst=some d/\OpC P o env H f args:=by
 unfold QfE at h
 split at h
 ·cases h
 ·rename_i d' hd
  split at h
  ·rename_i f' xs ts ho
   cases q:Qdq Z.fn f' with
   |false=>rw[q]at h;cases h
   |true=>
    rw[q]at h
    simp only[Qcc,cond_true]at h
    cases h
    exact⟨hd,OpC.fn (xs:=xs) (hZ.fn _ (Qgy q)) ho rfl (QcQ xs).symm⟩
  ·rename_i x xs ts ho
   split at h
   ·rename_i f' vf vc hx
    cases q:Qdq Z.fn f' with
    |false=>rw[q]at h;cases h
    |true=>
     rw[q]at h
     simp only[Qcc,cond_true]at h
     cases h
     exact⟨hd,Qg4 (xs:=xs) (hZ.fn _ (Qgy q)) ho rfl (QH hx) (by rw[QcQ])⟩
   ·cases h
  ·cases h
theorem Czz(hZ:Qc2 P Z){β γ:Type}{F:Option β}{F':β->Option γ}{r:γ}{f:Nat}{args argsc:List A}{Hc:Qd}{w:β->A}(π:List Nat)(h:F.bind F'=some r)(hC:∀v,F=some v->C P f argsc Hc (RQ w (fun _=>Hc) v))
  (hop:QfE Z o env=some (d,f,args))(g:∀v,F=some v->F' v=some r->WO P h0 N all l (up env d (w v)) H Q)(hv:∀v,Qir (w v)=some (.mk (w v)))
  (hargs:args=Qad (rho π H.length) argsc)(hH:π.map (fun p=>H[p]?)=(Hc.map (Yc (rho π H.length))).map some)(hπ:π.Nodup)(hg:Y9 all o env=some true)(hN:Nat.blt d N=true)(hh:Nat.ble h0 H.length=true):WO P h0 N all (o::l) env H Q:=by
 obtain⟨v,h1,h2⟩:=Y3 h
 obtain⟨q1,q2⟩:=Qen (H:=H) hZ hop
 exact Pc π q1 q2 (hC v h1) (hv v) (g v h1 h2) hargs hH hπ (Q8 hg) hN hh
theorem DzZ(hZ:Qc2 P Z){K:List Oper->Env->Qd->Prop}{m:Nat}{ll:List Oper}{ds:List Nat}{xs:List A}{β γ:Type}{F:Option β}{F':β->Option γ}{r:γ}{f:Nat}{args argsc:List A}{Hc:Qd}{w:β->A}(π:List Nat)(h:F.bind F'=some r)(hC:∀v,F=some v->C P f argsc Hc (RQ w (fun _=>Hc) v))
  (hop:QfE Z o (YL (Qk o) 0 ds xs env)=some (d,f,args))(g:∀v,F=some v->F' v=some r->DS P N m ll ds env H K l (xs++[w v]))(hv:∀v,Qir (w v)=some (.mk (w v)))
  (hargs:args=Qad (rho π H.length) argsc)(hH:π.map (fun p=>H[p]?)=(Hc.map (Yc (rho π H.length))).map some)(hπ:π.Nodup)(hg:Y9 ll.toArray o (YL (Qk o) 0 ds xs env)=some true)(hN:Nat.blt d N=true)(hx:Nat.blt xs.length m=true):DS P N m ll ds env H K (o::l) xs:=by
 obtain⟨v,h1,h2⟩:=Y3 h
 obtain⟨q1,q2⟩:=Qen (H:=H) hZ hop
 exact .wo (Pc π q1 q2 (hC v h1) (hv v) (WO.nil Qab.mk) hargs hH hπ (Q8 hg) hN (Nat.ble_eq_true_of_le (Nat.le_refl _))) (g v h1 h2) q1 hx
theorem ln:Qbi H [] []:=trivial
theorem ls{ax bs:List A}{a:A}(k:Qbi H ax bs)(h:YM a=true:=by exact rfl):Qbi H (a::ax) (a::bs):=⟨.inl ⟨rfl,h⟩,k⟩
theorem lo{ax bs:List A}{i n k t:Nat}{es:List (List A)}(k':Qbi H ax bs)(hH:H[i]?=some (.row t k es):=by exact rfl)(hn:es.length=n:=by exact List.length_map ..):Qbi H (.osl i 0 n k::ax) (.rsl k es::bs):=
 ⟨.inr ⟨_,_,_,_,_,rfl,hH,hn,rfl⟩,k'⟩
theorem Cbz(hZ:Qc2 P Z){β γ:Type}{F:Option β}{F':β->Option γ}{r:γ}{f:Nat}{args argsc:List A}{w:β->A}(h:F.bind F'=some r)(hC:∀v,F=some v->C P f argsc [] (RQ w (fun _=>[]) v))
  (hop:QfE Z o env=some (d,f,args))(hL:Qbi H args argsc)(g:∀v,F=some v->F' v=some r->WO P h0 N all l (up env d (w v)) H Q)(hv:∀v,Yk (w v)=true)
  (hg:Y9 all o env=some true)(hN:Nat.blt d N=true):WO P h0 N all (o::l) env H Q:=by
 obtain⟨v,h1,h2⟩:=Y3 h
 obtain⟨q1,q2⟩:=Qen (H:=H) hZ hop
 refine QbK q2 hL (hC v h1) ?_ ?_ (Q8 hg) q1 hN
 ·rintro _ _ ⟨rfl,rfl⟩;exact hv v
 ·rintro _ _ ⟨rfl,rfl⟩;exact g v h1 h2
end
def ixL:List Nat:=[0,1,2,3,4,5,6,7,8,9,10,11,12,13,14,15,16,17,18,19,20,21,22,23,24,25,26,27,28,29,30,31,32,33,34,35,36,37,38,39,40,41,42,43,44,45,46,47,48,49,50,51,52,53,54,55,56,57,58,59,60,61,62,63]
def Qj9:List Nat->List Nat->Nat->FN
 |a::r,b::s,j=>bif Nat.beq a j then .mk b else Qj9 r s j
 |_,_,j=>.mk j
mutual
def cpA(sel:List Nat):A->Bx
 |.ptr i off=>match Qj9 sel ixL i with
  |.mk j=>.mk (.ptr j off)
 |.osl i o n k=>match Qj9 sel ixL i with
  |.mk j=>.mk (.osl j o n k)
 |.map i=>match Qj9 sel ixL i with
  |.mk j=>.mk (.map j)
 |.fn f a c=>match cpL sel a,cpL sel c with
  |.mk a',.mk c'=>.mk (.fn f a' c')
 |a=>.mk a
def cpL(sel:List Nat):List A->FL
 |[]=>.mk []
 |a::r=>match cpA sel a,cpL sel r with
  |.mk a',.mk r'=>.mk (a'::r')
end
inductive FV where
 |mk (e:Env)
def QlC(sel:List Nat)(env:Env):List Nat->Env->FV
 |[],nE=>.mk nE
 |s::r,nE=>match lkB env s with
  |.mk a=>match cpA sel a,QlC sel env r nE with
   |.mk a',.mk e=>.mk ((s,a')::e)
def selH(H:Qd):List Nat->List Nat->List (Nat×Blk)->FB
 |a::r,p::ps,[]=>match Jt H a,selH H r ps []with
  |some b,.mk l=>.mk (b::l)
  |none,.mk l=>.mk l
 |a::r,p::ps,(q,b)::n=>bif Nat.beq p q then(match selH H r ps n with|.mk l=>.mk (b::l))else(match Jt H a,selH H r ps ((q,b)::n)with
  |some b,.mk l=>.mk (b::l)
  |none,.mk l=>.mk l)
 |_,_,_=>.mk []
def cutC(sel keep:List Nat)(nE:Env)(nH:List (Nat×Blk))(env:Env)(H:Qd):Option (Env×Qd):=
 match QlC sel env keep nE,selH H sel ixL nH with
 |.mk e,.mk h=>some (e,h)
section
variable {P:Program}{h0 N:Nat}{c:Code}{env:Env}{H:Qd}{Q:QI}
def CutQ{β:Type}(h0:Nat)(b:β)(E':β->Env)(H':β->Qd)(Q:QI):QI
 |.normal,env,H=>Le h0 env H (E' b) (H' b)
 |.exit id,env,H=>Q (.exit id) env H
 |.ret,env,H=>Q .ret env H
theorem QA{h0:Nat}{env:Env}{H:Qd}{Q:QI}{β:Type}{b:β}{E':β->Env}{H':β->Qd}(h:Le h0 env H (E' b) (H' b)):CutQ h0 b E' H' Q .normal env H:=h
theorem Ct{β:Type}{E':β->Env}{H':β->Qd}(b:β)(sel keep:List Nat)(nE:β->Env)(nH:β->List (Nat×Blk))(_:∀b,cutC sel keep (nE b) (nH b) env H=some (E' b,H' b))(h:TC P h0 N c env H (CutQ h0 b E' H' Q))(k:∀env H,Le h0 env H (E' b) (H' b)->Q .normal env H):TC P h0 N c env H Q:=
 h.mono fun x env' H' q=>by
  cases x with
  |normal=>exact k _ _ q
  |exit id=>exact q
  |ret=>exact q
theorem CtE{S B:Type}{b:Ctl S B}{E':S->Env}{H':S->Qd}(sel keep:List Nat)(nE:S->Env)(nH:S->List (Nat×Blk))(_:∀s,cutC sel keep (nE s) (nH s) env H=some (E' s,H' s))(h:TC P h0 N c env H (Qgg h0 b E' H' Q))(k:∀s env H,b=.cont s->Le h0 env H (E' s) (H' s)->Q .normal env H):TC P h0 N c env H Q:=Qg0 E' H' h k
theorem Lp{S B:Type}{step:S->Option (Ctl S B)}{E':S->Env}{H':S->Qd}{m:Nat}{s0:S}{b0:B}(sel keep:List Nat)(nE:S->Env)(nH:S->List (Nat×Blk))(h:iter step m s0=some b0)(_:∀s,cutC sel keep (nE s) (nH s) env H=some (E' s,H' s))(hI:Le h0 env H (E' s0) (H' s0))
  (body:∀s d,step s=some d->(∀b,d=.done b->b=b0)->TC P h0 N c (E' s) (H' s) (Qbh (fun s env H=>Le h0 env H (E' s) (H' s)) d Q)):TC P h0 N (.loop c) env H Q:=TC.loop E' H' h hI body
end
theorem Oj{S B:Type}{d:Ctl S B}{x b0:B}(hb:∀b,d=.done b->b=b0)(h:some (Ctl.done x)=some d):x=b0:=hb x (Oi h).symm
theorem Rt{P:Program}{h0:Nat}{fn:Func}{env:Env}{H:Qd}{β:Type}{e r:β}{w:β->A}{Hc:β->Qd}(h:some e=some r)(s:Nat)(π:List Nat)(hr:fn.results= #[.tmp s]:=by exact rfl)(hpre:π.take h0=List.range h0:=by exact rfl)
  (hH:π.map (fun p=>H[p]?)=((Hc e).map (Yc (rho π H.length))).map some:=by exact rfl)(hπ:π.Nodup:=by decide)(hE:Qfv (rho π H.length) env [(s,w e)]:=by exact⟨rfl,trivial⟩):Qc6 P h0 fn (RQ w Hc r) .ret env H:=by
 cases h
 exact R1 s hr (Lr π hpre hH hπ hE)
theorem Cl{h0:Nat}{env:Env}{H:Qd}{Q:QI}{β:Type}{e b:β}{E':β->Env}{H':β->Qd}(h:some e=some b)(π:List Nat)(hpre:π.take h0=List.range h0:=by exact rfl)
  (hH:π.map (fun p=>H[p]?)=((H' e).map (Yc (rho π H.length))).map some:=by exact rfl)(hπ:π.Nodup:=by decide)(hE:Qfv (rho π H.length) env (E' e):=by(repeat' (first|exact trivial|refine⟨rfl,?_⟩))):CutQ h0 b E' H' Q .normal env H:=by
 cases h
 exact Lr π hpre hH hπ hE
end Go.Sw
namespace Go.Sw
def plC(cat:List Nat):List (List (Nat×Nat)):=cat.map fun c=>match c with|0=>[(0,0)]|1=>[(0,1)]|2=>[(1,1)]|_=>[(0,0),(1,1)]
def rqC(b:Nat)(cat:List Nat):List (List Nat):=cat.map fun c=>match c with|2=>[b]|_=>[]
def hsC(cat:List Nat):List Bool:=cat.map fun c=>match c with|1=>true|_=>false
section
variable {P:Program}{T:TyX}{h0 N m b:Nat}{cat:List Nat}{l:List Oper}{ds:List Nat}{env:Env}{H H1:Qd}{Q:QI}{K:List Oper->Env->Qd->Prop}
theorem QjX{P:Program}{N:Nat}{l:List Oper}{ds:List Nat}{xs:List A}{env0:Env}{hB hE:Nat}:∀(ss:List (List (Qd×Qd))) (b:Nat),(∀i s,ss[i]?=some s->∀p∈s,Qai P N l ds xs env0 hB hE (b+i) p.1 p.2)->Qic P N l ds xs env0 hB hE b ss
 |[],b,h=>.nil
 |s::ss,b,h=>.cons (h 0 s rfl) (QjX ss (b+1) fun i s' hs=>by rw[show b+1+i=b+(i+1)by omega];exact h (i+1) s' hs)
def Dob(P:Program)(N:Nat)(cat:List Nat)(l:List Oper)(ds:List Nat)(env:Env)(H H1:Qd)(zs:List A)(j:Nat):Prop:=
 ∀p∈(plC cat).getD j [],Qai P N l ds zs env H.length H.length j ([H,H1].getD p.1 []) ([H,H1].getD p.2 [])
def DB(P:Program)(N m:Nat)(cat:List Nat)(l:List Oper)(ds:List Nat)(env:Env)(H H1:Qd)(K:List Oper->Env->Qd->Prop)(r:List Oper)(xs:List A):Prop:=
 r=l.drop xs.length->∃ys,xs.length+ys.length=m/\(∀j,xs.length<=j->j<m->Dob P N cat l ds env H H1 (xs++ys) j)/\K (l.drop m) (QaU ds (xs++ys) env) H1
def DA(P:Program)(N m:Nat)(cat:List Nat)(l:List Oper)(ds:List Nat)(env:Env)(H:Qd)(K:List Oper->Env->Qd->Prop)(r:List Oper)(xs:List A):Prop:=
 r=l.drop xs.length->∃ys H1,xs.length+ys.length=m/\H.length<=H1.length/\(∀j,xs.length<=j->j<m->Dob P N cat l ds env H H1 (xs++ys) j)/\K (l.drop m) (QaU ds (xs++ys) env) H1
theorem Qoa{ys:List A}(hcl':cat.length=m)(h3:∀j,0<=j->j<m->Dob P N cat l ds env H H1 ys j):Qic P N l ds ys env H.length (H.length+0) 0 ((plC cat).map fun q=>q.map fun p=>([H,H1].getD p.1 [],[H,H1].getD p.2 [])):=by
 refine QjX _ 0 fun i s hs p hp=>?_
 rw[List.getElem?_map]at hs
 cases e:(plC cat)[i]? with
 |none=>rw[e]at hs;cases hs
 |some q=>
  rw[e]at hs
  cases hs
  obtain⟨p0,hp0,rfl⟩:=List.mem_map.1 hp
  have hi:i<m:=by
   have:=(List.getElem?_eq_some_iff.1 e).1
   simpa[plC,hcl']using this
  have:=h3 i (Nat.zero_le _) hi p0 (by rw[QlN e];exact hp0)
  simpa using this
theorem DA.len(h2:H.length<=H1.length):[H,H1].all (fun X=>Nat.ble (H.length+0) X.length)=true:=by
 simp only[List.all_cons,List.all_nil,Bool.and_true,Nat.add_zero,Bool.and_eq_true]
 exact⟨Nat.ble_eq_true_of_le (Nat.le_refl _),Nat.ble_eq_true_of_le h2⟩
theorem QmG{id:Nat}(m b:Nat)(cat:List Nat)(hm:P.follows .mixedOrders=true)(hc:Qf7 l m N (QcY m 0 l) (hsC cat) (rqC b cat) [[],[b]] (plC cat)=true)(hcl:Nat.beq cat.length m=true)(h0B:Nat.ble h0 H.length=true)
  (h:DA P N m cat l (QcY m 0 l) env H (fun r e H=>WO P h0 N l.toArray r e H Q) l []):TC P h0 N (.region id l.toArray true) env H Q:=by
 obtain⟨ys,H1,h1,h2,h3,h4⟩:=h rfl
 simp only[List.length_nil,Nat.zero_add,List.nil_append]at h1 h3 h4
 have hcl':=Nat.eq_of_beq_eq_true hcl
 exact QaG m 0 _ _ _ _ _ ys [H,H1] H1 hm hc (by rw[h1];exact Nat.beq_refl m) rfl h0B (DA.len h2) (by simp) rfl (Qoa hcl' h3) (by simp[plC,hcl']) h4
theorem Qdv{xs:List A}{o:Oper}{r:List Oper}(hr:o::r=l.drop xs.length):l[xs.length]?=some o/\r=l.drop (xs.length+1):=by
 have hlt:xs.length<l.length:=by
  rcases Nat.lt_or_ge xs.length l.length with q|q
  ·exact q
  ·rw[List.drop_eq_nil_of_le q]at hr;cases hr
 rw[List.drop_eq_getElem_cons hlt]at hr
 cases hr
 exact⟨List.getElem?_eq_getElem hlt,rfl⟩
theorem Qg8{zs:List A}{j c:Nat}(hc:Jt cat j=some c)(h:∀p∈(match c with|0=>[(0,0)]|1=>[(0,1)]|2=>[(1,1)]|_=>[(0,0),(1,1)]:List (Nat×Nat)),Qai P N l ds zs env H.length H.length j ([H,H1].getD p.1 []) ([H,H1].getD p.2 [])):Dob P N cat l ds env H H1 zs j:=by
 intro p hp
 rw[QaT]at hc
 unfold plC at hp
 rw[List.getD_eq_getElem?_getD,List.getElem?_map,hc]at hp
 exact h p hp
theorem QcM{hB hE:Nat}{xs ys:List A}{o:Oper}{x:A}{d:Nat}{X X':Qd}(ho:l[xs.length]?=some o)(hdd:Qao hB hE X X'=true)(h:WO P X.length N l.toArray [o] (YL (Qk o) 0 ds xs env) X (Qab (up (YL (Qk o) 0 ds xs env) d x) X'))(hd:o.dst=some d):
  Qai P N l ds (xs++x::ys) env hB hE xs.length X X':=
 .woE o _ d x ho hd QhE (he:=by
  intro s
  rcases QjO (af:=Qk o) (env0:=env) (s:=s) ds xs (x::ys) 0 with⟨j,y,q1,q2,q3,q4⟩|q|q
  ·rw[Nat.zero_add]at q1;exact .inl ⟨j,y,q1,q2,q3,q4⟩
  ·exact .inr (.inl q)
  ·exact .inr (.inr q)) (hdd:=hdd) (h:=h)
theorem Qbe{n:Nat}{X X':Qd}:Qao n n X X'=true:=by unfold Qao;rw[Nat.sub_self];rfl
theorem DA.wo{xs:List A}{o:Oper}{r:List Oper}{x:A}{d:Nat}(h:WO P H.length N l.toArray [o] (YL (Qk o) 0 ds xs env) H (Qab (up (YL (Qk o) 0 ds xs env) d x) H))(k:DA P N m cat l ds env H K r (xs++[x]))
  (hc:Jt cat xs.length=some 0:=by exact rfl)(hd:o.dst=some d:=by exact rfl)(hx:Nat.blt xs.length m=true:=by exact rfl):DA P N m cat l ds env H K (o::r) xs:=by
 intro hr
 obtain⟨ho,hr'⟩:=Qdv hr
 obtain⟨ys,H1,h1,h2,h3,h4⟩:=k (by simpa using hr')
 simp only[List.length_append,List.length_cons,List.length_nil,List.append_assoc,List.cons_append,List.nil_append]at h1 h3 h4
 refine⟨x::ys,H1,by simp only[List.length_cons];omega,h2,fun j q1 q2=>?_,h4⟩
 rcases Nat.lt_or_ge xs.length j with q|q
 ·exact h3 j (by omega) q2
 ·obtain rfl:j=xs.length:=by omega
  refine Qg8 hc fun p hp=>?_
  obtain rfl:=List.mem_singleton.1 hp
  exact QcM ho Qbe h hd
theorem DA.op{xs:List A}{o:Oper}{r:List Oper}{x:A}{d:Nat}(h:WO P H.length N l.toArray [o] (YL (Qk o) 0 ds xs env) H (Qab (up (YL (Qk o) 0 ds xs env) d x) H1))(k:DB P N m cat l ds env H H1 K r (xs++[x]))(hl:Nat.ble H.length H1.length=true:=by exact rfl)
  (hc:Jt cat xs.length=some 1:=by exact rfl)(hd:o.dst=some d:=by exact rfl)(hx:Nat.blt xs.length m=true:=by exact rfl):DA P N m cat l ds env H K (o::r) xs:=by
 intro hr
 obtain⟨ho,hr'⟩:=Qdv hr
 obtain⟨ys,h1,h3,h4⟩:=k (by simpa using hr')
 simp only[List.length_append,List.length_cons,List.length_nil,List.append_assoc,List.cons_append,List.nil_append]at h1 h3 h4
 refine⟨x::ys,H1,by simp only[List.length_cons];omega,Nat.le_of_ble_eq_true hl,fun j q1 q2=>?_,h4⟩
 rcases Nat.lt_or_ge xs.length j with q|q
 ·exact h3 j (by omega) q2
 ·obtain rfl:j=xs.length:=by omega
  refine Qg8 hc fun p hp=>?_
  obtain rfl:=List.mem_singleton.1 hp
  exact QcM ho Qbe h hd
theorem QbP{xs:List A}{o:Oper}{r:List Oper}{x x':A}{d:Nat}{H1':Qd}(h:OpH P o (YL (Qk o) 0 ds xs env) H x H1)(hx':foA x=.mk x')(hH':foH H1=.mk H1')(k:DB P N m cat l ds env H H1' K r (xs++[x']))(hd:o.dst=some d:=by exact rfl)(hg:Y9 ⟨l⟩ o (YL (Qk o) 0 ds xs env)=some true:=by exact rfl)(hN:Nat.blt d N=true:=by exact rfl)(hl:Nat.ble H.length H1'.length=true:=by exact rfl)
  (hc:Jt cat xs.length=some 1:=by exact rfl)(hx:Nat.blt xs.length m=true:=by exact rfl):DA P N m cat l ds env H K (o::r) xs:=by
 rw[QgD]at hx'
 rw[QiI]at hH'
 cases hx'
 cases hH'
 exact .op (QaF (Nat.le_refl _) (Q8 hg) hd hN h (WO.nil Qab.mk)) k hl hc hd hx
theorem DB.done{xs:List A}{r:List Oper}(hx:Nat.beq xs.length m=true)(h:K r (QaU ds xs env) H1):DB P N m cat l ds env H H1 K r xs:=by
 intro hr
 have e:=Nat.eq_of_beq_eq_true hx
 subst hr
 refine⟨[],by simpa using e,fun j q1 q2=>by omega,?_⟩
 rw[<- e,List.append_nil];exact h
theorem DB.add{xs:List A}{o:Oper}{r:List Oper}{x:A}(hb:∀ys,l[xs.length]?=some o->Dob P N cat l ds env H H1 (xs++x::ys) xs.length)(k:DB P N m cat l ds env H H1 K r (xs++[x])):DB P N m cat l ds env H H1 K (o::r) xs:=by
 intro hr
 obtain⟨ho,hr'⟩:=Qdv hr
 obtain⟨ys,h1,h3,h4⟩:=k (by simpa using hr')
 simp only[List.length_append,List.length_cons,List.length_nil,List.append_assoc,List.cons_append,List.nil_append]at h1 h3 h4
 refine⟨x::ys,by simp only[List.length_cons];omega,fun j q1 q2=>?_,h4⟩
 rcases Nat.lt_or_ge xs.length j with q|q
 ·exact h3 j (by omega) q2
 ·obtain rfl:j=xs.length:=by omega
  exact hb ys ho
theorem DB.wo1{xs:List A}{o:Oper}{r:List Oper}{x:A}{d:Nat}(h:WO P H1.length N l.toArray [o] (YL (Qk o) 0 ds xs env) H1 (Qab (up (YL (Qk o) 0 ds xs env) d x) H1))(k:DB P N m cat l ds env H H1 K r (xs++[x]))
  (hc:Jt cat xs.length=some 2:=by exact rfl)(hd:o.dst=some d:=by exact rfl):DB P N m cat l ds env H H1 K (o::r) xs:=
 .add (fun ys ho=>Qg8 hc fun p hp=>by
  obtain rfl:=List.mem_singleton.1 hp
  exact QcM ho Qbe h hd) k
theorem DB.wo2{xs:List A}{o:Oper}{r:List Oper}{x:A}{d:Nat}(h:WO P H.length N l.toArray [o] (YL (Qk o) 0 ds xs env) H (Qab (up (YL (Qk o) 0 ds xs env) d x) H))(h1:WO P H1.length N l.toArray [o] (YL (Qk o) 0 ds xs env) H1 (Qab (up (YL (Qk o) 0 ds xs env) d x) H1))(k:DB P N m cat l ds env H H1 K r (xs++[x]))
  (hc:Jt cat xs.length=some 3:=by exact rfl)(hd:o.dst=some d:=by exact rfl):DB P N m cat l ds env H H1 K (o::r) xs:=
 .add (fun ys ho=>Qg8 hc fun p hp=>by
  rcases List.mem_cons.1 hp with rfl|hp
  ·exact QcM ho Qbe h hd
  ·obtain rfl:=List.mem_singleton.1 hp
   exact QcM ho Qbe h1 hd) k
def Qhk(T:TyX)(N m:Nat)(cat:List Nat)(l:List Oper)(ds:List Nat)(env:Env)(H:Qd):Nat->Nat->List Oper->List A->Option (List Oper×List A)
 |0,_,r,xs=>some (r,xs)
 |_+1,_,[],_=>none
 |n+1,i,o::r,xs=>match Nat.blt i m,Jt cat i with
  |true,some 0=>match o.dst with
   |none=>none
   |some d=>match Nat.blt d N with
    |false=>none
    |true=>match Y9 ⟨l⟩ o (YL (Qk o) 0 ds xs env)with
     |none=>none
     |some false=>match Qfk xs (.tup [])with
      |.mk xs'=>Qhk T N m cat l ds env H n (i+1) r xs'
     |some true=>match Qfw T o (YL (Qk o) 0 ds xs env) H with
      |none=>none
      |some x=>match Qfk xs x with
       |.mk xs'=>Qhk T N m cat l ds env H n (i+1) r xs'
  |_,_=>none
theorem QeD(hT:Qd1 P T):∀(n i:Nat) {r r':List Oper}{xs xs':List A},i=xs.length->Qhk T N m cat l ds env H n i r xs=some (r',xs')->DA P N m cat l ds env H K r' xs'->DA P N m cat l ds env H K r xs
 |0,i,r,r',xs,xs',_,h,k=>by cases h;exact k
 |n+1,i,[],r',xs,xs',_,h,k=>by cases h
 |n+1,i,o::r,r',xs,xs',hi,h,k=>by
  subst hi
  unfold Qhk at h
  split at h
  ·rename_i q1 q0
   split at h
   ·cases h
   ·rename_i d hd
    split at h
    ·cases h
    ·rename_i q2
     split at h
     ·cases h
     ·rename_i hw
      simp only[Qaw]at h
      exact .wo (WO.skip (Q8 hw) hd q2 (WO.nil Qab.mk)) (QeD hT n _ (by simp) h k) q0 hd q1
     ·rename_i hw
      split at h
      ·cases h
      ·rename_i x hv
       simp only[Qaw]at h
       exact .wo (QC (Q8 hw) hd q2 (QbQ hT hv) (WO.nil Qab.mk)) (QeD hT n _ (by simp) h k) q0 hd q1
  ·cases h
theorem QmO{H:Qd}{p:Bx}{r:Lx}(h:ptX [] p=some r):ptX H p=some r:=by
 unfold ptX at h⊢
 split at h
 ·exact h
 ·rename_i i off
  simp only[Jt]at h
  cases h
 ·cases h
theorem Qhb{o:Oper}{e:Env}{H:Qd}{x:A}(h:Qfw T o e []=some x):Qfw T o e H=some x:=by
 unfold Qfw at h⊢
 split at h<;>first|exact h|skip
 rename_i t y ho
 split at h
 ·cases h
 ·rename_i b n ht
  split at h
  ·exact h
  ·rename_i hng
   cases q:ptX [] (opB e y)with
   |none=>rw[q]at h;cases h
   |some r=>
    rw[q]at h
    have q':=QmO (H:=H) q
    simp only[q']
    exact h
def QeC(T:TyX)(N:Nat)(cat:List Nat)(l:List Oper)(ds:List Nat)(env:Env)(H1:Qd):Nat->Nat->List Oper->List A->Option (List Oper×List A)
 |0,_,r,xs=>some (r,xs)
 |_+1,_,[],_=>none
 |n+1,i,o::r,xs=>match o.dst with
  |none=>none
  |some d=>match Nat.blt d N with
   |false=>none
   |true=>match Y9 ⟨l⟩ o (YL (Qk o) 0 ds xs env)with
    |none=>none
    |some false=>match Jt cat i with
     |some 2=>(match Qfk xs (.tup [])with
      |.mk xs'=>QeC T N cat l ds env H1 n (i+1) r xs')
     |some 3=>(match Qfk xs (.tup [])with
      |.mk xs'=>QeC T N cat l ds env H1 n (i+1) r xs')
     |_=>none
    |some true=>match Jt cat i with
     |some 2=>(match Qfw T o (YL (Qk o) 0 ds xs env) H1 with
      |none=>none
      |some x=>match Qfk xs x with
       |.mk xs'=>QeC T N cat l ds env H1 n (i+1) r xs')
     |some 3=>(match Qfw T o (YL (Qk o) 0 ds xs env) []with
      |none=>none
      |some x=>match Qfk xs x with
       |.mk xs'=>QeC T N cat l ds env H1 n (i+1) r xs')
     |_=>none
theorem QbA(hT:Qd1 P T):∀(n i:Nat) {r r':List Oper}{xs xs':List A},i=xs.length->QeC T N cat l ds env H1 n i r xs=some (r',xs')->DB P N m cat l ds env H H1 K r' xs'->DB P N m cat l ds env H H1 K r xs
 |0,i,r,r',xs,xs',_,h,k=>by cases h;exact k
 |n+1,i,[],r',xs,xs',_,h,k=>by cases h
 |n+1,i,o::r,r',xs,xs',hi,h,k=>by
  subst hi
  unfold QeC at h
  split at h
  ·cases h
  ·rename_i d hd
   split at h
   ·cases h
   ·rename_i q2
    split at h
    ·cases h
    ·rename_i hw
     split at h
     ·rename_i q0
      simp only[Qaw]at h
      exact .wo1 (WO.skip (Q8 hw) hd q2 (WO.nil Qab.mk)) (QbA hT n _ (by simp) h k) q0 hd
     ·rename_i q0
      simp only[Qaw]at h
      exact .wo2 (WO.skip (Q8 hw) hd q2 (WO.nil Qab.mk)) (WO.skip (Q8 hw) hd q2 (WO.nil Qab.mk)) (QbA hT n _ (by simp) h k) q0 hd
     ·cases h
    ·rename_i hw
     split at h
     ·rename_i q0
      split at h
      ·cases h
      ·rename_i x hv
       simp only[Qaw]at h
       exact .wo1 (QC (Q8 hw) hd q2 (QbQ hT hv) (WO.nil Qab.mk)) (QbA hT n _ (by simp) h k) q0 hd
     ·rename_i q0
      split at h
      ·cases h
      ·rename_i x hv
       simp only[Qaw]at h
       exact .wo2 (QC (Q8 hw) hd q2 (QbQ hT (Qhb hv)) (WO.nil Qab.mk)) (QC (Q8 hw) hd q2 (QbQ hT (Qhb hv)) (WO.nil Qab.mk)) (QbA hT n _ (by simp) h k) q0 hd
     ·cases h
end
end Go.Sw
namespace Go.Sw
def chkF(L:List (Nat×List (Nat×Nat)))(fs:List (Nat×Nat×Nat)):Bool:=
 fs.all fun e=>match Qb6 L e.1 with
  |some pl=>(match Jt pl e.2.1 with
   |some q=>Nat.beq q.1 e.2.2&& !(Nat.beq q.2 0)
   |none=>false)
  |none=>false
theorem PL.get{P:Program}{fs:List Field}{pl:List (Nat×Nat)}(h:PL P fs pl):∀{f off n:Nat},Jt pl f=some (off,n)->∃fd,fs[f]?=some fd/\fd.offset=off/\ ∀w,(sizeOf fd.type).run P w=.ok n w:=by
 induction h with
 |nil=>intro f off n h;cases h
 |cons h k ih=>
  intro f off n hg
  cases f with
  |zero=>cases hg;exact⟨_,rfl,rfl,h⟩
  |succ f=>obtain⟨fd,h1,h2⟩:=ih (show Jt _ f=_ from hg);exact⟨fd,by simpa using h1,h2⟩
theorem QnZ{P:Program}{L:List (Nat×List (Nat×Nat))}{fs:List (Nat×Nat×Nat)}(hL:∀e∈L,QJ P e.1 e.2)(h:chkF L fs=true):∀e∈fs,∃n,Yv P e.1 e.2.1 e.2.2 n:=by
 intro e he
 have:=List.all_eq_true.1 h e he
 split at this
 ·rename_i pl hpl
  split at this
  ·rename_i q hq
   obtain⟨off,n⟩:=q
   simp only[Bool.and_eq_true,Bool.not_eq_true']at this
   have e1:=Nat.eq_of_beq_eq_true this.1
   obtain⟨fs',h1,h2⟩:=hL _ (Qar hpl)
   obtain⟨fd,g1,g2,g3⟩:=PL.get h2 hq
   refine⟨n,⟨⟨_,fd,h1,by simpa using g1,g2.trans e1,g3,?_⟩⟩⟩
   intro z
   have h2:=this.2
   rw[z,Nat.beq_refl]at h2
   cases h2
  ·cases this
 ·cases this
section
variable {P:Program}{Z:TyZ}{h0 N:Nat}{all:Array Oper}{o:Oper}{l:List Oper}{env:Env}{H:Qd}{Q:QI}{d:Nat}
theorem Cdz(hZ:Qc2 P Z){β γ:Type}{F:Option β}{F':β->Option γ}{r:γ}{f:Nat}{args argsc:List A}{Hc:Qd}{w:β->A}{Hr:β->Qd}(π:List Nat)(h:F.bind F'=some r)(hC:∀v,F=some v->C P f argsc Hc (RQ w Hr v))
  (hop:QfE Z o env=some (d,f,args))(g:∀v,F=some v->F' v=some r->WO P h0 N all l (up env d (Yz (rho π H.length) (w v))) (Yn H π ((Hr v).map (Yc (rho π H.length)))) Q)
  (hargs:args=Qad (rho π H.length) argsc)(hH:π.map (fun p=>H[p]?)=(Hc.map (Yc (rho π H.length))).map some)(hπ:π.Nodup)(hg:Y9 all o env=some true)(hN:Nat.blt d N=true)(hh:Nat.ble h0 H.length=true):WO P h0 N all (o::l) env H Q:=by
 obtain⟨v,h1,h2⟩:=Y3 h
 obtain⟨q1,q2⟩:=Qen (H:=H) hZ hop
 refine QP π q2 (hC v h1) ?_ hargs hH hπ (Q8 hg) q1 hN hh
 rintro _ _ ⟨rfl,rfl⟩
 exact g v h1 h2
end
inductive FLL where
 |mk (l:List (List A))
def cpLL(sel:List Nat):List (List A)->FLL
 |[]=>.mk []
 |a::r=>match cpL sel a,cpLL sel r with
  |.mk a',.mk r'=>.mk (a'::r')
inductive FBk where
 |mk (b:Blk)
def cpBk(sel:List Nat):Blk->FBk
 |.cells t cs=>match cpL sel cs with
  |.mk l=>.mk (.cells t l)
 |.rowr t k es=>match cpLL sel es with
  |.mk l=>.mk (.rowr t k l)
 |.ents t a b es=>match Qj9 sel ixL a,Qj9 sel ixL b with
  |.mk a',.mk b'=>.mk (.ents t a' b' es)
 |b=>.mk b
def selD(H:Qd)(sel:List Nat):List Nat->FB
 |[]=>.mk []
 |a::r=>match Jt H a with
  |some b=>(match cpBk sel b,selD H sel r with
   |.mk b',.mk l=>.mk (b'::l))
  |none=>.mk []
def retC(sel sl:List Nat)(env:Env)(H:Qd):Option (Env×Qd):=
 match QlC sel env sl [],selD H sel sel with
 |.mk e,.mk h=>some (e,h)
theorem Rx{P:Program}{h0:Nat}{fn:Func}{env E':Env}{H H':Qd}{Qr:A->Qd->Prop}{rr:A}(π sl:List Nat)(_:retC π sl env H=some (E',H'))(hres:Qc7 P fn E' H' rr)(hq:Qr rr H')(hpre:π.take h0=List.range h0:=by exact rfl)
  (hH:π.map (fun p=>H[p]?)=(H'.map (Yc (rho π H.length))).map some:=by exact rfl)(hπ:π.Nodup:=by decide)(hE:Qfv (rho π H.length) env E':=by(repeat' (first|exact trivial|refine⟨rfl,?_⟩))):Qc6 P h0 fn Qr .ret env H:=
 ⟨E',H',rr,Lr π hpre hH hπ hE,hres,hq⟩
end Go.Sw
namespace Go.Sw
def nxL{T:Type}:List T->T->List T->Prop:=fun l x rem=>l=x::rem
section
variable {T:Type}{X:Ctx T}{P:Program}{h0 N:Nat}{c:Code}{env:Env}{H:Qd}{st:YSt T}{Q:Jb T}
def kqY(X:Ctx T)(P:Program)(h0 N:Nat):List Kf->Jb T->Jb T
 |[],Q=>Q
 |.seq c::k,Q=>SeqY X P h0 N c (kqY X P h0 N k Q)
 |.blo id::k,Q=>BloY id (kqY X P h0 N k Q)
 |.unr c::k,Q=>fun _ _ _ _=>False
theorem TCy.lf{k:List Kf}(h:TC P h0 N c env H (fun x env H=>kqY X P h0 N k Q x env H st)):TCy X P h0 N c env H st (kqY X P h0 N k Q):=TCy.lift h
theorem WOy.y1{all:Array Oper}{o:Oper}{r:List Oper}{d:Nat}{x:T}{l:List T}{e:T->A}{y z:Operand}{ta:Array TypeId}(hE:X.enc=fun x=>[e x])(hN:X.nx=nxL)(ho:o.op=.call {callee:=.value y,args:= #[z],argTypes:=ta})(hy:opA env y=.fn (.yield X.l) [] [])(hz:opA env z=e x)(hs:Qcz (e x)=true)
  (k1:WOy X P h0 N all r (up env d (.bool true)) H (.on l) Q)(k2:WOy X P h0 N all r (up env d (.bool false)) H (.off l) Q)(hg:Qz all o env true:=by exact rfl)(hd:o.dst=some d:=by exact rfl)(hNd:Nat.blt d N=true:=by exact rfl):WOy X P h0 N all (o::r) env H (.on (x::l)) Q:=by
 refine WOy.yield (x:=x) (rem:=l) (by rw[hN];rfl) hg hd hNd ?_ ?_
 ·rw[hE]
  exact Qha ho hy hz hs
 ·intro b
  cases b with
  |true=>exact k1
  |false=>exact k2
end
end Go.Sw
namespace Go.Sw
section
variable {T:Type}{X:Ctx T}{P:Program}{h0 N:Nat}{c c':Code}{env:Env}{H:Qd}{st:YSt T}{Q:Jb T}
end
end Go.Sw
