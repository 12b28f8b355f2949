/- Starters and pairs are those of the reference. -/
import Derived.Test.YtkjlhfabbbomjaaGreatDoorQ18St
set_option linter.unusedVariables false
set_option linter.unusedSimpArgs false
namespace Go.Sw
def leadS(b:Int):List Starter->Nat
 |[]=>0
 |y::r=>bif decide (y.Bib<b)then leadS b r+1 else 0
theorem QeN(b:Int):∀l:List Starter,leadS b l<=l.length
 |[]=>Nat.le_refl _
 |y::r=>by
  unfold leadS
  have:=QeN b r
  cases decide (y.Bib<b)<;>simp<;>omega
def putS(s:Starter)(l:List Starter):List Starter:=l.take (leadS s.Bib l)++s::l.drop (leadS s.Bib l)
def refOk(c:Course)(f:Fact):Bool:=(f.Kind==1)&&(!decide ((c.Distances.length:Int)<=f.Starter.Distance)&& !decide ((c.Waves.length:Int)<=f.Starter.Wave))
def refStep(c:Course)(out:List Starter)(f:Fact):List Starter:=bif refOk c f&& !(out.any (ofBib f.Starter.Bib))then putS f.Starter out else out
theorem Qld(s:Starter)(l:List Starter):(putS s l).length=l.length+1:=by
 unfold putS
 have:=QeN s.Bib l
 simp;omega
theorem Qhn(c:Course)(out:List Starter)(f:Fact):(refStep c out f).length<=out.length+1:=by
 unfold refStep
 cases refOk c f&& !(out.any (ofBib f.Starter.Bib))with
 |true=>simp only[cond_true];rw[Qld];omega
 |false=>simp
theorem QlR(c:Course):∀(m:List Fact) (a:List Starter),(m.foldl (refStep c) a).length<=a.length+m.length:=by
 intro m
 induction m with
 |nil=>intro a;simp
 |cons x m ih=>
  intro a
  rw[List.foldl_cons,List.length_cons]
  have h1:=ih (refStep c a x)
  have h2:=Qhn c a x
  omega
theorem QbF(x:List Starter)(b:Int)(hx:x.length<=1048576):Ev (fun n=>F_ao n x b) (fndI x b):=by
 unfold F_ao
 refine Ev.bind (v:=fndR x b 0) (Qax x (fun i=>(i:Int)) (fndR x b) (by omega) rfl (fun i s ha=>?_) ?_) ?_
 ·cases e:ofBib b s with
  |true=>
   refine .inr ?_
   rw[QlT ha e]
   unfold F_in
   simp only[ha.lt,cond_true,ha.ix,Option.bind_some]
   unfold ofBib at e
   rw[e];exact Qa _
  |false=>
   refine .inl ⟨?_,QmW ha e⟩
   unfold F_in
   simp only[ha.lt,cond_true,ha.ix,Option.bind_some]
   unfold ofBib at e
   rw[e,ha.nx];exact Qa _
 ·unfold F_in
  rw[QlU]
  simp only[YD,cond_false];exact Qa _
 ·rw[Qkn]
  unfold fndI
  cases x.findIdx? (ofBib b)with
  |none=>exact Qa _
  |some j=>exact Qa _
theorem QjH(x:List Starter)(b:Int):decide (0<=fndI x b)=x.any (ofBib b):=by
 rw[Bool.eq_iff_iff,decide_eq_true_eq,List.any_eq_true]
 rcases Qkm x b with⟨h1,h2⟩|⟨j,s,h1,h2,h3⟩
 ·rw[h1]
  constructor
  ·intro h;omega
  ·rintro⟨s,hs,h⟩
   unfold fstS at h2
   rw[List.find?_eq_none]at h2
   exact absurd h (h2 s hs)
 ·rw[h1]
  constructor
  ·intro _
   unfold fstS at h2
   exact⟨s,List.mem_of_find?_eq_some h2,List.find?_some h2⟩
  ·intro _;omega
theorem Ql5(out:List Starter)(ho:out.length<=1048576)(f:Fact)(i:Int):Ev (fun n=>iter (F_ek n (out,i) f) n 0) ((leadS f.Starter.Bib out:Nat):Int):=by
 have loop:∀(r:List Starter) (j:Nat),out.drop j=r->j<=out.length->EvI (fun n=>F_ek n (out,i) f) (j:Int) ((j+leadS f.Starter.Bib r:Nat):Int):=by
  intro r
  induction r with
  |nil=>
   intro j hr hj
   refine EvI.done ?_
   unfold F_ek
   simp only[QO hr hj,cond_false,Option.bind_some]
   exact Qa _
  |cons y r ih=>
   intro j hr hj
   obtain⟨hb,hr'⟩:=Qt (by omega) hr
   have hlt:=hb.lt'
   unfold leadS
   cases q:decide (y.Bib<f.Starter.Bib)with
   |true=>
    refine EvI.cont ?_ ((ih (j+1) hr' (by omega)).eq (by simp only[cond_true];omega))
    unfold F_ek
    simp only[hb.lt,cond_true,hb.ix,Option.bind_some,hb.nx,q]
    exact Qa _
   |false=>
    refine EvI.done ?_
    unfold F_ek
    simp only[hb.lt,cond_true,hb.ix,Option.bind_some,q]
    exact Qa _
 have:=(loop out 0 rfl (Nat.zero_le _)).ev
 simpa using this
theorem QiM(c:Course)(L:List Fact)(hL:L.length<=1048576):Ev (fun n=>iter (F_iy n c L) n (([]:List Starter),0)) (L.foldl (refStep c) []):=by
 refine Q3 L (refStep c) [] (fun a i=>(a,(i:Int))) (fun a=>a) (by omega) rfl (fun i f a ha hf=>?_) ?_
 ·have hal:a.length<=i:=by
   have h2:=QlR c (L.take i) []
   rw[<- hf,List.length_take]at h2
   simp at h2
   omega
  have hlt:=ha.lt'
  unfold F_iy
  simp only[ha.lt,cond_true,ha.ix,Option.bind_some,ha.nx]
  refine Ev.bind (v:=refStep c a f) ?_ (Qa _)
  refine Ev.bind (v:= !(refOk c f&& !(a.any (ofBib f.Starter.Bib)))) ?_ ?_
  ·unfold refOk bne
   cases(f.Kind==1)with
   |false=>exact Qa _
   |true=>
    simp only[Bool.not_true,cond_false,Bool.true_and]
    cases decide ((c.Distances.length:Int)<=f.Starter.Distance)with
    |true=>exact Qa _
    |false=>
     cases decide ((c.Waves.length:Int)<=f.Starter.Wave)with
     |true=>exact Qa _
     |false=>
      refine Q5 (Q5 (Ev.bind (QbF a _ (by omega)) ?_))
      rw[QjH]
      refine(Qa _).eq ?_
      simp
  ·unfold refStep
   cases refOk c f&& !(a.any (ofBib f.Starter.Bib))with
   |false=>exact Qa _
   |true=>
    simp only[Bool.not_true,cond_false,cond_true]
    refine Ev.bind (Ql5 a (by omega) f _) ?_
    have hle:=QeN f.Starter.Bib a
    rw[Qim a hle,Qex a hle]
    simp only[Option.bind_some]
    rw[Qav [] _ (by simp;omega)]
    simp only[Option.bind_some,List.nil_append]
    rw[Qav _ [f.Starter] (by simp;omega)]
    simp only[Option.bind_some]
    rw[Qav _ _ (by simp;omega)]
    refine(Qa _).eq ?_
    unfold putS
    simp
 ·unfold F_iy
  simp only[YD,cond_false]
  exact Qa _
def ltB(s t:Starter):Prop:=s.Bib<t.Bib
theorem Qhp(s:Starter)(l:List Starter)(t:Starter):t∈putS s l↔t=s\/t∈l:=by
 unfold putS
 rw[List.mem_append,List.mem_cons]
 conv=>rhs;rw[<- List.take_append_drop (leadS s.Bib l) l,List.mem_append]
 constructor
 ·rintro(h|h|h)
  ·exact .inr (.inl h)
  ·exact .inl h
  ·exact .inr (.inr h)
 ·rintro(h|h|h)
  ·exact .inr (.inl h)
  ·exact .inl h
  ·exact .inr (.inr h)
theorem QdL(s:Starter):∀(l:List Starter),l.Pairwise ltB->(∀t∈l,t.Bib≠s.Bib)->(putS s l).Pairwise ltB
 |[],_,_=>by simp[putS,leadS]
 |y::r,h,hn=>by
  rw[List.pairwise_cons]at h
  unfold putS leadS
  cases q:decide (y.Bib<s.Bib)with
  |true=>
   have ih:=QdL s r h.2 fun t ht=>hn t (by simp[ht])
   simp only[cond_true,List.take_succ_cons,List.drop_succ_cons,List.cons_append,List.pairwise_cons]
   refine⟨fun t ht=>?_,ih⟩
   rcases(Qhp s r t).1 ht with rfl|ht
   ·show y.Bib<t.Bib
    exact of_decide_eq_true q
   ·exact h.1 t ht
  |false=>
   have q':=of_decide_eq_false q
   have hy:=hn y (by simp)
   simp only[cond_false,List.take_zero,List.drop_zero,List.nil_append,List.pairwise_cons]
   refine⟨fun t ht=>?_,h⟩
   have h0:ltB s y:=by unfold ltB;omega
   rcases List.mem_cons.1 ht with rfl|ht
   ·exact h0
   ·have:=h.1 t ht
    unfold ltB at*
    omega
theorem QjA{c:Course}{f:Fact}(hv:validS f=true):okS c f=refOk c f:=by
 unfold okS refOk
 rw[hv,Bool.true_and]
theorem Qiu(c:Course)(L:List Fact)(h:CanonOK L):(L.foldl (refStep c) []).Pairwise ltB/\ ∀s,s∈L.foldl (refStep c) []↔ ∃f,FirstIs c L f/\f.Starter=s:=by
 have gen:∀(r p:List Fact) (a:List Starter),p++r=L->a.Pairwise ltB->(∀s,s∈a↔ ∃f,FirstIs c p f/\f.Starter=s)->(r.foldl (refStep c) a).Pairwise ltB/\ ∀s,s∈r.foldl (refStep c) a↔ ∃f,FirstIs c L f/\f.Starter=s:=by
  intro r
  induction r with
  |nil=>intro p a hp h1 h2;rw[List.append_nil]at hp;subst hp;exact⟨h1,h2⟩
  |cons f r ih=>
   intro p a hp h1 h2
   have hf:f∈L:=by rw[<- hp];simp
   have hv:=h.2 f hf
   have hb:∀g∈p,cmpF g f<0:=by
    intro g hg
    have:=h.1
    rw[<- hp,List.pairwise_append]at this
    exact this.2.2 g hg f (by simp)
   have hpv:∀g∈p,validS g=true:=fun g hg=>h.2 g (by rw[<- hp];simp[hg])
   have keep:∀g,FirstIs c p g->FirstIs c (p++[f]) g:=by
    rintro g ⟨g1,g2,g3⟩
    refine⟨by simp[g1],g2,?_⟩
    intro k hk k1 k2
    rcases List.mem_append.1 hk with hk|hk
    ·exact g3 k hk k1 k2
    ·rw[List.mem_singleton]at hk
     subst hk
     have:=hb g g1
     have:=cmpF_ok.swap g k
     omega
   have back:∀g,FirstIs c (p++[f]) g->g∈p->FirstIs c p g:=by
    rintro g ⟨g1,g2,g3⟩ hg
    exact⟨hg,g2,fun k hk k1 k2=>g3 k (by simp[hk]) k1 k2⟩
   refine ih (p++[f]) (refStep c a f) (by rw[<- hp];simp) ?_ ?_
   ·unfold refStep
    cases q:refOk c f&& !(a.any (ofBib f.Starter.Bib))with
    |false=>exact h1
    |true=>
     rw[Bool.and_eq_true,Bool.not_eq_true',List.any_eq_false]at q
     refine QdL _ _ h1 fun t ht e=>?_
     exact q.2 t ht (by unfold ofBib;rw[e];simp)
   ·intro s
    unfold refStep
    cases q:refOk c f&& !(a.any (ofBib f.Starter.Bib))with
    |false=>
     simp only[cond_false]
     rw[h2 s]
     constructor
     ·rintro⟨g,g1,g2⟩;exact⟨g,keep g g1,g2⟩
     ·rintro⟨g,g1,g2⟩
      rcases List.mem_append.1 g1.1 with hg|hg
      ·exact⟨g,back g g1 hg,g2⟩
      ·rw[List.mem_singleton]at hg
       subst hg
       exfalso
       have ho:=g1.2.1
       rw[QjA hv]at ho
       rw[ho,Bool.true_and,Bool.not_eq_false',List.any_eq_true]at q
       obtain⟨t,ht,ht2⟩:=q
       obtain⟨k,k1,k2⟩:=(h2 t).1 ht
       have hk:k.Starter.Bib=g.Starter.Bib:=by
        rw[k2];unfold ofBib at ht2;simpa using ht2
       exact g1.2.2 k (by simp[k1.1]) k1.2.1 hk (hb k k1.1)
    |true=>
     rw[Bool.and_eq_true,Bool.not_eq_true',List.any_eq_false]at q
     simp only[cond_true]
     rw[Qhp,h2 s]
     constructor
     ·rintro(rfl|⟨g,g1,g2⟩)
      ·refine⟨f,⟨by simp,by rw[QjA hv];exact q.1,?_⟩,rfl⟩
       intro g hg g1 g2
       rcases List.mem_append.1 hg with hg|hg
       ·exfalso
        obtain⟨k,k1,k2,k3⟩:=QcS (c:=c) (l:=p) hg g1
        refine q.2 k.Starter ((h2 _).2 ⟨k,⟨k1,k2,k3.2⟩,rfl⟩) ?_
        unfold ofBib
        rw[k3.1,g2];simp
       ·rw[List.mem_singleton]at hg
        subst hg
        have:=cmpF_ok.refl g;omega
      ·exact⟨g,keep g g1,g2⟩
     ·rintro⟨g,g1,g2⟩
      rcases List.mem_append.1 g1.1 with hg|hg
      ·exact .inr ⟨g,back g g1 hg,g2⟩
      ·rw[List.mem_singleton]at hg
       subst hg
       exact .inl g2.symm
 exact gen L [] [] rfl (by simp) (fun s=>by
  constructor
  ·intro h;cases h
  ·rintro⟨f,⟨h,_⟩,_⟩;cases h)
theorem Qgr(c:Course)(l:List Fact):(canonS l).foldl (refStep c) []=(ordF (firstS c l)).map (·.Starter):=by
 obtain⟨k1,k2⟩:=Qdx l
 obtain⟨h1,h2⟩:=Qiu c (canonS l) k1
 refine Qci (R:=ltB) (fun x h=>by unfold ltB at h;omega) (fun x y z a b=>by unfold ltB at*;omega) h1 ?_ fun s=>?_
 ·rw[List.pairwise_map]
  exact QgF c l
 ·rw[h2 s,List.mem_map]
  have hs:∀f,validS f=true->(f∈canonS l↔f∈l):=fun f hf=>by rw[k2 f];simp[hf]
  constructor
  ·rintro⟨f,f1,f2⟩;exact⟨f,(QfY c l f).2 ((Qde hs).1 f1),f2⟩
  ·rintro⟨f,f1,f2⟩;exact⟨f,(Qde hs).2 ((QfY c l f).1 f1),f2⟩
theorem Qfj(l:List Fact):(canonS l).length<=l.length:=by
 have:∀(m a:List Fact),(m.foldl (fun a x=>bif validS x then insC x a else a) a).length<=a.length+m.length:=by
  intro m
  induction m with
  |nil=>intro a;simp
  |cons x m ih=>
   intro a
   rw[List.foldl_cons,List.length_cons]
   have h1:=ih (bif validS x then insC x a else a)
   have h2:(bif validS x then insC x a else a).length<=a.length+1:=by
    cases validS x with
    |true=>exact QeS x a
    |false=>simp
   omega
 have:=this l []
 simpa[canonS]using this
theorem QgQ(L:List Starter)(hL:L.length<=1048576):Ev (fun n=>iter (F_cu n L) n 0) (bif decide ((L.map (·.Chip)).Nodup)then Ctl.cont ()else Ctl.done ([],180)):=by
 have h:=Qjm (step:=fun n=>F_cu n L) L (fun _=>true) (fun s:Starter=>s.Chip) (Ctl.done (([]:List Starter),(180:Int))) (Ctl.cont ()) (by omega) (fun i x ha _ hk=>?_) (fun i x ha h=>by cases h) (fun i x ha _ hk=>?_) ?_
 ·refine Ev.eq h ?_
  rw[List.all_eq_true.2 (fun _ _=>rfl),Bool.true_and]
 ·have hlt:=ha.lt'
  unfold F_cu
  simp only[ha.lt,cond_true,ha.nx]
  have k:=Qdf (step:=fun n=>F_ax n L (i:Int)) L i (fun s:Starter=>s.Chip) x.Chip (Ctl.done (Ctl.done (Ctl.done (([]:List Starter),(180:Int))))) (Ctl.cont ()) (by omega) (by omega) (fun j y hj hb hq=>?_) (fun j y hj hb hq=>?_) ?_
  ·rw[hk]at k
   exact Ev.bind k (Qa _)
  ·unfold F_ax
   have e:(x.Chip==y.Chip)=false:=by rw[beq_eq_false_iff_ne];exact fun e=>of_decide_eq_false hq e.symm
   simp only[QQ (show(j:Int)<(i:Int)by omega),cond_true,ha.ix,hb.ix,Option.bind_some,e,cond_false,hb.nx]
   exact Qa _
  ·unfold F_ax
   have e:(x.Chip==y.Chip)=true:=by rw[beq_iff_eq];exact(of_decide_eq_true hq).symm
   simp only[QQ (show(j:Int)<(i:Int)by omega),cond_true,ha.ix,hb.ix,Option.bind_some,e]
   exact Qa _
  ·unfold F_ax
   simp only[QS (show¬(i:Int)<(i:Int)by omega),cond_false]
   exact Qa _
 ·have hlt:=ha.lt'
  unfold F_cu
  simp only[ha.lt,cond_true,ha.nx]
  have k:=Qdf (step:=fun n=>F_ax n L (i:Int)) L i (fun s:Starter=>s.Chip) x.Chip (Ctl.done (Ctl.done (Ctl.done (([]:List Starter),(180:Int))))) (Ctl.cont ()) (by omega) (by omega) (fun j y hj hb hq=>?_) (fun j y hj hb hq=>?_) ?_
  ·rw[hk]at k
   exact Ev.bind k (Qa _)
  ·unfold F_ax
   have e:(x.Chip==y.Chip)=false:=by rw[beq_eq_false_iff_ne];exact fun e=>of_decide_eq_false hq e.symm
   simp only[QQ (show(j:Int)<(i:Int)by omega),cond_true,ha.ix,hb.ix,Option.bind_some,e,cond_false,hb.nx]
   exact Qa _
  ·unfold F_ax
   have e:(x.Chip==y.Chip)=true:=by rw[beq_iff_eq];exact(of_decide_eq_true hq).symm
   simp only[QQ (show(j:Int)<(i:Int)by omega),cond_true,ha.ix,hb.ix,Option.bind_some,e]
   exact Qa _
  ·unfold F_ax
   simp only[QS (show¬(i:Int)<(i:Int)by omega),cond_false]
   exact Qa _
 ·unfold F_cu
  simp only[YD,cond_false]
  exact Qa _
theorem QbE(e:Int)(c:Course)(l:List Fact)(hl:l.length<=16)(he:Ev (fun n=>F_ap n c) e):Ev (fun n=>F_br n c l) (startF e c l):=by
 unfold F_br startF
 refine Ev.bind he ?_
 cases(e != 0)with
 |true=>exact Qa _
 |false=>
  simp only[cond_false]
  refine Ev.bind (QdX l (by omega)) ?_
  have hcl:=Qfj l
  refine Ev.bind (QiM c (canonS l) (by omega)) ?_
  rw[Qgr]
  have hlen:((ordF (firstS c l)).map (·.Starter)).length<=l.length:=by rw[List.length_map,QcG];exact(Qbb c l).len
  rw[QS (show¬(4000:Int)<(((ordF (firstS c l)).map (·.Starter)).length:Int)by omega)]
  refine Q5 (Ev.bind (QgQ _ (by omega)) ?_)
  have e2:((ordF (firstS c l)).map (·.Starter)).map (·.Chip)=(ordF (firstS c l)).map chipK:=by rw[List.map_map];rfl
  rw[e2]
  cases decide (((ordF (firstS c l)).map chipK).Nodup)<;>exact Qa _
def leadP(p:Pair):List Pair->Nat
 |[]=>0
 |y::r=>bif decide (y.A<p.A)||((y.A==p.A)&&decide (y.B<p.B))then leadP p r+1 else 0
theorem QeO(p:Pair):∀l:List Pair,leadP p l<=l.length
 |[]=>Nat.le_refl _
 |y::r=>by
  unfold leadP
  have:=QeO p r
  cases decide (y.A<p.A)||((y.A==p.A)&&decide (y.B<p.B))<;>simp<;>omega
def putP(p:Pair)(l:List Pair):List Pair:=if l[leadP p l]?=some p then l else l.take (leadP p l)++p::l.drop (leadP p l)
def refOkP(x:List Starter)(f:Fact):Bool:=(f.Kind==7)&&(x.any (ofBib f.Pair.A)&&x.any (ofBib f.Pair.B))
def refStepP(x:List Starter)(out:List Pair)(f:Fact):List Pair:=bif refOkP x f then putP f.Pair out else out
theorem Qle(p:Pair)(l:List Pair):(putP p l).length<=l.length+1:=by
 unfold putP
 have:=QeO p l
 split
 ·omega
 ·simp;omega
theorem Qkl(x:List Starter):∀(m:List Fact) (a:List Pair),(m.foldl (refStepP x) a).length<=a.length+m.length:=by
 intro m
 induction m with
 |nil=>intro a;simp
 |cons f m ih=>
  intro a
  rw[List.foldl_cons,List.length_cons]
  have h1:=ih (refStepP x a f)
  have h2:(refStepP x a f).length<=a.length+1:=by
   unfold refStepP
   cases refOkP x f with
   |true=>exact Qle _ _
   |false=>simp
  omega
theorem Qjx(n:Nat)(a b:Pair):F_dj n a b=some (decide (a.A<b.A)||((a.A==b.A)&&decide (a.B<b.B))):=by
 unfold F_dj
 cases decide (a.A<b.A)with
 |true=>rfl
 |false=>cases(a.A==b.A)<;>rfl
theorem Ql6(out:List Pair)(ho:out.length<=1048576)(f:Fact)(i:Int):Ev (fun n=>iter (F_el n (out,i) f) n 0) ((leadP f.Pair out:Nat):Int):=by
 have loop:∀(r:List Pair) (j:Nat),out.drop j=r->j<=out.length->EvI (fun n=>F_el n (out,i) f) (j:Int) ((j+leadP f.Pair r:Nat):Int):=by
  intro r
  induction r with
  |nil=>
   intro j hr hj
   refine EvI.done ?_
   unfold F_el
   simp only[QO hr hj,cond_false,Option.bind_some]
   exact Qa _
  |cons y r ih=>
   intro j hr hj
   obtain⟨hb,hr'⟩:=Qt (by omega) hr
   have hlt:=hb.lt'
   unfold leadP
   cases q:decide (y.A<f.Pair.A)||((y.A==f.Pair.A)&&decide (y.B<f.Pair.B))with
   |true=>
    refine EvI.cont ?_ ((ih (j+1) hr' (by omega)).eq (by simp only[cond_true];omega))
    unfold F_el
    simp only[hb.lt,cond_true,hb.ix,Option.bind_some,hb.nx,Qjx,q]
    exact Qa _
   |false=>
    refine EvI.done ?_
    unfold F_el
    simp only[hb.lt,cond_true,hb.ix,Option.bind_some,Qjx,q]
    exact Qa _
 have:=(loop out 0 rfl (Nat.zero_le _)).ev
 simpa using this
theorem QhW(st:List Starter×Int)(hx:st.1.length<=1048576)(L:List Fact)(hL:L.length<=1048576):Ev (fun n=>iter (F_iq n st L) n (([]:List Pair),0)) (L.foldl (refStepP st.1) []):=by
 refine Q3 L (refStepP st.1) [] (fun a i=>(a,(i:Int))) (fun a=>a) (by omega) rfl (fun i f a ha hf=>?_) ?_
 ·have hal:a.length<=i:=by
   have h2:=Qkl st.1 (L.take i) []
   rw[<- hf,List.length_take]at h2
   simp at h2
   omega
  have hlt:=ha.lt'
  unfold F_iq
  simp only[ha.lt,cond_true,ha.ix,Option.bind_some,ha.nx]
  refine Ev.bind (v:=refStepP st.1 a f) ?_ (Qa _)
  have neg:∀b,decide (fndI st.1 b<0)= !(st.1.any (ofBib b)):=by
   intro b
   rw[<- QjH,Bool.eq_iff_iff]
   simp
  refine Ev.bind (v:= !(refOkP st.1 f)) ?_ ?_
  ·unfold refOkP bne
   cases(f.Kind==7)with
   |false=>exact Qa _
   |true=>
    simp only[Bool.not_true,cond_false,Bool.true_and]
    refine Ev.bind (QbF st.1 _ hx) ?_
    rw[neg]
    cases st.1.any (ofBib f.Pair.A)with
    |false=>exact Qa _
    |true=>
     refine Q5 (Ev.bind (QbF st.1 _ hx) ?_)
     rw[neg]
     exact Qa _
  ·unfold refStepP
   cases refOkP st.1 f with
   |false=>exact Qa _
   |true=>
    simp only[Bool.not_true,cond_false,cond_true]
    refine Ev.bind (Ql6 a (by omega) f _) ?_
    have hle:=QeO f.Pair a
    refine Ev.bind (v:=decide (a[leadP f.Pair a]?=some f.Pair)) ?_ ?_
    ·by_cases q:leadP f.Pair a<a.length
     ·have hg:a[leadP f.Pair a]?=some a[leadP f.Pair a]:=List.getElem?_eq_getElem q
      rw[QQ (show((leadP f.Pair a:Nat):Int)<(a.length:Int)by omega),QaR hg,hg]
      refine(Qa _).eq ?_
      rw[Bool.eq_iff_iff]
      simp
     ·rw[QS (show¬((leadP f.Pair a:Nat):Int)<(a.length:Int)by omega)]
      refine(Qa _).eq ?_
      rw[List.getElem?_eq_none (by omega)]
      simp
    ·unfold putP
     by_cases q:a[leadP f.Pair a]?=some f.Pair
     ·rw[QQ q,if_pos q];exact Qa _
     ·rw[QS q,if_neg q]
      simp only[cond_false]
      rw[Qim a hle,Qex a hle]
      simp only[Option.bind_some]
      rw[Qav [] _ (by simp;omega)]
      simp only[Option.bind_some,List.nil_append]
      rw[Qav _ [f.Pair] (by simp;omega)]
      simp only[Option.bind_some]
      rw[Qav _ _ (by simp;omega)]
      refine(Qa _).eq ?_
      simp
 ·unfold F_iq
  simp only[YD,cond_false]
  exact Qa _
theorem QfP(p y:Pair)(r:List Pair):putP p (y::r)=bif decide (y.A<p.A)||((y.A==p.A)&&decide (y.B<p.B))then y::putP p r else if y=p then y::r else p::y::r:=by
 have e:leadP p (y::r)=bif decide (y.A<p.A)||((y.A==p.A)&&decide (y.B<p.B))then leadP p r+1 else 0:=rfl
 unfold putP
 rw[e]
 cases decide (y.A<p.A)||((y.A==p.A)&&decide (y.B<p.B))with
 |true=>
  simp only[cond_true,List.getElem?_cons_succ,List.take_succ_cons,List.drop_succ_cons]
  split<;>simp
 |false=>simp
theorem QeF(p:Pair):∀(l:List Pair) (t:Pair),t∈putP p l↔t=p\/t∈l
 |[],t=>by simp[putP,leadP]
 |y::r,t=>by
  rw[QfP]
  cases decide (y.A<p.A)||((y.A==p.A)&&decide (y.B<p.B))with
  |true=>
   simp only[cond_true,List.mem_cons,QeF p r t]
   constructor
   ·rintro(h|h|h)<;>simp[h]
   ·rintro(h|h|h)<;>simp[h]
  |false=>
   simp only[cond_false]
   split
   ·rename_i e
    rw[e]
    simp
   ·simp
theorem QdM(p:Pair):∀(l:List Pair),l.Pairwise ltP->(putP p l).Pairwise ltP
 |[],_=>by simp[putP,leadP]
 |y::r,h=>by
  rw[List.pairwise_cons]at h
  rw[QfP]
  cases q:decide (y.A<p.A)||((y.A==p.A)&&decide (y.B<p.B))with
  |true=>
   simp only[cond_true,List.pairwise_cons]
   refine⟨fun t ht=>?_,QdM p r h.2⟩
   rcases(QeF p r t).1 ht with rfl|ht
   ·rw[Bool.or_eq_true,Bool.and_eq_true,decide_eq_true_eq,decide_eq_true_eq,beq_iff_eq]at q
    exact q
   ·exact h.1 t ht
  |false=>
   simp only[cond_false]
   split
   ·exact List.pairwise_cons.2 h
   ·rename_i hne
    rw[Bool.or_eq_false_iff,Bool.and_eq_false_iff,decide_eq_false_iff_not,decide_eq_false_iff_not,beq_eq_false_iff_ne]at q
    have hlt:ltP p y:=by
     have:¬(y.A=p.A/\y.B=p.B):=fun z=>hne (QcF z.1 z.2)
     unfold ltP
     omega
    rw[List.pairwise_cons]
    refine⟨fun t ht=>?_,List.pairwise_cons.2 h⟩
    rcases List.mem_cons.1 ht with rfl|ht
    ·exact hlt
    ·exact QlA _ _ _ hlt (h.1 t ht)
theorem QdK(x:List Starter):∀(L:List Fact) (a:List Pair),a.Pairwise ltP->(L.foldl (refStepP x) a).Pairwise ltP/\ ∀p,p∈L.foldl (refStepP x) a↔p∈a\/ ∃f∈L,refOkP x f=true/\f.Pair=p
 |[],a,h=>⟨h,fun p=>by simp⟩
 |f::L,a,h=>by
  rw[List.foldl_cons]
  have hs:(refStepP x a f).Pairwise ltP:=by
   unfold refStepP
   cases refOkP x f with
   |true=>exact QdM _ _ h
   |false=>exact h
  obtain⟨h1,h2⟩:=QdK x L (refStepP x a f) hs
  refine⟨h1,fun p=>?_⟩
  rw[h2 p]
  unfold refStepP
  cases q:refOkP x f with
  |false=>
   simp only[cond_false,List.mem_cons]
   constructor
   ·rintro(k|⟨g,g1,g2⟩)
    ·exact .inl k
    ·exact .inr ⟨g,.inr g1,g2⟩
   ·rintro(k|⟨g,rfl|g1,g2,g3⟩)
    ·exact .inl k
    ·rw[q]at g2;cases g2
    ·exact .inr ⟨g,g1,g2,g3⟩
  |true=>
   simp only[cond_true,List.mem_cons]
   rw[QeF]
   constructor
   ·rintro((rfl|k)|⟨g,g1,g2⟩)
    ·exact .inr ⟨f,.inl rfl,q,rfl⟩
    ·exact .inl k
    ·exact .inr ⟨g,.inr g1,g2⟩
   ·rintro(k|⟨g,rfl|g1,g2,g3⟩)
    ·exact .inl (.inr k)
    ·exact .inl (.inl g3.symm)
    ·exact .inr ⟨g,g1,g2,g3⟩
theorem Qj6(x:List Starter)(l:List Fact):(canonS l).foldl (refStepP x) []=sortP ((metS (x.map (·.Bib)) l).map Prod.fst):=by
 obtain⟨h1,h2⟩:=QdK x (canonS l) [] (by simp)
 refine Qci QmS QlA h1 (Qgn (QiB _ l)) fun p=>?_
 rw[h2 p,(Qcj _).mem_iff,(Qgx _ l).2]
 have any:∀b,x.any (ofBib b)=decide (b∈x.map (·.Bib)):=by
  intro b
  rw[Bool.eq_iff_iff,List.any_eq_true,decide_eq_true_eq,List.mem_map]
  constructor
  ·rintro⟨s,hs,h⟩;exact⟨s,hs,by unfold ofBib at h;simpa using h⟩
  ·rintro⟨s,hs,h⟩;exact⟨s,hs,by unfold ofBib;simpa using h⟩
 constructor
 ·rintro(h|⟨f,f1,f2,f3⟩)
  ·cases h
  ·obtain⟨g1,g2⟩:=((Qdx l).2 f).1 f1
   refine⟨f,g1,?_,f3⟩
   unfold okP
   unfold refOkP at f2
   rw[any,any]at f2
   rw[g2,Bool.true_and];exact f2
 ·rintro⟨f,f1,f2,f3⟩
  refine .inr ⟨f,((Qdx l).2 f).2 ⟨f1,QfS f2⟩,?_,f3⟩
  unfold okP at f2
  unfold refOkP
  rw[QfS f2,Bool.true_and]at f2
  rw[any,any];exact f2
theorem QhU(e:Int)(c:Course)(l:List Fact)(hl:l.length<=16)(he:Ev (fun n=>F_ap n c) e):Ev (fun n=>F_ef n c l) (pairF (startF e c l) l):=by
 unfold F_ef
 refine Ev.bind (QbE e c l hl he) ?_
 have hsl:=Qew e c l
 generalize startF e c l=st at*
 have hpl:=QfR st l
 unfold pairF at*
 cases hq:(st.2 != 0)with
 |true=>exact Qa _
 |false=>
  rw[hq]at hpl
  simp only[cond_false]at*
  refine Ev.bind (QdX l (by omega)) ?_
  have hcl:=Qfj l
  refine Ev.bind (QhW st (by omega) (canonS l) (by omega)) ?_
  rw[Qj6]
  rw[QS (show¬(16:Int)<((sortP ((metS (st.1.map (·.Bib)) l).map Prod.fst)).length:Int)by omega)]
  exact Qa _
theorem law_ChipsStartersSpec(c:Course)(l:List Fact)(hc:Course.wf c)(hl:l.length<=1048576/\ ∀f∈l,Fact.wf f):∃n,F_hl n c l=some true:=by
 have w:=Qih hc
 have q:=Qjg hc
 obtain⟨t1,t2⟩:=QmI hc
 obtain⟨b,pb,fb⟩:=Qko c w q t1 t2
 refine Ev.ex ?_
 unfold F_hl
 refine Ev.bind (Ev.const Qnp) ?_
 simp only[Bool.not_true,cond_false]
 refine Ev.bind (v:= !b|| !decide ((l.length:Int)<=14)) (Ev.bind pb (Ev.or fun _=>Ev.bind (v:=()) (Qa _) (Qa _))) ?_
 cases h6:(!b|| !decide ((l.length:Int)<=14))with
 |true=>exact Qa _
 |false=>
  rw[Bool.or_eq_false_iff,Bool.not_eq_false',Bool.not_eq_false']at h6
  obtain⟨hb,h14'⟩:=h6
  have h14:l.length<=14:=by have:=of_decide_eq_true h14';omega
  obtain⟨e,he,he2⟩:=Qh2 c w q (fb hb) t1 t2
  simp only[cond_false]
  have hsl:=Qew e c l
  have hpl:=QfR (startF e c l) l
  refine Ev.bind (QdU e c l (by omega) he) (Ev.bind (QbE e c l (by omega) he2) (Ev.bind (Ql3 e c l (by omega) he) (Ev.bind (QhU e c l (by omega) he2) ?_)))
  refine Ev.bind (v:=true) (Ev.bind (Ql0 _ _ (by omega)) ?_) (Qa _)
  rw[QQ rfl,beq_self_eq_true,beq_self_eq_true]
  refine Qgf (Qgf (Ev.bind (Ql1 _ _ (by omega)) ?_))
  rw[QQ rfl]
  exact Qa _
end Go.Sw
