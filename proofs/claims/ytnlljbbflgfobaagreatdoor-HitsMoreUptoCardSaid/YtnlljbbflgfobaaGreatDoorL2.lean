/- The rules by which the code is walked, with what they rest on (part 2). -/
import Derived.Test.YtnlljbbflgfobaaGreatDoorL1
import Derived.Shelf.SlSortCmp.NoneTotal
import Derived.Below
import GoSem.ClaimChange
import Derived.Shelf.Strings.Search3
import Derived.Lib.LazyBuf
import Derived.Shelf.Sort.Plain
import Derived.Shelf.Slices.In.SortNone
import Derived.Shelf.Slices.CompactI
import Derived.RangeFuncIn
import Derived.RangeFuncSeq
import Derived.RangeFuncNested
import Derived.Lib.Bytealg
import Derived.Laws.Externs
import Derived.LaidLaws
import Derived.Lib.LaidTab
import Derived.ChangeArms
import Derived.ChangeSame
set_option linter.unusedVariables false
set_option linter.unusedSectionVars false
set_option linter.unusedSimpArgs false
namespace Go.Sw
def QeA{S E B:Type}(stepE:S->E->Option (Ctl S B))(stepN:S->Option B):S->List E->Option B
 |s,[]=>stepN s
 |s,e::p=>match stepE s e with
  |some (.cont s')=>QeA stepE stepN s' p
  |some (.done b)=>some b
  |none=>none
def Qbc{E:Type}(x:E):List E->List (List E)
 |[]=>[[x]]
 |y::l=>(x::y::l)::(Qbc x l).map (y:: ·)
def QbN{E:Type}:List E->List (List E)
 |[]=>[[]]
 |x::l=>(QbN l).flatMap (Qbc x)
theorem Qd5{E:Type}(x:E):∀(a b:List E),a++x::b∈Qbc x (a++b)
 |[],[]=>by simp[Qbc]
 |[],y::b=>by simp[Qbc]
 |y::a,b=>by
  simp only[List.cons_append,Qbc,List.mem_cons,List.mem_map]
  exact .inr ⟨a++x::b,Qd5 x a b,rfl⟩
theorem QeS{E:Type}:∀(l p:List E),p.Perm l->p∈QbN l
 |[],p,h=>by rw[List.perm_nil.1 h];simp[QbN]
 |x::l,p,h=>by
  have hx:x∈p:=h.mem_iff.2 (by simp)
  obtain⟨a,b,rfl⟩:=List.append_of_mem hx
  have h2:(a++b).Perm l:=(List.perm_cons x).1 ((List.perm_middle.symm).trans h)
  simp only[QbN,List.mem_flatMap]
  exact⟨a++b,QeS l _ h2,Qd5 x a b⟩
def Qkw{E R:Type}[DecidableEq R](k:List E->Option R)(l:List E):Option R:=bif (QbN l).all (fun p=>decide (k p=k l))then k l else none
theorem Qlz{E R:Type}[DecidableEq R]{k:List E->Option R}{l:List E}{r:R}(h:Qkw k l=some r)(p:List E)(hp:p.Perm l):k p=some r:=by
 unfold Qkw at h
 cases q:(QbN l).all (fun p=>decide (k p=k l))with
 |true=>
  rw[q]at h
  have:=List.all_eq_true.1 q p (QeS l p hp)
  rw[of_decide_eq_true this];exact h
 |false=>rw[q]at h;cases h
theorem QdT{E:Type}:∀(l p:List E),p∈QbN l->p.Perm l
 |[],p,h=>by simp[QbN]at h;rw[h]
 |x::l,p,h=>by
  simp only[QbN,List.mem_flatMap]at h
  obtain⟨q,hq,hp⟩:=h
  have ins:∀(q p:List E),p∈Qbc x q->p.Perm (x::q):=by
   intro q
   induction q with
   |nil=>intro p hp;simp[Qbc]at hp;rw[hp]
   |cons y q ih=>
    intro p hp
    simp only[Qbc,List.mem_cons,List.mem_map]at hp
    rcases hp with rfl|⟨z,hz,rfl⟩
    ·exact .refl _
    ·exact((ih z hz).cons y).trans (List.Perm.swap _ _ _)
  exact(ins q p hp).trans ((QdT l q hq).cons x)
theorem QlA{E R:Type}[DecidableEq R]{k:List E->Option R}{l:List E}{r:R}(h:∀p,p.Perm l->k p=some r):Qkw k l=some r:=by
 unfold Qkw
 have:(QbN l).all (fun p=>decide (k p=k l))=true:=List.all_eq_true.2 fun p hp=>by
  rw[h p (QdT l p hp),h l (.refl _)];simp
 rw[this];exact h l (.refl _)
def Qg0{S E B:Type}(stepE:S->E->Option (Ctl S B))(stepN:S->Option B)(G:B->Prop)(s:S)(l:List E):Prop:=∀p,p.Perm l->∃b,QeA stepE stepN s p=some b/\G b
section
variable {P:Program}{o:Oper}{env:Env}{H:Qc}{h0 N:Nat}{Q:Qm}{c:Code}
def QbH(I:Env->Qc->Prop)(Q:Qm):Qm
 |.normal,env,H=>I env H
 |.exit id,env,H=>Q (.exit id) env H
 |.ret,env,H=>Q .ret env H
theorem QkD{I:Nat->Env->Qc->Prop}(body:∀n env H,I n env H->TC P h0 N c env H (QbH (fun env H=>∃n',n'<n/\I n' env H) Q)){n:Nat}(hI:I n env H):TC P h0 N (.loop c) env H Q:=by
 intro rd fr ro σ a w r hrd b k cs hro hb hr
 have key:∀m n env H fr1 ro1 σ1 a1 w1,n<m->I n env H->Rel fr1 ro1 σ1 H env N a1 w1->Qe fr ro w ro1 w1->σ1.take h0=σ.take h0->Qb3 fr w a.defers fr1 a1.defers->
   ∃e a' w',QaG h0 fr ro σ w N a.defers Q e a' w'/\ArrivesIn (Machine.fenced P (WF rd)) P (lone (b.atR a1 (.code c::.inLoop c::k)) cs w1) b k cs e a' w':=by
  intro m
  induction m with
  |zero=>intro n env H fr1 ro1 σ1 a1 w1 hn;exact absurd hn (Nat.not_lt_zero _)
  |succ m ih=>
   intro n env H fr1 ro1 σ1 a1 w1 hn hI r1 ev1 t1 g1
   obtain⟨e,a',w',hq,harr⟩:=body n env H hI rd fr1 ro1 σ1 a1 w1 r1 (hrd.to ev1 g1.sub) b (.inLoop c::k) cs hro hb hr
   obtain⟨x,env',H',ro',σ',fr',q1,q2,q3,q4,q5,q6⟩:=hq
   have ev2:=ev1.trans (q4.frMono g1.sub)
   have g2:=g1.trans ev1.size q6
   have hp:∀x,Q x env' H'->ExR e x->QaG h0 fr ro σ w N a.defers Q e a' w':=fun x q q'=>⟨x,env',H',ro',σ',fr',q',q,q3,ev2,q5.trans t1,g2⟩
   cases e with
   |normal=>
    obtain rfl:x=.normal:=q1
    obtain⟨n',hn',q2⟩:=q2
    obtain⟨e2,a2,w2,hq2,harr2⟩:=ih n' env' H' fr' ro' σ' a' w' (by omega) q2 q3 ev2 (q5.trans t1) g2
    exact⟨e2,a2,w2,hq2,.of_steps (StepsIn.trans harr (.one (fenced_calm hb hr rfl) stepR_inLoop)) harr2⟩
   |exit id=>
    obtain rfl:x=.exit id:=q1
    exact⟨_,a',w',hp _ q2 rfl,.pass (x:=.inLoop c) rfl (fun _ _=>.inl (by simp)) harr⟩
   |ret=>
    obtain rfl:x=.ret:=q1
    exact⟨_,a',w',hp _ q2 rfl,.pass (x:=.inLoop c) rfl (fun _ _=>.inl (by simp)) harr⟩
   |_=>exact q1.elim
 obtain⟨e,a',w',hq,harr⟩:=key (n+1) n env H fr ro σ a w (Nat.lt_succ_self _) hI r (Qe.refl _ _ _) rfl (Qb3.refl _ _ _)
 exact⟨e,a',w',hq,.of_steps (.one (fenced_calm hb hr rfl) stepR_loop) harr⟩
section
variable {S E B:Type}{stepE:S->E->Option (Ctl S B)}{stepN:S->Option B}{G:B->Prop} (Es:S->Env) (Hp:S->List (A×A)->Qc) {enc:E->A×A}
def AtP(stepE:S->E->Option (Ctl S B))(stepN:S->Option B)(G:B->Prop)(enc:E->A×A)(h0 n:Nat)(env:Env)(H:Qc):Prop:=
 ∃s l,l.length=n/\Qg0 stepE stepN G s l/\Le h0 env H (Es s) (Hp s (l.map enc))
theorem QkC{s0:S}{l0:List E}(h:Qg0 stepE stepN G s0 l0)(hI:Le h0 env H (Es s0) (Hp s0 (l0.map enc)))
  (body:∀s l,Qg0 stepE stepN G s l->TC P h0 N c (Es s) (Hp s (l.map enc)) (QbH (fun env H=>∃n',n'<l.length/\AtP Es Hp stepE stepN G enc h0 n' env H) Q)):TC P h0 N (.loop c) env H Q:=
 QkD (I:=AtP Es Hp stepE stepN G enc h0) (fun n env H ⟨s,l,hn,ha,hle⟩=>by subst hn;exact TC.le hle (body s l ha)) ⟨s0,l0,rfl,h,hI⟩
theorem Qiy{α β:Type}{f:α->β}:∀{m m':List β},m.Perm m'->∀{l:List α},m'=l.map f->∃l':List α,l'.Perm l/\l'.map f=m:=by
 intro m m' h
 induction h with
 |nil=>intro l hl;exact⟨[],by rw[List.map_eq_nil_iff.1 hl.symm],rfl⟩
 |cons x _ ih=>
  intro l hl
  cases l with
  |nil=>cases hl
  |cons a l=>
   simp only[List.map_cons,List.cons.injEq]at hl
   obtain⟨l',h1,h2⟩:=ih hl.2
   exact⟨a::l',h1.cons _,by simp[h2,hl.1]⟩
 |swap x y m=>
  intro l hl
  match l,hl with
  |a::b::l,hl=>
   simp only[List.map_cons,List.cons.injEq]at hl
   exact⟨b::a::l,List.Perm.swap _ _ _,by simp[hl.1,hl.2.1,hl.2.2]⟩
 |trans _ _ ih1 ih2=>
  intro l hl
  obtain⟨l1,h1,h2⟩:=ih2 hl
  obtain⟨l2,h3,h4⟩:=ih1 h2.symm
  exact⟨l2,h3.trans h1,h4⟩
theorem Qky{all:Array Oper}{L:List Oper}{d i:Nat}{x:Operand}{cur:Option (A×A)}{s:S}{l:List E}(hl:Qg0 stepE stepN G s l)
  (k0:∀b,stepN s=some b->G b->WO P h0 N all L (up env d (.tup [.bool false])) H Q)
  (k1:∀e l' D,stepE s e=some D->(∀b,D=.done b->G b)->(l'.length<l.length/\ ∀s',D=.cont s'->Qg0 stepE stepN G s' l')->
   WO P h0 N all L (up env d (.tup [.bool true,(enc e).1,(enc e).2])) (H.set i (.iter (some (enc e)) (l'.map enc))) Q)
  (ho:o.op=.next x false:=by exact rfl)(hx:opA env x=.ptr i 0:=by exact rfl)(hH:H[i]?=some (.iter cur (l.map enc)):=by exact rfl)
  (hg:Ql all o env true:=by exact rfl)(hd:o.dst=some d:=by exact rfl)(hN:Nat.blt d N=true:=by exact rfl)(hh:Nat.ble h0 H.length=true:=by exact rfl):WO P h0 N all (o::L) env H Q:=by
 refine QmQ (Nat.le_of_ble_eq_true hh) hg hd hN (OpE.next ho hx hH) ?_
 rintro v H' (⟨h1,rfl,rfl⟩|⟨e,es',h1,rfl,rfl⟩)
 ·have:l=[]:=List.map_eq_nil_iff.1 h1
  subst this
  obtain⟨b,q1,q2⟩:=hl [] (.refl _)
  exact k0 b q1 q2
 ·obtain⟨l1,q1,q2⟩:=Qiy h1 rfl
  cases l1 with
  |nil=>cases q2
  |cons a l'=>
   simp only[List.map_cons,List.cons.injEq]at q2
   obtain⟨rfl,rfl⟩:=q2
   have hlen:l'.length<l.length:=by rw[<- q1.length_eq];simp
   have hstep:∀p,p.Perm l'->∃b,QeA stepE stepN s (a::p)=some b/\G b:=fun p hp=>hl _ ((hp.cons a).trans q1)
   cases hD:stepE s a with
   |none=>
    obtain⟨b,hb,_⟩:=hstep l' (.refl _)
    simp[QeA,hD]at hb
   |some D=>
    refine k1 a l' D hD ?_ ⟨hlen,?_⟩
    ·rintro b rfl
     obtain⟨b',hb,hG⟩:=hstep l' (.refl _)
     simp[QeA,hD]at hb
     subst hb;exact hG
    ·rintro s' rfl p hp
     obtain⟨b',hb,hG⟩:=hstep p hp
     simp[QeA,hD]at hb
     exact⟨b',hb,hG⟩
theorem QmB{s:S}{l l':List E}{D:Ctl S B}(e:some (Ctl.cont s)=some D)(hc:l'.length<l.length/\ ∀s',D=.cont s'->Qg0 stepE stepN G s' l')(h:Le h0 env H (Es s) (Hp s (l'.map enc))):
  QbH (fun env H=>∃n',n'<l.length/\AtP Es Hp stepE stepN G enc h0 n' env H) Q .normal env H:=
 ⟨_,hc.1,s,l',rfl,hc.2 _ (Option.some.inj e).symm,h⟩
theorem QmA{I:Env->Qc->Prop}{id:Nat}(h:Q (.exit id) env H):QbH I Q (.exit id) env H:=h
end
def Ql3{B:Type}(h0:Nat)(G:B->Prop)(Eb:B->Env)(Hb:B->Qc)(Q:Qm):Qm
 |.normal,env,H=>∃b,G b/\Le h0 env H (Eb b) (Hb b)
 |.exit id,env,H=>Q (.exit id) env H
 |.ret,env,H=>Q .ret env H
theorem QlC{S E B:Type}{stepE:S->E->Option (Ctl S B)}{stepN:S->Option B}{G:B->Prop}{s0:S}{l0:List E}(hl:Qg0 stepE stepN G s0 l0)(Eb:B->Env)(Hb:B->Qc)
  (h:TC P h0 N c env H (Ql3 h0 G Eb Hb Q))(k:∀b env H,G b->Le h0 env H (Eb b) (Hb b)->Q .normal env H):TC P h0 N c env H Q:=
 h.mono fun x env' H' q=>by
  cases x with
  |normal=>obtain⟨b,e,q⟩:=q;exact k b _ _ e q
  |exit id=>exact q
  |ret=>exact q
theorem cutGN{B:Type}{G:B->Prop}{Eb:B->Env}{Hb:B->Qc}{b:B}(hG:G b)(h:Le h0 env H (Eb b) (Hb b)):Ql3 h0 G Eb Hb Q .normal env H:=⟨b,hG,h⟩
theorem Qjc{i:Nat}{cur:Option (A×A)}{es:List (A×A)}{H':Qc}(hH:H[i]?=some (.iter cur es))(hH':H.set i (.iter none es)=H'):Le h0 env H env H':=by
 subst hH'
 intro fr ro σ N a w r
 refine⟨ro,σ,⟨r.sim.weaken (x':=.iter none es) hH rfl ?_,r.env,r.size,r.defers⟩,fun _ q=>q,rfl⟩
 intro y h
 cases y with
 |none=>exact h
 |some b=>
  rcases h with⟨h1,h2,h3⟩|⟨m,l,clock,seen,left,h1,h2,h3,h4,h5,h6,h7,h8⟩
  ·exact .inl ⟨h1,rfl,h3⟩
  ·exact .inr ⟨m,l,clock,seen,left,h1,h2,h3,h4,h5,h6,h7,fun x hx=>by cases hx⟩
end
end Go.Sw
namespace Go.Sw
def mk{α:Type}(n:Int)(z:α):Option (List α):=bif decide (0<=n)&&decide (n<=4294967296)then some (List.replicate n.toNat z)else none
section
variable {P:Program}{o:Oper}{env:Env}{H:Qc}{ro:Nat->Prop}{σ:Sig}{w:World}
theorem LR.replicate{az:List A}{l:List Value}(h:LR ro σ w az l):∀n,LR ro σ w (List.replicate n az).flatten (List.replicate n l).flatten
 |0=>rfl
 |n+1=>by
  rw[List.replicate_succ,List.replicate_succ]
  exact h.append (LR.replicate h n)
end
end Go.Sw
namespace Go.Sw
open Go.Sort Go.Proofs Go.Shelf
section
variable {α:Type}
def ins(lt:α->α->Bool)(x:α):List α->List α
 |[]=>[x]
 |y::l=>bif lt y x then y::ins lt x l else x::y::l
def Y4(lt:α->α->Bool):List α->List α
 |[]=>[]
 |x::l=>ins lt x (Y4 lt l)
theorem Qd4(lt:α->α->Bool)(x:α):∀l,(ins lt x l).Perm (x::l)
 |[]=>.refl _
 |y::l=>by
  unfold ins
  cases lt y x
  ·exact .refl _
  ·exact((Qd4 lt x l).cons y).trans (List.Perm.swap _ _ _)
theorem QL(lt:α->α->Bool):∀l,(Y4 lt l).Perm l
 |[]=>.refl _
 |x::l=>(Qd4 lt x _).trans ((QL lt l).cons x)
structure Qdf (lt:α->α->Bool) (l:List α):Prop where
 irrefl:∀x∈l,lt x x=false
 trans:∀x∈l,∀y∈l,∀z∈l,lt x y=true->lt y z=true->lt x z=true
 ntrans:∀x∈l,∀y∈l,∀z∈l,lt x y=false->lt y z=false->lt x z=false
theorem Qdf.mono{lt:α->α->Bool}{l m:List α}(h:Qdf lt l)(hm:∀x∈m,x∈l):Qdf lt m:=
 ⟨fun x hx=>h.irrefl x (hm x hx),fun x hx y hy z hz=>h.trans x (hm x hx) y (hm y hy) z (hm z hz),fun x hx y hy z hz=>h.ntrans x (hm x hx) y (hm y hy) z (hm z hz)⟩
theorem Qdf.asymm{lt:α->α->Bool}{l:List α}(h:Qdf lt l){x y:α}(hx:x∈l)(hy:y∈l)(hxy:lt x y=true):lt y x=false:=by
 cases q:lt y x
 ·rfl
 ·rw[<- h.irrefl x hx,h.trans x hx y hy x hx hxy q]
theorem Qd3{lt:α->α->Bool}{x:α}:∀{l:List α},Qdf lt (x::l)->l.Pairwise (fun a b=>lt b a=false)->(ins lt x l).Pairwise (fun a b=>lt b a=false)
 |[],_,_=>by simp[ins]
 |y::l,h,hp=>by
  obtain⟨h1,h2⟩:=List.pairwise_cons.1 hp
  unfold ins
  cases q:lt y x
  ·refine List.pairwise_cons.2 ⟨fun z hz=>?_,hp⟩
   rcases List.mem_cons.1 hz with rfl|hz
   ·exact q
   ·exact h.ntrans z (by simp[hz]) y (by simp) x (by simp) (h1 z hz) q
  ·refine List.pairwise_cons.2 ⟨fun z hz=>?_,Qd3 (h.mono (by intro z hz;rcases List.mem_cons.1 hz with rfl|hz<;>simp[*])) h2⟩
   rcases List.mem_cons.1 ((Qd4 lt x l).mem_iff.1 hz)with rfl|hz
   ·exact h.asymm (by simp) (by simp) q
   ·exact h1 z hz
theorem Yx{lt:α->α->Bool}:∀{l:List α},Qdf lt l->(Y4 lt l).Pairwise (fun a b=>lt b a=false)
 |[],_=>by simp[Y4]
 |x::l,h=>Qd3 (h.mono (by
   intro z hz
   rcases List.mem_cons.1 hz with rfl|hz
   ·simp
   ·exact List.mem_cons_of_mem _ ((QL lt l).mem_iff.1 hz))) (Yx (h.mono fun z hz=>List.mem_cons_of_mem _ hz))
theorem Qa8{lt:α->α->Bool}:∀{l m:List α},l.Perm m->(∀x∈l,∀y∈l,lt x y=false->lt y x=false->x=y)->l.Pairwise (fun a b=>lt b a=false)->m.Pairwise (fun a b=>lt b a=false)->l=m
 |[],m,h,_,_,_=>by rw[List.nil_perm.1 h]
 |x::l,[],h,_,_,_=>by have:=h.length_eq;simp at this
 |x::l,y::m,h,ha,hl,hm=>by
  obtain⟨l1,l2⟩:=List.pairwise_cons.1 hl
  obtain⟨m1,m2⟩:=List.pairwise_cons.1 hm
  have hy:y∈x::l:=h.mem_iff.2 (by simp)
  have hx:x∈y::m:=h.mem_iff.1 (by simp)
  have hxy:x=y:=by
   rcases List.mem_cons.1 hy with e|hy'
   ·exact e.symm
   ·rcases List.mem_cons.1 hx with e|hx'
    ·exact e
    ·exact ha x (by simp) y (by simp[hy']) (m1 x hx') (l1 y hy')
  subst hxy
  rw[Qa8 ((List.perm_cons x).1 h) (fun a ha' b hb'=>ha a (by simp[ha']) b (by simp[hb'])) l2 m2]
def ltO(cf:α->α->Option Int)(x y:α):Bool:=match cf x y with
 |some c=>decide (c<0)
 |none=>false
def QgJ[DecidableEq α](cf:α->α->Option Int)(l:List α):Bool:=
 l.all fun x=> !ltO cf x x&&l.all fun y=>(cf x y).isSome&&(ltO cf x y||ltO cf y x||decide (x=y))&&l.all fun z=>(!ltO cf x y|| !ltO cf y z||ltO cf x z)&&(ltO cf x y||ltO cf y z|| !ltO cf x z)
def QcX[DecidableEq α](cf:α->α->Option Int)(l:List α):Option (List α):=bif Nat.ble l.length Yb&&QgJ cf l then some (Y4 (ltO cf) l)else none
theorem Qf3[DecidableEq α]{cf:α->α->Option Int}{l l':List α}(h:QcX cf l=some l'):
  l.length<=Yb/\(∀x∈l,∀y∈l,∃c,cf x y=some c)/\Qdf (ltO cf) l/\(∀x∈l,∀y∈l,ltO cf x y=false->ltO cf y x=false->x=y)/\Y4 (ltO cf) l=l':=by
 unfold QcX at h
 cases q0:Nat.ble l.length Yb with
 |false=>rw[q0]at h;cases h
 |true=>
 rw[q0,Bool.true_and]at h
 cases q:QgJ cf l with
 |false=>rw[q]at h;cases h
 |true=>
  rw[q]at h
  refine⟨Nat.le_of_ble_eq_true q0,?_⟩
  unfold QgJ at q
  simp only[List.all_eq_true,Bool.and_eq_true,Bool.not_eq_true',Bool.or_eq_true,decide_eq_true_eq]at q
  refine⟨fun x hx y hy=>Option.isSome_iff_exists.1 ((q x hx).2 y hy).1.1,⟨fun x hx=>(q x hx).1,fun x hx y hy z hz h1 h2=>?_,fun x hx y hy z hz h1 h2=>?_⟩,fun x hx y hy h1 h2=>?_,Option.some.inj h⟩
  ·rcases(((q x hx).2 y hy).2 z hz).1 with(h3|h3)|h3
   ·rw[h1]at h3;cases h3
   ·rw[h2]at h3;cases h3
   ·exact h3
  ·rcases(((q x hx).2 y hy).2 z hz).2 with(h3|h3)|h3
   ·rw[h1]at h3;cases h3
   ·rw[h2]at h3;cases h3
   ·exact h3
  ·rcases((q x hx).2 y hy).1.2 with(h3|h3)|h3
   ·rw[h1]at h3;cases h3
   ·rw[h2]at h3;cases h3
   ·exact h3
theorem Qjv[DecidableEq α]{cf:α->α->Option Int}{l:List α}(hmax:l.length<=Yb)(c:α->α->Int)(hc:∀x∈l,∀y∈l,cf x y=some (c x y))(hi:∀x∈l,¬c x x<0)
  (ht:∀x∈l,∀y∈l,∀z∈l,c x y<0->c y z<0->c x z<0)(hn:∀x∈l,∀y∈l,∀z∈l,¬c x y<0->¬c y z<0->¬c x z<0)(ha:∀x∈l,∀y∈l,¬c x y<0->¬c y x<0->x=y):
  QcX cf l=some (Y4 (ltO cf) l):=by
 have hl:∀x∈l,∀y∈l,ltO cf x y=decide (c x y<0):=fun x hx y hy=>by unfold ltO;rw[hc x hx y hy]
 have q:QgJ cf l=true:=by
  unfold QgJ
  simp only[List.all_eq_true,Bool.and_eq_true,Bool.not_eq_true',Bool.or_eq_true,decide_eq_true_eq]
  intro x hx
  refine⟨by rw[hl x hx x hx];simpa using hi x hx,fun y hy=>⟨⟨by rw[hc x hx y hy];rfl,?_⟩,fun z hz=>?_⟩⟩
  ·rw[hl x hx y hy,hl y hy x hx]
   by_cases h1:c x y<0
   ·simp[h1]
   ·by_cases h2:c y x<0
    ·simp[h2]
    ·exact .inr (ha x hx y hy h1 h2)
  ·rw[hl x hx y hy,hl y hy z hz,hl x hx z hz]
   have h1:=ht x hx y hy z hz
   have h2:=hn x hx y hy z hz
   by_cases a:c x y<0<;>by_cases b:c y z<0<;>by_cases d:c x z<0<;>simp_all
 unfold QcX
 rw[q,Nat.ble_eq_true_of_le hmax];rfl
theorem QeL[DecidableEq α]{cf:α->α->Option Int}{l l':List α}(h:QcX cf l=some l'):l.length=l'.length:=by
 rw[<- (Qf3 h).2.2.2.2];exact(QL _ _).length_eq.symm
theorem Qb7{l l':List α}{i:Int}{x:α}(h:Qez l i x=some l'):l.length=l'.length:=by
 unfold Qez at h
 cases q:(decide (0<=i)&&decide (i<(l.length:Int)))with
 |true=>rw[q]at h;rw[<- Option.some.inj h];simp
 |false=>rw[q]at h;cases h
theorem Q3{h0:Nat}{env:Env}{H:Qc}{s:Nat}{a a':A}(h:lk env s=a)(e:a=a'):Le h0 env H (up env s a') H:=by
 intro fr ro σ N act w r
 refine⟨ro,σ,⟨r.sim,fun s'=>?_,r.size,r.defers⟩,fun _ q=>q,rfl⟩
 subst e
 have:lk (up env s a) s'=lk env s':=by
  simp only[lk]
  cases q:Nat.beq s' s with
  |true=>rw[Nat.eq_of_beq_eq_true q,h];rfl
  |false=>rfl
 rw[this];exact r.env s'
end
section
variable {fr ro:Nat->Prop}{σ:Sig}{H:Qc}{w w':World}
theorem Qc9(hh:∀b,b<w.heap.size->w'.heap[b]?=w.heap[b]?)(hro:∀b,ro b->b<w.heap.size)(σ:Sig):Ext ro σ w ro σ w':=
 ⟨fun _ q=>q,fun b hb=>hh b (hro b hb),fun b x hx=>by unfold World.shape? at hx⊢;rw[hh b (Qb6 hx)];exact hx,fun _ _ q=>q⟩
theorem Sim.grown(s:Sim fr ro σ H w)(hh:∀b,b<w.heap.size->w'.heap[b]?=w.heap[b]?)(hs:w.heap.size<=w'.heap.size):Sim fr ro σ H w':=by
 refine⟨s.len,s.roOk.to (fun _ q=>q) (fun b q=>hh b (s.roLt b q)) (fun b h=>Nat.lt_of_lt_of_le (s.roLt b h) hs),fun b h=>Nat.lt_of_lt_of_le (s.frLt b h) hs,s.roFr,fun i b x h1 h2 h3=>?_,s.inj,fun i y x h1 h2=>?_,s.hidTo (· = ·) QJ hs (fun _ _ _ _ _ _ _ q=>q) (fun _ _ _ _ _ _ _ q=>q) fun j d y g1 g2 g3=>.inl ⟨j,y,rfl,g1,g2,id,fun c q=>s.hidKeep g1 g2 (fun z=>hh d (s.own j d y g1 g2 z).1) (fun b q=>hh b (s.roLt b q)) q⟩⟩
 ·obtain⟨p,q⟩:=s.own i b x h1 h2 h3
  exact⟨Nat.lt_of_lt_of_le p hs,q⟩
 ·refine(s.blk i y x h1 h2).keep (Qc9 hh s.roLt σ) ?_ ?_
  ·rintro b rfl hl
   exact hh b (s.own i b x h1 h2 hl).1
  ·rintro b c rfl hl
   exact hh c (s.hid i b x c h1 h2 hl).lt
theorem Qe.grown(hh:∀b,b<w.heap.size->w'.heap[b]?=w.heap[b]?)(hs:w.heap.size<=w'.heap.size)(s:Sim fr ro σ H w)(ho:w'.os=w.os)(ht:w'.tape=w.tape)(hu:w'.output=w.output)(hd:w.drawn<=w'.drawn):Qe fr ro w ro w':=
 ⟨fun _ q=>q,fun b h=>hh b (s.roLt b h),fun b h=>hh b (s.frLt b h),hs,(Qc9 hh s.roLt σ).shape,ho,ht,hu,hd⟩
theorem Qln(hh:∀b,b<w.heap.size->w'.heap[b]?=w.heap[b]?)(hs:w.heap.size<=w'.heap.size)(ho:w'.os=w.os)(ht:w'.tape=w.tape)(hu:w'.output=w.output)(hd:w.drawn<=w'.drawn):
  ∃q os',w'=grow (w.drewN q) os':=by
 refine⟨w'.drawn-w.drawn,w'.heap.extract w.heap.size w'.heap.size,?_⟩
 obtain⟨h',t',d',o',u'⟩:=w'
 simp only at hh hs ho ht hu hd
 subst ho ht hu
 unfold grow World.drewN
 have e1:h'=w.heap++h'.extract w.heap.size h'.size:=by
  apply Array.ext_getElem?
  intro i
  rw[Array.getElem?_append]
  split
  ·rename_i hi;exact hh i hi
  ·rename_i hi
   rw[Array.getElem?_extract]
   split
   ·rename_i hj
    congr 1;omega
   ·rename_i hj
    rw[Array.getElem?_eq_none];omega
 have e2:d'=w.drawn+(d'-w.drawn):=by omega
 rw[<- e1, <- e2]
end
end Go.Sw
namespace Go.Sw
open Go.Sort Go.Proofs Go.Shelf
theorem Qc8{α:Type}{k:Nat}:∀(vs:List (List α)) (j:Nat),(∀v∈vs,v.length=k)->j<vs.length*k->vs.flatten[j]?=(vs[j/k]?).bind fun v=>v[j%k]?
 |[],j,_,h=>by simp at h
 |v::vs,j,hk,h=>by
  have hv:=hk v (by simp)
  have k0:0<k:=by
   rcases Nat.eq_zero_or_pos k with q|q
   ·subst q;simp at h
   ·exact q
  rw[List.flatten_cons]
  by_cases q:j<k
  ·rw[List.getElem?_append_left (by omega),Nat.div_eq_of_lt q,Nat.mod_eq_of_lt q]
   simp
  ·rw[List.getElem?_append_right (by omega),hv,Qc8 vs (j-k) (fun v hv=>hk v (by simp[hv])) (by simp[Nat.succ_mul]at h;omega)]
   have e1:j/k=(j-k)/k+1:=by rw[Nat.div_eq_sub_div k0 (by omega)]
   have e2:j%k=(j-k)%k:=Nat.mod_eq_sub_mod (by omega)
   rw[e1,e2,List.getElem?_cons_succ]
theorem Qai{α:Type}{k:Nat}:∀(vs:List (List α)),(∀v∈vs,v.length=k)->vs.flatten.length=vs.length*k
 |[],_=>by simp
 |v::vs,h=>by rw[List.flatten_cons,List.length_append,Qai vs (fun v hv=>h v (by simp[hv])),h v (by simp),List.length_cons,Nat.succ_mul];omega
theorem QaT{α:Type}(F:List α)(j:Nat):F.toArray[j]?=F[j]? :=by simp
theorem Qgo{α:Type}[Inhabited α](F:List α)(j:Nat)(h:j<F.length):F[j]?=some (F.toArray[j]!):=by simp[h]
theorem Qgt{β:Type}[Inhabited β]{enc:β->List Value}{k:Nat}(hk:∀x,(enc x).length=k)(d:Array β):flatK enc k d=((d.toList.map enc).flatten).toArray:=by
 have hl:∀v∈d.toList.map enc,v.length=k:=by
  intro v hv
  obtain⟨x,_,rfl⟩:=List.mem_map.1 hv
  exact hk x
 apply Array.ext_getElem?
 intro t
 rw[QaT ((d.toList.map enc).flatten) t]
 by_cases h:t<d.size*k
 ·rw[Qc8 _ t hl (by simpa using h)]
  have k0:0<k:=by
   rcases Nat.eq_zero_or_pos k with q|q
   ·subst q;simp at h
   ·exact q
  have h1:t/k<d.size:=Nat.div_lt_of_lt_mul (by rw[Nat.mul_comm];exact h)
  have h2:t%k<k:=Nat.mod_lt _ k0
  have h3:t<(flatK enc k d).size:=by simpa using h
  have e:=get_flatK enc k d t h
  rw[getElem!_pos (flatK enc k d) t h3]at e
  rw[Array.getElem?_eq_getElem h3,e]
  simp[h1]
  rw[List.getElem?_eq_getElem (by rw[hk];exact h2)]
  rfl
 ·have e:(d.toList.map enc).flatten.length=d.size*k:=by rw[Qai _ hl];simp
  rw[Array.getElem?_eq_none (by simpa using h),List.getElem?_eq_none (by rw[e];omega)]
section
variable {ro:Nat->Prop}{σ:Sig}{w:World}{T:Type}{enc:T->List A}{k:Nat}
theorem QgR:∀{l:List T}{lv:List Value},RL ro σ w k (l.map enc) lv->
  ∃(ps:List (T×List Value)) (rest:List Value),ps.map (·.1)=l/\lv=(ps.map (·.2)).flatten++rest/\ ∀p∈ps,p.2.length=k/\LR ro σ w (enc p.1) p.2/\ ∀v∈p.2,Qk v
 |[],lv,_=>⟨[],lv,rfl,rfl,by simp⟩
 |x::l,lv,h=>by
  obtain⟨l1,l2,rfl,h1,⟨h2,h3⟩,h4⟩:=h
  obtain⟨ps,rest,e1,rfl,h5⟩:=QgR (l:=l) h4
  refine⟨(x,l1)::ps,rest,by simp[e1],by simp,?_⟩
  intro p hp
  rcases List.mem_cons.1 hp with rfl|hp
  ·exact⟨by rw[h2.length];exact h1,h2,h3⟩
  ·exact h5 p hp
theorem Qdi(hk:∀x:T,(enc x).length=k):∀{ps:List (T×List Value)}{rest:List Value},(∀p∈ps,LR ro σ w (enc p.1) p.2/\ ∀v∈p.2,Qk v)->RL ro σ w k ((ps.map (·.1)).map enc) ((ps.map (·.2)).flatten++rest)
 |[],_,_=>trivial
 |p::ps,rest,h=>by
  refine⟨p.2,(ps.map (·.2)).flatten++rest,by simp,hk _,h p (by simp),Qdi hk fun q hq=>h q (by simp[hq])⟩
end
structure Elt (ro:Nat->Prop) (w:World) {T:Type} (enc:T->List A) (k:Nat) (l:List T) where
 x:T
 vs:List Value
 mem:x∈l
 len:vs.length=k
 rel:LR ro [] w (enc x) vs
 plain:∀v∈vs,Qk v
theorem Qix{v:Value}(h:Qk v):v.oneCell'=true:=by cases v<;>first|rfl|exact h.elim
theorem QlI{P:Program}{ρ:Ren}(L:SlLaysF0.n6 P ρ){T:Type}[DecidableEq T]{enc:T->List A}{k t g:Nat}{cap:List A}{l l':List T}{cf:T->T->Option Int}(hs:QcX cf l=some l')
  (hcmp:∀x y c,cf x y=some c->C P g ([.agg (enc x),.agg (enc y)]++cap) [] (fun a H=>a=.int .i64 c/\H=[]))
  (aE:∀w,(isAgg (ρ.t 24)).run P w=.ok true w)(zE:∀w,(Go.sizeOf (ρ.t 24)).run P w=.ok k w)(eg:∀args w,(callFunc g args).run P w=.ok (.enter g args) w)
  (hk:∀x,(enc x).length=k)(hd:Yj cap=true):
  C P (ρ.f 6) [.osl 0 0 l.length k,.fn (.func g) [] cap] [.row t k (l.map enc)] (fun a H=>a=.tup []/\H=[.row t k (l'.map enc)]):=by
 intro fr ro σ vals w s hv
 obtain⟨vs,r1,rfl,hvs,vf,r2,rfl,hvf,hr⟩:=hv
 cases(show r2=[]from hr)
 obtain⟨lf,lc,rfl,h1,hcap⟩:=hvf
 cases(show lf=[]from h1)
 have hcap':LR ro [] w cap lc:=LR.data hd hcap
 obtain⟨hmax,hall,hswo,hanti,hl'⟩:=Qf3 hs
 have none_case:∀(ad:Option Addr) (c:Nat),vs=.slice ad 0 c->l=[]->
   Calls P (ρ.f 6) [vs,.func (.func g) #[] lc.toArray].toArray w fun e w'=>∃v r H' ro' τ,e=.returned v/\(r=.tup []/\H'=[.row t k (l'.map enc)])/\Sim fr ro' (σ++τ) H' w'/\VR ro' (σ++τ) w' r v/\Qe fr ro w ro' w':=by
  rintro ad c rfl rfl
  have hl0:l'=[]:=by rw[<- hl'];rfl
  subst hl0
  refine(AnyF.slices_SortFunc_none L ad c (.func (.func g) #[] lc.toArray) w).mono ?_
  rintro e w' ⟨rfl,rfl⟩
  exact⟨_,_,_,ro,[],rfl,⟨rfl,rfl⟩,by simpa using s,⟨[],rfl,rfl⟩,Qe.refl _ _ _⟩
 rcases hvs with⟨h0,rfl⟩|⟨b,p,cp,t',m,q1,rfl,q2,q3,q4,q5⟩
 ·exact none_case none 0 rfl (List.length_eq_zero_iff.1 h0)
 ·by_cases hl0:l=[]
  ·subst hl0
   exact none_case _ cp rfl rfl
  ·have hlp:0<l.length:=List.length_pos_iff.2 hl0
   obtain rfl:=q2 (Nat.lt_of_lt_of_le hlp q3)
   obtain⟨lv,e1,e2⟩:=s.blk 0 _ _ q1 rfl
   obtain⟨hb,hbro,hbfr⟩:=s.own 0 b _ q1 rfl rfl
   obtain⟨ps,rest,hps,rfl,hpp⟩:=QgR e2
   let α:=Elt ro w enc k l
   have hmem:∀p∈ps,p.1∈l:=fun p hp=>by rw[<- hps];exact List.mem_map_of_mem hp
   let ds:List α:=ps.attach.map fun p=>⟨p.1.1,p.1.2,hmem _ p.2,(hpp _ p.2).1,(hpp _ p.2).2.1,(hpp _ p.2).2.2⟩
   have hat:∀{γ:Type} (f:T×List Value->γ),ps.attach.map (fun p=>f p.1)=ps.map f:=fun f=>by simp
   have hdsx:ds.map (·.x)=l:=by
    show(ps.attach.map _).map _=_
    rw[List.map_map]
    exact(hat (·.1)).trans hps
   have hdsv:ds.map (·.vs)=ps.map (·.2):=by
    show(ps.attach.map _).map _=_
    rw[List.map_map]
    exact hat (·.2)
   have hdl:ds.length=l.length:=by rw[<- hdsx];simp
   have hds0:ds≠[]:=by intro q;rw[q]at hdl;simp at hdl;omega
   let inh:Inhabited α:=⟨ds.head hds0⟩
   let enc':α->List Value:=fun a=>a.vs
   let cf':α->α->Int:=fun x y=>(cf x.x y.x).getD 0
   have hlt:∀x y:α,ltOf cf' x y=ltO cf x.x y.x:=by
    intro x y
    obtain⟨c,hc⟩:=hall x.x x.mem y.x y.mem
    simp only[ltOf,ltO,cf',hc,Option.getD_some]
   have hO:SWO (ltOf cf'):=⟨fun x=>by rw[hlt];exact hswo.irrefl _ x.mem,fun x y z a b=>by rw[hlt]at*;exact hswo.trans _ x.mem _ y.mem _ z.mem a b,
    fun x y z a b=>by rw[hlt]at*;exact hswo.ntrans _ x.mem _ y.mem _ z.mem a b⟩
   have hk':∀x:α,(enc' x).length=k:=fun x=>x.len
   have hflat:flatK enc' k ds.toArray=((ps.map (·.2)).flatten).toArray:=by
    rw[Qgt hk']
    show((ds.map fun a=>a.vs).flatten).toArray=_
    rw[hdsv]
   have hpl:∀v∈ps.map (·.2),v.length=k:=by
    intro v hv
    obtain⟨p,hp,rfl⟩:=List.mem_map.1 hv
    exact(hpp p hp).1
   have hflen:(ps.map (·.2)).flatten.length=ds.length*k:=by rw[Qai _ hpl, <- hdsv];simp
   have hH:HoldsK enc' k w b (0*k) ds.toArray:=by
    intro j hj
    rw[hflat]at hj⊢
    simp only[List.size_toArray]at hj
    constructor
    ·unfold World.cell?
     simp only[e1,Option.isSome_none,Bool.false_eq_true,if_false,Nat.zero_mul,Nat.zero_add]
     rw[QaT,List.getElem?_append_left hj]
     exact Qgo _ _ hj
    ·unfold World.frozen?
     simp only[e1]
     simp
   have hheap:∀(d':Array α),d'.size=ds.toArray.size->(putRowK enc' k w b (0*k) d').heap=w.heap.setIfInBounds b (.cells (((d'.toList.map enc').flatten++rest)).toArray t (0,0)):=by
    intro d' hd'
    have hl2:(d'.toList.map enc').flatten.length=(ps.map (·.2)).flatten.length:=by
     rw[Qai _ (k:=k) (by intro v hv;obtain⟨x,_,rfl⟩:=List.mem_map.1 hv;exact hk' x),hflen]
     simp at hd'⊢
     rw[hd']
    unfold putRowK putRow mapBlock
    show w.heap.modify b _=_
    rw[QbC e1]
    simp only[onCells]
    congr 2
    rw[Qgt hk']
    unfold putCells
    apply Array.ext_getElem?
    intro i
    simp only[Array.getElem?_mapIdx,QaT,Nat.zero_mul,Nat.zero_le,true_and,Nat.zero_add,Nat.sub_zero,List.size_toArray,id_eq]
    by_cases hi:i<(d'.toList.map enc').flatten.length
    ·rw[List.getElem?_append_left hi,List.getElem?_append_left (by rw[<- hl2];exact hi),List.getElem?_eq_getElem (by rw[<- hl2];exact hi),Qgo _ _ hi]
     exact congrArg some (if_pos hi)
    ·rw[List.getElem?_append_right (by omega),List.getElem?_append_right (by omega),hl2]
     cases(rest[i-(ps.map (·.2)).flatten.length]?)with
     |none=>rfl
     |some v=>
      rw[<- hl2]
      exact congrArg some (if_neg hi)
   have hbig:∀(m:Nat) (os:Array Obj) (d':Array α),d'.size=ds.toArray.size->
     (∀c,c<w.heap.size->c≠b->(sortWorldK enc' k w b (0*k) m d' os).heap[c]?=w.heap[c]?)/\(sortWorldK enc' k w b (0*k) m d' os).heap[b]?=some (.cells (((d'.toList.map enc').flatten++rest)).toArray t (0,0))/\
     w.heap.size<=(sortWorldK enc' k w b (0*k) m d' os).heap.size:=by
    intro m os d' hd'
    have e:(sortWorldK enc' k w b (0*k) m d' os).heap=w.heap.setIfInBounds b (.cells (((d'.toList.map enc').flatten++rest)).toArray t (0,0))++os:=by
     rw[<- hheap d' hd'];rfl
    rw[e]
    refine⟨fun c hc hcb=>?_,?_,by simp⟩
    ·rw[Array.getElem?_append_left (by simpa using hc),Array.getElem?_setIfInBounds,if_neg (fun q=>hcb q.symm)]
    ·rw[Array.getElem?_append_left (by simpa using hb),Array.getElem?_setIfInBounds,if_pos rfl,if_pos hb]
   have hshape:∀(m:Nat) (os:Array Obj) (d':Array α),d'.size=ds.toArray.size->∀c y,w.shape? c=some y->(sortWorldK enc' k w b (0*k) m d' os).shape? c=some y:=by
    intro m os d' hd' c y hy
    obtain⟨g1,g2,g3⟩:=hbig m os d' hd'
    by_cases hc:c=b
    ·subst hc
     unfold World.shape? at hy⊢
     rw[e1]at hy
     rw[g2]
     simp only[Option.some.injEq]at hy⊢
     rw[<- hy]
     congr 1
     simp only[List.size_toArray,List.length_append]
     rw[Qai _ (k:=k) (by intro v hv;obtain⟨x,_,rfl⟩:=List.mem_map.1 hv;exact hk' x),hflen]
     simp at hd'⊢
     rw[hd']
    ·unfold World.shape? at hy⊢
     rw[g1 c (Qb6 hy) hc];exact hy
   have hext:∀(m:Nat) (os:Array Obj) (d':Array α),d'.size=ds.toArray.size->∀τ,Ext ro τ w ro τ (sortWorldK enc' k w b (0*k) m d' os):=by
    intro m os d' hd' τ
    obtain⟨g1,g2,g3⟩:=hbig m os d' hd'
    exact⟨fun _ q=>q,fun c hc=>g1 c (s.roLt c hc) (fun q=>hbro (q▸hc)),hshape m os d' hd',fun _ _ q=>q⟩
   have hcl:CmpLays P g lc.toArray enc' k cf' b (0*k) ds.toArray.size w:=by
    intro m os dk hdk x y
    obtain⟨c,hc⟩:=hall x.x x.mem y.x y.mem
    have hext':=hext m os dk hdk []
    have hcc:=hcmp _ _ _ hc
    generalize hW:sortWorldK enc' k w b (0*k) m dk os=W at*
    have hWs:w.heap.size<=W.heap.size:=by rw[<- hW];exact(hbig m os dk hdk).2.2
    have sW:Sim (fun c=>c<W.heap.size/\ ¬ro c) ro [] [] W:=
     ⟨rfl,s.roOk.to (fun _ q=>q) hext'.keep (fun c hc=>Nat.lt_of_lt_of_le (s.roLt c hc) hWs),fun c hc=>hc.1,fun c hc hf=>hf.2 hc,fun i b x h=>by simp at h,fun i j b x y h=>by simp at h,fun i y x h=>by simp at h,fun i b x c h=>by simp at h⟩
    have hargs:LR ro [] W ([.agg (enc x.x),.agg (enc y.x)]++cap) ([.agg x.vs.toArray,.agg y.vs.toArray]++lc):=
     LR.append (show LR ro [] W [A.agg (enc x.x),A.agg (enc y.x)] [Value.agg x.vs.toArray,Value.agg y.vs.toArray]from⟨_,_,rfl,⟨x.vs,rfl,x.rel.mono hext'⟩,_,_,rfl,⟨y.vs,rfl,y.rel.mono hext'⟩,rfl⟩) (hcap'.mono hext')
    have hcalls:=hcc _ ro [] _ W sW hargs
    have hca:(([Value.agg x.vs.toArray,Value.agg y.vs.toArray]++lc).toArray:Array Value)= #[Value.agg (enc' x).toArray,Value.agg (enc' y).toArray]++lc.toArray:=by simp[enc']
    rw[hca]at hcalls
    refine hcalls.mono ?_
    rintro e w' ⟨v,r,H',ro',τ,rfl,⟨rfl,rfl⟩,s',hr',ev⟩
    refine⟨?_,?_⟩
    ·rw[show v=.int .i64 c from hr']
     simp only[cf',hc,Option.getD_some]
    ·refine Qln (fun c hc=>?_) ev.size ev.os ev.tape ev.output ev.drawn
     by_cases hro:ro c
     ·exact ev.keepRo c hro
     ·exact ev.keepFr c ⟨hc,hro⟩
   have hsz:ds.toArray.size=l.length:=by simpa using hdl
   have hcon:=AnyQ.slices_SortFunc L k aE zE enc' hk' (fun x v hv=>Qix (x.plain v hv)) cf' hO g lc.toArray b (0*k) cp ds.toArray w eg hcl hH hb (by rw[hsz];unfold Yb at hmax;omega)
   rw[hsz]at hcon
   refine hcon.mono ?_
   rintro e w' ⟨rfl,d',n,os,hperm,hsort,rfl⟩
   have hd':d'.size=ds.toArray.size:=hperm.1
   obtain⟨g1,g2,g3⟩:=hbig n os d' hd'
   have hp':d'.toList.Perm ds:=by
    have h:=hperm.2.2
    have x1:d'.extract 0 l.length=d':=by rw[<- hsz, <- hd'];exact Array.extract_size
    have x2:ds.toArray.extract 0 l.length=ds.toArray:=by rw[<- hsz];exact Array.extract_size
    rw[x1,x2]at h
    simpa using h
   have hres:d'.toList.map (·.x)=l':=by
    rw[<- hl']
    refine Qa8 (lt:=ltO cf) ?_ ?_ ?_ (Yx hswo)
    ·exact((hp'.map (·.x)).trans (by rw[hdsx])).trans (QL _ _).symm
    ·intro x hx y hy
     have hx':x∈l:=by rw[<- hdsx];exact(hp'.map (·.x)).mem_iff.1 hx
     have hy':y∈l:=by rw[<- hdsx];exact(hp'.map (·.x)).mem_iff.1 hy
     exact hanti x hx' y hy'
    ·rw[List.pairwise_iff_getElem]
     intro i j hi hj hij
     simp only[List.length_map]at hi hj
     simp only[List.getElem_map]
     rw[<- hlt]
     have:=hsort i j (Nat.zero_le _) hij (by rw[<- hsz, <- hd'];simpa using hj)
     rw[getElem!_pos d' j (by simpa using hj),getElem!_pos d' i (by simpa using hi)]at this
     simpa using this
   have hrl:RL ro [] (sortWorldK enc' k w b (0*k) n d' os) k (l'.map enc) ((d'.toList.map enc').flatten++rest):=by
    have e3:d'.toList.map enc'=(d'.toList.map fun a=>(a.x,a.vs)).map (·.2):=by simp[enc']
    have e4:l'=(d'.toList.map fun a=>(a.x,a.vs)).map (·.1):=by rw[<- hres];simp
    rw[e3,e4]
    refine Qdi hk ?_
    intro p hp
    obtain⟨a,_,rfl⟩:=List.mem_map.1 hp
    exact⟨a.rel.mono (hext n os d' hd' []),a.plain⟩
   have hev:Qe fr ro w ro (sortWorldK enc' k w b (0*k) n d' os):=
    ⟨fun _ q=>q,fun c hc=>g1 c (s.roLt c hc) (fun q=>hbro (q▸hc)),fun c hc=>g1 c (s.frLt c hc) (fun q=>hbfr (q▸hc)),g3,hshape n os d' hd',rfl,rfl,rfl,Nat.le_add_right _ _⟩
   have hlen1:σ.length=1:=s.len
   have hsim:Sim fr ro σ [.row t k (l'.map enc)] (sortWorldK enc' k w b (0*k) n d' os):=by
    have i0:∀{i:Nat}{x:Blk},([.row t k (l'.map enc)]:Qc)[i]?=some x->i=0/\x=.row t k (l'.map enc):=by
     intro i x h
     cases i with
     |zero=>simp at h;exact⟨rfl,h.symm⟩
     |succ i=>simp at h
    refine⟨hlen1,s.roOk.to (fun _ q=>q) hev.keepRo (fun c hc=>Nat.lt_of_lt_of_le (s.roLt c hc) g3),fun c hc=>Nat.lt_of_lt_of_le (s.frLt c hc) g3,s.roFr,fun i c x h1 h2 h3=>?_,fun i j c x y h1 h2 h3 h4 _ _=>?_,fun i y x h1 h2=>?_,fun i b x c h1 h2 h3=>by obtain⟨rfl,rfl⟩:=i0 h2;exact h3.elim⟩
    ·obtain⟨rfl,rfl⟩:=i0 h2
     obtain⟨p1,p2⟩:=s.own 0 c _ h1 rfl rfl
     exact⟨Nat.lt_of_lt_of_le p1 g3,p2⟩
    ·rw[(i0 h3).1,(i0 h4).1]
    ·obtain⟨rfl,rfl⟩:=i0 h2
     rw[q1]at h1
     cases h1
     exact⟨_,g2,hrl⟩
   exact⟨_,_,_,ro,[],rfl,⟨rfl,rfl⟩,by simpa using hsim,⟨[],rfl,rfl⟩,hev⟩
end Go.Sw
namespace Go.Sw
section
variable {P:Program}{o:Oper}{env:Env}{H:Qc}{fr ro:Nat->Prop}{σ:Sig}{w:World}
theorem Sim.addRo(s:Sim fr ro σ H w){b:Nat}(hb:b<w.heap.size)(hf:¬fr b)(ho:∀(i:Nat) (x:Blk),σ[i]?=some (some b)->H[i]?=some x->x.live=true->False)
  (hd:∀(i d:Nat) (x:Blk),σ[i]?=some (some d)->H[i]?=some x->Hid w x d b->False):Sim fr (fun c=>ro c\/c=b) σ H w:=by
 refine⟨s.len,s.roOk.to (fun _ q=>.inl q) (fun _ _=>rfl) ?_,s.frLt,?_,?_,s.inj,?_,s.hidTo (· = ·) QJ (Nat.le_refl _) (fun j d x c q1 q2 q3 q4=>q4.elim id fun q=>(hd j d x q1 q2 (q▸q3)).elim) (fun _ _ _ _ _ _ _ q=>q) fun j d y g1 g2 g3=>.inl ⟨j,y,rfl,g1,g2,id,fun _ q=>q⟩⟩
 ·rintro c (q|rfl)
  ·exact s.roLt c q
  ·exact hb
 ·rintro c (q|rfl)
  ·exact s.roFr c q
  ·exact hf
 ·intro i c x h1 h2 h3
  obtain⟨p1,p2,p3⟩:=s.own i c x h1 h2 h3
  refine⟨p1,?_,p3⟩
  rintro(q|rfl)
  ·exact p2 q
  ·exact ho i x h1 h2 h3
 ·intro i y x h1 h2
  exact(s.blk i y x h1 h2).keep ⟨fun _ q=>.inl q,fun _ _=>rfl,fun _ _ q=>q,fun _ _ q=>q⟩ (fun _ _ _=>rfl) (fun _ _ _ _=>rfl)
theorem Yr{T e k n:Nat}{xs:List Operand}{es:List (List A)}(E:Ys P T e k)(ho:o.op=.buildSlice T n (Qau 0 xs).toArray)(hn:xs.length=n)(hsz:Nat.ble (n*k) 16777216=true)
  (hk:(xs.all fun x=>Yc (opA env x))=true)(hes:QP env xs=es)(h4:allK k es)(hp:es.flatten.all Yo=true)(hd:Yj es.flatten=true):
  OpH P o env H (.rsl k es) H:=by
 intro fr ro σ N a w r
 subst hes
 obtain⟨l,h1,h2⟩:=QaD r E hn hsz hk h4
 have h2':LR ro [] w (QP env xs).flatten l:=h2.data hd
 have hold:∀b,b<w.heap.size->(w.alloc (.cells l.toArray e)).heap[b]?=w.heap[b]? :=fun b hb=>Q2 _ _ b hb
 have hsz1:w.heap.size<=(w.alloc (.cells l.toArray e)).heap.size:=by rw[Yd];omega
 have s1:=r.sim.grown hold hsz1
 have ev1:Qe fr ro w ro (w.alloc (.cells l.toArray e)):=Qe.alloc _ r.sim.roLt r.sim.frLt
 have s2:=s1.addRo (b:=w.heap.size) (by rw[Yd];omega) (fun q=>Nat.lt_irrefl _ (r.sim.frLt _ q)) (fun i x p1 p2 p3=>Nat.lt_irrefl _ (r.sim.own i _ x p1 p2 p3).1)
  (fun i d x p1 p2 p3=>Nat.lt_irrefl _ (r.sim.hid i d x _ p1 p2 (r.sim.hidKeep p1 p2 (fun z=>hold d (r.sim.own i d x p1 p2 z).1) (fun b q=>hold b (r.sim.roLt b q)) p3)).lt)
 have hrl:RL ro [] (w.alloc (.cells l.toArray e)) k (QP env xs) l:=by
  have:=YV (rest:=[]) h4 (h2'.mono (ev1.ext0 [])) (h2.plain hp)
  rwa [List.append_nil]at this
 have hlen:(QP env xs).length=n:=by simp[QP,hn]
 refine⟨_,_,fun c=>ro c\/c=w.heap.size,[],Qam ho a.eval h1,?_,by simpa using s2,ev1.trans (Yn fun _ q=>.inl q)⟩
 refine⟨some ⟨w.heap.size,0,none⟩,n,by rw[hlen],by rw[hlen];exact Nat.le_refl _,.inr ⟨w.heap.size,0,rfl,.inr rfl,?_⟩⟩
 have hnew:(w.alloc (.cells l.toArray e)).heap[w.heap.size]?=some (.cells (([]:List Value)++l).toArray e (0,0)):=QX _ _
 have:=YI (pre:=[]) hnew hrl
 exact this.keep ⟨fun _ q=>.inl q,fun _ _=>rfl,fun _ _ q=>q,fun _ _ q=>q⟩ rfl
end
inductive QhS:List A->List A->Prop
 |nil:QhS [] []
 |eq {a:A}{l m:List A} (h:QhS l m):QhS (a::l) (a::m)
 |nl {k:Nat}{l m:List A} (h:QhS l m):QhS (.nils::l) (.rsl k []::m)
theorem LR.nils{ro:Nat->Prop}{σ:Sig}{w:World}{l1 bs:List A}(h:QhS l1 bs):∀{l:List Value},LR ro σ w l1 l->LR ro σ w bs l:=by
 induction h with
 |nil=>intro l h;exact h
 |eq _ ih=>rintro l ⟨v,l',e,h1,h2⟩;exact⟨v,l',e,h1,ih h2⟩
 |nl _ ih=>rintro l ⟨v,l',e,h1,h2⟩;exact⟨v,l',e,⟨none,0,h1,Nat.le_refl _,.inl rfl⟩,ih h2⟩
theorem C.nils{P:Program}{f:FuncId}{l1 bs:List A}{H:Qc}{Q:A->Qc->Prop}(hl:QhS l1 bs)(h:C P f bs H Q):C P f l1 H Q:=
 fun fr ro σ vals w s l=>h fr ro σ vals w s (LR.nils hl l)
end Go.Sw
namespace Go.Sw
def Qh(k:IntKind)(n:Int):Prop:=k.min<=n/\n<=k.max
def Qdd(w:World):Nat->Prop:=fun b=>b<w.heap.size
structure QkU {H:Type} (μ:DataW H->Nat):Prop where
 str:∀bytes,bytes.length<=μ (.lit (.string bytes))
 sl:∀e s,e.length<=μ (.slice e s)
 sle:∀e s,∀d∈e,μ d<=μ (.slice e s)
 ag:∀ps,∀d∈ps,μ d<=μ (.agg ps)
def RB(P:Program)(n:Nat)(t:TypeId)(T:Type)(e:T->List A)(wf:T->Prop):Prop:=
 ∀(H:Type) (enc:TypeId×Value->H) (w:World) (base:Nat) (spare:Nat->Bool) (held:Bool) (m:Nat) (cs:List Value) d,m<n->DataW.trod enc P w base spare held m t cs=some d->
  ∀μ:DataW H->Nat,QkU μ->μ d.1<=1048576->∃x:T,wf x/\LR (Qdd w) [] w (e x) cs/\ ∀v∈cs,Qk v
section
variable {P:Program}{n:Nat}{t:TypeId}{T:Type}{e:T->List A}{wf:T->Prop}
theorem RB.down(h:RB P (n+1) t T e wf):RB P n t T e wf:=fun H enc w base spare held m cs d hm=>h H enc w base spare held m cs d (Nat.lt_succ_of_lt hm)
theorem Qdy(h:∀n,RB P n t T e wf->RB P (n+1) t T e wf):∀n,RB P n t T e wf
 |0=>fun H enc w base spare held m cs d hm=>absurd hm (Nat.not_lt_zero _)
 |n+1=>h n (Qdy h n)
theorem QF{T':Type}{e':T'->List A}{wf':T'->Prop}(h:RB P n t T e wf)(g:T->T')(he:∀x,e' (g x)=e x)(hw:∀x,wf x->wf' (g x)):RB P n t T' e' wf':=by
 intro H enc w base spare held m cs d hm hd μ hμ hwt
 obtain⟨x,h1,h2,h3⟩:=h H enc w base spare held m cs d hm hd μ hμ hwt
 exact⟨g x,hw x h1,by rw[he];exact h2,h3⟩
theorem RB.int{k:IntKind}(hu:P.underlying t=some (.int k)):RB P n t Int (Qj k) (Qh k):=by
 intro H enc w base spare held m cs d hm hd μ hμ hwt
 cases m with
 |zero=>simp[DataW.trod]at hd
 |succ m=>
  rcases cs with _|⟨v,_|⟨v2,r⟩⟩
  ·simp[DataW.trod,hu]at hd
  ·cases v<;>simp[DataW.trod,hu]at hd
   rename_i k' n'
   obtain⟨⟨rfl,hw⟩,_⟩:=hd
   refine⟨n',?_,⟨_,_,rfl,rfl,rfl⟩,by simp[Qk]⟩
   simpa[Lit.wf,Qh]using hw
  ·simp[DataW.trod,hu]at hd
theorem RB.bool(hu:P.underlying t=some .bool):RB P n t Bool encB (fun _=>True):=by
 intro H enc w base spare held m cs d hm hd μ hμ hwt
 cases m with
 |zero=>simp[DataW.trod]at hd
 |succ m=>
  rcases cs with _|⟨v,_|⟨v2,r⟩⟩
  ·simp[DataW.trod,hu]at hd
  ·cases v<;>simp[DataW.trod,hu]at hd
   rename_i b
   exact⟨b,trivial,⟨_,_,rfl,rfl,rfl⟩,by simp[Qk]⟩
  ·simp[DataW.trod,hu]at hd
theorem RB.string(hu:P.underlying t=some .string):RB P n t (List UInt8) encS (fun s=>s.length<=1048576):=by
 intro H enc w base spare held m cs d hm hd μ hμ hwt
 cases m with
 |zero=>simp[DataW.trod]at hd
 |succ m=>
  rcases cs with _|⟨v,_|⟨v2,r⟩⟩
  ·simp[DataW.trod,hu]at hd
  ·cases v<;>simp[DataW.trod,hu]at hd
   rename_i s
   obtain⟨_,rfl⟩:=hd
   exact⟨s.data.toList,Nat.le_trans (hμ.str _) hwt,⟨_,_,rfl,rfl,rfl⟩,by simp[Qk]⟩
  ·simp[DataW.trod,hu]at hd
theorem QbV{α:Type}{f:Nat->Option α}:∀{n:Nat}{l:List α},(List.range n).mapM f=some l->l.length=n/\ ∀i,i<n->∃y,f i=some y/\l[i]?=some y
 |0,l,h=>by simp at h;subst h;exact⟨rfl,fun i hi=>absurd hi (Nat.not_lt_zero _)⟩
 |n+1,l,h=>by
  rw[List.range_succ,List.mapM_append]at h
  cases h1:(List.range n).mapM f with
  |none=>simp[h1]at h
  |some l1=>
   cases h2:f n with
   |none=>simp[h1,h2]at h
   |some y=>
    simp[h1,h2]at h
    subst h
    obtain⟨e1,e2⟩:=QbV h1
    refine⟨by simp[e1],fun i hi=>?_⟩
    rcases Nat.lt_succ_iff_lt_or_eq.1 hi with q|rfl
    ·obtain⟨z,z1,z2⟩:=e2 i q
     exact⟨z,z1,by rw[List.getElem?_append_left (by omega)];exact z2⟩
    ·exact⟨y,h2,by rw[List.getElem?_append_right (by omega)];simp[e1]⟩
theorem Qdk{w:World}{ro:Nat->Prop}{b:Nat}:∀{cs:List A}{l:List Value}{off:Nat},LR ro [] w cs l->(∀v∈l,Qk v)->(∀i,i<l.length->w.cell? ⟨b,off+i,none⟩=l[i]?)->CR ro [] w b cs off
 |[],_,_,_,_,_=>trivial
 |a::cs,l,off,h,hp,hc=>by
  obtain⟨v,l',rfl,h1,h2⟩:=h
  refine⟨⟨v,by simpa using hc 0 (by simp),hp v (by simp),h1⟩,Qdk h2 (fun v hv=>hp v (by simp[hv])) fun i hi=>?_⟩
  have:=hc (i+1) (by simpa using hi)
  rw[show off+1+i=off+(i+1)by omega,this]
  simp
theorem RB.slice{E:TypeId}{k:Nat}{s:TypeId}(hu:P.underlying s=some (.slice E))(hk:P.cellsOf E=k)(h0:Nat.blt 0 k=true)(hl:∀x,(e x).length=k)(h:RB P n E T e wf):
  RB P (n+1) s (List T) (Qkk k e) (fun l=>l.length<=1048576/\ ∀x∈l,wf x):=by
 intro H enc w base spare held m cs d hm hd μ hμ hwt
 have k0:0<k:=by simpa using h0
 cases m with
 |zero=>simp[DataW.trod]at hd
 |succ m=>
  rcases cs with _|⟨v,_|⟨v2,r⟩⟩
  ·simp[DataW.trod,hu]at hd
  ·cases v<;>try (simp[DataW.trod,hu]at hd;done)
   rename_i a len cap
   cases a with
   |none=>
    rcases len with _|len
    ·rcases cap with _|cap
     ·refine⟨[],⟨by simp,by simp⟩,⟨_,_,rfl,⟨none,0,rfl,Nat.le_refl _,.inl rfl⟩,rfl⟩,by simp[Qk]⟩
     ·simp[DataW.trod,hu]at hd
    ·simp[DataW.trod,hu]at hd
   |some a=>
    simp only[DataW.trod,hu]at hd
    split at hd
    ·rename_i hc
     obtain⟨c1,c2,c3⟩:=hc
     cases hm1:(List.range len).mapM (fun i=>(w.cells? base (a.add (i*P.cellsOf E)) (P.cellsOf E)).bind (DataW.trod enc P w base spare held m E))with
     |none=>rw[hm1]at hd;cases hd
     |some elems=>
      rw[hm1]at hd
      simp only[Option.bind_some,Option.map_eq_some_iff]at hd
      obtain⟨rest,_,rfl⟩:=hd
      have hlen0:elems.length<=1048576:=by
       have h1:=hμ.sl (elems.map (·.1)) (rest.map (·.1))
       rw[List.length_map]at h1
       exact Nat.le_trans h1 hwt
      have hwA:∀y∈elems,μ y.1<=1048576:=fun y hy=>Nat.le_trans (hμ.sle _ (rest.map (·.1)) _ (List.mem_map_of_mem hy)) hwt
      obtain⟨e1,e2⟩:=QbV hm1
      have raw:∀i,i<len->∃(x:T) (l:List Value),wf x/\LR (Qdd w) [] w (e x) l/\(∀v∈l,Qk v)/\l.length=k/\ ∀j,j<k->w.cell? ((a.add (i*k)).add j)=l[j]? :=by
       intro i hi
       obtain⟨y,y1,y2⟩:=e2 i hi
       rw[hk]at y1
       cases hcs:w.cells? base (a.add (i*k)) k with
       |none=>rw[hcs]at y1;cases y1
       |some l=>
        rw[hcs]at y1
        obtain⟨x,x1,x2,x3⟩:=h H enc w base spare held m l y (by omega) y1 μ hμ (hwA y (List.mem_of_getElem? y2))
        refine⟨x,l,x1,x2,x3,by rw[x2.length];exact hl x,fun j hj=>?_⟩
        unfold World.cells? at hcs
        split at hcs
        ·obtain⟨_,z2⟩:=QbV hcs
         obtain⟨v,v1,v2⟩:=z2 j hj
         rw[v2, <- v1]
        ·cases hcs
      by_cases hlen:len=0
      ·subst hlen
       exact⟨[],⟨by simp,by simp⟩,⟨_,_,rfl,⟨some a,cap,rfl,Nat.zero_le _,.inl rfl⟩,rfl⟩,by simp[Qk]⟩
      ·have first:a.spot=none/\a.block<w.heap.size:=by
        obtain⟨x',l,p1,p2,p3,p4,p5⟩:=raw 0 (by omega)
        have h5:=p5 0 k0
        have hl0:l[0]?=some l[0]:=List.getElem?_eq_getElem (by omega)
        have ea:(a.add (0*k)).add 0=a:=by simp[Addr.add]
        rw[hl0,ea]at h5
        unfold World.cell? at h5
        split at h5
        ·rename_i hh
         constructor
         ·cases q:a.spot with
          |none=>rfl
          |some z=>simp[q]at h5
         ·exact(Array.getElem?_eq_some_iff.1 hh).1
        ·cases h5
       obtain⟨hsp,hb⟩:=first
       have hadd:∀n,a.add n=⟨a.block,a.off+n,none⟩:=by
        intro n
        cases a
        simp only at hsp
        subst hsp
        unfold Addr.add
        split
        ·rename_i q;subst q;rfl
        ·rfl
       have hadd2:∀(b o n:Nat),(⟨b,o,none⟩:Addr).add n=⟨b,o+n,none⟩:=by
        intro b o n
        unfold Addr.add
        split
        ·rename_i q;subst q;rfl
        ·rfl
       have pick:∀q i,len-i=q->i<=len->∃xs:List T,xs.length=len-i/\(∀x∈xs,wf x)/\RR (Qdd w) [] w a.block k (xs.map e) (a.off+i*k):=by
        intro q
        induction q with
        |zero=>intro i hq hi;exact⟨[],by simp[hq],by simp,trivial⟩
        |succ q ih=>
         intro i hq hi
         obtain⟨xs,w1,w2,w4⟩:=ih (i+1) (by omega) (by omega)
         obtain⟨x,l,p1,p2,p3,p4,p5⟩:=raw i (by omega)
         refine⟨x::xs,by simp[w1];omega,by intro y hy;rcases List.mem_cons.1 hy with rfl|hy;exact p1;exact w2 y hy,hl x,?_,?_⟩
         ·refine Qdk p2 p3 fun j hj=>?_
          have h5:=p5 j (by omega)
          rw[hadd,hadd2]at h5
          exact h5
         ·rw[Nat.succ_mul, <- Nat.add_assoc]at w4
          exact w4
       obtain⟨xs,w1,w2,w4⟩:=pick len 0 (by omega) (Nat.zero_le _)
       rw[Nat.zero_mul,Nat.add_zero]at w4
       rw[Nat.sub_zero]at w1
       refine⟨xs,⟨by rw[w1, <- e1];exact hlen0,w2⟩,⟨_,_,rfl,⟨some a,cap,by simp[w1],by simp[w1];exact c2,.inr ⟨a.block,a.off,?_,hb,w4⟩⟩,rfl⟩,by simp[Qk]⟩
       cases a
       simp only at hsp
       subst hsp;rfl
    ·cases hd
  ·simp[DataW.trod,hu]at hd
def RF(P:Program)(n:Nat)(fs:List Field)(off L:Nat)(T:Type)(e:T->List A)(wf:T->Prop):Prop:=
 ∀(H:Type) (enc:TypeId×Value->H) (w:World) (base:Nat) (spare:Nat->Bool) (held:Bool) (m:Nat) (cs:List Value) ds,m<n->cs.length=L->
  fs.mapM (fun f=>DataW.trod enc P w base spare held m f.type ((cs.drop f.offset).take (P.cellsOf f.type)))=some ds->
  ∀μ:DataW H->Nat,QkU μ->(∀y∈ds,μ y.1<=1048576)->∃x:T,wf x/\LR (Qdd w) [] w (e x) (cs.drop off)/\ ∀v∈cs.drop off,Qk v
theorem RF.nil{L:Nat}:RF P n [] L L Unit (fun _=>[]) (fun _=>True):=by
 intro H enc w base spare held m cs ds hm hl hd μ hμ hwt
 have:cs.drop L=[]:=List.drop_eq_nil_of_le (by omega)
 rw[this]
 exact⟨(),trivial,rfl,by simp⟩
theorem RF.cons{f:Field}{fs:List Field}{off L k:Nat}{T2:Type}{e2:T2->List A}{wf2:T2->Prop}(ho:f.offset=off)(hk:P.cellsOf f.type=k)(h:RB P n f.type T e wf)(r:RF P n fs (off+k) L T2 e2 wf2):
  RF P n (f::fs) off L (T×T2) (fun p=>e p.1++e2 p.2) (fun p=>wf p.1/\wf2 p.2):=by
 intro H enc w base spare held m cs ds hm hl hd μ hμ hwt
 rw[List.mapM_cons]at hd
 cases h1:DataW.trod enc P w base spare held m f.type ((cs.drop f.offset).take (P.cellsOf f.type))with
 |none=>simp[h1]at hd
 |some d=>
  cases h2:fs.mapM (fun f=>DataW.trod enc P w base spare held m f.type ((cs.drop f.offset).take (P.cellsOf f.type)))with
  |none=>simp[h1,h2]at hd
  |some ds'=>
   have hds:ds=d::ds':=by
    rw[h1,h2]at hd
    exact(Option.some.inj hd).symm
   subst hds
   rw[ho,hk]at h1
   obtain⟨x,x1,x2,x3⟩:=h H enc w base spare held m _ d hm h1 μ hμ (hwt d (by simp))
   obtain⟨y,y1,y2,y3⟩:=r H enc w base spare held m cs ds' hm hl h2 μ hμ (fun y hy=>hwt y (by simp[hy]))
   have hsp:cs.drop off=(cs.drop off).take k++cs.drop (off+k):=by rw[<- List.drop_drop,List.take_append_drop]
   refine⟨(x,y),⟨x1,y1⟩,by rw[hsp];exact x2.append y2,?_⟩
   rw[hsp]
   intro v hv
   rcases List.mem_append.1 hv with q|q
   ·exact x3 v q
   ·exact y3 v q
theorem RB.struct{fs:Array Field}{L:Nat}(hu:P.underlying t=some (.struct fs))(hL:P.cellsOf t=L)(h:RF P n fs.toList 0 L T e wf):RB P (n+1) t T e wf:=by
 intro H enc w base spare held m cs d hm hd μ hμ hwt
 cases m with
 |zero=>simp[DataW.trod]at hd
 |succ m=>
  unfold DataW.trod at hd
  simp only[hu]at hd
  split at hd
  ·rename_i hc
   cases h1:fs.toList.mapM (fun f=>DataW.trod enc P w base spare held m f.type ((cs.drop f.offset).take (P.cellsOf f.type)))with
   |none=>rw[h1]at hd;cases hd
   |some ds=>
    rw[h1]at hd
    simp only[Option.map_some,Option.some.injEq]at hd
    subst hd
    have:=h H enc w base spare held m cs ds (by omega) (by rw[hc,hL]) h1 μ hμ (fun y hy=>Nat.le_trans (hμ.ag _ _ (List.mem_map_of_mem hy)) hwt)
    simpa using this
  ·cases hd
end
theorem C.law{P:Program}{f:FuncId}{args:List A}{W:World}{vals:List Value}(h:C P f args [] (fun a H=>a=.bool true/\H=[]))(hl:LR (Qdd W) [] W args vals)(hgp:GP W):
  Calls P f vals.toArray W fun e W'=>e=.returned (.bool true)/\Go.RowKit.Below W.heap.size W W':=by
 have s:Sim (fun _=>False) (Qdd W) [] [] W:=
  ⟨rfl,⟨fun _ h=>h,fun b hb=>hgp.size b hb,hgp⟩,fun _ h=>h.elim,fun _ _ h=>h,fun i b x h=>by simp at h,fun i j b x y h=>by simp at h,fun i y x h=>by simp at h,fun i b x c h=>by simp at h⟩
 refine(h _ _ _ _ W s hl).mono ?_
 rintro e W' ⟨v,r,H',ro',τ,rfl,⟨rfl,rfl⟩,_,hv,ev⟩
 exact⟨by rw[show v=.bool true from hv],⟨ev.os,ev.tape,ev.output,ev.size,fun k hk=>ev.keepRo k hk⟩⟩
theorem Qgf{P:Program}{W:World}{base:Nat}{t:TypeId}{v:Value}{fs:Array Field}(hu:P.underlying t=some (.struct fs))(h:Value.okWide P W .any base t v):∃cs,v=.agg cs:=by
 unfold Value.okWide at h
 rw[hu]at h
 obtain⟨cs,rfl,_⟩:=h
 exact⟨cs,rfl⟩
theorem QdR{P:Program}{W:World}{t:TypeId}{cs:Array Value}{T:Type}{e:T->List A}{wf:T->Prop}{H:Type}{enc:TypeId×Value->H}{base:Nat}{spare:Nat->Bool}{held:Bool}{d:DataW H}{ps:List MemPlace}
  (h:∀n,RB P n t T e wf)(ht:DataW.Trod enc P W base spare held t (.agg cs) d ps){μ:DataW H->Nat}(hμ:QkU μ)(hwt:μ d<=1048576):∃x:T,wf x/\VR (Qdd W) [] W (.agg (e x)) (.agg cs):=by
 obtain⟨m,hm⟩:=ht
 obtain⟨x,h1,h2,_⟩:=h (m+1) H enc W base spare held m _ _ (Nat.lt_succ_self _) hm μ hμ hwt
 exact⟨x,h1,cs.toList,by simp,h2⟩
theorem Qiu{P:Program}{W:World}{t:TypeId}{a:Option Addr}{len cap:Nat}{T:Type}{e:T->List A}{k:Nat}{wf:List T->Prop}{H:Type}{enc:TypeId×Value->H}{base:Nat}{spare:Nat->Bool}{held:Bool}{d:DataW H}{ps:List MemPlace}
  (h:∀n,RB P n t (List T) (Qkk k e) wf)(ht:DataW.Trod enc P W base spare held t (.slice a len cap) d ps){μ:DataW H->Nat}(hμ:QkU μ)(hwt:μ d<=1048576):∃x:List T,wf x/\VR (Qdd W) [] W (.rsl k (x.map e)) (.slice a len cap):=by
 obtain⟨m,hm⟩:=ht
 obtain⟨x,h1,⟨v,l',h2,h3,h4⟩,_⟩:=h (m+1) H enc W base spare held m _ _ (Nat.lt_succ_self _) hm μ hμ hwt
 refine⟨x,h1,?_⟩
 have:(Value.slice a len cap).cells.toList=[.slice a len cap]:=rfl
 rw[this]at h2
 cases h2
 exact h3
theorem Qg9{P:Program}{W:World}(h:W.ShapedOpen P){g t u:Nat}{z:Value}(hg:Nat.blt g P.globals.size=true)(h1:(((begin P (fun _ _=>0) default).world.heap[g]?).bind Obj.row?)=some (#[z],t))
  (hb:P.buildable t=true)(hc:P.cellTypes P.depth t=some [u])(hu:P.underlying u=some (.int .i64)):∃m:Int,W.cell? ⟨g,0,none⟩=some (.int .i64 m):=by
 obtain⟨cs,e1,e2,e3⟩:=h.1 g _ _ (by simpa using hg) h1
 obtain⟨ts,f1,_,f2⟩:=e3 hb
 rw[hc]at f1
 cases f1
 have hs:cs.size=1:=e2
 have hc0:cs[0]?=some cs[0]:=Array.getElem?_eq_getElem (by omega)
 obtain⟨u',g1,g2⟩:=f2 0 _ hc0
 simp at g1
 subst g1
 unfold Cell.ok at g2
 rw[hu]at g2
 cases hv:cs[0]<;>rw[hv]at g2<;>simp at g2
 rename_i k n
 obtain⟨rfl,_⟩:=g2
 refine⟨n,?_⟩
 simp only[World.cell?,e1]
 rw[hc0,hv]
 rfl
end Go.Sw
namespace Go.Sw
theorem Qhp{S B:Type}{step:S->Option (Ctl S B)}(st:Nat->S)(b:B)(k:Nat)(hc:∀i,i<k->step (st i)=some (.cont (st (i+1))))(hd:step (st k)=some (.done b)):∀n,k<n->iter step n (st 0)=some b:=by
 have key:∀m i n,k-i=m->i<=k->m<n->iter step n (st i)=some b:=by
  intro m
  induction m with
  |zero=>
   intro i n h1 h2 h3
   have:i=k:=by omega
   subst this
   obtain⟨n',rfl⟩:∃n',n=n'+1:=⟨n-1,by omega⟩
   simp[iter,hd]
  |succ m ih=>
   intro i n h1 h2 h3
   obtain⟨n',rfl⟩:∃n',n=n'+1:=⟨n-1,by omega⟩
   simp only[iter,hc i (by omega)]
   exact ih (i+1) n' (by omega) (by omega) (by omega)
 intro n hn
 exact key k 0 n (by omega) (Nat.zero_le _) hn
theorem QjZ{S B:Type}{step:S->Option (Ctl S B)}(s0:S)(st:Nat->S)(b:B)(k:Nat)(h0:st 0=s0)(hc:∀i,i<k->step (st i)=some (.cont (st (i+1))))(hd:step (st k)=some (.done b))(n:Nat)(hn:k<n):iter step n s0=some b:=by
 rw[<- h0];exact Qhp st b k hc hd n hn
theorem Qbd{α:Type}{l:List α}{i:Nat}{x:α}(h:l[i]?=some x):idx l (i:Int)=some x:=by
 unfold idx
 have:decide ((0:Int)<=i)=true:=by simp
 rw[this];simpa using h
theorem QbD{α:Type}(l:List α)(x:α)(h:l.length<4294967296):app l [x]=some (l++[x]):=by
 unfold app
 have:Nat.ble (l.length+[x].length) Yb=true:=by
  apply Nat.ble_eq_true_of_le
  unfold Yb
  simp;omega
 rw[this];rfl
theorem QgM{α:Type}(l m:List α)(h:l.length+m.length<=4294967296):app l m=some (l++m):=by
 unfold app
 have:Nat.ble (l.length+m.length) Yb=true:=Nat.ble_eq_true_of_le h
 rw[this];rfl
theorem Q0{n:Int}(h0: -9223372036854775808<=n)(h1:n<=9223372036854775807):IntKind.i64.wrap n=n:=by
 unfold IntKind.wrap
 simp[IntKind.bits,IntKind.signed]
 omega
theorem Qaw{i:Nat}(h:i<9223372036854775807):IntKind.i64.wrap ((i:Int)+1)=((i+1:Nat):Int):=by
 rw[Q0 (by omega) (by omega)];omega
theorem Yu{p:Prop}[Decidable p](h:p):decide p=true:=decide_eq_true h
theorem Yy{p:Prop}[Decidable p](h:¬p):decide p=false:=decide_eq_false h
end Go.Sw
namespace Go.Sw
open Go.Proofs Go.Shelf
def cat(a b:List UInt8):Option (List UInt8):=bif Nat.ble (a.length+b.length) 4294967296 then some (a++b)else none
theorem QmM{a b r:List UInt8}(h:cat a b=some r):a.length+b.length<=4294967296/\a++b=r:=by
 unfold cat at h
 cases q:Nat.ble (a.length+b.length) 4294967296 with
 |true=>rw[q]at h;exact⟨Nat.le_of_ble_eq_true q,Option.some.inj h⟩
 |false=>rw[q]at h;cases h
def Qd8(s t:List UInt8):Option Bool:=bif Nat.blt s.length 4294967281 then some (Lib.contains s t)else none
section
variable {P:Program}{o:Oper}{env:Env}{H:Qc}
theorem Qeq{t u:TypeId}{x y:Operand}{p q r:List UInt8}(hr:cat p q=some r)(ho:o.op=.binOp .add t x y u:=by exact rfl)(hx:opA env x=.str p:=by exact rfl)(hy:opA env y=.str q:=by exact rfl):OpV P o env H (.str r):=by
 intro fr ro σ N a w rr
 obtain⟨h1,h2⟩:=QmM hr
 have e1:=Qg rr x
 rw[hx]at e1
 have e2:=Qg rr y
 rw[hy]at e2
 have e1':a.eval x=.string ⟨p.toArray⟩:=e1
 have e2':a.eval y=.string ⟨q.toArray⟩:=e2
 have hs:(⟨p.toArray⟩:ByteArray)++⟨q.toArray⟩=⟨r.toArray⟩:=by
  rw[<- h2]
  apply ByteArray.ext
  simp
 refine⟨.string ⟨r.toArray⟩,?_,rfl⟩
 have hlen:¬((((⟨p.toArray⟩:ByteArray).size+(⟨q.toArray⟩:ByteArray).size:Nat):Int)>IntKind.i64.max):=by
  have:IntKind.i64.max=9223372036854775807:=by decide
  rw[this]
  simp only[ByteArray.size,List.size_toArray]
  omega
 generalize a.eval=ρ at*
 have hg:(eqGuard BinOp.add t x y (.string ⟨p.toArray⟩) (.string ⟨q.toArray⟩)).run P w=.ok () w:=by simp[eqGuard]
 simp only[execOp,ho,e1',e2',binOp_string_add,Op.stringOp,if_neg hlen,hs,Sem.run_bind,Sem.run_pure,Result.andThen,hg]
def Qd6{α:Type}(n:Nat)(l:List α)(i:Int):Option α:=bif Nat.beq l.length n then idx l i else none
theorem Qbe{α:Type}{n:Nat}{l:List α}{i:Int}{x:α}(h:Qd6 n l i=some x):l.length=n/\idx l i=some x:=by
 unfold Qd6 at h
 cases q:Nat.beq l.length n with
 |true=>rw[q]at h;exact⟨Nat.eq_of_beq_eq_true q,h⟩
 |false=>rw[q]at h;cases h
def arr{α:Type}(n:Nat)(l:List α):Option (List α):=bif Nat.beq l.length n then some l else none
theorem Qb0{α:Type}{n:Nat}{l l':List α}(h:arr n l=some l'):l.length=n/\l=l':=by
 unfold arr at h
 cases q:Nat.beq l.length n with
 |true=>rw[q]at h;exact⟨Nat.eq_of_beq_eq_true q,Option.some.inj h⟩
 |false=>rw[q]at h;cases h
theorem QfJ{α:Type}{n:Nat}{l l':List α}(h:arr n l=some l'):l'.length=n:=(Qb0 h).2▸(Qb0 h).1
section
variable {α:Type}{e:α->List A}{t et k n b:Nat}{x y:Operand}{l:List α}
theorem QaB{i:Int}{v:α}{kk:IntKind}(h:Qd6 n l i=some v)(ht:∀w,(underlying t).run P w=.ok (.array n et) w)(hs:∀w,(sizeOf et).run P w=.ok k w)(hn1:Nat.ble 2 n=true)
  (ho:o.op=.indexAddr t x y:=by exact rfl)(hx:opA env x=.ptr b 0:=by exact rfl)(hy:opA env y=.int kk i:=by exact rfl):OpV P o env H (.ptr b (i.toNat*k)):=by
 intro fr ro σ N a w r
 obtain⟨hl,hi⟩:=Qbe h
 obtain⟨i0,i1⟩:=QaE hi
 have hlt:i.toNat<l.length:=(List.getElem?_eq_some_iff.1 i1).1
 have h1:=Qg r x
 rw[hx]at h1
 obtain⟨bb,h1,h2⟩:=h1
 have h3:=Qg r y
 rw[hy]at h3
 have h3':a.eval y=.int kk i:=h3
 refine⟨.pointer (some ⟨bb,i.toNat*k,none⟩),?_,bb,h1,rfl⟩
 have hr:0<=i/\i<(n:Int):=by omega
 have hadd:(⟨bb,0,none⟩:Addr).add (i.toNat*k)=⟨bb,i.toNat*k,none⟩:=by
  unfold Addr.add
  split
  ·rename_i q;rw[q]
  ·simp
 generalize a.eval=ρ at*
 simp[execOp,ho,h2,h3',Instr.indexAt,asIntOf,ht,hs,Instr.sureAddr,hr,hadd,go_sem,Result.andThen]
theorem Qik{cs:List A}(hH:H[b]?=some (.row t k (l.map e)):=by exact rfl)(hcs:(l.map e).flatten=cs:=by exact rfl):Pts H (.ptr b 0) cs:=by
 intro fr ro σ w v s h
 obtain⟨bb,h1,h2⟩:=h
 obtain⟨lv,q1,q2⟩:=s.blk b _ _ h1 hH
 refine⟨bb,0,h2,?_⟩
 have:=(RR.flat (YI (pre:=[]) (by simpa using q1) q2)).1
 subst hcs
 exact this.lift
theorem Qgs(hk:∀x,(e x).length=k)(L:List α):(L.map e).flatten.length=L.length*k:=by
 induction L with
 |nil=>simp
 |cons c L ih=>simp only[List.map_cons,List.flatten_cons,List.length_append,hk c,ih,List.length_cons,Nat.succ_mul];omega
theorem QgS{n2:Nat}{l':List α}(h:arr n l=some l')(hk:∀x,(e x).length=k)(hnk:n*k=n2)(ha:∀w,(isAgg t).run P w=.ok true w)(hs:∀w,(sizeOf t).run P w=.ok n2 w){T:Nat}
  (ho:o.op=.load t x:=by exact rfl)(hx:opA env x=.ptr b 0:=by exact rfl)(hH:H[b]?=some (.row T k (l.map e)):=by exact rfl):OpV P o env H (.agg (l'.map e).flatten):=by
 obtain⟨h1,rfl⟩:=Qb0 h
 have hl:=Qgs hk l
 rw[h1,hnk]at hl
 exact Qn ho ha hs hx (Qik hH rfl) (List.take_of_length_le (by omega)) hl
theorem QiZ{r:Nat}{n2 T:Nat}(hl:l.length=n)(hk:∀x,(e x).length=k)(hnk:n*k=n2)(ha:∀w,(isAgg t).run P w=.ok true w)(hs:∀w,(sizeOf t).run P w=.ok n2 w)
  (hx:lk env r=.ptr b 0:=by exact rfl)(hH:H[b]?=some (.row T k (l.map e)):=by exact rfl):Qct P env H (.cell r t) (.agg (l.map e).flatten):=by
 have hf:=Qgs hk l
 rw[hl,hnk]at hf
 have:=Qdg (b:=r) (p:=.ptr b 0) (n:=n2) ha hs (Qik hH rfl) hx (by rw[List.take_of_length_le (by omega)];exact hf)
 rwa [List.take_of_length_le (by omega)]at this
theorem QgN{c:List A}{k:Nat}(h:c.length=k):∀n,allK k (List.replicate n c)
 |0=>trivial
 |n+1=>⟨h,QgN h n⟩
theorem Qcy{vs:Array Value}{z:α}(hz:∀w,(zeroValue t).run P w=.ok (.agg vs) w)(hv:(Q5 (List.replicate n (e z)).flatten).toArray=vs)(hs:QbK (List.replicate n (e z)).flatten=true)(hp:(List.replicate n (e z)).flatten.all Yo=true)(hk:Nat.beq (e z).length k=true)
  (ho:o.op=.alloc t:=by exact rfl):OpH P o env H (.ptr H.length 0) (H++[.row t k ((List.replicate n z).map e)]):=by
 intro fr ro σ N a w r
 have hl:LR ro [] w (List.replicate n (e z)).flatten (Q5 (List.replicate n (e z)).flatten):=Qex hs
 have hsim:=r.sim.allocRow (t:=t) (rest:=[]) (QgN (Nat.eq_of_beq_eq_true hk) n) hl (hl.plain hp)
 rw[List.append_nil]at hsim
 have hm:(List.replicate n z).map e=List.replicate n (e z):=List.map_replicate
 refine⟨.pointer (some ⟨w.heap.size,0,none⟩),w.alloc (.cells (Q5 (List.replicate n (e z)).flatten).toArray t),ro,[some w.heap.size],?_,⟨w.heap.size,?_,rfl⟩,hm▸hsim,Qe.alloc _ r.sim.roLt r.sim.frLt⟩
 ·generalize a.eval=ρ at*
  have e1:(newVar t (.agg vs)).run P w=.ok ⟨w.heap.size,0,none⟩ (w.alloc (.cells vs t)):=rfl
  rw[hv]
  simp only[execOp,ho,Instr.alloc,Sem.run_bind,hz,Result.andThen,e1]
  rfl
 ·rw[<- r.sim.len];simp
theorem Qcx{T n2:Nat}{l':List α}{vs:List A}(h:l.length=n)(h':l'.length=n)(hk:∀x,(e x).length=k)(hnk:n*k=n2)(hs:∀w,(sizeOf t).run P w=.ok n2 w)
  (hp:∀x,(e x).all Yo=true)(hd:∀x,Yj (e x)=true)(hvs:(l'.map e).flatten=vs)
  (ho:o.op=.store t x y:=by exact rfl)(hx:opA env x=.ptr b 0:=by exact rfl)(hH:H[b]?=some (.row T k (l.map e)):=by exact rfl)(hy:opA env y=.agg vs:=by exact rfl):
  OpU P o env H (H.set b (.row T k (l'.map e))):=by
 intro fr ro σ N a w r
 subst hvs
 have h1:=Qg r x
 rw[hx]at h1
 obtain⟨bb,h1,h2⟩:=h1
 have h3:=Qg r y
 rw[hy]at h3
 obtain⟨m,h4,h5⟩:=h3
 obtain⟨lv,q1,q2⟩:=r.sim.blk b _ _ h1 hH
 have hal:∀(L:List α),allK k (L.map e):=by
  intro L
  induction L with
  |nil=>trivial
  |cons c L ih=>exact⟨hk c,ih⟩
 have hfl:(l'.map e).flatten.length=n2:=by rw[Yl (hal l'),List.length_map,h',hnk]
 have hm:m.length=n2:=by rw[h5.length,hfl]
 have hpl:∀L:List α,(L.map e).flatten.all Yo=true:=by
  intro L
  induction L with
  |nil=>rfl
  |cons c L ih=>simp only[List.map_cons,List.flatten_cons,List.all_append,hp c,ih,Bool.and_self]
 have hdt:∀cs ds:List A,Yj cs=true->Yj ds=true->Yj (cs++ds)=true:=by
  intro cs
  induction cs with
  |nil=>intro ds _ h;exact h
  |cons c cs ih=>
   intro ds h1 h2
   simp only[Yj,Bool.and_eq_true,List.cons_append]at h1⊢
   exact⟨h1.1,ih ds h1.2 h2⟩
 have hdl:∀L:List α,Yj (L.map e).flatten=true:=by
  intro L
  induction L with
  |nil=>rfl
  |cons c L ih=>simp only[List.map_cons,List.flatten_cons];exact hdt _ _ (hd c) ih
 have hlen:n2<=lv.length:=by
  have:=q2.length
  rw[List.length_map,h,hnk]at this
  exact this
 have hrun:=Q9 (P:=P) (vs:=m) 0 0 q1 (by omega) (h5.plain (hpl l'))
 have hspl:splice lv 0 m=m++lv.drop n2:=by unfold splice;simp[hm]
 have hset:=r.sim.set (x':=.row T k (l'.map e)) (obj:=.cells (splice lv 0 m).toArray T (0,0)) h1 hH rfl
  (fun y hy=>Qay q1 (QS (by omega)) y hy)
  (fun ex hex=>by
   have hx:=(h5.data (hdl l')).mono ex.nil
   rw[hspl]at hx hex⊢
   exact⟨_,hex,YV (hal l') hx (h5.plain (hpl l'))⟩)
 refine⟨_,ro,[],?_,by simpa using hset.1,hset.2⟩
 generalize a.eval=ρ at*
 have hsz:(ρ y).cells.size=n2:=by rw[h4];simp[Value.cells,hm]
 have hst:(storeVar t ⟨bb,0,none⟩ (ρ y)).run P w=.ok () {w with heap:=w.heap.setIfInBounds bb (.cells (splice lv 0 m).toArray T (0,0))}:=by
  unfold storeVar
  rw[Sem.run_bind,hs]
  simp only[Result.andThen]
  rw[if_neg (by simp[hsz]),h4]
  have ec:(Value.agg m.toArray).cells.toList=m:=by simp[Value.cells]
  rw[ec]
  simpa using hrun
 simp only[execOp,ho,h2,Instr.storeAt,Instr.sureAddr,pure_bind,Sem.run_bind,hst]
 rfl
end
end
theorem C.contains{P:Program}{ρ:Ren}(L:Lays.n144 P ρ)(hg:ρ.g 1=QiF){s t:List UInt8}{r:Bool}(h:Qd8 s t=some r):C P (ρ.f 144) [.str s,.str t] [] (fun a H=>a=.bool r/\H=[]):=by
 unfold Qd8 at h
 cases q:Nat.blt s.length 4294967281 with
 |false=>rw[q]at h;cases h
 |true=>
  rw[q]at h
  obtain rfl:=Option.some.inj h
  intro fr ro σ vals w sim hv
  obtain⟨v1,l1,rfl,h1,v2,l2,rfl,h2,h3⟩:=hv
  cases(show l2=[]from h3)
  obtain⟨m,hm⟩:=sim.roOk.gp.max
  have e1:v1=.string ⟨s.toArray⟩:=h1
  have e2:v2=.string ⟨t.toArray⟩:=h2
  subst e1 e2
  have hs:s.length<4294967281:=by simpa using q
  refine(Any.strings_Contains L ⟨s.toArray⟩ ⟨t.toArray⟩ m w (by simpa[ByteArray.size]using hs) (by rw[hg];exact hm)).mono ?_
  rintro e w' ⟨rfl,rfl⟩
  exact⟨_,_,_,ro,[],rfl,⟨rfl,rfl⟩,by simpa using sim,rfl,Qe.refl _ _ _⟩
section
variable {P:Program}{o:Oper}{env:Env}{H:Qc}{fr ro:Nat->Prop}{σ:Sig}{w:World}
theorem Sim.touch(s:Sim fr ro σ H w){b:Nat}{obj:Obj}(hro:¬ro b)(hfr:¬fr b)(ho:∀(i:Nat) (x:Blk),σ[i]?=some (some b)->H[i]?=some x->x.live=true->False)
  (hhid:∀(i d:Nat) (x:Blk),σ[i]?=some (some d)->H[i]?=some x->Hid w x d b->False)
  (hsh:∀y,w.shape? b=some y->({w with heap:=w.heap.setIfInBounds b obj}:World).shape? b=some y):
  Sim fr ro σ H {w with heap:=w.heap.setIfInBounds b obj}/\Qe fr ro w ro {w with heap:=w.heap.setIfInBounds b obj}:=by
 have hne:∀c,c≠b->({w with heap:=w.heap.setIfInBounds b obj}:World).heap[c]?=w.heap[c]? :=by
  intro c hc
  show(w.heap.setIfInBounds b obj)[c]?=_
  rw[Array.getElem?_setIfInBounds,if_neg (fun q=>hc q.symm)]
 have hsz:({w with heap:=w.heap.setIfInBounds b obj}:World).heap.size=w.heap.size:=by simp
 have ev:Qe fr ro w ro {w with heap:=w.heap.setIfInBounds b obj}:=
  ⟨fun _ h=>h,fun c h=>hne c (fun q=>hro (q▸h)),fun c h=>hne c (fun q=>hfr (q▸h)),by rw[hsz];exact Nat.le_refl _,by
   intro c y h
   by_cases q:c=b
   ·subst q;exact hsh y h
   ·unfold World.shape? at h⊢;rw[hne c q];exact h,rfl,rfl,rfl,Nat.le_refl _⟩
 refine⟨⟨s.len,s.roOk.to (fun _ q=>q) ev.keepRo (fun c h=>by rw[hsz];exact s.roLt c h),fun c h=>by rw[hsz];exact s.frLt c h,s.roFr,?_,s.inj,?_,s.hidTo (· = ·) QJ (by rw[hsz];exact Nat.le_refl _) (fun _ _ _ _ _ _ _ q=>q) (fun _ _ _ _ _ _ _ q=>q) fun j d y g1 g2 g3=>.inl ⟨j,y,rfl,g1,g2,id,fun c q=>s.hidKeep g1 g2 (fun z=>hne d (fun e=>ho j y (e▸g1) g2 z)) ev.keepRo q⟩⟩,ev⟩
 ·intro i c x h1 h2 h3
  rw[hsz];exact s.own i c x h1 h2 h3
 ·intro i y x h1 h2
  refine(s.blk i y x h1 h2).keep (ev.ext0 σ) ?_ ?_
  ·rintro c rfl hl
   exact hne c (fun q=>by subst q;exact ho i x h1 h2 hl)
  ·rintro d c rfl hl
   exact hne c (fun q=>hhid i d x h1 h2 (q▸hl))
theorem Qi9{T E i n t:Nat}{x:Operand}{es:List (List A)}(ht:P.underlying T=some (.slice E))(hE:P.underlying E=some (.int .u8))(hn:es.length=n)(h0:Nat.blt 0 n=true)
  (ho:o.op=.convert T T x:=by exact rfl)(hx:opA env x=.osl i 0 n 1:=by exact rfl)(hH:H[i]?=some (.row t 1 es):=by exact rfl):
  OpH P o env H (.rsl 1 es) (H.set i .dead):=by
 intro fr ro σ N a w r
 subst hn
 have h1:=Qg r x
 rw[hx]at h1
 rcases h1 with⟨hz,_⟩|⟨b,p,cap,t',m,h1,h2,h6,h3,h4,h5⟩
 ·rw[hz]at h0;simp at h0
 ·have hpos:0<es.length:=by simpa using h0
  obtain rfl:=h6 (by omega)
  obtain⟨hb,hbro,hbfr⟩:=r.sim.own i b _ h1 hH rfl
  obtain⟨l,q1,q2⟩:=r.sim.blk i _ _ h1 hH
  have s1:=r.sim.kill i
  have hnone:∀(j:Nat) (y:Blk),σ[j]?=some (some b)->(H.set i .dead)[j]?=some y->y.live=true->False:=by
   intro j y g1 g2 g3
   by_cases q:j=i
   ·subst q
    rw[List.getElem?_set]at g2
    simp only[if_true]at g2
    split at g2
    ·cases g2;simp[Blk.live]at g3
    ·simp at g2
   ·rw[List.getElem?_set_ne (fun z=>q z.symm)]at g2
    exact q (r.sim.inj j i b y _ g1 h1 g2 hH g3 rfl)
  have hnh:∀(j d:Nat) (y:Blk),σ[j]?=some (some d)->(H.set i .dead)[j]?=some y->Hid w y d b->False:=by
   intro j d y g1 g2 g3
   by_cases q:j=i
   ·subst q
    rw[List.getElem?_set]at g2
    simp only[if_true]at g2
    split at g2
    ·cases g2;exact g3.elim
    ·simp at g2
   ·rw[List.getElem?_set_ne (fun z=>q z.symm)]at g2
    exact(r.sim.hid j d y b g1 g2 g3).ne i b _ h1 hH rfl rfl
  let fz:Nat×Nat:=(l.length,l.length+1)
  have hsh:∀y,w.shape? b=some y->({w with heap:=w.heap.setIfInBounds b (.cells l.toArray t fz)}:World).shape? b=some y:=by
   intro y hy
   unfold World.shape? at hy⊢
   rw[q1]at hy
   have e:(w.heap.setIfInBounds b (.cells l.toArray t fz))[b]?=some (.cells l.toArray t fz):=by rw[Array.getElem?_setIfInBounds,if_pos rfl,if_pos hb]
   simp only[e]
   exact hy
  obtain⟨s2,ev2⟩:=s1.touch (obj:=.cells l.toArray t fz) hbro hbfr hnone hnh hsh
  have s3:=s2.addRo (b:=b) (by simpa using hb) hbfr hnone (fun j d y g1 g2 g3=>hnh j d y g1 g2 (s1.hidKeep g1 g2 (fun z=>by
   show(w.heap.setIfInBounds b _)[d]?=_
   rw[Array.getElem?_setIfInBounds,if_neg (fun e:b=d=>hnone j y (by rw[e];exact g1) g2 z)]) ev2.keepRo g3))
  have hheap:({w with heap:=w.heap.setIfInBounds b (.cells l.toArray t fz)}:World).heap[b]?=some (.cells (([]:List Value)++l).toArray t fz):=by
   show(w.heap.setIfInBounds b _)[b]?=_
   rw[Array.getElem?_setIfInBounds,if_pos rfl,if_pos hb];rfl
  have ext2:Ext ro [] w ro [] {w with heap:=w.heap.setIfInBounds b (.cells l.toArray t fz)}:=ev2.ext0 []
  refine⟨.slice (some ⟨b,0*1,none⟩) es.length cap,_,fun c=>ro c\/c=b,[],?_,?_,by simpa using s3,ev2.trans (Yn fun _ q=>.inl q)⟩
  ·have hf:w.freeze ⟨b,l.length,none⟩ 1={w with heap:=w.heap.setIfInBounds b (.cells l.toArray t fz)}:=by
    unfold World.freeze
    simp only[Nat.one_ne_zero,if_false]
    rw[QbC q1]
    rfl
   have hms:(markStringish ⟨b,0*1,none⟩).run P w=.ok () {w with heap:=w.heap.setIfInBounds b (.cells l.toArray t fz)}:=by
    rw[<- hf]
    unfold markStringish
    simp[shape,freeze,Sem.run,World.shape?,q1,Result.andThen]
   have hu:∀w,(underlying T).run P w=.ok (.slice E) w:=run_underlying ht
   have hu2:∀w,(underlying E).run P w=.ok (.int .u8) w:=run_underlying hE
   generalize a.eval=ρ at*
   simp only[execOp,ho,h2,convert,Sem.run_bind,hu,hu2,Result.andThen,beq_self_eq_true,hms,Sem.run_pure]
  ·refine⟨some ⟨b,0*1,none⟩,cap,rfl,h3,.inr ⟨b,0*1,rfl,.inr rfl,?_⟩⟩
   have:=YI (pre:=[]) hheap (q2.mono ext2)
   exact(by simpa using this:RR ro [] _ b 1 es (0*1)).keep ⟨fun _ q=>.inl q,fun _ _=>rfl,fun _ _ q=>q,fun _ _ q=>q⟩ rfl
end
mutual
theorem QcH(ρ:Nat->Nat):∀{a:A},YC a=true->Yg ρ a=a
 |.any,_=>rfl
 |.bool _,_=>rfl
 |.int _ _,_=>rfl
 |.str _,_=>rfl
 |.nilp,_=>rfl
 |.ptr _ _,h=>by simp[YC]at h
 |.rp _,_=>rfl
 |.nils,_=>rfl
 |.rsl _ _,_=>rfl
 |.osl _ _ _ _,h=>by simp[YC]at h
 |.agg cs,h=>by simp only[YC]at h;simp only[Yg,Qac ρ h]
 |.fn f a c,h=>by simp only[YC,Bool.and_eq_true]at h;simp only[Yg,Qac ρ h.1,Qac ρ h.2]
 |.nilf,_=>rfl
 |.iface t a,h=>by simp only[YC]at h;simp only[Yg,QcH ρ h]
 |.nilif,_=>rfl
 |.map _,h=>by simp[YC]at h
 |.nilm,_=>rfl
 |.tup vs,h=>by simp only[YC]at h;simp only[Yg,Qac ρ h]
theorem Qac(ρ:Nat->Nat):∀{l:List A},Yj l=true->Qaa ρ l=l
 |[],_=>rfl
 |a::l,h=>by simp only[Yj,Bool.and_eq_true]at h;simp only[Qaa,QcH ρ h.1,Qac ρ h.2]
end
theorem QeY{α:Type}{e:α->List A}(hd:∀x,Yj (e x)=true):∀L:List α,Yj (L.map e).flatten=true
 |[]=>rfl
 |c::L=>by
  have hdt:∀cs ds:List A,Yj cs=true->Yj ds=true->Yj (cs++ds)=true:=by
   intro cs
   induction cs with
   |nil=>intro ds _ h;exact h
   |cons c cs ih=>
    intro ds h1 h2
    simp only[Yj,Bool.and_eq_true,List.cons_append]at h1⊢
    exact⟨h1.1,ih ds h1.2 h2⟩
  simp only[List.map_cons,List.flatten_cons];exact hdt _ _ (hd c) (QeY hd L)
theorem Qla{α:Type}{e:α->List A}(hd:∀x,Yj (e x)=true)(ρ:Nat->Nat)(l:List α):Yg ρ (.agg (l.map e).flatten)=.agg (l.map e).flatten:=
 QcH ρ (by simp only[YC];exact QeY hd l)
end Go.Sw
namespace Go.Sw
section
variable {P:Program}{o:Oper}{env:Env}{H:Qc}
theorem Qdz{c:Call}{f T:Nat}{x:Operand}{xs:List Operand}{ts:Array TypeId}{name:String}{v:A}{args:List A}(hcall:∀(a:Array Value) (w:World),(callFunc f a).run P w=.ok (.enter f a) w)(ho:o.op=.call c)
  (hc:c={callee:=.invoke x name,args:=xs.toArray,argTypes:=ts})(hx:opA env x=.iface T v)(hargs:v::xs.map (opA env)=args)
  (hm:∀(u:Value) (w:World),(method (P.types.size+Made.depth) T u name).run P w=.ok (f,u) w):OpC P o env H f args:=by
 intro fr ro σ N a w r
 have h1:=Qg r x
 rw[hx]at h1
 obtain⟨u,h1,h2⟩:=h1
 refine⟨u::xs.map a.eval,?_,hargs▸⟨u,xs.map a.eval,rfl,h2,Qa0 r xs⟩⟩
 subst hc
 generalize a.eval=ρ at*
 have e:(#[ρ x]++(xs.toArray.map ρ):Array Value)=(.iface T u::xs.map ρ).toArray:=by rw[h1];simp
 have hex:((.iface T u::xs.map ρ).toArray.extract 1 (.iface T u::xs.map ρ).toArray.size:Array Value)=(xs.map ρ).toArray:=by
  simp[List.take_of_length_le]
 have hcm:∀l:Array Value,(callMethod (.iface T u) name l).run P w=.ok (.enter f (#[u]++l)) w:=by
  intro l
  simp only[callMethod,Sem.run_bind,run_program,Result.andThen,hm,hcall]
 simp only[execOp,ho,resolve,e,invoke,Sem.run_bind,Sem.run_pure,Result.andThen]
 simp only[List.getElem?_toArray,List.getElem?_cons_zero,hex,hcm]
 simp
theorem Qbh{T I:Nat}{x:Operand}{v:A}{d:TypeDesc}(ht:∀w,(underlying T).run P w=.ok d w)(hd:∀m,d≠ .interface m)(ho:o.op=.typeAssert x I T true:=by exact rfl)(hx:opA env x=.iface T v:=by exact rfl):
  OpV P o env H (.tup [v,.bool true]):=by
 intro fr ro σ N a w r
 have h1:=Qg r x
 rw[hx]at h1
 obtain⟨u,h1,h2⟩:=h1
 refine⟨.tuple #[u,.bool true],?_,[u,.bool true],rfl,_,_,rfl,h2,_,_,rfl,rfl,rfl⟩
 generalize a.eval=ρ at*
 cases d<;>first|(simp[execOp,ho,h1,Instr.typeAssert,ht,go_sem];done)|exact(hd _ rfl).elim
theorem QfP{T T' I:Nat}{x:Operand}{v z:A}{zv:Value}{d:TypeDesc}(ht:∀w,(underlying T).run P w=.ok d w)(hd:∀m,d≠ .interface m)(hne:Nat.beq T' T=false)(hz:∀w,(zeroValue T).run P w=.ok zv w)(hzr:ZR z zv)
  (ho:o.op=.typeAssert x I T true:=by exact rfl)(hx:opA env x=.iface T' v:=by exact rfl):
  OpV P o env H (.tup [z,.bool false]):=by
 intro fr ro σ N a w r
 have h1:=Qg r x
 rw[hx]at h1
 obtain⟨u,h1,h2⟩:=h1
 have hn:T'≠T:=fun q=>by rw[q,Nat.beq_refl]at hne;cases hne
 refine⟨.tuple #[zv,.bool false],?_,[zv,.bool false],rfl,_,_,rfl,hzr _ _ _,_,_,rfl,rfl,rfl⟩
 generalize a.eval=ρ at*
 cases d<;>first|(simp[execOp,ho,h1,Instr.typeAssert,ht,hn,hz,go_sem];done)|exact(hd _ rfl).elim
end
def TL(P:Program)(h0 N:Nat)(c:Code)(env:Env)(H:Qc)(Q:Qm):Prop:=
 ∀rd fr ro σ a w,Rel fr ro σ H env N a w->Qdo rd fr w->∀(b:Frame) (k:List Item) (cs:List Frame),b.roundOf=(WF rd).round->(WF rd).fn b.fn->(WF rd).room (cs.length+1+0)->∃e a' w',QaG h0 fr ro σ w N a.defers Q e a' w'/\ArrivesIn (Machine.fenced P (WF rd)) P (lone (b.atR a (.code c::.inLoop c::k)) cs w) b k cs e a' w'
def QhH(P:Program)(h0 N:Nat)(c:Code)(Q:Qm):Qm
 |.normal,env,H=>TL P h0 N c env H Q
 |.exit id,env,H=>Q (.exit id) env H
 |.ret,env,H=>Q .ret env H
section
variable {P:Program}{h0 N:Nat}{c:Code}{env:Env}{H:Qc}{Q:Qm}
theorem QkB(h:TL P h0 N c env H Q):TC P h0 N (.loop c) env H Q:=by
 intro rd fr ro σ a w r hrd b k cs hro hb hr
 obtain⟨e,a',w',hq,harr⟩:=h rd fr ro σ a w r hrd b k cs hro hb hr
 exact⟨e,a',w',hq,.of_steps (.one (fenced_calm hb hr rfl) stepR_loop) harr⟩
theorem TL.round(h:TC P h0 N c env H (QhH P h0 N c Q)):TL P h0 N c env H Q:=by
 intro rd fr ro σ a w r hrd b k cs hro hb hr
 obtain⟨e,a',w',hq,harr⟩:=h rd fr ro σ a w r hrd b (.inLoop c::k) cs hro hb hr
 obtain⟨x,env',H',ro',σ',fr',q1,q2,q3,q4,q5,q6⟩:=hq
 have hp:∀x,Q x env' H'->ExR e x->QaG h0 fr ro σ w N a.defers Q e a' w':=fun x q q'=>⟨x,env',H',ro',σ',fr',q',q,q3,q4,q5,q6⟩
 cases e with
 |normal=>
  obtain rfl:x=.normal:=q1
  obtain⟨e2,a2,w2,hq2,harr2⟩:=q2 rd fr' ro' σ' a' w' q3 (hrd.to q4 q6.sub) b k cs hro hb hr
  exact⟨e2,a2,w2,hq2.grow q4 q5 q6,.of_steps (StepsIn.trans harr (.one (fenced_calm hb hr rfl) stepR_inLoop)) harr2⟩
 |exit id=>
  obtain rfl:x=.exit id:=q1
  exact⟨_,a',w',hp _ q2 rfl,.pass (x:=.inLoop c) rfl (fun _ _=>.inl (by simp)) harr⟩
 |ret=>
  obtain rfl:x=.ret:=q1
  exact⟨_,a',w',hp _ q2 rfl,.pass (x:=.inLoop c) rfl (fun _ _=>.inl (by simp)) harr⟩
 |_=>exact q1.elim
theorem unrN(h:TC P h0 N c env H (QhH P h0 N c Q)):QhH P h0 N c Q .normal env H:=TL.round h
theorem unrX{id:Nat}(h:Q (.exit id) env H):QhH P h0 N c Q (.exit id) env H:=h
theorem unrR(h:Q .ret env H):QhH P h0 N c Q .ret env H:=h
theorem QiV(h:TC P h0 N c env H (QhH P h0 N c Q)):TC P h0 N (.loop c) env H Q:=QkB (TL.round h)
end
section
variable {P:Program}{o:Oper}{env:Env}{H:Qc}
theorem OpV.ixL{t et k b n j:Nat}{x y:Operand}{kk:IntKind}{i:Int}(hj:Nat.blt j n=true)(hi:i=(j:Int))(ht:∀w,(underlying t).run P w=.ok (.slice et) w)(hs:∀w,(sizeOf et).run P w=.ok k w)
  (ho:o.op=.indexAddr t x y:=by exact rfl)(hx:opA env x=.osl b 0 n k:=by exact rfl)(hy:opA env y=.int kk i:=by exact rfl):OpV P o env H (.ptr b (j*k)):=by
 subst hi
 have h2:=Qil (H:=H) ho ht hs hx hy (by omega) (by simpa using hj)
 rwa [Int.toNat_natCast,Nat.zero_mul,Nat.zero_add]at h2
end
theorem Qeo{ro:Nat->Prop}{σ:Sig}{w:World}{k:Nat}:∀{es:List (List A)}{l l':List Value},RL ro σ w k es l->l.take (es.length*k)=l'.take (es.length*k)->RL ro σ w k es l'
 |[],_,_,_,_=>trivial
 |c::es,l,l',h,hp=>by
  obtain⟨l1,l2,rfl,h1,h2,h3⟩:=h
  have hl1:l1.length=k:=by rw[h2.1.length];exact h1
  have e1:l'.take k=l1:=by
   have:=congrArg (List.take k) hp
   simp only[List.take_take,List.length_cons,Nat.succ_mul]at this
   rw[Nat.min_eq_left (by omega)]at this
   rw[<- this, <- hl1];simp
  refine⟨l1,l'.drop k,by rw[<- e1,List.take_append_drop],h1,h2,Qeo h3 ?_⟩
  have:=congrArg (List.drop k) hp
  simp only[List.length_cons,Nat.succ_mul,List.drop_take]at this
  rw[show es.length*k+k-k=es.length*k by omega]at this
  rw[<- this, <- hl1]
  simp
section
variable {P:Program}{o:Oper}{env:Env}{H:Qc}
theorem QeH{c:Call}{T et k b s n t:Nat}{x:Operand}{es es':List (List A)}{z:Value}(ht:P.underlying T=some (.slice et))(hz:∀w,(zeroValue et).run P w=.ok z w)(hzk:z.cells.size=k)(hzp:∀v∈z.cells,Qk v)
  (hes:es.take s=es')(hb:s+n=es.length)(ho:o.op=.call c:=by exact rfl)(hc:c={callee:=.builtin .clear,args:= #[x],argTypes:= #[T]}:=by exact rfl)
  (hx:opA env x=.osl b s n k:=by exact rfl)(hH:H[b]?=some (.row t k es):=by exact rfl):OpH P o env H (.tup []) (H.set b (.row t k es')):=by
 intro fr ro σ N a w r
 subst hes hc
 have hu:∀w,(underlying T).run P w=.ok (.slice et) w:=run_underlying ht
 have h1:=Qg r x
 rw[hx]at h1
 have hweak:Sim fr ro σ (H.set b (.row t k (es.take s))) w:=by
  refine r.sim.weaken hH rfl ?_
  intro y hy
  cases y with
  |none=>rw[show es=[]from hy];simp[BR]
  |some bb=>obtain⟨l,g1,g2⟩:=hy;exact⟨l,g1,RL.take s g2⟩
 have still:∀v,a.eval x=v->(Builtin.clear_ #[T] o.type #[v]).run P w=.ok (.tuple #[]) w->
   ∃v w' ro' τ,(execOp a.eval o).run P w=.ok (.value v) w'/\VR ro' (σ++τ) w' (.tup []) v/\Sim fr ro' (σ++τ) (H.set b (.row t k (es.take s))) w'/\Qe fr ro w ro' w':=by
  intro v hv hrun
  refine⟨.tuple #[],w,ro,[],?_,⟨[],rfl,rfl⟩,by simpa using hweak,Qe.refl _ _ _⟩
  generalize a.eval=ρ at*
  simp only[execOp,ho,resolve,Sem.run_bind,Sem.run_pure,Result.andThen,invoke,builtin,List.map_toArray,List.map_cons,List.map_nil,hv,hrun]
 rcases h1 with⟨hn,h1⟩|⟨bb,p,cap,t',m,h1,h2,h3,h4,h5,h6⟩
 ·refine still _ h1 ?_
  simp[Builtin.clear_,hu,Result.andThen]
 ·by_cases hn:n=0
  ·subst hn
   refine still _ h2 ?_
   simp[Builtin.clear_,hu,Result.andThen]
  ·obtain rfl:=h3 (by omega)
   obtain⟨l,q1,q2⟩:=r.sim.blk b _ _ h1 hH
   have hlen:=q2.length
   let vs:=(Builtin.zeroCells z.cells n).toList
   have hvl:vs.length=n*k:=by simp[vs,Builtin.zeroCells,hzk]
   have hvp:∀v∈vs,Qk v:=by
    intro v hv
    simp only[vs,Builtin.zeroCells,Array.toList_map,List.mem_map,Array.toList_range,List.mem_range]at hv
    obtain⟨i,hi,rfl⟩:=hv
    have hpos:0<z.cells.size:=by
     rcases Nat.eq_zero_or_pos z.cells.size with q|q
     ·rw[q,Nat.mul_zero]at hi;omega
     ·exact q
    have hlt:i%z.cells.size<z.cells.size:=Nat.mod_lt _ hpos
    rw[getElem!_pos z.cells _ hlt]
    exact hzp _ (Array.getElem_mem hlt)
   have hsk:s*k+n*k=es.length*k:=by rw[<- Nat.add_mul,hb]
   have hrun:=Q9 (P:=P) (vs:=vs) (s*k) 0 q1 (by omega) hvp
   have hset:=r.sim.set (x':=.row t k (es.take s)) (obj:=.cells (splice l (s*k) vs).toArray t (0,0)) h1 hH rfl
    (fun y hy=>Qay q1 (QS (by omega)) y hy)
    (fun ex hex=>⟨_,hex,by
     refine(Qeo (RL.take s q2) ?_).mono ex.nil
     have hl:(es.take s).length*k<=s*k:=Nat.mul_le_mul_right k (by simp;omega)
     have hl2:(es.take s).length*k<=(l.take (s*k)).length:=by rw[List.length_take (i:=s*k),Nat.min_eq_left (by omega)];exact hl
     have e:=List.take_append_of_le_length (l₂:=vs++l.drop (s*k+vs.length)) hl2
     unfold splice
     rw[List.append_assoc,e,List.take_take,Nat.min_eq_left hl]⟩)
   refine⟨.tuple #[],_,ro,[],?_,⟨[],rfl,rfl⟩,by simpa using hset.1,hset.2⟩
   have hcl:(Builtin.clear_ #[T] o.type #[.slice (some ⟨bb,s*k,none⟩) n cap]).run P w=.ok (.tuple #[]) {w with heap:=w.heap.setIfInBounds bb (.cells (splice l (s*k) vs).toArray t (0,0))}:=by
    obtain⟨n',rfl⟩:∃n',n=n'+1:=⟨n-1,by omega⟩
    simp only[Nat.add_zero]at hrun
    simp only[Builtin.clear_,List.getElem?_toArray,List.getElem?_cons_zero,Sem.run_bind,hu,hz,Result.andThen,hrun,Sem.run_pure,vs]
   generalize a.eval=ρ at*
   simp only[execOp,ho,resolve,Sem.run_bind,Sem.run_pure,Result.andThen,invoke,builtin,List.map_toArray,List.map_cons,List.map_nil,h2,hcl]
end
section
variable {P:Program}{o:Oper}{env:Env}{H:Qc}{h0 N:Nat}{Q:Qm}
end
theorem slc0{α:Type}{l x:List α}{i:Int}(h:slc l 0 i=some x):0<=i/\i.toNat<=l.length/\l.take i.toNat=x/\x.length=i.toNat:=by
 obtain⟨_,h1,h2,h3⟩:=Ql7 h
 have h4:l.take i.toNat=x:=by simpa using h3
 exact⟨h1,by omega,h4,by rw[<- h4,List.length_take];omega⟩
section
variable {P:Program}{o:Oper}{env:Env}{H:Qc}{α:Type}{e:α->List A}{T et k b t:Nat}{x y:Operand}{l l':List α}{i:Int}
theorem QhL(h:slc l 0 i=some l')(E1:∀w,(underlying T).run P w=.ok (.slice et) w)(E2:∀w,(sizeOf et).run P w=.ok k w)(ho:o.op=.slice T x (some y) none none:=by exact rfl)
  (hx:opA env x=.osl b 0 l.length k:=by exact rfl)(hy:opA env y=.int .i64 i:=by exact rfl):OpV P o env H (.osl b (0+i.toNat) (l.length-i.toNat) k):=by
 obtain⟨h1,h2,_,_⟩:=slc0 h
 exact QgT E1 E2 ho hx (.inr ⟨y,i,rfl,hy,h1,rfl⟩) (.inl ⟨rfl,rfl⟩) h2 (Nat.le_refl _)
theorem QhM(h:slc l 0 i=some l')(E1:∀w,(underlying T).run P w=.ok (.slice et) w)(E2:∀w,(sizeOf et).run P w=.ok k w)(ho:o.op=.slice T x none (some y) none:=by exact rfl)
  (hx:opA env x=.osl b 0 l.length k:=by exact rfl)(hy:opA env y=.int .i64 i:=by exact rfl):OpV P o env H (.osl b 0 l'.length k):=by
 obtain⟨h1,h2,_,h4⟩:=slc0 h
 have:=QgT (H:=H) E1 E2 ho hx (.inl ⟨rfl,rfl⟩) (.inr ⟨y,i,rfl,hy,h1,rfl⟩) (Nat.zero_le _) h2
 rw[h4]
 simpa using this
theorem QhQ{c:Call}{z:Value}(h:slc l 0 i=some l')(ht:P.underlying T=some (.slice et))(hz:∀w,(zeroValue et).run P w=.ok z w)(hzk:z.cells.size=k)(hzp:∀v∈z.cells,Qk v)(ho:o.op=.call c:=by exact rfl)(hc:c={callee:=.builtin .clear,args:= #[x],argTypes:= #[T]}:=by exact rfl)
  (hx:opA env x=.osl b (0+i.toNat) (l.length-i.toNat) k:=by exact rfl)(hH:H[b]?=some (.row t k (l.map e)):=by exact rfl):OpH P o env H (.tup []) (H.set b (.row t k (l'.map e))):=by
 obtain⟨h1,h2,h3,h4⟩:=slc0 h
 refine QeH ht hz hzk hzp ?_ ?_ ho hc hx hH
 ·rw[Nat.zero_add, <- h3,List.map_take]
 ·rw[List.length_map];omega
end
end Go.Sw
namespace Go.Sw
open Go.Sort Go.Proofs Go.Shelf
def ltI(x y:Int):Bool:=decide (x<y)
def sortI(l:List Int):Option (List Int):=bif Nat.ble l.length Yb then some (Y4 ltI l)else none
theorem Qf2{l l':List Int}(h:sortI l=some l'):l.length<=Yb/\Y4 ltI l=l':=by
 unfold sortI at h
 cases e:Nat.ble l.length Yb with
 |false=>rw[e]at h;simp at h
 |true=>rw[e]at h;exact⟨Nat.le_of_ble_eq_true e,Option.some.inj h⟩
theorem QbA{l l':List Int}(h:sortI l=some l'):l.length=l'.length:=by
 rw[<- (Qf2 h).2];exact(QL _ _).length_eq.symm
theorem Qh9(l:List Int):Qdf ltI l:=
 ⟨fun x _=>by simp[ltI],fun x _ y _ z _ a b=>by simp[ltI]at*;omega,fun x _ y _ z _ a b=>by simp[ltI]at*;omega⟩
theorem Qdm(l:List Int):(l.mergeSort fun x y=>decide (x<=y))=Y4 ltI l:=by
 refine Qa8 (lt:=ltI) ?_ ?_ ?_ (Yx (Qh9 l))
 ·exact(List.mergeSort_perm _ _).trans (QL _ _).symm
 ·intro x _ y _ a b;simp[ltI]at*;omega
 ·refine(List.pairwise_mergeSort (le:=fun x y=>decide (x<=y)) ?_ ?_ l).imp ?_
  ·intro a b c;simp;omega
  ·intro a b;simp;omega
  ·intro a b;simp[ltI]
theorem Qij{ro:Nat->Prop}{σ:Sig}{w:World}:∀{l:List Int}{lv:List Value},RL ro σ w 1 (l.map fun x=>[A.int .i64 x]) lv->∃rest,lv=l.map (Value.int .i64)++rest
 |[],lv,_=>⟨lv,rfl⟩
 |x::l,lv,h=>by
  obtain⟨l1,l2,rfl,h1,⟨h2,h3⟩,h4⟩:=h
  obtain⟨rest,rfl⟩:=Qij (l:=l) h4
  obtain⟨v,r,rfl,hv,hr⟩:=h2
  cases(show r=[]from hr)
  exact⟨rest,by rw[show v=.int .i64 x from hv];simp⟩
theorem Qep{ro:Nat->Prop}{σ:Sig}{w:World}:∀(l:List Int) (rest:List Value),RL ro σ w 1 (l.map fun x=>[A.int .i64 x]) (l.map (Value.int .i64)++rest)
 |[],_=>trivial
 |x::l,rest=>⟨[.int .i64 x],l.map (Value.int .i64)++rest,by simp,rfl,⟨⟨_,_,rfl,rfl,rfl⟩,by simp[Qk]⟩,Qep l rest⟩
theorem QlJ{P:Program}{ρ:Ren}(L:Lays.n189 P ρ){t:Nat}{l l':List Int}(hs:sortI l=some l'):
  C P (ρ.f 189) [.osl 0 0 l.length 1] [.row t 1 (l.map fun x=>[A.int .i64 x])] (fun a H=>a=.tup []/\H=[.row t 1 (l'.map fun x=>[A.int .i64 x])]):=by
 intro fr ro σ vals w s hv
 obtain⟨vs,r1,rfl,hvs,hr⟩:=hv
 cases(show r1=[]from hr)
 obtain⟨hmax,hl'⟩:=Qf2 hs
 have none_case:∀(ad:Option Addr) (c:Nat),vs=.slice ad 0 c->l=[]->
   Calls P (ρ.f 189) [vs].toArray w fun e w'=>∃v r H' ro' τ,e=.returned v/\(r=.tup []/\H'=[.row t 1 (l'.map fun x=>[A.int .i64 x])])/\Sim fr ro' (σ++τ) H' w'/\VR ro' (σ++τ) w' r v/\Qe fr ro w ro' w':=by
  rintro ad c rfl rfl
  have hl0:l'=[]:=by rw[<- hl'];rfl
  subst hl0
  refine(Any.slices_Sort_int_none L ad c w).mono ?_
  rintro e w' ⟨rfl,rfl⟩
  exact⟨_,_,_,ro,[],rfl,⟨rfl,rfl⟩,by simpa using s,⟨[],rfl,rfl⟩,Qe.refl _ _ _⟩
 rcases hvs with⟨h0,rfl⟩|⟨b,p,cp,t',m,q1,rfl,q2,q3,q4,q5⟩
 ·exact none_case none 0 rfl (List.length_eq_zero_iff.1 h0)
 ·by_cases hl0:l=[]
  ·subst hl0
   exact none_case _ cp rfl rfl
  ·have hlp:0<l.length:=List.length_pos_iff.2 hl0
   obtain rfl:=q2 (Nat.lt_of_lt_of_le hlp q3)
   obtain⟨lv,e1,e2⟩:=s.blk 0 _ _ q1 rfl
   obtain⟨hb,hbro,hbfr⟩:=s.own 0 b _ q1 rfl rfl
   obtain⟨rest,rfl⟩:=Qij e2
   have hH:Holds (Value.int .i64) w b 0 l.toArray:=by
    intro j hj
    simp only[List.size_toArray]at hj
    constructor
    ·unfold World.cell?
     simp only[e1,Option.isSome_none,Bool.false_eq_true,if_false,Nat.zero_add]
     rw[QaT,List.getElem?_append_left (by simpa using hj)]
     simp[hj]
    ·unfold World.frozen?
     simp only[e1]
     simp
   have hcon:=Any.slices_Sort_int L b 0 cp l w hH hb (by unfold Yb at hmax;omega)
   rw[Qdm,hl']at hcon
   simp only[Nat.zero_mul]at hcon⊢
   refine hcon.mono ?_
   rintro e w' ⟨rfl,n,os,rfl⟩
   have hll:l.length=l'.length:=QbA hs
   generalize hW:grow (putRow (Value.int .i64) (Sort.ahead w n) b 0 l'.toArray) os=W
   have hheap:W.heap=w.heap.setIfInBounds b (.cells ((l'.map (Value.int .i64)++rest)).toArray t (0,0))++os:=by
    rw[<- hW]
    show(w.heap.modify b _)++os=_
    rw[QbC e1]
    simp only[onCells]
    congr 3
    unfold putCells
    apply Array.ext_getElem?
    intro i
    simp only[Array.getElem?_mapIdx,QaT,Nat.zero_le,true_and,Nat.zero_add,Nat.sub_zero,List.size_toArray]
    by_cases hi:i<l'.length
    ·rw[List.getElem?_append_left (by simpa[hll]using hi),List.getElem?_append_left (by simpa using hi)]
     simp[hi,hll]
    ·rw[List.getElem?_append_right (by simp;omega),List.getElem?_append_right (by simp;omega)]
     simp only[List.length_map,hll]
     cases(rest[i-l'.length]?)with
     |none=>rfl
     |some v=>exact congrArg some (if_neg hi)
   have g1:∀c,c<w.heap.size->c≠b->W.heap[c]?=w.heap[c]? :=by
    intro c hc hcb
    rw[hheap,Array.getElem?_append_left (by simpa using hc),Array.getElem?_setIfInBounds,if_neg (fun q=>hcb q.symm)]
   have g2:W.heap[b]?=some (.cells ((l'.map (Value.int .i64)++rest)).toArray t (0,0)):=by
    rw[hheap,Array.getElem?_append_left (by simpa using hb),Array.getElem?_setIfInBounds,if_pos rfl,if_pos hb]
   have g3:w.heap.size<=W.heap.size:=by rw[hheap];simp
   have hshape:∀c y,w.shape? c=some y->W.shape? c=some y:=by
    intro c y hy
    by_cases hc:c=b
    ·subst hc
     unfold World.shape? at hy⊢
     rw[e1]at hy
     rw[g2]
     simp only[Option.some.injEq]at hy⊢
     rw[<- hy]
     simp[hll]
    ·unfold World.shape? at hy⊢
     rw[g1 c (Qb6 hy) hc];exact hy
   have hos:W.os=w.os:=by rw[<- hW];rfl
   have htp:W.tape=w.tape:=by rw[<- hW];rfl
   have hou:W.output=w.output:=by rw[<- hW];rfl
   have hdr:w.drawn<=W.drawn:=by rw[<- hW];exact Nat.le_add_right _ _
   have hev:Qe fr ro w ro W:=
    ⟨fun _ q=>q,fun c hc=>g1 c (s.roLt c hc) (fun q=>hbro (q▸hc)),fun c hc=>g1 c (s.frLt c hc) (fun q=>hbfr (q▸hc)),g3,hshape,hos,htp,hou,hdr⟩
   have hlen1:σ.length=1:=s.len
   have hsim:Sim fr ro σ [.row t 1 (l'.map fun x=>[A.int .i64 x])] W:=by
    have i0:∀{i:Nat}{x:Blk},([.row t 1 (l'.map fun x=>[A.int .i64 x])]:Qc)[i]?=some x->i=0/\x=.row t 1 (l'.map fun x=>[A.int .i64 x]):=by
     intro i x h
     cases i with
     |zero=>simp at h;exact⟨rfl,h.symm⟩
     |succ i=>simp at h
    refine⟨hlen1,s.roOk.to (fun _ q=>q) hev.keepRo (fun c hc=>Nat.lt_of_lt_of_le (s.roLt c hc) g3),fun c hc=>Nat.lt_of_lt_of_le (s.frLt c hc) g3,s.roFr,fun i c x h1 h2 h3=>?_,fun i j c x y h1 h2 h3 h4 _ _=>?_,fun i y x h1 h2=>?_,fun i b x c h1 h2 h3=>by obtain⟨rfl,rfl⟩:=i0 h2;exact h3.elim⟩
    ·obtain⟨rfl,rfl⟩:=i0 h2
     obtain⟨p1,p2⟩:=s.own 0 c _ h1 rfl rfl
     exact⟨Nat.lt_of_lt_of_le p1 g3,p2⟩
    ·rw[(i0 h3).1,(i0 h4).1]
    ·obtain⟨rfl,rfl⟩:=i0 h2
     rw[q1]at h1
     cases h1
     exact⟨_,g2,Qep l' rest⟩
   exact⟨_,_,_,ro,[],rfl,⟨rfl,rfl⟩,by simpa using hsim,⟨[],rfl,rfl⟩,hev⟩
section
variable {P:Program}{o:Oper}{env:Env}{H:Qc}{α:Type}{e:α->List A}{T et k b t:Nat}{x y:Operand}
end
end Go.Sw
namespace Go.Sw
inductive Bx where
 |mk (a:A)
def lkB:Env->Nat->Bx
 |[],_=>.mk .any
 |(d,a)::r,s=>bif Nat.beq s d then .mk a else lkB r s
theorem Qhn:∀{env:Env}{s:Nat}{a:A},lkB env s=.mk a->lk env s=a
 |[],s,a,h=>by cases h;rfl
 |(d,b)::r,s,a,h=>by
  unfold lkB at h
  unfold lk
  cases q:Nat.beq s d with
  |true=>rw[q]at h;cases h;rfl
  |false=>rw[q]at h;exact Qhn h
inductive FBy where
 |mk (l:List UInt8)
def fby:List UInt8->FBy
 |[]=>.mk []
 |a::r=>match fby r with
  |.mk r'=>.mk (a::r')
theorem Qka:∀l:List UInt8,fby l=.mk l
 |[]=>rfl
 |a::r=>by unfold fby;rw[Qka r]
def opB(env:Env):Operand->Bx
 |.tmp t=>lkB env t
 |.const (.bool b)=>.mk (.bool b)
 |.const (.int k n)=>.mk (.int k n)
 |.const (.string s)=>match fby s.data.toList with
  |.mk l=>.mk (.str l)
 |.const (.pointer none)=>.mk .nilp
 |.const (.slice none 0 0)=>.mk .nils
 |.const (.map none)=>.mk .nilm
 |.const .nilFunc=>.mk .nilf
 |.const .nilIface=>.mk .nilif
 |.func f=>.mk (.fn (.func f) [] [])
 |_=>.mk .any
theorem Qu{env:Env}{x:Operand}{a:A}(h:opB env x=.mk a):opA env x=a:=by
 cases x with
 |tmp t=>exact Qhn h
 |const v=>
  cases v with
  |slice b n k=>cases b with
   |none=>cases n with
    |zero=>cases k<;>(cases h;rfl)
    |succ n=>cases h;rfl
   |some b=>cases h;rfl
  |pointer p=>cases p<;>(cases h;rfl)
  |map p=>cases p<;>(cases h;rfl)
  |string s=>
   have h2:(match fby s.data.toList with|.mk l=>Bx.mk (.str l))=.mk a:=h
   rw[Qka]at h2;cases h2;rfl
  |_=>cases h;rfl
 |global g=>cases h;rfl
 |func f=>cases h;rfl
def Yt{α:Type}:List α->Nat->Option α
 |[],_=>none
 |a::_,0=>some a
 |_::r,n+1=>Yt r n
theorem Qav{α:Type}:∀(l:List α) (n:Nat),Yt l n=l[n]?
 |[],n=>by simp[Yt]
 |a::r,0=>rfl
 |a::r,n+1=>by simp[Yt,Qav r n]
def arB:BinOp->IntKind->Int->Int->Option A
 |.add,k,m,n=>some (.int k (k.wrap (m+n)))
 |.sub,k,m,n=>some (.int k (k.wrap (m-n)))
 |.mul,k,m,n=>some (.int k (k.wrap (m*n)))
 |.eql,_,m,n=>some (.bool (m==n))
 |.neq,_,m,n=>some (.bool (m != n))
 |.lss,_,m,n=>some (.bool (decide (m<n)))
 |.leq,_,m,n=>some (.bool (decide (m<=n)))
 |.gtr,_,m,n=>some (.bool (decide (n<m)))
 |.geq,_,m,n=>some (.bool (decide (n<=m)))
 |_,_,_,_=>none
def srB:BinOp->List UInt8->List UInt8->Option A
 |.eql,p,q=>some (.bool (p==q))
 |.neq,p,q=>some (.bool (p != q))
 |.lss,p,q=>some (.bool (Op.bytesLess p q))
 |_,_,_=>none
def biB(b:BinOp):Bx->Bx->Option A
 |.mk (.int k m),.mk (.int k' n)=>if k=k' then arB b k m n else none
 |.mk (.str p),.mk (.str q)=>srB b p q
 |_,_=>none
def unB:UnOp->Bx->Option A
 |.not,.mk (.bool b)=>some (.bool !b)
 |.neg,.mk (.int k n)=>some (.int k (k.wrap (0-n)))
 |_,_=>none
def exB:Bx->Nat->Option A
 |.mk (.tup vs),i=>Yt vs i
 |_,_=>none
def nlB:Bx->Option A
 |.mk (.ptr i j)=>some (.ptr i j)
 |.mk (.rp cs)=>some (.rp cs)
 |_=>none
def piB:Bx->Bx->Bx->Option A
 |.mk (.bool true),.mk a,_=>some a
 |.mk (.bool false),_,.mk a=>some a
 |_,_,_=>none
def svB(env:Env):Op->Option A
 |.move x=>match opB env x with|.mk a=>some a
 |.assign x=>match opB env x with|.mk a=>some a
 |.nilCheck x=>nlB (opB env x)
 |.extract x i=>exB (opB env x) i
 |.unOp u _ x=>unB u (opB env x)
 |.pick c x y=>piB (opB env c) (opB env x) (opB env y)
 |.binOp b _ x y _=>biB b (opB env x) (opB env y)
 |_=>none
def pr(d:Nat):Option A->Option (Nat×A)
 |some a=>some (d,a)
 |none=>none
def stB(o:Oper)(env:Env):Option (Nat×A):=
 match o.dst with
 |some d=>pr d (svB env o.op)
 |none=>none
section
variable {P:Program}{h0 N:Nat}{all:Array Oper}{o:Oper}{l:List Oper}{env:Env}{H H':Qc}{Q:Qm}{d:Nat}{x:A}
theorem Qbm{p:Op}(ho:o.op=p)(h:svB env p=some x):OpV P o env H x:=by
 unfold svB at h
 split at h
 ·rename_i y
  cases q:opB env y with|mk a=>rw[q]at h;cases h;exact OpV.move ho (Qu q)
 ·rename_i y
  cases q:opB env y with|mk a=>rw[q]at h;cases h;exact OpV.assign ho (Qu q)
 ·rename_i y
  unfold nlB at h
  split at h
  ·rename_i i j q;cases h;exact Qer ho (Qu q) rfl
  ·rename_i cs q;cases h;exact Qer ho (Qu q) rfl
  ·cases h
 ·rename_i y i
  unfold exB at h
  split at h
  ·rename_i vs _ q;rw[Qav]at h;exact OpV.extract ho (Qu q) h
  ·cases h
 ·rename_i u t y
  unfold unB at h
  split at h
  ·rename_i b q;cases h;exact OpV.not ho (Qu q)
  ·rename_i k n q;cases h;exact OpV.neg ho (Qu q)
  ·cases h
 ·rename_i c y z
  unfold piB at h
  split at h
  ·rename_i a _ q1 q2;cases h;exact OpV.pick ho (Qu q1) (by rw[if_pos rfl];exact Qu q2)
  ·rename_i a q1 q2;cases h;exact OpV.pick ho (Qu q1) (by rw[if_neg (by decide)];exact Qu q2)
  ·cases h
 ·rename_i b t y z u
  unfold biB at h
  split at h
  ·rename_i k m k' n q1 q2
   split at h
   ·rename_i e
    subst e
    have h1:=Qu q1
    have h2:=Qu q2
    unfold arB at h
    split at h
    ·cases h;exact OpV.add ho h1 h2
    ·cases h;exact OpV.sub ho h1 h2
    ·cases h;exact OpV.mul ho h1 h2
    ·cases h;exact OpV.eql ho h1 h2
    ·cases h;exact OpV.neq ho h1 h2
    ·cases h;exact OpV.lss ho h1 h2
    ·cases h;exact OpV.leq ho h1 h2
    ·cases h;exact OpV.gtr ho h1 h2
    ·cases h;exact OpV.geq ho h1 h2
    ·cases h
   ·cases h
  ·rename_i p q q1 q2
   have h1:=Qu q1
   have h2:=Qu q2
   unfold srB at h
   split at h
   ·cases h;exact Qi4 ho h1 h2
   ·cases h;exact Qi1 ho h1 h2
   ·cases h;exact Qi2 ho h1 h2
   ·cases h
  ·cases h
 ·cases h
theorem Qfq(h:stB o env=some (d,x)):o.dst=some d/\OpV P o env H x:=by
 unfold stB at h
 split at h
 ·rename_i d' q
  cases e:svB env o.op with
  |none=>rw[e]at h;cases h
  |some a=>rw[e]at h;cases h;exact⟨q,Qbm rfl e⟩
 ·cases h
theorem S(e:stB o env=some (d,x))(k:WO P h0 N all l (up env d x) H Q)(hg:Ql all o env true:=by exact rfl)(hN:Nat.blt d N=true:=by exact rfl):WO P h0 N all (o::l) env H Q:=
 Yp hg (Qfq (P:=P) (H:=H) e).1 hN (Qfq e).2 k
theorem Sg(hg:Ql all o env true)(e:stB o env=some (d,x))(k:WO P h0 N all l (up env d x) H Q)(hN:Nat.blt d N=true:=by exact rfl):WO P h0 N all (o::l) env H Q:=
 Yp hg (Qfq (P:=P) (H:=H) e).1 hN (Qfq e).2 k
theorem K(hg:Ql all o env false)(hd:o.dst=some d)(k:WO P h0 N all l (up env d (.tup [])) H Q)(hN:Nat.blt d N=true:=by exact rfl):WO P h0 N all (o::l) env H Q:=
 WO.skip hg hd hN k
def fpB(o:Oper)(env:Env):Option (Nat×Nat×Nat×Nat×Nat):=
 match o.dst,o.op with
 |some d,.fieldAddr T x f=>match opB env x with
  |.mk (.ptr i p)=>some (d,T,f,i,p)
  |_=>none
 |_,_=>none
theorem QfB{T f off n i p:Nat}(hf:YP P T f off n)(h:fpB o env=some (d,T,f,i,p)):o.dst=some d/\OpV P o env H (.ptr i (p+off)):=by
 unfold fpB at h
 split at h
 ·rename_i q1 q2
  split at h
  ·rename_i q3;cases h;exact⟨q1,Qb2 hf q2 (Qu q3)⟩
  ·cases h
 ·cases h
theorem Fp{T f off n i p:Nat}(hf:YP P T f off n)(e:fpB o env=some (d,T,f,i,p))(k:WO P h0 N all l (up env d (.ptr i (p+off))) H Q)(hg:Ql all o env true:=by exact rfl)(hN:Nat.blt d N=true:=by exact rfl):WO P h0 N all (o::l) env H Q:=
 Yp hg (QfB (H:=H) hf e).1 hN (QfB hf e).2 k
theorem Fpg{T f off n i p:Nat}(hg:Ql all o env true)(hf:YP P T f off n)(e:fpB o env=some (d,T,f,i,p))(k:WO P h0 N all l (up env d (.ptr i (p+off))) H Q)(hN:Nat.blt d N=true:=by exact rfl):WO P h0 N all (o::l) env H Q:=
 Yp hg (QfB (H:=H) hf e).1 hN (QfB hf e).2 k
inductive Lx where
 |mk (l:List A)
def QgG:Nat->List A->Lx
 |0,l=>.mk l
 |n+1,_::r=>QgG n r
 |_+1,[]=>.mk []
theorem Qel:∀{n:Nat}{l r:List A},QgG n l=.mk r->l.drop n=r
 |0,l,r,h=>by cases h;rfl
 |n+1,a::l,r,h=>by rw[List.drop_succ_cons];exact Qel h
 |n+1,[],r,h=>by cases h;rfl
def ctB:Option Blk->Nat->Option A
 |some (.cells _ cs),off=>Yt cs off
 |_,_=>none
def lvB(H:Qc):Bx->Option A
 |.mk (.ptr i off)=>ctB (Yt H i) off
 |.mk (.rp (a::_))=>some a
 |_=>none
def pr3(d t:Nat):Option A->Option (Nat×Nat×A)
 |some a=>some (d,t,a)
 |none=>none
def ldB(o:Oper)(env:Env)(H:Qc):Option (Nat×Nat×A):=
 match o.dst,o.op with
 |some d,.load t x=>pr3 d t (lvB H (opB env x))
 |_,_=>none
theorem QjV{t:Nat}(ha:∀w,(isAgg t).run P w=.ok false w)(h:ldB o env H=some (d,t,x)):o.dst=some d/\OpV P o env H x:=by
 unfold ldB at h
 split at h
 ·rename_i d' t' y q1 q2
  cases e:lvB H (opB env y)with
  |none=>rw[e]at h;cases h
  |some a=>
   rw[e]at h;cases h
   refine⟨q1,?_⟩
   unfold lvB at e
   split at e
   ·rename_i i off q3
    unfold ctB at e
    split at e
    ·rename_i off nn T0 T cs q4
     rw[Qav]at e q4
     obtain⟨cs',hc⟩:∃cs',cs.drop off=x::cs':=by
      have hlt:=(List.getElem?_eq_some_iff.1 e).1
      refine⟨cs.drop (off+1),?_⟩
      rw[List.drop_eq_getElem_cons hlt,(List.getElem?_eq_some_iff.1 e).2]
     exact OpV.load q2 ha (Qu q3) (Pts.cells q4 hc)
    ·cases e
   ·rename_i a r q3
    cases e
    exact OpV.load q2 ha (Qu q3) Pts.rp
   ·cases e
 ·cases h
theorem Ld{t:Nat}(ha:∀w,(isAgg t).run P w=.ok false w)(e:ldB o env H=some (d,t,x))(k:WO P h0 N all l (up env d x) H Q)(hg:Ql all o env true:=by exact rfl)(hN:Nat.blt d N=true:=by exact rfl):WO P h0 N all (o::l) env H Q:=
 Yp hg (QjV ha e).1 hN (QjV ha e).2 k
def ixB(o:Oper)(env:Env):Option (Nat×Nat×Nat×List (List A)×IntKind×Int):=
 match o.dst,o.op with
 |some d,.indexAddr t x y=>match opB env x,opB env y with
  |.mk (.rsl k es),.mk (.int kk i)=>some (d,t,k,es,kk,i)
  |_,_=>none
 |_,_=>none
theorem Ix{α:Type}{e:α->List A}{t et k:Nat}{L:List α}{kk:IntKind}{i:Int}{v:α}(h:idx L i=some v)(ht:∀w,(underlying t).run P w=.ok (.slice et) w)(hs:∀w,(sizeOf et).run P w=.ok k w)
  (q:ixB o env=some (d,t,k,L.map e,kk,i))(k:WO P h0 N all l (up env d (.rp (e v))) H Q)(hg:Ql all o env true:=by exact rfl)(hN:Nat.blt d N=true:=by exact rfl):WO P h0 N all (o::l) env H Q:=by
 unfold ixB at q
 split at q
 ·rename_i q1 q2
  split at q
  ·rename_i q3 q4
   simp only[Option.some.injEq,Prod.mk.injEq]at q
   obtain⟨rfl,rfl,rfl,e1,rfl,rfl⟩:=q
   exact Yp hg q1 hN (QlE h ht hs q2 (by rw[Qu q3,e1]) (Qu q4)) k
  ·cases q
 ·cases q
def lnB(o:Oper)(env:Env):Option (Nat×Nat×Bx):=
 match o.dst,o.op with
 |some d,.call c=>match c with
  |{callee:=.builtin .len,args:=⟨[x]⟩,argTypes:=⟨[t]⟩}=>some (d,t,opB env x)
  |_=>none
 |_,_=>none
theorem QjU{t:Nat}{b:Bx}(q:lnB o env=some (d,t,b)):∃x,o.dst=some d/\o.op=.call {callee:=.builtin .len,args:= #[x],argTypes:= #[t]}/\opB env x=b:=by
 unfold lnB at q
 split at q
 ·rename_i q1 q2
  split at q
  ·cases q;exact⟨_,q1,q2,rfl⟩
  ·cases q
 ·cases q
theorem LnM{α:Type}{e:α->List A}{t et k:Nat}{L:List α}(ht:∀w,(underlying t).run P w=.ok (.slice et) w)(q:lnB o env=some (d,t,.mk (.rsl k (L.map e))))
  (k:WO P h0 N all l (up env d (.int .i64 L.length)) H Q)(hg:Ql all o env true:=by exact rfl)(hN:Nat.blt d N=true:=by exact rfl):WO P h0 N all (o::l) env H Q:=by
 obtain⟨x,q1,q2,q3⟩:=QjU q
 exact Yp hg q1 hN (QkN ht q2 rfl (Qu q3)) k
theorem LnO{t et i n k:Nat}(ht:∀w,(underlying t).run P w=.ok (.slice et) w)(q:lnB o env=some (d,t,.mk (.osl i 0 n k)))
  (k:WO P h0 N all l (up env d (.int .i64 n)) H Q)(hg:Ql all o env true:=by exact rfl)(hN:Nat.blt d N=true:=by exact rfl):WO P h0 N all (o::l) env H Q:=by
 obtain⟨x,q1,q2,q3⟩:=QjU q
 exact Yp hg q1 hN (Qfg ht q2 rfl (Qu q3)) k
end
section
variable {P:Program}{h0 N:Nat}{all:Array Oper}{env env':Env}{H H':Qc}{Q:Qm}{c c':Code}
theorem Nx(h:TC P h0 N c env H Q):WO P h0 N all [] env H (Seq P h0 N c Q):=WO.nil (Qjy h)
theorem Rg{id:Nat}{l:List Oper}(h:WO P h0 N l.toArray l env H (Seq P h0 N c Q)):TC P h0 N (.seq (.region id l.toArray false) c) env H Q:=TC.seq (TC.region h)
theorem SkN(h:TC P h0 N c env H Q):TC P h0 N .skip env H (Seq P h0 N c Q):=TC.skip (Qjy h)
theorem ExX{id:Nat}(h:Q (.exit id) env H):TC P h0 N (.exit id) env H (Seq P h0 N c Q):=TC.exit (seqX h)
theorem Oi{α:Type}{x y:α}(h:some x=some y):x=y:=Option.some.inj h
theorem Bd{α β:Type}{x:Option α}{f:α->Option β}{r:β}{G:Prop}(h:x.bind f=some r)(k:∀a,x=some a->f a=some r->G):G:=by
 obtain⟨a,h1,h2⟩:=bnd h
 exact k a h1 h2
theorem Cn{α:Type}{x:Operand}{t:Bool}{p q:Option α}{r:α}(hx:opB env x=.mk (.bool t))(h:(bif t then p else q)=some r)(ht:t=true->p=some r->TC P h0 N c env H Q)(hf:t=false->q=some r->TC P h0 N c' env H Q):TC P h0 N (.cond x c c') env H Q:=
 TC.cond (Qu hx) (fun e=>ht e (ifT e h)) (fun e=>hf e (ifF e h))
theorem CnS{α:Type}{x:Operand}{t:Bool}{p q:Option α}{r:α}(hx:opB env x=.mk (.bool t))(h:(bif t then p else q)=some r)(hf:t=false->q=some r->TC P h0 N c' env H Q)(ht:t=true->p=some r->TC P h0 N c env H Q):TC P h0 N (.cond x c c') env H Q:=
 TC.cond (Qu hx) (fun e=>ht e (ifT e h)) (fun e=>hf e (ifF e h))
theorem Lr(π:List Nat)(hpre:π.take h0=List.range h0:=by exact rfl)(hH:π.map (fun p=>H[p]?)=(H'.map (QG (rho π H.length))).map some:=by exact rfl)(hπ:π.Nodup:=by decide)
  (hE:Qey (rho π H.length) env env':=by(repeat' (first|exact trivial|refine⟨rfl,?_⟩))):Le h0 env H env' H':=QmT π hpre hH hπ hE
end
end Go.Sw
namespace Go.Sw
def Ev{α:Type}(f:Nat->Option α)(v:α):Prop:=∃N,∀n,N<=n->f n=some v
section
variable {α β:Type}{f g:Nat->Option α}{v w:α}
theorem Qa(v:α):Ev (fun _=>some v) v:=⟨0,fun _ _=>rfl⟩
theorem Ev.const{o:Option α}(h:o=some v):Ev (fun _=>o) v:=⟨0,fun _ _=>h⟩
theorem Ev.bind{k:Nat->α->Option β}{b:β}(h:Ev f v)(hk:Ev (fun n=>k n v) b):Ev (fun n=>(f n).bind (k n)) b:=by
 obtain⟨N,h⟩:=h
 obtain⟨M,hk⟩:=hk
 exact⟨max N M,fun n hn=>by show(f n).bind (k n)=some b;rw[h n (by omega),Option.bind_some];exact hk n (by omega)⟩
theorem QaK{o:Option α}{k:Nat->α->Option β}{b:β}(h:o=some v)(hk:Ev (fun n=>k n v) b):Ev (fun n=>o.bind (k n)) b:=Ev.bind (Ev.const h) hk
theorem Qbx{c:Bool}(ht:c=true->Ev f v)(hf:c=false->Ev g w):Ev (fun n=>bif c then f n else g n) (bif c then v else w):=by
 cases c with
 |true=>exact ht rfl
 |false=>exact hf rfl
theorem Qio(h:Ev f v):Ev (fun n=>bif true then f n else g n) v:=h
theorem Ev.ff(h:Ev g v):Ev (fun n=>bif false then f n else g n) v:=h
theorem Ev.and{c d:Bool}{h:Nat->Option Bool}(ht:c=true->Ev h d):Ev (fun n=>bif c then h n else some false) (c&&d):=by
 cases c with
 |true=>exact ht rfl
 |false=>exact Qa _
theorem QaJ{c d:Bool}{h:Nat->Option Bool}(hf:c=false->Ev h d):Ev (fun n=>bif c then some true else h n) (c||d):=by
 cases c with
 |true=>exact Qa _
 |false=>exact hf rfl
theorem Ev.eq(h:Ev f v)(e:v=w):Ev f w:=e▸h
theorem Ev.congr(h:Ev f v)(e:∀n,g n=f n):Ev g v:=by
 obtain⟨N,h⟩:=h
 exact⟨N,fun n hn=>by rw[e];exact h n hn⟩
theorem Qae(h:Ev (fun n=>f (n+1)) v):Ev f v:=by
 obtain⟨N,h⟩:=h
 refine⟨N+1,fun n hn=>?_⟩
 obtain⟨m,rfl⟩:∃m,n=m+1:=⟨n-1,by omega⟩
 exact h m (by omega)
theorem Ev.ex(h:Ev f v):∃n,f n=some v:=let⟨N,h⟩:=h;⟨N,h N (Nat.le_refl _)⟩
theorem Ev.all{k:Nat}{F:Nat->Nat->Option α}{V:Nat->α}(h:∀i,i<k->Ev (F i) (V i)):∃N,∀n,N<=n->∀i,i<k->F i n=some (V i):=by
 induction k with
 |zero=>exact⟨0,fun n _ i hi=>absurd hi (Nat.not_lt_zero _)⟩
 |succ k ih=>
  obtain⟨N,hN⟩:=ih fun i hi=>h i (by omega)
  obtain⟨M,hM⟩:=h k (by omega)
  refine⟨max N M,fun n hn i hi=>?_⟩
  rcases Nat.lt_succ_iff_lt_or_eq.1 hi with q|rfl
  ·exact hN n (by omega) i q
  ·exact hM n (by omega)
end
section
variable {S B α:Type}{step:Nat->S->Option (Ctl S B)}
theorem Ev.iter{s0:S}(st:Nat->S)(k:Nat){b:B}(h0:st 0=s0)(hc:∀i,i<k->Ev (fun n=>step n (st i)) (.cont (st (i+1))))(hd:Ev (fun n=>step n (st k)) (.done b)):
  Ev (fun n=>Go.Sw.iter (step n) n s0) b:=by
 obtain⟨N,hN⟩:=Ev.all hc
 obtain⟨M,hM⟩:=hd
 exact⟨max (max N M) (k+1),fun n hn=>QjZ s0 st b k h0 (fun i hi=>hN n (by omega) i hi) (hM n (by omega)) n (by omega)⟩
theorem QbI{step:S->Option (Ctl S B)}{s:S}{b:B}(m:Nat)(h:Go.Sw.iter step m s=some b):Ev (fun n=>Go.Sw.iter step n s) b:=by
 have mono:∀m s,Go.Sw.iter step m s=some b->∀n,m<=n->Go.Sw.iter step n s=some b:=by
  intro m
  induction m with
  |zero=>intro s h;cases h
  |succ m ih=>
   intro s h n hn
   obtain⟨n',rfl⟩:∃n',n=n'+1:=⟨n-1,by omega⟩
   simp only[Go.Sw.iter]at h⊢
   cases e:step s with
   |none=>rw[e]at h;cases h
   |some c=>
    rw[e]at h
    cases c with
    |cont s'=>exact ih s' h n' (by omega)
    |done b'=>exact h
 exact⟨m,fun n hn=>mono m s h n hn⟩
structure At (l:List α) (i:Nat) (x:α):Prop where
 get:l[i]?=some x
 lt:decide ((i:Int)<(l.length:Int))=true
 ix:idx l (i:Int)=some x
 nx:IntKind.i64.wrap ((i:Int)+1)=((i+1:Nat):Int)
theorem YW{l:List α}{i:Nat}{x:α}(hl:l.length<=4611686018427387904)(h:l[i]?=some x):At l i x:=by
 have hi:=(List.getElem?_eq_some_iff.1 h).1
 exact⟨h,decide_eq_true (by omega),Qbd h,Qaw (by omega)⟩
theorem At.mem{l:List α}{i:Nat}{x:α}(h:At l i x):x∈l:=List.mem_of_getElem? h.get
theorem At.lt'{l:List α}{i:Nat}{x:α}(h:At l i x):i<l.length:=(List.getElem?_eq_some_iff.1 h.get).1
theorem At.take{l:List α}{i:Nat}{x:α}(h:At l i x):l.take (i+1)=l.take i++[x]:=by
 rw[List.take_add_one,h.get];rfl
theorem Qdn(l:List α):decide ((l.length:Int)<(l.length:Int))=false:=decide_eq_false (by omega)
theorem Qbw{s0:S}(l:List α)(q:α->Bool)(st:Nat->S)(bx b:B)(hl:l.length<=4611686018427387904)(h0:st 0=s0)
  (hc:∀i x,At l i x->q x=false->Ev (fun n=>step n (st i)) (.cont (st (i+1))))
  (hx:∀i x,At l i x->q x=true->Ev (fun n=>step n (st i)) (.done bx))
  (hd:Ev (fun n=>step n (st l.length)) (.done b)):Ev (fun n=>Go.Sw.iter (step n) n s0) (bif l.any q then bx else b):=by
 have key:∀k,k<=l.length->(∀i x,l[i]?=some x->i<k->q x=false)\/ ∃i x,l[i]?=some x/\i<k/\q x=true/\ ∀j y,l[j]?=some y->j<i->q y=false:=by
  intro k
  induction k with
  |zero=>intro _;exact .inl fun i x _ hi=>absurd hi (Nat.not_lt_zero _)
  |succ k ih=>
   intro hk
   rcases ih (by omega)with h|⟨i,x,h1,h2,h3⟩
   ·have hg:l[k]?=some l[k]:=List.getElem?_eq_getElem (by omega)
    cases e:q l[k]with
    |true=>exact .inr ⟨k,_,hg,Nat.lt_succ_self _,e,h⟩
    |false=>
     refine .inl fun i x hx hi=>?_
     rcases Nat.lt_succ_iff_lt_or_eq.1 hi with z|rfl
     ·exact h i x hx z
     ·rw[hg]at hx;cases hx;exact e
   ·exact .inr ⟨i,x,h1,by omega,h3⟩
 rcases key l.length (Nat.le_refl _)with h|⟨i,x,h1,h2,h3,h4⟩
 ·have:l.any q=false:=by
   rw[Bool.eq_false_iff]
   intro e
   obtain⟨x,hx,e⟩:=List.any_eq_true.1 e
   obtain⟨i,hi,rfl⟩:=List.getElem_of_mem hx
   rw[h i _ (List.getElem?_eq_getElem hi) hi]at e
   cases e
  rw[this]
  exact Ev.iter st l.length h0 (fun i hi=>hc i _ (YW hl (List.getElem?_eq_getElem hi)) (h i _ (List.getElem?_eq_getElem hi) hi)) hd
 ·have:l.any q=true:=List.any_eq_true.2 ⟨x,List.mem_of_getElem? h1,h3⟩
  rw[this]
  refine Ev.iter st i h0 (fun j hj=>?_) (hx i x (YW hl h1) h3)
  have hj':l[j]?=some l[j]:=List.getElem?_eq_getElem (by omega)
  exact hc j _ (YW hl hj') (h4 j _ hj' hj)
theorem Qbj{β:Type}{s0:S}(l:List α)(g:β->α->β)(a0:β)(st:β->Nat->S)(out:β->B)(hl:l.length<=4611686018427387904)(h0:st a0 0=s0)
  (hc:∀i x a,At l i x->a=(l.take i).foldl g a0->Ev (fun n=>step n (st a i)) (.cont (st (g a x) (i+1))))
  (hd:Ev (fun n=>step n (st (l.foldl g a0) l.length)) (.done (out (l.foldl g a0)))):Ev (fun n=>Go.Sw.iter (step n) n s0) (out (l.foldl g a0)):=by
 refine Ev.iter (fun i=>st ((l.take i).foldl g a0) i) l.length (by simpa using h0) (fun i hi=>?_) (by simpa using hd)
 have ha:=YW (x:=l[i]) hl (List.getElem?_eq_getElem hi)
 have:=hc i _ _ ha rfl
 rw[ha.take,List.foldl_append]
 exact this
theorem Ev.contains(l:List α)(q:α->Bool)(g:Nat->α->Option Bool)(hl:l.length<=4611686018427387904)(hg:∀x∈l,Ev (fun n=>g n x) (q x)):
  Ev (fun n=>(((Go.Sw.iter (fun s:Int=>bif decide (s<(l.length:Int))then(idx l s).bind fun x=>(g n x).bind fun r=>(bif r then some (Ctl.done (Ctl.done s))else some (Ctl.cont (IntKind.i64.wrap (s+1))))else some (Ctl.done (Ctl.cont ()))) n (0:Int):Option (Ctl Unit Int)).bind fun b=>
   match b with
   |.cont _=>some (-1)
   |.done s=>some s):Option Int).bind fun r=>some (decide (0<=r))) (l.any q):=by
 cases e:l.any q with
 |false=>
  refine Ev.bind (v:=(-1:Int)) (Ev.bind (v:=Ctl.cont ()) (Ev.iter (fun i=>(i:Int)) l.length rfl (fun i hi=>?_) ?_) (Qa _)) (Qa _)
  ·have ha:=YW (x:=l[i]) hl (List.getElem?_eq_getElem hi)
   simp only[ha.lt,cond_true,ha.ix,Option.bind_some]
   have hq:q l[i]=false:=by
    rw[Bool.eq_false_iff];intro h
    rw[List.any_eq_true.2 ⟨_,ha.mem,h⟩]at e;cases e
   refine Ev.bind ((hg _ ha.mem).eq hq) ?_
   simp only[cond_false,ha.nx]
   exact Qa _
  ·simp only[Qdn,cond_false];exact Qa _
 |true=>
  obtain⟨x,hx,h⟩:=List.any_eq_true.1 e
  have key:∀k,k<=l.length->(∀(i:Nat) (x:α),l[i]?=some x->i<k->q x=false)\/ ∃(i:Nat) (x:α),l[i]?=some x/\i<k/\q x=true/\ ∀(j:Nat) (y:α),l[j]?=some y->j<i->q y=false:=by
   intro k
   induction k with
   |zero=>intro _;exact .inl fun i x _ hi=>absurd hi (Nat.not_lt_zero _)
   |succ k ih=>
    intro hk
    rcases ih (by omega)with h|⟨i,x,h1,h2,h3⟩
    ·have hg:l[k]?=some l[k]:=List.getElem?_eq_getElem (by omega)
     cases e:q l[k]with
     |true=>exact .inr ⟨k,_,hg,Nat.lt_succ_self _,e,h⟩
     |false=>
      refine .inl fun i x hx hi=>?_
      rcases Nat.lt_succ_iff_lt_or_eq.1 hi with z|rfl
      ·exact h i x hx z
      ·rw[hg]at hx;cases hx;exact e
    ·exact .inr ⟨i,x,h1,by omega,h3⟩
  rcases key l.length (Nat.le_refl _)with h'|⟨i,x,h1,h2,h3,h4⟩
  ·obtain⟨j,hj,rfl⟩:=List.getElem_of_mem hx
   rw[h' j _ (List.getElem?_eq_getElem hj) hj]at h;cases h
  ·refine Ev.bind (v:=(i:Int)) (Ev.bind (v:=Ctl.done (i:Int)) (Ev.iter (fun i=>(i:Int)) i rfl (fun j hj=>?_) ?_) (Qa _)) ?_
   ·have ha:=YW (x:=l[j]) hl (List.getElem?_eq_getElem (by omega))
    simp only[ha.lt,cond_true,ha.ix,Option.bind_some]
    refine Ev.bind ((hg _ ha.mem).eq (h4 j _ ha.get hj)) ?_
    simp only[cond_false,ha.nx]
    exact Qa _
   ·have ha:=YW hl h1
    simp only[ha.lt,cond_true,ha.ix,Option.bind_some]
    refine Ev.bind ((hg _ ha.mem).eq h3) ?_
    exact Qa _
   ·rw[decide_eq_true (by omega)]
    exact Qa _
end
section
variable {S B α:Type}{step:Nat->S->Option (Ctl S B)}
theorem QcB{s0:S}(st:Nat->S)(k:Nat)(R:Nat->B)(h0:st 0=s0)(hc:∀i,i<k->(Ev (fun n=>step n (st i)) (.cont (st (i+1)))/\R i=R (i+1))\/Ev (fun n=>step n (st i)) (.done (R i)))
  (hd:Ev (fun n=>step n (st k)) (.done (R k))):Ev (fun n=>Go.Sw.iter (step n) n s0) (R 0):=by
 have key:∀m,m<=k->(∀i,i<m->Ev (fun n=>step n (st i)) (.cont (st (i+1)))/\R i=R (i+1))\/ ∃j,j<m/\(∀i,i<j->Ev (fun n=>step n (st i)) (.cont (st (i+1)))/\R i=R (i+1))/\Ev (fun n=>step n (st j)) (.done (R j)):=by
  intro m
  induction m with
  |zero=>intro _;exact .inl fun i hi=>absurd hi (Nat.not_lt_zero _)
  |succ m ih=>
   intro hm
   rcases ih (by omega)with h|⟨j,h1,h2⟩
   ·rcases hc m (by omega)with q|q
    ·refine .inl fun i hi=>?_
     rcases Nat.lt_succ_iff_lt_or_eq.1 hi with z|rfl
     ·exact h i z
     ·exact q
    ·exact .inr ⟨m,Nat.lt_succ_self _,h,q⟩
   ·exact .inr ⟨j,by omega,h2⟩
 have same:∀m,(∀i,i<m->R i=R (i+1))->R 0=R m:=by
  intro m
  induction m with
  |zero=>intro _;rfl
  |succ m ih=>intro h;exact(ih fun i hi=>h i (by omega)).trans (h m (Nat.lt_succ_self _))
 rcases key k (Nat.le_refl _)with h|⟨j,h1,h2,h3⟩
 ·rw[same k fun i hi=>(h i hi).2]
  exact Ev.iter st k h0 (fun i hi=>(h i hi).1) hd
 ·rw[same j fun i hi=>(h2 i hi).2]
  exact Ev.iter st j h0 (fun i hi=>(h2 i hi).1) h3
theorem At.drop{l:List α}{i:Nat}{x:α}(h:At l i x):l.drop i=x::l.drop (i+1):=by
 have:=h.lt'
 rw[List.drop_eq_getElem_cons this,(List.getElem?_eq_some_iff.1 h.get).2]
theorem QfU{s0:S}(l:List α)(st:Nat->S)(R:Nat->B)(hl:l.length<=4611686018427387904)(h0:st 0=s0)
  (hc:∀i x,At l i x->(Ev (fun n=>step n (st i)) (.cont (st (i+1)))/\R i=R (i+1))\/Ev (fun n=>step n (st i)) (.done (R i)))
  (hd:Ev (fun n=>step n (st l.length)) (.done (R l.length))):Ev (fun n=>Go.Sw.iter (step n) n s0) (R 0):=
 QcB st l.length R h0 (fun i hi=>hc i _ (YW hl (List.getElem?_eq_getElem hi))) hd
end
section
variable {α β:Type} [DecidableEq α]
theorem YG(p:α×β)(l:List (α×β))(k:α):Qal (p::l) k=if p.1=k then some p.2 else Qal l k:=by
 unfold Qal
 by_cases h:p.1=k<;>simp[List.find?_cons,h]
theorem QiB(p:α×β)(l:List (α×β))(k:α)(v:β):Q8 (p::l) k v=if p.1=k then(p.1,v)::l.map (fun q=>bif decide (q.1=k)then(q.1,v)else q)else p::Q8 l k v:=by
 unfold Q8
 by_cases h:p.1=k
 ·simp[h]
 ·simp only[List.any_cons,h,decide_false,Bool.false_or,if_false,List.map_cons,cond_false]
  cases l.any fun p=>decide (p.1=k)<;>simp
theorem QjQ(l:List (α×β))(k k':α)(v:β)(h:k'≠k):Qal (l.map fun q=>bif decide (q.1=k)then(q.1,v)else q) k'=Qal l k':=by
 induction l with
 |nil=>rfl
 |cons p l ih=>
  rw[List.map_cons,YG,YG,ih]
  by_cases e:p.1=k
  ·have:¬k=k':=fun q=>h q.symm
   simp[e,this]
  ·simp[e]
theorem QeW(l:List (α×β))(k k':α)(v:β):Qal (Q8 l k v) k'=if k'=k then some v else Qal l k':=by
 induction l with
 |nil=>
  show Qal ([]++[(k,v)]) k'=_
  rw[List.nil_append,YG]
  by_cases h:k'=k
  ·subst h;simp
  ·rw[if_neg fun q=>h q.symm,if_neg h]
 |cons p l ih=>
  rw[QiB]
  by_cases e:p.1=k
  ·rw[if_pos e,YG,YG]
   by_cases h:k'=k
   ·subst h;simp[e]
   ·have:p.1≠k':=fun q=>h (q.symm.trans e)
    simp only[this,if_false,h]
    exact QjQ l k k' v h
  ·rw[if_neg e,YG,YG,ih]
   by_cases h:p.1=k'
   ·rw[if_pos h,if_neg fun q=>e (h.trans q),if_pos h]
   ·rw[if_neg h,if_neg h]
theorem QiC(k:α)(z:β):QR ([]:List (α×β)) k z=z:=rfl
theorem QdZ(l:List (α×β))(k k':α)(v z:β):QR (Q8 l k v) k' z=if k'=k then v else QR l k' z:=by
 unfold QR
 rw[QeW]
 by_cases h:k'=k<;>simp[h]
theorem QeV(l:List (α×β))(k:α)(v:β):(Q8 l k v).map (·.1)=if k∈l.map (·.1)then l.map (·.1)else l.map (·.1)++[k]:=by
 unfold Q8
 have e:(l.any fun p=>decide (p.1=k))=decide (k∈l.map (·.1)):=by
  rw[Bool.eq_iff_iff]
  simp only[List.any_eq_true,decide_eq_true_eq,List.mem_map]
 rw[e]
 by_cases h:k∈l.map (·.1)
 ·rw[decide_eq_true h,if_pos h,cond_true,List.map_map]
  apply List.map_congr_left
  intro p _
  simp only[Function.comp]
  cases decide (p.1=k)<;>rfl
 ·rw[decide_eq_false h,if_neg h,cond_false,List.map_append];rfl
def QW{γ:Type}(key:γ->α)(v:β)(l:List γ):List (α×β):=l.foldl (fun m x=>Q8 m (key x) v) []
theorem Qfw{γ:Type}(key:γ->α)(v:β)(l:List γ)(x:γ):QW key v (l++[x])=Q8 (QW key v l) (key x) v:=by
 unfold QW;rw[List.foldl_append];rfl
theorem Qc4{γ:Type}(key:γ->α)(v z:β)(l:List γ)(k:α):QR (QW key v l) k z=if k∈l.map key then v else z:=by
 have gen:∀(l:List γ) (m:List (α×β)),QR (l.foldl (fun m x=>Q8 m (key x) v) m) k z=if k∈l.map key then v else QR m k z:=by
  intro l
  induction l with
  |nil=>intro m;simp
  |cons x l ih=>
   intro m
   rw[List.foldl_cons,ih,QdZ]
   by_cases h:k∈l.map key
   ·rw[if_pos h,if_pos (by simp only[List.map_cons];exact List.mem_cons_of_mem _ h)]
   ·rw[if_neg h]
    by_cases e:k=key x
    ·rw[if_pos e,if_pos (by simp[e])]
    ·rw[if_neg e,if_neg (by simp only[List.map_cons,List.mem_cons,not_or];exact⟨e,h⟩)]
 exact gen l []
theorem QbO{γ:Type}(key:γ->α)(v:β)(l:List γ):(QW key v l).length<=l.length/\((QW key v l).length=l.length↔(l.map key).Nodup):=by
 have gen:∀(l:List γ) (m:List (α×β)),(m.map (·.1)).Nodup->(l.foldl (fun m x=>Q8 m (key x) v) m).length<=m.length+l.length/\((l.foldl (fun m x=>Q8 m (key x) v) m).length=m.length+l.length↔(m.map (·.1)++l.map key).Nodup):=by
  intro l
  induction l with
  |nil=>intro m hm;simpa using hm
  |cons x l ih=>
   intro m hm
   have hk:=QeV m (key x) v
   have hlen:(Q8 m (key x) v).length=((Q8 m (key x) v).map (·.1)).length:=by simp
   by_cases h:key x∈m.map (·.1)
   ·rw[if_pos h]at hk
    obtain⟨h1,h2⟩:=ih (Q8 m (key x) v) (by rw[hk];exact hm)
    have e:(Q8 m (key x) v).length=m.length:=by rw[hlen,hk];simp
    rw[List.foldl_cons]
    refine⟨by simp only[List.length_cons];omega,⟨fun q=>?_,fun q=>?_⟩⟩
    ·simp only[List.length_cons]at q;omega
    ·exfalso
     have:=(List.nodup_append.1 q).2.2 _ h (key x) (by simp)
     exact this rfl
   ·rw[if_neg h]at hk
    have hn:((Q8 m (key x) v).map (·.1)).Nodup:=by
     rw[hk]
     refine List.nodup_append.2 ⟨hm,by simp,?_⟩
     intro a ha b hb e
     simp only[List.mem_singleton]at hb
     exact h (by rw[<- hb, <- e];exact ha)
    obtain⟨h1,h2⟩:=ih (Q8 m (key x) v) hn
    have e:(Q8 m (key x) v).length=m.length+1:=by rw[hlen,hk];simp
    rw[List.foldl_cons]
    refine⟨by simp only[List.length_cons];omega,?_⟩
    rw[hk]at h2
    rw[show m.length+(x::l).length=(Q8 m (key x) v).length+l.length by rw[e];simp;omega,h2]
    simp[List.append_assoc]
 have:=gen l [] (by simp)
 simpa[QW]using this
end
theorem YQ{α:Type}(l:List α)(p:α->Bool)(g:Nat->α->Option Bool)(hl:l.length<=4611686018427387904)(hg:∀x∈l,Ev (fun n=>g n x) (p x)):
  Ev (fun n=>((((Go.Sw.iter (fun s:Int=>bif decide (s<(l.length:Int))then(idx l s).bind fun x=>((g n x).bind fun r1=>some (!r1)).bind fun r=>(bif r then some (Ctl.done (Ctl.done s))else some (Ctl.cont (IntKind.i64.wrap (s+1))))else some (Ctl.done (Ctl.cont ()))) n (0:Int):Option (Ctl Unit Int)).bind fun b=>
   match b with
   |.cont _=>some (-1)
   |.done s=>some s):Option Int).bind fun r=>some (decide (0<=r)):Option Bool).bind fun r=>some (!r)) (l.all p):=by
 refine Ev.bind (Ev.contains l (fun x=> !p x) (fun n x=>(g n x).bind fun r1=>some (!r1)) hl fun x hx=>Ev.bind (hg x hx) (Qa _)) ((Qa _).eq ?_)
 rw[List.not_any_eq_all_not]
 simp
theorem Ev.inner{α κ B:Type}[DecidableEq κ]{step:Nat->Int->Option (Ctl Int B)}(l:List α)(i:Nat)(key:α->κ)(k:κ)(bx b:B)(hl:l.length<=4611686018427387904)(hi:i<=l.length)
  (hc:∀j y,j<i->At l j y->decide (key y=k)=false->Ev (fun n=>step n (j:Int)) (.cont ((j+1:Nat):Int)))
  (hx:∀j y,j<i->At l j y->decide (key y=k)=true->Ev (fun n=>step n (j:Int)) (.done bx))
  (hd:Ev (fun n=>step n (i:Int)) (.done b)):Ev (fun n=>Go.Sw.iter (step n) n 0) (bif ((l.take i).map key).contains k then bx else b):=by
 have e:((l.take i).map key).contains k=(l.take i).any fun y=>decide (key y=k):=by
  rw[Bool.eq_iff_iff]
  simp only[List.contains_eq_mem,decide_eq_true_eq,List.mem_map,List.any_eq_true]
 rw[e]
 have hlen:(l.take i).length=i:=by simp;omega
 have hat:∀j y,At (l.take i) j y->j<i/\At l j y:=by
  intro j y hj
  have hj2:=hj.lt'
  have hjg:=hj.get
  rw[List.getElem?_take]at hjg
  split at hjg
  ·exact⟨by omega,YW hl hjg⟩
  ·cases hjg
 refine Qbw (l.take i) (fun y=>decide (key y=k)) (fun i=>(i:Int)) _ _ (by omega) rfl (fun j y hj hq=>?_) (fun j y hj hq=>?_) ?_
 ·obtain⟨h1,h2⟩:=hat j y hj;exact hc j y h1 h2 hq
 ·obtain⟨h1,h2⟩:=hat j y hj;exact hx j y h1 h2 hq
 ·rw[hlen];exact hd
theorem Qbk{α κ β:Type}[DecidableEq κ]{step:Nat->List (κ×β)×Int->Option (Ctl (List (κ×β)×Int) (List (κ×β)))}(l:List α)(key:α->κ)(v:β)(hl:l.length<=4611686018427387904)
  (hc:∀i x m,At l i x->Ev (fun n=>step n (m,(i:Int))) (.cont (Q8 m (key x) v,((i+1:Nat):Int))))
  (hd:∀m,Ev (fun n=>step n (m,(l.length:Int))) (.done m)):Ev (fun n=>Go.Sw.iter (step n) n ([],0)) (QW key v l):=
 Qbj l (fun m x=>Q8 m (key x) v) [] (fun m i=>(m,(i:Int))) (fun m=>m) hl rfl (fun i x m ha _=>hc i x m ha) (hd _)
theorem Ev.shift{α:Type}{f:Nat->Option α}{v:α}(h:Ev f v):Ev (fun n=>f (n+1)) v:=by
 obtain⟨N,h⟩:=h
 exact⟨N,fun n hn=>h (n+1) (by omega)⟩
def EvI{S B:Type}(step:Nat->S->Option (Ctl S B))(s:S)(b:B):Prop:=∃N,∀n k,N<=n->N<=k->Go.Sw.iter (step n) k s=some b
section
variable {S B:Type}{step:Nat->S->Option (Ctl S B)}{s s':S}{b:B}
theorem EvI.done(h:Ev (fun n=>step n s) (.done b)):EvI step s b:=by
 obtain⟨N,h⟩:=h
 refine⟨N+1,fun n k hn hk=>?_⟩
 obtain⟨k',rfl⟩:∃k',k=k'+1:=⟨k-1,by omega⟩
 have:=h n (by omega)
 simp only[Go.Sw.iter,this]
theorem EvI.cont(h:Ev (fun n=>step n s) (.cont s'))(q:EvI step s' b):EvI step s b:=by
 obtain⟨N,h⟩:=h
 obtain⟨M,q⟩:=q
 refine⟨max N M+1,fun n k hn hk=>?_⟩
 obtain⟨k',rfl⟩:∃k',k=k'+1:=⟨k-1,by omega⟩
 have:=h n (by omega)
 simp only[Go.Sw.iter,this]
 exact q n k' (by omega) (by omega)
theorem EvI.ev(h:EvI step s b):Ev (fun n=>Go.Sw.iter (step n) n s) b:=by
 obtain⟨N,h⟩:=h
 exact⟨N,fun n hn=>h n n hn hn⟩
theorem EvI.eq{b':B}(h:EvI step s b)(e:b=b'):EvI step s b':=e▸h
end
theorem QE{α:Type}{l r:List α}{i:Nat}{x:α}(hl:l.length<=4611686018427387904)(h:l.drop i=x::r):At l i x/\l.drop (i+1)=r:=by
 have h1:l[i]?=some x:=by
  have:=congrArg (fun l=>l[0]?) h
  simpa using this
 refine⟨YW hl h1,?_⟩
 have:=(YW hl h1).drop
 rw[h]at this
 exact(List.cons.inj this).2.symm
theorem Yi{α:Type}{l:List α}{i:Nat}(h:l.drop i=[])(hi:i<=l.length):decide ((i:Int)<(l.length:Int))=false:=by
 have:=List.drop_eq_nil_iff.1 h
 exact decide_eq_false (by omega)
end Go.Sw
namespace Go.Sw
theorem Z.{u}{α:Sort u}{a:α}:a=a:=rfl
section
variable {P:Program}{h0 N:Nat}{all:Array Oper}{env:Env}{H H':Qc}{Q:Qm}{l:List Oper}{o:Oper}{d:Nat}
theorem aV(x:A)(H:Qc){x':A}{H':Qc}(hx:x'=x)(hH:H'=H)(k:WO P h0 N all l (up env d x) H Q):WO P h0 N all l (up env d x') H' Q:=by subst hx;subst hH;exact k
theorem vX(x:A)(hop:OpV P o env H x)(k:WO P h0 N all l (up env d x) H Q)(hg:Ql all o env true:=by exact rfl)(hd:o.dst=some d:=by exact rfl)(hN:Nat.blt d N=true:=by exact rfl):WO P h0 N all (o::l) env H Q:=
 Yp hg hd hN hop k
theorem Wp:WO P h0 N all [] env H (YE env H):=WO.nil YE.mk
end
end Go.Sw
namespace Go.Sw
section
variable {P:Program}{o:Oper}{env:Env}{H:Qc}
theorem QlH{ro:Nat->Prop}{σ:Sig}{w:World}(g:GP w){b:Nat}{zs:List Int}(h:Qhq[b]?=some zs):∀(i:Nat),CR ro σ w b ((zs.drop i).map (A.int .i64)) i:=by
 intro i
 generalize hl:zs.drop i=l
 induction l generalizing i with
 |nil=>trivial
 |cons z l ih=>
  have hz:zs[i]?=some z:=by
   have:=congrArg (·[0]?) hl
   simpa using this
  have hl':zs.drop (i+1)=l:=by
   rw[<- List.drop_drop,hl];rfl
  exact⟨⟨_,g.tab b zs h i z hz,by simp[Qk],rfl⟩,ih (i+1) hl'⟩
theorem Qff{t n g:Nat}{zs:List Int}(ha:∀w,(isAgg t).run P w=.ok true w)(hs:∀w,(sizeOf t).run P w=.ok n w)(hg:Qhq[g]?=some zs)(hl:zs.length=n)(ho:o.op=.load t (.global g):=by exact rfl):
  OpV P o env H (.agg (zs.map (A.int .i64))):=by
 intro fr ro σ N a w r
 obtain⟨l,q1,_,q2⟩:=Yf (P:=P) (b:=g) (cs:=zs.map (A.int .i64)) (off:=0) 0 (by simpa using QlH (ro:=ro) (σ:=σ) r.sim.roOk.gp hg 0)
 have q2:=q2 w #[] rfl
 rw[List.length_map,hl]at q2
 refine⟨.agg l.toArray,?_,l,rfl,q1⟩
 have h2:a.eval (.global g)=.pointer (some ⟨g,0,none⟩):=rfl
 generalize a.eval=ρ at*
 simp[execOp,ho,h2,Instr.loadAt,Instr.sureAddr,loadVar,ha,hs,loadCells,q2,go_sem]
end
end Go.Sw
namespace Go.Sw
open Go.Proofs
section
variable {P:Program}
def toV(agg:Bool)(l:List Value):Value:=bif agg then .agg l.toArray else l.headD .nilFunc
structure QhU (P:Program) (t:TypeId) (h k:Nat) (agg:Bool) (ok:List Value->Prop):Prop where
 len:∀l,ok l->l.length=k
 ia:∀w,(isAgg t).run P w=.ok agg w
 so:∀w,(sizeOf t).run P w=.ok k w
 eq:∀(w:World) (d:Nat) (l m:List Value),ok l->ok m->∃b:Bool,(Op.equalIn (d+h) t (toV agg l) (toV agg m)).run P w=.ok b w/\(b=true↔l=m)
structure QkW (P:Program) (fs:List Field) (h off k:Nat) (ok:List Value->Prop):Prop where
 len:∀l,ok l->l.length=k
 eq:∀(w:World) (d:Nat) (p q l m:List Value),p.length=off->q.length=off->ok l->ok m->∃b:Bool,(Op.eqFields (d+h) (p++l).toArray (q++m).toArray fs).run P w=.ok b w/\(b=true↔l=m)
theorem QhU.int{t:TypeId}{k:IntKind}(hu:P.underlying t=some (.int k))(ia:∀w,(isAgg t).run P w=.ok false w)(so:∀w,(sizeOf t).run P w=.ok 1 w)(h:Nat):QhU P t (h+1) 1 false (fun l=>∃n:Int,l=[.int k n]):=by
 refine⟨?_,ia,so,?_⟩
 ·rintro _ ⟨n,rfl⟩;rfl
 ·rintro w d _ _ ⟨n,rfl⟩ ⟨m,rfl⟩
  exact⟨_,run_equalIn_int w (d+h) t k k n m hu,by simp⟩
theorem QhU.bool{t:TypeId}(hu:P.underlying t=some .bool)(ia:∀w,(isAgg t).run P w=.ok false w)(so:∀w,(sizeOf t).run P w=.ok 1 w)(h:Nat):QhU P t (h+1) 1 false (fun l=>∃n:Bool,l=[.bool n]):=by
 refine⟨?_,ia,so,?_⟩
 ·rintro _ ⟨n,rfl⟩;rfl
 ·rintro w d _ _ ⟨n,rfl⟩ ⟨m,rfl⟩
  exact⟨_,run_equalIn_bool' w (d+h) t n m hu,by simp⟩
theorem QhU.str{t:TypeId}(hu:P.underlying t=some .string)(ia:∀w,(isAgg t).run P w=.ok false w)(so:∀w,(sizeOf t).run P w=.ok 1 w)(h:Nat):QhU P t (h+1) 1 false (fun l=>∃s:List UInt8,l=[.string ⟨s.toArray⟩]):=by
 refine⟨?_,ia,so,?_⟩
 ·rintro _ ⟨n,rfl⟩;rfl
 ·rintro w d _ _ ⟨n,rfl⟩ ⟨m,rfl⟩
  exact⟨_,run_equalIn_string w (d+h) t _ _ hu,by simp[Go.ByteArray.toList_eq]⟩
theorem QkW.nil(h off:Nat):QkW P [] h off 0 (fun l=>l=[]):=by
 refine⟨?_,?_⟩
 ·rintro _ rfl;rfl
 ·rintro w d p q _ _ _ _ rfl rfl
  exact⟨true,by simp[Op.eqFields],by simp⟩
theorem Qgc{t:TypeId}{k:Nat}{agg:Bool}{w:World}(ia:∀w,(isAgg t).run P w=.ok agg w)(so:∀w,(sizeOf t).run P w=.ok k w)(p l1 l2:List Value)(hl:l1.length=k)(h1:agg=false->k=1):
  (part t (p++(l1++l2)).toArray p.length).run P w=.ok (toV agg l1) w:=by
 unfold part
 cases agg with
 |true=>
  simp[ia,so,go_sem,toV]
  rw[<- hl]
  simp[List.extract]
 |false=>
  have:=h1 rfl
  subst this
  match l1,hl with
  |[v],_=>simp[ia,go_sem,toV]
theorem QkW.cons{f:Field}{fs:List Field}{h off k1 k2:Nat}{agg:Bool}{ok1 ok2:List Value->Prop}(ho:Nat.beq f.offset off=true)(hn:f.name≠"_")(h1:QhU P f.type h k1 agg ok1)(hk:agg=false->k1=1)(h2:QkW P fs h (off+k1) k2 ok2):
  QkW P (f::fs) h off (k1+k2) (fun l=>∃l1 l2,l=l1++l2/\ok1 l1/\ok2 l2):=by
 have ho':f.offset=off:=Nat.eq_of_beq_eq_true ho
 refine⟨?_,?_⟩
 ·rintro _ ⟨l1,l2,rfl,a,b⟩
  rw[List.length_append,h1.len _ a,h2.len _ b]
 ·rintro w d p q _ _ hp hq ⟨l1,l2,rfl,a1,a2⟩ ⟨m1,m2,rfl,b1,b2⟩
  have e1:=Qgc (P:=P) (w:=w) h1.ia h1.so p l1 l2 (h1.len _ a1) hk
  have e2:=Qgc (P:=P) (w:=w) h1.ia h1.so q m1 m2 (h1.len _ b1) hk
  rw[hp]at e1
  rw[hq]at e2
  obtain⟨b3,e3,f3⟩:=h1.eq w d l1 m1 a1 b1
  obtain⟨b4,e4,f4⟩:=h2.eq w d (p++l1) (q++m1) l2 m2 (by rw[List.length_append,hp,h1.len _ a1]) (by rw[List.length_append,hq,h1.len _ b1]) a2 b2
  rw[List.append_assoc,List.append_assoc]at e4
  have hl:l1.length=m1.length:=by rw[h1.len _ a1,h1.len _ b1]
  refine⟨b3&&b4,?_,?_⟩
  ·generalize(p++(l1++l2)).toArray=X at*
   generalize(q++(m1++m2)).toArray=Y at*
   cases b3<;>simp[Op.eqFields,hn,ho',Sem.run_bind,Result.andThen,e1,e2,e3,e4]
  ·rw[Bool.and_eq_true,f3,f4]
   constructor
   ·rintro⟨rfl,rfl⟩;rfl
   ·intro e;exact List.append_inj e hl
theorem QhU.struct{t:TypeId}{h k:Nat}{ok:List Value->Prop}(hu:P.underlying t=some (.struct (P.fieldsOf t)))(hs:P.stoodInHeld t=false)(ia:∀w,(isAgg t).run P w=.ok true w)(so:∀w,(sizeOf t).run P w=.ok k w)(hf:QkW P (P.fieldsOf t).toList h 0 k ok):QhU P t (h+1) k true ok:=by
 refine⟨hf.len,ia,so,fun w d l m a b=>?_⟩
 obtain⟨r,e1,e2⟩:=hf.eq w d [] [] l m rfl rfl a b
 refine⟨r,?_,e2⟩
 show(Op.equalIn (d+h+1) t (.agg l.toArray) (.agg m.toArray)).run P w=_
 rw[run_equalIn_agg w (d+h) t _ _ hu hs]
 simpa using e1
theorem QA{t:TypeId}{h k:Nat}{fs:Array Field}{ok:List Value->Prop}(hu:P.underlying t=some (.struct fs))(hs:P.stoodInHeld t=false)(ia:∀w,(isAgg t).run P w=.ok true w)(so:∀w,(sizeOf t).run P w=.ok k w)(hf:QkW P fs.toList h 0 k ok):QhU P t (h+1) k true ok:=by
 have e:P.fieldsOf t=fs:=by simp[Program.fieldsOf,hu]
 exact QhU.struct (by rw[e];exact hu) hs ia so (by rw[e];exact hf)
structure EqD (P:Program) (t:TypeId) {α:Type} (cells:α->List A):Prop where
 scl:∀x,QbK (cells x)=true
 inj:∀x y,Q5 (cells x)=Q5 (cells y)->x=y
 guard:P.eqGuardType P.depth t=false
 eq:∀(w:World) x y,∃b:Bool,(Op.equalIn 10000 t (.agg (Q5 (cells x)).toArray) (.agg (Q5 (cells y)).toArray)).run P w=.ok b w/\(b=true↔Q5 (cells x)=Q5 (cells y))
theorem Qip{α:Type}{cells:α->List A}{t h k:Nat}{ok:List Value->Prop}(E:QhU P t h k true ok)(hh:Nat.ble h 10000=true)(hok:∀x,ok (Q5 (cells x)))(hs:∀x,QbK (cells x)=true)(hi:∀x y,Q5 (cells x)=Q5 (cells y)->x=y)(hg:P.eqGuardType P.depth t=false):EqD P t cells:=by
 refine⟨hs,hi,hg,fun w x y=>?_⟩
 have:=E.eq w (10000-h) (Q5 (cells x)) (Q5 (cells y)) (hok x) (hok y)
 rwa [show 10000-h+h=10000 by have:=Nat.le_of_ble_eq_true hh;omega]at this
variable {o:Oper}{env:Env}{H:Qc}
theorem Qfh{α:Type}[DecidableEq α]{cells:α->List A}{t u:TypeId}{x y:Operand}{p q:α}(E:EqD P t cells)(hx:opA env x=.agg (cells p))(hy:opA env y=.agg (cells q))(ho:o.op=.binOp .eql t x y u:=by exact rfl):OpV P o env H (.bool (p==q)):=by
 intro fr ro σ N a w r
 have h1:=Qg r x
 have h2:=Qg r y
 rw[hx]at h1
 rw[hy]at h2
 have e1:=VR.val (a:=.agg (cells p)) (E.scl p) h1
 have e2:=VR.val (a:=.agg (cells q)) (E.scl q) h2
 obtain⟨b,e3,e4⟩:=E.eq w p q
 have hb:b=(p==q):=by
  rw[Bool.eq_iff_iff,e4,beq_iff_eq]
  exact⟨E.inj p q,fun e=>by rw[e]⟩
 refine⟨.bool (p==q),?_,rfl⟩
 rw[<- hb]
 generalize a.eval=ρ at*
 have e1':ρ x=.agg (Q5 (cells p)).toArray:=e1
 have e2':ρ y=.agg (Q5 (cells q)).toArray:=e2
 simp[execOp,ho,e1',e2',go_sem,run_eqGuard_agg _ _ _ _ _ _ _ E.guard,run_eql_struct,e3]
theorem Qi5{α:Type}[DecidableEq α]{cells:α->List A}{t u:TypeId}{x y:Operand}{p q:α}(E:EqD P t cells)(hx:opA env x=.agg (cells p))(hy:opA env y=.agg (cells q))(ho:o.op=.binOp .neq t x y u:=by exact rfl):OpV P o env H (.bool (p != q)):=by
 intro fr ro σ N a w r
 have h1:=Qg r x
 have h2:=Qg r y
 rw[hx]at h1
 rw[hy]at h2
 have e1:=VR.val (a:=.agg (cells p)) (E.scl p) h1
 have e2:=VR.val (a:=.agg (cells q)) (E.scl q) h2
 obtain⟨b,e3,e4⟩:=E.eq w p q
 have hb:b=(p==q):=by
  rw[Bool.eq_iff_iff,e4,beq_iff_eq]
  exact⟨E.inj p q,fun e=>by rw[e]⟩
 refine⟨.bool (p != q),?_,rfl⟩
 rw[bne, <- hb]
 generalize a.eval=ρ at*
 have e1':ρ x=.agg (Q5 (cells p)).toArray:=e1
 have e2':ρ y=.agg (Q5 (cells q)).toArray:=e2
 simp[execOp,ho,e1',e2',go_sem,run_eqGuard_agg _ _ _ _ _ _ _ E.guard,run_neq_struct,e3]
end
end Go.Sw
namespace Go.Sw
structure Qen (g g':Nat->Prop) (W W':World):Prop where
 sub:∀b,g b->g' b
 new:∀b,g' b->g b\/W.heap.size<=b
 lt:∀b,g' b->b<W'.heap.size
 all:∀b,W.heap.size<=b->b<W'.heap.size->g' b
 keep:∀b,b<W.heap.size->¬g b->W'.heap[b]?=W.heap[b]?
 size:W.heap.size<=W'.heap.size
 shape:∀b x,W.shape? b=some x->W'.shape? b=some x
 os:W'.os=W.os
 tape:W'.tape=W.tape
 output:W'.output=W.output
 drawn:W.drawn<=W'.drawn
abbrev Jv(T:Type):=List T->(Nat->Prop)->World->Prop
structure Ql4 {T:Type} (ro0:Nat->Prop) (J:Jv T):Prop where
 ev:∀rem g W W' ro',J rem g W->Qe g ro0 W ro' W'->J rem g W'
 up:∀rem g g' W,J rem g W->(∀b,g b->g' b)->(∀b,g' b->b<W.heap.size)->J rem g' W
theorem Sim.round{fr g g' ro:Nat->Prop}{σ:Sig}{H:Qc}{W W':World}(s:Sim fr ro σ H W)(hgf:∀b,g b->fr b)(k:Qen g g' W W'):Sim (fun b=>fr b\/g' b) ro σ H W'/\Qe (fun b=>b<W.heap.size/\ ¬g b) ro W ro W':=by
 have hro:∀b,ro b->W'.heap[b]?=W.heap[b]? :=fun b q=>k.keep b (s.roLt b q) (fun r=>s.roFr b q (hgf b r))
 have hext:Ext ro σ W ro σ W':=by
  have ev:Qe (fun _=>False) ro W ro W':=⟨fun _ q=>q,hro,fun _ q=>q.elim,k.size,k.shape,k.os,k.tape,k.output,k.drawn⟩
  have:=ev.ext σ []
  simpa using this
 refine⟨⟨s.len,s.roOk.to (fun _ q=>q) hro (fun b q=>Nat.lt_of_lt_of_le (s.roLt b q) k.size),fun b q=>q.elim (fun q=>Nat.lt_of_lt_of_le (s.frLt b q) k.size) (k.lt b),fun b q r=>?_,fun i b x q1 q2 q3=>?_,s.inj,fun i y x q1 q2=>?_,
  s.hidTo (· = ·) QJ k.size (fun _ _ _ _ _ _ _ q=>q) (fun i b x c q1 q2 q3 q4=>q4.elim id fun q=>(k.new c q).elim (hgf c) fun q'=>(by have:=(s.hid i b x c q1 q2 q3).lt;omega)) fun j d y g1 g2 g3=>.inl ⟨j,y,rfl,g1,g2,id,fun c q=>s.hidKeep g1 g2 (fun z=>k.keep d (s.own j d y g1 g2 z).1 fun r=>(s.own j d y g1 g2 z).2.2 (hgf d r)) hro q⟩⟩,
  ⟨fun _ q=>q,hro,fun b q=>k.keep b q.1 q.2,k.size,k.shape,k.os,k.tape,k.output,k.drawn⟩⟩
 ·rcases r with r|r
  ·exact s.roFr b q r
  ·rcases k.new b r with q'|q'
   ·exact s.roFr b q (hgf b q')
   ·have:=s.roLt b q;omega
 ·obtain⟨p1,p2,p3⟩:=s.own i b x q1 q2 q3
  refine⟨Nat.lt_of_lt_of_le p1 k.size,p2,fun r=>?_⟩
  rcases r with r|r
  ·exact p3 r
  ·rcases k.new b r with q'|q'
   ·exact p3 (hgf b q')
   ·omega
 ·refine(s.blk i y x q1 q2).keep hext ?_ ?_
  ·rintro b rfl hl
   obtain⟨p1,p2,p3⟩:=s.own i b x q1 q2 hl
   exact k.keep b p1 (fun r=>p3 (hgf b r))
  ·rintro b c rfl hl
   have q:=s.hid i b x c q1 q2 hl
   exact k.keep c q.lt (fun r=>q.fr (hgf c r))
def QmS{T:Type}(J Jx:Jv T)(g:Nat->Prop)(W1:World)(rem:List T):Ending->World->Prop:=fun e W'=>
 ∃g',Qen g g' W1 W'/\((e=.returned (.bool true)/\J rem g' W')\/(e=.returned (.bool false)/\Jx rem g' W'))
structure Ctx (T:Type) where
 l:Nat
 J:Jv T
 Jx:Jv T
 enc:T->List A
 nx:List T->T->List T->Prop
 ro0:Nat->Prop
structure Ctx.ok {T:Type} (X:Ctx T) (P:Program):Prop where
 b:Ql4 X.ro0 X.J
 bx:Ql4 X.ro0 X.Jx
 scl:∀x,QbK (X.enc x)=true
 round:∀l x rem g W1,X.nx l x rem->X.J l g W1->YieldAt Fence.wide 0 P X.l (Q5 (X.enc x)).toArray W1 (QmS X.J X.Jx g W1 rem)
def QkI{T:Type}(P:Program)(f:FuncId)(caps:List A)(H:Qc)(enc:T->List A)(nx:List T->T->List T->Prop)(xs:List T):Prop:=
 ∀(X:Ctx T),X.enc=enc->X.nx=nx->X.ok P->∀fr σ w capv,Sim fr X.ro0 σ H w->LR X.ro0 σ w caps capv->X.J xs fr w->
  Calls P f ((Value.func (.yield X.l) #[] #[]::capv)).toArray w fun e W'=>(∃v,e=.returned v)/\ ∃g,(∀b,fr b->g b)/\((X.J [] g W')\/(∃rem,X.Jx rem g W'))
inductive YSt (T:Type) where
 |on (rem:List T)
 |off (rem:List T)
def Ctx.at{T:Type}(X:Ctx T):YSt T->(Nat->Prop)->World->Prop
 |.on rem=>X.J rem
 |.off rem=>X.Jx rem
theorem Qe.roMono{fr ro ro0 ro':Nat->Prop}{w w':World}(h:Qe fr ro w ro' w')(s:∀b,ro0 b->ro b):Qe fr ro0 w ro' w':=
 ⟨fun b q=>h.sub b (s b q),fun b q=>h.keepRo b (s b q),h.keepFr,h.size,h.shape,h.os,h.tape,h.output,h.drawn⟩
theorem Ctx.ok.ev{T:Type}{X:Ctx T}{P:Program}(h:X.ok P){st:YSt T}{g ro ro':Nat->Prop}{W W':World}(hs:∀b,X.ro0 b->ro b)(hj:X.at st g W)(he:Qe g ro W ro' W'):X.at st g W':=by
 cases st with
 |on rem=>exact h.b.ev rem g W W' ro' hj (he.roMono hs)
 |off rem=>exact h.bx.ev rem g W W' ro' hj (he.roMono hs)
theorem Ctx.ok.up{T:Type}{X:Ctx T}{P:Program}(h:X.ok P){st:YSt T}{g g':Nat->Prop}{W:World}(hj:X.at st g W)(hg:∀b,g b->g' b)(hl:∀b,g' b->b<W.heap.size):X.at st g' W:=by
 cases st with
 |on rem=>exact h.b.up rem g g' W hj hg hl
 |off rem=>exact h.bx.up rem g g' W hj hg hl
abbrev Ye(T:Type):=AEx->Env->Qc->YSt T->Prop
structure In (g fr:Nat->Prop) (ds:List Deferred):Prop where
 sub:∀b,g b->fr b
 beside:∀D,({target:=.collected D,args:= #[]}:Deferred)∈ds->¬g D
def Qcu{T:Type}(X:Ctx T)(h0:Nat)(fr ro:Nat->Prop)(σ:Sig)(w:World)(N:Nat)(ds:List Deferred)(Q:Ye T):Exit->Act->World->Prop:=
 fun e a' w'=>∃x env' H' st ro' σ' fr' g',ExR e x/\Q x env' H' st/\Rel fr' ro' σ' H' env' N a' w'/\(X.at st g' w'/\In g' fr' a'.defers)/\(∀b,ro b->ro' b)/\w.heap.size<=w'.heap.size/\σ'.take h0=σ.take h0/\Qb3 fr w ds fr' a'.defers
theorem Qcu.grow{T:Type}{X:Ctx T}{h0:Nat}{fr fr1 ro ro1:Nat->Prop}{σ σ1:Sig}{w w1:World}{N:Nat}{ds ds1:List Deferred}{Q:Ye T}{e:Exit}{a':Act}{w':World}
  (h:Qcu X h0 fr1 ro1 σ1 w1 N ds1 Q e a' w')(hr:∀b,ro b->ro1 b)(hz:w.heap.size<=w1.heap.size)(hs:σ1.take h0=σ.take h0)(hg:Qb3 fr w ds fr1 ds1):Qcu X h0 fr ro σ w N ds Q e a' w':=by
 obtain⟨x,env',H',st,ro',σ',fr',g',h1,h2,h3,h4,h5,h6,h7,h8⟩:=h
 exact⟨x,env',H',st,ro',σ',fr',g',h1,h2,h3,h4,fun b q=>h5 b (hr b q),Nat.le_trans hz h6,h7.trans hs,hg.trans hz h8⟩
def TCy{T:Type}(X:Ctx T)(P:Program)(h0 N:Nat)(c:Code)(env:Env)(H:Qc)(st:YSt T)(Q:Ye T):Prop:=
 X.ok P->∀rd fr ro σ a w g,Rel fr ro σ H env N a w->(∀b,X.ro0 b->ro b)->X.at st g w/\In g fr a.defers->rd=none->c.wpIn (WF rd) 0 P (Qcu X h0 fr ro σ w N a.defers Q) a w
def WOy{T:Type}(X:Ctx T)(P:Program)(h0 N:Nat)(all:Array Oper)(l:List Oper)(env:Env)(H:Qc)(st:YSt T)(Q:Ye T):Prop:=
 X.ok P->∀rd fr ro σ a w g,Rel fr ro σ H env N a w->(∀b,X.ro0 b->ro b)->X.at st g w/\In g fr a.defers->rd=none->wpL P rd all (Qcu X h0 fr ro σ w N a.defers Q) l a w
theorem In.later{fr fr' g:Nat->Prop}{w:World}{ds ds':List Deferred}(h:In g fr ds)(hl:∀b,fr b->b<w.heap.size)(hg:Qb3 fr w ds fr' ds'):In g fr' ds':=by
 refine⟨fun b q=>hg.sub b (h.sub b q),fun D hD q=>?_⟩
 rcases hg.ds _ hD with r|⟨D',e,r⟩
 ·exact h.beside D r q
 ·have:D=D':=by simpa using e
  subst this
  have:=hl D (h.sub D q)
  omega
section
variable {T:Type}{X:Ctx T}{P:Program}{h0 N:Nat}{c c':Code}{env:Env}{H:Qc}{st:YSt T}{Q:Ye T}
theorem Qi0{fr ro:Nat->Prop}{σ:Sig}{w:World}{ds:List Deferred}{e:Exit}{a':Act}{w':World}(hX:X.ok P)(h:QaG h0 fr ro σ w N ds (fun x env H=>Q x env H st) e a' w')(hs:∀b,X.ro0 b->ro b){g:Nat->Prop}(hl:∀b,fr b->b<w.heap.size)(hj:X.at st g w/\In g fr ds):
  Qcu X h0 fr ro σ w N ds Q e a' w':=by
 obtain⟨x,env',H',ro',σ',fr',h1,h2,h3,h4,h5,h6⟩:=h
 exact⟨x,env',H',st,ro',σ',fr',g,h1,h2,h3,⟨hX.ev hs hj.1 (h4.frMono hj.2.sub),hj.2.later hl h6⟩,h4.sub,h4.size,h5,h6⟩
theorem TCy.lift(h:TC P h0 N c env H (fun x env H=>Q x env H st)):TCy X P h0 N c env H st Q:=
 fun hX rd fr ro σ a w g r hs hj hrd=>Code.wpIn_mono (fun e a' w' q=>Qi0 hX q hs r.sim.frLt hj) (h rd fr ro σ a w r (hrd▸QbF))
def SeqY(X:Ctx T)(P:Program)(h0 N:Nat)(c:Code)(Q:Ye T):Ye T
 |.normal,env,H,st=>TCy X P h0 N c env H st Q
 |.exit id,env,H,st=>Q (.exit id) env H st
 |.ret,env,H,st=>Q .ret env H st
theorem TCy.seq(h:TCy X P h0 N c env H st (SeqY X P h0 N c' Q)):TCy X P h0 N (.seq c c') env H st Q:=by
 intro hX rd fr ro σ a w g r hs hj hrd
 refine wpIn_seq (Code.wpIn_mono ?_ (h hX rd fr ro σ a w g r hs hj hrd))
 rintro e a' w' ⟨x,env',H',st',ro',σ',fr',g',h1,h2,h3,h4,h5,h6,h7,h8⟩
 cases e with
 |normal=>
  obtain rfl:x=.normal:=h1
  exact Code.wpIn_mono (fun e a w q=>q.grow h5 h6 h7 h8) (h2 hX rd fr' ro' σ' a' w' g' h3 (fun b q=>h5 b (hs b q)) h4 hrd)
 |exit id=>
  obtain rfl:x=.exit id:=h1
  exact⟨_,env',H',st',ro',σ',fr',g',rfl,h2,h3,h4,h5,h6,h7,h8⟩
 |ret=>
  obtain rfl:x=.ret:=h1
  exact⟨_,env',H',st',ro',σ',fr',g',rfl,h2,h3,h4,h5,h6,h7,h8⟩
 |_=>exact h1.elim
theorem TCy.region{id:Nat}{l:List Oper}(h:WOy X P h0 N l.toArray l env H st Q):TCy X P h0 N (.region id l.toArray false) env H st Q:=
 fun hX rd fr ro σ a w g r hs hj hrd=>wpIn_region_lit (h hX rd fr ro σ a w g r hs hj hrd)
theorem TCy.cond{x:Operand}{t:Bool}(hx:opA env x=.bool t)(ht:t=true->TCy X P h0 N c env H st Q)(hf:t=false->TCy X P h0 N c' env H st Q):TCy X P h0 N (.cond x c c') env H st Q:=by
 intro hX rd fr ro σ a w g r hs hj hrd
 have hv:=Qg r x
 rw[hx]at hv
 exact wpIn_cond_split hv (fun e=>ht e hX rd fr ro σ a w g r hs hj hrd) (fun e=>hf e hX rd fr ro σ a w g r hs hj hrd)
theorem WOy.nil{all:Array Oper}(h:Q .normal env H st):WOy X P h0 N all [] env H st Q:=
 fun hX rd fr ro σ a w g r hs hj hrd=>⟨_,env,H,st,ro,σ,fr,g,rfl,h,r,hj,fun _ q=>q,Nat.le_refl _,rfl,Qb3.refl _ _ _⟩
end
theorem Qg5{P:Program}{rd:Option Nat}{o:Oper}{a:Act}{K K':Act->World->Prop}{Q Q':Exit->Act->World->Prop}(hk:∀a w,K a w->K' a w)(hp:∀ch a w,Q (.panic ch) a w->Q' (.panic ch) a w)(ho:∀a w,Q .outgrown a w->Q' .outgrown a w)
  {r:Result Next}(h:o.uponIn (WF rd) 0 P a K Q r):o.uponIn (WF rd) 0 P a K' Q' r:=by
 cases r with
 |ok x w=>
  cases x with
  |value v=>exact hk _ _ h
  |skip=>exact hk _ _ h
  |defer d=>exact hk _ _ h
  |enter f args=>
   refine⟨h.1,CallsIn.mono h.2 ?_⟩
   intro e w' q
   cases e with
   |returned v=>exact hk _ _ q
   |panicked c=>exact hp _ _ _ q
   |outgrown=>obtain⟨a,w,q⟩:=q;exact⟨a,w,ho _ _ q⟩
  |row r args=>exact⟨h.1,RowsIn.mono h.2 fun v w' q=>hk _ _ q⟩
  |round l f tmps assign body=>
   refine⟨h.1,RoundIn.mono h.2 ?_⟩
   intro e w' q
   cases e with
   |returned v=>exact hk _ _ q
   |panicked c=>exact hp _ _ _ q
   |outgrown=>obtain⟨a,w,q⟩:=q;exact⟨a,w,ho _ _ q⟩
  |_=>exact h
 |halt x w=>
  cases x with
  |panic v=>exact hp _ _ _ h
  |_=>exact h
section
variable {T:Type}{X:Ctx T}{P:Program}{h0 N:Nat}{env:Env}{H:Qc}{st:YSt T}{Q:Ye T}
theorem WOy.step{all:Array Oper}{o:Oper}{rest:List Oper}(h:WO P h0 N all [o] env H (fun x env' H'=>x=.normal/\WOy X P h0 N all rest env' H' st Q)):WOy X P h0 N all (o::rest) env H st Q:=by
 intro hX rd fr ro σ a w g r hs hj hrd
 have go:∀a' w',Qbu h0 fr ro σ w N a.defers (fun x env' H'=>x=.normal/\WOy X P h0 N all rest env' H' st Q) .normal a' w'->wpL P rd all (Qcu X h0 fr ro σ w N a.defers Q) rest a' w':=by
  rintro a' w' ⟨x,env',H',ro',σ',fr',h1,⟨_,h2⟩,h3,h4,h5,h6,h7⟩
  have hj':X.at st g w'/\In g fr' a'.defers:=⟨hX.ev hs hj.1 (h4.frMono hj.2.sub),by rw[h6];exact hj.2.later r.sim.frLt h7⟩
  have:=h2 hX rd fr' ro' σ' a' w' g h3 (fun b q=>h4.sub b (hs b q)) hj' hrd
  refine Q4 (fun e a2 w2 q=>?_) _ _ _ this
  exact q.grow h4.sub h4.size h5 (by rw[h6];exact h7)
 have h':=h rd fr ro σ a w r (hrd▸QbF)
 unfold wpL wpListIn at h'⊢
 split
 ·rename_i hw
  rw[if_pos hw]at h'
  refine⟨h'.1,Qg5 (fun a2 w2 q=>?_) (fun ch a2 w2 q=>?_) (fun a2 w2 q=>?_) h'.2⟩
  ·unfold wpListIn at q
   exact go a2 w2 q
  ·obtain⟨x,_,_,_,_,_,q,_⟩:=q
   exact q.elim
  ·obtain⟨x,_,_,_,_,_,q,_⟩:=q
   exact q.elim
 ·rename_i hw
  rw[if_neg hw]at h'
  refine⟨h'.1,?_⟩
  have q:=h'.2
  unfold wpListIn at q
  exact go _ _ q
theorem WOy.yield{all:Array Oper}{o:Oper}{rest:List Oper}{d:Nat}{x:T}{lr rem:List T}(hnx:X.nx lr x rem)(hg:Ql all o env true)(hd:o.dst=some d)(hN:Nat.blt d N=true)
  (hop:∀fr ro σ a w,Rel fr ro σ H env N a w->(execOp a.eval o).run P w=(Instr.yield X.l (Q5 (X.enc x)).toArray).run P w)
  (k:∀b:Bool,WOy X P h0 N all rest (up env d (.bool b)) H (bif b then .on rem else .off rem) Q):WOy X P h0 N all (o::rest) env H (.on lr) Q:=by
 intro hX rd fr ro σ a w g r hs hj hrd
 obtain⟨fn,tmps,assign,body,h1,h2⟩:=hX.round lr x rem g w hnx hj.1
 have h3:=(hop fr ro σ a w r).trans h1
 unfold wpL wpListIn
 rw[if_pos (YF hg r)]
 refine⟨fun _ _=>trivial,?_⟩
 rw[Qb8 h3 (fun d e=>by cases e)]
 refine⟨fun h=>by simp[WF,Fence.wide]at h,?_⟩
 refine RoundIn.mono (F:=WF rd) (n:=0) h2 ?_
 rintro e w' ⟨g',hk,hb⟩
 obtain⟨s',ev⟩:=r.sim.round hj.2.sub hk
 have hdN:d<N:=by simpa using hN
 have hext:Ext ro σ w ro σ w':=by have:=ev.ext σ [];simpa using this
 have fin:∀b:Bool,X.at (bif b then .on rem else .off rem) g' w'->wpL P rd all (Qcu X h0 fr ro σ w N a.defers Q) rest (a.put o.dst (.bool b)) w':=by
  intro b hb
  have hm:Qcz (fun b=>fr b\/g' b) a.defers w':=by
   refine⟨r.defers.1,fun d hd=>?_⟩
   obtain⟨D,rfl,q1,q2⟩:=r.defers.2 d hd
   exact⟨D,rfl,.inl q1,(hk.keep D (r.sim.frLt D q1) (hj.2.beside D hd)).trans q2⟩
  have hi:In g' (fun b=>fr b\/g' b) a.defers:=by
   refine⟨fun b q=>.inr q,fun D hD q=>?_⟩
   rcases hk.new D q with q'|q'
   ·exact hj.2.beside D hD q'
   ·obtain⟨D',e,q1,_⟩:=r.defers.2 _ hD
    have:D=D':=by simpa using e
    subst this
    have:=r.sim.frLt D q1
    omega
  have r':Rel (fun b=>fr b\/g' b) ro σ H (up env d (.bool b)) N {a with tmps:=a.tmps.setIfInBounds d (.bool b)} w':=
   ⟨s',VR.up (fr:=fr) (fun s=>(r.env s).mono hext) (by rw[r.size];exact hdN) rfl,by simpa using r.size,hm⟩
  have:=k b hX rd _ ro σ _ w' g' r' hs ⟨hb,hi⟩ hrd
  simp only[hd,Act.put]
  refine Q4 (fun e a2 w2 q=>q.grow (fun _ q=>q) hk.size rfl ⟨fun _ q=>.inl q,fun b q=>?_,fun _ q=>.inl q⟩) _ _ _ this
  rcases q with q|q
  ·exact .inl q
  ·rcases hk.new b q with q|q
   ·exact .inl (hj.2.sub b q)
   ·exact .inr q
 rcases hb with⟨rfl,hb⟩|⟨rfl,hb⟩
 ·exact fin true hb
 ·exact fin false hb
end
def EndY{T:Type}:Ye T:=fun x env H st=>(x=.normal\/x=.ret)/\(st=.on []\/ ∃rem,st=.off rem)
theorem QfO{T:Type}{P:Program}{f:FuncId}{fn:Func}{c:Code}{N:Nat}{caps:List A}{H:Qc}{enc:T->List A}{nx:List T->T->List T->Prop}{xs:List T}
  (hf:P.funcs[f]?=some fn)(hb:fn.body=some c)(hN:fn.ntmps=N)(hA:Nat.ble (caps.length+1) N=true)(hR:fn.results= #[])
  (h:∀X:Ctx T,X.enc=enc->X.nx=nx->TCy X P H.length N c (Qe6 0 (.fn (.yield X.l) [] []::caps)) H (.on xs) EndY):QkI P f caps H enc nx xs:=by
 intro X hE hNx hX fr σ w capv hs hl hj
 have hl2:LR X.ro0 σ w (.fn (.yield X.l) [] []::caps) (Value.func (.yield X.l) #[] #[]::capv):=⟨_,_,rfl,⟨[],[],rfl,rfl,rfl⟩,hl⟩
 have hlen:=hl2.length
 have hA':caps.length+1<=N:=by simpa using hA
 refine(callsIn_wide (n:=0)).1 (callsIn_of_wp_marks hf hb trivial (Code.wpIn_mono ?_ (h X hE hNx hX none fr X.ro0 σ _ w fr ⟨hs,?_,?_,List.nodup_nil,fun d hd=>by cases hd⟩ (fun _ q=>q) ⟨hj,fun _ q=>q,fun D hD=>by cases hD⟩ rfl)))
 ·rintro e a' w' ⟨x,env1,H1,st,ro1,σ1,fr1,g1,h1,⟨h2,h2'⟩,h3,⟨h4,hin⟩,h5,h6,h7,h8⟩
  have key:LeavesInM Fence.wide 0 P fn a'.tmps (fun e W'=>(∃v,e=.returned v)/\ ∃g,(∀b,fr b->g b)/\((X.J [] g W')\/(∃rem,X.Jx rem g W'))) a'.defers .returning w':=by
   refine Qbb (ro:=ro1) (fr:=g1) (σ:=σ1) (H:=H1) a'.defers w' h3.defers.1 (fun d hd=>?_) (h3.sim.frMono hin.sub) (fun w2 s2 ev2=>?_)
   ·obtain⟨D,rfl,q1,q2⟩:=h3.defers.2 d hd
    exact⟨D,rfl,fun q=>h3.sim.roFr D q q1,hin.beside D hd,fun i x r1 r2 r3=>(h3.sim.own i D x r1 r2 r3).2.2 q1,fun i d x r1 r2 r3=>(h3.sim.hid i d x D r1 r2 r3).fr q1,q2⟩
   ·refine⟨.tuple #[],by simp[results,hR,go_sem],⟨_,rfl⟩,fun b=>g1 b\/fr b,fun b q=>.inr q,?_⟩
    have h9:=hX.up (hX.ev h5 h4 ev2) (g':=fun b=>g1 b\/fr b) (fun b q=>.inl q) (fun b q=>Nat.lt_of_lt_of_le (h3.sim.frLt b (q.elim (hin.sub b) (h8.sub b))) ev2.size)
    rcases h2' with rfl|⟨rem,rfl⟩
    ·exact .inl h9
    ·exact .inr ⟨rem,h9⟩
  cases e with
  |normal=>exact key
  |ret=>exact key
  |exit id=>
   obtain rfl:x=.exit id:=h1
   rcases h2 with q|q<;>cases q
  |_=>exact h1.elim
 ·intro s
  have:=Qd1 (i:=0) [] rfl hl2 (Array.replicate (fn.ntmps-(Value.func (.yield X.l) #[] #[]::capv).toArray.size) undef) s
  simpa using this
 ·simp only[List.length_cons]at hlen
  simp[hN];omega
section
variable {T:Type}{X:Ctx T}{P:Program}{h0 N:Nat}{c c':Code}{env:Env}{H:Qc}{st:YSt T}{Q Q':Ye T}
theorem TCy.mono(h:TCy X P h0 N c env H st Q)(hq:∀x env H st,Q x env H st->Q' x env H st):TCy X P h0 N c env H st Q':=by
 intro hX rd fr ro σ a w g r hs hj hrd
 refine Code.wpIn_mono ?_ (h hX rd fr ro σ a w g r hs hj hrd)
 rintro e a' w' ⟨x,env',H',st',ro',σ',fr',g',h1,h2,h3⟩
 exact⟨x,env',H',st',ro',σ',fr',g',h1,hq _ _ _ _ h2,h3⟩
theorem TCy.skip(h:Q .normal env H st):TCy X P h0 N .skip env H st Q:=TCy.lift (TC.skip h)
theorem TCy.ret(h:Q .ret env H st):TCy X P h0 N .ret env H st Q:=TCy.lift (TC.ret h)
theorem TCy.exit{id:Nat}(h:Q (.exit id) env H st):TCy X P h0 N (.exit id) env H st Q:=TCy.lift (TC.exit h)
def BloY(id:Nat)(Q:Ye T):Ye T
 |.normal,env,H,st=>Q .normal env H st
 |.exit id',env,H,st=>bif Nat.beq id' id then Q .normal env H st else Q (.exit id') env H st
 |.ret,env,H,st=>Q .ret env H st
theorem TCy.block{id:Nat}(h:TCy X P h0 N c env H st (BloY id Q)):TCy X P h0 N (.block id c) env H st Q:=by
 intro hX rd fr ro σ a w g r hs hj hrd
 refine wpIn_block (Code.wpIn_mono ?_ (h hX rd fr ro σ a w g r hs hj hrd))
 rintro e a' w' ⟨x,env',H',st',ro',σ',fr',g',h1,h2,h3⟩
 cases e with
 |normal=>
  obtain rfl:x=.normal:=h1
  exact⟨_,env',H',st',ro',σ',fr',g',rfl,h2,h3⟩
 |exit id'=>
  obtain rfl:x=.exit id':=h1
  show Exit.inBlock id _ _ _ _
  unfold Exit.inBlock
  simp only[BloY]at h2
  by_cases q:id'=id
  ·subst q
   rw[Nat.beq_refl,cond_true]at h2
   simp only[if_true]
   exact⟨.normal,env',H',st',ro',σ',fr',g',rfl,h2,h3⟩
  ·have hb:Nat.beq id' id=false:=by
    cases e:Nat.beq id' id with
    |false=>rfl
    |true=>exact absurd (Nat.eq_of_beq_eq_true e) q
   rw[hb,cond_false]at h2
   simp only[q,if_false]
   exact⟨.exit id',env',H',st',ro',σ',fr',g',rfl,h2,h3⟩
 |ret=>
  obtain rfl:x=.ret:=h1
  exact⟨_,env',H',st',ro',σ',fr',g',rfl,h2,h3⟩
 |_=>exact h1.elim
end
section
variable {T:Type}{X:Ctx T}{P:Program}{h0 N:Nat}{c:Code}{env:Env}{H:Qc}{st:YSt T}{Q:Ye T}
def Qja(I:Env->Qc->YSt T->Prop)(Q:Ye T):Ye T
 |.normal,env,H,st=>I env H st
 |.exit id,env,H,st=>Q (.exit id) env H st
 |.ret,env,H,st=>Q .ret env H st
theorem QiU{I:Nat->Env->Qc->YSt T->Prop}(body:∀n env H st,I n env H st->TCy X P h0 N c env H st (Qja (fun env H st=>∃n',n'<n/\I n' env H st) Q)){n:Nat}(hI:I n env H st):TCy X P h0 N (.loop c) env H st Q:=by
 intro hX rd fr ro σ a w g r hs hj hrd b k cs hro hb hr
 have key:∀m n env H st fr1 ro1 σ1 a1 w1 g1,n<m->I n env H st->Rel fr1 ro1 σ1 H env N a1 w1->(∀b,ro b->ro1 b)->w.heap.size<=w1.heap.size->σ1.take h0=σ.take h0->Qb3 fr w a.defers fr1 a1.defers->X.at st g1 w1/\In g1 fr1 a1.defers->
   ∃e a' w',Qcu X h0 fr ro σ w N a.defers Q e a' w'/\ArrivesIn (Machine.fenced P (WF rd)) P (lone (b.atR a1 (.code c::.inLoop c::k)) cs w1) b k cs e a' w':=by
  intro m
  induction m with
  |zero=>intro n env H st fr1 ro1 σ1 a1 w1 g1 hn;exact absurd hn (Nat.not_lt_zero _)
  |succ m ih=>
   intro n env H st fr1 ro1 σ1 a1 w1 g1 hn hI r1 s1 z1 t1 gr1 j1
   obtain⟨e,a',w',hq,harr⟩:=body n env H st hI hX rd fr1 ro1 σ1 a1 w1 g1 r1 (fun b q=>s1 b (hs b q)) j1 hrd b (.inLoop c::k) cs hro hb hr
   obtain⟨x,env',H',st',ro',σ',fr',g',q1,q2,q3,q4,q5,q6,q7,q8⟩:=hq
   have s2:=fun b q=>q5 b (s1 b q)
   have gr2:=gr1.trans z1 q8
   have hp:∀x,Q x env' H' st'->ExR e x->Qcu X h0 fr ro σ w N a.defers Q e a' w':=fun x q q'=>⟨x,env',H',st',ro',σ',fr',g',q',q,q3,q4,s2,Nat.le_trans z1 q6,q7.trans t1,gr2⟩
   cases e with
   |normal=>
    obtain rfl:x=.normal:=q1
    obtain⟨n',hn',q2⟩:=q2
    obtain⟨e2,a2,w2,hq2,harr2⟩:=ih n' env' H' st' fr' ro' σ' a' w' g' (by omega) q2 q3 s2 (Nat.le_trans z1 q6) (q7.trans t1) gr2 q4
    exact⟨e2,a2,w2,hq2,.of_steps (StepsIn.trans harr (.one (fenced_calm hb hr rfl) stepR_inLoop)) harr2⟩
   |exit id=>
    obtain rfl:x=.exit id:=q1
    exact⟨_,a',w',hp _ q2 rfl,.pass (x:=.inLoop c) rfl (fun _ _=>.inl (by simp)) harr⟩
   |ret=>
    obtain rfl:x=.ret:=q1
    exact⟨_,a',w',hp _ q2 rfl,.pass (x:=.inLoop c) rfl (fun _ _=>.inl (by simp)) harr⟩
   |_=>exact q1.elim
 obtain⟨e,a',w',hq,harr⟩:=key (n+1) n env H st fr ro σ a w g (Nat.lt_succ_self _) hI r (fun _ q=>q) (Nat.le_refl _) rfl (Qb3.refl _ _ _) hj
 exact⟨e,a',w',hq,.of_steps (.one (fenced_calm hb hr rfl) stepR_loop) harr⟩
end
end Go.Sw
namespace Go.Sw
theorem Sim.part{fr ro:Nat->Prop}{σ:Sig}{H:Qc}{w:World}(s0:Sim fr ro σ H w){π:List Nat}{Hc:Qc}(hH:π.map (fun p=>H[p]?)=(Hc.map (QG (rho π H.length))).map some)(hπ:π.Nodup):
  Sim (fun b=>fr b\/(∃i x,σ[i]?=some (some b)/\H[i]?=some x/\x.live=true/\i∉π)\/ ∃i x d,σ[i]?=some (some d)/\H[i]?=some x/\Hid w x d b/\i∉π) ro (QQ σ π) Hc w/\ ∀j:Nat,σ[rho π H.length j]?=(QQ σ π)[j]? :=by
 have hp:∀p∈π,p<H.length:=fun p q=>YN hH q
 have hσl:=s0.len
 have hHc:∀(j p:Nat),π[j]?=some p->H[p]?=(Hc[j]?).map (QG (rho π H.length)):=by
  intro j p hj
  have:=congrArg (fun l=>l[j]?) hH
  simp only[List.getElem?_map,hj,Option.map_some]at this
  cases e:Hc[j]? with
  |none=>rw[e]at this;simp at this
  |some x=>rw[e]at this;simpa using this
 have hlen:π.length=Hc.length:=by simpa using congrArg List.length hH
 have hσc:∀j:Nat,σ[rho π H.length j]?=(QQ σ π)[j]? :=by
  intro j
  have:=Qdp (τ:=[]) hσl hp j
  simpa using this
 have hπj:∀(j b:Nat),(QQ σ π)[j]?=some (some b)->∃p,π[j]?=some p/\σ[p]?=some (some b):=by
  intro j b hj
  simp only[QQ,List.getElem?_map]at hj
  cases e:π[j]? with
  |none=>rw[e]at hj;simp at hj
  |some p=>
   rw[e]at hj
   simp at hj
   refine⟨p,rfl,?_⟩
   cases e2:σ[p]? with
   |none=>rw[e2]at hj;simp at hj
   |some s=>rw[e2]at hj;simp at hj;rw[hj]
 refine⟨?_,hσc⟩
 ·refine⟨by simp[QQ,hlen],s0.roOk,?_,?_,?_,?_,?_,?_⟩
  ·rintro b (hb|⟨i,x,q1,q2,q3,q4⟩|⟨i,x,d,q1,q2,q3,q4⟩)
   ·exact s0.frLt b hb
   ·exact(s0.own i b x q1 q2 q3).1
   ·exact(s0.hid i d x b q1 q2 q3).lt
  ·rintro b hb (hf|⟨i,x,q1,q2,q3,q4⟩|⟨i,x,d,q1,q2,q3,q4⟩)
   ·exact s0.roFr b hb hf
   ·exact(s0.own i b x q1 q2 q3).2.1 hb
   ·exact(s0.hid i d x b q1 q2 q3).ro hb
  ·intro j b x q1 q2 q3
   obtain⟨p,e1,e2⟩:=hπj j b q1
   have e3:H[p]?=some (QG (rho π H.length) x):=by rw[hHc j p e1,q2];rfl
   obtain⟨o1,o2,o3⟩:=s0.own p b _ e2 e3 (by rw[Qt];exact q3)
   refine⟨o1,o2,?_⟩
   rintro(hf|⟨i,y,y1,y2,y3,y4⟩|⟨i,y,d,y1,y2,y3,y4⟩)
   ·exact o3 hf
   ·have:=s0.inj i p b _ _ y1 e2 y2 e3 y3 (by rw[Qt];exact q3)
    subst this
    exact y4 (List.mem_of_getElem? e1)
   ·exact(s0.hid i d y b y1 y2 y3).ne p b _ e2 e3 (by rw[Qt];exact q3) rfl
  ·intro i j b x y q1 q2 q3 q4 q5 q6
   obtain⟨p,e1,e2⟩:=hπj i b q1
   obtain⟨p',e1',e2'⟩:=hπj j b q2
   have e3:H[p]?=some (QG (rho π H.length) x):=by rw[hHc i p e1,q3];rfl
   have e3':H[p']?=some (QG (rho π H.length) y):=by rw[hHc j p' e1',q4];rfl
   have:=s0.inj p p' b _ _ e2 e2' e3 e3' (by rw[Qt];exact q5) (by rw[Qt];exact q6)
   subst this
   have hi:i<π.length:=by
    rcases Nat.lt_or_ge i π.length with q|q
    ·exact q
    ·rw[List.getElem?_eq_none q]at e1;simp at e1
   have hj:j<π.length:=by
    rcases Nat.lt_or_ge j π.length with q|q
    ·exact q
    ·rw[List.getElem?_eq_none q]at e1';simp at e1'
   rw[List.getElem?_eq_getElem hi]at e1
   rw[List.getElem?_eq_getElem hj]at e1'
   have heq:=(Option.some.inj e1).trans (Option.some.inj e1').symm
   rcases Nat.lt_trichotomy i j with q|q|q
   ·exact(List.pairwise_iff_getElem.1 hπ i j hi hj q heq).elim
   ·exact q
   ·exact(List.pairwise_iff_getElem.1 hπ j i hj hi q heq.symm).elim
  ·intro j s x q1 q2
   have hj:j<π.length:=by
    rcases Nat.lt_or_ge j π.length with q|q
    ·exact q
    ·rw[List.getElem?_eq_none (by simpa[QQ]using q)]at q1;simp at q1
   have e1:π[j]?=some π[j]:=List.getElem?_eq_getElem hj
   have e3:H[π[j]]?=some (QG (rho π H.length) x):=by rw[hHc j _ e1,q2];rfl
   have e2:σ[π[j]]?=some s:=by
    have:=hσc j
    rw[q1]at this
    simpa[rho,e1]using this
   exact(QfZ hσc).1 (s0.blk _ s _ e2 e3)
  ·intro j b x c q1 q2 q3
   obtain⟨p,e1,e2⟩:=hπj j b q1
   have e3:H[p]?=some (QG (rho π H.length) x):=by rw[hHc j p e1,q2];rfl
   have k:=s0.hid p b _ c e2 e3 ((Qag _ _ _ _ _).2 q3)
   refine⟨k.lt,k.ro,?_,?_,?_⟩
   ·rintro(hf|⟨i,y,y1,y2,y3,y4⟩|⟨i,y,d,y1,y2,y3,y4⟩)
    ·exact k.fr hf
    ·exact k.ne i c y y1 y2 y3 rfl
    ·obtain⟨rfl,rfl⟩:=k.one i d y y1 y2 y3
     exact y4 (List.mem_of_getElem? e1)
   ·intro j' b' y z1 z2 z3
    obtain⟨p',f1,f2⟩:=hπj j' b' z1
    exact k.ne p' b' _ f2 (show H[p']?=some (QG (rho π H.length) y)by rw[hHc j' p' f1,z2];rfl) (by rw[Qt];exact z3)
   ·intro j' b' y z1 z2 z3
    obtain⟨p',f1,f2⟩:=hπj j' b' z1
    obtain⟨z4,z5⟩:=k.one p' b' _ f2 (show H[p']?=some (QG (rho π H.length) y)by rw[hHc j' p' f1,z2];rfl) ((Qag _ _ _ _ _).2 z3)
    subst z5
    have hi:j'<π.length:=(List.getElem?_eq_some_iff.1 f1).1
    have hj:j<π.length:=(List.getElem?_eq_some_iff.1 e1).1
    rw[List.getElem?_eq_getElem hi]at f1
    rw[List.getElem?_eq_getElem hj]at e1
    have heq:=(Option.some.inj f1).trans (Option.some.inj e1).symm
    refine⟨z4,?_⟩
    rcases Nat.lt_trichotomy j' j with q|q|q
    ·exact(List.pairwise_iff_getElem.1 hπ j' j hi hj q heq).elim
    ·exact q
    ·exact(List.pairwise_iff_getElem.1 hπ j j' hj hi q heq.symm).elim
theorem Sim.frames{fr fr' ro:Nat->Prop}{σ:Sig}{H:Qc}{w:World}(s:Sim fr ro σ H w)(lt:∀b,fr' b->b<w.heap.size)(hro:∀b,ro b->¬fr' b)(own:∀(i b:Nat) (x:Blk),σ[i]?=some (some b)->H[i]?=some x->x.live=true->¬fr' b)
  (hd:∀(i b:Nat) (x:Blk) (c:Nat),σ[i]?=some (some b)->H[i]?=some x->Hid w x b c->¬fr' c):Sim fr' ro σ H w:=
 ⟨s.len,s.roOk,lt,hro,fun i b x q1 q2 q3=>⟨(s.own i b x q1 q2 q3).1,(s.own i b x q1 q2 q3).2.1,own i b x q1 q2 q3⟩,s.inj,s.blk,
  s.hidTo (· = ·) QJ (Nat.le_refl _) (fun _ _ _ _ _ _ _ q=>q) (fun i b x c q1 q2 q3 q4=>(hd i b x c q1 q2 q3 q4).elim) fun j d y g1 g2 g3=>.inl ⟨j,y,rfl,g1,g2,id,fun _ q=>q⟩⟩
def Qia(H:Qc)(p:Nat):Qc:=match H[p]? with
 |some x=>bif x.holds then H.set p .dead else H
 |none=>H
def Qc6:Qc->List Nat->Qc
 |H,[]=>H
 |H,p::π=>Qc6 (Qia H p) π
theorem Qc7(H:Qc)(p:Nat):(Qia H p=H/\ ∀x,H[p]?=some x->x.holds=false)\/Qia H p=H.set p .dead:=by
 unfold Qia
 cases h:H[p]? with
 |none=>exact .inl ⟨rfl,fun x q=>by cases q⟩
 |some x=>
  cases q:x.holds with
  |false=>exact .inl ⟨by simp[q],fun y hy=>by cases hy;exact q⟩
  |true=>exact .inr (by simp[q])
theorem Qd2:∀(π:List Nat) (H:Qc) (i:Nat) (x:Blk),(Qc6 H π)[i]?=some x->x=.dead\/(H[i]?=some x/\(x.holds=true->i∉π))
 |[],H,i,x,h=>.inr ⟨h,fun _=>by simp⟩
 |p::π,H,i,x,h=>by
  rcases Qd2 π _ i x h with h|⟨h1,h2⟩
  ·exact .inl h
  ·rcases Qc7 H p with⟨e,hl⟩|e
   ·rw[e]at h1
    refine .inr ⟨h1,fun hx=>?_⟩
    simp only[List.mem_cons,not_or]
    refine⟨fun q=>?_,h2 hx⟩
    subst q
    have:=hl x h1
    rw[this]at hx;cases hx
   ·rw[e]at h1
    by_cases q:p=i
    ·subst q
     rw[List.getElem?_set]at h1
     simp at h1
     exact .inl h1.2.symm
    ·rw[List.getElem?_set_ne q]at h1
     exact .inr ⟨h1,fun hx=>by simp only[List.mem_cons,not_or];exact⟨fun r=>q r.symm,h2 hx⟩⟩
theorem QcQ{fr ro:Nat->Prop}{σ:Sig}{w:World}:∀(π:List Nat) {H:Qc} (s:Sim fr ro σ H w),Sim fr ro σ (Qc6 H π) w
 |[],_,s=>s
 |p::π,H,s=>by
  rw[Qc6]
  rcases Qc7 H p with h|h
  ·rw[h.1];exact QcQ π s
  ·rw[h];exact QcQ π (s.kill p)
theorem Sim.put{fr ro:Nat->Prop}{σ:Sig}{H:Qc}{w:World}(s:Sim fr ro σ H w){b:Nat}{obj:Obj}(hf:fr b)(hsh:w.shape? b=none):
  Sim fr ro σ H (w.putObj b obj)/\Qe (fun c=>c≠b) ro w ro (w.putObj b obj):=by
 have hne:∀c,c≠b->(w.putObj b obj).heap[c]?=w.heap[c]? :=fun c hc=>World.putObj_heap_other hc
 have hsz:(w.putObj b obj).heap.size=w.heap.size:=by simp
 have hrb:∀c,ro c->c≠b:=fun c q e=>s.roFr c q (e▸hf)
 have ev:Qe (fun c=>c≠b) ro w ro (w.putObj b obj):=by
  refine⟨fun _ q=>q,fun c q=>hne c (hrb c q),fun c q=>hne c q,by rw[hsz];exact Nat.le_refl _,fun c x q=>?_,rfl,rfl,rfl,Nat.le_refl _⟩
  by_cases e:c=b
  ·subst e;rw[hsh]at q;cases q
  ·unfold World.shape? at q⊢;rw[hne c e];exact q
 have hext:Ext ro σ w ro σ (w.putObj b obj):=by have:=ev.ext σ [];simpa using this
 refine⟨⟨s.len,s.roOk.to (fun _ q=>q) ev.keepRo (fun c q=>by rw[hsz];exact s.roLt c q),fun c q=>by rw[hsz];exact s.frLt c q,s.roFr,fun i c x q1 q2 q3=>?_,s.inj,fun i y x q1 q2=>?_,
  s.hidTo (· = ·) QJ (by rw[hsz];exact Nat.le_refl _) (fun _ _ _ _ _ _ _ q=>q) (fun _ _ _ _ _ _ _ q=>q) fun j d y g1 g2 g3=>.inl ⟨j,y,rfl,g1,g2,id,fun c q=>s.hidKeep g1 g2 (fun z=>hne d (fun e=>(s.own j d y g1 g2 z).2.2 (e▸hf))) ev.keepRo q⟩⟩,ev⟩
 ·obtain⟨p1,p2,p3⟩:=s.own i c x q1 q2 q3
  exact⟨by rw[hsz];exact p1,p2,p3⟩
 ·refine(s.blk i y x q1 q2).keep hext ?_ ?_
  ·rintro c rfl hl
   exact hne c (fun e=>(s.own i c x q1 q2 hl).2.2 (e▸hf))
  ·rintro d c rfl hl
   exact hne c (fun e=>(s.hid i d x c q1 q2 hl).fr (e▸hf))
theorem Qa9{w:World}{l:Nat}{r:Loop}(h:w.heap[l]?=some (.loop r)):w.shape? l=none:=by
 unfold World.shape?;rw[h]
structure Fix where
 fr:Nat->Prop
 ro:Nat->Prop
 σ:Sig
 w:World
 h1:Nat
 env:Env
 tmps:Array Value
 ds1:List Deferred
 l:Nat
 rc:LoopState->Option Code->Loop
 fr1:Nat->Prop
structure Fix.Ok (D:Fix):Prop where
 sub:∀b,D.fr b->D.fr1 b
 l1:D.fr1 D.l
 lf:¬D.fr D.l
 len:D.σ.length=D.h1
structure RJ (D:Fix) (ro1:Nat->Prop) (σ1:Sig) (H:Qc) (st:LoopState) (pe:Option Code) (g:Nat->Prop) (W:World):Prop where
 sim:Sim D.fr1 ro1 σ1 H W
 env:∀t,VR ro1 D.σ W (lk D.env t) (D.tmps.getD t undef)
 sig:σ1.take D.h1=D.σ
 ev:Qe D.fr D.ro D.w ro1 W
 marks:Qcz D.fr1 D.ds1 W
 rc:W.heap[D.l]?=some (.loop (D.rc st pe))
 roG:∀b,ro1 b->D.ro b\/g b
 frG:∀b,D.fr1 b->g b
 own:∀(i b:Nat) (x:Blk),σ1[i]?=some (some b)->H[i]?=some x->x.live=true->g b
 hidG:∀(i b:Nat) (x:Blk) (c:Nat),σ1[i]?=some (some b)->H[i]?=some x->Hid W x b c->g c
 lt:∀b,g b->b<W.heap.size
theorem QcY{σ σ1:Sig}{h1:Nat}(h:σ1.take h1=σ){i b:Nat}(q:σ[i]?=some (some b)):σ1[i]?=some (some b):=by
 subst h
 rw[List.getElem?_take]at q
 split at q
 ·exact q
 ·cases q
section
variable {D:Fix}{ro1:Nat->Prop}{σ1:Sig}{H:Qc}{st:LoopState}{pe:Option Code}{g:Nat->Prop}{W:World}
theorem RJ.step(hD:D.Ok)(j:RJ D ro1 σ1 H st pe g W){ro':Nat->Prop}{W':World}(e:Qe g D.ro W ro' W'):RJ D ro1 σ1 H st pe g W':=by
 have hro:∀b,ro1 b->W'.heap[b]?=W.heap[b]? :=fun b q=>(j.roG b q).elim (e.keepRo b) (e.keepFr b)
 have ev:Qe D.fr1 ro1 W ro1 W':=⟨fun _ q=>q,hro,fun b q=>e.keepFr b (j.frG b q),e.size,e.shape,e.os,e.tape,e.output,e.drawn⟩
 have hext:∀σ,Ext ro1 σ W ro1 σ W':=fun σ=>by have:=ev.ext σ [];simpa using this
 refine⟨⟨j.sim.len,j.sim.roOk.to (fun _ q=>q) hro (fun b q=>Nat.lt_of_lt_of_le (j.sim.roLt b q) e.size),fun b q=>Nat.lt_of_lt_of_le (j.sim.frLt b q) e.size,j.sim.roFr,fun i b x q1 q2 q3=>?_,j.sim.inj,fun i z x q1 q2=>?_,
  j.sim.hidTo (· = ·) QJ e.size (fun _ _ _ _ _ _ _ q=>q) (fun _ _ _ _ _ _ _ q=>q) fun i d y g1 g2 g3=>.inl ⟨i,y,rfl,g1,g2,id,fun c q=>j.sim.hidKeep g1 g2 (fun z=>e.keepFr d (j.own i d y g1 g2 z)) hro q⟩⟩,
  fun t=>(j.env t).mono (hext _),j.sig,j.ev.trans (ev.frMono hD.sub),j.marks.keep ev,(ev.keepFr _ hD.l1).trans j.rc,j.roG,j.frG,j.own,fun i b x c q1 q2 q3=>j.hidG i b x c q1 q2 (j.sim.hidKeep q1 q2 (fun z=>e.keepFr b (j.own i b x q1 q2 z)) hro q3),fun b q=>Nat.lt_of_lt_of_le (j.lt b q) e.size⟩
 ·obtain⟨p1,p2⟩:=j.sim.own i b x q1 q2 q3
  exact⟨Nat.lt_of_lt_of_le p1 e.size,p2⟩
 ·refine(j.sim.blk i z x q1 q2).keep (hext _) ?_ ?_
  ·rintro b rfl hl
   exact e.keepFr b (j.own i b x q1 q2 hl)
  ·rintro b c rfl hl
   exact e.keepFr c (j.hidG i b x c q1 q2 hl)
theorem RJ.up{g':Nat->Prop}(j:RJ D ro1 σ1 H st pe g W)(h:∀b,g b->g' b)(hl:∀b,g' b->b<W.heap.size):RJ D ro1 σ1 H st pe g' W:=
 {j with roG:=fun b q=>(j.roG b q).imp id (h b),frG:=fun b q=>h b (j.frG b q),own:=fun i b x q1 q2 q3=>h b (j.own i b x q1 q2 q3),hidG:=fun i b x c q1 q2 q3=>h c (j.hidG i b x c q1 q2 q3),lt:=hl}
def FrB(D:Fix)(ro1 g:Nat->Prop)(W:World):Nat->Prop:=fun b=>(D.fr1 b\/(¬g b/\ ¬ro1 b))/\b<W.heap.size
theorem RJ.simB(j:RJ D ro1 σ1 H st pe g W):Sim (FrB D ro1 g W) ro1 σ1 H W:=by
 refine j.sim.frames (fun b q=>q.2) (fun b q r=>?_) (fun i b x q1 q2 q3 r=>?_) (fun i b x c q1 q2 q3 r=>r.1.elim (j.sim.hid i b x c q1 q2 q3).fr fun r=>r.1 (j.hidG i b x c q1 q2 q3))
 ·rcases r.1 with r|r
  ·exact j.sim.roFr b q r
  ·exact r.2 q
 ·rcases r.1 with r|r
  ·exact(j.sim.own i b x q1 q2 q3).2.2 r
  ·exact r.1 (j.own i b x q1 q2 q3)
theorem RJ.fin(hD:D.Ok)(j:RJ D ro1 σ1 H st pe g W){fr3 ro':Nat->Prop}{σ':Sig}{H':Qc}{W':World}{st':LoopState}{pe':Option Code}
  (ev:Qe (fun b=>FrB D ro1 g W b/\b≠D.l) ro1 W ro' W')(s:Sim fr3 ro' σ' H' W')(hs:∀b,FrB D ro1 g W b->fr3 b)(hσ:σ'.take D.h1=σ1.take D.h1)(hr:W'.heap[D.l]?=some (.loop (D.rc st' pe'))):
  RJ D ro' σ' H' st' pe' (fun b=>g b\/(W.heap.size<=b/\b<W'.heap.size)) W'/\Qen g (fun b=>g b\/(W.heap.size<=b/\b<W'.heap.size)) W W':=by
 have h1B:∀b,D.fr1 b->FrB D ro1 g W b:=fun b q=>⟨.inl q,j.sim.frLt b q⟩
 have hll:W.shape? D.l=none:=Qa9 j.rc
 have evf:Qe D.fr ro1 W ro' W':=ev.frMono fun b q=>⟨h1B b (hD.sub b q),fun e=>hD.lf (e▸q)⟩
 have hext:Ext ro1 D.σ W ro' D.σ W':=ev.ext0 D.σ
 have hW:∀b,b<W.heap.size->b<W'.heap.size:=fun b q=>Nat.lt_of_lt_of_le q ev.size
 have hown:∀b,b<W.heap.size->¬FrB D ro1 g W b->g b\/ro1 b:=by
  intro b hb hn
  by_cases q1:g b
  ·exact .inl q1
  ·by_cases q2:ro1 b
   ·exact .inr q2
   ·exact absurd ⟨.inr ⟨q1,q2⟩,hb⟩ hn
 refine⟨⟨s.frames (fun b q=>hW b (j.sim.frLt b q)) (fun b q r=>s.roFr b q (hs b (h1B b r))) (fun i b x q1 q2 q3 r=>(s.own i b x q1 q2 q3).2.2 (hs b (h1B b r))) (fun i b x c q1 q2 q3 r=>(s.hid i b x c q1 q2 q3).fr (hs c (h1B c r))),
  fun t=>(j.env t).mono hext,hσ.trans j.sig,j.ev.trans evf,⟨j.marks.1,fun d hd=>?_⟩,hr,fun b q=>?_,fun b q=>.inl (j.frG b q),fun i b x q1 q2 q3=>?_,fun i b x c q1 q2 q3=>?_,fun b q=>q.elim (fun q=>hW b (j.lt b q)) (fun q=>q.2)⟩,
  ⟨fun b q=>.inl q,fun b q=>q.imp id (fun q=>q.1),fun b q=>q.elim (fun q=>hW b (j.lt b q)) (fun q=>q.2),fun b q1 q2=>.inr ⟨q1,q2⟩,fun b q1 q2=>?_,ev.size,ev.shape,ev.os,ev.tape,ev.output,ev.drawn⟩⟩
 ·obtain⟨B,e1,e2,e3⟩:=j.marks.2 d hd
  refine⟨B,e1,e2,(ev.keepFr B ⟨h1B B e2,fun e=>?_⟩).trans e3⟩
  subst e
  rw[j.rc]at e3;cases e3
 ·rcases Nat.lt_or_ge b W.heap.size with hb|hb
  ·rcases hown b hb (fun r=>s.roFr b q (hs b r))with r|r
   ·exact .inr (.inl r)
   ·exact(j.roG b r).imp id .inl
  ·exact .inr (.inr ⟨hb,s.roLt b q⟩)
 ·obtain⟨o1,o2,o3⟩:=s.own i b x q1 q2 q3
  rcases Nat.lt_or_ge b W.heap.size with hb|hb
  ·rcases hown b hb (fun r=>o3 (hs b r))with r|r
   ·exact .inl r
   ·exact absurd (ev.sub b r) o2
  ·exact .inr ⟨hb,o1⟩
 ·have k:=s.hid i b x c q1 q2 q3
  rcases Nat.lt_or_ge c W.heap.size with hb|hb
  ·rcases hown c hb (fun r=>k.fr (hs c r))with r|r
   ·exact .inl r
   ·exact absurd (ev.sub c r) k.ro
  ·exact .inr ⟨hb,k.lt⟩
 ·by_cases r:ro1 b
  ·exact ev.keepRo b r
  ·exact ev.keepFr b ⟨⟨.inr ⟨q2,r⟩,q1⟩,fun e=>q2 (j.frG b (e▸hD.l1))⟩
end
def Qjn:List Nat->List A->Env->Env
 |p::ps,a::zs,env=>Qjn ps zs (up env p a)
 |_,_,env=>env
def Qha:List Nat->List Value->Array Value->Array Value
 |p::ps,v::vs,t=>Qha ps vs (t.setIfInBounds p v)
 |_,_,t=>t
theorem QeM:∀(ps:List Nat) (vs:List Value) (t:Array Value),(Qha ps vs t).size=t.size
 |[],_,_=>rfl
 |_::_,[],_=>rfl
 |p::ps,v::vs,t=>by simp[Qha,QeM ps]
theorem QeN:∀(ps:List Nat) (vs:List Value) (t:Array Value),(ps.toArray.zip vs.toArray).foldl (fun t (p,v)=>t.setIfInBounds p v) t=Qha ps vs t
 |[],vs,t=>by rw[<- Array.foldl_toList,Array.toList_zip];rfl
 |p::ps,[],t=>by rw[<- Array.foldl_toList,Array.toList_zip];rfl
 |p::ps,v::vs,t=>by
  have:=QeN ps vs (t.setIfInBounds p v)
  rw[<- Array.foldl_toList,Array.toList_zip]at this⊢
  exact this
theorem QhZ{ro:Nat->Prop}{σ:Sig}{w:World}:∀(ps:List Nat) (zs:List A) (env:Env) (t:Array Value),QbK zs=true->(∀p∈ps,p<t.size)->(∀s,VR ro σ w (lk env s) (t.getD s undef))->
  ∀s,VR ro σ w (lk (Qjn ps zs env) s) ((Qha ps (Q5 zs) t).getD s undef)
 |[],_,_,_,_,_,h=>h
 |p::ps,[],_,_,_,_,h=>h
 |p::ps,a::zs,env,t,hs,hp,h=>by
  have hs':Qfr a=true/\QbK zs=true:=by simpa[QbK]using hs
  have h1:=VR.up (fr:=fun _=>False) (a:={tmps:=t,defers:=[]}) h (hp p (by simp)) (Qa1 (ro:=ro) (σ:=σ) (w:=w) hs'.1)
  exact QhZ ps zs (up env p a) (t.setIfInBounds p (Qi a)) hs'.2 (fun q hq=>by simpa using hp q (by simp[hq])) h1
def QkJ(h1:Nat)(env:Env)(Q:Qm)(K:Qc->Prop):Qm
 |.normal,env',H'=>∃H2,Le h1 env' H' [] H2/\K H2
 |.exit id,env',H'=>∃H2,Le h1 env' H' [] H2/\Q (.exit id) env H2
 |.ret,env',H'=>∃H2,Le h1 env' H' [] H2/\Q .ret env H2
def Jump(Q:Qm)(env:Env)(c:Code)(H:Qc):Prop:=(∃id,c=.exit id/\Q (.exit id) env H)\/(c=.ret/\Q .ret env H)
section
variable {D:Fix}{ro1:Nat->Prop}{σ1:Sig}{H:Qc}{g:Nat->Prop}{W:World}{P:Program}{N:Nat}{Q:Qm}{K:Qc->Prop}
theorem RJ.round{fn:FuncId}{ps:List Nat}{assign body:Code}{df:Nat}{cs:List A}(hD:D.Ok)(hrc:D.rc=fun st pe=>{state:=st,pending:=pe,fn:=fn,tmps:=D.tmps,params:=ps.toArray,assign:=assign,body:=body,defers:=df})
  (hN:D.tmps.size=N)(hps:∀p∈ps,p<N)(hlen:cs.length=ps.length)(hscl:QbK cs=true)(j:RJ D ro1 σ1 H .ready none g W)
  (h:TC P D.h1 N assign (Qjn ps cs D.env) H fun e env1 H1=>e=.normal/\TC P D.h1 N body env1 H1 (QkJ D.h1 D.env Q K)):
  YieldAt Fence.wide 0 P D.l (Q5 cs).toArray W fun e W'=>∃g',Qen g g' W W'/\((e=.returned (.bool true)/\ ∃H2 ro2 σ2,K H2/\RJ D ro2 σ2 H2 .ready none g' W')\/
   (e=.returned (.bool false)/\ ∃H2 c ro2 σ2,Jump Q D.env c H2/\RJ D ro2 σ2 H2 .done (some c) g' W')):=by
 have hvl:(Q5 cs).length=cs.length:=by
  clear hlen hscl h
  induction cs with
  |nil=>rfl
  |cons a zs ih=>simp[Q5,ih]
 have hl1:∀b,D.fr1 b->FrB D ro1 g W b:=fun b q=>⟨.inl q,j.sim.frLt b q⟩
 have hlB:=hl1 _ hD.l1
 have hr0:=j.rc
 have hy:=run_yield (P:=P) (r:=D.rc .ready none) (args:=(Q5 cs).toArray) hr0 (by rw[hrc];simp[hvl,hlen])
 refine⟨fn,Qha ps (Q5 cs) D.tmps,assign,body,?_,?_⟩
 ·rw[hy,hrc];simp only[];rw[<- QeN]
 ·refine roundIn_of_wpIn trivial ?_
  show Code.wpIn (WF (some D.l)) 0 P _ _ _ _
  have henv:∀s,VR ro1 σ1 W (lk D.env s) (D.tmps.getD s undef):=fun s=>(j.env s).mono ⟨fun _ q=>q,fun _ _=>rfl,fun _ _ q=>q,fun i b q=>QcY j.sig q⟩
  have rd1:Qdo (some D.l) (FrB D ro1 g W) W:=fun l e=>by cases e;exact⟨hlB,_,hr0⟩
  have w1:=h (some D.l) (FrB D ro1 g W) ro1 σ1 {tmps:=Qha ps (Q5 cs) D.tmps,defers:=[]} W ⟨j.simB,QhZ ps cs D.env D.tmps hscl (by rw[hN];exact hps) henv,by simp[QeM,hN],List.nodup_nil,fun d hd=>by cases hd⟩ rd1
  refine Code.wpIn_mono ?_ w1
  rintro e a1 w1 ⟨x1,env1,H1,ro2,σ2,fr2,h1,⟨rfl,h2⟩,h3,h4,h5,h6⟩
  cases e with
  |normal=>
   have hr1:w1.heap[D.l]?=some (.loop (D.rc .ready none)):=(h4.keepFr _ hlB).trans hr0
   refine⟨_,run_beginRound hr1 (by rw[hrc]),?_⟩
   obtain⟨s2,ev2⟩:=h3.sim.put (obj:=.loop {D.rc .ready none with state:=.busy}) (h6.sub _ hlB) (Qa9 hr1)
   have hsz1:D.l<w1.heap.size:=by rw[Array.getElem?_eq_some_iff]at hr1;exact hr1.1
   have hr2:(w1.putObj D.l (.loop {D.rc .ready none with state:=.busy})).heap[D.l]?=some (.loop {D.rc .ready none with state:=.busy}):=World.putObj_heap_same hsz1
   generalize hw2:w1.putObj D.l (.loop {D.rc .ready none with state:=.busy})=w2 at*
   have hmk:Qcz fr2 a1.defers w2:=by
    refine⟨h3.defers.1,fun d hd=>?_⟩
    obtain⟨B,e1,e2,e3⟩:=h3.defers.2 d hd
    refine⟨B,e1,e2,(ev2.keepFr B (fun e=>?_)).trans e3⟩
    subst e;rw[hr1]at e3;cases e3
   have r2:Rel fr2 ro2 σ2 H1 env1 N a1 w2:=⟨s2,fun s=>(h3.env s).mono (ev2.ext0 σ2),h3.size,hmk⟩
   have hl2:fr2 D.l:=h6.sub _ hlB
   refine Code.wpIn_mono ?_ (h2 (some D.l) fr2 ro2 σ2 a1 w2 r2 (fun l e=>by cases e;exact⟨hl2,_,hr2⟩))
   rintro e a3 w3 ⟨x3,env3,H3,ro3,σ3,fr3,g1,g2,g3,g4,g5,g6⟩
   have hr3:w3.heap[D.l]?=some (.loop {D.rc .ready none with state:=.busy}):=(g4.keepFr _ hl2).trans hr2
   have key:∀(H2:Qc) (jump:Option Code),Le D.h1 env3 H3 [] H2->∃v w4,(Instr.endRound D.l jump).run P w3=.ok v w4/\v=.bool jump.isNone/\ ∃g',Qen g g' W w4/\ ∃ro4 σ4,RJ D ro4 σ4 H2 (if jump.isNone then .ready else .done) jump g' w4:=by
    intro H2 jump hle
    obtain⟨ro4,σ4,r4,s4,t4⟩:=hle fr3 ro3 σ3 N a3 w3 g3
    refine⟨_,_,run_endRound jump hr3,rfl,?_⟩
    have hl3:fr3 D.l:=g6.sub _ hl2
    obtain⟨s5,ev5⟩:=r4.sim.put (obj:=.loop {{D.rc .ready none with state:=.busy}with state:=if jump.isNone then .ready else .done,pending:=jump}) hl3 (Qa9 hr3)
    have hsz3:D.l<w3.heap.size:=by rw[Array.getElem?_eq_some_iff]at hr3;exact hr3.1
    have hr4:=World.putObj_heap_same (w:=w3) (r:=D.l) (o:=.loop {{D.rc .ready none with state:=.busy}with state:=if jump.isNone then .ready else .done,pending:=jump}) hsz3
    have e1:Qe (fun b=>FrB D ro1 g W b/\b≠D.l) ro1 W ro2 w1:=h4.frMono fun b q=>q.1
    have e2:Qe (fun b=>FrB D ro1 g W b/\b≠D.l) ro2 w1 ro2 w2:=ev2.frMono fun b q=>q.2
    have e3:Qe (fun b=>FrB D ro1 g W b/\b≠D.l) ro2 w2 ro3 w3:=g4.frMono fun b q=>h6.sub b q.1
    have e4:Qe (fun b=>FrB D ro1 g W b/\b≠D.l) ro3 w3 ro4 w3:=Yn s4
    have e5:=(((e1.trans e2).trans e3).trans e4).trans (ev5.frMono fun b (q:FrB D ro1 g W b/\b≠D.l)=>q.2)
    obtain⟨q1,q2⟩:=j.fin hD e5 s5 (fun b q=>g6.sub b (h6.sub b q)) (by rw[t4,g5,h5]) (st':=if jump.isNone then .ready else .done) (pe':=jump) (by rw[hr4,hrc])
    exact⟨_,q2,ro4,σ4,q1⟩
   cases e with
   |normal=>
    obtain rfl:x3=.normal:=g1
    obtain⟨H2,hle,hK⟩:=g2
    obtain⟨v,w4,k1,rfl,g',k2,ro4,σ4,k3⟩:=key H2 none hle
    exact⟨_,w4,k1,g',k2,.inl ⟨rfl,H2,ro4,σ4,hK,k3⟩⟩
   |exit id=>
    obtain rfl:x3=.exit id:=g1
    obtain⟨H2,hle,hK⟩:=g2
    obtain⟨v,w4,k1,rfl,g',k2,ro4,σ4,k3⟩:=key H2 (some (.exit id)) hle
    exact⟨_,w4,k1,g',k2,.inr ⟨rfl,H2,_,ro4,σ4,.inl ⟨id,rfl,hK⟩,k3⟩⟩
   |ret=>
    obtain rfl:x3=.ret:=g1
    obtain⟨H2,hle,hK⟩:=g2
    obtain⟨v,w4,k1,rfl,g',k2,ro4,σ4,k3⟩:=key H2 (some .ret) hle
    exact⟨_,w4,k1,g',k2,.inr ⟨rfl,H2,_,ro4,σ4,.inr ⟨rfl,hK⟩,k3⟩⟩
   |_=>exact g1.elim
  |exit id=>cases h1
  |ret=>cases h1
  |_=>exact h1.elim
end
theorem Sim.beside{fr ro:Nat->Prop}{σ:Sig}{H:Qc}{w w1:World}(s:Sim fr ro σ H w)(ev:Qe fr ro w ro w1)(hold:∀b,b<w.heap.size->w1.heap[b]?=w.heap[b]?):Sim (fun b=>fr b\/(w.heap.size<=b/\b<w1.heap.size)) ro σ H w1:=by
 have hext:Ext ro σ w ro σ w1:=ev.ext0 σ
 refine⟨s.len,s.roOk.to (fun _ q=>q) ev.keepRo (fun b q=>Nat.lt_of_lt_of_le (s.roLt b q) ev.size),fun b q=>q.elim (fun q=>Nat.lt_of_lt_of_le (s.frLt b q) ev.size) (fun q=>q.2),fun b q r=>?_,fun i b x q1 q2 q3=>?_,s.inj,fun i z x q1 q2=>?_,
  s.hidTo (· = ·) QJ ev.size (fun _ _ _ _ _ _ _ q=>q) (fun i b x c q1 q2 q3 q4=>q4.elim id fun q=>(by have:=(s.hid i b x c q1 q2 q3).lt;omega)) fun j d y g1 g2 g3=>.inl ⟨j,y,rfl,g1,g2,id,fun c q=>s.hidKeep g1 g2 (fun z=>hold d (s.own j d y g1 g2 z).1) ev.keepRo q⟩⟩
 ·rcases r with r|r
  ·exact s.roFr b q r
  ·have:=s.roLt b q;omega
 ·obtain⟨p1,p2,p3⟩:=s.own i b x q1 q2 q3
  refine⟨Nat.lt_of_lt_of_le p1 ev.size,p2,fun r=>?_⟩
  rcases r with r|r
  ·exact p3 r
  ·omega
 ·refine(s.blk i z x q1 q2).keep hext ?_ ?_
  ·rintro b rfl hl
   exact hold b (s.own i b x q1 q2 hl).1
  ·rintro b c rfl hl
   exact hold c (s.hid i b x c q1 q2 hl).lt
theorem QbE{w:World}{o:Obj}{b:Nat}(hb:b<w.heap.size):(w.alloc o).heap[b]?=w.heap[b]? :=by
 show(w.heap.push o)[b]?=_
 rw[Array.getElem?_push,if_neg (by omega)]
theorem Qkj{P:Program}{fn:FuncId}{tmps:Array Value}{ps:Array Tmp}{assign body:Code}{rd:Option Nat}{fr ro:Nat->Prop}{w:World}(hrd:Qdo rd fr w)(hro:∀b,ro b->b<w.heap.size)(hfr:∀b,fr b->b<w.heap.size):
  ∃l mark w1 df,(Instr.enterLoop fn tmps ps assign body rd).run P w=.ok (l,mark) w1/\w.heap.size<=l/\l<w1.heap.size/\w1.heap[l]?=some (.loop {state:=.ready,pending:=none,fn:=fn,tmps:=tmps,params:=ps,assign:=assign,body:=body,defers:=df})/\
   (∀b,b<w.heap.size->w1.heap[b]?=w.heap[b]?)/\mark.Nodup/\(∀d∈mark,∃D,d={target:=.collected D,args:= #[]}/\w.heap.size<=D/\D<w1.heap.size/\w1.heap[D]?=some (.deferred (some [])))/\Qe fr ro w ro w1:=by
 have evo:∀w1:World,(∀b,b<w.heap.size->w1.heap[b]?=w.heap[b]?)->w.heap.size<=w1.heap.size->w1.os=w.os->w1.tape=w.tape->w1.output=w.output->w1.drawn=w.drawn->Qe fr ro w ro w1:=by
  intro w1 h1 h2 h3 h4 h5 h6
  refine⟨fun _ q=>q,fun b q=>h1 b (hro b q),fun b q=>h1 b (hfr b q),h2,fun b x q=>?_,h3,h4,h5,by rw[h6];exact Nat.le_refl _⟩
  have hb:b<w.heap.size:=by
   rcases Nat.lt_or_ge b w.heap.size with z|z
   ·exact z
   ·unfold World.shape? at q;rw[Array.getElem?_eq_none (by simpa using z)]at q;cases q
  unfold World.shape? at q⊢;rw[h1 b hb];exact q
 cases rd with
 |none=>
  have hold:∀b,b<w.heap.size->((w.alloc (.deferred (some []))).alloc (.loop {state:=.ready,pending:=none,fn:=fn,tmps:=tmps,params:=ps,assign:=assign,body:=body,defers:=w.heap.size})).heap[b]?=w.heap[b]? :=fun b hb=>
   (QbE (by simp;omega)).trans (QbE hb)
  refine⟨_,_,_,w.heap.size,run_enterLoop_outer fn tmps ps assign body,by omega,by simp,?_,hold,by simp,?_,evo _ hold (by simp;omega) rfl rfl rfl rfl⟩
  ·have:=World.alloc_heap_new (w.alloc (.deferred (some []))) (.loop {state:=.ready,pending:=none,fn:=fn,tmps:=tmps,params:=ps,assign:=assign,body:=body,defers:=w.heap.size})
   rwa [World.size_alloc]at this
  ·intro d hd
   obtain rfl:=List.mem_singleton.1 hd
   exact⟨_,rfl,Nat.le_refl _,by simp;omega,(QbE (by simp)).trans (World.alloc_heap_new w _)⟩
 |some l0=>
  obtain⟨_,r0,h0⟩:=hrd l0 rfl
  have hold:∀b,b<w.heap.size->(w.alloc (.loop {state:=.ready,pending:=none,fn:=fn,tmps:=tmps,params:=ps,assign:=assign,body:=body,defers:=r0.defers})).heap[b]?=w.heap[b]? :=fun b hb=>QbE hb
  exact⟨_,_,_,r0.defers,run_enterLoop_inner h0 fn tmps ps assign body,Nat.le_refl _,by simp,World.alloc_heap_new w _,hold,List.nodup_nil,(fun d hd=>absurd hd List.not_mem_nil),evo _ hold (by simp) rfl rfl rfl rfl⟩
theorem TC.rangeFunc{P:Program}{h0 N:Nat}{gop:Operand}{ps:List Nat}{assign body:Code}{env:Env}{H:Qc}{Q:Qm}{f:FuncId}{caps capc:List A}{Hc:Qc}{T S:Type}{enc:T->List A}{nx:List T->T->List T->Prop}{xs:List T}
  (π:List Nat)(Hp:S->Qc)(V:S->List T->Prop)(s0:S)(hh:h0<=H.length)(hg:opA env gop=.fn (.func f) [] caps)(hargs:caps=Qaa (rho π H.length) capc)(hH:π.map (fun p=>H[p]?)=(Hc.map (QG (rho π H.length))).map some)(hπ:π.Nodup)
  (hps:(ps.all fun p=>Nat.blt p N)=true)(eg:∀args w,(callFunc f args).run P w=.ok (.enter f args) w)(hseq:QkI P f capc Hc enc nx xs)(hscl:∀x,QbK (enc x)=true)(hlen:∀x,(enc x).length=ps.length)
  (hle:Le H.length env (Qc6 H π) env (Hp s0))(hV:V s0 xs)
  (hbody:∀s l x rem,V s l->nx l x rem->TC P H.length N assign (Qjn ps (enc x) env) (Hp s) fun e env1 H1=>e=.normal/\TC P H.length N body env1 H1 (QkJ H.length env Q fun H2=>∃s',V s' rem/\H2=Hp s'))
  (hdone:∀s,V s []->Q .normal env (Hp s)):TC P h0 N (.rangeFunc gop ps.toArray assign body) env H Q:=by
 intro rd fr ro σ a w r hrd
 have hv:=Qg r gop
 rw[hg]at hv
 obtain⟨l1,capv,hv,hl1,hcap⟩:=hv
 obtain rfl:l1=[]:=hl1
 refine wpIn_rangeFunc ?_
 intro fn hfn
 obtain⟨l,mark,w1,df,he,hl,hl',hrec,hold,hmn,hmk,ev1⟩:=Qkj (P:=P) (fn:=fn) (tmps:=a.tmps) (ps:=ps.toArray) (assign:=assign) (body:=body) (ro:=ro) hrd r.sim.roLt r.sim.frLt
 have s1:=r.sim.beside ev1 hold
 let D:Fix:=⟨fr,ro,σ,w,H.length,env,a.tmps,mark++a.defers,l,(fun st pe=>{state:=st,pending:=pe,fn:=fn,tmps:=a.tmps,params:=ps.toArray,assign:=assign,body:=body,defers:=df}),(fun b=>fr b\/(w.heap.size<=b/\b<w1.heap.size))⟩
 have hfrl:¬fr l:=fun q=>by have:=r.sim.frLt l q;omega
 have hD:D.Ok:=⟨fun b q=>.inl q,.inr ⟨hl,hl'⟩,hfrl,r.sim.len⟩
 have hmarks:Qcz D.fr1 (mark++a.defers) w1:=by
  refine⟨List.nodup_append.2 ⟨hmn,r.defers.1,fun d hd d' hd' e=>?_⟩,fun d hd=>?_⟩
  ·subst e
   obtain⟨B,e1,e2,_⟩:=hmk d hd
   obtain⟨B',e1',e2',_⟩:=r.defers.2 d hd'
   rw[e1]at e1'
   have:B=B':=by simpa using e1'
   subst this
   have:=r.sim.frLt B e2'
   omega
  ·rcases List.mem_append.1 hd with hd|hd
   ·obtain⟨B,e1,e2,e3,e4⟩:=hmk d hd
    exact⟨B,e1,.inr ⟨e2,e3⟩,e4⟩
   ·obtain⟨B,e1,e2,e3⟩:=(r.defers.keep ev1).2 d hd
    exact⟨B,e1,.inl e2,e3⟩
 obtain⟨sp,hσc⟩:=s1.part hH hπ
 have hcapc:LR ro (QQ σ π) w1 capc capv:=(Qbi hσc).1 (hargs▸hcap.mono (ev1.ext0 σ))
 let frX:Nat->Prop:=fun b=>D.fr1 b\/(∃(j:Nat) (x:Blk),(QQ σ π)[j]?=some (some b)/\Hc[j]?=some x/\x.live=true)\/ ∃(j:Nat) (x:Blk) (d:Nat),(QQ σ π)[j]?=some (some d)/\Hc[j]?=some x/\Hid w1 x d b
 have sX:Sim frX ro σ (Qc6 H π) w1:=by
  refine(QcQ π s1).frames (fun b q=>?_) (fun b q r=>?_) (fun i b x q1 q2 q3 r=>?_) (fun i b x c q1 q2 q3 r=>?_)
  ·rcases q with q|⟨j,x,q1,q2,q3⟩|⟨j,x,d,q1,q2,q3⟩
   ·exact s1.frLt b q
   ·exact(sp.own j b x q1 q2 q3).1
   ·exact(sp.hid j d x b q1 q2 q3).lt
  ·rcases r with r|⟨j,x,q1,q2,q3⟩|⟨j,x,d,q1,q2,q3⟩
   ·exact s1.roFr b q r
   ·exact(sp.own j b x q1 q2 q3).2.1 q
   ·exact(sp.hid j d x b q1 q2 q3).ro q
  ·rcases Qd2 _ _ _ _ q2 with rfl|⟨q2,hi⟩
   ·cases q3
   ·rcases r with r|⟨j,y,p1,p2,p3⟩|⟨j,y,d,p1,p2,p3⟩
    ·exact(s1.own i b x q1 q2 q3).2.2 r
    ·exact(sp.own j b y p1 p2 p3).2.2 (.inr (.inl ⟨i,x,q1,q2,q3,hi (Qbl q3)⟩))
    ·exact(sp.hid j d y b p1 p2 p3).fr (.inr (.inl ⟨i,x,q1,q2,q3,hi (Qbl q3)⟩))
  ·rcases Qd2 _ _ _ _ q2 with rfl|⟨q2,hi⟩
   ·exact q3.elim
   ·rcases r with r|⟨j,y,p1,p2,p3⟩|⟨j,y,d,p1,p2,p3⟩
    ·exact(s1.hid i b x c q1 q2 q3).fr r
    ·exact(sp.own j c y p1 p2 p3).2.2 (.inr (.inr ⟨i,x,b,q1,q2,q3,hi q3.holds⟩))
    ·exact(sp.hid j d y c p1 p2 p3).fr (.inr (.inr ⟨i,x,b,q1,q2,q3,hi q3.holds⟩))
 have rX:Rel frX ro σ (Qc6 H π) env N {a with defers:=mark++a.defers} w1:=
  ⟨sX,fun s=>(r.env s).mono (ev1.ext0 σ),r.size,hmarks.1,fun d hd=>let⟨B,e1,e2,e3⟩:=hmarks.2 d hd;⟨B,e1,.inl e2,e3⟩⟩
 obtain⟨ro',σ',r',hsub,htk⟩:=hle frX ro σ N _ w1 rX
 have hσt:σ.take H.length=σ:=by rw[<- r.sim.len,List.take_length]
 let g0:Nat->Prop:=fun b=>D.fr1 b\/(ro' b/\ ¬ro b)\/(∃(i:Nat) (x:Blk),σ'[i]?=some (some b)/\(Hp s0)[i]?=some x/\x.live=true)\/ ∃(i:Nat) (x:Blk) (d:Nat),σ'[i]?=some (some d)/\(Hp s0)[i]?=some x/\Hid w1 x d b
 have j0:RJ D ro' σ' (Hp s0) .ready none g0 w1:=by
  refine⟨r'.sim.frMono fun b q=>.inl q,fun t=>(r.env t).mono ⟨hsub,ev1.keepRo,ev1.shape,fun _ _ q=>q⟩,htk.trans hσt,ev1.trans (Yn hsub),hmarks,hrec,fun b q=>?_,fun b q=>.inl q,fun i b x q1 q2 q3=>.inr (.inr (.inl ⟨i,x,q1,q2,q3⟩)),fun i b x c q1 q2 q3=>.inr (.inr (.inr ⟨i,x,b,q1,q2,q3⟩)),fun b q=>?_⟩
  ·by_cases z:ro b
   ·exact .inl z
   ·exact .inr (.inr (.inl ⟨q,z⟩))
  ·rcases q with q|q|⟨i,x,q1,q2,q3⟩|⟨i,x,d,q1,q2,q3⟩
   ·exact s1.frLt b q
   ·exact r'.sim.roLt b q.1
   ·exact(r'.sim.own i b x q1 q2 q3).1
   ·exact(r'.sim.hid i d x b q1 q2 q3).lt
 have sI:Sim g0 ro (QQ σ π) Hc w1:=by
  refine sp.frames (fun b q=>j0.lt b q) (fun b q z=>?_) (fun j b x q1 q2 q3 z=>?_) (fun j b x c q1 q2 q3 z=>?_)
  ·rcases z with z|z|⟨i,x,q1,q2,q3⟩|⟨i,x,d,q1,q2,q3⟩
   ·exact s1.roFr b q z
   ·exact z.2 q
   ·exact(r'.sim.own i b x q1 q2 q3).2.1 (hsub b q)
   ·exact(r'.sim.hid i d x b q1 q2 q3).ro (hsub b q)
  ·have hX:frX b:=.inr (.inl ⟨j,x,q1,q2,q3⟩)
   rcases z with z|z|⟨i,y,p1,p2,p3⟩|⟨i,y,d,p1,p2,p3⟩
   ·exact(sp.own j b x q1 q2 q3).2.2 (.inl z)
   ·exact r'.sim.roFr b z.1 hX
   ·exact(r'.sim.own i b y p1 p2 p3).2.2 hX
   ·exact(r'.sim.hid i d y b p1 p2 p3).fr hX
  ·have hX:frX c:=.inr (.inr ⟨j,x,b,q1,q2,q3⟩)
   rcases z with z|z|⟨i,y,p1,p2,p3⟩|⟨i,y,d,p1,p2,p3⟩
   ·exact(sp.hid j b x c q1 q2 q3).fr (.inl z)
   ·exact r'.sim.roFr c z.1 hX
   ·exact(r'.sim.own i c y p1 p2 p3).2.2 hX
   ·exact(r'.sim.hid i d y c p1 p2 p3).fr hX
 let X:Ctx T:={l:=l,J:=fun rem g W=>∃s ro1 σ1,V s rem/\RJ D ro1 σ1 (Hp s) .ready none g W,Jx:=fun _ g W=>∃H2 c ro1 σ1,Jump Q env c H2/\RJ D ro1 σ1 H2 .done (some c) g W,enc:=enc,nx:=nx,ro0:=ro}
 have hpsN:∀p∈ps,p<N:=fun p hp=>by simpa using List.all_eq_true.1 hps p hp
 have hX:X.ok P:=by
  refine⟨⟨fun rem g W W' ro' ⟨s,ro1,σ1,h1,h2⟩ he=>⟨s,ro1,σ1,h1,h2.step hD he⟩,fun rem g g' W ⟨s,ro1,σ1,h1,h2⟩ hg hl=>⟨s,ro1,σ1,h1,h2.up hg hl⟩⟩,
   ⟨fun rem g W W' ro' ⟨H2,c,ro1,σ1,h1,h2⟩ he=>⟨H2,c,ro1,σ1,h1,h2.step hD he⟩,fun rem g g' W ⟨H2,c,ro1,σ1,h1,h2⟩ hg hl=>⟨H2,c,ro1,σ1,h1,h2.up hg hl⟩⟩,hscl,?_⟩
  rintro lr x rem g W hnx ⟨s,ro1,σ1,h1,h2⟩
  obtain⟨fn',tm,as',bd',y1,y2⟩:=RJ.round (D:=D) (Q:=Q) (K:=fun H2=>∃s',V s' rem/\H2=Hp s') hD rfl r.size hpsN (hlen x) (hscl x) h2 (hbody s lr x rem h1 hnx)
  refine⟨fn',tm,as',bd',y1,RoundIn.mono y2 ?_⟩
  rintro e W' ⟨g',k1,k2⟩
  refine⟨g',k1,?_⟩
  rcases k2 with⟨rfl,H2,ro2,σ2,⟨s',hs',rfl⟩,k3⟩|⟨rfl,H2,c,ro2,σ2,k3,k4⟩
  ·exact .inl ⟨rfl,s',ro2,σ2,hs',k3⟩
  ·exact .inr ⟨rfl,H2,c,ro2,σ2,k3,k4⟩
 have hres:∀(ev:Operand->Value),ev gop=.func (.func f) #[] capv.toArray->ev (.const (.func (.yield l) #[] #[]))=.func (.yield l) #[] #[]->(resolve ev (rangeCall gop l) 0).run P w1=.ok {target:=.fn (.func f) capv.toArray,args:= #[.func (.yield l) #[] #[]]} w1:=by
  intro ev h1 h2
  simp[resolve,go_sem,h1,h2]
 refine⟨l,mark,w1,{target:=.fn (.func f) capv.toArray,args:= #[.func (.yield l) #[] #[]]},w1,f, #[.func (.yield l) #[] #[]]++capv.toArray,w1,he,hres a.eval hv rfl,fun _ _=>trivial,by simp[invoke,go_sem,eg],fun h=>by simp[WF,Fence.wide]at h,?_⟩
 refine WF.calls.2 ?_
 have hcall:=hseq X rfl rfl hX g0 (QQ σ π) w1 capv sI hcapc ⟨s0,ro',σ',hV,j0⟩
 have eargs:(#[.func (.yield l) #[] #[]]++capv.toArray:Array Value)=((Value.func (.yield X.l) #[] #[]::capv)).toArray:=by simp[X]
 rw[eargs]
 refine Calls.mono hcall ?_
 rintro e W' ⟨⟨v,rfl⟩,g2,hg2,hend⟩
 have fin:∀(H2:Qc) (st:LoopState) (pe:Option Code) (ro2:Nat->Prop) (σ2:Sig),st≠ .busy->RJ D ro2 σ2 H2 st pe g2 W'->∃w4,(Instr.endLoop l).run P W'=.ok pe w4/\Rel D.fr1 ro2 σ2 H2 env N {a with defers:=mark++a.defers} w4/\Qe fr ro w ro2 w4:=by
  intro H2 st pe ro2 σ2 hst j
  refine⟨_,run_endLoop j.rc (by exact hst),?_⟩
  obtain⟨s5,ev5⟩:=j.sim.put (obj:=.loop {(D.rc st pe)with state:=.exhausted}) hD.l1 (Qa9 j.rc)
  have hr:=j.rc
  refine⟨⟨s5,fun t=>((j.env t).mono ⟨fun _ q=>q,fun _ _=>rfl,fun _ _ q=>q,fun i b q=>QcY j.sig q⟩).mono (ev5.ext0 σ2),r.size,j.marks.1,fun d hd=>?_⟩,j.ev.trans (ev5.frMono fun b q e=>hfrl (by have e':b=l:=e;rw[<- e'];exact q))⟩
  obtain⟨B,e1,e2,e3⟩:=j.marks.2 d hd
  refine⟨B,e1,e2,(ev5.keepFr B (fun e=>?_)).trans e3⟩
  subst e;rw[hr]at e3;cases e3
 have hgr:Qb3 fr w a.defers D.fr1 (mark++a.defers):=by
  refine⟨fun b q=>.inl q,fun b q=>q.imp id (fun q=>q.1),fun d hd=>?_⟩
  rcases List.mem_append.1 hd with hd|hd
  ·obtain⟨B,e1,e2,_⟩:=hmk d hd
   exact .inr ⟨B,e1,e2⟩
  ·exact .inl hd
 have hts:∀{σ2:Sig},σ2.take H.length=σ->σ2.take h0=σ.take h0:=by
  intro σ2 h
  have:=congrArg (List.take h0) h
  rwa [List.take_take,Nat.min_eq_left hh]at this
 rcases hend with⟨s,ro2,σ2,h1,h2⟩|⟨rem,H2,c,ro2,σ2,h1,h2⟩
 ·obtain⟨w4,f1,f2,f3⟩:=fin _ _ _ ro2 σ2 (by intro e;cases e) h2
  exact⟨none,w4,f1,.normal,env,_,ro2,σ2,_,rfl,hdone s h1,f2,f3,hts h2.sig,hgr⟩
 ·obtain⟨w4,f1,f2,f3⟩:=fin _ _ _ ro2 σ2 (by intro e;cases e) h2
  refine⟨some c,w4,f1,?_⟩
  have hc:TC P h0 N c env H2 Q:=by
   rcases h1 with⟨id,rfl,h1⟩|⟨rfl,h1⟩
   ·exact TC.exit h1
   ·exact TC.ret h1
  exact Code.wpIn_mono (fun e a w q=>q.grow f3 (hts h2.sig) hgr) (hc rd D.fr1 ro2 σ2 _ w4 f2 (hrd.to f3 fun b q=>.inl q))
end Go.Sw
namespace Go.Sw
section
variable {P:Program}{T:Type}{ts tq te k tm:Nat}{g:FuncId}{es:List (A×A)}{e:T->List A}{ea:T->A}{xs:List T}
end
theorem TCy.le{T:Type}{X:Ctx T}{P:Program}{h0 N:Nat}{c:Code}{env env':Env}{H H':Qc}{st:YSt T}{Q:Ye T}(hle:Le h0 env H env' H')(h:TCy X P h0 N c env' H' st Q):TCy X P h0 N c env H st Q:=by
 intro hX rd fr ro σ a w g r hs hj hrd
 obtain⟨ro',σ',r',s,t⟩:=hle fr ro σ N a w r
 exact Code.wpIn_mono (fun e a w q=>q.grow s (Nat.le_refl _) t (Qb3.refl _ _ _)) (h hX rd fr ro' σ' a w g r' (fun b q=>s b (hs b q)) hj hrd)
theorem Qji{P:Program}{o:Oper}{env:Env}{H:Qc}{y z:Operand}{l:Nat}{a:A}{ta:Array TypeId}(ho:o.op=.call {callee:=.value y,args:= #[z],argTypes:=ta})(hy:opA env y=.fn (.yield l) [] [])(hz:opA env z=a)(hs:Qfr a=true){N:Nat}:
  ∀fr ro σ act w,Rel fr ro σ H env N act w->(execOp act.eval o).run P w=(Instr.yield l (Q5 [a]).toArray).run P w:=by
 intro fr ro σ act w r
 have h1:=Qg r y
 rw[hy]at h1
 obtain⟨l1,l2,h1,e1,e2⟩:=h1
 obtain rfl:l1=[]:=e1
 obtain rfl:l2=[]:=e2
 have h2:=Qg r z
 rw[hz]at h2
 have h3:=VR.val hs h2
 generalize act.eval=ev at*
 simp[execOp,ho,resolve,invoke,go_sem,h1,h3,Q5]
section
variable {P:Program}{K V:Type}{tm tb ty tk kt et:Nat}{ek:K->A}{ev:V->A}{m:List (K×V)}{T:Type}
end
end Go.Sw
namespace Go.Sw
section
variable {P:Program}{o:Oper}{env:Env}{H:Qc}{fr ro:Nat->Prop}{σ:Sig}{w:World}
theorem Qjb{h0 i t b1 b2:Nat}{es:List (List A)}{l:List Ent}(hH:H[i]?=some (.rowr t 3 es))(he:l.map (eC b1 b2)=es):Le h0 env H env (H.set i (.ents t b1 b2 l)):=by
 subst he
 intro fr ro σ N a w r
 refine⟨ro,σ,⟨r.sim.weaken (x':=.ents t b1 b2 l) hH rfl ?_,r.env,r.size,r.defers⟩,fun _ q=>q,rfl⟩
 intro y h
 cases y with
 |none=>exact h.elim
 |some b=>exact h
theorem Qck{b1 b2:Nat}:∀(l:List Ent),allK 3 (l.map (eC b1 b2))
 |[]=>trivial
 |e::l=>⟨rfl,Qck l⟩
theorem Sim.phantomE(s:Sim fr ro σ H w)(t b1 b2:Nat):Sim fr ro (σ++[none]) (H++[.ents t b1 b2 []]) w:=by
 have ext:Ext ro σ w ro (σ++[none]) w:=⟨fun _ q=>q,fun _ _=>rfl,fun _ _ q=>q,fun _ _ h=>YD h⟩
 have hl:=s.len
 have hcase:∀(j:Nat) (v:Blk),(H++[Blk.ents t b1 b2 []])[j]?=some v->(j<H.length/\H[j]?=some v)\/(j=H.length/\v=.ents t b1 b2 []):=by
  intro j v h
  rcases Nat.lt_trichotomy j H.length with q|q|q
  ·rw[List.getElem?_append_left q]at h;exact .inl ⟨q,h⟩
  ·subst q;simp at h;exact .inr ⟨rfl,h.symm⟩
  ·rw[List.getElem?_eq_none (by simp;omega)]at h;cases h
 have hσ:∀(j:Nat) (z:Option Nat),(σ++[none])[j]?=some z->(j<σ.length/\σ[j]?=some z)\/(j=σ.length/\z=none):=by
  intro j z h
  rcases Nat.lt_trichotomy j σ.length with q|q|q
  ·rw[List.getElem?_append_left q]at h;exact .inl ⟨q,h⟩
  ·subst q;simp at h;exact .inr ⟨rfl,h.symm⟩
  ·rw[List.getElem?_eq_none (by simp;omega)]at h;cases h
 refine⟨by simp[hl],s.roOk,s.frLt,s.roFr,fun i b x q1 q2 q3=>?_,fun i j b x y q1 q2 q3 q4 q5 q6=>?_,fun i z x q1 q2=>?_,
  s.hidTo (· = ·) QJ (Nat.le_refl _) (fun _ _ _ _ _ _ _ q=>q) (fun _ _ _ _ _ _ _ q=>q) fun j d y g1 g2 g3=>.inl ?_⟩
 rotate_left 3
 ·rcases hσ j _ g1 with⟨r1,r2⟩|⟨_,r⟩
  ·rcases hcase j y g2 with⟨_,r3⟩|⟨r3,_⟩
   ·exact⟨j,y,rfl,r2,r3,id,fun _ q=>q⟩
   ·omega
  ·cases r
 ·rcases hσ i _ q1 with⟨r1,r2⟩|⟨_,r⟩
  ·rcases hcase i x q2 with⟨_,r3⟩|⟨r3,_⟩
   ·exact s.own i b x r2 r3 q3
   ·omega
  ·cases r
 ·rcases hσ i _ q1 with⟨r1,r2⟩|⟨_,r⟩
  ·rcases hσ j _ q2 with⟨r1',r2'⟩|⟨_,r⟩
   ·rcases hcase i x q3 with⟨_,r3⟩|⟨r3,_⟩
    ·rcases hcase j y q4 with⟨_,r4⟩|⟨r4,_⟩
     ·exact s.inj i j b x y r2 r2' r3 r4 q5 q6
     ·omega
    ·omega
   ·cases r
  ·cases r
 ·rcases hσ i _ q1 with⟨r1,r2⟩|⟨r1,rfl⟩
  ·rcases hcase i x q2 with⟨_,r3⟩|⟨r3,_⟩
   ·exact(s.blk i z x r2 r3).keep ext (fun _ _ _=>rfl) (fun _ _ _ _=>rfl)
   ·omega
  ·rcases hcase i x q2 with⟨r3,_⟩|⟨_,rfl⟩
   ·omega
   ·rfl
theorem Le.phantomE{h0 i m t T b1 b2:Nat}{cs:List A}(hh:Nat.ble h0 H.length=true)(hH:H[i]?=some (.cells T cs))(hm:cs[m]?=some .nils):
  Le h0 env H env (H.set i (.cells T (cs.set m (.osl H.length 0 0 3)))++[.ents t b1 b2 []]):=by
 intro fr ro σ N a w r
 have hh':h0<=H.length:=Nat.le_of_ble_eq_true hh
 have hi:i<H.length:=(List.getElem?_eq_some_iff.1 hH).1
 have ext:Ext ro σ w ro (σ++[none]) w:=⟨fun _ q=>q,fun _ _=>rfl,fun _ _ q=>q,fun _ _ h=>YD h⟩
 have s:=r.sim.phantomE t b1 b2
 have hi':(H++[Blk.ents t b1 b2 []])[i]?=some (.cells T cs):=by rw[List.getElem?_append_left hi];exact hH
 have e0:H.set i (.cells T (cs.set m (.osl H.length 0 0 3)))++[.ents t b1 b2 []]=(H++[Blk.ents t b1 b2 []]).set i (.cells T (cs.set m (.osl H.length 0 0 3))):=by
  rw[List.set_append_left _ _ hi]
 rw[e0]
 refine⟨ro,σ++[none],⟨s.weaken hi' rfl ?_,fun q=>(r.env q).mono ext,r.size,r.defers⟩,fun _ q=>q,Qy (by rw[r.sim.len];exact hh')⟩
 intro y h
 cases y with
 |none=>exact h
 |some b=>
  obtain⟨l,g1,g2,g3⟩:=h
  refine⟨l,g1,?_,g3⟩
  clear g1 g3 hi' e0 hH
  induction cs generalizing m l with
  |nil=>cases hm
  |cons c cs ih=>
   obtain⟨v,l',rfl,q1,q2⟩:=g2
   cases m with
   |zero=>
    simp at hm
    subst hm
    exact⟨v,l',rfl,.inl ⟨rfl,q1⟩,q2⟩
   |succ m=>exact⟨v,l',rfl,q1,ih (by simpa using hm) l' q2⟩
theorem QC{h0 i m T:Nat}{cs:List A}(hH:H[i]?=some (.cells T cs)):Le h0 env H env (H.set i (.cells T (cs.set m .any))):=by
 intro fr ro σ N a w r
 refine⟨ro,σ,⟨r.sim.weaken hH rfl ?_,r.env,r.size,r.defers⟩,fun _ q=>q,rfl⟩
 intro y h
 cases y with
 |none=>exact h
 |some b=>
  obtain⟨l,g1,g2,g3⟩:=h
  refine⟨l,g1,?_,g3⟩
  clear g1 g3 hH
  induction cs generalizing m l with
  |nil=>exact g2
  |cons c cs ih=>
   obtain⟨v,l',rfl,q1,q2⟩:=g2
   cases m with
   |zero=>exact⟨v,l',rfl,trivial,q2⟩
   |succ m=>exact⟨v,l',rfl,q1,ih l' q2⟩
theorem srcE{j m t b1 b2:Nat}{l:List Ent}{v:Value}(s:Sim fr ro σ H w)(hH:H[j]?=some (.ents t b1 b2 l))(hm:l.length=m)(h:VR ro σ w (.osl j 0 m 3) v):
  (∃a c,v=.slice a m c)/\ ∃vs:List Value,(∀w':World,w'.heap=w.heap->(Builtin.firstCells 3 m v).run P w'=.ok vs.toArray w')/\LR ro σ w (l.map (eC b1 b2)).flatten vs/\ ∀v∈vs,Qk v:=by
 rcases h with⟨rfl,rfl⟩|⟨b,p,cap,t',mm,h1,rfl,h2,h3,h4,h5⟩
 ·have:l=[]:=List.length_eq_zero_iff.1 hm
  subst this
  exact⟨⟨none,0,rfl⟩,[],fun _ _=>YT,rfl,by simp⟩
 ·refine⟨⟨_,cap,rfl⟩,?_⟩
  obtain⟨lb,q1,q2⟩:=s.blk j _ _ h1 hH
  have hr:=YI (pre:=[]) (by simpa using q1) q2
  by_cases hc:0<cap
  ·obtain rfl:=h2 hc
   obtain⟨r1,r2,r3⟩:=hr.flat
   have:=QcG (P:=P) (k:=3) (n:=m) (c:=cap) r1 (by rw[r3];simp[hm])
   simpa using this
  ·obtain rfl:m=0:=by omega
   have:l=[]:=List.length_eq_zero_iff.1 hm
   subst this
   exact⟨[],fun _ _=>YT,rfl,by simp⟩
theorem QkS{c:Call}{T T' t e' i j n m b1 b2:Nat}{x y:Operand}{l1 l2:List Ent}(E:Ys P T t 3)(hd:∀w,(underlying T').run P w=.ok (.slice e') w)(hmax:Nat.ble (l1.length+l2.length) Yb=true)(hn0:Nat.blt 0 n=true)
  (ho:o.op=.call c:=by exact rfl)(hc:c={callee:=.builtin .append,args:= #[x,y],argTypes:= #[T,T']}:=by exact rfl)(hx:opA env x=.osl i 0 n 3:=by exact rfl)(hH:H[i]?=some (.ents t b1 b2 l1):=by exact rfl)(hn:l1.length=n:=by exact rfl)
  (hy:opA env y=.osl j 0 m 3:=by exact rfl)(hHj:H[j]?=some (.ents t b1 b2 l2):=by exact rfl)(hm:l2.length=m:=by exact rfl):
  OpH P o env H (.osl H.length 0 (l1++l2).length 3) (H.set i .dead++[.ents t b1 b2 (l1++l2)]):=by
 intro fr ro σ N a w r
 have hmax':=Nat.le_of_ble_eq_true hmax
 have hn0':0<n:=by simpa using hn0
 have h1:=Qg r x
 rw[hx]at h1
 have h2:=Qg r y
 rw[hy]at h2
 obtain⟨⟨ay,cy,e1⟩,vs,q3,q4,q5⟩:=srcE (P:=P) r.sim hHj hm h2
 rw[e1]at q3
 obtain⟨_,old,o1,o2,o3⟩:=srcE (P:=P) r.sim hH hn h1
 have hlt:i<H.length:=(List.getElem?_eq_some_iff.1 hH).1
 have hkl:(H.set i .dead).length=H.length:=List.length_set
 rw[List.length_append,hn,hm]
 rcases h1 with⟨q,_⟩|⟨b,p,cap,t',mm,h3,h1,h4,h5,h6,h7⟩
 ·omega
 have hblk:=r.sim.blk i _ _ h3 hH
 obtain⟨lb,g1,g2⟩:=hblk
 have hll:vs.length=m*3:=by rw[q4.length,Yl (Qck l2)];simp[hm]
 have hol:old.length=n*3:=by rw[o2.length,Yl (Qck l1)];simp[hn]
 rw[h1]at o1
 by_cases hcap:n+m<=cap
 ·obtain rfl:p=0*3:=h4 (by omega)
  have hrun:=QdK (t:=o.type) E hd (ad:=some ⟨b,0*3,none⟩) (n:=n) (m:=m) (cap:=cap) (c:=cy) (ax:=ay) hcap (q3 w rfl)
  have hsz:(n+m)*3<=lb.length:=by
   have:w.shape? b=some (t,lb.length):=by unfold World.shape?;rw[g1];simp
   rw[this]at h6
   cases h6
   exact Nat.le_trans (Nat.mul_le_mul_right 3 hcap) (by simpa using h7)
  rw[Nat.add_mul]at hsz
  have hst:=Q9 (P:=P) (vs:=vs) (n*3) 0 g1 (by rw[hll];simpa using hsz) q5
  have hset:=r.sim.set (x':=.ents t b1 b2 (l1++l2)) (obj:=.cells (splice lb (n*3) vs).toArray t (0,0)) h3 hH rfl
   (fun y hy=>Qay g1 (QS (by rw[hll];exact hsz)) y hy)
   (fun ex hex=>⟨_,hex,by
    have:=(g2.app (n:=n) (by simp[hn]) (Qck l2) q4 q5).mono ex
    rw[List.take_of_length_le (by simp[hn])]at this
    rw[List.map_append];exact this⟩)
  have sm:=hset.1.moved (i:=i) (List.getElem?_set_self hlt) h3
  rw[List.set_set]at sm
  refine⟨.slice (some ⟨b,0*3,none⟩) (n+m) cap,_,ro,[some b],?_,.inr ⟨b,0*3,cap,t',mm,?_,rfl,h4,hcap,?_,h7⟩,sm,hset.2⟩
  ·refine YY ho hc _ ?_
   rw[h1,e1,hrun]
   simp only[Y6,Nat.zero_mul,Nat.zero_add,Sem.run_bind,hst,Result.andThen,Sem.run_pure]
   simp
  ·rw[<- r.sim.len];simp
  ·exact hset.2.shape _ _ h6
 ·obtain⟨rest,nc,hnc,hrl,hrun⟩:=Qf6 (t:=o.type) E hd rfl (by omega) (by omega) q3 o1
  let w0:World:={w with drawn:=w.drawn+1}
  have s0:Sim fr ro σ (H.set i .dead) w0:=(r.sim.kill i).heap rfl
  have e0:Qe fr ro w ro w0:=Qe.heap rfl rfl rfl rfl (Nat.le_succ _)
  have hfl:LR ro σ w0 ((l1++l2).map (eC b1 b2)).flatten (old++vs):=by
   rw[List.map_append,List.flatten_append]
   exact(o2.append q4).mono (Ext.heap (w:=w) (w':=w0) rfl)
  have hpl:∀v∈old++vs,Qk v:=fun v hv=>by rcases List.mem_append.1 hv with q|q;exact o3 v q;exact q5 v q
  have s1:=s0.alloc (x:=.ents t b1 b2 (l1++l2)) (obj:=.cells ((old++vs)++rest).toArray t) ⟨(old++vs)++rest,QX _ _,(YV (Qck _) hfl hpl).mono ((Qe.alloc (fr:=fr) _ s0.roLt s0.frLt).ext σ _)⟩
  have e1':Qe fr ro w0 ro (w0.alloc (.cells ((old++vs)++rest).toArray t)):=Qe.alloc _ s0.roLt s0.frLt
  refine⟨_,_,ro,[some w.heap.size],YY ho hc a.eval (by rw[h1,e1];exact hrun),.inr ⟨w.heap.size,0,nc,t,(old++vs++rest).length,?_,rfl,fun _=>by simp,hnc,?_,?_⟩,s1,e0.trans e1'⟩
  ·rw[<- r.sim.len];simp
  ·have:=QX w0 (.cells ((old++vs)++rest).toArray t)
   unfold World.shape?
   rw[show w.heap.size=w0.heap.size from rfl,this];simp
  ·simp only[List.length_append,hrl,hol,hll,Nat.zero_add]
   omega
theorem Qfi{c:Call}{T T' t e' i j n m b1 b2:Nat}{x y:Operand}{l1 l2 r:List Ent}(h:app l1 l2=some r)(E:Ys P T t 3)(hd:∀w,(underlying T').run P w=.ok (.slice e') w)(hn0:Nat.blt 0 n=true)
  (ho:o.op=.call c:=by exact rfl)(hc:c={callee:=.builtin .append,args:= #[x,y],argTypes:= #[T,T']}:=by exact rfl)(hx:opA env x=.osl i 0 n 3:=by exact rfl)(hH:H[i]?=some (.ents t b1 b2 l1):=by exact rfl)(hn:l1.length=n:=by exact rfl)
  (hy:opA env y=.osl j 0 m 3:=by exact rfl)(hHj:H[j]?=some (.ents t b1 b2 l2):=by exact rfl)(hm:l2.length=m:=by exact rfl):
  OpH P o env H (.osl H.length 0 r.length 3) (H.set i .dead++[.ents t b1 b2 r]):=by
 obtain⟨h1,rfl⟩:=Qkv h
 exact QkS E hd (Nat.ble_eq_true_of_le h1) hn0 ho hc hx hH hn hy hHj hm
theorem Pts.ents{i off t e f b1 b2:Nat}{l:List Ent}{x:Ent}{cs':List A}(he:l[e]?=some x)(hH:H[i]?=some (.ents t b1 b2 l):=by exact rfl)(ho:off=e*3+f:=by exact rfl)(hcs:(eC b1 b2 x).drop f=cs':=by exact rfl):Pts H (.ptr i off) cs':=by
 intro fr ro σ w v s h
 obtain⟨b,h1,h2⟩:=h
 obtain⟨lb,q1,q2⟩:=s.blk i _ _ h1 hH
 have he':(l.map (eC b1 b2))[e]?=some (eC b1 b2 x):=by rw[List.getElem?_map,he];rfl
 have:=((YI (pre:=[]) (by simpa using q1) q2).get e he').2.drop f
 refine⟨b,off,h2,?_⟩
 rw[<- hcs,ho]
 simpa using this
def QeC(cs:List A)(s:Int)(e:Ent):Option Int:=bif e.fl then(bif e.off==0 then some s else none)else match cs[e.off]? with
 |some (.int .i64 v)=>some v
 |_=>none
def Qhh{F:Type}(put:F->Nat->Int->Option F)(x:F)(s:Int)(e:Ent)(v:Int):Option (F×Int):=
 bif e.fl then(bif e.off==0 then some (x,v)else none)else(put x e.off v).map fun y=>(y,s)
abbrev QfG(b1 b2:Nat)(e:Ent):A:=.ptr (bif e.fl then b2 else b1) e.off
theorem Qkn{l:List A}{i:Nat}{a:A}(h:l[i]?=some a):∃r,l.drop i=a::r:=by
 obtain⟨hi,rfl⟩:=List.getElem?_eq_some_iff.1 h
 exact⟨_,List.drop_eq_getElem_cons hi⟩
theorem QbG{t b1 b2 T1 T2:Nat}{x:Operand}{e:Ent}{cs:List A}{s v:Int}(h:QeC cs s e=some v)(ha:∀w,(isAgg t).run P w=.ok false w)(ho:o.op=.load t x:=by exact rfl)(hx:opA env x=QfG b1 b2 e:=by exact rfl)
  (h1:H[b1]?=some (.cells T1 cs):=by exact rfl)(h2:H[b2]?=some (.cells T2 [.int .i64 s]):=by exact rfl):OpV P o env H (.int .i64 v):=by
 unfold QeC at h
 unfold QfG at hx
 cases hf:e.fl with
 |true=>
  rw[hf]at h hx
  simp only[cond_true]at h hx
  cases he:e.off==0 with
  |false=>rw[he]at h;cases h
  |true=>
   rw[he]at h
   have e0:e.off=0:=by simpa using he
   rw[e0]at hx
   have hv:s=v:=by simpa using h
   subst hv
   exact OpV.load ho ha hx (Pts.cells (cs':=[.int .i64 s]) h2 rfl)
 |false=>
  rw[hf]at h hx
  simp only[cond_false]at h hx
  cases hg:cs[e.off]? with
  |none=>rw[hg]at h;cases h
  |some a=>
   rw[hg]at h
   obtain⟨r,hr⟩:=Qkn hg
   cases a with
   |int k n=>
    cases k<;>first|(cases h;exact OpV.load ho ha hx (Pts.cells h1 hr))|cases h
   |_=>cases h
theorem Qg7{l:List A}{i:Nat}{a:A}(h:i<l.length):splice l i [a]=l.set i a:=by
 unfold splice
 rw[List.set_eq_take_append_cons_drop,if_pos h]
 simp
theorem Qf4{i:Nat}{b:Blk}(h:H[i]?=some b):H.set i b=H:=by
 apply List.ext_getElem?
 intro j
 rw[List.getElem?_set]
 by_cases e:i=j
 ·subst e
  rw[if_pos rfl,if_pos (List.getElem?_eq_some_iff.1 h).1,h]
 ·rw[if_neg e]
theorem QhN{F:Type}{c:F->List A}{put:F->Nat->Int->Option F}{t b1 b2 T1 T2:Nat}{x y:Operand}{e:Ent}{f f':F}{s s' v:Int}(h:Qhh put f s e v=some (f',s'))(hput:∀x o v y,put x o v=some y->c y=(c x).set o (.int .i64 v)/\o<(c x).length)
  (hs:∀w,(sizeOf t).run P w=.ok 1 w)(ho:o.op=.store t x y:=by exact rfl)(hx:opA env x=QfG b1 b2 e:=by exact rfl)(h1:H[b1]?=some (.cells T1 (c f)):=by exact rfl)(h2:H[b2]?=some (.cells T2 [.int .i64 s]):=by exact rfl)(hy:opA env y=.int .i64 v:=by exact rfl)
  (hb:Nat.beq b1 b2=false:=by exact rfl):OpU P o env H ((H.set b1 (.cells T1 (c f'))).set b2 (.cells T2 [.int .i64 s'])):=by
 have hne:b1≠b2:=fun q=>by subst q;rw[Nat.beq_refl]at hb;cases hb
 unfold Qhh at h
 unfold QfG at hx
 cases hf:e.fl with
 |true=>
  rw[hf]at h hx
  simp only[cond_true]at h hx
  cases he:e.off==0 with
  |false=>rw[he]at h;cases h
  |true=>
   rw[he]at h
   have e0:e.off=0:=by simpa using he
   rw[e0]at hx
   obtain⟨rfl,rfl⟩:f=f'/\v=s':=by simpa using h
   rw[Qf4 h1]
   exact OpU.store (cs:=[.int .i64 s]) (vs:=[.int .i64 v]) (cs':=[.int .i64 v]) (v:=.int .i64 v) ho hx h2 hs hy rfl rfl rfl rfl rfl rfl
 |false=>
  rw[hf]at h hx
  simp only[cond_false]at h hx
  cases hp:put f e.off v with
  |none=>rw[hp]at h;cases h
  |some g=>
   rw[hp]at h
   obtain⟨rfl,rfl⟩:g=f'/\s=s':=by simpa using h
   obtain⟨q1,q2⟩:=hput _ _ _ _ hp
   have e2:(H.set b1 (.cells T1 (c g)))[b2]?=some (.cells T2 [.int .i64 s]):=by rw[List.getElem?_set_ne hne];exact h2
   rw[Qf4 e2]
   exact OpU.store (cs:=c f) (vs:=[.int .i64 v]) (cs':=c g) (v:=.int .i64 v) ho hx h1 hs hy rfl rfl rfl rfl (Nat.ble_eq_true_of_le q2) (by rw[Qg7 q2,q1])
end
section
variable {P:Program}{h0 N:Nat}{A B C:Code}{env:Env}{H:Qc}{Q:Qm}
theorem QkF{S B1:Type}{b:Ctl S B1}(Eb:S->Env)(Hb:S->Qc)(h:TC P h0 N A env H (Seq P h0 N B (Qfj h0 b Eb Hb (Seq P h0 N C Q))))(k:∀s env H,b=.cont s->Le h0 env H (Eb s) (Hb s)->Seq P h0 N C Q .normal env H):TC P h0 N (.seq A (.seq B C)) env H Q:=by
 refine TC.seq (h.mono fun x env' H' q=>?_)
 cases x with
 |normal=>exact TC.seq (QfM Eb Hb q k)
 |exit id=>exact q
 |ret=>exact q
end
end Go.Sw
namespace Go.Sw
section
variable {P:Program}{o:Oper}{env:Env}{H:Qc}
def orI(k:IntKind)(m n:Int):Int:=k.wrap (BitVec.ofInt k.bits m|||BitVec.ofInt k.bits n).toNat
def Qjj(k:IntKind)(m n:Int):Int:=k.wrap (BitVec.ofInt k.bits m^^^BitVec.ofInt k.bits n).toNat
def shlI(k:IntKind)(m n:Int):Int:=k.wrap (m*2^(min n.toNat k.bits))
def shrI(k:IntKind)(m n:Int):Int:=m.fdiv (2^(min n.toNat k.bits))
theorem Qdj{h0 i m t k T:Nat}{cs:List A}(hh:Nat.ble h0 H.length=true)(hH:H[i]?=some (.cells T cs))(hm:cs[m]?=some .nils):
  Le h0 env H env (H.set i (.cells T (cs.set m (.osl H.length 0 0 k)))++[.row t k []]):=by
 intro fr ro σ N a w r
 have hh':h0<=H.length:=Nat.le_of_ble_eq_true hh
 have hi:i<H.length:=(List.getElem?_eq_some_iff.1 hH).1
 have ext:Ext ro σ w ro (σ++[none]) w:=⟨fun _ q=>q,fun _ _=>rfl,fun _ _ q=>q,fun _ _ h=>YD h⟩
 have s:=r.sim.phantom t k
 have hi':(H++[Blk.row t k []])[i]?=some (.cells T cs):=by rw[List.getElem?_append_left hi];exact hH
 have e0:H.set i (.cells T (cs.set m (.osl H.length 0 0 k)))++[.row t k []]=(H++[Blk.row t k []]).set i (.cells T (cs.set m (.osl H.length 0 0 k))):=by
  rw[List.set_append_left _ _ hi]
 rw[e0]
 refine⟨ro,σ++[none],⟨s.weaken hi' rfl ?_,fun q=>(r.env q).mono ext,r.size,r.defers⟩,fun _ q=>q,Qy (by rw[r.sim.len];exact hh')⟩
 intro y h
 cases y with
 |none=>exact h
 |some b=>
  obtain⟨l,g1,g2,g3⟩:=h
  refine⟨l,g1,?_,g3⟩
  clear g1 g3 hi' e0 hH
  induction cs generalizing m l with
  |nil=>cases hm
  |cons c cs ih=>
   obtain⟨v,l',rfl,q1,q2⟩:=g2
   cases m with
   |zero=>
    simp at hm
    subst hm
    exact⟨v,l',rfl,.inl ⟨rfl,q1⟩,q2⟩
   |succ m=>exact⟨v,l',rfl,q1,ih (by simpa using hm) l' q2⟩
def Qbg(n:Int):UInt8:=n.toNat.toUInt8
def QiX(P:Program)(H:Qc)(x:A)(l:List Int):Prop:=
 ∀fr ro σ w v,Sim fr ro σ H w->VR ro σ w x v->(∃a c,v=.slice a 0 c/\l=[])\/ ∃b off c,v=.slice (some ⟨b,off,none⟩) l.length c/\(l=[]\/CR ro σ w b (l.map fun n=>A.int .u8 n) off)
theorem QfD:∀(l:List Int),(l.map (fun n=>[A.int .u8 n])).flatten=l.map fun n=>A.int .u8 n
 |[]=>rfl
 |n::l=>by simp[QfD l]
theorem QiX.nils:QiX P H .nils []:=fun fr ro σ w v s h=>.inl ⟨none,0,h,rfl⟩
theorem QiX.row{i t n:Nat}{l:List Int}(hH:H[i]?=some (.row t 1 (l.map fun n=>[A.int .u8 n])):=by exact rfl)(hn:l.length=n:=by exact rfl):QiX P H (.osl i 0 n 1) l:=by
 intro fr ro σ w v s h
 rcases h with⟨rfl,rfl⟩|⟨b,p,cap,t',m,h1,rfl,h2,h3,h4,h5⟩
 ·exact .inl ⟨none,0,rfl,List.length_eq_zero_iff.1 hn⟩
 ·refine .inr ⟨b,p,cap,by rw[hn],?_⟩
  by_cases hl:l=[]
  ·exact .inl hl
  ·have:0<cap:=by have:=List.length_pos_iff.2 hl;omega
   obtain rfl:=h2 this
   obtain⟨lb,q1,q2⟩:=s.blk i _ _ h1 hH
   have hr:=(YI (pre:=[]) (by simpa using q1) q2).flat.1
   rw[QfD]at hr
   exact .inr (by simpa using hr.lift)
theorem QiX.rsl{l:List Int}:QiX P H (.rsl 1 (l.map fun n=>[A.int .u8 n])) l:=by
 intro fr ro σ w v s ⟨a,c,h1,h2,h3⟩
 subst h1
 rw[List.length_map]at*
 rcases h3 with h3|⟨b,off,rfl,h4,h5⟩
 ·have:l=[]:=List.map_eq_nil_iff.1 h3
  subst this
  exact .inl ⟨a,c,by simp,rfl⟩
 ·have hr:=h5.flat.1
  rw[QfD]at hr
  exact .inr ⟨b,off,c,rfl,.inr hr.lift⟩
theorem QbM{ro:Nat->Prop}{σ:Sig}{w:World}{b:Nat}:∀(l:List Int) (off:Nat) (acc:ByteArray),CR ro σ w b (l.map fun n=>A.int .u8 n) off->(Extern.Bytes.loadBytes ⟨b,off,none⟩ l.length acc).run P w=.ok ⟨acc.data++(l.map Qbg).toArray⟩ w
 |[],off,acc,_=>by simp[Extern.Bytes.loadBytes,go_sem]
 |n::l,off,acc,⟨⟨v,h1,hp,h2⟩,h3⟩=>by
  have h2':v=.int .u8 n:=h2
  subst h2'
  have ih:=QbM l (off+1) (acc.push n.toNat.toUInt8) h3
  have hl:(Go.load ⟨b,off,none⟩).run P w=.ok (.int .u8 n) w:=by simp[Go.load,Sem.run,h1]
  simp only[List.length_cons,Extern.Bytes.loadBytes,Sem.run_bind,hl,Result.andThen]
  have ha:(⟨b,off,none⟩:Addr).add 1=⟨b,off+1,none⟩:=by simp[Y6]
  rw[ha,ih]
  simp[Qbg,ByteArray.push]
theorem Qc0{fr ro:Nat->Prop}{σ:Sig}{w:World}{x:A}{l:List Int}{v:Value}(h:QiX P H x l)(s:Sim fr ro σ H w)(hv:VR ro σ w x v):(Extern.Bytes.bytesOf v).run P w=.ok ⟨(l.map Qbg).toArray⟩ w:=by
 rcases h fr ro σ w v s hv with⟨a,c,rfl,rfl⟩|⟨b,off,c,rfl,hc⟩
 ·cases a with
  |none=>simp[Extern.Bytes.bytesOf,go_sem];rfl
  |some a=>simp[Extern.Bytes.bytesOf,Extern.Bytes.loadBytes,go_sem];rfl
 ·rcases hc with rfl|hc
  ·simp[Extern.Bytes.bytesOf,Extern.Bytes.loadBytes,go_sem];rfl
  ·have:=QbM (P:=P) l off .empty hc
   simp only[Extern.Bytes.bytesOf,this]
   congr 2
   simp[ByteArray.empty,ByteArray.emptyWithCapacity]
   rfl
def cmpB(l m:List Int):Int:=Lib.compareBytes (l.map Qbg) (m.map Qbg)
theorem OpV.cmpB{c:Call}{f:FuncId}{fn:Func}{x y:Operand}{ts:Array TypeId}{ax ay:A}{l m:List Int}(hf:P.funcs[f]?=some fn)(hname:(fn.name=="runtime.NumGoroutine")=false)(hb:fn.body.isNone=true)(hn:Extern.findNext fn=none)(he:Extern.find fn=some Extern.BytealgCompare.compare)
  (h1:QiX P H ax l)(h2:QiX P H ay m)(ho:o.op=.call c:=by exact rfl)(hc:c={callee:=.value (.func f),args:= #[x,y],argTypes:=ts}:=by exact rfl)(hx:opA env x=ax:=by exact rfl)(hy:opA env y=ay:=by exact rfl):OpV P o env H (.int .i64 (cmpB l m)):=by
 intro fr ro σ N a w r
 have v1:=Qg r x
 rw[hx]at v1
 have v2:=Qg r y
 rw[hy]at v2
 have e1:=Qc0 h1 r.sim v1
 have e2:=Qc0 h2 r.sim v2
 refine⟨.int .i64 (Sw.cmpB l m),?_,rfl⟩
 subst hc
 have e:a.eval (.func f)=.func (.func f) #[] #[]:=rfl
 have e3:(callFunc f #[a.eval x,a.eval y]).run P w=.ok (.value (.int .i64 (Sw.cmpB l m))) w:=by
  rw[run_callFunc_extern hf hname hb hn he]
  have h5:Sem.run P (Extern.BytealgCompare.compare #[a.eval x,a.eval y]) w=.ok (.int .i64 (Sw.cmpB l m)) w:=by
   change Sem.run P (do pure (goInt (Extern.BytealgCompare.cmp (<- Extern.Bytes.bytesOf (a.eval x)) (<- Extern.Bytes.bytesOf (a.eval y))))) w=_
   simp only[Sem.run_bind,e1,e2,Result.andThen,Sem.run_pure,Lib.cmp_eq]
   rfl
  rw[h5];rfl
 generalize a.eval=ρ at*
 simp only[execOp,ho,resolve,e,Deferred.ofValue,invoke,Sem.run_bind,Sem.run_pure,Result.andThen]
 simpa using e3
end
end Go.Sw
namespace Go.Sw
theorem QjX{P:Program}{W:World}{name:String}{d:DataW Unit}:∀{laid:List (String×DataW Unit)}{ps:List MemPlace},DataW.LaidVars P W laid ps->(name,d)∈laid->
  ∃(g:Nat) (t:TypeId) (cs:Array Value) (fuel:Nat) (p:List MemPlace),P.globalNamed name=some g/\(P.globals[g]?).map (·.type)=some t/\W.var? P name=some cs/\DataW.trod (fun _=>()) P W 0 (fun _=>true) false fuel t cs.toList=some (d,p):=by
 intro laid
 induction laid with
 |nil=>intro ps h hm;cases hm
 |cons x laid ih=>
  intro ps h hm
  obtain⟨g,t,cs,fuel,p,q,h1,h2,h3,h4,h5,h6⟩:=h
  rcases List.mem_cons.1 hm with e|hm
  ·subst e
   exact⟨g,t,cs,fuel,p,h1,h2,h3,h4⟩
  ·exact ih h5 hm
theorem QT{P:Program}{W:World}{name:String}{a b:Int}{g t e:Nat}{f0 f1:Field}{laid:List (String×DataW Unit)}{ps:List MemPlace}(h:DataW.LaidVars P W laid ps)(hm:(name,DataW.agg [.lit (.int .i64 a),.lit (.int .i64 b)])∈laid)
  (hg:P.globalNamed name=some g)(hty:(P.globals[g]?).map (·.type)=some t)(ht:P.underlying t=some (.struct #[f0,f1]))(e0:f0.type=e)(e1:f1.type=e)(o0:f0.offset=0)(o1:f1.offset=1)(he:P.underlying e=some (.int .i64))(hce:P.cellsOf e=1)(hct:P.cellsOf t=2):
  W.cell? ⟨g,0,none⟩=some (.int .i64 a)/\W.cell? ⟨g,1,none⟩=some (.int .i64 b):=by
 obtain⟨g',t',cs,fuel,p,h1,h2,h3,h4⟩:=QjX h hm
 obtain rfl:=Option.some.inj (hg.symm.trans h1)
 obtain rfl:=Option.some.inj (hty.symm.trans h2)
 obtain⟨y0,y1,n,q1,q2,q3,q4⟩:=Go.ChangeShapes.trod_struct2 ht h4
 rw[e0,o0,hce]at q3
 rw[e1,o1,hce]at q4
 obtain⟨m0,r1,r2,_⟩:=DataW.trod_int he q3
 obtain⟨m1,r3,r4,_⟩:=DataW.trod_int he q4
 subst r2 r4
 have q1':a=m0/\b=m1:=by simpa using congrArg Prod.fst q1
 obtain⟨rfl,rfl⟩:=q1'
 rw[World.var?_cell hg h3,World.var?_cell hg h3]
 rw[hct]at q2
 constructor
 ·have:=congrArg (·[0]?) r1
  simpa[List.getElem?_take]using this
 ·have:=congrArg (·[0]?) r3
  simpa[List.getElem?_take,List.getElem?_drop]using this
theorem Y1{w:World}{g:Nat}{a b:Int}(s:w.cell? ⟨g,0,none⟩=some (.int .i64 a)/\w.cell? ⟨g,1,none⟩=some (.int .i64 b)):∀(zs:List Int),some [a,b]=some zs->∀(i:Nat) (z:Int),zs[i]?=some z->w.cell? ⟨g,i,none⟩=some (.int .i64 z)
 |zs,h,0,z,hi=>by cases h;cases hi;exact s.1
 |zs,h,1,z,hi=>by cases h;cases hi;exact s.2
 |zs,h,i+2,z,hi=>by cases h;simp at hi
end Go.Sw
