/- The rules by which the code is walked, with what they rest on (part 1). -/
import Derived.Calls
import Derived.Tactics
import Derived.Below
import Derived.TacticsIn
import Derived.OrdersIn
import Derived.RangeFuncLeaves
import Derived.RangeFuncRecord
import Derived.Laws.Strings
import Derived.Laws.World
import Derived.Orders
import Derived.Maps.Keyed
import Derived.Laws.StructEq
import Derived.Maps.RangeRun
import Derived.Shelf.SlSortCmp.NoneTotal
set_option linter.unusedVariables false
set_option linter.unusedSimpArgs false
set_option linter.unusedSectionVars false
namespace Go.Sw
open Option renaming none→AF,some→AC
open Bool renaming false→AD,true→AE
open Decidable renaming decide→AG
open Go renaming Oper→AM,Program→AK,Value→AL,World→AJ
section
abbrev AB:=@Option
abbrev AA:=@List
abbrev Xa:= @List.getElem?_set_self
abbrev Xb:= @List.getElem?_set
abbrev Xc:= @List.pairwise_cons
abbrev Xd:= @List.mem_filter
abbrev Xe:= @List.mem_map
abbrev Xf:= @List.map_append
abbrev Xg:= @Bool.not_true
abbrev Xh:= @Bool.not_false
abbrev Xi:= @Bool.false_eq_true
abbrev Xj:= @Option.map_some
abbrev Xk:= @Option.map_none
abbrev Xl:= @List.replicate_succ
abbrev Xm:= @Nat.succ_mul
abbrev Xn:= @Nat.lt_succ_self
abbrev Xo:= @List.getElem?_map
abbrev Xp:= @List.drop_eq_getElem_cons
abbrev Xq:= @List.drop_eq_nil_iff
abbrev Xr:= @List.drop_length
abbrev Xs:= @List.all_eq_true
abbrev Xt:= @List.any_eq_true
abbrev Xu:= @Array.toList_inj
abbrev Xv:= @Nat.zero_add
abbrev Xw:= @Nat.add_zero
abbrev Xx:= @List.length_take
abbrev Xy:= @List.take_append_drop
abbrev Xz:= @Nat.add_mul
abbrev XA:= @Nat.min_eq_left
abbrev XB:= @Nat.mul_le_mul_right
abbrev XC:= @List.foldl_cons
abbrev XD:= @List.getElem?_cons_zero
abbrev XE:= @List.getElem?_cons_succ
abbrev XF:= @List.getElem?_toArray
abbrev XG:= @Sem.run_ite
abbrev XH:= @List.map_toArray
abbrev XI:= @Option.bind_some
abbrev XJ:= @List.getElem?_eq_getElem
abbrev XK:= @List.getElem?_eq_some_iff
abbrev XL:= @List.getElem?_append_left
abbrev XM:= @List.getElem?_append_right
abbrev XN:= @List.getElem?_eq_none
abbrev XO:= @List.getElem?_set_ne
abbrev XP:= @Nat.eq_of_beq_eq_true
abbrev XQ:= @Nat.le_of_ble_eq_true
abbrev XR:= @Nat.ble_eq_true_of_le
abbrev XS:= @Nat.le_refl
abbrev XT:= @Nat.zero_le
abbrev XU:= @Nat.le_trans
abbrev XV:= @Bool.and_eq_true
abbrev XW:= @Bool.or_eq_false_iff
abbrev XX:= @Bool.eq_iff_iff
abbrev XY:= @Option.some.inj
abbrev XZ:= @List.length_cons
abbrev X0:= @List.length_map
abbrev X2:= @List.length_append
abbrev X3:= @List.length_set
abbrev X4:= @List.mem_cons_self
abbrev X5:= @List.mem_cons_of_mem
abbrev X6:= @List.mem_cons
abbrev X7:= @List.take_append_of_le_length
abbrev X8:= @List.drop_append_of_le_length
abbrev X9:= @List.take_length
abbrev Va:= @List.drop_length_add_append
abbrev Vb:= @List.take_length_add_append
abbrev Vc:= @Array.getElem?_eq_some_iff
abbrev Vd:= @List.getElem_mem
abbrev Ve:= @Array.getElem?_setIfInBounds
abbrev Vf:= @Nat.lt_of_lt_of_le
abbrev Vg:= @List.append_nil
abbrev Vh:= @List.nil_append
abbrev Vi:= @List.append_assoc
abbrev Vj:= @List.map_cons
abbrev Vk:= @List.map_nil
abbrev Vl:= @List.flatten_cons
abbrev Vm:= @Sem.run_bind
abbrev Vn:= @Sem.run_pure
abbrev Vo:= @cond_true
abbrev Vp:= @cond_false
abbrev Vq:= @decide_eq_true_eq
abbrev Vr:= @if_neg
abbrev Vs:= @if_pos
abbrev Vt:= @decide_eq_true
abbrev Vu:= @of_decide_eq_true
abbrev Vv:= @of_decide_eq_false
abbrev Vw:= @decide_eq_false
abbrev Vx:= @beq_iff_eq
abbrev Vy:= @Bool.true_and
abbrev Vz:= @List.mem_singleton
abbrev VA:= @Nat.lt_or_ge
abbrev VB:= @List.mem_append
abbrev VC:= @List.pairwise_iff_getElem
abbrev VD:= @Nat.beq_refl
abbrev VE:= @List.mem_map_of_mem
abbrev VG:= @List.mem_of_getElem?
abbrev VH:= @List.take_of_length_le
abbrev VI:= @List.length_eq_zero_iff
abbrev VJ:= @List.cons_append
abbrev VK:= @List.getD_eq_getElem?_getD
abbrev VL:= @Bool.eq_false_iff
theorem om{p:Prop}(h:p:=by omega):p:=h
theorem gq{p:Prop}(h:p:=by grind):p:=h
theorem sq{p:Prop}(h:p:=by simp):p:=h
def ZG:Nat:=0
def nG:Nat:=1
def M4:AA (AA Int):=[]
theorem _C:((List.range nG).all λb=>Nat.beq b ZG|| !(M4.getD b []).isEmpty)=true:=by decide
theorem _D:Nat.ble M4.length nG=true:=by decide
theorem _n:Nat.blt ZG nG=true:=by decide
structure GP (w:AJ):Prop where
 max:∃m:Int,w.cell? ⟨ZG,0,AF⟩=AC (.int .i64 m)
 tab:∀(g:Nat) (zs:List Int),M4[g]?=AC zs->∀(i:Nat) (z:Int),zs[i]?=AC z->w.cell? ⟨g,i,AF⟩=AC (.int .i64 z)
variable {w w':AJ}
theorem GP.keep(h:∀b,b<nG->w'.heap[b]?=w.heap[b]?)(g:GP w):GP w':=by
 obtain⟨m,j⟩:=g.max;refine⟨⟨m,?_⟩,λd q f i z t=>?_⟩
 .rw[<- j];unfold World.cell?;rw[h ZG (by simpa using _n)]
 .rw[<- g.tab d q f i z t];unfold World.cell?;have y:=(XK.1 f).1;have x:M4.length<=nG:=by simpa using _D
  rw[h d om]
theorem tu{b i:Nat}{v:AL}(h:w.cell? ⟨b,i,AF⟩=AC v):b<w.heap.size:=by
 cases e:w.heap[b]? with
 |none=>simp[World.cell?,e]at h
 |some o=>exact(Vc.1 e).1
theorem GP.size{w:AJ}(g:GP w)(b:Nat)(j:b<nG):b<w.heap.size:=by
 have h:=Xs.1 _C b (List.mem_range.2 j);rw[Bool.or_eq_true]at h;rcases h with h|h
 .obtain⟨m,f⟩:=g.max;rw[XP h];exact tu f
 .cases e:M4[b]? with
  |none=>rw[VK,e]at h;simp at h
  |some d=>
   cases d with
   |nil=>rw[VK,e]at h;simp at h
   |cons z d=>exact tu (g.tab b _ e 0 z rfl)
inductive A where
 |any
 |bool (b:Bool)
 |int (k:IntKind) (n:Int)
 |str (s:List UInt8)
 |nilp
 |ptr (i off:Nat)
 |rp (cs:List A)
 |nils
 |rsl (k:Nat) (es:List (List A))
 |osl (i o n k:Nat)
 |agg (cs:List A)
 |fn (f:Fn) (first cap:List A)
 |nilf
 |iface (t:Nat) (v:A)
 |nilif
 |map (i:Nat)
 |nilm
 |tup (vs:List A)
abbrev Ce:=AA (AB Nat)
def QC:AL->Prop
 |.agg _|.tuple _=>False
 |_=>True
mutual
def VR(ro:Nat->Prop)(σ:Ce)(w:AJ):A->AL->Prop
 |.any,_=>True
 |.bool b,v=>v=.bool b
 |.int k n,v=>v=.int k n
 |.str s,v=>v=.string ⟨s.toArray⟩
 |.nilp,v=>v=.pointer AF
 |.ptr i off,v=>∃b,σ[i]?=AC (AC b)/\v=.pointer (AC ⟨b,off,AF⟩)
 |.rp cs,v=>∃b off,v=.pointer (AC ⟨b,off,AF⟩)/\ro b/\CR ro [] w b cs off
 |.nils,v=>v=.slice AF 0 0
 |.rsl k es,v=>∃a cap,v=.slice a es.length cap/\es.length<=cap/\
   (es=[]\/ ∃b off,a=AC ⟨b,off,AF⟩/\ro b/\RR ro [] w b k es off)
 |.osl i o n k,v=>(n=0/\v=.slice AF 0 0)\/
   ∃b p cap t m,σ[i]?=AC (AC b)/\v=.slice (AC ⟨b,p,AF⟩) n cap/\(0<cap->p=o*k)/\(n<=cap/\cap<=9223372036854775807)/\w.shape? b=AC (t,m)/\(o+cap)*k<=m
 |.agg cs,v=>∃l:AA AL,v=.agg l.toArray/\LR ro σ w cs l
 |.fn f first cap,v=>∃l l':AA AL,v=.func f l.toArray l'.toArray/\LR ro σ w first l/\LR ro σ w cap l'
 |.nilf,v=>v=.nilFunc
 |.iface t a,v=>∃x,v=.iface t x/\VR ro σ w a x
 |.nilif,v=>v=.nilIface
 |.map i,v=>∃b,σ[i]?=AC (AC b)/\v=.map (AC b)
 |.nilm,v=>v=.map AF
 |.tup vs,v=>∃l:AA AL,v=.tuple l.toArray/\LR ro σ w vs l
def CR(ro:Nat->Prop)(σ:Ce)(w:AJ)(b:Nat):AA A->Nat->Prop
 |[],_=>True
 |a::r,off=>(∃v,w.cell? ⟨b,off,AF⟩=AC v/\QC v/\VR ro σ w a v)/\CR ro σ w b r (off+1)
def RR(ro:Nat->Prop)(σ:Ce)(w:AJ)(b k:Nat):AA (AA A)->Nat->Prop
 |[],_=>True
 |cs::r,off=>cs.length=k/\CR ro σ w b cs off/\RR ro σ w b k r (off+k)
def LR(ro:Nat->Prop)(σ:Ce)(w:AJ):AA A->AA AL->Prop
 |[],l=>l=[]
 |a::r,l=>∃v l',l=v::l'/\VR ro σ w a v/\LR ro σ w r l'
end
structure DR (ro:Nat->Prop) (σ:Ce) (w:AJ) (ro':Nat->Prop) (σ':Ce) (w':AJ):Prop where
 sub:∀b,ro b->ro' b
 keep:∀b,ro b->w'.heap[b]?=w.heap[b]?
 shape:∀b x,w.shape? b=AC x->w'.shape? b=AC x
 sig:∀(i b:Nat),σ[i]?=AC (AC b)->σ'[i]?=AC (AC b)
theorem tt{b d:Nat}(h:w'.heap[b]?=w.heap[b]?):w'.cell? ⟨b,d,AF⟩=w.cell? ⟨b,d,AF⟩:=by
 simp only[World.cell?,h]
variable {ro ro':Nat->Prop}{σ:Ce}
theorem DR.nil{σ':Ce}(h:DR ro σ w ro' σ' w'):DR ro [] w ro' [] w':=
 ⟨h.sub,h.keep,h.shape,λ_ _ q=>q⟩
mutual
theorem VR.mono{ro ro':Nat->Prop}{w w':AJ}:∀{a:A} {σ σ':Ce} {v:AL},DR ro σ w ro' σ' w'->VR ro σ w a v->VR ro' σ' w' a v
 |.any,_,_,_,h,_=>trivial
 |.bool b,_,_,v,h,q=>q
 |.int k n,_,_,v,h,q=>q
 |.str s,_,_,v,h,q=>q
 |.nilp,_,_,v,h,q=>q
 |.ptr i off,_,_,v,h,q=>by
  simp only[VR]at q⊢;obtain⟨b,h1,h2⟩:=q;exact⟨b,h.sig _ _ h1,h2⟩
 |.rp cs,_,_,v,h,q=>by
  simp only[VR]at q⊢;obtain⟨b,off,h1,h2,h3⟩:=q;exact⟨b,off,h1,h.sub _ h2,CR.mono h.nil h2 h3⟩
 |.nils,_,_,v,h,q=>q
 |.rsl k es,_,_,v,h,q=>by
  simp only[VR]at q⊢;obtain⟨a,cap,h1,h2,h3⟩:=q;refine⟨a,cap,h1,h2,?_⟩;rcases h3 with h3|⟨b,off,h4,h5,h6⟩
  .exact .inl h3
  .exact .inr ⟨b,off,h4,h.sub _ h5,RR.mono h.nil h5 h6⟩
 |.osl i o n k,_,_,v,h,q=>by
  simp only[VR]at q⊢;rcases q with q|⟨b,p,cap,t,m,h1,h2,h6,h3,h4,h5⟩
  .exact .inl q
  .exact .inr ⟨b,p,cap,t,m,h.sig _ _ h1,h2,h6,h3,h.shape _ _ h4,h5⟩
 |.agg cs,_,_,v,h,q=>by
  simp only[VR]at q⊢;obtain⟨l,h1,h2⟩:=q;exact⟨l,h1,LR.mono h h2⟩
 |.fn f a c,_,_,v,h,q=>by
  simp only[VR]at q⊢;obtain⟨l,l',h1,h2,h3⟩:=q;exact⟨l,l',h1,LR.mono h h2,LR.mono h h3⟩
 |.nilf,_,_,v,h,q=>q
 |.iface t a,_,_,v,h,q=>by
  simp only[VR]at q⊢;obtain⟨x,h1,h2⟩:=q;exact⟨x,h1,VR.mono h h2⟩
 |.nilif,_,_,v,h,q=>q
 |.map i,_,_,v,h,q=>by
  simp only[VR]at q⊢;obtain⟨b,h1,h2⟩:=q;exact⟨b,h.sig _ _ h1,h2⟩
 |.nilm,_,_,v,h,q=>q
 |.tup vs,_,_,v,h,q=>by
  simp only[VR]at q⊢;obtain⟨l,h1,h2⟩:=q;exact⟨l,h1,LR.mono h h2⟩
theorem CR.mono{ro ro':Nat->Prop}{w w':AJ}:∀{cs:AA A} {σ σ':Ce} {b off:Nat},DR ro σ w ro' σ' w'->ro b->CR ro σ w b cs off->CR ro' σ' w' b cs off
 |[],_,_,_,_,_,_,_=>trivial
 |a::r,_,_,b,off,h,hb,q=>by
  simp only[CR]at q⊢;obtain⟨⟨v,h1,hp,h2⟩,h3⟩:=q;exact⟨⟨v,by rw[tt (h.keep _ hb)];exact h1,hp,VR.mono h h2⟩,CR.mono h hb h3⟩
theorem RR.mono{ro ro':Nat->Prop}{w w':AJ}:∀{es:AA (AA A)} {σ σ':Ce} {b k off:Nat},DR ro σ w ro' σ' w'->ro b->RR ro σ w b k es off->RR ro' σ' w' b k es off
 |[],_,_,_,_,_,_,_,_=>trivial
 |cs::r,_,_,b,k,off,h,hb,q=>by
  simp only[RR]at q⊢;obtain⟨h1,h2,h3⟩:=q;exact⟨h1,CR.mono h hb h2,RR.mono h hb h3⟩
theorem LR.mono{ro ro':Nat->Prop}{w w':AJ}:∀{az:AA A} {σ σ':Ce} {l:AA AL},DR ro σ w ro' σ' w'->LR ro σ w az l->LR ro' σ' w' az l
 |[],_,_,_,h,q=>q
 |a::r,_,_,l,h,q=>by
  simp only[LR]at q⊢;obtain⟨v,l',h1,h2,h3⟩:=q;exact⟨v,l',h1,VR.mono h h2,LR.mono h h3⟩
end
structure fq where
 fl:Bool
 off:Nat
 lo:Int
 hi:Int
def NM(i n c:Nat):AA (AA A):=(List.range c).map λj=>[.osl i (j*n) n 1]
def eC(b1 b2:Nat)(e:fq):AA A:=[.ptr (bif e.fl then b2 else b1) e.off,.int .i64 e.lo,.int .i64 e.hi]
inductive CW where
 |dead
 |cells (t:Nat) (cs:List A)
 |row (t k:Nat) (es:List (List A))
 |rowr (t k:Nat) (es:List (List A))
 |map (es:List (A×A))
 |iter (cur:Option (A×A)) (es:List (A×A))
 |fmap (es:List (A×A))
 |ents (t b1 b2:Nat) (es:List fq)
 |wins (t b n c:Nat)
 |mapO (fz:Bool) (t k:Nat) (es:List (A×Option (List (List A))))
 |mapP (es:List (A×A))
 |frow (t k:Nat) (es:List (List A))
def CW.live:CW->Bool
 |.dead=>AD
 |.fmap _=>AD
 |.frow _ _ _=>AD
 |.mapO fz _ _ _=> !fz
 |_=>AE
def CW.held:CW->Bool
 |.mapO fz _ _ _=>fz
 |_=>AD
def CW.holds(x:CW):Bool:=x.live||x.held
theorem CW.nd{x:CW}(h:x.live=AE):x≠ .dead:=by rintro rfl;cases h
theorem iJ{x:CW}(h:x.holds=AE):x≠ .dead:=by rintro rfl;cases h
theorem io{x:CW}(h:x.live=AE):x.holds=true:=by unfold CW.holds;rw[h];rfl
abbrev Qc:=AA CW
def ER(ro:Nat->Prop)(σ:Ce)(w:AJ):AA (A×A)->AA MapEntry->Prop
 |[],l=>l=[]
 |x::r,l=>∃e l',l=e::l'/\VR ro σ w x.1 e.key/\VR ro σ w x.2 e.val/\ER ro σ w r l'
def ee(ro:Nat->Prop)(w:AJ)(b:Nat)(cur:AB (A×A))(es:AA (A×A)):Prop:=
 (es=[]/\cur=AF/\w.heap[b]?=AC (.mapIter AF 0 #[] 0))\/
 ∃m l clock seen left,w.heap[b]?=AC (.mapIter (AC m) clock seen clock)/\ro m/\w.heap[m]?=AC (.map l clock)/\(∀e∈l.toList,e.born<clock)/\(l.toList.map (·.born)).Nodup/\
  (left:AA MapEntry).Perm (l.toList.filter λe=> !seen.contains e.born)/\ER ro [] w es left/\
  (∀x,cur=AC x->∃e∈l.toList,seen.back? =AC e.born/\VR ro [] w x.1 e.key/\VR ro [] w x.2 e.val)
def RL(ro:Nat->Prop)(σ:Ce)(w:AJ)(k:Nat):AA (AA A)->AA AL->Prop
 |[],_=>True
 |c::es,l=>∃l1 l2,l=l1++l2/\c.length=k/\(LR ro σ w c l1/\ ∀v∈l1,QC v)/\RL ro σ w k es l2
theorem RL.mono{ro ro':Nat->Prop}{σ σ':Ce}{w w':AJ}(h:DR ro σ w ro' σ' w'){k:Nat}:∀{es:AA (AA A)} {l:AA AL},RL ro σ w k es l->RL ro' σ' w' k es l
 |[],_,_=>trivial
 |c::es,l,⟨l1,l2,h1,h2,h3,h4⟩=>⟨l1,l2,h1,h2,⟨h3.1.mono h,h3.2⟩,RL.mono h h4⟩
def SO(ro:Nat->Prop)(w:AJ)(t k:Nat)(rows:AA (AA A))(v:AL):Prop:=
 (rows=[]/\v=.slice AF 0 0)\/ ∃(c p cap:Nat) (vs:AA AL),v=.slice (AC ⟨c,p,AF⟩) rows.length cap/\(rows.length<=cap/\cap<=9223372036854775807)/\w.heap[c]?=AC (.cells vs.toArray t (0,0))/\cap*k<=vs.length/\RL ro [] w k rows vs/\(0<cap->p=0)
def MO(ro:Nat->Prop)(w:AJ)(t k:Nat):AA (A×AB (AA (AA A)))->AA MapEntry->Prop
 |[],l=>l=[]
 |x::r,l=>∃e l',l=e::l'/\VR ro [] w x.1 e.key/\(∀rows,x.2=AC rows->SO ro w t k rows e.val)/\MO ro w t k r l'
def Nr:AA (A×AB (AA (AA A)))->AA MapEntry->Nat->Prop
 |x::r,e::l,c=>(x.2.isSome=AE/\ ∃p n cap,e.val=.slice (AC ⟨c,p,AF⟩) n cap)\/Nr r l c
 |_,_,_=>False
def dJ:AA (A×AB (AA (AA A)))->AA MapEntry->Prop
 |x::r,e::l=>(∀c,x.2.isSome=AE->(∃p n cap,e.val=.slice (AC ⟨c,p,AF⟩) n cap)->¬Nr r l c)/\dJ r l
 |_,_=>True
def Dq(w:AJ):CW->Nat->Nat->Prop
 |.mapO _ _ _ es,b,c=>∃l clock,w.heap[b]?=AC (.map l clock)/\Nr es l.toList c
 |_,_,_=>False
theorem Dq.keep{x:CW}{b c:Nat}(h:w'.heap[b]?=w.heap[b]?)(q:Dq w' x b c):Dq w x b c:=by
 cases x with
 |mapO fz t k g=>obtain⟨l,f,j,d⟩:=q;exact⟨l,f,gq,d⟩
 |_=>exact q.elim
theorem Dq.holds{w:AJ}{x:CW}{b c:Nat}(q:Dq w x b c):x.holds=true:=by
 cases x with
 |mapO fz t k d=>cases fz<;>rfl
 |_=>exact q.elim
theorem MO.mono{ro ro':Nat->Prop}{σ σ':Ce}{w w':AJ}(h:DR ro σ w ro' σ' w'){t k:Nat}:∀{es:AA (A×AB (AA (AA A)))} {l:AA MapEntry},(∀c,Nr es l c->w'.heap[c]?=w.heap[c]?)->MO ro w t k es l->MO ro' w' t k es l
 |[],_,_,q=>q
 |x::r,_,hh,⟨e,l',h1,h2,h3,h4⟩=>by
  subst h1;refine⟨e,l',rfl,h2.mono h.nil,λrows hr=>?_,MO.mono h (λc hc=>hh c (.inr hc)) h4⟩;rcases h3 rows hr with q|⟨c,p,cap,vs,q1,q2,q3,q4,q5,q6⟩
  .exact .inl q
  .exact .inr ⟨c,p,cap,vs,q1,q2,by rw[hh c (.inl gq)];exact q3,q4,q5.mono h.nil,q6⟩
theorem MO.cells{ro:Nat->Prop}{w:AJ}{t k:Nat}:∀{es:AA (A×AB (AA (AA A)))} {l:AA MapEntry} {c:Nat},MO ro w t k es l->Nr es l c->∃vs:Array AL,w.heap[c]?=AC (.cells vs t (0,0))
 |[],l,c,h,q=>by cases l<;>exact q.elim
 |x::r,_,c,⟨e,l',h1,h2,h3,h4⟩,q=>by
  subst h1;rcases q with⟨q1,p,n,cap,q2⟩|q
  .obtain⟨rows,hr⟩:=Option.isSome_iff_exists.1 q1;rcases h3 rows hr with⟨_,z⟩|⟨c',p',cap',vs,z1,z2,z3,z4,z5,z6⟩
   .grind
   grind
  .exact MO.cells h4 q
def oG(l:Array MapEntry)(clock:Nat):Prop:=clock=l.size/\ ∀(i:Nat) (e:MapEntry),l.toList[i]?=AC e->e.born=i
def BR(ro:Nat->Prop)(σ:Ce)(w:AJ):CW->AB Nat->Prop
 |.dead,_=>True
 |.cells t cs,AC b=>∃l:AA AL,w.heap[b]?=AC (.cells l.toArray t (0,0))/\LR ro σ w cs l/\ ∀v∈l,QC v
 |.row t k es,AC b=>∃l:AA AL,w.heap[b]?=AC (.cells l.toArray t (0,0))/\RL ro [] w k es l
 |.rowr t k es,AC b=>∃l:AA AL,w.heap[b]?=AC (.cells l.toArray t (0,0))/\RL ro σ w k es l
 |.row _ _ es,AF=>es=[]
 |.ents t b1 b2 es,AC b=>∃l:AA AL,w.heap[b]?=AC (.cells l.toArray t (0,0))/\RL ro σ w 3 (es.map (eC b1 b2)) l
 |.ents _ _ _ es,AF=>es=[]
 |.wins t b n c,AC d=>∃l:AA AL,w.heap[d]?=AC (.cells l.toArray t (0,0))/\RL ro σ w 1 (NM b n c) l
 |.wins _ _ _ c,AF=>c=0
 |.map es,AC b=>∃l clock,w.heap[b]?=AC (.map l clock)/\ER ro [] w es l.toList/\
   (∀e∈l.toList,e.born<clock)/\(l.toList.map (·.born)).Nodup/\(l.toList.map (·.key)).Nodup
 |.mapP es,AC b=>∃l clock,w.heap[b]?=AC (.map l clock)/\ER ro σ w es l.toList/\
   (∀e∈l.toList,e.born<clock)/\(l.toList.map (·.born)).Nodup/\(l.toList.map (·.key)).Nodup
 |.frow t k es,AC b=>ro b/\ ∃l:AA AL,w.heap[b]?=AC (.cells l.toArray t (0,0))/\RL ro [] w k es l/\l.length=es.length*k
 |.iter cur es,AC b=>ee ro w b cur es
 |.mapO fz t k es,AC b=>(fz=AE->ro b)/\ ∃l clock,w.heap[b]?=AC (.map l clock)/\MO ro w t k es l.toList/\dJ es l.toList/\
   (∀e∈l.toList,e.born<clock)/\(l.toList.map (·.born)).Nodup/\(l.toList.map (·.key)).Nodup/\oG l clock
 |.fmap es,AC b=>ro b/\ ∃l clock,w.heap[b]?=AC (.map l clock)/\ER ro [] w es l.toList/\
   (∀e∈l.toList,e.born<clock)/\(l.toList.map (·.born)).Nodup/\(l.toList.map (·.key)).Nodup
 |_,AF=>False
structure Nl (ro:Nat->Prop) (w:AJ):Prop where
 lt:∀b,ro b->b<w.heap.size
 g:∀b,b<nG->ro b
 gp:GP w
theorem Nl.to(h:Nl ro w)(sub:∀b,ro b->ro' b)(keep:∀b,ro b->w'.heap[b]?=w.heap[b]?)(lt:∀b,ro' b->b<w'.heap.size):Nl ro' w':=
 ⟨lt,λb hb=>sub b (h.g b hb),h.gp.keep λb hb=>keep b (h.g b hb)⟩
structure pB (fr ro:Nat->Prop) (σ:Ce) (H:Qc) (w:AJ) (i0 b0 c:Nat):Prop where
 lt:c<w.heap.size
 ro:¬ro c
 fr:¬fr c
 ne:∀(j b:Nat) (y:CW),σ[j]?=AC (AC b)->H[j]?=AC y->y.live=AE->c≠b
 one:∀(j b:Nat) (y:CW),σ[j]?=AC (AC b)->H[j]?=AC y->Dq w y b c->b=b0/\j=i0
structure CZ (fr ro:Nat->Prop) (σ:Ce) (H:Qc) (w:AJ):Prop where
 len:σ.length=H.length
 roOk:Nl ro w
 frLt:∀b,fr b->b<w.heap.size
 roFr:∀b,ro b->¬fr b
 own:∀(i b:Nat) (blk:CW),σ[i]?=AC (AC b)->H[i]?=AC blk->blk.live=AE->b<w.heap.size/\ ¬ro b/\ ¬fr b
 inj:∀(i j b:Nat) (x y:CW),σ[i]?=AC (AC b)->σ[j]?=AC (AC b)->H[i]?=AC x->H[j]?=AC y->x.live=AE->y.live=AE->i=j
 blk:∀(i:Nat) (s:Option Nat) (x:CW),σ[i]?=AC s->H[i]?=AC x->BR ro σ w x s
 hid:∀(i b:Nat) (x:CW) (c:Nat),σ[i]?=AC (AC b)->H[i]?=AC x->Dq w x b c->pB fr ro σ H w i b c
variable {fr:Nat->Prop}
theorem CZ.roHeld{H:Qc}(s:CZ fr ro σ H w){i b:Nat}{x:CW}(f:σ[i]?=AC (AC b))(g:H[i]?=AC x)(d:x.held=AE):ro b:=by
 have h:=s.blk i _ x f g;cases x with
 |mapO fz t k j=>exact h.1 d
 |_=>cases d
theorem CZ.hidKeep{H:Qc}(s:CZ fr ro σ H w){i b c:Nat}{x:CW}(f:σ[i]?=AC (AC b))(j:H[i]?=AC x)
  (g:x.live=AE->w'.heap[b]?=w.heap[b]?)(m:∀b,ro b->w'.heap[b]?=w.heap[b]?)(q:Dq w' x b c):Dq w x b c:=by
 refine q.keep ?_;have h:=q.holds;cases d:x.live with
 |true=>exact g d
 |false=>unfold CW.holds at h;rw[d]at h;exact m b (s.roHeld f j h)
variable {H':Qc}{fr':Nat->Prop}
theorem CZ.hidTo{σ':Ce}{H:Qc}(s:CZ fr ro σ H w)(R:Nat->Nat->Prop)(hR:∀j j' m,R j m->R j' m->j=j')(L:w.heap.size<=w'.heap.size)
  (T:∀(i b:Nat) (x:CW) (c:Nat),σ[i]?=AC (AC b)->H[i]?=AC x->Dq w x b c->ro' c->ro c)
  (P:∀(i b:Nat) (x:CW) (c:Nat),σ[i]?=AC (AC b)->H[i]?=AC x->Dq w x b c->fr' c->fr c)
  (h:∀(j d:Nat) (y:CW),σ'[j]?=AC (AC d)->H'[j]?=AC y->y.holds=AE->
   (∃(m:Nat) (B:CW),R j m/\σ[m]?=AC (AC d)/\H[m]?=AC B/\(y.live=AE->B.live=AE)/\ ∀c,Dq w' y d c->Dq w B d c)\/(w.heap.size<=d/\ ∀c,Dq w' y d c->False)):
  ∀(i b:Nat) (x:CW) (c:Nat),σ'[i]?=AC (AC b)->H'[i]?=AC x->Dq w' x b c->pB fr' ro' σ' H' w' i b c:=by
 intro i b x c W Q N;rcases h i b x W Q N.holds with⟨m,B,r0,Y,V,g3,X⟩|⟨_,g⟩
 .have k:=s.hid m b B c Y V (X c N);refine⟨Vf k.lt L,λq=>k.ro gq,λq=>k.fr gq,λj d y J F t=>?_,λj d y J F t=>?_⟩
  .rcases h j d y J F (io t)with⟨E,y1,_,G,M,O,_⟩|⟨f,_⟩
   .exact k.ne E d y1 G M (O t)
   .exact λe=>by have:=k.lt;omega
  .rcases h j d y J F t.holds with⟨E,y1,r1,G,M,O,f4⟩|⟨_,f⟩
   .obtain⟨e1,e2⟩:=k.one E d y1 G M (f4 c t)
    grind
   grind
 grind
theorem Yq(j j' j0:Nat)(h:j=j0)(h':j'=j0):j=j':=h.trans h'.symm
theorem CZ.roLt{H:Qc}(s:CZ fr ro σ H w):∀b,ro b->b<w.heap.size:=s.roOk.lt
structure Ql (fr ro:Nat->Prop) (w:AJ) (ro':Nat->Prop) (w':AJ):Prop where
 sub:∀b,ro b->ro' b
 keepRo:∀b,ro b->w'.heap[b]?=w.heap[b]?
 keepFr:∀b,fr b->w'.heap[b]?=w.heap[b]?
 size:w.heap.size<=w'.heap.size
 shape:∀b x,w.shape? b=AC x->w'.shape? b=AC x
 os:w'.os=w.os
 tape:w'.tape=w.tape
 output:w'.output=w.output
 drawn:w.drawn<=w'.drawn
theorem Ql.refl(fr ro:Nat->Prop)(w:AJ):Ql fr ro w ro w:=
 ⟨λ_ h=>h,λ_ _=>rfl,λ_ _=>rfl,XS _,λ_ _ h=>h,rfl,rfl,rfl,XS _⟩
theorem Ql.trans{fr ro ro1 ro2:Nat->Prop}{w w1 w2:AJ}(h:Ql fr ro w ro1 w1)(k:Ql fr ro1 w1 ro2 w2):Ql fr ro w ro2 w2:=
 ⟨λb q=>k.sub _ (h.sub _ q),λb q=>(k.keepRo _ (h.sub _ q)).trans (h.keepRo _ q),λb q=>(k.keepFr _ q).trans (h.keepFr _ q),
  XU h.size k.size,λb x q=>k.shape _ _ (h.shape _ _ q),k.os.trans h.os,k.tape.trans h.tape,k.output.trans h.output,XU h.drawn k.drawn⟩
variable {τ:Ce}
theorem ik{i b:Nat}(h:σ[i]?=AC (AC b)):(σ++τ)[i]?=AC (AC b):=by
 grind
theorem Ql.ext(h:Ql fr ro w ro' w')(σ τ:Ce):DR ro σ w ro' (σ++τ) w':=
 ⟨h.sub,h.keepRo,h.shape,λ_ _=>ik⟩
theorem Ql.ext0(h:Ql fr ro w ro' w')(σ:Ce):DR ro σ w ro' σ w':=
 ⟨h.sub,h.keepRo,h.shape,λ_ _ q=>q⟩
theorem ER.mono{ro ro':Nat->Prop}{σ σ':Ce}{w w':AJ}(h:DR ro σ w ro' σ' w'):∀{es:AA (A×A)} {l:AA MapEntry},ER ro σ w es l->ER ro' σ' w' es l
 |[],_,q=>q
 |x::r,l,q=>by
  simp only[ER]at q⊢;obtain⟨e,l',h1,h2,h3,h4⟩:=q;exact⟨e,l',h1,h2.mono h,h3.mono h,ER.mono h h4⟩
theorem ee.keep{ro ro':Nat->Prop}{σ σ':Ce}{w w':AJ}(h:DR ro σ w ro' σ' w'){b:Nat}(P:w'.heap[b]?=w.heap[b]?){f:AB (A×A)}{es:AA (A×A)}
  (q:ee ro w b f es):ee ro' w' b f es:=by
 rcases q with⟨t,j,y⟩|⟨m,l,d,g,left,t,j,y,G,L,B,J,E⟩
 .exact .inl ⟨t,j,gq⟩
 .refine .inr ⟨m,l,d,g,left,gq,h.sub _ j,by rw[h.keep _ j];exact y,G,L,B,J.mono h.nil,λx O=>?_⟩;obtain⟨e,F,H,N,M⟩:=E x O;exact⟨e,F,H,N.mono h.nil,M.mono h.nil⟩
theorem CR.keep{ro ro':Nat->Prop}{σ σ':Ce}{w w':AJ}(h:DR ro σ w ro' σ' w'){b:Nat}(hb:w'.heap[b]?=w.heap[b]?):
  ∀{cs:AA A} {off:Nat},CR ro σ w b cs off->CR ro' σ' w' b cs off
 |[],_,_=>trivial
 |a::r,off,q=>by
  simp only[CR]at q⊢;obtain⟨⟨v,h1,hp,h2⟩,h3⟩:=q;exact⟨⟨v,by rw[tt hb];exact h1,hp,h2.mono h⟩,CR.keep h hb h3⟩
theorem RR.keep{ro ro':Nat->Prop}{σ σ':Ce}{w w':AJ}(h:DR ro σ w ro' σ' w'){b:Nat}(hb:w'.heap[b]?=w.heap[b]?){k:Nat}:
  ∀{es:AA (AA A)} {off:Nat},RR ro σ w b k es off->RR ro' σ' w' b k es off
 |[],_,_=>trivial
 |cs::r,off,q=>by
  simp only[RR]at q⊢;obtain⟨h1,h2,h3⟩:=q;exact⟨h1,CR.keep h hb h2,RR.keep h hb h3⟩
theorem BR.keep{ro ro':Nat->Prop}{σ σ':Ce}{w w':AJ}(h:DR ro σ w ro' σ' w'){x:CW}{s:AB Nat}
  (m:∀b,s=AC b->x.live=AE->w'.heap[b]?=w.heap[b]?)(q:BR ro σ w x s)(G:∀b c,s=AC b->Dq w x b c->w'.heap[c]?=w.heap[c]?):BR ro' σ' w' x s:=by
 cases x with
 |mapO fz t k y=>
  cases s with
  |none=>exact q
  |some b=>
   obtain⟨B,l,c,f,g,j⟩:=q;refine⟨λz=>h.sub b (B z),l,c,?_,g.mono h (λd E=>G b d rfl ⟨l,c,f,E⟩),j⟩;cases fz with
   |false=>rw[m b rfl rfl];exact f
   |true=>rw[h.keep b (B rfl)];exact f
 |dead=>trivial
 |cells t J=>
  cases s with
  |none=>exact q
  |some b=>
   obtain⟨l,f,g,j⟩:=q;exact⟨l,by rw[m b rfl rfl];exact f,g.mono h,j⟩
 |row t k y=>
  cases s with
  |none=>exact q
  |some b=>
   obtain⟨l,f,g⟩:=q;exact⟨l,by rw[m b rfl rfl];exact f,g.mono h.nil⟩
 |rowr t k y=>
  cases s with
  |none=>exact q.elim
  |some b=>
   obtain⟨l,f,g⟩:=q;exact⟨l,by rw[m b rfl rfl];exact f,g.mono h⟩
 |wins t b n c=>
  cases s with
  |none=>exact q
  |some d=>
   obtain⟨l,f,g⟩:=q;exact⟨l,by rw[m d rfl rfl];exact f,g.mono h⟩
 |ents t H L y=>
  cases s with
  |none=>exact q
  |some b=>
   obtain⟨l,f,g⟩:=q;exact⟨l,by rw[m b rfl rfl];exact f,g.mono h⟩
 |map y=>
  cases s with
  |none=>exact q
  |some b=>
   obtain⟨l,c,f,g,j⟩:=q;exact⟨l,c,by rw[m b rfl rfl];exact f,g.mono h.nil,j⟩
 |mapP y=>
  cases s with
  |none=>exact q
  |some b=>
   obtain⟨l,c,f,g,j⟩:=q;exact⟨l,c,by rw[m b rfl rfl];exact f,g.mono h,j⟩
 |frow t k y=>
  cases s with
  |none=>exact q
  |some b=>
   obtain⟨B,l,f,g,j⟩:=q;exact⟨h.sub b B,l,by rw[h.keep b B];exact f,g.mono h.nil,j⟩
 |iter F y=>
  cases s with
  |none=>exact q
  |some b=>exact ee.keep h (m b rfl rfl) q
 |fmap y=>
  cases s with
  |none=>exact q
  |some b=>
   obtain⟨B,l,c,f,g,j⟩:=q;exact⟨h.sub b B,l,c,by rw[h.keep b B];exact f,g.mono h.nil,j⟩
abbrev Env:=AA (Nat×A)
def lk:Env->Nat->A
 |[],_=>.any
 |(d,a)::r,s=>bif Nat.beq s d then a else lk r s
abbrev up(env:Env)(d:Nat)(a:A):Env:=(d,a)::env
inductive LZ where
 |normal|exit (id:Nat)|ret
abbrev Qy:=LZ->Env->Qc->Prop
def H?(fr:Nat->Prop)(w:AJ)(d:Deferred):Prop:=∃D,d={target:=.collected D,args:= #[]}/\fr D/\w.heap[D]?=AC (.deferred (AC []))
def gJ(d:Deferred):Prop:=∃fv cap,d={target:=.fn fv cap,args:= #[]}
def Iq(fr:Nat->Prop)(ds:AA Deferred)(w:AJ):Prop:=ds.Nodup/\ ∀d∈ds,H? fr w d\/gJ d
theorem Iq.mark{d:AA Deferred}(h:Iq fr d w){D:Nat}(m:({target:=.collected D,args:= #[]}:Deferred)∈d):fr D/\w.heap[D]?=AC (.deferred (AC [])):=by
 rcases h.2 _ m with⟨D',e,g,j⟩|⟨f,c,e⟩
 .have:D=D':=by simpa using e
  subst this;exact⟨g,j⟩
 .simp at e
theorem Iq.to{f:AA Deferred}(h:Iq fr f w)(k:∀D,({target:=.collected D,args:= #[]}:Deferred)∈f->fr D->w.heap[D]?=AC (.deferred (AC []))->fr' D/\w'.heap[D]?=AC (.deferred (AC []))):Iq fr' f w':=by
 refine⟨h.1,λd g=>?_⟩;rcases h.2 d g with⟨D,j,x,y⟩|q
 .obtain⟨m,t⟩:=k D (j▸g) x y;exact .inl ⟨D,j,m,t⟩
 .exact .inr q
variable {ds:AA Deferred}
theorem Iq.keep(h:Iq fr ds w)(k:Ql fr ro w ro' w'):Iq fr ds w':=
 h.to λD _ h2 h3=>⟨h2,(k.keepFr D h2).trans h3⟩
structure C_ (fr:Nat->Prop) (w:AJ) (ds:List Deferred) (fr':Nat->Prop) (ds':List Deferred):Prop where
 sub:∀b,fr b->fr' b
 new:∀b,fr' b->fr b\/w.heap.size<=b
 kd:∀d∈ds,d∈ds'
 ds:∀d∈ds',d∈ds\/ ∃D,d={target:=.collected D,args:= #[]}/\w.heap.size<=D
theorem C_.refl(fr:Nat->Prop)(w:AJ)(ds:AA Deferred):C_ fr w ds fr ds:=⟨λ_ h=>h,λ_ h=>.inl h,λ_ h=>h,λ_ h=>.inl h⟩
theorem C_.trans{f m:Nat->Prop}{t:AJ}{g j:AA Deferred}(h:C_ fr w ds f g)(y:w.heap.size<=t.heap.size)(k:C_ f t g m j):C_ fr w ds m j:=by
 refine⟨λb q=>k.sub b (h.sub b q),λb q=>?_,λd q=>k.kd d (h.kd d q),λd q=>?_⟩
 .rcases k.new b q with q|q
  .exact h.new b q
  omega
 .rcases k.ds d q with q|⟨D,x,B⟩
  .exact h.ds d q
  grind
theorem Ql.frMono(h:Ql fr' ro w ro' w')(s:∀b,fr b->fr' b):Ql fr ro w ro' w':=
 ⟨h.sub,h.keepRo,λb q=>h.keepFr b (s b q),h.size,h.shape,h.os,h.tape,h.output,h.drawn⟩
theorem CZ.frMono{H:Qc}(h:CZ fr' ro σ H w)(s:∀b,fr b->fr' b):CZ fr ro σ H w:=
 ⟨h.len,h.roOk,λb q=>h.frLt b (s b q),λb q r=>h.roFr b q (s b r),λi b x q1 q2 q3=>let⟨a,b',c⟩:=h.own i b x q1 q2 q3;gq,h.inj,h.blk,λi b x c q1 q2 q3=>let k:=h.hid i b x c q1 q2 q3;⟨k.lt,k.ro,λq=>k.fr (s c q),k.ne,k.one⟩⟩
structure DN (fr ro:Nat->Prop) (σ:Ce) (H:Qc) (env:Env) (N:Nat) (a:Act) (w:AJ):Prop where
 sim:CZ fr ro σ H w
 env:∀s,VR ro σ w (lk env s) (a.tmps.getD s undef)
 size:a.tmps.size=N
 defers:Iq fr a.defers w
def KP(rd:AB Nat)(fr:Nat->Prop)(w:AJ):Prop:=∀l,rd=AC l->fr l/\ ∃r,w.heap[l]?=AC (.loop r)
theorem Zx:KP AF fr w:=λl e=>by cases e
variable {rd:AB Nat}
theorem KP.to(h:KP rd fr w)(k:Ql fr ro w ro' w')(s:∀b,fr b->fr' b):KP rd fr' w':=λl e=>by
 obtain⟨h1,r,h2⟩:=h l e;exact⟨s l h1,r,(k.keepFr l h1).trans h2⟩
def Rq:Exit->LZ->Prop
 |.normal,x=>x=.normal
 |.exit id,x=>x=.exit id
 |.ret,x=>x=.ret
 |_,_=>False
def H9(h0:Nat)(fr ro:Nat->Prop)(σ:Ce)(w:AJ)(N:Nat)(ds:AA Deferred)(Q:Qy):Exit->Act->AJ->Prop:=
 λe a' w'=>∃x env' H' ro' σ' fr',Rq e x/\Q x env' H'/\DN fr' ro' σ' H' env' N a' w'/\Ql fr ro w ro' w'/\σ'.take h0=σ.take h0/\C_ fr w ds fr' a'.defers
variable {N m:Nat}{a':Act}{σ1:Ce}
theorem H9.grow{d j:Nat->Prop}{y:AJ}{B f:AA Deferred}{Q:Qy}{e:Exit}
  (h:H9 m d j σ1 y N f Q e a' w')(he:Ql fr ro w j y)(M:σ1.take m=σ.take m)(hg:C_ fr w B d f):H9 m fr ro σ w N B Q e a' w':=by
 obtain⟨x,g,H',q,σ',t,H,F,L,G,J,E⟩:=h;exact⟨x,g,H',q,σ',t,H,F,L,he.trans (G.frMono hg.sub),J.trans M,hg.trans he.size E⟩
variable {h0:Nat}
theorem H9.step{ro1:Nat->Prop}{w1:AJ}{Q:Qy}{e:Exit}
  (h:H9 h0 fr ro1 σ1 w1 N ds Q e a' w')(he:Ql fr ro w ro1 w1)(hs:σ1.take h0=σ.take h0):H9 h0 fr ro σ w N ds Q e a' w':=h.grow he hs (C_.refl _ _ _)
theorem H9.mono{j:AA Deferred}{Q Q':Qy}{e:Exit}
  (h:H9 m fr ro σ w N j Q e a' w')(q:∀x env H,Q x env H->Q' x env H):H9 m fr ro σ w N j Q' e a' w':=by
 obtain⟨x,d,H',f,σ',g,y,t,B⟩:=h;exact⟨x,d,H',f,σ',g,y,q _ _ _ t,B⟩
def IM(h0:Nat)(fr ro:Nat->Prop)(σ:Ce)(w:AJ)(N:Nat)(ds:AA Deferred)(Q:Qy):Exit->Act->AJ->Prop:=
 λe a' w'=>∃x env' H' ro' σ' fr',Rq e x/\Q x env' H'/\DN fr' ro' σ' H' env' N a' w'/\Ql fr ro w ro' w'/\σ'.take h0=σ.take h0/\a'.defers=ds/\C_ fr w ds fr' ds
theorem IM.grow{d g:Nat->Prop}{y:AJ}{j:AA Deferred}{Q:Qy}{e:Exit}
  (h:IM m d g σ1 y N j Q e a' w')(he:Ql fr ro w g y)(M:σ1.take m=σ.take m)(hg:C_ fr w j d j):IM m fr ro σ w N j Q e a' w':=by
 obtain⟨x,f,H',q,σ',t,G,E,L,F,H,B,J⟩:=h;exact⟨x,f,H',q,σ',t,G,E,L,he.trans (F.frMono hg.sub),H.trans M,B,hg.trans he.size J⟩
theorem IM.step{ro1:Nat->Prop}{w1:AJ}{Q:Qy}{e:Exit}
  (h:IM h0 fr ro1 σ1 w1 N ds Q e a' w')(he:Ql fr ro w ro1 w1)(hs:σ1.take h0=σ.take h0):IM h0 fr ro σ w N ds Q e a' w':=h.grow he hs (C_.refl _ _ _)
theorem IM.mono{j:AA Deferred}{Q Q':Qy}{e:Exit}
  (h:IM m fr ro σ w N j Q e a' w')(q:∀x env H,Q x env H->Q' x env H):IM m fr ro σ w N j Q' e a' w':=by
 obtain⟨x,d,H',f,σ',g,y,t,B⟩:=h;exact⟨x,d,H',f,σ',g,y,q _ _ _ t,B⟩
theorem IM.postW{j:AA Deferred}{Q:Qy}{e:Exit}
  (h:IM m fr ro σ w N j Q e a' w'):H9 m fr ro σ w N j Q e a' w':=by
 obtain⟨x,d,H',f,σ',g,y,q,E,t,B,F,G⟩:=h;exact⟨x,d,H',f,σ',g,y,q,E,t,B,gq⟩
def WF(rd:AB Nat):Fence:={Fence.wide with round:=rd}
variable {P:AK}{f:FuncId}
theorem WF.calls{args:Array AL}{R:Ending->AJ->Prop}:CallsIn (WF rd) 0 P f args w R↔Calls P f args w R:=callsIn_wide
abbrev FD(P:AK)(rd:AB Nat)(ops:Array AM)(Q:Exit->Act->AJ->Prop):AA AM->Act->AJ->Prop:=wpListIn (WF rd) 0 P ops Q
def TC(P:AK)(h0 N:Nat)(c:Code)(env:Env)(H:Qc)(Q:Qy):Prop:=
 ∀rd fr ro σ a w,DN fr ro σ H env N a w->KP rd fr w->c.wpIn (WF rd) 0 P (H9 h0 fr ro σ w N a.defers Q) a w
def WO(P:AK)(h0 N:Nat)(all:Array AM)(l:AA AM)(env:Env)(H:Qc)(Q:Qy):Prop:=
 ∀rd fr ro σ a w,DN fr ro σ H env N a w->KP rd fr w->FD P rd all (IM h0 fr ro σ w N a.defers Q) l a w
def Le(h0:Nat)(env:Env)(H:Qc)(env':Env)(H':Qc):Prop:=
 ∀fr ro σ N a w,DN fr ro σ H env N a w->∃ro' σ',DN fr ro' σ' H' env' N a w/\(∀b,ro b->ro' b)/\σ'.take h0=σ.take h0
theorem Le.refl(h0:Nat)(env:Env)(H:Qc):Le h0 env H env H:=λfr ro σ N a w h=>gq
theorem Le.trans{d:Nat}{j m g:Env}{H1 H2 H3:Qc}(h:Le d j H1 m H2)(k:Le d m H2 g H3):Le d j H1 g H3:=by
 intro q t σ N a w r;obtain⟨f,σ1,x,H,F⟩:=h q t σ N a w r;obtain⟨y,σ2,B,G,E⟩:=k q f σ1 N a w x
 grind
theorem Yf(h:∀b,ro b->ro' b):Ql fr ro w ro' w:=
 ⟨h,λ_ _=>rfl,λ_ _=>rfl,XS _,λ_ _ h=>h,rfl,rfl,rfl,XS _⟩
theorem YH{P:AK}{rd:AB Nat}{ops:Array AM}{Q Q':Exit->Act->AJ->Prop}(hq:∀e a w,Q e a w->Q' e a w):
  ∀(l:AA AM) (a:Act) (w:AJ),FD P rd ops Q l a w->FD P rd ops Q' l a w
 |[],a,w,h=>hq _ _ _ h
 |o::l,a,w,h=>by
  unfold FD wpListIn at h⊢;split
  .rename_i hw;rw[Vs hw]at h;obtain⟨h1,h2⟩:=h;refine⟨h1,?_⟩
   revert h2
   generalize(o.semAt (WF rd).round a.eval).run P w=r;intro h2;have hk:=λa w=>YH (P:=P) (rd:=rd) (ops:=ops) hq l a w;cases r with
   |ok x w=>
    cases x with
    |value v=>exact hk _ _ h2
    |skip=>exact hk _ _ h2
    |defer d=>exact hk _ _ h2
    |enter f args=>
     refine⟨h2.1,CallsIn.mono h2.2 ?_⟩;intro e w' q;cases e with
     |returned v=>grind
     |panicked c=>grind
     |outgrown=>obtain⟨a,w,q⟩:=q;exact⟨a,w,hq _ _ _ q⟩
    |row r args=>exact⟨h2.1,RowsIn.mono h2.2 λv w' q=>hk _ _ q⟩
    |round l f tmps assign body=>
     refine⟨h2.1,RoundIn.mono h2.2 ?_⟩;intro e w' q;cases e with
     |returned v=>grind
     |panicked c=>grind
     |outgrown=>obtain⟨a,w,q⟩:=q;exact⟨a,w,hq _ _ _ q⟩
    |_=>exact h2
   |halt x w=>
    cases x with
    |panic v=>exact hq _ _ _ h2
    |_=>exact h2
  .rename_i hw;rw[Vr hw]at h;exact⟨h.1,YH hq l _ _ h.2⟩
theorem ig{o:AM}{a:Act}{x:Next}(h:(execOp a.eval o).run P w=.ok x w')(g:∀d,x≠ .defer d):(o.semAt (WF rd).round a.eval).run P w=.ok x w':=by
 cases e:o.op with
 |defer c=>
  have:execOp a.eval o=(do pure (.defer (<- resolve a.eval c o.type))):=by simp[execOp,e]
  rw[this]at h;simp[Vm]at h;generalize(resolve a.eval c o.type).run P w=r at h;cases r with
  |ok d f=>simp[go_sem]at h;grind
  |halt x f=>simp_all
 |_=>grind[Oper.semAt_eq]
variable {Q:Exit->Act->AJ->Prop}{ops:Array AM}
theorem JE{o:AM}{l:AA AM}{a:Act}{v:AL}(f:Region.wanted o (yielded ops a.tmps)=AE)
  (h:(execOp a.eval o).run P w=.ok (.value v) w')(k:FD P rd ops Q l (a.put o.dst v) w'):FD P rd ops Q (o::l) a w:=by
 unfold FD wpListIn;rw[Vs f];exact⟨λ_ _=>trivial,by rw[ig h (λd e=>by cases e)];exact k⟩
theorem Qnl{o:AM}{l:AA AM}{a:Act}(f:Region.wanted o (yielded ops a.tmps)=AE)
  (h:(execOp a.eval o).run P w=.ok .skip w')(k:FD P rd ops Q l (a.put o.dst undef) w'):FD P rd ops Q (o::l) a w:=by
 unfold FD wpListIn;rw[Vs f];exact⟨λ_ _=>trivial,by rw[ig h (λd e=>by cases e)];exact k⟩
theorem tB{o:AM}{l:AA AM}{a:Act}{args:Array AL}(g:Region.wanted o (yielded ops a.tmps)=AE)
  (h:(execOp a.eval o).run P w=.ok (.enter f args) w')(k:Calls P f args w' λe w''=>∃v,e=.returned v/\FD P rd ops Q l (a.put o.dst v) w''):FD P rd ops Q (o::l) a w:=by
 unfold FD wpListIn;rw[Vs g];refine⟨λ_ _=>trivial,?_⟩;rw[ig h (λd e=>by cases e)];refine⟨λh=>by simp[WF,Fence.wide]at h,WF.calls.2 (Calls.mono k ?_)⟩
 grind
variable {all:Array AM}
section
variable {P:AK} {h0 N:Nat} {env env':Env} {H H':Qc} {Q Q':Qy} {c c':Code}
theorem TC.mono(h:TC P h0 N c env H Q)(hq:∀x env H,Q x env H->Q' x env H):TC P h0 N c env H Q':=
 λrd fr ro σ a w r hrd=>Code.wpIn_mono (λe a w q=>q.mono hq) (h rd fr ro σ a w r hrd)
theorem TC.le(f:Le h0 env H env' H')(h:TC P h0 N c env' H' Q):TC P h0 N c env H Q:=by
 intro x g m σ a w r hrd;obtain⟨d,σ',j,s,t⟩:=f g m σ N a w r;exact Code.wpIn_mono (λe a w q=>q.step (Yf s) t) (h x g d σ' a w j hrd)
theorem WO.le{l:AA AM}(f:Le h0 env H env' H')(h:WO P h0 N all l env' H' Q):WO P h0 N all l env H Q:=by
 intro x g m σ a w r hrd;obtain⟨d,σ',j,s,t⟩:=f g m σ N a w r;exact YH (λe a w q=>q.step (Yf s) t) _ _ _ (h x g d σ' a w j hrd)
theorem WO.mono{all:Array AM}{l:AA AM}(h:WO P h0 N all l env H Q)(hq:∀x env H,Q x env H->Q' x env H):WO P h0 N all l env H Q':=
 λrd fr ro σ a w r hrd=>YH (λe a w q=>q.mono hq) _ _ _ (h rd fr ro σ a w r hrd)
def dG(P:AK)(h0 N:Nat)(c:Code)(Q:Qy):Qy
 |.normal,env,H=>TC P h0 N c env H Q
 |.exit id,env,H=>Q (.exit id) env H
 |.ret,env,H=>Q .ret env H
def P1(id:Nat)(Q:Qy):Qy
 |.normal,env,H=>Q .normal env H
 |.exit id',env,H=>bif Nat.beq id' id then Q .normal env H else Q (.exit id') env H
 |.ret,env,H=>Q .ret env H
theorem TC.seq(h:TC P h0 N c env H (dG P h0 N c' Q)):TC P h0 N (.seq c c') env H Q:=by
 intro F M L σ a w r hrd;refine wpIn_seq (Code.wpIn_mono ?_ (h F M L σ a w r hrd));rintro e J G ⟨x,d,H',f,σ',g,t,y,E,m,B,j⟩;cases e with
 |normal=>
  obtain rfl:x=.normal:=t;exact Code.wpIn_mono (λe a w q=>q.grow m B j) (y F g f σ' J G E (hrd.to m j.sub))
 |exit id=>
  obtain rfl:x=.exit id:=t;exact⟨_,d,H',f,σ',g,rfl,y,E,m,B,j⟩
 |ret=>
  obtain rfl:x=.ret:=t;exact⟨_,d,H',f,σ',g,rfl,y,E,m,B,j⟩
 |_=>exact t.elim
theorem TC.skip(h:Q .normal env H):TC P h0 N .skip env H Q:=
 λrd fr ro σ a w r hrd=>wpIn_skip ⟨_,env,H,ro,σ,fr,rfl,h,r,Ql.refl _ _ _,rfl,C_.refl _ _ _⟩
theorem TC.ret(h:Q .ret env H):TC P h0 N .ret env H Q:=
 λrd fr ro σ a w r hrd=>wpIn_ret ⟨_,env,H,ro,σ,fr,rfl,h,r,Ql.refl _ _ _,rfl,C_.refl _ _ _⟩
theorem TC.exit{id:Nat}(h:Q (.exit id) env H):TC P h0 N (.exit id) env H Q:=
 λrd fr ro σ a w r hrd=>wpIn_exit ⟨_,env,H,ro,σ,fr,rfl,h,r,Ql.refl _ _ _,rfl,C_.refl _ _ _⟩
theorem TC.block{id:Nat}(h:TC P h0 N c env H (P1 id Q)):TC P h0 N (.block id c) env H Q:=by
 intro G J F σ a w r hrd;refine wpIn_block (Code.wpIn_mono ?_ (h G J F σ a w r hrd));rintro e M L ⟨x,d,H',f,σ',g,y,j,E,t,B,q⟩;cases e with
 |normal=>
  obtain rfl:x=.normal:=y;exact⟨_,d,H',f,σ',g,rfl,j,E,t,B,q⟩
 |exit m=>
  obtain rfl:x=.exit m:=y;simp[Exit.inBlock];simp only[P1]at j;by_cases e:m=id
  .subst e;rw[Vs rfl];rw[VD]at j;exact⟨_,d,H',f,σ',g,rfl,j,E,t,B,q⟩
  .rw[Vr e];have:Nat.beq m id=false:=by
    simp_all[VL]
   rw[this]at j;exact⟨_,d,H',f,σ',g,rfl,j,E,t,B,q⟩
 |ret=>
  obtain rfl:x=.ret:=y;exact⟨_,d,H',f,σ',g,rfl,j,E,t,B,q⟩
 |_=>exact y.elim
def CP(env:Env):Operand->A
 |.tmp t=>lk env t
 |.const (.bool b)=>.bool b
 |.const (.int k n)=>.int k n
 |.const (.string s)=>.str s.data.toList
 |.const (.pointer AF)=>.nilp
 |.const (.slice AF 0 0)=>.nils
 |.const (.map AF)=>.nilm
 |.const .nilFunc=>.nilf
 |.const .nilIface=>.nilif
 |.func f=>.fn (.func f) [] []
 |_=>.any
theorem Qp{a:Act}(r:DN fr ro σ H env N a w)(x:Operand):VR ro σ w (CP env x) (a.eval x):=by
 cases x with
 |tmp t=>exact r.env t
 |const v=>
  cases v with
  |slice a n k=>
   cases a with
   |none=>
    cases n with
    |zero=>cases k with
     |zero=>rfl
     |succ k=>trivial
    |succ n=>trivial
   |some a=>trivial
  |pointer p=>cases p with
   |none=>rfl
   |some p=>trivial
  |map p=>cases p with
   |none=>rfl
   |some p=>trivial
  |string s=>rfl
  |_=>simp_all[CP,VR,Act.eval]
 |global g=>trivial
 |func f=>exact⟨[],[],rfl,rfl,rfl⟩
theorem TC.cond{x:Operand}{t:Bool}(q:CP env x=.bool t)(m:t=AE->TC P h0 N c env H Q)(j:t=AD->TC P h0 N c' env H Q):
  TC P h0 N (.cond x c c') env H Q:=by
 intro d h g σ a w r hrd;have f:=Qp r x;rw[q]at f;exact wpIn_cond_split f (λe=>m e d h g σ a w r hrd) (λe=>j e d h g σ a w r hrd)
theorem Qoy{t:Array AL}{d s:Nat}{v:AL}(f:d<t.size):(t.setIfInBounds d v).getD s undef=if s=d then v else t.getD s undef:=by
 simp[Array.getD_eq_getD_getElem?]
 grind
theorem VR.up{fr ro:Nat->Prop}{σ:Ce}{a:Act}{w:AJ}(r:∀s,VR ro σ w (lk env s) (a.tmps.getD s undef)){d:Nat}(f:d<a.tmps.size){x:A}{v:AL}(g:VR ro σ w x v):
  ∀s,VR ro σ w (lk (up env d x) s) ((a.tmps.setIfInBounds d v).getD s undef):=by
 intro s;rw[Qoy f];simp only[lk];by_cases e:s=d
 .simp_all
 .have:Nat.beq s d=false:=by
   simp_all[VL]
  grind
def Qz(all:Array AM)(o:AM)(env:Env)(b:Bool):Prop:=
 match o.guard with
 |none=>b=AE
 |some (j,c)=>∃d,(all[j]?).bind (·.dst)=AC d/\((∃x,lk env d=.bool x/\b=(x==c))\/(lk env d=.tup []/\b=AD))
theorem YV{o:AM}{b:Bool}(h:Qz all o env b){a:Act}(r:DN fr ro σ H env N a w):
  Region.wanted o (yielded all a.tmps)=b:=by
 unfold Qz at h;unfold Region.wanted;cases t:o.guard with
 |none=>grind
 |some g=>
  rw[t]at h;obtain⟨d,m,⟨x,j,q⟩|⟨j,q⟩⟩:=h
  .have f:=r.env d;rw[j]at f;simp only[VR]at f;have y:a.tmps[d]?=AC (.bool x):=by
    rw[Array.getD_eq_getD_getElem?]at f
    grind[undef]
   simp_all[yielded]
  .have f:=r.env d;rw[j]at f;obtain⟨l,f,B⟩:=f;rw[Array.getD_eq_getD_getElem?]at f;simp[yielded,m]
   grind
def CS(P:AK)(o:AM)(env:Env)(H:Qc)(x:A):Prop:=
 ∀fr ro σ N a w,DN fr ro σ H env N a w->∃v,(execOp a.eval o).run P w=.ok (.value v) w/\VR ro σ w x v
def E_(P:AK)(o:AM)(env:Env)(H:Qc)(x:A)(H':Qc):Prop:=
 ∀fr ro σ N a w,DN fr ro σ H env N a w->∃v w' ro' τ,(execOp a.eval o).run P w=.ok (.value v) w'/\VR ro' (σ++τ) w' x v/\
  CZ fr ro' (σ++τ) H' w'/\Ql fr ro w ro' w'
def I6(P:AK)(o:AM)(env:Env)(H:Qc)(H':Qc):Prop:=
 ∀fr ro σ N a w,DN fr ro σ H env N a w->∃w' ro' τ,(execOp a.eval o).run P w=.ok .skip w'/\
  CZ fr ro' (σ++τ) H' w'/\Ql fr ro w ro' w'
theorem WO.nil(h:Q .normal env H):WO P h0 N all [] env H Q:=
 λrd fr ro σ a w r hrd=>⟨_,env,H,ro,σ,fr,rfl,h,r,Ql.refl _ _ _,rfl,rfl,C_.refl _ _ _⟩
theorem QT{d:Nat}(h:d<=σ.length):(σ++τ).take d=σ.take d:=by
 grind
theorem Zc{o:AM}{l:AA AM}{d:Nat}{x:A}(F:h0<=H.length)(hg:Qz all o env AE)(t:o.dst=AC d)(M:Nat.blt d N=AE)
  (j:E_ P o env H x H')(k:WO P h0 N all l (up env d x) H' Q):WO P h0 N all (o::l) env H Q:=by
 intro L fr E σ a w r hrd;obtain⟨v,m,f,τ,G,B,J,g⟩:=j fr E σ N a w r;refine JE (YV hg r) G ?_;simp[t];have h:d<N:=by simp_all
 have y:DN fr f (σ++τ) H' (up env d x) N {a with tmps:=a.tmps.setIfInBounds d v} m:=
  ⟨J,VR.up (fr:=fr) (λs=>(r.env s).mono (g.ext σ τ)) (by rw[r.size];exact h) B,by simpa using r.size,r.defers.keep g⟩
 refine YH (λe a w q=>q.step g (QT ?_)) _ _ _ (k L fr f (σ++τ) _ m y (hrd.to g λ_ q=>q));rw[r.sim.len];exact F
theorem Yr{o:AM}{l:AA AM}{d:Nat}{x:A}(hg:Qz all o env AE)(j:o.dst=AC d)(y:Nat.blt d N=AE)
  (g:CS P o env H x)(k:WO P h0 N all l (up env d x) H Q):WO P h0 N all (o::l) env H Q:=by
 intro t fr h σ a w r hrd;obtain⟨v,q,m⟩:=g fr h σ N a w r;refine JE (YV hg r) q ?_;simp[j];have f:d<N:=by simp_all
 exact k t fr h σ {a with tmps:=a.tmps.setIfInBounds d v} w ⟨r.sim,VR.up (fr:=fr) r.env (by rw[r.size];exact f) m,by simpa using r.size,r.defers⟩ hrd
theorem kj{o:AM}{l:AA AM}(y:h0<=H.length)(hg:Qz all o env AE)(m:o.dst=AF)
  (g:I6 P o env H H')(k:WO P h0 N all l env H' Q):WO P h0 N all (o::l) env H Q:=by
 intro F h x σ a w r hrd;obtain⟨j,d,τ,B,E,f⟩:=g h x σ N a w r;refine Qnl (YV hg r) B ?_;simp[m];have t:DN h d (σ++τ) H' env N a j:=⟨E,λs=>(r.env s).mono (f.ext σ τ),r.size,r.defers.keep f⟩;refine YH (λe a w q=>q.step f (QT ?_)) _ _ _ (k F h d (σ++τ) _ j t (hrd.to f λ_ q=>q));rw[r.sim.len];exact y
theorem J?{o:AM}{l:AA AM}{x:A}(B:h0<=H.length)(hg:Qz all o env AE)(m:o.dst=AF)
  (g:E_ P o env H x H')(k:WO P h0 N all l env H' Q):WO P h0 N all (o::l) env H Q:=by
 intro G h y σ a w r hrd;obtain⟨v,j,d,τ,E,J,F,f⟩:=g h y σ N a w r;refine JE (YV hg r) E ?_;simp[m];have t:DN h d (σ++τ) H' env N a j:=⟨F,λs=>(r.env s).mono (f.ext σ τ),r.size,r.defers.keep f⟩;refine YH (λe a w q=>q.step f (QT ?_)) _ _ _ (k G h d (σ++τ) _ j t (hrd.to f λ_ q=>q));rw[r.sim.len];exact B
theorem WO.skip{o:AM}{l:AA AM}{d:Nat}(hg:Qz all o env AD)(g:o.dst=AC d)(m:Nat.blt d N=AE)
  (k:WO P h0 N all l (up env d (.tup [])) H Q):WO P h0 N all (o::l) env H Q:=by
 intro h fr j σ a w r hrd;unfold FD wpListIn;rw[YV hg r,Vr sq];refine⟨λ_ _=>trivial,?_⟩;simp[g];have f:d<N:=by simp_all
 exact k h fr j σ {a with tmps:=a.tmps.setIfInBounds d undef} w ⟨r.sim,VR.up (fr:=fr) r.env (by rw[r.size];exact f) ⟨[],rfl,rfl⟩,by simpa using r.size,r.defers⟩ hrd
theorem TC.region{id:Nat}{l:AA AM}(h:WO P h0 N l.toArray l env H Q):TC P h0 N (.region id l.toArray AD) env H Q:=
 λrd fr ro σ a w r hrd=>Code.wpIn_mono (λe a w q=>q.postW) (wpIn_region_lit (h rd fr ro σ a w r hrd))
end
mutual
def Y0(ρ:Nat->Nat):A->A
 |.ptr i off=>.ptr (ρ i) off
 |.osl i o n k=>.osl (ρ i) o n k
 |.agg cs=>.agg (JJ ρ cs)
 |.fn f a c=>.fn f (JJ ρ a) (JJ ρ c)
 |.iface t v=>.iface t (Y0 ρ v)
 |.map i=>.map (ρ i)
 |.tup vs=>.tup (JJ ρ vs)
 |a=>a
def JJ(ρ:Nat->Nat):AA A->AA A
 |[]=>[]
 |a::r=>Y0 ρ a::JJ ρ r
end
def LQ(ρ:Nat->Nat):AA (AA A)->AA (AA A)
 |[]=>[]
 |a::r=>JJ ρ a::LQ ρ r
def NU(ρ:Nat->Nat):AA (A×A)->AA (A×A)
 |[]=>[]
 |a::r=>(Y0 ρ a.1,Y0 ρ a.2)::NU ρ r
def Q1(ρ:Nat->Nat):CW->CW
 |.cells t cs=>.cells t (JJ ρ cs)
 |.rowr t k es=>.rowr t k (LQ ρ es)
 |.ents t b1 b2 es=>.ents t (ρ b1) (ρ b2) es
 |.wins t b n c=>.wins t (ρ b) n c
 |.mapP es=>.mapP (NU ρ es)
 |b=>b
theorem tX(ρ:Nat->Nat)(b1 b2:Nat):∀(es:AA fq),LQ ρ (es.map (eC b1 b2))=es.map (eC (ρ b1) (ρ b2))
 |[]=>rfl
 |e::es=>by
  have:=tX ρ b1 b2 es;simp only[Vj,LQ,this];congr 1;cases h:e.fl<;>simp[eC,JJ,Y0,h]
theorem Qma(ρ:Nat->Nat)(b n c:Nat):LQ ρ (NM b n c)=NM (ρ b) n c:=by
 unfold NM
 induction List.range c with
 |nil=>rfl
 |cons j l d=>simp only[Vj,LQ,d];rfl
theorem QX(ρ:Nat->Nat)(x:CW):(Q1 ρ x).live=x.live:=by cases x<;>rfl
theorem Ri(ρ:Nat->Nat)(x:CW)(w:AJ)(b c:Nat):Dq w (Q1 ρ x) b c↔Dq w x b c:=by cases x<;>exact Iff.rfl
section
variable {ro:Nat->Prop} {σ σ':Ce} {w:AJ} {ρ:Nat->Nat} (h:∀i:Nat,σ[ρ i]?=σ'[i]?)
include h
mutual
theorem Zb:∀{a:A} {v:AL},VR ro σ w (Y0 ρ a) v↔VR ro σ' w a v
 |.any,_=>by simp only[Y0,VR]
 |.bool b,v=>by simp only[Y0,VR]
 |.int k n,v=>by simp only[Y0,VR]
 |.str s,v=>by simp only[Y0,VR]
 |.nilp,v=>by simp only[Y0,VR]
 |.ptr i off,v=>by simp only[Y0,VR,h]
 |.rp cs,v=>by simp only[Y0,VR]
 |.nils,v=>by simp only[Y0,VR]
 |.rsl k es,v=>by simp only[Y0,VR]
 |.osl i o n k,v=>by simp only[Y0,VR,h]
 |.agg cs,v=>by simp only[Y0,VR];exact exists_congr λl=>and_congr_right λ_=>Nw
 |.fn f a c,v=>by simp only[Y0,VR];exact exists_congr λl=>exists_congr λl'=>and_congr_right λ_=>and_congr Nw Nw
 |.nilf,v=>by simp only[Y0,VR]
 |.iface t a,v=>by simp only[Y0,VR];exact exists_congr λl=>and_congr_right λ_=>Zb
 |.nilif,v=>by simp only[Y0,VR]
 |.map i,v=>by simp only[Y0,VR,h]
 |.nilm,v=>by simp only[Y0,VR]
 |.tup vs,v=>by simp only[Y0,VR];exact exists_congr λl=>and_congr_right λ_=>Nw
theorem Nw:∀{az:AA A} {l:AA AL},LR ro σ w (JJ ρ az) l↔LR ro σ' w az l
 |[],l=>by simp only[JJ,LR]
 |a::r,l=>by
  simp only[JJ,LR];exact exists_congr λv=>exists_congr λl'=>and_congr_right λ_=>and_congr Zb Nw
end
theorem ud:∀(cs:AA A),(JJ ρ cs).length=cs.length
 |[]=>rfl
 |a::r=>by simp[JJ,ud r]
theorem gv{k:Nat}:∀{es:AA (AA A)} {l:AA AL},RL ro σ w k (LQ ρ es) l↔RL ro σ' w k es l
 |[],l=>by rfl
 |a::r,l=>by
  simp only[LQ,RL,ud h];exact exists_congr λl1=>exists_congr λl2=>and_congr_right λ_=>and_congr_right λ_=>and_congr (and_congr_left λ_=>Nw h) gv
theorem pQ:∀{es:AA (A×A)} {l:AA MapEntry},ER ro σ w (NU ρ es) l↔ER ro σ' w es l
 |[],l=>by rfl
 |a::r,l=>by
  simp only[NU,ER];exact exists_congr λe=>exists_congr λl'=>and_congr_right λ_=>and_congr (Zb h) (and_congr (Zb h) pQ)
theorem gd{x:CW}{s:AB Nat}:BR ro σ w (Q1 ρ x) s↔BR ro σ' w x s:=by
 cases x with
 |cells t m=>
  cases s with
  |none=>exact Iff.rfl
  |some b=>simp only[Q1,BR];exact exists_congr λl=>and_congr_right λ_=>and_congr_left λ_=>Nw h
 |rowr t k f=>
  cases s with
  |none=>exact Iff.rfl
  |some b=>simp only[Q1,BR];exact exists_congr λl=>and_congr_right λ_=>gv h
 |mapP f=>
  cases s with
  |none=>exact Iff.rfl
  |some b=>simp only[Q1,BR];exact exists_congr λl=>exists_congr λc=>and_congr_right λ_=>and_congr_left λ_=>pQ h
 |wins t b n c=>
  cases s with
  |none=>exact Iff.rfl
  |some d=>
   simp only[Q1,BR];refine exists_congr λl=>and_congr_right λ_=>?_;rw[<- Qma];exact gv h
 |ents t j g f=>
  cases s with
  |none=>exact Iff.rfl
  |some b=>
   simp only[Q1,BR];refine exists_congr λl=>and_congr_right λ_=>?_;rw[<- tX];exact gv h
 |_=>cases s<;>exact Iff.rfl
end
def C(P:AK)(f:FuncId)(args:AA A)(H:Qc)(Q:A->Qc->Prop):Prop:=
 ∀fr ro σ vals w,CZ fr ro σ H w->LR ro σ w args vals->Calls P f vals.toArray w λe w'=>
  ∃v r H' ro' τ,e=.returned v/\Q r H'/\CZ fr ro' (σ++τ) H' w'/\VR ro' (σ++τ) w' r v/\Ql fr ro w ro' w'
theorem C.mono{P:AK}{f:FuncId}{args:AA A}{H:Qc}{Q Q':A->Qc->Prop}(h:C P f args H Q)(hq:∀r H,Q r H->Q' r H):C P f args H Q':=
 λfr ro σ vals w s l=>(h fr ro σ vals w s l).mono gq
def Kh:Nat->AA A->Env
 |_,[]=>[]
 |i,a::r=>(i,a)::Kh (i+1) r
theorem eJ{ro:Nat->Prop}{σ:Ce}{w:AJ}:∀{args:AA A} {vals:AA AL} {i:Nat} (pre:AA AL),pre.length=i->LR ro σ w args vals->∀rest:Array AL,
  ∀s,VR ro σ w (lk (Kh i args) s) (((pre++vals).toArray++rest).getD s undef)
 |[],vals,i,pre,hp,hl,rest,s=>trivial
 |a::r,vals,i,pre,hp,hl,rest,s=>by
  simp only[LR]at hl;obtain⟨v,l',rfl,h1,h2⟩:=hl;simp only[Kh,lk];by_cases e:s=i
  .simp_all[Array.getElem?_append]
  .have:Nat.beq s i=false:=by
    simp_all[VL]
   rw[this];have:=eJ (i:=i+1) (pre++[v]) (by simp[hp]) h2 rest s
   grind
def H7(P:AK)(fn:Func)(env:Env)(H:Qc)(r:A):Prop:=
 ∀fr ro σ N a w,DN fr ro σ H env N a w->∃v,(results fn a.tmps).run P w=.ok v w/\VR ro σ w r v
def Jc(P:AK)(h0:Nat)(fn:Func)(Q:A->Qc->Prop):Qy
 |.normal,env,H=>∃env' H' r,Le h0 env H env' H'/\H7 P fn env' H' r/\Q r H'
 |.ret,env,H=>∃env' H' r,Le h0 env H env' H'/\H7 P fn env' H' r/\Q r H'
 |.exit _,_,_=>False
theorem LR.length{ro:Nat->Prop}{σ:Ce}{w:AJ}:∀{az:AA A} {l:AA AL},LR ro σ w az l->l.length=az.length
 |[],l,h=>by simp only[LR]at h;simp[h]
 |a::r,l,h=>by
  simp only[LR]at h;obtain⟨v,l',rfl,_,h2⟩:=h;simp[h2.length]
theorem CZ.turn{H:Qc}(s:CZ fr ro σ H w){b:Nat}{obj:Obj}(N:¬ro b)(J:¬fr b)(Q:∀(i:Nat) (x:CW),σ[i]?=AC (AC b)->H[i]?=AC x->x.live=AE->False)
  (E:∀(i d:Nat) (x:CW),σ[i]?=AC (AC d)->H[i]?=AC x->Dq w x d b->False)
  (G:∀y,w.shape? b=AC y->(w.putObj b obj).shape? b=AC y):CZ fr ro σ H (w.putObj b obj)/\Ql fr ro w ro (w.putObj b obj):=by
 have F:∀c,c≠b->(w.putObj b obj).heap[c]?=w.heap[c]? :=λc M=>World.putObj_heap_other M;have g:(w.putObj b obj).heap.size=w.heap.size:=sq;have ev:Ql fr ro w ro (w.putObj b obj):=by
  refine⟨λ_ q=>q,gq,gq,om,λc x q=>?_,rfl,rfl,rfl,XS _⟩
  grind[World.shape?]
 have f:DR ro σ w ro σ (w.putObj b obj):=by have:=ev.ext σ [];grind
 refine⟨⟨s.len,s.roOk.to (λ_ q=>q) ev.keepRo (λc q=>by rw[g];exact s.roLt c q),λc q=>by rw[g];exact s.frLt c q,s.roFr,λi c x m h L=>?_,s.inj,λi y x m h=>?_,
  s.hidTo (· = ·) Yq om sq sq λj d y B t T=>.inl ⟨j,y,rfl,B,t,id,λc q=>s.hidKeep B t gq ev.keepRo q⟩⟩,ev⟩
 .obtain⟨P,R,O⟩:=s.own i c x m h L
  grind
 .refine(s.blk i y x m h).keep f ?_ ?_
  .grind
  grind
theorem JQ{P:AK}{fn:Func}{tmps:Array AL}{R:Ending->AJ->Prop}{fr ro:Nat->Prop}{σ:Ce}{H:Qc}:
  ∀(ds:AA Deferred) (w:AJ),ds.Nodup->(∀d∈ds,∃D,d={target:=.collected D,args:= #[]}/\ ¬ro D/\ ¬fr D/\(∀(i:Nat) (x:CW),σ[i]?=AC (AC D)->H[i]?=AC x->x.live=AE->False)/\(∀(i d:Nat) (x:CW),σ[i]?=AC (AC d)->H[i]?=AC x->Dq w x d D->False)/\w.heap[D]?=AC (.deferred (AC [])))->
  CZ fr ro σ H w->(∀w',CZ fr ro σ H w'->Ql fr ro w ro w'->∃v,(results fn tmps).run P w'=.ok v w'/\R (.returned v) w')->LeavesInM Fence.wide 0 P fn tmps R ds .returning w
 |[],w,_,_,s,hk=>by
  obtain⟨v,h1,h2⟩:=hk w s (Ql.refl _ _ _);exact⟨v,h1,h2⟩
 |d::ds,w,hn,hd,s,hk=>by
  obtain⟨D,rfl,h1,h2,h3,h5,h4⟩:=hd d sq;obtain⟨n1,n2⟩:=List.nodup_cons.1 hn;obtain⟨s',ev⟩:=s.turn (obj:=.deferred AF) h1 h2 h3 h5 (λy q=>by grind[World.shape?]);refine⟨sq,.inl ⟨D,_,rfl,run_takeDeferred h4,?_⟩⟩;refine JQ ds _ n2 (λd' q=>?_) s' (λw' q1 q2=>hk w' q1 (ev.trans q2));obtain⟨D',rfl,g1,g2,g3,g5,g4⟩:=hd d' (by simp[q]);refine⟨D',rfl,g1,g2,g3,λi d x z1 z2 z3=>g5 i d x z1 z2 (s.hidKeep z1 z2 (λz=>World.putObj_heap_other gq) (λb q=>World.putObj_heap_other (λe:b=D=>h1 (e▸q))) z3),(World.putObj_heap_other (λe=>?_)).trans g4⟩
  grind
variable {args:AA A}
theorem iY{fn:Func}{c:Code}{H:Qc}{Q:A->Qc->Prop}
  (hf:P.funcs[f]?=AC fn)(hb:fn.body=AC c)(hN:fn.ntmps=N)(hA:Nat.ble args.length N=AE)
  (h:TC P H.length N c (Kh 0 args) H (Jc P H.length fn Q)):C P f args H Q:=by
 intro fr ro σ vals w hs hl;have ab:=hl.length;have ac:args.length<=N:=by simp_all
 refine(callsIn_wide (n:=0)).1 (callsIn_of_wp_marks hf hb trivial (Code.wpIn_mono ?_ (h AF fr ro σ _ w ⟨hs,?_,?_,List.nodup_nil,λd y=>by cases y⟩ Zx)))
 .rintro e E t ⟨x,J,H1,W,σ1,M,L,O,h3,h4,h5,Y⟩;have F:(∃m H' r,Le H.length J H1 m H'/\H7 P fn m H' r/\Q r H')->LeavesInM Fence.wide 0 P fn E.tmps (λe t=>
    ∃v' r H' g τ,e=.returned v'/\Q r H'/\CZ fr g (σ++τ) H' t/\VR g (σ++τ) t r v'/\Ql fr ro w g t) E.defers .returning t:=by
   rintro⟨m,H',r,aa,hr,hq⟩;obtain⟨g,σ',j,G,ht⟩:=aa M W σ1 N E t h3;have hσ:σ'=σ++σ'.drop H.length:=by
    have e1:σ'.take H.length=σ:=by rw[ht,h5,VH (by rw[hs.len];omega)]
    grind[List.take_append_drop]
   have s1:CZ fr g σ' H' t:=j.sim.frMono Y.sub;refine JQ (ro:=g) (fr:=fr) (σ:=σ') (H:=H') E.defers t j.defers.1 (λd y=>?_) s1 (λw2 s2 B=>?_)
   .obtain⟨D,rfl,_⟩:=(Y.ds d y).resolve_left sq;obtain⟨X,g2⟩:=j.defers.mark y;refine⟨D,rfl,λq=>j.sim.roFr D q X,λq=>?_,λi x T q2 V=>(j.sim.own i D x T q2 V).2.2 X,λi d x T q2 V=>(j.sim.hid i d x D T q2 V).fr X,g2⟩;rcases Y.ds _ y with q'|⟨D',e,q'⟩
    .cases q'
    .have:D=D':=by simpa using e
     subst this;have:=hs.frLt D q;omega
   .have R:DN fr g σ' H' m N {E with defers:=[]} w2:=⟨s2,λs=>(j.env s).mono (by have:=B.ext σ' [];grind),j.size,List.nodup_nil,λd y=>by cases y⟩;obtain⟨v,e1,e2⟩:=hr fr g σ' N _ w2 R;exact⟨v,e1,v,r,H',g,σ'.drop H.length,rfl,hq,hσ▸s2,hσ▸e2,(h4.trans (Yf G)).trans B⟩
  cases e with
  |normal=>
   obtain rfl:x=.normal:=L;exact F O
  |ret=>
   obtain rfl:x=.ret:=L;exact F O
  |exit id=>
   obtain rfl:x=.exit id:=L;exact O.elim
  |_=>exact L.elim
 .intro s;have:=eJ (i:=0) [] rfl hl (Array.replicate (fn.ntmps-vals.toArray.size) undef) s
  grind
 grind
section
variable {P:AK} {fn:Func} {env:Env} {H:Qc}
theorem H7.nil(h:fn.results= #[]):H7 P fn env H (.tup []):=
 λfr ro σ N a w r=>⟨.tuple #[],by simp[results,h,go_sem],[],rfl,rfl⟩
theorem H7.one{t:Nat}{x:A}(h:fn.results= #[.tmp t])(hx:lk env t=x):H7 P fn env H x:=
 λfr ro σ N a w r=>⟨a.tmps.getD t undef,by simp[results,h,go_sem],hx▸r.env t⟩
theorem QmX{t u:Nat}{x y:A}(h:fn.results= #[.tmp t,.tmp u])(hx:lk env t=x)(hy:lk env u=y):H7 P fn env H (.tup [x,y]):=
 λfr ro σ N a w r=>⟨.tuple #[a.tmps.getD t undef,a.tmps.getD u undef],by simp[results,h,go_sem],
  [_,_],rfl,_,_,rfl,hx▸r.env t,_,_,rfl,hy▸r.env u,rfl⟩
end
inductive CF (S B:Type) where
 |k (s:S)
 |d (b:B)
 deriving DecidableEq
def iter{S B:Type}(step:S->AB (CF S B)):Nat->S->AB B
 |0,_=>AF
 |n+1,s=>match step s with
  |some (.k s')=>iter step n s'
  |some (.d b)=>AC b
  |none=>AF
variable {B S:Type}
def JU(I:S->Env->Qc->Prop)(d:CF S B)(Q:Qy):Qy
 |.normal,env,H=>∃s,d=.k s/\I s env H
 |.exit id,env,H=>(∃b,d=.d b)/\Q (.exit id) env H
 |.ret,env,H=>(∃b,d=.d b)/\Q .ret env H
variable {env:Env}
theorem Qps{c:Code}{S B:Type}{step:S->AB (CF S B)}{I:S->Env->Qc->Prop}{Q:Qy}{O:B}
  (body:∀s d env H,I s env H->step s=AC d->(∀b,d=.d b->b=O)->TC P h0 N c env H (JU I d Q)){s0:S}(h:iter step m s0=AC O){H:Qc}(W:I s0 env H):TC P h0 N (.loop c) env H Q:=by
 intro Y F M σ a w r hrd b k cs hro hb hr;have V:∀m s env H fr1 ro1 σ1 a1 w1,iter step m s=AC O->I s env H->DN fr1 ro1 σ1 H env N a1 w1->Ql F M w ro1 w1->σ1.take h0=σ.take h0->C_ F w a.defers fr1 a1.defers->
   ∃e t j,H9 h0 F M σ w N a.defers Q e t j/\ArrivesIn (Machine.fenced P (WF Y)) P (lone (b.atR a1 (.code c::.inLoop c::k)) cs w1) b k cs e t j:=by
  intro m
  induction m with
  |zero=>grind[iter]
  |succ m ih=>
   intro s env H fr1 ro1 σ1 a1 w1 hit W r1 ev1 t1 g1;simp only[iter]at hit;cases hs:step s with
   |none=>grind
   |some d=>
    rw[hs]at hit;have hd:∀b,d=.d b->b=O:=by
     grind
    obtain⟨e,t,j,T,f⟩:=body s d env H W hs hd Y fr1 ro1 σ1 a1 w1 r1 (hrd.to ev1 g1.sub) b (.inLoop c::k) cs hro hb hr;obtain⟨x,g,H',G,σ',J,R,L,q3,q4,q5,q6⟩:=T;have E:=ev1.trans (q4.frMono g1.sub);have g2:=g1.trans ev1.size q6;have hp:∀x,Q x g H'->Rq e x->H9 h0 F M σ w N a.defers Q e t j:=λx q q'=>⟨x,g,H',G,σ',J,q',q,q3,E,q5.trans t1,g2⟩;cases e with
    |normal=>
     obtain rfl:x=.normal:=R;obtain⟨s',rfl,L⟩:=L;obtain⟨e2,a2,w2,X,y⟩:=ih s' g H' J G σ' t j hit L q3 E (q5.trans t1) g2;exact⟨e2,a2,w2,X,.of_steps (StepsIn.trans f (.one (fenced_calm hb hr rfl) stepR_inLoop)) y⟩
    |exit id=>
     obtain rfl:x=.exit id:=R;exact⟨_,t,j,hp _ L.2 rfl,.pass (x:=.inLoop c) rfl sq f⟩
    |ret=>
     obtain rfl:x=.ret:=R;exact⟨_,t,j,hp _ L.2 rfl,.pass (x:=.inLoop c) rfl sq f⟩
    |_=>exact R.elim
 obtain⟨e,t,j,T,f⟩:=V m s0 env H F M σ a w h W r (Ql.refl _ _ _) rfl (C_.refl _ _ _);exact⟨e,t,j,T,.of_steps (.one (fenced_calm hb hr rfl) stepR_loop) f⟩
theorem TC.loop{P:AK}{h0 N:Nat}{c:Code}{S B:Type}{step:S->AB (CF S B)}(E:S->Env)(Hp:S->Qc){Q:Qy}
  {m:Nat}{s0:S}{b0:B}(h:iter step m s0=AC b0){env:Env}{H:Qc}(hI:Le h0 env H (E s0) (Hp s0))
  (body:∀s d,step s=AC d->(∀b,d=.d b->b=b0)->TC P h0 N c (E s) (Hp s) (JU (λs env H=>Le h0 env H (E s) (Hp s)) d Q)):TC P h0 N (.loop c) env H Q:=
 Qps (I:=λs env H=>Le h0 env H (E s) (Hp s)) (λs d env H hI hs hd=>TC.le hI (body s d hs hd)) h hI
def Ci(π:AA Nat)(n i:Nat):Nat:=
 match π[i]? with
 |some p=>p
 |none=>n+(i-π.length)
def Yc:Qc->AA Nat->AA CW->Qc
 |H,[],xs=>H++xs
 |H,p::π,x::xs=>Yc (H.set p x) π xs
 |H,_::_,[]=>H
theorem vI:∀(π:AA Nat) (H:Qc) (xs:AA CW),π.length<=xs.length->(Yc H π xs).length=H.length+(xs.length-π.length)
 |[],H,xs,_=>by simp[Yc]
 |p::π,H,[],h=>by simp at h
 |p::π,H,x::xs,h=>by
  simp[XZ]at h;simp only[Yc,vI π (H.set p x) xs om,X3,XZ];omega
theorem m5:∀(π:AA Nat) (H:Qc) (xs:AA CW) (i:Nat),i<H.length->i∉π->(Yc H π xs)[i]?=H[i]?
 |[],H,xs,i,hi,_=>by simp[Yc,XL hi]
 |p::π,H,[],i,hi,h=>by simp[Yc]
 |p::π,H,x::xs,i,hi,h=>by
  simp[X6,not_or]at h;simp[Yc];rw[m5 π (H.set p x) xs i gq h.2,XO (λe=>h.1 e.symm)]
theorem uA:∀(π:AA Nat) (H:Qc) (xs:AA CW) (j:Nat),π.length<=xs.length->(∀p∈π,p<H.length)->π.Nodup->
  (Yc H π xs)[Ci π H.length j]?=xs[j]?
 |[],H,xs,j,_,_,_=>by
  simp_all[Yc,Ci,XM]
 |p::π,H,[],j,h,_,_=>by simp at h
 |p::π,H,x::xs,j,h,hp,hn=>by
  simp[XZ]at h;have hn':=List.nodup_cons.1 hn;simp[Yc];cases j with
  |zero=>
   grind[Ci,m5]
  |succ j=>
   have ih:=uA π (H.set p x) xs j om (λq hq=>gq) hn'.2;have e:Ci (p::π) H.length (j+1)=Ci π H.length j:=by
    simp only[Ci,XZ];simp
   grind
theorem Ql9(π:AA Nat)(n i:Nat)(hi:n<=i\/i∈π):∃j,i=Ci π n j:=by
 rcases hi with hi|hi
 .refine⟨π.length+(i-n),?_⟩
  grind[Ci]
 .obtain⟨j,d,rfl⟩:=List.mem_iff_getElem.1 hi;exact⟨j,by simp[Ci,XJ d]⟩
def YI(σ:Ce)(π:AA Nat):Ce:=π.map λp=>(σ[p]?).getD AF
variable {π:AA Nat}
theorem iH{n:Nat}(f:σ.length=n)(d:∀p∈π,p<n)(j:Nat):(σ++τ)[Ci π n j]?=(YI σ π++τ)[j]? :=by
 rcases(by omega)with h|h
 .grind[Ci,YI]
 grind[Ci,YI]
def C6(P:AK)(o:AM)(env:Env)(H:Qc)(f:FuncId)(args:AA A):Prop:=
 ∀fr ro σ N a w,DN fr ro σ H env N a w->∃vals:AA AL,(execOp a.eval o).run P w=.ok (.enter f vals.toArray) w/\LR ro σ w args vals
theorem Jr{H:Qc}{Hc:AA CW}(hH:π.map (λp=>H[p]?)=Hc.map AC){p:Nat}(d:p∈π):p<H.length:=by
 grind[List.mem_map_of_mem]
variable {Qr:A->Qc->Prop}
theorem WO.call{o:AM}{l:AA AM}{H:Qc}{Q:Qy}{d:AB Nat}
  {ab:AA A}{Hc:Qc}(π:AA Nat)(hh:h0<=H.length)(hg:Qz all o env AE)(hd:o.dst=d)(hN:∀x,d=AC x->x<N)
  (ao:C6 P o env H f args)(hargs:args=JJ (Ci π H.length) ab)(hH:π.map (λp=>H[p]?)=(Hc.map (Q1 (Ci π H.length))).map AC)(hπ:π.Nodup)
  (hC:C P f ab Hc Qr)
  (k:∀r H1,Qr r H1->WO P h0 N all l (match d with|some d=>up env d (Y0 (Ci π H.length) r)|none=>env) (Yc H π (H1.map (Q1 (Ci π H.length)))) Q):
  WO P h0 N all (o::l) env H Q:=by
 intro rd fr ro σ a w r hrd;obtain⟨ai,h1,h2⟩:=ao fr ro σ N a w r;refine tB (YV hg r) h1 ?_;have hp:∀p∈π,p<H.length:=λp q=>Jr hH q;have hσl:=r.sim.len;have aa:∀(j p:Nat),π[j]?=AC p->H[p]?=(Hc[j]?).map (Q1 (Ci π H.length)):=by
  intro j p O;have:=congrArg (λl=>l[j]?) hH;simp only[Xo,O,Xj]at this;cases e:Hc[j]? with
  |none=>rw[e]at this;simp at this
  |some x=>rw[e]at this;simpa using this
 have aj:π.length=Hc.length:=by simpa using congrArg List.length hH
 have hσc:∀j:Nat,σ[Ci π H.length j]?=(YI σ π)[j]? :=by
  intro j;have:=iH (τ:=[]) hσl hp j;simpa using this
 let frc:Nat->Prop:=λb=>fr b\/(∃i x,σ[i]?=AC (AC b)/\H[i]?=AC x/\x.live=AE/\i∉π)\/ ∃i x d,σ[i]?=AC (AC d)/\H[i]?=AC x/\Dq w x d b/\i∉π
 have hπj:∀(j b:Nat),(YI σ π)[j]?=AC (AC b)->∃p,π[j]?=AC p/\σ[p]?=AC (AC b):=by
  intro j b O;simp only[YI,Xo]at O;cases e:π[j]? with
  |none=>rw[e]at O;simp at O
  |some p=>
   rw[e]at O;simp at O;refine⟨p,rfl,?_⟩;cases e2:σ[p]? with
   |none=>rw[e2]at O;simp at O
   |some s=>rw[e2]at O;simp at O;rw[O]
 have hπi:∀(i j p:Nat),π[i]?=AC p->π[j]?=AC p->i=j:=by
  intro i j p V T;have hi:i<π.length:=by
   rcases VA i π.length with q|q
   .exact q
   .rw[XN q]at V;simp at V
  have O:j<π.length:=by
   rcases VA j π.length with q|q
   .exact q
   .rw[XN q]at T;simp at T
  rw[XJ hi]at V;rw[XJ O]at T;have ad:=(XY V).trans (XY T).symm;rcases Nat.lt_trichotomy i j with q|q|q
  .exact(VC.1 hπ i j hi O q ad).elim
  .exact q
  .exact(VC.1 hπ j i O hi q ad.symm).elim
 have ak:CZ frc ro (YI σ π) Hc w:=by
  refine⟨by simp[YI,aj],r.sim.roOk,?_,?_,?_,?_,?_,?_⟩
  .rintro b (hb|⟨i,x,h,g,m,L⟩|⟨i,x,d,h,g,m,L⟩)
   .exact r.sim.frLt b hb
   .exact(r.sim.own i b x h g m).1
   .exact(r.sim.hid i d x b h g m).lt
  .rintro b hb (hf|⟨i,x,h,g,m,L⟩|⟨i,x,d,h,g,m,L⟩)
   .exact r.sim.roFr b hb hf
   .exact(r.sim.own i b x h g m).2.1 hb
   .exact(r.sim.hid i d x b h g m).ro hb
  .intro j b x h g m;obtain⟨p,V,e2⟩:=hπj j b h;have e3:H[p]?=AC (Q1 (Ci π H.length) x):=by rw[aa j p V,g];rfl
   obtain⟨o1,o2,o3⟩:=r.sim.own p b _ e2 e3 (by rw[QX];exact m);refine⟨o1,o2,?_⟩;rintro(hf|⟨i,y,y1,y2,y3,y4⟩|⟨i,y,d,y1,y2,y3,y4⟩)
   .exact o3 hf
   .have:=r.sim.inj i p b _ _ y1 e2 y2 e3 y3 (by rw[QX];exact m);subst this;exact y4 (VG V)
   .exact(r.sim.hid i d y b y1 y2 y3).ne p b _ e2 e3 (by rw[QX];exact m) rfl
  .intro i j b x y h g m L Y q6;obtain⟨p,V,e2⟩:=hπj i b h;obtain⟨p',T,am⟩:=hπj j b g;have e3:H[p]?=AC (Q1 (Ci π H.length) x):=by rw[aa i p V,m];rfl
   have an:H[p']?=AC (Q1 (Ci π H.length) y):=by rw[aa j p' T,L];rfl
   have:=r.sim.inj p p' b _ _ e2 am e3 an (by rw[QX];exact Y) (by rw[QX];exact q6);subst this;have hi:i<π.length:=by
    rcases VA i π.length with q|q
    .exact q
    .rw[XN q]at V;simp at V
   have O:j<π.length:=by
    rcases VA j π.length with q|q
    .exact q
    .rw[XN q]at T;simp at T
   rw[XJ hi]at V;rw[XJ O]at T;have ad:=(XY V).trans (XY T).symm;rcases Nat.lt_trichotomy i j with q|q|q
   .exact(VC.1 hπ i j hi O q ad).elim
   .exact q
   .exact(VC.1 hπ j i O hi q ad.symm).elim
  .intro j s x h g;have O:j<π.length:=by
    rcases VA j π.length with q|q
    .exact q
    .rw[XN (by simpa[YI]using q)]at h;simp at h
   have V:π[j]?=AC π[j]:=XJ O;have e3:H[π[j]]?=AC (Q1 (Ci π H.length) x):=by rw[aa j _ V,g];rfl
   have e2:σ[π[j]]?=AC s:=by
    have:=hσc j;rw[h]at this;simpa[Ci,V]using this
   exact(gd hσc).1 (r.sim.blk _ s _ e2 e3)
  .intro j b x c h g m;obtain⟨p,V,e2⟩:=hπj j b h;have e3:H[p]?=AC (Q1 (Ci π H.length) x):=by rw[aa j p V,g];rfl
   have k:=r.sim.hid p b _ c e2 e3 ((Ri _ _ _ _ _).2 m);refine⟨k.lt,k.ro,?_,?_,?_⟩
   .rintro(hf|⟨i,y,y1,y2,y3,y4⟩|⟨i,y,d,y1,y2,y3,y4⟩)
    .exact k.fr hf
    .exact k.ne i c y y1 y2 y3 rfl
    .obtain⟨rfl,rfl⟩:=k.one i d y y1 y2 y3;exact y4 (VG V)
   .intro R b' y M t z3;obtain⟨p',f1,f2⟩:=hπj R b' M;exact k.ne p' b' _ f2 (show H[p']?=AC (Q1 (Ci π H.length) y)by rw[aa R p' f1,t];rfl) (by rw[QX];exact z3)
   .intro R b' y M t z3;obtain⟨p',f1,f2⟩:=hπj R b' M;obtain⟨z4,z5⟩:=k.one p' b' _ f2 (show H[p']?=AC (Q1 (Ci π H.length) y)by rw[aa R p' f1,t];rfl) ((Ri _ _ _ _ _).2 z3);subst z5;exact⟨z4,hπi R j p' f1 V⟩
 have ag:LR ro (YI σ π) w ab ai:=(Nw hσc).1 (hargs▸h2);refine Calls.mono (hC frc ro (YI σ π) ai w ak ag) ?_;rintro e w' ⟨v,rr,H1,ac,τ,rfl,hq,sc,hv,ev⟩;have hσ':∀j:Nat,(σ++τ)[Ci π H.length j]?=(YI σ π++τ)[j]? :=λj=>iH hσl hp j;have ar:H1.length=π.length+τ.length:=by rw[<- sc.len];simp[YI]
 have al:π.length<=(H1.map (Q1 (Ci π H.length))).length:=by simp;omega
 have W:Ql fr ro w ac w':=⟨ev.sub,ev.keepRo,λb q=>ev.keepFr b (.inl q),ev.size,ev.shape,ev.os,ev.tape,ev.output,ev.drawn⟩;have J:∀j,(Yc H π (H1.map (Q1 (Ci π H.length))))[Ci π H.length j]?=(H1[j]?).map (Q1 (Ci π H.length)):=by
  intro j;rw[uA π H _ j al hp hπ];simp
 have E:∀i,i<H.length->i∉π->(Yc H π (H1.map (Q1 (Ci π H.length))))[i]?=H[i]? :=λi=>m5 π H _ i;have B:∀i:Nat,(∃j,i=Ci π H.length j)\/(i<H.length/\i∉π):=by
  intro i;by_cases q:H.length<=i\/i∈π
  .exact .inl (Ql9 π H.length i q)
  .simp only[not_or]at q;exact .inr ⟨om,q.2⟩
 have G:∀i b x,i<H.length->i∉π->σ[i]?=AC (AC b)->H[i]?=AC x->x.live=AE->frc b:=λi b x h g m L Y=>.inr (.inl ⟨i,x,m,L,Y,g⟩);have af:∀i b x c,i<H.length->i∉π->σ[i]?=AC (AC b)->H[i]?=AC x->Dq w' x b c->Dq w x b c/\frc c:=λi b x c h g m L Y=>
  have q6:=r.sim.hidKeep m L (λz=>ev.keepFr b (G i b x h g m L z)) ev.keepRo Y
  ⟨q6,.inr (.inr ⟨i,x,b,m,L,q6,g⟩)⟩
 have ah:CZ fr ac (σ++τ) (Yc H π (H1.map (Q1 (Ci π H.length)))) w':=by
  refine⟨?_,sc.roOk,λb q=>sc.frLt b (.inl q),λb q q'=>sc.roFr b q (.inl q'),?_,?_,?_,?_⟩
  .rw[vI _ _ _ al];simp[hσl,ar]
  .intro i b x h g m;rcases B i with⟨j,rfl⟩|⟨c1,c2⟩
   .rw[hσ']at h;rw[J]at g;cases e:H1[j]? with
    |none=>rw[e]at g;simp at g
    |some y=>
     rw[e]at g;simp at g;subst g;obtain⟨o1,o2,o3⟩:=sc.own j b y h e (by rw[QX]at m;exact m);exact⟨o1,o2,λq=>o3 (.inl q)⟩
   .rw[E i c1 c2]at g;rw[XL om]at h;obtain⟨o1,o2,o3⟩:=r.sim.own i b x h g m;exact⟨Vf o1 ev.size,λq=>sc.roFr b q (G i b x c1 c2 h g m),o3⟩
  .intro i F b x y h g m L Y q6;have ae:∀(i F:Nat) (x y:CW),(∃j,i=Ci π H.length j)->(F<H.length/\F∉π)->(σ++τ)[i]?=AC (AC b)->(σ++τ)[F]?=AC (AC b)->
     (Yc H π (H1.map (Q1 (Ci π H.length))))[i]?=AC x->(Yc H π (H1.map (Q1 (Ci π H.length))))[F]?=AC y->x.live=AE->y.live=AE->False:=by
    rintro i F x y ⟨j,rfl⟩ ⟨c1,c2⟩ h g m L Y q6;rw[hσ']at h;rw[J]at m;rw[E F c1 c2]at L;rw[XL om]at g;cases e:H1[j]? with
    |none=>rw[e]at m;simp at m
    |some z=>
     rw[e]at m;simp at m;subst m;exact(sc.own j b z h e (by rw[QX]at Y;exact Y)).2.2 (G F b y c1 c2 g L q6)
   rcases B i with ci|ci<;>rcases B F with ci'|ci'
   .obtain⟨j,rfl⟩:=ci;obtain⟨R,rfl⟩:=ci';rw[hσ']at h g;rw[J]at m L;cases e:H1[j]? with
    |none=>rw[e]at m;simp at m
    |some z=>
     cases X:H1[R]? with
     |none=>rw[X]at L;simp at L
     |some z'=>
      rw[e]at m;simp at m;subst m;rw[X]at L;simp at L;subst L;rw[sc.inj j R b z z' h g e X (by rw[QX]at Y;exact Y) (by rw[QX]at q6;exact q6)]
   .exact(ae i F x y ci ci' h g m L Y q6).elim
   .exact(ae F i y x ci' ci g h L m q6 Y).elim
   .rw[E i ci.1 ci.2]at m;rw[E F ci'.1 ci'.2]at L;rw[XL om]at h g;exact r.sim.inj i F b x y h g m L Y q6
  .intro i s x h g;rcases B i with⟨j,rfl⟩|⟨c1,c2⟩
   .rw[hσ']at h;rw[J]at g;cases e:H1[j]? with
    |none=>rw[e]at g;simp at g
    |some y=>
     rw[e]at g;simp at g;subst g;exact(gd hσ').2 (sc.blk j s y h e)
   .rw[E i c1 c2]at g;rw[XL om]at h;refine BR.keep (W.ext σ τ) ?_ (r.sim.blk i s x h g) ?_
    .rintro b rfl hl;exact ev.keepFr b (G i b x c1 c2 h g hl)
    .rintro b c rfl hl;exact ev.keepFr c (.inr (.inr ⟨i,x,b,h,g,hl,c2⟩))
  .intro i b x c h g m;rcases B i with⟨j,rfl⟩|⟨c1,c2⟩
   .rw[hσ']at h;rw[J]at g;cases e:H1[j]? with
    |none=>rw[e]at g;simp at g
    |some y=>
     rw[e]at g;simp at g;subst g;have k:=sc.hid j b y c h e ((Ri _ _ _ _ _).1 m);refine⟨k.lt,k.ro,λq=>k.fr (.inl q),?_,?_⟩
     .intro F b' y' M t z3;rcases B F with⟨R,rfl⟩|⟨d1,d2⟩
      .rw[hσ']at M;rw[J]at t;cases X:H1[R]? with
       |none=>rw[X]at t;simp at t
       |some u=>
        rw[X]at t;simp at t;subst t;exact k.ne R b' u M X (by rw[QX]at z3;exact z3)
      .rw[E F d1 d2]at t;rw[XL om]at M;rintro rfl;exact k.fr (G F c y' d1 d2 M t z3)
     .intro F b' y' M t z3;rcases B F with⟨R,rfl⟩|⟨d1,d2⟩
      .rw[hσ']at M;rw[J]at t;cases X:H1[R]? with
       |none=>rw[X]at t;simp at t
       |some u=>
        rw[X]at t;simp at t;subst t;obtain⟨z4,rfl⟩:=k.one R b' u M X ((Ri _ _ _ _ _).1 z3);exact⟨z4,rfl⟩
      .rw[E F d1 d2]at t;rw[XL om]at M;exact(k.fr (af F b' y' c d1 d2 M t z3).2).elim
   .rw[E i c1 c2]at g;rw[XL om]at h;obtain⟨L,Y⟩:=af i b x c c1 c2 h g m;have k:=r.sim.hid i b x c h g L;refine⟨Vf k.lt ev.size,λq=>sc.roFr c q Y,k.fr,?_,?_⟩
    .intro F b' y' M t z3;rcases B F with⟨R,rfl⟩|⟨d1,d2⟩
     .rw[hσ']at M;rw[J]at t;cases X:H1[R]? with
      |none=>rw[X]at t;simp at t
      |some u=>
       rw[X]at t;simp at t;subst t;rintro rfl;exact(sc.own R c u M X (by rw[QX]at z3;exact z3)).2.2 Y
     .rw[E F d1 d2]at t;rw[XL om]at M;exact k.ne F b' y' M t z3
    .intro F b' y' M t z3;rcases B F with⟨R,rfl⟩|⟨d1,d2⟩
     .rw[hσ']at M;rw[J]at t;cases X:H1[R]? with
      |none=>rw[X]at t;simp at t
      |some u=>
       rw[X]at t;simp at t;subst t;exact((sc.hid R b' u c M X ((Ri _ _ _ _ _).1 z3)).fr Y).elim
     .rw[E F d1 d2]at t;rw[XL om]at M;exact k.one F b' y' M t (af F b' y' c d1 d2 M t z3).1
 have aq:VR ac (σ++τ) w' (Y0 (Ci π H.length) rr) v:=(Zb hσ').2 hv;have hk:=k rr H1 hq;cases d with
 |none=>
  simp only[hd,Act.put];have r':DN fr ac (σ++τ) (Yc H π (H1.map (Q1 (Ci π H.length)))) env N a w':=⟨ah,λs=>(r.env s).mono (W.ext σ τ),r.size,r.defers.keep W⟩;exact⟨_,rfl,YH (λe a w q=>q.step W (QT om)) _ _ _ (hk rd fr ac (σ++τ) _ w' r' (hrd.to W λ_ q=>q))⟩
 |some d=>
  simp only[hd,Act.put];have av:=hN d rfl;have r':DN fr ac (σ++τ) (Yc H π (H1.map (Q1 (Ci π H.length)))) (up env d (Y0 (Ci π H.length) rr)) N {a with tmps:=a.tmps.setIfInBounds d v} w':=
   ⟨ah,VR.up (fr:=fr) (λs=>(r.env s).mono (W.ext σ τ)) (by rw[r.size];exact av) aq,by simpa using r.size,r.defers.keep W⟩
  exact⟨_,rfl,YH (λe a w q=>q.step W (QT om)) _ _ _ (hk rd fr ac (σ++τ) _ w' r' (hrd.to W λ_ q=>q))⟩
variable {T k off:Nat}{cs' vs:AA A}{es:AA (AA A)}{kk:IntKind}{q:AA UInt8}{t u:TypeId}
section
variable {P:AK} {o:AM} {env:Env} {H:Qc}
theorem QY{a:Act}(r:DN fr ro σ H env N a w){x:Operand}{k:IntKind}{n:Int}(h:CP env x=.int k n):a.eval x=.int k n:=by
 have:=Qp r x;rw[h]at this;exact this
theorem Zp{a:Act}(r:DN fr ro σ H env N a w){x:Operand}{b:Bool}(h:CP env x=.bool b):a.eval x=.bool b:=by
 have:=Qp r x;rw[h]at this;exact this
theorem iD{a:Act}(r:DN fr ro σ H env N a w){x:Operand}{s:AA UInt8}(h:CP env x=.str s):a.eval x=.string ⟨s.toArray⟩:=by
 have:=Qp r x;rw[h]at this;exact this
theorem CS.move{x:Operand}{v:A}(ho:o.op=.move x)(hx:CP env x=v):CS P o env H v:=
 λfr ro σ N a w r=>⟨a.eval x,by simp[execOp,ho],hx▸Qp r x⟩
theorem CS.assign{x:Operand}{v:A}(ho:o.op=.assign x)(hx:CP env x=v):CS P o env H v:=
 λfr ro σ N a w r=>⟨a.eval x,by simp[execOp,ho],hx▸Qp r x⟩
theorem CS.pick{c x y:Operand}{b:Bool}{v:A}(f:o.op=.pick c x y)(d:CP env c=.bool b)(h:(if b then CP env x else CP env y)=v):CS P o env H v:=by
 intro m j σ N a w r;have g:=Zp r d;refine⟨if b then a.eval x else a.eval y,by simp_all[execOp,asBool],?_⟩
 grind[Qp]
theorem CS.add{t u:TypeId}{x y:Operand}{k:IntKind}{m n:Int}(h:o.op=.binOp .add t x y u)(d:CP env x=.int k m)(f:CP env y=.int k n):CS P o env H (.int k (k.wrap (m+n))):=by
 intro B q σ N a w r;have g:=QY r d;have j:=QY r f;refine⟨_,?_,rfl⟩
 simp_all[execOp,Go.binOp,eqGuard,Op.intArith]
theorem CS.sub{t u:TypeId}{x y:Operand}{k:IntKind}{m n:Int}(h:o.op=.binOp .sub t x y u)(d:CP env x=.int k m)(f:CP env y=.int k n):CS P o env H (.int k (k.wrap (m-n))):=by
 intro B q σ N a w r;have g:=QY r d;have j:=QY r f;refine⟨_,?_,rfl⟩
 simp_all[execOp,Go.binOp,eqGuard,Op.intArith]
theorem CS.mul{t u:TypeId}{x y:Operand}{k:IntKind}{m n:Int}(h:o.op=.binOp .mul t x y u)(d:CP env x=.int k m)(f:CP env y=.int k n):CS P o env H (.int k (k.wrap (m*n))):=by
 intro B q σ N a w r;have g:=QY r d;have j:=QY r f;refine⟨_,?_,rfl⟩
 simp_all[execOp,Go.binOp,eqGuard,Op.intArith]
theorem Zh{op:BinOp}{x y:Operand}{k:IntKind}{m n:Int}{f:Int->Int->Bool}(h:o.op=.binOp op t x y u)(g:CP env x=.int k m)(q:CP env y=.int k n)
  (d:op=.eql/\f=(λa b=>a==b)\/op=.neq/\f=(λa b=>a != b)\/op=.lss/\f=(λa b=>AG (a<b))\/op=.leq/\f=(λa b=>AG (a<=b))\/
   op=.gtr/\f=(λa b=>AG (b<a))\/op=.geq/\f=(λa b=>AG (b<=a))):CS P o env H (.bool (f m n)):=by
 intro F E σ N a w r;have B:=QY r g;have j:=QY r q;refine⟨_,?_,rfl⟩;generalize a.eval=ρ at*;rcases d with⟨rfl,rfl⟩|⟨rfl,rfl⟩|⟨rfl,rfl⟩|⟨rfl,rfl⟩|⟨rfl,rfl⟩|⟨rfl,rfl⟩<;>simp[h,B,j,go_sem]
theorem CS.eql{t u:TypeId}{x y:Operand}{k:IntKind}{m n:Int}(ho:o.op=.binOp .eql t x y u)(hx:CP env x=.int k m)(hy:CP env y=.int k n):CS P o env H (.bool (m==n)):=
 Zh ho hx hy sq
theorem CS.neq{t u:TypeId}{x y:Operand}{k:IntKind}{m n:Int}(ho:o.op=.binOp .neq t x y u)(hx:CP env x=.int k m)(hy:CP env y=.int k n):CS P o env H (.bool (m != n)):=
 Zh ho hx hy sq
theorem CS.lss{t u:TypeId}{x y:Operand}{k:IntKind}{m n:Int}(ho:o.op=.binOp .lss t x y u)(hx:CP env x=.int k m)(hy:CP env y=.int k n):CS P o env H (.bool (AG (m<n))):=
 Zh (f:=λa b=>AG (a<b)) ho hx hy sq
theorem CS.leq{t u:TypeId}{x y:Operand}{k:IntKind}{m n:Int}(ho:o.op=.binOp .leq t x y u)(hx:CP env x=.int k m)(hy:CP env y=.int k n):CS P o env H (.bool (AG (m<=n))):=
 Zh (f:=λa b=>AG (a<=b)) ho hx hy sq
theorem CS.gtr{t u:TypeId}{x y:Operand}{k:IntKind}{m n:Int}(ho:o.op=.binOp .gtr t x y u)(hx:CP env x=.int k m)(hy:CP env y=.int k n):CS P o env H (.bool (AG (n<m))):=
 Zh (f:=λa b=>AG (b<a)) ho hx hy sq
theorem CS.geq{t u:TypeId}{x y:Operand}{k:IntKind}{m n:Int}(ho:o.op=.binOp .geq t x y u)(hx:CP env x=.int k m)(hy:CP env y=.int k n):CS P o env H (.bool (AG (n<=m))):=
 Zh (f:=λa b=>AG (b<=a)) ho hx hy sq
theorem CS.rem{t u:TypeId}{x y:Operand}{k:IntKind}{m n:Int}(g:o.op=.binOp .rem t x y u)(f:CP env x=.int k m)(d:CP env y=.int k n)(B:n≠0):CS P o env H (.int k (m.tmod n)):=by
 intro E j σ N a w r;have q:=QY r f;have h:=QY r d;exact⟨_,by simp_all[execOp,Go.binOp,eqGuard,Op.intDiv],rfl⟩
theorem CS.quo{t u:TypeId}{x y:Operand}{k:IntKind}{m n:Int}(g:o.op=.binOp .quo t x y u)(f:CP env x=.int k m)(d:CP env y=.int k n)(B:n≠0):CS P o env H (.int k (k.wrap (m.tdiv n))):=by
 intro E j σ N a w r;have q:=QY r f;have h:=QY r d;exact⟨_,by simp_all[execOp,Go.binOp,eqGuard,Op.intDiv],rfl⟩
theorem CS.not{t:TypeId}{x:Operand}{b:Bool}(g:o.op=.unOp .not t x)(d:CP env x=.bool b):CS P o env H (.bool !b):=by
 intro j h σ N a w r;have f:=Zp r d;exact⟨_,by simp_all[execOp,Op.unary],rfl⟩
theorem CS.neg{t:TypeId}{x:Operand}{k:IntKind}{n:Int}(g:o.op=.unOp .neg t x)(d:CP env x=.int k n):CS P o env H (.int k (k.wrap (0-n))):=by
 intro j h σ N a w r;have f:=QY r d;exact⟨_,by simp_all[execOp,Op.unary,Op.intArith],rfl⟩
theorem Rh{s:TypeId}{x:Operand}{k f:IntKind}{n:Int}{d:TypeDesc}(h:o.op=.convert s t x)(y:∀w,(underlying s).run P w=.ok d w)(q:∀w,(underlying t).run P w=.ok (.int k) w)
  (g:CP env x=.int f n):CS P o env H (.int k (k.wrap n)):=by
 intro B j σ N a w r;have m:=QY r g;refine⟨_,?_,rfl⟩
 simp_all[execOp,convert,Conv.intToInt]
theorem iS{op:BinOp}{x y:Operand}{p:AA UInt8}{f:AA UInt8->AA UInt8->Bool}(h:o.op=.binOp op t x y u)(g:CP env x=.str p)(B:CP env y=.str q)
  (d:op=.eql/\f=(λa b=>a==b)\/op=.neq/\f=(λa b=>a != b)\/op=.lss/\f=Op.bytesLess\/op=.geq/\f=(λa b=> !Op.bytesLess a b)\/
   op=.leq/\f=(λa b=>Op.bytesLess a b||a==b)\/op=.gtr/\f=(λa b=> !(Op.bytesLess a b||a==b))):CS P o env H (.bool (f p q)):=by
 intro J G σ N a w r;have E:=iD r g;have m:=iD r B;refine⟨_,?_,rfl⟩;generalize a.eval=ρ at*;have j:(⟨p.toArray⟩:ByteArray).toList=p:=sq;have F:(⟨q.toArray⟩:ByteArray).toList=q:=sq;rcases d with⟨rfl,rfl⟩|⟨rfl,rfl⟩|⟨rfl,rfl⟩|⟨rfl,rfl⟩|⟨rfl,rfl⟩|⟨rfl,rfl⟩<;>simp[h,E,m,Go.binOp,Op.stringOp,j,F,go_sem,bne]
theorem Qm4{x y:Operand}{p:AA UInt8}(ho:o.op=.binOp .eql t x y u)(hx:CP env x=.str p)(hy:CP env y=.str q):CS P o env H (.bool (p==q)):=
 iS ho hx hy sq
theorem Qm0{x y:Operand}{p:AA UInt8}(ho:o.op=.binOp .neq t x y u)(hx:CP env x=.str p)(hy:CP env y=.str q):CS P o env H (.bool (p != q)):=
 iS ho hx hy sq
theorem Qm1{x y:Operand}{p:AA UInt8}(ho:o.op=.binOp .lss t x y u)(hx:CP env x=.str p)(hy:CP env y=.str q):CS P o env H (.bool (Op.bytesLess p q)):=
 iS ho hx hy sq
theorem Qm2{x y:Operand}{s:AA UInt8}{k:IntKind}{n:Int}{c:UInt8}(B:o.op=.index t x y)(M:∀w,(underlying t).run P w=.ok .string w)(m:CP env x=.str s)(h:CP env y=.int k n)
  (L:0<=n)(j:s[n.toNat]?=AC c):CS P o env H (.int .u8 c.toNat):=by
 intro J F σ N a w r;have G:=iD r m;have E:=QY r h;have g:(⟨s.toArray⟩:ByteArray)[n.toNat]?=AC c:=by
  obtain⟨d,f⟩:=XK.1 j;have q:(⟨s.toArray⟩:ByteArray).size=s.length:=by rfl
  rw[getElem?_pos _ _ (by exact d)];show AC (s.toArray[n.toNat]'om)=AC c;simp[f]
 refine⟨_,?_,rfl⟩
 simp_all[execOp,Instr.index,asIntOf]
theorem tI{c:Call}{x:Operand}{s:AA UInt8}(g:o.op=.call c)(h:c={callee:=.builtin .len,args:= #[x],argTypes:= #[t]})(f:∀w,(underlying t).run P w=.ok .string w)
  (j:CP env x=.str s):CS P o env H (.int .i64 s.length):=by
 intro q m σ N a w r;have d:=iD r j;generalize a.eval=ρ at*;subst h;simp[execOp,g,d,resolve,invoke,Builtin.len_,f,goInt,go_sem]<;>rfl
theorem Qpx{c:Call}{e:TypeId}{x:Operand}(f:o.op=.call c)(j:c={callee:=.builtin .len,args:= #[x],argTypes:= #[t]})(h:∀w,(underlying t).run P w=.ok (.slice e) w)
  (m:CP env x=.rsl k es):CS P o env H (.int .i64 es.length):=by
 intro y q σ N a w r;have d:=Qp r x;rw[m]at d;obtain⟨B,g,d,_⟩:=d;refine⟨_,?_,rfl⟩;generalize a.eval=ρ at*;subst j;simp[execOp,f,d,resolve,invoke,Builtin.len_,h,goInt,go_sem]
theorem Qpy{c:Call}{e:TypeId}{x:Operand}{i s n:Nat}(f:o.op=.call c)(j:c={callee:=.builtin .len,args:= #[x],argTypes:= #[t]})(h:∀w,(underlying t).run P w=.ok (.slice e) w)
  (q:CP env x=.osl i s n k):CS P o env H (.int .i64 n):=by
 intro E y σ N a w r;have d:=Qp r x;rw[q]at d;refine⟨_,?_,rfl⟩;generalize a.eval=ρ at*;subst j;rcases d with⟨rfl,d⟩|⟨b,p,g,B,m,_,d,_⟩<;>
 simp[execOp,f,d,resolve,invoke,Builtin.len_,h,goInt,go_sem]
structure Qs (P:AK) (T f off n:Nat):Prop where
 h:∃fs fd,(∀w,(underlying T).run P w=.ok (.struct fs) w)/\fs[f]?=AC fd/\fd.offset=off/\(∀w,(sizeOf fd.type).run P w=.ok n w)/\n≠0
theorem S6(b d n:Nat):(⟨b,d,AF⟩:Addr).add n=⟨b,d+n,AF⟩:=by
 simp_all[Addr.add]
theorem ue{f n b p:Nat}(d:Qs P T f off n)(w:AJ):(Instr.fieldAt T (.pointer (AC ⟨b,p,AF⟩)) f).run P w=.ok (.pointer (AC ⟨b,p+off,AF⟩)) w:=by
 obtain⟨x,g,q,j,rfl,m,t⟩:=d.h
 simp_all[Instr.fieldAt,Instr.sureAddr,fieldPlace,S6]
theorem m9{f n i p:Nat}{x:Operand}(g:Qs P T f off n)(h:o.op=.fieldAddr T x f)(m:CP env x=.ptr i p):CS P o env H (.ptr i (p+off)):=by
 intro t q σ N a w r;have d:=Qp r x;rw[m]at d;obtain⟨b,d,j⟩:=d;refine⟨.pointer (AC ⟨b,p+off,AF⟩),?_,b,d,rfl⟩;simp only[execOp,h,j,Vm,ue g];rfl
theorem CR.drop{ro:Nat->Prop}{σ:Ce}{w:AJ}{b:Nat}:∀(n:Nat) {cs:AA A} {off:Nat},CR ro σ w b cs off->CR ro σ w b (cs.drop n) (off+n)
 |0,_,_,h=>h
 |n+1,[],_,h=>trivial
 |n+1,c::cs,off,h=>by
  have:=CR.drop n h.2
  grind
theorem CR.take{ro:Nat->Prop}{σ:Ce}{w:AJ}{b:Nat}:∀(n:Nat) {cs:AA A} {off:Nat},CR ro σ w b cs off->CR ro σ w b (cs.take n) off
 |0,_,_,h=>trivial
 |n+1,[],_,h=>trivial
 |n+1,c::cs,off,h=>⟨h.1,CR.take n h.2⟩
theorem tG{f n:Nat}{x:Operand}{h:AA A}(j:Qs P T f off n)(m:o.op=.fieldAddr T x f)(y:CP env x=.rp h)(g:h.drop off=cs'):CS P o env H (.rp cs'):=by
 intro E B σ N a w r;have d:=Qp r x;rw[y]at d;obtain⟨b,p,d,q,t⟩:=d;refine⟨.pointer (AC ⟨b,p+off,AF⟩),?_,b,p+off,rfl,q,g▸t.drop off⟩;simp only[execOp,m,d,Vm,ue j];rfl
theorem RR.get{ro:Nat->Prop}{σ:Ce}{w:AJ}{b k:Nat}:∀(n:Nat) {es:AA (AA A)} {off:Nat} {c:AA A},RR ro σ w b k es off->es[n]?=AC c->c.length=k/\CR ro σ w b c (off+n*k)
 |n,[],_,_,h,hc=>by simp at hc
 |0,e::es,off,c,h,hc=>by
  simp at hc;subst hc;exact⟨h.1,by simpa using h.2.1⟩
 |n+1,e::es,off,c,h,hc=>by
  have:=RR.get n h.2.2 (by simpa using hc)
  grind
theorem V?{e:TypeId}{x y:Operand}{n:Int}{c:AA A}(h:o.op=.indexAddr t x y)(B:∀w,(underlying t).run P w=.ok (.slice e) w)
  (E:∀w,(sizeOf e).run P w=.ok k w)(F:CP env x=.rsl k es)(m:CP env y=.int kk n)(q:0<=n)(Q:es[n.toNat]?=AC c):CS P o env H (.rp c):=by
 intro V R σ N a w r;have f:=Qp r x;rw[F]at f;have j:=QY r m;obtain⟨W,M,f,T,L⟩:=f;have g:n.toNat<es.length:=gq;rcases L with rfl|⟨b,d,rfl,O,J⟩
 .simp at g
 have G:n<es.length:=om;refine⟨.pointer (AC ⟨b,d+n.toNat*k,AF⟩),?_,b,d+n.toNat*k,rfl,O,(J.get n.toNat Q).2⟩;generalize a.eval=ρ at*;simp[h,f,j,Instr.indexAt,B,E,q,G,go_sem]
theorem qA{e:TypeId}{x y:Operand}{i s:Nat}{n:Int}(g:o.op=.indexAddr t x y)(G:∀w,(underlying t).run P w=.ok (.slice e) w)
  (J:∀w,(sizeOf e).run P w=.ok k w)(f:CP env x=.osl i s m k)(q:CP env y=.int kk n)(E:0<=n)(L:n<m):CS P o env H (.ptr i (s*k+n.toNat*k)):=by
 intro T M σ N a w r;have d:=Qp r x;rw[f]at d;have h:=QY r q;rcases d with⟨rfl,_⟩|⟨b,p,B,O,R,F,d,j,Q,_⟩
 .omega
 obtain rfl:=j om;refine⟨.pointer (AC ⟨b,s*k+n.toNat*k,AF⟩),?_,b,F,rfl⟩;generalize a.eval=ρ at*;simp[g,d,h,Instr.indexAt,G,J,E,L,go_sem]
def Df(H:Qc)(p:A)(cs:AA A):Prop:=
 ∀fr ro σ w v,CZ fr ro σ H w->VR ro σ w p v->∃b off,v=.pointer (AC ⟨b,off,AF⟩)/\CR ro σ w b cs off
theorem VR.lift{a:A}{v:AL}(h:VR ro [] w a v):VR ro σ w a v:=
 h.mono ⟨λ_ q=>q,λ_ _=>rfl,λ_ _ q=>q,sq⟩
theorem CR.lift{ro:Nat->Prop}{σ:Ce}{w:AJ}{b:Nat}:∀{cs:AA A} {off:Nat},CR ro [] w b cs off->CR ro σ w b cs off
 |[],_,_=>trivial
 |c::cs,off,⟨⟨v,h1,hp,h2⟩,h3⟩=>⟨⟨v,h1,hp,h2.lift⟩,CR.lift h3⟩
theorem LR.lift{ro:Nat->Prop}{σ:Ce}{w:AJ}:∀{cs:AA A} {l:AA AL},LR ro [] w cs l->LR ro σ w cs l
 |[],_,h=>h
 |c::cs,l,⟨v,l',h1,h2,h3⟩=>⟨v,l',h1,h2.lift,LR.lift h3⟩
theorem Df.rp{cs:AA A}:Df H (.rp cs) cs:=λfr ro σ w v s ⟨b,off,h1,h2,h3⟩=>⟨b,off,h1,h3.lift⟩
theorem LR.cells{ro:Nat->Prop}{σ:Ce}{w:AJ}{b t:Nat}{fz:Nat×Nat}{pre l:AA AL}(g:w.heap[b]?=AC (.cells (pre++l).toArray t fz))(f:∀v∈l,QC v):
  ∀{d:AA A},LR ro σ w d l->CR ro σ w b d pre.length:=by
 induction l generalizing pre with
 |nil=>
  intro d h;cases d with
  |nil=>trivial
  |cons c d=>obtain⟨v,q,h,_⟩:=h;cases h
 |cons v l j=>
  intro d h;cases d with
  |nil=>trivial
  |cons c d=>
   obtain⟨F,q,y,m,B⟩:=h;cases y;refine⟨⟨v,by simp[World.cell?,g],f v sq,m⟩,?_⟩;have:=j (pre:=pre++[v]) (by simpa using g) (λx E=>f x (by simp[E])) B
   grind
theorem Df.cells{i d t:Nat}{f cs':AA A}(hH:H[i]?=AC (.cells t f))(m:f.drop d=cs'):Df H (.ptr i d) cs':=by
 intro E B σ w v s h;obtain⟨b,j,y⟩:=h;obtain⟨l,g,x,q⟩:=s.blk i _ _ j hH;have:=LR.cells (pre:=[]) (by simpa using g) q x;have:=this.drop d
 grind
theorem LR.get{ro:Nat->Prop}{σ:Ce}{w:AJ}:∀{az:AA A} {l:AA AL} (i:Nat) {a:A},LR ro σ w az l->az[i]?=AC a->∃v,l[i]?=AC v/\VR ro σ w a v
 |[],l,i,a,h,ha=>by simp at ha
 |x::az,l,0,a,⟨v,l',h1,h2,h3⟩,ha=>by
  grind
 |x::az,l,i+1,a,⟨v,l',h1,h2,h3⟩,ha=>by
  obtain⟨v',q1,q2⟩:=LR.get i h3 (by simpa using ha)
  grind
theorem LR.drop{ro:Nat->Prop}{σ:Ce}{w:AJ}:∀(n:Nat) {az:AA A} {l:AA AL},LR ro σ w az l->LR ro σ w (az.drop n) (l.drop n)
 |0,az,l,h=>h
 |n+1,[],l,h=>by cases(show l=[]from h);rfl
 |n+1,a::az,l,⟨v,l',h1,h2,h3⟩=>by subst h1;exact LR.drop n h3
theorem LR.take{ro:Nat->Prop}{σ:Ce}{w:AJ}:∀(n:Nat) {az:AA A} {l:AA AL},LR ro σ w az l->LR ro σ w (az.take n) (l.take n)
 |0,az,l,h=>rfl
 |n+1,[],l,h=>by cases(show l=[]from h);rfl
 |n+1,a::az,l,⟨v,l',h1,h2,h3⟩=>by subst h1;exact⟨v,l'.take n,rfl,h2,LR.take n h3⟩
theorem LR.append{ro:Nat->Prop}{σ:Ce}{w:AJ}:∀{az:AA A} {l:AA AL} {bs:AA A} {m:AA AL},LR ro σ w az l->LR ro σ w bs m->LR ro σ w (az++bs) (l++m)
 |[],l,bs,m,h,k=>by cases(show l=[]from h);exact k
 |a::az,l,bs,m,⟨v,l',h1,h2,h3⟩,k=>by subst h1;exact⟨v,l'++m,rfl,h2,LR.append h3 k⟩
theorem qW{ro:Nat->Prop}{σ:Ce}{w:AJ}{b t:Nat}{fz:Nat×Nat}:∀{cs:AA A} {pre l post:AA AL},w.heap[b]?=AC (.cells (pre++(l++post)).toArray t fz)->(∀v∈l,QC v)->
  LR ro σ w cs l->CR ro σ w b cs pre.length
 |[],_,_,_,_,_,_=>trivial
 |c::cs,pre,l,post,hb,hpl,⟨v,l',h1,h2,h3⟩=>by
  subst h1;refine⟨⟨v,by simp[World.cell?,hb],hpl v sq,h2⟩,?_⟩;have:=qW (pre:=pre++[v]) (by simpa using hb) gq h3
  grind
theorem YT{ro:Nat->Prop}{σ:Ce}{w:AJ}{b t k:Nat}{fz:Nat×Nat}:∀{es:AA (AA A)} {pre l:AA AL},w.heap[b]?=AC (.cells (pre++l).toArray t fz)->
  RL ro σ w k es l->RR ro σ w b k es pre.length
 |[],_,_,_,_=>trivial
 |c::es,pre,l,hb,⟨l1,l2,h1,h2,h3,h4⟩=>by
  subst h1;refine⟨h2,qW hb h3.2 h3.1,?_⟩;have hl:=h3.1.length;have:=YT (pre:=pre++l1) (by simpa using hb) h4
  grind
theorem Df.row{i d t k e f:Nat}{es:AA (AA A)}{c cs':AA A}(hH:H[i]?=AC (.row t k es))(j:d=e*k+f)(he:es[e]?=AC c)(g:c.drop f=cs'):Df H (.ptr i d) cs':=by
 intro E B σ w v s h;obtain⟨b,x,m⟩:=h;obtain⟨l,q,y⟩:=s.blk i _ _ x hH;have:=((YT (pre:=[]) (by simpa using q) y).get e he).2.drop f;refine⟨b,d,m,?_⟩;subst j g;simpa using this.lift
theorem Df.rowr{i d t k e f:Nat}{es:AA (AA A)}{c cs':AA A}(hH:H[i]?=AC (.rowr t k es))(x:d=e*k+f)(he:es[e]?=AC c)(m:c.drop f=cs'):Df H (.ptr i d) cs':=by
 intro E B σ w v s h;obtain⟨b,j,y⟩:=h;obtain⟨l,g,q⟩:=s.blk i _ _ j hH;have:=((YT (pre:=[]) (by simpa using g) q).get e he).2.drop f
 grind
theorem QmQ(h:w'.heap=w.heap)(a:Addr):w'.cell? a=w.cell? a:=by unfold World.cell?;rw[h]
theorem YE{ro:Nat->Prop}{σ:Ce}{w:AJ}{b f:Nat}:∀{g:AA A} (i:Nat),CR ro σ w b g (f+i)->
  ∃l,LR ro σ w g l/\(∀v∈l,QC v)/\ ∀(w':AJ) (d:Array AL),w'.heap=w.heap->(loadCellsFrom ⟨b,f,AF⟩ i g.length d).run P w'=.ok (d++l.toArray) w'
 |[],i,h=>⟨[],rfl,sq,λw' d _=>by rfl⟩
 |c::g,i,⟨⟨v,h1,hp,h2⟩,h3⟩=>by
  obtain⟨l,q1,qp,q2⟩:=YE (i+1) om;refine⟨v::l,⟨v,l,rfl,h2,q1⟩,gq,λw' d hw=>?_⟩;have h1':w'.cell? ⟨b,f+i,AF⟩=AC v:=by rw[QmQ hw];exact h1
  simp_all[loadCellsFrom,S6]
theorem Qt{t n:Nat}{x:Operand}{p:A}{f:AA A}(F:o.op=.load t x)(G:∀w,(isAgg t).run P w=.ok AE w)(M:∀w,(sizeOf t).run P w=.ok n w)(y:CP env x=p)(g:Df H p f)
  (B:f.take n=vs)(L:vs.length=n):CS P o env H (.agg vs):=by
 intro E j σ N a w r;have d:=Qp r x;rw[y]at d;obtain⟨b,h,J,q⟩:=g E j σ w _ r.sim d;subst B;obtain⟨l,m,_,O⟩:=YE (P:=P) 0 (by simpa using q.take n);refine⟨.agg l.toArray,?_,l,rfl,m⟩
 simp_all[execOp,Instr.loadAt,Instr.sureAddr,loadVar,loadCells]
theorem CS.load{t:Nat}{x:Operand}{p v:A}{j:AA A}(B:o.op=.load t x)(E:∀w,(isAgg t).run P w=.ok AD w)(m:CP env x=p)(f:Df H p (v::j)):CS P o env H v:=by
 intro q h σ N a w r;have d:=Qp r x;rw[m]at d;obtain⟨b,g,F,⟨y,J,_,G⟩,_⟩:=f q h σ w _ r.sim d
 simp_all[execOp,Instr.loadAt,Instr.sureAddr,loadVar]
theorem CS.extract{x:Operand}{vs:AA A}{i:Nat}{v:A}(j:o.op=.extract x i)(h:CP env x=.tup vs)(f:vs[i]?=AC v):CS P o env H v:=by
 intro B q σ N a w r;have d:=Qp r x;rw[h]at d;obtain⟨l,d,g⟩:=d;obtain⟨y,t,m⟩:=g.get i f
 simp_all[execOp,Instr.extract]
theorem CS.field{T f off n:Nat}{x:Operand}{g:AA A}{v:A}(j:Qs P T f off n)(t:∀fs fd,(∀w,(underlying T).run P w=.ok (.struct fs) w)->fs[f]?=AC fd->∀w,(isAgg fd.type).run P w=.ok AD w)
  (J:o.op=.field T x f)(B:CP env x=.agg g)(m:g[off]?=AC v):CS P o env H v:=by
 intro R O σ N a w r;have d:=Qp r x;rw[B]at d;obtain⟨l,d,q⟩:=d;obtain⟨y,Q,M⟩:=q.get off m;obtain⟨fs,fd,L,F,rfl,E,G⟩:=j.h
 simp_all[execOp,Instr.field,asAgg,part]
theorem Zl{fr ro:Nat->Prop}{σ:Ce}{N:Nat}{a:Act}{w:AJ}(r:DN fr ro σ H env N a w):∀(l:AA Operand),LR ro σ w (l.map (CP env)) (l.map a.eval)
 |[]=>rfl
 |x::l=>⟨_,_,rfl,Qp r x,Zl r l⟩
theorem CS.makeFunc{f:Fn}{first cap:AA Operand}{d g:AA A}(m:o.op=.makeFunc f first.toArray cap.toArray)(h:first.map (CP env)=d)(j:cap.map (CP env)=g):CS P o env H (.fn f d g):=by
 intro t q σ N a w r;refine⟨.func f (first.map a.eval).toArray (cap.map a.eval).toArray,?_,_,_,rfl,h▸Zl r first,j▸Zl r cap⟩
 simp_all[execOp,Instr.makeFunc]
theorem eN{x:Operand}{v:A}{d:TypeDesc}(q:o.op=.makeInterface t x)(j:∀w,(underlying t).run P w=.ok d w)(h:∀m,d≠ .interface m)(g:CP env x=v):CS P o env H (.iface t v):=by
 intro B y σ N a w r;have f:=Qp r x;rw[g]at f;refine⟨.iface t (a.eval x),?_,_,rfl,f⟩
 simp_all[execOp,Instr.makeInterface]
end
mutual
def YL:A->Bool
 |.ptr _ _=>AD
 |.osl _ _ _ _=>AD
 |.map _=>AD
 |.agg cs=>YK cs
 |.fn _ a c=>YK a&&YK c
 |.iface _ v=>YL v
 |.tup vs=>YK vs
 |_=>AE
def YK:AA A->Bool
 |[]=>AE
 |a::r=>YL a&&YK r
end
mutual
theorem VR.data{ro:Nat->Prop}{σ σ':Ce}{w:AJ}:∀{a:A} {v:AL},YL a=AE->VR ro σ w a v->VR ro σ' w a v
 |.any,_,_,_=>trivial
 |.bool b,v,_,q=>q
 |.int k n,v,_,q=>q
 |.str s,v,_,q=>q
 |.nilp,v,_,q=>q
 |.ptr i off,v,d,q=>by simp[YL]at d
 |.rp cs,v,_,q=>q
 |.nils,v,_,q=>q
 |.rsl k es,v,_,q=>q
 |.osl i o n k,v,d,q=>by simp[YL]at d
 |.agg cs,v,d,q=>by
  simp only[VR,YL]at q d⊢;obtain⟨l,h1,h2⟩:=q;exact⟨l,h1,LR.data d h2⟩
 |.fn f a c,v,d,q=>by
  simp only[VR,YL,XV]at q d⊢;obtain⟨l,l',h1,h2,h3⟩:=q;exact⟨l,l',h1,LR.data d.1 h2,LR.data d.2 h3⟩
 |.nilf,v,_,q=>q
 |.iface t a,v,d,q=>by
  simp only[VR,YL]at q d⊢;obtain⟨x,h1,h2⟩:=q;exact⟨x,h1,VR.data d h2⟩
 |.nilif,v,_,q=>q
 |.map i,v,d,q=>by simp[YL]at d
 |.nilm,v,_,q=>q
 |.tup vs,v,d,q=>by
  simp only[VR,YL]at q d⊢;obtain⟨l,h1,h2⟩:=q;exact⟨l,h1,LR.data d h2⟩
theorem LR.data{ro:Nat->Prop}{σ σ':Ce}{w:AJ}:∀{az:AA A} {l:AA AL},YK az=AE->LR ro σ w az l->LR ro σ' w az l
 |[],_,_,q=>q
 |a::r,l,d,q=>by
  simp only[LR,YK,XV]at q d⊢;obtain⟨v,l',h1,h2,h3⟩:=q;exact⟨v,l',h1,VR.data d.1 h2,LR.data d.2 h3⟩
end
def Yu:A->Bool
 |.any|.agg _|.tup _=>AD
 |_=>AE
def Yj:A->AA A
 |.agg cs=>cs
 |a=>[a]
def Yn:A->Bool
 |.any=>AD
 |_=>AE
theorem VR.plain{a:A}{v:AL}(d:Yu a=AE)(h:VR ro σ w a v):QC v:=by
 cases a<;>first|(simp[Yu]at d)|skip
 case rsl k es=>obtain⟨f,c,rfl,_⟩:=h;trivial
 case osl=>rcases h with⟨_,rfl⟩|⟨_,_,_,_,_,_,rfl,_⟩<;>trivial
 case fn=>obtain⟨_,_,rfl,_⟩:=h;trivial
 case iface=>obtain⟨_,rfl,_⟩:=h;trivial
 case ptr=>obtain⟨_,_,rfl⟩:=h;trivial
 case rp=>obtain⟨_,_,rfl,_⟩:=h;trivial
 case map=>obtain⟨_,_,rfl⟩:=h;trivial
 all_goals (subst h;trivial)
theorem VR.cells{ro:Nat->Prop}{σ:Ce}{w:AJ}{a:A}{v:AL}(f:Yn a=AE)(h:VR ro σ w a v):∃l:AA AL,v.cells=l.toArray/\LR ro σ w (Yj a) l:=by
 cases a
 case any=>simp[Yn]at f
 case agg cs=>obtain⟨l,rfl,h⟩:=h;exact⟨l,rfl,h⟩
 case tup cs=>obtain⟨l,rfl,h⟩:=h;exact⟨[.tuple l.toArray],rfl,_,_,rfl,⟨l,rfl,h⟩,rfl⟩
 all_goals
  have d:=h.plain rfl;refine⟨[v],?_,v,[],rfl,h,rfl⟩;cases v<;>first|rfl|exact d.elim
theorem LR.plain{ro:Nat->Prop}{σ:Ce}{w:AJ}:∀{az:AA A} {l:AA AL},az.all Yu=AE->LR ro σ w az l->∀v∈l,QC v
 |[],l,_,h=>by cases(show l=[]from h);simp
 |a::az,l,hp,⟨v,l',h1,h2,h3⟩=>by
  subst h1;simp only[List.all_cons,XV]at hp;intro x hx;rcases X6.1 hx with rfl|hx
  .exact h2.plain hp.1
  .exact LR.plain hp.2 h3 x hx
theorem YA(w:AJ)(obj:Obj)(b:Nat)(d:b<w.heap.size):(w.alloc obj).heap[b]?=w.heap[b]? :=by
 show(w.heap.push obj)[b]?=_
 grind
theorem Yz(w:AJ)(obj:Obj):(w.alloc obj).heap[w.heap.size]?=AC obj:=by
 show(w.heap.push obj)[w.heap.size]?=_;simp
theorem Jg(w:AJ)(obj:Obj):(w.alloc obj).heap.size=w.heap.size+1:=by
 simp
theorem Qn7{b:Nat}{x:TypeId×Nat}(h:w.shape? b=AC x):b<w.heap.size:=by
 grind[World.shape?]
theorem Ql.alloc{fr ro:Nat->Prop}{w:AJ}(obj:Obj)(hro:∀b,ro b->b<w.heap.size)(hfr:∀b,fr b->b<w.heap.size):Ql fr ro w ro (w.alloc obj):=
 ⟨λ_ h=>h,λb h=>YA w obj b (hro b h),λb h=>YA w obj b (hfr b h),sq,
  λb x h=>by grind[World.shape?,YA],rfl,rfl,rfl,XS _⟩
variable {rest:AA AL}{α:Type}
section
variable {P:AK} {o:AM} {env:Env} {H:Qc} {fr ro:Nat->Prop} {σ:Ce} {w:AJ}
theorem CZ.alloc(s:CZ fr ro σ H w){obj:Obj}{x:CW}(Q:BR ro (σ++[AC w.heap.size]) (w.alloc obj) x (AC w.heap.size))
  (M:∀c,Dq (w.alloc obj) x w.heap.size c->False:=by exact λ_ h=>h.elim):
  CZ fr ro (σ++[AC w.heap.size]) (H++[x]) (w.alloc obj):=by
 have ev:Ql fr ro w ro (w.alloc obj):=Ql.alloc obj s.roLt s.frLt;have F:=s.len;have f:∀(i:Nat) (y:AB Nat),(σ++[AC w.heap.size])[i]?=AC y->(i<σ.length/\σ[i]?=AC y)\/(i=σ.length/\y=AC w.heap.size):=by
  grind
 have t:∀i:Nat,i<σ.length->(H++[x])[i]?=H[i]? :=λi R=>XL om;have P:(H++[x])[σ.length]?=AC x:=by rw[F];simp
 refine⟨by simp[F],s.roOk.to (λ_ q=>q) ev.keepRo (λb h=>?_),λb h=>?_,s.roFr,?_,?_,?_,?_⟩
 .rw[Jg];have:=s.roLt b h;omega
 .rw[Jg];have:=s.frLt b h;omega
 .intro i b y g m G;rw[Jg];rcases f i _ g with⟨q,g⟩|⟨rfl,E⟩
  .rw[t i q]at m;obtain⟨a,b,c⟩:=s.own i b y g m G
   grind
  .cases E;exact⟨om,λq=>by have:=s.roLt _ q;omega,λq=>by have:=s.frLt _ q;omega⟩
 .intro i j b y z g m G L O N;rcases f i _ g with⟨q,g⟩|⟨rfl,E⟩<;>rcases f j _ m with⟨q',m⟩|⟨rfl,e2⟩
  .rw[t i q]at G;rw[t j q']at L;exact s.inj i j b y z g m G L O N
  .cases e2;rw[t i q]at G;have:=(s.own i _ y g G O).1;omega
  .cases E;rw[t j q']at L;have:=(s.own j _ z m L N).1;omega
  .rfl
 .intro i y z g m;rcases f i _ g with⟨q,g⟩|⟨rfl,E⟩
  .rw[t i q]at m;refine(s.blk i y z g m).keep (ev.ext σ _) ?_ ?_
   .rintro b rfl F;exact YA w obj b (s.own i b z g m F).1
   .rintro b c rfl F;exact YA w obj c (s.hid i b z c g m F).lt
  grind
 .refine s.hidTo (· = ·) Yq (by rw[Jg];omega) (λ_ _ _ _ _ _ _ q=>q) (λ_ _ _ _ _ _ _ q=>q) λj d y J B T=>?_;rcases f j _ J with⟨q,J⟩|⟨rfl,E⟩
  .rw[t j q]at B;exact .inl ⟨j,y,rfl,J,B,id,λc q=>s.hidKeep J B (λz=>YA w obj d (s.own j d y J B z).1) ev.keepRo q⟩
  .rw[P]at B;cases B;cases E;exact .inr ⟨XS _,M⟩
theorem CZ.allocCells(s:CZ fr ro σ H w){t:Nat}{cs:AA A}{l:AA AL}(h:LR ro σ w cs l)(hp:∀v∈l,QC v):
  CZ fr ro (σ++[AC w.heap.size]) (H++[.cells t cs]) (w.alloc (.cells l.toArray t)):=
 s.alloc ⟨l,Yz _ _,h.mono ((Ql.alloc _ s.roLt s.frLt).ext σ _),hp⟩
theorem rS{ro:Nat->Prop}{σ:Ce}{w:AJ}:∀{az bs:AA A} {l:AA AL},LR ro σ w (az++bs) l->∃l1 l2,l=l1++l2/\LR ro σ w az l1/\LR ro σ w bs l2
 |[],bs,l,h=>⟨[],l,rfl,rfl,h⟩
 |a::az,bs,l,⟨v,l',h1,h2,h3⟩=>by
  obtain⟨l1,l2,e,q1,q2⟩:=rS h3;subst h1 e;exact⟨v::l1,l2,rfl,⟨v,l1,rfl,h2,q1⟩,q2⟩
def allK(k:Nat):AA (AA A)->Prop
 |[]=>True
 |c::es=>c.length=k/\allK k es
theorem Jh{k:Nat}:∀{es:AA (AA A)} {l rest:AA AL},allK k es->LR ro σ w es.flatten l->(∀v∈l,QC v)->RL ro σ w k es (l++rest)
 |[],_,_,_,_,_=>trivial
 |c::es,l,rest,⟨h1,h2⟩,h,hp=>by
  obtain⟨l1,l2,rfl,q1,q2⟩:=rS h;exact⟨l1,l2++rest,sq,h1,gq,Jh h2 q2 gq⟩
theorem CZ.allocRow(s:CZ fr ro σ H w){t:Nat}{l:AA AL}(hk:allK k es)(h:LR ro [] w es.flatten l)(hp:∀v∈l,QC v):
  CZ fr ro (σ++[AC w.heap.size]) (H++[.row t k es]) (w.alloc (.cells (l++rest).toArray t)):=
 s.alloc ⟨l++rest,Yz _ _,(Jh hk h hp).mono ((Ql.alloc _ s.roLt s.frLt).ext0 [])⟩
theorem CZ.allocRowr(s:CZ fr ro σ H w){t:Nat}{l:AA AL}(hk:allK k es)(h:LR ro σ w es.flatten l)(hp:∀v∈l,QC v):
  CZ fr ro (σ++[AC w.heap.size]) (H++[.rowr t k es]) (w.alloc (.cells (l++rest).toArray t)):=
 s.alloc ⟨l++rest,Yz _ _,(Jh hk h hp).mono ((Ql.alloc _ s.roLt s.frLt).ext σ _)⟩
theorem E_.box{t:Nat}{x:Operand}{v:A}{d:AA A}(E:o.op=.box t x)(B:CP env x=v)(m:Yn v=AE)(g:Yj v=d)(f:d.all Yu=AE):
  E_ P o env H (.ptr H.length 0) (H++[.cells t d]):=by
 intro F y σ N a w r;have h:=Qp r x;rw[B]at h;obtain⟨l,q,j⟩:=h.cells m;subst g;refine⟨.pointer (AC ⟨w.heap.size,0,AF⟩),w.alloc (.cells l.toArray t),y,[AC w.heap.size],?_,⟨w.heap.size,?_,rfl⟩,r.sim.allocCells j (j.plain f),Ql.alloc _ r.sim.roLt r.sim.frLt⟩
 .generalize a.eval=ρ at*;have e:(newVar t (ρ x)).run P w=.ok ⟨w.heap.size,0,AF⟩ (w.alloc (.cells l.toArray t)):=by
   unfold newVar;rw[q];rfl
  simp_all[execOp,Instr.box]
 .rw[<- r.sim.len];simp
theorem CZ.set(s:CZ fr ro σ H w){i b:Nat}{x x':CW}{obj:Obj}(hσ:σ[i]?=AC (AC b))(hH:H[i]?=AC x)(G:x.live=AE)
  (ac:∀y,w.shape? b=AC y->({w with heap:=w.heap.setIfInBounds b obj}:AJ).shape? b=AC y)
  (P:DR ro σ w ro σ {w with heap:=w.heap.setIfInBounds b obj}->({w with heap:=w.heap.setIfInBounds b obj}:AJ).heap[b]?=AC obj->BR ro σ {w with heap:=w.heap.setIfInBounds b obj} x' (AC b))
  (ab:∀c,Dq {w with heap:=w.heap.setIfInBounds b obj} x' b c->Dq w x b c:=by exact λ_ h=>h.elim):
  CZ fr ro σ (H.set i x') {w with heap:=w.heap.setIfInBounds b obj}/\Ql fr ro w ro {w with heap:=w.heap.setIfInBounds b obj}:=by
 obtain⟨hb,R,V⟩:=s.own i b x hσ hH G;have B:∀c,c≠b->({w with heap:=w.heap.setIfInBounds b obj}:AJ).heap[c]?=w.heap[c]? :=by
  grind
 have O:({w with heap:=w.heap.setIfInBounds b obj}:AJ).heap[b]?=AC obj:=by
  grind
 have F:({w with heap:=w.heap.setIfInBounds b obj}:AJ).heap.size=w.heap.size:=sq;have ev:Ql fr ro w ro {w with heap:=w.heap.setIfInBounds b obj}:=
  ⟨λ_ h=>h,gq,gq,om,by
   grind[World.shape?],rfl,rfl,rfl,XS _⟩
 have hi:i<H.length:=gq;have aa:(H.set i x')[i]?=AC x':=gq;have f:∀j,j≠i->(H.set i x')[j]?=H[j]? :=gq;have X:=P (ev.ext0 σ) O;refine⟨⟨by rw[X3];exact s.len,s.roOk.to (λ_ q=>q) ev.keepRo (λc h=>by rw[F];exact s.roLt c h),λc h=>by rw[F];exact s.frLt c h,s.roFr,?_,?_,?_,?_⟩,ev⟩
 .intro j c y m g J;rw[F];by_cases q:j=i
  .grind
  .rw[f j q]at g;exact s.own j c y m g J
 .intro j t c y z m g J N T W;by_cases q:j=i
  .subst q;rw[hσ]at m;cases m;by_cases L:t=j
   .exact L.symm
   .rw[f t L]at N;exact s.inj j t _ x z hσ g hH N G W
  .rw[f j q]at J;by_cases L:t=i
   .subst L;rw[hσ]at g;cases g;exact s.inj j t _ y x m hσ J hH T G
   .rw[f t L]at N;exact s.inj j t c y z m g J N T W
 .intro j y z m g;by_cases q:j=i
  .grind
  .rw[f j q]at g;refine(s.blk j y z m g).keep (ev.ext0 σ) ?_ ?_
   .rintro c rfl E;exact B c (λe=>q (s.inj j i b z x (e▸m) hσ g hH E G))
   .rintro c d rfl Y;exact B d ((s.hid j c z d m g Y).ne i b x hσ hH G)
 .refine s.hidTo (· = ·) Yq om (λ_ _ _ _ _ _ _ q=>q) (λ_ _ _ _ _ _ _ q=>q) λj d y Q M g3=>.inl ?_;by_cases q:j=i
  .grind
  .rw[f j q]at M;exact⟨j,y,rfl,Q,M,id,λc z=>s.hidKeep Q M (λE=>B d (λe=>q (s.inj j i b y x (e▸Q) hσ M hH E G))) ev.keepRo z⟩
def splice(l:AA α)(o:Nat)(vs:AA α):AA α:=l.take o++vs++l.drop (o+vs.length)
theorem YB{α:Type}{l:AA α}{o:Nat}{vs:AA α}(h:o+vs.length<=l.length):(splice l o vs).length=l.length:=by
 simp[splice];omega
theorem mj{h:Array Obj}{b:Nat}{f:Obj->Obj}{x:Obj}(d:h[b]?=AC x):h.modify b f=h.setIfInBounds b (f x):=by
 grind
theorem YC{b t:Nat}:∀{vs l:AA AL} {w:AJ} (d i:Nat),w.heap[b]?=AC (.cells l.toArray t (0,0))->d+i+vs.length<=l.length->(∀v∈vs,QC v)->
  (storeCells ⟨b,d,AF⟩ vs i).run P w=.ok () {w with heap:=w.heap.setIfInBounds b (.cells (splice l (d+i) vs).toArray t (0,0))}
 |[],l,w,d,i,hb,hl,hp=>by
  have e:w.heap.setIfInBounds b (.cells (splice l (d+i) []).toArray t (0,0))=w.heap:=by
   apply Array.ext_getElem?;intro j;rw[Ve];by_cases q:b=j
   .subst q;obtain⟨f,y⟩:=Vc.1 hb;simp[f,splice,y]
   grind
  rw[e];rfl
 |v::vs,l,w,d,i,hb,hl,hp=>by
  simp only[XZ]at hl;have B:=hp v sq;have G:w.cell? ⟨b,d+i,AF⟩=AC l[d+i]:=by
   simp[World.cell?,hb]
  have h:w.frozen? ⟨b,d+i,AF⟩=false:=by
   simp[World.frozen?,hb]
  have g:w.setCell ⟨b,d+i,AF⟩ v={w with heap:=w.heap.setIfInBounds b (.cells (splice l (d+i) [v]).toArray t (0,0))}:=by
   unfold World.setCell;rw[mj hb];simp only[Option.isSome_none,Xi,if_false];congr 3;have:l.toArray.setIfInBounds (d+i) v=(l.set (d+i) v).toArray:=sq;rw[this];congr 1;rw[List.set_eq_take_append_cons_drop,Vs om];simp[splice]
  have f:b<w.heap.size:=by
   grind
  have E:=YC (vs:=vs) (l:=splice l (d+i) [v]) (w:={w with heap:=w.heap.setIfInBounds b (.cells (splice l (d+i) [v]).toArray t (0,0))}) d (i+1)
   (by show(w.heap.setIfInBounds b _)[b]?=_;rw[Ve,Vs rfl,Vs f])
   (by rw[YB (by simp;omega)];omega) gq
  have M:splice (splice l (d+i) [v]) (d+(i+1)) vs=splice l (d+i) (v::vs):=by
   have m:(l.take (d+i)).length=d+i:=by simp;omega
   unfold splice;rw[Vi (l.take (d+i))];have J:d+(i+1)=(l.take (d+i)).length+1:=om;have H:(l.take (d+i)++([v]++l.drop (d+i+[v].length))).take ((l.take (d+i)).length+1)=l.take (d+i)++[v]:=by
    grind
   have L:(l.take (d+i)++([v]++l.drop (d+i+[v].length))).drop ((l.take (d+i)).length+1+vs.length)=l.drop (d+i+(v::vs).length):=by
    rw[show(l.take (d+i)).length+1+vs.length=(l.take (d+i)).length+(1+vs.length)from om,Va];simp[Nat.add_comm 1];omega
   simp_all
  have F:(w.heap.setIfInBounds b (.cells (splice l (d+i) [v]).toArray t (0,0))).setIfInBounds b (.cells (splice (splice l (d+i) [v]) (d+(i+1)) vs).toArray t (0,0))=
    w.heap.setIfInBounds b (.cells (splice l (d+i) (v::vs)).toArray t (0,0)):=by
   grind
  rw[F]at E;have x:(Go.store ⟨b,d+i,AF⟩ v).run P w=.ok () {w with heap:=w.heap.setIfInBounds b (.cells (splice l (d+i) [v]).toArray t (0,0))}:=by
   rw[<- g];cases v<;>first|exact B.elim|simp[Go.store,Sem.run,G,h,go_sem]
  simp_all[storeCells,S6]
theorem JF{b t:Nat}{l l':AA AL}(g:w.heap[b]?=AC (.cells l.toArray t (0,0)))(f:l'.length=l.length)(y:TypeId×Nat)(h:w.shape? b=AC y):
  {w with heap:=w.heap.setIfInBounds b (.cells l'.toArray t (0,0))}.shape? b=AC y:=by
 have d:b<w.heap.size:=by
  grind
 simp_all[World.shape?]
theorem LR.splice{ro:Nat->Prop}{σ:Ce}{w:AJ}{az vs:AA A}{l m:AA AL}(d:Nat)(h:LR ro σ w az l)(k:LR ro σ w vs m):LR ro σ w (Sw.splice az d vs) (Sw.splice l d m):=by
 unfold Sw.splice;rw[k.length];exact((h.take d).append k).append (h.drop _)
theorem t9{l m:AA AL}{d:Nat}(h:∀v∈l,QC v)(k:∀v∈m,QC v):∀v∈Sw.splice l d m,QC v:=by
 grind[Sw.splice]
theorem I6.store{t n i off T:Nat}{x y:Operand}{h vs cs':AA A}{v:A}(ho:o.op=.store t x y)(R:CP env x=.ptr i off)(hH:H[i]?=AC (.cells T h))(hs:∀w,(sizeOf t).run P w=.ok n w)
  (j:CP env y=v)(W:Yn v=AE)(Y:Yj v=vs)(V:vs.length=n)(F:vs.all Yu=AE)(O:Nat.ble (off+n) h.length=AE)(B:splice h off vs=cs'):
  I6 P o env H (H.set i (.cells T cs')):=by
 intro fr Q σ N a w r;have f:=Qp r x;rw[R]at f;obtain⟨b,f,h2⟩:=f;have J:=Qp r y;rw[j]at J;obtain⟨m,h4,g⟩:=J.cells W;rw[Y]at g;obtain⟨l,M,E,q3⟩:=r.sim.blk i _ _ f hH;have q:off+n<=h.length:=by simp_all
 have L:m.length=n:=by rw[g.length,V]
 have G:=YC (P:=P) off 0 M (by rw[E.length,L];omega) (g.plain F);have d:=r.sim.set (x':=.cells T cs') f hH rfl
  (λy j=>JF M (YB (by rw[E.length,L];omega)) y j)
  (λe X=>⟨_,X,B▸(E.splice off g).mono e,t9 q3 (g.plain F)⟩)
 refine⟨_,Q,[],?_,gq,d.2⟩
 simp_all[storeVar,execOp,Instr.storeAt,Instr.sureAddr]
theorem RL.splice{ro:Nat->Prop}{σ:Ce}{w:AJ}{k:Nat}:∀{e:Nat} {es:AA (AA A)} {l m:AA AL} {c c':AA A} {f:Nat},RL ro σ w k es l->es[e]?=AC c->LR ro σ w c' m->(∀v∈m,QC v)->f+c'.length<=k->
  RL ro σ w k (es.set e (Sw.splice c f c')) (Sw.splice l (e*k+f) m)
 |_,[],_,_,_,_,_,_,h,_,_,_=>by simp at h
 |0,c0::es,l,m,c,c',f,⟨l1,l2,h1,h2,h3,h4⟩,hc,hm,hp,hf=>by
  simp at hc;subst hc h1;have hl1:=h3.1.length;refine⟨Sw.splice l1 f m,l2,?_,?_,⟨h3.1.splice f hm,t9 h3.2 hp⟩,h4⟩
  .unfold Sw.splice;simp[Nat.zero_mul,Xv,Vi];rw[X7 om,X8 (by rw[hm.length];omega)]
  .rw[YB om];exact h2
 |e+1,c0::es,l,m,c,c',f,⟨l1,l2,h1,h2,h3,h4⟩,hc,hm,hp,hf=>by
  subst h1;have hl1:=h3.1.length;refine⟨l1,Sw.splice l2 (e*k+f) m,?_,h2,h3,RL.splice h4 gq hm hp hf⟩;have e1:(e+1)*k+f=l1.length+(e*k+f):=gq;unfold Sw.splice;rw[e1,Vb,show l1.length+(e*k+f)+m.length=l1.length+(e*k+f+m.length)from om,Va];simp
theorem RL.length{ro:Nat->Prop}{σ:Ce}{w:AJ}{k:Nat}:∀{es:AA (AA A)} {l:AA AL},RL ro σ w k es l->es.length*k<=l.length
 |[],l,_=>sq
 |c::es,l,⟨l1,l2,h1,h2,h3,h4⟩=>by
  have:=RL.length h4;have:=h3.1.length
  grind[Nat.succ_mul]
theorem Qh5{t n i e f:Nat}{x y:Operand}{d:AA (AA A)}{c J:AA A}{v:A}(ho:o.op=.store t x y)(hx:CP env x=.ptr i off)(hH:H[i]?=AC (.row T k es))(hs:∀w,(sizeOf t).run P w=.ok n w)
  (q:off=e*k+f)(hc:es[e]?=AC c)(B:CP env y=v)(Y:Yn v=AE)(hv:Yj v=vs)(hn:vs.length=n)(O:vs.all Yu=AE)(W:YK vs=AE)(hf:Nat.ble (f+n) k=AE)
  (E:splice c f vs=J)(G:es.set e J=d):
  I6 P o env H (H.set i (.row T k d)):=by
 intro fr X σ N a w r;have g:=Qp r x;rw[hx]at g;obtain⟨b,g,h2⟩:=g;have R:=Qp r y;rw[B]at R;obtain⟨m,h4,h⟩:=R.cells Y;rw[hv]at h;obtain⟨l,L,V⟩:=r.sim.blk i _ _ g hH;have aa:f+n<=k:=by simp_all
 have hm:m.length=n:=by rw[h.length,hn]
 have he:e<es.length:=gq;have M:off+n<=l.length:=by
  have:=V.length;have h6:=XB k he
  grind
 have Q:=YC (P:=P) off 0 L om (h.plain O);have j:=r.sim.set (x':=.row T k d) (obj:=.cells (splice l off m).toArray T (0,0)) g hH rfl
  (λy B=>JF L (YB om) y B)
  (λex F=>⟨_,F,by
   subst G E q;exact(V.splice hc (h.data W) (h.plain O) om).mono ex.nil⟩)
 refine⟨_,X,[],?_,gq,j.2⟩
 simp_all[storeVar,execOp,Instr.storeAt,Instr.sureAddr]
end
variable {T' cap e':Nat}{ad ax:AB Addr}{fs:AA (AA A)}{new:AA AL}
section
variable {P:AK} {o:AM} {env:Env} {H:Qc} {fr ro:Nat->Prop} {σ:Ce} {w:AJ}
theorem DR.heap{w':AJ}(h:w'.heap=w.heap):DR ro σ w ro σ w':=
 ⟨λ_ q=>q,λb _=>by rw[h],λb x q=>by unfold World.shape? at q⊢;grind,λ_ _ q=>q⟩
theorem CZ.heap{w':AJ}(s:CZ fr ro σ H w)(h:w'.heap=w.heap):CZ fr ro σ H w':=
 ⟨s.len,s.roOk.to (λ_ q=>q) (λb _=>by rw[h]) (λb q=>by rw[h];exact s.roLt b q),λb q=>by rw[h];exact s.frLt b q,s.roFr,λi b x q1 q2 q3=>by rw[h];exact s.own i b x q1 q2 q3,s.inj,
  λi y x q1 q2=>(s.blk i y x q1 q2).keep (DR.heap h) gq gq,
  s.hidTo (· = ·) Yq gq sq sq λj d y g1 g2 g3=>.inl ⟨j,y,rfl,g1,g2,id,λc q=>q.keep (by rw[h])⟩⟩
theorem Ql.heap{w':AJ}(h:w'.heap=w.heap)(ho:w'.os=w.os)(ht:w'.tape=w.tape)(hu:w'.output=w.output)(hd:w.drawn<=w'.drawn):Ql fr ro w ro w':=
 ⟨λ_ q=>q,λb _=>by rw[h],λb _=>by rw[h],gq,λb x q=>by unfold World.shape? at q⊢;grind,ho,ht,hu,hd⟩
theorem CZ.moved(s:CZ fr ro σ H w){i:Nat}{x:CW}{y:AB Nat}(hH:H[i]?=AC x)(hσ:σ[i]?=AC y):CZ fr ro (σ++[y]) (H.set i .dead++[x]) w:=by
 have V:=s.len;have hi:i<H.length:=gq;have f:∀(j:Nat) (z:AB Nat) (v:CW),(σ++[y])[j]?=AC z->(H.set i .dead++[x])[j]?=AC v->v≠ .dead->
   (j<σ.length/\j≠i/\σ[j]?=AC z/\H[j]?=AC v)\/(j=σ.length/\z=y/\v=x):=by
  grind
 have hσ':∀(j:Nat) (b:Nat),σ[j]?=AC (AC b)->(σ++[y])[j]?=AC (AC b):=gq;have ext:DR ro σ w ro (σ++[y]) w:=⟨λ_ q=>q,λ_ _=>rfl,λ_ _ q=>q,hσ'⟩;refine⟨by simp[V],s.roOk,s.frLt,s.roFr,?_,?_,?_,s.hidTo (λj N=>(j<σ.length/\j≠i/\N=j)\/(j=σ.length/\N=i)) om (XS _) sq sq λj d y T Q Y=>.inl ?_⟩
 rotate_left 3
 .rcases f j _ y T Q (iJ Y)with⟨O,P,g,h⟩|⟨O,J,rfl⟩
  .grind
  grind
 .intro j b v t m B;rcases f j _ v t m (CW.nd B)with⟨_,_,g,h⟩|⟨_,J,rfl⟩
  .exact s.own j b v g h B
  .subst J;exact s.own i b v hσ hH B
 .intro j L b v E t m B R F G;rcases f j _ v t B (CW.nd F)with⟨_,X,g,h⟩|⟨r1,J,W⟩<;>rcases f L _ E m R (CW.nd G)with⟨_,n1',q1',q2'⟩|⟨r1',e1',r2'⟩
  .exact s.inj j L b v E g q1' h q2' F G
  .subst e1' r2';exact(X (s.inj j i b v E g hσ h hH F G)).elim
  .subst J W;exact(n1' (s.inj L i b E v q1' hσ q2' hH G F)).elim
  omega
 .intro j z v t m;by_cases M:v≠ .dead
  .rcases f j z v t m M with⟨_,_,g,h⟩|⟨_,rfl,rfl⟩
   .exact(s.blk j z v g h).keep ext (λ_ _ _=>rfl) (λ_ _ _ _=>rfl)
   .exact(s.blk i _ _ hσ hH).keep ext (λ_ _ _=>rfl) (λ_ _ _ _=>rfl)
  .obtain rfl:v=.dead:=Classical.not_not.1 M;trivial
def Ht(P:AK)(H:Qc)(x:A)(k:Nat)(es:AA (AA A)):Prop:=
 ∀fr ro σ w v,CZ fr ro σ H w->VR ro σ w x v->(∃a c,v=.slice a es.length c)/\allK k es/\
  ∃l,(∀w':AJ,w'.heap=w.heap->(Builtin.firstCells k es.length v).run P w'=.ok l.toArray w')/\LR ro [] w es.flatten l/\ ∀v∈l,QC v
theorem RR.flat{b k:Nat}:∀{es:AA (AA A)} {f:Nat},RR ro σ w b k es f->CR ro σ w b es.flatten f/\allK k es/\es.flatten.length=es.length*k
 |[],f,_=>⟨trivial,trivial,sq⟩
 |c::es,f,⟨h1,h2,h3⟩=>by
  obtain⟨q1,q2,q3⟩:=RR.flat h3;refine⟨?_,⟨h1,q2⟩,gq⟩;have:∀(c:AA A) (f:Nat) (d:AA A),CR ro σ w b c f->CR ro σ w b d (f+c.length)->CR ro σ w b (c++d) f:=by
   intro c
   induction c with
   |nil=>simp
   |cons x c g=>intro f d ⟨h1,h2⟩ h;exact⟨h1,g (f+1) d h2 gq⟩
  grind
theorem mt{b d n c:Nat}{f:AA A}(h:CR ro σ w b f d)(m:f.length=n*k):
  ∃l,(∀w',w'.heap=w.heap->(Builtin.firstCells k n (.slice (AC ⟨b,d,AF⟩) n c)).run P w'=.ok l.toArray w')/\LR ro σ w f l/\ ∀v∈l,QC v:=by
 obtain⟨l,q,j,g⟩:=YE (P:=P) 0 (by simpa using h)
 grind[Builtin.firstCells,loadCells]
theorem Zu{c:Nat}{a:AB Addr}:(Builtin.firstCells k 0 (.slice a 0 c)).run P w=.ok #[] w:=by
 cases a<;>simp[go_sem]
theorem Ht.rsl{k:Nat}{es:AA (AA A)}:Ht P H (.rsl k es) k es:=by
 intro t q σ w v s ⟨a,c,h1,h2,h3⟩;subst h1;refine⟨⟨a,c,rfl⟩,?_⟩;rcases h3 with rfl|⟨b,d,rfl,m,g⟩
 .exact⟨trivial,[],λ_ _=>Zu,rfl,sq⟩
 .obtain⟨f,j,h⟩:=g.flat;exact⟨j,mt f h⟩
theorem Ht.nils{k:Nat}:Ht P H .nils k []:=by
 intro f d σ w v s h;subst h;exact⟨⟨AF,0,rfl⟩,trivial,[],λ_ _=>Zu,rfl,sq⟩
theorem RR.drop{b k:Nat}:∀(n:Nat) {es:AA (AA A)} {off:Nat},RR ro σ w b k es off->RR ro σ w b k (es.drop n) (off+n*k)
 |0,_,_,h=>by simpa using h
 |n+1,[],_,_=>trivial
 |n+1,c::es,off,⟨h1,h2,h3⟩=>by
  have:=RR.drop n h3
  grind
theorem RR.take{b k:Nat}:∀(n:Nat) {es:AA (AA A)} {off:Nat},RR ro σ w b k es off->RR ro σ w b k (es.take n) off
 |0,_,_,h=>trivial
 |n+1,[],_,_=>trivial
 |n+1,c::es,off,⟨h1,h2,h3⟩=>⟨h1,h2,RR.take n h3⟩
theorem Ht.osl{i s n k t:Nat}{es d:AA (AA A)}(hH:H[i]?=AC (.row t k es))(he:(es.drop s).take n=d)(O:s+n<=es.length):Ht P H (.osl i s n k) k d:=by
 intro Q F σ w v sm h;have q:d.length=n:=gq;rcases h with⟨rfl,rfl⟩|⟨b,p,f,G,m,x,rfl,B,L,E,J⟩
 .have e:d=[]:=gq;subst e;exact⟨⟨AF,0,rfl⟩,trivial,[],λ_ _=>Zu,rfl,sq⟩
 .rw[q];refine⟨⟨_,f,rfl⟩,?_⟩;obtain⟨l,g,j⟩:=sm.blk i _ _ x hH;have y:=((YT (pre:=[]) (by simpa using g) j).drop s).take n;by_cases N:0<f
  .obtain⟨g,j,M⟩:=y.flat
   simp_all[mt]
  .obtain rfl:n=0:=by omega
   have e:d=[]:=gq;subst e;exact⟨trivial,[],λ_ _=>Zu,rfl,sq⟩
def YG:Nat:=4294967296
theorem QeF(n c:Nat)(h:c<n):Builtin.nextslicecap n c<=4*n+1000:=by
 grind[Builtin.nextslicecap,Builtin.growBy]
class ElemTy (P:AK) (T:Nat) (e k:outParam Nat):Prop where
 sl:∀w,(underlying T).run P w=.ok (.slice e) w
 size:∀w,(sizeOf e).run P w=.ok k w
 zero:∃z,(∀w,(zeroValue e).run P w=.ok z w)/\z.cells.size=k
 bytes:∃i,(∀w,(typeInfo e).run P w=.ok i w)/\i.bytes<=4096
theorem rT{l:AA AL}(s:CZ fr ro σ H w)(hk:allK k es)(h:LR ro [] w es.flatten l)(hp:∀v∈l,QC v):
  CZ fr ro (σ++[AC w.heap.size]) (H++[.row T k es]) (w.alloc (.cells (l++rest).toArray T))/\Ql fr ro w ro (w.alloc (.cells (l++rest).toArray T)):=
 ⟨s.allocRow hk h hp,Ql.alloc _ s.roLt s.frLt⟩
theorem Y1{k:Nat}:∀{es:AA (AA A)},allK k es->es.flatten.length=es.length*k
 |[],_=>sq
 |c::es,⟨h1,h2⟩=>by simp[Y1 h2,h1,Xm,Nat.add_comm]
theorem uR{k:Nat}:∀{es fs:AA (AA A)},allK k es->allK k fs->allK k (es++fs)
 |[],_,_,h=>h
 |c::es,_,⟨h1,h2⟩,h=>⟨h1,uR h2 h⟩
theorem tr{k:Nat}:∀{es:AA (AA A)} (n:Nat),allK k es->allK k (es.take n)
 |_,0,_=>trivial
 |[],n+1,_=>trivial
 |c::es,n+1,⟨h1,h2⟩=>⟨h1,tr n h2⟩
theorem RL.allK{k:Nat}:∀{es:AA (AA A)} {l:AA AL},RL ro σ w k es l->allK k es
 |[],_,_=>trivial
 |c::es,l,⟨l1,l2,h1,h2,h3,h4⟩=>⟨h2,RL.allK h4⟩
theorem RL.app{k:Nat}:∀{n:Nat} {es fs:AA (AA A)} {l m:AA AL},RL ro σ w k es l->n<=es.length->Sw.allK k fs->LR ro σ w fs.flatten m->(∀v∈m,QC v)->
  RL ro σ w k (es.take n++fs) (Sw.splice l (n*k) m)
 |0,es,fs,l,m,h,hn,hk,hm,hp=>by
  simp_all[Sw.splice,Jh]
 |n+1,[],fs,l,m,h,hn,hk,hm,hp=>by simp at hn
 |n+1,c::es,fs,l,m,⟨l1,l2,h1,h2,h3,h4⟩,hn,hk,hm,hp=>by
  subst h1;have hl1:=h3.1.length;refine⟨l1,Sw.splice l2 (n*k) m,?_,h2,h3,RL.app h4 gq hk hm hp⟩;have e1:(n+1)*k=l1.length+n*k:=gq;unfold Sw.splice;rw[e1,Vb,show l1.length+n*k+m.length=l1.length+(n*k+m.length)from om,Va];simp
theorem Qn8{e need:Nat}(E:ElemTy P T e k)(O:∀w,(underlying T').run P w=.ok (.slice e') w){n c:Nat}
  (g:need=n+m)(j:cap<need)(d:need<=YG){old:AA AL}
  (M:∀w':AJ,w'.heap=w.heap->(Builtin.firstCells k m (.slice ax m c)).run P w'=.ok new.toArray w')(J:∀w':AJ,w'.heap=w.heap->(Builtin.firstCells k n (.slice ad n cap)).run P w'=.ok old.toArray w'):
  ∃(rest:AA AL) (f:Nat),(need<=f/\f<=9223372036854775807)/\rest.length=(f-need)*k/\(Builtin.append_ #[T,T'] t #[.slice ad n cap,.slice ax m c]).run P w=
   .ok (.slice (AC ⟨w.heap.size,0,AF⟩) need f) (({w with drawn:=w.drawn+1}:AJ).alloc (.cells ((old++new)++rest).toArray e)):=by
 obtain⟨z,hz,y⟩:=E.zero;obtain⟨i,V,R⟩:=E.bytes
 let f:=need+w.tape w.drawn (.appendCap need cap e)%(2^63-need)
 refine⟨(Builtin.zeroCells z.cells (f-need)).toList,f,⟨Nat.le_add_right _ _,by
  have:=Nat.mod_lt (w.tape w.drawn (.appendCap need cap e)) (show 0<2^63-need by unfold YG at d;omega);show need+_%(2^63-need)<=_;omega⟩,by simp[Builtin.zeroCells,y],?_⟩
 have h:¬(need<=cap):=om;have N:¬((need:Int)>IntKind.i64.max/\(False\/i.bytes=0)):=by
  rintro⟨q,_⟩;have:IntKind.i64.max=9223372036854775807:=by decide
  rw[this]at q;unfold YG at d;omega
 have Q:¬(Builtin.nextslicecap need cap*i.bytes>2^48):=by
  have:=QeF need cap j;have L:=Nat.mul_le_mul this R;unfold YG at d;omega
 generalize hF:Builtin.firstCells=F at M J;unfold Builtin.append_;rw[hF];have H:∀W:AJ,(choose (.appendCap need cap e)).run P W=.ok (need+W.tape W.drawn (.appendCap need cap e)%(2^63-need)) {W with drawn:=W.drawn+1}:=by
  intro W;simp[choose,Sem.run,Question.forced,Question.cut]
 have B:∀(x:Nat) (W:AJ),(askRoom x).run P W=.ok () W:=by
  intro x W;unfold askRoom;split<;>rfl
 have G:∀(c:Array AL) (W:AJ),(newRow e c).run P W=.ok ⟨W.heap.size,0,AF⟩ (W.alloc (.cells c e)):=λc W=>rfl;subst g;simp only[not_and,false_or]at N;have L:¬(((n+m:Nat):Int)>IntKind.i64.max/\(False\/i.bytes=0)):=by simpa using N
 simp only[XF,XD,XE,Vm,E.sl,E.size,O,V,hz,Result.andThen,Builtin.lenOf,Vn,Xi,if_false,XG,
  Xh,if_true,Vr h,Vr L,Vr Q,H,B]
 have X:=J {w with drawn:=w.drawn+1} rfl;have e2:=M {w with drawn:=w.drawn+1} rfl;simp only[X,e2,G];have Y:old.toArray++new.toArray++Builtin.zeroCells z.cells (f-(n+m))=((old++new)++(Builtin.zeroCells z.cells (f-(n+m))).toList).toArray:=by
  apply Xu.1;simp
 rw[<- Y]
theorem mB{e:Nat}(E:ElemTy P T e k)(g:∀w,(underlying T').run P w=.ok (.slice e') w){n c:Nat}
  (d:n+m<=cap)(f:(Builtin.firstCells k m (.slice ax m c)).run P w=.ok new.toArray w):
  (Builtin.append_ #[T,T'] t #[.slice ad n cap,.slice ax m c]).run P w=
   match ad with
   |some a=>(do storeCells (a.add (n*k)) new;pure (Value.slice ad (n+m) cap):Sem AL).run P w
   |none=>.ok (.slice ad (n+m) cap) w:=by
 generalize hF:Builtin.firstCells=F at f;unfold Builtin.append_;rw[hF];simp only[XF,XD,XE,Vm,E.sl,E.size,g,Result.andThen,Builtin.lenOf,Vn,Xi,if_false,XG,
  Xh,if_true,Vs d,f]
 cases ad with
 |none=>rfl
 |some a=>simp only[Vm,Result.andThen,Vn]
theorem CZ.weaken(s:CZ fr ro σ H w){i:Nat}{x x':CW}(hH:H[i]?=AC x)(V:x.live=AE)(L:∀y,BR ro σ w x y->BR ro σ w x' y)
  (N:∀b c,Dq w x' b c->Dq w x b c:=by exact λ_ _ h=>h.elim):CZ fr ro σ (H.set i x') w:=by
 have f:∀(j:Nat) (v:CW),(H.set i x')[j]?=AC v->(j=i/\v=x')\/(j≠i/\H[j]?=AC v):=by
  grind
 have E:∀(j:Nat) (v:CW),(H.set i x')[j]?=AC v->v.live=AE->∃g,H[j]?=AC g/\g.live=true:=by
  grind
 refine⟨by rw[X3];exact s.len,s.roOk,s.frLt,s.roFr,?_,?_,?_,s.hidTo (· = ·) Yq (XS _) sq sq λj d y T W X=>.inl ?_⟩
 rotate_left 3
 .grind
 .intro j b v m q B;obtain⟨g,G,J⟩:=E j v q B;exact s.own j b g m G J
 .intro j M b v g m q B P Q O;obtain⟨u,G,J⟩:=E j v B Q;obtain⟨R,t,F⟩:=E M g P O;exact s.inj j M b u R m q G t J F
 .intro j y v m q;rcases f j v q with⟨rfl,rfl⟩|⟨_,h⟩
  .exact L y (s.blk j y x m hH)
  .exact s.blk j y v m h
theorem RL.take{k:Nat}:∀(n:Nat) {es:AA (AA A)} {l:AA AL},RL ro σ w k es l->RL ro σ w k (es.take n) l
 |0,_,_,_=>trivial
 |n+1,[],_,_=>trivial
 |n+1,c::es,l,⟨l1,l2,h1,h2,h3,h4⟩=>⟨l1,l2,h1,h2,h3,RL.take n h4⟩
theorem eO{c:Call}{T T':TypeId}{x y:Operand}(f:o.op=.call c)(d:c={callee:=.builtin .append,args:= #[x,y],argTypes:= #[T,T']})(ρ:Operand->AL){v:AL}
  (h:(Builtin.append_ #[T,T'] o.type #[ρ x,ρ y]).run P w=.ok v w'):(execOp ρ o).run P w=.ok (.value v) w':=by
 simp_all[execOp,resolve,invoke,Go.builtin]
theorem CZ.phantom(s:CZ fr ro σ H w)(t k:Nat):CZ fr ro (σ++[AF]) (H++[.row t k []]) w:=by
 have m:=s.len;have h:∀(i b:Nat),(σ++[AF])[i]?=AC (AC b)->i<σ.length:=by
  grind
 refine⟨by simp[m],s.roOk,s.frLt,s.roFr,?_,?_,?_,s.hidTo (· = ·) Yq (XS _) sq sq λj d y f g x=>.inl ?_⟩
 rotate_left 3
 .grind
 .intro i b z f g x;have q:=h i b f;rw[XL q]at f;rw[XL om]at g;exact s.own i b z f g x
 .intro i j b z M f g x B G E;have F:=h i b f;have L:=h j b g;rw[XL F]at f;rw[XL L]at g;rw[XL om]at x B;exact s.inj i j b z M f g x B G E
 .intro i y z f g;have ext:DR ro σ w ro (σ++[AF]) w:=⟨λ_ q=>q,λ_ _=>rfl,λ_ _ q=>q,gq⟩;rcases Nat.lt_trichotomy i σ.length with q|q|q
  .rw[XL q]at f;rw[XL om]at g;exact(s.blk i y z f g).keep ext (λ_ _ _=>rfl) (λ_ _ _ _=>rfl)
  .subst q;have J:(σ++[AF])[σ.length]?=AC none:=sq;have N:(H++[CW.row t k []])[σ.length]?=AC (.row t k []):=gq;rw[J]at f;rw[N]at g;cases f;cases g;rfl
  grind
theorem CZ.kill(s:CZ fr ro σ H w)(i:Nat):CZ fr ro σ (H.set i .dead) w:=by
 have f:∀(j:Nat) (v:CW),(H.set i .dead)[j]?=AC v->v≠ .dead->H[j]?=AC v:=by
  grind
 refine⟨by rw[X3];exact s.len,s.roOk,s.frLt,s.roFr,?_,?_,?_,s.hidTo (· = ·) Yq (XS _) sq sq λj d y J G M=>.inl ⟨j,y,rfl,J,f j y G (iJ M),id,λ_ q=>q⟩⟩
 .intro j b v h g m;exact s.own j b v h (f j v g (CW.nd m)) m
 .intro j t b v E h g m L F x;exact s.inj j t b v E h g (f j v m (CW.nd F)) (f t E L (CW.nd x)) F x
 .intro j y v h g;by_cases B:v≠ .dead
  .exact s.blk j y v h (f j v g B)
  .obtain rfl:v=.dead:=Classical.not_not.1 B;trivial
theorem grown{c:Call}{e n cx:Nat}{x y:Operand}{a:Act}{old:AA AL}(E:ElemTy P T e k)(R:∀w,(underlying T').run P w=.ok (.slice e') w)(W:o.op=.call c)
  (hc:c={callee:=.builtin .append,args:= #[x,y],argTypes:= #[T,T']})(h1:a.eval x=.slice ad n cap)(X:a.eval y=.slice ax m cx)(s:CZ fr ro σ H w)(B:cap<n+m)(q:n+m<=YG)
  (t:∀w',w'.heap=w.heap->(Builtin.firstCells k n (.slice ad n cap)).run P w'=.ok old.toArray w')(F:∀w',w'.heap=w.heap->(Builtin.firstCells k m (.slice ax m cx)).run P w'=.ok new.toArray w')
  (g:LR ro [] w es.flatten old)(ac:∀v∈old,QC v)(j:allK k es)(h:LR ro [] w fs.flatten new)(aa:∀v∈new,QC v)(G:allK k fs)(ab:es.length=n)(N:fs.length=m):
  ∃v w' ro' τ,(execOp a.eval o).run P w=.ok (.value v) w'/\VR ro' (σ++τ) w' (.osl H.length 0 (n+m) k) v/\CZ fr ro' (σ++τ) (H++[.row e k (es++fs)]) w'/\Ql fr ro w ro' w':=by
 obtain⟨d,nc,L,M,f⟩:=Qn8 E R rfl B q F t
 let w0:={w with drawn:=w.drawn+1}
 have s0:CZ fr ro σ H w0:=s.heap rfl;have V:Ql fr ro w ro w0:=Ql.heap rfl rfl rfl rfl (Nat.le_succ _);have J:LR ro [] w0 (es++fs).flatten (old++new):=by
  rw[List.flatten_append];exact(g.append h).mono (DR.heap (w:=w) rfl)
 obtain⟨Y,e1⟩:=rT s0 (uR j G) J (λv hv=>gq);have hexec:=eO W hc a.eval (by rw[h1,X];exact f);refine⟨_,_,ro,[AC w.heap.size],hexec,.inr ⟨w.heap.size,0,nc,e,(old++new++d).length,?_,rfl,λ_=>sq,L,?_,?_⟩,Y,V.trans e1⟩
 .rw[<- s.len];simp
 .have:=Yz w0 (.cells ((old++new)++d).toArray e);unfold World.shape?
  grind
 .have O:=g.length;have Q:=h.length;rw[Y1 j]at O;rw[Y1 G]at Q;simp[X2,M,O,Q,N];rw[<- Xz, <- Xz]
  grind
theorem Qgv{c:Call}{e:Nat}{x y:Operand}{F:A}(E:ElemTy P T e k)(j:∀w,(underlying T').run P w=.ok (.slice e') w)(m:o.op=.call c)
  (J:c={callee:=.builtin .append,args:= #[x,y],argTypes:= #[T,T']})(Q:CP env x=.nils)(M:CP env y=F)(O:Ht P H F k fs)(G:fs.length<=YG):
  E_ P o env H (.osl H.length 0 fs.length k) (H++[.row e k fs]):=by
 intro W B σ N a w r;have g:=Qp r x;rw[Q]at g;have q:=Qp r y;rw[M]at q;obtain⟨⟨Y,X,f⟩,R,l,h,L,V⟩:=O W B σ w _ r.sim q;rw[f]at h;by_cases hm:fs.length=0
 .have d:fs=[]:=gq;subst d;refine⟨.slice AF 0 0,w,B,[AF],(eO m J _ ?_),.inl ⟨rfl,rfl⟩,r.sim.phantom e k,Ql.refl _ _ _⟩;rw[g,f];have:=mB (t:=o.type) E j (ad:=AF) (XS 0) (h w rfl);omega
 .have:=grown (es:=[]) E j m J g f r.sim om om (λ_ _=>Zu) h rfl sq trivial L V R rfl rfl
  grind
theorem uN{c:Call}{e i n:Nat}{x y:Operand}{ya:A}{gs:AA (AA A)}(E:ElemTy P T e k)(X:∀w,(underlying T').run P w=.ok (.slice e') w)(L:o.op=.call c)
  (G:c={callee:=.builtin .append,args:= #[x,y],argTypes:= #[T,T']})(hx:CP env x=.osl i 0 n k)(hH:H[i]?=AC (.row e k es))(hn:n<=es.length)(F:CP env y=ya)(hs:Ht P H ya k fs)(g:n+fs.length<=YG)
  (hg:es.take n++fs=gs):E_ P o env H (.osl H.length 0 (n+fs.length) k) (H.set i .dead++[.row e k gs]):=by
 intro fr B σ N a w r;subst hg;have j:=Qp r x;rw[hx]at j;have h2:=Qp r y;rw[F]at h2;obtain⟨⟨ay,cy,e1⟩,q2,l,J,q4,q5⟩:=hs fr B σ w _ r.sim h2;rw[e1]at J;have h:i<H.length:=gq;have ag:(H.set i .dead).length=H.length:=X3;obtain⟨s,hσ⟩:∃s,σ[i]?=AC s:=⟨_,XJ (by rw[r.sim.len];exact h)⟩;rcases j with⟨rfl,j⟩|⟨b,p,cap,t',mm,O,j,h4,h5,R,h7⟩
 ·
  by_cases hm:fs.length=0
  .have q:fs=[]:=gq;subst q;refine⟨.slice AF 0 0,w,B,[AF],?_,.inl ⟨rfl,rfl⟩,(r.sim.kill i).phantom e k,Ql.refl _ _ _⟩;refine eO L G _ ?_;rw[j,e1];have:=mB (t:=o.type) E X (ad:=AF) (n:=0) (m:=0) (cap:=0) (c:=cy) (ax:=ay) (XS 0) (J w rfl);omega
  .have:=grown (es:=[]) (old:=[]) E X L G j e1 (r.sim.kill i) om g (λ_ _=>Zu) J rfl sq trivial q4 q5 q2 rfl rfl
   grind
 .have V:=r.sim.blk i _ _ O hH;obtain⟨Q,M,g2⟩:=V;have aa:(es.take n).length=n:=by simp;omega
  obtain⟨old,o1,o2,o3⟩:∃old:AA AL,(∀w':AJ,w'.heap=w.heap->(Builtin.firstCells k n (.slice (AC ⟨b,p,AF⟩) n cap)).run P w'=.ok old.toArray w')/\LR B [] w (es.take n).flatten old/\ ∀v∈old,QC v:=by
   have W:Ht P H (.osl i 0 n k) k (es.take n):=Ht.osl hH sq om;obtain⟨_,_,l',z1,z2,z3⟩:=W fr B σ w (.slice (AC ⟨b,p,AF⟩) n cap) r.sim (.inr ⟨b,p,cap,t',mm,O,rfl,h4,h5,R,h7⟩)
   grind
  by_cases d:n+fs.length<=cap
  .have ae:=mB (t:=o.type) E X (ad:=AC ⟨b,p,AF⟩) (n:=n) (m:=fs.length) (cap:=cap) (c:=cy) (ax:=ay) d (J w rfl);have af:l.length=fs.length*k:=by rw[q4.length,Y1 q2]
   by_cases hm:fs.length=0
   .have q:fs=[]:=gq;subst q;have el:l=[]:=(by simp_all);subst el;have sw:=(r.sim.weaken (x':=.row e k (es.take n)) hH rfl (by
     intro y F;cases y with
     |none=>simp only[BR]at F⊢;grind
     |some y=>obtain⟨Q,M,g2⟩:=F;exact⟨Q,M,g2.take n⟩))
    have Y:=sw.moved (i:=i) (Xa h) O;rw[List.set_set]at Y;refine⟨.slice (AC ⟨b,p,AF⟩) n cap,w,B,[AC b],?_,.inr ⟨b,p,cap,t',mm,?_,sq,h4,om,R,h7⟩,gq,Ql.refl _ _ _⟩
    .refine eO L G _ ?_
     simp_all[storeCells]
    .rw[<- r.sim.len];simp
   .obtain rfl:p=0*k:=h4 om;have ab:(n+fs.length)*k<=Q.length:=by
     have:w.shape? b=AC (e,Q.length):=by unfold World.shape?;rw[M];simp
     rw[this]at R;cases R;exact XU (XB k d) gq
    rw[Xz]at ab;have ah:=YC (P:=P) (vs:=l) (n*k) 0 M om q5;have f:=r.sim.set (x':=.row e k (es.take n++fs)) (obj:=.cells (splice Q (n*k) l).toArray e (0,0)) O hH rfl
     (λy F=>JF M (YB om) y F)
     (λex ac=>⟨_,ac,(g2.app hn q2 q4 q5).mono ex.nil⟩)
    have Y:=f.1.moved (i:=i) (Xa h) O;rw[List.set_set]at Y;refine⟨.slice (AC ⟨b,0*k,AF⟩) (n+fs.length) cap,_,B,[AC b],?_,.inr ⟨b,0*k,cap,t',mm,?_,rfl,h4,⟨d,h5.2⟩,?_,h7⟩,Y,f.2⟩
    .refine eO L G _ ?_
     simp_all[S6]
    .rw[<- r.sim.len];simp
    .exact f.2.shape _ _ R
  .have:=grown (es:=es.take n) (old:=old) (fs:=fs) E X L G j e1 (r.sim.kill i) om g o1 J o2 o3 (tr n g2.allK) q4 q5 q2 aa rfl
   grind
end
variable {xs:AA Operand}
section
variable {P:AK} {o:AM} {env:Env} {H:Qc}
theorem C6.fn{c:Call}{g:Array TypeId}(d:∀(a:Array AL) (w:AJ),(callFunc f a).run P w=.ok (.enter f a) w)(j:o.op=.call c)
  (m:c={callee:=.value (.func f),args:=xs.toArray,argTypes:=g})(h:xs.map (CP env)=args):C6 P o env H f args:=by
 intro t q σ N a w r;refine⟨xs.map a.eval,?_,h▸Zl r xs⟩;have e:a.eval (.func f)=.func (.func f) #[] #[]:=rfl
 grind[execOp,resolve,Deferred.ofValue,invoke]
theorem JT{c:Call}{x:Operand}{q:Array TypeId}{h j:AA A}(g:∀(a:Array AL) (w:AJ),(callFunc f a).run P w=.ok (.enter f a) w)(F:o.op=.call c)
  (J:c={callee:=.value x,args:=xs.toArray,argTypes:=q})(m:CP env x=.fn (.func f) h j)(E:h++(xs.map (CP env)++j)=args):C6 P o env H f args:=by
 intro L G σ N a w r;have d:=Qp r x;rw[m]at d;obtain⟨l,y,d,t,B⟩:=d;refine⟨l++(xs.map a.eval++y),?_,E▸t.append ((Zl r xs).append B)⟩
 grind[execOp,resolve,Deferred.ofValue,invoke]
def IO(ρ:Nat->Nat)(env:Env):Env->Prop
 |[]=>True
 |(s,a)::r=>lk env s=Y0 ρ a/\IO ρ env r
theorem IO.ok{ro:Nat->Prop}{σ σ':Ce}{w:AJ}{ρ:Nat->Nat}(h:∀i,σ[ρ i]?=σ'[i]?){t:Array AL}(r:∀s,VR ro σ w (lk env s) (t.getD s undef)):
  ∀{env':Env},IO ρ env env'->∀s,VR ro σ' w (lk env' s) (t.getD s undef)
 |[],_,s=>trivial
 |(d,a)::e,⟨h1,h2⟩,s=>by
  simp only[lk];by_cases q:s=d
  .grind[Nat.beq_refl,Zb]
  .have:Nat.beq s d=false:=by
    simp_all[VL]
   rw[this];exact IO.ok h r h2 s
theorem CZ.sub(s:CZ fr ro σ H w)(hH:π.map (λp=>H[p]?)=(H'.map (Q1 (Ci π H.length))).map AC)(hπ:π.Nodup):
  CZ fr ro (YI σ π) H' w/\ ∀j:Nat,σ[Ci π H.length j]?=(YI σ π)[j]? :=by
 have T:∀p∈π,p<H.length:=λp q=>Jr hH q;have hσl:=s.len;have P:∀(j p:Nat),π[j]?=AC p->H[p]?=(H'[j]?).map (Q1 (Ci π H.length)):=by
  intro j p g;have:=congrArg (λl=>l[j]?) hH
  grind
 have B:π.length=H'.length:=by simpa using congrArg List.length hH
 have hσc:∀j:Nat,σ[Ci π H.length j]?=(YI σ π)[j]? :=by
  intro j;have:=iH (τ:=[]) hσl T j
  grind
 have hπj:∀(j b:Nat),(YI σ π)[j]?=AC (AC b)->∃p,π[j]?=AC p/\σ[p]?=AC (AC b):=by
  intro j b g;simp only[YI,Xo]at g
  grind
 have hπi:∀(i j p:Nat),π[i]?=AC p->π[j]?=AC p->i=j:=by
  intro i j p m f;have J:i<π.length:=gq;have g:j<π.length:=(XK.1 f).1;rw[XJ J]at m;rw[XJ g]at f;have t:=(XY m).trans (XY f).symm;rcases Nat.lt_trichotomy i j with q|q|q
  .exact(VC.1 hπ i j J g q t).elim
  .exact q
  .exact(VC.1 hπ j i g J q t.symm).elim
 refine⟨⟨by simp[YI,B],s.roOk,s.frLt,s.roFr,?_,?_,?_,s.hidTo (λj p=>π[j]?=AC p) hπi (XS _) (λ_ _ _ _ _ _ _ q=>q) (λ_ _ _ _ _ _ _ q=>q) λj d y V W Y=>.inl ?_⟩,hσc⟩
 rotate_left 3
 .obtain⟨p,m,h⟩:=hπj j d V;exact⟨p,Q1 (Ci π H.length) y,m,h,gq,by rw[QX];exact id,λc q=>(Ri _ _ _ _ _).2 q⟩
 .intro j b x F M N;obtain⟨p,m,h⟩:=hπj j b F;have E:H[p]?=AC (Q1 (Ci π H.length) x):=gq;exact s.own p b _ h E (by rw[QX];exact N)
 .intro i j b x y F M N X R Q;obtain⟨p,m,h⟩:=hπj i b F;obtain⟨O,f,G⟩:=hπj j b M;have E:H[p]?=AC (Q1 (Ci π H.length) x):=gq;have L:H[O]?=AC (Q1 (Ci π H.length) y):=gq;have:=s.inj p O b _ _ h G E L (by rw[QX];exact R) (by rw[QX];exact Q)
  grind
 .intro j y x F M;have g:j<π.length:=by
   grind
  have m:π[j]?=AC π[j]:=XJ g;have E:H[π[j]]?=AC (Q1 (Ci π H.length) x):=gq;have h:σ[π[j]]?=AC y:=by
   grind[Ci]
  exact(gd hσc).1 (s.blk _ y _ h E)
theorem kh{f:Nat}{env':Env}(π:AA Nat)(d:π.take f=List.range f)(hH:π.map (λp=>H[p]?)=(H'.map (Q1 (Ci π H.length))).map AC)(hπ:π.Nodup)
  (hE:IO (Ci π H.length) env env'):Le f env H env' H':=by
 intro t g σ N a w r;obtain⟨h,hσ⟩:=r.sim.sub hH hπ;refine⟨g,YI σ π,⟨h,IO.ok hσ r.env hE,r.size,r.defers⟩,λ_ q=>q,?_⟩;have m:=r.sim.len;have j:∀p∈π,p<H.length:=λp q=>Jr hH q;unfold YI;rw[<- List.map_take,d];apply List.ext_getElem?
 grind
theorem Le.phantom{g s k t:Nat}(j:g<=H.length)(h:lk env s=.nils):Le g env H (up env s (.osl H.length 0 0 k)) (H++[.row t k []]):=by
 intro m f σ N a w r;refine⟨f,σ++[AF],⟨r.sim.phantom t k,?_,r.size,r.defers⟩,λ_ q=>q,QT (by rw[r.sim.len];exact j)⟩;have ext:DR f σ w f (σ++[AF]) w:=⟨λ_ q=>q,λ_ _=>rfl,λ_ _ q=>q,gq⟩;intro d;simp only[lk];by_cases q:d=s
 .subst q;rw[VD];have:=r.env d;rw[h]at this;exact .inl ⟨rfl,this⟩
 .have:Nat.beq d s=false:=by
   simp_all[VL]
  rw[this];exact(r.env d).mono ext
theorem gx{f s:Nat}(g:lk env s=.nils):Le f env H (up env s (.rsl k [])) H:=by
 intro j h σ N a w r;refine⟨h,σ,⟨r.sim,?_,r.size,r.defers⟩,λ_ q=>q,rfl⟩;intro d;simp only[lk];by_cases q:d=s
 .subst q;rw[VD];have:=r.env d;rw[g]at this;exact⟨AF,0,this,XS _,.inl rfl⟩
 .have:Nat.beq d s=false:=by
   simp_all[VL]
  rw[this];exact r.env d
mutual
def Yv:A->Bool
 |.bool _=>AE
 |.int _ _=>AE
 |.str _=>AE
 |.tup vs=>iG vs
 |_=>AD
def iG:AA A->Bool
 |[]=>AE
 |a::r=>Yv a&&iG r
end
mutual
theorem VR.scalar{ro ro':Nat->Prop}{σ σ':Ce}{w w':AJ}:∀{a:A} {v:AL},Yv a=AE->VR ro σ w a v->VR ro' σ' w' a v
 |.bool _,_,_,h=>h
 |.int _ _,_,_,h=>h
 |.str _,_,_,h=>h
 |.tup vs,v,hs,h=>by
  simp only[VR,Yv]at h hs⊢;obtain⟨l,h1,h2⟩:=h;exact⟨l,h1,LR.scalar hs h2⟩
 |.any,_,hs,_=>by simp[Yv]at hs
 |.nilp,_,hs,_=>by simp[Yv]at hs
 |.ptr _ _,_,hs,_=>by simp[Yv]at hs
 |.rp _,_,hs,_=>by simp[Yv]at hs
 |.nils,_,hs,_=>by simp[Yv]at hs
 |.rsl _ _,_,hs,_=>by simp[Yv]at hs
 |.osl _ _ _ _,_,hs,_=>by simp[Yv]at hs
 |.agg _,_,hs,_=>by simp[Yv]at hs
 |.fn _ _ _,_,hs,_=>by simp[Yv]at hs
 |.nilf,_,hs,_=>by simp[Yv]at hs
 |.iface _ _,_,hs,_=>by simp[Yv]at hs
 |.nilif,_,hs,_=>by simp[Yv]at hs
 |.map _,_,hs,_=>by simp[Yv]at hs
 |.nilm,_,hs,_=>by simp[Yv]at hs
theorem LR.scalar{ro ro':Nat->Prop}{σ σ':Ce}{w w':AJ}:∀{az:AA A} {l:AA AL},iG az=AE->LR ro σ w az l->LR ro' σ' w' az l
 |[],_,_,h=>h
 |a::r,l,hs,h=>by
  simp only[LR,iG,XV]at h hs⊢;obtain⟨v,l',h1,h2,h3⟩:=h;exact⟨v,l',h1,VR.scalar hs.1 h2,LR.scalar hs.2 h3⟩
end
def eZ(H:Qc):A->A->Prop:=λa a'=>(a'=a/\YL a=AE)\/ ∃i n k t es,a=.osl i 0 n k/\H[i]?=AC (.row t k es)/\es.length=n/\a'=.rsl k es
def Dw(H:Qc):AA A->AA A->Prop
 |[],[]=>True
 |a::az,b::bs=>eZ H a b/\Dw H az bs
 |_,_=>False
theorem Zk{Q:Qy}{l:AA AM}{d:Nat}{F:AA A}(ac:C6 P o env H f args)(hv:Dw H args F)(hC:C P f F [] Qr)
  (af:∀r H1,Qr r H1->Yv r=AE)(k:∀r H1,Qr r H1->WO P h0 N all l (up env d r) H Q)(hg:Qz all o env true:=by rfl)(hd:o.dst=AC d:=by rfl)(hN:Nat.blt d N=true:=by rfl):WO P h0 N all (o::l) env H Q:=by
 intro rd fr ro σ a w r hrd;obtain⟨V,h1,h2⟩:=ac fr ro σ N a w r;refine tB (YV hg r) h1 ?_
 let roc:Nat->Prop:=λb=>ro b\/ ∃(i:Nat) (x:CW),σ[i]?=AC (AC b)/\H[i]?=AC x/\x.live=AE
 let frc:Nat->Prop:=λb=>fr b\/ ∃(i:Nat) (x:CW) (d:Nat),σ[i]?=AC (AC d)/\H[i]?=AC x/\Dq w x d b
 have aa:CZ frc roc [] [] w:=by
  refine⟨rfl,r.sim.roOk.to (λ_ q=>.inl q) (λ_ _=>rfl) ?_,?_,?_,sq,sq,sq,sq⟩
  .rintro b (q|⟨i,x,B,E,J⟩)
   .exact r.sim.roLt b q
   .exact(r.sim.own i b x B E J).1
  .rintro b (q|⟨i,x,d,B,E,J⟩)
   .exact r.sim.frLt b q
   .exact(r.sim.hid i d x b B E J).lt
  .rintro b (q|⟨i,x,B,E,J⟩) (q'|⟨i',x',d',O,ab,W⟩)
   .exact r.sim.roFr b q q'
   .exact(r.sim.hid i' d' x' b O ab W).ro q
   .exact(r.sim.own i b x B E J).2.2 q'
   .exact(r.sim.hid i' d' x' b O ab W).ne i b x B E J rfl
 have M:∀(az G:AA A) (l:AA AL),Dw H az G->LR ro σ w az l->LR roc [] w G l:=by
  intro az
  induction az with
  |nil=>
   intro G l L h;cases G with
   |nil=>exact h
   |cons b G=>exact L.elim
  |cons x az ih=>
   intro G l L h;cases G with
   |nil=>exact L.elim
   |cons y G=>
    obtain⟨hx,L⟩:=L;obtain⟨v,l',rfl,hv,h⟩:=h;refine⟨v,l',rfl,?_,ih G l' L h⟩;rcases hx with⟨rfl,hx⟩|⟨i,n,k,t,es,rfl,hH,hn,rfl⟩
    .exact(hv.data (σ':=[]) hx).mono ⟨λ_ q=>.inl q,λ_ _=>rfl,λ_ _ q=>q,λ_ _ q=>q⟩
    .subst hn;rcases hv with⟨h0,h⟩|⟨b,p,X,t',m,h1,h,h2,⟨h3,ah⟩,h4,h5⟩
     .have:es=[]:=gq;subst this;exact⟨AF,0,h,XS _,.inl rfl⟩
     .refine⟨_,X,h,h3,?_⟩;by_cases he:es=[]
      .exact .inl he
      .right;have hc:0<X:=Vf gq h3;obtain rfl:=h2 hc;obtain⟨l,B,E⟩:=r.sim.blk i _ _ h1 hH;refine⟨b,0,sq,.inr ⟨i,_,h1,hH,rfl⟩,?_⟩;have:=YT (pre:=[]) (by simpa using B) E;exact this.keep ⟨λ_ q=>.inl q,λ_ _=>rfl,λ_ _ q=>q,λ_ _ q=>q⟩ rfl
 refine Calls.mono (hC frc roc [] V w aa (M _ _ _ hv h2)) ?_;rintro e T ⟨v,rr,H1,ag,τ,rfl,hq,sc,ad,ev⟩;have R:∀(i b:Nat) (x:CW),σ[i]?=AC (AC b)->H[i]?=AC x->x.live=AE->T.heap[b]?=w.heap[b]? :=λi b x B E J=>ev.keepRo b gq;have g:Ql fr ro w ro T:=⟨λ_ q=>q,λb q=>ev.keepRo b (.inl q),λb q=>ev.keepFr b (.inl q),ev.size,ev.shape,ev.os,ev.tape,ev.output,ev.drawn⟩;have Y:CZ fr ro σ H T:=by
  refine⟨r.sim.len,r.sim.roOk.to (λ_ q=>q) g.keepRo (λb q=>Vf (r.sim.roLt b q) ev.size),λb q=>Vf (r.sim.frLt b q) ev.size,r.sim.roFr,?_,r.sim.inj,?_,r.sim.hidTo (· = ·) Yq ev.size sq sq λj d y g1 g2 g3=>.inl ⟨j,y,rfl,g1,g2,id,λc q=>r.sim.hidKeep g1 g2 (R j d y g1 g2) g.keepRo q⟩⟩
  .intro i b x B E J;obtain⟨p1,p2,p3⟩:=r.sim.own i b x B E J
   grind
  .intro i y x B E;refine(r.sim.blk i y x B E).keep (g.ext0 σ) ?_ ?_
   .grind
   .rintro b c rfl L;exact ev.keepFr c gq
 have hk:=k rr H1 hq;have ae:d<N:=by simp_all
 simp only[hd,Act.put];have r':DN fr ro σ H (up env d rr) N {a with tmps:=a.tmps.setIfInBounds d v} T:=
  ⟨Y,VR.up (fr:=fr) (λs=>(r.env s).mono (g.ext0 σ)) (by rw[r.size];exact ae) (ad.scalar (af _ _ hq)),by simpa using r.size,r.defers.keep g⟩
 exact⟨_,rfl,YH (λe a w q=>q.step g rfl) _ _ _ (hk rd fr ro σ _ T r' (hrd.to g λ_ q=>q))⟩
end
section
variable {P:AK} {o:AM} {env:Env} {H:Qc}
theorem tS{α:Type}:∀(vs:AA α) (d i:Nat) (l:AA α),d+i+vs.length<=l.length->
  (vs.zipIdx i).foldl (λcs x=>cs.setIfInBounds (d+x.2) x.1) l.toArray=(splice l (d+i) vs).toArray
 |[],d,i,l,h=>by simp[splice]
 |v::vs,d,i,l,h=>by
  simp[XZ]at h;rw[List.zipIdx_cons,XC];have e1:l.toArray.setIfInBounds (d+i) v=(splice l (d+i) [v]).toArray:=by
   have:l.toArray.setIfInBounds (d+i) v=(l.set (d+i) v).toArray:=sq;rw[this];rw[List.set_eq_take_append_cons_drop,Vs om];simp[splice]
  rw[e1,tS vs d (i+1) _ gq];have f:(l.take (d+i)).length=d+i:=by simp;omega
  unfold splice;have j:d+(i+1)=(l.take (d+i)).length+1:=om;have g:(l.take (d+i)++([v]++l.drop (d+i+[v].length))).take ((l.take (d+i)).length+1)=l.take (d+i)++[v]:=by
   grind
  have m:(l.take (d+i)++([v]++l.drop (d+i+[v].length))).drop ((l.take (d+i)).length+1+vs.length)=l.drop (d+i+(v::vs).length):=by
   rw[show(l.take (d+i)).length+1+vs.length=(l.take (d+i)).length+(1+vs.length)from om,Va];simp[Nat.add_comm 1];omega
  simp_all
theorem tO{d:Nat->AB (Nat×Nat)}{l:AA AL}{i f size:Nat}{v:AL}{m:AA AL}{rest:AA (Nat×AL)}(g:d i=AC (f,size))(h:v.cells=m.toArray)(j:m.length=size)
  (q:f+size<=l.length):Instr.fill d l.toArray ((i,v)::rest)=Instr.fill d (splice l f m).toArray rest:=by
 rw[Instr.fill];simp[g];rw[Vr gq,h]
 simp_all[tS]
def M_:Nat->AA Operand->AA (Nat×Operand)
 |_,[]=>[]
 |i,x::xs=>(i,x)::M_ (i+1) xs
def Q6(env:Env)(xs:AA Operand):AA (AA A):=xs.map λx=>Yj (CP env x)
theorem mP{fr ro:Nat->Prop}{σ:Ce}{N:Nat}{a:Act}{w:AJ}(r:DN fr ro σ H env N a w){k:Nat}:∀(xs:AA Operand) (j:Nat) (pre rest:AA AL),pre.length=j*k->rest.length=xs.length*k->
  (xs.all λx=>Yn (CP env x))=AE->allK k (Q6 env xs)->
  ∃l,Instr.fill (λi=>AC (i*k,k)) (pre++rest).toArray ((M_ j xs).map λp=>(p.1,a.eval p.2))=AC (pre++l).toArray/\LR ro σ w (Q6 env xs).flatten l
 |[],j,pre,rest,h1,h2,_,_=>by
  have:rest=[]:=(by simp_all);subst this;exact⟨[],rfl,rfl⟩
 |x::xs,j,pre,rest,h1,h2,h3,h4=>by
  simp only[List.all_cons,XV]at h3;obtain⟨hk1,hk2⟩:=h4;obtain⟨m,q1,q2⟩:=(Qp r x).cells h3.1;have hm:m.length=k:=by rw[q2.length];exact hk1
  simp[XZ,Xm]at h2;simp[M_,Vj];rw[tO rfl q1 hm (by simp;omega)];have e:splice (pre++rest) (j*k) m=(pre++m)++rest.drop k:=by
   unfold splice
   grind[List.drop_length_add_append]
  rw[e];obtain⟨l,d,f⟩:=mP r xs (j+1) (pre++m) (rest.drop k) gq (by simp;omega) h3.2 hk2;refine⟨m++l,?_,?_⟩
  .rw[d];simp
  .exact q2.append f
theorem nK{a:Act}(r:DN fr ro σ H env N a w){e n:Nat}(E:ElemTy P T e k)(B:xs.length=n)(y:Nat.ble (n*k) 16777216=AE)
  (j:(xs.all λx=>Yn (CP env x))=AE)(g:allK k (Q6 env xs)):
  ∃l,(Instr.buildSlice T n (((M_ 0 xs).map λp=>(p.1,a.eval p.2)).toArray)).run P w=.ok (.slice (AC ⟨w.heap.size,0,AF⟩) n n) (w.alloc (.cells l.toArray e))/\LR ro σ w (Q6 env xs).flatten l:=by
 obtain⟨z,F,t⟩:=E.zero;have m:n*k<=16777216:=by simp_all
 have q:∀(c:Array AL) (W:AJ),(newRow e c).run P W=.ok ⟨W.heap.size,0,AF⟩ (W.alloc (.cells c e)):=λc W=>rfl;unfold Instr.buildSlice;by_cases h:n*k=0
 .obtain⟨l,d,f⟩:=mP r (k:=k) xs 0 [] [] sq gq j g;refine⟨l,?_,f⟩;simp only[Vm,E.sl,Result.andThen,E.size,h]
  simp_all[Array.range]
 .obtain⟨l,d,f⟩:=mP r (k:=k) xs 0 [] ((Array.range (n*k)).map (λi=>z.cells[i%z.cells.size]!)).toList sq (by rw[B];simp) j g;refine⟨l,?_,f⟩;simp only[Vm,E.sl,Result.andThen,E.size,Vr h,XG,F];simp only[Vh]at d;rw[Array.toArray_toList]at d
  simp_all
theorem nI{n:Nat}(d:o.op=.buildSlice T n (M_ 0 xs).toArray)(ρ:Operand->AL){v:AL}
  (h:(Instr.buildSlice T n (((M_ 0 xs).map λp=>(p.1,ρ p.2)).toArray)).run P w=.ok v w'):(execOp ρ o).run P w=.ok (.value v) w':=by
 grind[execOp,Sem.run_bind,Result.andThen,Sem.run_pure]
theorem E_.lit{e n:Nat}(E:ElemTy P T e k)(L:o.op=.buildSlice T n (M_ 0 xs).toArray)(B:xs.length=n)(j:Nat.ble (n*(k+1)) 16777216=AE)
  (J:(xs.all λx=>Yn (CP env x))=AE)(f:Q6 env xs=es)(h:allK k es)(G:es.flatten.all Yu=AE)(F:YK es.flatten=AE):
  E_ P o env H (.osl H.length 0 n k) (H++[.row e k es]):=by
 intro Q t σ N a w r;subst f;have m:=XQ j;rw[Nat.mul_add]at m;obtain⟨l,M,g⟩:=nK r E B (XR om) J h;have d:LR t [] w (Q6 env xs).flatten l:=g.data F;obtain⟨y,q⟩:=rT r.sim h d (g.plain G);rw[Vg]at y q;have O:l.length=n*k:=by rw[g.length,Y1 h];simp[Q6,B]
 refine⟨_,_,t,[AC w.heap.size],nI L a.eval M,.inr ⟨w.heap.size,0,n,e,l.length,?_,rfl,λ_=>sq,om,?_,gq⟩,y,q⟩
 .rw[<- r.sim.len];simp
 .unfold World.shape?;rw[Yz];simp
theorem YW{n:Int}{y:Nat}{c:BoundsCode}(f:0<=n)(d:n<=y):(Instr.sliceBound (.int .i64 n) y c).run P w=.ok n.toNat w:=by
 simp_all[Instr.sliceBound,asIntOf]
theorem qa{e:Nat}(E1:∀w,(underlying T).run P w=.ok (.slice e) w)(E2:∀w,(sizeOf e).run P w=.ok k w){n:Nat}{lo hi:AB AL}{l h:Nat}(g:n<=cap)
  (d:lo=AF/\l=0\/ ∃z:Int,lo=AC (.int .i64 z)/\0<=z/\z.toNat=l)(f:hi=AF/\h=n\/ ∃z:Int,hi=AC (.int .i64 z)/\0<=z/\z.toNat=h)(j:l<=h)(t:h<=n):
  (Instr.sliceAt T (.slice ad n cap) lo hi AF).run P w=.ok (.slice (if cap=l then ad else ad.map (·.add (l*k))) (h-l) (cap-l)) w:=by
 have q:(Instr.sliceBounds AE n cap lo hi AF).run P w=.ok (l,h,cap) w:=by
  rcases d with⟨rfl,rfl⟩|⟨z,rfl,m,rfl⟩<;>rcases f with⟨rfl,rfl⟩|⟨y,rfl,y0,rfl⟩
  .rfl
  .grind[Instr.sliceBounds,Sem.run_bind,Sem.run_pure,Result.andThen,YW]
  .grind[Instr.sliceBounds,Sem.run_bind,Sem.run_pure,Result.andThen,YW]
  .simp[Instr.sliceBounds,Vm,Vn,Result.andThen,YW y0 (show y<=cap by omega),YW m (show z<=y.toNat by omega)]
 simp_all[Instr.sliceAt,Instr.slice]
theorem ib{a:Act}(r:DN fr ro σ H env N a w){x:AB Operand}{l d:Nat}(h:x=AF/\l=d\/ ∃y,∃z:Int,x=AC y/\CP env y=.int .i64 z/\0<=z/\z.toNat=l):
  x.map a.eval=AF/\l=d\/ ∃z:Int,x.map a.eval=AC (.int .i64 z)/\0<=z/\z.toNat=l:=by
 rcases h with⟨rfl,rfl⟩|⟨y,z,rfl,f,g,j⟩
 .simp
 grind[QY]
theorem lq{e i s n:Nat}{x:Operand}{lo hi:AB Operand}{l h:Nat}(E1:∀w,(underlying T).run P w=.ok (.slice e) w)(E2:∀w,(sizeOf e).run P w=.ok k w)(E:o.op=.slice T x lo hi AF)
  (M:CP env x=.osl i s n k)(t:lo=AF/\l=0\/ ∃y,∃z:Int,lo=AC y/\CP env y=.int .i64 z/\0<=z/\z.toNat=l)
  (g:hi=AF/\h=n\/ ∃y,∃z:Int,hi=AC y/\CP env y=.int .i64 z/\0<=z/\z.toNat=h)(j:l<=h)(F:h<=n):CS P o env H (.osl i (s+l) (h-l) k):=by
 intro Y V σ N a w r;have f:=Qp r x;rw[M]at f;rcases f with⟨rfl,f⟩|⟨b,p,B,G,m,f,L,W,⟨O,Q⟩,J,X⟩
 .have d:=qa (P:=P) (w:=w) E1 E2 (ad:=AF) (XS 0) (ib r t) (ib r g) j F;refine⟨_,by simp only[execOp,E,f,Vm,d,Xk];rfl,?_⟩;left
  grind
 .have d:=qa (w:=w) E1 E2 (ad:=AC ⟨b,p,AF⟩) O (ib r t) (ib r g) j F;refine⟨_,by simp only[execOp,E,L,Vm,d,Xk];rfl,?_⟩;right;by_cases R:B=l
  .refine⟨b,p,0,G,m,f,gq,λq=>om,om,J,?_⟩
   grind
  .refine⟨b,p+l*k,B-l,G,m,f,by rw[Vr R];simp[S6],λq=>gq,om,J,?_⟩
   grind
theorem CS.max{c:Call}{x y:Operand}{k:IntKind}{m n:Int}(j:o.op=.call c)(g:c={callee:=.builtin .max,args:= #[x,y],argTypes:=c.argTypes})(h:CP env x=.int k m)(t:CP env y=.int k n):
  CS P o env H (.int k (if m<n then n else m)):=by
 intro F E σ N a w r;have B:=QY r h;have q:=QY r t;refine⟨_,?_,rfl⟩;generalize a.eval=ρ at*;have f:c.callee=.builtin .max:=by rw[g]
 have d:c.args= #[x,y]:=by rw[g]
 simp only[execOp,j,resolve,f,d,invoke,Vm,Result.andThen];simp[Builtin.max_,Builtin.max2,B,q,go_sem]
theorem CS.min{c:Call}{x y:Operand}{k:IntKind}{m n:Int}(j:o.op=.call c)(g:c={callee:=.builtin .min,args:= #[x,y],argTypes:=c.argTypes})(h:CP env x=.int k m)(t:CP env y=.int k n):
  CS P o env H (.int k (if n<m then n else m)):=by
 intro F E σ N a w r;have B:=QY r h;have q:=QY r t;refine⟨_,?_,rfl⟩;generalize a.eval=ρ at*;have f:c.callee=.builtin .min:=by rw[g]
 have d:c.args= #[x,y]:=by rw[g]
 simp only[execOp,j,resolve,f,d,invoke,Result.andThen];simp[Builtin.min_,Builtin.min2,B,q,go_sem]
end
variable {id:Nat}
section
variable {P:AK} {h0 N:Nat} {env:Env} {H:Qc} {Q:Qy} {c c':Code}
def oD(h0:Nat)(Eb:Env)(Hb:Qc)(Q:Qy):Qy
 |.normal,env,H=>Le h0 env H Eb Hb
 |.exit id,env,H=>Q (.exit id) env H
 |.ret,env,H=>Q .ret env H
theorem TC.cut(Eb:Env)(Hb:Qc)(h:TC P h0 N c env H (oD h0 Eb Hb Q))(k:∀env H,Le h0 env H Eb Hb->Q .normal env H):TC P h0 N c env H Q:=
 h.mono λx env' H' q=>by
  cases x with
  |normal=>exact k _ _ q
  |exit id=>exact q
  |ret=>exact q
theorem aI(h:TC P h0 N c env H Q):dG P h0 N c Q .normal env H:=h
theorem aG(h:Q (.exit id) env H):dG P h0 N c Q (.exit id) env H:=h
theorem aH(h:Q .ret env H):dG P h0 N c Q .ret env H:=h
theorem c8(h:Q .normal env H):P1 id Q .normal env H:=h
theorem c9(h:Q .normal env H):P1 id Q (.exit id) env H:=by simp_all[P1]
theorem c6{d:Nat}(e:Nat.beq d id=AD)(h:Q (.exit d) env H):P1 id Q (.exit d) env H:=by simp[P1,e];exact h
theorem c7(h:Q .ret env H):P1 id Q .ret env H:=h
def L3(h0:Nat)(b:CF S B)(Eb:S->Env)(Hb:S->Qc)(Q:Qy):Qy
 |.normal,env,H=>∃s,b=.k s/\Le h0 env H (Eb s) (Hb s)
 |.exit id,env,H=>Q (.exit id) env H
 |.ret,env,H=>Q .ret env H
theorem Y?{B:Type}{b:CF S B}(Eb:S->Env)(Hb:S->Qc)(h:TC P h0 N c env H (L3 h0 b Eb Hb Q))(k:∀s env H,b=.k s->Le h0 env H (Eb s) (Hb s)->Q .normal env H):TC P h0 N c env H Q:=
 h.mono λx env' H' q=>by
  cases x with
  |normal=>obtain⟨s,e,q⟩:=q;grind
  |exit id=>exact q
  |ret=>exact q
section
variable {S B:Type} {b:CF S B} {Eb:S->Env} {Hb:S->Qc}
theorem KR{s:S}(e:b=.k s)(h:Le h0 env H (Eb s) (Hb s)):L3 h0 b Eb Hb Q .normal env H:=⟨s,e,h⟩
theorem LT(h:Q .ret env H):L3 h0 b Eb Hb Q .ret env H:=h
end
theorem Qpt{x:Operand}{t:Bool}(hx:CP env x=.bool t)(h:t=AE)(ht:TC P h0 N c env H Q):TC P h0 N (.cond x c c') env H Q:=TC.cond hx (λ_=>ht) (λq=>gq)
theorem Qpu{x:Operand}{t:Bool}(hx:CP env x=.bool t)(h:t=AD)(hf:TC P h0 N c' env H Q):TC P h0 N (.cond x c c') env H Q:=TC.cond hx (λq=>gq) (λ_=>hf)
section
variable {S B:Type} {I:S->Env->Qc->Prop}
theorem QZ{s:S}{d:CF S B}(e:AC (CF.k s)=AC d)(h:I s env H):JU I d Q .normal env H:=⟨s,gq,h⟩
theorem QF{b:B}{d:CF S B}(e:AC (CF.d b)=AC d)(h:Q (.exit id) env H):JU I d Q (.exit id) env H:=⟨gq,h⟩
theorem IN{b:B}{d:CF S B}(e:AC (CF.d b)=AC d)(h:Q .ret env H):JU I d Q .ret env H:=⟨gq,h⟩
end
end
theorem Qw{α β:Type}{x:AB α}{f:α->AB β}{r:β}(h:x.bind f=AC r):∃a,x=AC a/\f a=AC r:=Option.bind_eq_some_iff.1 h
def CI(l:AA α)(i:Int):AB α:=bif 0<=i then l[i.toNat]? else AF
theorem Kj{α:Type}{l:AA α}{i:Int}{x:α}(h:CI l i=AC x):0<=i/\l[i.toNat]?=AC x:=by
 grind[CI]
def app(l m:AA α):AB (AA α):=bif Nat.ble (l.length+m.length) YG then AC (l++m)else AF
variable {r:AA α}
theorem kl{l m:AA α}(h:app l m=AC r):l.length+m.length<=YG/\l++m=r:=by
 unfold app at h;cases q:Nat.ble (l.length+m.length) YG with
 |true=>simp_all
 |false=>grind
def Dm(l:AA α)(lo hi:Int):AB (AA α):=bif AG (0<=lo)&&AG (lo<=hi)&&AG (hi<=(l.length:Int))then AC ((l.take hi.toNat).drop lo.toNat)else AF
theorem Sy{l:AA α}{lo hi:Int}(h:Dm l lo hi=AC r):0<=lo/\lo<=hi/\hi<=l.length/\(l.take hi.toNat).drop lo.toNat=r:=by
 grind[Dm]
def JN(l:AA α)(i:Int)(x:α):AB (AA α):=bif AG (0<=i)&&AG (i<(l.length:Int))then AC (l.set i.toNat x)else AF
theorem iB{α:Type}{e:α->AA A}{l:AA α}{i:Nat}{x:α}(h:l[i]?=AC x):(l.map e)[i]?=AC (e x):=by simp[h]
section
variable {P:AK} {h0 N:Nat} {env:Env} {H H':Qc} {Q:Qy} {all:Array AM} {o:AM} {l:AA AM} {d:Nat} {x:A}
theorem vV(f:CS P o env H x)(k:WO P h0 N all l (up env d x) H Q)(hg:Qz all o env true:=by rfl)(hd:o.dst=AC d:=by rfl)(hN:Nat.blt d N=true:=by rfl):WO P h0 N all (o::l) env H Q:=
 Yr hg hd hN f k
theorem vH(f:E_ P o env H x H')(k:WO P h0 N all l (up env d x) H' Q)(hg:Qz all o env true:=by rfl)(hd:o.dst=AC d:=by rfl)(hN:Nat.blt d N=true:=by rfl)(hh:Nat.ble h0 H.length=true:=by rfl):WO P h0 N all (o::l) env H Q:=
 Zc (by simp_all) hg hd hN f k
theorem vN(d:E_ P o env H x H')(k:WO P h0 N all l env H' Q)(hg:Qz all o env true:=by rfl)(hd:o.dst=none:=by rfl)(hh:Nat.ble h0 H.length=true:=by rfl):WO P h0 N all (o::l) env H Q:=
 J? (by simp_all) hg hd d k
theorem vU(d:I6 P o env H H')(k:WO P h0 N all l env H' Q)(hg:Qz all o env true:=by rfl)(hd:o.dst=none:=by rfl)(hh:Nat.ble h0 H.length=true:=by rfl):WO P h0 N all (o::l) env H Q:=
 kj (by simp_all) hg hd d k
theorem gT{j s:Nat}{c x:Bool}(d:x=c)(hg:o.guard=AC (j,c):=by rfl)(hs:(all[j]?).bind (·.dst)=AC s:=by rfl)(hl:lk env s=.bool x:=by rfl):Qz all o env true:=by
 simp_all[Qz]
theorem gF{j s:Nat}{c x:Bool}(d:x= !c)(hg:o.guard=AC (j,c):=by rfl)(hs:(all[j]?).bind (·.dst)=AC s:=by rfl)(hl:lk env s=.bool x:=by rfl):Qz all o env false:=by
 simp_all[Qz]
theorem Ny{x x':A}(hx:x'=x)(hH:H'=H)(k:WO P h0 N all l (up env d x) H Q):WO P h0 N all l (up env d x') H' Q:=gq
theorem Nx(hH:H'=H)(k:WO P h0 N all l env H Q):WO P h0 N all l env H' Q:=gq
theorem Qf{g:AA A}{Hc:Qc}(π:AA Nat)(h:C6 P o env H f args)(j:C P f g Hc Qr)
  (k:∀r H1,Qr r H1->WO P h0 N all l (up env d (Y0 (Ci π H.length) r)) (Yc H π (H1.map (Q1 (Ci π H.length)))) Q)
  (hargs:args=JJ (Ci π H.length) g:=by rfl)(hH:π.map (λp=>H[p]?)=(Hc.map (Q1 (Ci π H.length))).map some:=by rfl)(hπ:π.Nodup:=by decide)
  (hg:Qz all o env true:=by rfl)(hd:o.dst=AC d:=by rfl)(hN:Nat.blt d N=true:=by rfl)(hh:Nat.ble h0 H.length=true:=by rfl):WO P h0 N all (o::l) env H Q:=
 WO.call π (by simp_all) hg hd (λx m=>by simp_all) h hargs hH hπ j k
end
section
variable {P:AK} {o:AM} {env:Env} {H:Qc} {α:Type} {e:α->AA A}
theorem q_{c:Call}{t d:Nat}{x:Operand}{l:AA α}(f:∀w,(underlying t).run P w=.ok (.slice d) w)(g:o.op=.call c:=by rfl)(hc:c={callee:=.builtin .len,args:= #[x],argTypes:= #[t]}:=by rfl)
  (hx:CP env x=.rsl k (l.map e):=by rfl):CS P o env H (.int .i64 l.length):=by
 have:=Qpx (H:=H) g hc f hx
 grind
theorem QV{t d:Nat}{x y:Operand}{l:AA α}{i:Int}{v:α}(h:CI l i=AC v)(g:∀w,(underlying t).run P w=.ok (.slice d) w)(f:∀w,(sizeOf d).run P w=.ok k w)
  (j:o.op=.indexAddr t x y:=by rfl)(hx:CP env x=.rsl k (l.map e):=by rfl)(hy:CP env y=.int kk i:=by rfl):CS P o env H (.rp (e v)):=
 V? j g f hx hy (Kj h).1 (iB (Kj h).2)
theorem Qd{t d b n:Nat}{x y:Operand}{l:AA α}{i:Int}{v:α}(h:CI l i=AC v)(B:l.length=n)(f:∀w,(underlying t).run P w=.ok (.slice d) w)(m:∀w,(sizeOf d).run P w=.ok k w)
  (j:o.op=.indexAddr t x y:=by rfl)(hx:CP env x=.osl b 0 n k:=by rfl)(hy:CP env y=.int kk i:=by rfl):CS P o env H (.ptr b (i.toNat*k)):=by
 have:=Kj h;have g:i.toNat<l.length:=gq;have q:=qA (H:=H) j f m hx hy this.1 om
 grind
theorem Qm{b t f:Nat}{l:AA α}{i:Int}{v:α}(h:CI l i=AC v)(hH:H[b]?=AC (.row t k (l.map e)):=by rfl)(hcs:(e v).drop f=cs':=by rfl):Df H (.ptr b (i.toNat*k+f)) cs':=
 Df.row hH rfl (iB (Kj h).2) hcs
theorem Qh{b t:Nat}{l:AA α}{i:Int}{v:α}(h:CI l i=AC v)(hH:H[b]?=AC (.row t k (l.map e)):=by rfl)(hcs:e v=cs':=by rfl):Df H (.ptr b (i.toNat*k)) cs':=
 Df.row (f:=0) hH rfl (iB (Kj h).2) hcs
theorem Qpz{c:Call}{et et':Nat}{x y:Operand}{d:A}{m r:AA α}(h:app [] m=AC r)(E:ElemTy P T et k)(f:∀w,(underlying T').run P w=.ok (.slice et') w)(j:Ht P H d k (m.map e))
  (g:o.op=.call c:=by rfl)(hc:c={callee:=.builtin .append,args:= #[x,y],argTypes:= #[T,T']}:=by rfl)(hx:CP env x=.nils:=by rfl)(hy:CP env y=d:=by rfl):
  E_ P o env H (.osl H.length 0 r.length k) (H++[.row et k (r.map e)]):=by
 obtain⟨q,rfl⟩:=kl h;have:=Qgv E f g hc hx hy j gq
 grind
theorem Qj{c:Call}{et et' i n:Nat}{x y:Operand}{d:A}{l m r:AA α}(h:app l m=AC r)(E:ElemTy P T et k)(f:∀w,(underlying T').run P w=.ok (.slice et') w)(g:Ht P H d k (m.map e))
  (j:l.length=n:=by rfl)(ho:o.op=.call c:=by rfl)(hc:c={callee:=.builtin .append,args:= #[x,y],argTypes:= #[T,T']}:=by rfl)(hx:CP env x=.osl i 0 n k:=by rfl)
  (hH:H[i]?=AC (.row et k (l.map e)):=by rfl)(hy:CP env y=d:=by rfl):
  E_ P o env H (.osl H.length 0 r.length k) (H.set i .dead++[.row et k (r.map e)]):=by
 obtain⟨q,rfl⟩:=kl h;subst j;have:=uN E f ho hc hx hH sq hy g gq (gs:=(l++m).map e) (by rw[VH sq];simp)
 grind
theorem L9{l:AA α}:Ht P H (.rsl k (l.map e)) k (l.map e):=Ht.rsl
theorem QE{i n t:Nat}{l:AA α}(hH:H[i]?=AC (.row t k (l.map e)):=by rfl)(hn:l.length=n:=by rfl):Ht P H (.osl i 0 n k) k (l.map e):=
 Ht.osl hH (by grind[List.take_of_length_le]) (by simp[hn])
theorem Yy{t n b f:Nat}{x y:Operand}{l l':AA α}{i:Int}{v m:α}{a:A}{d:Nat}(h:CI l i=AC v)(E:JN l i m=AC l')(B:∀w,(sizeOf t).run P w=.ok n w)(g:d=i.toNat*k+f)(j:splice (e v) f vs=e m)
  (q:o.op=.store t x y:=by rfl)(hx:CP env x=.ptr b d:=by rfl)(hH:H[b]?=AC (.row T k (l.map e)):=by rfl)
  (hy:CP env y=a:=by rfl)(hk:Yn a=true:=by rfl)(hv:Yj a=vs:=by rfl)(hn:vs.length=n:=by rfl)(hp:vs.all Yu=true:=by rfl)(hd:YK vs=true:=by rfl)(hf:Nat.ble (f+n) k=true:=by rfl):
  I6 P o env H (H.set b (.row T k (l'.map e))):=by
 refine Qh5 q hx hH B g (iB (Kj h).2) hy hk hv hn hp hd hf j ?_
 grind[JN,List.map_set]
end
def ZR(a:A)(v:AL):Prop:=∀ro σ w,VR ro σ w a v
def ZL(az:AA A)(l:AA AL):Prop:=∀ro σ w,LR ro σ w az l
theorem ZR.int{k:IntKind}{n:Int}:ZR (.int k n) (.int k n):=λ_ _ _=>rfl
theorem ZR.bool{b:Bool}:ZR (.bool b) (.bool b):=λ_ _ _=>rfl
theorem ZR.str:ZR (.str []) (.string ⟨#[]⟩):=λ_ _ _=>rfl
theorem ZR.rsl{α:Type}{k:Nat}{e:α->AA A}:ZR (.rsl k (List.map e [])) (.slice AF 0 0):=λ_ _ _=>⟨AF,0,rfl,XS _,.inl rfl⟩
theorem ZR.nils:ZR .nils (.slice AF 0 0):=λ_ _ _=>rfl
theorem ZR.nilp:ZR .nilp (.pointer AF):=λ_ _ _=>rfl
theorem ZR.nilf:ZR .nilf .nilFunc:=λ_ _ _=>rfl
theorem ZR.nilm:ZR .nilm (.map AF):=λ_ _ _=>rfl
theorem Qq9:ZR .nilif .nilIface:=λ_ _ _=>rfl
theorem ZL.nil:ZL [] []:=λ_ _ _=>rfl
variable {az:AA A}
theorem ZL.cons{a:A}{v:AL}{l:AA AL}(h:ZR a v)(k:ZL az l):ZL (a::az) (v::l):=λro σ w=>⟨v,l,rfl,h ro σ w,k ro σ w⟩
theorem ZR.agg{az:AA A}{l:AA AL}(h:ZL az l):ZR (.agg az) (.agg l.toArray):=λro σ w=>⟨l,rfl,h ro σ w⟩
section
variable {P:AK} {o:AM} {env:Env} {H:Qc}
theorem eT{t:Nat}{z:AL}{v:A}{d:AA A}(q:∀w,(zeroValue t).run P w=.ok z w)(h:ZR v z)(m:o.op=.alloc t:=by rfl)(hk:Yn v=true:=by rfl)(hcs:Yj v=d:=by rfl)(hpl:d.all Yu=true:=by rfl):
  E_ P o env H (.ptr H.length 0) (H++[.cells t d]):=by
 intro x f σ N a w r;obtain⟨l,j,g⟩:=(h f σ w).cells hk;subst hcs;refine⟨.pointer (AC ⟨w.heap.size,0,AF⟩),w.alloc (.cells l.toArray t),f,[AC w.heap.size],?_,⟨w.heap.size,?_,rfl⟩,r.sim.allocCells g (g.plain hpl),Ql.alloc _ r.sim.roLt r.sim.frLt⟩
 .have e:(newVar t z).run P w=.ok ⟨w.heap.size,0,AF⟩ (w.alloc (.cells l.toArray t)):=by
   unfold newVar;rw[j];rfl
  simp_all[execOp,Instr.alloc]
 .rw[<- r.sim.len];simp
theorem uB{p q:Bool}(f:∀w,(underlying t).run P w=.ok .bool w):(Op.equal t (.bool p) (.bool q)).run P w=.ok (p==q) w:=by
 have k:∀d,(Op.equalIn (d+1) t (.bool p) (.bool q)).run P w=.ok (p==q) w:=by
  simp[Op.equalIn,f]
 exact k 9999
theorem Qkt{x y:Operand}{p q:Bool}(f:∀w,(underlying t).run P w=.ok .bool w)(g:o.op=.binOp .eql t x y u:=by rfl)(hx:CP env x=.bool p:=by rfl)(hy:CP env y=.bool q:=by rfl):CS P o env H (.bool (p==q)):=by
 intro m j σ N a w r;have d:=Zp r hx;have h:=Zp r hy;refine⟨_,?_,rfl⟩
 simp_all[execOp,Go.binOp,eqGuard,uB]
theorem tE{x y:Operand}{p q:Bool}(f:∀w,(underlying t).run P w=.ok .bool w)(g:o.op=.binOp .neq t x y u:=by rfl)(hx:CP env x=.bool p:=by rfl)(hy:CP env y=.bool q:=by rfl):CS P o env H (.bool (p != q)):=by
 intro m j σ N a w r;have d:=Zp r hx;have h:=Zp r hy;refine⟨_,?_,rfl⟩
 simp_all[execOp,Go.binOp,eqGuard,uB,bne]
theorem uJ{x y:Operand}{s:AA UInt8}{k:IntKind}{i:Int}{c:UInt8}(h:CI s i=AC c)(d:∀w,(underlying t).run P w=.ok .string w)(f:o.op=.index t x y:=by rfl)(hx:CP env x=.str s:=by rfl)(hy:CP env y=.int k i:=by rfl):
  CS P o env H (.int .u8 c.toNat):=Qm2 f d hx hy (Kj h).1 (Kj h).2
theorem Qm6{c:Call}{t d i n:Nat}{x:Operand}(f:∀w,(underlying t).run P w=.ok (.slice d) w)(g:o.op=.call c:=by rfl)(hc:c={callee:=.builtin .len,args:= #[x],argTypes:= #[t]}:=by rfl)
  (hx:CP env x=.osl i 0 n k:=by rfl):CS P o env H (.int .i64 n):=Qpy g hc f hx
end
def Ys(k:IntKind)(n:Int):AA A:=[.int k n]
def JL(b:Bool):AA A:=[.bool b]
def JK(s:AA UInt8):AA A:=[.str s]
def Qu(k:Nat)(e:α->AA A)(l:AA α):AA A:=[.rsl k (l.map e)]
theorem rv{o:AM}{a:Act}{next:Act->AJ->Prop}{g:Result Next}
  (t:∀a' w',next a' w'->a'.defers=a.defers)(h:o.uponIn (WF rd) 0 P a next Q g):
  o.uponIn (WF rd) 0 P a (λa' w'=>next a' w'/\ ∃v,a'=a.put o.dst v) Q g:=by
 cases g with
 |ok n w'=>
  cases n with
  |value v=>exact⟨h,_,rfl⟩
  |skip=>exact⟨h,_,rfl⟩
  |defer d=>
   have:=congrArg List.length (t _ _ h)
   revert this
   cases o.dst<;>simp[Act.put]
  |enter f j=>
   exact⟨h.1,CallsIn.mono h.2 gq⟩
  |row r j=>exact⟨h.1,RowsIn.mono h.2 gq⟩
  |round l f q assign m=>exact⟨h.1,RoundIn.mono h.2 gq⟩
  |_=>exact h.elim
 |halt x w'=>cases x<;>first|exact h|exact h.elim
def YY(e:Env)(H:Qc):Qy:=λx e' H'=>x=.normal/\e'=e/\H'=H
theorem YY.mk{e:Env}{H:Qc}:YY e H .normal e H:=⟨rfl,rfl,rfl⟩
inductive Sb (af bf ds:List Nat) (xs:List A) (env0:Env):Env->Prop
 |nil:Sb af bf ds xs env0 []
 |dep (j:Nat) {s:Nat} {a:A} {r:Env} (h1:af.contains j=AE) (h2:ds[j]?=AC s) (h3:xs[j]?=AC a) (k:Sb af bf ds xs env0 r):Sb af bf ds xs env0 ((s,a)::r)
 |old {s:Nat} {a:A} {r:Env} (h1:ds.contains s=AD) (h2:lk env0 s=a) (k:Sb af bf ds xs env0 r):Sb af bf ds xs env0 ((s,a)::r)
 |pre (j:Nat) {s:Nat} {a:A} {r:Env} (h1:bf.contains j=AE) (h2:ds[j]?=AC s) (h3:lk env0 s=a) (k:Sb af bf ds xs env0 r):Sb af bf ds xs env0 ((s,a)::r)
def Qi(o:AM):AA Nat:=(o.after.toList.filter (Region.binds .any)).map (·.on)
def Nq(l:AA AM)(i:Nat):AA Nat:=(List.range l.length).filter λj=>((l[j]?).map Qi).getD [] |>.contains i
inductive Nt (P:AK) (N:Nat) (l:List AM) (ds:List Nat) (xs:List A) (env0:Env) (i:Nat) (H H':Qc):Prop
 |mk (o:AM) (e:Env) (d:Nat) (x:A) (ho:l[i]?=AC o) (hd:o.dst=AC d) (hx:xs[i]?=AC x) (hs:Sb (Qi o) (Nq l i) ds xs env0 e)
   (h:WO P H.length N l.toArray [o] e H (YY (up e d x) H')):Nt P N l ds xs env0 i H H'
variable {env0:Env}
theorem Nt.use{l:AA AM}{O:AA Nat}{xs:AA A}{i:Nat}{H:Qc}(B:Nt P N l O xs env0 i H H'){K:Act->AJ->Prop}{a:Act}{o:AM}(ho:l[i]?=AC o)
  (y:CZ fr ro σ H w)(hN:a.tmps.size=N)(M:Iq fr a.defers w)(aa:KP rd fr w)
  (hD:∀j∈Qi o,∀s x,O[j]?=AC s->xs[j]?=AC x->VR ro σ w x (a.tmps.getD s undef))
  (hE:∀s,O.contains s=AD->VR ro σ w (lk env0 s) (a.tmps.getD s undef))(hP:∀j s,(Nq l i).contains j=AE->O[j]?=AC s->VR ro σ w (lk env0 s) (a.tmps.getD s undef))
  (hK:∀v w' ro' τ d x,o.dst=AC d->xs[i]?=AC x->VR ro' (σ++τ) w' x ((a.put o.dst v).tmps.getD d undef)->CZ fr ro' (σ++τ) H' w'->Ql fr ro w ro' w'->K (a.put o.dst v) w'):
  wpOpIn (WF rd) 0 P l.toArray Q i K a w:=by
 obtain⟨F,e,d,x,W,hd,hx,hs,h⟩:=B;obtain rfl:F=o:=XY (W.symm.trans ho);have L:DN fr ro σ H e N a w:=by
  refine⟨y,?_,hN,M⟩;intro s;clear h
  induction hs with
  |nil=>exact trivial
  | @dep j s1 E r m g h3 _ ih=>
   unfold lk;cases B:Nat.beq s s1 with
   |false=>exact ih
   |true=>
    obtain rfl:=XP B
    grind
  | @old s1 E r m g _ ih=>
   unfold lk;cases B:Nat.beq s s1 with
   |false=>exact ih
   |true=>
    obtain rfl:=XP B
    grind
  | @pre j s1 E r m g h3 _ ih=>
   unfold lk;cases B:Nat.beq s s1 with
   |false=>exact ih
   |true=>
    obtain rfl:=XP B
    grind
 have J:=h rd fr ro σ a w L aa;have fin:∀v w',IM H.length fr ro σ w N a.defers (YY (up e d x) H') .normal (a.put F.dst v) w'->K (a.put F.dst v) w':=by
  rintro v w' ⟨_,ab,H2,ro',σ',ad,_,⟨_,rfl,rfl⟩,r',t,ht,_,V⟩;have hσ:σ'=σ++σ'.drop H.length:=by
   conv=>lhs;rw[<- Xy H.length σ']
   rw[ht, <- y.len,X9]
  have R:=r'.env d;unfold lk at R;rw[VD]at R;rw[hσ]at R;refine hK v w' ro' (σ'.drop H.length) d x hd hx R ?_ t;rw[<- hσ];exact r'.sim.frMono V.sub
 unfold wpOpIn;have Y:l.toArray[i]?=AC F:=by simpa using ho
 rw[Y];simp only;unfold FD wpListIn at J;split at J
 .rename_i hw;rw[Vs hw];obtain⟨T,J⟩:=J;refine⟨T,?_⟩;have g:=rv (by
   intro a' w' q;unfold wpListIn at q;obtain⟨_,_,_,_,_,_,_,_,_,_,_,q,_⟩:=q;exact q) J
  generalize(F.semAt (WF rd).round a.eval).run P w=res at*;cases res with
  |ok n w'=>
   cases n with
   |value v=>exact fin _ _ g.1
   |skip=>exact fin _ _ g.1
   |defer df=>
    exfalso;obtain⟨⟨_,_,_,_,_,_,_,_,_,_,_,q,_⟩,_⟩:=g;have:=congrArg List.length q
    revert this
    cases F.dst<;>simp[Act.put]
   |enter f G=>
    refine⟨g.1,CallsIn.mono g.2 (λe X t=>?_)⟩;cases e with
    |returned v=>exact fin _ _ t.1
    |panicked c=>obtain⟨E,_,_,_,_,_,m,⟨rfl,_⟩,_⟩:=t;exact m.elim
    |outgrown=>obtain⟨a1,w1,E,_,_,_,_,_,m,⟨rfl,_⟩,_⟩:=t;exact m.elim
   |row r G=>
    exact⟨g.1,RowsIn.mono g.2 (λ_ _ t=>fin _ _ t.1)⟩
   |round l f tmps assign ac=>
    refine⟨g.1,RoundIn.mono g.2 (λe X t=>?_)⟩;cases e with
    |returned v=>exact fin _ _ t.1
    |panicked c=>obtain⟨E,_,_,_,_,_,m,⟨rfl,_⟩,_⟩:=t;exact m.elim
    |outgrown=>obtain⟨a1,w1,E,_,_,_,_,_,m,⟨rfl,_⟩,_⟩:=t;exact m.elim
   |_=>exact g.elim
  |halt x w'=>
   cases x with
   |panic v=>obtain⟨E,_,_,_,_,_,m,⟨rfl,_⟩,_⟩:=g;exact m.elim
   |_=>exact g.elim
 simp_all[wpListIn]
theorem a_{p:Nat->Prop}(d:∀i,p i\/ ¬p i):∀n,p n->∃i,i<=n/\p i/\ ∀j,j<i->¬p j:=by
 intro n
 induction n using Nat.strongRecOn with
 |ind n f=>
  grind
def Dy(L:Array Bool)(i:Nat):Prop:=L[i]?=AC AE
variable {L:Array Bool}
theorem Zz{l:AA AM}(y:L.size=l.length){i:Nat}:
  i∈Region.ready .any l.toArray L↔ ∃o,l[i]?=AC o/\ ¬Dy L i/\ ∀j∈Qi o,Dy L j:=by
 unfold Region.ready;simp only[Xd,List.mem_range,XV,XF];have g:∀j,L.getD j AD=AE↔Dy L j:=by
  intro j;unfold Dy;rw[Array.getD_eq_getD_getElem?]
  grind
 constructor
 .rintro⟨f,m,d⟩;refine⟨l[i],sq,?_,?_⟩
  .grind
  .rw[XJ f]at d;simp only[Xj,Option.getD_some,Array.all_eq_true']at d;intro j h;unfold Qi at h
   grind
 .rintro⟨o,f,m,d⟩;have q:i<l.length:=gq;refine⟨q,?_,?_⟩
  .grind
  .rw[f];simp only[Xj,Option.getD_some,Array.all_eq_true'];intro e t;cases x:Region.binds .any e with
   |false=>simp
   |true=>
    have:=(g _).2 (d e.on (by unfold Qi;grind))
    grind
theorem JO{i j:Nat}(hi:i<L.size):Dy (L.setIfInBounds i AE) j↔j=i\/Dy L j:=by
 grind[Dy]
def NN(L:Array Bool):Nat:=L.toList.countP (!·)
theorem lL{i:Nat}(hi:i<L.size)(h:¬Dy L i):NN (L.setIfInBounds i AE)+1=NN L:=by
 unfold NN;have d:L.toList[i]=false:=by
  grind[Dy]
 grind
theorem qk{i:Nat}(hi:i<L.size)(h:¬Dy L i):0<NN L:=by have:=lL hi h;omega
inductive M7 (l:List AM) (m:Nat):Nat->Prop
 |one {o:AM} {j:Nat} (ho:l[m]?=AC o) (hj:j∈Qi o):M7 l m j
 |step {o:AM} {i j:Nat} (h:M7 l m i) (ho:l[i]?=AC o) (hj:j∈Qi o):M7 l m j
def da(l:AA AM):Nat->AA Nat->AA Nat
 |0,S=>S
 |j+1,S=>da l j (bif S.contains j then S++(match l[j]? with|some o=>Qi o|none=>[])else S)
theorem iW{l:AA AM}{m:Nat}:∀(n:Nat) (S:AA Nat),(∀j∈S,M7 l m j)->∀j∈da l n S,M7 l m j
 |0,S,h,j,hj=>h j hj
 |n+1,S,h,j,hj=>by
  refine iW n _ ?_ j hj;intro i hi;cases q:S.contains n with
  |false=>grind
  |true=>
   rw[q]at hi;rcases VB.1 hi with z|z
   .exact h i z
   .cases ho:l[n]? with
    |none=>grind
    |some o=>rw[ho]at z;exact .step gq ho z
def Ir(ds:AA Nat)(xs:AA A)(env0:Env):Env:=ds.zip xs++env0
theorem Qqt{f:AA Nat}{xs:AA A}(g:f.length=xs.length)(s:Nat):
  (∃(j:Nat) (x:A),f[j]?=AC s/\xs[j]?=AC x/\lk (Ir f xs env0) s=x)\/(f.contains s=AD/\lk (Ir f xs env0) s=lk env0 s):=by
 unfold Ir
 induction f generalizing xs with
 |nil=>simp
 |cons d f t=>
  cases xs with
  |nil=>simp at g
  |cons x xs=>
   simp[XZ,Nat.add_right_cancel_iff]at g;simp only[List.zip_cons_cons,VJ,lk];cases h:Nat.beq s d with
   |true=>
    obtain rfl:=XP h;left;exact⟨0,x,rfl,rfl,sq⟩
   |false=>
    have m:s≠d:=λq=>by simp_all
    rcases t g with⟨j,y,E,B,F⟩|⟨E,B⟩
    .left;exact⟨j+1,y,gq,gq,gq⟩
    grind
def C0.nodupB:AA Nat->Bool
 |[]=>AE
 |x::r=> !r.contains x&&C0.nodupB r
def C0.goB(l:AA AM)(m:Nat):Nat->AA AM->Bool
 |_,[]=>AE
 |i,o::r=>(Qi o).all (λj=>Nat.blt j i)&&(bif Nat.beq i m then(List.range m).all (λj=>(da l m (Qi o)).contains j)else bif Nat.blt m i then(Qi o).contains (i-1)else AE)&&C0.goB l m (i+1) r
def C0.loB(m k:Nat)(los:AA Nat)(hs:AA Bool):Nat->AA AM->Bool
 |_,[]=>(List.range k).all λj=>(List.range m).any λi=>hs.getD i AD&&Nat.beq (los.getD i 0) j
 |i,o::r=>(bif Nat.blt i m then
   (Nat.beq (los.getD i 0) 0||(Qi o).any (λj=>Nat.blt j m&&Nat.ble (los.getD i 0) (los.getD j 0+(if hs.getD j AD then 1 else 0))))
   &&(!hs.getD i AD||(Nat.blt (los.getD i 0) k&&(List.range m).all (λj=> !hs.getD j AD|| !Nat.beq (los.getD i 0) (los.getD j 0)||Nat.beq i j)))
  else AE)&&C0.loB m k los hs (i+1) r
def C0(l:AA AM)(m k N:Nat)(ds los:AA Nat)(hs:AA Bool):Bool:=
 Nat.ble m l.length&&(ds.length==m)&&(l.take m).map (·.dst)==ds.map AC&&ds.all (λd=>Nat.blt d N)&&C0.nodupB ds
 &&C0.goB l m 0 l&&(C0.loB m k los hs 0 l)
theorem ua{f:AA Nat}(h:C0.nodupB f=AE):∀(i j d:Nat),f[i]?=AC d->f[j]?=AC d->i=j:=by
 induction f with
 |nil=>simp
 |cons x r g=>
  simp[C0.nodupB,XV]at h
  grind
theorem sA{l:AA AM}:∀(r:AA AM) (b:Nat),C0.goB l m b r=AE->∀(i:Nat) (o:AM),r[i]?=AC o->
  (∀j∈Qi o,j<b+i)/\(b+i=m->∀j,j<m->j∈da l m (Qi o))/\(m<b+i->b+i-1∈Qi o):=by
 intro r
 induction r with
 |nil=>simp
 |cons x r t=>
  intro b h i o g;simp only[C0.goB]at h;cases i with
  |zero=>
   simp at g;refine⟨λj f=>?_,λd j f=>?_,λd=>?_⟩
   .simp_all
   .simp_all
   .have y:Nat.beq b m=false:=by
     cases q:Nat.beq b m with
     |false=>rfl
     |true=>simp_all
    have B:Nat.blt m b=true:=by simp_all
    grind
  |succ i=>
   grind
inductive Ob (P:AK) (N:Nat) (l:List AM) (ds:List Nat) (xs:List A) (env0:Env):Nat->List (List (Qc×Qc))->Prop
 |nil {i:Nat}:Ob P N l ds xs env0 i []
 |cons {i:Nat} {s:List (Qc×Qc)} {r:List (List (Qc×Qc))} (h:∀p∈s,Nt P N l ds xs env0 i p.1 p.2) (k:Ob P N l ds xs env0 (i+1) r):Ob P N l ds xs env0 i (s::r)
theorem Ob.get{l:AA AM}{d:AA Nat}{xs:AA A}{b:Nat}{f:AA (AA (Qc×Qc))}(h:Ob P N l d xs env0 b f):
  ∀(i:Nat) (s:AA (Qc×Qc)),f[i]?=AC s->∀p∈s,Nt P N l d xs env0 (b+i) p.1 p.2:=by
 induction h with
 |nil=>simp
 | @cons b1 s1 r1 h _ ih=>
  grind
theorem Ob.st0{l:AA AM}{d:AA Nat}{xs:AA A}{i:Nat}:∀p∈([]:AA (Qc×Qc)),Nt P N l d xs env0 i p.1 p.2:=by
 simp
theorem Ob.stC{l:AA AM}{d:AA Nat}{xs:AA A}{i:Nat}{H:Qc}{r:AA (Qc×Qc)}(h:Nt P N l d xs env0 i H H')
  (k:∀p∈r,Nt P N l d xs env0 i p.1 p.2):∀p∈(H,H')::r,Nt P N l d xs env0 i p.1 p.2:=by
 grind
theorem Dw.nil{H:Qc}:Dw H [] []:=trivial
theorem Dw.cons{H:Qc}{d f:AA A}{a b:A}(e:az=a::d)(h:eZ H a b)(k:Dw H d f):Dw H az (b::f):=by subst e;exact⟨h,k⟩
section
variable {P:AK} {o:AM} {env:Env} {H:Qc} {α:Type} {e:α->AA A}
theorem lu{t d:Nat}{x y:Operand}{l:AA α}{i:Int}{v:α}{f:AA A}(h:CI l i=AC v)(he:e v=f)(g:∀w,(underlying t).run P w=.ok (.slice d) w)(m:∀w,(sizeOf d).run P w=.ok k w)
  (j:o.op=.indexAddr t x y:=by rfl)(hx:CP env x=.rsl k (l.map e):=by rfl)(hy:CP env y=.int kk i:=by rfl):CS P o env H (.rp f):=
 he▸QV h g m j hx hy
end
inductive PL (P:AK):List Field->List (Nat×Nat)->Prop
 |nil:PL P [] []
 |cons {f:Field} {n:Nat} {fs:List Field} {pl:List (Nat×Nat)} (h:∀w,(sizeOf f.type).run P w=.ok n w) (k:PL P fs pl):PL P (f::fs) ((f.offset,n)::pl)
theorem PL.run{P:AK}{fs:AA Field}{d:AA (Nat×Nat)}(h:PL P fs d):∀w,(fs.mapM λf=>(do pure (f.offset, <- sizeOf f.type):Sem (Nat×Nat))).run P w=.ok d w:=by
 induction h with
 |nil=>intro w;rfl
 |cons h _ ih=>
  simp_all
structure Ss (P:AK) (t:TypeId) (pl:List (Nat×Nat)):Prop where
 un:∃fs:List Field,(∀w,(underlying t).run P w=.ok (.struct fs.toArray) w)/\PL P fs pl
section
variable {P:AK} {o:AM} {env:Env} {H:Qc}
def RX(env:Env)(pl:AA (Nat×Nat)):AA A->AA (Nat×Operand)->AB (AA A)
 |cs,[]=>AC cs
 |cs,(i,x)::r=>match pl[i]? with
  |none=>AF
  |some (off,size)=>bif Yn (CP env x)&&Nat.beq (Yj (CP env x)).length size&&Nat.ble (off+size) cs.length then RX env pl (splice cs off (Yj (CP env x))) r else AF
theorem mO{fr ro:Nat->Prop}{σ:Ce}{N:Nat}{a:Act}{w:AJ}(r:DN fr ro σ H env N a w){f:AA (Nat×Nat)}:∀(parts:AA (Nat×Operand)) (d:AA A) (l:AA AL) (cs':AA A),
  LR ro σ w d l->RX env f d parts=AC cs'->
  ∃l',Instr.fill (f.toArray[·]?) l.toArray (parts.map λp=>(p.1,a.eval p.2))=AC l'.toArray/\LR ro σ w cs' l'
 |[],d,l,cs',h,q=>by
  cases q;exact⟨l,rfl,h⟩
 |(i,x)::rest,d,l,cs',h,q=>by
  unfold RX at q;cases hp:f[i]? with
  |none=>grind
  |some p=>
   obtain⟨off,size⟩:=p;rw[hp]at q;simp at q;cases hc:(Yn (CP env x)&&Nat.beq (Yj (CP env x)).length size&&Nat.ble (off+size) d.length)with
   |false=>grind
   |true=>
    rw[hc]at q;simp[XV]at hc;obtain⟨⟨c1,c2⟩,c3⟩:=hc;obtain⟨m,q1,q2⟩:=(Qp r x).cells c1;have hm:m.length=size:=by rw[q2.length];simp_all
    have hl:=h.length;obtain⟨l',j,g⟩:=mO r rest _ (splice l off m) cs' (h.splice off q2) q
    grind[tO,Nat.le_of_ble_eq_true]
theorem CS.build{t:TypeId}{z:AL}{zs d:AA A}{g:AA (Nat×Nat)}{parts:AA (Nat×Operand)}(F:∀w,(zeroValue t).run P w=.ok z w)(q:ZR (.agg zs) z)(h:Ss P t g)
  (j:o.op=.build t parts.toArray:=by rfl)(hf:RX env g zs parts=AC d:=by rfl):CS P o env H (.agg d):=by
 intro M B σ N a w r;obtain⟨L,E,x⟩:=h.un;obtain⟨l,rfl,y⟩:=q B σ w;obtain⟨f,m,J⟩:=mO r parts zs l d y hf;refine⟨.agg f.toArray,?_,f,rfl,J⟩;have G:=x.run w;simp only[execOp,j,Instr.build,Vm,F,Result.andThen,E,XH,List.mapM_toArray,Sem.run_map,G,Value.cells,m,Vn]
end
def nz(n:Int):AB Unit:=bif n==0 then AF else AC ()
section
variable {P:AK} {o:AM} {env:Env} {H:Qc}
theorem tJ{x:Operand}{a:A}(m:o.op=.nilCheck x)(j:CP env x=a:=by rfl)(hk:(match a with|.ptr _ _=>AE|.rp _=>AE|_=>AD)=true:=by rfl):CS P o env H a:=by
 intro t q σ N ac w r;have h:=Qp r x;rw[j]at h;cases a<;>first|(cases hk)|skip
 .obtain⟨b,g,f⟩:=h;refine⟨_,?_,b,g,rfl⟩
  simp_all[execOp]
 .obtain⟨b,d,g,f⟩:=h;refine⟨_,?_,b,d,rfl,f⟩
  simp_all[execOp]
end
mutual
def DO(i k:Nat)(es:AA (AA A)):A->A->Prop
 |.agg az,b=>∃bs,b=.agg bs/\CN i k es az bs
 |.fn f x c,b=>∃x' c',b=.fn f x' c'/\CN i k es x x'/\CN i k es c c'
 |.iface t a,b=>∃a',b=.iface t a'/\DO i k es a a'
 |.tup az,b=>∃bs,b=.tup bs/\CN i k es az bs
 |.osl j o n k',b=>b=.osl j o n k'\/(j=i/\o=0/\k'=k/\n=es.length/\b=.rsl k es)
 |.nils,b=>b=.nils\/ ∃k',b=.rsl k' []
 |a,b=>b=a
def CN(i k:Nat)(es:AA (AA A)):AA A->AA A->Prop
 |[],b=>b=[]
 |a::az,b=>∃a' as',b=a'::as'/\DO i k es a a'/\CN i k es az as'
end
mutual
theorem DO.refl{i k:Nat}{es:AA (AA A)}:∀a:A,DO i k es a a
 |.agg az=>⟨az,rfl,CN.refl az⟩
 |.fn _ x c=>⟨x,c,rfl,CN.refl x,CN.refl c⟩
 |.iface _ a=>⟨a,rfl,DO.refl a⟩
 |.tup az=>⟨az,rfl,CN.refl az⟩
 |.osl _ _ _ _=>.inl rfl
 |.nils=>.inl rfl
 |.any=>rfl
 |.bool _=>rfl
 |.int _ _=>rfl
 |.str _=>rfl
 |.nilp=>rfl
 |.ptr _ _=>rfl
 |.rp _=>rfl
 |.rsl _ _=>rfl
 |.nilf=>rfl
 |.nilif=>rfl
 |.map _=>rfl
 |.nilm=>rfl
theorem CN.refl{i k:Nat}{es:AA (AA A)}:∀az:AA A,CN i k es az az
 |[]=>rfl
 |a::az=>⟨a,az,rfl,DO.refl a,CN.refl az⟩
end
theorem DO.agg{i k:Nat}{es:AA (AA A)}{az bs:AA A}(h:CN i k es az bs):DO i k es (.agg az) (.agg bs):=⟨bs,rfl,h⟩
theorem DO.tup{i k:Nat}{es:AA (AA A)}{az bs:AA A}(h:CN i k es az bs):DO i k es (.tup az) (.tup bs):=⟨bs,rfl,h⟩
theorem DO.iface{i k:Nat}{es:AA (AA A)}{t:Nat}{a b:A}(h:DO i k es a b):DO i k es (.iface t a) (.iface t b):=⟨b,rfl,h⟩
theorem DO.own{i n:Nat}(hn:n=es.length):DO i k es (.osl i 0 n k) (.rsl k es):=.inr gq
theorem DO.nil{i k':Nat}:DO i k es .nils (.rsl k' []):=.inr ⟨k',rfl⟩
theorem CN.cons{i:Nat}{a b:A}{bs:AA A}(h:DO i k es a b)(q:CN i k es az bs):CN i k es (a::az) (b::bs):=⟨b,bs,rfl,h,q⟩
mutual
theorem kg{i k:Nat}{es:AA (AA A)}{ro ro':Nat->Prop}{σ:Ce}{w:AJ}(ext:DR ro σ w ro' σ w)
  (hf:∀v,VR ro σ w (.osl i 0 es.length k) v->VR ro' σ w (.rsl k es) v):∀(a b:A) (v:AL),DO i k es a b->VR ro σ w a v->VR ro' σ w b v
 |.agg az,b,v,h,q=>by
  obtain⟨bs,rfl,h⟩:=h;obtain⟨l,rfl,q⟩:=q;exact⟨l,rfl,Zg ext hf az bs l h q⟩
 |.fn f x c,b,v,h,q=>by
  obtain⟨x',c',rfl,h1,h2⟩:=h;obtain⟨l,l',rfl,q1,q2⟩:=q;exact⟨l,l',rfl,Zg ext hf x x' l h1 q1,Zg ext hf c c' l' h2 q2⟩
 |.iface t a,b,v,h,q=>by
  obtain⟨a',rfl,h⟩:=h;obtain⟨x,rfl,q⟩:=q;exact⟨x,rfl,kg ext hf a a' x h q⟩
 |.tup az,b,v,h,q=>by
  obtain⟨bs,rfl,h⟩:=h;obtain⟨l,rfl,q⟩:=q;exact⟨l,rfl,Zg ext hf az bs l h q⟩
 |.osl j o n k',b,v,h,q=>by
  rcases h with rfl|⟨rfl,rfl,rfl,rfl,rfl⟩
  .exact q.mono ext
  .exact hf v q
 |.nils,b,v,h,q=>by
  rcases h with rfl|⟨k',rfl⟩
  .exact q
  .obtain rfl:v=.slice AF 0 0:=q;exact⟨AF,0,rfl,XS _,.inl rfl⟩
 |.any,b,v,h,q=>by obtain rfl:b=_:=h;trivial
 |.bool _,b,v,h,q=>by obtain rfl:b=_:=h;exact q
 |.int _ _,b,v,h,q=>by obtain rfl:b=_:=h;exact q
 |.str _,b,v,h,q=>by obtain rfl:b=_:=h;exact q
 |.nilp,b,v,h,q=>by obtain rfl:b=_:=h;exact q
 |.ptr _ _,b,v,h,q=>by obtain rfl:b=_:=h;exact q.mono ext
 |.rp _,b,v,h,q=>by obtain rfl:b=_:=h;exact q.mono ext
 |.rsl _ _,b,v,h,q=>by obtain rfl:b=_:=h;exact q.mono ext
 |.nilf,b,v,h,q=>by obtain rfl:b=_:=h;exact q
 |.nilif,b,v,h,q=>by obtain rfl:b=_:=h;exact q
 |.map _,b,v,h,q=>by obtain rfl:b=_:=h;exact q.mono ext
 |.nilm,b,v,h,q=>by obtain rfl:b=_:=h;exact q
theorem Zg{i k:Nat}{es:AA (AA A)}{ro ro':Nat->Prop}{σ:Ce}{w:AJ}(ext:DR ro σ w ro' σ w)
  (hf:∀v,VR ro σ w (.osl i 0 es.length k) v->VR ro' σ w (.rsl k es) v):∀(az bs:AA A) (l:AA AL),CN i k es az bs->LR ro σ w az l->LR ro' σ w bs l
 |[],bs,l,h,q=>by obtain rfl:bs=[]:=h;exact q
 |a::az,bs,l,h,q=>by
  obtain⟨a',as',rfl,h1,h2⟩:=h;obtain⟨v,l',rfl,q1,q2⟩:=q;exact⟨v,l',rfl,kg ext hf a a' v h1 q1,Zg ext hf az as' l' h2 q2⟩
end
def ef(i k:Nat)(es:AA (AA A))(x y:CW):Prop:=y=x\/ ∃t cs cs',x=.cells t cs/\y=.cells t cs'/\CN i k es cs cs'
def Dg(i k:Nat)(es:AA (AA A)):Qc->Qc->Prop
 |[],h=>h=[]
 |x::r,h=>∃y r',h=y::r'/\ef i k es x y/\Dg i k es r r'
def Cx(i k:Nat)(es:AA (AA A))(env:Env):Env->Prop
 |[]=>True
 |(s,a)::r=>DO i k es (lk env s) a/\Cx i k es env r
theorem Dg.nil{i:Nat}:Dg i k es [] []:=rfl
theorem Dg.keep{i:Nat}{x:CW}{r r':Qc}(h:Dg i k es r r'):Dg i k es (x::r) (x::r'):=⟨x,r',rfl,.inl rfl,h⟩
theorem Dg.cells{i k t:Nat}{es:AA (AA A)}{cs cs':AA A}{r r':Qc}(q:CN i k es cs cs')(h:Dg i k es r r'):Dg i k es (.cells t cs::r) (.cells t cs'::r'):=⟨_,r',rfl,.inr gq,h⟩
theorem Dg.get{i k:Nat}{es:AA (AA A)}:∀{H H':Qc},Dg i k es H H'->∀(j:Nat) (y:CW),H'[j]?=AC y->∃x,H[j]?=AC x/\ef i k es x y
 |[],_,h,j,y,q=>by obtain rfl:_=[]:=h;simp at q
 |x::r,_,h,j,y,q=>by
  obtain⟨y',r',rfl,h1,h2⟩:=h;cases j with
  |zero=>grind
  |succ j=>obtain⟨x',p1,p2⟩:=h2.get j y q;grind
theorem Dg.len{i k:Nat}{es:AA (AA A)}:∀{H H':Qc},Dg i k es H H'->H'.length=H.length
 |[],_,h=>by obtain rfl:_=[]:=h;rfl
 |x::r,_,h=>by obtain⟨y',r',rfl,h1,h2⟩:=h;simp[h2.len]
theorem ef.live{i k:Nat}{es:AA (AA A)}{x y:CW}(h:ef i k es x y):y.live=x.live:=by
 rcases h with rfl|⟨t,f,d,rfl,rfl,_⟩<;>rfl
theorem Ym{H:Qc}{Q i t:Nat}(ov:Env)(hi:Nat.ble Q i=AE)(hH:H[i]?=AC (.row t k es))(R:Cx i k es env ov)(G:Dg i k es (H.set i .dead) H'):Le Q env H (ov++env) H':=by
 intro fr P σ N a w r
 let ro':Nat->Prop:=λb=>P b\/σ[i]?=AC (AC b)
 have hown:=λb h=>r.sim.own i b _ h hH rfl;have ext:DR P σ w ro' σ w:=⟨λ_ q=>.inl q,λ_ _=>rfl,λ_ _ q=>q,λ_ _ q=>q⟩;have hf:∀v,VR P σ w (.osl i 0 es.length k) v->VR ro' σ w (.rsl k es) v:=by
  intro v h;rcases h with⟨Q,h⟩|⟨b,p,L,t',m,g,h,B,⟨E,ab⟩,h4,X⟩
  .have:es=[]:=gq;subst this;exact⟨AF,0,h,XS _,.inl rfl⟩
  .refine⟨_,L,h,E,?_⟩;by_cases he:es=[]
   .exact .inl he
   .right;have hc:0<L:=Vf gq E;obtain rfl:=B hc;obtain⟨l,W,q2⟩:=r.sim.blk i _ _ g hH;refine⟨b,0,sq,.inr g,?_⟩;have:=YT (pre:=[]) (by simpa using W) q2;exact this.keep ⟨λ_ q=>.inl q,λ_ _=>rfl,λ_ _ q=>q,λ_ _ q=>q⟩ rfl
 have f:∀(j:Nat) (y:CW),H'[j]?=AC y->y≠ .dead->j≠i/\ ∃x,H[j]?=AC x/\ef i k es x y:=by
  intro j y h hv;obtain⟨x,g,B⟩:=G.get j y h;by_cases e:j=i
  .subst e;rw[Xb]at g;simp only[if_true]at g;split at g
   .cases g;rcases B with rfl|⟨_,_,_,q,_,_⟩
    .grind
    .cases q
   .simp at g
  grind
 refine⟨ro',σ,⟨⟨by rw[G.len,X3];exact r.sim.len,r.sim.roOk.to (λ_ q=>.inl q) (λ_ _=>rfl) ?_,r.sim.frLt,?_,?_,?_,?_,r.sim.hidTo (· = ·) Yq (XS _) (λj b x c W q2 q3 q4=>q4.elim id λq=>((r.sim.hid j b x c W q2 q3).ne i c _ q hH rfl rfl).elim) sq λj d y Y T g3=>.inl ?_⟩,?_,r.size,r.defers⟩,λ_ q=>.inl q,rfl⟩
 rotate_left 5
 .obtain⟨_,x,g4,g5⟩:=f j y T (iJ g3);exact⟨j,x,rfl,Y,g4,λz=>by rw[<- g5.live];exact z,λc q=>by rcases g5 with rfl|⟨t,cs,O,rfl,rfl,_⟩;exact q;exact q.elim⟩
 rotate_left 1
 .rintro b (q|q)
  .exact r.sim.roLt b q
  grind
 .rintro b (q|q)
  .exact r.sim.roFr b q
  grind
 .intro j b v g B E;obtain⟨e,x,B,J⟩:=f j v B (CW.nd E);have hx:x.live=true:=by rw[<- J.live];exact E
  obtain⟨M,F,p3⟩:=r.sim.own j b x g B hx;refine⟨M,?_,p3⟩;rintro(q|q)
  .exact F q
  .exact e (r.sim.inj j i b x _ g q B hH hx rfl)
 .intro j j' b v v' g B E h4 X h6;obtain⟨_,x,M,F⟩:=f j v E (CW.nd X);obtain⟨_,x',aa,V⟩:=f j' v' h4 (CW.nd h6);exact r.sim.inj j j' b x x' g B M aa (by rw[<- F.live];exact X) (by rw[<- V.live];exact h6)
 .intro j s v g B;by_cases hv:v≠ .dead
  .obtain⟨_,x,M,F⟩:=f j v B hv;have J:=r.sim.blk j s x g M;rcases F with rfl|⟨t,cs,O,rfl,rfl,q⟩
   .exact J.keep ext (λ_ _ _=>rfl) (λ_ _ _ _=>rfl)
   .cases s with
    |none=>exact J.elim
    |some b=>
     obtain⟨l,e1,e2,e3⟩:=J;exact⟨l,e1,Zg ext hf cs O l q e2,e3⟩
  .obtain rfl:v=.dead:=Classical.not_not.1 hv;trivial
 .intro s
  induction ov with
  |nil=>exact(r.env s).mono ext
  |cons p ov ih=>
   obtain⟨s1,a1⟩:=p;obtain⟨Y,T⟩:=R;simp only[VJ,lk];cases q:Nat.beq s s1 with
   |true=>
    obtain rfl:=XP q;exact kg ext hf _ _ _ Y (r.env s)
   |false=>exact ih T
theorem Cx.nil{i:Nat}:Cx i k es env []:=trivial
theorem Cx.cons{i s:Nat}{a b:A}{r:Env}(h:lk env s=a)(q:DO i k es a b)(g:Cx i k es env r):Cx i k es env ((s,b)::r):=⟨h▸q,g⟩
def D2(P:AK)(env:Env)(H:Qc)(l:ResultVar)(x:A):Prop:=
 ∀fr ro σ N a w,DN fr ro σ H env N a w->∃v,((match l with
  |.tmp t=>pure (a.tmps.getD t undef)
  |.cell b t=>do loadVar t (<- asAddr (a.tmps.getD b undef)):Sem AL)).run P w=.ok v w/\VR ro σ w x v
def C5(P:AK)(env:Env)(H:Qc):AA ResultVar->AA A->Prop
 |[],xs=>xs=[]
 |l::ls,xs=>∃x xs',xs=x::xs'/\D2 P env H l x/\C5 P env H ls xs'
section
variable {P:AK} {fn:Func} {env:Env} {H:Qc}
theorem D2.tmp{t:Nat}{x:A}(d:lk env t=x:=by rfl):D2 P env H (.tmp t) x:=
 λfr ro σ N a w r=>⟨a.tmps.getD t undef,rfl,d▸r.env t⟩
theorem D2.cell{b t:Nat}{p x:A}{j:AA A}(B:∀w,(isAgg t).run P w=.ok AD w)(f:Df H p (x::j))(m:lk env b=p:=by rfl):D2 P env H (.cell b t) x:=by
 intro q h σ N a w r;have d:=r.env b;rw[m]at d;obtain⟨G,g,E,⟨y,J,_,F⟩,_⟩:=f q h σ w _ r.sim d
 simp_all[asAddr,loadVar]
theorem uP{b t n:Nat}{p:A}{d:AA A}(B:∀w,(isAgg t).run P w=.ok AE w)(G:∀w,(sizeOf t).run P w=.ok n w)(g:Df H p d)(x:lk env b=p:=by rfl)(hl:(d.take n).length=n:=by rfl):
  D2 P env H (.cell b t) (.agg (d.take n)):=by
 intro y j σ N a w r;have f:=r.env b;rw[x]at f;obtain⟨F,h,E,q⟩:=g y j σ w _ r.sim f;obtain⟨l,m,_,J⟩:=YE (P:=P) 0 (by simpa using q.take n);refine⟨.agg l.toArray,?_,l,rfl,m⟩
 simp_all[asAddr,loadVar,loadCells]
theorem Yk{b t n i:Nat}{d:AA A}(g:∀w,(isAgg t).run P w=.ok AE w)(f:∀w,(sizeOf t).run P w=.ok n w)(h:lk env b=.ptr i 0)(hH:H[i]?=AC (.cells T d))(j:d.length=n):
  D2 P env H (.cell b t) (.agg d):=by
 have:=uP g f (Df.cells hH rfl) h gq
 grind
theorem YD{b t i:Nat}{x:A}(ha:∀w,(isAgg t).run P w=.ok AD w)(hx:lk env b=.ptr i 0)(hH:H[i]?=AC (.cells T [x])):D2 P env H (.cell b t) x:=
 D2.cell ha (Df.cells hH rfl) hx
theorem C5.nil:C5 P env H [] []:=rfl
theorem C5.cons{l:ResultVar}{ls:AA ResultVar}{x:A}{xs:AA A}(h:D2 P env H l x)(k:C5 P env H ls xs):C5 P env H (l::ls) (x::xs):=⟨x,xs,rfl,h,k⟩
theorem C5.run{fr ro:Nat->Prop}{σ:Ce}{N:Nat}{a:Act}{w:AJ}(r:DN fr ro σ H env N a w):∀{ls:AA ResultVar} {xs:AA A},C5 P env H ls xs->
  ∃vs:AA AL,(ls.mapM λl=>(match l with
   |.tmp t=>pure (a.tmps.getD t undef)
   |.cell b t=>do loadVar t (<- asAddr (a.tmps.getD b undef)):Sem AL)).run P w=.ok vs w/\LR ro σ w xs vs
 |[],_,h=>by obtain rfl:_=[]:=h;exact⟨[],rfl,rfl⟩
 |l::ls,_,h=>by
  obtain⟨x,xs,rfl,h1,h2⟩:=h;obtain⟨v,e1,e2⟩:=h1 fr ro σ N a w r;obtain⟨vs,e3,e4⟩:=C5.run r h2;refine⟨v::vs,?_,v,vs,rfl,e2,e4⟩
  simp_all
theorem QJ{ls:AA ResultVar}{xs:AA A}(h:fn.results=ls.toArray)(B:Nat.beq ls.length 1=AD)(k:C5 P env H ls xs):H7 P fn env H (.tup xs):=by
 intro E y σ N a w r;obtain⟨vs,t,f⟩:=k.run r;have d:¬vs.length=1:=by
  have:∀{ls:AA ResultVar} {xs:AA A},C5 P env H ls xs->xs.length=ls.length:=by
   intro ls
   induction ls with
   |nil=>intro xs h;obtain rfl:xs=[]:=h;rfl
   |cons l ls j=>intro xs h;obtain⟨x,g,rfl,_,m⟩:=h;simp[j m]
  rw[f.length,this k];intro q;simp_all
 refine⟨.tuple vs.toArray,?_,vs,rfl,f⟩;unfold results;rw[List.mapM_toArray,Vm,Sem.run_map]
 grind[Result.andThen,Sem.run_pure]
theorem JS{l:ResultVar}{x:A}(h:fn.results= #[l])(k:D2 P env H l x):H7 P fn env H x:=by
 intro g j σ N a w r;obtain⟨vs,f,d⟩:=(C5.cons k C5.nil).run r;obtain⟨v,_,rfl,d,rfl⟩:=d;refine⟨v,?_,d⟩;unfold results;rw[h,show #[l]=[l].toArray from rfl];rw[List.mapM_toArray,Vm,Sem.run_map]
 erw [f]
 rfl
end
mutual
def Ip:A->Bool
 |.bool _=>AE
 |.int _ _=>AE
 |.str _=>AE
 |.agg cs=>L2 cs
 |_=>AD
def L2:AA A->Bool
 |[]=>AE
 |a::r=>Ip a&&L2 r
end
mutual
def Ya:A->AL
 |.bool b=>.bool b
 |.int k n=>.int k n
 |.str s=>.string ⟨s.toArray⟩
 |.agg cs=>.agg (YZ cs).toArray
 |_=>.bool AD
def YZ:AA A->AA AL
 |[]=>[]
 |a::r=>Ya a::YZ r
end
mutual
theorem VR.val{ro:Nat->Prop}{σ:Ce}{w:AJ}:∀{a:A} {v:AL},Ip a=AE->VR ro σ w a v->v=Ya a
 |.bool _,_,_,h=>h
 |.int _ _,_,_,h=>h
 |.str _,_,_,h=>h
 |.agg cs,v,hs,h=>by
  obtain⟨l,rfl,h⟩:=h;rw[Ya,LR.val hs h]
theorem LR.val{ro:Nat->Prop}{σ:Ce}{w:AJ}:∀{az:AA A} {l:AA AL},L2 az=AE->LR ro σ w az l->l=YZ az
 |[],l,_,h=>h
 |a::r,l,hs,h=>by
  obtain⟨v,l',rfl,h1,h2⟩:=h;simp only[L2,XV]at hs;rw[YZ,VR.val hs.1 h1,LR.val hs.2 h2]
end
mutual
theorem mR{ro:Nat->Prop}{σ:Ce}{w:AJ}:∀{a:A},Ip a=AE->VR ro σ w a (Ya a)
 |.bool _,_=>rfl
 |.int _ _,_=>rfl
 |.str _,_=>rfl
 |.agg cs,hs=>⟨YZ cs,rfl,lp hs⟩
theorem lp{ro:Nat->Prop}{σ:Ce}{w:AJ}:∀{az:AA A},L2 az=AE->LR ro σ w az (YZ az)
 |[],_=>rfl
 |a::r,hs=>by
  simp only[L2,XV]at hs;exact⟨_,_,rfl,mR hs.1,lp hs.2⟩
end
open Go.MapKept
structure JI (P:AK) (kt:TypeId) {α:Type} (ek:α->A):Prop where
 scl:∀x,Ip (ek x)=AE
 inj:∀x y,Ya (ek x)=Ya (ek y)->x=y
 check:∀(w:AJ) em x,(Instr.checkKey em 10000 kt (Ya (ek x))).run P w=.ok () w
 find:∀(w:AJ) x (es:List MapEntry),(∀e∈es,∃y,e.key=Ya (ek y))->
  ((Instr.findKey kt (Ya (ek x)) es).run P w=.ok AF w/\ ∀e∈es,e.key≠Ya (ek x))\/ ∃j e,(Instr.findKey kt (Ya (ek x)) es).run P w=.ok (AC (j,e.val)) w/\es[j]?=AC e/\e.key=Ya (ek x)
 stays:∀(w:AJ) x,(Instr.keyThatStays (Ya (ek x)) (Ya (ek x))).run P w=.ok (Ya (ek x)) w
variable {β:Type}
section
variable {P:AK} {kt:TypeId}
theorem JI.plain{α:Type}{f:α->A}{d:TypeDesc}(j:P.underlying kt=AC d)(g:∀x,IsKey d (Ya (f x)))(q:∀x,Ip (f x)=AE)(hi:∀x y,Ya (f x)=Ya (f y)->x=y):JI P kt f:=by
 refine⟨q,hi,λw h x=>run_checkKey j (g x) h 9999,λw x t m=>?_,λw x=>run_keyThatStays (g x)⟩
 grind[findNow_spec,run_findKey]
theorem JI.int{q:IntKind}(hk:P.underlying kt=AC (.int q)):JI P kt (λn=>A.int q n):=
 JI.plain hk (λx=>by rfl) (λ_=>rfl) (λx y h=>by simpa[Ya]using h)
theorem JI.str(hk:P.underlying kt=AC .string):JI P kt A.str:=
 JI.plain hk (λx=>by simp[IsKey,Ya]) (λ_=>rfl) (λx y h=>by simpa[Ya]using h)
theorem JI.struct{α:Type}[DecidableEq α]{d:α->A}{fs:Array Field}(T:P.underlying kt=AC (.struct fs))(J:∀x,Ip (d x)=AE)(hi:∀x y,Ya (d x)=Ya (d y)->x=y)
  (O:∀(w:AJ) em x,(Instr.checkKey em 10000 kt (Ya (d x))).run P w=.ok () w)
  (he:∀(w:AJ) x y,(Op.equal kt (Ya (d x)) (Ya (d y))).run P w=.ok (AG (x=y)) w)(H:∀x,Instr.sameBits 10000 (Ya (d x)) (Ya (d x))=AE):JI P kt d:=by
 refine⟨J,hi,O,λw x f L=>?_,λw x=>by simp[Instr.keyThatStays,H x]⟩
 .have q:∀(f:AA MapEntry) (i:Nat),(∀e∈f,∃y,e.key=Ya (d y))->
    ((Instr.findAsking kt (Ya (d x)) f i).run P w=.ok AF w/\ ∀e∈f,e.key≠Ya (d x))\/
    ∃j e,(Instr.findAsking kt (Ya (d x)) f i).run P w=.ok (AC (i+j,e.val)) w/\f[j]?=AC e/\e.key=Ya (d x):=by
   intro f
   induction f with
   |nil=>simp_all[Instr.findAsking]
   |cons e f M=>
    intro i g;obtain⟨y,m⟩:=g e sq;have t:=he w x y;by_cases h:x=y
    .subst h;exact .inr ⟨0,e,by simp[Instr.findAsking,m,t],rfl,m⟩
    .rcases M (i+1) (λz E=>g z (by simp[E]))with⟨B,F⟩|⟨j,N,B,F,G⟩
     .refine .inl ⟨by simp[Instr.findAsking,m,t,h,B],λz E=>?_⟩
      grind
     .exact .inr ⟨j+1,N,by simp[Instr.findAsking,m,t,h,B,Nat.add_assoc,Nat.add_comm 1 j],gq,G⟩
  cases f with
  |nil=>simp_all[Instr.findKey,run_underlying,Instr.findNow]
  |cons e f=>
   have R:Instr.findNow (.struct fs) (Ya (d x)) (e::f) 0=none:=by
    rfl
   have Q:(Instr.findKey kt (Ya (d x)) (e::f)).run P w=(Instr.findAsking kt (Ya (d x)) (e::f) 0).run P w:=by
    simp_all[Instr.findKey,run_underlying]
   grind
def Jq{α:Type}[DecidableEq α](l:AA (α×β))(k:α):AB β:=(l.find? λp=>AG (p.1=k)).map (·.2)
def QK{α:Type}[DecidableEq α](l:AA (α×β))(k:α)(v:β):AA (α×β):=bif l.any λp=>AG (p.1=k)then l.map λp=>bif p.1=k then(p.1,v)else p else l++[(k,v)]
def Qn{α:Type}[DecidableEq α](l:AA (α×β))(k:α)(z:β):β:=(Jq l k).getD z
def JP{α:Type}[DecidableEq α](l:AA (α×β))(k:α):Bool:=l.any λp=>AG (p.1=k)
def Qo(ek:α->A)(ev:β->A)(l:AA (α×β)):AA (A×A):=l.map λp=>(ek p.1,ev p.2)
section
variable {α β:Type} [DecidableEq α] {ek:α->A} {ev:β->A} {ro:Nat->Prop} {σ:Ce} {w:AJ} (K:JI P kt ek)
include K
theorem lC:∀{l:AA (α×β)} {es:AA MapEntry},ER ro σ w (Qo ek ev l) es->es.map (·.key)=l.map λp=>Ya (ek p.1)
 |[],es,h=>by cases(show es=[]from h);rfl
 |p::l,es,h=>by
  obtain⟨e,l',rfl,h1,h2,h3⟩:=h;simp only[Vj];rw[VR.val (K.scl _) h1,lC h3]
theorem rR{l:AA (α×β)}{es:AA MapEntry}(h:ER ro σ w (Qo ek ev l) es):∀e∈es,∃y,e.key=Ya (ek y):=by
 intro e d;have:e.key∈es.map (·.key):=VE d;rw[lC K h]at this
 grind
theorem ER.find:∀{l:AA (α×β)} {es:AA MapEntry},ER ro σ w (Qo ek ev l) es->∀(x:α),(es.map (·.key)).Nodup->
  ((∀e,e∈es->e.key≠Ya (ek x))->Jq l x=AF/\JP l x=AD)/\
  (∀(j:Nat) (e:MapEntry),es[j]?=AC e->e.key=Ya (ek x)->JP l x=AE/\ ∃v,Jq l x=AC v/\VR ro σ w (ev v) e.val)
 |[],es,h,x,_=>by
  cases(show es=[]from h);exact⟨λ_=>⟨rfl,rfl⟩,sq⟩
 |p::l,es,h,x,hn=>by
  obtain⟨e0,l',rfl,h1,h2,h3⟩:=h;have hk:=VR.val (K.scl _) h1;simp[Vj,List.nodup_cons]at hn;obtain⟨a1,a2⟩:=ER.find h3 x hn.2;by_cases hp:p.1=x
  .grind[JP,Jq]
  .have e1:Jq (p::l) x=Jq l x:=by simp[Jq,hp]
   have g:JP (p::l) x=JP l x:=by simp[JP,hp]
   constructor
   .grind
   .intro j e d f;cases j with
    |zero=>
     simp[XD,Option.some.injEq]at d;subst d;exact absurd (K.inj _ _ (hk.symm.trans f)) hp
    |succ j=>grind
end
end
end
section
open Go.MapKept
section
variable {P:AK} {o:AM} {env:Env} {H:Qc}
theorem Yl{T:Nat}(f:o.op=.makeMap T none:=by rfl):E_ P o env H (.map H.length) (H++[.map []]):=by
 intro g d σ N a w r;refine⟨.map (AC w.heap.size),w.alloc (.map #[] 0),d,[AC w.heap.size],?_,⟨w.heap.size,?_,rfl⟩,r.sim.alloc ⟨#[],0,Yz _ _,rfl,sq,sq,sq⟩,Ql.alloc _ r.sim.roLt r.sim.frLt⟩
 .simp_all[execOp,Instr.makeMap]
 .rw[<- r.sim.len];simp
section
variable {T kt et:Nat} {α β:Type} [DecidableEq α] {ek:α->A} {ev:β->A} {x y:Operand} {i:Nat} {l:AA (α×β)} {k:α} {z0:β} {z:AL}
theorem m4(K:JI P kt ek){ro:Nat->Prop}{w:AJ}(t:P.underlying T=AC (.map kt et))(H:∀w,(zeroValue et).run P w=.ok z w)(m:ZR (ev z0) z){b d:Nat}{es:Array MapEntry}
  (x:w.heap[b]?=AC (.map es d))(he:ER ro [] w (Qo ek ev l) es.toList)(F:(es.toList.map (·.key)).Nodup):
  ∃v,(∀ck,(Instr.lookup T (.map (AC b)) (Ya (ek k)) ck).run P w=.ok (if ck then .tuple #[v,.bool (JP l k)]else v) w)/\VR ro [] w (ev (Qn l k z0)) v:=by
 obtain⟨B,y⟩:=ER.find K he k F;rcases K.find w k es.toList (rR K he)with⟨q,h⟩|⟨j,e,q,h,E⟩
 .obtain⟨g,f⟩:=B h;refine⟨z,λck=>?_,?_⟩
  .simp[Instr.lookup,Vm,run_underlying t,Result.andThen,MapKept.run_getObj_map x,Vn,K.check,q,H,f]
  .rw[Qn,g];exact m _ _ _
 .obtain⟨g,v,f,G⟩:=y j e h E;refine⟨e.val,λck=>?_,?_⟩
  .simp[Instr.lookup,Vm,run_underlying t,Result.andThen,MapKept.run_getObj_map x,Vn,K.check,q,g]
  .rw[Qn,f];exact G
theorem Yb{zv:β}(K:JI P kt ek)(B:AC (Qn l k z0)=AC zv)(E:P.underlying T=AC (.map kt et))(F:∀w,(zeroValue et).run P w=.ok z w)(d:ZR (ev z0) z)
  (O:o.op=.lookup T x y false:=by rfl)(hx:CP env x=.map i:=by rfl)(hH:H[i]?=AC (.map (Qo ek ev l)):=by rfl)(hy:CP env y=ek k:=by rfl):CS P o env H (ev zv):=by
 obtain rfl:=XY B;intro Y Q σ N a w r;have h:=Qp r x;rw[hx]at h;obtain⟨b,G,X⟩:=h;have g:=Qp r y;rw[hy]at g;have V:=VR.val (K.scl _) g;obtain⟨R,f,m,t,L,M,j⟩:=r.sim.blk i _ _ G hH;obtain⟨v,W,J⟩:=m4 K E F d m t j;refine⟨v,?_,J.mono ⟨λ_ q=>q,λ_ _=>rfl,λ_ _ q=>q,sq⟩⟩
 simp_all[execOp]
theorem nA{zv:β}(K:JI P kt ek)(B:AC (Qn l k z0)=AC zv)(E:P.underlying T=AC (.map kt et))(F:∀w,(zeroValue et).run P w=.ok z w)(d:ZR (ev z0) z)
  (O:o.op=.lookup T x y true:=by rfl)(hx:CP env x=.map i:=by rfl)(hH:H[i]?=AC (.map (Qo ek ev l)):=by rfl)(hy:CP env y=ek k:=by rfl):CS P o env H (.tup [ev zv,.bool (JP l k)]):=by
 obtain rfl:=XY B;intro Y Q σ N a w r;have h:=Qp r x;rw[hx]at h;obtain⟨b,G,X⟩:=h;have g:=Qp r y;rw[hy]at g;have V:=VR.val (K.scl _) g;obtain⟨R,f,m,t,L,M,j⟩:=r.sim.blk i _ _ G hH;obtain⟨v,W,J⟩:=m4 K E F d m t j;refine⟨.tuple #[v,.bool (JP l k)],?_,[v,.bool (JP l k)],rfl,v,_,rfl,J.mono ⟨λ_ q=>q,λ_ _=>rfl,λ_ _ q=>q,sq⟩,_,_,rfl,rfl,rfl⟩
 simp_all[execOp]
theorem Qm5{zv:β}(K:JI P kt ek)(B:AC (Qn l k z0)=AC zv)(E:P.underlying T=AC (.map kt et))(F:∀w,(zeroValue et).run P w=.ok z w)(d:ZR (ev z0) z)
  (O:o.op=.lookup T x y false:=by rfl)(hx:CP env x=.map i:=by rfl)(hH:H[i]?=AC (.fmap (Qo ek ev l)):=by rfl)(hy:CP env y=ek k:=by rfl):CS P o env H (ev zv):=by
 obtain rfl:=XY B;intro Y Q σ N a w r;have h:=Qp r x;rw[hx]at h;obtain⟨b,G,X⟩:=h;have g:=Qp r y;rw[hy]at g;have V:=VR.val (K.scl _) g;obtain⟨_,R,f,m,t,L,M,j⟩:=r.sim.blk i _ _ G hH;obtain⟨v,W,J⟩:=m4 K E F d m t j;refine⟨v,?_,J.mono ⟨λ_ q=>q,λ_ _=>rfl,λ_ _ q=>q,sq⟩⟩
 simp_all[execOp]
theorem ER.append{ro:Nat->Prop}{σ:Ce}{w:AJ}:∀{l m:AA (A×A)} {es fs:AA MapEntry},ER ro σ w l es->ER ro σ w m fs->ER ro σ w (l++m) (es++fs)
 |[],m,es,fs,h,k=>by cases(show es=[]from h);exact k
 |p::l,m,es,fs,h,k=>by
  obtain⟨e,l',rfl,h1,h2,h3⟩:=h;exact⟨e,l'++fs,rfl,h1,h2,ER.append h3 k⟩
theorem ER.put(K:JI P kt ek){ro:Nat->Prop}{w w':AJ}{v:β}{val:AL}(d:DR ro [] w ro [] w')(f:VR ro [] w (ev v) val):∀{l:AA (α×β)} {es:AA MapEntry} {j:Nat} {e:MapEntry},ER ro [] w (Qo ek ev l) es->
  (es.map (·.key)).Nodup->es[j]?=AC e->e.key=Ya (ek k)->
  ER ro [] w' (Qo ek ev (l.map λp=>bif p.1=k then(p.1,v)else p)) (es.modify j λe=>{e with key:=Ya (ek k),val:=val})
 |[],es,j,e,h,hn,he,hk=>by cases(show es=[]from h);simp at he
 |p::l,es,j,e,h,hn,he,hk=>by
  obtain⟨e0,l',rfl,h1,h2,h3⟩:=h;have hk0:=VR.val (K.scl _) h1;simp only[Vj,List.nodup_cons]at hn;cases j with
  |zero=>
   simp[XD,Option.some.injEq]at he;subst he;have hp:=K.inj _ _ (hk0.symm.trans hk);have e1:Qo ek ev ((p::l).map λp=>bif p.1=k then(p.1,v)else p)=(ek p.1,ev v)::Qo ek ev l:=by
    simp only[Qo,Vj,hp,decide_true,Vo,List.map_map,List.cons.injEq,true_and];apply List.map_congr_left;intro q g;have:q.1≠k:=by
     intro e;refine hn.1 ?_;rw[lC K h3];exact Xe.2 ⟨q,g,by rw[e, <- hp,hk0]⟩
    simp[this]
   rw[e1];refine⟨_,l',rfl,?_,f.mono d,h3.mono d⟩;rw[<- hp];exact mR (K.scl _)
  |succ j=>
   have hp:p.1≠k:=by
    intro q;refine hn.1 (Xe.2 ⟨e,VG he,?_⟩);rw[hk,hk0,q]
   have e1:Qo ek ev ((p::l).map λp=>bif p.1=k then(p.1,v)else p)=(ek p.1,ev p.2)::Qo ek ev (l.map λp=>bif p.1=k then(p.1,v)else p):=by
    simp[Qo,hp]
   rw[e1];exact⟨_,_,rfl,h1.mono d,h2.mono d,ER.put K d f h3 hn.2 he hk⟩
theorem Yh{m:AA (α×β)}(K:JI P kt ek){v:β}{B:Operand}(hm:AC (QK l k v)=AC m)(hd:YL (ev v)=AE)(hT:P.underlying T=AC (.map kt et))
  (ho:o.op=.mapUpdate T x y B:=by rfl)(hx:CP env x=.map i:=by rfl)(hH:H[i]?=AC (.map (Qo ek ev l)):=by rfl)(hy:CP env y=ek k:=by rfl)(hv:CP env B=ev v:=by rfl):
  I6 P o env H (H.set i (.map (Qo ek ev m))):=by
 obtain rfl:=XY hm;intro fr ro σ N a w r;have h1:=Qp r x;rw[hx]at h1;obtain⟨b,q1,q2⟩:=h1;have h2:=Qp r y;rw[hy]at h2;have h3:=VR.val (K.scl _) h2;have h4:=Qp r B;rw[hv]at h4;have M:VR ro [] w (ev v) (a.eval B):=VR.data hd h4;obtain⟨F,d,V,R,p3,p4,X⟩:=r.sim.blk i _ _ q1 hH;obtain⟨f1,f2⟩:=ER.find K R k X;have Q:∀(obj:Obj) y,w.shape? b=AC y->({w with heap:=w.heap.setIfInBounds b obj}:AJ).shape? b=AC y:=by
  grind[World.shape?]
 rcases K.find w k F.toList (rR K R)with⟨g1,O⟩|⟨j,e,g1,O,W⟩
 .obtain⟨u1,u2⟩:=f1 O;have hl:QK l k v=l++[(k,v)]:=by
   unfold QK;rw[show(l.any λp=>AG (p.1=k))=AD from u2];rfl
  have t:=r.sim.set (x':=.map (Qo ek ev (QK l k v))) (obj:=.map (F.push {key:=Ya (ek k),val:=a.eval B,born:=d}) (d+1)) q1 hH rfl (Q _)
   (λe he=>⟨_,_,he,by
    rw[hl,Qo,Xf,Array.toList_push];exact(R.mono ⟨e.sub,e.keep,e.shape,λ_ _ q=>q⟩).append ⟨_,_,rfl,mR (K.scl _),M.mono ⟨e.sub,e.keep,e.shape,λ_ _ q=>q⟩,rfl⟩,by
    grind,by
    grind,by
    grind⟩)
  refine⟨_,ro,[],?_,gq,t.2⟩;simp only[execOp,ho,q2,h3,Vm,Instr.mapUpdate,run_underlying hT,Result.andThen,MapKept.run_getObj_map V,K.check,g1,MapKept.run_setObj_map _ V];rfl
 .obtain⟨u1,u2⟩:=f2 j e O W;have hl:QK l k v=l.map λp=>bif p.1=k then(p.1,v)else p:=by
   unfold QK;rw[show(l.any λp=>AG (p.1=k))=AE from u1];rfl
  have hj:F[j]?=AC e:=gq;have g:(F.modify j λe=>{e with key:=Ya (ek k),val:=a.eval B}).toList=F.toList.modify j λe=>{e with key:=Ya (ek k),val:=a.eval B}:=sq;have E:∀{γ:Type} (f:MapEntry->γ),(∀L,F.toList[j]?=AC L->f {L with key:=Ya (ek k),val:=a.eval B}=f L)->(F.toList.modify j λe=>{e with key:=Ya (ek k),val:=a.eval B}).map f=F.toList.map f:=by
   intro γ f hf;apply List.ext_getElem?
   grind
  have t:=r.sim.set (x':=.map (Qo ek ev (QK l k v))) (obj:=.map (F.modify j λe=>{e with key:=Ya (ek k),val:=a.eval B}) d) q1 hH rfl (Q _)
   (λY he=>⟨_,_,he,by
    rw[hl,g];exact ER.put K ⟨Y.sub,Y.keep,Y.shape,λ_ _ q=>q⟩ M R X O W,by
    rw[g];intro L G;have:L.born∈(F.toList.modify j λe=>{e with key:=Ya (ek k),val:=a.eval B}).map (·.born):=VE G;rw[E (·.born) (λ_ _=>rfl)]at this;obtain⟨e2,h,h'⟩:=Xe.1 this;rw[<- h'];exact p3 e2 h,by
    rw[g,E (·.born) (λ_ _=>rfl)];exact p4,by
    rw[g,E (·.key) (λL G=>by rw[O]at G;cases G;exact W.symm)];exact X⟩)
  refine⟨_,ro,[],?_,by simpa using t.1,t.2⟩;have J:=K.stays w k;simp only[execOp,ho,q2,h3,Vm,Instr.mapUpdate,run_underlying hT,Result.andThen,MapKept.run_getObj_map V,K.check,g1,hj,Xj,Option.getD_some,W,J,MapKept.run_setObj_map _ V];rfl
theorem ER.length{ro:Nat->Prop}{σ:Ce}{w:AJ}:∀{l:AA (A×A)} {es:AA MapEntry},ER ro σ w l es->es.length=l.length
 |[],es,h=>by cases(show es=[]from h);rfl
 |p::l,es,h=>by
  obtain⟨e,l',rfl,_,_,h3⟩:=h;simp[ER.length h3]
theorem tH{c:Call}{n:Int}(E:P.underlying T=AC (.map kt et))(F:(l.length:Int)=n)(q:o.op=.call c:=by rfl)(hc:c={callee:=.builtin .len,args:= #[x],argTypes:= #[T]}:=by rfl)
  (hx:CP env x=.map i:=by rfl)(hH:H[i]?=AC (.map (Qo ek ev l)):=by rfl):CS P o env H (.int .i64 n):=by
 intro Q O σ N a w r;have g:=Qp r x;rw[hx]at g;obtain⟨b,B,j⟩:=g;obtain⟨h,f,m,y,J,M,L⟩:=r.sim.blk i _ _ B hH;have t:=y.length;refine⟨.int .i64 n,?_,rfl⟩;have d:goInt h.size=.int .i64 n:=by
  have:h.size=l.length:=by rw[<- Array.length_toList,t];simp[Qo]
  rw[this, <- F];rfl
 subst hc;have G:=j;generalize a.eval=ρ at*;rw[<- d];simp[execOp,q,j,resolve,invoke,Go.builtin,Builtin.len_,run_underlying E,MapKept.run_getObj_map m,go_sem]
end
end
end
section
open Go.ChangeMaps (setBlock)
section
variable {P:AK} {o:AM} {env:Env} {H:Qc} {h0 N:Nat} {Q:Qy}
def S8(P:AK)(o:AM)(env:Env)(H:Qc)(K:A->Qc->Prop):Prop:=
 ∀fr ro σ N a w,DN fr ro σ H env N a w->∃x H' v w' ro' τ,K x H'/\(execOp a.eval o).run P w=.ok (.value v) w'/\VR ro' (σ++τ) w' x v/\
  CZ fr ro' (σ++τ) H' w'/\Ql fr ro w ro' w'
theorem gw{all:Array AM}{l:AA AM}{d:Nat}{K:A->Qc->Prop}(F:h0<=H.length)(hg:Qz all o env AE)(t:o.dst=AC d)(O:Nat.blt d N=AE)
  (j:S8 P o env H K)(k:∀x H',K x H'->WO P h0 N all l (up env d x) H' Q):WO P h0 N all (o::l) env H Q:=by
 intro M fr E σ a w r hrd;obtain⟨x,H',v,m,f,τ,G,J,B,L,g⟩:=j fr E σ N a w r;refine JE (YV hg r) J ?_;simp[t];have h:d<N:=by simp_all
 have y:DN fr f (σ++τ) H' (up env d x) N {a with tmps:=a.tmps.setIfInBounds d v} m:=
  ⟨L,VR.up (fr:=fr) (λs=>(r.env s).mono (g.ext σ τ)) (by rw[r.size];exact h) B,by simpa using r.size,r.defers.keep g⟩
 refine YH (λe a w q=>q.step g (QT ?_)) _ _ _ (k x H' G M fr f (σ++τ) _ m y (hrd.to g λ_ q=>q));rw[r.sim.len];exact F
theorem CZ.shutMap{fr ro:Nat->Prop}{σ:Ce}{w:AJ}(s:CZ fr ro σ H w){i b:Nat}{es:AA (A×A)}(hσ:σ[i]?=AC (AC b))(hH:H[i]?=AC (.map es)):
  CZ fr (λc=>ro c\/c=b) σ (H.set i (.fmap es)) w:=by
 have hown:=s.own i b _ hσ hH rfl;have ext:DR ro σ w (λc=>ro c\/c=b) σ w:=⟨λ_ q=>.inl q,λ_ _=>rfl,λ_ _ q=>q,λ_ _ q=>q⟩;have f:∀(j:Nat) (v:CW),(H.set i (.fmap es))[j]?=AC v->v.live=AE->j≠i/\H[j]?=AC v:=by
  intro j v h P;by_cases e:j=i
  .subst e;rw[Xb]at h
   grind[CW.live]
  grind
 have E:∀(j:Nat) (v:CW),(H.set i (.fmap es))[j]?=AC v->v.holds=AE->H[j]?=AC v:=by
  intro j v h P;by_cases e:j=i
  .subst e;rw[Xb]at h;simp only[if_true]at h;split at h
   .cases h;cases P
   .simp at h
  grind
 refine⟨by rw[X3];exact s.len,s.roOk.to (λ_ q=>.inl q) (λ_ _=>rfl) ?_,s.frLt,?_,?_,?_,?_,s.hidTo (· = ·) Yq (XS _) (λj d x c R W T V=>V.elim id λq=>((s.hid j d x c R W T).ne i b _ hσ hH rfl q).elim) sq gq⟩
 .rintro c (q|rfl)
  .exact s.roLt c q
  omega
 .rintro c (q|rfl)
  .exact s.roFr c q
  grind
 .intro j c v m g B;obtain⟨e,g⟩:=f j v g B;obtain⟨J,G,F⟩:=s.own j c v m g B;refine⟨J,?_,F⟩;rintro(q|rfl)
  .exact G q
  .exact e (s.inj j i c v _ m hσ g hH B rfl)
 .intro j L c v M m g B Q N O;exact s.inj j L c v M m g (f j v B N).2 (f L M Q O).2 N O
 .intro j y v m g;by_cases e:j=i
  .subst e;rw[hσ]at m;cases m;rw[Xb]at g;simp only[if_true]at g;split at g
   .cases g;obtain⟨l,t,J,G,F⟩:=s.blk j _ _ hσ hH;exact⟨.inr rfl,l,t,J,G.mono ext.nil,F⟩
   .simp at g
  .rw[XO (λq=>e q.symm)]at g;exact(s.blk j y v m g).keep ext (λ_ _ _=>rfl) (λ_ _ _ _=>rfl)
section
variable {T kt et i:Nat} {x:Operand} {es:AA (A×A)}
theorem E_.range(M:P.underlying T=AC (.map kt et))(J:o.op=.range T x:=by rfl)(hx:CP env x=.map i:=by rfl)(hH:H[i]?=AC (.map es):=by rfl):
  E_ P o env H (.ptr H.length 0) (H.set i (.fmap es)++[.iter AF es]):=by
 intro E j σ N a w r;have B:=Qp r x;rw[hx]at B;obtain⟨b,m,Q⟩:=B;obtain⟨l,d,y,L,F,G,R⟩:=r.sim.blk i _ _ m hH;have O:=(r.sim.own i b _ m hH rfl).1;have t:=r.sim.shutMap m hH;have f:Ql E j w (λc=>j c\/c=b) w:=Yf (λ_ q=>.inl q);have g:Ql E (λc=>j c\/c=b) w (λc=>j c\/c=b) (w.alloc (.mapIter (AC b) d #[] d)):=Ql.alloc _ t.roLt t.frLt;have ext0:=(f.trans g).ext0 [];refine⟨.pointer (AC ⟨w.heap.size,0,AF⟩),w.alloc (.mapIter (AC b) d #[] d),_,[AC w.heap.size],?_,⟨w.heap.size,?_,rfl⟩,
  t.alloc (.inr ⟨b,l,d, #[],l.toList,Yz _ _,.inr rfl,by rw[YA _ _ _ O];exact y,F,G,?_,L.mono ext0,λ_ h=>by cases h⟩),f.trans g⟩
 .simp only[execOp,J,Q,Instr.range,Vm,run_underlying M,Result.andThen,MapKept.run_getObj_map y];rfl
 .rw[<- r.sim.len];simp
 .have:l.toList.filter (λe=> !#[].contains e.born)=l.toList:=by simp
  rw[this]
theorem tD(G:P.underlying T=AC (.map kt et))(B:o.op=.range T x:=by rfl)(hx:CP env x=.map i:=by rfl)(hH:H[i]?=AC (.fmap es):=by rfl):
  E_ P o env H (.ptr H.length 0) (H++[.iter AF es]):=by
 intro M m σ N a w r;have q:=Qp r x;rw[hx]at q;obtain⟨b,F,L⟩:=q;obtain⟨f,l,d,j,E,t,y,O⟩:=r.sim.blk i _ _ F hH;have J:=r.sim.roLt b f;have g:Ql M m w m (w.alloc (.mapIter (AC b) d #[] d)):=Ql.alloc _ r.sim.roLt r.sim.frLt;have ext0:=g.ext0 [];refine⟨.pointer (AC ⟨w.heap.size,0,AF⟩),w.alloc (.mapIter (AC b) d #[] d),_,[AC w.heap.size],?_,⟨w.heap.size,?_,rfl⟩,
  r.sim.alloc (.inr ⟨b,l,d, #[],l.toList,Yz _ _,f,by rw[YA _ _ _ J];exact j,t,y,?_,E.mono ext0,λ_ h=>by cases h⟩),g⟩
 .simp only[execOp,B,L,Instr.range,Vm,run_underlying G,Result.andThen,MapKept.run_getObj_map j];rfl
 .rw[<- r.sim.len];simp
 .have:l.toList.filter (λe=> !#[].contains e.born)=l.toList:=by simp
  rw[this]
theorem ER.mem{ro:Nat->Prop}{σ:Ce}{w:AJ}:∀{es:AA (A×A)} {l:AA MapEntry},ER ro σ w es l->∀e∈l,∃x es' l',(x::es').Perm es/\(e::l').Perm l/\VR ro σ w x.1 e.key/\VR ro σ w x.2 e.val/\ER ro σ w es' l'
 |[],l,h,e,he=>by cases(show l=[]from h);cases he
 |y::es,l,h,e,he=>by
  obtain⟨e0,l',rfl,h1,h2,h3⟩:=h;rcases X6.1 he with rfl|he
  .exact⟨y,es,l',.refl _,.refl _,h1,h2,h3⟩
  .obtain⟨x,es',l'',p1,p2,v1,v2,h4⟩:=ER.mem h3 e he;exact⟨x,y::es',e0::l'',(List.Perm.swap _ _ _).trans (p1.cons _),(List.Perm.swap _ _ _).trans (p2.cons _),v1,v2,⟨e0,l'',rfl,h1,h2,h4⟩⟩
theorem rE:∀{l:AA MapEntry},(l.map (·.born)).Nodup->∀a∈l,∀b∈l,a.born=b.born->a=b
 |[],_,a,ha,_,_,_=>by cases ha
 |c::l,hn,a,ha,b,hb,hab=>by
  simp[Vj,List.nodup_cons]at hn;rcases X6.1 ha with ea|ha'<;>rcases X6.1 hb with eb|hb'
  .rw[ea,eb]
  .grind
  .grind
  .exact rE hn.2 a ha' b hb' hab
def eV(H:Qc)(i:Nat)(cur:AB (A×A))(es:AA (A×A))(v:A)(H':Qc):Prop:=
 (es=[]/\v=.tup [.bool AD]/\H'=H)\/ ∃e es',(e::es').Perm es/\v=.tup [.bool AE,e.1,e.2]/\H'=H.set i (.iter (AC e) es')
theorem S8.next{V:AB (A×A)}(ho:o.op=.next x false:=by rfl)(hx:CP env x=.ptr i 0:=by rfl)(hH:H[i]?=AC (.iter V es):=by rfl):
  S8 P o env H (eV H i V es):=by
 intro fr G σ N a w r;have h1:=Qp r x;rw[hx]at h1;obtain⟨b,q1,q2⟩:=h1;have t:∀(v:AL) (g:AJ),g.heap=w.heap->g.os=w.os->g.tape=w.tape->g.output=w.output->w.drawn<=g.drawn->CZ fr G (σ++[]) H g/\Ql fr G w G g:=by
  intro v g Y e2 e3 e4 e5;exact⟨by simpa using r.sim.heap Y,Ql.heap Y e2 e3 e4 e5⟩
 rcases r.sim.blk i _ _ q1 hH with⟨rfl,rfl,p⟩|⟨m,l,f,d,left,p1,p2,p3,p4,p5,p6,p7,p8⟩
 .refine⟨_,_,.tuple #[.bool AD],w,G,[],.inl ⟨rfl,rfl,rfl⟩,?_,⟨_,rfl,_,_,rfl,rfl,rfl⟩,t (.bool AD) w rfl rfl rfl rfl (XS _)⟩;generalize a.eval=ρ at*;simp only[execOp,ho,q2,Instr.next,Vm,getObj,Sem.run,p,Result.andThen];rfl
 .have af:(leftOf l d).toList=l.toList.filter λe=> !d.contains e.born:=by simp[leftOf]
  have B:left.Perm (leftOf l d).toList:=gq;rcases run_next_at (P:=P) w o.type b m f f d l f p1 p3 p4 (XS _)with⟨g1,g2⟩|⟨e,g1,g,g2,g3⟩
  .have aa:left=[]:=by
    have:left.length=0:=by rw[B.length_eq];omega
    grind
   subst aa;have ae:es=[]:=by
    have:=p7.length
    grind
   refine⟨_,_,.tuple #[.bool AD],w,G,[],.inl ⟨ae,rfl,rfl⟩,?_,⟨_,rfl,_,_,rfl,rfl,rfl⟩,t (.bool AD) w rfl rfl rfl rfl (XS _)⟩
   simp_all[execOp]
  .have he:e∈left:=B.mem_iff.2 g1;have Q:e∈l.toList:=gq;obtain⟨y,R,X,k1,k2,v1,v2,k3⟩:=p7.mem e he;have E:g.heap=w.heap/\g.os=w.os/\g.tape=w.tape/\g.output=w.output/\w.drawn<=g.drawn:=by
    rcases g2 with rfl|rfl
    .simp
    .exact⟨rfl,rfl,rfl,rfl,Nat.le_succ _⟩
   obtain⟨s1,L⟩:=t (.bool AD) g E.1 E.2.1 E.2.2.1 E.2.2.2.1 E.2.2.2.2;rw[Vg]at s1;have ag:b≠m:=by
    grind
   have J:=s1.set (x':=.iter (AC y) R) (obj:=.mapIter (AC m) f (d.push e.born) f) q1 hH rfl
    (λz T=>by
     grind[World.shape?])
    (λF ab=>.inr ⟨m,l,f,d.push e.born,X,ab,F.sub _ p2,by
      grind,p4,p5,by
      have ad:(l.toList.filter λe=> !d.contains e.born).Nodup:=by
       have:l.toList.Nodup:=List.Pairwise.of_map _ (λa b h q=>h (congrArg _ q)) p5;exact this.filter _
      have hp:(e::X).Perm (l.toList.filter λe=> !d.contains e.born):=k2.trans p6;have O:(e::X).Nodup:=hp.nodup_iff.2 ad;have Y:(l.toList.filter λM=> !(d.push e.born).contains M.born)=(l.toList.filter λe=> !d.contains e.born).filter λM=> !decide (M.born=e.born):=by
       rw[List.filter_filter];apply List.filter_congr;intro z _;simp[Array.contains_push,Bool.and_comm]
      rw[Y];have h2:=hp.filter (λM=> !decide (M.born=e.born));have e2:(e::X).filter (λM=> !decide (M.born=e.born))=X:=by
       rw[List.filter_cons_of_neg sq,List.filter_eq_self];intro z T;have ac:z∈l.toList:=(Xd.1 (hp.mem_iff.1 (X5 _ T))).1;simp only[Bool.not_eq_true',decide_eq_false_iff_not];intro hb;have:z=e:=by
        exact rE p5 z ac e Q hb
       subst this;exact(List.nodup_cons.1 O).1 T
      rw[e2]at h2;exact h2,by
      have x1:DR G [] w G [] g:=L.ext0 [];exact(k3.mono x1).mono ⟨F.sub,F.keep,F.shape,λ_ _ q=>q⟩,by
      intro z T;cases T;have x1:DR G [] w G [] g:=L.ext0 [];exact⟨e,Q,sq,(v1.mono x1).mono ⟨F.sub,F.keep,F.shape,λ_ _ q=>q⟩,(v2.mono x1).mono ⟨F.sub,F.keep,F.shape,λ_ _ q=>q⟩⟩⟩)
   have W:=L.trans J.2;have xt:=W.ext0 [];refine⟨_,_,.tuple #[.bool AE,e.key,e.val],_,G,[],.inr ⟨y,R,k1,rfl,rfl⟩,?_,
    ⟨[.bool AE,e.key,e.val],rfl,_,_,rfl,rfl,_,_,rfl,(v1.mono xt).mono ⟨λ_ q=>q,λ_ _=>rfl,λ_ _ q=>q,λj c q=>by simp at q⟩,_,_,rfl,(v2.mono xt).mono ⟨λ_ q=>q,λ_ _=>rfl,λ_ _ q=>q,λj c q=>by simp at q⟩,rfl⟩,by simpa using J.1,W⟩
   generalize a.eval=ρ at*;simp only[execOp,ho,q2,Vm,g3,Result.andThen,setBlock];rfl
theorem CS.entry{e:A×A}(X:o.op=.entry x:=by rfl)(hx:CP env x=.ptr i 0:=by rfl)(hH:H[i]?=AC (.iter (AC e) es):=by rfl):CS P o env H (.tup [e.1,e.2]):=by
 intro V O σ N a w r;have j:=Qp r x;rw[hx]at j;obtain⟨b,y,q2⟩:=j;rcases r.sim.blk i _ _ y hH with⟨_,h,_⟩|⟨m,l,d,g,left,W,Q,L,M,t,R,T,E⟩
 .cases h
 .obtain⟨f,F,Y,B,G⟩:=E e rfl;refine⟨.tuple #[f.key,f.val],?_,[f.key,f.val],rfl,_,_,rfl,B.mono ⟨λ_ q=>q,λ_ _=>rfl,λ_ _ q=>q,sq⟩,_,_,rfl,G.mono ⟨λ_ q=>q,λ_ _=>rfl,λ_ _ q=>q,sq⟩,rfl⟩;have J:l.find? (·.born==f.born)=AC f:=by rw[<- Array.find?_toList];exact find_born f l.toList t F
  simp_all[execOp,Instr.entry,getObj,Sem.run]
end
end
end
section
def L1{S E B:Type}(stepE:S->E->AB (CF S B))(stepN:S->AB B):S->AA E->AB B
 |s,[]=>stepN s
 |s,e::p=>match stepE s e with
  |some (.k s')=>L1 stepE stepN s' p
  |some (.d b)=>AC b
  |none=>AF
def N0{E:Type}(x:E):AA E->AA (AA E)
 |[]=>[[x]]
 |y::l=>(x::y::l)::(N0 x l).map (y:: ·)
def LU{E:Type}:AA E->AA (AA E)
 |[]=>[[]]
 |x::l=>(LU l).flatMap (N0 x)
theorem t6{E:Type}(x:E):∀(a b:AA E),a++x::b∈N0 x (a++b)
 |[],[]=>by simp[N0]
 |[],y::b=>by simp[N0]
 |y::a,b=>by
  simp only[VJ,N0,X6,Xe];exact .inr ⟨a++x::b,t6 x a b,rfl⟩
theorem mn{E:Type}:∀(l p:AA E),p.Perm l->p∈LU l
 |[],p,h=>by rw[List.perm_nil.1 h];simp[LU]
 |x::l,p,h=>by
  have hx:x∈p:=h.mem_iff.2 sq;obtain⟨a,b,rfl⟩:=List.append_of_mem hx;have h2:=(List.perm_cons x).1 ((List.perm_middle.symm).trans h);simp[LU,List.mem_flatMap];exact⟨a++b,mn l _ h2,t6 x a b⟩
variable {E:Type}
def anyP{R:Type}[DecidableEq R](k:AA E->AB R)(l:AA E):AB R:=bif (LU l).all (λp=>AG (k p=k l))then k l else AF
theorem Qq7{R:Type}[DecidableEq R]{k:AA E->AB R}{l:AA E}{r:R}(h:anyP k l=AC r)(p:AA E)(d:p.Perm l):k p=AC r:=by
 unfold anyP at h;cases q:(LU l).all (λp=>AG (k p=k l))with
 |true=>
  simp_all[mn]
 |false=>grind
theorem ij{E:Type}:∀(l p:AA E),p∈LU l->p.Perm l
 |[],p,h=>by simp[LU]at h;rw[h]
 |x::l,p,h=>by
  simp[LU,List.mem_flatMap]at h;obtain⟨q,hq,hp⟩:=h;have ins:∀(q p:AA E),p∈N0 x q->p.Perm (x::q):=by
   intro q
   induction q with
   |nil=>intro p hp;simp[N0]at hp;rw[hp]
   |cons y q d=>
    intro p hp;simp[N0,X6,Xe]at hp;rcases hp with rfl|⟨z,f,rfl⟩
    .exact .refl _
    .exact((d z f).cons y).trans (List.Perm.swap _ _ _)
  exact(ins q p hp).trans ((ij l q hq).cons x)
theorem Qq8{E R:Type}[DecidableEq R]{k:AA E->AB R}{l:AA E}{r:R}(h:∀p,p.Perm l->k p=AC r):anyP k l=AC r:=by
 unfold anyP;have:(LU l).all (λp=>AG (k p=k l))=true:=Xs.2 λp d=>by
  simp_all[ij]
 rw[this];simp_all
variable {B:Type}
def Sm{S:Type}(stepE:S->E->AB (CF S B))(stepN:S->AB B)(G:B->Prop)(s:S)(l:AA E):Prop:=∀p,p.Perm l->∃b,L1 stepE stepN s p=AC b/\G b
variable {α:Type}
section
variable {P:AK} {o:AM} {env:Env} {H:Qc} {h0 N:Nat} {Q:Qy} {c:Code}
def iP(I:Env->Qc->Prop)(Q:Qy):Qy
 |.normal,env,H=>I env H
 |.exit id,env,H=>Q (.exit id) env H
 |.ret,env,H=>Q .ret env H
theorem Qpr{I:Nat->Env->Qc->Prop}(body:∀n env H,I n env H->TC P h0 N c env H (iP (λenv H=>∃n',n'<n/\I n' env H) Q)){n:Nat}(O:I n env H):TC P h0 N (.loop c) env H Q:=by
 intro T y G σ a w r hrd b k cs hro hb hr;have M:∀m n env H fr1 ro1 σ1 a1 w1,n<m->I n env H->DN fr1 ro1 σ1 H env N a1 w1->Ql y G w ro1 w1->σ1.take h0=σ.take h0->C_ y w a.defers fr1 a1.defers->
   ∃e h g,H9 h0 y G σ w N a.defers Q e h g/\ArrivesIn (Machine.fenced P (WF T)) P (lone (b.atR a1 (.code c::.inLoop c::k)) cs w1) b k cs e h g:=by
  intro m
  induction m with
  |zero=>omega
  |succ m ih=>
   intro n env H fr1 ro1 σ1 a1 w1 hn O r1 ev1 t1 g1;obtain⟨e,h,g,L,d⟩:=body n env H O T fr1 ro1 σ1 a1 w1 r1 (hrd.to ev1 g1.sub) b (.inLoop c::k) cs hro hb hr;obtain⟨x,f,H',B,σ',E,J,F,W,q4,X,q6⟩:=L;have t:=ev1.trans (q4.frMono g1.sub);have V:=g1.trans ev1.size q6;have Y:∀x,Q x f H'->Rq e x->H9 h0 y G σ w N a.defers Q e h g:=λx q q'=>⟨x,f,H',B,σ',E,q',q,W,t,X.trans t1,V⟩;cases e with
   |normal=>
    obtain rfl:x=.normal:=J;obtain⟨n',aa,F⟩:=F;obtain⟨e2,a2,w2,R,j⟩:=ih n' f H' E B σ' h g om F W t (X.trans t1) V;exact⟨e2,a2,w2,R,.of_steps (StepsIn.trans d (.one (fenced_calm hb hr rfl) stepR_inLoop)) j⟩
   |exit id=>
    obtain rfl:x=.exit id:=J;exact⟨_,h,g,Y _ F rfl,.pass rfl sq d⟩
   |ret=>
    obtain rfl:x=.ret:=J;exact⟨_,h,g,Y _ F rfl,.pass rfl sq d⟩
   |_=>exact J.elim
 obtain⟨e,h,g,L,d⟩:=M (n+1) n env H y G σ a w (Xn _) O r (Ql.refl _ _ _) rfl (C_.refl _ _ _);exact⟨e,h,g,L,.of_steps (.one (fenced_calm hb hr rfl) stepR_loop) d⟩
section
variable {S E B:Type} {stepE:S->E->AB (CF S B)} {stepN:S->AB B} {G:B->Prop} (Es:S->Env) (Hp:S->AA (A×A)->Qc) {enc:E->A×A}
def oH(stepE:S->E->AB (CF S B))(stepN:S->AB B)(G:B->Prop)(enc:E->A×A)(h0 n:Nat)(env:Env)(H:Qc):Prop:=
 ∃s l,l.length=n/\Sm stepE stepN G s l/\Le h0 env H (Es s) (Hp s (l.map enc))
theorem Qpq{s0:S}{l0:AA E}(h:Sm stepE stepN G s0 l0)(hI:Le h0 env H (Es s0) (Hp s0 (l0.map enc)))
  (body:∀s l,Sm stepE stepN G s l->TC P h0 N c (Es s) (Hp s (l.map enc)) (iP (λenv H=>∃n',n'<l.length/\oH Es Hp stepE stepN G enc h0 n' env H) Q)):TC P h0 N (.loop c) env H Q:=
 Qpr (I:=oH Es Hp stepE stepN G enc h0) (λn env H ⟨s,l,hn,ha,hle⟩=>by subst hn;exact TC.le hle (body s l ha)) ⟨s0,l0,rfl,h,hI⟩
theorem tV{β:Type}{f:α->β}:∀{m j:AA β},m.Perm j->∀{l:AA α},j=l.map f->∃l':AA α,l'.Perm l/\l'.map f=m:=by
 intro m j h
 induction h with
 |nil=>simp
 |cons x _ ih=>
  intro l d;cases l with
  |nil=>cases d
  |cons a l=>
   simp[Vj,List.cons.injEq]at d;obtain⟨l',g,q⟩:=ih d.2;exact⟨a::l',g.cons _,gq⟩
 |swap x y m=>
  intro l d
  match l,d with
  |a::b::l,d=>
   exact⟨b::a::l,List.Perm.swap _ _ _,gq⟩
 |trans _ _ ih1 ih2=>
  intro l d;obtain⟨F,g,q⟩:=ih2 d;obtain⟨t,E,B⟩:=ih1 q.symm;exact⟨t,E.trans g,B⟩
theorem Qpm{all:Array AM}{L:AA AM}{d i:Nat}{x:Operand}{q:AB (A×A)}{s:S}{l:AA E}(F:Sm stepE stepN G s l)
  (V:∀b,stepN s=AC b->G b->WO P h0 N all L (up env d (.tup [.bool AD])) H Q)
  (O:∀e l' D,stepE s e=AC D->(∀b,D=.d b->G b)->(l'.length<l.length/\ ∀s',D=.k s'->Sm stepE stepN G s' l')->
   WO P h0 N all L (up env d (.tup [.bool AE,(enc e).1,(enc e).2])) (H.set i (.iter (AC (enc e)) (l'.map enc))) Q)
  (R:o.op=.next x false:=by rfl)(hx:CP env x=.ptr i 0:=by rfl)(hH:H[i]?=AC (.iter q (l.map enc)):=by rfl)
  (hg:Qz all o env true:=by rfl)(hd:o.dst=AC d:=by rfl)(hN:Nat.blt d N=true:=by rfl)(hh:Nat.ble h0 H.length=true:=by rfl):WO P h0 N all (o::L) env H Q:=by
 refine gw (XQ hh) hg hd hN (S8.next R hx hH) ?_;rintro v H' (⟨y,rfl,rfl⟩|⟨e,W,y,rfl,rfl⟩)
 .have:=List.map_eq_nil_iff.1 y;subst this;obtain⟨b,m,j⟩:=F [] (.refl _);exact V b m j
 .obtain⟨T,m,j⟩:=tV y rfl;cases T with
  |nil=>cases j
  |cons a l'=>
   obtain⟨rfl,rfl⟩:=j;have h:l'.length<l.length:=by rw[<- m.length_eq];simp
   have f:∀p,p.Perm l'->∃b,L1 stepE stepN s (a::p)=AC b/\G b:=λp t=>F _ ((t.cons a).trans m);cases B:stepE s a with
   |none=>
    obtain⟨b,g,_⟩:=f l' (.refl _);simp[L1,B]at g
   |some D=>
    refine O a l' D B ?_ ⟨h,?_⟩
    .obtain⟨J,g,M⟩:=f l' (.refl _)
     grind[L1]
    .rintro s' rfl p t;obtain⟨J,g,M⟩:=f p t;simp[L1,B]at g;exact⟨J,g,M⟩
theorem _t{s:S}{l l':AA E}{D:CF S B}(e:AC (CF.k s)=AC D)(hc:l'.length<l.length/\ ∀s',D=.k s'->Sm stepE stepN G s' l')(h:Le h0 env H (Es s) (Hp s (l'.map enc))):
  iP (λenv H=>∃n',n'<l.length/\oH Es Hp stepE stepN G enc h0 n' env H) Q .normal env H:=
 ⟨_,hc.1,s,l',rfl,gq,h⟩
theorem _u{I:Env->Qc->Prop}{id:Nat}(h:Q (.exit id) env H):iP I Q (.exit id) env H:=h
end
def pA(h0:Nat)(G:B->Prop)(Eb:B->Env)(Hb:B->Qc)(Q:Qy):Qy
 |.normal,env,H=>∃b,G b/\Le h0 env H (Eb b) (Hb b)
 |.exit id,env,H=>Q (.exit id) env H
 |.ret,env,H=>Q .ret env H
theorem Z?{S E:Type}{stepE:S->E->AB (CF S B)}{stepN:S->AB B}{G:B->Prop}{s0:S}{l0:AA E}(hl:Sm stepE stepN G s0 l0)(Eb:B->Env)(Hb:B->Qc)
  (h:TC P h0 N c env H (pA h0 G Eb Hb Q))(k:∀b env H,G b->Le h0 env H (Eb b) (Hb b)->Q .normal env H):TC P h0 N c env H Q:=
 h.mono λx env' H' q=>by
  cases x with
  |normal=>obtain⟨b,e,q⟩:=q;grind
  |exit id=>exact q
  |ret=>exact q
theorem cT{B:Type}{G:B->Prop}{Eb:B->Env}{Hb:B->Qc}{b:B}(hG:G b)(h:Le h0 env H (Eb b) (Hb b)):pA h0 G Eb Hb Q .normal env H:=⟨b,hG,h⟩
theorem sk{i:Nat}{d:AB (A×A)}{es:AA (A×A)}{H':Qc}(hH:H[i]?=AC (.iter d es))(g:H.set i (.iter AF es)=H'):Le h0 env H env H':=by
 subst g;intro O E σ N a w r;refine⟨E,σ,⟨r.sim.weaken hH rfl ?_,r.env,r.size,r.defers⟩,λ_ q=>q,rfl⟩;intro y h;cases y with
 |none=>exact h
 |some b=>
  rcases h with⟨j,B,x⟩|⟨m,l,f,t,left,j,B,x,J,M,F,L,G⟩
  .exact .inl ⟨j,rfl,x⟩
  .exact .inr gq
end
def mk(n:Int)(z:α):AB (AA α):=bif AG (0<=n)&&AG (n<=4294967296)then AC (List.replicate n.toNat z)else AF
theorem ox{α:Type}{n:Int}{z:α}{l:AA α}(h:mk n z=AC l):0<=n/\n<=4294967296/\List.replicate n.toNat z=l:=by
 unfold mk at h;cases q:(AG (0<=n)&&AG (n<=4294967296))with
 |true=>rw[q]at h;simp at q;exact⟨q.1,q.2,XY h⟩
 |false=>rw[q]at h;cases h
theorem tW{α:Type}[Inhabited α](zl:AA α)(k:Nat)(hk:zl.length=k)(h0:0<k):∀n,(List.range (n*k)).map (λi=>zl.toArray[i%zl.toArray.size]!)=(List.replicate n zl).flatten
 |0=>sq
 |n+1=>by
  rw[Xm,List.range_add,Xf,tW zl k hk h0 n,List.replicate_succ',List.flatten_append];congr 1;simp only[Vl,List.flatten_nil,Vg,List.map_map];apply List.ext_getElem
  .simp[hk]
  .intro i h1 h2;simp only[X0,List.length_range]at h1;simp only[List.getElem_map,List.getElem_range,Function.comp,List.size_toArray,hk];rw[Nat.mul_comm,Nat.mul_add_mod,Nat.mod_eq_of_lt h1];simp[hk,h1]
section
variable {P:AK} {o:AM} {env:Env} {H:Qc} {ro:Nat->Prop} {σ:Ce} {w:AJ}
theorem LR.replicate{az:AA A}{l:AA AL}(h:LR ro σ w az l):∀n,LR ro σ w (List.replicate n az).flatten (List.replicate n l).flatten
 |0=>rfl
 |n+1=>by
  rw[Xl,Xl];exact h.append (LR.replicate h n)
theorem qu{α:Type}{e:α->AA A}{T et k:Nat}{x y:Operand}{Q V:IntKind}{n:Int}{zv:α}{l:AA α}{z:AL}{a:A}(hm:mk n zv=AC l)(E:ElemTy P T et k)(hz:∀w,(zeroValue et).run P w=.ok z w)(ab:ZR a z)
  (hk:Yn a=AE)(hc:Yj a=e zv)(hp:(Yj a).all Yu=AE)(t:Nat.beq (e zv).length k=AE)
  (ho:o.op=.makeSlice T x y:=by rfl)(hx:CP env x=.int Q n:=by rfl)(hy:CP env y=.int V n:=by rfl)
  {fr ro:Nat->Prop}{σ:Ce}{N:Nat}{act:Act}{w:AJ}(r:DN fr ro σ H env N act w):∃lv:AA AL,(execOp act.eval o).run P w=.ok (.value (.slice (AC ⟨w.heap.size,0,AF⟩) l.length l.length)) (w.alloc (.cells lv.toArray et))/\
   LR ro [] w (l.map e).flatten lv/\(∀v∈lv,QC v)/\allK k (l.map e)/\lv.length=l.length*k/\l.length<=4294967296:=by
 obtain⟨n0,n1,hl⟩:=ox hm;have Y:=Qp r x;rw[hx]at Y;have h2:=Qp r y;rw[hy]at h2;have ac:act.eval x=.int Q n:=Y;have aa:act.eval y=.int V n:=h2;obtain⟨i,hi,aj⟩:=E.bytes;obtain⟨f,c1,c2⟩:=(ab ro [] w).cells hk;have F:f.length=k:=by
  rw[c2.length,hc];exact XP t
 have ah:(if n.toNat*k=0 then(#[]:Array AL)else f.toArray)=f.toArray\/n.toNat*k=0:=by
  by_cases q:n.toNat*k=0
  .exact .inr q
  .exact .inl (Vr q)
 have d:∀(ZZ:Array AL),(ZZ=f.toArray\/n.toNat*k=0)->(Array.range (n.toNat*k)).map (λj=>ZZ[j%ZZ.size]!)=((List.replicate n.toNat f).flatten).toArray:=by
  intro ZZ hZ;by_cases q:n.toNat*k=0
  .rw[q];have:(List.replicate n.toNat f).flatten=[]:=by
    apply VI.1;simp[F,q]
   rw[this];simp
  .obtain rfl:ZZ=f.toArray:=hZ.resolve_right q;have X:0<k:=by
    rcases Nat.eq_zero_or_pos k with h|h
    .rw[h,Nat.mul_zero]at q;exact absurd rfl q
    .exact h
   rw[<- tW f k F X n.toNat];simp[XH, <- List.toArray_range]
 have M:=c2.replicate n.toNat;have af:allK k (List.replicate n.toNat (e zv)):=by
  have:∀m,allK k (List.replicate m (e zv)):=by
   intro m
   induction m with
   |zero=>trivial
   |succ m ih=>exact⟨XP t,ih⟩
  exact this _
 have g:∀v∈(List.replicate n.toNat f).flatten,QC v:=by
  intro v O;obtain⟨m,hm,O⟩:=List.mem_flatten.1 O;rw[List.eq_of_mem_replicate hm]at O;exact c2.plain hp v O
 rw[hc]at M;have B:l.map e=List.replicate n.toNat (e zv):=by rw[<- hl,List.map_replicate]
 have G:l.length=n.toNat:=by rw[<- hl];simp
 refine⟨(List.replicate n.toNat f).flatten,?_,by rw[B];exact M,g,by rw[B];exact af,by rw[G];simp[F],om⟩;rw[G]
 .have hw:IntKind.i64.wrap n=n:=by
   unfold IntKind.wrap;simp[IntKind.bits,IntKind.signed];omega
  have R:∀(x:Nat) (W:AJ),(askRoom x).run P W=.ok () W:=by
   intro x W;unfold askRoom;split<;>rfl
  have J:∀(c:Array AL) (W:AJ),(newRow et c).run P W=.ok ⟨W.heap.size,0,AF⟩ (W.alloc (.cells c et)):=λc W=>rfl;have ag:¬(n<0):=om;have ad:¬((i.bytes:Int)*n>2^48):=by
   have Y:(i.bytes:Int)*n<=4096*4294967296:=Int.mul_le_mul om n1 n0 om;omega
  have L:(Instr.makeSlice T (.int Q n) (.int V n)).run P w=.ok (.slice (AC ⟨w.heap.size,0,AF⟩) n.toNat n.toNat) (w.alloc (.cells ((List.replicate n.toNat f).flatten).toArray et)):=by
   have ai:¬(n>n):=om;have ae:∀(k:IntKind) (m:Int) (W:AJ),(asInt (.int k m)).run P W=.ok m W:=λk m W=>rfl;unfold Instr.makeSlice;simp only[Vm,E.sl,E.size,hi,Result.andThen,ae,Vn,hw,R,XG];rw[Vr (by simp[ag,ad];omega)];by_cases q:n.toNat*k=0
   .simp only[q,if_true,Vn];have:=d #[] (.inr q);rw[q]at this;simp only[this,J]
   .simp only[q,if_false,hz,Vn,c1,d f.toArray (.inl rfl),J]
  generalize act.eval=ρ at*;simp only[execOp,ho,ac,aa,Vm,L,Result.andThen];rfl
theorem lg{α:Type}{e:α->AA A}{T et k:Nat}{x y:Operand}{B G:IntKind}{n:Int}{zv:α}{l:AA α}{z:AL}{a:A}(J:mk n zv=AC l)(E:ElemTy P T et k)(O:∀w,(zeroValue et).run P w=.ok z w)(f:ZR a z)
  (L:Yn a=AE)(W:Yj a=e zv)(h:(Yj a).all Yu=AE)(d:Nat.beq (e zv).length k=AE)
  (j:o.op=.makeSlice T x y:=by rfl)(hx:CP env x=.int B n:=by rfl)(hy:CP env y=.int G n:=by rfl):
  E_ P o env H (.osl H.length 0 l.length k) (H++[.row et k (l.map e)]):=by
 intro Y q σ N act w r;obtain⟨R,Q,m,F,M,V,X⟩:=qu J E O f L W h d j hx hy r;have g:=r.sim.allocRow (t:=et) (rest:=[]) M m F;rw[Vg]at g;refine⟨_,_,q,[AC w.heap.size],Q,.inr ⟨w.heap.size,0,l.length,et,R.length,?_,rfl,λ_=>sq,⟨XS _,om⟩,?_,by rw[V,Xv];exact XS _⟩,g,Ql.alloc _ r.sim.roLt r.sim.frLt⟩
 .rw[<- r.sim.len];simp
 .unfold World.shape?;rw[Yz];simp
end
open Go.Sort Go.Proofs Go.Shelf
section
variable {α:Type}
def ins(lt:α->α->Bool)(x:α):AA α->AA α
 |[]=>[x]
 |y::l=>bif lt y x then y::ins lt x l else x::y::l
def Ki(lt:α->α->Bool):AA α->AA α
 |[]=>[]
 |x::l=>ins lt x (Ki lt l)
theorem lw(lt:α->α->Bool)(x:α):∀l,(ins lt x l).Perm (x::l)
 |[]=>.refl _
 |y::l=>by
  unfold ins;cases lt y x
  .exact .refl _
  .exact((lw lt x l).cons y).trans (List.Perm.swap _ _ _)
theorem Q4(lt:α->α->Bool):∀l,(Ki lt l).Perm l
 |[]=>.refl _
 |x::l=>(lw lt x _).trans ((Q4 lt l).cons x)
structure Ns (lt:α->α->Bool) (l:List α):Prop where
 irrefl:∀x∈l,lt x x=AD
 trans:∀x∈l,∀y∈l,∀z∈l,lt x y=AE->lt y z=AE->lt x z=AE
 ntrans:∀x∈l,∀y∈l,∀z∈l,lt x y=AD->lt y z=AD->lt x z=AD
theorem Ns.mono{lt:α->α->Bool}{l m:AA α}(h:Ns lt l)(hm:∀x∈m,x∈l):Ns lt m:=
 ⟨λx hx=>h.irrefl x (hm x hx),λx hx y hy z hz=>h.trans x (hm x hx) y (hm y hy) z (hm z hz),λx hx y hy z hz=>h.ntrans x (hm x hx) y (hm y hy) z (hm z hz)⟩
theorem Ns.asymm{lt:α->α->Bool}{l:AA α}(h:Ns lt l){x y:α}(f:x∈l)(g:y∈l)(d:lt x y=AE):lt y x=false:=by
 cases q:lt y x
 .rfl
 .rw[<- h.irrefl x f,h.trans x f y g x f d q]
theorem t7{lt:α->α->Bool}{x:α}:∀{l:AA α},Ns lt (x::l)->l.Pairwise (λa b=>lt b a=AD)->(ins lt x l).Pairwise (λa b=>lt b a=AD)
 |[],_,_=>by simp[ins]
 |y::l,h,hp=>by
  obtain⟨h1,h2⟩:=Xc.1 hp;unfold ins;cases q:lt y x
  .refine Xc.2 ⟨λz hz=>?_,hp⟩;rcases X6.1 hz with rfl|hz
   .exact q
   .exact h.ntrans z (by simp[hz]) y sq x sq (h1 z hz) q
  .refine Xc.2 ⟨λz hz=>?_,t7 (h.mono gq) h2⟩;rcases X6.1 ((lw lt x l).mem_iff.1 hz)with rfl|hz
   .exact h.asymm sq sq q
   grind
theorem Jk{lt:α->α->Bool}:∀{l:AA α},Ns lt l->(Ki lt l).Pairwise (λa b=>lt b a=AD)
 |[],_=>by simp[Ki]
 |x::l,h=>t7 (h.mono (by
   intro z hz;rcases X6.1 hz with rfl|hz
   .simp
   grind[Q4])) (Jk (h.mono gq))
theorem il{lt:α->α->Bool}:∀{l m:AA α},l.Perm m->(∀x∈l,∀y∈l,lt x y=AD->lt y x=AD->x=y)->l.Pairwise (λa b=>lt b a=AD)->m.Pairwise (λa b=>lt b a=AD)->l=m
 |[],m,h,_,_,_=>by simp_all
 |x::l,[],h,_,_,_=>by simp_all
 |x::l,y::m,h,ha,hl,hm=>by
  obtain⟨l1,l2⟩:=Xc.1 hl;obtain⟨m1,m2⟩:=Xc.1 hm;have hy:y∈x::l:=h.mem_iff.2 sq;have hxy:x=y:=by
   grind
  subst hxy;rw[il (by simp_all) gq l2 m2]
def HM(cf:α->α->AB Int)(x y:α):Bool:=match cf x y with
 |some c=>AG (c<0)
 |none=>AD
def dO[DecidableEq α](cf:α->α->AB Int)(l:AA α):Bool:=
 l.all λx=> !HM cf x x&&l.all λy=>(cf x y).isSome&&(HM cf x y||HM cf y x||AG (x=y))&&l.all λz=>(!HM cf x y|| !HM cf y z||HM cf x z)&&(HM cf x y||HM cf y z|| !HM cf x z)
def L8[DecidableEq α](cf:α->α->AB Int)(l:AA α):AB (AA α):=bif Nat.ble l.length YG&&dO cf l then AC (Ki (HM cf) l)else AF
theorem mW[DecidableEq α]{d:α->α->AB Int}{l l':AA α}(h:L8 d l=AC l'):
  l.length<=YG/\(∀x∈l,∀y∈l,∃c,d x y=AC c)/\Ns (HM d) l/\(∀x∈l,∀y∈l,HM d x y=AD->HM d y x=AD->x=y)/\Ki (HM d) l=l':=by
 unfold L8 at h;cases t:Nat.ble l.length YG with
 |false=>grind
 |true=>
 rw[t,Vy]at h;cases q:dO d l with
 |false=>grind
 |true=>
  rw[q]at h;refine⟨(by simp_all),?_⟩;unfold dO at q;simp[Xs,XV,Bool.not_eq_true',Bool.or_eq_true]at q;refine⟨λx f y g=>Option.isSome_iff_exists.1 ((q x f).2 y g).1.1,⟨λx f=>(q x f).1,λx f y g z B m j=>?_,λx f y g z B m j=>?_⟩,λx f y g m j=>?_,XY h⟩
  .grind
  .grind
  grind
theorem Qn3[DecidableEq α]{d:α->α->AB Int}{l:AA α}(f:l.length<=YG)(c:α->α->Int)(B:∀x∈l,∀y∈l,d x y=AC (c x y))(hi:∀x∈l,¬c x x<0)
  (t:∀x∈l,∀y∈l,∀z∈l,c x y<0->c y z<0->c x z<0)(m:∀x∈l,∀y∈l,∀z∈l,¬c x y<0->¬c y z<0->¬c x z<0)(j:∀x∈l,∀y∈l,¬c x y<0->¬c y x<0->x=y):
  L8 d l=AC (Ki (HM d) l):=by
 have g:∀x∈l,∀y∈l,HM d x y=AG (c x y<0):=λx E y h=>by unfold HM;grind
 have q:dO d l=true:=by
  unfold dO
  grind
 simp_all[L8,XR]
theorem eG[DecidableEq α]{d:α->α->AB Int}{l l':AA α}(h:L8 d l=AC l'):l.length=l'.length:=by
 rw[<- (mW h).2.2.2.2];exact(Q4 _ _).length_eq.symm
theorem Yp{l l':AA α}{i:Int}{x:α}(h:JN l i x=AC l'):l.length=l'.length:=by
 grind[JN]
theorem Q8{f:Nat}{env:Env}{H:Qc}{s:Nat}{a a':A}(h:lk env s=a)(e:a=a'):Le f env H (up env s a') H:=by
 intro j g σ N act w r;refine⟨g,σ,⟨r.sim,λd=>?_,r.size,r.defers⟩,λ_ q=>q,rfl⟩;subst e;have:lk (up env s a) d=lk env d:=by
  simp[lk];cases q:Nat.beq d s with
  |true=>simp_all
  |false=>rfl
 rw[this];exact r.env d
end
section
variable {fr ro:Nat->Prop} {σ:Ce} {H:Qc} {w w':AJ}
theorem uV(hh:∀b,b<w.heap.size->w'.heap[b]?=w.heap[b]?)(hro:∀b,ro b->b<w.heap.size)(σ:Ce):DR ro σ w ro σ w':=
 ⟨λ_ q=>q,gq,λb x hx=>by grind[World.shape?],λ_ _ q=>q⟩
theorem CZ.grown(s:CZ fr ro σ H w)(f:∀b,b<w.heap.size->w'.heap[b]?=w.heap[b]?)(F:w.heap.size<=w'.heap.size):CZ fr ro σ H w':=by
 refine⟨s.len,s.roOk.to (λ_ q=>q) (λb q=>f b (s.roLt b q)) (λb h=>Vf (s.roLt b h) F),λb h=>Vf (s.frLt b h) F,s.roFr,λi b x m g G=>?_,s.inj,λi y x m g=>?_,s.hidTo (· = ·) Yq F sq sq λj d y B t J=>.inl ⟨j,y,rfl,B,t,id,λc q=>s.hidKeep B t (λz=>f d (s.own j d y B t z).1) (λb q=>f b (s.roLt b q)) q⟩⟩
 .obtain⟨p,q⟩:=s.own i b x m g G
  grind
 .refine(s.blk i y x m g).keep (uV f s.roLt σ) ?_ ?_
  .rintro b rfl E;exact f b (s.own i b x m g E).1
  .rintro b c rfl E;exact f c (s.hid i b x c m g E).lt
theorem Ql.grown(hh:∀b,b<w.heap.size->w'.heap[b]?=w.heap[b]?)(hs:w.heap.size<=w'.heap.size)(s:CZ fr ro σ H w)(ho:w'.os=w.os)(ht:w'.tape=w.tape)(hu:w'.output=w.output)(hd:w.drawn<=w'.drawn):Ql fr ro w ro w':=
 ⟨λ_ q=>q,λb h=>hh b (s.roLt b h),λb h=>hh b (s.frLt b h),hs,(uV hh s.roLt σ).shape,ho,ht,hu,hd⟩
theorem QqB(t:∀b,b<w.heap.size->w'.heap[b]?=w.heap[b]?)(x:w.heap.size<=w'.heap.size)(f:w'.os=w.os)(j:w'.tape=w.tape)(h:w'.output=w.output)(m:w.drawn<=w'.drawn):
  ∃q os',w'=grow (w.drewN q) os':=by
 refine⟨w'.drawn-w.drawn,w'.heap.extract w.heap.size w'.heap.size,?_⟩;obtain⟨d,E,g,B,G⟩:=w';simp only at t x f j h m;subst f j h;unfold grow World.drewN;have y:d=w.heap++d.extract w.heap.size d.size:=by
  grind
 have F:g=w.drawn+(g-w.drawn):=om
 grind
end
abbrev A.p:=A.ptr
abbrev A.b:=A.bool
abbrev A.a:=A.agg
abbrev A.s:=A.osl
abbrev A.t:=A.tup
abbrev A.q:=A.rsl
abbrev A.i:=A.int
abbrev A.n:=A.nils
abbrev CW.c:=CW.cells
abbrev CW.r:=CW.row
abbrev CW.R:=CW.rowr
abbrev CW.e:=CW.ents
abbrev A.o(i n k:Nat):=A.osl i 0 n k
abbrev A.f(n:Nat):=A.fn (.func n) [] []
abbrev oO(b k:Nat)(l h:Int):List A:=[.ptr b k,.int .i64 l,.int .i64 h]
end
end Go.Sw
