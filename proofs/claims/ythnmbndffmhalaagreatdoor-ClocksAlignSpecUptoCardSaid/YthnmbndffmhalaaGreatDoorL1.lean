/- The rules by which the code is walked, with what they rest on (part 1). -/
import Derived.Calls
import Derived.Tactics
import Derived.Below
import Derived.TacticsIn
import Derived.OrdersIn
import Derived.RangeFuncLeaves
import Derived.RangeFuncRecord
import Derived.Laws.Strings
import Derived.Laws.World
import Derived.Orders
import Derived.Maps.Keyed
import Derived.Laws.StructEq
import Derived.Maps.RangeRun
import Derived.Shelf.SlSortCmp.NoneTotal
set_option linter.unusedVariables false
set_option linter.unusedSimpArgs false
set_option linter.unusedSectionVars false
namespace Go.Sw
open Option renaming some→AC,none→AF
open Bool renaming false→AD,true→AE
open Decidable renaming decide→AG
open Go renaming World→AJ,Program→AK,Value→AL,Oper→AM
abbrev AB:=@Option
abbrev AA:=@List
abbrev Xa:= @List.getElem?_set_self
abbrev Xb:= @List.getElem?_set
abbrev Xc:= @List.pairwise_cons
abbrev Xd:= @List.mem_filter
abbrev Xe:= @List.mem_map
abbrev Xf:= @List.map_append
abbrev Xg:= @Bool.not_true
abbrev Xh:= @Bool.not_false
abbrev Xi:= @Bool.false_eq_true
abbrev Xj:= @Option.map_some
abbrev Xk:= @Option.map_none
abbrev Xl:= @List.replicate_succ
abbrev Xm:= @Nat.succ_mul
abbrev Xn:= @Nat.not_lt_zero
abbrev Xo:= @Nat.lt_succ_self
abbrev Xp:= @List.getElem?_map
abbrev Xq:= @List.drop_eq_getElem_cons
abbrev Xr:= @List.drop_eq_nil_iff
abbrev Xs:= @List.drop_length
abbrev Xt:= @List.flatten_append
abbrev Xu:= @List.all_eq_true
abbrev Xv:= @List.any_eq_true
abbrev Xw:= @List.range_succ
abbrev Xx:= @Nat.zero_add
abbrev Xy:= @Nat.add_zero
abbrev Xz:= @List.length_take
abbrev XA:= @List.take_append_drop
abbrev XB:= @Nat.add_mul
abbrev XC:= @Nat.min_eq_left
abbrev XD:= @Nat.mul_le_mul_right
abbrev XE:= @List.foldl_cons
abbrev XF:= @List.getElem?_cons_zero
abbrev XG:= @List.getElem?_cons_succ
abbrev XH:= @List.getElem?_toArray
abbrev XI:= @Sem.run_ite
abbrev XJ:= @List.map_toArray
abbrev XK:= @Option.bind_some
abbrev XL:= @List.getElem?_eq_getElem
abbrev XM:= @List.getElem?_eq_some_iff
abbrev XN:= @List.getElem?_append_left
abbrev XO:= @List.getElem?_append_right
abbrev XP:= @List.getElem?_eq_none
abbrev XQ:= @List.getElem?_set_ne
abbrev XR:= @Nat.eq_of_beq_eq_true
abbrev XS:= @Nat.le_of_ble_eq_true
abbrev XT:= @Nat.ble_eq_true_of_le
abbrev XU:= @Nat.le_refl
abbrev XV:= @Nat.zero_le
abbrev XW:= @Nat.le_trans
abbrev XX:= @Bool.and_eq_true
abbrev XY:= @Bool.or_eq_false_iff
abbrev XZ:= @Bool.eq_iff_iff
abbrev X0:= @Option.some.inj
abbrev X2:= @List.length_cons
abbrev X3:= @List.length_map
abbrev X4:= @List.length_append
abbrev X5:= @List.length_set
abbrev X6:= @List.mem_cons_of_mem
abbrev X7:= @List.mem_cons
abbrev X8:= @List.take_append_of_le_length
abbrev X9:= @List.drop_append_of_le_length
abbrev Va:= @List.take_length
abbrev Vb:= @List.drop_length_add_append
abbrev Vc:= @List.take_length_add_append
abbrev Vd:= @Array.getElem?_eq_some_iff
abbrev Ve:= @List.getElem_mem
abbrev Vf:= @Array.getElem?_setIfInBounds
abbrev Vg:= @Nat.lt_of_lt_of_le
abbrev Vh:= @List.append_nil
abbrev Vi:= @List.nil_append
abbrev Vj:= @List.append_assoc
abbrev Vk:= @List.map_cons
abbrev Vl:= @List.map_nil
abbrev Vm:= @List.flatten_cons
abbrev Vn:= @Sem.run_bind
abbrev Vp:= @Sem.run_pure
abbrev Vq:= @cond_true
abbrev Vr:= @cond_false
abbrev Vs:= @decide_eq_true_eq
abbrev Vt:= @if_neg
abbrev Vu:= @if_pos
abbrev Vv:= @decide_eq_true
abbrev Vw:= @of_decide_eq_false
abbrev Vx:= @decide_eq_false
abbrev Vy:= @beq_iff_eq
abbrev Vz:= @beq_eq_false_iff_ne
abbrev VA:= @Bool.true_and
abbrev VB:= @List.mem_singleton
abbrev VC:= @Nat.lt_or_ge
abbrev VD:= @List.mem_append
abbrev VE:= @List.pairwise_iff_getElem
abbrev VF:= @Nat.beq_refl
abbrev VG:= @List.mem_map_of_mem
abbrev VH:= @List.mem_of_getElem?
abbrev VI:= @List.take_of_length_le
abbrev VJ:= @List.length_eq_zero_iff
abbrev VK:= @List.cons_append
abbrev VL:= @List.getD_eq_getElem?_getD
abbrev VM:= @Bool.eq_false_iff
abbrev VN:= @List.length_filter_le
def Tw:Nat:=11
def nG:Nat:=12
def L9:AA (AA Int):=[[1,9999],[-1099511627776,1099511627776],[0,1048576],[0,39],[0,255],[0,1099511627776],[0,255],[1,1048576],[0,1],[0,31],[1,1048576]]
theorem ub:((List.range nG).all λb=>Nat.beq b Tw|| !(L9.getD b []).isEmpty)=true:=by decide
theorem uc:Nat.ble L9.length nG=true:=by decide
theorem ug:Nat.blt Tw nG=true:=by decide
structure GP (w:AJ):Prop where
 max:∃m:Int,w.cell? ⟨Tw,0,AF⟩=AC (.int .i64 m)
 tab:∀(g:Nat) (zs:List Int),L9[g]?=AC zs->∀(i:Nat) (z:Int),zs[i]?=AC z->w.cell? ⟨g,i,AF⟩=AC (.int .i64 z)
variable {w w':AJ}
theorem GP.keep(h:∀b,b<nG->w'.heap[b]?=w.heap[b]?)(g:GP w):GP w':=by
 obtain⟨m,e⟩:=g.max;refine⟨⟨m,?_⟩,λd j a i z f=>?_⟩
 .rw[<- e];unfold World.cell?;rw[h Tw (by simpa using ug)]
 .rw[<- g.tab d j a i z f];unfold World.cell?;have l:=(XM.1 a).1;have k:L9.length<=nG:=by simpa using uc
  rw[h d (by omega)]
theorem se{b i:Nat}{v:AL}(h:w.cell? ⟨b,i,AF⟩=AC v):b<w.heap.size:=by
 cases e:w.heap[b]? with
 |none=>simp[World.cell?,e]at h
 |some o=>exact(Vd.1 e).1
theorem GP.size{w:AJ}(g:GP w)(b:Nat)(f:b<nG):b<w.heap.size:=by
 have h:=Xu.1 ub b (List.mem_range.2 f);rw[Bool.or_eq_true]at h;rcases h with h|h
 .obtain⟨m,d⟩:=g.max;rw[XR h];exact se d
 .cases e:L9[b]? with
  |none=>rw[VL,e]at h;simp at h
  |some a=>
   cases a with
   |nil=>rw[VL,e]at h;simp at h
   |cons z a=>exact se (g.tab b _ e 0 z rfl)
inductive A where
 |any
 |bool (b:Bool)
 |int (k:IntKind) (n:Int)
 |str (s:List UInt8)
 |nilp
 |ptr (i off:Nat)
 |rp (cs:List A)
 |nils
 |rsl (k:Nat) (es:List (List A))
 |osl (i o n k:Nat)
 |agg (cs:List A)
 |fn (f:Fn) (first cap:List A)
 |nilf
 |iface (t:Nat) (v:A)
 |nilif
 |map (i:Nat)
 |nilm
 |tup (vs:List A)
abbrev CD:=AA (AB Nat)
def QB:AL->Prop
 |.agg _|.tuple _=>False
 |_=>True
mutual
def VR(ro:Nat->Prop)(σ:CD)(w:AJ):A->AL->Prop
 |.any,_=>True
 |.bool b,v=>v=.bool b
 |.int k n,v=>v=.int k n
 |.str s,v=>v=.string ⟨s.toArray⟩
 |.nilp,v=>v=.pointer AF
 |.ptr i off,v=>∃b,σ[i]?=AC (AC b)/\v=.pointer (AC ⟨b,off,AF⟩)
 |.rp cs,v=>∃b off,v=.pointer (AC ⟨b,off,AF⟩)/\ro b/\CR ro [] w b cs off
 |.nils,v=>v=.slice AF 0 0
 |.rsl k es,v=>∃a cap,v=.slice a es.length cap/\es.length<=cap/\
   (es=[]\/ ∃b off,a=AC ⟨b,off,AF⟩/\ro b/\RR ro [] w b k es off)
 |.osl i o n k,v=>(n=0/\v=.slice AF 0 0)\/
   ∃b p cap t m,σ[i]?=AC (AC b)/\v=.slice (AC ⟨b,p,AF⟩) n cap/\(0<cap->p=o*k)/\(n<=cap/\cap<=9223372036854775807)/\w.shape? b=AC (t,m)/\(o+cap)*k<=m
 |.agg cs,v=>∃l:AA AL,v=.agg l.toArray/\LR ro σ w cs l
 |.fn f first cap,v=>∃l l':AA AL,v=.func f l.toArray l'.toArray/\LR ro σ w first l/\LR ro σ w cap l'
 |.nilf,v=>v=.nilFunc
 |.iface t a,v=>∃x,v=.iface t x/\VR ro σ w a x
 |.nilif,v=>v=.nilIface
 |.map i,v=>∃b,σ[i]?=AC (AC b)/\v=.map (AC b)
 |.nilm,v=>v=.map AF
 |.tup vs,v=>∃l:AA AL,v=.tuple l.toArray/\LR ro σ w vs l
def CR(ro:Nat->Prop)(σ:CD)(w:AJ)(b:Nat):AA A->Nat->Prop
 |[],_=>True
 |a::r,off=>(∃v,w.cell? ⟨b,off,AF⟩=AC v/\QB v/\VR ro σ w a v)/\CR ro σ w b r (off+1)
def RR(ro:Nat->Prop)(σ:CD)(w:AJ)(b k:Nat):AA (AA A)->Nat->Prop
 |[],_=>True
 |cs::r,off=>cs.length=k/\CR ro σ w b cs off/\RR ro σ w b k r (off+k)
def LR(ro:Nat->Prop)(σ:CD)(w:AJ):AA A->AA AL->Prop
 |[],l=>l=[]
 |a::r,l=>∃v l',l=v::l'/\VR ro σ w a v/\LR ro σ w r l'
end
structure Cx (ro:Nat->Prop) (σ:CD) (w:AJ) (ro':Nat->Prop) (σ':CD) (w':AJ):Prop where
 sub:∀b,ro b->ro' b
 keep:∀b,ro b->w'.heap[b]?=w.heap[b]?
 shape:∀b x,w.shape? b=AC x->w'.shape? b=AC x
 sig:∀(i b:Nat),σ[i]?=AC (AC b)->σ'[i]?=AC (AC b)
theorem sd{b a:Nat}(h:w'.heap[b]?=w.heap[b]?):w'.cell? ⟨b,a,AF⟩=w.cell? ⟨b,a,AF⟩:=by
 simp only[World.cell?,h]
variable {ro ro':Nat->Prop}{σ:CD}
theorem Cx.nil{σ':CD}(h:Cx ro σ w ro' σ' w'):Cx ro [] w ro' [] w':=
 ⟨h.sub,h.keep,h.shape,λ_ _ q=>q⟩
mutual
theorem VR.mono{ro ro':Nat->Prop}{w w':AJ}:∀{a:A} {σ σ':CD} {v:AL},Cx ro σ w ro' σ' w'->VR ro σ w a v->VR ro' σ' w' a v
 |.any,_,_,_,h,_=>trivial
 |.bool b,_,_,v,h,q=>q
 |.int k n,_,_,v,h,q=>q
 |.str s,_,_,v,h,q=>q
 |.nilp,_,_,v,h,q=>q
 |.ptr i off,_,_,v,h,q=>by
  simp only[VR]at q⊢;obtain⟨b,h1,h2⟩:=q;exact⟨b,h.sig _ _ h1,h2⟩
 |.rp cs,_,_,v,h,q=>by
  simp only[VR]at q⊢;obtain⟨b,off,h1,h2,h3⟩:=q;exact⟨b,off,h1,h.sub _ h2,CR.mono h.nil h2 h3⟩
 |.nils,_,_,v,h,q=>q
 |.rsl k es,_,_,v,h,q=>by
  simp only[VR]at q⊢;obtain⟨a,cap,h1,h2,h3⟩:=q;refine⟨a,cap,h1,h2,?_⟩;rcases h3 with h3|⟨b,off,h4,h5,h6⟩
  .exact .inl h3
  .exact .inr ⟨b,off,h4,h.sub _ h5,RR.mono h.nil h5 h6⟩
 |.osl i o n k,_,_,v,h,q=>by
  simp only[VR]at q⊢;rcases q with q|⟨b,p,cap,t,m,h1,h2,h6,h3,h4,h5⟩
  .exact .inl q
  .exact .inr ⟨b,p,cap,t,m,h.sig _ _ h1,h2,h6,h3,h.shape _ _ h4,h5⟩
 |.agg cs,_,_,v,h,q=>by
  simp only[VR]at q⊢;obtain⟨l,h1,h2⟩:=q;exact⟨l,h1,LR.mono h h2⟩
 |.fn f a c,_,_,v,h,q=>by
  simp only[VR]at q⊢;obtain⟨l,l',h1,h2,h3⟩:=q;exact⟨l,l',h1,LR.mono h h2,LR.mono h h3⟩
 |.nilf,_,_,v,h,q=>q
 |.iface t a,_,_,v,h,q=>by
  simp only[VR]at q⊢;obtain⟨x,h1,h2⟩:=q;exact⟨x,h1,VR.mono h h2⟩
 |.nilif,_,_,v,h,q=>q
 |.map i,_,_,v,h,q=>by
  simp only[VR]at q⊢;obtain⟨b,h1,h2⟩:=q;exact⟨b,h.sig _ _ h1,h2⟩
 |.nilm,_,_,v,h,q=>q
 |.tup vs,_,_,v,h,q=>by
  simp only[VR]at q⊢;obtain⟨l,h1,h2⟩:=q;exact⟨l,h1,LR.mono h h2⟩
theorem CR.mono{ro ro':Nat->Prop}{w w':AJ}:∀{cs:AA A} {σ σ':CD} {b off:Nat},Cx ro σ w ro' σ' w'->ro b->CR ro σ w b cs off->CR ro' σ' w' b cs off
 |[],_,_,_,_,_,_,_=>trivial
 |a::r,_,_,b,off,h,hb,q=>by
  simp only[CR]at q⊢;obtain⟨⟨v,h1,hp,h2⟩,h3⟩:=q;exact⟨⟨v,by rw[sd (h.keep _ hb)];exact h1,hp,VR.mono h h2⟩,CR.mono h hb h3⟩
theorem RR.mono{ro ro':Nat->Prop}{w w':AJ}:∀{es:AA (AA A)} {σ σ':CD} {b k off:Nat},Cx ro σ w ro' σ' w'->ro b->RR ro σ w b k es off->RR ro' σ' w' b k es off
 |[],_,_,_,_,_,_,_,_=>trivial
 |cs::r,_,_,b,k,off,h,hb,q=>by
  simp only[RR]at q⊢;obtain⟨h1,h2,h3⟩:=q;exact⟨h1,CR.mono h hb h2,RR.mono h hb h3⟩
theorem LR.mono{ro ro':Nat->Prop}{w w':AJ}:∀{az:AA A} {σ σ':CD} {l:AA AL},Cx ro σ w ro' σ' w'->LR ro σ w az l->LR ro' σ' w' az l
 |[],_,_,_,h,q=>q
 |a::r,_,_,l,h,q=>by
  simp only[LR]at q⊢;obtain⟨v,l',h1,h2,h3⟩:=q;exact⟨v,l',h1,VR.mono h h2,LR.mono h h3⟩
end
structure Ce where
 fl:Bool
 off:Nat
 lo:Int
 hi:Int
def KX(i n c:Nat):AA (AA A):=(List.range c).map λj=>[.osl i (j*n) n 1]
def eC(b1 b2:Nat)(e:Ce):AA A:=[.ptr (bif e.fl then b2 else b1) e.off,.int .i64 e.lo,.int .i64 e.hi]
inductive B8 where
 |dead
 |cells (t:Nat) (cs:List A)
 |row (t k:Nat) (es:List (List A))
 |rowr (t k:Nat) (es:List (List A))
 |map (es:List (A×A))
 |iter (cur:Option (A×A)) (es:List (A×A))
 |fmap (es:List (A×A))
 |ents (t b1 b2:Nat) (es:List Ce)
 |wins (t b n c:Nat)
 |mapO (fz:Bool) (t k:Nat) (es:List (A×Option (List (List A))))
 |mapP (es:List (A×A))
 |frow (t k:Nat) (es:List (List A))
def B8.live:B8->Bool
 |.dead=>AD
 |.fmap _=>AD
 |.frow _ _ _=>AD
 |.mapO fz _ _ _=> !fz
 |_=>AE
def B8.held:B8->Bool
 |.mapO fz _ _ _=>fz
 |_=>AD
def B8.holds(x:B8):Bool:=x.live||x.held
theorem KY{x:B8}(h:x.live=AE):x≠ .dead:=by rintro rfl;cases h
theorem eN{x:B8}(h:x.holds=AE):x≠ .dead:=by rintro rfl;cases h
theorem nV{x:B8}(h:x.live=AE):x.holds=true:=by unfold B8.holds;rw[h];rfl
abbrev Qc:=AA B8
def ER(ro:Nat->Prop)(σ:CD)(w:AJ):AA (A×A)->AA MapEntry->Prop
 |[],l=>l=[]
 |x::r,l=>∃e l',l=e::l'/\VR ro σ w x.1 e.key/\VR ro σ w x.2 e.val/\ER ro σ w r l'
def bH(ro:Nat->Prop)(w:AJ)(b:Nat)(cur:AB (A×A))(es:AA (A×A)):Prop:=
 (es=[]/\cur=AF/\w.heap[b]?=AC (.mapIter AF 0 #[] 0))\/
 ∃m l clock seen left,w.heap[b]?=AC (.mapIter (AC m) clock seen clock)/\ro m/\w.heap[m]?=AC (.map l clock)/\(∀e∈l.toList,e.born<clock)/\(l.toList.map (·.born)).Nodup/\
  (left:AA MapEntry).Perm (l.toList.filter λe=> !seen.contains e.born)/\ER ro [] w es left/\
  (∀x,cur=AC x->∃e∈l.toList,seen.back? =AC e.born/\VR ro [] w x.1 e.key/\VR ro [] w x.2 e.val)
def RL(ro:Nat->Prop)(σ:CD)(w:AJ)(k:Nat):AA (AA A)->AA AL->Prop
 |[],_=>True
 |c::es,l=>∃l1 l2,l=l1++l2/\c.length=k/\(LR ro σ w c l1/\ ∀v∈l1,QB v)/\RL ro σ w k es l2
theorem RL.mono{ro ro':Nat->Prop}{σ σ':CD}{w w':AJ}(h:Cx ro σ w ro' σ' w'){k:Nat}:∀{es:AA (AA A)} {l:AA AL},RL ro σ w k es l->RL ro' σ' w' k es l
 |[],_,_=>trivial
 |c::es,l,⟨l1,l2,h1,h2,h3,h4⟩=>⟨l1,l2,h1,h2,⟨h3.1.mono h,h3.2⟩,RL.mono h h4⟩
def SO(ro:Nat->Prop)(w:AJ)(t k:Nat)(rows:AA (AA A))(v:AL):Prop:=
 (rows=[]/\v=.slice AF 0 0)\/ ∃(c p cap:Nat) (vs:AA AL),v=.slice (AC ⟨c,p,AF⟩) rows.length cap/\(rows.length<=cap/\cap<=9223372036854775807)/\w.heap[c]?=AC (.cells vs.toArray t (0,0))/\cap*k<=vs.length/\RL ro [] w k rows vs/\(0<cap->p=0)
def MO(ro:Nat->Prop)(w:AJ)(t k:Nat):AA (A×AB (AA (AA A)))->AA MapEntry->Prop
 |[],l=>l=[]
 |x::r,l=>∃e l',l=e::l'/\VR ro [] w x.1 e.key/\(∀rows,x.2=AC rows->SO ro w t k rows e.val)/\MO ro w t k r l'
def KS:AA (A×AB (AA (AA A)))->AA MapEntry->Nat->Prop
 |x::r,e::l,c=>(x.2.isSome=AE/\ ∃p n cap,e.val=.slice (AC ⟨c,p,AF⟩) n cap)\/KS r l c
 |_,_,_=>False
def RX:AA (A×AB (AA (AA A)))->AA MapEntry->Prop
 |x::r,e::l=>(∀c,x.2.isSome=AE->(∃p n cap,e.val=.slice (AC ⟨c,p,AF⟩) n cap)->¬KS r l c)/\RX r l
 |_,_=>True
def De(w:AJ):B8->Nat->Nat->Prop
 |.mapO _ _ _ es,b,c=>∃l clock,w.heap[b]?=AC (.map l clock)/\KS es l.toList c
 |_,_,_=>False
theorem De.keep{x:B8}{b c:Nat}(h:w'.heap[b]?=w.heap[b]?)(q:De w' x b c):De w x b c:=by
 cases x with
 |mapO fz t k f=>obtain⟨l,a,e,d⟩:=q;exact⟨l,a,by grind,d⟩
 |_=>exact q.elim
theorem De.holds{w:AJ}{x:B8}{b c:Nat}(q:De w x b c):x.holds=true:=by
 cases x with
 |mapO fz t k a=>cases fz<;>rfl
 |_=>exact q.elim
theorem MO.mono{ro ro':Nat->Prop}{σ σ':CD}{w w':AJ}(h:Cx ro σ w ro' σ' w'){t k:Nat}:∀{es:AA (A×AB (AA (AA A)))} {l:AA MapEntry},(∀c,KS es l c->w'.heap[c]?=w.heap[c]?)->MO ro w t k es l->MO ro' w' t k es l
 |[],_,_,q=>q
 |x::r,_,hh,⟨e,l',h1,h2,h3,h4⟩=>by
  subst h1;refine⟨e,l',rfl,h2.mono h.nil,λrows hr=>?_,MO.mono h (λc hc=>hh c (.inr hc)) h4⟩;rcases h3 rows hr with q|⟨c,p,cap,vs,q1,q2,q3,q4,q5,q6⟩
  .exact .inl q
  .exact .inr ⟨c,p,cap,vs,q1,q2,by rw[hh c (.inl (by grind))];exact q3,q4,q5.mono h.nil,q6⟩
theorem MO.cells{ro:Nat->Prop}{w:AJ}{t k:Nat}:∀{es:AA (A×AB (AA (AA A)))} {l:AA MapEntry} {c:Nat},MO ro w t k es l->KS es l c->∃vs:Array AL,w.heap[c]?=AC (.cells vs t (0,0))
 |[],l,c,h,q=>by cases l<;>exact q.elim
 |x::r,_,c,⟨e,l',h1,h2,h3,h4⟩,q=>by
  subst h1;rcases q with⟨q1,p,n,cap,q2⟩|q
  .obtain⟨rows,hr⟩:=Option.isSome_iff_exists.1 q1;rcases h3 rows hr with⟨_,z⟩|⟨c',p',cap',vs,z1,z2,z3,z4,z5,z6⟩
   .grind
   grind
  .exact MO.cells h4 q
def Oo(l:Array MapEntry)(clock:Nat):Prop:=clock=l.size/\ ∀(i:Nat) (e:MapEntry),l.toList[i]?=AC e->e.born=i
theorem Oo.modify{l:Array MapEntry}{a j:Nat}{f:MapEntry->MapEntry}(h:Oo l a)(m:∀e,(f e).born=e.born):Oo (l.modify j f) a:=by
 obtain⟨d,k⟩:=h;refine⟨by simp[d],λi g q=>?_⟩
 grind
def BR(ro:Nat->Prop)(σ:CD)(w:AJ):B8->AB Nat->Prop
 |.dead,_=>True
 |.cells t cs,AC b=>∃l:AA AL,w.heap[b]?=AC (.cells l.toArray t (0,0))/\LR ro σ w cs l/\ ∀v∈l,QB v
 |.row t k es,AC b=>∃l:AA AL,w.heap[b]?=AC (.cells l.toArray t (0,0))/\RL ro [] w k es l
 |.rowr t k es,AC b=>∃l:AA AL,w.heap[b]?=AC (.cells l.toArray t (0,0))/\RL ro σ w k es l
 |.row _ _ es,AF=>es=[]
 |.ents t b1 b2 es,AC b=>∃l:AA AL,w.heap[b]?=AC (.cells l.toArray t (0,0))/\RL ro σ w 3 (es.map (eC b1 b2)) l
 |.ents _ _ _ es,AF=>es=[]
 |.wins t b n c,AC d=>∃l:AA AL,w.heap[d]?=AC (.cells l.toArray t (0,0))/\RL ro σ w 1 (KX b n c) l
 |.wins _ _ _ c,AF=>c=0
 |.map es,AC b=>∃l clock,w.heap[b]?=AC (.map l clock)/\ER ro [] w es l.toList/\
   (∀e∈l.toList,e.born<clock)/\(l.toList.map (·.born)).Nodup/\(l.toList.map (·.key)).Nodup
 |.mapP es,AC b=>∃l clock,w.heap[b]?=AC (.map l clock)/\ER ro σ w es l.toList/\
   (∀e∈l.toList,e.born<clock)/\(l.toList.map (·.born)).Nodup/\(l.toList.map (·.key)).Nodup
 |.frow t k es,AC b=>ro b/\ ∃l:AA AL,w.heap[b]?=AC (.cells l.toArray t (0,0))/\RL ro [] w k es l/\l.length=es.length*k
 |.iter cur es,AC b=>bH ro w b cur es
 |.mapO fz t k es,AC b=>(fz=AE->ro b)/\ ∃l clock,w.heap[b]?=AC (.map l clock)/\MO ro w t k es l.toList/\RX es l.toList/\
   (∀e∈l.toList,e.born<clock)/\(l.toList.map (·.born)).Nodup/\(l.toList.map (·.key)).Nodup/\Oo l clock
 |.fmap es,AC b=>ro b/\ ∃l clock,w.heap[b]?=AC (.map l clock)/\ER ro [] w es l.toList/\
   (∀e∈l.toList,e.born<clock)/\(l.toList.map (·.born)).Nodup/\(l.toList.map (·.key)).Nodup
 |_,AF=>False
structure Mn (ro:Nat->Prop) (w:AJ):Prop where
 lt:∀b,ro b->b<w.heap.size
 g:∀b,b<nG->ro b
 gp:GP w
theorem Mn.to(h:Mn ro w)(sub:∀b,ro b->ro' b)(keep:∀b,ro b->w'.heap[b]?=w.heap[b]?)(lt:∀b,ro' b->b<w'.heap.size):Mn ro' w':=
 ⟨lt,λb hb=>sub b (h.g b hb),h.gp.keep λb hb=>keep b (h.g b hb)⟩
structure ox (fr ro:Nat->Prop) (σ:CD) (H:Qc) (w:AJ) (i0 b0 c:Nat):Prop where
 lt:c<w.heap.size
 ro:¬ro c
 fr:¬fr c
 ne:∀(j b:Nat) (y:B8),σ[j]?=AC (AC b)->H[j]?=AC y->y.live=AE->c≠b
 one:∀(j b:Nat) (y:B8),σ[j]?=AC (AC b)->H[j]?=AC y->De w y b c->b=b0/\j=i0
structure B9 (fr ro:Nat->Prop) (σ:CD) (H:Qc) (w:AJ):Prop where
 len:σ.length=H.length
 roOk:Mn ro w
 frLt:∀b,fr b->b<w.heap.size
 roFr:∀b,ro b->¬fr b
 own:∀(i b:Nat) (blk:B8),σ[i]?=AC (AC b)->H[i]?=AC blk->blk.live=AE->b<w.heap.size/\ ¬ro b/\ ¬fr b
 inj:∀(i j b:Nat) (x y:B8),σ[i]?=AC (AC b)->σ[j]?=AC (AC b)->H[i]?=AC x->H[j]?=AC y->x.live=AE->y.live=AE->i=j
 blk:∀(i:Nat) (s:Option Nat) (x:B8),σ[i]?=AC s->H[i]?=AC x->BR ro σ w x s
 hid:∀(i b:Nat) (x:B8) (c:Nat),σ[i]?=AC (AC b)->H[i]?=AC x->De w x b c->ox fr ro σ H w i b c
variable {fr:Nat->Prop}
theorem B9.roHeld{H:Qc}(s:B9 fr ro σ H w){i b:Nat}{x:B8}(d:σ[i]?=AC (AC b))(e:H[i]?=AC x)(a:x.held=AE):ro b:=by
 have h:=s.blk i _ x d e;cases x with
 |mapO fz t k f=>exact h.1 a
 |_=>cases a
theorem B9.hidKeep{H:Qc}(s:B9 fr ro σ H w){i b c:Nat}{x:B8}(f:σ[i]?=AC (AC b))(e:H[i]?=AC x)
  (d:x.live=AE->w'.heap[b]?=w.heap[b]?)(g:∀b,ro b->w'.heap[b]?=w.heap[b]?)(q:De w' x b c):De w x b c:=by
 refine q.keep ?_;have h:=q.holds;cases a:x.live with
 |true=>exact d a
 |false=>unfold B8.holds at h;rw[a]at h;exact g b (s.roHeld f e h)
variable {H':Qc}
theorem B9.hidTo{m:Nat->Prop}{σ':CD}{H:Qc}(s:B9 fr ro σ H w)(R:Nat->Nat->Prop)(Y:∀j j' a,R j a->R j' a->j=j')(z:w.heap.size<=w'.heap.size)
  (Q:∀(i b:Nat) (x:B8) (c:Nat),σ[i]?=AC (AC b)->H[i]?=AC x->De w x b c->ro' c->ro c)
  (O:∀(i b:Nat) (x:B8) (c:Nat),σ[i]?=AC (AC b)->H[i]?=AC x->De w x b c->m c->fr c)
  (h:∀(j d:Nat) (y:B8),σ'[j]?=AC (AC d)->H'[j]?=AC y->y.holds=AE->
   (∃(a:Nat) (l:B8),R j a/\σ[a]?=AC (AC d)/\H[a]?=AC l/\(y.live=AE->l.live=AE)/\ ∀c,De w' y d c->De w l d c)\/(w.heap.size<=d/\ ∀c,De w' y d c->False)):
  ∀(i b:Nat) (x:B8) (c:Nat),σ'[i]?=AC (AC b)->H'[i]?=AC x->De w' x b c->ox m ro' σ' H' w' i b c:=by
 intro i b x c J G E;rcases h i b x J G E.holds with⟨a,l,T,N,P,V,L⟩|⟨_,g⟩
 .have k:=s.hid a b l c N P (L c E);refine⟨Vg k.lt z,λq=>k.ro (by grind),λq=>k.fr (by grind),λj d y p u n=>?_,λj d y p u n=>?_⟩
  .rcases h j d y p u (nV n)with⟨B,y1,_,r,t,F,_⟩|⟨f,_⟩
   .exact k.ne B d y1 r t (F n)
   .exact λe=>by have:=k.lt;omega
  .rcases h j d y p u n.holds with⟨B,y1,W,r,t,F,M⟩|⟨_,f⟩
   .obtain⟨X,e2⟩:=k.one B d y1 r t (M c n)
    grind
   grind
 grind
theorem Yl(j j' j0:Nat)(h:j=j0)(h':j'=j0):j=j':=h.trans h'.symm
theorem B9.roLt{H:Qc}(s:B9 fr ro σ H w):∀b,ro b->b<w.heap.size:=s.roOk.lt
structure Qm (fr ro:Nat->Prop) (w:AJ) (ro':Nat->Prop) (w':AJ):Prop where
 sub:∀b,ro b->ro' b
 keepRo:∀b,ro b->w'.heap[b]?=w.heap[b]?
 keepFr:∀b,fr b->w'.heap[b]?=w.heap[b]?
 size:w.heap.size<=w'.heap.size
 shape:∀b x,w.shape? b=AC x->w'.shape? b=AC x
 os:w'.os=w.os
 tape:w'.tape=w.tape
 output:w'.output=w.output
 drawn:w.drawn<=w'.drawn
theorem Qm.refl(fr ro:Nat->Prop)(w:AJ):Qm fr ro w ro w:=
 ⟨λ_ h=>h,λ_ _=>rfl,λ_ _=>rfl,XU _,λ_ _ h=>h,rfl,rfl,rfl,XU _⟩
theorem Qm.trans{fr ro ro1 ro2:Nat->Prop}{w w1 w2:AJ}(h:Qm fr ro w ro1 w1)(k:Qm fr ro1 w1 ro2 w2):Qm fr ro w ro2 w2:=
 ⟨λb q=>k.sub _ (h.sub _ q),λb q=>(k.keepRo _ (h.sub _ q)).trans (h.keepRo _ q),λb q=>(k.keepFr _ q).trans (h.keepFr _ q),
  XW h.size k.size,λb x q=>k.shape _ _ (h.shape _ _ q),k.os.trans h.os,k.tape.trans h.tape,k.output.trans h.output,XW h.drawn k.drawn⟩
variable {τ:CD}
theorem UV{i b:Nat}(h:σ[i]?=AC (AC b)):(σ++τ)[i]?=AC (AC b):=by
 grind
theorem Qm.ext(h:Qm fr ro w ro' w')(σ τ:CD):Cx ro σ w ro' (σ++τ) w':=
 ⟨h.sub,h.keepRo,h.shape,λ_ _=>UV⟩
theorem Qm.ext0(h:Qm fr ro w ro' w')(σ:CD):Cx ro σ w ro' σ w':=
 ⟨h.sub,h.keepRo,h.shape,λ_ _ q=>q⟩
theorem ER.mono{ro ro':Nat->Prop}{σ σ':CD}{w w':AJ}(h:Cx ro σ w ro' σ' w'):∀{es:AA (A×A)} {l:AA MapEntry},ER ro σ w es l->ER ro' σ' w' es l
 |[],_,q=>q
 |x::r,l,q=>by
  simp only[ER]at q⊢;obtain⟨e,l',h1,h2,h3,h4⟩:=q;exact⟨e,l',h1,h2.mono h,h3.mono h,ER.mono h h4⟩
theorem bH.keep{ro ro':Nat->Prop}{σ σ':CD}{w w':AJ}(h:Cx ro σ w ro' σ' w'){b:Nat}(E:w'.heap[b]?=w.heap[b]?){d:AB (A×A)}{es:AA (A×A)}
  (q:bH ro w b d es):bH ro' w' b d es:=by
 rcases q with⟨j,g,i⟩|⟨m,l,a,f,left,j,g,i,p,y,B,z,n⟩
 .exact .inl ⟨j,g,by grind⟩
 .refine .inr ⟨m,l,a,f,left,by grind,h.sub _ g,by rw[h.keep _ g];exact i,p,y,B,z.mono h.nil,λx t=>?_⟩;obtain⟨e,u,r,s,k⟩:=n x t;exact⟨e,u,r,s.mono h.nil,k.mono h.nil⟩
theorem CR.keep{ro ro':Nat->Prop}{σ σ':CD}{w w':AJ}(h:Cx ro σ w ro' σ' w'){b:Nat}(hb:w'.heap[b]?=w.heap[b]?):
  ∀{cs:AA A} {off:Nat},CR ro σ w b cs off->CR ro' σ' w' b cs off
 |[],_,_=>trivial
 |a::r,off,q=>by
  simp only[CR]at q⊢;obtain⟨⟨v,h1,hp,h2⟩,h3⟩:=q;exact⟨⟨v,by rw[sd hb];exact h1,hp,h2.mono h⟩,CR.keep h hb h3⟩
theorem RR.keep{ro ro':Nat->Prop}{σ σ':CD}{w w':AJ}(h:Cx ro σ w ro' σ' w'){b:Nat}(hb:w'.heap[b]?=w.heap[b]?){k:Nat}:
  ∀{es:AA (AA A)} {off:Nat},RR ro σ w b k es off->RR ro' σ' w' b k es off
 |[],_,_=>trivial
 |cs::r,off,q=>by
  simp only[RR]at q⊢;obtain⟨h1,h2,h3⟩:=q;exact⟨h1,CR.keep h hb h2,RR.keep h hb h3⟩
theorem BR.keep{ro ro':Nat->Prop}{σ σ':CD}{w w':AJ}(h:Cx ro σ w ro' σ' w'){x:B8}{s:AB Nat}
  (g:∀b,s=AC b->x.live=AE->w'.heap[b]?=w.heap[b]?)(q:BR ro σ w x s)(r:∀b c,s=AC b->De w x b c->w'.heap[c]?=w.heap[c]?):BR ro' σ' w' x s:=by
 cases x with
 |mapO fz t k j=>
  cases s with
  |none=>exact q
  |some b=>
   obtain⟨i,l,c,a,e,f⟩:=q;refine⟨λz=>h.sub b (i z),l,c,?_,e.mono h (λd p=>r b d rfl ⟨l,c,a,p⟩),f⟩;cases fz with
   |false=>rw[g b rfl rfl];exact a
   |true=>rw[h.keep b (i rfl)];exact a
 |dead=>trivial
 |cells t B=>
  cases s with
  |none=>exact q
  |some b=>
   obtain⟨l,a,e,f⟩:=q;exact⟨l,by rw[g b rfl rfl];exact a,e.mono h,f⟩
 |row t k j=>
  cases s with
  |none=>exact q
  |some b=>
   obtain⟨l,a,e⟩:=q;exact⟨l,by rw[g b rfl rfl];exact a,e.mono h.nil⟩
 |rowr t k j=>
  cases s with
  |none=>exact q.elim
  |some b=>
   obtain⟨l,a,e⟩:=q;exact⟨l,by rw[g b rfl rfl];exact a,e.mono h⟩
 |wins t b n c=>
  cases s with
  |none=>exact q
  |some d=>
   obtain⟨l,a,e⟩:=q;exact⟨l,by rw[g d rfl rfl];exact a,e.mono h⟩
 |ents t y u j=>
  cases s with
  |none=>exact q
  |some b=>
   obtain⟨l,a,e⟩:=q;exact⟨l,by rw[g b rfl rfl];exact a,e.mono h⟩
 |map j=>
  cases s with
  |none=>exact q
  |some b=>
   obtain⟨l,c,a,e,f⟩:=q;exact⟨l,c,by rw[g b rfl rfl];exact a,e.mono h.nil,f⟩
 |mapP j=>
  cases s with
  |none=>exact q
  |some b=>
   obtain⟨l,c,a,e,f⟩:=q;exact⟨l,c,by rw[g b rfl rfl];exact a,e.mono h,f⟩
 |frow t k j=>
  cases s with
  |none=>exact q
  |some b=>
   obtain⟨i,l,a,e,f⟩:=q;exact⟨h.sub b i,l,by rw[h.keep b i];exact a,e.mono h.nil,f⟩
 |iter m j=>
  cases s with
  |none=>exact q
  |some b=>exact bH.keep h (g b rfl rfl) q
 |fmap j=>
  cases s with
  |none=>exact q
  |some b=>
   obtain⟨i,l,c,a,e,f⟩:=q;exact⟨h.sub b i,l,c,by rw[h.keep b i];exact a,e.mono h.nil,f⟩
abbrev Env:=AA (Nat×A)
def lk:Env->Nat->A
 |[],_=>.any
 |(d,a)::r,s=>bif Nat.beq s d then a else lk r s
abbrev up(env:Env)(d:Nat)(a:A):Env:=(d,a)::env
inductive U4 where
 |normal|exit (id:Nat)|ret
abbrev QP:=U4->Env->Qc->Prop
def Kw(fr:Nat->Prop)(ds:AA Deferred)(w:AJ):Prop:=ds.Nodup/\ ∀d∈ds,∃D,d={target:=.collected D,args:= #[]}/\fr D/\w.heap[D]?=AC (.deferred (AC []))
theorem Kw.keep{e:AA Deferred}(h:Kw fr e w)(k:Qm fr ro w ro' w'):Kw fr e w':=by
 refine⟨h.1,λd i=>?_⟩;obtain⟨D,f,a,g⟩:=h.2 d i;exact⟨D,f,a,(k.keepFr D a).trans g⟩
structure Cw (fr:Nat->Prop) (w:AJ) (ds:List Deferred) (fr':Nat->Prop) (ds':List Deferred):Prop where
 sub:∀b,fr b->fr' b
 new:∀b,fr' b->fr b\/w.heap.size<=b
 ds:∀d∈ds',d∈ds\/ ∃D,d={target:=.collected D,args:= #[]}/\w.heap.size<=D
theorem Cw.refl(fr:Nat->Prop)(w:AJ)(ds:AA Deferred):Cw fr w ds fr ds:=⟨λ_ h=>h,λ_ h=>.inl h,λ_ h=>.inl h⟩
variable {ds:AA Deferred}{w1:AJ}
theorem Cw.trans{a f:Nat->Prop}{e g:AA Deferred}(h:Cw fr w ds a e)(i:w.heap.size<=w1.heap.size)(k:Cw a w1 e f g):Cw fr w ds f g:=by
 refine⟨λb q=>k.sub b (h.sub b q),λb q=>?_,λd q=>?_⟩
 .rcases k.new b q with q|q
  .exact h.new b q
  omega
 .rcases k.ds d q with q|⟨D,j,l⟩
  .exact h.ds d q
  grind
variable {fr':Nat->Prop}
theorem Qm.frMono(h:Qm fr' ro w ro' w')(s:∀b,fr b->fr' b):Qm fr ro w ro' w':=
 ⟨h.sub,h.keepRo,λb q=>h.keepFr b (s b q),h.size,h.shape,h.os,h.tape,h.output,h.drawn⟩
theorem B9.frMono{H:Qc}(h:B9 fr' ro σ H w)(s:∀b,fr b->fr' b):B9 fr ro σ H w:=
 ⟨h.len,h.roOk,λb q=>h.frLt b (s b q),λb q r=>h.roFr b q (s b r),λi b x q1 q2 q3=>let⟨a,b',c⟩:=h.own i b x q1 q2 q3;(by grind),h.inj,h.blk,λi b x c q1 q2 q3=>let k:=h.hid i b x c q1 q2 q3;⟨k.lt,k.ro,λq=>k.fr (s c q),k.ne,k.one⟩⟩
structure C0 (fr ro:Nat->Prop) (σ:CD) (H:Qc) (env:Env) (N:Nat) (a:Act) (w:AJ):Prop where
 sim:B9 fr ro σ H w
 env:∀s,VR ro σ w (lk env s) (a.tmps.getD s undef)
 size:a.tmps.size=N
 defers:Kw fr a.defers w
def Iu(rd:AB Nat)(fr:Nat->Prop)(w:AJ):Prop:=∀l,rd=AC l->fr l/\ ∃r,w.heap[l]?=AC (.loop r)
theorem mv:Iu AF fr w:=λl e=>by cases e
variable {rd:AB Nat}
theorem Iu.to(h:Iu rd fr w)(k:Qm fr ro w ro' w')(s:∀b,fr b->fr' b):Iu rd fr' w':=λl e=>by
 obtain⟨h1,r,h2⟩:=h l e;exact⟨s l h1,r,(k.keepFr l h1).trans h2⟩
def Tc:Exit->U4->Prop
 |.normal,x=>x=.normal
 |.exit id,x=>x=.exit id
 |.ret,x=>x=.ret
 |_,_=>False
def Hf(h0:Nat)(fr ro:Nat->Prop)(σ:CD)(w:AJ)(N:Nat)(ds:AA Deferred)(Q:QP):Exit->Act->AJ->Prop:=
 λe a' w'=>∃x env' H' ro' σ' fr',Tc e x/\Q x env' H'/\C0 fr' ro' σ' H' env' N a' w'/\Qm fr ro w ro' w'/\σ'.take h0=σ.take h0/\Cw fr w ds fr' a'.defers
variable {N:Nat}{a':Act}{σ1:CD}
theorem Hf.grow{i:Nat}{a g:Nat->Prop}{l f:AA Deferred}{Q:QP}{e:Exit}
  (h:Hf i a g σ1 w1 N f Q e a' w')(he:Qm fr ro w g w1)(m:σ1.take i=σ.take i)(hg:Cw fr w l a f):Hf i fr ro σ w N l Q e a' w':=by
 obtain⟨x,d,H',j,σ',k,s,r,p,n,q,t⟩:=h;exact⟨x,d,H',j,σ',k,s,r,p,he.trans (n.frMono hg.sub),q.trans m,hg.trans he.size t⟩
variable {h0:Nat}
theorem Hf.step{ro1:Nat->Prop}{Q:QP}{e:Exit}
  (h:Hf h0 fr ro1 σ1 w1 N ds Q e a' w')(he:Qm fr ro w ro1 w1)(hs:σ1.take h0=σ.take h0):Hf h0 fr ro σ w N ds Q e a' w':=h.grow he hs (Cw.refl _ _ _)
variable {g:Nat}
theorem Hf.mono{i:AA Deferred}{Q Q':QP}{e:Exit}
  (h:Hf g fr ro σ w N i Q e a' w')(k:∀x env H,Q x env H->Q' x env H):Hf g fr ro σ w N i Q' e a' w':=by
 obtain⟨x,a,H',d,σ',f,m,l,j⟩:=h;exact⟨x,a,H',d,σ',f,m,k _ _ _ l,j⟩
def He(h0:Nat)(fr ro:Nat->Prop)(σ:CD)(w:AJ)(N:Nat)(ds:AA Deferred)(Q:QP):Exit->Act->AJ->Prop:=
 λe a' w'=>∃x env' H' ro' σ' fr',Tc e x/\Q x env' H'/\C0 fr' ro' σ' H' env' N a' w'/\Qm fr ro w ro' w'/\σ'.take h0=σ.take h0/\a'.defers=ds/\Cw fr w ds fr' ds
theorem He.grow{a f:Nat->Prop}{i:AA Deferred}{Q:QP}{e:Exit}
  (h:He g a f σ1 w1 N i Q e a' w')(he:Qm fr ro w f w1)(l:σ1.take g=σ.take g)(hg:Cw fr w i a i):He g fr ro σ w N i Q e a' w':=by
 obtain⟨x,d,H',j,σ',k,s,q,n,m,p,t,r⟩:=h;exact⟨x,d,H',j,σ',k,s,q,n,he.trans (m.frMono hg.sub),p.trans l,t,hg.trans he.size r⟩
theorem He.step{ro1:Nat->Prop}{Q:QP}{e:Exit}
  (h:He h0 fr ro1 σ1 w1 N ds Q e a' w')(he:Qm fr ro w ro1 w1)(hs:σ1.take h0=σ.take h0):He h0 fr ro σ w N ds Q e a' w':=h.grow he hs (Cw.refl _ _ _)
theorem He.mono{i:AA Deferred}{Q Q':QP}{e:Exit}
  (h:He g fr ro σ w N i Q e a' w')(k:∀x env H,Q x env H->Q' x env H):He g fr ro σ w N i Q' e a' w':=by
 obtain⟨x,a,H',d,σ',f,m,l,j⟩:=h;exact⟨x,a,H',d,σ',f,m,k _ _ _ l,j⟩
theorem He.postW{i:AA Deferred}{Q:QP}{e:Exit}
  (h:He g fr ro σ w N i Q e a' w'):Hf g fr ro σ w N i Q e a' w':=by
 obtain⟨x,a,H',d,σ',f,n,m,k,j,l,q,p⟩:=h;exact⟨x,a,H',d,σ',f,n,m,k,j,l,by grind⟩
def WF(rd:AB Nat):Fence:={Fence.wide with round:=rd}
variable {P:AK}{f:FuncId}
theorem WF.calls{args:Array AL}{R:Ending->AJ->Prop}:CallsIn (WF rd) 0 P f args w R↔Calls P f args w R:=callsIn_wide
abbrev D_(P:AK)(rd:AB Nat)(ops:Array AM)(Q:Exit->Act->AJ->Prop):AA AM->Act->AJ->Prop:=wpListIn (WF rd) 0 P ops Q
def TC(P:AK)(h0 N:Nat)(c:Code)(env:Env)(H:Qc)(Q:QP):Prop:=
 ∀rd fr ro σ a w,C0 fr ro σ H env N a w->Iu rd fr w->c.wpIn (WF rd) 0 P (Hf h0 fr ro σ w N a.defers Q) a w
def WO(P:AK)(h0 N:Nat)(all:Array AM)(l:AA AM)(env:Env)(H:Qc)(Q:QP):Prop:=
 ∀rd fr ro σ a w,C0 fr ro σ H env N a w->Iu rd fr w->D_ P rd all (He h0 fr ro σ w N a.defers Q) l a w
def Le(h0:Nat)(env:Env)(H:Qc)(env':Env)(H':Qc):Prop:=
 ∀fr ro σ N a w,C0 fr ro σ H env N a w->∃ro' σ',C0 fr ro' σ' H' env' N a w/\(∀b,ro b->ro' b)/\σ'.take h0=σ.take h0
theorem Le.refl(h0:Nat)(env:Env)(H:Qc):Le h0 env H env H:=λfr ro σ N a w h=>(by grind)
theorem Le.trans{d:Nat}{g i j:Env}{H1 H2 H3:Qc}(h:Le d g H1 i H2)(k:Le d i H2 j H3):Le d g H1 j H3:=by
 intro f l σ N a w r;obtain⟨e,σ1,n,t,p⟩:=h f l σ N a w r;obtain⟨m,σ2,q,s,u⟩:=k f e σ1 N a w n
 grind
theorem YR(h:∀b,ro b->ro' b):Qm fr ro w ro' w:=
 ⟨h,λ_ _=>rfl,λ_ _=>rfl,XU _,λ_ _ h=>h,rfl,rfl,rfl,XU _⟩
theorem YE{P:AK}{rd:AB Nat}{ops:Array AM}{Q Q':Exit->Act->AJ->Prop}(hq:∀e a w,Q e a w->Q' e a w):
  ∀(l:AA AM) (a:Act) (w:AJ),D_ P rd ops Q l a w->D_ P rd ops Q' l a w
 |[],a,w,h=>hq _ _ _ h
 |o::l,a,w,h=>by
  unfold D_ wpListIn at h⊢;split
  .rename_i hw;rw[Vu hw]at h;obtain⟨h1,h2⟩:=h;refine⟨h1,?_⟩
   revert h2
   generalize(o.semAt (WF rd).round a.eval).run P w=r;intro h2;have hk:=λa w=>YE (P:=P) (rd:=rd) (ops:=ops) hq l a w;cases r with
   |ok x w=>
    cases x with
    |value v=>exact hk _ _ h2
    |skip=>exact hk _ _ h2
    |defer d=>exact hk _ _ h2
    |enter f args=>
     refine⟨h2.1,CallsIn.mono h2.2 ?_⟩;intro e w' q;cases e with
     |returned v=>grind
     |panicked c=>grind
     |outgrown=>obtain⟨a,w,q⟩:=q;exact⟨a,w,hq _ _ _ q⟩
    |row r args=>exact⟨h2.1,RowsIn.mono h2.2 λv w' q=>hk _ _ q⟩
    |round l f tmps assign body=>
     refine⟨h2.1,RoundIn.mono h2.2 ?_⟩;intro e w' q;cases e with
     |returned v=>grind
     |panicked c=>grind
     |outgrown=>obtain⟨a,w,q⟩:=q;exact⟨a,w,hq _ _ _ q⟩
    |_=>exact h2
   |halt x w=>
    cases x with
    |panic v=>exact hq _ _ _ h2
    |_=>exact h2
  .rename_i hw;rw[Vt hw]at h;exact⟨h.1,YE hq l _ _ h.2⟩
theorem fO{o:AM}{a:Act}{x:Next}(h:(execOp a.eval o).run P w=.ok x w')(f:∀d,x≠ .defer d):(o.semAt (WF rd).round a.eval).run P w=.ok x w':=by
 cases e:o.op with
 |defer c=>
  have:execOp a.eval o=(do pure (.defer (<- resolve a.eval c o.type))):=by simp[execOp,e]
  rw[this]at h;simp[Vn]at h;generalize(resolve a.eval c o.type).run P w=r at h;cases r with
  |ok d w2=>simp[go_sem]at h;grind
  |halt x w2=>simp_all
 |_=>grind[Oper.semAt_eq]
variable {Q:Exit->Act->AJ->Prop}{ops:Array AM}
theorem R3{o:AM}{l:AA AM}{a:Act}{v:AL}(f:Region.wanted o (yielded ops a.tmps)=AE)
  (h:(execOp a.eval o).run P w=.ok (.value v) w')(k:D_ P rd ops Q l (a.put o.dst v) w'):D_ P rd ops Q (o::l) a w:=by
 unfold D_ wpListIn;rw[Vu f];exact⟨λ_ _=>trivial,by rw[fO h (λd e=>by cases e)];exact k⟩
theorem yk{o:AM}{l:AA AM}{a:Act}(f:Region.wanted o (yielded ops a.tmps)=AE)
  (h:(execOp a.eval o).run P w=.ok .skip w')(k:D_ P rd ops Q l (a.put o.dst undef) w'):D_ P rd ops Q (o::l) a w:=by
 unfold D_ wpListIn;rw[Vu f];exact⟨λ_ _=>trivial,by rw[fO h (λd e=>by cases e)];exact k⟩
theorem tK{o:AM}{l:AA AM}{a:Act}{args:Array AL}(g:Region.wanted o (yielded ops a.tmps)=AE)
  (h:(execOp a.eval o).run P w=.ok (.enter f args) w')(k:Calls P f args w' λe w''=>∃v,e=.returned v/\D_ P rd ops Q l (a.put o.dst v) w''):D_ P rd ops Q (o::l) a w:=by
 unfold D_ wpListIn;rw[Vu g];refine⟨λ_ _=>trivial,?_⟩;rw[fO h (λd e=>by cases e)];refine⟨λh=>by simp[WF,Fence.wide]at h,WF.calls.2 (Calls.mono k ?_)⟩
 grind
variable {all:Array AM}
section
variable {P:AK} {h0 N:Nat} {env env':Env} {H H':Qc} {Q Q':QP} {c c':Code}
theorem TC.mono(h:TC P h0 N c env H Q)(hq:∀x env H,Q x env H->Q' x env H):TC P h0 N c env H Q':=
 λrd fr ro σ a w r hrd=>Code.wpIn_mono (λe a w q=>q.mono hq) (h rd fr ro σ a w r hrd)
theorem TC.le(d:Le h0 env H env' H')(h:TC P h0 N c env' H' Q):TC P h0 N c env H Q:=by
 intro k g i σ a w r hrd;obtain⟨f,σ',j,s,t⟩:=d g i σ N a w r;exact Code.wpIn_mono (λe a w q=>q.step (YR s) t) (h k g f σ' a w j hrd)
theorem WO.le{l:AA AM}(d:Le h0 env H env' H')(h:WO P h0 N all l env' H' Q):WO P h0 N all l env H Q:=by
 intro k g i σ a w r hrd;obtain⟨f,σ',j,s,t⟩:=d g i σ N a w r;exact YE (λe a w q=>q.step (YR s) t) _ _ _ (h k g f σ' a w j hrd)
theorem WO.mono{all:Array AM}{l:AA AM}(h:WO P h0 N all l env H Q)(hq:∀x env H,Q x env H->Q' x env H):WO P h0 N all l env H Q':=
 λrd fr ro σ a w r hrd=>YE (λe a w q=>q.mono hq) _ _ _ (h rd fr ro σ a w r hrd)
def PF(P:AK)(h0 N:Nat)(c:Code)(Q:QP):QP
 |.normal,env,H=>TC P h0 N c env H Q
 |.exit id,env,H=>Q (.exit id) env H
 |.ret,env,H=>Q .ret env H
def Ot(id:Nat)(Q:QP):QP
 |.normal,env,H=>Q .normal env H
 |.exit id',env,H=>bif Nat.beq id' id then Q .normal env H else Q (.exit id') env H
 |.ret,env,H=>Q .ret env H
theorem TC.seq(h:TC P h0 N c env H (PF P h0 N c' Q)):TC P h0 N (.seq c c') env H Q:=by
 intro p u s σ a w r hrd;refine wpIn_seq (Code.wpIn_mono ?_ (h p u s σ a w r hrd));rintro e y t ⟨x,d,H',f,σ',g,j,n,l,i,m,k⟩;cases e with
 |normal=>
  obtain rfl:x=.normal:=j;exact Code.wpIn_mono (λe a w q=>q.grow i m k) (n p g f σ' y t l (hrd.to i k.sub))
 |exit id=>
  obtain rfl:x=.exit id:=j;exact⟨_,d,H',f,σ',g,rfl,n,l,i,m,k⟩
 |ret=>
  obtain rfl:x=.ret:=j;exact⟨_,d,H',f,σ',g,rfl,n,l,i,m,k⟩
 |_=>exact j.elim
theorem TC.skip(h:Q .normal env H):TC P h0 N .skip env H Q:=
 λrd fr ro σ a w r hrd=>wpIn_skip ⟨_,env,H,ro,σ,fr,rfl,h,r,Qm.refl _ _ _,rfl,Cw.refl _ _ _⟩
theorem TC.ret(h:Q .ret env H):TC P h0 N .ret env H Q:=
 λrd fr ro σ a w r hrd=>wpIn_ret ⟨_,env,H,ro,σ,fr,rfl,h,r,Qm.refl _ _ _,rfl,Cw.refl _ _ _⟩
theorem TC.exit{id:Nat}(h:Q (.exit id) env H):TC P h0 N (.exit id) env H Q:=
 λrd fr ro σ a w r hrd=>wpIn_exit ⟨_,env,H,ro,σ,fr,rfl,h,r,Qm.refl _ _ _,rfl,Cw.refl _ _ _⟩
theorem TC.block{id:Nat}(h:TC P h0 N c env H (Ot id Q)):TC P h0 N (.block id c) env H Q:=by
 intro t s q σ a w r hrd;refine wpIn_block (Code.wpIn_mono ?_ (h t s q σ a w r hrd));rintro e u y ⟨x,d,H',f,σ',g,n,j,l,k,m,p⟩;cases e with
 |normal=>
  obtain rfl:x=.normal:=n;exact⟨_,d,H',f,σ',g,rfl,j,l,k,m,p⟩
 |exit i=>
  obtain rfl:x=.exit i:=n;simp[Exit.inBlock];simp only[Ot]at j;by_cases e:i=id
  .subst e;rw[Vu rfl];rw[VF]at j;exact⟨_,d,H',f,σ',g,rfl,j,l,k,m,p⟩
  .rw[Vt e];have:Nat.beq i id=false:=by
    simp_all[VM]
   rw[this]at j;exact⟨_,d,H',f,σ',g,rfl,j,l,k,m,p⟩
 |ret=>
  obtain rfl:x=.ret:=n;exact⟨_,d,H',f,σ',g,rfl,j,l,k,m,p⟩
 |_=>exact n.elim
def Bu(env:Env):Operand->A
 |.tmp t=>lk env t
 |.const (.bool b)=>.bool b
 |.const (.int k n)=>.int k n
 |.const (.string s)=>.str s.data.toList
 |.const (.pointer AF)=>.nilp
 |.const (.slice AF 0 0)=>.nils
 |.const (.map AF)=>.nilm
 |.const .nilFunc=>.nilf
 |.const .nilIface=>.nilif
 |.func f=>.fn (.func f) [] []
 |_=>.any
theorem Qn{a:Act}(r:C0 fr ro σ H env N a w)(x:Operand):VR ro σ w (Bu env x) (a.eval x):=by
 cases x with
 |tmp t=>exact r.env t
 |const v=>
  cases v with
  |slice a n k=>
   cases a with
   |none=>
    cases n with
    |zero=>cases k with
     |zero=>rfl
     |succ k=>trivial
    |succ n=>trivial
   |some a=>trivial
  |pointer p=>cases p with
   |none=>rfl
   |some p=>trivial
  |map p=>cases p with
   |none=>rfl
   |some p=>trivial
  |string s=>rfl
  |_=>simp_all[Bu,VR,Act.eval]
 |global g=>trivial
 |func f=>exact⟨[],[],rfl,rfl,rfl⟩
theorem TC.cond{x:Operand}{t:Bool}(i:Bu env x=.bool t)(j:t=AE->TC P h0 N c env H Q)(k:t=AD->TC P h0 N c' env H Q):
  TC P h0 N (.cond x c c') env H Q:=by
 intro h f d σ a w r hrd;have g:=Qn r x;rw[i]at g;exact wpIn_cond_split g (λe=>j e h f d σ a w r hrd) (λe=>k e h f d σ a w r hrd)
theorem xR{t:Array AL}{d s:Nat}{v:AL}(a:d<t.size):(t.setIfInBounds d v).getD s undef=if s=d then v else t.getD s undef:=by
 simp[Array.getD_eq_getD_getElem?]
 grind
theorem VR.up{fr ro:Nat->Prop}{σ:CD}{a:Act}{w:AJ}(r:∀s,VR ro σ w (lk env s) (a.tmps.getD s undef)){d:Nat}(f:d<a.tmps.size){x:A}{v:AL}(g:VR ro σ w x v):
  ∀s,VR ro σ w (lk (up env d x) s) ((a.tmps.setIfInBounds d v).getD s undef):=by
 intro s;rw[xR f];simp only[lk];by_cases e:s=d
 .simp_all
 .have:Nat.beq s d=false:=by
   simp_all[VM]
  grind
def QE(all:Array AM)(o:AM)(env:Env)(b:Bool):Prop:=
 match o.guard with
 |none=>b=AE
 |some (j,c)=>∃d,(all[j]?).bind (·.dst)=AC d/\((∃x,lk env d=.bool x/\b=(x==c))\/(lk env d=.tup []/\b=AD))
theorem Jp{o:AM}{b:Bool}(h:QE all o env b){a:Act}(r:C0 fr ro σ H env N a w):
  Region.wanted o (yielded all a.tmps)=b:=by
 unfold QE at h;unfold Region.wanted;cases i:o.guard with
 |none=>grind
 |some g=>
  rw[i]at h;obtain⟨d,k,⟨x,f,j⟩|⟨f,j⟩⟩:=h
  .have e:=r.env d;rw[f]at e;simp only[VR]at e;have m:a.tmps[d]?=AC (.bool x):=by
    rw[Array.getD_eq_getD_getElem?]at e
    grind[undef]
   simp_all[yielded]
  .have e:=r.env d;rw[f]at e;obtain⟨l,e,n⟩:=e;rw[Array.getD_eq_getD_getElem?]at e;simp[yielded,k]
   grind
def Bz(P:AK)(o:AM)(env:Env)(H:Qc)(x:A):Prop:=
 ∀fr ro σ N a w,C0 fr ro σ H env N a w->∃v,(execOp a.eval o).run P w=.ok (.value v) w/\VR ro σ w x v
def Do(P:AK)(o:AM)(env:Env)(H:Qc)(x:A)(H':Qc):Prop:=
 ∀fr ro σ N a w,C0 fr ro σ H env N a w->∃v w' ro' τ,(execOp a.eval o).run P w=.ok (.value v) w'/\VR ro' (σ++τ) w' x v/\
  B9 fr ro' (σ++τ) H' w'/\Qm fr ro w ro' w'
def Hx(P:AK)(o:AM)(env:Env)(H:Qc)(H':Qc):Prop:=
 ∀fr ro σ N a w,C0 fr ro σ H env N a w->∃w' ro' τ,(execOp a.eval o).run P w=.ok .skip w'/\
  B9 fr ro' (σ++τ) H' w'/\Qm fr ro w ro' w'
theorem WO.nil(h:Q .normal env H):WO P h0 N all [] env H Q:=
 λrd fr ro σ a w r hrd=>⟨_,env,H,ro,σ,fr,rfl,h,r,Qm.refl _ _ _,rfl,rfl,Cw.refl _ _ _⟩
theorem QH{a:Nat}(h:a<=σ.length):(σ++τ).take a=σ.take a:=by
 grind
theorem eG{o:AM}{l:AA AM}{d:Nat}{x:A}(y:h0<=H.length)(hg:QE all o env AE)(p:o.dst=AC d)(E:Nat.blt d N=AE)
  (i:Do P o env H x H')(k:WO P h0 N all l (up env d x) H' Q):WO P h0 N all (o::l) env H Q:=by
 intro B fr m σ a w r hrd;obtain⟨v,j,f,τ,z,u,n,g⟩:=i fr m σ N a w r;refine R3 (Jp hg r) z ?_;simp[p];have h:d<N:=by simp_all
 have t:C0 fr f (σ++τ) H' (up env d x) N {a with tmps:=a.tmps.setIfInBounds d v} j:=
  ⟨n,VR.up (fr:=fr) (λs=>(r.env s).mono (g.ext σ τ)) (by rw[r.size];exact h) u,by simpa using r.size,r.defers.keep g⟩
 refine YE (λe a w q=>q.step g (QH ?_)) _ _ _ (k B fr f (σ++τ) _ j t (hrd.to g λ_ q=>q));rw[r.sim.len];exact y
theorem YJ{o:AM}{l:AA AM}{d:Nat}{x:A}(hg:QE all o env AE)(h:o.dst=AC d)(n:Nat.blt d N=AE)
  (e:Bz P o env H x)(k:WO P h0 N all l (up env d x) H Q):WO P h0 N all (o::l) env H Q:=by
 intro m fr g σ a w r hrd;obtain⟨v,j,i⟩:=e fr g σ N a w r;refine R3 (Jp hg r) j ?_;simp[h];have f:d<N:=by simp_all
 exact k m fr g σ {a with tmps:=a.tmps.setIfInBounds d v} w ⟨r.sim,VR.up (fr:=fr) r.env (by rw[r.size];exact f) i,by simpa using r.size,r.defers⟩ hrd
theorem o8{o:AM}{l:AA AM}(t:h0<=H.length)(hg:QE all o env AE)(n:o.dst=AF)
  (h:Hx P o env H H')(k:WO P h0 N all l env H' Q):WO P h0 N all (o::l) env H Q:=by
 intro x g j σ a w r hrd;obtain⟨i,d,τ,u,m,f⟩:=h g j σ N a w r;refine yk (Jp hg r) u ?_;simp[n];have p:C0 g d (σ++τ) H' env N a i:=⟨m,λs=>(r.env s).mono (f.ext σ τ),r.size,r.defers.keep f⟩;refine YE (λe a w q=>q.step f (QH ?_)) _ _ _ (k x g d (σ++τ) _ i p (hrd.to f λ_ q=>q));rw[r.sim.len];exact t
theorem vI{o:AM}{l:AA AM}{x:A}(t:h0<=H.length)(hg:QE all o env AE)(n:o.dst=AF)
  (h:Do P o env H x H')(k:WO P h0 N all l env H' Q):WO P h0 N all (o::l) env H Q:=by
 intro y g j σ a w r hrd;obtain⟨v,i,d,τ,u,z,m,f⟩:=h g j σ N a w r;refine R3 (Jp hg r) u ?_;simp[n];have p:C0 g d (σ++τ) H' env N a i:=⟨m,λs=>(r.env s).mono (f.ext σ τ),r.size,r.defers.keep f⟩;refine YE (λe a w q=>q.step f (QH ?_)) _ _ _ (k y g d (σ++τ) _ i p (hrd.to f λ_ q=>q));rw[r.sim.len];exact t
theorem WO.skip{o:AM}{l:AA AM}{d:Nat}(hg:QE all o env AD)(h:o.dst=AC d)(i:Nat.blt d N=AE)
  (k:WO P h0 N all l (up env d (.tup [])) H Q):WO P h0 N all (o::l) env H Q:=by
 intro g fr f σ a w r hrd;unfold D_ wpListIn;rw[Jp hg r,Vt (by simp)];refine⟨λ_ _=>trivial,?_⟩;simp[h];have e:d<N:=by simp_all
 exact k g fr f σ {a with tmps:=a.tmps.setIfInBounds d undef} w ⟨r.sim,VR.up (fr:=fr) r.env (by rw[r.size];exact e) ⟨[],rfl,rfl⟩,by simpa using r.size,r.defers⟩ hrd
theorem TC.region{id:Nat}{l:AA AM}(h:WO P h0 N l.toArray l env H Q):TC P h0 N (.region id l.toArray AD) env H Q:=
 λrd fr ro σ a w r hrd=>Code.wpIn_mono (λe a w q=>q.postW) (wpIn_region_lit (h rd fr ro σ a w r hrd))
end
mutual
def Y6(ρ:Nat->Nat):A->A
 |.ptr i off=>.ptr (ρ i) off
 |.osl i o n k=>.osl (ρ i) o n k
 |.agg cs=>.agg (Fd ρ cs)
 |.fn f a c=>.fn f (Fd ρ a) (Fd ρ c)
 |.iface t v=>.iface t (Y6 ρ v)
 |.map i=>.map (ρ i)
 |.tup vs=>.tup (Fd ρ vs)
 |a=>a
def Fd(ρ:Nat->Nat):AA A->AA A
 |[]=>[]
 |a::r=>Y6 ρ a::Fd ρ r
end
def KV(ρ:Nat->Nat):AA (AA A)->AA (AA A)
 |[]=>[]
 |a::r=>Fd ρ a::KV ρ r
def MV(ρ:Nat->Nat):AA (A×A)->AA (A×A)
 |[]=>[]
 |a::r=>(Y6 ρ a.1,Y6 ρ a.2)::MV ρ r
def Q1(ρ:Nat->Nat):B8->B8
 |.cells t cs=>.cells t (Fd ρ cs)
 |.rowr t k es=>.rowr t k (KV ρ es)
 |.ents t b1 b2 es=>.ents t (ρ b1) (ρ b2) es
 |.wins t b n c=>.wins t (ρ b) n c
 |.mapP es=>.mapP (MV ρ es)
 |b=>b
theorem sL(ρ:Nat->Nat)(b1 b2:Nat):∀(es:AA Ce),KV ρ (es.map (eC b1 b2))=es.map (eC (ρ b1) (ρ b2))
 |[]=>rfl
 |e::es=>by
  have:=sL ρ b1 b2 es;simp only[Vk,KV,this];congr 1;cases h:e.fl<;>simp[eC,Fd,Y6,h]
theorem yx(ρ:Nat->Nat)(b n c:Nat):KV ρ (KX b n c)=KX (ρ b) n c:=by
 unfold KX
 induction List.range c with
 |nil=>rfl
 |cons j l a=>simp only[Vk,KV,a];rfl
theorem QO(ρ:Nat->Nat)(x:B8):(Q1 ρ x).live=x.live:=by cases x<;>rfl
theorem Pd(ρ:Nat->Nat)(x:B8)(w:AJ)(b c:Nat):De w (Q1 ρ x) b c↔De w x b c:=by cases x<;>exact Iff.rfl
section
variable {ro:Nat->Prop} {σ σ':CD} {w:AJ} {ρ:Nat->Nat} (h:∀i:Nat,σ[ρ i]?=σ'[i]?)
include h
mutual
theorem T_:∀{a:A} {v:AL},VR ro σ w (Y6 ρ a) v↔VR ro σ' w a v
 |.any,_=>by simp only[Y6,VR]
 |.bool b,v=>by simp only[Y6,VR]
 |.int k n,v=>by simp only[Y6,VR]
 |.str s,v=>by simp only[Y6,VR]
 |.nilp,v=>by simp only[Y6,VR]
 |.ptr i off,v=>by simp only[Y6,VR,h]
 |.rp cs,v=>by simp only[Y6,VR]
 |.nils,v=>by simp only[Y6,VR]
 |.rsl k es,v=>by simp only[Y6,VR]
 |.osl i o n k,v=>by simp only[Y6,VR,h]
 |.agg cs,v=>by simp only[Y6,VR];exact exists_congr λl=>and_congr_right λ_=>Mx
 |.fn f a c,v=>by simp only[Y6,VR];exact exists_congr λl=>exists_congr λl'=>and_congr_right λ_=>and_congr Mx Mx
 |.nilf,v=>by simp only[Y6,VR]
 |.iface t a,v=>by simp only[Y6,VR];exact exists_congr λl=>and_congr_right λ_=>T_
 |.nilif,v=>by simp only[Y6,VR]
 |.map i,v=>by simp only[Y6,VR,h]
 |.nilm,v=>by simp only[Y6,VR]
 |.tup vs,v=>by simp only[Y6,VR];exact exists_congr λl=>and_congr_right λ_=>Mx
theorem Mx:∀{az:AA A} {l:AA AL},LR ro σ w (Fd ρ az) l↔LR ro σ' w az l
 |[],l=>by simp only[Fd,LR]
 |a::r,l=>by
  simp only[Fd,LR];exact exists_congr λv=>exists_congr λl'=>and_congr_right λ_=>and_congr T_ Mx
end
theorem tZ:∀(cs:AA A),(Fd ρ cs).length=cs.length
 |[]=>rfl
 |a::r=>by simp[Fd,tZ r]
theorem eE{k:Nat}:∀{es:AA (AA A)} {l:AA AL},RL ro σ w k (KV ρ es) l↔RL ro σ' w k es l
 |[],l=>by rfl
 |a::r,l=>by
  simp only[KV,RL,tZ h];exact exists_congr λl1=>exists_congr λl2=>and_congr_right λ_=>and_congr_right λ_=>and_congr (and_congr_left λ_=>Mx h) eE
theorem o_:∀{es:AA (A×A)} {l:AA MapEntry},ER ro σ w (MV ρ es) l↔ER ro σ' w es l
 |[],l=>by rfl
 |a::r,l=>by
  simp only[MV,ER];exact exists_congr λe=>exists_congr λl'=>and_congr_right λ_=>and_congr (T_ h) (and_congr (T_ h) o_)
theorem eB{x:B8}{s:AB Nat}:BR ro σ w (Q1 ρ x) s↔BR ro σ' w x s:=by
 cases x with
 |cells t g=>
  cases s with
  |none=>exact Iff.rfl
  |some b=>simp only[Q1,BR];exact exists_congr λl=>and_congr_right λ_=>and_congr_left λ_=>Mx h
 |rowr t k a=>
  cases s with
  |none=>exact Iff.rfl
  |some b=>simp only[Q1,BR];exact exists_congr λl=>and_congr_right λ_=>eE h
 |mapP a=>
  cases s with
  |none=>exact Iff.rfl
  |some b=>simp only[Q1,BR];exact exists_congr λl=>exists_congr λc=>and_congr_right λ_=>and_congr_left λ_=>o_ h
 |wins t b n c=>
  cases s with
  |none=>exact Iff.rfl
  |some d=>
   simp only[Q1,BR];refine exists_congr λl=>and_congr_right λ_=>?_;rw[<- yx];exact eE h
 |ents t e f a=>
  cases s with
  |none=>exact Iff.rfl
  |some b=>
   simp only[Q1,BR];refine exists_congr λl=>and_congr_right λ_=>?_;rw[<- sL];exact eE h
 |_=>cases s<;>exact Iff.rfl
end
def C(P:AK)(f:FuncId)(args:AA A)(H:Qc)(Q:A->Qc->Prop):Prop:=
 ∀fr ro σ vals w,B9 fr ro σ H w->LR ro σ w args vals->Calls P f vals.toArray w λe w'=>
  ∃v r H' ro' τ,e=.returned v/\Q r H'/\B9 fr ro' (σ++τ) H' w'/\VR ro' (σ++τ) w' r v/\Qm fr ro w ro' w'
theorem C.mono{P:AK}{f:FuncId}{args:AA A}{H:Qc}{Q Q':A->Qc->Prop}(h:C P f args H Q)(hq:∀r H,Q r H->Q' r H):C P f args H Q':=
 λfr ro σ vals w s l=>(h fr ro σ vals w s l).mono (by grind)
def PS:Nat->AA A->Env
 |_,[]=>[]
 |i,a::r=>(i,a)::PS (i+1) r
theorem mX{ro:Nat->Prop}{σ:CD}{w:AJ}:∀{args:AA A} {vals:AA AL} {i:Nat} (pre:AA AL),pre.length=i->LR ro σ w args vals->∀rest:Array AL,
  ∀s,VR ro σ w (lk (PS i args) s) (((pre++vals).toArray++rest).getD s undef)
 |[],vals,i,pre,hp,hl,rest,s=>trivial
 |a::r,vals,i,pre,hp,hl,rest,s=>by
  simp only[LR]at hl;obtain⟨v,l',rfl,h1,h2⟩:=hl;simp only[PS,lk];by_cases e:s=i
  .simp_all[Array.getElem?_append]
  .have:Nat.beq s i=false:=by
    simp_all[VM]
   rw[this];have:=mX (i:=i+1) (pre++[v]) (by simp[hp]) h2 rest s
   grind
def Hv(P:AK)(fn:Func)(env:Env)(H:Qc)(r:A):Prop:=
 ∀fr ro σ N a w,C0 fr ro σ H env N a w->∃v,(results fn a.tmps).run P w=.ok v w/\VR ro σ w r v
def M2(P:AK)(h0:Nat)(fn:Func)(Q:A->Qc->Prop):QP
 |.normal,env,H=>∃env' H' r,Le h0 env H env' H'/\Hv P fn env' H' r/\Q r H'
 |.ret,env,H=>∃env' H' r,Le h0 env H env' H'/\Hv P fn env' H' r/\Q r H'
 |.exit _,_,_=>False
theorem LR.length{ro:Nat->Prop}{σ:CD}{w:AJ}:∀{az:AA A} {l:AA AL},LR ro σ w az l->l.length=az.length
 |[],l,h=>by simp only[LR]at h;simp[h]
 |a::r,l,h=>by
  simp only[LR]at h;obtain⟨v,l',rfl,_,h2⟩:=h;simp[h2.length]
theorem B9.turn{H:Qc}(s:B9 fr ro σ H w){b:Nat}{obj:Obj}(p:¬ro b)(n:¬fr b)(G:∀(i:Nat) (x:B8),σ[i]?=AC (AC b)->H[i]?=AC x->x.live=AE->False)
  (k:∀(i d:Nat) (x:B8),σ[i]?=AC (AC d)->H[i]?=AC x->De w x d b->False)
  (r:∀y,w.shape? b=AC y->(w.putObj b obj).shape? b=AC y):B9 fr ro σ H (w.putObj b obj)/\Qm fr ro w ro (w.putObj b obj):=by
 have t:∀c,c≠b->(w.putObj b obj).heap[c]?=w.heap[c]? :=λc u=>World.putObj_heap_other u;have e:(w.putObj b obj).heap.size=w.heap.size:=by simp
 have ev:Qm fr ro w ro (w.putObj b obj):=by
  refine⟨λ_ q=>q,(by grind),(by grind),by omega,λc x q=>?_,rfl,rfl,rfl,XU _⟩
  grind[World.shape?]
 have a:Cx ro σ w ro σ (w.putObj b obj):=by have:=ev.ext σ [];grind
 refine⟨⟨s.len,s.roOk.to (λ_ q=>q) ev.keepRo (λc q=>by rw[e];exact s.roLt c q),λc q=>by rw[e];exact s.frLt c q,s.roFr,λi c x f g m=>?_,s.inj,λi y x f g=>?_,
  s.hidTo (· = ·) Yl (by omega) (by simp) (by simp) λj d y h l B=>.inl ⟨j,y,rfl,h,l,id,λc q=>s.hidKeep h l (by grind) ev.keepRo q⟩⟩,ev⟩
 .obtain⟨E,F,z⟩:=s.own i c x f g m
  grind
 .refine(s.blk i y x f g).keep a ?_ ?_
  .grind
  grind
theorem nT{P:AK}{fn:Func}{tmps:Array AL}{R:Ending->AJ->Prop}{fr ro:Nat->Prop}{σ:CD}{H:Qc}:
  ∀(ds:AA Deferred) (w:AJ),ds.Nodup->(∀d∈ds,∃D,d={target:=.collected D,args:= #[]}/\ ¬ro D/\ ¬fr D/\(∀(i:Nat) (x:B8),σ[i]?=AC (AC D)->H[i]?=AC x->x.live=AE->False)/\(∀(i d:Nat) (x:B8),σ[i]?=AC (AC d)->H[i]?=AC x->De w x d D->False)/\w.heap[D]?=AC (.deferred (AC [])))->
  B9 fr ro σ H w->(∀w',B9 fr ro σ H w'->Qm fr ro w ro w'->∃v,(results fn tmps).run P w'=.ok v w'/\R (.returned v) w')->LeavesInM Fence.wide 0 P fn tmps R ds .returning w
 |[],w,_,_,s,hk=>by
  obtain⟨v,h1,h2⟩:=hk w s (Qm.refl _ _ _);exact⟨v,h1,h2⟩
 |d::ds,w,hn,hd,s,hk=>by
  obtain⟨D,rfl,h1,h2,h3,h5,h4⟩:=hd d (by simp);obtain⟨n1,n2⟩:=List.nodup_cons.1 hn;obtain⟨s',ev⟩:=s.turn (obj:=.deferred AF) h1 h2 h3 h5 (λy q=>by grind[World.shape?]);refine⟨(by simp),.inl ⟨D,_,rfl,run_takeDeferred h4,?_⟩⟩;refine nT ds _ n2 (λd' q=>?_) s' (λw' q1 q2=>hk w' q1 (ev.trans q2));obtain⟨D',rfl,g1,g2,g3,g5,g4⟩:=hd d' (by simp[q]);refine⟨D',rfl,g1,g2,g3,λi d x z1 z2 z3=>g5 i d x z1 z2 (s.hidKeep z1 z2 (λz=>World.putObj_heap_other (by grind)) (λb q=>World.putObj_heap_other (λe:b=D=>h1 (e▸q))) z3),(World.putObj_heap_other (λe=>?_)).trans g4⟩
  grind
variable {args:AA A}
theorem QK{fn:Func}{c:Code}{H:Qc}{Q:A->Qc->Prop}
  (hf:P.funcs[f]?=AC fn)(hb:fn.body=AC c)(hN:fn.ntmps=N)(hA:Nat.ble args.length N=AE)
  (h:TC P H.length N c (PS 0 args) H (M2 P H.length fn Q)):C P f args H Q:=by
 intro fr ro σ vals w hs hl;have V:=hl.length;have aa:args.length<=N:=by simp_all
 refine(callsIn_wide (n:=0)).1 (callsIn_of_wp_marks hf hb trivial (Code.wpIn_mono ?_ (h AF fr ro σ _ w ⟨hs,?_,?_,List.nodup_nil,λd l=>by cases l⟩ mv)))
 .rintro e p k ⟨x,u,H1,R,σ1,L,z,G,h3,h4,h5,W⟩;have y:(∃j H' r,Le H.length u H1 j H'/\Hv P fn j H' r/\Q r H')->LeavesInM Fence.wide 0 P fn p.tmps (λe k=>
    ∃v' r H' a τ,e=.returned v'/\Q r H'/\B9 fr a (σ++τ) H' k/\VR a (σ++τ) k r v'/\Qm fr ro w a k) p.defers .returning k:=by
   rintro⟨j,H',r,F,hr,hq⟩;obtain⟨a,σ',g,m,ht⟩:=F L R σ1 N p k h3;have hσ:σ'=σ++σ'.drop H.length:=by
    have T:σ'.take H.length=σ:=by rw[ht,h5,VI (by rw[hs.len];omega)]
    grind[List.take_append_drop]
   have s1:B9 fr a σ' H' k:=g.sim.frMono W.sub;refine nT (ro:=a) (fr:=fr) (σ:=σ') (H:=H') p.defers k g.defers.1 (λd l=>?_) s1 (λw2 Y t=>?_)
   .obtain⟨D,rfl,J,g2⟩:=g.defers.2 d l;refine⟨D,rfl,λq=>g.sim.roFr D q J,λq=>?_,λi x E O M=>(g.sim.own i D x E O M).2.2 J,λi d x E O M=>(g.sim.hid i d x D E O M).fr J,g2⟩;rcases W.ds _ l with X|⟨D',e,X⟩
    .cases X
    .have:D=D':=by simpa using e
     subst this;have:=hs.frLt D q;omega
   .have B:C0 fr a σ' H' j N {p with defers:=[]} w2:=⟨Y,λs=>(g.env s).mono (by have:=t.ext σ' [];grind),g.size,List.nodup_nil,λd l=>by cases l⟩;obtain⟨v,T,e2⟩:=hr fr a σ' N _ w2 B;exact⟨v,T,v,r,H',a,σ'.drop H.length,rfl,hq,hσ▸Y,hσ▸e2,(h4.trans (YR m)).trans t⟩
  cases e with
  |normal=>
   obtain rfl:x=.normal:=z;exact y G
  |ret=>
   obtain rfl:x=.ret:=z;exact y G
  |exit id=>
   obtain rfl:x=.exit id:=z;exact G.elim
  |_=>exact z.elim
 .intro s;have:=mX (i:=0) [] rfl hl (Array.replicate (fn.ntmps-vals.toArray.size) undef) s
  grind
 grind
section
variable {P:AK} {fn:Func} {env:Env} {H:Qc}
theorem Hv.nil(h:fn.results= #[]):Hv P fn env H (.tup []):=
 λfr ro σ N a w r=>⟨.tuple #[],by simp[results,h,go_sem],[],rfl,rfl⟩
theorem Hv.one{t:Nat}{x:A}(h:fn.results= #[.tmp t])(hx:lk env t=x):Hv P fn env H x:=
 λfr ro σ N a w r=>⟨a.tmps.getD t undef,by simp[results,h,go_sem],hx▸r.env t⟩
theorem yO{t u:Nat}{x y:A}(h:fn.results= #[.tmp t,.tmp u])(hx:lk env t=x)(hy:lk env u=y):Hv P fn env H (.tup [x,y]):=
 λfr ro σ N a w r=>⟨.tuple #[a.tmps.getD t undef,a.tmps.getD u undef],by simp[results,h,go_sem],
  [_,_],rfl,_,_,rfl,hx▸r.env t,_,_,rfl,hy▸r.env u,rfl⟩
theorem nI{t u v:Nat}{x y z:A}(h:fn.results= #[.tmp t,.tmp u,.tmp v])(hx:lk env t=x)(hy:lk env u=y)(hz:lk env v=z):
  Hv P fn env H (.tup [x,y,z]):=
 λfr ro σ N a w r=>⟨.tuple #[a.tmps.getD t undef,a.tmps.getD u undef,a.tmps.getD v undef],by simp[results,h,go_sem],
  [_,_,_],rfl,_,_,rfl,hx▸r.env t,_,_,rfl,hy▸r.env u,_,_,rfl,hz▸r.env v,rfl⟩
end
inductive Bn (S B:Type) where
 |k (s:S)
 |d (b:B)
 deriving DecidableEq
def iter{S B:Type}(step:S->AB (Bn S B)):Nat->S->AB B
 |0,_=>AF
 |n+1,s=>match step s with
  |some (.k s')=>iter step n s'
  |some (.d b)=>AC b
  |none=>AF
variable {B S:Type}
def UO(I:S->Env->Qc->Prop)(d:Bn S B)(Q:QP):QP
 |.normal,env,H=>∃s,d=.k s/\I s env H
 |.exit id,env,H=>(∃b,d=.d b)/\Q (.exit id) env H
 |.ret,env,H=>(∃b,d=.d b)/\Q .ret env H
variable {env:Env}{m:Nat}
theorem wj{c:Code}{S B:Type}{step:S->AB (Bn S B)}{I:S->Env->Qc->Prop}{Q:QP}{F:B}
  (body:∀s d env H,I s env H->step s=AC d->(∀b,d=.d b->b=F)->TC P h0 N c env H (UO I d Q)){M:S}(h:iter step m M=AC F){H:Qc}(J:I M env H):TC P h0 N (.loop c) env H Q:=by
 intro X p E σ a w r hrd b k cs hro hb hr;have O:∀m s env H fr1 ro1 σ1 a1 w1,iter step m s=AC F->I s env H->C0 fr1 ro1 σ1 H env N a1 w1->Qm p E w ro1 w1->σ1.take h0=σ.take h0->Cw p w a.defers fr1 a1.defers->
   ∃e i j,Hf h0 p E σ w N a.defers Q e i j/\ArrivesIn (Machine.fenced P (WF X)) P (lone (b.atR a1 (.code c::.inLoop c::k)) cs w1) b k cs e i j:=by
  intro m
  induction m with
  |zero=>grind[iter]
  |succ m ih=>
   intro s env H fr1 ro1 σ1 a1 w1 hit J r1 ev1 t1 g1;simp only[iter]at hit;cases V:step s with
   |none=>grind
   |some d=>
    rw[V]at hit;have hd:∀b,d=.d b->b=F:=by
     grind
    obtain⟨e,i,j,G,f⟩:=body s d env H J V hd X fr1 ro1 σ1 a1 w1 r1 (hrd.to ev1 g1.sub) b (.inLoop c::k) cs hro hb hr;obtain⟨x,g,H',n,σ',y,z,t,W,q4,R,q6⟩:=G;have u:=ev1.trans (q4.frMono g1.sub);have Y:=g1.trans ev1.size q6;have T:∀x,Q x g H'->Tc e x->Hf h0 p E σ w N a.defers Q e i j:=λx q q'=>⟨x,g,H',n,σ',y,q',q,W,u,R.trans t1,Y⟩;cases e with
    |normal=>
     obtain rfl:x=.normal:=z;obtain⟨s',rfl,t⟩:=t;obtain⟨e2,a2,w2,L,l⟩:=ih s' g H' y n σ' i j hit t W u (R.trans t1) Y;exact⟨e2,a2,w2,L,.of_steps (StepsIn.trans f (.one (fenced_calm hb hr rfl) stepR_inLoop)) l⟩
    |exit id=>
     obtain rfl:x=.exit id:=z;exact⟨_,i,j,T _ t.2 rfl,.pass (x:=.inLoop c) rfl (by simp) f⟩
    |ret=>
     obtain rfl:x=.ret:=z;exact⟨_,i,j,T _ t.2 rfl,.pass (x:=.inLoop c) rfl (by simp) f⟩
    |_=>exact z.elim
 obtain⟨e,i,j,G,f⟩:=O m M env H p E σ a w h J r (Qm.refl _ _ _) rfl (Cw.refl _ _ _);exact⟨e,i,j,G,.of_steps (.one (fenced_calm hb hr rfl) stepR_loop) f⟩
theorem TC.loop{P:AK}{h0 N:Nat}{c:Code}{S B:Type}{step:S->AB (Bn S B)}(E:S->Env)(Hp:S->Qc){Q:QP}
  {m:Nat}{s0:S}{b0:B}(h:iter step m s0=AC b0){env:Env}{H:Qc}(hI:Le h0 env H (E s0) (Hp s0))
  (body:∀s d,step s=AC d->(∀b,d=.d b->b=b0)->TC P h0 N c (E s) (Hp s) (UO (λs env H=>Le h0 env H (E s) (Hp s)) d Q)):TC P h0 N (.loop c) env H Q:=
 wj (I:=λs env H=>Le h0 env H (E s) (Hp s)) (λs d env H hI hs hd=>TC.le hI (body s d hs hd)) h hI
def CF(π:AA Nat)(n i:Nat):Nat:=
 match π[i]? with
 |some p=>p
 |none=>n+(i-π.length)
def Yj:Qc->AA Nat->AA B8->Qc
 |H,[],xs=>H++xs
 |H,p::π,x::xs=>Yj (H.set p x) π xs
 |H,_::_,[]=>H
theorem uN:∀(π:AA Nat) (H:Qc) (xs:AA B8),π.length<=xs.length->(Yj H π xs).length=H.length+(xs.length-π.length)
 |[],H,xs,_=>by simp[Yj]
 |p::π,H,[],h=>by simp at h
 |p::π,H,x::xs,h=>by
  simp[X2]at h;simp only[Yj,uN π (H.set p x) xs (by omega),X5,X2];omega
theorem nS:∀(π:AA Nat) (H:Qc) (xs:AA B8) (i:Nat),i<H.length->i∉π->(Yj H π xs)[i]?=H[i]?
 |[],H,xs,i,hi,_=>by simp[Yj,XN hi]
 |p::π,H,[],i,hi,h=>by simp[Yj]
 |p::π,H,x::xs,i,hi,h=>by
  simp[X7,not_or]at h;simp[Yj];rw[nS π (H.set p x) xs i (by grind) h.2,XQ (λe=>h.1 e.symm)]
theorem tU:∀(π:AA Nat) (H:Qc) (xs:AA B8) (j:Nat),π.length<=xs.length->(∀p∈π,p<H.length)->π.Nodup->
  (Yj H π xs)[CF π H.length j]?=xs[j]?
 |[],H,xs,j,_,_,_=>by
  simp_all[Yj,CF,XO]
 |p::π,H,[],j,h,_,_=>by simp at h
 |p::π,H,x::xs,j,h,hp,hn=>by
  simp[X2]at h;have hn':=List.nodup_cons.1 hn;simp[Yj];cases j with
  |zero=>
   grind[CF,nS]
  |succ j=>
   have ih:=tU π (H.set p x) xs j (by omega) (λq hq=>by grind) hn'.2;have e:CF (p::π) H.length (j+1)=CF π H.length j:=by
    simp only[CF,X2];simp
   grind
theorem yy(π:AA Nat)(n i:Nat)(hi:n<=i\/i∈π):∃j,i=CF π n j:=by
 rcases hi with hi|hi
 .refine⟨π.length+(i-n),?_⟩
  grind[CF]
 .obtain⟨j,a,rfl⟩:=List.mem_iff_getElem.1 hi;exact⟨j,by simp[CF,XL a]⟩
def Yz(σ:CD)(π:AA Nat):CD:=π.map λp=>(σ[p]?).getD AF
variable {π:AA Nat}
theorem fE{n:Nat}(d:σ.length=n)(a:∀p∈π,p<n)(j:Nat):(σ++τ)[CF π n j]?=(Yz σ π++τ)[j]? :=by
 rcases(by omega)with h|h
 .grind[CF,Yz]
 grind[CF,Yz]
def DN(P:AK)(o:AM)(env:Env)(H:Qc)(f:FuncId)(args:AA A):Prop:=
 ∀fr ro σ N a w,C0 fr ro σ H env N a w->∃vals:AA AL,(execOp a.eval o).run P w=.ok (.enter f vals.toArray) w/\LR ro σ w args vals
theorem JD{H:Qc}{Hc:AA B8}(hH:π.map (λp=>H[p]?)=Hc.map AC){p:Nat}(a:p∈π):p<H.length:=by
 grind[List.mem_map_of_mem]
variable {Qr:A->Qc->Prop}
theorem WO.call{o:AM}{l:AA AM}{H:Qc}{Q:QP}{d:AB Nat}
  {ac:AA A}{Hc:Qc}(π:AA Nat)(hh:h0<=H.length)(hg:QE all o env AE)(hd:o.dst=d)(hN:∀x,d=AC x->x<N)
  (ar:DN P o env H f args)(hargs:args=Fd (CF π H.length) ac)(hH:π.map (λp=>H[p]?)=(Hc.map (Q1 (CF π H.length))).map AC)(hπ:π.Nodup)
  (hC:C P f ac Hc Qr)
  (k:∀r H1,Qr r H1->WO P h0 N all l (match d with|some d=>up env d (Y6 (CF π H.length) r)|none=>env) (Yj H π (H1.map (Q1 (CF π H.length)))) Q):
  WO P h0 N all (o::l) env H Q:=by
 intro rd fr ro σ a w r hrd;obtain⟨ai,h1,h2⟩:=ar fr ro σ N a w r;refine tK (Jp hg r) h1 ?_;have hp:∀p∈π,p<H.length:=λp q=>JD hH q;have hσl:=r.sim.len;have aa:∀(j p:Nat),π[j]?=AC p->H[p]?=(Hc[j]?).map (Q1 (CF π H.length)):=by
  intro j p M;have:=congrArg (λl=>l[j]?) hH;simp only[Xp,M,Xj]at this;cases e:Hc[j]? with
  |none=>rw[e]at this;simp at this
  |some x=>rw[e]at this;simpa using this
 have al:π.length=Hc.length:=by simpa using congrArg List.length hH
 have hσc:∀j:Nat,σ[CF π H.length j]?=(Yz σ π)[j]? :=by
  intro j;have:=fE (τ:=[]) hσl hp j;simpa using this
 let frc:Nat->Prop:=λb=>fr b\/(∃i x,σ[i]?=AC (AC b)/\H[i]?=AC x/\x.live=AE/\i∉π)\/ ∃i x d,σ[i]?=AC (AC d)/\H[i]?=AC x/\De w x d b/\i∉π
 have hπj:∀(j b:Nat),(Yz σ π)[j]?=AC (AC b)->∃p,π[j]?=AC p/\σ[p]?=AC (AC b):=by
  intro j b M;simp only[Yz,Xp]at M;cases e:π[j]? with
  |none=>rw[e]at M;simp at M
  |some p=>
   rw[e]at M;simp at M;refine⟨p,rfl,?_⟩;cases e2:σ[p]? with
   |none=>rw[e2]at M;simp at M
   |some s=>rw[e2]at M;simp at M;rw[M]
 have hπi:∀(i j p:Nat),π[i]?=AC p->π[j]?=AC p->i=j:=by
  intro i j p T O;have hi:i<π.length:=by
   rcases VC i π.length with q|q
   .exact q
   .rw[XP q]at T;simp at T
  have M:j<π.length:=by
   rcases VC j π.length with q|q
   .exact q
   .rw[XP q]at O;simp at O
  rw[XL hi]at T;rw[XL M]at O;have ad:=(X0 T).trans (X0 O).symm;rcases Nat.lt_trichotomy i j with q|q|q
  .exact(VE.1 hπ i j hi M q ad).elim
  .exact q
  .exact(VE.1 hπ j i M hi q ad.symm).elim
 have aj:B9 frc ro (Yz σ π) Hc w:=by
  refine⟨by simp[Yz,al],r.sim.roOk,?_,?_,?_,?_,?_,?_⟩
  .rintro b (hb|⟨i,x,h,g,m,J⟩|⟨i,x,d,h,g,m,J⟩)
   .exact r.sim.frLt b hb
   .exact(r.sim.own i b x h g m).1
   .exact(r.sim.hid i d x b h g m).lt
  .rintro b hb (hf|⟨i,x,h,g,m,J⟩|⟨i,x,d,h,g,m,J⟩)
   .exact r.sim.roFr b hb hf
   .exact(r.sim.own i b x h g m).2.1 hb
   .exact(r.sim.hid i d x b h g m).ro hb
  .intro j b x h g m;obtain⟨p,T,e2⟩:=hπj j b h;have e3:H[p]?=AC (Q1 (CF π H.length) x):=by rw[aa j p T,g];rfl
   obtain⟨o1,o2,o3⟩:=r.sim.own p b _ e2 e3 (by rw[QO];exact m);refine⟨o1,o2,?_⟩;rintro(hf|⟨i,y,y1,y2,y3,y4⟩|⟨i,y,d,y1,y2,y3,y4⟩)
   .exact o3 hf
   .have:=r.sim.inj i p b _ _ y1 e2 y2 e3 y3 (by rw[QO];exact m);subst this;exact y4 (VH T)
   .exact(r.sim.hid i d y b y1 y2 y3).ne p b _ e2 e3 (by rw[QO];exact m) rfl
  .intro i j b x y h g m J X q6;obtain⟨p,T,e2⟩:=hπj i b h;obtain⟨p',O,am⟩:=hπj j b g;have e3:H[p]?=AC (Q1 (CF π H.length) x):=by rw[aa i p T,m];rfl
   have an:H[p']?=AC (Q1 (CF π H.length) y):=by rw[aa j p' O,J];rfl
   have:=r.sim.inj p p' b _ _ e2 am e3 an (by rw[QO];exact X) (by rw[QO];exact q6);subst this;have hi:i<π.length:=by
    rcases VC i π.length with q|q
    .exact q
    .rw[XP q]at T;simp at T
   have M:j<π.length:=by
    rcases VC j π.length with q|q
    .exact q
    .rw[XP q]at O;simp at O
   rw[XL hi]at T;rw[XL M]at O;have ad:=(X0 T).trans (X0 O).symm;rcases Nat.lt_trichotomy i j with q|q|q
   .exact(VE.1 hπ i j hi M q ad).elim
   .exact q
   .exact(VE.1 hπ j i M hi q ad.symm).elim
  .intro j s x h g;have M:j<π.length:=by
    rcases VC j π.length with q|q
    .exact q
    .rw[XP (by simpa[Yz]using q)]at h;simp at h
   have T:π[j]?=AC π[j]:=XL M;have e3:H[π[j]]?=AC (Q1 (CF π H.length) x):=by rw[aa j _ T,g];rfl
   have e2:σ[π[j]]?=AC s:=by
    have:=hσc j;rw[h]at this;simpa[CF,T]using this
   exact(eB hσc).1 (r.sim.blk _ s _ e2 e3)
  .intro j b x c h g m;obtain⟨p,T,e2⟩:=hπj j b h;have e3:H[p]?=AC (Q1 (CF π H.length) x):=by rw[aa j p T,g];rfl
   have k:=r.sim.hid p b _ c e2 e3 ((Pd _ _ _ _ _).2 m);refine⟨k.lt,k.ro,?_,?_,?_⟩
   .rintro(hf|⟨i,y,y1,y2,y3,y4⟩|⟨i,y,d,y1,y2,y3,y4⟩)
    .exact k.fr hf
    .exact k.ne i c y y1 y2 y3 rfl
    .obtain⟨rfl,rfl⟩:=k.one i d y y1 y2 y3;exact y4 (VH T)
   .intro R b' y L n Y;obtain⟨p',f1,f2⟩:=hπj R b' L;exact k.ne p' b' _ f2 (show H[p']?=AC (Q1 (CF π H.length) y)by rw[aa R p' f1,n];rfl) (by rw[QO];exact Y)
   .intro R b' y L n Y;obtain⟨p',f1,f2⟩:=hπj R b' L;obtain⟨z4,z5⟩:=k.one p' b' _ f2 (show H[p']?=AC (Q1 (CF π H.length) y)by rw[aa R p' f1,n];rfl) ((Pd _ _ _ _ _).2 Y);subst z5;exact⟨z4,hπi R j p' f1 T⟩
 have ag:LR ro (Yz σ π) w ac ai:=(Mx hσc).1 (hargs▸h2);refine Calls.mono (hC frc ro (Yz σ π) ai w aj ag) ?_;rintro e w' ⟨v,rr,H1,ab,τ,rfl,hq,sc,hv,ev⟩;have hσ':∀j:Nat,(σ++τ)[CF π H.length j]?=(Yz σ π++τ)[j]? :=λj=>fE hσl hp j;have aq:H1.length=π.length+τ.length:=by rw[<- sc.len];simp[Yz]
 have ak:π.length<=(H1.map (Q1 (CF π H.length))).length:=by simp;omega
 have W:Qm fr ro w ab w':=⟨ev.sub,ev.keepRo,λb q=>ev.keepFr b (.inl q),ev.size,ev.shape,ev.os,ev.tape,ev.output,ev.drawn⟩;have F:∀j,(Yj H π (H1.map (Q1 (CF π H.length))))[CF π H.length j]?=(H1[j]?).map (Q1 (CF π H.length)):=by
  intro j;rw[tU π H _ j ak hp hπ];simp
 have B:∀i,i<H.length->i∉π->(Yj H π (H1.map (Q1 (CF π H.length))))[i]?=H[i]? :=λi=>nS π H _ i;have t:∀i:Nat,(∃j,i=CF π H.length j)\/(i<H.length/\i∉π):=by
  intro i;by_cases q:H.length<=i\/i∈π
  .exact .inl (yy π H.length i q)
  .simp only[not_or]at q;exact .inr ⟨by omega,q.2⟩
 have G:∀i b x,i<H.length->i∉π->σ[i]?=AC (AC b)->H[i]?=AC x->x.live=AE->frc b:=λi b x h g m J X=>.inr (.inl ⟨i,x,m,J,X,g⟩);have ae:∀i b x c,i<H.length->i∉π->σ[i]?=AC (AC b)->H[i]?=AC x->De w' x b c->De w x b c/\frc c:=λi b x c h g m J X=>
  have q6:=r.sim.hidKeep m J (λz=>ev.keepFr b (G i b x h g m J z)) ev.keepRo X
  ⟨q6,.inr (.inr ⟨i,x,b,m,J,q6,g⟩)⟩
 have ah:B9 fr ab (σ++τ) (Yj H π (H1.map (Q1 (CF π H.length)))) w':=by
  refine⟨?_,sc.roOk,λb q=>sc.frLt b (.inl q),λb q q'=>sc.roFr b q (.inl q'),?_,?_,?_,?_⟩
  .rw[uN _ _ _ ak];simp[hσl,aq]
  .intro i b x h g m;rcases t i with⟨j,rfl⟩|⟨c1,c2⟩
   .rw[hσ']at h;rw[F]at g;cases e:H1[j]? with
    |none=>rw[e]at g;simp at g
    |some y=>
     rw[e]at g;simp at g;subst g;obtain⟨o1,o2,o3⟩:=sc.own j b y h e (by rw[QO]at m;exact m);exact⟨o1,o2,λq=>o3 (.inl q)⟩
   .rw[B i c1 c2]at g;rw[XN (by omega)]at h;obtain⟨o1,o2,o3⟩:=r.sim.own i b x h g m;exact⟨Vg o1 ev.size,λq=>sc.roFr b q (G i b x c1 c2 h g m),o3⟩
  .intro i E b x y h g m J X q6;have af:∀(i E:Nat) (x y:B8),(∃j,i=CF π H.length j)->(E<H.length/\E∉π)->(σ++τ)[i]?=AC (AC b)->(σ++τ)[E]?=AC (AC b)->
     (Yj H π (H1.map (Q1 (CF π H.length))))[i]?=AC x->(Yj H π (H1.map (Q1 (CF π H.length))))[E]?=AC y->x.live=AE->y.live=AE->False:=by
    rintro i E x y ⟨j,rfl⟩ ⟨c1,c2⟩ h g m J X q6;rw[hσ']at h;rw[F]at m;rw[B E c1 c2]at J;rw[XN (by omega)]at g;cases e:H1[j]? with
    |none=>rw[e]at m;simp at m
    |some z=>
     rw[e]at m;simp at m;subst m;exact(sc.own j b z h e (by rw[QO]at X;exact X)).2.2 (G E b y c1 c2 g J q6)
   rcases t i with ci|ci<;>rcases t E with ci'|ci'
   .obtain⟨j,rfl⟩:=ci;obtain⟨R,rfl⟩:=ci';rw[hσ']at h g;rw[F]at m J;cases e:H1[j]? with
    |none=>rw[e]at m;simp at m
    |some z=>
     cases V:H1[R]? with
     |none=>rw[V]at J;simp at J
     |some z'=>
      rw[e]at m;simp at m;subst m;rw[V]at J;simp at J;subst J;rw[sc.inj j R b z z' h g e V (by rw[QO]at X;exact X) (by rw[QO]at q6;exact q6)]
   .exact(af i E x y ci ci' h g m J X q6).elim
   .exact(af E i y x ci' ci g h J m q6 X).elim
   .rw[B i ci.1 ci.2]at m;rw[B E ci'.1 ci'.2]at J;rw[XN (by omega)]at h g;exact r.sim.inj i E b x y h g m J X q6
  .intro i s x h g;rcases t i with⟨j,rfl⟩|⟨c1,c2⟩
   .rw[hσ']at h;rw[F]at g;cases e:H1[j]? with
    |none=>rw[e]at g;simp at g
    |some y=>
     rw[e]at g;simp at g;subst g;exact(eB hσ').2 (sc.blk j s y h e)
   .rw[B i c1 c2]at g;rw[XN (by omega)]at h;refine BR.keep (W.ext σ τ) ?_ (r.sim.blk i s x h g) ?_
    .rintro b rfl hl;exact ev.keepFr b (G i b x c1 c2 h g hl)
    .rintro b c rfl hl;exact ev.keepFr c (.inr (.inr ⟨i,x,b,h,g,hl,c2⟩))
  .intro i b x c h g m;rcases t i with⟨j,rfl⟩|⟨c1,c2⟩
   .rw[hσ']at h;rw[F]at g;cases e:H1[j]? with
    |none=>rw[e]at g;simp at g
    |some y=>
     rw[e]at g;simp at g;subst g;have k:=sc.hid j b y c h e ((Pd _ _ _ _ _).1 m);refine⟨k.lt,k.ro,λq=>k.fr (.inl q),?_,?_⟩
     .intro E b' y' L n Y;rcases t E with⟨R,rfl⟩|⟨d1,d2⟩
      .rw[hσ']at L;rw[F]at n;cases V:H1[R]? with
       |none=>rw[V]at n;simp at n
       |some u=>
        rw[V]at n;simp at n;subst n;exact k.ne R b' u L V (by rw[QO]at Y;exact Y)
      .rw[B E d1 d2]at n;rw[XN (by omega)]at L;rintro rfl;exact k.fr (G E c y' d1 d2 L n Y)
     .intro E b' y' L n Y;rcases t E with⟨R,rfl⟩|⟨d1,d2⟩
      .rw[hσ']at L;rw[F]at n;cases V:H1[R]? with
       |none=>rw[V]at n;simp at n
       |some u=>
        rw[V]at n;simp at n;subst n;obtain⟨z4,rfl⟩:=k.one R b' u L V ((Pd _ _ _ _ _).1 Y);exact⟨z4,rfl⟩
      .rw[B E d1 d2]at n;rw[XN (by omega)]at L;exact(k.fr (ae E b' y' c d1 d2 L n Y).2).elim
   .rw[B i c1 c2]at g;rw[XN (by omega)]at h;obtain⟨J,X⟩:=ae i b x c c1 c2 h g m;have k:=r.sim.hid i b x c h g J;refine⟨Vg k.lt ev.size,λq=>sc.roFr c q X,k.fr,?_,?_⟩
    .intro E b' y' L n Y;rcases t E with⟨R,rfl⟩|⟨d1,d2⟩
     .rw[hσ']at L;rw[F]at n;cases V:H1[R]? with
      |none=>rw[V]at n;simp at n
      |some u=>
       rw[V]at n;simp at n;subst n;rintro rfl;exact(sc.own R c u L V (by rw[QO]at Y;exact Y)).2.2 X
     .rw[B E d1 d2]at n;rw[XN (by omega)]at L;exact k.ne E b' y' L n Y
    .intro E b' y' L n Y;rcases t E with⟨R,rfl⟩|⟨d1,d2⟩
     .rw[hσ']at L;rw[F]at n;cases V:H1[R]? with
      |none=>rw[V]at n;simp at n
      |some u=>
       rw[V]at n;simp at n;subst n;exact((sc.hid R b' u c L V ((Pd _ _ _ _ _).1 Y)).fr X).elim
     .rw[B E d1 d2]at n;rw[XN (by omega)]at L;exact k.one E b' y' L n (ae E b' y' c d1 d2 L n Y).1
 have au:VR ab (σ++τ) w' (Y6 (CF π H.length) rr) v:=(T_ hσ').2 hv;have hk:=k rr H1 hq;cases d with
 |none=>
  simp only[hd,Act.put];have r':C0 fr ab (σ++τ) (Yj H π (H1.map (Q1 (CF π H.length)))) env N a w':=⟨ah,λs=>(r.env s).mono (W.ext σ τ),r.size,r.defers.keep W⟩;exact⟨_,rfl,YE (λe a w q=>q.step W (QH (by omega))) _ _ _ (hk rd fr ab (σ++τ) _ w' r' (hrd.to W λ_ q=>q))⟩
 |some d=>
  simp only[hd,Act.put];have ao:=hN d rfl;have r':C0 fr ab (σ++τ) (Yj H π (H1.map (Q1 (CF π H.length)))) (up env d (Y6 (CF π H.length) rr)) N {a with tmps:=a.tmps.setIfInBounds d v} w':=
   ⟨ah,VR.up (fr:=fr) (λs=>(r.env s).mono (W.ext σ τ)) (by rw[r.size];exact ao) au,by simpa using r.size,r.defers.keep W⟩
  exact⟨_,rfl,YE (λe a w q=>q.step W (QH (by omega))) _ _ _ (hk rd fr ab (σ++τ) _ w' r' (hrd.to W λ_ q=>q))⟩
variable {T k off:Nat}{es:AA (AA A)}{q:AA UInt8}{t u:TypeId}{vs:AA A}
section
variable {P:AK} {o:AM} {env:Env} {H:Qc}
theorem QC{a:Act}(r:C0 fr ro σ H env N a w){x:Operand}{k:IntKind}{n:Int}(h:Bu env x=.int k n):a.eval x=.int k n:=by
 have:=Qn r x;rw[h]at this;exact this
theorem fJ{a:Act}(r:C0 fr ro σ H env N a w){x:Operand}{b:Bool}(h:Bu env x=.bool b):a.eval x=.bool b:=by
 have:=Qn r x;rw[h]at this;exact this
theorem e7{a:Act}(r:C0 fr ro σ H env N a w){x:Operand}{s:AA UInt8}(h:Bu env x=.str s):a.eval x=.string ⟨s.toArray⟩:=by
 have:=Qn r x;rw[h]at this;exact this
theorem Bz.move{x:Operand}{v:A}(ho:o.op=.move x)(hx:Bu env x=v):Bz P o env H v:=
 λfr ro σ N a w r=>⟨a.eval x,by simp[execOp,ho],hx▸Qn r x⟩
theorem Bz.assign{x:Operand}{v:A}(ho:o.op=.assign x)(hx:Bu env x=v):Bz P o env H v:=
 λfr ro σ N a w r=>⟨a.eval x,by simp[execOp,ho],hx▸Qn r x⟩
theorem Bz.pick{c x y:Operand}{b:Bool}{v:A}(g:o.op=.pick c x y)(d:Bu env c=.bool b)(f:(if b then Bu env x else Bu env y)=v):Bz P o env H v:=by
 intro h e σ N a w r;have i:=fJ r d;refine⟨if b then a.eval x else a.eval y,by simp_all[execOp,asBool],?_⟩
 grind[Qn]
theorem Bz.add{t u:TypeId}{x y:Operand}{k:IntKind}{m n:Int}(j:o.op=.binOp .add t x y u)(d:Bu env x=.int k m)(e:Bu env y=.int k n):Bz P o env H (.int k (k.wrap (m+n))):=by
 intro i f σ N a w r;have h:=QC r d;have g:=QC r e;refine⟨_,?_,rfl⟩
 simp_all[execOp,Go.binOp,eqGuard,Op.intArith]
theorem Bz.sub{t u:TypeId}{x y:Operand}{k:IntKind}{m n:Int}(j:o.op=.binOp .sub t x y u)(d:Bu env x=.int k m)(e:Bu env y=.int k n):Bz P o env H (.int k (k.wrap (m-n))):=by
 intro i f σ N a w r;have h:=QC r d;have g:=QC r e;refine⟨_,?_,rfl⟩
 simp_all[execOp,Go.binOp,eqGuard,Op.intArith]
theorem Bz.mul{t u:TypeId}{x y:Operand}{k:IntKind}{m n:Int}(j:o.op=.binOp .mul t x y u)(d:Bu env x=.int k m)(e:Bu env y=.int k n):Bz P o env H (.int k (k.wrap (m*n))):=by
 intro i f σ N a w r;have h:=QC r d;have g:=QC r e;refine⟨_,?_,rfl⟩
 simp_all[execOp,Go.binOp,eqGuard,Op.intArith]
theorem Bz.cmp{op:BinOp}{x y:Operand}{k:IntKind}{m n:Int}{f:Int->Int->Bool}(j:o.op=.binOp op t x y u)(g:Bu env x=.int k m)(e:Bu env y=.int k n)
  (d:op=.eql/\f=(λa b=>a==b)\/op=.neq/\f=(λa b=>a != b)\/op=.lss/\f=(λa b=>AG (a<b))\/op=.leq/\f=(λa b=>AG (a<=b))\/
   op=.gtr/\f=(λa b=>AG (b<a))\/op=.geq/\f=(λa b=>AG (b<=a))):Bz P o env H (.bool (f m n)):=by
 intro p l σ N a w r;have i:=QC r g;have h:=QC r e;refine⟨_,?_,rfl⟩;generalize a.eval=ρ at*;rcases d with⟨rfl,rfl⟩|⟨rfl,rfl⟩|⟨rfl,rfl⟩|⟨rfl,rfl⟩|⟨rfl,rfl⟩|⟨rfl,rfl⟩<;>simp[j,i,h,go_sem]
theorem Bz.eql{t u:TypeId}{x y:Operand}{k:IntKind}{m n:Int}(ho:o.op=.binOp .eql t x y u)(hx:Bu env x=.int k m)(hy:Bu env y=.int k n):Bz P o env H (.bool (m==n)):=
 Bz.cmp ho hx hy (by simp)
theorem Bz.neq{t u:TypeId}{x y:Operand}{k:IntKind}{m n:Int}(ho:o.op=.binOp .neq t x y u)(hx:Bu env x=.int k m)(hy:Bu env y=.int k n):Bz P o env H (.bool (m != n)):=
 Bz.cmp ho hx hy (by simp)
theorem Bz.lss{t u:TypeId}{x y:Operand}{k:IntKind}{m n:Int}(ho:o.op=.binOp .lss t x y u)(hx:Bu env x=.int k m)(hy:Bu env y=.int k n):Bz P o env H (.bool (AG (m<n))):=
 Bz.cmp (f:=λa b=>AG (a<b)) ho hx hy (by simp)
theorem Bz.leq{t u:TypeId}{x y:Operand}{k:IntKind}{m n:Int}(ho:o.op=.binOp .leq t x y u)(hx:Bu env x=.int k m)(hy:Bu env y=.int k n):Bz P o env H (.bool (AG (m<=n))):=
 Bz.cmp (f:=λa b=>AG (a<=b)) ho hx hy (by simp)
theorem Bz.gtr{t u:TypeId}{x y:Operand}{k:IntKind}{m n:Int}(ho:o.op=.binOp .gtr t x y u)(hx:Bu env x=.int k m)(hy:Bu env y=.int k n):Bz P o env H (.bool (AG (n<m))):=
 Bz.cmp (f:=λa b=>AG (b<a)) ho hx hy (by simp)
theorem Bz.geq{t u:TypeId}{x y:Operand}{k:IntKind}{m n:Int}(ho:o.op=.binOp .geq t x y u)(hx:Bu env x=.int k m)(hy:Bu env y=.int k n):Bz P o env H (.bool (AG (n<=m))):=
 Bz.cmp (f:=λa b=>AG (b<=a)) ho hx hy (by simp)
theorem Bz.rem{t u:TypeId}{x y:Operand}{k:IntKind}{m n:Int}(l:o.op=.binOp .rem t x y u)(e:Bu env x=.int k m)(d:Bu env y=.int k n)(g:n≠0):Bz P o env H (.int k (m.tmod n)):=by
 intro h f σ N a w r;have j:=QC r e;have i:=QC r d;exact⟨_,by simp_all[execOp,Go.binOp,eqGuard,Op.intDiv],rfl⟩
theorem Bz.quo{t u:TypeId}{x y:Operand}{k:IntKind}{m n:Int}(l:o.op=.binOp .quo t x y u)(e:Bu env x=.int k m)(d:Bu env y=.int k n)(g:n≠0):Bz P o env H (.int k (k.wrap (m.tdiv n))):=by
 intro h f σ N a w r;have j:=QC r e;have i:=QC r d;exact⟨_,by simp_all[execOp,Go.binOp,eqGuard,Op.intDiv],rfl⟩
theorem Bz.not{t:TypeId}{x:Operand}{b:Bool}(h:o.op=.unOp .not t x)(d:Bu env x=.bool b):Bz P o env H (.bool !b):=by
 intro g e σ N a w r;have f:=fJ r d;exact⟨_,by simp_all[execOp,Op.unary],rfl⟩
theorem Bz.neg{t:TypeId}{x:Operand}{k:IntKind}{n:Int}(h:o.op=.unOp .neg t x)(d:Bu env x=.int k n):Bz P o env H (.int k (k.wrap (0-n))):=by
 intro g e σ N a w r;have f:=QC r d;exact⟨_,by simp_all[execOp,Op.unary,Op.intArith],rfl⟩
theorem YB{s:TypeId}{x:Operand}{k d:IntKind}{n:Int}{e:TypeDesc}(m:o.op=.convert s t x)(i:∀w,(underlying s).run P w=.ok e w)(h:∀w,(underlying t).run P w=.ok (.int k) w)
  (f:Bu env x=.int d n):Bz P o env H (.int k (k.wrap n)):=by
 intro j g σ N a w r;have l:=QC r f;refine⟨_,?_,rfl⟩
 simp_all[execOp,convert,Conv.intToInt]
theorem fw{op:BinOp}{x y:Operand}{p:AA UInt8}{f:AA UInt8->AA UInt8->Bool}(l:o.op=.binOp op t x y u)(h:Bu env x=.str p)(e:Bu env y=.str q)
  (d:op=.eql/\f=(λa b=>a==b)\/op=.neq/\f=(λa b=>a != b)\/op=.lss/\f=Op.bytesLess\/op=.geq/\f=(λa b=> !Op.bytesLess a b)\/
   op=.leq/\f=(λa b=>Op.bytesLess a b||a==b)\/op=.gtr/\f=(λa b=> !(Op.bytesLess a b||a==b))):Bz P o env H (.bool (f p q)):=by
 intro n m σ N a w r;have k:=e7 r h;have j:=e7 r e;refine⟨_,?_,rfl⟩;generalize a.eval=ρ at*;have g:(⟨p.toArray⟩:ByteArray).toList=p:=by simp
 have i:(⟨q.toArray⟩:ByteArray).toList=q:=by simp
 rcases d with⟨rfl,rfl⟩|⟨rfl,rfl⟩|⟨rfl,rfl⟩|⟨rfl,rfl⟩|⟨rfl,rfl⟩|⟨rfl,rfl⟩<;>simp[l,k,j,Go.binOp,Op.stringOp,g,i,go_sem,bne]
theorem mu{x y:Operand}{p:AA UInt8}(ho:o.op=.binOp .eql t x y u)(hx:Bu env x=.str p)(hy:Bu env y=.str q):Bz P o env H (.bool (p==q)):=
 fw ho hx hy (by simp)
theorem yL{x y:Operand}{p:AA UInt8}(ho:o.op=.binOp .neq t x y u)(hx:Bu env x=.str p)(hy:Bu env y=.str q):Bz P o env H (.bool (p != q)):=
 fw ho hx hy (by simp)
theorem yK{x y:Operand}{p:AA UInt8}(ho:o.op=.binOp .lss t x y u)(hx:Bu env x=.str p)(hy:Bu env y=.str q):Bz P o env H (.bool (Op.bytesLess p q)):=
 fw ho hx hy (by simp)
theorem yJ{x y:Operand}{s:AA UInt8}{k:IntKind}{n:Int}{c:UInt8}(B:o.op=.index t x y)(m:∀w,(underlying t).run P w=.ok .string w)(g:Bu env x=.str s)(e:Bu env y=.int k n)
  (q:0<=n)(j:s[n.toNat]?=AC c):Bz P o env H (.int .u8 c.toNat):=by
 intro p l σ N a w r;have z:=e7 r g;have u:=QC r e;have i:(⟨s.toArray⟩:ByteArray)[n.toNat]?=AC c:=by
  obtain⟨d,h⟩:=XM.1 j;have f:(⟨s.toArray⟩:ByteArray).size=s.length:=by rfl
  rw[getElem?_pos _ _ (by exact d)];show AC (s.toArray[n.toNat]'(by omega))=AC c;simp[h]
 refine⟨_,?_,rfl⟩
 simp_all[execOp,Instr.index,asIntOf]
theorem Jm{c:Call}{x:Operand}{s:AA UInt8}(g:o.op=.call c)(h:c={callee:=.builtin .len,args:= #[x],argTypes:= #[t]})(e:∀w,(underlying t).run P w=.ok .string w)
  (d:Bu env x=.str s):Bz P o env H (.int .i64 s.length):=by
 intro j i σ N a w r;have f:=e7 r d;generalize a.eval=ρ at*;subst h;simp[execOp,g,f,resolve,invoke,Builtin.len_,e,goInt,go_sem]<;>rfl
theorem wd{c:Call}{e:TypeId}{x:Operand}(j:o.op=.call c)(i:c={callee:=.builtin .len,args:= #[x],argTypes:= #[t]})(f:∀w,(underlying t).run P w=.ok (.slice e) w)
  (g:Bu env x=.rsl k es):Bz P o env H (.int .i64 es.length):=by
 intro m l σ N a w r;have d:=Qn r x;rw[g]at d;obtain⟨n,h,d,_⟩:=d;refine⟨_,?_,rfl⟩;generalize a.eval=ρ at*;subst i;simp[execOp,j,d,resolve,invoke,Builtin.len_,f,goInt,go_sem]
theorem rR{c:Call}{e:TypeId}{x:Operand}{i s n:Nat}(l:o.op=.call c)(j:c={callee:=.builtin .len,args:= #[x],argTypes:= #[t]})(f:∀w,(underlying t).run P w=.ok (.slice e) w)
  (g:Bu env x=.osl i s n k):Bz P o env H (.int .i64 n):=by
 intro u q σ N a w r;have d:=Qn r x;rw[g]at d;refine⟨_,?_,rfl⟩;generalize a.eval=ρ at*;subst j;rcases d with⟨rfl,d⟩|⟨b,p,h,y,m,_,d,_⟩<;>
 simp[execOp,l,d,resolve,invoke,Builtin.len_,f,goInt,go_sem]
structure QT (P:AK) (T f off n:Nat):Prop where
 h:∃fs fd,(∀w,(underlying T).run P w=.ok (.struct fs) w)/\fs[f]?=AC fd/\fd.offset=off/\(∀w,(sizeOf fd.type).run P w=.ok n w)/\n≠0
theorem Jz(b a n:Nat):(⟨b,a,AF⟩:Addr).add n=⟨b,a+n,AF⟩:=by
 simp_all[Addr.add]
theorem tc{f n b p:Nat}(a:QT P T f off n)(w:AJ):(Instr.fieldAt T (.pointer (AC ⟨b,p,AF⟩)) f).run P w=.ok (.pointer (AC ⟨b,p+off,AF⟩)) w:=by
 obtain⟨e,i,k,j,rfl,d,g⟩:=a.h
 simp_all[Instr.fieldAt,Instr.sureAddr,fieldPlace,Jz]
theorem m3{f n i p:Nat}{x:Operand}(j:QT P T f off n)(h:o.op=.fieldAddr T x f)(e:Bu env x=.ptr i p):Bz P o env H (.ptr i (p+off)):=by
 intro l k σ N a w r;have d:=Qn r x;rw[e]at d;obtain⟨b,d,g⟩:=d;refine⟨.pointer (AC ⟨b,p+off,AF⟩),?_,b,d,rfl⟩;simp only[execOp,h,g,Vn,tc j];rfl
theorem CR.drop{ro:Nat->Prop}{σ:CD}{w:AJ}{b:Nat}:∀(n:Nat) {cs:AA A} {off:Nat},CR ro σ w b cs off->CR ro σ w b (cs.drop n) (off+n)
 |0,_,_,h=>h
 |n+1,[],_,h=>trivial
 |n+1,c::cs,off,h=>by
  have:=CR.drop n h.2
  grind
theorem CR.take{ro:Nat->Prop}{σ:CD}{w:AJ}{b:Nat}:∀(n:Nat) {cs:AA A} {off:Nat},CR ro σ w b cs off->CR ro σ w b (cs.take n) off
 |0,_,_,h=>trivial
 |n+1,[],_,h=>trivial
 |n+1,c::cs,off,h=>⟨h.1,CR.take n h.2⟩
theorem tB{f n:Nat}{x:Operand}{h d:AA A}(i:QT P T f off n)(m:o.op=.fieldAddr T x f)(k:Bu env x=.rp h)(g:h.drop off=d):Bz P o env H (.rp d):=by
 intro s q σ N a w r;have e:=Qn r x;rw[k]at e;obtain⟨b,p,e,l,j⟩:=e;refine⟨.pointer (AC ⟨b,p+off,AF⟩),?_,b,p+off,rfl,l,g▸j.drop off⟩;simp only[execOp,m,e,Vn,tc i];rfl
theorem RR.get{ro:Nat->Prop}{σ:CD}{w:AJ}{b k:Nat}:∀(n:Nat) {es:AA (AA A)} {off:Nat} {c:AA A},RR ro σ w b k es off->es[n]?=AC c->c.length=k/\CR ro σ w b c (off+n*k)
 |n,[],_,_,h,hc=>by simp at hc
 |0,e::es,off,c,h,hc=>by
  simp at hc;subst hc;exact⟨h.1,by simpa using h.2.1⟩
 |n+1,e::es,off,c,h,hc=>by
  have:=RR.get n h.2.2 (by simpa using hc)
  grind
theorem wD{e:TypeId}{x y:Operand}{F:IntKind}{n:Int}{c:AA A}(G:o.op=.indexAddr t x y)(j:∀w,(underlying t).run P w=.ok (.slice e) w)
  (u:∀w,(sizeOf e).run P w=.ok k w)(l:Bu env x=.rsl k es)(s:Bu env y=.int F n)(z:0<=n)(p:es[n.toNat]?=AC c):Bz P o env H (.rp c):=by
 intro J M σ N a w r;have f:=Qn r x;rw[l]at f;have m:=QC r s;obtain⟨L,B,f,O,i⟩:=f;have g:n.toNat<es.length:=(by grind);rcases i with rfl|⟨b,d,rfl,E,q⟩
 .simp at g
 have h:n<es.length:=by omega
 refine⟨.pointer (AC ⟨b,d+n.toNat*k,AF⟩),?_,b,d+n.toNat*k,rfl,E,(q.get n.toNat p).2⟩;generalize a.eval=ρ at*;simp[G,f,m,Instr.indexAt,j,u,z,h,go_sem]
theorem ly{e:TypeId}{x y:Operand}{i s:Nat}{F:IntKind}{n:Int}(G:o.op=.indexAddr t x y)(h:∀w,(underlying t).run P w=.ok (.slice e) w)
  (g:∀w,(sizeOf e).run P w=.ok k w)(u:Bu env x=.osl i s m k)(f:Bu env y=.int F n)(l:0<=n)(E:n<m):Bz P o env H (.ptr i (s*k+n.toNat*k)):=by
 intro L J σ N a w r;have d:=Qn r x;rw[u]at d;have B:=QC r f;rcases d with⟨rfl,_⟩|⟨b,p,z,Q,M,q,d,j,O,_⟩
 .omega
 obtain rfl:=j (by omega);refine⟨.pointer (AC ⟨b,s*k+n.toNat*k,AF⟩),?_,b,q,rfl⟩;generalize a.eval=ρ at*;simp[G,d,B,Instr.indexAt,h,g,l,E,go_sem]
def DP(H:Qc)(p:A)(cs:AA A):Prop:=
 ∀fr ro σ w v,B9 fr ro σ H w->VR ro σ w p v->∃b off,v=.pointer (AC ⟨b,off,AF⟩)/\CR ro σ w b cs off
theorem VR.lift{a:A}{v:AL}(h:VR ro [] w a v):VR ro σ w a v:=
 h.mono ⟨λ_ q=>q,λ_ _=>rfl,λ_ _ q=>q,(by simp)⟩
theorem CR.lift{ro:Nat->Prop}{σ:CD}{w:AJ}{b:Nat}:∀{cs:AA A} {off:Nat},CR ro [] w b cs off->CR ro σ w b cs off
 |[],_,_=>trivial
 |c::cs,off,⟨⟨v,h1,hp,h2⟩,h3⟩=>⟨⟨v,h1,hp,h2.lift⟩,CR.lift h3⟩
theorem DP.rp{cs:AA A}:DP H (.rp cs) cs:=λfr ro σ w v s ⟨b,off,h1,h2,h3⟩=>⟨b,off,h1,h3.lift⟩
theorem LR.cells{ro:Nat->Prop}{σ:CD}{w:AJ}{b t:Nat}{fz:Nat×Nat}{pre l:AA AL}(e:w.heap[b]?=AC (.cells (pre++l).toArray t fz))(d:∀v∈l,QB v):
  ∀{a:AA A},LR ro σ w a l->CR ro σ w b a pre.length:=by
 induction l generalizing pre with
 |nil=>
  intro a h;cases a with
  |nil=>trivial
  |cons c a=>obtain⟨v,f,h,_⟩:=h;cases h
 |cons v l i=>
  intro a h;cases a with
  |nil=>trivial
  |cons c a=>
   obtain⟨n,f,m,k,g⟩:=h;cases m;refine⟨⟨v,by simp[World.cell?,e],d v (by simp),k⟩,?_⟩;have:=i (pre:=pre++[v]) (by simpa using e) (λx j=>d x (by simp[j])) g
   grind
theorem DP.cells{i a t:Nat}{e d:AA A}(hH:H[i]?=AC (.cells t e))(k:e.drop a=d):DP H (.ptr i a) d:=by
 intro p n σ w v s h;obtain⟨b,m,q⟩:=h;obtain⟨l,g,j,f⟩:=s.blk i _ _ m hH;have:=LR.cells (pre:=[]) (by simpa using g) f j;have:=this.drop a
 grind
theorem LR.get{ro:Nat->Prop}{σ:CD}{w:AJ}:∀{az:AA A} {l:AA AL} (i:Nat) {a:A},LR ro σ w az l->az[i]?=AC a->∃v,l[i]?=AC v/\VR ro σ w a v
 |[],l,i,a,h,ha=>by simp at ha
 |x::az,l,0,a,⟨v,l',h1,h2,h3⟩,ha=>by
  grind
 |x::az,l,i+1,a,⟨v,l',h1,h2,h3⟩,ha=>by
  obtain⟨v',q1,q2⟩:=LR.get i h3 (by simpa using ha)
  grind
theorem LR.drop{ro:Nat->Prop}{σ:CD}{w:AJ}:∀(n:Nat) {az:AA A} {l:AA AL},LR ro σ w az l->LR ro σ w (az.drop n) (l.drop n)
 |0,az,l,h=>h
 |n+1,[],l,h=>by cases(show l=[]from h);rfl
 |n+1,a::az,l,⟨v,l',h1,h2,h3⟩=>by subst h1;exact LR.drop n h3
theorem LR.take{ro:Nat->Prop}{σ:CD}{w:AJ}:∀(n:Nat) {az:AA A} {l:AA AL},LR ro σ w az l->LR ro σ w (az.take n) (l.take n)
 |0,az,l,h=>rfl
 |n+1,[],l,h=>by cases(show l=[]from h);rfl
 |n+1,a::az,l,⟨v,l',h1,h2,h3⟩=>by subst h1;exact⟨v,l'.take n,rfl,h2,LR.take n h3⟩
theorem LR.append{ro:Nat->Prop}{σ:CD}{w:AJ}:∀{az:AA A} {l:AA AL} {bs:AA A} {m:AA AL},LR ro σ w az l->LR ro σ w bs m->LR ro σ w (az++bs) (l++m)
 |[],l,bs,m,h,k=>by cases(show l=[]from h);exact k
 |a::az,l,bs,m,⟨v,l',h1,h2,h3⟩,k=>by subst h1;exact⟨v,l'++m,rfl,h2,LR.append h3 k⟩
theorem ph{ro:Nat->Prop}{σ:CD}{w:AJ}{b t:Nat}{fz:Nat×Nat}:∀{cs:AA A} {pre l post:AA AL},w.heap[b]?=AC (.cells (pre++(l++post)).toArray t fz)->(∀v∈l,QB v)->
  LR ro σ w cs l->CR ro σ w b cs pre.length
 |[],_,_,_,_,_,_=>trivial
 |c::cs,pre,l,post,hb,hpl,⟨v,l',h1,h2,h3⟩=>by
  subst h1;refine⟨⟨v,by simp[World.cell?,hb],hpl v (by simp),h2⟩,?_⟩;have:=ph (pre:=pre++[v]) (by simpa using hb) (by grind) h3
  grind
theorem YD{ro:Nat->Prop}{σ:CD}{w:AJ}{b t k:Nat}{fz:Nat×Nat}:∀{es:AA (AA A)} {pre l:AA AL},w.heap[b]?=AC (.cells (pre++l).toArray t fz)->
  RL ro σ w k es l->RR ro σ w b k es pre.length
 |[],_,_,_,_=>trivial
 |c::es,pre,l,hb,⟨l1,l2,h1,h2,h3,h4⟩=>by
  subst h1;refine⟨h2,ph hb h3.2 h3.1,?_⟩;have hl:=h3.1.length;have:=YD (pre:=pre++l1) (by simpa using hb) h4
  grind
theorem DP.row{i a t k e f:Nat}{es:AA (AA A)}{c d:AA A}(hH:H[i]?=AC (.row t k es))(q:a=e*k+f)(he:es[e]?=AC c)(g:c.drop f=d):DP H (.ptr i a) d:=by
 intro u r σ w v s h;obtain⟨b,p,n⟩:=h;obtain⟨l,j,m⟩:=s.blk i _ _ p hH;have:=((YD (pre:=[]) (by simpa using j) m).get e he).2.drop f;refine⟨b,a,n,?_⟩;subst q g;simpa using this.lift
theorem DP.rowr{i a t k e f:Nat}{es:AA (AA A)}{c d:AA A}(hH:H[i]?=AC (.rowr t k es))(u:a=e*k+f)(he:es[e]?=AC c)(m:c.drop f=d):DP H (.ptr i a) d:=by
 intro q p σ w v s h;obtain⟨b,n,r⟩:=h;obtain⟨l,g,j⟩:=s.blk i _ _ n hH;have:=((YD (pre:=[]) (by simpa using g) j).get e he).2.drop f
 grind
theorem zh(h:w'.heap=w.heap)(a:Addr):w'.cell? a=w.cell? a:=by unfold World.cell?;rw[h]
theorem Yv{ro:Nat->Prop}{σ:CD}{w:AJ}{b d:Nat}:∀{e:AA A} (i:Nat),CR ro σ w b e (d+i)->
  ∃l,LR ro σ w e l/\(∀v∈l,QB v)/\ ∀(w':AJ) (a:Array AL),w'.heap=w.heap->(loadCellsFrom ⟨b,d,AF⟩ i e.length a).run P w'=.ok (a++l.toArray) w'
 |[],i,h=>⟨[],rfl,by simp,λw' a _=>by rfl⟩
 |c::e,i,⟨⟨v,h1,hp,h2⟩,h3⟩=>by
  obtain⟨l,q1,qp,q2⟩:=Yv (i+1) (by omega);refine⟨v::l,⟨v,l,rfl,h2,q1⟩,by grind,λw' a hw=>?_⟩;have h1':w'.cell? ⟨b,d+i,AF⟩=AC v:=by rw[zh hw];exact h1
  simp_all[loadCellsFrom,Jz]
theorem QI{t n:Nat}{x:Operand}{p:A}{e:AA A}(E:o.op=.load t x)(s:∀w,(isAgg t).run P w=.ok AE w)(u:∀w,(sizeOf t).run P w=.ok n w)(q:Bu env x=p)(g:DP H p e)
  (h:e.take n=vs)(z:vs.length=n):Bz P o env H (.agg vs):=by
 intro i f σ N a w r;have d:=Qn r x;rw[q]at d;obtain⟨b,m,B,k⟩:=g i f σ w _ r.sim d;subst h;obtain⟨l,j,_,y⟩:=Yv (P:=P) 0 (by simpa using k.take n);refine⟨.agg l.toArray,?_,l,rfl,j⟩
 simp_all[execOp,Instr.loadAt,Instr.sureAddr,loadVar,loadCells]
theorem Bz.load{t:Nat}{x:Operand}{p v:A}{j:AA A}(q:o.op=.load t x)(k:∀w,(isAgg t).run P w=.ok AD w)(i:Bu env x=p)(f:DP H p (v::j)):Bz P o env H v:=by
 intro g e σ N a w r;have d:=Qn r x;rw[i]at d;obtain⟨b,h,n,⟨y,m,_,l⟩,_⟩:=f g e σ w _ r.sim d
 simp_all[execOp,Instr.loadAt,Instr.sureAddr,loadVar]
theorem Bz.extract{x:Operand}{vs:AA A}{i:Nat}{v:A}(n:o.op=.extract x i)(e:Bu env x=.tup vs)(g:vs[i]?=AC v):Bz P o env H v:=by
 intro k h σ N a w r;have d:=Qn r x;rw[e]at d;obtain⟨l,d,f⟩:=d;obtain⟨y,m,j⟩:=f.get i g
 simp_all[execOp,Instr.extract]
theorem Bz.field{T f off n:Nat}{x:Operand}{e:AA A}{v:A}(i:QT P T f off n)(g:∀fs fd,(∀w,(underlying T).run P w=.ok (.struct fs) w)->fs[f]?=AC fd->∀w,(isAgg fd.type).run P w=.ok AD w)
  (E:o.op=.field T x f)(j:Bu env x=.agg e)(m:e[off]?=AC v):Bz P o env H v:=by
 intro t p σ N a w r;have d:=Qn r x;rw[j]at d;obtain⟨l,d,k⟩:=d;obtain⟨y,z,s⟩:=k.get off m;obtain⟨fs,fd,u,F,rfl,q,B⟩:=i.h
 simp_all[execOp,Instr.field,asAgg,part]
theorem UP{fr ro:Nat->Prop}{σ:CD}{N:Nat}{a:Act}{w:AJ}(r:C0 fr ro σ H env N a w):∀(l:AA Operand),LR ro σ w (l.map (Bu env)) (l.map a.eval)
 |[]=>rfl
 |x::l=>⟨_,_,rfl,Qn r x,UP r l⟩
theorem Bz.makeFunc{f:Fn}{first cap:AA Operand}{d e:AA A}(k:o.op=.makeFunc f first.toArray cap.toArray)(h:first.map (Bu env)=d)(g:cap.map (Bu env)=e):Bz P o env H (.fn f d e):=by
 intro j i σ N a w r;refine⟨.func f (first.map a.eval).toArray (cap.map a.eval).toArray,?_,_,_,rfl,h▸UP r first,g▸UP r cap⟩
 simp_all[execOp,Instr.makeFunc]
theorem aY{x:Operand}{v:A}{d:TypeDesc}(j:o.op=.makeInterface t x)(h:∀w,(underlying t).run P w=.ok d w)(k:∀m,d≠ .interface m)(f:Bu env x=v):Bz P o env H (.iface t v):=by
 intro i g σ N a w r;have e:=Qn r x;rw[f]at e;refine⟨.iface t (a.eval x),?_,_,rfl,e⟩
 simp_all[execOp,Instr.makeInterface]
end
mutual
def YH:A->Bool
 |.ptr _ _=>AD
 |.osl _ _ _ _=>AD
 |.map _=>AD
 |.agg cs=>YO cs
 |.fn _ a c=>YO a&&YO c
 |.iface _ v=>YH v
 |.tup vs=>YO vs
 |_=>AE
def YO:AA A->Bool
 |[]=>AE
 |a::r=>YH a&&YO r
end
mutual
theorem VR.data{ro:Nat->Prop}{σ σ':CD}{w:AJ}:∀{a:A} {v:AL},YH a=AE->VR ro σ w a v->VR ro σ' w a v
 |.any,_,_,_=>trivial
 |.bool b,v,_,q=>q
 |.int k n,v,_,q=>q
 |.str s,v,_,q=>q
 |.nilp,v,_,q=>q
 |.ptr i off,v,d,q=>by simp[YH]at d
 |.rp cs,v,_,q=>q
 |.nils,v,_,q=>q
 |.rsl k es,v,_,q=>q
 |.osl i o n k,v,d,q=>by simp[YH]at d
 |.agg cs,v,d,q=>by
  simp only[VR,YH]at q d⊢;obtain⟨l,h1,h2⟩:=q;exact⟨l,h1,LR.data d h2⟩
 |.fn f a c,v,d,q=>by
  simp only[VR,YH,XX]at q d⊢;obtain⟨l,l',h1,h2,h3⟩:=q;exact⟨l,l',h1,LR.data d.1 h2,LR.data d.2 h3⟩
 |.nilf,v,_,q=>q
 |.iface t a,v,d,q=>by
  simp only[VR,YH]at q d⊢;obtain⟨x,h1,h2⟩:=q;exact⟨x,h1,VR.data d h2⟩
 |.nilif,v,_,q=>q
 |.map i,v,d,q=>by simp[YH]at d
 |.nilm,v,_,q=>q
 |.tup vs,v,d,q=>by
  simp only[VR,YH]at q d⊢;obtain⟨l,h1,h2⟩:=q;exact⟨l,h1,LR.data d h2⟩
theorem LR.data{ro:Nat->Prop}{σ σ':CD}{w:AJ}:∀{az:AA A} {l:AA AL},YO az=AE->LR ro σ w az l->LR ro σ' w az l
 |[],_,_,q=>q
 |a::r,l,d,q=>by
  simp only[LR,YO,XX]at q d⊢;obtain⟨v,l',h1,h2,h3⟩:=q;exact⟨v,l',h1,VR.data d.1 h2,LR.data d.2 h3⟩
end
def Yr:A->Bool
 |.any|.agg _|.tup _=>AD
 |_=>AE
def Yf:A->AA A
 |.agg cs=>cs
 |a=>[a]
def Yo:A->Bool
 |.any=>AD
 |_=>AE
theorem VR.plain{a:A}{v:AL}(d:Yr a=AE)(h:VR ro σ w a v):QB v:=by
 cases a<;>first|(simp[Yr]at d)|skip
 case rsl k es=>obtain⟨e,c,rfl,_⟩:=h;trivial
 case osl=>rcases h with⟨_,rfl⟩|⟨_,_,_,_,_,_,rfl,_⟩<;>trivial
 case fn=>obtain⟨_,_,rfl,_⟩:=h;trivial
 case iface=>obtain⟨_,rfl,_⟩:=h;trivial
 case ptr=>obtain⟨_,_,rfl⟩:=h;trivial
 case rp=>obtain⟨_,_,rfl,_⟩:=h;trivial
 case map=>obtain⟨_,_,rfl⟩:=h;trivial
 all_goals (subst h;trivial)
theorem VR.cells{ro:Nat->Prop}{σ:CD}{w:AJ}{a:A}{v:AL}(d:Yo a=AE)(h:VR ro σ w a v):∃l:AA AL,v.cells=l.toArray/\LR ro σ w (Yf a) l:=by
 cases a
 case any=>simp[Yo]at d
 case agg cs=>obtain⟨l,rfl,h⟩:=h;exact⟨l,rfl,h⟩
 case tup cs=>obtain⟨l,rfl,h⟩:=h;exact⟨[.tuple l.toArray],rfl,_,_,rfl,⟨l,rfl,h⟩,rfl⟩
 all_goals
  have e:=h.plain rfl;refine⟨[v],?_,v,[],rfl,h,rfl⟩;cases v<;>first|rfl|exact e.elim
theorem LR.plain{ro:Nat->Prop}{σ:CD}{w:AJ}:∀{az:AA A} {l:AA AL},az.all Yr=AE->LR ro σ w az l->∀v∈l,QB v
 |[],l,_,h=>by cases(show l=[]from h);simp
 |a::az,l,hp,⟨v,l',h1,h2,h3⟩=>by
  subst h1;simp only[List.all_cons,XX]at hp;intro x hx;rcases X7.1 hx with rfl|hx
  .exact h2.plain hp.1
  .exact LR.plain hp.2 h3 x hx
theorem YF(w:AJ)(obj:Obj)(b:Nat)(a:b<w.heap.size):(w.alloc obj).heap[b]?=w.heap[b]? :=by
 show(w.heap.push obj)[b]?=_
 grind
theorem Q9(w:AJ)(obj:Obj):(w.alloc obj).heap[w.heap.size]?=AC obj:=by
 show(w.heap.push obj)[w.heap.size]?=_;simp
theorem Jl(w:AJ)(obj:Obj):(w.alloc obj).heap.size=w.heap.size+1:=by
 simp
theorem yY{b:Nat}{x:TypeId×Nat}(h:w.shape? b=AC x):b<w.heap.size:=by
 grind[World.shape?]
theorem Qm.alloc{fr ro:Nat->Prop}{w:AJ}(obj:Obj)(hro:∀b,ro b->b<w.heap.size)(hfr:∀b,fr b->b<w.heap.size):Qm fr ro w ro (w.alloc obj):=
 ⟨λ_ h=>h,λb h=>YF w obj b (hro b h),λb h=>YF w obj b (hfr b h),by simp,
  λb x h=>by grind[World.shape?,YF],rfl,rfl,rfl,XU _⟩
variable {rest:AA AL}{α:Type}
section
variable {P:AK} {o:AM} {env:Env} {H:Qc} {fr ro:Nat->Prop} {σ:CD} {w:AJ}
theorem B9.alloc(s:B9 fr ro σ H w){obj:Obj}{x:B8}(G:BR ro (σ++[AC w.heap.size]) (w.alloc obj) x (AC w.heap.size))
  (u:∀c,De (w.alloc obj) x w.heap.size c->False:=by exact λ_ h=>h.elim):
  B9 fr ro (σ++[AC w.heap.size]) (H++[x]) (w.alloc obj):=by
 have ev:Qm fr ro w ro (w.alloc obj):=Qm.alloc obj s.roLt s.frLt;have n:=s.len;have e:∀(i:Nat) (y:AB Nat),(σ++[AC w.heap.size])[i]?=AC y->(i<σ.length/\σ[i]?=AC y)\/(i=σ.length/\y=AC w.heap.size):=by
  grind
 have k:∀i:Nat,i<σ.length->(H++[x])[i]?=H[i]? :=λi L=>XN (by omega);have F:(H++[x])[σ.length]?=AC x:=by rw[n];simp
 refine⟨by simp[n],s.roOk.to (λ_ q=>q) ev.keepRo (λb h=>?_),λb h=>?_,s.roFr,?_,?_,?_,?_⟩
 .rw[Jl];have:=s.roLt b h;omega
 .rw[Jl];have:=s.frLt b h;omega
 .intro i b y f g l;rw[Jl];rcases e i _ f with⟨q,f⟩|⟨rfl,m⟩
  .rw[k i q]at g;obtain⟨a,b,c⟩:=s.own i b y f g l
   grind
  .cases m;exact⟨by omega,λq=>by have:=s.roLt _ q;omega,λq=>by have:=s.frLt _ q;omega⟩
 .intro i j b y z f g l t B E;rcases e i _ f with⟨q,f⟩|⟨rfl,m⟩<;>rcases e j _ g with⟨q',g⟩|⟨rfl,e2⟩
  .rw[k i q]at l;rw[k j q']at t;exact s.inj i j b y z f g l t B E
  .cases e2;rw[k i q]at l;have:=(s.own i _ y f l B).1;omega
  .cases m;rw[k j q']at t;have:=(s.own j _ z g t E).1;omega
  .rfl
 .intro i y z f g;rcases e i _ f with⟨q,f⟩|⟨rfl,m⟩
  .rw[k i q]at g;refine(s.blk i y z f g).keep (ev.ext σ _) ?_ ?_
   .rintro b rfl n;exact YF w obj b (s.own i b z f g n).1
   .rintro b c rfl n;exact YF w obj c (s.hid i b z c f g n).lt
  grind
 .refine s.hidTo (· = ·) Yl (by rw[Jl];omega) (λ_ _ _ _ _ _ _ q=>q) (λ_ _ _ _ _ _ _ q=>q) λj d y r p J=>?_;rcases e j _ r with⟨q,r⟩|⟨rfl,m⟩
  .rw[k j q]at p;exact .inl ⟨j,y,rfl,r,p,id,λc q=>s.hidKeep r p (λz=>YF w obj d (s.own j d y r p z).1) ev.keepRo q⟩
  .rw[F]at p;cases p;cases m;exact .inr ⟨XU _,u⟩
theorem B9.allocCells(s:B9 fr ro σ H w){t:Nat}{cs:AA A}{l:AA AL}(h:LR ro σ w cs l)(hp:∀v∈l,QB v):
  B9 fr ro (σ++[AC w.heap.size]) (H++[.cells t cs]) (w.alloc (.cells l.toArray t)):=
 s.alloc ⟨l,Q9 _ _,h.mono ((Qm.alloc _ s.roLt s.frLt).ext σ _),hp⟩
theorem rN{ro:Nat->Prop}{σ:CD}{w:AJ}:∀{az bs:AA A} {l:AA AL},LR ro σ w (az++bs) l->∃l1 l2,l=l1++l2/\LR ro σ w az l1/\LR ro σ w bs l2
 |[],bs,l,h=>⟨[],l,rfl,rfl,h⟩
 |a::az,bs,l,⟨v,l',h1,h2,h3⟩=>by
  obtain⟨l1,l2,e,q1,q2⟩:=rN h3;subst h1 e;exact⟨v::l1,l2,rfl,⟨v,l1,rfl,h2,q1⟩,q2⟩
def allK(k:Nat):AA (AA A)->Prop
 |[]=>True
 |c::es=>c.length=k/\allK k es
theorem Y9{k:Nat}:∀{es:AA (AA A)} {l rest:AA AL},allK k es->LR ro σ w es.flatten l->(∀v∈l,QB v)->RL ro σ w k es (l++rest)
 |[],_,_,_,_,_=>trivial
 |c::es,l,rest,⟨h1,h2⟩,h,hp=>by
  obtain⟨l1,l2,rfl,q1,q2⟩:=rN h;exact⟨l1,l2++rest,by simp,h1,(by grind),Y9 h2 q2 (by grind)⟩
theorem B9.allocRow(s:B9 fr ro σ H w){t:Nat}{l:AA AL}(hk:allK k es)(h:LR ro [] w es.flatten l)(hp:∀v∈l,QB v):
  B9 fr ro (σ++[AC w.heap.size]) (H++[.row t k es]) (w.alloc (.cells (l++rest).toArray t)):=
 s.alloc ⟨l++rest,Q9 _ _,(Y9 hk h hp).mono ((Qm.alloc _ s.roLt s.frLt).ext0 [])⟩
theorem B9.allocRowr(s:B9 fr ro σ H w){t:Nat}{l:AA AL}(hk:allK k es)(h:LR ro σ w es.flatten l)(hp:∀v∈l,QB v):
  B9 fr ro (σ++[AC w.heap.size]) (H++[.rowr t k es]) (w.alloc (.cells (l++rest).toArray t)):=
 s.alloc ⟨l++rest,Q9 _ _,(Y9 hk h hp).mono ((Qm.alloc _ s.roLt s.frLt).ext σ _)⟩
theorem Do.box{t:Nat}{x:Operand}{v:A}{g:AA A}(q:o.op=.box t x)(m:Bu env x=v)(k:Yo v=AE)(f:Yf v=g)(d:g.all Yr=AE):
  Do P o env H (.ptr H.length 0) (H++[.cells t g]):=by
 intro p j σ N a w r;have i:=Qn r x;rw[m]at i;obtain⟨l,n,h⟩:=i.cells k;subst f;refine⟨.pointer (AC ⟨w.heap.size,0,AF⟩),w.alloc (.cells l.toArray t),j,[AC w.heap.size],?_,⟨w.heap.size,?_,rfl⟩,r.sim.allocCells h (h.plain d),Qm.alloc _ r.sim.roLt r.sim.frLt⟩
 .generalize a.eval=ρ at*;have e:(newVar t (ρ x)).run P w=.ok ⟨w.heap.size,0,AF⟩ (w.alloc (.cells l.toArray t)):=by
   unfold newVar;rw[n];rfl
  simp_all[execOp,Instr.box]
 .rw[<- r.sim.len];simp
theorem B9.set(s:B9 fr ro σ H w){i b:Nat}{x x':B8}{obj:Obj}(hσ:σ[i]?=AC (AC b))(hH:H[i]?=AC x)(p:x.live=AE)
  (R:∀y,w.shape? b=AC y->({w with heap:=w.heap.setIfInBounds b obj}:AJ).shape? b=AC y)
  (G:Cx ro σ w ro σ {w with heap:=w.heap.setIfInBounds b obj}->({w with heap:=w.heap.setIfInBounds b obj}:AJ).heap[b]?=AC obj->BR ro σ {w with heap:=w.heap.setIfInBounds b obj} x' (AC b))
  (P:∀c,De {w with heap:=w.heap.setIfInBounds b obj} x' b c->De w x b c:=by exact λ_ h=>h.elim):
  B9 fr ro σ (H.set i x') {w with heap:=w.heap.setIfInBounds b obj}/\Qm fr ro w ro {w with heap:=w.heap.setIfInBounds b obj}:=by
 obtain⟨W,J,L⟩:=s.own i b x hσ hH p;have l:∀c,c≠b->({w with heap:=w.heap.setIfInBounds b obj}:AJ).heap[c]?=w.heap[c]? :=by
  grind
 have F:({w with heap:=w.heap.setIfInBounds b obj}:AJ).heap[b]?=AC obj:=by
  grind
 have n:({w with heap:=w.heap.setIfInBounds b obj}:AJ).heap.size=w.heap.size:=by simp
 have ev:Qm fr ro w ro {w with heap:=w.heap.setIfInBounds b obj}:=
  ⟨λ_ h=>h,(by grind),(by grind),by omega,by
   grind[World.shape?],rfl,rfl,rfl,XU _⟩
 have X:i<H.length:=(by grind);have Q:(H.set i x')[i]?=AC x':=(by grind);have a:∀j,j≠i->(H.set i x')[j]?=H[j]? :=(by grind);have M:=G (ev.ext0 σ) F;refine⟨⟨by rw[X5];exact s.len,s.roOk.to (λ_ q=>q) ev.keepRo (λc h=>by rw[n];exact s.roLt c h),λc h=>by rw[n];exact s.frLt c h,s.roFr,?_,?_,?_,?_⟩,ev⟩
 .intro j c y g f t;rw[n];by_cases q:j=i
  .grind
  .rw[a j q]at f;exact s.own j c y g f t
 .intro j m c y z g f t u O N;by_cases q:j=i
  .subst q;rw[hσ]at g;cases g;by_cases r:m=j
   .exact r.symm
   .rw[a m r]at u;exact s.inj j m _ x z hσ f hH u p N
  .rw[a j q]at t;by_cases r:m=i
   .subst r;rw[hσ]at f;cases f;exact s.inj j m _ y x g hσ t hH O p
   .rw[a m r]at u;exact s.inj j m c y z g f t u O N
 .intro j y z g f;by_cases q:j=i
  .grind
  .rw[a j q]at f;refine(s.blk j y z g f).keep (ev.ext0 σ) ?_ ?_
   .rintro c rfl k;exact l c (λe=>q (s.inj j i b z x (e▸g) hσ f hH k p))
   .rintro c d rfl T;exact l d ((s.hid j c z d g f T).ne i b x hσ hH p)
 .refine s.hidTo (· = ·) Yl (by omega) (λ_ _ _ _ _ _ _ q=>q) (λ_ _ _ _ _ _ _ q=>q) λj d y E B V=>.inl ?_;by_cases q:j=i
  .grind
  .rw[a j q]at B;exact⟨j,y,rfl,E,B,id,λc z=>s.hidKeep E B (λk=>l d (λe=>q (s.inj j i b y x (e▸E) hσ B hH k p))) ev.keepRo z⟩
def splice(l:AA α)(o:Nat)(vs:AA α):AA α:=l.take o++vs++l.drop (o+vs.length)
theorem Ya{α:Type}{l:AA α}{o:Nat}{vs:AA α}(h:o+vs.length<=l.length):(splice l o vs).length=l.length:=by
 simp[splice];omega
theorem m_{h:Array Obj}{b:Nat}{f:Obj->Obj}{x:Obj}(a:h[b]?=AC x):h.modify b f=h.setIfInBounds b (f x):=by
 grind
theorem Yb{b t:Nat}:∀{vs l:AA AL} {w:AJ} (a i:Nat),w.heap[b]?=AC (.cells l.toArray t (0,0))->a+i+vs.length<=l.length->(∀v∈vs,QB v)->
  (storeCells ⟨b,a,AF⟩ vs i).run P w=.ok () {w with heap:=w.heap.setIfInBounds b (.cells (splice l (a+i) vs).toArray t (0,0))}
 |[],l,w,a,i,hb,hl,hp=>by
  have e:w.heap.setIfInBounds b (.cells (splice l (a+i) []).toArray t (0,0))=w.heap:=by
   apply Array.ext_getElem?;intro j;rw[Vf];by_cases q:b=j
   .subst q;obtain⟨d,n⟩:=Vd.1 hb;simp[d,splice,n]
   grind
  rw[e];rfl
 |v::vs,l,w,a,i,hb,hl,hp=>by
  simp only[X2]at hl;have r:=hp v (by simp);have p:w.cell? ⟨b,a+i,AF⟩=AC l[a+i]:=by
   simp[World.cell?,hb]
  have g:w.frozen? ⟨b,a+i,AF⟩=false:=by
   simp[World.frozen?,hb]
  have f:w.setCell ⟨b,a+i,AF⟩ v={w with heap:=w.heap.setIfInBounds b (.cells (splice l (a+i) [v]).toArray t (0,0))}:=by
   unfold World.setCell;rw[m_ hb];simp only[Option.isSome_none,Xi,if_false];congr 3;have:l.toArray.setIfInBounds (a+i) v=(l.set (a+i) v).toArray:=by simp
   rw[this];congr 1;rw[List.set_eq_take_append_cons_drop,Vu (by omega)];simp[splice]
  have d:b<w.heap.size:=by
   grind
  have m:=Yb (vs:=vs) (l:=splice l (a+i) [v]) (w:={w with heap:=w.heap.setIfInBounds b (.cells (splice l (a+i) [v]).toArray t (0,0))}) a (i+1)
   (by show(w.heap.setIfInBounds b _)[b]?=_;rw[Vf,Vu rfl,Vu d])
   (by rw[Ya (by simp;omega)];omega) (by grind)
  have x:splice (splice l (a+i) [v]) (a+(i+1)) vs=splice l (a+i) (v::vs):=by
   have h:(l.take (a+i)).length=a+i:=by simp;omega
   unfold splice;rw[Vj (l.take (a+i))];have z:a+(i+1)=(l.take (a+i)).length+1:=by omega
   have u:(l.take (a+i)++([v]++l.drop (a+i+[v].length))).take ((l.take (a+i)).length+1)=l.take (a+i)++[v]:=by
    grind
   have y:(l.take (a+i)++([v]++l.drop (a+i+[v].length))).drop ((l.take (a+i)).length+1+vs.length)=l.drop (a+i+(v::vs).length):=by
    rw[show(l.take (a+i)).length+1+vs.length=(l.take (a+i)).length+(1+vs.length)from by omega,Vb];simp[Nat.add_comm 1];omega
   simp_all
  have k:(w.heap.setIfInBounds b (.cells (splice l (a+i) [v]).toArray t (0,0))).setIfInBounds b (.cells (splice (splice l (a+i) [v]) (a+(i+1)) vs).toArray t (0,0))=
    w.heap.setIfInBounds b (.cells (splice l (a+i) (v::vs)).toArray t (0,0)):=by
   grind
  rw[k]at m;have s:(Go.store ⟨b,a+i,AF⟩ v).run P w=.ok () {w with heap:=w.heap.setIfInBounds b (.cells (splice l (a+i) [v]).toArray t (0,0))}:=by
   rw[<- f];cases v<;>first|exact r.elim|simp[Go.store,Sem.run,p,g,go_sem]
  simp_all[storeCells,Jz]
theorem Jq{b t:Nat}{l l':AA AL}(d:w.heap[b]?=AC (.cells l.toArray t (0,0)))(e:l'.length=l.length)(y:TypeId×Nat)(h:w.shape? b=AC y):
  {w with heap:=w.heap.setIfInBounds b (.cells l'.toArray t (0,0))}.shape? b=AC y:=by
 have a:b<w.heap.size:=by
  grind
 simp_all[World.shape?]
theorem LR.splice{ro:Nat->Prop}{σ:CD}{w:AJ}{az vs:AA A}{l m:AA AL}(a:Nat)(h:LR ro σ w az l)(k:LR ro σ w vs m):LR ro σ w (Sw.splice az a vs) (Sw.splice l a m):=by
 unfold Sw.splice;rw[k.length];exact((h.take a).append k).append (h.drop _)
theorem tN{l m:AA AL}{a:Nat}(h:∀v∈l,QB v)(k:∀v∈m,QB v):∀v∈Sw.splice l a m,QB v:=by
 grind[Sw.splice]
theorem Hx.store{t n i off T:Nat}{x y:Operand}{j vs d:AA A}{v:A}(ho:o.op=.store t x y)(M:Bu env x=.ptr i off)(hH:H[i]?=AC (.cells T j))(hs:∀w,(sizeOf t).run P w=.ok n w)
  (q:Bu env y=v)(R:Yo v=AE)(O:Yf v=vs)(L:vs.length=n)(E:vs.all Yr=AE)(G:Nat.ble (off+n) j.length=AE)(p:splice j off vs=d):
  Hx P o env H (H.set i (.cells T d)):=by
 intro X Q σ N a w r;have f:=Qn r x;rw[M]at f;obtain⟨b,f,Y⟩:=f;have F:=Qn r y;rw[q]at F;obtain⟨m,W,h⟩:=F.cells R;rw[O]at h;obtain⟨l,u,k,J⟩:=r.sim.blk i _ _ f hH;have s:off+n<=j.length:=by simp_all
 have z:m.length=n:=by rw[h.length,L]
 have B:=Yb (P:=P) off 0 u (by rw[k.length,z];omega) (h.plain E);have g:=r.sim.set (x':=.cells T d) f hH rfl
  (λy q=>Jq u (Ya (by rw[k.length,z];omega)) y q)
  (λe V=>⟨_,V,p▸(k.splice off h).mono e,tN J (h.plain E)⟩)
 refine⟨_,Q,[],?_,by grind,g.2⟩
 simp_all[storeVar,execOp,Instr.storeAt,Instr.sureAddr]
theorem RL.splice{ro:Nat->Prop}{σ:CD}{w:AJ}{k:Nat}:∀{e:Nat} {es:AA (AA A)} {l m:AA AL} {c a:AA A} {f:Nat},RL ro σ w k es l->es[e]?=AC c->LR ro σ w a m->(∀v∈m,QB v)->f+a.length<=k->
  RL ro σ w k (es.set e (Sw.splice c f a)) (Sw.splice l (e*k+f) m)
 |_,[],_,_,_,_,_,_,h,_,_,_=>by simp at h
 |0,c0::es,l,m,c,a,f,⟨l1,l2,h1,h2,h3,h4⟩,hc,hm,hp,hf=>by
  simp at hc;subst hc h1;have hl1:=h3.1.length;refine⟨Sw.splice l1 f m,l2,?_,?_,⟨h3.1.splice f hm,tN h3.2 hp⟩,h4⟩
  .unfold Sw.splice;simp[Nat.zero_mul,Xx,Vj];rw[X8 (by omega),X9 (by rw[hm.length];omega)]
  .rw[Ya (by omega)];exact h2
 |e+1,c0::es,l,m,c,a,f,⟨l1,l2,h1,h2,h3,h4⟩,hc,hm,hp,hf=>by
  subst h1;have hl1:=h3.1.length;refine⟨l1,Sw.splice l2 (e*k+f) m,?_,h2,h3,RL.splice h4 (by grind) hm hp hf⟩;have e1:(e+1)*k+f=l1.length+(e*k+f):=by grind
  unfold Sw.splice;rw[e1,Vc,show l1.length+(e*k+f)+m.length=l1.length+(e*k+f+m.length)from by omega,Vb];simp
theorem RL.length{ro:Nat->Prop}{σ:CD}{w:AJ}{k:Nat}:∀{es:AA (AA A)} {l:AA AL},RL ro σ w k es l->es.length*k<=l.length
 |[],l,_=>by simp
 |c::es,l,⟨l1,l2,h1,h2,h3,h4⟩=>by
  have:=RL.length h4;have:=h3.1.length
  grind[Nat.succ_mul]
theorem QiI{t n i e f:Nat}{x y:Operand}{d:AA (AA A)}{c E:AA A}{v:A}(ho:o.op=.store t x y)(Q:Bu env x=.ptr i off)(hH:H[i]?=AC (.row T k es))(hs:∀w,(sizeOf t).run P w=.ok n w)
  (p:off=e*k+f)(V:es[e]?=AC c)(s:Bu env y=v)(hk:Yo v=AE)(W:Yf v=vs)(O:vs.length=n)(G:vs.all Yr=AE)(hd:YO vs=AE)(hf:Nat.ble (f+n) k=AE)
  (z:splice c f vs=E)(q:es.set e E=d):
  Hx P o env H (H.set i (.row T k d)):=by
 intro fr X σ N a w r;have g:=Qn r x;rw[Q]at g;obtain⟨b,g,h2⟩:=g;have M:=Qn r y;rw[s]at M;obtain⟨m,h4,j⟩:=M.cells hk;rw[W]at j;obtain⟨l,B,J⟩:=r.sim.blk i _ _ g hH;have R:f+n<=k:=by simp_all
 have hm:m.length=n:=by rw[j.length,O]
 have Y:e<es.length:=(by grind);have L:off+n<=l.length:=by
  have:=J.length;have h6:=XD k Y
  grind
 have F:=Yb (P:=P) off 0 B (by omega) (j.plain G);have h:=r.sim.set (x':=.row T k d) (obj:=.cells (splice l off m).toArray T (0,0)) g hH rfl
  (λy s=>Jq B (Ya (by omega)) y s)
  (λex u=>⟨_,u,by
   subst q z p;exact(J.splice V (j.data hd) (j.plain G) (by omega)).mono ex.nil⟩)
 refine⟨_,X,[],?_,by grind,h.2⟩
 simp_all[storeVar,execOp,Instr.storeAt,Instr.sureAddr]
end
variable {T' cap e':Nat}{ad ax:AB Addr}{fs:AA (AA A)}{new:AA AL}
section
variable {P:AK} {o:AM} {env:Env} {H:Qc} {fr ro:Nat->Prop} {σ:CD} {w:AJ}
theorem Cx.heap{w':AJ}(h:w'.heap=w.heap):Cx ro σ w ro σ w':=
 ⟨λ_ q=>q,λb _=>by rw[h],λb x q=>by unfold World.shape? at q⊢;grind,λ_ _ q=>q⟩
theorem B9.heap{w':AJ}(s:B9 fr ro σ H w)(h:w'.heap=w.heap):B9 fr ro σ H w':=
 ⟨s.len,s.roOk.to (λ_ q=>q) (λb _=>by rw[h]) (λb q=>by rw[h];exact s.roLt b q),λb q=>by rw[h];exact s.frLt b q,s.roFr,λi b x q1 q2 q3=>by rw[h];exact s.own i b x q1 q2 q3,s.inj,
  λi y x q1 q2=>(s.blk i y x q1 q2).keep (Cx.heap h) (by grind) (by grind),
  s.hidTo (· = ·) Yl (by grind) (by simp) (by simp) λj d y g1 g2 g3=>.inl ⟨j,y,rfl,g1,g2,id,λc q=>q.keep (by rw[h])⟩⟩
theorem Qm.heap{w':AJ}(h:w'.heap=w.heap)(ho:w'.os=w.os)(ht:w'.tape=w.tape)(hu:w'.output=w.output)(hd:w.drawn<=w'.drawn):Qm fr ro w ro w':=
 ⟨λ_ q=>q,λb _=>by rw[h],λb _=>by rw[h],by grind,λb x q=>by unfold World.shape? at q⊢;grind,ho,ht,hu,hd⟩
theorem B9.moved(s:B9 fr ro σ H w){i:Nat}{x:B8}{y:AB Nat}(hH:H[i]?=AC x)(hσ:σ[i]?=AC y):B9 fr ro (σ++[y]) (H.set i .dead++[x]) w:=by
 have O:=s.len;have Q:i<H.length:=(by grind);have a:∀(j:Nat) (z:AB Nat) (v:B8),(σ++[y])[j]?=AC z->(H.set i .dead++[x])[j]?=AC v->v≠ .dead->
   (j<σ.length/\j≠i/\σ[j]?=AC z/\H[j]?=AC v)\/(j=σ.length/\z=y/\v=x):=by
  grind
 have hσ':∀(j:Nat) (b:Nat),σ[j]?=AC (AC b)->(σ++[y])[j]?=AC (AC b):=(by grind);have ext:Cx ro σ w ro (σ++[y]) w:=⟨λ_ q=>q,λ_ _=>rfl,λ_ _ q=>q,hσ'⟩;refine⟨by simp[O],s.roOk,s.frLt,s.roFr,?_,?_,?_,s.hidTo (λj u=>(j<σ.length/\j≠i/\u=j)\/(j=σ.length/\u=i)) (by omega) (XU _) (by simp) (by simp) λj d y J N F=>.inl ?_⟩
 rotate_left 3
 .rcases a j _ y J N (eN F)with⟨E,B,e,f⟩|⟨E,l,rfl⟩
  .grind
  grind
 .intro j b v h g k;rcases a j _ v h g (KY k)with⟨_,_,e,f⟩|⟨_,l,rfl⟩
  .exact s.own j b v e f k
  .subst l;exact s.own i b v hσ hH k
 .intro j r b v m h g k L p n;rcases a j _ v h k (KY p)with⟨_,M,e,f⟩|⟨P,l,G⟩<;>rcases a r _ m g L (KY n)with⟨_,n1',q1',q2'⟩|⟨r1',e1',r2'⟩
  .exact s.inj j r b v m e q1' f q2' p n
  .subst e1' r2';exact(M (s.inj j i b v m e hσ f hH p n)).elim
  .subst l G;exact(n1' (s.inj r i b m v q1' hσ q2' hH n p)).elim
  omega
 .intro j z v h g;by_cases t:v≠ .dead
  .rcases a j z v h g t with⟨_,_,e,f⟩|⟨_,rfl,rfl⟩
   .exact(s.blk j z v e f).keep ext (λ_ _ _=>rfl) (λ_ _ _ _=>rfl)
   .exact(s.blk i _ _ hσ hH).keep ext (λ_ _ _=>rfl) (λ_ _ _ _=>rfl)
  .obtain rfl:v=.dead:=Classical.not_not.1 t;trivial
def HQ(P:AK)(H:Qc)(x:A)(k:Nat)(es:AA (AA A)):Prop:=
 ∀fr ro σ w v,B9 fr ro σ H w->VR ro σ w x v->(∃a c,v=.slice a es.length c)/\allK k es/\
  ∃l,(∀w':AJ,w'.heap=w.heap->(Builtin.firstCells k es.length v).run P w'=.ok l.toArray w')/\LR ro [] w es.flatten l/\ ∀v∈l,QB v
theorem RR.flat{b k:Nat}:∀{es:AA (AA A)} {a:Nat},RR ro σ w b k es a->CR ro σ w b es.flatten a/\allK k es/\es.flatten.length=es.length*k
 |[],a,_=>⟨trivial,trivial,by simp⟩
 |c::es,a,⟨h1,h2,h3⟩=>by
  obtain⟨q1,q2,q3⟩:=RR.flat h3;refine⟨?_,⟨h1,q2⟩,by grind⟩;have:∀(c:AA A) (a:Nat) (d:AA A),CR ro σ w b c a->CR ro σ w b d (a+c.length)->CR ro σ w b (c++d) a:=by
   intro c
   induction c with
   |nil=>simp
   |cons x c e=>intro a d ⟨h1,h2⟩ h;exact⟨h1,e (a+1) d h2 (by grind)⟩
  grind
theorem aO{b a n c:Nat}{d:AA A}(h:CR ro σ w b d a)(f:d.length=n*k):
  ∃l,(∀w',w'.heap=w.heap->(Builtin.firstCells k n (.slice (AC ⟨b,a,AF⟩) n c)).run P w'=.ok l.toArray w')/\LR ro σ w d l/\ ∀v∈l,QB v:=by
 obtain⟨l,g,i,e⟩:=Yv (P:=P) 0 (by simpa using h)
 grind[Builtin.firstCells,loadCells]
theorem YS{c:Nat}{a:AB Addr}:(Builtin.firstCells k 0 (.slice a 0 c)).run P w=.ok #[] w:=by
 cases a<;>simp[go_sem]
theorem HQ.rsl{k:Nat}{es:AA (AA A)}:HQ P H (.rsl k es) k es:=by
 intro l i σ w v s ⟨a,c,h1,h2,h3⟩;subst h1;refine⟨⟨a,c,rfl⟩,?_⟩;rcases h3 with rfl|⟨b,g,rfl,j,h⟩
 .exact⟨trivial,[],λ_ _=>YS,rfl,by simp⟩
 .obtain⟨e,f,d⟩:=h.flat;exact⟨f,aO e d⟩
theorem HQ.nils{k:Nat}:HQ P H .nils k []:=by
 intro d a σ w v s h;subst h;exact⟨⟨AF,0,rfl⟩,trivial,[],λ_ _=>YS,rfl,by simp⟩
theorem RR.drop{b k:Nat}:∀(n:Nat) {es:AA (AA A)} {off:Nat},RR ro σ w b k es off->RR ro σ w b k (es.drop n) (off+n*k)
 |0,_,_,h=>by simpa using h
 |n+1,[],_,_=>trivial
 |n+1,c::es,off,⟨h1,h2,h3⟩=>by
  have:=RR.drop n h3
  grind
theorem RR.take{b k:Nat}:∀(n:Nat) {es:AA (AA A)} {off:Nat},RR ro σ w b k es off->RR ro σ w b k (es.take n) off
 |0,_,_,h=>trivial
 |n+1,[],_,_=>trivial
 |n+1,c::es,off,⟨h1,h2,h3⟩=>⟨h1,h2,RR.take n h3⟩
theorem HQ.osl{i s n k t:Nat}{es a:AA (AA A)}(hH:H[i]?=AC (.row t k es))(he:(es.drop s).take n=a)(y:s+n<=es.length):HQ P H (.osl i s n k) k a:=by
 intro B u σ w v sm h;have j:a.length=n:=by grind
 rcases h with⟨rfl,rfl⟩|⟨b,p,d,L,m,q,rfl,G,E,z,F⟩
 .have e:a=[]:=(by grind);subst e;exact⟨⟨AF,0,rfl⟩,trivial,[],λ_ _=>YS,rfl,by simp⟩
 .rw[j];refine⟨⟨_,d,rfl⟩,?_⟩;obtain⟨l,f,g⟩:=sm.blk i _ _ q hH;have r:=((YD (pre:=[]) (by simpa using f) g).drop s).take n;by_cases J:0<d
  .obtain⟨f,g,x⟩:=r.flat
   simp_all[aO]
  .obtain rfl:n=0:=by omega
   have e:a=[]:=(by grind);subst e;exact⟨trivial,[],λ_ _=>YS,rfl,by simp⟩
def Yn:Nat:=4294967296
theorem Qe3(n c:Nat)(h:c<n):Builtin.nextslicecap n c<=4*n+1000:=by
 grind[Builtin.nextslicecap,Builtin.growBy]
structure Yg (P:AK) (T e k:Nat):Prop where
 sl:∀w,(underlying T).run P w=.ok (.slice e) w
 size:∀w,(sizeOf e).run P w=.ok k w
 zero:∃z,(∀w,(zeroValue e).run P w=.ok z w)/\z.cells.size=k
 bytes:∃i,(∀w,(typeInfo e).run P w=.ok i w)/\i.bytes<=4096
theorem rO{l:AA AL}(s:B9 fr ro σ H w)(hk:allK k es)(h:LR ro [] w es.flatten l)(hp:∀v∈l,QB v):
  B9 fr ro (σ++[AC w.heap.size]) (H++[.row T k es]) (w.alloc (.cells (l++rest).toArray T))/\Qm fr ro w ro (w.alloc (.cells (l++rest).toArray T)):=
 ⟨s.allocRow hk h hp,Qm.alloc _ s.roLt s.frLt⟩
theorem Ys{k:Nat}:∀{es:AA (AA A)},allK k es->es.flatten.length=es.length*k
 |[],_=>by simp
 |c::es,⟨h1,h2⟩=>by simp[Ys h2,h1,Xm,Nat.add_comm]
theorem nJ{k:Nat}:∀{es fs:AA (AA A)},allK k es->allK k fs->allK k (es++fs)
 |[],_,_,h=>h
 |c::es,_,⟨h1,h2⟩,h=>⟨h1,nJ h2 h⟩
theorem sU{k:Nat}:∀{es:AA (AA A)} (n:Nat),allK k es->allK k (es.take n)
 |_,0,_=>trivial
 |[],n+1,_=>trivial
 |c::es,n+1,⟨h1,h2⟩=>⟨h1,sU n h2⟩
theorem RL.allK{k:Nat}:∀{es:AA (AA A)} {l:AA AL},RL ro σ w k es l->allK k es
 |[],_,_=>trivial
 |c::es,l,⟨l1,l2,h1,h2,h3,h4⟩=>⟨h2,RL.allK h4⟩
theorem RL.app{k:Nat}:∀{n:Nat} {es fs:AA (AA A)} {l m:AA AL},RL ro σ w k es l->n<=es.length->Sw.allK k fs->LR ro σ w fs.flatten m->(∀v∈m,QB v)->
  RL ro σ w k (es.take n++fs) (Sw.splice l (n*k) m)
 |0,es,fs,l,m,h,hn,hk,hm,hp=>by
  simp_all[Sw.splice,Y9]
 |n+1,[],fs,l,m,h,hn,hk,hm,hp=>by simp at hn
 |n+1,c::es,fs,l,m,⟨l1,l2,h1,h2,h3,h4⟩,hn,hk,hm,hp=>by
  subst h1;have hl1:=h3.1.length;refine⟨l1,Sw.splice l2 (n*k) m,?_,h2,h3,RL.app h4 (by grind) hk hm hp⟩;have e1:(n+1)*k=l1.length+n*k:=by grind
  unfold Sw.splice;rw[e1,Vc,show l1.length+n*k+m.length=l1.length+(n*k+m.length)from by omega,Vb];simp
theorem mh{e need:Nat}(E:Yg P T e k)(N:∀w,(underlying T').run P w=.ok (.slice e') w){n c:Nat}
  (f:need=n+m)(h:cap<need)(a:need<=Yn){old:AA AL}
  (s:∀w':AJ,w'.heap=w.heap->(Builtin.firstCells k m (.slice ax m c)).run P w'=.ok new.toArray w')(B:∀w':AJ,w'.heap=w.heap->(Builtin.firstCells k n (.slice ad n cap)).run P w'=.ok old.toArray w'):
  ∃(rest:AA AL) (d:Nat),(need<=d/\d<=9223372036854775807)/\rest.length=(d-need)*k/\(Builtin.append_ #[T,T'] t #[.slice ad n cap,.slice ax m c]).run P w=
   .ok (.slice (AC ⟨w.heap.size,0,AF⟩) need d) (({w with drawn:=w.drawn+1}:AJ).alloc (.cells ((old++new)++rest).toArray e)):=by
 obtain⟨z,L,l⟩:=E.zero;obtain⟨i,O,G⟩:=E.bytes
 let d:=need+w.tape w.drawn (.appendCap need cap e)%(2^63-need)
 refine⟨(Builtin.zeroCells z.cells (d-need)).toList,d,⟨Nat.le_add_right _ _,by
  have:=Nat.mod_lt (w.tape w.drawn (.appendCap need cap e)) (show 0<2^63-need by unfold Yn at a;omega);show need+_%(2^63-need)<=_;omega⟩,by simp[Builtin.zeroCells,l],?_⟩
 have g:¬(need<=cap):=by omega
 have u:¬((need:Int)>IntKind.i64.max/\(False\/i.bytes=0)):=by
  rintro⟨q,_⟩;have:IntKind.i64.max=9223372036854775807:=by decide
  rw[this]at q;unfold Yn at a;omega
 have H:¬(Builtin.nextslicecap need cap*i.bytes>2^48):=by
  have:=Qe3 need cap h;have y:=Nat.mul_le_mul this G;unfold Yn at a;omega
 generalize hF:Builtin.firstCells=F at s B;unfold Builtin.append_;rw[hF];have j:∀W:AJ,(choose (.appendCap need cap e)).run P W=.ok (need+W.tape W.drawn (.appendCap need cap e)%(2^63-need)) {W with drawn:=W.drawn+1}:=by
  intro W;simp[choose,Sem.run,Question.forced,Question.cut]
 have p:∀(x:Nat) (W:AJ),(askRoom x).run P W=.ok () W:=by
  intro x W;unfold askRoom;split<;>rfl
 have r:∀(c:Array AL) (W:AJ),(newRow e c).run P W=.ok ⟨W.heap.size,0,AF⟩ (W.alloc (.cells c e)):=λc W=>rfl;subst f;simp only[not_and,false_or]at u;have y:¬(((n+m:Nat):Int)>IntKind.i64.max/\(False\/i.bytes=0)):=by simpa using u
 simp only[XH,XF,XG,Vn,E.sl,E.size,N,O,L,Result.andThen,Builtin.lenOf,Vp,Xi,if_false,XI,
  Xh,if_true,Vt g,Vt y,Vt H,j,p]
 have M:=B {w with drawn:=w.drawn+1} rfl;have J:=s {w with drawn:=w.drawn+1} rfl;simp only[M,J,r];have Q:old.toArray++new.toArray++Builtin.zeroCells z.cells (d-(n+m))=((old++new)++(Builtin.zeroCells z.cells (d-(n+m))).toList).toArray:=by
  apply Array.toList_inj.1;simp
 rw[<- Q]
theorem aU{e:Nat}(E:Yg P T e k)(g:∀w,(underlying T').run P w=.ok (.slice e') w){n c:Nat}
  (d:n+m<=cap)(f:(Builtin.firstCells k m (.slice ax m c)).run P w=.ok new.toArray w):
  (Builtin.append_ #[T,T'] t #[.slice ad n cap,.slice ax m c]).run P w=
   match ad with
   |some a=>(do storeCells (a.add (n*k)) new;pure (Value.slice ad (n+m) cap):Sem AL).run P w
   |none=>.ok (.slice ad (n+m) cap) w:=by
 generalize hF:Builtin.firstCells=F at f;unfold Builtin.append_;rw[hF];simp only[XH,XF,XG,Vn,E.sl,E.size,g,Result.andThen,Builtin.lenOf,Vp,Xi,if_false,XI,
  Xh,if_true,Vu d,f]
 cases ad with
 |none=>rfl
 |some a=>simp only[Vn,Result.andThen,Vp]
theorem B9.weaken(s:B9 fr ro σ H w){i:Nat}{x x':B8}(hH:H[i]?=AC x)(N:x.live=AE)(r:∀y,BR ro σ w x y->BR ro σ w x' y)
  (F:∀b c,De w x' b c->De w x b c:=by exact λ_ _ h=>h.elim):B9 fr ro σ (H.set i x') w:=by
 have a:∀(j:Nat) (v:B8),(H.set i x')[j]?=AC v->(j=i/\v=x')\/(j≠i/\H[j]?=AC v):=by
  grind
 have m:∀(j:Nat) (v:B8),(H.set i x')[j]?=AC v->v.live=AE->∃e,H[j]?=AC e/\e.live=true:=by
  grind
 refine⟨by rw[X5];exact s.len,s.roOk,s.frLt,s.roFr,?_,?_,?_,s.hidTo (· = ·) Yl (XU _) (by simp) (by simp) λj d y M L J=>.inl ?_⟩
 rotate_left 3
 .grind
 .intro j b v f g p;obtain⟨e,k,l⟩:=m j v g p;exact s.own j b e f k l
 .intro j t b v e f g p z G E;obtain⟨u,k,l⟩:=m j v p G;obtain⟨B,n,q⟩:=m t e z E;exact s.inj j t b u B f g k n l q
 .intro j y v f g;rcases a j v g with⟨rfl,rfl⟩|⟨_,h⟩
  .exact r y (s.blk j y x f hH)
  .exact s.blk j y v f h
theorem RL.take{k:Nat}:∀(n:Nat) {es:AA (AA A)} {l:AA AL},RL ro σ w k es l->RL ro σ w k (es.take n) l
 |0,_,_,_=>trivial
 |n+1,[],_,_=>trivial
 |n+1,c::es,l,⟨l1,l2,h1,h2,h3,h4⟩=>⟨l1,l2,h1,h2,h3,RL.take n h4⟩
theorem YN{c:Call}{T T':TypeId}{x y:Operand}(d:o.op=.call c)(a:c={callee:=.builtin .append,args:= #[x,y],argTypes:= #[T,T']})(ρ:Operand->AL){v:AL}
  (h:(Builtin.append_ #[T,T'] o.type #[ρ x,ρ y]).run P w=.ok v w'):(execOp ρ o).run P w=.ok (.value v) w':=by
 simp_all[execOp,resolve,invoke,Go.builtin]
theorem B9.phantom(s:B9 fr ro σ H w)(t k:Nat):B9 fr ro (σ++[AF]) (H++[.row t k []]) w:=by
 have g:=s.len;have f:∀(i b:Nat),(σ++[AF])[i]?=AC (AC b)->i<σ.length:=by
  grind
 refine⟨by simp[g],s.roOk,s.frLt,s.roFr,?_,?_,?_,s.hidTo (· = ·) Yl (XU _) (by simp) (by simp) λj d y a e h=>.inl ?_⟩
 rotate_left 3
 .grind
 .intro i b z a e h;have q:=f i b a;rw[XN q]at a;rw[XN (by omega)]at e;exact s.own i b z a e h
 .intro i j b z B a e h l m p;have r:=f i b a;have u:=f j b e;rw[XN r]at a;rw[XN u]at e;rw[XN (by omega)]at h l;exact s.inj i j b z B a e h l m p
 .intro i y z a e;have ext:Cx ro σ w ro (σ++[AF]) w:=⟨λ_ q=>q,λ_ _=>rfl,λ_ _ q=>q,(by grind)⟩;rcases Nat.lt_trichotomy i σ.length with q|q|q
  .rw[XN q]at a;rw[XN (by omega)]at e;exact(s.blk i y z a e).keep ext (λ_ _ _=>rfl) (λ_ _ _ _=>rfl)
  .subst q;have n:(σ++[AF])[σ.length]?=AC none:=by simp
   have x:(H++[B8.row t k []])[σ.length]?=AC (.row t k []):=by grind
   rw[n]at a;rw[x]at e;cases a;cases e;rfl
  grind
theorem B9.kill(s:B9 fr ro σ H w)(i:Nat):B9 fr ro σ (H.set i .dead) w:=by
 have a:∀(j:Nat) (v:B8),(H.set i .dead)[j]?=AC v->v≠ .dead->H[j]?=AC v:=by
  grind
 refine⟨by rw[X5];exact s.len,s.roOk,s.frLt,s.roFr,?_,?_,?_,s.hidTo (· = ·) Yl (XU _) (by simp) (by simp) λj d y r u t=>.inl ⟨j,y,rfl,r,a j y u (eN t),id,λ_ q=>q⟩⟩
 .intro j b v f e g;exact s.own j b v f (a j v e (KY g)) g
 .intro j m b v k f e g p h n;exact s.inj j m b v k f e (a j v g (KY h)) (a m k p (KY n)) h n
 .intro j y v f e;by_cases l:v≠ .dead
  .exact s.blk j y v f (a j v e l)
  .obtain rfl:v=.dead:=Classical.not_not.1 l;trivial
theorem grown{c:Call}{e n cx:Nat}{x y:Operand}{a:Act}{old:AA AL}(E:Yg P T e k)(W:∀w,(underlying T').run P w=.ok (.slice e') w)(ho:o.op=.call c)
  (L:c={callee:=.builtin .append,args:= #[x,y],argTypes:= #[T,T']})(M:a.eval x=.slice ad n cap)(J:a.eval y=.slice ax m cx)(s:B9 fr ro σ H w)(f:cap<n+m)(r:n+m<=Yn)
  (h:∀w',w'.heap=w.heap->(Builtin.firstCells k n (.slice ad n cap)).run P w'=.ok old.toArray w')(i:∀w',w'.heap=w.heap->(Builtin.firstCells k m (.slice ax m cx)).run P w'=.ok new.toArray w')
  (l:LR ro [] w es.flatten old)(N:∀v∈old,QB v)(g:allK k es)(q:LR ro [] w fs.flatten new)(X:∀v∈new,QB v)(p:allK k fs)(Q:es.length=n)(u:fs.length=m):
  ∃v w' ro' τ,(execOp a.eval o).run P w=.ok (.value v) w'/\VR ro' (σ++τ) w' (.osl H.length 0 (n+m) k) v/\B9 fr ro' (σ++τ) (H++[.row e k (es++fs)]) w'/\Qm fr ro w ro' w':=by
 obtain⟨d,nc,B,t,j⟩:=mh E W rfl f r i h
 let w0:={w with drawn:=w.drawn+1}
 have O:B9 fr ro σ H w0:=s.heap rfl;have Y:Qm fr ro w ro w0:=Qm.heap rfl rfl rfl rfl (Nat.le_succ _);have z:LR ro [] w0 (es++fs).flatten (old++new):=by
  rw[Xt];exact(l.append q).mono (Cx.heap (w:=w) rfl)
 obtain⟨R,V⟩:=rO O (nJ g p) z (λv hv=>by grind);have hexec:=YN ho L a.eval (by rw[M,J];exact j);refine⟨_,_,ro,[AC w.heap.size],hexec,.inr ⟨w.heap.size,0,nc,e,(old++new++d).length,?_,rfl,λ_=>by simp,B,?_,?_⟩,R,Y.trans V⟩
 .rw[<- s.len];simp
 .have:=Q9 w0 (.cells ((old++new)++d).toArray e);unfold World.shape?
  grind
 .have F:=l.length;have G:=q.length;rw[Ys g]at F;rw[Ys p]at G;simp[X4,t,F,G,u];rw[<- XB, <- XB]
  grind
theorem Qg1{c:Call}{e:Nat}{x y:Operand}{n:A}(E:Yg P T e k)(p:∀w,(underlying T').run P w=.ok (.slice e') w)(q:o.op=.call c)
  (j:c={callee:=.builtin .append,args:= #[x,y],argTypes:= #[T,T']})(B:Bu env x=.nils)(G:Bu env y=n)(J:HQ P H n k fs)(s:fs.length<=Yn):
  Do P o env H (.osl H.length 0 fs.length k) (H++[.row e k fs]):=by
 intro u m σ N a w r;have f:=Qn r x;rw[B]at f;have i:=Qn r y;rw[G]at i;obtain⟨⟨Q,O,g⟩,z,l,d,L,F⟩:=J u m σ w _ r.sim i;rw[g]at d;by_cases M:fs.length=0
 .have h:fs=[]:=(by grind);subst h;refine⟨.slice AF 0 0,w,m,[AF],(YN q j _ ?_),.inl ⟨rfl,rfl⟩,r.sim.phantom e k,Qm.refl _ _ _⟩;rw[f,g];have:=aU (t:=o.type) E p (ad:=AF) (XU 0) (d w rfl);omega
 .have:=grown (es:=[]) E p q j f g r.sim (by omega) (by omega) (λ_ _=>YS) d rfl (by simp) trivial L F z rfl rfl
  grind
theorem ti{c:Call}{e i n:Nat}{x y:Operand}{ya:A}{gs:AA (AA A)}(E:Yg P T e k)(hd:∀w,(underlying T').run P w=.ok (.slice e') w)(M:o.op=.call c)
  (B:c={callee:=.builtin .append,args:= #[x,y],argTypes:= #[T,T']})(hx:Bu env x=.osl i 0 n k)(hH:H[i]?=AC (.row e k es))(hn:n<=es.length)(z:Bu env y=ya)(hs:HQ P H ya k fs)(g:n+fs.length<=Yn)
  (hg:es.take n++fs=gs):Do P o env H (.osl H.length 0 (n+fs.length) k) (H.set i .dead++[.row e k gs]):=by
 intro fr u σ N a w r;subst hg;have h:=Qn r x;rw[hx]at h;have h2:=Qn r y;rw[z]at h2;obtain⟨⟨ay,cy,W⟩,q2,l,O,q4,V⟩:=hs fr u σ w _ r.sim h2;rw[W]at O;have q:i<H.length:=(by grind);have ag:(H.set i .dead).length=H.length:=X5;obtain⟨s,hσ⟩:∃s,σ[i]?=AC s:=⟨_,XL (by rw[r.sim.len];exact q)⟩;rcases h with⟨rfl,h⟩|⟨b,p,cap,t',mm,R,h,Y,h5,Q,h7⟩
 ·
  by_cases hm:fs.length=0
  .have j:fs=[]:=(by grind);subst j;refine⟨.slice AF 0 0,w,u,[AF],?_,.inl ⟨rfl,rfl⟩,(r.sim.kill i).phantom e k,Qm.refl _ _ _⟩;refine YN M B _ ?_;rw[h,W];have:=aU (t:=o.type) E hd (ad:=AF) (n:=0) (m:=0) (cap:=0) (c:=cy) (ax:=ay) (XU 0) (O w rfl);omega
  .have:=grown (es:=[]) (old:=[]) E hd M B h W (r.sim.kill i) (by omega) g (λ_ _=>YS) O rfl (by simp) trivial q4 V q2 rfl rfl
   grind
 .have L:=r.sim.blk i _ _ R hH;obtain⟨F,G,g2⟩:=L;have aa:(es.take n).length=n:=by simp;omega
  obtain⟨old,o1,o2,o3⟩:∃old:AA AL,(∀w':AJ,w'.heap=w.heap->(Builtin.firstCells k n (.slice (AC ⟨b,p,AF⟩) n cap)).run P w'=.ok old.toArray w')/\LR u [] w (es.take n).flatten old/\ ∀v∈old,QB v:=by
   have J:HQ P H (.osl i 0 n k) k (es.take n):=HQ.osl hH (by simp) (by omega);obtain⟨_,_,l',z1,z2,z3⟩:=J fr u σ w (.slice (AC ⟨b,p,AF⟩) n cap) r.sim (.inr ⟨b,p,cap,t',mm,R,rfl,Y,h5,Q,h7⟩)
   grind
  by_cases d:n+fs.length<=cap
  .have ae:=aU (t:=o.type) E hd (ad:=AC ⟨b,p,AF⟩) (n:=n) (m:=fs.length) (cap:=cap) (c:=cy) (ax:=ay) d (O w rfl);have af:l.length=fs.length*k:=by rw[q4.length,Ys q2]
   by_cases hm:fs.length=0
   .have j:fs=[]:=(by grind);subst j;have el:l=[]:=(by simp_all);subst el;have sw:=(r.sim.weaken (x':=.row e k (es.take n)) hH rfl (by
     intro y z;cases y with
     |none=>simp only[BR]at z⊢;grind
     |some y=>obtain⟨F,G,g2⟩:=z;exact⟨F,G,g2.take n⟩))
    have X:=sw.moved (i:=i) (Xa q) R;rw[List.set_set]at X;refine⟨.slice (AC ⟨b,p,AF⟩) n cap,w,u,[AC b],?_,.inr ⟨b,p,cap,t',mm,?_,by simp,Y,by omega,Q,h7⟩,by grind,Qm.refl _ _ _⟩
    .refine YN M B _ ?_
     simp_all[storeCells]
    .rw[<- r.sim.len];simp
   .obtain rfl:p=0*k:=Y (by omega);have ac:(n+fs.length)*k<=F.length:=by
     have:w.shape? b=AC (e,F.length):=by unfold World.shape?;rw[G];simp
     rw[this]at Q;cases Q;exact XW (XD k d) (by grind)
    rw[XB]at ac;have ah:=Yb (P:=P) (vs:=l) (n*k) 0 G (by omega) V;have f:=r.sim.set (x':=.row e k (es.take n++fs)) (obj:=.cells (splice F (n*k) l).toArray e (0,0)) R hH rfl
     (λy z=>Jq G (Ya (by omega)) y z)
     (λex ab=>⟨_,ab,(g2.app hn q2 q4 V).mono ex.nil⟩)
    have X:=f.1.moved (i:=i) (Xa q) R;rw[List.set_set]at X;refine⟨.slice (AC ⟨b,0*k,AF⟩) (n+fs.length) cap,_,u,[AC b],?_,.inr ⟨b,0*k,cap,t',mm,?_,rfl,Y,⟨d,h5.2⟩,?_,h7⟩,X,f.2⟩
    .refine YN M B _ ?_
     simp_all[Jz]
    .rw[<- r.sim.len];simp
    .exact f.2.shape _ _ Q
  .have:=grown (es:=es.take n) (old:=old) (fs:=fs) E hd M B h W (r.sim.kill i) (by omega) g o1 O o2 o3 (sU n g2.allK) q4 V q2 aa rfl
   grind
end
variable {xs:AA Operand}
section
variable {P:AK} {o:AM} {env:Env} {H:Qc}
theorem DN.fn{c:Call}{h:Array TypeId}(d:∀(a:Array AL) (w:AJ),(callFunc f a).run P w=.ok (.enter f a) w)(j:o.op=.call c)
  (k:c={callee:=.value (.func f),args:=xs.toArray,argTypes:=h})(g:xs.map (Bu env)=args):DN P o env H f args:=by
 intro l i σ N a w r;refine⟨xs.map a.eval,?_,g▸UP r xs⟩;have e:a.eval (.func f)=.func (.func f) #[] #[]:=rfl
 grind[execOp,resolve,Deferred.ofValue,invoke]
theorem pj{c:Call}{x:Operand}{p:Array TypeId}{g h:AA A}(d:∀(a:Array AL) (w:AJ),(callFunc f a).run P w=.ok (.enter f a) w)(u:o.op=.call c)
  (t:c={callee:=.value x,args:=xs.toArray,argTypes:=p})(k:Bu env x=.fn (.func f) g h)(m:g++(xs.map (Bu env)++h)=args):DN P o env H f args:=by
 intro s q σ N a w r;have e:=Qn r x;rw[k]at e;obtain⟨l,i,e,n,j⟩:=e;refine⟨l++(xs.map a.eval++i),?_,m▸n.append ((UP r xs).append j)⟩
 grind[execOp,resolve,Deferred.ofValue,invoke]
def H9(ρ:Nat->Nat)(env:Env):Env->Prop
 |[]=>True
 |(s,a)::r=>lk env s=Y6 ρ a/\H9 ρ env r
theorem H9.ok{ro:Nat->Prop}{σ σ':CD}{w:AJ}{ρ:Nat->Nat}(h:∀i,σ[ρ i]?=σ'[i]?){t:Array AL}(r:∀s,VR ro σ w (lk env s) (t.getD s undef)):
  ∀{env':Env},H9 ρ env env'->∀s,VR ro σ' w (lk env' s) (t.getD s undef)
 |[],_,s=>trivial
 |(d,a)::e,⟨h1,h2⟩,s=>by
  simp only[lk];by_cases q:s=d
  .grind[Nat.beq_refl,T_]
  .have:Nat.beq s d=false:=by
    simp_all[VM]
   rw[this];exact H9.ok h r h2 s
theorem B9.sub(s:B9 fr ro σ H w)(hH:π.map (λp=>H[p]?)=(H'.map (Q1 (CF π H.length))).map AC)(hπ:π.Nodup):
  B9 fr ro (Yz σ π) H' w/\ ∀j:Nat,σ[CF π H.length j]?=(Yz σ π)[j]? :=by
 have G:∀p∈π,p<H.length:=λp q=>JD hH q;have hσl:=s.len;have L:∀(j p:Nat),π[j]?=AC p->H[p]?=(H'[j]?).map (Q1 (CF π H.length)):=by
  intro j p e;have:=congrArg (λl=>l[j]?) hH
  grind
 have k:π.length=H'.length:=by simpa using congrArg List.length hH
 have hσc:∀j:Nat,σ[CF π H.length j]?=(Yz σ π)[j]? :=by
  intro j;have:=fE (τ:=[]) hσl G j
  grind
 have hπj:∀(j b:Nat),(Yz σ π)[j]?=AC (AC b)->∃p,π[j]?=AC p/\σ[p]?=AC (AC b):=by
  intro j b e;simp only[Yz,Xp]at e
  grind
 have hπi:∀(i j p:Nat),π[i]?=AC p->π[j]?=AC p->i=j:=by
  intro i j p f a;have z:i<π.length:=(by grind);have e:j<π.length:=(XM.1 a).1;rw[XL z]at f;rw[XL e]at a;have h:=(X0 f).trans (X0 a).symm;rcases Nat.lt_trichotomy i j with q|q|q
  .exact(VE.1 hπ i j z e q h).elim
  .exact q
  .exact(VE.1 hπ j i e z q h.symm).elim
 refine⟨⟨by simp[Yz,k],s.roOk,s.frLt,s.roFr,?_,?_,?_,s.hidTo (λj p=>π[j]?=AC p) hπi (XU _) (λ_ _ _ _ _ _ _ q=>q) (λ_ _ _ _ _ _ _ q=>q) λj d y J O N=>.inl ?_⟩,hσc⟩
 rotate_left 3
 .obtain⟨p,f,g⟩:=hπj j d J;exact⟨p,Q1 (CF π H.length) y,f,g,by grind,by rw[QO];exact id,λc q=>(Pd _ _ _ _ _).2 q⟩
 .intro j b x n u E;obtain⟨p,f,g⟩:=hπj j b n;have m:H[p]?=AC (Q1 (CF π H.length) x):=by grind
  exact s.own p b _ g m (by rw[QO];exact E)
 .intro i j b x y n u E P F M;obtain⟨p,f,g⟩:=hπj i b n;obtain⟨B,a,r⟩:=hπj j b u;have m:H[p]?=AC (Q1 (CF π H.length) x):=by grind
  have t:H[B]?=AC (Q1 (CF π H.length) y):=by grind
  have:=s.inj p B b _ _ g r m t (by rw[QO];exact F) (by rw[QO];exact M)
  grind
 .intro j y x n u;have e:j<π.length:=by
   grind
  have f:π[j]?=AC π[j]:=XL e;have m:H[π[j]]?=AC (Q1 (CF π H.length) x):=by grind
  have g:σ[π[j]]?=AC y:=by
   grind[CF]
  exact(eB hσc).1 (s.blk _ y _ g m)
theorem lE{e:Nat}{env':Env}(π:AA Nat)(d:π.take e=List.range e)(hH:π.map (λp=>H[p]?)=(H'.map (Q1 (CF π H.length))).map AC)(hπ:π.Nodup)
  (hE:H9 (CF π H.length) env env'):Le e env H env' H':=by
 intro i f σ N a w r;obtain⟨g,hσ⟩:=r.sim.sub hH hπ;refine⟨f,Yz σ π,⟨g,H9.ok hσ r.env hE,r.size,r.defers⟩,λ_ q=>q,?_⟩;have j:=r.sim.len;have h:∀p∈π,p<H.length:=λp q=>JD hH q;unfold Yz;rw[<- List.map_take,d];apply List.ext_getElem?
 grind
theorem Le.phantom{f s k t:Nat}(g:f<=H.length)(h:lk env s=.nils):Le f env H (up env s (.osl H.length 0 0 k)) (H++[.row t k []]):=by
 intro i e σ N a w r;refine⟨e,σ++[AF],⟨r.sim.phantom t k,?_,r.size,r.defers⟩,λ_ q=>q,QH (by rw[r.sim.len];exact g)⟩;have ext:Cx e σ w e (σ++[AF]) w:=⟨λ_ q=>q,λ_ _=>rfl,λ_ _ q=>q,(by grind)⟩;intro d;simp only[lk];by_cases q:d=s
 .subst q;rw[VF];have:=r.env d;rw[h]at this;exact .inl ⟨rfl,this⟩
 .have:Nat.beq d s=false:=by
   simp_all[VM]
  rw[this];exact(r.env d).mono ext
theorem aC{s:Nat}(f:lk env s=.nils):Le g env H (up env s (.rsl k [])) H:=by
 intro h e σ N a w r;refine⟨e,σ,⟨r.sim,?_,r.size,r.defers⟩,λ_ q=>q,rfl⟩;intro d;simp only[lk];by_cases q:d=s
 .subst q;rw[VF];have:=r.env d;rw[f]at this;exact⟨AF,0,this,XU _,.inl rfl⟩
 .have:Nat.beq d s=false:=by
   simp_all[VM]
  rw[this];exact r.env d
mutual
def Yu:A->Bool
 |.bool _=>AE
 |.int _ _=>AE
 |.str _=>AE
 |.tup vs=>fA vs
 |_=>AD
def fA:AA A->Bool
 |[]=>AE
 |a::r=>Yu a&&fA r
end
mutual
theorem VR.scalar{ro ro':Nat->Prop}{σ σ':CD}{w w':AJ}:∀{a:A} {v:AL},Yu a=AE->VR ro σ w a v->VR ro' σ' w' a v
 |.bool _,_,_,h=>h
 |.int _ _,_,_,h=>h
 |.str _,_,_,h=>h
 |.tup vs,v,hs,h=>by
  simp only[VR,Yu]at h hs⊢;obtain⟨l,h1,h2⟩:=h;exact⟨l,h1,LR.scalar hs h2⟩
 |.any,_,hs,_=>by simp[Yu]at hs
 |.nilp,_,hs,_=>by simp[Yu]at hs
 |.ptr _ _,_,hs,_=>by simp[Yu]at hs
 |.rp _,_,hs,_=>by simp[Yu]at hs
 |.nils,_,hs,_=>by simp[Yu]at hs
 |.rsl _ _,_,hs,_=>by simp[Yu]at hs
 |.osl _ _ _ _,_,hs,_=>by simp[Yu]at hs
 |.agg _,_,hs,_=>by simp[Yu]at hs
 |.fn _ _ _,_,hs,_=>by simp[Yu]at hs
 |.nilf,_,hs,_=>by simp[Yu]at hs
 |.iface _ _,_,hs,_=>by simp[Yu]at hs
 |.nilif,_,hs,_=>by simp[Yu]at hs
 |.map _,_,hs,_=>by simp[Yu]at hs
 |.nilm,_,hs,_=>by simp[Yu]at hs
theorem LR.scalar{ro ro':Nat->Prop}{σ σ':CD}{w w':AJ}:∀{az:AA A} {l:AA AL},fA az=AE->LR ro σ w az l->LR ro' σ' w' az l
 |[],_,_,h=>h
 |a::r,l,hs,h=>by
  simp only[LR,fA,XX]at h hs⊢;obtain⟨v,l',h1,h2,h3⟩:=h;exact⟨v,l',h1,VR.scalar hs.1 h2,LR.scalar hs.2 h3⟩
end
def bF(H:Qc):A->A->Prop:=λa a'=>(a'=a/\YH a=AE)\/ ∃i n k t es,a=.osl i 0 n k/\H[i]?=AC (.row t k es)/\es.length=n/\a'=.rsl k es
def HW(H:Qc):AA A->AA A->Prop
 |[],[]=>True
 |a::az,b::bs=>bF H a b/\HW H az bs
 |_,_=>False
theorem qy{Q:QP}{l:AA AM}{d:Nat}{B:AA A}(ac:DN P o env H f args)(hv:HW H args B)(hC:C P f B [] Qr)
  (ab:∀r H1,Qr r H1->Yu r=AE)(k:∀r H1,Qr r H1->WO P h0 N all l (up env d r) H Q)(hg:QE all o env true:=by rfl)(hd:o.dst=AC d:=by rfl)(hN:Nat.blt d N=true:=by rfl):WO P h0 N all (o::l) env H Q:=by
 intro rd fr ro σ a w r hrd;obtain⟨T,h1,h2⟩:=ac fr ro σ N a w r;refine tK (Jp hg r) h1 ?_
 let roc:Nat->Prop:=λb=>ro b\/ ∃(i:Nat) (x:B8),σ[i]?=AC (AC b)/\H[i]?=AC x/\x.live=AE
 let frc:Nat->Prop:=λb=>fr b\/ ∃(i:Nat) (x:B8) (d:Nat),σ[i]?=AC (AC d)/\H[i]?=AC x/\De w x d b
 have L:B9 frc roc [] [] w:=by
  refine⟨rfl,r.sim.roOk.to (λ_ q=>.inl q) (λ_ _=>rfl) ?_,?_,?_,by simp,by simp,by simp,by simp⟩
  .rintro b (q|⟨i,x,u,z,E⟩)
   .exact r.sim.roLt b q
   .exact(r.sim.own i b x u z E).1
  .rintro b (q|⟨i,x,d,u,z,E⟩)
   .exact r.sim.frLt b q
   .exact(r.sim.hid i d x b u z E).lt
  .rintro b (q|⟨i,x,u,z,E⟩) (q'|⟨i',x',d',V,W,R⟩)
   .exact r.sim.roFr b q q'
   .exact(r.sim.hid i' d' x' b V W R).ro q
   .exact(r.sim.own i b x u z E).2.2 q'
   .exact(r.sim.hid i' d' x' b V W R).ne i b x u z E rfl
 have G:∀(az F:AA A) (l:AA AL),HW H az F->LR ro σ w az l->LR roc [] w F l:=by
  intro az
  induction az with
  |nil=>
   intro F l J h;cases F with
   |nil=>exact h
   |cons b F=>exact J.elim
  |cons x az ih=>
   intro F l J h;cases F with
   |nil=>exact J.elim
   |cons y F=>
    obtain⟨hx,J⟩:=J;obtain⟨v,l',rfl,hv,h⟩:=h;refine⟨v,l',rfl,?_,ih F l' J h⟩;rcases hx with⟨rfl,hx⟩|⟨i,n,k,t,es,rfl,hH,hn,rfl⟩
    .exact(hv.data (σ':=[]) hx).mono ⟨λ_ q=>.inl q,λ_ _=>rfl,λ_ _ q=>q,λ_ _ q=>q⟩
    .subst hn;rcases hv with⟨h0,h⟩|⟨b,p,X,t',m,h1,h,h2,⟨h3,af⟩,h4,h5⟩
     .have:es=[]:=(by grind);subst this;exact⟨AF,0,h,XU _,.inl rfl⟩
     .refine⟨_,X,h,h3,?_⟩;by_cases he:es=[]
      .exact .inl he
      .right;have hc:0<X:=Vg (by grind) h3;obtain rfl:=h2 hc;obtain⟨l,u,z⟩:=r.sim.blk i _ _ h1 hH;refine⟨b,0,by simp,.inr ⟨i,_,h1,hH,rfl⟩,?_⟩;have:=YD (pre:=[]) (by simpa using u) z;exact this.keep ⟨λ_ q=>.inl q,λ_ _=>rfl,λ_ _ q=>q,λ_ _ q=>q⟩ rfl
 refine Calls.mono (hC frc roc [] T w L (G _ _ _ hv h2)) ?_;rintro e Y ⟨v,rr,H1,ae,τ,rfl,hq,sc,ad,ev⟩;have M:∀(i b:Nat) (x:B8),σ[i]?=AC (AC b)->H[i]?=AC x->x.live=AE->Y.heap[b]?=w.heap[b]? :=λi b x u z E=>ev.keepRo b (by grind);have g:Qm fr ro w ro Y:=⟨λ_ q=>q,λb q=>ev.keepRo b (.inl q),λb q=>ev.keepFr b (.inl q),ev.size,ev.shape,ev.os,ev.tape,ev.output,ev.drawn⟩;have O:B9 fr ro σ H Y:=by
  refine⟨r.sim.len,r.sim.roOk.to (λ_ q=>q) g.keepRo (λb q=>Vg (r.sim.roLt b q) ev.size),λb q=>Vg (r.sim.frLt b q) ev.size,r.sim.roFr,?_,r.sim.inj,?_,r.sim.hidTo (· = ·) Yl ev.size (by simp) (by simp) λj d y g1 g2 g3=>.inl ⟨j,y,rfl,g1,g2,id,λc q=>r.sim.hidKeep g1 g2 (M j d y g1 g2) g.keepRo q⟩⟩
  .intro i b x u z E;obtain⟨p1,p2,p3⟩:=r.sim.own i b x u z E
   grind
  .intro i y x u z;refine(r.sim.blk i y x u z).keep (g.ext0 σ) ?_ ?_
   .grind
   .rintro b c rfl J;exact ev.keepFr c (by grind)
 have hk:=k rr H1 hq;have aa:d<N:=by simp_all
 simp only[hd,Act.put];have r':C0 fr ro σ H (up env d rr) N {a with tmps:=a.tmps.setIfInBounds d v} Y:=
  ⟨O,VR.up (fr:=fr) (λs=>(r.env s).mono (g.ext0 σ)) (by rw[r.size];exact aa) (ad.scalar (ab _ _ hq)),by simpa using r.size,r.defers.keep g⟩
 exact⟨_,rfl,YE (λe a w q=>q.step g rfl) _ _ _ (hk rd fr ro σ _ Y r' (hrd.to g λ_ q=>q))⟩
end
section
variable {P:AK} {o:AM} {env:Env} {H:Qc}
theorem r_{α:Type}:∀(vs:AA α) (a i:Nat) (l:AA α),a+i+vs.length<=l.length->
  (vs.zipIdx i).foldl (λcs x=>cs.setIfInBounds (a+x.2) x.1) l.toArray=(splice l (a+i) vs).toArray
 |[],a,i,l,h=>by simp[splice]
 |v::vs,a,i,l,h=>by
  simp[X2]at h;rw[List.zipIdx_cons,XE];have e1:l.toArray.setIfInBounds (a+i) v=(splice l (a+i) [v]).toArray:=by
   have:l.toArray.setIfInBounds (a+i) v=(l.set (a+i) v).toArray:=by simp
   rw[this];rw[List.set_eq_take_append_cons_drop,Vu (by omega)];simp[splice]
  rw[e1,r_ vs a (i+1) _ (by grind)];have d:(l.take (a+i)).length=a+i:=by simp;omega
  unfold splice;have g:a+(i+1)=(l.take (a+i)).length+1:=by omega
  have e:(l.take (a+i)++([v]++l.drop (a+i+[v].length))).take ((l.take (a+i)).length+1)=l.take (a+i)++[v]:=by
   grind
  have f:(l.take (a+i)++([v]++l.drop (a+i+[v].length))).drop ((l.take (a+i)).length+1+vs.length)=l.drop (a+i+(v::vs).length):=by
   rw[show(l.take (a+i)).length+1+vs.length=(l.take (a+i)).length+(1+vs.length)from by omega,Vb];simp[Nat.add_comm 1];omega
  simp_all
theorem rz{place:Nat->AB (Nat×Nat)}{l:AA AL}{i a size:Nat}{v:AL}{m:AA AL}{rest:AA (Nat×AL)}(d:place i=AC (a,size))(e:v.cells=m.toArray)(g:m.length=size)
  (f:a+size<=l.length):Instr.fill place l.toArray ((i,v)::rest)=Instr.fill place (splice l a m).toArray rest:=by
 rw[Instr.fill];simp[d];rw[Vt (by grind),e]
 simp_all[r_]
def M0:Nat->AA Operand->AA (Nat×Operand)
 |_,[]=>[]
 |i,x::xs=>(i,x)::M0 (i+1) xs
def Yw(env:Env)(xs:AA Operand):AA (AA A):=xs.map λx=>Yf (Bu env x)
theorem ml{fr ro:Nat->Prop}{σ:CD}{N:Nat}{a:Act}{w:AJ}(r:C0 fr ro σ H env N a w){k:Nat}:∀(xs:AA Operand) (j:Nat) (pre rest:AA AL),pre.length=j*k->rest.length=xs.length*k->
  (xs.all λx=>Yo (Bu env x))=AE->allK k (Yw env xs)->
  ∃l,Instr.fill (λi=>AC (i*k,k)) (pre++rest).toArray ((M0 j xs).map λp=>(p.1,a.eval p.2))=AC (pre++l).toArray/\LR ro σ w (Yw env xs).flatten l
 |[],j,pre,rest,h1,h2,_,_=>by
  have:rest=[]:=(by simp_all);subst this;exact⟨[],rfl,rfl⟩
 |x::xs,j,pre,rest,h1,h2,h3,h4=>by
  simp only[List.all_cons,XX]at h3;obtain⟨hk1,hk2⟩:=h4;obtain⟨m,q1,q2⟩:=(Qn r x).cells h3.1;have hm:m.length=k:=by rw[q2.length];exact hk1
  simp[X2,Xm]at h2;simp[M0,Vk];rw[rz rfl q1 hm (by simp;omega)];have e:splice (pre++rest) (j*k) m=(pre++m)++rest.drop k:=by
   unfold splice
   grind[List.drop_length_add_append]
  rw[e];obtain⟨l,d,f⟩:=ml r xs (j+1) (pre++m) (rest.drop k) (by grind) (by simp;omega) h3.2 hk2;refine⟨m++l,?_,?_⟩
  .rw[d];simp
  .exact q2.append f
theorem nh{a:Act}(r:C0 fr ro σ H env N a w){e n:Nat}(E:Yg P T e k)(s:xs.length=n)(t:Nat.ble (n*k) 16777216=AE)
  (j:(xs.all λx=>Yo (Bu env x))=AE)(g:allK k (Yw env xs)):
  ∃l,(Instr.buildSlice T n (((M0 0 xs).map λp=>(p.1,a.eval p.2)).toArray)).run P w=.ok (.slice (AC ⟨w.heap.size,0,AF⟩) n n) (w.alloc (.cells l.toArray e))/\LR ro σ w (Yw env xs).flatten l:=by
 obtain⟨z,q,u⟩:=E.zero;have m:n*k<=16777216:=by simp_all
 have y:∀(c:Array AL) (W:AJ),(newRow e c).run P W=.ok ⟨W.heap.size,0,AF⟩ (W.alloc (.cells c e)):=λc W=>rfl;unfold Instr.buildSlice;by_cases h:n*k=0
 .obtain⟨l,d,f⟩:=ml r (k:=k) xs 0 [] [] (by simp) (by grind) j g;refine⟨l,?_,f⟩;simp only[Vn,E.sl,Result.andThen,E.size,h]
  simp_all[Array.range]
 .obtain⟨l,d,f⟩:=ml r (k:=k) xs 0 [] ((Array.range (n*k)).map (λi=>z.cells[i%z.cells.size]!)).toList (by simp) (by rw[s];simp) j g;refine⟨l,?_,f⟩;simp only[Vn,E.sl,Result.andThen,E.size,Vt h,XI,q];simp only[Vi]at d;rw[Array.toArray_toList]at d
  simp_all
theorem na{n:Nat}(a:o.op=.buildSlice T n (M0 0 xs).toArray)(ρ:Operand->AL){v:AL}
  (h:(Instr.buildSlice T n (((M0 0 xs).map λp=>(p.1,ρ p.2)).toArray)).run P w=.ok v w'):(execOp ρ o).run P w=.ok (.value v) w':=by
 grind[execOp,Sem.run_bind,Result.andThen,Sem.run_pure]
theorem Do.lit{e n:Nat}(E:Yg P T e k)(B:o.op=.buildSlice T n (M0 0 xs).toArray)(p:xs.length=n)(f:Nat.ble (n*(k+1)) 16777216=AE)
  (u:(xs.all λx=>Yo (Bu env x))=AE)(j:Yw env xs=es)(d:allK k es)(t:es.flatten.all Yr=AE)(y:YO es.flatten=AE):
  Do P o env H (.osl H.length 0 n k) (H++[.row e k es]):=by
 intro F m σ N a w r;subst j;have g:=XS f;rw[Nat.mul_add]at g;obtain⟨l,z,h⟩:=nh r E p (XT (by omega)) u d;have i:LR m [] w (Yw env xs).flatten l:=h.data y;obtain⟨s,q⟩:=rO r.sim d i (h.plain t);rw[Vh]at s q;have G:l.length=n*k:=by rw[h.length,Ys d];simp[Yw,p]
 refine⟨_,_,m,[AC w.heap.size],na B a.eval z,.inr ⟨w.heap.size,0,n,e,l.length,?_,rfl,λ_=>by simp,(by omega),?_,by grind⟩,s,q⟩
 .rw[<- r.sim.len];simp
 .unfold World.shape?;rw[Q9];simp
theorem YQ{e n:Nat}(E:Yg P T e k)(y:o.op=.buildSlice T n (M0 0 xs).toArray)(j:xs.length=n)(f:Nat.ble (n*(k+1)) 16777216=AE)
  (s:(xs.all λx=>Yo (Bu env x))=AE)(i:Yw env xs=es)(d:allK k es)(q:es.flatten.all Yr=AE):
  Do P o env H (.osl H.length 0 n k) (H++[.rowr e k es]):=by
 intro z p σ N a w r;subst i;have g:=XS f;rw[Nat.mul_add]at g;obtain⟨l,u,h⟩:=nh r E j (XT (by omega)) s d;have m:=r.sim.allocRowr (t:=e) (rest:=[]) d h (h.plain q);rw[Vh]at m;have B:l.length=n*k:=by rw[h.length,Ys d];simp[Yw,j]
 refine⟨_,_,p,[AC w.heap.size],na y a.eval u,.inr ⟨w.heap.size,0,n,e,l.length,?_,rfl,λ_=>by simp,(by omega),?_,by grind⟩,m,Qm.alloc _ r.sim.roLt r.sim.frLt⟩
 .rw[<- r.sim.len];simp
 .unfold World.shape?;rw[Q9];simp
theorem Ym{n:Int}{y:Nat}{c:BoundsCode}(d:0<=n)(a:n<=y):(Instr.sliceBound (.int .i64 n) y c).run P w=.ok n.toNat w:=by
 simp_all[Instr.sliceBound,asIntOf]
theorem pp{e:Nat}(E1:∀w,(underlying T).run P w=.ok (.slice e) w)(E2:∀w,(sizeOf e).run P w=.ok k w){n:Nat}{lo hi:AB AL}{l h:Nat}(f:n<=cap)
  (d:lo=AF/\l=0\/ ∃z:Int,lo=AC (.int .i64 z)/\0<=z/\z.toNat=l)(a:hi=AF/\h=n\/ ∃z:Int,hi=AC (.int .i64 z)/\0<=z/\z.toNat=h)(i:l<=h)(m:h<=n):
  (Instr.sliceAt T (.slice ad n cap) lo hi AF).run P w=.ok (.slice (if cap=l then ad else ad.map (·.add (l*k))) (h-l) (cap-l)) w:=by
 have j:(Instr.sliceBounds AE n cap lo hi AF).run P w=.ok (l,h,cap) w:=by
  rcases d with⟨rfl,rfl⟩|⟨z,rfl,g,rfl⟩<;>rcases a with⟨rfl,rfl⟩|⟨y,rfl,y0,rfl⟩
  .rfl
  .grind[Instr.sliceBounds,Sem.run_bind,Sem.run_pure,Result.andThen,Ym]
  .grind[Instr.sliceBounds,Sem.run_bind,Sem.run_pure,Result.andThen,Ym]
  .simp[Instr.sliceBounds,Vn,Vp,Result.andThen,Ym y0 (show y<=cap by omega),Ym g (show z<=y.toNat by omega)]
 simp_all[Instr.sliceAt,Instr.slice]
theorem fK{a:Act}(r:C0 fr ro σ H env N a w){x:AB Operand}{l d:Nat}(h:x=AF/\l=d\/ ∃y,∃z:Int,x=AC y/\Bu env y=.int .i64 z/\0<=z/\z.toNat=l):
  x.map a.eval=AF/\l=d\/ ∃z:Int,x.map a.eval=AC (.int .i64 z)/\0<=z/\z.toNat=l:=by
 rcases h with⟨rfl,rfl⟩|⟨y,z,rfl,e,g,f⟩
 .simp
 grind[QC]
theorem mU{e i s n:Nat}{x:Operand}{lo hi:AB Operand}{l h:Nat}(E1:∀w,(underlying T).run P w=.ok (.slice e) w)(E2:∀w,(sizeOf e).run P w=.ok k w)(F:o.op=.slice T x lo hi AF)
  (L:Bu env x=.osl i s n k)(j:lo=AF/\l=0\/ ∃y,∃z:Int,lo=AC y/\Bu env y=.int .i64 z/\0<=z/\z.toNat=l)
  (u:hi=AF/\h=n\/ ∃y,∃z:Int,hi=AC y/\Bu env y=.int .i64 z/\0<=z/\z.toNat=h)(g:l<=h)(B:h<=n):Bz P o env H (.osl i (s+l) (h-l) k):=by
 intro R W σ N a w r;have f:=Qn r x;rw[L]at f;rcases f with⟨rfl,f⟩|⟨b,p,t,G,m,f,M,X,⟨J,Q⟩,E,V⟩
 .have d:=pp (P:=P) (w:=w) E1 E2 (ad:=AF) (XU 0) (fK r j) (fK r u) g B;refine⟨_,by simp only[execOp,F,f,Vn,d,Xk];rfl,?_⟩;left
  grind
 .have d:=pp (w:=w) E1 E2 (ad:=AC ⟨b,p,AF⟩) J (fK r j) (fK r u) g B;refine⟨_,by simp only[execOp,F,M,Vn,d,Xk];rfl,?_⟩;right;by_cases O:t=l
  .refine⟨b,p,0,G,m,f,by grind,λq=>by omega,by omega,E,?_⟩
   grind
  .refine⟨b,p+l*k,t-l,G,m,f,by rw[Vt O];simp[Jz],λq=>by grind,by omega,E,?_⟩
   grind
theorem Bz.max{c:Call}{x y:Operand}{k:IntKind}{m n:Int}(l:o.op=.call c)(f:c={callee:=.builtin .max,args:= #[x,y],argTypes:=c.argTypes})(h:Bu env x=.int k m)(g:Bu env y=.int k n):
  Bz P o env H (.int k (if m<n then n else m)):=by
 intro q p σ N a w r;have j:=QC r h;have i:=QC r g;refine⟨_,?_,rfl⟩;generalize a.eval=ρ at*;have d:c.callee=.builtin .max:=by rw[f]
 have e:c.args= #[x,y]:=by rw[f]
 simp only[execOp,l,resolve,d,e,invoke,Vn,Result.andThen];simp[Builtin.max_,Builtin.max2,j,i,go_sem]
theorem Bz.min{c:Call}{x y:Operand}{k:IntKind}{m n:Int}(l:o.op=.call c)(f:c={callee:=.builtin .min,args:= #[x,y],argTypes:=c.argTypes})(h:Bu env x=.int k m)(g:Bu env y=.int k n):
  Bz P o env H (.int k (if n<m then n else m)):=by
 intro q p σ N a w r;have j:=QC r h;have i:=QC r g;refine⟨_,?_,rfl⟩;generalize a.eval=ρ at*;have d:c.callee=.builtin .min:=by rw[f]
 have e:c.args= #[x,y]:=by rw[f]
 simp only[execOp,l,resolve,d,e,invoke,Result.andThen];simp[Builtin.min_,Builtin.min2,j,i,go_sem]
end
variable {id:Nat}
section
variable {P:AK} {h0 N:Nat} {env:Env} {H:Qc} {Q:QP} {c c':Code}
def oK(h0:Nat)(Eb:Env)(Hb:Qc)(Q:QP):QP
 |.normal,env,H=>Le h0 env H Eb Hb
 |.exit id,env,H=>Q (.exit id) env H
 |.ret,env,H=>Q .ret env H
theorem TC.cut(Eb:Env)(Hb:Qc)(h:TC P h0 N c env H (oK h0 Eb Hb Q))(k:∀env H,Le h0 env H Eb Hb->Q .normal env H):TC P h0 N c env H Q:=
 h.mono λx env' H' q=>by
  cases x with
  |normal=>exact k _ _ q
  |exit id=>exact q
  |ret=>exact q
theorem gR(h:TC P h0 N c env H Q):PF P h0 N c Q .normal env H:=h
theorem gP(h:Q (.exit id) env H):PF P h0 N c Q (.exit id) env H:=h
theorem gQ(h:Q .ret env H):PF P h0 N c Q .ret env H:=h
theorem kr(h:Q .normal env H):Ot id Q .normal env H:=h
theorem ks(h:Q .normal env H):Ot id Q (.exit id) env H:=by simp_all[Ot]
theorem ko{a:Nat}(e:Nat.beq a id=AD)(h:Q (.exit a) env H):Ot id Q (.exit a) env H:=by simp[Ot,e];exact h
theorem kp(h:Q .ret env H):Ot id Q .ret env H:=h
def PP(h0:Nat)(b:Bn S B)(Eb:S->Env)(Hb:S->Qc)(Q:QP):QP
 |.normal,env,H=>∃s,b=.k s/\Le h0 env H (Eb s) (Hb s)
 |.exit id,env,H=>Q (.exit id) env H
 |.ret,env,H=>Q .ret env H
theorem qV{B:Type}{b:Bn S B}(Eb:S->Env)(Hb:S->Qc)(h:TC P h0 N c env H (PP h0 b Eb Hb Q))(k:∀s env H,b=.k s->Le h0 env H (Eb s) (Hb s)->Q .normal env H):TC P h0 N c env H Q:=
 h.mono λx env' H' q=>by
  cases x with
  |normal=>obtain⟨s,e,q⟩:=q;grind
  |exit id=>exact q
  |ret=>exact q
section
variable {S B:Type} {b:Bn S B} {Eb:S->Env} {Hb:S->Qc}
theorem YU{s:S}(e:b=.k s)(h:Le h0 env H (Eb s) (Hb s)):PP h0 b Eb Hb Q .normal env H:=⟨s,e,h⟩
theorem Qq(h:Q .ret env H):PP h0 b Eb Hb Q .ret env H:=h
end
theorem wg{x:Operand}{t:Bool}(hx:Bu env x=.bool t)(h:t=AE)(ht:TC P h0 N c env H Q):TC P h0 N (.cond x c c') env H Q:=TC.cond hx (λ_=>ht) (λq=>by grind)
theorem we{x:Operand}{t:Bool}(hx:Bu env x=.bool t)(h:t=AD)(hf:TC P h0 N c' env H Q):TC P h0 N (.cond x c c') env H Q:=TC.cond hx (λq=>by grind) (λ_=>hf)
section
variable {S B:Type} {I:S->Env->Qc->Prop}
theorem Qg{s:S}{d:Bn S B}(e:AC (Bn.k s)=AC d)(h:I s env H):UO I d Q .normal env H:=⟨s,(by grind),h⟩
theorem Qj{b:B}{d:Bn S B}(e:AC (Bn.d b)=AC d)(h:Q (.exit id) env H):UO I d Q (.exit id) env H:=⟨(by grind),h⟩
theorem Qv{b:B}{d:Bn S B}(e:AC (Bn.d b)=AC d)(h:Q .ret env H):UO I d Q .ret env H:=⟨(by grind),h⟩
end
end
theorem Q7{α β:Type}{x:AB α}{f:α->AB β}{r:β}(h:x.bind f=AC r):∃a,x=AC a/\f a=AC r:=Option.bind_eq_some_iff.1 h
def Bt(l:AA α)(i:Int):AB α:=bif 0<=i then l[i.toNat]? else AF
theorem Jw{α:Type}{l:AA α}{i:Int}{x:α}(h:Bt l i=AC x):0<=i/\l[i.toNat]?=AC x:=by
 grind[Bt]
def app(l m:AA α):AB (AA α):=bif Nat.ble (l.length+m.length) Yn then AC (l++m)else AF
variable {r:AA α}
theorem eH{l m:AA α}(h:app l m=AC r):l.length+m.length<=Yn/\l++m=r:=by
 unfold app at h;cases q:Nat.ble (l.length+m.length) Yn with
 |true=>simp_all
 |false=>grind
def E_(l:AA α)(lo hi:Int):AB (AA α):=bif AG (0<=lo)&&AG (lo<=hi)&&AG (hi<=(l.length:Int))then AC ((l.take hi.toNat).drop lo.toNat)else AF
theorem Pb{l:AA α}{lo hi:Int}(h:E_ l lo hi=AC r):0<=lo/\lo<=hi/\hi<=l.length/\(l.take hi.toNat).drop lo.toNat=r:=by
 grind[E_]
def Fe(l:AA α)(i:Int)(x:α):AB (AA α):=bif AG (0<=i)&&AG (i<(l.length:Int))then AC (l.set i.toNat x)else AF
theorem ec{α:Type}{e:α->AA A}{l:AA α}{i:Nat}{x:α}(h:l[i]?=AC x):(l.map e)[i]?=AC (e x):=by simp[h]
section
variable {P:AK} {h0 N:Nat} {env:Env} {H H':Qc} {Q:QP} {all:Array AM} {o:AM} {l:AA AM} {d:Nat} {x:A}
theorem vV(a:Bz P o env H x)(k:WO P h0 N all l (up env d x) H Q)(hg:QE all o env true:=by rfl)(hd:o.dst=AC d:=by rfl)(hN:Nat.blt d N=true:=by rfl):WO P h0 N all (o::l) env H Q:=
 YJ hg hd hN a k
theorem vH(a:Do P o env H x H')(k:WO P h0 N all l (up env d x) H' Q)(hg:QE all o env true:=by rfl)(hd:o.dst=AC d:=by rfl)(hN:Nat.blt d N=true:=by rfl)(hh:Nat.ble h0 H.length=true:=by rfl):WO P h0 N all (o::l) env H Q:=
 eG (by simp_all) hg hd hN a k
theorem vN(a:Do P o env H x H')(k:WO P h0 N all l env H' Q)(hg:QE all o env true:=by rfl)(hd:o.dst=none:=by rfl)(hh:Nat.ble h0 H.length=true:=by rfl):WO P h0 N all (o::l) env H Q:=
 vI (by simp_all) hg hd a k
theorem vU(a:Hx P o env H H')(k:WO P h0 N all l env H' Q)(hg:QE all o env true:=by rfl)(hd:o.dst=none:=by rfl)(hh:Nat.ble h0 H.length=true:=by rfl):WO P h0 N all (o::l) env H Q:=
 o8 (by simp_all) hg hd a k
theorem gT{j s:Nat}{c x:Bool}(a:x=c)(hg:o.guard=AC (j,c):=by rfl)(hs:(all[j]?).bind (·.dst)=AC s:=by rfl)(hl:lk env s=.bool x:=by rfl):QE all o env true:=by
 simp_all[QE]
theorem gF{j s:Nat}{c x:Bool}(a:x= !c)(hg:o.guard=AC (j,c):=by rfl)(hs:(all[j]?).bind (·.dst)=AC s:=by rfl)(hl:lk env s=.bool x:=by rfl):QE all o env false:=by
 simp_all[QE]
theorem Rm{x x':A}(a:x'=x)(hH:H'=H)(k:WO P h0 N all l (up env d x) H Q):WO P h0 N all l (up env d x') H' Q:=by grind
theorem Rl(hH:H'=H)(k:WO P h0 N all l env H Q):WO P h0 N all l env H' Q:=by grind
theorem Qs{a:AA A}{Hc:Qc}(π:AA Nat)(e:DN P o env H f args)(g:C P f a Hc Qr)
  (k:∀r H1,Qr r H1->WO P h0 N all l (up env d (Y6 (CF π H.length) r)) (Yj H π (H1.map (Q1 (CF π H.length)))) Q)
  (hargs:args=Fd (CF π H.length) a:=by rfl)(hH:π.map (λp=>H[p]?)=(Hc.map (Q1 (CF π H.length))).map some:=by rfl)(hπ:π.Nodup:=by decide)
  (hg:QE all o env true:=by rfl)(hd:o.dst=AC d:=by rfl)(hN:Nat.blt d N=true:=by rfl)(hh:Nat.ble h0 H.length=true:=by rfl):WO P h0 N all (o::l) env H Q:=
 WO.call π (by simp_all) hg hd (λx h=>by simp_all) e hargs hH hπ g k
end
section
variable {P:AK} {o:AM} {env:Env} {H:Qc} {α:Type} {e:α->AA A}
theorem wb{c:Call}{t a:Nat}{x:Operand}{l:AA α}(f:∀w,(underlying t).run P w=.ok (.slice a) w)(d:o.op=.call c:=by rfl)(hc:c={callee:=.builtin .len,args:= #[x],argTypes:= #[t]}:=by rfl)
  (hx:Bu env x=.rsl k (l.map e):=by rfl):Bz P o env H (.int .i64 l.length):=by
 have:=wd (H:=H) d hc f hx
 grind
theorem UN{t a:Nat}{x y:Operand}{l:AA α}{g:IntKind}{i:Int}{v:α}(h:Bt l i=AC v)(f:∀w,(underlying t).run P w=.ok (.slice a) w)(d:∀w,(sizeOf a).run P w=.ok k w)
  (j:o.op=.indexAddr t x y:=by rfl)(hx:Bu env x=.rsl k (l.map e):=by rfl)(hy:Bu env y=.int g i:=by rfl):Bz P o env H (.rp (e v)):=
 wD j f d hx hy (Jw h).1 (ec (Jw h).2)
theorem Qk{t a b n:Nat}{x y:Operand}{l:AA α}{g:IntKind}{i:Int}{v:α}(h:Bt l i=AC v)(m:l.length=n)(f:∀w,(underlying t).run P w=.ok (.slice a) w)(d:∀w,(sizeOf a).run P w=.ok k w)
  (j:o.op=.indexAddr t x y:=by rfl)(hx:Bu env x=.osl b 0 n k:=by rfl)(hy:Bu env y=.int g i:=by rfl):Bz P o env H (.ptr b (i.toNat*k)):=by
 have:=Jw h;have e:i.toNat<l.length:=(by grind);have p:=ly (H:=H) j f d hx hy this.1 (by omega)
 grind
theorem Yh{b t f:Nat}{l:AA α}{i:Int}{v:α}{a:AA A}(h:Bt l i=AC v)(hH:H[b]?=AC (.row t k (l.map e)):=by rfl)(hcs:(e v).drop f=a:=by rfl):DP H (.ptr b (i.toNat*k+f)) a:=
 DP.row hH rfl (ec (Jw h).2) hcs
theorem Ql{b t:Nat}{l:AA α}{i:Int}{v:α}{a:AA A}(h:Bt l i=AC v)(hH:H[b]?=AC (.row t k (l.map e)):=by rfl)(hcs:e v=a:=by rfl):DP H (.ptr b (i.toNat*k)) a:=
 DP.row (f:=0) hH rfl (ec (Jw h).2) hcs
theorem rQ{c:Call}{et et':Nat}{x y:Operand}{a:A}{m r:AA α}(h:app [] m=AC r)(E:Yg P T et k)(g:∀w,(underlying T').run P w=.ok (.slice et') w)(d:HQ P H a k (m.map e))
  (f:o.op=.call c:=by rfl)(hc:c={callee:=.builtin .append,args:= #[x,y],argTypes:= #[T,T']}:=by rfl)(hx:Bu env x=.nils:=by rfl)(hy:Bu env y=a:=by rfl):
  Do P o env H (.osl H.length 0 r.length k) (H++[.row et k (r.map e)]):=by
 obtain⟨i,rfl⟩:=eH h;have:=Qg1 E g f hc hx hy d (by grind)
 grind
theorem Qu{c:Call}{et et' i n:Nat}{x y:Operand}{a:A}{l m r:AA α}(h:app l m=AC r)(E:Yg P T et k)(g:∀w,(underlying T').run P w=.ok (.slice et') w)(f:HQ P H a k (m.map e))
  (d:l.length=n:=by rfl)(ho:o.op=.call c:=by rfl)(hc:c={callee:=.builtin .append,args:= #[x,y],argTypes:= #[T,T']}:=by rfl)(hx:Bu env x=.osl i 0 n k:=by rfl)
  (hH:H[i]?=AC (.row et k (l.map e)):=by rfl)(hy:Bu env y=a:=by rfl):
  Do P o env H (.osl H.length 0 r.length k) (H.set i .dead++[.row et k (r.map e)]):=by
 obtain⟨j,rfl⟩:=eH h;subst d;have:=ti E g ho hc hx hH (by simp) hy f (by grind) (gs:=(l++m).map e) (by rw[VI (by simp)];simp)
 grind
theorem PV{l:AA α}:HQ P H (.rsl k (l.map e)) k (l.map e):=HQ.rsl
theorem QS{i n t:Nat}{l:AA α}(hH:H[i]?=AC (.row t k (l.map e)):=by rfl)(hn:l.length=n:=by rfl):HQ P H (.osl i 0 n k) k (l.map e):=
 HQ.osl hH (by grind[List.take_of_length_le]) (by simp[hn])
theorem Yt{t n b f:Nat}{x y:Operand}{l l':AA α}{i:Int}{v m:α}{a:A}{d:Nat}(h:Bt l i=AC v)(r:Fe l i m=AC l')(p:∀w,(sizeOf t).run P w=.ok n w)(g:d=i.toNat*k+f)(j:splice (e v) f vs=e m)
  (q:o.op=.store t x y:=by rfl)(hx:Bu env x=.ptr b d:=by rfl)(hH:H[b]?=AC (.row T k (l.map e)):=by rfl)
  (hy:Bu env y=a:=by rfl)(hk:Yo a=true:=by rfl)(hv:Yf a=vs:=by rfl)(hn:vs.length=n:=by rfl)(hp:vs.all Yr=true:=by rfl)(hd:YO vs=true:=by rfl)(hf:Nat.ble (f+n) k=true:=by rfl):
  Hx P o env H (H.set b (.row T k (l'.map e))):=by
 refine QiI q hx hH p g (ec (Jw h).2) hy hk hv hn hp hd hf j ?_
 grind[Fe,List.map_set]
end
def ZR(a:A)(v:AL):Prop:=∀ro σ w,VR ro σ w a v
def ZL(az:AA A)(l:AA AL):Prop:=∀ro σ w,LR ro σ w az l
theorem ZR.int{k:IntKind}{n:Int}:ZR (.int k n) (.int k n):=λ_ _ _=>rfl
theorem ZR.bool{b:Bool}:ZR (.bool b) (.bool b):=λ_ _ _=>rfl
theorem ZR.str:ZR (.str []) (.string ⟨#[]⟩):=λ_ _ _=>rfl
theorem ZR.rsl{α:Type}{k:Nat}{e:α->AA A}:ZR (.rsl k (List.map e [])) (.slice AF 0 0):=λ_ _ _=>⟨AF,0,rfl,XU _,.inl rfl⟩
theorem ZR.nils:ZR .nils (.slice AF 0 0):=λ_ _ _=>rfl
theorem ZR.nilp:ZR .nilp (.pointer AF):=λ_ _ _=>rfl
theorem ZR.nilf:ZR .nilf .nilFunc:=λ_ _ _=>rfl
theorem ZR.nilm:ZR .nilm (.map AF):=λ_ _ _=>rfl
theorem wI:ZR .nilif .nilIface:=λ_ _ _=>rfl
theorem ZL.nil:ZL [] []:=λ_ _ _=>rfl
variable {az:AA A}
theorem ZL.cons{a:A}{v:AL}{l:AA AL}(h:ZR a v)(k:ZL az l):ZL (a::az) (v::l):=λro σ w=>⟨v,l,rfl,h ro σ w,k ro σ w⟩
theorem ZR.agg{az:AA A}{l:AA AL}(h:ZL az l):ZR (.agg az) (.agg l.toArray):=λro σ w=>⟨l,rfl,h ro σ w⟩
section
variable {P:AK} {o:AM} {env:Env} {H:Qc}
theorem f6{t:Nat}{z:AL}{v:A}{d:AA A}(j:∀w,(zeroValue t).run P w=.ok z w)(i:ZR v z)(m:o.op=.alloc t:=by rfl)(hk:Yo v=true:=by rfl)(hcs:Yf v=d:=by rfl)(hpl:d.all Yr=true:=by rfl):
  Do P o env H (.ptr H.length 0) (H++[.cells t d]):=by
 intro k f σ N a w r;obtain⟨l,h,g⟩:=(i f σ w).cells hk;subst hcs;refine⟨.pointer (AC ⟨w.heap.size,0,AF⟩),w.alloc (.cells l.toArray t),f,[AC w.heap.size],?_,⟨w.heap.size,?_,rfl⟩,r.sim.allocCells g (g.plain hpl),Qm.alloc _ r.sim.roLt r.sim.frLt⟩
 .have e:(newVar t z).run P w=.ok ⟨w.heap.size,0,AF⟩ (w.alloc (.cells l.toArray t)):=by
   unfold newVar;rw[h];rfl
  simp_all[execOp,Instr.alloc]
 .rw[<- r.sim.len];simp
theorem QkV{p q:Bool}(a:∀w,(underlying t).run P w=.ok .bool w):(Op.equal t (.bool p) (.bool q)).run P w=.ok (p==q) w:=by
 have k:∀d,(Op.equalIn (d+1) t (.bool p) (.bool q)).run P w=.ok (p==q) w:=by
  simp[Op.equalIn,a]
 exact k 9999
theorem s9{x y:Operand}{p q:Bool}(f:∀w,(underlying t).run P w=.ok .bool w)(i:o.op=.binOp .neq t x y u:=by rfl)(hx:Bu env x=.bool p:=by rfl)(hy:Bu env y=.bool q:=by rfl):Bz P o env H (.bool (p != q)):=by
 intro h d σ N a w r;have g:=fJ r hx;have e:=fJ r hy;refine⟨_,?_,rfl⟩
 simp_all[execOp,Go.binOp,eqGuard,QkV,bne]
theorem Q3{x y:Operand}{s:AA UInt8}{k:IntKind}{i:Int}{c:UInt8}(h:Bt s i=AC c)(d:∀w,(underlying t).run P w=.ok .string w)(a:o.op=.index t x y:=by rfl)(hx:Bu env x=.str s:=by rfl)(hy:Bu env y=.int k i:=by rfl):
  Bz P o env H (.int .u8 c.toNat):=yJ a d hx hy (Jw h).1 (Jw h).2
theorem yH{c:Call}{t a i n:Nat}{x:Operand}(e:∀w,(underlying t).run P w=.ok (.slice a) w)(d:o.op=.call c:=by rfl)(hc:c={callee:=.builtin .len,args:= #[x],argTypes:= #[t]}:=by rfl)
  (hx:Bu env x=.osl i 0 n k:=by rfl):Bz P o env H (.int .i64 n):=rR d hc e hx
end
def Qe(k:IntKind)(n:Int):AA A:=[.int k n]
def G5(b:Bool):AA A:=[.bool b]
def JM(s:AA UInt8):AA A:=[.str s]
def Qw(k:Nat)(e:α->AA A)(l:AA α):AA A:=[.rsl k (l.map e)]
theorem rY{o:AM}{a:Act}{next:Act->AJ->Prop}{e:Result Next}
  (k:∀a' w',next a' w'->a'.defers=a.defers)(h:o.uponIn (WF rd) 0 P a next Q e):
  o.uponIn (WF rd) 0 P a (λa' w'=>next a' w'/\ ∃v,a'=a.put o.dst v) Q e:=by
 cases e with
 |ok n w'=>
  cases n with
  |value v=>exact⟨h,_,rfl⟩
  |skip=>exact⟨h,_,rfl⟩
  |defer d=>
   have:=congrArg List.length (k _ _ h)
   revert this
   cases o.dst<;>simp[Act.put]
  |enter f g=>
   exact⟨h.1,CallsIn.mono h.2 (by grind)⟩
  |row r g=>exact⟨h.1,RowsIn.mono h.2 (by grind)⟩
  |round l f i assign j=>exact⟨h.1,RoundIn.mono h.2 (by grind)⟩
  |_=>exact h.elim
 |halt x w'=>cases x<;>first|exact h|exact h.elim
def Y0(e:Env)(H:Qc):QP:=λx e' H'=>x=.normal/\e'=e/\H'=H
theorem Y0.mk{e:Env}{H:Qc}:Y0 e H .normal e H:=⟨rfl,rfl,rfl⟩
inductive Sb (af bf ds:List Nat) (xs:List A) (env0:Env):Env->Prop
 |nil:Sb af bf ds xs env0 []
 |dep (j:Nat) {s:Nat} {a:A} {r:Env} (h1:af.contains j=AE) (h2:ds[j]?=AC s) (h3:xs[j]?=AC a) (k:Sb af bf ds xs env0 r):Sb af bf ds xs env0 ((s,a)::r)
 |old {s:Nat} {a:A} {r:Env} (h1:ds.contains s=AD) (h2:lk env0 s=a) (k:Sb af bf ds xs env0 r):Sb af bf ds xs env0 ((s,a)::r)
 |pre (j:Nat) {s:Nat} {a:A} {r:Env} (h1:bf.contains j=AE) (h2:ds[j]?=AC s) (h3:lk env0 s=a) (k:Sb af bf ds xs env0 r):Sb af bf ds xs env0 ((s,a)::r)
def Qh(o:AM):AA Nat:=(o.after.toList.filter (Region.binds .any)).map (·.on)
def Mo(l:AA AM)(i:Nat):AA Nat:=(List.range l.length).filter λj=>((l[j]?).map Qh).getD [] |>.contains i
inductive Mt (P:AK) (N:Nat) (l:List AM) (ds:List Nat) (xs:List A) (env0:Env) (i:Nat) (H H':Qc):Prop
 |mk (o:AM) (e:Env) (d:Nat) (x:A) (ho:l[i]?=AC o) (hd:o.dst=AC d) (hx:xs[i]?=AC x) (hs:Sb (Qh o) (Mo l i) ds xs env0 e)
   (h:WO P H.length N l.toArray [o] e H (Y0 (up e d x) H')):Mt P N l ds xs env0 i H H'
variable {env0:Env}
theorem Mt.use{l:AA AM}{J:AA Nat}{xs:AA A}{i:Nat}{H:Qc}(t:Mt P N l J xs env0 i H H'){K:Act->AJ->Prop}{a:Act}{o:AM}(Y:l[i]?=AC o)
  (p:B9 fr ro σ H w)(hN:a.tmps.size=N)(B:Kw fr a.defers w)(V:Iu rd fr w)
  (hD:∀j∈Qh o,∀s x,J[j]?=AC s->xs[j]?=AC x->VR ro σ w x (a.tmps.getD s undef))
  (hE:∀s,J.contains s=AD->VR ro σ w (lk env0 s) (a.tmps.getD s undef))(hP:∀j s,(Mo l i).contains j=AE->J[j]?=AC s->VR ro σ w (lk env0 s) (a.tmps.getD s undef))
  (hK:∀v w' ro' τ d x,o.dst=AC d->xs[i]?=AC x->VR ro' (σ++τ) w' x ((a.put o.dst v).tmps.getD d undef)->B9 fr ro' (σ++τ) H' w'->Qm fr ro w ro' w'->K (a.put o.dst v) w'):
  wpOpIn (WF rd) 0 P l.toArray Q i K a w:=by
 obtain⟨y,e,d,x,T,hd,hx,hs,h⟩:=t;obtain rfl:y=o:=X0 (T.symm.trans Y);have z:C0 fr ro σ H e N a w:=by
  refine⟨p,?_,hN,B⟩;intro s;clear h
  induction hs with
  |nil=>exact trivial
  | @dep j s1 u r k g h3 _ ih=>
   unfold lk;cases t:Nat.beq s s1 with
   |false=>exact ih
   |true=>
    obtain rfl:=XR t
    grind
  | @old s1 u r k g _ ih=>
   unfold lk;cases t:Nat.beq s s1 with
   |false=>exact ih
   |true=>
    obtain rfl:=XR t
    grind
  | @pre j s1 u r k g h3 _ ih=>
   unfold lk;cases t:Nat.beq s s1 with
   |false=>exact ih
   |true=>
    obtain rfl:=XR t
    grind
 have F:=h rd fr ro σ a w z V;have fin:∀v w',He H.length fr ro σ w N a.defers (Y0 (up e d x) H') .normal (a.put y.dst v) w'->K (a.put y.dst v) w':=by
  rintro v w' ⟨_,X,H2,ro',σ',aa,_,⟨_,rfl,rfl⟩,r',m,ht,_,R⟩;have hσ:σ'=σ++σ'.drop H.length:=by
   conv=>lhs;rw[<- XA H.length σ']
   rw[ht, <- p.len,Va]
  have G:=r'.env d;unfold lk at G;rw[VF]at G;rw[hσ]at G;refine hK v w' ro' (σ'.drop H.length) d x hd hx G ?_ m;rw[<- hσ];exact r'.sim.frMono R.sub
 unfold wpOpIn;have M:l.toArray[i]?=AC y:=by simpa using Y
 rw[M];simp only;unfold D_ wpListIn at F;split at F
 .rename_i hw;rw[Vu hw];obtain⟨L,F⟩:=F;refine⟨L,?_⟩;have g:=rY (by
   intro a' w' q;unfold wpListIn at q;obtain⟨_,_,_,_,_,_,_,_,_,_,_,q,_⟩:=q;exact q) F
  generalize(y.semAt (WF rd).round a.eval).run P w=res at*;cases res with
  |ok n w'=>
   cases n with
   |value v=>exact fin _ _ g.1
   |skip=>exact fin _ _ g.1
   |defer df=>
    exfalso;obtain⟨⟨_,_,_,_,_,_,_,_,_,_,_,q,_⟩,_⟩:=g;have:=congrArg List.length q
    revert this
    cases y.dst<;>simp[Act.put]
   |enter f E=>
    refine⟨g.1,CallsIn.mono g.2 (λe O m=>?_)⟩;cases e with
    |returned v=>exact fin _ _ m.1
    |panicked c=>obtain⟨u,_,_,_,_,_,k,⟨rfl,_⟩,_⟩:=m;exact k.elim
    |outgrown=>obtain⟨a1,w1,u,_,_,_,_,_,k,⟨rfl,_⟩,_⟩:=m;exact k.elim
   |row r E=>
    exact⟨g.1,RowsIn.mono g.2 (λ_ _ m=>fin _ _ m.1)⟩
   |round l f tmps assign W=>
    refine⟨g.1,RoundIn.mono g.2 (λe O m=>?_)⟩;cases e with
    |returned v=>exact fin _ _ m.1
    |panicked c=>obtain⟨u,_,_,_,_,_,k,⟨rfl,_⟩,_⟩:=m;exact k.elim
    |outgrown=>obtain⟨a1,w1,u,_,_,_,_,_,k,⟨rfl,_⟩,_⟩:=m;exact k.elim
   |_=>exact g.elim
  |halt x w'=>
   cases x with
   |panic v=>obtain⟨u,_,_,_,_,_,k,⟨rfl,_⟩,_⟩:=g;exact k.elim
   |_=>exact g.elim
 simp_all[wpListIn]
theorem least{p:Nat->Prop}(a:∀i,p i\/ ¬p i):∀n,p n->∃i,i<=n/\p i/\ ∀j,j<i->¬p j:=by
 intro n
 induction n using Nat.strongRecOn with
 |ind n d=>
  grind
def Dg(L:Array Bool)(i:Nat):Prop:=L[i]?=AC AE
variable {L:Array Bool}
theorem UY{l:AA AM}(n:L.size=l.length){i:Nat}:
  i∈Region.ready .any l.toArray L↔ ∃o,l[i]?=AC o/\ ¬Dg L i/\ ∀j∈Qh o,Dg L j:=by
 unfold Region.ready;simp only[Xd,List.mem_range,XX,XH];have d:∀j,L.getD j AD=AE↔Dg L j:=by
  intro j;unfold Dg;rw[Array.getD_eq_getD_getElem?]
  grind
 constructor
 .rintro⟨f,h,a⟩;refine⟨l[i],(by simp),?_,?_⟩
  .grind
  .rw[XL f]at a;simp only[Xj,Option.getD_some,Array.all_eq_true']at a;intro j g;unfold Qh at g
   grind
 .rintro⟨o,f,h,a⟩;have k:i<l.length:=(by grind);refine⟨k,?_,?_⟩
  .grind
  .rw[f];simp only[Xj,Option.getD_some,Array.all_eq_true'];intro e p;cases m:Region.binds .any e with
   |false=>simp
   |true=>
    have:=(d _).2 (a e.on (by unfold Qh;grind))
    grind
theorem JQ{i j:Nat}(hi:i<L.size):Dg (L.setIfInBounds i AE) j↔j=i\/Dg L j:=by
 grind[Dg]
def MS(L:Array Bool):Nat:=L.toList.countP (!·)
theorem l_{i:Nat}(hi:i<L.size)(h:¬Dg L i):MS (L.setIfInBounds i AE)+1=MS L:=by
 unfold MS;have a:L.toList[i]=false:=by
  grind[Dg]
 grind
theorem pu{i:Nat}(hi:i<L.size)(h:¬Dg L i):0<MS L:=by have:=l_ hi h;omega
inductive MC (l:List AM) (m:Nat):Nat->Prop
 |one {o:AM} {j:Nat} (ho:l[m]?=AC o) (hj:j∈Qh o):MC l m j
 |step {o:AM} {i j:Nat} (h:MC l m i) (ho:l[i]?=AC o) (hj:j∈Qh o):MC l m j
def Z3(l:AA AM):Nat->AA Nat->AA Nat
 |0,S=>S
 |j+1,S=>Z3 l j (bif S.contains j then S++(match l[j]? with|some o=>Qh o|none=>[])else S)
theorem fc{l:AA AM}{m:Nat}:∀(n:Nat) (S:AA Nat),(∀j∈S,MC l m j)->∀j∈Z3 l n S,MC l m j
 |0,S,h,j,hj=>h j hj
 |n+1,S,h,j,hj=>by
  refine fc n _ ?_ j hj;intro i hi;cases q:S.contains n with
  |false=>grind
  |true=>
   rw[q]at hi;rcases VD.1 hi with z|z
   .exact h i z
   .cases ho:l[n]? with
    |none=>grind
    |some o=>rw[ho]at z;exact .step (by grind) ho z
def H_(ds:AA Nat)(xs:AA A)(env0:Env):Env:=ds.zip xs++env0
theorem xG{a:AA Nat}{xs:AA A}(e:a.length=xs.length)(s:Nat):
  (∃(j:Nat) (x:A),a[j]?=AC s/\xs[j]?=AC x/\lk (H_ a xs env0) s=x)\/(a.contains s=AD/\lk (H_ a xs env0) s=lk env0 s):=by
 unfold H_
 induction a generalizing xs with
 |nil=>simp
 |cons d a f=>
  cases xs with
  |nil=>simp at e
  |cons x xs=>
   simp[X2,Nat.add_right_cancel_iff]at e;simp only[List.zip_cons_cons,VK,lk];cases h:Nat.beq s d with
   |true=>
    obtain rfl:=XR h;left;exact⟨0,x,rfl,rfl,by simp⟩
   |false=>
    have g:s≠d:=λq=>by simp_all
    rcases f e with⟨j,y,k,i,l⟩|⟨k,i⟩
    .left;exact⟨j+1,y,by grind,by grind,by grind⟩
    grind
def CQ.nodupB:AA Nat->Bool
 |[]=>AE
 |x::r=> !r.contains x&&CQ.nodupB r
def CQ.goB(l:AA AM)(m:Nat):Nat->AA AM->Bool
 |_,[]=>AE
 |i,o::r=>(Qh o).all (λj=>Nat.blt j i)&&(bif Nat.beq i m then(List.range m).all (λj=>(Z3 l m (Qh o)).contains j)else bif Nat.blt m i then(Qh o).contains (i-1)else AE)&&CQ.goB l m (i+1) r
def CQ.loB(m k:Nat)(los:AA Nat)(hs:AA Bool):Nat->AA AM->Bool
 |_,[]=>(List.range k).all λj=>(List.range m).any λi=>hs.getD i AD&&Nat.beq (los.getD i 0) j
 |i,o::r=>(bif Nat.blt i m then
   (Nat.beq (los.getD i 0) 0||(Qh o).any (λj=>Nat.blt j m&&Nat.ble (los.getD i 0) (los.getD j 0+(if hs.getD j AD then 1 else 0))))
   &&(!hs.getD i AD||(Nat.blt (los.getD i 0) k&&(List.range m).all (λj=> !hs.getD j AD|| !Nat.beq (los.getD i 0) (los.getD j 0)||Nat.beq i j)))
  else AE)&&CQ.loB m k los hs (i+1) r
def CQ(l:AA AM)(m k N:Nat)(ds los:AA Nat)(hs:AA Bool):Bool:=
 Nat.ble m l.length&&(ds.length==m)&&(l.take m).map (·.dst)==ds.map AC&&ds.all (λd=>Nat.blt d N)&&CQ.nodupB ds
 &&CQ.goB l m 0 l&&(CQ.loB m k los hs 0 l)
theorem t7{a:AA Nat}(h:CQ.nodupB a=AE):∀(i j d:Nat),a[i]?=AC d->a[j]?=AC d->i=j:=by
 induction a with
 |nil=>simp
 |cons x r e=>
  simp[CQ.nodupB,XX]at h
  grind
theorem ql{l:AA AM}:∀(r:AA AM) (b:Nat),CQ.goB l m b r=AE->∀(i:Nat) (o:AM),r[i]?=AC o->
  (∀j∈Qh o,j<b+i)/\(b+i=m->∀j,j<m->j∈Z3 l m (Qh o))/\(m<b+i->b+i-1∈Qh o):=by
 intro r
 induction r with
 |nil=>simp
 |cons x r g=>
  intro b h i o e;simp only[CQ.goB]at h;cases i with
  |zero=>
   simp at e;refine⟨λj d=>?_,λa j d=>?_,λa=>?_⟩
   .simp_all
   .simp_all
   .have f:Nat.beq b m=false:=by
     cases q:Nat.beq b m with
     |false=>rfl
     |true=>simp_all
    have k:Nat.blt m b=true:=by simp_all
    grind
  |succ i=>
   grind
inductive Ob (P:AK) (N:Nat) (l:List AM) (ds:List Nat) (xs:List A) (env0:Env):Nat->List (List (Qc×Qc))->Prop
 |nil {i:Nat}:Ob P N l ds xs env0 i []
 |cons {i:Nat} {s:List (Qc×Qc)} {r:List (List (Qc×Qc))} (h:∀p∈s,Mt P N l ds xs env0 i p.1 p.2) (k:Ob P N l ds xs env0 (i+1) r):Ob P N l ds xs env0 i (s::r)
theorem Ob.get{l:AA AM}{a:AA Nat}{xs:AA A}{b:Nat}{d:AA (AA (Qc×Qc))}(h:Ob P N l a xs env0 b d):
  ∀(i:Nat) (s:AA (Qc×Qc)),d[i]?=AC s->∀p∈s,Mt P N l a xs env0 (b+i) p.1 p.2:=by
 induction h with
 |nil=>simp
 | @cons b1 s1 r1 h _ ih=>
  grind
theorem Ob.st0{l:AA AM}{a:AA Nat}{xs:AA A}{i:Nat}:∀p∈([]:AA (Qc×Qc)),Mt P N l a xs env0 i p.1 p.2:=by
 simp
theorem Ob.stC{l:AA AM}{a:AA Nat}{xs:AA A}{i:Nat}{H:Qc}{r:AA (Qc×Qc)}(h:Mt P N l a xs env0 i H H')
  (k:∀p∈r,Mt P N l a xs env0 i p.1 p.2):∀p∈(H,H')::r,Mt P N l a xs env0 i p.1 p.2:=by
 grind
theorem HW.nil{H:Qc}:HW H [] []:=trivial
theorem HW.cons{H:Qc}{d f:AA A}{a b:A}(e:az=a::d)(h:bF H a b)(k:HW H d f):HW H az (b::f):=by subst e;exact⟨h,k⟩
section
variable {P:AK} {o:AM} {env:Env} {H:Qc} {α:Type} {e:α->AA A}
end
inductive PL (P:AK):List Field->List (Nat×Nat)->Prop
 |nil:PL P [] []
 |cons {f:Field} {n:Nat} {fs:List Field} {pl:List (Nat×Nat)} (h:∀w,(sizeOf f.type).run P w=.ok n w) (k:PL P fs pl):PL P (f::fs) ((f.offset,n)::pl)
theorem PL.run{P:AK}{fs:AA Field}{a:AA (Nat×Nat)}(h:PL P fs a):∀w,(fs.mapM λf=>(do pure (f.offset, <- sizeOf f.type):Sem (Nat×Nat))).run P w=.ok a w:=by
 induction h with
 |nil=>intro w;rfl
 |cons h _ ih=>
  simp_all
structure T9 (P:AK) (t:TypeId) (pl:List (Nat×Nat)):Prop where
 un:∃fs:List Field,(∀w,(underlying t).run P w=.ok (.struct fs.toArray) w)/\PL P fs pl
section
variable {P:AK} {o:AM} {env:Env} {H:Qc}
def PT(env:Env)(pl:AA (Nat×Nat)):AA A->AA (Nat×Operand)->AB (AA A)
 |cs,[]=>AC cs
 |cs,(i,x)::r=>match pl[i]? with
  |none=>AF
  |some (off,size)=>bif Yo (Bu env x)&&Nat.beq (Yf (Bu env x)).length size&&Nat.ble (off+size) cs.length then PT env pl (splice cs off (Yf (Bu env x))) r else AF
theorem mS{fr ro:Nat->Prop}{σ:CD}{N:Nat}{a:Act}{w:AJ}(r:C0 fr ro σ H env N a w){f:AA (Nat×Nat)}:∀(parts:AA (Nat×Operand)) (e:AA A) (l:AA AL) (d:AA A),
  LR ro σ w e l->PT env f e parts=AC d->
  ∃l',Instr.fill (f.toArray[·]?) l.toArray (parts.map λp=>(p.1,a.eval p.2))=AC l'.toArray/\LR ro σ w d l'
 |[],e,l,d,h,q=>by
  cases q;exact⟨l,rfl,h⟩
 |(i,x)::rest,e,l,d,h,q=>by
  unfold PT at q;cases hp:f[i]? with
  |none=>grind
  |some p=>
   obtain⟨off,size⟩:=p;rw[hp]at q;simp at q;cases hc:(Yo (Bu env x)&&Nat.beq (Yf (Bu env x)).length size&&Nat.ble (off+size) e.length)with
   |false=>grind
   |true=>
    rw[hc]at q;simp[XX]at hc;obtain⟨⟨c1,c2⟩,c3⟩:=hc;obtain⟨m,q1,q2⟩:=(Qn r x).cells c1;have hm:m.length=size:=by rw[q2.length];simp_all
    have hl:=h.length;obtain⟨l',j,g⟩:=mS r rest _ (splice l off m) d (h.splice off q2) q
    grind[rz,Nat.le_of_ble_eq_true]
theorem Bz.build{t:TypeId}{z:AL}{zs d:AA A}{f:AA (Nat×Nat)}{parts:AA (Nat×Operand)}(i:∀w,(zeroValue t).run P w=.ok z w)(u:ZR (.agg zs) z)(h:T9 P t f)
  (s:o.op=.build t parts.toArray:=by rfl)(hf:PT env f zs parts=AC d:=by rfl):Bz P o env H (.agg d):=by
 intro x g σ N a w r;obtain⟨y,q,n⟩:=h.un;obtain⟨l,rfl,j⟩:=u g σ w;obtain⟨e,m,p⟩:=mS r parts zs l d j hf;refine⟨.agg e.toArray,?_,e,rfl,p⟩;have k:=n.run w;simp only[execOp,s,Instr.build,Vn,i,Result.andThen,q,XJ,List.mapM_toArray,Sem.run_map,k,Value.cells,m,Vp]
end
def nz(n:Int):AB Unit:=bif n==0 then AF else AC ()
section
variable {P:AK} {o:AM} {env:Env} {H:Qc}
theorem tC{x:Operand}{a:A}(k:o.op=.nilCheck x)(g:Bu env x=a:=by rfl)(hk:(match a with|.ptr _ _=>AE|.rp _=>AE|_=>AD)=true:=by rfl):Bz P o env H a:=by
 intro j i σ N ac w r;have h:=Qn r x;rw[g]at h;cases a<;>first|(cases hk)|skip
 .obtain⟨b,f,e⟩:=h;refine⟨_,?_,b,f,rfl⟩
  simp_all[execOp]
 .obtain⟨b,d,f,e⟩:=h;refine⟨_,?_,b,d,rfl,e⟩
  simp_all[execOp]
end
mutual
def D9(i k:Nat)(es:AA (AA A)):A->A->Prop
 |.agg az,b=>∃bs,b=.agg bs/\GZ i k es az bs
 |.fn f x c,b=>∃x' c',b=.fn f x' c'/\GZ i k es x x'/\GZ i k es c c'
 |.iface t a,b=>∃a',b=.iface t a'/\D9 i k es a a'
 |.tup az,b=>∃bs,b=.tup bs/\GZ i k es az bs
 |.osl j o n k',b=>b=.osl j o n k'\/(j=i/\o=0/\k'=k/\n=es.length/\b=.rsl k es)
 |.nils,b=>b=.nils\/ ∃k',b=.rsl k' []
 |a,b=>b=a
def GZ(i k:Nat)(es:AA (AA A)):AA A->AA A->Prop
 |[],b=>b=[]
 |a::az,b=>∃a' as',b=a'::as'/\D9 i k es a a'/\GZ i k es az as'
end
mutual
theorem D9.refl{i k:Nat}{es:AA (AA A)}:∀a:A,D9 i k es a a
 |.agg az=>⟨az,rfl,GZ.refl az⟩
 |.fn _ x c=>⟨x,c,rfl,GZ.refl x,GZ.refl c⟩
 |.iface _ a=>⟨a,rfl,D9.refl a⟩
 |.tup az=>⟨az,rfl,GZ.refl az⟩
 |.osl _ _ _ _=>.inl rfl
 |.nils=>.inl rfl
 |.any=>rfl
 |.bool _=>rfl
 |.int _ _=>rfl
 |.str _=>rfl
 |.nilp=>rfl
 |.ptr _ _=>rfl
 |.rp _=>rfl
 |.rsl _ _=>rfl
 |.nilf=>rfl
 |.nilif=>rfl
 |.map _=>rfl
 |.nilm=>rfl
theorem GZ.refl{i k:Nat}{es:AA (AA A)}:∀az:AA A,GZ i k es az az
 |[]=>rfl
 |a::az=>⟨a,az,rfl,D9.refl a,GZ.refl az⟩
end
theorem D9.agg{i k:Nat}{es:AA (AA A)}{az bs:AA A}(h:GZ i k es az bs):D9 i k es (.agg az) (.agg bs):=⟨bs,rfl,h⟩
theorem D9.tup{i k:Nat}{es:AA (AA A)}{az bs:AA A}(h:GZ i k es az bs):D9 i k es (.tup az) (.tup bs):=⟨bs,rfl,h⟩
theorem D9.iface{i k:Nat}{es:AA (AA A)}{t:Nat}{a b:A}(h:D9 i k es a b):D9 i k es (.iface t a) (.iface t b):=⟨b,rfl,h⟩
theorem D9.own{i n:Nat}(hn:n=es.length):D9 i k es (.osl i 0 n k) (.rsl k es):=.inr (by grind)
theorem D9.nil{i k':Nat}:D9 i k es .nils (.rsl k' []):=.inr ⟨k',rfl⟩
theorem GZ.cons{i:Nat}{a b:A}{bs:AA A}(h:D9 i k es a b)(q:GZ i k es az bs):GZ i k es (a::az) (b::bs):=⟨b,bs,rfl,h,q⟩
mutual
theorem lD{i k:Nat}{es:AA (AA A)}{ro ro':Nat->Prop}{σ:CD}{w:AJ}(ext:Cx ro σ w ro' σ w)
  (hf:∀v,VR ro σ w (.osl i 0 es.length k) v->VR ro' σ w (.rsl k es) v):∀(a b:A) (v:AL),D9 i k es a b->VR ro σ w a v->VR ro' σ w b v
 |.agg az,b,v,h,q=>by
  obtain⟨bs,rfl,h⟩:=h;obtain⟨l,rfl,q⟩:=q;exact⟨l,rfl,T8 ext hf az bs l h q⟩
 |.fn f x c,b,v,h,q=>by
  obtain⟨x',c',rfl,h1,h2⟩:=h;obtain⟨l,l',rfl,q1,q2⟩:=q;exact⟨l,l',rfl,T8 ext hf x x' l h1 q1,T8 ext hf c c' l' h2 q2⟩
 |.iface t a,b,v,h,q=>by
  obtain⟨a',rfl,h⟩:=h;obtain⟨x,rfl,q⟩:=q;exact⟨x,rfl,lD ext hf a a' x h q⟩
 |.tup az,b,v,h,q=>by
  obtain⟨bs,rfl,h⟩:=h;obtain⟨l,rfl,q⟩:=q;exact⟨l,rfl,T8 ext hf az bs l h q⟩
 |.osl j o n k',b,v,h,q=>by
  rcases h with rfl|⟨rfl,rfl,rfl,rfl,rfl⟩
  .exact q.mono ext
  .exact hf v q
 |.nils,b,v,h,q=>by
  rcases h with rfl|⟨k',rfl⟩
  .exact q
  .obtain rfl:v=.slice AF 0 0:=q;exact⟨AF,0,rfl,XU _,.inl rfl⟩
 |.any,b,v,h,q=>by obtain rfl:b=_:=h;trivial
 |.bool _,b,v,h,q=>by obtain rfl:b=_:=h;exact q
 |.int _ _,b,v,h,q=>by obtain rfl:b=_:=h;exact q
 |.str _,b,v,h,q=>by obtain rfl:b=_:=h;exact q
 |.nilp,b,v,h,q=>by obtain rfl:b=_:=h;exact q
 |.ptr _ _,b,v,h,q=>by obtain rfl:b=_:=h;exact q.mono ext
 |.rp _,b,v,h,q=>by obtain rfl:b=_:=h;exact q.mono ext
 |.rsl _ _,b,v,h,q=>by obtain rfl:b=_:=h;exact q.mono ext
 |.nilf,b,v,h,q=>by obtain rfl:b=_:=h;exact q
 |.nilif,b,v,h,q=>by obtain rfl:b=_:=h;exact q
 |.map _,b,v,h,q=>by obtain rfl:b=_:=h;exact q.mono ext
 |.nilm,b,v,h,q=>by obtain rfl:b=_:=h;exact q
theorem T8{i k:Nat}{es:AA (AA A)}{ro ro':Nat->Prop}{σ:CD}{w:AJ}(ext:Cx ro σ w ro' σ w)
  (hf:∀v,VR ro σ w (.osl i 0 es.length k) v->VR ro' σ w (.rsl k es) v):∀(az bs:AA A) (l:AA AL),GZ i k es az bs->LR ro σ w az l->LR ro' σ w bs l
 |[],bs,l,h,q=>by obtain rfl:bs=[]:=h;exact q
 |a::az,bs,l,h,q=>by
  obtain⟨a',as',rfl,h1,h2⟩:=h;obtain⟨v,l',rfl,q1,q2⟩:=q;exact⟨v,l',rfl,lD ext hf a a' v h1 q1,T8 ext hf az as' l' h2 q2⟩
end
def bK(i k:Nat)(es:AA (AA A))(x y:B8):Prop:=y=x\/ ∃t cs cs',x=.cells t cs/\y=.cells t cs'/\GZ i k es cs cs'
def FT(i k:Nat)(es:AA (AA A)):Qc->Qc->Prop
 |[],h=>h=[]
 |x::r,h=>∃y r',h=y::r'/\bK i k es x y/\FT i k es r r'
def Fc(i k:Nat)(es:AA (AA A))(env:Env):Env->Prop
 |[]=>True
 |(s,a)::r=>D9 i k es (lk env s) a/\Fc i k es env r
theorem FT.nil{i:Nat}:FT i k es [] []:=rfl
theorem FT.keep{i:Nat}{x:B8}{r r':Qc}(h:FT i k es r r'):FT i k es (x::r) (x::r'):=⟨x,r',rfl,.inl rfl,h⟩
theorem FT.cells{i k t:Nat}{es:AA (AA A)}{cs cs':AA A}{r r':Qc}(q:GZ i k es cs cs')(h:FT i k es r r'):FT i k es (.cells t cs::r) (.cells t cs'::r'):=⟨_,r',rfl,.inr (by grind),h⟩
theorem FT.get{i k:Nat}{es:AA (AA A)}:∀{H H':Qc},FT i k es H H'->∀(j:Nat) (y:B8),H'[j]?=AC y->∃x,H[j]?=AC x/\bK i k es x y
 |[],_,h,j,y,q=>by obtain rfl:_=[]:=h;simp at q
 |x::r,_,h,j,y,q=>by
  obtain⟨y',r',rfl,h1,h2⟩:=h;cases j with
  |zero=>grind
  |succ j=>obtain⟨x',p1,p2⟩:=h2.get j y q;grind
theorem FT.len{i k:Nat}{es:AA (AA A)}:∀{H H':Qc},FT i k es H H'->H'.length=H.length
 |[],_,h=>by obtain rfl:_=[]:=h;rfl
 |x::r,_,h=>by obtain⟨y',r',rfl,h1,h2⟩:=h;simp[h2.len]
theorem bK.live{i k:Nat}{es:AA (AA A)}{x y:B8}(h:bK i k es x y):y.live=x.live:=by
 rcases h with rfl|⟨t,d,a,rfl,rfl,_⟩<;>rfl
theorem Ku{H:Qc}{i t:Nat}(ov:Env)(hi:Nat.ble T i=AE)(hH:H[i]?=AC (.row t k es))(M:Fc i k es env ov)(J:FT i k es (H.set i .dead) H'):Le T env H (ov++env) H':=by
 intro fr Q σ N a w r
 let ro':Nat->Prop:=λb=>Q b\/σ[i]?=AC (AC b)
 have hown:=λb h=>r.sim.own i b _ h hH rfl;have ext:Cx Q σ w ro' σ w:=⟨λ_ q=>.inl q,λ_ _=>rfl,λ_ _ q=>q,λ_ _ q=>q⟩;have hf:∀v,VR Q σ w (.osl i 0 es.length k) v->VR ro' σ w (.rsl k es) v:=by
  intro v h;rcases h with⟨T,h⟩|⟨b,p,L,t',m,g,h,n,⟨u,aa⟩,h4,h5⟩
  .have:es=[]:=(by grind);subst this;exact⟨AF,0,h,XU _,.inl rfl⟩
  .refine⟨_,L,h,u,?_⟩;by_cases he:es=[]
   .exact .inl he
   .right;have hc:0<L:=Vg (by grind) u;obtain rfl:=n hc;obtain⟨l,O,X⟩:=r.sim.blk i _ _ g hH;refine⟨b,0,by simp,.inr g,?_⟩;have:=YD (pre:=[]) (by simpa using O) X;exact this.keep ⟨λ_ q=>.inl q,λ_ _=>rfl,λ_ _ q=>q,λ_ _ q=>q⟩ rfl
 have f:∀(j:Nat) (y:B8),H'[j]?=AC y->y≠ .dead->j≠i/\ ∃x,H[j]?=AC x/\bK i k es x y:=by
  intro j y h P;obtain⟨x,g,n⟩:=J.get j y h;by_cases e:j=i
  .subst e;rw[Xb]at g;simp only[if_true]at g;split at g
   .cases g;rcases n with rfl|⟨_,_,_,q,_,_⟩
    .grind
    .cases q
   .simp at g
  grind
 refine⟨ro',σ,⟨⟨by rw[J.len,X5];exact r.sim.len,r.sim.roOk.to (λ_ q=>.inl q) (λ_ _=>rfl) ?_,r.sim.frLt,?_,?_,?_,?_,r.sim.hidTo (· = ·) Yl (XU _) (λj b x c O X q3 q4=>q4.elim id λq=>((r.sim.hid j b x c O X q3).ne i c _ q hH rfl rfl).elim) (by simp) λj d y R Y g3=>.inl ?_⟩,?_,r.size,r.defers⟩,λ_ q=>.inl q,rfl⟩
 rotate_left 5
 .obtain⟨_,x,g4,g5⟩:=f j y Y (eN g3);exact⟨j,x,rfl,R,g4,λz=>by rw[<- g5.live];exact z,λc q=>by rcases g5 with rfl|⟨t,cs,G,rfl,rfl,_⟩;exact q;exact q.elim⟩
 rotate_left 1
 .rintro b (q|q)
  .exact r.sim.roLt b q
  grind
 .rintro b (q|q)
  .exact r.sim.roFr b q
  grind
 .intro j b v g n u;obtain⟨e,x,n,E⟩:=f j v n (KY u);have hx:x.live=true:=by rw[<- E.live];exact u
  obtain⟨B,F,p3⟩:=r.sim.own j b x g n hx;refine⟨B,?_,p3⟩;rintro(q|q)
  .exact F q
  .exact e (r.sim.inj j i b x _ g q n hH hx rfl)
 .intro j j' b v v' g n u h4 h5 h6;obtain⟨_,x,B,F⟩:=f j v u (KY h5);obtain⟨_,x',W,V⟩:=f j' v' h4 (KY h6);exact r.sim.inj j j' b x x' g n B W (by rw[<- F.live];exact h5) (by rw[<- V.live];exact h6)
 .intro j s v g n;by_cases P:v≠ .dead
  .obtain⟨_,x,B,F⟩:=f j v n P;have E:=r.sim.blk j s x g B;rcases F with rfl|⟨t,cs,G,rfl,rfl,q⟩
   .exact E.keep ext (λ_ _ _=>rfl) (λ_ _ _ _=>rfl)
   .cases s with
    |none=>exact E.elim
    |some b=>
     obtain⟨l,e1,e2,e3⟩:=E;exact⟨l,e1,T8 ext hf cs G l q e2,e3⟩
  .obtain rfl:v=.dead:=Classical.not_not.1 P;trivial
 .intro s
  induction ov with
  |nil=>exact(r.env s).mono ext
  |cons p ov ih=>
   obtain⟨s1,a1⟩:=p;obtain⟨R,Y⟩:=M;simp only[VK,lk];cases q:Nat.beq s s1 with
   |true=>
    obtain rfl:=XR q;exact lD ext hf _ _ _ R (r.env s)
   |false=>exact ih Y
theorem Fc.nil{i:Nat}:Fc i k es env []:=trivial
theorem Fc.cons{i s:Nat}{a b:A}{r:Env}(h:lk env s=a)(q:D9 i k es a b)(g:Fc i k es env r):Fc i k es env ((s,b)::r):=⟨h▸q,g⟩
def C_(P:AK)(env:Env)(H:Qc)(l:ResultVar)(x:A):Prop:=
 ∀fr ro σ N a w,C0 fr ro σ H env N a w->∃v,((match l with
  |.tmp t=>pure (a.tmps.getD t undef)
  |.cell b t=>do loadVar t (<- asAddr (a.tmps.getD b undef)):Sem AL)).run P w=.ok v w/\VR ro σ w x v
def CC(P:AK)(env:Env)(H:Qc):AA ResultVar->AA A->Prop
 |[],xs=>xs=[]
 |l::ls,xs=>∃x xs',xs=x::xs'/\C_ P env H l x/\CC P env H ls xs'
section
variable {P:AK} {fn:Func} {env:Env} {H:Qc}
theorem C_.tmp{t:Nat}{x:A}(d:lk env t=x:=by rfl):C_ P env H (.tmp t) x:=
 λfr ro σ N a w r=>⟨a.tmps.getD t undef,rfl,d▸r.env t⟩
theorem C_.cell{b t:Nat}{p x:A}{j:AA A}(q:∀w,(isAgg t).run P w=.ok AD w)(f:DP H p (x::j))(i:lk env b=p:=by rfl):C_ P env H (.cell b t) x:=by
 intro g e σ N a w r;have d:=r.env b;rw[i]at d;obtain⟨k,h,n,⟨y,m,_,l⟩,_⟩:=f g e σ w _ r.sim d
 simp_all[asAddr,loadVar]
theorem tl{b t n:Nat}{p:A}{d:AA A}(y:∀w,(isAgg t).run P w=.ok AE w)(s:∀w,(sizeOf t).run P w=.ok n w)(g:DP H p d)(m:lk env b=p:=by rfl)(hl:(d.take n).length=n:=by rfl):
  C_ P env H (.cell b t) (.agg (d.take n)):=by
 intro h f σ N a w r;have e:=r.env b;rw[m]at e;obtain⟨q,k,x,j⟩:=g h f σ w _ r.sim e;obtain⟨l,i,_,u⟩:=Yv (P:=P) 0 (by simpa using j.take n);refine⟨.agg l.toArray,?_,l,rfl,i⟩
 simp_all[asAddr,loadVar,loadCells]
theorem Qf{b t n i:Nat}{a:AA A}(f:∀w,(isAgg t).run P w=.ok AE w)(e:∀w,(sizeOf t).run P w=.ok n w)(d:lk env b=.ptr i 0)(hH:H[i]?=AC (.cells T a))(g:a.length=n):
  C_ P env H (.cell b t) (.agg a):=by
 have:=tl f e (DP.cells hH rfl) d (by grind)
 grind
theorem CC.nil:CC P env H [] []:=rfl
theorem CC.cons{l:ResultVar}{ls:AA ResultVar}{x:A}{xs:AA A}(h:C_ P env H l x)(k:CC P env H ls xs):CC P env H (l::ls) (x::xs):=⟨x,xs,rfl,h,k⟩
theorem CC.run{fr ro:Nat->Prop}{σ:CD}{N:Nat}{a:Act}{w:AJ}(r:C0 fr ro σ H env N a w):∀{ls:AA ResultVar} {xs:AA A},CC P env H ls xs->
  ∃vs:AA AL,(ls.mapM λl=>(match l with
   |.tmp t=>pure (a.tmps.getD t undef)
   |.cell b t=>do loadVar t (<- asAddr (a.tmps.getD b undef)):Sem AL)).run P w=.ok vs w/\LR ro σ w xs vs
 |[],_,h=>by obtain rfl:_=[]:=h;exact⟨[],rfl,rfl⟩
 |l::ls,_,h=>by
  obtain⟨x,xs,rfl,h1,h2⟩:=h;obtain⟨v,e1,e2⟩:=h1 fr ro σ N a w r;obtain⟨vs,e3,e4⟩:=CC.run r h2;refine⟨v::vs,?_,v,vs,rfl,e2,e4⟩
  simp_all
theorem Qo{ls:AA ResultVar}{xs:AA A}(h:fn.results=ls.toArray)(m:Nat.beq ls.length 1=AD)(k:CC P env H ls xs):Hv P fn env H (.tup xs):=by
 intro n j σ N a w r;obtain⟨vs,p,e⟩:=k.run r;have d:¬vs.length=1:=by
  have:∀{ls:AA ResultVar} {xs:AA A},CC P env H ls xs->xs.length=ls.length:=by
   intro ls
   induction ls with
   |nil=>intro xs h;obtain rfl:xs=[]:=h;rfl
   |cons l ls g=>intro xs h;obtain⟨x,f,rfl,_,i⟩:=h;simp[g i]
  rw[e.length,this k];intro q;simp_all
 refine⟨.tuple vs.toArray,?_,vs,rfl,e⟩;unfold results;rw[List.mapM_toArray,Vn,Sem.run_map]
 grind[Result.andThen,Sem.run_pure]
theorem Q5{l:ResultVar}{x:A}(h:fn.results= #[l])(k:C_ P env H l x):Hv P fn env H x:=by
 intro g f σ N a w r;obtain⟨vs,e,d⟩:=(CC.cons k CC.nil).run r;obtain⟨v,_,rfl,d,rfl⟩:=d;refine⟨v,?_,d⟩;unfold results;rw[h,show #[l]=[l].toArray from rfl];rw[List.mapM_toArray,Vn,Sem.run_map]
 erw [e]
 rfl
end
mutual
def Tu:A->Bool
 |.bool _=>AE
 |.int _ _=>AE
 |.str _=>AE
 |.agg cs=>Mq cs
 |_=>AD
def Mq:AA A->Bool
 |[]=>AE
 |a::r=>Tu a&&Mq r
end
mutual
def QY:A->AL
 |.bool b=>.bool b
 |.int k n=>.int k n
 |.str s=>.string ⟨s.toArray⟩
 |.agg cs=>.agg (Y5 cs).toArray
 |_=>.bool AD
def Y5:AA A->AA AL
 |[]=>[]
 |a::r=>QY a::Y5 r
end
mutual
theorem VR.val{ro:Nat->Prop}{σ:CD}{w:AJ}:∀{a:A} {v:AL},Tu a=AE->VR ro σ w a v->v=QY a
 |.bool _,_,_,h=>h
 |.int _ _,_,_,h=>h
 |.str _,_,_,h=>h
 |.agg cs,v,hs,h=>by
  obtain⟨l,rfl,h⟩:=h;rw[QY,LR.val hs h]
theorem LR.val{ro:Nat->Prop}{σ:CD}{w:AJ}:∀{az:AA A} {l:AA AL},Mq az=AE->LR ro σ w az l->l=Y5 az
 |[],l,_,h=>h
 |a::r,l,hs,h=>by
  obtain⟨v,l',rfl,h1,h2⟩:=h;simp only[Mq,XX]at hs;rw[Y5,VR.val hs.1 h1,LR.val hs.2 h2]
end
mutual
theorem fQ{ro:Nat->Prop}{σ:CD}{w:AJ}:∀{a:A},Tu a=AE->VR ro σ w a (QY a)
 |.bool _,_=>rfl
 |.int _ _,_=>rfl
 |.str _,_=>rfl
 |.agg cs,hs=>⟨Y5 cs,rfl,mT hs⟩
theorem mT{ro:Nat->Prop}{σ:CD}{w:AJ}:∀{az:AA A},Mq az=AE->LR ro σ w az (Y5 az)
 |[],_=>rfl
 |a::r,hs=>by
  simp only[Mq,XX]at hs;exact⟨_,_,rfl,fQ hs.1,mT hs.2⟩
end
open Go.MapKept
structure FQ (P:AK) (kt:TypeId) {α:Type} (ek:α->A):Prop where
 scl:∀x,Tu (ek x)=AE
 inj:∀x y,QY (ek x)=QY (ek y)->x=y
 check:∀(w:AJ) em x,(Instr.checkKey em 10000 kt (QY (ek x))).run P w=.ok () w
 find:∀(w:AJ) x (es:List MapEntry),(∀e∈es,∃y,e.key=QY (ek y))->
  ((Instr.findKey kt (QY (ek x)) es).run P w=.ok AF w/\ ∀e∈es,e.key≠QY (ek x))\/ ∃j e,(Instr.findKey kt (QY (ek x)) es).run P w=.ok (AC (j,e.val)) w/\es[j]?=AC e/\e.key=QY (ek x)
 stays:∀(w:AJ) x,(Instr.keyThatStays (QY (ek x)) (QY (ek x))).run P w=.ok (QY (ek x)) w
variable {β:Type}
section
variable {P:AK} {kt:TypeId}
theorem FQ.plain{α:Type}{a:α->A}{d:TypeDesc}(f:P.underlying kt=AC d)(e:∀x,IsKey d (QY (a x)))(g:∀x,Tu (a x)=AE)(hi:∀x y,QY (a x)=QY (a y)->x=y):FQ P kt a:=by
 refine⟨g,hi,λw h x=>run_checkKey f (e x) h 9999,λw x j i=>?_,λw x=>run_keyThatStays (e x)⟩
 grind[findNow_spec,run_findKey]
theorem FQ.int{q:IntKind}(hk:P.underlying kt=AC (.int q)):FQ P kt (λn=>A.int q n):=
 FQ.plain hk (λx=>by rfl) (λ_=>rfl) (λx y h=>by simpa[QY]using h)
theorem FQ.str(hk:P.underlying kt=AC .string):FQ P kt A.str:=
 FQ.plain hk (λx=>by simp[IsKey,QY]) (λ_=>rfl) (λx y h=>by simpa[QY]using h)
theorem FQ.struct{α:Type}[DecidableEq α]{a:α->A}{fs:Array Field}(H:P.underlying kt=AC (.struct fs))(B:∀x,Tu (a x)=AE)(hi:∀x y,QY (a x)=QY (a y)->x=y)
  (s:∀(w:AJ) em x,(Instr.checkKey em 10000 kt (QY (a x))).run P w=.ok () w)
  (he:∀(w:AJ) x y,(Op.equal kt (QY (a x)) (QY (a y))).run P w=.ok (AG (x=y)) w)(p:∀x,Instr.sameBits 10000 (QY (a x)) (QY (a x))=AE):FQ P kt a:=by
 refine⟨B,hi,s,λw x d t=>?_,λw x=>by simp[Instr.keyThatStays,p x]⟩
 .have h:∀(d:AA MapEntry) (i:Nat),(∀e∈d,∃y,e.key=QY (a y))->
    ((Instr.findAsking kt (QY (a x)) d i).run P w=.ok AF w/\ ∀e∈d,e.key≠QY (a x))\/
    ∃j e,(Instr.findAsking kt (QY (a x)) d i).run P w=.ok (AC (i+j,e.val)) w/\d[j]?=AC e/\e.key=QY (a x):=by
   intro d
   induction d with
   |nil=>simp_all[Instr.findAsking]
   |cons e d q=>
    intro i f;obtain⟨y,k⟩:=f e (by simp);have m:=he w x y;by_cases g:x=y
    .subst g;exact .inr ⟨0,e,by simp[Instr.findAsking,k,m],rfl,k⟩
    .rcases q (i+1) (λz n=>f z (by simp[n]))with⟨l,r⟩|⟨j,u,l,r,E⟩
     .refine .inl ⟨by simp[Instr.findAsking,k,m,g,l],λz n=>?_⟩
      grind
     .exact .inr ⟨j+1,u,by simp[Instr.findAsking,k,m,g,l,Nat.add_assoc,Nat.add_comm 1 j],by grind,E⟩
  cases d with
  |nil=>simp_all[Instr.findKey,run_underlying,Instr.findNow]
  |cons e d=>
   have F:Instr.findNow (.struct fs) (QY (a x)) (e::d) 0=none:=by
    rfl
   have G:(Instr.findKey kt (QY (a x)) (e::d)).run P w=(Instr.findAsking kt (QY (a x)) (e::d) 0).run P w:=by
    simp_all[Instr.findKey,run_underlying]
   grind
def Je{α:Type}[DecidableEq α](l:AA (α×β))(k:α):AB β:=(l.find? λp=>AG (p.1=k)).map (·.2)
def Yp{α:Type}[DecidableEq α](l:AA (α×β))(k:α)(v:β):AA (α×β):=bif l.any λp=>AG (p.1=k)then l.map λp=>bif p.1=k then(p.1,v)else p else l++[(k,v)]
def QM{α:Type}[DecidableEq α](l:AA (α×β))(k:α)(z:β):β:=(Je l k).getD z
def G6{α:Type}[DecidableEq α](l:AA (α×β))(k:α):Bool:=l.any λp=>AG (p.1=k)
def Q6(ek:α->A)(ev:β->A)(l:AA (α×β)):AA (A×A):=l.map λp=>(ek p.1,ev p.2)
section
variable {α β:Type} [DecidableEq α] {ek:α->A} {ev:β->A} {ro:Nat->Prop} {σ:CD} {w:AJ} (K:FQ P kt ek)
include K
theorem lq:∀{l:AA (α×β)} {es:AA MapEntry},ER ro σ w (Q6 ek ev l) es->es.map (·.key)=l.map λp=>QY (ek p.1)
 |[],es,h=>by cases(show es=[]from h);rfl
 |p::l,es,h=>by
  obtain⟨e,l',rfl,h1,h2,h3⟩:=h;simp only[Vk];rw[VR.val (K.scl _) h1,lq h3]
theorem rL{l:AA (α×β)}{es:AA MapEntry}(h:ER ro σ w (Q6 ek ev l) es):∀e∈es,∃y,e.key=QY (ek y):=by
 intro e a;have:e.key∈es.map (·.key):=VG a;rw[lq K h]at this
 grind
theorem ER.find:∀{l:AA (α×β)} {es:AA MapEntry},ER ro σ w (Q6 ek ev l) es->∀(x:α),(es.map (·.key)).Nodup->
  ((∀e,e∈es->e.key≠QY (ek x))->Je l x=AF/\G6 l x=AD)/\
  (∀(j:Nat) (e:MapEntry),es[j]?=AC e->e.key=QY (ek x)->G6 l x=AE/\ ∃v,Je l x=AC v/\VR ro σ w (ev v) e.val)
 |[],es,h,x,_=>by
  cases(show es=[]from h);exact⟨λ_=>⟨rfl,rfl⟩,(by simp)⟩
 |p::l,es,h,x,hn=>by
  obtain⟨e0,l',rfl,h1,h2,h3⟩:=h;have hk:=VR.val (K.scl _) h1;simp[Vk,List.nodup_cons]at hn;obtain⟨a1,a2⟩:=ER.find h3 x hn.2;by_cases hp:p.1=x
  .grind[G6,Je]
  .have e1:Je (p::l) x=Je l x:=by simp[Je,hp]
   have f:G6 (p::l) x=G6 l x:=by simp[G6,hp]
   constructor
   .grind
   .intro j e a d;cases j with
    |zero=>
     simp[XF,Option.some.injEq]at a;subst a;exact absurd (K.inj _ _ (hk.symm.trans d)) hp
    |succ j=>grind
end
end
end Go.Sw
namespace Go.Sw
open Option renaming some→AC,none→AF
open Bool renaming false→AD,true→AE
open Decidable renaming decide→AG
open Go renaming World→AJ,Program→AK,Value→AL,Oper→AM
open Go.MapKept
section
variable {P:AK} {o:AM} {env:Env} {H:Qc}
theorem YL{T:Nat}(f:o.op=.makeMap T none:=by rfl):Do P o env H (.map H.length) (H++[.map []]):=by
 intro e d σ N a w r;refine⟨.map (AC w.heap.size),w.alloc (.map #[] 0),d,[AC w.heap.size],?_,⟨w.heap.size,?_,rfl⟩,r.sim.alloc ⟨#[],0,Q9 _ _,rfl,by simp,by simp,by simp⟩,Qm.alloc _ r.sim.roLt r.sim.frLt⟩
 .simp_all[execOp,Instr.makeMap]
 .rw[<- r.sim.len];simp
section
variable {T kt et:Nat} {α β:Type} [DecidableEq α] {ek:α->A} {ev:β->A} {x y:Operand} {i:Nat} {l:AA (α×β)} {k:α} {z0:β} {z:AL}
theorem tT(K:FQ P kt ek){ro:Nat->Prop}{w:AJ}(n:P.underlying T=AC (.map kt et))(p:∀w,(zeroValue et).run P w=.ok z w)(i:ZR (ev z0) z){b a:Nat}{es:Array MapEntry}
  (m:w.heap[b]?=AC (.map es a))(he:ER ro [] w (Q6 ek ev l) es.toList)(q:(es.toList.map (·.key)).Nodup):
  ∃v,(∀ck,(Instr.lookup T (.map (AC b)) (QY (ek k)) ck).run P w=.ok (if ck then .tuple #[v,.bool (G6 l k)]else v) w)/\VR ro [] w (ev (QM l k z0)) v:=by
 obtain⟨u,s⟩:=ER.find K he k q;rcases K.find w k es.toList (rL K he)with⟨g,f⟩|⟨j,e,g,f,r⟩
 .obtain⟨d,h⟩:=u f;refine⟨z,λck=>?_,?_⟩
  .simp[Instr.lookup,Vn,run_underlying n,Result.andThen,MapKept.run_getObj_map m,Vp,K.check,g,p,h]
  .rw[QM,d];exact i _ _ _
 .obtain⟨d,v,h,t⟩:=s j e f r;refine⟨e.val,λck=>?_,?_⟩
  .simp[Instr.lookup,Vn,run_underlying n,Result.andThen,MapKept.run_getObj_map m,Vp,K.check,g,d]
  .rw[QM,h];exact t
theorem Jg{zv:β}(K:FQ P kt ek)(j:AC (QM l k z0)=AC zv)(t:P.underlying T=AC (.map kt et))(s:∀w,(zeroValue et).run P w=.ok z w)(d:ZR (ev z0) z)
  (G:o.op=.lookup T x y false:=by rfl)(hx:Bu env x=.map i:=by rfl)(hH:H[i]?=AC (.map (Q6 ek ev l)):=by rfl)(hy:Bu env y=ek k:=by rfl):Bz P o env H (ev zv):=by
 obtain rfl:=X0 j;intro B J σ N a w r;have g:=Qn r x;rw[hx]at g;obtain⟨b,h,E⟩:=g;have f:=Qn r y;rw[hy]at f;have L:=VR.val (K.scl _) f;obtain⟨F,e,m,n,O,Q,u⟩:=r.sim.blk i _ _ h hH;obtain⟨v,M,p⟩:=tT K t s d m n u;refine⟨v,?_,p.mono ⟨λ_ q=>q,λ_ _=>rfl,λ_ _ q=>q,(by simp)⟩⟩
 simp_all[execOp]
theorem zr{zv:β}(K:FQ P kt ek)(j:AC (QM l k z0)=AC zv)(t:P.underlying T=AC (.map kt et))(s:∀w,(zeroValue et).run P w=.ok z w)(d:ZR (ev z0) z)
  (G:o.op=.lookup T x y true:=by rfl)(hx:Bu env x=.map i:=by rfl)(hH:H[i]?=AC (.map (Q6 ek ev l)):=by rfl)(hy:Bu env y=ek k:=by rfl):Bz P o env H (.tup [ev zv,.bool (G6 l k)]):=by
 obtain rfl:=X0 j;intro B J σ N a w r;have g:=Qn r x;rw[hx]at g;obtain⟨b,h,E⟩:=g;have f:=Qn r y;rw[hy]at f;have L:=VR.val (K.scl _) f;obtain⟨F,e,m,n,O,Q,u⟩:=r.sim.blk i _ _ h hH;obtain⟨v,M,p⟩:=tT K t s d m n u;refine⟨.tuple #[v,.bool (G6 l k)],?_,[v,.bool (G6 l k)],rfl,v,_,rfl,p.mono ⟨λ_ q=>q,λ_ _=>rfl,λ_ _ q=>q,(by simp)⟩,_,_,rfl,rfl,rfl⟩
 simp_all[execOp]
theorem ER.append{ro:Nat->Prop}{σ:CD}{w:AJ}:∀{l m:AA (A×A)} {es fs:AA MapEntry},ER ro σ w l es->ER ro σ w m fs->ER ro σ w (l++m) (es++fs)
 |[],m,es,fs,h,k=>by cases(show es=[]from h);exact k
 |p::l,m,es,fs,h,k=>by
  obtain⟨e,l',rfl,h1,h2,h3⟩:=h;exact⟨e,l'++fs,rfl,h1,h2,ER.append h3 k⟩
theorem ER.put(K:FQ P kt ek){ro:Nat->Prop}{w w':AJ}{v:β}{val:AL}(a:Cx ro [] w ro [] w')(d:VR ro [] w (ev v) val):∀{l:AA (α×β)} {es:AA MapEntry} {j:Nat} {e:MapEntry},ER ro [] w (Q6 ek ev l) es->
  (es.map (·.key)).Nodup->es[j]?=AC e->e.key=QY (ek k)->
  ER ro [] w' (Q6 ek ev (l.map λp=>bif p.1=k then(p.1,v)else p)) (es.modify j λe=>{e with key:=QY (ek k),val:=val})
 |[],es,j,e,h,hn,he,hk=>by cases(show es=[]from h);simp at he
 |p::l,es,j,e,h,hn,he,hk=>by
  obtain⟨e0,l',rfl,h1,h2,h3⟩:=h;have hk0:=VR.val (K.scl _) h1;simp only[Vk,List.nodup_cons]at hn;cases j with
  |zero=>
   simp[XF,Option.some.injEq]at he;subst he;have hp:=K.inj _ _ (hk0.symm.trans hk);have e1:Q6 ek ev ((p::l).map λp=>bif p.1=k then(p.1,v)else p)=(ek p.1,ev v)::Q6 ek ev l:=by
    simp only[Q6,Vk,hp,decide_true,Vq,List.map_map,List.cons.injEq,true_and];apply List.map_congr_left;intro q f;have:q.1≠k:=by
     intro e;refine hn.1 ?_;rw[lq K h3];exact Xe.2 ⟨q,f,by rw[e, <- hp,hk0]⟩
    simp[this]
   rw[e1];refine⟨_,l',rfl,?_,d.mono a,h3.mono a⟩;rw[<- hp];exact fQ (K.scl _)
  |succ j=>
   have hp:p.1≠k:=by
    intro q;refine hn.1 (Xe.2 ⟨e,VH he,?_⟩);rw[hk,hk0,q]
   have e1:Q6 ek ev ((p::l).map λp=>bif p.1=k then(p.1,v)else p)=(ek p.1,ev p.2)::Q6 ek ev (l.map λp=>bif p.1=k then(p.1,v)else p):=by
    simp[Q6,hp]
   rw[e1];exact⟨_,_,rfl,h1.mono a,h2.mono a,ER.put K a d h3 hn.2 he hk⟩
theorem Jh{m:AA (α×β)}(K:FQ P kt ek){v:β}{t:Operand}(hm:AC (Yp l k v)=AC m)(hd:YH (ev v)=AE)(hT:P.underlying T=AC (.map kt et))
  (ho:o.op=.mapUpdate T x y t:=by rfl)(hx:Bu env x=.map i:=by rfl)(hH:H[i]?=AC (.map (Q6 ek ev l)):=by rfl)(hy:Bu env y=ek k:=by rfl)(hv:Bu env t=ev v:=by rfl):
  Hx P o env H (H.set i (.map (Q6 ek ev m))):=by
 obtain rfl:=X0 hm;intro fr R σ N a w r;have h1:=Qn r x;rw[hx]at h1;obtain⟨b,Q,q2⟩:=h1;have h2:=Qn r y;rw[hy]at h2;have h3:=VR.val (K.scl _) h2;have h4:=Qn r t;rw[hv]at h4;have F:VR R [] w (ev v) (a.eval t):=VR.data hd h4;obtain⟨u,d,M,O,p3,p4,Y⟩:=r.sim.blk i _ _ Q hH;obtain⟨f1,f2⟩:=ER.find K O k Y;have G:∀(obj:Obj) y,w.shape? b=AC y->({w with heap:=w.heap.setIfInBounds b obj}:AJ).shape? b=AC y:=by
  grind[World.shape?]
 rcases K.find w k u.toList (rL K O)with⟨V,J⟩|⟨j,e,V,J,L⟩
 .obtain⟨u1,u2⟩:=f1 J;have hl:Yp l k v=l++[(k,v)]:=by
   unfold Yp;rw[show(l.any λp=>AG (p.1=k))=AD from u2];rfl
  have g:=r.sim.set (x':=.map (Q6 ek ev (Yp l k v))) (obj:=.map (u.push {key:=QY (ek k),val:=a.eval t,born:=d}) (d+1)) Q hH rfl (G _)
   (λe X=>⟨_,_,X,by
    rw[hl,Q6,Xf,Array.toList_push];exact(O.mono ⟨e.sub,e.keep,e.shape,λ_ _ q=>q⟩).append ⟨_,_,rfl,fQ (K.scl _),F.mono ⟨e.sub,e.keep,e.shape,λ_ _ q=>q⟩,rfl⟩,by
    grind,by
    grind,by
    grind⟩)
  refine⟨_,R,[],?_,by grind,g.2⟩;simp only[execOp,ho,q2,h3,Vn,Instr.mapUpdate,run_underlying hT,Result.andThen,MapKept.run_getObj_map M,K.check,V,MapKept.run_setObj_map _ M];rfl
 .obtain⟨u1,u2⟩:=f2 j e J L;have hl:Yp l k v=l.map λp=>bif p.1=k then(p.1,v)else p:=by
   unfold Yp;rw[show(l.any λp=>AG (p.1=k))=AE from u1];rfl
  have hj:u[j]?=AC e:=by grind
  have n:(u.modify j λe=>{e with key:=QY (ek k),val:=a.eval t}).toList=u.toList.modify j λe=>{e with key:=QY (ek k),val:=a.eval t}:=by simp
  have s:∀{γ:Type} (f:MapEntry->γ),(∀E,u.toList[j]?=AC E->f {E with key:=QY (ek k),val:=a.eval t}=f E)->(u.toList.modify j λe=>{e with key:=QY (ek k),val:=a.eval t}).map f=u.toList.map f:=by
   intro γ f hf;apply List.ext_getElem?
   grind
  have g:=r.sim.set (x':=.map (Q6 ek ev (Yp l k v))) (obj:=.map (u.modify j λe=>{e with key:=QY (ek k),val:=a.eval t}) d) Q hH rfl (G _)
   (λW X=>⟨_,_,X,by
    rw[hl,n];exact ER.put K ⟨W.sub,W.keep,W.shape,λ_ _ q=>q⟩ F O Y J L,by
    rw[n];intro E z;have:E.born∈(u.toList.modify j λe=>{e with key:=QY (ek k),val:=a.eval t}).map (·.born):=VG z;rw[s (·.born) (λ_ _=>rfl)]at this;obtain⟨e2,h,h'⟩:=Xe.1 this;rw[<- h'];exact p3 e2 h,by
    rw[n,s (·.born) (λ_ _=>rfl)];exact p4,by
    rw[n,s (·.key) (λE z=>by rw[J]at z;cases z;exact L.symm)];exact Y⟩)
  refine⟨_,R,[],?_,by simpa using g.1,g.2⟩;have B:=K.stays w k;simp only[execOp,ho,q2,h3,Vn,Instr.mapUpdate,run_underlying hT,Result.andThen,MapKept.run_getObj_map M,K.check,V,hj,Xj,Option.getD_some,L,B,MapKept.run_setObj_map _ M];rfl
theorem ER.length{ro:Nat->Prop}{σ:CD}{w:AJ}:∀{l:AA (A×A)} {es:AA MapEntry},ER ro σ w l es->es.length=l.length
 |[],es,h=>by cases(show es=[]from h);rfl
 |p::l,es,h=>by
  obtain⟨e,l',rfl,_,_,h3⟩:=h;simp[ER.length h3]
theorem m4{c:Call}{n:Int}(k:P.underlying T=AC (.map kt et))(j:(l.length:Int)=n)(p:o.op=.call c:=by rfl)(hc:c={callee:=.builtin .len,args:= #[x],argTypes:= #[T]}:=by rfl)
  (hx:Bu env x=.map i:=by rfl)(hH:H[i]?=AC (.map (Q6 ek ev l)):=by rfl):Bz P o env H (.int .i64 n):=by
 intro z y σ N a w r;have h:=Qn r x;rw[hx]at h;obtain⟨b,m,f⟩:=h;obtain⟨g,d,s,t,B,F,E⟩:=r.sim.blk i _ _ m hH;have u:=t.length;refine⟨.int .i64 n,?_,rfl⟩;have e:goInt g.size=.int .i64 n:=by
  have:g.size=l.length:=by rw[<- Array.length_toList,u];simp[Q6]
  rw[this, <- j];rfl
 subst hc;have q:=f;generalize a.eval=ρ at*;rw[<- e];simp[execOp,p,f,resolve,invoke,Go.builtin,Builtin.len_,run_underlying k,MapKept.run_getObj_map s,go_sem]
end
end
end Go.Sw
namespace Go.Sw
open Option renaming some→AC,none→AF
open Bool renaming false→AD,true→AE
open Decidable renaming decide→AG
open Go renaming World→AJ,Program→AK,Value→AL,Oper→AM
open Go.ChangeMaps (setBlock)
section
variable {P:AK} {o:AM} {env:Env} {H:Qc} {h0 N:Nat} {Q:QP}
def bD(P:AK)(o:AM)(env:Env)(H:Qc)(K:A->Qc->Prop):Prop:=
 ∀fr ro σ N a w,C0 fr ro σ H env N a w->∃x H' v w' ro' τ,K x H'/\(execOp a.eval o).run P w=.ok (.value v) w'/\VR ro' (σ++τ) w' x v/\
  B9 fr ro' (σ++τ) H' w'/\Qm fr ro w ro' w'
theorem o7{all:Array AM}{l:AA AM}{d:Nat}{K:A->Qc->Prop}(z:h0<=H.length)(hg:QE all o env AE)(t:o.dst=AC d)(F:Nat.blt d N=AE)
  (i:bD P o env H K)(k:∀x H',K x H'->WO P h0 N all l (up env d x) H' Q):WO P h0 N all (o::l) env H Q:=by
 intro E fr m σ a w r hrd;obtain⟨x,H',v,j,f,τ,p,B,y,n,g⟩:=i fr m σ N a w r;refine R3 (Jp hg r) B ?_;simp[t];have h:d<N:=by simp_all
 have u:C0 fr f (σ++τ) H' (up env d x) N {a with tmps:=a.tmps.setIfInBounds d v} j:=
  ⟨n,VR.up (fr:=fr) (λs=>(r.env s).mono (g.ext σ τ)) (by rw[r.size];exact h) y,by simpa using r.size,r.defers.keep g⟩
 refine YE (λe a w q=>q.step g (QH ?_)) _ _ _ (k x H' p E fr f (σ++τ) _ j u (hrd.to g λ_ q=>q));rw[r.sim.len];exact z
theorem B9.shutMap{fr ro:Nat->Prop}{σ:CD}{w:AJ}(s:B9 fr ro σ H w){i b:Nat}{es:AA (A×A)}(hσ:σ[i]?=AC (AC b))(hH:H[i]?=AC (.map es)):
  B9 fr (λc=>ro c\/c=b) σ (H.set i (.fmap es)) w:=by
 have hown:=s.own i b _ hσ hH rfl;have ext:Cx ro σ w (λc=>ro c\/c=b) σ w:=⟨λ_ q=>.inl q,λ_ _=>rfl,λ_ _ q=>q,λ_ _ q=>q⟩;have a:∀(j:Nat) (v:B8),(H.set i (.fmap es))[j]?=AC v->v.live=AE->j≠i/\H[j]?=AC v:=by
  intro j v h u;by_cases e:j=i
  .subst e;rw[Xb]at h
   grind[B8.live]
  grind
 have n:∀(j:Nat) (v:B8),(H.set i (.fmap es))[j]?=AC v->v.holds=AE->H[j]?=AC v:=by
  intro j v h u;by_cases e:j=i
  .subst e;rw[Xb]at h;simp only[if_true]at h;split at h
   .cases h;cases u
   .simp at h
  grind
 refine⟨by rw[X5];exact s.len,s.roOk.to (λ_ q=>.inl q) (λ_ _=>rfl) ?_,s.frLt,?_,?_,?_,?_,s.hidTo (· = ·) Yl (XU _) (λj d x c G M J N=>N.elim id λq=>((s.hid j d x c G M J).ne i b _ hσ hH rfl q).elim) (by simp) (by grind)⟩
 .rintro c (q|rfl)
  .exact s.roLt c q
  omega
 .rintro c (q|rfl)
  .exact s.roFr c q
  grind
 .intro j c v g f m;obtain⟨e,f⟩:=a j v f m;obtain⟨p,r,t⟩:=s.own j c v g f m;refine⟨p,?_,t⟩;rintro(q|rfl)
  .exact r q
  .exact e (s.inj j i c v _ g hσ f hH m rfl)
 .intro j z c v B g f m L F E;exact s.inj j z c v B g f (a j v m F).2 (a z B L E).2 F E
 .intro j y v g f;by_cases e:j=i
  .subst e;rw[hσ]at g;cases g;rw[Xb]at f;simp only[if_true]at f;split at f
   .cases f;obtain⟨l,k,p,r,t⟩:=s.blk j _ _ hσ hH;exact⟨.inr rfl,l,k,p,r.mono ext.nil,t⟩
   .simp at f
  .rw[XQ (λq=>e q.symm)]at f;exact(s.blk j y v g f).keep ext (λ_ _ _=>rfl) (λ_ _ _ _=>rfl)
section
variable {T kt et i:Nat} {x:Operand} {es:AA (A×A)}
theorem Do.range(u:P.underlying T=AC (.map kt et))(B:o.op=.range T x:=by rfl)(hx:Bu env x=.map i:=by rfl)(hH:H[i]?=AC (.map es):=by rfl):
  Do P o env H (.ptr H.length 0) (H.set i (.fmap es)++[.iter AF es]):=by
 intro n j σ N a w r;have s:=Qn r x;rw[hx]at s;obtain⟨b,k,y⟩:=s;obtain⟨l,d,p,E,z,F,G⟩:=r.sim.blk i _ _ k hH;have t:=(r.sim.own i b _ k hH rfl).1;have m:=r.sim.shutMap k hH;have g:Qm n j w (λc=>j c\/c=b) w:=YR (λ_ q=>.inl q);have f:Qm n (λc=>j c\/c=b) w (λc=>j c\/c=b) (w.alloc (.mapIter (AC b) d #[] d)):=Qm.alloc _ m.roLt m.frLt;have ext0:=(g.trans f).ext0 [];refine⟨.pointer (AC ⟨w.heap.size,0,AF⟩),w.alloc (.mapIter (AC b) d #[] d),_,[AC w.heap.size],?_,⟨w.heap.size,?_,rfl⟩,
  m.alloc (.inr ⟨b,l,d, #[],l.toList,Q9 _ _,.inr rfl,by rw[YF _ _ _ t];exact p,z,F,?_,E.mono ext0,λ_ h=>by cases h⟩),g.trans f⟩
 .simp only[execOp,B,y,Instr.range,Vn,run_underlying u,Result.andThen,MapKept.run_getObj_map p];rfl
 .rw[<- r.sim.len];simp
 .have:l.toList.filter (λe=> !#[].contains e.born)=l.toList:=by simp
  rw[this]
theorem ER.mem{ro:Nat->Prop}{σ:CD}{w:AJ}:∀{es:AA (A×A)} {l:AA MapEntry},ER ro σ w es l->∀e∈l,∃x es' l',(x::es').Perm es/\(e::l').Perm l/\VR ro σ w x.1 e.key/\VR ro σ w x.2 e.val/\ER ro σ w es' l'
 |[],l,h,e,he=>by cases(show l=[]from h);cases he
 |y::es,l,h,e,he=>by
  obtain⟨e0,l',rfl,h1,h2,h3⟩:=h;rcases X7.1 he with rfl|he
  .exact⟨y,es,l',.refl _,.refl _,h1,h2,h3⟩
  .obtain⟨x,es',l'',p1,p2,v1,v2,h4⟩:=ER.mem h3 e he;exact⟨x,y::es',e0::l'',(List.Perm.swap _ _ _).trans (p1.cons _),(List.Perm.swap _ _ _).trans (p2.cons _),v1,v2,⟨e0,l'',rfl,h1,h2,h4⟩⟩
theorem rB:∀{l:AA MapEntry},(l.map (·.born)).Nodup->∀a∈l,∀b∈l,a.born=b.born->a=b
 |[],_,a,ha,_,_,_=>by cases ha
 |c::l,hn,a,ha,b,hb,hab=>by
  simp[Vk,List.nodup_cons]at hn;rcases X7.1 ha with ea|ha'<;>rcases X7.1 hb with eb|hb'
  .rw[ea,eb]
  .grind
  .grind
  .exact rB hn.2 a ha' b hb' hab
def bE(H:Qc)(i:Nat)(cur:AB (A×A))(es:AA (A×A))(v:A)(H':Qc):Prop:=
 (es=[]/\v=.tup [.bool AD]/\H'=H)\/ ∃e es',(e::es').Perm es/\v=.tup [.bool AE,e.1,e.2]/\H'=H.set i (.iter (AC e) es')
theorem bD.next{G:AB (A×A)}(ho:o.op=.next x false:=by rfl)(hx:Bu env x=.ptr i 0:=by rfl)(hH:H[i]?=AC (.iter G es):=by rfl):
  bD P o env H (bE H i G es):=by
 intro fr s σ N a w r;have h1:=Qn r x;rw[hx]at h1;obtain⟨b,q1,q2⟩:=h1;have g:∀(v:AL) (w1:AJ),w1.heap=w.heap->w1.os=w.os->w1.tape=w.tape->w1.output=w.output->w.drawn<=w1.drawn->B9 fr s (σ++[]) H w1/\Qm fr s w s w1:=by
  intro v w1 R e2 e3 e4 e5;exact⟨by simpa using r.sim.heap R,Qm.heap R e2 e3 e4 e5⟩
 rcases r.sim.blk i _ _ q1 hH with⟨rfl,rfl,p⟩|⟨m,l,f,d,left,p1,p2,p3,p4,p5,p6,p7,p8⟩
 .refine⟨_,_,.tuple #[.bool AD],w,s,[],.inl ⟨rfl,rfl,rfl⟩,?_,⟨_,rfl,_,_,rfl,rfl,rfl⟩,g (.bool AD) w rfl rfl rfl rfl (XU _)⟩;generalize a.eval=ρ at*;simp only[execOp,ho,q2,Instr.next,Vn,getObj,Sem.run,p,Result.andThen];rfl
 .have ac:(leftOf l d).toList=l.toList.filter λe=> !d.contains e.born:=by simp[leftOf]
  have n:left.Perm (leftOf l d).toList:=by grind
  rcases run_next_at (P:=P) w o.type b m f f d l f p1 p3 p4 (XU _)with⟨g1,g2⟩|⟨e,g1,w1,g2,g3⟩
  .have ab:left=[]:=by
    have:left.length=0:=by rw[n.length_eq];omega
    grind
   subst ab;have V:es=[]:=by
    have:=p7.length
    grind
   refine⟨_,_,.tuple #[.bool AD],w,s,[],.inl ⟨V,rfl,rfl⟩,?_,⟨_,rfl,_,_,rfl,rfl,rfl⟩,g (.bool AD) w rfl rfl rfl rfl (XU _)⟩
   simp_all[execOp]
  .have he:e∈left:=n.mem_iff.2 g1;have O:e∈l.toList:=by grind
   obtain⟨y,F,M,k1,k2,v1,v2,k3⟩:=p7.mem e he;have k:w1.heap=w.heap/\w1.os=w.os/\w1.tape=w.tape/\w1.output=w.output/\w.drawn<=w1.drawn:=by
    rcases g2 with rfl|rfl
    .simp
    .exact⟨rfl,rfl,rfl,rfl,Nat.le_succ _⟩
   obtain⟨s1,E⟩:=g (.bool AD) w1 k.1 k.2.1 k.2.2.1 k.2.2.2.1 k.2.2.2.2;rw[Vh]at s1;have ad:b≠m:=by
    grind
   have u:=s1.set (x':=.iter (AC y) F) (obj:=.mapIter (AC m) f (d.push e.born) f) q1 hH rfl
    (λz Q=>by
     grind[World.shape?])
    (λt aa=>.inr ⟨m,l,f,d.push e.born,M,aa,t.sub _ p2,by
      grind,p4,p5,by
      have Y:(l.toList.filter λe=> !d.contains e.born).Nodup:=by
       have:l.toList.Nodup:=List.Pairwise.of_map _ (λa b h q=>h (congrArg _ q)) p5;exact this.filter _
      have W:(e::M).Perm (l.toList.filter λe=> !d.contains e.born):=k2.trans p6;have J:(e::M).Nodup:=W.nodup_iff.2 Y;have R:(l.toList.filter λB=> !(d.push e.born).contains B.born)=(l.toList.filter λe=> !d.contains e.born).filter λB=> !decide (B.born=e.born):=by
       rw[List.filter_filter];apply List.filter_congr;intro z _;simp[Array.contains_push,Bool.and_comm]
      rw[R];have h2:=W.filter (λB=> !decide (B.born=e.born));have e2:(e::M).filter (λB=> !decide (B.born=e.born))=M:=by
       rw[List.filter_cons_of_neg (by simp),List.filter_eq_self];intro z Q;have X:z∈l.toList:=(Xd.1 (W.mem_iff.1 (X6 _ Q))).1;simp only[Bool.not_eq_true',decide_eq_false_iff_not];intro hb;have:z=e:=by
        exact rB p5 z X e O hb
       subst this;exact(List.nodup_cons.1 J).1 Q
      rw[e2]at h2;exact h2,by
      have T:Cx s [] w s [] w1:=E.ext0 [];exact(k3.mono T).mono ⟨t.sub,t.keep,t.shape,λ_ _ q=>q⟩,by
      intro z Q;cases Q;have T:Cx s [] w s [] w1:=E.ext0 [];exact⟨e,O,by simp,(v1.mono T).mono ⟨t.sub,t.keep,t.shape,λ_ _ q=>q⟩,(v2.mono T).mono ⟨t.sub,t.keep,t.shape,λ_ _ q=>q⟩⟩⟩)
   have L:=E.trans u.2;have xt:=L.ext0 [];refine⟨_,_,.tuple #[.bool AE,e.key,e.val],_,s,[],.inr ⟨y,F,k1,rfl,rfl⟩,?_,
    ⟨[.bool AE,e.key,e.val],rfl,_,_,rfl,rfl,_,_,rfl,(v1.mono xt).mono ⟨λ_ q=>q,λ_ _=>rfl,λ_ _ q=>q,λj c q=>by simp at q⟩,_,_,rfl,(v2.mono xt).mono ⟨λ_ q=>q,λ_ _=>rfl,λ_ _ q=>q,λj c q=>by simp at q⟩,rfl⟩,by simpa using u.1,L⟩
   generalize a.eval=ρ at*;simp only[execOp,ho,q2,Vn,g3,Result.andThen,setBlock];rfl
theorem Bz.entry{e:A×A}(J:o.op=.entry x:=by rfl)(hx:Bu env x=.ptr i 0:=by rfl)(hH:H[i]?=AC (.iter (AC e) es):=by rfl):Bz P o env H (.tup [e.1,e.2]):=by
 intro L B σ N a w r;have g:=Qn r x;rw[hx]at g;obtain⟨b,n,M⟩:=g;rcases r.sim.blk i _ _ n hH with⟨_,h,_⟩|⟨m,l,d,j,left,z,O,Q,G,s,F,R,p⟩
 .cases h
 .obtain⟨f,t,E,u,k⟩:=p e rfl;refine⟨.tuple #[f.key,f.val],?_,[f.key,f.val],rfl,_,_,rfl,u.mono ⟨λ_ q=>q,λ_ _=>rfl,λ_ _ q=>q,(by simp)⟩,_,_,rfl,k.mono ⟨λ_ q=>q,λ_ _=>rfl,λ_ _ q=>q,(by simp)⟩,rfl⟩;have y:l.find? (·.born==f.born)=AC f:=by rw[<- Array.find?_toList];exact find_born f l.toList s t
  simp_all[execOp,Instr.entry,getObj,Sem.run]
end
end
end Go.Sw
namespace Go.Sw
open Option renaming some→AC,none→AF
open Bool renaming false→AD,true→AE
open Decidable renaming decide→AG
open Go renaming World→AJ,Program→AK,Value→AL,Oper→AM
def KW{S E B:Type}(stepE:S->E->AB (Bn S B))(stepN:S->AB B):S->AA E->AB B
 |s,[]=>stepN s
 |s,e::p=>match stepE s e with
  |some (.k s')=>KW stepE stepN s' p
  |some (.d b)=>AC b
  |none=>AF
def My{E:Type}(x:E):AA E->AA (AA E)
 |[]=>[[x]]
 |y::l=>(x::y::l)::(My x l).map (y:: ·)
def Kz{E:Type}:AA E->AA (AA E)
 |[]=>[[]]
 |x::l=>(Kz l).flatMap (My x)
theorem tW{E:Type}(x:E):∀(a b:AA E),a++x::b∈My x (a++b)
 |[],[]=>by simp[My]
 |[],y::b=>by simp[My]
 |y::a,b=>by
  simp only[VK,My,X7,Xe];exact .inr ⟨a++x::b,tW x a b,rfl⟩
theorem nC{E:Type}:∀(l p:AA E),p.Perm l->p∈Kz l
 |[],p,h=>by rw[List.perm_nil.1 h];simp[Kz]
 |x::l,p,h=>by
  have hx:x∈p:=h.mem_iff.2 (by simp);obtain⟨a,b,rfl⟩:=List.append_of_mem hx;have h2:=(List.perm_cons x).1 ((List.perm_middle.symm).trans h);simp[Kz,List.mem_flatMap];exact⟨a++b,nC l _ h2,tW x a b⟩
variable {E:Type}
def anyP{R:Type}[DecidableEq R](k:AA E->AB R)(l:AA E):AB R:=bif (Kz l).all (λp=>AG (k p=k l))then k l else AF
theorem wK{R:Type}[DecidableEq R]{k:AA E->AB R}{l:AA E}{r:R}(h:anyP k l=AC r)(p:AA E)(a:p.Perm l):k p=AC r:=by
 unfold anyP at h;cases q:(Kz l).all (λp=>AG (k p=k l))with
 |true=>
  simp_all[nC]
 |false=>grind
theorem nP{E:Type}:∀(l p:AA E),p∈Kz l->p.Perm l
 |[],p,h=>by simp[Kz]at h;rw[h]
 |x::l,p,h=>by
  simp[Kz,List.mem_flatMap]at h;obtain⟨q,hq,hp⟩:=h;have ins:∀(q p:AA E),p∈My x q->p.Perm (x::q):=by
   intro q
   induction q with
   |nil=>intro p hp;simp[My]at hp;rw[hp]
   |cons y q d=>
    intro p hp;simp[My,X7,Xe]at hp;rcases hp with rfl|⟨z,a,rfl⟩
    .exact .refl _
    .exact((d z a).cons y).trans (List.Perm.swap _ _ _)
  exact(ins q p hp).trans ((nP l q hq).cons x)
theorem wJ{E R:Type}[DecidableEq R]{k:AA E->AB R}{l:AA E}{r:R}(h:∀p,p.Perm l->k p=AC r):anyP k l=AC r:=by
 unfold anyP;have:(Kz l).all (λp=>AG (k p=k l))=true:=Xu.2 λp a=>by
  simp_all[nP]
 rw[this];simp_all
variable {B:Type}
def PH{S:Type}(stepE:S->E->AB (Bn S B))(stepN:S->AB B)(G:B->Prop)(s:S)(l:AA E):Prop:=∀p,p.Perm l->∃b,KW stepE stepN s p=AC b/\G b
variable {α:Type}
section
variable {P:AK} {o:AM} {env:Env} {H:Qc} {h0 N:Nat} {Q:QP} {c:Code}
def fk(I:Env->Qc->Prop)(Q:QP):QP
 |.normal,env,H=>I env H
 |.exit id,env,H=>Q (.exit id) env H
 |.ret,env,H=>Q .ret env H
theorem wl{I:Nat->Env->Qc->Prop}(body:∀n env H,I n env H->TC P h0 N c env H (fk (λenv H=>∃n',n'<n/\I n' env H) Q)){n:Nat}(B:I n env H):TC P h0 N (.loop c) env H Q:=by
 intro M l y σ a w r hrd b k cs hro hb hr;have F:∀m n env H fr1 ro1 σ1 a1 w1,n<m->I n env H->C0 fr1 ro1 σ1 H env N a1 w1->Qm l y w ro1 w1->σ1.take h0=σ.take h0->Cw l w a.defers fr1 a1.defers->
   ∃e g h,Hf h0 l y σ w N a.defers Q e g h/\ArrivesIn (Machine.fenced P (WF M)) P (lone (b.atR a1 (.code c::.inLoop c::k)) cs w1) b k cs e g h:=by
  intro m
  induction m with
  |zero=>omega
  |succ m R=>
   intro n env H fr1 ro1 σ1 a1 w1 hn B r1 ev1 t1 g1;obtain⟨e,g,h,z,d⟩:=body n env H B M fr1 ro1 σ1 a1 w1 r1 (hrd.to ev1 g1.sub) b (.inLoop c::k) cs hro hb hr;obtain⟨x,f,H',j,σ',t,u,p,L,Y,G,X⟩:=z;have s:=ev1.trans (Y.frMono g1.sub);have O:=g1.trans ev1.size X;have J:∀x,Q x f H'->Tc e x->Hf h0 l y σ w N a.defers Q e g h:=λx q W=>⟨x,f,H',j,σ',t,W,q,L,s,G.trans t1,O⟩;cases e with
   |normal=>
    obtain rfl:x=.normal:=u;obtain⟨n',V,p⟩:=p;obtain⟨T,a2,w2,E,i⟩:=R n' f H' t j σ' g h (by omega) p L s (G.trans t1) O;exact⟨T,a2,w2,E,.of_steps (StepsIn.trans d (.one (fenced_calm hb hr rfl) stepR_inLoop)) i⟩
   |exit id=>
    obtain rfl:x=.exit id:=u;exact⟨_,g,h,J _ p rfl,.pass rfl (by simp) d⟩
   |ret=>
    obtain rfl:x=.ret:=u;exact⟨_,g,h,J _ p rfl,.pass rfl (by simp) d⟩
   |_=>exact u.elim
 obtain⟨e,g,h,z,d⟩:=F (n+1) n env H l y σ a w (Xo _) B r (Qm.refl _ _ _) rfl (Cw.refl _ _ _);exact⟨e,g,h,z,.of_steps (.one (fenced_calm hb hr rfl) stepR_loop) d⟩
section
variable {S E B:Type} {stepE:S->E->AB (Bn S B)} {stepN:S->AB B} {G:B->Prop} (Es:S->Env) (Hp:S->AA (A×A)->Qc) {enc:E->A×A}
def oN(stepE:S->E->AB (Bn S B))(stepN:S->AB B)(G:B->Prop)(enc:E->A×A)(h0 n:Nat)(env:Env)(H:Qc):Prop:=
 ∃s l,l.length=n/\PH stepE stepN G s l/\Le h0 env H (Es s) (Hp s (l.map enc))
theorem wm{s0:S}{l0:AA E}(h:PH stepE stepN G s0 l0)(hI:Le h0 env H (Es s0) (Hp s0 (l0.map enc)))
  (body:∀s l,PH stepE stepN G s l->TC P h0 N c (Es s) (Hp s (l.map enc)) (fk (λenv H=>∃n',n'<l.length/\oN Es Hp stepE stepN G enc h0 n' env H) Q)):TC P h0 N (.loop c) env H Q:=
 wl (I:=oN Es Hp stepE stepN G enc h0) (λn env H ⟨s,l,hn,ha,hle⟩=>by subst hn;exact TC.le hle (body s l ha)) ⟨s0,l0,rfl,h,hI⟩
theorem zf{β:Type}{f:α->β}:∀{m e:AA β},m.Perm e->∀{l:AA α},e=l.map f->∃l':AA α,l'.Perm l/\l'.map f=m:=by
 intro m e h
 induction h with
 |nil=>simp
 |cons x _ ih=>
  intro l d;cases l with
  |nil=>cases d
  |cons a l=>
   simp[Vk,List.cons.injEq]at d;obtain⟨l',g,i⟩:=ih d.2;exact⟨a::l',g.cons _,by grind⟩
 |swap x y m=>
  intro l d
  match l,d with
  |a::b::l,d=>
   exact⟨b::a::l,List.Perm.swap _ _ _,by grind⟩
 |trans _ _ ih1 ih2=>
  intro l d;obtain⟨p,g,i⟩:=ih2 d;obtain⟨n,k,j⟩:=ih1 i.symm;exact⟨n,k.trans g,j⟩
theorem wq{all:Array AM}{L:AA AM}{d i:Nat}{x:Operand}{n:AB (A×A)}{s:S}{l:AA E}(u:PH stepE stepN G s l)
  (J:∀b,stepN s=AC b->G b->WO P h0 N all L (up env d (.tup [.bool AD])) H Q)
  (z:∀e l' D,stepE s e=AC D->(∀b,D=.d b->G b)->(l'.length<l.length/\ ∀s',D=.k s'->PH stepE stepN G s' l')->
   WO P h0 N all L (up env d (.tup [.bool AE,(enc e).1,(enc e).2])) (H.set i (.iter (AC (enc e)) (l'.map enc))) Q)
  (F:o.op=.next x false:=by rfl)(hx:Bu env x=.ptr i 0:=by rfl)(hH:H[i]?=AC (.iter n (l.map enc)):=by rfl)
  (hg:QE all o env true:=by rfl)(hd:o.dst=AC d:=by rfl)(hN:Nat.blt d N=true:=by rfl)(hh:Nat.ble h0 H.length=true:=by rfl):WO P h0 N all (o::L) env H Q:=by
 refine o7 (XS hh) hg hd hN (bD.next F hx hH) ?_;rintro v H' (⟨r,rfl,rfl⟩|⟨e,y,r,rfl,rfl⟩)
 .have:=List.map_eq_nil_iff.1 r;subst this;obtain⟨b,j,k⟩:=u [] (.refl _);exact J b j k
 .obtain⟨B,j,k⟩:=zf r rfl;cases B with
  |nil=>cases k
  |cons a l'=>
   obtain⟨rfl,rfl⟩:=k;have h:l'.length<l.length:=by rw[<- j.length_eq];simp
   have f:∀p,p.Perm l'->∃b,KW stepE stepN s (a::p)=AC b/\G b:=λp m=>u _ ((m.cons a).trans j);cases q:stepE s a with
   |none=>
    obtain⟨b,g,_⟩:=f l' (.refl _);simp[KW,q]at g
   |some D=>
    refine z a l' D q ?_ ⟨h,?_⟩
    .obtain⟨t,g,w⟩:=f l' (.refl _)
     grind[KW]
    .rintro s' rfl p m;obtain⟨t,g,w⟩:=f p m;simp[KW,q]at g;exact⟨t,g,w⟩
theorem uo{s:S}{l l':AA E}{D:Bn S B}(e:AC (Bn.k s)=AC D)(hc:l'.length<l.length/\ ∀s',D=.k s'->PH stepE stepN G s' l')(h:Le h0 env H (Es s) (Hp s (l'.map enc))):
  fk (λenv H=>∃n',n'<l.length/\oN Es Hp stepE stepN G enc h0 n' env H) Q .normal env H:=
 ⟨_,hc.1,s,l',rfl,(by grind),h⟩
theorem uq{I:Env->Qc->Prop}{id:Nat}(h:Q (.exit id) env H):fk I Q (.exit id) env H:=h
end
def ow(h0:Nat)(G:B->Prop)(Eb:B->Env)(Hb:B->Qc)(Q:QP):QP
 |.normal,env,H=>∃b,G b/\Le h0 env H (Eb b) (Hb b)
 |.exit id,env,H=>Q (.exit id) env H
 |.ret,env,H=>Q .ret env H
theorem wG{S E:Type}{stepE:S->E->AB (Bn S B)}{stepN:S->AB B}{G:B->Prop}{s0:S}{l0:AA E}(hl:PH stepE stepN G s0 l0)(Eb:B->Env)(Hb:B->Qc)
  (h:TC P h0 N c env H (ow h0 G Eb Hb Q))(k:∀b env H,G b->Le h0 env H (Eb b) (Hb b)->Q .normal env H):TC P h0 N c env H Q:=
 h.mono λx env' H' q=>by
  cases x with
  |normal=>obtain⟨b,e,q⟩:=q;grind
  |exit id=>exact q
  |ret=>exact q
theorem ZU{B:Type}{G:B->Prop}{Eb:B->Env}{Hb:B->Qc}{b:B}(hG:G b)(h:Le h0 env H (Eb b) (Hb b)):ow h0 G Eb Hb Q .normal env H:=⟨b,hG,h⟩
theorem x9{i:Nat}{d:AB (A×A)}{es:AA (A×A)}{H':Qc}(hH:H[i]?=AC (.iter d es))(f:H.set i (.iter AF es)=H'):Le h0 env H env H':=by
 subst f;intro u n σ N a w r;refine⟨n,σ,⟨r.sim.weaken hH rfl ?_,r.env,r.size,r.defers⟩,λ_ q=>q,rfl⟩;intro y h;cases y with
 |none=>exact h
 |some b=>
  rcases h with⟨k,p,g⟩|⟨m,l,e,j,left,k,p,g,t,x,B,z,s⟩
  .exact .inl ⟨k,rfl,g⟩
  .exact .inr (by grind)
end
def mk(n:Int)(z:α):AB (AA α):=bif AG (0<=n)&&AG (n<=4294967296)then AC (List.replicate n.toNat z)else AF
theorem om{α:Type}{n:Int}{z:α}{l:AA α}(h:mk n z=AC l):0<=n/\n<=4294967296/\List.replicate n.toNat z=l:=by
 unfold mk at h;cases q:(AG (0<=n)&&AG (n<=4294967296))with
 |true=>rw[q]at h;simp at q;exact⟨q.1,q.2,X0 h⟩
 |false=>rw[q]at h;cases h
theorem sJ{α:Type}[Inhabited α](zl:AA α)(k:Nat)(hk:zl.length=k)(h0:0<k):∀n,(List.range (n*k)).map (λi=>zl.toArray[i%zl.toArray.size]!)=(List.replicate n zl).flatten
 |0=>by simp
 |n+1=>by
  rw[Xm,List.range_add,Xf,sJ zl k hk h0 n,List.replicate_succ',Xt];congr 1;simp only[Vm,List.flatten_nil,Vh,List.map_map];apply List.ext_getElem
  .simp[hk]
  .intro i h1 h2;simp only[X3,List.length_range]at h1;simp only[List.getElem_map,List.getElem_range,Function.comp,List.size_toArray,hk];rw[Nat.mul_comm,Nat.mul_add_mod,Nat.mod_eq_of_lt h1];simp[hk,h1]
section
variable {P:AK} {o:AM} {env:Env} {H:Qc} {ro:Nat->Prop} {σ:CD} {w:AJ}
theorem LR.replicate{az:AA A}{l:AA AL}(h:LR ro σ w az l):∀n,LR ro σ w (List.replicate n az).flatten (List.replicate n l).flatten
 |0=>rfl
 |n+1=>by
  rw[Xl,Xl];exact h.append (LR.replicate h n)
theorem mF{α:Type}{e:α->AA A}{T et k:Nat}{x y:Operand}{Q L:IntKind}{n:Int}{zv:α}{l:AA α}{z:AL}{a:A}(hm:mk n zv=AC l)(E:Yg P T et k)(hz:∀w,(zeroValue et).run P w=.ok z w)(ad:ZR a z)
  (hk:Yo a=AE)(hc:Yf a=e zv)(hp:(Yf a).all Yr=AE)(s:Nat.beq (e zv).length k=AE)
  (ho:o.op=.makeSlice T x y:=by rfl)(hx:Bu env x=.int Q n:=by rfl)(hy:Bu env y=.int L n:=by rfl)
  {fr ro:Nat->Prop}{σ:CD}{N:Nat}{act:Act}{w:AJ}(r:C0 fr ro σ H env N act w):∃lv:AA AL,(execOp act.eval o).run P w=.ok (.value (.slice (AC ⟨w.heap.size,0,AF⟩) l.length l.length)) (w.alloc (.cells lv.toArray et))/\
   LR ro [] w (l.map e).flatten lv/\(∀v∈lv,QB v)/\allK k (l.map e)/\lv.length=l.length*k/\l.length<=4294967296:=by
 obtain⟨n0,n1,hl⟩:=om hm;have O:=Qn r x;rw[hx]at O;have h2:=Qn r y;rw[hy]at h2;have X:act.eval x=.int Q n:=O;have V:act.eval y=.int L n:=h2;obtain⟨i,hi,ag⟩:=E.bytes;obtain⟨f,c1,R⟩:=(ad ro [] w).cells hk;have t:f.length=k:=by
  rw[R.length,hc];exact XR s
 have af:(if n.toNat*k=0 then(#[]:Array AL)else f.toArray)=f.toArray\/n.toNat*k=0:=by
  by_cases q:n.toNat*k=0
  .exact .inr q
  .exact .inl (Vt q)
 have d:∀(ZZ:Array AL),(ZZ=f.toArray\/n.toNat*k=0)->(Array.range (n.toNat*k)).map (λj=>ZZ[j%ZZ.size]!)=((List.replicate n.toNat f).flatten).toArray:=by
  intro ZZ hZ;by_cases q:n.toNat*k=0
  .rw[q];have:(List.replicate n.toNat f).flatten=[]:=by
    apply VJ.1;simp[t,q]
   rw[this];simp
  .obtain rfl:ZZ=f.toArray:=hZ.resolve_right q;have M:0<k:=by
    rcases Nat.eq_zero_or_pos k with h|h
    .rw[h,Nat.mul_zero]at q;exact absurd rfl q
    .exact h
   rw[<- sJ f k t M n.toNat];simp[XJ, <- List.toArray_range]
 have G:=R.replicate n.toNat;have Y:allK k (List.replicate n.toNat (e zv)):=by
  have:∀m,allK k (List.replicate m (e zv)):=by
   intro m
   induction m with
   |zero=>trivial
   |succ m ih=>exact⟨XR s,ih⟩
  exact this _
 have g:∀v∈(List.replicate n.toNat f).flatten,QB v:=by
  intro v J;obtain⟨m,hm,J⟩:=List.mem_flatten.1 J;rw[List.eq_of_mem_replicate hm]at J;exact R.plain hp v J
 rw[hc]at G;have p:l.map e=List.replicate n.toNat (e zv):=by rw[<- hl,List.map_replicate]
 have u:l.length=n.toNat:=by rw[<- hl];simp
 refine⟨(List.replicate n.toNat f).flatten,?_,by rw[p];exact G,g,by rw[p];exact Y,by rw[u];simp[t],by omega⟩;rw[u]
 .have hw:IntKind.i64.wrap n=n:=by
   unfold IntKind.wrap;simp[IntKind.bits,IntKind.signed];omega
  have ae:∀(x:Nat) (W:AJ),(askRoom x).run P W=.ok () W:=by
   intro x W;unfold askRoom;split<;>rfl
  have F:∀(c:Array AL) (W:AJ),(newRow et c).run P W=.ok ⟨W.heap.size,0,AF⟩ (W.alloc (.cells c et)):=λc W=>rfl;have ab:¬(n<0):=by omega
  have aa:¬((i.bytes:Int)*n>2^48):=by
   have O:(i.bytes:Int)*n<=4096*4294967296:=Int.mul_le_mul (by omega) n1 n0 (by omega);omega
  have B:(Instr.makeSlice T (.int Q n) (.int L n)).run P w=.ok (.slice (AC ⟨w.heap.size,0,AF⟩) n.toNat n.toNat) (w.alloc (.cells ((List.replicate n.toNat f).flatten).toArray et)):=by
   have ah:¬(n>n):=by omega
   have ac:∀(k:IntKind) (m:Int) (W:AJ),(asInt (.int k m)).run P W=.ok m W:=λk m W=>rfl;unfold Instr.makeSlice;simp only[Vn,E.sl,E.size,hi,Result.andThen,ac,Vp,hw,ae,XI];rw[Vt (by simp[ab,aa];omega)];by_cases q:n.toNat*k=0
   .simp only[q,if_true,Vp];have:=d #[] (.inr q);rw[q]at this;simp only[this,F]
   .simp only[q,if_false,hz,Vp,c1,d f.toArray (.inl rfl),F]
  generalize act.eval=ρ at*;simp only[execOp,ho,X,V,Vn,B,Result.andThen];rfl
theorem lx{α:Type}{e:α->AA A}{T et k:Nat}{x y:Operand}{s i:IntKind}{n:Int}{zv:α}{l:AA α}{z:AL}{a:A}(j:mk n zv=AC l)(E:Yg P T et k)(G:∀w,(zeroValue et).run P w=.ok z w)(f:ZR a z)
  (F:Yo a=AE)(q:Yf a=e zv)(B:(Yf a).all Yr=AE)(d:Nat.beq (e zv).length k=AE)
  (M:o.op=.makeSlice T x y:=by rfl)(hx:Bu env x=.int s n:=by rfl)(hy:Bu env y=.int i n:=by rfl):
  Do P o env H (.osl H.length 0 l.length k) (H++[.row et k (l.map e)]):=by
 intro Q u σ N act w r;obtain⟨O,p,m,J,h,L,R⟩:=mF j E G f F q B d M hx hy r;have g:=r.sim.allocRow (t:=et) (rest:=[]) h m J;rw[Vh]at g;refine⟨_,_,u,[AC w.heap.size],p,.inr ⟨w.heap.size,0,l.length,et,O.length,?_,rfl,λ_=>by simp,⟨XU _,by omega⟩,?_,by rw[L,Xx];exact XU _⟩,g,Qm.alloc _ r.sim.roLt r.sim.frLt⟩
 .rw[<- r.sim.len];simp
 .unfold World.shape?;rw[Q9];simp
end
open Go.Sort Go.Proofs Go.Shelf
section
variable {α:Type}
def ins(lt:α->α->Bool)(x:α):AA α->AA α
 |[]=>[x]
 |y::l=>bif lt y x then y::ins lt x l else x::y::l
def I0(lt:α->α->Bool):AA α->AA α
 |[]=>[]
 |x::l=>ins lt x (I0 lt l)
theorem mq(lt:α->α->Bool)(x:α):∀l,(ins lt x l).Perm (x::l)
 |[]=>.refl _
 |y::l=>by
  unfold ins;cases lt y x
  .exact .refl _
  .exact((mq lt x l).cons y).trans (List.Perm.swap _ _ _)
theorem Q2(lt:α->α->Bool):∀l,(I0 lt l).Perm l
 |[]=>.refl _
 |x::l=>(mq lt x _).trans ((Q2 lt l).cons x)
structure Ms (lt:α->α->Bool) (l:List α):Prop where
 irrefl:∀x∈l,lt x x=AD
 trans:∀x∈l,∀y∈l,∀z∈l,lt x y=AE->lt y z=AE->lt x z=AE
 ntrans:∀x∈l,∀y∈l,∀z∈l,lt x y=AD->lt y z=AD->lt x z=AD
theorem Ms.mono{lt:α->α->Bool}{l m:AA α}(h:Ms lt l)(hm:∀x∈m,x∈l):Ms lt m:=
 ⟨λx hx=>h.irrefl x (hm x hx),λx hx y hy z hz=>h.trans x (hm x hx) y (hm y hy) z (hm z hz),λx hx y hy z hz=>h.ntrans x (hm x hx) y (hm y hy) z (hm z hz)⟩
theorem Ms.asymm{lt:α->α->Bool}{l:AA α}(h:Ms lt l){x y:α}(d:x∈l)(e:y∈l)(a:lt x y=AE):lt y x=false:=by
 cases q:lt y x
 .rfl
 .rw[<- h.irrefl x d,h.trans x d y e x d a q]
theorem tX{lt:α->α->Bool}{x:α}:∀{l:AA α},Ms lt (x::l)->l.Pairwise (λa b=>lt b a=AD)->(ins lt x l).Pairwise (λa b=>lt b a=AD)
 |[],_,_=>by simp[ins]
 |y::l,h,hp=>by
  obtain⟨h1,h2⟩:=Xc.1 hp;unfold ins;cases q:lt y x
  .refine Xc.2 ⟨λz hz=>?_,hp⟩;rcases X7.1 hz with rfl|hz
   .exact q
   .exact h.ntrans z (by simp[hz]) y (by simp) x (by simp) (h1 z hz) q
  .refine Xc.2 ⟨λz hz=>?_,tX (h.mono (by grind)) h2⟩;rcases X7.1 ((mq lt x l).mem_iff.1 hz)with rfl|hz
   .exact h.asymm (by simp) (by simp) q
   grind
theorem YM{lt:α->α->Bool}:∀{l:AA α},Ms lt l->(I0 lt l).Pairwise (λa b=>lt b a=AD)
 |[],_=>by simp[I0]
 |x::l,h=>tX (h.mono (by
   intro z hz;rcases X7.1 hz with rfl|hz
   .simp
   grind[Q2])) (YM (h.mono (by grind)))
theorem f5{lt:α->α->Bool}:∀{l m:AA α},l.Perm m->(∀x∈l,∀y∈l,lt x y=AD->lt y x=AD->x=y)->l.Pairwise (λa b=>lt b a=AD)->m.Pairwise (λa b=>lt b a=AD)->l=m
 |[],m,h,_,_,_=>by simp_all
 |x::l,[],h,_,_,_=>by simp_all
 |x::l,y::m,h,ha,hl,hm=>by
  obtain⟨l1,l2⟩:=Xc.1 hl;obtain⟨m1,m2⟩:=Xc.1 hm;have hy:y∈x::l:=h.mem_iff.2 (by simp);have hxy:x=y:=by
   grind
  subst hxy;rw[f5 (by simp_all) (by grind) l2 m2]
def GW(cf:α->α->AB Int)(x y:α):Bool:=match cf x y with
 |some c=>AG (c<0)
 |none=>AD
def Zr[DecidableEq α](cf:α->α->AB Int)(l:AA α):Bool:=
 l.all λx=> !GW cf x x&&l.all λy=>(cf x y).isSome&&(GW cf x y||GW cf y x||AG (x=y))&&l.all λz=>(!GW cf x y|| !GW cf y z||GW cf x z)&&(GW cf x y||GW cf y z|| !GW cf x z)
def Ky[DecidableEq α](cf:α->α->AB Int)(l:AA α):AB (AA α):=bif Nat.ble l.length Yn&&Zr cf l then AC (I0 (GW cf) l)else AF
theorem mj[DecidableEq α]{a:α->α->AB Int}{l l':AA α}(h:Ky a l=AC l'):
  l.length<=Yn/\(∀x∈l,∀y∈l,∃c,a x y=AC c)/\Ms (GW a) l/\(∀x∈l,∀y∈l,GW a x y=AD->GW a y x=AD->x=y)/\I0 (GW a) l=l':=by
 unfold Ky at h;cases j:Nat.ble l.length Yn with
 |false=>grind
 |true=>
 rw[j,VA]at h;cases q:Zr a l with
 |false=>grind
 |true=>
  rw[q]at h;refine⟨(by simp_all),?_⟩;unfold Zr at q;simp[Xu,XX,Bool.not_eq_true',Bool.or_eq_true]at q;refine⟨λx d y e=>Option.isSome_iff_exists.1 ((q x d).2 y e).1.1,⟨λx d=>(q x d).1,λx d y e z i g f=>?_,λx d y e z i g f=>?_⟩,λx d y e g f=>?_,X0 h⟩
  .grind
  .grind
  grind
theorem yb[DecidableEq α]{a:α->α->AB Int}{l:AA α}(d:l.length<=Yn)(c:α->α->Int)(j:∀x∈l,∀y∈l,a x y=AC (c x y))(hi:∀x∈l,¬c x x<0)
  (g:∀x∈l,∀y∈l,∀z∈l,c x y<0->c y z<0->c x z<0)(f:∀x∈l,∀y∈l,∀z∈l,¬c x y<0->¬c y z<0->¬c x z<0)(k:∀x∈l,∀y∈l,¬c x y<0->¬c y x<0->x=y):
  Ky a l=AC (I0 (GW a) l):=by
 have i:∀x∈l,∀y∈l,GW a x y=AG (c x y<0):=λx h y e=>by unfold GW;grind
 have q:Zr a l=true:=by
  unfold Zr
  grind
 simp_all[Ky,XT]
theorem aQ[DecidableEq α]{a:α->α->AB Int}{l l':AA α}(h:Ky a l=AC l'):l.length=l'.length:=by
 rw[<- (mj h).2.2.2.2];exact(Q2 _ _).length_eq.symm
theorem QR{l l':AA α}{i:Int}{x:α}(h:Fe l i x=AC l'):l.length=l'.length:=by
 grind[Fe]
theorem QD{g:Nat}{env:Env}{H:Qc}{s:Nat}{a a':A}(h:lk env s=a)(e:a=a'):Le g env H (up env s a') H:=by
 intro i f σ N act w r;refine⟨f,σ,⟨r.sim,λd=>?_,r.size,r.defers⟩,λ_ q=>q,rfl⟩;subst e;have:lk (up env s a) d=lk env d:=by
  simp[lk];cases q:Nat.beq d s with
  |true=>simp_all
  |false=>rfl
 rw[this];exact r.env d
end
section
variable {fr ro:Nat->Prop} {σ:CD} {H:Qc} {w w':AJ}
theorem tx(hh:∀b,b<w.heap.size->w'.heap[b]?=w.heap[b]?)(hro:∀b,ro b->b<w.heap.size)(σ:CD):Cx ro σ w ro σ w':=
 ⟨λ_ q=>q,(by grind),λb x hx=>by grind[World.shape?],λ_ _ q=>q⟩
theorem B9.grown(s:B9 fr ro σ H w)(a:∀b,b<w.heap.size->w'.heap[b]?=w.heap[b]?)(g:w.heap.size<=w'.heap.size):B9 fr ro σ H w':=by
 refine⟨s.len,s.roOk.to (λ_ q=>q) (λb q=>a b (s.roLt b q)) (λb h=>Vg (s.roLt b h) g),λb h=>Vg (s.frLt b h) g,s.roFr,λi b x f e n=>?_,s.inj,λi y x f e=>?_,s.hidTo (· = ·) Yl g (by simp) (by simp) λj d y k m r=>.inl ⟨j,y,rfl,k,m,id,λc q=>s.hidKeep k m (λz=>a d (s.own j d y k m z).1) (λb q=>a b (s.roLt b q)) q⟩⟩
 .obtain⟨p,q⟩:=s.own i b x f e n
  grind
 .refine(s.blk i y x f e).keep (tx a s.roLt σ) ?_ ?_
  .rintro b rfl l;exact a b (s.own i b x f e l).1
  .rintro b c rfl l;exact a c (s.hid i b x c f e l).lt
theorem Qm.grown(hh:∀b,b<w.heap.size->w'.heap[b]?=w.heap[b]?)(hs:w.heap.size<=w'.heap.size)(s:B9 fr ro σ H w)(ho:w'.os=w.os)(ht:w'.tape=w.tape)(hu:w'.output=w.output)(hd:w.drawn<=w'.drawn):Qm fr ro w ro w':=
 ⟨λ_ q=>q,λb h=>hh b (s.roLt b h),λb h=>hh b (s.frLt b h),hs,(tx hh s.roLt σ).shape,ho,ht,hu,hd⟩
theorem vz(j:∀b,b<w.heap.size->w'.heap[b]?=w.heap[b]?)(h:w.heap.size<=w'.heap.size)(g:w'.os=w.os)(e:w'.tape=w.tape)(f:w'.output=w.output)(i:w.drawn<=w'.drawn):
  ∃q os',w'=grow (w.drewN q) os':=by
 refine⟨w'.drawn-w.drawn,w'.heap.extract w.heap.size w'.heap.size,?_⟩;obtain⟨a,p,d,k,l⟩:=w';simp only at j h g e f i;subst g e f;unfold grow World.drewN;have m:a=w.heap++a.extract w.heap.size a.size:=by
  grind
 have n:d=w.drawn+(d-w.drawn):=by omega
 grind
end
abbrev A.p:=A.ptr
abbrev A.b:=A.bool
abbrev A.a:=A.agg
abbrev A.s:=A.osl
abbrev A.t:=A.tup
abbrev A.q:=A.rsl
abbrev A.i:=A.int
abbrev A.n:=A.nils
abbrev B8.c:=B8.cells
abbrev B8.r:=B8.row
abbrev B8.R:=B8.rowr
abbrev B8.e:=B8.ents
abbrev A.o(i n k:Nat):=A.osl i 0 n k
abbrev A.f(n:Nat):=A.fn (.func n) [] []
abbrev B3(b k:Nat)(l h:Int):List A:=[.ptr b k,.int .i64 l,.int .i64 h]
end Go.Sw
