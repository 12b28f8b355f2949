/- The rules by which the code is walked, with what they rest on (part 1). -/
import Derived.Calls
import Derived.Tactics
import Derived.Below
import Derived.TacticsIn
import Derived.OrdersIn
import Derived.RangeFuncLeaves
import Derived.RangeFuncRecord
import Derived.Laws.Strings
import Derived.Laws.World
import Derived.Orders
import Derived.Maps.Keyed
import Derived.Laws.StructEq
import Derived.Maps.RangeRun
import Derived.Shelf.SlSortCmp.NoneTotal
set_option linter.unusedVariables false
set_option linter.unusedSimpArgs false
set_option linter.unusedSectionVars false
namespace Go.Sw
abbrev Xa:= @List.getElem?_set_self
abbrev Xb:= @List.getElem?_set
abbrev Xc:= @List.pairwise_cons
abbrev Xd:= @List.mem_filter
abbrev Xe:= @List.mem_map
abbrev Xf:= @List.map_append
abbrev Xg:= @Bool.not_true
abbrev Xh:= @Bool.not_false
abbrev Xi:= @Bool.false_eq_true
abbrev Xj:= @Option.map_some
abbrev Xk:= @Option.map_none
abbrev Xl:= @List.replicate_succ
abbrev Xm:= @Nat.succ_mul
abbrev Xn:= @Nat.lt_succ_self
abbrev Xo:= @List.getElem?_map
abbrev Xp:= @List.drop_eq_getElem_cons
abbrev Xq:= @List.drop_eq_nil_iff
abbrev Xr:= @List.drop_length
abbrev Xs:= @List.all_eq_true
abbrev Xt:= @List.any_eq_true
abbrev Xu:= @List.range_succ
abbrev Xv:= @Array.toList_inj
abbrev Xw:= @Nat.zero_add
abbrev Xx:= @Nat.add_zero
abbrev Xy:= @List.length_take
abbrev Xz:= @List.take_append_drop
abbrev XA:= @Nat.add_mul
abbrev XB:= @Nat.min_eq_left
abbrev XC:= @Nat.mul_le_mul_right
abbrev XD:= @List.foldl_cons
abbrev XE:= @List.getElem?_cons_zero
abbrev XF:= @List.getElem?_cons_succ
abbrev XG:= @List.getElem?_toArray
abbrev XH:= @Sem.run_ite
abbrev XI:= @List.map_toArray
abbrev XJ:= @Option.bind_some
abbrev XK:= @List.getElem?_eq_getElem
abbrev XL:= @List.getElem?_eq_some_iff
abbrev XM:= @List.getElem?_append_left
abbrev XN:= @List.getElem?_append_right
abbrev XO:= @List.getElem?_eq_none
abbrev XP:= @List.getElem?_set_ne
abbrev XQ:= @Nat.eq_of_beq_eq_true
abbrev XR:= @Nat.le_of_ble_eq_true
abbrev XS:= @Nat.ble_eq_true_of_le
abbrev XT:= @Nat.le_refl
abbrev XU:= @Nat.zero_le
abbrev XV:= @Nat.le_trans
abbrev XW:= @Bool.and_eq_true
abbrev XX:= @Bool.or_eq_false_iff
abbrev XY:= @Bool.eq_iff_iff
abbrev XZ:= @Option.some.inj
abbrev X0:= @List.length_cons
abbrev X2:= @List.length_map
abbrev X3:= @List.length_append
abbrev X4:= @List.length_set
abbrev X5:= @List.mem_cons_of_mem
abbrev X6:= @List.mem_cons
abbrev X7:= @List.take_append_of_le_length
abbrev X8:= @List.drop_append_of_le_length
abbrev X9:= @List.take_length
abbrev Va:= @List.drop_length_add_append
abbrev Vb:= @List.take_length_add_append
abbrev Vc:= @Array.getElem?_eq_some_iff
abbrev Vd:= @List.getElem_mem
abbrev Ve:= @Array.getElem?_setIfInBounds
abbrev Vf:= @Nat.lt_of_lt_of_le
abbrev Vg:= @List.append_nil
abbrev Vh:= @List.nil_append
abbrev Vi:= @List.append_assoc
abbrev Vj:= @List.map_cons
abbrev Vk:= @List.map_nil
abbrev Vl:= @List.flatten_cons
abbrev Vm:= @Sem.run_bind
abbrev Vn:= @Sem.run_pure
abbrev Vo:= @cond_true
abbrev Vp:= @cond_false
abbrev Vq:= @decide_eq_true_eq
abbrev Vr:= @if_neg
abbrev Vs:= @if_pos
abbrev Vt:= @decide_eq_true
abbrev Vu:= @of_decide_eq_true
abbrev Vv:= @of_decide_eq_false
abbrev Vw:= @decide_eq_false
abbrev Vx:= @beq_iff_eq
abbrev Vy:= @beq_eq_false_iff_ne
abbrev Vz:= @Bool.true_and
abbrev VA:= @List.mem_singleton
abbrev VB:= @Nat.lt_or_ge
abbrev VC:= @List.mem_append
abbrev VD:= @List.pairwise_iff_getElem
abbrev VE:= @Nat.beq_refl
abbrev VF:= @List.mem_map_of_mem
abbrev VG:= @List.mem_of_getElem?
abbrev VH:= @List.take_of_length_le
abbrev VI:= @List.length_eq_zero_iff
abbrev VJ:= @List.cons_append
abbrev VK:= @List.getD_eq_getElem?_getD
abbrev VL:= @Bool.eq_false_iff
def Qjq:Nat:=0
def nG:Nat:=1
def QhR:List (List Int):=[]
theorem gOk:((List.range nG).all λb=>Nat.beq b Qjq|| !(QhR.getD b []).isEmpty)=true:=by decide
theorem gLt:Nat.ble QhR.length nG=true:=by decide
theorem Qnx:Nat.blt Qjq nG=true:=by decide
structure GP (w:World):Prop where
 max:∃m:Int,w.cell? ⟨Qjq,0,none⟩=some (.int .i64 m)
 tab:∀(g:Nat) (zs:List Int),QhR[g]?=some zs->∀(i:Nat) (z:Int),zs[i]?=some z->w.cell? ⟨g,i,none⟩=some (.int .i64 z)
theorem GP.keep{w w':World}(h:∀b,b<nG->w'.heap[b]?=w.heap[b]?)(g:GP w):GP w':=by
 obtain⟨m,f⟩:=g.max;refine⟨⟨m,?_⟩,λd j a i z e=>?_⟩
 .rw[<- f];unfold World.cell?;rw[h Qjq (by simpa using Qnx)]
 .rw[<- g.tab d j a i z e];unfold World.cell?;have k:=(XL.1 a).1;have l:QhR.length<=nG:=by simpa using gLt
  rw[h d (by omega)]
theorem QfH{w:World}{b i:Nat}{v:Value}(h:w.cell? ⟨b,i,none⟩=some v):b<w.heap.size:=by
 cases e:w.heap[b]? with
 |none=>simp[World.cell?,e]at h
 |some o=>exact(Vc.1 e).1
theorem GP.size{w:World}(g:GP w)(b:Nat)(f:b<nG):b<w.heap.size:=by
 have h:=Xs.1 gOk b (List.mem_range.2 f);rw[Bool.or_eq_true]at h;rcases h with h|h
 .obtain⟨m,d⟩:=g.max;rw[XQ h];exact QfH d
 .cases e:QhR[b]? with
  |none=>rw[VK,e]at h;simp at h
  |some a=>
   cases a with
   |nil=>rw[VK,e]at h;simp at h
   |cons z a=>exact QfH (g.tab b _ e 0 z rfl)
inductive A where
 |any
 |bool (b:Bool)
 |int (k:IntKind) (n:Int)
 |str (s:List UInt8)
 |nilp
 |ptr (i off:Nat)
 |rp (cs:List A)
 |nils
 |rsl (k:Nat) (es:List (List A))
 |osl (i o n k:Nat)
 |agg (cs:List A)
 |fn (f:Fn) (first cap:List A)
 |nilf
 |iface (t:Nat) (v:A)
 |nilif
 |map (i:Nat)
 |nilm
 |tup (vs:List A)
abbrev Sig:=List (Option Nat)
def QA:Value->Prop
 |.agg _|.tuple _=>False
 |_=>True
mutual
def VR(ro:Nat->Prop)(σ:Sig)(w:World):A->Value->Prop
 |.any,_=>True
 |.bool b,v=>v=.bool b
 |.int k n,v=>v=.int k n
 |.str s,v=>v=.string ⟨s.toArray⟩
 |.nilp,v=>v=.pointer none
 |.ptr i off,v=>∃b,σ[i]?=some (some b)/\v=.pointer (some ⟨b,off,none⟩)
 |.rp cs,v=>∃b off,v=.pointer (some ⟨b,off,none⟩)/\ro b/\CR ro [] w b cs off
 |.nils,v=>v=.slice none 0 0
 |.rsl k es,v=>∃a cap,v=.slice a es.length cap/\es.length<=cap/\
   (es=[]\/ ∃b off,a=some ⟨b,off,none⟩/\ro b/\RR ro [] w b k es off)
 |.osl i o n k,v=>(n=0/\v=.slice none 0 0)\/
   ∃b p cap t m,σ[i]?=some (some b)/\v=.slice (some ⟨b,p,none⟩) n cap/\(0<cap->p=o*k)/\(n<=cap/\cap<=9223372036854775807)/\w.shape? b=some (t,m)/\(o+cap)*k<=m
 |.agg cs,v=>∃l:List Value,v=.agg l.toArray/\LR ro σ w cs l
 |.fn f first cap,v=>∃l l':List Value,v=.func f l.toArray l'.toArray/\LR ro σ w first l/\LR ro σ w cap l'
 |.nilf,v=>v=.nilFunc
 |.iface t a,v=>∃x,v=.iface t x/\VR ro σ w a x
 |.nilif,v=>v=.nilIface
 |.map i,v=>∃b,σ[i]?=some (some b)/\v=.map (some b)
 |.nilm,v=>v=.map none
 |.tup vs,v=>∃l:List Value,v=.tuple l.toArray/\LR ro σ w vs l
def CR(ro:Nat->Prop)(σ:Sig)(w:World)(b:Nat):List A->Nat->Prop
 |[],_=>True
 |a::r,off=>(∃v,w.cell? ⟨b,off,none⟩=some v/\QA v/\VR ro σ w a v)/\CR ro σ w b r (off+1)
def RR(ro:Nat->Prop)(σ:Sig)(w:World)(b k:Nat):List (List A)->Nat->Prop
 |[],_=>True
 |cs::r,off=>cs.length=k/\CR ro σ w b cs off/\RR ro σ w b k r (off+k)
def LR(ro:Nat->Prop)(σ:Sig)(w:World):List A->List Value->Prop
 |[],l=>l=[]
 |a::r,l=>∃v l',l=v::l'/\VR ro σ w a v/\LR ro σ w r l'
end
structure Ext (ro:Nat->Prop) (σ:Sig) (w:World) (ro':Nat->Prop) (σ':Sig) (w':World):Prop where
 sub:∀b,ro b->ro' b
 keep:∀b,ro b->w'.heap[b]?=w.heap[b]?
 shape:∀b x,w.shape? b=some x->w'.shape? b=some x
 sig:∀(i b:Nat),σ[i]?=some (some b)->σ'[i]?=some (some b)
theorem QfI{w w':World}{b a:Nat}(h:w'.heap[b]?=w.heap[b]?):w'.cell? ⟨b,a,none⟩=w.cell? ⟨b,a,none⟩:=by
 simp only[World.cell?,h]
theorem Ext.nil{ro ro':Nat->Prop}{σ σ':Sig}{w w':World}(h:Ext ro σ w ro' σ' w'):Ext ro [] w ro' [] w':=
 ⟨h.sub,h.keep,h.shape,λ_ _ q=>q⟩
mutual
theorem VR.mono{ro ro':Nat->Prop}{w w':World}:∀{a:A} {σ σ':Sig} {v:Value},Ext ro σ w ro' σ' w'->VR ro σ w a v->VR ro' σ' w' a v
 |.any,_,_,_,h,_=>trivial
 |.bool b,_,_,v,h,q=>q
 |.int k n,_,_,v,h,q=>q
 |.str s,_,_,v,h,q=>q
 |.nilp,_,_,v,h,q=>q
 |.ptr i off,_,_,v,h,q=>by
  simp only[VR]at q⊢;obtain⟨b,h1,h2⟩:=q;exact⟨b,h.sig _ _ h1,h2⟩
 |.rp cs,_,_,v,h,q=>by
  simp only[VR]at q⊢;obtain⟨b,off,h1,h2,h3⟩:=q;exact⟨b,off,h1,h.sub _ h2,CR.mono h.nil h2 h3⟩
 |.nils,_,_,v,h,q=>q
 |.rsl k es,_,_,v,h,q=>by
  simp only[VR]at q⊢;obtain⟨a,cap,h1,h2,h3⟩:=q;refine⟨a,cap,h1,h2,?_⟩;rcases h3 with h3|⟨b,off,h4,h5,h6⟩
  .exact .inl h3
  .exact .inr ⟨b,off,h4,h.sub _ h5,RR.mono h.nil h5 h6⟩
 |.osl i o n k,_,_,v,h,q=>by
  simp only[VR]at q⊢;rcases q with q|⟨b,p,cap,t,m,h1,h2,h6,h3,h4,h5⟩
  .exact .inl q
  .exact .inr ⟨b,p,cap,t,m,h.sig _ _ h1,h2,h6,h3,h.shape _ _ h4,h5⟩
 |.agg cs,_,_,v,h,q=>by
  simp only[VR]at q⊢;obtain⟨l,h1,h2⟩:=q;exact⟨l,h1,LR.mono h h2⟩
 |.fn f a c,_,_,v,h,q=>by
  simp only[VR]at q⊢;obtain⟨l,l',h1,h2,h3⟩:=q;exact⟨l,l',h1,LR.mono h h2,LR.mono h h3⟩
 |.nilf,_,_,v,h,q=>q
 |.iface t a,_,_,v,h,q=>by
  simp only[VR]at q⊢;obtain⟨x,h1,h2⟩:=q;exact⟨x,h1,VR.mono h h2⟩
 |.nilif,_,_,v,h,q=>q
 |.map i,_,_,v,h,q=>by
  simp only[VR]at q⊢;obtain⟨b,h1,h2⟩:=q;exact⟨b,h.sig _ _ h1,h2⟩
 |.nilm,_,_,v,h,q=>q
 |.tup vs,_,_,v,h,q=>by
  simp only[VR]at q⊢;obtain⟨l,h1,h2⟩:=q;exact⟨l,h1,LR.mono h h2⟩
theorem CR.mono{ro ro':Nat->Prop}{w w':World}:∀{cs:List A} {σ σ':Sig} {b off:Nat},Ext ro σ w ro' σ' w'->ro b->CR ro σ w b cs off->CR ro' σ' w' b cs off
 |[],_,_,_,_,_,_,_=>trivial
 |a::r,_,_,b,off,h,hb,q=>by
  simp only[CR]at q⊢;obtain⟨⟨v,h1,hp,h2⟩,h3⟩:=q;exact⟨⟨v,by rw[QfI (h.keep _ hb)];exact h1,hp,VR.mono h h2⟩,CR.mono h hb h3⟩
theorem RR.mono{ro ro':Nat->Prop}{w w':World}:∀{es:List (List A)} {σ σ':Sig} {b k off:Nat},Ext ro σ w ro' σ' w'->ro b->RR ro σ w b k es off->RR ro' σ' w' b k es off
 |[],_,_,_,_,_,_,_,_=>trivial
 |cs::r,_,_,b,k,off,h,hb,q=>by
  simp only[RR]at q⊢;obtain⟨h1,h2,h3⟩:=q;exact⟨h1,CR.mono h hb h2,RR.mono h hb h3⟩
theorem LR.mono{ro ro':Nat->Prop}{w w':World}:∀{az:List A} {σ σ':Sig} {l:List Value},Ext ro σ w ro' σ' w'->LR ro σ w az l->LR ro' σ' w' az l
 |[],_,_,_,h,q=>q
 |a::r,_,_,l,h,q=>by
  simp only[LR]at q⊢;obtain⟨v,l',h1,h2,h3⟩:=q;exact⟨v,l',h1,VR.mono h h2,LR.mono h h3⟩
end
structure Ent where
 fl:Bool
 off:Nat
 lo:Int
 hi:Int
def winL(i n c:Nat):List (List A):=(List.range c).map λj=>[.osl i (j*n) n 1]
def eC(b1 b2:Nat)(e:Ent):List A:=[.ptr (bif e.fl then b2 else b1) e.off,.int .i64 e.lo,.int .i64 e.hi]
inductive Blk where
 |dead
 |cells (t:Nat) (cs:List A)
 |row (t k:Nat) (es:List (List A))
 |rowr (t k:Nat) (es:List (List A))
 |map (es:List (A×A))
 |iter (cur:Option (A×A)) (es:List (A×A))
 |fmap (es:List (A×A))
 |ents (t b1 b2:Nat) (es:List Ent)
 |wins (t b n c:Nat)
 |mapO (fz:Bool) (t k:Nat) (es:List (A×Option (List (List A))))
 |mapP (es:List (A×A))
 |frow (t k:Nat) (es:List (List A))
def Blk.live:Blk->Bool
 |.dead=>false
 |.fmap _=>false
 |.frow _ _ _=>false
 |.mapO fz _ _ _=> !fz
 |_=>true
def Blk.held:Blk->Bool
 |.mapO fz _ _ _=>fz
 |_=>false
def Blk.holds(x:Blk):Bool:=x.live||x.held
theorem Qbw{x:Blk}(h:x.live=true):x≠ .dead:=by rintro rfl;cases h
theorem Qgu{x:Blk}(h:x.holds=true):x≠ .dead:=by rintro rfl;cases h
theorem Qgv{x:Blk}(h:x.live=true):x.holds=true:=by unfold Blk.holds;rw[h];rfl
abbrev Qd:=List Blk
def ER(ro:Nat->Prop)(σ:Sig)(w:World):List (A×A)->List MapEntry->Prop
 |[],l=>l=[]
 |x::r,l=>∃e l',l=e::l'/\VR ro σ w x.1 e.key/\VR ro σ w x.2 e.val/\ER ro σ w r l'
def ItR(ro:Nat->Prop)(w:World)(b:Nat)(cur:Option (A×A))(es:List (A×A)):Prop:=
 (es=[]/\cur=none/\w.heap[b]?=some (.mapIter none 0 #[] 0))\/
 ∃m l clock seen left,w.heap[b]?=some (.mapIter (some m) clock seen clock)/\ro m/\w.heap[m]?=some (.map l clock)/\(∀e∈l.toList,e.born<clock)/\(l.toList.map (·.born)).Nodup/\
  (left:List MapEntry).Perm (l.toList.filter λe=> !seen.contains e.born)/\ER ro [] w es left/\
  (∀x,cur=some x->∃e∈l.toList,seen.back? =some e.born/\VR ro [] w x.1 e.key/\VR ro [] w x.2 e.val)
def RL(ro:Nat->Prop)(σ:Sig)(w:World)(k:Nat):List (List A)->List Value->Prop
 |[],_=>True
 |c::es,l=>∃l1 l2,l=l1++l2/\c.length=k/\(LR ro σ w c l1/\ ∀v∈l1,QA v)/\RL ro σ w k es l2
theorem RL.mono{ro ro':Nat->Prop}{σ σ':Sig}{w w':World}(h:Ext ro σ w ro' σ' w'){k:Nat}:∀{es:List (List A)} {l:List Value},RL ro σ w k es l->RL ro' σ' w' k es l
 |[],_,_=>trivial
 |c::es,l,⟨l1,l2,h1,h2,h3,h4⟩=>⟨l1,l2,h1,h2,⟨h3.1.mono h,h3.2⟩,RL.mono h h4⟩
def SO(ro:Nat->Prop)(w:World)(t k:Nat)(rows:List (List A))(v:Value):Prop:=
 (rows=[]/\v=.slice none 0 0)\/ ∃(c p cap:Nat) (vs:List Value),v=.slice (some ⟨c,p,none⟩) rows.length cap/\(rows.length<=cap/\cap<=9223372036854775807)/\w.heap[c]?=some (.cells vs.toArray t (0,0))/\cap*k<=vs.length/\RL ro [] w k rows vs/\(0<cap->p=0)
def MO(ro:Nat->Prop)(w:World)(t k:Nat):List (A×Option (List (List A)))->List MapEntry->Prop
 |[],l=>l=[]
 |x::r,l=>∃e l',l=e::l'/\VR ro [] w x.1 e.key/\(∀rows,x.2=some rows->SO ro w t k rows e.val)/\MO ro w t k r l'
def QdQ:List (A×Option (List (List A)))->List MapEntry->Nat->Prop
 |x::r,e::l,c=>(x.2.isSome=true/\ ∃p n cap,e.val=.slice (some ⟨c,p,none⟩) n cap)\/QdQ r l c
 |_,_,_=>False
def Qik:List (A×Option (List (List A)))->List MapEntry->Prop
 |x::r,e::l=>(∀c,x.2.isSome=true->(∃p n cap,e.val=.slice (some ⟨c,p,none⟩) n cap)->¬QdQ r l c)/\Qik r l
 |_,_=>True
def Hid(w:World):Blk->Nat->Nat->Prop
 |.mapO _ _ _ es,b,c=>∃l clock,w.heap[b]?=some (.map l clock)/\QdQ es l.toList c
 |_,_,_=>False
theorem Hid.keep{w w':World}{x:Blk}{b c:Nat}(h:w'.heap[b]?=w.heap[b]?)(q:Hid w' x b c):Hid w x b c:=by
 cases x with
 |mapO fz t k e=>obtain⟨l,a,f,d⟩:=q;exact⟨l,a,by grind,d⟩
 |_=>exact q.elim
theorem Hid.holds{w:World}{x:Blk}{b c:Nat}(q:Hid w x b c):x.holds=true:=by
 cases x with
 |mapO fz t k a=>cases fz<;>rfl
 |_=>exact q.elim
theorem MO.mono{ro ro':Nat->Prop}{σ σ':Sig}{w w':World}(h:Ext ro σ w ro' σ' w'){t k:Nat}:∀{es:List (A×Option (List (List A)))} {l:List MapEntry},(∀c,QdQ es l c->w'.heap[c]?=w.heap[c]?)->MO ro w t k es l->MO ro' w' t k es l
 |[],_,_,q=>q
 |x::r,_,hh,⟨e,l',h1,h2,h3,h4⟩=>by
  subst h1;refine⟨e,l',rfl,h2.mono h.nil,λrows hr=>?_,MO.mono h (λc hc=>hh c (.inr hc)) h4⟩;rcases h3 rows hr with q|⟨c,p,cap,vs,q1,q2,q3,q4,q5,q6⟩
  .exact .inl q
  .exact .inr ⟨c,p,cap,vs,q1,q2,by rw[hh c (.inl (by grind))];exact q3,q4,q5.mono h.nil,q6⟩
theorem MO.cells{ro:Nat->Prop}{w:World}{t k:Nat}:∀{es:List (A×Option (List (List A)))} {l:List MapEntry} {c:Nat},MO ro w t k es l->QdQ es l c->∃vs:Array Value,w.heap[c]?=some (.cells vs t (0,0))
 |[],l,c,h,q=>by cases l<;>exact q.elim
 |x::r,_,c,⟨e,l',h1,h2,h3,h4⟩,q=>by
  subst h1;rcases q with⟨q1,p,n,cap,q2⟩|q
  .obtain⟨rows,hr⟩:=Option.isSome_iff_exists.1 q1;rcases h3 rows hr with⟨_,z⟩|⟨c',p',cap',vs,z1,z2,z3,z4,z5,z6⟩
   .grind
   grind
  .exact MO.cells h4 q
def Born(l:Array MapEntry)(clock:Nat):Prop:=clock=l.size/\ ∀(i:Nat) (e:MapEntry),l.toList[i]?=some e->e.born=i
theorem Born.modify{l:Array MapEntry}{a j:Nat}{f:MapEntry->MapEntry}(h:Born l a)(k:∀e,(f e).born=e.born):Born (l.modify j f) a:=by
 obtain⟨d,m⟩:=h;refine⟨by simp[d],λi g q=>?_⟩
 grind
def BR(ro:Nat->Prop)(σ:Sig)(w:World):Blk->Option Nat->Prop
 |.dead,_=>True
 |.cells t cs,some b=>∃l:List Value,w.heap[b]?=some (.cells l.toArray t (0,0))/\LR ro σ w cs l/\ ∀v∈l,QA v
 |.row t k es,some b=>∃l:List Value,w.heap[b]?=some (.cells l.toArray t (0,0))/\RL ro [] w k es l
 |.rowr t k es,some b=>∃l:List Value,w.heap[b]?=some (.cells l.toArray t (0,0))/\RL ro σ w k es l
 |.row _ _ es,none=>es=[]
 |.ents t b1 b2 es,some b=>∃l:List Value,w.heap[b]?=some (.cells l.toArray t (0,0))/\RL ro σ w 3 (es.map (eC b1 b2)) l
 |.ents _ _ _ es,none=>es=[]
 |.wins t b n c,some d=>∃l:List Value,w.heap[d]?=some (.cells l.toArray t (0,0))/\RL ro σ w 1 (winL b n c) l
 |.wins _ _ _ c,none=>c=0
 |.map es,some b=>∃l clock,w.heap[b]?=some (.map l clock)/\ER ro [] w es l.toList/\
   (∀e∈l.toList,e.born<clock)/\(l.toList.map (·.born)).Nodup/\(l.toList.map (·.key)).Nodup
 |.mapP es,some b=>∃l clock,w.heap[b]?=some (.map l clock)/\ER ro σ w es l.toList/\
   (∀e∈l.toList,e.born<clock)/\(l.toList.map (·.born)).Nodup/\(l.toList.map (·.key)).Nodup
 |.frow t k es,some b=>ro b/\ ∃l:List Value,w.heap[b]?=some (.cells l.toArray t (0,0))/\RL ro [] w k es l/\l.length=es.length*k
 |.iter cur es,some b=>ItR ro w b cur es
 |.mapO fz t k es,some b=>(fz=true->ro b)/\ ∃l clock,w.heap[b]?=some (.map l clock)/\MO ro w t k es l.toList/\Qik es l.toList/\
   (∀e∈l.toList,e.born<clock)/\(l.toList.map (·.born)).Nodup/\(l.toList.map (·.key)).Nodup/\Born l clock
 |.fmap es,some b=>ro b/\ ∃l clock,w.heap[b]?=some (.map l clock)/\ER ro [] w es l.toList/\
   (∀e∈l.toList,e.born<clock)/\(l.toList.map (·.born)).Nodup/\(l.toList.map (·.key)).Nodup
 |_,none=>False
structure RoOk (ro:Nat->Prop) (w:World):Prop where
 lt:∀b,ro b->b<w.heap.size
 g:∀b,b<nG->ro b
 gp:GP w
theorem RoOk.to{ro ro':Nat->Prop}{w w':World}(h:RoOk ro w)(sub:∀b,ro b->ro' b)(keep:∀b,ro b->w'.heap[b]?=w.heap[b]?)(lt:∀b,ro' b->b<w'.heap.size):RoOk ro' w':=
 ⟨lt,λb hb=>sub b (h.g b hb),h.gp.keep λb hb=>keep b (h.g b hb)⟩
structure Qm2 (fr ro:Nat->Prop) (σ:Sig) (H:Qd) (w:World) (i0 b0 c:Nat):Prop where
 lt:c<w.heap.size
 ro:¬ro c
 fr:¬fr c
 ne:∀(j b:Nat) (y:Blk),σ[j]?=some (some b)->H[j]?=some y->y.live=true->c≠b
 one:∀(j b:Nat) (y:Blk),σ[j]?=some (some b)->H[j]?=some y->Hid w y b c->b=b0/\j=i0
structure Sim (fr ro:Nat->Prop) (σ:Sig) (H:Qd) (w:World):Prop where
 len:σ.length=H.length
 roOk:RoOk ro w
 frLt:∀b,fr b->b<w.heap.size
 roFr:∀b,ro b->¬fr b
 own:∀(i b:Nat) (blk:Blk),σ[i]?=some (some b)->H[i]?=some blk->blk.live=true->b<w.heap.size/\ ¬ro b/\ ¬fr b
 inj:∀(i j b:Nat) (x y:Blk),σ[i]?=some (some b)->σ[j]?=some (some b)->H[i]?=some x->H[j]?=some y->x.live=true->y.live=true->i=j
 blk:∀(i:Nat) (s:Option Nat) (x:Blk),σ[i]?=some s->H[i]?=some x->BR ro σ w x s
 hid:∀(i b:Nat) (x:Blk) (c:Nat),σ[i]?=some (some b)->H[i]?=some x->Hid w x b c->Qm2 fr ro σ H w i b c
theorem Sim.roHeld{fr ro:Nat->Prop}{σ:Sig}{H:Qd}{w:World}(s:Sim fr ro σ H w){i b:Nat}{x:Blk}(e:σ[i]?=some (some b))(d:H[i]?=some x)(a:x.held=true):ro b:=by
 have h:=s.blk i _ x e d;cases x with
 |mapO fz t k f=>exact h.1 a
 |_=>cases a
theorem Sim.hidKeep{fr ro:Nat->Prop}{σ:Sig}{H:Qd}{w w':World}(s:Sim fr ro σ H w){i b c:Nat}{x:Blk}(g:σ[i]?=some (some b))(f:H[i]?=some x)
  (d:x.live=true->w'.heap[b]?=w.heap[b]?)(e:∀b,ro b->w'.heap[b]?=w.heap[b]?)(q:Hid w' x b c):Hid w x b c:=by
 refine q.keep ?_;have h:=q.holds;cases a:x.live with
 |true=>exact d a
 |false=>unfold Blk.holds at h;rw[a]at h;exact e b (s.roHeld g f h)
theorem Sim.hidTo{fr p ro n:Nat->Prop}{σ σ':Sig}{H H':Qd}{w w':World}(s:Sim fr ro σ H w)(R:Nat->Nat->Prop)(W:∀j j' a,R j a->R j' a->j=j')(r:w.heap.size<=w'.heap.size)
  (M:∀(i b:Nat) (x:Blk) (c:Nat),σ[i]?=some (some b)->H[i]?=some x->Hid w x b c->n c->ro c)
  (Q:∀(i b:Nat) (x:Blk) (c:Nat),σ[i]?=some (some b)->H[i]?=some x->Hid w x b c->p c->fr c)
  (h:∀(j d:Nat) (y:Blk),σ'[j]?=some (some d)->H'[j]?=some y->y.holds=true->
   (∃(a:Nat) (m:Blk),R j a/\σ[a]?=some (some d)/\H[a]?=some m/\(y.live=true->m.live=true)/\ ∀c,Hid w' y d c->Hid w m d c)\/(w.heap.size<=d/\ ∀c,Hid w' y d c->False)):
  ∀(i b:Nat) (x:Blk) (c:Nat),σ'[i]?=some (some b)->H'[i]?=some x->Hid w' x b c->Qm2 p n σ' H' w' i b c:=by
 intro i b x c O L G;rcases h i b x O L G.holds with⟨a,m,r0,P,N,X,J⟩|⟨_,g⟩
 .have k:=s.hid a b m c P N (J c G);refine⟨Vf k.lt r,λq=>k.ro (by grind),λq=>k.fr (by grind),λj d y z E l=>?_,λj d y z E l=>?_⟩
  .rcases h j d y z E (Qgv l)with⟨t,y1,_,B,u,F,_⟩|⟨f,_⟩
   .exact k.ne t d y1 B u (F l)
   .exact λe=>by have:=k.lt;omega
  .rcases h j d y z E l.holds with⟨t,y1,r1,B,u,F,T⟩|⟨_,f⟩
   .obtain⟨Y,V⟩:=k.one t d y1 B u (T c l)
    grind
   grind
 grind
theorem Yb(j j' j0:Nat)(h:j=j0)(h':j'=j0):j=j':=h.trans h'.symm
theorem Sim.roLt{fr ro:Nat->Prop}{σ:Sig}{H:Qd}{w:World}(s:Sim fr ro σ H w):∀b,ro b->b<w.heap.size:=s.roOk.lt
structure Qm (fr ro:Nat->Prop) (w:World) (ro':Nat->Prop) (w':World):Prop where
 sub:∀b,ro b->ro' b
 keepRo:∀b,ro b->w'.heap[b]?=w.heap[b]?
 keepFr:∀b,fr b->w'.heap[b]?=w.heap[b]?
 size:w.heap.size<=w'.heap.size
 shape:∀b x,w.shape? b=some x->w'.shape? b=some x
 os:w'.os=w.os
 tape:w'.tape=w.tape
 output:w'.output=w.output
 drawn:w.drawn<=w'.drawn
theorem Qm.refl(fr ro:Nat->Prop)(w:World):Qm fr ro w ro w:=
 ⟨λ_ h=>h,λ_ _=>rfl,λ_ _=>rfl,XT _,λ_ _ h=>h,rfl,rfl,rfl,XT _⟩
theorem Qm.trans{fr ro ro1 ro2:Nat->Prop}{w w1 w2:World}(h:Qm fr ro w ro1 w1)(k:Qm fr ro1 w1 ro2 w2):Qm fr ro w ro2 w2:=
 ⟨λb q=>k.sub _ (h.sub _ q),λb q=>(k.keepRo _ (h.sub _ q)).trans (h.keepRo _ q),λb q=>(k.keepFr _ q).trans (h.keepFr _ q),
  XV h.size k.size,λb x q=>k.shape _ _ (h.shape _ _ q),k.os.trans h.os,k.tape.trans h.tape,k.output.trans h.output,XV h.drawn k.drawn⟩
theorem Qck{σ τ:Sig}{i b:Nat}(h:σ[i]?=some (some b)):(σ++τ)[i]?=some (some b):=by
 grind
theorem Qm.ext{fr ro ro':Nat->Prop}{w w':World}(h:Qm fr ro w ro' w')(σ τ:Sig):Ext ro σ w ro' (σ++τ) w':=
 ⟨h.sub,h.keepRo,h.shape,λ_ _=>Qck⟩
theorem Qm.ext0{fr ro ro':Nat->Prop}{w w':World}(h:Qm fr ro w ro' w')(σ:Sig):Ext ro σ w ro' σ w':=
 ⟨h.sub,h.keepRo,h.shape,λ_ _ q=>q⟩
theorem ER.mono{ro ro':Nat->Prop}{σ σ':Sig}{w w':World}(h:Ext ro σ w ro' σ' w'):∀{es:List (A×A)} {l:List MapEntry},ER ro σ w es l->ER ro' σ' w' es l
 |[],_,q=>q
 |x::r,l,q=>by
  simp only[ER]at q⊢;obtain⟨e,l',h1,h2,h3,h4⟩:=q;exact⟨e,l',h1,h2.mono h,h3.mono h,ER.mono h h4⟩
theorem ItR.keep{ro f:Nat->Prop}{σ σ':Sig}{w w':World}(h:Ext ro σ w f σ' w'){b:Nat}(F:w'.heap[b]?=w.heap[b]?){g:Option (A×A)}{es:List (A×A)}
  (q:ItR ro w b g es):ItR f w' b g es:=by
 rcases q with⟨j,i,k⟩|⟨m,l,a,d,left,j,i,k,s,E,z,y,B⟩
 .exact .inl ⟨j,i,by grind⟩
 .refine .inr ⟨m,l,a,d,left,by grind,h.sub _ i,by rw[h.keep _ i];exact k,s,E,z,y.mono h.nil,λx u=>?_⟩;obtain⟨e,p,t,n,r⟩:=B x u;exact⟨e,p,t,n.mono h.nil,r.mono h.nil⟩
theorem CR.keep{ro ro':Nat->Prop}{σ σ':Sig}{w w':World}(h:Ext ro σ w ro' σ' w'){b:Nat}(hb:w'.heap[b]?=w.heap[b]?):
  ∀{cs:List A} {off:Nat},CR ro σ w b cs off->CR ro' σ' w' b cs off
 |[],_,_=>trivial
 |a::r,off,q=>by
  simp only[CR]at q⊢;obtain⟨⟨v,h1,hp,h2⟩,h3⟩:=q;exact⟨⟨v,by rw[QfI hb];exact h1,hp,h2.mono h⟩,CR.keep h hb h3⟩
theorem RR.keep{ro ro':Nat->Prop}{σ σ':Sig}{w w':World}(h:Ext ro σ w ro' σ' w'){b:Nat}(hb:w'.heap[b]?=w.heap[b]?){k:Nat}:
  ∀{es:List (List A)} {off:Nat},RR ro σ w b k es off->RR ro' σ' w' b k es off
 |[],_,_=>trivial
 |cs::r,off,q=>by
  simp only[RR]at q⊢;obtain⟨h1,h2,h3⟩:=q;exact⟨h1,CR.keep h hb h2,RR.keep h hb h3⟩
theorem BR.keep{ro m:Nat->Prop}{σ σ':Sig}{w w':World}(h:Ext ro σ w m σ' w'){x:Blk}{s:Option Nat}
  (g:∀b,s=some b->x.live=true->w'.heap[b]?=w.heap[b]?)(q:BR ro σ w x s)(r:∀b c,s=some b->Hid w x b c->w'.heap[c]?=w.heap[c]?):BR m σ' w' x s:=by
 cases x with
 |mapO fz t k i=>
  cases s with
  |none=>exact q
  |some b=>
   obtain⟨j,l,c,a,e,f⟩:=q;refine⟨λz=>h.sub b (j z),l,c,?_,e.mono h (λd p=>r b d rfl ⟨l,c,a,p⟩),f⟩;cases fz with
   |false=>rw[g b rfl rfl];exact a
   |true=>rw[h.keep b (j rfl)];exact a
 |dead=>trivial
 |cells t B=>
  cases s with
  |none=>exact q
  |some b=>
   obtain⟨l,a,e,f⟩:=q;exact⟨l,by rw[g b rfl rfl];exact a,e.mono h,f⟩
 |row t k i=>
  cases s with
  |none=>exact q
  |some b=>
   obtain⟨l,a,e⟩:=q;exact⟨l,by rw[g b rfl rfl];exact a,e.mono h.nil⟩
 |rowr t k i=>
  cases s with
  |none=>exact q.elim
  |some b=>
   obtain⟨l,a,e⟩:=q;exact⟨l,by rw[g b rfl rfl];exact a,e.mono h⟩
 |wins t b n c=>
  cases s with
  |none=>exact q
  |some d=>
   obtain⟨l,a,e⟩:=q;exact⟨l,by rw[g d rfl rfl];exact a,e.mono h⟩
 |ents t y E i=>
  cases s with
  |none=>exact q
  |some b=>
   obtain⟨l,a,e⟩:=q;exact⟨l,by rw[g b rfl rfl];exact a,e.mono h⟩
 |map i=>
  cases s with
  |none=>exact q
  |some b=>
   obtain⟨l,c,a,e,f⟩:=q;exact⟨l,c,by rw[g b rfl rfl];exact a,e.mono h.nil,f⟩
 |mapP i=>
  cases s with
  |none=>exact q
  |some b=>
   obtain⟨l,c,a,e,f⟩:=q;exact⟨l,c,by rw[g b rfl rfl];exact a,e.mono h,f⟩
 |frow t k i=>
  cases s with
  |none=>exact q
  |some b=>
   obtain⟨j,l,a,e,f⟩:=q;exact⟨h.sub b j,l,by rw[h.keep b j];exact a,e.mono h.nil,f⟩
 |iter u i=>
  cases s with
  |none=>exact q
  |some b=>exact ItR.keep h (g b rfl rfl) q
 |fmap i=>
  cases s with
  |none=>exact q
  |some b=>
   obtain⟨j,l,c,a,e,f⟩:=q;exact⟨h.sub b j,l,c,by rw[h.keep b j];exact a,e.mono h.nil,f⟩
abbrev Env:=List (Nat×A)
def lk:Env->Nat->A
 |[],_=>.any
 |(d,a)::r,s=>bif Nat.beq s d then a else lk r s
abbrev up(env:Env)(d:Nat)(a:A):Env:=(d,a)::env
inductive AEx where
 |normal|exit (id:Nat)|ret
abbrev QG:=AEx->Env->Qd->Prop
def QnP(fr:Nat->Prop)(w:World)(d:Deferred):Prop:=∃D,d={target:=.collected D,args:= #[]}/\fr D/\w.heap[D]?=some (.deferred (some []))
def QiY(d:Deferred):Prop:=∃fv cap,d={target:=.fn fv cap,args:= #[]}
def Qbz(fr:Nat->Prop)(ds:List Deferred)(w:World):Prop:=ds.Nodup/\ ∀d∈ds,QnP fr w d\/QiY d
theorem Qbz.mark{fr:Nat->Prop}{a:List Deferred}{w:World}(h:Qbz fr a w){D:Nat}(d:({target:=.collected D,args:= #[]}:Deferred)∈a):fr D/\w.heap[D]?=some (.deferred (some [])):=by
 rcases h.2 _ d with⟨D',e,i,g⟩|⟨f,c,e⟩
 .have:D=D':=by simpa using e
  subst this;exact⟨i,g⟩
 .simp at e
theorem Qbz.to{fr a:Nat->Prop}{e:List Deferred}{w w':World}(h:Qbz fr e w)(k:∀D,({target:=.collected D,args:= #[]}:Deferred)∈e->fr D->w.heap[D]?=some (.deferred (some []))->a D/\w'.heap[D]?=some (.deferred (some []))):Qbz a e w':=by
 refine⟨h.1,λd f=>?_⟩;rcases h.2 d f with⟨D,g,j,m⟩|q
 .obtain⟨i,l⟩:=k D (g▸f) j m;exact .inl ⟨D,g,i,l⟩
 .exact .inr q
theorem Qbz.keep{fr ro ro':Nat->Prop}{ds:List Deferred}{w w':World}(h:Qbz fr ds w)(k:Qm fr ro w ro' w'):Qbz fr ds w':=
 h.to λD _ h2 h3=>⟨h2,(k.keepFr D h2).trans h3⟩
structure Grow (fr:Nat->Prop) (w:World) (ds:List Deferred) (fr':Nat->Prop) (ds':List Deferred):Prop where
 sub:∀b,fr b->fr' b
 new:∀b,fr' b->fr b\/w.heap.size<=b
 kd:∀d∈ds,d∈ds'
 ds:∀d∈ds',d∈ds\/ ∃D,d={target:=.collected D,args:= #[]}/\w.heap.size<=D
theorem Grow.refl(fr:Nat->Prop)(w:World)(ds:List Deferred):Grow fr w ds fr ds:=⟨λ_ h=>h,λ_ h=>.inl h,λ_ h=>h,λ_ h=>.inl h⟩
theorem Grow.trans{fr e f:Nat->Prop}{w i:World}{ds g a:List Deferred}(h:Grow fr w ds e g)(m:w.heap.size<=i.heap.size)(k:Grow e i g f a):Grow fr w ds f a:=by
 refine⟨λb q=>k.sub b (h.sub b q),λb q=>?_,λd q=>k.kd d (h.kd d q),λd q=>?_⟩
 .rcases k.new b q with q|q
  .exact h.new b q
  omega
 .rcases k.ds d q with q|⟨D,l,j⟩
  .exact h.ds d q
  grind
theorem Qm.frMono{fr fr' ro ro':Nat->Prop}{w w':World}(h:Qm fr' ro w ro' w')(s:∀b,fr b->fr' b):Qm fr ro w ro' w':=
 ⟨h.sub,h.keepRo,λb q=>h.keepFr b (s b q),h.size,h.shape,h.os,h.tape,h.output,h.drawn⟩
theorem Sim.frMono{fr fr' ro:Nat->Prop}{σ:Sig}{H:Qd}{w:World}(h:Sim fr' ro σ H w)(s:∀b,fr b->fr' b):Sim fr ro σ H w:=
 ⟨h.len,h.roOk,λb q=>h.frLt b (s b q),λb q r=>h.roFr b q (s b r),λi b x q1 q2 q3=>let⟨a,b',c⟩:=h.own i b x q1 q2 q3;(by grind),h.inj,h.blk,λi b x c q1 q2 q3=>let k:=h.hid i b x c q1 q2 q3;⟨k.lt,k.ro,λq=>k.fr (s c q),k.ne,k.one⟩⟩
structure Rel (fr ro:Nat->Prop) (σ:Sig) (H:Qd) (env:Env) (N:Nat) (a:Act) (w:World):Prop where
 sim:Sim fr ro σ H w
 env:∀s,VR ro σ w (lk env s) (a.tmps.getD s undef)
 size:a.tmps.size=N
 defers:Qbz fr a.defers w
def QdP(rd:Option Nat)(fr:Nat->Prop)(w:World):Prop:=∀l,rd=some l->fr l/\ ∃r,w.heap[l]?=some (.loop r)
theorem QdP.none{fr:Nat->Prop}{w:World}:QdP none fr w:=λl e=>by cases e
theorem QdP.to{rd:Option Nat}{fr fr' ro ro':Nat->Prop}{w w':World}(h:QdP rd fr w)(k:Qm fr ro w ro' w')(s:∀b,fr b->fr' b):QdP rd fr' w':=λl e=>by
 obtain⟨h1,r,h2⟩:=h l e;exact⟨s l h1,r,(k.keepFr l h1).trans h2⟩
def ExR:Exit->AEx->Prop
 |.normal,x=>x=.normal
 |.exit id,x=>x=.exit id
 |.ret,x=>x=.ret
 |_,_=>False
def Qau(h0:Nat)(fr ro:Nat->Prop)(σ:Sig)(w:World)(N:Nat)(ds:List Deferred)(Q:QG):Exit->Act->World->Prop:=
 λe a' w'=>∃x env' H' ro' σ' fr',ExR e x/\Q x env' H'/\Rel fr' ro' σ' H' env' N a' w'/\Qm fr ro w ro' w'/\σ'.take h0=σ.take h0/\Grow fr w ds fr' a'.defers
theorem Qau.grow{i:Nat}{fr a ro f:Nat->Prop}{σ σ1:Sig}{w m:World}{N:Nat}{l g:List Deferred}{Q:QG}{e:Exit}{a':Act}{w':World}
  (h:Qau i a f σ1 m N g Q e a' w')(he:Qm fr ro w f m)(q:σ1.take i=σ.take i)(hg:Grow fr w l a g):Qau i fr ro σ w N l Q e a' w':=by
 obtain⟨x,d,H',j,σ',k,n,r,s,p,u,t⟩:=h;exact⟨x,d,H',j,σ',k,n,r,s,he.trans (p.frMono hg.sub),u.trans q,hg.trans he.size t⟩
theorem Qau.step{h0:Nat}{fr ro ro1:Nat->Prop}{σ σ1:Sig}{w w1:World}{N:Nat}{ds:List Deferred}{Q:QG}{e:Exit}{a':Act}{w':World}
  (h:Qau h0 fr ro1 σ1 w1 N ds Q e a' w')(he:Qm fr ro w ro1 w1)(hs:σ1.take h0=σ.take h0):Qau h0 fr ro σ w N ds Q e a' w':=h.grow he hs (Grow.refl _ _ _)
theorem Qau.mono{g:Nat}{fr ro:Nat->Prop}{σ:Sig}{w:World}{N:Nat}{i:List Deferred}{Q Q':QG}{e:Exit}{a':Act}{w':World}
  (h:Qau g fr ro σ w N i Q e a' w')(k:∀x env H,Q x env H->Q' x env H):Qau g fr ro σ w N i Q' e a' w':=by
 obtain⟨x,a,H',d,σ',f,j,l,m⟩:=h;exact⟨x,a,H',d,σ',f,j,k _ _ _ l,m⟩
def Qby(h0:Nat)(fr ro:Nat->Prop)(σ:Sig)(w:World)(N:Nat)(ds:List Deferred)(Q:QG):Exit->Act->World->Prop:=
 λe a' w'=>∃x env' H' ro' σ' fr',ExR e x/\Q x env' H'/\Rel fr' ro' σ' H' env' N a' w'/\Qm fr ro w ro' w'/\σ'.take h0=σ.take h0/\a'.defers=ds/\Grow fr w ds fr' ds
theorem Qby.grow{g:Nat}{fr a ro f:Nat->Prop}{σ σ1:Sig}{w l:World}{N:Nat}{i:List Deferred}{Q:QG}{e:Exit}{a':Act}{w':World}
  (h:Qby g a f σ1 l N i Q e a' w')(he:Qm fr ro w f l)(q:σ1.take g=σ.take g)(hg:Grow fr w i a i):Qby g fr ro σ w N i Q e a' w':=by
 obtain⟨x,d,H',j,σ',k,m,r,s,n,u,t,p⟩:=h;exact⟨x,d,H',j,σ',k,m,r,s,he.trans (n.frMono hg.sub),u.trans q,t,hg.trans he.size p⟩
theorem Qby.step{h0:Nat}{fr ro ro1:Nat->Prop}{σ σ1:Sig}{w w1:World}{N:Nat}{ds:List Deferred}{Q:QG}{e:Exit}{a':Act}{w':World}
  (h:Qby h0 fr ro1 σ1 w1 N ds Q e a' w')(he:Qm fr ro w ro1 w1)(hs:σ1.take h0=σ.take h0):Qby h0 fr ro σ w N ds Q e a' w':=h.grow he hs (Grow.refl _ _ _)
theorem Qby.mono{g:Nat}{fr ro:Nat->Prop}{σ:Sig}{w:World}{N:Nat}{i:List Deferred}{Q Q':QG}{e:Exit}{a':Act}{w':World}
  (h:Qby g fr ro σ w N i Q e a' w')(k:∀x env H,Q x env H->Q' x env H):Qby g fr ro σ w N i Q' e a' w':=by
 obtain⟨x,a,H',d,σ',f,j,l,m⟩:=h;exact⟨x,a,H',d,σ',f,j,k _ _ _ l,m⟩
theorem Qby.postW{i:Nat}{fr ro:Nat->Prop}{σ:Sig}{w:World}{N:Nat}{g:List Deferred}{Q:QG}{e:Exit}{a':Act}{w':World}
  (h:Qby i fr ro σ w N g Q e a' w'):Qau i fr ro σ w N g Q e a' w':=by
 obtain⟨x,a,H',d,σ',f,j,l,m,k,n,q,p⟩:=h;exact⟨x,a,H',d,σ',f,j,l,m,k,n,by grind⟩
def WF(rd:Option Nat):Fence:={Fence.wide with round:=rd}
theorem WF.calls{rd:Option Nat}{P:Program}{f:FuncId}{args:Array Value}{w:World}{R:Ending->World->Prop}:CallsIn (WF rd) 0 P f args w R↔Calls P f args w R:=callsIn_wide
abbrev wpL(P:Program)(rd:Option Nat)(ops:Array Oper)(Q:Exit->Act->World->Prop):List Oper->Act->World->Prop:=wpListIn (WF rd) 0 P ops Q
def TC(P:Program)(h0 N:Nat)(c:Code)(env:Env)(H:Qd)(Q:QG):Prop:=
 ∀rd fr ro σ a w,Rel fr ro σ H env N a w->QdP rd fr w->c.wpIn (WF rd) 0 P (Qau h0 fr ro σ w N a.defers Q) a w
def WO(P:Program)(h0 N:Nat)(all:Array Oper)(l:List Oper)(env:Env)(H:Qd)(Q:QG):Prop:=
 ∀rd fr ro σ a w,Rel fr ro σ H env N a w->QdP rd fr w->wpL P rd all (Qby h0 fr ro σ w N a.defers Q) l a w
def Le(h0:Nat)(env:Env)(H:Qd)(env':Env)(H':Qd):Prop:=
 ∀fr ro σ N a w,Rel fr ro σ H env N a w->∃ro' σ',Rel fr ro' σ' H' env' N a w/\(∀b,ro b->ro' b)/\σ'.take h0=σ.take h0
theorem Le.refl(h0:Nat)(env:Env)(H:Qd):Le h0 env H env H:=λfr ro σ N a w h=>(by grind)
theorem Le.trans{e:Nat}{f j g:Env}{H1 H2 H3:Qd}(h:Le e f H1 j H2)(k:Le e j H2 g H3):Le e f H1 g H3:=by
 intro i n σ N a w r;obtain⟨d,σ1,m,q,u⟩:=h i n σ N a w r;obtain⟨l,σ2,t,s,p⟩:=k i d σ1 N a w m
 grind
theorem Q5{fr ro ro':Nat->Prop}{w:World}(h:∀b,ro b->ro' b):Qm fr ro w ro' w:=
 ⟨h,λ_ _=>rfl,λ_ _=>rfl,XT _,λ_ _ h=>h,rfl,rfl,rfl,XT _⟩
theorem Yo{P:Program}{rd:Option Nat}{ops:Array Oper}{Q Q':Exit->Act->World->Prop}(hq:∀e a w,Q e a w->Q' e a w):
  ∀(l:List Oper) (a:Act) (w:World),wpL P rd ops Q l a w->wpL P rd ops Q' l a w
 |[],a,w,h=>hq _ _ _ h
 |o::l,a,w,h=>by
  unfold wpL wpListIn at h⊢;split
  .rename_i hw;rw[Vs hw]at h;obtain⟨h1,h2⟩:=h;refine⟨h1,?_⟩
   revert h2
   generalize(o.semAt (WF rd).round a.eval).run P w=r;intro h2;have hk:=λa w=>Yo (P:=P) (rd:=rd) (ops:=ops) hq l a w;cases r with
   |ok x w=>
    cases x with
    |value v=>exact hk _ _ h2
    |skip=>exact hk _ _ h2
    |defer d=>exact hk _ _ h2
    |enter f args=>
     refine⟨h2.1,CallsIn.mono h2.2 ?_⟩;intro e w' q;cases e with
     |returned v=>grind
     |panicked c=>grind
     |outgrown=>obtain⟨a,w,q⟩:=q;exact⟨a,w,hq _ _ _ q⟩
    |row r args=>exact⟨h2.1,RowsIn.mono h2.2 λv w' q=>hk _ _ q⟩
    |round l f tmps assign body=>
     refine⟨h2.1,RoundIn.mono h2.2 ?_⟩;intro e w' q;cases e with
     |returned v=>grind
     |panicked c=>grind
     |outgrown=>obtain⟨a,w,q⟩:=q;exact⟨a,w,hq _ _ _ q⟩
    |_=>exact h2
   |halt x w=>
    cases x with
    |panic v=>exact hq _ _ _ h2
    |_=>exact h2
  .rename_i hw;rw[Vr hw]at h;exact⟨h.1,Yo hq l _ _ h.2⟩
theorem QcA{P:Program}{o:Oper}{a:Act}{w w':World}{x:Next}{rd:Option Nat}(h:(execOp a.eval o).run P w=.ok x w')(g:∀d,x≠ .defer d):(o.semAt (WF rd).round a.eval).run P w=.ok x w':=by
 cases e:o.op with
 |defer c=>
  have:execOp a.eval o=(do pure (.defer (<- resolve a.eval c o.type))):=by simp[execOp,e]
  rw[this]at h;simp[Vm]at h;generalize(resolve a.eval c o.type).run P w=r at h;cases r with
  |ok d f=>simp[go_sem]at h;grind
  |halt x f=>simp_all
 |_=>grind[Oper.semAt_eq]
theorem Qaa{P:Program}{rd:Option Nat}{ops:Array Oper}{Q:Exit->Act->World->Prop}{o:Oper}{l:List Oper}{a:Act}{w w':World}{v:Value}(f:Region.wanted o (yielded ops a.tmps)=true)
  (h:(execOp a.eval o).run P w=.ok (.value v) w')(k:wpL P rd ops Q l (a.put o.dst v) w'):wpL P rd ops Q (o::l) a w:=by
 unfold wpL wpListIn;rw[Vs f];exact⟨λ_ _=>trivial,by rw[QcA h (λd e=>by cases e)];exact k⟩
theorem Qkh{P:Program}{rd:Option Nat}{ops:Array Oper}{Q:Exit->Act->World->Prop}{o:Oper}{l:List Oper}{a:Act}{w w':World}(f:Region.wanted o (yielded ops a.tmps)=true)
  (h:(execOp a.eval o).run P w=.ok .skip w')(k:wpL P rd ops Q l (a.put o.dst undef) w'):wpL P rd ops Q (o::l) a w:=by
 unfold wpL wpListIn;rw[Vs f];exact⟨λ_ _=>trivial,by rw[QcA h (λd e=>by cases e)];exact k⟩
theorem Qff{P:Program}{rd:Option Nat}{ops:Array Oper}{Q:Exit->Act->World->Prop}{o:Oper}{l:List Oper}{a:Act}{w w':World}{f:FuncId}{args:Array Value}(g:Region.wanted o (yielded ops a.tmps)=true)
  (h:(execOp a.eval o).run P w=.ok (.enter f args) w')(k:Calls P f args w' λe w''=>∃v,e=.returned v/\wpL P rd ops Q l (a.put o.dst v) w''):wpL P rd ops Q (o::l) a w:=by
 unfold wpL wpListIn;rw[Vs g];refine⟨λ_ _=>trivial,?_⟩;rw[QcA h (λd e=>by cases e)];refine⟨λh=>by simp[WF,Fence.wide]at h,WF.calls.2 (Calls.mono k ?_)⟩
 grind
section
variable {P:Program} {h0 N:Nat} {env env':Env} {H H':Qd} {Q Q':QG} {c c':Code}
theorem TC.mono(h:TC P h0 N c env H Q)(hq:∀x env H,Q x env H->Q' x env H):TC P h0 N c env H Q':=
 λrd fr ro σ a w r hrd=>Code.wpIn_mono (λe a w q=>q.mono hq) (h rd fr ro σ a w r hrd)
theorem TC.le(f:Le h0 env H env' H')(h:TC P h0 N c env' H' Q):TC P h0 N c env H Q:=by
 intro i g j σ a w r hrd;obtain⟨d,σ',k,s,t⟩:=f g j σ N a w r;exact Code.wpIn_mono (λe a w q=>q.step (Q5 s) t) (h i g d σ' a w k hrd)
theorem WO.le{all:Array Oper}{l:List Oper}(f:Le h0 env H env' H')(h:WO P h0 N all l env' H' Q):WO P h0 N all l env H Q:=by
 intro i g j σ a w r hrd;obtain⟨d,σ',k,s,t⟩:=f g j σ N a w r;exact Yo (λe a w q=>q.step (Q5 s) t) _ _ _ (h i g d σ' a w k hrd)
theorem WO.mono{all:Array Oper}{l:List Oper}(h:WO P h0 N all l env H Q)(hq:∀x env H,Q x env H->Q' x env H):WO P h0 N all l env H Q':=
 λrd fr ro σ a w r hrd=>Yo (λe a w q=>q.mono hq) _ _ _ (h rd fr ro σ a w r hrd)
def Seq(P:Program)(h0 N:Nat)(c:Code)(Q:QG):QG
 |.normal,env,H=>TC P h0 N c env H Q
 |.exit id,env,H=>Q (.exit id) env H
 |.ret,env,H=>Q .ret env H
def Blo(id:Nat)(Q:QG):QG
 |.normal,env,H=>Q .normal env H
 |.exit id',env,H=>bif Nat.beq id' id then Q .normal env H else Q (.exit id') env H
 |.ret,env,H=>Q .ret env H
theorem TC.seq(h:TC P h0 N c env H (Seq P h0 N c' Q)):TC P h0 N (.seq c c') env H Q:=by
 intro p u y σ a w r hrd;refine wpIn_seq (Code.wpIn_mono ?_ (h p u y σ a w r hrd));rintro e t s ⟨x,d,H',f,σ',g,i,l,m,j,n,k⟩;cases e with
 |normal=>
  obtain rfl:x=.normal:=i;exact Code.wpIn_mono (λe a w q=>q.grow j n k) (l p g f σ' t s m (hrd.to j k.sub))
 |exit id=>
  obtain rfl:x=.exit id:=i;exact⟨_,d,H',f,σ',g,rfl,l,m,j,n,k⟩
 |ret=>
  obtain rfl:x=.ret:=i;exact⟨_,d,H',f,σ',g,rfl,l,m,j,n,k⟩
 |_=>exact i.elim
theorem TC.skip(h:Q .normal env H):TC P h0 N .skip env H Q:=
 λrd fr ro σ a w r hrd=>wpIn_skip ⟨_,env,H,ro,σ,fr,rfl,h,r,Qm.refl _ _ _,rfl,Grow.refl _ _ _⟩
theorem TC.ret(h:Q .ret env H):TC P h0 N .ret env H Q:=
 λrd fr ro σ a w r hrd=>wpIn_ret ⟨_,env,H,ro,σ,fr,rfl,h,r,Qm.refl _ _ _,rfl,Grow.refl _ _ _⟩
theorem TC.exit{id:Nat}(h:Q (.exit id) env H):TC P h0 N (.exit id) env H Q:=
 λrd fr ro σ a w r hrd=>wpIn_exit ⟨_,env,H,ro,σ,fr,rfl,h,r,Qm.refl _ _ _,rfl,Grow.refl _ _ _⟩
theorem TC.block{id:Nat}(h:TC P h0 N c env H (Blo id Q)):TC P h0 N (.block id c) env H Q:=by
 intro s q t σ a w r hrd;refine wpIn_block (Code.wpIn_mono ?_ (h s q t σ a w r hrd));rintro e y u ⟨x,d,H',f,σ',g,l,i,k,m,p,n⟩;cases e with
 |normal=>
  obtain rfl:x=.normal:=l;exact⟨_,d,H',f,σ',g,rfl,i,k,m,p,n⟩
 |exit j=>
  obtain rfl:x=.exit j:=l;simp[Exit.inBlock];simp only[Blo]at i;by_cases e:j=id
  .subst e;rw[Vs rfl];rw[VE]at i;exact⟨_,d,H',f,σ',g,rfl,i,k,m,p,n⟩
  .rw[Vr e];have:Nat.beq j id=false:=by
    simp_all[VL]
   rw[this]at i;exact⟨_,d,H',f,σ',g,rfl,i,k,m,p,n⟩
 |ret=>
  obtain rfl:x=.ret:=l;exact⟨_,d,H',f,σ',g,rfl,i,k,m,p,n⟩
 |_=>exact l.elim
def opA(env:Env):Operand->A
 |.tmp t=>lk env t
 |.const (.bool b)=>.bool b
 |.const (.int k n)=>.int k n
 |.const (.string s)=>.str s.data.toList
 |.const (.pointer none)=>.nilp
 |.const (.slice none 0 0)=>.nils
 |.const (.map none)=>.nilm
 |.const .nilFunc=>.nilf
 |.const .nilIface=>.nilif
 |.func f=>.fn (.func f) [] []
 |_=>.any
theorem Qu{fr ro:Nat->Prop}{σ:Sig}{a:Act}{w:World}(r:Rel fr ro σ H env N a w)(x:Operand):VR ro σ w (opA env x) (a.eval x):=by
 cases x with
 |tmp t=>exact r.env t
 |const v=>
  cases v with
  |slice a n k=>
   cases a with
   |none=>
    cases n with
    |zero=>cases k with
     |zero=>rfl
     |succ k=>trivial
    |succ n=>trivial
   |some a=>trivial
  |pointer p=>cases p with
   |none=>rfl
   |some p=>trivial
  |map p=>cases p with
   |none=>rfl
   |some p=>trivial
  |string s=>rfl
  |_=>simp_all[opA,VR,Act.eval]
 |global g=>trivial
 |func f=>exact⟨[],[],rfl,rfl,rfl⟩
theorem TC.cond{x:Operand}{t:Bool}(k:opA env x=.bool t)(j:t=true->TC P h0 N c env H Q)(i:t=false->TC P h0 N c' env H Q):
  TC P h0 N (.cond x c c') env H Q:=by
 intro g f h σ a w r hrd;have d:=Qu r x;rw[k]at d;exact wpIn_cond_split d (λe=>j e g f h σ a w r hrd) (λe=>i e g f h σ a w r hrd)
theorem QkO{t:Array Value}{d s:Nat}{v:Value}(a:d<t.size):(t.setIfInBounds d v).getD s undef=if s=d then v else t.getD s undef:=by
 simp[Array.getD_eq_getD_getElem?]
 grind
theorem VR.up{fr ro:Nat->Prop}{σ:Sig}{a:Act}{w:World}(r:∀s,VR ro σ w (lk env s) (a.tmps.getD s undef)){d:Nat}(f:d<a.tmps.size){x:A}{v:Value}(g:VR ro σ w x v):
  ∀s,VR ro σ w (lk (up env d x) s) ((a.tmps.setIfInBounds d v).getD s undef):=by
 intro s;rw[QkO f];simp only[lk];by_cases e:s=d
 .simp_all
 .have:Nat.beq s d=false:=by
   simp_all[VL]
  grind
def QI(all:Array Oper)(o:Oper)(env:Env)(b:Bool):Prop:=
 match o.guard with
 |none=>b=true
 |some (j,c)=>∃d,(all[j]?).bind (·.dst)=some d/\((∃x,lk env d=.bool x/\b=(x==c))\/(lk env d=.tup []/\b=false))
theorem YO{all:Array Oper}{o:Oper}{b:Bool}(h:QI all o env b){fr ro:Nat->Prop}{σ:Sig}{a:Act}{w:World}(r:Rel fr ro σ H env N a w):
  Region.wanted o (yielded all a.tmps)=b:=by
 unfold QI at h;unfold Region.wanted;cases j:o.guard with
 |none=>grind
 |some g=>
  rw[j]at h;obtain⟨d,i,⟨x,f,k⟩|⟨f,k⟩⟩:=h
  .have e:=r.env d;rw[f]at e;simp only[VR]at e;have m:a.tmps[d]?=some (.bool x):=by
    rw[Array.getD_eq_getD_getElem?]at e
    grind[undef]
   simp_all[yielded]
  .have e:=r.env d;rw[f]at e;obtain⟨l,e,n⟩:=e;rw[Array.getD_eq_getD_getElem?]at e;simp[yielded,i]
   grind
def OpV(P:Program)(o:Oper)(env:Env)(H:Qd)(x:A):Prop:=
 ∀fr ro σ N a w,Rel fr ro σ H env N a w->∃v,(execOp a.eval o).run P w=.ok (.value v) w/\VR ro σ w x v
def OpH(P:Program)(o:Oper)(env:Env)(H:Qd)(x:A)(H':Qd):Prop:=
 ∀fr ro σ N a w,Rel fr ro σ H env N a w->∃v w' ro' τ,(execOp a.eval o).run P w=.ok (.value v) w'/\VR ro' (σ++τ) w' x v/\
  Sim fr ro' (σ++τ) H' w'/\Qm fr ro w ro' w'
def OpU(P:Program)(o:Oper)(env:Env)(H:Qd)(H':Qd):Prop:=
 ∀fr ro σ N a w,Rel fr ro σ H env N a w->∃w' ro' τ,(execOp a.eval o).run P w=.ok .skip w'/\
  Sim fr ro' (σ++τ) H' w'/\Qm fr ro w ro' w'
theorem WO.nil{all:Array Oper}(h:Q .normal env H):WO P h0 N all [] env H Q:=
 λrd fr ro σ a w r hrd=>⟨_,env,H,ro,σ,fr,rfl,h,r,Qm.refl _ _ _,rfl,rfl,Grow.refl _ _ _⟩
theorem QS{σ τ:Sig}{a:Nat}(h:a<=σ.length):(σ++τ).take a=σ.take a:=by
 grind
theorem Qic{all:Array Oper}{o:Oper}{l:List Oper}{d:Nat}{x:A}(n:h0<=H.length)(hg:QI all o env true)(m:o.dst=some d)(E:Nat.blt d N=true)
  (h:OpH P o env H x H')(k:WO P h0 N all l (up env d x) H' Q):WO P h0 N all (o::l) env H Q:=by
 intro t fr u σ a w r hrd;obtain⟨v,j,f,τ,p,y,z,g⟩:=h fr u σ N a w r;refine Qaa (YO hg r) p ?_;simp[m];have i:d<N:=by simp_all
 have B:Rel fr f (σ++τ) H' (up env d x) N {a with tmps:=a.tmps.setIfInBounds d v} j:=
  ⟨z,VR.up (fr:=fr) (λs=>(r.env s).mono (g.ext σ τ)) (by rw[r.size];exact i) y,by simpa using r.size,r.defers.keep g⟩
 refine Yo (λe a w q=>q.step g (QS ?_)) _ _ _ (k t fr f (σ++τ) _ j B (hrd.to g λ_ q=>q));rw[r.sim.len];exact n
theorem Y8{all:Array Oper}{o:Oper}{l:List Oper}{d:Nat}{x:A}(hg:QI all o env true)(h:o.dst=some d)(n:Nat.blt d N=true)
  (e:OpV P o env H x)(k:WO P h0 N all l (up env d x) H Q):WO P h0 N all (o::l) env H Q:=by
 intro j fr g σ a w r hrd;obtain⟨v,i,m⟩:=e fr g σ N a w r;refine Qaa (YO hg r) i ?_;simp[h];have f:d<N:=by simp_all
 exact k j fr g σ {a with tmps:=a.tmps.setIfInBounds d v} w ⟨r.sim,VR.up (fr:=fr) r.env (by rw[r.size];exact f) m,by simpa using r.size,r.defers⟩ hrd
theorem Qlz{all:Array Oper}{o:Oper}{l:List Oper}(m:h0<=H.length)(hg:QI all o env true)(j:o.dst=none)
  (h:OpU P o env H H')(k:WO P h0 N all l env H' Q):WO P h0 N all (o::l) env H Q:=by
 intro p g t σ a w r hrd;obtain⟨i,d,τ,n,u,f⟩:=h g t σ N a w r;refine Qkh (YO hg r) n ?_;simp[j];have x:Rel g d (σ++τ) H' env N a i:=⟨u,λs=>(r.env s).mono (f.ext σ τ),r.size,r.defers.keep f⟩;refine Yo (λe a w q=>q.step f (QS ?_)) _ _ _ (k p g d (σ++τ) _ i x (hrd.to f λ_ q=>q));rw[r.sim.len];exact m
theorem WO.skip{all:Array Oper}{o:Oper}{l:List Oper}{d:Nat}(hg:QI all o env false)(h:o.dst=some d)(i:Nat.blt d N=true)
  (k:WO P h0 N all l (up env d (.tup [])) H Q):WO P h0 N all (o::l) env H Q:=by
 intro f fr g σ a w r hrd;unfold wpL wpListIn;rw[YO hg r,Vr (by simp)];refine⟨λ_ _=>trivial,?_⟩;simp[h];have e:d<N:=by simp_all
 exact k f fr g σ {a with tmps:=a.tmps.setIfInBounds d undef} w ⟨r.sim,VR.up (fr:=fr) r.env (by rw[r.size];exact e) ⟨[],rfl,rfl⟩,by simpa using r.size,r.defers⟩ hrd
theorem TC.region{id:Nat}{l:List Oper}(h:WO P h0 N l.toArray l env H Q):TC P h0 N (.region id l.toArray false) env H Q:=
 λrd fr ro σ a w r hrd=>Code.wpIn_mono (λe a w q=>q.postW) (wpIn_region_lit (h rd fr ro σ a w r hrd))
end
mutual
def YM(ρ:Nat->Nat):A->A
 |.ptr i off=>.ptr (ρ i) off
 |.osl i o n k=>.osl (ρ i) o n k
 |.agg cs=>.agg (Qak ρ cs)
 |.fn f a c=>.fn f (Qak ρ a) (Qak ρ c)
 |.iface t v=>.iface t (YM ρ v)
 |.map i=>.map (ρ i)
 |.tup vs=>.tup (Qak ρ vs)
 |a=>a
def Qak(ρ:Nat->Nat):List A->List A
 |[]=>[]
 |a::r=>YM ρ a::Qak ρ r
end
def Qfa(ρ:Nat->Nat):List (List A)->List (List A)
 |[]=>[]
 |a::r=>Qak ρ a::Qfa ρ r
def renP(ρ:Nat->Nat):List (A×A)->List (A×A)
 |[]=>[]
 |a::r=>(YM ρ a.1,YM ρ a.2)::renP ρ r
def QZ(ρ:Nat->Nat):Blk->Blk
 |.cells t cs=>.cells t (Qak ρ cs)
 |.rowr t k es=>.rowr t k (Qfa ρ es)
 |.ents t b1 b2 es=>.ents t (ρ b1) (ρ b2) es
 |.wins t b n c=>.wins t (ρ b) n c
 |.mapP es=>.mapP (renP ρ es)
 |b=>b
theorem Qfp(ρ:Nat->Nat)(b1 b2:Nat):∀(es:List Ent),Qfa ρ (es.map (eC b1 b2))=es.map (eC (ρ b1) (ρ b2))
 |[]=>rfl
 |e::es=>by
  have:=Qfp ρ b1 b2 es;simp only[Vj,Qfa,this];congr 1;cases h:e.fl<;>simp[eC,Qak,YM,h]
theorem Qje(ρ:Nat->Nat)(b n c:Nat):Qfa ρ (winL b n c)=winL (ρ b) n c:=by
 unfold winL
 induction List.range c with
 |nil=>rfl
 |cons j l a=>simp only[Vj,Qfa,a];rfl
theorem QK(ρ:Nat->Nat)(x:Blk):(QZ ρ x).live=x.live:=by cases x<;>rfl
theorem Qal(ρ:Nat->Nat)(x:Blk)(w:World)(b c:Nat):Hid w (QZ ρ x) b c↔Hid w x b c:=by cases x<;>exact Iff.rfl
section
variable {ro:Nat->Prop} {σ σ':Sig} {w:World} {ρ:Nat->Nat} (h:∀i:Nat,σ[ρ i]?=σ'[i]?)
include h
mutual
theorem Qcv:∀{a:A} {v:Value},VR ro σ w (YM ρ a) v↔VR ro σ' w a v
 |.any,_=>by simp only[YM,VR]
 |.bool b,v=>by simp only[YM,VR]
 |.int k n,v=>by simp only[YM,VR]
 |.str s,v=>by simp only[YM,VR]
 |.nilp,v=>by simp only[YM,VR]
 |.ptr i off,v=>by simp only[YM,VR,h]
 |.rp cs,v=>by simp only[YM,VR]
 |.nils,v=>by simp only[YM,VR]
 |.rsl k es,v=>by simp only[YM,VR]
 |.osl i o n k,v=>by simp only[YM,VR,h]
 |.agg cs,v=>by simp only[YM,VR];exact exists_congr λl=>and_congr_right λ_=>QbX
 |.fn f a c,v=>by simp only[YM,VR];exact exists_congr λl=>exists_congr λl'=>and_congr_right λ_=>and_congr QbX QbX
 |.nilf,v=>by simp only[YM,VR]
 |.iface t a,v=>by simp only[YM,VR];exact exists_congr λl=>and_congr_right λ_=>Qcv
 |.nilif,v=>by simp only[YM,VR]
 |.map i,v=>by simp only[YM,VR,h]
 |.nilm,v=>by simp only[YM,VR]
 |.tup vs,v=>by simp only[YM,VR];exact exists_congr λl=>and_congr_right λ_=>QbX
theorem QbX:∀{az:List A} {l:List Value},LR ro σ w (Qak ρ az) l↔LR ro σ' w az l
 |[],l=>by simp only[Qak,LR]
 |a::r,l=>by
  simp only[Qak,LR];exact exists_congr λv=>exists_congr λl'=>and_congr_right λ_=>and_congr Qcv QbX
end
theorem Ql1{b:Nat}:∀{cs:List A} {off:Nat},CR ro σ w b (Qak ρ cs) off↔CR ro σ' w b cs off
 |[],off=>by rfl
 |a::r,off=>by
  simp only[Qak,CR];exact and_congr (exists_congr λv=>and_congr_right λ_=>and_congr_right λ_=>Qcv h) Ql1
theorem QbJ:∀(cs:List A),(Qak ρ cs).length=cs.length
 |[]=>rfl
 |a::r=>by simp[Qak,QbJ r]
theorem QnO{b k:Nat}:∀{es:List (List A)} {off:Nat},RR ro σ w b k (Qfa ρ es) off↔RR ro σ' w b k es off
 |[],off=>by rfl
 |a::r,off=>by
  simp only[Qfa,RR,QbJ h];exact and_congr_right λ_=>and_congr (Ql1 h) QnO
theorem Qgl{k:Nat}:∀{es:List (List A)} {l:List Value},RL ro σ w k (Qfa ρ es) l↔RL ro σ' w k es l
 |[],l=>by rfl
 |a::r,l=>by
  simp only[Qfa,RL,QbJ h];exact exists_congr λl1=>exists_congr λl2=>and_congr_right λ_=>and_congr_right λ_=>and_congr (and_congr_left λ_=>QbX h) Qgl
theorem QlV:∀{es:List (A×A)} {l:List MapEntry},ER ro σ w (renP ρ es) l↔ER ro σ' w es l
 |[],l=>by rfl
 |a::r,l=>by
  simp only[renP,ER];exact exists_congr λe=>exists_congr λl'=>and_congr_right λ_=>and_congr (Qcv h) (and_congr (Qcv h) QlV)
theorem Qgw{x:Blk}{s:Option Nat}:BR ro σ w (QZ ρ x) s↔BR ro σ' w x s:=by
 cases x with
 |cells t e=>
  cases s with
  |none=>exact Iff.rfl
  |some b=>simp only[QZ,BR];exact exists_congr λl=>and_congr_right λ_=>and_congr_left λ_=>QbX h
 |rowr t k a=>
  cases s with
  |none=>exact Iff.rfl
  |some b=>simp only[QZ,BR];exact exists_congr λl=>and_congr_right λ_=>Qgl h
 |mapP a=>
  cases s with
  |none=>exact Iff.rfl
  |some b=>simp only[QZ,BR];exact exists_congr λl=>exists_congr λc=>and_congr_right λ_=>and_congr_left λ_=>QlV h
 |wins t b n c=>
  cases s with
  |none=>exact Iff.rfl
  |some d=>
   simp only[QZ,BR];refine exists_congr λl=>and_congr_right λ_=>?_;rw[<- Qje];exact Qgl h
 |ents t f g a=>
  cases s with
  |none=>exact Iff.rfl
  |some b=>
   simp only[QZ,BR];refine exists_congr λl=>and_congr_right λ_=>?_;rw[<- Qfp];exact Qgl h
 |_=>cases s<;>exact Iff.rfl
end
def C(P:Program)(f:FuncId)(args:List A)(H:Qd)(Q:A->Qd->Prop):Prop:=
 ∀fr ro σ vals w,Sim fr ro σ H w->LR ro σ w args vals->Calls P f vals.toArray w λe w'=>
  ∃v r H' ro' τ,e=.returned v/\Q r H'/\Sim fr ro' (σ++τ) H' w'/\VR ro' (σ++τ) w' r v/\Qm fr ro w ro' w'
theorem C.mono{P:Program}{f:FuncId}{args:List A}{H:Qd}{Q Q':A->Qd->Prop}(h:C P f args H Q)(hq:∀r H,Q r H->Q' r H):C P f args H Q':=
 λfr ro σ vals w s l=>(h fr ro σ vals w s l).mono (by grind)
def Qcg:Nat->List A->Env
 |_,[]=>[]
 |i,a::r=>(i,a)::Qcg (i+1) r
theorem QcJ{ro:Nat->Prop}{σ:Sig}{w:World}:∀{args:List A} {vals:List Value} {i:Nat} (pre:List Value),pre.length=i->LR ro σ w args vals->∀rest:Array Value,
  ∀s,VR ro σ w (lk (Qcg i args) s) (((pre++vals).toArray++rest).getD s undef)
 |[],vals,i,pre,hp,hl,rest,s=>trivial
 |a::r,vals,i,pre,hp,hl,rest,s=>by
  simp only[LR]at hl;obtain⟨v,l',rfl,h1,h2⟩:=hl;simp only[Qcg,lk];by_cases e:s=i
  .simp_all[Array.getElem?_append]
  .have:Nat.beq s i=false:=by
    simp_all[VL]
   rw[this];have:=QcJ (i:=i+1) (pre++[v]) (by simp[hp]) h2 rest s
   grind
def QbW(P:Program)(fn:Func)(env:Env)(H:Qd)(r:A):Prop:=
 ∀fr ro σ N a w,Rel fr ro σ H env N a w->∃v,(results fn a.tmps).run P w=.ok v w/\VR ro σ w r v
def Jf(P:Program)(h0:Nat)(fn:Func)(Q:A->Qd->Prop):QG
 |.normal,env,H=>∃env' H' r,Le h0 env H env' H'/\QbW P fn env' H' r/\Q r H'
 |.ret,env,H=>∃env' H' r,Le h0 env H env' H'/\QbW P fn env' H' r/\Q r H'
 |.exit _,_,_=>False
theorem LR.length{ro:Nat->Prop}{σ:Sig}{w:World}:∀{az:List A} {l:List Value},LR ro σ w az l->l.length=az.length
 |[],l,h=>by simp only[LR]at h;simp[h]
 |a::r,l,h=>by
  simp only[LR]at h;obtain⟨v,l',rfl,_,h2⟩:=h;simp[h2.length]
theorem Sim.turn{fr ro:Nat->Prop}{σ:Sig}{H:Qd}{w:World}(s:Sim fr ro σ H w){b:Nat}{obj:Obj}(r:¬ro b)(m:¬fr b)(G:∀(i:Nat) (x:Blk),σ[i]?=some (some b)->H[i]?=some x->x.live=true->False)
  (k:∀(i d:Nat) (x:Blk),σ[i]?=some (some d)->H[i]?=some x->Hid w x d b->False)
  (t:∀y,w.shape? b=some y->(w.putObj b obj).shape? b=some y):Sim fr ro σ H (w.putObj b obj)/\Qm fr ro w ro (w.putObj b obj):=by
 have p:∀c,c≠b->(w.putObj b obj).heap[c]?=w.heap[c]? :=λc u=>World.putObj_heap_other u;have e:(w.putObj b obj).heap.size=w.heap.size:=by simp
 have ev:Qm fr ro w ro (w.putObj b obj):=by
  refine⟨λ_ q=>q,(by grind),(by grind),by omega,λc x q=>?_,rfl,rfl,rfl,XT _⟩
  grind[World.shape?]
 have a:Ext ro σ w ro σ (w.putObj b obj):=by have:=ev.ext σ [];grind
 refine⟨⟨s.len,s.roOk.to (λ_ q=>q) ev.keepRo (λc q=>by rw[e];exact s.roLt c q),λc q=>by rw[e];exact s.frLt c q,s.roFr,λi c x g f n=>?_,s.inj,λi y x g f=>?_,
  s.hidTo (· = ·) Yb (by omega) (by simp) (by simp) λj d y l h F=>.inl ⟨j,y,rfl,l,h,id,λc q=>s.hidKeep l h (by grind) ev.keepRo q⟩⟩,ev⟩
 .obtain⟨E,z,B⟩:=s.own i c x g f n
  grind
 .refine(s.blk i y x g f).keep a ?_ ?_
  .grind
  grind
theorem QaA{P:Program}{fn:Func}{tmps:Array Value}{R:Ending->World->Prop}{fr ro:Nat->Prop}{σ:Sig}{H:Qd}:
  ∀(ds:List Deferred) (w:World),ds.Nodup->(∀d∈ds,∃D,d={target:=.collected D,args:= #[]}/\ ¬ro D/\ ¬fr D/\(∀(i:Nat) (x:Blk),σ[i]?=some (some D)->H[i]?=some x->x.live=true->False)/\(∀(i d:Nat) (x:Blk),σ[i]?=some (some d)->H[i]?=some x->Hid w x d D->False)/\w.heap[D]?=some (.deferred (some [])))->
  Sim fr ro σ H w->(∀w',Sim fr ro σ H w'->Qm fr ro w ro w'->∃v,(results fn tmps).run P w'=.ok v w'/\R (.returned v) w')->LeavesInM Fence.wide 0 P fn tmps R ds .returning w
 |[],w,_,_,s,hk=>by
  obtain⟨v,h1,h2⟩:=hk w s (Qm.refl _ _ _);exact⟨v,h1,h2⟩
 |d::ds,w,hn,hd,s,hk=>by
  obtain⟨D,rfl,h1,h2,h3,h5,h4⟩:=hd d (by simp);obtain⟨n1,n2⟩:=List.nodup_cons.1 hn;obtain⟨s',ev⟩:=s.turn (obj:=.deferred none) h1 h2 h3 h5 (λy q=>by grind[World.shape?]);refine⟨(by simp),.inl ⟨D,_,rfl,run_takeDeferred h4,?_⟩⟩;refine QaA ds _ n2 (λd' q=>?_) s' (λw' q1 q2=>hk w' q1 (ev.trans q2));obtain⟨D',rfl,g1,g2,g3,g5,g4⟩:=hd d' (by simp[q]);refine⟨D',rfl,g1,g2,g3,λi d x z1 z2 z3=>g5 i d x z1 z2 (s.hidKeep z1 z2 (λz=>World.putObj_heap_other (by grind)) (λb q=>World.putObj_heap_other (λe:b=D=>h1 (e▸q))) z3),(World.putObj_heap_other (λe=>?_)).trans g4⟩
  grind
theorem QW{P:Program}{f:FuncId}{fn:Func}{c:Code}{N:Nat}{args:List A}{H:Qd}{Q:A->Qd->Prop}
  (hf:P.funcs[f]?=some fn)(hb:fn.body=some c)(hN:fn.ntmps=N)(hA:Nat.ble args.length N=true)
  (h:TC P H.length N c (Qcg 0 args) H (Jf P H.length fn Q)):C P f args H Q:=by
 intro fr ro σ vals w hs hl;have V:=hl.length;have aa:args.length<=N:=by simp_all
 refine(callsIn_wide (n:=0)).1 (callsIn_of_wp_marks hf hb trivial (Code.wpIn_mono ?_ (h none fr ro σ _ w ⟨hs,?_,?_,List.nodup_nil,λd l=>by cases l⟩ QdP.none)))
 .rintro e u k ⟨x,y,H1,J,σ1,B,z,F,h3,h4,h5,L⟩;have t:(∃j H' r,Le H.length y H1 j H'/\QbW P fn j H' r/\Q r H')->LeavesInM Fence.wide 0 P fn u.tmps (λe k=>
    ∃v' r H' a τ,e=.returned v'/\Q r H'/\Sim fr a (σ++τ) H' k/\VR a (σ++τ) k r v'/\Qm fr ro w a k) u.defers .returning k:=by
   rintro⟨j,H',r,O,hr,hq⟩;obtain⟨a,σ',g,p,ht⟩:=O B J σ1 N u k h3;have hσ:σ'=σ++σ'.drop H.length:=by
    have W:σ'.take H.length=σ:=by rw[ht,h5,VH (by rw[hs.len];omega)]
    grind[List.take_append_drop]
   have s1:Sim fr a σ' H' k:=g.sim.frMono L.sub;refine QaA (ro:=a) (fr:=fr) (σ:=σ') (H:=H') u.defers k g.defers.1 (λd l=>?_) s1 (λX Y m=>?_)
   .obtain⟨D,rfl,_⟩:=(L.ds d l).resolve_left (by simp);obtain⟨T,g2⟩:=g.defers.mark l;refine⟨D,rfl,λq=>g.sim.roFr D q T,λq=>?_,λi x E G M=>(g.sim.own i D x E G M).2.2 T,λi d x E G M=>(g.sim.hid i d x D E G M).fr T,g2⟩;rcases L.ds _ l with q'|⟨D',e,q'⟩
    .cases q'
    .have:D=D':=by simpa using e
     subst this;have:=hs.frLt D q;omega
   .have R:Rel fr a σ' H' j N {u with defers:=[]} X:=⟨Y,λs=>(g.env s).mono (by have:=m.ext σ' [];grind),g.size,List.nodup_nil,λd l=>by cases l⟩;obtain⟨v,W,e2⟩:=hr fr a σ' N _ X R;exact⟨v,W,v,r,H',a,σ'.drop H.length,rfl,hq,hσ▸Y,hσ▸e2,(h4.trans (Q5 p)).trans m⟩
  cases e with
  |normal=>
   obtain rfl:x=.normal:=z;exact t F
  |ret=>
   obtain rfl:x=.ret:=z;exact t F
  |exit id=>
   obtain rfl:x=.exit id:=z;exact F.elim
  |_=>exact z.elim
 .intro s;have:=QcJ (i:=0) [] rfl hl (Array.replicate (fn.ntmps-vals.toArray.size) undef) s
  grind
 grind
section
variable {P:Program} {fn:Func} {env:Env} {H:Qd}
theorem QbW.nil(h:fn.results= #[]):QbW P fn env H (.tup []):=
 λfr ro σ N a w r=>⟨.tuple #[],by simp[results,h,go_sem],[],rfl,rfl⟩
theorem QbW.one{t:Nat}{x:A}(h:fn.results= #[.tmp t])(hx:lk env t=x):QbW P fn env H x:=
 λfr ro σ N a w r=>⟨a.tmps.getD t undef,by simp[results,h,go_sem],hx▸r.env t⟩
theorem QjV{t u:Nat}{x y:A}(h:fn.results= #[.tmp t,.tmp u])(hx:lk env t=x)(hy:lk env u=y):QbW P fn env H (.tup [x,y]):=
 λfr ro σ N a w r=>⟨.tuple #[a.tmps.getD t undef,a.tmps.getD u undef],by simp[results,h,go_sem],
  [_,_],rfl,_,_,rfl,hx▸r.env t,_,_,rfl,hy▸r.env u,rfl⟩
end
inductive Ctl (S B:Type) where
 |cont (s:S)
 |done (b:B)
 deriving DecidableEq
def iter{S B:Type}(step:S->Option (Ctl S B)):Nat->S->Option B
 |0,_=>none
 |n+1,s=>match step s with
  |some (.cont s')=>iter step n s'
  |some (.done b)=>some b
  |none=>none
def Qbg{S B:Type}(I:S->Env->Qd->Prop)(d:Ctl S B)(Q:QG):QG
 |.normal,env,H=>∃s,d=.cont s/\I s env H
 |.exit id,env,H=>(∃b,d=.done b)/\Q (.exit id) env H
 |.ret,env,H=>(∃b,d=.done b)/\Q .ret env H
theorem QlG{P:Program}{h0 N:Nat}{c:Code}{S B:Type}{step:S->Option (Ctl S B)}{I:S->Env->Qd->Prop}{Q:QG}{F:B}
  (z:∀s d env H,I s env H->step s=some d->(∀b,d=.done b->b=F)->TC P h0 N c env H (Qbg I d Q))
  {m:Nat}{s0:S}(h:iter step m s0=some F){env:Env}{H:Qd}(M:I s0 env H):TC P h0 N (.loop c) env H Q:=by
 intro Y t G σ a w r hrd b k cs hro hb hr;have L:∀m s env H fr1 ro1 σ1 a1 w1,iter step m s=some F->I s env H->Rel fr1 ro1 σ1 H env N a1 w1->Qm t G w ro1 w1->σ1.take h0=σ.take h0->Grow t w a.defers fr1 a1.defers->
   ∃e j i,Qau h0 t G σ w N a.defers Q e j i/\ArrivesIn (Machine.fenced P (WF Y)) P (lone (b.atR a1 (.code c::.inLoop c::k)) cs w1) b k cs e j i:=by
  intro m
  induction m with
  |zero=>grind[iter]
  |succ m ih=>
   intro s env H fr1 ro1 σ1 a1 w1 hit M r1 ev1 t1 g1;simp only[iter]at hit;cases V:step s with
   |none=>grind
   |some d=>
    rw[V]at hit;have hd:∀b,d=.done b->b=F:=by
     grind
    obtain⟨e,j,i,J,f⟩:=z s d env H M V hd Y fr1 ro1 σ1 a1 w1 r1 (hrd.to ev1 g1.sub) b (.inLoop c::k) cs hro hb hr;obtain⟨x,g,H',u,σ',y,E,p,X,q4,R,q6⟩:=J;have n:=ev1.trans (q4.frMono g1.sub);have W:=g1.trans ev1.size q6;have T:∀x,Q x g H'->ExR e x->Qau h0 t G σ w N a.defers Q e j i:=λx q q'=>⟨x,g,H',u,σ',y,q',q,X,n,R.trans t1,W⟩;cases e with
    |normal=>
     obtain rfl:x=.normal:=E;obtain⟨s',rfl,p⟩:=p;obtain⟨e2,a2,w2,O,l⟩:=ih s' g H' y u σ' j i hit p X n (R.trans t1) W;exact⟨e2,a2,w2,O,.of_steps (StepsIn.trans f (.one (fenced_calm hb hr rfl) stepR_inLoop)) l⟩
    |exit id=>
     obtain rfl:x=.exit id:=E;exact⟨_,j,i,T _ p.2 rfl,.pass (x:=.inLoop c) rfl (by simp) f⟩
    |ret=>
     obtain rfl:x=.ret:=E;exact⟨_,j,i,T _ p.2 rfl,.pass (x:=.inLoop c) rfl (by simp) f⟩
    |_=>exact E.elim
 obtain⟨e,j,i,J,f⟩:=L m s0 env H t G σ a w h M r (Qm.refl _ _ _) rfl (Grow.refl _ _ _);exact⟨e,j,i,J,.of_steps (.one (fenced_calm hb hr rfl) stepR_loop) f⟩
theorem TC.loop{P:Program}{h0 N:Nat}{c:Code}{S B:Type}{step:S->Option (Ctl S B)}(E:S->Env)(Hp:S->Qd){Q:QG}
  {m:Nat}{s0:S}{b0:B}(h:iter step m s0=some b0){env:Env}{H:Qd}(hI:Le h0 env H (E s0) (Hp s0))
  (body:∀s d,step s=some d->(∀b,d=.done b->b=b0)->TC P h0 N c (E s) (Hp s) (Qbg (λs env H=>Le h0 env H (E s) (Hp s)) d Q)):TC P h0 N (.loop c) env H Q:=
 QlG (I:=λs env H=>Le h0 env H (E s) (Hp s)) (λs d env H hI hs hd=>TC.le hI (body s d hs hd)) h hI
def rho(π:List Nat)(n i:Nat):Nat:=
 match π[i]? with
 |some p=>p
 |none=>n+(i-π.length)
def QX:Qd->List Nat->List Blk->Qd
 |H,[],xs=>H++xs
 |H,p::π,x::xs=>QX (H.set p x) π xs
 |H,_::_,[]=>H
theorem Qcb:∀(π:List Nat) (H:Qd) (xs:List Blk),π.length<=xs.length->(QX H π xs).length=H.length+(xs.length-π.length)
 |[],H,xs,_=>by simp[QX]
 |p::π,H,[],h=>by simp at h
 |p::π,H,x::xs,h=>by
  simp[X0]at h;simp only[QX,Qcb π (H.set p x) xs (by omega),X4,X0];omega
theorem Qcl:∀(π:List Nat) (H:Qd) (xs:List Blk) (i:Nat),i<H.length->i∉π->(QX H π xs)[i]?=H[i]?
 |[],H,xs,i,hi,_=>by simp[QX,XM hi]
 |p::π,H,[],i,hi,h=>by simp[QX]
 |p::π,H,x::xs,i,hi,h=>by
  simp[X6,not_or]at h;simp[QX];rw[Qcl π (H.set p x) xs i (by grind) h.2,XP (λe=>h.1 e.symm)]
theorem Qee:∀(π:List Nat) (H:Qd) (xs:List Blk) (j:Nat),π.length<=xs.length->(∀p∈π,p<H.length)->π.Nodup->
  (QX H π xs)[rho π H.length j]?=xs[j]?
 |[],H,xs,j,_,_,_=>by
  simp_all[QX,rho,XN]
 |p::π,H,[],j,h,_,_=>by simp at h
 |p::π,H,x::xs,j,h,hp,hn=>by
  simp[X0]at h;have hn':=List.nodup_cons.1 hn;simp[QX];cases j with
  |zero=>
   grind[rho,Qcl]
  |succ j=>
   have ih:=Qee π (H.set p x) xs j (by omega) (λq hq=>by grind) hn'.2;have e:rho (p::π) H.length (j+1)=rho π H.length j:=by
    simp only[rho,X0];simp
   grind
theorem Qjd(π:List Nat)(n i:Nat)(hi:n<=i\/i∈π):∃j,i=rho π n j:=by
 rcases hi with hi|hi
 .refine⟨π.length+(i-n),?_⟩
  grind[rho]
 .obtain⟨j,a,rfl⟩:=List.mem_iff_getElem.1 hi;exact⟨j,by simp[rho,XK a]⟩
def YE(σ:Sig)(π:List Nat):Sig:=π.map λp=>(σ[p]?).getD none
theorem QdT{σ τ:Sig}{π:List Nat}{n:Nat}(a:σ.length=n)(d:∀p∈π,p<n)(j:Nat):(σ++τ)[rho π n j]?=(YE σ π++τ)[j]? :=by
 rcases(by omega)with h|h
 .grind[rho,YE]
 grind[rho,YE]
def OpC(P:Program)(o:Oper)(env:Env)(H:Qd)(f:FuncId)(args:List A):Prop:=
 ∀fr ro σ N a w,Rel fr ro σ H env N a w->∃vals:List Value,(execOp a.eval o).run P w=.ok (.enter f vals.toArray) w/\LR ro σ w args vals
theorem Jd{π:List Nat}{H:Qd}{Hc:List Blk}(a:π.map (λp=>H[p]?)=Hc.map some){p:Nat}(d:p∈π):p<H.length:=by
 grind[List.mem_map_of_mem]
theorem WO.call{P:Program}{h0 N:Nat}{all:Array Oper}{o:Oper}{l:List Oper}{env:Env}{H:Qd}{Q:QG}{d:Option Nat}{f:FuncId}
  {args ab:List A}{Hc:Qd}{Qr:A->Qd->Prop}(π:List Nat)(hh:h0<=H.length)(hg:QI all o env true)(hd:o.dst=d)(hN:∀x,d=some x->x<N)
  (an:OpC P o env H f args)(hargs:args=Qak (rho π H.length) ab)(hH:π.map (λp=>H[p]?)=(Hc.map (QZ (rho π H.length))).map some)(hπ:π.Nodup)
  (hC:C P f ab Hc Qr)
  (k:∀r H1,Qr r H1->WO P h0 N all l (match d with|some d=>up env d (YM (rho π H.length) r)|none=>env) (QX H π (H1.map (QZ (rho π H.length)))) Q):
  WO P h0 N all (o::l) env H Q:=by
 intro rd fr ro σ a w r hrd;obtain⟨ai,h1,h2⟩:=an fr ro σ N a w r;refine Qff (YO hg r) h1 ?_;have hp:∀p∈π,p<H.length:=λp q=>Jd hH q;have hσl:=r.sim.len;have ac:∀(j p:Nat),π[j]?=some p->H[p]?=(Hc[j]?).map (QZ (rho π H.length)):=by
  intro j p M;have:=congrArg (λl=>l[j]?) hH;simp only[Xo,M,Xj]at this;cases e:Hc[j]? with
  |none=>rw[e]at this;simp at this
  |some x=>rw[e]at this;simpa using this
 have al:π.length=Hc.length:=by simpa using congrArg List.length hH
 have hσc:∀j:Nat,σ[rho π H.length j]?=(YE σ π)[j]? :=by
  intro j;have:=QdT (τ:=[]) hσl hp j;simpa using this
 let frc:Nat->Prop:=λb=>fr b\/(∃i x,σ[i]?=some (some b)/\H[i]?=some x/\x.live=true/\i∉π)\/ ∃i x d,σ[i]?=some (some d)/\H[i]?=some x/\Hid w x d b/\i∉π
 have hπj:∀(j b:Nat),(YE σ π)[j]?=some (some b)->∃p,π[j]?=some p/\σ[p]?=some (some b):=by
  intro j b M;simp only[YE,Xo]at M;cases e:π[j]? with
  |none=>rw[e]at M;simp at M
  |some p=>
   rw[e]at M;simp at M;refine⟨p,rfl,?_⟩;cases e2:σ[p]? with
   |none=>rw[e2]at M;simp at M
   |some s=>rw[e2]at M;simp at M;rw[M]
 have hπi:∀(i j p:Nat),π[i]?=some p->π[j]?=some p->i=j:=by
  intro i j p T R;have hi:i<π.length:=by
   rcases VB i π.length with q|q
   .exact q
   .rw[XO q]at T;simp at T
  have M:j<π.length:=by
   rcases VB j π.length with q|q
   .exact q
   .rw[XO q]at R;simp at R
  rw[XK hi]at T;rw[XK M]at R;have ad:=(XZ T).trans (XZ R).symm;rcases Nat.lt_trichotomy i j with q|q|q
  .exact(VD.1 hπ i j hi M q ad).elim
  .exact q
  .exact(VD.1 hπ j i M hi q ad.symm).elim
 have ak:Sim frc ro (YE σ π) Hc w:=by
  refine⟨by simp[YE,al],r.sim.roOk,?_,?_,?_,?_,?_,?_⟩
  .rintro b (hb|⟨i,x,h,g,m,J⟩|⟨i,x,d,h,g,m,J⟩)
   .exact r.sim.frLt b hb
   .exact(r.sim.own i b x h g m).1
   .exact(r.sim.hid i d x b h g m).lt
  .rintro b hb (hf|⟨i,x,h,g,m,J⟩|⟨i,x,d,h,g,m,J⟩)
   .exact r.sim.roFr b hb hf
   .exact(r.sim.own i b x h g m).2.1 hb
   .exact(r.sim.hid i d x b h g m).ro hb
  .intro j b x h g m;obtain⟨p,T,e2⟩:=hπj j b h;have e3:H[p]?=some (QZ (rho π H.length) x):=by rw[ac j p T,g];rfl
   obtain⟨o1,o2,o3⟩:=r.sim.own p b _ e2 e3 (by rw[QK];exact m);refine⟨o1,o2,?_⟩;rintro(hf|⟨i,y,y1,y2,y3,y4⟩|⟨i,y,d,y1,y2,y3,y4⟩)
   .exact o3 hf
   .have:=r.sim.inj i p b _ _ y1 e2 y2 e3 y3 (by rw[QK];exact m);subst this;exact y4 (VG T)
   .exact(r.sim.hid i d y b y1 y2 y3).ne p b _ e2 e3 (by rw[QK];exact m) rfl
  .intro i j b x y h g m J X q6;obtain⟨p,T,e2⟩:=hπj i b h;obtain⟨p',R,au⟩:=hπj j b g;have e3:H[p]?=some (QZ (rho π H.length) x):=by rw[ac i p T,m];rfl
   have ao:H[p']?=some (QZ (rho π H.length) y):=by rw[ac j p' R,J];rfl
   have:=r.sim.inj p p' b _ _ e2 au e3 ao (by rw[QK];exact X) (by rw[QK];exact q6);subst this;have hi:i<π.length:=by
    rcases VB i π.length with q|q
    .exact q
    .rw[XO q]at T;simp at T
   have M:j<π.length:=by
    rcases VB j π.length with q|q
    .exact q
    .rw[XO q]at R;simp at R
   rw[XK hi]at T;rw[XK M]at R;have ad:=(XZ T).trans (XZ R).symm;rcases Nat.lt_trichotomy i j with q|q|q
   .exact(VD.1 hπ i j hi M q ad).elim
   .exact q
   .exact(VD.1 hπ j i M hi q ad.symm).elim
  .intro j s x h g;have M:j<π.length:=by
    rcases VB j π.length with q|q
    .exact q
    .rw[XO (by simpa[YE]using q)]at h;simp at h
   have T:π[j]?=some π[j]:=XK M;have e3:H[π[j]]?=some (QZ (rho π H.length) x):=by rw[ac j _ T,g];rfl
   have e2:σ[π[j]]?=some s:=by
    have:=hσc j;rw[h]at this;simpa[rho,T]using this
   exact(Qgw hσc).1 (r.sim.blk _ s _ e2 e3)
  .intro j b x c h g m;obtain⟨p,T,e2⟩:=hπj j b h;have e3:H[p]?=some (QZ (rho π H.length) x):=by rw[ac j p T,g];rfl
   have k:=r.sim.hid p b _ c e2 e3 ((Qal _ _ _ _ _).2 m);refine⟨k.lt,k.ro,?_,?_,?_⟩
   .rintro(hf|⟨i,y,y1,y2,y3,y4⟩|⟨i,y,d,y1,y2,y3,y4⟩)
    .exact k.fr hf
    .exact k.ne i c y y1 y2 y3 rfl
    .obtain⟨rfl,rfl⟩:=k.one i d y y1 y2 y3;exact y4 (VG T)
   .intro O b' y L n Y;obtain⟨p',f1,f2⟩:=hπj O b' L;exact k.ne p' b' _ f2 (show H[p']?=some (QZ (rho π H.length) y)by rw[ac O p' f1,n];rfl) (by rw[QK];exact Y)
   .intro O b' y L n Y;obtain⟨p',f1,f2⟩:=hπj O b' L;obtain⟨z4,z5⟩:=k.one p' b' _ f2 (show H[p']?=some (QZ (rho π H.length) y)by rw[ac O p' f1,n];rfl) ((Qal _ _ _ _ _).2 Y);subst z5;exact⟨z4,hπi O j p' f1 T⟩
 have ag:LR ro (YE σ π) w ab ai:=(QbX hσc).1 (hargs▸h2);refine Calls.mono (hC frc ro (YE σ π) ai w ak ag) ?_;rintro e w' ⟨v,rr,H1,aa,τ,rfl,hq,sc,hv,ev⟩;have hσ':∀j:Nat,(σ++τ)[rho π H.length j]?=(YE σ π++τ)[j]? :=λj=>QdT hσl hp j;have am:H1.length=π.length+τ.length:=by rw[<- sc.len];simp[YE]
 have aj:π.length<=(H1.map (QZ (rho π H.length))).length:=by simp;omega
 have V:Qm fr ro w aa w':=⟨ev.sub,ev.keepRo,λb q=>ev.keepFr b (.inl q),ev.size,ev.shape,ev.os,ev.tape,ev.output,ev.drawn⟩;have G:∀j,(QX H π (H1.map (QZ (rho π H.length))))[rho π H.length j]?=(H1[j]?).map (QZ (rho π H.length)):=by
  intro j;rw[Qee π H _ j aj hp hπ];simp
 have B:∀i,i<H.length->i∉π->(QX H π (H1.map (QZ (rho π H.length))))[i]?=H[i]? :=λi=>Qcl π H _ i;have t:∀i:Nat,(∃j,i=rho π H.length j)\/(i<H.length/\i∉π):=by
  intro i;by_cases q:H.length<=i\/i∈π
  .exact .inl (Qjd π H.length i q)
  .simp only[not_or]at q;exact .inr ⟨by omega,q.2⟩
 have F:∀i b x,i<H.length->i∉π->σ[i]?=some (some b)->H[i]?=some x->x.live=true->frc b:=λi b x h g m J X=>.inr (.inl ⟨i,x,m,J,X,g⟩);have af:∀i b x c,i<H.length->i∉π->σ[i]?=some (some b)->H[i]?=some x->Hid w' x b c->Hid w x b c/\frc c:=λi b x c h g m J X=>
  have q6:=r.sim.hidKeep m J (λz=>ev.keepFr b (F i b x h g m J z)) ev.keepRo X
  ⟨q6,.inr (.inr ⟨i,x,b,m,J,q6,g⟩)⟩
 have ah:Sim fr aa (σ++τ) (QX H π (H1.map (QZ (rho π H.length)))) w':=by
  refine⟨?_,sc.roOk,λb q=>sc.frLt b (.inl q),λb q q'=>sc.roFr b q (.inl q'),?_,?_,?_,?_⟩
  .rw[Qcb _ _ _ aj];simp[hσl,am]
  .intro i b x h g m;rcases t i with⟨j,rfl⟩|⟨c1,c2⟩
   .rw[hσ']at h;rw[G]at g;cases e:H1[j]? with
    |none=>rw[e]at g;simp at g
    |some y=>
     rw[e]at g;simp at g;subst g;obtain⟨o1,o2,o3⟩:=sc.own j b y h e (by rw[QK]at m;exact m);exact⟨o1,o2,λq=>o3 (.inl q)⟩
   .rw[B i c1 c2]at g;rw[XM (by omega)]at h;obtain⟨o1,o2,o3⟩:=r.sim.own i b x h g m;exact⟨Vf o1 ev.size,λq=>sc.roFr b q (F i b x c1 c2 h g m),o3⟩
  .intro i E b x y h g m J X q6;have ae:∀(i E:Nat) (x y:Blk),(∃j,i=rho π H.length j)->(E<H.length/\E∉π)->(σ++τ)[i]?=some (some b)->(σ++τ)[E]?=some (some b)->
     (QX H π (H1.map (QZ (rho π H.length))))[i]?=some x->(QX H π (H1.map (QZ (rho π H.length))))[E]?=some y->x.live=true->y.live=true->False:=by
    rintro i E x y ⟨j,rfl⟩ ⟨c1,c2⟩ h g m J X q6;rw[hσ']at h;rw[G]at m;rw[B E c1 c2]at J;rw[XM (by omega)]at g;cases e:H1[j]? with
    |none=>rw[e]at m;simp at m
    |some z=>
     rw[e]at m;simp at m;subst m;exact(sc.own j b z h e (by rw[QK]at X;exact X)).2.2 (F E b y c1 c2 g J q6)
   rcases t i with ci|ci<;>rcases t E with ci'|ci'
   .obtain⟨j,rfl⟩:=ci;obtain⟨O,rfl⟩:=ci';rw[hσ']at h g;rw[G]at m J;cases e:H1[j]? with
    |none=>rw[e]at m;simp at m
    |some z=>
     cases W:H1[O]? with
     |none=>rw[W]at J;simp at J
     |some z'=>
      rw[e]at m;simp at m;subst m;rw[W]at J;simp at J;subst J;rw[sc.inj j O b z z' h g e W (by rw[QK]at X;exact X) (by rw[QK]at q6;exact q6)]
   .exact(ae i E x y ci ci' h g m J X q6).elim
   .exact(ae E i y x ci' ci g h J m q6 X).elim
   .rw[B i ci.1 ci.2]at m;rw[B E ci'.1 ci'.2]at J;rw[XM (by omega)]at h g;exact r.sim.inj i E b x y h g m J X q6
  .intro i s x h g;rcases t i with⟨j,rfl⟩|⟨c1,c2⟩
   .rw[hσ']at h;rw[G]at g;cases e:H1[j]? with
    |none=>rw[e]at g;simp at g
    |some y=>
     rw[e]at g;simp at g;subst g;exact(Qgw hσ').2 (sc.blk j s y h e)
   .rw[B i c1 c2]at g;rw[XM (by omega)]at h;refine BR.keep (V.ext σ τ) ?_ (r.sim.blk i s x h g) ?_
    .rintro b rfl hl;exact ev.keepFr b (F i b x c1 c2 h g hl)
    .rintro b c rfl hl;exact ev.keepFr c (.inr (.inr ⟨i,x,b,h,g,hl,c2⟩))
  .intro i b x c h g m;rcases t i with⟨j,rfl⟩|⟨c1,c2⟩
   .rw[hσ']at h;rw[G]at g;cases e:H1[j]? with
    |none=>rw[e]at g;simp at g
    |some y=>
     rw[e]at g;simp at g;subst g;have k:=sc.hid j b y c h e ((Qal _ _ _ _ _).1 m);refine⟨k.lt,k.ro,λq=>k.fr (.inl q),?_,?_⟩
     .intro E b' y' L n Y;rcases t E with⟨O,rfl⟩|⟨d1,d2⟩
      .rw[hσ']at L;rw[G]at n;cases W:H1[O]? with
       |none=>rw[W]at n;simp at n
       |some u=>
        rw[W]at n;simp at n;subst n;exact k.ne O b' u L W (by rw[QK]at Y;exact Y)
      .rw[B E d1 d2]at n;rw[XM (by omega)]at L;rintro rfl;exact k.fr (F E c y' d1 d2 L n Y)
     .intro E b' y' L n Y;rcases t E with⟨O,rfl⟩|⟨d1,d2⟩
      .rw[hσ']at L;rw[G]at n;cases W:H1[O]? with
       |none=>rw[W]at n;simp at n
       |some u=>
        rw[W]at n;simp at n;subst n;obtain⟨z4,rfl⟩:=k.one O b' u L W ((Qal _ _ _ _ _).1 Y);exact⟨z4,rfl⟩
      .rw[B E d1 d2]at n;rw[XM (by omega)]at L;exact(k.fr (af E b' y' c d1 d2 L n Y).2).elim
   .rw[B i c1 c2]at g;rw[XM (by omega)]at h;obtain⟨J,X⟩:=af i b x c c1 c2 h g m;have k:=r.sim.hid i b x c h g J;refine⟨Vf k.lt ev.size,λq=>sc.roFr c q X,k.fr,?_,?_⟩
    .intro E b' y' L n Y;rcases t E with⟨O,rfl⟩|⟨d1,d2⟩
     .rw[hσ']at L;rw[G]at n;cases W:H1[O]? with
      |none=>rw[W]at n;simp at n
      |some u=>
       rw[W]at n;simp at n;subst n;rintro rfl;exact(sc.own O c u L W (by rw[QK]at Y;exact Y)).2.2 X
     .rw[B E d1 d2]at n;rw[XM (by omega)]at L;exact k.ne E b' y' L n Y
    .intro E b' y' L n Y;rcases t E with⟨O,rfl⟩|⟨d1,d2⟩
     .rw[hσ']at L;rw[G]at n;cases W:H1[O]? with
      |none=>rw[W]at n;simp at n
      |some u=>
       rw[W]at n;simp at n;subst n;exact((sc.hid O b' u c L W ((Qal _ _ _ _ _).1 Y)).fr X).elim
     .rw[B E d1 d2]at n;rw[XM (by omega)]at L;exact k.one E b' y' L n (af E b' y' c d1 d2 L n Y).1
 have aq:VR aa (σ++τ) w' (YM (rho π H.length) rr) v:=(Qcv hσ').2 hv;have hk:=k rr H1 hq;cases d with
 |none=>
  simp only[hd,Act.put];have r':Rel fr aa (σ++τ) (QX H π (H1.map (QZ (rho π H.length)))) env N a w':=⟨ah,λs=>(r.env s).mono (V.ext σ τ),r.size,r.defers.keep V⟩;exact⟨_,rfl,Yo (λe a w q=>q.step V (QS (by omega))) _ _ _ (hk rd fr aa (σ++τ) _ w' r' (hrd.to V λ_ q=>q))⟩
 |some d=>
  simp only[hd,Act.put];have ar:=hN d rfl;have r':Rel fr aa (σ++τ) (QX H π (H1.map (QZ (rho π H.length)))) (up env d (YM (rho π H.length) rr)) N {a with tmps:=a.tmps.setIfInBounds d v} w':=
   ⟨ah,VR.up (fr:=fr) (λs=>(r.env s).mono (V.ext σ τ)) (by rw[r.size];exact ar) aq,by simpa using r.size,r.defers.keep V⟩
  exact⟨_,rfl,Yo (λe a w q=>q.step V (QS (by omega))) _ _ _ (hk rd fr aa (σ++τ) _ w' r' (hrd.to V λ_ q=>q))⟩
section
variable {P:Program} {o:Oper} {env:Env} {H:Qd}
theorem QU{fr ro:Nat->Prop}{σ:Sig}{N:Nat}{a:Act}{w:World}(r:Rel fr ro σ H env N a w){x:Operand}{k:IntKind}{n:Int}(h:opA env x=.int k n):a.eval x=.int k n:=by
 have:=Qu r x;rw[h]at this;exact this
theorem QcF{fr ro:Nat->Prop}{σ:Sig}{N:Nat}{a:Act}{w:World}(r:Rel fr ro σ H env N a w){x:Operand}{b:Bool}(h:opA env x=.bool b):a.eval x=.bool b:=by
 have:=Qu r x;rw[h]at this;exact this
theorem QdW{fr ro:Nat->Prop}{σ:Sig}{N:Nat}{a:Act}{w:World}(r:Rel fr ro σ H env N a w){x:Operand}{s:List UInt8}(h:opA env x=.str s):a.eval x=.string ⟨s.toArray⟩:=by
 have:=Qu r x;rw[h]at this;exact this
theorem OpV.move{x:Operand}{v:A}(ho:o.op=.move x)(hx:opA env x=v):OpV P o env H v:=
 λfr ro σ N a w r=>⟨a.eval x,by simp[execOp,ho],hx▸Qu r x⟩
theorem OpV.assign{x:Operand}{v:A}(ho:o.op=.assign x)(hx:opA env x=v):OpV P o env H v:=
 λfr ro σ N a w r=>⟨a.eval x,by simp[execOp,ho],hx▸Qu r x⟩
theorem OpV.pick{c x y:Operand}{b:Bool}{v:A}(h:o.op=.pick c x y)(d:opA env c=.bool b)(i:(if b then opA env x else opA env y)=v):OpV P o env H v:=by
 intro f g σ N a w r;have e:=QcF r d;refine⟨if b then a.eval x else a.eval y,by simp_all[execOp,asBool],?_⟩
 grind[Qu]
theorem OpV.add{t u:TypeId}{x y:Operand}{k:IntKind}{m n:Int}(h:o.op=.binOp .add t x y u)(e:opA env x=.int k m)(d:opA env y=.int k n):OpV P o env H (.int k (k.wrap (m+n))):=by
 intro f g σ N a w r;have j:=QU r e;have i:=QU r d;refine⟨_,?_,rfl⟩
 simp_all[execOp,Go.binOp,eqGuard,Op.intArith]
theorem OpV.sub{t u:TypeId}{x y:Operand}{k:IntKind}{m n:Int}(h:o.op=.binOp .sub t x y u)(e:opA env x=.int k m)(d:opA env y=.int k n):OpV P o env H (.int k (k.wrap (m-n))):=by
 intro f g σ N a w r;have j:=QU r e;have i:=QU r d;refine⟨_,?_,rfl⟩
 simp_all[execOp,Go.binOp,eqGuard,Op.intArith]
theorem OpV.mul{t u:TypeId}{x y:Operand}{k:IntKind}{m n:Int}(h:o.op=.binOp .mul t x y u)(e:opA env x=.int k m)(d:opA env y=.int k n):OpV P o env H (.int k (k.wrap (m*n))):=by
 intro f g σ N a w r;have j:=QU r e;have i:=QU r d;refine⟨_,?_,rfl⟩
 simp_all[execOp,Go.binOp,eqGuard,Op.intArith]
theorem Qb8{op:BinOp}{t u:TypeId}{x y:Operand}{k:IntKind}{m n:Int}{f:Int->Int->Bool}(h:o.op=.binOp op t x y u)(j:opA env x=.int k m)(e:opA env y=.int k n)
  (d:op=.eql/\f=(λa b=>a==b)\/op=.neq/\f=(λa b=>a != b)\/op=.lss/\f=(λa b=>decide (a<b))\/op=.leq/\f=(λa b=>decide (a<=b))\/
   op=.gtr/\f=(λa b=>decide (b<a))\/op=.geq/\f=(λa b=>decide (b<=a))):OpV P o env H (.bool (f m n)):=by
 intro l p σ N a w r;have g:=QU r j;have i:=QU r e;refine⟨_,?_,rfl⟩;generalize a.eval=ρ at*;rcases d with⟨rfl,rfl⟩|⟨rfl,rfl⟩|⟨rfl,rfl⟩|⟨rfl,rfl⟩|⟨rfl,rfl⟩|⟨rfl,rfl⟩<;>simp[h,g,i,go_sem]
theorem OpV.eql{t u:TypeId}{x y:Operand}{k:IntKind}{m n:Int}(ho:o.op=.binOp .eql t x y u)(hx:opA env x=.int k m)(hy:opA env y=.int k n):OpV P o env H (.bool (m==n)):=
 Qb8 ho hx hy (by simp)
theorem OpV.neq{t u:TypeId}{x y:Operand}{k:IntKind}{m n:Int}(ho:o.op=.binOp .neq t x y u)(hx:opA env x=.int k m)(hy:opA env y=.int k n):OpV P o env H (.bool (m != n)):=
 Qb8 ho hx hy (by simp)
theorem OpV.lss{t u:TypeId}{x y:Operand}{k:IntKind}{m n:Int}(ho:o.op=.binOp .lss t x y u)(hx:opA env x=.int k m)(hy:opA env y=.int k n):OpV P o env H (.bool (decide (m<n))):=
 Qb8 (f:=λa b=>decide (a<b)) ho hx hy (by simp)
theorem OpV.leq{t u:TypeId}{x y:Operand}{k:IntKind}{m n:Int}(ho:o.op=.binOp .leq t x y u)(hx:opA env x=.int k m)(hy:opA env y=.int k n):OpV P o env H (.bool (decide (m<=n))):=
 Qb8 (f:=λa b=>decide (a<=b)) ho hx hy (by simp)
theorem OpV.gtr{t u:TypeId}{x y:Operand}{k:IntKind}{m n:Int}(ho:o.op=.binOp .gtr t x y u)(hx:opA env x=.int k m)(hy:opA env y=.int k n):OpV P o env H (.bool (decide (n<m))):=
 Qb8 (f:=λa b=>decide (b<a)) ho hx hy (by simp)
theorem OpV.geq{t u:TypeId}{x y:Operand}{k:IntKind}{m n:Int}(ho:o.op=.binOp .geq t x y u)(hx:opA env x=.int k m)(hy:opA env y=.int k n):OpV P o env H (.bool (decide (n<=m))):=
 Qb8 (f:=λa b=>decide (b<=a)) ho hx hy (by simp)
theorem OpV.rem{t u:TypeId}{x y:Operand}{k:IntKind}{m n:Int}(j:o.op=.binOp .rem t x y u)(e:opA env x=.int k m)(d:opA env y=.int k n)(f:n≠0):OpV P o env H (.int k (m.tmod n)):=by
 intro h i σ N a w r;have g:=QU r e;have l:=QU r d;exact⟨_,by simp_all[execOp,Go.binOp,eqGuard,Op.intDiv],rfl⟩
theorem OpV.quo{t u:TypeId}{x y:Operand}{k:IntKind}{m n:Int}(j:o.op=.binOp .quo t x y u)(e:opA env x=.int k m)(d:opA env y=.int k n)(f:n≠0):OpV P o env H (.int k (k.wrap (m.tdiv n))):=by
 intro h i σ N a w r;have g:=QU r e;have l:=QU r d;exact⟨_,by simp_all[execOp,Go.binOp,eqGuard,Op.intDiv],rfl⟩
theorem OpV.not{t:TypeId}{x:Operand}{b:Bool}(g:o.op=.unOp .not t x)(d:opA env x=.bool b):OpV P o env H (.bool !b):=by
 intro e f σ N a w r;have h:=QcF r d;exact⟨_,by simp_all[execOp,Op.unary],rfl⟩
theorem OpV.neg{t:TypeId}{x:Operand}{k:IntKind}{n:Int}(g:o.op=.unOp .neg t x)(d:opA env x=.int k n):OpV P o env H (.int k (k.wrap (0-n))):=by
 intro e f σ N a w r;have h:=QU r d;exact⟨_,by simp_all[execOp,Op.unary,Op.intArith],rfl⟩
theorem Qe4{s t:TypeId}{x:Operand}{k d:IntKind}{n:Int}{e:TypeDesc}(m:o.op=.convert s t x)(l:∀w,(underlying s).run P w=.ok e w)(i:∀w,(underlying t).run P w=.ok (.int k) w)
  (f:opA env x=.int d n):OpV P o env H (.int k (k.wrap n)):=by
 intro h j σ N a w r;have g:=QU r f;refine⟨_,?_,rfl⟩
 simp_all[execOp,convert,Conv.intToInt]
theorem Qdo{op:BinOp}{t u:TypeId}{x y:Operand}{p q:List UInt8}{f:List UInt8->List UInt8->Bool}(j:o.op=.binOp op t x y u)(l:opA env x=.str p)(g:opA env y=.str q)
  (d:op=.eql/\f=(λa b=>a==b)\/op=.neq/\f=(λa b=>a != b)\/op=.lss/\f=Op.bytesLess\/op=.geq/\f=(λa b=> !Op.bytesLess a b)\/
   op=.leq/\f=(λa b=>Op.bytesLess a b||a==b)\/op=.gtr/\f=(λa b=> !(Op.bytesLess a b||a==b))):OpV P o env H (.bool (f p q)):=by
 intro m n σ N a w r;have h:=QdW r l;have k:=QdW r g;refine⟨_,?_,rfl⟩;generalize a.eval=ρ at*;have e:(⟨p.toArray⟩:ByteArray).toList=p:=by simp
 have i:(⟨q.toArray⟩:ByteArray).toList=q:=by simp
 rcases d with⟨rfl,rfl⟩|⟨rfl,rfl⟩|⟨rfl,rfl⟩|⟨rfl,rfl⟩|⟨rfl,rfl⟩|⟨rfl,rfl⟩<;>simp[j,h,k,Go.binOp,Op.stringOp,e,i,go_sem,bne]
theorem Qj1{t u:TypeId}{x y:Operand}{p q:List UInt8}(ho:o.op=.binOp .eql t x y u)(hx:opA env x=.str p)(hy:opA env y=.str q):OpV P o env H (.bool (p==q)):=
 Qdo ho hx hy (by simp)
theorem QjY{t u:TypeId}{x y:Operand}{p q:List UInt8}(ho:o.op=.binOp .neq t x y u)(hx:opA env x=.str p)(hy:opA env y=.str q):OpV P o env H (.bool (p != q)):=
 Qdo ho hx hy (by simp)
theorem QjZ{t u:TypeId}{x y:Operand}{p q:List UInt8}(ho:o.op=.binOp .lss t x y u)(hx:opA env x=.str p)(hy:opA env y=.str q):OpV P o env H (.bool (Op.bytesLess p q)):=
 Qdo ho hx hy (by simp)
theorem Qj0{t:TypeId}{x y:Operand}{s:List UInt8}{k:IntKind}{n:Int}{c:UInt8}(z:o.op=.index t x y)(p:∀w,(underlying t).run P w=.ok .string w)(i:opA env x=.str s)(e:opA env y=.int k n)
  (q:0<=n)(h:s[n.toNat]?=some c):OpV P o env H (.int .u8 c.toNat):=by
 intro m u σ N a w r;have l:=QdW r i;have B:=QU r e;have j:(⟨s.toArray⟩:ByteArray)[n.toNat]?=some c:=by
  obtain⟨d,f⟩:=XL.1 h;have g:(⟨s.toArray⟩:ByteArray).size=s.length:=by rfl
  rw[getElem?_pos _ _ (by exact d)];show some (s.toArray[n.toNat]'(by omega))=some c;simp[f]
 refine⟨_,?_,rfl⟩
 simp_all[execOp,Instr.index,asIntOf]
theorem YX{c:Call}{t:TypeId}{x:Operand}{s:List UInt8}(e:o.op=.call c)(f:c={callee:=.builtin .len,args:= #[x],argTypes:= #[t]})(d:∀w,(underlying t).run P w=.ok .string w)
  (g:opA env x=.str s):OpV P o env H (.int .i64 s.length):=by
 intro i j σ N a w r;have h:=QdW r g;generalize a.eval=ρ at*;subst f;simp[execOp,e,h,resolve,invoke,Builtin.len_,d,goInt,go_sem]<;>rfl
theorem QlK{c:Call}{t e:TypeId}{x:Operand}{k:Nat}{es:List (List A)}(h:o.op=.call c)(i:c={callee:=.builtin .len,args:= #[x],argTypes:= #[t]})(f:∀w,(underlying t).run P w=.ok (.slice e) w)
  (j:opA env x=.rsl k es):OpV P o env H (.int .i64 es.length):=by
 intro m n σ N a w r;have d:=Qu r x;rw[j]at d;obtain⟨l,g,d,_⟩:=d;refine⟨_,?_,rfl⟩;generalize a.eval=ρ at*;subst i;simp[execOp,h,d,resolve,invoke,Builtin.len_,f,goInt,go_sem]
theorem QlL{c:Call}{t e:TypeId}{x:Operand}{i s n k:Nat}(h:o.op=.call c)(j:c={callee:=.builtin .len,args:= #[x],argTypes:= #[t]})(f:∀w,(underlying t).run P w=.ok (.slice e) w)
  (l:opA env x=.osl i s n k):OpV P o env H (.int .i64 n):=by
 intro u y σ N a w r;have d:=Qu r x;rw[l]at d;refine⟨_,?_,rfl⟩;generalize a.eval=ρ at*;subst j;rcases d with⟨rfl,d⟩|⟨b,p,g,q,m,_,d,_⟩<;>
 simp[execOp,h,d,resolve,invoke,Builtin.len_,f,goInt,go_sem]
structure Qai (P:Program) (T f off n:Nat):Prop where
 h:∃fs fd,(∀w,(underlying T).run P w=.ok (.struct fs) w)/\fs[f]?=some fd/\fd.offset=off/\(∀w,(sizeOf fd.type).run P w=.ok n w)/\n≠0
theorem QaO(b a n:Nat):(⟨b,a,none⟩:Addr).add n=⟨b,a+n,none⟩:=by
 simp_all[Addr.add]
theorem Qdu{T f off n b p:Nat}(a:Qai P T f off n)(w:World):(Instr.fieldAt T (.pointer (some ⟨b,p,none⟩)) f).run P w=.ok (.pointer (some ⟨b,p+off,none⟩)) w:=by
 obtain⟨i,d,e,j,rfl,g,k⟩:=a.h
 simp_all[Instr.fieldAt,Instr.sureAddr,fieldPlace,QaO]
theorem Qe3{T f off n i p:Nat}{x:Operand}(e:Qai P T f off n)(g:o.op=.fieldAddr T x f)(j:opA env x=.ptr i p):OpV P o env H (.ptr i (p+off)):=by
 intro k l σ N a w r;have d:=Qu r x;rw[j]at d;obtain⟨b,d,h⟩:=d;refine⟨.pointer (some ⟨b,p+off,none⟩),?_,b,d,rfl⟩;simp only[execOp,g,h,Vm,Qdu e];rfl
theorem CR.drop{ro:Nat->Prop}{σ:Sig}{w:World}{b:Nat}:∀(n:Nat) {cs:List A} {off:Nat},CR ro σ w b cs off->CR ro σ w b (cs.drop n) (off+n)
 |0,_,_,h=>h
 |n+1,[],_,h=>trivial
 |n+1,c::cs,off,h=>by
  have:=CR.drop n h.2
  grind
theorem CR.take{ro:Nat->Prop}{σ:Sig}{w:World}{b:Nat}:∀(n:Nat) {cs:List A} {off:Nat},CR ro σ w b cs off->CR ro σ w b (cs.take n) off
 |0,_,_,h=>trivial
 |n+1,[],_,h=>trivial
 |n+1,c::cs,off,h=>⟨h.1,CR.take n h.2⟩
theorem Qe2{T f off n:Nat}{x:Operand}{h d:List A}(i:Qai P T f off n)(j:o.op=.fieldAddr T x f)(m:opA env x=.rp h)(g:h.drop off=d):OpV P o env H (.rp d):=by
 intro q s σ N a w r;have e:=Qu r x;rw[m]at e;obtain⟨b,p,e,k,l⟩:=e;refine⟨.pointer (some ⟨b,p+off,none⟩),?_,b,p+off,rfl,k,g▸l.drop off⟩;simp only[execOp,j,e,Vm,Qdu i];rfl
theorem RR.get{ro:Nat->Prop}{σ:Sig}{w:World}{b k:Nat}:∀(n:Nat) {es:List (List A)} {off:Nat} {c:List A},RR ro σ w b k es off->es[n]?=some c->c.length=k/\CR ro σ w b c (off+n*k)
 |n,[],_,_,h,hc=>by simp at hc
 |0,e::es,off,c,h,hc=>by
  simp at hc;subst hc;exact⟨h.1,by simpa using h.2.1⟩
 |n+1,e::es,off,c,h,hc=>by
  have:=RR.get n h.2.2 (by simpa using hc)
  grind
theorem QmS{t e:TypeId}{x y:Operand}{k:Nat}{es:List (List A)}{q:IntKind}{n:Int}{c:List A}(E:o.op=.indexAddr t x y)(u:∀w,(underlying t).run P w=.ok (.slice e) w)
  (m:∀w,(sizeOf e).run P w=.ok k w)(l:opA env x=.rsl k es)(s:opA env y=.int q n)(B:0<=n)(h:es[n.toNat]?=some c):OpV P o env H (.rp c):=by
 intro L M σ N a w r;have f:=Qu r x;rw[l]at f;have p:=QU r s;obtain⟨J,z,f,O,j⟩:=f;have g:n.toNat<es.length:=(by grind);rcases j with rfl|⟨b,d,rfl,G,F⟩
 .simp at g
 have i:n<es.length:=by omega
 refine⟨.pointer (some ⟨b,d+n.toNat*k,none⟩),?_,b,d+n.toNat*k,rfl,G,(F.get n.toNat h).2⟩;generalize a.eval=ρ at*;simp[E,f,p,Instr.indexAt,u,m,B,i,go_sem]
theorem Qi0{t e:TypeId}{x y:Operand}{i s m k:Nat}{f:IntKind}{n:Int}(l:o.op=.indexAddr t x y)(q:∀w,(underlying t).run P w=.ok (.slice e) w)
  (B:∀w,(sizeOf e).run P w=.ok k w)(G:opA env x=.osl i s m k)(g:opA env y=.int f n)(z:0<=n)(h:n<m):OpV P o env H (.ptr i (s*k+n.toNat*k)):=by
 intro M O σ N a w r;have d:=Qu r x;rw[G]at d;have E:=QU r g;rcases d with⟨rfl,_⟩|⟨b,p,u,J,L,F,d,j,Q,_⟩
 .omega
 obtain rfl:=j (by omega);refine⟨.pointer (some ⟨b,s*k+n.toNat*k,none⟩),?_,b,F,rfl⟩;generalize a.eval=ρ at*;simp[l,d,E,Instr.indexAt,q,B,z,h,go_sem]
def Pts(H:Qd)(p:A)(cs:List A):Prop:=
 ∀fr ro σ w v,Sim fr ro σ H w->VR ro σ w p v->∃b off,v=.pointer (some ⟨b,off,none⟩)/\CR ro σ w b cs off
theorem VR.lift{ro:Nat->Prop}{σ:Sig}{w:World}{a:A}{v:Value}(h:VR ro [] w a v):VR ro σ w a v:=
 h.mono ⟨λ_ q=>q,λ_ _=>rfl,λ_ _ q=>q,(by simp)⟩
theorem CR.lift{ro:Nat->Prop}{σ:Sig}{w:World}{b:Nat}:∀{cs:List A} {off:Nat},CR ro [] w b cs off->CR ro σ w b cs off
 |[],_,_=>trivial
 |c::cs,off,⟨⟨v,h1,hp,h2⟩,h3⟩=>⟨⟨v,h1,hp,h2.lift⟩,CR.lift h3⟩
theorem LR.lift{ro:Nat->Prop}{σ:Sig}{w:World}:∀{cs:List A} {l:List Value},LR ro [] w cs l->LR ro σ w cs l
 |[],_,h=>h
 |c::cs,l,⟨v,l',h1,h2,h3⟩=>⟨v,l',h1,h2.lift,LR.lift h3⟩
theorem Pts.rp{cs:List A}:Pts H (.rp cs) cs:=λfr ro σ w v s ⟨b,off,h1,h2,h3⟩=>⟨b,off,h1,h3.lift⟩
theorem LR.cells{ro:Nat->Prop}{σ:Sig}{w:World}{b t:Nat}{fz:Nat×Nat}{pre l:List Value}(e:w.heap[b]?=some (.cells (pre++l).toArray t fz))(d:∀v∈l,QA v):
  ∀{a:List A},LR ro σ w a l->CR ro σ w b a pre.length:=by
 induction l generalizing pre with
 |nil=>
  intro a h;cases a with
  |nil=>trivial
  |cons c a=>obtain⟨v,i,h,_⟩:=h;cases h
 |cons v l f=>
  intro a h;cases a with
  |nil=>trivial
  |cons c a=>
   obtain⟨n,i,g,j,k⟩:=h;cases g;refine⟨⟨v,by simp[World.cell?,e],d v (by simp),j⟩,?_⟩;have:=f (pre:=pre++[v]) (by simpa using e) (λx m=>d x (by simp[m])) k
   grind
theorem Pts.cells{i a t:Nat}{e d:List A}(n:H[i]?=some (.cells t e))(j:e.drop a=d):Pts H (.ptr i a) d:=by
 intro p q σ w v s h;obtain⟨b,k,r⟩:=h;obtain⟨l,m,f,g⟩:=s.blk i _ _ k n;have:=LR.cells (pre:=[]) (by simpa using m) g f;have:=this.drop a
 grind
theorem LR.get{ro:Nat->Prop}{σ:Sig}{w:World}:∀{az:List A} {l:List Value} (i:Nat) {a:A},LR ro σ w az l->az[i]?=some a->∃v,l[i]?=some v/\VR ro σ w a v
 |[],l,i,a,h,ha=>by simp at ha
 |x::az,l,0,a,⟨v,l',h1,h2,h3⟩,ha=>by
  grind
 |x::az,l,i+1,a,⟨v,l',h1,h2,h3⟩,ha=>by
  obtain⟨v',q1,q2⟩:=LR.get i h3 (by simpa using ha)
  grind
theorem LR.drop{ro:Nat->Prop}{σ:Sig}{w:World}:∀(n:Nat) {az:List A} {l:List Value},LR ro σ w az l->LR ro σ w (az.drop n) (l.drop n)
 |0,az,l,h=>h
 |n+1,[],l,h=>by cases(show l=[]from h);rfl
 |n+1,a::az,l,⟨v,l',h1,h2,h3⟩=>by subst h1;exact LR.drop n h3
theorem LR.take{ro:Nat->Prop}{σ:Sig}{w:World}:∀(n:Nat) {az:List A} {l:List Value},LR ro σ w az l->LR ro σ w (az.take n) (l.take n)
 |0,az,l,h=>rfl
 |n+1,[],l,h=>by cases(show l=[]from h);rfl
 |n+1,a::az,l,⟨v,l',h1,h2,h3⟩=>by subst h1;exact⟨v,l'.take n,rfl,h2,LR.take n h3⟩
theorem LR.append{ro:Nat->Prop}{σ:Sig}{w:World}:∀{az:List A} {l:List Value} {bs:List A} {m:List Value},LR ro σ w az l->LR ro σ w bs m->LR ro σ w (az++bs) (l++m)
 |[],l,bs,m,h,k=>by cases(show l=[]from h);exact k
 |a::az,l,bs,m,⟨v,l',h1,h2,h3⟩,k=>by subst h1;exact⟨v,l'++m,rfl,h2,LR.append h3 k⟩
theorem Qi3{ro:Nat->Prop}{σ:Sig}{w:World}{b t:Nat}{fz:Nat×Nat}:∀{cs:List A} {pre l post:List Value},w.heap[b]?=some (.cells (pre++(l++post)).toArray t fz)->(∀v∈l,QA v)->
  LR ro σ w cs l->CR ro σ w b cs pre.length
 |[],_,_,_,_,_,_=>trivial
 |c::cs,pre,l,post,hb,hpl,⟨v,l',h1,h2,h3⟩=>by
  subst h1;refine⟨⟨v,by simp[World.cell?,hb],hpl v (by simp),h2⟩,?_⟩;have:=Qi3 (pre:=pre++[v]) (by simpa using hb) (by grind) h3
  grind
theorem YS{ro:Nat->Prop}{σ:Sig}{w:World}{b t k:Nat}{fz:Nat×Nat}:∀{es:List (List A)} {pre l:List Value},w.heap[b]?=some (.cells (pre++l).toArray t fz)->
  RL ro σ w k es l->RR ro σ w b k es pre.length
 |[],_,_,_,_=>trivial
 |c::es,pre,l,hb,⟨l1,l2,h1,h2,h3,h4⟩=>by
  subst h1;refine⟨h2,Qi3 hb h3.2 h3.1,?_⟩;have hl:=h3.1.length;have:=YS (pre:=pre++l1) (by simpa using hb) h4
  grind
theorem Pts.row{i a t k e f:Nat}{es:List (List A)}{c d:List A}(p:H[i]?=some (.row t k es))(q:a=e*k+f)(he:es[e]?=some c)(g:c.drop f=d):Pts H (.ptr i a) d:=by
 intro u x σ w v s h;obtain⟨b,m,r⟩:=h;obtain⟨l,n,j⟩:=s.blk i _ _ m p;have:=((YS (pre:=[]) (by simpa using n) j).get e he).2.drop f;refine⟨b,a,r,?_⟩;subst q g;simpa using this.lift
theorem Pts.rowr{i d t k e f:Nat}{es:List (List A)}{c a:List A}(p:H[i]?=some (.rowr t k es))(u:d=e*k+f)(he:es[e]?=some c)(j:c.drop f=a):Pts H (.ptr i d) a:=by
 intro q r σ w v s h;obtain⟨b,m,x⟩:=h;obtain⟨l,n,g⟩:=s.blk i _ _ m p;have:=((YS (pre:=[]) (by simpa using n) g).get e he).2.drop f
 grind
theorem QjN{w w':World}(h:w'.heap=w.heap)(a:Addr):w'.cell? a=w.cell? a:=by unfold World.cell?;rw[h]
theorem Yv{ro:Nat->Prop}{σ:Sig}{w:World}{b d:Nat}:∀{e:List A} (i:Nat),CR ro σ w b e (d+i)->
  ∃l,LR ro σ w e l/\(∀v∈l,QA v)/\ ∀(w':World) (a:Array Value),w'.heap=w.heap->(loadCellsFrom ⟨b,d,none⟩ i e.length a).run P w'=.ok (a++l.toArray) w'
 |[],i,h=>⟨[],rfl,by simp,λw' a _=>by rfl⟩
 |c::e,i,⟨⟨v,h1,hp,h2⟩,h3⟩=>by
  obtain⟨l,q1,qp,q2⟩:=Yv (i+1) (by omega);refine⟨v::l,⟨v,l,rfl,h2,q1⟩,by grind,λw' a hw=>?_⟩;have h1':w'.cell? ⟨b,d+i,none⟩=some v:=by rw[QjN hw];exact h1
  simp_all[loadCellsFrom,QaO]
theorem Qbf{t n:Nat}{x:Operand}{p:A}{e vs:List A}(E:o.op=.load t x)(y:∀w,(isAgg t).run P w=.ok true w)(z:∀w,(sizeOf t).run P w=.ok n w)(q:opA env x=p)(j:Pts H p e)
  (g:e.take n=vs)(u:vs.length=n):OpV P o env H (.agg vs):=by
 intro h k σ N a w r;have d:=Qu r x;rw[q]at d;obtain⟨b,f,B,m⟩:=j h k σ w _ r.sim d;subst g;obtain⟨l,i,_,s⟩:=Yv (P:=P) 0 (by simpa using m.take n);refine⟨.agg l.toArray,?_,l,rfl,i⟩
 simp_all[execOp,Instr.loadAt,Instr.sureAddr,loadVar,loadCells]
theorem OpV.load{t:Nat}{x:Operand}{p v:A}{f:List A}(m:o.op=.load t x)(k:∀w,(isAgg t).run P w=.ok false w)(j:opA env x=p)(h:Pts H p (v::f)):OpV P o env H v:=by
 intro g i σ N a w r;have d:=Qu r x;rw[j]at d;obtain⟨b,e,n,⟨y,q,_,l⟩,_⟩:=h g i σ w _ r.sim d
 simp_all[execOp,Instr.loadAt,Instr.sureAddr,loadVar]
theorem OpV.extract{x:Operand}{vs:List A}{i:Nat}{v:A}(m:o.op=.extract x i)(g:opA env x=.tup vs)(e:vs[i]?=some v):OpV P o env H v:=by
 intro j k σ N a w r;have d:=Qu r x;rw[g]at d;obtain⟨l,d,f⟩:=d;obtain⟨y,n,h⟩:=f.get i e
 simp_all[execOp,Instr.extract]
theorem OpV.field{T f off n:Nat}{x:Operand}{e:List A}{v:A}(i:Qai P T f off n)(g:∀fs fd,(∀w,(underlying T).run P w=.ok (.struct fs) w)->fs[f]?=some fd->∀w,(isAgg fd.type).run P w=.ok false w)
  (B:o.op=.field T x f)(m:opA env x=.agg e)(j:e[off]?=some v):OpV P o env H v:=by
 intro s t σ N a w r;have d:=Qu r x;rw[m]at d;obtain⟨l,d,k⟩:=d;obtain⟨y,F,q⟩:=k.get off j;obtain⟨fs,fd,E,u,rfl,p,z⟩:=i.h
 simp_all[execOp,Instr.field,asAgg,part]
theorem Qbe{fr ro:Nat->Prop}{σ:Sig}{N:Nat}{a:Act}{w:World}(r:Rel fr ro σ H env N a w):∀(l:List Operand),LR ro σ w (l.map (opA env)) (l.map a.eval)
 |[]=>rfl
 |x::l=>⟨_,_,rfl,Qu r x,Qbe r l⟩
theorem OpV.makeFunc{f:Fn}{first cap:List Operand}{e d:List A}(k:o.op=.makeFunc f first.toArray cap.toArray)(h:first.map (opA env)=e)(g:cap.map (opA env)=d):OpV P o env H (.fn f e d):=by
 intro i j σ N a w r;refine⟨.func f (first.map a.eval).toArray (cap.map a.eval).toArray,?_,_,_,rfl,h▸Qbe r first,g▸Qbe r cap⟩
 simp_all[execOp,Instr.makeFunc]
theorem Qap{t:TypeId}{x:Operand}{v:A}{d:TypeDesc}(k:o.op=.makeInterface t x)(h:∀w,(underlying t).run P w=.ok d w)(j:∀m,d≠ .interface m)(f:opA env x=v):OpV P o env H (.iface t v):=by
 intro g i σ N a w r;have e:=Qu r x;rw[f]at e;refine⟨.iface t (a.eval x),?_,_,rfl,e⟩
 simp_all[execOp,Instr.makeInterface]
end
mutual
def Yq:A->Bool
 |.ptr _ _=>false
 |.osl _ _ _ _=>false
 |.map _=>false
 |.agg cs=>Yw cs
 |.fn _ a c=>Yw a&&Yw c
 |.iface _ v=>Yq v
 |.tup vs=>Yw vs
 |_=>true
def Yw:List A->Bool
 |[]=>true
 |a::r=>Yq a&&Yw r
end
mutual
theorem VR.data{ro:Nat->Prop}{σ σ':Sig}{w:World}:∀{a:A} {v:Value},Yq a=true->VR ro σ w a v->VR ro σ' w a v
 |.any,_,_,_=>trivial
 |.bool b,v,_,q=>q
 |.int k n,v,_,q=>q
 |.str s,v,_,q=>q
 |.nilp,v,_,q=>q
 |.ptr i off,v,d,q=>by simp[Yq]at d
 |.rp cs,v,_,q=>q
 |.nils,v,_,q=>q
 |.rsl k es,v,_,q=>q
 |.osl i o n k,v,d,q=>by simp[Yq]at d
 |.agg cs,v,d,q=>by
  simp only[VR,Yq]at q d⊢;obtain⟨l,h1,h2⟩:=q;exact⟨l,h1,LR.data d h2⟩
 |.fn f a c,v,d,q=>by
  simp only[VR,Yq,XW]at q d⊢;obtain⟨l,l',h1,h2,h3⟩:=q;exact⟨l,l',h1,LR.data d.1 h2,LR.data d.2 h3⟩
 |.nilf,v,_,q=>q
 |.iface t a,v,d,q=>by
  simp only[VR,Yq]at q d⊢;obtain⟨x,h1,h2⟩:=q;exact⟨x,h1,VR.data d h2⟩
 |.nilif,v,_,q=>q
 |.map i,v,d,q=>by simp[Yq]at d
 |.nilm,v,_,q=>q
 |.tup vs,v,d,q=>by
  simp only[VR,Yq]at q d⊢;obtain⟨l,h1,h2⟩:=q;exact⟨l,h1,LR.data d h2⟩
theorem LR.data{ro:Nat->Prop}{σ σ':Sig}{w:World}:∀{az:List A} {l:List Value},Yw az=true->LR ro σ w az l->LR ro σ' w az l
 |[],_,_,q=>q
 |a::r,l,d,q=>by
  simp only[LR,Yw,XW]at q d⊢;obtain⟨v,l',h1,h2,h3⟩:=q;exact⟨v,l',h1,VR.data d.1 h2,LR.data d.2 h3⟩
end
def Yr:A->Bool
 |.any|.agg _|.tup _=>false
 |_=>true
def Yd:A->List A
 |.agg cs=>cs
 |a=>[a]
def Yn:A->Bool
 |.any=>false
 |_=>true
theorem VR.plain{ro:Nat->Prop}{σ:Sig}{w:World}{a:A}{v:Value}(d:Yr a=true)(h:VR ro σ w a v):QA v:=by
 cases a<;>first|(simp[Yr]at d)|skip
 case rsl k es=>obtain⟨e,c,rfl,_⟩:=h;trivial
 case osl=>rcases h with⟨_,rfl⟩|⟨_,_,_,_,_,_,rfl,_⟩<;>trivial
 case fn=>obtain⟨_,_,rfl,_⟩:=h;trivial
 case iface=>obtain⟨_,rfl,_⟩:=h;trivial
 case ptr=>obtain⟨_,_,rfl⟩:=h;trivial
 case rp=>obtain⟨_,_,rfl,_⟩:=h;trivial
 case map=>obtain⟨_,_,rfl⟩:=h;trivial
 all_goals (subst h;trivial)
theorem VR.cells{ro:Nat->Prop}{σ:Sig}{w:World}{a:A}{v:Value}(e:Yn a=true)(h:VR ro σ w a v):∃l:List Value,v.cells=l.toArray/\LR ro σ w (Yd a) l:=by
 cases a
 case any=>simp[Yn]at e
 case agg cs=>obtain⟨l,rfl,h⟩:=h;exact⟨l,rfl,h⟩
 case tup cs=>obtain⟨l,rfl,h⟩:=h;exact⟨[.tuple l.toArray],rfl,_,_,rfl,⟨l,rfl,h⟩,rfl⟩
 all_goals
  have d:=h.plain rfl;refine⟨[v],?_,v,[],rfl,h,rfl⟩;cases v<;>first|rfl|exact d.elim
theorem LR.plain{ro:Nat->Prop}{σ:Sig}{w:World}:∀{az:List A} {l:List Value},az.all Yr=true->LR ro σ w az l->∀v∈l,QA v
 |[],l,_,h=>by cases(show l=[]from h);simp
 |a::az,l,hp,⟨v,l',h1,h2,h3⟩=>by
  subst h1;simp only[List.all_cons,XW]at hp;intro x hx;rcases X6.1 hx with rfl|hx
  .exact h2.plain hp.1
  .exact LR.plain hp.2 h3 x hx
theorem Yk(w:World)(obj:Obj)(b:Nat)(a:b<w.heap.size):(w.alloc obj).heap[b]?=w.heap[b]? :=by
 show(w.heap.push obj)[b]?=_
 grind
theorem Yu(w:World)(obj:Obj):(w.alloc obj).heap[w.heap.size]?=some obj:=by
 show(w.heap.push obj)[w.heap.size]?=_;simp
theorem YV(w:World)(obj:Obj):(w.alloc obj).heap.size=w.heap.size+1:=by
 simp
theorem Qkt{w:World}{b:Nat}{x:TypeId×Nat}(h:w.shape? b=some x):b<w.heap.size:=by
 grind[World.shape?]
theorem Qm.alloc{fr ro:Nat->Prop}{w:World}(obj:Obj)(hro:∀b,ro b->b<w.heap.size)(hfr:∀b,fr b->b<w.heap.size):Qm fr ro w ro (w.alloc obj):=
 ⟨λ_ h=>h,λb h=>Yk w obj b (hro b h),λb h=>Yk w obj b (hfr b h),by simp,
  λb x h=>by grind[World.shape?,Yk],rfl,rfl,rfl,XT _⟩
section
variable {P:Program} {o:Oper} {env:Env} {H:Qd} {fr ro:Nat->Prop} {σ:Sig} {w:World}
theorem Sim.alloc(s:Sim fr ro σ H w){obj:Obj}{x:Blk}(J:BR ro (σ++[some w.heap.size]) (w.alloc obj) x (some w.heap.size))
  (u:∀c,Hid (w.alloc obj) x w.heap.size c->False:=by exact λ_ h=>h.elim):
  Sim fr ro (σ++[some w.heap.size]) (H++[x]) (w.alloc obj):=by
 have ev:Qm fr ro w ro (w.alloc obj):=Qm.alloc obj s.roLt s.frLt;have m:=s.len;have e:∀(i:Nat) (y:Option Nat),(σ++[some w.heap.size])[i]?=some y->(i<σ.length/\σ[i]?=some y)\/(i=σ.length/\y=some w.heap.size):=by
  grind
 have k:∀i:Nat,i<σ.length->(H++[x])[i]?=H[i]? :=λi G=>XM (by omega);have F:(H++[x])[σ.length]?=some x:=by rw[m];simp
 refine⟨by simp[m],s.roOk.to (λ_ q=>q) ev.keepRo (λb h=>?_),λb h=>?_,s.roFr,?_,?_,?_,?_⟩
 .rw[YV];have:=s.roLt b h;omega
 .rw[YV];have:=s.frLt b h;omega
 .intro i b y f g p;rw[YV];rcases e i _ f with⟨q,f⟩|⟨rfl,l⟩
  .rw[k i q]at g;obtain⟨a,b,c⟩:=s.own i b y f g p
   grind
  .cases l;exact⟨by omega,λq=>by have:=s.roLt _ q;omega,λq=>by have:=s.frLt _ q;omega⟩
 .intro i j b y z f g p t B E;rcases e i _ f with⟨q,f⟩|⟨rfl,l⟩<;>rcases e j _ g with⟨q',g⟩|⟨rfl,e2⟩
  .rw[k i q]at p;rw[k j q']at t;exact s.inj i j b y z f g p t B E
  .cases e2;rw[k i q]at p;have:=(s.own i _ y f p B).1;omega
  .cases l;rw[k j q']at t;have:=(s.own j _ z g t E).1;omega
  .rfl
 .intro i y z f g;rcases e i _ f with⟨q,f⟩|⟨rfl,l⟩
  .rw[k i q]at g;refine(s.blk i y z f g).keep (ev.ext σ _) ?_ ?_
   .rintro b rfl m;exact Yk w obj b (s.own i b z f g m).1
   .rintro b c rfl m;exact Yk w obj c (s.hid i b z c f g m).lt
  grind
 .refine s.hidTo (· = ·) Yb (by rw[YV];omega) (λ_ _ _ _ _ _ _ q=>q) (λ_ _ _ _ _ _ _ q=>q) λj d y r n L=>?_;rcases e j _ r with⟨q,r⟩|⟨rfl,l⟩
  .rw[k j q]at n;exact .inl ⟨j,y,rfl,r,n,id,λc q=>s.hidKeep r n (λz=>Yk w obj d (s.own j d y r n z).1) ev.keepRo q⟩
  .rw[F]at n;cases n;cases l;exact .inr ⟨XT _,u⟩
theorem Sim.allocCells(s:Sim fr ro σ H w){t:Nat}{cs:List A}{l:List Value}(h:LR ro σ w cs l)(hp:∀v∈l,QA v):
  Sim fr ro (σ++[some w.heap.size]) (H++[.cells t cs]) (w.alloc (.cells l.toArray t)):=
 s.alloc ⟨l,Yu _ _,h.mono ((Qm.alloc _ s.roLt s.frLt).ext σ _),hp⟩
theorem Qhy{ro:Nat->Prop}{σ:Sig}{w:World}:∀{az bs:List A} {l:List Value},LR ro σ w (az++bs) l->∃l1 l2,l=l1++l2/\LR ro σ w az l1/\LR ro σ w bs l2
 |[],bs,l,h=>⟨[],l,rfl,rfl,h⟩
 |a::az,bs,l,⟨v,l',h1,h2,h3⟩=>by
  obtain⟨l1,l2,e,q1,q2⟩:=Qhy h3;subst h1 e;exact⟨v::l1,l2,rfl,⟨v,l1,rfl,h2,q1⟩,q2⟩
def allK(k:Nat):List (List A)->Prop
 |[]=>True
 |c::es=>c.length=k/\allK k es
theorem Qae{k:Nat}:∀{es:List (List A)} {l rest:List Value},allK k es->LR ro σ w es.flatten l->(∀v∈l,QA v)->RL ro σ w k es (l++rest)
 |[],_,_,_,_,_=>trivial
 |c::es,l,rest,⟨h1,h2⟩,h,hp=>by
  obtain⟨l1,l2,rfl,q1,q2⟩:=Qhy h;exact⟨l1,l2++rest,by simp,h1,(by grind),Qae h2 q2 (by grind)⟩
theorem Sim.allocRow(s:Sim fr ro σ H w){t k:Nat}{es:List (List A)}{l rest:List Value}(hk:allK k es)(h:LR ro [] w es.flatten l)(hp:∀v∈l,QA v):
  Sim fr ro (σ++[some w.heap.size]) (H++[.row t k es]) (w.alloc (.cells (l++rest).toArray t)):=
 s.alloc ⟨l++rest,Yu _ _,(Qae hk h hp).mono ((Qm.alloc _ s.roLt s.frLt).ext0 [])⟩
theorem OpH.box{t:Nat}{x:Operand}{v:A}{f:List A}(q:o.op=.box t x)(n:opA env x=v)(j:Yn v=true)(d:Yd v=f)(g:f.all Yr=true):
  OpH P o env H (.ptr H.length 0) (H++[.cells t f]):=by
 intro p k σ N a w r;have h:=Qu r x;rw[n]at h;obtain⟨l,m,i⟩:=h.cells j;subst d;refine⟨.pointer (some ⟨w.heap.size,0,none⟩),w.alloc (.cells l.toArray t),k,[some w.heap.size],?_,⟨w.heap.size,?_,rfl⟩,r.sim.allocCells i (i.plain g),Qm.alloc _ r.sim.roLt r.sim.frLt⟩
 .generalize a.eval=ρ at*;have e:(newVar t (ρ x)).run P w=.ok ⟨w.heap.size,0,none⟩ (w.alloc (.cells l.toArray t)):=by
   unfold newVar;rw[m];rfl
  simp_all[execOp,Instr.box]
 .rw[<- r.sim.len];simp
theorem Sim.set(s:Sim fr ro σ H w){i b:Nat}{x x':Blk}{obj:Obj}(hσ:σ[i]?=some (some b))(r:H[i]?=some x)(p:x.live=true)
  (R:∀y,w.shape? b=some y->({w with heap:=w.heap.setIfInBounds b obj}:World).shape? b=some y)
  (G:Ext ro σ w ro σ {w with heap:=w.heap.setIfInBounds b obj}->({w with heap:=w.heap.setIfInBounds b obj}:World).heap[b]?=some obj->BR ro σ {w with heap:=w.heap.setIfInBounds b obj} x' (some b))
  (Q:∀c,Hid {w with heap:=w.heap.setIfInBounds b obj} x' b c->Hid w x b c:=by exact λ_ h=>h.elim):
  Sim fr ro σ (H.set i x') {w with heap:=w.heap.setIfInBounds b obj}/\Qm fr ro w ro {w with heap:=w.heap.setIfInBounds b obj}:=by
 obtain⟨X,O,P⟩:=s.own i b x hσ r p;have m:∀c,c≠b->({w with heap:=w.heap.setIfInBounds b obj}:World).heap[c]?=w.heap[c]? :=by
  grind
 have F:({w with heap:=w.heap.setIfInBounds b obj}:World).heap[b]?=some obj:=by
  grind
 have l:({w with heap:=w.heap.setIfInBounds b obj}:World).heap.size=w.heap.size:=by simp
 have ev:Qm fr ro w ro {w with heap:=w.heap.setIfInBounds b obj}:=
  ⟨λ_ h=>h,(by grind),(by grind),by omega,by
   grind[World.shape?],rfl,rfl,rfl,XT _⟩
 have Y:i<H.length:=(by grind);have T:(H.set i x')[i]?=some x':=(by grind);have a:∀j,j≠i->(H.set i x')[j]?=H[j]? :=(by grind);have L:=G (ev.ext0 σ) F;refine⟨⟨by rw[X4];exact s.len,s.roOk.to (λ_ q=>q) ev.keepRo (λc h=>by rw[l];exact s.roLt c h),λc h=>by rw[l];exact s.frLt c h,s.roFr,?_,?_,?_,?_⟩,ev⟩
 .intro j c y g f t;rw[l];by_cases q:j=i
  .grind
  .rw[a j q]at f;exact s.own j c y g f t
 .intro j k c y z g f t B M N;by_cases q:j=i
  .subst q;rw[hσ]at g;cases g;by_cases u:k=j
   .exact u.symm
   .rw[a k u]at B;exact s.inj j k _ x z hσ f r B p N
  .rw[a j q]at t;by_cases u:k=i
   .subst u;rw[hσ]at f;cases f;exact s.inj j k _ y x g hσ t r M p
   .rw[a k u]at B;exact s.inj j k c y z g f t B M N
 .intro j y z g f;by_cases q:j=i
  .grind
  .rw[a j q]at f;refine(s.blk j y z g f).keep (ev.ext0 σ) ?_ ?_
   .rintro c rfl n;exact m c (λe=>q (s.inj j i b z x (e▸g) hσ f r n p))
   .rintro c d rfl V;exact m d ((s.hid j c z d g f V).ne i b x hσ r p)
 .refine s.hidTo (· = ·) Yb (by omega) (λ_ _ _ _ _ _ _ q=>q) (λ_ _ _ _ _ _ _ q=>q) λj d y J E W=>.inl ?_;by_cases q:j=i
  .grind
  .rw[a j q]at E;exact⟨j,y,rfl,J,E,id,λc z=>s.hidKeep J E (λn=>m d (λe=>q (s.inj j i b y x (e▸J) hσ E r n p))) ev.keepRo z⟩
def splice{α:Type}(l:List α)(o:Nat)(vs:List α):List α:=l.take o++vs++l.drop (o+vs.length)
theorem YB{α:Type}{l:List α}{o:Nat}{vs:List α}(h:o+vs.length<=l.length):(splice l o vs).length=l.length:=by
 simp[splice];omega
theorem Qde{h:Array Obj}{b:Nat}{f:Obj->Obj}{x:Obj}(a:h[b]?=some x):h.modify b f=h.setIfInBounds b (f x):=by
 grind
theorem YI{b t:Nat}:∀{vs l:List Value} {w:World} (a i:Nat),w.heap[b]?=some (.cells l.toArray t (0,0))->a+i+vs.length<=l.length->(∀v∈vs,QA v)->
  (storeCells ⟨b,a,none⟩ vs i).run P w=.ok () {w with heap:=w.heap.setIfInBounds b (.cells (splice l (a+i) vs).toArray t (0,0))}
 |[],l,w,a,i,hb,hl,hp=>by
  have e:w.heap.setIfInBounds b (.cells (splice l (a+i) []).toArray t (0,0))=w.heap:=by
   apply Array.ext_getElem?;intro j;rw[Ve];by_cases q:b=j
   .subst q;obtain⟨d,m⟩:=Vc.1 hb;simp[d,splice,m]
   grind
  rw[e];rfl
 |v::vs,l,w,a,i,hb,hl,hp=>by
  simp only[X0]at hl;have r:=hp v (by simp);have k:w.cell? ⟨b,a+i,none⟩=some l[a+i]:=by
   simp[World.cell?,hb]
  have g:w.frozen? ⟨b,a+i,none⟩=false:=by
   simp[World.frozen?,hb]
  have f:w.setCell ⟨b,a+i,none⟩ v={w with heap:=w.heap.setIfInBounds b (.cells (splice l (a+i) [v]).toArray t (0,0))}:=by
   unfold World.setCell;rw[Qde hb];simp only[Option.isSome_none,Xi,if_false];congr 3;have:l.toArray.setIfInBounds (a+i) v=(l.set (a+i) v).toArray:=by simp
   rw[this];congr 1;rw[List.set_eq_take_append_cons_drop,Vs (by omega)];simp[splice]
  have d:b<w.heap.size:=by
   grind
  have n:=YI (vs:=vs) (l:=splice l (a+i) [v]) (w:={w with heap:=w.heap.setIfInBounds b (.cells (splice l (a+i) [v]).toArray t (0,0))}) a (i+1)
   (by show(w.heap.setIfInBounds b _)[b]?=_;rw[Ve,Vs rfl,Vs d])
   (by rw[YB (by simp;omega)];omega) (by grind)
  have z:splice (splice l (a+i) [v]) (a+(i+1)) vs=splice l (a+i) (v::vs):=by
   have h:(l.take (a+i)).length=a+i:=by simp;omega
   unfold splice;rw[Vi (l.take (a+i))];have x:a+(i+1)=(l.take (a+i)).length+1:=by omega
   have u:(l.take (a+i)++([v]++l.drop (a+i+[v].length))).take ((l.take (a+i)).length+1)=l.take (a+i)++[v]:=by
    grind
   have y:(l.take (a+i)++([v]++l.drop (a+i+[v].length))).drop ((l.take (a+i)).length+1+vs.length)=l.drop (a+i+(v::vs).length):=by
    rw[show(l.take (a+i)).length+1+vs.length=(l.take (a+i)).length+(1+vs.length)from by omega,Va];simp[Nat.add_comm 1];omega
   simp_all
  have p:(w.heap.setIfInBounds b (.cells (splice l (a+i) [v]).toArray t (0,0))).setIfInBounds b (.cells (splice (splice l (a+i) [v]) (a+(i+1)) vs).toArray t (0,0))=
    w.heap.setIfInBounds b (.cells (splice l (a+i) (v::vs)).toArray t (0,0)):=by
   grind
  rw[p]at n;have s:(Go.store ⟨b,a+i,none⟩ v).run P w=.ok () {w with heap:=w.heap.setIfInBounds b (.cells (splice l (a+i) [v]).toArray t (0,0))}:=by
   rw[<- f];cases v<;>first|exact r.elim|simp[Go.store,Sem.run,k,g,go_sem]
  simp_all[storeCells,QaO]
theorem QaE{w:World}{b t:Nat}{l l':List Value}(e:w.heap[b]?=some (.cells l.toArray t (0,0)))(d:l'.length=l.length)(y:TypeId×Nat)(h:w.shape? b=some y):
  {w with heap:=w.heap.setIfInBounds b (.cells l'.toArray t (0,0))}.shape? b=some y:=by
 have a:b<w.heap.size:=by
  grind
 simp_all[World.shape?]
theorem LR.splice{ro:Nat->Prop}{σ:Sig}{w:World}{az vs:List A}{l m:List Value}(a:Nat)(h:LR ro σ w az l)(k:LR ro σ w vs m):LR ro σ w (Sw.splice az a vs) (Sw.splice l a m):=by
 unfold Sw.splice;rw[k.length];exact((h.take a).append k).append (h.drop _)
theorem Qeo{l m:List Value}{a:Nat}(h:∀v∈l,QA v)(k:∀v∈m,QA v):∀v∈Sw.splice l a m,QA v:=by
 grind[Sw.splice]
theorem OpU.store{t n i off T:Nat}{x y:Operand}{j vs d:List A}{v:A}(ho:o.op=.store t x y)(W:opA env x=.ptr i off)(G:H[i]?=some (.cells T j))(Y:∀w,(sizeOf t).run P w=.ok n w)
  (q:opA env y=v)(Q:Yn v=true)(R:Yd v=vs)(O:vs.length=n)(B:vs.all Yr=true)(F:Nat.ble (off+n) j.length=true)(s:splice j off vs=d):
  OpU P o env H (H.set i (.cells T d)):=by
 intro fr V σ N a w r;have f:=Qu r x;rw[W]at f;obtain⟨b,f,h2⟩:=f;have J:=Qu r y;rw[q]at J;obtain⟨m,X,h⟩:=J.cells Q;rw[R]at h;obtain⟨l,z,p,M⟩:=r.sim.blk i _ _ f G;have k:off+n<=j.length:=by simp_all
 have u:m.length=n:=by rw[h.length,O]
 have E:=YI (P:=P) off 0 z (by rw[p.length,u];omega) (h.plain B);have g:=r.sim.set (x':=.cells T d) f G rfl
  (λy q=>QaE z (YB (by rw[p.length,u];omega)) y q)
  (λe L=>⟨_,L,s▸(p.splice off h).mono e,Qeo M (h.plain B)⟩)
 refine⟨_,V,[],?_,by grind,g.2⟩
 simp_all[storeVar,execOp,Instr.storeAt,Instr.sureAddr]
theorem RL.splice{ro:Nat->Prop}{σ:Sig}{w:World}{k:Nat}:∀{e:Nat} {es:List (List A)} {l m:List Value} {c a:List A} {f:Nat},RL ro σ w k es l->es[e]?=some c->LR ro σ w a m->(∀v∈m,QA v)->f+a.length<=k->
  RL ro σ w k (es.set e (Sw.splice c f a)) (Sw.splice l (e*k+f) m)
 |_,[],_,_,_,_,_,_,h,_,_,_=>by simp at h
 |0,c0::es,l,m,c,a,f,⟨l1,l2,h1,h2,h3,h4⟩,hc,hm,hp,hf=>by
  simp at hc;subst hc h1;have hl1:=h3.1.length;refine⟨Sw.splice l1 f m,l2,?_,?_,⟨h3.1.splice f hm,Qeo h3.2 hp⟩,h4⟩
  .unfold Sw.splice;simp[Nat.zero_mul,Xw,Vi];rw[X7 (by omega),X8 (by rw[hm.length];omega)]
  .rw[YB (by omega)];exact h2
 |e+1,c0::es,l,m,c,a,f,⟨l1,l2,h1,h2,h3,h4⟩,hc,hm,hp,hf=>by
  subst h1;have hl1:=h3.1.length;refine⟨l1,Sw.splice l2 (e*k+f) m,?_,h2,h3,RL.splice h4 (by grind) hm hp hf⟩;have e1:(e+1)*k+f=l1.length+(e*k+f):=by grind
  unfold Sw.splice;rw[e1,Vb,show l1.length+(e*k+f)+m.length=l1.length+(e*k+f+m.length)from by omega,Va];simp
theorem RL.length{ro:Nat->Prop}{σ:Sig}{w:World}{k:Nat}:∀{es:List (List A)} {l:List Value},RL ro σ w k es l->es.length*k<=l.length
 |[],l,_=>by simp
 |c::es,l,⟨l1,l2,h1,h2,h3,h4⟩=>by
  have:=RL.length h4;have:=h3.1.length
  grind[Nat.succ_mul]
theorem Qgo{t n i off T k e f:Nat}{x y:Operand}{es d:List (List A)}{c vs B:List A}{v:A}(ho:o.op=.store t x y)(W:opA env x=.ptr i off)(M:H[i]?=some (.row T k es))(hs:∀w,(sizeOf t).run P w=.ok n w)
  (g:off=e*k+f)(X:es[e]?=some c)(s:opA env y=v)(Y:Yn v=true)(hv:Yd v=vs)(V:vs.length=n)(F:vs.all Yr=true)(hd:Yw vs=true)(hf:Nat.ble (f+n) k=true)
  (u:splice c f vs=B)(z:es.set e B=d):
  OpU P o env H (H.set i (.row T k d)):=by
 intro fr ro σ N a w r;have h:=Qu r x;rw[W]at h;obtain⟨b,h,h2⟩:=h;have O:=Qu r y;rw[s]at O;obtain⟨m,h4,p⟩:=O.cells Y;rw[hv]at p;obtain⟨l,E,G⟩:=r.sim.blk i _ _ h M;have Q:f+n<=k:=by simp_all
 have hm:m.length=n:=by rw[p.length,V]
 have R:e<es.length:=(by grind);have L:off+n<=l.length:=by
  have:=G.length;have h6:=XC k R
  grind
 have J:=YI (P:=P) off 0 E (by omega) (p.plain F);have j:=r.sim.set (x':=.row T k d) (obj:=.cells (splice l off m).toArray T (0,0)) h M rfl
  (λy s=>QaE E (YB (by omega)) y s)
  (λex q=>⟨_,q,by
   subst z u g;exact(G.splice X (p.data hd) (p.plain F) (by omega)).mono ex.nil⟩)
 refine⟨_,ro,[],?_,by grind,j.2⟩
 simp_all[storeVar,execOp,Instr.storeAt,Instr.sureAddr]
end
section
variable {P:Program} {o:Oper} {env:Env} {H:Qd} {fr ro:Nat->Prop} {σ:Sig} {w:World}
theorem Ext.heap{w':World}(h:w'.heap=w.heap):Ext ro σ w ro σ w':=
 ⟨λ_ q=>q,λb _=>by rw[h],λb x q=>by unfold World.shape? at q⊢;grind,λ_ _ q=>q⟩
theorem Sim.heap{w':World}(s:Sim fr ro σ H w)(h:w'.heap=w.heap):Sim fr ro σ H w':=
 ⟨s.len,s.roOk.to (λ_ q=>q) (λb _=>by rw[h]) (λb q=>by rw[h];exact s.roLt b q),λb q=>by rw[h];exact s.frLt b q,s.roFr,λi b x q1 q2 q3=>by rw[h];exact s.own i b x q1 q2 q3,s.inj,
  λi y x q1 q2=>(s.blk i y x q1 q2).keep (Ext.heap h) (by grind) (by grind),
  s.hidTo (· = ·) Yb (by grind) (by simp) (by simp) λj d y g1 g2 g3=>.inl ⟨j,y,rfl,g1,g2,id,λc q=>q.keep (by rw[h])⟩⟩
theorem Qm.heap{w':World}(h:w'.heap=w.heap)(ho:w'.os=w.os)(ht:w'.tape=w.tape)(hu:w'.output=w.output)(hd:w.drawn<=w'.drawn):Qm fr ro w ro w':=
 ⟨λ_ q=>q,λb _=>by rw[h],λb _=>by rw[h],by grind,λb x q=>by unfold World.shape? at q⊢;grind,ho,ht,hu,hd⟩
theorem Sim.moved(s:Sim fr ro σ H w){i:Nat}{x:Blk}{y:Option Nat}(p:H[i]?=some x)(hσ:σ[i]?=some y):Sim fr ro (σ++[y]) (H.set i .dead++[x]) w:=by
 have G:=s.len;have Q:i<H.length:=(by grind);have a:∀(j:Nat) (z:Option Nat) (v:Blk),(σ++[y])[j]?=some z->(H.set i .dead++[x])[j]?=some v->v≠ .dead->
   (j<σ.length/\j≠i/\σ[j]?=some z/\H[j]?=some v)\/(j=σ.length/\z=y/\v=x):=by
  grind
 have hσ':∀(j:Nat) (b:Nat),σ[j]?=some (some b)->(σ++[y])[j]?=some (some b):=(by grind);have ext:Ext ro σ w ro (σ++[y]) w:=⟨λ_ q=>q,λ_ _=>rfl,λ_ _ q=>q,hσ'⟩;refine⟨by simp[G],s.roOk,s.frLt,s.roFr,?_,?_,?_,s.hidTo (λj u=>(j<σ.length/\j≠i/\u=j)\/(j=σ.length/\u=i)) (by omega) (XT _) (by simp) (by simp) λj d y N L J=>.inl ?_⟩
 rotate_left 3
 .rcases a j _ y N L (Qgu J)with⟨O,M,e,f⟩|⟨O,n,rfl⟩
  .grind
  grind
 .intro j b v h g k;rcases a j _ v h g (Qbw k)with⟨_,_,e,f⟩|⟨_,n,rfl⟩
  .exact s.own j b v e f k
  .subst n;exact s.own i b v hσ p k
 .intro j t b v l h g k E r m;rcases a j _ v h k (Qbw r)with⟨_,P,e,f⟩|⟨R,n,F⟩<;>rcases a t _ l g E (Qbw m)with⟨_,n1',q1',q2'⟩|⟨r1',e1',r2'⟩
  .exact s.inj j t b v l e q1' f q2' r m
  .subst e1' r2';exact(P (s.inj j i b v l e hσ f p r m)).elim
  .subst n F;exact(n1' (s.inj t i b l v q1' hσ q2' p m r)).elim
  omega
 .intro j z v h g;by_cases B:v≠ .dead
  .rcases a j z v h g B with⟨_,_,e,f⟩|⟨_,rfl,rfl⟩
   .exact(s.blk j z v e f).keep ext (λ_ _ _=>rfl) (λ_ _ _ _=>rfl)
   .exact(s.blk i _ _ hσ p).keep ext (λ_ _ _=>rfl) (λ_ _ _ _=>rfl)
  .obtain rfl:v=.dead:=Classical.not_not.1 B;trivial
def Src(P:Program)(H:Qd)(x:A)(k:Nat)(es:List (List A)):Prop:=
 ∀fr ro σ w v,Sim fr ro σ H w->VR ro σ w x v->(∃a c,v=.slice a es.length c)/\allK k es/\
  ∃l,(∀w':World,w'.heap=w.heap->(Builtin.firstCells k es.length v).run P w'=.ok l.toArray w')/\LR ro [] w es.flatten l/\ ∀v∈l,QA v
theorem RR.flat{b k:Nat}:∀{es:List (List A)} {a:Nat},RR ro σ w b k es a->CR ro σ w b es.flatten a/\allK k es/\es.flatten.length=es.length*k
 |[],a,_=>⟨trivial,trivial,by simp⟩
 |c::es,a,⟨h1,h2,h3⟩=>by
  obtain⟨q1,q2,q3⟩:=RR.flat h3;refine⟨?_,⟨h1,q2⟩,by grind⟩;have:∀(c:List A) (a:Nat) (d:List A),CR ro σ w b c a->CR ro σ w b d (a+c.length)->CR ro σ w b (c++d) a:=by
   intro c
   induction c with
   |nil=>simp
   |cons x c e=>intro a d ⟨h1,h2⟩ h;exact⟨h1,e (a+1) d h2 (by grind)⟩
  grind
theorem Qda{b a k n c:Nat}{d:List A}(h:CR ro σ w b d a)(i:d.length=n*k):
  ∃l,(∀w',w'.heap=w.heap->(Builtin.firstCells k n (.slice (some ⟨b,a,none⟩) n c)).run P w'=.ok l.toArray w')/\LR ro σ w d l/\ ∀v∈l,QA v:=by
 obtain⟨l,e,f,g⟩:=Yv (P:=P) 0 (by simpa using h)
 grind[Builtin.firstCells,loadCells]
theorem QaK{k c:Nat}{a:Option Addr}:(Builtin.firstCells k 0 (.slice a 0 c)).run P w=.ok #[] w:=by
 cases a<;>simp[go_sem]
theorem Src.rsl{k:Nat}{es:List (List A)}:Src P H (.rsl k es) k es:=by
 intro j l σ w v s ⟨a,c,h1,h2,h3⟩;subst h1;refine⟨⟨a,c,rfl⟩,?_⟩;rcases h3 with rfl|⟨b,f,rfl,i,h⟩
 .exact⟨trivial,[],λ_ _=>QaK,rfl,by simp⟩
 .obtain⟨g,d,e⟩:=h.flat;exact⟨d,Qda g e⟩
theorem Src.nils{k:Nat}:Src P H .nils k []:=by
 intro a d σ w v s h;subst h;exact⟨⟨none,0,rfl⟩,trivial,[],λ_ _=>QaK,rfl,by simp⟩
theorem RR.drop{b k:Nat}:∀(n:Nat) {es:List (List A)} {off:Nat},RR ro σ w b k es off->RR ro σ w b k (es.drop n) (off+n*k)
 |0,_,_,h=>by simpa using h
 |n+1,[],_,_=>trivial
 |n+1,c::es,off,⟨h1,h2,h3⟩=>by
  have:=RR.drop n h3
  grind
theorem RR.take{b k:Nat}:∀(n:Nat) {es:List (List A)} {off:Nat},RR ro σ w b k es off->RR ro σ w b k (es.take n) off
 |0,_,_,h=>trivial
 |n+1,[],_,_=>trivial
 |n+1,c::es,off,⟨h1,h2,h3⟩=>⟨h1,h2,RR.take n h3⟩
theorem Src.osl{i s n k t:Nat}{es a:List (List A)}(u:H[i]?=some (.row t k es))(he:(es.drop s).take n=a)(B:s+n<=es.length):Src P H (.osl i s n k) k a:=by
 intro F G σ w v sm h;have q:a.length=n:=by grind
 rcases h with⟨rfl,rfl⟩|⟨b,p,d,x,m,r,rfl,J,z,E,M⟩
 .have e:a=[]:=(by grind);subst e;exact⟨⟨none,0,rfl⟩,trivial,[],λ_ _=>QaK,rfl,by simp⟩
 .rw[q];refine⟨⟨_,d,rfl⟩,?_⟩;obtain⟨l,g,f⟩:=sm.blk i _ _ r u;have j:=((YS (pre:=[]) (by simpa using g) f).drop s).take n;by_cases L:0<d
  .obtain⟨g,f,y⟩:=j.flat
   simp_all[Qda]
  .obtain rfl:n=0:=by omega
   have e:a=[]:=(by grind);subst e;exact⟨trivial,[],λ_ _=>QaK,rfl,by simp⟩
def Ys:Nat:=4294967296
theorem QdN(n c:Nat)(h:c<n):Builtin.nextslicecap n c<=4*n+1000:=by
 grind[Builtin.nextslicecap,Builtin.growBy]
structure Q7 (P:Program) (T e k:Nat):Prop where
 sl:∀w,(underlying T).run P w=.ok (.slice e) w
 size:∀w,(sizeOf e).run P w=.ok k w
 zero:∃z,(∀w,(zeroValue e).run P w=.ok z w)/\z.cells.size=k
 bytes:∃i,(∀w,(typeInfo e).run P w=.ok i w)/\i.bytes<=4096
theorem Qhx{T k:Nat}{es:List (List A)}{l rest:List Value}(s:Sim fr ro σ H w)(hk:allK k es)(h:LR ro [] w es.flatten l)(hp:∀v∈l,QA v):
  Sim fr ro (σ++[some w.heap.size]) (H++[.row T k es]) (w.alloc (.cells (l++rest).toArray T))/\Qm fr ro w ro (w.alloc (.cells (l++rest).toArray T)):=
 ⟨s.allocRow hk h hp,Qm.alloc _ s.roLt s.frLt⟩
theorem YW{k:Nat}:∀{es:List (List A)},allK k es->es.flatten.length=es.length*k
 |[],_=>by simp
 |c::es,⟨h1,h2⟩=>by simp[YW h2,h1,Xm,Nat.add_comm]
theorem QdH{k:Nat}:∀{es fs:List (List A)},allK k es->allK k fs->allK k (es++fs)
 |[],_,_,h=>h
 |c::es,_,⟨h1,h2⟩,h=>⟨h1,QdH h2 h⟩
theorem QfJ{k:Nat}:∀{es:List (List A)} (n:Nat),allK k es->allK k (es.take n)
 |_,0,_=>trivial
 |[],n+1,_=>trivial
 |c::es,n+1,⟨h1,h2⟩=>⟨h1,QfJ n h2⟩
theorem RL.allK{k:Nat}:∀{es:List (List A)} {l:List Value},RL ro σ w k es l->allK k es
 |[],_,_=>trivial
 |c::es,l,⟨l1,l2,h1,h2,h3,h4⟩=>⟨h2,RL.allK h4⟩
theorem RL.app{k:Nat}:∀{n:Nat} {es fs:List (List A)} {l m:List Value},RL ro σ w k es l->n<=es.length->Sw.allK k fs->LR ro σ w fs.flatten m->(∀v∈m,QA v)->
  RL ro σ w k (es.take n++fs) (Sw.splice l (n*k) m)
 |0,es,fs,l,m,h,hn,hk,hm,hp=>by
  simp_all[Sw.splice,Qae]
 |n+1,[],fs,l,m,h,hn,hk,hm,hp=>by simp at hn
 |n+1,c::es,fs,l,m,⟨l1,l2,h1,h2,h3,h4⟩,hn,hk,hm,hp=>by
  subst h1;have hl1:=h3.1.length;refine⟨l1,Sw.splice l2 (n*k) m,?_,h2,h3,RL.app h4 (by grind) hk hm hp⟩;have e1:(n+1)*k=l1.length+n*k:=by grind
  unfold Sw.splice;rw[e1,Vb,show l1.length+n*k+m.length=l1.length+(n*k+m.length)from by omega,Va];simp
theorem Qku{T T' e e' k need cap:Nat}{t:TypeId}(E:Q7 P T e k)(N:∀w,(underlying T').run P w=.ok (.slice e') w){ad:Option Addr}{n m c:Nat}{ax:Option Addr}
  (f:need=n+m)(h:cap<need)(a:need<=Ys){old new:List Value}
  (s:∀w':World,w'.heap=w.heap->(Builtin.firstCells k m (.slice ax m c)).run P w'=.ok new.toArray w')(y:∀w':World,w'.heap=w.heap->(Builtin.firstCells k n (.slice ad n cap)).run P w'=.ok old.toArray w'):
  ∃(rest:List Value) (d:Nat),(need<=d/\d<=9223372036854775807)/\rest.length=(d-need)*k/\(Builtin.append_ #[T,T'] t #[.slice ad n cap,.slice ax m c]).run P w=
   .ok (.slice (some ⟨w.heap.size,0,none⟩) need d) (({w with drawn:=w.drawn+1}:World).alloc (.cells ((old++new)++rest).toArray e)):=by
 obtain⟨z,O,r⟩:=E.zero;obtain⟨i,M,J⟩:=E.bytes
 let d:=need+w.tape w.drawn (.appendCap need cap e)%(2^63-need)
 refine⟨(Builtin.zeroCells z.cells (d-need)).toList,d,⟨Nat.le_add_right _ _,by
  have:=Nat.mod_lt (w.tape w.drawn (.appendCap need cap e)) (show 0<2^63-need by unfold Ys at a;omega);show need+_%(2^63-need)<=_;omega⟩,by simp[Builtin.zeroCells,r],?_⟩
 have g:¬(need<=cap):=by omega
 have u:¬((need:Int)>IntKind.i64.max/\(False\/i.bytes=0)):=by
  rintro⟨q,_⟩;have:IntKind.i64.max=9223372036854775807:=by decide
  rw[this]at q;unfold Ys at a;omega
 have L:¬(Builtin.nextslicecap need cap*i.bytes>2^48):=by
  have:=QdN need cap h;have B:=Nat.mul_le_mul this J;unfold Ys at a;omega
 generalize hF:Builtin.firstCells=F at s y;unfold Builtin.append_;rw[hF];have l:∀W:World,(choose (.appendCap need cap e)).run P W=.ok (need+W.tape W.drawn (.appendCap need cap e)%(2^63-need)) {W with drawn:=W.drawn+1}:=by
  intro W;simp[choose,Sem.run,Question.forced,Question.cut]
 have p:∀(x:Nat) (W:World),(askRoom x).run P W=.ok () W:=by
  intro x W;unfold askRoom;split<;>rfl
 have j:∀(c:Array Value) (W:World),(newRow e c).run P W=.ok ⟨W.heap.size,0,none⟩ (W.alloc (.cells c e)):=λc W=>rfl;subst f;simp only[not_and,false_or]at u;have B:¬(((n+m:Nat):Int)>IntKind.i64.max/\(False\/i.bytes=0)):=by simpa using u
 simp only[XG,XE,XF,Vm,E.sl,E.size,N,M,O,Result.andThen,Builtin.lenOf,Vn,Xi,if_false,XH,
  Xh,if_true,Vr g,Vr B,Vr L,l,p]
 have G:=y {w with drawn:=w.drawn+1} rfl;have H:=s {w with drawn:=w.drawn+1} rfl;simp only[G,H,j];have Q:old.toArray++new.toArray++Builtin.zeroCells z.cells (d-(n+m))=((old++new)++(Builtin.zeroCells z.cells (d-(n+m))).toList).toArray:=by
  apply Xv.1;simp
 rw[<- Q]
theorem QgF{T T' e e' k cap:Nat}{t:TypeId}(E:Q7 P T e k)(g:∀w,(underlying T').run P w=.ok (.slice e') w){ad:Option Addr}{n m c:Nat}{ax:Option Addr}
  (d:n+m<=cap){new:List Value}(f:(Builtin.firstCells k m (.slice ax m c)).run P w=.ok new.toArray w):
  (Builtin.append_ #[T,T'] t #[.slice ad n cap,.slice ax m c]).run P w=
   match ad with
   |some a=>(do storeCells (a.add (n*k)) new;pure (Value.slice ad (n+m) cap):Sem Value).run P w
   |none=>.ok (.slice ad (n+m) cap) w:=by
 generalize hF:Builtin.firstCells=F at f;unfold Builtin.append_;rw[hF];simp only[XG,XE,XF,Vm,E.sl,E.size,g,Result.andThen,Builtin.lenOf,Vn,Xi,if_false,XH,
  Xh,if_true,Vs d,f]
 cases ad with
 |none=>rfl
 |some a=>simp only[Vm,Result.andThen,Vn]
theorem Sim.weaken(s:Sim fr ro σ H w){i:Nat}{x x':Blk}(G:H[i]?=some x)(M:x.live=true)(m:∀y,BR ro σ w x y->BR ro σ w x' y)
  (z:∀b c,Hid w x' b c->Hid w x b c:=by exact λ_ _ h=>h.elim):Sim fr ro σ (H.set i x') w:=by
 have a:∀(j:Nat) (v:Blk),(H.set i x')[j]?=some v->(j=i/\v=x')\/(j≠i/\H[j]?=some v):=by
  grind
 have r:∀(j:Nat) (v:Blk),(H.set i x')[j]?=some v->v.live=true->∃f,H[j]?=some f/\f.live=true:=by
  grind
 refine⟨by rw[X4];exact s.len,s.roOk,s.frLt,s.roFr,?_,?_,?_,s.hidTo (· = ·) Yb (XT _) (by simp) (by simp) λj d y L O N=>.inl ?_⟩
 rotate_left 3
 .grind
 .intro j b v e g q;obtain⟨f,l,p⟩:=r j v g q;exact s.own j b f e l p
 .intro j t b v f e g q B J E;obtain⟨u,l,p⟩:=r j v q J;obtain⟨F,n,k⟩:=r t f B E;exact s.inj j t b u F e g l n p k
 .intro j y v e g;rcases a j v g with⟨rfl,rfl⟩|⟨_,h⟩
  .exact m y (s.blk j y x e G)
  .exact s.blk j y v e h
theorem RL.take{k:Nat}:∀(n:Nat) {es:List (List A)} {l:List Value},RL ro σ w k es l->RL ro σ w k (es.take n) l
 |0,_,_,_=>trivial
 |n+1,[],_,_=>trivial
 |n+1,c::es,l,⟨l1,l2,h1,h2,h3,h4⟩=>⟨l1,l2,h1,h2,h3,RL.take n h4⟩
theorem QaV{c:Call}{T T':TypeId}{x y:Operand}(a:o.op=.call c)(d:c={callee:=.builtin .append,args:= #[x,y],argTypes:= #[T,T']})(ρ:Operand->Value){v:Value}{w':World}
  (h:(Builtin.append_ #[T,T'] o.type #[ρ x,ρ y]).run P w=.ok v w'):(execOp ρ o).run P w=.ok (.value v) w':=by
 simp_all[execOp,resolve,invoke,Go.builtin]
theorem Sim.phantom(s:Sim fr ro σ H w)(t k:Nat):Sim fr ro (σ++[none]) (H++[.row t k []]) w:=by
 have g:=s.len;have f:∀(i b:Nat),(σ++[none])[i]?=some (some b)->i<σ.length:=by
  grind
 refine⟨by simp[g],s.roOk,s.frLt,s.roFr,?_,?_,?_,s.hidTo (· = ·) Yb (XT _) (by simp) (by simp) λj d y a e h=>.inl ?_⟩
 rotate_left 3
 .grind
 .intro i b z a e h;have q:=f i b a;rw[XM q]at a;rw[XM (by omega)]at e;exact s.own i b z a e h
 .intro i j b z m a e h l B p;have x:=f i b a;have r:=f j b e;rw[XM x]at a;rw[XM r]at e;rw[XM (by omega)]at h l;exact s.inj i j b z m a e h l B p
 .intro i y z a e;have ext:Ext ro σ w ro (σ++[none]) w:=⟨λ_ q=>q,λ_ _=>rfl,λ_ _ q=>q,(by grind)⟩;rcases Nat.lt_trichotomy i σ.length with q|q|q
  .rw[XM q]at a;rw[XM (by omega)]at e;exact(s.blk i y z a e).keep ext (λ_ _ _=>rfl) (λ_ _ _ _=>rfl)
  .subst q;have n:(σ++[none])[σ.length]?=some none:=by simp
   have u:(H++[Blk.row t k []])[σ.length]?=some (.row t k []):=by grind
   rw[n]at a;rw[u]at e;cases a;cases e;rfl
  grind
theorem Sim.kill(s:Sim fr ro σ H w)(i:Nat):Sim fr ro σ (H.set i .dead) w:=by
 have a:∀(j:Nat) (v:Blk),(H.set i .dead)[j]?=some v->v≠ .dead->H[j]?=some v:=by
  grind
 refine⟨by rw[X4];exact s.len,s.roOk,s.frLt,s.roFr,?_,?_,?_,s.hidTo (· = ·) Yb (XT _) (by simp) (by simp) λj d y u t r=>.inl ⟨j,y,rfl,u,a j y t (Qgu r),id,λ_ q=>q⟩⟩
 .intro j b v e f g;exact s.own j b v e (a j v f (Qbw g)) g
 .intro j h b v k e f g p l n;exact s.inj j h b v k e f (a j v g (Qbw l)) (a h k p (Qbw n)) l n
 .intro j y v e f;by_cases m:v≠ .dead
  .exact s.blk j y v e (a j v f m)
  .obtain rfl:v=.dead:=Classical.not_not.1 m;trivial
theorem grown{c:Call}{T T' e e' k n m cap cx:Nat}{x y:Operand}{es fs:List (List A)}{a:Act}{ad ax:Option Addr}{old new:List Value}(E:Q7 P T e k)(R:∀w,(underlying T').run P w=.ok (.slice e') w)(Q:o.op=.call c)
  (hc:c={callee:=.builtin .append,args:= #[x,y],argTypes:= #[T,T']})(M:a.eval x=.slice ad n cap)(O:a.eval y=.slice ax m cx)(s:Sim fr ro σ H w)(i:cap<n+m)(g:n+m<=Ys)
  (f:∀w',w'.heap=w.heap->(Builtin.firstCells k n (.slice ad n cap)).run P w'=.ok old.toArray w')(h:∀w',w'.heap=w.heap->(Builtin.firstCells k m (.slice ax m cx)).run P w'=.ok new.toArray w')
  (q:LR ro [] w es.flatten old)(N:∀v∈old,QA v)(p:allK k es)(l:LR ro [] w fs.flatten new)(X:∀v∈new,QA v)(r:allK k fs)(Y:es.length=n)(z:fs.length=m):
  ∃v w' ro' τ,(execOp a.eval o).run P w=.ok (.value v) w'/\VR ro' (σ++τ) w' (.osl H.length 0 (n+m) k) v/\Sim fr ro' (σ++τ) (H++[.row e k (es++fs)]) w'/\Qm fr ro w ro' w':=by
 obtain⟨d,W,u,B,j⟩:=Qku E R rfl i g h f
 let w0:={w with drawn:=w.drawn+1}
 have V:Sim fr ro σ H w0:=s.heap rfl;have e0:Qm fr ro w ro w0:=Qm.heap rfl rfl rfl rfl (Nat.le_succ _);have t:LR ro [] w0 (es++fs).flatten (old++new):=by
  rw[List.flatten_append];exact(q.append l).mono (Ext.heap (w:=w) rfl)
 obtain⟨L,J⟩:=Qhx V (QdH p r) t (λv hv=>by grind);have hexec:=QaV Q hc a.eval (by rw[M,O];exact j);refine⟨_,_,ro,[some w.heap.size],hexec,.inr ⟨w.heap.size,0,W,e,(old++new++d).length,?_,rfl,λ_=>by simp,u,?_,?_⟩,L,e0.trans J⟩
 .rw[<- s.len];simp
 .have:=Yu w0 (.cells ((old++new)++d).toArray e);unfold World.shape?
  grind
 .have F:=q.length;have G:=l.length;rw[YW p]at F;rw[YW r]at G;simp[X3,B,F,G,z];rw[<- XA, <- XA]
  grind
theorem Qhv{c:Call}{T T' e e' k i n:Nat}{x y:Operand}{ya:A}{es fs gs:List (List A)}(E:Q7 P T e k)(hd:∀w,(underlying T').run P w=.ok (.slice e') w)(Q:o.op=.call c)
  (L:c={callee:=.builtin .append,args:= #[x,y],argTypes:= #[T,T']})(hx:opA env x=.osl i 0 n k)(hH:H[i]?=some (.row e k es))(hn:n<=es.length)(u:opA env y=ya)(hs:Src P H ya k fs)(g:n+fs.length<=Ys)
  (hg:es.take n++fs=gs):OpH P o env H (.osl H.length 0 (n+fs.length) k) (H.set i .dead++[.row e k gs]):=by
 intro fr z σ N a w r;subst hg;have j:=Qu r x;rw[hx]at j;have h2:=Qu r y;rw[u]at h2;obtain⟨⟨ay,cy,e1⟩,X,l,J,q4,W⟩:=hs fr z σ w _ r.sim h2;rw[e1]at J;have h:i<H.length:=(by grind);have af:(H.set i .dead).length=H.length:=X4;obtain⟨s,hσ⟩:∃s,σ[i]?=some s:=⟨_,XK (by rw[r.sim.len];exact h)⟩;rcases j with⟨rfl,j⟩|⟨b,p,cap,t',mm,R,j,V,h5,G,h7⟩
 ·
  by_cases hm:fs.length=0
  .have q:fs=[]:=(by grind);subst q;refine⟨.slice none 0 0,w,z,[none],?_,.inl ⟨rfl,rfl⟩,(r.sim.kill i).phantom e k,Qm.refl _ _ _⟩;refine QaV Q L _ ?_;rw[j,e1];have:=QgF (t:=o.type) E hd (ad:=none) (n:=0) (m:=0) (cap:=0) (c:=cy) (ax:=ay) (XT 0) (J w rfl);omega
  .have:=grown (es:=[]) (old:=[]) E hd Q L j e1 (r.sim.kill i) (by omega) g (λ_ _=>QaK) J rfl (by simp) trivial q4 W X rfl rfl
   grind
 .have F:=r.sim.blk i _ _ R hH;obtain⟨M,O,Y⟩:=F;have ac:(es.take n).length=n:=by simp;omega
  obtain⟨old,o1,o2,o3⟩:∃old:List Value,(∀w':World,w'.heap=w.heap->(Builtin.firstCells k n (.slice (some ⟨b,p,none⟩) n cap)).run P w'=.ok old.toArray w')/\LR z [] w (es.take n).flatten old/\ ∀v∈old,QA v:=by
   have B:Src P H (.osl i 0 n k) k (es.take n):=Src.osl hH (by simp) (by omega);obtain⟨_,_,l',z1,z2,z3⟩:=B fr z σ w (.slice (some ⟨b,p,none⟩) n cap) r.sim (.inr ⟨b,p,cap,t',mm,R,rfl,V,h5,G,h7⟩)
   grind
  by_cases f:n+fs.length<=cap
  .have ae:=QgF (t:=o.type) E hd (ad:=some ⟨b,p,none⟩) (n:=n) (m:=fs.length) (cap:=cap) (c:=cy) (ax:=ay) f (J w rfl);have ah:l.length=fs.length*k:=by rw[q4.length,YW X]
   by_cases hm:fs.length=0
   .have q:fs=[]:=(by grind);subst q;have el:l=[]:=(by simp_all);subst el;have sw:=(r.sim.weaken (x':=.row e k (es.take n)) hH rfl (by
     intro y u;cases y with
     |none=>simp only[BR]at u⊢;grind
     |some y=>obtain⟨M,O,Y⟩:=u;exact⟨M,O,Y.take n⟩))
    have sm:=sw.moved (i:=i) (Xa h) R;rw[List.set_set]at sm;refine⟨.slice (some ⟨b,p,none⟩) n cap,w,z,[some b],?_,.inr ⟨b,p,cap,t',mm,?_,by simp,V,by omega,G,h7⟩,by grind,Qm.refl _ _ _⟩
    .refine QaV Q L _ ?_
     simp_all[storeCells]
    .rw[<- r.sim.len];simp
   .obtain rfl:p=0*k:=V (by omega);have aa:(n+fs.length)*k<=M.length:=by
     have:w.shape? b=some (e,M.length):=by unfold World.shape?;rw[O];simp
     rw[this]at G;cases G;exact XV (XC k f) (by grind)
    rw[XA]at aa;have ag:=YI (P:=P) (vs:=l) (n*k) 0 O (by omega) W;have d:=r.sim.set (x':=.row e k (es.take n++fs)) (obj:=.cells (splice M (n*k) l).toArray e (0,0)) R hH rfl
     (λy u=>QaE O (YB (by omega)) y u)
     (λex ab=>⟨_,ab,(Y.app hn X q4 W).mono ex.nil⟩)
    have sm:=d.1.moved (i:=i) (Xa h) R;rw[List.set_set]at sm;refine⟨.slice (some ⟨b,0*k,none⟩) (n+fs.length) cap,_,z,[some b],?_,.inr ⟨b,0*k,cap,t',mm,?_,rfl,V,⟨f,h5.2⟩,?_,h7⟩,sm,d.2⟩
    .refine QaV Q L _ ?_
     simp_all[QaO]
    .rw[<- r.sim.len];simp
    .exact d.2.shape _ _ G
  .have:=grown (es:=es.take n) (old:=old) (fs:=fs) E hd Q L j e1 (r.sim.kill i) (by omega) g o1 J o2 o3 (QfJ n Y.allK) q4 W X ac rfl
   grind
end
section
variable {P:Program} {o:Oper} {env:Env} {H:Qd}
theorem OpC.fn{c:Call}{f:FuncId}{xs:List Operand}{g:Array TypeId}{args:List A}(d:∀(a:Array Value) (w:World),(callFunc f a).run P w=.ok (.enter f a) w)(k:o.op=.call c)
  (l:c={callee:=.value (.func f),args:=xs.toArray,argTypes:=g})(h:xs.map (opA env)=args):OpC P o env H f args:=by
 intro i j σ N a w r;refine⟨xs.map a.eval,?_,h▸Qbe r xs⟩;have e:a.eval (.func f)=.func (.func f) #[] #[]:=rfl
 grind[execOp,resolve,Deferred.ofValue,invoke]
theorem Qgp{c:Call}{f:FuncId}{x:Operand}{xs:List Operand}{i:Array TypeId}{args g h:List A}(e:∀(a:Array Value) (w:World),(callFunc f a).run P w=.ok (.enter f a) w)(u:o.op=.call c)
  (q:c={callee:=.value x,args:=xs.toArray,argTypes:=i})(j:opA env x=.fn (.func f) g h)(p:g++(xs.map (opA env)++h)=args):OpC P o env H f args:=by
 intro s t σ N a w r;have d:=Qu r x;rw[j]at d;obtain⟨l,k,d,m,n⟩:=d;refine⟨l++(xs.map a.eval++k),?_,p▸m.append ((Qbe r xs).append n)⟩
 grind[execOp,resolve,Deferred.ofValue,invoke]
def QbY(ρ:Nat->Nat)(env:Env):Env->Prop
 |[]=>True
 |(s,a)::r=>lk env s=YM ρ a/\QbY ρ env r
theorem QbY.ok{ro:Nat->Prop}{σ σ':Sig}{w:World}{ρ:Nat->Nat}(h:∀i,σ[ρ i]?=σ'[i]?){t:Array Value}(r:∀s,VR ro σ w (lk env s) (t.getD s undef)):
  ∀{f:Env},QbY ρ env f->∀s,VR ro σ' w (lk f s) (t.getD s undef)
 |[],_,s=>trivial
 |(d,a)::e,⟨h1,h2⟩,s=>by
  simp only[lk];by_cases q:s=d
  .grind[Nat.beq_refl,Qcv]
  .have:Nat.beq s d=false:=by
    simp_all[VL]
   rw[this];exact QbY.ok h r h2 s
theorem Sim.sub{fr ro:Nat->Prop}{σ:Sig}{w:World}{π:List Nat}{H':Qd}(s:Sim fr ro σ H w)(B:π.map (λp=>H[p]?)=(H'.map (QZ (rho π H.length))).map some)(hπ:π.Nodup):
  Sim fr ro (YE σ π) H' w/\ ∀j:Nat,σ[rho π H.length j]?=(YE σ π)[j]? :=by
 have J:∀p∈π,p<H.length:=λp q=>Jd B q;have hσl:=s.len;have N:∀(j p:Nat),π[j]?=some p->H[p]?=(H'[j]?).map (QZ (rho π H.length)):=by
  intro j p e;have:=congrArg (λl=>l[j]?) B
  grind
 have h:π.length=H'.length:=by simpa using congrArg List.length B
 have hσc:∀j:Nat,σ[rho π H.length j]?=(YE σ π)[j]? :=by
  intro j;have:=QdT (τ:=[]) hσl J j
  grind
 have hπj:∀(j b:Nat),(YE σ π)[j]?=some (some b)->∃p,π[j]?=some p/\σ[p]?=some (some b):=by
  intro j b e;simp only[YE,Xo]at e
  grind
 have hπi:∀(i j p:Nat),π[i]?=some p->π[j]?=some p->i=j:=by
  intro i j p g a;have u:i<π.length:=(by grind);have e:j<π.length:=(XL.1 a).1;rw[XK u]at g;rw[XK e]at a;have k:=(XZ g).trans (XZ a).symm;rcases Nat.lt_trichotomy i j with q|q|q
  .exact(VD.1 hπ i j u e q k).elim
  .exact q
  .exact(VD.1 hπ j i e u q k.symm).elim
 refine⟨⟨by simp[YE,h],s.roOk,s.frLt,s.roFr,?_,?_,?_,s.hidTo (λj p=>π[j]?=some p) hπi (XT _) (λ_ _ _ _ _ _ _ q=>q) (λ_ _ _ _ _ _ _ q=>q) λj d y M P O=>.inl ?_⟩,hσc⟩
 rotate_left 3
 .obtain⟨p,g,f⟩:=hπj j d M;exact⟨p,QZ (rho π H.length) y,g,f,by grind,by rw[QK];exact id,λc q=>(Qal _ _ _ _ _).2 q⟩
 .intro j b x n r E;obtain⟨p,g,f⟩:=hπj j b n;have m:H[p]?=some (QZ (rho π H.length) x):=by grind
  exact s.own p b _ f m (by rw[QK];exact E)
 .intro i j b x y n r E Q G L;obtain⟨p,g,f⟩:=hπj i b n;obtain⟨F,a,z⟩:=hπj j b r;have m:H[p]?=some (QZ (rho π H.length) x):=by grind
  have t:H[F]?=some (QZ (rho π H.length) y):=by grind
  have:=s.inj p F b _ _ f z m t (by rw[QK];exact G) (by rw[QK];exact L)
  grind
 .intro j y x n r;have e:j<π.length:=by
   grind
  have g:π[j]?=some π[j]:=XK e;have m:H[π[j]]?=some (QZ (rho π H.length) x):=by grind
  have f:σ[π[j]]?=some y:=by
   grind[rho]
  exact(Qgw hσc).1 (s.blk _ y _ f m)
theorem QnQ{f:Nat}{d:Env}{H':Qd}(π:List Nat)(e:π.take f=List.range f)(g:π.map (λp=>H[p]?)=(H'.map (QZ (rho π H.length))).map some)(hπ:π.Nodup)
  (hE:QbY (rho π H.length) env d):Le f env H d H':=by
 intro k i σ N a w r;obtain⟨h,hσ⟩:=r.sim.sub g hπ;refine⟨i,YE σ π,⟨h,QbY.ok hσ r.env hE,r.size,r.defers⟩,λ_ q=>q,?_⟩;have j:=r.sim.len;have l:∀p∈π,p<H.length:=λp q=>Jd g q;unfold YE;rw[<- List.map_take,e];apply List.ext_getElem?
 grind
theorem Le.phantom{f s k t:Nat}(g:f<=H.length)(h:lk env s=.nils):Le f env H (up env s (.osl H.length 0 0 k)) (H++[.row t k []]):=by
 intro i e σ N a w r;refine⟨e,σ++[none],⟨r.sim.phantom t k,?_,r.size,r.defers⟩,λ_ q=>q,QS (by rw[r.sim.len];exact g)⟩;have ext:Ext e σ w e (σ++[none]) w:=⟨λ_ q=>q,λ_ _=>rfl,λ_ _ q=>q,(by grind)⟩;intro d;simp only[lk];by_cases q:d=s
 .subst q;rw[VE];have:=r.env d;rw[h]at this;exact .inl ⟨rfl,this⟩
 .have:Nat.beq d s=false:=by
   simp_all[VL]
  rw[this];exact(r.env d).mono ext
theorem QmT{f s k:Nat}(g:lk env s=.nils):Le f env H (up env s (.rsl k [])) H:=by
 intro h e σ N a w r;refine⟨e,σ,⟨r.sim,?_,r.size,r.defers⟩,λ_ q=>q,rfl⟩;intro d;simp only[lk];by_cases q:d=s
 .subst q;rw[VE];have:=r.env d;rw[g]at this;exact⟨none,0,this,XT _,.inl rfl⟩
 .have:Nat.beq d s=false:=by
   simp_all[VL]
  rw[this];exact r.env d
mutual
def Ya:A->Bool
 |.bool _=>true
 |.int _ _=>true
 |.str _=>true
 |.tup vs=>QdU vs
 |_=>false
def QdU:List A->Bool
 |[]=>true
 |a::r=>Ya a&&QdU r
end
mutual
theorem VR.scalar{ro ro':Nat->Prop}{σ σ':Sig}{w w':World}:∀{a:A} {v:Value},Ya a=true->VR ro σ w a v->VR ro' σ' w' a v
 |.bool _,_,_,h=>h
 |.int _ _,_,_,h=>h
 |.str _,_,_,h=>h
 |.tup vs,v,hs,h=>by
  simp only[VR,Ya]at h hs⊢;obtain⟨l,h1,h2⟩:=h;exact⟨l,h1,LR.scalar hs h2⟩
 |.any,_,hs,_=>by simp[Ya]at hs
 |.nilp,_,hs,_=>by simp[Ya]at hs
 |.ptr _ _,_,hs,_=>by simp[Ya]at hs
 |.rp _,_,hs,_=>by simp[Ya]at hs
 |.nils,_,hs,_=>by simp[Ya]at hs
 |.rsl _ _,_,hs,_=>by simp[Ya]at hs
 |.osl _ _ _ _,_,hs,_=>by simp[Ya]at hs
 |.agg _,_,hs,_=>by simp[Ya]at hs
 |.fn _ _ _,_,hs,_=>by simp[Ya]at hs
 |.nilf,_,hs,_=>by simp[Ya]at hs
 |.iface _ _,_,hs,_=>by simp[Ya]at hs
 |.nilif,_,hs,_=>by simp[Ya]at hs
 |.map _,_,hs,_=>by simp[Ya]at hs
 |.nilm,_,hs,_=>by simp[Ya]at hs
theorem LR.scalar{ro ro':Nat->Prop}{σ σ':Sig}{w w':World}:∀{az:List A} {l:List Value},QdU az=true->LR ro σ w az l->LR ro' σ' w' az l
 |[],_,_,h=>h
 |a::r,l,hs,h=>by
  simp only[LR,QdU,XW]at h hs⊢;obtain⟨v,l',h1,h2,h3⟩:=h;exact⟨v,l',h1,VR.scalar hs.1 h2,LR.scalar hs.2 h3⟩
end
def Look(H:Qd):A->A->Prop:=λa a'=>(a'=a/\Yq a=true)\/ ∃i n k t es,a=.osl i 0 n k/\H[i]?=some (.row t k es)/\es.length=n/\a'=.rsl k es
def Qbh(H:Qd):List A->List A->Prop
 |[],[]=>True
 |a::az,b::bs=>Look H a b/\Qbh H az bs
 |_,_=>False
theorem QcT{h0 N:Nat}{Q:QG}{all:Array Oper}{l:List Oper}{d:Nat}{f:FuncId}{args B:List A}{Qr:A->Qd->Prop}(aa:OpC P o env H f args)(hv:Qbh H args B)(hC:C P f B [] Qr)
  (ad:∀r H1,Qr r H1->Ya r=true)(k:∀r H1,Qr r H1->WO P h0 N all l (up env d r) H Q)(hg:QI all o env true:=by exact rfl)(hd:o.dst=some d:=by exact rfl)(hN:Nat.blt d N=true:=by exact rfl):WO P h0 N all (o::l) env H Q:=by
 intro rd fr ro σ a w r hrd;obtain⟨X,h1,h2⟩:=aa fr ro σ N a w r;refine Qff (YO hg r) h1 ?_
 let roc:Nat->Prop:=λb=>ro b\/ ∃(i:Nat) (x:Blk),σ[i]?=some (some b)/\H[i]?=some x/\x.live=true
 let frc:Nat->Prop:=λb=>fr b\/ ∃(i:Nat) (x:Blk) (d:Nat),σ[i]?=some (some d)/\H[i]?=some x/\Hid w x d b
 have L:Sim frc roc [] [] w:=by
  refine⟨rfl,r.sim.roOk.to (λ_ q=>.inl q) (λ_ _=>rfl) ?_,?_,?_,by simp,by simp,by simp,by simp⟩
  .rintro b (q|⟨i,x,u,z,F⟩)
   .exact r.sim.roLt b q
   .exact(r.sim.own i b x u z F).1
  .rintro b (q|⟨i,x,d,u,z,F⟩)
   .exact r.sim.frLt b q
   .exact(r.sim.hid i d x b u z F).lt
  .rintro b (q|⟨i,x,u,z,F⟩) (q'|⟨i',x',d',W,V,O⟩)
   .exact r.sim.roFr b q q'
   .exact(r.sim.hid i' d' x' b W V O).ro q
   .exact(r.sim.own i b x u z F).2.2 q'
   .exact(r.sim.hid i' d' x' b W V O).ne i b x u z F rfl
 have G:∀(az E:List A) (l:List Value),Qbh H az E->LR ro σ w az l->LR roc [] w E l:=by
  intro az
  induction az with
  |nil=>
   intro E l J h;cases E with
   |nil=>exact h
   |cons b E=>exact J.elim
  |cons x az ih=>
   intro E l J h;cases E with
   |nil=>exact J.elim
   |cons y E=>
    obtain⟨hx,J⟩:=J;obtain⟨v,l',rfl,hv,h⟩:=h;refine⟨v,l',rfl,?_,ih E l' J h⟩;rcases hx with⟨rfl,hx⟩|⟨i,n,k,t,es,rfl,hH,hn,rfl⟩
    .exact(hv.data (σ':=[]) hx).mono ⟨λ_ q=>.inl q,λ_ _=>rfl,λ_ _ q=>q,λ_ _ q=>q⟩
    .subst hn;rcases hv with⟨h0,h⟩|⟨b,p,Y,t',m,h1,h,h2,⟨h3,ae⟩,h4,h5⟩
     .have:es=[]:=(by grind);subst this;exact⟨none,0,h,XT _,.inl rfl⟩
     .refine⟨_,Y,h,h3,?_⟩;by_cases he:es=[]
      .exact .inl he
      .right;have hc:0<Y:=Vf (by grind) h3;obtain rfl:=h2 hc;obtain⟨l,u,z⟩:=r.sim.blk i _ _ h1 hH;refine⟨b,0,by simp,.inr ⟨i,_,h1,hH,rfl⟩,?_⟩;have:=YS (pre:=[]) (by simpa using u) z;exact this.keep ⟨λ_ q=>.inl q,λ_ _=>rfl,λ_ _ q=>q,λ_ _ q=>q⟩ rfl
 refine Calls.mono (hC frc roc [] X w L (G _ _ _ hv h2)) ?_;rintro e R ⟨v,rr,H1,af,τ,rfl,hq,sc,ab,ev⟩;have T:∀(i b:Nat) (x:Blk),σ[i]?=some (some b)->H[i]?=some x->x.live=true->R.heap[b]?=w.heap[b]? :=λi b x u z F=>ev.keepRo b (by grind);have g:Qm fr ro w ro R:=⟨λ_ q=>q,λb q=>ev.keepRo b (.inl q),λb q=>ev.keepFr b (.inl q),ev.size,ev.shape,ev.os,ev.tape,ev.output,ev.drawn⟩;have M:Sim fr ro σ H R:=by
  refine⟨r.sim.len,r.sim.roOk.to (λ_ q=>q) g.keepRo (λb q=>Vf (r.sim.roLt b q) ev.size),λb q=>Vf (r.sim.frLt b q) ev.size,r.sim.roFr,?_,r.sim.inj,?_,r.sim.hidTo (· = ·) Yb ev.size (by simp) (by simp) λj d y g1 g2 g3=>.inl ⟨j,y,rfl,g1,g2,id,λc q=>r.sim.hidKeep g1 g2 (T j d y g1 g2) g.keepRo q⟩⟩
  .intro i b x u z F;obtain⟨p1,p2,p3⟩:=r.sim.own i b x u z F
   grind
  .intro i y x u z;refine(r.sim.blk i y x u z).keep (g.ext0 σ) ?_ ?_
   .grind
   .rintro b c rfl J;exact ev.keepFr c (by grind)
 have hk:=k rr H1 hq;have ac:d<N:=by simp_all
 simp only[hd,Act.put];have r':Rel fr ro σ H (up env d rr) N {a with tmps:=a.tmps.setIfInBounds d v} R:=
  ⟨M,VR.up (fr:=fr) (λs=>(r.env s).mono (g.ext0 σ)) (by rw[r.size];exact ac) (ab.scalar (ad _ _ hq)),by simpa using r.size,r.defers.keep g⟩
 exact⟨_,rfl,Yo (λe a w q=>q.step g rfl) _ _ _ (hk rd fr ro σ _ R r' (hrd.to g λ_ q=>q))⟩
end
section
variable {P:Program} {o:Oper} {env:Env} {H:Qd}
theorem Qfx{α:Type}:∀(vs:List α) (a i:Nat) (l:List α),a+i+vs.length<=l.length->
  (vs.zipIdx i).foldl (λcs x=>cs.setIfInBounds (a+x.2) x.1) l.toArray=(splice l (a+i) vs).toArray
 |[],a,i,l,h=>by simp[splice]
 |v::vs,a,i,l,h=>by
  simp[X0]at h;rw[List.zipIdx_cons,XD];have e1:l.toArray.setIfInBounds (a+i) v=(splice l (a+i) [v]).toArray:=by
   have:l.toArray.setIfInBounds (a+i) v=(l.set (a+i) v).toArray:=by simp
   rw[this];rw[List.set_eq_take_append_cons_drop,Vs (by omega)];simp[splice]
  rw[e1,Qfx vs a (i+1) _ (by grind)];have d:(l.take (a+i)).length=a+i:=by simp;omega
  unfold splice;have f:a+(i+1)=(l.take (a+i)).length+1:=by omega
  have g:(l.take (a+i)++([v]++l.drop (a+i+[v].length))).take ((l.take (a+i)).length+1)=l.take (a+i)++[v]:=by
   grind
  have e:(l.take (a+i)++([v]++l.drop (a+i+[v].length))).drop ((l.take (a+i)).length+1+vs.length)=l.drop (a+i+(v::vs).length):=by
   rw[show(l.take (a+i)).length+1+vs.length=(l.take (a+i)).length+(1+vs.length)from by omega,Va];simp[Nat.add_comm 1];omega
  simp_all
theorem Qfz{a:Nat->Option (Nat×Nat)}{l:List Value}{i d size:Nat}{v:Value}{m:List Value}{rest:List (Nat×Value)}(f:a i=some (d,size))(e:v.cells=m.toArray)(g:m.length=size)
  (h:d+size<=l.length):Instr.fill a l.toArray ((i,v)::rest)=Instr.fill a (splice l d m).toArray rest:=by
 rw[Instr.fill];simp[f];rw[Vr (by grind),e]
 simp_all[Qfx]
def QaU:Nat->List Operand->List (Nat×Operand)
 |_,[]=>[]
 |i,x::xs=>(i,x)::QaU (i+1) xs
def Yt(env:Env)(xs:List Operand):List (List A):=xs.map λx=>Yd (opA env x)
theorem Qex{fr ro:Nat->Prop}{σ:Sig}{N:Nat}{a:Act}{w:World}(r:Rel fr ro σ H env N a w){k:Nat}:∀(xs:List Operand) (j:Nat) (pre rest:List Value),pre.length=j*k->rest.length=xs.length*k->
  (xs.all λx=>Yn (opA env x))=true->allK k (Yt env xs)->
  ∃l,Instr.fill (λi=>some (i*k,k)) (pre++rest).toArray ((QaU j xs).map λp=>(p.1,a.eval p.2))=some (pre++l).toArray/\LR ro σ w (Yt env xs).flatten l
 |[],j,pre,rest,h1,h2,_,_=>by
  have:rest=[]:=(by simp_all);subst this;exact⟨[],rfl,rfl⟩
 |x::xs,j,pre,rest,h1,h2,h3,h4=>by
  simp only[List.all_cons,XW]at h3;obtain⟨hk1,hk2⟩:=h4;obtain⟨m,q1,q2⟩:=(Qu r x).cells h3.1;have hm:m.length=k:=by rw[q2.length];exact hk1
  simp[X0,Xm]at h2;simp[QaU,Vj];rw[Qfz rfl q1 hm (by simp;omega)];have e:splice (pre++rest) (j*k) m=(pre++m)++rest.drop k:=by
   unfold splice
   grind[List.drop_length_add_append]
  rw[e];obtain⟨l,d,f⟩:=Qex r xs (j+1) (pre++m) (rest.drop k) (by grind) (by simp;omega) h3.2 hk2;refine⟨m++l,?_,?_⟩
  .rw[d];simp
  .exact q2.append f
theorem QbG{fr ro:Nat->Prop}{σ:Sig}{N:Nat}{a:Act}{w:World}(r:Rel fr ro σ H env N a w){T e k n:Nat}{xs:List Operand}(E:Q7 P T e k)(s:xs.length=n)(y:Nat.ble (n*k) 16777216=true)
  (m:(xs.all λx=>Yn (opA env x))=true)(h:allK k (Yt env xs)):
  ∃l,(Instr.buildSlice T n (((QaU 0 xs).map λp=>(p.1,a.eval p.2)).toArray)).run P w=.ok (.slice (some ⟨w.heap.size,0,none⟩) n n) (w.alloc (.cells l.toArray e))/\LR ro σ w (Yt env xs).flatten l:=by
 obtain⟨z,t,u⟩:=E.zero;have g:n*k<=16777216:=by simp_all
 have q:∀(c:Array Value) (W:World),(newRow e c).run P W=.ok ⟨W.heap.size,0,none⟩ (W.alloc (.cells c e)):=λc W=>rfl;unfold Instr.buildSlice;by_cases j:n*k=0
 .obtain⟨l,f,d⟩:=Qex r (k:=k) xs 0 [] [] (by simp) (by grind) m h;refine⟨l,?_,d⟩;simp only[Vm,E.sl,Result.andThen,E.size,j]
  simp_all[Array.range]
 .obtain⟨l,f,d⟩:=Qex r (k:=k) xs 0 [] ((Array.range (n*k)).map (λi=>z.cells[i%z.cells.size]!)).toList (by simp) (by rw[s];simp) m h;refine⟨l,?_,d⟩;simp only[Vm,E.sl,Result.andThen,E.size,Vr j,XH,t];simp only[Vh]at f;rw[Array.toArray_toList]at f
  simp_all
theorem Qbx{T n:Nat}{xs:List Operand}(a:o.op=.buildSlice T n (QaU 0 xs).toArray)(ρ:Operand->Value){v:Value}{w w':World}
  (h:(Instr.buildSlice T n (((QaU 0 xs).map λp=>(p.1,ρ p.2)).toArray)).run P w=.ok v w'):(execOp ρ o).run P w=.ok (.value v) w':=by
 grind[execOp,Sem.run_bind,Result.andThen,Sem.run_pure]
theorem OpH.lit{T e k n:Nat}{xs:List Operand}{es:List (List A)}(E:Q7 P T e k)(B:o.op=.buildSlice T n (QaU 0 xs).toArray)(p:xs.length=n)(f:Nat.ble (n*(k+1)) 16777216=true)
  (z:(xs.all λx=>Yn (opA env x))=true)(i:Yt env xs=es)(g:allK k es)(y:es.flatten.all Yr=true)(t:Yw es.flatten=true):
  OpH P o env H (.osl H.length 0 n k) (H++[.row e k es]):=by
 intro G s σ N a w r;subst i;have d:=XR f;rw[Nat.mul_add]at d;obtain⟨l,u,j⟩:=QbG r E p (XS (by omega)) z g;have h:LR s [] w (Yt env xs).flatten l:=j.data t;obtain⟨q,m⟩:=Qhx r.sim g h (j.plain y);rw[Vg]at q m;have F:l.length=n*k:=by rw[j.length,YW g];simp[Yt,p]
 refine⟨_,_,s,[some w.heap.size],Qbx B a.eval u,.inr ⟨w.heap.size,0,n,e,l.length,?_,rfl,λ_=>by simp,(by omega),?_,by grind⟩,q,m⟩
 .rw[<- r.sim.len];simp
 .unfold World.shape?;rw[Yu];simp
theorem Jp{n:Int}{y:Nat}{c:BoundsCode}{w:World}(a:0<=n)(d:n<=y):(Instr.sliceBound (.int .i64 n) y c).run P w=.ok n.toNat w:=by
 simp_all[Instr.sliceBound,asIntOf]
theorem QfV{T e:Nat}{k:Nat}{w:World}(E1:∀w,(underlying T).run P w=.ok (.slice e) w)(E2:∀w,(sizeOf e).run P w=.ok k w){ad:Option Addr}{n cap:Nat}{lo hi:Option Value}{l h:Nat}(f:n<=cap)
  (a:lo=none/\l=0\/ ∃z:Int,lo=some (.int .i64 z)/\0<=z/\z.toNat=l)(d:hi=none/\h=n\/ ∃z:Int,hi=some (.int .i64 z)/\0<=z/\z.toNat=h)(g:l<=h)(j:h<=n):
  (Instr.sliceAt T (.slice ad n cap) lo hi none).run P w=.ok (.slice (if cap=l then ad else ad.map (·.add (l*k))) (h-l) (cap-l)) w:=by
 have m:(Instr.sliceBounds true n cap lo hi none).run P w=.ok (l,h,cap) w:=by
  rcases a with⟨rfl,rfl⟩|⟨z,rfl,i,rfl⟩<;>rcases d with⟨rfl,rfl⟩|⟨y,rfl,y0,rfl⟩
  .rfl
  .grind[Instr.sliceBounds,Sem.run_bind,Sem.run_pure,Result.andThen,Jp]
  .grind[Instr.sliceBounds,Sem.run_bind,Sem.run_pure,Result.andThen,Jp]
  .simp[Instr.sliceBounds,Vm,Vn,Result.andThen,Jp y0 (show y<=cap by omega),Jp i (show z<=y.toNat by omega)]
 simp_all[Instr.sliceAt,Instr.slice]
theorem Qa4{fr ro:Nat->Prop}{σ:Sig}{N:Nat}{a:Act}{w:World}(r:Rel fr ro σ H env N a w){x:Option Operand}{l d:Nat}(h:x=none/\l=d\/ ∃y,∃z:Int,x=some y/\opA env y=.int .i64 z/\0<=z/\z.toNat=l):
  x.map a.eval=none/\l=d\/ ∃z:Int,x.map a.eval=some (.int .i64 z)/\0<=z/\z.toNat=l:=by
 rcases h with⟨rfl,rfl⟩|⟨y,z,rfl,g,e,f⟩
 .simp
 grind[QU]
theorem QlM{T e k:Nat}{x:Operand}{lo hi:Option Operand}{es d:List (List A)}{l h:Nat}(E1:∀w,(underlying T).run P w=.ok (.slice e) w)(E2:∀w,(sizeOf e).run P w=.ok k w)(F:o.op=.slice T x lo hi none)
  (J:opA env x=.rsl k es)(p:lo=none/\l=0\/ ∃y,∃z:Int,lo=some y/\opA env y=.int .i64 z/\0<=z/\z.toNat=l)
  (n:hi=none/\h=es.length\/ ∃y,∃z:Int,hi=some y/\opA env y=.int .i64 z/\0<=z/\z.toNat=h)(m:l<=h)(u:h<=es.length)(s:(es.take h).drop l=d):OpV P o env H (.rsl k d):=by
 intro M O σ N a w r;subst s;have j:=Qu r x;rw[J]at j;obtain⟨ad,i,j,E,G⟩:=j;have f:=QfV (w:=w) E1 E2 (ad:=ad) E (Qa4 r p) (Qa4 r n) m u;have g:((es.take h).drop l).length=h-l:=by simp;omega
 refine⟨_,by simp[execOp,F,j,Vm,f,Xk];rfl,(⟨_,i-l,by rw[g],by omega,?_⟩)⟩;rcases G with rfl|⟨b,q,rfl,B,L⟩
 .simp
 .by_cases t:i=l
  .grind
  .right;exact⟨b,q+l*k,by rw[Vr t];simp[QaO],B,((L.take h).drop l)⟩
theorem QlN{T e k i s n:Nat}{x:Operand}{lo hi:Option Operand}{l h:Nat}(E1:∀w,(underlying T).run P w=.ok (.slice e) w)(E2:∀w,(sizeOf e).run P w=.ok k w)(F:o.op=.slice T x lo hi none)
  (O:opA env x=.osl i s n k)(t:lo=none/\l=0\/ ∃y,∃z:Int,lo=some y/\opA env y=.int .i64 z/\0<=z/\z.toNat=l)
  (j:hi=none/\h=n\/ ∃y,∃z:Int,hi=some y/\opA env y=.int .i64 z/\0<=z/\z.toNat=h)(g:l<=h)(E:h<=n):OpV P o env H (.osl i (s+l) (h-l) k):=by
 intro R V σ N a w r;have f:=Qu r x;rw[O]at f;rcases f with⟨rfl,f⟩|⟨b,p,u,B,m,f,Q,W,⟨M,L⟩,G,X⟩
 .have d:=QfV (P:=P) (w:=w) E1 E2 (ad:=none) (XT 0) (Qa4 r t) (Qa4 r j) g E;refine⟨_,by simp only[execOp,F,f,Vm,d,Xk];rfl,?_⟩;left
  grind
 .have d:=QfV (w:=w) E1 E2 (ad:=some ⟨b,p,none⟩) M (Qa4 r t) (Qa4 r j) g E;refine⟨_,by simp only[execOp,F,Q,Vm,d,Xk];rfl,?_⟩;right;by_cases J:u=l
  .refine⟨b,p,0,B,m,f,by grind,λq=>by omega,by omega,G,?_⟩
   grind
  .refine⟨b,p+l*k,u-l,B,m,f,by rw[Vr J];simp[QaO],λq=>by grind,by omega,G,?_⟩
   grind
theorem OpV.max{c:Call}{x y:Operand}{k:IntKind}{m n:Int}(i:o.op=.call c)(f:c={callee:=.builtin .max,args:= #[x,y],argTypes:=c.argTypes})(l:opA env x=.int k m)(g:opA env y=.int k n):
  OpV P o env H (.int k (if m<n then n else m)):=by
 intro p q σ N a w r;have h:=QU r l;have j:=QU r g;refine⟨_,?_,rfl⟩;generalize a.eval=ρ at*;have e:c.callee=.builtin .max:=by rw[f]
 have d:c.args= #[x,y]:=by rw[f]
 simp only[execOp,i,resolve,e,d,invoke,Vm,Result.andThen];simp[Builtin.max_,Builtin.max2,h,j,go_sem]
theorem OpV.min{c:Call}{x y:Operand}{k:IntKind}{m n:Int}(i:o.op=.call c)(f:c={callee:=.builtin .min,args:= #[x,y],argTypes:=c.argTypes})(l:opA env x=.int k m)(g:opA env y=.int k n):
  OpV P o env H (.int k (if n<m then n else m)):=by
 intro p q σ N a w r;have h:=QU r l;have j:=QU r g;refine⟨_,?_,rfl⟩;generalize a.eval=ρ at*;have e:c.callee=.builtin .min:=by rw[f]
 have d:c.args= #[x,y]:=by rw[f]
 simp only[execOp,i,resolve,e,d,invoke,Result.andThen];simp[Builtin.min_,Builtin.min2,h,j,go_sem]
end
section
variable {P:Program} {h0 N:Nat} {env:Env} {H:Qd} {Q:QG} {c c':Code}
def CutP(h0:Nat)(Eb:Env)(Hb:Qd)(Q:QG):QG
 |.normal,env,H=>Le h0 env H Eb Hb
 |.exit id,env,H=>Q (.exit id) env H
 |.ret,env,H=>Q .ret env H
theorem TC.cut(Eb:Env)(Hb:Qd)(h:TC P h0 N c env H (CutP h0 Eb Hb Q))(k:∀env H,Le h0 env H Eb Hb->Q .normal env H):TC P h0 N c env H Q:=
 h.mono λx env' H' q=>by
  cases x with
  |normal=>exact k _ _ q
  |exit id=>exact q
  |ret=>exact q
theorem seqN(h:TC P h0 N c env H Q):Seq P h0 N c Q .normal env H:=h
theorem seqX{id:Nat}(h:Q (.exit id) env H):Seq P h0 N c Q (.exit id) env H:=h
theorem seqR(h:Q .ret env H):Seq P h0 N c Q .ret env H:=h
theorem bloN{id:Nat}(h:Q .normal env H):Blo id Q .normal env H:=h
theorem bloE{id:Nat}(h:Q .normal env H):Blo id Q (.exit id) env H:=by simp_all[Blo]
theorem bloX{id a:Nat}(e:Nat.beq a id=false)(h:Q (.exit a) env H):Blo id Q (.exit a) env H:=by simp[Blo,e];exact h
theorem bloR{id:Nat}(h:Q .ret env H):Blo id Q .ret env H:=h
def QfP{S B:Type}(h0:Nat)(b:Ctl S B)(Eb:S->Env)(Hb:S->Qd)(Q:QG):QG
 |.normal,env,H=>∃s,b=.cont s/\Le h0 env H (Eb s) (Hb s)
 |.exit id,env,H=>Q (.exit id) env H
 |.ret,env,H=>Q .ret env H
theorem QmP{S B:Type}{b:Ctl S B}(Eb:S->Env)(Hb:S->Qd)(h:TC P h0 N c env H (QfP h0 b Eb Hb Q))(k:∀s env H,b=.cont s->Le h0 env H (Eb s) (Hb s)->Q .normal env H):TC P h0 N c env H Q:=
 h.mono λx env' H' q=>by
  cases x with
  |normal=>obtain⟨s,e,q⟩:=q;grind
  |exit id=>exact q
  |ret=>exact q
section
variable {S B:Type} {b:Ctl S B} {Eb:S->Env} {Hb:S->Qd}
theorem Yp{s:S}(e:b=.cont s)(h:Le h0 env H (Eb s) (Hb s)):QfP h0 b Eb Hb Q .normal env H:=⟨s,e,h⟩
theorem Ql(h:Q .ret env H):QfP h0 b Eb Hb Q .ret env H:=h
end
theorem QlH{x:Operand}{t:Bool}(hx:opA env x=.bool t)(h:t=true)(ht:TC P h0 N c env H Q):TC P h0 N (.cond x c c') env H Q:=TC.cond hx (λ_=>ht) (λq=>by grind)
theorem QlI{x:Operand}{t:Bool}(hx:opA env x=.bool t)(h:t=false)(hf:TC P h0 N c' env H Q):TC P h0 N (.cond x c c') env H Q:=TC.cond hx (λq=>by grind) (λ_=>hf)
section
variable {S B:Type} {I:S->Env->Qd->Prop}
theorem Qi{s:S}{d:Ctl S B}(e:some (Ctl.cont s)=some d)(h:I s env H):Qbg I d Q .normal env H:=⟨s,(by grind),h⟩
theorem Qk{id:Nat}{b:B}{d:Ctl S B}(e:some (Ctl.done b)=some d)(h:Q (.exit id) env H):Qbg I d Q (.exit id) env H:=⟨(by grind),h⟩
theorem Qp{b:B}{d:Ctl S B}(e:some (Ctl.done b)=some d)(h:Q .ret env H):Qbg I d Q .ret env H:=⟨(by grind),h⟩
end
end
theorem Yh{α β:Type}{x:Option α}{f:α->Option β}{r:β}(h:x.bind f=some r):∃a,x=some a/\f a=some r:=Option.bind_eq_some_iff.1 h
def idx{α:Type}(l:List α)(i:Int):Option α:=bif decide (0<=i)then l[i.toNat]? else none
theorem Qbm{α:Type}{l:List α}{i:Int}{x:α}(h:idx l i=some x):0<=i/\l[i.toNat]?=some x:=by
 grind[idx]
def app{α:Type}(l m:List α):Option (List α):=bif Nat.ble (l.length+m.length) Ys then some (l++m)else none
theorem QnL{α:Type}{l m r:List α}(h:app l m=some r):l.length+m.length<=Ys/\l++m=r:=by
 unfold app at h;cases q:Nat.ble (l.length+m.length) Ys with
 |true=>simp_all
 |false=>grind
def slc{α:Type}(l:List α)(lo hi:Int):Option (List α):=bif decide (0<=lo)&&decide (lo<=hi)&&decide (hi<=(l.length:Int))then some ((l.take hi.toNat).drop lo.toNat)else none
theorem Qc8{α:Type}{l r:List α}{lo hi:Int}(h:slc l lo hi=some r):0<=lo/\lo<=hi/\hi<=l.length/\(l.take hi.toNat).drop lo.toNat=r:=by
 grind[slc]
def Qc9{α:Type}(l:List α)(i:Int)(x:α):Option (List α):=bif decide (0<=i)&&decide (i<(l.length:Int))then some (l.set i.toNat x)else none
theorem Qf1{α:Type}{e:α->List A}{l:List α}{i:Nat}{x:α}(h:l[i]?=some x):(l.map e)[i]?=some (e x):=by simp[h]
section
variable {P:Program} {h0 N:Nat} {env:Env} {H H':Qd} {Q:QG} {all:Array Oper} {o:Oper} {l:List Oper} {d:Nat} {x:A}
theorem vV(a:OpV P o env H x)(k:WO P h0 N all l (up env d x) H Q)(hg:QI all o env true:=by exact rfl)(hd:o.dst=some d:=by exact rfl)(hN:Nat.blt d N=true:=by exact rfl):WO P h0 N all (o::l) env H Q:=
 Y8 hg hd hN a k
theorem vH(a:OpH P o env H x H')(k:WO P h0 N all l (up env d x) H' Q)(hg:QI all o env true:=by exact rfl)(hd:o.dst=some d:=by exact rfl)(hN:Nat.blt d N=true:=by exact rfl)(hh:Nat.ble h0 H.length=true:=by exact rfl):WO P h0 N all (o::l) env H Q:=
 Qic (by simp_all) hg hd hN a k
theorem vU(a:OpU P o env H H')(k:WO P h0 N all l env H' Q)(hg:QI all o env true:=by exact rfl)(hd:o.dst=none:=by exact rfl)(hh:Nat.ble h0 H.length=true:=by exact rfl):WO P h0 N all (o::l) env H Q:=
 Qlz (by simp_all) hg hd a k
theorem gT{j s:Nat}{c x:Bool}(a:x=c)(hg:o.guard=some (j,c):=by exact rfl)(hs:(all[j]?).bind (·.dst)=some s:=by exact rfl)(hl:lk env s=.bool x:=by exact rfl):QI all o env true:=by
 simp_all[QI]
theorem QbU{x x':A}(e:x'=x)(a:H'=H)(k:WO P h0 N all l (up env d x) H Q):WO P h0 N all l (up env d x') H' Q:=by grind
theorem QlC(a:H'=H)(k:WO P h0 N all l env H Q):WO P h0 N all l env H' Q:=by grind
theorem Qy{f:FuncId}{args a:List A}{Hc:Qd}{Qr:A->Qd->Prop}(π:List Nat)(e:OpC P o env H f args)(g:C P f a Hc Qr)
  (k:∀r H1,Qr r H1->WO P h0 N all l (up env d (YM (rho π H.length) r)) (QX H π (H1.map (QZ (rho π H.length)))) Q)
  (hargs:args=Qak (rho π H.length) a:=by exact rfl)(hH:π.map (λp=>H[p]?)=(Hc.map (QZ (rho π H.length))).map some:=by exact rfl)(hπ:π.Nodup:=by decide)
  (hg:QI all o env true:=by exact rfl)(hd:o.dst=some d:=by exact rfl)(hN:Nat.blt d N=true:=by exact rfl)(hh:Nat.ble h0 H.length=true:=by exact rfl):WO P h0 N all (o::l) env H Q:=
 WO.call π (by simp_all) hg hd (λx h=>by simp_all) e hargs hH hπ g k
end
section
variable {P:Program} {o:Oper} {env:Env} {H:Qd} {α:Type} {e:α->List A}
theorem Qe1{c:Call}{t a k:Nat}{x:Operand}{l:List α}(f:∀w,(underlying t).run P w=.ok (.slice a) w)(d:o.op=.call c:=by exact rfl)(hc:c={callee:=.builtin .len,args:= #[x],argTypes:= #[t]}:=by exact rfl)
  (hx:opA env x=.rsl k (l.map e):=by exact rfl):OpV P o env H (.int .i64 l.length):=by
 have:=QlK (H:=H) d hc f hx
 grind
theorem Js{t a k:Nat}{x y:Operand}{l:List α}{d:IntKind}{i:Int}{v:α}(h:idx l i=some v)(f:∀w,(underlying t).run P w=.ok (.slice a) w)(g:∀w,(sizeOf a).run P w=.ok k w)
  (j:o.op=.indexAddr t x y:=by exact rfl)(hx:opA env x=.rsl k (l.map e):=by exact rfl)(hy:opA env y=.int d i:=by exact rfl):OpV P o env H (.rp (e v)):=
 QmS j f g hx hy (Qbm h).1 (Qf1 (Qbm h).2)
theorem Y7{t a k b n:Nat}{x y:Operand}{l:List α}{d:IntKind}{i:Int}{v:α}(h:idx l i=some v)(m:l.length=n)(e:∀w,(underlying t).run P w=.ok (.slice a) w)(g:∀w,(sizeOf a).run P w=.ok k w)
  (j:o.op=.indexAddr t x y:=by exact rfl)(hx:opA env x=.osl b 0 n k:=by exact rfl)(hy:opA env y=.int d i:=by exact rfl):OpV P o env H (.ptr b (i.toNat*k)):=by
 have:=Qbm h;have f:i.toNat<l.length:=(by grind);have p:=Qi0 (H:=H) j e g hx hy this.1 (by omega)
 grind
theorem YD{b t k:Nat}{l:List α}{i:Int}{v:α}{a:List A}(h:idx l i=some v)(d:H[b]?=some (.row t k (l.map e)):=by exact rfl)(hcs:e v=a:=by exact rfl):Pts H (.ptr b (i.toNat*k)) a:=
 Pts.row (f:=0) d rfl (Qf1 (Qbm h).2) hcs
theorem QR{c:Call}{T T' et et' k i n:Nat}{x y:Operand}{a:A}{l m r:List α}(h:app l m=some r)(E:Q7 P T et k)(f:∀w,(underlying T').run P w=.ok (.slice et') w)(d:Src P H a k (m.map e))
  (g:l.length=n:=by exact rfl)(ho:o.op=.call c:=by exact rfl)(hc:c={callee:=.builtin .append,args:= #[x,y],argTypes:= #[T,T']}:=by exact rfl)(hx:opA env x=.osl i 0 n k:=by exact rfl)
  (hH:H[i]?=some (.row et k (l.map e)):=by exact rfl)(hy:opA env y=a:=by exact rfl):
  OpH P o env H (.osl H.length 0 r.length k) (H.set i .dead++[.row et k (r.map e)]):=by
 obtain⟨j,rfl⟩:=QnL h;subst g;have:=Qhv E f ho hc hx hH (by simp) hy d (by grind) (gs:=(l++m).map e) (by rw[VH (by simp)];simp)
 grind
theorem Qie{k:Nat}{l:List α}:Src P H (.rsl k (l.map e)) k (l.map e):=Src.rsl
theorem YP{i n k t:Nat}{l:List α}(a:H[i]?=some (.row t k (l.map e)):=by exact rfl)(hn:l.length=n:=by exact rfl):Src P H (.osl i 0 n k) k (l.map e):=
 Src.osl a (by grind[List.take_of_length_le]) (by simp[hn])
theorem Jt{t n b T k f:Nat}{x y:Operand}{l l':List α}{i:Int}{v m:α}{vs:List A}{a:A}{g:Nat}(h:idx l i=some v)(r:Qc9 l i m=some l')(p:∀w,(sizeOf t).run P w=.ok n w)(d:g=i.toNat*k+f)(j:splice (e v) f vs=e m)
  (q:o.op=.store t x y:=by exact rfl)(hx:opA env x=.ptr b g:=by exact rfl)(hH:H[b]?=some (.row T k (l.map e)):=by exact rfl)
  (hy:opA env y=a:=by exact rfl)(hk:Yn a=true:=by exact rfl)(hv:Yd a=vs:=by exact rfl)(hn:vs.length=n:=by exact rfl)(hp:vs.all Yr=true:=by exact rfl)(hd:Yw vs=true:=by exact rfl)(hf:Nat.ble (f+n) k=true:=by exact rfl):
  OpU P o env H (H.set b (.row T k (l'.map e))):=by
 refine Qgo q hx hH p d (Qf1 (Qbm h).2) hy hk hv hn hp hd hf j ?_
 grind[Qc9,List.map_set]
end
def ZR(a:A)(v:Value):Prop:=∀ro σ w,VR ro σ w a v
def ZL(az:List A)(l:List Value):Prop:=∀ro σ w,LR ro σ w az l
theorem ZR.int{k:IntKind}{n:Int}:ZR (.int k n) (.int k n):=λ_ _ _=>rfl
theorem ZR.bool{b:Bool}:ZR (.bool b) (.bool b):=λ_ _ _=>rfl
theorem ZR.str:ZR (.str []) (.string ⟨#[]⟩):=λ_ _ _=>rfl
theorem ZR.rsl{α:Type}{k:Nat}{e:α->List A}:ZR (.rsl k (List.map e [])) (.slice none 0 0):=λ_ _ _=>⟨none,0,rfl,XT _,.inl rfl⟩
theorem ZR.nils:ZR .nils (.slice none 0 0):=λ_ _ _=>rfl
theorem ZR.nilp:ZR .nilp (.pointer none):=λ_ _ _=>rfl
theorem ZR.nilf:ZR .nilf .nilFunc:=λ_ _ _=>rfl
theorem ZR.nilm:ZR .nilm (.map none):=λ_ _ _=>rfl
theorem QmM:ZR .nilif .nilIface:=λ_ _ _=>rfl
theorem ZL.nil:ZL [] []:=λ_ _ _=>rfl
theorem ZL.cons{a:A}{v:Value}{az:List A}{l:List Value}(h:ZR a v)(k:ZL az l):ZL (a::az) (v::l):=λro σ w=>⟨v,l,rfl,h ro σ w,k ro σ w⟩
theorem ZR.agg{az:List A}{l:List Value}(h:ZL az l):ZR (.agg az) (.agg l.toArray):=λro σ w=>⟨l,rfl,h ro σ w⟩
section
variable {P:Program} {o:Oper} {env:Env} {H:Qd}
theorem Qag{t:Nat}{z:Value}{v:A}{d:List A}(j:∀w,(zeroValue t).run P w=.ok z w)(h:ZR v z)(m:o.op=.alloc t:=by exact rfl)(hk:Yn v=true:=by exact rfl)(hcs:Yd v=d:=by exact rfl)(hpl:d.all Yr=true:=by exact rfl):
  OpH P o env H (.ptr H.length 0) (H++[.cells t d]):=by
 intro k f σ N a w r;obtain⟨l,i,g⟩:=(h f σ w).cells hk;subst hcs;refine⟨.pointer (some ⟨w.heap.size,0,none⟩),w.alloc (.cells l.toArray t),f,[some w.heap.size],?_,⟨w.heap.size,?_,rfl⟩,r.sim.allocCells g (g.plain hpl),Qm.alloc _ r.sim.roLt r.sim.frLt⟩
 .have e:(newVar t z).run P w=.ok ⟨w.heap.size,0,none⟩ (w.alloc (.cells l.toArray t)):=by
   unfold newVar;rw[i];rfl
  simp_all[execOp,Instr.alloc]
 .rw[<- r.sim.len];simp
theorem Qh4{t:TypeId}{p q:Bool}{w:World}(a:∀w,(underlying t).run P w=.ok .bool w):(Op.equal t (.bool p) (.bool q)).run P w=.ok (p==q) w:=by
 have k:∀d,(Op.equalIn (d+1) t (.bool p) (.bool q)).run P w=.ok (p==q) w:=by
  simp[Op.equalIn,a]
 exact k 9999
theorem Qe5{t u:TypeId}{x y:Operand}{p q:Bool}(e:∀w,(underlying t).run P w=.ok .bool w)(g:o.op=.binOp .neq t x y u:=by exact rfl)(hx:opA env x=.bool p:=by exact rfl)(hy:opA env y=.bool q:=by exact rfl):OpV P o env H (.bool (p != q)):=by
 intro d f σ N a w r;have i:=QcF r hx;have h:=QcF r hy;refine⟨_,?_,rfl⟩
 simp_all[execOp,Go.binOp,eqGuard,Qh4,bne]
theorem QQ{t:TypeId}{x y:Operand}{s:List UInt8}{k:IntKind}{i:Int}{c:UInt8}(h:idx s i=some c)(d:∀w,(underlying t).run P w=.ok .string w)(a:o.op=.index t x y:=by exact rfl)(hx:opA env x=.str s:=by exact rfl)(hy:opA env y=.int k i:=by exact rfl):
  OpV P o env H (.int .u8 c.toNat):=Qj0 a d hx hy (Qbm h).1 (Qbm h).2
theorem QlO{α:Type}{e:α->List A}{T et k:Nat}{x:Operand}{lo hi:Option Operand}{l r:List α}{a b:Int}(h:slc l a b=some r)(E1:∀w,(underlying T).run P w=.ok (.slice et) w)(E2:∀w,(sizeOf et).run P w=.ok k w)
  (d:lo=none/\a=0\/ ∃y,lo=some y/\opA env y=.int .i64 a)(f:hi=none/\b=l.length\/ ∃y,hi=some y/\opA env y=.int .i64 b)
  (g:o.op=.slice T x lo hi none:=by exact rfl)(hx:opA env x=.rsl k (l.map e):=by exact rfl):OpV P o env H (.rsl k (r.map e)):=by
 obtain⟨i,m,j,rfl⟩:=Qc8 h;refine QlM (l:=a.toNat) (h:=b.toNat) E1 E2 g hx ?_ ?_ (by omega) (by simp;omega) (by simp)
 .grind
 grind
theorem Qj3{c:Call}{t a i n k:Nat}{x:Operand}(e:∀w,(underlying t).run P w=.ok (.slice a) w)(d:o.op=.call c:=by exact rfl)(hc:c={callee:=.builtin .len,args:= #[x],argTypes:= #[t]}:=by exact rfl)
  (hx:opA env x=.osl i 0 n k:=by exact rfl):OpV P o env H (.int .i64 n):=QlL d hc e hx
end
def Qe(k:IntKind)(n:Int):List A:=[.int k n]
def Y4(b:Bool):List A:=[.bool b]
def Jl(s:List UInt8):List A:=[.str s]
def QN{α:Type}(k:Nat)(e:α->List A)(l:List α):List A:=[.rsl k (l.map e)]
theorem Qgx{P:Program}{rd:Option Nat}{o:Oper}{a:Act}{next:Act->World->Prop}{Q:Exit->Act->World->Prop}{e:Result Next}
  (k:∀a' w',next a' w'->a'.defers=a.defers)(h:o.uponIn (WF rd) 0 P a next Q e):
  o.uponIn (WF rd) 0 P a (λa' w'=>next a' w'/\ ∃v,a'=a.put o.dst v) Q e:=by
 cases e with
 |ok n w'=>
  cases n with
  |value v=>exact⟨h,_,rfl⟩
  |skip=>exact⟨h,_,rfl⟩
  |defer d=>
   have:=congrArg List.length (k _ _ h)
   revert this
   cases o.dst<;>simp[Act.put]
  |enter f g=>
   exact⟨h.1,CallsIn.mono h.2 (by grind)⟩
  |row r g=>exact⟨h.1,RowsIn.mono h.2 (by grind)⟩
  |round l f i assign j=>exact⟨h.1,RoundIn.mono h.2 (by grind)⟩
  |_=>exact h.elim
 |halt x w'=>cases x<;>first|exact h|exact h.elim
def YT(e:Env)(H:Qd):QG:=λx e' H'=>x=.normal/\e'=e/\H'=H
theorem YT.mk{e:Env}{H:Qd}:YT e H .normal e H:=⟨rfl,rfl,rfl⟩
inductive Sb (af bf ds:List Nat) (xs:List A) (env0:Env):Env->Prop
 |nil:Sb af bf ds xs env0 []
 |dep (j:Nat) {s:Nat} {a:A} {r:Env} (h1:af.contains j=true) (h2:ds[j]?=some s) (h3:xs[j]?=some a) (k:Sb af bf ds xs env0 r):Sb af bf ds xs env0 ((s,a)::r)
 |old {s:Nat} {a:A} {r:Env} (h1:ds.contains s=false) (h2:lk env0 s=a) (k:Sb af bf ds xs env0 r):Sb af bf ds xs env0 ((s,a)::r)
 |pre (j:Nat) {s:Nat} {a:A} {r:Env} (h1:bf.contains j=true) (h2:ds[j]?=some s) (h3:lk env0 s=a) (k:Sb af bf ds xs env0 r):Sb af bf ds xs env0 ((s,a)::r)
def Qn(o:Oper):List Nat:=(o.after.toList.filter (Region.binds .any)).map (·.on)
def Qgi(l:List Oper)(i:Nat):List Nat:=(List.range l.length).filter λj=>((l[j]?).map Qn).getD [] |>.contains i
inductive QdK (P:Program) (N:Nat) (l:List Oper) (ds:List Nat) (xs:List A) (env0:Env) (i:Nat) (H H':Qd):Prop
 |mk (o:Oper) (e:Env) (d:Nat) (x:A) (ho:l[i]?=some o) (hd:o.dst=some d) (hx:xs[i]?=some x) (hs:Sb (Qn o) (Qgi l i) ds xs env0 e)
   (h:WO P H.length N l.toArray [o] e H (YT (up e d x) H')):QdK P N l ds xs env0 i H H'
theorem QdK.use{P:Program}{N:Nat}{l:List Oper}{G:List Nat}{xs:List A}{env0:Env}{i:Nat}{H H':Qd}(u:QdK P N l G xs env0 i H H')
  {Q:Exit->Act->World->Prop}{K:Act->World->Prop}{fr ro:Nat->Prop}{σ:Sig}{a:Act}{w:World}{o:Oper}{rd:Option Nat}(ho:l[i]?=some o)
  (p:Sim fr ro σ H w)(hN:a.tmps.size=N)(B:Qbz fr a.defers w)(R:QdP rd fr w)
  (hD:∀j∈Qn o,∀s x,G[j]?=some s->xs[j]?=some x->VR ro σ w x (a.tmps.getD s undef))
  (hE:∀s,G.contains s=false->VR ro σ w (lk env0 s) (a.tmps.getD s undef))(hP:∀j s,(Qgi l i).contains j=true->G[j]?=some s->VR ro σ w (lk env0 s) (a.tmps.getD s undef))
  (hK:∀v w' ro' τ d x,o.dst=some d->xs[i]?=some x->VR ro' (σ++τ) w' x ((a.put o.dst v).tmps.getD d undef)->Sim fr ro' (σ++τ) H' w'->Qm fr ro w ro' w'->K (a.put o.dst v) w'):
  wpOpIn (WF rd) 0 P l.toArray Q i K a w:=by
 obtain⟨y,e,d,x,M,hd,hx,hs,h⟩:=u;obtain rfl:y=o:=XZ (M.symm.trans ho);have z:Rel fr ro σ H e N a w:=by
  refine⟨p,?_,hN,B⟩;intro s;clear h
  induction hs with
  |nil=>exact trivial
  | @dep j s1 t r k g h3 _ ih=>
   unfold lk;cases u:Nat.beq s s1 with
   |false=>exact ih
   |true=>
    obtain rfl:=XQ u
    grind
  | @old s1 t r k g _ ih=>
   unfold lk;cases u:Nat.beq s s1 with
   |false=>exact ih
   |true=>
    obtain rfl:=XQ u
    grind
  | @pre j s1 t r k g h3 _ ih=>
   unfold lk;cases u:Nat.beq s s1 with
   |false=>exact ih
   |true=>
    obtain rfl:=XQ u
    grind
 have F:=h rd fr ro σ a w z R;have fin:∀v w',Qby H.length fr ro σ w N a.defers (YT (up e d x) H') .normal (a.put y.dst v) w'->K (a.put y.dst v) w':=by
  rintro v w' ⟨_,W,H2,ro',σ',aa,_,⟨_,rfl,rfl⟩,X,m,ht,_,L⟩;have hσ:σ'=σ++σ'.drop H.length:=by
   conv=>lhs;rw[<- Xz H.length σ']
   rw[ht, <- p.len,X9]
  have J:=X.env d;unfold lk at J;rw[VE]at J;rw[hσ]at J;refine hK v w' ro' (σ'.drop H.length) d x hd hx J ?_ m;rw[<- hσ];exact X.sim.frMono L.sub
 unfold wpOpIn;have V:l.toArray[i]?=some y:=by simpa using ho
 rw[V];simp only;unfold wpL wpListIn at F;split at F
 .rename_i hw;rw[Vs hw];obtain⟨O,F⟩:=F;refine⟨O,?_⟩;have g:=Qgx (by
   intro a' w' q;unfold wpListIn at q;obtain⟨_,_,_,_,_,_,_,_,_,_,_,q,_⟩:=q;exact q) F
  generalize(y.semAt (WF rd).round a.eval).run P w=res at*;cases res with
  |ok n w'=>
   cases n with
   |value v=>exact fin _ _ g.1
   |skip=>exact fin _ _ g.1
   |defer df=>
    exfalso;obtain⟨⟨_,_,_,_,_,_,_,_,_,_,_,q,_⟩,_⟩:=g;have:=congrArg List.length q
    revert this
    cases y.dst<;>simp[Act.put]
   |enter f E=>
    refine⟨g.1,CallsIn.mono g.2 (λe T m=>?_)⟩;cases e with
    |returned v=>exact fin _ _ m.1
    |panicked c=>obtain⟨t,_,_,_,_,_,k,⟨rfl,_⟩,_⟩:=m;exact k.elim
    |outgrown=>obtain⟨a1,w1,t,_,_,_,_,_,k,⟨rfl,_⟩,_⟩:=m;exact k.elim
   |row r E=>
    exact⟨g.1,RowsIn.mono g.2 (λ_ _ m=>fin _ _ m.1)⟩
   |round l f tmps assign Y=>
    refine⟨g.1,RoundIn.mono g.2 (λe T m=>?_)⟩;cases e with
    |returned v=>exact fin _ _ m.1
    |panicked c=>obtain⟨t,_,_,_,_,_,k,⟨rfl,_⟩,_⟩:=m;exact k.elim
    |outgrown=>obtain⟨a1,w1,t,_,_,_,_,_,k,⟨rfl,_⟩,_⟩:=m;exact k.elim
   |_=>exact g.elim
  |halt x w'=>
   cases x with
   |panic v=>obtain⟨t,_,_,_,_,_,k,⟨rfl,_⟩,_⟩:=g;exact k.elim
   |_=>exact g.elim
 simp_all[wpListIn]
theorem least{p:Nat->Prop}(a:∀i,p i\/ ¬p i):∀n,p n->∃i,i<=n/\p i/\ ∀j,j<i->¬p j:=by
 intro n
 induction n using Nat.strongRecOn with
 |ind n d=>
  grind
def onL(L:Array Bool)(i:Nat):Prop:=L[i]?=some true
theorem QaG{l:List Oper}{L:Array Bool}(p:L.size=l.length){i:Nat}:
  i∈Region.ready .any l.toArray L↔ ∃o,l[i]?=some o/\ ¬onL L i/\ ∀j∈Qn o,onL L j:=by
 unfold Region.ready;simp only[Xd,List.mem_range,XW,XG];have d:∀j,L.getD j false=true↔onL L j:=by
  intro j;unfold onL;rw[Array.getD_eq_getD_getElem?]
  grind
 constructor
 .rintro⟨f,k,a⟩;refine⟨l[i],(by simp),?_,?_⟩
  .grind
  .rw[XK f]at a;simp only[Xj,Option.getD_some,Array.all_eq_true']at a;intro j h;unfold Qn at h
   grind
 .rintro⟨o,f,k,a⟩;have g:i<l.length:=(by grind);refine⟨g,?_,?_⟩
  .grind
  .rw[f];simp only[Xj,Option.getD_some,Array.all_eq_true'];intro e m;cases n:Region.binds .any e with
   |false=>simp
   |true=>
    have:=(d _).2 (a e.on (by unfold Qn;grind))
    grind
theorem Jq{L:Array Bool}{i j:Nat}(hi:i<L.size):onL (L.setIfInBounds i true) j↔j=i\/onL L j:=by
 grind[onL]
def unl(L:Array Bool):Nat:=L.toList.countP (!·)
theorem QfT{L:Array Bool}{i:Nat}(hi:i<L.size)(h:¬onL L i):unl (L.setIfInBounds i true)+1=unl L:=by
 unfold unl;have a:L.toList[i]=false:=by
  grind[onL]
 grind
theorem Qit{L:Array Bool}{i:Nat}(hi:i<L.size)(h:¬onL L i):0<unl L:=by have:=QfT hi h;omega
inductive Qci (l:List Oper) (m:Nat):Nat->Prop
 |one {o:Oper} {j:Nat} (ho:l[m]?=some o) (hj:j∈Qn o):Qci l m j
 |step {o:Oper} {i j:Nat} (h:Qci l m i) (ho:l[i]?=some o) (hj:j∈Qn o):Qci l m j
def Qem(l:List Oper):Nat->List Nat->List Nat
 |0,S=>S
 |j+1,S=>Qem l j (bif S.contains j then S++(match l[j]? with|some o=>Qn o|none=>[])else S)
theorem Qb1{l:List Oper}{m:Nat}:∀(n:Nat) (S:List Nat),(∀j∈S,Qci l m j)->∀j∈Qem l n S,Qci l m j
 |0,S,h,j,hj=>h j hj
 |n+1,S,h,j,hj=>by
  refine Qb1 n _ ?_ j hj;intro i hi;cases q:S.contains n with
  |false=>grind
  |true=>
   rw[q]at hi;rcases VC.1 hi with z|z
   .exact h i z
   .cases ho:l[n]? with
    |none=>grind
    |some o=>rw[ho]at z;exact .step (by grind) ho z
def Qat(ds:List Nat)(xs:List A)(env0:Env):Env:=ds.zip xs++env0
theorem Qmf{a:List Nat}{xs:List A}{env0:Env}(e:a.length=xs.length)(s:Nat):
  (∃(j:Nat) (x:A),a[j]?=some s/\xs[j]?=some x/\lk (Qat a xs env0) s=x)\/(a.contains s=false/\lk (Qat a xs env0) s=lk env0 s):=by
 unfold Qat
 induction a generalizing xs with
 |nil=>simp
 |cons d a g=>
  cases xs with
  |nil=>simp at e
  |cons x xs=>
   simp[X0,Nat.add_right_cancel_iff]at e;simp only[List.zip_cons_cons,VJ,lk];cases h:Nat.beq s d with
   |true=>
    obtain rfl:=XQ h;left;exact⟨0,x,rfl,rfl,by simp⟩
   |false=>
    have f:s≠d:=λq=>by simp_all
    rcases g e with⟨j,y,i,k,l⟩|⟨i,k⟩
    .left;exact⟨j+1,y,by grind,by grind,by grind⟩
    grind
def drawChk.nodupB:List Nat->Bool
 |[]=>true
 |x::r=> !r.contains x&&drawChk.nodupB r
def drawChk.goB(l:List Oper)(m:Nat):Nat->List Oper->Bool
 |_,[]=>true
 |i,o::r=>(Qn o).all (λj=>Nat.blt j i)&&(bif Nat.beq i m then(List.range m).all (λj=>(Qem l m (Qn o)).contains j)else bif Nat.blt m i then(Qn o).contains (i-1)else true)&&drawChk.goB l m (i+1) r
def drawChk.loB(m k:Nat)(los:List Nat)(hs:List Bool):Nat->List Oper->Bool
 |_,[]=>(List.range k).all λj=>(List.range m).any λi=>hs.getD i false&&Nat.beq (los.getD i 0) j
 |i,o::r=>(bif Nat.blt i m then
   (Nat.beq (los.getD i 0) 0||(Qn o).any (λj=>Nat.blt j m&&Nat.ble (los.getD i 0) (los.getD j 0+(if hs.getD j false then 1 else 0))))
   &&(!hs.getD i false||(Nat.blt (los.getD i 0) k&&(List.range m).all (λj=> !hs.getD j false|| !Nat.beq (los.getD i 0) (los.getD j 0)||Nat.beq i j)))
  else true)&&drawChk.loB m k los hs (i+1) r
def drawChk(l:List Oper)(m k N:Nat)(ds los:List Nat)(hs:List Bool):Bool:=
 Nat.ble m l.length&&(ds.length==m)&&(l.take m).map (·.dst)==ds.map some&&ds.all (λd=>Nat.blt d N)&&drawChk.nodupB ds
 &&drawChk.goB l m 0 l&&(drawChk.loB m k los hs 0 l)
theorem Qdw{a:List Nat}(h:drawChk.nodupB a=true):∀(i j d:Nat),a[i]?=some d->a[j]?=some d->i=j:=by
 induction a with
 |nil=>simp
 |cons x r e=>
  simp[drawChk.nodupB,XW]at h
  grind
theorem QgV{l:List Oper}{m:Nat}:∀(r:List Oper) (b:Nat),drawChk.goB l m b r=true->∀(i:Nat) (o:Oper),r[i]?=some o->
  (∀j∈Qn o,j<b+i)/\(b+i=m->∀j,j<m->j∈Qem l m (Qn o))/\(m<b+i->b+i-1∈Qn o):=by
 intro r
 induction r with
 |nil=>simp
 |cons x r f=>
  intro b h i o d;simp only[drawChk.goB]at h;cases i with
  |zero=>
   simp at d;refine⟨λj e=>?_,λa j e=>?_,λa=>?_⟩
   .simp_all
   .simp_all
   .have g:Nat.beq b m=false:=by
     cases q:Nat.beq b m with
     |false=>rfl
     |true=>simp_all
    have k:Nat.blt m b=true:=by simp_all
    grind
  |succ i=>
   grind
inductive Ob (P:Program) (N:Nat) (l:List Oper) (ds:List Nat) (xs:List A) (env0:Env):Nat->List (List (Qd×Qd))->Prop
 |nil {i:Nat}:Ob P N l ds xs env0 i []
 |cons {i:Nat} {s:List (Qd×Qd)} {r:List (List (Qd×Qd))} (h:∀p∈s,QdK P N l ds xs env0 i p.1 p.2) (k:Ob P N l ds xs env0 (i+1) r):Ob P N l ds xs env0 i (s::r)
theorem Ob.get{P:Program}{N:Nat}{l:List Oper}{a:List Nat}{xs:List A}{env0:Env}{b:Nat}{d:List (List (Qd×Qd))}(h:Ob P N l a xs env0 b d):
  ∀(i:Nat) (s:List (Qd×Qd)),d[i]?=some s->∀p∈s,QdK P N l a xs env0 (b+i) p.1 p.2:=by
 induction h with
 |nil=>simp
 | @cons b1 s1 r1 h _ ih=>
  grind
theorem Ob.st0{P:Program}{N:Nat}{l:List Oper}{a:List Nat}{xs:List A}{env0:Env}{i:Nat}:∀p∈([]:List (Qd×Qd)),QdK P N l a xs env0 i p.1 p.2:=by
 simp
theorem Ob.stC{P:Program}{N:Nat}{l:List Oper}{a:List Nat}{xs:List A}{env0:Env}{i:Nat}{H H':Qd}{r:List (Qd×Qd)}(h:QdK P N l a xs env0 i H H')
  (k:∀p∈r,QdK P N l a xs env0 i p.1 p.2):∀p∈(H,H')::r,QdK P N l a xs env0 i p.1 p.2:=by
 grind
theorem Qbh.nil{H:Qd}:Qbh H [] []:=trivial
theorem Qbh.cons{H:Qd}{az d f:List A}{a b:A}(e:az=a::d)(h:Look H a b)(k:Qbh H d f):Qbh H az (b::f):=by subst e;exact⟨h,k⟩
section
variable {P:Program} {o:Oper} {env:Env} {H:Qd} {α:Type} {e:α->List A}
end
inductive PL (P:Program):List Field->List (Nat×Nat)->Prop
 |nil:PL P [] []
 |cons {f:Field} {n:Nat} {fs:List Field} {pl:List (Nat×Nat)} (h:∀w,(sizeOf f.type).run P w=.ok n w) (k:PL P fs pl):PL P (f::fs) ((f.offset,n)::pl)
theorem PL.run{P:Program}{fs:List Field}{a:List (Nat×Nat)}(h:PL P fs a):∀w,(fs.mapM λf=>(do pure (f.offset, <- sizeOf f.type):Sem (Nat×Nat))).run P w=.ok a w:=by
 induction h with
 |nil=>intro w;rfl
 |cons h _ ih=>
  simp_all
structure Qdn (P:Program) (t:TypeId) (pl:List (Nat×Nat)):Prop where
 un:∃fs:List Field,(∀w,(underlying t).run P w=.ok (.struct fs.toArray) w)/\PL P fs pl
section
variable {P:Program} {o:Oper} {env:Env} {H:Qd}
def Qey(env:Env)(pl:List (Nat×Nat)):List A->List (Nat×Operand)->Option (List A)
 |cs,[]=>some cs
 |cs,(i,x)::r=>match pl[i]? with
  |none=>none
  |some (off,size)=>bif Yn (opA env x)&&Nat.beq (Yd (opA env x)).length size&&Nat.ble (off+size) cs.length then Qey env pl (splice cs off (Yd (opA env x))) r else none
theorem Qg3{fr ro:Nat->Prop}{σ:Sig}{N:Nat}{a:Act}{w:World}(r:Rel fr ro σ H env N a w){f:List (Nat×Nat)}:∀(parts:List (Nat×Operand)) (e:List A) (l:List Value) (d:List A),
  LR ro σ w e l->Qey env f e parts=some d->
  ∃l',Instr.fill (f.toArray[·]?) l.toArray (parts.map λp=>(p.1,a.eval p.2))=some l'.toArray/\LR ro σ w d l'
 |[],e,l,d,h,q=>by
  cases q;exact⟨l,rfl,h⟩
 |(i,x)::rest,e,l,d,h,q=>by
  unfold Qey at q;cases hp:f[i]? with
  |none=>grind
  |some p=>
   obtain⟨off,size⟩:=p;rw[hp]at q;simp at q;cases hc:(Yn (opA env x)&&Nat.beq (Yd (opA env x)).length size&&Nat.ble (off+size) e.length)with
   |false=>grind
   |true=>
    rw[hc]at q;simp[XW]at hc;obtain⟨⟨c1,c2⟩,c3⟩:=hc;obtain⟨m,q1,q2⟩:=(Qu r x).cells c1;have hm:m.length=size:=by rw[q2.length];simp_all
    have hl:=h.length;obtain⟨l',j,g⟩:=Qg3 r rest _ (splice l off m) d (h.splice off q2) q
    grind[Qfz,Nat.le_of_ble_eq_true]
theorem OpV.build{t:TypeId}{z:Value}{zs d:List A}{e:List (Nat×Nat)}{parts:List (Nat×Operand)}(h:∀w,(zeroValue t).run P w=.ok z w)(m:ZR (.agg zs) z)(n:Qdn P t e)
  (u:o.op=.build t parts.toArray:=by exact rfl)(hf:Qey env e zs parts=some d:=by exact rfl):OpV P o env H (.agg d):=by
 intro x p σ N a w r;obtain⟨y,i,q⟩:=n.un;obtain⟨l,rfl,j⟩:=m p σ w;obtain⟨f,g,k⟩:=Qg3 r parts zs l d j hf;refine⟨.agg f.toArray,?_,f,rfl,k⟩;have s:=q.run w;simp only[execOp,u,Instr.build,Vm,h,Result.andThen,i,XI,List.mapM_toArray,Sem.run_map,s,Value.cells,g,Vn]
end
def nz(n:Int):Option Unit:=bif n==0 then none else some ()
section
variable {P:Program} {o:Oper} {env:Env} {H:Qd}
theorem QeZ{x:Operand}{a:A}(k:o.op=.nilCheck x)(g:opA env x=a:=by exact rfl)(hk:(match a with|.ptr _ _=>true|.rp _=>true|_=>false)=true:=by exact rfl):OpV P o env H a:=by
 intro i j σ N ac w r;have h:=Qu r x;rw[g]at h;cases a<;>first|(cases hk)|skip
 .obtain⟨b,e,f⟩:=h;refine⟨_,?_,b,e,rfl⟩
  simp_all[execOp]
 .obtain⟨b,d,e,f⟩:=h;refine⟨_,?_,b,d,rfl,f⟩
  simp_all[execOp]
end
mutual
def FzA(i k:Nat)(es:List (List A)):A->A->Prop
 |.agg az,b=>∃bs,b=.agg bs/\FzL i k es az bs
 |.fn f x c,b=>∃x' c',b=.fn f x' c'/\FzL i k es x x'/\FzL i k es c c'
 |.iface t a,b=>∃a',b=.iface t a'/\FzA i k es a a'
 |.tup az,b=>∃bs,b=.tup bs/\FzL i k es az bs
 |.osl j o n k',b=>b=.osl j o n k'\/(j=i/\o=0/\k'=k/\n=es.length/\b=.rsl k es)
 |.nils,b=>b=.nils\/ ∃k',b=.rsl k' []
 |a,b=>b=a
def FzL(i k:Nat)(es:List (List A)):List A->List A->Prop
 |[],b=>b=[]
 |a::az,b=>∃a' as',b=a'::as'/\FzA i k es a a'/\FzL i k es az as'
end
mutual
theorem FzA.refl{i k:Nat}{es:List (List A)}:∀a:A,FzA i k es a a
 |.agg az=>⟨az,rfl,FzL.refl az⟩
 |.fn _ x c=>⟨x,c,rfl,FzL.refl x,FzL.refl c⟩
 |.iface _ a=>⟨a,rfl,FzA.refl a⟩
 |.tup az=>⟨az,rfl,FzL.refl az⟩
 |.osl _ _ _ _=>.inl rfl
 |.nils=>.inl rfl
 |.any=>rfl
 |.bool _=>rfl
 |.int _ _=>rfl
 |.str _=>rfl
 |.nilp=>rfl
 |.ptr _ _=>rfl
 |.rp _=>rfl
 |.rsl _ _=>rfl
 |.nilf=>rfl
 |.nilif=>rfl
 |.map _=>rfl
 |.nilm=>rfl
theorem FzL.refl{i k:Nat}{es:List (List A)}:∀az:List A,FzL i k es az az
 |[]=>rfl
 |a::az=>⟨a,az,rfl,FzA.refl a,FzL.refl az⟩
end
theorem FzA.agg{i k:Nat}{es:List (List A)}{az bs:List A}(h:FzL i k es az bs):FzA i k es (.agg az) (.agg bs):=⟨bs,rfl,h⟩
theorem FzA.tup{i k:Nat}{es:List (List A)}{az bs:List A}(h:FzL i k es az bs):FzA i k es (.tup az) (.tup bs):=⟨bs,rfl,h⟩
theorem FzA.iface{i k:Nat}{es:List (List A)}{t:Nat}{a b:A}(h:FzA i k es a b):FzA i k es (.iface t a) (.iface t b):=⟨b,rfl,h⟩
theorem FzA.own{i k n:Nat}{es:List (List A)}(hn:n=es.length):FzA i k es (.osl i 0 n k) (.rsl k es):=.inr (by grind)
theorem FzA.nil{i k k':Nat}{es:List (List A)}:FzA i k es .nils (.rsl k' []):=.inr ⟨k',rfl⟩
theorem FzL.cons{i k:Nat}{es:List (List A)}{a b:A}{az bs:List A}(h:FzA i k es a b)(q:FzL i k es az bs):FzL i k es (a::az) (b::bs):=⟨b,bs,rfl,h,q⟩
mutual
theorem Qil{i k:Nat}{es:List (List A)}{ro ro':Nat->Prop}{σ:Sig}{w:World}(ext:Ext ro σ w ro' σ w)
  (hf:∀v,VR ro σ w (.osl i 0 es.length k) v->VR ro' σ w (.rsl k es) v):∀(a b:A) (v:Value),FzA i k es a b->VR ro σ w a v->VR ro' σ w b v
 |.agg az,b,v,h,q=>by
  obtain⟨bs,rfl,h⟩:=h;obtain⟨l,rfl,q⟩:=q;exact⟨l,rfl,Qdq ext hf az bs l h q⟩
 |.fn f x c,b,v,h,q=>by
  obtain⟨x',c',rfl,h1,h2⟩:=h;obtain⟨l,l',rfl,q1,q2⟩:=q;exact⟨l,l',rfl,Qdq ext hf x x' l h1 q1,Qdq ext hf c c' l' h2 q2⟩
 |.iface t a,b,v,h,q=>by
  obtain⟨a',rfl,h⟩:=h;obtain⟨x,rfl,q⟩:=q;exact⟨x,rfl,Qil ext hf a a' x h q⟩
 |.tup az,b,v,h,q=>by
  obtain⟨bs,rfl,h⟩:=h;obtain⟨l,rfl,q⟩:=q;exact⟨l,rfl,Qdq ext hf az bs l h q⟩
 |.osl j o n k',b,v,h,q=>by
  rcases h with rfl|⟨rfl,rfl,rfl,rfl,rfl⟩
  .exact q.mono ext
  .exact hf v q
 |.nils,b,v,h,q=>by
  rcases h with rfl|⟨k',rfl⟩
  .exact q
  .obtain rfl:v=.slice none 0 0:=q;exact⟨none,0,rfl,XT _,.inl rfl⟩
 |.any,b,v,h,q=>by obtain rfl:b=_:=h;trivial
 |.bool _,b,v,h,q=>by obtain rfl:b=_:=h;exact q
 |.int _ _,b,v,h,q=>by obtain rfl:b=_:=h;exact q
 |.str _,b,v,h,q=>by obtain rfl:b=_:=h;exact q
 |.nilp,b,v,h,q=>by obtain rfl:b=_:=h;exact q
 |.ptr _ _,b,v,h,q=>by obtain rfl:b=_:=h;exact q.mono ext
 |.rp _,b,v,h,q=>by obtain rfl:b=_:=h;exact q.mono ext
 |.rsl _ _,b,v,h,q=>by obtain rfl:b=_:=h;exact q.mono ext
 |.nilf,b,v,h,q=>by obtain rfl:b=_:=h;exact q
 |.nilif,b,v,h,q=>by obtain rfl:b=_:=h;exact q
 |.map _,b,v,h,q=>by obtain rfl:b=_:=h;exact q.mono ext
 |.nilm,b,v,h,q=>by obtain rfl:b=_:=h;exact q
theorem Qdq{i k:Nat}{es:List (List A)}{ro ro':Nat->Prop}{σ:Sig}{w:World}(ext:Ext ro σ w ro' σ w)
  (hf:∀v,VR ro σ w (.osl i 0 es.length k) v->VR ro' σ w (.rsl k es) v):∀(az bs:List A) (l:List Value),FzL i k es az bs->LR ro σ w az l->LR ro' σ w bs l
 |[],bs,l,h,q=>by obtain rfl:bs=[]:=h;exact q
 |a::az,bs,l,h,q=>by
  obtain⟨a',as',rfl,h1,h2⟩:=h;obtain⟨v,l',rfl,q1,q2⟩:=q;exact⟨v,l',rfl,Qil ext hf a a' v h1 q1,Qdq ext hf az as' l' h2 q2⟩
end
def FzB(i k:Nat)(es:List (List A))(x y:Blk):Prop:=y=x\/ ∃t cs cs',x=.cells t cs/\y=.cells t cs'/\FzL i k es cs cs'
def FzH(i k:Nat)(es:List (List A)):Qd->Qd->Prop
 |[],h=>h=[]
 |x::r,h=>∃y r',h=y::r'/\FzB i k es x y/\FzH i k es r r'
def QlR(i k:Nat)(es:List (List A))(env:Env):Env->Prop
 |[]=>True
 |(s,a)::r=>FzA i k es (lk env s) a/\QlR i k es env r
theorem FzH.nil{i k:Nat}{es:List (List A)}:FzH i k es [] []:=rfl
theorem FzH.keep{i k:Nat}{es:List (List A)}{x:Blk}{r r':Qd}(h:FzH i k es r r'):FzH i k es (x::r) (x::r'):=⟨x,r',rfl,.inl rfl,h⟩
theorem FzH.cells{i k t:Nat}{es:List (List A)}{cs cs':List A}{r r':Qd}(q:FzL i k es cs cs')(h:FzH i k es r r'):FzH i k es (.cells t cs::r) (.cells t cs'::r'):=⟨_,r',rfl,.inr (by grind),h⟩
theorem FzH.get{i k:Nat}{es:List (List A)}:∀{H H':Qd},FzH i k es H H'->∀(j:Nat) (y:Blk),H'[j]?=some y->∃x,H[j]?=some x/\FzB i k es x y
 |[],_,h,j,y,q=>by obtain rfl:_=[]:=h;simp at q
 |x::r,_,h,j,y,q=>by
  obtain⟨y',r',rfl,h1,h2⟩:=h;cases j with
  |zero=>grind
  |succ j=>obtain⟨x',p1,p2⟩:=h2.get j y q;grind
theorem FzH.len{i k:Nat}{es:List (List A)}:∀{H H':Qd},FzH i k es H H'->H'.length=H.length
 |[],_,h=>by obtain rfl:_=[]:=h;rfl
 |x::r,_,h=>by obtain⟨y',r',rfl,h1,h2⟩:=h;simp[h2.len]
theorem FzB.live{i k:Nat}{es:List (List A)}{x y:Blk}(h:FzB i k es x y):y.live=x.live:=by
 rcases h with rfl|⟨t,d,a,rfl,rfl,_⟩<;>rfl
theorem YF{env:Env}{H H':Qd}{h0 i k t:Nat}{es:List (List A)}(ov:Env)(hi:Nat.ble h0 i=true)(M:H[i]?=some (.row t k es))(Q:QlR i k es env ov)(B:FzH i k es (H.set i .dead) H'):Le h0 env H (ov++env) H':=by
 intro fr Y σ N a w r
 let ro':Nat->Prop:=λb=>Y b\/σ[i]?=some (some b)
 have hown:=λb h=>r.sim.own i b _ h M rfl;have ext:Ext Y σ w ro' σ w:=⟨λ_ q=>.inl q,λ_ _=>rfl,λ_ _ q=>q,λ_ _ q=>q⟩;have hf:∀v,VR Y σ w (.osl i 0 es.length k) v->VR ro' σ w (.rsl k es) v:=by
  intro v h;rcases h with⟨h0,h⟩|⟨b,p,L,t',m,g,h,n,⟨u,aa⟩,h4,h5⟩
  .have:es=[]:=(by grind);subst this;exact⟨none,0,h,XT _,.inl rfl⟩
  .refine⟨_,L,h,u,?_⟩;by_cases he:es=[]
   .exact .inl he
   .right;have hc:0<L:=Vf (by grind) u;obtain rfl:=n hc;obtain⟨l,P,R⟩:=r.sim.blk i _ _ g M;refine⟨b,0,by simp,.inr g,?_⟩;have:=YS (pre:=[]) (by simpa using P) R;exact this.keep ⟨λ_ q=>.inl q,λ_ _=>rfl,λ_ _ q=>q,λ_ _ q=>q⟩ rfl
 have f:∀(j:Nat) (y:Blk),H'[j]?=some y->y≠ .dead->j≠i/\ ∃x,H[j]?=some x/\FzB i k es x y:=by
  intro j y h X;obtain⟨x,g,n⟩:=B.get j y h;by_cases e:j=i
  .subst e;rw[Xb]at g;simp only[if_true]at g;split at g
   .cases g;rcases n with rfl|⟨_,_,_,q,_,_⟩
    .grind
    .cases q
   .simp at g
  grind
 refine⟨ro',σ,⟨⟨by rw[B.len,X4];exact r.sim.len,r.sim.roOk.to (λ_ q=>.inl q) (λ_ _=>rfl) ?_,r.sim.frLt,?_,?_,?_,?_,r.sim.hidTo (· = ·) Yb (XT _) (λj b x c P R q3 q4=>q4.elim id λq=>((r.sim.hid j b x c P R q3).ne i c _ q M rfl rfl).elim) (by simp) λj d y V T g3=>.inl ?_⟩,?_,r.size,r.defers⟩,λ_ q=>.inl q,rfl⟩
 rotate_left 5
 .obtain⟨_,x,g4,g5⟩:=f j y T (Qgu g3);exact⟨j,x,rfl,V,g4,λz=>by rw[<- g5.live];exact z,λc q=>by rcases g5 with rfl|⟨t,cs,E,rfl,rfl,_⟩;exact q;exact q.elim⟩
 rotate_left 1
 .rintro b (q|q)
  .exact r.sim.roLt b q
  grind
 .rintro b (q|q)
  .exact r.sim.roFr b q
  grind
 .intro j b v g n u;obtain⟨e,x,n,J⟩:=f j v n (Qbw u);have hx:x.live=true:=by rw[<- J.live];exact u
  obtain⟨G,F,p3⟩:=r.sim.own j b x g n hx;refine⟨G,?_,p3⟩;rintro(q|q)
  .exact F q
  .exact e (r.sim.inj j i b x _ g q n M hx rfl)
 .intro j j' b v v' g n u h4 h5 h6;obtain⟨_,x,G,F⟩:=f j v u (Qbw h5);obtain⟨_,x',O,W⟩:=f j' v' h4 (Qbw h6);exact r.sim.inj j j' b x x' g n G O (by rw[<- F.live];exact h5) (by rw[<- W.live];exact h6)
 .intro j s v g n;by_cases X:v≠ .dead
  .obtain⟨_,x,G,F⟩:=f j v n X;have J:=r.sim.blk j s x g G;rcases F with rfl|⟨t,cs,E,rfl,rfl,q⟩
   .exact J.keep ext (λ_ _ _=>rfl) (λ_ _ _ _=>rfl)
   .cases s with
    |none=>exact J.elim
    |some b=>
     obtain⟨l,e1,e2,e3⟩:=J;exact⟨l,e1,Qdq ext hf cs E l q e2,e3⟩
  .obtain rfl:v=.dead:=Classical.not_not.1 X;trivial
 .intro s
  induction ov with
  |nil=>exact(r.env s).mono ext
  |cons p ov ih=>
   obtain⟨s1,a1⟩:=p;obtain⟨V,T⟩:=Q;simp only[VJ,lk];cases q:Nat.beq s s1 with
   |true=>
    obtain rfl:=XQ q;exact Qil ext hf _ _ _ V (r.env s)
   |false=>exact ih T
theorem QlR.nil{i k:Nat}{es:List (List A)}{env:Env}:QlR i k es env []:=trivial
theorem QlR.cons{i k s:Nat}{es:List (List A)}{env:Env}{a b:A}{r:Env}(h:lk env s=a)(q:FzA i k es a b)(g:QlR i k es env r):QlR i k es env ((s,b)::r):=⟨h▸q,g⟩
def QcX(P:Program)(env:Env)(H:Qd)(l:ResultVar)(x:A):Prop:=
 ∀fr ro σ N a w,Rel fr ro σ H env N a w->∃v,((match l with
  |.tmp t=>pure (a.tmps.getD t undef)
  |.cell b t=>do loadVar t (<- asAddr (a.tmps.getD b undef)):Sem Value)).run P w=.ok v w/\VR ro σ w x v
def Qif(P:Program)(env:Env)(H:Qd):List ResultVar->List A->Prop
 |[],xs=>xs=[]
 |l::ls,xs=>∃x xs',xs=x::xs'/\QcX P env H l x/\Qif P env H ls xs'
section
variable {P:Program} {fn:Func} {env:Env} {H:Qd}
theorem QcX.tmp{t:Nat}{x:A}(d:lk env t=x:=by exact rfl):QcX P env H (.tmp t) x:=
 λfr ro σ N a w r=>⟨a.tmps.getD t undef,rfl,d▸r.env t⟩
theorem QcX.cell{b t:Nat}{p x:A}{f:List A}(k:∀w,(isAgg t).run P w=.ok false w)(h:Pts H p (x::f))(j:lk env b=p:=by exact rfl):QcX P env H (.cell b t) x:=by
 intro g i σ N a w r;have d:=r.env b;rw[j]at d;obtain⟨m,e,n,⟨y,q,_,l⟩,_⟩:=h g i σ w _ r.sim d
 simp_all[asAddr,loadVar]
theorem QdI{b t n:Nat}{p:A}{d:List A}(s:∀w,(isAgg t).run P w=.ok true w)(x:∀w,(sizeOf t).run P w=.ok n w)(i:Pts H p d)(m:lk env b=p:=by exact rfl)(hl:(d.take n).length=n:=by exact rfl):
  QcX P env H (.cell b t) (.agg (d.take n)):=by
 intro g j σ N a w r;have e:=r.env b;rw[m]at e;obtain⟨u,f,y,k⟩:=i g j σ w _ r.sim e;obtain⟨l,h,_,q⟩:=Yv (P:=P) 0 (by simpa using k.take n);refine⟨.agg l.toArray,?_,l,rfl,h⟩
 simp_all[asAddr,loadVar,loadCells]
theorem Qf{b t n i T:Nat}{a:List A}(g:∀w,(isAgg t).run P w=.ok true w)(f:∀w,(sizeOf t).run P w=.ok n w)(e:lk env b=.ptr i 0)(d:H[i]?=some (.cells T a))(h:a.length=n):
  QcX P env H (.cell b t) (.agg a):=by
 have:=QdI g f (Pts.cells d rfl) e (by grind)
 grind
theorem Q4{b t i T:Nat}{x:A}(ha:∀w,(isAgg t).run P w=.ok false w)(hx:lk env b=.ptr i 0)(hH:H[i]?=some (.cells T [x])):QcX P env H (.cell b t) x:=
 QcX.cell ha (Pts.cells hH rfl) hx
theorem Qif.nil:Qif P env H [] []:=rfl
theorem Qif.cons{l:ResultVar}{ls:List ResultVar}{x:A}{xs:List A}(h:QcX P env H l x)(k:Qif P env H ls xs):Qif P env H (l::ls) (x::xs):=⟨x,xs,rfl,h,k⟩
theorem Qif.run{fr ro:Nat->Prop}{σ:Sig}{N:Nat}{a:Act}{w:World}(r:Rel fr ro σ H env N a w):∀{ls:List ResultVar} {xs:List A},Qif P env H ls xs->
  ∃vs:List Value,(ls.mapM λl=>(match l with
   |.tmp t=>pure (a.tmps.getD t undef)
   |.cell b t=>do loadVar t (<- asAddr (a.tmps.getD b undef)):Sem Value)).run P w=.ok vs w/\LR ro σ w xs vs
 |[],_,h=>by obtain rfl:_=[]:=h;exact⟨[],rfl,rfl⟩
 |l::ls,_,h=>by
  obtain⟨x,xs,rfl,h1,h2⟩:=h;obtain⟨v,e1,e2⟩:=h1 fr ro σ N a w r;obtain⟨vs,e3,e4⟩:=Qif.run r h2;refine⟨v::vs,?_,v,vs,rfl,e2,e4⟩
  simp_all
theorem Qg{ls:List ResultVar}{xs:List A}(h:fn.results=ls.toArray)(m:Nat.beq ls.length 1=false)(k:Qif P env H ls xs):QbW P fn env H (.tup xs):=by
 intro n p σ N a w r;obtain⟨vs,j,e⟩:=k.run r;have d:¬vs.length=1:=by
  have:∀{ls:List ResultVar} {xs:List A},Qif P env H ls xs->xs.length=ls.length:=by
   intro ls
   induction ls with
   |nil=>intro xs h;obtain rfl:xs=[]:=h;rfl
   |cons l ls f=>intro xs h;obtain⟨x,g,rfl,_,i⟩:=h;simp[f i]
  rw[e.length,this k];intro q;simp_all
 refine⟨.tuple vs.toArray,?_,vs,rfl,e⟩;unfold results;rw[List.mapM_toArray,Vm,Sem.run_map]
 grind[Result.andThen,Sem.run_pure]
theorem QL{l:ResultVar}{x:A}(h:fn.results= #[l])(k:QcX P env H l x):QbW P fn env H x:=by
 intro f g σ N a w r;obtain⟨vs,e,d⟩:=(Qif.cons k Qif.nil).run r;obtain⟨v,_,rfl,d,rfl⟩:=d;refine⟨v,?_,d⟩;unfold results;rw[h,show #[l]=[l].toArray from rfl];rw[List.mapM_toArray,Vm,Sem.run_map]
 erw [e]
 rfl
end
mutual
def Qjc:A->Bool
 |.bool _=>true
 |.int _ _=>true
 |.str _=>true
 |.agg cs=>QfU cs
 |_=>false
def QfU:List A->Bool
 |[]=>true
 |a::r=>Qjc a&&QfU r
end
mutual
def QP:A->Value
 |.bool b=>.bool b
 |.int k n=>.int k n
 |.str s=>.string ⟨s.toArray⟩
 |.agg cs=>.agg (YL cs).toArray
 |_=>.bool false
def YL:List A->List Value
 |[]=>[]
 |a::r=>QP a::YL r
end
mutual
theorem VR.val{ro:Nat->Prop}{σ:Sig}{w:World}:∀{a:A} {v:Value},Qjc a=true->VR ro σ w a v->v=QP a
 |.bool _,_,_,h=>h
 |.int _ _,_,_,h=>h
 |.str _,_,_,h=>h
 |.agg cs,v,hs,h=>by
  obtain⟨l,rfl,h⟩:=h;rw[QP,LR.val hs h]
theorem LR.val{ro:Nat->Prop}{σ:Sig}{w:World}:∀{az:List A} {l:List Value},QfU az=true->LR ro σ w az l->l=YL az
 |[],l,_,h=>h
 |a::r,l,hs,h=>by
  obtain⟨v,l',rfl,h1,h2⟩:=h;simp only[QfU,XW]at hs;rw[YL,VR.val hs.1 h1,LR.val hs.2 h2]
end
mutual
theorem QcU{ro:Nat->Prop}{σ:Sig}{w:World}:∀{a:A},Qjc a=true->VR ro σ w a (QP a)
 |.bool _,_=>rfl
 |.int _ _,_=>rfl
 |.str _,_=>rfl
 |.agg cs,hs=>⟨YL cs,rfl,Qe7 hs⟩
theorem Qe7{ro:Nat->Prop}{σ:Sig}{w:World}:∀{az:List A},QfU az=true->LR ro σ w az (YL az)
 |[],_=>rfl
 |a::r,hs=>by
  simp only[QfU,XW]at hs;exact⟨_,_,rfl,QcU hs.1,Qe7 hs.2⟩
end
open Go.MapKept
structure Ju (P:Program) (kt:TypeId) {α:Type} (ek:α->A):Prop where
 scl:∀x,Qjc (ek x)=true
 inj:∀x y,QP (ek x)=QP (ek y)->x=y
 check:∀(w:World) em x,(Instr.checkKey em 10000 kt (QP (ek x))).run P w=.ok () w
 find:∀(w:World) x (es:List MapEntry),(∀e∈es,∃y,e.key=QP (ek y))->
  ((Instr.findKey kt (QP (ek x)) es).run P w=.ok none w/\ ∀e∈es,e.key≠QP (ek x))\/ ∃j e,(Instr.findKey kt (QP (ek x)) es).run P w=.ok (some (j,e.val)) w/\es[j]?=some e/\e.key=QP (ek x)
 stays:∀(w:World) x,(Instr.keyThatStays (QP (ek x)) (QP (ek x))).run P w=.ok (QP (ek x)) w
section
variable {P:Program} {kt:TypeId}
theorem Ju.plain{α:Type}{a:α->A}{d:TypeDesc}(h:P.underlying kt=some d)(e:∀x,IsKey d (QP (a x)))(g:∀x,Qjc (a x)=true)(hi:∀x y,QP (a x)=QP (a y)->x=y):Ju P kt a:=by
 refine⟨g,hi,λw f x=>run_checkKey h (e x) f 9999,λw x j i=>?_,λw x=>run_keyThatStays (e x)⟩
 grind[findNow_spec,run_findKey]
theorem Ju.int{q:IntKind}(hk:P.underlying kt=some (.int q)):Ju P kt (λn=>A.int q n):=
 Ju.plain hk (λx=>by rfl) (λ_=>rfl) (λx y h=>by simpa[QP]using h)
theorem Ju.str(hk:P.underlying kt=some .string):Ju P kt A.str:=
 Ju.plain hk (λx=>by simp[IsKey,QP]) (λ_=>rfl) (λx y h=>by simpa[QP]using h)
theorem Ju.struct{α:Type}[DecidableEq α]{a:α->A}{fs:Array Field}(H:P.underlying kt=some (.struct fs))(s:∀x,Qjc (a x)=true)(hi:∀x y,QP (a x)=QP (a y)->x=y)
  (p:∀(w:World) em x,(Instr.checkKey em 10000 kt (QP (a x))).run P w=.ok () w)
  (he:∀(w:World) x y,(Op.equal kt (QP (a x)) (QP (a y))).run P w=.ok (decide (x=y)) w)(r:∀x,Instr.sameBits 10000 (QP (a x)) (QP (a x))=true):Ju P kt a:=by
 refine⟨s,hi,p,λw x d B=>?_,λw x=>by simp[Instr.keyThatStays,r x]⟩
 .have h:∀(d:List MapEntry) (i:Nat),(∀e∈d,∃y,e.key=QP (a y))->
    ((Instr.findAsking kt (QP (a x)) d i).run P w=.ok none w/\ ∀e∈d,e.key≠QP (a x))\/
    ∃j e,(Instr.findAsking kt (QP (a x)) d i).run P w=.ok (some (i+j,e.val)) w/\d[j]?=some e/\e.key=QP (a x):=by
   intro d
   induction d with
   |nil=>simp_all[Instr.findAsking]
   |cons e d u=>
    intro i f;obtain⟨y,k⟩:=f e (by simp);have m:=he w x y;by_cases g:x=y
    .subst g;exact .inr ⟨0,e,by simp[Instr.findAsking,k,m],rfl,k⟩
    .rcases u (i+1) (λz n=>f z (by simp[n]))with⟨l,t⟩|⟨j,q,l,t,E⟩
     .refine .inl ⟨by simp[Instr.findAsking,k,m,g,l],λz n=>?_⟩
      grind
     .exact .inr ⟨j+1,q,by simp[Instr.findAsking,k,m,g,l,Nat.add_assoc,Nat.add_comm 1 j],by grind,E⟩
  cases d with
  |nil=>simp_all[Instr.findKey,run_underlying,Instr.findNow]
  |cons e d=>
   have F:Instr.findNow (.struct fs) (QP (a x)) (e::d) 0=none:=by
    rfl
   have G:(Instr.findKey kt (QP (a x)) (e::d)).run P w=(Instr.findAsking kt (QP (a x)) (e::d) 0).run P w:=by
    simp_all[Instr.findKey,run_underlying]
   grind
def Y3{α β:Type}[DecidableEq α](l:List (α×β))(k:α):Option β:=(l.find? λp=>decide (p.1=k)).map (·.2)
def Q3{α β:Type}[DecidableEq α](l:List (α×β))(k:α)(v:β):List (α×β):=bif l.any λp=>decide (p.1=k)then l.map λp=>bif decide (p.1=k)then(p.1,v)else p else l++[(k,v)]
def QB{α β:Type}[DecidableEq α](l:List (α×β))(k:α)(z:β):β:=(Y3 l k).getD z
def Y2{α β:Type}[DecidableEq α](l:List (α×β))(k:α):Bool:=l.any λp=>decide (p.1=k)
def Qj{α β:Type}(ek:α->A)(ev:β->A)(l:List (α×β)):List (A×A):=l.map λp=>(ek p.1,ev p.2)
section
variable {α β:Type} [DecidableEq α] {ek:α->A} {ev:β->A} {ro:Nat->Prop} {σ:Sig} {w:World} (K:Ju P kt ek)
include K
theorem Qgs:∀{l:List (α×β)} {es:List MapEntry},ER ro σ w (Qj ek ev l) es->es.map (·.key)=l.map λp=>QP (ek p.1)
 |[],es,h=>by cases(show es=[]from h);rfl
 |p::l,es,h=>by
  obtain⟨e,l',rfl,h1,h2,h3⟩:=h;simp only[Vj];rw[VR.val (K.scl _) h1,Qgs h3]
theorem QhB{l:List (α×β)}{es:List MapEntry}(h:ER ro σ w (Qj ek ev l) es):∀e∈es,∃y,e.key=QP (ek y):=by
 intro e a;have:e.key∈es.map (·.key):=VF a;rw[Qgs K h]at this
 grind
theorem ER.find:∀{l:List (α×β)} {es:List MapEntry},ER ro σ w (Qj ek ev l) es->∀(x:α),(es.map (·.key)).Nodup->
  ((∀e,e∈es->e.key≠QP (ek x))->Y3 l x=none/\Y2 l x=false)/\
  (∀(j:Nat) (e:MapEntry),es[j]?=some e->e.key=QP (ek x)->Y2 l x=true/\ ∃v,Y3 l x=some v/\VR ro σ w (ev v) e.val)
 |[],es,h,x,_=>by
  cases(show es=[]from h);exact⟨λ_=>⟨rfl,rfl⟩,(by simp)⟩
 |p::l,es,h,x,hn=>by
  obtain⟨e0,l',rfl,h1,h2,h3⟩:=h;have hk:=VR.val (K.scl _) h1;simp[Vj,List.nodup_cons]at hn;obtain⟨a1,a2⟩:=ER.find h3 x hn.2;by_cases hp:p.1=x
  .grind[Y2,Y3]
  .have e1:Y3 (p::l) x=Y3 l x:=by simp[Y3,hp]
   have f:Y2 (p::l) x=Y2 l x:=by simp[Y2,hp]
   constructor
   .grind
   .intro j e a d;cases j with
    |zero=>
     simp[XE,Option.some.injEq]at a;subst a;exact absurd (K.inj _ _ (hk.symm.trans d)) hp
    |succ j=>grind
end
end
end Go.Sw
namespace Go.Sw
open Go.MapKept
section
variable {P:Program} {o:Oper} {env:Env} {H:Qd}
theorem Yj{T:Nat}(e:o.op=.makeMap T none:=by exact rfl):OpH P o env H (.map H.length) (H++[.map []]):=by
 intro f d σ N a w r;refine⟨.map (some w.heap.size),w.alloc (.map #[] 0),d,[some w.heap.size],?_,⟨w.heap.size,?_,rfl⟩,r.sim.alloc ⟨#[],0,Yu _ _,rfl,by simp,by simp,by simp⟩,Qm.alloc _ r.sim.roLt r.sim.frLt⟩
 .simp_all[execOp,Instr.makeMap]
 .rw[<- r.sim.len];simp
section
variable {T kt et:Nat} {α β:Type} [DecidableEq α] {ek:α->A} {ev:β->A} {x y:Operand} {i:Nat} {l:List (α×β)} {k:α} {z0:β} {z:Value}
theorem Qcm(K:Ju P kt ek){ro:Nat->Prop}{w:World}(m:P.underlying T=some (.map kt et))(r:∀w,(zeroValue et).run P w=.ok z w)(f:ZR (ev z0) z){b a:Nat}{es:Array MapEntry}
  (n:w.heap[b]?=some (.map es a))(he:ER ro [] w (Qj ek ev l) es.toList)(q:(es.toList.map (·.key)).Nodup):
  ∃v,(∀ck,(Instr.lookup T (.map (some b)) (QP (ek k)) ck).run P w=.ok (if ck then .tuple #[v,.bool (Y2 l k)]else v) w)/\VR ro [] w (ev (QB l k z0)) v:=by
 obtain⟨s,p⟩:=ER.find K he k q;rcases K.find w k es.toList (QhB K he)with⟨d,h⟩|⟨j,e,d,h,u⟩
 .obtain⟨i,g⟩:=s h;refine⟨z,λck=>?_,?_⟩
  .simp[Instr.lookup,Vm,run_underlying m,Result.andThen,MapKept.run_getObj_map n,Vn,K.check,d,r,g]
  .rw[QB,i];exact f _ _ _
 .obtain⟨i,v,g,t⟩:=p j e h u;refine⟨e.val,λck=>?_,?_⟩
  .simp[Instr.lookup,Vm,run_underlying m,Result.andThen,MapKept.run_getObj_map n,Vn,K.check,d,i]
  .rw[QB,g];exact t
theorem Ye{zv:β}(K:Ju P kt ek)(h:some (QB l k z0)=some zv)(u:P.underlying T=some (.map kt et))(s:∀w,(zeroValue et).run P w=.ok z w)(e:ZR (ev z0) z)
  (M:o.op=.lookup T x y false:=by exact rfl)(hx:opA env x=.map i:=by exact rfl)(hH:H[i]?=some (.map (Qj ek ev l)):=by exact rfl)(hy:opA env y=ek k:=by exact rfl):OpV P o env H (ev zv):=by
 obtain rfl:=XZ h;intro G J σ N a w r;have f:=Qu r x;rw[hx]at f;obtain⟨b,n,F⟩:=f;have g:=Qu r y;rw[hy]at g;have Q:=VR.val (K.scl _) g;obtain⟨O,d,p,j,E,L,t⟩:=r.sim.blk i _ _ n hH;obtain⟨v,B,m⟩:=Qcm K u s e p j t;refine⟨v,?_,m.mono ⟨λ_ q=>q,λ_ _=>rfl,λ_ _ q=>q,(by simp)⟩⟩
 simp_all[execOp]
theorem Qbt{zv:β}(K:Ju P kt ek)(h:some (QB l k z0)=some zv)(u:P.underlying T=some (.map kt et))(s:∀w,(zeroValue et).run P w=.ok z w)(e:ZR (ev z0) z)
  (M:o.op=.lookup T x y true:=by exact rfl)(hx:opA env x=.map i:=by exact rfl)(hH:H[i]?=some (.map (Qj ek ev l)):=by exact rfl)(hy:opA env y=ek k:=by exact rfl):OpV P o env H (.tup [ev zv,.bool (Y2 l k)]):=by
 obtain rfl:=XZ h;intro G J σ N a w r;have f:=Qu r x;rw[hx]at f;obtain⟨b,n,F⟩:=f;have g:=Qu r y;rw[hy]at g;have Q:=VR.val (K.scl _) g;obtain⟨O,d,p,j,E,L,t⟩:=r.sim.blk i _ _ n hH;obtain⟨v,B,m⟩:=Qcm K u s e p j t;refine⟨.tuple #[v,.bool (Y2 l k)],?_,[v,.bool (Y2 l k)],rfl,v,_,rfl,m.mono ⟨λ_ q=>q,λ_ _=>rfl,λ_ _ q=>q,(by simp)⟩,_,_,rfl,rfl,rfl⟩
 simp_all[execOp]
theorem Qj2{zv:β}(K:Ju P kt ek)(h:some (QB l k z0)=some zv)(u:P.underlying T=some (.map kt et))(s:∀w,(zeroValue et).run P w=.ok z w)(e:ZR (ev z0) z)
  (M:o.op=.lookup T x y false:=by exact rfl)(hx:opA env x=.map i:=by exact rfl)(hH:H[i]?=some (.fmap (Qj ek ev l)):=by exact rfl)(hy:opA env y=ek k:=by exact rfl):OpV P o env H (ev zv):=by
 obtain rfl:=XZ h;intro G J σ N a w r;have f:=Qu r x;rw[hx]at f;obtain⟨b,n,F⟩:=f;have g:=Qu r y;rw[hy]at g;have Q:=VR.val (K.scl _) g;obtain⟨_,O,d,p,j,E,L,t⟩:=r.sim.blk i _ _ n hH;obtain⟨v,B,m⟩:=Qcm K u s e p j t;refine⟨v,?_,m.mono ⟨λ_ q=>q,λ_ _=>rfl,λ_ _ q=>q,(by simp)⟩⟩
 simp_all[execOp]
theorem ER.append{ro:Nat->Prop}{σ:Sig}{w:World}:∀{l m:List (A×A)} {es fs:List MapEntry},ER ro σ w l es->ER ro σ w m fs->ER ro σ w (l++m) (es++fs)
 |[],m,es,fs,h,k=>by cases(show es=[]from h);exact k
 |p::l,m,es,fs,h,k=>by
  obtain⟨e,l',rfl,h1,h2,h3⟩:=h;exact⟨e,l'++fs,rfl,h1,h2,ER.append h3 k⟩
theorem ER.put(K:Ju P kt ek){ro:Nat->Prop}{w w':World}{v:β}{val:Value}(a:Ext ro [] w ro [] w')(d:VR ro [] w (ev v) val):∀{l:List (α×β)} {es:List MapEntry} {j:Nat} {e:MapEntry},ER ro [] w (Qj ek ev l) es->
  (es.map (·.key)).Nodup->es[j]?=some e->e.key=QP (ek k)->
  ER ro [] w' (Qj ek ev (l.map λp=>bif decide (p.1=k)then(p.1,v)else p)) (es.modify j λe=>{e with key:=QP (ek k),val:=val})
 |[],es,j,e,h,hn,he,hk=>by cases(show es=[]from h);simp at he
 |p::l,es,j,e,h,hn,he,hk=>by
  obtain⟨e0,l',rfl,h1,h2,h3⟩:=h;have hk0:=VR.val (K.scl _) h1;simp only[Vj,List.nodup_cons]at hn;cases j with
  |zero=>
   simp[XE,Option.some.injEq]at he;subst he;have hp:=K.inj _ _ (hk0.symm.trans hk);have e1:Qj ek ev ((p::l).map λp=>bif decide (p.1=k)then(p.1,v)else p)=(ek p.1,ev v)::Qj ek ev l:=by
    simp only[Qj,Vj,hp,decide_true,Vo,List.map_map,List.cons.injEq,true_and];apply List.map_congr_left;intro q f;have:q.1≠k:=by
     intro e;refine hn.1 ?_;rw[Qgs K h3];exact Xe.2 ⟨q,f,by rw[e, <- hp,hk0]⟩
    simp[this]
   rw[e1];refine⟨_,l',rfl,?_,d.mono a,h3.mono a⟩;rw[<- hp];exact QcU (K.scl _)
  |succ j=>
   have hp:p.1≠k:=by
    intro q;refine hn.1 (Xe.2 ⟨e,VG he,?_⟩);rw[hk,hk0,q]
   have e1:Qj ek ev ((p::l).map λp=>bif decide (p.1=k)then(p.1,v)else p)=(ek p.1,ev p.2)::Qj ek ev (l.map λp=>bif decide (p.1=k)then(p.1,v)else p):=by
    simp[Qj,hp]
   rw[e1];exact⟨_,_,rfl,h1.mono a,h2.mono a,ER.put K a d h3 hn.2 he hk⟩
theorem Q8{m:List (α×β)}(K:Ju P kt ek){v:β}{t:Operand}(hm:some (Q3 l k v)=some m)(hd:Yq (ev v)=true)(hT:P.underlying T=some (.map kt et))
  (ho:o.op=.mapUpdate T x y t:=by exact rfl)(hx:opA env x=.map i:=by exact rfl)(hH:H[i]?=some (.map (Qj ek ev l)):=by exact rfl)(hy:opA env y=ek k:=by exact rfl)(hv:opA env t=ev v:=by exact rfl):
  OpU P o env H (H.set i (.map (Qj ek ev m))):=by
 obtain rfl:=XZ hm;intro fr ro σ N a w r;have h1:=Qu r x;rw[hx]at h1;obtain⟨b,R,q2⟩:=h1;have h2:=Qu r y;rw[hy]at h2;have h3:=VR.val (K.scl _) h2;have h4:=Qu r t;rw[hv]at h4;have J:VR ro [] w (ev v) (a.eval t):=VR.data hd h4;obtain⟨u,d,O,M,p3,p4,W⟩:=r.sim.blk i _ _ R hH;obtain⟨f1,f2⟩:=ER.find K M k W;have F:∀(obj:Obj) y,w.shape? b=some y->({w with heap:=w.heap.setIfInBounds b obj}:World).shape? b=some y:=by
  grind[World.shape?]
 rcases K.find w k u.toList (QhB K M)with⟨Y,G⟩|⟨j,e,Y,G,L⟩
 .obtain⟨u1,u2⟩:=f1 G;have V:Q3 l k v=l++[(k,v)]:=by
   unfold Q3;rw[show(l.any λp=>decide (p.1=k))=false from u2];rfl
  have n:=r.sim.set (x':=.map (Qj ek ev (Q3 l k v))) (obj:=.map (u.push {key:=QP (ek k),val:=a.eval t,born:=d}) (d+1)) R hH rfl (F _)
   (λe Q=>⟨_,_,Q,by
    rw[V,Qj,Xf,Array.toList_push];exact(M.mono ⟨e.sub,e.keep,e.shape,λ_ _ q=>q⟩).append ⟨_,_,rfl,QcU (K.scl _),J.mono ⟨e.sub,e.keep,e.shape,λ_ _ q=>q⟩,rfl⟩,by
    grind,by
    grind,by
    grind⟩)
  refine⟨_,ro,[],?_,by grind,n.2⟩;simp only[execOp,ho,q2,h3,Vm,Instr.mapUpdate,run_underlying hT,Result.andThen,MapKept.run_getObj_map O,K.check,Y,MapKept.run_setObj_map _ O];rfl
 .obtain⟨u1,u2⟩:=f2 j e G L;have V:Q3 l k v=l.map λp=>bif decide (p.1=k)then(p.1,v)else p:=by
   unfold Q3;rw[show(l.any λp=>decide (p.1=k))=true from u1];rfl
  have hj:u[j]?=some e:=by grind
  have g:(u.modify j λe=>{e with key:=QP (ek k),val:=a.eval t}).toList=u.toList.modify j λe=>{e with key:=QP (ek k),val:=a.eval t}:=by simp
  have s:∀{γ:Type} (f:MapEntry->γ),(∀E,u.toList[j]?=some E->f {E with key:=QP (ek k),val:=a.eval t}=f E)->(u.toList.modify j λe=>{e with key:=QP (ek k),val:=a.eval t}).map f=u.toList.map f:=by
   intro γ f hf;apply List.ext_getElem?
   grind
  have n:=r.sim.set (x':=.map (Qj ek ev (Q3 l k v))) (obj:=.map (u.modify j λe=>{e with key:=QP (ek k),val:=a.eval t}) d) R hH rfl (F _)
   (λX Q=>⟨_,_,Q,by
    rw[V,g];exact ER.put K ⟨X.sub,X.keep,X.shape,λ_ _ q=>q⟩ J M W G L,by
    rw[g];intro E z;have:E.born∈(u.toList.modify j λe=>{e with key:=QP (ek k),val:=a.eval t}).map (·.born):=VF z;rw[s (·.born) (λ_ _=>rfl)]at this;obtain⟨e2,h,h'⟩:=Xe.1 this;rw[<- h'];exact p3 e2 h,by
    rw[g,s (·.born) (λ_ _=>rfl)];exact p4,by
    rw[g,s (·.key) (λE z=>by rw[G]at z;cases z;exact L.symm)];exact W⟩)
  refine⟨_,ro,[],?_,by simpa using n.1,n.2⟩;have B:=K.stays w k;simp only[execOp,ho,q2,h3,Vm,Instr.mapUpdate,run_underlying hT,Result.andThen,MapKept.run_getObj_map O,K.check,Y,hj,Xj,Option.getD_some,L,B,MapKept.run_setObj_map _ O];rfl
theorem ER.length{ro:Nat->Prop}{σ:Sig}{w:World}:∀{l:List (A×A)} {es:List MapEntry},ER ro σ w l es->es.length=l.length
 |[],es,h=>by cases(show es=[]from h);rfl
 |p::l,es,h=>by
  obtain⟨e,l',rfl,_,_,h3⟩:=h;simp[ER.length h3]
theorem Qe0{c:Call}{n:Int}(t:P.underlying T=some (.map kt et))(k:(l.length:Int)=n)(u:o.op=.call c:=by exact rfl)(hc:c={callee:=.builtin .len,args:= #[x],argTypes:= #[T]}:=by exact rfl)
  (hx:opA env x=.map i:=by exact rfl)(hH:H[i]?=some (.map (Qj ek ev l)):=by exact rfl):OpV P o env H (.int .i64 n):=by
 intro z E σ N a w r;have g:=Qu r x;rw[hx]at g;obtain⟨b,q,f⟩:=g;obtain⟨h,e,s,j,y,F,B⟩:=r.sim.blk i _ _ q hH;have m:=j.length;refine⟨.int .i64 n,?_,rfl⟩;have d:goInt h.size=.int .i64 n:=by
  have:h.size=l.length:=by rw[<- Array.length_toList,m];simp[Qj]
  rw[this, <- k];rfl
 subst hc;have p:=f;generalize a.eval=ρ at*;rw[<- d];simp[execOp,u,f,resolve,invoke,Go.builtin,Builtin.len_,run_underlying t,MapKept.run_getObj_map s,go_sem]
end
end
end Go.Sw
namespace Go.Sw
open Go.ChangeMaps (setBlock)
section
variable {P:Program} {o:Oper} {env:Env} {H:Qd} {h0 N:Nat} {Q:QG}
def OpE(P:Program)(o:Oper)(env:Env)(H:Qd)(K:A->Qd->Prop):Prop:=
 ∀fr ro σ N a w,Rel fr ro σ H env N a w->∃x H' v w' ro' τ,K x H'/\(execOp a.eval o).run P w=.ok (.value v) w'/\VR ro' (σ++τ) w' x v/\
  Sim fr ro' (σ++τ) H' w'/\Qm fr ro w ro' w'
theorem QlA{all:Array Oper}{l:List Oper}{d:Nat}{K:A->Qd->Prop}(p:h0<=H.length)(hg:QI all o env true)(n:o.dst=some d)(F:Nat.blt d N=true)
  (h:OpE P o env H K)(k:∀x H',K x H'->WO P h0 N all l (up env d x) H' Q):WO P h0 N all (o::l) env H Q:=by
 intro u fr y σ a w r hrd;obtain⟨x,H',v,j,f,τ,B,t,z,m,g⟩:=h fr y σ N a w r;refine Qaa (YO hg r) t ?_;simp[n];have i:d<N:=by simp_all
 have E:Rel fr f (σ++τ) H' (up env d x) N {a with tmps:=a.tmps.setIfInBounds d v} j:=
  ⟨m,VR.up (fr:=fr) (λs=>(r.env s).mono (g.ext σ τ)) (by rw[r.size];exact i) z,by simpa using r.size,r.defers.keep g⟩
 refine Yo (λe a w q=>q.step g (QS ?_)) _ _ _ (k x H' B u fr f (σ++τ) _ j E (hrd.to g λ_ q=>q));rw[r.sim.len];exact p
theorem Sim.shutMap{fr ro:Nat->Prop}{σ:Sig}{w:World}(s:Sim fr ro σ H w){i b:Nat}{es:List (A×A)}(hσ:σ[i]?=some (some b))(p:H[i]?=some (.map es)):
  Sim fr (λc=>ro c\/c=b) σ (H.set i (.fmap es)) w:=by
 have hown:=s.own i b _ hσ p rfl;have ext:Ext ro σ w (λc=>ro c\/c=b) σ w:=⟨λ_ q=>.inl q,λ_ _=>rfl,λ_ _ q=>q,λ_ _ q=>q⟩;have a:∀(j:Nat) (v:Blk),(H.set i (.fmap es))[j]?=some v->v.live=true->j≠i/\H[j]?=some v:=by
  intro j v h F;by_cases e:j=i
  .subst e;rw[Xb]at h
   grind[Blk.live]
  grind
 have n:∀(j:Nat) (v:Blk),(H.set i (.fmap es))[j]?=some v->v.holds=true->H[j]?=some v:=by
  intro j v h F;by_cases e:j=i
  .subst e;rw[Xb]at h;simp only[if_true]at h;split at h
   .cases h;cases F
   .simp at h
  grind
 refine⟨by rw[X4];exact s.len,s.roOk.to (λ_ q=>.inl q) (λ_ _=>rfl) ?_,s.frLt,?_,?_,?_,?_,s.hidTo (· = ·) Yb (XT _) (λj d x c L M O N=>N.elim id λq=>((s.hid j d x c L M O).ne i b _ hσ p rfl q).elim) (by simp) (by grind)⟩
 .rintro c (q|rfl)
  .exact s.roLt c q
  omega
 .rintro c (q|rfl)
  .exact s.roFr c q
  grind
 .intro j c v g f m;obtain⟨e,f⟩:=a j v f m;obtain⟨u,t,r⟩:=s.own j c v g f m;refine⟨u,?_,r⟩;rintro(q|rfl)
  .exact t q
  .exact e (s.inj j i c v _ g hσ f p m rfl)
 .intro j z c v B g f m J G E;exact s.inj j z c v B g f (a j v m G).2 (a z B J E).2 G E
 .intro j y v g f;by_cases e:j=i
  .subst e;rw[hσ]at g;cases g;rw[Xb]at f;simp only[if_true]at f;split at f
   .cases f;obtain⟨l,k,u,t,r⟩:=s.blk j _ _ hσ p;exact⟨.inr rfl,l,k,u,t.mono ext.nil,r⟩
   .simp at f
  .rw[XP (λq=>e q.symm)]at f;exact(s.blk j y v g f).keep ext (λ_ _ _=>rfl) (λ_ _ _ _=>rfl)
section
variable {T kt et i:Nat} {x:Operand} {es:List (A×A)}
theorem OpH.range(B:P.underlying T=some (.map kt et))(F:o.op=.range T x:=by exact rfl)(hx:opA env x=.map i:=by exact rfl)(hH:H[i]?=some (.map es):=by exact rfl):
  OpH P o env H (.ptr H.length 0) (H.set i (.fmap es)++[.iter none es]):=by
 intro p j σ N a w r;have n:=Qu r x;rw[hx]at n;obtain⟨b,m,t⟩:=n;obtain⟨l,d,s,u,y,E,G⟩:=r.sim.blk i _ _ m hH;have z:=(r.sim.own i b _ m hH rfl).1;have k:=r.sim.shutMap m hH;have g:Qm p j w (λc=>j c\/c=b) w:=Q5 (λ_ q=>.inl q);have f:Qm p (λc=>j c\/c=b) w (λc=>j c\/c=b) (w.alloc (.mapIter (some b) d #[] d)):=Qm.alloc _ k.roLt k.frLt;have ext0:=(g.trans f).ext0 [];refine⟨.pointer (some ⟨w.heap.size,0,none⟩),w.alloc (.mapIter (some b) d #[] d),_,[some w.heap.size],?_,⟨w.heap.size,?_,rfl⟩,
  k.alloc (.inr ⟨b,l,d, #[],l.toList,Yu _ _,.inr rfl,by rw[Yk _ _ _ z];exact s,y,E,?_,u.mono ext0,λ_ h=>by cases h⟩),g.trans f⟩
 .simp only[execOp,F,t,Instr.range,Vm,run_underlying B,Result.andThen,MapKept.run_getObj_map s];rfl
 .rw[<- r.sim.len];simp
 .have:l.toList.filter (λe=> !#[].contains e.born)=l.toList:=by simp
  rw[this]
theorem Qig(y:P.underlying T=some (.map kt et))(B:o.op=.range T x:=by exact rfl)(hx:opA env x=.map i:=by exact rfl)(hH:H[i]?=some (.fmap es):=by exact rfl):
  OpH P o env H (.ptr H.length 0) (H++[.iter none es]):=by
 intro s m σ N a w r;have j:=Qu r x;rw[hx]at j;obtain⟨b,t,n⟩:=j;obtain⟨g,l,d,k,p,q,z,E⟩:=r.sim.blk i _ _ t hH;have u:=r.sim.roLt b g;have f:Qm s m w m (w.alloc (.mapIter (some b) d #[] d)):=Qm.alloc _ r.sim.roLt r.sim.frLt;have ext0:=f.ext0 [];refine⟨.pointer (some ⟨w.heap.size,0,none⟩),w.alloc (.mapIter (some b) d #[] d),_,[some w.heap.size],?_,⟨w.heap.size,?_,rfl⟩,
  r.sim.alloc (.inr ⟨b,l,d, #[],l.toList,Yu _ _,g,by rw[Yk _ _ _ u];exact k,q,z,?_,p.mono ext0,λ_ h=>by cases h⟩),f⟩
 .simp only[execOp,B,n,Instr.range,Vm,run_underlying y,Result.andThen,MapKept.run_getObj_map k];rfl
 .rw[<- r.sim.len];simp
 .have:l.toList.filter (λe=> !#[].contains e.born)=l.toList:=by simp
  rw[this]
theorem ER.mem{ro:Nat->Prop}{σ:Sig}{w:World}:∀{es:List (A×A)} {l:List MapEntry},ER ro σ w es l->∀e∈l,∃x es' l',(x::es').Perm es/\(e::l').Perm l/\VR ro σ w x.1 e.key/\VR ro σ w x.2 e.val/\ER ro σ w es' l'
 |[],l,h,e,he=>by cases(show l=[]from h);cases he
 |y::es,l,h,e,he=>by
  obtain⟨e0,l',rfl,h1,h2,h3⟩:=h;rcases X6.1 he with rfl|he
  .exact⟨y,es,l',.refl _,.refl _,h1,h2,h3⟩
  .obtain⟨x,es',l'',p1,p2,v1,v2,h4⟩:=ER.mem h3 e he;exact⟨x,y::es',e0::l'',(List.Perm.swap _ _ _).trans (p1.cons _),(List.Perm.swap _ _ _).trans (p2.cons _),v1,v2,⟨e0,l'',rfl,h1,h2,h4⟩⟩
theorem Qhr:∀{l:List MapEntry},(l.map (·.born)).Nodup->∀a∈l,∀b∈l,a.born=b.born->a=b
 |[],_,a,ha,_,_,_=>by cases ha
 |c::l,hn,a,ha,b,hb,hab=>by
  simp[Vj,List.nodup_cons]at hn;rcases X6.1 ha with ea|ha'<;>rcases X6.1 hb with eb|hb'
  .rw[ea,eb]
  .grind
  .grind
  .exact Qhr hn.2 a ha' b hb' hab
def NextK(H:Qd)(i:Nat)(cur:Option (A×A))(es:List (A×A))(v:A)(H':Qd):Prop:=
 (es=[]/\v=.tup [.bool false]/\H'=H)\/ ∃e es',(e::es').Perm es/\v=.tup [.bool true,e.1,e.2]/\H'=H.set i (.iter (some e) es')
theorem OpE.next{J:Option (A×A)}(ho:o.op=.next x false:=by exact rfl)(hx:opA env x=.ptr i 0:=by exact rfl)(hH:H[i]?=some (.iter J es):=by exact rfl):
  OpE P o env H (NextK H i J es):=by
 intro fr u σ N a w r;have h1:=Qu r x;rw[hx]at h1;obtain⟨b,q1,q2⟩:=h1;have k:∀(v:Value) (g:World),g.heap=w.heap->g.os=w.os->g.tape=w.tape->g.output=w.output->w.drawn<=g.drawn->Sim fr u (σ++[]) H g/\Qm fr u w u g:=by
  intro v g V W e3 e4 e5;exact⟨by simpa using r.sim.heap V,Qm.heap V W e3 e4 e5⟩
 rcases r.sim.blk i _ _ q1 hH with⟨rfl,rfl,p⟩|⟨m,l,f,d,left,p1,p2,p3,p4,p5,p6,p7,p8⟩
 .refine⟨_,_,.tuple #[.bool false],w,u,[],.inl ⟨rfl,rfl,rfl⟩,?_,⟨_,rfl,_,_,rfl,rfl,rfl⟩,k (.bool false) w rfl rfl rfl rfl (XT _)⟩;generalize a.eval=ρ at*;simp only[execOp,ho,q2,Instr.next,Vm,getObj,Sem.run,p,Result.andThen];rfl
 .have Y:(leftOf l d).toList=l.toList.filter λe=> !d.contains e.born:=by simp[leftOf]
  have s:left.Perm (leftOf l d).toList:=by grind
  rcases run_next_at (P:=P) w o.type b m f f d l f p1 p3 p4 (XT _)with⟨g1,g2⟩|⟨e,g1,g,g2,g3⟩
  .have aa:left=[]:=by
    have:left.length=0:=by rw[s.length_eq];omega
    grind
   subst aa;have ae:es=[]:=by
    have:=p7.length
    grind
   refine⟨_,_,.tuple #[.bool false],w,u,[],.inl ⟨ae,rfl,rfl⟩,?_,⟨_,rfl,_,_,rfl,rfl,rfl⟩,k (.bool false) w rfl rfl rfl rfl (XT _)⟩
   simp_all[execOp]
  .have he:e∈left:=s.mem_iff.2 g1;have M:e∈l.toList:=by grind
   obtain⟨y,O,L,k1,k2,v1,v2,k3⟩:=p7.mem e he;have n:g.heap=w.heap/\g.os=w.os/\g.tape=w.tape/\g.output=w.output/\w.drawn<=g.drawn:=by
    rcases g2 with rfl|rfl
    .simp
    .exact⟨rfl,rfl,rfl,rfl,Nat.le_succ _⟩
   obtain⟨s1,E⟩:=k (.bool false) g n.1 n.2.1 n.2.2.1 n.2.2.2.1 n.2.2.2.2;rw[Vg]at s1;have af:b≠m:=by
    grind
   have B:=s1.set (x':=.iter (some y) O) (obj:=.mapIter (some m) f (d.push e.born) f) q1 hH rfl
    (λz R=>by
     grind[World.shape?])
    (λt ab=>.inr ⟨m,l,f,d.push e.born,L,ab,t.sub _ p2,by
      grind,p4,p5,by
      have ac:(l.toList.filter λe=> !d.contains e.born).Nodup:=by
       have:l.toList.Nodup:=List.Pairwise.of_map _ (λa b h q=>h (congrArg _ q)) p5;exact this.filter _
      have X:(e::L).Perm (l.toList.filter λe=> !d.contains e.born):=k2.trans p6;have G:(e::L).Nodup:=X.nodup_iff.2 ac;have V:(l.toList.filter λF=> !(d.push e.born).contains F.born)=(l.toList.filter λe=> !d.contains e.born).filter λF=> !decide (F.born=e.born):=by
       rw[List.filter_filter];apply List.filter_congr;intro z _;simp[Array.contains_push,Bool.and_comm]
      rw[V];have h2:=X.filter (λF=> !decide (F.born=e.born));have W:(e::L).filter (λF=> !decide (F.born=e.born))=L:=by
       rw[List.filter_cons_of_neg (by simp),List.filter_eq_self];intro z R;have ad:z∈l.toList:=(Xd.1 (X.mem_iff.1 (X5 _ R))).1;simp only[Bool.not_eq_true',decide_eq_false_iff_not];intro hb;have:z=e:=by
        exact Qhr p5 z ad e M hb
       subst this;exact(List.nodup_cons.1 G).1 R
      rw[W]at h2;exact h2,by
      have T:Ext u [] w u [] g:=E.ext0 [];exact(k3.mono T).mono ⟨t.sub,t.keep,t.shape,λ_ _ q=>q⟩,by
      intro z R;cases R;have T:Ext u [] w u [] g:=E.ext0 [];exact⟨e,M,by simp,(v1.mono T).mono ⟨t.sub,t.keep,t.shape,λ_ _ q=>q⟩,(v2.mono T).mono ⟨t.sub,t.keep,t.shape,λ_ _ q=>q⟩⟩⟩)
   have Q:=E.trans B.2;have xt:=Q.ext0 [];refine⟨_,_,.tuple #[.bool true,e.key,e.val],_,u,[],.inr ⟨y,O,k1,rfl,rfl⟩,?_,
    ⟨[.bool true,e.key,e.val],rfl,_,_,rfl,rfl,_,_,rfl,(v1.mono xt).mono ⟨λ_ q=>q,λ_ _=>rfl,λ_ _ q=>q,λj c q=>by simp at q⟩,_,_,rfl,(v2.mono xt).mono ⟨λ_ q=>q,λ_ _=>rfl,λ_ _ q=>q,λj c q=>by simp at q⟩,rfl⟩,by simpa using B.1,Q⟩
   generalize a.eval=ρ at*;simp only[execOp,ho,q2,Vm,g3,Result.andThen,setBlock];rfl
theorem OpV.entry{e:A×A}(R:o.op=.entry x:=by exact rfl)(hx:opA env x=.ptr i 0:=by exact rfl)(hH:H[i]?=some (.iter (some e) es):=by exact rfl):OpV P o env H (.tup [e.1,e.2]):=by
 intro F O σ N a w r;have j:=Qu r x;rw[hx]at j;obtain⟨b,p,E⟩:=j;rcases r.sim.blk i _ _ p hH with⟨_,h,_⟩|⟨m,l,d,g,left,M,L,z,G,u,Q,J,y⟩
 .cases h
 .obtain⟨f,s,B,t,n⟩:=y e rfl;refine⟨.tuple #[f.key,f.val],?_,[f.key,f.val],rfl,_,_,rfl,t.mono ⟨λ_ q=>q,λ_ _=>rfl,λ_ _ q=>q,(by simp)⟩,_,_,rfl,n.mono ⟨λ_ q=>q,λ_ _=>rfl,λ_ _ q=>q,(by simp)⟩,rfl⟩;have k:l.find? (·.born==f.born)=some f:=by rw[<- Array.find?_toList];exact find_born f l.toList u s
  simp_all[execOp,Instr.entry,getObj,Sem.run]
end
end
end Go.Sw
namespace Go.Sw
def QhJ{S E B:Type}(stepE:S->E->Option (Ctl S B))(stepN:S->Option B):S->List E->Option B
 |s,[]=>stepN s
 |s,e::p=>match stepE s e with
  |some (.cont s')=>QhJ stepE stepN s' p
  |some (.done b)=>some b
  |none=>none
def Qdi{E:Type}(x:E):List E->List (List E)
 |[]=>[[x]]
 |y::l=>(x::y::l)::(Qdi x l).map (y:: ·)
def Qfs{E:Type}:List E->List (List E)
 |[]=>[[]]
 |x::l=>(Qfs l).flatMap (Qdi x)
theorem Qeu{E:Type}(x:E):∀(a b:List E),a++x::b∈Qdi x (a++b)
 |[],[]=>by simp[Qdi]
 |[],y::b=>by simp[Qdi]
 |y::a,b=>by
  simp only[VJ,Qdi,X6,Xe];exact .inr ⟨a++x::b,Qeu x a b,rfl⟩
theorem Qfr{E:Type}:∀(l p:List E),p.Perm l->p∈Qfs l
 |[],p,h=>by rw[List.perm_nil.1 h];simp[Qfs]
 |x::l,p,h=>by
  have hx:x∈p:=h.mem_iff.2 (by simp);obtain⟨a,b,rfl⟩:=List.append_of_mem hx;have h2:=(List.perm_cons x).1 ((List.perm_middle.symm).trans h);simp[Qfs,List.mem_flatMap];exact⟨a++b,Qfr l _ h2,Qeu x a b⟩
def anyP{E R:Type}[DecidableEq R](k:List E->Option R)(l:List E):Option R:=bif (Qfs l).all (λp=>decide (k p=k l))then k l else none
theorem QmL{E R:Type}[DecidableEq R]{k:List E->Option R}{l:List E}{r:R}(h:anyP k l=some r)(p:List E)(a:p.Perm l):k p=some r:=by
 unfold anyP at h;cases q:(Qfs l).all (λp=>decide (k p=k l))with
 |true=>
  simp_all[Qfr]
 |false=>grind
def QhD{S E B:Type}(stepE:S->E->Option (Ctl S B))(stepN:S->Option B)(G:B->Prop)(s:S)(l:List E):Prop:=∀p,p.Perm l->∃b,QhJ stepE stepN s p=some b/\G b
section
variable {P:Program} {o:Oper} {env:Env} {H:Qd} {h0 N:Nat} {Q:QG} {c:Code}
def Qb9(I:Env->Qd->Prop)(Q:QG):QG
 |.normal,env,H=>I env H
 |.exit id,env,H=>Q (.exit id) env H
 |.ret,env,H=>Q .ret env H
theorem QlF{I:Nat->Env->Qd->Prop}(u:∀n env H,I n env H->TC P h0 N c env H (Qb9 (λenv H=>∃n',n'<n/\I n' env H) Q)){n:Nat}(F:I n env H):TC P h0 N (.loop c) env H Q:=by
 intro R p z σ a w r hrd b k cs hro hb hr;have E:∀m n env H fr1 ro1 σ1 a1 w1,n<m->I n env H->Rel fr1 ro1 σ1 H env N a1 w1->Qm p z w ro1 w1->σ1.take h0=σ.take h0->Grow p w a.defers fr1 a1.defers->
   ∃e h g,Qau h0 p z σ w N a.defers Q e h g/\ArrivesIn (Machine.fenced P (WF R)) P (lone (b.atR a1 (.code c::.inLoop c::k)) cs w1) b k cs e h g:=by
  intro m
  induction m with
  |zero=>omega
  |succ m ih=>
   intro n env H fr1 ro1 σ1 a1 w1 hn F r1 ev1 t1 g1;obtain⟨e,h,g,B,d⟩:=u n env H F R fr1 ro1 σ1 a1 w1 r1 (hrd.to ev1 g1.sub) b (.inLoop c::k) cs hro hb hr;obtain⟨x,f,H',s,σ',t,y,l,O,X,J,Y⟩:=B;have j:=ev1.trans (X.frMono g1.sub);have M:=g1.trans ev1.size Y;have L:∀x,Q x f H'->ExR e x->Qau h0 p z σ w N a.defers Q e h g:=λx q q'=>⟨x,f,H',s,σ',t,q',q,O,j,J.trans t1,M⟩;cases e with
   |normal=>
    obtain rfl:x=.normal:=y;obtain⟨n',W,l⟩:=l;obtain⟨T,V,w2,G,i⟩:=ih n' f H' t s σ' h g (by omega) l O j (J.trans t1) M;exact⟨T,V,w2,G,.of_steps (StepsIn.trans d (.one (fenced_calm hb hr rfl) stepR_inLoop)) i⟩
   |exit id=>
    obtain rfl:x=.exit id:=y;exact⟨_,h,g,L _ l rfl,.pass rfl (by simp) d⟩
   |ret=>
    obtain rfl:x=.ret:=y;exact⟨_,h,g,L _ l rfl,.pass rfl (by simp) d⟩
   |_=>exact y.elim
 obtain⟨e,h,g,B,d⟩:=E (n+1) n env H p z σ a w (Xn _) F r (Qm.refl _ _ _) rfl (Grow.refl _ _ _);exact⟨e,h,g,B,.of_steps (.one (fenced_calm hb hr rfl) stepR_loop) d⟩
section
variable {S E B:Type} {stepE:S->E->Option (Ctl S B)} {stepN:S->Option B} {G:B->Prop} (Es:S->Env) (Hp:S->List (A×A)->Qd) {enc:E->A×A}
def AtP(stepE:S->E->Option (Ctl S B))(stepN:S->Option B)(G:B->Prop)(enc:E->A×A)(h0 n:Nat)(env:Env)(H:Qd):Prop:=
 ∃s l,l.length=n/\QhD stepE stepN G s l/\Le h0 env H (Es s) (Hp s (l.map enc))
theorem QlE{s0:S}{l0:List E}(h:QhD stepE stepN G s0 l0)(hI:Le h0 env H (Es s0) (Hp s0 (l0.map enc)))
  (body:∀s l,QhD stepE stepN G s l->TC P h0 N c (Es s) (Hp s (l.map enc)) (Qb9 (λenv H=>∃n',n'<l.length/\AtP Es Hp stepE stepN G enc h0 n' env H) Q)):TC P h0 N (.loop c) env H Q:=
 QlF (I:=AtP Es Hp stepE stepN G enc h0) (λn env H ⟨s,l,hn,ha,hle⟩=>by subst hn;exact TC.le hle (body s l ha)) ⟨s0,l0,rfl,h,hI⟩
theorem Qjj{α β:Type}{f:α->β}:∀{m g:List β},m.Perm g->∀{l:List α},g=l.map f->∃l':List α,l'.Perm l/\l'.map f=m:=by
 intro m g h
 induction h with
 |nil=>simp
 |cons x _ ih=>
  intro l d;cases l with
  |nil=>cases d
  |cons a l=>
   simp[Vj,List.cons.injEq]at d;obtain⟨l',e,i⟩:=ih d.2;exact⟨a::l',e.cons _,by grind⟩
 |swap x y m=>
  intro l d
  match l,d with
  |a::b::l,d=>
   exact⟨b::a::l,List.Perm.swap _ _ _,by grind⟩
 |trans _ _ ih1 ih2=>
  intro l d;obtain⟨p,e,i⟩:=ih2 d;obtain⟨j,n,k⟩:=ih1 i.symm;exact⟨j,n.trans e,k⟩
theorem QlB{all:Array Oper}{L:List Oper}{d i:Nat}{x:Operand}{q:Option (A×A)}{s:S}{l:List E}(u:QhD stepE stepN G s l)
  (F:∀b,stepN s=some b->G b->WO P h0 N all L (up env d (.tup [.bool false])) H Q)
  (B:∀e l' D,stepE s e=some D->(∀b,D=.done b->G b)->(l'.length<l.length/\ ∀s',D=.cont s'->QhD stepE stepN G s' l')->
   WO P h0 N all L (up env d (.tup [.bool true,(enc e).1,(enc e).2])) (H.set i (.iter (some (enc e)) (l'.map enc))) Q)
  (J:o.op=.next x false:=by exact rfl)(hx:opA env x=.ptr i 0:=by exact rfl)(hH:H[i]?=some (.iter q (l.map enc)):=by exact rfl)
  (hg:QI all o env true:=by exact rfl)(hd:o.dst=some d:=by exact rfl)(hN:Nat.blt d N=true:=by exact rfl)(hh:Nat.ble h0 H.length=true:=by exact rfl):WO P h0 N all (o::L) env H Q:=by
 refine QlA (XR hh) hg hd hN (OpE.next J hx hH) ?_;rintro v H' (⟨n,rfl,rfl⟩|⟨e,y,n,rfl,rfl⟩)
 .have:=List.map_eq_nil_iff.1 n;subst this;obtain⟨b,k,j⟩:=u [] (.refl _);exact F b k j
 .obtain⟨z,k,j⟩:=Qjj n rfl;cases z with
  |nil=>cases j
  |cons a l'=>
   obtain⟨rfl,rfl⟩:=j;have g:l'.length<l.length:=by rw[<- k.length_eq];simp
   have f:∀p,p.Perm l'->∃b,QhJ stepE stepN s (a::p)=some b/\G b:=λp r=>u _ ((r.cons a).trans k);cases m:stepE s a with
   |none=>
    obtain⟨b,h,_⟩:=f l' (.refl _);simp[QhJ,m]at h
   |some D=>
    refine B a l' D m ?_ ⟨g,?_⟩
    .obtain⟨w,h,t⟩:=f l' (.refl _)
     grind[QhJ]
    .rintro s' rfl p r;obtain⟨w,h,t⟩:=f p r;simp[QhJ,m]at h;exact⟨w,h,t⟩
theorem Qnt{s:S}{l l':List E}{D:Ctl S B}(e:some (Ctl.cont s)=some D)(hc:l'.length<l.length/\ ∀s',D=.cont s'->QhD stepE stepN G s' l')(h:Le h0 env H (Es s) (Hp s (l'.map enc))):
  Qb9 (λenv H=>∃n',n'<l.length/\AtP Es Hp stepE stepN G enc h0 n' env H) Q .normal env H:=
 ⟨_,hc.1,s,l',rfl,(by grind),h⟩
theorem Qns{I:Env->Qd->Prop}{id:Nat}(h:Q (.exit id) env H):Qb9 I Q (.exit id) env H:=h
end
def Qm4{B:Type}(h0:Nat)(G:B->Prop)(Eb:B->Env)(Hb:B->Qd)(Q:QG):QG
 |.normal,env,H=>∃b,G b/\Le h0 env H (Eb b) (Hb b)
 |.exit id,env,H=>Q (.exit id) env H
 |.ret,env,H=>Q .ret env H
theorem QmO{S E B:Type}{stepE:S->E->Option (Ctl S B)}{stepN:S->Option B}{G:B->Prop}{s0:S}{l0:List E}(hl:QhD stepE stepN G s0 l0)(Eb:B->Env)(Hb:B->Qd)
  (h:TC P h0 N c env H (Qm4 h0 G Eb Hb Q))(k:∀b env H,G b->Le h0 env H (Eb b) (Hb b)->Q .normal env H):TC P h0 N c env H Q:=
 h.mono λx env' H' q=>by
  cases x with
  |normal=>obtain⟨b,e,q⟩:=q;grind
  |exit id=>exact q
  |ret=>exact q
theorem cutGN{B:Type}{G:B->Prop}{Eb:B->Env}{Hb:B->Qd}{b:B}(hG:G b)(h:Le h0 env H (Eb b) (Hb b)):Qm4 h0 G Eb Hb Q .normal env H:=⟨b,hG,h⟩
theorem Qj9{i:Nat}{f:Option (A×A)}{es:List (A×A)}{H':Qd}(n:H[i]?=some (.iter f es))(d:H.set i (.iter none es)=H'):Le h0 env H env H':=by
 subst d;intro u s σ N a w r;refine⟨s,σ,⟨r.sim.weaken n rfl ?_,r.env,r.size,r.defers⟩,λ_ q=>q,rfl⟩;intro y h;cases y with
 |none=>exact h
 |some b=>
  rcases h with⟨j,p,k⟩|⟨m,l,e,g,left,j,p,k,t,E,z,x,B⟩
  .exact .inl ⟨j,rfl,k⟩
  .exact .inr (by grind)
end
def mk{α:Type}(n:Int)(z:α):Option (List α):=bif decide (0<=n)&&decide (n<=4294967296)then some (List.replicate n.toNat z)else none
theorem mk_ok{α:Type}{n:Int}{z:α}{l:List α}(h:mk n z=some l):0<=n/\n<=4294967296/\List.replicate n.toNat z=l:=by
 unfold mk at h;cases q:(decide (0<=n)&&decide (n<=4294967296))with
 |true=>rw[q]at h;simp at q;exact⟨q.1,q.2,XZ h⟩
 |false=>rw[q]at h;cases h
theorem Qfq{α:Type}[Inhabited α](zl:List α)(k:Nat)(hk:zl.length=k)(h0:0<k):∀n,(List.range (n*k)).map (λi=>zl.toArray[i%zl.toArray.size]!)=(List.replicate n zl).flatten
 |0=>by simp
 |n+1=>by
  rw[Xm,List.range_add,Xf,Qfq zl k hk h0 n,List.replicate_succ',List.flatten_append];congr 1;simp only[Vl,List.flatten_nil,Vg,List.map_map];apply List.ext_getElem
  .simp[hk]
  .intro i h1 h2;simp only[X2,List.length_range]at h1;simp only[List.getElem_map,List.getElem_range,Function.comp,List.size_toArray,hk];rw[Nat.mul_comm,Nat.mul_add_mod,Nat.mod_eq_of_lt h1];simp[hk,h1]
section
variable {P:Program} {o:Oper} {env:Env} {H:Qd} {ro:Nat->Prop} {σ:Sig} {w:World}
theorem LR.replicate{az:List A}{l:List Value}(h:LR ro σ w az l):∀n,LR ro σ w (List.replicate n az).flatten (List.replicate n l).flatten
 |0=>rfl
 |n+1=>by
  rw[Xl,Xl];exact h.append (LR.replicate h n)
theorem Qme{α:Type}{e:α->List A}{T et k:Nat}{x y:Operand}{R ky:IntKind}{n:Int}{zv:α}{l:List α}{z:Value}{a:A}(V:mk n zv=some l)(E:Q7 P T et k)(hz:∀w,(zeroValue et).run P w=.ok z w)(ab:ZR a z)
  (hk:Yn a=true)(hc:Yd a=e zv)(hp:(Yd a).all Yr=true)(s:Nat.beq (e zv).length k=true)
  (ho:o.op=.makeSlice T x y:=by exact rfl)(hx:opA env x=.int R n:=by exact rfl)(hy:opA env y=.int ky n:=by exact rfl)
  {fr ro:Nat->Prop}{σ:Sig}{N:Nat}{act:Act}{w:World}(r:Rel fr ro σ H env N act w):∃lv:List Value,(execOp act.eval o).run P w=.ok (.value (.slice (some ⟨w.heap.size,0,none⟩) l.length l.length)) (w.alloc (.cells lv.toArray et))/\
   LR ro [] w (l.map e).flatten lv/\(∀v∈lv,QA v)/\allK k (l.map e)/\lv.length=l.length*k/\l.length<=4294967296:=by
 obtain⟨n0,n1,hl⟩:=mk_ok V;have h1:=Qu r x;rw[hx]at h1;have h2:=Qu r y;rw[hy]at h2;have ac:act.eval x=.int R n:=h1;have Q:act.eval y=.int ky n:=h2;obtain⟨i,hi,ag⟩:=E.bytes;obtain⟨f,c1,M⟩:=(ab ro [] w).cells hk;have t:f.length=k:=by
  rw[M.length,hc];exact XQ s
 have ae:(if n.toNat*k=0 then(#[]:Array Value)else f.toArray)=f.toArray\/n.toNat*k=0:=by
  by_cases q:n.toNat*k=0
  .exact .inr q
  .exact .inl (Vr q)
 have d:∀(ZZ:Array Value),(ZZ=f.toArray\/n.toNat*k=0)->(Array.range (n.toNat*k)).map (λj=>ZZ[j%ZZ.size]!)=((List.replicate n.toNat f).flatten).toArray:=by
  intro ZZ hZ;by_cases q:n.toNat*k=0
  .rw[q];have:(List.replicate n.toNat f).flatten=[]:=by
    apply VI.1;simp[t,q]
   rw[this];simp
  .obtain rfl:ZZ=f.toArray:=hZ.resolve_right q;have Y:0<k:=by
    rcases Nat.eq_zero_or_pos k with h|h
    .rw[h,Nat.mul_zero]at q;exact absurd rfl q
    .exact h
   rw[<- Qfq f k t Y n.toNat];simp[XI, <- List.toArray_range]
 have F:=M.replicate n.toNat;have ad:allK k (List.replicate n.toNat (e zv)):=by
  have:∀m,allK k (List.replicate m (e zv)):=by
   intro m
   induction m with
   |zero=>trivial
   |succ m ih=>exact⟨XQ s,ih⟩
  exact this _
 have g:∀v∈(List.replicate n.toNat f).flatten,QA v:=by
  intro v J;obtain⟨m,V,J⟩:=List.mem_flatten.1 J;rw[List.eq_of_mem_replicate V]at J;exact M.plain hp v J
 rw[hc]at F;have p:l.map e=List.replicate n.toNat (e zv):=by rw[<- hl,List.map_replicate]
 have G:l.length=n.toNat:=by rw[<- hl];simp
 refine⟨(List.replicate n.toNat f).flatten,?_,by rw[p];exact F,g,by rw[p];exact ad,by rw[G];simp[t],by omega⟩;rw[G]
 .have hw:IntKind.i64.wrap n=n:=by
   unfold IntKind.wrap;simp[IntKind.bits,IntKind.signed];omega
  have aa:∀(x:Nat) (W:World),(askRoom x).run P W=.ok () W:=by
   intro x W;unfold askRoom;split<;>rfl
  have u:∀(c:Array Value) (W:World),(newRow et c).run P W=.ok ⟨W.heap.size,0,none⟩ (W.alloc (.cells c et)):=λc W=>rfl;have X:¬(n<0):=by omega
  have O:¬((i.bytes:Int)*n>2^48):=by
   have h1:(i.bytes:Int)*n<=4096*4294967296:=Int.mul_le_mul (by omega) n1 n0 (by omega);omega
  have B:(Instr.makeSlice T (.int R n) (.int ky n)).run P w=.ok (.slice (some ⟨w.heap.size,0,none⟩) n.toNat n.toNat) (w.alloc (.cells ((List.replicate n.toNat f).flatten).toArray et)):=by
   have af:¬(n>n):=by omega
   have L:∀(k:IntKind) (m:Int) (W:World),(asInt (.int k m)).run P W=.ok m W:=λk m W=>rfl;unfold Instr.makeSlice;simp only[Vm,E.sl,E.size,hi,Result.andThen,L,Vn,hw,aa,XH];rw[Vr (by simp[X,O];omega)];by_cases q:n.toNat*k=0
   .simp only[q,if_true,Vn];have:=d #[] (.inr q);rw[q]at this;simp only[this,u]
   .simp only[q,if_false,hz,Vn,c1,d f.toArray (.inl rfl),u]
  generalize act.eval=ρ at*;simp only[execOp,ho,ac,Q,Vm,B,Result.andThen];rfl
theorem Qi1{α:Type}{e:α->List A}{T et k:Nat}{x y:Operand}{h u:IntKind}{n:Int}{zv:α}{l:List α}{z:Value}{a:A}(i:mk n zv=some l)(E:Q7 P T et k)(G:∀w,(zeroValue et).run P w=.ok z w)(f:ZR a z)
  (q:Yn a=true)(j:Yd a=e zv)(s:(Yd a).all Yr=true)(d:Nat.beq (e zv).length k=true)
  (L:o.op=.makeSlice T x y:=by exact rfl)(hx:opA env x=.int h n:=by exact rfl)(hy:opA env y=.int u n:=by exact rfl):
  OpH P o env H (.osl H.length 0 l.length k) (H++[.row et k (l.map e)]):=by
 intro Q J σ N act w r;obtain⟨F,m,B,M,p,O,R⟩:=Qme i E G f q j s d L hx hy r;have g:=r.sim.allocRow (t:=et) (rest:=[]) p B M;rw[Vg]at g;refine⟨_,_,J,[some w.heap.size],m,.inr ⟨w.heap.size,0,l.length,et,F.length,?_,rfl,λ_=>by simp,⟨XT _,by omega⟩,?_,by rw[O,Xw];exact XT _⟩,g,Qm.alloc _ r.sim.roLt r.sim.frLt⟩
 .rw[<- r.sim.len];simp
 .unfold World.shape?;rw[Yu];simp
end
open Go.Sort Go.Proofs Go.Shelf
section
variable {α:Type}
def ins(lt:α->α->Bool)(x:α):List α->List α
 |[]=>[x]
 |y::l=>bif lt y x then y::ins lt x l else x::y::l
def Qfw(lt:α->α->Bool):List α->List α
 |[]=>[]
 |x::l=>ins lt x (Qfw lt l)
theorem Qet(lt:α->α->Bool)(x:α):∀l,(ins lt x l).Perm (x::l)
 |[]=>.refl _
 |y::l=>by
  unfold ins;cases lt y x
  .exact .refl _
  .exact((Qet lt x l).cons y).trans (List.Perm.swap _ _ _)
theorem Qbk(lt:α->α->Bool):∀l,(Qfw lt l).Perm l
 |[]=>.refl _
 |x::l=>(Qet lt x _).trans ((Qbk lt l).cons x)
structure QfL (lt:α->α->Bool) (l:List α):Prop where
 irrefl:∀x∈l,lt x x=false
 trans:∀x∈l,∀y∈l,∀z∈l,lt x y=true->lt y z=true->lt x z=true
 ntrans:∀x∈l,∀y∈l,∀z∈l,lt x y=false->lt y z=false->lt x z=false
theorem QfL.mono{lt:α->α->Bool}{l m:List α}(h:QfL lt l)(hm:∀x∈m,x∈l):QfL lt m:=
 ⟨λx hx=>h.irrefl x (hm x hx),λx hx y hy z hz=>h.trans x (hm x hx) y (hm y hy) z (hm z hz),λx hx y hy z hz=>h.ntrans x (hm x hx) y (hm y hy) z (hm z hz)⟩
theorem QfL.asymm{lt:α->α->Bool}{l:List α}(h:QfL lt l){x y:α}(d:x∈l)(e:y∈l)(a:lt x y=true):lt y x=false:=by
 cases q:lt y x
 .rfl
 .rw[<- h.irrefl x d,h.trans x d y e x d a q]
theorem Qes{lt:α->α->Bool}{x:α}:∀{l:List α},QfL lt (x::l)->l.Pairwise (λa b=>lt b a=false)->(ins lt x l).Pairwise (λa b=>lt b a=false)
 |[],_,_=>by simp[ins]
 |y::l,h,hp=>by
  obtain⟨h1,h2⟩:=Xc.1 hp;unfold ins;cases q:lt y x
  .refine Xc.2 ⟨λz hz=>?_,hp⟩;rcases X6.1 hz with rfl|hz
   .exact q
   .exact h.ntrans z (by simp[hz]) y (by simp) x (by simp) (h1 z hz) q
  .refine Xc.2 ⟨λz hz=>?_,Qes (h.mono (by grind)) h2⟩;rcases X6.1 ((Qet lt x l).mem_iff.1 hz)with rfl|hz
   .exact h.asymm (by simp) (by simp) q
   grind
theorem QcK{lt:α->α->Bool}:∀{l:List α},QfL lt l->(Qfw lt l).Pairwise (λa b=>lt b a=false)
 |[],_=>by simp[Qfw]
 |x::l,h=>Qes (h.mono (by
   intro z hz;rcases X6.1 hz with rfl|hz
   .simp
   grind[Qbk])) (QcK (h.mono (by grind)))
theorem Qeb{lt:α->α->Bool}:∀{l m:List α},l.Perm m->(∀x∈l,∀y∈l,lt x y=false->lt y x=false->x=y)->l.Pairwise (λa b=>lt b a=false)->m.Pairwise (λa b=>lt b a=false)->l=m
 |[],m,h,_,_,_=>by simp_all
 |x::l,[],h,_,_,_=>by simp_all
 |x::l,y::m,h,ha,hl,hm=>by
  obtain⟨l1,l2⟩:=Xc.1 hl;obtain⟨m1,m2⟩:=Xc.1 hm;have hy:y∈x::l:=h.mem_iff.2 (by simp);have hxy:x=y:=by
   grind
  subst hxy;rw[Qeb (by simp_all) (by grind) l2 m2]
def ltO(cf:α->α->Option Int)(x y:α):Bool:=match cf x y with
 |some c=>decide (c<0)
 |none=>false
def Qlv[DecidableEq α](cf:α->α->Option Int)(l:List α):Bool:=
 l.all λx=> !ltO cf x x&&l.all λy=>(cf x y).isSome&&(ltO cf x y||ltO cf y x||decide (x=y))&&l.all λz=>(!ltO cf x y|| !ltO cf y z||ltO cf x z)&&(ltO cf x y||ltO cf y z|| !ltO cf x z)
def QgC[DecidableEq α](cf:α->α->Option Int)(l:List α):Option (List α):=bif Nat.ble l.length Ys&&Qlv cf l then some (Qfw (ltO cf) l)else none
theorem QgB[DecidableEq α]{a:α->α->Option Int}{l l':List α}(h:QgC a l=some l'):
  l.length<=Ys/\(∀x∈l,∀y∈l,∃c,a x y=some c)/\QfL (ltO a) l/\(∀x∈l,∀y∈l,ltO a x y=false->ltO a y x=false->x=y)/\Qfw (ltO a) l=l':=by
 unfold QgC at h;cases j:Nat.ble l.length Ys with
 |false=>grind
 |true=>
 rw[j,Vz]at h;cases q:Qlv a l with
 |false=>grind
 |true=>
  rw[q]at h;refine⟨(by simp_all),?_⟩;unfold Qlv at q;simp[Xs,XW,Bool.not_eq_true',Bool.or_eq_true]at q;refine⟨λx d y e=>Option.isSome_iff_exists.1 ((q x d).2 y e).1.1,⟨λx d=>(q x d).1,λx d y e z i f g=>?_,λx d y e z i f g=>?_⟩,λx d y e f g=>?_,XZ h⟩
  .grind
  .grind
  grind
theorem QbZ[DecidableEq α]{a:α->α->Option Int}{l l':List α}(h:QgC a l=some l'):l.length=l'.length:=by
 rw[<- (QgB h).2.2.2.2];exact(Qbk _ _).length_eq.symm
theorem Qaj{l l':List α}{i:Int}{x:α}(h:Qc9 l i x=some l'):l.length=l'.length:=by
 grind[Qc9]
theorem Q1{f:Nat}{env:Env}{H:Qd}{s:Nat}{a a':A}(h:lk env s=a)(e:a=a'):Le f env H (up env s a') H:=by
 intro i g σ N act w r;refine⟨g,σ,⟨r.sim,λd=>?_,r.size,r.defers⟩,λ_ q=>q,rfl⟩;subst e;have:lk (up env s a) d=lk env d:=by
  simp[lk];cases q:Nat.beq d s with
  |true=>simp_all
  |false=>rfl
 rw[this];exact r.env d
end
section
variable {fr ro:Nat->Prop} {σ:Sig} {H:Qd} {w w':World}
theorem QdA(hh:∀b,b<w.heap.size->w'.heap[b]?=w.heap[b]?)(hro:∀b,ro b->b<w.heap.size)(σ:Sig):Ext ro σ w ro σ w':=
 ⟨λ_ q=>q,(by grind),λb x hx=>by grind[World.shape?],λ_ _ q=>q⟩
theorem Sim.grown(s:Sim fr ro σ H w)(a:∀b,b<w.heap.size->w'.heap[b]?=w.heap[b]?)(l:w.heap.size<=w'.heap.size):Sim fr ro σ H w':=by
 refine⟨s.len,s.roOk.to (λ_ q=>q) (λb q=>a b (s.roLt b q)) (λb h=>Vf (s.roLt b h) l),λb h=>Vf (s.frLt b h) l,s.roFr,λi b x e f n=>?_,s.inj,λi y x e f=>?_,s.hidTo (· = ·) Yb l (by simp) (by simp) λj d y m k r=>.inl ⟨j,y,rfl,m,k,id,λc q=>s.hidKeep m k (λz=>a d (s.own j d y m k z).1) (λb q=>a b (s.roLt b q)) q⟩⟩
 .obtain⟨p,q⟩:=s.own i b x e f n
  grind
 .refine(s.blk i y x e f).keep (QdA a s.roLt σ) ?_ ?_
  .rintro b rfl g;exact a b (s.own i b x e f g).1
  .rintro b c rfl g;exact a c (s.hid i b x c e f g).lt
theorem Qm.grown(hh:∀b,b<w.heap.size->w'.heap[b]?=w.heap[b]?)(hs:w.heap.size<=w'.heap.size)(s:Sim fr ro σ H w)(ho:w'.os=w.os)(ht:w'.tape=w.tape)(hu:w'.output=w.output)(hd:w.drawn<=w'.drawn):Qm fr ro w ro w':=
 ⟨λ_ q=>q,λb h=>hh b (s.roLt b h),λb h=>hh b (s.frLt b h),hs,(QdA hh s.roLt σ).shape,ho,ht,hu,hd⟩
theorem Qml(i:∀b,b<w.heap.size->w'.heap[b]?=w.heap[b]?)(h:w.heap.size<=w'.heap.size)(g:w'.os=w.os)(e:w'.tape=w.tape)(d:w'.output=w.output)(j:w.drawn<=w'.drawn):
  ∃q os',w'=grow (w.drewN q) os':=by
 refine⟨w'.drawn-w.drawn,w'.heap.extract w.heap.size w'.heap.size,?_⟩;obtain⟨a,l,f,p,m⟩:=w';simp only at i h g e d j;subst g e d;unfold grow World.drewN;have k:a=w.heap++a.extract w.heap.size a.size:=by
  grind
 have n:f=w.drawn+(f-w.drawn):=by omega
 grind
end
end Go.Sw
