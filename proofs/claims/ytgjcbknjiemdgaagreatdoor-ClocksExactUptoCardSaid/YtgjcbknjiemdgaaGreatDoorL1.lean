/- The rules by which the code is walked, with what they rest on (part 1). -/
import Derived.Calls
import Derived.Tactics
import Derived.Below
import Derived.TacticsIn
import Derived.OrdersIn
import Derived.RangeFuncLeaves
import Derived.RangeFuncRecord
import Derived.Laws.Strings
import Derived.Laws.World
import Derived.Orders
import Derived.Maps.Keyed
import Derived.Laws.StructEq
import Derived.Maps.RangeRun
import Derived.Shelf.SlSortCmp.NoneTotal
set_option linter.unusedVariables false
set_option linter.unusedSimpArgs false
set_option linter.unusedSectionVars false
namespace Go.Sw
abbrev Xa:= @List.getElem?_set_self
abbrev Xb:= @List.getElem?_set
abbrev Xc:= @List.pairwise_cons
abbrev Xd:= @List.mem_filter
abbrev Xe:= @List.mem_map
abbrev Xf:= @List.map_append
abbrev Xg:= @Bool.not_true
abbrev Xh:= @Bool.not_false
abbrev Xi:= @Bool.false_eq_true
abbrev Xj:= @Option.map_some
abbrev Xk:= @Option.map_none
abbrev Xl:= @Nat.succ_mul
abbrev Xm:= @Nat.not_lt_zero
abbrev Xn:= @Nat.lt_succ_self
abbrev Xo:= @List.getElem?_map
abbrev Xp:= @List.drop_eq_getElem_cons
abbrev Xq:= @List.drop_eq_nil_iff
abbrev Xr:= @List.flatten_append
abbrev Xs:= @List.all_eq_true
abbrev Xt:= @List.any_eq_true
abbrev Xu:= @List.range_succ
abbrev Xv:= @Nat.zero_add
abbrev Xw:= @Nat.add_zero
abbrev Xx:= @Nat.mul_zero
abbrev Xy:= @List.length_take
abbrev Xz:= @List.take_append_drop
abbrev XA:= @Nat.add_mul
abbrev XB:= @Nat.min_eq_left
abbrev XC:= @Nat.mul_le_mul_right
abbrev XD:= @List.foldl_cons
abbrev XE:= @List.getElem?_cons_zero
abbrev XF:= @List.getElem?_cons_succ
abbrev XG:= @List.getElem?_toArray
abbrev XH:= @Sem.run_ite
abbrev XI:= @List.map_toArray
abbrev XJ:= @Option.bind_some
abbrev XK:= @List.getElem?_eq_getElem
abbrev XL:= @List.getElem?_eq_some_iff
abbrev XM:= @List.getElem?_append_left
abbrev XN:= @List.getElem?_append_right
abbrev XO:= @List.getElem?_eq_none
abbrev XP:= @List.getElem?_set_ne
abbrev XQ:= @Nat.eq_of_beq_eq_true
abbrev XR:= @Nat.le_of_ble_eq_true
abbrev XS:= @Nat.ble_eq_true_of_le
abbrev XT:= @Nat.le_refl
abbrev XU:= @Nat.zero_le
abbrev XV:= @Nat.le_trans
abbrev XW:= @Bool.and_eq_true
abbrev XX:= @Bool.or_eq_false_iff
abbrev XY:= @Bool.eq_iff_iff
abbrev XZ:= @Option.some.inj
abbrev X0:= @List.length_cons
abbrev X2:= @List.length_map
abbrev X3:= @List.length_append
abbrev X4:= @List.length_set
abbrev X5:= @List.mem_cons_of_mem
abbrev X6:= @List.mem_cons
abbrev X7:= @List.take_append_of_le_length
abbrev X8:= @List.drop_append_of_le_length
abbrev X9:= @List.take_length
abbrev Va:= @List.drop_length_add_append
abbrev Vb:= @List.take_length_add_append
abbrev Vc:= @Array.getElem?_eq_some_iff
abbrev Vd:= @List.getElem_mem
abbrev Ve:= @Array.getElem?_setIfInBounds
abbrev Vf:= @Nat.lt_of_lt_of_le
abbrev Vg:= @List.append_nil
abbrev Vh:= @List.nil_append
abbrev Vi:= @List.append_assoc
abbrev Vj:= @List.map_cons
abbrev Vk:= @List.map_nil
abbrev Vl:= @List.flatten_cons
abbrev Vm:= @Sem.run_bind
abbrev Vn:= @Sem.run_pure
abbrev Vp:= @cond_true
abbrev Vq:= @cond_false
abbrev Vr:= @decide_eq_true_eq
abbrev Vs:= @if_neg
abbrev Vt:= @if_pos
abbrev Vu:= @decide_eq_true
abbrev Vv:= @of_decide_eq_true
abbrev Vw:= @of_decide_eq_false
abbrev Vx:= @decide_eq_false
abbrev Vy:= @beq_iff_eq
abbrev Vz:= @beq_eq_false_iff_ne
abbrev VA:= @Bool.true_and
abbrev VB:= @List.mem_singleton
abbrev VC:= @Nat.lt_or_ge
abbrev VD:= @List.mem_append
abbrev VE:= @List.pairwise_iff_getElem
abbrev VF:= @Nat.beq_refl
abbrev VG:= @List.mem_map_of_mem
abbrev VH:= @List.mem_of_getElem?
abbrev VI:= @List.take_of_length_le
abbrev VJ:= @List.length_eq_zero_iff
abbrev VK:= @List.cons_append
abbrev VL:= @List.getD_eq_getElem?_getD
abbrev VM:= @Bool.eq_false_iff
def Qkr:Nat:=11
def nG:Nat:=12
def QiQ:List (List Int):=[[1,9999],[-1099511627776,1099511627776],[0,1048576],[0,39],[0,255],[0,1099511627776],[0,255],[1,1048576],[0,1],[0,31],[1,1048576]]
theorem gOk:((List.range nG).all λb=>Nat.beq b Qkr|| !(QiQ.getD b []).isEmpty)=true:=by decide
theorem gLt:Nat.ble QiQ.length nG=true:=by decide
theorem Qo8:Nat.blt Qkr nG=true:=by decide
structure GP (w:World):Prop where
 max:∃m:Int,w.cell? ⟨Qkr,0,none⟩=some (.int .i64 m)
 tab:∀(g:Nat) (zs:List Int),QiQ[g]?=some zs->∀(i:Nat) (z:Int),zs[i]?=some z->w.cell? ⟨g,i,none⟩=some (.int .i64 z)
theorem GP.keep{w w':World}(h:∀b,b<nG->w'.heap[b]?=w.heap[b]?)(g:GP w):GP w':=by
 obtain⟨m,j⟩:=g.max;refine⟨⟨m,?_⟩,λa e d i z f=>?_⟩
 .rw[<- j];unfold World.cell?;rw[h Qkr (by simpa using Qo8)]
 .rw[<- g.tab a e d i z f];unfold World.cell?;have k:=(XL.1 d).1;have l:QiQ.length<=nG:=by simpa using gLt
  rw[h a (by omega)]
theorem Qgi{w:World}{b i:Nat}{v:Value}(h:w.cell? ⟨b,i,none⟩=some v):b<w.heap.size:=by
 cases e:w.heap[b]? with
 |none=>simp[World.cell?,e]at h
 |some o=>exact(Vc.1 e).1
theorem GP.size{w:World}(g:GP w)(b:Nat)(d:b<nG):b<w.heap.size:=by
 have h:=Xs.1 gOk b (List.mem_range.2 d);rw[Bool.or_eq_true]at h;rcases h with h|h
 .obtain⟨m,f⟩:=g.max;rw[XQ h];exact Qgi f
 .cases e:QiQ[b]? with
  |none=>rw[VL,e]at h;simp at h
  |some a=>
   cases a with
   |nil=>rw[VL,e]at h;simp at h
   |cons z a=>exact Qgi (g.tab b _ e 0 z rfl)
inductive A where
 |any
 |bool (b:Bool)
 |int (k:IntKind) (n:Int)
 |str (s:List UInt8)
 |nilp
 |ptr (i off:Nat)
 |rp (cs:List A)
 |nils
 |rsl (k:Nat) (es:List (List A))
 |osl (i o n k:Nat)
 |agg (cs:List A)
 |fn (f:Fn) (first cap:List A)
 |nilf
 |iface (t:Nat) (v:A)
 |nilif
 |map (i:Nat)
 |nilm
 |tup (vs:List A)
abbrev Sig:=List (Option Nat)
def Qp:Value->Prop
 |.agg _|.tuple _=>False
 |_=>True
mutual
def VR(ro:Nat->Prop)(σ:Sig)(w:World):A->Value->Prop
 |.any,_=>True
 |.bool b,v=>v=.bool b
 |.int k n,v=>v=.int k n
 |.str s,v=>v=.string ⟨s.toArray⟩
 |.nilp,v=>v=.pointer none
 |.ptr i off,v=>∃b,σ[i]?=some (some b)/\v=.pointer (some ⟨b,off,none⟩)
 |.rp cs,v=>∃b off,v=.pointer (some ⟨b,off,none⟩)/\ro b/\CR ro [] w b cs off
 |.nils,v=>v=.slice none 0 0
 |.rsl k es,v=>∃a cap,v=.slice a es.length cap/\es.length<=cap/\
   (es=[]\/ ∃b off,a=some ⟨b,off,none⟩/\ro b/\RR ro [] w b k es off)
 |.osl i o n k,v=>(n=0/\v=.slice none 0 0)\/
   ∃b p cap t m,σ[i]?=some (some b)/\v=.slice (some ⟨b,p,none⟩) n cap/\(0<cap->p=o*k)/\(n<=cap/\cap<=9223372036854775807)/\w.shape? b=some (t,m)/\(o+cap)*k<=m
 |.agg cs,v=>∃l:List Value,v=.agg l.toArray/\LR ro σ w cs l
 |.fn f first cap,v=>∃l l':List Value,v=.func f l.toArray l'.toArray/\LR ro σ w first l/\LR ro σ w cap l'
 |.nilf,v=>v=.nilFunc
 |.iface t a,v=>∃x,v=.iface t x/\VR ro σ w a x
 |.nilif,v=>v=.nilIface
 |.map i,v=>∃b,σ[i]?=some (some b)/\v=.map (some b)
 |.nilm,v=>v=.map none
 |.tup vs,v=>∃l:List Value,v=.tuple l.toArray/\LR ro σ w vs l
def CR(ro:Nat->Prop)(σ:Sig)(w:World)(b:Nat):List A->Nat->Prop
 |[],_=>True
 |a::r,off=>(∃v,w.cell? ⟨b,off,none⟩=some v/\Qp v/\VR ro σ w a v)/\CR ro σ w b r (off+1)
def RR(ro:Nat->Prop)(σ:Sig)(w:World)(b k:Nat):List (List A)->Nat->Prop
 |[],_=>True
 |cs::r,off=>cs.length=k/\CR ro σ w b cs off/\RR ro σ w b k r (off+k)
def LR(ro:Nat->Prop)(σ:Sig)(w:World):List A->List Value->Prop
 |[],l=>l=[]
 |a::r,l=>∃v l',l=v::l'/\VR ro σ w a v/\LR ro σ w r l'
end
structure Ext (ro:Nat->Prop) (σ:Sig) (w:World) (ro':Nat->Prop) (σ':Sig) (w':World):Prop where
 sub:∀b,ro b->ro' b
 keep:∀b,ro b->w'.heap[b]?=w.heap[b]?
 shape:∀b x,w.shape? b=some x->w'.shape? b=some x
 sig:∀(i b:Nat),σ[i]?=some (some b)->σ'[i]?=some (some b)
theorem Qgj{w w':World}{b off:Nat}(h:w'.heap[b]?=w.heap[b]?):w'.cell? ⟨b,off,none⟩=w.cell? ⟨b,off,none⟩:=by
 simp only[World.cell?,h]
theorem Ext.nil{ro ro':Nat->Prop}{σ σ':Sig}{w w':World}(h:Ext ro σ w ro' σ' w'):Ext ro [] w ro' [] w':=
 ⟨h.sub,h.keep,h.shape,λ_ _ q=>q⟩
mutual
theorem VR.mono{ro ro':Nat->Prop}{w w':World}:∀{a:A} {σ σ':Sig} {v:Value},Ext ro σ w ro' σ' w'->VR ro σ w a v->VR ro' σ' w' a v
 |.any,_,_,_,h,_=>trivial
 |.bool b,_,_,v,h,q=>q
 |.int k n,_,_,v,h,q=>q
 |.str s,_,_,v,h,q=>q
 |.nilp,_,_,v,h,q=>q
 |.ptr i off,_,_,v,h,q=>by
  simp only[VR]at q⊢;obtain⟨b,h1,h2⟩:=q;exact⟨b,h.sig _ _ h1,h2⟩
 |.rp cs,_,_,v,h,q=>by
  simp only[VR]at q⊢;obtain⟨b,off,h1,h2,h3⟩:=q;exact⟨b,off,h1,h.sub _ h2,CR.mono h.nil h2 h3⟩
 |.nils,_,_,v,h,q=>q
 |.rsl k es,_,_,v,h,q=>by
  simp only[VR]at q⊢;obtain⟨a,cap,h1,h2,h3⟩:=q;refine⟨a,cap,h1,h2,?_⟩;rcases h3 with h3|⟨b,off,h4,h5,h6⟩
  .exact .inl h3
  .exact .inr ⟨b,off,h4,h.sub _ h5,RR.mono h.nil h5 h6⟩
 |.osl i o n k,_,_,v,h,q=>by
  simp only[VR]at q⊢;rcases q with q|⟨b,p,cap,t,m,h1,h2,h6,h3,h4,h5⟩
  .exact .inl q
  .exact .inr ⟨b,p,cap,t,m,h.sig _ _ h1,h2,h6,h3,h.shape _ _ h4,h5⟩
 |.agg cs,_,_,v,h,q=>by
  simp only[VR]at q⊢;obtain⟨l,h1,h2⟩:=q;exact⟨l,h1,LR.mono h h2⟩
 |.fn f a c,_,_,v,h,q=>by
  simp only[VR]at q⊢;obtain⟨l,l',h1,h2,h3⟩:=q;exact⟨l,l',h1,LR.mono h h2,LR.mono h h3⟩
 |.nilf,_,_,v,h,q=>q
 |.iface t a,_,_,v,h,q=>by
  simp only[VR]at q⊢;obtain⟨x,h1,h2⟩:=q;exact⟨x,h1,VR.mono h h2⟩
 |.nilif,_,_,v,h,q=>q
 |.map i,_,_,v,h,q=>by
  simp only[VR]at q⊢;obtain⟨b,h1,h2⟩:=q;exact⟨b,h.sig _ _ h1,h2⟩
 |.nilm,_,_,v,h,q=>q
 |.tup vs,_,_,v,h,q=>by
  simp only[VR]at q⊢;obtain⟨l,h1,h2⟩:=q;exact⟨l,h1,LR.mono h h2⟩
theorem CR.mono{ro ro':Nat->Prop}{w w':World}:∀{cs:List A} {σ σ':Sig} {b off:Nat},Ext ro σ w ro' σ' w'->ro b->CR ro σ w b cs off->CR ro' σ' w' b cs off
 |[],_,_,_,_,_,_,_=>trivial
 |a::r,_,_,b,off,h,hb,q=>by
  simp only[CR]at q⊢;obtain⟨⟨v,h1,hp,h2⟩,h3⟩:=q;exact⟨⟨v,by rw[Qgj (h.keep _ hb)];exact h1,hp,VR.mono h h2⟩,CR.mono h hb h3⟩
theorem RR.mono{ro ro':Nat->Prop}{w w':World}:∀{es:List (List A)} {σ σ':Sig} {b k off:Nat},Ext ro σ w ro' σ' w'->ro b->RR ro σ w b k es off->RR ro' σ' w' b k es off
 |[],_,_,_,_,_,_,_,_=>trivial
 |cs::r,_,_,b,k,off,h,hb,q=>by
  simp only[RR]at q⊢;obtain⟨h1,h2,h3⟩:=q;exact⟨h1,CR.mono h hb h2,RR.mono h hb h3⟩
theorem LR.mono{ro ro':Nat->Prop}{w w':World}:∀{az:List A} {σ σ':Sig} {l:List Value},Ext ro σ w ro' σ' w'->LR ro σ w az l->LR ro' σ' w' az l
 |[],_,_,_,h,q=>q
 |a::r,_,_,l,h,q=>by
  simp only[LR]at q⊢;obtain⟨v,l',h1,h2,h3⟩:=q;exact⟨v,l',h1,VR.mono h h2,LR.mono h h3⟩
end
structure Ent where
 fl:Bool
 off:Nat
 lo:Int
 hi:Int
def Qd5(i n c:Nat):List (List A):=(List.range c).map λj=>[.osl i (j*n) n 1]
def eC(b1 b2:Nat)(e:Ent):List A:=[.ptr (bif e.fl then b2 else b1) e.off,.int .i64 e.lo,.int .i64 e.hi]
inductive Blk where
 |dead
 |cells (t:Nat) (cs:List A)
 |row (t k:Nat) (es:List (List A))
 |rowr (t k:Nat) (es:List (List A))
 |map (es:List (A×A))
 |iter (cur:Option (A×A)) (es:List (A×A))
 |fmap (es:List (A×A))
 |ents (t b1 b2:Nat) (es:List Ent)
 |wins (t b n c:Nat)
 |mapO (fz:Bool) (t k:Nat) (es:List (A×Option (List (List A))))
 |mapP (es:List (A×A))
 |frow (t k:Nat) (es:List (List A))
def Blk.live:Blk->Bool
 |.dead=>false
 |.fmap _=>false
 |.frow _ _ _=>false
 |.mapO fz _ _ _=> !fz
 |_=>true
def Blk.held:Blk->Bool
 |.mapO fz _ _ _=>fz
 |_=>false
def Blk.holds(x:Blk):Bool:=x.live||x.held
theorem Qaq{x:Blk}(h:x.live=true):x≠ .dead:=by rintro rfl;cases h
theorem Qer{x:Blk}(h:x.holds=true):x≠ .dead:=by rintro rfl;cases h
theorem Qbu{x:Blk}(h:x.live=true):x.holds=true:=by unfold Blk.holds;rw[h];rfl
abbrev Qd:=List Blk
def ER(ro:Nat->Prop)(σ:Sig)(w:World):List (A×A)->List MapEntry->Prop
 |[],l=>l=[]
 |x::r,l=>∃e l',l=e::l'/\VR ro σ w x.1 e.key/\VR ro σ w x.2 e.val/\ER ro σ w r l'
def ItR(ro:Nat->Prop)(w:World)(b:Nat)(cur:Option (A×A))(es:List (A×A)):Prop:=
 (es=[]/\cur=none/\w.heap[b]?=some (.mapIter none 0 #[] 0))\/
 ∃m l clock seen left,w.heap[b]?=some (.mapIter (some m) clock seen clock)/\ro m/\w.heap[m]?=some (.map l clock)/\(∀e∈l.toList,e.born<clock)/\(l.toList.map (·.born)).Nodup/\
  (left:List MapEntry).Perm (l.toList.filter λe=> !seen.contains e.born)/\ER ro [] w es left/\
  (∀x,cur=some x->∃e∈l.toList,seen.back? =some e.born/\VR ro [] w x.1 e.key/\VR ro [] w x.2 e.val)
def RL(ro:Nat->Prop)(σ:Sig)(w:World)(k:Nat):List (List A)->List Value->Prop
 |[],_=>True
 |c::es,l=>∃l1 l2,l=l1++l2/\c.length=k/\(LR ro σ w c l1/\ ∀v∈l1,Qp v)/\RL ro σ w k es l2
theorem RL.mono{ro ro':Nat->Prop}{σ σ':Sig}{w w':World}(h:Ext ro σ w ro' σ' w'){k:Nat}:∀{es:List (List A)} {l:List Value},RL ro σ w k es l->RL ro' σ' w' k es l
 |[],_,_=>trivial
 |c::es,l,⟨l1,l2,h1,h2,h3,h4⟩=>⟨l1,l2,h1,h2,⟨h3.1.mono h,h3.2⟩,RL.mono h h4⟩
def SO(ro:Nat->Prop)(w:World)(t k:Nat)(rows:List (List A))(v:Value):Prop:=
 (rows=[]/\v=.slice none 0 0)\/ ∃(c p cap:Nat) (vs:List Value),v=.slice (some ⟨c,p,none⟩) rows.length cap/\(rows.length<=cap/\cap<=9223372036854775807)/\w.heap[c]?=some (.cells vs.toArray t (0,0))/\cap*k<=vs.length/\RL ro [] w k rows vs/\(0<cap->p=0)
def MO(ro:Nat->Prop)(w:World)(t k:Nat):List (A×Option (List (List A)))->List MapEntry->Prop
 |[],l=>l=[]
 |x::r,l=>∃e l',l=e::l'/\VR ro [] w x.1 e.key/\(∀rows,x.2=some rows->SO ro w t k rows e.val)/\MO ro w t k r l'
def Qd9:List (A×Option (List (List A)))->List MapEntry->Nat->Prop
 |x::r,e::l,c=>(x.2.isSome=true/\ ∃p n cap,e.val=.slice (some ⟨c,p,none⟩) n cap)\/Qd9 r l c
 |_,_,_=>False
def Qjh:List (A×Option (List (List A)))->List MapEntry->Prop
 |x::r,e::l=>(∀c,x.2.isSome=true->(∃p n cap,e.val=.slice (some ⟨c,p,none⟩) n cap)->¬Qd9 r l c)/\Qjh r l
 |_,_=>True
def Hid(w:World):Blk->Nat->Nat->Prop
 |.mapO _ _ _ es,b,c=>∃l clock,w.heap[b]?=some (.map l clock)/\Qd9 es l.toList c
 |_,_,_=>False
theorem Hid.keep{w w':World}{x:Blk}{b c:Nat}(h:w'.heap[b]?=w.heap[b]?)(q:Hid w' x b c):Hid w x b c:=by
 cases x with
 |mapO fz t k f=>obtain⟨l,a,e,d⟩:=q;exact⟨l,a,by grind,d⟩
 |_=>exact q.elim
theorem Hid.holds{w:World}{x:Blk}{b c:Nat}(q:Hid w x b c):x.holds=true:=by
 cases x with
 |mapO fz t k a=>cases fz<;>rfl
 |_=>exact q.elim
theorem MO.mono{ro ro':Nat->Prop}{σ σ':Sig}{w w':World}(h:Ext ro σ w ro' σ' w'){t k:Nat}:∀{es:List (A×Option (List (List A)))} {l:List MapEntry},(∀c,Qd9 es l c->w'.heap[c]?=w.heap[c]?)->MO ro w t k es l->MO ro' w' t k es l
 |[],_,_,q=>q
 |x::r,_,hh,⟨e,l',h1,h2,h3,h4⟩=>by
  subst h1;refine⟨e,l',rfl,h2.mono h.nil,λrows hr=>?_,MO.mono h (λc hc=>hh c (.inr hc)) h4⟩;rcases h3 rows hr with q|⟨c,p,cap,vs,q1,q2,q3,q4,q5,q6⟩
  .exact .inl q
  .exact .inr ⟨c,p,cap,vs,q1,q2,by rw[hh c (.inl (by grind))];exact q3,q4,q5.mono h.nil,q6⟩
theorem MO.cells{ro:Nat->Prop}{w:World}{t k:Nat}:∀{es:List (A×Option (List (List A)))} {l:List MapEntry} {c:Nat},MO ro w t k es l->Qd9 es l c->∃vs:Array Value,w.heap[c]?=some (.cells vs t (0,0))
 |[],l,c,h,q=>by cases l<;>exact q.elim
 |x::r,_,c,⟨e,l',h1,h2,h3,h4⟩,q=>by
  subst h1;rcases q with⟨q1,p,n,cap,q2⟩|q
  .obtain⟨rows,hr⟩:=Option.isSome_iff_exists.1 q1;rcases h3 rows hr with⟨_,z⟩|⟨c',p',cap',vs,z1,z2,z3,z4,z5,z6⟩
   .grind
   grind
  .exact MO.cells h4 q
def Born(l:Array MapEntry)(clock:Nat):Prop:=clock=l.size/\ ∀(i:Nat) (e:MapEntry),l.toList[i]?=some e->e.born=i
theorem Born.modify{l:Array MapEntry}{a j:Nat}{f:MapEntry->MapEntry}(h:Born l a)(d:∀e,(f e).born=e.born):Born (l.modify j f) a:=by
 obtain⟨b,k⟩:=h;refine⟨by simp[b],λi g q=>?_⟩
 grind
def BR(ro:Nat->Prop)(σ:Sig)(w:World):Blk->Option Nat->Prop
 |.dead,_=>True
 |.cells t cs,some b=>∃l:List Value,w.heap[b]?=some (.cells l.toArray t (0,0))/\LR ro σ w cs l/\ ∀v∈l,Qp v
 |.row t k es,some b=>∃l:List Value,w.heap[b]?=some (.cells l.toArray t (0,0))/\RL ro [] w k es l
 |.rowr t k es,some b=>∃l:List Value,w.heap[b]?=some (.cells l.toArray t (0,0))/\RL ro σ w k es l
 |.row _ _ es,none=>es=[]
 |.ents t b1 b2 es,some b=>∃l:List Value,w.heap[b]?=some (.cells l.toArray t (0,0))/\RL ro σ w 3 (es.map (eC b1 b2)) l
 |.ents _ _ _ es,none=>es=[]
 |.wins t b n c,some d=>∃l:List Value,w.heap[d]?=some (.cells l.toArray t (0,0))/\RL ro σ w 1 (Qd5 b n c) l
 |.wins _ _ _ c,none=>c=0
 |.map es,some b=>∃l clock,w.heap[b]?=some (.map l clock)/\ER ro [] w es l.toList/\
   (∀e∈l.toList,e.born<clock)/\(l.toList.map (·.born)).Nodup/\(l.toList.map (·.key)).Nodup
 |.mapP es,some b=>∃l clock,w.heap[b]?=some (.map l clock)/\ER ro σ w es l.toList/\
   (∀e∈l.toList,e.born<clock)/\(l.toList.map (·.born)).Nodup/\(l.toList.map (·.key)).Nodup
 |.frow t k es,some b=>ro b/\ ∃l:List Value,w.heap[b]?=some (.cells l.toArray t (0,0))/\RL ro [] w k es l/\l.length=es.length*k
 |.iter cur es,some b=>ItR ro w b cur es
 |.mapO fz t k es,some b=>(fz=true->ro b)/\ ∃l clock,w.heap[b]?=some (.map l clock)/\MO ro w t k es l.toList/\Qjh es l.toList/\
   (∀e∈l.toList,e.born<clock)/\(l.toList.map (·.born)).Nodup/\(l.toList.map (·.key)).Nodup/\Born l clock
 |.fmap es,some b=>ro b/\ ∃l clock,w.heap[b]?=some (.map l clock)/\ER ro [] w es l.toList/\
   (∀e∈l.toList,e.born<clock)/\(l.toList.map (·.born)).Nodup/\(l.toList.map (·.key)).Nodup
 |_,none=>False
structure RoOk (ro:Nat->Prop) (w:World):Prop where
 lt:∀b,ro b->b<w.heap.size
 g:∀b,b<nG->ro b
 gp:GP w
theorem RoOk.to{ro ro':Nat->Prop}{w w':World}(h:RoOk ro w)(sub:∀b,ro b->ro' b)(keep:∀b,ro b->w'.heap[b]?=w.heap[b]?)(lt:∀b,ro' b->b<w'.heap.size):RoOk ro' w':=
 ⟨lt,λb hb=>sub b (h.g b hb),h.gp.keep λb hb=>keep b (h.g b hb)⟩
structure Qom (fr ro:Nat->Prop) (σ:Sig) (H:Qd) (w:World) (i0 b0 c:Nat):Prop where
 lt:c<w.heap.size
 ro:¬ro c
 fr:¬fr c
 ne:∀(j b:Nat) (y:Blk),σ[j]?=some (some b)->H[j]?=some y->y.live=true->c≠b
 one:∀(j b:Nat) (y:Blk),σ[j]?=some (some b)->H[j]?=some y->Hid w y b c->b=b0/\j=i0
structure Sim (fr ro:Nat->Prop) (σ:Sig) (H:Qd) (w:World):Prop where
 len:σ.length=H.length
 roOk:RoOk ro w
 frLt:∀b,fr b->b<w.heap.size
 roFr:∀b,ro b->¬fr b
 own:∀(i b:Nat) (blk:Blk),σ[i]?=some (some b)->H[i]?=some blk->blk.live=true->b<w.heap.size/\ ¬ro b/\ ¬fr b
 inj:∀(i j b:Nat) (x y:Blk),σ[i]?=some (some b)->σ[j]?=some (some b)->H[i]?=some x->H[j]?=some y->x.live=true->y.live=true->i=j
 blk:∀(i:Nat) (s:Option Nat) (x:Blk),σ[i]?=some s->H[i]?=some x->BR ro σ w x s
 hid:∀(i b:Nat) (x:Blk) (c:Nat),σ[i]?=some (some b)->H[i]?=some x->Hid w x b c->Qom fr ro σ H w i b c
theorem Sim.roHeld{fr ro:Nat->Prop}{σ:Sig}{H:Qd}{w:World}(s:Sim fr ro σ H w){i b:Nat}{x:Blk}(d:σ[i]?=some (some b))(e:H[i]?=some x)(a:x.held=true):ro b:=by
 have h:=s.blk i _ x d e;cases x with
 |mapO fz t k f=>exact h.1 a
 |_=>cases a
theorem Sim.hidKeep{fr ro:Nat->Prop}{σ:Sig}{H:Qd}{w w':World}(s:Sim fr ro σ H w){i b c:Nat}{x:Blk}(d:σ[i]?=some (some b))(g:H[i]?=some x)
  (f:x.live=true->w'.heap[b]?=w.heap[b]?)(e:∀b,ro b->w'.heap[b]?=w.heap[b]?)(q:Hid w' x b c):Hid w x b c:=by
 refine q.keep ?_;have h:=q.holds;cases a:x.live with
 |true=>exact f a
 |false=>unfold Blk.holds at h;rw[a]at h;exact e b (s.roHeld d g h)
theorem Sim.hidTo{fr n ro ro':Nat->Prop}{σ σ':Sig}{H H':Qd}{w w':World}(s:Sim fr ro σ H w)(R:Nat->Nat->Prop)(Y:∀j j' a,R j a->R j' a->j=j')(B:w.heap.size<=w'.heap.size)
  (J:∀(i b:Nat) (x:Blk) (c:Nat),σ[i]?=some (some b)->H[i]?=some x->Hid w x b c->ro' c->ro c)
  (O:∀(i b:Nat) (x:Blk) (c:Nat),σ[i]?=some (some b)->H[i]?=some x->Hid w x b c->n c->fr c)
  (h:∀(j d:Nat) (y:Blk),σ'[j]?=some (some d)->H'[j]?=some y->y.holds=true->
   (∃(a:Nat) (m:Blk),R j a/\σ[a]?=some (some d)/\H[a]?=some m/\(y.live=true->m.live=true)/\ ∀c,Hid w' y d c->Hid w m d c)\/(w.heap.size<=d/\ ∀c,Hid w' y d c->False)):
  ∀(i b:Nat) (x:Blk) (c:Nat),σ'[i]?=some (some b)->H'[i]?=some x->Hid w' x b c->Qom n ro' σ' H' w' i b c:=by
 intro i b x c L G E;rcases h i b x L G E.holds with⟨a,m,V,M,Q,X,N⟩|⟨_,g⟩
 .have k:=s.hid a b m c M Q (N c E);refine⟨Vf k.lt B,λq=>k.ro (by grind),λq=>k.fr (by grind),λj d y p u l=>?_,λj d y p u l=>?_⟩
  .rcases h j d y p u (Qbu l)with⟨t,y1,_,r,z,F,_⟩|⟨f,_⟩
   .exact k.ne t d y1 r z (F l)
   .exact λe=>by have:=k.lt;omega
  .rcases h j d y p u l.holds with⟨t,y1,r1,r,z,F,P⟩|⟨_,f⟩
   .obtain⟨T,W⟩:=k.one t d y1 r z (P c l)
    grind
   grind
 grind
theorem Q2(j j' j0:Nat)(h:j=j0)(h':j'=j0):j=j':=h.trans h'.symm
theorem Sim.roLt{fr ro:Nat->Prop}{σ:Sig}{H:Qd}{w:World}(s:Sim fr ro σ H w):∀b,ro b->b<w.heap.size:=s.roOk.lt
structure Qh (fr ro:Nat->Prop) (w:World) (ro':Nat->Prop) (w':World):Prop where
 sub:∀b,ro b->ro' b
 keepRo:∀b,ro b->w'.heap[b]?=w.heap[b]?
 keepFr:∀b,fr b->w'.heap[b]?=w.heap[b]?
 size:w.heap.size<=w'.heap.size
 shape:∀b x,w.shape? b=some x->w'.shape? b=some x
 os:w'.os=w.os
 tape:w'.tape=w.tape
 output:w'.output=w.output
 drawn:w.drawn<=w'.drawn
theorem Qh.refl(fr ro:Nat->Prop)(w:World):Qh fr ro w ro w:=
 ⟨λ_ h=>h,λ_ _=>rfl,λ_ _=>rfl,XT _,λ_ _ h=>h,rfl,rfl,rfl,XT _⟩
theorem Qh.trans{fr ro ro1 ro2:Nat->Prop}{w w1 w2:World}(h:Qh fr ro w ro1 w1)(k:Qh fr ro1 w1 ro2 w2):Qh fr ro w ro2 w2:=
 ⟨λb q=>k.sub _ (h.sub _ q),λb q=>(k.keepRo _ (h.sub _ q)).trans (h.keepRo _ q),λb q=>(k.keepFr _ q).trans (h.keepFr _ q),
  XV h.size k.size,λb x q=>k.shape _ _ (h.shape _ _ q),k.os.trans h.os,k.tape.trans h.tape,k.output.trans h.output,XV h.drawn k.drawn⟩
theorem Qae{σ τ:Sig}{i b:Nat}(h:σ[i]?=some (some b)):(σ++τ)[i]?=some (some b):=by
 grind
theorem Qh.ext{fr ro ro':Nat->Prop}{w w':World}(h:Qh fr ro w ro' w')(σ τ:Sig):Ext ro σ w ro' (σ++τ) w':=
 ⟨h.sub,h.keepRo,h.shape,λ_ _=>Qae⟩
theorem Qh.ext0{fr ro ro':Nat->Prop}{w w':World}(h:Qh fr ro w ro' w')(σ:Sig):Ext ro σ w ro' σ w':=
 ⟨h.sub,h.keepRo,h.shape,λ_ _ q=>q⟩
theorem ER.mono{ro ro':Nat->Prop}{σ σ':Sig}{w w':World}(h:Ext ro σ w ro' σ' w'):∀{es:List (A×A)} {l:List MapEntry},ER ro σ w es l->ER ro' σ' w' es l
 |[],_,q=>q
 |x::r,l,q=>by
  simp only[ER]at q⊢;obtain⟨e,l',h1,h2,h3,h4⟩:=q;exact⟨e,l',h1,h2.mono h,h3.mono h,ER.mono h h4⟩
theorem ItR.keep{ro ro':Nat->Prop}{σ σ':Sig}{w w':World}(h:Ext ro σ w ro' σ' w'){b:Nat}(E:w'.heap[b]?=w.heap[b]?){f:Option (A×A)}{es:List (A×A)}
  (q:ItR ro w b f es):ItR ro' w' b f es:=by
 rcases q with⟨i,g,j⟩|⟨m,l,a,d,left,i,g,j,p,y,r,k,z⟩
 .exact .inl ⟨i,g,by grind⟩
 .refine .inr ⟨m,l,a,d,left,by grind,h.sub _ g,by rw[h.keep _ g];exact j,p,y,r,k.mono h.nil,λx B=>?_⟩;obtain⟨e,t,s,n,u⟩:=z x B;exact⟨e,t,s,n.mono h.nil,u.mono h.nil⟩
theorem CR.keep{ro ro':Nat->Prop}{σ σ':Sig}{w w':World}(h:Ext ro σ w ro' σ' w'){b:Nat}(hb:w'.heap[b]?=w.heap[b]?):
  ∀{cs:List A} {off:Nat},CR ro σ w b cs off->CR ro' σ' w' b cs off
 |[],_,_=>trivial
 |a::r,off,q=>by
  simp only[CR]at q⊢;obtain⟨⟨v,h1,hp,h2⟩,h3⟩:=q;exact⟨⟨v,by rw[Qgj hb];exact h1,hp,h2.mono h⟩,CR.keep h hb h3⟩
theorem RR.keep{ro ro':Nat->Prop}{σ σ':Sig}{w w':World}(h:Ext ro σ w ro' σ' w'){b:Nat}(hb:w'.heap[b]?=w.heap[b]?){k:Nat}:
  ∀{es:List (List A)} {off:Nat},RR ro σ w b k es off->RR ro' σ' w' b k es off
 |[],_,_=>trivial
 |cs::r,off,q=>by
  simp only[RR]at q⊢;obtain⟨h1,h2,h3⟩:=q;exact⟨h1,CR.keep h hb h2,RR.keep h hb h3⟩
theorem BR.keep{ro ro':Nat->Prop}{σ σ':Sig}{w w':World}(h:Ext ro σ w ro' σ' w'){x:Blk}{s:Option Nat}
  (g:∀b,s=some b->x.live=true->w'.heap[b]?=w.heap[b]?)(q:BR ro σ w x s)(m:∀b c,s=some b->Hid w x b c->w'.heap[c]?=w.heap[c]?):BR ro' σ' w' x s:=by
 cases x with
 |mapO fz t k i=>
  cases s with
  |none=>exact q
  |some b=>
   obtain⟨j,l,c,a,e,f⟩:=q;refine⟨λz=>h.sub b (j z),l,c,?_,e.mono h (λd p=>m b d rfl ⟨l,c,a,p⟩),f⟩;cases fz with
   |false=>rw[g b rfl rfl];exact a
   |true=>rw[h.keep b (j rfl)];exact a
 |dead=>trivial
 |cells t B=>
  cases s with
  |none=>exact q
  |some b=>
   obtain⟨l,a,e,f⟩:=q;exact⟨l,by rw[g b rfl rfl];exact a,e.mono h,f⟩
 |row t k i=>
  cases s with
  |none=>exact q
  |some b=>
   obtain⟨l,a,e⟩:=q;exact⟨l,by rw[g b rfl rfl];exact a,e.mono h.nil⟩
 |rowr t k i=>
  cases s with
  |none=>exact q.elim
  |some b=>
   obtain⟨l,a,e⟩:=q;exact⟨l,by rw[g b rfl rfl];exact a,e.mono h⟩
 |wins t b n c=>
  cases s with
  |none=>exact q
  |some d=>
   obtain⟨l,a,e⟩:=q;exact⟨l,by rw[g d rfl rfl];exact a,e.mono h⟩
 |ents t y u i=>
  cases s with
  |none=>exact q
  |some b=>
   obtain⟨l,a,e⟩:=q;exact⟨l,by rw[g b rfl rfl];exact a,e.mono h⟩
 |map i=>
  cases s with
  |none=>exact q
  |some b=>
   obtain⟨l,c,a,e,f⟩:=q;exact⟨l,c,by rw[g b rfl rfl];exact a,e.mono h.nil,f⟩
 |mapP i=>
  cases s with
  |none=>exact q
  |some b=>
   obtain⟨l,c,a,e,f⟩:=q;exact⟨l,c,by rw[g b rfl rfl];exact a,e.mono h,f⟩
 |frow t k i=>
  cases s with
  |none=>exact q
  |some b=>
   obtain⟨j,l,a,e,f⟩:=q;exact⟨h.sub b j,l,by rw[h.keep b j];exact a,e.mono h.nil,f⟩
 |iter r i=>
  cases s with
  |none=>exact q
  |some b=>exact ItR.keep h (g b rfl rfl) q
 |fmap i=>
  cases s with
  |none=>exact q
  |some b=>
   obtain⟨j,l,c,a,e,f⟩:=q;exact⟨h.sub b j,l,c,by rw[h.keep b j];exact a,e.mono h.nil,f⟩
abbrev Env:=List (Nat×A)
def lk:Env->Nat->A
 |[],_=>.any
 |(d,a)::r,s=>bif Nat.beq s d then a else lk r s
abbrev up(env:Env)(d:Nat)(a:A):Env:=(d,a)::env
inductive AEx where
 |normal|exit (id:Nat)|ret
abbrev QA:=AEx->Env->Qd->Prop
def Qcf(fr:Nat->Prop)(ds:List Deferred)(w:World):Prop:=ds.Nodup/\ ∀d∈ds,∃D,d={target:=.collected D,args:= #[]}/\fr D/\w.heap[D]?=some (.deferred (some []))
theorem Qcf.keep{fr ro ro':Nat->Prop}{a:List Deferred}{w w':World}(h:Qcf fr a w)(k:Qh fr ro w ro' w'):Qcf fr a w':=by
 refine⟨h.1,λd g=>?_⟩;obtain⟨D,e,b,f⟩:=h.2 d g;exact⟨D,e,b,(k.keepFr D b).trans f⟩
structure Grow (fr:Nat->Prop) (w:World) (ds:List Deferred) (fr':Nat->Prop) (ds':List Deferred):Prop where
 sub:∀b,fr b->fr' b
 new:∀b,fr' b->fr b\/w.heap.size<=b
 ds:∀d∈ds',d∈ds\/ ∃D,d={target:=.collected D,args:= #[]}/\w.heap.size<=D
theorem Grow.refl(fr:Nat->Prop)(w:World)(ds:List Deferred):Grow fr w ds fr ds:=⟨λ_ h=>h,λ_ h=>.inl h,λ_ h=>.inl h⟩
theorem Grow.trans{fr f e:Nat->Prop}{w w1:World}{ds a g:List Deferred}(h:Grow fr w ds f a)(i:w.heap.size<=w1.heap.size)(k:Grow f w1 a e g):Grow fr w ds e g:=by
 refine⟨λb q=>k.sub b (h.sub b q),λb q=>?_,λd q=>?_⟩
 .rcases k.new b q with q|q
  .exact h.new b q
  omega
 .rcases k.ds d q with q|⟨D,l,j⟩
  .exact h.ds d q
  grind
theorem Qh.frMono{fr fr' ro ro':Nat->Prop}{w w':World}(h:Qh fr' ro w ro' w')(s:∀b,fr b->fr' b):Qh fr ro w ro' w':=
 ⟨h.sub,h.keepRo,λb q=>h.keepFr b (s b q),h.size,h.shape,h.os,h.tape,h.output,h.drawn⟩
theorem Sim.frMono{fr fr' ro:Nat->Prop}{σ:Sig}{H:Qd}{w:World}(h:Sim fr' ro σ H w)(s:∀b,fr b->fr' b):Sim fr ro σ H w:=
 ⟨h.len,h.roOk,λb q=>h.frLt b (s b q),λb q r=>h.roFr b q (s b r),λi b x q1 q2 q3=>let⟨a,b',c⟩:=h.own i b x q1 q2 q3;(by grind),h.inj,h.blk,λi b x c q1 q2 q3=>let k:=h.hid i b x c q1 q2 q3;⟨k.lt,k.ro,λq=>k.fr (s c q),k.ne,k.one⟩⟩
structure Rel (fr ro:Nat->Prop) (σ:Sig) (H:Qd) (env:Env) (N:Nat) (a:Act) (w:World):Prop where
 sim:Sim fr ro σ H w
 env:∀s,VR ro σ w (lk env s) (a.tmps.getD s undef)
 size:a.tmps.size=N
 defers:Qcf fr a.defers w
def Qdy(rd:Option Nat)(fr:Nat->Prop)(w:World):Prop:=∀l,rd=some l->fr l/\ ∃r,w.heap[l]?=some (.loop r)
theorem Qdx{fr:Nat->Prop}{w:World}:Qdy none fr w:=λl e=>by cases e
theorem Qdy.to{rd:Option Nat}{fr fr' ro ro':Nat->Prop}{w w':World}(h:Qdy rd fr w)(k:Qh fr ro w ro' w')(s:∀b,fr b->fr' b):Qdy rd fr' w':=λl e=>by
 obtain⟨h1,r,h2⟩:=h l e;exact⟨s l h1,r,(k.keepFr l h1).trans h2⟩
def ExR:Exit->AEx->Prop
 |.normal,x=>x=.normal
 |.exit id,x=>x=.exit id
 |.ret,x=>x=.ret
 |_,_=>False
def QaL(h0:Nat)(fr ro:Nat->Prop)(σ:Sig)(w:World)(N:Nat)(ds:List Deferred)(Q:QA):Exit->Act->World->Prop:=
 λe a' w'=>∃x env' H' ro' σ' fr',ExR e x/\Q x env' H'/\Rel fr' ro' σ' H' env' N a' w'/\Qh fr ro w ro' w'/\σ'.take h0=σ.take h0/\Grow fr w ds fr' a'.defers
theorem QaL.grow{g:Nat}{fr b ro f:Nat->Prop}{σ σ1:Sig}{w w1:World}{N:Nat}{k a:List Deferred}{Q:QA}{e:Exit}{a':Act}{w':World}
  (h:QaL g b f σ1 w1 N a Q e a' w')(he:Qh fr ro w f w1)(l:σ1.take g=σ.take g)(hg:Grow fr w k b a):QaL g fr ro σ w N k Q e a' w':=by
 obtain⟨x,d,H',i,σ',j,n,s,p,m,q,r⟩:=h;exact⟨x,d,H',i,σ',j,n,s,p,he.trans (m.frMono hg.sub),q.trans l,hg.trans he.size r⟩
theorem QaL.step{h0:Nat}{fr ro ro1:Nat->Prop}{σ σ1:Sig}{w w1:World}{N:Nat}{ds:List Deferred}{Q:QA}{e:Exit}{a':Act}{w':World}
  (h:QaL h0 fr ro1 σ1 w1 N ds Q e a' w')(he:Qh fr ro w ro1 w1)(hs:σ1.take h0=σ.take h0):QaL h0 fr ro σ w N ds Q e a' w':=h.grow he hs (Grow.refl _ _ _)
theorem QaL.mono{g:Nat}{fr ro:Nat->Prop}{σ:Sig}{w:World}{N:Nat}{f:List Deferred}{Q Q':QA}{e:Exit}{a':Act}{w':World}
  (h:QaL g fr ro σ w N f Q e a' w')(k:∀x env H,Q x env H->Q' x env H):QaL g fr ro σ w N f Q' e a' w':=by
 obtain⟨x,a,H',b,σ',d,i,l,j⟩:=h;exact⟨x,a,H',b,σ',d,i,k _ _ _ l,j⟩
def Qbv(h0:Nat)(fr ro:Nat->Prop)(σ:Sig)(w:World)(N:Nat)(ds:List Deferred)(Q:QA):Exit->Act->World->Prop:=
 λe a' w'=>∃x env' H' ro' σ' fr',ExR e x/\Q x env' H'/\Rel fr' ro' σ' H' env' N a' w'/\Qh fr ro w ro' w'/\σ'.take h0=σ.take h0/\a'.defers=ds/\Grow fr w ds fr' ds
theorem Qbv.grow{g:Nat}{fr a ro d:Nat->Prop}{σ σ1:Sig}{w w1:World}{N:Nat}{f:List Deferred}{Q:QA}{e:Exit}{a':Act}{w':World}
  (h:Qbv g a d σ1 w1 N f Q e a' w')(he:Qh fr ro w d w1)(k:σ1.take g=σ.take g)(hg:Grow fr w f a f):Qbv g fr ro σ w N f Q e a' w':=by
 obtain⟨x,b,H',i,σ',j,n,s,p,m,q,r,l⟩:=h;exact⟨x,b,H',i,σ',j,n,s,p,he.trans (m.frMono hg.sub),q.trans k,r,hg.trans he.size l⟩
theorem Qbv.step{h0:Nat}{fr ro ro1:Nat->Prop}{σ σ1:Sig}{w w1:World}{N:Nat}{ds:List Deferred}{Q:QA}{e:Exit}{a':Act}{w':World}
  (h:Qbv h0 fr ro1 σ1 w1 N ds Q e a' w')(he:Qh fr ro w ro1 w1)(hs:σ1.take h0=σ.take h0):Qbv h0 fr ro σ w N ds Q e a' w':=h.grow he hs (Grow.refl _ _ _)
theorem Qbv.mono{g:Nat}{fr ro:Nat->Prop}{σ:Sig}{w:World}{N:Nat}{f:List Deferred}{Q Q':QA}{e:Exit}{a':Act}{w':World}
  (h:Qbv g fr ro σ w N f Q e a' w')(k:∀x env H,Q x env H->Q' x env H):Qbv g fr ro σ w N f Q' e a' w':=by
 obtain⟨x,a,H',b,σ',d,i,l,j⟩:=h;exact⟨x,a,H',b,σ',d,i,k _ _ _ l,j⟩
theorem Qbv.postW{g:Nat}{fr ro:Nat->Prop}{σ:Sig}{w:World}{N:Nat}{f:List Deferred}{Q:QA}{e:Exit}{a':Act}{w':World}
  (h:Qbv g fr ro σ w N f Q e a' w'):QaL g fr ro σ w N f Q e a' w':=by
 obtain⟨x,a,H',b,σ',d,j,m,k,i,l,p,n⟩:=h;exact⟨x,a,H',b,σ',d,j,m,k,i,l,by grind⟩
def WF(rd:Option Nat):Fence:={Fence.wide with round:=rd}
theorem WF.calls{rd:Option Nat}{P:Program}{f:FuncId}{args:Array Value}{w:World}{R:Ending->World->Prop}:CallsIn (WF rd) 0 P f args w R↔Calls P f args w R:=callsIn_wide
abbrev wpL(P:Program)(rd:Option Nat)(ops:Array Oper)(Q:Exit->Act->World->Prop):List Oper->Act->World->Prop:=wpListIn (WF rd) 0 P ops Q
def TC(P:Program)(h0 N:Nat)(c:Code)(env:Env)(H:Qd)(Q:QA):Prop:=
 ∀rd fr ro σ a w,Rel fr ro σ H env N a w->Qdy rd fr w->c.wpIn (WF rd) 0 P (QaL h0 fr ro σ w N a.defers Q) a w
def WO(P:Program)(h0 N:Nat)(all:Array Oper)(l:List Oper)(env:Env)(H:Qd)(Q:QA):Prop:=
 ∀rd fr ro σ a w,Rel fr ro σ H env N a w->Qdy rd fr w->wpL P rd all (Qbv h0 fr ro σ w N a.defers Q) l a w
def Le(h0:Nat)(env:Env)(H:Qd)(env':Env)(H':Qd):Prop:=
 ∀fr ro σ N a w,Rel fr ro σ H env N a w->∃ro' σ',Rel fr ro' σ' H' env' N a w/\(∀b,ro b->ro' b)/\σ'.take h0=σ.take h0
theorem Le.refl(h0:Nat)(env:Env)(H:Qd):Le h0 env H env H:=λfr ro σ N a w h=>(by grind)
theorem Le.trans{b:Nat}{f i g:Env}{H1 H2 H3:Qd}(h:Le b f H1 i H2)(k:Le b i H2 g H3):Le b f H1 g H3:=by
 intro e j σ N a w r;obtain⟨d,σ1,l,q,t⟩:=h e j σ N a w r;obtain⟨m,σ2,s,n,p⟩:=k e d σ1 N a w l
 grind
theorem YA{fr ro ro':Nat->Prop}{w:World}(h:∀b,ro b->ro' b):Qh fr ro w ro' w:=
 ⟨h,λ_ _=>rfl,λ_ _=>rfl,XT _,λ_ _ h=>h,rfl,rfl,rfl,XT _⟩
theorem Yk{P:Program}{rd:Option Nat}{ops:Array Oper}{Q Q':Exit->Act->World->Prop}(hq:∀e a w,Q e a w->Q' e a w):
  ∀(l:List Oper) (a:Act) (w:World),wpL P rd ops Q l a w->wpL P rd ops Q' l a w
 |[],a,w,h=>hq _ _ _ h
 |o::l,a,w,h=>by
  unfold wpL wpListIn at h⊢;split
  .rename_i hw;rw[Vt hw]at h;obtain⟨h1,h2⟩:=h;refine⟨h1,?_⟩
   revert h2
   generalize(o.semAt (WF rd).round a.eval).run P w=r;intro h2;have hk:=λa w=>Yk (P:=P) (rd:=rd) (ops:=ops) hq l a w;cases r with
   |ok x w=>
    cases x with
    |value v=>exact hk _ _ h2
    |skip=>exact hk _ _ h2
    |defer d=>exact hk _ _ h2
    |enter f args=>
     refine⟨h2.1,CallsIn.mono h2.2 ?_⟩;intro e w' q;cases e with
     |returned v=>grind
     |panicked c=>grind
     |outgrown=>obtain⟨a,w,q⟩:=q;exact⟨a,w,hq _ _ _ q⟩
    |row r args=>exact⟨h2.1,RowsIn.mono h2.2 λv w' q=>hk _ _ q⟩
    |round l f tmps assign body=>
     refine⟨h2.1,RoundIn.mono h2.2 ?_⟩;intro e w' q;cases e with
     |returned v=>grind
     |panicked c=>grind
     |outgrown=>obtain⟨a,w,q⟩:=q;exact⟨a,w,hq _ _ _ q⟩
    |_=>exact h2
   |halt x w=>
    cases x with
    |panic v=>exact hq _ _ _ h2
    |_=>exact h2
  .rename_i hw;rw[Vs hw]at h;exact⟨h.1,Yk hq l _ _ h.2⟩
theorem Qcy{P:Program}{o:Oper}{a:Act}{w w':World}{x:Next}{rd:Option Nat}(h:(execOp a.eval o).run P w=.ok x w')(b:∀d,x≠ .defer d):(o.semAt (WF rd).round a.eval).run P w=.ok x w':=by
 cases e:o.op with
 |defer c=>
  exfalso;have:execOp a.eval o=(do pure (.defer (<- resolve a.eval c o.type))):=by simp[execOp,e]
  rw[this]at h;simp only[Vm]at h;generalize(resolve a.eval c o.type).run P w=r at h;cases r with
  |ok d w2=>simp[Result.andThen,go_sem]at h;grind
  |halt x w2=>simp_all
 |_=>grind[Oper.semAt_eq]
theorem Qac{P:Program}{rd:Option Nat}{ops:Array Oper}{Q:Exit->Act->World->Prop}{o:Oper}{l:List Oper}{a:Act}{w w':World}{v:Value}(b:Region.wanted o (yielded ops a.tmps)=true)
  (h:(execOp a.eval o).run P w=.ok (.value v) w')(k:wpL P rd ops Q l (a.put o.dst v) w'):wpL P rd ops Q (o::l) a w:=by
 unfold wpL wpListIn;rw[Vt b];exact⟨λ_ _=>trivial,by rw[Qcy h (λd e=>by cases e)];exact k⟩
theorem Qld{P:Program}{rd:Option Nat}{ops:Array Oper}{Q:Exit->Act->World->Prop}{o:Oper}{l:List Oper}{a:Act}{w w':World}(b:Region.wanted o (yielded ops a.tmps)=true)
  (h:(execOp a.eval o).run P w=.ok .skip w')(k:wpL P rd ops Q l (a.put o.dst undef) w'):wpL P rd ops Q (o::l) a w:=by
 unfold wpL wpListIn;rw[Vt b];exact⟨λ_ _=>trivial,by rw[Qcy h (λd e=>by cases e)];exact k⟩
theorem QfP{P:Program}{rd:Option Nat}{ops:Array Oper}{Q:Exit->Act->World->Prop}{o:Oper}{l:List Oper}{a:Act}{w w':World}{f:FuncId}{args:Array Value}(b:Region.wanted o (yielded ops a.tmps)=true)
  (h:(execOp a.eval o).run P w=.ok (.enter f args) w')(k:Calls P f args w' λe w''=>∃v,e=.returned v/\wpL P rd ops Q l (a.put o.dst v) w''):wpL P rd ops Q (o::l) a w:=by
 unfold wpL wpListIn;rw[Vt b];refine⟨λ_ _=>trivial,?_⟩;rw[Qcy h (λd e=>by cases e)];refine⟨λh=>by simp[WF,Fence.wide]at h,WF.calls.2 (Calls.mono k ?_)⟩
 grind
section
variable {P:Program} {h0 N:Nat} {env env':Env} {H H':Qd} {Q Q':QA} {c c':Code}
theorem TC.mono(h:TC P h0 N c env H Q)(hq:∀x env H,Q x env H->Q' x env H):TC P h0 N c env H Q':=
 λrd fr ro σ a w r hrd=>Code.wpIn_mono (λe a w q=>q.mono hq) (h rd fr ro σ a w r hrd)
theorem TC.le(b:Le h0 env H env' H')(h:TC P h0 N c env' H' Q):TC P h0 N c env H Q:=by
 intro i f g σ a w r hrd;obtain⟨d,σ',j,s,t⟩:=b f g σ N a w r;exact Code.wpIn_mono (λe a w q=>q.step (YA s) t) (h i f d σ' a w j hrd)
theorem WO.le{all:Array Oper}{l:List Oper}(b:Le h0 env H env' H')(h:WO P h0 N all l env' H' Q):WO P h0 N all l env H Q:=by
 intro i f g σ a w r hrd;obtain⟨d,σ',j,s,t⟩:=b f g σ N a w r;exact Yk (λe a w q=>q.step (YA s) t) _ _ _ (h i f d σ' a w j hrd)
theorem WO.mono{all:Array Oper}{l:List Oper}(h:WO P h0 N all l env H Q)(hq:∀x env H,Q x env H->Q' x env H):WO P h0 N all l env H Q':=
 λrd fr ro σ a w r hrd=>Yk (λe a w q=>q.mono hq) _ _ _ (h rd fr ro σ a w r hrd)
def Seq(P:Program)(h0 N:Nat)(c:Code)(Q:QA):QA
 |.normal,env,H=>TC P h0 N c env H Q
 |.exit id,env,H=>Q (.exit id) env H
 |.ret,env,H=>Q .ret env H
def Blo(id:Nat)(Q:QA):QA
 |.normal,env,H=>Q .normal env H
 |.exit id',env,H=>bif Nat.beq id' id then Q .normal env H else Q (.exit id') env H
 |.ret,env,H=>Q .ret env H
theorem TC.seq(h:TC P h0 N c env H (Seq P h0 N c' Q)):TC P h0 N (.seq c c') env H Q:=by
 intro n u p σ a w r hrd;refine wpIn_seq (Code.wpIn_mono ?_ (h n u p σ a w r hrd));rintro e s t ⟨x,b,H',d,σ',f,i,m,k,g,l,j⟩;cases e with
 |normal=>
  obtain rfl:x=.normal:=i;exact Code.wpIn_mono (λe a w q=>q.grow g l j) (m n f d σ' s t k (hrd.to g j.sub))
 |exit id=>
  obtain rfl:x=.exit id:=i;exact⟨_,b,H',d,σ',f,rfl,m,k,g,l,j⟩
 |ret=>
  obtain rfl:x=.ret:=i;exact⟨_,b,H',d,σ',f,rfl,m,k,g,l,j⟩
 |_=>exact i.elim
theorem TC.skip(h:Q .normal env H):TC P h0 N .skip env H Q:=
 λrd fr ro σ a w r hrd=>wpIn_skip ⟨_,env,H,ro,σ,fr,rfl,h,r,Qh.refl _ _ _,rfl,Grow.refl _ _ _⟩
theorem TC.ret(h:Q .ret env H):TC P h0 N .ret env H Q:=
 λrd fr ro σ a w r hrd=>wpIn_ret ⟨_,env,H,ro,σ,fr,rfl,h,r,Qh.refl _ _ _,rfl,Grow.refl _ _ _⟩
theorem TC.exit{id:Nat}(h:Q (.exit id) env H):TC P h0 N (.exit id) env H Q:=
 λrd fr ro σ a w r hrd=>wpIn_exit ⟨_,env,H,ro,σ,fr,rfl,h,r,Qh.refl _ _ _,rfl,Grow.refl _ _ _⟩
theorem TC.block{id:Nat}(h:TC P h0 N c env H (Blo id Q)):TC P h0 N (.block id c) env H Q:=by
 intro s q p σ a w r hrd;refine wpIn_block (Code.wpIn_mono ?_ (h s q p σ a w r hrd));rintro e t u ⟨x,b,H',d,σ',f,k,i,l,j,n,m⟩;cases e with
 |normal=>
  obtain rfl:x=.normal:=k;exact⟨_,b,H',d,σ',f,rfl,i,l,j,n,m⟩
 |exit g=>
  obtain rfl:x=.exit g:=k;simp only[Exit.inBlock];simp only[Blo]at i;by_cases e:g=id
  .subst e;rw[Vt rfl];rw[VF]at i;exact⟨_,b,H',d,σ',f,rfl,i,l,j,n,m⟩
  .rw[Vs e];have:Nat.beq g id=false:=by
    simp_all[VM]
   rw[this]at i;exact⟨_,b,H',d,σ',f,rfl,i,l,j,n,m⟩
 |ret=>
  obtain rfl:x=.ret:=k;exact⟨_,b,H',d,σ',f,rfl,i,l,j,n,m⟩
 |_=>exact k.elim
def opA(env:Env):Operand->A
 |.tmp t=>lk env t
 |.const (.bool b)=>.bool b
 |.const (.int k n)=>.int k n
 |.const (.string s)=>.str s.data.toList
 |.const (.pointer none)=>.nilp
 |.const (.slice none 0 0)=>.nils
 |.const (.map none)=>.nilm
 |.const .nilFunc=>.nilf
 |.const .nilIface=>.nilif
 |.func f=>.fn (.func f) [] []
 |_=>.any
theorem Qi{fr ro:Nat->Prop}{σ:Sig}{a:Act}{w:World}(r:Rel fr ro σ H env N a w)(x:Operand):VR ro σ w (opA env x) (a.eval x):=by
 cases x with
 |tmp t=>exact r.env t
 |const v=>
  cases v with
  |slice a n k=>
   cases a with
   |none=>
    cases n with
    |zero=>cases k with
     |zero=>rfl
     |succ k=>trivial
    |succ n=>trivial
   |some a=>trivial
  |pointer p=>cases p with
   |none=>rfl
   |some p=>trivial
  |map p=>cases p with
   |none=>rfl
   |some p=>trivial
  |string s=>rfl
  |_=>simp_all[opA,VR,Act.eval]
 |global g=>trivial
 |func f=>exact⟨[],[],rfl,rfl,rfl⟩
theorem TC.cond{x:Operand}{t:Bool}(i:opA env x=.bool t)(h:t=true->TC P h0 N c env H Q)(j:t=false->TC P h0 N c' env H Q):
  TC P h0 N (.cond x c c') env H Q:=by
 intro b g d σ a w r hrd;have f:=Qi r x;rw[i]at f;exact wpIn_cond_split f (λe=>h e b g d σ a w r hrd) (λe=>j e b g d σ a w r hrd)
theorem Ql4{t:Array Value}{d s:Nat}{v:Value}(a:d<t.size):(t.setIfInBounds d v).getD s undef=if s=d then v else t.getD s undef:=by
 simp only[Array.getD_eq_getD_getElem?,Ve]
 grind
theorem VR.up{fr ro:Nat->Prop}{σ:Sig}{a:Act}{w:World}(r:∀s,VR ro σ w (lk env s) (a.tmps.getD s undef)){d:Nat}(b:d<a.tmps.size){x:A}{v:Value}(f:VR ro σ w x v):
  ∀s,VR ro σ w (lk (up env d x) s) ((a.tmps.setIfInBounds d v).getD s undef):=by
 intro s;rw[Ql4 b];simp only[up,lk];by_cases e:s=d
 .simp_all
 .have:Nat.beq s d=false:=by
   simp_all[VM]
  grind
def Qt(all:Array Oper)(o:Oper)(env:Env)(b:Bool):Prop:=
 match o.guard with
 |none=>b=true
 |some (j,c)=>∃d,(all[j]?).bind (·.dst)=some d/\((∃x,lk env d=.bool x/\b=(x==c))\/(lk env d=.tup []/\b=false))
theorem YW{all:Array Oper}{o:Oper}{b:Bool}(h:Qt all o env b){fr ro:Nat->Prop}{σ:Sig}{a:Act}{w:World}(r:Rel fr ro σ H env N a w):
  Region.wanted o (yielded all a.tmps)=b:=by
 unfold Qt at h;unfold Region.wanted;cases k:o.guard with
 |none=>grind
 |some g=>
  obtain⟨j,c⟩:=g;rw[k]at h;obtain⟨d,m,⟨x,f,i⟩|⟨f,i⟩⟩:=h
  .have e:=r.env d;rw[f]at e;simp only[VR]at e;have n:a.tmps[d]?=some (.bool x):=by
    rw[Array.getD_eq_getD_getElem?]at e
    grind[undef]
   simp_all[yielded]
  .have e:=r.env d;rw[f]at e;obtain⟨l,e,p⟩:=e;rw[Array.getD_eq_getD_getElem?]at e;subst i;simp only[yielded,m,XJ]
   grind
def OpV(P:Program)(o:Oper)(env:Env)(H:Qd)(x:A):Prop:=
 ∀fr ro σ N a w,Rel fr ro σ H env N a w->∃v,(execOp a.eval o).run P w=.ok (.value v) w/\VR ro σ w x v
def OpH(P:Program)(o:Oper)(env:Env)(H:Qd)(x:A)(H':Qd):Prop:=
 ∀fr ro σ N a w,Rel fr ro σ H env N a w->∃v w' ro' τ,(execOp a.eval o).run P w=.ok (.value v) w'/\VR ro' (σ++τ) w' x v/\
  Sim fr ro' (σ++τ) H' w'/\Qh fr ro w ro' w'
def OpU(P:Program)(o:Oper)(env:Env)(H:Qd)(H':Qd):Prop:=
 ∀fr ro σ N a w,Rel fr ro σ H env N a w->∃w' ro' τ,(execOp a.eval o).run P w=.ok .skip w'/\
  Sim fr ro' (σ++τ) H' w'/\Qh fr ro w ro' w'
theorem WO.nil{all:Array Oper}(h:Q .normal env H):WO P h0 N all [] env H Q:=
 λrd fr ro σ a w r hrd=>⟨_,env,H,ro,σ,fr,rfl,h,r,Qh.refl _ _ _,rfl,rfl,Grow.refl _ _ _⟩
theorem QB{σ τ:Sig}{a:Nat}(h:a<=σ.length):(σ++τ).take a=σ.take a:=by
 grind
theorem Qg8{all:Array Oper}{o:Oper}{l:List Oper}{d:Nat}{x:A}(j:h0<=H.length)(hg:Qt all o env true)(n:o.dst=some d)(B:Nat.blt d N=true)
  (g:OpH P o env H x H')(k:WO P h0 N all l (up env d x) H' Q):WO P h0 N all (o::l) env H Q:=by
 intro u fr m σ a w r hrd;obtain⟨v,i,b,τ,p,y,t,f⟩:=g fr m σ N a w r;refine Qac (YW hg r) p ?_;simp only[n,Act.put];have h:d<N:=by simp_all
 have z:Rel fr b (σ++τ) H' (up env d x) N {a with tmps:=a.tmps.setIfInBounds d v} i:=
  ⟨t,VR.up (fr:=fr) (λs=>(r.env s).mono (f.ext σ τ)) (by rw[r.size];exact h) y,by simpa using r.size,r.defers.keep f⟩
 refine Yk (λe a w q=>q.step f (QB ?_)) _ _ _ (k u fr b (σ++τ) _ i z (hrd.to f λ_ q=>q));rw[r.sim.len];exact j
theorem Ys{all:Array Oper}{o:Oper}{l:List Oper}{d:Nat}{x:A}(hg:Qt all o env true)(g:o.dst=some d)(m:Nat.blt d N=true)
  (b:OpV P o env H x)(k:WO P h0 N all l (up env d x) H Q):WO P h0 N all (o::l) env H Q:=by
 intro i fr f σ a w r hrd;obtain⟨v,h,j⟩:=b fr f σ N a w r;refine Qac (YW hg r) h ?_;simp only[g,Act.put];have e:d<N:=by simp_all
 exact k i fr f σ {a with tmps:=a.tmps.setIfInBounds d v} w ⟨r.sim,VR.up (fr:=fr) r.env (by rw[r.size];exact e) j,by simpa using r.size,r.defers⟩ hrd
theorem QmG{all:Array Oper}{o:Oper}{l:List Oper}(i:h0<=H.length)(hg:Qt all o env true)(m:o.dst=none)
  (g:OpU P o env H H')(k:WO P h0 N all l env H' Q):WO P h0 N all (o::l) env H Q:=by
 intro t f j σ a w r hrd;obtain⟨h,b,τ,n,p,d⟩:=g f j σ N a w r;refine Qld (YW hg r) n ?_;simp only[m,Act.put];have u:Rel f b (σ++τ) H' env N a h:=⟨p,λs=>(r.env s).mono (d.ext σ τ),r.size,r.defers.keep d⟩;refine Yk (λe a w q=>q.step d (QB ?_)) _ _ _ (k t f b (σ++τ) _ h u (hrd.to d λ_ q=>q));rw[r.sim.len];exact i
theorem Qpn{all:Array Oper}{o:Oper}{l:List Oper}{x:A}(i:h0<=H.length)(hg:Qt all o env true)(m:o.dst=none)
  (g:OpH P o env H x H')(k:WO P h0 N all l env H' Q):WO P h0 N all (o::l) env H Q:=by
 intro t f j σ a w r hrd;obtain⟨v,h,b,τ,n,y,p,d⟩:=g f j σ N a w r;refine Qac (YW hg r) n ?_;simp only[m,Act.put];have u:Rel f b (σ++τ) H' env N a h:=⟨p,λs=>(r.env s).mono (d.ext σ τ),r.size,r.defers.keep d⟩;refine Yk (λe a w q=>q.step d (QB ?_)) _ _ _ (k t f b (σ++τ) _ h u (hrd.to d λ_ q=>q));rw[r.sim.len];exact i
theorem WO.skip{all:Array Oper}{o:Oper}{l:List Oper}{d:Nat}(hg:Qt all o env false)(g:o.dst=some d)(h:Nat.blt d N=true)
  (k:WO P h0 N all l (up env d (.tup [])) H Q):WO P h0 N all (o::l) env H Q:=by
 intro e fr f σ a w r hrd;unfold wpL wpListIn;rw[YW hg r,Vs (by simp)];refine⟨λ_ _=>trivial,?_⟩;simp only[g,Act.put];have b:d<N:=by simp_all
 exact k e fr f σ {a with tmps:=a.tmps.setIfInBounds d undef} w ⟨r.sim,VR.up (fr:=fr) r.env (by rw[r.size];exact b) ⟨[],rfl,rfl⟩,by simpa using r.size,r.defers⟩ hrd
theorem TC.region{id:Nat}{l:List Oper}(h:WO P h0 N l.toArray l env H Q):TC P h0 N (.region id l.toArray false) env H Q:=
 λrd fr ro σ a w r hrd=>Code.wpIn_mono (λe a w q=>q.postW) (wpIn_region_lit (h rd fr ro σ a w r hrd))
end
mutual
def Yr(ρ:Nat->Nat):A->A
 |.ptr i off=>.ptr (ρ i) off
 |.osl i o n k=>.osl (ρ i) o n k
 |.agg cs=>.agg (Qaa ρ cs)
 |.fn f a c=>.fn f (Qaa ρ a) (Qaa ρ c)
 |.iface t v=>.iface t (Yr ρ v)
 |.map i=>.map (ρ i)
 |.tup vs=>.tup (Qaa ρ vs)
 |a=>a
def Qaa(ρ:Nat->Nat):List A->List A
 |[]=>[]
 |a::r=>Yr ρ a::Qaa ρ r
end
def QfF(ρ:Nat->Nat):List (List A)->List (List A)
 |[]=>[]
 |a::r=>Qaa ρ a::QfF ρ r
def Qke(ρ:Nat->Nat):List (A×A)->List (A×A)
 |[]=>[]
 |a::r=>(Yr ρ a.1,Yr ρ a.2)::Qke ρ r
def QQ(ρ:Nat->Nat):Blk->Blk
 |.cells t cs=>.cells t (Qaa ρ cs)
 |.rowr t k es=>.rowr t k (QfF ρ es)
 |.ents t b1 b2 es=>.ents t (ρ b1) (ρ b2) es
 |.wins t b n c=>.wins t (ρ b) n c
 |.mapP es=>.mapP (Qke ρ es)
 |b=>b
theorem QfX(ρ:Nat->Nat)(b1 b2:Nat):∀(es:List Ent),QfF ρ (es.map (eC b1 b2))=es.map (eC (ρ b1) (ρ b2))
 |[]=>rfl
 |e::es=>by
  have:=QfX ρ b1 b2 es;simp only[Vj,QfF,this];congr 1;cases h:e.fl<;>simp[eC,Qaa,Yr,h]
theorem Qkf(ρ:Nat->Nat)(b n c:Nat):QfF ρ (Qd5 b n c)=Qd5 (ρ b) n c:=by
 unfold Qd5
 induction List.range c with
 |nil=>rfl
 |cons j l a=>simp only[Vj,QfF,a];rfl
theorem QF(ρ:Nat->Nat)(x:Blk):(QQ ρ x).live=x.live:=by cases x<;>rfl
theorem Qak(ρ:Nat->Nat)(x:Blk)(w:World)(b c:Nat):Hid w (QQ ρ x) b c↔Hid w x b c:=by cases x<;>exact Iff.rfl
section
variable {ro:Nat->Prop} {σ σ':Sig} {w:World} {ρ:Nat->Nat} (h:∀i:Nat,σ[ρ i]?=σ'[i]?)
include h
mutual
theorem Qdv:∀{a:A} {v:Value},VR ro σ w (Yr ρ a) v↔VR ro σ' w a v
 |.any,_=>by simp only[Yr,VR]
 |.bool b,v=>by simp only[Yr,VR]
 |.int k n,v=>by simp only[Yr,VR]
 |.str s,v=>by simp only[Yr,VR]
 |.nilp,v=>by simp only[Yr,VR]
 |.ptr i off,v=>by simp only[Yr,VR,h]
 |.rp cs,v=>by simp only[Yr,VR]
 |.nils,v=>by simp only[Yr,VR]
 |.rsl k es,v=>by simp only[Yr,VR]
 |.osl i o n k,v=>by simp only[Yr,VR,h]
 |.agg cs,v=>by simp only[Yr,VR];exact exists_congr λl=>and_congr_right λ_=>Qbs
 |.fn f a c,v=>by simp only[Yr,VR];exact exists_congr λl=>exists_congr λl'=>and_congr_right λ_=>and_congr Qbs Qbs
 |.nilf,v=>by simp only[Yr,VR]
 |.iface t a,v=>by simp only[Yr,VR];exact exists_congr λl=>and_congr_right λ_=>Qdv
 |.nilif,v=>by simp only[Yr,VR]
 |.map i,v=>by simp only[Yr,VR,h]
 |.nilm,v=>by simp only[Yr,VR]
 |.tup vs,v=>by simp only[Yr,VR];exact exists_congr λl=>and_congr_right λ_=>Qbs
theorem Qbs:∀{az:List A} {l:List Value},LR ro σ w (Qaa ρ az) l↔LR ro σ' w az l
 |[],l=>by simp only[Qaa,LR]
 |a::r,l=>by
  simp only[Qaa,LR];exact exists_congr λv=>exists_congr λl'=>and_congr_right λ_=>and_congr Qdv Qbs
end
theorem QdI:∀(cs:List A),(Qaa ρ cs).length=cs.length
 |[]=>rfl
 |a::r=>by simp[Qaa,QdI r]
theorem Qhb{k:Nat}:∀{es:List (List A)} {l:List Value},RL ro σ w k (QfF ρ es) l↔RL ro σ' w k es l
 |[],l=>by rfl
 |a::r,l=>by
  simp only[QfF,RL,QdI h];exact exists_congr λl1=>exists_congr λl2=>and_congr_right λ_=>and_congr_right λ_=>and_congr (and_congr_left λ_=>Qbs h) Qhb
theorem Qm8:∀{es:List (A×A)} {l:List MapEntry},ER ro σ w (Qke ρ es) l↔ER ro σ' w es l
 |[],l=>by rfl
 |a::r,l=>by
  simp only[Qke,ER];exact exists_congr λe=>exists_congr λl'=>and_congr_right λ_=>and_congr (Qdv h) (and_congr (Qdv h) Qm8)
theorem Qhn{x:Blk}{s:Option Nat}:BR ro σ w (QQ ρ x) s↔BR ro σ' w x s:=by
 cases x with
 |cells t f=>
  cases s with
  |none=>exact Iff.rfl
  |some b=>simp only[QQ,BR];exact exists_congr λl=>and_congr_right λ_=>and_congr_left λ_=>Qbs h
 |rowr t k a=>
  cases s with
  |none=>exact Iff.rfl
  |some b=>simp only[QQ,BR];exact exists_congr λl=>and_congr_right λ_=>Qhb h
 |mapP a=>
  cases s with
  |none=>exact Iff.rfl
  |some b=>simp only[QQ,BR];exact exists_congr λl=>exists_congr λc=>and_congr_right λ_=>and_congr_left λ_=>Qm8 h
 |wins t b n c=>
  cases s with
  |none=>exact Iff.rfl
  |some d=>
   simp only[QQ,BR];refine exists_congr λl=>and_congr_right λ_=>?_;rw[<- Qkf];exact Qhb h
 |ents t g e a=>
  cases s with
  |none=>exact Iff.rfl
  |some b=>
   simp only[QQ,BR];refine exists_congr λl=>and_congr_right λ_=>?_;rw[<- QfX];exact Qhb h
 |_=>cases s<;>exact Iff.rfl
end
def C(P:Program)(f:FuncId)(args:List A)(H:Qd)(Q:A->Qd->Prop):Prop:=
 ∀fr ro σ vals w,Sim fr ro σ H w->LR ro σ w args vals->Calls P f vals.toArray w λe w'=>
  ∃v r H' ro' τ,e=.returned v/\Q r H'/\Sim fr ro' (σ++τ) H' w'/\VR ro' (σ++τ) w' r v/\Qh fr ro w ro' w'
theorem C.mono{P:Program}{f:FuncId}{args:List A}{H:Qd}{Q Q':A->Qd->Prop}(h:C P f args H Q)(hq:∀r H,Q r H->Q' r H):C P f args H Q':=
 λfr ro σ vals w s l=>(h fr ro σ vals w s l).mono (by grind)
def Qgd:Nat->List A->Env
 |_,[]=>[]
 |i,a::r=>(i,a)::Qgd (i+1) r
theorem QeT{ro:Nat->Prop}{σ:Sig}{w:World}:∀{args:List A} {vals:List Value} {i:Nat} (pre:List Value),pre.length=i->LR ro σ w args vals->∀rest:Array Value,
  ∀s,VR ro σ w (lk (Qgd i args) s) (((pre++vals).toArray++rest).getD s undef)
 |[],vals,i,pre,hp,hl,rest,s=>trivial
 |a::r,vals,i,pre,hp,hl,rest,s=>by
  simp only[LR]at hl;obtain⟨v,l',rfl,h1,h2⟩:=hl;simp only[Qgd,lk];by_cases e:s=i
  .simp_all[Array.getElem?_append]
  .have:Nat.beq s i=false:=by
    simp_all[VM]
   rw[this];have:=QeT (i:=i+1) (pre++[v]) (by simp[hp]) h2 rest s
   grind
def Qcd(P:Program)(fn:Func)(env:Env)(H:Qd)(r:A):Prop:=
 ∀fr ro σ N a w,Rel fr ro σ H env N a w->∃v,(results fn a.tmps).run P w=.ok v w/\VR ro σ w r v
def QcW(P:Program)(h0:Nat)(fn:Func)(Q:A->Qd->Prop):QA
 |.normal,env,H=>∃env' H' r,Le h0 env H env' H'/\Qcd P fn env' H' r/\Q r H'
 |.ret,env,H=>∃env' H' r,Le h0 env H env' H'/\Qcd P fn env' H' r/\Q r H'
 |.exit _,_,_=>False
theorem LR.length{ro:Nat->Prop}{σ:Sig}{w:World}:∀{az:List A} {l:List Value},LR ro σ w az l->l.length=az.length
 |[],l,h=>by simp only[LR]at h;simp[h]
 |a::r,l,h=>by
  simp only[LR]at h;obtain⟨v,l',rfl,_,h2⟩:=h;simp[h2.length]
theorem Sim.turn{fr ro:Nat->Prop}{σ:Sig}{H:Qd}{w:World}(s:Sim fr ro σ H w){b:Nat}{obj:Obj}(m:¬ro b)(r:¬fr b)(G:∀(i:Nat) (x:Blk),σ[i]?=some (some b)->H[i]?=some x->x.live=true->False)
  (h:∀(i d:Nat) (x:Blk),σ[i]?=some (some d)->H[i]?=some x->Hid w x d b->False)
  (n:∀y,w.shape? b=some y->(w.putObj b obj).shape? b=some y):Sim fr ro σ H (w.putObj b obj)/\Qh fr ro w ro (w.putObj b obj):=by
 have u:∀c,c≠b->(w.putObj b obj).heap[c]?=w.heap[c]? :=λc p=>World.putObj_heap_other p;have e:(w.putObj b obj).heap.size=w.heap.size:=by simp
 have ev:Qh fr ro w ro (w.putObj b obj):=by
  refine⟨λ_ q=>q,(by grind),(by grind),by omega,λc x q=>?_,rfl,rfl,rfl,XT _⟩
  grind[World.shape?]
 have a:Ext ro σ w ro σ (w.putObj b obj):=by have:=ev.ext σ [];grind
 refine⟨⟨s.len,s.roOk.to (λ_ q=>q) ev.keepRo (λc q=>by rw[e];exact s.roLt c q),λc q=>by rw[e];exact s.frLt c q,s.roFr,λi c x f g t=>?_,s.inj,λi y x f g=>?_,
  s.hidTo (· = ·) Q2 (by omega) (by simp) (by simp) λj d y k l E=>.inl ⟨j,y,rfl,k,l,id,λc q=>s.hidKeep k l (by grind) ev.keepRo q⟩⟩,ev⟩
 .obtain⟨B,F,z⟩:=s.own i c x f g t
  grind
 .refine(s.blk i y x f g).keep a ?_ ?_
  .grind
  grind
theorem Qbj{P:Program}{fn:Func}{tmps:Array Value}{R:Ending->World->Prop}{fr ro:Nat->Prop}{σ:Sig}{H:Qd}:
  ∀(ds:List Deferred) (w:World),ds.Nodup->(∀d∈ds,∃D,d={target:=.collected D,args:= #[]}/\ ¬ro D/\ ¬fr D/\(∀(i:Nat) (x:Blk),σ[i]?=some (some D)->H[i]?=some x->x.live=true->False)/\(∀(i d:Nat) (x:Blk),σ[i]?=some (some d)->H[i]?=some x->Hid w x d D->False)/\w.heap[D]?=some (.deferred (some [])))->
  Sim fr ro σ H w->(∀w',Sim fr ro σ H w'->Qh fr ro w ro w'->∃v,(results fn tmps).run P w'=.ok v w'/\R (.returned v) w')->LeavesInM Fence.wide 0 P fn tmps R ds .returning w
 |[],w,_,_,s,hk=>by
  obtain⟨v,h1,h2⟩:=hk w s (Qh.refl _ _ _);exact⟨v,h1,h2⟩
 |d::ds,w,hn,hd,s,hk=>by
  obtain⟨D,rfl,h1,h2,h3,h5,h4⟩:=hd d (by simp);obtain⟨n1,n2⟩:=List.nodup_cons.1 hn;obtain⟨s',ev⟩:=s.turn (obj:=.deferred none) h1 h2 h3 h5 (λy q=>by grind[World.shape?]);refine⟨(by simp),.inl ⟨D,_,rfl,run_takeDeferred h4,?_⟩⟩;refine Qbj ds _ n2 (λd' q=>?_) s' (λw' q1 q2=>hk w' q1 (ev.trans q2));obtain⟨D',rfl,g1,g2,g3,g5,g4⟩:=hd d' (by simp[q]);refine⟨D',rfl,g1,g2,g3,λi d x z1 z2 z3=>g5 i d x z1 z2 (s.hidKeep z1 z2 (λz=>World.putObj_heap_other (by grind)) (λb q=>World.putObj_heap_other (λe:b=D=>h1 (e▸q))) z3),(World.putObj_heap_other (λe=>?_)).trans g4⟩
  grind
theorem Qc{P:Program}{f:FuncId}{fn:Func}{c:Code}{N:Nat}{args:List A}{H:Qd}{Q:A->Qd->Prop}
  (hf:P.funcs[f]?=some fn)(hb:fn.body=some c)(hN:fn.ntmps=N)(hA:Nat.ble args.length N=true)
  (h:TC P H.length N c (Qgd 0 args) H (QcW P H.length fn Q)):C P f args H Q:=by
 intro fr ro σ vals w hs hl;have X:=hl.length;have Y:args.length<=N:=by simp_all
 refine(callsIn_wide (n:=0)).1 (callsIn_of_wp_marks hf hb trivial (Code.wpIn_mono ?_ (h none fr ro σ _ w ⟨hs,?_,?_,List.nodup_nil,λd k=>by cases k⟩ Qdx)))
 .rintro e m j ⟨x,p,H1,L,σ1,B,y,z,h3,h4,h5,V⟩;have t:(∃g H' r,Le H.length p H1 g H'/\Qcd P fn g H' r/\Q r H')->LeavesInM Fence.wide 0 P fn m.tmps (λe j=>
    ∃v' r H' a τ,e=.returned v'/\Q r H'/\Sim fr a (σ++τ) H' j/\VR a (σ++τ) j r v'/\Qh fr ro w a j) m.defers .returning j:=by
   rintro⟨g,H',r,G,hr,hq⟩;obtain⟨a,σ',b,l,ht⟩:=G B L σ1 N m j h3;have hσ:σ'=σ++σ'.drop H.length:=by
    have T:σ'.take H.length=σ:=by rw[ht,h5,VI (by rw[hs.len];omega)]
    grind[List.take_append_drop]
   have s1:Sim fr a σ' H' j:=b.sim.frMono V.sub;refine Qbj (ro:=a) (fr:=fr) (σ:=σ') (H:=H') m.defers j b.defers.1 (λd k=>?_) s1 (λw2 R u=>?_)
   .obtain⟨D,rfl,E,g2⟩:=b.defers.2 d k;refine⟨D,rfl,λq=>b.sim.roFr D q E,λq=>?_,λi x M J O=>(b.sim.own i D x M J O).2.2 E,λi d x M J O=>(b.sim.hid i d x D M J O).fr E,g2⟩;rcases V.ds _ k with W|⟨D',e,W⟩
    .cases W
    .have:D=D':=by simpa using e
     subst this;have:=hs.frLt D q;omega
   .have F:Rel fr a σ' H' g N {m with defers:=[]} w2:=⟨R,λs=>(b.env s).mono (by have:=u.ext σ' [];grind),b.size,List.nodup_nil,λd k=>by cases k⟩;obtain⟨v,T,e2⟩:=hr fr a σ' N _ w2 F;exact⟨v,T,v,r,H',a,σ'.drop H.length,rfl,hq,hσ▸R,hσ▸e2,(h4.trans (YA l)).trans u⟩
  cases e with
  |normal=>
   obtain rfl:x=.normal:=y;exact t z
  |ret=>
   obtain rfl:x=.ret:=y;exact t z
  |exit id=>
   obtain rfl:x=.exit id:=y;exact z.elim
  |_=>exact y.elim
 .intro s;have:=QeT (i:=0) [] rfl hl (Array.replicate (fn.ntmps-vals.toArray.size) undef) s
  grind
 grind
section
variable {P:Program} {fn:Func} {env:Env} {H:Qd}
theorem Qcd.nil(h:fn.results= #[]):Qcd P fn env H (.tup []):=
 λfr ro σ N a w r=>⟨.tuple #[],by simp[results,h,go_sem],[],rfl,rfl⟩
theorem Qcd.one{t:Nat}{x:A}(h:fn.results= #[.tmp t])(hx:lk env t=x):Qcd P fn env H x:=
 λfr ro σ N a w r=>⟨a.tmps.getD t undef,by simp[results,h,go_sem],hx▸r.env t⟩
theorem QkP{t u:Nat}{x y:A}(h:fn.results= #[.tmp t,.tmp u])(hx:lk env t=x)(hy:lk env u=y):Qcd P fn env H (.tup [x,y]):=
 λfr ro σ N a w r=>⟨.tuple #[a.tmps.getD t undef,a.tmps.getD u undef],by simp[results,h,go_sem],
  [_,_],rfl,_,_,rfl,hx▸r.env t,_,_,rfl,hy▸r.env u,rfl⟩
theorem QbO{t u v:Nat}{x y z:A}(h:fn.results= #[.tmp t,.tmp u,.tmp v])(hx:lk env t=x)(hy:lk env u=y)(hz:lk env v=z):
  Qcd P fn env H (.tup [x,y,z]):=
 λfr ro σ N a w r=>⟨.tuple #[a.tmps.getD t undef,a.tmps.getD u undef,a.tmps.getD v undef],by simp[results,h,go_sem],
  [_,_,_],rfl,_,_,rfl,hx▸r.env t,_,_,rfl,hy▸r.env u,_,_,rfl,hz▸r.env v,rfl⟩
end
inductive Ctl (S B:Type) where
 |cont (s:S)
 |done (b:B)
 deriving DecidableEq
def iter{S B:Type}(step:S->Option (Ctl S B)):Nat->S->Option B
 |0,_=>none
 |n+1,s=>match step s with
  |some (.cont s')=>iter step n s'
  |some (.done b)=>some b
  |none=>none
def Qbf{S B:Type}(I:S->Env->Qd->Prop)(d:Ctl S B)(Q:QA):QA
 |.normal,env,H=>∃s,d=.cont s/\I s env H
 |.exit id,env,H=>(∃b,d=.done b)/\Q (.exit id) env H
 |.ret,env,H=>(∃b,d=.done b)/\Q .ret env H
theorem QmO{P:Program}{h0 N:Nat}{c:Code}{S B:Type}{step:S->Option (Ctl S B)}{I:S->Env->Qd->Prop}{Q:QA}{z:B}
  (body:∀s d env H,I s env H->step s=some d->(∀b,d=.done b->b=z)->TC P h0 N c env H (Qbf I d Q))
  {m:Nat}{s0:S}(h:iter step m s0=some z){env:Env}{H:Qd}(J:I s0 env H):TC P h0 N (.loop c) env H Q:=by
 intro V p E σ a w r hrd b k cs hro hb hr;have L:∀m s env H fr1 ro1 σ1 a1 w1,iter step m s=some z->I s env H->Rel fr1 ro1 σ1 H env N a1 w1->Qh p E w ro1 w1->σ1.take h0=σ.take h0->Grow p w a.defers fr1 a1.defers->
   ∃e j i,QaL h0 p E σ w N a.defers Q e j i/\ArrivesIn (Machine.fenced P (WF V)) P (lone (b.atR a1 (.code c::.inLoop c::k)) cs w1) b k cs e j i:=by
  intro m
  induction m with
  |zero=>grind[iter]
  |succ m ih=>
   intro s env H fr1 ro1 σ1 a1 w1 hit J r1 ev1 t1 g1;simp only[iter]at hit;cases R:step s with
   |none=>grind
   |some d=>
    rw[R]at hit;have hd:∀b,d=.done b->b=z:=by
     grind
    obtain⟨e,j,i,M,f⟩:=body s d env H J R hd V fr1 ro1 σ1 a1 w1 r1 (hrd.to ev1 g1.sub) b (.inLoop c::k) cs hro hb hr;obtain⟨x,g,H',n,σ',y,F,t,O,q4,W,q6⟩:=M;have u:=ev1.trans (q4.frMono g1.sub);have X:=g1.trans ev1.size q6;have T:∀x,Q x g H'->ExR e x->QaL h0 p E σ w N a.defers Q e j i:=λx q q'=>⟨x,g,H',n,σ',y,q',q,O,u,W.trans t1,X⟩;cases e with
    |normal=>
     obtain rfl:x=.normal:=F;obtain⟨s',rfl,t⟩:=t;obtain⟨e2,Y,w2,G,l⟩:=ih s' g H' y n σ' j i hit t O u (W.trans t1) X;exact⟨e2,Y,w2,G,.of_steps (StepsIn.trans f (.one (fenced_calm hb hr rfl) stepR_inLoop)) l⟩
    |exit id=>
     obtain rfl:x=.exit id:=F;exact⟨_,j,i,T _ t.2 rfl,.pass (x:=.inLoop c) rfl (by simp) f⟩
    |ret=>
     obtain rfl:x=.ret:=F;exact⟨_,j,i,T _ t.2 rfl,.pass (x:=.inLoop c) rfl (by simp) f⟩
    |_=>exact F.elim
 obtain⟨e,j,i,M,f⟩:=L m s0 env H p E σ a w h J r (Qh.refl _ _ _) rfl (Grow.refl _ _ _);exact⟨e,j,i,M,.of_steps (.one (fenced_calm hb hr rfl) stepR_loop) f⟩
theorem TC.loop{P:Program}{h0 N:Nat}{c:Code}{S B:Type}{step:S->Option (Ctl S B)}(E:S->Env)(Hp:S->Qd){Q:QA}
  {m:Nat}{s0:S}{b0:B}(h:iter step m s0=some b0){env:Env}{H:Qd}(hI:Le h0 env H (E s0) (Hp s0))
  (body:∀s d,step s=some d->(∀b,d=.done b->b=b0)->TC P h0 N c (E s) (Hp s) (Qbf (λs env H=>Le h0 env H (E s) (Hp s)) d Q)):TC P h0 N (.loop c) env H Q:=
 QmO (I:=λs env H=>Le h0 env H (E s) (Hp s)) (λs d env H hI hs hd=>TC.le hI (body s d hs hd)) h hI
def rho(π:List Nat)(n i:Nat):Nat:=
 match π[i]? with
 |some p=>p
 |none=>n+(i-π.length)
def Yf:Qd->List Nat->List Blk->Qd
 |H,[],xs=>H++xs
 |H,p::π,x::xs=>Yf (H.set p x) π xs
 |H,_::_,[]=>H
theorem Qb8:∀(π:List Nat) (H:Qd) (xs:List Blk),π.length<=xs.length->(Yf H π xs).length=H.length+(xs.length-π.length)
 |[],H,xs,_=>by simp[Yf]
 |p::π,H,[],h=>by simp at h
 |p::π,H,x::xs,h=>by
  simp only[X0]at h;simp only[Yf,Qb8 π (H.set p x) xs (by omega),X4,X0];omega
theorem Qch:∀(π:List Nat) (H:Qd) (xs:List Blk) (i:Nat),i<H.length->i∉π->(Yf H π xs)[i]?=H[i]?
 |[],H,xs,i,hi,_=>by simp[Yf,XM hi]
 |p::π,H,[],i,hi,h=>by simp[Yf]
 |p::π,H,x::xs,i,hi,h=>by
  simp only[X6,not_or]at h;simp only[Yf];rw[Qch π (H.set p x) xs i (by grind) h.2,XP (λe=>h.1 e.symm)]
theorem QeB:∀(π:List Nat) (H:Qd) (xs:List Blk) (j:Nat),π.length<=xs.length->(∀p∈π,p<H.length)->π.Nodup->
  (Yf H π xs)[rho π H.length j]?=xs[j]?
 |[],H,xs,j,_,_,_=>by
  simp_all[Yf,rho,XN]
 |p::π,H,[],j,h,_,_=>by simp at h
 |p::π,H,x::xs,j,h,hp,hn=>by
  simp only[X0]at h;have hn':=List.nodup_cons.1 hn;simp only[Yf];cases j with
  |zero=>
   grind[rho,Qch]
  |succ j=>
   have ih:=QeB π (H.set p x) xs j (by omega) (λq hq=>by grind) hn'.2;rw[X4]at ih;have e:rho (p::π) H.length (j+1)=rho π H.length j:=by
    simp only[rho,XF,X0];simp
   grind
theorem Qkd(π:List Nat)(n i:Nat)(hi:n<=i\/i∈π):∃j,i=rho π n j:=by
 rcases hi with hi|hi
 .refine⟨π.length+(i-n),?_⟩
  grind[rho]
 .obtain⟨j,a,rfl⟩:=List.mem_iff_getElem.1 hi;exact⟨j,by simp[rho,XK a]⟩
def Yh(σ:Sig)(π:List Nat):Sig:=π.map λp=>(σ[p]?).getD none
theorem Qea{σ τ:Sig}{π:List Nat}{n:Nat}(a:σ.length=n)(b:∀p∈π,p<n)(j:Nat):(σ++τ)[rho π n j]?=(Yh σ π++τ)[j]? :=by
 rcases(by omega)with h|h
 .grind[rho,Yh]
 grind[rho,Yh]
def OpC(P:Program)(o:Oper)(env:Env)(H:Qd)(f:FuncId)(args:List A):Prop:=
 ∀fr ro σ N a w,Rel fr ro σ H env N a w->∃vals:List Value,(execOp a.eval o).run P w=.ok (.enter f vals.toArray) w/\LR ro σ w args vals
theorem Y2{π:List Nat}{H:Qd}{Hc:List Blk}(a:π.map (λp=>H[p]?)=Hc.map some){p:Nat}(b:p∈π):p<H.length:=by
 grind[List.mem_map_of_mem]
theorem WO.call{P:Program}{h0 N:Nat}{all:Array Oper}{o:Oper}{l:List Oper}{env:Env}{H:Qd}{Q:QA}{d:Option Nat}{f:FuncId}
  {args ab:List A}{Hc:Qd}{Qr:A->Qd->Prop}(π:List Nat)(hh:h0<=H.length)(hg:Qt all o env true)(hd:o.dst=d)(hN:∀x,d=some x->x<N)
  (am:OpC P o env H f args)(hargs:args=Qaa (rho π H.length) ab)(hH:π.map (λp=>H[p]?)=(Hc.map (QQ (rho π H.length))).map some)(hπ:π.Nodup)
  (hC:C P f ab Hc Qr)
  (k:∀r H1,Qr r H1->WO P h0 N all l (match d with|some d=>up env d (Yr (rho π H.length) r)|none=>env) (Yf H π (H1.map (QQ (rho π H.length)))) Q):
  WO P h0 N all (o::l) env H Q:=by
 intro rd fr ro σ a w r hrd;obtain⟨ah,h1,h2⟩:=am fr ro σ N a w r;refine QfP (YW hg r) h1 ?_;have hp:∀p∈π,p<H.length:=λp q=>Y2 hH q;have hσl:=r.sim.len;have ac:∀(j p:Nat),π[j]?=some p->H[p]?=(Hc[j]?).map (QQ (rho π H.length)):=by
  intro j p M;have:=congrArg (λl=>l[j]?) hH;simp only[Xo,M,Xj]at this;cases e:Hc[j]? with
  |none=>rw[e]at this;simp at this
  |some x=>rw[e]at this;simpa using this
 have ak:π.length=Hc.length:=by simpa using congrArg List.length hH
 have hσc:∀j:Nat,σ[rho π H.length j]?=(Yh σ π)[j]? :=by
  intro j;have:=Qea (τ:=[]) hσl hp j;simpa using this
 let frc:Nat->Prop:=λb=>fr b\/(∃i x,σ[i]?=some (some b)/\H[i]?=some x/\x.live=true/\i∉π)\/ ∃i x d,σ[i]?=some (some d)/\H[i]?=some x/\Hid w x d b/\i∉π
 have hπj:∀(j b:Nat),(Yh σ π)[j]?=some (some b)->∃p,π[j]?=some p/\σ[p]?=some (some b):=by
  intro j b M;simp only[Yh,Xo]at M;cases e:π[j]? with
  |none=>rw[e]at M;simp at M
  |some p=>
   rw[e]at M;simp at M;refine⟨p,rfl,?_⟩;cases e2:σ[p]? with
   |none=>rw[e2]at M;simp at M
   |some s=>rw[e2]at M;simp at M;rw[M]
 have hπi:∀(i j p:Nat),π[i]?=some p->π[j]?=some p->i=j:=by
  intro i j p T R;have hi:i<π.length:=by
   rcases VC i π.length with q|q
   .exact q
   .rw[XO q]at T;simp at T
  have M:j<π.length:=by
   rcases VC j π.length with q|q
   .exact q
   .rw[XO q]at R;simp at R
  rw[XK hi]at T;rw[XK M]at R;have af:=(XZ T).trans (XZ R).symm;rcases Nat.lt_trichotomy i j with q|q|q
  .exact(VE.1 hπ i j hi M q af).elim
  .exact q
  .exact(VE.1 hπ j i M hi q af.symm).elim
 have al:Sim frc ro (Yh σ π) Hc w:=by
  refine⟨by simp[Yh,ak],r.sim.roOk,?_,?_,?_,?_,?_,?_⟩
  .rintro b (hb|⟨i,x,h,g,m,J⟩|⟨i,x,d,h,g,m,J⟩)
   .exact r.sim.frLt b hb
   .exact(r.sim.own i b x h g m).1
   .exact(r.sim.hid i d x b h g m).lt
  .rintro b hb (hf|⟨i,x,h,g,m,J⟩|⟨i,x,d,h,g,m,J⟩)
   .exact r.sim.roFr b hb hf
   .exact(r.sim.own i b x h g m).2.1 hb
   .exact(r.sim.hid i d x b h g m).ro hb
  .intro j b x h g m;obtain⟨p,T,e2⟩:=hπj j b h;have e3:H[p]?=some (QQ (rho π H.length) x):=by rw[ac j p T,g];rfl
   obtain⟨o1,o2,o3⟩:=r.sim.own p b _ e2 e3 (by rw[QF];exact m);refine⟨o1,o2,?_⟩;rintro(hf|⟨i,y,y1,y2,y3,y4⟩|⟨i,y,d,y1,y2,y3,y4⟩)
   .exact o3 hf
   .have:=r.sim.inj i p b _ _ y1 e2 y2 e3 y3 (by rw[QF];exact m);subst this;exact y4 (VH T)
   .exact(r.sim.hid i d y b y1 y2 y3).ne p b _ e2 e3 (by rw[QF];exact m) rfl
  .intro i j b x y h g m J X q6;obtain⟨p,T,e2⟩:=hπj i b h;obtain⟨p',R,ao⟩:=hπj j b g;have e3:H[p]?=some (QQ (rho π H.length) x):=by rw[ac i p T,m];rfl
   have aq:H[p']?=some (QQ (rho π H.length) y):=by rw[ac j p' R,J];rfl
   have:=r.sim.inj p p' b _ _ e2 ao e3 aq (by rw[QF];exact X) (by rw[QF];exact q6);subst this;have hi:i<π.length:=by
    rcases VC i π.length with q|q
    .exact q
    .rw[XO q]at T;simp at T
   have M:j<π.length:=by
    rcases VC j π.length with q|q
    .exact q
    .rw[XO q]at R;simp at R
   rw[XK hi]at T;rw[XK M]at R;have af:=(XZ T).trans (XZ R).symm;rcases Nat.lt_trichotomy i j with q|q|q
   .exact(VE.1 hπ i j hi M q af).elim
   .exact q
   .exact(VE.1 hπ j i M hi q af.symm).elim
  .intro j s x h g;have M:j<π.length:=by
    rcases VC j π.length with q|q
    .exact q
    .rw[XO (by simpa[Yh]using q)]at h;simp at h
   have T:π[j]?=some π[j]:=XK M;have e3:H[π[j]]?=some (QQ (rho π H.length) x):=by rw[ac j _ T,g];rfl
   have e2:σ[π[j]]?=some s:=by
    have:=hσc j;rw[h]at this;simpa[rho,T]using this
   exact(Qhn hσc).1 (r.sim.blk _ s _ e2 e3)
  .intro j b x c h g m;obtain⟨p,T,e2⟩:=hπj j b h;have e3:H[p]?=some (QQ (rho π H.length) x):=by rw[ac j p T,g];rfl
   have k:=r.sim.hid p b _ c e2 e3 ((Qak _ _ _ _ _).2 m);refine⟨k.lt,k.ro,?_,?_,?_⟩
   .rintro(hf|⟨i,y,y1,y2,y3,y4⟩|⟨i,y,d,y1,y2,y3,y4⟩)
    .exact k.fr hf
    .exact k.ne i c y y1 y2 y3 rfl
    .obtain⟨rfl,rfl⟩:=k.one i d y y1 y2 y3;exact y4 (VH T)
   .intro O b' y L n Y;obtain⟨p',f1,f2⟩:=hπj O b' L;exact k.ne p' b' _ f2 (show H[p']?=some (QQ (rho π H.length) y)by rw[ac O p' f1,n];rfl) (by rw[QF];exact Y)
   .intro O b' y L n Y;obtain⟨p',f1,f2⟩:=hπj O b' L;obtain⟨z4,z5⟩:=k.one p' b' _ f2 (show H[p']?=some (QQ (rho π H.length) y)by rw[ac O p' f1,n];rfl) ((Qak _ _ _ _ _).2 Y);subst z5;exact⟨z4,hπi O j p' f1 T⟩
 have ag:LR ro (Yh σ π) w ab ah:=(Qbs hσc).1 (hargs▸h2);refine Calls.mono (hC frc ro (Yh σ π) ah w al ag) ?_;rintro e w' ⟨v,rr,H1,aa,τ,rfl,hq,sc,hv,ev⟩;have hσ':∀j:Nat,(σ++τ)[rho π H.length j]?=(Yh σ π++τ)[j]? :=λj=>Qea hσl hp j;have an:H1.length=π.length+τ.length:=by rw[<- sc.len];simp[Yh]
 have aj:π.length<=(H1.map (QQ (rho π H.length))).length:=by simp;omega
 have W:Qh fr ro w aa w':=⟨ev.sub,ev.keepRo,λb q=>ev.keepFr b (.inl q),ev.size,ev.shape,ev.os,ev.tape,ev.output,ev.drawn⟩;have G:∀j,(Yf H π (H1.map (QQ (rho π H.length))))[rho π H.length j]?=(H1[j]?).map (QQ (rho π H.length)):=by
  intro j;rw[QeB π H _ j aj hp hπ];simp
 have B:∀i,i<H.length->i∉π->(Yf H π (H1.map (QQ (rho π H.length))))[i]?=H[i]? :=λi=>Qch π H _ i;have t:∀i:Nat,(∃j,i=rho π H.length j)\/(i<H.length/\i∉π):=by
  intro i;by_cases q:H.length<=i\/i∈π
  .exact .inl (Qkd π H.length i q)
  .simp only[not_or]at q;exact .inr ⟨by omega,q.2⟩
 have F:∀i b x,i<H.length->i∉π->σ[i]?=some (some b)->H[i]?=some x->x.live=true->frc b:=λi b x h g m J X=>.inr (.inl ⟨i,x,m,J,X,g⟩);have ae:∀i b x c,i<H.length->i∉π->σ[i]?=some (some b)->H[i]?=some x->Hid w' x b c->Hid w x b c/\frc c:=λi b x c h g m J X=>
  have q6:=r.sim.hidKeep m J (λz=>ev.keepFr b (F i b x h g m J z)) ev.keepRo X
  ⟨q6,.inr (.inr ⟨i,x,b,m,J,q6,g⟩)⟩
 have ai:Sim fr aa (σ++τ) (Yf H π (H1.map (QQ (rho π H.length)))) w':=by
  refine⟨?_,sc.roOk,λb q=>sc.frLt b (.inl q),λb q q'=>sc.roFr b q (.inl q'),?_,?_,?_,?_⟩
  .rw[Qb8 _ _ _ aj];simp[hσl,an]
  .intro i b x h g m;rcases t i with⟨j,rfl⟩|⟨c1,c2⟩
   .rw[hσ']at h;rw[G]at g;cases e:H1[j]? with
    |none=>rw[e]at g;simp at g
    |some y=>
     rw[e]at g;simp at g;subst g;obtain⟨o1,o2,o3⟩:=sc.own j b y h e (by rw[QF]at m;exact m);exact⟨o1,o2,λq=>o3 (.inl q)⟩
   .rw[B i c1 c2]at g;rw[XM (by omega)]at h;obtain⟨o1,o2,o3⟩:=r.sim.own i b x h g m;exact⟨Vf o1 ev.size,λq=>sc.roFr b q (F i b x c1 c2 h g m),o3⟩
  .intro i E b x y h g m J X q6;have ad:∀(i E:Nat) (x y:Blk),(∃j,i=rho π H.length j)->(E<H.length/\E∉π)->(σ++τ)[i]?=some (some b)->(σ++τ)[E]?=some (some b)->
     (Yf H π (H1.map (QQ (rho π H.length))))[i]?=some x->(Yf H π (H1.map (QQ (rho π H.length))))[E]?=some y->x.live=true->y.live=true->False:=by
    rintro i E x y ⟨j,rfl⟩ ⟨c1,c2⟩ h g m J X q6;rw[hσ']at h;rw[G]at m;rw[B E c1 c2]at J;rw[XM (by omega)]at g;cases e:H1[j]? with
    |none=>rw[e]at m;simp at m
    |some z=>
     rw[e]at m;simp at m;subst m;exact(sc.own j b z h e (by rw[QF]at X;exact X)).2.2 (F E b y c1 c2 g J q6)
   rcases t i with ci|ci<;>rcases t E with ci'|ci'
   .obtain⟨j,rfl⟩:=ci;obtain⟨O,rfl⟩:=ci';rw[hσ']at h g;rw[G]at m J;cases e:H1[j]? with
    |none=>rw[e]at m;simp at m
    |some z=>
     cases V:H1[O]? with
     |none=>rw[V]at J;simp at J
     |some z'=>
      rw[e]at m;simp at m;subst m;rw[V]at J;simp at J;subst J;rw[sc.inj j O b z z' h g e V (by rw[QF]at X;exact X) (by rw[QF]at q6;exact q6)]
   .exact(ad i E x y ci ci' h g m J X q6).elim
   .exact(ad E i y x ci' ci g h J m q6 X).elim
   .rw[B i ci.1 ci.2]at m;rw[B E ci'.1 ci'.2]at J;rw[XM (by omega)]at h g;exact r.sim.inj i E b x y h g m J X q6
  .intro i s x h g;rcases t i with⟨j,rfl⟩|⟨c1,c2⟩
   .rw[hσ']at h;rw[G]at g;cases e:H1[j]? with
    |none=>rw[e]at g;simp at g
    |some y=>
     rw[e]at g;simp at g;subst g;exact(Qhn hσ').2 (sc.blk j s y h e)
   .rw[B i c1 c2]at g;rw[XM (by omega)]at h;refine BR.keep (W.ext σ τ) ?_ (r.sim.blk i s x h g) ?_
    .rintro b rfl hl;exact ev.keepFr b (F i b x c1 c2 h g hl)
    .rintro b c rfl hl;exact ev.keepFr c (.inr (.inr ⟨i,x,b,h,g,hl,c2⟩))
  .intro i b x c h g m;rcases t i with⟨j,rfl⟩|⟨c1,c2⟩
   .rw[hσ']at h;rw[G]at g;cases e:H1[j]? with
    |none=>rw[e]at g;simp at g
    |some y=>
     rw[e]at g;simp at g;subst g;have k:=sc.hid j b y c h e ((Qak _ _ _ _ _).1 m);refine⟨k.lt,k.ro,λq=>k.fr (.inl q),?_,?_⟩
     .intro E b' y' L n Y;rcases t E with⟨O,rfl⟩|⟨d1,d2⟩
      .rw[hσ']at L;rw[G]at n;cases V:H1[O]? with
       |none=>rw[V]at n;simp at n
       |some u=>
        rw[V]at n;simp at n;subst n;exact k.ne O b' u L V (by rw[QF]at Y;exact Y)
      .rw[B E d1 d2]at n;rw[XM (by omega)]at L;rintro rfl;exact k.fr (F E c y' d1 d2 L n Y)
     .intro E b' y' L n Y;rcases t E with⟨O,rfl⟩|⟨d1,d2⟩
      .rw[hσ']at L;rw[G]at n;cases V:H1[O]? with
       |none=>rw[V]at n;simp at n
       |some u=>
        rw[V]at n;simp at n;subst n;obtain⟨z4,rfl⟩:=k.one O b' u L V ((Qak _ _ _ _ _).1 Y);exact⟨z4,rfl⟩
      .rw[B E d1 d2]at n;rw[XM (by omega)]at L;exact(k.fr (ae E b' y' c d1 d2 L n Y).2).elim
   .rw[B i c1 c2]at g;rw[XM (by omega)]at h;obtain⟨J,X⟩:=ae i b x c c1 c2 h g m;have k:=r.sim.hid i b x c h g J;refine⟨Vf k.lt ev.size,λq=>sc.roFr c q X,k.fr,?_,?_⟩
    .intro E b' y' L n Y;rcases t E with⟨O,rfl⟩|⟨d1,d2⟩
     .rw[hσ']at L;rw[G]at n;cases V:H1[O]? with
      |none=>rw[V]at n;simp at n
      |some u=>
       rw[V]at n;simp at n;subst n;rintro rfl;exact(sc.own O c u L V (by rw[QF]at Y;exact Y)).2.2 X
     .rw[B E d1 d2]at n;rw[XM (by omega)]at L;exact k.ne E b' y' L n Y
    .intro E b' y' L n Y;rcases t E with⟨O,rfl⟩|⟨d1,d2⟩
     .rw[hσ']at L;rw[G]at n;cases V:H1[O]? with
      |none=>rw[V]at n;simp at n
      |some u=>
       rw[V]at n;simp at n;subst n;exact((sc.hid O b' u c L V ((Qak _ _ _ _ _).1 Y)).fr X).elim
     .rw[B E d1 d2]at n;rw[XM (by omega)]at L;exact k.one E b' y' L n (ae E b' y' c d1 d2 L n Y).1
 have au:VR aa (σ++τ) w' (Yr (rho π H.length) rr) v:=(Qdv hσ').2 hv;have hk:=k rr H1 hq;cases d with
 |none=>
  simp only[hd,Act.put];have r':Rel fr aa (σ++τ) (Yf H π (H1.map (QQ (rho π H.length)))) env N a w':=⟨ai,λs=>(r.env s).mono (W.ext σ τ),r.size,r.defers.keep W⟩;exact⟨_,rfl,Yk (λe a w q=>q.step W (QB (by omega))) _ _ _ (hk rd fr aa (σ++τ) _ w' r' (hrd.to W λ_ q=>q))⟩
 |some d=>
  simp only[hd,Act.put];have ar:=hN d rfl;have r':Rel fr aa (σ++τ) (Yf H π (H1.map (QQ (rho π H.length)))) (up env d (Yr (rho π H.length) rr)) N {a with tmps:=a.tmps.setIfInBounds d v} w':=
   ⟨ai,VR.up (fr:=fr) (λs=>(r.env s).mono (W.ext σ τ)) (by rw[r.size];exact ar) au,by simpa using r.size,r.defers.keep W⟩
  exact⟨_,rfl,Yk (λe a w q=>q.step W (QB (by omega))) _ _ _ (hk rd fr aa (σ++τ) _ w' r' (hrd.to W λ_ q=>q))⟩
section
variable {P:Program} {o:Oper} {env:Env} {H:Qd}
theorem Qx{fr ro:Nat->Prop}{σ:Sig}{N:Nat}{a:Act}{w:World}(r:Rel fr ro σ H env N a w){x:Operand}{k:IntKind}{n:Int}(h:opA env x=.int k n):a.eval x=.int k n:=by
 have:=Qi r x;rw[h]at this;exact this
theorem QcC{fr ro:Nat->Prop}{σ:Sig}{N:Nat}{a:Act}{w:World}(r:Rel fr ro σ H env N a w){x:Operand}{b:Bool}(h:opA env x=.bool b):a.eval x=.bool b:=by
 have:=Qi r x;rw[h]at this;exact this
theorem Qef{fr ro:Nat->Prop}{σ:Sig}{N:Nat}{a:Act}{w:World}(r:Rel fr ro σ H env N a w){x:Operand}{s:List UInt8}(h:opA env x=.str s):a.eval x=.string ⟨s.toArray⟩:=by
 have:=Qi r x;rw[h]at this;exact this
theorem OpV.move{x:Operand}{v:A}(ho:o.op=.move x)(hx:opA env x=v):OpV P o env H v:=
 λfr ro σ N a w r=>⟨a.eval x,by simp[execOp,ho,go_sem],hx▸Qi r x⟩
theorem OpV.assign{x:Operand}{v:A}(ho:o.op=.assign x)(hx:opA env x=v):OpV P o env H v:=
 λfr ro σ N a w r=>⟨a.eval x,by simp[execOp,ho,go_sem],hx▸Qi r x⟩
theorem OpV.pick{c x y:Operand}{b:Bool}{v:A}(e:o.op=.pick c x y)(d:opA env c=.bool b)(i:(if b then opA env x else opA env y)=v):OpV P o env H v:=by
 intro h f σ N a w r;have g:=QcC r d;refine⟨if b then a.eval x else a.eval y,by simp_all[execOp,asBool],?_⟩
 grind[Qi]
theorem OpV.add{t u:TypeId}{x y:Operand}{k:IntKind}{m n:Int}(f:o.op=.binOp .add t x y u)(d:opA env x=.int k m)(b:opA env y=.int k n):OpV P o env H (.int k (k.wrap (m+n))):=by
 intro h g σ N a w r;have e:=Qx r d;have i:=Qx r b;refine⟨_,?_,rfl⟩
 simp_all[execOp,Go.binOp,eqGuard,Op.intArith]
theorem OpV.sub{t u:TypeId}{x y:Operand}{k:IntKind}{m n:Int}(f:o.op=.binOp .sub t x y u)(d:opA env x=.int k m)(b:opA env y=.int k n):OpV P o env H (.int k (k.wrap (m-n))):=by
 intro h g σ N a w r;have e:=Qx r d;have i:=Qx r b;refine⟨_,?_,rfl⟩
 simp_all[execOp,Go.binOp,eqGuard,Op.intArith]
theorem OpV.mul{t u:TypeId}{x y:Operand}{k:IntKind}{m n:Int}(f:o.op=.binOp .mul t x y u)(d:opA env x=.int k m)(b:opA env y=.int k n):OpV P o env H (.int k (k.wrap (m*n))):=by
 intro h g σ N a w r;have e:=Qx r d;have i:=Qx r b;refine⟨_,?_,rfl⟩
 simp_all[execOp,Go.binOp,eqGuard,Op.intArith]
theorem OpV.cmp{op:BinOp}{t u:TypeId}{x y:Operand}{k:IntKind}{m n:Int}{f:Int->Int->Bool}(g:o.op=.binOp op t x y u)(i:opA env x=.int k m)(h:opA env y=.int k n)
  (d:op=.eql/\f=(λa b=>a==b)\/op=.neq/\f=(λa b=>a != b)\/op=.lss/\f=(λa b=>decide (a<b))\/op=.leq/\f=(λa b=>decide (a<=b))\/
   op=.gtr/\f=(λa b=>decide (b<a))\/op=.geq/\f=(λa b=>decide (b<=a))):OpV P o env H (.bool (f m n)):=by
 intro p l σ N a w r;have e:=Qx r i;have j:=Qx r h;refine⟨_,?_,rfl⟩;generalize a.eval=ρ at*;rcases d with⟨rfl,rfl⟩|⟨rfl,rfl⟩|⟨rfl,rfl⟩|⟨rfl,rfl⟩|⟨rfl,rfl⟩|⟨rfl,rfl⟩<;>simp[execOp,g,e,j,Go.binOp,eqGuard,Op.intCmp,go_sem]
theorem OpV.eql{t u:TypeId}{x y:Operand}{k:IntKind}{m n:Int}(ho:o.op=.binOp .eql t x y u)(hx:opA env x=.int k m)(hy:opA env y=.int k n):OpV P o env H (.bool (m==n)):=
 OpV.cmp (f:=λa b=>a==b) ho hx hy (by simp)
theorem OpV.neq{t u:TypeId}{x y:Operand}{k:IntKind}{m n:Int}(ho:o.op=.binOp .neq t x y u)(hx:opA env x=.int k m)(hy:opA env y=.int k n):OpV P o env H (.bool (m != n)):=
 OpV.cmp (f:=λa b=>a != b) ho hx hy (by simp)
theorem OpV.lss{t u:TypeId}{x y:Operand}{k:IntKind}{m n:Int}(ho:o.op=.binOp .lss t x y u)(hx:opA env x=.int k m)(hy:opA env y=.int k n):OpV P o env H (.bool (decide (m<n))):=
 OpV.cmp (f:=λa b=>decide (a<b)) ho hx hy (by simp)
theorem OpV.leq{t u:TypeId}{x y:Operand}{k:IntKind}{m n:Int}(ho:o.op=.binOp .leq t x y u)(hx:opA env x=.int k m)(hy:opA env y=.int k n):OpV P o env H (.bool (decide (m<=n))):=
 OpV.cmp (f:=λa b=>decide (a<=b)) ho hx hy (by simp)
theorem OpV.gtr{t u:TypeId}{x y:Operand}{k:IntKind}{m n:Int}(ho:o.op=.binOp .gtr t x y u)(hx:opA env x=.int k m)(hy:opA env y=.int k n):OpV P o env H (.bool (decide (n<m))):=
 OpV.cmp (f:=λa b=>decide (b<a)) ho hx hy (by simp)
theorem OpV.geq{t u:TypeId}{x y:Operand}{k:IntKind}{m n:Int}(ho:o.op=.binOp .geq t x y u)(hx:opA env x=.int k m)(hy:opA env y=.int k n):OpV P o env H (.bool (decide (n<=m))):=
 OpV.cmp (f:=λa b=>decide (b<=a)) ho hx hy (by simp)
theorem OpV.rem{t u:TypeId}{x y:Operand}{k:IntKind}{m n:Int}(i:o.op=.binOp .rem t x y u)(d:opA env x=.int k m)(b:opA env y=.int k n)(f:n≠0):OpV P o env H (.int k (m.tmod n)):=by
 intro g e σ N a w r;have h:=Qx r d;have j:=Qx r b;exact⟨_,by simp_all[execOp,Go.binOp,eqGuard,Op.intDiv],rfl⟩
theorem OpV.quo{t u:TypeId}{x y:Operand}{k:IntKind}{m n:Int}(i:o.op=.binOp .quo t x y u)(d:opA env x=.int k m)(b:opA env y=.int k n)(f:n≠0):OpV P o env H (.int k (k.wrap (m.tdiv n))):=by
 intro g e σ N a w r;have h:=Qx r d;have j:=Qx r b;exact⟨_,by simp_all[execOp,Go.binOp,eqGuard,Op.intDiv],rfl⟩
theorem OpV.not{t:TypeId}{x:Operand}{b:Bool}(f:o.op=.unOp .not t x)(d:opA env x=.bool b):OpV P o env H (.bool !b):=by
 intro h g σ N a w r;have e:=QcC r d;exact⟨_,by simp_all[execOp,Op.unary],rfl⟩
theorem OpV.neg{t:TypeId}{x:Operand}{k:IntKind}{n:Int}(e:o.op=.unOp .neg t x)(b:opA env x=.int k n):OpV P o env H (.int k (k.wrap (0-n))):=by
 intro g f σ N a w r;have d:=Qx r b;exact⟨_,by simp_all[execOp,Op.unary,Op.intArith],rfl⟩
theorem YE{s t:TypeId}{x:Operand}{k b:IntKind}{n:Int}{d:TypeDesc}(l:o.op=.convert s t x)(g:∀w,(underlying s).run P w=.ok d w)(f:∀w,(underlying t).run P w=.ok (.int k) w)
  (e:opA env x=.int b n):OpV P o env H (.int k (k.wrap n)):=by
 intro i h σ N a w r;have j:=Qx r e;refine⟨_,?_,rfl⟩
 simp_all[execOp,convert,Conv.intToInt]
theorem Qdz{op:BinOp}{t u:TypeId}{x y:Operand}{p q:List UInt8}{f:List UInt8->List UInt8->Bool}(h:o.op=.binOp op t x y u)(k:opA env x=.str p)(i:opA env y=.str q)
  (d:op=.eql/\f=(λa b=>a==b)\/op=.neq/\f=(λa b=>a != b)\/op=.lss/\f=Op.bytesLess\/op=.geq/\f=(λa b=> !Op.bytesLess a b)\/
   op=.leq/\f=(λa b=>Op.bytesLess a b||a==b)\/op=.gtr/\f=(λa b=> !(Op.bytesLess a b||a==b))):OpV P o env H (.bool (f p q)):=by
 intro n m σ N a w r;have e:=Qef r k;have l:=Qef r i;refine⟨_,?_,rfl⟩;generalize a.eval=ρ at*;have g:(⟨p.toArray⟩:ByteArray).toList=p:=by simp
 have j:(⟨q.toArray⟩:ByteArray).toList=q:=by simp
 rcases d with⟨rfl,rfl⟩|⟨rfl,rfl⟩|⟨rfl,rfl⟩|⟨rfl,rfl⟩|⟨rfl,rfl⟩|⟨rfl,rfl⟩<;>simp[execOp,h,e,l,Go.binOp,eqGuard,Op.stringOp,g,j,go_sem,bne]
theorem QdA{t u:TypeId}{x y:Operand}{p q:List UInt8}(ho:o.op=.binOp .eql t x y u)(hx:opA env x=.str p)(hy:opA env y=.str q):OpV P o env H (.bool (p==q)):=
 Qdz (f:=λa b=>a==b) ho hx hy (by simp)
theorem QkS{t u:TypeId}{x y:Operand}{p q:List UInt8}(ho:o.op=.binOp .neq t x y u)(hx:opA env x=.str p)(hy:opA env y=.str q):OpV P o env H (.bool (p != q)):=
 Qdz (f:=λa b=>a != b) ho hx hy (by simp)
theorem QkT{t u:TypeId}{x y:Operand}{p q:List UInt8}(ho:o.op=.binOp .lss t x y u)(hx:opA env x=.str p)(hy:opA env y=.str q):OpV P o env H (.bool (Op.bytesLess p q)):=
 Qdz ho hx hy (by simp)
theorem QkU{t:TypeId}{x y:Operand}{s:List UInt8}{k:IntKind}{n:Int}{c:UInt8}(u:o.op=.index t x y)(j:∀w,(underlying t).run P w=.ok .string w)(i:opA env x=.str s)(g:opA env y=.int k n)
  (l:0<=n)(f:s[n.toNat]?=some c):OpV P o env H (.int .u8 c.toNat):=by
 intro p m σ N a w r;have q:=Qef r i;have z:=Qx r g;have h:(⟨s.toArray⟩:ByteArray)[n.toNat]?=some c:=by
  obtain⟨b,e⟩:=XL.1 f;have d:(⟨s.toArray⟩:ByteArray).size=s.length:=by rfl
  rw[getElem?_pos _ _ (by rw[d];exact b)];show some (s.toArray[n.toNat]'(by omega))=some c;simp[e]
 refine⟨_,?_,rfl⟩
 simp_all[execOp,Instr.index,asIntOf]
theorem QaN{c:Call}{t:TypeId}{x:Operand}{s:List UInt8}(f:o.op=.call c)(e:c={callee:=.builtin .len,args:= #[x],argTypes:= #[t]})(d:∀w,(underlying t).run P w=.ok .string w)
  (g:opA env x=.str s):OpV P o env H (.int .i64 s.length):=by
 intro i h σ N a w r;have b:=Qef r g;refine⟨_,?_,rfl⟩;generalize a.eval=ρ at*;subst e;simp[execOp,f,b,resolve,invoke,Go.builtin,Builtin.len_,d,goInt,go_sem]<;>rfl
theorem QmV{c:Call}{t e:TypeId}{x:Operand}{k:Nat}{es:List (List A)}(h:o.op=.call c)(g:c={callee:=.builtin .len,args:= #[x],argTypes:= #[t]})(d:∀w,(underlying t).run P w=.ok (.slice e) w)
  (i:opA env x=.rsl k es):OpV P o env H (.int .i64 es.length):=by
 intro l j σ N a w r;have b:=Qi r x;rw[i]at b;obtain⟨m,f,b,_⟩:=b;refine⟨_,?_,rfl⟩;generalize a.eval=ρ at*;subst g;simp[execOp,h,b,resolve,invoke,Go.builtin,Builtin.len_,d,goInt,go_sem]
theorem Qij{c:Call}{t e:TypeId}{x:Operand}{i s n k:Nat}(j:o.op=.call c)(h:c={callee:=.builtin .len,args:= #[x],argTypes:= #[t]})(f:∀w,(underlying t).run P w=.ok (.slice e) w)
  (l:opA env x=.osl i s n k):OpV P o env H (.int .i64 n):=by
 intro u q σ N a w r;have d:=Qi r x;rw[l]at d;refine⟨_,?_,rfl⟩;generalize a.eval=ρ at*;subst h;rcases d with⟨rfl,d⟩|⟨b,p,g,y,m,_,d,_⟩<;>
 simp[execOp,j,d,resolve,invoke,Go.builtin,Builtin.len_,f,goInt,go_sem]
structure YK (P:Program) (T f off n:Nat):Prop where
 h:∃fs fd,(∀w,(underlying T).run P w=.ok (.struct fs) w)/\fs[f]?=some fd/\fd.offset=off/\(∀w,(sizeOf fd.type).run P w=.ok n w)/\n≠0
theorem YV(b off n:Nat):(⟨b,off,none⟩:Addr).add n=⟨b,off+n,none⟩:=by
 simp_all[Addr.add]
theorem QdG{T f off n b p:Nat}(a:YK P T f off n)(w:World):(Instr.fieldAt T (.pointer (some ⟨b,p,none⟩)) f).run P w=.ok (.pointer (some ⟨b,p+off,none⟩)) w:=by
 obtain⟨d,j,g,k,rfl,e,i⟩:=a.h
 simp_all[Instr.fieldAt,Instr.sureAddr,fieldPlace,YV]
theorem Qcu{T f off n i p:Nat}{x:Operand}(g:YK P T f off n)(e:o.op=.fieldAddr T x f)(h:opA env x=.ptr i p):OpV P o env H (.ptr i (p+off)):=by
 intro l k σ N a w r;have d:=Qi r x;rw[h]at d;obtain⟨b,d,j⟩:=d;refine⟨.pointer (some ⟨b,p+off,none⟩),?_,b,d,rfl⟩;generalize a.eval=ρ at*;simp only[execOp,e,j,Vm,QdG g];rfl
theorem CR.drop{ro:Nat->Prop}{σ:Sig}{w:World}{b:Nat}:∀(n:Nat) {cs:List A} {off:Nat},CR ro σ w b cs off->CR ro σ w b (cs.drop n) (off+n)
 |0,_,_,h=>h
 |n+1,[],_,h=>trivial
 |n+1,c::cs,off,h=>by
  have:=CR.drop n h.2
  grind
theorem CR.take{ro:Nat->Prop}{σ:Sig}{w:World}{b:Nat}:∀(n:Nat) {cs:List A} {off:Nat},CR ro σ w b cs off->CR ro σ w b (cs.take n) off
 |0,_,_,h=>trivial
 |n+1,[],_,h=>trivial
 |n+1,c::cs,off,h=>⟨h.1,CR.take n h.2⟩
theorem Qft{T f off n:Nat}{x:Operand}{cs cs':List A}(i:YK P T f off n)(h:o.op=.fieldAddr T x f)(j:opA env x=.rp cs)(e:cs.drop off=cs'):OpV P o env H (.rp cs'):=by
 intro m l σ N a w r;have d:=Qi r x;rw[j]at d;obtain⟨b,p,d,k,g⟩:=d;refine⟨.pointer (some ⟨b,p+off,none⟩),?_,b,p+off,rfl,k,e▸g.drop off⟩;generalize a.eval=ρ at*;simp only[execOp,h,d,Vm,QdG i];rfl
theorem RR.get{ro:Nat->Prop}{σ:Sig}{w:World}{b k:Nat}:∀(n:Nat) {es:List (List A)} {off:Nat} {c:List A},RR ro σ w b k es off->es[n]?=some c->c.length=k/\CR ro σ w b c (off+n*k)
 |n,[],_,_,h,hc=>by simp at hc
 |0,e::es,off,c,h,hc=>by
  simp at hc;subst hc;exact⟨h.1,by simpa using h.2.1⟩
 |n+1,e::es,off,c,h,hc=>by
  have:=RR.get n h.2.2 (by simpa using hc)
  grind
theorem QnZ{t e:TypeId}{x y:Operand}{k:Nat}{es:List (List A)}{h:IntKind}{n:Int}{c:List A}(B:o.op=.indexAddr t x y)(q:∀w,(underlying t).run P w=.ok (.slice e) w)
  (s:∀w,(sizeOf e).run P w=.ok k w)(G:opA env x=.rsl k es)(l:opA env y=.int h n)(p:0<=n)(j:es[n.toNat]?=some c):OpV P o env H (.rp c):=by
 intro L J σ N a w r;have f:=Qi r x;rw[G]at f;have m:=Qx r l;obtain⟨O,u,f,M,z⟩:=f;have g:n.toNat<es.length:=(by grind);rcases z with rfl|⟨b,d,rfl,E,F⟩
 .simp at g
 have i:n<es.length:=by omega
 refine⟨.pointer (some ⟨b,d+n.toNat*k,none⟩),?_,b,d+n.toNat*k,rfl,E,(F.get n.toNat j).2⟩;generalize a.eval=ρ at*;simp[execOp,B,f,m,Instr.indexAt,asIntOf,q,s,p,i,YV,go_sem]
theorem Qhd{t e:TypeId}{x y:Operand}{i s m k:Nat}{h:IntKind}{n:Int}(z:o.op=.indexAddr t x y)(f:∀w,(underlying t).run P w=.ok (.slice e) w)
  (g:∀w,(sizeOf e).run P w=.ok k w)(F:opA env x=.osl i s m k)(B:opA env y=.int h n)(E:0<=n)(q:n<m):OpV P o env H (.ptr i (s*k+n.toNat*k)):=by
 intro M L σ N a w r;have d:=Qi r x;rw[F]at d;have G:=Qx r B;rcases d with⟨rfl,_⟩|⟨b,p,j,Q,J,u,d,l,O,_⟩
 .omega
 obtain rfl:=l (by omega);refine⟨.pointer (some ⟨b,s*k+n.toNat*k,none⟩),?_,b,u,rfl⟩;generalize a.eval=ρ at*;simp[execOp,z,d,G,Instr.indexAt,asIntOf,f,g,E,q,YV,go_sem]
def Pts(H:Qd)(p:A)(cs:List A):Prop:=
 ∀fr ro σ w v,Sim fr ro σ H w->VR ro σ w p v->∃b off,v=.pointer (some ⟨b,off,none⟩)/\CR ro σ w b cs off
theorem VR.lift{ro:Nat->Prop}{σ:Sig}{w:World}{a:A}{v:Value}(h:VR ro [] w a v):VR ro σ w a v:=
 h.mono ⟨λ_ q=>q,λ_ _=>rfl,λ_ _ q=>q,(by simp)⟩
theorem CR.lift{ro:Nat->Prop}{σ:Sig}{w:World}{b:Nat}:∀{cs:List A} {off:Nat},CR ro [] w b cs off->CR ro σ w b cs off
 |[],_,_=>trivial
 |c::cs,off,⟨⟨v,h1,hp,h2⟩,h3⟩=>⟨⟨v,h1,hp,h2.lift⟩,CR.lift h3⟩
theorem LR.lift{ro:Nat->Prop}{σ:Sig}{w:World}:∀{cs:List A} {l:List Value},LR ro [] w cs l->LR ro σ w cs l
 |[],_,h=>h
 |c::cs,l,⟨v,l',h1,h2,h3⟩=>⟨v,l',h1,h2.lift,LR.lift h3⟩
theorem Pts.rp{cs:List A}:Pts H (.rp cs) cs:=λfr ro σ w v s ⟨b,off,h1,h2,h3⟩=>⟨b,off,h1,h3.lift⟩
theorem LR.cells{ro:Nat->Prop}{σ:Sig}{w:World}{b t:Nat}{fz:Nat×Nat}{pre l:List Value}(d:w.heap[b]?=some (.cells (pre++l).toArray t fz))(a:∀v∈l,Qp v):
  ∀{cs:List A},LR ro σ w cs l->CR ro σ w b cs pre.length:=by
 induction l generalizing pre with
 |nil=>
  intro cs h;cases cs with
  |nil=>trivial
  |cons c cs=>obtain⟨v,e,h,_⟩:=h;cases h
 |cons v l i=>
  intro cs h;cases cs with
  |nil=>trivial
  |cons c cs=>
   obtain⟨m,e,f,k,g⟩:=h;cases f;refine⟨⟨v,by simp[World.cell?,d],a v (by simp),k⟩,?_⟩;have:=i (pre:=pre++[v]) (by simpa using d) (λx j=>a x (by simp[j])) g
   grind
theorem Pts.cells{i off t:Nat}{cs cs':List A}(j:H[i]?=some (.cells t cs))(a:cs.drop off=cs'):Pts H (.ptr i off) cs':=by
 intro n m σ w v s h;obtain⟨b,e,k⟩:=h;obtain⟨l,d,g,f⟩:=s.blk i _ _ e j;have:=LR.cells (pre:=[]) (by simpa using d) f g;refine⟨b,off,k,a▸ ?_⟩;have:=this.drop off
 grind
theorem LR.get{ro:Nat->Prop}{σ:Sig}{w:World}:∀{az:List A} {l:List Value} (i:Nat) {a:A},LR ro σ w az l->az[i]?=some a->∃v,l[i]?=some v/\VR ro σ w a v
 |[],l,i,a,h,ha=>by simp at ha
 |x::az,l,0,a,⟨v,l',h1,h2,h3⟩,ha=>by
  grind
 |x::az,l,i+1,a,⟨v,l',h1,h2,h3⟩,ha=>by
  subst h1;obtain⟨v',q1,q2⟩:=LR.get i h3 (by simpa using ha)
  grind
theorem LR.drop{ro:Nat->Prop}{σ:Sig}{w:World}:∀(n:Nat) {az:List A} {l:List Value},LR ro σ w az l->LR ro σ w (az.drop n) (l.drop n)
 |0,az,l,h=>h
 |n+1,[],l,h=>by cases(show l=[]from h);rfl
 |n+1,a::az,l,⟨v,l',h1,h2,h3⟩=>by subst h1;exact LR.drop n h3
theorem LR.take{ro:Nat->Prop}{σ:Sig}{w:World}:∀(n:Nat) {az:List A} {l:List Value},LR ro σ w az l->LR ro σ w (az.take n) (l.take n)
 |0,az,l,h=>rfl
 |n+1,[],l,h=>by cases(show l=[]from h);rfl
 |n+1,a::az,l,⟨v,l',h1,h2,h3⟩=>by subst h1;exact⟨v,l'.take n,rfl,h2,LR.take n h3⟩
theorem LR.append{ro:Nat->Prop}{σ:Sig}{w:World}:∀{az:List A} {l:List Value} {bs:List A} {m:List Value},LR ro σ w az l->LR ro σ w bs m->LR ro σ w (az++bs) (l++m)
 |[],l,bs,m,h,k=>by cases(show l=[]from h);exact k
 |a::az,l,bs,m,⟨v,l',h1,h2,h3⟩,k=>by subst h1;exact⟨v,l'++m,rfl,h2,LR.append h3 k⟩
theorem Qj3{ro:Nat->Prop}{σ:Sig}{w:World}{b t:Nat}{fz:Nat×Nat}:∀{cs:List A} {pre l post:List Value},w.heap[b]?=some (.cells (pre++(l++post)).toArray t fz)->(∀v∈l,Qp v)->
  LR ro σ w cs l->CR ro σ w b cs pre.length
 |[],_,_,_,_,_,_=>trivial
 |c::cs,pre,l,post,hb,hpl,⟨v,l',h1,h2,h3⟩=>by
  subst h1;refine⟨⟨v,by simp[World.cell?,hb],hpl v (by simp),h2⟩,?_⟩;have:=Qj3 (pre:=pre++[v]) (l:=l') (post:=post) (by simpa using hb) (by grind) h3
  grind
theorem Yq{ro:Nat->Prop}{σ:Sig}{w:World}{b t k:Nat}{fz:Nat×Nat}:∀{es:List (List A)} {pre l:List Value},w.heap[b]?=some (.cells (pre++l).toArray t fz)->
  RL ro σ w k es l->RR ro σ w b k es pre.length
 |[],_,_,_,_=>trivial
 |c::es,pre,l,hb,⟨l1,l2,h1,h2,h3,h4⟩=>by
  subst h1;refine⟨h2,Qj3 hb h3.2 h3.1,?_⟩;have hl:=h3.1.length;have:=Yq (pre:=pre++l1) (l:=l2) (by simpa using hb) h4
  grind
theorem Pts.row{i off t k e f:Nat}{es:List (List A)}{c cs':List A}(n:H[i]?=some (.row t k es))(j:off=e*k+f)(he:es[e]?=some c)(a:c.drop f=cs'):Pts H (.ptr i off) cs':=by
 intro r q σ w v s h;obtain⟨b,g,p⟩:=h;obtain⟨l,d,m⟩:=s.blk i _ _ g n;have:=((Yq (pre:=[]) (by simpa using d) m).get e he).2.drop f;refine⟨b,off,p,?_⟩;subst j a;simpa using this.lift
theorem Pts.rowr{i off t k e f:Nat}{es:List (List A)}{c cs':List A}(m:H[i]?=some (.rowr t k es))(q:off=e*k+f)(he:es[e]?=some c)(a:c.drop f=cs'):Pts H (.ptr i off) cs':=by
 intro p n σ w v s h;obtain⟨b,g,r⟩:=h;obtain⟨l,d,j⟩:=s.blk i _ _ g m;have:=((Yq (pre:=[]) (by simpa using d) j).get e he).2.drop f
 grind
theorem QkI{w w':World}(h:w'.heap=w.heap)(a:Addr):w'.cell? a=w.cell? a:=by unfold World.cell?;rw[h]
theorem Yu{ro:Nat->Prop}{σ:Sig}{w:World}{b off:Nat}:∀{cs:List A} (i:Nat),CR ro σ w b cs (off+i)->
  ∃l,LR ro σ w cs l/\(∀v∈l,Qp v)/\ ∀(w':World) (a:Array Value),w'.heap=w.heap->(loadCellsFrom ⟨b,off,none⟩ i cs.length a).run P w'=.ok (a++l.toArray) w'
 |[],i,h=>⟨[],rfl,by simp,λw' a _=>by rfl⟩
 |c::cs,i,⟨⟨v,h1,hp,h2⟩,h3⟩=>by
  obtain⟨l,q1,qp,q2⟩:=Yu (cs:=cs) (i+1) (by omega);refine⟨v::l,⟨v,l,rfl,h2,q1⟩,by grind,λw' a hw=>?_⟩;have h1':w'.cell? ⟨b,off+i,none⟩=some v:=by rw[QkI hw];exact h1
  simp_all[loadCellsFrom,YV]
theorem Qu{t n:Nat}{x:Operand}{p:A}{cs vs:List A}(y:o.op=.load t x)(u:∀w,(isAgg t).run P w=.ok true w)(s:∀w,(sizeOf t).run P w=.ok n w)(q:opA env x=p)(j:Pts H p cs)
  (g:cs.take n=vs)(m:vs.length=n):OpV P o env H (.agg vs):=by
 intro h f σ N a w r;have e:=Qi r x;rw[q]at e;obtain⟨b,off,z,k⟩:=j h f σ w _ r.sim e;subst g;obtain⟨l,i,_,d⟩:=Yu (P:=P) (cs:=cs.take n) (off:=off) 0 (by simpa using k.take n);have d:=d w #[] rfl;rw[m]at d;refine⟨.agg l.toArray,?_,l,rfl,i⟩
 simp_all[execOp,Instr.loadAt,Instr.sureAddr,loadVar,loadCells]
theorem OpV.load{t:Nat}{x:Operand}{p v:A}{cs:List A}(m:o.op=.load t x)(j:∀w,(isAgg t).run P w=.ok false w)(i:opA env x=p)(g:Pts H p (v::cs)):OpV P o env H v:=by
 intro f e σ N a w r;have d:=Qi r x;rw[i]at d;obtain⟨b,h,n,⟨y,l,_,k⟩,_⟩:=g f e σ w _ r.sim d
 simp_all[execOp,Instr.loadAt,Instr.sureAddr,loadVar]
theorem OpV.extract{x:Operand}{vs:List A}{i:Nat}{v:A}(m:o.op=.extract x i)(e:opA env x=.tup vs)(d:vs[i]?=some v):OpV P o env H v:=by
 intro h g σ N a w r;have b:=Qi r x;rw[e]at b;obtain⟨l,b,f⟩:=b;obtain⟨y,k,j⟩:=f.get i d
 simp_all[execOp,Instr.extract]
theorem OpV.field{T f off n:Nat}{x:Operand}{cs:List A}{v:A}(g:YK P T f off n)(d:∀fs fd,(∀w,(underlying T).run P w=.ok (.struct fs) w)->fs[f]?=some fd->∀w,(isAgg fd.type).run P w=.ok false w)
  (t:o.op=.field T x f)(i:opA env x=.agg cs)(e:cs[off]?=some v):OpV P o env H v:=by
 intro m k σ N a w r;have b:=Qi r x;rw[i]at b;obtain⟨l,b,j⟩:=b;obtain⟨y,s,p⟩:=j.get off e;obtain⟨fs,fd,q,z,rfl,u,B⟩:=g.h
 simp_all[execOp,Instr.field,asAgg,part]
theorem Qbc{fr ro:Nat->Prop}{σ:Sig}{N:Nat}{a:Act}{w:World}(r:Rel fr ro σ H env N a w):∀(l:List Operand),LR ro σ w (l.map (opA env)) (l.map a.eval)
 |[]=>rfl
 |x::l=>⟨_,_,rfl,Qi r x,Qbc r l⟩
theorem OpV.makeFunc{f:Fn}{first cap:List Operand}{vf vc:List A}(e:o.op=.makeFunc f first.toArray cap.toArray)(b:first.map (opA env)=vf)(d:cap.map (opA env)=vc):OpV P o env H (.fn f vf vc):=by
 intro h g σ N a w r;refine⟨.func f (first.map a.eval).toArray (cap.map a.eval).toArray,?_,_,_,rfl,b▸Qbc r first,d▸Qbc r cap⟩
 simp_all[execOp,Instr.makeFunc]
theorem Qan{t:TypeId}{x:Operand}{v:A}{d:TypeDesc}(g:o.op=.makeInterface t x)(f:∀w,(underlying t).run P w=.ok d w)(j:∀m,d≠ .interface m)(e:opA env x=v):OpV P o env H (.iface t v):=by
 intro i h σ N a w r;have b:=Qi r x;rw[e]at b;refine⟨.iface t (a.eval x),?_,_,rfl,b⟩
 simp_all[execOp,Instr.makeInterface]
end
mutual
def Yn:A->Bool
 |.ptr _ _=>false
 |.osl _ _ _ _=>false
 |.map _=>false
 |.agg cs=>Yy cs
 |.fn _ a c=>Yy a&&Yy c
 |.iface _ v=>Yn v
 |.tup vs=>Yy vs
 |_=>true
def Yy:List A->Bool
 |[]=>true
 |a::r=>Yn a&&Yy r
end
mutual
theorem VR.data{ro:Nat->Prop}{σ σ':Sig}{w:World}:∀{a:A} {v:Value},Yn a=true->VR ro σ w a v->VR ro σ' w a v
 |.any,_,_,_=>trivial
 |.bool b,v,_,q=>q
 |.int k n,v,_,q=>q
 |.str s,v,_,q=>q
 |.nilp,v,_,q=>q
 |.ptr i off,v,d,q=>by simp[Yn]at d
 |.rp cs,v,_,q=>q
 |.nils,v,_,q=>q
 |.rsl k es,v,_,q=>q
 |.osl i o n k,v,d,q=>by simp[Yn]at d
 |.agg cs,v,d,q=>by
  simp only[VR,Yn]at q d⊢;obtain⟨l,h1,h2⟩:=q;exact⟨l,h1,LR.data d h2⟩
 |.fn f a c,v,d,q=>by
  simp only[VR,Yn,XW]at q d⊢;obtain⟨l,l',h1,h2,h3⟩:=q;exact⟨l,l',h1,LR.data d.1 h2,LR.data d.2 h3⟩
 |.nilf,v,_,q=>q
 |.iface t a,v,d,q=>by
  simp only[VR,Yn]at q d⊢;obtain⟨x,h1,h2⟩:=q;exact⟨x,h1,VR.data d h2⟩
 |.nilif,v,_,q=>q
 |.map i,v,d,q=>by simp[Yn]at d
 |.nilm,v,_,q=>q
 |.tup vs,v,d,q=>by
  simp only[VR,Yn]at q d⊢;obtain⟨l,h1,h2⟩:=q;exact⟨l,h1,LR.data d h2⟩
theorem LR.data{ro:Nat->Prop}{σ σ':Sig}{w:World}:∀{az:List A} {l:List Value},Yy az=true->LR ro σ w az l->LR ro σ' w az l
 |[],_,_,q=>q
 |a::r,l,d,q=>by
  simp only[LR,Yy,XW]at q d⊢;obtain⟨v,l',h1,h2,h3⟩:=q;exact⟨v,l',h1,VR.data d.1 h2,LR.data d.2 h3⟩
end
def Ym:A->Bool
 |.any|.agg _|.tup _=>false
 |_=>true
def Q5:A->List A
 |.agg cs=>cs
 |a=>[a]
def Yg:A->Bool
 |.any=>false
 |_=>true
theorem VR.plain{ro:Nat->Prop}{σ:Sig}{w:World}{a:A}{v:Value}(b:Ym a=true)(h:VR ro σ w a v):Qp v:=by
 cases a<;>first|(simp[Ym]at b;done)|skip
 case rsl k es=>obtain⟨d,c,rfl,_⟩:=h;trivial
 case osl=>rcases h with⟨_,rfl⟩|⟨_,_,_,_,_,_,rfl,_⟩<;>trivial
 case fn=>obtain⟨_,_,rfl,_⟩:=h;trivial
 case iface=>obtain⟨_,rfl,_⟩:=h;trivial
 case ptr=>obtain⟨_,_,rfl⟩:=h;trivial
 case rp=>obtain⟨_,_,rfl,_⟩:=h;trivial
 case map=>obtain⟨_,_,rfl⟩:=h;trivial
 all_goals (simp only[VR]at h;subst h;trivial)
theorem VR.cells{ro:Nat->Prop}{σ:Sig}{w:World}{a:A}{v:Value}(b:Yg a=true)(h:VR ro σ w a v):∃l:List Value,v.cells=l.toArray/\LR ro σ w (Q5 a) l:=by
 cases a
 case any=>simp[Yg]at b
 case agg cs=>obtain⟨l,rfl,h⟩:=h;exact⟨l,rfl,h⟩
 case tup cs=>obtain⟨l,rfl,h⟩:=h;exact⟨[.tuple l.toArray],rfl,_,_,rfl,⟨l,rfl,h⟩,rfl⟩
 all_goals
  have d:=h.plain rfl;refine⟨[v],?_,v,[],rfl,h,rfl⟩;cases v<;>first|rfl|exact d.elim
theorem LR.plain{ro:Nat->Prop}{σ:Sig}{w:World}:∀{az:List A} {l:List Value},az.all Ym=true->LR ro σ w az l->∀v∈l,Qp v
 |[],l,_,h=>by cases(show l=[]from h);simp
 |a::az,l,hp,⟨v,l',h1,h2,h3⟩=>by
  subst h1;simp only[List.all_cons,XW]at hp;intro x hx;rcases X6.1 hx with rfl|hx
  .exact h2.plain hp.1
  .exact LR.plain hp.2 h3 x hx
theorem Yo(w:World)(obj:Obj)(b:Nat)(a:b<w.heap.size):(w.alloc obj).heap[b]?=w.heap[b]? :=by
 show(w.heap.push obj)[b]?=_
 grind
theorem QY(w:World)(obj:Obj):(w.alloc obj).heap[w.heap.size]?=some obj:=by
 show(w.heap.push obj)[w.heap.size]?=_;simp
theorem YU(w:World)(obj:Obj):(w.alloc obj).heap.size=w.heap.size+1:=by
 simp
theorem Qlo{w:World}{b:Nat}{x:TypeId×Nat}(h:w.shape? b=some x):b<w.heap.size:=by
 grind[World.shape?]
theorem Qh.alloc{fr ro:Nat->Prop}{w:World}(obj:Obj)(hro:∀b,ro b->b<w.heap.size)(hfr:∀b,fr b->b<w.heap.size):Qh fr ro w ro (w.alloc obj):=
 ⟨λ_ h=>h,λb h=>Yo w obj b (hro b h),λb h=>Yo w obj b (hfr b h),by simp,
  λb x h=>by grind[World.shape?,Yo],rfl,rfl,rfl,XT _⟩
section
variable {P:Program} {o:Oper} {env:Env} {H:Qd} {fr ro:Nat->Prop} {σ:Sig} {w:World}
theorem Sim.alloc(s:Sim fr ro σ H w){obj:Obj}{x:Blk}(J:BR ro (σ++[some w.heap.size]) (w.alloc obj) x (some w.heap.size))
  (u:∀c,Hid (w.alloc obj) x w.heap.size c->False:=by exact λ_ h=>h.elim):
  Sim fr ro (σ++[some w.heap.size]) (H++[x]) (w.alloc obj):=by
 have ev:Qh fr ro w ro (w.alloc obj):=Qh.alloc obj s.roLt s.frLt;have n:=s.len;have e:∀(i:Nat) (y:Option Nat),(σ++[some w.heap.size])[i]?=some y->(i<σ.length/\σ[i]?=some y)\/(i=σ.length/\y=some w.heap.size):=by
  grind
 have k:∀i:Nat,i<σ.length->(H++[x])[i]?=H[i]? :=λi L=>XM (by omega);have F:(H++[x])[σ.length]?=some x:=by rw[n];simp
 refine⟨by simp[n],s.roOk.to (λ_ q=>q) ev.keepRo (λb h=>?_),λb h=>?_,s.roFr,?_,?_,?_,?_⟩
 .rw[YU];have:=s.roLt b h;omega
 .rw[YU];have:=s.frLt b h;omega
 .intro i b y f g m;rw[YU];rcases e i _ f with⟨q,f⟩|⟨rfl,l⟩
  .rw[k i q]at g;obtain⟨a,b,c⟩:=s.own i b y f g m
   grind
  .cases l;exact⟨by omega,λq=>by have:=s.roLt _ q;omega,λq=>by have:=s.frLt _ q;omega⟩
 .intro i j b y z f g m t B E;rcases e i _ f with⟨q,f⟩|⟨rfl,l⟩<;>rcases e j _ g with⟨q',g⟩|⟨rfl,e2⟩
  .rw[k i q]at m;rw[k j q']at t;exact s.inj i j b y z f g m t B E
  .cases e2;rw[k i q]at m;have:=(s.own i _ y f m B).1;omega
  .cases l;rw[k j q']at t;have:=(s.own j _ z g t E).1;omega
  .rfl
 .intro i y z f g;rcases e i _ f with⟨q,f⟩|⟨rfl,l⟩
  .rw[k i q]at g;refine(s.blk i y z f g).keep (ev.ext σ _) ?_ ?_
   .rintro b rfl n;exact Yo w obj b (s.own i b z f g n).1
   .rintro b c rfl n;exact Yo w obj c (s.hid i b z c f g n).lt
  grind
 .refine s.hidTo (· = ·) Q2 (by rw[YU];omega) (λ_ _ _ _ _ _ _ q=>q) (λ_ _ _ _ _ _ _ q=>q) λj d y r p G=>?_;rcases e j _ r with⟨q,r⟩|⟨rfl,l⟩
  .rw[k j q]at p;exact .inl ⟨j,y,rfl,r,p,id,λc q=>s.hidKeep r p (λz=>Yo w obj d (s.own j d y r p z).1) ev.keepRo q⟩
  .rw[F]at p;cases p;cases l;exact .inr ⟨XT _,u⟩
theorem Sim.allocCells(s:Sim fr ro σ H w){t:Nat}{cs:List A}{l:List Value}(h:LR ro σ w cs l)(hp:∀v∈l,Qp v):
  Sim fr ro (σ++[some w.heap.size]) (H++[.cells t cs]) (w.alloc (.cells l.toArray t)):=
 s.alloc ⟨l,QY _ _,h.mono ((Qh.alloc (fr:=fr) _ s.roLt s.frLt).ext σ _),hp⟩
theorem Qin{ro:Nat->Prop}{σ:Sig}{w:World}:∀{az bs:List A} {l:List Value},LR ro σ w (az++bs) l->∃l1 l2,l=l1++l2/\LR ro σ w az l1/\LR ro σ w bs l2
 |[],bs,l,h=>⟨[],l,rfl,rfl,h⟩
 |a::az,bs,l,⟨v,l',h1,h2,h3⟩=>by
  obtain⟨l1,l2,e,q1,q2⟩:=Qin h3;subst h1 e;exact⟨v::l1,l2,rfl,⟨v,l1,rfl,h2,q1⟩,q2⟩
def allK(k:Nat):List (List A)->Prop
 |[]=>True
 |c::es=>c.length=k/\allK k es
theorem YI{k:Nat}:∀{es:List (List A)} {l rest:List Value},allK k es->LR ro σ w es.flatten l->(∀v∈l,Qp v)->RL ro σ w k es (l++rest)
 |[],_,_,_,_,_=>trivial
 |c::es,l,rest,⟨h1,h2⟩,h,hp=>by
  rw[Vl]at h;obtain⟨l1,l2,rfl,q1,q2⟩:=Qin h;exact⟨l1,l2++rest,by simp,h1,(by grind),YI h2 q2 (by grind)⟩
theorem Sim.allocRow(s:Sim fr ro σ H w){t k:Nat}{es:List (List A)}{l rest:List Value}(hk:allK k es)(h:LR ro [] w es.flatten l)(hp:∀v∈l,Qp v):
  Sim fr ro (σ++[some w.heap.size]) (H++[.row t k es]) (w.alloc (.cells (l++rest).toArray t)):=
 s.alloc ⟨l++rest,QY _ _,(YI hk h hp).mono ((Qh.alloc (fr:=fr) _ s.roLt s.frLt).ext0 [])⟩
theorem Sim.allocRowr(s:Sim fr ro σ H w){t k:Nat}{es:List (List A)}{l rest:List Value}(hk:allK k es)(h:LR ro σ w es.flatten l)(hp:∀v∈l,Qp v):
  Sim fr ro (σ++[some w.heap.size]) (H++[.rowr t k es]) (w.alloc (.cells (l++rest).toArray t)):=
 s.alloc ⟨l++rest,QY _ _,(YI hk h hp).mono ((Qh.alloc (fr:=fr) _ s.roLt s.frLt).ext σ _)⟩
theorem OpH.box{t:Nat}{x:Operand}{v:A}{cs:List A}(n:o.op=.box t x)(j:opA env x=v)(i:Yg v=true)(b:Q5 v=cs)(d:cs.all Ym=true):
  OpH P o env H (.ptr H.length 0) (H++[.cells t cs]):=by
 intro m h σ N a w r;have f:=Qi r x;rw[j]at f;obtain⟨l,k,g⟩:=f.cells i;subst b;refine⟨.pointer (some ⟨w.heap.size,0,none⟩),w.alloc (.cells l.toArray t),h,[some w.heap.size],?_,⟨w.heap.size,?_,rfl⟩,r.sim.allocCells g (g.plain d),Qh.alloc _ r.sim.roLt r.sim.frLt⟩
 .generalize a.eval=ρ at*;have e:(newVar t (ρ x)).run P w=.ok ⟨w.heap.size,0,none⟩ (w.alloc (.cells l.toArray t)):=by
   unfold newVar;rw[k];rfl
  simp_all[execOp,Instr.box]
 .rw[<- r.sim.len];simp
theorem Sim.set(s:Sim fr ro σ H w){i b:Nat}{x x':Blk}{obj:Obj}(hσ:σ[i]?=some (some b))(r:H[i]?=some x)(p:x.live=true)
  (Q:∀y,w.shape? b=some y->({w with heap:=w.heap.setIfInBounds b obj}:World).shape? b=some y)
  (G:Ext ro σ w ro σ {w with heap:=w.heap.setIfInBounds b obj}->({w with heap:=w.heap.setIfInBounds b obj}:World).heap[b]?=some obj->BR ro σ {w with heap:=w.heap.setIfInBounds b obj} x' (some b))
  (R:∀c,Hid {w with heap:=w.heap.setIfInBounds b obj} x' b c->Hid w x b c:=by exact λ_ h=>h.elim):
  Sim fr ro σ (H.set i x') {w with heap:=w.heap.setIfInBounds b obj}/\Qh fr ro w ro {w with heap:=w.heap.setIfInBounds b obj}:=by
 obtain⟨X,O,L⟩:=s.own i b x hσ r p;have m:∀c,c≠b->({w with heap:=w.heap.setIfInBounds b obj}:World).heap[c]?=w.heap[c]? :=by
  grind
 have J:({w with heap:=w.heap.setIfInBounds b obj}:World).heap[b]?=some obj:=by
  grind
 have n:({w with heap:=w.heap.setIfInBounds b obj}:World).heap.size=w.heap.size:=by simp
 have ev:Qh fr ro w ro {w with heap:=w.heap.setIfInBounds b obj}:=
  ⟨λ_ h=>h,(by grind),(by grind),by omega,by
   grind[World.shape?],rfl,rfl,rfl,XT _⟩
 have Y:i<H.length:=(by grind);have V:(H.set i x')[i]?=some x':=(by grind);have a:∀j,j≠i->(H.set i x')[j]?=H[j]? :=(by grind);have P:=G (ev.ext0 σ) J;refine⟨⟨by rw[X4];exact s.len,s.roOk.to (λ_ q=>q) ev.keepRo (λc h=>by rw[n];exact s.roLt c h),λc h=>by rw[n];exact s.frLt c h,s.roFr,?_,?_,?_,?_⟩,ev⟩
 .intro j c y g f t;rw[n];by_cases q:j=i
  .grind
  .rw[a j q]at f;exact s.own j c y g f t
 .intro j k c y z g f t B M N;by_cases q:j=i
  .subst q;rw[hσ]at g;cases g;by_cases u:k=j
   .exact u.symm
   .rw[a k u]at B;exact s.inj j k _ x z hσ f r B p N
  .rw[a j q]at t;by_cases u:k=i
   .subst u;rw[hσ]at f;cases f;exact s.inj j k _ y x g hσ t r M p
   .rw[a k u]at B;exact s.inj j k c y z g f t B M N
 .intro j y z g f;by_cases q:j=i
  .grind
  .rw[a j q]at f;refine(s.blk j y z g f).keep (ev.ext0 σ) ?_ ?_
   .rintro c rfl l;exact m c (λe=>q (s.inj j i b z x (e▸g) hσ f r l p))
   .rintro c d rfl T;exact m d ((s.hid j c z d g f T).ne i b x hσ r p)
 .refine s.hidTo (· = ·) Q2 (by omega) (λ_ _ _ _ _ _ _ q=>q) (λ_ _ _ _ _ _ _ q=>q) λj d y F E W=>.inl ?_;by_cases q:j=i
  .grind
  .rw[a j q]at E;exact⟨j,y,rfl,F,E,id,λc z=>s.hidKeep F E (λl=>m d (λe=>q (s.inj j i b y x (e▸F) hσ E r l p))) ev.keepRo z⟩
def splice{α:Type}(l:List α)(o:Nat)(vs:List α):List α:=l.take o++vs++l.drop (o+vs.length)
theorem Q0{α:Type}{l:List α}{o:Nat}{vs:List α}(h:o+vs.length<=l.length):(splice l o vs).length=l.length:=by
 simp[splice];omega
theorem Qdk{h:Array Obj}{b:Nat}{f:Obj->Obj}{x:Obj}(a:h[b]?=some x):h.modify b f=h.setIfInBounds b (f x):=by
 grind
theorem Q3{b t:Nat}:∀{vs l:List Value} {w:World} (off i:Nat),w.heap[b]?=some (.cells l.toArray t (0,0))->off+i+vs.length<=l.length->(∀v∈vs,Qp v)->
  (storeCells ⟨b,off,none⟩ vs i).run P w=.ok () {w with heap:=w.heap.setIfInBounds b (.cells (splice l (off+i) vs).toArray t (0,0))}
 |[],l,w,off,i,hb,hl,hp=>by
  have e:w.heap.setIfInBounds b (.cells (splice l (off+i) []).toArray t (0,0))=w.heap:=by
   apply Array.ext_getElem?;intro j;rw[Ve];by_cases q:b=j
   .subst q;obtain⟨a,m⟩:=Vc.1 hb;simp[a,splice,m]
   grind
  rw[e];rfl
 |v::vs,l,w,off,i,hb,hl,hp=>by
  simp only[X0]at hl;have k:=hp v (by simp);have n:w.cell? ⟨b,off+i,none⟩=some l[off+i]:=by
   simp[World.cell?,hb]
  have f:w.frozen? ⟨b,off+i,none⟩=false:=by
   simp[World.frozen?,hb]
  have d:w.setCell ⟨b,off+i,none⟩ v={w with heap:=w.heap.setIfInBounds b (.cells (splice l (off+i) [v]).toArray t (0,0))}:=by
   unfold World.setCell;rw[Qdk hb];simp only[Option.isSome_none,Xi,if_false];congr 3;have:l.toArray.setIfInBounds (off+i) v=(l.set (off+i) v).toArray:=by simp
   rw[this];congr 1;rw[List.set_eq_take_append_cons_drop,Vt (by omega)];simp[splice]
  have a:b<w.heap.size:=by
   grind
  have r:=Q3 (vs:=vs) (l:=splice l (off+i) [v]) (w:={w with heap:=w.heap.setIfInBounds b (.cells (splice l (off+i) [v]).toArray t (0,0))}) off (i+1)
   (by show(w.heap.setIfInBounds b _)[b]?=_;rw[Ve,Vt rfl,Vt a])
   (by rw[Q0 (by simp;omega)];omega) (by grind)
  have y:splice (splice l (off+i) [v]) (off+(i+1)) vs=splice l (off+i) (v::vs):=by
   have g:(l.take (off+i)).length=off+i:=by simp;omega
   unfold splice;rw[Vi (l.take (off+i))];have u:off+(i+1)=(l.take (off+i)).length+1:=by omega
   have s:(l.take (off+i)++([v]++l.drop (off+i+[v].length))).take ((l.take (off+i)).length+1)=l.take (off+i)++[v]:=by
    grind
   have x:(l.take (off+i)++([v]++l.drop (off+i+[v].length))).drop ((l.take (off+i)).length+1+vs.length)=l.drop (off+i+(v::vs).length):=by
    rw[show(l.take (off+i)).length+1+vs.length=(l.take (off+i)).length+(1+vs.length)from by omega,Va];simp[Nat.add_comm 1];omega
   simp_all
  have p:(w.heap.setIfInBounds b (.cells (splice l (off+i) [v]).toArray t (0,0))).setIfInBounds b (.cells (splice (splice l (off+i) [v]) (off+(i+1)) vs).toArray t (0,0))=
    w.heap.setIfInBounds b (.cells (splice l (off+i) (v::vs)).toArray t (0,0)):=by
   grind
  rw[p]at r;have h:(Go.store ⟨b,off+i,none⟩ v).run P w=.ok () {w with heap:=w.heap.setIfInBounds b (.cells (splice l (off+i) [v]).toArray t (0,0))}:=by
   rw[<- d];cases v<;>first|exact k.elim|simp[Go.store,Sem.run,n,f,go_sem]
  simp_all[storeCells,YV]
theorem Jc{w:World}{b t:Nat}{l l':List Value}(d:w.heap[b]?=some (.cells l.toArray t (0,0)))(e:l'.length=l.length)(y:TypeId×Nat)(h:w.shape? b=some y):
  ({w with heap:=w.heap.setIfInBounds b (.cells l'.toArray t (0,0))}:World).shape? b=some y:=by
 have a:b<w.heap.size:=by
  grind
 simp_all[World.shape?]
theorem LR.splice{ro:Nat->Prop}{σ:Sig}{w:World}{az vs:List A}{l m:List Value}(off:Nat)(h:LR ro σ w az l)(k:LR ro σ w vs m):LR ro σ w (Sw.splice az off vs) (Sw.splice l off m):=by
 unfold Sw.splice;rw[k.length];exact((h.take off).append k).append (h.drop _)
theorem QeS{l m:List Value}{off:Nat}(h:∀v∈l,Qp v)(k:∀v∈m,Qp v):∀v∈Sw.splice l off m,Qp v:=by
 grind[Sw.splice]
theorem OpU.store{t n i off T:Nat}{x y:Operand}{cs vs cs':List A}{v:A}(ho:o.op=.store t x y)(R:opA env x=.ptr i off)(F:H[i]?=some (.cells T cs))(W:∀w,(sizeOf t).run P w=.ok n w)
  (j:opA env y=v)(L:Yg v=true)(G:Q5 v=vs)(J:vs.length=n)(u:vs.all Ym=true)(q:Nat.ble (off+n) cs.length=true)(h:splice cs off vs=cs'):
  OpU P o env H (H.set i (.cells T cs')):=by
 intro X M σ N a w r;have d:=Qi r x;rw[R]at d;obtain⟨b,d,V⟩:=d;have E:=Qi r y;rw[j]at E;obtain⟨m,Y,g⟩:=E.cells L;rw[G]at g;obtain⟨l,B,k,Q⟩:=r.sim.blk i _ _ d F;have p:off+n<=cs.length:=by simp_all
 have z:m.length=n:=by rw[g.length,J]
 have s:=Q3 (P:=P) (vs:=m) off 0 B (by rw[k.length,z];omega) (g.plain u);have f:=r.sim.set (x':=.cells T cs') (obj:=.cells (splice l off m).toArray T (0,0)) d F rfl
  (λy j=>Jc B (Q0 (by rw[k.length,z];omega)) y j)
  (λe O=>⟨_,O,h▸(k.splice off g).mono e,QeS Q (g.plain u)⟩)
 refine⟨_,M,[],?_,by grind,f.2⟩
 simp_all[storeVar,execOp,Instr.storeAt,Instr.sureAddr]
theorem RL.splice{ro:Nat->Prop}{σ:Sig}{w:World}{k:Nat}:∀{e:Nat} {es:List (List A)} {l m:List Value} {c a:List A} {f:Nat},RL ro σ w k es l->es[e]?=some c->LR ro σ w a m->(∀v∈m,Qp v)->f+a.length<=k->
  RL ro σ w k (es.set e (Sw.splice c f a)) (Sw.splice l (e*k+f) m)
 |_,[],_,_,_,_,_,_,h,_,_,_=>by simp at h
 |0,c0::es,l,m,c,a,f,⟨l1,l2,h1,h2,h3,h4⟩,hc,hm,hp,hf=>by
  simp at hc;subst hc h1;have hl1:=h3.1.length;refine⟨Sw.splice l1 f m,l2,?_,?_,⟨h3.1.splice f hm,QeS h3.2 hp⟩,h4⟩
  .unfold Sw.splice;simp only[Nat.zero_mul,Xv,Vi];rw[X7 (by omega),X8 (by rw[hm.length];omega)]
  .rw[Q0 (by omega)];exact h2
 |e+1,c0::es,l,m,c,a,f,⟨l1,l2,h1,h2,h3,h4⟩,hc,hm,hp,hf=>by
  subst h1;have hl1:=h3.1.length;refine⟨l1,Sw.splice l2 (e*k+f) m,?_,h2,h3,RL.splice h4 (by grind) hm hp hf⟩;have e1:(e+1)*k+f=l1.length+(e*k+f):=by grind
  unfold Sw.splice;rw[e1,Vb,show l1.length+(e*k+f)+m.length=l1.length+(e*k+f+m.length)from by omega,Va];simp
theorem RL.length{ro:Nat->Prop}{σ:Sig}{w:World}{k:Nat}:∀{es:List (List A)} {l:List Value},RL ro σ w k es l->es.length*k<=l.length
 |[],l,_=>by simp
 |c::es,l,⟨l1,l2,h1,h2,h3,h4⟩=>by
  subst h1;have:=RL.length h4;have:=h3.1.length
  grind[Nat.succ_mul]
theorem Qhe{t n i off T k e f:Nat}{x y:Operand}{es d:List (List A)}{c vs B:List A}{v:A}(ho:o.op=.store t x y)(hx:opA env x=.ptr i off)(F:H[i]?=some (.row T k es))(hs:∀w,(sizeOf t).run P w=.ok n w)
  (j:off=e*k+f)(Q:es[e]?=some c)(z:opA env y=v)(Y:Yg v=true)(V:Q5 v=vs)(W:vs.length=n)(J:vs.all Ym=true)(X:Yy vs=true)(hf:Nat.ble (f+n) k=true)
  (u:splice c f vs=B)(q:es.set e B=d):
  OpU P o env H (H.set i (.row T k d)):=by
 intro fr ro σ N a w r;have g:=Qi r x;rw[hx]at g;obtain⟨b,g,h2⟩:=g;have E:=Qi r y;rw[z]at E;obtain⟨m,h4,h⟩:=E.cells Y;rw[V]at h;obtain⟨l,M,L⟩:=r.sim.blk i _ _ g F;have R:f+n<=k:=by simp_all
 have hm:m.length=n:=by rw[h.length,W]
 have he:e<es.length:=(by grind);have O:off+n<=l.length:=by
  have:=L.length;have h6:(e+1)*k<=es.length*k:=XC k he
  grind
 have G:=Q3 (P:=P) (vs:=m) off 0 M (by omega) (h.plain J);have p:=r.sim.set (x':=.row T k d) (obj:=.cells (splice l off m).toArray T (0,0)) g F rfl
  (λy z=>Jc M (Q0 (by omega)) y z)
  (λex s=>⟨_,s,by
   subst q u j;exact(L.splice Q (h.data X) (h.plain J) (by omega)).mono ex.nil⟩)
 refine⟨_,ro,[],?_,by grind,p.2⟩
 simp_all[storeVar,execOp,Instr.storeAt,Instr.sureAddr]
end
section
variable {P:Program} {o:Oper} {env:Env} {H:Qd} {fr ro:Nat->Prop} {σ:Sig} {w:World}
theorem Ext.heap{w':World}(h:w'.heap=w.heap):Ext ro σ w ro σ w':=
 ⟨λ_ q=>q,λb _=>by rw[h],λb x q=>by unfold World.shape? at q⊢;grind,λ_ _ q=>q⟩
theorem Sim.heap{w':World}(s:Sim fr ro σ H w)(h:w'.heap=w.heap):Sim fr ro σ H w':=
 ⟨s.len,s.roOk.to (λ_ q=>q) (λb _=>by rw[h]) (λb q=>by rw[h];exact s.roLt b q),λb q=>by rw[h];exact s.frLt b q,s.roFr,λi b x q1 q2 q3=>by rw[h];exact s.own i b x q1 q2 q3,s.inj,
  λi y x q1 q2=>(s.blk i y x q1 q2).keep (Ext.heap h) (by grind) (by grind),
  s.hidTo (· = ·) Q2 (by grind) (by simp) (by simp) λj d y g1 g2 g3=>.inl ⟨j,y,rfl,g1,g2,id,λc q=>q.keep (by rw[h])⟩⟩
theorem Qh.heap{w':World}(h:w'.heap=w.heap)(ho:w'.os=w.os)(ht:w'.tape=w.tape)(hu:w'.output=w.output)(hd:w.drawn<=w'.drawn):Qh fr ro w ro w':=
 ⟨λ_ q=>q,λb _=>by rw[h],λb _=>by rw[h],by grind,λb x q=>by unfold World.shape? at q⊢;grind,ho,ht,hu,hd⟩
theorem Sim.moved(s:Sim fr ro σ H w){i:Nat}{x:Blk}{y:Option Nat}(r:H[i]?=some x)(hσ:σ[i]?=some y):Sim fr ro (σ++[y]) (H.set i .dead++[x]) w:=by
 have N:=s.len;have R:i<H.length:=(by grind);have a:∀(j:Nat) (z:Option Nat) (v:Blk),(σ++[y])[j]?=some z->(H.set i .dead++[x])[j]?=some v->v≠ .dead->
   (j<σ.length/\j≠i/\σ[j]?=some z/\H[j]?=some v)\/(j=σ.length/\z=y/\v=x):=by
  grind
 have hσ':∀(j:Nat) (b:Nat),σ[j]?=some (some b)->(σ++[y])[j]?=some (some b):=(by grind);have ext:Ext ro σ w ro (σ++[y]) w:=⟨λ_ q=>q,λ_ _=>rfl,λ_ _ q=>q,hσ'⟩;refine⟨by simp[N],s.roOk,s.frLt,s.roFr,?_,?_,?_,s.hidTo (λj u=>(j<σ.length/\j≠i/\u=j)\/(j=σ.length/\u=i)) (by omega) (XT _) (by simp) (by simp) λj d y M P L=>.inl ?_⟩
 rotate_left 3
 .rcases a j _ y M P (Qer L)with⟨E,F,f,e⟩|⟨E,m,rfl⟩
  .grind
  grind
 .intro j b v h g k;rcases a j _ v h g (Qaq k)with⟨_,_,f,e⟩|⟨_,m,rfl⟩
  .exact s.own j b v f e k
  .subst m;exact s.own i b v hσ r k
 .intro j t b v l h g k J n p;rcases a j _ v h k (Qaq n)with⟨_,G,f,e⟩|⟨Q,m,O⟩<;>rcases a t _ l g J (Qaq p)with⟨_,n1',q1',q2'⟩|⟨r1',e1',r2'⟩
  .exact s.inj j t b v l f q1' e q2' n p
  .subst e1' r2';exact(G (s.inj j i b v l f hσ e r n p)).elim
  .subst m O;exact(n1' (s.inj t i b l v q1' hσ q2' r p n)).elim
  omega
 .intro j z v h g;by_cases B:v≠ .dead
  .rcases a j z v h g B with⟨_,_,f,e⟩|⟨_,rfl,rfl⟩
   .exact(s.blk j z v f e).keep ext (λ_ _ _=>rfl) (λ_ _ _ _=>rfl)
   .exact(s.blk i _ _ hσ r).keep ext (λ_ _ _=>rfl) (λ_ _ _ _=>rfl)
  .obtain rfl:v=.dead:=Classical.not_not.1 B;trivial
def Src(P:Program)(H:Qd)(x:A)(k:Nat)(es:List (List A)):Prop:=
 ∀fr ro σ w v,Sim fr ro σ H w->VR ro σ w x v->(∃a c,v=.slice a es.length c)/\allK k es/\
  ∃l,(∀w':World,w'.heap=w.heap->(Builtin.firstCells k es.length v).run P w'=.ok l.toArray w')/\LR ro [] w es.flatten l/\ ∀v∈l,Qp v
theorem RR.flat{b k:Nat}:∀{es:List (List A)} {off:Nat},RR ro σ w b k es off->CR ro σ w b es.flatten off/\allK k es/\es.flatten.length=es.length*k
 |[],off,_=>⟨trivial,trivial,by simp⟩
 |c::es,off,⟨h1,h2,h3⟩=>by
  obtain⟨q1,q2,q3⟩:=RR.flat h3;refine⟨?_,⟨h1,q2⟩,by grind⟩;rw[Vl];have:∀(c:List A) (off:Nat) (d:List A),CR ro σ w b c off->CR ro σ w b d (off+c.length)->CR ro σ w b (c++d) off:=by
   intro c
   induction c with
   |nil=>simp
   |cons x c a=>intro off d ⟨h1,h2⟩ h;exact⟨h1,a (off+1) d h2 (by grind)⟩
  grind
theorem Qa5{b off k n c:Nat}{cs:List A}(h:CR ro σ w b cs off)(d:cs.length=n*k):
  ∃l,(∀w':World,w'.heap=w.heap->(Builtin.firstCells k n (.slice (some ⟨b,off,none⟩) n c)).run P w'=.ok l.toArray w')/\LR ro σ w cs l/\ ∀v∈l,Qp v:=by
 obtain⟨l,e,a,f⟩:=Yu (P:=P) (cs:=cs) (off:=off) 0 (by simpa using h)
 grind[Builtin.firstCells,loadCells]
theorem YB{k c:Nat}{a:Option Addr}:(Builtin.firstCells k 0 (.slice a 0 c)).run P w=.ok #[] w:=by
 cases a<;>simp[Builtin.firstCells,loadCells,loadCellsFrom,go_sem]
theorem Src.rsl{k:Nat}{es:List (List A)}:Src P H (.rsl k es) k es:=by
 intro j i σ w v s ⟨a,c,h1,h2,h3⟩;subst h1;refine⟨⟨a,c,rfl⟩,?_⟩;rcases h3 with rfl|⟨b,h,rfl,l,f⟩
 .exact⟨trivial,[],λ_ _=>YB,rfl,by simp⟩
 .obtain⟨e,d,g⟩:=f.flat;exact⟨d,Qa5 e g⟩
theorem Src.nils{k:Nat}:Src P H .nils k []:=by
 intro a b σ w v s h;simp only[VR]at h;subst h;exact⟨⟨none,0,rfl⟩,trivial,[],λ_ _=>YB,rfl,by simp⟩
theorem RR.drop{b k:Nat}:∀(n:Nat) {es:List (List A)} {off:Nat},RR ro σ w b k es off->RR ro σ w b k (es.drop n) (off+n*k)
 |0,_,_,h=>by simpa using h
 |n+1,[],_,_=>trivial
 |n+1,c::es,off,⟨h1,h2,h3⟩=>by
  have:=RR.drop n h3
  grind
theorem RR.take{b k:Nat}:∀(n:Nat) {es:List (List A)} {off:Nat},RR ro σ w b k es off->RR ro σ w b k (es.take n) off
 |0,_,_,h=>trivial
 |n+1,[],_,_=>trivial
 |n+1,c::es,off,⟨h1,h2,h3⟩=>⟨h1,h2,RR.take n h3⟩
theorem Src.osl{i s n k t:Nat}{es a:List (List A)}(x:H[i]?=some (.row t k es))(he:(es.drop s).take n=a)(E:s+n<=es.length):Src P H (.osl i s n k) k a:=by
 intro F B σ w v sm h;have u:a.length=n:=by grind
 rcases h with⟨rfl,rfl⟩|⟨b,p,d,z,m,q,rfl,y,J,G,L⟩
 .have e:a=[]:=(by grind);subst e;exact⟨⟨none,0,rfl⟩,trivial,[],λ_ _=>YB,rfl,by simp⟩
 .rw[u];refine⟨⟨_,d,rfl⟩,?_⟩;obtain⟨l,g,j⟩:=sm.blk i _ _ q x;have f:=((Yq (pre:=[]) (by simpa using g) j).drop s).take n;rw[he]at f;by_cases r:0<d
  .obtain rfl:=y r;obtain⟨g,j,M⟩:=f.flat
   simp_all[Qa5]
  .obtain rfl:n=0:=by omega
   have e:a=[]:=(by grind);subst e;exact⟨trivial,[],λ_ _=>YB,rfl,by simp⟩
def Q9:Nat:=4294967296
theorem Qd7(n c:Nat)(h:c<n):Builtin.nextslicecap n c<=4*n+1000:=by
 grind[Builtin.nextslicecap,Builtin.growBy]
structure Q6 (P:Program) (T e k:Nat):Prop where
 sl:∀w,(underlying T).run P w=.ok (.slice e) w
 size:∀w,(sizeOf e).run P w=.ok k w
 zero:∃z,(∀w,(zeroValue e).run P w=.ok z w)/\z.cells.size=k
 bytes:∃i,(∀w,(typeInfo e).run P w=.ok i w)/\i.bytes<=4096
theorem Qim{T k:Nat}{es:List (List A)}{l rest:List Value}(s:Sim fr ro σ H w)(hk:allK k es)(h:LR ro [] w es.flatten l)(hp:∀v∈l,Qp v):
  Sim fr ro (σ++[some w.heap.size]) (H++[.row T k es]) (w.alloc (.cells (l++rest).toArray T))/\Qh fr ro w ro (w.alloc (.cells (l++rest).toArray T)):=
 ⟨s.allocRow hk h hp,Qh.alloc _ s.roLt s.frLt⟩
theorem Yc{k:Nat}:∀{es:List (List A)},allK k es->es.flatten.length=es.length*k
 |[],_=>by simp
 |c::es,⟨h1,h2⟩=>by simp[Yc h2,h1,Xl,Nat.add_comm]
theorem QbN{k:Nat}:∀{es fs:List (List A)},allK k es->allK k fs->allK k (es++fs)
 |[],_,_,h=>h
 |c::es,_,⟨h1,h2⟩,h=>⟨h1,QbN h2 h⟩
theorem Qgo{k:Nat}:∀{es:List (List A)} (n:Nat),allK k es->allK k (es.take n)
 |_,0,_=>trivial
 |[],n+1,_=>trivial
 |c::es,n+1,⟨h1,h2⟩=>⟨h1,Qgo n h2⟩
theorem RL.allK{k:Nat}:∀{es:List (List A)} {l:List Value},RL ro σ w k es l->allK k es
 |[],_,_=>trivial
 |c::es,l,⟨l1,l2,h1,h2,h3,h4⟩=>⟨h2,RL.allK h4⟩
theorem RL.app{k:Nat}:∀{n:Nat} {es fs:List (List A)} {l m:List Value},RL ro σ w k es l->n<=es.length->Sw.allK k fs->LR ro σ w fs.flatten m->(∀v∈m,Qp v)->
  RL ro σ w k (es.take n++fs) (Sw.splice l (n*k) m)
 |0,es,fs,l,m,h,hn,hk,hm,hp=>by
  simp_all[Sw.splice,YI]
 |n+1,[],fs,l,m,h,hn,hk,hm,hp=>by simp at hn
 |n+1,c::es,fs,l,m,⟨l1,l2,h1,h2,h3,h4⟩,hn,hk,hm,hp=>by
  subst h1;have hl1:=h3.1.length;refine⟨l1,Sw.splice l2 (n*k) m,?_,h2,h3,RL.app h4 (by grind) hk hm hp⟩;have e1:(n+1)*k=l1.length+n*k:=by grind
  unfold Sw.splice;rw[e1,Vb,show l1.length+n*k+m.length=l1.length+(n*k+m.length)from by omega,Va];simp
theorem QeD{T T' e e' k need cap:Nat}{t:TypeId}(E:Q6 P T e k)(B:∀w,(underlying T').run P w=.ok (.slice e') w){ad:Option Addr}{n m c:Nat}{ax:Option Addr}
  (f:need=n+m)(g:cap<need)(a:need<=Q9){old new:List Value}
  (r:∀w':World,w'.heap=w.heap->(Builtin.firstCells k m (.slice ax m c)).run P w'=.ok new.toArray w')(y:∀w':World,w'.heap=w.heap->(Builtin.firstCells k n (.slice ad n cap)).run P w'=.ok old.toArray w'):
  ∃(rest:List Value) (b:Nat),(need<=b/\b<=9223372036854775807)/\rest.length=(b-need)*k/\(Builtin.append_ #[T,T'] t #[.slice ad n cap,.slice ax m c]).run P w=
   .ok (.slice (some ⟨w.heap.size,0,none⟩) need b) (({w with drawn:=w.drawn+1}:World).alloc (.cells ((old++new)++rest).toArray e)):=by
 obtain⟨z,N,j⟩:=E.zero;obtain⟨i,O,J⟩:=E.bytes
 let b:=need+w.tape w.drawn (.appendCap need cap e)%(2^63-need)
 refine⟨(Builtin.zeroCells z.cells (b-need)).toList,b,⟨Nat.le_add_right _ _,by
  have:=Nat.mod_lt (w.tape w.drawn (.appendCap need cap e)) (show 0<2^63-need by unfold Q9 at a;omega);show need+_%(2^63-need)<=_;omega⟩,by simp[Builtin.zeroCells,j],?_⟩
 have d:¬(need<=cap):=by omega
 have s:¬((need:Int)>IntKind.i64.max/\(False\/i.bytes=0)):=by
  rintro⟨q,_⟩;have:IntKind.i64.max=9223372036854775807:=by decide
  rw[this]at q;unfold Q9 at a;omega
 have M:¬(Builtin.nextslicecap need cap*i.bytes>2^48):=by
  have:=Qd7 need cap g;have u:Builtin.nextslicecap need cap*i.bytes<=(4*need+1000)*4096:=Nat.mul_le_mul this J;unfold Q9 at a;omega
 generalize hF:Builtin.firstCells=F at r y;unfold Builtin.append_;rw[hF];have p:∀W:World,(choose (.appendCap need cap e)).run P W=.ok (need+W.tape W.drawn (.appendCap need cap e)%(2^63-need)) {W with drawn:=W.drawn+1}:=by
  intro W;simp[choose,Sem.run,Question.forced,Question.cut]
 have l:∀(x:Nat) (W:World),(askRoom x).run P W=.ok () W:=by
  intro x W;unfold askRoom;split<;>rfl
 have h:∀(c:Array Value) (W:World),(newRow e c).run P W=.ok ⟨W.heap.size,0,none⟩ (W.alloc (.cells c e)):=λc W=>rfl;subst f;simp only[not_and,false_or]at s;have u:¬(((n+m:Nat):Int)>IntKind.i64.max/\(False\/i.bytes=0)):=by simpa using s
 simp only[XG,XE,XF,Vm,E.sl,E.size,B,O,N,Result.andThen,Builtin.lenOf,Vn,Xi,if_false,XH,
  Xh,if_true,Vs d,Vs u,Vs M,p,l]
 have G:=y {w with drawn:=w.drawn+1} rfl;have L:=r {w with drawn:=w.drawn+1} rfl;simp only[G,L,h];have H:old.toArray++new.toArray++Builtin.zeroCells z.cells (b-(n+m))=((old++new)++(Builtin.zeroCells z.cells (b-(n+m))).toList).toArray:=by
  apply Array.toList_inj.1;simp
 rw[<- H]
theorem QbE{T T' e e' k cap:Nat}{t:TypeId}(E:Q6 P T e k)(f:∀w,(underlying T').run P w=.ok (.slice e') w){ad:Option Addr}{n m c:Nat}{ax:Option Addr}
  (b:n+m<=cap){new:List Value}(d:(Builtin.firstCells k m (.slice ax m c)).run P w=.ok new.toArray w):
  (Builtin.append_ #[T,T'] t #[.slice ad n cap,.slice ax m c]).run P w=
   match ad with
   |some a=>(do storeCells (a.add (n*k)) new;pure (Value.slice ad (n+m) cap):Sem Value).run P w
   |none=>.ok (.slice ad (n+m) cap) w:=by
 generalize hF:Builtin.firstCells=F at d;unfold Builtin.append_;rw[hF];simp only[XG,XE,XF,Vm,E.sl,E.size,f,Result.andThen,Builtin.lenOf,Vn,Xi,if_false,XH,
  Xh,if_true,Vt b,d]
 cases ad with
 |none=>rfl
 |some a=>simp only[Vm,Result.andThen,Vn]
theorem Sim.weaken(s:Sim fr ro σ H w){i:Nat}{x x':Blk}(J:H[i]?=some x)(P:x.live=true)(p:∀y,BR ro σ w x y->BR ro σ w x' y)
  (L:∀b c,Hid w x' b c->Hid w x b c:=by exact λ_ _ h=>h.elim):Sim fr ro σ (H.set i x') w:=by
 have Q:i<H.length:=(by grind);have M:(H.set i x')[i]?=some x':=(by grind);have z:∀j,j≠i->(H.set i x')[j]?=H[j]? :=(by grind);have a:∀(j:Nat) (v:Blk),(H.set i x')[j]?=some v->(j=i/\v=x')\/(j≠i/\H[j]?=some v):=by
  grind
 have r:∀(j:Nat) (v:Blk),(H.set i x')[j]?=some v->v.live=true->∃e,H[j]?=some e/\e.live=true:=by
  grind
 refine⟨by rw[X4];exact s.len,s.roOk,s.frLt,s.roFr,?_,?_,?_,s.hidTo (· = ·) Q2 (XT _) (by simp) (by simp) λj d y O R N=>.inl ?_⟩
 rotate_left 3
 .grind
 .intro j b v f g l;obtain⟨e,q,n⟩:=r j v g l;exact s.own j b e f q n
 .intro j t b v e f g l E F G;obtain⟨u,q,n⟩:=r j v l F;obtain⟨B,m,k⟩:=r t e E G;exact s.inj j t b u B f g q m n k
 .intro j y v f g;rcases a j v g with⟨rfl,rfl⟩|⟨_,h⟩
  .exact p y (s.blk j y x f J)
  .exact s.blk j y v f h
theorem RL.take{k:Nat}:∀(n:Nat) {es:List (List A)} {l:List Value},RL ro σ w k es l->RL ro σ w k (es.take n) l
 |0,_,_,_=>trivial
 |n+1,[],_,_=>trivial
 |n+1,c::es,l,⟨l1,l2,h1,h2,h3,h4⟩=>⟨l1,l2,h1,h2,h3,RL.take n h4⟩
theorem Yw{c:Call}{T T':TypeId}{x y:Operand}(b:o.op=.call c)(a:c={callee:=.builtin .append,args:= #[x,y],argTypes:= #[T,T']})(ρ:Operand->Value){v:Value}{w':World}
  (h:(Builtin.append_ #[T,T'] o.type #[ρ x,ρ y]).run P w=.ok v w'):(execOp ρ o).run P w=.ok (.value v) w':=by
 simp_all[execOp,resolve,invoke,Go.builtin]
theorem Sim.phantom(s:Sim fr ro σ H w)(t k:Nat):Sim fr ro (σ++[none]) (H++[.row t k []]) w:=by
 have g:=s.len;have f:∀(i b:Nat),(σ++[none])[i]?=some (some b)->i<σ.length:=by
  grind
 refine⟨by simp[g],s.roOk,s.frLt,s.roFr,?_,?_,?_,s.hidTo (· = ·) Q2 (XT _) (by simp) (by simp) λj d y a e h=>.inl ?_⟩
 rotate_left 3
 .grind
 .intro i b z a e h;have q:=f i b a;rw[XM q]at a;rw[XM (by omega)]at e;exact s.own i b z a e h
 .intro i j b z u a e h l m x;have n:=f i b a;have r:=f j b e;rw[XM n]at a;rw[XM r]at e;rw[XM (by omega)]at h l;exact s.inj i j b z u a e h l m x
 .intro i y z a e;have ext:Ext ro σ w ro (σ++[none]) w:=⟨λ_ q=>q,λ_ _=>rfl,λ_ _ q=>q,(by grind)⟩;rcases Nat.lt_trichotomy i σ.length with q|q|q
  .rw[XM q]at a;rw[XM (by omega)]at e;exact(s.blk i y z a e).keep ext (λ_ _ _=>rfl) (λ_ _ _ _=>rfl)
  .subst q;have p:(σ++[none])[σ.length]?=some none:=by simp
   have B:(H++[Blk.row t k []])[σ.length]?=some (.row t k []):=by grind
   rw[p]at a;rw[B]at e;cases a;cases e;rfl
  grind
theorem Sim.kill(s:Sim fr ro σ H w)(i:Nat):Sim fr ro σ (H.set i .dead) w:=by
 have a:∀(j:Nat) (v:Blk),(H.set i .dead)[j]?=some v->v≠ .dead->H[j]?=some v:=by
  grind
 refine⟨by rw[X4];exact s.len,s.roOk,s.frLt,s.roFr,?_,?_,?_,s.hidTo (· = ·) Q2 (XT _) (by simp) (by simp) λj d y t u r=>.inl ⟨j,y,rfl,t,a j y u (Qer r),id,λ_ q=>q⟩⟩
 .intro j b v e f g;exact s.own j b v e (a j v f (Qaq g)) g
 .intro j n b v h e f g p m l;exact s.inj j n b v h e f (a j v g (Qaq m)) (a n h p (Qaq l)) m l
 .intro j y v e f;by_cases k:v≠ .dead
  .exact s.blk j y v e (a j v f k)
  .obtain rfl:v=.dead:=Classical.not_not.1 k;trivial
theorem grown{c:Call}{T T' e e' k n m cap cx:Nat}{x y:Operand}{es fs:List (List A)}{a:Act}{ad ax:Option Addr}{old new:List Value}(E:Q6 P T e k)(L:∀w,(underlying T').run P w=.ok (.slice e') w)(ho:o.op=.call c)
  (Q:c={callee:=.builtin .append,args:= #[x,y],argTypes:= #[T,T']})(X:a.eval x=.slice ad n cap)(V:a.eval y=.slice ax m cx)(s:Sim fr ro σ H w)(j:cap<n+m)(g:n+m<=Q9)
  (q:∀w':World,w'.heap=w.heap->(Builtin.firstCells k n (.slice ad n cap)).run P w'=.ok old.toArray w')(f:∀w':World,w'.heap=w.heap->(Builtin.firstCells k m (.slice ax m cx)).run P w'=.ok new.toArray w')
  (d:LR ro [] w es.flatten old)(R:∀v∈old,Qp v)(l:allK k es)(p:LR ro [] w fs.flatten new)(Y:∀v∈new,Qp v)(i:allK k fs)(B:es.length=n)(F:fs.length=m):
  ∃v w' ro' τ,(execOp a.eval o).run P w=.ok (.value v) w'/\VR ro' (σ++τ) w' (.osl H.length 0 (n+m) k) v/\Sim fr ro' (σ++τ) (H++[.row e k (es++fs)]) w'/\Qh fr ro w ro' w':=by
 obtain⟨rest,nc,z,r,h⟩:=QeD (t:=o.type) E L rfl j g f q
 let w0:World:={w with drawn:=w.drawn+1}
 have N:Sim fr ro σ H w0:=s.heap rfl;have W:Qh fr ro w ro w0:=Qh.heap rfl rfl rfl rfl (Nat.le_succ _);have u:LR ro [] w0 (es++fs).flatten (old++new):=by
  rw[Xr];exact(d.append p).mono (Ext.heap (w:=w) (w':=w0) rfl)
 obtain⟨O,M⟩:=Qim (T:=e) (rest:=rest) N (QbN l i) u (λv hv=>by grind);have b:(execOp a.eval o).run P w=.ok (.value _) _:=Yw ho Q a.eval (by rw[X,V];exact h);refine⟨_,_,ro,[some w.heap.size],b,.inr ⟨w.heap.size,0,nc,e,(old++new++rest).length,?_,rfl,λ_=>by simp,z,?_,?_⟩,O,W.trans M⟩
 .rw[<- s.len];simp
 .have:=QY w0 (.cells ((old++new)++rest).toArray e);unfold World.shape?
  grind
 .have J:=d.length;have G:=p.length;rw[Yc l]at J;rw[Yc i]at G;simp only[X3,r,J,G,B,F,Xv];rw[<- XA, <- XA]
  grind
theorem QfO{c:Call}{T T' e e' k:Nat}{x y:Operand}{u:A}{fs:List (List A)}(E:Q6 P T e k)(i:∀w,(underlying T').run P w=.ok (.slice e') w)(s:o.op=.call c)
  (j:c={callee:=.builtin .append,args:= #[x,y],argTypes:= #[T,T']})(Q:opA env x=.nils)(F:opA env y=u)(L:Src P H u k fs)(h:fs.length<=Q9):
  OpH P o env H (.osl H.length 0 fs.length k) (H++[.row e k fs]):=by
 intro M q σ N a w r;have b:=Qi r x;rw[Q]at b;simp only[VR]at b;have p:=Qi r y;rw[F]at p;obtain⟨⟨B,J,d⟩,G,l,g,z,O⟩:=L M q σ w _ r.sim p;rw[d]at g;by_cases R:fs.length=0
 .have f:fs=[]:=(by grind);subst f;refine⟨.slice none 0 0,w,q,[none],?_,.inl ⟨rfl,rfl⟩,r.sim.phantom e k,Qh.refl _ _ _⟩;refine Yw s j _ ?_;rw[b,d];have:=QbE (t:=o.type) E i (ad:=none) (n:=0) (m:=0) (cap:=0) (c:=J) (ax:=B) (XT 0) (g w rfl);omega
 .have:=grown (es:=[]) (old:=[]) E i s j b d r.sim (by omega) (by omega) (λ_ _=>YB) g rfl (by simp) trivial z O G rfl rfl
  grind
theorem Qik{c:Call}{T T' e e' k i n:Nat}{x y:Operand}{ya:A}{es fs gs:List (List A)}(E:Q6 P T e k)(hd:∀w,(underlying T').run P w=.ok (.slice e') w)(Q:o.op=.call c)
  (B:c={callee:=.builtin .append,args:= #[x,y],argTypes:= #[T,T']})(hx:opA env x=.osl i 0 n k)(hH:H[i]?=some (.row e k es))(hn:n<=es.length)(u:opA env y=ya)(hs:Src P H ya k fs)(g:n+fs.length<=Q9)
  (hg:es.take n++fs=gs):OpH P o env H (.osl H.length 0 (n+fs.length) k) (H.set i .dead++[.row e k gs]):=by
 intro fr z σ N a w r;subst hg;have h:=Qi r x;rw[hx]at h;have h2:=Qi r y;rw[u]at h2;obtain⟨⟨ay,cy,W⟩,q2,l,F,q4,q5⟩:=hs fr z σ w _ r.sim h2;rw[W]at F;have j:i<H.length:=(by grind);have ag:(H.set i .dead).length=H.length:=X4;obtain⟨s,hσ⟩:∃s,σ[i]?=some s:=⟨_,XK (by rw[r.sim.len];exact j)⟩;rcases h with⟨rfl,h⟩|⟨b,p,cap,t',mm,L,h,Y,h5,M,h7⟩
 ·
  by_cases hm:fs.length=0
  .have q:fs=[]:=(by grind);subst q;refine⟨.slice none 0 0,w,z,[none],?_,.inl ⟨rfl,rfl⟩,(r.sim.kill i).phantom e k,Qh.refl _ _ _⟩;refine Yw Q B _ ?_;rw[h,W];have:=QbE (t:=o.type) E hd (ad:=none) (n:=0) (m:=0) (cap:=0) (c:=cy) (ax:=ay) (XT 0) (F w rfl);omega
  .have:=grown (es:=[]) (old:=[]) E hd Q B h W (r.sim.kill i) (by omega) g (λ_ _=>YB) F rfl (by simp) trivial q4 q5 q2 rfl rfl
   grind
 .have R:=r.sim.blk i _ _ L hH;obtain⟨O,J,X⟩:=R;have ab:(es.take n).length=n:=by simp;omega
  obtain⟨old,o1,o2,o3⟩:∃old:List Value,(∀w':World,w'.heap=w.heap->(Builtin.firstCells k n (.slice (some ⟨b,p,none⟩) n cap)).run P w'=.ok old.toArray w')/\LR z [] w (es.take n).flatten old/\ ∀v∈old,Qp v:=by
   have G:Src P H (.osl i 0 n k) k (es.take n):=Src.osl hH (by simp) (by omega);obtain⟨_,_,l',z1,z2,z3⟩:=G fr z σ w (.slice (some ⟨b,p,none⟩) n cap) r.sim (.inr ⟨b,p,cap,t',mm,L,rfl,Y,h5,M,h7⟩)
   grind
  by_cases d:n+fs.length<=cap
  .have ae:=QbE (t:=o.type) E hd (ad:=some ⟨b,p,none⟩) (n:=n) (m:=fs.length) (cap:=cap) (c:=cy) (ax:=ay) d (F w rfl);have ah:l.length=fs.length*k:=by rw[q4.length,Yc q2]
   by_cases hm:fs.length=0
   .have q:fs=[]:=(by grind);subst q;have el:l=[]:=(by simp_all);subst el;have sw:=(r.sim.weaken (x':=.row e k (es.take n)) hH rfl (by
     intro y u;cases y with
     |none=>simp only[BR]at u⊢;grind
     |some y=>obtain⟨O,J,X⟩:=u;exact⟨O,J,X.take n⟩))
    have V:=sw.moved (i:=i) (Xa j) L;rw[List.set_set]at V;refine⟨.slice (some ⟨b,p,none⟩) n cap,w,z,[some b],?_,.inr ⟨b,p,cap,t',mm,?_,by simp,Y,by omega,M,h7⟩,by grind,Qh.refl _ _ _⟩
    .refine Yw Q B _ ?_
     simp_all[storeCells]
    .rw[<- r.sim.len];simp
   .obtain rfl:p=0*k:=Y (by omega);have ac:(n+fs.length)*k<=O.length:=by
     have:w.shape? b=some (e,O.length):=by unfold World.shape?;rw[J];simp
     rw[this]at M;cases M;exact XV (XC k d) (by grind)
    rw[XA]at ac;have af:=Q3 (P:=P) (vs:=l) (n*k) 0 J (by omega) q5;have f:=r.sim.set (x':=.row e k (es.take n++fs)) (obj:=.cells (splice O (n*k) l).toArray e (0,0)) L hH rfl
     (λy u=>Jc J (Q0 (by omega)) y u)
     (λex aa=>⟨_,aa,(X.app hn q2 q4 q5).mono ex.nil⟩)
    have V:=f.1.moved (i:=i) (Xa j) L;rw[List.set_set]at V;refine⟨.slice (some ⟨b,0*k,none⟩) (n+fs.length) cap,_,z,[some b],?_,.inr ⟨b,0*k,cap,t',mm,?_,rfl,Y,⟨d,h5.2⟩,?_,h7⟩,V,f.2⟩
    .refine Yw Q B _ ?_
     simp_all[YV]
    .rw[<- r.sim.len];simp
    .exact f.2.shape _ _ M
  .have:=grown (es:=es.take n) (old:=old) (fs:=fs) E hd Q B h W (r.sim.kill i) (by omega) g o1 F o2 o3 (Qgo n X.allK) q4 q5 q2 ab rfl
   grind
end
section
variable {P:Program} {o:Oper} {env:Env} {H:Qd}
theorem OpC.fn{c:Call}{f:FuncId}{xs:List Operand}{g:Array TypeId}{args:List A}(b:∀(a:Array Value) (w:World),(callFunc f a).run P w=.ok (.enter f a) w)(i:o.op=.call c)
  (d:c={callee:=.value (.func f),args:=xs.toArray,argTypes:=g})(h:xs.map (opA env)=args):OpC P o env H f args:=by
 intro k j σ N a w r;refine⟨xs.map a.eval,?_,h▸Qbc r xs⟩;subst d;have e:a.eval (.func f)=.func (.func f) #[] #[]:=rfl
 grind[execOp,resolve,Deferred.ofValue,invoke]
theorem Qhf{c:Call}{f:FuncId}{x:Operand}{xs:List Operand}{h:Array TypeId}{args vf vc:List A}(d:∀(a:Array Value) (w:World),(callFunc f a).run P w=.ok (.enter f a) w)(q:o.op=.call c)
  (p:c={callee:=.value x,args:=xs.toArray,argTypes:=h})(i:opA env x=.fn (.func f) vf vc)(j:vf++(xs.map (opA env)++vc)=args):OpC P o env H f args:=by
 intro n m σ N a w r;have b:=Qi r x;rw[i]at b;obtain⟨l,e,b,k,g⟩:=b;refine⟨l++(xs.map a.eval++e),?_,j▸k.append ((Qbc r xs).append g)⟩
 grind[execOp,resolve,Deferred.ofValue,invoke]
def QfD(ρ:Nat->Nat)(env:Env):Env->Prop
 |[]=>True
 |(s,a)::r=>lk env s=Yr ρ a/\QfD ρ env r
theorem QfD.ok{ro:Nat->Prop}{σ σ':Sig}{w:World}{ρ:Nat->Nat}(h:∀i:Nat,σ[ρ i]?=σ'[i]?){t:Array Value}(r:∀s,VR ro σ w (lk env s) (t.getD s undef)):
  ∀{env':Env},QfD ρ env env'->∀s,VR ro σ' w (lk env' s) (t.getD s undef)
 |[],_,s=>trivial
 |(d,a)::e,⟨h1,h2⟩,s=>by
  simp only[lk];by_cases q:s=d
  .grind[Nat.beq_refl,Qdv]
  .have:Nat.beq s d=false:=by
    simp_all[VM]
   rw[this];exact QfD.ok h r h2 s
theorem Sim.sub{fr ro:Nat->Prop}{σ:Sig}{w:World}{π:List Nat}{H':Qd}(s:Sim fr ro σ H w)(u:π.map (λp=>H[p]?)=(H'.map (QQ (rho π H.length))).map some)(hπ:π.Nodup):
  Sim fr ro (Yh σ π) H' w/\ ∀j:Nat,σ[rho π H.length j]?=(Yh σ π)[j]? :=by
 have J:∀p∈π,p<H.length:=λp q=>Y2 u q;have hσl:=s.len;have M:∀(j p:Nat),π[j]?=some p->H[p]?=(H'[j]?).map (QQ (rho π H.length)):=by
  intro j p e;have:=congrArg (λl=>l[j]?) u
  grind
 have k:π.length=H'.length:=by simpa using congrArg List.length u
 have hσc:∀j:Nat,σ[rho π H.length j]?=(Yh σ π)[j]? :=by
  intro j;have:=Qea (τ:=[]) hσl J j
  grind
 have hπj:∀(j b:Nat),(Yh σ π)[j]?=some (some b)->∃p,π[j]?=some p/\σ[p]?=some (some b):=by
  intro j b e;simp only[Yh,Xo]at e
  grind
 have hπi:∀(i j p:Nat),π[i]?=some p->π[j]?=some p->i=j:=by
  intro i j p f a;have B:i<π.length:=(by grind);have e:j<π.length:=(XL.1 a).1;rw[XK B]at f;rw[XK e]at a;have m:=(XZ f).trans (XZ a).symm;rcases Nat.lt_trichotomy i j with q|q|q
  .exact(VE.1 hπ i j B e q m).elim
  .exact q
  .exact(VE.1 hπ j i e B q m.symm).elim
 refine⟨⟨by simp[Yh,k],s.roOk,s.frLt,s.roFr,?_,?_,?_,s.hidTo (λj p=>π[j]?=some p) hπi (XT _) (λ_ _ _ _ _ _ _ q=>q) (λ_ _ _ _ _ _ _ q=>q) λj d y G Q O=>.inl ?_⟩,hσc⟩
 rotate_left 3
 .obtain⟨p,f,g⟩:=hπj j d G;exact⟨p,QQ (rho π H.length) y,f,g,by grind,by rw[QF];exact id,λc q=>(Qak _ _ _ _ _).2 q⟩
 .intro j b x n z E;obtain⟨p,f,g⟩:=hπj j b n;have h:H[p]?=some (QQ (rho π H.length) x):=by grind
  exact s.own p b _ g h (by rw[QF];exact E)
 .intro i j b x y n z E P N L;obtain⟨p,f,g⟩:=hπj i b n;obtain⟨F,a,r⟩:=hπj j b z;have h:H[p]?=some (QQ (rho π H.length) x):=by grind
  have t:H[F]?=some (QQ (rho π H.length) y):=by grind
  have:=s.inj p F b _ _ g r h t (by rw[QF];exact N) (by rw[QF];exact L)
  grind
 .intro j y x n z;have e:j<π.length:=by
   grind
  have f:π[j]?=some π[j]:=XK e;have h:H[π[j]]?=some (QQ (rho π H.length) x):=by grind
  have g:σ[π[j]]?=some y:=by
   grind[rho]
  exact(Qhn hσc).1 (s.blk _ y _ g h)
theorem Qps{d:Nat}{env':Env}{H':Qd}(π:List Nat)(b:π.take d=List.range d)(e:π.map (λp=>H[p]?)=(H'.map (QQ (rho π H.length))).map some)(hπ:π.Nodup)
  (hE:QfD (rho π H.length) env env'):Le d env H env' H':=by
 intro h f σ N a w r;obtain⟨g,hσ⟩:=r.sim.sub e hπ;refine⟨f,Yh σ π,⟨g,QfD.ok hσ r.env hE,r.size,r.defers⟩,λ_ q=>q,?_⟩;have j:=r.sim.len;have i:∀p∈π,p<H.length:=λp q=>Y2 e q;unfold Yh;rw[<- List.map_take,b];apply List.ext_getElem?
 grind
theorem Le.phantom{e s k t:Nat}(f:e<=H.length)(g:lk env s=.nils):Le e env H (up env s (.osl H.length 0 0 k)) (H++[.row t k []]):=by
 intro h d σ N a w r;refine⟨d,σ++[none],⟨r.sim.phantom t k,?_,r.size,r.defers⟩,λ_ q=>q,QB (by rw[r.sim.len];exact f)⟩;have ext:Ext d σ w d (σ++[none]) w:=⟨λ_ q=>q,λ_ _=>rfl,λ_ _ q=>q,(by grind)⟩;intro b;simp only[lk];by_cases q:b=s
 .subst q;rw[VF];have:=r.env b;rw[g]at this;exact .inl ⟨rfl,this⟩
 .have:Nat.beq b s=false:=by
   simp_all[VM]
  rw[this];exact(r.env b).mono ext
theorem Qb2{f s k:Nat}(d:lk env s=.nils):Le f env H (up env s (.rsl k [])) H:=by
 intro g e σ N a w r;refine⟨e,σ,⟨r.sim,?_,r.size,r.defers⟩,λ_ q=>q,rfl⟩;intro b;simp only[lk];by_cases q:b=s
 .subst q;rw[VF];have:=r.env b;rw[d]at this;exact⟨none,0,this,XT _,.inl rfl⟩
 .have:Nat.beq b s=false:=by
   simp_all[VM]
  rw[this];exact r.env b
mutual
def Yd:A->Bool
 |.bool _=>true
 |.int _ _=>true
 |.str _=>true
 |.tup vs=>Qec vs
 |_=>false
def Qec:List A->Bool
 |[]=>true
 |a::r=>Yd a&&Qec r
end
mutual
theorem VR.scalar{ro ro':Nat->Prop}{σ σ':Sig}{w w':World}:∀{a:A} {v:Value},Yd a=true->VR ro σ w a v->VR ro' σ' w' a v
 |.bool _,_,_,h=>h
 |.int _ _,_,_,h=>h
 |.str _,_,_,h=>h
 |.tup vs,v,hs,h=>by
  simp only[VR,Yd]at h hs⊢;obtain⟨l,h1,h2⟩:=h;exact⟨l,h1,LR.scalar hs h2⟩
 |.any,_,hs,_=>by simp[Yd]at hs
 |.nilp,_,hs,_=>by simp[Yd]at hs
 |.ptr _ _,_,hs,_=>by simp[Yd]at hs
 |.rp _,_,hs,_=>by simp[Yd]at hs
 |.nils,_,hs,_=>by simp[Yd]at hs
 |.rsl _ _,_,hs,_=>by simp[Yd]at hs
 |.osl _ _ _ _,_,hs,_=>by simp[Yd]at hs
 |.agg _,_,hs,_=>by simp[Yd]at hs
 |.fn _ _ _,_,hs,_=>by simp[Yd]at hs
 |.nilf,_,hs,_=>by simp[Yd]at hs
 |.iface _ _,_,hs,_=>by simp[Yd]at hs
 |.nilif,_,hs,_=>by simp[Yd]at hs
 |.map _,_,hs,_=>by simp[Yd]at hs
 |.nilm,_,hs,_=>by simp[Yd]at hs
theorem LR.scalar{ro ro':Nat->Prop}{σ σ':Sig}{w w':World}:∀{az:List A} {l:List Value},Qec az=true->LR ro σ w az l->LR ro' σ' w' az l
 |[],_,_,h=>h
 |a::r,l,hs,h=>by
  simp only[LR,Qec,XW]at h hs⊢;obtain⟨v,l',h1,h2,h3⟩:=h;exact⟨v,l',h1,VR.scalar hs.1 h2,LR.scalar hs.2 h3⟩
end
def Look(H:Qd):A->A->Prop:=λa a'=>(a'=a/\Yn a=true)\/ ∃i n k t es,a=.osl i 0 n k/\H[i]?=some (.row t k es)/\es.length=n/\a'=.rsl k es
def Qbg(H:Qd):List A->List A->Prop
 |[],[]=>True
 |a::az,b::bs=>Look H a b/\Qbg H az bs
 |_,_=>False
theorem Qig{h0 N:Nat}{Q:QA}{all:Array Oper}{l:List Oper}{d:Nat}{f:FuncId}{args B:List A}{Qr:A->Qd->Prop}(ad:OpC P o env H f args)(hv:Qbg H args B)(hC:C P f B [] Qr)
  (ab:∀r H1,Qr r H1->Yd r=true)(k:∀r H1,Qr r H1->WO P h0 N all l (up env d r) H Q)(hg:Qt all o env true:=by exact rfl)(hd:o.dst=some d:=by exact rfl)(hN:Nat.blt d N=true:=by exact rfl):WO P h0 N all (o::l) env H Q:=by
 intro rd fr ro σ a w r hrd;obtain⟨R,h1,h2⟩:=ad fr ro σ N a w r;refine QfP (YW hg r) h1 ?_
 let roc:Nat->Prop:=λb=>ro b\/ ∃(i:Nat) (x:Blk),σ[i]?=some (some b)/\H[i]?=some x/\x.live=true
 let frc:Nat->Prop:=λb=>fr b\/ ∃(i:Nat) (x:Blk) (d:Nat),σ[i]?=some (some d)/\H[i]?=some x/\Hid w x d b
 have W:Sim frc roc [] [] w:=by
  refine⟨rfl,r.sim.roOk.to (λ_ q=>.inl q) (λ_ _=>rfl) ?_,?_,?_,by simp,by simp,by simp,by simp⟩
  .rintro b (q|⟨i,x,z,u,F⟩)
   .exact r.sim.roLt b q
   .exact(r.sim.own i b x z u F).1
  .rintro b (q|⟨i,x,d,z,u,F⟩)
   .exact r.sim.frLt b q
   .exact(r.sim.hid i d x b z u F).lt
  .rintro b (q|⟨i,x,z,u,F⟩) (q'|⟨i',x',d',Y,M,O⟩)
   .exact r.sim.roFr b q q'
   .exact(r.sim.hid i' d' x' b Y M O).ro q
   .exact(r.sim.own i b x z u F).2.2 q'
   .exact(r.sim.hid i' d' x' b Y M O).ne i b x z u F rfl
 have G:∀(az E:List A) (l:List Value),Qbg H az E->LR ro σ w az l->LR roc [] w E l:=by
  intro az
  induction az with
  |nil=>
   intro E l J h;cases E with
   |nil=>exact h
   |cons b E=>exact J.elim
  |cons x az ih=>
   intro E l J h;cases E with
   |nil=>exact J.elim
   |cons y E=>
    obtain⟨hx,J⟩:=J;obtain⟨v,l',rfl,hv,h⟩:=h;refine⟨v,l',rfl,?_,ih E l' J h⟩;rcases hx with⟨rfl,hx⟩|⟨i,n,k,t,es,rfl,hH,hn,rfl⟩
    .exact(hv.data (σ':=[]) hx).mono ⟨λ_ q=>.inl q,λ_ _=>rfl,λ_ _ q=>q,λ_ _ q=>q⟩
    .subst hn;rcases hv with⟨h0,h⟩|⟨b,p,V,t',m,h1,h,h2,⟨h3,af⟩,h4,h5⟩
     .have:es=[]:=(by grind);subst this;exact⟨none,0,h,XT _,.inl rfl⟩
     .refine⟨_,V,h,h3,?_⟩;by_cases he:es=[]
      .exact .inl he
      .right;have hc:0<V:=Vf (by grind) h3;obtain rfl:=h2 hc;obtain⟨l,z,u⟩:=r.sim.blk i _ _ h1 hH;refine⟨b,0,by simp,.inr ⟨i,_,h1,hH,rfl⟩,?_⟩;have:=Yq (pre:=[]) (by simpa using z) u;exact this.keep ⟨λ_ q=>.inl q,λ_ _=>rfl,λ_ _ q=>q,λ_ _ q=>q⟩ rfl
 refine Calls.mono (hC frc roc [] R w W (G _ _ _ hv h2)) ?_;rintro e L ⟨v,rr,H1,ae,τ,rfl,hq,sc,ac,ev⟩;have T:∀(i b:Nat) (x:Blk),σ[i]?=some (some b)->H[i]?=some x->x.live=true->L.heap[b]?=w.heap[b]? :=λi b x z u F=>ev.keepRo b (by grind);have g:Qh fr ro w ro L:=⟨λ_ q=>q,λb q=>ev.keepRo b (.inl q),λb q=>ev.keepFr b (.inl q),ev.size,ev.shape,ev.os,ev.tape,ev.output,ev.drawn⟩;have X:Sim fr ro σ H L:=by
  refine⟨r.sim.len,r.sim.roOk.to (λ_ q=>q) g.keepRo (λb q=>Vf (r.sim.roLt b q) ev.size),λb q=>Vf (r.sim.frLt b q) ev.size,r.sim.roFr,?_,r.sim.inj,?_,r.sim.hidTo (· = ·) Q2 ev.size (by simp) (by simp) λj d y g1 g2 g3=>.inl ⟨j,y,rfl,g1,g2,id,λc q=>r.sim.hidKeep g1 g2 (T j d y g1 g2) g.keepRo q⟩⟩
  .intro i b x z u F;obtain⟨p1,p2,p3⟩:=r.sim.own i b x z u F
   grind
  .intro i y x z u;refine(r.sim.blk i y x z u).keep (g.ext0 σ) ?_ ?_
   .grind
   .rintro b c rfl J;exact ev.keepFr c (by grind)
 have hk:=k rr H1 hq;have aa:d<N:=by simp_all
 simp only[hd,Act.put];have r':Rel fr ro σ H (up env d rr) N {a with tmps:=a.tmps.setIfInBounds d v} L:=
  ⟨X,VR.up (fr:=fr) (λs=>(r.env s).mono (g.ext0 σ)) (by rw[r.size];exact aa) (ac.scalar (ab _ _ hq)),by simpa using r.size,r.defers.keep g⟩
 exact⟨_,rfl,Yk (λe a w q=>q.step g rfl) _ _ _ (hk rd fr ro σ _ L r' (hrd.to g λ_ q=>q))⟩
end
section
variable {P:Program} {o:Oper} {env:Env} {H:Qd}
theorem Qf3{α:Type}:∀(vs:List α) (off i:Nat) (l:List α),off+i+vs.length<=l.length->
  (vs.zipIdx i).foldl (λ(cs:Array α) (x:α×Nat)=>cs.setIfInBounds (off+x.2) x.1) l.toArray=(splice l (off+i) vs).toArray
 |[],off,i,l,h=>by simp[splice]
 |v::vs,off,i,l,h=>by
  simp only[X0]at h;rw[List.zipIdx_cons,XD];have e1:l.toArray.setIfInBounds (off+i) v=(splice l (off+i) [v]).toArray:=by
   have:l.toArray.setIfInBounds (off+i) v=(l.set (off+i) v).toArray:=by simp
   rw[this];congr 1;rw[List.set_eq_take_append_cons_drop,Vt (by omega)];simp[splice]
  rw[e1,Qf3 vs off (i+1) _ (by grind)];congr 1;have a:(l.take (off+i)).length=off+i:=by simp;omega
  unfold splice;rw[Vi (l.take (off+i))];have e:off+(i+1)=(l.take (off+i)).length+1:=by omega
  have b:(l.take (off+i)++([v]++l.drop (off+i+[v].length))).take ((l.take (off+i)).length+1)=l.take (off+i)++[v]:=by
   grind
  have d:(l.take (off+i)++([v]++l.drop (off+i+[v].length))).drop ((l.take (off+i)).length+1+vs.length)=l.drop (off+i+(v::vs).length):=by
   rw[show(l.take (off+i)).length+1+vs.length=(l.take (off+i)).length+(1+vs.length)from by omega,Va];simp[Nat.add_comm 1];omega
  simp_all
theorem Qf5{place:Nat->Option (Nat×Nat)}{l:List Value}{i off size:Nat}{v:Value}{m:List Value}{rest:List (Nat×Value)}(b:place i=some (off,size))(a:v.cells=m.toArray)(e:m.length=size)
  (f:off+size<=l.length):Instr.fill place l.toArray ((i,v)::rest)=Instr.fill place (splice l off m).toArray rest:=by
 have d:v.cells.size=size:=by grind
 rw[Instr.fill];simp only[b];rw[Vs (by grind),a];congr 1
 simp_all[Qf3]
def Qay:Nat->List Operand->List (Nat×Operand)
 |_,[]=>[]
 |i,x::xs=>(i,x)::Qay (i+1) xs
def Q8(env:Env)(xs:List Operand):List (List A):=xs.map λx=>Q5 (opA env x)
theorem Qe2{fr ro:Nat->Prop}{σ:Sig}{N:Nat}{a:Act}{w:World}(r:Rel fr ro σ H env N a w){k:Nat}:∀(xs:List Operand) (j:Nat) (pre rest:List Value),pre.length=j*k->rest.length=xs.length*k->
  (xs.all λx=>Yg (opA env x))=true->allK k (Q8 env xs)->
  ∃l,Instr.fill (λi=>some (i*k,k)) (pre++rest).toArray ((Qay j xs).map λp=>(p.1,a.eval p.2))=some (pre++l).toArray/\LR ro σ w (Q8 env xs).flatten l
 |[],j,pre,rest,h1,h2,_,_=>by
  have:rest=[]:=(by simp_all);subst this;exact⟨[],rfl,rfl⟩
 |x::xs,j,pre,rest,h1,h2,h3,h4=>by
  simp only[List.all_cons,XW]at h3;obtain⟨hk1,hk2⟩:=h4;obtain⟨m,q1,q2⟩:=(Qi r x).cells h3.1;have hm:m.length=k:=by rw[q2.length];exact hk1
  simp only[X0,Xl]at h2;simp only[Qay,Vj];rw[Qf5 (off:=j*k) (size:=k) rfl q1 hm (by simp;omega)];have e:splice (pre++rest) (j*k) m=(pre++m)++rest.drop k:=by
   unfold splice
   grind[List.drop_length_add_append]
  rw[e];obtain⟨l,d,b⟩:=Qe2 r xs (j+1) (pre++m) (rest.drop k) (by grind) (by simp;omega) h3.2 hk2;refine⟨m++l,?_,?_⟩
  .rw[d];simp
  .show LR ro σ w ((Q5 (opA env x))++(Q8 env xs).flatten) (m++l);exact q2.append b
theorem QaH{fr ro:Nat->Prop}{σ:Sig}{N:Nat}{a:Act}{w:World}(r:Rel fr ro σ H env N a w){T e k n:Nat}{xs:List Operand}(E:Q6 P T e k)(q:xs.length=n)(u:Nat.ble (n*k) 16777216=true)
  (g:(xs.all λx=>Yg (opA env x))=true)(f:allK k (Q8 env xs)):
  ∃l,(Instr.buildSlice T n (((Qay 0 xs).map λp=>(p.1,a.eval p.2)).toArray)).run P w=.ok (.slice (some ⟨w.heap.size,0,none⟩) n n) (w.alloc (.cells l.toArray e))/\LR ro σ w (Q8 env xs).flatten l:=by
 obtain⟨z,m,s⟩:=E.zero;have j:n*k<=16777216:=by simp_all
 have t:∀(c:Array Value) (W:World),(newRow e c).run P W=.ok ⟨W.heap.size,0,none⟩ (W.alloc (.cells c e)):=λc W=>rfl;unfold Instr.buildSlice;by_cases h:n*k=0
 .obtain⟨l,b,d⟩:=Qe2 r (k:=k) xs 0 [] [] (by simp) (by grind) g f;refine⟨l,?_,d⟩;simp only[Vm,E.sl,Result.andThen,E.size,h]
  simp_all[Array.range]
 .obtain⟨l,b,d⟩:=Qe2 r (k:=k) xs 0 [] ((Array.range (n*k)).map (λi=>z.cells[i%z.cells.size]!)).toList (by simp) (by rw[q];simp) g f;refine⟨l,?_,d⟩;simp only[Vm,E.sl,Result.andThen,E.size,Vs h,XH,m,Vn];rw[Vs (by omega)];simp only[Vh]at b;rw[Array.toArray_toList]at b
  simp_all
theorem Qao{T n:Nat}{xs:List Operand}(a:o.op=.buildSlice T n (Qay 0 xs).toArray)(ρ:Operand->Value){v:Value}{w w':World}
  (h:(Instr.buildSlice T n (((Qay 0 xs).map λp=>(p.1,ρ p.2)).toArray)).run P w=.ok v w'):(execOp ρ o).run P w=.ok (.value v) w':=by
 grind[execOp,Sem.run_bind,Result.andThen,Sem.run_pure]
theorem OpH.lit{T e k n:Nat}{xs:List Operand}{es:List (List A)}(E:Q6 P T e k)(y:o.op=.buildSlice T n (Qay 0 xs).toArray)(m:xs.length=n)(i:Nat.ble (n*(k+1)) 16777216=true)
  (z:(xs.all λx=>Yg (opA env x))=true)(g:Q8 env xs=es)(d:allK k es)(t:es.flatten.all Ym=true)(s:Yy es.flatten=true):
  OpH P o env H (.osl H.length 0 n k) (H++[.row e k es]):=by
 intro B j σ N a w r;subst g;have f:=XR i;rw[Nat.mul_add]at f;obtain⟨l,u,h⟩:=QaH r E m (XS (by omega)) z d;have b:LR j [] w (Q8 env xs).flatten l:=h.data s;obtain⟨q,p⟩:=Qim (T:=e) (rest:=[]) r.sim d b (h.plain t);rw[Vg]at q p;have F:l.length=n*k:=by rw[h.length,Yc d];simp[Q8,m]
 refine⟨_,_,j,[some w.heap.size],Qao y a.eval u,.inr ⟨w.heap.size,0,n,e,l.length,?_,rfl,λ_=>by simp,(by omega),?_,by grind⟩,q,p⟩
 .rw[<- r.sim.len];simp
 .unfold World.shape?;rw[QY];simp
theorem Yz{T e k n:Nat}{xs:List Operand}{es:List (List A)}(E:Q6 P T e k)(s:o.op=.buildSlice T n (Qay 0 xs).toArray)(i:xs.length=n)(h:Nat.ble (n*(k+1)) 16777216=true)
  (u:(xs.all λx=>Yg (opA env x))=true)(f:Q8 env xs=es)(b:allK k es)(p:es.flatten.all Ym=true):
  OpH P o env H (.osl H.length 0 n k) (H++[.rowr e k es]):=by
 intro y m σ N a w r;subst f;have d:=XR h;rw[Nat.mul_add]at d;obtain⟨l,q,g⟩:=QaH r E i (XS (by omega)) u b;have j:=r.sim.allocRowr (t:=e) (rest:=[]) b g (g.plain p);rw[Vg]at j;have z:l.length=n*k:=by rw[g.length,Yc b];simp[Q8,i]
 refine⟨_,_,m,[some w.heap.size],Qao s a.eval q,.inr ⟨w.heap.size,0,n,e,l.length,?_,rfl,λ_=>by simp,(by omega),?_,by grind⟩,j,Qh.alloc _ r.sim.roLt r.sim.frLt⟩
 .rw[<- r.sim.len];simp
 .unfold World.shape?;rw[QY];simp
theorem Yl{n:Int}{y:Nat}{c:BoundsCode}{w:World}(b:0<=n)(a:n<=y):(Instr.sliceBound (.int .i64 n) y c).run P w=.ok n.toNat w:=by
 simp_all[Instr.sliceBound,asIntOf]
theorem Qjv{T e:Nat}{k:Nat}{w:World}(E1:∀w,(underlying T).run P w=.ok (.slice e) w)(E2:∀w,(sizeOf e).run P w=.ok k w){ad:Option Addr}{n cap:Nat}{lo hi:Option Value}{l h:Nat}(d:n<=cap)
  (b:lo=none/\l=0\/ ∃z:Int,lo=some (.int .i64 z)/\0<=z/\z.toNat=l)(a:hi=none/\h=n\/ ∃z:Int,hi=some (.int .i64 z)/\0<=z/\z.toNat=h)(f:l<=h)(i:h<=n):
  (Instr.sliceAt T (.slice ad n cap) lo hi none).run P w=.ok (.slice (if cap=l then ad else ad.map (·.add (l*k))) (h-l) (cap-l)) w:=by
 have j:(Instr.sliceBounds true n cap lo hi none).run P w=.ok (l,h,cap) w:=by
  rcases b with⟨rfl,rfl⟩|⟨z,rfl,g,rfl⟩<;>rcases a with⟨rfl,rfl⟩|⟨y,rfl,y0,rfl⟩
  .rfl
  .grind[Instr.sliceBounds,Sem.run_bind,Sem.run_pure,Result.andThen,Yl]
  .grind[Instr.sliceBounds,Sem.run_bind,Sem.run_pure,Result.andThen,Yl]
  .simp only[Instr.sliceBounds,Vm,Vn,Result.andThen,Yl y0 (show y<=(cap:Int)by omega),Yl g (show z<=(y.toNat:Int)by omega)]
 simp_all[Instr.sliceAt,Result.andThen,Instr.slice]
theorem QcB{fr ro:Nat->Prop}{σ:Sig}{N:Nat}{a:Act}{w:World}(r:Rel fr ro σ H env N a w){x:Option Operand}{l d:Nat}(h:x=none/\l=d\/ ∃y,∃z:Int,x=some y/\opA env y=.int .i64 z/\0<=z/\z.toNat=l):
  x.map a.eval=none/\l=d\/ ∃z:Int,x.map a.eval=some (.int .i64 z)/\0<=z/\z.toNat=l:=by
 rcases h with⟨rfl,rfl⟩|⟨y,z,rfl,b,f,e⟩
 .simp
 grind[Qx]
theorem Qfw{T e k i s n:Nat}{x:Operand}{lo hi:Option Operand}{l h:Nat}(E1:∀w,(underlying T).run P w=.ok (.slice e) w)(E2:∀w,(sizeOf e).run P w=.ok k w)(E:o.op=.slice T x lo hi none)
  (O:opA env x=.osl i s n k)(g:lo=none/\l=0\/ ∃y,∃z:Int,lo=some y/\opA env y=.int .i64 z/\0<=z/\z.toNat=l)
  (j:hi=none/\h=n\/ ∃y,∃z:Int,hi=some y/\opA env y=.int .i64 z/\0<=z/\z.toNat=h)(t:l<=h)(B:h<=n):OpV P o env H (.osl i (s+l) (h-l) k):=by
 intro V R σ N a w r;have f:=Qi r x;rw[O]at f;rcases f with⟨rfl,f⟩|⟨b,p,u,G,m,f,L,W,⟨M,Q⟩,F,X⟩
 .have d:=Qjv (P:=P) (w:=w) E1 E2 (ad:=none) (XT 0) (QcB r g) (QcB r j) t B;refine⟨_,by simp only[execOp,E,f,Vm,d,Result.andThen,Vn,Xk];rfl,?_⟩;left
  grind
 .have d:=Qjv (P:=P) (w:=w) E1 E2 (ad:=some ⟨b,p,none⟩) M (QcB r g) (QcB r j) t B;refine⟨_,by simp only[execOp,E,L,Vm,d,Result.andThen,Vn,Xk];rfl,?_⟩;right;by_cases J:u=l
  .refine⟨b,p,0,G,m,f,by grind,λq=>by omega,by omega,F,?_⟩
   grind
  .refine⟨b,p+l*k,u-l,G,m,f,by rw[Vs J];simp[YV],λq=>by grind,by omega,F,?_⟩
   grind
theorem OpV.max{c:Call}{x y:Operand}{k:IntKind}{m n:Int}(g:o.op=.call c)(e:c={callee:=.builtin .max,args:= #[x,y],argTypes:=c.argTypes})(i:opA env x=.int k m)(h:opA env y=.int k n):
  OpV P o env H (.int k (if m<n then n else m)):=by
 intro p l σ N a w r;have f:=Qx r i;have j:=Qx r h;refine⟨_,?_,rfl⟩;generalize a.eval=ρ at*;have d:c.callee=.builtin .max:=by rw[e]
 have b:c.args= #[x,y]:=by rw[e]
 simp only[execOp,g,resolve,d,b,invoke,Go.builtin,Vm,Vn,Result.andThen];simp[Builtin.max_,Builtin.max2,f,j,go_sem]
theorem OpV.min{c:Call}{x y:Operand}{k:IntKind}{m n:Int}(g:o.op=.call c)(e:c={callee:=.builtin .min,args:= #[x,y],argTypes:=c.argTypes})(i:opA env x=.int k m)(h:opA env y=.int k n):
  OpV P o env H (.int k (if n<m then n else m)):=by
 intro p l σ N a w r;have f:=Qx r i;have j:=Qx r h;refine⟨_,?_,rfl⟩;generalize a.eval=ρ at*;have d:c.callee=.builtin .min:=by rw[e]
 have b:c.args= #[x,y]:=by rw[e]
 simp only[execOp,g,resolve,d,b,invoke,Go.builtin,Vm,Vn,Result.andThen];simp[Builtin.min_,Builtin.min2,f,j,go_sem]
end
section
variable {P:Program} {h0 N:Nat} {env:Env} {H:Qd} {Q:QA} {c c':Code}
def CutP(h0:Nat)(Eb:Env)(Hb:Qd)(Q:QA):QA
 |.normal,env,H=>Le h0 env H Eb Hb
 |.exit id,env,H=>Q (.exit id) env H
 |.ret,env,H=>Q .ret env H
theorem TC.cut(Eb:Env)(Hb:Qd)(h:TC P h0 N c env H (CutP h0 Eb Hb Q))(k:∀env H,Le h0 env H Eb Hb->Q .normal env H):TC P h0 N c env H Q:=
 h.mono λx env' H' q=>by
  cases x with
  |normal=>exact k _ _ q
  |exit id=>exact q
  |ret=>exact q
theorem Qlq(h:TC P h0 N c env H Q):Seq P h0 N c Q .normal env H:=h
theorem seqX{id:Nat}(h:Q (.exit id) env H):Seq P h0 N c Q (.exit id) env H:=h
theorem seqR(h:Q .ret env H):Seq P h0 N c Q .ret env H:=h
theorem bloN{id:Nat}(h:Q .normal env H):Blo id Q .normal env H:=h
theorem bloE{id:Nat}(h:Q .normal env H):Blo id Q (.exit id) env H:=by simp_all[Blo]
theorem bloX{id a:Nat}(e:Nat.beq a id=false)(h:Q (.exit a) env H):Blo id Q (.exit a) env H:=by simp only[Blo,e,Vq];exact h
theorem bloR{id:Nat}(h:Q .ret env H):Blo id Q .ret env H:=h
def Qgv{S B:Type}(h0:Nat)(b:Ctl S B)(Eb:S->Env)(Hb:S->Qd)(Q:QA):QA
 |.normal,env,H=>∃s,b=.cont s/\Le h0 env H (Eb s) (Hb s)
 |.exit id,env,H=>Q (.exit id) env H
 |.ret,env,H=>Q .ret env H
theorem Qg9{S B:Type}{b:Ctl S B}(Eb:S->Env)(Hb:S->Qd)(h:TC P h0 N c env H (Qgv h0 b Eb Hb Q))(k:∀s env H,b=.cont s->Le h0 env H (Eb s) (Hb s)->Q .normal env H):TC P h0 N c env H Q:=
 h.mono λx env' H' q=>by
  cases x with
  |normal=>obtain⟨s,e,q⟩:=q;grind
  |exit id=>exact q
  |ret=>exact q
section
variable {S B:Type} {b:Ctl S B} {Eb:S->Env} {Hb:S->Qd}
theorem QD{s:S}(e:b=.cont s)(h:Le h0 env H (Eb s) (Hb s)):Qgv h0 b Eb Hb Q .normal env H:=⟨s,e,h⟩
theorem QR(h:Q .ret env H):Qgv h0 b Eb Hb Q .ret env H:=h
end
theorem QmQ{x:Operand}{t:Bool}(hx:opA env x=.bool t)(h:t=true)(ht:TC P h0 N c env H Q):TC P h0 N (.cond x c c') env H Q:=TC.cond hx (λ_=>ht) (λq=>by grind)
theorem QmR{x:Operand}{t:Bool}(hx:opA env x=.bool t)(h:t=false)(hf:TC P h0 N c' env H Q):TC P h0 N (.cond x c c') env H Q:=TC.cond hx (λq=>by grind) (λ_=>hf)
section
variable {S B:Type} {I:S->Env->Qd->Prop}
theorem Qv{s:S}{d:Ctl S B}(e:some (Ctl.cont s)=some d)(h:I s env H):Qbf I d Q .normal env H:=⟨s,(by grind),h⟩
theorem Qz{id:Nat}{b:B}{d:Ctl S B}(e:some (Ctl.done b)=some d)(h:Q (.exit id) env H):Qbf I d Q (.exit id) env H:=⟨(by grind),h⟩
theorem Q4{b:B}{d:Ctl S B}(e:some (Ctl.done b)=some d)(h:Q .ret env H):Qbf I d Q .ret env H:=⟨(by grind),h⟩
end
end
theorem YN{α β:Type}{x:Option α}{f:α->Option β}{r:β}(h:x.bind f=some r):∃a,x=some a/\f a=some r:=Option.bind_eq_some_iff.1 h
def idx{α:Type}(l:List α)(i:Int):Option α:=bif decide (0<=i)then l[i.toNat]? else none
theorem Qa0{α:Type}{l:List α}{i:Int}{x:α}(h:idx l i=some x):0<=i/\l[i.toNat]?=some x:=by
 grind[idx]
def app{α:Type}(l m:List α):Option (List α):=bif Nat.ble (l.length+m.length) Q9 then some (l++m)else none
theorem Qi8{α:Type}{l m r:List α}(h:app l m=some r):l.length+m.length<=Q9/\l++m=r:=by
 unfold app at h;cases q:Nat.ble (l.length+m.length) Q9 with
 |true=>simp_all
 |false=>grind
def slc{α:Type}(l:List α)(lo hi:Int):Option (List α):=bif decide (0<=lo)&&decide (lo<=hi)&&decide (hi<=(l.length:Int))then some ((l.take hi.toNat).drop lo.toNat)else none
theorem Qc9{α:Type}{l r:List α}{lo hi:Int}(h:slc l lo hi=some r):0<=lo/\lo<=hi/\hi<=l.length/\(l.take hi.toNat).drop lo.toNat=r:=by
 grind[slc]
def QaX{α:Type}(l:List α)(i:Int)(x:α):Option (List α):=bif decide (0<=i)&&decide (i<(l.length:Int))then some (l.set i.toNat x)else none
theorem QgN{α:Type}{e:α->List A}{l:List α}{i:Nat}{x:α}(h:l[i]?=some x):(l.map e)[i]?=some (e x):=by simp[h]
section
variable {P:Program} {h0 N:Nat} {env:Env} {H H':Qd} {Q:QA} {all:Array Oper} {o:Oper} {l:List Oper} {d:Nat} {x:A}
theorem vV(a:OpV P o env H x)(k:WO P h0 N all l (up env d x) H Q)(hg:Qt all o env true:=by exact rfl)(hd:o.dst=some d:=by exact rfl)(hN:Nat.blt d N=true:=by exact rfl):WO P h0 N all (o::l) env H Q:=
 Ys hg hd hN a k
theorem vH(a:OpH P o env H x H')(k:WO P h0 N all l (up env d x) H' Q)(hg:Qt all o env true:=by exact rfl)(hd:o.dst=some d:=by exact rfl)(hN:Nat.blt d N=true:=by exact rfl)(hh:Nat.ble h0 H.length=true:=by exact rfl):WO P h0 N all (o::l) env H Q:=
 Qg8 (by simp_all) hg hd hN a k
theorem vN(a:OpH P o env H x H')(k:WO P h0 N all l env H' Q)(hg:Qt all o env true:=by exact rfl)(hd:o.dst=none:=by exact rfl)(hh:Nat.ble h0 H.length=true:=by exact rfl):WO P h0 N all (o::l) env H Q:=
 Qpn (by simp_all) hg hd a k
theorem vU(a:OpU P o env H H')(k:WO P h0 N all l env H' Q)(hg:Qt all o env true:=by exact rfl)(hd:o.dst=none:=by exact rfl)(hh:Nat.ble h0 H.length=true:=by exact rfl):WO P h0 N all (o::l) env H Q:=
 QmG (by simp_all) hg hd a k
theorem gT{j s:Nat}{c x:Bool}(a:x=c)(hg:o.guard=some (j,c):=by exact rfl)(hs:(all[j]?).bind (·.dst)=some s:=by exact rfl)(hl:lk env s=.bool x:=by exact rfl):Qt all o env true:=by
 simp_all[Qt]
theorem gF{j s:Nat}{c x:Bool}(a:x= !c)(hg:o.guard=some (j,c):=by exact rfl)(hs:(all[j]?).bind (·.dst)=some s:=by exact rfl)(hl:lk env s=.bool x:=by exact rfl):Qt all o env false:=by
 simp_all[Qt]
theorem Qpo{x x':A}(b:x'=x)(a:H'=H)(k:WO P h0 N all l (up env d x) H Q):WO P h0 N all l (up env d x') H' Q:=by grind
theorem Qdu(a:H'=H)(k:WO P h0 N all l env H Q):WO P h0 N all l env H' Q:=by grind
theorem Qs{f:FuncId}{args a:List A}{Hc:Qd}{Qr:A->Qd->Prop}(π:List Nat)(b:OpC P o env H f args)(e:C P f a Hc Qr)
  (k:∀r H1,Qr r H1->WO P h0 N all l (up env d (Yr (rho π H.length) r)) (Yf H π (H1.map (QQ (rho π H.length)))) Q)
  (hargs:args=Qaa (rho π H.length) a:=by exact rfl)(hH:π.map (λp=>H[p]?)=(Hc.map (QQ (rho π H.length))).map some:=by exact rfl)(hπ:π.Nodup:=by decide)
  (hg:Qt all o env true:=by exact rfl)(hd:o.dst=some d:=by exact rfl)(hN:Nat.blt d N=true:=by exact rfl)(hh:Nat.ble h0 H.length=true:=by exact rfl):WO P h0 N all (o::l) env H Q:=
 WO.call (d:=some d) π (by simp_all) hg hd (λx g=>by simp_all) b hargs hH hπ e k
end
section
variable {P:Program} {o:Oper} {env:Env} {H:Qd} {α:Type} {e:α->List A}
theorem QmW{c:Call}{t d k:Nat}{x:Operand}{l:List α}(a:∀w,(underlying t).run P w=.ok (.slice d) w)(b:o.op=.call c:=by exact rfl)(hc:c={callee:=.builtin .len,args:= #[x],argTypes:= #[t]}:=by exact rfl)
  (hx:opA env x=.rsl k (l.map e):=by exact rfl):OpV P o env H (.int .i64 l.length):=by
 have:=QmV (H:=H) b hc a hx
 grind
theorem Qb0{t a k:Nat}{x y:Operand}{l:List α}{f:IntKind}{i:Int}{v:α}(h:idx l i=some v)(b:∀w,(underlying t).run P w=.ok (.slice a) w)(d:∀w,(sizeOf a).run P w=.ok k w)
  (g:o.op=.indexAddr t x y:=by exact rfl)(hx:opA env x=.rsl k (l.map e):=by exact rfl)(hy:opA env y=.int f i:=by exact rfl):OpV P o env H (.rp (e v)):=
 QnZ g b d hx hy (Qa0 h).1 (QgN (Qa0 h).2)
theorem QZ{t a k b n:Nat}{x y:Operand}{l:List α}{f:IntKind}{i:Int}{v:α}(h:idx l i=some v)(m:l.length=n)(d:∀w,(underlying t).run P w=.ok (.slice a) w)(e:∀w,(sizeOf a).run P w=.ok k w)
  (g:o.op=.indexAddr t x y:=by exact rfl)(hx:opA env x=.osl b 0 n k:=by exact rfl)(hy:opA env y=.int f i:=by exact rfl):OpV P o env H (.ptr b (i.toNat*k)):=by
 have:=Qa0 h;have j:i.toNat<l.length:=(by grind);have p:=Qhd (H:=H) g d e hx hy this.1 (by omega)
 grind
theorem Qq{b t k:Nat}{l:List α}{i:Int}{v:α}{cs':List A}(h:idx l i=some v)(a:H[b]?=some (.row t k (l.map e)):=by exact rfl)(hcs:e v=cs':=by exact rfl):Pts H (.ptr b (i.toNat*k)) cs':=
 Pts.row (f:=0) a rfl (QgN (Qa0 h).2) hcs
theorem Qil{c:Call}{T T' et et' k:Nat}{x y:Operand}{a:A}{m r:List α}(h:app [] m=some r)(E:Q6 P T et k)(f:∀w,(underlying T').run P w=.ok (.slice et') w)(b:Src P H a k (m.map e))
  (d:o.op=.call c:=by exact rfl)(hc:c={callee:=.builtin .append,args:= #[x,y],argTypes:= #[T,T']}:=by exact rfl)(hx:opA env x=.nils:=by exact rfl)(hy:opA env y=a:=by exact rfl):
  OpH P o env H (.osl H.length 0 r.length k) (H++[.row et k (r.map e)]):=by
 obtain⟨g,rfl⟩:=Qi8 h;have:=QfO E f d hc hx hy b (by grind)
 grind
theorem Yp{c:Call}{T T' et et' k i n:Nat}{x y:Operand}{a:A}{l m r:List α}(h:app l m=some r)(E:Q6 P T et k)(f:∀w,(underlying T').run P w=.ok (.slice et') w)(b:Src P H a k (m.map e))
  (d:l.length=n:=by exact rfl)(ho:o.op=.call c:=by exact rfl)(hc:c={callee:=.builtin .append,args:= #[x,y],argTypes:= #[T,T']}:=by exact rfl)(hx:opA env x=.osl i 0 n k:=by exact rfl)
  (hH:H[i]?=some (.row et k (l.map e)):=by exact rfl)(hy:opA env y=a:=by exact rfl):
  OpH P o env H (.osl H.length 0 r.length k) (H.set i .dead++[.row et k (r.map e)]):=by
 obtain⟨g,rfl⟩:=Qi8 h;subst d;have:=Qik E f ho hc hx hH (by simp) hy b (by grind) (gs:=(l++m).map e) (by rw[VI (by simp)];simp)
 grind
theorem Qcr{k:Nat}{l:List α}:Src P H (.rsl k (l.map e)) k (l.map e):=Src.rsl
theorem Qa2{i n k t:Nat}{l:List α}(a:H[i]?=some (.row t k (l.map e)):=by exact rfl)(hn:l.length=n:=by exact rfl):Src P H (.osl i 0 n k) k (l.map e):=
 Src.osl a (by grind[List.take_of_length_le]) (by simp[hn])
theorem YP{t n b T k f:Nat}{x y:Operand}{l l':List α}{i:Int}{v j:α}{vs:List A}{a:A}{off:Nat}(h:idx l i=some v)(q:QaX l i j=some l')(m:∀w,(sizeOf t).run P w=.ok n w)(d:off=i.toNat*k+f)(g:splice (e v) f vs=e j)
  (p:o.op=.store t x y:=by exact rfl)(hx:opA env x=.ptr b off:=by exact rfl)(hH:H[b]?=some (.row T k (l.map e)):=by exact rfl)
  (hy:opA env y=a:=by exact rfl)(hk:Yg a=true:=by exact rfl)(hv:Q5 a=vs:=by exact rfl)(hn:vs.length=n:=by exact rfl)(hp:vs.all Ym=true:=by exact rfl)(hd:Yy vs=true:=by exact rfl)(hf:Nat.ble (f+n) k=true:=by exact rfl):
  OpU P o env H (H.set b (.row T k (l'.map e))):=by
 refine Qhe p hx hH m d (QgN (Qa0 h).2) hy hk hv hn hp hd hf g ?_
 grind[QaX,List.map_set]
end
def ZR(a:A)(v:Value):Prop:=∀ro σ w,VR ro σ w a v
def ZL(az:List A)(l:List Value):Prop:=∀ro σ w,LR ro σ w az l
theorem ZR.int{k:IntKind}{n:Int}:ZR (.int k n) (.int k n):=λ_ _ _=>rfl
theorem ZR.bool{b:Bool}:ZR (.bool b) (.bool b):=λ_ _ _=>rfl
theorem ZR.str:ZR (.str []) (.string ⟨#[]⟩):=λ_ _ _=>rfl
theorem ZR.rsl{α:Type}{k:Nat}{e:α->List A}:ZR (.rsl k (List.map e [])) (.slice none 0 0):=λ_ _ _=>⟨none,0,rfl,XT _,.inl rfl⟩
theorem ZR.nils:ZR .nils (.slice none 0 0):=λ_ _ _=>rfl
theorem ZR.nilp:ZR .nilp (.pointer none):=λ_ _ _=>rfl
theorem ZR.nilf:ZR .nilf .nilFunc:=λ_ _ _=>rfl
theorem ZR.nilm:ZR .nilm (.map none):=λ_ _ _=>rfl
theorem QnU:ZR .nilif .nilIface:=λ_ _ _=>rfl
theorem ZL.nil:ZL [] []:=λ_ _ _=>rfl
theorem ZL.cons{a:A}{v:Value}{az:List A}{l:List Value}(h:ZR a v)(k:ZL az l):ZL (a::az) (v::l):=λro σ w=>⟨v,l,rfl,h ro σ w,k ro σ w⟩
theorem ZR.agg{az:List A}{l:List Value}(h:ZL az l):ZR (.agg az) (.agg l.toArray):=λro σ w=>⟨l,rfl,h ro σ w⟩
section
variable {P:Program} {o:Oper} {env:Env} {H:Qd}
theorem Qfz{t:Nat}{z:Value}{v:A}{cs:List A}(h:∀w,(zeroValue t).run P w=.ok z w)(f:ZR v z)(i:o.op=.alloc t:=by exact rfl)(hk:Yg v=true:=by exact rfl)(hcs:Q5 v=cs:=by exact rfl)(hpl:cs.all Ym=true:=by exact rfl):
  OpH P o env H (.ptr H.length 0) (H++[.cells t cs]):=by
 intro j d σ N a w r;obtain⟨l,g,b⟩:=(f d σ w).cells hk;subst hcs;refine⟨.pointer (some ⟨w.heap.size,0,none⟩),w.alloc (.cells l.toArray t),d,[some w.heap.size],?_,⟨w.heap.size,?_,rfl⟩,r.sim.allocCells b (b.plain hpl),Qh.alloc _ r.sim.roLt r.sim.frLt⟩
 .generalize a.eval=ρ at*;have e:(newVar t z).run P w=.ok ⟨w.heap.size,0,none⟩ (w.alloc (.cells l.toArray t)):=by
   unfold newVar;rw[g];rfl
  simp_all[execOp,Instr.alloc]
 .rw[<- r.sim.len];simp
theorem Qi1{t:TypeId}{p q:Bool}{w:World}(a:∀w,(underlying t).run P w=.ok .bool w):(Op.equal t (.bool p) (.bool q)).run P w=.ok (p==q) w:=by
 have k:∀d,(Op.equalIn (d+1) t (.bool p) (.bool q)).run P w=.ok (p==q) w:=by
  intro d;simp[Op.equalIn,a,go_sem]
 exact k 9999
theorem Qfx{t u:TypeId}{x y:Operand}{p q:Bool}(d:∀w,(underlying t).run P w=.ok .bool w)(e:o.op=.binOp .neq t x y u:=by exact rfl)(hx:opA env x=.bool p:=by exact rfl)(hy:opA env y=.bool q:=by exact rfl):OpV P o env H (.bool (p != q)):=by
 intro g f σ N a w r;have b:=QcC r hx;have h:=QcC r hy;refine⟨_,?_,rfl⟩
 simp_all[execOp,Go.binOp,eqGuard,Qi1,bne]
theorem QaM{t:TypeId}{x y:Operand}{s:List UInt8}{k:IntKind}{i:Int}{c:UInt8}(h:idx s i=some c)(a:∀w,(underlying t).run P w=.ok .string w)(b:o.op=.index t x y:=by exact rfl)(hx:opA env x=.str s:=by exact rfl)(hy:opA env y=.int k i:=by exact rfl):
  OpV P o env H (.int .u8 c.toNat):=QkU b a hx hy (Qa0 h).1 (Qa0 h).2
theorem QkV{c:Call}{t d i n k:Nat}{x:Operand}(a:∀w,(underlying t).run P w=.ok (.slice d) w)(b:o.op=.call c:=by exact rfl)(hc:c={callee:=.builtin .len,args:= #[x],argTypes:= #[t]}:=by exact rfl)
  (hx:opA env x=.osl i 0 n k:=by exact rfl):OpV P o env H (.int .i64 n):=Qij b hc a hx
end
def Qe(k:IntKind)(n:Int):List A:=[.int k n]
def Qa1(b:Bool):List A:=[.bool b]
def encS(s:List UInt8):List A:=[.str s]
def Qn{α:Type}(k:Nat)(e:α->List A)(l:List α):List A:=[.rsl k (l.map e)]
theorem Qhp{P:Program}{rd:Option Nat}{o:Oper}{a:Act}{next:Act->World->Prop}{Q:Exit->Act->World->Prop}{b:Result Next}
  (j:∀a' w',next a' w'->a'.defers=a.defers)(h:o.uponIn (WF rd) 0 P a next Q b):
  o.uponIn (WF rd) 0 P a (λa' w'=>next a' w'/\ ∃v,a'=a.put o.dst v) Q b:=by
 cases b with
 |ok n w'=>
  cases n with
  |value v=>exact⟨h,_,rfl⟩
  |skip=>exact⟨h,_,rfl⟩
  |defer d=>
   have:=congrArg List.length (j _ _ h);exfalso
   revert this
   cases o.dst<;>simp[Act.put]
  |enter f e=>
   exact⟨h.1,CallsIn.mono h.2 (by grind)⟩
  |row r e=>exact⟨h.1,RowsIn.mono h.2 (by grind)⟩
  |round l f g assign i=>exact⟨h.1,RoundIn.mono h.2 (by grind)⟩
  |_=>exact h.elim
 |halt x w'=>cases x<;>first|exact h|exact h.elim
def YT(e:Env)(H:Qd):QA:=λx e' H'=>x=.normal/\e'=e/\H'=H
theorem YT.mk{e:Env}{H:Qd}:YT e H .normal e H:=⟨rfl,rfl,rfl⟩
inductive Sb (af bf ds:List Nat) (xs:List A) (env0:Env):Env->Prop
 |nil:Sb af bf ds xs env0 []
 |dep (j:Nat) {s:Nat} {a:A} {r:Env} (h1:af.contains j=true) (h2:ds[j]?=some s) (h3:xs[j]?=some a) (k:Sb af bf ds xs env0 r):Sb af bf ds xs env0 ((s,a)::r)
 |old {s:Nat} {a:A} {r:Env} (h1:ds.contains s=false) (h2:lk env0 s=a) (k:Sb af bf ds xs env0 r):Sb af bf ds xs env0 ((s,a)::r)
 |pre (j:Nat) {s:Nat} {a:A} {r:Env} (h1:bf.contains j=true) (h2:ds[j]?=some s) (h3:lk env0 s=a) (k:Sb af bf ds xs env0 r):Sb af bf ds xs env0 ((s,a)::r)
def Qg(o:Oper):List Nat:=(o.after.toList.filter (Region.binds .any)).map (·.on)
def Qg5(l:List Oper)(i:Nat):List Nat:=(List.range l.length).filter λj=>((l[j]?).map Qg).getD [] |>.contains i
inductive Qd2 (P:Program) (N:Nat) (l:List Oper) (ds:List Nat) (xs:List A) (env0:Env) (i:Nat) (H H':Qd):Prop
 |mk (o:Oper) (e:Env) (d:Nat) (x:A) (ho:l[i]?=some o) (hd:o.dst=some d) (hx:xs[i]?=some x) (hs:Sb (Qg o) (Qg5 l i) ds xs env0 e)
   (h:WO P H.length N l.toArray [o] e H (YT (up e d x) H')):Qd2 P N l ds xs env0 i H H'
theorem Qd2.use{P:Program}{N:Nat}{l:List Oper}{G:List Nat}{xs:List A}{env0:Env}{i:Nat}{H H':Qd}(t:Qd2 P N l G xs env0 i H H')
  {Q:Exit->Act->World->Prop}{K:Act->World->Prop}{fr ro:Nat->Prop}{σ:Sig}{a:Act}{w:World}{o:Oper}{rd:Option Nat}(X:l[i]?=some o)
  (m:Sim fr ro σ H w)(hN:a.tmps.size=N)(y:Qcf fr a.defers w)(T:Qdy rd fr w)
  (hD:∀j∈Qg o,∀s x,G[j]?=some s->xs[j]?=some x->VR ro σ w x (a.tmps.getD s undef))
  (hE:∀s,G.contains s=false->VR ro σ w (lk env0 s) (a.tmps.getD s undef))(hP:∀j s,(Qg5 l i).contains j=true->G[j]?=some s->VR ro σ w (lk env0 s) (a.tmps.getD s undef))
  (hK:∀v w' ro' τ d x,o.dst=some d->xs[i]?=some x->VR ro' (σ++τ) w' x ((a.put o.dst v).tmps.getD d undef)->Sim fr ro' (σ++τ) H' w'->Qh fr ro w ro' w'->K (a.put o.dst v) w'):
  wpOpIn (WF rd) 0 P l.toArray Q i K a w:=by
 obtain⟨u,e,d,x,M,hd,hx,hs,h⟩:=t;obtain rfl:u=o:=XZ (M.symm.trans X);have E:Rel fr ro σ H e N a w:=by
  refine⟨m,?_,hN,y⟩;intro s;clear h
  induction hs with
  |nil=>exact trivial
  | @dep j s1 p r g b h3 _ ih=>
   unfold lk;cases t:Nat.beq s s1 with
   |false=>exact ih
   |true=>
    obtain rfl:=XQ t
    grind
  | @old s1 p r g b _ ih=>
   unfold lk;cases t:Nat.beq s s1 with
   |false=>exact ih
   |true=>
    obtain rfl:=XQ t
    grind
  | @pre j s1 p r g b h3 _ ih=>
   unfold lk;cases t:Nat.beq s s1 with
   |false=>exact ih
   |true=>
    obtain rfl:=XQ t
    grind
 have B:=h rd fr ro σ a w E T;have fin:∀v w',Qbv H.length fr ro σ w N a.defers (YT (up e d x) H') .normal (a.put u.dst v) w'->K (a.put u.dst v) w':=by
  rintro v w' ⟨_,W,H2,ro',σ',aa,_,⟨_,rfl,rfl⟩,Y,k,ht,_,O⟩;have hσ:σ'=σ++σ'.drop H.length:=by
   conv=>lhs;rw[<- Xz H.length σ']
   rw[ht, <- m.len,X9]
  have F:=Y.env d;unfold lk at F;rw[VF]at F;rw[hσ]at F;refine hK v w' ro' (σ'.drop H.length) d x hd hx F ?_ k;rw[<- hσ];exact Y.sim.frMono O.sub
 unfold wpOpIn;have J:l.toArray[i]?=some u:=by simpa using X
 rw[J];simp only;unfold wpL wpListIn at B;split at B
 .rename_i hw;rw[Vt hw];obtain⟨L,B⟩:=B;refine⟨L,?_⟩;have b:=Qhp (by
   intro a' w' q;unfold wpListIn at q;obtain⟨_,_,_,_,_,_,_,_,_,_,_,q,_⟩:=q;exact q) B
  generalize(u.semAt (WF rd).round a.eval).run P w=res at*;cases res with
  |ok n w'=>
   cases n with
   |value v=>exact fin _ _ b.1
   |skip=>exact fin _ _ b.1
   |defer df=>
    exfalso;obtain⟨⟨_,_,_,_,_,_,_,_,_,_,_,q,_⟩,_⟩:=b;have:=congrArg List.length q
    revert this
    cases u.dst<;>simp[Act.put]
   |enter f z=>
    refine⟨b.1,CallsIn.mono b.2 (λe R k=>?_)⟩;cases e with
    |returned v=>exact fin _ _ k.1
    |panicked c=>obtain⟨p,_,_,_,_,_,g,⟨rfl,_⟩,_⟩:=k;exact g.elim
    |outgrown=>obtain⟨a1,w1,p,_,_,_,_,_,g,⟨rfl,_⟩,_⟩:=k;exact g.elim
   |row r z=>
    exact⟨b.1,RowsIn.mono b.2 (λ_ _ k=>fin _ _ k.1)⟩
   |round l f tmps assign V=>
    refine⟨b.1,RoundIn.mono b.2 (λe R k=>?_)⟩;cases e with
    |returned v=>exact fin _ _ k.1
    |panicked c=>obtain⟨p,_,_,_,_,_,g,⟨rfl,_⟩,_⟩:=k;exact g.elim
    |outgrown=>obtain⟨a1,w1,p,_,_,_,_,_,g,⟨rfl,_⟩,_⟩:=k;exact g.elim
   |_=>exact b.elim
  |halt x w'=>
   cases x with
   |panic v=>obtain⟨p,_,_,_,_,_,g,⟨rfl,_⟩,_⟩:=b;exact g.elim
   |_=>exact b.elim
 simp_all[wpListIn]
theorem least{p:Nat->Prop}(a:∀i,p i\/ ¬p i):∀n,p n->∃i,i<=n/\p i/\ ∀j,j<i->¬p j:=by
 intro n
 induction n using Nat.strongRecOn with
 |ind n b=>
  grind
def onL(L:Array Bool)(i:Nat):Prop:=L[i]?=some true
theorem QaE{l:List Oper}{L:Array Bool}(k:L.size=l.length){i:Nat}:
  i∈Region.ready .any l.toArray L↔ ∃o,l[i]?=some o/\ ¬onL L i/\ ∀j∈Qg o,onL L j:=by
 unfold Region.ready;simp only[Xd,List.mem_range,List.size_toArray,XW,Bool.not_eq_true',XG];have d:∀j,L.getD j false=true↔onL L j:=by
  intro j;unfold onL;rw[Array.getD_eq_getD_getElem?]
  grind
 constructor
 .rintro⟨b,h,a⟩;refine⟨l[i],(by simp),?_,?_⟩
  .grind
  .rw[XK b]at a;simp only[Xj,Option.getD_some,Array.all_eq_true']at a;intro j f;unfold Qg at f
   grind
 .rintro⟨o,b,h,a⟩;have g:i<l.length:=(by grind);refine⟨g,?_,?_⟩
  .grind
  .rw[b];simp only[Xj,Option.getD_some,Array.all_eq_true'];intro e m;cases n:Region.binds .any e with
   |false=>simp
   |true=>
    have:=(d _).2 (a e.on (by unfold Qg;grind))
    grind
theorem Jg{L:Array Bool}{i j:Nat}(hi:i<L.size):onL (L.setIfInBounds i true) j↔j=i\/onL L j:=by
 grind[onL]
def unl(L:Array Bool):Nat:=L.toList.countP (!·)
theorem QgB{L:Array Bool}{i:Nat}(hi:i<L.size)(h:¬onL L i):unl (L.setIfInBounds i true)+1=unl L:=by
 unfold unl;have a:i<L.toList.length:=by omega
 have b:L.toList[i]=false:=by
  grind[onL]
 grind
theorem Qjq{L:Array Bool}{i:Nat}(hi:i<L.size)(h:¬onL L i):0<unl L:=by have:=QgB hi h;omega
inductive Qce (l:List Oper) (m:Nat):Nat->Prop
 |one {o:Oper} {j:Nat} (ho:l[m]?=some o) (hj:j∈Qg o):Qce l m j
 |step {o:Oper} {i j:Nat} (h:Qce l m i) (ho:l[i]?=some o) (hj:j∈Qg o):Qce l m j
def QeL(l:List Oper):Nat->List Nat->List Nat
 |0,S=>S
 |j+1,S=>QeL l j (bif S.contains j then S++(match l[j]? with|some o=>Qg o|none=>[])else S)
theorem QbT{l:List Oper}{m:Nat}:∀(n:Nat) (S:List Nat),(∀j∈S,Qce l m j)->∀j∈QeL l n S,Qce l m j
 |0,S,h,j,hj=>h j hj
 |n+1,S,h,j,hj=>by
  refine QbT n _ ?_ j hj;intro i hi;cases q:S.contains n with
  |false=>grind
  |true=>
   rw[q]at hi;rcases VD.1 hi with z|z
   .exact h i z
   .cases ho:l[n]? with
    |none=>grind
    |some o=>rw[ho]at z;exact .step (by grind) ho z
def Qar(ds:List Nat)(xs:List A)(env0:Env):Env:=ds.zip xs++env0
theorem Qnw{a:List Nat}{xs:List A}{env0:Env}(b:a.length=xs.length)(s:Nat):
  (∃(j:Nat) (x:A),a[j]?=some s/\xs[j]?=some x/\lk (Qar a xs env0) s=x)\/(a.contains s=false/\lk (Qar a xs env0) s=lk env0 s):=by
 unfold Qar
 induction a generalizing xs with
 |nil=>right;simp
 |cons d a f=>
  cases xs with
  |nil=>simp at b
  |cons x xs=>
   simp only[X0,Nat.add_right_cancel_iff]at b;simp only[List.zip_cons_cons,VK,lk];cases h:Nat.beq s d with
   |true=>
    obtain rfl:=XQ h;left;exact⟨0,x,rfl,rfl,by simp⟩
   |false=>
    have g:s≠d:=λq=>by simp_all
    rcases f b with⟨j,y,e,i,k⟩|⟨e,i⟩
    .left;exact⟨j+1,y,by grind,by grind,by grind⟩
    grind
def drawChk.nodupB:List Nat->Bool
 |[]=>true
 |x::r=> !r.contains x&&drawChk.nodupB r
def drawChk.goB(l:List Oper)(m:Nat):Nat->List Oper->Bool
 |_,[]=>true
 |i,o::r=>(Qg o).all (λj=>Nat.blt j i)&&(bif Nat.beq i m then(List.range m).all (λj=>(QeL l m (Qg o)).contains j)else bif Nat.blt m i then(Qg o).contains (i-1)else true)&&drawChk.goB l m (i+1) r
def drawChk.loB(m k:Nat)(los:List Nat)(hs:List Bool):Nat->List Oper->Bool
 |_,[]=>(List.range k).all λj=>(List.range m).any λi=>hs.getD i false&&Nat.beq (los.getD i 0) j
 |i,o::r=>(bif Nat.blt i m then
   (Nat.beq (los.getD i 0) 0||(Qg o).any (λj=>Nat.blt j m&&Nat.ble (los.getD i 0) (los.getD j 0+(if hs.getD j false then 1 else 0))))
   &&(!hs.getD i false||(Nat.blt (los.getD i 0) k&&(List.range m).all (λj=> !hs.getD j false|| !Nat.beq (los.getD i 0) (los.getD j 0)||Nat.beq i j)))
  else true)&&drawChk.loB m k los hs (i+1) r
def drawChk(l:List Oper)(m k N:Nat)(ds los:List Nat)(hs:List Bool):Bool:=
 Nat.ble m l.length&&(ds.length==m)&&(l.take m).map (·.dst)==ds.map some&&ds.all (λd=>Nat.blt d N)&&drawChk.nodupB ds
 &&drawChk.goB l m 0 l&&(drawChk.loB m k los hs 0 l)
theorem QdK{a:List Nat}(h:drawChk.nodupB a=true):∀(i j d:Nat),a[i]?=some d->a[j]?=some d->i=j:=by
 induction a with
 |nil=>simp
 |cons x r b=>
  simp only[drawChk.nodupB,XW,Bool.not_eq_true']at h
  grind
theorem QhH{l:List Oper}{m:Nat}:∀(r:List Oper) (b:Nat),drawChk.goB l m b r=true->∀(i:Nat) (o:Oper),r[i]?=some o->
  (∀j∈Qg o,j<b+i)/\(b+i=m->∀j,j<m->j∈QeL l m (Qg o))/\(m<b+i->b+i-1∈Qg o):=by
 intro r
 induction r with
 |nil=>simp
 |cons x r e=>
  intro b h i o a;simp only[drawChk.goB,XW]at h;cases i with
  |zero=>
   simp at a;subst a;refine⟨λj d=>?_,λf j d=>?_,λf=>?_⟩
   .simp_all
   .simp_all
   .have n:=h.1.2;have k:Nat.beq b m=false:=by
     cases q:Nat.beq b m with
     |false=>rfl
     |true=>simp_all
    have g:Nat.blt m b=true:=by simp_all
    grind
  |succ i=>
   have:=e (b+1) h.2 i o (by grind)
   grind
inductive Ob (P:Program) (N:Nat) (l:List Oper) (ds:List Nat) (xs:List A) (env0:Env):Nat->List (List (Qd×Qd))->Prop
 |nil {i:Nat}:Ob P N l ds xs env0 i []
 |cons {i:Nat} {s:List (Qd×Qd)} {r:List (List (Qd×Qd))} (h:∀p∈s,Qd2 P N l ds xs env0 i p.1 p.2) (k:Ob P N l ds xs env0 (i+1) r):Ob P N l ds xs env0 i (s::r)
theorem Ob.get{P:Program}{N:Nat}{l:List Oper}{a:List Nat}{xs:List A}{env0:Env}{b:Nat}{d:List (List (Qd×Qd))}(h:Ob P N l a xs env0 b d):
  ∀(i:Nat) (s:List (Qd×Qd)),d[i]?=some s->∀p∈s,Qd2 P N l a xs env0 (b+i) p.1 p.2:=by
 induction h with
 |nil=>simp
 | @cons b1 s1 r1 h _ ih=>
  grind
theorem Ob.st0{P:Program}{N:Nat}{l:List Oper}{a:List Nat}{xs:List A}{env0:Env}{i:Nat}:∀p∈([]:List (Qd×Qd)),Qd2 P N l a xs env0 i p.1 p.2:=by
 simp
theorem Ob.stC{P:Program}{N:Nat}{l:List Oper}{a:List Nat}{xs:List A}{env0:Env}{i:Nat}{H H':Qd}{r:List (Qd×Qd)}(h:Qd2 P N l a xs env0 i H H')
  (k:∀p∈r,Qd2 P N l a xs env0 i p.1 p.2):∀p∈(H,H')::r,Qd2 P N l a xs env0 i p.1 p.2:=by
 grind
theorem Qbg.nil{H:Qd}:Qbg H [] []:=trivial
theorem Qbg.cons{H:Qd}{az d f:List A}{a b:A}(e:az=a::d)(h:Look H a b)(k:Qbg H d f):Qbg H az (b::f):=by subst e;exact⟨h,k⟩
section
variable {P:Program} {o:Oper} {env:Env} {H:Qd} {α:Type} {e:α->List A}
end
inductive PL (P:Program):List Field->List (Nat×Nat)->Prop
 |nil:PL P [] []
 |cons {f:Field} {n:Nat} {fs:List Field} {pl:List (Nat×Nat)} (h:∀w,(sizeOf f.type).run P w=.ok n w) (k:PL P fs pl):PL P (f::fs) ((f.offset,n)::pl)
theorem PL.run{P:Program}{fs:List Field}{a:List (Nat×Nat)}(h:PL P fs a):∀w,(fs.mapM λf=>(do pure (f.offset, <- sizeOf f.type):Sem (Nat×Nat))).run P w=.ok a w:=by
 induction h with
 |nil=>intro w;rfl
 |cons h _ ih=>
  simp_all
structure Qy (P:Program) (t:TypeId) (pl:List (Nat×Nat)):Prop where
 un:∃fs:List Field,(∀w,(underlying t).run P w=.ok (.struct fs.toArray) w)/\PL P fs pl
section
variable {P:Program} {o:Oper} {env:Env} {H:Qd}
def QdR(env:Env)(pl:List (Nat×Nat)):List A->List (Nat×Operand)->Option (List A)
 |cs,[]=>some cs
 |cs,(i,x)::r=>match pl[i]? with
  |none=>none
  |some (off,size)=>bif Yg (opA env x)&&Nat.beq (Q5 (opA env x)).length size&&Nat.ble (off+size) cs.length then QdR env pl (splice cs off (Q5 (opA env x))) r else none
theorem Qe4{fr ro:Nat->Prop}{σ:Sig}{N:Nat}{a:Act}{w:World}(r:Rel fr ro σ H env N a w){b:List (Nat×Nat)}:∀(parts:List (Nat×Operand)) (cs:List A) (l:List Value) (cs':List A),
  LR ro σ w cs l->QdR env b cs parts=some cs'->
  ∃l',Instr.fill (b.toArray[·]?) l.toArray (parts.map λp=>(p.1,a.eval p.2))=some l'.toArray/\LR ro σ w cs' l'
 |[],cs,l,cs',h,q=>by
  cases q;exact⟨l,rfl,h⟩
 |(i,x)::rest,cs,l,cs',h,q=>by
  unfold QdR at q;cases hp:b[i]? with
  |none=>grind
  |some p=>
   obtain⟨off,size⟩:=p;rw[hp]at q;simp only at q;cases hc:(Yg (opA env x)&&Nat.beq (Q5 (opA env x)).length size&&Nat.ble (off+size) cs.length)with
   |false=>grind
   |true=>
    rw[hc]at q;simp only[XW]at hc;obtain⟨⟨c1,c2⟩,c3⟩:=hc;obtain⟨m,q1,q2⟩:=(Qi r x).cells c1;have hm:m.length=size:=by rw[q2.length];simp_all
    have f:l.length=cs.length:=h.length;obtain⟨l',e,d⟩:=Qe4 r rest _ (splice l off m) cs' (h.splice off q2) q
    grind[Qf5,Nat.le_of_ble_eq_true]
theorem OpV.build{t:TypeId}{z:Value}{zs cs:List A}{b:List (Nat×Nat)}{parts:List (Nat×Operand)}(e:∀w,(zeroValue t).run P w=.ok z w)(g:ZR (.agg zs) z)(i:Qy P t b)
  (n:o.op=.build t parts.toArray:=by exact rfl)(hf:QdR env b zs parts=some cs:=by exact rfl):OpV P o env H (.agg cs):=by
 intro u f σ N a w r;obtain⟨s,j,q⟩:=i.un;obtain⟨l,rfl,h⟩:=g f σ w;obtain⟨d,k,p⟩:=Qe4 r parts zs l cs h hf;refine⟨.agg d.toArray,?_,d,rfl,p⟩;generalize hρ:a.eval=ρ at*;have m:=q.run w;simp only[execOp,n,Instr.build,Vm,e,Result.andThen,j,XI,List.mapM_toArray,Sem.run_map,m,Value.cells,k,Vn]
end
def nz(n:Int):Option Unit:=bif n==0 then none else some ()
theorem nz_ok{n:Int}{u:Unit}(h:nz n=some u):n≠0:=by
 rintro rfl;simp[nz]at h
section
variable {P:Program} {o:Oper} {env:Env} {H:Qd}
theorem Qfs{x:Operand}{a:A}(k:o.op=.nilCheck x)(g:opA env x=a:=by exact rfl)(hk:(match a with|.ptr _ _=>true|.rp _=>true|_=>false)=true:=by exact rfl):OpV P o env H a:=by
 intro j i σ N ac w r;have h:=Qi r x;rw[g]at h;cases a<;>first|(cases hk;done)|skip
 .obtain⟨b,e,f⟩:=h;refine⟨_,?_,b,e,rfl⟩
  simp_all[execOp]
 .obtain⟨b,d,e,f⟩:=h;refine⟨_,?_,b,d,rfl,f⟩
  simp_all[execOp]
end
mutual
def FzA(i k:Nat)(es:List (List A)):A->A->Prop
 |.agg az,b=>∃bs,b=.agg bs/\FzL i k es az bs
 |.fn f x c,b=>∃x' c',b=.fn f x' c'/\FzL i k es x x'/\FzL i k es c c'
 |.iface t a,b=>∃a',b=.iface t a'/\FzA i k es a a'
 |.tup az,b=>∃bs,b=.tup bs/\FzL i k es az bs
 |.osl j o n k',b=>b=.osl j o n k'\/(j=i/\o=0/\k'=k/\n=es.length/\b=.rsl k es)
 |.nils,b=>b=.nils\/ ∃k',b=.rsl k' []
 |a,b=>b=a
def FzL(i k:Nat)(es:List (List A)):List A->List A->Prop
 |[],b=>b=[]
 |a::az,b=>∃a' as',b=a'::as'/\FzA i k es a a'/\FzL i k es az as'
end
mutual
theorem FzA.refl{i k:Nat}{es:List (List A)}:∀a:A,FzA i k es a a
 |.agg az=>⟨az,rfl,FzL.refl az⟩
 |.fn _ x c=>⟨x,c,rfl,FzL.refl x,FzL.refl c⟩
 |.iface _ a=>⟨a,rfl,FzA.refl a⟩
 |.tup az=>⟨az,rfl,FzL.refl az⟩
 |.osl _ _ _ _=>.inl rfl
 |.nils=>.inl rfl
 |.any=>rfl
 |.bool _=>rfl
 |.int _ _=>rfl
 |.str _=>rfl
 |.nilp=>rfl
 |.ptr _ _=>rfl
 |.rp _=>rfl
 |.rsl _ _=>rfl
 |.nilf=>rfl
 |.nilif=>rfl
 |.map _=>rfl
 |.nilm=>rfl
theorem FzL.refl{i k:Nat}{es:List (List A)}:∀az:List A,FzL i k es az az
 |[]=>rfl
 |a::az=>⟨a,az,rfl,FzA.refl a,FzL.refl az⟩
end
theorem FzA.agg{i k:Nat}{es:List (List A)}{az bs:List A}(h:FzL i k es az bs):FzA i k es (.agg az) (.agg bs):=⟨bs,rfl,h⟩
theorem FzA.tup{i k:Nat}{es:List (List A)}{az bs:List A}(h:FzL i k es az bs):FzA i k es (.tup az) (.tup bs):=⟨bs,rfl,h⟩
theorem FzA.iface{i k:Nat}{es:List (List A)}{t:Nat}{a b:A}(h:FzA i k es a b):FzA i k es (.iface t a) (.iface t b):=⟨b,rfl,h⟩
theorem FzA.own{i k n:Nat}{es:List (List A)}(hn:n=es.length):FzA i k es (.osl i 0 n k) (.rsl k es):=.inr (by grind)
theorem FzA.nil{i k k':Nat}{es:List (List A)}:FzA i k es .nils (.rsl k' []):=.inr ⟨k',rfl⟩
theorem FzL.cons{i k:Nat}{es:List (List A)}{a b:A}{az bs:List A}(h:FzA i k es a b)(q:FzL i k es az bs):FzL i k es (a::az) (b::bs):=⟨b,bs,rfl,h,q⟩
mutual
theorem Qji{i k:Nat}{es:List (List A)}{ro ro':Nat->Prop}{σ:Sig}{w:World}(ext:Ext ro σ w ro' σ w)
  (hf:∀v,VR ro σ w (.osl i 0 es.length k) v->VR ro' σ w (.rsl k es) v):∀(a b:A) (v:Value),FzA i k es a b->VR ro σ w a v->VR ro' σ w b v
 |.agg az,b,v,h,q=>by
  obtain⟨bs,rfl,h⟩:=h;obtain⟨l,rfl,q⟩:=q;exact⟨l,rfl,QdD ext hf az bs l h q⟩
 |.fn f x c,b,v,h,q=>by
  obtain⟨x',c',rfl,h1,h2⟩:=h;obtain⟨l,l',rfl,q1,q2⟩:=q;exact⟨l,l',rfl,QdD ext hf x x' l h1 q1,QdD ext hf c c' l' h2 q2⟩
 |.iface t a,b,v,h,q=>by
  obtain⟨a',rfl,h⟩:=h;obtain⟨x,rfl,q⟩:=q;exact⟨x,rfl,Qji ext hf a a' x h q⟩
 |.tup az,b,v,h,q=>by
  obtain⟨bs,rfl,h⟩:=h;obtain⟨l,rfl,q⟩:=q;exact⟨l,rfl,QdD ext hf az bs l h q⟩
 |.osl j o n k',b,v,h,q=>by
  rcases h with rfl|⟨rfl,rfl,rfl,rfl,rfl⟩
  .exact q.mono ext
  .exact hf v q
 |.nils,b,v,h,q=>by
  rcases h with rfl|⟨k',rfl⟩
  .exact q
  .obtain rfl:v=.slice none 0 0:=q;exact⟨none,0,rfl,XT _,.inl rfl⟩
 |.any,b,v,h,q=>by obtain rfl:b=_:=h;trivial
 |.bool _,b,v,h,q=>by obtain rfl:b=_:=h;exact q
 |.int _ _,b,v,h,q=>by obtain rfl:b=_:=h;exact q
 |.str _,b,v,h,q=>by obtain rfl:b=_:=h;exact q
 |.nilp,b,v,h,q=>by obtain rfl:b=_:=h;exact q
 |.ptr _ _,b,v,h,q=>by obtain rfl:b=_:=h;exact q.mono ext
 |.rp _,b,v,h,q=>by obtain rfl:b=_:=h;exact q.mono ext
 |.rsl _ _,b,v,h,q=>by obtain rfl:b=_:=h;exact q.mono ext
 |.nilf,b,v,h,q=>by obtain rfl:b=_:=h;exact q
 |.nilif,b,v,h,q=>by obtain rfl:b=_:=h;exact q
 |.map _,b,v,h,q=>by obtain rfl:b=_:=h;exact q.mono ext
 |.nilm,b,v,h,q=>by obtain rfl:b=_:=h;exact q
theorem QdD{i k:Nat}{es:List (List A)}{ro ro':Nat->Prop}{σ:Sig}{w:World}(ext:Ext ro σ w ro' σ w)
  (hf:∀v,VR ro σ w (.osl i 0 es.length k) v->VR ro' σ w (.rsl k es) v):∀(az bs:List A) (l:List Value),FzL i k es az bs->LR ro σ w az l->LR ro' σ w bs l
 |[],bs,l,h,q=>by obtain rfl:bs=[]:=h;exact q
 |a::az,bs,l,h,q=>by
  obtain⟨a',as',rfl,h1,h2⟩:=h;obtain⟨v,l',rfl,q1,q2⟩:=q;exact⟨v,l',rfl,Qji ext hf a a' v h1 q1,QdD ext hf az as' l' h2 q2⟩
end
def FzB(i k:Nat)(es:List (List A))(x y:Blk):Prop:=y=x\/ ∃t cs cs',x=.cells t cs/\y=.cells t cs'/\FzL i k es cs cs'
def FzH(i k:Nat)(es:List (List A)):Qd->Qd->Prop
 |[],h=>h=[]
 |x::r,h=>∃y r',h=y::r'/\FzB i k es x y/\FzH i k es r r'
def Qm2(i k:Nat)(es:List (List A))(env:Env):Env->Prop
 |[]=>True
 |(s,a)::r=>FzA i k es (lk env s) a/\Qm2 i k es env r
theorem FzH.nil{i k:Nat}{es:List (List A)}:FzH i k es [] []:=rfl
theorem FzH.keep{i k:Nat}{es:List (List A)}{x:Blk}{r r':Qd}(h:FzH i k es r r'):FzH i k es (x::r) (x::r'):=⟨x,r',rfl,.inl rfl,h⟩
theorem FzH.cells{i k t:Nat}{es:List (List A)}{cs cs':List A}{r r':Qd}(q:FzL i k es cs cs')(h:FzH i k es r r'):FzH i k es (.cells t cs::r) (.cells t cs'::r'):=⟨_,r',rfl,.inr (by grind),h⟩
theorem FzH.get{i k:Nat}{es:List (List A)}:∀{H H':Qd},FzH i k es H H'->∀(j:Nat) (y:Blk),H'[j]?=some y->∃x,H[j]?=some x/\FzB i k es x y
 |[],_,h,j,y,q=>by obtain rfl:_=[]:=h;simp at q
 |x::r,_,h,j,y,q=>by
  obtain⟨y',r',rfl,h1,h2⟩:=h;cases j with
  |zero=>grind
  |succ j=>simp at q;obtain⟨x',p1,p2⟩:=h2.get j y q;grind
theorem FzH.len{i k:Nat}{es:List (List A)}:∀{H H':Qd},FzH i k es H H'->H'.length=H.length
 |[],_,h=>by obtain rfl:_=[]:=h;rfl
 |x::r,_,h=>by obtain⟨y',r',rfl,h1,h2⟩:=h;simp[h2.len]
theorem FzB.live{i k:Nat}{es:List (List A)}{x y:Blk}(h:FzB i k es x y):y.live=x.live:=by
 rcases h with rfl|⟨t,b,a,rfl,rfl,_⟩<;>rfl
theorem QfB{env:Env}{H H':Qd}{R i k t:Nat}{es:List (List A)}(ov:Env)(hi:Nat.ble R i=true)(M:H[i]?=some (.row t k es))(Y:Qm2 i k es env ov)(L:FzH i k es (H.set i .dead) H'):Le R env H (ov++env) H':=by
 intro fr O σ N a w r
 let ro':Nat->Prop:=λb=>O b\/σ[i]?=some (some b)
 have aa:∀b,σ[i]?=some (some b)->b<w.heap.size/\ ¬O b/\ ¬fr b:=λb h=>r.sim.own i b _ h M rfl;have ext:Ext O σ w ro' σ w:=⟨λ_ q=>.inl q,λ_ _=>rfl,λ_ _ q=>q,λ_ _ q=>q⟩;have hf:∀v,VR O σ w (.osl i 0 es.length k) v->VR ro' σ w (.rsl k es) v:=by
  intro v h;rcases h with⟨R,h⟩|⟨b,p,F,t',m,g,h,n,⟨u,ab⟩,h4,V⟩
  .have:es=[]:=(by grind);subst this;exact⟨none,0,h,XT _,.inl rfl⟩
  .refine⟨_,F,h,u,?_⟩;by_cases he:es=[]
   .exact .inl he
   .right;have hc:0<F:=Vf (by grind) u;obtain rfl:=n hc;obtain⟨l,q1,q2⟩:=r.sim.blk i _ _ g M;refine⟨b,0,by simp,.inr g,?_⟩;have:=Yq (pre:=[]) (by simpa using q1) q2;exact this.keep ⟨λ_ q=>.inl q,λ_ _=>rfl,λ_ _ q=>q,λ_ _ q=>q⟩ rfl
 have f:∀(j:Nat) (y:Blk),H'[j]?=some y->y≠ .dead->j≠i/\ ∃x,H[j]?=some x/\FzB i k es x y:=by
  intro j y h X;obtain⟨x,g,n⟩:=L.get j y h;by_cases e:j=i
  .subst e;rw[Xb]at g;simp only[if_true]at g;split at g
   .cases g;rcases n with rfl|⟨_,_,_,q,_,_⟩
    .grind
    .cases q
   .simp at g
  grind
 refine⟨ro',σ,⟨⟨by rw[L.len,X4];exact r.sim.len,r.sim.roOk.to (λ_ q=>.inl q) (λ_ _=>rfl) ?_,r.sim.frLt,?_,?_,?_,?_,r.sim.hidTo (· = ·) Q2 (XT _) (λj b x c q1 q2 q3 q4=>q4.elim id λq=>((r.sim.hid j b x c q1 q2 q3).ne i c _ q M rfl rfl).elim) (by simp) λj d y T Q g3=>.inl ?_⟩,?_,r.size,r.defers⟩,λ_ q=>.inl q,rfl⟩
 rotate_left 5
 .obtain⟨_,x,g4,g5⟩:=f j y Q (Qer g3);exact⟨j,x,rfl,T,g4,λz=>by rw[<- g5.live];exact z,λc q=>by rcases g5 with rfl|⟨t,cs,G,rfl,rfl,_⟩;exact q;exact q.elim⟩
 rotate_left 1
 .rintro b (q|q)
  .exact r.sim.roLt b q
  grind
 .rintro b (q|q)
  .exact r.sim.roFr b q
  grind
 .intro j b v g n u;obtain⟨e,x,n,J⟩:=f j v n (Qaq u);have hx:x.live=true:=by rw[<- J.live];exact u
  obtain⟨B,E,p3⟩:=r.sim.own j b x g n hx;refine⟨B,?_,p3⟩;rintro(q|q)
  .exact E q
  .exact e (r.sim.inj j i b x _ g q n M hx rfl)
 .intro j j' b v v' g n u h4 V h6;obtain⟨_,x,B,E⟩:=f j v u (Qaq V);obtain⟨_,x',W,P⟩:=f j' v' h4 (Qaq h6);exact r.sim.inj j j' b x x' g n B W (by rw[<- E.live];exact V) (by rw[<- P.live];exact h6)
 .intro j s v g n;by_cases X:v≠ .dead
  .obtain⟨_,x,B,E⟩:=f j v n X;have J:=r.sim.blk j s x g B;rcases E with rfl|⟨t,cs,G,rfl,rfl,q⟩
   .exact J.keep ext (λ_ _ _=>rfl) (λ_ _ _ _=>rfl)
   .cases s with
    |none=>exact J.elim
    |some b=>
     obtain⟨l,e1,e2,e3⟩:=J;exact⟨l,e1,QdD ext hf cs G l q e2,e3⟩
  .obtain rfl:v=.dead:=Classical.not_not.1 X;trivial
 .intro s
  induction ov with
  |nil=>exact(r.env s).mono ext
  |cons p ov ih=>
   obtain⟨s1,a1⟩:=p;obtain⟨T,Q⟩:=Y;simp only[VK,lk];cases q:Nat.beq s s1 with
   |true=>
    obtain rfl:=XQ q;exact Qji ext hf _ _ _ T (r.env s)
   |false=>exact ih Q
theorem Qm2.nil{i k:Nat}{es:List (List A)}{env:Env}:Qm2 i k es env []:=trivial
theorem Qm2.cons{i k s:Nat}{es:List (List A)}{env:Env}{a b:A}{r:Env}(h:lk env s=a)(q:FzA i k es a b)(g:Qm2 i k es env r):Qm2 i k es env ((s,b)::r):=⟨h▸q,g⟩
def Qd0(P:Program)(env:Env)(H:Qd)(l:ResultVar)(x:A):Prop:=
 ∀fr ro σ N a w,Rel fr ro σ H env N a w->∃v,((match l with
  |.tmp t=>pure (a.tmps.getD t undef)
  |.cell b t=>do loadVar t (<- asAddr (a.tmps.getD b undef)):Sem Value)).run P w=.ok v w/\VR ro σ w x v
def Qjb(P:Program)(env:Env)(H:Qd):List ResultVar->List A->Prop
 |[],xs=>xs=[]
 |l::ls,xs=>∃x xs',xs=x::xs'/\Qd0 P env H l x/\Qjb P env H ls xs'
section
variable {P:Program} {fn:Func} {env:Env} {H:Qd}
theorem Qd0.tmp{t:Nat}{x:A}(b:lk env t=x:=by exact rfl):Qd0 P env H (.tmp t) x:=
 λfr ro σ N a w r=>⟨a.tmps.getD t undef,rfl,b▸r.env t⟩
theorem Qd0.cell{b t:Nat}{p x:A}{cs:List A}(j:∀w,(isAgg t).run P w=.ok false w)(g:Pts H p (x::cs))(i:lk env b=p:=by exact rfl):Qd0 P env H (.cell b t) x:=by
 intro f e σ N a w r;have d:=r.env b;rw[i]at d;obtain⟨m,h,n,⟨y,l,_,k⟩,_⟩:=g f e σ w _ r.sim d
 simp_all[asAddr,loadVar]
theorem QdZ{b t n:Nat}{p:A}{cs:List A}(q:∀w,(isAgg t).run P w=.ok true w)(m:∀w,(sizeOf t).run P w=.ok n w)(i:Pts H p cs)(k:lk env b=p:=by exact rfl)(hl:(cs.take n).length=n:=by exact rfl):
  Qd0 P env H (.cell b t) (.agg (cs.take n)):=by
 intro g f σ N a w r;have e:=r.env b;rw[k]at e;obtain⟨s,off,u,j⟩:=i g f σ w _ r.sim e;obtain⟨l,h,_,d⟩:=Yu (P:=P) (cs:=cs.take n) (off:=off) 0 (by simpa using j.take n);have d:=d w #[] rfl;rw[hl]at d;refine⟨.agg l.toArray,?_,l,rfl,h⟩
 simp_all[asAddr,loadVar,loadCells]
theorem Qj{b t n i T:Nat}{cs:List A}(d:∀w,(isAgg t).run P w=.ok true w)(a:∀w,(sizeOf t).run P w=.ok n w)(f:lk env b=.ptr i 0)(e:H[i]?=some (.cells T cs))(g:cs.length=n):
  Qd0 P env H (.cell b t) (.agg cs):=by
 have:=QdZ (b:=b) (p:=.ptr i 0) d a (Pts.cells (off:=0) e rfl) f (by grind)
 grind
theorem Qjb.nil:Qjb P env H [] []:=rfl
theorem Qjb.cons{l:ResultVar}{ls:List ResultVar}{x:A}{xs:List A}(h:Qd0 P env H l x)(k:Qjb P env H ls xs):Qjb P env H (l::ls) (x::xs):=⟨x,xs,rfl,h,k⟩
theorem Qjb.run{fr ro:Nat->Prop}{σ:Sig}{N:Nat}{a:Act}{w:World}(r:Rel fr ro σ H env N a w):∀{ls:List ResultVar} {xs:List A},Qjb P env H ls xs->
  ∃vs:List Value,(ls.mapM λl=>(match l with
   |.tmp t=>pure (a.tmps.getD t undef)
   |.cell b t=>do loadVar t (<- asAddr (a.tmps.getD b undef)):Sem Value)).run P w=.ok vs w/\LR ro σ w xs vs
 |[],_,h=>by obtain rfl:_=[]:=h;exact⟨[],rfl,rfl⟩
 |l::ls,_,h=>by
  obtain⟨x,xs,rfl,h1,h2⟩:=h;obtain⟨v,e1,e2⟩:=h1 fr ro σ N a w r;obtain⟨vs,e3,e4⟩:=Qjb.run r h2;refine⟨v::vs,?_,v,vs,rfl,e2,e4⟩
  simp_all
theorem Qm{ls:List ResultVar}{xs:List A}(h:fn.results=ls.toArray)(j:Nat.beq ls.length 1=false)(k:Qjb P env H ls xs):Qcd P fn env H (.tup xs):=by
 intro m i σ N a w r;obtain⟨vs,n,d⟩:=k.run r;have b:¬vs.length=1:=by
  have:∀{ls:List ResultVar} {xs:List A},Qjb P env H ls xs->xs.length=ls.length:=by
   intro ls
   induction ls with
   |nil=>intro xs h;obtain rfl:xs=[]:=h;rfl
   |cons l ls f=>intro xs h;obtain⟨x,e,rfl,_,g⟩:=h;simp[f g]
  rw[d.length,this k];intro q;simp_all
 refine⟨.tuple vs.toArray,?_,vs,rfl,d⟩;unfold results;rw[h];rw[List.mapM_toArray,Vm,Sem.run_map]
 grind[Result.andThen,Sem.run_pure]
theorem YY{l:ResultVar}{x:A}(h:fn.results= #[l])(k:Qd0 P env H l x):Qcd P fn env H x:=by
 intro e f σ N a w r;obtain⟨vs,d,b⟩:=(Qjb.cons k Qjb.nil).run r;obtain⟨v,_,rfl,b,rfl⟩:=b;refine⟨v,?_,b⟩;unfold results;rw[h,show #[l]=[l].toArray from rfl];rw[List.mapM_toArray,Vm,Sem.run_map]
 erw [d]
 rfl
end
mutual
def Qkb:A->Bool
 |.bool _=>true
 |.int _ _=>true
 |.str _=>true
 |.agg cs=>QgD cs
 |_=>false
def QgD:List A->Bool
 |[]=>true
 |a::r=>Qkb a&&QgD r
end
mutual
def QH:A->Value
 |.bool b=>.bool b
 |.int k n=>.int k n
 |.str s=>.string ⟨s.toArray⟩
 |.agg cs=>.agg (YL cs).toArray
 |_=>.bool false
def YL:List A->List Value
 |[]=>[]
 |a::r=>QH a::YL r
end
mutual
theorem VR.val{ro:Nat->Prop}{σ:Sig}{w:World}:∀{a:A} {v:Value},Qkb a=true->VR ro σ w a v->v=QH a
 |.bool _,_,_,h=>h
 |.int _ _,_,_,h=>h
 |.str _,_,_,h=>h
 |.agg cs,v,hs,h=>by
  obtain⟨l,rfl,h⟩:=h;rw[QH,LR.val hs h]
theorem LR.val{ro:Nat->Prop}{σ:Sig}{w:World}:∀{az:List A} {l:List Value},QgD az=true->LR ro σ w az l->l=YL az
 |[],l,_,h=>h
 |a::r,l,hs,h=>by
  obtain⟨v,l',rfl,h1,h2⟩:=h;simp only[QgD,XW]at hs;rw[YL,VR.val hs.1 h1,LR.val hs.2 h2]
end
mutual
theorem QcS{ro:Nat->Prop}{σ:Sig}{w:World}:∀{a:A},Qkb a=true->VR ro σ w a (QH a)
 |.bool _,_=>rfl
 |.int _ _,_=>rfl
 |.str _,_=>rfl
 |.agg cs,hs=>⟨YL cs,rfl,QfC hs⟩
theorem QfC{ro:Nat->Prop}{σ:Sig}{w:World}:∀{az:List A},QgD az=true->LR ro σ w az (YL az)
 |[],_=>rfl
 |a::r,hs=>by
  simp only[QgD,XW]at hs;exact⟨_,_,rfl,QcS hs.1,QfC hs.2⟩
end
open Go.MapKept
structure Qab (P:Program) (kt:TypeId) {α:Type} (ek:α->A):Prop where
 scl:∀x,Qkb (ek x)=true
 inj:∀x y,QH (ek x)=QH (ek y)->x=y
 check:∀(w:World) em x,(Instr.checkKey em 10000 kt (QH (ek x))).run P w=.ok () w
 find:∀(w:World) x (es:List MapEntry),(∀e∈es,∃y,e.key=QH (ek y))->
  ((Instr.findKey kt (QH (ek x)) es).run P w=.ok none w/\ ∀e∈es,e.key≠QH (ek x))\/ ∃j e,(Instr.findKey kt (QH (ek x)) es).run P w=.ok (some (j,e.val)) w/\es[j]?=some e/\e.key=QH (ek x)
 stays:∀(w:World) x,(Instr.keyThatStays (QH (ek x)) (QH (ek x))).run P w=.ok (QH (ek x)) w
section
variable {P:Program} {kt:TypeId}
theorem Qab.plain{α:Type}{a:α->A}{d:TypeDesc}(g:P.underlying kt=some d)(b:∀x,IsKey d (QH (a x)))(e:∀x,Qkb (a x)=true)(hi:∀x y,QH (a x)=QH (a y)->x=y):Qab P kt a:=by
 refine⟨e,hi,λw h x=>run_checkKey g (b x) h 9999,λw x i f=>?_,λw x=>run_keyThatStays (b x)⟩
 grind[findNow_spec,run_findKey]
theorem Qab.int{q:IntKind}(hk:P.underlying kt=some (.int q)):Qab P kt (λn=>A.int q n):=
 Qab.plain hk (λx=>by rfl) (λ_=>rfl) (λx y h=>by simpa[QH]using h)
theorem Qab.str(hk:P.underlying kt=some .string):Qab P kt A.str:=
 Qab.plain hk (λx=>by simp[IsKey,QH]) (λ_=>rfl) (λx y h=>by simpa[QH]using h)
theorem Qab.struct{α:Type}[DecidableEq α]{a:α->A}{fs:Array Field}(F:P.underlying kt=some (.struct fs))(s:∀x,Qkb (a x)=true)(hi:∀x y,QH (a x)=QH (a y)->x=y)
  (p:∀(w:World) em x,(Instr.checkKey em 10000 kt (QH (a x))).run P w=.ok () w)
  (he:∀(w:World) x y,(Op.equal kt (QH (a x)) (QH (a y))).run P w=.ok (decide (x=y)) w)(q:∀x,Instr.sameBits 10000 (QH (a x)) (QH (a x))=true):Qab P kt a:=by
 refine⟨s,hi,p,λw x b u=>?_,λw x=>by simp[Instr.keyThatStays,q x]⟩
 .have h:∀(b:List MapEntry) (i:Nat),(∀e∈b,∃y,e.key=QH (a y))->
    ((Instr.findAsking kt (QH (a x)) b i).run P w=.ok none w/\ ∀e∈b,e.key≠QH (a x))\/
    ∃j e,(Instr.findAsking kt (QH (a x)) b i).run P w=.ok (some (i+j,e.val)) w/\b[j]?=some e/\e.key=QH (a x):=by
   intro b
   induction b with
   |nil=>simp_all[Instr.findAsking]
   |cons e b B=>
    intro i d;obtain⟨y,g⟩:=d e (by simp);have k:=he w x y;by_cases f:x=y
    .subst f;exact .inr ⟨0,e,by simp[Instr.findAsking,g,k],rfl,g⟩
    .rcases B (i+1) (λz m=>d z (by simp[m]))with⟨l,r⟩|⟨j,n,l,r,t⟩
     .refine .inl ⟨by simp[Instr.findAsking,g,k,f,l],λz m=>?_⟩
      grind
     .exact .inr ⟨j+1,n,by simp[Instr.findAsking,g,k,f,l,Nat.add_assoc,Nat.add_comm 1 j],by grind,t⟩
  cases b with
  |nil=>simp_all[Instr.findKey,run_underlying,Instr.findNow]
  |cons e b=>
   have E:Instr.findNow (.struct fs) (QH (a x)) (e::b) 0=none:=by
    rfl
   have G:(Instr.findKey kt (QH (a x)) (e::b)).run P w=(Instr.findAsking kt (QH (a x)) (e::b) 0).run P w:=by
    simp_all[Instr.findKey,run_underlying]
   grind
def Qag{α β:Type}[DecidableEq α](l:List (α×β))(k:α):Option β:=(l.find? λp=>decide (p.1=k)).map (·.2)
def Yj{α β:Type}[DecidableEq α](l:List (α×β))(k:α)(v:β):List (α×β):=bif l.any λp=>decide (p.1=k)then l.map λp=>bif decide (p.1=k)then(p.1,v)else p else l++[(k,v)]
def QP{α β:Type}[DecidableEq α](l:List (α×β))(k:α)(z:β):β:=(Qag l k).getD z
def Qb7{α β:Type}[DecidableEq α](l:List (α×β))(k:α):Bool:=l.any λp=>decide (p.1=k)
def QV{α β:Type}(ek:α->A)(ev:β->A)(l:List (α×β)):List (A×A):=l.map λp=>(ek p.1,ev p.2)
section
variable {α β:Type} [DecidableEq α] {ek:α->A} {ev:β->A} {ro:Nat->Prop} {σ:Sig} {w:World} (K:Qab P kt ek)
include K
theorem Qhl:∀{l:List (α×β)} {es:List MapEntry},ER ro σ w (QV ek ev l) es->es.map (·.key)=l.map λp=>QH (ek p.1)
 |[],es,h=>by cases(show es=[]from h);rfl
 |p::l,es,h=>by
  obtain⟨e,l',rfl,h1,h2,h3⟩:=h;simp only[Vj];rw[VR.val (K.scl _) h1,Qhl (l:=l) h3]
theorem Qio{l:List (α×β)}{es:List MapEntry}(h:ER ro σ w (QV ek ev l) es):∀e∈es,∃y,e.key=QH (ek y):=by
 intro e a;have:e.key∈es.map (·.key):=VG a;rw[Qhl K h]at this
 grind
theorem ER.find:∀{l:List (α×β)} {es:List MapEntry},ER ro σ w (QV ek ev l) es->∀(x:α),(es.map (·.key)).Nodup->
  ((∀e:MapEntry,e∈es->e.key≠QH (ek x))->Qag l x=none/\Qb7 l x=false)/\
  (∀(j:Nat) (e:MapEntry),es[j]?=some e->e.key=QH (ek x)->Qb7 l x=true/\ ∃v,Qag l x=some v/\VR ro σ w (ev v) e.val)
 |[],es,h,x,_=>by
  cases(show es=[]from h);exact⟨λ_=>⟨rfl,rfl⟩,(by simp)⟩
 |p::l,es,h,x,hn=>by
  obtain⟨e0,l',rfl,h1,h2,h3⟩:=h;have hk:e0.key=QH (ek p.1):=VR.val (K.scl _) h1;simp only[Vj,List.nodup_cons]at hn;obtain⟨a1,a2⟩:=ER.find (l:=l) h3 x hn.2;by_cases hp:p.1=x
  .grind[Qb7,Qag]
  .have e1:Qag (p::l) x=Qag l x:=by simp[Qag,hp]
   have b:Qb7 (p::l) x=Qb7 l x:=by simp[Qb7,hp]
   rw[e1,b];constructor
   .grind
   .intro j e a d;cases j with
    |zero=>
     simp only[XE,Option.some.injEq]at a;subst a;exact absurd (K.inj _ _ (hk.symm.trans d)) hp
    |succ j=>grind
end
end
end Go.Sw
namespace Go.Sw
open Go.MapKept
section
variable {P:Program} {o:Oper} {env:Env} {H:Qd}
theorem Yt{T:Nat}(e:o.op=.makeMap T none:=by exact rfl):OpH P o env H (.map H.length) (H++[.map []]):=by
 intro d b σ N a w r;refine⟨.map (some w.heap.size),w.alloc (.map #[] 0),b,[some w.heap.size],?_,⟨w.heap.size,?_,rfl⟩,r.sim.alloc ⟨#[],0,QY _ _,rfl,by simp,by simp,by simp⟩,Qh.alloc _ r.sim.roLt r.sim.frLt⟩
 .simp_all[execOp,Instr.makeMap]
 .rw[<- r.sim.len];simp
section
variable {T kt et:Nat} {α β:Type} [DecidableEq α] {ek:α->A} {ev:β->A} {x y:Operand} {i:Nat} {l:List (α×β)} {k:α} {z0:β} {z:Value}
theorem QeC(K:Qab P kt ek){ro:Nat->Prop}{w:World}(n:P.underlying T=some (.map kt et))(p:∀w,(zeroValue et).run P w=.ok z w)(g:ZR (ev z0) z){b a:Nat}{es:Array MapEntry}
  (m:w.heap[b]?=some (.map es a))(he:ER ro [] w (QV ek ev l) es.toList)(q:(es.toList.map (·.key)).Nodup):
  ∃v,(∀ck,(Instr.lookup T (.map (some b)) (QH (ek k)) ck).run P w=.ok (if ck then .tuple #[v,.bool (Qb7 l k)]else v) w)/\VR ro [] w (ev (QP l k z0)) v:=by
 obtain⟨u,r⟩:=ER.find K he k q;rcases K.find w k es.toList (Qio K he)with⟨d,i⟩|⟨j,e,d,i,t⟩
 .obtain⟨f,h⟩:=u i;refine⟨z,λck=>?_,?_⟩
  .simp only[Instr.lookup,Vm,run_underlying n,Result.andThen,MapKept.run_getObj_map m,Vn,K.check,d,p,h]
  .rw[QP,f];exact g _ _ _
 .obtain⟨f,v,h,s⟩:=r j e i t;refine⟨e.val,λck=>?_,?_⟩
  .simp only[Instr.lookup,Vm,run_underlying n,Result.andThen,MapKept.run_getObj_map m,Vn,K.check,d,f]
  .rw[QP,h];exact s
theorem YO{zv:β}(K:Qab P kt ek)(p:some (QP l k z0)=some zv)(u:P.underlying T=some (.map kt et))(s:∀w,(zeroValue et).run P w=.ok z w)(e:ZR (ev z0) z)
  (Q:o.op=.lookup T x y false:=by exact rfl)(hx:opA env x=.map i:=by exact rfl)(hH:H[i]?=some (.map (QV ek ev l)):=by exact rfl)(hy:opA env y=ek k:=by exact rfl):OpV P o env H (ev zv):=by
 obtain rfl:=XZ p;intro M J σ N a w r;have g:=Qi r x;rw[hx]at g;obtain⟨b,t,F⟩:=g;have f:=Qi r y;rw[hy]at f;have O:=VR.val (K.scl _) f;obtain⟨B,d,j,m,G,L,h⟩:=r.sim.blk i _ _ t hH;obtain⟨v,E,n⟩:=QeC (T:=T) (z0:=z0) (k:=k) K u s e j m h;refine⟨v,?_,n.mono ⟨λ_ q=>q,λ_ _=>rfl,λ_ _ q=>q,(by simp)⟩⟩
 simp_all[execOp]
theorem Qjd{zv:β}(K:Qab P kt ek)(p:some (QP l k z0)=some zv)(u:P.underlying T=some (.map kt et))(s:∀w,(zeroValue et).run P w=.ok z w)(e:ZR (ev z0) z)
  (Q:o.op=.lookup T x y true:=by exact rfl)(hx:opA env x=.map i:=by exact rfl)(hH:H[i]?=some (.map (QV ek ev l)):=by exact rfl)(hy:opA env y=ek k:=by exact rfl):OpV P o env H (.tup [ev zv,.bool (Qb7 l k)]):=by
 obtain rfl:=XZ p;intro M J σ N a w r;have g:=Qi r x;rw[hx]at g;obtain⟨b,t,F⟩:=g;have f:=Qi r y;rw[hy]at f;have O:=VR.val (K.scl _) f;obtain⟨B,d,j,m,G,L,h⟩:=r.sim.blk i _ _ t hH;obtain⟨v,E,n⟩:=QeC (T:=T) (z0:=z0) (k:=k) K u s e j m h;refine⟨.tuple #[v,.bool (Qb7 l k)],?_,[v,.bool (Qb7 l k)],rfl,v,_,rfl,n.mono ⟨λ_ q=>q,λ_ _=>rfl,λ_ _ q=>q,(by simp)⟩,_,_,rfl,rfl,rfl⟩
 simp_all[execOp]
theorem ER.append{ro:Nat->Prop}{σ:Sig}{w:World}:∀{l m:List (A×A)} {es fs:List MapEntry},ER ro σ w l es->ER ro σ w m fs->ER ro σ w (l++m) (es++fs)
 |[],m,es,fs,h,k=>by cases(show es=[]from h);exact k
 |p::l,m,es,fs,h,k=>by
  obtain⟨e,l',rfl,h1,h2,h3⟩:=h;exact⟨e,l'++fs,rfl,h1,h2,ER.append h3 k⟩
theorem ER.put(K:Qab P kt ek){ro:Nat->Prop}{w w':World}{v:β}{val:Value}(a:Ext ro [] w ro [] w')(b:VR ro [] w (ev v) val):∀{l:List (α×β)} {es:List MapEntry} {j:Nat} {e:MapEntry},ER ro [] w (QV ek ev l) es->
  (es.map (·.key)).Nodup->es[j]?=some e->e.key=QH (ek k)->
  ER ro [] w' (QV ek ev (l.map λp=>bif decide (p.1=k)then(p.1,v)else p)) (es.modify j λe=>{e with key:=QH (ek k),val:=val})
 |[],es,j,e,h,hn,he,hk=>by cases(show es=[]from h);simp at he
 |p::l,es,j,e,h,hn,he,hk=>by
  obtain⟨e0,l',rfl,h1,h2,h3⟩:=h;have hk0:e0.key=QH (ek p.1):=VR.val (K.scl _) h1;simp only[Vj,List.nodup_cons]at hn;cases j with
  |zero=>
   simp only[XE,Option.some.injEq]at he;subst he;have hp:p.1=k:=K.inj _ _ (hk0.symm.trans hk);simp only[List.modify_zero_cons];have e1:QV ek ev ((p::l).map λp=>bif decide (p.1=k)then(p.1,v)else p)=(ek p.1,ev v)::QV ek ev l:=by
    simp only[QV,Vj,hp,decide_true,Vp,List.map_map,List.cons.injEq,true_and];apply List.map_congr_left;intro q d;have:q.1≠k:=by
     intro e;refine hn.1 ?_;rw[Qhl K h3];exact Xe.2 ⟨q,d,by rw[e, <- hp,hk0]⟩
    simp[this]
   rw[e1];refine⟨_,l',rfl,?_,b.mono a,h3.mono a⟩;show VR ro [] w' (ek p.1) (QH (ek k));rw[<- hp];exact QcS (K.scl _)
  |succ j=>
   simp only[XF]at he;have hp:p.1≠k:=by
    intro q;refine hn.1 (Xe.2 ⟨e,VH he,?_⟩);rw[hk,hk0,q]
   simp only[List.modify_succ_cons];have e1:QV ek ev ((p::l).map λp=>bif decide (p.1=k)then(p.1,v)else p)=(ek p.1,ev p.2)::QV ek ev (l.map λp=>bif decide (p.1=k)then(p.1,v)else p):=by
    simp[QV,hp]
   rw[e1];exact⟨_,_,rfl,h1.mono a,h2.mono a,ER.put K a b h3 hn.2 he hk⟩
theorem YQ{m:List (α×β)}(K:Qab P kt ek){v:β}{t:Operand}(hm:some (Yj l k v)=some m)(hd:Yn (ev v)=true)(hT:P.underlying T=some (.map kt et))
  (ho:o.op=.mapUpdate T x y t:=by exact rfl)(hx:opA env x=.map i:=by exact rfl)(hH:H[i]?=some (.map (QV ek ev l)):=by exact rfl)(hy:opA env y=ek k:=by exact rfl)(hv:opA env t=ev v:=by exact rfl):
  OpU P o env H (H.set i (.map (QV ek ev m))):=by
 obtain rfl:=XZ hm;intro fr W σ N a w r;have h1:=Qi r x;rw[hx]at h1;obtain⟨b,Y,q2⟩:=h1;have h2:=Qi r y;rw[hy]at h2;have h3:=VR.val (K.scl _) h2;have h4:=Qi r t;rw[hv]at h4;have F:VR W [] w (ev v) (a.eval t):=VR.data hd h4;obtain⟨u,d,L,M,p3,p4,V⟩:=r.sim.blk i _ _ Y hH;obtain⟨f1,f2⟩:=ER.find K M k V;have G:∀(obj:Obj) y,w.shape? b=some y->({w with heap:=w.heap.setIfInBounds b obj}:World).shape? b=some y:=by
  grind[World.shape?]
 rcases K.find w k u.toList (Qio K M)with⟨Q,J⟩|⟨j,e,Q,J,O⟩
 .obtain⟨u1,u2⟩:=f1 J;have R:Yj l k v=l++[(k,v)]:=by
   unfold Yj;rw[show(l.any λp=>decide (p.1=k))=false from u2];rfl
  have n:=r.sim.set (x':=.map (QV ek ev (Yj l k v))) (obj:=.map (u.push {key:=QH (ek k),val:=a.eval t,born:=d}) (d+1)) Y hH rfl (G _)
   (λe he=>⟨_,_,he,by
    rw[R,QV,Xf,Array.toList_push];exact(M.mono ⟨e.sub,e.keep,e.shape,λ_ _ q=>q⟩).append ⟨_,_,rfl,QcS (K.scl _),F.mono ⟨e.sub,e.keep,e.shape,λ_ _ q=>q⟩,rfl⟩,by
    grind,by
    grind,by
    grind⟩)
  refine⟨_,W,[],?_,by grind,n.2⟩;simp only[execOp,ho,q2,h3,Vm,Instr.mapUpdate,run_underlying hT,Result.andThen,MapKept.run_getObj_map L,K.check,Q,MapKept.run_setObj_map _ L];rfl
 .obtain⟨u1,u2⟩:=f2 j e J O;have R:Yj l k v=l.map λp=>bif decide (p.1=k)then(p.1,v)else p:=by
   unfold Yj;rw[show(l.any λp=>decide (p.1=k))=true from u1];rfl
  have hj:u[j]?=some e:=by grind
  have g:(u.modify j λe=>{e with key:=QH (ek k),val:=a.eval t}).toList=u.toList.modify j λe=>{e with key:=QH (ek k),val:=a.eval t}:=by simp
  have s:∀{γ:Type} (f:MapEntry->γ),(∀E,u.toList[j]?=some E->f {E with key:=QH (ek k),val:=a.eval t}=f E)->(u.toList.modify j λe=>{e with key:=QH (ek k),val:=a.eval t}).map f=u.toList.map f:=by
   intro γ f hf;apply List.ext_getElem?
   grind
  have n:=r.sim.set (x':=.map (QV ek ev (Yj l k v))) (obj:=.map (u.modify j λe=>{e with key:=QH (ek k),val:=a.eval t}) d) Y hH rfl (G _)
   (λX he=>⟨_,_,he,by
    rw[R,g];exact ER.put K ⟨X.sub,X.keep,X.shape,λ_ _ q=>q⟩ F M V J O,by
    rw[g];intro E z;have:E.born∈(u.toList.modify j λe=>{e with key:=QH (ek k),val:=a.eval t}).map (·.born):=VG z;rw[s (·.born) (λ_ _=>rfl)]at this;obtain⟨e2,h,h'⟩:=Xe.1 this;rw[<- h'];exact p3 e2 h,by
    rw[g,s (·.born) (λ_ _=>rfl)];exact p4,by
    rw[g,s (·.key) (λE z=>by rw[J]at z;cases z;exact O.symm)];exact V⟩)
  refine⟨_,W,[],?_,by simpa using n.1,n.2⟩;have B:=K.stays w k;simp only[execOp,ho,q2,h3,Vm,Instr.mapUpdate,run_underlying hT,Result.andThen,MapKept.run_getObj_map L,K.check,Q,hj,Xj,Option.getD_some,O,B,MapKept.run_setObj_map _ L];rfl
theorem ER.length{ro:Nat->Prop}{σ:Sig}{w:World}:∀{l:List (A×A)} {es:List MapEntry},ER ro σ w l es->es.length=l.length
 |[],es,h=>by cases(show es=[]from h);rfl
 |p::l,es,h=>by
  obtain⟨e,l',rfl,_,_,h3⟩:=h;simp[ER.length h3]
theorem Qcs{c:Call}{n:Int}(u:P.underlying T=some (.map kt et))(j:(l.length:Int)=n)(t:o.op=.call c:=by exact rfl)(hc:c={callee:=.builtin .len,args:= #[x],argTypes:= #[T]}:=by exact rfl)
  (hx:opA env x=.map i:=by exact rfl)(hH:H[i]?=some (.map (QV ek ev l)):=by exact rfl):OpV P o env H (.int .i64 n):=by
 intro F B σ N a w r;have g:=Qi r x;rw[hx]at g;obtain⟨b,m,h⟩:=g;obtain⟨f,e,p,q,y,E,z⟩:=r.sim.blk i _ _ m hH;have s:=q.length;refine⟨.int .i64 n,?_,rfl⟩;have d:goInt f.size=.int .i64 n:=by
  have:f.size=l.length:=by rw[<- Array.length_toList,s];simp[QV]
  rw[this, <- j];rfl
 subst hc;have k:=h;generalize a.eval=ρ at*;rw[<- d];simp[execOp,t,h,resolve,invoke,Go.builtin,Builtin.len_,run_underlying u,MapKept.run_getObj_map p,go_sem]
end
end
end Go.Sw
namespace Go.Sw
open Go.ChangeMaps (setBlock)
section
variable {P:Program} {o:Oper} {env:Env} {H:Qd} {h0 N:Nat} {Q:QA}
def OpE(P:Program)(o:Oper)(env:Env)(H:Qd)(K:A->Qd->Prop):Prop:=
 ∀fr ro σ N a w,Rel fr ro σ H env N a w->∃x H' v w' ro' τ,K x H'/\(execOp a.eval o).run P w=.ok (.value v) w'/\VR ro' (σ++τ) w' x v/\
  Sim fr ro' (σ++τ) H' w'/\Qh fr ro w ro' w'
theorem QmH{all:Array Oper}{l:List Oper}{d:Nat}{K:A->Qd->Prop}(j:h0<=H.length)(hg:Qt all o env true)(p:o.dst=some d)(E:Nat.blt d N=true)
  (g:OpE P o env H K)(k:∀x H',K x H'->WO P h0 N all l (up env d x) H' Q):WO P h0 N all (o::l) env H Q:=by
 intro y fr m σ a w r hrd;obtain⟨x,H',v,i,b,τ,n,t,z,u,f⟩:=g fr m σ N a w r;refine Qac (YW hg r) t ?_;simp only[p,Act.put];have h:d<N:=by simp_all
 have B:Rel fr b (σ++τ) H' (up env d x) N {a with tmps:=a.tmps.setIfInBounds d v} i:=
  ⟨u,VR.up (fr:=fr) (λs=>(r.env s).mono (f.ext σ τ)) (by rw[r.size];exact h) z,by simpa using r.size,r.defers.keep f⟩
 refine Yk (λe a w q=>q.step f (QB ?_)) _ _ _ (k x H' n y fr b (σ++τ) _ i B (hrd.to f λ_ q=>q));rw[r.sim.len];exact j
theorem Sim.shutMap{fr ro:Nat->Prop}{σ:Sig}{w:World}(s:Sim fr ro σ H w){i b:Nat}{es:List (A×A)}(hσ:σ[i]?=some (some b))(n:H[i]?=some (.map es)):
  Sim fr (λc=>ro c\/c=b) σ (H.set i (.fmap es)) w:=by
 have E:b<w.heap.size/\ ¬ro b/\ ¬fr b:=s.own i b _ hσ n rfl;have ext:Ext ro σ w (λc=>ro c\/c=b) σ w:=⟨λ_ q=>.inl q,λ_ _=>rfl,λ_ _ q=>q,λ_ _ q=>q⟩;have a:∀(j:Nat) (v:Blk),(H.set i (.fmap es))[j]?=some v->v.live=true->j≠i/\H[j]?=some v:=by
  intro j v h J;by_cases e:j=i
  .subst e;rw[Xb]at h;simp only[if_true]at h
   grind[Blk.live]
  grind
 have p:∀(j:Nat) (v:Blk),(H.set i (.fmap es))[j]?=some v->v.holds=true->H[j]?=some v:=by
  intro j v h J;by_cases e:j=i
  .subst e;rw[Xb]at h;simp only[if_true]at h;split at h
   .cases h;cases J
   .simp at h
  grind
 refine⟨by rw[X4];exact s.len,s.roOk.to (λ_ q=>.inl q) (λ_ _=>rfl) ?_,s.frLt,?_,?_,?_,?_,s.hidTo (· = ·) Q2 (XT _) (λj d x c O N P M=>M.elim id λq=>((s.hid j d x c O N P).ne i b _ hσ n rfl q).elim) (by simp) (by grind)⟩
 .rintro c (q|rfl)
  .exact s.roLt c q
  omega
 .rintro c (q|rfl)
  .exact s.roFr c q
  grind
 .intro j c v g f m;obtain⟨e,f⟩:=a j v f m;obtain⟨r,t,u⟩:=s.own j c v g f m;refine⟨r,?_,u⟩;rintro(q|rfl)
  .exact t q
  .exact e (s.inj j i c v _ g hσ f n m rfl)
 .intro j B c v z g f m L F G;exact s.inj j B c v z g f (a j v m F).2 (a B z L G).2 F G
 .intro j y v g f;by_cases e:j=i
  .subst e;rw[hσ]at g;cases g;rw[Xb]at f;simp only[if_true]at f;split at f
   .cases f;obtain⟨l,k,r,t,u⟩:=s.blk j _ _ hσ n;exact⟨.inr rfl,l,k,r,t.mono ext.nil,u⟩
   .simp at f
  .rw[XP (λq=>e q.symm)]at f;exact(s.blk j y v g f).keep ext (λ_ _ _=>rfl) (λ_ _ _ _=>rfl)
section
variable {T kt et i:Nat} {x:Operand} {es:List (A×A)}
theorem OpH.range(F:P.underlying T=some (.map kt et))(B:o.op=.range T x:=by exact rfl)(hx:opA env x=.map i:=by exact rfl)(hH:H[i]?=some (.map es):=by exact rfl):
  OpH P o env H (.ptr H.length 0) (H.set i (.fmap es)++[.iter none es]):=by
 intro n f σ N a w r;have s:=Qi r x;rw[hx]at s;obtain⟨b,k,y⟩:=s;obtain⟨l,d,p,z,t,u,G⟩:=r.sim.blk i _ _ k hH;have E:=(r.sim.own i b _ k hH rfl).1;have m:=r.sim.shutMap k hH;have j:Qh n f w (λc=>f c\/c=b) w:=YA (λ_ q=>.inl q);have g:Qh n (λc=>f c\/c=b) w (λc=>f c\/c=b) (w.alloc (.mapIter (some b) d #[] d)):=Qh.alloc _ m.roLt m.frLt;have ext0:Ext f [] w (λc=>f c\/c=b) [] (w.alloc (.mapIter (some b) d #[] d)):=(j.trans g).ext0 [];refine⟨.pointer (some ⟨w.heap.size,0,none⟩),w.alloc (.mapIter (some b) d #[] d),_,[some w.heap.size],?_,⟨w.heap.size,?_,rfl⟩,
  m.alloc (.inr ⟨b,l,d, #[],l.toList,QY _ _,.inr rfl,by rw[Yo _ _ _ E];exact p,t,u,?_,z.mono ext0,λ_ h=>by cases h⟩),j.trans g⟩
 .generalize a.eval=ρ at*;simp only[execOp,B,y,Instr.range,Vm,run_underlying F,Result.andThen,MapKept.run_getObj_map p];rfl
 .rw[<- r.sim.len];simp
 .have:l.toList.filter (λe=> !(#[]:Array Nat).contains e.born)=l.toList:=by simp
  rw[this]
theorem ER.mem{ro:Nat->Prop}{σ:Sig}{w:World}:∀{es:List (A×A)} {l:List MapEntry},ER ro σ w es l->∀e∈l,∃x es' l',(x::es').Perm es/\(e::l').Perm l/\VR ro σ w x.1 e.key/\VR ro σ w x.2 e.val/\ER ro σ w es' l'
 |[],l,h,e,he=>by cases(show l=[]from h);cases he
 |y::es,l,h,e,he=>by
  obtain⟨e0,l',rfl,h1,h2,h3⟩:=h;rcases X6.1 he with rfl|he
  .exact⟨y,es,l',.refl _,.refl _,h1,h2,h3⟩
  .obtain⟨x,es',l'',p1,p2,v1,v2,h4⟩:=ER.mem h3 e he;exact⟨x,y::es',e0::l'',(List.Perm.swap _ _ _).trans (p1.cons _),(List.Perm.swap _ _ _).trans (p2.cons _),v1,v2,⟨e0,l'',rfl,h1,h2,h4⟩⟩
theorem Qic:∀{l:List MapEntry},(l.map (·.born)).Nodup->∀a∈l,∀b∈l,a.born=b.born->a=b
 |[],_,a,ha,_,_,_=>by cases ha
 |c::l,hn,a,ha,b,hb,hab=>by
  simp only[Vj,List.nodup_cons]at hn;rcases X6.1 ha with ea|ha'<;>rcases X6.1 hb with eb|hb'
  .rw[ea,eb]
  .grind
  .grind
  .exact Qic hn.2 a ha' b hb' hab
def NextK(H:Qd)(i:Nat)(cur:Option (A×A))(es:List (A×A))(v:A)(H':Qd):Prop:=
 (es=[]/\v=.tup [.bool false]/\H'=H)\/ ∃e es',(e::es').Perm es/\v=.tup [.bool true,e.1,e.2]/\H'=H.set i (.iter (some e) es')
theorem OpE.next{Q:Option (A×A)}(ho:o.op=.next x false:=by exact rfl)(hx:opA env x=.ptr i 0:=by exact rfl)(hH:H[i]?=some (.iter Q es):=by exact rfl):
  OpE P o env H (NextK H i Q es):=by
 intro fr k σ N a w r;have h1:=Qi r x;rw[hx]at h1;obtain⟨b,q1,q2⟩:=h1;have g:∀(v:Value) (w1:World),w1.heap=w.heap->w1.os=w.os->w1.tape=w.tape->w1.output=w.output->w.drawn<=w1.drawn->Sim fr k (σ++[]) H w1/\Qh fr k w k w1:=by
  intro v w1 R V e3 e4 e5;exact⟨by simpa using r.sim.heap R,Qh.heap R V e3 e4 e5⟩
 rcases r.sim.blk i _ _ q1 hH with⟨rfl,rfl,p⟩|⟨m,l,f,d,left,p1,p2,p3,p4,p5,p6,p7,p8⟩
 .refine⟨_,_,.tuple #[.bool false],w,k,[],.inl ⟨rfl,rfl,rfl⟩,?_,⟨_,rfl,_,_,rfl,rfl,rfl⟩,g (.bool false) w rfl rfl rfl rfl (XT _)⟩;generalize a.eval=ρ at*;simp only[execOp,ho,q2,Instr.next,Vm,getObj,Sem.run,p,Result.andThen];rfl
 .have ab:(leftOf l d).toList=l.toList.filter λe=> !d.contains e.born:=by simp[leftOf]
  have n:left.Perm (leftOf l d).toList:=by grind
  rcases run_next_at (P:=P) w o.type b m f f d l f p1 p3 p4 (XT _)with⟨g1,g2⟩|⟨e,g1,w1,g2,g3⟩
  .have ac:left=[]:=by
    have:left.length=0:=by rw[n.length_eq];omega
    grind
   subst ac;have Y:es=[]:=by
    have:=p7.length
    grind
   refine⟨_,_,.tuple #[.bool false],w,k,[],.inl ⟨Y,rfl,rfl⟩,?_,⟨_,rfl,_,_,rfl,rfl,rfl⟩,g (.bool false) w rfl rfl rfl rfl (XT _)⟩
   simp_all[execOp]
  .have he:e∈left:=n.mem_iff.2 g1;have O:e∈l.toList:=by grind
   obtain⟨y,J,M,k1,k2,v1,v2,k3⟩:=p7.mem e he;have s:w1.heap=w.heap/\w1.os=w.os/\w1.tape=w.tape/\w1.output=w.output/\w.drawn<=w1.drawn:=by
    rcases g2 with rfl|rfl
    .simp
    .exact⟨rfl,rfl,rfl,rfl,Nat.le_succ _⟩
   obtain⟨s1,E⟩:=g (.bool false) w1 s.1 s.2.1 s.2.2.1 s.2.2.2.1 s.2.2.2.2;rw[Vg]at s1;have ad:b≠m:=by
    grind
   have u:=s1.set (x':=.iter (some y) J) (obj:=.mapIter (some m) f (d.push e.born) f) q1 hH rfl
    (λz L=>by
     grind[World.shape?])
    (λt X=>.inr ⟨m,l,f,d.push e.born,M,X,t.sub _ p2,by
      grind,p4,p5,by
      have W:(l.toList.filter λe=> !d.contains e.born).Nodup:=by
       have:l.toList.Nodup:=List.Pairwise.of_map _ (λa b h q=>h (congrArg _ q)) p5;exact this.filter _
      have hp:(e::M).Perm (l.toList.filter λe=> !d.contains e.born):=k2.trans p6;have F:(e::M).Nodup:=hp.nodup_iff.2 W;have R:(l.toList.filter λB=> !(d.push e.born).contains B.born)=(l.toList.filter λe=> !d.contains e.born).filter λB=> !decide (B.born=e.born):=by
       rw[List.filter_filter];apply List.filter_congr;intro z _;simp[Array.contains_push,Bool.and_comm]
      rw[R];have h2:=hp.filter (λB=> !decide (B.born=e.born));have V:(e::M).filter (λB=> !decide (B.born=e.born))=M:=by
       rw[List.filter_cons_of_neg (by simp),List.filter_eq_self];intro z L;have aa:z∈l.toList:=(Xd.1 (hp.mem_iff.1 (X5 _ L))).1;simp only[Bool.not_eq_true',decide_eq_false_iff_not];intro hb;have:z=e:=by
        exact Qic p5 z aa e O hb
       subst this;exact(List.nodup_cons.1 F).1 L
      rw[V]at h2;exact h2,by
      have T:Ext k [] w k [] w1:=E.ext0 [];exact(k3.mono T).mono ⟨t.sub,t.keep,t.shape,λ_ _ q=>q⟩,by
      intro z L;cases L;have T:Ext k [] w k [] w1:=E.ext0 [];exact⟨e,O,by simp,(v1.mono T).mono ⟨t.sub,t.keep,t.shape,λ_ _ q=>q⟩,(v2.mono T).mono ⟨t.sub,t.keep,t.shape,λ_ _ q=>q⟩⟩⟩)
   have G:=E.trans u.2;have xt:Ext k [] w k [] {w1 with heap:=w1.heap.setIfInBounds b (.mapIter (some m) f (d.push e.born) f)}:=G.ext0 [];refine⟨_,_,.tuple #[.bool true,e.key,e.val],_,k,[],.inr ⟨y,J,k1,rfl,rfl⟩,?_,
    ⟨[.bool true,e.key,e.val],rfl,_,_,rfl,rfl,_,_,rfl,(v1.mono xt).mono ⟨λ_ q=>q,λ_ _=>rfl,λ_ _ q=>q,λj c q=>by simp at q⟩,_,_,rfl,(v2.mono xt).mono ⟨λ_ q=>q,λ_ _=>rfl,λ_ _ q=>q,λj c q=>by simp at q⟩,rfl⟩,by simpa using u.1,G⟩
   generalize a.eval=ρ at*;simp only[execOp,ho,q2,Vm,g3,Result.andThen,setBlock];rfl
theorem OpV.entry{e:A×A}(R:o.op=.entry x:=by exact rfl)(hx:opA env x=.ptr i 0:=by exact rfl)(hH:H[i]?=some (.iter (some e) es):=by exact rfl):OpV P o env H (.tup [e.1,e.2]):=by
 intro L Q σ N a w r;have j:=Qi r x;rw[hx]at j;obtain⟨b,u,O⟩:=j;rcases r.sim.blk i _ _ u hH with⟨_,h,_⟩|⟨m,l,d,g,left,z,B,G,J,p,M,E,y⟩
 .cases h
 .obtain⟨f,n,F,s,k⟩:=y e rfl;refine⟨.tuple #[f.key,f.val],?_,[f.key,f.val],rfl,_,_,rfl,s.mono ⟨λ_ q=>q,λ_ _=>rfl,λ_ _ q=>q,(by simp)⟩,_,_,rfl,k.mono ⟨λ_ q=>q,λ_ _=>rfl,λ_ _ q=>q,(by simp)⟩,rfl⟩;have t:l.find? (·.born==f.born)=some f:=by rw[<- Array.find?_toList];exact find_born f l.toList p n
  simp_all[execOp,Instr.entry,getObj,Sem.run]
end
end
end Go.Sw
namespace Go.Sw
def Qd6{S E B:Type}(stepE:S->E->Option (Ctl S B))(stepN:S->Option B):S->List E->Option B
 |s,[]=>stepN s
 |s,e::p=>match stepE s e with
  |some (.cont s')=>Qd6 stepE stepN s' p
  |some (.done b)=>some b
  |none=>none
def Qbl{E:Type}(x:E):List E->List (List E)
 |[]=>[[x]]
 |y::l=>(x::y::l)::(Qbl x l).map (y:: ·)
def QbH{E:Type}:List E->List (List E)
 |[]=>[[]]
 |x::l=>(QbH l).flatMap (Qbl x)
theorem QeX{E:Type}(x:E):∀(a b:List E),a++x::b∈Qbl x (a++b)
 |[],[]=>by simp[Qbl]
 |[],y::b=>by simp[Qbl]
 |y::a,b=>by
  simp only[VK,Qbl,X6,Xe];exact .inr ⟨a++x::b,QeX x a b,rfl⟩
theorem Qde{E:Type}:∀(l p:List E),p.Perm l->p∈QbH l
 |[],p,h=>by rw[List.perm_nil.1 h];simp[QbH]
 |x::l,p,h=>by
  have hx:x∈p:=h.mem_iff.2 (by simp);obtain⟨a,b,rfl⟩:=List.append_of_mem hx;have h2:(a++b).Perm l:=(List.perm_cons x).1 ((List.perm_middle.symm).trans h);simp only[QbH,List.mem_flatMap];exact⟨a++b,Qde l _ h2,QeX x a b⟩
def anyP{E R:Type}[DecidableEq R](k:List E->Option R)(l:List E):Option R:=bif (QbH l).all (λp=>decide (k p=k l))then k l else none
theorem QnS{E R:Type}[DecidableEq R]{k:List E->Option R}{l:List E}{r:R}(h:anyP k l=some r)(p:List E)(a:p.Perm l):k p=some r:=by
 unfold anyP at h;cases q:(QbH l).all (λp=>decide (k p=k l))with
 |true=>
  simp_all[Qde]
 |false=>grind
theorem Qcj{E:Type}:∀(l p:List E),p∈QbH l->p.Perm l
 |[],p,h=>by simp[QbH]at h;rw[h]
 |x::l,p,h=>by
  simp only[QbH,List.mem_flatMap]at h;obtain⟨q,hq,hp⟩:=h;have ins:∀(q p:List E),p∈Qbl x q->p.Perm (x::q):=by
   intro q
   induction q with
   |nil=>intro p hp;simp[Qbl]at hp;rw[hp]
   |cons y q b=>
    intro p hp;simp only[Qbl,X6,Xe]at hp;rcases hp with rfl|⟨z,a,rfl⟩
    .exact .refl _
    .exact((b z a).cons y).trans (List.Perm.swap _ _ _)
  exact(ins q p hp).trans ((Qcj l q hq).cons x)
theorem QnT{E R:Type}[DecidableEq R]{k:List E->Option R}{l:List E}{r:R}(h:∀p,p.Perm l->k p=some r):anyP k l=some r:=by
 unfold anyP;have:(QbH l).all (λp=>decide (k p=k l))=true:=Xs.2 λp a=>by
  simp_all[Qcj]
 rw[this];simp_all
def Qiq{S E B:Type}(stepE:S->E->Option (Ctl S B))(stepN:S->Option B)(G:B->Prop)(s:S)(l:List E):Prop:=∀p,p.Perm l->∃b,Qd6 stepE stepN s p=some b/\G b
section
variable {P:Program} {o:Oper} {env:Env} {H:Qd} {h0 N:Nat} {Q:QA} {c:Code}
def Qb1(I:Env->Qd->Prop)(Q:QA):QA
 |.normal,env,H=>I env H
 |.exit id,env,H=>Q (.exit id) env H
 |.ret,env,H=>Q .ret env H
theorem QmN{I:Nat->Env->Qd->Prop}(body:∀n env H,I n env H->TC P h0 N c env H (Qb1 (λenv H=>∃n',n'<n/\I n' env H) Q)){n:Nat}(B:I n env H):TC P h0 N (.loop c) env H Q:=by
 intro L l u σ a w r hrd b k cs hro hb hr;have E:∀m n env H fr1 ro1 σ1 a1 w1,n<m->I n env H->Rel fr1 ro1 σ1 H env N a1 w1->Qh l u w ro1 w1->σ1.take h0=σ.take h0->Grow l w a.defers fr1 a1.defers->
   ∃e h g,QaL h0 l u σ w N a.defers Q e h g/\ArrivesIn (Machine.fenced P (WF L)) P (lone (b.atR a1 (.code c::.inLoop c::k)) cs w1) b k cs e h g:=by
  intro m
  induction m with
  |zero=>omega
  |succ m ih=>
   intro n env H fr1 ro1 σ1 a1 w1 hn B r1 ev1 t1 g1;obtain⟨e,h,g,F,d⟩:=body n env H B L fr1 ro1 σ1 a1 w1 r1 (hrd.to ev1 g1.sub) b (.inLoop c::k) cs hro hb hr;obtain⟨x,f,H',j,σ',t,y,p,G,X,M,Y⟩:=F;have s:=ev1.trans (X.frMono g1.sub);have O:=g1.trans ev1.size Y;have J:∀x,Q x f H'->ExR e x->QaL h0 l u σ w N a.defers Q e h g:=λx q W=>⟨x,f,H',j,σ',t,W,q,G,s,M.trans t1,O⟩;cases e with
   |normal=>
    obtain rfl:x=.normal:=y;obtain⟨n',T,p⟩:=p;obtain⟨V,R,w2,z,i⟩:=ih n' f H' t j σ' h g (by omega) p G s (M.trans t1) O;exact⟨V,R,w2,z,.of_steps (StepsIn.trans d (.one (fenced_calm hb hr rfl) stepR_inLoop)) i⟩
   |exit id=>
    obtain rfl:x=.exit id:=y;exact⟨_,h,g,J _ p rfl,.pass (x:=.inLoop c) rfl (by simp) d⟩
   |ret=>
    obtain rfl:x=.ret:=y;exact⟨_,h,g,J _ p rfl,.pass (x:=.inLoop c) rfl (by simp) d⟩
   |_=>exact y.elim
 obtain⟨e,h,g,F,d⟩:=E (n+1) n env H l u σ a w (Xn _) B r (Qh.refl _ _ _) rfl (Grow.refl _ _ _);exact⟨e,h,g,F,.of_steps (.one (fenced_calm hb hr rfl) stepR_loop) d⟩
section
variable {S E B:Type} {stepE:S->E->Option (Ctl S B)} {stepN:S->Option B} {G:B->Prop} (Es:S->Env) (Hp:S->List (A×A)->Qd) {enc:E->A×A}
def AtP(stepE:S->E->Option (Ctl S B))(stepN:S->Option B)(G:B->Prop)(enc:E->A×A)(h0 n:Nat)(env:Env)(H:Qd):Prop:=
 ∃s l,l.length=n/\Qiq stepE stepN G s l/\Le h0 env H (Es s) (Hp s (l.map enc))
theorem QmM{s0:S}{l0:List E}(h:Qiq stepE stepN G s0 l0)(hI:Le h0 env H (Es s0) (Hp s0 (l0.map enc)))
  (body:∀s l,Qiq stepE stepN G s l->TC P h0 N c (Es s) (Hp s (l.map enc)) (Qb1 (λenv H=>∃n',n'<l.length/\AtP Es Hp stepE stepN G enc h0 n' env H) Q)):TC P h0 N (.loop c) env H Q:=
 QmN (I:=AtP Es Hp stepE stepN G enc h0) (λn env H ⟨s,l,hn,ha,hle⟩=>by subst hn;exact TC.le hle (body s l ha)) ⟨s0,l0,rfl,h,hI⟩
theorem Qkj{α β:Type}{f:α->β}:∀{m e:List β},m.Perm e->∀{l:List α},e=l.map f->∃l':List α,l'.Perm l/\l'.map f=m:=by
 intro m e h
 induction h with
 |nil=>simp
 |cons x _ ih=>
  intro l d;cases l with
  |nil=>cases d
  |cons a l=>
   simp only[Vj,List.cons.injEq]at d;obtain⟨l',g,i⟩:=ih d.2;exact⟨a::l',g.cons _,by grind⟩
 |swap x y m=>
  intro l d
  match l,d with
  |a::b::l,d=>
   simp only[Vj,List.cons.injEq]at d;exact⟨b::a::l,List.Perm.swap _ _ _,by grind⟩
 |trans _ _ ih1 ih2=>
  intro l d;obtain⟨p,g,i⟩:=ih2 d;obtain⟨j,n,k⟩:=ih1 i.symm;exact⟨j,n.trans g,k⟩
theorem QmJ{all:Array Oper}{L:List Oper}{d i:Nat}{x:Operand}{r:Option (A×A)}{s:S}{l:List E}(t:Qiq stepE stepN G s l)
  (F:∀b,stepN s=some b->G b->WO P h0 N all L (up env d (.tup [.bool false])) H Q)
  (B:∀e l' D,stepE s e=some D->(∀b,D=.done b->G b)->(l'.length<l.length/\ ∀s',D=.cont s'->Qiq stepE stepN G s' l')->
   WO P h0 N all L (up env d (.tup [.bool true,(enc e).1,(enc e).2])) (H.set i (.iter (some (enc e)) (l'.map enc))) Q)
  (J:o.op=.next x false:=by exact rfl)(hx:opA env x=.ptr i 0:=by exact rfl)(hH:H[i]?=some (.iter r (l.map enc)):=by exact rfl)
  (hg:Qt all o env true:=by exact rfl)(hd:o.dst=some d:=by exact rfl)(hN:Nat.blt d N=true:=by exact rfl)(hh:Nat.ble h0 H.length=true:=by exact rfl):WO P h0 N all (o::L) env H Q:=by
 refine QmH (XR hh) hg hd hN (OpE.next J hx hH) ?_;rintro v H' (⟨q,rfl,rfl⟩|⟨e,y,q,rfl,rfl⟩)
 .have:l=[]:=List.map_eq_nil_iff.1 q;subst this;obtain⟨b,k,g⟩:=t [] (.refl _);exact F b k g
 .obtain⟨z,k,g⟩:=Qkj q rfl;cases z with
  |nil=>cases g
  |cons a l'=>
   simp only[Vj,List.cons.injEq]at g;obtain⟨rfl,rfl⟩:=g;have h:l'.length<l.length:=by rw[<- k.length_eq];simp
   have f:∀p,p.Perm l'->∃b,Qd6 stepE stepN s (a::p)=some b/\G b:=λp n=>t _ ((n.cons a).trans k);cases m:stepE s a with
   |none=>
    obtain⟨b,j,_⟩:=f l' (.refl _);simp[Qd6,m]at j
   |some D=>
    refine B a l' D m ?_ ⟨h,?_⟩
    .rintro b rfl;obtain⟨u,j,w⟩:=f l' (.refl _)
     grind[Qd6]
    .rintro s' rfl p n;obtain⟨u,j,w⟩:=f p n;simp[Qd6,m]at j;exact⟨u,j,w⟩
theorem Qo0{s:S}{l l':List E}{D:Ctl S B}(e:some (Ctl.cont s)=some D)(hc:l'.length<l.length/\ ∀s',D=.cont s'->Qiq stepE stepN G s' l')(h:Le h0 env H (Es s) (Hp s (l'.map enc))):
  Qb1 (λenv H=>∃n',n'<l.length/\AtP Es Hp stepE stepN G enc h0 n' env H) Q .normal env H:=
 ⟨_,hc.1,s,l',rfl,(by grind),h⟩
theorem QoZ{I:Env->Qd->Prop}{id:Nat}(h:Q (.exit id) env H):Qb1 I Q (.exit id) env H:=h
end
def Qon{B:Type}(h0:Nat)(G:B->Prop)(Eb:B->Env)(Hb:B->Qd)(Q:QA):QA
 |.normal,env,H=>∃b,G b/\Le h0 env H (Eb b) (Hb b)
 |.exit id,env,H=>Q (.exit id) env H
 |.ret,env,H=>Q .ret env H
theorem QnW{S E B:Type}{stepE:S->E->Option (Ctl S B)}{stepN:S->Option B}{G:B->Prop}{s0:S}{l0:List E}(hl:Qiq stepE stepN G s0 l0)(Eb:B->Env)(Hb:B->Qd)
  (h:TC P h0 N c env H (Qon h0 G Eb Hb Q))(k:∀b env H,G b->Le h0 env H (Eb b) (Hb b)->Q .normal env H):TC P h0 N c env H Q:=
 h.mono λx env' H' q=>by
  cases x with
  |normal=>obtain⟨b,e,q⟩:=q;grind
  |exit id=>exact q
  |ret=>exact q
theorem cutGN{B:Type}{G:B->Prop}{Eb:B->Env}{Hb:B->Qd}{b:B}(hG:G b)(h:Le h0 env H (Eb b) (Hb b)):Qon h0 G Eb Hb Q .normal env H:=⟨b,hG,h⟩
theorem Qk4{i:Nat}{f:Option (A×A)}{es:List (A×A)}{H':Qd}(p:H[i]?=some (.iter f es))(e:H.set i (.iter none es)=H'):Le h0 env H env H':=by
 subst e;intro u n σ N a w r;refine⟨n,σ,⟨r.sim.weaken (x':=.iter none es) p rfl ?_,r.env,r.size,r.defers⟩,λ_ q=>q,rfl⟩;intro y h;cases y with
 |none=>exact h
 |some b=>
  rcases h with⟨j,s,k⟩|⟨m,l,d,g,left,j,s,k,x,z,B,t,E⟩
  .exact .inl ⟨j,rfl,k⟩
  .exact .inr (by grind)
end
def mk{α:Type}(n:Int)(z:α):Option (List α):=bif decide (0<=n)&&decide (n<=4294967296)then some (List.replicate n.toNat z)else none
theorem mk_ok{α:Type}{n:Int}{z:α}{l:List α}(h:mk n z=some l):0<=n/\n<=4294967296/\List.replicate n.toNat z=l:=by
 unfold mk at h;cases q:(decide (0<=n)&&decide (n<=4294967296))with
 |true=>rw[q]at h;simp at q;exact⟨q.1,q.2,XZ h⟩
 |false=>rw[q]at h;cases h
theorem QfZ{α:Type}[Inhabited α](zl:List α)(k:Nat)(hk:zl.length=k)(h0:0<k):∀n,(List.range (n*k)).map (λi=>zl.toArray[i%zl.toArray.size]!)=(List.replicate n zl).flatten
 |0=>by simp
 |n+1=>by
  rw[Xl,List.range_add,Xf,QfZ zl k hk h0 n,List.replicate_succ',Xr];congr 1;simp only[Vl,List.flatten_nil,Vg,List.map_map];apply List.ext_getElem
  .simp[hk]
  .intro i h1 h2;simp only[X2,List.length_range]at h1;simp only[List.getElem_map,List.getElem_range,Function.comp,List.size_toArray,hk];rw[Nat.mul_comm,Nat.mul_add_mod,Nat.mod_eq_of_lt h1];simp[hk,h1]
section
variable {P:Program} {o:Oper} {env:Env} {H:Qd} {ro:Nat->Prop} {σ:Sig} {w:World}
theorem LR.replicate{az:List A}{l:List Value}(h:LR ro σ w az l):∀n,LR ro σ w (List.replicate n az).flatten (List.replicate n l).flatten
 |0=>rfl
 |n+1=>by
  rw[List.replicate_succ,List.replicate_succ];exact h.append (LR.replicate h n)
theorem QjC{α:Type}{e:α->List A}{T et k:Nat}{x y:Operand}{kx L:IntKind}{n:Int}{zv:α}{l:List α}{z:Value}{a:A}(M:mk n zv=some l)(E:Q6 P T et k)(hz:∀w,(zeroValue et).run P w=.ok z w)(Y:ZR a z)
  (hk:Yg a=true)(hc:Q5 a=e zv)(hp:(Q5 a).all Ym=true)(p:Nat.beq (e zv).length k=true)
  (ho:o.op=.makeSlice T x y:=by exact rfl)(hx:opA env x=.int kx n:=by exact rfl)(hy:opA env y=.int L n:=by exact rfl)
  {fr ro:Nat->Prop}{σ:Sig}{N:Nat}{act:Act}{w:World}(r:Rel fr ro σ H env N act w):∃lv:List Value,(execOp act.eval o).run P w=.ok (.value (.slice (some ⟨w.heap.size,0,none⟩) l.length l.length)) (w.alloc (.cells lv.toArray et))/\
   LR ro [] w (l.map e).flatten lv/\(∀v∈lv,Qp v)/\allK k (l.map e)/\lv.length=l.length*k/\l.length<=4294967296:=by
 obtain⟨n0,n1,hl⟩:=mk_ok M;have V:=Qi r x;rw[hx]at V;have h2:=Qi r y;rw[hy]at h2;have ac:act.eval x=.int kx n:=V;have ab:act.eval y=.int L n:=h2;obtain⟨i,hi,af⟩:=E.bytes;obtain⟨d,c1,c2⟩:=(Y ro [] w).cells hk;have s:d.length=k:=by
  rw[c2.length,hc];exact XQ p
 have ad:(if n.toNat*k=0 then(#[]:Array Value)else d.toArray)=d.toArray\/n.toNat*k=0:=by
  by_cases q:n.toNat*k=0
  .exact .inr q
  .exact .inl (Vs q)
 have b:∀(ZZ:Array Value),(ZZ=d.toArray\/n.toNat*k=0)->(Array.range (n.toNat*k)).map (λj=>ZZ[j%ZZ.size]!)=((List.replicate n.toNat d).flatten).toArray:=by
  intro ZZ hZ;by_cases q:n.toNat*k=0
  .rw[q];have:(List.replicate n.toNat d).flatten=[]:=by
    apply VJ.1;simp[s,q]
   rw[this];simp
  .obtain rfl:ZZ=d.toArray:=hZ.resolve_right q;have J:0<k:=by
    rcases Nat.eq_zero_or_pos k with h|h
    .rw[h,Xx]at q;exact absurd rfl q
    .exact h
   rw[<- QfZ d k s J n.toNat];simp[XI, <- List.toArray_range]
 have t:=c2.replicate n.toNat;have Q:allK k (List.replicate n.toNat (e zv)):=by
  have:∀m,allK k (List.replicate m (e zv)):=by
   intro m
   induction m with
   |zero=>trivial
   |succ m ih=>exact⟨XQ p,ih⟩
  exact this _
 have f:∀v∈(List.replicate n.toNat d).flatten,Qp v:=by
  intro v G;obtain⟨m,M,G⟩:=List.mem_flatten.1 G;rw[List.eq_of_mem_replicate M]at G;exact c2.plain hp v G
 rw[hc]at t;have g:l.map e=List.replicate n.toNat (e zv):=by rw[<- hl,List.map_replicate]
 have F:l.length=n.toNat:=by rw[<- hl];simp
 refine⟨(List.replicate n.toNat d).flatten,?_,by rw[g];exact t,f,by rw[g];exact Q,by rw[F];simp[s],by omega⟩;rw[F]
 .have hw:IntKind.i64.wrap n=n:=by
   unfold IntKind.wrap;simp[IntKind.bits,IntKind.signed];omega
  have X:∀(x:Nat) (W:World),(askRoom x).run P W=.ok () W:=by
   intro x W;unfold askRoom;split<;>rfl
  have B:∀(c:Array Value) (W:World),(newRow et c).run P W=.ok ⟨W.heap.size,0,none⟩ (W.alloc (.cells c et)):=λc W=>rfl;have R:¬(n<0):=by omega
  have aa:¬((i.bytes:Int)*n>2^48):=by
   have V:(i.bytes:Int)*n<=4096*4294967296:=Int.mul_le_mul (by omega) n1 n0 (by omega);omega
  have u:(Instr.makeSlice T (.int kx n) (.int L n)).run P w=.ok (.slice (some ⟨w.heap.size,0,none⟩) n.toNat n.toNat) (w.alloc (.cells ((List.replicate n.toNat d).flatten).toArray et)):=by
   have ae:¬(n>n):=by omega
   have O:∀(k:IntKind) (m:Int) (W:World),(asInt (.int k m)).run P W=.ok m W:=λk m W=>rfl;unfold Instr.makeSlice;simp only[Vm,E.sl,E.size,hi,Result.andThen,O,Vn,hw,X,XH];rw[Vs (by simp[R,aa];omega)];by_cases q:n.toNat*k=0
   .simp only[q,if_true,Vn];have:=b #[] (.inr q);rw[q]at this;simp only[this,B]
   .simp only[q,if_false,hz,Vn,c1,b d.toArray (.inl rfl),B]
  generalize act.eval=ρ at*;simp only[execOp,ho,ac,ab,Vm,u,Result.andThen];rfl
theorem Qj1{α:Type}{e:α->List A}{T et k:Nat}{x y:Operand}{j p:IntKind}{n:Int}{zv:α}{l:List α}{z:Value}{a:A}(q:mk n zv=some l)(E:Q6 P T et k)(s:∀w,(zeroValue et).run P w=.ok z w)(d:ZR a z)
  (i:Yg a=true)(h:Q5 a=e zv)(g:(Q5 a).all Ym=true)(b:Nat.beq (e zv).length k=true)
  (J:o.op=.makeSlice T x y:=by exact rfl)(hx:opA env x=.int j n:=by exact rfl)(hy:opA env y=.int p n:=by exact rfl):
  OpH P o env H (.osl H.length 0 l.length k) (H++[.row et k (l.map e)]):=by
 intro O u σ N act w r;obtain⟨M,F,m,G,B,L,Q⟩:=QjC q E s d i h g b J hx hy r;have f:=r.sim.allocRow (t:=et) (rest:=[]) B m G;rw[Vg]at f;refine⟨_,_,u,[some w.heap.size],F,.inr ⟨w.heap.size,0,l.length,et,M.length,?_,rfl,λ_=>by simp,⟨XT _,by omega⟩,?_,by rw[L,Xv];exact XT _⟩,f,Qh.alloc _ r.sim.roLt r.sim.frLt⟩
 .rw[<- r.sim.len];simp
 .unfold World.shape?;rw[QY];simp
end
open Go.Sort Go.Proofs Go.Shelf
section
variable {α:Type}
def ins(lt:α->α->Bool)(x:α):List α->List α
 |[]=>[x]
 |y::l=>bif lt y x then y::ins lt x l else x::y::l
def QaT(lt:α->α->Bool):List α->List α
 |[]=>[]
 |x::l=>ins lt x (QaT lt l)
theorem QeW(lt:α->α->Bool)(x:α):∀l,(ins lt x l).Perm (x::l)
 |[]=>.refl _
 |y::l=>by
  unfold ins;cases lt y x
  .exact .refl _
  .exact((QeW lt x l).cons y).trans (List.Perm.swap _ _ _)
theorem QK(lt:α->α->Bool):∀l,(QaT lt l).Perm l
 |[]=>.refl _
 |x::l=>(QeW lt x _).trans ((QK lt l).cons x)
structure Qfo (lt:α->α->Bool) (l:List α):Prop where
 irrefl:∀x∈l,lt x x=false
 trans:∀x∈l,∀y∈l,∀z∈l,lt x y=true->lt y z=true->lt x z=true
 ntrans:∀x∈l,∀y∈l,∀z∈l,lt x y=false->lt y z=false->lt x z=false
theorem Qfo.mono{lt:α->α->Bool}{l m:List α}(h:Qfo lt l)(hm:∀x∈m,x∈l):Qfo lt m:=
 ⟨λx hx=>h.irrefl x (hm x hx),λx hx y hy z hz=>h.trans x (hm x hx) y (hm y hy) z (hm z hz),λx hx y hy z hz=>h.ntrans x (hm x hx) y (hm y hy) z (hm z hz)⟩
theorem Qfo.asymm{lt:α->α->Bool}{l:List α}(h:Qfo lt l){x y:α}(a:x∈l)(d:y∈l)(b:lt x y=true):lt y x=false:=by
 cases q:lt y x
 .rfl
 .rw[<- h.irrefl x a,h.trans x a y d x a b q]
theorem QeV{lt:α->α->Bool}{x:α}:∀{l:List α},Qfo lt (x::l)->l.Pairwise (λa b=>lt b a=false)->(ins lt x l).Pairwise (λa b=>lt b a=false)
 |[],_,_=>by simp[ins]
 |y::l,h,hp=>by
  obtain⟨h1,h2⟩:=Xc.1 hp;unfold ins;cases q:lt y x
  .refine Xc.2 ⟨λz hz=>?_,hp⟩;rcases X6.1 hz with rfl|hz
   .exact q
   .exact h.ntrans z (by simp[hz]) y (by simp) x (by simp) (h1 z hz) q
  .refine Xc.2 ⟨λz hz=>?_,QeV (h.mono (by grind)) h2⟩;rcases X6.1 ((QeW lt x l).mem_iff.1 hz)with rfl|hz
   .exact h.asymm (by simp) (by simp) q
   grind
theorem Yv{lt:α->α->Bool}:∀{l:List α},Qfo lt l->(QaT lt l).Pairwise (λa b=>lt b a=false)
 |[],_=>by simp[QaT]
 |x::l,h=>QeV (h.mono (by
   intro z hz;rcases X6.1 hz with rfl|hz
   .simp
   grind[QK])) (Yv (h.mono (by grind)))
theorem Qbh{lt:α->α->Bool}:∀{l m:List α},l.Perm m->(∀x∈l,∀y∈l,lt x y=false->lt y x=false->x=y)->l.Pairwise (λa b=>lt b a=false)->m.Pairwise (λa b=>lt b a=false)->l=m
 |[],m,h,_,_,_=>by simp_all
 |x::l,[],h,_,_,_=>by simp_all
 |x::l,y::m,h,ha,hl,hm=>by
  obtain⟨l1,l2⟩:=Xc.1 hl;obtain⟨m1,m2⟩:=Xc.1 hm;have hy:y∈x::l:=h.mem_iff.2 (by simp);have hx:x∈y::m:=h.mem_iff.1 (by simp);have hxy:x=y:=by
   grind
  subst hxy;rw[Qbh (by simp_all) (by grind) l2 m2]
def ltO(cf:α->α->Option Int)(x y:α):Bool:=match cf x y with
 |some c=>decide (c<0)
 |none=>false
def Qh9[DecidableEq α](cf:α->α->Option Int)(l:List α):Bool:=
 l.all λx=> !ltO cf x x&&l.all λy=>(cf x y).isSome&&(ltO cf x y||ltO cf y x||decide (x=y))&&l.all λz=>(!ltO cf x y|| !ltO cf y z||ltO cf x z)&&(ltO cf x y||ltO cf y z|| !ltO cf x z)
def QbC[DecidableEq α](cf:α->α->Option Int)(l:List α):Option (List α):=bif Nat.ble l.length Q9&&Qh9 cf l then some (QaT (ltO cf) l)else none
theorem Qez[DecidableEq α]{cf:α->α->Option Int}{l l':List α}(h:QbC cf l=some l'):
  l.length<=Q9/\(∀x∈l,∀y∈l,∃c,cf x y=some c)/\Qfo (ltO cf) l/\(∀x∈l,∀y∈l,ltO cf x y=false->ltO cf y x=false->x=y)/\QaT (ltO cf) l=l':=by
 unfold QbC at h;cases g:Nat.ble l.length Q9 with
 |false=>grind
 |true=>
 rw[g,VA]at h;cases q:Qh9 cf l with
 |false=>grind
 |true=>
  rw[q]at h;refine⟨(by simp_all),?_⟩;unfold Qh9 at q;simp only[Xs,XW,Bool.not_eq_true',Bool.or_eq_true,Vr]at q;refine⟨λx a y b=>Option.isSome_iff_exists.1 ((q x a).2 y b).1.1,⟨λx a=>(q x a).1,λx a y b z f d e=>?_,λx a y b z f d e=>?_⟩,λx a y b d e=>?_,XZ h⟩
  .grind
  .grind
  grind
theorem Qlm[DecidableEq α]{cf:α->α->Option Int}{l:List α}(a:l.length<=Q9)(c:α->α->Int)(f:∀x∈l,∀y∈l,cf x y=some (c x y))(hi:∀x∈l,¬c x x<0)
  (b:∀x∈l,∀y∈l,∀z∈l,c x y<0->c y z<0->c x z<0)(e:∀x∈l,∀y∈l,∀z∈l,¬c x y<0->¬c y z<0->¬c x z<0)(d:∀x∈l,∀y∈l,¬c x y<0->¬c y x<0->x=y):
  QbC cf l=some (QaT (ltO cf) l):=by
 have g:∀x∈l,∀y∈l,ltO cf x y=decide (c x y<0):=λx i y h=>by unfold ltO;grind
 have q:Qh9 cf l=true:=by
  unfold Qh9
  grind
 simp_all[QbC,XS]
theorem Qa4[DecidableEq α]{cf:α->α->Option Int}{l l':List α}(h:QbC cf l=some l'):l.length=l'.length:=by
 rw[<- (Qez h).2.2.2.2];exact(QK _ _).length_eq.symm
theorem Q1{l l':List α}{i:Int}{x:α}(h:QaX l i x=some l'):l.length=l'.length:=by
 grind[QaX]
theorem Qw{d:Nat}{env:Env}{H:Qd}{s:Nat}{a a':A}(h:lk env s=a)(e:a=a'):Le d env H (up env s a') H:=by
 intro g f σ N act w r;refine⟨f,σ,⟨r.sim,λb=>?_,r.size,r.defers⟩,λ_ q=>q,rfl⟩;subst e;have:lk (up env s a) b=lk env b:=by
  simp only[lk];cases q:Nat.beq b s with
  |true=>simp_all
  |false=>rfl
 rw[this];exact r.env b
end
section
variable {fr ro:Nat->Prop} {σ:Sig} {H:Qd} {w w':World}
theorem QdS(hh:∀b,b<w.heap.size->w'.heap[b]?=w.heap[b]?)(hro:∀b,ro b->b<w.heap.size)(σ:Sig):Ext ro σ w ro σ w':=
 ⟨λ_ q=>q,(by grind),λb x hx=>by grind[World.shape?],λ_ _ q=>q⟩
theorem Sim.grown(s:Sim fr ro σ H w)(a:∀b,b<w.heap.size->w'.heap[b]?=w.heap[b]?)(g:w.heap.size<=w'.heap.size):Sim fr ro σ H w':=by
 refine⟨s.len,s.roOk.to (λ_ q=>q) (λb q=>a b (s.roLt b q)) (λb h=>Vf (s.roLt b h) g),λb h=>Vf (s.frLt b h) g,s.roFr,λi b x e f n=>?_,s.inj,λi y x e f=>?_,s.hidTo (· = ·) Q2 g (by simp) (by simp) λj d y k m r=>.inl ⟨j,y,rfl,k,m,id,λc q=>s.hidKeep k m (λz=>a d (s.own j d y k m z).1) (λb q=>a b (s.roLt b q)) q⟩⟩
 .obtain⟨p,q⟩:=s.own i b x e f n
  grind
 .refine(s.blk i y x e f).keep (QdS a s.roLt σ) ?_ ?_
  .rintro b rfl l;exact a b (s.own i b x e f l).1
  .rintro b c rfl l;exact a c (s.hid i b x c e f l).lt
theorem Qh.grown(hh:∀b,b<w.heap.size->w'.heap[b]?=w.heap[b]?)(hs:w.heap.size<=w'.heap.size)(s:Sim fr ro σ H w)(ho:w'.os=w.os)(ht:w'.tape=w.tape)(hu:w'.output=w.output)(hd:w.drawn<=w'.drawn):Qh fr ro w ro w':=
 ⟨λ_ q=>q,λb h=>hh b (s.roLt b h),λb h=>hh b (s.frLt b h),hs,(QdS hh s.roLt σ).shape,ho,ht,hu,hd⟩
theorem QnA(h:∀b,b<w.heap.size->w'.heap[b]?=w.heap[b]?)(i:w.heap.size<=w'.heap.size)(e:w'.os=w.os)(d:w'.tape=w.tape)(f:w'.output=w.output)(j:w.drawn<=w'.drawn):
  ∃q os',w'=grow (w.drewN q) os':=by
 refine⟨w'.drawn-w.drawn,w'.heap.extract w.heap.size w'.heap.size,?_⟩;obtain⟨a,l,g,k,m⟩:=w';simp only at h i e d f j;subst e d f;unfold grow World.drewN;have n:a=w.heap++a.extract w.heap.size a.size:=by
  grind
 have p:g=w.drawn+(g-w.drawn):=by omega
 grind
end
end Go.Sw
