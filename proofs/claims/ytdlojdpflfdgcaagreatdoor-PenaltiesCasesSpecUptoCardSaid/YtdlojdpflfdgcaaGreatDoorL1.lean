/- The rules by which the code is walked, with what they rest on (part 1). -/
import Derived.Calls
import Derived.Tactics
import Derived.Below
import Derived.TacticsIn
import Derived.OrdersIn
import Derived.RangeFuncLeaves
import Derived.RangeFuncRecord
import Derived.Laws.Strings
import Derived.Laws.World
import Derived.Orders
import Derived.Maps.Keyed
import Derived.Laws.StructEq
import Derived.Maps.RangeRun
import Derived.Shelf.SlSortCmp.NoneTotal
set_option linter.unusedVariables false
set_option linter.unusedSimpArgs false
set_option linter.unusedSectionVars false
namespace Go.Sw
abbrev Xa:= @List.getElem?_set_self
abbrev Xb:= @List.getElem?_set
abbrev Xc:= @List.pairwise_cons
abbrev Xd:= @List.filter_cons
abbrev Xe:= @List.mem_filter
abbrev Xf:= @List.mem_map
abbrev Xg:= @List.map_append
abbrev Xh:= @Bool.not_true
abbrev Xi:= @Bool.not_false
abbrev Xj:= @Bool.false_eq_true
abbrev Xk:= @Option.map_some
abbrev Xl:= @Option.map_none
abbrev Xm:= @Nat.succ_mul
abbrev Xn:= @Nat.lt_succ_self
abbrev Xo:= @List.getElem?_map
abbrev Xp:= @List.drop_eq_getElem_cons
abbrev Xq:= @List.drop_eq_nil_iff
abbrev Xr:= @List.drop_length
abbrev Xs:= @List.all_eq_true
abbrev Xt:= @List.any_eq_true
abbrev Xu:= @Nat.zero_add
abbrev Xv:= @Nat.add_zero
abbrev Xw:= @List.length_take
abbrev Xx:= @List.take_append_drop
abbrev Xy:= @Nat.add_mul
abbrev Xz:= @Nat.min_eq_left
abbrev XA:= @Nat.mul_le_mul_right
abbrev XB:= @List.foldl_cons
abbrev XC:= @List.getElem?_cons_zero
abbrev XD:= @List.getElem?_cons_succ
abbrev XE:= @List.getElem?_toArray
abbrev XF:= @List.map_toArray
abbrev XG:= @Option.bind_some
abbrev XH:= @List.getElem?_eq_getElem
abbrev XI:= @List.getElem?_eq_some_iff
abbrev XJ:= @List.getElem?_append_left
abbrev XK:= @List.getElem?_append_right
abbrev XL:= @List.getElem?_eq_none
abbrev XM:= @List.getElem?_set_ne
abbrev XN:= @Nat.eq_of_beq_eq_true
abbrev XO:= @Nat.le_of_ble_eq_true
abbrev XP:= @Nat.ble_eq_true_of_le
abbrev XQ:= @Nat.le_refl
abbrev XR:= @Nat.zero_le
abbrev XS:= @Nat.le_trans
abbrev XT:= @Bool.and_eq_true
abbrev XU:= @Bool.eq_iff_iff
abbrev XV:= @Option.some.inj
abbrev XW:= @List.length_cons
abbrev XX:= @List.length_map
abbrev XY:= @List.length_append
abbrev XZ:= @List.length_set
abbrev X0:= @List.mem_cons
abbrev X2:= @List.take_append_of_le_length
abbrev X3:= @List.drop_append_of_le_length
abbrev X4:= @List.take_length
abbrev X5:= @List.drop_length_add_append
abbrev X6:= @List.take_length_add_append
abbrev X7:= @Array.getElem?_eq_some_iff
abbrev X8:= @Array.getElem?_setIfInBounds
abbrev X9:= @Nat.lt_of_lt_of_le
abbrev Va:= @List.append_nil
abbrev Vb:= @List.nil_append
abbrev Vc:= @List.append_assoc
abbrev Vd:= @List.map_cons
abbrev Ve:= @List.map_nil
abbrev Vf:= @List.flatten_cons
abbrev Vg:= @Sem.run_bind
abbrev Vh:= @Sem.run_pure
abbrev Vi:= @cond_true
abbrev Vj:= @cond_false
abbrev Vk:= @decide_eq_true_eq
abbrev Vl:= @if_neg
abbrev Vm:= @if_pos
abbrev Vn:= @decide_eq_true
abbrev Vp:= @of_decide_eq_true
abbrev Vq:= @of_decide_eq_false
abbrev Vr:= @decide_eq_false
abbrev Vs:= @beq_iff_eq
abbrev Vt:= @beq_eq_false_iff_ne
abbrev Vu:= @Bool.true_and
abbrev Vv:= @List.mem_singleton
abbrev Vw:= @Nat.lt_or_ge
abbrev Vx:= @List.mem_append
abbrev Vy:= @List.pairwise_iff_getElem
abbrev Vz:= @Nat.beq_refl
abbrev VA:= @List.mem_map_of_mem
abbrev VB:= @List.mem_of_getElem?
abbrev VC:= @List.take_of_length_le
abbrev VD:= @List.length_eq_zero_iff
abbrev VE:= @List.cons_append
abbrev VF:= @List.getD_eq_getElem?_getD
abbrev VG:= @Bool.eq_false_iff
def QmP:Nat:=11
def nG:Nat:=12
def QkE:List (List Int):=[[1,9999],[-1099511627776,1099511627776],[0,1048576],[0,39],[0,255],[0,1099511627776],[0,255],[1,1048576],[0,1],[0,31],[1,1048576]]
theorem gOk:((List.range nG).all λb=>Nat.beq b QmP|| !(QkE.getD b []).isEmpty)=true:=by decide
theorem gLt:Nat.ble QkE.length nG=true:=by decide
theorem QqO:Nat.blt QmP nG=true:=by decide
structure GP (w:World):Prop where
 max:∃m:Int,w.cell? ⟨QmP,0,none⟩=some (.int .i64 m)
 tab:∀(g:Nat) (zs:List Int),QkE[g]?=some zs->∀(i:Nat) (z:Int),zs[i]?=some z->w.cell? ⟨g,i,none⟩=some (.int .i64 z)
variable {w w':World}
theorem GP.keep(h:∀b,b<nG->w'.heap[b]?=w.heap[b]?)(g:GP w):GP w':=by
 obtain⟨m,e⟩:=g.max;refine⟨⟨m,?_⟩,λa f d i z j=>?_⟩
 .rw[<- e];unfold World.cell?;rw[h QmP (by simpa using QqO)]
 .rw[<- g.tab a f d i z j];unfold World.cell?;have k:=(XI.1 d).1;have l:QkE.length<=nG:=by simpa using gLt
  rw[h a (by omega)]
theorem Qhm{b i:Nat}{v:Value}(h:w.cell? ⟨b,i,none⟩=some v):b<w.heap.size:=by
 cases e:w.heap[b]? with
 |none=>simp[World.cell?,e]at h
 |some o=>exact(X7.1 e).1
theorem GP.size{w:World}(g:GP w)(b:Nat)(d:b<nG):b<w.heap.size:=by
 have h:=Xs.1 gOk b (List.mem_range.2 d);rw[Bool.or_eq_true]at h;rcases h with h|h
 .obtain⟨m,f⟩:=g.max;rw[XN h];exact Qhm f
 .cases e:QkE[b]? with
  |none=>rw[VF,e]at h;simp at h
  |some a=>
   cases a with
   |nil=>rw[VF,e]at h;simp at h
   |cons z a=>exact Qhm (g.tab b _ e 0 z rfl)
inductive A where
 |any
 |bool (b:Bool)
 |int (k:IntKind) (n:Int)
 |str (s:List UInt8)
 |nilp
 |ptr (i off:Nat)
 |rp (cs:List A)
 |nils
 |rsl (k:Nat) (es:List (List A))
 |osl (i o n k:Nat)
 |agg (cs:List A)
 |fn (f:Fn) (first cap:List A)
 |nilf
 |iface (t:Nat) (v:A)
 |nilif
 |map (i:Nat)
 |nilm
 |tup (vs:List A)
abbrev Sig:=List (Option Nat)
def Qy:Value->Prop
 |.agg _|.tuple _=>False
 |_=>True
mutual
def VR(ro:Nat->Prop)(U:Sig)(w:World):A->Value->Prop
 |.any,_=>True
 |.bool b,v=>v=.bool b
 |.int k n,v=>v=.int k n
 |.str s,v=>v=.string ⟨s.toArray⟩
 |.nilp,v=>v=.pointer none
 |.ptr i off,v=>∃b,U[i]?=some (some b)/\v=.pointer (some ⟨b,off,none⟩)
 |.rp cs,v=>∃b off,v=.pointer (some ⟨b,off,none⟩)/\ro b/\CR ro [] w b cs off
 |.nils,v=>v=.slice none 0 0
 |.rsl k es,v=>∃a cap,v=.slice a es.length cap/\es.length<=cap/\
   (es=[]\/ ∃b off,a=some ⟨b,off,none⟩/\ro b/\RR ro [] w b k es off)
 |.osl i o n k,v=>(n=0/\v=.slice none 0 0)\/
   ∃b p cap t m,U[i]?=some (some b)/\v=.slice (some ⟨b,p,none⟩) n cap/\(0<cap->p=o*k)/\(n<=cap/\cap<=9223372036854775807)/\w.shape? b=some (t,m)/\(o+cap)*k<=m
 |.agg cs,v=>∃l:List Value,v=.agg l.toArray/\LR ro U w cs l
 |.fn f first cap,v=>∃l l':List Value,v=.func f l.toArray l'.toArray/\LR ro U w first l/\LR ro U w cap l'
 |.nilf,v=>v=.nilFunc
 |.iface t a,v=>∃x,v=.iface t x/\VR ro U w a x
 |.nilif,v=>v=.nilIface
 |.map i,v=>∃b,U[i]?=some (some b)/\v=.map (some b)
 |.nilm,v=>v=.map none
 |.tup vs,v=>∃l:List Value,v=.tuple l.toArray/\LR ro U w vs l
def CR(ro:Nat->Prop)(U:Sig)(w:World)(b:Nat):List A->Nat->Prop
 |[],_=>True
 |a::r,off=>(∃v,w.cell? ⟨b,off,none⟩=some v/\Qy v/\VR ro U w a v)/\CR ro U w b r (off+1)
def RR(ro:Nat->Prop)(U:Sig)(w:World)(b k:Nat):List (List A)->Nat->Prop
 |[],_=>True
 |cs::r,off=>cs.length=k/\CR ro U w b cs off/\RR ro U w b k r (off+k)
def LR(ro:Nat->Prop)(U:Sig)(w:World):List A->List Value->Prop
 |[],l=>l=[]
 |a::r,l=>∃v l',l=v::l'/\VR ro U w a v/\LR ro U w r l'
end
structure Ext (ro:Nat->Prop) (U:Sig) (w:World) (ro':Nat->Prop) (σ':Sig) (w':World):Prop where
 sub:∀b,ro b->ro' b
 keep:∀b,ro b->w'.heap[b]?=w.heap[b]?
 shape:∀b x,w.shape? b=some x->w'.shape? b=some x
 sig:∀(i b:Nat),U[i]?=some (some b)->σ'[i]?=some (some b)
variable {off:Nat}
theorem Qhn{b:Nat}(h:w'.heap[b]?=w.heap[b]?):w'.cell? ⟨b,off,none⟩=w.cell? ⟨b,off,none⟩:=by
 simp only[World.cell?,h]
variable {ro ro':Nat->Prop}{U:Sig}
theorem Ext.nil{σ':Sig}(h:Ext ro U w ro' σ' w'):Ext ro [] w ro' [] w':=
 ⟨h.sub,h.keep,h.shape,λ_ _ q=>q⟩
mutual
theorem VR.mono{ro ro':Nat->Prop}{w w':World}:∀{a:A} {U σ':Sig} {v:Value},Ext ro U w ro' σ' w'->VR ro U w a v->VR ro' σ' w' a v
 |.any,_,_,_,h,_=>trivial
 |.bool b,_,_,v,h,q=>q
 |.int k n,_,_,v,h,q=>q
 |.str s,_,_,v,h,q=>q
 |.nilp,_,_,v,h,q=>q
 |.ptr i off,_,_,v,h,q=>by
  simp only[VR]at q⊢;obtain⟨b,h1,h2⟩:=q;exact⟨b,h.sig _ _ h1,h2⟩
 |.rp cs,_,_,v,h,q=>by
  simp only[VR]at q⊢;obtain⟨b,off,h1,h2,h3⟩:=q;exact⟨b,off,h1,h.sub _ h2,CR.mono h.nil h2 h3⟩
 |.nils,_,_,v,h,q=>q
 |.rsl k es,_,_,v,h,q=>by
  simp only[VR]at q⊢;obtain⟨a,cap,h1,h2,h3⟩:=q;refine⟨a,cap,h1,h2,?_⟩;rcases h3 with h3|⟨b,off,h4,h5,h6⟩
  .exact .inl h3
  .exact .inr ⟨b,off,h4,h.sub _ h5,RR.mono h.nil h5 h6⟩
 |.osl i o n k,_,_,v,h,q=>by
  simp only[VR]at q⊢;rcases q with q|⟨b,p,cap,t,m,h1,h2,h6,h3,h4,h5⟩
  .exact .inl q
  .exact .inr ⟨b,p,cap,t,m,h.sig _ _ h1,h2,h6,h3,h.shape _ _ h4,h5⟩
 |.agg cs,_,_,v,h,q=>by
  simp only[VR]at q⊢;obtain⟨l,h1,h2⟩:=q;exact⟨l,h1,LR.mono h h2⟩
 |.fn f a c,_,_,v,h,q=>by
  simp only[VR]at q⊢;obtain⟨l,l',h1,h2,h3⟩:=q;exact⟨l,l',h1,LR.mono h h2,LR.mono h h3⟩
 |.nilf,_,_,v,h,q=>q
 |.iface t a,_,_,v,h,q=>by
  simp only[VR]at q⊢;obtain⟨x,h1,h2⟩:=q;exact⟨x,h1,VR.mono h h2⟩
 |.nilif,_,_,v,h,q=>q
 |.map i,_,_,v,h,q=>by
  simp only[VR]at q⊢;obtain⟨b,h1,h2⟩:=q;exact⟨b,h.sig _ _ h1,h2⟩
 |.nilm,_,_,v,h,q=>q
 |.tup vs,_,_,v,h,q=>by
  simp only[VR]at q⊢;obtain⟨l,h1,h2⟩:=q;exact⟨l,h1,LR.mono h h2⟩
theorem CR.mono{ro ro':Nat->Prop}{w w':World}:∀{cs:List A} {U σ':Sig} {b off:Nat},Ext ro U w ro' σ' w'->ro b->CR ro U w b cs off->CR ro' σ' w' b cs off
 |[],_,_,_,_,_,_,_=>trivial
 |a::r,_,_,b,off,h,hb,q=>by
  simp only[CR]at q⊢;obtain⟨⟨v,h1,hp,h2⟩,h3⟩:=q;exact⟨⟨v,by rw[Qhn (h.keep _ hb)];exact h1,hp,VR.mono h h2⟩,CR.mono h hb h3⟩
theorem RR.mono{ro ro':Nat->Prop}{w w':World}:∀{es:List (List A)} {U σ':Sig} {b k off:Nat},Ext ro U w ro' σ' w'->ro b->RR ro U w b k es off->RR ro' σ' w' b k es off
 |[],_,_,_,_,_,_,_,_=>trivial
 |cs::r,_,_,b,k,off,h,hb,q=>by
  simp only[RR]at q⊢;obtain⟨h1,h2,h3⟩:=q;exact⟨h1,CR.mono h hb h2,RR.mono h hb h3⟩
theorem LR.mono{ro ro':Nat->Prop}{w w':World}:∀{az:List A} {U σ':Sig} {l:List Value},Ext ro U w ro' σ' w'->LR ro U w az l->LR ro' σ' w' az l
 |[],_,_,_,h,q=>q
 |a::r,_,_,l,h,q=>by
  simp only[LR]at q⊢;obtain⟨v,l',h1,h2,h3⟩:=q;exact⟨v,l',h1,VR.mono h h2,LR.mono h h3⟩
end
structure Ent where
 fl:Bool
 off:Nat
 lo:Int
 hi:Int
def winL(i n c:Nat):List (List A):=(List.range c).map λj=>[.osl i (j*n) n 1]
def eC(b1 b2:Nat)(e:Ent):List A:=[.ptr (bif e.fl then b2 else b1) e.off,.int .i64 e.lo,.int .i64 e.hi]
inductive Blk where
 |dead
 |cells (t:Nat) (cs:List A)
 |row (t k:Nat) (es:List (List A))
 |rowr (t k:Nat) (es:List (List A))
 |map (es:List (A×A))
 |iter (cur:Option (A×A)) (es:List (A×A))
 |fmap (es:List (A×A))
 |ents (t b1 b2:Nat) (es:List Ent)
 |wins (t b n c:Nat)
 |mapO (fz:Bool) (t k:Nat) (es:List (A×Option (List (List A))))
 |mapP (es:List (A×A))
 |frow (t k:Nat) (es:List (List A))
def Blk.live:Blk->Bool
 |.dead=>false
 |.fmap _=>false
 |.frow _ _ _=>false
 |.mapO fz _ _ _=> !fz
 |_=>true
def Blk.held:Blk->Bool
 |.mapO fz _ _ _=>fz
 |_=>false
def Blk.holds(x:Blk):Bool:=x.live||x.held
theorem Qas{x:Blk}(h:x.live=true):x≠ .dead:=by rintro rfl;cases h
theorem Qe5{x:Blk}(h:x.holds=true):x≠ .dead:=by rintro rfl;cases h
theorem QbI{x:Blk}(h:x.live=true):x.holds=true:=by unfold Blk.holds;rw[h];rfl
abbrev Qc:=List Blk
def ER(ro:Nat->Prop)(U:Sig)(w:World):List (A×A)->List MapEntry->Prop
 |[],l=>l=[]
 |x::r,l=>∃e l',l=e::l'/\VR ro U w x.1 e.key/\VR ro U w x.2 e.val/\ER ro U w r l'
def ItR(ro:Nat->Prop)(w:World)(b:Nat)(cur:Option (A×A))(es:List (A×A)):Prop:=
 (es=[]/\cur=none/\w.heap[b]?=some (.mapIter none 0 #[] 0))\/
 ∃m l clock seen left,w.heap[b]?=some (.mapIter (some m) clock seen clock)/\ro m/\w.heap[m]?=some (.map l clock)/\(∀e∈l.toList,e.born<clock)/\(l.toList.map (·.born)).Nodup/\
  (left:List MapEntry).Perm (l.toList.filter λe=> !seen.contains e.born)/\ER ro [] w es left/\
  (∀x,cur=some x->∃e∈l.toList,seen.back? =some e.born/\VR ro [] w x.1 e.key/\VR ro [] w x.2 e.val)
def RL(ro:Nat->Prop)(U:Sig)(w:World)(k:Nat):List (List A)->List Value->Prop
 |[],_=>True
 |c::es,l=>∃l1 l2,l=l1++l2/\c.length=k/\(LR ro U w c l1/\ ∀v∈l1,Qy v)/\RL ro U w k es l2
theorem RL.mono{ro ro':Nat->Prop}{U σ':Sig}{w w':World}(h:Ext ro U w ro' σ' w'){k:Nat}:∀{es:List (List A)} {l:List Value},RL ro U w k es l->RL ro' σ' w' k es l
 |[],_,_=>trivial
 |c::es,l,⟨l1,l2,h1,h2,h3,h4⟩=>⟨l1,l2,h1,h2,⟨h3.1.mono h,h3.2⟩,RL.mono h h4⟩
def SO(ro:Nat->Prop)(w:World)(t k:Nat)(rows:List (List A))(v:Value):Prop:=
 (rows=[]/\v=.slice none 0 0)\/ ∃(c p cap:Nat) (vs:List Value),v=.slice (some ⟨c,p,none⟩) rows.length cap/\(rows.length<=cap/\cap<=9223372036854775807)/\w.heap[c]?=some (.cells vs.toArray t (0,0))/\cap*k<=vs.length/\RL ro [] w k rows vs/\(0<cap->p=0)
def MO(ro:Nat->Prop)(w:World)(t k:Nat):List (A×Option (List (List A)))->List MapEntry->Prop
 |[],l=>l=[]
 |x::r,l=>∃e l',l=e::l'/\VR ro [] w x.1 e.key/\(∀rows,x.2=some rows->SO ro w t k rows e.val)/\MO ro w t k r l'
def QeP:List (A×Option (List (List A)))->List MapEntry->Nat->Prop
 |x::r,e::l,c=>(x.2.isSome=true/\ ∃p n cap,e.val=.slice (some ⟨c,p,none⟩) n cap)\/QeP r l c
 |_,_,_=>False
def Qlm:List (A×Option (List (List A)))->List MapEntry->Prop
 |x::r,e::l=>(∀c,x.2.isSome=true->(∃p n cap,e.val=.slice (some ⟨c,p,none⟩) n cap)->¬QeP r l c)/\Qlm r l
 |_,_=>True
def Hid(w:World):Blk->Nat->Nat->Prop
 |.mapO _ _ _ es,b,c=>∃l clock,w.heap[b]?=some (.map l clock)/\QeP es l.toList c
 |_,_,_=>False
theorem Hid.keep{x:Blk}{b c:Nat}(h:w'.heap[b]?=w.heap[b]?)(q:Hid w' x b c):Hid w x b c:=by
 cases x with
 |mapO fz t k e=>obtain⟨l,a,f,d⟩:=q;exact⟨l,a,by grind,d⟩
 |_=>exact q.elim
theorem Hid.holds{w:World}{x:Blk}{b c:Nat}(q:Hid w x b c):x.holds=true:=by
 cases x with
 |mapO fz t k a=>cases fz<;>rfl
 |_=>exact q.elim
theorem MO.mono{ro ro':Nat->Prop}{U σ':Sig}{w w':World}(h:Ext ro U w ro' σ' w'){t k:Nat}:∀{es:List (A×Option (List (List A)))} {l:List MapEntry},(∀c,QeP es l c->w'.heap[c]?=w.heap[c]?)->MO ro w t k es l->MO ro' w' t k es l
 |[],_,_,q=>q
 |x::r,_,hh,⟨e,l',h1,h2,h3,h4⟩=>by
  subst h1;refine⟨e,l',rfl,h2.mono h.nil,λrows hr=>?_,MO.mono h (λc hc=>hh c (.inr hc)) h4⟩;rcases h3 rows hr with q|⟨c,p,cap,vs,q1,q2,q3,q4,q5,q6⟩
  .exact .inl q
  .exact .inr ⟨c,p,cap,vs,q1,q2,by rw[hh c (.inl (by grind))];exact q3,q4,q5.mono h.nil,q6⟩
theorem MO.cells{ro:Nat->Prop}{w:World}{t k:Nat}:∀{es:List (A×Option (List (List A)))} {l:List MapEntry} {c:Nat},MO ro w t k es l->QeP es l c->∃vs:Array Value,w.heap[c]?=some (.cells vs t (0,0))
 |[],l,c,h,q=>by cases l<;>exact q.elim
 |x::r,_,c,⟨e,l',h1,h2,h3,h4⟩,q=>by
  subst h1;rcases q with⟨q1,p,n,cap,q2⟩|q
  .obtain⟨rows,hr⟩:=Option.isSome_iff_exists.1 q1;rcases h3 rows hr with⟨_,z⟩|⟨c',p',cap',vs,z1,z2,z3,z4,z5,z6⟩
   .grind
   grind
  .exact MO.cells h4 q
def Born(l:Array MapEntry)(clock:Nat):Prop:=clock=l.size/\ ∀(i:Nat) (e:MapEntry),l.toList[i]?=some e->e.born=i
theorem Born.modify{l:Array MapEntry}{a j:Nat}{f:MapEntry->MapEntry}(h:Born l a)(k:∀e,(f e).born=e.born):Born (l.modify j f) a:=by
 obtain⟨d,m⟩:=h;refine⟨by simp[d],λi g q=>?_⟩
 grind
def BR(ro:Nat->Prop)(U:Sig)(w:World):Blk->Option Nat->Prop
 |.dead,_=>True
 |.cells t cs,some b=>∃l:List Value,w.heap[b]?=some (.cells l.toArray t (0,0))/\LR ro U w cs l/\ ∀v∈l,Qy v
 |.row t k es,some b=>∃l:List Value,w.heap[b]?=some (.cells l.toArray t (0,0))/\RL ro [] w k es l
 |.rowr t k es,some b=>∃l:List Value,w.heap[b]?=some (.cells l.toArray t (0,0))/\RL ro U w k es l
 |.row _ _ es,none=>es=[]
 |.ents t b1 b2 es,some b=>∃l:List Value,w.heap[b]?=some (.cells l.toArray t (0,0))/\RL ro U w 3 (es.map (eC b1 b2)) l
 |.ents _ _ _ es,none=>es=[]
 |.wins t b n c,some d=>∃l:List Value,w.heap[d]?=some (.cells l.toArray t (0,0))/\RL ro U w 1 (winL b n c) l
 |.wins _ _ _ c,none=>c=0
 |.map es,some b=>∃l clock,w.heap[b]?=some (.map l clock)/\ER ro [] w es l.toList/\
   (∀e∈l.toList,e.born<clock)/\(l.toList.map (·.born)).Nodup/\(l.toList.map (·.key)).Nodup
 |.mapP es,some b=>∃l clock,w.heap[b]?=some (.map l clock)/\ER ro U w es l.toList/\
   (∀e∈l.toList,e.born<clock)/\(l.toList.map (·.born)).Nodup/\(l.toList.map (·.key)).Nodup
 |.frow t k es,some b=>ro b/\ ∃l:List Value,w.heap[b]?=some (.cells l.toArray t (0,0))/\RL ro [] w k es l/\l.length=es.length*k
 |.iter cur es,some b=>ItR ro w b cur es
 |.mapO fz t k es,some b=>(fz=true->ro b)/\ ∃l clock,w.heap[b]?=some (.map l clock)/\MO ro w t k es l.toList/\Qlm es l.toList/\
   (∀e∈l.toList,e.born<clock)/\(l.toList.map (·.born)).Nodup/\(l.toList.map (·.key)).Nodup/\Born l clock
 |.fmap es,some b=>ro b/\ ∃l clock,w.heap[b]?=some (.map l clock)/\ER ro [] w es l.toList/\
   (∀e∈l.toList,e.born<clock)/\(l.toList.map (·.born)).Nodup/\(l.toList.map (·.key)).Nodup
 |_,none=>False
structure RoOk (ro:Nat->Prop) (w:World):Prop where
 lt:∀b,ro b->b<w.heap.size
 g:∀b,b<nG->ro b
 gp:GP w
theorem RoOk.to(h:RoOk ro w)(sub:∀b,ro b->ro' b)(keep:∀b,ro b->w'.heap[b]?=w.heap[b]?)(lt:∀b,ro' b->b<w'.heap.size):RoOk ro' w':=
 ⟨lt,λb hb=>sub b (h.g b hb),h.gp.keep λb hb=>keep b (h.g b hb)⟩
structure Qqk (fr ro:Nat->Prop) (U:Sig) (H:Qc) (w:World) (i0 b0 c:Nat):Prop where
 lt:c<w.heap.size
 ro:¬ro c
 fr:¬fr c
 ne:∀(j b:Nat) (y:Blk),U[j]?=some (some b)->H[j]?=some y->y.live=true->c≠b
 one:∀(j b:Nat) (y:Blk),U[j]?=some (some b)->H[j]?=some y->Hid w y b c->b=b0/\j=i0
structure Sim (fr ro:Nat->Prop) (U:Sig) (H:Qc) (w:World):Prop where
 len:U.length=H.length
 roOk:RoOk ro w
 frLt:∀b,fr b->b<w.heap.size
 roFr:∀b,ro b->¬fr b
 own:∀(i b:Nat) (blk:Blk),U[i]?=some (some b)->H[i]?=some blk->blk.live=true->b<w.heap.size/\ ¬ro b/\ ¬fr b
 inj:∀(i j b:Nat) (x y:Blk),U[i]?=some (some b)->U[j]?=some (some b)->H[i]?=some x->H[j]?=some y->x.live=true->y.live=true->i=j
 blk:∀(i:Nat) (s:Option Nat) (x:Blk),U[i]?=some s->H[i]?=some x->BR ro U w x s
 hid:∀(i b:Nat) (x:Blk) (c:Nat),U[i]?=some (some b)->H[i]?=some x->Hid w x b c->Qqk fr ro U H w i b c
variable {fr:Nat->Prop}
theorem Sim.roHeld{H:Qc}(s:Sim fr ro U H w){i b:Nat}{x:Blk}(d:U[i]?=some (some b))(e:H[i]?=some x)(a:x.held=true):ro b:=by
 have h:=s.blk i _ x d e;cases x with
 |mapO fz t k f=>exact h.1 a
 |_=>cases a
theorem Sim.hidKeep{H:Qc}(s:Sim fr ro U H w){i b c:Nat}{x:Blk}(e:U[i]?=some (some b))(d:H[i]?=some x)
  (hl:x.live=true->w'.heap[b]?=w.heap[b]?)(f:∀b,ro b->w'.heap[b]?=w.heap[b]?)(q:Hid w' x b c):Hid w x b c:=by
 refine q.keep ?_;have h:=q.holds;cases a:x.live with
 |true=>exact hl a
 |false=>unfold Blk.holds at h;rw[a]at h;exact f b (s.roHeld e d h)
variable {H':Qc}
theorem Sim.hidTo{l:Nat->Prop}{σ':Sig}{H:Qc}(s:Sim fr ro U H w)(R:Nat->Nat->Prop)(Y:∀j j' a,R j a->R j' a->j=j')(p:w.heap.size<=w'.heap.size)
  (P:∀(i b:Nat) (x:Blk) (c:Nat),U[i]?=some (some b)->H[i]?=some x->Hid w x b c->ro' c->ro c)
  (M:∀(i b:Nat) (x:Blk) (c:Nat),U[i]?=some (some b)->H[i]?=some x->Hid w x b c->l c->fr c)
  (h:∀(j d:Nat) (y:Blk),σ'[j]?=some (some d)->H'[j]?=some y->y.holds=true->
   (∃(a:Nat) (m:Blk),R j a/\U[a]?=some (some d)/\H[a]?=some m/\(y.live=true->m.live=true)/\ ∀c,Hid w' y d c->Hid w m d c)\/(w.heap.size<=d/\ ∀c,Hid w' y d c->False)):
  ∀(i b:Nat) (x:Blk) (c:Nat),σ'[i]?=some (some b)->H'[i]?=some x->Hid w' x b c->Qqk l ro' σ' H' w' i b c:=by
 intro i b x c J Q E;rcases h i b x J Q E.holds with⟨a,m,X,G,O,T,N⟩|⟨_,g⟩
 .have k:=s.hid a b m c G O (N c E);refine⟨X9 k.lt p,λq=>k.ro (by grind),λq=>k.fr (by grind),λj d y B t n=>?_,λj d y B t n=>?_⟩
  .rcases h j d y B t (QbI n)with⟨r,y1,_,u,z,F,_⟩|⟨f,_⟩
   .exact k.ne r d y1 u z (F n)
   .exact λe=>by have:=k.lt;omega
  .rcases h j d y B t n.holds with⟨r,y1,W,u,z,F,L⟩|⟨_,f⟩
   .obtain⟨e1,V⟩:=k.one r d y1 u z (L c n)
    grind
   grind
 grind
theorem Q6(j j' j0:Nat)(h:j=j0)(h':j'=j0):j=j':=h.trans h'.symm
theorem Sim.roLt{H:Qc}(s:Sim fr ro U H w):∀b,ro b->b<w.heap.size:=s.roOk.lt
structure Qm (fr ro:Nat->Prop) (w:World) (ro':Nat->Prop) (w':World):Prop where
 sub:∀b,ro b->ro' b
 keepRo:∀b,ro b->w'.heap[b]?=w.heap[b]?
 keepFr:∀b,fr b->w'.heap[b]?=w.heap[b]?
 size:w.heap.size<=w'.heap.size
 shape:∀b x,w.shape? b=some x->w'.shape? b=some x
 os:w'.os=w.os
 tape:w'.tape=w.tape
 output:w'.output=w.output
 drawn:w.drawn<=w'.drawn
theorem Qm.refl(fr ro:Nat->Prop)(w:World):Qm fr ro w ro w:=
 ⟨λ_ h=>h,λ_ _=>rfl,λ_ _=>rfl,XQ _,λ_ _ h=>h,rfl,rfl,rfl,XQ _⟩
theorem Qm.trans{fr ro ro1 ro2:Nat->Prop}{w w1 w2:World}(h:Qm fr ro w ro1 w1)(k:Qm fr ro1 w1 ro2 w2):Qm fr ro w ro2 w2:=
 ⟨λb q=>k.sub _ (h.sub _ q),λb q=>(k.keepRo _ (h.sub _ q)).trans (h.keepRo _ q),λb q=>(k.keepFr _ q).trans (h.keepFr _ q),
  XS h.size k.size,λb x q=>k.shape _ _ (h.shape _ _ q),k.os.trans h.os,k.tape.trans h.tape,k.output.trans h.output,XS h.drawn k.drawn⟩
variable {τ:Sig}
theorem Qaa{i b:Nat}(h:U[i]?=some (some b)):(U++τ)[i]?=some (some b):=by
 grind
theorem Qm.ext(h:Qm fr ro w ro' w')(U τ:Sig):Ext ro U w ro' (U++τ) w':=
 ⟨h.sub,h.keepRo,h.shape,λ_ _=>Qaa⟩
theorem Qm.ext0(h:Qm fr ro w ro' w')(U:Sig):Ext ro U w ro' U w':=
 ⟨h.sub,h.keepRo,h.shape,λ_ _ q=>q⟩
theorem ER.mono{ro ro':Nat->Prop}{U σ':Sig}{w w':World}(h:Ext ro U w ro' σ' w'):∀{es:List (A×A)} {l:List MapEntry},ER ro U w es l->ER ro' σ' w' es l
 |[],_,q=>q
 |x::r,l,q=>by
  simp only[ER]at q⊢;obtain⟨e,l',h1,h2,h3,h4⟩:=q;exact⟨e,l',h1,h2.mono h,h3.mono h,ER.mono h h4⟩
theorem ItR.keep{ro ro':Nat->Prop}{U σ':Sig}{w w':World}(h:Ext ro U w ro' σ' w'){b:Nat}(E:w'.heap[b]?=w.heap[b]?){f:Option (A×A)}{es:List (A×A)}
  (q:ItR ro w b f es):ItR ro' w' b f es:=by
 rcases q with⟨i,g,j⟩|⟨m,l,a,d,left,i,g,j,p,z,s,y,r⟩
 .exact .inl ⟨i,g,by grind⟩
 .refine .inr ⟨m,l,a,d,left,by grind,h.sub _ g,by rw[h.keep _ g];exact j,p,z,s,y.mono h.nil,λx t=>?_⟩;obtain⟨e,n,B,k,u⟩:=r x t;exact⟨e,n,B,k.mono h.nil,u.mono h.nil⟩
theorem CR.keep{ro ro':Nat->Prop}{U σ':Sig}{w w':World}(h:Ext ro U w ro' σ' w'){b:Nat}(hb:w'.heap[b]?=w.heap[b]?):
  ∀{cs:List A} {off:Nat},CR ro U w b cs off->CR ro' σ' w' b cs off
 |[],_,_=>trivial
 |a::r,off,q=>by
  simp only[CR]at q⊢;obtain⟨⟨v,h1,hp,h2⟩,h3⟩:=q;exact⟨⟨v,by rw[Qhn hb];exact h1,hp,h2.mono h⟩,CR.keep h hb h3⟩
theorem RR.keep{ro ro':Nat->Prop}{U σ':Sig}{w w':World}(h:Ext ro U w ro' σ' w'){b:Nat}(hb:w'.heap[b]?=w.heap[b]?){k:Nat}:
  ∀{es:List (List A)} {off:Nat},RR ro U w b k es off->RR ro' σ' w' b k es off
 |[],_,_=>trivial
 |cs::r,off,q=>by
  simp only[RR]at q⊢;obtain⟨h1,h2,h3⟩:=q;exact⟨h1,CR.keep h hb h2,RR.keep h hb h3⟩
theorem BR.keep{ro ro':Nat->Prop}{U σ':Sig}{w w':World}(h:Ext ro U w ro' σ' w'){x:Blk}{s:Option Nat}
  (g:∀b,s=some b->x.live=true->w'.heap[b]?=w.heap[b]?)(q:BR ro U w x s)(m:∀b c,s=some b->Hid w x b c->w'.heap[c]?=w.heap[c]?):BR ro' σ' w' x s:=by
 cases x with
 |mapO fz t k i=>
  cases s with
  |none=>exact q
  |some b=>
   obtain⟨j,l,c,a,e,f⟩:=q;refine⟨λz=>h.sub b (j z),l,c,?_,e.mono h (λd p=>m b d rfl ⟨l,c,a,p⟩),f⟩;cases fz with
   |false=>rw[g b rfl rfl];exact a
   |true=>rw[h.keep b (j rfl)];exact a
 |dead=>trivial
 |cells t u=>
  cases s with
  |none=>exact q
  |some b=>
   obtain⟨l,a,e,f⟩:=q;exact⟨l,by rw[g b rfl rfl];exact a,e.mono h,f⟩
 |row t k i=>
  cases s with
  |none=>exact q
  |some b=>
   obtain⟨l,a,e⟩:=q;exact⟨l,by rw[g b rfl rfl];exact a,e.mono h.nil⟩
 |rowr t k i=>
  cases s with
  |none=>exact q.elim
  |some b=>
   obtain⟨l,a,e⟩:=q;exact⟨l,by rw[g b rfl rfl];exact a,e.mono h⟩
 |wins t b n c=>
  cases s with
  |none=>exact q
  |some d=>
   obtain⟨l,a,e⟩:=q;exact⟨l,by rw[g d rfl rfl];exact a,e.mono h⟩
 |ents t y B i=>
  cases s with
  |none=>exact q
  |some b=>
   obtain⟨l,a,e⟩:=q;exact⟨l,by rw[g b rfl rfl];exact a,e.mono h⟩
 |map i=>
  cases s with
  |none=>exact q
  |some b=>
   obtain⟨l,c,a,e,f⟩:=q;exact⟨l,c,by rw[g b rfl rfl];exact a,e.mono h.nil,f⟩
 |mapP i=>
  cases s with
  |none=>exact q
  |some b=>
   obtain⟨l,c,a,e,f⟩:=q;exact⟨l,c,by rw[g b rfl rfl];exact a,e.mono h,f⟩
 |frow t k i=>
  cases s with
  |none=>exact q
  |some b=>
   obtain⟨j,l,a,e,f⟩:=q;exact⟨h.sub b j,l,by rw[h.keep b j];exact a,e.mono h.nil,f⟩
 |iter r i=>
  cases s with
  |none=>exact q
  |some b=>exact ItR.keep h (g b rfl rfl) q
 |fmap i=>
  cases s with
  |none=>exact q
  |some b=>
   obtain⟨j,l,c,a,e,f⟩:=q;exact⟨h.sub b j,l,c,by rw[h.keep b j];exact a,e.mono h.nil,f⟩
abbrev Env:=List (Nat×A)
def lk:Env->Nat->A
 |[],_=>.any
 |(d,a)::r,s=>bif Nat.beq s d then a else lk r s
abbrev up(env:Env)(d:Nat)(a:A):Env:=(d,a)::env
inductive AEx where
 |normal|exit (id:Nat)|ret
abbrev QR:=AEx->Env->Qc->Prop
def QcJ(fr:Nat->Prop)(ds:List Deferred)(w:World):Prop:=ds.Nodup/\ ∀d∈ds,∃D,d={target:=.collected D,args:= #[]}/\fr D/\w.heap[D]?=some (.deferred (some []))
theorem QcJ.keep{a:List Deferred}(h:QcJ fr a w)(k:Qm fr ro w ro' w'):QcJ fr a w':=by
 refine⟨h.1,λd g=>?_⟩;obtain⟨D,i,e,f⟩:=h.2 d g;exact⟨D,i,e,(k.keepFr D e).trans f⟩
structure Grow (fr:Nat->Prop) (w:World) (ds:List Deferred) (fr':Nat->Prop) (ds':List Deferred):Prop where
 sub:∀b,fr b->fr' b
 new:∀b,fr' b->fr b\/w.heap.size<=b
 ds:∀d∈ds',d∈ds\/ ∃D,d={target:=.collected D,args:= #[]}/\w.heap.size<=D
theorem Grow.refl(fr:Nat->Prop)(w:World)(ds:List Deferred):Grow fr w ds fr ds:=⟨λ_ h=>h,λ_ h=>.inl h,λ_ h=>.inl h⟩
variable {ds g:List Deferred}{w1:World}
theorem Grow.trans{f a:Nat->Prop}{e:List Deferred}(h:Grow fr w ds f g)(j:w.heap.size<=w1.heap.size)(k:Grow f w1 g a e):Grow fr w ds a e:=by
 refine⟨λb q=>k.sub b (h.sub b q),λb q=>?_,λd q=>?_⟩
 .rcases k.new b q with q|q
  .exact h.new b q
  omega
 .rcases k.ds d q with q|⟨D,l,i⟩
  .exact h.ds d q
  grind
variable {fr':Nat->Prop}
theorem Qm.frMono(h:Qm fr' ro w ro' w')(s:∀b,fr b->fr' b):Qm fr ro w ro' w':=
 ⟨h.sub,h.keepRo,λb q=>h.keepFr b (s b q),h.size,h.shape,h.os,h.tape,h.output,h.drawn⟩
theorem Sim.frMono{H:Qc}(h:Sim fr' ro U H w)(s:∀b,fr b->fr' b):Sim fr ro U H w:=
 ⟨h.len,h.roOk,λb q=>h.frLt b (s b q),λb q r=>h.roFr b q (s b r),λi b x q1 q2 q3=>let⟨a,b',c⟩:=h.own i b x q1 q2 q3;(by grind),h.inj,h.blk,λi b x c q1 q2 q3=>let k:=h.hid i b x c q1 q2 q3;⟨k.lt,k.ro,λq=>k.fr (s c q),k.ne,k.one⟩⟩
structure Rel (fr ro:Nat->Prop) (U:Sig) (H:Qc) (env:Env) (N:Nat) (a:Act) (w:World):Prop where
 sim:Sim fr ro U H w
 env:∀s,VR ro U w (lk env s) (a.tmps.getD s undef)
 size:a.tmps.size=N
 defers:QcJ fr a.defers w
def Qd4(rd:Option Nat)(fr:Nat->Prop)(w:World):Prop:=∀l,rd=some l->fr l/\ ∃r,w.heap[l]?=some (.loop r)
theorem Qd4.none{fr:Nat->Prop}{w:World}:Qd4 none fr w:=λl e=>by cases e
variable {rd:Option Nat}
theorem Qd4.to(h:Qd4 rd fr w)(k:Qm fr ro w ro' w')(s:∀b,fr b->fr' b):Qd4 rd fr' w':=λl e=>by
 obtain⟨h1,r,h2⟩:=h l e;exact⟨s l h1,r,(k.keepFr l h1).trans h2⟩
def ExR:Exit->AEx->Prop
 |.normal,x=>x=.normal
 |.exit id,x=>x=.exit id
 |.ret,x=>x=.ret
 |_,_=>False
def QaP(h0:Nat)(fr ro:Nat->Prop)(U:Sig)(w:World)(N:Nat)(ds:List Deferred)(Q:QR):Exit->Act->World->Prop:=
 λe a' w'=>∃x env' H' ro' σ' fr',ExR e x/\Q x env' H'/\Rel fr' ro' σ' H' env' N a' w'/\Qm fr ro w ro' w'/\σ'.take h0=U.take h0/\Grow fr w ds fr' a'.defers
variable {N h0:Nat}{a':Act}{σ1:Sig}
theorem QaP.grow{d f:Nat->Prop}{k:List Deferred}{Q:QR}{e:Exit}
  (h:QaP h0 d f σ1 w1 N g Q e a' w')(he:Qm fr ro w f w1)(q:σ1.take h0=U.take h0)(hg:Grow fr w k d g):QaP h0 fr ro U w N k Q e a' w':=by
 obtain⟨x,a,H',j,σ',i,n,s,p,l,r,m⟩:=h;exact⟨x,a,H',j,σ',i,n,s,p,he.trans (l.frMono hg.sub),r.trans q,hg.trans he.size m⟩
theorem QaP.step{ro1:Nat->Prop}{Q:QR}{e:Exit}
  (h:QaP h0 fr ro1 σ1 w1 N ds Q e a' w')(he:Qm fr ro w ro1 w1)(hs:σ1.take h0=U.take h0):QaP h0 fr ro U w N ds Q e a' w':=h.grow he hs (Grow.refl _ _ _)
theorem QaP.mono{Q Q':QR}{e:Exit}
  (h:QaP h0 fr ro U w N g Q e a' w')(k:∀x env H,Q x env H->Q' x env H):QaP h0 fr ro U w N g Q' e a' w':=by
 obtain⟨x,a,H',f,σ',d,i,l,j⟩:=h;exact⟨x,a,H',f,σ',d,i,k _ _ _ l,j⟩
def QbL(h0:Nat)(fr ro:Nat->Prop)(U:Sig)(w:World)(N:Nat)(ds:List Deferred)(Q:QR):Exit->Act->World->Prop:=
 λe a' w'=>∃x env' H' ro' σ' fr',ExR e x/\Q x env' H'/\Rel fr' ro' σ' H' env' N a' w'/\Qm fr ro w ro' w'/\σ'.take h0=U.take h0/\a'.defers=ds/\Grow fr w ds fr' ds
theorem QbL.grow{d f:Nat->Prop}{Q:QR}{e:Exit}
  (h:QbL h0 d f σ1 w1 N g Q e a' w')(he:Qm fr ro w f w1)(q:σ1.take h0=U.take h0)(hg:Grow fr w g d g):QbL h0 fr ro U w N g Q e a' w':=by
 obtain⟨x,a,H',j,σ',i,m,s,n,k,r,l,p⟩:=h;exact⟨x,a,H',j,σ',i,m,s,n,he.trans (k.frMono hg.sub),r.trans q,l,hg.trans he.size p⟩
theorem QbL.step{ro1:Nat->Prop}{Q:QR}{e:Exit}
  (h:QbL h0 fr ro1 σ1 w1 N ds Q e a' w')(he:Qm fr ro w ro1 w1)(hs:σ1.take h0=U.take h0):QbL h0 fr ro U w N ds Q e a' w':=h.grow he hs (Grow.refl _ _ _)
theorem QbL.mono{Q Q':QR}{e:Exit}
  (h:QbL h0 fr ro U w N g Q e a' w')(k:∀x env H,Q x env H->Q' x env H):QbL h0 fr ro U w N g Q' e a' w':=by
 obtain⟨x,a,H',f,σ',d,i,l,j⟩:=h;exact⟨x,a,H',f,σ',d,i,k _ _ _ l,j⟩
theorem QbL.postW{Q:QR}{e:Exit}
  (h:QbL h0 fr ro U w N g Q e a' w'):QaP h0 fr ro U w N g Q e a' w':=by
 obtain⟨x,a,H',f,σ',d,j,m,k,i,l,n,p⟩:=h;exact⟨x,a,H',f,σ',d,j,m,k,i,l,by grind⟩
def WF(rd:Option Nat):Fence:={Fence.wide with round:=rd}
variable {P:Program}{f:FuncId}
theorem WF.calls{args:Array Value}{R:Ending->World->Prop}:CallsIn (WF rd) 0 P f args w R↔Calls P f args w R:=callsIn_wide
abbrev wpL(P:Program)(rd:Option Nat)(ops:Array Oper)(Q:Exit->Act->World->Prop):List Oper->Act->World->Prop:=wpListIn (WF rd) 0 P ops Q
def TC(P:Program)(h0 N:Nat)(c:Code)(env:Env)(H:Qc)(Q:QR):Prop:=
 ∀rd fr ro U a w,Rel fr ro U H env N a w->Qd4 rd fr w->c.wpIn (WF rd) 0 P (QaP h0 fr ro U w N a.defers Q) a w
def WO(P:Program)(h0 N:Nat)(all:Array Oper)(l:List Oper)(env:Env)(H:Qc)(Q:QR):Prop:=
 ∀rd fr ro U a w,Rel fr ro U H env N a w->Qd4 rd fr w->wpL P rd all (QbL h0 fr ro U w N a.defers Q) l a w
def Le(h0:Nat)(env:Env)(H:Qc)(env':Env)(H':Qc):Prop:=
 ∀fr ro U N a w,Rel fr ro U H env N a w->∃ro' σ',Rel fr ro' σ' H' env' N a w/\(∀b,ro b->ro' b)/\σ'.take h0=U.take h0
theorem Le.refl(h0:Nat)(env:Env)(H:Qc):Le h0 env H env H:=λfr ro U N a w h=>(by grind)
theorem Le.trans{f i g:Env}{H1 H2 H3:Qc}(h:Le h0 f H1 i H2)(k:Le h0 i H2 g H3):Le h0 f H1 g H3:=by
 intro e l U N a w r;obtain⟨d,σ1,m,t,q⟩:=h e l U N a w r;obtain⟨j,σ2,p,s,n⟩:=k e d σ1 N a w m
 grind
theorem YV(h:∀b,ro b->ro' b):Qm fr ro w ro' w:=
 ⟨h,λ_ _=>rfl,λ_ _=>rfl,XQ _,λ_ _ h=>h,rfl,rfl,rfl,XQ _⟩
theorem Yn{P:Program}{rd:Option Nat}{ops:Array Oper}{Q Q':Exit->Act->World->Prop}(hq:∀e a w,Q e a w->Q' e a w):
  ∀(l:List Oper) (a:Act) (w:World),wpL P rd ops Q l a w->wpL P rd ops Q' l a w
 |[],a,w,h=>hq _ _ _ h
 |o::l,a,w,h=>by
  unfold wpL wpListIn at h⊢;split
  .rename_i hw;rw[Vm hw]at h;obtain⟨h1,h2⟩:=h;refine⟨h1,?_⟩
   revert h2
   generalize(o.semAt (WF rd).round a.eval).run P w=r;intro h2;have hk:=λa w=>Yn (P:=P) (rd:=rd) (ops:=ops) hq l a w;cases r with
   |ok x w=>
    cases x with
    |value v=>exact hk _ _ h2
    |skip=>exact hk _ _ h2
    |defer d=>exact hk _ _ h2
    |enter f args=>
     refine⟨h2.1,CallsIn.mono h2.2 ?_⟩;intro e w' q;cases e with
     |returned v=>grind
     |panicked c=>grind
     |outgrown=>obtain⟨a,w,q⟩:=q;exact⟨a,w,hq _ _ _ q⟩
    |row r args=>exact⟨h2.1,RowsIn.mono h2.2 λv w' q=>hk _ _ q⟩
    |round l f tmps assign body=>
     refine⟨h2.1,RoundIn.mono h2.2 ?_⟩;intro e w' q;cases e with
     |returned v=>grind
     |panicked c=>grind
     |outgrown=>obtain⟨a,w,q⟩:=q;exact⟨a,w,hq _ _ _ q⟩
    |_=>exact h2
   |halt x w=>
    cases x with
    |panic v=>exact hq _ _ _ h2
    |_=>exact h2
  .rename_i hw;rw[Vl hw]at h;exact⟨h.1,Yn hq l _ _ h.2⟩
theorem Qc5{o:Oper}{a:Act}{x:Next}(h:(execOp a.eval o).run P w=.ok x w')(f:∀d,x≠ .defer d):(o.semAt (WF rd).round a.eval).run P w=.ok x w':=by
 cases e:o.op with
 |defer c=>
  have:execOp a.eval o=(do pure (.defer (<- resolve a.eval c o.type))):=by simp[execOp,e]
  rw[this]at h;simp[Vg]at h;generalize(resolve a.eval c o.type).run P w=r at h;cases r with
  |ok d w2=>simp[go_sem]at h;grind
  |halt x w2=>simp_all
 |_=>grind[Oper.semAt_eq]
variable {Q:Exit->Act->World->Prop}{ops:Array Oper}
theorem JJ{o:Oper}{l:List Oper}{a:Act}{v:Value}(f:Region.wanted o (yielded ops a.tmps)=true)
  (h:(execOp a.eval o).run P w=.ok (.value v) w')(k:wpL P rd ops Q l (a.put o.dst v) w'):wpL P rd ops Q (o::l) a w:=by
 unfold wpL wpListIn;rw[Vm f];exact⟨λ_ _=>trivial,by rw[Qc5 h (λd e=>by cases e)];exact k⟩
theorem QiK{o:Oper}{l:List Oper}{a:Act}(f:Region.wanted o (yielded ops a.tmps)=true)
  (h:(execOp a.eval o).run P w=.ok .skip w')(k:wpL P rd ops Q l (a.put o.dst undef) w'):wpL P rd ops Q (o::l) a w:=by
 unfold wpL wpListIn;rw[Vm f];exact⟨λ_ _=>trivial,by rw[Qc5 h (λd e=>by cases e)];exact k⟩
theorem QdI{o:Oper}{l:List Oper}{a:Act}{args:Array Value}(g:Region.wanted o (yielded ops a.tmps)=true)
  (h:(execOp a.eval o).run P w=.ok (.enter f args) w')(k:Calls P f args w' λe w''=>∃v,e=.returned v/\wpL P rd ops Q l (a.put o.dst v) w''):wpL P rd ops Q (o::l) a w:=by
 unfold wpL wpListIn;rw[Vm g];refine⟨λ_ _=>trivial,?_⟩;rw[Qc5 h (λd e=>by cases e)];refine⟨λh=>by simp[WF,Fence.wide]at h,WF.calls.2 (Calls.mono k ?_)⟩
 grind
variable {all:Array Oper}
section
variable {P:Program} {h0 N:Nat} {env env':Env} {H H':Qc} {Q Q':QR} {c c':Code}
theorem TC.mono(h:TC P h0 N c env H Q)(hq:∀x env H,Q x env H->Q' x env H):TC P h0 N c env H Q':=
 λrd fr ro U a w r hrd=>Code.wpIn_mono (λe a w q=>q.mono hq) (h rd fr ro U a w r hrd)
theorem Qf(d:Le h0 env H env' H')(h:TC P h0 N c env' H' Q):TC P h0 N c env H Q:=by
 intro j g k U a w r hrd;obtain⟨f,σ',i,s,t⟩:=d g k U N a w r;exact Code.wpIn_mono (λe a w q=>q.step (YV s) t) (h j g f σ' a w i hrd)
theorem QG{l:List Oper}(d:Le h0 env H env' H')(h:WO P h0 N all l env' H' Q):WO P h0 N all l env H Q:=by
 intro j g k U a w r hrd;obtain⟨f,σ',i,s,t⟩:=d g k U N a w r;exact Yn (λe a w q=>q.step (YV s) t) _ _ _ (h j g f σ' a w i hrd)
theorem WO.mono{all:Array Oper}{l:List Oper}(h:WO P h0 N all l env H Q)(hq:∀x env H,Q x env H->Q' x env H):WO P h0 N all l env H Q':=
 λrd fr ro U a w r hrd=>Yn (λe a w q=>q.mono hq) _ _ _ (h rd fr ro U a w r hrd)
def Seq(P:Program)(h0 N:Nat)(c:Code)(Q:QR):QR
 |.normal,env,H=>TC P h0 N c env H Q
 |.exit id,env,H=>Q (.exit id) env H
 |.ret,env,H=>Q .ret env H
def Blo(id:Nat)(Q:QR):QR
 |.normal,env,H=>Q .normal env H
 |.exit id',env,H=>bif Nat.beq id' id then Q .normal env H else Q (.exit id') env H
 |.ret,env,H=>Q .ret env H
theorem TC.seq(h:TC P h0 N c env H (Seq P h0 N c' Q)):TC P h0 N (.seq c c') env H Q:=by
 intro p s u U a w r hrd;refine wpIn_seq (Code.wpIn_mono ?_ (h p s u U a w r hrd));rintro e t y ⟨x,d,H',g,σ',f,k,l,m,i,n,j⟩;cases e with
 |normal=>
  obtain rfl:x=.normal:=k;exact Code.wpIn_mono (λe a w q=>q.grow i n j) (l p f g σ' t y m (hrd.to i j.sub))
 |exit id=>
  obtain rfl:x=.exit id:=k;exact⟨_,d,H',g,σ',f,rfl,l,m,i,n,j⟩
 |ret=>
  obtain rfl:x=.ret:=k;exact⟨_,d,H',g,σ',f,rfl,l,m,i,n,j⟩
 |_=>exact k.elim
theorem TC.skip(h:Q .normal env H):TC P h0 N .skip env H Q:=
 λrd fr ro U a w r hrd=>wpIn_skip ⟨_,env,H,ro,U,fr,rfl,h,r,Qm.refl _ _ _,rfl,Grow.refl _ _ _⟩
theorem TC.ret(h:Q .ret env H):TC P h0 N .ret env H Q:=
 λrd fr ro U a w r hrd=>wpIn_ret ⟨_,env,H,ro,U,fr,rfl,h,r,Qm.refl _ _ _,rfl,Grow.refl _ _ _⟩
theorem TC.exit{id:Nat}(h:Q (.exit id) env H):TC P h0 N (.exit id) env H Q:=
 λrd fr ro U a w r hrd=>wpIn_exit ⟨_,env,H,ro,U,fr,rfl,h,r,Qm.refl _ _ _,rfl,Grow.refl _ _ _⟩
theorem TC.block{id:Nat}(h:TC P h0 N c env H (Blo id Q)):TC P h0 N (.block id c) env H Q:=by
 intro s q t U a w r hrd;refine wpIn_block (Code.wpIn_mono ?_ (h s q t U a w r hrd));rintro e y u ⟨x,d,H',g,σ',f,m,j,n,k,p,l⟩;cases e with
 |normal=>
  obtain rfl:x=.normal:=m;exact⟨_,d,H',g,σ',f,rfl,j,n,k,p,l⟩
 |exit i=>
  obtain rfl:x=.exit i:=m;simp[Exit.inBlock];simp only[Blo]at j;by_cases e:i=id
  .subst e;rw[Vm rfl];rw[Vz]at j;exact⟨_,d,H',g,σ',f,rfl,j,n,k,p,l⟩
  .rw[Vl e];have:Nat.beq i id=false:=by
    simp_all[VG]
   rw[this]at j;exact⟨_,d,H',g,σ',f,rfl,j,n,k,p,l⟩
 |ret=>
  obtain rfl:x=.ret:=m;exact⟨_,d,H',g,σ',f,rfl,j,n,k,p,l⟩
 |_=>exact m.elim
def opA(env:Env):Operand->A
 |.tmp t=>lk env t
 |.const (.bool b)=>.bool b
 |.const (.int k n)=>.int k n
 |.const (.string s)=>.str s.data.toList
 |.const (.pointer none)=>.nilp
 |.const (.slice none 0 0)=>.nils
 |.const (.map none)=>.nilm
 |.const .nilFunc=>.nilf
 |.const .nilIface=>.nilif
 |.func f=>.fn (.func f) [] []
 |_=>.any
theorem Qh{a:Act}(r:Rel fr ro U H env N a w)(x:Operand):VR ro U w (opA env x) (a.eval x):=by
 cases x with
 |tmp t=>exact r.env t
 |const v=>
  cases v with
  |slice a n k=>
   cases a with
   |none=>
    cases n with
    |zero=>cases k with
     |zero=>rfl
     |succ k=>trivial
    |succ n=>trivial
   |some a=>trivial
  |pointer p=>cases p with
   |none=>rfl
   |some p=>trivial
  |map p=>cases p with
   |none=>rfl
   |some p=>trivial
  |string s=>rfl
  |_=>simp_all[opA,VR,Act.eval]
 |global g=>trivial
 |func f=>exact⟨[],[],rfl,rfl,rfl⟩
theorem TC.cond{x:Operand}{t:Bool}(i:opA env x=.bool t)(j:t=true->TC P h0 N c env H Q)(k:t=false->TC P h0 N c' env H Q):
  TC P h0 N (.cond x c c') env H Q:=by
 intro d g h U a w r hrd;have f:=Qh r x;rw[i]at f;exact wpIn_cond_split f (λe=>j e d g h U a w r hrd) (λe=>k e d g h U a w r hrd)
theorem Qoh{t:Array Value}{d s:Nat}{v:Value}(a:d<t.size):(t.setIfInBounds d v).getD s undef=if s=d then v else t.getD s undef:=by
 simp[Array.getD_eq_getD_getElem?]
 grind
theorem VR.up{fr ro:Nat->Prop}{U:Sig}{a:Act}{w:World}(r:∀s,VR ro U w (lk env s) (a.tmps.getD s undef)){d:Nat}(f:d<a.tmps.size){x:A}{v:Value}(g:VR ro U w x v):
  ∀s,VR ro U w (lk (up env d x) s) ((a.tmps.setIfInBounds d v).getD s undef):=by
 intro s;rw[Qoh f];simp only[lk];by_cases e:s=d
 .simp_all
 .have:Nat.beq s d=false:=by
   simp_all[VG]
  grind
def Qw(all:Array Oper)(o:Oper)(env:Env)(b:Bool):Prop:=
 match o.guard with
 |none=>b=true
 |some (j,c)=>∃d,(all[j]?).bind (·.dst)=some d/\((∃x,lk env d=.bool x/\b=(x==c))\/(lk env d=.tup []/\b=false))
theorem YP{o:Oper}{b:Bool}(h:Qw all o env b){a:Act}(r:Rel fr ro U H env N a w):
  Region.wanted o (yielded all a.tmps)=b:=by
 unfold Qw at h;unfold Region.wanted;cases k:o.guard with
 |none=>grind
 |some g=>
  rw[k]at h;obtain⟨d,i,⟨x,f,j⟩|⟨f,j⟩⟩:=h
  .have e:=r.env d;rw[f]at e;simp only[VR]at e;have m:a.tmps[d]?=some (.bool x):=by
    rw[Array.getD_eq_getD_getElem?]at e
    grind[undef]
   simp_all[yielded]
  .have e:=r.env d;rw[f]at e;obtain⟨l,e,n⟩:=e;rw[Array.getD_eq_getD_getElem?]at e;simp[yielded,i]
   grind
def OpV(P:Program)(o:Oper)(env:Env)(H:Qc)(x:A):Prop:=
 ∀fr ro U N a w,Rel fr ro U H env N a w->∃v,(execOp a.eval o).run P w=.ok (.value v) w/\VR ro U w x v
def OpH(P:Program)(o:Oper)(env:Env)(H:Qc)(x:A)(H':Qc):Prop:=
 ∀fr ro U N a w,Rel fr ro U H env N a w->∃v w' ro' τ,(execOp a.eval o).run P w=.ok (.value v) w'/\VR ro' (U++τ) w' x v/\
  Sim fr ro' (U++τ) H' w'/\Qm fr ro w ro' w'
def OpU(P:Program)(o:Oper)(env:Env)(H:Qc)(H':Qc):Prop:=
 ∀fr ro U N a w,Rel fr ro U H env N a w->∃w' ro' τ,(execOp a.eval o).run P w=.ok .skip w'/\
  Sim fr ro' (U++τ) H' w'/\Qm fr ro w ro' w'
theorem WO.nil(h:Q .normal env H):WO P h0 N all [] env H Q:=
 λrd fr ro U a w r hrd=>⟨_,env,H,ro,U,fr,rfl,h,r,Qm.refl _ _ _,rfl,rfl,Grow.refl _ _ _⟩
theorem QF(h:h0<=U.length):(U++τ).take h0=U.take h0:=by
 grind
theorem Jj{o:Oper}{l:List Oper}{d:Nat}{x:A}(z:h0<=H.length)(hg:Qw all o env true)(m:o.dst=some d)(E:Nat.blt d N=true)
  (i:OpH P o env H x H')(k:WO P h0 N all l (up env d x) H' Q):WO P h0 N all (o::l) env H Q:=by
 intro u fr y U a w r hrd;obtain⟨v,j,f,τ,n,B,p,g⟩:=i fr y U N a w r;refine JJ (YP hg r) n ?_;simp[m];have h:d<N:=by simp_all
 have t:Rel fr f (U++τ) H' (up env d x) N {a with tmps:=a.tmps.setIfInBounds d v} j:=
  ⟨p,VR.up (fr:=fr) (λs=>(r.env s).mono (g.ext U τ)) (by rw[r.size];exact h) B,by simpa using r.size,r.defers.keep g⟩
 refine Yn (λe a w q=>q.step g (QF ?_)) _ _ _ (k u fr f (U++τ) _ j t (hrd.to g λ_ q=>q));rw[r.sim.len];exact z
theorem QM{o:Oper}{l:List Oper}{d:Nat}{x:A}(hg:Qw all o env true)(h:o.dst=some d)(n:Nat.blt d N=true)
  (f:OpV P o env H x)(k:WO P h0 N all l (up env d x) H Q):WO P h0 N all (o::l) env H Q:=by
 intro j fr g U a w r hrd;obtain⟨v,i,m⟩:=f fr g U N a w r;refine JJ (YP hg r) i ?_;simp[h];have e:d<N:=by simp_all
 exact k j fr g U {a with tmps:=a.tmps.setIfInBounds d v} w ⟨r.sim,VR.up (fr:=fr) r.env (by rw[r.size];exact e) m,by simpa using r.size,r.defers⟩ hrd
theorem Qbz{o:Oper}{l:List Oper}(x:h0<=H.length)(hg:Qw all o env true)(j:o.dst=none)
  (h:OpU P o env H H')(k:WO P h0 N all l env H' Q):WO P h0 N all (o::l) env H Q:=by
 intro t g u U a w r hrd;obtain⟨i,d,τ,m,n,f⟩:=h g u U N a w r;refine QiK (YP hg r) m ?_;simp[j];have p:Rel g d (U++τ) H' env N a i:=⟨n,λs=>(r.env s).mono (f.ext U τ),r.size,r.defers.keep f⟩;refine Yn (λe a w q=>q.step f (QF ?_)) _ _ _ (k t g d (U++τ) _ i p (hrd.to f λ_ q=>q));rw[r.sim.len];exact x
theorem Qq5{o:Oper}{l:List Oper}{x:A}(y:h0<=H.length)(hg:Qw all o env true)(j:o.dst=none)
  (h:OpH P o env H x H')(k:WO P h0 N all l env H' Q):WO P h0 N all (o::l) env H Q:=by
 intro t g u U a w r hrd;obtain⟨v,i,d,τ,m,z,n,f⟩:=h g u U N a w r;refine JJ (YP hg r) m ?_;simp[j];have p:Rel g d (U++τ) H' env N a i:=⟨n,λs=>(r.env s).mono (f.ext U τ),r.size,r.defers.keep f⟩;refine Yn (λe a w q=>q.step f (QF ?_)) _ _ _ (k t g d (U++τ) _ i p (hrd.to f λ_ q=>q));rw[r.sim.len];exact y
theorem WO.skip{o:Oper}{l:List Oper}{d:Nat}(hg:Qw all o env false)(h:o.dst=some d)(i:Nat.blt d N=true)
  (k:WO P h0 N all l (up env d (.tup [])) H Q):WO P h0 N all (o::l) env H Q:=by
 intro f fr g U a w r hrd;unfold wpL wpListIn;rw[YP hg r,Vl (by simp)];refine⟨λ_ _=>trivial,?_⟩;simp[h];have e:d<N:=by simp_all
 exact k f fr g U {a with tmps:=a.tmps.setIfInBounds d undef} w ⟨r.sim,VR.up (fr:=fr) r.env (by rw[r.size];exact e) ⟨[],rfl,rfl⟩,by simpa using r.size,r.defers⟩ hrd
theorem TC.region{id:Nat}{l:List Oper}(h:WO P h0 N l.toArray l env H Q):TC P h0 N (.region id l.toArray false) env H Q:=
 λrd fr ro U a w r hrd=>Code.wpIn_mono (λe a w q=>q.postW) (wpIn_region_lit (h rd fr ro U a w r hrd))
end
mutual
def Y7(ρ:Nat->Nat):A->A
 |.ptr i off=>.ptr (ρ i) off
 |.osl i o n k=>.osl (ρ i) o n k
 |.agg cs=>.agg (Qai ρ cs)
 |.fn f a c=>.fn f (Qai ρ a) (Qai ρ c)
 |.iface t v=>.iface t (Y7 ρ v)
 |.map i=>.map (ρ i)
 |.tup vs=>.tup (Qai ρ vs)
 |a=>a
def Qai(ρ:Nat->Nat):List A->List A
 |[]=>[]
 |a::r=>Y7 ρ a::Qai ρ r
end
def QiZ(ρ:Nat->Nat):List (List A)->List (List A)
 |[]=>[]
 |a::r=>Qai ρ a::QiZ ρ r
def renP(ρ:Nat->Nat):List (A×A)->List (A×A)
 |[]=>[]
 |a::r=>(Y7 ρ a.1,Y7 ρ a.2)::renP ρ r
def Q5(ρ:Nat->Nat):Blk->Blk
 |.cells t cs=>.cells t (Qai ρ cs)
 |.rowr t k es=>.rowr t k (QiZ ρ es)
 |.ents t b1 b2 es=>.ents t (ρ b1) (ρ b2) es
 |.wins t b n c=>.wins t (ρ b) n c
 |.mapP es=>.mapP (renP ρ es)
 |b=>b
theorem QgU(ρ:Nat->Nat)(b1 b2:Nat):∀(es:List Ent),QiZ ρ (es.map (eC b1 b2))=es.map (eC (ρ b1) (ρ b2))
 |[]=>rfl
 |e::es=>by
  have:=QgU ρ b1 b2 es;simp only[Vd,QiZ,this];congr 1;cases h:e.fl<;>simp[eC,Qai,Y7,h]
theorem Qmx(ρ:Nat->Nat)(b n c:Nat):QiZ ρ (winL b n c)=winL (ρ b) n c:=by
 unfold winL
 induction List.range c with
 |nil=>rfl
 |cons j l a=>simp only[Vd,QiZ,a];rfl
theorem QO(ρ:Nat->Nat)(x:Blk):(Q5 ρ x).live=x.live:=by cases x<;>rfl
theorem Qaj(ρ:Nat->Nat)(x:Blk)(w:World)(b c:Nat):Hid w (Q5 ρ x) b c↔Hid w x b c:=by cases x<;>exact Iff.rfl
section
variable {ro:Nat->Prop} {U σ':Sig} {w:World} {ρ:Nat->Nat} (h:∀i:Nat,U[ρ i]?=σ'[i]?)
include h
mutual
theorem Qd1:∀{a:A} {v:Value},VR ro U w (Y7 ρ a) v↔VR ro σ' w a v
 |.any,_=>by simp only[Y7,VR]
 |.bool b,v=>by simp only[Y7,VR]
 |.int k n,v=>by simp only[Y7,VR]
 |.str s,v=>by simp only[Y7,VR]
 |.nilp,v=>by simp only[Y7,VR]
 |.ptr i off,v=>by simp only[Y7,VR,h]
 |.rp cs,v=>by simp only[Y7,VR]
 |.nils,v=>by simp only[Y7,VR]
 |.rsl k es,v=>by simp only[Y7,VR]
 |.osl i o n k,v=>by simp only[Y7,VR,h]
 |.agg cs,v=>by simp only[Y7,VR];exact exists_congr λl=>and_congr_right λ_=>QbD
 |.fn f a c,v=>by simp only[Y7,VR];exact exists_congr λl=>exists_congr λl'=>and_congr_right λ_=>and_congr QbD QbD
 |.nilf,v=>by simp only[Y7,VR]
 |.iface t a,v=>by simp only[Y7,VR];exact exists_congr λl=>and_congr_right λ_=>Qd1
 |.nilif,v=>by simp only[Y7,VR]
 |.map i,v=>by simp only[Y7,VR,h]
 |.nilm,v=>by simp only[Y7,VR]
 |.tup vs,v=>by simp only[Y7,VR];exact exists_congr λl=>and_congr_right λ_=>QbD
theorem QbD:∀{az:List A} {l:List Value},LR ro U w (Qai ρ az) l↔LR ro σ' w az l
 |[],l=>by simp only[Qai,LR]
 |a::r,l=>by
  simp only[Qai,LR];exact exists_congr λv=>exists_congr λl'=>and_congr_right λ_=>and_congr Qd1 QbD
end
theorem Qeh:∀(cs:List A),(Qai ρ cs).length=cs.length
 |[]=>rfl
 |a::r=>by simp[Qai,Qeh r]
theorem Qiu{k:Nat}:∀{es:List (List A)} {l:List Value},RL ro U w k (QiZ ρ es) l↔RL ro σ' w k es l
 |[],l=>by rfl
 |a::r,l=>by
  simp only[QiZ,RL,Qeh h];exact exists_congr λl1=>exists_congr λl2=>and_congr_right λ_=>and_congr_right λ_=>and_congr (and_congr_left λ_=>QbD h) Qiu
theorem Qpj:∀{es:List (A×A)} {l:List MapEntry},ER ro U w (renP ρ es) l↔ER ro σ' w es l
 |[],l=>by rfl
 |a::r,l=>by
  simp only[renP,ER];exact exists_congr λe=>exists_congr λl'=>and_congr_right λ_=>and_congr (Qd1 h) (and_congr (Qd1 h) Qpj)
theorem QiH{x:Blk}{s:Option Nat}:BR ro U w (Q5 ρ x) s↔BR ro σ' w x s:=by
 cases x with
 |cells t g=>
  cases s with
  |none=>exact Iff.rfl
  |some b=>simp only[Q5,BR];exact exists_congr λl=>and_congr_right λ_=>and_congr_left λ_=>QbD h
 |rowr t k a=>
  cases s with
  |none=>exact Iff.rfl
  |some b=>simp only[Q5,BR];exact exists_congr λl=>and_congr_right λ_=>Qiu h
 |mapP a=>
  cases s with
  |none=>exact Iff.rfl
  |some b=>simp only[Q5,BR];exact exists_congr λl=>exists_congr λc=>and_congr_right λ_=>and_congr_left λ_=>Qpj h
 |wins t b n c=>
  cases s with
  |none=>exact Iff.rfl
  |some d=>
   simp only[Q5,BR];refine exists_congr λl=>and_congr_right λ_=>?_;rw[<- Qmx];exact Qiu h
 |ents t e f a=>
  cases s with
  |none=>exact Iff.rfl
  |some b=>
   simp only[Q5,BR];refine exists_congr λl=>and_congr_right λ_=>?_;rw[<- QgU];exact Qiu h
 |_=>cases s<;>exact Iff.rfl
end
def C(P:Program)(f:FuncId)(args:List A)(H:Qc)(Q:A->Qc->Prop):Prop:=
 ∀fr ro U vals w,Sim fr ro U H w->LR ro U w args vals->Calls P f vals.toArray w λe w'=>
  ∃v r H' ro' τ,e=.returned v/\Q r H'/\Sim fr ro' (U++τ) H' w'/\VR ro' (U++τ) w' r v/\Qm fr ro w ro' w'
theorem C.mono{P:Program}{f:FuncId}{args:List A}{H:Qc}{Q Q':A->Qc->Prop}(h:C P f args H Q)(hq:∀r H,Q r H->Q' r H):C P f args H Q':=
 λfr ro U vals w s l=>(h fr ro U vals w s l).mono (by grind)
def Qew:Nat->List A->Env
 |_,[]=>[]
 |i,a::r=>(i,a)::Qew (i+1) r
theorem QfA{ro:Nat->Prop}{U:Sig}{w:World}:∀{args:List A} {vals:List Value} {i:Nat} (pre:List Value),pre.length=i->LR ro U w args vals->∀rest:Array Value,
  ∀s,VR ro U w (lk (Qew i args) s) (((pre++vals).toArray++rest).getD s undef)
 |[],vals,i,pre,hp,hl,rest,s=>trivial
 |a::r,vals,i,pre,hp,hl,rest,s=>by
  simp only[LR]at hl;obtain⟨v,l',rfl,h1,h2⟩:=hl;simp only[Qew,lk];by_cases e:s=i
  .simp_all[Array.getElem?_append]
  .have:Nat.beq s i=false:=by
    simp_all[VG]
   rw[this];have:=QfA (i:=i+1) (pre++[v]) (by simp[hp]) h2 rest s
   grind
def QcH(P:Program)(fn:Func)(env:Env)(H:Qc)(r:A):Prop:=
 ∀fr ro U N a w,Rel fr ro U H env N a w->∃v,(results fn a.tmps).run P w=.ok v w/\VR ro U w r v
def QaC(P:Program)(h0:Nat)(fn:Func)(Q:A->Qc->Prop):QR
 |.normal,env,H=>∃env' H' r,Le h0 env H env' H'/\QcH P fn env' H' r/\Q r H'
 |.ret,env,H=>∃env' H' r,Le h0 env H env' H'/\QcH P fn env' H' r/\Q r H'
 |.exit _,_,_=>False
theorem LR.length{ro:Nat->Prop}{U:Sig}{w:World}:∀{az:List A} {l:List Value},LR ro U w az l->l.length=az.length
 |[],l,h=>by simp only[LR]at h;simp[h]
 |a::r,l,h=>by
  simp only[LR]at h;obtain⟨v,l',rfl,_,h2⟩:=h;simp[h2.length]
theorem Sim.turn{H:Qc}(s:Sim fr ro U H w){b:Nat}{obj:Obj}(n:¬ro b)(r:¬fr b)(z:∀(i:Nat) (x:Blk),U[i]?=some (some b)->H[i]?=some x->x.live=true->False)
  (k:∀(i d:Nat) (x:Blk),U[i]?=some (some d)->H[i]?=some x->Hid w x d b->False)
  (m:∀y,w.shape? b=some y->(w.putObj b obj).shape? b=some y):Sim fr ro U H (w.putObj b obj)/\Qm fr ro w ro (w.putObj b obj):=by
 have u:∀c,c≠b->(w.putObj b obj).heap[c]?=w.heap[c]? :=λc t=>World.putObj_heap_other t;have a:(w.putObj b obj).heap.size=w.heap.size:=by simp
 have ev:Qm fr ro w ro (w.putObj b obj):=by
  refine⟨λ_ q=>q,(by grind),(by grind),by omega,λc x q=>?_,rfl,rfl,rfl,XQ _⟩
  grind[World.shape?]
 have e:Ext ro U w ro U (w.putObj b obj):=by have:=ev.ext U [];grind
 refine⟨⟨s.len,s.roOk.to (λ_ q=>q) ev.keepRo (λc q=>by rw[a];exact s.roLt c q),λc q=>by rw[a];exact s.frLt c q,s.roFr,λi c x f g p=>?_,s.inj,λi y x f g=>?_,
  s.hidTo (· = ·) Q6 (by omega) (by simp) (by simp) λj d y l h B=>.inl ⟨j,y,rfl,l,h,id,λc q=>s.hidKeep l h (by grind) ev.keepRo q⟩⟩,ev⟩
 .obtain⟨G,F,E⟩:=s.own i c x f g p
  grind
 .refine(s.blk i y x f g).keep e ?_ ?_
  .grind
  grind
theorem Qbr{P:Program}{fn:Func}{tmps:Array Value}{R:Ending->World->Prop}{fr ro:Nat->Prop}{U:Sig}{H:Qc}:
  ∀(ds:List Deferred) (w:World),ds.Nodup->(∀d∈ds,∃D,d={target:=.collected D,args:= #[]}/\ ¬ro D/\ ¬fr D/\(∀(i:Nat) (x:Blk),U[i]?=some (some D)->H[i]?=some x->x.live=true->False)/\(∀(i d:Nat) (x:Blk),U[i]?=some (some d)->H[i]?=some x->Hid w x d D->False)/\w.heap[D]?=some (.deferred (some [])))->
  Sim fr ro U H w->(∀w',Sim fr ro U H w'->Qm fr ro w ro w'->∃v,(results fn tmps).run P w'=.ok v w'/\R (.returned v) w')->LeavesInM Fence.wide 0 P fn tmps R ds .returning w
 |[],w,_,_,s,hk=>by
  obtain⟨v,h1,h2⟩:=hk w s (Qm.refl _ _ _);exact⟨v,h1,h2⟩
 |d::ds,w,hn,hd,s,hk=>by
  obtain⟨D,rfl,h1,h2,h3,h5,h4⟩:=hd d (by simp);obtain⟨n1,n2⟩:=List.nodup_cons.1 hn;obtain⟨s',ev⟩:=s.turn (obj:=.deferred none) h1 h2 h3 h5 (λy q=>by grind[World.shape?]);refine⟨(by simp),.inl ⟨D,_,rfl,run_takeDeferred h4,?_⟩⟩;refine Qbr ds _ n2 (λd' q=>?_) s' (λw' q1 q2=>hk w' q1 (ev.trans q2));obtain⟨D',rfl,g1,g2,g3,g5,g4⟩:=hd d' (by simp[q]);refine⟨D',rfl,g1,g2,g3,λi d x z1 z2 z3=>g5 i d x z1 z2 (s.hidKeep z1 z2 (λz=>World.putObj_heap_other (by grind)) (λb q=>World.putObj_heap_other (λe:b=D=>h1 (e▸q))) z3),(World.putObj_heap_other (λe=>?_)).trans g4⟩
  grind
variable {args:List A}
theorem QE{fn:Func}{c:Code}{H:Qc}{Q:A->Qc->Prop}
  (hf:P.funcs[f]?=some fn)(hb:fn.body=some c)(hN:fn.ntmps=N)(hA:Nat.ble args.length N=true)
  (h:TC P H.length N c (Qew 0 args) H (QaC P H.length fn Q)):C P f args H Q:=by
 intro fr ro U vals w hs hl;have X:=hl.length;have aa:args.length<=N:=by simp_all
 refine(callsIn_wide (n:=0)).1 (callsIn_of_wp_marks hf hb trivial (Code.wpIn_mono ?_ (h none fr ro U _ w ⟨hs,?_,?_,List.nodup_nil,λd l=>by cases l⟩ Qd4.none)))
 .rintro e m k ⟨x,y,H1,L,σ1,B,z,F,h3,h4,h5,W⟩;have t:(∃j H' r,Le H.length y H1 j H'/\QcH P fn j H' r/\Q r H')->LeavesInM Fence.wide 0 P fn m.tmps (λe k=>
    ∃v' r H' a τ,e=.returned v'/\Q r H'/\Sim fr a (U++τ) H' k/\VR a (U++τ) k r v'/\Qm fr ro w a k) m.defers .returning k:=by
   rintro⟨j,H',r,G,hr,hq⟩;obtain⟨a,σ',g,p,ht⟩:=G B L σ1 N m k h3;have hσ:σ'=U++σ'.drop H.length:=by
    have Y:σ'.take H.length=U:=by rw[ht,h5,VC (by rw[hs.len];omega)]
    grind[List.take_append_drop]
   have s1:Sim fr a σ' H' k:=g.sim.frMono W.sub;refine Qbr (ro:=a) (fr:=fr) (U:=σ') (H:=H') m.defers k g.defers.1 (λd l=>?_) s1 (λw2 T u=>?_)
   .obtain⟨D,rfl,J,g2⟩:=g.defers.2 d l;refine⟨D,rfl,λq=>g.sim.roFr D q J,λq=>?_,λi x R E M=>(g.sim.own i D x R E M).2.2 J,λi d x R E M=>(g.sim.hid i d x D R E M).fr J,g2⟩;rcases W.ds _ l with V|⟨D',e,V⟩
    .cases V
    .have:D=D':=by simpa using e
     subst this;have:=hs.frLt D q;omega
   .have O:Rel fr a σ' H' j N {m with defers:=[]} w2:=⟨T,λs=>(g.env s).mono (by have:=u.ext σ' [];grind),g.size,List.nodup_nil,λd l=>by cases l⟩;obtain⟨v,Y,e2⟩:=hr fr a σ' N _ w2 O;exact⟨v,Y,v,r,H',a,σ'.drop H.length,rfl,hq,hσ▸T,hσ▸e2,(h4.trans (YV p)).trans u⟩
  cases e with
  |normal=>
   obtain rfl:x=.normal:=z;exact t F
  |ret=>
   obtain rfl:x=.ret:=z;exact t F
  |exit id=>
   obtain rfl:x=.exit id:=z;exact F.elim
  |_=>exact z.elim
 .intro s;have:=QfA (i:=0) [] rfl hl (Array.replicate (fn.ntmps-vals.toArray.size) undef) s
  grind
 grind
section
variable {P:Program} {fn:Func} {env:Env} {H:Qc}
theorem QcH.nil(h:fn.results= #[]):QcH P fn env H (.tup []):=
 λfr ro U N a w r=>⟨.tuple #[],by simp[results,h,go_sem],[],rfl,rfl⟩
theorem QcH.one{t:Nat}{x:A}(h:fn.results= #[.tmp t])(hx:lk env t=x):QcH P fn env H x:=
 λfr ro U N a w r=>⟨a.tmps.getD t undef,by simp[results,h,go_sem],hx▸r.env t⟩
theorem Qnh{t u:Nat}{x y:A}(h:fn.results= #[.tmp t,.tmp u])(hx:lk env t=x)(hy:lk env u=y):QcH P fn env H (.tup [x,y]):=
 λfr ro U N a w r=>⟨.tuple #[a.tmps.getD t undef,a.tmps.getD u undef],by simp[results,h,go_sem],
  [_,_],rfl,_,_,rfl,hx▸r.env t,_,_,rfl,hy▸r.env u,rfl⟩
theorem Qj1{t u v:Nat}{x y z:A}(h:fn.results= #[.tmp t,.tmp u,.tmp v])(hx:lk env t=x)(hy:lk env u=y)(hz:lk env v=z):
  QcH P fn env H (.tup [x,y,z]):=
 λfr ro U N a w r=>⟨.tuple #[a.tmps.getD t undef,a.tmps.getD u undef,a.tmps.getD v undef],by simp[results,h,go_sem],
  [_,_,_],rfl,_,_,rfl,hx▸r.env t,_,_,rfl,hy▸r.env u,_,_,rfl,hz▸r.env v,rfl⟩
end
inductive Ctl (S B:Type) where
 |cont (s:S)
 |done (b:B)
 deriving DecidableEq
def iter{S B:Type}(step:S->Option (Ctl S B)):Nat->S->Option B
 |0,_=>none
 |n+1,s=>match step s with
  |some (.cont s')=>iter step n s'
  |some (.done b)=>some b
  |none=>none
variable {B S:Type}
def Qbo(I:S->Env->Qc->Prop)(d:Ctl S B)(Q:QR):QR
 |.normal,env,H=>∃s,d=.cont s/\I s env H
 |.exit id,env,H=>(∃b,d=.done b)/\Q (.exit id) env H
 |.ret,env,H=>(∃b,d=.done b)/\Q .ret env H
variable {env:Env}{m:Nat}
theorem QjZ{c:Code}{S B:Type}{step:S->Option (Ctl S B)}{I:S->Env->Qc->Prop}{Q:QR}{E:B}
  (body:∀s d env H,I s env H->step s=some d->(∀b,d=.done b->b=E)->TC P h0 N c env H (Qbo I d Q)){L:S}(h:iter step m L=some E){H:Qc}(M:I L env H):TC P h0 N (.loop c) env H Q:=by
 intro R y F U a w r hrd b k cs hro hb hr;have J:∀m s env H fr1 ro1 σ1 a1 w1,iter step m s=some E->I s env H->Rel fr1 ro1 σ1 H env N a1 w1->Qm y F w ro1 w1->σ1.take h0=U.take h0->Grow y w a.defers fr1 a1.defers->
   ∃e i j,QaP h0 y F U w N a.defers Q e i j/\ArrivesIn (Machine.fenced P (WF R)) P (lone (b.atR a1 (.code c::.inLoop c::k)) cs w1) b k cs e i j:=by
  intro m
  induction m with
  |zero=>grind[iter]
  |succ m ih=>
   intro s env H fr1 ro1 σ1 a1 w1 hit M r1 ev1 t1 g1;simp only[iter]at hit;cases T:step s with
   |none=>grind
   |some d=>
    rw[T]at hit;have hd:∀b,d=.done b->b=E:=by
     grind
    obtain⟨e,i,j,O,f⟩:=body s d env H M T hd R fr1 ro1 σ1 a1 w1 r1 (hrd.to ev1 g1.sub) b (.inLoop c::k) cs hro hb hr;obtain⟨x,g,H',t,σ',p,z,n,W,q4,V,q6⟩:=O;have u:=ev1.trans (q4.frMono g1.sub);have Y:=g1.trans ev1.size q6;have X:∀x,Q x g H'->ExR e x->QaP h0 y F U w N a.defers Q e i j:=λx q q'=>⟨x,g,H',t,σ',p,q',q,W,u,V.trans t1,Y⟩;cases e with
    |normal=>
     obtain rfl:x=.normal:=z;obtain⟨s',rfl,n⟩:=n;obtain⟨e2,a2,w2,G,l⟩:=ih s' g H' p t σ' i j hit n W u (V.trans t1) Y;exact⟨e2,a2,w2,G,.of_steps (StepsIn.trans f (.one (fenced_calm hb hr rfl) stepR_inLoop)) l⟩
    |exit id=>
     obtain rfl:x=.exit id:=z;exact⟨_,i,j,X _ n.2 rfl,.pass (x:=.inLoop c) rfl (by simp) f⟩
    |ret=>
     obtain rfl:x=.ret:=z;exact⟨_,i,j,X _ n.2 rfl,.pass (x:=.inLoop c) rfl (by simp) f⟩
    |_=>exact z.elim
 obtain⟨e,i,j,O,f⟩:=J m L env H y F U a w h M r (Qm.refl _ _ _) rfl (Grow.refl _ _ _);exact⟨e,i,j,O,.of_steps (.one (fenced_calm hb hr rfl) stepR_loop) f⟩
theorem TC.loop{P:Program}{h0 N:Nat}{c:Code}{S B:Type}{step:S->Option (Ctl S B)}(E:S->Env)(Hp:S->Qc){Q:QR}
  {m:Nat}{s0:S}{b0:B}(h:iter step m s0=some b0){env:Env}{H:Qc}(hI:Le h0 env H (E s0) (Hp s0))
  (body:∀s d,step s=some d->(∀b,d=.done b->b=b0)->TC P h0 N c (E s) (Hp s) (Qbo (λs env H=>Le h0 env H (E s) (Hp s)) d Q)):TC P h0 N (.loop c) env H Q:=
 QjZ (I:=λs env H=>Le h0 env H (E s) (Hp s)) (λs d env H hI hs hd=>Qf hI (body s d hs hd)) h hI
def rho(π:List Nat)(n i:Nat):Nat:=
 match π[i]? with
 |some p=>p
 |none=>n+(i-π.length)
def Yx:Qc->List Nat->List Blk->Qc
 |H,[],xs=>H++xs
 |H,p::π,x::xs=>Yx (H.set p x) π xs
 |H,_::_,[]=>H
theorem Qcx:∀(π:List Nat) (H:Qc) (xs:List Blk),π.length<=xs.length->(Yx H π xs).length=H.length+(xs.length-π.length)
 |[],H,xs,_=>by simp[Yx]
 |p::π,H,[],h=>by simp at h
 |p::π,H,x::xs,h=>by
  simp[XW]at h;simp only[Yx,Qcx π (H.set p x) xs (by omega),XZ,XW];omega
theorem QcN:∀(π:List Nat) (H:Qc) (xs:List Blk) (i:Nat),i<H.length->i∉π->(Yx H π xs)[i]?=H[i]?
 |[],H,xs,i,hi,_=>by simp[Yx,XJ hi]
 |p::π,H,[],i,hi,h=>by simp[Yx]
 |p::π,H,x::xs,i,hi,h=>by
  simp[X0,not_or]at h;simp[Yx];rw[QcN π (H.set p x) xs i (by grind) h.2,XM (λe=>h.1 e.symm)]
theorem Qff:∀(π:List Nat) (H:Qc) (xs:List Blk) (j:Nat),π.length<=xs.length->(∀p∈π,p<H.length)->π.Nodup->
  (Yx H π xs)[rho π H.length j]?=xs[j]?
 |[],H,xs,j,_,_,_=>by
  simp_all[Yx,rho,XK]
 |p::π,H,[],j,h,_,_=>by simp at h
 |p::π,H,x::xs,j,h,hp,hn=>by
  simp[XW]at h;have hn':=List.nodup_cons.1 hn;simp[Yx];cases j with
  |zero=>
   grind[rho,QcN]
  |succ j=>
   have ih:=Qff π (H.set p x) xs j (by omega) (λq hq=>by grind) hn'.2;have e:rho (p::π) H.length (j+1)=rho π H.length j:=by
    simp only[rho,XW];simp
   grind
theorem Qmw(π:List Nat)(n i:Nat)(hi:n<=i\/i∈π):∃j,i=rho π n j:=by
 rcases hi with hi|hi
 .refine⟨π.length+(i-n),?_⟩
  grind[rho]
 .obtain⟨j,a,rfl⟩:=List.mem_iff_getElem.1 hi;exact⟨j,by simp[rho,XH a]⟩
def YA(U:Sig)(π:List Nat):Sig:=π.map λp=>(U[p]?).getD none
variable {π:List Nat}
theorem QeQ{n:Nat}(d:U.length=n)(a:∀p∈π,p<n)(j:Nat):(U++τ)[rho π n j]?=(YA U π++τ)[j]? :=by
 rcases(by omega)with h|h
 .grind[rho,YA]
 grind[rho,YA]
def OpC(P:Program)(o:Oper)(env:Env)(H:Qc)(f:FuncId)(args:List A):Prop:=
 ∀fr ro U N a w,Rel fr ro U H env N a w->∃vals:List Value,(execOp a.eval o).run P w=.ok (.enter f vals.toArray) w/\LR ro U w args vals
theorem Jz{H:Qc}{Hc:List Blk}(hH:π.map (λp=>H[p]?)=Hc.map some){p:Nat}(a:p∈π):p<H.length:=by
 grind[List.mem_map_of_mem]
variable {Qr:A->Qc->Prop}
theorem WO.call{o:Oper}{l:List Oper}{H:Qc}{Q:QR}{d:Option Nat}
  {aa:List A}{Hc:Qc}(π:List Nat)(hh:h0<=H.length)(hg:Qw all o env true)(hd:o.dst=d)(hN:∀x,d=some x->x<N)
  (aq:OpC P o env H f args)(hargs:args=Qai (rho π H.length) aa)(hH:π.map (λp=>H[p]?)=(Hc.map (Q5 (rho π H.length))).map some)(hπ:π.Nodup)
  (hC:C P f aa Hc Qr)
  (k:∀r H1,Qr r H1->WO P h0 N all l (match d with|some d=>up env d (Y7 (rho π H.length) r)|none=>env) (Yx H π (H1.map (Q5 (rho π H.length)))) Q):
  WO P h0 N all (o::l) env H Q:=by
 intro rd fr ro U a w r hrd;obtain⟨ai,h1,h2⟩:=aq fr ro U N a w r;refine QdI (YP hg r) h1 ?_;have hp:∀p∈π,p<H.length:=λp q=>Jz hH q;have hσl:=r.sim.len;have ac:∀(j p:Nat),π[j]?=some p->H[p]?=(Hc[j]?).map (Q5 (rho π H.length)):=by
  intro j p M;have:=congrArg (λl=>l[j]?) hH;simp only[Xo,M,Xk]at this;cases e:Hc[j]? with
  |none=>rw[e]at this;simp at this
  |some x=>rw[e]at this;simpa using this
 have am:π.length=Hc.length:=by simpa using congrArg List.length hH
 have hσc:∀j:Nat,U[rho π H.length j]?=(YA U π)[j]? :=by
  intro j;have:=QeQ (τ:=[]) hσl hp j;simpa using this
 let frc:Nat->Prop:=λb=>fr b\/(∃i x,U[i]?=some (some b)/\H[i]?=some x/\x.live=true/\i∉π)\/ ∃i x d,U[i]?=some (some d)/\H[i]?=some x/\Hid w x d b/\i∉π
 have hπj:∀(j b:Nat),(YA U π)[j]?=some (some b)->∃p,π[j]?=some p/\U[p]?=some (some b):=by
  intro j b M;simp only[YA,Xo]at M;cases e:π[j]? with
  |none=>rw[e]at M;simp at M
  |some p=>
   rw[e]at M;simp at M;refine⟨p,rfl,?_⟩;cases e2:U[p]? with
   |none=>rw[e2]at M;simp at M
   |some s=>rw[e2]at M;simp at M;rw[M]
 have hπi:∀(i j p:Nat),π[i]?=some p->π[j]?=some p->i=j:=by
  intro i j p T O;have hi:i<π.length:=by
   rcases Vw i π.length with q|q
   .exact q
   .rw[XL q]at T;simp at T
  have M:j<π.length:=by
   rcases Vw j π.length with q|q
   .exact q
   .rw[XL q]at O;simp at O
  rw[XH hi]at T;rw[XH M]at O;have ae:=(XV T).trans (XV O).symm;rcases Nat.lt_trichotomy i j with q|q|q
  .exact(Vy.1 hπ i j hi M q ae).elim
  .exact q
  .exact(Vy.1 hπ j i M hi q ae.symm).elim
 have ak:Sim frc ro (YA U π) Hc w:=by
  refine⟨by simp[YA,am],r.sim.roOk,?_,?_,?_,?_,?_,?_⟩
  .rintro b (hb|⟨i,x,h,g,m,J⟩|⟨i,x,d,h,g,m,J⟩)
   .exact r.sim.frLt b hb
   .exact(r.sim.own i b x h g m).1
   .exact(r.sim.hid i d x b h g m).lt
  .rintro b hb (hf|⟨i,x,h,g,m,J⟩|⟨i,x,d,h,g,m,J⟩)
   .exact r.sim.roFr b hb hf
   .exact(r.sim.own i b x h g m).2.1 hb
   .exact(r.sim.hid i d x b h g m).ro hb
  .intro j b x h g m;obtain⟨p,T,e2⟩:=hπj j b h;have e3:H[p]?=some (Q5 (rho π H.length) x):=by rw[ac j p T,g];rfl
   obtain⟨o1,o2,o3⟩:=r.sim.own p b _ e2 e3 (by rw[QO];exact m);refine⟨o1,o2,?_⟩;rintro(hf|⟨i,y,y1,y2,y3,y4⟩|⟨i,y,d,y1,y2,y3,y4⟩)
   .exact o3 hf
   .have:=r.sim.inj i p b _ _ y1 e2 y2 e3 y3 (by rw[QO];exact m);subst this;exact y4 (VB T)
   .exact(r.sim.hid i d y b y1 y2 y3).ne p b _ e2 e3 (by rw[QO];exact m) rfl
  .intro i j b x y h g m J X q6;obtain⟨p,T,e2⟩:=hπj i b h;obtain⟨p',O,ao⟩:=hπj j b g;have e3:H[p]?=some (Q5 (rho π H.length) x):=by rw[ac i p T,m];rfl
   have an:H[p']?=some (Q5 (rho π H.length) y):=by rw[ac j p' O,J];rfl
   have:=r.sim.inj p p' b _ _ e2 ao e3 an (by rw[QO];exact X) (by rw[QO];exact q6);subst this;have hi:i<π.length:=by
    rcases Vw i π.length with q|q
    .exact q
    .rw[XL q]at T;simp at T
   have M:j<π.length:=by
    rcases Vw j π.length with q|q
    .exact q
    .rw[XL q]at O;simp at O
   rw[XH hi]at T;rw[XH M]at O;have ae:=(XV T).trans (XV O).symm;rcases Nat.lt_trichotomy i j with q|q|q
   .exact(Vy.1 hπ i j hi M q ae).elim
   .exact q
   .exact(Vy.1 hπ j i M hi q ae.symm).elim
  .intro j s x h g;have M:j<π.length:=by
    rcases Vw j π.length with q|q
    .exact q
    .rw[XL (by simpa[YA]using q)]at h;simp at h
   have T:π[j]?=some π[j]:=XH M;have e3:H[π[j]]?=some (Q5 (rho π H.length) x):=by rw[ac j _ T,g];rfl
   have e2:U[π[j]]?=some s:=by
    have:=hσc j;rw[h]at this;simpa[rho,T]using this
   exact(QiH hσc).1 (r.sim.blk _ s _ e2 e3)
  .intro j b x c h g m;obtain⟨p,T,e2⟩:=hπj j b h;have e3:H[p]?=some (Q5 (rho π H.length) x):=by rw[ac j p T,g];rfl
   have k:=r.sim.hid p b _ c e2 e3 ((Qaj _ _ _ _ _).2 m);refine⟨k.lt,k.ro,?_,?_,?_⟩
   .rintro(hf|⟨i,y,y1,y2,y3,y4⟩|⟨i,y,d,y1,y2,y3,y4⟩)
    .exact k.fr hf
    .exact k.ne i c y y1 y2 y3 rfl
    .obtain⟨rfl,rfl⟩:=k.one i d y y1 y2 y3;exact y4 (VB T)
   .intro R b' y L n Y;obtain⟨p',f1,f2⟩:=hπj R b' L;exact k.ne p' b' _ f2 (show H[p']?=some (Q5 (rho π H.length) y)by rw[ac R p' f1,n];rfl) (by rw[QO];exact Y)
   .intro R b' y L n Y;obtain⟨p',f1,f2⟩:=hπj R b' L;obtain⟨z4,z5⟩:=k.one p' b' _ f2 (show H[p']?=some (Q5 (rho π H.length) y)by rw[ac R p' f1,n];rfl) ((Qaj _ _ _ _ _).2 Y);subst z5;exact⟨z4,hπi R j p' f1 T⟩
 have ah:LR ro (YA U π) w aa ai:=(QbD hσc).1 (hargs▸h2);refine Calls.mono (hC frc ro (YA U π) ai w ak ah) ?_;rintro e w' ⟨v,rr,H1,ab,τ,rfl,hq,sc,hv,ev⟩;have hσ':∀j:Nat,(U++τ)[rho π H.length j]?=(YA U π++τ)[j]? :=λj=>QeQ hσl hp j;have au:H1.length=π.length+τ.length:=by rw[<- sc.len];simp[YA]
 have al:π.length<=(H1.map (Q5 (rho π H.length))).length:=by simp;omega
 have V:Qm fr ro w ab w':=⟨ev.sub,ev.keepRo,λb q=>ev.keepFr b (.inl q),ev.size,ev.shape,ev.os,ev.tape,ev.output,ev.drawn⟩;have F:∀j,(Yx H π (H1.map (Q5 (rho π H.length))))[rho π H.length j]?=(H1[j]?).map (Q5 (rho π H.length)):=by
  intro j;rw[Qff π H _ j al hp hπ];simp
 have B:∀i,i<H.length->i∉π->(Yx H π (H1.map (Q5 (rho π H.length))))[i]?=H[i]? :=λi=>QcN π H _ i;have t:∀i:Nat,(∃j,i=rho π H.length j)\/(i<H.length/\i∉π):=by
  intro i;by_cases q:H.length<=i\/i∈π
  .exact .inl (Qmw π H.length i q)
  .simp only[not_or]at q;exact .inr ⟨by omega,q.2⟩
 have G:∀i b x,i<H.length->i∉π->U[i]?=some (some b)->H[i]?=some x->x.live=true->frc b:=λi b x h g m J X=>.inr (.inl ⟨i,x,m,J,X,g⟩);have ag:∀i b x c,i<H.length->i∉π->U[i]?=some (some b)->H[i]?=some x->Hid w' x b c->Hid w x b c/\frc c:=λi b x c h g m J X=>
  have q6:=r.sim.hidKeep m J (λz=>ev.keepFr b (G i b x h g m J z)) ev.keepRo X
  ⟨q6,.inr (.inr ⟨i,x,b,m,J,q6,g⟩)⟩
 have aj:Sim fr ab (U++τ) (Yx H π (H1.map (Q5 (rho π H.length)))) w':=by
  refine⟨?_,sc.roOk,λb q=>sc.frLt b (.inl q),λb q q'=>sc.roFr b q (.inl q'),?_,?_,?_,?_⟩
  .rw[Qcx _ _ _ al];simp[hσl,au]
  .intro i b x h g m;rcases t i with⟨j,rfl⟩|⟨c1,c2⟩
   .rw[hσ']at h;rw[F]at g;cases e:H1[j]? with
    |none=>rw[e]at g;simp at g
    |some y=>
     rw[e]at g;simp at g;subst g;obtain⟨o1,o2,o3⟩:=sc.own j b y h e (by rw[QO]at m;exact m);exact⟨o1,o2,λq=>o3 (.inl q)⟩
   .rw[B i c1 c2]at g;rw[XJ (by omega)]at h;obtain⟨o1,o2,o3⟩:=r.sim.own i b x h g m;exact⟨X9 o1 ev.size,λq=>sc.roFr b q (G i b x c1 c2 h g m),o3⟩
  .intro i E b x y h g m J X q6;have af:∀(i E:Nat) (x y:Blk),(∃j,i=rho π H.length j)->(E<H.length/\E∉π)->(U++τ)[i]?=some (some b)->(U++τ)[E]?=some (some b)->
     (Yx H π (H1.map (Q5 (rho π H.length))))[i]?=some x->(Yx H π (H1.map (Q5 (rho π H.length))))[E]?=some y->x.live=true->y.live=true->False:=by
    rintro i E x y ⟨j,rfl⟩ ⟨c1,c2⟩ h g m J X q6;rw[hσ']at h;rw[F]at m;rw[B E c1 c2]at J;rw[XJ (by omega)]at g;cases e:H1[j]? with
    |none=>rw[e]at m;simp at m
    |some z=>
     rw[e]at m;simp at m;subst m;exact(sc.own j b z h e (by rw[QO]at X;exact X)).2.2 (G E b y c1 c2 g J q6)
   rcases t i with ci|ci<;>rcases t E with ci'|ci'
   .obtain⟨j,rfl⟩:=ci;obtain⟨R,rfl⟩:=ci';rw[hσ']at h g;rw[F]at m J;cases e:H1[j]? with
    |none=>rw[e]at m;simp at m
    |some z=>
     cases W:H1[R]? with
     |none=>rw[W]at J;simp at J
     |some z'=>
      rw[e]at m;simp at m;subst m;rw[W]at J;simp at J;subst J;rw[sc.inj j R b z z' h g e W (by rw[QO]at X;exact X) (by rw[QO]at q6;exact q6)]
   .exact(af i E x y ci ci' h g m J X q6).elim
   .exact(af E i y x ci' ci g h J m q6 X).elim
   .rw[B i ci.1 ci.2]at m;rw[B E ci'.1 ci'.2]at J;rw[XJ (by omega)]at h g;exact r.sim.inj i E b x y h g m J X q6
  .intro i s x h g;rcases t i with⟨j,rfl⟩|⟨c1,c2⟩
   .rw[hσ']at h;rw[F]at g;cases e:H1[j]? with
    |none=>rw[e]at g;simp at g
    |some y=>
     rw[e]at g;simp at g;subst g;exact(QiH hσ').2 (sc.blk j s y h e)
   .rw[B i c1 c2]at g;rw[XJ (by omega)]at h;refine BR.keep (V.ext U τ) ?_ (r.sim.blk i s x h g) ?_
    .rintro b rfl hl;exact ev.keepFr b (G i b x c1 c2 h g hl)
    .rintro b c rfl hl;exact ev.keepFr c (.inr (.inr ⟨i,x,b,h,g,hl,c2⟩))
  .intro i b x c h g m;rcases t i with⟨j,rfl⟩|⟨c1,c2⟩
   .rw[hσ']at h;rw[F]at g;cases e:H1[j]? with
    |none=>rw[e]at g;simp at g
    |some y=>
     rw[e]at g;simp at g;subst g;have k:=sc.hid j b y c h e ((Qaj _ _ _ _ _).1 m);refine⟨k.lt,k.ro,λq=>k.fr (.inl q),?_,?_⟩
     .intro E b' y' L n Y;rcases t E with⟨R,rfl⟩|⟨d1,d2⟩
      .rw[hσ']at L;rw[F]at n;cases W:H1[R]? with
       |none=>rw[W]at n;simp at n
       |some u=>
        rw[W]at n;simp at n;subst n;exact k.ne R b' u L W (by rw[QO]at Y;exact Y)
      .rw[B E d1 d2]at n;rw[XJ (by omega)]at L;rintro rfl;exact k.fr (G E c y' d1 d2 L n Y)
     .intro E b' y' L n Y;rcases t E with⟨R,rfl⟩|⟨d1,d2⟩
      .rw[hσ']at L;rw[F]at n;cases W:H1[R]? with
       |none=>rw[W]at n;simp at n
       |some u=>
        rw[W]at n;simp at n;subst n;obtain⟨z4,rfl⟩:=k.one R b' u L W ((Qaj _ _ _ _ _).1 Y);exact⟨z4,rfl⟩
      .rw[B E d1 d2]at n;rw[XJ (by omega)]at L;exact(k.fr (ag E b' y' c d1 d2 L n Y).2).elim
   .rw[B i c1 c2]at g;rw[XJ (by omega)]at h;obtain⟨J,X⟩:=ag i b x c c1 c2 h g m;have k:=r.sim.hid i b x c h g J;refine⟨X9 k.lt ev.size,λq=>sc.roFr c q X,k.fr,?_,?_⟩
    .intro E b' y' L n Y;rcases t E with⟨R,rfl⟩|⟨d1,d2⟩
     .rw[hσ']at L;rw[F]at n;cases W:H1[R]? with
      |none=>rw[W]at n;simp at n
      |some u=>
       rw[W]at n;simp at n;subst n;rintro rfl;exact(sc.own R c u L W (by rw[QO]at Y;exact Y)).2.2 X
     .rw[B E d1 d2]at n;rw[XJ (by omega)]at L;exact k.ne E b' y' L n Y
    .intro E b' y' L n Y;rcases t E with⟨R,rfl⟩|⟨d1,d2⟩
     .rw[hσ']at L;rw[F]at n;cases W:H1[R]? with
      |none=>rw[W]at n;simp at n
      |some u=>
       rw[W]at n;simp at n;subst n;exact((sc.hid R b' u c L W ((Qaj _ _ _ _ _).1 Y)).fr X).elim
     .rw[B E d1 d2]at n;rw[XJ (by omega)]at L;exact k.one E b' y' L n (ag E b' y' c d1 d2 L n Y).1
 have av:VR ab (U++τ) w' (Y7 (rho π H.length) rr) v:=(Qd1 hσ').2 hv;have hk:=k rr H1 hq;cases d with
 |none=>
  simp only[hd,Act.put];have r':Rel fr ab (U++τ) (Yx H π (H1.map (Q5 (rho π H.length)))) env N a w':=⟨aj,λs=>(r.env s).mono (V.ext U τ),r.size,r.defers.keep V⟩;exact⟨_,rfl,Yn (λe a w q=>q.step V (QF (by omega))) _ _ _ (hk rd fr ab (U++τ) _ w' r' (hrd.to V λ_ q=>q))⟩
 |some d=>
  simp only[hd,Act.put];have ar:=hN d rfl;have r':Rel fr ab (U++τ) (Yx H π (H1.map (Q5 (rho π H.length)))) (up env d (Y7 (rho π H.length) rr)) N {a with tmps:=a.tmps.setIfInBounds d v} w':=
   ⟨aj,VR.up (fr:=fr) (λs=>(r.env s).mono (V.ext U τ)) (by rw[r.size];exact ar) av,by simpa using r.size,r.defers.keep V⟩
  exact⟨_,rfl,Yn (λe a w q=>q.step V (QF (by omega))) _ _ _ (hk rd fr ab (U++τ) _ w' r' (hrd.to V λ_ q=>q))⟩
variable {T k:Nat}{cs' vs:List A}{es:List (List A)}{q:List UInt8}{t u:TypeId}
section
variable {P:Program} {o:Oper} {env:Env} {H:Qc}
theorem QK{a:Act}(r:Rel fr ro U H env N a w){x:Operand}{k:IntKind}{n:Int}(h:opA env x=.int k n):a.eval x=.int k n:=by
 have:=Qh r x;rw[h]at this;exact this
theorem Qde{a:Act}(r:Rel fr ro U H env N a w){x:Operand}{b:Bool}(h:opA env x=.bool b):a.eval x=.bool b:=by
 have:=Qh r x;rw[h]at this;exact this
theorem QeT{a:Act}(r:Rel fr ro U H env N a w){x:Operand}{s:List UInt8}(h:opA env x=.str s):a.eval x=.string ⟨s.toArray⟩:=by
 have:=Qh r x;rw[h]at this;exact this
theorem OpV.move{x:Operand}{v:A}(ho:o.op=.move x)(hx:opA env x=v):OpV P o env H v:=
 λfr ro U N a w r=>⟨a.eval x,by simp[execOp,ho],hx▸Qh r x⟩
theorem OpV.assign{x:Operand}{v:A}(ho:o.op=.assign x)(hx:opA env x=v):OpV P o env H v:=
 λfr ro U N a w r=>⟨a.eval x,by simp[execOp,ho],hx▸Qh r x⟩
theorem OpV.pick{c x y:Operand}{b:Bool}{v:A}(g:o.op=.pick c x y)(d:opA env c=.bool b)(e:(if b then opA env x else opA env y)=v):OpV P o env H v:=by
 intro h i U N a w r;have f:=Qde r d;refine⟨if b then a.eval x else a.eval y,by simp_all[execOp,asBool],?_⟩
 grind[Qh]
theorem OpV.add{t u:TypeId}{x y:Operand}{k:IntKind}{m n:Int}(f:o.op=.binOp .add t x y u)(d:opA env x=.int k m)(e:opA env y=.int k n):OpV P o env H (.int k (k.wrap (m+n))):=by
 intro g h U N a w r;have i:=QK r d;have j:=QK r e;refine⟨_,?_,rfl⟩
 simp_all[execOp,Go.binOp,eqGuard,Op.intArith]
theorem OpV.sub{t u:TypeId}{x y:Operand}{k:IntKind}{m n:Int}(f:o.op=.binOp .sub t x y u)(d:opA env x=.int k m)(e:opA env y=.int k n):OpV P o env H (.int k (k.wrap (m-n))):=by
 intro g h U N a w r;have i:=QK r d;have j:=QK r e;refine⟨_,?_,rfl⟩
 simp_all[execOp,Go.binOp,eqGuard,Op.intArith]
theorem OpV.mul{t u:TypeId}{x y:Operand}{k:IntKind}{m n:Int}(f:o.op=.binOp .mul t x y u)(d:opA env x=.int k m)(e:opA env y=.int k n):OpV P o env H (.int k (k.wrap (m*n))):=by
 intro g h U N a w r;have i:=QK r d;have j:=QK r e;refine⟨_,?_,rfl⟩
 simp_all[execOp,Go.binOp,eqGuard,Op.intArith]
theorem OpV.cmp{op:BinOp}{x y:Operand}{k:IntKind}{m n:Int}{f:Int->Int->Bool}(e:o.op=.binOp op t x y u)(h:opA env x=.int k m)(i:opA env y=.int k n)
  (d:op=.eql/\f=(λa b=>a==b)\/op=.neq/\f=(λa b=>a != b)\/op=.lss/\f=(λa b=>decide (a<b))\/op=.leq/\f=(λa b=>decide (a<=b))\/
   op=.gtr/\f=(λa b=>decide (b<a))\/op=.geq/\f=(λa b=>decide (b<=a))):OpV P o env H (.bool (f m n)):=by
 intro l p U N a w r;have g:=QK r h;have j:=QK r i;refine⟨_,?_,rfl⟩;generalize a.eval=ρ at*;rcases d with⟨rfl,rfl⟩|⟨rfl,rfl⟩|⟨rfl,rfl⟩|⟨rfl,rfl⟩|⟨rfl,rfl⟩|⟨rfl,rfl⟩<;>simp[e,g,j,go_sem]
theorem OpV.eql{t u:TypeId}{x y:Operand}{k:IntKind}{m n:Int}(ho:o.op=.binOp .eql t x y u)(hx:opA env x=.int k m)(hy:opA env y=.int k n):OpV P o env H (.bool (m==n)):=
 OpV.cmp ho hx hy (by simp)
theorem OpV.neq{t u:TypeId}{x y:Operand}{k:IntKind}{m n:Int}(ho:o.op=.binOp .neq t x y u)(hx:opA env x=.int k m)(hy:opA env y=.int k n):OpV P o env H (.bool (m != n)):=
 OpV.cmp ho hx hy (by simp)
theorem OpV.lss{t u:TypeId}{x y:Operand}{k:IntKind}{m n:Int}(ho:o.op=.binOp .lss t x y u)(hx:opA env x=.int k m)(hy:opA env y=.int k n):OpV P o env H (.bool (decide (m<n))):=
 OpV.cmp (f:=λa b=>decide (a<b)) ho hx hy (by simp)
theorem OpV.leq{t u:TypeId}{x y:Operand}{k:IntKind}{m n:Int}(ho:o.op=.binOp .leq t x y u)(hx:opA env x=.int k m)(hy:opA env y=.int k n):OpV P o env H (.bool (decide (m<=n))):=
 OpV.cmp (f:=λa b=>decide (a<=b)) ho hx hy (by simp)
theorem OpV.gtr{t u:TypeId}{x y:Operand}{k:IntKind}{m n:Int}(ho:o.op=.binOp .gtr t x y u)(hx:opA env x=.int k m)(hy:opA env y=.int k n):OpV P o env H (.bool (decide (n<m))):=
 OpV.cmp (f:=λa b=>decide (b<a)) ho hx hy (by simp)
theorem OpV.geq{t u:TypeId}{x y:Operand}{k:IntKind}{m n:Int}(ho:o.op=.binOp .geq t x y u)(hx:opA env x=.int k m)(hy:opA env y=.int k n):OpV P o env H (.bool (decide (n<=m))):=
 OpV.cmp (f:=λa b=>decide (b<=a)) ho hx hy (by simp)
theorem OpV.rem{t u:TypeId}{x y:Operand}{k:IntKind}{m n:Int}(h:o.op=.binOp .rem t x y u)(d:opA env x=.int k m)(e:opA env y=.int k n)(f:n≠0):OpV P o env H (.int k (m.tmod n)):=by
 intro g j U N a w r;have i:=QK r d;have l:=QK r e;exact⟨_,by simp_all[execOp,Go.binOp,eqGuard,Op.intDiv],rfl⟩
theorem OpV.quo{t u:TypeId}{x y:Operand}{k:IntKind}{m n:Int}(h:o.op=.binOp .quo t x y u)(d:opA env x=.int k m)(e:opA env y=.int k n)(f:n≠0):OpV P o env H (.int k (k.wrap (m.tdiv n))):=by
 intro g j U N a w r;have i:=QK r d;have l:=QK r e;exact⟨_,by simp_all[execOp,Go.binOp,eqGuard,Op.intDiv],rfl⟩
theorem OpV.not{t:TypeId}{x:Operand}{b:Bool}(e:o.op=.unOp .not t x)(d:opA env x=.bool b):OpV P o env H (.bool !b):=by
 intro f g U N a w r;have h:=Qde r d;exact⟨_,by simp_all[execOp,Op.unary],rfl⟩
theorem OpV.neg{t:TypeId}{x:Operand}{k:IntKind}{n:Int}(e:o.op=.unOp .neg t x)(d:opA env x=.int k n):OpV P o env H (.int k (k.wrap (0-n))):=by
 intro f g U N a w r;have h:=QK r d;exact⟨_,by simp_all[execOp,Op.unary,Op.intArith],rfl⟩
theorem YZ{s:TypeId}{x:Operand}{k e:IntKind}{n:Int}{d:TypeDesc}(h:o.op=.convert s t x)(l:∀w,(underlying s).run P w=.ok d w)(j:∀w,(underlying t).run P w=.ok (.int k) w)
  (f:opA env x=.int e n):OpV P o env H (.int k (k.wrap n)):=by
 intro g m U N a w r;have i:=QK r f;refine⟨_,?_,rfl⟩
 simp_all[execOp,convert,Conv.intToInt]
theorem Qcq{op:BinOp}{x y:Operand}{p:List UInt8}{f:List UInt8->List UInt8->Bool}(e:o.op=.binOp op t x y u)(h:opA env x=.str p)(j:opA env y=.str q)
  (d:op=.eql/\f=(λa b=>a==b)\/op=.neq/\f=(λa b=>a != b)\/op=.lss/\f=Op.bytesLess\/op=.geq/\f=(λa b=> !Op.bytesLess a b)\/
   op=.leq/\f=(λa b=>Op.bytesLess a b||a==b)\/op=.gtr/\f=(λa b=> !(Op.bytesLess a b||a==b))):OpV P o env H (.bool (f p q)):=by
 intro m n U N a w r;have g:=QeT r h;have l:=QeT r j;refine⟨_,?_,rfl⟩;generalize a.eval=ρ at*;have i:(⟨p.toArray⟩:ByteArray).toList=p:=by simp
 have k:(⟨q.toArray⟩:ByteArray).toList=q:=by simp
 rcases d with⟨rfl,rfl⟩|⟨rfl,rfl⟩|⟨rfl,rfl⟩|⟨rfl,rfl⟩|⟨rfl,rfl⟩|⟨rfl,rfl⟩<;>simp[e,g,l,Go.binOp,Op.stringOp,i,k,go_sem,bne]
theorem Qd7{x y:Operand}{p:List UInt8}(ho:o.op=.binOp .eql t x y u)(hx:opA env x=.str p)(hy:opA env y=.str q):OpV P o env H (.bool (p==q)):=
 Qcq ho hx hy (by simp)
theorem Qnk{x y:Operand}{p:List UInt8}(ho:o.op=.binOp .neq t x y u)(hx:opA env x=.str p)(hy:opA env y=.str q):OpV P o env H (.bool (p != q)):=
 Qcq ho hx hy (by simp)
theorem Qnl{x y:Operand}{p:List UInt8}(ho:o.op=.binOp .lss t x y u)(hx:opA env x=.str p)(hy:opA env y=.str q):OpV P o env H (.bool (Op.bytesLess p q)):=
 Qcq ho hx hy (by simp)
theorem Qnm{x y:Operand}{s:List UInt8}{k:IntKind}{n:Int}{c:UInt8}(m:o.op=.index t x y)(q:∀w,(underlying t).run P w=.ok .string w)(h:opA env x=.str s)(j:opA env y=.int k n)
  (h0:0<=n)(i:s[n.toNat]?=some c):OpV P o env H (.int .u8 c.toNat):=by
 intro l u U N a w r;have p:=QeT r h;have z:=QK r j;have g:(⟨s.toArray⟩:ByteArray)[n.toNat]?=some c:=by
  obtain⟨d,e⟩:=XI.1 i;have f:(⟨s.toArray⟩:ByteArray).size=s.length:=by rfl
  rw[getElem?_pos _ _ (by exact d)];show some (s.toArray[n.toNat]'(by omega))=some c;simp[e]
 refine⟨_,?_,rfl⟩
 simp_all[execOp,Instr.index,asIntOf]
theorem Jl{c:Call}{x:Operand}{s:List UInt8}(f:o.op=.call c)(g:c={callee:=.builtin .len,args:= #[x],argTypes:= #[t]})(e:∀w,(underlying t).run P w=.ok .string w)
  (d:opA env x=.str s):OpV P o env H (.int .i64 s.length):=by
 intro i j U N a w r;have h:=QeT r d;generalize a.eval=ρ at*;subst g;simp[execOp,f,h,resolve,invoke,Builtin.len_,e,goInt,go_sem]<;>rfl
theorem Qo6{c:Call}{e:TypeId}{x:Operand}(f:o.op=.call c)(j:c={callee:=.builtin .len,args:= #[x],argTypes:= #[t]})(i:∀w,(underlying t).run P w=.ok (.slice e) w)
  (h:opA env x=.rsl k es):OpV P o env H (.int .i64 es.length):=by
 intro l m U N a w r;have d:=Qh r x;rw[h]at d;obtain⟨ad,g,d,_⟩:=d;refine⟨_,?_,rfl⟩;generalize a.eval=ρ at*;subst j;simp[execOp,f,d,resolve,invoke,Builtin.len_,i,goInt,go_sem]
theorem Qj5{c:Call}{e:TypeId}{x:Operand}{i s n:Nat}(f:o.op=.call c)(l:c={callee:=.builtin .len,args:= #[x],argTypes:= #[t]})(j:∀w,(underlying t).run P w=.ok (.slice e) w)
  (h:opA env x=.osl i s n k):OpV P o env H (.int .i64 n):=by
 intro q u U N a w r;have d:=Qh r x;rw[h]at d;refine⟨_,?_,rfl⟩;generalize a.eval=ρ at*;subst l;rcases d with⟨rfl,d⟩|⟨b,p,g,y,m,_,d,_⟩<;>
 simp[execOp,f,d,resolve,invoke,Builtin.len_,j,goInt,go_sem]
structure QL (P:Program) (T f off n:Nat):Prop where
 h:∃fs fd,(∀w,(underlying T).run P w=.ok (.struct fs) w)/\fs[f]?=some fd/\fd.offset=off/\(∀w,(sizeOf fd.type).run P w=.ok n w)/\n≠0
theorem JX(b off n:Nat):(⟨b,off,none⟩:Addr).add n=⟨b,off+n,none⟩:=by
 simp_all[Addr.add]
theorem Qef{f n b p:Nat}(a:QL P T f off n)(w:World):(Instr.fieldAt T (.pointer (some ⟨b,p,none⟩)) f).run P w=.ok (.pointer (some ⟨b,p+off,none⟩)) w:=by
 obtain⟨d,g,i,k,rfl,e,j⟩:=a.h
 simp_all[Instr.fieldAt,Instr.sureAddr,fieldPlace,JX]
theorem Yz{f n i p:Nat}{x:Operand}(h:QL P T f off n)(g:o.op=.fieldAddr T x f)(e:opA env x=.ptr i p):OpV P o env H (.ptr i (p+off)):=by
 intro k l U N a w r;have d:=Qh r x;rw[e]at d;obtain⟨b,d,j⟩:=d;refine⟨.pointer (some ⟨b,p+off,none⟩),?_,b,d,rfl⟩;simp only[execOp,g,j,Vg,Qef h];rfl
theorem CR.drop{ro:Nat->Prop}{U:Sig}{w:World}{b:Nat}:∀(n:Nat) {cs:List A} {off:Nat},CR ro U w b cs off->CR ro U w b (cs.drop n) (off+n)
 |0,_,_,h=>h
 |n+1,[],_,h=>trivial
 |n+1,c::cs,off,h=>by
  have:=CR.drop n h.2
  grind
theorem CR.take{ro:Nat->Prop}{U:Sig}{w:World}{b:Nat}:∀(n:Nat) {cs:List A} {off:Nat},CR ro U w b cs off->CR ro U w b (cs.take n) off
 |0,_,_,h=>trivial
 |n+1,[],_,h=>trivial
 |n+1,c::cs,off,h=>⟨h.1,CR.take n h.2⟩
theorem QA{f n:Nat}{x:Operand}{cs:List A}(j:QL P T f off n)(g:o.op=.fieldAddr T x f)(i:opA env x=.rp cs)(e:cs.drop off=cs'):OpV P o env H (.rp cs'):=by
 intro l m U N a w r;have d:=Qh r x;rw[i]at d;obtain⟨b,p,d,k,h⟩:=d;refine⟨.pointer (some ⟨b,p+off,none⟩),?_,b,p+off,rfl,k,e▸h.drop off⟩;simp only[execOp,g,d,Vg,Qef j];rfl
theorem RR.get{ro:Nat->Prop}{U:Sig}{w:World}{b k:Nat}:∀(n:Nat) {es:List (List A)} {off:Nat} {c:List A},RR ro U w b k es off->es[n]?=some c->c.length=k/\CR ro U w b c (off+n*k)
 |n,[],_,_,h,hc=>by simp at hc
 |0,e::es,off,c,h,hc=>by
  simp at hc;subst hc;exact⟨h.1,by simpa using h.2.1⟩
 |n+1,e::es,off,c,h,hc=>by
  have:=RR.get n h.2.2 (by simpa using hc)
  grind
theorem Qp3{e:TypeId}{x y:Operand}{i:IntKind}{n:Int}{c:List A}(j:o.op=.indexAddr t x y)(B:∀w,(underlying t).run P w=.ok (.slice e) w)
  (p:∀w,(sizeOf e).run P w=.ok k w)(l:opA env x=.rsl k es)(E:opA env y=.int i n)(h0:0<=n)(m:es[n.toNat]?=some c):OpV P o env H (.rp c):=by
 intro G J U N a w r;have f:=Qh r x;rw[l]at f;have F:=QK r E;obtain⟨ad,z,f,L,u⟩:=f;have g:n.toNat<es.length:=(by grind);rcases u with rfl|⟨b,d,rfl,q,h⟩
 .simp at g
 have s:n<es.length:=by omega
 refine⟨.pointer (some ⟨b,d+n.toNat*k,none⟩),?_,b,d+n.toNat*k,rfl,q,(h.get n.toNat m).2⟩;generalize a.eval=ρ at*;simp[j,f,F,Instr.indexAt,B,p,h0,s,go_sem]
theorem Qiw{e:TypeId}{x y:Operand}{i s:Nat}{h:IntKind}{n:Int}(l:o.op=.indexAddr t x y)(z:∀w,(underlying t).run P w=.ok (.slice e) w)
  (f:∀w,(sizeOf e).run P w=.ok k w)(u:opA env x=.osl i s m k)(E:opA env y=.int h n)(h0:0<=n)(B:n<m):OpV P o env H (.ptr i (s*k+n.toNat*k)):=by
 intro J L U N a w r;have d:=Qh r x;rw[u]at d;have F:=QK r E;rcases d with⟨rfl,_⟩|⟨b,p,j,M,G,q,d,g,O,_⟩
 .omega
 obtain rfl:=g (by omega);refine⟨.pointer (some ⟨b,s*k+n.toNat*k,none⟩),?_,b,q,rfl⟩;generalize a.eval=ρ at*;simp[l,d,F,Instr.indexAt,z,f,h0,B,go_sem]
def Pts(H:Qc)(p:A)(cs:List A):Prop:=
 ∀fr ro U w v,Sim fr ro U H w->VR ro U w p v->∃b off,v=.pointer (some ⟨b,off,none⟩)/\CR ro U w b cs off
theorem VR.lift{a:A}{v:Value}(h:VR ro [] w a v):VR ro U w a v:=
 h.mono ⟨λ_ q=>q,λ_ _=>rfl,λ_ _ q=>q,(by simp)⟩
theorem CR.lift{ro:Nat->Prop}{U:Sig}{w:World}{b:Nat}:∀{cs:List A} {off:Nat},CR ro [] w b cs off->CR ro U w b cs off
 |[],_,_=>trivial
 |c::cs,off,⟨⟨v,h1,hp,h2⟩,h3⟩=>⟨⟨v,h1,hp,h2.lift⟩,CR.lift h3⟩
theorem Pts.rp{cs:List A}:Pts H (.rp cs) cs:=λfr ro U w v s ⟨b,off,h1,h2,h3⟩=>⟨b,off,h1,h3.lift⟩
theorem LR.cells{ro:Nat->Prop}{U:Sig}{w:World}{b t:Nat}{fz:Nat×Nat}{pre l:List Value}(d:w.heap[b]?=some (.cells (pre++l).toArray t fz))(a:∀v∈l,Qy v):
  ∀{cs:List A},LR ro U w cs l->CR ro U w b cs pre.length:=by
 induction l generalizing pre with
 |nil=>
  intro cs h;cases cs with
  |nil=>trivial
  |cons c cs=>obtain⟨v,e,h,_⟩:=h;cases h
 |cons v l f=>
  intro cs h;cases cs with
  |nil=>trivial
  |cons c cs=>
   obtain⟨m,e,g,k,i⟩:=h;cases g;refine⟨⟨v,by simp[World.cell?,d],a v (by simp),k⟩,?_⟩;have:=f (pre:=pre++[v]) (by simpa using d) (λx j=>a x (by simp[j])) i
   grind
theorem Pts.cells{i off t:Nat}{cs cs':List A}(hH:H[i]?=some (.cells t cs))(f:cs.drop off=cs'):Pts H (.ptr i off) cs':=by
 intro k m U w v s h;obtain⟨b,d,j⟩:=h;obtain⟨l,g,a,e⟩:=s.blk i _ _ d hH;have:=LR.cells (pre:=[]) (by simpa using g) e a;have:=this.drop off
 grind
theorem LR.get{ro:Nat->Prop}{U:Sig}{w:World}:∀{az:List A} {l:List Value} (i:Nat) {a:A},LR ro U w az l->az[i]?=some a->∃v,l[i]?=some v/\VR ro U w a v
 |[],l,i,a,h,ha=>by simp at ha
 |x::az,l,0,a,⟨v,l',h1,h2,h3⟩,ha=>by
  grind
 |x::az,l,i+1,a,⟨v,l',h1,h2,h3⟩,ha=>by
  obtain⟨v',q1,q2⟩:=LR.get i h3 (by simpa using ha)
  grind
theorem LR.drop{ro:Nat->Prop}{U:Sig}{w:World}:∀(n:Nat) {az:List A} {l:List Value},LR ro U w az l->LR ro U w (az.drop n) (l.drop n)
 |0,az,l,h=>h
 |n+1,[],l,h=>by cases(show l=[]from h);rfl
 |n+1,a::az,l,⟨v,l',h1,h2,h3⟩=>by subst h1;exact LR.drop n h3
theorem LR.take{ro:Nat->Prop}{U:Sig}{w:World}:∀(n:Nat) {az:List A} {l:List Value},LR ro U w az l->LR ro U w (az.take n) (l.take n)
 |0,az,l,h=>rfl
 |n+1,[],l,h=>by cases(show l=[]from h);rfl
 |n+1,a::az,l,⟨v,l',h1,h2,h3⟩=>by subst h1;exact⟨v,l'.take n,rfl,h2,LR.take n h3⟩
theorem LR.append{ro:Nat->Prop}{U:Sig}{w:World}:∀{az:List A} {l:List Value} {bs:List A} {m:List Value},LR ro U w az l->LR ro U w bs m->LR ro U w (az++bs) (l++m)
 |[],l,bs,m,h,k=>by cases(show l=[]from h);exact k
 |a::az,l,bs,m,⟨v,l',h1,h2,h3⟩,k=>by subst h1;exact⟨v,l'++m,rfl,h2,LR.append h3 k⟩
theorem Qml{ro:Nat->Prop}{U:Sig}{w:World}{b t:Nat}{fz:Nat×Nat}:∀{cs:List A} {pre l post:List Value},w.heap[b]?=some (.cells (pre++(l++post)).toArray t fz)->(∀v∈l,Qy v)->
  LR ro U w cs l->CR ro U w b cs pre.length
 |[],_,_,_,_,_,_=>trivial
 |c::cs,pre,l,post,hb,hpl,⟨v,l',h1,h2,h3⟩=>by
  subst h1;refine⟨⟨v,by simp[World.cell?,hb],hpl v (by simp),h2⟩,?_⟩;have:=Qml (pre:=pre++[v]) (by simpa using hb) (by grind) h3
  grind
theorem Y4{ro:Nat->Prop}{U:Sig}{w:World}{b t k:Nat}{fz:Nat×Nat}:∀{es:List (List A)} {pre l:List Value},w.heap[b]?=some (.cells (pre++l).toArray t fz)->
  RL ro U w k es l->RR ro U w b k es pre.length
 |[],_,_,_,_=>trivial
 |c::es,pre,l,hb,⟨l1,l2,h1,h2,h3,h4⟩=>by
  subst h1;refine⟨h2,Qml hb h3.2 h3.1,?_⟩;have hl:=h3.1.length;have:=Y4 (pre:=pre++l1) (by simpa using hb) h4
  grind
theorem Pts.row{i off t k e f:Nat}{es:List (List A)}{c cs':List A}(hH:H[i]?=some (.row t k es))(j:off=e*k+f)(he:es[e]?=some c)(a:c.drop f=cs'):Pts H (.ptr i off) cs':=by
 intro p q U w v s h;obtain⟨b,m,g⟩:=h;obtain⟨l,n,d⟩:=s.blk i _ _ m hH;have:=((Y4 (pre:=[]) (by simpa using n) d).get e he).2.drop f;refine⟨b,off,g,?_⟩;subst j a;simpa using this.lift
theorem Pts.rowr{i off t k e f:Nat}{es:List (List A)}{c cs':List A}(hH:H[i]?=some (.rowr t k es))(p:off=e*k+f)(he:es[e]?=some c)(g:c.drop f=cs'):Pts H (.ptr i off) cs':=by
 intro n q U w v s h;obtain⟨b,d,m⟩:=h;obtain⟨l,j,a⟩:=s.blk i _ _ d hH;have:=((Y4 (pre:=[]) (by simpa using j) a).get e he).2.drop f
 grind
theorem Qnb(h:w'.heap=w.heap)(a:Addr):w'.cell? a=w.cell? a:=by unfold World.cell?;rw[h]
theorem Yt{ro:Nat->Prop}{U:Sig}{w:World}{b off:Nat}:∀{cs:List A} (i:Nat),CR ro U w b cs (off+i)->
  ∃l,LR ro U w cs l/\(∀v∈l,Qy v)/\ ∀(w':World) (a:Array Value),w'.heap=w.heap->(loadCellsFrom ⟨b,off,none⟩ i cs.length a).run P w'=.ok (a++l.toArray) w'
 |[],i,h=>⟨[],rfl,by simp,λw' a _=>by rfl⟩
 |c::cs,i,⟨⟨v,h1,hp,h2⟩,h3⟩=>by
  obtain⟨l,q1,qp,q2⟩:=Yt (i+1) (by omega);refine⟨v::l,⟨v,l,rfl,h2,q1⟩,by grind,λw' a hw=>?_⟩;have h1':w'.cell? ⟨b,off+i,none⟩=some v:=by rw[Qnb hw];exact h1
  simp_all[loadCellsFrom,JX]
theorem Qs{t n:Nat}{x:Operand}{p:A}{cs:List A}(y:o.op=.load t x)(s:∀w,(isAgg t).run P w=.ok true w)(z:∀w,(sizeOf t).run P w=.ok n w)(i:opA env x=p)(j:Pts H p cs)
  (f:cs.take n=vs)(hl:vs.length=n):OpV P o env H (.agg vs):=by
 intro g k U N a w r;have d:=Qh r x;rw[i]at d;obtain⟨b,e,u,h⟩:=j g k U w _ r.sim d;subst f;obtain⟨l,m,_,q⟩:=Yt (P:=P) 0 (by simpa using h.take n);refine⟨.agg l.toArray,?_,l,rfl,m⟩
 simp_all[execOp,Instr.loadAt,Instr.sureAddr,loadVar,loadCells]
theorem OpV.load{t:Nat}{x:Operand}{p v:A}{cs:List A}(l:o.op=.load t x)(j:∀w,(isAgg t).run P w=.ok false w)(g:opA env x=p)(h:Pts H p (v::cs)):OpV P o env H v:=by
 intro f i U N a w r;have d:=Qh r x;rw[g]at d;obtain⟨b,e,n,⟨y,m,_,k⟩,_⟩:=h f i U w _ r.sim d
 simp_all[execOp,Instr.loadAt,Instr.sureAddr,loadVar]
theorem OpV.extract{x:Operand}{vs:List A}{i:Nat}{v:A}(k:o.op=.extract x i)(e:opA env x=.tup vs)(f:vs[i]?=some v):OpV P o env H v:=by
 intro h n U N a w r;have d:=Qh r x;rw[e]at d;obtain⟨l,d,g⟩:=d;obtain⟨y,m,j⟩:=g.get i f
 simp_all[execOp,Instr.extract]
theorem Qbm{fr ro:Nat->Prop}{U:Sig}{N:Nat}{a:Act}{w:World}(r:Rel fr ro U H env N a w):∀(l:List Operand),LR ro U w (l.map (opA env)) (l.map a.eval)
 |[]=>rfl
 |x::l=>⟨_,_,rfl,Qh r x,Qbm r l⟩
theorem OpV.makeFunc{f:Fn}{first cap:List Operand}{e d:List A}(i:o.op=.makeFunc f first.toArray cap.toArray)(g:first.map (opA env)=e)(h:cap.map (opA env)=d):OpV P o env H (.fn f e d):=by
 intro j k U N a w r;refine⟨.func f (first.map a.eval).toArray (cap.map a.eval).toArray,?_,_,_,rfl,g▸Qbm r first,h▸Qbm r cap⟩
 simp_all[execOp,Instr.makeFunc]
theorem Qao{x:Operand}{v:A}{d:TypeDesc}(g:o.op=.makeInterface t x)(h:∀w,(underlying t).run P w=.ok d w)(k:∀m,d≠ .interface m)(f:opA env x=v):OpV P o env H (.iface t v):=by
 intro i j U N a w r;have e:=Qh r x;rw[f]at e;refine⟨.iface t (a.eval x),?_,_,rfl,e⟩
 simp_all[execOp,Instr.makeInterface]
end
mutual
def YJ:A->Bool
 |.ptr _ _=>false
 |.osl _ _ _ _=>false
 |.map _=>false
 |.agg cs=>Yq cs
 |.fn _ a c=>Yq a&&Yq c
 |.iface _ v=>YJ v
 |.tup vs=>Yq vs
 |_=>true
def Yq:List A->Bool
 |[]=>true
 |a::r=>YJ a&&Yq r
end
mutual
theorem VR.data{ro:Nat->Prop}{U σ':Sig}{w:World}:∀{a:A} {v:Value},YJ a=true->VR ro U w a v->VR ro σ' w a v
 |.any,_,_,_=>trivial
 |.bool b,v,_,q=>q
 |.int k n,v,_,q=>q
 |.str s,v,_,q=>q
 |.nilp,v,_,q=>q
 |.ptr i off,v,d,q=>by simp[YJ]at d
 |.rp cs,v,_,q=>q
 |.nils,v,_,q=>q
 |.rsl k es,v,_,q=>q
 |.osl i o n k,v,d,q=>by simp[YJ]at d
 |.agg cs,v,d,q=>by
  simp only[VR,YJ]at q d⊢;obtain⟨l,h1,h2⟩:=q;exact⟨l,h1,LR.data d h2⟩
 |.fn f a c,v,d,q=>by
  simp only[VR,YJ,XT]at q d⊢;obtain⟨l,l',h1,h2,h3⟩:=q;exact⟨l,l',h1,LR.data d.1 h2,LR.data d.2 h3⟩
 |.nilf,v,_,q=>q
 |.iface t a,v,d,q=>by
  simp only[VR,YJ]at q d⊢;obtain⟨x,h1,h2⟩:=q;exact⟨x,h1,VR.data d h2⟩
 |.nilif,v,_,q=>q
 |.map i,v,d,q=>by simp[YJ]at d
 |.nilm,v,_,q=>q
 |.tup vs,v,d,q=>by
  simp only[VR,YJ]at q d⊢;obtain⟨l,h1,h2⟩:=q;exact⟨l,h1,LR.data d h2⟩
theorem LR.data{ro:Nat->Prop}{U σ':Sig}{w:World}:∀{az:List A} {l:List Value},Yq az=true->LR ro U w az l->LR ro σ' w az l
 |[],_,_,q=>q
 |a::r,l,d,q=>by
  simp only[LR,Yq,XT]at q d⊢;obtain⟨v,l',h1,h2,h3⟩:=q;exact⟨v,l',h1,VR.data d.1 h2,LR.data d.2 h3⟩
end
def Yy:A->Bool
 |.any|.agg _|.tup _=>false
 |_=>true
def Yr:A->List A
 |.agg cs=>cs
 |a=>[a]
def Yj:A->Bool
 |.any=>false
 |_=>true
theorem VR.plain{a:A}{v:Value}(d:Yy a=true)(h:VR ro U w a v):Qy v:=by
 cases a<;>first|(simp[Yy]at d)|skip
 case rsl k es=>obtain⟨ad,c,rfl,_⟩:=h;trivial
 case osl=>rcases h with⟨_,rfl⟩|⟨_,_,_,_,_,_,rfl,_⟩<;>trivial
 case fn=>obtain⟨_,_,rfl,_⟩:=h;trivial
 case iface=>obtain⟨_,rfl,_⟩:=h;trivial
 case ptr=>obtain⟨_,_,rfl⟩:=h;trivial
 case rp=>obtain⟨_,_,rfl,_⟩:=h;trivial
 case map=>obtain⟨_,_,rfl⟩:=h;trivial
 all_goals (subst h;trivial)
theorem VR.cells{ro:Nat->Prop}{U:Sig}{w:World}{a:A}{v:Value}(e:Yj a=true)(h:VR ro U w a v):∃l:List Value,v.cells=l.toArray/\LR ro U w (Yr a) l:=by
 cases a
 case any=>simp[Yj]at e
 case agg cs=>obtain⟨l,rfl,h⟩:=h;exact⟨l,rfl,h⟩
 case tup cs=>obtain⟨l,rfl,h⟩:=h;exact⟨[.tuple l.toArray],rfl,_,_,rfl,⟨l,rfl,h⟩,rfl⟩
 all_goals
  have d:=h.plain rfl;refine⟨[v],?_,v,[],rfl,h,rfl⟩;cases v<;>first|rfl|exact d.elim
theorem LR.plain{ro:Nat->Prop}{U:Sig}{w:World}:∀{az:List A} {l:List Value},az.all Yy=true->LR ro U w az l->∀v∈l,Qy v
 |[],l,_,h=>by cases(show l=[]from h);simp
 |a::az,l,hp,⟨v,l',h1,h2,h3⟩=>by
  subst h1;simp only[List.all_cons,XT]at hp;intro x hx;rcases X0.1 hx with rfl|hx
  .exact h2.plain hp.1
  .exact LR.plain hp.2 h3 x hx
theorem Yl(w:World)(obj:Obj)(b:Nat)(a:b<w.heap.size):(w.alloc obj).heap[b]?=w.heap[b]? :=by
 show(w.heap.push obj)[b]?=_
 grind
theorem Yk(w:World)(obj:Obj):(w.alloc obj).heap[w.heap.size]?=some obj:=by
 show(w.heap.push obj)[w.heap.size]?=_;simp
theorem Ji(w:World)(obj:Obj):(w.alloc obj).heap.size=w.heap.size+1:=by
 simp
theorem QiP{b:Nat}{x:TypeId×Nat}(h:w.shape? b=some x):b<w.heap.size:=by
 grind[World.shape?]
theorem Qm.alloc{fr ro:Nat->Prop}{w:World}(obj:Obj)(hro:∀b,ro b->b<w.heap.size)(hfr:∀b,fr b->b<w.heap.size):Qm fr ro w ro (w.alloc obj):=
 ⟨λ_ h=>h,λb h=>Yl w obj b (hro b h),λb h=>Yl w obj b (hfr b h),by simp,
  λb x h=>by grind[World.shape?,Yl],rfl,rfl,rfl,XQ _⟩
variable {rest:List Value}{α:Type}
section
variable {P:Program} {o:Oper} {env:Env} {H:Qc} {fr ro:Nat->Prop} {U:Sig} {w:World}
theorem Sim.alloc(s:Sim fr ro U H w){obj:Obj}{x:Blk}(G:BR ro (U++[some w.heap.size]) (w.alloc obj) x (some w.heap.size))
  (u:∀c,Hid (w.alloc obj) x w.heap.size c->False:=by exact λ_ h=>h.elim):
  Sim fr ro (U++[some w.heap.size]) (H++[x]) (w.alloc obj):=by
 have ev:Qm fr ro w ro (w.alloc obj):=Qm.alloc obj s.roLt s.frLt;have n:=s.len;have e:∀(i:Nat) (y:Option Nat),(U++[some w.heap.size])[i]?=some y->(i<U.length/\U[i]?=some y)\/(i=U.length/\y=some w.heap.size):=by
  grind
 have k:∀i:Nat,i<U.length->(H++[x])[i]?=H[i]? :=λi L=>XJ (by omega);have F:(H++[x])[U.length]?=some x:=by rw[n];simp
 refine⟨by simp[n],s.roOk.to (λ_ q=>q) ev.keepRo (λb h=>?_),λb h=>?_,s.roFr,?_,?_,?_,?_⟩
 .rw[Ji];have:=s.roLt b h;omega
 .rw[Ji];have:=s.frLt b h;omega
 .intro i b y f g m;rw[Ji];rcases e i _ f with⟨q,f⟩|⟨rfl,p⟩
  .rw[k i q]at g;obtain⟨a,b,c⟩:=s.own i b y f g m
   grind
  .cases p;exact⟨by omega,λq=>by have:=s.roLt _ q;omega,λq=>by have:=s.frLt _ q;omega⟩
 .intro i j b y z f g m t E B;rcases e i _ f with⟨q,f⟩|⟨rfl,p⟩<;>rcases e j _ g with⟨q',g⟩|⟨rfl,e2⟩
  .rw[k i q]at m;rw[k j q']at t;exact s.inj i j b y z f g m t E B
  .cases e2;rw[k i q]at m;have:=(s.own i _ y f m E).1;omega
  .cases p;rw[k j q']at t;have:=(s.own j _ z g t B).1;omega
  .rfl
 .intro i y z f g;rcases e i _ f with⟨q,f⟩|⟨rfl,p⟩
  .rw[k i q]at g;refine(s.blk i y z f g).keep (ev.ext U _) ?_ ?_
   .rintro b rfl n;exact Yl w obj b (s.own i b z f g n).1
   .rintro b c rfl n;exact Yl w obj c (s.hid i b z c f g n).lt
  grind
 .refine s.hidTo (· = ·) Q6 (by rw[Ji];omega) (λ_ _ _ _ _ _ _ q=>q) (λ_ _ _ _ _ _ _ q=>q) λj d y r l J=>?_;rcases e j _ r with⟨q,r⟩|⟨rfl,p⟩
  .rw[k j q]at l;exact .inl ⟨j,y,rfl,r,l,id,λc q=>s.hidKeep r l (λz=>Yl w obj d (s.own j d y r l z).1) ev.keepRo q⟩
  .rw[F]at l;cases l;cases p;exact .inr ⟨XQ _,u⟩
theorem Sim.allocCells(s:Sim fr ro U H w){t:Nat}{cs:List A}{l:List Value}(h:LR ro U w cs l)(hp:∀v∈l,Qy v):
  Sim fr ro (U++[some w.heap.size]) (H++[.cells t cs]) (w.alloc (.cells l.toArray t)):=
 s.alloc ⟨l,Yk _ _,h.mono ((Qm.alloc _ s.roLt s.frLt).ext U _),hp⟩
theorem Qkc{ro:Nat->Prop}{U:Sig}{w:World}:∀{az bs:List A} {l:List Value},LR ro U w (az++bs) l->∃l1 l2,l=l1++l2/\LR ro U w az l1/\LR ro U w bs l2
 |[],bs,l,h=>⟨[],l,rfl,rfl,h⟩
 |a::az,bs,l,⟨v,l',h1,h2,h3⟩=>by
  obtain⟨l1,l2,e,q1,q2⟩:=Qkc h3;subst h1 e;exact⟨v::l1,l2,rfl,⟨v,l1,rfl,h2,q1⟩,q2⟩
def allK(k:Nat):List (List A)->Prop
 |[]=>True
 |c::es=>c.length=k/\allK k es
theorem JI{k:Nat}:∀{es:List (List A)} {l rest:List Value},allK k es->LR ro U w es.flatten l->(∀v∈l,Qy v)->RL ro U w k es (l++rest)
 |[],_,_,_,_,_=>trivial
 |c::es,l,rest,⟨h1,h2⟩,h,hp=>by
  obtain⟨l1,l2,rfl,q1,q2⟩:=Qkc h;exact⟨l1,l2++rest,by simp,h1,(by grind),JI h2 q2 (by grind)⟩
theorem Sim.allocRow(s:Sim fr ro U H w){t:Nat}{l:List Value}(hk:allK k es)(h:LR ro [] w es.flatten l)(hp:∀v∈l,Qy v):
  Sim fr ro (U++[some w.heap.size]) (H++[.row t k es]) (w.alloc (.cells (l++rest).toArray t)):=
 s.alloc ⟨l++rest,Yk _ _,(JI hk h hp).mono ((Qm.alloc _ s.roLt s.frLt).ext0 [])⟩
theorem Sim.allocRowr(s:Sim fr ro U H w){t:Nat}{l:List Value}(hk:allK k es)(h:LR ro U w es.flatten l)(hp:∀v∈l,Qy v):
  Sim fr ro (U++[some w.heap.size]) (H++[.rowr t k es]) (w.alloc (.cells (l++rest).toArray t)):=
 s.alloc ⟨l++rest,Yk _ _,(JI hk h hp).mono ((Qm.alloc _ s.roLt s.frLt).ext U _)⟩
theorem OpH.box{t:Nat}{x:Operand}{v:A}{cs:List A}(p:o.op=.box t x)(j:opA env x=v)(i:Yj v=true)(d:Yr v=cs)(f:cs.all Yy=true):
  OpH P o env H (.ptr H.length 0) (H++[.cells t cs]):=by
 intro n k U N a w r;have g:=Qh r x;rw[j]at g;obtain⟨l,m,h⟩:=g.cells i;subst d;refine⟨.pointer (some ⟨w.heap.size,0,none⟩),w.alloc (.cells l.toArray t),k,[some w.heap.size],?_,⟨w.heap.size,?_,rfl⟩,r.sim.allocCells h (h.plain f),Qm.alloc _ r.sim.roLt r.sim.frLt⟩
 .generalize a.eval=ρ at*;have e:(newVar t (ρ x)).run P w=.ok ⟨w.heap.size,0,none⟩ (w.alloc (.cells l.toArray t)):=by
   unfold newVar;rw[m];rfl
  simp_all[execOp,Instr.box]
 .rw[<- r.sim.len];simp
theorem Sim.set(s:Sim fr ro U H w){i b:Nat}{x x':Blk}{obj:Obj}(hσ:U[i]?=some (some b))(hH:H[i]?=some x)(hl:x.live=true)
  (P:∀y,w.shape? b=some y->({w with heap:=w.heap.setIfInBounds b obj}:World).shape? b=some y)
  (F:Ext ro U w ro U {w with heap:=w.heap.setIfInBounds b obj}->({w with heap:=w.heap.setIfInBounds b obj}:World).heap[b]?=some obj->BR ro U {w with heap:=w.heap.setIfInBounds b obj} x' (some b))
  (Q:∀c,Hid {w with heap:=w.heap.setIfInBounds b obj} x' b c->Hid w x b c:=by exact λ_ h=>h.elim):
  Sim fr ro U (H.set i x') {w with heap:=w.heap.setIfInBounds b obj}/\Qm fr ro w ro {w with heap:=w.heap.setIfInBounds b obj}:=by
 obtain⟨W,N,L⟩:=s.own i b x hσ hH hl;have n:∀c,c≠b->({w with heap:=w.heap.setIfInBounds b obj}:World).heap[c]?=w.heap[c]? :=by
  grind
 have E:({w with heap:=w.heap.setIfInBounds b obj}:World).heap[b]?=some obj:=by
  grind
 have k:({w with heap:=w.heap.setIfInBounds b obj}:World).heap.size=w.heap.size:=by simp
 have ev:Qm fr ro w ro {w with heap:=w.heap.setIfInBounds b obj}:=
  ⟨λ_ h=>h,(by grind),(by grind),by omega,by
   grind[World.shape?],rfl,rfl,rfl,XQ _⟩
 have V:i<H.length:=(by grind);have R:(H.set i x')[i]?=some x':=(by grind);have a:∀j,j≠i->(H.set i x')[j]?=H[j]? :=(by grind);have G:=F (ev.ext0 U) E;refine⟨⟨by rw[XZ];exact s.len,s.roOk.to (λ_ q=>q) ev.keepRo (λc h=>by rw[k];exact s.roLt c h),λc h=>by rw[k];exact s.frLt c h,s.roFr,?_,?_,?_,?_⟩,ev⟩
 .intro j c y g f r;rw[k];by_cases q:j=i
  .grind
  .rw[a j q]at f;exact s.own j c y g f r
 .intro j m c y z g f r t J M;by_cases q:j=i
  .subst q;rw[hσ]at g;cases g;by_cases p:m=j
   .exact p.symm
   .rw[a m p]at t;exact s.inj j m _ x z hσ f hH t hl M
  .rw[a j q]at r;by_cases p:m=i
   .subst p;rw[hσ]at f;cases f;exact s.inj j m _ y x g hσ r hH J hl
   .rw[a m p]at t;exact s.inj j m c y z g f r t J M
 .intro j y z g f;by_cases q:j=i
  .grind
  .rw[a j q]at f;refine(s.blk j y z g f).keep (ev.ext0 U) ?_ ?_
   .rintro c rfl l;exact n c (λe=>q (s.inj j i b z x (e▸g) hσ f hH l hl))
   .rintro c d rfl O;exact n d ((s.hid j c z d g f O).ne i b x hσ hH hl)
 .refine s.hidTo (· = ·) Q6 (by omega) (λ_ _ _ _ _ _ _ q=>q) (λ_ _ _ _ _ _ _ q=>q) λj d y B u T=>.inl ?_;by_cases q:j=i
  .grind
  .rw[a j q]at u;exact⟨j,y,rfl,B,u,id,λc z=>s.hidKeep B u (λl=>n d (λe=>q (s.inj j i b y x (e▸B) hσ u hH l hl))) ev.keepRo z⟩
def splice(l:List α)(o:Nat)(vs:List α):List α:=l.take o++vs++l.drop (o+vs.length)
theorem YE{α:Type}{l:List α}{o:Nat}{vs:List α}(h:o+vs.length<=l.length):(splice l o vs).length=l.length:=by
 simp[splice];omega
theorem Qbe{h:Array Obj}{b:Nat}{f:Obj->Obj}{x:Obj}(a:h[b]?=some x):h.modify b f=h.setIfInBounds b (f x):=by
 grind
theorem Yp{b t:Nat}:∀{vs l:List Value} {w:World} (off i:Nat),w.heap[b]?=some (.cells l.toArray t (0,0))->off+i+vs.length<=l.length->(∀v∈vs,Qy v)->
  (storeCells ⟨b,off,none⟩ vs i).run P w=.ok () {w with heap:=w.heap.setIfInBounds b (.cells (splice l (off+i) vs).toArray t (0,0))}
 |[],l,w,off,i,hb,hl,hp=>by
  have e:w.heap.setIfInBounds b (.cells (splice l (off+i) []).toArray t (0,0))=w.heap:=by
   apply Array.ext_getElem?;intro j;rw[X8];by_cases q:b=j
   .subst q;obtain⟨a,h⟩:=X7.1 hb;simp[a,splice,h]
   grind
  rw[e];rfl
 |v::vs,l,w,off,i,hb,hl,hp=>by
  simp only[XW]at hl;have m:=hp v (by simp);have n:w.cell? ⟨b,off+i,none⟩=some l[off+i]:=by
   simp[World.cell?,hb]
  have f:w.frozen? ⟨b,off+i,none⟩=false:=by
   simp[World.frozen?,hb]
  have d:w.setCell ⟨b,off+i,none⟩ v={w with heap:=w.heap.setIfInBounds b (.cells (splice l (off+i) [v]).toArray t (0,0))}:=by
   unfold World.setCell;rw[Qbe hb];simp only[Option.isSome_none,Xj,if_false];congr 3;have:l.toArray.setIfInBounds (off+i) v=(l.set (off+i) v).toArray:=by simp
   rw[this];congr 1;rw[List.set_eq_take_append_cons_drop,Vm (by omega)];simp[splice]
  have a:b<w.heap.size:=by
   grind
  have k:=Yp (vs:=vs) (l:=splice l (off+i) [v]) (w:={w with heap:=w.heap.setIfInBounds b (.cells (splice l (off+i) [v]).toArray t (0,0))}) off (i+1)
   (by show(w.heap.setIfInBounds b _)[b]?=_;rw[X8,Vm rfl,Vm a])
   (by rw[YE (by simp;omega)];omega) (by grind)
  have y:splice (splice l (off+i) [v]) (off+(i+1)) vs=splice l (off+i) (v::vs):=by
   have g:(l.take (off+i)).length=off+i:=by simp;omega
   unfold splice;rw[Vc (l.take (off+i))];have x:off+(i+1)=(l.take (off+i)).length+1:=by omega
   have u:(l.take (off+i)++([v]++l.drop (off+i+[v].length))).take ((l.take (off+i)).length+1)=l.take (off+i)++[v]:=by
    grind
   have s:(l.take (off+i)++([v]++l.drop (off+i+[v].length))).drop ((l.take (off+i)).length+1+vs.length)=l.drop (off+i+(v::vs).length):=by
    rw[show(l.take (off+i)).length+1+vs.length=(l.take (off+i)).length+(1+vs.length)from by omega,X5];simp[Nat.add_comm 1];omega
   simp_all
  have p:(w.heap.setIfInBounds b (.cells (splice l (off+i) [v]).toArray t (0,0))).setIfInBounds b (.cells (splice (splice l (off+i) [v]) (off+(i+1)) vs).toArray t (0,0))=
    w.heap.setIfInBounds b (.cells (splice l (off+i) (v::vs)).toArray t (0,0)):=by
   grind
  rw[p]at k;have r:(Go.store ⟨b,off+i,none⟩ v).run P w=.ok () {w with heap:=w.heap.setIfInBounds b (.cells (splice l (off+i) [v]).toArray t (0,0))}:=by
   rw[<- d];cases v<;>first|exact m.elim|simp[Go.store,Sem.run,n,f,go_sem]
  simp_all[storeCells,JX]
theorem QaD{b t:Nat}{l l':List Value}(d:w.heap[b]?=some (.cells l.toArray t (0,0)))(hl:l'.length=l.length)(y:TypeId×Nat)(h:w.shape? b=some y):
  {w with heap:=w.heap.setIfInBounds b (.cells l'.toArray t (0,0))}.shape? b=some y:=by
 have a:b<w.heap.size:=by
  grind
 simp_all[World.shape?]
theorem LR.splice{ro:Nat->Prop}{U:Sig}{w:World}{az vs:List A}{l m:List Value}(off:Nat)(h:LR ro U w az l)(k:LR ro U w vs m):LR ro U w (Sw.splice az off vs) (Sw.splice l off m):=by
 unfold Sw.splice;rw[k.length];exact((h.take off).append k).append (h.drop _)
theorem Qfw{l m:List Value}(h:∀v∈l,Qy v)(k:∀v∈m,Qy v):∀v∈Sw.splice l off m,Qy v:=by
 grind[Sw.splice]
theorem OpU.store{t n i off T:Nat}{x y:Operand}{cs vs cs':List A}{v:A}(W:o.op=.store t x y)(J:opA env x=.ptr i off)(hH:H[i]?=some (.cells T cs))(X:∀w,(sizeOf t).run P w=.ok n w)
  (k:opA env y=v)(G:Yj v=true)(L:Yr v=vs)(O:vs.length=n)(B:vs.all Yy=true)(q:Nat.ble (off+n) cs.length=true)(p:splice cs off vs=cs'):
  OpU P o env H (H.set i (.cells T cs')):=by
 intro V M U N a w r;have g:=Qh r x;rw[J]at g;obtain⟨b,g,R⟩:=g;have z:=Qh r y;rw[k]at z;obtain⟨m,Y,d⟩:=z.cells G;rw[L]at d;obtain⟨l,E,h,Q⟩:=r.sim.blk i _ _ g hH;have j:off+n<=cs.length:=by simp_all
 have u:m.length=n:=by rw[d.length,O]
 have s:=Yp (P:=P) off 0 E (by rw[h.length,u];omega) (d.plain B);have f:=r.sim.set (x':=.cells T cs') g hH rfl
  (λy k=>QaD E (YE (by rw[h.length,u];omega)) y k)
  (λe F=>⟨_,F,p▸(h.splice off d).mono e,Qfw Q (d.plain B)⟩)
 refine⟨_,M,[],?_,by grind,f.2⟩
 simp_all[storeVar,execOp,Instr.storeAt,Instr.sureAddr]
theorem RL.splice{ro:Nat->Prop}{U:Sig}{w:World}{k:Nat}:∀{e:Nat} {es:List (List A)} {l m:List Value} {c a:List A} {f:Nat},RL ro U w k es l->es[e]?=some c->LR ro U w a m->(∀v∈m,Qy v)->f+a.length<=k->
  RL ro U w k (es.set e (Sw.splice c f a)) (Sw.splice l (e*k+f) m)
 |_,[],_,_,_,_,_,_,h,_,_,_=>by simp at h
 |0,c0::es,l,m,c,a,f,⟨l1,l2,h1,h2,h3,h4⟩,hc,hm,hp,hf=>by
  simp at hc;subst hc h1;have hl1:=h3.1.length;refine⟨Sw.splice l1 f m,l2,?_,?_,⟨h3.1.splice f hm,Qfw h3.2 hp⟩,h4⟩
  .unfold Sw.splice;simp[Nat.zero_mul,Xu,Vc];rw[X2 (by omega),X3 (by rw[hm.length];omega)]
  .rw[YE (by omega)];exact h2
 |e+1,c0::es,l,m,c,a,f,⟨l1,l2,h1,h2,h3,h4⟩,hc,hm,hp,hf=>by
  subst h1;have hl1:=h3.1.length;refine⟨l1,Sw.splice l2 (e*k+f) m,?_,h2,h3,RL.splice h4 (by grind) hm hp hf⟩;have e1:(e+1)*k+f=l1.length+(e*k+f):=by grind
  unfold Sw.splice;rw[e1,X6,show l1.length+(e*k+f)+m.length=l1.length+(e*k+f+m.length)from by omega,X5];simp
theorem RL.length{ro:Nat->Prop}{U:Sig}{w:World}{k:Nat}:∀{es:List (List A)} {l:List Value},RL ro U w k es l->es.length*k<=l.length
 |[],l,_=>by simp
 |c::es,l,⟨l1,l2,h1,h2,h3,h4⟩=>by
  have:=RL.length h4;have:=h3.1.length
  grind[Nat.succ_mul]
theorem Qix{t n i e f:Nat}{x y:Operand}{es':List (List A)}{c B:List A}{v:A}(ho:o.op=.store t x y)(Q:opA env x=.ptr i off)(hH:H[i]?=some (.row T k es))(hs:∀w,(sizeOf t).run P w=.ok n w)
  (d:off=e*k+f)(V:es[e]?=some c)(s:opA env y=v)(O:Yj v=true)(R:Yr v=vs)(X:vs.length=n)(J:vs.all Yy=true)(Y:Yq vs=true)(hf:Nat.ble (f+n) k=true)
  (u:splice c f vs=B)(p:es.set e B=es'):
  OpU P o env H (H.set i (.row T k es')):=by
 intro fr W U N a w r;have j:=Qh r x;rw[Q]at j;obtain⟨b,j,h2⟩:=j;have G:=Qh r y;rw[s]at G;obtain⟨m,h4,g⟩:=G.cells O;rw[R]at g;obtain⟨l,L,z⟩:=r.sim.blk i _ _ j hH;have aa:f+n<=k:=by simp_all
 have hm:m.length=n:=by rw[g.length,X]
 have M:e<es.length:=(by grind);have E:off+n<=l.length:=by
  have:=z.length;have h6:=XA k M
  grind
 have F:=Yp (P:=P) off 0 L (by omega) (g.plain J);have h:=r.sim.set (x':=.row T k es') (obj:=.cells (splice l off m).toArray T (0,0)) j hH rfl
  (λy s=>QaD L (YE (by omega)) y s)
  (λex q=>⟨_,q,by
   subst p u d;exact(z.splice V (g.data Y) (g.plain J) (by omega)).mono ex.nil⟩)
 refine⟨_,W,[],?_,by grind,h.2⟩
 simp_all[storeVar,execOp,Instr.storeAt,Instr.sureAddr]
end
variable {T' cap e':Nat}{ad ax:Option Addr}{fs:List (List A)}{new:List Value}{ya:A}
section
variable {P:Program} {o:Oper} {env:Env} {H:Qc} {fr ro:Nat->Prop} {U:Sig} {w:World}
theorem Ext.heap{w':World}(h:w'.heap=w.heap):Ext ro U w ro U w':=
 ⟨λ_ q=>q,λb _=>by rw[h],λb x q=>by unfold World.shape? at q⊢;grind,λ_ _ q=>q⟩
theorem Sim.heap{w':World}(s:Sim fr ro U H w)(h:w'.heap=w.heap):Sim fr ro U H w':=
 ⟨s.len,s.roOk.to (λ_ q=>q) (λb _=>by rw[h]) (λb q=>by rw[h];exact s.roLt b q),λb q=>by rw[h];exact s.frLt b q,s.roFr,λi b x q1 q2 q3=>by rw[h];exact s.own i b x q1 q2 q3,s.inj,
  λi y x q1 q2=>(s.blk i y x q1 q2).keep (Ext.heap h) (by grind) (by grind),
  s.hidTo (· = ·) Q6 (by grind) (by simp) (by simp) λj d y g1 g2 g3=>.inl ⟨j,y,rfl,g1,g2,id,λc q=>q.keep (by rw[h])⟩⟩
theorem Qm.heap{w':World}(h:w'.heap=w.heap)(ho:w'.os=w.os)(ht:w'.tape=w.tape)(hu:w'.output=w.output)(hd:w.drawn<=w'.drawn):Qm fr ro w ro w':=
 ⟨λ_ q=>q,λb _=>by rw[h],λb _=>by rw[h],by grind,λb x q=>by unfold World.shape? at q⊢;grind,ho,ht,hu,hd⟩
theorem Sim.moved(s:Sim fr ro U H w){i:Nat}{x:Blk}{y:Option Nat}(hH:H[i]?=some x)(hσ:U[i]?=some y):Sim fr ro (U++[y]) (H.set i .dead++[x]) w:=by
 have F:=s.len;have P:i<H.length:=(by grind);have a:∀(j:Nat) (z:Option Nat) (v:Blk),(U++[y])[j]?=some z->(H.set i .dead++[x])[j]?=some v->v≠ .dead->
   (j<U.length/\j≠i/\U[j]?=some z/\H[j]?=some v)\/(j=U.length/\z=y/\v=x):=by
  grind
 have hσ':∀(j:Nat) (b:Nat),U[j]?=some (some b)->(U++[y])[j]?=some (some b):=(by grind);have ext:Ext ro U w ro (U++[y]) w:=⟨λ_ q=>q,λ_ _=>rfl,λ_ _ q=>q,hσ'⟩;refine⟨by simp[F],s.roOk,s.frLt,s.roFr,?_,?_,?_,s.hidTo (λj u=>(j<U.length/\j≠i/\u=j)\/(j=U.length/\u=i)) (by omega) (XQ _) (by simp) (by simp) λj d y G O B=>.inl ?_⟩
 rotate_left 3
 .rcases a j _ y G O (Qe5 B)with⟨L,N,f,e⟩|⟨L,p,rfl⟩
  .grind
  grind
 .intro j b v g k h;rcases a j _ v g k (Qas h)with⟨_,_,f,e⟩|⟨_,p,rfl⟩
  .exact s.own j b v f e h
  .subst p;exact s.own i b v hσ hH h
 .intro j r b v n g k h J l m;rcases a j _ v g h (Qas l)with⟨_,M,f,e⟩|⟨Q,p,E⟩<;>rcases a r _ n k J (Qas m)with⟨_,n1',q1',q2'⟩|⟨r1',e1',r2'⟩
  .exact s.inj j r b v n f q1' e q2' l m
  .subst e1' r2';exact(M (s.inj j i b v n f hσ e hH l m)).elim
  .subst p E;exact(n1' (s.inj r i b n v q1' hσ q2' hH m l)).elim
  omega
 .intro j z v g k;by_cases t:v≠ .dead
  .rcases a j z v g k t with⟨_,_,f,e⟩|⟨_,rfl,rfl⟩
   .exact(s.blk j z v f e).keep ext (λ_ _ _=>rfl) (λ_ _ _ _=>rfl)
   .exact(s.blk i _ _ hσ hH).keep ext (λ_ _ _=>rfl) (λ_ _ _ _=>rfl)
  .obtain rfl:v=.dead:=Classical.not_not.1 t;trivial
def Src(P:Program)(H:Qc)(x:A)(k:Nat)(es:List (List A)):Prop:=
 ∀fr ro U w v,Sim fr ro U H w->VR ro U w x v->(∃a c,v=.slice a es.length c)/\allK k es/\
  ∃l,(∀w':World,w'.heap=w.heap->(Builtin.firstCells k es.length v).run P w'=.ok l.toArray w')/\LR ro [] w es.flatten l/\ ∀v∈l,Qy v
theorem RR.flat{b k:Nat}:∀{es:List (List A)} {off:Nat},RR ro U w b k es off->CR ro U w b es.flatten off/\allK k es/\es.flatten.length=es.length*k
 |[],off,_=>⟨trivial,trivial,by simp⟩
 |c::es,off,⟨h1,h2,h3⟩=>by
  obtain⟨q1,q2,q3⟩:=RR.flat h3;refine⟨?_,⟨h1,q2⟩,by grind⟩;have:∀(c:List A) (off:Nat) (d:List A),CR ro U w b c off->CR ro U w b d (off+c.length)->CR ro U w b (c++d) off:=by
   intro c
   induction c with
   |nil=>simp
   |cons x c a=>intro off d ⟨h1,h2⟩ h;exact⟨h1,a (off+1) d h2 (by grind)⟩
  grind
theorem Qcg{b n c:Nat}{cs:List A}(h:CR ro U w b cs off)(e:cs.length=n*k):
  ∃l,(∀w',w'.heap=w.heap->(Builtin.firstCells k n (.slice (some ⟨b,off,none⟩) n c)).run P w'=.ok l.toArray w')/\LR ro U w cs l/\ ∀v∈l,Qy v:=by
 obtain⟨l,f,d,a⟩:=Yt (P:=P) 0 (by simpa using h)
 grind[Builtin.firstCells,loadCells]
theorem Jf{c:Nat}{a:Option Addr}:(Builtin.firstCells k 0 (.slice a 0 c)).run P w=.ok #[] w:=by
 cases a<;>simp[go_sem]
theorem Src.rsl{k:Nat}{es:List (List A)}:Src P H (.rsl k es) k es:=by
 intro i l U w v s ⟨a,c,h1,h2,h3⟩;subst h1;refine⟨⟨a,c,rfl⟩,?_⟩;rcases h3 with rfl|⟨b,d,rfl,j,g⟩
 .exact⟨trivial,[],λ_ _=>Jf,rfl,by simp⟩
 .obtain⟨h,e,f⟩:=g.flat;exact⟨e,Qcg h f⟩
theorem Src.nils{k:Nat}:Src P H .nils k []:=by
 intro a d U w v s h;subst h;exact⟨⟨none,0,rfl⟩,trivial,[],λ_ _=>Jf,rfl,by simp⟩
theorem RR.drop{b k:Nat}:∀(n:Nat) {es:List (List A)} {off:Nat},RR ro U w b k es off->RR ro U w b k (es.drop n) (off+n*k)
 |0,_,_,h=>by simpa using h
 |n+1,[],_,_=>trivial
 |n+1,c::es,off,⟨h1,h2,h3⟩=>by
  have:=RR.drop n h3
  grind
theorem RR.take{b k:Nat}:∀(n:Nat) {es:List (List A)} {off:Nat},RR ro U w b k es off->RR ro U w b k (es.take n) off
 |0,_,_,h=>trivial
 |n+1,[],_,_=>trivial
 |n+1,c::es,off,⟨h1,h2,h3⟩=>⟨h1,h2,RR.take n h3⟩
theorem Src.osl{i s n k t:Nat}{es es':List (List A)}(hH:H[i]?=some (.row t k es))(he:(es.drop s).take n=es')(r:s+n<=es.length):Src P H (.osl i s n k) k es':=by
 intro y F U w v sm h;have j:es'.length=n:=by grind
 rcases h with⟨rfl,rfl⟩|⟨b,p,a,G,m,g,rfl,u,z,x,J⟩
 .have e:es'=[]:=(by grind);subst e;exact⟨⟨none,0,rfl⟩,trivial,[],λ_ _=>Jf,rfl,by simp⟩
 .rw[j];refine⟨⟨_,a,rfl⟩,?_⟩;obtain⟨l,f,d⟩:=sm.blk i _ _ g hH;have q:=((Y4 (pre:=[]) (by simpa using f) d).drop s).take n;by_cases E:0<a
  .obtain⟨f,d,B⟩:=q.flat
   simp_all[Qcg]
  .obtain rfl:n=0:=by omega
   have e:es'=[]:=(by grind);subst e;exact⟨trivial,[],λ_ _=>Jf,rfl,by simp⟩
def QB:Nat:=4294967296
theorem QeK(n c:Nat)(h:c<n):Builtin.nextslicecap n c<=4*n+1000:=by
 grind[Builtin.nextslicecap,Builtin.growBy]
structure Q0 (P:Program) (T e k:Nat):Prop where
 sl:∀w,(underlying T).run P w=.ok (.slice e) w
 size:∀w,(sizeOf e).run P w=.ok k w
 zero:∃z,(∀w,(zeroValue e).run P w=.ok z w)/\z.cells.size=k
 bytes:∃i,(∀w,(typeInfo e).run P w=.ok i w)/\i.bytes<=4096
theorem Qkb{l:List Value}(s:Sim fr ro U H w)(hk:allK k es)(h:LR ro [] w es.flatten l)(hp:∀v∈l,Qy v):
  Sim fr ro (U++[some w.heap.size]) (H++[.row T k es]) (w.alloc (.cells (l++rest).toArray T))/\Qm fr ro w ro (w.alloc (.cells (l++rest).toArray T)):=
 ⟨s.allocRow hk h hp,Qm.alloc _ s.roLt s.frLt⟩
theorem YR{k:Nat}:∀{es:List (List A)},allK k es->es.flatten.length=es.length*k
 |[],_=>by simp
 |c::es,⟨h1,h2⟩=>by simp[YR h2,h1,Xm,Nat.add_comm]
theorem QeA{k:Nat}:∀{es fs:List (List A)},allK k es->allK k fs->allK k (es++fs)
 |[],_,_,h=>h
 |c::es,_,⟨h1,h2⟩,h=>⟨h1,QeA h2 h⟩
theorem Qhq{k:Nat}:∀{es:List (List A)} (n:Nat),allK k es->allK k (es.take n)
 |_,0,_=>trivial
 |[],n+1,_=>trivial
 |c::es,n+1,⟨h1,h2⟩=>⟨h1,Qhq n h2⟩
theorem RL.allK{k:Nat}:∀{es:List (List A)} {l:List Value},RL ro U w k es l->allK k es
 |[],_,_=>trivial
 |c::es,l,⟨l1,l2,h1,h2,h3,h4⟩=>⟨h2,RL.allK h4⟩
theorem RL.app{k:Nat}:∀{n:Nat} {es fs:List (List A)} {l m:List Value},RL ro U w k es l->n<=es.length->Sw.allK k fs->LR ro U w fs.flatten m->(∀v∈m,Qy v)->
  RL ro U w k (es.take n++fs) (Sw.splice l (n*k) m)
 |0,es,fs,l,m,h,hn,hk,hm,hp=>by
  simp_all[Sw.splice,JI]
 |n+1,[],fs,l,m,h,hn,hk,hm,hp=>by simp at hn
 |n+1,c::es,fs,l,m,⟨l1,l2,h1,h2,h3,h4⟩,hn,hk,hm,hp=>by
  subst h1;have hl1:=h3.1.length;refine⟨l1,Sw.splice l2 (n*k) m,?_,h2,h3,RL.app h4 (by grind) hk hm hp⟩;have e1:(n+1)*k=l1.length+n*k:=by grind
  unfold Sw.splice;rw[e1,X6,show l1.length+n*k+m.length=l1.length+(n*k+m.length)from by omega,X5];simp
theorem QiT{e need:Nat}(E:Q0 P T e k)(M:∀w,(underlying T').run P w=.ok (.slice e') w){n c:Nat}
  (f:need=n+m)(h:cap<need)(a:need<=QB){old:List Value}
  (u:∀w':World,w'.heap=w.heap->(Builtin.firstCells k m (.slice ax m c)).run P w'=.ok new.toArray w')(s:∀w':World,w'.heap=w.heap->(Builtin.firstCells k n (.slice ad n cap)).run P w'=.ok old.toArray w'):
  ∃(rest:List Value) (d:Nat),(need<=d/\d<=9223372036854775807)/\rest.length=(d-need)*k/\(Builtin.append_ #[T,T'] t #[.slice ad n cap,.slice ax m c]).run P w=
   .ok (.slice (some ⟨w.heap.size,0,none⟩) need d) (({w with drawn:=w.drawn+1}:World).alloc (.cells ((old++new)++rest).toArray e)):=by
 obtain⟨z,O,p⟩:=E.zero;obtain⟨i,G,L⟩:=E.bytes
 let d:=need+w.tape w.drawn (.appendCap need cap e)%(2^63-need)
 refine⟨(Builtin.zeroCells z.cells (d-need)).toList,d,⟨Nat.le_add_right _ _,by
  have:=Nat.mod_lt (w.tape w.drawn (.appendCap need cap e)) (show 0<2^63-need by unfold QB at a;omega);show need+_%(2^63-need)<=_;omega⟩,by simp[Builtin.zeroCells,p],?_⟩
 have g:¬(need<=cap):=by omega
 have y:¬((need:Int)>IntKind.i64.max/\(False\/i.bytes=0)):=by
  rintro⟨q,_⟩;have:IntKind.i64.max=9223372036854775807:=by decide
  rw[this]at q;unfold QB at a;omega
 have Q:¬(Builtin.nextslicecap need cap*i.bytes>2^48):=by
  have:=QeK need cap h;have B:=Nat.mul_le_mul this L;unfold QB at a;omega
 generalize hF:Builtin.firstCells=F at u s;unfold Builtin.append_;rw[hF];have j:∀W:World,(choose (.appendCap need cap e)).run P W=.ok (need+W.tape W.drawn (.appendCap need cap e)%(2^63-need)) {W with drawn:=W.drawn+1}:=by
  intro W;simp[choose,Sem.run,Question.forced,Question.cut]
 have r:∀(x:Nat) (W:World),(askRoom x).run P W=.ok () W:=by
  intro x W;unfold askRoom;split<;>rfl
 have l:∀(c:Array Value) (W:World),(newRow e c).run P W=.ok ⟨W.heap.size,0,none⟩ (W.alloc (.cells c e)):=λc W=>rfl;subst f;simp only[not_and,false_or]at y;have B:¬(((n+m:Nat):Int)>IntKind.i64.max/\(False\/i.bytes=0)):=by simpa using y
 simp only[XE,XC,XD,Vg,E.sl,E.size,M,G,O,Result.andThen,Builtin.lenOf,Vh,Xj,if_false,Sem.run_ite,
  Xi,if_true,Vl g,Vl B,Vl Q,j,r]
 have N:=s {w with drawn:=w.drawn+1} rfl;have J:=u {w with drawn:=w.drawn+1} rfl;simp only[N,J,l];have H:old.toArray++new.toArray++Builtin.zeroCells z.cells (d-(n+m))=((old++new)++(Builtin.zeroCells z.cells (d-(n+m))).toList).toArray:=by
  apply Array.toList_inj.1;simp
 rw[<- H]
theorem Qc6{e:Nat}(E:Q0 P T e k)(g:∀w,(underlying T').run P w=.ok (.slice e') w){n c:Nat}
  (d:n+m<=cap)(f:(Builtin.firstCells k m (.slice ax m c)).run P w=.ok new.toArray w):
  (Builtin.append_ #[T,T'] t #[.slice ad n cap,.slice ax m c]).run P w=
   match ad with
   |some a=>(do storeCells (a.add (n*k)) new;pure (Value.slice ad (n+m) cap):Sem Value).run P w
   |none=>.ok (.slice ad (n+m) cap) w:=by
 generalize hF:Builtin.firstCells=F at f;unfold Builtin.append_;rw[hF];simp only[XE,XC,XD,Vg,E.sl,E.size,g,Result.andThen,Builtin.lenOf,Vh,Xj,if_false,Sem.run_ite,
  Xi,if_true,Vm d,f]
 cases ad with
 |none=>rfl
 |some a=>simp only[Vg,Result.andThen,Vh]
theorem Sim.weaken(s:Sim fr ro U H w){i:Nat}{x x':Blk}(hH:H[i]?=some x)(hl:x.live=true)(m:∀y,BR ro U w x y->BR ro U w x' y)
  (G:∀b c,Hid w x' b c->Hid w x b c:=by exact λ_ _ h=>h.elim):Sim fr ro U (H.set i x') w:=by
 have a:∀(j:Nat) (v:Blk),(H.set i x')[j]?=some v->(j=i/\v=x')\/(j≠i/\H[j]?=some v):=by
  grind
 have l:∀(j:Nat) (v:Blk),(H.set i x')[j]?=some v->v.live=true->∃e,H[j]?=some e/\e.live=true:=by
  grind
 refine⟨by rw[XZ];exact s.len,s.roOk,s.frLt,s.roFr,?_,?_,?_,s.hidTo (· = ·) Q6 (XQ _) (by simp) (by simp) λj d y L M J=>.inl ?_⟩
 rotate_left 3
 .grind
 .intro j b v f g n;obtain⟨e,r,k⟩:=l j v g n;exact s.own j b e f r k
 .intro j t b v e f g n F E z;obtain⟨u,r,k⟩:=l j v n E;obtain⟨B,p,q⟩:=l t e F z;exact s.inj j t b u B f g r p k q
 .intro j y v f g;rcases a j v g with⟨rfl,rfl⟩|⟨_,h⟩
  .exact m y (s.blk j y x f hH)
  .exact s.blk j y v f h
theorem RL.take{k:Nat}:∀(n:Nat) {es:List (List A)} {l:List Value},RL ro U w k es l->RL ro U w k (es.take n) l
 |0,_,_,_=>trivial
 |n+1,[],_,_=>trivial
 |n+1,c::es,l,⟨l1,l2,h1,h2,h3,h4⟩=>⟨l1,l2,h1,h2,h3,RL.take n h4⟩
theorem Jh{c:Call}{T T':TypeId}{x y:Operand}(a:o.op=.call c)(d:c={callee:=.builtin .append,args:= #[x,y],argTypes:= #[T,T']})(ρ:Operand->Value){v:Value}
  (h:(Builtin.append_ #[T,T'] o.type #[ρ x,ρ y]).run P w=.ok v w'):(execOp ρ o).run P w=.ok (.value v) w':=by
 simp_all[execOp,resolve,invoke,Go.builtin]
theorem Sim.phantom(s:Sim fr ro U H w)(t k:Nat):Sim fr ro (U++[none]) (H++[.row t k []]) w:=by
 have g:=s.len;have f:∀(i b:Nat),(U++[none])[i]?=some (some b)->i<U.length:=by
  grind
 refine⟨by simp[g],s.roOk,s.frLt,s.roFr,?_,?_,?_,s.hidTo (· = ·) Q6 (XQ _) (by simp) (by simp) λj d y a e h=>.inl ?_⟩
 rotate_left 3
 .grind
 .intro i b z a e h;have q:=f i b a;rw[XJ q]at a;rw[XJ (by omega)]at e;exact s.own i b z a e h
 .intro i j b z n a e h l m p;have x:=f i b a;have r:=f j b e;rw[XJ x]at a;rw[XJ r]at e;rw[XJ (by omega)]at h l;exact s.inj i j b z n a e h l m p
 .intro i y z a e;have ext:Ext ro U w ro (U++[none]) w:=⟨λ_ q=>q,λ_ _=>rfl,λ_ _ q=>q,(by grind)⟩;rcases Nat.lt_trichotomy i U.length with q|q|q
  .rw[XJ q]at a;rw[XJ (by omega)]at e;exact(s.blk i y z a e).keep ext (λ_ _ _=>rfl) (λ_ _ _ _=>rfl)
  .subst q;have u:(U++[none])[U.length]?=some none:=by simp
   have B:(H++[Blk.row t k []])[U.length]?=some (.row t k []):=by grind
   rw[u]at a;rw[B]at e;cases a;cases e;rfl
  grind
theorem Sim.kill(s:Sim fr ro U H w)(i:Nat):Sim fr ro U (H.set i .dead) w:=by
 have a:∀(j:Nat) (v:Blk),(H.set i .dead)[j]?=some v->v≠ .dead->H[j]?=some v:=by
  grind
 refine⟨by rw[XZ];exact s.len,s.roOk,s.frLt,s.roFr,?_,?_,?_,s.hidTo (· = ·) Q6 (XQ _) (by simp) (by simp) λj d y u p t=>.inl ⟨j,y,rfl,u,a j y p (Qe5 t),id,λ_ q=>q⟩⟩
 .intro j b v e f g;exact s.own j b v e (a j v f (Qas g)) g
 .intro j k b v l e f g r n h;exact s.inj j k b v l e f (a j v g (Qas n)) (a k l r (Qas h)) n h
 .intro j y v e f;by_cases m:v≠ .dead
  .exact s.blk j y v e (a j v f m)
  .obtain rfl:v=.dead:=Classical.not_not.1 m;trivial
theorem grown{c:Call}{e n cx:Nat}{x y:Operand}{a:Act}{old:List Value}(E:Q0 P T e k)(X:∀w,(underlying T').run P w=.ok (.slice e') w)(O:o.op=.call c)
  (V:c={callee:=.builtin .append,args:= #[x,y],argTypes:= #[T,T']})(Y:a.eval x=.slice ad n cap)(L:a.eval y=.slice ax m cx)(s:Sim fr ro U H w)(p:cap<n+m)(i:n+m<=QB)
  (l:∀w',w'.heap=w.heap->(Builtin.firstCells k n (.slice ad n cap)).run P w'=.ok old.toArray w')(q:∀w',w'.heap=w.heap->(Builtin.firstCells k m (.slice ax m cx)).run P w'=.ok new.toArray w')
  (f:LR ro [] w es.flatten old)(J:∀v∈old,Qy v)(j:allK k es)(r:LR ro [] w fs.flatten new)(N:∀v∈new,Qy v)(g:allK k fs)(R:es.length=n)(u:fs.length=m):
  ∃v w' ro' τ,(execOp a.eval o).run P w=.ok (.value v) w'/\VR ro' (U++τ) w' (.osl H.length 0 (n+m) k) v/\Sim fr ro' (U++τ) (H++[.row e k (es++fs)]) w'/\Qm fr ro w ro' w':=by
 obtain⟨d,Q,t,z,h⟩:=QiT E X rfl p i q l
 let w0:={w with drawn:=w.drawn+1}
 have M:Sim fr ro U H w0:=s.heap rfl;have e0:Qm fr ro w ro w0:=Qm.heap rfl rfl rfl rfl (Nat.le_succ _);have B:LR ro [] w0 (es++fs).flatten (old++new):=by
  rw[List.flatten_append];exact(f.append r).mono (Ext.heap (w:=w) rfl)
 obtain⟨W,e1⟩:=Qkb M (QeA j g) B (λv hv=>by grind);have hexec:=Jh O V a.eval (by rw[Y,L];exact h);refine⟨_,_,ro,[some w.heap.size],hexec,.inr ⟨w.heap.size,0,Q,e,(old++new++d).length,?_,rfl,λ_=>by simp,t,?_,?_⟩,W,e0.trans e1⟩
 .rw[<- s.len];simp
 .have:=Yk w0 (.cells ((old++new)++d).toArray e);unfold World.shape?
  grind
 .have G:=f.length;have F:=r.length;rw[YR j]at G;rw[YR g]at F;simp[XY,z,G,F,u];rw[<- Xy, <- Xy]
  grind
theorem QgK{c:Call}{e:Nat}{x y:Operand}(E:Q0 P T e k)(p:∀w,(underlying T').run P w=.ok (.slice e') w)(i:o.op=.call c)
  (j:c={callee:=.builtin .append,args:= #[x,y],argTypes:= #[T,T']})(B:opA env x=.nils)(J:opA env y=ya)(F:Src P H ya k fs)(n:fs.length<=QB):
  OpH P o env H (.osl H.length 0 fs.length k) (H++[.row e k fs]):=by
 intro u m U N a w r;have f:=Qh r x;rw[B]at f;have q:=Qh r y;rw[J]at q;obtain⟨⟨O,L,h⟩,s,l,g,z,G⟩:=F u m U w _ r.sim q;rw[h]at g;by_cases M:fs.length=0
 .have d:fs=[]:=(by grind);subst d;refine⟨.slice none 0 0,w,m,[none],(Jh i j _ ?_),.inl ⟨rfl,rfl⟩,r.sim.phantom e k,Qm.refl _ _ _⟩;rw[f,h];have:=Qc6 (t:=o.type) E p (ad:=none) (XQ 0) (g w rfl);omega
 .have:=grown (es:=[]) E p i j f h r.sim (by omega) (by omega) (λ_ _=>Jf) g rfl (by simp) trivial z G s rfl rfl
  grind
theorem QeE{c:Call}{e i n:Nat}{x y:Operand}{gs:List (List A)}(E:Q0 P T e k)(hd:∀w,(underlying T').run P w=.ok (.slice e') w)(Q:o.op=.call c)
  (F:c={callee:=.builtin .append,args:= #[x,y],argTypes:= #[T,T']})(hx:opA env x=.osl i 0 n k)(hH:H[i]?=some (.row e k es))(hn:n<=es.length)(z:opA env y=ya)(hs:Src P H ya k fs)(g:n+fs.length<=QB)
  (hg:es.take n++fs=gs):OpH P o env H (.osl H.length 0 (n+fs.length) k) (H.set i .dead++[.row e k gs]):=by
 intro fr u U N a w r;subst hg;have q:=Qh r x;rw[hx]at q;have h2:=Qh r y;rw[z]at h2;obtain⟨⟨ay,cy,e1⟩,V,l,L,W,X⟩:=hs fr u U w _ r.sim h2;rw[e1]at L;have h:i<H.length:=(by grind);have ag:(H.set i .dead).length=H.length:=XZ;obtain⟨s,hσ⟩:∃s,U[i]?=some s:=⟨_,XH (by rw[r.sim.len];exact h)⟩;rcases q with⟨rfl,q⟩|⟨b,p,cap,t',mm,J,q,Y,h5,O,h7⟩
 ·
  by_cases hm:fs.length=0
  .have j:fs=[]:=(by grind);subst j;refine⟨.slice none 0 0,w,u,[none],?_,.inl ⟨rfl,rfl⟩,(r.sim.kill i).phantom e k,Qm.refl _ _ _⟩;refine Jh Q F _ ?_;rw[q,e1];have:=Qc6 (t:=o.type) E hd (ad:=none) (n:=0) (m:=0) (cap:=0) (c:=cy) (ax:=ay) (XQ 0) (L w rfl);omega
  .have:=grown (es:=[]) (old:=[]) E hd Q F q e1 (r.sim.kill i) (by omega) g (λ_ _=>Jf) L rfl (by simp) trivial W X V rfl rfl
   grind
 .have B:=r.sim.blk i _ _ J hH;obtain⟨R,G,g2⟩:=B;have ac:(es.take n).length=n:=by simp;omega
  obtain⟨old,o1,o2,o3⟩:∃old:List Value,(∀w':World,w'.heap=w.heap->(Builtin.firstCells k n (.slice (some ⟨b,p,none⟩) n cap)).run P w'=.ok old.toArray w')/\LR u [] w (es.take n).flatten old/\ ∀v∈old,Qy v:=by
   have M:Src P H (.osl i 0 n k) k (es.take n):=Src.osl hH (by simp) (by omega);obtain⟨_,_,l',z1,z2,z3⟩:=M fr u U w (.slice (some ⟨b,p,none⟩) n cap) r.sim (.inr ⟨b,p,cap,t',mm,J,rfl,Y,h5,O,h7⟩)
   grind
  by_cases d:n+fs.length<=cap
  .have ae:=Qc6 (t:=o.type) E hd (ad:=some ⟨b,p,none⟩) (n:=n) (m:=fs.length) (cap:=cap) (c:=cy) (ax:=ay) d (L w rfl);have af:l.length=fs.length*k:=by rw[W.length,YR V]
   by_cases hm:fs.length=0
   .have j:fs=[]:=(by grind);subst j;have el:l=[]:=(by simp_all);subst el;have sw:=(r.sim.weaken (x':=.row e k (es.take n)) hH rfl (by
     intro y z;cases y with
     |none=>simp only[BR]at z⊢;grind
     |some y=>obtain⟨R,G,g2⟩:=z;exact⟨R,G,g2.take n⟩))
    have sm:=sw.moved (i:=i) (Xa h) J;rw[List.set_set]at sm;refine⟨.slice (some ⟨b,p,none⟩) n cap,w,u,[some b],?_,.inr ⟨b,p,cap,t',mm,?_,by simp,Y,by omega,O,h7⟩,by grind,Qm.refl _ _ _⟩
    .refine Jh Q F _ ?_
     simp_all[storeCells]
    .rw[<- r.sim.len];simp
   .obtain rfl:p=0*k:=Y (by omega);have aa:(n+fs.length)*k<=R.length:=by
     have:w.shape? b=some (e,R.length):=by unfold World.shape?;rw[G];simp
     rw[this]at O;cases O;exact XS (XA k d) (by grind)
    rw[Xy]at aa;have ah:=Yp (P:=P) (vs:=l) (n*k) 0 G (by omega) X;have f:=r.sim.set (x':=.row e k (es.take n++fs)) (obj:=.cells (splice R (n*k) l).toArray e (0,0)) J hH rfl
     (λy z=>QaD G (YE (by omega)) y z)
     (λex ab=>⟨_,ab,(g2.app hn V W X).mono ex.nil⟩)
    have sm:=f.1.moved (i:=i) (Xa h) J;rw[List.set_set]at sm;refine⟨.slice (some ⟨b,0*k,none⟩) (n+fs.length) cap,_,u,[some b],?_,.inr ⟨b,0*k,cap,t',mm,?_,rfl,Y,⟨d,h5.2⟩,?_,h7⟩,sm,f.2⟩
    .refine Jh Q F _ ?_
     simp_all[JX]
    .rw[<- r.sim.len];simp
    .exact f.2.shape _ _ O
  .have:=grown (es:=es.take n) (old:=old) (fs:=fs) E hd Q F q e1 (r.sim.kill i) (by omega) g o1 L o2 o3 (Qhq n g2.allK) W X V ac rfl
   grind
end
variable {xs:List Operand}
section
variable {P:Program} {o:Oper} {env:Env} {H:Qc}
theorem OpC.fn{c:Call}{h:Array TypeId}(d:∀(a:Array Value) (w:World),(callFunc f a).run P w=.ok (.enter f a) w)(i:o.op=.call c)
  (j:c={callee:=.value (.func f),args:=xs.toArray,argTypes:=h})(g:xs.map (opA env)=args):OpC P o env H f args:=by
 intro k l U N a w r;refine⟨xs.map a.eval,?_,g▸Qbm r xs⟩;have e:a.eval (.func f)=.func (.func f) #[] #[]:=rfl
 grind[execOp,resolve,Deferred.ofValue,invoke]
theorem Qa2{c:Call}{x:Operand}{m:Array TypeId}{h g:List A}(e:∀(a:Array Value) (w:World),(callFunc f a).run P w=.ok (.enter f a) w)(s:o.op=.call c)
  (t:c={callee:=.value x,args:=xs.toArray,argTypes:=m})(n:opA env x=.fn (.func f) h g)(k:h++(xs.map (opA env)++g)=args):OpC P o env H f args:=by
 intro q u U N a w r;have d:=Qh r x;rw[n]at d;obtain⟨l,i,d,p,j⟩:=d;refine⟨l++(xs.map a.eval++i),?_,k▸p.append ((Qbm r xs).append j)⟩
 grind[execOp,resolve,Deferred.ofValue,invoke]
def QbM(ρ:Nat->Nat)(env:Env):Env->Prop
 |[]=>True
 |(s,a)::r=>lk env s=Y7 ρ a/\QbM ρ env r
theorem QbM.ok{ro:Nat->Prop}{U σ':Sig}{w:World}{ρ:Nat->Nat}(h:∀i,U[ρ i]?=σ'[i]?){t:Array Value}(r:∀s,VR ro U w (lk env s) (t.getD s undef)):
  ∀{env':Env},QbM ρ env env'->∀s,VR ro σ' w (lk env' s) (t.getD s undef)
 |[],_,s=>trivial
 |(d,a)::e,⟨h1,h2⟩,s=>by
  simp only[lk];by_cases q:s=d
  .grind[Nat.beq_refl,Qd1]
  .have:Nat.beq s d=false:=by
    simp_all[VG]
   rw[this];exact QbM.ok h r h2 s
theorem Sim.sub(s:Sim fr ro U H w)(hH:π.map (λp=>H[p]?)=(H'.map (Q5 (rho π H.length))).map some)(hπ:π.Nodup):
  Sim fr ro (YA U π) H' w/\ ∀j:Nat,U[rho π H.length j]?=(YA U π)[j]? :=by
 have M:∀p∈π,p<H.length:=λp q=>Jz hH q;have hσl:=s.len;have L:∀(j p:Nat),π[j]?=some p->H[p]?=(H'[j]?).map (Q5 (rho π H.length)):=by
  intro j p e;have:=congrArg (λl=>l[j]?) hH
  grind
 have m:π.length=H'.length:=by simpa using congrArg List.length hH
 have hσc:∀j:Nat,U[rho π H.length j]?=(YA U π)[j]? :=by
  intro j;have:=QeQ (τ:=[]) hσl M j
  grind
 have hπj:∀(j b:Nat),(YA U π)[j]?=some (some b)->∃p,π[j]?=some p/\U[p]?=some (some b):=by
  intro j b e;simp only[YA,Xo]at e
  grind
 have hπi:∀(i j p:Nat),π[i]?=some p->π[j]?=some p->i=j:=by
  intro i j p g a;have t:i<π.length:=(by grind);have e:j<π.length:=(XI.1 a).1;rw[XH t]at g;rw[XH e]at a;have h:=(XV g).trans (XV a).symm;rcases Nat.lt_trichotomy i j with q|q|q
  .exact(Vy.1 hπ i j t e q h).elim
  .exact q
  .exact(Vy.1 hπ j i e t q h.symm).elim
 refine⟨⟨by simp[YA,m],s.roOk,s.frLt,s.roFr,?_,?_,?_,s.hidTo (λj p=>π[j]?=some p) hπi (XQ _) (λ_ _ _ _ _ _ _ q=>q) (λ_ _ _ _ _ _ _ q=>q) λj d y G P N=>.inl ?_⟩,hσc⟩
 rotate_left 3
 .obtain⟨p,g,f⟩:=hπj j d G;exact⟨p,Q5 (rho π H.length) y,g,f,by grind,by rw[QO];exact id,λc q=>(Qaj _ _ _ _ _).2 q⟩
 .intro j b x n r E;obtain⟨p,g,f⟩:=hπj j b n;have k:H[p]?=some (Q5 (rho π H.length) x):=by grind
  exact s.own p b _ f k (by rw[QO];exact E)
 .intro i j b x y n r E O J F;obtain⟨p,g,f⟩:=hπj i b n;obtain⟨B,a,z⟩:=hπj j b r;have k:H[p]?=some (Q5 (rho π H.length) x):=by grind
  have u:H[B]?=some (Q5 (rho π H.length) y):=by grind
  have:=s.inj p B b _ _ f z k u (by rw[QO];exact J) (by rw[QO];exact F)
  grind
 .intro j y x n r;have e:j<π.length:=by
   grind
  have g:π[j]?=some π[j]:=XH e;have k:H[π[j]]?=some (Q5 (rho π H.length) x):=by grind
  have f:U[π[j]]?=some y:=by
   grind[rho]
  exact(QiH hσc).1 (s.blk _ y _ f k)
theorem Qpd{env':Env}(π:List Nat)(d:π.take h0=List.range h0)(hH:π.map (λp=>H[p]?)=(H'.map (Q5 (rho π H.length))).map some)(hπ:π.Nodup)
  (hE:QbM (rho π H.length) env env'):Le h0 env H env' H':=by
 intro g f U N a w r;obtain⟨e,hσ⟩:=r.sim.sub hH hπ;refine⟨f,YA U π,⟨e,QbM.ok hσ r.env hE,r.size,r.defers⟩,λ_ q=>q,?_⟩;have i:=r.sim.len;have h:∀p∈π,p<H.length:=λp q=>Jz hH q;unfold YA;rw[<- List.map_take,d];apply List.ext_getElem?
 grind
theorem Le.phantom{h0 s k t:Nat}(g:h0<=H.length)(f:lk env s=.nils):Le h0 env H (up env s (.osl H.length 0 0 k)) (H++[.row t k []]):=by
 intro h e U N a w r;refine⟨e,U++[none],⟨r.sim.phantom t k,?_,r.size,r.defers⟩,λ_ q=>q,QF (by rw[r.sim.len];exact g)⟩;have ext:Ext e U w e (U++[none]) w:=⟨λ_ q=>q,λ_ _=>rfl,λ_ _ q=>q,(by grind)⟩;intro d;simp only[lk];by_cases q:d=s
 .subst q;rw[Vz];have:=r.env d;rw[f]at this;exact .inl ⟨rfl,this⟩
 .have:Nat.beq d s=false:=by
   simp_all[VG]
  rw[this];exact(r.env d).mono ext
theorem Qp5{s:Nat}(e:lk env s=.nils):Le h0 env H (up env s (.rsl k [])) H:=by
 intro g f U N a w r;refine⟨f,U,⟨r.sim,?_,r.size,r.defers⟩,λ_ q=>q,rfl⟩;intro d;simp only[lk];by_cases q:d=s
 .subst q;rw[Vz];have:=r.env d;rw[e]at this;exact⟨none,0,this,XQ _,.inl rfl⟩
 .have:Nat.beq d s=false:=by
   simp_all[VG]
  rw[this];exact r.env d
mutual
def Ys:A->Bool
 |.bool _=>true
 |.int _ _=>true
 |.str _=>true
 |.tup vs=>QeR vs
 |_=>false
def QeR:List A->Bool
 |[]=>true
 |a::r=>Ys a&&QeR r
end
mutual
theorem VR.scalar{ro ro':Nat->Prop}{U σ':Sig}{w w':World}:∀{a:A} {v:Value},Ys a=true->VR ro U w a v->VR ro' σ' w' a v
 |.bool _,_,_,h=>h
 |.int _ _,_,_,h=>h
 |.str _,_,_,h=>h
 |.tup vs,v,hs,h=>by
  simp only[VR,Ys]at h hs⊢;obtain⟨l,h1,h2⟩:=h;exact⟨l,h1,LR.scalar hs h2⟩
 |.any,_,hs,_=>by simp[Ys]at hs
 |.nilp,_,hs,_=>by simp[Ys]at hs
 |.ptr _ _,_,hs,_=>by simp[Ys]at hs
 |.rp _,_,hs,_=>by simp[Ys]at hs
 |.nils,_,hs,_=>by simp[Ys]at hs
 |.rsl _ _,_,hs,_=>by simp[Ys]at hs
 |.osl _ _ _ _,_,hs,_=>by simp[Ys]at hs
 |.agg _,_,hs,_=>by simp[Ys]at hs
 |.fn _ _ _,_,hs,_=>by simp[Ys]at hs
 |.nilf,_,hs,_=>by simp[Ys]at hs
 |.iface _ _,_,hs,_=>by simp[Ys]at hs
 |.nilif,_,hs,_=>by simp[Ys]at hs
 |.map _,_,hs,_=>by simp[Ys]at hs
 |.nilm,_,hs,_=>by simp[Ys]at hs
theorem LR.scalar{ro ro':Nat->Prop}{U σ':Sig}{w w':World}:∀{az:List A} {l:List Value},QeR az=true->LR ro U w az l->LR ro' σ' w' az l
 |[],_,_,h=>h
 |a::r,l,hs,h=>by
  simp only[LR,QeR,XT]at h hs⊢;obtain⟨v,l',h1,h2,h3⟩:=h;exact⟨v,l',h1,VR.scalar hs.1 h2,LR.scalar hs.2 h3⟩
end
def Look(H:Qc):A->A->Prop:=λa a'=>(a'=a/\YJ a=true)\/ ∃i n k t es,a=.osl i 0 n k/\H[i]?=some (.row t k es)/\es.length=n/\a'=.rsl k es
def Qbp(H:Qc):List A->List A->Prop
 |[],[]=>True
 |a::az,b::bs=>Look H a b/\Qbp H az bs
 |_,_=>False
theorem Qgh{Q:QR}{l:List Oper}{d:Nat}{B:List A}(ab:OpC P o env H f args)(hv:Qbp H args B)(hC:C P f B [] Qr)
  (aa:∀r H1,Qr r H1->Ys r=true)(k:∀r H1,Qr r H1->WO P h0 N all l (up env d r) H Q)(hg:Qw all o env true:=by exact rfl)(hd:o.dst=some d:=by exact rfl)(hN:Nat.blt d N=true:=by exact rfl):WO P h0 N all (o::l) env H Q:=by
 intro rd fr ro U a w r hrd;obtain⟨R,h1,h2⟩:=ab fr ro U N a w r;refine QdI (YP hg r) h1 ?_
 let roc:Nat->Prop:=λb=>ro b\/ ∃(i:Nat) (x:Blk),U[i]?=some (some b)/\H[i]?=some x/\x.live=true
 let frc:Nat->Prop:=λb=>fr b\/ ∃(i:Nat) (x:Blk) (d:Nat),U[i]?=some (some d)/\H[i]?=some x/\Hid w x d b
 have V:Sim frc roc [] [] w:=by
  refine⟨rfl,r.sim.roOk.to (λ_ q=>.inl q) (λ_ _=>rfl) ?_,?_,?_,by simp,by simp,by simp,by simp⟩
  .rintro b (q|⟨i,x,z,u,E⟩)
   .exact r.sim.roLt b q
   .exact(r.sim.own i b x z u E).1
  .rintro b (q|⟨i,x,d,z,u,E⟩)
   .exact r.sim.frLt b q
   .exact(r.sim.hid i d x b z u E).lt
  .rintro b (q|⟨i,x,z,u,E⟩) (q'|⟨i',x',d',W,X,O⟩)
   .exact r.sim.roFr b q q'
   .exact(r.sim.hid i' d' x' b W X O).ro q
   .exact(r.sim.own i b x z u E).2.2 q'
   .exact(r.sim.hid i' d' x' b W X O).ne i b x z u E rfl
 have J:∀(az F:List A) (l:List Value),Qbp H az F->LR ro U w az l->LR roc [] w F l:=by
  intro az
  induction az with
  |nil=>
   intro F l G h;cases F with
   |nil=>exact h
   |cons b F=>exact G.elim
  |cons x az ih=>
   intro F l G h;cases F with
   |nil=>exact G.elim
   |cons y F=>
    obtain⟨hx,G⟩:=G;obtain⟨v,l',rfl,hv,h⟩:=h;refine⟨v,l',rfl,?_,ih F l' G h⟩;rcases hx with⟨rfl,hx⟩|⟨i,n,k,t,es,rfl,hH,hn,rfl⟩
    .exact(hv.data (σ':=[]) hx).mono ⟨λ_ q=>.inl q,λ_ _=>rfl,λ_ _ q=>q,λ_ _ q=>q⟩
    .subst hn;rcases hv with⟨h0,h⟩|⟨b,p,M,t',m,h1,h,h2,⟨h3,ag⟩,h4,h5⟩
     .have:es=[]:=(by grind);subst this;exact⟨none,0,h,XQ _,.inl rfl⟩
     .refine⟨_,M,h,h3,?_⟩;by_cases he:es=[]
      .exact .inl he
      .right;have hc:0<M:=X9 (by grind) h3;obtain rfl:=h2 hc;obtain⟨l,z,u⟩:=r.sim.blk i _ _ h1 hH;refine⟨b,0,by simp,.inr ⟨i,_,h1,hH,rfl⟩,?_⟩;have:=Y4 (pre:=[]) (by simpa using z) u;exact this.keep ⟨λ_ q=>.inl q,λ_ _=>rfl,λ_ _ q=>q,λ_ _ q=>q⟩ rfl
 refine Calls.mono (hC frc roc [] R w V (J _ _ _ hv h2)) ?_;rintro e L ⟨v,rr,H1,af,τ,rfl,hq,sc,ae,ev⟩;have T:∀(i b:Nat) (x:Blk),U[i]?=some (some b)->H[i]?=some x->x.live=true->L.heap[b]?=w.heap[b]? :=λi b x z u E=>ev.keepRo b (by grind);have g:Qm fr ro w ro L:=⟨λ_ q=>q,λb q=>ev.keepRo b (.inl q),λb q=>ev.keepFr b (.inl q),ev.size,ev.shape,ev.os,ev.tape,ev.output,ev.drawn⟩;have Y:Sim fr ro U H L:=by
  refine⟨r.sim.len,r.sim.roOk.to (λ_ q=>q) g.keepRo (λb q=>X9 (r.sim.roLt b q) ev.size),λb q=>X9 (r.sim.frLt b q) ev.size,r.sim.roFr,?_,r.sim.inj,?_,r.sim.hidTo (· = ·) Q6 ev.size (by simp) (by simp) λj d y g1 g2 g3=>.inl ⟨j,y,rfl,g1,g2,id,λc q=>r.sim.hidKeep g1 g2 (T j d y g1 g2) g.keepRo q⟩⟩
  .intro i b x z u E;obtain⟨p1,p2,p3⟩:=r.sim.own i b x z u E
   grind
  .intro i y x z u;refine(r.sim.blk i y x z u).keep (g.ext0 U) ?_ ?_
   .grind
   .rintro b c rfl G;exact ev.keepFr c (by grind)
 have hk:=k rr H1 hq;have ac:d<N:=by simp_all
 simp only[hd,Act.put];have r':Rel fr ro U H (up env d rr) N {a with tmps:=a.tmps.setIfInBounds d v} L:=
  ⟨Y,VR.up (fr:=fr) (λs=>(r.env s).mono (g.ext0 U)) (by rw[r.size];exact ac) (ae.scalar (aa _ _ hq)),by simpa using r.size,r.defers.keep g⟩
 exact⟨_,rfl,Yn (λe a w q=>q.step g rfl) _ _ _ (hk rd fr ro U _ L r' (hrd.to g λ_ q=>q))⟩
end
variable {h:Nat}{hi lo:Option Operand}
section
variable {P:Program} {o:Oper} {env:Env} {H:Qc}
theorem Qg6{α:Type}:∀(vs:List α) (off i:Nat) (l:List α),off+i+vs.length<=l.length->
  (vs.zipIdx i).foldl (λcs x=>cs.setIfInBounds (off+x.2) x.1) l.toArray=(splice l (off+i) vs).toArray
 |[],off,i,l,h=>by simp[splice]
 |v::vs,off,i,l,h=>by
  simp[XW]at h;rw[List.zipIdx_cons,XB];have e1:l.toArray.setIfInBounds (off+i) v=(splice l (off+i) [v]).toArray:=by
   have:l.toArray.setIfInBounds (off+i) v=(l.set (off+i) v).toArray:=by simp
   rw[this];rw[List.set_eq_take_append_cons_drop,Vm (by omega)];simp[splice]
  rw[e1,Qg6 vs off (i+1) _ (by grind)];have a:(l.take (off+i)).length=off+i:=by simp;omega
  unfold splice;have f:off+(i+1)=(l.take (off+i)).length+1:=by omega
  have e:(l.take (off+i)++([v]++l.drop (off+i+[v].length))).take ((l.take (off+i)).length+1)=l.take (off+i)++[v]:=by
   grind
  have d:(l.take (off+i)++([v]++l.drop (off+i+[v].length))).drop ((l.take (off+i)).length+1+vs.length)=l.drop (off+i+(v::vs).length):=by
   rw[show(l.take (off+i)).length+1+vs.length=(l.take (off+i)).length+(1+vs.length)from by omega,X5];simp[Nat.add_comm 1];omega
  simp_all
theorem Qg9{a:Nat->Option (Nat×Nat)}{l:List Value}{i size:Nat}{v:Value}{m:List Value}{rest:List (Nat×Value)}(d:a i=some (off,size))(e:v.cells=m.toArray)(f:m.length=size)
  (hl:off+size<=l.length):Instr.fill a l.toArray ((i,v)::rest)=Instr.fill a (splice l off m).toArray rest:=by
 rw[Instr.fill];simp[d];rw[Vl (by grind),e]
 simp_all[Qg6]
def Qaz:Nat->List Operand->List (Nat×Operand)
 |_,[]=>[]
 |i,x::xs=>(i,x)::Qaz (i+1) xs
def Yi(env:Env)(xs:List Operand):List (List A):=xs.map λx=>Yr (opA env x)
theorem QfQ{fr ro:Nat->Prop}{U:Sig}{N:Nat}{a:Act}{w:World}(r:Rel fr ro U H env N a w){k:Nat}:∀(xs:List Operand) (j:Nat) (pre rest:List Value),pre.length=j*k->rest.length=xs.length*k->
  (xs.all λx=>Yj (opA env x))=true->allK k (Yi env xs)->
  ∃l,Instr.fill (λi=>some (i*k,k)) (pre++rest).toArray ((Qaz j xs).map λp=>(p.1,a.eval p.2))=some (pre++l).toArray/\LR ro U w (Yi env xs).flatten l
 |[],j,pre,rest,h1,h2,_,_=>by
  have:rest=[]:=(by simp_all);subst this;exact⟨[],rfl,rfl⟩
 |x::xs,j,pre,rest,h1,h2,h3,h4=>by
  simp only[List.all_cons,XT]at h3;obtain⟨hk1,hk2⟩:=h4;obtain⟨m,q1,q2⟩:=(Qh r x).cells h3.1;have hm:m.length=k:=by rw[q2.length];exact hk1
  simp[XW,Xm]at h2;simp[Qaz,Vd];rw[Qg9 rfl q1 hm (by simp;omega)];have e:splice (pre++rest) (j*k) m=(pre++m)++rest.drop k:=by
   unfold splice
   grind[List.drop_length_add_append]
  rw[e];obtain⟨l,d,f⟩:=QfQ r xs (j+1) (pre++m) (rest.drop k) (by grind) (by simp;omega) h3.2 hk2;refine⟨m++l,?_,?_⟩
  .rw[d];simp
  .exact q2.append f
theorem QaK{a:Act}(r:Rel fr ro U H env N a w){e n:Nat}(E:Q0 P T e k)(s:xs.length=n)(t:Nat.ble (n*k) 16777216=true)
  (h:(xs.all λx=>Yj (opA env x))=true)(g:allK k (Yi env xs)):
  ∃l,(Instr.buildSlice T n (((Qaz 0 xs).map λp=>(p.1,a.eval p.2)).toArray)).run P w=.ok (.slice (some ⟨w.heap.size,0,none⟩) n n) (w.alloc (.cells l.toArray e))/\LR ro U w (Yi env xs).flatten l:=by
 obtain⟨z,y,u⟩:=E.zero;have j:n*k<=16777216:=by simp_all
 have q:∀(c:Array Value) (W:World),(newRow e c).run P W=.ok ⟨W.heap.size,0,none⟩ (W.alloc (.cells c e)):=λc W=>rfl;unfold Instr.buildSlice;by_cases m:n*k=0
 .obtain⟨l,f,d⟩:=QfQ r (k:=k) xs 0 [] [] (by simp) (by grind) h g;refine⟨l,?_,d⟩;simp only[Vg,E.sl,Result.andThen,E.size,m]
  simp_all[Array.range]
 .obtain⟨l,f,d⟩:=QfQ r (k:=k) xs 0 [] ((Array.range (n*k)).map (λi=>z.cells[i%z.cells.size]!)).toList (by simp) (by rw[s];simp) h g;refine⟨l,?_,d⟩;simp only[Vg,E.sl,Result.andThen,E.size,Vl m,Sem.run_ite,y];simp only[Vb]at f;rw[Array.toArray_toList]at f
  simp_all
theorem Qaq{n:Nat}(a:o.op=.buildSlice T n (Qaz 0 xs).toArray)(ρ:Operand->Value){v:Value}
  (h:(Instr.buildSlice T n (((Qaz 0 xs).map λp=>(p.1,ρ p.2)).toArray)).run P w=.ok v w'):(execOp ρ o).run P w=.ok (.value v) w':=by
 grind[execOp,Sem.run_bind,Result.andThen,Sem.run_pure]
theorem OpH.lit{e n:Nat}(E:Q0 P T e k)(t:o.op=.buildSlice T n (Qaz 0 xs).toArray)(m:xs.length=n)(f:Nat.ble (n*(k+1)) 16777216=true)
  (z:(xs.all λx=>Yj (opA env x))=true)(h:Yi env xs=es)(g:allK k es)(B:es.flatten.all Yy=true)(u:Yq es.flatten=true):
  OpH P o env H (.osl H.length 0 n k) (H++[.row e k es]):=by
 intro F s U N a w r;subst h;have d:=XO f;rw[Nat.mul_add]at d;obtain⟨l,y,j⟩:=QaK r E m (XP (by omega)) z g;have i:LR s [] w (Yi env xs).flatten l:=j.data u;obtain⟨q,p⟩:=Qkb r.sim g i (j.plain B);rw[Va]at q p;have G:l.length=n*k:=by rw[j.length,YR g];simp[Yi,m]
 refine⟨_,_,s,[some w.heap.size],Qaq t a.eval y,.inr ⟨w.heap.size,0,n,e,l.length,?_,rfl,λ_=>by simp,(by omega),?_,by grind⟩,q,p⟩
 .rw[<- r.sim.len];simp
 .unfold World.shape?;rw[Yk];simp
theorem Y0{e n:Nat}(E:Q0 P T e k)(p:o.op=.buildSlice T n (Qaz 0 xs).toArray)(j:xs.length=n)(f:Nat.ble (n*(k+1)) 16777216=true)
  (s:(xs.all λx=>Yj (opA env x))=true)(h:Yi env xs=es)(g:allK k es)(u:es.flatten.all Yy=true):
  OpH P o env H (.osl H.length 0 n k) (H++[.rowr e k es]):=by
 intro z y U N a w r;subst h;have d:=XO f;rw[Nat.mul_add]at d;obtain⟨l,q,i⟩:=QaK r E j (XP (by omega)) s g;have m:=r.sim.allocRowr (t:=e) (rest:=[]) g i (i.plain u);rw[Va]at m;have B:l.length=n*k:=by rw[i.length,YR g];simp[Yi,j]
 refine⟨_,_,y,[some w.heap.size],Qaq p a.eval q,.inr ⟨w.heap.size,0,n,e,l.length,?_,rfl,λ_=>by simp,(by omega),?_,by grind⟩,m,Qm.alloc _ r.sim.roLt r.sim.frLt⟩
 .rw[<- r.sim.len];simp
 .unfold World.shape?;rw[Yk];simp
theorem YY{n:Int}{y:Nat}{c:BoundsCode}(h0:0<=n)(a:n<=y):(Instr.sliceBound (.int .i64 n) y c).run P w=.ok n.toNat w:=by
 simp_all[Instr.sliceBound,asIntOf]
theorem QhJ{e:Nat}(E1:∀w,(underlying T).run P w=.ok (.slice e) w)(E2:∀w,(sizeOf e).run P w=.ok k w){n:Nat}{lo hi:Option Value}{l:Nat}(f:n<=cap)
  (d:lo=none/\l=0\/ ∃z:Int,lo=some (.int .i64 z)/\0<=z/\z.toNat=l)(a:hi=none/\h=n\/ ∃z:Int,hi=some (.int .i64 z)/\0<=z/\z.toNat=h)(i:l<=h)(j:h<=n):
  (Instr.sliceAt T (.slice ad n cap) lo hi none).run P w=.ok (.slice (if cap=l then ad else ad.map (·.add (l*k))) (h-l) (cap-l)) w:=by
 have m:(Instr.sliceBounds true n cap lo hi none).run P w=.ok (l,h,cap) w:=by
  rcases d with⟨rfl,rfl⟩|⟨z,rfl,g,rfl⟩<;>rcases a with⟨rfl,rfl⟩|⟨y,rfl,y0,rfl⟩
  .rfl
  .grind[Instr.sliceBounds,Sem.run_bind,Sem.run_pure,Result.andThen,YY]
  .grind[Instr.sliceBounds,Sem.run_bind,Sem.run_pure,Result.andThen,YY]
  .simp[Instr.sliceBounds,Vg,Vh,Result.andThen,YY y0 (show y<=cap by omega),YY g (show z<=y.toNat by omega)]
 simp_all[Instr.sliceAt,Instr.slice]
theorem Qbb{a:Act}(r:Rel fr ro U H env N a w){x:Option Operand}{l d:Nat}(h:x=none/\l=d\/ ∃y,∃z:Int,x=some y/\opA env y=.int .i64 z/\0<=z/\z.toNat=l):
  x.map a.eval=none/\l=d\/ ∃z:Int,x.map a.eval=some (.int .i64 z)/\0<=z/\z.toNat=l:=by
 rcases h with⟨rfl,rfl⟩|⟨y,z,rfl,f,e,g⟩
 .simp
 grind[QK]
theorem Qo8{e:Nat}{x:Operand}{es':List (List A)}{l:Nat}(E1:∀w,(underlying T).run P w=.ok (.slice e) w)(E2:∀w,(sizeOf e).run P w=.ok k w)(s:o.op=.slice T x lo hi none)
  (t:opA env x=.rsl k es)(j:lo=none/\l=0\/ ∃y,∃z:Int,lo=some y/\opA env y=.int .i64 z/\0<=z/\z.toNat=l)
  (q:hi=none/\h=es.length\/ ∃y,∃z:Int,hi=some y/\opA env y=.int .i64 z/\0<=z/\z.toNat=h)(m:l<=h)(G:h<=es.length)(n:(es.take h).drop l=es'):OpV P o env H (.rsl k es'):=by
 intro L M U N a w r;subst n;have i:=Qh r x;rw[t]at i;obtain⟨ad,g,i,J,F⟩:=i;have f:=QhJ (w:=w) E1 E2 (ad:=ad) J (Qbb r j) (Qbb r q) m G;have d:((es.take h).drop l).length=h-l:=by simp;omega
 refine⟨_,by simp[execOp,s,i,Vg,f,Xl];rfl,(⟨_,g-l,by rw[d],by omega,?_⟩)⟩;rcases F with rfl|⟨b,p,rfl,E,B⟩
 .simp
 .by_cases u:g=l
  .grind
  .right;exact⟨b,p+l*k,by rw[Vl u];simp[JX],E,((B.take h).drop l)⟩
theorem Qgs{e i s n:Nat}{x:Operand}{l:Nat}(E1:∀w,(underlying T).run P w=.ok (.slice e) w)(E2:∀w,(sizeOf e).run P w=.ok k w)(B:o.op=.slice T x lo hi none)
  (J:opA env x=.osl i s n k)(g:lo=none/\l=0\/ ∃y,∃z:Int,lo=some y/\opA env y=.int .i64 z/\0<=z/\z.toNat=l)
  (t:hi=none/\h=n\/ ∃y,∃z:Int,hi=some y/\opA env y=.int .i64 z/\0<=z/\z.toNat=h)(j:l<=h)(G:h<=n):OpV P o env H (.osl i (s+l) (h-l) k):=by
 intro R W U N a w r;have f:=Qh r x;rw[J]at f;rcases f with⟨rfl,f⟩|⟨b,p,u,E,m,f,Q,X,⟨O,M⟩,F,V⟩
 .have d:=QhJ (P:=P) (w:=w) E1 E2 (ad:=none) (XQ 0) (Qbb r g) (Qbb r t) j G;refine⟨_,by simp only[execOp,B,f,Vg,d,Xl];rfl,?_⟩;left
  grind
 .have d:=QhJ (w:=w) E1 E2 (ad:=some ⟨b,p,none⟩) O (Qbb r g) (Qbb r t) j G;refine⟨_,by simp only[execOp,B,Q,Vg,d,Xl];rfl,?_⟩;right;by_cases L:u=l
  .refine⟨b,p,0,E,m,f,by grind,λq=>by omega,by omega,F,?_⟩
   grind
  .refine⟨b,p+l*k,u-l,E,m,f,by rw[Vl L];simp[JX],λq=>by grind,by omega,F,?_⟩
   grind
theorem OpV.max{c:Call}{x y:Operand}{k:IntKind}{m n:Int}(g:o.op=.call c)(f:c={callee:=.builtin .max,args:= #[x,y],argTypes:=c.argTypes})(i:opA env x=.int k m)(j:opA env y=.int k n):
  OpV P o env H (.int k (if m<n then n else m)):=by
 intro p q U N a w r;have h:=QK r i;have l:=QK r j;refine⟨_,?_,rfl⟩;generalize a.eval=ρ at*;have d:c.callee=.builtin .max:=by rw[f]
 have e:c.args= #[x,y]:=by rw[f]
 simp only[execOp,g,resolve,d,e,invoke,Vg,Result.andThen];simp[Builtin.max_,Builtin.max2,h,l,go_sem]
theorem OpV.min{c:Call}{x y:Operand}{k:IntKind}{m n:Int}(g:o.op=.call c)(f:c={callee:=.builtin .min,args:= #[x,y],argTypes:=c.argTypes})(i:opA env x=.int k m)(j:opA env y=.int k n):
  OpV P o env H (.int k (if n<m then n else m)):=by
 intro p q U N a w r;have h:=QK r i;have l:=QK r j;refine⟨_,?_,rfl⟩;generalize a.eval=ρ at*;have d:c.callee=.builtin .min:=by rw[f]
 have e:c.args= #[x,y]:=by rw[f]
 simp only[execOp,g,resolve,d,e,invoke,Result.andThen];simp[Builtin.min_,Builtin.min2,h,l,go_sem]
end
variable {id:Nat}
section
variable {P:Program} {h0 N:Nat} {env:Env} {H:Qc} {Q:QR} {c c':Code}
def CutP(h0:Nat)(Eb:Env)(Hb:Qc)(Q:QR):QR
 |.normal,env,H=>Le h0 env H Eb Hb
 |.exit id,env,H=>Q (.exit id) env H
 |.ret,env,H=>Q .ret env H
theorem TC.cut(Eb:Env)(Hb:Qc)(h:TC P h0 N c env H (CutP h0 Eb Hb Q))(k:∀env H,Le h0 env H Eb Hb->Q .normal env H):TC P h0 N c env H Q:=
 h.mono λx env' H' q=>by
  cases x with
  |normal=>exact k _ _ q
  |exit id=>exact q
  |ret=>exact q
theorem seqN(h:TC P h0 N c env H Q):Seq P h0 N c Q .normal env H:=h
theorem seqX(h:Q (.exit id) env H):Seq P h0 N c Q (.exit id) env H:=h
theorem seqR(h:Q .ret env H):Seq P h0 N c Q .ret env H:=h
theorem bloN(h:Q .normal env H):Blo id Q .normal env H:=h
theorem bloE(h:Q .normal env H):Blo id Q (.exit id) env H:=by simp_all[Blo]
theorem bloX{a:Nat}(e:Nat.beq a id=false)(h:Q (.exit a) env H):Blo id Q (.exit a) env H:=by simp[Blo,e];exact h
theorem bloR(h:Q .ret env H):Blo id Q .ret env H:=h
def QdF(h0:Nat)(b:Ctl S B)(Eb:S->Env)(Hb:S->Qc)(Q:QR):QR
 |.normal,env,H=>∃s,b=.cont s/\Le h0 env H (Eb s) (Hb s)
 |.exit id,env,H=>Q (.exit id) env H
 |.ret,env,H=>Q .ret env H
theorem Qmg{B:Type}{b:Ctl S B}(Eb:S->Env)(Hb:S->Qc)(h:TC P h0 N c env H (QdF h0 b Eb Hb Q))(k:∀s env H,b=.cont s->Le h0 env H (Eb s) (Hb s)->Q .normal env H):TC P h0 N c env H Q:=
 h.mono λx env' H' q=>by
  cases x with
  |normal=>obtain⟨s,e,q⟩:=q;grind
  |exit id=>exact q
  |ret=>exact q
section
variable {S B:Type} {b:Ctl S B} {Eb:S->Env} {Hb:S->Qc}
theorem Yv{s:S}(e:b=.cont s)(h:Le h0 env H (Eb s) (Hb s)):QdF h0 b Eb Hb Q .normal env H:=⟨s,e,h⟩
theorem Qqi(h:Q (.exit id) env H):QdF h0 b Eb Hb Q (.exit id) env H:=h
theorem Qt(h:Q .ret env H):QdF h0 b Eb Hb Q .ret env H:=h
end
theorem Qj0{x:Operand}{t:Bool}(hx:opA env x=.bool t)(h:t=true)(ht:TC P h0 N c env H Q):TC P h0 N (.cond x c c') env H Q:=TC.cond hx (λ_=>ht) (λq=>by grind)
theorem Qgj{x:Operand}{t:Bool}(hx:opA env x=.bool t)(h:t=false)(hf:TC P h0 N c' env H Q):TC P h0 N (.cond x c c') env H Q:=TC.cond hx (λq=>by grind) (λ_=>hf)
section
variable {S B:Type} {I:S->Env->Qc->Prop}
theorem Qj{s:S}{d:Ctl S B}(e:some (Ctl.cont s)=some d)(h:I s env H):Qbo I d Q .normal env H:=⟨s,(by grind),h⟩
theorem Ql{b:B}{d:Ctl S B}(e:some (Ctl.done b)=some d)(h:Q (.exit id) env H):Qbo I d Q (.exit id) env H:=⟨(by grind),h⟩
theorem Qx{b:B}{d:Ctl S B}(e:some (Ctl.done b)=some d)(h:Q .ret env H):Qbo I d Q .ret env H:=⟨(by grind),h⟩
end
end
theorem YM{α β:Type}{x:Option α}{f:α->Option β}{r:β}(h:x.bind f=some r):∃a,x=some a/\f a=some r:=Option.bind_eq_some_iff.1 h
def idx(l:List α)(i:Int):Option α:=bif decide (0<=i)then l[i.toNat]? else none
theorem Qad{α:Type}{l:List α}{i:Int}{x:α}(h:idx l i=some x):0<=i/\l[i.toNat]?=some x:=by
 grind[idx]
def app(l m:List α):Option (List α):=bif Nat.ble (l.length+m.length) QB then some (l++m)else none
variable {r:List α}
theorem Qiq{l m:List α}(h:app l m=some r):l.length+m.length<=QB/\l++m=r:=by
 unfold app at h;cases q:Nat.ble (l.length+m.length) QB with
 |true=>simp_all
 |false=>grind
def slc(l:List α)(lo hi:Int):Option (List α):=bif decide (0<=lo)&&decide (lo<=hi)&&decide (hi<=(l.length:Int))then some ((l.take hi.toNat).drop lo.toNat)else none
theorem Qfc{l:List α}{lo hi:Int}(h:slc l lo hi=some r):0<=lo/\lo<=hi/\hi<=l.length/\(l.take hi.toNat).drop lo.toNat=r:=by
 grind[slc]
def QcM(l:List α)(i:Int)(x:α):Option (List α):=bif decide (0<=i)&&decide (i<(l.length:Int))then some (l.set i.toNat x)else none
theorem QeU{α:Type}{e:α->List A}{l:List α}{i:Nat}{x:α}(h:l[i]?=some x):(l.map e)[i]?=some (e x):=by simp[h]
section
variable {P:Program} {h0 N:Nat} {env:Env} {H H':Qc} {Q:QR} {all:Array Oper} {o:Oper} {l:List Oper} {d:Nat} {x:A}
theorem vV(a:OpV P o env H x)(k:WO P h0 N all l (up env d x) H Q)(hg:Qw all o env true:=by exact rfl)(hd:o.dst=some d:=by exact rfl)(hN:Nat.blt d N=true:=by exact rfl):WO P h0 N all (o::l) env H Q:=
 QM hg hd hN a k
theorem vH(a:OpH P o env H x H')(k:WO P h0 N all l (up env d x) H' Q)(hg:Qw all o env true:=by exact rfl)(hd:o.dst=some d:=by exact rfl)(hN:Nat.blt d N=true:=by exact rfl)(hh:Nat.ble h0 H.length=true:=by exact rfl):WO P h0 N all (o::l) env H Q:=
 Jj (by simp_all) hg hd hN a k
theorem vN(a:OpH P o env H x H')(k:WO P h0 N all l env H' Q)(hg:Qw all o env true:=by exact rfl)(hd:o.dst=none:=by exact rfl)(hh:Nat.ble h0 H.length=true:=by exact rfl):WO P h0 N all (o::l) env H Q:=
 Qq5 (by simp_all) hg hd a k
theorem vU(a:OpU P o env H H')(k:WO P h0 N all l env H' Q)(hg:Qw all o env true:=by exact rfl)(hd:o.dst=none:=by exact rfl)(hh:Nat.ble h0 H.length=true:=by exact rfl):WO P h0 N all (o::l) env H Q:=
 Qbz (by simp_all) hg hd a k
theorem gT{j s:Nat}{c x:Bool}(a:x=c)(hg:o.guard=some (j,c):=by exact rfl)(hs:(all[j]?).bind (·.dst)=some s:=by exact rfl)(hl:lk env s=.bool x:=by exact rfl):Qw all o env true:=by
 simp_all[Qw]
theorem gF{j s:Nat}{c x:Bool}(a:x= !c)(hg:o.guard=some (j,c):=by exact rfl)(hs:(all[j]?).bind (·.dst)=some s:=by exact rfl)(hl:lk env s=.bool x:=by exact rfl):Qw all o env false:=by
 simp_all[Qw]
theorem Qq6{x x':A}(a:x'=x)(hH:H'=H)(k:WO P h0 N all l (up env d x) H Q):WO P h0 N all l (up env d x') H' Q:=by grind
theorem QoY(hH:H'=H)(k:WO P h0 N all l env H Q):WO P h0 N all l env H' Q:=by grind
theorem QD{a:List A}{Hc:Qc}(π:List Nat)(e:OpC P o env H f args)(g:C P f a Hc Qr)
  (k:∀r H1,Qr r H1->WO P h0 N all l (up env d (Y7 (rho π H.length) r)) (Yx H π (H1.map (Q5 (rho π H.length)))) Q)
  (hargs:args=Qai (rho π H.length) a:=by exact rfl)(hH:π.map (λp=>H[p]?)=(Hc.map (Q5 (rho π H.length))).map some:=by exact rfl)(hπ:π.Nodup:=by decide)
  (hg:Qw all o env true:=by exact rfl)(hd:o.dst=some d:=by exact rfl)(hN:Nat.blt d N=true:=by exact rfl)(hh:Nat.ble h0 H.length=true:=by exact rfl):WO P h0 N all (o::l) env H Q:=
 WO.call π (by simp_all) hg hd (λx h=>by simp_all) e hargs hH hπ g k
end
variable {et:Nat}
section
variable {P:Program} {o:Oper} {env:Env} {H:Qc} {α:Type} {e:α->List A}
theorem Qo7{c:Call}{t d:Nat}{x:Operand}{l:List α}(f:∀w,(underlying t).run P w=.ok (.slice d) w)(a:o.op=.call c:=by exact rfl)(hc:c={callee:=.builtin .len,args:= #[x],argTypes:= #[t]}:=by exact rfl)
  (hx:opA env x=.rsl k (l.map e):=by exact rfl):OpV P o env H (.int .i64 l.length):=by
 have:=Qo6 (H:=H) a hc f hx
 grind
theorem Qcs{t a:Nat}{x y:Operand}{l:List α}{g:IntKind}{i:Int}{v:α}(h:idx l i=some v)(d:∀w,(underlying t).run P w=.ok (.slice a) w)(f:∀w,(sizeOf a).run P w=.ok k w)
  (j:o.op=.indexAddr t x y:=by exact rfl)(hx:opA env x=.rsl k (l.map e):=by exact rfl)(hy:opA env y=.int g i:=by exact rfl):OpV P o env H (.rp (e v)):=
 Qp3 j d f hx hy (Qad h).1 (QeU (Qad h).2)
theorem Qv{t a b n:Nat}{x y:Operand}{l:List α}{d:IntKind}{i:Int}{v:α}(h:idx l i=some v)(m:l.length=n)(f:∀w,(underlying t).run P w=.ok (.slice a) w)(g:∀w,(sizeOf a).run P w=.ok k w)
  (e:o.op=.indexAddr t x y:=by exact rfl)(hx:opA env x=.osl b 0 n k:=by exact rfl)(hy:opA env y=.int d i:=by exact rfl):OpV P o env H (.ptr b (i.toNat*k)):=by
 have:=Qad h;have j:i.toNat<l.length:=(by grind);have p:=Qiw (H:=H) e f g hx hy this.1 (by omega)
 grind
theorem Qd5{b t f:Nat}{l:List α}{i:Int}{v:α}(h:idx l i=some v)(hH:H[b]?=some (.row t k (l.map e)):=by exact rfl)(hcs:(e v).drop f=cs':=by exact rfl):Pts H (.ptr b (i.toNat*k+f)) cs':=
 Pts.row hH rfl (QeU (Qad h).2) hcs
theorem Qi{b t:Nat}{l:List α}{i:Int}{v:α}(h:idx l i=some v)(hH:H[b]?=some (.row t k (l.map e)):=by exact rfl)(hcs:e v=cs':=by exact rfl):Pts H (.ptr b (i.toNat*k)) cs':=
 Pts.row (f:=0) hH rfl (QeU (Qad h).2) hcs
theorem Qj8{c:Call}{et':Nat}{x y:Operand}{m r:List α}(h:app [] m=some r)(E:Q0 P T et k)(f:∀w,(underlying T').run P w=.ok (.slice et') w)(a:Src P H ya k (m.map e))
  (d:o.op=.call c:=by exact rfl)(hc:c={callee:=.builtin .append,args:= #[x,y],argTypes:= #[T,T']}:=by exact rfl)(hx:opA env x=.nils:=by exact rfl)(hy:opA env y=ya:=by exact rfl):
  OpH P o env H (.osl H.length 0 r.length k) (H++[.row et k (r.map e)]):=by
 obtain⟨g,rfl⟩:=Qiq h;have:=QgK E f d hc hx hy a (by grind)
 grind
theorem Qk{c:Call}{et' i n:Nat}{x y:Operand}{l m r:List α}(h:app l m=some r)(E:Q0 P T et k)(f:∀w,(underlying T').run P w=.ok (.slice et') w)(a:Src P H ya k (m.map e))
  (d:l.length=n:=by exact rfl)(ho:o.op=.call c:=by exact rfl)(hc:c={callee:=.builtin .append,args:= #[x,y],argTypes:= #[T,T']}:=by exact rfl)(hx:opA env x=.osl i 0 n k:=by exact rfl)
  (hH:H[i]?=some (.row et k (l.map e)):=by exact rfl)(hy:opA env y=ya:=by exact rfl):
  OpH P o env H (.osl H.length 0 r.length k) (H.set i .dead++[.row et k (r.map e)]):=by
 obtain⟨g,rfl⟩:=Qiq h;subst d;have:=QeE E f ho hc hx hH (by simp) hy a (by grind) (gs:=(l++m).map e) (by rw[VC (by simp)];simp)
 grind
theorem JY{l:List α}:Src P H (.rsl k (l.map e)) k (l.map e):=Src.rsl
theorem QH{i n t:Nat}{l:List α}(hH:H[i]?=some (.row t k (l.map e)):=by exact rfl)(hn:l.length=n:=by exact rfl):Src P H (.osl i 0 n k) k (l.map e):=
 Src.osl hH (by grind[List.take_of_length_le]) (by simp[hn])
theorem J0{t n b f:Nat}{x y:Operand}{l l':List α}{i:Int}{v j:α}{a:A}(h:idx l i=some v)(hl:QcM l i j=some l')(m:∀w,(sizeOf t).run P w=.ok n w)(d:off=i.toNat*k+f)(g:splice (e v) f vs=e j)
  (p:o.op=.store t x y:=by exact rfl)(hx:opA env x=.ptr b off:=by exact rfl)(hH:H[b]?=some (.row T k (l.map e)):=by exact rfl)
  (hy:opA env y=a:=by exact rfl)(hk:Yj a=true:=by exact rfl)(hv:Yr a=vs:=by exact rfl)(hn:vs.length=n:=by exact rfl)(hp:vs.all Yy=true:=by exact rfl)(hd:Yq vs=true:=by exact rfl)(hf:Nat.ble (f+n) k=true:=by exact rfl):
  OpU P o env H (H.set b (.row T k (l'.map e))):=by
 refine Qix p hx hH m d (QeU (Qad h).2) hy hk hv hn hp hd hf g ?_
 grind[QcM,List.map_set]
end
def ZR(a:A)(v:Value):Prop:=∀ro U w,VR ro U w a v
def ZL(az:List A)(l:List Value):Prop:=∀ro U w,LR ro U w az l
theorem ZR.int{k:IntKind}{n:Int}:ZR (.int k n) (.int k n):=λ_ _ _=>rfl
theorem ZR.bool{b:Bool}:ZR (.bool b) (.bool b):=λ_ _ _=>rfl
theorem ZR.str:ZR (.str []) (.string ⟨#[]⟩):=λ_ _ _=>rfl
theorem ZR.rsl{α:Type}{k:Nat}{e:α->List A}:ZR (.rsl k (List.map e [])) (.slice none 0 0):=λ_ _ _=>⟨none,0,rfl,XQ _,.inl rfl⟩
theorem ZR.nils:ZR .nils (.slice none 0 0):=λ_ _ _=>rfl
theorem ZR.nilp:ZR .nilp (.pointer none):=λ_ _ _=>rfl
theorem ZR.nilf:ZR .nilf .nilFunc:=λ_ _ _=>rfl
theorem ZR.nilm:ZR .nilm (.map none):=λ_ _ _=>rfl
theorem Qp0:ZR .nilif .nilIface:=λ_ _ _=>rfl
theorem ZL.nil:ZL [] []:=λ_ _ _=>rfl
variable {az:List A}
theorem ZL.cons{a:A}{v:Value}{l:List Value}(h:ZR a v)(k:ZL az l):ZL (a::az) (v::l):=λro U w=>⟨v,l,rfl,h ro U w,k ro U w⟩
theorem ZR.agg{az:List A}{l:List Value}(h:ZL az l):ZR (.agg az) (.agg l.toArray):=λro U w=>⟨l,rfl,h ro U w⟩
section
variable {P:Program} {o:Oper} {env:Env} {H:Qc}
theorem Qli{t:Nat}{z:Value}{v:A}{cs:List A}(k:∀w,(zeroValue t).run P w=.ok z w)(g:ZR v z)(i:o.op=.alloc t:=by exact rfl)(hk:Yj v=true:=by exact rfl)(hcs:Yr v=cs:=by exact rfl)(hpl:cs.all Yy=true:=by exact rfl):
  OpH P o env H (.ptr H.length 0) (H++[.cells t cs]):=by
 intro j f U N a w r;obtain⟨l,h,d⟩:=(g f U w).cells hk;subst hcs;refine⟨.pointer (some ⟨w.heap.size,0,none⟩),w.alloc (.cells l.toArray t),f,[some w.heap.size],?_,⟨w.heap.size,?_,rfl⟩,r.sim.allocCells d (d.plain hpl),Qm.alloc _ r.sim.roLt r.sim.frLt⟩
 .have e:(newVar t z).run P w=.ok ⟨w.heap.size,0,none⟩ (w.alloc (.cells l.toArray t)):=by
   unfold newVar;rw[h];rfl
  simp_all[execOp,Instr.alloc]
 .rw[<- r.sim.len];simp
theorem QkW{p q:Bool}(a:∀w,(underlying t).run P w=.ok .bool w):(Op.equal t (.bool p) (.bool q)).run P w=.ok (p==q) w:=by
 have k:∀d,(Op.equalIn (d+1) t (.bool p) (.bool q)).run P w=.ok (p==q) w:=by
  simp[Op.equalIn,a]
 exact k 9999
theorem Qgt{x y:Operand}{p q:Bool}(e:∀w,(underlying t).run P w=.ok .bool w)(d:o.op=.binOp .neq t x y u:=by exact rfl)(hx:opA env x=.bool p:=by exact rfl)(hy:opA env y=.bool q:=by exact rfl):OpV P o env H (.bool (p != q)):=by
 intro f g U N a w r;have h:=Qde r hx;have i:=Qde r hy;refine⟨_,?_,rfl⟩
 simp_all[execOp,Go.binOp,eqGuard,QkW,bne]
theorem Q1{x y:Operand}{s:List UInt8}{k:IntKind}{i:Int}{c:UInt8}(h:idx s i=some c)(d:∀w,(underlying t).run P w=.ok .string w)(a:o.op=.index t x y:=by exact rfl)(hx:opA env x=.str s:=by exact rfl)(hy:opA env y=.int k i:=by exact rfl):
  OpV P o env H (.int .u8 c.toNat):=Qnm a d hx hy (Qad h).1 (Qad h).2
theorem Qo9{e:α->List A}{x:Operand}{l:List α}{a b:Int}(h:slc l a b=some r)(E1:∀w,(underlying T).run P w=.ok (.slice et) w)(E2:∀w,(sizeOf et).run P w=.ok k w)
  (d:lo=none/\a=0\/ ∃y,lo=some y/\opA env y=.int .i64 a)(f:hi=none/\b=l.length\/ ∃y,hi=some y/\opA env y=.int .i64 b)
  (g:o.op=.slice T x lo hi none:=by exact rfl)(hx:opA env x=.rsl k (l.map e):=by exact rfl):OpV P o env H (.rsl k (r.map e)):=by
 obtain⟨j,i,m,rfl⟩:=Qfc h;refine Qo8 (l:=a.toNat) (h:=b.toNat) E1 E2 g hx ?_ ?_ (by omega) (by simp;omega) (by simp)
 .grind
 grind
theorem Qnr{c:Call}{t d i n:Nat}{x:Operand}(e:∀w,(underlying t).run P w=.ok (.slice d) w)(a:o.op=.call c:=by exact rfl)(hc:c={callee:=.builtin .len,args:= #[x],argTypes:= #[t]}:=by exact rfl)
  (hx:opA env x=.osl i 0 n k:=by exact rfl):OpV P o env H (.int .i64 n):=Qj5 a hc e hx
end
def Qe(k:IntKind)(n:Int):List A:=[.int k n]
def Qa8(b:Bool):List A:=[.bool b]
def JO(s:List UInt8):List A:=[.str s]
def QoH(k:Nat)(e:α->List A)(l:List α):List A:=[.rsl k (l.map e)]
theorem QiM{o:Oper}{a:Act}{next:Act->World->Prop}{e:Result Next}
  (k:∀a' w',next a' w'->a'.defers=a.defers)(h:o.uponIn (WF rd) 0 P a next Q e):
  o.uponIn (WF rd) 0 P a (λa' w'=>next a' w'/\ ∃v,a'=a.put o.dst v) Q e:=by
 cases e with
 |ok n w'=>
  cases n with
  |value v=>exact⟨h,_,rfl⟩
  |skip=>exact⟨h,_,rfl⟩
  |defer d=>
   have:=congrArg List.length (k _ _ h)
   revert this
   cases o.dst<;>simp[Act.put]
  |enter f g=>
   exact⟨h.1,CallsIn.mono h.2 (by grind)⟩
  |row r g=>exact⟨h.1,RowsIn.mono h.2 (by grind)⟩
  |round l f j assign i=>exact⟨h.1,RoundIn.mono h.2 (by grind)⟩
  |_=>exact h.elim
 |halt x w'=>cases x<;>first|exact h|exact h.elim
def Jc(e:Env)(H:Qc):QR:=λx e' H'=>x=.normal/\e'=e/\H'=H
theorem Jc.mk{e:Env}{H:Qc}:Jc e H .normal e H:=⟨rfl,rfl,rfl⟩
inductive Sb (af bf ds:List Nat) (xs:List A) (env0:Env):Env->Prop
 |nil:Sb af bf ds xs env0 []
 |dep (j:Nat) {s:Nat} {a:A} {r:Env} (h1:af.contains j=true) (h2:ds[j]?=some s) (h3:xs[j]?=some a) (k:Sb af bf ds xs env0 r):Sb af bf ds xs env0 ((s,a)::r)
 |old {s:Nat} {a:A} {r:Env} (h1:ds.contains s=false) (h2:lk env0 s=a) (k:Sb af bf ds xs env0 r):Sb af bf ds xs env0 ((s,a)::r)
 |pre (j:Nat) {s:Nat} {a:A} {r:Env} (h1:bf.contains j=true) (h2:ds[j]?=some s) (h3:lk env0 s=a) (k:Sb af bf ds xs env0 r):Sb af bf ds xs env0 ((s,a)::r)
def Qn(o:Oper):List Nat:=(o.after.toList.filter (Region.binds .any)).map (·.on)
def Qio(l:List Oper)(i:Nat):List Nat:=(List.range l.length).filter λj=>((l[j]?).map Qn).getD [] |>.contains i
inductive QeF (P:Program) (N:Nat) (l:List Oper) (ds:List Nat) (xs:List A) (env0:Env) (i:Nat) (H H':Qc):Prop
 |mk (o:Oper) (e:Env) (d:Nat) (x:A) (ho:l[i]?=some o) (hd:o.dst=some d) (hx:xs[i]?=some x) (hs:Sb (Qn o) (Qio l i) ds xs env0 e)
   (h:WO P H.length N l.toArray [o] e H (Jc (up e d x) H')):QeF P N l ds xs env0 i H H'
variable {env0:Env}
theorem QeF.use{l:List Oper}{J:List Nat}{xs:List A}{i:Nat}{H:Qc}(u:QeF P N l J xs env0 i H H'){K:Act->World->Prop}{a:Act}{o:Oper}(Y:l[i]?=some o)
  (p:Sim fr ro U H w)(hN:a.tmps.size=N)(B:QcJ fr a.defers w)(T:Qd4 rd fr w)
  (hD:∀j∈Qn o,∀s x,J[j]?=some s->xs[j]?=some x->VR ro U w x (a.tmps.getD s undef))
  (hE:∀s,J.contains s=false->VR ro U w (lk env0 s) (a.tmps.getD s undef))(hP:∀j s,(Qio l i).contains j=true->J[j]?=some s->VR ro U w (lk env0 s) (a.tmps.getD s undef))
  (hK:∀v w' ro' τ d x,o.dst=some d->xs[i]?=some x->VR ro' (U++τ) w' x ((a.put o.dst v).tmps.getD d undef)->Sim fr ro' (U++τ) H' w'->Qm fr ro w ro' w'->K (a.put o.dst v) w'):
  wpOpIn (WF rd) 0 P l.toArray Q i K a w:=by
 obtain⟨y,e,d,x,R,hd,hx,hs,h⟩:=u;obtain rfl:y=o:=XV (R.symm.trans Y);have z:Rel fr ro U H e N a w:=by
  refine⟨p,?_,hN,B⟩;intro s;clear h
  induction hs with
  |nil=>exact trivial
  | @dep j s1 t r k g h3 _ ih=>
   unfold lk;cases u:Nat.beq s s1 with
   |false=>exact ih
   |true=>
    obtain rfl:=XN u
    grind
  | @old s1 t r k g _ ih=>
   unfold lk;cases u:Nat.beq s s1 with
   |false=>exact ih
   |true=>
    obtain rfl:=XN u
    grind
  | @pre j s1 t r k g h3 _ ih=>
   unfold lk;cases u:Nat.beq s s1 with
   |false=>exact ih
   |true=>
    obtain rfl:=XN u
    grind
 have E:=h rd fr ro U a w z T;have fin:∀v w',QbL H.length fr ro U w N a.defers (Jc (up e d x) H') .normal (a.put y.dst v) w'->K (a.put y.dst v) w':=by
  rintro v w' ⟨_,aa,H2,ro',σ',ab,_,⟨_,rfl,rfl⟩,W,m,ht,_,M⟩;have hσ:σ'=U++σ'.drop H.length:=by
   conv=>lhs;rw[<- Xx H.length σ']
   rw[ht, <- p.len,X4]
  have G:=W.env d;unfold lk at G;rw[Vz]at G;rw[hσ]at G;refine hK v w' ro' (σ'.drop H.length) d x hd hx G ?_ m;rw[<- hσ];exact W.sim.frMono M.sub
 unfold wpOpIn;have L:l.toArray[i]?=some y:=by simpa using Y
 rw[L];simp only;unfold wpL wpListIn at E;split at E
 .rename_i hw;rw[Vm hw];obtain⟨V,E⟩:=E;refine⟨V,?_⟩;have g:=QiM (by
   intro a' w' q;unfold wpListIn at q;obtain⟨_,_,_,_,_,_,_,_,_,_,_,q,_⟩:=q;exact q) E
  generalize(y.semAt (WF rd).round a.eval).run P w=res at*;cases res with
  |ok n w'=>
   cases n with
   |value v=>exact fin _ _ g.1
   |skip=>exact fin _ _ g.1
   |defer df=>
    exfalso;obtain⟨⟨_,_,_,_,_,_,_,_,_,_,_,q,_⟩,_⟩:=g;have:=congrArg List.length q
    revert this
    cases y.dst<;>simp[Act.put]
   |enter f F=>
    refine⟨g.1,CallsIn.mono g.2 (λe O m=>?_)⟩;cases e with
    |returned v=>exact fin _ _ m.1
    |panicked c=>obtain⟨t,_,_,_,_,_,k,⟨rfl,_⟩,_⟩:=m;exact k.elim
    |outgrown=>obtain⟨a1,w1,t,_,_,_,_,_,k,⟨rfl,_⟩,_⟩:=m;exact k.elim
   |row r F=>
    exact⟨g.1,RowsIn.mono g.2 (λ_ _ m=>fin _ _ m.1)⟩
   |round l f tmps assign X=>
    refine⟨g.1,RoundIn.mono g.2 (λe O m=>?_)⟩;cases e with
    |returned v=>exact fin _ _ m.1
    |panicked c=>obtain⟨t,_,_,_,_,_,k,⟨rfl,_⟩,_⟩:=m;exact k.elim
    |outgrown=>obtain⟨a1,w1,t,_,_,_,_,_,k,⟨rfl,_⟩,_⟩:=m;exact k.elim
   |_=>exact g.elim
  |halt x w'=>
   cases x with
   |panic v=>obtain⟨t,_,_,_,_,_,k,⟨rfl,_⟩,_⟩:=g;exact k.elim
   |_=>exact g.elim
 simp_all[wpListIn]
theorem least{p:Nat->Prop}(a:∀i,p i\/ ¬p i):∀n,p n->∃i,i<=n/\p i/\ ∀j,j<i->¬p j:=by
 intro n
 induction n using Nat.strongRecOn with
 |ind n d=>
  grind
def onL(L:Array Bool)(i:Nat):Prop:=L[i]?=some true
variable {L:Array Bool}
theorem QaH{l:List Oper}(p:L.size=l.length){i:Nat}:
  i∈Region.ready .any l.toArray L↔ ∃o,l[i]?=some o/\ ¬onL L i/\ ∀j∈Qn o,onL L j:=by
 unfold Region.ready;simp only[Xe,List.mem_range,XT,XE];have d:∀j,L.getD j false=true↔onL L j:=by
  intro j;unfold onL;rw[Array.getD_eq_getD_getElem?]
  grind
 constructor
 .rintro⟨f,k,a⟩;refine⟨l[i],(by simp),?_,?_⟩
  .grind
  .rw[XH f]at a;simp only[Xk,Option.getD_some,Array.all_eq_true']at a;intro j g;unfold Qn at g
   grind
 .rintro⟨o,f,k,a⟩;have h:i<l.length:=(by grind);refine⟨h,?_,?_⟩
  .grind
  .rw[f];simp only[Xk,Option.getD_some,Array.all_eq_true'];intro e m;cases n:Region.binds .any e with
   |false=>simp
   |true=>
    have:=(d _).2 (a e.on (by unfold Qn;grind))
    grind
theorem JT{i j:Nat}(hi:i<L.size):onL (L.setIfInBounds i true) j↔j=i\/onL L j:=by
 grind[onL]
def unl(L:Array Bool):Nat:=L.toList.countP (!·)
theorem QhF{i:Nat}(hi:i<L.size)(h:¬onL L i):unl (L.setIfInBounds i true)+1=unl L:=by
 unfold unl;have a:L.toList[i]=false:=by
  grind[onL]
 grind
theorem Qlw{i:Nat}(hi:i<L.size)(h:¬onL L i):0<unl L:=by have:=QhF hi h;omega
inductive QcI (l:List Oper) (m:Nat):Nat->Prop
 |one {o:Oper} {j:Nat} (ho:l[m]?=some o) (hj:j∈Qn o):QcI l m j
 |step {o:Oper} {i j:Nat} (h:QcI l m i) (ho:l[i]?=some o) (hj:j∈Qn o):QcI l m j
def Qfp(l:List Oper):Nat->List Nat->List Nat
 |0,S=>S
 |j+1,S=>Qfp l j (bif S.contains j then S++(match l[j]? with|some o=>Qn o|none=>[])else S)
theorem Qcj{l:List Oper}{m:Nat}:∀(n:Nat) (S:List Nat),(∀j∈S,QcI l m j)->∀j∈Qfp l n S,QcI l m j
 |0,S,h,j,hj=>h j hj
 |n+1,S,h,j,hj=>by
  refine Qcj n _ ?_ j hj;intro i hi;cases q:S.contains n with
  |false=>grind
  |true=>
   rw[q]at hi;rcases Vx.1 hi with z|z
   .exact h i z
   .cases ho:l[n]? with
    |none=>grind
    |some o=>rw[ho]at z;exact .step (by grind) ho z
def Qat(ds:List Nat)(xs:List A)(env0:Env):Env:=ds.zip xs++env0
theorem QpC{a:List Nat}{xs:List A}(hl:a.length=xs.length)(s:Nat):
  (∃(j:Nat) (x:A),a[j]?=some s/\xs[j]?=some x/\lk (Qat a xs env0) s=x)\/(a.contains s=false/\lk (Qat a xs env0) s=lk env0 s):=by
 unfold Qat
 induction a generalizing xs with
 |nil=>simp
 |cons d a e=>
  cases xs with
  |nil=>simp at hl
  |cons x xs=>
   simp[XW,Nat.add_right_cancel_iff]at hl;simp only[List.zip_cons_cons,VE,lk];cases h:Nat.beq s d with
   |true=>
    obtain rfl:=XN h;left;exact⟨0,x,rfl,rfl,by simp⟩
   |false=>
    have g:s≠d:=λq=>by simp_all
    rcases e hl with⟨j,y,f,i,k⟩|⟨f,i⟩
    .left;exact⟨j+1,y,by grind,by grind,by grind⟩
    grind
def drawChk.nodupB:List Nat->Bool
 |[]=>true
 |x::r=> !r.contains x&&drawChk.nodupB r
def drawChk.goB(l:List Oper)(m:Nat):Nat->List Oper->Bool
 |_,[]=>true
 |i,o::r=>(Qn o).all (λj=>Nat.blt j i)&&(bif Nat.beq i m then(List.range m).all (λj=>(Qfp l m (Qn o)).contains j)else bif Nat.blt m i then(Qn o).contains (i-1)else true)&&drawChk.goB l m (i+1) r
def drawChk.loB(m k:Nat)(los:List Nat)(hs:List Bool):Nat->List Oper->Bool
 |_,[]=>(List.range k).all λj=>(List.range m).any λi=>hs.getD i false&&Nat.beq (los.getD i 0) j
 |i,o::r=>(bif Nat.blt i m then
   (Nat.beq (los.getD i 0) 0||(Qn o).any (λj=>Nat.blt j m&&Nat.ble (los.getD i 0) (los.getD j 0+(if hs.getD j false then 1 else 0))))
   &&(!hs.getD i false||(Nat.blt (los.getD i 0) k&&(List.range m).all (λj=> !hs.getD j false|| !Nat.beq (los.getD i 0) (los.getD j 0)||Nat.beq i j)))
  else true)&&drawChk.loB m k los hs (i+1) r
def drawChk(l:List Oper)(m k N:Nat)(ds los:List Nat)(hs:List Bool):Bool:=
 Nat.ble m l.length&&(ds.length==m)&&(l.take m).map (·.dst)==ds.map some&&ds.all (λd=>Nat.blt d N)&&drawChk.nodupB ds
 &&drawChk.goB l m 0 l&&(drawChk.loB m k los hs 0 l)
theorem Qej{a:List Nat}(h:drawChk.nodupB a=true):∀(i j d:Nat),a[i]?=some d->a[j]?=some d->i=j:=by
 induction a with
 |nil=>simp
 |cons x r e=>
  simp[drawChk.nodupB,XT]at h
  grind
theorem Qjl{l:List Oper}:∀(r:List Oper) (b:Nat),drawChk.goB l m b r=true->∀(i:Nat) (o:Oper),r[i]?=some o->
  (∀j∈Qn o,j<b+i)/\(b+i=m->∀j,j<m->j∈Qfp l m (Qn o))/\(m<b+i->b+i-1∈Qn o):=by
 intro r
 induction r with
 |nil=>simp
 |cons x r g=>
  intro b h i o e;simp only[drawChk.goB]at h;cases i with
  |zero=>
   simp at e;refine⟨λj a=>?_,λd j a=>?_,λd=>?_⟩
   .simp_all
   .simp_all
   .have f:Nat.beq b m=false:=by
     cases q:Nat.beq b m with
     |false=>rfl
     |true=>simp_all
    have k:Nat.blt m b=true:=by simp_all
    grind
  |succ i=>
   grind
inductive Ob (P:Program) (N:Nat) (l:List Oper) (ds:List Nat) (xs:List A) (env0:Env):Nat->List (List (Qc×Qc))->Prop
 |nil {i:Nat}:Ob P N l ds xs env0 i []
 |cons {i:Nat} {s:List (Qc×Qc)} {r:List (List (Qc×Qc))} (h:∀p∈s,QeF P N l ds xs env0 i p.1 p.2) (k:Ob P N l ds xs env0 (i+1) r):Ob P N l ds xs env0 i (s::r)
theorem Ob.get{l:List Oper}{a:List Nat}{xs:List A}{b:Nat}{d:List (List (Qc×Qc))}(h:Ob P N l a xs env0 b d):
  ∀(i:Nat) (s:List (Qc×Qc)),d[i]?=some s->∀p∈s,QeF P N l a xs env0 (b+i) p.1 p.2:=by
 induction h with
 |nil=>simp
 | @cons b1 s1 r1 h _ ih=>
  grind
theorem Ob.st0{l:List Oper}{a:List Nat}{xs:List A}{i:Nat}:∀p∈([]:List (Qc×Qc)),QeF P N l a xs env0 i p.1 p.2:=by
 simp
theorem Ob.stC{l:List Oper}{a:List Nat}{xs:List A}{i:Nat}{H:Qc}{r:List (Qc×Qc)}(h:QeF P N l a xs env0 i H H')
  (k:∀p∈r,QeF P N l a xs env0 i p.1 p.2):∀p∈(H,H')::r,QeF P N l a xs env0 i p.1 p.2:=by
 grind
theorem Qbp.nil{H:Qc}:Qbp H [] []:=trivial
theorem Qbp.cons{H:Qc}{d f:List A}{a b:A}(e:az=a::d)(h:Look H a b)(k:Qbp H d f):Qbp H az (b::f):=by subst e;exact⟨h,k⟩
section
variable {P:Program} {o:Oper} {env:Env} {H:Qc} {α:Type} {e:α->List A}
end
inductive PL (P:Program):List Field->List (Nat×Nat)->Prop
 |nil:PL P [] []
 |cons {f:Field} {n:Nat} {fs:List Field} {pl:List (Nat×Nat)} (h:∀w,(sizeOf f.type).run P w=.ok n w) (k:PL P fs pl):PL P (f::fs) ((f.offset,n)::pl)
theorem PL.run{P:Program}{fs:List Field}{a:List (Nat×Nat)}(h:PL P fs a):∀w,(fs.mapM λf=>(do pure (f.offset, <- sizeOf f.type):Sem (Nat×Nat))).run P w=.ok a w:=by
 induction h with
 |nil=>intro w;rfl
 |cons h _ ih=>
  simp_all
structure Qd6 (P:Program) (t:TypeId) (pl:List (Nat×Nat)):Prop where
 un:∃fs:List Field,(∀w,(underlying t).run P w=.ok (.struct fs.toArray) w)/\PL P fs pl
section
variable {P:Program} {o:Oper} {env:Env} {H:Qc}
def Qeq(env:Env)(pl:List (Nat×Nat)):List A->List (Nat×Operand)->Option (List A)
 |cs,[]=>some cs
 |cs,(i,x)::r=>match pl[i]? with
  |none=>none
  |some (off,size)=>bif Yj (opA env x)&&Nat.beq (Yr (opA env x)).length size&&Nat.ble (off+size) cs.length then Qeq env pl (splice cs off (Yr (opA env x))) r else none
theorem QfS{fr ro:Nat->Prop}{U:Sig}{N:Nat}{a:Act}{w:World}(r:Rel fr ro U H env N a w){d:List (Nat×Nat)}:∀(parts:List (Nat×Operand)) (cs:List A) (l:List Value) (cs':List A),
  LR ro U w cs l->Qeq env d cs parts=some cs'->
  ∃l',Instr.fill (d.toArray[·]?) l.toArray (parts.map λp=>(p.1,a.eval p.2))=some l'.toArray/\LR ro U w cs' l'
 |[],cs,l,cs',h,q=>by
  cases q;exact⟨l,rfl,h⟩
 |(i,x)::rest,cs,l,cs',h,q=>by
  unfold Qeq at q;cases hp:d[i]? with
  |none=>grind
  |some p=>
   obtain⟨off,size⟩:=p;rw[hp]at q;simp at q;cases hc:(Yj (opA env x)&&Nat.beq (Yr (opA env x)).length size&&Nat.ble (off+size) cs.length)with
   |false=>grind
   |true=>
    rw[hc]at q;simp[XT]at hc;obtain⟨⟨c1,c2⟩,c3⟩:=hc;obtain⟨m,q1,q2⟩:=(Qh r x).cells c1;have hm:m.length=size:=by rw[q2.length];simp_all
    have hl:=h.length;obtain⟨l',f,e⟩:=QfS r rest _ (splice l off m) cs' (h.splice off q2) q
    grind[Qg9,Nat.le_of_ble_eq_true]
theorem OpV.build{t:TypeId}{z:Value}{zs cs:List A}{e:List (Nat×Nat)}{parts:List (Nat×Operand)}(q:∀w,(zeroValue t).run P w=.ok z w)(j:ZR (.agg zs) z)(k:Qd6 P t e)
  (g:o.op=.build t parts.toArray:=by exact rfl)(hf:Qeq env e zs parts=some cs:=by exact rfl):OpV P o env H (.agg cs):=by
 intro x n U N a w r;obtain⟨u,h,s⟩:=k.un;obtain⟨l,rfl,f⟩:=j n U w;obtain⟨d,m,p⟩:=QfS r parts zs l cs f hf;refine⟨.agg d.toArray,?_,d,rfl,p⟩;have i:=s.run w;simp only[execOp,g,Instr.build,Vg,q,Result.andThen,h,XF,List.mapM_toArray,Sem.run_map,i,Value.cells,m,Vh]
end
section
variable {P:Program} {o:Oper} {env:Env} {H:Qc}
theorem YK{x:Operand}{a:A}(j:o.op=.nilCheck x)(g:opA env x=a:=by exact rfl)(hk:(match a with|.ptr _ _=>true|.rp _=>true|_=>false)=true:=by exact rfl):OpV P o env H a:=by
 intro i k U N ac w r;have h:=Qh r x;rw[g]at h;cases a<;>first|(cases hk)|skip
 .obtain⟨b,e,f⟩:=h;refine⟨_,?_,b,e,rfl⟩
  simp_all[execOp]
 .obtain⟨b,d,e,f⟩:=h;refine⟨_,?_,b,d,rfl,f⟩
  simp_all[execOp]
end
mutual
def FzA(i k:Nat)(es:List (List A)):A->A->Prop
 |.agg az,b=>∃bs,b=.agg bs/\FzL i k es az bs
 |.fn f x c,b=>∃x' c',b=.fn f x' c'/\FzL i k es x x'/\FzL i k es c c'
 |.iface t a,b=>∃a',b=.iface t a'/\FzA i k es a a'
 |.tup az,b=>∃bs,b=.tup bs/\FzL i k es az bs
 |.osl j o n k',b=>b=.osl j o n k'\/(j=i/\o=0/\k'=k/\n=es.length/\b=.rsl k es)
 |.nils,b=>b=.nils\/ ∃k',b=.rsl k' []
 |a,b=>b=a
def FzL(i k:Nat)(es:List (List A)):List A->List A->Prop
 |[],b=>b=[]
 |a::az,b=>∃a' as',b=a'::as'/\FzA i k es a a'/\FzL i k es az as'
end
mutual
theorem FzA.refl{i k:Nat}{es:List (List A)}:∀a:A,FzA i k es a a
 |.agg az=>⟨az,rfl,FzL.refl az⟩
 |.fn _ x c=>⟨x,c,rfl,FzL.refl x,FzL.refl c⟩
 |.iface _ a=>⟨a,rfl,FzA.refl a⟩
 |.tup az=>⟨az,rfl,FzL.refl az⟩
 |.osl _ _ _ _=>.inl rfl
 |.nils=>.inl rfl
 |.any=>rfl
 |.bool _=>rfl
 |.int _ _=>rfl
 |.str _=>rfl
 |.nilp=>rfl
 |.ptr _ _=>rfl
 |.rp _=>rfl
 |.rsl _ _=>rfl
 |.nilf=>rfl
 |.nilif=>rfl
 |.map _=>rfl
 |.nilm=>rfl
theorem FzL.refl{i k:Nat}{es:List (List A)}:∀az:List A,FzL i k es az az
 |[]=>rfl
 |a::az=>⟨a,az,rfl,FzA.refl a,FzL.refl az⟩
end
theorem FzA.agg{i k:Nat}{es:List (List A)}{az bs:List A}(h:FzL i k es az bs):FzA i k es (.agg az) (.agg bs):=⟨bs,rfl,h⟩
theorem FzA.tup{i k:Nat}{es:List (List A)}{az bs:List A}(h:FzL i k es az bs):FzA i k es (.tup az) (.tup bs):=⟨bs,rfl,h⟩
theorem FzA.iface{i k:Nat}{es:List (List A)}{t:Nat}{a b:A}(h:FzA i k es a b):FzA i k es (.iface t a) (.iface t b):=⟨b,rfl,h⟩
theorem FzA.own{i n:Nat}(hn:n=es.length):FzA i k es (.osl i 0 n k) (.rsl k es):=.inr (by grind)
theorem FzA.nil{i k':Nat}:FzA i k es .nils (.rsl k' []):=.inr ⟨k',rfl⟩
theorem FzL.cons{i:Nat}{a b:A}{bs:List A}(h:FzA i k es a b)(q:FzL i k es az bs):FzL i k es (a::az) (b::bs):=⟨b,bs,rfl,h,q⟩
mutual
theorem Qln{i k:Nat}{es:List (List A)}{ro ro':Nat->Prop}{U:Sig}{w:World}(ext:Ext ro U w ro' U w)
  (hf:∀v,VR ro U w (.osl i 0 es.length k) v->VR ro' U w (.rsl k es) v):∀(a b:A) (v:Value),FzA i k es a b->VR ro U w a v->VR ro' U w b v
 |.agg az,b,v,h,q=>by
  obtain⟨bs,rfl,h⟩:=h;obtain⟨l,rfl,q⟩:=q;exact⟨l,rfl,Qd9 ext hf az bs l h q⟩
 |.fn f x c,b,v,h,q=>by
  obtain⟨x',c',rfl,h1,h2⟩:=h;obtain⟨l,l',rfl,q1,q2⟩:=q;exact⟨l,l',rfl,Qd9 ext hf x x' l h1 q1,Qd9 ext hf c c' l' h2 q2⟩
 |.iface t a,b,v,h,q=>by
  obtain⟨a',rfl,h⟩:=h;obtain⟨x,rfl,q⟩:=q;exact⟨x,rfl,Qln ext hf a a' x h q⟩
 |.tup az,b,v,h,q=>by
  obtain⟨bs,rfl,h⟩:=h;obtain⟨l,rfl,q⟩:=q;exact⟨l,rfl,Qd9 ext hf az bs l h q⟩
 |.osl j o n k',b,v,h,q=>by
  rcases h with rfl|⟨rfl,rfl,rfl,rfl,rfl⟩
  .exact q.mono ext
  .exact hf v q
 |.nils,b,v,h,q=>by
  rcases h with rfl|⟨k',rfl⟩
  .exact q
  .obtain rfl:v=.slice none 0 0:=q;exact⟨none,0,rfl,XQ _,.inl rfl⟩
 |.any,b,v,h,q=>by obtain rfl:b=_:=h;trivial
 |.bool _,b,v,h,q=>by obtain rfl:b=_:=h;exact q
 |.int _ _,b,v,h,q=>by obtain rfl:b=_:=h;exact q
 |.str _,b,v,h,q=>by obtain rfl:b=_:=h;exact q
 |.nilp,b,v,h,q=>by obtain rfl:b=_:=h;exact q
 |.ptr _ _,b,v,h,q=>by obtain rfl:b=_:=h;exact q.mono ext
 |.rp _,b,v,h,q=>by obtain rfl:b=_:=h;exact q.mono ext
 |.rsl _ _,b,v,h,q=>by obtain rfl:b=_:=h;exact q.mono ext
 |.nilf,b,v,h,q=>by obtain rfl:b=_:=h;exact q
 |.nilif,b,v,h,q=>by obtain rfl:b=_:=h;exact q
 |.map _,b,v,h,q=>by obtain rfl:b=_:=h;exact q.mono ext
 |.nilm,b,v,h,q=>by obtain rfl:b=_:=h;exact q
theorem Qd9{i k:Nat}{es:List (List A)}{ro ro':Nat->Prop}{U:Sig}{w:World}(ext:Ext ro U w ro' U w)
  (hf:∀v,VR ro U w (.osl i 0 es.length k) v->VR ro' U w (.rsl k es) v):∀(az bs:List A) (l:List Value),FzL i k es az bs->LR ro U w az l->LR ro' U w bs l
 |[],bs,l,h,q=>by obtain rfl:bs=[]:=h;exact q
 |a::az,bs,l,h,q=>by
  obtain⟨a',as',rfl,h1,h2⟩:=h;obtain⟨v,l',rfl,q1,q2⟩:=q;exact⟨v,l',rfl,Qln ext hf a a' v h1 q1,Qd9 ext hf az as' l' h2 q2⟩
end
def FzB(i k:Nat)(es:List (List A))(x y:Blk):Prop:=y=x\/ ∃t cs cs',x=.cells t cs/\y=.cells t cs'/\FzL i k es cs cs'
def FzH(i k:Nat)(es:List (List A)):Qc->Qc->Prop
 |[],h=>h=[]
 |x::r,h=>∃y r',h=y::r'/\FzB i k es x y/\FzH i k es r r'
def Qpf(i k:Nat)(es:List (List A))(env:Env):Env->Prop
 |[]=>True
 |(s,a)::r=>FzA i k es (lk env s) a/\Qpf i k es env r
theorem FzH.nil{i:Nat}:FzH i k es [] []:=rfl
theorem FzH.keep{i:Nat}{x:Blk}{r r':Qc}(h:FzH i k es r r'):FzH i k es (x::r) (x::r'):=⟨x,r',rfl,.inl rfl,h⟩
theorem FzH.cells{i k t:Nat}{es:List (List A)}{cs cs':List A}{r r':Qc}(q:FzL i k es cs cs')(h:FzH i k es r r'):FzH i k es (.cells t cs::r) (.cells t cs'::r'):=⟨_,r',rfl,.inr (by grind),h⟩
theorem FzH.get{i k:Nat}{es:List (List A)}:∀{H H':Qc},FzH i k es H H'->∀(j:Nat) (y:Blk),H'[j]?=some y->∃x,H[j]?=some x/\FzB i k es x y
 |[],_,h,j,y,q=>by obtain rfl:_=[]:=h;simp at q
 |x::r,_,h,j,y,q=>by
  obtain⟨y',r',rfl,h1,h2⟩:=h;cases j with
  |zero=>grind
  |succ j=>obtain⟨x',p1,p2⟩:=h2.get j y q;grind
theorem FzH.len{i k:Nat}{es:List (List A)}:∀{H H':Qc},FzH i k es H H'->H'.length=H.length
 |[],_,h=>by obtain rfl:_=[]:=h;rfl
 |x::r,_,h=>by obtain⟨y',r',rfl,h1,h2⟩:=h;simp[h2.len]
theorem FzB.live{i k:Nat}{es:List (List A)}{x y:Blk}(h:FzB i k es x y):y.live=x.live:=by
 rcases h with rfl|⟨t,d,a,rfl,rfl,_⟩<;>rfl
theorem Jm{H:Qc}{i t:Nat}(ov:Env)(hi:Nat.ble h0 i=true)(hH:H[i]?=some (.row t k es))(V:Qpf i k es env ov)(J:FzH i k es (H.set i .dead) H'):Le h0 env H (ov++env) H':=by
 intro fr W U N a w r
 let ro':Nat->Prop:=λb=>W b\/U[i]?=some (some b)
 have hown:=λb h=>r.sim.own i b _ h hH rfl;have ext:Ext W U w ro' U w:=⟨λ_ q=>.inl q,λ_ _=>rfl,λ_ _ q=>q,λ_ _ q=>q⟩;have hf:∀v,VR W U w (.osl i 0 es.length k) v->VR ro' U w (.rsl k es) v:=by
  intro v h;rcases h with⟨h0,h⟩|⟨b,p,E,t',m,g,h,n,⟨u,aa⟩,h4,T⟩
  .have:es=[]:=(by grind);subst this;exact⟨none,0,h,XQ _,.inl rfl⟩
  .refine⟨_,E,h,u,?_⟩;by_cases he:es=[]
   .exact .inl he
   .right;have hc:0<E:=X9 (by grind) u;obtain rfl:=n hc;obtain⟨l,Y,M⟩:=r.sim.blk i _ _ g hH;refine⟨b,0,by simp,.inr g,?_⟩;have:=Y4 (pre:=[]) (by simpa using Y) M;exact this.keep ⟨λ_ q=>.inl q,λ_ _=>rfl,λ_ _ q=>q,λ_ _ q=>q⟩ rfl
 have f:∀(j:Nat) (y:Blk),H'[j]?=some y->y≠ .dead->j≠i/\ ∃x,H[j]?=some x/\FzB i k es x y:=by
  intro j y h P;obtain⟨x,g,n⟩:=J.get j y h;by_cases e:j=i
  .subst e;rw[Xb]at g;simp only[if_true]at g;split at g
   .cases g;rcases n with rfl|⟨_,_,_,q,_,_⟩
    .grind
    .cases q
   .simp at g
  grind
 refine⟨ro',U,⟨⟨by rw[J.len,XZ];exact r.sim.len,r.sim.roOk.to (λ_ q=>.inl q) (λ_ _=>rfl) ?_,r.sim.frLt,?_,?_,?_,?_,r.sim.hidTo (· = ·) Q6 (XQ _) (λj b x c Y M q3 q4=>q4.elim id λq=>((r.sim.hid j b x c Y M q3).ne i c _ q hH rfl rfl).elim) (by simp) λj d y R X g3=>.inl ?_⟩,?_,r.size,r.defers⟩,λ_ q=>.inl q,rfl⟩
 rotate_left 5
 .obtain⟨_,x,g4,g5⟩:=f j y X (Qe5 g3);exact⟨j,x,rfl,R,g4,λz=>by rw[<- g5.live];exact z,λc q=>by rcases g5 with rfl|⟨t,cs,B,rfl,rfl,_⟩;exact q;exact q.elim⟩
 rotate_left 1
 .rintro b (q|q)
  .exact r.sim.roLt b q
  grind
 .rintro b (q|q)
  .exact r.sim.roFr b q
  grind
 .intro j b v g n u;obtain⟨e,x,n,L⟩:=f j v n (Qas u);have hx:x.live=true:=by rw[<- L.live];exact u
  obtain⟨G,F,p3⟩:=r.sim.own j b x g n hx;refine⟨G,?_,p3⟩;rintro(q|q)
  .exact F q
  .exact e (r.sim.inj j i b x _ g q n hH hx rfl)
 .intro j j' b v v' g n u h4 T h6;obtain⟨_,x,G,F⟩:=f j v u (Qas T);obtain⟨_,x',O,Q⟩:=f j' v' h4 (Qas h6);exact r.sim.inj j j' b x x' g n G O (by rw[<- F.live];exact T) (by rw[<- Q.live];exact h6)
 .intro j s v g n;by_cases P:v≠ .dead
  .obtain⟨_,x,G,F⟩:=f j v n P;have L:=r.sim.blk j s x g G;rcases F with rfl|⟨t,cs,B,rfl,rfl,q⟩
   .exact L.keep ext (λ_ _ _=>rfl) (λ_ _ _ _=>rfl)
   .cases s with
    |none=>exact L.elim
    |some b=>
     obtain⟨l,e1,e2,e3⟩:=L;exact⟨l,e1,Qd9 ext hf cs B l q e2,e3⟩
  .obtain rfl:v=.dead:=Classical.not_not.1 P;trivial
 .intro s
  induction ov with
  |nil=>exact(r.env s).mono ext
  |cons p ov ih=>
   obtain⟨s1,a1⟩:=p;obtain⟨R,X⟩:=V;simp only[VE,lk];cases q:Nat.beq s s1 with
   |true=>
    obtain rfl:=XN q;exact Qln ext hf _ _ _ R (r.env s)
   |false=>exact ih X
theorem Qpf.nil{i:Nat}:Qpf i k es env []:=trivial
theorem Qpf.cons{i s:Nat}{a b:A}{r:Env}(h:lk env s=a)(q:FzA i k es a b)(g:Qpf i k es env r):Qpf i k es env ((s,b)::r):=⟨h▸q,g⟩
def QdB(P:Program)(env:Env)(H:Qc)(l:ResultVar)(x:A):Prop:=
 ∀fr ro U N a w,Rel fr ro U H env N a w->∃v,((match l with
  |.tmp t=>pure (a.tmps.getD t undef)
  |.cell b t=>do loadVar t (<- asAddr (a.tmps.getD b undef)):Sem Value)).run P w=.ok v w/\VR ro U w x v
def Qlb(P:Program)(env:Env)(H:Qc):List ResultVar->List A->Prop
 |[],xs=>xs=[]
 |l::ls,xs=>∃x xs',xs=x::xs'/\QdB P env H l x/\Qlb P env H ls xs'
section
variable {P:Program} {fn:Func} {env:Env} {H:Qc}
theorem QdB.tmp{t:Nat}{x:A}(d:lk env t=x:=by exact rfl):QdB P env H (.tmp t) x:=
 λfr ro U N a w r=>⟨a.tmps.getD t undef,rfl,d▸r.env t⟩
theorem QdB.cell{b t:Nat}{p x:A}{cs:List A}(j:∀w,(isAgg t).run P w=.ok false w)(h:Pts H p (x::cs))(g:lk env b=p:=by exact rfl):QdB P env H (.cell b t) x:=by
 intro f i U N a w r;have d:=r.env b;rw[g]at d;obtain⟨m,e,n,⟨y,l,_,k⟩,_⟩:=h f i U w _ r.sim d
 simp_all[asAddr,loadVar]
theorem QeD{b t n:Nat}{p:A}{cs:List A}(q:∀w,(isAgg t).run P w=.ok true w)(u:∀w,(sizeOf t).run P w=.ok n w)(i:Pts H p cs)(h:lk env b=p:=by exact rfl)(hl:(cs.take n).length=n:=by exact rfl):
  QdB P env H (.cell b t) (.agg (cs.take n)):=by
 intro f j U N a w r;have d:=r.env b;rw[h]at d;obtain⟨x,e,s,g⟩:=i f j U w _ r.sim d;obtain⟨l,k,_,m⟩:=Yt (P:=P) 0 (by simpa using g.take n);refine⟨.agg l.toArray,?_,l,rfl,k⟩
 simp_all[asAddr,loadVar,loadCells]
theorem Qg{b t n i:Nat}{cs:List A}(d:∀w,(isAgg t).run P w=.ok true w)(e:∀w,(sizeOf t).run P w=.ok n w)(a:lk env b=.ptr i 0)(hH:H[i]?=some (.cells T cs))(hl:cs.length=n):
  QdB P env H (.cell b t) (.agg cs):=by
 have:=QeD d e (Pts.cells hH rfl) a (by grind)
 grind
theorem Qan{b t i:Nat}{x:A}(ha:∀w,(isAgg t).run P w=.ok false w)(hx:lk env b=.ptr i 0)(hH:H[i]?=some (.cells T [x])):QdB P env H (.cell b t) x:=
 QdB.cell ha (Pts.cells hH rfl) hx
theorem Qlb.nil:Qlb P env H [] []:=rfl
theorem Qlb.cons{l:ResultVar}{ls:List ResultVar}{x:A}{xs:List A}(h:QdB P env H l x)(k:Qlb P env H ls xs):Qlb P env H (l::ls) (x::xs):=⟨x,xs,rfl,h,k⟩
theorem Qlb.run{fr ro:Nat->Prop}{U:Sig}{N:Nat}{a:Act}{w:World}(r:Rel fr ro U H env N a w):∀{ls:List ResultVar} {xs:List A},Qlb P env H ls xs->
  ∃vs:List Value,(ls.mapM λl=>(match l with
   |.tmp t=>pure (a.tmps.getD t undef)
   |.cell b t=>do loadVar t (<- asAddr (a.tmps.getD b undef)):Sem Value)).run P w=.ok vs w/\LR ro U w xs vs
 |[],_,h=>by obtain rfl:_=[]:=h;exact⟨[],rfl,rfl⟩
 |l::ls,_,h=>by
  obtain⟨x,xs,rfl,h1,h2⟩:=h;obtain⟨v,e1,e2⟩:=h1 fr ro U N a w r;obtain⟨vs,e3,e4⟩:=Qlb.run r h2;refine⟨v::vs,?_,v,vs,rfl,e2,e4⟩
  simp_all
theorem Qp{ls:List ResultVar}{xs:List A}(h:fn.results=ls.toArray)(j:Nat.beq ls.length 1=false)(k:Qlb P env H ls xs):QcH P fn env H (.tup xs):=by
 intro m p U N a w r;obtain⟨vs,n,e⟩:=k.run r;have d:¬vs.length=1:=by
  have:∀{ls:List ResultVar} {xs:List A},Qlb P env H ls xs->xs.length=ls.length:=by
   intro ls
   induction ls with
   |nil=>intro xs h;obtain rfl:xs=[]:=h;rfl
   |cons l ls g=>intro xs h;obtain⟨x,f,rfl,_,i⟩:=h;simp[g i]
  rw[e.length,this k];intro q;simp_all
 refine⟨.tuple vs.toArray,?_,vs,rfl,e⟩;unfold results;rw[List.mapM_toArray,Vg,Sem.run_map]
 grind[Result.andThen,Sem.run_pure]
theorem Yd{l:ResultVar}{x:A}(h:fn.results= #[l])(k:QdB P env H l x):QcH P fn env H x:=by
 intro f g U N a w r;obtain⟨vs,e,d⟩:=(Qlb.cons k Qlb.nil).run r;obtain⟨v,_,rfl,d,rfl⟩:=d;refine⟨v,?_,d⟩;unfold results;rw[h,show #[l]=[l].toArray from rfl];rw[List.mapM_toArray,Vg,Sem.run_map]
 erw [e]
 rfl
end
mutual
def QbU:A->Bool
 |.bool _=>true
 |.int _ _=>true
 |.str _=>true
 |.agg cs=>Qfg cs
 |_=>false
def Qfg:List A->Bool
 |[]=>true
 |a::r=>QbU a&&Qfg r
end
mutual
def QW:A->Value
 |.bool b=>.bool b
 |.int k n=>.int k n
 |.str s=>.string ⟨s.toArray⟩
 |.agg cs=>.agg (Y6 cs).toArray
 |_=>.bool false
def Y6:List A->List Value
 |[]=>[]
 |a::r=>QW a::Y6 r
end
mutual
theorem VR.val{ro:Nat->Prop}{U:Sig}{w:World}:∀{a:A} {v:Value},QbU a=true->VR ro U w a v->v=QW a
 |.bool _,_,_,h=>h
 |.int _ _,_,_,h=>h
 |.str _,_,_,h=>h
 |.agg cs,v,hs,h=>by
  obtain⟨l,rfl,h⟩:=h;rw[QW,LR.val hs h]
theorem LR.val{ro:Nat->Prop}{U:Sig}{w:World}:∀{az:List A} {l:List Value},Qfg az=true->LR ro U w az l->l=Y6 az
 |[],l,_,h=>h
 |a::r,l,hs,h=>by
  obtain⟨v,l',rfl,h1,h2⟩:=h;simp only[Qfg,XT]at hs;rw[Y6,VR.val hs.1 h1,LR.val hs.2 h2]
end
mutual
theorem Qca{ro:Nat->Prop}{U:Sig}{w:World}:∀{a:A},QbU a=true->VR ro U w a (QW a)
 |.bool _,_=>rfl
 |.int _ _,_=>rfl
 |.str _,_=>rfl
 |.agg cs,hs=>⟨Y6 cs,rfl,Qgw hs⟩
theorem Qgw{ro:Nat->Prop}{U:Sig}{w:World}:∀{az:List A},Qfg az=true->LR ro U w az (Y6 az)
 |[],_=>rfl
 |a::r,hs=>by
  simp only[Qfg,XT]at hs;exact⟨_,_,rfl,Qca hs.1,Qgw hs.2⟩
end
open Go.MapKept
structure Jd (P:Program) (kt:TypeId) {α:Type} (ek:α->A):Prop where
 scl:∀x,QbU (ek x)=true
 inj:∀x y,QW (ek x)=QW (ek y)->x=y
 check:∀(w:World) em x,(Instr.checkKey em 10000 kt (QW (ek x))).run P w=.ok () w
 find:∀(w:World) x (es:List MapEntry),(∀e∈es,∃y,e.key=QW (ek y))->
  ((Instr.findKey kt (QW (ek x)) es).run P w=.ok none w/\ ∀e∈es,e.key≠QW (ek x))\/ ∃j e,(Instr.findKey kt (QW (ek x)) es).run P w=.ok (some (j,e.val)) w/\es[j]?=some e/\e.key=QW (ek x)
 stays:∀(w:World) x,(Instr.keyThatStays (QW (ek x)) (QW (ek x))).run P w=.ok (QW (ek x)) w
variable {β:Type}
section
variable {P:Program} {kt:TypeId}
theorem Jd.plain{α:Type}{ek:α->A}{d:TypeDesc}(h:P.underlying kt=some d)(a:∀x,IsKey d (QW (ek x)))(g:∀x,QbU (ek x)=true)(hi:∀x y,QW (ek x)=QW (ek y)->x=y):Jd P kt ek:=by
 refine⟨g,hi,λw e x=>run_checkKey h (a x) e 9999,λw x i f=>?_,λw x=>run_keyThatStays (a x)⟩
 grind[findNow_spec,run_findKey]
theorem Jd.int{q:IntKind}(hk:P.underlying kt=some (.int q)):Jd P kt (λn=>A.int q n):=
 Jd.plain hk (λx=>by rfl) (λ_=>rfl) (λx y h=>by simpa[QW]using h)
theorem Jd.str(hk:P.underlying kt=some .string):Jd P kt A.str:=
 Jd.plain hk (λx=>by simp[IsKey,QW]) (λ_=>rfl) (λx y h=>by simpa[QW]using h)
theorem Jd.struct{α:Type}[DecidableEq α]{ek:α->A}{fs:Array Field}(E:P.underlying kt=some (.struct fs))(r:∀x,QbU (ek x)=true)(hi:∀x y,QW (ek x)=QW (ek y)->x=y)
  (q:∀(w:World) em x,(Instr.checkKey em 10000 kt (QW (ek x))).run P w=.ok () w)
  (he:∀(w:World) x y,(Op.equal kt (QW (ek x)) (QW (ek y))).run P w=.ok (decide (x=y)) w)(s:∀x,Instr.sameBits 10000 (QW (ek x)) (QW (ek x))=true):Jd P kt ek:=by
 refine⟨r,hi,q,λw x a p=>?_,λw x=>by simp[Instr.keyThatStays,s x]⟩
 .have g:∀(a:List MapEntry) (i:Nat),(∀e∈a,∃y,e.key=QW (ek y))->
    ((Instr.findAsking kt (QW (ek x)) a i).run P w=.ok none w/\ ∀e∈a,e.key≠QW (ek x))\/
    ∃j e,(Instr.findAsking kt (QW (ek x)) a i).run P w=.ok (some (i+j,e.val)) w/\a[j]?=some e/\e.key=QW (ek x):=by
   intro a
   induction a with
   |nil=>simp_all[Instr.findAsking]
   |cons e a n=>
    intro i d;obtain⟨y,h⟩:=d e (by simp);have l:=he w x y;by_cases f:x=y
    .subst f;exact .inr ⟨0,e,by simp[Instr.findAsking,h,l],rfl,h⟩
    .rcases n (i+1) (λz m=>d z (by simp[m]))with⟨k,B⟩|⟨j,u,k,B,t⟩
     .refine .inl ⟨by simp[Instr.findAsking,h,l,f,k],λz m=>?_⟩
      grind
     .exact .inr ⟨j+1,u,by simp[Instr.findAsking,h,l,f,k,Nat.add_assoc,Nat.add_comm 1 j],by grind,t⟩
  cases a with
  |nil=>simp_all[Instr.findKey,run_underlying,Instr.findNow]
  |cons e a=>
   have F:Instr.findNow (.struct fs) (QW (ek x)) (e::a) 0=none:=by
    rfl
   have G:(Instr.findKey kt (QW (ek x)) (e::a)).run P w=(Instr.findAsking kt (QW (ek x)) (e::a) 0).run P w:=by
    simp_all[Instr.findKey,run_underlying]
   grind
def YQ{α:Type}[DecidableEq α](l:List (α×β))(k:α):Option β:=(l.find? λp=>decide (p.1=k)).map (·.2)
def QQ{α:Type}[DecidableEq α](l:List (α×β))(k:α)(v:β):List (α×β):=bif l.any λp=>decide (p.1=k)then l.map λp=>bif decide (p.1=k)then(p.1,v)else p else l++[(k,v)]
def Q2{α:Type}[DecidableEq α](l:List (α×β))(k:α)(z:β):β:=(YQ l k).getD z
def QaA{α:Type}[DecidableEq α](l:List (α×β))(k:α):Bool:=l.any λp=>decide (p.1=k)
def Qo(ek:α->A)(ev:β->A)(l:List (α×β)):List (A×A):=l.map λp=>(ek p.1,ev p.2)
section
variable {α β:Type} [DecidableEq α] {ek:α->A} {ev:β->A} {ro:Nat->Prop} {U:Sig} {w:World} (K:Jd P kt ek)
include K
theorem QiE:∀{l:List (α×β)} {es:List MapEntry},ER ro U w (Qo ek ev l) es->es.map (·.key)=l.map λp=>QW (ek p.1)
 |[],es,h=>by cases(show es=[]from h);rfl
 |p::l,es,h=>by
  obtain⟨e,l',rfl,h1,h2,h3⟩:=h;simp only[Vd];rw[VR.val (K.scl _) h1,QiE h3]
theorem QaR{l:List (α×β)}{es:List MapEntry}(h:ER ro U w (Qo ek ev l) es):∀e∈es,∃y,e.key=QW (ek y):=by
 intro e a;have:e.key∈es.map (·.key):=VA a;rw[QiE K h]at this
 grind
theorem ER.find:∀{l:List (α×β)} {es:List MapEntry},ER ro U w (Qo ek ev l) es->∀(x:α),(es.map (·.key)).Nodup->
  ((∀e,e∈es->e.key≠QW (ek x))->YQ l x=none/\QaA l x=false)/\
  (∀(j:Nat) (e:MapEntry),es[j]?=some e->e.key=QW (ek x)->QaA l x=true/\ ∃v,YQ l x=some v/\VR ro U w (ev v) e.val)
 |[],es,h,x,_=>by
  cases(show es=[]from h);exact⟨λ_=>⟨rfl,rfl⟩,(by simp)⟩
 |p::l,es,h,x,hn=>by
  obtain⟨e0,l',rfl,h1,h2,h3⟩:=h;have hk:=VR.val (K.scl _) h1;simp[Vd,List.nodup_cons]at hn;obtain⟨a1,a2⟩:=ER.find h3 x hn.2;by_cases hp:p.1=x
  .grind[QaA,YQ]
  .have e1:YQ (p::l) x=YQ l x:=by simp[YQ,hp]
   have f:QaA (p::l) x=QaA l x:=by simp[QaA,hp]
   constructor
   .grind
   .intro j e a d;cases j with
    |zero=>
     simp[XC,Option.some.injEq]at a;subst a;exact absurd (K.inj _ _ (hk.symm.trans d)) hp
    |succ j=>grind
end
end
end Go.Sw
namespace Go.Sw
open Go.MapKept
section
variable {P:Program} {o:Oper} {env:Env} {H:Qc}
theorem Yf{T:Nat}(f:o.op=.makeMap T none:=by exact rfl):OpH P o env H (.map H.length) (H++[.map []]):=by
 intro e d U N a w r;refine⟨.map (some w.heap.size),w.alloc (.map #[] 0),d,[some w.heap.size],?_,⟨w.heap.size,?_,rfl⟩,r.sim.alloc ⟨#[],0,Yk _ _,rfl,by simp,by simp,by simp⟩,Qm.alloc _ r.sim.roLt r.sim.frLt⟩
 .simp_all[execOp,Instr.makeMap]
 .rw[<- r.sim.len];simp
section
variable {T kt et:Nat} {α β:Type} [DecidableEq α] {ek:α->A} {ev:β->A} {x y:Operand} {i:Nat} {l:List (α×β)} {k:α} {z0:β} {z:Value}
theorem QcO(K:Jd P kt ek){ro:Nat->Prop}{w:World}(n:P.underlying T=some (.map kt et))(u:∀w,(zeroValue et).run P w=.ok z w)(f:ZR (ev z0) z){b a:Nat}{es:Array MapEntry}
  (m:w.heap[b]?=some (.map es a))(he:ER ro [] w (Qo ek ev l) es.toList)(p:(es.toList.map (·.key)).Nodup):
  ∃v,(∀ck,(Instr.lookup T (.map (some b)) (QW (ek k)) ck).run P w=.ok (if ck then .tuple #[v,.bool (QaA l k)]else v) w)/\VR ro [] w (ev (Q2 l k z0)) v:=by
 obtain⟨s,t⟩:=ER.find K he k p;rcases K.find w k es.toList (QaR K he)with⟨g,i⟩|⟨j,e,g,i,r⟩
 .obtain⟨h,d⟩:=s i;refine⟨z,λck=>?_,?_⟩
  .simp[Instr.lookup,Vg,run_underlying n,Result.andThen,MapKept.run_getObj_map m,Vh,K.check,g,u,d]
  .rw[Q2,h];exact f _ _ _
 .obtain⟨h,v,d,q⟩:=t j e i r;refine⟨e.val,λck=>?_,?_⟩
  .simp[Instr.lookup,Vg,run_underlying n,Result.andThen,MapKept.run_getObj_map m,Vh,K.check,g,h]
  .rw[Q2,d];exact q
theorem Jk{g:β}(K:Jd P kt ek)(p:some (Q2 l k z0)=some g)(t:P.underlying T=some (.map kt et))(B:∀w,(zeroValue et).run P w=.ok z w)(e:ZR (ev z0) z)
  (J:o.op=.lookup T x y false:=by exact rfl)(hx:opA env x=.map i:=by exact rfl)(hH:H[i]?=some (.map (Qo ek ev l)):=by exact rfl)(hy:opA env y=ek k:=by exact rfl):OpV P o env H (ev g):=by
 obtain rfl:=XV p;intro G M U N a w r;have f:=Qh r x;rw[hx]at f;obtain⟨b,m,E⟩:=f;have h:=Qh r y;rw[hy]at h;have Q:=VR.val (K.scl _) h;obtain⟨F,d,u,s,L,O,n⟩:=r.sim.blk i _ _ m hH;obtain⟨v,R,j⟩:=QcO K t B e u s n;refine⟨v,?_,j.mono ⟨λ_ q=>q,λ_ _=>rfl,λ_ _ q=>q,(by simp)⟩⟩
 simp_all[execOp]
theorem QbB{g:β}(K:Jd P kt ek)(p:some (Q2 l k z0)=some g)(t:P.underlying T=some (.map kt et))(B:∀w,(zeroValue et).run P w=.ok z w)(e:ZR (ev z0) z)
  (J:o.op=.lookup T x y true:=by exact rfl)(hx:opA env x=.map i:=by exact rfl)(hH:H[i]?=some (.map (Qo ek ev l)):=by exact rfl)(hy:opA env y=ek k:=by exact rfl):OpV P o env H (.tup [ev g,.bool (QaA l k)]):=by
 obtain rfl:=XV p;intro G M U N a w r;have f:=Qh r x;rw[hx]at f;obtain⟨b,m,E⟩:=f;have h:=Qh r y;rw[hy]at h;have Q:=VR.val (K.scl _) h;obtain⟨F,d,u,s,L,O,n⟩:=r.sim.blk i _ _ m hH;obtain⟨v,R,j⟩:=QcO K t B e u s n;refine⟨.tuple #[v,.bool (QaA l k)],?_,[v,.bool (QaA l k)],rfl,v,_,rfl,j.mono ⟨λ_ q=>q,λ_ _=>rfl,λ_ _ q=>q,(by simp)⟩,_,_,rfl,rfl,rfl⟩
 simp_all[execOp]
theorem Qnq{g:β}(K:Jd P kt ek)(p:some (Q2 l k z0)=some g)(t:P.underlying T=some (.map kt et))(B:∀w,(zeroValue et).run P w=.ok z w)(e:ZR (ev z0) z)
  (J:o.op=.lookup T x y false:=by exact rfl)(hx:opA env x=.map i:=by exact rfl)(hH:H[i]?=some (.fmap (Qo ek ev l)):=by exact rfl)(hy:opA env y=ek k:=by exact rfl):OpV P o env H (ev g):=by
 obtain rfl:=XV p;intro G M U N a w r;have f:=Qh r x;rw[hx]at f;obtain⟨b,m,E⟩:=f;have h:=Qh r y;rw[hy]at h;have Q:=VR.val (K.scl _) h;obtain⟨_,F,d,u,s,L,O,n⟩:=r.sim.blk i _ _ m hH;obtain⟨v,R,j⟩:=QcO K t B e u s n;refine⟨v,?_,j.mono ⟨λ_ q=>q,λ_ _=>rfl,λ_ _ q=>q,(by simp)⟩⟩
 simp_all[execOp]
theorem ER.append{ro:Nat->Prop}{U:Sig}{w:World}:∀{l m:List (A×A)} {es fs:List MapEntry},ER ro U w l es->ER ro U w m fs->ER ro U w (l++m) (es++fs)
 |[],m,es,fs,h,k=>by cases(show es=[]from h);exact k
 |p::l,m,es,fs,h,k=>by
  obtain⟨e,l',rfl,h1,h2,h3⟩:=h;exact⟨e,l'++fs,rfl,h1,h2,ER.append h3 k⟩
theorem ER.put(K:Jd P kt ek){ro:Nat->Prop}{w w':World}{v:β}{val:Value}(a:Ext ro [] w ro [] w')(d:VR ro [] w (ev v) val):∀{l:List (α×β)} {es:List MapEntry} {j:Nat} {e:MapEntry},ER ro [] w (Qo ek ev l) es->
  (es.map (·.key)).Nodup->es[j]?=some e->e.key=QW (ek k)->
  ER ro [] w' (Qo ek ev (l.map λp=>bif decide (p.1=k)then(p.1,v)else p)) (es.modify j λe=>{e with key:=QW (ek k),val:=val})
 |[],es,j,e,h,hn,he,hk=>by cases(show es=[]from h);simp at he
 |p::l,es,j,e,h,hn,he,hk=>by
  obtain⟨e0,l',rfl,h1,h2,h3⟩:=h;have hk0:=VR.val (K.scl _) h1;simp only[Vd,List.nodup_cons]at hn;cases j with
  |zero=>
   simp[XC,Option.some.injEq]at he;subst he;have hp:=K.inj _ _ (hk0.symm.trans hk);have e1:Qo ek ev ((p::l).map λp=>bif decide (p.1=k)then(p.1,v)else p)=(ek p.1,ev v)::Qo ek ev l:=by
    simp only[Qo,Vd,hp,decide_true,Vi,List.map_map,List.cons.injEq,true_and];apply List.map_congr_left;intro q f;have:q.1≠k:=by
     intro e;refine hn.1 ?_;rw[QiE K h3];exact Xf.2 ⟨q,f,by rw[e, <- hp,hk0]⟩
    simp[this]
   rw[e1];refine⟨_,l',rfl,?_,d.mono a,h3.mono a⟩;rw[<- hp];exact Qca (K.scl _)
  |succ j=>
   have hp:p.1≠k:=by
    intro q;refine hn.1 (Xf.2 ⟨e,VB he,?_⟩);rw[hk,hk0,q]
   have e1:Qo ek ev ((p::l).map λp=>bif decide (p.1=k)then(p.1,v)else p)=(ek p.1,ev p.2)::Qo ek ev (l.map λp=>bif decide (p.1=k)then(p.1,v)else p):=by
    simp[Qo,hp]
   rw[e1];exact⟨_,_,rfl,h1.mono a,h2.mono a,ER.put K a d h3 hn.2 he hk⟩
theorem Ye{m:List (α×β)}(K:Jd P kt ek){v:β}{zz:Operand}(hm:some (QQ l k v)=some m)(hd:YJ (ev v)=true)(hT:P.underlying T=some (.map kt et))
  (ho:o.op=.mapUpdate T x y zz:=by exact rfl)(hx:opA env x=.map i:=by exact rfl)(hH:H[i]?=some (.map (Qo ek ev l)):=by exact rfl)(hy:opA env y=ek k:=by exact rfl)(hv:opA env zz=ev v:=by exact rfl):
  OpU P o env H (H.set i (.map (Qo ek ev m))):=by
 obtain rfl:=XV hm;intro fr Y U N a w r;have h1:=Qh r x;rw[hx]at h1;obtain⟨b,V,q2⟩:=h1;have h2:=Qh r y;rw[hy]at h2;have h3:=VR.val (K.scl _) h2;have h4:=Qh r zz;rw[hv]at h4;have G:VR Y [] w (ev v) (a.eval zz):=VR.data hd h4;obtain⟨t,d,M,L,p3,p4,W⟩:=r.sim.blk i _ _ V hH;obtain⟨f1,f2⟩:=ER.find K L k W;have E:∀(obj:Obj) y,w.shape? b=some y->({w with heap:=w.heap.setIfInBounds b obj}:World).shape? b=some y:=by
  grind[World.shape?]
 rcases K.find w k t.toList (QaR K L)with⟨R,F⟩|⟨j,e,R,F,J⟩
 .obtain⟨u1,u2⟩:=f1 F;have Q:QQ l k v=l++[(k,v)]:=by
   unfold QQ;rw[show(l.any λp=>decide (p.1=k))=false from u2];rfl
  have n:=r.sim.set (x':=.map (Qo ek ev (QQ l k v))) (obj:=.map (t.push {key:=QW (ek k),val:=a.eval zz,born:=d}) (d+1)) V hH rfl (E _)
   (λe O=>⟨_,_,O,by
    rw[Q,Qo,Xg,Array.toList_push];exact(L.mono ⟨e.sub,e.keep,e.shape,λ_ _ q=>q⟩).append ⟨_,_,rfl,Qca (K.scl _),G.mono ⟨e.sub,e.keep,e.shape,λ_ _ q=>q⟩,rfl⟩,by
    grind,by
    grind,by
    grind⟩)
  refine⟨_,Y,[],?_,by grind,n.2⟩;simp only[execOp,ho,q2,h3,Vg,Instr.mapUpdate,run_underlying hT,Result.andThen,MapKept.run_getObj_map M,K.check,R,MapKept.run_setObj_map _ M];rfl
 .obtain⟨u1,u2⟩:=f2 j e F J;have Q:QQ l k v=l.map λp=>bif decide (p.1=k)then(p.1,v)else p:=by
   unfold QQ;rw[show(l.any λp=>decide (p.1=k))=true from u1];rfl
  have hj:t[j]?=some e:=by grind
  have g:(t.modify j λe=>{e with key:=QW (ek k),val:=a.eval zz}).toList=t.toList.modify j λe=>{e with key:=QW (ek k),val:=a.eval zz}:=by simp
  have s:∀{γ:Type} (f:MapEntry->γ),(∀B,t.toList[j]?=some B->f {B with key:=QW (ek k),val:=a.eval zz}=f B)->(t.toList.modify j λe=>{e with key:=QW (ek k),val:=a.eval zz}).map f=t.toList.map f:=by
   intro γ f hf;apply List.ext_getElem?
   grind
  have n:=r.sim.set (x':=.map (Qo ek ev (QQ l k v))) (obj:=.map (t.modify j λe=>{e with key:=QW (ek k),val:=a.eval zz}) d) V hH rfl (E _)
   (λX O=>⟨_,_,O,by
    rw[Q,g];exact ER.put K ⟨X.sub,X.keep,X.shape,λ_ _ q=>q⟩ G L W F J,by
    rw[g];intro B u;have:B.born∈(t.toList.modify j λe=>{e with key:=QW (ek k),val:=a.eval zz}).map (·.born):=VA u;rw[s (·.born) (λ_ _=>rfl)]at this;obtain⟨e2,h,h'⟩:=Xf.1 this;rw[<- h'];exact p3 e2 h,by
    rw[g,s (·.born) (λ_ _=>rfl)];exact p4,by
    rw[g,s (·.key) (λB u=>by rw[F]at u;cases u;exact J.symm)];exact W⟩)
  refine⟨_,Y,[],?_,by simpa using n.1,n.2⟩;have z:=K.stays w k;simp only[execOp,ho,q2,h3,Vg,Instr.mapUpdate,run_underlying hT,Result.andThen,MapKept.run_getObj_map M,K.check,R,hj,Xk,Option.getD_some,J,z,MapKept.run_setObj_map _ M];rfl
theorem ER.length{ro:Nat->Prop}{U:Sig}{w:World}:∀{l:List (A×A)} {es:List MapEntry},ER ro U w l es->es.length=l.length
 |[],es,h=>by cases(show es=[]from h);rfl
 |p::l,es,h=>by
  obtain⟨e,l',rfl,_,_,h3⟩:=h;simp[ER.length h3]
theorem Qc1{c:Call}{n:Int}(s:P.underlying T=some (.map kt et))(j:(l.length:Int)=n)(k:o.op=.call c:=by exact rfl)(hc:c={callee:=.builtin .len,args:= #[x],argTypes:= #[T]}:=by exact rfl)
  (hx:opA env x=.map i:=by exact rfl)(hH:H[i]?=some (.map (Qo ek ev l)):=by exact rfl):OpV P o env H (.int .i64 n):=by
 intro z F U N a w r;have h:=Qh r x;rw[hx]at h;obtain⟨b,u,f⟩:=h;obtain⟨g,d,t,m,E,B,y⟩:=r.sim.blk i _ _ u hH;have p:=m.length;refine⟨.int .i64 n,?_,rfl⟩;have e:goInt g.size=.int .i64 n:=by
  have:g.size=l.length:=by rw[<- Array.length_toList,p];simp[Qo]
  rw[this, <- j];rfl
 subst hc;have q:=f;generalize a.eval=ρ at*;rw[<- e];simp[execOp,k,f,resolve,invoke,Go.builtin,Builtin.len_,run_underlying s,MapKept.run_getObj_map t,go_sem]
end
end
end Go.Sw
namespace Go.Sw
open Go.ChangeMaps (setBlock)
section
variable {P:Program} {o:Oper} {env:Env} {H:Qc} {h0 N:Nat} {Q:QR}
def OpE(P:Program)(o:Oper)(env:Env)(H:Qc)(K:A->Qc->Prop):Prop:=
 ∀fr ro U N a w,Rel fr ro U H env N a w->∃x H' v w' ro' τ,K x H'/\(execOp a.eval o).run P w=.ok (.value v) w'/\VR ro' (U++τ) w' x v/\
  Sim fr ro' (U++τ) H' w'/\Qm fr ro w ro' w'
theorem Qk7{all:Array Oper}{l:List Oper}{d:Nat}{K:A->Qc->Prop}(E:h0<=H.length)(hg:Qw all o env true)(n:o.dst=some d)(F:Nat.blt d N=true)
  (i:OpE P o env H K)(k:∀x H',K x H'->WO P h0 N all l (up env d x) H' Q):WO P h0 N all (o::l) env H Q:=by
 intro y fr B U a w r hrd;obtain⟨x,H',v,j,f,τ,z,p,m,u,g⟩:=i fr B U N a w r;refine JJ (YP hg r) p ?_;simp[n];have h:d<N:=by simp_all
 have t:Rel fr f (U++τ) H' (up env d x) N {a with tmps:=a.tmps.setIfInBounds d v} j:=
  ⟨u,VR.up (fr:=fr) (λs=>(r.env s).mono (g.ext U τ)) (by rw[r.size];exact h) m,by simpa using r.size,r.defers.keep g⟩
 refine Yn (λe a w q=>q.step g (QF ?_)) _ _ _ (k x H' z y fr f (U++τ) _ j t (hrd.to g λ_ q=>q));rw[r.sim.len];exact E
theorem Sim.shutMap{fr ro:Nat->Prop}{U:Sig}{w:World}(s:Sim fr ro U H w){i b:Nat}{es:List (A×A)}(hσ:U[i]?=some (some b))(hH:H[i]?=some (.map es)):
  Sim fr (λc=>ro c\/c=b) U (H.set i (.fmap es)) w:=by
 have hown:=s.own i b _ hσ hH rfl;have ext:Ext ro U w (λc=>ro c\/c=b) U w:=⟨λ_ q=>.inl q,λ_ _=>rfl,λ_ _ q=>q,λ_ _ q=>q⟩;have a:∀(j:Nat) (v:Blk),(H.set i (.fmap es))[j]?=some v->v.live=true->j≠i/\H[j]?=some v:=by
  intro j v h u;by_cases e:j=i
  .subst e;rw[Xb]at h
   grind[Blk.live]
  grind
 have n:∀(j:Nat) (v:Blk),(H.set i (.fmap es))[j]?=some v->v.holds=true->H[j]?=some v:=by
  intro j v h u;by_cases e:j=i
  .subst e;rw[Xb]at h;simp only[if_true]at h;split at h
   .cases h;cases u
   .simp at h
  grind
 refine⟨by rw[XZ];exact s.len,s.roOk.to (λ_ q=>.inl q) (λ_ _=>rfl) ?_,s.frLt,?_,?_,?_,?_,s.hidTo (· = ·) Q6 (XQ _) (λj d x c L G N J=>J.elim id λq=>((s.hid j d x c L G N).ne i b _ hσ hH rfl q).elim) (by simp) (by grind)⟩
 .rintro c (q|rfl)
  .exact s.roLt c q
  omega
 .rintro c (q|rfl)
  .exact s.roFr c q
  grind
 .intro j c v g f m;obtain⟨e,f⟩:=a j v f m;obtain⟨t,r,p⟩:=s.own j c v g f m;refine⟨t,?_,p⟩;rintro(q|rfl)
  .exact r q
  .exact e (s.inj j i c v _ g hσ f hH m rfl)
 .intro j F c v E g f m M z B;exact s.inj j F c v E g f (a j v m z).2 (a F E M B).2 z B
 .intro j y v g f;by_cases e:j=i
  .subst e;rw[hσ]at g;cases g;rw[Xb]at f;simp only[if_true]at f;split at f
   .cases f;obtain⟨l,k,t,r,p⟩:=s.blk j _ _ hσ hH;exact⟨.inr rfl,l,k,t,r.mono ext.nil,p⟩
   .simp at f
  .rw[XM (λq=>e q.symm)]at f;exact(s.blk j y v g f).keep ext (λ_ _ _=>rfl) (λ_ _ _ _=>rfl)
section
variable {T kt et i:Nat} {x:Operand} {es:List (A×A)}
theorem OpH.range(F:P.underlying T=some (.map kt et))(z:o.op=.range T x:=by exact rfl)(hx:opA env x=.map i:=by exact rfl)(hH:H[i]?=some (.map es):=by exact rfl):
  OpH P o env H (.ptr H.length 0) (H.set i (.fmap es)++[.iter none es]):=by
 intro n j U N a w r;have p:=Qh r x;rw[hx]at p;obtain⟨b,m,t⟩:=p;obtain⟨l,d,s,E,B,u,G⟩:=r.sim.blk i _ _ m hH;have y:=(r.sim.own i b _ m hH rfl).1;have k:=r.sim.shutMap m hH;have g:Qm n j w (λc=>j c\/c=b) w:=YV (λ_ q=>.inl q);have f:Qm n (λc=>j c\/c=b) w (λc=>j c\/c=b) (w.alloc (.mapIter (some b) d #[] d)):=Qm.alloc _ k.roLt k.frLt;have ext0:=(g.trans f).ext0 [];refine⟨.pointer (some ⟨w.heap.size,0,none⟩),w.alloc (.mapIter (some b) d #[] d),_,[some w.heap.size],?_,⟨w.heap.size,?_,rfl⟩,
  k.alloc (.inr ⟨b,l,d, #[],l.toList,Yk _ _,.inr rfl,by rw[Yl _ _ _ y];exact s,B,u,?_,E.mono ext0,λ_ h=>by cases h⟩),g.trans f⟩
 .simp only[execOp,z,t,Instr.range,Vg,run_underlying F,Result.andThen,MapKept.run_getObj_map s];rfl
 .rw[<- r.sim.len];simp
 .have:l.toList.filter (λe=> !#[].contains e.born)=l.toList:=by simp
  rw[this]
theorem Qgu(z:P.underlying T=some (.map kt et))(t:o.op=.range T x:=by exact rfl)(hx:opA env x=.map i:=by exact rfl)(hH:H[i]?=some (.fmap es):=by exact rfl):
  OpH P o env H (.ptr H.length 0) (H++[.iter none es]):=by
 intro p m U N a w r;have j:=Qh r x;rw[hx]at j;obtain⟨b,B,n⟩:=j;obtain⟨g,l,d,k,y,u,q,E⟩:=r.sim.blk i _ _ B hH;have s:=r.sim.roLt b g;have f:Qm p m w m (w.alloc (.mapIter (some b) d #[] d)):=Qm.alloc _ r.sim.roLt r.sim.frLt;have ext0:=f.ext0 [];refine⟨.pointer (some ⟨w.heap.size,0,none⟩),w.alloc (.mapIter (some b) d #[] d),_,[some w.heap.size],?_,⟨w.heap.size,?_,rfl⟩,
  r.sim.alloc (.inr ⟨b,l,d, #[],l.toList,Yk _ _,g,by rw[Yl _ _ _ s];exact k,u,q,?_,y.mono ext0,λ_ h=>by cases h⟩),f⟩
 .simp only[execOp,t,n,Instr.range,Vg,run_underlying z,Result.andThen,MapKept.run_getObj_map k];rfl
 .rw[<- r.sim.len];simp
 .have:l.toList.filter (λe=> !#[].contains e.born)=l.toList:=by simp
  rw[this]
theorem ER.mem{ro:Nat->Prop}{U:Sig}{w:World}:∀{es:List (A×A)} {l:List MapEntry},ER ro U w es l->∀e∈l,∃x es' l',(x::es').Perm es/\(e::l').Perm l/\VR ro U w x.1 e.key/\VR ro U w x.2 e.val/\ER ro U w es' l'
 |[],l,h,e,he=>by cases(show l=[]from h);cases he
 |y::es,l,h,e,he=>by
  obtain⟨e0,l',rfl,h1,h2,h3⟩:=h;rcases X0.1 he with rfl|he
  .exact⟨y,es,l',.refl _,.refl _,h1,h2,h3⟩
  .obtain⟨x,es',l'',p1,p2,v1,v2,h4⟩:=ER.mem h3 e he;exact⟨x,y::es',e0::l'',(List.Perm.swap _ _ _).trans (p1.cons _),(List.Perm.swap _ _ _).trans (p2.cons _),v1,v2,⟨e0,l'',rfl,h1,h2,h4⟩⟩
theorem QjV:∀{l:List MapEntry},(l.map (·.born)).Nodup->∀a∈l,∀b∈l,a.born=b.born->a=b
 |[],_,a,ha,_,_,_=>by cases ha
 |c::l,hn,a,ha,b,hb,hab=>by
  simp[Vd,List.nodup_cons]at hn;rcases X0.1 ha with ea|ha'<;>rcases X0.1 hb with eb|hb'
  .rw[ea,eb]
  .grind
  .grind
  .exact QjV hn.2 a ha' b hb' hab
def NextK(H:Qc)(i:Nat)(cur:Option (A×A))(es:List (A×A))(v:A)(H':Qc):Prop:=
 (es=[]/\v=.tup [.bool false]/\H'=H)\/ ∃e es',(e::es').Perm es/\v=.tup [.bool true,e.1,e.2]/\H'=H.set i (.iter (some e) es')
theorem OpE.next{G:Option (A×A)}(ho:o.op=.next x false:=by exact rfl)(hx:opA env x=.ptr i 0:=by exact rfl)(hH:H[i]?=some (.iter G es):=by exact rfl):
  OpE P o env H (NextK H i G es):=by
 intro fr t U N a w r;have h1:=Qh r x;rw[hx]at h1;obtain⟨b,q1,q2⟩:=h1;have g:∀(v:Value) (w1:World),w1.heap=w.heap->w1.os=w.os->w1.tape=w.tape->w1.output=w.output->w.drawn<=w1.drawn->Sim fr t (U++[]) H w1/\Qm fr t w t w1:=by
  intro v w1 T X e3 e4 e5;exact⟨by simpa using r.sim.heap T,Qm.heap T X e3 e4 e5⟩
 rcases r.sim.blk i _ _ q1 hH with⟨rfl,rfl,p⟩|⟨m,l,f,d,left,p1,p2,p3,p4,Y,p6,p7,p8⟩
 .refine⟨_,_,.tuple #[.bool false],w,t,[],.inl ⟨rfl,rfl,rfl⟩,?_,⟨_,rfl,_,_,rfl,rfl,rfl⟩,g (.bool false) w rfl rfl rfl rfl (XQ _)⟩;generalize a.eval=ρ at*;simp only[execOp,ho,q2,Instr.next,Vg,getObj,Sem.run,p,Result.andThen];rfl
 .have aa:(leftOf l d).toList=l.toList.filter λe=> !d.contains e.born:=by simp[leftOf]
  have n:left.Perm (leftOf l d).toList:=by grind
  rcases run_next_at (P:=P) w o.type b m f f d l f p1 p3 p4 (XQ _)with⟨g1,g2⟩|⟨e,g1,w1,g2,g3⟩
  .have ab:left=[]:=by
    have:left.length=0:=by rw[n.length_eq];omega
    grind
   subst ab;have ac:es=[]:=by
    have:=p7.length
    grind
   refine⟨_,_,.tuple #[.bool false],w,t,[],.inl ⟨ac,rfl,rfl⟩,?_,⟨_,rfl,_,_,rfl,rfl,rfl⟩,g (.bool false) w rfl rfl rfl rfl (XQ _)⟩
   simp_all[execOp]
  .have he:e∈left:=n.mem_iff.2 g1;have O:e∈l.toList:=by grind
   obtain⟨y,J,L,k1,k2,v1,v2,k3⟩:=p7.mem e he;have k:w1.heap=w.heap/\w1.os=w.os/\w1.tape=w.tape/\w1.output=w.output/\w.drawn<=w1.drawn:=by
    rcases g2 with rfl|rfl
    .simp
    .exact⟨rfl,rfl,rfl,rfl,Nat.le_succ _⟩
   obtain⟨s1,B⟩:=g (.bool false) w1 k.1 k.2.1 k.2.2.1 k.2.2.2.1 k.2.2.2.2;rw[Va]at s1;have af:b≠m:=by
    grind
   have u:=s1.set (x':=.iter (some y) J) (obj:=.mapIter (some m) f (d.push e.born) f) q1 hH rfl
    (λz Q=>by
     grind[World.shape?])
    (λs W=>.inr ⟨m,l,f,d.push e.born,L,W,s.sub _ p2,by
      grind,p4,Y,by
      have ae:(l.toList.filter λe=> !d.contains e.born).Nodup:=by
       have:l.toList.Nodup:=List.Pairwise.of_map _ (λa b h q=>h (congrArg _ q)) Y;exact this.filter _
      have hp:(e::L).Perm (l.toList.filter λe=> !d.contains e.born):=k2.trans p6;have F:(e::L).Nodup:=hp.nodup_iff.2 ae;have T:(l.toList.filter λE=> !(d.push e.born).contains E.born)=(l.toList.filter λe=> !d.contains e.born).filter λE=> !decide (E.born=e.born):=by
       rw[List.filter_filter];apply List.filter_congr;intro z _;simp[Array.contains_push,Bool.and_comm]
      rw[T];have h2:=hp.filter (λE=> !decide (E.born=e.born));have X:(e::L).filter (λE=> !decide (E.born=e.born))=L:=by
       rw[List.filter_cons_of_neg (by simp),List.filter_eq_self];intro z Q;have V:z∈l.toList:=(Xe.1 (hp.mem_iff.1 (List.mem_cons_of_mem _ Q))).1;simp only[Bool.not_eq_true',decide_eq_false_iff_not];intro hb;have:z=e:=by
        exact QjV Y z V e O hb
       subst this;exact(List.nodup_cons.1 F).1 Q
      rw[X]at h2;exact h2,by
      have R:Ext t [] w t [] w1:=B.ext0 [];exact(k3.mono R).mono ⟨s.sub,s.keep,s.shape,λ_ _ q=>q⟩,by
      intro z Q;cases Q;have R:Ext t [] w t [] w1:=B.ext0 [];exact⟨e,O,by simp,(v1.mono R).mono ⟨s.sub,s.keep,s.shape,λ_ _ q=>q⟩,(v2.mono R).mono ⟨s.sub,s.keep,s.shape,λ_ _ q=>q⟩⟩⟩)
   have M:=B.trans u.2;have xt:=M.ext0 [];refine⟨_,_,.tuple #[.bool true,e.key,e.val],_,t,[],.inr ⟨y,J,k1,rfl,rfl⟩,?_,
    ⟨[.bool true,e.key,e.val],rfl,_,_,rfl,rfl,_,_,rfl,(v1.mono xt).mono ⟨λ_ q=>q,λ_ _=>rfl,λ_ _ q=>q,λj c q=>by simp at q⟩,_,_,rfl,(v2.mono xt).mono ⟨λ_ q=>q,λ_ _=>rfl,λ_ _ q=>q,λj c q=>by simp at q⟩,rfl⟩,by simpa using u.1,M⟩
   generalize a.eval=ρ at*;simp only[execOp,ho,q2,Vg,g3,Result.andThen,setBlock];rfl
theorem OpV.entry{e:A×A}(Q:o.op=.entry x:=by exact rfl)(hx:opA env x=.ptr i 0:=by exact rfl)(hH:H[i]?=some (.iter (some e) es):=by exact rfl):OpV P o env H (.tup [e.1,e.2]):=by
 intro O R U N a w r;have j:=Qh r x;rw[hx]at j;obtain⟨b,y,z⟩:=j;rcases r.sim.blk i _ _ y hH with⟨_,h,_⟩|⟨m,l,d,g,left,M,L,B,G,k,F,J,s⟩
 .cases h
 .obtain⟨f,p,E,n,u⟩:=s e rfl;refine⟨.tuple #[f.key,f.val],?_,[f.key,f.val],rfl,_,_,rfl,n.mono ⟨λ_ q=>q,λ_ _=>rfl,λ_ _ q=>q,(by simp)⟩,_,_,rfl,u.mono ⟨λ_ q=>q,λ_ _=>rfl,λ_ _ q=>q,(by simp)⟩,rfl⟩;have t:l.find? (·.born==f.born)=some f:=by rw[<- Array.find?_toList];exact find_born f l.toList k p
  simp_all[execOp,Instr.entry,getObj,Sem.run]
end
end
end Go.Sw
namespace Go.Sw
def Qfj{S E B:Type}(stepE:S->E->Option (Ctl S B))(stepN:S->Option B):S->List E->Option B
 |s,[]=>stepN s
 |s,e::p=>match stepE s e with
  |some (.cont s')=>Qfj stepE stepN s' p
  |some (.done b)=>some b
  |none=>none
def Qbt{E:Type}(x:E):List E->List (List E)
 |[]=>[[x]]
 |y::l=>(x::y::l)::(Qbt x l).map (y:: ·)
def QbY{E:Type}:List E->List (List E)
 |[]=>[[]]
 |x::l=>(QbY l).flatMap (Qbt x)
theorem QfH{E:Type}(x:E):∀(a b:List E),a++x::b∈Qbt x (a++b)
 |[],[]=>by simp[Qbt]
 |[],y::b=>by simp[Qbt]
 |y::a,b=>by
  simp only[VE,Qbt,X0,Xf];exact .inr ⟨a++x::b,QfH x a b,rfl⟩
theorem QdP{E:Type}:∀(l p:List E),p.Perm l->p∈QbY l
 |[],p,h=>by rw[List.perm_nil.1 h];simp[QbY]
 |x::l,p,h=>by
  have hx:x∈p:=h.mem_iff.2 (by simp);obtain⟨a,b,rfl⟩:=List.append_of_mem hx;have h2:=(List.perm_cons x).1 ((List.perm_middle.symm).trans h);simp[QbY,List.mem_flatMap];exact⟨a++b,QdP l _ h2,QfH x a b⟩
variable {E:Type}
def anyP{R:Type}[DecidableEq R](k:List E->Option R)(l:List E):Option R:=bif (QbY l).all (λp=>decide (k p=k l))then k l else none
theorem Qmc{R:Type}[DecidableEq R]{k:List E->Option R}{l:List E}{r:R}(h:anyP k l=some r)(p:List E)(a:p.Perm l):k p=some r:=by
 unfold anyP at h;cases q:(QbY l).all (λp=>decide (k p=k l))with
 |true=>
  simp_all[QdP]
 |false=>grind
theorem QcP{E:Type}:∀(l p:List E),p∈QbY l->p.Perm l
 |[],p,h=>by simp[QbY]at h;rw[h]
 |x::l,p,h=>by
  simp[QbY,List.mem_flatMap]at h;obtain⟨q,hq,hp⟩:=h;have ins:∀(q p:List E),p∈Qbt x q->p.Perm (x::q):=by
   intro q
   induction q with
   |nil=>intro p hp;simp[Qbt]at hp;rw[hp]
   |cons y q a=>
    intro p hp;simp[Qbt,X0,Xf]at hp;rcases hp with rfl|⟨z,d,rfl⟩
    .exact .refl _
    .exact((a z d).cons y).trans (List.Perm.swap _ _ _)
  exact(ins q p hp).trans ((QcP l q hq).cons x)
theorem Qmd{E R:Type}[DecidableEq R]{k:List E->Option R}{l:List E}{r:R}(h:∀p,p.Perm l->k p=some r):anyP k l=some r:=by
 unfold anyP;have:(QbY l).all (λp=>decide (k p=k l))=true:=Xs.2 λp a=>by
  simp_all[QcP]
 rw[this];simp_all
variable {B:Type}
def Qkh{S:Type}(stepE:S->E->Option (Ctl S B))(stepN:S->Option B)(G:B->Prop)(s:S)(l:List E):Prop:=∀p,p.Perm l->∃b,Qfj stepE stepN s p=some b/\G b
section
variable {P:Program} {o:Oper} {env:Env} {H:Qc} {h0 N:Nat} {Q:QR} {c:Code}
def Qcu(I:Env->Qc->Prop)(Q:QR):QR
 |.normal,env,H=>I env H
 |.exit id,env,H=>Q (.exit id) env H
 |.ret,env,H=>Q .ret env H
theorem Qo3{I:Nat->Env->Qc->Prop}(body:∀n env H,I n env H->TC P h0 N c env H (Qcu (λenv H=>∃n',n'<n/\I n' env H) Q)){n:Nat}(E:I n env H):TC P h0 N (.loop c) env H Q:=by
 intro G t y U a w r hrd b k cs hro hb hr;have B:∀m n env H fr1 ro1 σ1 a1 w1,n<m->I n env H->Rel fr1 ro1 σ1 H env N a1 w1->Qm t y w ro1 w1->σ1.take h0=U.take h0->Grow t w a.defers fr1 a1.defers->
   ∃e g h,QaP h0 t y U w N a.defers Q e g h/\ArrivesIn (Machine.fenced P (WF G)) P (lone (b.atR a1 (.code c::.inLoop c::k)) cs w1) b k cs e g h:=by
  intro m
  induction m with
  |zero=>omega
  |succ m R=>
   intro n env H fr1 ro1 σ1 a1 w1 hn E r1 ev1 t1 g1;obtain⟨e,g,h,F,d⟩:=body n env H E G fr1 ro1 σ1 a1 w1 r1 (hrd.to ev1 g1.sub) b (.inLoop c::k) cs hro hb hr;obtain⟨x,f,H',p,σ',l,u,j,L,T,J,V⟩:=F;have s:=ev1.trans (T.frMono g1.sub);have O:=g1.trans ev1.size V;have M:∀x,Q x f H'->ExR e x->QaP h0 t y U w N a.defers Q e g h:=λx q X=>⟨x,f,H',p,σ',l,X,q,L,s,J.trans t1,O⟩;cases e with
   |normal=>
    obtain rfl:x=.normal:=u;obtain⟨n',aa,j⟩:=j;obtain⟨W,Y,w2,z,i⟩:=R n' f H' l p σ' g h (by omega) j L s (J.trans t1) O;exact⟨W,Y,w2,z,.of_steps (StepsIn.trans d (.one (fenced_calm hb hr rfl) stepR_inLoop)) i⟩
   |exit id=>
    obtain rfl:x=.exit id:=u;exact⟨_,g,h,M _ j rfl,.pass rfl (by simp) d⟩
   |ret=>
    obtain rfl:x=.ret:=u;exact⟨_,g,h,M _ j rfl,.pass rfl (by simp) d⟩
   |_=>exact u.elim
 obtain⟨e,g,h,F,d⟩:=B (n+1) n env H t y U a w (Xn _) E r (Qm.refl _ _ _) rfl (Grow.refl _ _ _);exact⟨e,g,h,F,.of_steps (.one (fenced_calm hb hr rfl) stepR_loop) d⟩
section
variable {S E B:Type} {stepE:S->E->Option (Ctl S B)} {stepN:S->Option B} {G:B->Prop} (Es:S->Env) (Hp:S->List (A×A)->Qc) {enc:E->A×A}
def AtP(stepE:S->E->Option (Ctl S B))(stepN:S->Option B)(G:B->Prop)(enc:E->A×A)(h0 n:Nat)(env:Env)(H:Qc):Prop:=
 ∃s l,l.length=n/\Qkh stepE stepN G s l/\Le h0 env H (Es s) (Hp s (l.map enc))
theorem Qo2{s0:S}{l0:List E}(h:Qkh stepE stepN G s0 l0)(hI:Le h0 env H (Es s0) (Hp s0 (l0.map enc)))
  (body:∀s l,Qkh stepE stepN G s l->TC P h0 N c (Es s) (Hp s (l.map enc)) (Qcu (λenv H=>∃n',n'<l.length/\AtP Es Hp stepE stepN G enc h0 n' env H) Q)):TC P h0 N (.loop c) env H Q:=
 Qo3 (I:=AtP Es Hp stepE stepN G enc h0) (λn env H ⟨s,l,hn,ha,hle⟩=>by subst hn;exact Qf hle (body s l ha)) ⟨s0,l0,rfl,h,hI⟩
theorem QgX{α β:Type}{f:α->β}:∀{m g:List β},m.Perm g->∀{l:List α},g=l.map f->∃l':List α,l'.Perm l/\l'.map f=m:=by
 intro m g h
 induction h with
 |nil=>simp
 |cons x _ ih=>
  intro l d;cases l with
  |nil=>cases d
  |cons a l=>
   simp[Vd,List.cons.injEq]at d;obtain⟨l',e,i⟩:=ih d.2;exact⟨a::l',e.cons _,by grind⟩
 |swap x y m=>
  intro l d
  match l,d with
  |a::b::l,d=>
   exact⟨b::a::l,List.Perm.swap _ _ _,by grind⟩
 |trans _ _ ih1 ih2=>
  intro l d;obtain⟨p,e,i⟩:=ih2 d;obtain⟨j,n,k⟩:=ih1 i.symm;exact⟨j,n.trans e,k⟩
theorem QoX{all:Array Oper}{L:List Oper}{d i:Nat}{x:Operand}{r:Option (A×A)}{s:S}{l:List E}(hl:Qkh stepE stepN G s l)
  (w:∀b,stepN s=some b->G b->WO P h0 N all L (up env d (.tup [.bool false])) H Q)
  (F:∀e l' D,stepE s e=some D->(∀b,D=.done b->G b)->(l'.length<l.length/\ ∀s',D=.cont s'->Qkh stepE stepN G s' l')->
   WO P h0 N all L (up env d (.tup [.bool true,(enc e).1,(enc e).2])) (H.set i (.iter (some (enc e)) (l'.map enc))) Q)
  (y:o.op=.next x false:=by exact rfl)(hx:opA env x=.ptr i 0:=by exact rfl)(hH:H[i]?=some (.iter r (l.map enc)):=by exact rfl)
  (hg:Qw all o env true:=by exact rfl)(hd:o.dst=some d:=by exact rfl)(hN:Nat.blt d N=true:=by exact rfl)(hh:Nat.ble h0 H.length=true:=by exact rfl):WO P h0 N all (o::L) env H Q:=by
 refine Qk7 (XO hh) hg hd hN (OpE.next y hx hH) ?_;rintro v H' (⟨m,rfl,rfl⟩|⟨e,B,m,rfl,rfl⟩)
 .have:=List.map_eq_nil_iff.1 m;subst this;obtain⟨b,k,j⟩:=hl [] (.refl _);exact w b k j
 .obtain⟨z,k,j⟩:=QgX m rfl;cases z with
  |nil=>cases j
  |cons a l'=>
   obtain⟨rfl,rfl⟩:=j;have h:l'.length<l.length:=by rw[<- k.length_eq];simp
   have f:∀p,p.Perm l'->∃b,Qfj stepE stepN s (a::p)=some b/\G b:=λp q=>hl _ ((q.cons a).trans k);cases n:stepE s a with
   |none=>
    obtain⟨b,g,_⟩:=f l' (.refl _);simp[Qfj,n]at g
   |some D=>
    refine F a l' D n ?_ ⟨h,?_⟩
    .obtain⟨u,g,t⟩:=f l' (.refl _)
     grind[Qfj]
    .rintro s' rfl p q;obtain⟨u,g,t⟩:=f p q;simp[Qfj,n]at g;exact⟨u,g,t⟩
theorem QqJ{s:S}{l l':List E}{D:Ctl S B}(e:some (Ctl.cont s)=some D)(hc:l'.length<l.length/\ ∀s',D=.cont s'->Qkh stepE stepN G s' l')(h:Le h0 env H (Es s) (Hp s (l'.map enc))):
  Qcu (λenv H=>∃n',n'<l.length/\AtP Es Hp stepE stepN G enc h0 n' env H) Q .normal env H:=
 ⟨_,hc.1,s,l',rfl,(by grind),h⟩
theorem QqI{I:Env->Qc->Prop}{id:Nat}(h:Q (.exit id) env H):Qcu I Q (.exit id) env H:=h
end
def Qqm(h0:Nat)(G:B->Prop)(Eb:B->Env)(Hb:B->Qc)(Q:QR):QR
 |.normal,env,H=>∃b,G b/\Le h0 env H (Eb b) (Hb b)
 |.exit id,env,H=>Q (.exit id) env H
 |.ret,env,H=>Q .ret env H
theorem Qp2{S E:Type}{stepE:S->E->Option (Ctl S B)}{stepN:S->Option B}{G:B->Prop}{s0:S}{l0:List E}(hl:Qkh stepE stepN G s0 l0)(Eb:B->Env)(Hb:B->Qc)
  (h:TC P h0 N c env H (Qqm h0 G Eb Hb Q))(k:∀b env H,G b->Le h0 env H (Eb b) (Hb b)->Q .normal env H):TC P h0 N c env H Q:=
 h.mono λx env' H' q=>by
  cases x with
  |normal=>obtain⟨b,e,q⟩:=q;grind
  |exit id=>exact q
  |ret=>exact q
theorem cutGN{B:Type}{G:B->Prop}{Eb:B->Env}{Hb:B->Qc}{b:B}(hG:G b)(h:Le h0 env H (Eb b) (Hb b)):Qqm h0 G Eb Hb Q .normal env H:=⟨b,hG,h⟩
theorem Qhy{i:Nat}{e:Option (A×A)}{es:List (A×A)}{H':Qc}(hH:H[i]?=some (.iter e es))(f:H.set i (.iter none es)=H'):Le h0 env H env H':=by
 subst f;intro s n U N a w r;refine⟨n,U,⟨r.sim.weaken hH rfl ?_,r.env,r.size,r.defers⟩,λ_ q=>q,rfl⟩;intro y h;cases y with
 |none=>exact h
 |some b=>
  rcases h with⟨j,p,k⟩|⟨m,l,d,g,left,j,p,k,t,B,u,z,x⟩
  .exact .inl ⟨j,rfl,k⟩
  .exact .inr (by grind)
end
def mk{α:Type}(n:Int)(z:α):Option (List α):=bif decide (0<=n)&&decide (n<=4294967296)then some (List.replicate n.toNat z)else none
section
variable {P:Program} {o:Oper} {env:Env} {H:Qc} {ro:Nat->Prop} {U:Sig} {w:World}
theorem LR.replicate{az:List A}{l:List Value}(h:LR ro U w az l):∀n,LR ro U w (List.replicate n az).flatten (List.replicate n l).flatten
 |0=>rfl
 |n+1=>by
  rw[List.replicate_succ,List.replicate_succ];exact h.append (LR.replicate h n)
end
open Go.Sort Go.Proofs Go.Shelf
section
variable {α:Type}
def ins(lt:α->α->Bool)(x:α):List α->List α
 |[]=>[x]
 |y::l=>bif lt y x then y::ins lt x l else x::y::l
def YX(lt:α->α->Bool):List α->List α
 |[]=>[]
 |x::l=>ins lt x (YX lt l)
theorem QfE(lt:α->α->Bool)(x:α):∀l,(ins lt x l).Perm (x::l)
 |[]=>.refl _
 |y::l=>by
  unfold ins;cases lt y x
  .exact .refl _
  .exact((QfE lt x l).cons y).trans (List.Perm.swap _ _ _)
theorem Qz(lt:α->α->Bool):∀l,(YX lt l).Perm l
 |[]=>.refl _
 |x::l=>(QfE lt x _).trans ((Qz lt l).cons x)
structure QeB (lt:α->α->Bool) (l:List α):Prop where
 irrefl:∀x∈l,lt x x=false
 trans:∀x∈l,∀y∈l,∀z∈l,lt x y=true->lt y z=true->lt x z=true
 ntrans:∀x∈l,∀y∈l,∀z∈l,lt x y=false->lt y z=false->lt x z=false
theorem QeB.mono{lt:α->α->Bool}{l m:List α}(h:QeB lt l)(hm:∀x∈m,x∈l):QeB lt m:=
 ⟨λx hx=>h.irrefl x (hm x hx),λx hx y hy z hz=>h.trans x (hm x hx) y (hm y hy) z (hm z hz),λx hx y hy z hz=>h.ntrans x (hm x hx) y (hm y hy) z (hm z hz)⟩
theorem QeB.asymm{lt:α->α->Bool}{l:List α}(h:QeB lt l){x y:α}(a:x∈l)(e:y∈l)(d:lt x y=true):lt y x=false:=by
 cases q:lt y x
 .rfl
 .rw[<- h.irrefl x a,h.trans x a y e x a d q]
theorem QfD{lt:α->α->Bool}{x:α}:∀{l:List α},QeB lt (x::l)->l.Pairwise (λa b=>lt b a=false)->(ins lt x l).Pairwise (λa b=>lt b a=false)
 |[],_,_=>by simp[ins]
 |y::l,h,hp=>by
  obtain⟨h1,h2⟩:=Xc.1 hp;unfold ins;cases q:lt y x
  .refine Xc.2 ⟨λz hz=>?_,hp⟩;rcases X0.1 hz with rfl|hz
   .exact q
   .exact h.ntrans z (by simp[hz]) y (by simp) x (by simp) (h1 z hz) q
  .refine Xc.2 ⟨λz hz=>?_,QfD (h.mono (by grind)) h2⟩;rcases X0.1 ((QfE lt x l).mem_iff.1 hz)with rfl|hz
   .exact h.asymm (by simp) (by simp) q
   grind
theorem QX{lt:α->α->Bool}:∀{l:List α},QeB lt l->(YX lt l).Pairwise (λa b=>lt b a=false)
 |[],_=>by simp[YX]
 |x::l,h=>QfD (h.mono (by
   intro z hz;rcases X0.1 hz with rfl|hz
   .simp
   grind[Qz])) (QX (h.mono (by grind)))
theorem JD{lt:α->α->Bool}:∀{l m:List α},l.Perm m->(∀x∈l,∀y∈l,lt x y=false->lt y x=false->x=y)->l.Pairwise (λa b=>lt b a=false)->m.Pairwise (λa b=>lt b a=false)->l=m
 |[],m,h,_,_,_=>by simp_all
 |x::l,[],h,_,_,_=>by simp_all
 |x::l,y::m,h,ha,hl,hm=>by
  obtain⟨l1,l2⟩:=Xc.1 hl;obtain⟨m1,m2⟩:=Xc.1 hm;have hy:y∈x::l:=h.mem_iff.2 (by simp);have hxy:x=y:=by
   grind
  subst hxy;rw[JD (by simp_all) (by grind) l2 m2]
def ltO(cf:α->α->Option Int)(x y:α):Bool:=match cf x y with
 |some c=>decide (c<0)
 |none=>false
def QjS[DecidableEq α](cf:α->α->Option Int)(l:List α):Bool:=
 l.all λx=> !ltO cf x x&&l.all λy=>(cf x y).isSome&&(ltO cf x y||ltO cf y x||decide (x=y))&&l.all λz=>(!ltO cf x y|| !ltO cf y z||ltO cf x z)&&(ltO cf x y||ltO cf y z|| !ltO cf x z)
def QbT[DecidableEq α](cf:α->α->Option Int)(l:List α):Option (List α):=bif Nat.ble l.length QB&&QjS cf l then some (YX (ltO cf) l)else none
theorem Qc3[DecidableEq α]{a:α->α->Option Int}{l l':List α}(h:QbT a l=some l'):
  l.length<=QB/\(∀x∈l,∀y∈l,∃c,a x y=some c)/\QeB (ltO a) l/\(∀x∈l,∀y∈l,ltO a x y=false->ltO a y x=false->x=y)/\YX (ltO a) l=l':=by
 unfold QbT at h;cases i:Nat.ble l.length QB with
 |false=>grind
 |true=>
 rw[i,Vu]at h;cases q:QjS a l with
 |false=>grind
 |true=>
  rw[q]at h;refine⟨(by simp_all),?_⟩;unfold QjS at q;simp[Xs,XT,Bool.not_eq_true',Bool.or_eq_true]at q;refine⟨λx d y e=>Option.isSome_iff_exists.1 ((q x d).2 y e).1.1,⟨λx d=>(q x d).1,λx d y e z j f g=>?_,λx d y e z j f g=>?_⟩,λx d y e f g=>?_,XV h⟩
  .grind
  .grind
  grind
theorem QnM[DecidableEq α]{a:α->α->Option Int}{l:List α}(d:l.length<=QB)(c:α->α->Int)(j:∀x∈l,∀y∈l,a x y=some (c x y))(hi:∀x∈l,¬c x x<0)
  (i:∀x∈l,∀y∈l,∀z∈l,c x y<0->c y z<0->c x z<0)(f:∀x∈l,∀y∈l,∀z∈l,¬c x y<0->¬c y z<0->¬c x z<0)(e:∀x∈l,∀y∈l,¬c x y<0->¬c y x<0->x=y):
  QbT a l=some (YX (ltO a) l):=by
 have h:∀x∈l,∀y∈l,ltO a x y=decide (c x y<0):=λx g y k=>by unfold ltO;grind
 have q:QjS a l=true:=by
  unfold QjS
  grind
 simp_all[QbT,XP]
theorem Qcf[DecidableEq α]{a:α->α->Option Int}{l l':List α}(h:QbT a l=some l'):l.length=l'.length:=by
 rw[<- (Qc3 h).2.2.2.2];exact(Qz _ _).length_eq.symm
theorem YI{l l':List α}{i:Int}{x:α}(h:QcM l i x=some l'):l.length=l'.length:=by
 grind[QcM]
theorem QU{h0:Nat}{env:Env}{H:Qc}{s:Nat}{a a':A}(h:lk env s=a)(e:a=a'):Le h0 env H (up env s a') H:=by
 intro g f U N act w r;refine⟨f,U,⟨r.sim,λd=>?_,r.size,r.defers⟩,λ_ q=>q,rfl⟩;subst e;have:lk (up env s a) d=lk env d:=by
  simp[lk];cases q:Nat.beq d s with
  |true=>simp_all
  |false=>rfl
 rw[this];exact r.env d
end
section
variable {fr ro:Nat->Prop} {U:Sig} {H:Qc} {w w':World}
theorem Qer(hh:∀b,b<w.heap.size->w'.heap[b]?=w.heap[b]?)(hro:∀b,ro b->b<w.heap.size)(U:Sig):Ext ro U w ro U w':=
 ⟨λ_ q=>q,(by grind),λb x hx=>by grind[World.shape?],λ_ _ q=>q⟩
theorem Sim.grown(s:Sim fr ro U H w)(a:∀b,b<w.heap.size->w'.heap[b]?=w.heap[b]?)(l:w.heap.size<=w'.heap.size):Sim fr ro U H w':=by
 refine⟨s.len,s.roOk.to (λ_ q=>q) (λb q=>a b (s.roLt b q)) (λb h=>X9 (s.roLt b h) l),λb h=>X9 (s.frLt b h) l,s.roFr,λi b x e f n=>?_,s.inj,λi y x e f=>?_,s.hidTo (· = ·) Q6 l (by simp) (by simp) λj d y m g r=>.inl ⟨j,y,rfl,m,g,id,λc q=>s.hidKeep m g (λz=>a d (s.own j d y m g z).1) (λb q=>a b (s.roLt b q)) q⟩⟩
 .obtain⟨p,q⟩:=s.own i b x e f n
  grind
 .refine(s.blk i y x e f).keep (Qer a s.roLt U) ?_ ?_
  .rintro b rfl k;exact a b (s.own i b x e f k).1
  .rintro b c rfl k;exact a c (s.hid i b x c e f k).lt
theorem Qm.grown(hh:∀b,b<w.heap.size->w'.heap[b]?=w.heap[b]?)(hs:w.heap.size<=w'.heap.size)(s:Sim fr ro U H w)(ho:w'.os=w.os)(ht:w'.tape=w.tape)(hu:w'.output=w.output)(hd:w.drawn<=w'.drawn):Qm fr ro w ro w':=
 ⟨λ_ q=>q,λb h=>hh b (s.roLt b h),λb h=>hh b (s.frLt b h),hs,(Qer hh s.roLt U).shape,ho,ht,hu,hd⟩
theorem QlS(j:∀b,b<w.heap.size->w'.heap[b]?=w.heap[b]?)(h:w.heap.size<=w'.heap.size)(d:w'.os=w.os)(f:w'.tape=w.tape)(g:w'.output=w.output)(i:w.drawn<=w'.drawn):
  ∃q os',w'=grow (w.drewN q) os':=by
 refine⟨w'.drawn-w.drawn,w'.heap.extract w.heap.size w'.heap.size,?_⟩;obtain⟨a,p,e,k,l⟩:=w';simp only at j h d f g i;subst d f g;unfold grow World.drewN;have m:a=w.heap++a.extract w.heap.size a.size:=by
  grind
 have n:e=w.drawn+(e-w.drawn):=by omega
 grind
end
end Go.Sw
