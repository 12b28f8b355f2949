/- The rules by which the code is walked, with what they rest on (part 1). -/
import Derived.Calls
import Derived.Tactics
import Derived.Below
import Derived.TacticsIn
import Derived.OrdersIn
import Derived.RangeFuncLeaves
import Derived.RangeFuncRecord
import Derived.Laws.Strings
import Derived.Laws.World
import Derived.Orders
import Derived.Maps.Keyed
import Derived.Laws.StructEq
import Derived.Maps.RangeRun
import Derived.Shelf.SlSortCmp.NoneTotal
set_option linter.unusedVariables false
set_option linter.unusedSimpArgs false
set_option linter.unusedSectionVars false
namespace Go.Sw
abbrev Xa:= @List.getElem?_set_self
abbrev Xb:= @List.getElem?_set
abbrev Xc:= @List.pairwise_cons
abbrev Xd:= @List.mem_filter
abbrev Xe:= @List.mem_map
abbrev Xf:= @List.map_append
abbrev Xg:= @Bool.not_true
abbrev Xh:= @Bool.not_false
abbrev Xi:= @Bool.false_eq_true
abbrev Xj:= @Option.map_some
abbrev Xk:= @Option.map_none
abbrev Xl:= @Nat.succ_mul
abbrev Xm:= @Nat.lt_succ_self
abbrev Xn:= @List.getElem?_map
abbrev Xo:= @List.drop_eq_getElem_cons
abbrev Xp:= @List.drop_eq_nil_iff
abbrev Xq:= @List.drop_length
abbrev Xr:= @List.flatten_append
abbrev Xs:= @List.all_eq_true
abbrev Xt:= @List.any_eq_true
abbrev Xu:= @Nat.zero_add
abbrev Xv:= @Nat.add_zero
abbrev Xw:= @List.length_take
abbrev Xx:= @List.take_append_drop
abbrev Xy:= @Nat.add_mul
abbrev Xz:= @Nat.min_eq_left
abbrev XA:= @Nat.mul_le_mul_right
abbrev XB:= @List.foldl_cons
abbrev XC:= @List.getElem?_cons_zero
abbrev XD:= @List.getElem?_cons_succ
abbrev XE:= @List.getElem?_toArray
abbrev XF:= @Sem.run_ite
abbrev XG:= @List.map_toArray
abbrev XH:= @Option.bind_some
abbrev XI:= @List.getElem?_eq_getElem
abbrev XJ:= @List.getElem?_eq_some_iff
abbrev XK:= @List.getElem?_append_left
abbrev XL:= @List.getElem?_append_right
abbrev XM:= @List.getElem?_eq_none
abbrev XN:= @List.getElem?_set_ne
abbrev XO:= @Nat.eq_of_beq_eq_true
abbrev XP:= @Nat.le_of_ble_eq_true
abbrev XQ:= @Nat.ble_eq_true_of_le
abbrev XR:= @Nat.le_refl
abbrev XS:= @Nat.zero_le
abbrev XT:= @Nat.le_trans
abbrev XU:= @Bool.and_eq_true
abbrev XV:= @Bool.eq_iff_iff
abbrev XW:= @Option.some.inj
abbrev XX:= @List.length_cons
abbrev XY:= @List.length_map
abbrev XZ:= @List.length_append
abbrev X0:= @List.length_set
abbrev X2:= @List.mem_cons_of_mem
abbrev X3:= @List.mem_cons
abbrev X4:= @List.take_append_of_le_length
abbrev X5:= @List.drop_append_of_le_length
abbrev X6:= @List.take_length
abbrev X7:= @List.drop_length_add_append
abbrev X8:= @List.take_length_add_append
abbrev X9:= @Array.getElem?_eq_some_iff
abbrev Va:= @Array.getElem?_setIfInBounds
abbrev Vb:= @Nat.lt_of_lt_of_le
abbrev Vc:= @List.append_nil
abbrev Vd:= @List.nil_append
abbrev Ve:= @List.append_assoc
abbrev Vf:= @List.map_cons
abbrev Vg:= @List.map_nil
abbrev Vh:= @List.flatten_cons
abbrev Vi:= @Sem.run_bind
abbrev Vj:= @Sem.run_pure
abbrev Vk:= @cond_true
abbrev Vl:= @cond_false
abbrev Vm:= @decide_eq_true_eq
abbrev Vn:= @if_neg
abbrev Vp:= @if_pos
abbrev Vq:= @decide_eq_true
abbrev Vr:= @of_decide_eq_true
abbrev Vs:= @of_decide_eq_false
abbrev Vt:= @decide_eq_false
abbrev Vu:= @beq_iff_eq
abbrev Vv:= @beq_eq_false_iff_ne
abbrev Vw:= @Bool.true_and
abbrev Vx:= @List.mem_singleton
abbrev Vy:= @Nat.lt_or_ge
abbrev Vz:= @List.mem_append
abbrev VA:= @List.pairwise_iff_getElem
abbrev VB:= @Nat.beq_refl
abbrev VC:= @List.mem_map_of_mem
abbrev VD:= @List.mem_of_getElem?
abbrev VE:= @List.take_of_length_le
abbrev VF:= @List.length_eq_zero_iff
abbrev VG:= @List.cons_append
abbrev VH:= @List.getD_eq_getElem?_getD
abbrev VI:= @Bool.eq_false_iff
def Qle:Nat:=11
def nG:Nat:=12
def Qjr:List (List Int):=[[1,9999],[-1099511627776,1099511627776],[0,1048576],[0,39],[0,255],[0,1099511627776],[0,255],[1,1048576],[0,1],[0,31],[1,1048576]]
theorem gOk:((List.range nG).all λb=>Nat.beq b Qle|| !(Qjr.getD b []).isEmpty)=true:=by decide
theorem gLt:Nat.ble Qjr.length nG=true:=by decide
theorem Qpe:Nat.blt Qle nG=true:=by decide
structure GP (w:World):Prop where
 max:∃m:Int,w.cell? ⟨Qle,0,none⟩=some (.int .i64 m)
 tab:∀(g:Nat) (zs:List Int),Qjr[g]?=some zs->∀(i:Nat) (z:Int),zs[i]?=some z->w.cell? ⟨g,i,none⟩=some (.int .i64 z)
theorem GP.keep{w w':World}(h:∀b,b<nG->w'.heap[b]?=w.heap[b]?)(g:GP w):GP w':=by
 obtain⟨m,e⟩:=g.max;refine⟨⟨m,?_⟩,λa f d i z j=>?_⟩
 .rw[<- e];unfold World.cell?;rw[h Qle (by simpa using Qpe)]
 .rw[<- g.tab a f d i z j];unfold World.cell?;have l:=(XJ.1 d).1;have k:Qjr.length<=nG:=by simpa using gLt
  rw[h a (by omega)]
theorem QgJ{w:World}{b i:Nat}{v:Value}(h:w.cell? ⟨b,i,none⟩=some v):b<w.heap.size:=by
 cases e:w.heap[b]? with
 |none=>simp[World.cell?,e]at h
 |some o=>exact(X9.1 e).1
theorem GP.size{w:World}(g:GP w)(b:Nat)(f:b<nG):b<w.heap.size:=by
 have h:=Xs.1 gOk b (List.mem_range.2 f);rw[Bool.or_eq_true]at h;rcases h with h|h
 .obtain⟨m,d⟩:=g.max;rw[XO h];exact QgJ d
 .cases e:Qjr[b]? with
  |none=>rw[VH,e]at h;simp at h
  |some a=>
   cases a with
   |nil=>rw[VH,e]at h;simp at h
   |cons z a=>exact QgJ (g.tab b _ e 0 z rfl)
inductive A where
 |any
 |bool (b:Bool)
 |int (k:IntKind) (n:Int)
 |str (s:List UInt8)
 |nilp
 |ptr (i off:Nat)
 |rp (cs:List A)
 |nils
 |rsl (k:Nat) (es:List (List A))
 |osl (i o n k:Nat)
 |agg (cs:List A)
 |fn (f:Fn) (first cap:List A)
 |nilf
 |iface (t:Nat) (v:A)
 |nilif
 |map (i:Nat)
 |nilm
 |tup (vs:List A)
abbrev Sig:=List (Option Nat)
def Qx:Value->Prop
 |.agg _|.tuple _=>False
 |_=>True
mutual
def VR(ro:Nat->Prop)(σ:Sig)(w:World):A->Value->Prop
 |.any,_=>True
 |.bool b,v=>v=.bool b
 |.int k n,v=>v=.int k n
 |.str s,v=>v=.string ⟨s.toArray⟩
 |.nilp,v=>v=.pointer none
 |.ptr i off,v=>∃b,σ[i]?=some (some b)/\v=.pointer (some ⟨b,off,none⟩)
 |.rp cs,v=>∃b off,v=.pointer (some ⟨b,off,none⟩)/\ro b/\CR ro [] w b cs off
 |.nils,v=>v=.slice none 0 0
 |.rsl k es,v=>∃a cap,v=.slice a es.length cap/\es.length<=cap/\
   (es=[]\/ ∃b off,a=some ⟨b,off,none⟩/\ro b/\RR ro [] w b k es off)
 |.osl i o n k,v=>(n=0/\v=.slice none 0 0)\/
   ∃b p cap t m,σ[i]?=some (some b)/\v=.slice (some ⟨b,p,none⟩) n cap/\(0<cap->p=o*k)/\(n<=cap/\cap<=9223372036854775807)/\w.shape? b=some (t,m)/\(o+cap)*k<=m
 |.agg cs,v=>∃l:List Value,v=.agg l.toArray/\LR ro σ w cs l
 |.fn f first cap,v=>∃l l':List Value,v=.func f l.toArray l'.toArray/\LR ro σ w first l/\LR ro σ w cap l'
 |.nilf,v=>v=.nilFunc
 |.iface t a,v=>∃x,v=.iface t x/\VR ro σ w a x
 |.nilif,v=>v=.nilIface
 |.map i,v=>∃b,σ[i]?=some (some b)/\v=.map (some b)
 |.nilm,v=>v=.map none
 |.tup vs,v=>∃l:List Value,v=.tuple l.toArray/\LR ro σ w vs l
def CR(ro:Nat->Prop)(σ:Sig)(w:World)(b:Nat):List A->Nat->Prop
 |[],_=>True
 |a::r,off=>(∃v,w.cell? ⟨b,off,none⟩=some v/\Qx v/\VR ro σ w a v)/\CR ro σ w b r (off+1)
def RR(ro:Nat->Prop)(σ:Sig)(w:World)(b k:Nat):List (List A)->Nat->Prop
 |[],_=>True
 |cs::r,off=>cs.length=k/\CR ro σ w b cs off/\RR ro σ w b k r (off+k)
def LR(ro:Nat->Prop)(σ:Sig)(w:World):List A->List Value->Prop
 |[],l=>l=[]
 |a::r,l=>∃v l',l=v::l'/\VR ro σ w a v/\LR ro σ w r l'
end
structure Ext (ro:Nat->Prop) (σ:Sig) (w:World) (ro':Nat->Prop) (σ':Sig) (w':World):Prop where
 sub:∀b,ro b->ro' b
 keep:∀b,ro b->w'.heap[b]?=w.heap[b]?
 shape:∀b x,w.shape? b=some x->w'.shape? b=some x
 sig:∀(i b:Nat),σ[i]?=some (some b)->σ'[i]?=some (some b)
theorem QgK{w w':World}{b off:Nat}(h:w'.heap[b]?=w.heap[b]?):w'.cell? ⟨b,off,none⟩=w.cell? ⟨b,off,none⟩:=by
 simp only[World.cell?,h]
theorem Ext.nil{ro ro':Nat->Prop}{σ σ':Sig}{w w':World}(h:Ext ro σ w ro' σ' w'):Ext ro [] w ro' [] w':=
 ⟨h.sub,h.keep,h.shape,λ_ _ q=>q⟩
mutual
theorem VR.mono{ro ro':Nat->Prop}{w w':World}:∀{a:A} {σ σ':Sig} {v:Value},Ext ro σ w ro' σ' w'->VR ro σ w a v->VR ro' σ' w' a v
 |.any,_,_,_,h,_=>trivial
 |.bool b,_,_,v,h,q=>q
 |.int k n,_,_,v,h,q=>q
 |.str s,_,_,v,h,q=>q
 |.nilp,_,_,v,h,q=>q
 |.ptr i off,_,_,v,h,q=>by
  simp only[VR]at q⊢;obtain⟨b,h1,h2⟩:=q;exact⟨b,h.sig _ _ h1,h2⟩
 |.rp cs,_,_,v,h,q=>by
  simp only[VR]at q⊢;obtain⟨b,off,h1,h2,h3⟩:=q;exact⟨b,off,h1,h.sub _ h2,CR.mono h.nil h2 h3⟩
 |.nils,_,_,v,h,q=>q
 |.rsl k es,_,_,v,h,q=>by
  simp only[VR]at q⊢;obtain⟨a,cap,h1,h2,h3⟩:=q;refine⟨a,cap,h1,h2,?_⟩;rcases h3 with h3|⟨b,off,h4,h5,h6⟩
  .exact .inl h3
  .exact .inr ⟨b,off,h4,h.sub _ h5,RR.mono h.nil h5 h6⟩
 |.osl i o n k,_,_,v,h,q=>by
  simp only[VR]at q⊢;rcases q with q|⟨b,p,cap,t,m,h1,h2,h6,h3,h4,h5⟩
  .exact .inl q
  .exact .inr ⟨b,p,cap,t,m,h.sig _ _ h1,h2,h6,h3,h.shape _ _ h4,h5⟩
 |.agg cs,_,_,v,h,q=>by
  simp only[VR]at q⊢;obtain⟨l,h1,h2⟩:=q;exact⟨l,h1,LR.mono h h2⟩
 |.fn f a c,_,_,v,h,q=>by
  simp only[VR]at q⊢;obtain⟨l,l',h1,h2,h3⟩:=q;exact⟨l,l',h1,LR.mono h h2,LR.mono h h3⟩
 |.nilf,_,_,v,h,q=>q
 |.iface t a,_,_,v,h,q=>by
  simp only[VR]at q⊢;obtain⟨x,h1,h2⟩:=q;exact⟨x,h1,VR.mono h h2⟩
 |.nilif,_,_,v,h,q=>q
 |.map i,_,_,v,h,q=>by
  simp only[VR]at q⊢;obtain⟨b,h1,h2⟩:=q;exact⟨b,h.sig _ _ h1,h2⟩
 |.nilm,_,_,v,h,q=>q
 |.tup vs,_,_,v,h,q=>by
  simp only[VR]at q⊢;obtain⟨l,h1,h2⟩:=q;exact⟨l,h1,LR.mono h h2⟩
theorem CR.mono{ro ro':Nat->Prop}{w w':World}:∀{cs:List A} {σ σ':Sig} {b off:Nat},Ext ro σ w ro' σ' w'->ro b->CR ro σ w b cs off->CR ro' σ' w' b cs off
 |[],_,_,_,_,_,_,_=>trivial
 |a::r,_,_,b,off,h,hb,q=>by
  simp only[CR]at q⊢;obtain⟨⟨v,h1,hp,h2⟩,h3⟩:=q;exact⟨⟨v,by rw[QgK (h.keep _ hb)];exact h1,hp,VR.mono h h2⟩,CR.mono h hb h3⟩
theorem RR.mono{ro ro':Nat->Prop}{w w':World}:∀{es:List (List A)} {σ σ':Sig} {b k off:Nat},Ext ro σ w ro' σ' w'->ro b->RR ro σ w b k es off->RR ro' σ' w' b k es off
 |[],_,_,_,_,_,_,_,_=>trivial
 |cs::r,_,_,b,k,off,h,hb,q=>by
  simp only[RR]at q⊢;obtain⟨h1,h2,h3⟩:=q;exact⟨h1,CR.mono h hb h2,RR.mono h hb h3⟩
theorem LR.mono{ro ro':Nat->Prop}{w w':World}:∀{az:List A} {σ σ':Sig} {l:List Value},Ext ro σ w ro' σ' w'->LR ro σ w az l->LR ro' σ' w' az l
 |[],_,_,_,h,q=>q
 |a::r,_,_,l,h,q=>by
  simp only[LR]at q⊢;obtain⟨v,l',h1,h2,h3⟩:=q;exact⟨v,l',h1,VR.mono h h2,LR.mono h h3⟩
end
structure Ent where
 fl:Bool
 off:Nat
 lo:Int
 hi:Int
def Qei(i n c:Nat):List (List A):=(List.range c).map λj=>[.osl i (j*n) n 1]
def eC(b1 b2:Nat)(e:Ent):List A:=[.ptr (bif e.fl then b2 else b1) e.off,.int .i64 e.lo,.int .i64 e.hi]
inductive Blk where
 |dead
 |cells (t:Nat) (cs:List A)
 |row (t k:Nat) (es:List (List A))
 |rowr (t k:Nat) (es:List (List A))
 |map (es:List (A×A))
 |iter (cur:Option (A×A)) (es:List (A×A))
 |fmap (es:List (A×A))
 |ents (t b1 b2:Nat) (es:List Ent)
 |wins (t b n c:Nat)
 |mapO (fz:Bool) (t k:Nat) (es:List (A×Option (List (List A))))
 |mapP (es:List (A×A))
 |frow (t k:Nat) (es:List (List A))
def Blk.live:Blk->Bool
 |.dead=>false
 |.fmap _=>false
 |.frow _ _ _=>false
 |.mapO fz _ _ _=> !fz
 |_=>true
def Blk.held:Blk->Bool
 |.mapO fz _ _ _=>fz
 |_=>false
def Blk.holds(x:Blk):Bool:=x.live||x.held
theorem Qap{x:Blk}(h:x.live=true):x≠ .dead:=by rintro rfl;cases h
theorem QeM{x:Blk}(h:x.holds=true):x≠ .dead:=by rintro rfl;cases h
theorem QbB{x:Blk}(h:x.live=true):x.holds=true:=by unfold Blk.holds;rw[h];rfl
abbrev Qd:=List Blk
def ER(ro:Nat->Prop)(σ:Sig)(w:World):List (A×A)->List MapEntry->Prop
 |[],l=>l=[]
 |x::r,l=>∃e l',l=e::l'/\VR ro σ w x.1 e.key/\VR ro σ w x.2 e.val/\ER ro σ w r l'
def ItR(ro:Nat->Prop)(w:World)(b:Nat)(cur:Option (A×A))(es:List (A×A)):Prop:=
 (es=[]/\cur=none/\w.heap[b]?=some (.mapIter none 0 #[] 0))\/
 ∃m l clock seen left,w.heap[b]?=some (.mapIter (some m) clock seen clock)/\ro m/\w.heap[m]?=some (.map l clock)/\(∀e∈l.toList,e.born<clock)/\(l.toList.map (·.born)).Nodup/\
  (left:List MapEntry).Perm (l.toList.filter λe=> !seen.contains e.born)/\ER ro [] w es left/\
  (∀x,cur=some x->∃e∈l.toList,seen.back? =some e.born/\VR ro [] w x.1 e.key/\VR ro [] w x.2 e.val)
def RL(ro:Nat->Prop)(σ:Sig)(w:World)(k:Nat):List (List A)->List Value->Prop
 |[],_=>True
 |c::es,l=>∃l1 l2,l=l1++l2/\c.length=k/\(LR ro σ w c l1/\ ∀v∈l1,Qx v)/\RL ro σ w k es l2
theorem RL.mono{ro ro':Nat->Prop}{σ σ':Sig}{w w':World}(h:Ext ro σ w ro' σ' w'){k:Nat}:∀{es:List (List A)} {l:List Value},RL ro σ w k es l->RL ro' σ' w' k es l
 |[],_,_=>trivial
 |c::es,l,⟨l1,l2,h1,h2,h3,h4⟩=>⟨l1,l2,h1,h2,⟨h3.1.mono h,h3.2⟩,RL.mono h h4⟩
def SO(ro:Nat->Prop)(w:World)(t k:Nat)(rows:List (List A))(v:Value):Prop:=
 (rows=[]/\v=.slice none 0 0)\/ ∃(c p cap:Nat) (vs:List Value),v=.slice (some ⟨c,p,none⟩) rows.length cap/\(rows.length<=cap/\cap<=9223372036854775807)/\w.heap[c]?=some (.cells vs.toArray t (0,0))/\cap*k<=vs.length/\RL ro [] w k rows vs/\(0<cap->p=0)
def MO(ro:Nat->Prop)(w:World)(t k:Nat):List (A×Option (List (List A)))->List MapEntry->Prop
 |[],l=>l=[]
 |x::r,l=>∃e l',l=e::l'/\VR ro [] w x.1 e.key/\(∀rows,x.2=some rows->SO ro w t k rows e.val)/\MO ro w t k r l'
def Qen:List (A×Option (List (List A)))->List MapEntry->Nat->Prop
 |x::r,e::l,c=>(x.2.isSome=true/\ ∃p n cap,e.val=.slice (some ⟨c,p,none⟩) n cap)\/Qen r l c
 |_,_,_=>False
def QjW:List (A×Option (List (List A)))->List MapEntry->Prop
 |x::r,e::l=>(∀c,x.2.isSome=true->(∃p n cap,e.val=.slice (some ⟨c,p,none⟩) n cap)->¬Qen r l c)/\QjW r l
 |_,_=>True
def Hid(w:World):Blk->Nat->Nat->Prop
 |.mapO _ _ _ es,b,c=>∃l clock,w.heap[b]?=some (.map l clock)/\Qen es l.toList c
 |_,_,_=>False
theorem Hid.keep{w w':World}{x:Blk}{b c:Nat}(h:w'.heap[b]?=w.heap[b]?)(q:Hid w' x b c):Hid w x b c:=by
 cases x with
 |mapO fz t k e=>obtain⟨l,d,f,a⟩:=q;exact⟨l,d,by grind,a⟩
 |_=>exact q.elim
theorem Hid.holds{w:World}{x:Blk}{b c:Nat}(q:Hid w x b c):x.holds=true:=by
 cases x with
 |mapO fz t k a=>cases fz<;>rfl
 |_=>exact q.elim
theorem MO.mono{ro ro':Nat->Prop}{σ σ':Sig}{w w':World}(h:Ext ro σ w ro' σ' w'){t k:Nat}:∀{es:List (A×Option (List (List A)))} {l:List MapEntry},(∀c,Qen es l c->w'.heap[c]?=w.heap[c]?)->MO ro w t k es l->MO ro' w' t k es l
 |[],_,_,q=>q
 |x::r,_,hh,⟨e,l',h1,h2,h3,h4⟩=>by
  subst h1;refine⟨e,l',rfl,h2.mono h.nil,λrows hr=>?_,MO.mono h (λc hc=>hh c (.inr hc)) h4⟩;rcases h3 rows hr with q|⟨c,p,cap,vs,q1,q2,q3,q4,q5,q6⟩
  .exact .inl q
  .exact .inr ⟨c,p,cap,vs,q1,q2,by rw[hh c (.inl (by grind))];exact q3,q4,q5.mono h.nil,q6⟩
theorem MO.cells{ro:Nat->Prop}{w:World}{t k:Nat}:∀{es:List (A×Option (List (List A)))} {l:List MapEntry} {c:Nat},MO ro w t k es l->Qen es l c->∃vs:Array Value,w.heap[c]?=some (.cells vs t (0,0))
 |[],l,c,h,q=>by cases l<;>exact q.elim
 |x::r,_,c,⟨e,l',h1,h2,h3,h4⟩,q=>by
  subst h1;rcases q with⟨q1,p,n,cap,q2⟩|q
  .obtain⟨rows,hr⟩:=Option.isSome_iff_exists.1 q1;rcases h3 rows hr with⟨_,z⟩|⟨c',p',cap',vs,z1,z2,z3,z4,z5,z6⟩
   .grind
   grind
  .exact MO.cells h4 q
def Born(l:Array MapEntry)(clock:Nat):Prop:=clock=l.size/\ ∀(i:Nat) (e:MapEntry),l.toList[i]?=some e->e.born=i
theorem Born.modify{l:Array MapEntry}{a j:Nat}{f:MapEntry->MapEntry}(h:Born l a)(k:∀e,(f e).born=e.born):Born (l.modify j f) a:=by
 obtain⟨d,g⟩:=h;refine⟨by simp[d],λi m q=>?_⟩
 grind
def BR(ro:Nat->Prop)(σ:Sig)(w:World):Blk->Option Nat->Prop
 |.dead,_=>True
 |.cells t cs,some b=>∃l:List Value,w.heap[b]?=some (.cells l.toArray t (0,0))/\LR ro σ w cs l/\ ∀v∈l,Qx v
 |.row t k es,some b=>∃l:List Value,w.heap[b]?=some (.cells l.toArray t (0,0))/\RL ro [] w k es l
 |.rowr t k es,some b=>∃l:List Value,w.heap[b]?=some (.cells l.toArray t (0,0))/\RL ro σ w k es l
 |.row _ _ es,none=>es=[]
 |.ents t b1 b2 es,some b=>∃l:List Value,w.heap[b]?=some (.cells l.toArray t (0,0))/\RL ro σ w 3 (es.map (eC b1 b2)) l
 |.ents _ _ _ es,none=>es=[]
 |.wins t b n c,some d=>∃l:List Value,w.heap[d]?=some (.cells l.toArray t (0,0))/\RL ro σ w 1 (Qei b n c) l
 |.wins _ _ _ c,none=>c=0
 |.map es,some b=>∃l clock,w.heap[b]?=some (.map l clock)/\ER ro [] w es l.toList/\
   (∀e∈l.toList,e.born<clock)/\(l.toList.map (·.born)).Nodup/\(l.toList.map (·.key)).Nodup
 |.mapP es,some b=>∃l clock,w.heap[b]?=some (.map l clock)/\ER ro σ w es l.toList/\
   (∀e∈l.toList,e.born<clock)/\(l.toList.map (·.born)).Nodup/\(l.toList.map (·.key)).Nodup
 |.frow t k es,some b=>ro b/\ ∃l:List Value,w.heap[b]?=some (.cells l.toArray t (0,0))/\RL ro [] w k es l/\l.length=es.length*k
 |.iter cur es,some b=>ItR ro w b cur es
 |.mapO fz t k es,some b=>(fz=true->ro b)/\ ∃l clock,w.heap[b]?=some (.map l clock)/\MO ro w t k es l.toList/\QjW es l.toList/\
   (∀e∈l.toList,e.born<clock)/\(l.toList.map (·.born)).Nodup/\(l.toList.map (·.key)).Nodup/\Born l clock
 |.fmap es,some b=>ro b/\ ∃l clock,w.heap[b]?=some (.map l clock)/\ER ro [] w es l.toList/\
   (∀e∈l.toList,e.born<clock)/\(l.toList.map (·.born)).Nodup/\(l.toList.map (·.key)).Nodup
 |_,none=>False
structure RoOk (ro:Nat->Prop) (w:World):Prop where
 lt:∀b,ro b->b<w.heap.size
 g:∀b,b<nG->ro b
 gp:GP w
theorem RoOk.to{ro ro':Nat->Prop}{w w':World}(h:RoOk ro w)(sub:∀b,ro b->ro' b)(keep:∀b,ro b->w'.heap[b]?=w.heap[b]?)(lt:∀b,ro' b->b<w'.heap.size):RoOk ro' w':=
 ⟨lt,λb hb=>sub b (h.g b hb),h.gp.keep λb hb=>keep b (h.g b hb)⟩
structure QoI (fr ro:Nat->Prop) (σ:Sig) (H:Qd) (w:World) (i0 b0 c:Nat):Prop where
 lt:c<w.heap.size
 ro:¬ro c
 fr:¬fr c
 ne:∀(j b:Nat) (y:Blk),σ[j]?=some (some b)->H[j]?=some y->y.live=true->c≠b
 one:∀(j b:Nat) (y:Blk),σ[j]?=some (some b)->H[j]?=some y->Hid w y b c->b=b0/\j=i0
structure Sim (fr ro:Nat->Prop) (σ:Sig) (H:Qd) (w:World):Prop where
 len:σ.length=H.length
 roOk:RoOk ro w
 frLt:∀b,fr b->b<w.heap.size
 roFr:∀b,ro b->¬fr b
 own:∀(i b:Nat) (blk:Blk),σ[i]?=some (some b)->H[i]?=some blk->blk.live=true->b<w.heap.size/\ ¬ro b/\ ¬fr b
 inj:∀(i j b:Nat) (x y:Blk),σ[i]?=some (some b)->σ[j]?=some (some b)->H[i]?=some x->H[j]?=some y->x.live=true->y.live=true->i=j
 blk:∀(i:Nat) (s:Option Nat) (x:Blk),σ[i]?=some s->H[i]?=some x->BR ro σ w x s
 hid:∀(i b:Nat) (x:Blk) (c:Nat),σ[i]?=some (some b)->H[i]?=some x->Hid w x b c->QoI fr ro σ H w i b c
theorem Sim.roHeld{fr ro:Nat->Prop}{σ:Sig}{H:Qd}{w:World}(s:Sim fr ro σ H w){i b:Nat}{x:Blk}(d:σ[i]?=some (some b))(e:H[i]?=some x)(a:x.held=true):ro b:=by
 have h:=s.blk i _ x d e;cases x with
 |mapO fz t k f=>exact h.1 a
 |_=>cases a
theorem Sim.hidKeep{fr ro:Nat->Prop}{σ:Sig}{H:Qd}{w w':World}(s:Sim fr ro σ H w){i b c:Nat}{x:Blk}(d:σ[i]?=some (some b))(f:H[i]?=some x)
  (e:x.live=true->w'.heap[b]?=w.heap[b]?)(g:∀b,ro b->w'.heap[b]?=w.heap[b]?)(q:Hid w' x b c):Hid w x b c:=by
 refine q.keep ?_;have h:=q.holds;cases a:x.live with
 |true=>exact e a
 |false=>unfold Blk.holds at h;rw[a]at h;exact g b (s.roHeld d f h)
theorem Sim.hidTo{fr n ro ro':Nat->Prop}{σ σ':Sig}{H H':Qd}{w w':World}(s:Sim fr ro σ H w)(R:Nat->Nat->Prop)(X:∀j j' a,R j a->R j' a->j=j')(p:w.heap.size<=w'.heap.size)
  (Q:∀(i b:Nat) (x:Blk) (c:Nat),σ[i]?=some (some b)->H[i]?=some x->Hid w x b c->ro' c->ro c)
  (N:∀(i b:Nat) (x:Blk) (c:Nat),σ[i]?=some (some b)->H[i]?=some x->Hid w x b c->n c->fr c)
  (h:∀(j d:Nat) (y:Blk),σ'[j]?=some (some d)->H'[j]?=some y->y.holds=true->
   (∃(a:Nat) (m:Blk),R j a/\σ[a]?=some (some d)/\H[a]?=some m/\(y.live=true->m.live=true)/\ ∀c,Hid w' y d c->Hid w m d c)\/(w.heap.size<=d/\ ∀c,Hid w' y d c->False)):
  ∀(i b:Nat) (x:Blk) (c:Nat),σ'[i]?=some (some b)->H'[i]?=some x->Hid w' x b c->QoI n ro' σ' H' w' i b c:=by
 intro i b x c O J E;rcases h i b x O J E.holds with⟨a,m,r0,P,G,W,M⟩|⟨_,g⟩
 .have k:=s.hid a b m c P G (M c E);refine⟨Vb k.lt p,λq=>k.ro (by grind),λq=>k.fr (by grind),λj d y B t l=>?_,λj d y B t l=>?_⟩
  .rcases h j d y B t (QbB l)with⟨u,y1,_,r,z,F,_⟩|⟨f,_⟩
   .exact k.ne u d y1 r z (F l)
   .exact λe=>by have:=k.lt;omega
  .rcases h j d y B t l.holds with⟨u,y1,Y,r,z,F,L⟩|⟨_,f⟩
   .obtain⟨T,V⟩:=k.one u d y1 r z (L c l)
    grind
   grind
 grind
theorem Yc(j j' j0:Nat)(h:j=j0)(h':j'=j0):j=j':=h.trans h'.symm
theorem Sim.roLt{fr ro:Nat->Prop}{σ:Sig}{H:Qd}{w:World}(s:Sim fr ro σ H w):∀b,ro b->b<w.heap.size:=s.roOk.lt
structure Qi (fr ro:Nat->Prop) (w:World) (ro':Nat->Prop) (w':World):Prop where
 sub:∀b,ro b->ro' b
 keepRo:∀b,ro b->w'.heap[b]?=w.heap[b]?
 keepFr:∀b,fr b->w'.heap[b]?=w.heap[b]?
 size:w.heap.size<=w'.heap.size
 shape:∀b x,w.shape? b=some x->w'.shape? b=some x
 os:w'.os=w.os
 tape:w'.tape=w.tape
 output:w'.output=w.output
 drawn:w.drawn<=w'.drawn
theorem Qi.refl(fr ro:Nat->Prop)(w:World):Qi fr ro w ro w:=
 ⟨λ_ h=>h,λ_ _=>rfl,λ_ _=>rfl,XR _,λ_ _ h=>h,rfl,rfl,rfl,XR _⟩
theorem Qi.trans{fr ro ro1 ro2:Nat->Prop}{w w1 w2:World}(h:Qi fr ro w ro1 w1)(k:Qi fr ro1 w1 ro2 w2):Qi fr ro w ro2 w2:=
 ⟨λb q=>k.sub _ (h.sub _ q),λb q=>(k.keepRo _ (h.sub _ q)).trans (h.keepRo _ q),λb q=>(k.keepFr _ q).trans (h.keepFr _ q),
  XT h.size k.size,λb x q=>k.shape _ _ (h.shape _ _ q),k.os.trans h.os,k.tape.trans h.tape,k.output.trans h.output,XT h.drawn k.drawn⟩
theorem Qac{σ τ:Sig}{i b:Nat}(h:σ[i]?=some (some b)):(σ++τ)[i]?=some (some b):=by
 grind
theorem Qi.ext{fr ro ro':Nat->Prop}{w w':World}(h:Qi fr ro w ro' w')(σ τ:Sig):Ext ro σ w ro' (σ++τ) w':=
 ⟨h.sub,h.keepRo,h.shape,λ_ _=>Qac⟩
theorem Qi.ext0{fr ro ro':Nat->Prop}{w w':World}(h:Qi fr ro w ro' w')(σ:Sig):Ext ro σ w ro' σ w':=
 ⟨h.sub,h.keepRo,h.shape,λ_ _ q=>q⟩
theorem ER.mono{ro ro':Nat->Prop}{σ σ':Sig}{w w':World}(h:Ext ro σ w ro' σ' w'):∀{es:List (A×A)} {l:List MapEntry},ER ro σ w es l->ER ro' σ' w' es l
 |[],_,q=>q
 |x::r,l,q=>by
  simp only[ER]at q⊢;obtain⟨e,l',h1,h2,h3,h4⟩:=q;exact⟨e,l',h1,h2.mono h,h3.mono h,ER.mono h h4⟩
theorem ItR.keep{ro ro':Nat->Prop}{σ σ':Sig}{w w':World}(h:Ext ro σ w ro' σ' w'){b:Nat}(E:w'.heap[b]?=w.heap[b]?){d:Option (A×A)}{es:List (A×A)}
  (q:ItR ro w b d es):ItR ro' w' b d es:=by
 rcases q with⟨i,g,j⟩|⟨m,l,a,f,left,i,g,j,y,n,s,t,B⟩
 .exact .inl ⟨i,g,by grind⟩
 .refine .inr ⟨m,l,a,f,left,by grind,h.sub _ g,by rw[h.keep _ g];exact j,y,n,s,t.mono h.nil,λx p=>?_⟩;obtain⟨e,z,u,k,r⟩:=B x p;exact⟨e,z,u,k.mono h.nil,r.mono h.nil⟩
theorem CR.keep{ro ro':Nat->Prop}{σ σ':Sig}{w w':World}(h:Ext ro σ w ro' σ' w'){b:Nat}(hb:w'.heap[b]?=w.heap[b]?):
  ∀{cs:List A} {off:Nat},CR ro σ w b cs off->CR ro' σ' w' b cs off
 |[],_,_=>trivial
 |a::r,off,q=>by
  simp only[CR]at q⊢;obtain⟨⟨v,h1,hp,h2⟩,h3⟩:=q;exact⟨⟨v,by rw[QgK hb];exact h1,hp,h2.mono h⟩,CR.keep h hb h3⟩
theorem RR.keep{ro ro':Nat->Prop}{σ σ':Sig}{w w':World}(h:Ext ro σ w ro' σ' w'){b:Nat}(hb:w'.heap[b]?=w.heap[b]?){k:Nat}:
  ∀{es:List (List A)} {off:Nat},RR ro σ w b k es off->RR ro' σ' w' b k es off
 |[],_,_=>trivial
 |cs::r,off,q=>by
  simp only[RR]at q⊢;obtain⟨h1,h2,h3⟩:=q;exact⟨h1,CR.keep h hb h2,RR.keep h hb h3⟩
theorem BR.keep{ro ro':Nat->Prop}{σ σ':Sig}{w w':World}(h:Ext ro σ w ro' σ' w'){x:Blk}{s:Option Nat}
  (g:∀b,s=some b->x.live=true->w'.heap[b]?=w.heap[b]?)(q:BR ro σ w x s)(r:∀b c,s=some b->Hid w x b c->w'.heap[c]?=w.heap[c]?):BR ro' σ' w' x s:=by
 cases x with
 |mapO fz t k i=>
  cases s with
  |none=>exact q
  |some b=>
   obtain⟨j,l,c,a,e,f⟩:=q;refine⟨λz=>h.sub b (j z),l,c,?_,e.mono h (λd p=>r b d rfl ⟨l,c,a,p⟩),f⟩;cases fz with
   |false=>rw[g b rfl rfl];exact a
   |true=>rw[h.keep b (j rfl)];exact a
 |dead=>trivial
 |cells t B=>
  cases s with
  |none=>exact q
  |some b=>
   obtain⟨l,a,e,f⟩:=q;exact⟨l,by rw[g b rfl rfl];exact a,e.mono h,f⟩
 |row t k i=>
  cases s with
  |none=>exact q
  |some b=>
   obtain⟨l,a,e⟩:=q;exact⟨l,by rw[g b rfl rfl];exact a,e.mono h.nil⟩
 |rowr t k i=>
  cases s with
  |none=>exact q.elim
  |some b=>
   obtain⟨l,a,e⟩:=q;exact⟨l,by rw[g b rfl rfl];exact a,e.mono h⟩
 |wins t b n c=>
  cases s with
  |none=>exact q
  |some d=>
   obtain⟨l,a,e⟩:=q;exact⟨l,by rw[g d rfl rfl];exact a,e.mono h⟩
 |ents t u y i=>
  cases s with
  |none=>exact q
  |some b=>
   obtain⟨l,a,e⟩:=q;exact⟨l,by rw[g b rfl rfl];exact a,e.mono h⟩
 |map i=>
  cases s with
  |none=>exact q
  |some b=>
   obtain⟨l,c,a,e,f⟩:=q;exact⟨l,c,by rw[g b rfl rfl];exact a,e.mono h.nil,f⟩
 |mapP i=>
  cases s with
  |none=>exact q
  |some b=>
   obtain⟨l,c,a,e,f⟩:=q;exact⟨l,c,by rw[g b rfl rfl];exact a,e.mono h,f⟩
 |frow t k i=>
  cases s with
  |none=>exact q
  |some b=>
   obtain⟨j,l,a,e,f⟩:=q;exact⟨h.sub b j,l,by rw[h.keep b j];exact a,e.mono h.nil,f⟩
 |iter m i=>
  cases s with
  |none=>exact q
  |some b=>exact ItR.keep h (g b rfl rfl) q
 |fmap i=>
  cases s with
  |none=>exact q
  |some b=>
   obtain⟨j,l,c,a,e,f⟩:=q;exact⟨h.sub b j,l,c,by rw[h.keep b j];exact a,e.mono h.nil,f⟩
abbrev Env:=List (Nat×A)
def lk:Env->Nat->A
 |[],_=>.any
 |(d,a)::r,s=>bif Nat.beq s d then a else lk r s
abbrev up(env:Env)(d:Nat)(a:A):Env:=(d,a)::env
inductive AEx where
 |normal|exit (id:Nat)|ret
abbrev QP:=AEx->Env->Qd->Prop
def Qcy(fr:Nat->Prop)(ds:List Deferred)(w:World):Prop:=ds.Nodup/\ ∀d∈ds,∃D,d={target:=.collected D,args:= #[]}/\fr D/\w.heap[D]?=some (.deferred (some []))
theorem Qcy.keep{fr ro ro':Nat->Prop}{e:List Deferred}{w w':World}(h:Qcy fr e w)(k:Qi fr ro w ro' w'):Qcy fr e w':=by
 refine⟨h.1,λd f=>?_⟩;obtain⟨D,g,a,i⟩:=h.2 d f;exact⟨D,g,a,(k.keepFr D a).trans i⟩
structure Grow (fr:Nat->Prop) (w:World) (ds:List Deferred) (fr':Nat->Prop) (ds':List Deferred):Prop where
 sub:∀b,fr b->fr' b
 new:∀b,fr' b->fr b\/w.heap.size<=b
 ds:∀d∈ds',d∈ds\/ ∃D,d={target:=.collected D,args:= #[]}/\w.heap.size<=D
theorem Grow.refl(fr:Nat->Prop)(w:World)(ds:List Deferred):Grow fr w ds fr ds:=⟨λ_ h=>h,λ_ h=>.inl h,λ_ h=>.inl h⟩
theorem Grow.trans{fr e g:Nat->Prop}{w w1:World}{ds f a:List Deferred}(h:Grow fr w ds e f)(l:w.heap.size<=w1.heap.size)(k:Grow e w1 f g a):Grow fr w ds g a:=by
 refine⟨λb q=>k.sub b (h.sub b q),λb q=>?_,λd q=>?_⟩
 .rcases k.new b q with q|q
  .exact h.new b q
  omega
 .rcases k.ds d q with q|⟨D,i,j⟩
  .exact h.ds d q
  grind
theorem Qi.frMono{fr fr' ro ro':Nat->Prop}{w w':World}(h:Qi fr' ro w ro' w')(s:∀b,fr b->fr' b):Qi fr ro w ro' w':=
 ⟨h.sub,h.keepRo,λb q=>h.keepFr b (s b q),h.size,h.shape,h.os,h.tape,h.output,h.drawn⟩
theorem Sim.frMono{fr fr' ro:Nat->Prop}{σ:Sig}{H:Qd}{w:World}(h:Sim fr' ro σ H w)(s:∀b,fr b->fr' b):Sim fr ro σ H w:=
 ⟨h.len,h.roOk,λb q=>h.frLt b (s b q),λb q r=>h.roFr b q (s b r),λi b x q1 q2 q3=>let⟨a,b',c⟩:=h.own i b x q1 q2 q3;(by grind),h.inj,h.blk,λi b x c q1 q2 q3=>let k:=h.hid i b x c q1 q2 q3;⟨k.lt,k.ro,λq=>k.fr (s c q),k.ne,k.one⟩⟩
structure Rel (fr ro:Nat->Prop) (σ:Sig) (H:Qd) (env:Env) (N:Nat) (a:Act) (w:World):Prop where
 sim:Sim fr ro σ H w
 env:∀s,VR ro σ w (lk env s) (a.tmps.getD s undef)
 size:a.tmps.size=N
 defers:Qcy fr a.defers w
def QdL(rd:Option Nat)(fr:Nat->Prop)(w:World):Prop:=∀l,rd=some l->fr l/\ ∃r,w.heap[l]?=some (.loop r)
theorem QdK{fr:Nat->Prop}{w:World}:QdL none fr w:=λl e=>by cases e
theorem QdL.to{rd:Option Nat}{fr fr' ro ro':Nat->Prop}{w w':World}(h:QdL rd fr w)(k:Qi fr ro w ro' w')(s:∀b,fr b->fr' b):QdL rd fr' w':=λl e=>by
 obtain⟨h1,r,h2⟩:=h l e;exact⟨s l h1,r,(k.keepFr l h1).trans h2⟩
def ExR:Exit->AEx->Prop
 |.normal,x=>x=.normal
 |.exit id,x=>x=.exit id
 |.ret,x=>x=.ret
 |_,_=>False
def QaI(h0:Nat)(fr ro:Nat->Prop)(σ:Sig)(w:World)(N:Nat)(ds:List Deferred)(Q:QP):Exit->Act->World->Prop:=
 λe a' w'=>∃x env' H' ro' σ' fr',ExR e x/\Q x env' H'/\Rel fr' ro' σ' H' env' N a' w'/\Qi fr ro w ro' w'/\σ'.take h0=σ.take h0/\Grow fr w ds fr' a'.defers
theorem QaI.grow{i:Nat}{fr d ro g:Nat->Prop}{σ σ1:Sig}{w w1:World}{N:Nat}{l f:List Deferred}{Q:QP}{e:Exit}{a':Act}{w':World}
  (h:QaI i d g σ1 w1 N f Q e a' w')(he:Qi fr ro w g w1)(r:σ1.take i=σ.take i)(hg:Grow fr w l d f):QaI i fr ro σ w N l Q e a' w':=by
 obtain⟨x,a,H',j,σ',k,q,m,n,t,p,s⟩:=h;exact⟨x,a,H',j,σ',k,q,m,n,he.trans (t.frMono hg.sub),p.trans r,hg.trans he.size s⟩
theorem QaI.step{h0:Nat}{fr ro ro1:Nat->Prop}{σ σ1:Sig}{w w1:World}{N:Nat}{ds:List Deferred}{Q:QP}{e:Exit}{a':Act}{w':World}
  (h:QaI h0 fr ro1 σ1 w1 N ds Q e a' w')(he:Qi fr ro w ro1 w1)(hs:σ1.take h0=σ.take h0):QaI h0 fr ro σ w N ds Q e a' w':=h.grow he hs (Grow.refl _ _ _)
theorem QaI.mono{i:Nat}{fr ro:Nat->Prop}{σ:Sig}{w:World}{N:Nat}{g:List Deferred}{Q Q':QP}{e:Exit}{a':Act}{w':World}
  (h:QaI i fr ro σ w N g Q e a' w')(l:∀x env H,Q x env H->Q' x env H):QaI i fr ro σ w N g Q' e a' w':=by
 obtain⟨x,a,H',d,σ',f,k,j,m⟩:=h;exact⟨x,a,H',d,σ',f,k,l _ _ _ j,m⟩
def QbC(h0:Nat)(fr ro:Nat->Prop)(σ:Sig)(w:World)(N:Nat)(ds:List Deferred)(Q:QP):Exit->Act->World->Prop:=
 λe a' w'=>∃x env' H' ro' σ' fr',ExR e x/\Q x env' H'/\Rel fr' ro' σ' H' env' N a' w'/\Qi fr ro w ro' w'/\σ'.take h0=σ.take h0/\a'.defers=ds/\Grow fr w ds fr' ds
theorem QbC.grow{i:Nat}{fr d ro f:Nat->Prop}{σ σ1:Sig}{w w1:World}{N:Nat}{g:List Deferred}{Q:QP}{e:Exit}{a':Act}{w':World}
  (h:QbC i d f σ1 w1 N g Q e a' w')(he:Qi fr ro w f w1)(q:σ1.take i=σ.take i)(hg:Grow fr w g d g):QbC i fr ro σ w N g Q e a' w':=by
 obtain⟨x,a,H',j,σ',k,p,l,m,t,n,r,s⟩:=h;exact⟨x,a,H',j,σ',k,p,l,m,he.trans (t.frMono hg.sub),n.trans q,r,hg.trans he.size s⟩
theorem QbC.step{h0:Nat}{fr ro ro1:Nat->Prop}{σ σ1:Sig}{w w1:World}{N:Nat}{ds:List Deferred}{Q:QP}{e:Exit}{a':Act}{w':World}
  (h:QbC h0 fr ro1 σ1 w1 N ds Q e a' w')(he:Qi fr ro w ro1 w1)(hs:σ1.take h0=σ.take h0):QbC h0 fr ro σ w N ds Q e a' w':=h.grow he hs (Grow.refl _ _ _)
theorem QbC.mono{i:Nat}{fr ro:Nat->Prop}{σ:Sig}{w:World}{N:Nat}{g:List Deferred}{Q Q':QP}{e:Exit}{a':Act}{w':World}
  (h:QbC i fr ro σ w N g Q e a' w')(l:∀x env H,Q x env H->Q' x env H):QbC i fr ro σ w N g Q' e a' w':=by
 obtain⟨x,a,H',d,σ',f,k,j,m⟩:=h;exact⟨x,a,H',d,σ',f,k,l _ _ _ j,m⟩
theorem QbC.postW{i:Nat}{fr ro:Nat->Prop}{σ:Sig}{w:World}{N:Nat}{g:List Deferred}{Q:QP}{e:Exit}{a':Act}{w':World}
  (h:QbC i fr ro σ w N g Q e a' w'):QaI i fr ro σ w N g Q e a' w':=by
 obtain⟨x,a,H',d,σ',f,m,j,k,n,l,p,q⟩:=h;exact⟨x,a,H',d,σ',f,m,j,k,n,l,by grind⟩
def WF(rd:Option Nat):Fence:={Fence.wide with round:=rd}
theorem WF.calls{rd:Option Nat}{P:Program}{f:FuncId}{args:Array Value}{w:World}{R:Ending->World->Prop}:CallsIn (WF rd) 0 P f args w R↔Calls P f args w R:=callsIn_wide
abbrev wpL(P:Program)(rd:Option Nat)(ops:Array Oper)(Q:Exit->Act->World->Prop):List Oper->Act->World->Prop:=wpListIn (WF rd) 0 P ops Q
def TC(P:Program)(h0 N:Nat)(c:Code)(env:Env)(H:Qd)(Q:QP):Prop:=
 ∀rd fr ro σ a w,Rel fr ro σ H env N a w->QdL rd fr w->c.wpIn (WF rd) 0 P (QaI h0 fr ro σ w N a.defers Q) a w
def WO(P:Program)(h0 N:Nat)(all:Array Oper)(l:List Oper)(env:Env)(H:Qd)(Q:QP):Prop:=
 ∀rd fr ro σ a w,Rel fr ro σ H env N a w->QdL rd fr w->wpL P rd all (QbC h0 fr ro σ w N a.defers Q) l a w
def Le(h0:Nat)(env:Env)(H:Qd)(env':Env)(H':Qd):Prop:=
 ∀fr ro σ N a w,Rel fr ro σ H env N a w->∃ro' σ',Rel fr ro' σ' H' env' N a w/\(∀b,ro b->ro' b)/\σ'.take h0=σ.take h0
theorem Le.refl(h0:Nat)(env:Env)(H:Qd):Le h0 env H env H:=λfr ro σ N a w h=>(by grind)
theorem Le.trans{d:Nat}{f j i:Env}{H1 H2 H3:Qd}(h:Le d f H1 j H2)(k:Le d j H2 i H3):Le d f H1 i H3:=by
 intro g m σ N a w r;obtain⟨e,σ1,l,p,s⟩:=h g m σ N a w r;obtain⟨n,σ2,u,t,q⟩:=k g e σ1 N a w l
 grind
theorem YN{fr ro ro':Nat->Prop}{w:World}(h:∀b,ro b->ro' b):Qi fr ro w ro' w:=
 ⟨h,λ_ _=>rfl,λ_ _=>rfl,XR _,λ_ _ h=>h,rfl,rfl,rfl,XR _⟩
theorem YB{P:Program}{rd:Option Nat}{ops:Array Oper}{Q Q':Exit->Act->World->Prop}(hq:∀e a w,Q e a w->Q' e a w):
  ∀(l:List Oper) (a:Act) (w:World),wpL P rd ops Q l a w->wpL P rd ops Q' l a w
 |[],a,w,h=>hq _ _ _ h
 |o::l,a,w,h=>by
  unfold wpL wpListIn at h⊢;split
  .rename_i hw;rw[Vp hw]at h;obtain⟨h1,h2⟩:=h;refine⟨h1,?_⟩
   revert h2
   generalize(o.semAt (WF rd).round a.eval).run P w=r;intro h2;have hk:=λa w=>YB (P:=P) (rd:=rd) (ops:=ops) hq l a w;cases r with
   |ok x w=>
    cases x with
    |value v=>exact hk _ _ h2
    |skip=>exact hk _ _ h2
    |defer d=>exact hk _ _ h2
    |enter f args=>
     refine⟨h2.1,CallsIn.mono h2.2 ?_⟩;intro e w' q;cases e with
     |returned v=>grind
     |panicked c=>grind
     |outgrown=>obtain⟨a,w,q⟩:=q;exact⟨a,w,hq _ _ _ q⟩
    |row r args=>exact⟨h2.1,RowsIn.mono h2.2 λv w' q=>hk _ _ q⟩
    |round l f tmps assign body=>
     refine⟨h2.1,RoundIn.mono h2.2 ?_⟩;intro e w' q;cases e with
     |returned v=>grind
     |panicked c=>grind
     |outgrown=>obtain⟨a,w,q⟩:=q;exact⟨a,w,hq _ _ _ q⟩
    |_=>exact h2
   |halt x w=>
    cases x with
    |panic v=>exact hq _ _ _ h2
    |_=>exact h2
  .rename_i hw;rw[Vn hw]at h;exact⟨h.1,YB hq l _ _ h.2⟩
theorem QcU{P:Program}{o:Oper}{a:Act}{w w':World}{x:Next}{rd:Option Nat}(h:(execOp a.eval o).run P w=.ok x w')(f:∀d,x≠ .defer d):(o.semAt (WF rd).round a.eval).run P w=.ok x w':=by
 cases e:o.op with
 |defer c=>
  exfalso;have:execOp a.eval o=(do pure (.defer (<- resolve a.eval c o.type))):=by simp[execOp,e]
  rw[this]at h;simp only[Vi]at h;generalize(resolve a.eval c o.type).run P w=r at h;cases r with
  |ok d w2=>simp[Result.andThen,go_sem]at h;grind
  |halt x w2=>simp_all
 |_=>grind[Oper.semAt_eq]
theorem Qab{P:Program}{rd:Option Nat}{ops:Array Oper}{Q:Exit->Act->World->Prop}{o:Oper}{l:List Oper}{a:Act}{w w':World}{v:Value}(f:Region.wanted o (yielded ops a.tmps)=true)
  (h:(execOp a.eval o).run P w=.ok (.value v) w')(k:wpL P rd ops Q l (a.put o.dst v) w'):wpL P rd ops Q (o::l) a w:=by
 unfold wpL wpListIn;rw[Vp f];exact⟨λ_ _=>trivial,by rw[QcU h (λd e=>by cases e)];exact k⟩
theorem QlX{P:Program}{rd:Option Nat}{ops:Array Oper}{Q:Exit->Act->World->Prop}{o:Oper}{l:List Oper}{a:Act}{w w':World}(f:Region.wanted o (yielded ops a.tmps)=true)
  (h:(execOp a.eval o).run P w=.ok .skip w')(k:wpL P rd ops Q l (a.put o.dst undef) w'):wpL P rd ops Q (o::l) a w:=by
 unfold wpL wpListIn;rw[Vp f];exact⟨λ_ _=>trivial,by rw[QcU h (λd e=>by cases e)];exact k⟩
theorem Qgh{P:Program}{rd:Option Nat}{ops:Array Oper}{Q:Exit->Act->World->Prop}{o:Oper}{l:List Oper}{a:Act}{w w':World}{f:FuncId}{args:Array Value}(g:Region.wanted o (yielded ops a.tmps)=true)
  (h:(execOp a.eval o).run P w=.ok (.enter f args) w')(k:Calls P f args w' λe w''=>∃v,e=.returned v/\wpL P rd ops Q l (a.put o.dst v) w''):wpL P rd ops Q (o::l) a w:=by
 unfold wpL wpListIn;rw[Vp g];refine⟨λ_ _=>trivial,?_⟩;rw[QcU h (λd e=>by cases e)];refine⟨λh=>by simp[WF,Fence.wide]at h,WF.calls.2 (Calls.mono k ?_)⟩
 grind
section
variable {P:Program} {h0 N:Nat} {env env':Env} {H H':Qd} {Q Q':QP} {c c':Code}
theorem TC.mono(h:TC P h0 N c env H Q)(hq:∀x env H,Q x env H->Q' x env H):TC P h0 N c env H Q':=
 λrd fr ro σ a w r hrd=>Code.wpIn_mono (λe a w q=>q.mono hq) (h rd fr ro σ a w r hrd)
theorem Qc(d:Le h0 env H env' H')(h:TC P h0 N c env' H' Q):TC P h0 N c env H Q:=by
 intro i g k σ a w r hrd;obtain⟨f,σ',j,s,t⟩:=d g k σ N a w r;exact Code.wpIn_mono (λe a w q=>q.step (YN s) t) (h i g f σ' a w j hrd)
theorem QD{all:Array Oper}{l:List Oper}(d:Le h0 env H env' H')(h:WO P h0 N all l env' H' Q):WO P h0 N all l env H Q:=by
 intro i g k σ a w r hrd;obtain⟨f,σ',j,s,t⟩:=d g k σ N a w r;exact YB (λe a w q=>q.step (YN s) t) _ _ _ (h i g f σ' a w j hrd)
theorem WO.mono{all:Array Oper}{l:List Oper}(h:WO P h0 N all l env H Q)(hq:∀x env H,Q x env H->Q' x env H):WO P h0 N all l env H Q':=
 λrd fr ro σ a w r hrd=>YB (λe a w q=>q.mono hq) _ _ _ (h rd fr ro σ a w r hrd)
def Seq(P:Program)(h0 N:Nat)(c:Code)(Q:QP):QP
 |.normal,env,H=>TC P h0 N c env H Q
 |.exit id,env,H=>Q (.exit id) env H
 |.ret,env,H=>Q .ret env H
def Blo(id:Nat)(Q:QP):QP
 |.normal,env,H=>Q .normal env H
 |.exit id',env,H=>bif Nat.beq id' id then Q .normal env H else Q (.exit id') env H
 |.ret,env,H=>Q .ret env H
theorem TC.seq(h:TC P h0 N c env H (Seq P h0 N c' Q)):TC P h0 N (.seq c c') env H Q:=by
 intro p s y σ a w r hrd;refine wpIn_seq (Code.wpIn_mono ?_ (h p s y σ a w r hrd));rintro e u t ⟨x,d,H',f,σ',g,i,l,n,k,m,j⟩;cases e with
 |normal=>
  obtain rfl:x=.normal:=i;exact Code.wpIn_mono (λe a w q=>q.grow k m j) (l p g f σ' u t n (hrd.to k j.sub))
 |exit id=>
  obtain rfl:x=.exit id:=i;exact⟨_,d,H',f,σ',g,rfl,l,n,k,m,j⟩
 |ret=>
  obtain rfl:x=.ret:=i;exact⟨_,d,H',f,σ',g,rfl,l,n,k,m,j⟩
 |_=>exact i.elim
theorem TC.skip(h:Q .normal env H):TC P h0 N .skip env H Q:=
 λrd fr ro σ a w r hrd=>wpIn_skip ⟨_,env,H,ro,σ,fr,rfl,h,r,Qi.refl _ _ _,rfl,Grow.refl _ _ _⟩
theorem TC.ret(h:Q .ret env H):TC P h0 N .ret env H Q:=
 λrd fr ro σ a w r hrd=>wpIn_ret ⟨_,env,H,ro,σ,fr,rfl,h,r,Qi.refl _ _ _,rfl,Grow.refl _ _ _⟩
theorem TC.exit{id:Nat}(h:Q (.exit id) env H):TC P h0 N (.exit id) env H Q:=
 λrd fr ro σ a w r hrd=>wpIn_exit ⟨_,env,H,ro,σ,fr,rfl,h,r,Qi.refl _ _ _,rfl,Grow.refl _ _ _⟩
theorem TC.block{id:Nat}(h:TC P h0 N c env H (Blo id Q)):TC P h0 N (.block id c) env H Q:=by
 intro s q t σ a w r hrd;refine wpIn_block (Code.wpIn_mono ?_ (h s q t σ a w r hrd));rintro e y u ⟨x,d,H',f,σ',g,m,i,k,p,l,n⟩;cases e with
 |normal=>
  obtain rfl:x=.normal:=m;exact⟨_,d,H',f,σ',g,rfl,i,k,p,l,n⟩
 |exit j=>
  obtain rfl:x=.exit j:=m;simp only[Exit.inBlock];simp only[Blo]at i;by_cases e:j=id
  .subst e;rw[Vp rfl];rw[VB]at i;exact⟨_,d,H',f,σ',g,rfl,i,k,p,l,n⟩
  .rw[Vn e];have:Nat.beq j id=false:=by
    simp_all[VI]
   rw[this]at i;exact⟨_,d,H',f,σ',g,rfl,i,k,p,l,n⟩
 |ret=>
  obtain rfl:x=.ret:=m;exact⟨_,d,H',f,σ',g,rfl,i,k,p,l,n⟩
 |_=>exact m.elim
def opA(env:Env):Operand->A
 |.tmp t=>lk env t
 |.const (.bool b)=>.bool b
 |.const (.int k n)=>.int k n
 |.const (.string s)=>.str s.data.toList
 |.const (.pointer none)=>.nilp
 |.const (.slice none 0 0)=>.nils
 |.const (.map none)=>.nilm
 |.const .nilFunc=>.nilf
 |.const .nilIface=>.nilif
 |.func f=>.fn (.func f) [] []
 |_=>.any
theorem Qk{fr ro:Nat->Prop}{σ:Sig}{a:Act}{w:World}(r:Rel fr ro σ H env N a w)(x:Operand):VR ro σ w (opA env x) (a.eval x):=by
 cases x with
 |tmp t=>exact r.env t
 |const v=>
  cases v with
  |slice a n k=>
   cases a with
   |none=>
    cases n with
    |zero=>cases k with
     |zero=>rfl
     |succ k=>trivial
    |succ n=>trivial
   |some a=>trivial
  |pointer p=>cases p with
   |none=>rfl
   |some p=>trivial
  |map p=>cases p with
   |none=>rfl
   |some p=>trivial
  |string s=>rfl
  |_=>simp_all[opA,VR,Act.eval]
 |global g=>trivial
 |func f=>exact⟨[],[],rfl,rfl,rfl⟩
theorem TC.cond{x:Operand}{t:Bool}(j:opA env x=.bool t)(i:t=true->TC P h0 N c env H Q)(k:t=false->TC P h0 N c' env H Q):
  TC P h0 N (.cond x c c') env H Q:=by
 intro f d g σ a w r hrd;have h:=Qk r x;rw[j]at h;exact wpIn_cond_split h (λe=>i e f d g σ a w r hrd) (λe=>k e f d g σ a w r hrd)
theorem QmC{t:Array Value}{d s:Nat}{v:Value}(a:d<t.size):(t.setIfInBounds d v).getD s undef=if s=d then v else t.getD s undef:=by
 simp only[Array.getD_eq_getD_getElem?,Va]
 grind
theorem VR.up{fr ro:Nat->Prop}{σ:Sig}{a:Act}{w:World}(r:∀s,VR ro σ w (lk env s) (a.tmps.getD s undef)){d:Nat}(f:d<a.tmps.size){x:A}{v:Value}(g:VR ro σ w x v):
  ∀s,VR ro σ w (lk (up env d x) s) ((a.tmps.setIfInBounds d v).getD s undef):=by
 intro s;rw[QmC f];simp only[up,lk];by_cases e:s=d
 .simp_all
 .have:Nat.beq s d=false:=by
   simp_all[VI]
  grind
def QB(all:Array Oper)(o:Oper)(env:Env)(b:Bool):Prop:=
 match o.guard with
 |none=>b=true
 |some (j,c)=>∃d,(all[j]?).bind (·.dst)=some d/\((∃x,lk env d=.bool x/\b=(x==c))\/(lk env d=.tup []/\b=false))
theorem Je{all:Array Oper}{o:Oper}{b:Bool}(h:QB all o env b){fr ro:Nat->Prop}{σ:Sig}{a:Act}{w:World}(r:Rel fr ro σ H env N a w):
  Region.wanted o (yielded all a.tmps)=b:=by
 unfold QB at h;unfold Region.wanted;cases m:o.guard with
 |none=>grind
 |some g=>
  obtain⟨j,c⟩:=g;rw[m]at h;obtain⟨d,k,⟨x,f,i⟩|⟨f,i⟩⟩:=h
  .have e:=r.env d;rw[f]at e;simp only[VR]at e;have p:a.tmps[d]?=some (.bool x):=by
    rw[Array.getD_eq_getD_getElem?]at e
    grind[undef]
   simp_all[yielded]
  .have e:=r.env d;rw[f]at e;obtain⟨l,e,n⟩:=e;rw[Array.getD_eq_getD_getElem?]at e;subst i;simp only[yielded,k,XH]
   grind
def OpV(P:Program)(o:Oper)(env:Env)(H:Qd)(x:A):Prop:=
 ∀fr ro σ N a w,Rel fr ro σ H env N a w->∃v,(execOp a.eval o).run P w=.ok (.value v) w/\VR ro σ w x v
def OpH(P:Program)(o:Oper)(env:Env)(H:Qd)(x:A)(H':Qd):Prop:=
 ∀fr ro σ N a w,Rel fr ro σ H env N a w->∃v w' ro' τ,(execOp a.eval o).run P w=.ok (.value v) w'/\VR ro' (σ++τ) w' x v/\
  Sim fr ro' (σ++τ) H' w'/\Qi fr ro w ro' w'
def OpU(P:Program)(o:Oper)(env:Env)(H:Qd)(H':Qd):Prop:=
 ∀fr ro σ N a w,Rel fr ro σ H env N a w->∃w' ro' τ,(execOp a.eval o).run P w=.ok .skip w'/\
  Sim fr ro' (σ++τ) H' w'/\Qi fr ro w ro' w'
theorem WO.nil{all:Array Oper}(h:Q .normal env H):WO P h0 N all [] env H Q:=
 λrd fr ro σ a w r hrd=>⟨_,env,H,ro,σ,fr,rfl,h,r,Qi.refl _ _ _,rfl,rfl,Grow.refl _ _ _⟩
theorem QG{σ τ:Sig}{a:Nat}(h:a<=σ.length):(σ++τ).take a=σ.take a:=by
 grind
theorem QhD{all:Array Oper}{o:Oper}{l:List Oper}{d:Nat}{x:A}(t:h0<=H.length)(hg:QB all o env true)(y:o.dst=some d)(E:Nat.blt d N=true)
  (h:OpH P o env H x H')(k:WO P h0 N all l (up env d x) H' Q):WO P h0 N all (o::l) env H Q:=by
 intro u fr B σ a w r hrd;obtain⟨v,j,f,τ,p,m,n,g⟩:=h fr B σ N a w r;refine Qab (Je hg r) p ?_;simp only[y,Act.put];have i:d<N:=by simp_all
 have z:Rel fr f (σ++τ) H' (up env d x) N {a with tmps:=a.tmps.setIfInBounds d v} j:=
  ⟨n,VR.up (fr:=fr) (λs=>(r.env s).mono (g.ext σ τ)) (by rw[r.size];exact i) m,by simpa using r.size,r.defers.keep g⟩
 refine YB (λe a w q=>q.step g (QG ?_)) _ _ _ (k u fr f (σ++τ) _ j z (hrd.to g λ_ q=>q));rw[r.sim.len];exact t
theorem YP{all:Array Oper}{o:Oper}{l:List Oper}{d:Nat}{x:A}(hg:QB all o env true)(m:o.dst=some d)(n:Nat.blt d N=true)
  (e:OpV P o env H x)(k:WO P h0 N all l (up env d x) H Q):WO P h0 N all (o::l) env H Q:=by
 intro j fr g σ a w r hrd;obtain⟨v,i,h⟩:=e fr g σ N a w r;refine Qab (Je hg r) i ?_;simp only[m,Act.put];have f:d<N:=by simp_all
 exact k j fr g σ {a with tmps:=a.tmps.setIfInBounds d v} w ⟨r.sim,VR.up (fr:=fr) r.env (by rw[r.size];exact f) h,by simpa using r.size,r.defers⟩ hrd
theorem Qm6{all:Array Oper}{o:Oper}{l:List Oper}(u:h0<=H.length)(hg:QB all o env true)(p:o.dst=none)
  (g:OpU P o env H H')(k:WO P h0 N all l env H' Q):WO P h0 N all (o::l) env H Q:=by
 intro n h x σ a w r hrd;obtain⟨i,d,τ,m,j,f⟩:=g h x σ N a w r;refine QlX (Je hg r) m ?_;simp only[p,Act.put];have t:Rel h d (σ++τ) H' env N a i:=⟨j,λs=>(r.env s).mono (f.ext σ τ),r.size,r.defers.keep f⟩;refine YB (λe a w q=>q.step f (QG ?_)) _ _ _ (k n h d (σ++τ) _ i t (hrd.to f λ_ q=>q));rw[r.sim.len];exact u
theorem Qpo{all:Array Oper}{o:Oper}{l:List Oper}{x:A}(u:h0<=H.length)(hg:QB all o env true)(p:o.dst=none)
  (g:OpH P o env H x H')(k:WO P h0 N all l env H' Q):WO P h0 N all (o::l) env H Q:=by
 intro n h y σ a w r hrd;obtain⟨v,i,d,τ,m,z,j,f⟩:=g h y σ N a w r;refine Qab (Je hg r) m ?_;simp only[p,Act.put];have t:Rel h d (σ++τ) H' env N a i:=⟨j,λs=>(r.env s).mono (f.ext σ τ),r.size,r.defers.keep f⟩;refine YB (λe a w q=>q.step f (QG ?_)) _ _ _ (k n h d (σ++τ) _ i t (hrd.to f λ_ q=>q));rw[r.sim.len];exact u
theorem WO.skip{all:Array Oper}{o:Oper}{l:List Oper}{d:Nat}(hg:QB all o env false)(f:o.dst=some d)(i:Nat.blt d N=true)
  (k:WO P h0 N all l (up env d (.tup [])) H Q):WO P h0 N all (o::l) env H Q:=by
 intro g fr h σ a w r hrd;unfold wpL wpListIn;rw[Je hg r,Vn (by simp)];refine⟨λ_ _=>trivial,?_⟩;simp only[f,Act.put];have e:d<N:=by simp_all
 exact k g fr h σ {a with tmps:=a.tmps.setIfInBounds d undef} w ⟨r.sim,VR.up (fr:=fr) r.env (by rw[r.size];exact e) ⟨[],rfl,rfl⟩,by simpa using r.size,r.defers⟩ hrd
theorem TC.region{id:Nat}{l:List Oper}(h:WO P h0 N l.toArray l env H Q):TC P h0 N (.region id l.toArray false) env H Q:=
 λrd fr ro σ a w r hrd=>Code.wpIn_mono (λe a w q=>q.postW) (wpIn_region_lit (h rd fr ro σ a w r hrd))
end
mutual
def Y1(ρ:Nat->Nat):A->A
 |.ptr i off=>.ptr (ρ i) off
 |.osl i o n k=>.osl (ρ i) o n k
 |.agg cs=>.agg (Qag ρ cs)
 |.fn f a c=>.fn f (Qag ρ a) (Qag ρ c)
 |.iface t v=>.iface t (Y1 ρ v)
 |.map i=>.map (ρ i)
 |.tup vs=>.tup (Qag ρ vs)
 |a=>a
def Qag(ρ:Nat->Nat):List A->List A
 |[]=>[]
 |a::r=>Y1 ρ a::Qag ρ r
end
def Qh1(ρ:Nat->Nat):List (List A)->List (List A)
 |[]=>[]
 |a::r=>Qag ρ a::Qh1 ρ r
def renP(ρ:Nat->Nat):List (A×A)->List (A×A)
 |[]=>[]
 |a::r=>(Y1 ρ a.1,Y1 ρ a.2)::renP ρ r
def Q8(ρ:Nat->Nat):Blk->Blk
 |.cells t cs=>.cells t (Qag ρ cs)
 |.rowr t k es=>.rowr t k (Qh1 ρ es)
 |.ents t b1 b2 es=>.ents t (ρ b1) (ρ b2) es
 |.wins t b n c=>.wins t (ρ b) n c
 |.mapP es=>.mapP (renP ρ es)
 |b=>b
theorem Qgp(ρ:Nat->Nat)(b1 b2:Nat):∀(es:List Ent),Qh1 ρ (es.map (eC b1 b2))=es.map (eC (ρ b1) (ρ b2))
 |[]=>rfl
 |e::es=>by
  have:=Qgp ρ b1 b2 es;simp only[Vf,Qh1,this];congr 1;cases h:e.fl<;>simp[eC,Qag,Y1,h]
theorem QkZ(ρ:Nat->Nat)(b n c:Nat):Qh1 ρ (Qei b n c)=Qei (ρ b) n c:=by
 unfold Qei
 induction List.range c with
 |nil=>rfl
 |cons j l a=>simp only[Vf,Qh1,a];rfl
theorem QM(ρ:Nat->Nat)(x:Blk):(Q8 ρ x).live=x.live:=by cases x<;>rfl
theorem Qah(ρ:Nat->Nat)(x:Blk)(w:World)(b c:Nat):Hid w (Q8 ρ x) b c↔Hid w x b c:=by cases x<;>exact Iff.rfl
section
variable {ro:Nat->Prop} {σ σ':Sig} {w:World} {ρ:Nat->Nat} (h:∀i:Nat,σ[ρ i]?=σ'[i]?)
include h
mutual
theorem QdI:∀{a:A} {v:Value},VR ro σ w (Y1 ρ a) v↔VR ro σ' w a v
 |.any,_=>by simp only[Y1,VR]
 |.bool b,v=>by simp only[Y1,VR]
 |.int k n,v=>by simp only[Y1,VR]
 |.str s,v=>by simp only[Y1,VR]
 |.nilp,v=>by simp only[Y1,VR]
 |.ptr i off,v=>by simp only[Y1,VR,h]
 |.rp cs,v=>by simp only[Y1,VR]
 |.nils,v=>by simp only[Y1,VR]
 |.rsl k es,v=>by simp only[Y1,VR]
 |.osl i o n k,v=>by simp only[Y1,VR,h]
 |.agg cs,v=>by simp only[Y1,VR];exact exists_congr λl=>and_congr_right λ_=>Qbw
 |.fn f a c,v=>by simp only[Y1,VR];exact exists_congr λl=>exists_congr λl'=>and_congr_right λ_=>and_congr Qbw Qbw
 |.nilf,v=>by simp only[Y1,VR]
 |.iface t a,v=>by simp only[Y1,VR];exact exists_congr λl=>and_congr_right λ_=>QdI
 |.nilif,v=>by simp only[Y1,VR]
 |.map i,v=>by simp only[Y1,VR,h]
 |.nilm,v=>by simp only[Y1,VR]
 |.tup vs,v=>by simp only[Y1,VR];exact exists_congr λl=>and_congr_right λ_=>Qbw
theorem Qbw:∀{az:List A} {l:List Value},LR ro σ w (Qag ρ az) l↔LR ro σ' w az l
 |[],l=>by simp only[Qag,LR]
 |a::r,l=>by
  simp only[Qag,LR];exact exists_congr λv=>exists_congr λl'=>and_congr_right λ_=>and_congr QdI Qbw
end
theorem QdV:∀(cs:List A),(Qag ρ cs).length=cs.length
 |[]=>rfl
 |a::r=>by simp[Qag,QdV r]
theorem QhF{k:Nat}:∀{es:List (List A)} {l:List Value},RL ro σ w k (Qh1 ρ es) l↔RL ro σ' w k es l
 |[],l=>by rfl
 |a::r,l=>by
  simp only[Qh1,RL,QdV h];exact exists_congr λl1=>exists_congr λl2=>and_congr_right λ_=>and_congr_right λ_=>and_congr (and_congr_left λ_=>Qbw h) QhF
theorem Qny:∀{es:List (A×A)} {l:List MapEntry},ER ro σ w (renP ρ es) l↔ER ro σ' w es l
 |[],l=>by rfl
 |a::r,l=>by
  simp only[renP,ER];exact exists_congr λe=>exists_congr λl'=>and_congr_right λ_=>and_congr (QdI h) (and_congr (QdI h) Qny)
theorem QhR{x:Blk}{s:Option Nat}:BR ro σ w (Q8 ρ x) s↔BR ro σ' w x s:=by
 cases x with
 |cells t e=>
  cases s with
  |none=>exact Iff.rfl
  |some b=>simp only[Q8,BR];exact exists_congr λl=>and_congr_right λ_=>and_congr_left λ_=>Qbw h
 |rowr t k a=>
  cases s with
  |none=>exact Iff.rfl
  |some b=>simp only[Q8,BR];exact exists_congr λl=>and_congr_right λ_=>QhF h
 |mapP a=>
  cases s with
  |none=>exact Iff.rfl
  |some b=>simp only[Q8,BR];exact exists_congr λl=>exists_congr λc=>and_congr_right λ_=>and_congr_left λ_=>Qny h
 |wins t b n c=>
  cases s with
  |none=>exact Iff.rfl
  |some d=>
   simp only[Q8,BR];refine exists_congr λl=>and_congr_right λ_=>?_;rw[<- QkZ];exact QhF h
 |ents t f g a=>
  cases s with
  |none=>exact Iff.rfl
  |some b=>
   simp only[Q8,BR];refine exists_congr λl=>and_congr_right λ_=>?_;rw[<- Qgp];exact QhF h
 |_=>cases s<;>exact Iff.rfl
end
def C(P:Program)(f:FuncId)(args:List A)(H:Qd)(Q:A->Qd->Prop):Prop:=
 ∀fr ro σ vals w,Sim fr ro σ H w->LR ro σ w args vals->Calls P f vals.toArray w λe w'=>
  ∃v r H' ro' τ,e=.returned v/\Q r H'/\Sim fr ro' (σ++τ) H' w'/\VR ro' (σ++τ) w' r v/\Qi fr ro w ro' w'
theorem C.mono{P:Program}{f:FuncId}{args:List A}{H:Qd}{Q Q':A->Qd->Prop}(h:C P f args H Q)(hq:∀r H,Q r H->Q' r H):C P f args H Q':=
 λfr ro σ vals w s l=>(h fr ro σ vals w s l).mono (by grind)
def Qd8:Nat->List A->Env
 |_,[]=>[]
 |i,a::r=>(i,a)::Qd8 (i+1) r
theorem Qfd{ro:Nat->Prop}{σ:Sig}{w:World}:∀{args:List A} {vals:List Value} {i:Nat} (pre:List Value),pre.length=i->LR ro σ w args vals->∀rest:Array Value,
  ∀s,VR ro σ w (lk (Qd8 i args) s) (((pre++vals).toArray++rest).getD s undef)
 |[],vals,i,pre,hp,hl,rest,s=>trivial
 |a::r,vals,i,pre,hp,hl,rest,s=>by
  simp only[LR]at hl;obtain⟨v,l',rfl,h1,h2⟩:=hl;simp only[Qd8,lk];by_cases e:s=i
  .simp_all[Array.getElem?_append]
  .have:Nat.beq s i=false:=by
    simp_all[VI]
   rw[this];have:=Qfd (i:=i+1) (pre++[v]) (by simp[hp]) h2 rest s
   grind
def Qcw(P:Program)(fn:Func)(env:Env)(H:Qd)(r:A):Prop:=
 ∀fr ro σ N a w,Rel fr ro σ H env N a w->∃v,(results fn a.tmps).run P w=.ok v w/\VR ro σ w r v
def Qbu(P:Program)(h0:Nat)(fn:Func)(Q:A->Qd->Prop):QP
 |.normal,env,H=>∃env' H' r,Le h0 env H env' H'/\Qcw P fn env' H' r/\Q r H'
 |.ret,env,H=>∃env' H' r,Le h0 env H env' H'/\Qcw P fn env' H' r/\Q r H'
 |.exit _,_,_=>False
theorem LR.length{ro:Nat->Prop}{σ:Sig}{w:World}:∀{az:List A} {l:List Value},LR ro σ w az l->l.length=az.length
 |[],l,h=>by simp only[LR]at h;simp[h]
 |a::r,l,h=>by
  simp only[LR]at h;obtain⟨v,l',rfl,_,h2⟩:=h;simp[h2.length]
theorem Sim.turn{fr ro:Nat->Prop}{σ:Sig}{H:Qd}{w:World}(s:Sim fr ro σ H w){b:Nat}{obj:Obj}(t:¬ro b)(m:¬fr b)(G:∀(i:Nat) (x:Blk),σ[i]?=some (some b)->H[i]?=some x->x.live=true->False)
  (h:∀(i d:Nat) (x:Blk),σ[i]?=some (some d)->H[i]?=some x->Hid w x d b->False)
  (p:∀y,w.shape? b=some y->(w.putObj b obj).shape? b=some y):Sim fr ro σ H (w.putObj b obj)/\Qi fr ro w ro (w.putObj b obj):=by
 have r:∀c,c≠b->(w.putObj b obj).heap[c]?=w.heap[c]? :=λc u=>World.putObj_heap_other u;have e:(w.putObj b obj).heap.size=w.heap.size:=by simp
 have ev:Qi fr ro w ro (w.putObj b obj):=by
  refine⟨λ_ q=>q,(by grind),(by grind),by omega,λc x q=>?_,rfl,rfl,rfl,XR _⟩
  grind[World.shape?]
 have a:Ext ro σ w ro σ (w.putObj b obj):=by have:=ev.ext σ [];grind
 refine⟨⟨s.len,s.roOk.to (λ_ q=>q) ev.keepRo (λc q=>by rw[e];exact s.roLt c q),λc q=>by rw[e];exact s.frLt c q,s.roFr,λi c x g f n=>?_,s.inj,λi y x g f=>?_,
  s.hidTo (· = ·) Yc (by omega) (by simp) (by simp) λj d y k l F=>.inl ⟨j,y,rfl,k,l,id,λc q=>s.hidKeep k l (by grind) ev.keepRo q⟩⟩,ev⟩
 .obtain⟨z,E,B⟩:=s.own i c x g f n
  grind
 .refine(s.blk i y x g f).keep a ?_ ?_
  .grind
  grind
theorem Qbl{P:Program}{fn:Func}{tmps:Array Value}{R:Ending->World->Prop}{fr ro:Nat->Prop}{σ:Sig}{H:Qd}:
  ∀(ds:List Deferred) (w:World),ds.Nodup->(∀d∈ds,∃D,d={target:=.collected D,args:= #[]}/\ ¬ro D/\ ¬fr D/\(∀(i:Nat) (x:Blk),σ[i]?=some (some D)->H[i]?=some x->x.live=true->False)/\(∀(i d:Nat) (x:Blk),σ[i]?=some (some d)->H[i]?=some x->Hid w x d D->False)/\w.heap[D]?=some (.deferred (some [])))->
  Sim fr ro σ H w->(∀w',Sim fr ro σ H w'->Qi fr ro w ro w'->∃v,(results fn tmps).run P w'=.ok v w'/\R (.returned v) w')->LeavesInM Fence.wide 0 P fn tmps R ds .returning w
 |[],w,_,_,s,hk=>by
  obtain⟨v,h1,h2⟩:=hk w s (Qi.refl _ _ _);exact⟨v,h1,h2⟩
 |d::ds,w,hn,hd,s,hk=>by
  obtain⟨D,rfl,h1,h2,h3,h5,h4⟩:=hd d (by simp);obtain⟨n1,n2⟩:=List.nodup_cons.1 hn;obtain⟨s',ev⟩:=s.turn (obj:=.deferred none) h1 h2 h3 h5 (λy q=>by grind[World.shape?]);refine⟨(by simp),.inl ⟨D,_,rfl,run_takeDeferred h4,?_⟩⟩;refine Qbl ds _ n2 (λd' q=>?_) s' (λw' q1 q2=>hk w' q1 (ev.trans q2));obtain⟨D',rfl,g1,g2,g3,g5,g4⟩:=hd d' (by simp[q]);refine⟨D',rfl,g1,g2,g3,λi d x z1 z2 z3=>g5 i d x z1 z2 (s.hidKeep z1 z2 (λz=>World.putObj_heap_other (by grind)) (λb q=>World.putObj_heap_other (λe:b=D=>h1 (e▸q))) z3),(World.putObj_heap_other (λe=>?_)).trans g4⟩
  grind
theorem QN{P:Program}{f:FuncId}{fn:Func}{c:Code}{N:Nat}{args:List A}{H:Qd}{Q:A->Qd->Prop}
  (hf:P.funcs[f]?=some fn)(hb:fn.body=some c)(hN:fn.ntmps=N)(hA:Nat.ble args.length N=true)
  (h:TC P H.length N c (Qd8 0 args) H (Qbu P H.length fn Q)):C P f args H Q:=by
 intro fr ro σ vals w hs hl;have Y:=hl.length;have aa:args.length<=N:=by simp_all
 refine(callsIn_wide (n:=0)).1 (callsIn_of_wp_marks hf hb trivial (Code.wpIn_mono ?_ (h none fr ro σ _ w ⟨hs,?_,?_,List.nodup_nil,λd l=>by cases l⟩ QdK)))
 .rintro e u k ⟨x,y,H1,B,σ1,O,z,E,h3,h4,h5,V⟩;have m:(∃j H' r,Le H.length y H1 j H'/\Qcw P fn j H' r/\Q r H')->LeavesInM Fence.wide 0 P fn u.tmps (λe k=>
    ∃v' r H' a τ,e=.returned v'/\Q r H'/\Sim fr a (σ++τ) H' k/\VR a (σ++τ) k r v'/\Qi fr ro w a k) u.defers .returning k:=by
   rintro⟨j,H',r,M,hr,hq⟩;obtain⟨a,σ',g,p,ht⟩:=M O B σ1 N u k h3;have hσ:σ'=σ++σ'.drop H.length:=by
    have T:σ'.take H.length=σ:=by rw[ht,h5,VE (by rw[hs.len];omega)]
    grind[List.take_append_drop]
   have s1:Sim fr a σ' H' k:=g.sim.frMono V.sub;refine Qbl (ro:=a) (fr:=fr) (σ:=σ') (H:=H') u.defers k g.defers.1 (λd l=>?_) s1 (λw2 W t=>?_)
   .obtain⟨D,rfl,J,g2⟩:=g.defers.2 d l;refine⟨D,rfl,λq=>g.sim.roFr D q J,λq=>?_,λi x L F G=>(g.sim.own i D x L F G).2.2 J,λi d x L F G=>(g.sim.hid i d x D L F G).fr J,g2⟩;rcases V.ds _ l with X|⟨D',e,X⟩
    .cases X
    .have:D=D':=by simpa using e
     subst this;have:=hs.frLt D q;omega
   .have R:Rel fr a σ' H' j N {u with defers:=[]} w2:=⟨W,λs=>(g.env s).mono (by have:=t.ext σ' [];grind),g.size,List.nodup_nil,λd l=>by cases l⟩;obtain⟨v,T,e2⟩:=hr fr a σ' N _ w2 R;exact⟨v,T,v,r,H',a,σ'.drop H.length,rfl,hq,hσ▸W,hσ▸e2,(h4.trans (YN p)).trans t⟩
  cases e with
  |normal=>
   obtain rfl:x=.normal:=z;exact m E
  |ret=>
   obtain rfl:x=.ret:=z;exact m E
  |exit id=>
   obtain rfl:x=.exit id:=z;exact E.elim
  |_=>exact z.elim
 .intro s;have:=Qfd (i:=0) [] rfl hl (Array.replicate (fn.ntmps-vals.toArray.size) undef) s
  grind
 grind
section
variable {P:Program} {fn:Func} {env:Env} {H:Qd}
theorem Qcw.nil(h:fn.results= #[]):Qcw P fn env H (.tup []):=
 λfr ro σ N a w r=>⟨.tuple #[],by simp[results,h,go_sem],[],rfl,rfl⟩
theorem Qcw.one{t:Nat}{x:A}(h:fn.results= #[.tmp t])(hx:lk env t=x):Qcw P fn env H x:=
 λfr ro σ N a w r=>⟨a.tmps.getD t undef,by simp[results,h,go_sem],hx▸r.env t⟩
theorem QlC{t u:Nat}{x y:A}(h:fn.results= #[.tmp t,.tmp u])(hx:lk env t=x)(hy:lk env u=y):Qcw P fn env H (.tup [x,y]):=
 λfr ro σ N a w r=>⟨.tuple #[a.tmps.getD t undef,a.tmps.getD u undef],by simp[results,h,go_sem],
  [_,_],rfl,_,_,rfl,hx▸r.env t,_,_,rfl,hy▸r.env u,rfl⟩
theorem QbZ{t u v:Nat}{x y z:A}(h:fn.results= #[.tmp t,.tmp u,.tmp v])(hx:lk env t=x)(hy:lk env u=y)(hz:lk env v=z):
  Qcw P fn env H (.tup [x,y,z]):=
 λfr ro σ N a w r=>⟨.tuple #[a.tmps.getD t undef,a.tmps.getD u undef,a.tmps.getD v undef],by simp[results,h,go_sem],
  [_,_,_],rfl,_,_,rfl,hx▸r.env t,_,_,rfl,hy▸r.env u,_,_,rfl,hz▸r.env v,rfl⟩
end
inductive Ctl (S B:Type) where
 |cont (s:S)
 |done (b:B)
 deriving DecidableEq
def iter{S B:Type}(step:S->Option (Ctl S B)):Nat->S->Option B
 |0,_=>none
 |n+1,s=>match step s with
  |some (.cont s')=>iter step n s'
  |some (.done b)=>some b
  |none=>none
def Qbd{S B:Type}(I:S->Env->Qd->Prop)(d:Ctl S B)(Q:QP):QP
 |.normal,env,H=>∃s,d=.cont s/\I s env H
 |.exit id,env,H=>(∃b,d=.done b)/\Q (.exit id) env H
 |.ret,env,H=>(∃b,d=.done b)/\Q .ret env H
theorem Qnf{P:Program}{h0 N:Nat}{c:Code}{S B:Type}{step:S->Option (Ctl S B)}{I:S->Env->Qd->Prop}{Q:QP}{F:B}
  (body:∀s d env H,I s env H->step s=some d->(∀b,d=.done b->b=F)->TC P h0 N c env H (Qbd I d Q))
  {m:Nat}{M:S}(h:iter step m M=some F){env:Env}{H:Qd}(J:I M env H):TC P h0 N (.loop c) env H Q:=by
 intro V t z σ a w r hrd b k cs hro hb hr;have G:∀m s env H fr1 ro1 σ1 a1 w1,iter step m s=some F->I s env H->Rel fr1 ro1 σ1 H env N a1 w1->Qi t z w ro1 w1->σ1.take h0=σ.take h0->Grow t w a.defers fr1 a1.defers->
   ∃e j i,QaI h0 t z σ w N a.defers Q e j i/\ArrivesIn (Machine.fenced P (WF V)) P (lone (b.atR a1 (.code c::.inLoop c::k)) cs w1) b k cs e j i:=by
  intro m
  induction m with
  |zero=>grind[iter]
  |succ m ih=>
   intro s env H fr1 ro1 σ1 a1 w1 hit J r1 ev1 t1 g1;simp only[iter]at hit;cases X:step s with
   |none=>grind
   |some d=>
    rw[X]at hit;have hd:∀b,d=.done b->b=F:=by
     grind
    obtain⟨e,j,i,L,f⟩:=body s d env H J X hd V fr1 ro1 σ1 a1 w1 r1 (hrd.to ev1 g1.sub) b (.inLoop c::k) cs hro hb hr;obtain⟨x,g,H',n,σ',y,E,p,W,q4,Y,q6⟩:=L;have u:=ev1.trans (q4.frMono g1.sub);have R:=g1.trans ev1.size q6;have T:∀x,Q x g H'->ExR e x->QaI h0 t z σ w N a.defers Q e j i:=λx q q'=>⟨x,g,H',n,σ',y,q',q,W,u,Y.trans t1,R⟩;cases e with
    |normal=>
     obtain rfl:x=.normal:=E;obtain⟨s',rfl,p⟩:=p;obtain⟨e2,a2,w2,O,l⟩:=ih s' g H' y n σ' j i hit p W u (Y.trans t1) R;exact⟨e2,a2,w2,O,.of_steps (StepsIn.trans f (.one (fenced_calm hb hr rfl) stepR_inLoop)) l⟩
    |exit id=>
     obtain rfl:x=.exit id:=E;exact⟨_,j,i,T _ p.2 rfl,.pass (x:=.inLoop c) rfl (by simp) f⟩
    |ret=>
     obtain rfl:x=.ret:=E;exact⟨_,j,i,T _ p.2 rfl,.pass (x:=.inLoop c) rfl (by simp) f⟩
    |_=>exact E.elim
 obtain⟨e,j,i,L,f⟩:=G m M env H t z σ a w h J r (Qi.refl _ _ _) rfl (Grow.refl _ _ _);exact⟨e,j,i,L,.of_steps (.one (fenced_calm hb hr rfl) stepR_loop) f⟩
theorem TC.loop{P:Program}{h0 N:Nat}{c:Code}{S B:Type}{step:S->Option (Ctl S B)}(E:S->Env)(Hp:S->Qd){Q:QP}
  {m:Nat}{s0:S}{b0:B}(h:iter step m s0=some b0){env:Env}{H:Qd}(hI:Le h0 env H (E s0) (Hp s0))
  (body:∀s d,step s=some d->(∀b,d=.done b->b=b0)->TC P h0 N c (E s) (Hp s) (Qbd (λs env H=>Le h0 env H (E s) (Hp s)) d Q)):TC P h0 N (.loop c) env H Q:=
 Qnf (I:=λs env H=>Le h0 env H (E s) (Hp s)) (λs d env H hI hs hd=>Qc hI (body s d hs hd)) h hI
def rho(π:List Nat)(n i:Nat):Nat:=
 match π[i]? with
 |some p=>p
 |none=>n+(i-π.length)
def Yv:Qd->List Nat->List Blk->Qd
 |H,[],xs=>H++xs
 |H,p::π,x::xs=>Yv (H.set p x) π xs
 |H,_::_,[]=>H
theorem Qco:∀(π:List Nat) (H:Qd) (xs:List Blk),π.length<=xs.length->(Yv H π xs).length=H.length+(xs.length-π.length)
 |[],H,xs,_=>by simp[Yv]
 |p::π,H,[],h=>by simp at h
 |p::π,H,x::xs,h=>by
  simp only[XX]at h;simp only[Yv,Qco π (H.set p x) xs (by omega),X0,XX];omega
theorem QcA:∀(π:List Nat) (H:Qd) (xs:List Blk) (i:Nat),i<H.length->i∉π->(Yv H π xs)[i]?=H[i]?
 |[],H,xs,i,hi,_=>by simp[Yv,XK hi]
 |p::π,H,[],i,hi,h=>by simp[Yv]
 |p::π,H,x::xs,i,hi,h=>by
  simp only[X3,not_or]at h;simp only[Yv];rw[QcA π (H.set p x) xs i (by grind) h.2,XN (λe=>h.1 e.symm)]
theorem QeW:∀(π:List Nat) (H:Qd) (xs:List Blk) (j:Nat),π.length<=xs.length->(∀p∈π,p<H.length)->π.Nodup->
  (Yv H π xs)[rho π H.length j]?=xs[j]?
 |[],H,xs,j,_,_,_=>by
  simp_all[Yv,rho,XL]
 |p::π,H,[],j,h,_,_=>by simp at h
 |p::π,H,x::xs,j,h,hp,hn=>by
  simp only[XX]at h;have hn':=List.nodup_cons.1 hn;simp only[Yv];cases j with
  |zero=>
   grind[rho,QcA]
  |succ j=>
   have ih:=QeW π (H.set p x) xs j (by omega) (λq hq=>by grind) hn'.2;rw[X0]at ih;have e:rho (p::π) H.length (j+1)=rho π H.length j:=by
    simp only[rho,XD,XX];simp
   grind
theorem QkY(π:List Nat)(n i:Nat)(hi:n<=i\/i∈π):∃j,i=rho π n j:=by
 rcases hi with hi|hi
 .refine⟨π.length+(i-n),?_⟩
  grind[rho]
 .obtain⟨j,a,rfl⟩:=List.mem_iff_getElem.1 hi;exact⟨j,by simp[rho,XI a]⟩
def Yx(σ:Sig)(π:List Nat):Sig:=π.map λp=>(σ[p]?).getD none
theorem Qeq{σ τ:Sig}{π:List Nat}{n:Nat}(d:σ.length=n)(a:∀p∈π,p<n)(j:Nat):(σ++τ)[rho π n j]?=(Yx σ π++τ)[j]? :=by
 rcases(by omega)with h|h
 .grind[rho,Yx]
 grind[rho,Yx]
def OpC(P:Program)(o:Oper)(env:Env)(H:Qd)(f:FuncId)(args:List A):Prop:=
 ∀fr ro σ N a w,Rel fr ro σ H env N a w->∃vals:List Value,(execOp a.eval o).run P w=.ok (.enter f vals.toArray) w/\LR ro σ w args vals
theorem Jo{π:List Nat}{H:Qd}{Hc:List Blk}(d:π.map (λp=>H[p]?)=Hc.map some){p:Nat}(a:p∈π):p<H.length:=by
 grind[List.mem_map_of_mem]
theorem WO.call{P:Program}{h0 N:Nat}{all:Array Oper}{o:Oper}{l:List Oper}{env:Env}{H:Qd}{Q:QP}{d:Option Nat}{f:FuncId}
  {args aa:List A}{Hc:Qd}{Qr:A->Qd->Prop}(π:List Nat)(hh:h0<=H.length)(hg:QB all o env true)(hd:o.dst=d)(hN:∀x,d=some x->x<N)
  (au:OpC P o env H f args)(hargs:args=Qag (rho π H.length) aa)(hH:π.map (λp=>H[p]?)=(Hc.map (Q8 (rho π H.length))).map some)(hπ:π.Nodup)
  (hC:C P f aa Hc Qr)
  (k:∀r H1,Qr r H1->WO P h0 N all l (match d with|some d=>up env d (Y1 (rho π H.length) r)|none=>env) (Yv H π (H1.map (Q8 (rho π H.length)))) Q):
  WO P h0 N all (o::l) env H Q:=by
 intro rd fr ro σ a w r hrd;obtain⟨ai,h1,h2⟩:=au fr ro σ N a w r;refine Qgh (Je hg r) h1 ?_;have hp:∀p∈π,p<H.length:=λp q=>Jo hH q;have hσl:=r.sim.len;have ab:∀(j p:Nat),π[j]?=some p->H[p]?=(Hc[j]?).map (Q8 (rho π H.length)):=by
  intro j p M;have:=congrArg (λl=>l[j]?) hH;simp only[Xn,M,Xj]at this;cases e:Hc[j]? with
  |none=>rw[e]at this;simp at this
  |some x=>rw[e]at this;simpa using this
 have aj:π.length=Hc.length:=by simpa using congrArg List.length hH
 have hσc:∀j:Nat,σ[rho π H.length j]?=(Yx σ π)[j]? :=by
  intro j;have:=Qeq (τ:=[]) hσl hp j;simpa using this
 let frc:Nat->Prop:=λb=>fr b\/(∃i x,σ[i]?=some (some b)/\H[i]?=some x/\x.live=true/\i∉π)\/ ∃i x d,σ[i]?=some (some d)/\H[i]?=some x/\Hid w x d b/\i∉π
 have hπj:∀(j b:Nat),(Yx σ π)[j]?=some (some b)->∃p,π[j]?=some p/\σ[p]?=some (some b):=by
  intro j b M;simp only[Yx,Xn]at M;cases e:π[j]? with
  |none=>rw[e]at M;simp at M
  |some p=>
   rw[e]at M;simp at M;refine⟨p,rfl,?_⟩;cases e2:σ[p]? with
   |none=>rw[e2]at M;simp at M
   |some s=>rw[e2]at M;simp at M;rw[M]
 have hπi:∀(i j p:Nat),π[i]?=some p->π[j]?=some p->i=j:=by
  intro i j p T O;have hi:i<π.length:=by
   rcases Vy i π.length with q|q
   .exact q
   .rw[XM q]at T;simp at T
  have M:j<π.length:=by
   rcases Vy j π.length with q|q
   .exact q
   .rw[XM q]at O;simp at O
  rw[XI hi]at T;rw[XI M]at O;have ae:=(XW T).trans (XW O).symm;rcases Nat.lt_trichotomy i j with q|q|q
  .exact(VA.1 hπ i j hi M q ae).elim
  .exact q
  .exact(VA.1 hπ j i M hi q ae.symm).elim
 have ak:Sim frc ro (Yx σ π) Hc w:=by
  refine⟨by simp[Yx,aj],r.sim.roOk,?_,?_,?_,?_,?_,?_⟩
  .rintro b (hb|⟨i,x,h,g,m,J⟩|⟨i,x,d,h,g,m,J⟩)
   .exact r.sim.frLt b hb
   .exact(r.sim.own i b x h g m).1
   .exact(r.sim.hid i d x b h g m).lt
  .rintro b hb (hf|⟨i,x,h,g,m,J⟩|⟨i,x,d,h,g,m,J⟩)
   .exact r.sim.roFr b hb hf
   .exact(r.sim.own i b x h g m).2.1 hb
   .exact(r.sim.hid i d x b h g m).ro hb
  .intro j b x h g m;obtain⟨p,T,e2⟩:=hπj j b h;have e3:H[p]?=some (Q8 (rho π H.length) x):=by rw[ab j p T,g];rfl
   obtain⟨o1,o2,o3⟩:=r.sim.own p b _ e2 e3 (by rw[QM];exact m);refine⟨o1,o2,?_⟩;rintro(hf|⟨i,y,y1,y2,y3,y4⟩|⟨i,y,d,y1,y2,y3,y4⟩)
   .exact o3 hf
   .have:=r.sim.inj i p b _ _ y1 e2 y2 e3 y3 (by rw[QM];exact m);subst this;exact y4 (VD T)
   .exact(r.sim.hid i d y b y1 y2 y3).ne p b _ e2 e3 (by rw[QM];exact m) rfl
  .intro i j b x y h g m J X q6;obtain⟨p,T,e2⟩:=hπj i b h;obtain⟨p',O,aq⟩:=hπj j b g;have e3:H[p]?=some (Q8 (rho π H.length) x):=by rw[ab i p T,m];rfl
   have am:H[p']?=some (Q8 (rho π H.length) y):=by rw[ab j p' O,J];rfl
   have:=r.sim.inj p p' b _ _ e2 aq e3 am (by rw[QM];exact X) (by rw[QM];exact q6);subst this;have hi:i<π.length:=by
    rcases Vy i π.length with q|q
    .exact q
    .rw[XM q]at T;simp at T
   have M:j<π.length:=by
    rcases Vy j π.length with q|q
    .exact q
    .rw[XM q]at O;simp at O
   rw[XI hi]at T;rw[XI M]at O;have ae:=(XW T).trans (XW O).symm;rcases Nat.lt_trichotomy i j with q|q|q
   .exact(VA.1 hπ i j hi M q ae).elim
   .exact q
   .exact(VA.1 hπ j i M hi q ae.symm).elim
  .intro j s x h g;have M:j<π.length:=by
    rcases Vy j π.length with q|q
    .exact q
    .rw[XM (by simpa[Yx]using q)]at h;simp at h
   have T:π[j]?=some π[j]:=XI M;have e3:H[π[j]]?=some (Q8 (rho π H.length) x):=by rw[ab j _ T,g];rfl
   have e2:σ[π[j]]?=some s:=by
    have:=hσc j;rw[h]at this;simpa[rho,T]using this
   exact(QhR hσc).1 (r.sim.blk _ s _ e2 e3)
  .intro j b x c h g m;obtain⟨p,T,e2⟩:=hπj j b h;have e3:H[p]?=some (Q8 (rho π H.length) x):=by rw[ab j p T,g];rfl
   have k:=r.sim.hid p b _ c e2 e3 ((Qah _ _ _ _ _).2 m);refine⟨k.lt,k.ro,?_,?_,?_⟩
   .rintro(hf|⟨i,y,y1,y2,y3,y4⟩|⟨i,y,d,y1,y2,y3,y4⟩)
    .exact k.fr hf
    .exact k.ne i c y y1 y2 y3 rfl
    .obtain⟨rfl,rfl⟩:=k.one i d y y1 y2 y3;exact y4 (VD T)
   .intro R b' y L n Y;obtain⟨p',f1,f2⟩:=hπj R b' L;exact k.ne p' b' _ f2 (show H[p']?=some (Q8 (rho π H.length) y)by rw[ab R p' f1,n];rfl) (by rw[QM];exact Y)
   .intro R b' y L n Y;obtain⟨p',f1,f2⟩:=hπj R b' L;obtain⟨z4,z5⟩:=k.one p' b' _ f2 (show H[p']?=some (Q8 (rho π H.length) y)by rw[ab R p' f1,n];rfl) ((Qah _ _ _ _ _).2 Y);subst z5;exact⟨z4,hπi R j p' f1 T⟩
 have ag:LR ro (Yx σ π) w aa ai:=(Qbw hσc).1 (hargs▸h2);refine Calls.mono (hC frc ro (Yx σ π) ai w ak ag) ?_;rintro e w' ⟨v,rr,H1,ac,τ,rfl,hq,sc,hv,ev⟩;have hσ':∀j:Nat,(σ++τ)[rho π H.length j]?=(Yx σ π++τ)[j]? :=λj=>Qeq hσl hp j;have an:H1.length=π.length+τ.length:=by rw[<- sc.len];simp[Yx]
 have al:π.length<=(H1.map (Q8 (rho π H.length))).length:=by simp;omega
 have W:Qi fr ro w ac w':=⟨ev.sub,ev.keepRo,λb q=>ev.keepFr b (.inl q),ev.size,ev.shape,ev.os,ev.tape,ev.output,ev.drawn⟩;have F:∀j,(Yv H π (H1.map (Q8 (rho π H.length))))[rho π H.length j]?=(H1[j]?).map (Q8 (rho π H.length)):=by
  intro j;rw[QeW π H _ j al hp hπ];simp
 have B:∀i,i<H.length->i∉π->(Yv H π (H1.map (Q8 (rho π H.length))))[i]?=H[i]? :=λi=>QcA π H _ i;have t:∀i:Nat,(∃j,i=rho π H.length j)\/(i<H.length/\i∉π):=by
  intro i;by_cases q:H.length<=i\/i∈π
  .exact .inl (QkY π H.length i q)
  .simp only[not_or]at q;exact .inr ⟨by omega,q.2⟩
 have G:∀i b x,i<H.length->i∉π->σ[i]?=some (some b)->H[i]?=some x->x.live=true->frc b:=λi b x h g m J X=>.inr (.inl ⟨i,x,m,J,X,g⟩);have af:∀i b x c,i<H.length->i∉π->σ[i]?=some (some b)->H[i]?=some x->Hid w' x b c->Hid w x b c/\frc c:=λi b x c h g m J X=>
  have q6:=r.sim.hidKeep m J (λz=>ev.keepFr b (G i b x h g m J z)) ev.keepRo X
  ⟨q6,.inr (.inr ⟨i,x,b,m,J,q6,g⟩)⟩
 have ah:Sim fr ac (σ++τ) (Yv H π (H1.map (Q8 (rho π H.length)))) w':=by
  refine⟨?_,sc.roOk,λb q=>sc.frLt b (.inl q),λb q q'=>sc.roFr b q (.inl q'),?_,?_,?_,?_⟩
  .rw[Qco _ _ _ al];simp[hσl,an]
  .intro i b x h g m;rcases t i with⟨j,rfl⟩|⟨c1,c2⟩
   .rw[hσ']at h;rw[F]at g;cases e:H1[j]? with
    |none=>rw[e]at g;simp at g
    |some y=>
     rw[e]at g;simp at g;subst g;obtain⟨o1,o2,o3⟩:=sc.own j b y h e (by rw[QM]at m;exact m);exact⟨o1,o2,λq=>o3 (.inl q)⟩
   .rw[B i c1 c2]at g;rw[XK (by omega)]at h;obtain⟨o1,o2,o3⟩:=r.sim.own i b x h g m;exact⟨Vb o1 ev.size,λq=>sc.roFr b q (G i b x c1 c2 h g m),o3⟩
  .intro i E b x y h g m J X q6;have ad:∀(i E:Nat) (x y:Blk),(∃j,i=rho π H.length j)->(E<H.length/\E∉π)->(σ++τ)[i]?=some (some b)->(σ++τ)[E]?=some (some b)->
     (Yv H π (H1.map (Q8 (rho π H.length))))[i]?=some x->(Yv H π (H1.map (Q8 (rho π H.length))))[E]?=some y->x.live=true->y.live=true->False:=by
    rintro i E x y ⟨j,rfl⟩ ⟨c1,c2⟩ h g m J X q6;rw[hσ']at h;rw[F]at m;rw[B E c1 c2]at J;rw[XK (by omega)]at g;cases e:H1[j]? with
    |none=>rw[e]at m;simp at m
    |some z=>
     rw[e]at m;simp at m;subst m;exact(sc.own j b z h e (by rw[QM]at X;exact X)).2.2 (G E b y c1 c2 g J q6)
   rcases t i with ci|ci<;>rcases t E with ci'|ci'
   .obtain⟨j,rfl⟩:=ci;obtain⟨R,rfl⟩:=ci';rw[hσ']at h g;rw[F]at m J;cases e:H1[j]? with
    |none=>rw[e]at m;simp at m
    |some z=>
     cases V:H1[R]? with
     |none=>rw[V]at J;simp at J
     |some z'=>
      rw[e]at m;simp at m;subst m;rw[V]at J;simp at J;subst J;rw[sc.inj j R b z z' h g e V (by rw[QM]at X;exact X) (by rw[QM]at q6;exact q6)]
   .exact(ad i E x y ci ci' h g m J X q6).elim
   .exact(ad E i y x ci' ci g h J m q6 X).elim
   .rw[B i ci.1 ci.2]at m;rw[B E ci'.1 ci'.2]at J;rw[XK (by omega)]at h g;exact r.sim.inj i E b x y h g m J X q6
  .intro i s x h g;rcases t i with⟨j,rfl⟩|⟨c1,c2⟩
   .rw[hσ']at h;rw[F]at g;cases e:H1[j]? with
    |none=>rw[e]at g;simp at g
    |some y=>
     rw[e]at g;simp at g;subst g;exact(QhR hσ').2 (sc.blk j s y h e)
   .rw[B i c1 c2]at g;rw[XK (by omega)]at h;refine BR.keep (W.ext σ τ) ?_ (r.sim.blk i s x h g) ?_
    .rintro b rfl hl;exact ev.keepFr b (G i b x c1 c2 h g hl)
    .rintro b c rfl hl;exact ev.keepFr c (.inr (.inr ⟨i,x,b,h,g,hl,c2⟩))
  .intro i b x c h g m;rcases t i with⟨j,rfl⟩|⟨c1,c2⟩
   .rw[hσ']at h;rw[F]at g;cases e:H1[j]? with
    |none=>rw[e]at g;simp at g
    |some y=>
     rw[e]at g;simp at g;subst g;have k:=sc.hid j b y c h e ((Qah _ _ _ _ _).1 m);refine⟨k.lt,k.ro,λq=>k.fr (.inl q),?_,?_⟩
     .intro E b' y' L n Y;rcases t E with⟨R,rfl⟩|⟨d1,d2⟩
      .rw[hσ']at L;rw[F]at n;cases V:H1[R]? with
       |none=>rw[V]at n;simp at n
       |some u=>
        rw[V]at n;simp at n;subst n;exact k.ne R b' u L V (by rw[QM]at Y;exact Y)
      .rw[B E d1 d2]at n;rw[XK (by omega)]at L;rintro rfl;exact k.fr (G E c y' d1 d2 L n Y)
     .intro E b' y' L n Y;rcases t E with⟨R,rfl⟩|⟨d1,d2⟩
      .rw[hσ']at L;rw[F]at n;cases V:H1[R]? with
       |none=>rw[V]at n;simp at n
       |some u=>
        rw[V]at n;simp at n;subst n;obtain⟨z4,rfl⟩:=k.one R b' u L V ((Qah _ _ _ _ _).1 Y);exact⟨z4,rfl⟩
      .rw[B E d1 d2]at n;rw[XK (by omega)]at L;exact(k.fr (af E b' y' c d1 d2 L n Y).2).elim
   .rw[B i c1 c2]at g;rw[XK (by omega)]at h;obtain⟨J,X⟩:=af i b x c c1 c2 h g m;have k:=r.sim.hid i b x c h g J;refine⟨Vb k.lt ev.size,λq=>sc.roFr c q X,k.fr,?_,?_⟩
    .intro E b' y' L n Y;rcases t E with⟨R,rfl⟩|⟨d1,d2⟩
     .rw[hσ']at L;rw[F]at n;cases V:H1[R]? with
      |none=>rw[V]at n;simp at n
      |some u=>
       rw[V]at n;simp at n;subst n;rintro rfl;exact(sc.own R c u L V (by rw[QM]at Y;exact Y)).2.2 X
     .rw[B E d1 d2]at n;rw[XK (by omega)]at L;exact k.ne E b' y' L n Y
    .intro E b' y' L n Y;rcases t E with⟨R,rfl⟩|⟨d1,d2⟩
     .rw[hσ']at L;rw[F]at n;cases V:H1[R]? with
      |none=>rw[V]at n;simp at n
      |some u=>
       rw[V]at n;simp at n;subst n;exact((sc.hid R b' u c L V ((Qah _ _ _ _ _).1 Y)).fr X).elim
     .rw[B E d1 d2]at n;rw[XK (by omega)]at L;exact k.one E b' y' L n (af E b' y' c d1 d2 L n Y).1
 have ar:VR ac (σ++τ) w' (Y1 (rho π H.length) rr) v:=(QdI hσ').2 hv;have hk:=k rr H1 hq;cases d with
 |none=>
  simp only[hd,Act.put];have r':Rel fr ac (σ++τ) (Yv H π (H1.map (Q8 (rho π H.length)))) env N a w':=⟨ah,λs=>(r.env s).mono (W.ext σ τ),r.size,r.defers.keep W⟩;exact⟨_,rfl,YB (λe a w q=>q.step W (QG (by omega))) _ _ _ (hk rd fr ac (σ++τ) _ w' r' (hrd.to W λ_ q=>q))⟩
 |some d=>
  simp only[hd,Act.put];have ao:=hN d rfl;have r':Rel fr ac (σ++τ) (Yv H π (H1.map (Q8 (rho π H.length)))) (up env d (Y1 (rho π H.length) rr)) N {a with tmps:=a.tmps.setIfInBounds d v} w':=
   ⟨ah,VR.up (fr:=fr) (λs=>(r.env s).mono (W.ext σ τ)) (by rw[r.size];exact ao) ar,by simpa using r.size,r.defers.keep W⟩
  exact⟨_,rfl,YB (λe a w q=>q.step W (QG (by omega))) _ _ _ (hk rd fr ac (σ++τ) _ w' r' (hrd.to W λ_ q=>q))⟩
section
variable {P:Program} {o:Oper} {env:Env} {H:Qd}
theorem Qy{fr ro:Nat->Prop}{σ:Sig}{N:Nat}{a:Act}{w:World}(r:Rel fr ro σ H env N a w){x:Operand}{k:IntKind}{n:Int}(h:opA env x=.int k n):a.eval x=.int k n:=by
 have:=Qk r x;rw[h]at this;exact this
theorem Qc1{fr ro:Nat->Prop}{σ:Sig}{N:Nat}{a:Act}{w:World}(r:Rel fr ro σ H env N a w){x:Operand}{b:Bool}(h:opA env x=.bool b):a.eval x=.bool b:=by
 have:=Qk r x;rw[h]at this;exact this
theorem Qev{fr ro:Nat->Prop}{σ:Sig}{N:Nat}{a:Act}{w:World}(r:Rel fr ro σ H env N a w){x:Operand}{s:List UInt8}(h:opA env x=.str s):a.eval x=.string ⟨s.toArray⟩:=by
 have:=Qk r x;rw[h]at this;exact this
theorem OpV.move{x:Operand}{v:A}(ho:o.op=.move x)(hx:opA env x=v):OpV P o env H v:=
 λfr ro σ N a w r=>⟨a.eval x,by simp[execOp,ho,go_sem],hx▸Qk r x⟩
theorem OpV.assign{x:Operand}{v:A}(ho:o.op=.assign x)(hx:opA env x=v):OpV P o env H v:=
 λfr ro σ N a w r=>⟨a.eval x,by simp[execOp,ho,go_sem],hx▸Qk r x⟩
theorem OpV.pick{c x y:Operand}{b:Bool}{v:A}(g:o.op=.pick c x y)(d:opA env c=.bool b)(e:(if b then opA env x else opA env y)=v):OpV P o env H v:=by
 intro f h σ N a w r;have i:=Qc1 r d;refine⟨if b then a.eval x else a.eval y,by simp_all[execOp,asBool],?_⟩
 grind[Qk]
theorem OpV.add{t u:TypeId}{x y:Operand}{k:IntKind}{m n:Int}(i:o.op=.binOp .add t x y u)(d:opA env x=.int k m)(e:opA env y=.int k n):OpV P o env H (.int k (k.wrap (m+n))):=by
 intro h j σ N a w r;have g:=Qy r d;have f:=Qy r e;refine⟨_,?_,rfl⟩
 simp_all[execOp,Go.binOp,eqGuard,Op.intArith]
theorem OpV.sub{t u:TypeId}{x y:Operand}{k:IntKind}{m n:Int}(i:o.op=.binOp .sub t x y u)(d:opA env x=.int k m)(e:opA env y=.int k n):OpV P o env H (.int k (k.wrap (m-n))):=by
 intro h j σ N a w r;have g:=Qy r d;have f:=Qy r e;refine⟨_,?_,rfl⟩
 simp_all[execOp,Go.binOp,eqGuard,Op.intArith]
theorem OpV.mul{t u:TypeId}{x y:Operand}{k:IntKind}{m n:Int}(i:o.op=.binOp .mul t x y u)(d:opA env x=.int k m)(e:opA env y=.int k n):OpV P o env H (.int k (k.wrap (m*n))):=by
 intro h j σ N a w r;have g:=Qy r d;have f:=Qy r e;refine⟨_,?_,rfl⟩
 simp_all[execOp,Go.binOp,eqGuard,Op.intArith]
theorem OpV.cmp{op:BinOp}{t u:TypeId}{x y:Operand}{k:IntKind}{m n:Int}{f:Int->Int->Bool}(j:o.op=.binOp op t x y u)(h:opA env x=.int k m)(i:opA env y=.int k n)
  (d:op=.eql/\f=(λa b=>a==b)\/op=.neq/\f=(λa b=>a != b)\/op=.lss/\f=(λa b=>decide (a<b))\/op=.leq/\f=(λa b=>decide (a<=b))\/
   op=.gtr/\f=(λa b=>decide (b<a))\/op=.geq/\f=(λa b=>decide (b<=a))):OpV P o env H (.bool (f m n)):=by
 intro l p σ N a w r;have g:=Qy r h;have e:=Qy r i;refine⟨_,?_,rfl⟩;generalize a.eval=ρ at*;rcases d with⟨rfl,rfl⟩|⟨rfl,rfl⟩|⟨rfl,rfl⟩|⟨rfl,rfl⟩|⟨rfl,rfl⟩|⟨rfl,rfl⟩<;>simp[execOp,j,g,e,Go.binOp,eqGuard,Op.intCmp,go_sem]
theorem OpV.eql{t u:TypeId}{x y:Operand}{k:IntKind}{m n:Int}(ho:o.op=.binOp .eql t x y u)(hx:opA env x=.int k m)(hy:opA env y=.int k n):OpV P o env H (.bool (m==n)):=
 OpV.cmp (f:=λa b=>a==b) ho hx hy (by simp)
theorem OpV.neq{t u:TypeId}{x y:Operand}{k:IntKind}{m n:Int}(ho:o.op=.binOp .neq t x y u)(hx:opA env x=.int k m)(hy:opA env y=.int k n):OpV P o env H (.bool (m != n)):=
 OpV.cmp (f:=λa b=>a != b) ho hx hy (by simp)
theorem OpV.lss{t u:TypeId}{x y:Operand}{k:IntKind}{m n:Int}(ho:o.op=.binOp .lss t x y u)(hx:opA env x=.int k m)(hy:opA env y=.int k n):OpV P o env H (.bool (decide (m<n))):=
 OpV.cmp (f:=λa b=>decide (a<b)) ho hx hy (by simp)
theorem OpV.leq{t u:TypeId}{x y:Operand}{k:IntKind}{m n:Int}(ho:o.op=.binOp .leq t x y u)(hx:opA env x=.int k m)(hy:opA env y=.int k n):OpV P o env H (.bool (decide (m<=n))):=
 OpV.cmp (f:=λa b=>decide (a<=b)) ho hx hy (by simp)
theorem OpV.gtr{t u:TypeId}{x y:Operand}{k:IntKind}{m n:Int}(ho:o.op=.binOp .gtr t x y u)(hx:opA env x=.int k m)(hy:opA env y=.int k n):OpV P o env H (.bool (decide (n<m))):=
 OpV.cmp (f:=λa b=>decide (b<a)) ho hx hy (by simp)
theorem OpV.geq{t u:TypeId}{x y:Operand}{k:IntKind}{m n:Int}(ho:o.op=.binOp .geq t x y u)(hx:opA env x=.int k m)(hy:opA env y=.int k n):OpV P o env H (.bool (decide (n<=m))):=
 OpV.cmp (f:=λa b=>decide (b<=a)) ho hx hy (by simp)
theorem OpV.rem{t u:TypeId}{x y:Operand}{k:IntKind}{m n:Int}(j:o.op=.binOp .rem t x y u)(d:opA env x=.int k m)(e:opA env y=.int k n)(i:n≠0):OpV P o env H (.int k (m.tmod n)):=by
 intro h l σ N a w r;have g:=Qy r d;have f:=Qy r e;exact⟨_,by simp_all[execOp,Go.binOp,eqGuard,Op.intDiv],rfl⟩
theorem OpV.quo{t u:TypeId}{x y:Operand}{k:IntKind}{m n:Int}(j:o.op=.binOp .quo t x y u)(d:opA env x=.int k m)(e:opA env y=.int k n)(i:n≠0):OpV P o env H (.int k (k.wrap (m.tdiv n))):=by
 intro h l σ N a w r;have g:=Qy r d;have f:=Qy r e;exact⟨_,by simp_all[execOp,Go.binOp,eqGuard,Op.intDiv],rfl⟩
theorem OpV.not{t:TypeId}{x:Operand}{b:Bool}(g:o.op=.unOp .not t x)(d:opA env x=.bool b):OpV P o env H (.bool !b):=by
 intro f h σ N a w r;have e:=Qc1 r d;exact⟨_,by simp_all[execOp,Op.unary],rfl⟩
theorem OpV.neg{t:TypeId}{x:Operand}{k:IntKind}{n:Int}(g:o.op=.unOp .neg t x)(d:opA env x=.int k n):OpV P o env H (.int k (k.wrap (0-n))):=by
 intro f h σ N a w r;have e:=Qy r d;exact⟨_,by simp_all[execOp,Op.unary,Op.intArith],rfl⟩
theorem Yy{s t:TypeId}{x:Operand}{k f:IntKind}{n:Int}{e:TypeDesc}(l:o.op=.convert s t x)(i:∀w,(underlying s).run P w=.ok e w)(j:∀w,(underlying t).run P w=.ok (.int k) w)
  (d:opA env x=.int f n):OpV P o env H (.int k (k.wrap n)):=by
 intro h m σ N a w r;have g:=Qy r d;refine⟨_,?_,rfl⟩
 simp_all[execOp,convert,Conv.intToInt]
theorem Qcf{op:BinOp}{t u:TypeId}{x y:Operand}{p q:List UInt8}{f:List UInt8->List UInt8->Bool}(l:o.op=.binOp op t x y u)(i:opA env x=.str p)(j:opA env y=.str q)
  (d:op=.eql/\f=(λa b=>a==b)\/op=.neq/\f=(λa b=>a != b)\/op=.lss/\f=Op.bytesLess\/op=.geq/\f=(λa b=> !Op.bytesLess a b)\/
   op=.leq/\f=(λa b=>Op.bytesLess a b||a==b)\/op=.gtr/\f=(λa b=> !(Op.bytesLess a b||a==b))):OpV P o env H (.bool (f p q)):=by
 intro m n σ N a w r;have g:=Qev r i;have e:=Qev r j;refine⟨_,?_,rfl⟩;generalize a.eval=ρ at*;have h:(⟨p.toArray⟩:ByteArray).toList=p:=by simp
 have k:(⟨q.toArray⟩:ByteArray).toList=q:=by simp
 rcases d with⟨rfl,rfl⟩|⟨rfl,rfl⟩|⟨rfl,rfl⟩|⟨rfl,rfl⟩|⟨rfl,rfl⟩|⟨rfl,rfl⟩<;>simp[execOp,l,g,e,Go.binOp,eqGuard,Op.stringOp,h,k,go_sem,bne]
theorem QdM{t u:TypeId}{x y:Operand}{p q:List UInt8}(ho:o.op=.binOp .eql t x y u)(hx:opA env x=.str p)(hy:opA env y=.str q):OpV P o env H (.bool (p==q)):=
 Qcf (f:=λa b=>a==b) ho hx hy (by simp)
theorem QlF{t u:TypeId}{x y:Operand}{p q:List UInt8}(ho:o.op=.binOp .neq t x y u)(hx:opA env x=.str p)(hy:opA env y=.str q):OpV P o env H (.bool (p != q)):=
 Qcf (f:=λa b=>a != b) ho hx hy (by simp)
theorem QlG{t u:TypeId}{x y:Operand}{p q:List UInt8}(ho:o.op=.binOp .lss t x y u)(hx:opA env x=.str p)(hy:opA env y=.str q):OpV P o env H (.bool (Op.bytesLess p q)):=
 Qcf ho hx hy (by simp)
theorem QlH{t:TypeId}{x y:Operand}{s:List UInt8}{k:IntKind}{n:Int}{c:UInt8}(m:o.op=.index t x y)(z:∀w,(underlying t).run P w=.ok .string w)(f:opA env x=.str s)(g:opA env y=.int k n)
  (u:0<=n)(j:s[n.toNat]?=some c):OpV P o env H (.int .u8 c.toNat):=by
 intro q B σ N a w r;have p:=Qev r f;have l:=Qy r g;have h:(⟨s.toArray⟩:ByteArray)[n.toNat]?=some c:=by
  obtain⟨d,i⟩:=XJ.1 j;have e:(⟨s.toArray⟩:ByteArray).size=s.length:=by rfl
  rw[getElem?_pos _ _ (by rw[e];exact d)];show some (s.toArray[n.toNat]'(by omega))=some c;simp[i]
 refine⟨_,?_,rfl⟩
 simp_all[execOp,Instr.index,asIntOf]
theorem Jc{c:Call}{t:TypeId}{x:Operand}{s:List UInt8}(g:o.op=.call c)(h:c={callee:=.builtin .len,args:= #[x],argTypes:= #[t]})(d:∀w,(underlying t).run P w=.ok .string w)
  (f:opA env x=.str s):OpV P o env H (.int .i64 s.length):=by
 intro i j σ N a w r;have e:=Qev r f;refine⟨_,?_,rfl⟩;generalize a.eval=ρ at*;subst h;simp[execOp,g,e,resolve,invoke,Go.builtin,Builtin.len_,d,goInt,go_sem]<;>rfl
theorem Qnm{c:Call}{t e:TypeId}{x:Operand}{k:Nat}{es:List (List A)}(i:o.op=.call c)(j:c={callee:=.builtin .len,args:= #[x],argTypes:= #[t]})(g:∀w,(underlying t).run P w=.ok (.slice e) w)
  (f:opA env x=.rsl k es):OpV P o env H (.int .i64 es.length):=by
 intro m n σ N a w r;have d:=Qk r x;rw[f]at d;obtain⟨l,h,d,_⟩:=d;refine⟨_,?_,rfl⟩;generalize a.eval=ρ at*;subst j;simp[execOp,i,d,resolve,invoke,Go.builtin,Builtin.len_,g,goInt,go_sem]
theorem QiV{c:Call}{t e:TypeId}{x:Operand}{i s n k:Nat}(j:o.op=.call c)(l:c={callee:=.builtin .len,args:= #[x],argTypes:= #[t]})(g:∀w,(underlying t).run P w=.ok (.slice e) w)
  (f:opA env x=.osl i s n k):OpV P o env H (.int .i64 n):=by
 intro q y σ N a w r;have d:=Qk r x;rw[f]at d;refine⟨_,?_,rfl⟩;generalize a.eval=ρ at*;subst l;rcases d with⟨rfl,d⟩|⟨b,p,h,u,m,_,d,_⟩<;>
 simp[execOp,j,d,resolve,invoke,Go.builtin,Builtin.len_,g,goInt,go_sem]
structure QL (P:Program) (T f off n:Nat):Prop where
 h:∃fs fd,(∀w,(underlying T).run P w=.ok (.struct fs) w)/\fs[f]?=some fd/\fd.offset=off/\(∀w,(sizeOf fd.type).run P w=.ok n w)/\n≠0
theorem Y3(b off n:Nat):(⟨b,off,none⟩:Addr).add n=⟨b,off+n,none⟩:=by
 simp_all[Addr.add]
theorem QdT{T f off n b p:Nat}(a:QL P T f off n)(w:World):(Instr.fieldAt T (.pointer (some ⟨b,p,none⟩)) f).run P w=.ok (.pointer (some ⟨b,p+off,none⟩)) w:=by
 obtain⟨j,d,i,e,rfl,k,g⟩:=a.h
 simp_all[Instr.fieldAt,Instr.sureAddr,fieldPlace,Y3]
theorem QcO{T f off n i p:Nat}{x:Operand}(h:QL P T f off n)(j:o.op=.fieldAddr T x f)(g:opA env x=.ptr i p):OpV P o env H (.ptr i (p+off)):=by
 intro k l σ N a w r;have d:=Qk r x;rw[g]at d;obtain⟨b,d,e⟩:=d;refine⟨.pointer (some ⟨b,p+off,none⟩),?_,b,d,rfl⟩;generalize a.eval=ρ at*;simp only[execOp,j,e,Vi,QdT h];rfl
theorem CR.drop{ro:Nat->Prop}{σ:Sig}{w:World}{b:Nat}:∀(n:Nat) {cs:List A} {off:Nat},CR ro σ w b cs off->CR ro σ w b (cs.drop n) (off+n)
 |0,_,_,h=>h
 |n+1,[],_,h=>trivial
 |n+1,c::cs,off,h=>by
  have:=CR.drop n h.2
  grind
theorem CR.take{ro:Nat->Prop}{σ:Sig}{w:World}{b:Nat}:∀(n:Nat) {cs:List A} {off:Nat},CR ro σ w b cs off->CR ro σ w b (cs.take n) off
 |0,_,_,h=>trivial
 |n+1,[],_,h=>trivial
 |n+1,c::cs,off,h=>⟨h.1,CR.take n h.2⟩
theorem QfU{T f off n:Nat}{x:Operand}{cs cs':List A}(h:QL P T f off n)(j:o.op=.fieldAddr T x f)(i:opA env x=.rp cs)(e:cs.drop off=cs'):OpV P o env H (.rp cs'):=by
 intro l m σ N a w r;have d:=Qk r x;rw[i]at d;obtain⟨b,p,d,g,k⟩:=d;refine⟨.pointer (some ⟨b,p+off,none⟩),?_,b,p+off,rfl,g,e▸k.drop off⟩;generalize a.eval=ρ at*;simp only[execOp,j,d,Vi,QdT h];rfl
theorem RR.get{ro:Nat->Prop}{σ:Sig}{w:World}{b k:Nat}:∀(n:Nat) {es:List (List A)} {off:Nat} {c:List A},RR ro σ w b k es off->es[n]?=some c->c.length=k/\CR ro σ w b c (off+n*k)
 |n,[],_,_,h,hc=>by simp at hc
 |0,e::es,off,c,h,hc=>by
  simp at hc;subst hc;exact⟨h.1,by simpa using h.2.1⟩
 |n+1,e::es,off,c,h,hc=>by
  have:=RR.get n h.2.2 (by simpa using hc)
  grind
theorem Qou{t e:TypeId}{x y:Operand}{k:Nat}{es:List (List A)}{B:IntKind}{n:Int}{c:List A}(G:o.op=.indexAddr t x y)(F:∀w,(underlying t).run P w=.ok (.slice e) w)
  (l:∀w,(sizeOf e).run P w=.ok k w)(h:opA env x=.rsl k es)(i:opA env y=.int B n)(j:0<=n)(q:es[n.toNat]?=some c):OpV P o env H (.rp c):=by
 intro O M σ N a w r;have f:=Qk r x;rw[h]at f;have s:=Qy r i;obtain⟨J,E,f,L,p⟩:=f;have g:n.toNat<es.length:=(by grind);rcases p with rfl|⟨b,d,rfl,u,m⟩
 .simp at g
 have z:n<es.length:=by omega
 refine⟨.pointer (some ⟨b,d+n.toNat*k,none⟩),?_,b,d+n.toNat*k,rfl,u,(m.get n.toNat q).2⟩;generalize a.eval=ρ at*;simp[execOp,G,f,s,Instr.indexAt,asIntOf,F,l,j,z,Y3,go_sem]
theorem QhH{t e:TypeId}{x y:Operand}{i s m k:Nat}{u:IntKind}{n:Int}(F:o.op=.indexAddr t x y)(B:∀w,(underlying t).run P w=.ok (.slice e) w)
  (l:∀w,(sizeOf e).run P w=.ok k w)(h:opA env x=.osl i s m k)(j:opA env y=.int u n)(q:0<=n)(E:n<m):OpV P o env H (.ptr i (s*k+n.toNat*k)):=by
 intro L Q σ N a w r;have d:=Qk r x;rw[h]at d;have f:=Qy r j;rcases d with⟨rfl,_⟩|⟨b,p,z,M,O,g,d,G,J,_⟩
 .omega
 obtain rfl:=G (by omega);refine⟨.pointer (some ⟨b,s*k+n.toNat*k,none⟩),?_,b,g,rfl⟩;generalize a.eval=ρ at*;simp[execOp,F,d,f,Instr.indexAt,asIntOf,B,l,q,E,Y3,go_sem]
def Pts(H:Qd)(p:A)(cs:List A):Prop:=
 ∀fr ro σ w v,Sim fr ro σ H w->VR ro σ w p v->∃b off,v=.pointer (some ⟨b,off,none⟩)/\CR ro σ w b cs off
theorem VR.lift{ro:Nat->Prop}{σ:Sig}{w:World}{a:A}{v:Value}(h:VR ro [] w a v):VR ro σ w a v:=
 h.mono ⟨λ_ q=>q,λ_ _=>rfl,λ_ _ q=>q,(by simp)⟩
theorem CR.lift{ro:Nat->Prop}{σ:Sig}{w:World}{b:Nat}:∀{cs:List A} {off:Nat},CR ro [] w b cs off->CR ro σ w b cs off
 |[],_,_=>trivial
 |c::cs,off,⟨⟨v,h1,hp,h2⟩,h3⟩=>⟨⟨v,h1,hp,h2.lift⟩,CR.lift h3⟩
theorem Pts.rp{cs:List A}:Pts H (.rp cs) cs:=λfr ro σ w v s ⟨b,off,h1,h2,h3⟩=>⟨b,off,h1,h3.lift⟩
theorem LR.cells{ro:Nat->Prop}{σ:Sig}{w:World}{b t:Nat}{fz:Nat×Nat}{pre l:List Value}(d:w.heap[b]?=some (.cells (pre++l).toArray t fz))(a:∀v∈l,Qx v):
  ∀{cs:List A},LR ro σ w cs l->CR ro σ w b cs pre.length:=by
 induction l generalizing pre with
 |nil=>
  intro cs h;cases cs with
  |nil=>trivial
  |cons c cs=>obtain⟨v,j,h,_⟩:=h;cases h
 |cons v l f=>
  intro cs h;cases cs with
  |nil=>trivial
  |cons c cs=>
   obtain⟨m,j,i,e,k⟩:=h;cases i;refine⟨⟨v,by simp[World.cell?,d],a v (by simp),e⟩,?_⟩;have:=f (pre:=pre++[v]) (by simpa using d) (λx g=>a x (by simp[g])) k
   grind
theorem Pts.cells{i off t:Nat}{cs cs':List A}(k:H[i]?=some (.cells t cs))(a:cs.drop off=cs'):Pts H (.ptr i off) cs':=by
 intro m n σ w v s h;obtain⟨b,f,e⟩:=h;obtain⟨l,j,d,g⟩:=s.blk i _ _ f k;have:=LR.cells (pre:=[]) (by simpa using j) g d;refine⟨b,off,e,a▸ ?_⟩;have:=this.drop off
 grind
theorem LR.get{ro:Nat->Prop}{σ:Sig}{w:World}:∀{az:List A} {l:List Value} (i:Nat) {a:A},LR ro σ w az l->az[i]?=some a->∃v,l[i]?=some v/\VR ro σ w a v
 |[],l,i,a,h,ha=>by simp at ha
 |x::az,l,0,a,⟨v,l',h1,h2,h3⟩,ha=>by
  grind
 |x::az,l,i+1,a,⟨v,l',h1,h2,h3⟩,ha=>by
  subst h1;obtain⟨v',q1,q2⟩:=LR.get i h3 (by simpa using ha)
  grind
theorem LR.drop{ro:Nat->Prop}{σ:Sig}{w:World}:∀(n:Nat) {az:List A} {l:List Value},LR ro σ w az l->LR ro σ w (az.drop n) (l.drop n)
 |0,az,l,h=>h
 |n+1,[],l,h=>by cases(show l=[]from h);rfl
 |n+1,a::az,l,⟨v,l',h1,h2,h3⟩=>by subst h1;exact LR.drop n h3
theorem LR.take{ro:Nat->Prop}{σ:Sig}{w:World}:∀(n:Nat) {az:List A} {l:List Value},LR ro σ w az l->LR ro σ w (az.take n) (l.take n)
 |0,az,l,h=>rfl
 |n+1,[],l,h=>by cases(show l=[]from h);rfl
 |n+1,a::az,l,⟨v,l',h1,h2,h3⟩=>by subst h1;exact⟨v,l'.take n,rfl,h2,LR.take n h3⟩
theorem LR.append{ro:Nat->Prop}{σ:Sig}{w:World}:∀{az:List A} {l:List Value} {bs:List A} {m:List Value},LR ro σ w az l->LR ro σ w bs m->LR ro σ w (az++bs) (l++m)
 |[],l,bs,m,h,k=>by cases(show l=[]from h);exact k
 |a::az,l,bs,m,⟨v,l',h1,h2,h3⟩,k=>by subst h1;exact⟨v,l'++m,rfl,h2,LR.append h3 k⟩
theorem QkO{ro:Nat->Prop}{σ:Sig}{w:World}{b t:Nat}{fz:Nat×Nat}:∀{cs:List A} {pre l post:List Value},w.heap[b]?=some (.cells (pre++(l++post)).toArray t fz)->(∀v∈l,Qx v)->
  LR ro σ w cs l->CR ro σ w b cs pre.length
 |[],_,_,_,_,_,_=>trivial
 |c::cs,pre,l,post,hb,hpl,⟨v,l',h1,h2,h3⟩=>by
  subst h1;refine⟨⟨v,by simp[World.cell?,hb],hpl v (by simp),h2⟩,?_⟩;have:=QkO (pre:=pre++[v]) (l:=l') (post:=post) (by simpa using hb) (by grind) h3
  grind
theorem YF{ro:Nat->Prop}{σ:Sig}{w:World}{b t k:Nat}{fz:Nat×Nat}:∀{es:List (List A)} {pre l:List Value},w.heap[b]?=some (.cells (pre++l).toArray t fz)->
  RL ro σ w k es l->RR ro σ w b k es pre.length
 |[],_,_,_,_=>trivial
 |c::es,pre,l,hb,⟨l1,l2,h1,h2,h3,h4⟩=>by
  subst h1;refine⟨h2,QkO hb h3.2 h3.1,?_⟩;have hl:=h3.1.length;have:=YF (pre:=pre++l1) (l:=l2) (by simpa using hb) h4
  grind
theorem Pts.row{i off t k e f:Nat}{es:List (List A)}{c cs':List A}(p:H[i]?=some (.row t k es))(n:off=e*k+f)(he:es[e]?=some c)(a:c.drop f=cs'):Pts H (.ptr i off) cs':=by
 intro q r σ w v s h;obtain⟨b,j,g⟩:=h;obtain⟨l,m,d⟩:=s.blk i _ _ j p;have:=((YF (pre:=[]) (by simpa using m) d).get e he).2.drop f;refine⟨b,off,g,?_⟩;subst n a;simpa using this.lift
theorem Pts.rowr{i off t k e f:Nat}{es:List (List A)}{c cs':List A}(m:H[i]?=some (.rowr t k es))(q:off=e*k+f)(he:es[e]?=some c)(d:c.drop f=cs'):Pts H (.ptr i off) cs':=by
 intro p r σ w v s h;obtain⟨b,g,n⟩:=h;obtain⟨l,j,a⟩:=s.blk i _ _ g m;have:=((YF (pre:=[]) (by simpa using j) a).get e he).2.drop f
 grind
theorem Qlx{w w':World}(h:w'.heap=w.heap)(a:Addr):w'.cell? a=w.cell? a:=by unfold World.cell?;rw[h]
theorem Yt{ro:Nat->Prop}{σ:Sig}{w:World}{b off:Nat}:∀{cs:List A} (i:Nat),CR ro σ w b cs (off+i)->
  ∃l,LR ro σ w cs l/\(∀v∈l,Qx v)/\ ∀(w':World) (a:Array Value),w'.heap=w.heap->(loadCellsFrom ⟨b,off,none⟩ i cs.length a).run P w'=.ok (a++l.toArray) w'
 |[],i,h=>⟨[],rfl,by simp,λw' a _=>by rfl⟩
 |c::cs,i,⟨⟨v,h1,hp,h2⟩,h3⟩=>by
  obtain⟨l,q1,qp,q2⟩:=Yt (cs:=cs) (i+1) (by omega);refine⟨v::l,⟨v,l,rfl,h2,q1⟩,by grind,λw' a hw=>?_⟩;have h1':w'.cell? ⟨b,off+i,none⟩=some v:=by rw[Qlx hw];exact h1
  simp_all[loadCellsFrom,Y3]
theorem QE{t n:Nat}{x:Operand}{p:A}{cs vs:List A}(z:o.op=.load t x)(y:∀w,(isAgg t).run P w=.ok true w)(u:∀w,(sizeOf t).run P w=.ok n w)(g:opA env x=p)(k:Pts H p cs)
  (i:cs.take n=vs)(f:vs.length=n):OpV P o env H (.agg vs):=by
 intro h q σ N a w r;have e:=Qk r x;rw[g]at e;obtain⟨b,off,s,m⟩:=k h q σ w _ r.sim e;subst i;obtain⟨l,j,_,d⟩:=Yt (P:=P) (cs:=cs.take n) (off:=off) 0 (by simpa using m.take n);have d:=d w #[] rfl;rw[f]at d;refine⟨.agg l.toArray,?_,l,rfl,j⟩
 simp_all[execOp,Instr.loadAt,Instr.sureAddr,loadVar,loadCells]
theorem OpV.load{t:Nat}{x:Operand}{p v:A}{cs:List A}(m:o.op=.load t x)(l:∀w,(isAgg t).run P w=.ok false w)(e:opA env x=p)(g:Pts H p (v::cs)):OpV P o env H v:=by
 intro f i σ N a w r;have d:=Qk r x;rw[e]at d;obtain⟨b,h,j,⟨y,k,_,n⟩,_⟩:=g f i σ w _ r.sim d
 simp_all[execOp,Instr.loadAt,Instr.sureAddr,loadVar]
theorem OpV.extract{x:Operand}{vs:List A}{i:Nat}{v:A}(k:o.op=.extract x i)(f:opA env x=.tup vs)(g:vs[i]?=some v):OpV P o env H v:=by
 intro j n σ N a w r;have d:=Qk r x;rw[f]at d;obtain⟨l,d,e⟩:=d;obtain⟨y,h,m⟩:=e.get i g
 simp_all[execOp,Instr.extract]
theorem OpV.field{T f off n:Nat}{x:Operand}{cs:List A}{v:A}(i:QL P T f off n)(j:∀fs fd,(∀w,(underlying T).run P w=.ok (.struct fs) w)->fs[f]?=some fd->∀w,(isAgg fd.type).run P w=.ok false w)
  (z:o.op=.field T x f)(g:opA env x=.agg cs)(k:cs[off]?=some v):OpV P o env H v:=by
 intro q E σ N a w r;have d:=Qk r x;rw[g]at d;obtain⟨l,d,e⟩:=d;obtain⟨y,p,B⟩:=e.get off k;obtain⟨fs,fd,s,u,rfl,m,t⟩:=i.h
 simp_all[execOp,Instr.field,asAgg,part]
theorem Qbb{fr ro:Nat->Prop}{σ:Sig}{N:Nat}{a:Act}{w:World}(r:Rel fr ro σ H env N a w):∀(l:List Operand),LR ro σ w (l.map (opA env)) (l.map a.eval)
 |[]=>rfl
 |x::l=>⟨_,_,rfl,Qk r x,Qbb r l⟩
theorem OpV.makeFunc{f:Fn}{first cap:List Operand}{d e:List A}(j:o.op=.makeFunc f first.toArray cap.toArray)(h:first.map (opA env)=d)(g:cap.map (opA env)=e):OpV P o env H (.fn f d e):=by
 intro i k σ N a w r;refine⟨.func f (first.map a.eval).toArray (cap.map a.eval).toArray,?_,_,_,rfl,h▸Qbb r first,g▸Qbb r cap⟩
 simp_all[execOp,Instr.makeFunc]
theorem Qak{t:TypeId}{x:Operand}{v:A}{d:TypeDesc}(j:o.op=.makeInterface t x)(h:∀w,(underlying t).run P w=.ok d w)(g:∀m,d≠ .interface m)(f:opA env x=v):OpV P o env H (.iface t v):=by
 intro i k σ N a w r;have e:=Qk r x;rw[f]at e;refine⟨.iface t (a.eval x),?_,_,rfl,e⟩
 simp_all[execOp,Instr.makeInterface]
end
mutual
def YC:A->Bool
 |.ptr _ _=>false
 |.osl _ _ _ _=>false
 |.map _=>false
 |.agg cs=>YK cs
 |.fn _ a c=>YK a&&YK c
 |.iface _ v=>YC v
 |.tup vs=>YK vs
 |_=>true
def YK:List A->Bool
 |[]=>true
 |a::r=>YC a&&YK r
end
mutual
theorem VR.data{ro:Nat->Prop}{σ σ':Sig}{w:World}:∀{a:A} {v:Value},YC a=true->VR ro σ w a v->VR ro σ' w a v
 |.any,_,_,_=>trivial
 |.bool b,v,_,q=>q
 |.int k n,v,_,q=>q
 |.str s,v,_,q=>q
 |.nilp,v,_,q=>q
 |.ptr i off,v,d,q=>by simp[YC]at d
 |.rp cs,v,_,q=>q
 |.nils,v,_,q=>q
 |.rsl k es,v,_,q=>q
 |.osl i o n k,v,d,q=>by simp[YC]at d
 |.agg cs,v,d,q=>by
  simp only[VR,YC]at q d⊢;obtain⟨l,h1,h2⟩:=q;exact⟨l,h1,LR.data d h2⟩
 |.fn f a c,v,d,q=>by
  simp only[VR,YC,XU]at q d⊢;obtain⟨l,l',h1,h2,h3⟩:=q;exact⟨l,l',h1,LR.data d.1 h2,LR.data d.2 h3⟩
 |.nilf,v,_,q=>q
 |.iface t a,v,d,q=>by
  simp only[VR,YC]at q d⊢;obtain⟨x,h1,h2⟩:=q;exact⟨x,h1,VR.data d h2⟩
 |.nilif,v,_,q=>q
 |.map i,v,d,q=>by simp[YC]at d
 |.nilm,v,_,q=>q
 |.tup vs,v,d,q=>by
  simp only[VR,YC]at q d⊢;obtain⟨l,h1,h2⟩:=q;exact⟨l,h1,LR.data d h2⟩
theorem LR.data{ro:Nat->Prop}{σ σ':Sig}{w:World}:∀{az:List A} {l:List Value},YK az=true->LR ro σ w az l->LR ro σ' w az l
 |[],_,_,q=>q
 |a::r,l,d,q=>by
  simp only[LR,YK,XU]at q d⊢;obtain⟨v,l',h1,h2,h3⟩:=q;exact⟨v,l',h1,VR.data d.1 h2,LR.data d.2 h3⟩
end
def Yz:A->Bool
 |.any|.agg _|.tup _=>false
 |_=>true
def Yf:A->List A
 |.agg cs=>cs
 |a=>[a]
def Yp:A->Bool
 |.any=>false
 |_=>true
theorem VR.plain{ro:Nat->Prop}{σ:Sig}{w:World}{a:A}{v:Value}(d:Yz a=true)(h:VR ro σ w a v):Qx v:=by
 cases a<;>first|(simp[Yz]at d;done)|skip
 case rsl k es=>obtain⟨e,c,rfl,_⟩:=h;trivial
 case osl=>rcases h with⟨_,rfl⟩|⟨_,_,_,_,_,_,rfl,_⟩<;>trivial
 case fn=>obtain⟨_,_,rfl,_⟩:=h;trivial
 case iface=>obtain⟨_,rfl,_⟩:=h;trivial
 case ptr=>obtain⟨_,_,rfl⟩:=h;trivial
 case rp=>obtain⟨_,_,rfl,_⟩:=h;trivial
 case map=>obtain⟨_,_,rfl⟩:=h;trivial
 all_goals (simp only[VR]at h;subst h;trivial)
theorem VR.cells{ro:Nat->Prop}{σ:Sig}{w:World}{a:A}{v:Value}(d:Yp a=true)(h:VR ro σ w a v):∃l:List Value,v.cells=l.toArray/\LR ro σ w (Yf a) l:=by
 cases a
 case any=>simp[Yp]at d
 case agg cs=>obtain⟨l,rfl,h⟩:=h;exact⟨l,rfl,h⟩
 case tup cs=>obtain⟨l,rfl,h⟩:=h;exact⟨[.tuple l.toArray],rfl,_,_,rfl,⟨l,rfl,h⟩,rfl⟩
 all_goals
  have e:=h.plain rfl;refine⟨[v],?_,v,[],rfl,h,rfl⟩;cases v<;>first|rfl|exact e.elim
theorem LR.plain{ro:Nat->Prop}{σ:Sig}{w:World}:∀{az:List A} {l:List Value},az.all Yz=true->LR ro σ w az l->∀v∈l,Qx v
 |[],l,_,h=>by cases(show l=[]from h);simp
 |a::az,l,hp,⟨v,l',h1,h2,h3⟩=>by
  subst h1;simp only[List.all_cons,XU]at hp;intro x hx;rcases X3.1 hx with rfl|hx
  .exact h2.plain hp.1
  .exact LR.plain hp.2 h3 x hx
theorem YD(w:World)(obj:Obj)(b:Nat)(a:b<w.heap.size):(w.alloc obj).heap[b]?=w.heap[b]? :=by
 show(w.heap.push obj)[b]?=_
 grind
theorem Q6(w:World)(obj:Obj):(w.alloc obj).heap[w.heap.size]?=some obj:=by
 show(w.heap.push obj)[w.heap.size]?=_;simp
theorem Ja(w:World)(obj:Obj):(w.alloc obj).heap.size=w.heap.size+1:=by
 simp
theorem Ql9{w:World}{b:Nat}{x:TypeId×Nat}(h:w.shape? b=some x):b<w.heap.size:=by
 grind[World.shape?]
theorem Qi.alloc{fr ro:Nat->Prop}{w:World}(obj:Obj)(hro:∀b,ro b->b<w.heap.size)(hfr:∀b,fr b->b<w.heap.size):Qi fr ro w ro (w.alloc obj):=
 ⟨λ_ h=>h,λb h=>YD w obj b (hro b h),λb h=>YD w obj b (hfr b h),by simp,
  λb x h=>by grind[World.shape?,YD],rfl,rfl,rfl,XR _⟩
section
variable {P:Program} {o:Oper} {env:Env} {H:Qd} {fr ro:Nat->Prop} {σ:Sig} {w:World}
theorem Sim.alloc(s:Sim fr ro σ H w){obj:Obj}{x:Blk}(G:BR ro (σ++[some w.heap.size]) (w.alloc obj) x (some w.heap.size))
  (u:∀c,Hid (w.alloc obj) x w.heap.size c->False:=by exact λ_ h=>h.elim):
  Sim fr ro (σ++[some w.heap.size]) (H++[x]) (w.alloc obj):=by
 have ev:Qi fr ro w ro (w.alloc obj):=Qi.alloc obj s.roLt s.frLt;have l:=s.len;have e:∀(i:Nat) (y:Option Nat),(σ++[some w.heap.size])[i]?=some y->(i<σ.length/\σ[i]?=some y)\/(i=σ.length/\y=some w.heap.size):=by
  grind
 have k:∀i:Nat,i<σ.length->(H++[x])[i]?=H[i]? :=λi J=>XK (by omega);have F:(H++[x])[σ.length]?=some x:=by rw[l];simp
 refine⟨by simp[l],s.roOk.to (λ_ q=>q) ev.keepRo (λb h=>?_),λb h=>?_,s.roFr,?_,?_,?_,?_⟩
 .rw[Ja];have:=s.roLt b h;omega
 .rw[Ja];have:=s.frLt b h;omega
 .intro i b y f g p;rw[Ja];rcases e i _ f with⟨q,f⟩|⟨rfl,m⟩
  .rw[k i q]at g;obtain⟨a,b,c⟩:=s.own i b y f g p
   grind
  .cases m;exact⟨by omega,λq=>by have:=s.roLt _ q;omega,λq=>by have:=s.frLt _ q;omega⟩
 .intro i j b y z f g p t B E;rcases e i _ f with⟨q,f⟩|⟨rfl,m⟩<;>rcases e j _ g with⟨q',g⟩|⟨rfl,e2⟩
  .rw[k i q]at p;rw[k j q']at t;exact s.inj i j b y z f g p t B E
  .cases e2;rw[k i q]at p;have:=(s.own i _ y f p B).1;omega
  .cases m;rw[k j q']at t;have:=(s.own j _ z g t E).1;omega
  .rfl
 .intro i y z f g;rcases e i _ f with⟨q,f⟩|⟨rfl,m⟩
  .rw[k i q]at g;refine(s.blk i y z f g).keep (ev.ext σ _) ?_ ?_
   .rintro b rfl l;exact YD w obj b (s.own i b z f g l).1
   .rintro b c rfl l;exact YD w obj c (s.hid i b z c f g l).lt
  grind
 .refine s.hidTo (· = ·) Yc (by rw[Ja];omega) (λ_ _ _ _ _ _ _ q=>q) (λ_ _ _ _ _ _ _ q=>q) λj d y r n L=>?_;rcases e j _ r with⟨q,r⟩|⟨rfl,m⟩
  .rw[k j q]at n;exact .inl ⟨j,y,rfl,r,n,id,λc q=>s.hidKeep r n (λz=>YD w obj d (s.own j d y r n z).1) ev.keepRo q⟩
  .rw[F]at n;cases n;cases m;exact .inr ⟨XR _,u⟩
theorem Sim.allocCells(s:Sim fr ro σ H w){t:Nat}{cs:List A}{l:List Value}(h:LR ro σ w cs l)(hp:∀v∈l,Qx v):
  Sim fr ro (σ++[some w.heap.size]) (H++[.cells t cs]) (w.alloc (.cells l.toArray t)):=
 s.alloc ⟨l,Q6 _ _,h.mono ((Qi.alloc (fr:=fr) _ s.roLt s.frLt).ext σ _),hp⟩
theorem QiZ{ro:Nat->Prop}{σ:Sig}{w:World}:∀{az bs:List A} {l:List Value},LR ro σ w (az++bs) l->∃l1 l2,l=l1++l2/\LR ro σ w az l1/\LR ro σ w bs l2
 |[],bs,l,h=>⟨[],l,rfl,rfl,h⟩
 |a::az,bs,l,⟨v,l',h1,h2,h3⟩=>by
  obtain⟨l1,l2,e,q1,q2⟩:=QiZ h3;subst h1 e;exact⟨v::l1,l2,rfl,⟨v,l1,rfl,h2,q1⟩,q2⟩
def allK(k:Nat):List (List A)->Prop
 |[]=>True
 |c::es=>c.length=k/\allK k es
theorem YY{k:Nat}:∀{es:List (List A)} {l rest:List Value},allK k es->LR ro σ w es.flatten l->(∀v∈l,Qx v)->RL ro σ w k es (l++rest)
 |[],_,_,_,_,_=>trivial
 |c::es,l,rest,⟨h1,h2⟩,h,hp=>by
  rw[Vh]at h;obtain⟨l1,l2,rfl,q1,q2⟩:=QiZ h;exact⟨l1,l2++rest,by simp,h1,(by grind),YY h2 q2 (by grind)⟩
theorem Sim.allocRow(s:Sim fr ro σ H w){t k:Nat}{es:List (List A)}{l rest:List Value}(hk:allK k es)(h:LR ro [] w es.flatten l)(hp:∀v∈l,Qx v):
  Sim fr ro (σ++[some w.heap.size]) (H++[.row t k es]) (w.alloc (.cells (l++rest).toArray t)):=
 s.alloc ⟨l++rest,Q6 _ _,(YY hk h hp).mono ((Qi.alloc (fr:=fr) _ s.roLt s.frLt).ext0 [])⟩
theorem Sim.allocRowr(s:Sim fr ro σ H w){t k:Nat}{es:List (List A)}{l rest:List Value}(hk:allK k es)(h:LR ro σ w es.flatten l)(hp:∀v∈l,Qx v):
  Sim fr ro (σ++[some w.heap.size]) (H++[.rowr t k es]) (w.alloc (.cells (l++rest).toArray t)):=
 s.alloc ⟨l++rest,Q6 _ _,(YY hk h hp).mono ((Qi.alloc (fr:=fr) _ s.roLt s.frLt).ext σ _)⟩
theorem OpH.box{t:Nat}{x:Operand}{v:A}{cs:List A}(p:o.op=.box t x)(j:opA env x=v)(k:Yp v=true)(d:Yf v=cs)(f:cs.all Yz=true):
  OpH P o env H (.ptr H.length 0) (H++[.cells t cs]):=by
 intro n m σ N a w r;have g:=Qk r x;rw[j]at g;obtain⟨l,i,h⟩:=g.cells k;subst d;refine⟨.pointer (some ⟨w.heap.size,0,none⟩),w.alloc (.cells l.toArray t),m,[some w.heap.size],?_,⟨w.heap.size,?_,rfl⟩,r.sim.allocCells h (h.plain f),Qi.alloc _ r.sim.roLt r.sim.frLt⟩
 .generalize a.eval=ρ at*;have e:(newVar t (ρ x)).run P w=.ok ⟨w.heap.size,0,none⟩ (w.alloc (.cells l.toArray t)):=by
   unfold newVar;rw[i];rfl
  simp_all[execOp,Instr.box]
 .rw[<- r.sim.len];simp
theorem Sim.set(s:Sim fr ro σ H w){i b:Nat}{x x':Blk}{obj:Obj}(hσ:σ[i]?=some (some b))(p:H[i]?=some x)(r:x.live=true)
  (T:∀y,w.shape? b=some y->({w with heap:=w.heap.setIfInBounds b obj}:World).shape? b=some y)
  (F:Ext ro σ w ro σ {w with heap:=w.heap.setIfInBounds b obj}->({w with heap:=w.heap.setIfInBounds b obj}:World).heap[b]?=some obj->BR ro σ {w with heap:=w.heap.setIfInBounds b obj} x' (some b))
  (V:∀c,Hid {w with heap:=w.heap.setIfInBounds b obj} x' b c->Hid w x b c:=by exact λ_ h=>h.elim):
  Sim fr ro σ (H.set i x') {w with heap:=w.heap.setIfInBounds b obj}/\Qi fr ro w ro {w with heap:=w.heap.setIfInBounds b obj}:=by
 obtain⟨Y,N,M⟩:=s.own i b x hσ p r;have m:∀c,c≠b->({w with heap:=w.heap.setIfInBounds b obj}:World).heap[c]?=w.heap[c]? :=by
  grind
 have G:({w with heap:=w.heap.setIfInBounds b obj}:World).heap[b]?=some obj:=by
  grind
 have l:({w with heap:=w.heap.setIfInBounds b obj}:World).heap.size=w.heap.size:=by simp
 have ev:Qi fr ro w ro {w with heap:=w.heap.setIfInBounds b obj}:=
  ⟨λ_ h=>h,(by grind),(by grind),by omega,by
   grind[World.shape?],rfl,rfl,rfl,XR _⟩
 have W:i<H.length:=(by grind);have R:(H.set i x')[i]?=some x':=(by grind);have a:∀j,j≠i->(H.set i x')[j]?=H[j]? :=(by grind);have P:=F (ev.ext0 σ) G;refine⟨⟨by rw[X0];exact s.len,s.roOk.to (λ_ q=>q) ev.keepRo (λc h=>by rw[l];exact s.roLt c h),λc h=>by rw[l];exact s.frLt c h,s.roFr,?_,?_,?_,?_⟩,ev⟩
 .intro j c y g f t;rw[l];by_cases q:j=i
  .grind
  .rw[a j q]at f;exact s.own j c y g f t
 .intro j n c y z g f t E O L;by_cases q:j=i
  .subst q;rw[hσ]at g;cases g;by_cases u:n=j
   .exact u.symm
   .rw[a n u]at E;exact s.inj j n _ x z hσ f p E r L
  .rw[a j q]at t;by_cases u:n=i
   .subst u;rw[hσ]at f;cases f;exact s.inj j n _ y x g hσ t p O r
   .rw[a n u]at E;exact s.inj j n c y z g f t E O L
 .intro j y z g f;by_cases q:j=i
  .grind
  .rw[a j q]at f;refine(s.blk j y z g f).keep (ev.ext0 σ) ?_ ?_
   .rintro c rfl k;exact m c (λe=>q (s.inj j i b z x (e▸g) hσ f p k r))
   .rintro c d rfl Q;exact m d ((s.hid j c z d g f Q).ne i b x hσ p r)
 .refine s.hidTo (· = ·) Yc (by omega) (λ_ _ _ _ _ _ _ q=>q) (λ_ _ _ _ _ _ _ q=>q) λj d y J B X=>.inl ?_;by_cases q:j=i
  .grind
  .rw[a j q]at B;exact⟨j,y,rfl,J,B,id,λc z=>s.hidKeep J B (λk=>m d (λe=>q (s.inj j i b y x (e▸J) hσ B p k r))) ev.keepRo z⟩
def splice{α:Type}(l:List α)(o:Nat)(vs:List α):List α:=l.take o++vs++l.drop (o+vs.length)
theorem Yb{α:Type}{l:List α}{o:Nat}{vs:List α}(h:o+vs.length<=l.length):(splice l o vs).length=l.length:=by
 simp[splice];omega
theorem QdB{h:Array Obj}{b:Nat}{f:Obj->Obj}{x:Obj}(a:h[b]?=some x):h.modify b f=h.setIfInBounds b (f x):=by
 grind
theorem Yd{b t:Nat}:∀{vs l:List Value} {w:World} (off i:Nat),w.heap[b]?=some (.cells l.toArray t (0,0))->off+i+vs.length<=l.length->(∀v∈vs,Qx v)->
  (storeCells ⟨b,off,none⟩ vs i).run P w=.ok () {w with heap:=w.heap.setIfInBounds b (.cells (splice l (off+i) vs).toArray t (0,0))}
 |[],l,w,off,i,hb,hl,hp=>by
  have e:w.heap.setIfInBounds b (.cells (splice l (off+i) []).toArray t (0,0))=w.heap:=by
   apply Array.ext_getElem?;intro j;rw[Va];by_cases q:b=j
   .subst q;obtain⟨a,n⟩:=X9.1 hb;simp[a,splice,n]
   grind
  rw[e];rfl
 |v::vs,l,w,off,i,hb,hl,hp=>by
  simp only[XX]at hl;have r:=hp v (by simp);have p:w.cell? ⟨b,off+i,none⟩=some l[off+i]:=by
   simp[World.cell?,hb]
  have f:w.frozen? ⟨b,off+i,none⟩=false:=by
   simp[World.frozen?,hb]
  have d:w.setCell ⟨b,off+i,none⟩ v={w with heap:=w.heap.setIfInBounds b (.cells (splice l (off+i) [v]).toArray t (0,0))}:=by
   unfold World.setCell;rw[QdB hb];simp only[Option.isSome_none,Xi,if_false];congr 3;have:l.toArray.setIfInBounds (off+i) v=(l.set (off+i) v).toArray:=by simp
   rw[this];congr 1;rw[List.set_eq_take_append_cons_drop,Vp (by omega)];simp[splice]
  have a:b<w.heap.size:=by
   grind
  have h:=Yd (vs:=vs) (l:=splice l (off+i) [v]) (w:={w with heap:=w.heap.setIfInBounds b (.cells (splice l (off+i) [v]).toArray t (0,0))}) off (i+1)
   (by show(w.heap.setIfInBounds b _)[b]?=_;rw[Va,Vp rfl,Vp a])
   (by rw[Yb (by simp;omega)];omega) (by grind)
  have y:splice (splice l (off+i) [v]) (off+(i+1)) vs=splice l (off+i) (v::vs):=by
   have g:(l.take (off+i)).length=off+i:=by simp;omega
   unfold splice;rw[Ve (l.take (off+i))];have u:off+(i+1)=(l.take (off+i)).length+1:=by omega
   have x:(l.take (off+i)++([v]++l.drop (off+i+[v].length))).take ((l.take (off+i)).length+1)=l.take (off+i)++[v]:=by
    grind
   have s:(l.take (off+i)++([v]++l.drop (off+i+[v].length))).drop ((l.take (off+i)).length+1+vs.length)=l.drop (off+i+(v::vs).length):=by
    rw[show(l.take (off+i)).length+1+vs.length=(l.take (off+i)).length+(1+vs.length)from by omega,X7];simp[Nat.add_comm 1];omega
   simp_all
  have m:(w.heap.setIfInBounds b (.cells (splice l (off+i) [v]).toArray t (0,0))).setIfInBounds b (.cells (splice (splice l (off+i) [v]) (off+(i+1)) vs).toArray t (0,0))=
    w.heap.setIfInBounds b (.cells (splice l (off+i) (v::vs)).toArray t (0,0)):=by
   grind
  rw[m]at h;have k:(Go.store ⟨b,off+i,none⟩ v).run P w=.ok () {w with heap:=w.heap.setIfInBounds b (.cells (splice l (off+i) [v]).toArray t (0,0))}:=by
   rw[<- d];cases v<;>first|exact r.elim|simp[Go.store,Sem.run,p,f,go_sem]
  simp_all[storeCells,Y3]
theorem Jz{w:World}{b t:Nat}{l l':List Value}(e:w.heap[b]?=some (.cells l.toArray t (0,0)))(d:l'.length=l.length)(y:TypeId×Nat)(h:w.shape? b=some y):
  ({w with heap:=w.heap.setIfInBounds b (.cells l'.toArray t (0,0))}:World).shape? b=some y:=by
 have a:b<w.heap.size:=by
  grind
 simp_all[World.shape?]
theorem LR.splice{ro:Nat->Prop}{σ:Sig}{w:World}{az vs:List A}{l m:List Value}(off:Nat)(h:LR ro σ w az l)(k:LR ro σ w vs m):LR ro σ w (Sw.splice az off vs) (Sw.splice l off m):=by
 unfold Sw.splice;rw[k.length];exact((h.take off).append k).append (h.drop _)
theorem Qfc{l m:List Value}{off:Nat}(h:∀v∈l,Qx v)(k:∀v∈m,Qx v):∀v∈Sw.splice l off m,Qx v:=by
 grind[Sw.splice]
theorem OpU.store{t n i off T:Nat}{x y:Operand}{cs vs cs':List A}{v:A}(Y:o.op=.store t x y)(G:opA env x=.ptr i off)(z:H[i]?=some (.cells T cs))(V:∀w,(sizeOf t).run P w=.ok n w)
  (h:opA env y=v)(M:Yp v=true)(R:Yf v=vs)(O:vs.length=n)(F:vs.all Yz=true)(E:Nat.ble (off+n) cs.length=true)(p:splice cs off vs=cs'):
  OpU P o env H (H.set i (.cells T cs')):=by
 intro fr L σ N a w r;have d:=Qk r x;rw[G]at d;obtain⟨b,d,X⟩:=d;have u:=Qk r y;rw[h]at u;obtain⟨m,W,g⟩:=u.cells M;rw[R]at g;obtain⟨l,s,k,J⟩:=r.sim.blk i _ _ d z;have j:off+n<=cs.length:=by simp_all
 have B:m.length=n:=by rw[g.length,O]
 have q:=Yd (P:=P) (vs:=m) off 0 s (by rw[k.length,B];omega) (g.plain F);have f:=r.sim.set (x':=.cells T cs') (obj:=.cells (splice l off m).toArray T (0,0)) d z rfl
  (λy h=>Jz s (Yb (by rw[k.length,B];omega)) y h)
  (λe Q=>⟨_,Q,p▸(k.splice off g).mono e,Qfc J (g.plain F)⟩)
 refine⟨_,L,[],?_,by grind,f.2⟩
 simp_all[storeVar,execOp,Instr.storeAt,Instr.sureAddr]
theorem RL.splice{ro:Nat->Prop}{σ:Sig}{w:World}{k:Nat}:∀{e:Nat} {es:List (List A)} {l m:List Value} {c a:List A} {f:Nat},RL ro σ w k es l->es[e]?=some c->LR ro σ w a m->(∀v∈m,Qx v)->f+a.length<=k->
  RL ro σ w k (es.set e (Sw.splice c f a)) (Sw.splice l (e*k+f) m)
 |_,[],_,_,_,_,_,_,h,_,_,_=>by simp at h
 |0,c0::es,l,m,c,a,f,⟨l1,l2,h1,h2,h3,h4⟩,hc,hm,hp,hf=>by
  simp at hc;subst hc h1;have hl1:=h3.1.length;refine⟨Sw.splice l1 f m,l2,?_,?_,⟨h3.1.splice f hm,Qfc h3.2 hp⟩,h4⟩
  .unfold Sw.splice;simp only[Nat.zero_mul,Xu,Ve];rw[X4 (by omega),X5 (by rw[hm.length];omega)]
  .rw[Yb (by omega)];exact h2
 |e+1,c0::es,l,m,c,a,f,⟨l1,l2,h1,h2,h3,h4⟩,hc,hm,hp,hf=>by
  subst h1;have hl1:=h3.1.length;refine⟨l1,Sw.splice l2 (e*k+f) m,?_,h2,h3,RL.splice h4 (by grind) hm hp hf⟩;have e1:(e+1)*k+f=l1.length+(e*k+f):=by grind
  unfold Sw.splice;rw[e1,X8,show l1.length+(e*k+f)+m.length=l1.length+(e*k+f+m.length)from by omega,X7];simp
theorem RL.length{ro:Nat->Prop}{σ:Sig}{w:World}{k:Nat}:∀{es:List (List A)} {l:List Value},RL ro σ w k es l->es.length*k<=l.length
 |[],l,_=>by simp
 |c::es,l,⟨l1,l2,h1,h2,h3,h4⟩=>by
  subst h1;have:=RL.length h4;have:=h3.1.length
  grind[Nat.succ_mul]
theorem QhI{t n i off T k e f:Nat}{x y:Operand}{es d:List (List A)}{c vs G:List A}{v:A}(ho:o.op=.store t x y)(hx:opA env x=.ptr i off)(E:H[i]?=some (.row T k es))(hs:∀w,(sizeOf t).run P w=.ok n w)
  (h:off=e*k+f)(R:es[e]?=some c)(q:opA env y=v)(V:Yp v=true)(hv:Yf v=vs)(W:vs.length=n)(J:vs.all Yz=true)(hd:YK vs=true)(hf:Nat.ble (f+n) k=true)
  (u:splice c f vs=G)(z:es.set e G=d):
  OpU P o env H (H.set i (.row T k d)):=by
 intro fr Q σ N a w r;have j:=Qk r x;rw[hx]at j;obtain⟨b,j,h2⟩:=j;have B:=Qk r y;rw[q]at B;obtain⟨m,h4,p⟩:=B.cells V;rw[hv]at p;obtain⟨l,M,F⟩:=r.sim.blk i _ _ j E;have X:f+n<=k:=by simp_all
 have hm:m.length=n:=by rw[p.length,W]
 have Y:e<es.length:=(by grind);have O:off+n<=l.length:=by
  have:=F.length;have h6:(e+1)*k<=es.length*k:=XA k Y
  grind
 have L:=Yd (P:=P) (vs:=m) off 0 M (by omega) (p.plain J);have g:=r.sim.set (x':=.row T k d) (obj:=.cells (splice l off m).toArray T (0,0)) j E rfl
  (λy q=>Jz M (Yb (by omega)) y q)
  (λex s=>⟨_,s,by
   subst z u h;exact(F.splice R (p.data hd) (p.plain J) (by omega)).mono ex.nil⟩)
 refine⟨_,Q,[],?_,by grind,g.2⟩
 simp_all[storeVar,execOp,Instr.storeAt,Instr.sureAddr]
end
section
variable {P:Program} {o:Oper} {env:Env} {H:Qd} {fr ro:Nat->Prop} {σ:Sig} {w:World}
theorem Ext.heap{w':World}(h:w'.heap=w.heap):Ext ro σ w ro σ w':=
 ⟨λ_ q=>q,λb _=>by rw[h],λb x q=>by unfold World.shape? at q⊢;grind,λ_ _ q=>q⟩
theorem Sim.heap{w':World}(s:Sim fr ro σ H w)(h:w'.heap=w.heap):Sim fr ro σ H w':=
 ⟨s.len,s.roOk.to (λ_ q=>q) (λb _=>by rw[h]) (λb q=>by rw[h];exact s.roLt b q),λb q=>by rw[h];exact s.frLt b q,s.roFr,λi b x q1 q2 q3=>by rw[h];exact s.own i b x q1 q2 q3,s.inj,
  λi y x q1 q2=>(s.blk i y x q1 q2).keep (Ext.heap h) (by grind) (by grind),
  s.hidTo (· = ·) Yc (by grind) (by simp) (by simp) λj d y g1 g2 g3=>.inl ⟨j,y,rfl,g1,g2,id,λc q=>q.keep (by rw[h])⟩⟩
theorem Qi.heap{w':World}(h:w'.heap=w.heap)(ho:w'.os=w.os)(ht:w'.tape=w.tape)(hu:w'.output=w.output)(hd:w.drawn<=w'.drawn):Qi fr ro w ro w':=
 ⟨λ_ q=>q,λb _=>by rw[h],λb _=>by rw[h],by grind,λb x q=>by unfold World.shape? at q⊢;grind,ho,ht,hu,hd⟩
theorem Sim.moved(s:Sim fr ro σ H w){i:Nat}{x:Blk}{y:Option Nat}(n:H[i]?=some x)(hσ:σ[i]?=some y):Sim fr ro (σ++[y]) (H.set i .dead++[x]) w:=by
 have G:=s.len;have Q:i<H.length:=(by grind);have a:∀(j:Nat) (z:Option Nat) (v:Blk),(σ++[y])[j]?=some z->(H.set i .dead++[x])[j]?=some v->v≠ .dead->
   (j<σ.length/\j≠i/\σ[j]?=some z/\H[j]?=some v)\/(j=σ.length/\z=y/\v=x):=by
  grind
 have hσ':∀(j:Nat) (b:Nat),σ[j]?=some (some b)->(σ++[y])[j]?=some (some b):=(by grind);have ext:Ext ro σ w ro (σ++[y]) w:=⟨λ_ q=>q,λ_ _=>rfl,λ_ _ q=>q,hσ'⟩;refine⟨by simp[G],s.roOk,s.frLt,s.roFr,?_,?_,?_,s.hidTo (λj u=>(j<σ.length/\j≠i/\u=j)\/(j=σ.length/\u=i)) (by omega) (XR _) (by simp) (by simp) λj d y L E F=>.inl ?_⟩
 rotate_left 3
 .rcases a j _ y L E (QeM F)with⟨O,J,f,e⟩|⟨O,l,rfl⟩
  .grind
  grind
 .intro j b v k h g;rcases a j _ v k h (Qap g)with⟨_,_,f,e⟩|⟨_,l,rfl⟩
  .exact s.own j b v f e g
  .subst l;exact s.own i b v hσ n g
 .intro j t b v r k h g N p m;rcases a j _ v k g (Qap p)with⟨_,M,f,e⟩|⟨R,l,P⟩<;>rcases a t _ r h N (Qap m)with⟨_,n1',q1',q2'⟩|⟨r1',e1',r2'⟩
  .exact s.inj j t b v r f q1' e q2' p m
  .subst e1' r2';exact(M (s.inj j i b v r f hσ e n p m)).elim
  .subst l P;exact(n1' (s.inj t i b r v q1' hσ q2' n m p)).elim
  omega
 .intro j z v k h;by_cases B:v≠ .dead
  .rcases a j z v k h B with⟨_,_,f,e⟩|⟨_,rfl,rfl⟩
   .exact(s.blk j z v f e).keep ext (λ_ _ _=>rfl) (λ_ _ _ _=>rfl)
   .exact(s.blk i _ _ hσ n).keep ext (λ_ _ _=>rfl) (λ_ _ _ _=>rfl)
  .obtain rfl:v=.dead:=Classical.not_not.1 B;trivial
def Src(P:Program)(H:Qd)(x:A)(k:Nat)(es:List (List A)):Prop:=
 ∀fr ro σ w v,Sim fr ro σ H w->VR ro σ w x v->(∃a c,v=.slice a es.length c)/\allK k es/\
  ∃l,(∀w':World,w'.heap=w.heap->(Builtin.firstCells k es.length v).run P w'=.ok l.toArray w')/\LR ro [] w es.flatten l/\ ∀v∈l,Qx v
theorem RR.flat{b k:Nat}:∀{es:List (List A)} {off:Nat},RR ro σ w b k es off->CR ro σ w b es.flatten off/\allK k es/\es.flatten.length=es.length*k
 |[],off,_=>⟨trivial,trivial,by simp⟩
 |c::es,off,⟨h1,h2,h3⟩=>by
  obtain⟨q1,q2,q3⟩:=RR.flat h3;refine⟨?_,⟨h1,q2⟩,by grind⟩;rw[Vh];have:∀(c:List A) (off:Nat) (d:List A),CR ro σ w b c off->CR ro σ w b d (off+c.length)->CR ro σ w b (c++d) off:=by
   intro c
   induction c with
   |nil=>simp
   |cons x c a=>intro off d ⟨h1,h2⟩ h;exact⟨h1,a (off+1) d h2 (by grind)⟩
  grind
theorem Qa4{b off k n c:Nat}{cs:List A}(h:CR ro σ w b cs off)(e:cs.length=n*k):
  ∃l,(∀w':World,w'.heap=w.heap->(Builtin.firstCells k n (.slice (some ⟨b,off,none⟩) n c)).run P w'=.ok l.toArray w')/\LR ro σ w cs l/\ ∀v∈l,Qx v:=by
 obtain⟨l,a,d,f⟩:=Yt (P:=P) (cs:=cs) (off:=off) 0 (by simpa using h)
 grind[Builtin.firstCells,loadCells]
theorem YO{k c:Nat}{a:Option Addr}:(Builtin.firstCells k 0 (.slice a 0 c)).run P w=.ok #[] w:=by
 cases a<;>simp[Builtin.firstCells,loadCells,loadCellsFrom,go_sem]
theorem Src.rsl{k:Nat}{es:List (List A)}:Src P H (.rsl k es) k es:=by
 intro i l σ w v s ⟨a,c,h1,h2,h3⟩;subst h1;refine⟨⟨a,c,rfl⟩,?_⟩;rcases h3 with rfl|⟨b,h,rfl,j,e⟩
 .exact⟨trivial,[],λ_ _=>YO,rfl,by simp⟩
 .obtain⟨g,d,f⟩:=e.flat;exact⟨d,Qa4 g f⟩
theorem Src.nils{k:Nat}:Src P H .nils k []:=by
 intro a d σ w v s h;simp only[VR]at h;subst h;exact⟨⟨none,0,rfl⟩,trivial,[],λ_ _=>YO,rfl,by simp⟩
theorem RR.drop{b k:Nat}:∀(n:Nat) {es:List (List A)} {off:Nat},RR ro σ w b k es off->RR ro σ w b k (es.drop n) (off+n*k)
 |0,_,_,h=>by simpa using h
 |n+1,[],_,_=>trivial
 |n+1,c::es,off,⟨h1,h2,h3⟩=>by
  have:=RR.drop n h3
  grind
theorem RR.take{b k:Nat}:∀(n:Nat) {es:List (List A)} {off:Nat},RR ro σ w b k es off->RR ro σ w b k (es.take n) off
 |0,_,_,h=>trivial
 |n+1,[],_,_=>trivial
 |n+1,c::es,off,⟨h1,h2,h3⟩=>⟨h1,h2,RR.take n h3⟩
theorem Src.osl{i s n k t:Nat}{es a:List (List A)}(y:H[i]?=some (.row t k es))(he:(es.drop s).take n=a)(G:s+n<=es.length):Src P H (.osl i s n k) k a:=by
 intro E M σ w v sm h;have r:a.length=n:=by grind
 rcases h with⟨rfl,rfl⟩|⟨b,p,d,J,m,u,rfl,q,z,L,B⟩
 .have e:a=[]:=(by grind);subst e;exact⟨⟨none,0,rfl⟩,trivial,[],λ_ _=>YO,rfl,by simp⟩
 .rw[r];refine⟨⟨_,d,rfl⟩,?_⟩;obtain⟨l,j,f⟩:=sm.blk i _ _ u y;have g:=((YF (pre:=[]) (by simpa using j) f).drop s).take n;rw[he]at g;by_cases x:0<d
  .obtain rfl:=q x;obtain⟨j,f,F⟩:=g.flat
   simp_all[Qa4]
  .obtain rfl:n=0:=by omega
   have e:a=[]:=(by grind);subst e;exact⟨trivial,[],λ_ _=>YO,rfl,by simp⟩
def Yk:Nat:=4294967296
theorem Qek(n c:Nat)(h:c<n):Builtin.nextslicecap n c<=4*n+1000:=by
 grind[Builtin.nextslicecap,Builtin.growBy]
structure Ya (P:Program) (T e k:Nat):Prop where
 sl:∀w,(underlying T).run P w=.ok (.slice e) w
 size:∀w,(sizeOf e).run P w=.ok k w
 zero:∃z,(∀w,(zeroValue e).run P w=.ok z w)/\z.cells.size=k
 bytes:∃i,(∀w,(typeInfo e).run P w=.ok i w)/\i.bytes<=4096
theorem QiY{T k:Nat}{es:List (List A)}{l rest:List Value}(s:Sim fr ro σ H w)(hk:allK k es)(h:LR ro [] w es.flatten l)(hp:∀v∈l,Qx v):
  Sim fr ro (σ++[some w.heap.size]) (H++[.row T k es]) (w.alloc (.cells (l++rest).toArray T))/\Qi fr ro w ro (w.alloc (.cells (l++rest).toArray T)):=
 ⟨s.allocRow hk h hp,Qi.alloc _ s.roLt s.frLt⟩
theorem Yr{k:Nat}:∀{es:List (List A)},allK k es->es.flatten.length=es.length*k
 |[],_=>by simp
 |c::es,⟨h1,h2⟩=>by simp[Yr h2,h1,Xl,Nat.add_comm]
theorem QbX{k:Nat}:∀{es fs:List (List A)},allK k es->allK k fs->allK k (es++fs)
 |[],_,_,h=>h
 |c::es,_,⟨h1,h2⟩,h=>⟨h1,QbX h2 h⟩
theorem QgN{k:Nat}:∀{es:List (List A)} (n:Nat),allK k es->allK k (es.take n)
 |_,0,_=>trivial
 |[],n+1,_=>trivial
 |c::es,n+1,⟨h1,h2⟩=>⟨h1,QgN n h2⟩
theorem RL.allK{k:Nat}:∀{es:List (List A)} {l:List Value},RL ro σ w k es l->allK k es
 |[],_,_=>trivial
 |c::es,l,⟨l1,l2,h1,h2,h3,h4⟩=>⟨h2,RL.allK h4⟩
theorem RL.app{k:Nat}:∀{n:Nat} {es fs:List (List A)} {l m:List Value},RL ro σ w k es l->n<=es.length->Sw.allK k fs->LR ro σ w fs.flatten m->(∀v∈m,Qx v)->
  RL ro σ w k (es.take n++fs) (Sw.splice l (n*k) m)
 |0,es,fs,l,m,h,hn,hk,hm,hp=>by
  simp_all[Sw.splice,YY]
 |n+1,[],fs,l,m,h,hn,hk,hm,hp=>by simp at hn
 |n+1,c::es,fs,l,m,⟨l1,l2,h1,h2,h3,h4⟩,hn,hk,hm,hp=>by
  subst h1;have hl1:=h3.1.length;refine⟨l1,Sw.splice l2 (n*k) m,?_,h2,h3,RL.app h4 (by grind) hk hm hp⟩;have e1:(n+1)*k=l1.length+n*k:=by grind
  unfold Sw.splice;rw[e1,X8,show l1.length+n*k+m.length=l1.length+(n*k+m.length)from by omega,X7];simp
theorem QeZ{T T' e e' k need cap:Nat}{t:TypeId}(E:Ya P T e k)(L:∀w,(underlying T').run P w=.ok (.slice e') w){ad:Option Addr}{n m c:Nat}{ax:Option Addr}
  (g:need=n+m)(h:cap<need)(a:need<=Yk){old new:List Value}
  (B:∀w':World,w'.heap=w.heap->(Builtin.firstCells k m (.slice ax m c)).run P w'=.ok new.toArray w')(y:∀w':World,w'.heap=w.heap->(Builtin.firstCells k n (.slice ad n cap)).run P w'=.ok old.toArray w'):
  ∃(rest:List Value) (d:Nat),(need<=d/\d<=9223372036854775807)/\rest.length=(d-need)*k/\(Builtin.append_ #[T,T'] t #[.slice ad n cap,.slice ax m c]).run P w=
   .ok (.slice (some ⟨w.heap.size,0,none⟩) need d) (({w with drawn:=w.drawn+1}:World).alloc (.cells ((old++new)++rest).toArray e)):=by
 obtain⟨z,Q,p⟩:=E.zero;obtain⟨i,H,O⟩:=E.bytes
 let d:=need+w.tape w.drawn (.appendCap need cap e)%(2^63-need)
 refine⟨(Builtin.zeroCells z.cells (d-need)).toList,d,⟨Nat.le_add_right _ _,by
  have:=Nat.mod_lt (w.tape w.drawn (.appendCap need cap e)) (show 0<2^63-need by unfold Yk at a;omega);show need+_%(2^63-need)<=_;omega⟩,by simp[Builtin.zeroCells,p],?_⟩
 have f:¬(need<=cap):=by omega
 have s:¬((need:Int)>IntKind.i64.max/\(False\/i.bytes=0)):=by
  rintro⟨q,_⟩;have:IntKind.i64.max=9223372036854775807:=by decide
  rw[this]at q;unfold Yk at a;omega
 have N:¬(Builtin.nextslicecap need cap*i.bytes>2^48):=by
  have:=Qek need cap h;have u:Builtin.nextslicecap need cap*i.bytes<=(4*need+1000)*4096:=Nat.mul_le_mul this O;unfold Yk at a;omega
 generalize hF:Builtin.firstCells=F at B y;unfold Builtin.append_;rw[hF];have j:∀W:World,(choose (.appendCap need cap e)).run P W=.ok (need+W.tape W.drawn (.appendCap need cap e)%(2^63-need)) {W with drawn:=W.drawn+1}:=by
  intro W;simp[choose,Sem.run,Question.forced,Question.cut]
 have r:∀(x:Nat) (W:World),(askRoom x).run P W=.ok () W:=by
  intro x W;unfold askRoom;split<;>rfl
 have l:∀(c:Array Value) (W:World),(newRow e c).run P W=.ok ⟨W.heap.size,0,none⟩ (W.alloc (.cells c e)):=λc W=>rfl;subst g;simp only[not_and,false_or]at s;have u:¬(((n+m:Nat):Int)>IntKind.i64.max/\(False\/i.bytes=0)):=by simpa using s
 simp only[XE,XC,XD,Vi,E.sl,E.size,L,H,Q,Result.andThen,Builtin.lenOf,Vj,Xi,if_false,XF,
  Xh,if_true,Vn f,Vn u,Vn N,j,r]
 have G:=y {w with drawn:=w.drawn+1} rfl;have M:=B {w with drawn:=w.drawn+1} rfl;simp only[G,M,l];have J:old.toArray++new.toArray++Builtin.zeroCells z.cells (d-(n+m))=((old++new)++(Builtin.zeroCells z.cells (d-(n+m))).toList).toArray:=by
  apply Array.toList_inj.1;simp
 rw[<- J]
theorem QbK{T T' e e' k cap:Nat}{t:TypeId}(E:Ya P T e k)(g:∀w,(underlying T').run P w=.ok (.slice e') w){ad:Option Addr}{n m c:Nat}{ax:Option Addr}
  (d:n+m<=cap){new:List Value}(f:(Builtin.firstCells k m (.slice ax m c)).run P w=.ok new.toArray w):
  (Builtin.append_ #[T,T'] t #[.slice ad n cap,.slice ax m c]).run P w=
   match ad with
   |some a=>(do storeCells (a.add (n*k)) new;pure (Value.slice ad (n+m) cap):Sem Value).run P w
   |none=>.ok (.slice ad (n+m) cap) w:=by
 generalize hF:Builtin.firstCells=F at f;unfold Builtin.append_;rw[hF];simp only[XE,XC,XD,Vi,E.sl,E.size,g,Result.andThen,Builtin.lenOf,Vj,Xi,if_false,XF,
  Xh,if_true,Vp d,f]
 cases ad with
 |none=>rfl
 |some a=>simp only[Vi,Result.andThen,Vj]
theorem Sim.weaken(s:Sim fr ro σ H w){i:Nat}{x x':Blk}(B:H[i]?=some x)(Q:x.live=true)(l:∀y,BR ro σ w x y->BR ro σ w x' y)
  (M:∀b c,Hid w x' b c->Hid w x b c:=by exact λ_ _ h=>h.elim):Sim fr ro σ (H.set i x') w:=by
 have N:i<H.length:=(by grind);have L:(H.set i x')[i]?=some x':=(by grind);have F:∀j,j≠i->(H.set i x')[j]?=H[j]? :=(by grind);have a:∀(j:Nat) (v:Blk),(H.set i x')[j]?=some v->(j=i/\v=x')\/(j≠i/\H[j]?=some v):=by
  grind
 have q:∀(j:Nat) (v:Blk),(H.set i x')[j]?=some v->v.live=true->∃f,H[j]?=some f/\f.live=true:=by
  grind
 refine⟨by rw[X0];exact s.len,s.roOk,s.frLt,s.roFr,?_,?_,?_,s.hidTo (· = ·) Yc (XR _) (by simp) (by simp) λj d y R O P=>.inl ?_⟩
 rotate_left 3
 .grind
 .intro j b v e g m;obtain⟨f,r,n⟩:=q j v g m;exact s.own j b f e r n
 .intro j t b v f e g m G J z;obtain⟨u,r,n⟩:=q j v m J;obtain⟨E,p,k⟩:=q t f G z;exact s.inj j t b u E e g r p n k
 .intro j y v e g;rcases a j v g with⟨rfl,rfl⟩|⟨_,h⟩
  .exact l y (s.blk j y x e B)
  .exact s.blk j y v e h
theorem RL.take{k:Nat}:∀(n:Nat) {es:List (List A)} {l:List Value},RL ro σ w k es l->RL ro σ w k (es.take n) l
 |0,_,_,_=>trivial
 |n+1,[],_,_=>trivial
 |n+1,c::es,l,⟨l1,l2,h1,h2,h3,h4⟩=>⟨l1,l2,h1,h2,h3,RL.take n h4⟩
theorem YJ{c:Call}{T T':TypeId}{x y:Operand}(a:o.op=.call c)(d:c={callee:=.builtin .append,args:= #[x,y],argTypes:= #[T,T']})(ρ:Operand->Value){v:Value}{w':World}
  (h:(Builtin.append_ #[T,T'] o.type #[ρ x,ρ y]).run P w=.ok v w'):(execOp ρ o).run P w=.ok (.value v) w':=by
 simp_all[execOp,resolve,invoke,Go.builtin]
theorem Sim.phantom(s:Sim fr ro σ H w)(t k:Nat):Sim fr ro (σ++[none]) (H++[.row t k []]) w:=by
 have g:=s.len;have f:∀(i b:Nat),(σ++[none])[i]?=some (some b)->i<σ.length:=by
  grind
 refine⟨by simp[g],s.roOk,s.frLt,s.roFr,?_,?_,?_,s.hidTo (· = ·) Yc (XR _) (by simp) (by simp) λj d y a e h=>.inl ?_⟩
 rotate_left 3
 .grind
 .intro i b z a e h;have q:=f i b a;rw[XK q]at a;rw[XK (by omega)]at e;exact s.own i b z a e h
 .intro i j b z B a e h l u m;have n:=f i b a;have x:=f j b e;rw[XK n]at a;rw[XK x]at e;rw[XK (by omega)]at h l;exact s.inj i j b z B a e h l u m
 .intro i y z a e;have ext:Ext ro σ w ro (σ++[none]) w:=⟨λ_ q=>q,λ_ _=>rfl,λ_ _ q=>q,(by grind)⟩;rcases Nat.lt_trichotomy i σ.length with q|q|q
  .rw[XK q]at a;rw[XK (by omega)]at e;exact(s.blk i y z a e).keep ext (λ_ _ _=>rfl) (λ_ _ _ _=>rfl)
  .subst q;have p:(σ++[none])[σ.length]?=some none:=by simp
   have r:(H++[Blk.row t k []])[σ.length]?=some (.row t k []):=by grind
   rw[p]at a;rw[r]at e;cases a;cases e;rfl
  grind
theorem Sim.kill(s:Sim fr ro σ H w)(i:Nat):Sim fr ro σ (H.set i .dead) w:=by
 have a:∀(j:Nat) (v:Blk),(H.set i .dead)[j]?=some v->v≠ .dead->H[j]?=some v:=by
  grind
 refine⟨by rw[X0];exact s.len,s.roOk,s.frLt,s.roFr,?_,?_,?_,s.hidTo (· = ·) Yc (XR _) (by simp) (by simp) λj d y p r t=>.inl ⟨j,y,rfl,p,a j y r (QeM t),id,λ_ q=>q⟩⟩
 .intro j b v f e g;exact s.own j b v f (a j v e (Qap g)) g
 .intro j h b v m f e g u k l;exact s.inj j h b v m f e (a j v g (Qap k)) (a h m u (Qap l)) k l
 .intro j y v f e;by_cases n:v≠ .dead
  .exact s.blk j y v f (a j v e n)
  .obtain rfl:v=.dead:=Classical.not_not.1 n;trivial
theorem grown{c:Call}{T T' e e' k n m cap cx:Nat}{x y:Operand}{es fs:List (List A)}{a:Act}{ad ax:Option Addr}{old new:List Value}(E:Ya P T e k)(Y:∀w,(underlying T').run P w=.ok (.slice e') w)(ho:o.op=.call c)
  (hc:c={callee:=.builtin .append,args:= #[x,y],argTypes:= #[T,T']})(V:a.eval x=.slice ad n cap)(h2:a.eval y=.slice ax m cx)(s:Sim fr ro σ H w)(q:cap<n+m)(l:n+m<=Yk)
  (p:∀w':World,w'.heap=w.heap->(Builtin.firstCells k n (.slice ad n cap)).run P w'=.ok old.toArray w')(j:∀w':World,w'.heap=w.heap->(Builtin.firstCells k m (.slice ax m cx)).run P w'=.ok new.toArray w')
  (f:LR ro [] w es.flatten old)(N:∀v∈old,Qx v)(r:allK k es)(i:LR ro [] w fs.flatten new)(X:∀v∈new,Qx v)(g:allK k fs)(B:es.length=n)(F:fs.length=m):
  ∃v w' ro' τ,(execOp a.eval o).run P w=.ok (.value v) w'/\VR ro' (σ++τ) w' (.osl H.length 0 (n+m) k) v/\Sim fr ro' (σ++τ) (H++[.row e k (es++fs)]) w'/\Qi fr ro w ro' w':=by
 obtain⟨rest,R,u,G,h⟩:=QeZ (t:=o.type) E Y rfl q l j p
 let w0:World:={w with drawn:=w.drawn+1}
 have M:Sim fr ro σ H w0:=s.heap rfl;have W:Qi fr ro w ro w0:=Qi.heap rfl rfl rfl rfl (Nat.le_succ _);have z:LR ro [] w0 (es++fs).flatten (old++new):=by
  rw[Xr];exact(f.append i).mono (Ext.heap (w:=w) (w':=w0) rfl)
 obtain⟨O,Q⟩:=QiY (T:=e) (rest:=rest) M (QbX r g) z (λv hv=>by grind);have d:(execOp a.eval o).run P w=.ok (.value _) _:=YJ ho hc a.eval (by rw[V,h2];exact h);refine⟨_,_,ro,[some w.heap.size],d,.inr ⟨w.heap.size,0,R,e,(old++new++rest).length,?_,rfl,λ_=>by simp,u,?_,?_⟩,O,W.trans Q⟩
 .rw[<- s.len];simp
 .have:=Q6 w0 (.cells ((old++new)++rest).toArray e);unfold World.shape?
  grind
 .have J:=f.length;have L:=i.length;rw[Yr r]at J;rw[Yr g]at L;simp only[XZ,G,J,L,B,F,Xu];rw[<- Xy, <- Xy]
  grind
theorem Qgg{c:Call}{T T' e e' k:Nat}{x y:Operand}{u:A}{fs:List (List A)}(E:Ya P T e k)(i:∀w,(underlying T').run P w=.ok (.slice e') w)(z:o.op=.call c)
  (j:c={callee:=.builtin .append,args:= #[x,y],argTypes:= #[T,T']})(B:opA env x=.nils)(F:opA env y=u)(G:Src P H u k fs)(q:fs.length<=Yk):
  OpH P o env H (.osl H.length 0 fs.length k) (H++[.row e k fs]):=by
 intro M p σ N a w r;have d:=Qk r x;rw[B]at d;simp only[VR]at d;have s:=Qk r y;rw[F]at s;obtain⟨⟨Q,O,f⟩,J,l,g,R,L⟩:=G M p σ w _ r.sim s;rw[f]at g;by_cases V:fs.length=0
 .have h:fs=[]:=(by grind);subst h;refine⟨.slice none 0 0,w,p,[none],?_,.inl ⟨rfl,rfl⟩,r.sim.phantom e k,Qi.refl _ _ _⟩;refine YJ z j _ ?_;rw[d,f];have:=QbK (t:=o.type) E i (ad:=none) (n:=0) (m:=0) (cap:=0) (c:=O) (ax:=Q) (XR 0) (g w rfl);omega
 .have:=grown (es:=[]) (old:=[]) E i z j d f r.sim (by omega) (by omega) (λ_ _=>YO) g rfl (by simp) trivial R L J rfl rfl
  grind
theorem Qef{c:Call}{T T' e e' k i n:Nat}{x y:Operand}{ya:A}{es fs gs:List (List A)}(E:Ya P T e k)(hd:∀w,(underlying T').run P w=.ok (.slice e') w)(R:o.op=.call c)
  (G:c={callee:=.builtin .append,args:= #[x,y],argTypes:= #[T,T']})(hx:opA env x=.osl i 0 n k)(X:H[i]?=some (.row e k es))(hn:n<=es.length)(u:opA env y=ya)(hs:Src P H ya k fs)(g:n+fs.length<=Yk)
  (hg:es.take n++fs=gs):OpH P o env H (.osl H.length 0 (n+fs.length) k) (H.set i .dead++[.row e k gs]):=by
 intro fr z σ N a w r;subst hg;have q:=Qk r x;rw[hx]at q;have h2:=Qk r y;rw[u]at h2;obtain⟨⟨ay,cy,V⟩,Y,l,L,q4,q5⟩:=hs fr z σ w _ r.sim h2;rw[V]at L;have j:i<H.length:=(by grind);have ag:(H.set i .dead).length=H.length:=X0;obtain⟨s,hσ⟩:∃s,σ[i]?=some s:=⟨_,XI (by rw[r.sim.len];exact j)⟩;rcases q with⟨rfl,q⟩|⟨b,p,cap,t',mm,F,q,h4,h5,B,h7⟩
 ·
  by_cases hm:fs.length=0
  .have h:fs=[]:=(by grind);subst h;refine⟨.slice none 0 0,w,z,[none],?_,.inl ⟨rfl,rfl⟩,(r.sim.kill i).phantom e k,Qi.refl _ _ _⟩;refine YJ R G _ ?_;rw[q,V];have:=QbK (t:=o.type) E hd (ad:=none) (n:=0) (m:=0) (cap:=0) (c:=cy) (ax:=ay) (XR 0) (L w rfl);omega
  .have:=grown (es:=[]) (old:=[]) E hd R G q V (r.sim.kill i) (by omega) g (λ_ _=>YO) L rfl (by simp) trivial q4 q5 Y rfl rfl
   grind
 .have O:=r.sim.blk i _ _ F X;obtain⟨Q,M,W⟩:=O;have aa:(es.take n).length=n:=by simp;omega
  obtain⟨old,o1,o2,o3⟩:∃old:List Value,(∀w':World,w'.heap=w.heap->(Builtin.firstCells k n (.slice (some ⟨b,p,none⟩) n cap)).run P w'=.ok old.toArray w')/\LR z [] w (es.take n).flatten old/\ ∀v∈old,Qx v:=by
   have J:Src P H (.osl i 0 n k) k (es.take n):=Src.osl X (by simp) (by omega);obtain⟨_,_,l',z1,z2,z3⟩:=J fr z σ w (.slice (some ⟨b,p,none⟩) n cap) r.sim (.inr ⟨b,p,cap,t',mm,F,rfl,h4,h5,B,h7⟩)
   grind
  by_cases f:n+fs.length<=cap
  .have ae:=QbK (t:=o.type) E hd (ad:=some ⟨b,p,none⟩) (n:=n) (m:=fs.length) (cap:=cap) (c:=cy) (ax:=ay) f (L w rfl);have ah:l.length=fs.length*k:=by rw[q4.length,Yr Y]
   by_cases hm:fs.length=0
   .have h:fs=[]:=(by grind);subst h;have el:l=[]:=(by simp_all);subst el;have sw:=(r.sim.weaken (x':=.row e k (es.take n)) X rfl (by
     intro y u;cases y with
     |none=>simp only[BR]at u⊢;grind
     |some y=>obtain⟨Q,M,W⟩:=u;exact⟨Q,M,W.take n⟩))
    have sm:=sw.moved (i:=i) (Xa j) F;rw[List.set_set]at sm;refine⟨.slice (some ⟨b,p,none⟩) n cap,w,z,[some b],?_,.inr ⟨b,p,cap,t',mm,?_,by simp,h4,by omega,B,h7⟩,by grind,Qi.refl _ _ _⟩
    .refine YJ R G _ ?_
     simp_all[storeCells]
    .rw[<- r.sim.len];simp
   .obtain rfl:p=0*k:=h4 (by omega);have ac:(n+fs.length)*k<=Q.length:=by
     have:w.shape? b=some (e,Q.length):=by unfold World.shape?;rw[M];simp
     rw[this]at B;cases B;exact XT (XA k f) (by grind)
    rw[Xy]at ac;have af:=Yd (P:=P) (vs:=l) (n*k) 0 M (by omega) q5;have d:=r.sim.set (x':=.row e k (es.take n++fs)) (obj:=.cells (splice Q (n*k) l).toArray e (0,0)) F X rfl
     (λy u=>Jz M (Yb (by omega)) y u)
     (λex ab=>⟨_,ab,(W.app hn Y q4 q5).mono ex.nil⟩)
    have sm:=d.1.moved (i:=i) (Xa j) F;rw[List.set_set]at sm;refine⟨.slice (some ⟨b,0*k,none⟩) (n+fs.length) cap,_,z,[some b],?_,.inr ⟨b,0*k,cap,t',mm,?_,rfl,h4,⟨f,h5.2⟩,?_,h7⟩,sm,d.2⟩
    .refine YJ R G _ ?_
     simp_all[Y3]
    .rw[<- r.sim.len];simp
    .exact d.2.shape _ _ B
  .have:=grown (es:=es.take n) (old:=old) (fs:=fs) E hd R G q V (r.sim.kill i) (by omega) g o1 L o2 o3 (QgN n W.allK) q4 q5 Y aa rfl
   grind
end
section
variable {P:Program} {o:Oper} {env:Env} {H:Qd}
theorem OpC.fn{c:Call}{f:FuncId}{xs:List Operand}{g:Array TypeId}{args:List A}(d:∀(a:Array Value) (w:World),(callFunc f a).run P w=.ok (.enter f a) w)(k:o.op=.call c)
  (i:c={callee:=.value (.func f),args:=xs.toArray,argTypes:=g})(h:xs.map (opA env)=args):OpC P o env H f args:=by
 intro j l σ N a w r;refine⟨xs.map a.eval,?_,h▸Qbb r xs⟩;subst i;have e:a.eval (.func f)=.func (.func f) #[] #[]:=rfl
 grind[execOp,resolve,Deferred.ofValue,invoke]
theorem QkL{c:Call}{f:FuncId}{x:Operand}{xs:List Operand}{m:Array TypeId}{args g h:List A}(d:∀(a:Array Value) (w:World),(callFunc f a).run P w=.ok (.enter f a) w)(q:o.op=.call c)
  (t:c={callee:=.value x,args:=xs.toArray,argTypes:=m})(k:opA env x=.fn (.func f) g h)(j:g++(xs.map (opA env)++h)=args):OpC P o env H f args:=by
 intro s u σ N a w r;have e:=Qk r x;rw[k]at e;obtain⟨l,n,e,i,p⟩:=e;refine⟨l++(xs.map a.eval++n),?_,j▸i.append ((Qbb r xs).append p)⟩
 grind[execOp,resolve,Deferred.ofValue,invoke]
def Qf2(ρ:Nat->Nat)(env:Env):Env->Prop
 |[]=>True
 |(s,a)::r=>lk env s=Y1 ρ a/\Qf2 ρ env r
theorem Qf2.ok{ro:Nat->Prop}{σ σ':Sig}{w:World}{ρ:Nat->Nat}(h:∀i:Nat,σ[ρ i]?=σ'[i]?){t:Array Value}(r:∀s,VR ro σ w (lk env s) (t.getD s undef)):
  ∀{env':Env},Qf2 ρ env env'->∀s,VR ro σ' w (lk env' s) (t.getD s undef)
 |[],_,s=>trivial
 |(d,a)::e,⟨h1,h2⟩,s=>by
  simp only[lk];by_cases q:s=d
  .grind[Nat.beq_refl,QdI]
  .have:Nat.beq s d=false:=by
    simp_all[VI]
   rw[this];exact Qf2.ok h r h2 s
theorem Sim.sub{fr ro:Nat->Prop}{σ:Sig}{w:World}{π:List Nat}{H':Qd}(s:Sim fr ro σ H w)(t:π.map (λp=>H[p]?)=(H'.map (Q8 (rho π H.length))).map some)(hπ:π.Nodup):
  Sim fr ro (Yx σ π) H' w/\ ∀j:Nat,σ[rho π H.length j]?=(Yx σ π)[j]? :=by
 have L:∀p∈π,p<H.length:=λp q=>Jo t q;have hσl:=s.len;have J:∀(j p:Nat),π[j]?=some p->H[p]?=(H'[j]?).map (Q8 (rho π H.length)):=by
  intro j p e;have:=congrArg (λl=>l[j]?) t
  grind
 have m:π.length=H'.length:=by simpa using congrArg List.length t
 have hσc:∀j:Nat,σ[rho π H.length j]?=(Yx σ π)[j]? :=by
  intro j;have:=Qeq (τ:=[]) hσl L j
  grind
 have hπj:∀(j b:Nat),(Yx σ π)[j]?=some (some b)->∃p,π[j]?=some p/\σ[p]?=some (some b):=by
  intro j b e;simp only[Yx,Xn]at e
  grind
 have hπi:∀(i j p:Nat),π[i]?=some p->π[j]?=some p->i=j:=by
  intro i j p f a;have r:i<π.length:=(by grind);have e:j<π.length:=(XJ.1 a).1;rw[XI r]at f;rw[XI e]at a;have k:=(XW f).trans (XW a).symm;rcases Nat.lt_trichotomy i j with q|q|q
  .exact(VA.1 hπ i j r e q k).elim
  .exact q
  .exact(VA.1 hπ j i e r q k.symm).elim
 refine⟨⟨by simp[Yx,m],s.roOk,s.frLt,s.roFr,?_,?_,?_,s.hidTo (λj p=>π[j]?=some p) hπi (XR _) (λ_ _ _ _ _ _ _ q=>q) (λ_ _ _ _ _ _ _ q=>q) λj d y M O P=>.inl ?_⟩,hσc⟩
 rotate_left 3
 .obtain⟨p,f,g⟩:=hπj j d M;exact⟨p,Q8 (rho π H.length) y,f,g,by grind,by rw[QM];exact id,λc q=>(Qah _ _ _ _ _).2 q⟩
 .intro j b x n u F;obtain⟨p,f,g⟩:=hπj j b n;have h:H[p]?=some (Q8 (rho π H.length) x):=by grind
  exact s.own p b _ g h (by rw[QM];exact F)
 .intro i j b x y n u F Q N G;obtain⟨p,f,g⟩:=hπj i b n;obtain⟨E,a,B⟩:=hπj j b u;have h:H[p]?=some (Q8 (rho π H.length) x):=by grind
  have z:H[E]?=some (Q8 (rho π H.length) y):=by grind
  have:=s.inj p E b _ _ g B h z (by rw[QM];exact N) (by rw[QM];exact G)
  grind
 .intro j y x n u;have e:j<π.length:=by
   grind
  have f:π[j]?=some π[j]:=XI e;have h:H[π[j]]?=some (Q8 (rho π H.length) x):=by grind
  have g:σ[π[j]]?=some y:=by
   grind[rho]
  exact(QhR hσc).1 (s.blk _ y _ g h)
theorem Qpt{e:Nat}{env':Env}{H':Qd}(π:List Nat)(d:π.take e=List.range e)(f:π.map (λp=>H[p]?)=(H'.map (Q8 (rho π H.length))).map some)(hπ:π.Nodup)
  (hE:Qf2 (rho π H.length) env env'):Le e env H env' H':=by
 intro j h σ N a w r;obtain⟨g,hσ⟩:=r.sim.sub f hπ;refine⟨h,Yx σ π,⟨g,Qf2.ok hσ r.env hE,r.size,r.defers⟩,λ_ q=>q,?_⟩;have i:=r.sim.len;have k:∀p∈π,p<H.length:=λp q=>Jo f q;unfold Yx;rw[<- List.map_take,d];apply List.ext_getElem?
 grind
theorem Le.phantom{f s k t:Nat}(g:f<=H.length)(h:lk env s=.nils):Le f env H (up env s (.osl H.length 0 0 k)) (H++[.row t k []]):=by
 intro i e σ N a w r;refine⟨e,σ++[none],⟨r.sim.phantom t k,?_,r.size,r.defers⟩,λ_ q=>q,QG (by rw[r.sim.len];exact g)⟩;have ext:Ext e σ w e (σ++[none]) w:=⟨λ_ q=>q,λ_ _=>rfl,λ_ _ q=>q,(by grind)⟩;intro d;simp only[lk];by_cases q:d=s
 .subst q;rw[VB];have:=r.env d;rw[h]at this;exact .inl ⟨rfl,this⟩
 .have:Nat.beq d s=false:=by
   simp_all[VI]
  rw[this];exact(r.env d).mono ext
theorem QkN{f s k:Nat}(g:lk env s=.nils):Le f env H (up env s (.rsl k [])) H:=by
 intro h e σ N a w r;refine⟨e,σ,⟨r.sim,?_,r.size,r.defers⟩,λ_ q=>q,rfl⟩;intro d;simp only[lk];by_cases q:d=s
 .subst q;rw[VB];have:=r.env d;rw[g]at this;exact⟨none,0,this,XR _,.inl rfl⟩
 .have:Nat.beq d s=false:=by
   simp_all[VI]
  rw[this];exact r.env d
mutual
def Ys:A->Bool
 |.bool _=>true
 |.int _ _=>true
 |.str _=>true
 |.tup vs=>Qer vs
 |_=>false
def Qer:List A->Bool
 |[]=>true
 |a::r=>Ys a&&Qer r
end
mutual
theorem VR.scalar{ro ro':Nat->Prop}{σ σ':Sig}{w w':World}:∀{a:A} {v:Value},Ys a=true->VR ro σ w a v->VR ro' σ' w' a v
 |.bool _,_,_,h=>h
 |.int _ _,_,_,h=>h
 |.str _,_,_,h=>h
 |.tup vs,v,hs,h=>by
  simp only[VR,Ys]at h hs⊢;obtain⟨l,h1,h2⟩:=h;exact⟨l,h1,LR.scalar hs h2⟩
 |.any,_,hs,_=>by simp[Ys]at hs
 |.nilp,_,hs,_=>by simp[Ys]at hs
 |.ptr _ _,_,hs,_=>by simp[Ys]at hs
 |.rp _,_,hs,_=>by simp[Ys]at hs
 |.nils,_,hs,_=>by simp[Ys]at hs
 |.rsl _ _,_,hs,_=>by simp[Ys]at hs
 |.osl _ _ _ _,_,hs,_=>by simp[Ys]at hs
 |.agg _,_,hs,_=>by simp[Ys]at hs
 |.fn _ _ _,_,hs,_=>by simp[Ys]at hs
 |.nilf,_,hs,_=>by simp[Ys]at hs
 |.iface _ _,_,hs,_=>by simp[Ys]at hs
 |.nilif,_,hs,_=>by simp[Ys]at hs
 |.map _,_,hs,_=>by simp[Ys]at hs
 |.nilm,_,hs,_=>by simp[Ys]at hs
theorem LR.scalar{ro ro':Nat->Prop}{σ σ':Sig}{w w':World}:∀{az:List A} {l:List Value},Qer az=true->LR ro σ w az l->LR ro' σ' w' az l
 |[],_,_,h=>h
 |a::r,l,hs,h=>by
  simp only[LR,Qer,XU]at h hs⊢;obtain⟨v,l',h1,h2,h3⟩:=h;exact⟨v,l',h1,VR.scalar hs.1 h2,LR.scalar hs.2 h3⟩
end
def Look(H:Qd):A->A->Prop:=λa a'=>(a'=a/\YC a=true)\/ ∃i n k t es,a=.osl i 0 n k/\H[i]?=some (.row t k es)/\es.length=n/\a'=.rsl k es
def Qbe(H:Qd):List A->List A->Prop
 |[],[]=>True
 |a::az,b::bs=>Look H a b/\Qbe H az bs
 |_,_=>False
theorem QiS{h0 N:Nat}{Q:QP}{all:Array Oper}{l:List Oper}{d:Nat}{f:FuncId}{args B:List A}{Qr:A->Qd->Prop}(ac:OpC P o env H f args)(hv:Qbe H args B)(hC:C P f B [] Qr)
  (ab:∀r H1,Qr r H1->Ys r=true)(k:∀r H1,Qr r H1->WO P h0 N all l (up env d r) H Q)(hg:QB all o env true:=by exact rfl)(hd:o.dst=some d:=by exact rfl)(hN:Nat.blt d N=true:=by exact rfl):WO P h0 N all (o::l) env H Q:=by
 intro rd fr ro σ a w r hrd;obtain⟨W,h1,h2⟩:=ac fr ro σ N a w r;refine Qgh (Je hg r) h1 ?_
 let roc:Nat->Prop:=λb=>ro b\/ ∃(i:Nat) (x:Blk),σ[i]?=some (some b)/\H[i]?=some x/\x.live=true
 let frc:Nat->Prop:=λb=>fr b\/ ∃(i:Nat) (x:Blk) (d:Nat),σ[i]?=some (some d)/\H[i]?=some x/\Hid w x d b
 have M:Sim frc roc [] [] w:=by
  refine⟨rfl,r.sim.roOk.to (λ_ q=>.inl q) (λ_ _=>rfl) ?_,?_,?_,by simp,by simp,by simp,by simp⟩
  .rintro b (q|⟨i,x,z,u,E⟩)
   .exact r.sim.roLt b q
   .exact(r.sim.own i b x z u E).1
  .rintro b (q|⟨i,x,d,z,u,E⟩)
   .exact r.sim.frLt b q
   .exact(r.sim.hid i d x b z u E).lt
  .rintro b (q|⟨i,x,z,u,E⟩) (q'|⟨i',x',d',O,L,T⟩)
   .exact r.sim.roFr b q q'
   .exact(r.sim.hid i' d' x' b O L T).ro q
   .exact(r.sim.own i b x z u E).2.2 q'
   .exact(r.sim.hid i' d' x' b O L T).ne i b x z u E rfl
 have G:∀(az F:List A) (l:List Value),Qbe H az F->LR ro σ w az l->LR roc [] w F l:=by
  intro az
  induction az with
  |nil=>
   intro F l J h;cases F with
   |nil=>exact h
   |cons b F=>exact J.elim
  |cons x az ih=>
   intro F l J h;cases F with
   |nil=>exact J.elim
   |cons y F=>
    obtain⟨hx,J⟩:=J;obtain⟨v,l',rfl,hv,h⟩:=h;refine⟨v,l',rfl,?_,ih F l' J h⟩;rcases hx with⟨rfl,hx⟩|⟨i,n,k,t,es,rfl,hH,hn,rfl⟩
    .exact(hv.data (σ':=[]) hx).mono ⟨λ_ q=>.inl q,λ_ _=>rfl,λ_ _ q=>q,λ_ _ q=>q⟩
    .subst hn;rcases hv with⟨h0,h⟩|⟨b,p,V,t',m,h1,h,h2,⟨h3,ae⟩,h4,h5⟩
     .have:es=[]:=(by grind);subst this;exact⟨none,0,h,XR _,.inl rfl⟩
     .refine⟨_,V,h,h3,?_⟩;by_cases he:es=[]
      .exact .inl he
      .right;have hc:0<V:=Vb (by grind) h3;obtain rfl:=h2 hc;obtain⟨l,z,u⟩:=r.sim.blk i _ _ h1 hH;refine⟨b,0,by simp,.inr ⟨i,_,h1,hH,rfl⟩,?_⟩;have:=YF (pre:=[]) (by simpa using z) u;exact this.keep ⟨λ_ q=>.inl q,λ_ _=>rfl,λ_ _ q=>q,λ_ _ q=>q⟩ rfl
 refine Calls.mono (hC frc roc [] W w M (G _ _ _ hv h2)) ?_;rintro e X ⟨v,rr,H1,af,τ,rfl,hq,sc,aa,ev⟩;have Y:∀(i b:Nat) (x:Blk),σ[i]?=some (some b)->H[i]?=some x->x.live=true->X.heap[b]?=w.heap[b]? :=λi b x z u E=>ev.keepRo b (by grind);have g:Qi fr ro w ro X:=⟨λ_ q=>q,λb q=>ev.keepRo b (.inl q),λb q=>ev.keepFr b (.inl q),ev.size,ev.shape,ev.os,ev.tape,ev.output,ev.drawn⟩;have R:Sim fr ro σ H X:=by
  refine⟨r.sim.len,r.sim.roOk.to (λ_ q=>q) g.keepRo (λb q=>Vb (r.sim.roLt b q) ev.size),λb q=>Vb (r.sim.frLt b q) ev.size,r.sim.roFr,?_,r.sim.inj,?_,r.sim.hidTo (· = ·) Yc ev.size (by simp) (by simp) λj d y g1 g2 g3=>.inl ⟨j,y,rfl,g1,g2,id,λc q=>r.sim.hidKeep g1 g2 (Y j d y g1 g2) g.keepRo q⟩⟩
  .intro i b x z u E;obtain⟨p1,p2,p3⟩:=r.sim.own i b x z u E
   grind
  .intro i y x z u;refine(r.sim.blk i y x z u).keep (g.ext0 σ) ?_ ?_
   .grind
   .rintro b c rfl J;exact ev.keepFr c (by grind)
 have hk:=k rr H1 hq;have ad:d<N:=by simp_all
 simp only[hd,Act.put];have r':Rel fr ro σ H (up env d rr) N {a with tmps:=a.tmps.setIfInBounds d v} X:=
  ⟨R,VR.up (fr:=fr) (λs=>(r.env s).mono (g.ext0 σ)) (by rw[r.size];exact ad) (aa.scalar (ab _ _ hq)),by simpa using r.size,r.defers.keep g⟩
 exact⟨_,rfl,YB (λe a w q=>q.step g rfl) _ _ _ (hk rd fr ro σ _ X r' (hrd.to g λ_ q=>q))⟩
end
section
variable {P:Program} {o:Oper} {env:Env} {H:Qd}
theorem Qgx{α:Type}:∀(vs:List α) (off i:Nat) (l:List α),off+i+vs.length<=l.length->
  (vs.zipIdx i).foldl (λ(cs:Array α) (x:α×Nat)=>cs.setIfInBounds (off+x.2) x.1) l.toArray=(splice l (off+i) vs).toArray
 |[],off,i,l,h=>by simp[splice]
 |v::vs,off,i,l,h=>by
  simp only[XX]at h;rw[List.zipIdx_cons,XB];have e1:l.toArray.setIfInBounds (off+i) v=(splice l (off+i) [v]).toArray:=by
   have:l.toArray.setIfInBounds (off+i) v=(l.set (off+i) v).toArray:=by simp
   rw[this];congr 1;rw[List.set_eq_take_append_cons_drop,Vp (by omega)];simp[splice]
  rw[e1,Qgx vs off (i+1) _ (by grind)];congr 1;have a:(l.take (off+i)).length=off+i:=by simp;omega
  unfold splice;rw[Ve (l.take (off+i))];have f:off+(i+1)=(l.take (off+i)).length+1:=by omega
  have d:(l.take (off+i)++([v]++l.drop (off+i+[v].length))).take ((l.take (off+i)).length+1)=l.take (off+i)++[v]:=by
   grind
  have e:(l.take (off+i)++([v]++l.drop (off+i+[v].length))).drop ((l.take (off+i)).length+1+vs.length)=l.drop (off+i+(v::vs).length):=by
   rw[show(l.take (off+i)).length+1+vs.length=(l.take (off+i)).length+(1+vs.length)from by omega,X7];simp[Nat.add_comm 1];omega
  simp_all
theorem Qgz{a:Nat->Option (Nat×Nat)}{l:List Value}{i off size:Nat}{v:Value}{m:List Value}{rest:List (Nat×Value)}(f:a i=some (off,size))(d:v.cells=m.toArray)(h:m.length=size)
  (g:off+size<=l.length):Instr.fill a l.toArray ((i,v)::rest)=Instr.fill a (splice l off m).toArray rest:=by
 have e:v.cells.size=size:=by grind
 rw[Instr.fill];simp only[f];rw[Vn (by grind),d];congr 1
 simp_all[Qgx]
def Qax:Nat->List Operand->List (Nat×Operand)
 |_,[]=>[]
 |i,x::xs=>(i,x)::Qax (i+1) xs
def Yj(env:Env)(xs:List Operand):List (List A):=xs.map λx=>Yf (opA env x)
theorem Qfm{fr ro:Nat->Prop}{σ:Sig}{N:Nat}{a:Act}{w:World}(r:Rel fr ro σ H env N a w){k:Nat}:∀(xs:List Operand) (j:Nat) (pre rest:List Value),pre.length=j*k->rest.length=xs.length*k->
  (xs.all λx=>Yp (opA env x))=true->allK k (Yj env xs)->
  ∃l,Instr.fill (λi=>some (i*k,k)) (pre++rest).toArray ((Qax j xs).map λp=>(p.1,a.eval p.2))=some (pre++l).toArray/\LR ro σ w (Yj env xs).flatten l
 |[],j,pre,rest,h1,h2,_,_=>by
  have:rest=[]:=(by simp_all);subst this;exact⟨[],rfl,rfl⟩
 |x::xs,j,pre,rest,h1,h2,h3,h4=>by
  simp only[List.all_cons,XU]at h3;obtain⟨hk1,hk2⟩:=h4;obtain⟨m,q1,q2⟩:=(Qk r x).cells h3.1;have hm:m.length=k:=by rw[q2.length];exact hk1
  simp only[XX,Xl]at h2;simp only[Qax,Vf];rw[Qgz (off:=j*k) (size:=k) rfl q1 hm (by simp;omega)];have e:splice (pre++rest) (j*k) m=(pre++m)++rest.drop k:=by
   unfold splice
   grind[List.drop_length_add_append]
  rw[e];obtain⟨l,f,d⟩:=Qfm r xs (j+1) (pre++m) (rest.drop k) (by grind) (by simp;omega) h3.2 hk2;refine⟨m++l,?_,?_⟩
  .rw[f];simp
  .show LR ro σ w ((Yf (opA env x))++(Yj env xs).flatten) (m++l);exact q2.append d
theorem QaF{fr ro:Nat->Prop}{σ:Sig}{N:Nat}{a:Act}{w:World}(r:Rel fr ro σ H env N a w){T e k n:Nat}{xs:List Operand}(E:Ya P T e k)(s:xs.length=n)(t:Nat.ble (n*k) 16777216=true)
  (g:(xs.all λx=>Yp (opA env x))=true)(j:allK k (Yj env xs)):
  ∃l,(Instr.buildSlice T n (((Qax 0 xs).map λp=>(p.1,a.eval p.2)).toArray)).run P w=.ok (.slice (some ⟨w.heap.size,0,none⟩) n n) (w.alloc (.cells l.toArray e))/\LR ro σ w (Yj env xs).flatten l:=by
 obtain⟨z,y,u⟩:=E.zero;have h:n*k<=16777216:=by simp_all
 have q:∀(c:Array Value) (W:World),(newRow e c).run P W=.ok ⟨W.heap.size,0,none⟩ (W.alloc (.cells c e)):=λc W=>rfl;unfold Instr.buildSlice;by_cases m:n*k=0
 .obtain⟨l,d,f⟩:=Qfm r (k:=k) xs 0 [] [] (by simp) (by grind) g j;refine⟨l,?_,f⟩;simp only[Vi,E.sl,Result.andThen,E.size,m]
  simp_all[Array.range]
 .obtain⟨l,d,f⟩:=Qfm r (k:=k) xs 0 [] ((Array.range (n*k)).map (λi=>z.cells[i%z.cells.size]!)).toList (by simp) (by rw[s];simp) g j;refine⟨l,?_,f⟩;simp only[Vi,E.sl,Result.andThen,E.size,Vn m,XF,y,Vj];rw[Vn (by omega)];simp only[Vd]at d;rw[Array.toArray_toList]at d
  simp_all
theorem Qan{T n:Nat}{xs:List Operand}(a:o.op=.buildSlice T n (Qax 0 xs).toArray)(ρ:Operand->Value){v:Value}{w w':World}
  (h:(Instr.buildSlice T n (((Qax 0 xs).map λp=>(p.1,ρ p.2)).toArray)).run P w=.ok v w'):(execOp ρ o).run P w=.ok (.value v) w':=by
 grind[execOp,Sem.run_bind,Result.andThen,Sem.run_pure]
theorem OpH.lit{T e k n:Nat}{xs:List Operand}{es:List (List A)}(E:Ya P T e k)(B:o.op=.buildSlice T n (Qax 0 xs).toArray)(q:xs.length=n)(i:Nat.ble (n*(k+1)) 16777216=true)
  (u:(xs.all λx=>Yp (opA env x))=true)(d:Yj env xs=es)(j:allK k es)(y:es.flatten.all Yz=true)(z:YK es.flatten=true):
  OpH P o env H (.osl H.length 0 n k) (H++[.row e k es]):=by
 intro G s σ N a w r;subst d;have g:=XP i;rw[Nat.mul_add]at g;obtain⟨l,t,f⟩:=QaF r E q (XQ (by omega)) u j;have h:LR s [] w (Yj env xs).flatten l:=f.data z;obtain⟨m,p⟩:=QiY (T:=e) (rest:=[]) r.sim j h (f.plain y);rw[Vc]at m p;have F:l.length=n*k:=by rw[f.length,Yr j];simp[Yj,q]
 refine⟨_,_,s,[some w.heap.size],Qan B a.eval t,.inr ⟨w.heap.size,0,n,e,l.length,?_,rfl,λ_=>by simp,(by omega),?_,by grind⟩,m,p⟩
 .rw[<- r.sim.len];simp
 .unfold World.shape?;rw[Q6];simp
theorem YM{T e k n:Nat}{xs:List Operand}{es:List (List A)}(E:Ya P T e k)(u:o.op=.buildSlice T n (Qax 0 xs).toArray)(m:xs.length=n)(h:Nat.ble (n*(k+1)) 16777216=true)
  (q:(xs.all λx=>Yp (opA env x))=true)(d:Yj env xs=es)(i:allK k es)(s:es.flatten.all Yz=true):
  OpH P o env H (.osl H.length 0 n k) (H++[.rowr e k es]):=by
 intro B y σ N a w r;subst d;have g:=XP h;rw[Nat.mul_add]at g;obtain⟨l,p,f⟩:=QaF r E m (XQ (by omega)) q i;have j:=r.sim.allocRowr (t:=e) (rest:=[]) i f (f.plain s);rw[Vc]at j;have z:l.length=n*k:=by rw[f.length,Yr i];simp[Yj,m]
 refine⟨_,_,y,[some w.heap.size],Qan u a.eval p,.inr ⟨w.heap.size,0,n,e,l.length,?_,rfl,λ_=>by simp,(by omega),?_,by grind⟩,j,Qi.alloc _ r.sim.roLt r.sim.frLt⟩
 .rw[<- r.sim.len];simp
 .unfold World.shape?;rw[Q6];simp
theorem Ye{n:Int}{y:Nat}{c:BoundsCode}{w:World}(a:0<=n)(d:n<=y):(Instr.sliceBound (.int .i64 n) y c).run P w=.ok n.toNat w:=by
 simp_all[Instr.sliceBound,asIntOf]
theorem Qj7{T e:Nat}{k:Nat}{w:World}(E1:∀w,(underlying T).run P w=.ok (.slice e) w)(E2:∀w,(sizeOf e).run P w=.ok k w){ad:Option Addr}{n cap:Nat}{lo hi:Option Value}{l h:Nat}(f:n<=cap)
  (d:lo=none/\l=0\/ ∃z:Int,lo=some (.int .i64 z)/\0<=z/\z.toNat=l)(a:hi=none/\h=n\/ ∃z:Int,hi=some (.int .i64 z)/\0<=z/\z.toNat=h)(g:l<=h)(m:h<=n):
  (Instr.sliceAt T (.slice ad n cap) lo hi none).run P w=.ok (.slice (if cap=l then ad else ad.map (·.add (l*k))) (h-l) (cap-l)) w:=by
 have j:(Instr.sliceBounds true n cap lo hi none).run P w=.ok (l,h,cap) w:=by
  rcases d with⟨rfl,rfl⟩|⟨z,rfl,i,rfl⟩<;>rcases a with⟨rfl,rfl⟩|⟨y,rfl,y0,rfl⟩
  .rfl
  .grind[Instr.sliceBounds,Sem.run_bind,Sem.run_pure,Result.andThen,Ye]
  .grind[Instr.sliceBounds,Sem.run_bind,Sem.run_pure,Result.andThen,Ye]
  .simp only[Instr.sliceBounds,Vi,Vj,Result.andThen,Ye y0 (show y<=(cap:Int)by omega),Ye i (show z<=(y.toNat:Int)by omega)]
 simp_all[Instr.sliceAt,Result.andThen,Instr.slice]
theorem Qc0{fr ro:Nat->Prop}{σ:Sig}{N:Nat}{a:Act}{w:World}(r:Rel fr ro σ H env N a w){x:Option Operand}{l d:Nat}(h:x=none/\l=d\/ ∃y,∃z:Int,x=some y/\opA env y=.int .i64 z/\0<=z/\z.toNat=l):
  x.map a.eval=none/\l=d\/ ∃z:Int,x.map a.eval=some (.int .i64 z)/\0<=z/\z.toNat=l:=by
 rcases h with⟨rfl,rfl⟩|⟨y,z,rfl,g,e,f⟩
 .simp
 grind[Qy]
theorem QfX{T e k i s n:Nat}{x:Operand}{lo hi:Option Operand}{l h:Nat}(E1:∀w,(underlying T).run P w=.ok (.slice e) w)(E2:∀w,(sizeOf e).run P w=.ok k w)(G:o.op=.slice T x lo hi none)
  (J:opA env x=.osl i s n k)(g:lo=none/\l=0\/ ∃y,∃z:Int,lo=some y/\opA env y=.int .i64 z/\0<=z/\z.toNat=l)
  (j:hi=none/\h=n\/ ∃y,∃z:Int,hi=some y/\opA env y=.int .i64 z/\0<=z/\z.toNat=h)(t:l<=h)(F:h<=n):OpV P o env H (.osl i (s+l) (h-l) k):=by
 intro X W σ N a w r;have f:=Qk r x;rw[J]at f;rcases f with⟨rfl,f⟩|⟨b,p,u,E,m,f,Q,V,⟨M,L⟩,B,R⟩
 .have d:=Qj7 (P:=P) (w:=w) E1 E2 (ad:=none) (XR 0) (Qc0 r g) (Qc0 r j) t F;refine⟨_,by simp only[execOp,G,f,Vi,d,Result.andThen,Vj,Xk];rfl,?_⟩;left
  grind
 .have d:=Qj7 (P:=P) (w:=w) E1 E2 (ad:=some ⟨b,p,none⟩) M (Qc0 r g) (Qc0 r j) t F;refine⟨_,by simp only[execOp,G,Q,Vi,d,Result.andThen,Vj,Xk];rfl,?_⟩;right;by_cases O:u=l
  .refine⟨b,p,0,E,m,f,by grind,λq=>by omega,by omega,B,?_⟩
   grind
  .refine⟨b,p+l*k,u-l,E,m,f,by rw[Vn O];simp[Y3],λq=>by grind,by omega,B,?_⟩
   grind
theorem OpV.max{c:Call}{x y:Operand}{k:IntKind}{m n:Int}(l:o.op=.call c)(f:c={callee:=.builtin .max,args:= #[x,y],argTypes:=c.argTypes})(i:opA env x=.int k m)(j:opA env y=.int k n):
  OpV P o env H (.int k (if m<n then n else m)):=by
 intro p q σ N a w r;have h:=Qy r i;have g:=Qy r j;refine⟨_,?_,rfl⟩;generalize a.eval=ρ at*;have e:c.callee=.builtin .max:=by rw[f]
 have d:c.args= #[x,y]:=by rw[f]
 simp only[execOp,l,resolve,e,d,invoke,Go.builtin,Vi,Vj,Result.andThen];simp[Builtin.max_,Builtin.max2,h,g,go_sem]
theorem OpV.min{c:Call}{x y:Operand}{k:IntKind}{m n:Int}(l:o.op=.call c)(f:c={callee:=.builtin .min,args:= #[x,y],argTypes:=c.argTypes})(i:opA env x=.int k m)(j:opA env y=.int k n):
  OpV P o env H (.int k (if n<m then n else m)):=by
 intro p q σ N a w r;have h:=Qy r i;have g:=Qy r j;refine⟨_,?_,rfl⟩;generalize a.eval=ρ at*;have e:c.callee=.builtin .min:=by rw[f]
 have d:c.args= #[x,y]:=by rw[f]
 simp only[execOp,l,resolve,e,d,invoke,Go.builtin,Vi,Vj,Result.andThen];simp[Builtin.min_,Builtin.min2,h,g,go_sem]
end
section
variable {P:Program} {h0 N:Nat} {env:Env} {H:Qd} {Q:QP} {c c':Code}
def CutP(h0:Nat)(Eb:Env)(Hb:Qd)(Q:QP):QP
 |.normal,env,H=>Le h0 env H Eb Hb
 |.exit id,env,H=>Q (.exit id) env H
 |.ret,env,H=>Q .ret env H
theorem TC.cut(Eb:Env)(Hb:Qd)(h:TC P h0 N c env H (CutP h0 Eb Hb Q))(k:∀env H,Le h0 env H Eb Hb->Q .normal env H):TC P h0 N c env H Q:=
 h.mono λx env' H' q=>by
  cases x with
  |normal=>exact k _ _ q
  |exit id=>exact q
  |ret=>exact q
theorem seqN(h:TC P h0 N c env H Q):Seq P h0 N c Q .normal env H:=h
theorem seqX{id:Nat}(h:Q (.exit id) env H):Seq P h0 N c Q (.exit id) env H:=h
theorem seqR(h:Q .ret env H):Seq P h0 N c Q .ret env H:=h
theorem bloN{id:Nat}(h:Q .normal env H):Blo id Q .normal env H:=h
theorem bloE{id:Nat}(h:Q .normal env H):Blo id Q (.exit id) env H:=by simp_all[Blo]
theorem bloX{id a:Nat}(e:Nat.beq a id=false)(h:Q (.exit a) env H):Blo id Q (.exit a) env H:=by simp only[Blo,e,Vl];exact h
theorem bloR{id:Nat}(h:Q .ret env H):Blo id Q .ret env H:=h
def QgS{S B:Type}(h0:Nat)(b:Ctl S B)(Eb:S->Env)(Hb:S->Qd)(Q:QP):QP
 |.normal,env,H=>∃s,b=.cont s/\Le h0 env H (Eb s) (Hb s)
 |.exit id,env,H=>Q (.exit id) env H
 |.ret,env,H=>Q .ret env H
theorem QkH{S B:Type}{b:Ctl S B}(Eb:S->Env)(Hb:S->Qd)(h:TC P h0 N c env H (QgS h0 b Eb Hb Q))(k:∀s env H,b=.cont s->Le h0 env H (Eb s) (Hb s)->Q .normal env H):TC P h0 N c env H Q:=
 h.mono λx env' H' q=>by
  cases x with
  |normal=>obtain⟨s,e,q⟩:=q;grind
  |exit id=>exact q
  |ret=>exact q
section
variable {S B:Type} {b:Ctl S B} {Eb:S->Env} {Hb:S->Qd}
theorem Qo{s:S}(e:b=.cont s)(h:Le h0 env H (Eb s) (Hb s)):QgS h0 b Eb Hb Q .normal env H:=⟨s,e,h⟩
theorem Qq(h:Q .ret env H):QgS h0 b Eb Hb Q .ret env H:=h
end
theorem Qnh{x:Operand}{t:Bool}(hx:opA env x=.bool t)(h:t=true)(ht:TC P h0 N c env H Q):TC P h0 N (.cond x c c') env H Q:=TC.cond hx (λ_=>ht) (λq=>by grind)
theorem Qni{x:Operand}{t:Bool}(hx:opA env x=.bool t)(h:t=false)(hf:TC P h0 N c' env H Q):TC P h0 N (.cond x c c') env H Q:=TC.cond hx (λq=>by grind) (λ_=>hf)
section
variable {S B:Type} {I:S->Env->Qd->Prop}
theorem Qj{s:S}{d:Ctl S B}(e:some (Ctl.cont s)=some d)(h:I s env H):Qbd I d Q .normal env H:=⟨s,(by grind),h⟩
theorem Ql{id:Nat}{b:B}{d:Ctl S B}(e:some (Ctl.done b)=some d)(h:Q (.exit id) env H):Qbd I d Q (.exit id) env H:=⟨(by grind),h⟩
theorem Qv{b:B}{d:Ctl S B}(e:some (Ctl.done b)=some d)(h:Q .ret env H):Qbd I d Q .ret env H:=⟨(by grind),h⟩
end
end
theorem Yq{α β:Type}{x:Option α}{f:α->Option β}{r:β}(h:x.bind f=some r):∃a,x=some a/\f a=some r:=Option.bind_eq_some_iff.1 h
def idx{α:Type}(l:List α)(i:Int):Option α:=bif decide (0<=i)then l[i.toNat]? else none
theorem Qam{α:Type}{l:List α}{i:Int}{x:α}(h:idx l i=some x):0<=i/\l[i.toNat]?=some x:=by
 grind[idx]
def app{α:Type}(l m:List α):Option (List α):=bif Nat.ble (l.length+m.length) Yk then some (l++m)else none
theorem QhC{α:Type}{l m r:List α}(h:app l m=some r):l.length+m.length<=Yk/\l++m=r:=by
 unfold app at h;cases q:Nat.ble (l.length+m.length) Yk with
 |true=>simp_all
 |false=>grind
def slc{α:Type}(l:List α)(lo hi:Int):Option (List α):=bif decide (0<=lo)&&decide (lo<=hi)&&decide (hi<=(l.length:Int))then some ((l.take hi.toNat).drop lo.toNat)else none
theorem QbJ{α:Type}{l r:List α}{lo hi:Int}(h:slc l lo hi=some r):0<=lo/\lo<=hi/\hi<=l.length/\(l.take hi.toNat).drop lo.toNat=r:=by
 grind[slc]
def Qbj{α:Type}(l:List α)(i:Int)(x:α):Option (List α):=bif decide (0<=i)&&decide (i<(l.length:Int))then some (l.set i.toNat x)else none
theorem Qey{α:Type}{e:α->List A}{l:List α}{i:Nat}{x:α}(h:l[i]?=some x):(l.map e)[i]?=some (e x):=by simp[h]
section
variable {P:Program} {h0 N:Nat} {env:Env} {H H':Qd} {Q:QP} {all:Array Oper} {o:Oper} {l:List Oper} {d:Nat} {x:A}
theorem vV(a:OpV P o env H x)(k:WO P h0 N all l (up env d x) H Q)(hg:QB all o env true:=by exact rfl)(hd:o.dst=some d:=by exact rfl)(hN:Nat.blt d N=true:=by exact rfl):WO P h0 N all (o::l) env H Q:=
 YP hg hd hN a k
theorem vH(a:OpH P o env H x H')(k:WO P h0 N all l (up env d x) H' Q)(hg:QB all o env true:=by exact rfl)(hd:o.dst=some d:=by exact rfl)(hN:Nat.blt d N=true:=by exact rfl)(hh:Nat.ble h0 H.length=true:=by exact rfl):WO P h0 N all (o::l) env H Q:=
 QhD (by simp_all) hg hd hN a k
theorem vN(a:OpH P o env H x H')(k:WO P h0 N all l env H' Q)(hg:QB all o env true:=by exact rfl)(hd:o.dst=none:=by exact rfl)(hh:Nat.ble h0 H.length=true:=by exact rfl):WO P h0 N all (o::l) env H Q:=
 Qpo (by simp_all) hg hd a k
theorem vU(a:OpU P o env H H')(k:WO P h0 N all l env H' Q)(hg:QB all o env true:=by exact rfl)(hd:o.dst=none:=by exact rfl)(hh:Nat.ble h0 H.length=true:=by exact rfl):WO P h0 N all (o::l) env H Q:=
 Qm6 (by simp_all) hg hd a k
theorem gT{j s:Nat}{c x:Bool}(a:x=c)(hg:o.guard=some (j,c):=by exact rfl)(hs:(all[j]?).bind (·.dst)=some s:=by exact rfl)(hl:lk env s=.bool x:=by exact rfl):QB all o env true:=by
 simp_all[QB]
theorem gF{j s:Nat}{c x:Bool}(a:x= !c)(hg:o.guard=some (j,c):=by exact rfl)(hs:(all[j]?).bind (·.dst)=some s:=by exact rfl)(hl:lk env s=.bool x:=by exact rfl):QB all o env false:=by
 simp_all[QB]
theorem Qna{x x':A}(e:x'=x)(a:H'=H)(k:WO P h0 N all l (up env d x) H Q):WO P h0 N all l (up env d x') H' Q:=by grind
theorem QdH(a:H'=H)(k:WO P h0 N all l env H Q):WO P h0 N all l env H' Q:=by grind
theorem Qz{f:FuncId}{args a:List A}{Hc:Qd}{Qr:A->Qd->Prop}(π:List Nat)(e:OpC P o env H f args)(g:C P f a Hc Qr)
  (k:∀r H1,Qr r H1->WO P h0 N all l (up env d (Y1 (rho π H.length) r)) (Yv H π (H1.map (Q8 (rho π H.length)))) Q)
  (hargs:args=Qag (rho π H.length) a:=by exact rfl)(hH:π.map (λp=>H[p]?)=(Hc.map (Q8 (rho π H.length))).map some:=by exact rfl)(hπ:π.Nodup:=by decide)
  (hg:QB all o env true:=by exact rfl)(hd:o.dst=some d:=by exact rfl)(hN:Nat.blt d N=true:=by exact rfl)(hh:Nat.ble h0 H.length=true:=by exact rfl):WO P h0 N all (o::l) env H Q:=
 WO.call (d:=some d) π (by simp_all) hg hd (λx h=>by simp_all) e hargs hH hπ g k
end
section
variable {P:Program} {o:Oper} {env:Env} {H:Qd} {α:Type} {e:α->List A}
theorem Qnn{c:Call}{t d k:Nat}{x:Operand}{l:List α}(f:∀w,(underlying t).run P w=.ok (.slice d) w)(a:o.op=.call c:=by exact rfl)(hc:c={callee:=.builtin .len,args:= #[x],argTypes:= #[t]}:=by exact rfl)
  (hx:opA env x=.rsl k (l.map e):=by exact rfl):OpV P o env H (.int .i64 l.length):=by
 have:=Qnm (H:=H) a hc f hx
 grind
theorem Qdn{t a k:Nat}{x y:Operand}{l:List α}{f:IntKind}{i:Int}{v:α}(h:idx l i=some v)(d:∀w,(underlying t).run P w=.ok (.slice a) w)(j:∀w,(sizeOf a).run P w=.ok k w)
  (g:o.op=.indexAddr t x y:=by exact rfl)(hx:opA env x=.rsl k (l.map e):=by exact rfl)(hy:opA env y=.int f i:=by exact rfl):OpV P o env H (.rp (e v)):=
 Qou g d j hx hy (Qam h).1 (Qey (Qam h).2)
theorem Qt{t a k b n:Nat}{x y:Operand}{l:List α}{f:IntKind}{i:Int}{v:α}(h:idx l i=some v)(p:l.length=n)(e:∀w,(underlying t).run P w=.ok (.slice a) w)(d:∀w,(sizeOf a).run P w=.ok k w)
  (j:o.op=.indexAddr t x y:=by exact rfl)(hx:opA env x=.osl b 0 n k:=by exact rfl)(hy:opA env y=.int f i:=by exact rfl):OpV P o env H (.ptr b (i.toNat*k)):=by
 have:=Qam h;have g:i.toNat<l.length:=(by grind);have m:=QhH (H:=H) j e d hx hy this.1 (by omega)
 grind
theorem YA{b t k f:Nat}{l:List α}{i:Int}{v:α}{cs':List A}(h:idx l i=some v)(a:H[b]?=some (.row t k (l.map e)):=by exact rfl)(hcs:(e v).drop f=cs':=by exact rfl):Pts H (.ptr b (i.toNat*k+f)) cs':=
 Pts.row a rfl (Qey (Qam h).2) hcs
theorem Qn{b t k:Nat}{l:List α}{i:Int}{v:α}{cs':List A}(h:idx l i=some v)(a:H[b]?=some (.row t k (l.map e)):=by exact rfl)(hcs:e v=cs':=by exact rfl):Pts H (.ptr b (i.toNat*k)) cs':=
 Pts.row (f:=0) a rfl (Qey (Qam h).2) hcs
theorem QiW{c:Call}{T T' et et' k:Nat}{x y:Operand}{a:A}{m r:List α}(h:app [] m=some r)(E:Ya P T et k)(d:∀w,(underlying T').run P w=.ok (.slice et') w)(g:Src P H a k (m.map e))
  (f:o.op=.call c:=by exact rfl)(hc:c={callee:=.builtin .append,args:= #[x,y],argTypes:= #[T,T']}:=by exact rfl)(hx:opA env x=.nils:=by exact rfl)(hy:opA env y=a:=by exact rfl):
  OpH P o env H (.osl H.length 0 r.length k) (H++[.row et k (r.map e)]):=by
 obtain⟨i,rfl⟩:=QhC h;have:=Qgg E d f hc hx hy g (by grind)
 grind
theorem Qs{c:Call}{T T' et et' k i n:Nat}{x y:Operand}{a:A}{l m r:List α}(h:app l m=some r)(E:Ya P T et k)(d:∀w,(underlying T').run P w=.ok (.slice et') w)(f:Src P H a k (m.map e))
  (g:l.length=n:=by exact rfl)(ho:o.op=.call c:=by exact rfl)(hc:c={callee:=.builtin .append,args:= #[x,y],argTypes:= #[T,T']}:=by exact rfl)(hx:opA env x=.osl i 0 n k:=by exact rfl)
  (hH:H[i]?=some (.row et k (l.map e)):=by exact rfl)(hy:opA env y=a:=by exact rfl):
  OpH P o env H (.osl H.length 0 r.length k) (H.set i .dead++[.row et k (r.map e)]):=by
 obtain⟨j,rfl⟩:=QhC h;subst g;have:=Qef E d ho hc hx hH (by simp) hy f (by grind) (gs:=(l++m).map e) (by rw[VE (by simp)];simp)
 grind
theorem QbY{k:Nat}{l:List α}:Src P H (.rsl k (l.map e)) k (l.map e):=Src.rsl
theorem QX{i n k t:Nat}{l:List α}(a:H[i]?=some (.row t k (l.map e)):=by exact rfl)(hn:l.length=n:=by exact rfl):Src P H (.osl i 0 n k) k (l.map e):=
 Src.osl a (by grind[List.take_of_length_le]) (by simp[hn])
theorem YU{t n b T k f:Nat}{x y:Operand}{l l':List α}{i:Int}{v j:α}{vs:List A}{a:A}{off:Nat}(h:idx l i=some v)(q:Qbj l i j=some l')(p:∀w,(sizeOf t).run P w=.ok n w)(d:off=i.toNat*k+f)(g:splice (e v) f vs=e j)
  (m:o.op=.store t x y:=by exact rfl)(hx:opA env x=.ptr b off:=by exact rfl)(hH:H[b]?=some (.row T k (l.map e)):=by exact rfl)
  (hy:opA env y=a:=by exact rfl)(hk:Yp a=true:=by exact rfl)(hv:Yf a=vs:=by exact rfl)(hn:vs.length=n:=by exact rfl)(hp:vs.all Yz=true:=by exact rfl)(hd:YK vs=true:=by exact rfl)(hf:Nat.ble (f+n) k=true:=by exact rfl):
  OpU P o env H (H.set b (.row T k (l'.map e))):=by
 refine QhI m hx hH p d (Qey (Qam h).2) hy hk hv hn hp hd hf g ?_
 grind[Qbj,List.map_set]
end
def ZR(a:A)(v:Value):Prop:=∀ro σ w,VR ro σ w a v
def ZL(az:List A)(l:List Value):Prop:=∀ro σ w,LR ro σ w az l
theorem ZR.int{k:IntKind}{n:Int}:ZR (.int k n) (.int k n):=λ_ _ _=>rfl
theorem ZR.bool{b:Bool}:ZR (.bool b) (.bool b):=λ_ _ _=>rfl
theorem ZR.str:ZR (.str []) (.string ⟨#[]⟩):=λ_ _ _=>rfl
theorem ZR.rsl{α:Type}{k:Nat}{e:α->List A}:ZR (.rsl k (List.map e [])) (.slice none 0 0):=λ_ _ _=>⟨none,0,rfl,XR _,.inl rfl⟩
theorem ZR.nils:ZR .nils (.slice none 0 0):=λ_ _ _=>rfl
theorem ZR.nilp:ZR .nilp (.pointer none):=λ_ _ _=>rfl
theorem ZR.nilf:ZR .nilf .nilFunc:=λ_ _ _=>rfl
theorem ZR.nilm:ZR .nilm (.map none):=λ_ _ _=>rfl
theorem Qop:ZR .nilif .nilIface:=λ_ _ _=>rfl
theorem ZL.nil:ZL [] []:=λ_ _ _=>rfl
theorem ZL.cons{a:A}{v:Value}{az:List A}{l:List Value}(h:ZR a v)(k:ZL az l):ZL (a::az) (v::l):=λro σ w=>⟨v,l,rfl,h ro σ w,k ro σ w⟩
theorem ZR.agg{az:List A}{l:List Value}(h:ZL az l):ZR (.agg az) (.agg l.toArray):=λro σ w=>⟨l,rfl,h ro σ w⟩
section
variable {P:Program} {o:Oper} {env:Env} {H:Qd}
theorem QcP{t:Nat}{z:Value}{v:A}{cs:List A}(i:∀w,(zeroValue t).run P w=.ok z w)(h:ZR v z)(k:o.op=.alloc t:=by exact rfl)(hk:Yp v=true:=by exact rfl)(hcs:Yf v=cs:=by exact rfl)(hpl:cs.all Yz=true:=by exact rfl):
  OpH P o env H (.ptr H.length 0) (H++[.cells t cs]):=by
 intro j f σ N a w r;obtain⟨l,g,d⟩:=(h f σ w).cells hk;subst hcs;refine⟨.pointer (some ⟨w.heap.size,0,none⟩),w.alloc (.cells l.toArray t),f,[some w.heap.size],?_,⟨w.heap.size,?_,rfl⟩,r.sim.allocCells d (d.plain hpl),Qi.alloc _ r.sim.roLt r.sim.frLt⟩
 .generalize a.eval=ρ at*;have e:(newVar t z).run P w=.ok ⟨w.heap.size,0,none⟩ (w.alloc (.cells l.toArray t)):=by
   unfold newVar;rw[g];rfl
  simp_all[execOp,Instr.alloc]
 .rw[<- r.sim.len];simp
theorem QjG{t:TypeId}{p q:Bool}{w:World}(a:∀w,(underlying t).run P w=.ok .bool w):(Op.equal t (.bool p) (.bool q)).run P w=.ok (p==q) w:=by
 have k:∀d,(Op.equalIn (d+1) t (.bool p) (.bool q)).run P w=.ok (p==q) w:=by
  intro d;simp[Op.equalIn,a,go_sem]
 exact k 9999
theorem QfY{t u:TypeId}{x y:Operand}{p q:Bool}(e:∀w,(underlying t).run P w=.ok .bool w)(h:o.op=.binOp .neq t x y u:=by exact rfl)(hx:opA env x=.bool p:=by exact rfl)(hy:opA env y=.bool q:=by exact rfl):OpV P o env H (.bool (p != q)):=by
 intro g i σ N a w r;have f:=Qc1 r hx;have d:=Qc1 r hy;refine⟨_,?_,rfl⟩
 simp_all[execOp,Go.binOp,eqGuard,QjG,bne]
theorem QY{t:TypeId}{x y:Operand}{s:List UInt8}{k:IntKind}{i:Int}{c:UInt8}(h:idx s i=some c)(d:∀w,(underlying t).run P w=.ok .string w)(a:o.op=.index t x y:=by exact rfl)(hx:opA env x=.str s:=by exact rfl)(hy:opA env y=.int k i:=by exact rfl):
  OpV P o env H (.int .u8 c.toNat):=QlH a d hx hy (Qam h).1 (Qam h).2
theorem QlJ{c:Call}{t d i n k:Nat}{x:Operand}(e:∀w,(underlying t).run P w=.ok (.slice d) w)(a:o.op=.call c:=by exact rfl)(hc:c={callee:=.builtin .len,args:= #[x],argTypes:= #[t]}:=by exact rfl)
  (hx:opA env x=.osl i 0 n k:=by exact rfl):OpV P o env H (.int .i64 n):=QiV a hc e hx
end
def Qe(k:IntKind)(n:Int):List A:=[.int k n]
def Qa1(b:Bool):List A:=[.bool b]
def JB(s:List UInt8):List A:=[.str s]
def Qu{α:Type}(k:Nat)(e:α->List A)(l:List α):List A:=[.rsl k (l.map e)]
theorem QhS{P:Program}{rd:Option Nat}{o:Oper}{a:Act}{next:Act->World->Prop}{Q:Exit->Act->World->Prop}{e:Result Next}
  (k:∀a' w',next a' w'->a'.defers=a.defers)(h:o.uponIn (WF rd) 0 P a next Q e):
  o.uponIn (WF rd) 0 P a (λa' w'=>next a' w'/\ ∃v,a'=a.put o.dst v) Q e:=by
 cases e with
 |ok n w'=>
  cases n with
  |value v=>exact⟨h,_,rfl⟩
  |skip=>exact⟨h,_,rfl⟩
  |defer d=>
   have:=congrArg List.length (k _ _ h);exfalso
   revert this
   cases o.dst<;>simp[Act.put]
  |enter f g=>
   exact⟨h.1,CallsIn.mono h.2 (by grind)⟩
  |row r g=>exact⟨h.1,RowsIn.mono h.2 (by grind)⟩
  |round l f i assign j=>exact⟨h.1,RoundIn.mono h.2 (by grind)⟩
  |_=>exact h.elim
 |halt x w'=>cases x<;>first|exact h|exact h.elim
def Y8(e:Env)(H:Qd):QP:=λx e' H'=>x=.normal/\e'=e/\H'=H
theorem Y8.mk{e:Env}{H:Qd}:Y8 e H .normal e H:=⟨rfl,rfl,rfl⟩
inductive Sb (af bf ds:List Nat) (xs:List A) (env0:Env):Env->Prop
 |nil:Sb af bf ds xs env0 []
 |dep (j:Nat) {s:Nat} {a:A} {r:Env} (h1:af.contains j=true) (h2:ds[j]?=some s) (h3:xs[j]?=some a) (k:Sb af bf ds xs env0 r):Sb af bf ds xs env0 ((s,a)::r)
 |old {s:Nat} {a:A} {r:Env} (h1:ds.contains s=false) (h2:lk env0 s=a) (k:Sb af bf ds xs env0 r):Sb af bf ds xs env0 ((s,a)::r)
 |pre (j:Nat) {s:Nat} {a:A} {r:Env} (h1:bf.contains j=true) (h2:ds[j]?=some s) (h3:lk env0 s=a) (k:Sb af bf ds xs env0 r):Sb af bf ds xs env0 ((s,a)::r)
def Qh(o:Oper):List Nat:=(o.after.toList.filter (Region.binds .any)).map (·.on)
def QhB(l:List Oper)(i:Nat):List Nat:=(List.range l.length).filter λj=>((l[j]?).map Qh).getD [] |>.contains i
inductive Qeg (P:Program) (N:Nat) (l:List Oper) (ds:List Nat) (xs:List A) (env0:Env) (i:Nat) (H H':Qd):Prop
 |mk (o:Oper) (e:Env) (d:Nat) (x:A) (ho:l[i]?=some o) (hd:o.dst=some d) (hx:xs[i]?=some x) (hs:Sb (Qh o) (QhB l i) ds xs env0 e)
   (h:WO P H.length N l.toArray [o] e H (Y8 (up e d x) H')):Qeg P N l ds xs env0 i H H'
theorem Qeg.use{P:Program}{N:Nat}{l:List Oper}{G:List Nat}{xs:List A}{env0:Env}{i:Nat}{H H':Qd}(t:Qeg P N l G xs env0 i H H')
  {Q:Exit->Act->World->Prop}{K:Act->World->Prop}{fr ro:Nat->Prop}{σ:Sig}{a:Act}{w:World}{o:Oper}{rd:Option Nat}(ho:l[i]?=some o)
  (p:Sim fr ro σ H w)(hN:a.tmps.size=N)(B:Qcy fr a.defers w)(M:QdL rd fr w)
  (hD:∀j∈Qh o,∀s x,G[j]?=some s->xs[j]?=some x->VR ro σ w x (a.tmps.getD s undef))
  (hE:∀s,G.contains s=false->VR ro σ w (lk env0 s) (a.tmps.getD s undef))(hP:∀j s,(QhB l i).contains j=true->G[j]?=some s->VR ro σ w (lk env0 s) (a.tmps.getD s undef))
  (hK:∀v w' ro' τ d x,o.dst=some d->xs[i]?=some x->VR ro' (σ++τ) w' x ((a.put o.dst v).tmps.getD d undef)->Sim fr ro' (σ++τ) H' w'->Qi fr ro w ro' w'->K (a.put o.dst v) w'):
  wpOpIn (WF rd) 0 P l.toArray Q i K a w:=by
 obtain⟨y,e,d,x,L,hd,hx,hs,h⟩:=t;obtain rfl:y=o:=XW (L.symm.trans ho);have F:Rel fr ro σ H e N a w:=by
  refine⟨p,?_,hN,B⟩;intro s;clear h
  induction hs with
  |nil=>exact trivial
  | @dep j s1 u r k g h3 _ ih=>
   unfold lk;cases t:Nat.beq s s1 with
   |false=>exact ih
   |true=>
    obtain rfl:=XO t
    grind
  | @old s1 u r k g _ ih=>
   unfold lk;cases t:Nat.beq s s1 with
   |false=>exact ih
   |true=>
    obtain rfl:=XO t
    grind
  | @pre j s1 u r k g h3 _ ih=>
   unfold lk;cases t:Nat.beq s s1 with
   |false=>exact ih
   |true=>
    obtain rfl:=XO t
    grind
 have E:=h rd fr ro σ a w F M;have fin:∀v w',QbC H.length fr ro σ w N a.defers (Y8 (up e d x) H') .normal (a.put y.dst v) w'->K (a.put y.dst v) w':=by
  rintro v w' ⟨_,W,H2,ro',σ',aa,_,⟨_,rfl,rfl⟩,Y,m,ht,_,T⟩;have hσ:σ'=σ++σ'.drop H.length:=by
   conv=>lhs;rw[<- Xx H.length σ']
   rw[ht, <- p.len,X6]
  have J:=Y.env d;unfold lk at J;rw[VB]at J;rw[hσ]at J;refine hK v w' ro' (σ'.drop H.length) d x hd hx J ?_ m;rw[<- hσ];exact Y.sim.frMono T.sub
 unfold wpOpIn;have R:l.toArray[i]?=some y:=by simpa using ho
 rw[R];simp only;unfold wpL wpListIn at E;split at E
 .rename_i hw;rw[Vp hw];obtain⟨O,E⟩:=E;refine⟨O,?_⟩;have g:=QhS (by
   intro a' w' q;unfold wpListIn at q;obtain⟨_,_,_,_,_,_,_,_,_,_,_,q,_⟩:=q;exact q) E
  generalize(y.semAt (WF rd).round a.eval).run P w=res at*;cases res with
  |ok n w'=>
   cases n with
   |value v=>exact fin _ _ g.1
   |skip=>exact fin _ _ g.1
   |defer df=>
    exfalso;obtain⟨⟨_,_,_,_,_,_,_,_,_,_,_,q,_⟩,_⟩:=g;have:=congrArg List.length q
    revert this
    cases y.dst<;>simp[Act.put]
   |enter f z=>
    refine⟨g.1,CallsIn.mono g.2 (λe V m=>?_)⟩;cases e with
    |returned v=>exact fin _ _ m.1
    |panicked c=>obtain⟨u,_,_,_,_,_,k,⟨rfl,_⟩,_⟩:=m;exact k.elim
    |outgrown=>obtain⟨a1,w1,u,_,_,_,_,_,k,⟨rfl,_⟩,_⟩:=m;exact k.elim
   |row r z=>
    exact⟨g.1,RowsIn.mono g.2 (λ_ _ m=>fin _ _ m.1)⟩
   |round l f tmps assign X=>
    refine⟨g.1,RoundIn.mono g.2 (λe V m=>?_)⟩;cases e with
    |returned v=>exact fin _ _ m.1
    |panicked c=>obtain⟨u,_,_,_,_,_,k,⟨rfl,_⟩,_⟩:=m;exact k.elim
    |outgrown=>obtain⟨a1,w1,u,_,_,_,_,_,k,⟨rfl,_⟩,_⟩:=m;exact k.elim
   |_=>exact g.elim
  |halt x w'=>
   cases x with
   |panic v=>obtain⟨u,_,_,_,_,_,k,⟨rfl,_⟩,_⟩:=g;exact k.elim
   |_=>exact g.elim
 simp_all[wpListIn]
theorem least{p:Nat->Prop}(a:∀i,p i\/ ¬p i):∀n,p n->∃i,i<=n/\p i/\ ∀j,j<i->¬p j:=by
 intro n
 induction n using Nat.strongRecOn with
 |ind n d=>
  grind
def onL(L:Array Bool)(i:Nat):Prop:=L[i]?=some true
theorem QaC{l:List Oper}{L:Array Bool}(n:L.size=l.length){i:Nat}:
  i∈Region.ready .any l.toArray L↔ ∃o,l[i]?=some o/\ ¬onL L i/\ ∀j∈Qh o,onL L j:=by
 unfold Region.ready;simp only[Xd,List.mem_range,List.size_toArray,XU,Bool.not_eq_true',XE];have d:∀j,L.getD j false=true↔onL L j:=by
  intro j;unfold onL;rw[Array.getD_eq_getD_getElem?]
  grind
 constructor
 .rintro⟨f,g,a⟩;refine⟨l[i],(by simp),?_,?_⟩
  .grind
  .rw[XI f]at a;simp only[Xj,Option.getD_some,Array.all_eq_true']at a;intro j h;unfold Qh at h
   grind
 .rintro⟨o,f,g,a⟩;have k:i<l.length:=(by grind);refine⟨k,?_,?_⟩
  .grind
  .rw[f];simp only[Xj,Option.getD_some,Array.all_eq_true'];intro e p;cases m:Region.binds .any e with
   |false=>simp
   |true=>
    have:=(d _).2 (a e.on (by unfold Qh;grind))
    grind
theorem JG{L:Array Bool}{i j:Nat}(hi:i<L.size):onL (L.setIfInBounds i true) j↔j=i\/onL L j:=by
 grind[onL]
def unl(L:Array Bool):Nat:=L.toList.countP (!·)
theorem QgY{L:Array Bool}{i:Nat}(hi:i<L.size)(h:¬onL L i):unl (L.setIfInBounds i true)+1=unl L:=by
 unfold unl;have a:i<L.toList.length:=by omega
 have d:L.toList[i]=false:=by
  grind[onL]
 grind
theorem Qj3{L:Array Bool}{i:Nat}(hi:i<L.size)(h:¬onL L i):0<unl L:=by have:=QgY hi h;omega
inductive Qcx (l:List Oper) (m:Nat):Nat->Prop
 |one {o:Oper} {j:Nat} (ho:l[m]?=some o) (hj:j∈Qh o):Qcx l m j
 |step {o:Oper} {i j:Nat} (h:Qcx l m i) (ho:l[i]?=some o) (hj:j∈Qh o):Qcx l m j
def Qe6(l:List Oper):Nat->List Nat->List Nat
 |0,S=>S
 |j+1,S=>Qe6 l j (bif S.contains j then S++(match l[j]? with|some o=>Qh o|none=>[])else S)
theorem Qb4{l:List Oper}{m:Nat}:∀(n:Nat) (S:List Nat),(∀j∈S,Qcx l m j)->∀j∈Qe6 l n S,Qcx l m j
 |0,S,h,j,hj=>h j hj
 |n+1,S,h,j,hj=>by
  refine Qb4 n _ ?_ j hj;intro i hi;cases q:S.contains n with
  |false=>grind
  |true=>
   rw[q]at hi;rcases Vz.1 hi with z|z
   .exact h i z
   .cases ho:l[n]? with
    |none=>grind
    |some o=>rw[ho]at z;exact .step (by grind) ho z
def Qaq(ds:List Nat)(xs:List A)(env0:Env):Env:=ds.zip xs++env0
theorem QnY{a:List Nat}{xs:List A}{env0:Env}(e:a.length=xs.length)(s:Nat):
  (∃(j:Nat) (x:A),a[j]?=some s/\xs[j]?=some x/\lk (Qaq a xs env0) s=x)\/(a.contains s=false/\lk (Qaq a xs env0) s=lk env0 s):=by
 unfold Qaq
 induction a generalizing xs with
 |nil=>right;simp
 |cons d a g=>
  cases xs with
  |nil=>simp at e
  |cons x xs=>
   simp only[XX,Nat.add_right_cancel_iff]at e;simp only[List.zip_cons_cons,VG,lk];cases h:Nat.beq s d with
   |true=>
    obtain rfl:=XO h;left;exact⟨0,x,rfl,rfl,by simp⟩
   |false=>
    have k:s≠d:=λq=>by simp_all
    rcases g e with⟨j,y,i,f,l⟩|⟨i,f⟩
    .left;exact⟨j+1,y,by grind,by grind,by grind⟩
    grind
def drawChk.nodupB:List Nat->Bool
 |[]=>true
 |x::r=> !r.contains x&&drawChk.nodupB r
def drawChk.goB(l:List Oper)(m:Nat):Nat->List Oper->Bool
 |_,[]=>true
 |i,o::r=>(Qh o).all (λj=>Nat.blt j i)&&(bif Nat.beq i m then(List.range m).all (λj=>(Qe6 l m (Qh o)).contains j)else bif Nat.blt m i then(Qh o).contains (i-1)else true)&&drawChk.goB l m (i+1) r
def drawChk.loB(m k:Nat)(los:List Nat)(hs:List Bool):Nat->List Oper->Bool
 |_,[]=>(List.range k).all λj=>(List.range m).any λi=>hs.getD i false&&Nat.beq (los.getD i 0) j
 |i,o::r=>(bif Nat.blt i m then
   (Nat.beq (los.getD i 0) 0||(Qh o).any (λj=>Nat.blt j m&&Nat.ble (los.getD i 0) (los.getD j 0+(if hs.getD j false then 1 else 0))))
   &&(!hs.getD i false||(Nat.blt (los.getD i 0) k&&(List.range m).all (λj=> !hs.getD j false|| !Nat.beq (los.getD i 0) (los.getD j 0)||Nat.beq i j)))
  else true)&&drawChk.loB m k los hs (i+1) r
def drawChk(l:List Oper)(m k N:Nat)(ds los:List Nat)(hs:List Bool):Bool:=
 Nat.ble m l.length&&(ds.length==m)&&(l.take m).map (·.dst)==ds.map some&&ds.all (λd=>Nat.blt d N)&&drawChk.nodupB ds
 &&drawChk.goB l m 0 l&&(drawChk.loB m k los hs 0 l)
theorem QdX{a:List Nat}(h:drawChk.nodupB a=true):∀(i j d:Nat),a[i]?=some d->a[j]?=some d->i=j:=by
 induction a with
 |nil=>simp
 |cons x r e=>
  simp only[drawChk.nodupB,XU,Bool.not_eq_true']at h
  grind
theorem Qii{l:List Oper}{m:Nat}:∀(r:List Oper) (b:Nat),drawChk.goB l m b r=true->∀(i:Nat) (o:Oper),r[i]?=some o->
  (∀j∈Qh o,j<b+i)/\(b+i=m->∀j,j<m->j∈Qe6 l m (Qh o))/\(m<b+i->b+i-1∈Qh o):=by
 intro r
 induction r with
 |nil=>simp
 |cons x r e=>
  intro b h i o a;simp only[drawChk.goB,XU]at h;cases i with
  |zero=>
   simp at a;subst a;refine⟨λj f=>?_,λd j f=>?_,λd=>?_⟩
   .simp_all
   .simp_all
   .have g:=h.1.2;have k:Nat.beq b m=false:=by
     cases q:Nat.beq b m with
     |false=>rfl
     |true=>simp_all
    have n:Nat.blt m b=true:=by simp_all
    grind
  |succ i=>
   have:=e (b+1) h.2 i o (by grind)
   grind
inductive Ob (P:Program) (N:Nat) (l:List Oper) (ds:List Nat) (xs:List A) (env0:Env):Nat->List (List (Qd×Qd))->Prop
 |nil {i:Nat}:Ob P N l ds xs env0 i []
 |cons {i:Nat} {s:List (Qd×Qd)} {r:List (List (Qd×Qd))} (h:∀p∈s,Qeg P N l ds xs env0 i p.1 p.2) (k:Ob P N l ds xs env0 (i+1) r):Ob P N l ds xs env0 i (s::r)
theorem Ob.get{P:Program}{N:Nat}{l:List Oper}{d:List Nat}{xs:List A}{env0:Env}{b:Nat}{a:List (List (Qd×Qd))}(h:Ob P N l d xs env0 b a):
  ∀(i:Nat) (s:List (Qd×Qd)),a[i]?=some s->∀p∈s,Qeg P N l d xs env0 (b+i) p.1 p.2:=by
 induction h with
 |nil=>simp
 | @cons b1 s1 r1 h _ ih=>
  grind
theorem Ob.st0{P:Program}{N:Nat}{l:List Oper}{a:List Nat}{xs:List A}{env0:Env}{i:Nat}:∀p∈([]:List (Qd×Qd)),Qeg P N l a xs env0 i p.1 p.2:=by
 simp
theorem Ob.stC{P:Program}{N:Nat}{l:List Oper}{a:List Nat}{xs:List A}{env0:Env}{i:Nat}{H H':Qd}{r:List (Qd×Qd)}(h:Qeg P N l a xs env0 i H H')
  (k:∀p∈r,Qeg P N l a xs env0 i p.1 p.2):∀p∈(H,H')::r,Qeg P N l a xs env0 i p.1 p.2:=by
 grind
theorem Qbe.nil{H:Qd}:Qbe H [] []:=trivial
theorem Qbe.cons{H:Qd}{az d f:List A}{a b:A}(e:az=a::d)(h:Look H a b)(k:Qbe H d f):Qbe H az (b::f):=by subst e;exact⟨h,k⟩
section
variable {P:Program} {o:Oper} {env:Env} {H:Qd} {α:Type} {e:α->List A}
end
inductive PL (P:Program):List Field->List (Nat×Nat)->Prop
 |nil:PL P [] []
 |cons {f:Field} {n:Nat} {fs:List Field} {pl:List (Nat×Nat)} (h:∀w,(sizeOf f.type).run P w=.ok n w) (k:PL P fs pl):PL P (f::fs) ((f.offset,n)::pl)
theorem PL.run{P:Program}{fs:List Field}{a:List (Nat×Nat)}(h:PL P fs a):∀w,(fs.mapM λf=>(do pure (f.offset, <- sizeOf f.type):Sem (Nat×Nat))).run P w=.ok a w:=by
 induction h with
 |nil=>intro w;rfl
 |cons h _ ih=>
  simp_all
structure QfR (P:Program) (t:TypeId) (pl:List (Nat×Nat)):Prop where
 un:∃fs:List Field,(∀w,(underlying t).run P w=.ok (.struct fs.toArray) w)/\PL P fs pl
section
variable {P:Program} {o:Oper} {env:Env} {H:Qd}
def Qd4(env:Env)(pl:List (Nat×Nat)):List A->List (Nat×Operand)->Option (List A)
 |cs,[]=>some cs
 |cs,(i,x)::r=>match pl[i]? with
  |none=>none
  |some (off,size)=>bif Yp (opA env x)&&Nat.beq (Yf (opA env x)).length size&&Nat.ble (off+size) cs.length then Qd4 env pl (splice cs off (Yf (opA env x))) r else none
theorem Qfo{fr ro:Nat->Prop}{σ:Sig}{N:Nat}{a:Act}{w:World}(r:Rel fr ro σ H env N a w){d:List (Nat×Nat)}:∀(parts:List (Nat×Operand)) (cs:List A) (l:List Value) (cs':List A),
  LR ro σ w cs l->Qd4 env d cs parts=some cs'->
  ∃l',Instr.fill (d.toArray[·]?) l.toArray (parts.map λp=>(p.1,a.eval p.2))=some l'.toArray/\LR ro σ w cs' l'
 |[],cs,l,cs',h,q=>by
  cases q;exact⟨l,rfl,h⟩
 |(i,x)::rest,cs,l,cs',h,q=>by
  unfold Qd4 at q;cases hp:d[i]? with
  |none=>grind
  |some p=>
   obtain⟨off,size⟩:=p;rw[hp]at q;simp only at q;cases hc:(Yp (opA env x)&&Nat.beq (Yf (opA env x)).length size&&Nat.ble (off+size) cs.length)with
   |false=>grind
   |true=>
    rw[hc]at q;simp only[XU]at hc;obtain⟨⟨c1,c2⟩,c3⟩:=hc;obtain⟨m,q1,q2⟩:=(Qk r x).cells c1;have hm:m.length=size:=by rw[q2.length];simp_all
    have f:l.length=cs.length:=h.length;obtain⟨l',e,g⟩:=Qfo r rest _ (splice l off m) cs' (h.splice off q2) q
    grind[Qgz,Nat.le_of_ble_eq_true]
theorem OpV.build{t:TypeId}{z:Value}{zs cs:List A}{d:List (Nat×Nat)}{parts:List (Nat×Operand)}(j:∀w,(zeroValue t).run P w=.ok z w)(s:ZR (.agg zs) z)(k:QfR P t d)
  (g:o.op=.build t parts.toArray:=by exact rfl)(hf:Qd4 env d zs parts=some cs:=by exact rfl):OpV P o env H (.agg cs):=by
 intro u q σ N a w r;obtain⟨x,h,f⟩:=k.un;obtain⟨l,rfl,n⟩:=s q σ w;obtain⟨e,i,m⟩:=Qfo r parts zs l cs n hf;refine⟨.agg e.toArray,?_,e,rfl,m⟩;generalize hρ:a.eval=ρ at*;have p:=f.run w;simp only[execOp,g,Instr.build,Vi,j,Result.andThen,h,XG,List.mapM_toArray,Sem.run_map,p,Value.cells,i,Vj]
end
def nz(n:Int):Option Unit:=bif n==0 then none else some ()
section
variable {P:Program} {o:Oper} {env:Env} {H:Qd}
theorem QfT{x:Operand}{a:A}(j:o.op=.nilCheck x)(g:opA env x=a:=by exact rfl)(hk:(match a with|.ptr _ _=>true|.rp _=>true|_=>false)=true:=by exact rfl):OpV P o env H a:=by
 intro i k σ N ac w r;have h:=Qk r x;rw[g]at h;cases a<;>first|(cases hk;done)|skip
 .obtain⟨b,f,e⟩:=h;refine⟨_,?_,b,f,rfl⟩
  simp_all[execOp]
 .obtain⟨b,d,f,e⟩:=h;refine⟨_,?_,b,d,rfl,e⟩
  simp_all[execOp]
end
mutual
def FzA(i k:Nat)(es:List (List A)):A->A->Prop
 |.agg az,b=>∃bs,b=.agg bs/\FzL i k es az bs
 |.fn f x c,b=>∃x' c',b=.fn f x' c'/\FzL i k es x x'/\FzL i k es c c'
 |.iface t a,b=>∃a',b=.iface t a'/\FzA i k es a a'
 |.tup az,b=>∃bs,b=.tup bs/\FzL i k es az bs
 |.osl j o n k',b=>b=.osl j o n k'\/(j=i/\o=0/\k'=k/\n=es.length/\b=.rsl k es)
 |.nils,b=>b=.nils\/ ∃k',b=.rsl k' []
 |a,b=>b=a
def FzL(i k:Nat)(es:List (List A)):List A->List A->Prop
 |[],b=>b=[]
 |a::az,b=>∃a' as',b=a'::as'/\FzA i k es a a'/\FzL i k es az as'
end
mutual
theorem FzA.refl{i k:Nat}{es:List (List A)}:∀a:A,FzA i k es a a
 |.agg az=>⟨az,rfl,FzL.refl az⟩
 |.fn _ x c=>⟨x,c,rfl,FzL.refl x,FzL.refl c⟩
 |.iface _ a=>⟨a,rfl,FzA.refl a⟩
 |.tup az=>⟨az,rfl,FzL.refl az⟩
 |.osl _ _ _ _=>.inl rfl
 |.nils=>.inl rfl
 |.any=>rfl
 |.bool _=>rfl
 |.int _ _=>rfl
 |.str _=>rfl
 |.nilp=>rfl
 |.ptr _ _=>rfl
 |.rp _=>rfl
 |.rsl _ _=>rfl
 |.nilf=>rfl
 |.nilif=>rfl
 |.map _=>rfl
 |.nilm=>rfl
theorem FzL.refl{i k:Nat}{es:List (List A)}:∀az:List A,FzL i k es az az
 |[]=>rfl
 |a::az=>⟨a,az,rfl,FzA.refl a,FzL.refl az⟩
end
theorem FzA.agg{i k:Nat}{es:List (List A)}{az bs:List A}(h:FzL i k es az bs):FzA i k es (.agg az) (.agg bs):=⟨bs,rfl,h⟩
theorem FzA.tup{i k:Nat}{es:List (List A)}{az bs:List A}(h:FzL i k es az bs):FzA i k es (.tup az) (.tup bs):=⟨bs,rfl,h⟩
theorem FzA.iface{i k:Nat}{es:List (List A)}{t:Nat}{a b:A}(h:FzA i k es a b):FzA i k es (.iface t a) (.iface t b):=⟨b,rfl,h⟩
theorem FzA.own{i k n:Nat}{es:List (List A)}(hn:n=es.length):FzA i k es (.osl i 0 n k) (.rsl k es):=.inr (by grind)
theorem FzA.nil{i k k':Nat}{es:List (List A)}:FzA i k es .nils (.rsl k' []):=.inr ⟨k',rfl⟩
theorem FzL.cons{i k:Nat}{es:List (List A)}{a b:A}{az bs:List A}(h:FzA i k es a b)(q:FzL i k es az bs):FzL i k es (a::az) (b::bs):=⟨b,bs,rfl,h,q⟩
mutual
theorem QjX{i k:Nat}{es:List (List A)}{ro ro':Nat->Prop}{σ:Sig}{w:World}(ext:Ext ro σ w ro' σ w)
  (hf:∀v,VR ro σ w (.osl i 0 es.length k) v->VR ro' σ w (.rsl k es) v):∀(a b:A) (v:Value),FzA i k es a b->VR ro σ w a v->VR ro' σ w b v
 |.agg az,b,v,h,q=>by
  obtain⟨bs,rfl,h⟩:=h;obtain⟨l,rfl,q⟩:=q;exact⟨l,rfl,QdP ext hf az bs l h q⟩
 |.fn f x c,b,v,h,q=>by
  obtain⟨x',c',rfl,h1,h2⟩:=h;obtain⟨l,l',rfl,q1,q2⟩:=q;exact⟨l,l',rfl,QdP ext hf x x' l h1 q1,QdP ext hf c c' l' h2 q2⟩
 |.iface t a,b,v,h,q=>by
  obtain⟨a',rfl,h⟩:=h;obtain⟨x,rfl,q⟩:=q;exact⟨x,rfl,QjX ext hf a a' x h q⟩
 |.tup az,b,v,h,q=>by
  obtain⟨bs,rfl,h⟩:=h;obtain⟨l,rfl,q⟩:=q;exact⟨l,rfl,QdP ext hf az bs l h q⟩
 |.osl j o n k',b,v,h,q=>by
  rcases h with rfl|⟨rfl,rfl,rfl,rfl,rfl⟩
  .exact q.mono ext
  .exact hf v q
 |.nils,b,v,h,q=>by
  rcases h with rfl|⟨k',rfl⟩
  .exact q
  .obtain rfl:v=.slice none 0 0:=q;exact⟨none,0,rfl,XR _,.inl rfl⟩
 |.any,b,v,h,q=>by obtain rfl:b=_:=h;trivial
 |.bool _,b,v,h,q=>by obtain rfl:b=_:=h;exact q
 |.int _ _,b,v,h,q=>by obtain rfl:b=_:=h;exact q
 |.str _,b,v,h,q=>by obtain rfl:b=_:=h;exact q
 |.nilp,b,v,h,q=>by obtain rfl:b=_:=h;exact q
 |.ptr _ _,b,v,h,q=>by obtain rfl:b=_:=h;exact q.mono ext
 |.rp _,b,v,h,q=>by obtain rfl:b=_:=h;exact q.mono ext
 |.rsl _ _,b,v,h,q=>by obtain rfl:b=_:=h;exact q.mono ext
 |.nilf,b,v,h,q=>by obtain rfl:b=_:=h;exact q
 |.nilif,b,v,h,q=>by obtain rfl:b=_:=h;exact q
 |.map _,b,v,h,q=>by obtain rfl:b=_:=h;exact q.mono ext
 |.nilm,b,v,h,q=>by obtain rfl:b=_:=h;exact q
theorem QdP{i k:Nat}{es:List (List A)}{ro ro':Nat->Prop}{σ:Sig}{w:World}(ext:Ext ro σ w ro' σ w)
  (hf:∀v,VR ro σ w (.osl i 0 es.length k) v->VR ro' σ w (.rsl k es) v):∀(az bs:List A) (l:List Value),FzL i k es az bs->LR ro σ w az l->LR ro' σ w bs l
 |[],bs,l,h,q=>by obtain rfl:bs=[]:=h;exact q
 |a::az,bs,l,h,q=>by
  obtain⟨a',as',rfl,h1,h2⟩:=h;obtain⟨v,l',rfl,q1,q2⟩:=q;exact⟨v,l',rfl,QjX ext hf a a' v h1 q1,QdP ext hf az as' l' h2 q2⟩
end
def FzB(i k:Nat)(es:List (List A))(x y:Blk):Prop:=y=x\/ ∃t cs cs',x=.cells t cs/\y=.cells t cs'/\FzL i k es cs cs'
def FzH(i k:Nat)(es:List (List A)):Qd->Qd->Prop
 |[],h=>h=[]
 |x::r,h=>∃y r',h=y::r'/\FzB i k es x y/\FzH i k es r r'
def Qnu(i k:Nat)(es:List (List A))(env:Env):Env->Prop
 |[]=>True
 |(s,a)::r=>FzA i k es (lk env s) a/\Qnu i k es env r
theorem FzH.nil{i k:Nat}{es:List (List A)}:FzH i k es [] []:=rfl
theorem FzH.keep{i k:Nat}{es:List (List A)}{x:Blk}{r r':Qd}(h:FzH i k es r r'):FzH i k es (x::r) (x::r'):=⟨x,r',rfl,.inl rfl,h⟩
theorem FzH.cells{i k t:Nat}{es:List (List A)}{cs cs':List A}{r r':Qd}(q:FzL i k es cs cs')(h:FzH i k es r r'):FzH i k es (.cells t cs::r) (.cells t cs'::r'):=⟨_,r',rfl,.inr (by grind),h⟩
theorem FzH.get{i k:Nat}{es:List (List A)}:∀{H H':Qd},FzH i k es H H'->∀(j:Nat) (y:Blk),H'[j]?=some y->∃x,H[j]?=some x/\FzB i k es x y
 |[],_,h,j,y,q=>by obtain rfl:_=[]:=h;simp at q
 |x::r,_,h,j,y,q=>by
  obtain⟨y',r',rfl,h1,h2⟩:=h;cases j with
  |zero=>grind
  |succ j=>simp at q;obtain⟨x',p1,p2⟩:=h2.get j y q;grind
theorem FzH.len{i k:Nat}{es:List (List A)}:∀{H H':Qd},FzH i k es H H'->H'.length=H.length
 |[],_,h=>by obtain rfl:_=[]:=h;rfl
 |x::r,_,h=>by obtain⟨y',r',rfl,h1,h2⟩:=h;simp[h2.len]
theorem FzB.live{i k:Nat}{es:List (List A)}{x y:Blk}(h:FzB i k es x y):y.live=x.live:=by
 rcases h with rfl|⟨t,d,a,rfl,rfl,_⟩<;>rfl
theorem Qdo{env:Env}{H H':Qd}{h0 i k t:Nat}{es:List (List A)}(ov:Env)(hi:Nat.ble h0 i=true)(O:H[i]?=some (.row t k es))(W:Qnu i k es env ov)(G:FzH i k es (H.set i .dead) H'):Le h0 env H (ov++env) H':=by
 intro fr M σ N a w r
 let ro':Nat->Prop:=λb=>M b\/σ[i]?=some (some b)
 have aa:∀b,σ[i]?=some (some b)->b<w.heap.size/\ ¬M b/\ ¬fr b:=λb h=>r.sim.own i b _ h O rfl;have ext:Ext M σ w ro' σ w:=⟨λ_ q=>.inl q,λ_ _=>rfl,λ_ _ q=>q,λ_ _ q=>q⟩;have hf:∀v,VR M σ w (.osl i 0 es.length k) v->VR ro' σ w (.rsl k es) v:=by
  intro v h;rcases h with⟨h0,h⟩|⟨b,p,F,t',m,g,h,n,⟨u,ab⟩,h4,h5⟩
  .have:es=[]:=(by grind);subst this;exact⟨none,0,h,XR _,.inl rfl⟩
  .refine⟨_,F,h,u,?_⟩;by_cases he:es=[]
   .exact .inl he
   .right;have hc:0<F:=Vb (by grind) u;obtain rfl:=n hc;obtain⟨l,Y,Q⟩:=r.sim.blk i _ _ g O;refine⟨b,0,by simp,.inr g,?_⟩;have:=YF (pre:=[]) (by simpa using Y) Q;exact this.keep ⟨λ_ q=>.inl q,λ_ _=>rfl,λ_ _ q=>q,λ_ _ q=>q⟩ rfl
 have f:∀(j:Nat) (y:Blk),H'[j]?=some y->y≠ .dead->j≠i/\ ∃x,H[j]?=some x/\FzB i k es x y:=by
  intro j y h V;obtain⟨x,g,n⟩:=G.get j y h;by_cases e:j=i
  .subst e;rw[Xb]at g;simp only[if_true]at g;split at g
   .cases g;rcases n with rfl|⟨_,_,_,q,_,_⟩
    .grind
    .cases q
   .simp at g
  grind
 refine⟨ro',σ,⟨⟨by rw[G.len,X0];exact r.sim.len,r.sim.roOk.to (λ_ q=>.inl q) (λ_ _=>rfl) ?_,r.sim.frLt,?_,?_,?_,?_,r.sim.hidTo (· = ·) Yc (XR _) (λj b x c Y Q q3 q4=>q4.elim id λq=>((r.sim.hid j b x c Y Q q3).ne i c _ q O rfl rfl).elim) (by simp) λj d y X P g3=>.inl ?_⟩,?_,r.size,r.defers⟩,λ_ q=>.inl q,rfl⟩
 rotate_left 5
 .obtain⟨_,x,g4,g5⟩:=f j y P (QeM g3);exact⟨j,x,rfl,X,g4,λz=>by rw[<- g5.live];exact z,λc q=>by rcases g5 with rfl|⟨t,cs,J,rfl,rfl,_⟩;exact q;exact q.elim⟩
 rotate_left 1
 .rintro b (q|q)
  .exact r.sim.roLt b q
  grind
 .rintro b (q|q)
  .exact r.sim.roFr b q
  grind
 .intro j b v g n u;obtain⟨e,x,n,L⟩:=f j v n (Qap u);have hx:x.live=true:=by rw[<- L.live];exact u
  obtain⟨B,E,p3⟩:=r.sim.own j b x g n hx;refine⟨B,?_,p3⟩;rintro(q|q)
  .exact E q
  .exact e (r.sim.inj j i b x _ g q n O hx rfl)
 .intro j j' b v v' g n u h4 h5 h6;obtain⟨_,x,B,E⟩:=f j v u (Qap h5);obtain⟨_,x',R,T⟩:=f j' v' h4 (Qap h6);exact r.sim.inj j j' b x x' g n B R (by rw[<- E.live];exact h5) (by rw[<- T.live];exact h6)
 .intro j s v g n;by_cases V:v≠ .dead
  .obtain⟨_,x,B,E⟩:=f j v n V;have L:=r.sim.blk j s x g B;rcases E with rfl|⟨t,cs,J,rfl,rfl,q⟩
   .exact L.keep ext (λ_ _ _=>rfl) (λ_ _ _ _=>rfl)
   .cases s with
    |none=>exact L.elim
    |some b=>
     obtain⟨l,e1,e2,e3⟩:=L;exact⟨l,e1,QdP ext hf cs J l q e2,e3⟩
  .obtain rfl:v=.dead:=Classical.not_not.1 V;trivial
 .intro s
  induction ov with
  |nil=>exact(r.env s).mono ext
  |cons p ov ih=>
   obtain⟨s1,a1⟩:=p;obtain⟨X,P⟩:=W;simp only[VG,lk];cases q:Nat.beq s s1 with
   |true=>
    obtain rfl:=XO q;exact QjX ext hf _ _ _ X (r.env s)
   |false=>exact ih P
theorem Qnu.nil{i k:Nat}{es:List (List A)}{env:Env}:Qnu i k es env []:=trivial
theorem Qnu.cons{i k s:Nat}{es:List (List A)}{env:Env}{a b:A}{r:Env}(h:lk env s=a)(q:FzA i k es a b)(g:Qnu i k es env r):Qnu i k es env ((s,b)::r):=⟨h▸q,g⟩
def Qed(P:Program)(env:Env)(H:Qd)(l:ResultVar)(x:A):Prop:=
 ∀fr ro σ N a w,Rel fr ro σ H env N a w->∃v,((match l with
  |.tmp t=>pure (a.tmps.getD t undef)
  |.cell b t=>do loadVar t (<- asAddr (a.tmps.getD b undef)):Sem Value)).run P w=.ok v w/\VR ro σ w x v
def QjR(P:Program)(env:Env)(H:Qd):List ResultVar->List A->Prop
 |[],xs=>xs=[]
 |l::ls,xs=>∃x xs',xs=x::xs'/\Qed P env H l x/\QjR P env H ls xs'
section
variable {P:Program} {fn:Func} {env:Env} {H:Qd}
theorem Qed.tmp{t:Nat}{x:A}(d:lk env t=x:=by exact rfl):Qed P env H (.tmp t) x:=
 λfr ro σ N a w r=>⟨a.tmps.getD t undef,rfl,d▸r.env t⟩
theorem Qed.cell{b t:Nat}{p x:A}{cs:List A}(l:∀w,(isAgg t).run P w=.ok false w)(g:Pts H p (x::cs))(e:lk env b=p:=by exact rfl):Qed P env H (.cell b t) x:=by
 intro f h σ N a w r;have d:=r.env b;rw[e]at d;obtain⟨n,i,j,⟨y,k,_,m⟩,_⟩:=g f h σ w _ r.sim d
 simp_all[asAddr,loadVar]
theorem Qec{b t n:Nat}{p:A}{cs:List A}(s:∀w,(isAgg t).run P w=.ok true w)(q:∀w,(sizeOf t).run P w=.ok n w)(i:Pts H p cs)(f:lk env b=p:=by exact rfl)(hl:(cs.take n).length=n:=by exact rfl):
  Qed P env H (.cell b t) (.agg (cs.take n)):=by
 intro g j σ N a w r;have e:=r.env b;rw[f]at e;obtain⟨u,off,m,k⟩:=i g j σ w _ r.sim e;obtain⟨l,h,_,d⟩:=Yt (P:=P) (cs:=cs.take n) (off:=off) 0 (by simpa using k.take n);have d:=d w #[] rfl;rw[hl]at d;refine⟨.agg l.toArray,?_,l,rfl,h⟩
 simp_all[asAddr,loadVar,loadCells]
theorem Qg{b t n i T:Nat}{cs:List A}(a:∀w,(isAgg t).run P w=.ok true w)(e:∀w,(sizeOf t).run P w=.ok n w)(d:lk env b=.ptr i 0)(f:H[i]?=some (.cells T cs))(g:cs.length=n):
  Qed P env H (.cell b t) (.agg cs):=by
 have:=Qec (b:=b) (p:=.ptr i 0) a e (Pts.cells (off:=0) f rfl) d (by grind)
 grind
theorem QjR.nil:QjR P env H [] []:=rfl
theorem QjR.cons{l:ResultVar}{ls:List ResultVar}{x:A}{xs:List A}(h:Qed P env H l x)(k:QjR P env H ls xs):QjR P env H (l::ls) (x::xs):=⟨x,xs,rfl,h,k⟩
theorem QjR.run{fr ro:Nat->Prop}{σ:Sig}{N:Nat}{a:Act}{w:World}(r:Rel fr ro σ H env N a w):∀{ls:List ResultVar} {xs:List A},QjR P env H ls xs->
  ∃vs:List Value,(ls.mapM λl=>(match l with
   |.tmp t=>pure (a.tmps.getD t undef)
   |.cell b t=>do loadVar t (<- asAddr (a.tmps.getD b undef)):Sem Value)).run P w=.ok vs w/\LR ro σ w xs vs
 |[],_,h=>by obtain rfl:_=[]:=h;exact⟨[],rfl,rfl⟩
 |l::ls,_,h=>by
  obtain⟨x,xs,rfl,h1,h2⟩:=h;obtain⟨v,e1,e2⟩:=h1 fr ro σ N a w r;obtain⟨vs,e3,e4⟩:=QjR.run r h2;refine⟨v::vs,?_,v,vs,rfl,e2,e4⟩
  simp_all
theorem Qp{ls:List ResultVar}{xs:List A}(h:fn.results=ls.toArray)(n:Nat.beq ls.length 1=false)(k:QjR P env H ls xs):Qcw P fn env H (.tup xs):=by
 intro m p σ N a w r;obtain⟨vs,j,e⟩:=k.run r;have d:¬vs.length=1:=by
  have:∀{ls:List ResultVar} {xs:List A},QjR P env H ls xs->xs.length=ls.length:=by
   intro ls
   induction ls with
   |nil=>intro xs h;obtain rfl:xs=[]:=h;rfl
   |cons l ls g=>intro xs h;obtain⟨x,i,rfl,_,f⟩:=h;simp[g f]
  rw[e.length,this k];intro q;simp_all
 refine⟨.tuple vs.toArray,?_,vs,rfl,e⟩;unfold results;rw[h];rw[List.mapM_toArray,Vi,Sem.run_map]
 grind[Result.andThen,Sem.run_pure]
theorem Yg{l:ResultVar}{x:A}(h:fn.results= #[l])(k:Qed P env H l x):Qcw P fn env H x:=by
 intro f g σ N a w r;obtain⟨vs,e,d⟩:=(QjR.cons k QjR.nil).run r;obtain⟨v,_,rfl,d,rfl⟩:=d;refine⟨v,?_,d⟩;unfold results;rw[h,show #[l]=[l].toArray from rfl];rw[List.mapM_toArray,Vi,Sem.run_map]
 erw [e]
 rfl
end
mutual
def QkW:A->Bool
 |.bool _=>true
 |.int _ _=>true
 |.str _=>true
 |.agg cs=>Qg0 cs
 |_=>false
def Qg0:List A->Bool
 |[]=>true
 |a::r=>QkW a&&Qg0 r
end
mutual
def QO:A->Value
 |.bool b=>.bool b
 |.int k n=>.int k n
 |.str s=>.string ⟨s.toArray⟩
 |.agg cs=>.agg (YW cs).toArray
 |_=>.bool false
def YW:List A->List Value
 |[]=>[]
 |a::r=>QO a::YW r
end
mutual
theorem VR.val{ro:Nat->Prop}{σ:Sig}{w:World}:∀{a:A} {v:Value},QkW a=true->VR ro σ w a v->v=QO a
 |.bool _,_,_,h=>h
 |.int _ _,_,_,h=>h
 |.str _,_,_,h=>h
 |.agg cs,v,hs,h=>by
  obtain⟨l,rfl,h⟩:=h;rw[QO,LR.val hs h]
theorem LR.val{ro:Nat->Prop}{σ:Sig}{w:World}:∀{az:List A} {l:List Value},Qg0 az=true->LR ro σ w az l->l=YW az
 |[],l,_,h=>h
 |a::r,l,hs,h=>by
  obtain⟨v,l',rfl,h1,h2⟩:=h;simp only[Qg0,XU]at hs;rw[YW,VR.val hs.1 h1,LR.val hs.2 h2]
end
mutual
theorem Qdg{ro:Nat->Prop}{σ:Sig}{w:World}:∀{a:A},QkW a=true->VR ro σ w a (QO a)
 |.bool _,_=>rfl
 |.int _ _,_=>rfl
 |.str _,_=>rfl
 |.agg cs,hs=>⟨YW cs,rfl,Qf1 hs⟩
theorem Qf1{ro:Nat->Prop}{σ:Sig}{w:World}:∀{az:List A},Qg0 az=true->LR ro σ w az (YW az)
 |[],_=>rfl
 |a::r,hs=>by
  simp only[Qg0,XU]at hs;exact⟨_,_,rfl,Qdg hs.1,Qf1 hs.2⟩
end
open Go.MapKept
structure Qaa (P:Program) (kt:TypeId) {α:Type} (ek:α->A):Prop where
 scl:∀x,QkW (ek x)=true
 inj:∀x y,QO (ek x)=QO (ek y)->x=y
 check:∀(w:World) em x,(Instr.checkKey em 10000 kt (QO (ek x))).run P w=.ok () w
 find:∀(w:World) x (es:List MapEntry),(∀e∈es,∃y,e.key=QO (ek y))->
  ((Instr.findKey kt (QO (ek x)) es).run P w=.ok none w/\ ∀e∈es,e.key≠QO (ek x))\/ ∃j e,(Instr.findKey kt (QO (ek x)) es).run P w=.ok (some (j,e.val)) w/\es[j]?=some e/\e.key=QO (ek x)
 stays:∀(w:World) x,(Instr.keyThatStays (QO (ek x)) (QO (ek x))).run P w=.ok (QO (ek x)) w
section
variable {P:Program} {kt:TypeId}
theorem Qaa.plain{α:Type}{a:α->A}{d:TypeDesc}(h:P.underlying kt=some d)(e:∀x,IsKey d (QO (a x)))(i:∀x,QkW (a x)=true)(hi:∀x y,QO (a x)=QO (a y)->x=y):Qaa P kt a:=by
 refine⟨i,hi,λw f x=>run_checkKey h (e x) f 9999,λw x j g=>?_,λw x=>run_keyThatStays (e x)⟩
 grind[findNow_spec,run_findKey]
theorem Qaa.int{q:IntKind}(hk:P.underlying kt=some (.int q)):Qaa P kt (λn=>A.int q n):=
 Qaa.plain hk (λx=>by rfl) (λ_=>rfl) (λx y h=>by simpa[QO]using h)
theorem Qaa.str(hk:P.underlying kt=some .string):Qaa P kt A.str:=
 Qaa.plain hk (λx=>by simp[IsKey,QO]) (λ_=>rfl) (λx y h=>by simpa[QO]using h)
theorem Qaa.struct{α:Type}[DecidableEq α]{a:α->A}{fs:Array Field}(G:P.underlying kt=some (.struct fs))(q:∀x,QkW (a x)=true)(hi:∀x y,QO (a x)=QO (a y)->x=y)
  (t:∀(w:World) em x,(Instr.checkKey em 10000 kt (QO (a x))).run P w=.ok () w)
  (he:∀(w:World) x y,(Op.equal kt (QO (a x)) (QO (a y))).run P w=.ok (decide (x=y)) w)(E:∀x,Instr.sameBits 10000 (QO (a x)) (QO (a x))=true):Qaa P kt a:=by
 refine⟨q,hi,t,λw x d u=>?_,λw x=>by simp[Instr.keyThatStays,E x]⟩
 .have k:∀(d:List MapEntry) (i:Nat),(∀e∈d,∃y,e.key=QO (a y))->
    ((Instr.findAsking kt (QO (a x)) d i).run P w=.ok none w/\ ∀e∈d,e.key≠QO (a x))\/
    ∃j e,(Instr.findAsking kt (QO (a x)) d i).run P w=.ok (some (i+j,e.val)) w/\d[j]?=some e/\e.key=QO (a x):=by
   intro d
   induction d with
   |nil=>simp_all[Instr.findAsking]
   |cons e d p=>
    intro i f;obtain⟨y,h⟩:=f e (by simp);have m:=he w x y;by_cases g:x=y
    .subst g;exact .inr ⟨0,e,by simp[Instr.findAsking,h,m],rfl,h⟩
    .rcases p (i+1) (λz n=>f z (by simp[n]))with⟨l,B⟩|⟨j,r,l,B,s⟩
     .refine .inl ⟨by simp[Instr.findAsking,h,m,g,l],λz n=>?_⟩
      grind
     .exact .inr ⟨j+1,r,by simp[Instr.findAsking,h,m,g,l,Nat.add_assoc,Nat.add_comm 1 j],by grind,s⟩
  cases d with
  |nil=>simp_all[Instr.findKey,run_underlying,Instr.findNow]
  |cons e d=>
   have H:Instr.findNow (.struct fs) (QO (a x)) (e::d) 0=none:=by
    rfl
   have F:(Instr.findKey kt (QO (a x)) (e::d)).run P w=(Instr.findAsking kt (QO (a x)) (e::d) 0).run P w:=by
    simp_all[Instr.findKey,run_underlying]
   grind
def Jj{α β:Type}[DecidableEq α](l:List (α×β))(k:α):Option β:=(l.find? λp=>decide (p.1=k)).map (·.2)
def Yw{α β:Type}[DecidableEq α](l:List (α×β))(k:α)(v:β):List (α×β):=bif l.any λp=>decide (p.1=k)then l.map λp=>bif decide (p.1=k)then(p.1,v)else p else l++[(k,v)]
def Q1{α β:Type}[DecidableEq α](l:List (α×β))(k:α)(z:β):β:=(Jj l k).getD z
def QaP{α β:Type}[DecidableEq α](l:List (α×β))(k:α):Bool:=l.any λp=>decide (p.1=k)
def Q4{α β:Type}(ek:α->A)(ev:β->A)(l:List (α×β)):List (A×A):=l.map λp=>(ek p.1,ev p.2)
section
variable {α β:Type} [DecidableEq α] {ek:α->A} {ev:β->A} {ro:Nat->Prop} {σ:Sig} {w:World} (K:Qaa P kt ek)
include K
theorem QhP:∀{l:List (α×β)} {es:List MapEntry},ER ro σ w (Q4 ek ev l) es->es.map (·.key)=l.map λp=>QO (ek p.1)
 |[],es,h=>by cases(show es=[]from h);rfl
 |p::l,es,h=>by
  obtain⟨e,l',rfl,h1,h2,h3⟩:=h;simp only[Vf];rw[VR.val (K.scl _) h1,QhP (l:=l) h3]
theorem Qi1{l:List (α×β)}{es:List MapEntry}(h:ER ro σ w (Q4 ek ev l) es):∀e∈es,∃y,e.key=QO (ek y):=by
 intro e a;have:e.key∈es.map (·.key):=VC a;rw[QhP K h]at this
 grind
theorem ER.find:∀{l:List (α×β)} {es:List MapEntry},ER ro σ w (Q4 ek ev l) es->∀(x:α),(es.map (·.key)).Nodup->
  ((∀e:MapEntry,e∈es->e.key≠QO (ek x))->Jj l x=none/\QaP l x=false)/\
  (∀(j:Nat) (e:MapEntry),es[j]?=some e->e.key=QO (ek x)->QaP l x=true/\ ∃v,Jj l x=some v/\VR ro σ w (ev v) e.val)
 |[],es,h,x,_=>by
  cases(show es=[]from h);exact⟨λ_=>⟨rfl,rfl⟩,(by simp)⟩
 |p::l,es,h,x,hn=>by
  obtain⟨e0,l',rfl,h1,h2,h3⟩:=h;have hk:e0.key=QO (ek p.1):=VR.val (K.scl _) h1;simp only[Vf,List.nodup_cons]at hn;obtain⟨a1,a2⟩:=ER.find (l:=l) h3 x hn.2;by_cases hp:p.1=x
  .grind[QaP,Jj]
  .have e1:Jj (p::l) x=Jj l x:=by simp[Jj,hp]
   have d:QaP (p::l) x=QaP l x:=by simp[QaP,hp]
   rw[e1,d];constructor
   .grind
   .intro j e a f;cases j with
    |zero=>
     simp only[XC,Option.some.injEq]at a;subst a;exact absurd (K.inj _ _ (hk.symm.trans f)) hp
    |succ j=>grind
end
end
end Go.Sw
namespace Go.Sw
open Go.MapKept
section
variable {P:Program} {o:Oper} {env:Env} {H:Qd}
theorem YH{T:Nat}(f:o.op=.makeMap T none:=by exact rfl):OpH P o env H (.map H.length) (H++[.map []]):=by
 intro e d σ N a w r;refine⟨.map (some w.heap.size),w.alloc (.map #[] 0),d,[some w.heap.size],?_,⟨w.heap.size,?_,rfl⟩,r.sim.alloc ⟨#[],0,Q6 _ _,rfl,by simp,by simp,by simp⟩,Qi.alloc _ r.sim.roLt r.sim.frLt⟩
 .simp_all[execOp,Instr.makeMap]
 .rw[<- r.sim.len];simp
section
variable {T kt et:Nat} {α β:Type} [DecidableEq α] {ek:α->A} {ev:β->A} {x y:Operand} {i:Nat} {l:List (α×β)} {k:α} {z0:β} {z:Value}
theorem QeY(K:Qaa P kt ek){ro:Nat->Prop}{w:World}(m:P.underlying T=some (.map kt et))(q:∀w,(zeroValue et).run P w=.ok z w)(h:ZR (ev z0) z){b a:Nat}{es:Array MapEntry}
  (n:w.heap[b]?=some (.map es a))(he:ER ro [] w (Q4 ek ev l) es.toList)(r:(es.toList.map (·.key)).Nodup):
  ∃v,(∀ck,(Instr.lookup T (.map (some b)) (QO (ek k)) ck).run P w=.ok (if ck then .tuple #[v,.bool (QaP l k)]else v) w)/\VR ro [] w (ev (Q1 l k z0)) v:=by
 obtain⟨s,p⟩:=ER.find K he k r;rcases K.find w k es.toList (Qi1 K he)with⟨f,d⟩|⟨j,e,f,d,u⟩
 .obtain⟨g,i⟩:=s d;refine⟨z,λck=>?_,?_⟩
  .simp only[Instr.lookup,Vi,run_underlying m,Result.andThen,MapKept.run_getObj_map n,Vj,K.check,f,q,i]
  .rw[Q1,g];exact h _ _ _
 .obtain⟨g,v,i,t⟩:=p j e d u;refine⟨e.val,λck=>?_,?_⟩
  .simp only[Instr.lookup,Vi,run_underlying m,Result.andThen,MapKept.run_getObj_map n,Vj,K.check,f,g]
  .rw[Q1,i];exact t
theorem Y4{zv:β}(K:Qaa P kt ek)(p:some (Q1 l k z0)=some zv)(h:P.underlying T=some (.map kt et))(t:∀w,(zeroValue et).run P w=.ok z w)(e:ZR (ev z0) z)
  (Q:o.op=.lookup T x y false:=by exact rfl)(hx:opA env x=.map i:=by exact rfl)(hH:H[i]?=some (.map (Q4 ek ev l)):=by exact rfl)(hy:opA env y=ek k:=by exact rfl):OpV P o env H (ev zv):=by
 obtain rfl:=XW p;intro L G σ N a w r;have f:=Qk r x;rw[hx]at f;obtain⟨b,m,J⟩:=f;have g:=Qk r y;rw[hy]at g;have F:=VR.val (K.scl _) g;obtain⟨B,d,j,s,O,M,u⟩:=r.sim.blk i _ _ m hH;obtain⟨v,E,n⟩:=QeY (T:=T) (z0:=z0) (k:=k) K h t e j s u;refine⟨v,?_,n.mono ⟨λ_ q=>q,λ_ _=>rfl,λ_ _ q=>q,(by simp)⟩⟩
 simp_all[execOp]
theorem QjT{zv:β}(K:Qaa P kt ek)(p:some (Q1 l k z0)=some zv)(h:P.underlying T=some (.map kt et))(t:∀w,(zeroValue et).run P w=.ok z w)(e:ZR (ev z0) z)
  (Q:o.op=.lookup T x y true:=by exact rfl)(hx:opA env x=.map i:=by exact rfl)(hH:H[i]?=some (.map (Q4 ek ev l)):=by exact rfl)(hy:opA env y=ek k:=by exact rfl):OpV P o env H (.tup [ev zv,.bool (QaP l k)]):=by
 obtain rfl:=XW p;intro L G σ N a w r;have f:=Qk r x;rw[hx]at f;obtain⟨b,m,J⟩:=f;have g:=Qk r y;rw[hy]at g;have F:=VR.val (K.scl _) g;obtain⟨B,d,j,s,O,M,u⟩:=r.sim.blk i _ _ m hH;obtain⟨v,E,n⟩:=QeY (T:=T) (z0:=z0) (k:=k) K h t e j s u;refine⟨.tuple #[v,.bool (QaP l k)],?_,[v,.bool (QaP l k)],rfl,v,_,rfl,n.mono ⟨λ_ q=>q,λ_ _=>rfl,λ_ _ q=>q,(by simp)⟩,_,_,rfl,rfl,rfl⟩
 simp_all[execOp]
theorem ER.append{ro:Nat->Prop}{σ:Sig}{w:World}:∀{l m:List (A×A)} {es fs:List MapEntry},ER ro σ w l es->ER ro σ w m fs->ER ro σ w (l++m) (es++fs)
 |[],m,es,fs,h,k=>by cases(show es=[]from h);exact k
 |p::l,m,es,fs,h,k=>by
  obtain⟨e,l',rfl,h1,h2,h3⟩:=h;exact⟨e,l'++fs,rfl,h1,h2,ER.append h3 k⟩
theorem ER.put(K:Qaa P kt ek){ro:Nat->Prop}{w w':World}{v:β}{val:Value}(a:Ext ro [] w ro [] w')(d:VR ro [] w (ev v) val):∀{l:List (α×β)} {es:List MapEntry} {j:Nat} {e:MapEntry},ER ro [] w (Q4 ek ev l) es->
  (es.map (·.key)).Nodup->es[j]?=some e->e.key=QO (ek k)->
  ER ro [] w' (Q4 ek ev (l.map λp=>bif decide (p.1=k)then(p.1,v)else p)) (es.modify j λe=>{e with key:=QO (ek k),val:=val})
 |[],es,j,e,h,hn,he,hk=>by cases(show es=[]from h);simp at he
 |p::l,es,j,e,h,hn,he,hk=>by
  obtain⟨e0,l',rfl,h1,h2,h3⟩:=h;have hk0:e0.key=QO (ek p.1):=VR.val (K.scl _) h1;simp only[Vf,List.nodup_cons]at hn;cases j with
  |zero=>
   simp only[XC,Option.some.injEq]at he;subst he;have hp:p.1=k:=K.inj _ _ (hk0.symm.trans hk);simp only[List.modify_zero_cons];have e1:Q4 ek ev ((p::l).map λp=>bif decide (p.1=k)then(p.1,v)else p)=(ek p.1,ev v)::Q4 ek ev l:=by
    simp only[Q4,Vf,hp,decide_true,Vk,List.map_map,List.cons.injEq,true_and];apply List.map_congr_left;intro q f;have:q.1≠k:=by
     intro e;refine hn.1 ?_;rw[QhP K h3];exact Xe.2 ⟨q,f,by rw[e, <- hp,hk0]⟩
    simp[this]
   rw[e1];refine⟨_,l',rfl,?_,d.mono a,h3.mono a⟩;show VR ro [] w' (ek p.1) (QO (ek k));rw[<- hp];exact Qdg (K.scl _)
  |succ j=>
   simp only[XD]at he;have hp:p.1≠k:=by
    intro q;refine hn.1 (Xe.2 ⟨e,VD he,?_⟩);rw[hk,hk0,q]
   simp only[List.modify_succ_cons];have e1:Q4 ek ev ((p::l).map λp=>bif decide (p.1=k)then(p.1,v)else p)=(ek p.1,ev p.2)::Q4 ek ev (l.map λp=>bif decide (p.1=k)then(p.1,v)else p):=by
    simp[Q4,hp]
   rw[e1];exact⟨_,_,rfl,h1.mono a,h2.mono a,ER.put K a d h3 hn.2 he hk⟩
theorem Y5{m:List (α×β)}(K:Qaa P kt ek){v:β}{t:Operand}(hm:some (Yw l k v)=some m)(hd:YC (ev v)=true)(hT:P.underlying T=some (.map kt et))
  (ho:o.op=.mapUpdate T x y t:=by exact rfl)(hx:opA env x=.map i:=by exact rfl)(hH:H[i]?=some (.map (Q4 ek ev l)):=by exact rfl)(hy:opA env y=ek k:=by exact rfl)(hv:opA env t=ev v:=by exact rfl):
  OpU P o env H (H.set i (.map (Q4 ek ev m))):=by
 obtain rfl:=XW hm;intro fr R σ N a w r;have h1:=Qk r x;rw[hx]at h1;obtain⟨b,Y,q2⟩:=h1;have h2:=Qk r y;rw[hy]at h2;have h3:=VR.val (K.scl _) h2;have h4:=Qk r t;rw[hv]at h4;have G:VR R [] w (ev v) (a.eval t):=VR.data hd h4;obtain⟨u,d,L,O,p3,p4,p5⟩:=r.sim.blk i _ _ Y hH;obtain⟨f1,f2⟩:=ER.find K O k p5;have J:∀(obj:Obj) y,w.shape? b=some y->({w with heap:=w.heap.setIfInBounds b obj}:World).shape? b=some y:=by
  grind[World.shape?]
 rcases K.find w k u.toList (Qi1 K O)with⟨X,F⟩|⟨j,e,X,F,M⟩
 .obtain⟨u1,u2⟩:=f1 F;have W:Yw l k v=l++[(k,v)]:=by
   unfold Yw;rw[show(l.any λp=>decide (p.1=k))=false from u2];rfl
  have g:=r.sim.set (x':=.map (Q4 ek ev (Yw l k v))) (obj:=.map (u.push {key:=QO (ek k),val:=a.eval t,born:=d}) (d+1)) Y hH rfl (J _)
   (λe V=>⟨_,_,V,by
    rw[W,Q4,Xf,Array.toList_push];exact(O.mono ⟨e.sub,e.keep,e.shape,λ_ _ q=>q⟩).append ⟨_,_,rfl,Qdg (K.scl _),G.mono ⟨e.sub,e.keep,e.shape,λ_ _ q=>q⟩,rfl⟩,by
    grind,by
    grind,by
    grind⟩)
  refine⟨_,R,[],?_,by grind,g.2⟩;simp only[execOp,ho,q2,h3,Vi,Instr.mapUpdate,run_underlying hT,Result.andThen,MapKept.run_getObj_map L,K.check,X,MapKept.run_setObj_map _ L];rfl
 .obtain⟨u1,u2⟩:=f2 j e F M;have W:Yw l k v=l.map λp=>bif decide (p.1=k)then(p.1,v)else p:=by
   unfold Yw;rw[show(l.any λp=>decide (p.1=k))=true from u1];rfl
  have hj:u[j]?=some e:=by grind
  have n:(u.modify j λe=>{e with key:=QO (ek k),val:=a.eval t}).toList=u.toList.modify j λe=>{e with key:=QO (ek k),val:=a.eval t}:=by simp
  have s:∀{γ:Type} (f:MapEntry->γ),(∀E,u.toList[j]?=some E->f {E with key:=QO (ek k),val:=a.eval t}=f E)->(u.toList.modify j λe=>{e with key:=QO (ek k),val:=a.eval t}).map f=u.toList.map f:=by
   intro γ f hf;apply List.ext_getElem?
   grind
  have g:=r.sim.set (x':=.map (Q4 ek ev (Yw l k v))) (obj:=.map (u.modify j λe=>{e with key:=QO (ek k),val:=a.eval t}) d) Y hH rfl (J _)
   (λQ V=>⟨_,_,V,by
    rw[W,n];exact ER.put K ⟨Q.sub,Q.keep,Q.shape,λ_ _ q=>q⟩ G O p5 F M,by
    rw[n];intro E z;have:E.born∈(u.toList.modify j λe=>{e with key:=QO (ek k),val:=a.eval t}).map (·.born):=VC z;rw[s (·.born) (λ_ _=>rfl)]at this;obtain⟨e2,h,h'⟩:=Xe.1 this;rw[<- h'];exact p3 e2 h,by
    rw[n,s (·.born) (λ_ _=>rfl)];exact p4,by
    rw[n,s (·.key) (λE z=>by rw[F]at z;cases z;exact M.symm)];exact p5⟩)
  refine⟨_,R,[],?_,by simpa using g.1,g.2⟩;have B:=K.stays w k;simp only[execOp,ho,q2,h3,Vi,Instr.mapUpdate,run_underlying hT,Result.andThen,MapKept.run_getObj_map L,K.check,X,hj,Xj,Option.getD_some,M,B,MapKept.run_setObj_map _ L];rfl
theorem ER.length{ro:Nat->Prop}{σ:Sig}{w:World}:∀{l:List (A×A)} {es:List MapEntry},ER ro σ w l es->es.length=l.length
 |[],es,h=>by cases(show es=[]from h);rfl
 |p::l,es,h=>by
  obtain⟨e,l',rfl,_,_,h3⟩:=h;simp[ER.length h3]
theorem QcM{c:Call}{n:Int}(k:P.underlying T=some (.map kt et))(q:(l.length:Int)=n)(u:o.op=.call c:=by exact rfl)(hc:c={callee:=.builtin .len,args:= #[x],argTypes:= #[T]}:=by exact rfl)
  (hx:opA env x=.map i:=by exact rfl)(hH:H[i]?=some (.map (Q4 ek ev l)):=by exact rfl):OpV P o env H (.int .i64 n):=by
 intro y E σ N a w r;have h:=Qk r x;rw[hx]at h;obtain⟨b,s,g⟩:=h;obtain⟨f,e,p,t,B,z,F⟩:=r.sim.blk i _ _ s hH;have m:=t.length;refine⟨.int .i64 n,?_,rfl⟩;have d:goInt f.size=.int .i64 n:=by
  have:f.size=l.length:=by rw[<- Array.length_toList,m];simp[Q4]
  rw[this, <- q];rfl
 subst hc;have j:=g;generalize a.eval=ρ at*;rw[<- d];simp[execOp,u,g,resolve,invoke,Go.builtin,Builtin.len_,run_underlying k,MapKept.run_getObj_map p,go_sem]
end
end
end Go.Sw
namespace Go.Sw
open Go.ChangeMaps (setBlock)
section
variable {P:Program} {o:Oper} {env:Env} {H:Qd} {h0 N:Nat} {Q:QP}
def OpE(P:Program)(o:Oper)(env:Env)(H:Qd)(K:A->Qd->Prop):Prop:=
 ∀fr ro σ N a w,Rel fr ro σ H env N a w->∃x H' v w' ro' τ,K x H'/\(execOp a.eval o).run P w=.ok (.value v) w'/\VR ro' (σ++τ) w' x v/\
  Sim fr ro' (σ++τ) H' w'/\Qi fr ro w ro' w'
theorem Qm7{all:Array Oper}{l:List Oper}{d:Nat}{K:A->Qd->Prop}(t:h0<=H.length)(hg:QB all o env true)(y:o.dst=some d)(F:Nat.blt d N=true)
  (h:OpE P o env H K)(k:∀x H',K x H'->WO P h0 N all l (up env d x) H' Q):WO P h0 N all (o::l) env H Q:=by
 intro u fr E σ a w r hrd;obtain⟨x,H',v,j,f,τ,p,n,m,B,g⟩:=h fr E σ N a w r;refine Qab (Je hg r) n ?_;simp only[y,Act.put];have i:d<N:=by simp_all
 have z:Rel fr f (σ++τ) H' (up env d x) N {a with tmps:=a.tmps.setIfInBounds d v} j:=
  ⟨B,VR.up (fr:=fr) (λs=>(r.env s).mono (g.ext σ τ)) (by rw[r.size];exact i) m,by simpa using r.size,r.defers.keep g⟩
 refine YB (λe a w q=>q.step g (QG ?_)) _ _ _ (k x H' p u fr f (σ++τ) _ j z (hrd.to g λ_ q=>q));rw[r.sim.len];exact t
theorem Sim.shutMap{fr ro:Nat->Prop}{σ:Sig}{w:World}(s:Sim fr ro σ H w){i b:Nat}{es:List (A×A)}(hσ:σ[i]?=some (some b))(n:H[i]?=some (.map es)):
  Sim fr (λc=>ro c\/c=b) σ (H.set i (.fmap es)) w:=by
 have E:b<w.heap.size/\ ¬ro b/\ ¬fr b:=s.own i b _ hσ n rfl;have ext:Ext ro σ w (λc=>ro c\/c=b) σ w:=⟨λ_ q=>.inl q,λ_ _=>rfl,λ_ _ q=>q,λ_ _ q=>q⟩;have a:∀(j:Nat) (v:Blk),(H.set i (.fmap es))[j]?=some v->v.live=true->j≠i/\H[j]?=some v:=by
  intro j v h B;by_cases e:j=i
  .subst e;rw[Xb]at h;simp only[if_true]at h
   grind[Blk.live]
  grind
 have p:∀(j:Nat) (v:Blk),(H.set i (.fmap es))[j]?=some v->v.holds=true->H[j]?=some v:=by
  intro j v h B;by_cases e:j=i
  .subst e;rw[Xb]at h;simp only[if_true]at h;split at h
   .cases h;cases B
   .simp at h
  grind
 refine⟨by rw[X0];exact s.len,s.roOk.to (λ_ q=>.inl q) (λ_ _=>rfl) ?_,s.frLt,?_,?_,?_,?_,s.hidTo (· = ·) Yc (XR _) (λj d x c N L M P=>P.elim id λq=>((s.hid j d x c N L M).ne i b _ hσ n rfl q).elim) (by simp) (by grind)⟩
 .rintro c (q|rfl)
  .exact s.roLt c q
  omega
 .rintro c (q|rfl)
  .exact s.roFr c q
  grind
 .intro j c v g f m;obtain⟨e,f⟩:=a j v f m;obtain⟨r,u,t⟩:=s.own j c v g f m;refine⟨r,?_,t⟩;rintro(q|rfl)
  .exact u q
  .exact e (s.inj j i c v _ g hσ f n m rfl)
 .intro j F c v J g f m O G z;exact s.inj j F c v J g f (a j v m G).2 (a F J O z).2 G z
 .intro j y v g f;by_cases e:j=i
  .subst e;rw[hσ]at g;cases g;rw[Xb]at f;simp only[if_true]at f;split at f
   .cases f;obtain⟨l,k,r,u,t⟩:=s.blk j _ _ hσ n;exact⟨.inr rfl,l,k,r,u.mono ext.nil,t⟩
   .simp at f
  .rw[XN (λq=>e q.symm)]at f;exact(s.blk j y v g f).keep ext (λ_ _ _=>rfl) (λ_ _ _ _=>rfl)
section
variable {T kt et i:Nat} {x:Operand} {es:List (A×A)}
theorem OpH.range(t:P.underlying T=some (.map kt et))(F:o.op=.range T x:=by exact rfl)(hx:opA env x=.map i:=by exact rfl)(hH:H[i]?=some (.map es):=by exact rfl):
  OpH P o env H (.ptr H.length 0) (H.set i (.fmap es)++[.iter none es]):=by
 intro s f σ N a w r;have p:=Qk r x;rw[hx]at p;obtain⟨b,m,u⟩:=p;obtain⟨l,d,n,E,B,z,G⟩:=r.sim.blk i _ _ m hH;have y:=(r.sim.own i b _ m hH rfl).1;have k:=r.sim.shutMap m hH;have j:Qi s f w (λc=>f c\/c=b) w:=YN (λ_ q=>.inl q);have g:Qi s (λc=>f c\/c=b) w (λc=>f c\/c=b) (w.alloc (.mapIter (some b) d #[] d)):=Qi.alloc _ k.roLt k.frLt;have ext0:Ext f [] w (λc=>f c\/c=b) [] (w.alloc (.mapIter (some b) d #[] d)):=(j.trans g).ext0 [];refine⟨.pointer (some ⟨w.heap.size,0,none⟩),w.alloc (.mapIter (some b) d #[] d),_,[some w.heap.size],?_,⟨w.heap.size,?_,rfl⟩,
  k.alloc (.inr ⟨b,l,d, #[],l.toList,Q6 _ _,.inr rfl,by rw[YD _ _ _ y];exact n,B,z,?_,E.mono ext0,λ_ h=>by cases h⟩),j.trans g⟩
 .generalize a.eval=ρ at*;simp only[execOp,F,u,Instr.range,Vi,run_underlying t,Result.andThen,MapKept.run_getObj_map n];rfl
 .rw[<- r.sim.len];simp
 .have:l.toList.filter (λe=> !(#[]:Array Nat).contains e.born)=l.toList:=by simp
  rw[this]
theorem ER.mem{ro:Nat->Prop}{σ:Sig}{w:World}:∀{es:List (A×A)} {l:List MapEntry},ER ro σ w es l->∀e∈l,∃x es' l',(x::es').Perm es/\(e::l').Perm l/\VR ro σ w x.1 e.key/\VR ro σ w x.2 e.val/\ER ro σ w es' l'
 |[],l,h,e,he=>by cases(show l=[]from h);cases he
 |y::es,l,h,e,he=>by
  obtain⟨e0,l',rfl,h1,h2,h3⟩:=h;rcases X3.1 he with rfl|he
  .exact⟨y,es,l',.refl _,.refl _,h1,h2,h3⟩
  .obtain⟨x,es',l'',p1,p2,v1,v2,h4⟩:=ER.mem h3 e he;exact⟨x,y::es',e0::l'',(List.Perm.swap _ _ _).trans (p1.cons _),(List.Perm.swap _ _ _).trans (p2.cons _),v1,v2,⟨e0,l'',rfl,h1,h2,h4⟩⟩
theorem QiQ:∀{l:List MapEntry},(l.map (·.born)).Nodup->∀a∈l,∀b∈l,a.born=b.born->a=b
 |[],_,a,ha,_,_,_=>by cases ha
 |c::l,hn,a,ha,b,hb,hab=>by
  simp only[Vf,List.nodup_cons]at hn;rcases X3.1 ha with ea|ha'<;>rcases X3.1 hb with eb|hb'
  .rw[ea,eb]
  .grind
  .grind
  .exact QiQ hn.2 a ha' b hb' hab
def NextK(H:Qd)(i:Nat)(cur:Option (A×A))(es:List (A×A))(v:A)(H':Qd):Prop:=
 (es=[]/\v=.tup [.bool false]/\H'=H)\/ ∃e es',(e::es').Perm es/\v=.tup [.bool true,e.1,e.2]/\H'=H.set i (.iter (some e) es')
theorem OpE.next{M:Option (A×A)}(ho:o.op=.next x false:=by exact rfl)(hx:opA env x=.ptr i 0:=by exact rfl)(hH:H[i]?=some (.iter M es):=by exact rfl):
  OpE P o env H (NextK H i M es):=by
 intro fr k σ N a w r;have h1:=Qk r x;rw[hx]at h1;obtain⟨b,q1,q2⟩:=h1;have g:∀(v:Value) (w1:World),w1.heap=w.heap->w1.os=w.os->w1.tape=w.tape->w1.output=w.output->w.drawn<=w1.drawn->Sim fr k (σ++[]) H w1/\Qi fr k w k w1:=by
  intro v w1 R V e3 e4 e5;exact⟨by simpa using r.sim.heap R,Qi.heap R V e3 e4 e5⟩
 rcases r.sim.blk i _ _ q1 hH with⟨rfl,rfl,p⟩|⟨m,l,d,f,left,p1,p2,p3,p4,p5,p6,p7,p8⟩
 .refine⟨_,_,.tuple #[.bool false],w,k,[],.inl ⟨rfl,rfl,rfl⟩,?_,⟨_,rfl,_,_,rfl,rfl,rfl⟩,g (.bool false) w rfl rfl rfl rfl (XR _)⟩;generalize a.eval=ρ at*;simp only[execOp,ho,q2,Instr.next,Vi,getObj,Sem.run,p,Result.andThen];rfl
 .have ab:(leftOf l f).toList=l.toList.filter λe=> !f.contains e.born:=by simp[leftOf]
  have n:left.Perm (leftOf l f).toList:=by grind
  rcases run_next_at (P:=P) w o.type b m d d f l d p1 p3 p4 (XR _)with⟨g1,g2⟩|⟨e,g1,w1,g2,g3⟩
  .have ac:left=[]:=by
    have:left.length=0:=by rw[n.length_eq];omega
    grind
   subst ac;have aa:es=[]:=by
    have:=p7.length
    grind
   refine⟨_,_,.tuple #[.bool false],w,k,[],.inl ⟨aa,rfl,rfl⟩,?_,⟨_,rfl,_,_,rfl,rfl,rfl⟩,g (.bool false) w rfl rfl rfl rfl (XR _)⟩
   simp_all[execOp]
  .have he:e∈left:=n.mem_iff.2 g1;have O:e∈l.toList:=by grind
   obtain⟨y,J,Q,k1,k2,v1,v2,k3⟩:=p7.mem e he;have s:w1.heap=w.heap/\w1.os=w.os/\w1.tape=w.tape/\w1.output=w.output/\w.drawn<=w1.drawn:=by
    rcases g2 with rfl|rfl
    .simp
    .exact⟨rfl,rfl,rfl,rfl,Nat.le_succ _⟩
   obtain⟨s1,E⟩:=g (.bool false) w1 s.1 s.2.1 s.2.2.1 s.2.2.2.1 s.2.2.2.2;rw[Vc]at s1;have ae:b≠m:=by
    grind
   have u:=s1.set (x':=.iter (some y) J) (obj:=.mapIter (some m) d (f.push e.born) d) q1 hH rfl
    (λz G=>by
     grind[World.shape?])
    (λt X=>.inr ⟨m,l,d,f.push e.born,Q,X,t.sub _ p2,by
      grind,p4,p5,by
      have Y:(l.toList.filter λe=> !f.contains e.born).Nodup:=by
       have:l.toList.Nodup:=List.Pairwise.of_map _ (λa b h q=>h (congrArg _ q)) p5;exact this.filter _
      have W:(e::Q).Perm (l.toList.filter λe=> !f.contains e.born):=k2.trans p6;have L:(e::Q).Nodup:=W.nodup_iff.2 Y;have R:(l.toList.filter λB=> !(f.push e.born).contains B.born)=(l.toList.filter λe=> !f.contains e.born).filter λB=> !decide (B.born=e.born):=by
       rw[List.filter_filter];apply List.filter_congr;intro z _;simp[Array.contains_push,Bool.and_comm]
      rw[R];have h2:=W.filter (λB=> !decide (B.born=e.born));have V:(e::Q).filter (λB=> !decide (B.born=e.born))=Q:=by
       rw[List.filter_cons_of_neg (by simp),List.filter_eq_self];intro z G;have ad:z∈l.toList:=(Xd.1 (W.mem_iff.1 (X2 _ G))).1;simp only[Bool.not_eq_true',decide_eq_false_iff_not];intro hb;have:z=e:=by
        exact QiQ p5 z ad e O hb
       subst this;exact(List.nodup_cons.1 L).1 G
      rw[V]at h2;exact h2,by
      have T:Ext k [] w k [] w1:=E.ext0 [];exact(k3.mono T).mono ⟨t.sub,t.keep,t.shape,λ_ _ q=>q⟩,by
      intro z G;cases G;have T:Ext k [] w k [] w1:=E.ext0 [];exact⟨e,O,by simp,(v1.mono T).mono ⟨t.sub,t.keep,t.shape,λ_ _ q=>q⟩,(v2.mono T).mono ⟨t.sub,t.keep,t.shape,λ_ _ q=>q⟩⟩⟩)
   have F:=E.trans u.2;have xt:Ext k [] w k [] {w1 with heap:=w1.heap.setIfInBounds b (.mapIter (some m) d (f.push e.born) d)}:=F.ext0 [];refine⟨_,_,.tuple #[.bool true,e.key,e.val],_,k,[],.inr ⟨y,J,k1,rfl,rfl⟩,?_,
    ⟨[.bool true,e.key,e.val],rfl,_,_,rfl,rfl,_,_,rfl,(v1.mono xt).mono ⟨λ_ q=>q,λ_ _=>rfl,λ_ _ q=>q,λj c q=>by simp at q⟩,_,_,rfl,(v2.mono xt).mono ⟨λ_ q=>q,λ_ _=>rfl,λ_ _ q=>q,λj c q=>by simp at q⟩,rfl⟩,by simpa using u.1,F⟩
   generalize a.eval=ρ at*;simp only[execOp,ho,q2,Vi,g3,Result.andThen,setBlock];rfl
theorem OpV.entry{e:A×A}(R:o.op=.entry x:=by exact rfl)(hx:opA env x=.ptr i 0:=by exact rfl)(hH:H[i]?=some (.iter (some e) es):=by exact rfl):OpV P o env H (.tup [e.1,e.2]):=by
 intro J E σ N a w r;have g:=Qk r x;rw[hx]at g;obtain⟨b,s,G⟩:=g;rcases r.sim.blk i _ _ s hH with⟨_,h,_⟩|⟨m,l,d,j,left,z,O,M,L,y,F,B,p⟩
 .cases h
 .obtain⟨f,t,Q,n,k⟩:=p e rfl;refine⟨.tuple #[f.key,f.val],?_,[f.key,f.val],rfl,_,_,rfl,n.mono ⟨λ_ q=>q,λ_ _=>rfl,λ_ _ q=>q,(by simp)⟩,_,_,rfl,k.mono ⟨λ_ q=>q,λ_ _=>rfl,λ_ _ q=>q,(by simp)⟩,rfl⟩;have u:l.find? (·.born==f.born)=some f:=by rw[<- Array.find?_toList];exact find_born f l.toList y t
  simp_all[execOp,Instr.entry,getObj,Sem.run]
end
end
end Go.Sw
namespace Go.Sw
def Qej{S E B:Type}(stepE:S->E->Option (Ctl S B))(stepN:S->Option B):S->List E->Option B
 |s,[]=>stepN s
 |s,e::p=>match stepE s e with
  |some (.cont s')=>Qej stepE stepN s' p
  |some (.done b)=>some b
  |none=>none
def Qbn{E:Type}(x:E):List E->List (List E)
 |[]=>[[x]]
 |y::l=>(x::y::l)::(Qbn x l).map (y:: ·)
def QbO{E:Type}:List E->List (List E)
 |[]=>[[]]
 |x::l=>(QbO l).flatMap (Qbn x)
theorem Qfi{E:Type}(x:E):∀(a b:List E),a++x::b∈Qbn x (a++b)
 |[],[]=>by simp[Qbn]
 |[],y::b=>by simp[Qbn]
 |y::a,b=>by
  simp only[VG,Qbn,X3,Xe];exact .inr ⟨a++x::b,Qfi x a b,rfl⟩
theorem Qdw{E:Type}:∀(l p:List E),p.Perm l->p∈QbO l
 |[],p,h=>by rw[List.perm_nil.1 h];simp[QbO]
 |x::l,p,h=>by
  have hx:x∈p:=h.mem_iff.2 (by simp);obtain⟨a,b,rfl⟩:=List.append_of_mem hx;have h2:(a++b).Perm l:=(List.perm_cons x).1 ((List.perm_middle.symm).trans h);simp only[QbO,List.mem_flatMap];exact⟨a++b,Qdw l _ h2,Qfi x a b⟩
def anyP{E R:Type}[DecidableEq R](k:List E->Option R)(l:List E):Option R:=bif (QbO l).all (λp=>decide (k p=k l))then k l else none
theorem Qon{E R:Type}[DecidableEq R]{k:List E->Option R}{l:List E}{r:R}(h:anyP k l=some r)(p:List E)(a:p.Perm l):k p=some r:=by
 unfold anyP at h;cases q:(QbO l).all (λp=>decide (k p=k l))with
 |true=>
  simp_all[Qdw]
 |false=>grind
theorem QcC{E:Type}:∀(l p:List E),p∈QbO l->p.Perm l
 |[],p,h=>by simp[QbO]at h;rw[h]
 |x::l,p,h=>by
  simp only[QbO,List.mem_flatMap]at h;obtain⟨q,hq,hp⟩:=h;have ins:∀(q p:List E),p∈Qbn x q->p.Perm (x::q):=by
   intro q
   induction q with
   |nil=>intro p hp;simp[Qbn]at hp;rw[hp]
   |cons y q a=>
    intro p hp;simp only[Qbn,X3,Xe]at hp;rcases hp with rfl|⟨z,d,rfl⟩
    .exact .refl _
    .exact((a z d).cons y).trans (List.Perm.swap _ _ _)
  exact(ins q p hp).trans ((QcC l q hq).cons x)
theorem Qoo{E R:Type}[DecidableEq R]{k:List E->Option R}{l:List E}{r:R}(h:∀p,p.Perm l->k p=some r):anyP k l=some r:=by
 unfold anyP;have:(QbO l).all (λp=>decide (k p=k l))=true:=Xs.2 λp a=>by
  simp_all[QcC]
 rw[this];simp_all
def Qi4{S E B:Type}(stepE:S->E->Option (Ctl S B))(stepN:S->Option B)(G:B->Prop)(s:S)(l:List E):Prop:=∀p,p.Perm l->∃b,Qej stepE stepN s p=some b/\G b
section
variable {P:Program} {o:Oper} {env:Env} {H:Qd} {h0 N:Nat} {Q:QP} {c:Code}
def Qck(I:Env->Qd->Prop)(Q:QP):QP
 |.normal,env,H=>I env H
 |.exit id,env,H=>Q (.exit id) env H
 |.ret,env,H=>Q .ret env H
theorem Qne{I:Nat->Env->Qd->Prop}(body:∀n env H,I n env H->TC P h0 N c env H (Qck (λenv H=>∃n',n'<n/\I n' env H) Q)){n:Nat}(B:I n env H):TC P h0 N (.loop c) env H Q:=by
 intro L p u σ a w r hrd b k cs hro hb hr;have z:∀m n env H fr1 ro1 σ1 a1 w1,n<m->I n env H->Rel fr1 ro1 σ1 H env N a1 w1->Qi p u w ro1 w1->σ1.take h0=σ.take h0->Grow p w a.defers fr1 a1.defers->
   ∃e h g,QaI h0 p u σ w N a.defers Q e h g/\ArrivesIn (Machine.fenced P (WF L)) P (lone (b.atR a1 (.code c::.inLoop c::k)) cs w1) b k cs e h g:=by
  intro m
  induction m with
  |zero=>omega
  |succ m W=>
   intro n env H fr1 ro1 σ1 a1 w1 hn B r1 ev1 t1 g1;obtain⟨e,h,g,E,d⟩:=body n env H B L fr1 ro1 σ1 a1 w1 r1 (hrd.to ev1 g1.sub) b (.inLoop c::k) cs hro hb hr;obtain⟨x,f,H',j,σ',t,y,l,M,q4,O,R⟩:=E;have s:=ev1.trans (q4.frMono g1.sub);have G:=g1.trans ev1.size R;have J:∀x,Q x f H'->ExR e x->QaI h0 p u σ w N a.defers Q e h g:=λx q X=>⟨x,f,H',j,σ',t,X,q,M,s,O.trans t1,G⟩;cases e with
   |normal=>
    obtain rfl:x=.normal:=y;obtain⟨n',T,l⟩:=l;obtain⟨V,Y,w2,F,i⟩:=W n' f H' t j σ' h g (by omega) l M s (O.trans t1) G;exact⟨V,Y,w2,F,.of_steps (StepsIn.trans d (.one (fenced_calm hb hr rfl) stepR_inLoop)) i⟩
   |exit id=>
    obtain rfl:x=.exit id:=y;exact⟨_,h,g,J _ l rfl,.pass (x:=.inLoop c) rfl (by simp) d⟩
   |ret=>
    obtain rfl:x=.ret:=y;exact⟨_,h,g,J _ l rfl,.pass (x:=.inLoop c) rfl (by simp) d⟩
   |_=>exact y.elim
 obtain⟨e,h,g,E,d⟩:=z (n+1) n env H p u σ a w (Xm _) B r (Qi.refl _ _ _) rfl (Grow.refl _ _ _);exact⟨e,h,g,E,.of_steps (.one (fenced_calm hb hr rfl) stepR_loop) d⟩
section
variable {S E B:Type} {stepE:S->E->Option (Ctl S B)} {stepN:S->Option B} {G:B->Prop} (Es:S->Env) (Hp:S->List (A×A)->Qd) {enc:E->A×A}
def AtP(stepE:S->E->Option (Ctl S B))(stepN:S->Option B)(G:B->Prop)(enc:E->A×A)(h0 n:Nat)(env:Env)(H:Qd):Prop:=
 ∃s l,l.length=n/\Qi4 stepE stepN G s l/\Le h0 env H (Es s) (Hp s (l.map enc))
theorem Qnd{s0:S}{l0:List E}(h:Qi4 stepE stepN G s0 l0)(hI:Le h0 env H (Es s0) (Hp s0 (l0.map enc)))
  (body:∀s l,Qi4 stepE stepN G s l->TC P h0 N c (Es s) (Hp s (l.map enc)) (Qck (λenv H=>∃n',n'<l.length/\AtP Es Hp stepE stepN G enc h0 n' env H) Q)):TC P h0 N (.loop c) env H Q:=
 Qne (I:=AtP Es Hp stepE stepN G enc h0) (λn env H ⟨s,l,hn,ha,hle⟩=>by subst hn;exact Qc hle (body s l ha)) ⟨s0,l0,rfl,h,hI⟩
theorem Qk4{α β:Type}{f:α->β}:∀{m g:List β},m.Perm g->∀{l:List α},g=l.map f->∃l':List α,l'.Perm l/\l'.map f=m:=by
 intro m g h
 induction h with
 |nil=>simp
 |cons x _ ih=>
  intro l d;cases l with
  |nil=>cases d
  |cons a l=>
   simp only[Vf,List.cons.injEq]at d;obtain⟨l',e,i⟩:=ih d.2;exact⟨a::l',e.cons _,by grind⟩
 |swap x y m=>
  intro l d
  match l,d with
  |a::b::l,d=>
   simp only[Vf,List.cons.injEq]at d;exact⟨b::a::l,List.Perm.swap _ _ _,by grind⟩
 |trans _ _ ih1 ih2=>
  intro l d;obtain⟨p,e,i⟩:=ih2 d;obtain⟨j,n,k⟩:=ih1 i.symm;exact⟨j,n.trans e,k⟩
theorem Qm9{all:Array Oper}{L:List Oper}{d i:Nat}{x:Operand}{n:Option (A×A)}{s:S}{l:List E}(u:Qi4 stepE stepN G s l)
  (B:∀b,stepN s=some b->G b->WO P h0 N all L (up env d (.tup [.bool false])) H Q)
  (F:∀e l' D,stepE s e=some D->(∀b,D=.done b->G b)->(l'.length<l.length/\ ∀s',D=.cont s'->Qi4 stepE stepN G s' l')->
   WO P h0 N all L (up env d (.tup [.bool true,(enc e).1,(enc e).2])) (H.set i (.iter (some (enc e)) (l'.map enc))) Q)
  (J:o.op=.next x false:=by exact rfl)(hx:opA env x=.ptr i 0:=by exact rfl)(hH:H[i]?=some (.iter n (l.map enc)):=by exact rfl)
  (hg:QB all o env true:=by exact rfl)(hd:o.dst=some d:=by exact rfl)(hN:Nat.blt d N=true:=by exact rfl)(hh:Nat.ble h0 H.length=true:=by exact rfl):WO P h0 N all (o::L) env H Q:=by
 refine Qm7 (XP hh) hg hd hN (OpE.next J hx hH) ?_;rintro v H' (⟨m,rfl,rfl⟩|⟨e,y,m,rfl,rfl⟩)
 .have:l=[]:=List.map_eq_nil_iff.1 m;subst this;obtain⟨b,k,g⟩:=u [] (.refl _);exact B b k g
 .obtain⟨z,k,g⟩:=Qk4 m rfl;cases z with
  |nil=>cases g
  |cons a l'=>
   simp only[Vf,List.cons.injEq]at g;obtain⟨rfl,rfl⟩:=g;have j:l'.length<l.length:=by rw[<- k.length_eq];simp
   have f:∀p,p.Perm l'->∃b,Qej stepE stepN s (a::p)=some b/\G b:=λp q=>u _ ((q.cons a).trans k);cases r:stepE s a with
   |none=>
    obtain⟨b,h,_⟩:=f l' (.refl _);simp[Qej,r]at h
   |some D=>
    refine F a l' D r ?_ ⟨j,?_⟩
    .rintro b rfl;obtain⟨w,h,t⟩:=f l' (.refl _)
     grind[Qej]
    .rintro s' rfl p q;obtain⟨w,h,t⟩:=f p q;simp[Qej,r]at h;exact⟨w,h,t⟩
theorem Qo7{s:S}{l l':List E}{D:Ctl S B}(e:some (Ctl.cont s)=some D)(hc:l'.length<l.length/\ ∀s',D=.cont s'->Qi4 stepE stepN G s' l')(h:Le h0 env H (Es s) (Hp s (l'.map enc))):
  Qck (λenv H=>∃n',n'<l.length/\AtP Es Hp stepE stepN G enc h0 n' env H) Q .normal env H:=
 ⟨_,hc.1,s,l',rfl,(by grind),h⟩
theorem Qo6{I:Env->Qd->Prop}{id:Nat}(h:Q (.exit id) env H):Qck I Q (.exit id) env H:=h
end
def QoK{B:Type}(h0:Nat)(G:B->Prop)(Eb:B->Env)(Hb:B->Qd)(Q:QP):QP
 |.normal,env,H=>∃b,G b/\Le h0 env H (Eb b) (Hb b)
 |.exit id,env,H=>Q (.exit id) env H
 |.ret,env,H=>Q .ret env H
theorem Qor{S E B:Type}{stepE:S->E->Option (Ctl S B)}{stepN:S->Option B}{G:B->Prop}{s0:S}{l0:List E}(hl:Qi4 stepE stepN G s0 l0)(Eb:B->Env)(Hb:B->Qd)
  (h:TC P h0 N c env H (QoK h0 G Eb Hb Q))(k:∀b env H,G b->Le h0 env H (Eb b) (Hb b)->Q .normal env H):TC P h0 N c env H Q:=
 h.mono λx env' H' q=>by
  cases x with
  |normal=>obtain⟨b,e,q⟩:=q;grind
  |exit id=>exact q
  |ret=>exact q
theorem cutGN{B:Type}{G:B->Prop}{Eb:B->Env}{Hb:B->Qd}{b:B}(hG:G b)(h:Le h0 env H (Eb b) (Hb b)):QoK h0 G Eb Hb Q .normal env H:=⟨b,hG,h⟩
theorem QlR{i:Nat}{d:Option (A×A)}{es:List (A×A)}{H':Qd}(s:H[i]?=some (.iter d es))(f:H.set i (.iter none es)=H'):Le h0 env H env H':=by
 subst f;intro u p σ N a w r;refine⟨p,σ,⟨r.sim.weaken (x':=.iter none es) s rfl ?_,r.env,r.size,r.defers⟩,λ_ q=>q,rfl⟩;intro y h;cases y with
 |none=>exact h
 |some b=>
  rcases h with⟨j,n,g⟩|⟨m,l,e,k,left,j,n,g,B,t,x,z,E⟩
  .exact .inl ⟨j,rfl,g⟩
  .exact .inr (by grind)
end
def mk{α:Type}(n:Int)(z:α):Option (List α):=bif decide (0<=n)&&decide (n<=4294967296)then some (List.replicate n.toNat z)else none
theorem mk_ok{α:Type}{n:Int}{z:α}{l:List α}(h:mk n z=some l):0<=n/\n<=4294967296/\List.replicate n.toNat z=l:=by
 unfold mk at h;cases q:(decide (0<=n)&&decide (n<=4294967296))with
 |true=>rw[q]at h;simp at q;exact⟨q.1,q.2,XW h⟩
 |false=>rw[q]at h;cases h
theorem Qgr{α:Type}[Inhabited α](zl:List α)(k:Nat)(hk:zl.length=k)(h0:0<k):∀n,(List.range (n*k)).map (λi=>zl.toArray[i%zl.toArray.size]!)=(List.replicate n zl).flatten
 |0=>by simp
 |n+1=>by
  rw[Xl,List.range_add,Xf,Qgr zl k hk h0 n,List.replicate_succ',Xr];congr 1;simp only[Vh,List.flatten_nil,Vc,List.map_map];apply List.ext_getElem
  .simp[hk]
  .intro i h1 h2;simp only[XY,List.length_range]at h1;simp only[List.getElem_map,List.getElem_range,Function.comp,List.size_toArray,hk];rw[Nat.mul_comm,Nat.mul_add_mod,Nat.mod_eq_of_lt h1];simp[hk,h1]
section
variable {P:Program} {o:Oper} {env:Env} {H:Qd} {ro:Nat->Prop} {σ:Sig} {w:World}
theorem LR.replicate{az:List A}{l:List Value}(h:LR ro σ w az l):∀n,LR ro σ w (List.replicate n az).flatten (List.replicate n l).flatten
 |0=>rfl
 |n+1=>by
  rw[List.replicate_succ,List.replicate_succ];exact h.append (LR.replicate h n)
theorem Qkd{α:Type}{e:α->List A}{T et k:Nat}{x y:Operand}{L R:IntKind}{n:Int}{zv:α}{l:List α}{z:Value}{a:A}(hm:mk n zv=some l)(E:Ya P T et k)(hz:∀w,(zeroValue et).run P w=.ok z w)(aa:ZR a z)
  (hk:Yp a=true)(hc:Yf a=e zv)(hp:(Yf a).all Yz=true)(s:Nat.beq (e zv).length k=true)
  (ho:o.op=.makeSlice T x y:=by exact rfl)(hx:opA env x=.int L n:=by exact rfl)(hy:opA env y=.int R n:=by exact rfl)
  {fr ro:Nat->Prop}{σ:Sig}{N:Nat}{act:Act}{w:World}(r:Rel fr ro σ H env N act w):∃lv:List Value,(execOp act.eval o).run P w=.ok (.value (.slice (some ⟨w.heap.size,0,none⟩) l.length l.length)) (w.alloc (.cells lv.toArray et))/\
   LR ro [] w (l.map e).flatten lv/\(∀v∈lv,Qx v)/\allK k (l.map e)/\lv.length=l.length*k/\l.length<=4294967296:=by
 obtain⟨n0,n1,hl⟩:=mk_ok hm;have X:=Qk r x;rw[hx]at X;have h2:=Qk r y;rw[hy]at h2;have ab:act.eval x=.int L n:=X;have Y:act.eval y=.int R n:=h2;obtain⟨i,hi,ag⟩:=E.bytes;obtain⟨f,c1,O⟩:=(aa ro [] w).cells hk;have t:f.length=k:=by
  rw[O.length,hc];exact XO s
 have af:(if n.toNat*k=0 then(#[]:Array Value)else f.toArray)=f.toArray\/n.toNat*k=0:=by
  by_cases q:n.toNat*k=0
  .exact .inr q
  .exact .inl (Vn q)
 have d:∀(ZZ:Array Value),(ZZ=f.toArray\/n.toNat*k=0)->(Array.range (n.toNat*k)).map (λj=>ZZ[j%ZZ.size]!)=((List.replicate n.toNat f).flatten).toArray:=by
  intro ZZ hZ;by_cases q:n.toNat*k=0
  .rw[q];have:(List.replicate n.toNat f).flatten=[]:=by
    apply VF.1;simp[t,q]
   rw[this];simp
  .obtain rfl:ZZ=f.toArray:=hZ.resolve_right q;have Q:0<k:=by
    rcases Nat.eq_zero_or_pos k with h|h
    .rw[h,Nat.mul_zero]at q;exact absurd rfl q
    .exact h
   rw[<- Qgr f k t Q n.toNat];simp[XG, <- List.toArray_range]
 have B:=O.replicate n.toNat;have V:allK k (List.replicate n.toNat (e zv)):=by
  have:∀m,allK k (List.replicate m (e zv)):=by
   intro m
   induction m with
   |zero=>trivial
   |succ m ih=>exact⟨XO s,ih⟩
  exact this _
 have g:∀v∈(List.replicate n.toNat f).flatten,Qx v:=by
  intro v J;obtain⟨m,hm,J⟩:=List.mem_flatten.1 J;rw[List.eq_of_mem_replicate hm]at J;exact O.plain hp v J
 rw[hc]at B;have p:l.map e=List.replicate n.toNat (e zv):=by rw[<- hl,List.map_replicate]
 have G:l.length=n.toNat:=by rw[<- hl];simp
 refine⟨(List.replicate n.toNat f).flatten,?_,by rw[p];exact B,g,by rw[p];exact V,by rw[G];simp[t],by omega⟩;rw[G]
 .have hw:IntKind.i64.wrap n=n:=by
   unfold IntKind.wrap;simp[IntKind.bits,IntKind.signed];omega
  have ae:∀(x:Nat) (W:World),(askRoom x).run P W=.ok () W:=by
   intro x W;unfold askRoom;split<;>rfl
  have u:∀(c:Array Value) (W:World),(newRow et c).run P W=.ok ⟨W.heap.size,0,none⟩ (W.alloc (.cells c et)):=λc W=>rfl;have M:¬(n<0):=by omega
  have ac:¬((i.bytes:Int)*n>2^48):=by
   have X:(i.bytes:Int)*n<=4096*4294967296:=Int.mul_le_mul (by omega) n1 n0 (by omega);omega
  have F:(Instr.makeSlice T (.int L n) (.int R n)).run P w=.ok (.slice (some ⟨w.heap.size,0,none⟩) n.toNat n.toNat) (w.alloc (.cells ((List.replicate n.toNat f).flatten).toArray et)):=by
   have ah:¬(n>n):=by omega
   have ad:∀(k:IntKind) (m:Int) (W:World),(asInt (.int k m)).run P W=.ok m W:=λk m W=>rfl;unfold Instr.makeSlice;simp only[Vi,E.sl,E.size,hi,Result.andThen,ad,Vj,hw,ae,XF];rw[Vn (by simp[M,ac];omega)];by_cases q:n.toNat*k=0
   .simp only[q,if_true,Vj];have:=d #[] (.inr q);rw[q]at this;simp only[this,u]
   .simp only[q,if_false,hz,Vj,c1,d f.toArray (.inl rfl),u]
  generalize act.eval=ρ at*;simp only[execOp,ho,ab,Y,Vi,F,Result.andThen];rfl
theorem QkK{α:Type}{e:α->List A}{T et k:Nat}{x y:Operand}{h J:IntKind}{n:Int}{zv:α}{l:List α}{z:Value}{a:A}(s:mk n zv=some l)(E:Ya P T et k)(O:∀w,(zeroValue et).run P w=.ok z w)(f:ZR a z)
  (F:Yp a=true)(q:Yf a=e zv)(L:(Yf a).all Yz=true)(d:Nat.beq (e zv).length k=true)
  (M:o.op=.makeSlice T x y:=by exact rfl)(hx:opA env x=.int h n:=by exact rfl)(hy:opA env y=.int J n:=by exact rfl):
  OpH P o env H (.osl H.length 0 l.length k) (H++[.row et k (l.map e)]):=by
 intro R p σ N act w r;obtain⟨G,i,u,j,m,B,Q⟩:=Qkd s E O f F q L d M hx hy r;have g:=r.sim.allocRow (t:=et) (rest:=[]) m u j;rw[Vc]at g;refine⟨_,_,p,[some w.heap.size],i,.inr ⟨w.heap.size,0,l.length,et,G.length,?_,rfl,λ_=>by simp,⟨XR _,by omega⟩,?_,by rw[B,Xu];exact XR _⟩,g,Qi.alloc _ r.sim.roLt r.sim.frLt⟩
 .rw[<- r.sim.len];simp
 .unfold World.shape?;rw[Q6];simp
end
open Go.Sort Go.Proofs Go.Shelf
section
variable {α:Type}
def ins(lt:α->α->Bool)(x:α):List α->List α
 |[]=>[x]
 |y::l=>bif lt y x then y::ins lt x l else x::y::l
def QaR(lt:α->α->Bool):List α->List α
 |[]=>[]
 |x::l=>ins lt x (QaR lt l)
theorem Qfg(lt:α->α->Bool)(x:α):∀l,(ins lt x l).Perm (x::l)
 |[]=>.refl _
 |y::l=>by
  unfold ins;cases lt y x
  .exact .refl _
  .exact((Qfg lt x l).cons y).trans (List.Perm.swap _ _ _)
theorem QT(lt:α->α->Bool):∀l,(QaR lt l).Perm l
 |[]=>.refl _
 |x::l=>(Qfg lt x _).trans ((QT lt l).cons x)
structure QfO (lt:α->α->Bool) (l:List α):Prop where
 irrefl:∀x∈l,lt x x=false
 trans:∀x∈l,∀y∈l,∀z∈l,lt x y=true->lt y z=true->lt x z=true
 ntrans:∀x∈l,∀y∈l,∀z∈l,lt x y=false->lt y z=false->lt x z=false
theorem QfO.mono{lt:α->α->Bool}{l m:List α}(h:QfO lt l)(hm:∀x∈m,x∈l):QfO lt m:=
 ⟨λx hx=>h.irrefl x (hm x hx),λx hx y hy z hz=>h.trans x (hm x hx) y (hm y hy) z (hm z hz),λx hx y hy z hz=>h.ntrans x (hm x hx) y (hm y hy) z (hm z hz)⟩
theorem QfO.asymm{lt:α->α->Bool}{l:List α}(h:QfO lt l){x y:α}(d:x∈l)(e:y∈l)(a:lt x y=true):lt y x=false:=by
 cases q:lt y x
 .rfl
 .rw[<- h.irrefl x d,h.trans x d y e x d a q]
theorem Qff{lt:α->α->Bool}{x:α}:∀{l:List α},QfO lt (x::l)->l.Pairwise (λa b=>lt b a=false)->(ins lt x l).Pairwise (λa b=>lt b a=false)
 |[],_,_=>by simp[ins]
 |y::l,h,hp=>by
  obtain⟨h1,h2⟩:=Xc.1 hp;unfold ins;cases q:lt y x
  .refine Xc.2 ⟨λz hz=>?_,hp⟩;rcases X3.1 hz with rfl|hz
   .exact q
   .exact h.ntrans z (by simp[hz]) y (by simp) x (by simp) (h1 z hz) q
  .refine Xc.2 ⟨λz hz=>?_,Qff (h.mono (by grind)) h2⟩;rcases X3.1 ((Qfg lt x l).mem_iff.1 hz)with rfl|hz
   .exact h.asymm (by simp) (by simp) q
   grind
theorem YI{lt:α->α->Bool}:∀{l:List α},QfO lt l->(QaR lt l).Pairwise (λa b=>lt b a=false)
 |[],_=>by simp[QaR]
 |x::l,h=>Qff (h.mono (by
   intro z hz;rcases X3.1 hz with rfl|hz
   .simp
   grind[QT])) (YI (h.mono (by grind)))
theorem Qbh{lt:α->α->Bool}:∀{l m:List α},l.Perm m->(∀x∈l,∀y∈l,lt x y=false->lt y x=false->x=y)->l.Pairwise (λa b=>lt b a=false)->m.Pairwise (λa b=>lt b a=false)->l=m
 |[],m,h,_,_,_=>by simp_all
 |x::l,[],h,_,_,_=>by simp_all
 |x::l,y::m,h,ha,hl,hm=>by
  obtain⟨l1,l2⟩:=Xc.1 hl;obtain⟨m1,m2⟩:=Xc.1 hm;have hy:y∈x::l:=h.mem_iff.2 (by simp);have hx:x∈y::m:=h.mem_iff.1 (by simp);have hxy:x=y:=by
   grind
  subst hxy;rw[Qbh (by simp_all) (by grind) l2 m2]
def ltO(cf:α->α->Option Int)(x y:α):Bool:=match cf x y with
 |some c=>decide (c<0)
 |none=>false
def QiO[DecidableEq α](cf:α->α->Option Int)(l:List α):Bool:=
 l.all λx=> !ltO cf x x&&l.all λy=>(cf x y).isSome&&(ltO cf x y||ltO cf y x||decide (x=y))&&l.all λz=>(!ltO cf x y|| !ltO cf y z||ltO cf x z)&&(ltO cf x y||ltO cf y z|| !ltO cf x z)
def QbI[DecidableEq α](cf:α->α->Option Int)(l:List α):Option (List α):=bif Nat.ble l.length Yk&&QiO cf l then some (QaR (ltO cf) l)else none
theorem QeS[DecidableEq α]{a:α->α->Option Int}{l l':List α}(h:QbI a l=some l'):
  l.length<=Yk/\(∀x∈l,∀y∈l,∃c,a x y=some c)/\QfO (ltO a) l/\(∀x∈l,∀y∈l,ltO a x y=false->ltO a y x=false->x=y)/\QaR (ltO a) l=l':=by
 unfold QbI at h;cases i:Nat.ble l.length Yk with
 |false=>grind
 |true=>
 rw[i,Vw]at h;cases q:QiO a l with
 |false=>grind
 |true=>
  rw[q]at h;refine⟨(by simp_all),?_⟩;unfold QiO at q;simp only[Xs,XU,Bool.not_eq_true',Bool.or_eq_true,Vm]at q;refine⟨λx d y e=>Option.isSome_iff_exists.1 ((q x d).2 y e).1.1,⟨λx d=>(q x d).1,λx d y e z j g f=>?_,λx d y e z j g f=>?_⟩,λx d y e g f=>?_,XW h⟩
  .grind
  .grind
  grind
theorem Ql7[DecidableEq α]{a:α->α->Option Int}{l:List α}(d:l.length<=Yk)(c:α->α->Int)(k:∀x∈l,∀y∈l,a x y=some (c x y))(hi:∀x∈l,¬c x x<0)
  (j:∀x∈l,∀y∈l,∀z∈l,c x y<0->c y z<0->c x z<0)(h:∀x∈l,∀y∈l,∀z∈l,¬c x y<0->¬c y z<0->¬c x z<0)(i:∀x∈l,∀y∈l,¬c x y<0->¬c y x<0->x=y):
  QbI a l=some (QaR (ltO a) l):=by
 have e:∀x∈l,∀y∈l,ltO a x y=decide (c x y<0):=λx f y g=>by unfold ltO;grind
 have q:QiO a l=true:=by
  unfold QiO
  grind
 simp_all[QbI,XQ]
theorem Qa3[DecidableEq α]{a:α->α->Option Int}{l l':List α}(h:QbI a l=some l'):l.length=l'.length:=by
 rw[<- (QeS h).2.2.2.2];exact(QT _ _).length_eq.symm
theorem Q2{l l':List α}{i:Int}{x:α}(h:Qbj l i x=some l'):l.length=l'.length:=by
 grind[Qbj]
theorem QA{f:Nat}{env:Env}{H:Qd}{s:Nat}{a a':A}(h:lk env s=a)(e:a=a'):Le f env H (up env s a') H:=by
 intro i g σ N act w r;refine⟨g,σ,⟨r.sim,λd=>?_,r.size,r.defers⟩,λ_ q=>q,rfl⟩;subst e;have:lk (up env s a) d=lk env d:=by
  simp only[lk];cases q:Nat.beq d s with
  |true=>simp_all
  |false=>rfl
 rw[this];exact r.env d
end
section
variable {fr ro:Nat->Prop} {σ:Sig} {H:Qd} {w w':World}
theorem Qd5(hh:∀b,b<w.heap.size->w'.heap[b]?=w.heap[b]?)(hro:∀b,ro b->b<w.heap.size)(σ:Sig):Ext ro σ w ro σ w':=
 ⟨λ_ q=>q,(by grind),λb x hx=>by grind[World.shape?],λ_ _ q=>q⟩
theorem Sim.grown(s:Sim fr ro σ H w)(a:∀b,b<w.heap.size->w'.heap[b]?=w.heap[b]?)(k:w.heap.size<=w'.heap.size):Sim fr ro σ H w':=by
 refine⟨s.len,s.roOk.to (λ_ q=>q) (λb q=>a b (s.roLt b q)) (λb h=>Vb (s.roLt b h) k),λb h=>Vb (s.frLt b h) k,s.roFr,λi b x f e n=>?_,s.inj,λi y x f e=>?_,s.hidTo (· = ·) Yc k (by simp) (by simp) λj d y l m r=>.inl ⟨j,y,rfl,l,m,id,λc q=>s.hidKeep l m (λz=>a d (s.own j d y l m z).1) (λb q=>a b (s.roLt b q)) q⟩⟩
 .obtain⟨p,q⟩:=s.own i b x f e n
  grind
 .refine(s.blk i y x f e).keep (Qd5 a s.roLt σ) ?_ ?_
  .rintro b rfl g;exact a b (s.own i b x f e g).1
  .rintro b c rfl g;exact a c (s.hid i b x c f e g).lt
theorem Qi.grown(hh:∀b,b<w.heap.size->w'.heap[b]?=w.heap[b]?)(hs:w.heap.size<=w'.heap.size)(s:Sim fr ro σ H w)(ho:w'.os=w.os)(ht:w'.tape=w.tape)(hu:w'.output=w.output)(hd:w.drawn<=w'.drawn):Qi fr ro w ro w':=
 ⟨λ_ q=>q,λb h=>hh b (s.roLt b h),λb h=>hh b (s.frLt b h),hs,(Qd5 hh s.roLt σ).shape,ho,ht,hu,hd⟩
theorem Qn1(j:∀b,b<w.heap.size->w'.heap[b]?=w.heap[b]?)(h:w.heap.size<=w'.heap.size)(g:w'.os=w.os)(f:w'.tape=w.tape)(d:w'.output=w.output)(i:w.drawn<=w'.drawn):
  ∃q os',w'=grow (w.drewN q) os':=by
 refine⟨w'.drawn-w.drawn,w'.heap.extract w.heap.size w'.heap.size,?_⟩;obtain⟨a,n,e,m,k⟩:=w';simp only at j h g f d i;subst g f d;unfold grow World.drewN;have l:a=w.heap++a.extract w.heap.size a.size:=by
  grind
 have p:e=w.drawn+(e-w.drawn):=by omega
 grind
end
end Go.Sw
