/- The rules by which the code is walked, with what they rest on (part 1). -/
import Derived.Calls
import Derived.Tactics
import Derived.Below
import Derived.TacticsIn
import Derived.OrdersIn
import Derived.RangeFuncLeaves
import Derived.RangeFuncRecord
import Derived.Laws.Strings
import Derived.Laws.World
import Derived.Orders
import Derived.Maps.Keyed
import Derived.Laws.StructEq
import Derived.Maps.RangeRun
import Derived.Shelf.SlSortCmp.NoneTotal
set_option linter.unusedVariables false
set_option linter.unusedSimpArgs false
set_option linter.unusedSectionVars false
namespace Go.Sw
abbrev Xa:= @List.getElem?_set_self
abbrev Xb:= @List.getElem?_set
abbrev Xc:= @List.pairwise_cons
abbrev Xd:= @List.filter_cons
abbrev Xe:= @List.mem_filter
abbrev Xf:= @List.mem_map
abbrev Xg:= @List.map_append
abbrev Xh:= @Bool.not_true
abbrev Xi:= @Bool.not_false
abbrev Xj:= @Bool.false_eq_true
abbrev Xk:= @Option.map_some
abbrev Xl:= @Option.map_none
abbrev Xm:= @Nat.succ_mul
abbrev Xn:= @Nat.lt_succ_self
abbrev Xo:= @List.getElem?_map
abbrev Xp:= @List.drop_eq_getElem_cons
abbrev Xq:= @List.drop_eq_nil_iff
abbrev Xr:= @List.drop_length
abbrev Xs:= @List.all_eq_true
abbrev Xt:= @List.any_eq_true
abbrev Xu:= @Nat.zero_add
abbrev Xv:= @Nat.add_zero
abbrev Xw:= @List.length_take
abbrev Xx:= @List.take_append_drop
abbrev Xy:= @Nat.add_mul
abbrev Xz:= @Nat.min_eq_left
abbrev XA:= @Nat.mul_le_mul_right
abbrev XB:= @List.foldl_cons
abbrev XC:= @List.getElem?_cons_zero
abbrev XD:= @List.getElem?_cons_succ
abbrev XE:= @List.getElem?_toArray
abbrev XF:= @List.map_toArray
abbrev XG:= @Option.bind_some
abbrev XH:= @List.getElem?_eq_getElem
abbrev XI:= @List.getElem?_eq_some_iff
abbrev XJ:= @List.getElem?_append_left
abbrev XK:= @List.getElem?_append_right
abbrev XL:= @List.getElem?_eq_none
abbrev XM:= @List.getElem?_set_ne
abbrev XN:= @Nat.eq_of_beq_eq_true
abbrev XO:= @Nat.le_of_ble_eq_true
abbrev XP:= @Nat.ble_eq_true_of_le
abbrev XQ:= @Nat.le_refl
abbrev XR:= @Nat.zero_le
abbrev XS:= @Nat.le_trans
abbrev XT:= @Bool.and_eq_true
abbrev XU:= @Bool.eq_iff_iff
abbrev XV:= @Option.some.inj
abbrev XW:= @List.length_cons
abbrev XX:= @List.length_map
abbrev XY:= @List.length_append
abbrev XZ:= @List.length_set
abbrev X0:= @List.mem_cons
abbrev X2:= @List.take_append_of_le_length
abbrev X3:= @List.drop_append_of_le_length
abbrev X4:= @List.take_length
abbrev X5:= @List.drop_length_add_append
abbrev X6:= @List.take_length_add_append
abbrev X7:= @Array.getElem?_eq_some_iff
abbrev X8:= @Array.getElem?_setIfInBounds
abbrev X9:= @Nat.lt_of_lt_of_le
abbrev Va:= @List.append_nil
abbrev Vb:= @List.nil_append
abbrev Vc:= @List.append_assoc
abbrev Vd:= @List.map_cons
abbrev Ve:= @List.map_nil
abbrev Vf:= @List.flatten_cons
abbrev Vg:= @Sem.run_bind
abbrev Vh:= @Sem.run_pure
abbrev Vi:= @cond_true
abbrev Vj:= @cond_false
abbrev Vk:= @decide_eq_true_eq
abbrev Vl:= @if_neg
abbrev Vm:= @if_pos
abbrev Vn:= @decide_eq_true
abbrev Vp:= @of_decide_eq_true
abbrev Vq:= @of_decide_eq_false
abbrev Vr:= @decide_eq_false
abbrev Vs:= @beq_iff_eq
abbrev Vt:= @beq_eq_false_iff_ne
abbrev Vu:= @Bool.true_and
abbrev Vv:= @List.mem_singleton
abbrev Vw:= @Nat.lt_or_ge
abbrev Vx:= @List.mem_append
abbrev Vy:= @List.pairwise_iff_getElem
abbrev Vz:= @Nat.beq_refl
abbrev VA:= @List.mem_map_of_mem
abbrev VB:= @List.mem_of_getElem?
abbrev VC:= @List.take_of_length_le
abbrev VD:= @List.length_eq_zero_iff
abbrev VE:= @List.cons_append
abbrev VF:= @List.getD_eq_getElem?_getD
abbrev VG:= @Bool.eq_false_iff
abbrev VH:= @List.length_filter_le
def Qnj:Nat:=11
def nG:Nat:=12
def Qlk:List (List Int):=[[1,9999],[-1099511627776,1099511627776],[0,1048576],[0,39],[0,255],[0,1099511627776],[0,255],[1,1048576],[0,1],[0,31],[1,1048576]]
theorem gOk:((List.range nG).all λb=>Nat.beq b Qnj|| !(Qlk.getD b []).isEmpty)=true:=by decide
theorem gLt:Nat.ble Qlk.length nG=true:=by decide
theorem Qrq:Nat.blt Qnj nG=true:=by decide
structure GP (w:World):Prop where
 max:∃m:Int,w.cell? ⟨Qnj,0,none⟩=some (.int .i64 m)
 tab:∀(g:Nat) (zs:List Int),Qlk[g]?=some zs->∀(i:Nat) (z:Int),zs[i]?=some z->w.cell? ⟨g,i,none⟩=some (.int .i64 z)
theorem GP.keep{w w':World}(h:∀b,b<nG->w'.heap[b]?=w.heap[b]?)(g:GP w):GP w':=by
 obtain⟨m,f⟩:=g.max;refine⟨⟨m,?_⟩,λd e a i z j=>?_⟩
 .rw[<- f];unfold World.cell?;rw[h Qnj (by simpa using Qrq)]
 .rw[<- g.tab d e a i z j];unfold World.cell?;have k:=(XI.1 a).1;have l:Qlk.length<=nG:=by simpa using gLt
  rw[h d (by omega)]
theorem QhZ{w:World}{b i:Nat}{v:Value}(h:w.cell? ⟨b,i,none⟩=some v):b<w.heap.size:=by
 cases e:w.heap[b]? with
 |none=>simp[World.cell?,e]at h
 |some o=>exact(X7.1 e).1
theorem GP.size{w:World}(g:GP w)(b:Nat)(f:b<nG):b<w.heap.size:=by
 have h:=Xs.1 gOk b (List.mem_range.2 f);rw[Bool.or_eq_true]at h;rcases h with h|h
 .obtain⟨m,d⟩:=g.max;rw[XN h];exact QhZ d
 .cases e:Qlk[b]? with
  |none=>rw[VF,e]at h;simp at h
  |some a=>
   cases a with
   |nil=>rw[VF,e]at h;simp at h
   |cons z a=>exact QhZ (g.tab b _ e 0 z rfl)
inductive A where
 |any
 |bool (b:Bool)
 |int (k:IntKind) (n:Int)
 |str (s:List UInt8)
 |nilp
 |ptr (i off:Nat)
 |rp (cs:List A)
 |nils
 |rsl (k:Nat) (es:List (List A))
 |osl (i o n k:Nat)
 |agg (cs:List A)
 |fn (f:Fn) (first cap:List A)
 |nilf
 |iface (t:Nat) (v:A)
 |nilif
 |map (i:Nat)
 |nilm
 |tup (vs:List A)
abbrev Sig:=List (Option Nat)
def Qz:Value->Prop
 |.agg _|.tuple _=>False
 |_=>True
mutual
def VR(ro:Nat->Prop)(σ:Sig)(w:World):A->Value->Prop
 |.any,_=>True
 |.bool b,v=>v=.bool b
 |.int k n,v=>v=.int k n
 |.str s,v=>v=.string ⟨s.toArray⟩
 |.nilp,v=>v=.pointer none
 |.ptr i off,v=>∃b,σ[i]?=some (some b)/\v=.pointer (some ⟨b,off,none⟩)
 |.rp cs,v=>∃b off,v=.pointer (some ⟨b,off,none⟩)/\ro b/\CR ro [] w b cs off
 |.nils,v=>v=.slice none 0 0
 |.rsl k es,v=>∃a cap,v=.slice a es.length cap/\es.length<=cap/\
   (es=[]\/ ∃b off,a=some ⟨b,off,none⟩/\ro b/\RR ro [] w b k es off)
 |.osl i o n k,v=>(n=0/\v=.slice none 0 0)\/
   ∃b p cap t m,σ[i]?=some (some b)/\v=.slice (some ⟨b,p,none⟩) n cap/\(0<cap->p=o*k)/\(n<=cap/\cap<=9223372036854775807)/\w.shape? b=some (t,m)/\(o+cap)*k<=m
 |.agg cs,v=>∃l:List Value,v=.agg l.toArray/\LR ro σ w cs l
 |.fn f first cap,v=>∃l l':List Value,v=.func f l.toArray l'.toArray/\LR ro σ w first l/\LR ro σ w cap l'
 |.nilf,v=>v=.nilFunc
 |.iface t a,v=>∃x,v=.iface t x/\VR ro σ w a x
 |.nilif,v=>v=.nilIface
 |.map i,v=>∃b,σ[i]?=some (some b)/\v=.map (some b)
 |.nilm,v=>v=.map none
 |.tup vs,v=>∃l:List Value,v=.tuple l.toArray/\LR ro σ w vs l
def CR(ro:Nat->Prop)(σ:Sig)(w:World)(b:Nat):List A->Nat->Prop
 |[],_=>True
 |a::r,off=>(∃v,w.cell? ⟨b,off,none⟩=some v/\Qz v/\VR ro σ w a v)/\CR ro σ w b r (off+1)
def RR(ro:Nat->Prop)(σ:Sig)(w:World)(b k:Nat):List (List A)->Nat->Prop
 |[],_=>True
 |cs::r,off=>cs.length=k/\CR ro σ w b cs off/\RR ro σ w b k r (off+k)
def LR(ro:Nat->Prop)(σ:Sig)(w:World):List A->List Value->Prop
 |[],l=>l=[]
 |a::r,l=>∃v l',l=v::l'/\VR ro σ w a v/\LR ro σ w r l'
end
structure Ext (ro:Nat->Prop) (σ:Sig) (w:World) (ro':Nat->Prop) (σ':Sig) (w':World):Prop where
 sub:∀b,ro b->ro' b
 keep:∀b,ro b->w'.heap[b]?=w.heap[b]?
 shape:∀b x,w.shape? b=some x->w'.shape? b=some x
 sig:∀(i b:Nat),σ[i]?=some (some b)->σ'[i]?=some (some b)
theorem Qh0{w w':World}{b off:Nat}(h:w'.heap[b]?=w.heap[b]?):w'.cell? ⟨b,off,none⟩=w.cell? ⟨b,off,none⟩:=by
 simp[World.cell?,h]
theorem Ext.nil{ro ro':Nat->Prop}{σ σ':Sig}{w w':World}(h:Ext ro σ w ro' σ' w'):Ext ro [] w ro' [] w':=
 ⟨h.sub,h.keep,h.shape,λ_ _ q=>q⟩
mutual
theorem VR.mono{ro ro':Nat->Prop}{w w':World}:∀{a:A} {σ σ':Sig} {v:Value},Ext ro σ w ro' σ' w'->VR ro σ w a v->VR ro' σ' w' a v
 |.any,_,_,_,h,_=>trivial
 |.bool b,_,_,v,h,q=>q
 |.int k n,_,_,v,h,q=>q
 |.str s,_,_,v,h,q=>q
 |.nilp,_,_,v,h,q=>q
 |.ptr i off,_,_,v,h,q=>by
  simp only[VR]at q⊢;obtain⟨b,h1,h2⟩:=q;exact⟨b,h.sig _ _ h1,h2⟩
 |.rp cs,_,_,v,h,q=>by
  simp only[VR]at q⊢;obtain⟨b,off,h1,h2,h3⟩:=q;exact⟨b,off,h1,h.sub _ h2,CR.mono h.nil h2 h3⟩
 |.nils,_,_,v,h,q=>q
 |.rsl k es,_,_,v,h,q=>by
  simp only[VR]at q⊢;obtain⟨a,cap,h1,h2,h3⟩:=q;refine⟨a,cap,h1,h2,?_⟩;rcases h3 with h3|⟨b,off,h4,h5,h6⟩
  .exact .inl h3
  .exact .inr ⟨b,off,h4,h.sub _ h5,RR.mono h.nil h5 h6⟩
 |.osl i o n k,_,_,v,h,q=>by
  simp only[VR]at q⊢;rcases q with q|⟨b,p,cap,t,m,h1,h2,h6,h3,h4,h5⟩
  .exact .inl q
  .exact .inr ⟨b,p,cap,t,m,h.sig _ _ h1,h2,h6,h3,h.shape _ _ h4,h5⟩
 |.agg cs,_,_,v,h,q=>by
  simp only[VR]at q⊢;obtain⟨l,h1,h2⟩:=q;exact⟨l,h1,LR.mono h h2⟩
 |.fn f a c,_,_,v,h,q=>by
  simp only[VR]at q⊢;obtain⟨l,l',h1,h2,h3⟩:=q;exact⟨l,l',h1,LR.mono h h2,LR.mono h h3⟩
 |.nilf,_,_,v,h,q=>q
 |.iface t a,_,_,v,h,q=>by
  simp only[VR]at q⊢;obtain⟨x,h1,h2⟩:=q;exact⟨x,h1,VR.mono h h2⟩
 |.nilif,_,_,v,h,q=>q
 |.map i,_,_,v,h,q=>by
  simp only[VR]at q⊢;obtain⟨b,h1,h2⟩:=q;exact⟨b,h.sig _ _ h1,h2⟩
 |.nilm,_,_,v,h,q=>q
 |.tup vs,_,_,v,h,q=>by
  simp only[VR]at q⊢;obtain⟨l,h1,h2⟩:=q;exact⟨l,h1,LR.mono h h2⟩
theorem CR.mono{ro ro':Nat->Prop}{w w':World}:∀{cs:List A} {σ σ':Sig} {b off:Nat},Ext ro σ w ro' σ' w'->ro b->CR ro σ w b cs off->CR ro' σ' w' b cs off
 |[],_,_,_,_,_,_,_=>trivial
 |a::r,_,_,b,off,h,hb,q=>by
  simp only[CR]at q⊢;obtain⟨⟨v,h1,hp,h2⟩,h3⟩:=q;exact⟨⟨v,by rw[Qh0 (h.keep _ hb)];exact h1,hp,VR.mono h h2⟩,CR.mono h hb h3⟩
theorem RR.mono{ro ro':Nat->Prop}{w w':World}:∀{es:List (List A)} {σ σ':Sig} {b k off:Nat},Ext ro σ w ro' σ' w'->ro b->RR ro σ w b k es off->RR ro' σ' w' b k es off
 |[],_,_,_,_,_,_,_,_=>trivial
 |cs::r,_,_,b,k,off,h,hb,q=>by
  simp only[RR]at q⊢;obtain⟨h1,h2,h3⟩:=q;exact⟨h1,CR.mono h hb h2,RR.mono h hb h3⟩
theorem LR.mono{ro ro':Nat->Prop}{w w':World}:∀{az:List A} {σ σ':Sig} {l:List Value},Ext ro σ w ro' σ' w'->LR ro σ w az l->LR ro' σ' w' az l
 |[],_,_,_,h,q=>q
 |a::r,_,_,l,h,q=>by
  simp only[LR]at q⊢;obtain⟨v,l',h1,h2,h3⟩:=q;exact⟨v,l',h1,VR.mono h h2,LR.mono h h3⟩
end
structure Ent where
 fl:Bool
 off:Nat
 lo:Int
 hi:Int
def eC(b1 b2:Nat)(e:Ent):List A:=[.ptr (bif e.fl then b2 else b1) e.off,.int .i64 e.lo,.int .i64 e.hi]
inductive Blk where
 |dead
 |cells (t:Nat) (cs:List A)
 |row (t k:Nat) (es:List (List A))
 |rowr (t k:Nat) (es:List (List A))
 |map (es:List (A×A))
 |iter (cur:Option (A×A)) (es:List (A×A))
 |fmap (es:List (A×A))
 |ents (t b1 b2:Nat) (es:List Ent)
 |mapO (fz:Bool) (t k:Nat) (es:List (A×Option (List (List A))))
 |mapP (es:List (A×A))
 |frow (t k:Nat) (es:List (List A))
def Blk.live:Blk->Bool
 |.dead=>false
 |.fmap _=>false
 |.frow _ _ _=>false
 |.mapO fz _ _ _=> !fz
 |_=>true
def Blk.held:Blk->Bool
 |.mapO fz _ _ _=>fz
 |_=>false
def Blk.holds(x:Blk):Bool:=x.live||x.held
theorem Qav{x:Blk}(h:x.live=true):x≠ .dead:=by rintro rfl;cases h
theorem QfB{x:Blk}(h:x.holds=true):x≠ .dead:=by rintro rfl;cases h
theorem QaH{x:Blk}(h:x.live=true):x.holds=true:=by unfold Blk.holds;rw[h];rfl
abbrev Qb:=List Blk
def ER(ro:Nat->Prop)(σ:Sig)(w:World):List (A×A)->List MapEntry->Prop
 |[],l=>l=[]
 |x::r,l=>∃e l',l=e::l'/\VR ro σ w x.1 e.key/\VR ro σ w x.2 e.val/\ER ro σ w r l'
def ItR(ro:Nat->Prop)(w:World)(b:Nat)(cur:Option (A×A))(es:List (A×A)):Prop:=
 (es=[]/\cur=none/\w.heap[b]?=some (.mapIter none 0 #[] 0))\/
 ∃m l clock seen left,w.heap[b]?=some (.mapIter (some m) clock seen clock)/\ro m/\w.heap[m]?=some (.map l clock)/\(∀e∈l.toList,e.born<clock)/\(l.toList.map (·.born)).Nodup/\
  (left:List MapEntry).Perm (l.toList.filter λe=> !seen.contains e.born)/\ER ro [] w es left/\
  (∀x,cur=some x->∃e∈l.toList,seen.back? =some e.born/\VR ro [] w x.1 e.key/\VR ro [] w x.2 e.val)
def RL(ro:Nat->Prop)(σ:Sig)(w:World)(k:Nat):List (List A)->List Value->Prop
 |[],_=>True
 |c::es,l=>∃l1 l2,l=l1++l2/\c.length=k/\(LR ro σ w c l1/\ ∀v∈l1,Qz v)/\RL ro σ w k es l2
theorem RL.mono{ro ro':Nat->Prop}{σ σ':Sig}{w w':World}(h:Ext ro σ w ro' σ' w'){k:Nat}:∀{es:List (List A)} {l:List Value},RL ro σ w k es l->RL ro' σ' w' k es l
 |[],_,_=>trivial
 |c::es,l,⟨l1,l2,h1,h2,h3,h4⟩=>⟨l1,l2,h1,h2,⟨h3.1.mono h,h3.2⟩,RL.mono h h4⟩
def SO(ro:Nat->Prop)(w:World)(t k:Nat)(rows:List (List A))(v:Value):Prop:=
 (rows=[]/\v=.slice none 0 0)\/ ∃(c p cap:Nat) (vs:List Value),v=.slice (some ⟨c,p,none⟩) rows.length cap/\(rows.length<=cap/\cap<=9223372036854775807)/\w.heap[c]?=some (.cells vs.toArray t (0,0))/\cap*k<=vs.length/\RL ro [] w k rows vs/\(0<cap->p=0)
def MO(ro:Nat->Prop)(w:World)(t k:Nat):List (A×Option (List (List A)))->List MapEntry->Prop
 |[],l=>l=[]
 |x::r,l=>∃e l',l=e::l'/\VR ro [] w x.1 e.key/\(∀rows,x.2=some rows->SO ro w t k rows e.val)/\MO ro w t k r l'
def Qfm:List (A×Option (List (List A)))->List MapEntry->Nat->Prop
 |x::r,e::l,c=>(x.2.isSome=true/\ ∃p n cap,e.val=.slice (some ⟨c,p,none⟩) n cap)\/Qfm r l c
 |_,_,_=>False
def Ql3:List (A×Option (List (List A)))->List MapEntry->Prop
 |x::r,e::l=>(∀c,x.2.isSome=true->(∃p n cap,e.val=.slice (some ⟨c,p,none⟩) n cap)->¬Qfm r l c)/\Ql3 r l
 |_,_=>True
def Hid(w:World):Blk->Nat->Nat->Prop
 |.mapO _ _ _ es,b,c=>∃l clock,w.heap[b]?=some (.map l clock)/\Qfm es l.toList c
 |_,_,_=>False
theorem Hid.keep{w w':World}{x:Blk}{b c:Nat}(h:w'.heap[b]?=w.heap[b]?)(q:Hid w' x b c):Hid w x b c:=by
 cases x with
 |mapO fz t k f=>obtain⟨l,d,e,a⟩:=q;exact⟨l,d,by grind,a⟩
 |_=>exact q.elim
theorem Hid.holds{w:World}{x:Blk}{b c:Nat}(q:Hid w x b c):x.holds=true:=by
 cases x with
 |mapO fz t k a=>cases fz<;>rfl
 |_=>exact q.elim
theorem MO.mono{ro ro':Nat->Prop}{σ σ':Sig}{w w':World}(h:Ext ro σ w ro' σ' w'){t k:Nat}:∀{es:List (A×Option (List (List A)))} {l:List MapEntry},(∀c,Qfm es l c->w'.heap[c]?=w.heap[c]?)->MO ro w t k es l->MO ro' w' t k es l
 |[],_,_,q=>q
 |x::r,_,hh,⟨e,l',h1,h2,h3,h4⟩=>by
  subst h1;refine⟨e,l',rfl,h2.mono h.nil,λrows hr=>?_,MO.mono h (λc hc=>hh c (.inr hc)) h4⟩;rcases h3 rows hr with q|⟨c,p,cap,vs,q1,q2,q3,q4,q5,q6⟩
  .exact .inl q
  .exact .inr ⟨c,p,cap,vs,q1,q2,by rw[hh c (.inl (by grind))];exact q3,q4,q5.mono h.nil,q6⟩
theorem MO.cells{ro:Nat->Prop}{w:World}{t k:Nat}:∀{es:List (A×Option (List (List A)))} {l:List MapEntry} {c:Nat},MO ro w t k es l->Qfm es l c->∃vs:Array Value,w.heap[c]?=some (.cells vs t (0,0))
 |[],l,c,h,q=>by cases l<;>exact q.elim
 |x::r,_,c,⟨e,l',h1,h2,h3,h4⟩,q=>by
  subst h1;rcases q with⟨q1,p,n,cap,q2⟩|q
  .obtain⟨rows,hr⟩:=Option.isSome_iff_exists.1 q1;rcases h3 rows hr with⟨_,z⟩|⟨c',p',cap',vs,z1,z2,z3,z4,z5,z6⟩
   .grind
   grind
  .exact MO.cells h4 q
def Born(l:Array MapEntry)(clock:Nat):Prop:=clock=l.size/\ ∀(i:Nat) (e:MapEntry),l.toList[i]?=some e->e.born=i
theorem Born.modify{l:Array MapEntry}{a j:Nat}{f:MapEntry->MapEntry}(h:Born l a)(m:∀e,(f e).born=e.born):Born (l.modify j f) a:=by
 obtain⟨d,k⟩:=h;refine⟨by simp[d],λi g q=>?_⟩
 grind
def BR(ro:Nat->Prop)(σ:Sig)(w:World):Blk->Option Nat->Prop
 |.dead,_=>True
 |.cells t cs,some b=>∃l:List Value,w.heap[b]?=some (.cells l.toArray t (0,0))/\LR ro σ w cs l/\ ∀v∈l,Qz v
 |.row t k es,some b=>∃l:List Value,w.heap[b]?=some (.cells l.toArray t (0,0))/\RL ro [] w k es l
 |.rowr t k es,some b=>∃l:List Value,w.heap[b]?=some (.cells l.toArray t (0,0))/\RL ro σ w k es l
 |.row _ _ es,none=>es=[]
 |.ents t b1 b2 es,some b=>∃l:List Value,w.heap[b]?=some (.cells l.toArray t (0,0))/\RL ro σ w 3 (es.map (eC b1 b2)) l
 |.ents _ _ _ es,none=>es=[]
 |.map es,some b=>∃l clock,w.heap[b]?=some (.map l clock)/\ER ro [] w es l.toList/\
   (∀e∈l.toList,e.born<clock)/\(l.toList.map (·.born)).Nodup/\(l.toList.map (·.key)).Nodup
 |.mapP es,some b=>∃l clock,w.heap[b]?=some (.map l clock)/\ER ro σ w es l.toList/\
   (∀e∈l.toList,e.born<clock)/\(l.toList.map (·.born)).Nodup/\(l.toList.map (·.key)).Nodup
 |.frow t k es,some b=>ro b/\ ∃l:List Value,w.heap[b]?=some (.cells l.toArray t (0,0))/\RL ro [] w k es l/\l.length=es.length*k
 |.iter cur es,some b=>ItR ro w b cur es
 |.mapO fz t k es,some b=>(fz=true->ro b)/\ ∃l clock,w.heap[b]?=some (.map l clock)/\MO ro w t k es l.toList/\Ql3 es l.toList/\
   (∀e∈l.toList,e.born<clock)/\(l.toList.map (·.born)).Nodup/\(l.toList.map (·.key)).Nodup/\Born l clock
 |.fmap es,some b=>ro b/\ ∃l clock,w.heap[b]?=some (.map l clock)/\ER ro [] w es l.toList/\
   (∀e∈l.toList,e.born<clock)/\(l.toList.map (·.born)).Nodup/\(l.toList.map (·.key)).Nodup
 |_,none=>False
structure RoOk (ro:Nat->Prop) (w:World):Prop where
 lt:∀b,ro b->b<w.heap.size
 g:∀b,b<nG->ro b
 gp:GP w
theorem RoOk.to{ro ro':Nat->Prop}{w w':World}(h:RoOk ro w)(sub:∀b,ro b->ro' b)(keep:∀b,ro b->w'.heap[b]?=w.heap[b]?)(lt:∀b,ro' b->b<w'.heap.size):RoOk ro' w':=
 ⟨lt,λb hb=>sub b (h.g b hb),h.gp.keep λb hb=>keep b (h.g b hb)⟩
structure QqV (fr ro:Nat->Prop) (σ:Sig) (H:Qb) (w:World) (i0 b0 c:Nat):Prop where
 lt:c<w.heap.size
 ro:¬ro c
 fr:¬fr c
 ne:∀(j b:Nat) (y:Blk),σ[j]?=some (some b)->H[j]?=some y->y.live=true->c≠b
 one:∀(j b:Nat) (y:Blk),σ[j]?=some (some b)->H[j]?=some y->Hid w y b c->b=b0/\j=i0
structure Sim (fr ro:Nat->Prop) (σ:Sig) (H:Qb) (w:World):Prop where
 len:σ.length=H.length
 roOk:RoOk ro w
 frLt:∀b,fr b->b<w.heap.size
 roFr:∀b,ro b->¬fr b
 own:∀(i b:Nat) (blk:Blk),σ[i]?=some (some b)->H[i]?=some blk->blk.live=true->b<w.heap.size/\ ¬ro b/\ ¬fr b
 inj:∀(i j b:Nat) (x y:Blk),σ[i]?=some (some b)->σ[j]?=some (some b)->H[i]?=some x->H[j]?=some y->x.live=true->y.live=true->i=j
 blk:∀(i:Nat) (s:Option Nat) (x:Blk),σ[i]?=some s->H[i]?=some x->BR ro σ w x s
 hid:∀(i b:Nat) (x:Blk) (c:Nat),σ[i]?=some (some b)->H[i]?=some x->Hid w x b c->QqV fr ro σ H w i b c
theorem Sim.roHeld{fr ro:Nat->Prop}{σ:Sig}{H:Qb}{w:World}(s:Sim fr ro σ H w){i b:Nat}{x:Blk}(d:σ[i]?=some (some b))(e:H[i]?=some x)(a:x.held=true):ro b:=by
 have h:=s.blk i _ x d e;cases x with
 |mapO fz t k f=>exact h.1 a
 |_=>cases a
theorem Sim.hidKeep{fr ro:Nat->Prop}{σ:Sig}{H:Qb}{w w':World}(s:Sim fr ro σ H w){i b c:Nat}{x:Blk}(d:σ[i]?=some (some b))(f:H[i]?=some x)
  (hl:x.live=true->w'.heap[b]?=w.heap[b]?)(e:∀b,ro b->w'.heap[b]?=w.heap[b]?)(q:Hid w' x b c):Hid w x b c:=by
 refine q.keep ?_;have h:=q.holds;cases a:x.live with
 |true=>exact hl a
 |false=>unfold Blk.holds at h;rw[a]at h;exact e b (s.roHeld d f h)
theorem Sim.hidTo{fr n ro ro':Nat->Prop}{σ σ':Sig}{H H':Qb}{w w':World}(s:Sim fr ro σ H w)(R:Nat->Nat->Prop)(hR:∀j j' a,R j a->R j' a->j=j')(t:w.heap.size<=w'.heap.size)
  (P:∀(i b:Nat) (x:Blk) (c:Nat),σ[i]?=some (some b)->H[i]?=some x->Hid w x b c->ro' c->ro c)
  (Q:∀(i b:Nat) (x:Blk) (c:Nat),σ[i]?=some (some b)->H[i]?=some x->Hid w x b c->n c->fr c)
  (h:∀(j d:Nat) (y:Blk),σ'[j]?=some (some d)->H'[j]?=some y->y.holds=true->
   (∃(a:Nat) (m:Blk),R j a/\σ[a]?=some (some d)/\H[a]?=some m/\(y.live=true->m.live=true)/\ ∀c,Hid w' y d c->Hid w m d c)\/(w.heap.size<=d/\ ∀c,Hid w' y d c->False)):
  ∀(i b:Nat) (x:Blk) (c:Nat),σ'[i]?=some (some b)->H'[i]?=some x->Hid w' x b c->QqV n ro' σ' H' w' i b c:=by
 intro i b x c G L F;rcases h i b x G L F.holds with⟨a,m,X,O,N,W,M⟩|⟨_,g⟩
 .have k:=s.hid a b m c O N (M c F);refine⟨X9 k.lt t,λq=>k.ro (by grind),λq=>k.fr (by grind),λj d y u p l=>?_,λj d y u p l=>?_⟩
  .rcases h j d y u p (QaH l)with⟨B,y1,_,z,r,E,_⟩|⟨f,_⟩
   .exact k.ne B d y1 z r (E l)
   .exact λe=>by have:=k.lt;omega
  .rcases h j d y u p l.holds with⟨B,y1,V,z,r,E,J⟩|⟨_,f⟩
   .obtain⟨Y,T⟩:=k.one B d y1 z r (J c l)
    grind
   grind
 grind
theorem Q9(j j' j0:Nat)(h:j=j0)(h':j'=j0):j=j':=h.trans h'.symm
theorem Sim.roLt{fr ro:Nat->Prop}{σ:Sig}{H:Qb}{w:World}(s:Sim fr ro σ H w):∀b,ro b->b<w.heap.size:=s.roOk.lt
structure Qk (fr ro:Nat->Prop) (w:World) (ro':Nat->Prop) (w':World):Prop where
 sub:∀b,ro b->ro' b
 keepRo:∀b,ro b->w'.heap[b]?=w.heap[b]?
 keepFr:∀b,fr b->w'.heap[b]?=w.heap[b]?
 size:w.heap.size<=w'.heap.size
 shape:∀b x,w.shape? b=some x->w'.shape? b=some x
 os:w'.os=w.os
 tape:w'.tape=w.tape
 output:w'.output=w.output
 drawn:w.drawn<=w'.drawn
theorem Qk.refl(fr ro:Nat->Prop)(w:World):Qk fr ro w ro w:=
 ⟨λ_ h=>h,λ_ _=>rfl,λ_ _=>rfl,XQ _,λ_ _ h=>h,rfl,rfl,rfl,XQ _⟩
theorem Qk.trans{fr ro ro1 ro2:Nat->Prop}{w w1 w2:World}(h:Qk fr ro w ro1 w1)(k:Qk fr ro1 w1 ro2 w2):Qk fr ro w ro2 w2:=
 ⟨λb q=>k.sub _ (h.sub _ q),λb q=>(k.keepRo _ (h.sub _ q)).trans (h.keepRo _ q),λb q=>(k.keepFr _ q).trans (h.keepFr _ q),
  XS h.size k.size,λb x q=>k.shape _ _ (h.shape _ _ q),k.os.trans h.os,k.tape.trans h.tape,k.output.trans h.output,XS h.drawn k.drawn⟩
theorem QaN{σ τ:Sig}{i b:Nat}(h:σ[i]?=some (some b)):(σ++τ)[i]?=some (some b):=by
 grind
theorem Qk.ext{fr ro ro':Nat->Prop}{w w':World}(h:Qk fr ro w ro' w')(σ τ:Sig):Ext ro σ w ro' (σ++τ) w':=
 ⟨h.sub,h.keepRo,h.shape,λ_ _=>QaN⟩
theorem Qk.ext0{fr ro ro':Nat->Prop}{w w':World}(h:Qk fr ro w ro' w')(σ:Sig):Ext ro σ w ro' σ w':=
 ⟨h.sub,h.keepRo,h.shape,λ_ _ q=>q⟩
theorem ER.mono{ro ro':Nat->Prop}{σ σ':Sig}{w w':World}(h:Ext ro σ w ro' σ' w'):∀{es:List (A×A)} {l:List MapEntry},ER ro σ w es l->ER ro' σ' w' es l
 |[],_,q=>q
 |x::r,l,q=>by
  obtain⟨e,l',h1,h2,h3,h4⟩:=q;exact⟨e,l',h1,h2.mono h,h3.mono h,ER.mono h h4⟩
theorem ItR.keep{ro ro':Nat->Prop}{σ σ':Sig}{w w':World}(h:Ext ro σ w ro' σ' w'){b:Nat}(E:w'.heap[b]?=w.heap[b]?){f:Option (A×A)}{es:List (A×A)}
  (q:ItR ro w b f es):ItR ro' w' b f es:=by
 rcases q with⟨i,g,j⟩|⟨m,l,a,d,left,i,g,j,p,y,u,k,B⟩
 .exact .inl ⟨i,g,by grind⟩
 .refine .inr ⟨m,l,a,d,left,by grind,h.sub _ g,by rw[h.keep _ g];exact j,p,y,u,k.mono h.nil,λx t=>?_⟩;obtain⟨e,n,s,z,r⟩:=B x t;exact⟨e,n,s,z.mono h.nil,r.mono h.nil⟩
theorem CR.keep{ro ro':Nat->Prop}{σ σ':Sig}{w w':World}(h:Ext ro σ w ro' σ' w'){b:Nat}(hb:w'.heap[b]?=w.heap[b]?):
  ∀{cs:List A} {off:Nat},CR ro σ w b cs off->CR ro' σ' w' b cs off
 |[],_,_=>trivial
 |a::r,off,q=>by
  obtain⟨⟨v,h1,hp,h2⟩,h3⟩:=q;exact⟨⟨v,by rw[Qh0 hb];exact h1,hp,h2.mono h⟩,CR.keep h hb h3⟩
theorem RR.keep{ro ro':Nat->Prop}{σ σ':Sig}{w w':World}(h:Ext ro σ w ro' σ' w'){b:Nat}(hb:w'.heap[b]?=w.heap[b]?){k:Nat}:
  ∀{es:List (List A)} {off:Nat},RR ro σ w b k es off->RR ro' σ' w' b k es off
 |[],_,_=>trivial
 |cs::r,off,q=>by
  obtain⟨h1,h2,h3⟩:=q;exact⟨h1,CR.keep h hb h2,RR.keep h hb h3⟩
theorem BR.keep{ro ro':Nat->Prop}{σ σ':Sig}{w w':World}(h:Ext ro σ w ro' σ' w'){x:Blk}{s:Option Nat}
  (i:∀b,s=some b->x.live=true->w'.heap[b]?=w.heap[b]?)(q:BR ro σ w x s)(m:∀b c,s=some b->Hid w x b c->w'.heap[c]?=w.heap[c]?):BR ro' σ' w' x s:=by
 cases x with
 |mapO fz t k j=>
  cases s with
  |none=>exact q
  |some b=>
   obtain⟨g,l,c,a,e,f⟩:=q;refine⟨λz=>h.sub b (g z),l,c,?_,e.mono h (λd n=>m b d rfl ⟨l,c,a,n⟩),f⟩;cases fz with
   |false=>rw[i b rfl rfl];exact a
   |true=>rw[h.keep b (g rfl)];exact a
 |dead=>trivial
 |cells t r=>
  cases s with
  |none=>exact q
  |some b=>
   obtain⟨l,a,e,f⟩:=q;exact⟨l,by rw[i b rfl rfl];exact a,e.mono h,f⟩
 |row t k j=>
  cases s with
  |none=>exact q
  |some b=>
   obtain⟨l,a,e⟩:=q;exact⟨l,by rw[i b rfl rfl];exact a,e.mono h.nil⟩
 |rowr t k j=>
  cases s with
  |none=>exact q.elim
  |some b=>
   obtain⟨l,a,e⟩:=q;exact⟨l,by rw[i b rfl rfl];exact a,e.mono h⟩
 |ents t y u j=>
  cases s with
  |none=>exact q
  |some b=>
   obtain⟨l,a,e⟩:=q;exact⟨l,by rw[i b rfl rfl];exact a,e.mono h⟩
 |map j=>
  cases s with
  |none=>exact q
  |some b=>
   obtain⟨l,c,a,e,f⟩:=q;exact⟨l,c,by rw[i b rfl rfl];exact a,e.mono h.nil,f⟩
 |mapP j=>
  cases s with
  |none=>exact q
  |some b=>
   obtain⟨l,c,a,e,f⟩:=q;exact⟨l,c,by rw[i b rfl rfl];exact a,e.mono h,f⟩
 |frow t k j=>
  cases s with
  |none=>exact q
  |some b=>
   obtain⟨g,l,a,e,f⟩:=q;exact⟨h.sub b g,l,by rw[h.keep b g];exact a,e.mono h.nil,f⟩
 |iter p j=>
  cases s with
  |none=>exact q
  |some b=>exact ItR.keep h (i b rfl rfl) q
 |fmap j=>
  cases s with
  |none=>exact q
  |some b=>
   obtain⟨g,l,c,a,e,f⟩:=q;exact⟨h.sub b g,l,c,by rw[h.keep b g];exact a,e.mono h.nil,f⟩
abbrev Env:=List (Nat×A)
def lk:Env->Nat->A
 |[],_=>.any
 |(d,a)::r,s=>bif Nat.beq s d then a else lk r s
abbrev up(env:Env)(d:Nat)(a:A):Env:=(d,a)::env
inductive AEx where
 |normal|exit (id:Nat)|ret
abbrev QV:=AEx->Env->Qb->Prop
def Qc1(fr:Nat->Prop)(ds:List Deferred)(w:World):Prop:=ds.Nodup/\ ∀d∈ds,∃D,d={target:=.collected D,args:= #[]}/\fr D/\w.heap[D]?=some (.deferred (some []))
theorem Qc1.keep{fr ro ro':Nat->Prop}{a:List Deferred}{w w':World}(h:Qc1 fr a w)(k:Qk fr ro w ro' w'):Qc1 fr a w':=by
 refine⟨h.1,λd i=>?_⟩;obtain⟨D,f,e,g⟩:=h.2 d i;exact⟨D,f,e,(k.keepFr D e).trans g⟩
structure Grow (fr:Nat->Prop) (w:World) (ds:List Deferred) (fr':Nat->Prop) (ds':List Deferred):Prop where
 sub:∀b,fr b->fr' b
 new:∀b,fr' b->fr b\/w.heap.size<=b
 ds:∀d∈ds',d∈ds\/ ∃D,d={target:=.collected D,args:= #[]}/\w.heap.size<=D
theorem Grow.refl(fr:Nat->Prop)(w:World)(ds:List Deferred):Grow fr w ds fr ds:=⟨λ_ h=>h,λ_ h=>.inl h,λ_ h=>.inl h⟩
theorem Grow.trans{fr f g:Nat->Prop}{w i:World}{ds e a:List Deferred}(h:Grow fr w ds f e)(l:w.heap.size<=i.heap.size)(k:Grow f i e g a):Grow fr w ds g a:=by
 refine⟨λb q=>k.sub b (h.sub b q),λb q=>?_,λd q=>?_⟩
 .rcases k.new b q with q|q
  .exact h.new b q
  omega
 .rcases k.ds d q with q|⟨D,j,m⟩
  .exact h.ds d q
  grind
theorem Qk.frMono{fr fr' ro ro':Nat->Prop}{w w':World}(h:Qk fr' ro w ro' w')(s:∀b,fr b->fr' b):Qk fr ro w ro' w':=
 ⟨h.sub,h.keepRo,λb q=>h.keepFr b (s b q),h.size,h.shape,h.os,h.tape,h.output,h.drawn⟩
theorem Sim.frMono{fr fr' ro:Nat->Prop}{σ:Sig}{H:Qb}{w:World}(h:Sim fr' ro σ H w)(s:∀b,fr b->fr' b):Sim fr ro σ H w:=
 ⟨h.len,h.roOk,λb q=>h.frLt b (s b q),λb q r=>h.roFr b q (s b r),λi b x q1 q2 q3=>let⟨a,b',c⟩:=h.own i b x q1 q2 q3;(by grind),h.inj,h.blk,λi b x c q1 q2 q3=>let k:=h.hid i b x c q1 q2 q3;⟨k.lt,k.ro,λq=>k.fr (s c q),k.ne,k.one⟩⟩
structure Rel (fr ro:Nat->Prop) (σ:Sig) (H:Qb) (env:Env) (N:Nat) (a:Act) (w:World):Prop where
 sim:Sim fr ro σ H w
 env:∀s,VR ro σ w (lk env s) (a.tmps.getD s undef)
 size:a.tmps.size=N
 defers:Qc1 fr a.defers w
def QeH(rd:Option Nat)(fr:Nat->Prop)(w:World):Prop:=∀l,rd=some l->fr l/\ ∃r,w.heap[l]?=some (.loop r)
theorem QeH.none{fr:Nat->Prop}{w:World}:QeH none fr w:=λl e=>by cases e
theorem QeH.to{rd:Option Nat}{fr fr' ro ro':Nat->Prop}{w w':World}(h:QeH rd fr w)(k:Qk fr ro w ro' w')(s:∀b,fr b->fr' b):QeH rd fr' w':=λl e=>by
 obtain⟨h1,r,h2⟩:=h l e;exact⟨s l h1,r,(k.keepFr l h1).trans h2⟩
def ExR:Exit->AEx->Prop
 |.normal,x=>x=.normal
 |.exit id,x=>x=.exit id
 |.ret,x=>x=.ret
 |_,_=>False
def QaW(h0:Nat)(fr ro:Nat->Prop)(σ:Sig)(w:World)(N:Nat)(ds:List Deferred)(Q:QV):Exit->Act->World->Prop:=
 λe a' w'=>∃x env' H' ro' σ' fr',ExR e x/\Q x env' H'/\Rel fr' ro' σ' H' env' N a' w'/\Qk fr ro w ro' w'/\σ'.take h0=σ.take h0/\Grow fr w ds fr' a'.defers
theorem QaW.grow{h0:Nat}{fr a ro f:Nat->Prop}{σ σ1:Sig}{w l:World}{N:Nat}{k g:List Deferred}{Q:QV}{e:Exit}{a':Act}{w':World}
  (h:QaW h0 a f σ1 l N g Q e a' w')(he:Qk fr ro w f l)(t:σ1.take h0=σ.take h0)(hg:Grow fr w k a g):QaW h0 fr ro σ w N k Q e a' w':=by
 obtain⟨x,d,H',i,σ',j,m,q,r,n,s,p⟩:=h;exact⟨x,d,H',i,σ',j,m,q,r,he.trans (n.frMono hg.sub),s.trans t,hg.trans he.size p⟩
theorem QaW.step{h0:Nat}{fr ro ro1:Nat->Prop}{σ σ1:Sig}{w w1:World}{N:Nat}{ds:List Deferred}{Q:QV}{e:Exit}{a':Act}{w':World}
  (h:QaW h0 fr ro1 σ1 w1 N ds Q e a' w')(he:Qk fr ro w ro1 w1)(hs:σ1.take h0=σ.take h0):QaW h0 fr ro σ w N ds Q e a' w':=h.grow he hs (Grow.refl _ _ _)
theorem QaW.mono{h0:Nat}{fr ro:Nat->Prop}{σ:Sig}{w:World}{N:Nat}{g:List Deferred}{Q Q':QV}{e:Exit}{a':Act}{w':World}
  (h:QaW h0 fr ro σ w N g Q e a' w')(l:∀x env H,Q x env H->Q' x env H):QaW h0 fr ro σ w N g Q' e a' w':=by
 obtain⟨x,a,H',d,σ',f,i,j,k⟩:=h;exact⟨x,a,H',d,σ',f,i,l _ _ _ j,k⟩
def Qb0(h0:Nat)(fr ro:Nat->Prop)(σ:Sig)(w:World)(N:Nat)(ds:List Deferred)(Q:QV):Exit->Act->World->Prop:=
 λe a' w'=>∃x env' H' ro' σ' fr',ExR e x/\Q x env' H'/\Rel fr' ro' σ' H' env' N a' w'/\Qk fr ro w ro' w'/\σ'.take h0=σ.take h0/\a'.defers=ds/\Grow fr w ds fr' ds
theorem Qb0.grow{h0:Nat}{fr a ro f:Nat->Prop}{σ σ1:Sig}{w k:World}{N:Nat}{g:List Deferred}{Q:QV}{e:Exit}{a':Act}{w':World}
  (h:Qb0 h0 a f σ1 k N g Q e a' w')(he:Qk fr ro w f k)(t:σ1.take h0=σ.take h0)(hg:Grow fr w g a g):Qb0 h0 fr ro σ w N g Q e a' w':=by
 obtain⟨x,d,H',i,σ',j,l,q,r,n,s,p,m⟩:=h;exact⟨x,d,H',i,σ',j,l,q,r,he.trans (n.frMono hg.sub),s.trans t,p,hg.trans he.size m⟩
theorem Qb0.step{h0:Nat}{fr ro ro1:Nat->Prop}{σ σ1:Sig}{w w1:World}{N:Nat}{ds:List Deferred}{Q:QV}{e:Exit}{a':Act}{w':World}
  (h:Qb0 h0 fr ro1 σ1 w1 N ds Q e a' w')(he:Qk fr ro w ro1 w1)(hs:σ1.take h0=σ.take h0):Qb0 h0 fr ro σ w N ds Q e a' w':=h.grow he hs (Grow.refl _ _ _)
theorem Qb0.mono{h0:Nat}{fr ro:Nat->Prop}{σ:Sig}{w:World}{N:Nat}{g:List Deferred}{Q Q':QV}{e:Exit}{a':Act}{w':World}
  (h:Qb0 h0 fr ro σ w N g Q e a' w')(l:∀x env H,Q x env H->Q' x env H):Qb0 h0 fr ro σ w N g Q' e a' w':=by
 obtain⟨x,a,H',d,σ',f,i,j,k⟩:=h;exact⟨x,a,H',d,σ',f,i,l _ _ _ j,k⟩
theorem Qb0.postW{h0:Nat}{fr ro:Nat->Prop}{σ:Sig}{w:World}{N:Nat}{g:List Deferred}{Q:QV}{e:Exit}{a':Act}{w':World}
  (h:Qb0 h0 fr ro σ w N g Q e a' w'):QaW h0 fr ro σ w N g Q e a' w':=by
 obtain⟨x,a,H',d,σ',f,i,k,l,j,m,p,n⟩:=h;exact⟨x,a,H',d,σ',f,i,k,l,j,m,by grind⟩
def WF(rd:Option Nat):Fence:={Fence.wide with round:=rd}
theorem WF.calls{rd:Option Nat}{P:Program}{f:FuncId}{args:Array Value}{w:World}{R:Ending->World->Prop}:CallsIn (WF rd) 0 P f args w R↔Calls P f args w R:=callsIn_wide
abbrev wpL(P:Program)(rd:Option Nat)(ops:Array Oper)(Q:Exit->Act->World->Prop):List Oper->Act->World->Prop:=wpListIn (WF rd) 0 P ops Q
def TC(P:Program)(h0 N:Nat)(c:Code)(env:Env)(H:Qb)(Q:QV):Prop:=
 ∀rd fr ro σ a w,Rel fr ro σ H env N a w->QeH rd fr w->c.wpIn (WF rd) 0 P (QaW h0 fr ro σ w N a.defers Q) a w
def WO(P:Program)(h0 N:Nat)(all:Array Oper)(l:List Oper)(env:Env)(H:Qb)(Q:QV):Prop:=
 ∀rd fr ro σ a w,Rel fr ro σ H env N a w->QeH rd fr w->wpL P rd all (Qb0 h0 fr ro σ w N a.defers Q) l a w
def Le(h0:Nat)(env:Env)(H:Qb)(env':Env)(H':Qb):Prop:=
 ∀fr ro σ N a w,Rel fr ro σ H env N a w->∃ro' σ',Rel fr ro' σ' H' env' N a w/\(∀b,ro b->ro' b)/\σ'.take h0=σ.take h0
theorem Le.refl(h0:Nat)(env:Env)(H:Qb):Le h0 env H env H:=λfr ro σ N a w h=>(by grind)
theorem Le.trans{h0:Nat}{i f g:Env}{H1 H2 H3:Qb}(h:Le h0 i H1 f H2)(k:Le h0 f H2 g H3):Le h0 i H1 g H3:=by
 intro e j σ N a w r;obtain⟨d,σ1,m,p,q⟩:=h e j σ N a w r;obtain⟨l,σ2,t,n,s⟩:=k e d σ1 N a w m
 grind
theorem YQ{fr ro ro':Nat->Prop}{w:World}(h:∀b,ro b->ro' b):Qk fr ro w ro' w:=
 ⟨h,λ_ _=>rfl,λ_ _=>rfl,XQ _,λ_ _ h=>h,rfl,rfl,rfl,XQ _⟩
theorem Yw{P:Program}{rd:Option Nat}{ops:Array Oper}{Q Q':Exit->Act->World->Prop}(hq:∀e a w,Q e a w->Q' e a w):
  ∀(l:List Oper) (a:Act) (w:World),wpL P rd ops Q l a w->wpL P rd ops Q' l a w
 |[],a,w,h=>hq _ _ _ h
 |o::l,a,w,h=>by
  unfold wpL wpListIn at h⊢;split
  .rename_i hw;rw[Vm hw]at h;obtain⟨h1,h2⟩:=h;refine⟨h1,?_⟩
   revert h2
   generalize(o.semAt (WF rd).round a.eval).run P w=r;intro h2;have hk:=λa w=>Yw (P:=P) (rd:=rd) (ops:=ops) hq l a w;cases r with
   |ok x w=>
    cases x with
    |value v=>exact hk _ _ h2
    |skip=>exact hk _ _ h2
    |defer d=>exact hk _ _ h2
    |enter f args=>
     refine⟨h2.1,CallsIn.mono h2.2 ?_⟩;intro e w' q;cases e with
     |returned v=>grind
     |panicked c=>grind
     |outgrown=>obtain⟨a,w,q⟩:=q;exact⟨a,w,hq _ _ _ q⟩
    |row r args=>exact⟨h2.1,RowsIn.mono h2.2 λv w' q=>hk _ _ q⟩
    |round l f tmps assign body=>
     refine⟨h2.1,RoundIn.mono h2.2 ?_⟩;intro e w' q;cases e with
     |returned v=>grind
     |panicked c=>grind
     |outgrown=>obtain⟨a,w,q⟩:=q;exact⟨a,w,hq _ _ _ q⟩
    |_=>exact h2
   |halt x w=>
    cases x with
    |panic v=>exact hq _ _ _ h2
    |_=>exact h2
  .rename_i hw;rw[Vl hw]at h;exact⟨h.1,Yw hq l _ _ h.2⟩
theorem Qds{P:Program}{o:Oper}{a:Act}{w w':World}{x:Next}{rd:Option Nat}(h:(execOp a.eval o).run P w=.ok x w')(g:∀d,x≠ .defer d):(o.semAt (WF rd).round a.eval).run P w=.ok x w':=by
 cases e:o.op with
 |defer c=>
  have:execOp a.eval o=(do pure (.defer (<- resolve a.eval c o.type))):=by simp[execOp,e]
  rw[this]at h;simp[Vg]at h;generalize(resolve a.eval c o.type).run P w=r at h;cases r with
  |ok d f=>simp[go_sem]at h;grind
  |halt x f=>simp_all
 |_=>grind[Oper.semAt_eq]
theorem JS{P:Program}{rd:Option Nat}{ops:Array Oper}{Q:Exit->Act->World->Prop}{o:Oper}{l:List Oper}{a:Act}{w w':World}{v:Value}(f:Region.wanted o (yielded ops a.tmps)=true)
  (h:(execOp a.eval o).run P w=.ok (.value v) w')(k:wpL P rd ops Q l (a.put o.dst v) w'):wpL P rd ops Q (o::l) a w:=by
 unfold wpL wpListIn;rw[Vm f];exact⟨λ_ _=>trivial,by rw[Qds h (λd e=>by cases e)];exact k⟩
theorem Qjd{P:Program}{rd:Option Nat}{ops:Array Oper}{Q:Exit->Act->World->Prop}{o:Oper}{l:List Oper}{a:Act}{w w':World}(f:Region.wanted o (yielded ops a.tmps)=true)
  (h:(execOp a.eval o).run P w=.ok .skip w')(k:wpL P rd ops Q l (a.put o.dst undef) w'):wpL P rd ops Q (o::l) a w:=by
 unfold wpL wpListIn;rw[Vm f];exact⟨λ_ _=>trivial,by rw[Qds h (λd e=>by cases e)];exact k⟩
theorem Qeg{P:Program}{rd:Option Nat}{ops:Array Oper}{Q:Exit->Act->World->Prop}{o:Oper}{l:List Oper}{a:Act}{w w':World}{f:FuncId}{args:Array Value}(g:Region.wanted o (yielded ops a.tmps)=true)
  (h:(execOp a.eval o).run P w=.ok (.enter f args) w')(k:Calls P f args w' λe w''=>∃v,e=.returned v/\wpL P rd ops Q l (a.put o.dst v) w''):wpL P rd ops Q (o::l) a w:=by
 unfold wpL wpListIn;rw[Vm g];refine⟨λ_ _=>trivial,?_⟩;rw[Qds h (λd e=>by cases e)];refine⟨λh=>by simp[WF,Fence.wide]at h,WF.calls.2 (Calls.mono k ?_)⟩
 grind
section
variable {P:Program} {h0 N:Nat} {env env':Env} {H H':Qb} {Q Q':QV} {c c':Code}
theorem TC.mono(h:TC P h0 N c env H Q)(hq:∀x env H,Q x env H->Q' x env H):TC P h0 N c env H Q':=
 λrd fr ro σ a w r hrd=>Code.wpIn_mono (λe a w q=>q.mono hq) (h rd fr ro σ a w r hrd)
theorem Qd(d:Le h0 env H env' H')(h:TC P h0 N c env' H' Q):TC P h0 N c env H Q:=by
 intro j g i σ a w r hrd;obtain⟨f,σ',k,s,t⟩:=d g i σ N a w r;exact Code.wpIn_mono (λe a w q=>q.step (YQ s) t) (h j g f σ' a w k hrd)
theorem QH{all:Array Oper}{l:List Oper}(d:Le h0 env H env' H')(h:WO P h0 N all l env' H' Q):WO P h0 N all l env H Q:=by
 intro j g i σ a w r hrd;obtain⟨f,σ',k,s,t⟩:=d g i σ N a w r;exact Yw (λe a w q=>q.step (YQ s) t) _ _ _ (h j g f σ' a w k hrd)
theorem WO.mono{all:Array Oper}{l:List Oper}(h:WO P h0 N all l env H Q)(hq:∀x env H,Q x env H->Q' x env H):WO P h0 N all l env H Q':=
 λrd fr ro σ a w r hrd=>Yw (λe a w q=>q.mono hq) _ _ _ (h rd fr ro σ a w r hrd)
def Seq(P:Program)(h0 N:Nat)(c:Code)(Q:QV):QV
 |.normal,env,H=>TC P h0 N c env H Q
 |.exit id,env,H=>Q (.exit id) env H
 |.ret,env,H=>Q .ret env H
def Blo(id:Nat)(Q:QV):QV
 |.normal,env,H=>Q .normal env H
 |.exit id',env,H=>bif Nat.beq id' id then Q .normal env H else Q (.exit id') env H
 |.ret,env,H=>Q .ret env H
theorem TC.seq(h:TC P h0 N c env H (Seq P h0 N c' Q)):TC P h0 N (.seq c c') env H Q:=by
 intro p t u σ a w r hrd;refine wpIn_seq (Code.wpIn_mono ?_ (h p t u σ a w r hrd));rintro e y s ⟨x,d,H',f,σ',g,i,l,n,j,m,k⟩;cases e with
 |normal=>
  obtain rfl:x=.normal:=i;exact Code.wpIn_mono (λe a w q=>q.grow j m k) (l p g f σ' y s n (hrd.to j k.sub))
 |exit id=>
  obtain rfl:x=.exit id:=i;exact⟨_,d,H',f,σ',g,rfl,l,n,j,m,k⟩
 |ret=>
  obtain rfl:x=.ret:=i;exact⟨_,d,H',f,σ',g,rfl,l,n,j,m,k⟩
 |_=>exact i.elim
theorem TC.skip(h:Q .normal env H):TC P h0 N .skip env H Q:=
 λrd fr ro σ a w r hrd=>wpIn_skip ⟨_,env,H,ro,σ,fr,rfl,h,r,Qk.refl _ _ _,rfl,Grow.refl _ _ _⟩
theorem TC.ret(h:Q .ret env H):TC P h0 N .ret env H Q:=
 λrd fr ro σ a w r hrd=>wpIn_ret ⟨_,env,H,ro,σ,fr,rfl,h,r,Qk.refl _ _ _,rfl,Grow.refl _ _ _⟩
theorem TC.exit{id:Nat}(h:Q (.exit id) env H):TC P h0 N (.exit id) env H Q:=
 λrd fr ro σ a w r hrd=>wpIn_exit ⟨_,env,H,ro,σ,fr,rfl,h,r,Qk.refl _ _ _,rfl,Grow.refl _ _ _⟩
theorem TC.block{id:Nat}(h:TC P h0 N c env H (Blo id Q)):TC P h0 N (.block id c) env H Q:=by
 intro t q s σ a w r hrd;refine wpIn_block (Code.wpIn_mono ?_ (h t q s σ a w r hrd));rintro e y u ⟨x,d,H',f,σ',g,k,i,n,l,p,m⟩;cases e with
 |normal=>
  obtain rfl:x=.normal:=k;exact⟨_,d,H',f,σ',g,rfl,i,n,l,p,m⟩
 |exit j=>
  obtain rfl:x=.exit j:=k;simp[Exit.inBlock];simp only[Blo]at i;by_cases e:j=id
  .subst e;rw[Vm rfl];rw[Vz]at i;exact⟨_,d,H',f,σ',g,rfl,i,n,l,p,m⟩
  .rw[Vl e];have:Nat.beq j id=false:=by
    simp_all[VG]
   rw[this]at i;exact⟨_,d,H',f,σ',g,rfl,i,n,l,p,m⟩
 |ret=>
  obtain rfl:x=.ret:=k;exact⟨_,d,H',f,σ',g,rfl,i,n,l,p,m⟩
 |_=>exact k.elim
def opA(env:Env):Operand->A
 |.tmp t=>lk env t
 |.const (.bool b)=>.bool b
 |.const (.int k n)=>.int k n
 |.const (.string s)=>.str s.data.toList
 |.const (.pointer none)=>.nilp
 |.const (.slice none 0 0)=>.nils
 |.const (.map none)=>.nilm
 |.const .nilFunc=>.nilf
 |.const .nilIface=>.nilif
 |.func f=>.fn (.func f) [] []
 |_=>.any
theorem Qi{fr ro:Nat->Prop}{σ:Sig}{a:Act}{w:World}(r:Rel fr ro σ H env N a w)(x:Operand):VR ro σ w (opA env x) (a.eval x):=by
 cases x with
 |tmp t=>exact r.env t
 |const v=>
  cases v with
  |slice a n k=>
   cases a with
   |none=>
    cases n with
    |zero=>cases k with
     |zero=>rfl
     |succ k=>trivial
    |succ n=>trivial
   |some a=>trivial
  |pointer p=>cases p with
   |none=>rfl
   |some p=>trivial
  |map p=>cases p with
   |none=>rfl
   |some p=>trivial
  |string s=>rfl
  |_=>simp_all[opA,VR,Act.eval]
 |global g=>trivial
 |func f=>exact⟨[],[],rfl,rfl,rfl⟩
theorem TC.cond{x:Operand}{t:Bool}(i:opA env x=.bool t)(k:t=true->TC P h0 N c env H Q)(j:t=false->TC P h0 N c' env H Q):
  TC P h0 N (.cond x c c') env H Q:=by
 intro h f g σ a w r hrd;have d:=Qi r x;rw[i]at d;exact wpIn_cond_split d (λe=>k e h f g σ a w r hrd) (λe=>j e h f g σ a w r hrd)
theorem QoM{t:Array Value}{d s:Nat}{v:Value}(a:d<t.size):(t.setIfInBounds d v).getD s undef=if s=d then v else t.getD s undef:=by
 simp[Array.getD_eq_getD_getElem?]
 grind
theorem VR.up{fr ro:Nat->Prop}{σ:Sig}{a:Act}{w:World}(r:∀s,VR ro σ w (lk env s) (a.tmps.getD s undef)){d:Nat}(f:d<a.tmps.size){x:A}{v:Value}(g:VR ro σ w x v):
  ∀s,VR ro σ w (lk (up env d x) s) ((a.tmps.setIfInBounds d v).getD s undef):=by
 intro s;rw[QoM f];simp only[lk];by_cases e:s=d
 .simp_all
 .have:Nat.beq s d=false:=by
   simp_all[VG]
  grind
def QA(all:Array Oper)(o:Oper)(env:Env)(b:Bool):Prop:=
 match o.guard with
 |none=>b=true
 |some (j,c)=>∃d,(all[j]?).bind (·.dst)=some d/\((∃x,lk env d=.bool x/\b=(x==c))\/(lk env d=.tup []/\b=false))
theorem Y0{all:Array Oper}{o:Oper}{b:Bool}(h:QA all o env b){fr ro:Nat->Prop}{σ:Sig}{a:Act}{w:World}(r:Rel fr ro σ H env N a w):
  Region.wanted o (yielded all a.tmps)=b:=by
 unfold QA at h;unfold Region.wanted;cases j:o.guard with
 |none=>grind
 |some g=>
  rw[j]at h;obtain⟨d,i,⟨x,f,k⟩|⟨f,k⟩⟩:=h
  .have e:=r.env d;rw[f]at e;simp only[VR]at e;have n:a.tmps[d]?=some (.bool x):=by
    rw[Array.getD_eq_getD_getElem?]at e
    grind[undef]
   simp_all[yielded]
  .have e:=r.env d;rw[f]at e;obtain⟨l,e,m⟩:=e;rw[Array.getD_eq_getD_getElem?]at e;simp[yielded,i]
   grind
def OpV(P:Program)(o:Oper)(env:Env)(H:Qb)(x:A):Prop:=
 ∀fr ro σ N a w,Rel fr ro σ H env N a w->∃v,(execOp a.eval o).run P w=.ok (.value v) w/\VR ro σ w x v
def OpH(P:Program)(o:Oper)(env:Env)(H:Qb)(x:A)(H':Qb):Prop:=
 ∀fr ro σ N a w,Rel fr ro σ H env N a w->∃v w' ro' τ,(execOp a.eval o).run P w=.ok (.value v) w'/\VR ro' (σ++τ) w' x v/\
  Sim fr ro' (σ++τ) H' w'/\Qk fr ro w ro' w'
def OpU(P:Program)(o:Oper)(env:Env)(H:Qb)(H':Qb):Prop:=
 ∀fr ro σ N a w,Rel fr ro σ H env N a w->∃w' ro' τ,(execOp a.eval o).run P w=.ok .skip w'/\
  Sim fr ro' (σ++τ) H' w'/\Qk fr ro w ro' w'
theorem WO.nil{all:Array Oper}(h:Q .normal env H):WO P h0 N all [] env H Q:=
 λrd fr ro σ a w r hrd=>⟨_,env,H,ro,σ,fr,rfl,h,r,Qk.refl _ _ _,rfl,rfl,Grow.refl _ _ _⟩
theorem QK{σ τ:Sig}{h0:Nat}(h:h0<=σ.length):(σ++τ).take h0=σ.take h0:=by
 grind
theorem Js{all:Array Oper}{o:Oper}{l:List Oper}{d:Nat}{x:A}(n:h0<=H.length)(hg:QA all o env true)(y:o.dst=some d)(E:Nat.blt d N=true)
  (i:OpH P o env H x H')(k:WO P h0 N all l (up env d x) H' Q):WO P h0 N all (o::l) env H Q:=by
 intro z fr u σ a w r hrd;obtain⟨v,j,f,τ,m,p,t,g⟩:=i fr u σ N a w r;refine JS (Y0 hg r) m ?_;simp[y];have h:d<N:=by simp_all
 have B:Rel fr f (σ++τ) H' (up env d x) N {a with tmps:=a.tmps.setIfInBounds d v} j:=
  ⟨t,VR.up (fr:=fr) (λs=>(r.env s).mono (g.ext σ τ)) (by rw[r.size];exact h) p,by simpa using r.size,r.defers.keep g⟩
 refine Yw (λe a w q=>q.step g (QK ?_)) _ _ _ (k z fr f (σ++τ) _ j B (hrd.to g λ_ q=>q));rw[r.sim.len];exact n
theorem QP{all:Array Oper}{o:Oper}{l:List Oper}{d:Nat}{x:A}(hg:QA all o env true)(j:o.dst=some d)(n:Nat.blt d N=true)
  (f:OpV P o env H x)(k:WO P h0 N all l (up env d x) H Q):WO P h0 N all (o::l) env H Q:=by
 intro m fr g σ a w r hrd;obtain⟨v,h,i⟩:=f fr g σ N a w r;refine JS (Y0 hg r) h ?_;simp[j];have e:d<N:=by simp_all
 exact k m fr g σ {a with tmps:=a.tmps.setIfInBounds d v} w ⟨r.sim,VR.up (fr:=fr) r.env (by rw[r.size];exact e) i,by simpa using r.size,r.defers⟩ hrd
theorem QbV{all:Array Oper}{o:Oper}{l:List Oper}(m:h0<=H.length)(hg:QA all o env true)(t:o.dst=none)
  (h:OpU P o env H H')(k:WO P h0 N all l env H' Q):WO P h0 N all (o::l) env H Q:=by
 intro u g p σ a w r hrd;obtain⟨i,d,τ,j,n,f⟩:=h g p σ N a w r;refine Qjd (Y0 hg r) j ?_;simp[t];have x:Rel g d (σ++τ) H' env N a i:=⟨n,λs=>(r.env s).mono (f.ext σ τ),r.size,r.defers.keep f⟩;refine Yw (λe a w q=>q.step f (QK ?_)) _ _ _ (k u g d (σ++τ) _ i x (hrd.to f λ_ q=>q));rw[r.sim.len];exact m
theorem QrI{all:Array Oper}{o:Oper}{l:List Oper}{x:A}(m:h0<=H.length)(hg:QA all o env true)(t:o.dst=none)
  (h:OpH P o env H x H')(k:WO P h0 N all l env H' Q):WO P h0 N all (o::l) env H Q:=by
 intro u g p σ a w r hrd;obtain⟨v,i,d,τ,j,z,n,f⟩:=h g p σ N a w r;refine JS (Y0 hg r) j ?_;simp[t];have y:Rel g d (σ++τ) H' env N a i:=⟨n,λs=>(r.env s).mono (f.ext σ τ),r.size,r.defers.keep f⟩;refine Yw (λe a w q=>q.step f (QK ?_)) _ _ _ (k u g d (σ++τ) _ i y (hrd.to f λ_ q=>q));rw[r.sim.len];exact m
theorem WO.skip{all:Array Oper}{o:Oper}{l:List Oper}{d:Nat}(hg:QA all o env false)(g:o.dst=some d)(i:Nat.blt d N=true)
  (k:WO P h0 N all l (up env d (.tup [])) H Q):WO P h0 N all (o::l) env H Q:=by
 intro h fr f σ a w r hrd;unfold wpL wpListIn;rw[Y0 hg r,Vl (by simp)];refine⟨λ_ _=>trivial,?_⟩;simp[g];have e:d<N:=by simp_all
 exact k h fr f σ {a with tmps:=a.tmps.setIfInBounds d undef} w ⟨r.sim,VR.up (fr:=fr) r.env (by rw[r.size];exact e) ⟨[],rfl,rfl⟩,by simpa using r.size,r.defers⟩ hrd
theorem TC.region{id:Nat}{l:List Oper}(h:WO P h0 N l.toArray l env H Q):TC P h0 N (.region id l.toArray false) env H Q:=
 λrd fr ro σ a w r hrd=>Code.wpIn_mono (λe a w q=>q.postW) (wpIn_region_lit (h rd fr ro σ a w r hrd))
end
mutual
def Jg(ρ:Nat->Nat):A->A
 |.ptr i off=>.ptr (ρ i) off
 |.osl i o n k=>.osl (ρ i) o n k
 |.agg cs=>.agg (Qak ρ cs)
 |.fn f a c=>.fn f (Qak ρ a) (Qak ρ c)
 |.iface t v=>.iface t (Jg ρ v)
 |.map i=>.map (ρ i)
 |.tup vs=>.tup (Qak ρ vs)
 |a=>a
def Qak(ρ:Nat->Nat):List A->List A
 |[]=>[]
 |a::r=>Jg ρ a::Qak ρ r
end
def Qm6(ρ:Nat->Nat):List (List A)->List (List A)
 |[]=>[]
 |a::r=>Qak ρ a::Qm6 ρ r
def renP(ρ:Nat->Nat):List (A×A)->List (A×A)
 |[]=>[]
 |a::r=>(Jg ρ a.1,Jg ρ a.2)::renP ρ r
def Yi(ρ:Nat->Nat):Blk->Blk
 |.cells t cs=>.cells t (Qak ρ cs)
 |.rowr t k es=>.rowr t k (Qm6 ρ es)
 |.ents t b1 b2 es=>.ents t (ρ b1) (ρ b2) es
 |.mapP es=>.mapP (renP ρ es)
 |b=>b
theorem Qhv(ρ:Nat->Nat)(b1 b2:Nat):∀(es:List Ent),Qm6 ρ (es.map (eC b1 b2))=es.map (eC (ρ b1) (ρ b2))
 |[]=>rfl
 |e::es=>by
  have:=Qhv ρ b1 b2 es;simp[Vd,Qm6,this];cases h:e.fl<;>simp[eC,Qak,Jg,h]
theorem QQ(ρ:Nat->Nat)(x:Blk):(Yi ρ x).live=x.live:=by cases x<;>rfl
theorem Qal(ρ:Nat->Nat)(x:Blk)(w:World)(b c:Nat):Hid w (Yi ρ x) b c↔Hid w x b c:=by cases x<;>exact Iff.rfl
section
variable {ro:Nat->Prop} {σ σ':Sig} {w:World} {ρ:Nat->Nat} (h:∀i:Nat,σ[ρ i]?=σ'[i]?)
include h
mutual
theorem QeC:∀{a:A} {v:Value},VR ro σ w (Jg ρ a) v↔VR ro σ' w a v
 |.any,_=>by simp only[Jg,VR]
 |.bool b,v=>by simp only[Jg,VR]
 |.int k n,v=>by simp only[Jg,VR]
 |.str s,v=>by simp only[Jg,VR]
 |.nilp,v=>by simp only[Jg,VR]
 |.ptr i off,v=>by simp only[Jg,VR,h]
 |.rp cs,v=>by simp only[Jg,VR]
 |.nils,v=>by simp only[Jg,VR]
 |.rsl k es,v=>by simp only[Jg,VR]
 |.osl i o n k,v=>by simp only[Jg,VR,h]
 |.agg cs,v=>by simp only[Jg,VR];exact exists_congr λl=>and_congr_right λ_=>QbY
 |.fn f a c,v=>by simp only[Jg,VR];exact exists_congr λl=>exists_congr λl'=>and_congr_right λ_=>and_congr QbY QbY
 |.nilf,v=>by simp only[Jg,VR]
 |.iface t a,v=>by simp only[Jg,VR];exact exists_congr λl=>and_congr_right λ_=>QeC
 |.nilif,v=>by simp only[Jg,VR]
 |.map i,v=>by simp only[Jg,VR,h]
 |.nilm,v=>by simp only[Jg,VR]
 |.tup vs,v=>by simp only[Jg,VR];exact exists_congr λl=>and_congr_right λ_=>QbY
theorem QbY:∀{az:List A} {l:List Value},LR ro σ w (Qak ρ az) l↔LR ro σ' w az l
 |[],l=>by simp only[Qak,LR]
 |a::r,l=>by
  simp only[Qak,LR];exact exists_congr λv=>exists_congr λl'=>and_congr_right λ_=>and_congr QeC QbY
end
theorem QeR:∀(cs:List A),(Qak ρ cs).length=cs.length
 |[]=>rfl
 |a::r=>by simp[Qak,QeR r]
theorem QlV{k:Nat}:∀{es:List (List A)} {l:List Value},RL ro σ w k (Qm6 ρ es) l↔RL ro σ' w k es l
 |[],l=>by rfl
 |a::r,l=>by
  simp[Qm6,RL,QeR h];exact exists_congr λl1=>exists_congr λl2=>and_congr_right λ_=>and_congr_right λ_=>and_congr (and_congr_left λ_=>QbY h) QlV
theorem QpO:∀{es:List (A×A)} {l:List MapEntry},ER ro σ w (renP ρ es) l↔ER ro σ' w es l
 |[],l=>by rfl
 |a::r,l=>by
  exact exists_congr λe=>exists_congr λl'=>and_congr_right λ_=>and_congr (QeC h) (and_congr (QeC h) QpO)
theorem Qjb{x:Blk}{s:Option Nat}:BR ro σ w (Yi ρ x) s↔BR ro σ' w x s:=by
 cases x with
 |cells t e=>
  cases s with
  |none=>exact Iff.rfl
  |some b=>exact exists_congr λl=>and_congr_right λ_=>and_congr_left λ_=>QbY h
 |rowr t k a=>
  cases s with
  |none=>exact Iff.rfl
  |some b=>exact exists_congr λl=>and_congr_right λ_=>QlV h
 |mapP a=>
  cases s with
  |none=>exact Iff.rfl
  |some b=>exact exists_congr λl=>exists_congr λc=>and_congr_right λ_=>and_congr_left λ_=>QpO h
 |ents t d f a=>
  cases s with
  |none=>exact Iff.rfl
  |some b=>
   refine exists_congr λl=>and_congr_right λ_=>?_;rw[<- Qhv];exact QlV h
 |_=>cases s<;>exact Iff.rfl
end
def C(P:Program)(f:FuncId)(args:List A)(H:Qb)(Q:A->Qb->Prop):Prop:=
 ∀fr ro σ vals w,Sim fr ro σ H w->LR ro σ w args vals->Calls P f vals.toArray w λe w'=>
  ∃v r H' ro' τ,e=.returned v/\Q r H'/\Sim fr ro' (σ++τ) H' w'/\VR ro' (σ++τ) w' r v/\Qk fr ro w ro' w'
theorem C.mono{P:Program}{f:FuncId}{args:List A}{H:Qb}{Q Q':A->Qb->Prop}(h:C P f args H Q)(hq:∀r H,Q r H->Q' r H):C P f args H Q':=
 λfr ro σ vals w s l=>(h fr ro σ vals w s l).mono (by grind)
def Qe5:Nat->List A->Env
 |_,[]=>[]
 |i,a::r=>(i,a)::Qe5 (i+1) r
theorem Qf5{ro:Nat->Prop}{σ:Sig}{w:World}:∀{args:List A} {vals:List Value} {i:Nat} (pre:List Value),pre.length=i->LR ro σ w args vals->∀rest,
  ∀s,VR ro σ w (lk (Qe5 i args) s) (((pre++vals).toArray++rest).getD s undef)
 |[],vals,i,pre,hp,hl,rest,s=>trivial
 |a::r,vals,i,pre,hp,hl,rest,s=>by
  obtain⟨v,l',rfl,h1,h2⟩:=hl;simp only[Qe5,lk];by_cases e:s=i
  .simp_all[Array.getElem?_append]
  .have:Nat.beq s i=false:=by
    simp_all[VG]
   have:=Qf5 (i:=i+1) (pre++[v]) (by simp[hp]) h2 rest s
   grind
def Qd5(P:Program)(fn:Func)(env:Env)(H:Qb)(r:A):Prop:=
 ∀fr ro σ N a w,Rel fr ro σ H env N a w->∃v,(results fn a.tmps).run P w=.ok v w/\VR ro σ w r v
def QaE(P:Program)(h0:Nat)(fn:Func)(Q:A->Qb->Prop):QV
 |.normal,env,H=>∃env' H' r,Le h0 env H env' H'/\Qd5 P fn env' H' r/\Q r H'
 |.ret,env,H=>∃env' H' r,Le h0 env H env' H'/\Qd5 P fn env' H' r/\Q r H'
 |.exit _,_,_=>False
theorem LR.length{ro:Nat->Prop}{σ:Sig}{w:World}:∀{az:List A} {l:List Value},LR ro σ w az l->l.length=az.length
 |[],l,h=>by simp[LR]at h;simp[h]
 |a::r,l,h=>by
  obtain⟨v,l',rfl,_,h2⟩:=h;simp[h2.length]
theorem Sim.turn{fr ro:Nat->Prop}{σ:Sig}{H:Qb}{w:World}(s:Sim fr ro σ H w){b:Nat}{obj:Obj}(u:¬ro b)(t:¬fr b)(E:∀(i:Nat) (x:Blk),σ[i]?=some (some b)->H[i]?=some x->x.live=true->False)
  (l:∀(i d:Nat) (x:Blk),σ[i]?=some (some d)->H[i]?=some x->Hid w x d b->False)
  (r:∀y,w.shape? b=some y->(w.putObj b obj).shape? b=some y):Sim fr ro σ H (w.putObj b obj)/\Qk fr ro w ro (w.putObj b obj):=by
 have p:∀c,c≠b->(w.putObj b obj).heap[c]?=w.heap[c]? :=λc m=>World.putObj_heap_other m;have a:(w.putObj b obj).heap.size=w.heap.size:=by simp
 have ev:Qk fr ro w ro (w.putObj b obj):=by
  refine⟨λ_ q=>q,(by grind),(by grind),by omega,λc x q=>?_,rfl,rfl,rfl,XQ _⟩
  grind[World.shape?]
 have e:Ext ro σ w ro σ (w.putObj b obj):=by have:=ev.ext σ [];grind
 refine⟨⟨s.len,s.roOk.to (λ_ q=>q) ev.keepRo (λc q=>by rw[a];exact s.roLt c q),λc q=>by rw[a];exact s.frLt c q,s.roFr,λi c x f g n=>?_,s.inj,λi y x f g=>?_,
  s.hidTo (· = ·) Q9 (by omega) (by simp) (by simp) λj d y k h G=>.inl ⟨j,y,rfl,k,h,id,λc q=>s.hidKeep k h (by grind) ev.keepRo q⟩⟩,ev⟩
 .obtain⟨z,B,F⟩:=s.own i c x f g n
  grind
 .refine(s.blk i y x f g).keep e ?_ ?_
  .grind
  grind
theorem QbH{P:Program}{fn:Func}{tmps:Array Value}{R:Ending->World->Prop}{fr ro:Nat->Prop}{σ:Sig}{H:Qb}:
  ∀(ds:List Deferred) (w:World),ds.Nodup->(∀d∈ds,∃D,d={target:=.collected D,args:= #[]}/\ ¬ro D/\ ¬fr D/\(∀(i:Nat) (x:Blk),σ[i]?=some (some D)->H[i]?=some x->x.live=true->False)/\(∀(i d:Nat) (x:Blk),σ[i]?=some (some d)->H[i]?=some x->Hid w x d D->False)/\w.heap[D]?=some (.deferred (some [])))->
  Sim fr ro σ H w->(∀w',Sim fr ro σ H w'->Qk fr ro w ro w'->∃v,(results fn tmps).run P w'=.ok v w'/\R (.returned v) w')->LeavesInM Fence.wide 0 P fn tmps R ds .returning w
 |[],w,_,_,s,hk=>by
  obtain⟨v,h1,h2⟩:=hk w s (Qk.refl _ _ _);exact⟨v,h1,h2⟩
 |d::ds,w,hn,hd,s,hk=>by
  obtain⟨D,rfl,h1,h2,h3,h5,h4⟩:=hd d (by simp);obtain⟨n1,n2⟩:=List.nodup_cons.1 hn;obtain⟨s',ev⟩:=s.turn h1 h2 h3 h5 (λy q=>by grind[World.shape?]);refine⟨(by simp),.inl ⟨D,_,rfl,run_takeDeferred h4,(QbH ds _ n2 (λd' q=>?_) s' (λw' q1 q2=>hk w' q1 (ev.trans q2)))⟩⟩;obtain⟨D',rfl,g1,g2,g3,g5,g4⟩:=hd d' (by simp[q]);refine⟨D',rfl,g1,g2,g3,λi d x z1 z2 z3=>g5 i d x z1 z2 (s.hidKeep z1 z2 (λz=>World.putObj_heap_other (by grind)) (λb q=>World.putObj_heap_other (λe:b=D=>h1 (e▸q))) z3),(World.putObj_heap_other (λe=>?_)).trans g4⟩
  grind
theorem QF{P:Program}{f:FuncId}{fn:Func}{c:Code}{N:Nat}{args:List A}{H:Qb}{Q:A->Qb->Prop}
  (hf:P.funcs[f]?=some fn)(hb:fn.body=some c)(hN:fn.ntmps=N)(hA:Nat.ble args.length N=true)
  (h:TC P H.length N c (Qe5 0 args) H (QaE P H.length fn Q)):C P f args H Q:=by
 intro fr ro σ vals w hs hl;have aa:=hl.length;have ab:args.length<=N:=by simp_all
 refine(callsIn_wide (n:=0)).1 (callsIn_of_wp_marks hf hb trivial (Code.wpIn_mono ?_ (h none fr ro σ _ w ⟨hs,?_,?_,List.nodup_nil,λd l=>by cases l⟩ QeH.none)))
 .rintro e t k ⟨x,m,H1,R,σ1,L,z,E,h3,h4,h5,T⟩;have p:(∃j H' r,Le H.length m H1 j H'/\Qd5 P fn j H' r/\Q r H')->LeavesInM Fence.wide 0 P fn t.tmps (λe k=>
    ∃v' r H' a τ,e=.returned v'/\Q r H'/\Sim fr a (σ++τ) H' k/\VR a (σ++τ) k r v'/\Qk fr ro w a k) t.defers .returning k:=by
   rintro⟨j,H',r,B,hr,hq⟩;obtain⟨a,σ',g,u,ht⟩:=B L R σ1 N t k h3;have hσ:σ'=σ++σ'.drop H.length:=by
    have W:σ'.take H.length=σ:=by rw[ht,h5,VC (by rw[hs.len];omega)]
    grind[List.take_append_drop]
   have s1:Sim fr a σ' H' k:=g.sim.frMono T.sub;refine QbH (ro:=a) (fr:=fr) (σ:=σ') (H:=H') t.defers k g.defers.1 (λd l=>?_) s1 (λV X y=>?_)
   .obtain⟨D,rfl,J,g2⟩:=g.defers.2 d l;refine⟨D,rfl,λq=>g.sim.roFr D q J,λq=>?_,λi x F M G=>(g.sim.own i D x F M G).2.2 J,λi d x F M G=>(g.sim.hid i d x D F M G).fr J,g2⟩;rcases T.ds _ l with Y|⟨D',e,Y⟩
    .cases Y
    .have:D=D':=by simpa using e
     subst this;have:=hs.frLt D q;omega
   .have O:Rel fr a σ' H' j N {t with defers:=[]} V:=⟨X,λs=>(g.env s).mono (by have:=y.ext σ' [];grind),g.size,List.nodup_nil,λd l=>by cases l⟩;obtain⟨v,W,e2⟩:=hr fr a σ' N _ V O;exact⟨v,W,v,r,H',a,σ'.drop H.length,rfl,hq,hσ▸X,hσ▸e2,(h4.trans (YQ u)).trans y⟩
  cases e with
  |normal=>
   obtain rfl:x=.normal:=z;exact p E
  |ret=>
   obtain rfl:x=.ret:=z;exact p E
  |exit id=>
   obtain rfl:x=.exit id:=z;exact E.elim
  |_=>exact z.elim
 .intro s;have:=Qf5 (i:=0) [] rfl hl (Array.replicate (fn.ntmps-vals.toArray.size) undef) s
  grind
 grind
section
variable {P:Program} {fn:Func} {env:Env} {H:Qb}
theorem Qd5.nil(h:fn.results= #[]):Qd5 P fn env H (.tup []):=
 λfr ro σ N a w r=>⟨.tuple #[],by simp[results,h],[],rfl,rfl⟩
theorem Qd5.one{t:Nat}{x:A}(h:fn.results= #[.tmp t])(hx:lk env t=x):Qd5 P fn env H x:=
 λfr ro σ N a w r=>⟨a.tmps.getD t undef,by simp[results,h],hx▸r.env t⟩
theorem QnM{t u:Nat}{x y:A}(h:fn.results= #[.tmp t,.tmp u])(hx:lk env t=x)(hy:lk env u=y):Qd5 P fn env H (.tup [x,y]):=
 λfr ro σ N a w r=>⟨.tuple #[a.tmps.getD t undef,a.tmps.getD u undef],by simp[results,h],
  [_,_],rfl,_,_,rfl,hx▸r.env t,_,_,rfl,hy▸r.env u,rfl⟩
end
inductive Ctl (S B:Type) where
 |cont (s:S)
 |done (b:B)
 deriving DecidableEq
def iter{S B:Type}(step:S->Option (Ctl S B)):Nat->S->Option B
 |0,_=>none
 |n+1,s=>match step s with
  |some (.cont s')=>iter step n s'
  |some (.done b)=>some b
  |none=>none
def QbB{S B:Type}(I:S->Env->Qb->Prop)(d:Ctl S B)(Q:QV):QV
 |.normal,env,H=>∃s,d=.cont s/\I s env H
 |.exit id,env,H=>(∃b,d=.done b)/\Q (.exit id) env H
 |.ret,env,H=>(∃b,d=.done b)/\Q .ret env H
theorem QkA{P:Program}{h0 N:Nat}{c:Code}{S B:Type}{step:S->Option (Ctl S B)}{I:S->Env->Qb->Prop}{Q:QV}{F:B}
  (body:∀s d env H,I s env H->step s=some d->(∀b,d=.done b->b=F)->TC P h0 N c env H (QbB I d Q))
  {m:Nat}{L:S}(h:iter step m L=some F){env:Env}{H:Qb}(G:I L env H):TC P h0 N (.loop c) env H Q:=by
 intro V n E σ a w r hrd b k cs hro hb hr;have J:∀m s env H fr1 ro1 σ1 a1 w1,iter step m s=some F->I s env H->Rel fr1 ro1 σ1 H env N a1 w1->Qk n E w ro1 w1->σ1.take h0=σ.take h0->Grow n w a.defers fr1 a1.defers->
   ∃e j i,QaW h0 n E σ w N a.defers Q e j i/\ArrivesIn (Machine.fenced P (WF V)) P (lone (b.atR a1 (.code c::.inLoop c::k)) cs w1) b k cs e j i:=by
  intro m
  induction m with
  |zero=>grind[iter]
  |succ m ih=>
   intro s env H fr1 ro1 σ1 a1 w1 hit G r1 ev1 t1 g1;simp[iter]at hit;cases T:step s with
   |none=>grind
   |some d=>
    rw[T]at hit;have hd:∀b,d=.done b->b=F:=by
     grind
    obtain⟨e,j,i,M,f⟩:=body s d env H G T hd V fr1 ro1 σ1 a1 w1 r1 (hrd.to ev1 g1.sub) b (.inLoop c::k) cs hro hb hr;obtain⟨x,g,H',p,σ',y,z,t,W,q4,R,q6⟩:=M;have u:=ev1.trans (q4.frMono g1.sub);have X:=g1.trans ev1.size q6;have Y:∀x,Q x g H'->ExR e x->QaW h0 n E σ w N a.defers Q e j i:=λx q q'=>⟨x,g,H',p,σ',y,q',q,W,u,R.trans t1,X⟩;cases e with
    |normal=>
     obtain rfl:x=.normal:=z;obtain⟨s',rfl,t⟩:=t;obtain⟨e2,a2,w2,O,l⟩:=ih s' g H' y p σ' j i hit t W u (R.trans t1) X;exact⟨e2,a2,w2,O,.of_steps (StepsIn.trans f (.one (fenced_calm hb hr rfl) stepR_inLoop)) l⟩
    |exit id=>
     obtain rfl:x=.exit id:=z;exact⟨_,j,i,Y _ t.2 rfl,.pass rfl (by simp) f⟩
    |ret=>
     obtain rfl:x=.ret:=z;exact⟨_,j,i,Y _ t.2 rfl,.pass rfl (by simp) f⟩
    |_=>exact z.elim
 obtain⟨e,j,i,M,f⟩:=J m L env H n E σ a w h G r (Qk.refl _ _ _) rfl (Grow.refl _ _ _);exact⟨e,j,i,M,.of_steps (.one (fenced_calm hb hr rfl) stepR_loop) f⟩
theorem TC.loop{P:Program}{h0 N:Nat}{c:Code}{S B:Type}{step:S->Option (Ctl S B)}(E:S->Env)(Hp:S->Qb){Q:QV}
  {m:Nat}{s0:S}{b0:B}(h:iter step m s0=some b0){env:Env}{H:Qb}(hI:Le h0 env H (E s0) (Hp s0))
  (body:∀s d,step s=some d->(∀b,d=.done b->b=b0)->TC P h0 N c (E s) (Hp s) (QbB (λs env H=>Le h0 env H (E s) (Hp s)) d Q)):TC P h0 N (.loop c) env H Q:=
 QkA (λs d env H hI hs hd=>Qd hI (body s d hs hd)) h hI
def rho(π:List Nat)(n i:Nat):Nat:=
 match π[i]? with
 |some p=>p
 |none=>n+(i-π.length)
def YH:Qb->List Nat->List Blk->Qb
 |H,[],xs=>H++xs
 |H,p::π,x::xs=>YH (H.set p x) π xs
 |H,_::_,[]=>H
theorem QcQ:∀(π:List Nat) (H:Qb) (xs:List Blk),π.length<=xs.length->(YH H π xs).length=H.length+(xs.length-π.length)
 |[],H,xs,_=>by simp[YH]
 |p::π,H,[],h=>by simp at h
 |p::π,H,x::xs,h=>by
  simp[XW]at h;simp only[YH,QcQ π (H.set p x) xs (by omega),XZ,XW];omega
theorem Qc4:∀(π:List Nat) (H:Qb) (xs:List Blk) (i:Nat),i<H.length->i∉π->(YH H π xs)[i]?=H[i]?
 |[],H,xs,i,hi,_=>by simp[YH,XJ hi]
 |p::π,H,[],i,hi,h=>by simp[YH]
 |p::π,H,x::xs,i,hi,h=>by
  simp[X0,not_or]at h;simp[YH];rw[Qc4 π (H.set p x) xs i (by grind) h.2,XM (λe=>h.1 e.symm)]
theorem QfL:∀(π:List Nat) (H:Qb) (xs:List Blk) (j:Nat),π.length<=xs.length->(∀p∈π,p<H.length)->π.Nodup->
  (YH H π xs)[rho π H.length j]?=xs[j]?
 |[],H,xs,j,_,_,_=>by
  simp_all[YH,rho,XK]
 |p::π,H,[],j,h,_,_=>by simp at h
 |p::π,H,x::xs,j,h,hp,hn=>by
  simp[XW]at h;have hn':=List.nodup_cons.1 hn;simp[YH];cases j with
  |zero=>
   grind[rho,Qc4]
  |succ j=>
   have ih:=QfL π (H.set p x) xs j (by omega) (λq hq=>by grind) hn'.2;have e:rho (p::π) H.length (j+1)=rho π H.length j:=by
    simp only[rho,XW];simp
   grind
theorem Qm4(π:List Nat)(n i:Nat)(hi:n<=i\/i∈π):∃j,i=rho π n j:=by
 rcases hi with hi|hi
 .refine⟨π.length+(i-n),?_⟩
  grind[rho]
 .obtain⟨j,a,rfl⟩:=List.mem_iff_getElem.1 hi;exact⟨j,by simp[rho,XH a]⟩
def YK(σ:Sig)(π:List Nat):Sig:=π.map λp=>(σ[p]?).getD none
theorem Qfn{σ τ:Sig}{π:List Nat}{n:Nat}(d:σ.length=n)(a:∀p∈π,p<n)(j:Nat):(σ++τ)[rho π n j]?=(YK σ π++τ)[j]? :=by
 rcases(by omega)with h|h
 .grind[rho,YK]
 grind[rho,YK]
def OpC(P:Program)(o:Oper)(env:Env)(H:Qb)(f:FuncId)(args:List A):Prop:=
 ∀fr ro σ N a w,Rel fr ro σ H env N a w->∃vals:List Value,(execOp a.eval o).run P w=.ok (.enter f vals.toArray) w/\LR ro σ w args vals
theorem JJ{π:List Nat}{H:Qb}{Hc:List Blk}(hH:π.map (λp=>H[p]?)=Hc.map some){p:Nat}(a:p∈π):p<H.length:=by
 grind[List.mem_map_of_mem]
theorem WO.call{P:Program}{h0 N:Nat}{all:Array Oper}{o:Oper}{l:List Oper}{env:Env}{H:Qb}{Q:QV}{d:Option Nat}{f:FuncId}
  {args ac:List A}{Hc:Qb}{Qr:A->Qb->Prop}(π:List Nat)(hh:h0<=H.length)(hg:QA all o env true)(hd:o.dst=d)(hN:∀x,d=some x->x<N)
  (aq:OpC P o env H f args)(hargs:args=Qak (rho π H.length) ac)(hH:π.map (λp=>H[p]?)=(Hc.map (Yi (rho π H.length))).map some)(hπ:π.Nodup)
  (hC:C P f ac Hc Qr)
  (k:∀r H1,Qr r H1->WO P h0 N all l (match d with|some d=>up env d (Jg (rho π H.length) r)|none=>env) (YH H π (H1.map (Yi (rho π H.length)))) Q):
  WO P h0 N all (o::l) env H Q:=by
 intro rd fr ro σ a w r hrd;obtain⟨ai,h1,h2⟩:=aq fr ro σ N a w r;refine Qeg (Y0 hg r) h1 ?_;have hp:∀p∈π,p<H.length:=λp q=>JJ hH q;have hσl:=r.sim.len;have aa:∀(j p:Nat),π[j]?=some p->H[p]?=(Hc[j]?).map (Yi (rho π H.length)):=by
  intro j p M;have:=congrArg (λl=>l[j]?) hH;simp only[Xo,M,Xk]at this;cases e:Hc[j]? with
  |none=>rw[e]at this;simp at this
  |some x=>rw[e]at this;simpa using this
 have al:π.length=Hc.length:=by simpa using congrArg List.length hH
 have hσc:∀j:Nat,σ[rho π H.length j]?=(YK σ π)[j]? :=by
  intro j;have:=Qfn (τ:=[]) hσl hp j;simpa using this
 let frc:Nat->Prop:=λb=>fr b\/(∃i x,σ[i]?=some (some b)/\H[i]?=some x/\x.live=true/\i∉π)\/ ∃i x d,σ[i]?=some (some d)/\H[i]?=some x/\Hid w x d b/\i∉π
 have hπj:∀(j b:Nat),(YK σ π)[j]?=some (some b)->∃p,π[j]?=some p/\σ[p]?=some (some b):=by
  intro j b M;simp only[YK,Xo]at M;cases e:π[j]? with
  |none=>rw[e]at M;simp at M
  |some p=>
   rw[e]at M;simp at M;refine⟨p,rfl,?_⟩;cases e2:σ[p]? with
   |none=>rw[e2]at M;simp at M
   |some s=>rw[e2]at M;simp at M;rw[M]
 have hπi:∀(i j p:Nat),π[i]?=some p->π[j]?=some p->i=j:=by
  intro i j p T O;have hi:i<π.length:=by
   rcases Vw i π.length with q|q
   .exact q
   .rw[XL q]at T;simp at T
  have M:j<π.length:=by
   rcases Vw j π.length with q|q
   .exact q
   .rw[XL q]at O;simp at O
  rw[XH hi]at T;rw[XH M]at O;have ae:=(XV T).trans (XV O).symm;rcases Nat.lt_trichotomy i j with q|q|q
  .exact(Vy.1 hπ i j hi M q ae).elim
  .exact q
  .exact(Vy.1 hπ j i M hi q ae.symm).elim
 have am:Sim frc ro (YK σ π) Hc w:=by
  refine⟨by simp[YK,al],r.sim.roOk,?_,?_,?_,?_,?_,?_⟩
  .rintro b (hb|⟨i,x,h,g,m,J⟩|⟨i,x,d,h,g,m,J⟩)
   .exact r.sim.frLt b hb
   .exact(r.sim.own i b x h g m).1
   .exact(r.sim.hid i d x b h g m).lt
  .rintro b hb (hf|⟨i,x,h,g,m,J⟩|⟨i,x,d,h,g,m,J⟩)
   .exact r.sim.roFr b hb hf
   .exact(r.sim.own i b x h g m).2.1 hb
   .exact(r.sim.hid i d x b h g m).ro hb
  .intro j b x h g m;obtain⟨p,T,e2⟩:=hπj j b h;have e3:H[p]?=some (Yi (rho π H.length) x):=by rw[aa j p T,g];rfl
   obtain⟨o1,o2,o3⟩:=r.sim.own p b _ e2 e3 (by rw[QQ];exact m);refine⟨o1,o2,?_⟩;rintro(hf|⟨i,y,y1,y2,y3,y4⟩|⟨i,y,d,y1,y2,y3,y4⟩)
   .exact o3 hf
   .have:=r.sim.inj i p b _ _ y1 e2 y2 e3 y3 (by rw[QQ];exact m);subst this;exact y4 (VB T)
   .exact(r.sim.hid i d y b y1 y2 y3).ne p b _ e2 e3 (by rw[QQ];exact m) rfl
  .intro i j b x y h g m J X q6;obtain⟨p,T,e2⟩:=hπj i b h;obtain⟨p',O,av⟩:=hπj j b g;have e3:H[p]?=some (Yi (rho π H.length) x):=by rw[aa i p T,m];rfl
   have ao:H[p']?=some (Yi (rho π H.length) y):=by rw[aa j p' O,J];rfl
   have:=r.sim.inj p p' b _ _ e2 av e3 ao (by rw[QQ];exact X) (by rw[QQ];exact q6);subst this;have hi:i<π.length:=by
    rcases Vw i π.length with q|q
    .exact q
    .rw[XL q]at T;simp at T
   have M:j<π.length:=by
    rcases Vw j π.length with q|q
    .exact q
    .rw[XL q]at O;simp at O
   rw[XH hi]at T;rw[XH M]at O;have ae:=(XV T).trans (XV O).symm;rcases Nat.lt_trichotomy i j with q|q|q
   .exact(Vy.1 hπ i j hi M q ae).elim
   .exact q
   .exact(Vy.1 hπ j i M hi q ae.symm).elim
  .intro j s x h g;have M:j<π.length:=by
    rcases Vw j π.length with q|q
    .exact q
    .rw[XL (by simpa[YK]using q)]at h;simp at h
   have T:π[j]?=some π[j]:=XH M;have e3:H[π[j]]?=some (Yi (rho π H.length) x):=by rw[aa j _ T,g];rfl
   have e2:σ[π[j]]?=some s:=by
    have:=hσc j;rw[h]at this;simpa[rho,T]using this
   exact(Qjb hσc).1 (r.sim.blk _ s _ e2 e3)
  .intro j b x c h g m;obtain⟨p,T,e2⟩:=hπj j b h;have e3:H[p]?=some (Yi (rho π H.length) x):=by rw[aa j p T,g];rfl
   have k:=r.sim.hid p b _ c e2 e3 ((Qal _ _ _ _ _).2 m);refine⟨k.lt,k.ro,?_,?_,?_⟩
   .rintro(hf|⟨i,y,y1,y2,y3,y4⟩|⟨i,y,d,y1,y2,y3,y4⟩)
    .exact k.fr hf
    .exact k.ne i c y y1 y2 y3 rfl
    .obtain⟨rfl,rfl⟩:=k.one i d y y1 y2 y3;exact y4 (VB T)
   .intro R b' y L n Y;obtain⟨p',f1,f2⟩:=hπj R b' L;exact k.ne p' b' _ f2 (show H[p']?=some (Yi (rho π H.length) y)by rw[aa R p' f1,n];rfl) (by rw[QQ];exact Y)
   .intro R b' y L n Y;obtain⟨p',f1,f2⟩:=hπj R b' L;obtain⟨z4,z5⟩:=k.one p' b' _ f2 (show H[p']?=some (Yi (rho π H.length) y)by rw[aa R p' f1,n];rfl) ((Qal _ _ _ _ _).2 Y);subst z5;exact⟨z4,hπi R j p' f1 T⟩
 have ah:LR ro (YK σ π) w ac ai:=(QbY hσc).1 (hargs▸h2);refine Calls.mono (hC frc ro (YK σ π) ai w am ah) ?_;rintro e w' ⟨v,rr,H1,ab,τ,rfl,hq,sc,hv,ev⟩;have hσ':∀j:Nat,(σ++τ)[rho π H.length j]?=(YK σ π++τ)[j]? :=λj=>Qfn hσl hp j;have au:H1.length=π.length+τ.length:=by rw[<- sc.len];simp[YK]
 have ak:π.length<=(H1.map (Yi (rho π H.length))).length:=by simp;omega
 have W:Qk fr ro w ab w':=⟨ev.sub,ev.keepRo,λb q=>ev.keepFr b (.inl q),ev.size,ev.shape,ev.os,ev.tape,ev.output,ev.drawn⟩;have G:∀j,(YH H π (H1.map (Yi (rho π H.length))))[rho π H.length j]?=(H1[j]?).map (Yi (rho π H.length)):=by
  intro j;rw[QfL π H _ j ak hp hπ];simp
 have B:∀i,i<H.length->i∉π->(YH H π (H1.map (Yi (rho π H.length))))[i]?=H[i]? :=λi=>Qc4 π H _ i;have t:∀i:Nat,(∃j,i=rho π H.length j)\/(i<H.length/\i∉π):=by
  intro i;by_cases q:H.length<=i\/i∈π
  .exact .inl (Qm4 π H.length i q)
  .simp only[not_or]at q;exact .inr ⟨by omega,q.2⟩
 have F:∀i b x,i<H.length->i∉π->σ[i]?=some (some b)->H[i]?=some x->x.live=true->frc b:=λi b x h g m J X=>.inr (.inl ⟨i,x,m,J,X,g⟩);have ag:∀i b x c,i<H.length->i∉π->σ[i]?=some (some b)->H[i]?=some x->Hid w' x b c->Hid w x b c/\frc c:=λi b x c h g m J X=>
  have q6:=r.sim.hidKeep m J (λz=>ev.keepFr b (F i b x h g m J z)) ev.keepRo X
  ⟨q6,.inr (.inr ⟨i,x,b,m,J,q6,g⟩)⟩
 have aj:Sim fr ab (σ++τ) (YH H π (H1.map (Yi (rho π H.length)))) w':=by
  refine⟨?_,sc.roOk,λb q=>sc.frLt b (.inl q),λb q q'=>sc.roFr b q (.inl q'),?_,?_,?_,?_⟩
  .rw[QcQ _ _ _ ak];simp[hσl,au]
  .intro i b x h g m;rcases t i with⟨j,rfl⟩|⟨c1,c2⟩
   .rw[hσ']at h;rw[G]at g;cases e:H1[j]? with
    |none=>rw[e]at g;simp at g
    |some y=>
     rw[e]at g;simp at g;subst g;obtain⟨o1,o2,o3⟩:=sc.own j b y h e (by rw[QQ]at m;exact m);exact⟨o1,o2,λq=>o3 (.inl q)⟩
   .rw[B i c1 c2]at g;rw[XJ (by omega)]at h;obtain⟨o1,o2,o3⟩:=r.sim.own i b x h g m;exact⟨X9 o1 ev.size,λq=>sc.roFr b q (F i b x c1 c2 h g m),o3⟩
  .intro i E b x y h g m J X q6;have af:∀(i E:Nat) (x y:Blk),(∃j,i=rho π H.length j)->(E<H.length/\E∉π)->(σ++τ)[i]?=some (some b)->(σ++τ)[E]?=some (some b)->
     (YH H π (H1.map (Yi (rho π H.length))))[i]?=some x->(YH H π (H1.map (Yi (rho π H.length))))[E]?=some y->x.live=true->y.live=true->False:=by
    rintro i E x y ⟨j,rfl⟩ ⟨c1,c2⟩ h g m J X q6;rw[hσ']at h;rw[G]at m;rw[B E c1 c2]at J;rw[XJ (by omega)]at g;cases e:H1[j]? with
    |none=>rw[e]at m;simp at m
    |some z=>
     rw[e]at m;simp at m;subst m;exact(sc.own j b z h e (by rw[QQ]at X;exact X)).2.2 (F E b y c1 c2 g J q6)
   rcases t i with ci|ci<;>rcases t E with ci'|ci'
   .obtain⟨j,rfl⟩:=ci;obtain⟨R,rfl⟩:=ci';rw[hσ']at h g;rw[G]at m J;cases e:H1[j]? with
    |none=>rw[e]at m;simp at m
    |some z=>
     cases V:H1[R]? with
     |none=>rw[V]at J;simp at J
     |some z'=>
      rw[e]at m;simp at m;subst m;rw[V]at J;simp at J;subst J;rw[sc.inj j R b z z' h g e V (by rw[QQ]at X;exact X) (by rw[QQ]at q6;exact q6)]
   .exact(af i E x y ci ci' h g m J X q6).elim
   .exact(af E i y x ci' ci g h J m q6 X).elim
   .rw[B i ci.1 ci.2]at m;rw[B E ci'.1 ci'.2]at J;rw[XJ (by omega)]at h g;exact r.sim.inj i E b x y h g m J X q6
  .intro i s x h g;rcases t i with⟨j,rfl⟩|⟨c1,c2⟩
   .rw[hσ']at h;rw[G]at g;cases e:H1[j]? with
    |none=>rw[e]at g;simp at g
    |some y=>
     rw[e]at g;simp at g;subst g;exact(Qjb hσ').2 (sc.blk j s y h e)
   .rw[B i c1 c2]at g;rw[XJ (by omega)]at h;refine BR.keep (W.ext σ τ) ?_ (r.sim.blk i s x h g) ?_
    .rintro b rfl hl;exact ev.keepFr b (F i b x c1 c2 h g hl)
    .rintro b c rfl hl;exact ev.keepFr c (.inr (.inr ⟨i,x,b,h,g,hl,c2⟩))
  .intro i b x c h g m;rcases t i with⟨j,rfl⟩|⟨c1,c2⟩
   .rw[hσ']at h;rw[G]at g;cases e:H1[j]? with
    |none=>rw[e]at g;simp at g
    |some y=>
     rw[e]at g;simp at g;subst g;have k:=sc.hid j b y c h e ((Qal _ _ _ _ _).1 m);refine⟨k.lt,k.ro,λq=>k.fr (.inl q),?_,?_⟩
     .intro E b' y' L n Y;rcases t E with⟨R,rfl⟩|⟨d1,d2⟩
      .rw[hσ']at L;rw[G]at n;cases V:H1[R]? with
       |none=>rw[V]at n;simp at n
       |some u=>
        rw[V]at n;simp at n;subst n;exact k.ne R b' u L V (by rw[QQ]at Y;exact Y)
      .rw[B E d1 d2]at n;rw[XJ (by omega)]at L;rintro rfl;exact k.fr (F E c y' d1 d2 L n Y)
     .intro E b' y' L n Y;rcases t E with⟨R,rfl⟩|⟨d1,d2⟩
      .rw[hσ']at L;rw[G]at n;cases V:H1[R]? with
       |none=>rw[V]at n;simp at n
       |some u=>
        rw[V]at n;simp at n;subst n;obtain⟨z4,rfl⟩:=k.one R b' u L V ((Qal _ _ _ _ _).1 Y);exact⟨z4,rfl⟩
      .rw[B E d1 d2]at n;rw[XJ (by omega)]at L;exact(k.fr (ag E b' y' c d1 d2 L n Y).2).elim
   .rw[B i c1 c2]at g;rw[XJ (by omega)]at h;obtain⟨J,X⟩:=ag i b x c c1 c2 h g m;have k:=r.sim.hid i b x c h g J;refine⟨X9 k.lt ev.size,λq=>sc.roFr c q X,k.fr,?_,?_⟩
    .intro E b' y' L n Y;rcases t E with⟨R,rfl⟩|⟨d1,d2⟩
     .rw[hσ']at L;rw[G]at n;cases V:H1[R]? with
      |none=>rw[V]at n;simp at n
      |some u=>
       rw[V]at n;simp at n;subst n;rintro rfl;exact(sc.own R c u L V (by rw[QQ]at Y;exact Y)).2.2 X
     .rw[B E d1 d2]at n;rw[XJ (by omega)]at L;exact k.ne E b' y' L n Y
    .intro E b' y' L n Y;rcases t E with⟨R,rfl⟩|⟨d1,d2⟩
     .rw[hσ']at L;rw[G]at n;cases V:H1[R]? with
      |none=>rw[V]at n;simp at n
      |some u=>
       rw[V]at n;simp at n;subst n;exact((sc.hid R b' u c L V ((Qal _ _ _ _ _).1 Y)).fr X).elim
     .rw[B E d1 d2]at n;rw[XJ (by omega)]at L;exact k.one E b' y' L n (ag E b' y' c d1 d2 L n Y).1
 have ar:VR ab (σ++τ) w' (Jg (rho π H.length) rr) v:=(QeC hσ').2 hv;have hk:=k rr H1 hq;cases d with
 |none=>
  simp only[hd,Act.put];have r':Rel fr ab (σ++τ) (YH H π (H1.map (Yi (rho π H.length)))) env N a w':=⟨aj,λs=>(r.env s).mono (W.ext σ τ),r.size,r.defers.keep W⟩;exact⟨_,rfl,Yw (λe a w q=>q.step W (QK (by omega))) _ _ _ (hk rd fr ab (σ++τ) _ w' r' (hrd.to W λ_ q=>q))⟩
 |some d=>
  simp only[hd,Act.put];have an:=hN d rfl;have r':Rel fr ab (σ++τ) (YH H π (H1.map (Yi (rho π H.length)))) (up env d (Jg (rho π H.length) rr)) N {a with tmps:=a.tmps.setIfInBounds d v} w':=
   ⟨aj,VR.up (fr:=fr) (λs=>(r.env s).mono (W.ext σ τ)) (by rw[r.size];exact an) ar,by simpa using r.size,r.defers.keep W⟩
  exact⟨_,rfl,Yw (λe a w q=>q.step W (QK (by omega))) _ _ _ (hk rd fr ab (σ++τ) _ w' r' (hrd.to W λ_ q=>q))⟩
section
variable {P:Program} {o:Oper} {env:Env} {H:Qb}
theorem QT{fr ro:Nat->Prop}{σ:Sig}{N:Nat}{a:Act}{w:World}(r:Rel fr ro σ H env N a w){x:Operand}{k:IntKind}{n:Int}(h:opA env x=.int k n):a.eval x=.int k n:=by
 have:=Qi r x;rw[h]at this;exact this
theorem QdC{fr ro:Nat->Prop}{σ:Sig}{N:Nat}{a:Act}{w:World}(r:Rel fr ro σ H env N a w){x:Operand}{b:Bool}(h:opA env x=.bool b):a.eval x=.bool b:=by
 have:=Qi r x;rw[h]at this;exact this
theorem Qfr{fr ro:Nat->Prop}{σ:Sig}{N:Nat}{a:Act}{w:World}(r:Rel fr ro σ H env N a w){x:Operand}{s:List UInt8}(h:opA env x=.str s):a.eval x=.string ⟨s.toArray⟩:=by
 have:=Qi r x;rw[h]at this;exact this
theorem OpV.move{x:Operand}{v:A}(ho:o.op=.move x)(hx:opA env x=v):OpV P o env H v:=
 λfr ro σ N a w r=>⟨a.eval x,by simp[execOp,ho],hx▸Qi r x⟩
theorem OpV.assign{x:Operand}{v:A}(ho:o.op=.assign x)(hx:opA env x=v):OpV P o env H v:=
 λfr ro σ N a w r=>⟨a.eval x,by simp[execOp,ho],hx▸Qi r x⟩
theorem OpV.pick{c x y:Operand}{b:Bool}{v:A}(f:o.op=.pick c x y)(d:opA env c=.bool b)(h:(if b then opA env x else opA env y)=v):OpV P o env H v:=by
 intro g i σ N a w r;have e:=QdC r d;refine⟨if b then a.eval x else a.eval y,by simp_all[execOp,asBool],?_⟩
 grind[Qi]
theorem OpV.add{t u:TypeId}{x y:Operand}{k:IntKind}{m n:Int}(h:o.op=.binOp .add t x y u)(e:opA env x=.int k m)(d:opA env y=.int k n):OpV P o env H (.int k (k.wrap (m+n))):=by
 intro i j σ N a w r;have f:=QT r e;have g:=QT r d;refine⟨_,?_,rfl⟩
 simp_all[execOp,Go.binOp,eqGuard,Op.intArith]
theorem OpV.sub{t u:TypeId}{x y:Operand}{k:IntKind}{m n:Int}(h:o.op=.binOp .sub t x y u)(e:opA env x=.int k m)(d:opA env y=.int k n):OpV P o env H (.int k (k.wrap (m-n))):=by
 intro i j σ N a w r;have f:=QT r e;have g:=QT r d;refine⟨_,?_,rfl⟩
 simp_all[execOp,Go.binOp,eqGuard,Op.intArith]
theorem OpV.mul{t u:TypeId}{x y:Operand}{k:IntKind}{m n:Int}(h:o.op=.binOp .mul t x y u)(e:opA env x=.int k m)(d:opA env y=.int k n):OpV P o env H (.int k (k.wrap (m*n))):=by
 intro i j σ N a w r;have f:=QT r e;have g:=QT r d;refine⟨_,?_,rfl⟩
 simp_all[execOp,Go.binOp,eqGuard,Op.intArith]
theorem OpV.cmp{op:BinOp}{t u:TypeId}{x y:Operand}{k:IntKind}{m n:Int}{f:Int->Int->Bool}(g:o.op=.binOp op t x y u)(h:opA env x=.int k m)(i:opA env y=.int k n)
  (d:op=.eql/\f=(λa b=>a==b)\/op=.neq/\f=(λa b=>a != b)\/op=.lss/\f=(λa b=>decide (a<b))\/op=.leq/\f=(λa b=>decide (a<=b))\/
   op=.gtr/\f=(λa b=>decide (b<a))\/op=.geq/\f=(λa b=>decide (b<=a))):OpV P o env H (.bool (f m n)):=by
 intro l p σ N a w r;have e:=QT r h;have j:=QT r i;refine⟨_,?_,rfl⟩;generalize a.eval=ρ at*;rcases d with⟨rfl,rfl⟩|⟨rfl,rfl⟩|⟨rfl,rfl⟩|⟨rfl,rfl⟩|⟨rfl,rfl⟩|⟨rfl,rfl⟩<;>simp[g,e,j,go_sem]
theorem OpV.eql{t u:TypeId}{x y:Operand}{k:IntKind}{m n:Int}(ho:o.op=.binOp .eql t x y u)(hx:opA env x=.int k m)(hy:opA env y=.int k n):OpV P o env H (.bool (m==n)):=
 OpV.cmp ho hx hy (by simp)
theorem OpV.neq{t u:TypeId}{x y:Operand}{k:IntKind}{m n:Int}(ho:o.op=.binOp .neq t x y u)(hx:opA env x=.int k m)(hy:opA env y=.int k n):OpV P o env H (.bool (m != n)):=
 OpV.cmp ho hx hy (by simp)
theorem OpV.lss{t u:TypeId}{x y:Operand}{k:IntKind}{m n:Int}(ho:o.op=.binOp .lss t x y u)(hx:opA env x=.int k m)(hy:opA env y=.int k n):OpV P o env H (.bool (decide (m<n))):=
 OpV.cmp (f:=λa b=>decide (a<b)) ho hx hy (by simp)
theorem OpV.leq{t u:TypeId}{x y:Operand}{k:IntKind}{m n:Int}(ho:o.op=.binOp .leq t x y u)(hx:opA env x=.int k m)(hy:opA env y=.int k n):OpV P o env H (.bool (decide (m<=n))):=
 OpV.cmp (f:=λa b=>decide (a<=b)) ho hx hy (by simp)
theorem OpV.gtr{t u:TypeId}{x y:Operand}{k:IntKind}{m n:Int}(ho:o.op=.binOp .gtr t x y u)(hx:opA env x=.int k m)(hy:opA env y=.int k n):OpV P o env H (.bool (decide (n<m))):=
 OpV.cmp (f:=λa b=>decide (b<a)) ho hx hy (by simp)
theorem OpV.geq{t u:TypeId}{x y:Operand}{k:IntKind}{m n:Int}(ho:o.op=.binOp .geq t x y u)(hx:opA env x=.int k m)(hy:opA env y=.int k n):OpV P o env H (.bool (decide (n<=m))):=
 OpV.cmp (f:=λa b=>decide (b<=a)) ho hx hy (by simp)
theorem OpV.rem{t u:TypeId}{x y:Operand}{k:IntKind}{m n:Int}(g:o.op=.binOp .rem t x y u)(d:opA env x=.int k m)(e:opA env y=.int k n)(i:n≠0):OpV P o env H (.int k (m.tmod n)):=by
 intro h l σ N a w r;have f:=QT r d;have j:=QT r e;exact⟨_,by simp_all[execOp,Go.binOp,eqGuard,Op.intDiv],rfl⟩
theorem OpV.quo{t u:TypeId}{x y:Operand}{k:IntKind}{m n:Int}(g:o.op=.binOp .quo t x y u)(d:opA env x=.int k m)(e:opA env y=.int k n)(i:n≠0):OpV P o env H (.int k (k.wrap (m.tdiv n))):=by
 intro h l σ N a w r;have f:=QT r d;have j:=QT r e;exact⟨_,by simp_all[execOp,Go.binOp,eqGuard,Op.intDiv],rfl⟩
theorem OpV.not{t:TypeId}{x:Operand}{b:Bool}(f:o.op=.unOp .not t x)(d:opA env x=.bool b):OpV P o env H (.bool !b):=by
 intro g h σ N a w r;have e:=QdC r d;exact⟨_,by simp_all[execOp,Op.unary],rfl⟩
theorem OpV.neg{t:TypeId}{x:Operand}{k:IntKind}{n:Int}(f:o.op=.unOp .neg t x)(d:opA env x=.int k n):OpV P o env H (.int k (k.wrap (0-n))):=by
 intro g h σ N a w r;have e:=QT r d;exact⟨_,by simp_all[execOp,Op.unary,Op.intArith],rfl⟩
theorem Y7{s t:TypeId}{x:Operand}{k e:IntKind}{n:Int}{f:TypeDesc}(h:o.op=.convert s t x)(j:∀w,(underlying s).run P w=.ok f w)(m:∀w,(underlying t).run P w=.ok (.int k) w)
  (d:opA env x=.int e n):OpV P o env H (.int k (k.wrap n)):=by
 intro i l σ N a w r;have g:=QT r d;refine⟨_,?_,rfl⟩
 simp_all[execOp,convert,Conv.intToInt]
theorem QcJ{op:BinOp}{t u:TypeId}{x y:Operand}{p q:List UInt8}{f:List UInt8->List UInt8->Bool}(g:o.op=.binOp op t x y u)(h:opA env x=.str p)(k:opA env y=.str q)
  (d:op=.eql/\f=(λa b=>a==b)\/op=.neq/\f=(λa b=>a != b)\/op=.lss/\f=Op.bytesLess\/op=.geq/\f=(λa b=> !Op.bytesLess a b)\/
   op=.leq/\f=(λa b=>Op.bytesLess a b||a==b)\/op=.gtr/\f=(λa b=> !(Op.bytesLess a b||a==b))):OpV P o env H (.bool (f p q)):=by
 intro m n σ N a w r;have e:=Qfr r h;have j:=Qfr r k;refine⟨_,?_,rfl⟩;generalize a.eval=ρ at*;have l:(⟨p.toArray⟩:ByteArray).toList=p:=by simp
 have i:(⟨q.toArray⟩:ByteArray).toList=q:=by simp
 rcases d with⟨rfl,rfl⟩|⟨rfl,rfl⟩|⟨rfl,rfl⟩|⟨rfl,rfl⟩|⟨rfl,rfl⟩|⟨rfl,rfl⟩<;>simp[g,e,j,Go.binOp,Op.stringOp,l,i,go_sem,bne]
theorem QeJ{t u:TypeId}{x y:Operand}{p q:List UInt8}(ho:o.op=.binOp .eql t x y u)(hx:opA env x=.str p)(hy:opA env y=.str q):OpV P o env H (.bool (p==q)):=
 QcJ ho hx hy (by simp)
theorem QnP{t u:TypeId}{x y:Operand}{p q:List UInt8}(ho:o.op=.binOp .neq t x y u)(hx:opA env x=.str p)(hy:opA env y=.str q):OpV P o env H (.bool (p != q)):=
 QcJ ho hx hy (by simp)
theorem QnQ{t u:TypeId}{x y:Operand}{p q:List UInt8}(ho:o.op=.binOp .lss t x y u)(hx:opA env x=.str p)(hy:opA env y=.str q):OpV P o env H (.bool (Op.bytesLess p q)):=
 QcJ ho hx hy (by simp)
theorem QnR{t:TypeId}{x y:Operand}{s:List UInt8}{k:IntKind}{n:Int}{c:UInt8}(m:o.op=.index t x y)(z:∀w,(underlying t).run P w=.ok .string w)(i:opA env x=.str s)(j:opA env y=.int k n)
  (h0:0<=n)(h:s[n.toNat]?=some c):OpV P o env H (.int .u8 c.toNat):=by
 intro p u σ N a w r;have l:=Qfr r i;have q:=QT r j;have g:(⟨s.toArray⟩:ByteArray)[n.toNat]?=some c:=by
  obtain⟨d,f⟩:=XI.1 h;have e:(⟨s.toArray⟩:ByteArray).size=s.length:=by rfl
  rw[getElem?_pos _ _ (by exact d)];show some (s.toArray[n.toNat]'(by omega))=some c;simp[f]
 refine⟨_,?_,rfl⟩
 simp_all[execOp,Instr.index,asIntOf]
theorem Y2{c:Call}{t:TypeId}{x:Operand}{s:List UInt8}(e:o.op=.call c)(f:c={callee:=.builtin .len,args:= #[x],argTypes:= #[t]})(h:∀w,(underlying t).run P w=.ok .string w)
  (g:opA env x=.str s):OpV P o env H (.int .i64 s.length):=by
 intro i j σ N a w r;have d:=Qfr r g;generalize a.eval=ρ at*;subst f;simp[execOp,e,d,resolve,invoke,Builtin.len_,h,goInt,go_sem]<;>rfl
theorem QpB{c:Call}{t e:TypeId}{x:Operand}{k:Nat}{es:List (List A)}(f:o.op=.call c)(g:c={callee:=.builtin .len,args:= #[x],argTypes:= #[t]})(j:∀w,(underlying t).run P w=.ok (.slice e) w)
  (h:opA env x=.rsl k es):OpV P o env H (.int .i64 es.length):=by
 intro l m σ N a w r;have d:=Qi r x;rw[h]at d;obtain⟨ad,i,d,_⟩:=d;refine⟨_,?_,rfl⟩;generalize a.eval=ρ at*;subst g;simp[execOp,f,d,resolve,invoke,Builtin.len_,j,goInt,go_sem]
theorem QkJ{c:Call}{t e:TypeId}{x:Operand}{i s n k:Nat}(f:o.op=.call c)(g:c={callee:=.builtin .len,args:= #[x],argTypes:= #[t]})(l:∀w,(underlying t).run P w=.ok (.slice e) w)
  (h:opA env x=.osl i s n k):OpV P o env H (.int .i64 n):=by
 intro q y σ N a w r;have d:=Qi r x;rw[h]at d;refine⟨_,?_,rfl⟩;generalize a.eval=ρ at*;subst g;rcases d with⟨rfl,d⟩|⟨b,p,j,u,m,_,d,_⟩<;>
 simp[execOp,f,d,resolve,invoke,Builtin.len_,l,goInt,go_sem]
structure QI (P:Program) (T f off n:Nat):Prop where
 h:∃fs fd,(∀w,(underlying T).run P w=.ok (.struct fs) w)/\fs[f]?=some fd/\fd.offset=off/\(∀w,(sizeOf fd.type).run P w=.ok n w)/\n≠0
theorem Qas(b off n:Nat):(⟨b,off,none⟩:Addr).add n=⟨b,off+n,none⟩:=by
 simp_all[Addr.add]
theorem QeP{T f off n b p:Nat}(a:QI P T f off n)(w:World):(Instr.fieldAt T (.pointer (some ⟨b,p,none⟩)) f).run P w=.ok (.pointer (some ⟨b,p+off,none⟩)) w:=by
 obtain⟨i,e,d,j,rfl,g,k⟩:=a.h
 simp_all[Instr.fieldAt,Instr.sureAddr,fieldPlace,Qas]
theorem YJ{T f off n i p:Nat}{x:Operand}(j:QI P T f off n)(g:o.op=.fieldAddr T x f)(h:opA env x=.ptr i p):OpV P o env H (.ptr i (p+off)):=by
 intro k l σ N a w r;have d:=Qi r x;rw[h]at d;obtain⟨b,d,e⟩:=d;refine⟨.pointer (some ⟨b,p+off,none⟩),?_,b,d,rfl⟩;simp only[execOp,g,e,Vg,QeP j];rfl
theorem CR.drop{ro:Nat->Prop}{σ:Sig}{w:World}{b:Nat}:∀(n:Nat) {cs:List A} {off:Nat},CR ro σ w b cs off->CR ro σ w b (cs.drop n) (off+n)
 |0,_,_,h=>h
 |n+1,[],_,h=>trivial
 |n+1,c::cs,off,h=>by
  have:=CR.drop n h.2
  grind
theorem CR.take{ro:Nat->Prop}{σ:Sig}{w:World}{b:Nat}:∀(n:Nat) {cs:List A} {off:Nat},CR ro σ w b cs off->CR ro σ w b (cs.take n) off
 |0,_,_,h=>trivial
 |n+1,[],_,h=>trivial
 |n+1,c::cs,off,h=>⟨h.1,CR.take n h.2⟩
theorem QD{T f off n:Nat}{x:Operand}{cs cs':List A}(k:QI P T f off n)(g:o.op=.fieldAddr T x f)(h:opA env x=.rp cs)(e:cs.drop off=cs'):OpV P o env H (.rp cs'):=by
 intro l m σ N a w r;have d:=Qi r x;rw[h]at d;obtain⟨b,p,d,i,j⟩:=d;refine⟨.pointer (some ⟨b,p+off,none⟩),?_,b,p+off,rfl,i,e▸j.drop off⟩;simp only[execOp,g,d,Vg,QeP k];rfl
theorem RR.get{ro:Nat->Prop}{σ:Sig}{w:World}{b k:Nat}:∀(n:Nat) {es:List (List A)} {off:Nat} {c:List A},RR ro σ w b k es off->es[n]?=some c->c.length=k/\CR ro σ w b c (off+n*k)
 |n,[],_,_,h,hc=>by simp at hc
 |0,e::es,off,c,h,hc=>by
  simp at hc;subst hc;exact⟨h.1,by simpa using h.2.1⟩
 |n+1,e::es,off,c,h,hc=>by
  have:=RR.get n h.2.2 (by simpa using hc)
  grind
theorem QqF{t e:TypeId}{x y:Operand}{k:Nat}{es:List (List A)}{q:IntKind}{n:Int}{c:List A}(i:o.op=.indexAddr t x y)(s:∀w,(underlying t).run P w=.ok (.slice e) w)
  (m:∀w,(sizeOf e).run P w=.ok k w)(j:opA env x=.rsl k es)(E:opA env y=.int q n)(h0:0<=n)(u:es[n.toNat]?=some c):OpV P o env H (.rp c):=by
 intro G L σ N a w r;have f:=Qi r x;rw[j]at f;have p:=QT r E;obtain⟨ad,B,f,J,h⟩:=f;have g:n.toNat<es.length:=(by grind);rcases h with rfl|⟨b,d,rfl,F,l⟩
 .simp at g
 have z:n<es.length:=by omega
 refine⟨.pointer (some ⟨b,d+n.toNat*k,none⟩),?_,b,d+n.toNat*k,rfl,F,(l.get n.toNat u).2⟩;generalize a.eval=ρ at*;simp[i,f,p,Instr.indexAt,s,m,h0,z,go_sem]
theorem Qi1{t e:TypeId}{x y:Operand}{i s m k:Nat}{E:IntKind}{n:Int}(h:o.op=.indexAddr t x y)(F:∀w,(underlying t).run P w=.ok (.slice e) w)
  (q:∀w,(sizeOf e).run P w=.ok k w)(j:opA env x=.osl i s m k)(u:opA env y=.int E n)(h0:0<=n)(g:n<m):OpV P o env H (.ptr i (s*k+n.toNat*k)):=by
 intro G O σ N a w r;have d:=Qi r x;rw[j]at d;have B:=QT r u;rcases d with⟨rfl,_⟩|⟨b,p,l,J,L,z,d,f,M,_⟩
 .omega
 obtain rfl:=f (by omega);refine⟨.pointer (some ⟨b,s*k+n.toNat*k,none⟩),?_,b,z,rfl⟩;generalize a.eval=ρ at*;simp[h,d,B,Instr.indexAt,F,q,h0,g,go_sem]
def Pts(H:Qb)(p:A)(cs:List A):Prop:=
 ∀fr ro σ w v,Sim fr ro σ H w->VR ro σ w p v->∃b off,v=.pointer (some ⟨b,off,none⟩)/\CR ro σ w b cs off
theorem VR.lift{ro:Nat->Prop}{σ:Sig}{w:World}{a:A}{v:Value}(h:VR ro [] w a v):VR ro σ w a v:=
 h.mono ⟨λ_ q=>q,λ_ _=>rfl,λ_ _ q=>q,(by simp)⟩
theorem CR.lift{ro:Nat->Prop}{σ:Sig}{w:World}{b:Nat}:∀{cs:List A} {off:Nat},CR ro [] w b cs off->CR ro σ w b cs off
 |[],_,_=>trivial
 |c::cs,off,⟨⟨v,h1,hp,h2⟩,h3⟩=>⟨⟨v,h1,hp,h2.lift⟩,CR.lift h3⟩
theorem Pts.rp{cs:List A}:Pts H (.rp cs) cs:=λfr ro σ w v s ⟨b,off,h1,h2,h3⟩=>⟨b,off,h1,h3.lift⟩
theorem LR.cells{ro:Nat->Prop}{σ:Sig}{w:World}{b t:Nat}{fz:Nat×Nat}{pre l:List Value}(d:w.heap[b]?=some (.cells (pre++l).toArray t fz))(a:∀v∈l,Qz v):
  ∀{cs:List A},LR ro σ w cs l->CR ro σ w b cs pre.length:=by
 induction l generalizing pre with
 |nil=>
  intro cs h;cases cs with
  |nil=>trivial
  |cons c cs=>obtain⟨v,g,h,_⟩:=h;cases h
 |cons v l i=>
  intro cs h;cases cs with
  |nil=>trivial
  |cons c cs=>
   obtain⟨m,g,e,j,k⟩:=h;cases e;refine⟨⟨v,by simp[World.cell?,d],a v (by simp),j⟩,?_⟩;have:=i (pre:=pre++[v]) (by simpa using d) (λx f=>a x (by simp[f])) k
   grind
theorem Pts.cells{i off t:Nat}{cs cs':List A}(hH:H[i]?=some (.cells t cs))(d:cs.drop off=cs'):Pts H (.ptr i off) cs':=by
 intro j m σ w v s h;obtain⟨b,a,k⟩:=h;obtain⟨l,e,g,f⟩:=s.blk i _ _ a hH;have:=LR.cells (pre:=[]) (by simpa using e) f g;have:=this.drop off
 grind
theorem LR.get{ro:Nat->Prop}{σ:Sig}{w:World}:∀{az:List A} {l:List Value} (i:Nat) {a:A},LR ro σ w az l->az[i]?=some a->∃v,l[i]?=some v/\VR ro σ w a v
 |[],l,i,a,h,ha=>by simp at ha
 |x::az,l,0,a,⟨v,l',h1,h2,h3⟩,ha=>by
  grind
 |x::az,l,i+1,a,⟨v,l',h1,h2,h3⟩,ha=>by
  obtain⟨v',q1,q2⟩:=LR.get i h3 (by simpa using ha)
  grind
theorem LR.drop{ro:Nat->Prop}{σ:Sig}{w:World}:∀(n:Nat) {az:List A} {l:List Value},LR ro σ w az l->LR ro σ w (az.drop n) (l.drop n)
 |0,az,l,h=>h
 |n+1,[],l,h=>by cases(show l=[]from h);rfl
 |n+1,a::az,l,⟨v,l',h1,h2,h3⟩=>by subst h1;exact LR.drop n h3
theorem LR.take{ro:Nat->Prop}{σ:Sig}{w:World}:∀(n:Nat) {az:List A} {l:List Value},LR ro σ w az l->LR ro σ w (az.take n) (l.take n)
 |0,az,l,h=>rfl
 |n+1,[],l,h=>by cases(show l=[]from h);rfl
 |n+1,a::az,l,⟨v,l',h1,h2,h3⟩=>by subst h1;exact⟨v,l'.take n,rfl,h2,LR.take n h3⟩
theorem LR.append{ro:Nat->Prop}{σ:Sig}{w:World}:∀{az:List A} {l:List Value} {bs:List A} {m:List Value},LR ro σ w az l->LR ro σ w bs m->LR ro σ w (az++bs) (l++m)
 |[],l,bs,m,h,k=>by cases(show l=[]from h);exact k
 |a::az,l,bs,m,⟨v,l',h1,h2,h3⟩,k=>by subst h1;exact⟨v,l'++m,rfl,h2,LR.append h3 k⟩
theorem QmT{ro:Nat->Prop}{σ:Sig}{w:World}{b t:Nat}{fz:Nat×Nat}:∀{cs:List A} {pre l post:List Value},w.heap[b]?=some (.cells (pre++(l++post)).toArray t fz)->(∀v∈l,Qz v)->
  LR ro σ w cs l->CR ro σ w b cs pre.length
 |[],_,_,_,_,_,_=>trivial
 |c::cs,pre,l,post,hb,hpl,⟨v,l',h1,h2,h3⟩=>by
  subst h1;refine⟨⟨v,by simp[World.cell?,hb],hpl v (by simp),h2⟩,?_⟩;have:=QmT (pre:=pre++[v]) (by simpa using hb) (by grind) h3
  grind
theorem Y5{ro:Nat->Prop}{σ:Sig}{w:World}{b t k:Nat}{fz:Nat×Nat}:∀{es:List (List A)} {pre l:List Value},w.heap[b]?=some (.cells (pre++l).toArray t fz)->
  RL ro σ w k es l->RR ro σ w b k es pre.length
 |[],_,_,_,_=>trivial
 |c::es,pre,l,hb,⟨l1,l2,h1,h2,h3,h4⟩=>by
  subst h1;refine⟨h2,QmT hb h3.2 h3.1,?_⟩;have hl:=h3.1.length;have:=Y5 (pre:=pre++l1) (by simpa using hb) h4
  grind
theorem Pts.row{i off t k e f:Nat}{es:List (List A)}{c cs':List A}(hH:H[i]?=some (.row t k es))(g:off=e*k+f)(he:es[e]?=some c)(a:c.drop f=cs'):Pts H (.ptr i off) cs':=by
 intro p q σ w v s h;obtain⟨b,d,m⟩:=h;obtain⟨l,j,n⟩:=s.blk i _ _ d hH;have:=((Y5 (pre:=[]) (by simpa using j) n).get e he).2.drop f;refine⟨b,off,m,?_⟩;subst g a;simpa using this.lift
theorem Pts.rowr{i off t k e f:Nat}{es:List (List A)}{c cs':List A}(hH:H[i]?=some (.rowr t k es))(m:off=e*k+f)(he:es[e]?=some c)(d:c.drop f=cs'):Pts H (.ptr i off) cs':=by
 intro n q σ w v s h;obtain⟨b,a,p⟩:=h;obtain⟨l,g,j⟩:=s.blk i _ _ a hH;have:=((Y5 (pre:=[]) (by simpa using g) j).get e he).2.drop f
 grind
theorem QnD{w w':World}(h:w'.heap=w.heap)(a:Addr):w'.cell? a=w.cell? a:=by unfold World.cell?;rw[h]
theorem YE{ro:Nat->Prop}{σ:Sig}{w:World}{b off:Nat}:∀{cs:List A} (i:Nat),CR ro σ w b cs (off+i)->
  ∃l,LR ro σ w cs l/\(∀v∈l,Qz v)/\ ∀(w':World) (a:Array Value),w'.heap=w.heap->(loadCellsFrom ⟨b,off,none⟩ i cs.length a).run P w'=.ok (a++l.toArray) w'
 |[],i,h=>⟨[],rfl,by simp,λw' a _=>by rfl⟩
 |c::cs,i,⟨⟨v,h1,hp,h2⟩,h3⟩=>by
  obtain⟨l,q1,qp,q2⟩:=YE (i+1) (by omega);refine⟨v::l,⟨v,l,rfl,h2,q1⟩,by grind,λw' a hw=>?_⟩;have h1':w'.cell? ⟨b,off+i,none⟩=some v:=by rw[QnD hw];exact h1
  simp_all[loadCellsFrom,Qas]
theorem Qn{t n:Nat}{x:Operand}{p:A}{cs vs:List A}(q:o.op=.load t x)(u:∀w,(isAgg t).run P w=.ok true w)(s:∀w,(sizeOf t).run P w=.ok n w)(g:opA env x=p)(m:Pts H p cs)
  (h:cs.take n=vs)(hl:vs.length=n):OpV P o env H (.agg vs):=by
 intro f k σ N a w r;have d:=Qi r x;rw[g]at d;obtain⟨b,j,y,i⟩:=m f k σ w _ r.sim d;subst h;obtain⟨l,e,_,z⟩:=YE (P:=P) 0 (by simpa using i.take n);refine⟨.agg l.toArray,?_,l,rfl,e⟩
 simp_all[execOp,Instr.loadAt,Instr.sureAddr,loadVar,loadCells]
theorem OpV.load{t:Nat}{x:Operand}{p v:A}{cs:List A}(k:o.op=.load t x)(l:∀w,(isAgg t).run P w=.ok false w)(f:opA env x=p)(i:Pts H p (v::cs)):OpV P o env H v:=by
 intro e h σ N a w r;have d:=Qi r x;rw[f]at d;obtain⟨b,g,m,⟨y,n,_,j⟩,_⟩:=i e h σ w _ r.sim d
 simp_all[execOp,Instr.loadAt,Instr.sureAddr,loadVar]
theorem OpV.extract{x:Operand}{vs:List A}{i:Nat}{v:A}(j:o.op=.extract x i)(e:opA env x=.tup vs)(f:vs[i]?=some v):OpV P o env H v:=by
 intro k n σ N a w r;have d:=Qi r x;rw[e]at d;obtain⟨l,d,g⟩:=d;obtain⟨y,m,h⟩:=g.get i f
 simp_all[execOp,Instr.extract]
theorem Qbz{fr ro:Nat->Prop}{σ:Sig}{N:Nat}{a:Act}{w:World}(r:Rel fr ro σ H env N a w):∀(l:List Operand),LR ro σ w (l.map (opA env)) (l.map a.eval)
 |[]=>rfl
 |x::l=>⟨_,_,rfl,Qi r x,Qbz r l⟩
theorem OpV.makeFunc{f:Fn}{first cap:List Operand}{d e:List A}(i:o.op=.makeFunc f first.toArray cap.toArray)(g:first.map (opA env)=d)(h:cap.map (opA env)=e):OpV P o env H (.fn f d e):=by
 intro j k σ N a w r;refine⟨.func f (first.map a.eval).toArray (cap.map a.eval).toArray,?_,_,_,rfl,g▸Qbz r first,h▸Qbz r cap⟩
 simp_all[execOp,Instr.makeFunc]
theorem Qat{t:TypeId}{x:Operand}{v:A}{d:TypeDesc}(g:o.op=.makeInterface t x)(k:∀w,(underlying t).run P w=.ok d w)(j:∀m,d≠ .interface m)(f:opA env x=v):OpV P o env H (.iface t v):=by
 intro h i σ N a w r;have e:=Qi r x;rw[f]at e;refine⟨.iface t (a.eval x),?_,_,rfl,e⟩
 simp_all[execOp,Instr.makeInterface]
end
mutual
def YL:A->Bool
 |.ptr _ _=>false
 |.osl _ _ _ _=>false
 |.map _=>false
 |.agg cs=>Yu cs
 |.fn _ a c=>Yu a&&Yu c
 |.iface _ v=>YL v
 |.tup vs=>Yu vs
 |_=>true
def Yu:List A->Bool
 |[]=>true
 |a::r=>YL a&&Yu r
end
mutual
theorem VR.data{ro:Nat->Prop}{σ σ':Sig}{w:World}:∀{a:A} {v:Value},YL a=true->VR ro σ w a v->VR ro σ' w a v
 |.any,_,_,_=>trivial
 |.bool b,v,_,q=>q
 |.int k n,v,_,q=>q
 |.str s,v,_,q=>q
 |.nilp,v,_,q=>q
 |.ptr i off,v,d,q=>by simp[YL]at d
 |.rp cs,v,_,q=>q
 |.nils,v,_,q=>q
 |.rsl k es,v,_,q=>q
 |.osl i o n k,v,d,q=>by simp[YL]at d
 |.agg cs,v,d,q=>by
  simp only[VR,YL]at q d⊢;obtain⟨l,h1,h2⟩:=q;exact⟨l,h1,LR.data d h2⟩
 |.fn f a c,v,d,q=>by
  simp only[VR,YL,XT]at q d⊢;obtain⟨l,l',h1,h2,h3⟩:=q;exact⟨l,l',h1,LR.data d.1 h2,LR.data d.2 h3⟩
 |.nilf,v,_,q=>q
 |.iface t a,v,d,q=>by
  simp only[VR,YL]at q d⊢;obtain⟨x,h1,h2⟩:=q;exact⟨x,h1,VR.data d h2⟩
 |.nilif,v,_,q=>q
 |.map i,v,d,q=>by simp[YL]at d
 |.nilm,v,_,q=>q
 |.tup vs,v,d,q=>by
  simp only[VR,YL]at q d⊢;obtain⟨l,h1,h2⟩:=q;exact⟨l,h1,LR.data d h2⟩
theorem LR.data{ro:Nat->Prop}{σ σ':Sig}{w:World}:∀{az:List A} {l:List Value},Yu az=true->LR ro σ w az l->LR ro σ' w az l
 |[],_,_,q=>q
 |a::r,l,d,q=>by
  simp only[LR,Yu,XT]at q d⊢;obtain⟨v,l',h1,h2,h3⟩:=q;exact⟨v,l',h1,VR.data d.1 h2,LR.data d.2 h3⟩
end
def Yz:A->Bool
 |.any|.agg _|.tup _=>false
 |_=>true
def YA:A->List A
 |.agg cs=>cs
 |a=>[a]
def Yr:A->Bool
 |.any=>false
 |_=>true
theorem VR.plain{ro:Nat->Prop}{σ:Sig}{w:World}{a:A}{v:Value}(d:Yz a=true)(h:VR ro σ w a v):Qz v:=by
 cases a<;>first|(simp[Yz]at d)|skip
 case rsl k es=>obtain⟨ad,c,rfl,_⟩:=h;trivial
 case osl=>rcases h with⟨_,rfl⟩|⟨_,_,_,_,_,_,rfl,_⟩<;>trivial
 case fn=>obtain⟨_,_,rfl,_⟩:=h;trivial
 case iface=>obtain⟨_,rfl,_⟩:=h;trivial
 case ptr=>obtain⟨_,_,rfl⟩:=h;trivial
 case rp=>obtain⟨_,_,rfl,_⟩:=h;trivial
 case map=>obtain⟨_,_,rfl⟩:=h;trivial
 all_goals (subst h;trivial)
theorem VR.cells{ro:Nat->Prop}{σ:Sig}{w:World}{a:A}{v:Value}(e:Yr a=true)(h:VR ro σ w a v):∃l:List Value,v.cells=l.toArray/\LR ro σ w (YA a) l:=by
 cases a
 case any=>simp[Yr]at e
 case agg cs=>obtain⟨l,rfl,h⟩:=h;exact⟨l,rfl,h⟩
 case tup cs=>obtain⟨l,rfl,h⟩:=h;exact⟨[.tuple l.toArray],rfl,_,_,rfl,⟨l,rfl,h⟩,rfl⟩
 all_goals
  have d:=h.plain rfl;refine⟨[v],?_,v,[],rfl,h,rfl⟩;cases v<;>first|rfl|exact d.elim
theorem LR.plain{ro:Nat->Prop}{σ:Sig}{w:World}:∀{az:List A} {l:List Value},az.all Yz=true->LR ro σ w az l->∀v∈l,Qz v
 |[],l,_,h=>by cases(show l=[]from h);simp
 |a::az,l,hp,⟨v,l',h1,h2,h3⟩=>by
  subst h1;simp only[List.all_cons,XT]at hp;intro x hx;rcases X0.1 hx with rfl|hx
  .exact h2.plain hp.1
  .exact LR.plain hp.2 h3 x hx
theorem Yl(w:World)(obj:Obj)(b:Nat)(a:b<w.heap.size):(w.alloc obj).heap[b]?=w.heap[b]? :=by
 show(w.heap.push obj)[b]?=_
 grind
theorem Yn(w:World)(obj:Obj):(w.alloc obj).heap[w.heap.size]?=some obj:=by
 show(w.heap.push obj)[w.heap.size]?=_;simp
theorem Jr(w:World)(obj:Obj):(w.alloc obj).heap.size=w.heap.size+1:=by
 simp
theorem Qjo{w:World}{b:Nat}{x:TypeId×Nat}(h:w.shape? b=some x):b<w.heap.size:=by
 grind[World.shape?]
theorem Qk.alloc{fr ro:Nat->Prop}{w:World}(obj:Obj)(hro:∀b,ro b->b<w.heap.size)(hfr:∀b,fr b->b<w.heap.size):Qk fr ro w ro (w.alloc obj):=
 ⟨λ_ h=>h,λb h=>Yl w obj b (hro b h),λb h=>Yl w obj b (hfr b h),by simp,
  λb x h=>by grind[World.shape?,Yl],rfl,rfl,rfl,XQ _⟩
section
variable {P:Program} {o:Oper} {env:Env} {H:Qb} {fr ro:Nat->Prop} {σ:Sig} {w:World}
theorem Sim.alloc(s:Sim fr ro σ H w){obj:Obj}{x:Blk}(J:BR ro (σ++[some w.heap.size]) (w.alloc obj) x (some w.heap.size))
  (u:∀c,Hid (w.alloc obj) x w.heap.size c->False:=by exact λ_ h=>h.elim):
  Sim fr ro (σ++[some w.heap.size]) (H++[x]) (w.alloc obj):=by
 have ev:Qk fr ro w ro (w.alloc obj):=Qk.alloc obj s.roLt s.frLt;have l:=s.len;have e:∀(i:Nat) (y:Option Nat),(σ++[some w.heap.size])[i]?=some y->(i<σ.length/\σ[i]?=some y)\/(i=σ.length/\y=some w.heap.size):=by
  grind
 have k:∀i:Nat,i<σ.length->(H++[x])[i]?=H[i]? :=λi G=>XJ (by omega);have F:(H++[x])[σ.length]?=some x:=by rw[l];simp
 refine⟨by simp[l],s.roOk.to (λ_ q=>q) ev.keepRo (λb h=>?_),λb h=>?_,s.roFr,?_,?_,?_,?_⟩
 .rw[Jr];have:=s.roLt b h;omega
 .rw[Jr];have:=s.frLt b h;omega
 .intro i b y f g n;rw[Jr];rcases e i _ f with⟨q,f⟩|⟨rfl,p⟩
  .rw[k i q]at g;obtain⟨a,b,c⟩:=s.own i b y f g n
   grind
  .cases p;exact⟨by omega,λq=>by have:=s.roLt _ q;omega,λq=>by have:=s.frLt _ q;omega⟩
 .intro i j b y z f g n t E B;rcases e i _ f with⟨q,f⟩|⟨rfl,p⟩<;>rcases e j _ g with⟨q',g⟩|⟨rfl,e2⟩
  .rw[k i q]at n;rw[k j q']at t;exact s.inj i j b y z f g n t E B
  .cases e2;rw[k i q]at n;have:=(s.own i _ y f n E).1;omega
  .cases p;rw[k j q']at t;have:=(s.own j _ z g t B).1;omega
  .rfl
 .intro i y z f g;rcases e i _ f with⟨q,f⟩|⟨rfl,p⟩
  .rw[k i q]at g;refine(s.blk i y z f g).keep (ev.ext σ _) ?_ ?_
   .rintro b rfl l;exact Yl w obj b (s.own i b z f g l).1
   .rintro b c rfl l;exact Yl w obj c (s.hid i b z c f g l).lt
  grind
 .refine s.hidTo (· = ·) Q9 (by rw[Jr];omega) (λ_ _ _ _ _ _ _ q=>q) (λ_ _ _ _ _ _ _ q=>q) λj d y r m L=>?_;rcases e j _ r with⟨q,r⟩|⟨rfl,p⟩
  .rw[k j q]at m;exact .inl ⟨j,y,rfl,r,m,id,λc q=>s.hidKeep r m (λz=>Yl w obj d (s.own j d y r m z).1) ev.keepRo q⟩
  .rw[F]at m;cases m;cases p;exact .inr ⟨XQ _,u⟩
theorem Sim.allocCells(s:Sim fr ro σ H w){t:Nat}{cs:List A}{l:List Value}(h:LR ro σ w cs l)(hp:∀v∈l,Qz v):
  Sim fr ro (σ++[some w.heap.size]) (H++[.cells t cs]) (w.alloc (.cells l.toArray t)):=
 s.alloc ⟨l,Yn _ _,h.mono ((Qk.alloc _ s.roLt s.frLt).ext σ _),hp⟩
theorem QkS{ro:Nat->Prop}{σ:Sig}{w:World}:∀{az bs:List A} {l:List Value},LR ro σ w (az++bs) l->∃l1 l2,l=l1++l2/\LR ro σ w az l1/\LR ro σ w bs l2
 |[],bs,l,h=>⟨[],l,rfl,rfl,h⟩
 |a::az,bs,l,⟨v,l',h1,h2,h3⟩=>by
  obtain⟨l1,l2,e,q1,q2⟩:=QkS h3;subst h1 e;exact⟨v::l1,l2,rfl,⟨v,l1,rfl,h2,q1⟩,q2⟩
def allK(k:Nat):List (List A)->Prop
 |[]=>True
 |c::es=>c.length=k/\allK k es
theorem Jt{k:Nat}:∀{es:List (List A)} {l rest:List Value},allK k es->LR ro σ w es.flatten l->(∀v∈l,Qz v)->RL ro σ w k es (l++rest)
 |[],_,_,_,_,_=>trivial
 |c::es,l,rest,⟨h1,h2⟩,h,hp=>by
  obtain⟨l1,l2,rfl,q1,q2⟩:=QkS h;exact⟨l1,l2++rest,by simp,h1,(by grind),Jt h2 q2 (by grind)⟩
theorem Sim.allocRow(s:Sim fr ro σ H w){t k:Nat}{es:List (List A)}{l rest:List Value}(hk:allK k es)(h:LR ro [] w es.flatten l)(hp:∀v∈l,Qz v):
  Sim fr ro (σ++[some w.heap.size]) (H++[.row t k es]) (w.alloc (.cells (l++rest).toArray t)):=
 s.alloc ⟨l++rest,Yn _ _,(Jt hk h hp).mono ((Qk.alloc _ s.roLt s.frLt).ext0 [])⟩
theorem Sim.allocRowr(s:Sim fr ro σ H w){t k:Nat}{es:List (List A)}{l rest:List Value}(hk:allK k es)(h:LR ro σ w es.flatten l)(hp:∀v∈l,Qz v):
  Sim fr ro (σ++[some w.heap.size]) (H++[.rowr t k es]) (w.alloc (.cells (l++rest).toArray t)):=
 s.alloc ⟨l++rest,Yn _ _,(Jt hk h hp).mono ((Qk.alloc _ s.roLt s.frLt).ext σ _)⟩
theorem OpH.box{t:Nat}{x:Operand}{v:A}{cs:List A}(n:o.op=.box t x)(j:opA env x=v)(i:Yr v=true)(d:YA v=cs)(f:cs.all Yz=true):
  OpH P o env H (.ptr H.length 0) (H++[.cells t cs]):=by
 intro p m σ N a w r;have g:=Qi r x;rw[j]at g;obtain⟨l,k,h⟩:=g.cells i;subst d;refine⟨.pointer (some ⟨w.heap.size,0,none⟩),w.alloc (.cells l.toArray t),m,[some w.heap.size],?_,⟨w.heap.size,?_,rfl⟩,r.sim.allocCells h (h.plain f),Qk.alloc _ r.sim.roLt r.sim.frLt⟩
 .generalize a.eval=ρ at*;have e:(newVar t (ρ x)).run P w=.ok ⟨w.heap.size,0,none⟩ (w.alloc (.cells l.toArray t)):=by
   unfold newVar;rw[k];rfl
  simp_all[execOp,Instr.box]
 .rw[<- r.sim.len];simp
theorem Sim.set(s:Sim fr ro σ H w){i b:Nat}{x x':Blk}{obj:Obj}(hσ:σ[i]?=some (some b))(hH:H[i]?=some x)(hl:x.live=true)
  (O:∀y,w.shape? b=some y->({w with heap:=w.heap.setIfInBounds b obj}:World).shape? b=some y)
  (B:Ext ro σ w ro σ {w with heap:=w.heap.setIfInBounds b obj}->({w with heap:=w.heap.setIfInBounds b obj}:World).heap[b]?=some obj->BR ro σ {w with heap:=w.heap.setIfInBounds b obj} x' (some b))
  (P:∀c,Hid {w with heap:=w.heap.setIfInBounds b obj} x' b c->Hid w x b c:=by exact λ_ h=>h.elim):
  Sim fr ro σ (H.set i x') {w with heap:=w.heap.setIfInBounds b obj}/\Qk fr ro w ro {w with heap:=w.heap.setIfInBounds b obj}:=by
 obtain⟨W,M,N⟩:=s.own i b x hσ hH hl;have m:∀c,c≠b->({w with heap:=w.heap.setIfInBounds b obj}:World).heap[c]?=w.heap[c]? :=by
  grind
 have F:({w with heap:=w.heap.setIfInBounds b obj}:World).heap[b]?=some obj:=by
  grind
 have l:({w with heap:=w.heap.setIfInBounds b obj}:World).heap.size=w.heap.size:=by simp
 have ev:Qk fr ro w ro {w with heap:=w.heap.setIfInBounds b obj}:=
  ⟨λ_ h=>h,(by grind),(by grind),by omega,by
   grind[World.shape?],rfl,rfl,rfl,XQ _⟩
 have T:i<H.length:=(by grind);have Q:(H.set i x')[i]?=some x':=(by grind);have a:∀j,j≠i->(H.set i x')[j]?=H[j]? :=(by grind);have J:=B (ev.ext0 σ) F;refine⟨⟨by rw[XZ];exact s.len,s.roOk.to (λ_ q=>q) ev.keepRo (λc h=>by rw[l];exact s.roLt c h),λc h=>by rw[l];exact s.frLt c h,s.roFr,?_,?_,?_,?_⟩,ev⟩
 .intro j c y g f p;rw[l];by_cases q:j=i
  .grind
  .rw[a j q]at f;exact s.own j c y g f p
 .intro j k c y z g f p t L G;by_cases q:j=i
  .subst q;rw[hσ]at g;cases g;by_cases r:k=j
   .exact r.symm
   .rw[a k r]at t;exact s.inj j k _ x z hσ f hH t hl G
  .rw[a j q]at p;by_cases r:k=i
   .subst r;rw[hσ]at f;cases f;exact s.inj j k _ y x g hσ p hH L hl
   .rw[a k r]at t;exact s.inj j k c y z g f p t L G
 .intro j y z g f;by_cases q:j=i
  .grind
  .rw[a j q]at f;refine(s.blk j y z g f).keep (ev.ext0 σ) ?_ ?_
   .rintro c rfl n;exact m c (λe=>q (s.inj j i b z x (e▸g) hσ f hH n hl))
   .rintro c d rfl R;exact m d ((s.hid j c z d g f R).ne i b x hσ hH hl)
 .refine s.hidTo (· = ·) Q9 (by omega) (λ_ _ _ _ _ _ _ q=>q) (λ_ _ _ _ _ _ _ q=>q) λj d y E u V=>.inl ?_;by_cases q:j=i
  .grind
  .rw[a j q]at u;exact⟨j,y,rfl,E,u,id,λc z=>s.hidKeep E u (λn=>m d (λe=>q (s.inj j i b y x (e▸E) hσ u hH n hl))) ev.keepRo z⟩
def splice{α:Type}(l:List α)(o:Nat)(vs:List α):List α:=l.take o++vs++l.drop (o+vs.length)
theorem YO{α:Type}{l:List α}{o:Nat}{vs:List α}(h:o+vs.length<=l.length):(splice l o vs).length=l.length:=by
 simp[splice];omega
theorem Qbs{h:Array Obj}{b:Nat}{f:Obj->Obj}{x:Obj}(a:h[b]?=some x):h.modify b f=h.setIfInBounds b (f x):=by
 grind
theorem Yy{b t:Nat}:∀{vs l:List Value} {w:World} (off i:Nat),w.heap[b]?=some (.cells l.toArray t (0,0))->off+i+vs.length<=l.length->(∀v∈vs,Qz v)->
  (storeCells ⟨b,off,none⟩ vs i).run P w=.ok () {w with heap:=w.heap.setIfInBounds b (.cells (splice l (off+i) vs).toArray t (0,0))}
 |[],l,w,off,i,hb,hl,hp=>by
  have e:w.heap.setIfInBounds b (.cells (splice l (off+i) []).toArray t (0,0))=w.heap:=by
   apply Array.ext_getElem?;intro j;rw[X8];by_cases q:b=j
   .subst q;obtain⟨a,k⟩:=X7.1 hb;simp[a,splice,k]
   grind
  rw[e];rfl
 |v::vs,l,w,off,i,hb,hl,hp=>by
  simp only[XW]at hl;have p:=hp v (by simp);have m:w.cell? ⟨b,off+i,none⟩=some l[off+i]:=by
   simp[World.cell?,hb]
  have f:w.frozen? ⟨b,off+i,none⟩=false:=by
   simp[World.frozen?,hb]
  have d:w.setCell ⟨b,off+i,none⟩ v={w with heap:=w.heap.setIfInBounds b (.cells (splice l (off+i) [v]).toArray t (0,0))}:=by
   unfold World.setCell;rw[Qbs hb];simp only[Option.isSome_none,Xj,if_false];congr 3;have:l.toArray.setIfInBounds (off+i) v=(l.set (off+i) v).toArray:=by simp
   rw[this];congr 1;rw[List.set_eq_take_append_cons_drop,Vm (by omega)];simp[splice]
  have a:b<w.heap.size:=by
   grind
  have n:=Yy (vs:=vs) (l:=splice l (off+i) [v]) (w:={w with heap:=w.heap.setIfInBounds b (.cells (splice l (off+i) [v]).toArray t (0,0))}) off (i+1)
   (by show(w.heap.setIfInBounds b _)[b]?=_;rw[X8,Vm rfl,Vm a])
   (by rw[YO (by simp;omega)];omega) (by grind)
  have u:splice (splice l (off+i) [v]) (off+(i+1)) vs=splice l (off+i) (v::vs):=by
   have g:(l.take (off+i)).length=off+i:=by simp;omega
   unfold splice;rw[Vc (l.take (off+i))];have x:off+(i+1)=(l.take (off+i)).length+1:=by omega
   have s:(l.take (off+i)++([v]++l.drop (off+i+[v].length))).take ((l.take (off+i)).length+1)=l.take (off+i)++[v]:=by
    grind
   have y:(l.take (off+i)++([v]++l.drop (off+i+[v].length))).drop ((l.take (off+i)).length+1+vs.length)=l.drop (off+i+(v::vs).length):=by
    rw[show(l.take (off+i)).length+1+vs.length=(l.take (off+i)).length+(1+vs.length)from by omega,X5];simp[Nat.add_comm 1];omega
   simp_all
  have h:(w.heap.setIfInBounds b (.cells (splice l (off+i) [v]).toArray t (0,0))).setIfInBounds b (.cells (splice (splice l (off+i) [v]) (off+(i+1)) vs).toArray t (0,0))=
    w.heap.setIfInBounds b (.cells (splice l (off+i) (v::vs)).toArray t (0,0)):=by
   grind
  rw[h]at n;have r:(Go.store ⟨b,off+i,none⟩ v).run P w=.ok () {w with heap:=w.heap.setIfInBounds b (.cells (splice l (off+i) [v]).toArray t (0,0))}:=by
   rw[<- d];cases v<;>first|exact p.elim|simp[Go.store,Sem.run,m,f,go_sem]
  simp_all[storeCells,Qas]
theorem QaJ{w:World}{b t:Nat}{l l':List Value}(d:w.heap[b]?=some (.cells l.toArray t (0,0)))(hl:l'.length=l.length)(y:TypeId×Nat)(h:w.shape? b=some y):
  {w with heap:=w.heap.setIfInBounds b (.cells l'.toArray t (0,0))}.shape? b=some y:=by
 have a:b<w.heap.size:=by
  grind
 simp_all[World.shape?]
theorem LR.splice{ro:Nat->Prop}{σ:Sig}{w:World}{az vs:List A}{l m:List Value}(off:Nat)(h:LR ro σ w az l)(k:LR ro σ w vs m):LR ro σ w (Sw.splice az off vs) (Sw.splice l off m):=by
 unfold Sw.splice;rw[k.length];exact((h.take off).append k).append (h.drop _)
theorem Qf4{l m:List Value}{off:Nat}(h:∀v∈l,Qz v)(k:∀v∈m,Qz v):∀v∈Sw.splice l off m,Qz v:=by
 grind[Sw.splice]
theorem OpU.store{t n i off T:Nat}{x y:Operand}{cs vs cs':List A}{v:A}(V:o.op=.store t x y)(J:opA env x=.ptr i off)(hH:H[i]?=some (.cells T cs))(X:∀w,(sizeOf t).run P w=.ok n w)
  (p:opA env y=v)(G:Yr v=true)(L:YA v=vs)(O:vs.length=n)(E:vs.all Yz=true)(q:Nat.ble (off+n) cs.length=true)(h:splice cs off vs=cs'):
  OpU P o env H (H.set i (.cells T cs')):=by
 intro W Q σ N a w r;have d:=Qi r x;rw[J]at d;obtain⟨b,d,Y⟩:=d;have s:=Qi r y;rw[p]at s;obtain⟨m,R,g⟩:=s.cells G;rw[L]at g;obtain⟨l,z,k,M⟩:=r.sim.blk i _ _ d hH;have j:off+n<=cs.length:=by simp_all
 have B:m.length=n:=by rw[g.length,O]
 have u:=Yy (P:=P) off 0 z (by rw[k.length,B];omega) (g.plain E);have f:=r.sim.set (x':=.cells T cs') d hH rfl
  (λy p=>QaJ z (YO (by rw[k.length,B];omega)) y p)
  (λe F=>⟨_,F,h▸(k.splice off g).mono e,Qf4 M (g.plain E)⟩)
 refine⟨_,Q,[],?_,by grind,f.2⟩
 simp_all[storeVar,execOp,Instr.storeAt,Instr.sureAddr]
theorem RL.splice{ro:Nat->Prop}{σ:Sig}{w:World}{k:Nat}:∀{e:Nat} {es:List (List A)} {l m:List Value} {c a:List A} {f:Nat},RL ro σ w k es l->es[e]?=some c->LR ro σ w a m->(∀v∈m,Qz v)->f+a.length<=k->
  RL ro σ w k (es.set e (Sw.splice c f a)) (Sw.splice l (e*k+f) m)
 |_,[],_,_,_,_,_,_,h,_,_,_=>by simp at h
 |0,c0::es,l,m,c,a,f,⟨l1,l2,h1,h2,h3,h4⟩,hc,hm,hp,hf=>by
  simp at hc;subst hc h1;have hl1:=h3.1.length;refine⟨Sw.splice l1 f m,l2,?_,?_,⟨h3.1.splice f hm,Qf4 h3.2 hp⟩,h4⟩
  .unfold Sw.splice;simp[Nat.zero_mul,Xu,Vc];rw[X2 (by omega),X3 (by rw[hm.length];omega)]
  .rw[YO (by omega)];exact h2
 |e+1,c0::es,l,m,c,a,f,⟨l1,l2,h1,h2,h3,h4⟩,hc,hm,hp,hf=>by
  subst h1;have hl1:=h3.1.length;refine⟨l1,Sw.splice l2 (e*k+f) m,?_,h2,h3,RL.splice h4 (by grind) hm hp hf⟩;have e1:(e+1)*k+f=l1.length+(e*k+f):=by grind
  unfold Sw.splice;rw[e1,X6,show l1.length+(e*k+f)+m.length=l1.length+(e*k+f+m.length)from by omega,X5];simp
theorem RL.length{ro:Nat->Prop}{σ:Sig}{w:World}{k:Nat}:∀{es:List (List A)} {l:List Value},RL ro σ w k es l->es.length*k<=l.length
 |[],l,_=>by simp
 |c::es,l,⟨l1,l2,h1,h2,h3,h4⟩=>by
  have:=RL.length h4;have:=h3.1.length
  grind[Nat.succ_mul]
theorem Qi2{t n i off T k e f:Nat}{x y:Operand}{es es':List (List A)}{c vs G:List A}{v:A}(ho:o.op=.store t x y)(R:opA env x=.ptr i off)(hH:H[i]?=some (.row T k es))(hs:∀w,(sizeOf t).run P w=.ok n w)
  (g:off=e*k+f)(W:es[e]?=some c)(u:opA env y=v)(Q:Yr v=true)(V:YA v=vs)(X:vs.length=n)(J:vs.all Yz=true)(hd:Yu vs=true)(hf:Nat.ble (f+n) k=true)
  (p:splice c f vs=G)(q:es.set e G=es'):
  OpU P o env H (H.set i (.row T k es')):=by
 intro fr Y σ N a w r;have d:=Qi r x;rw[R]at d;obtain⟨b,d,h2⟩:=d;have z:=Qi r y;rw[u]at z;obtain⟨m,h4,j⟩:=z.cells Q;rw[V]at j;obtain⟨l,F,B⟩:=r.sim.blk i _ _ d hH;have O:f+n<=k:=by simp_all
 have hm:m.length=n:=by rw[j.length,X]
 have M:e<es.length:=(by grind);have L:off+n<=l.length:=by
  have:=B.length;have h6:=XA k M
  grind
 have E:=Yy (P:=P) off 0 F (by omega) (j.plain J);have h:=r.sim.set (x':=.row T k es') (obj:=.cells (splice l off m).toArray T (0,0)) d hH rfl
  (λy u=>QaJ F (YO (by omega)) y u)
  (λex s=>⟨_,s,by
   subst q p g;exact(B.splice W (j.data hd) (j.plain J) (by omega)).mono ex.nil⟩)
 refine⟨_,Y,[],?_,by grind,h.2⟩
 simp_all[storeVar,execOp,Instr.storeAt,Instr.sureAddr]
end
section
variable {P:Program} {o:Oper} {env:Env} {H:Qb} {fr ro:Nat->Prop} {σ:Sig} {w:World}
theorem Ext.heap{w':World}(h:w'.heap=w.heap):Ext ro σ w ro σ w':=
 ⟨λ_ q=>q,λb _=>by rw[h],λb x q=>by unfold World.shape? at q⊢;grind,λ_ _ q=>q⟩
theorem Sim.heap{w':World}(s:Sim fr ro σ H w)(h:w'.heap=w.heap):Sim fr ro σ H w':=
 ⟨s.len,s.roOk.to (λ_ q=>q) (λb _=>by rw[h]) (λb q=>by rw[h];exact s.roLt b q),λb q=>by rw[h];exact s.frLt b q,s.roFr,λi b x q1 q2 q3=>by rw[h];exact s.own i b x q1 q2 q3,s.inj,
  λi y x q1 q2=>(s.blk i y x q1 q2).keep (Ext.heap h) (by grind) (by grind),
  s.hidTo (· = ·) Q9 (by grind) (by simp) (by simp) λj d y g1 g2 g3=>.inl ⟨j,y,rfl,g1,g2,id,λc q=>q.keep (by rw[h])⟩⟩
theorem Qk.heap{w':World}(h:w'.heap=w.heap)(ho:w'.os=w.os)(ht:w'.tape=w.tape)(hu:w'.output=w.output)(hd:w.drawn<=w'.drawn):Qk fr ro w ro w':=
 ⟨λ_ q=>q,λb _=>by rw[h],λb _=>by rw[h],by grind,λb x q=>by unfold World.shape? at q⊢;grind,ho,ht,hu,hd⟩
theorem Sim.moved(s:Sim fr ro σ H w){i:Nat}{x:Blk}{y:Option Nat}(hH:H[i]?=some x)(hσ:σ[i]?=some y):Sim fr ro (σ++[y]) (H.set i .dead++[x]) w:=by
 have G:=s.len;have Q:i<H.length:=(by grind);have a:∀(j:Nat) (z:Option Nat) (v:Blk),(σ++[y])[j]?=some z->(H.set i .dead++[x])[j]?=some v->v≠ .dead->
   (j<σ.length/\j≠i/\σ[j]?=some z/\H[j]?=some v)\/(j=σ.length/\z=y/\v=x):=by
  grind
 have hσ':∀(j:Nat) (b:Nat),σ[j]?=some (some b)->(σ++[y])[j]?=some (some b):=(by grind);have ext:Ext ro σ w ro (σ++[y]) w:=⟨λ_ q=>q,λ_ _=>rfl,λ_ _ q=>q,hσ'⟩;refine⟨by simp[G],s.roOk,s.frLt,s.roFr,?_,?_,?_,s.hidTo (λj u=>(j<σ.length/\j≠i/\u=j)\/(j=σ.length/\u=i)) (by omega) (XQ _) (by simp) (by simp) λj d y M L N=>.inl ?_⟩
 rotate_left 3
 .rcases a j _ y M L (QfB N)with⟨J,E,e,f⟩|⟨J,n,rfl⟩
  .grind
  grind
 .intro j b v g h k;rcases a j _ v g h (Qav k)with⟨_,_,e,f⟩|⟨_,n,rfl⟩
  .exact s.own j b v e f k
  .subst n;exact s.own i b v hσ hH k
 .intro j r b v p g h k B m l;rcases a j _ v g k (Qav m)with⟨_,O,e,f⟩|⟨P,n,F⟩<;>rcases a r _ p h B (Qav l)with⟨_,n1',q1',q2'⟩|⟨r1',e1',r2'⟩
  .exact s.inj j r b v p e q1' f q2' m l
  .subst e1' r2';exact(O (s.inj j i b v p e hσ f hH m l)).elim
  .subst n F;exact(n1' (s.inj r i b p v q1' hσ q2' hH l m)).elim
  omega
 .intro j z v g h;by_cases t:v≠ .dead
  .rcases a j z v g h t with⟨_,_,e,f⟩|⟨_,rfl,rfl⟩
   .exact(s.blk j z v e f).keep ext (λ_ _ _=>rfl) (λ_ _ _ _=>rfl)
   .exact(s.blk i _ _ hσ hH).keep ext (λ_ _ _=>rfl) (λ_ _ _ _=>rfl)
  .obtain rfl:v=.dead:=Classical.not_not.1 t;trivial
def Src(P:Program)(H:Qb)(x:A)(k:Nat)(es:List (List A)):Prop:=
 ∀fr ro σ w v,Sim fr ro σ H w->VR ro σ w x v->(∃a c,v=.slice a es.length c)/\allK k es/\
  ∃l,(∀w':World,w'.heap=w.heap->(Builtin.firstCells k es.length v).run P w'=.ok l.toArray w')/\LR ro [] w es.flatten l/\ ∀v∈l,Qz v
theorem RR.flat{b k:Nat}:∀{es:List (List A)} {off:Nat},RR ro σ w b k es off->CR ro σ w b es.flatten off/\allK k es/\es.flatten.length=es.length*k
 |[],off,_=>⟨trivial,trivial,by simp⟩
 |c::es,off,⟨h1,h2,h3⟩=>by
  obtain⟨q1,q2,q3⟩:=RR.flat h3;refine⟨?_,⟨h1,q2⟩,by grind⟩;have:∀(c:List A) (off:Nat) (d:List A),CR ro σ w b c off->CR ro σ w b d (off+c.length)->CR ro σ w b (c++d) off:=by
   intro c
   induction c with
   |nil=>simp
   |cons x c a=>intro off d ⟨h1,h2⟩ h;exact⟨h1,a (off+1) d h2 (by grind)⟩
  grind
theorem Qcw{b off k n c:Nat}{cs:List A}(h:CR ro σ w b cs off)(e:cs.length=n*k):
  ∃l,(∀w',w'.heap=w.heap->(Builtin.firstCells k n (.slice (some ⟨b,off,none⟩) n c)).run P w'=.ok l.toArray w')/\LR ro σ w cs l/\ ∀v∈l,Qz v:=by
 obtain⟨l,a,d,f⟩:=YE (P:=P) 0 (by simpa using h)
 grind[Builtin.firstCells,loadCells]
theorem Ja{k c:Nat}{a:Option Addr}:(Builtin.firstCells k 0 (.slice a 0 c)).run P w=.ok #[] w:=by
 cases a<;>simp[go_sem]
theorem Src.rsl{k:Nat}{es:List (List A)}:Src P H (.rsl k es) k es:=by
 intro j l σ w v s ⟨a,c,h1,h2,h3⟩;subst h1;refine⟨⟨a,c,rfl⟩,?_⟩;rcases h3 with rfl|⟨b,h,rfl,i,f⟩
 .exact⟨trivial,[],λ_ _=>Ja,rfl,by simp⟩
 .obtain⟨e,g,d⟩:=f.flat;exact⟨g,Qcw e d⟩
theorem Src.nils{k:Nat}:Src P H .nils k []:=by
 intro d a σ w v s h;subst h;exact⟨⟨none,0,rfl⟩,trivial,[],λ_ _=>Ja,rfl,by simp⟩
theorem RR.drop{b k:Nat}:∀(n:Nat) {es:List (List A)} {off:Nat},RR ro σ w b k es off->RR ro σ w b k (es.drop n) (off+n*k)
 |0,_,_,h=>by simpa using h
 |n+1,[],_,_=>trivial
 |n+1,c::es,off,⟨h1,h2,h3⟩=>by
  have:=RR.drop n h3
  grind
theorem RR.take{b k:Nat}:∀(n:Nat) {es:List (List A)} {off:Nat},RR ro σ w b k es off->RR ro σ w b k (es.take n) off
 |0,_,_,h=>trivial
 |n+1,[],_,_=>trivial
 |n+1,c::es,off,⟨h1,h2,h3⟩=>⟨h1,h2,RR.take n h3⟩
theorem Src.osl{i s n k t:Nat}{es es':List (List A)}(hH:H[i]?=some (.row t k es))(he:(es.drop s).take n=es')(B:s+n<=es.length):Src P H (.osl i s n k) k es':=by
 intro x J σ w v sm h;have j:es'.length=n:=by grind
 rcases h with⟨rfl,rfl⟩|⟨b,p,a,z,m,g,rfl,E,G,r,F⟩
 .have e:es'=[]:=(by grind);subst e;exact⟨⟨none,0,rfl⟩,trivial,[],λ_ _=>Ja,rfl,by simp⟩
 .rw[j];refine⟨⟨_,a,rfl⟩,?_⟩;obtain⟨l,d,f⟩:=sm.blk i _ _ g hH;have q:=((Y5 (pre:=[]) (by simpa using d) f).drop s).take n;by_cases u:0<a
  .obtain⟨d,f,y⟩:=q.flat
   simp_all[Qcw]
  .obtain rfl:n=0:=by omega
   have e:es'=[]:=(by grind);subst e;exact⟨trivial,[],λ_ _=>Ja,rfl,by simp⟩
def QC:Nat:=4294967296
theorem Qfg(n c:Nat)(h:c<n):Builtin.nextslicecap n c<=4*n+1000:=by
 grind[Builtin.nextslicecap,Builtin.growBy]
structure Q1 (P:Program) (T e k:Nat):Prop where
 sl:∀w,(underlying T).run P w=.ok (.slice e) w
 size:∀w,(sizeOf e).run P w=.ok k w
 zero:∃z,(∀w,(zeroValue e).run P w=.ok z w)/\z.cells.size=k
 bytes:∃i,(∀w,(typeInfo e).run P w=.ok i w)/\i.bytes<=4096
theorem QkR{T k:Nat}{es:List (List A)}{l rest:List Value}(s:Sim fr ro σ H w)(hk:allK k es)(h:LR ro [] w es.flatten l)(hp:∀v∈l,Qz v):
  Sim fr ro (σ++[some w.heap.size]) (H++[.row T k es]) (w.alloc (.cells (l++rest).toArray T))/\Qk fr ro w ro (w.alloc (.cells (l++rest).toArray T)):=
 ⟨s.allocRow hk h hp,Qk.alloc _ s.roLt s.frLt⟩
theorem YP{k:Nat}:∀{es:List (List A)},allK k es->es.flatten.length=es.length*k
 |[],_=>by simp
 |c::es,⟨h1,h2⟩=>by simp[YP h2,h1,Xm,Nat.add_comm]
theorem Qe9{k:Nat}:∀{es fs:List (List A)},allK k es->allK k fs->allK k (es++fs)
 |[],_,_,h=>h
 |c::es,_,⟨h1,h2⟩,h=>⟨h1,Qe9 h2 h⟩
theorem Qh3{k:Nat}:∀{es:List (List A)} (n:Nat),allK k es->allK k (es.take n)
 |_,0,_=>trivial
 |[],n+1,_=>trivial
 |c::es,n+1,⟨h1,h2⟩=>⟨h1,Qh3 n h2⟩
theorem RL.allK{k:Nat}:∀{es:List (List A)} {l:List Value},RL ro σ w k es l->allK k es
 |[],_,_=>trivial
 |c::es,l,⟨l1,l2,h1,h2,h3,h4⟩=>⟨h2,RL.allK h4⟩
theorem RL.app{k:Nat}:∀{n:Nat} {es fs:List (List A)} {l m:List Value},RL ro σ w k es l->n<=es.length->Sw.allK k fs->LR ro σ w fs.flatten m->(∀v∈m,Qz v)->
  RL ro σ w k (es.take n++fs) (Sw.splice l (n*k) m)
 |0,es,fs,l,m,h,hn,hk,hm,hp=>by
  simp_all[Sw.splice,Jt]
 |n+1,[],fs,l,m,h,hn,hk,hm,hp=>by simp at hn
 |n+1,c::es,fs,l,m,⟨l1,l2,h1,h2,h3,h4⟩,hn,hk,hm,hp=>by
  subst h1;have hl1:=h3.1.length;refine⟨l1,Sw.splice l2 (n*k) m,?_,h2,h3,RL.app h4 (by grind) hk hm hp⟩;have e1:(n+1)*k=l1.length+n*k:=by grind
  unfold Sw.splice;rw[e1,X6,show l1.length+n*k+m.length=l1.length+(n*k+m.length)from by omega,X5];simp
theorem Qjt{T T' e e' k need cap:Nat}{t:TypeId}(E:Q1 P T e k)(Q:∀w,(underlying T').run P w=.ok (.slice e') w){ad:Option Addr}{n m c:Nat}{ax:Option Addr}
  (f:need=n+m)(h:cap<need)(a:need<=QC){old new:List Value}
  (B:∀w':World,w'.heap=w.heap->(Builtin.firstCells k m (.slice ax m c)).run P w'=.ok new.toArray w')(u:∀w':World,w'.heap=w.heap->(Builtin.firstCells k n (.slice ad n cap)).run P w'=.ok old.toArray w'):
  ∃(rest:List Value) (d:Nat),(need<=d/\d<=9223372036854775807)/\rest.length=(d-need)*k/\(Builtin.append_ #[T,T'] t #[.slice ad n cap,.slice ax m c]).run P w=
   .ok (.slice (some ⟨w.heap.size,0,none⟩) need d) (({w with drawn:=w.drawn+1}:World).alloc (.cells ((old++new)++rest).toArray e)):=by
 obtain⟨z,H,r⟩:=E.zero;obtain⟨i,N,G⟩:=E.bytes
 let d:=need+w.tape w.drawn (.appendCap need cap e)%(2^63-need)
 refine⟨(Builtin.zeroCells z.cells (d-need)).toList,d,⟨Nat.le_add_right _ _,by
  have:=Nat.mod_lt (w.tape w.drawn (.appendCap need cap e)) (show 0<2^63-need by unfold QC at a;omega);show need+_%(2^63-need)<=_;omega⟩,by simp[Builtin.zeroCells,r],?_⟩
 have g:¬(need<=cap):=by omega
 have s:¬((need:Int)>IntKind.i64.max/\(False\/i.bytes=0)):=by
  rintro⟨q,_⟩;have:IntKind.i64.max=9223372036854775807:=by decide
  rw[this]at q;unfold QC at a;omega
 have L:¬(Builtin.nextslicecap need cap*i.bytes>2^48):=by
  have:=Qfg need cap h;have y:=Nat.mul_le_mul this G;unfold QC at a;omega
 generalize hF:Builtin.firstCells=F at B u;unfold Builtin.append_;rw[hF];have l:∀W:World,(choose (.appendCap need cap e)).run P W=.ok (need+W.tape W.drawn (.appendCap need cap e)%(2^63-need)) {W with drawn:=W.drawn+1}:=by
  intro W;simp[choose,Sem.run,Question.forced,Question.cut]
 have j:∀(x:Nat) (W:World),(askRoom x).run P W=.ok () W:=by
  intro x W;unfold askRoom;split<;>rfl
 have p:∀(c:Array Value) (W:World),(newRow e c).run P W=.ok ⟨W.heap.size,0,none⟩ (W.alloc (.cells c e)):=λc W=>rfl;subst f;simp only[not_and,false_or]at s;have y:¬(((n+m:Nat):Int)>IntKind.i64.max/\(False\/i.bytes=0)):=by simpa using s
 simp only[XE,XC,XD,Vg,E.sl,E.size,Q,N,H,Result.andThen,Builtin.lenOf,Vh,Xj,if_false,Sem.run_ite,
  Xi,if_true,Vl g,Vl y,Vl L,l,j]
 have M:=u {w with drawn:=w.drawn+1} rfl;have J:=B {w with drawn:=w.drawn+1} rfl;simp only[M,J,p];have O:old.toArray++new.toArray++Builtin.zeroCells z.cells (d-(n+m))=((old++new)++(Builtin.zeroCells z.cells (d-(n+m))).toList).toArray:=by
  apply Array.toList_inj.1;simp
 rw[<- O]
theorem Qdt{T T' e e' k cap:Nat}{t:TypeId}(E:Q1 P T e k)(g:∀w,(underlying T').run P w=.ok (.slice e') w){ad:Option Addr}{n m c:Nat}{ax:Option Addr}
  (d:n+m<=cap){new:List Value}(f:(Builtin.firstCells k m (.slice ax m c)).run P w=.ok new.toArray w):
  (Builtin.append_ #[T,T'] t #[.slice ad n cap,.slice ax m c]).run P w=
   match ad with
   |some a=>(do storeCells (a.add (n*k)) new;pure (Value.slice ad (n+m) cap):Sem Value).run P w
   |none=>.ok (.slice ad (n+m) cap) w:=by
 generalize hF:Builtin.firstCells=F at f;unfold Builtin.append_;rw[hF];simp only[XE,XC,XD,Vg,E.sl,E.size,g,Result.andThen,Builtin.lenOf,Vh,Xj,if_false,Sem.run_ite,
  Xi,if_true,Vm d,f]
 cases ad with
 |none=>rfl
 |some a=>simp only[Vg,Result.andThen,Vh]
theorem Sim.weaken(s:Sim fr ro σ H w){i:Nat}{x x':Blk}(hH:H[i]?=some x)(hl:x.live=true)(r:∀y,BR ro σ w x y->BR ro σ w x' y)
  (F:∀b c,Hid w x' b c->Hid w x b c:=by exact λ_ _ h=>h.elim):Sim fr ro σ (H.set i x') w:=by
 have a:∀(j:Nat) (v:Blk),(H.set i x')[j]?=some v->(j=i/\v=x')\/(j≠i/\H[j]?=some v):=by
  grind
 have k:∀(j:Nat) (v:Blk),(H.set i x')[j]?=some v->v.live=true->∃f,H[j]?=some f/\f.live=true:=by
  grind
 refine⟨by rw[XZ];exact s.len,s.roOk,s.frLt,s.roFr,?_,?_,?_,s.hidTo (· = ·) Q9 (XQ _) (by simp) (by simp) λj d y L J M=>.inl ?_⟩
 rotate_left 3
 .grind
 .intro j b v e g m;obtain⟨f,q,n⟩:=k j v g m;exact s.own j b f e q n
 .intro j t b v f e g m z G B;obtain⟨u,q,n⟩:=k j v m G;obtain⟨E,l,p⟩:=k t f z B;exact s.inj j t b u E e g q l n p
 .intro j y v e g;rcases a j v g with⟨rfl,rfl⟩|⟨_,h⟩
  .exact r y (s.blk j y x e hH)
  .exact s.blk j y v e h
theorem RL.take{k:Nat}:∀(n:Nat) {es:List (List A)} {l:List Value},RL ro σ w k es l->RL ro σ w k (es.take n) l
 |0,_,_,_=>trivial
 |n+1,[],_,_=>trivial
 |n+1,c::es,l,⟨l1,l2,h1,h2,h3,h4⟩=>⟨l1,l2,h1,h2,h3,RL.take n h4⟩
theorem Jq{c:Call}{T T':TypeId}{x y:Operand}(a:o.op=.call c)(d:c={callee:=.builtin .append,args:= #[x,y],argTypes:= #[T,T']})(ρ:Operand->Value){v:Value}{w':World}
  (h:(Builtin.append_ #[T,T'] o.type #[ρ x,ρ y]).run P w=.ok v w'):(execOp ρ o).run P w=.ok (.value v) w':=by
 simp_all[execOp,resolve,invoke,Go.builtin]
theorem Sim.phantom(s:Sim fr ro σ H w)(t k:Nat):Sim fr ro (σ++[none]) (H++[.row t k []]) w:=by
 have g:=s.len;have f:∀(i b:Nat),(σ++[none])[i]?=some (some b)->i<σ.length:=by
  grind
 refine⟨by simp[g],s.roOk,s.frLt,s.roFr,?_,?_,?_,s.hidTo (· = ·) Q9 (XQ _) (by simp) (by simp) λj d y a e h=>.inl ?_⟩
 rotate_left 3
 .grind
 .intro i b z a e h;have q:=f i b a;rw[XJ q]at a;rw[XJ (by omega)]at e;exact s.own i b z a e h
 .intro i j b z r a e h l p x;have m:=f i b a;have n:=f j b e;rw[XJ m]at a;rw[XJ n]at e;rw[XJ (by omega)]at h l;exact s.inj i j b z r a e h l p x
 .intro i y z a e;have ext:Ext ro σ w ro (σ++[none]) w:=⟨λ_ q=>q,λ_ _=>rfl,λ_ _ q=>q,(by grind)⟩;rcases Nat.lt_trichotomy i σ.length with q|q|q
  .rw[XJ q]at a;rw[XJ (by omega)]at e;exact(s.blk i y z a e).keep ext (λ_ _ _=>rfl) (λ_ _ _ _=>rfl)
  .subst q;have B:(σ++[none])[σ.length]?=some none:=by simp
   have u:(H++[Blk.row t k []])[σ.length]?=some (.row t k []):=by grind
   rw[B]at a;rw[u]at e;cases a;cases e;rfl
  grind
theorem Sim.kill(s:Sim fr ro σ H w)(i:Nat):Sim fr ro σ (H.set i .dead) w:=by
 have a:∀(j:Nat) (v:Blk),(H.set i .dead)[j]?=some v->v≠ .dead->H[j]?=some v:=by
  grind
 refine⟨by rw[XZ];exact s.len,s.roOk,s.frLt,s.roFr,?_,?_,?_,s.hidTo (· = ·) Q9 (XQ _) (by simp) (by simp) λj d y t r u=>.inl ⟨j,y,rfl,t,a j y r (QfB u),id,λ_ q=>q⟩⟩
 .intro j b v e f g;exact s.own j b v e (a j v f (Qav g)) g
 .intro j n b v m e f g p l h;exact s.inj j n b v m e f (a j v g (Qav l)) (a n m p (Qav h)) l h
 .intro j y v e f;by_cases k:v≠ .dead
  .exact s.blk j y v e (a j v f k)
  .obtain rfl:v=.dead:=Classical.not_not.1 k;trivial
theorem grown{c:Call}{T T' e e' k n m cap cx:Nat}{x y:Operand}{es fs:List (List A)}{a:Act}{ad ax:Option Addr}{old new:List Value}(E:Q1 P T e k)(hd:∀w,(underlying T').run P w=.ok (.slice e') w)(L:o.op=.call c)
  (W:c={callee:=.builtin .append,args:= #[x,y],argTypes:= #[T,T']})(J:a.eval x=.slice ad n cap)(O:a.eval y=.slice ax m cx)(s:Sim fr ro σ H w)(g:cap<n+m)(r:n+m<=QC)
  (j:∀w',w'.heap=w.heap->(Builtin.firstCells k n (.slice ad n cap)).run P w'=.ok old.toArray w')(f:∀w',w'.heap=w.heap->(Builtin.firstCells k m (.slice ax m cx)).run P w'=.ok new.toArray w')
  (q:LR ro [] w es.flatten old)(M:∀v∈old,Qz v)(i:allK k es)(l:LR ro [] w fs.flatten new)(V:∀v∈new,Qz v)(p:allK k fs)(N:es.length=n)(u:fs.length=m):
  ∃v w' ro' τ,(execOp a.eval o).run P w=.ok (.value v) w'/\VR ro' (σ++τ) w' (.osl H.length 0 (n+m) k) v/\Sim fr ro' (σ++τ) (H++[.row e k (es++fs)]) w'/\Qk fr ro w ro' w':=by
 obtain⟨d,nc,z,t,h⟩:=Qjt E hd rfl g r f j
 let w0:={w with drawn:=w.drawn+1}
 have Q:Sim fr ro σ H w0:=s.heap rfl;have Y:Qk fr ro w ro w0:=Qk.heap rfl rfl rfl rfl (Nat.le_succ _);have B:LR ro [] w0 (es++fs).flatten (old++new):=by
  rw[List.flatten_append];exact(q.append l).mono (Ext.heap (w:=w) rfl)
 obtain⟨X,R⟩:=QkR Q (Qe9 i p) B (λv hv=>by grind);have hexec:=Jq L W a.eval (by rw[J,O];exact h);refine⟨_,_,ro,[some w.heap.size],hexec,.inr ⟨w.heap.size,0,nc,e,(old++new++d).length,?_,rfl,λ_=>by simp,z,?_,?_⟩,X,Y.trans R⟩
 .rw[<- s.len];simp
 .have:=Yn w0 (.cells ((old++new)++d).toArray e);unfold World.shape?
  grind
 .have G:=q.length;have F:=l.length;rw[YP i]at G;rw[YP p]at F;simp[XY,t,G,F,u];rw[<- Xy, <- Xy]
  grind
theorem Qhh{c:Call}{T T' e e' k:Nat}{x y:Operand}{ya:A}{fs:List (List A)}(E:Q1 P T e k)(q:∀w,(underlying T').run P w=.ok (.slice e') w)(i:o.op=.call c)
  (n:c={callee:=.builtin .append,args:= #[x,y],argTypes:= #[T,T']})(u:opA env x=.nils)(G:opA env y=ya)(B:Src P H ya k fs)(m:fs.length<=QC):
  OpH P o env H (.osl H.length 0 fs.length k) (H++[.row e k fs]):=by
 intro s p σ N a w r;have d:=Qi r x;rw[u]at d;have j:=Qi r y;rw[G]at j;obtain⟨⟨L,M,f⟩,F,l,g,J,z⟩:=B s p σ w _ r.sim j;rw[f]at g;by_cases O:fs.length=0
 .have h:fs=[]:=(by grind);subst h;refine⟨.slice none 0 0,w,p,[none],(Jq i n _ ?_),.inl ⟨rfl,rfl⟩,r.sim.phantom e k,Qk.refl _ _ _⟩;rw[d,f];have:=Qdt (t:=o.type) E q (ad:=none) (XQ 0) (g w rfl);omega
 .have:=grown (es:=[]) E q i n d f r.sim (by omega) (by omega) (λ_ _=>Ja) g rfl (by simp) trivial J z F rfl rfl
  grind
theorem QkM{c:Call}{T T' e e' k i n:Nat}{x y:Operand}{ya:A}{es fs gs:List (List A)}(E:Q1 P T e k)(Y:∀w,(underlying T').run P w=.ok (.slice e') w)(Q:o.op=.call c)
  (G:c={callee:=.builtin .append,args:= #[x,y],argTypes:= #[T,T']})(hx:opA env x=.osl i 0 n k)(hH:H[i]?=some (.row e k es))(hn:n<=es.length)(u:opA env y=ya)(hs:Src P H ya k fs)(g:n+fs.length<=QC)
  (hg:es.take n++fs=gs):OpH P o env H (.osl H.length 0 (n+fs.length) k) (H.set i .dead++[.row e k gs]):=by
 intro fr z σ N a w r;subst hg;have h:=Qi r x;rw[hx]at h;have h2:=Qi r y;rw[u]at h2;obtain⟨⟨ay,cy,e1⟩,q2,l,J,q4,W⟩:=hs fr z σ w _ r.sim h2;rw[e1]at J;have q:i<H.length:=(by grind);have af:(H.set i .dead).length=H.length:=XZ;obtain⟨s,hσ⟩:∃s,σ[i]?=some s:=⟨_,XH (by rw[r.sim.len];exact q)⟩;rcases h with⟨rfl,h⟩|⟨b,p,cap,t',mm,R,h,V,h5,B,h7⟩
 ·
  by_cases hm:fs.length=0
  .have j:fs=[]:=(by grind);subst j;refine⟨.slice none 0 0,w,z,[none],?_,.inl ⟨rfl,rfl⟩,(r.sim.kill i).phantom e k,Qk.refl _ _ _⟩;refine Jq Q G _ ?_;rw[h,e1];have:=Qdt (t:=o.type) E Y (ad:=none) (n:=0) (m:=0) (cap:=0) (c:=cy) (ax:=ay) (XQ 0) (J w rfl);omega
  .have:=grown (es:=[]) (old:=[]) E Y Q G h e1 (r.sim.kill i) (by omega) g (λ_ _=>Ja) J rfl (by simp) trivial q4 W q2 rfl rfl
   grind
 .have O:=r.sim.blk i _ _ R hH;obtain⟨F,L,X⟩:=O;have aa:(es.take n).length=n:=by simp;omega
  obtain⟨old,o1,o2,o3⟩:∃old:List Value,(∀w':World,w'.heap=w.heap->(Builtin.firstCells k n (.slice (some ⟨b,p,none⟩) n cap)).run P w'=.ok old.toArray w')/\LR z [] w (es.take n).flatten old/\ ∀v∈old,Qz v:=by
   have M:Src P H (.osl i 0 n k) k (es.take n):=Src.osl hH (by simp) (by omega);obtain⟨_,_,l',z1,z2,z3⟩:=M fr z σ w (.slice (some ⟨b,p,none⟩) n cap) r.sim (.inr ⟨b,p,cap,t',mm,R,rfl,V,h5,B,h7⟩)
   grind
  by_cases d:n+fs.length<=cap
  .have ae:=Qdt (t:=o.type) E Y (ad:=some ⟨b,p,none⟩) (n:=n) (m:=fs.length) (cap:=cap) (c:=cy) (ax:=ay) d (J w rfl);have ah:l.length=fs.length*k:=by rw[q4.length,YP q2]
   by_cases hm:fs.length=0
   .have j:fs=[]:=(by grind);subst j;have el:l=[]:=(by simp_all);subst el;have sw:=(r.sim.weaken (x':=.row e k (es.take n)) hH rfl (by
     intro y u;cases y with
     |none=>simp only[BR]at u⊢;grind
     |some y=>obtain⟨F,L,X⟩:=u;exact⟨F,L,X.take n⟩))
    have sm:=sw.moved (i:=i) (Xa q) R;rw[List.set_set]at sm;refine⟨.slice (some ⟨b,p,none⟩) n cap,w,z,[some b],?_,.inr ⟨b,p,cap,t',mm,?_,by simp,V,by omega,B,h7⟩,by grind,Qk.refl _ _ _⟩
    .refine Jq Q G _ ?_
     simp_all[storeCells]
    .rw[<- r.sim.len];simp
   .obtain rfl:p=0*k:=V (by omega);have ab:(n+fs.length)*k<=F.length:=by
     have:w.shape? b=some (e,F.length):=by unfold World.shape?;rw[L];simp
     rw[this]at B;cases B;exact XS (XA k d) (by grind)
    rw[Xy]at ab;have ag:=Yy (P:=P) (vs:=l) (n*k) 0 L (by omega) W;have f:=r.sim.set (x':=.row e k (es.take n++fs)) (obj:=.cells (splice F (n*k) l).toArray e (0,0)) R hH rfl
     (λy u=>QaJ L (YO (by omega)) y u)
     (λex ac=>⟨_,ac,(X.app hn q2 q4 W).mono ex.nil⟩)
    have sm:=f.1.moved (i:=i) (Xa q) R;rw[List.set_set]at sm;refine⟨.slice (some ⟨b,0*k,none⟩) (n+fs.length) cap,_,z,[some b],?_,.inr ⟨b,0*k,cap,t',mm,?_,rfl,V,⟨d,h5.2⟩,?_,h7⟩,sm,f.2⟩
    .refine Jq Q G _ ?_
     simp_all[Qas]
    .rw[<- r.sim.len];simp
    .exact f.2.shape _ _ B
  .have:=grown (es:=es.take n) (old:=old) (fs:=fs) E Y Q G h e1 (r.sim.kill i) (by omega) g o1 J o2 o3 (Qh3 n X.allK) q4 W q2 aa rfl
   grind
end
section
variable {P:Program} {o:Oper} {env:Env} {H:Qb}
theorem OpC.fn{c:Call}{f:FuncId}{xs:List Operand}{g:Array TypeId}{args:List A}(d:∀(a:Array Value) (w:World),(callFunc f a).run P w=.ok (.enter f a) w)(i:o.op=.call c)
  (j:c={callee:=.value (.func f),args:=xs.toArray,argTypes:=g})(h:xs.map (opA env)=args):OpC P o env H f args:=by
 intro k l σ N a w r;refine⟨xs.map a.eval,?_,h▸Qbz r xs⟩;have e:a.eval (.func f)=.func (.func f) #[] #[]:=rfl
 grind[execOp,resolve,Deferred.ofValue,invoke]
theorem Qea{c:Call}{f:FuncId}{x:Operand}{xs:List Operand}{i:Array TypeId}{args g h:List A}(e:∀(a:Array Value) (w:World),(callFunc f a).run P w=.ok (.enter f a) w)(q:o.op=.call c)
  (s:c={callee:=.value x,args:=xs.toArray,argTypes:=i})(p:opA env x=.fn (.func f) g h)(j:g++(xs.map (opA env)++h)=args):OpC P o env H f args:=by
 intro t u σ N a w r;have d:=Qi r x;rw[p]at d;obtain⟨l,k,d,m,n⟩:=d;refine⟨l++(xs.map a.eval++k),?_,j▸m.append ((Qbz r xs).append n)⟩
 grind[execOp,resolve,Deferred.ofValue,invoke]
def Qb1(ρ:Nat->Nat)(env:Env):Env->Prop
 |[]=>True
 |(s,a)::r=>lk env s=Jg ρ a/\Qb1 ρ env r
theorem Qb1.ok{ro:Nat->Prop}{σ σ':Sig}{w:World}{ρ:Nat->Nat}(h:∀i,σ[ρ i]?=σ'[i]?){t:Array Value}(r:∀s,VR ro σ w (lk env s) (t.getD s undef)):
  ∀{env':Env},Qb1 ρ env env'->∀s,VR ro σ' w (lk env' s) (t.getD s undef)
 |[],_,s=>trivial
 |(d,a)::e,⟨h1,h2⟩,s=>by
  simp only[lk];by_cases q:s=d
  .grind[Nat.beq_refl,QeC]
  .have:Nat.beq s d=false:=by
    simp_all[VG]
   rw[this];exact Qb1.ok h r h2 s
theorem Sim.sub{fr ro:Nat->Prop}{σ:Sig}{w:World}{π:List Nat}{H':Qb}(s:Sim fr ro σ H w)(hH:π.map (λp=>H[p]?)=(H'.map (Yi (rho π H.length))).map some)(hπ:π.Nodup):
  Sim fr ro (YK σ π) H' w/\ ∀j:Nat,σ[rho π H.length j]?=(YK σ π)[j]? :=by
 have M:∀p∈π,p<H.length:=λp q=>JJ hH q;have hσl:=s.len;have J:∀(j p:Nat),π[j]?=some p->H[p]?=(H'[j]?).map (Yi (rho π H.length)):=by
  intro j p e;have:=congrArg (λl=>l[j]?) hH
  grind
 have m:π.length=H'.length:=by simpa using congrArg List.length hH
 have hσc:∀j:Nat,σ[rho π H.length j]?=(YK σ π)[j]? :=by
  intro j;have:=Qfn (τ:=[]) hσl M j
  grind
 have hπj:∀(j b:Nat),(YK σ π)[j]?=some (some b)->∃p,π[j]?=some p/\σ[p]?=some (some b):=by
  intro j b e;simp only[YK,Xo]at e
  grind
 have hπi:∀(i j p:Nat),π[i]?=some p->π[j]?=some p->i=j:=by
  intro i j p g a;have r:i<π.length:=(by grind);have e:j<π.length:=(XI.1 a).1;rw[XH r]at g;rw[XH e]at a;have h:=(XV g).trans (XV a).symm;rcases Nat.lt_trichotomy i j with q|q|q
  .exact(Vy.1 hπ i j r e q h).elim
  .exact q
  .exact(Vy.1 hπ j i e r q h.symm).elim
 refine⟨⟨by simp[YK,m],s.roOk,s.frLt,s.roFr,?_,?_,?_,s.hidTo (λj p=>π[j]?=some p) hπi (XQ _) (λ_ _ _ _ _ _ _ q=>q) (λ_ _ _ _ _ _ _ q=>q) λj d y L N O=>.inl ?_⟩,hσc⟩
 rotate_left 3
 .obtain⟨p,g,f⟩:=hπj j d L;exact⟨p,Yi (rho π H.length) y,g,f,by grind,by rw[QQ];exact id,λc q=>(Qal _ _ _ _ _).2 q⟩
 .intro j b x n z B;obtain⟨p,g,f⟩:=hπj j b n;have k:H[p]?=some (Yi (rho π H.length) x):=by grind
  exact s.own p b _ f k (by rw[QQ];exact B)
 .intro i j b x y n z B P F G;obtain⟨p,g,f⟩:=hπj i b n;obtain⟨E,a,t⟩:=hπj j b z;have k:H[p]?=some (Yi (rho π H.length) x):=by grind
  have u:H[E]?=some (Yi (rho π H.length) y):=by grind
  have:=s.inj p E b _ _ f t k u (by rw[QQ];exact F) (by rw[QQ];exact G)
  grind
 .intro j y x n z;have e:j<π.length:=by
   grind
  have g:π[j]?=some π[j]:=XH e;have k:H[π[j]]?=some (Yi (rho π H.length) x):=by grind
  have f:σ[π[j]]?=some y:=by
   grind[rho]
  exact(Qjb hσc).1 (s.blk _ y _ f k)
theorem QpI{h0:Nat}{env':Env}{H':Qb}(π:List Nat)(d:π.take h0=List.range h0)(hH:π.map (λp=>H[p]?)=(H'.map (Yi (rho π H.length))).map some)(hπ:π.Nodup)
  (hE:Qb1 (rho π H.length) env env'):Le h0 env H env' H':=by
 intro h f σ N a w r;obtain⟨e,hσ⟩:=r.sim.sub hH hπ;refine⟨f,YK σ π,⟨e,Qb1.ok hσ r.env hE,r.size,r.defers⟩,λ_ q=>q,?_⟩;have g:=r.sim.len;have i:∀p∈π,p<H.length:=λp q=>JJ hH q;unfold YK;rw[<- List.map_take,d];apply List.ext_getElem?
 grind
theorem Le.phantom{h0 s k t:Nat}(f:h0<=H.length)(g:lk env s=.nils):Le h0 env H (up env s (.osl H.length 0 0 k)) (H++[.row t k []]):=by
 intro h e σ N a w r;refine⟨e,σ++[none],⟨r.sim.phantom t k,?_,r.size,r.defers⟩,λ_ q=>q,QK (by rw[r.sim.len];exact f)⟩;have ext:Ext e σ w e (σ++[none]) w:=⟨λ_ q=>q,λ_ _=>rfl,λ_ _ q=>q,(by grind)⟩;intro d;simp only[lk];by_cases q:d=s
 .subst q;rw[Vz];have:=r.env d;rw[g]at this;exact .inl ⟨rfl,this⟩
 .have:Nat.beq d s=false:=by
   simp_all[VG]
  rw[this];exact(r.env d).mono ext
mutual
def YD:A->Bool
 |.bool _=>true
 |.int _ _=>true
 |.str _=>true
 |.tup vs=>Qfo vs
 |_=>false
def Qfo:List A->Bool
 |[]=>true
 |a::r=>YD a&&Qfo r
end
mutual
theorem VR.scalar{ro ro':Nat->Prop}{σ σ':Sig}{w w':World}:∀{a:A} {v:Value},YD a=true->VR ro σ w a v->VR ro' σ' w' a v
 |.bool _,_,_,h=>h
 |.int _ _,_,_,h=>h
 |.str _,_,_,h=>h
 |.tup vs,v,hs,h=>by
  simp only[VR,YD]at h hs⊢;obtain⟨l,h1,h2⟩:=h;exact⟨l,h1,LR.scalar hs h2⟩
 |.any,_,hs,_=>by simp[YD]at hs
 |.nilp,_,hs,_=>by simp[YD]at hs
 |.ptr _ _,_,hs,_=>by simp[YD]at hs
 |.rp _,_,hs,_=>by simp[YD]at hs
 |.nils,_,hs,_=>by simp[YD]at hs
 |.rsl _ _,_,hs,_=>by simp[YD]at hs
 |.osl _ _ _ _,_,hs,_=>by simp[YD]at hs
 |.agg _,_,hs,_=>by simp[YD]at hs
 |.fn _ _ _,_,hs,_=>by simp[YD]at hs
 |.nilf,_,hs,_=>by simp[YD]at hs
 |.iface _ _,_,hs,_=>by simp[YD]at hs
 |.nilif,_,hs,_=>by simp[YD]at hs
 |.map _,_,hs,_=>by simp[YD]at hs
 |.nilm,_,hs,_=>by simp[YD]at hs
theorem LR.scalar{ro ro':Nat->Prop}{σ σ':Sig}{w w':World}:∀{az:List A} {l:List Value},Qfo az=true->LR ro σ w az l->LR ro' σ' w' az l
 |[],_,_,h=>h
 |a::r,l,hs,h=>by
  simp only[LR,Qfo,XT]at h hs⊢;obtain⟨v,l',h1,h2,h3⟩:=h;exact⟨v,l',h1,VR.scalar hs.1 h2,LR.scalar hs.2 h3⟩
end
def Look(H:Qb):A->A->Prop:=λa a'=>(a'=a/\YL a=true)\/ ∃i n k t es,a=.osl i 0 n k/\H[i]?=some (.row t k es)/\es.length=n/\a'=.rsl k es
def QbC(H:Qb):List A->List A->Prop
 |[],[]=>True
 |a::az,b::bs=>Look H a b/\QbC H az bs
 |_,_=>False
theorem QbA{h0 N:Nat}{Q:QV}{all:Array Oper}{l:List Oper}{d:Nat}{f:FuncId}{args B:List A}{Qr:A->Qb->Prop}(ac:OpC P o env H f args)(hv:QbC H args B)(hC:C P f B [] Qr)
  (ae:∀r H1,Qr r H1->YD r=true)(k:∀r H1,Qr r H1->WO P h0 N all l (up env d r) H Q)(hg:QA all o env true:=by exact rfl)(hd:o.dst=some d:=by exact rfl)(hN:Nat.blt d N=true:=by exact rfl):WO P h0 N all (o::l) env H Q:=by
 intro rd fr ro σ a w r hrd;obtain⟨T,h1,h2⟩:=ac fr ro σ N a w r;refine Qeg (Y0 hg r) h1 ?_
 let roc:Nat->Prop:=λb=>ro b\/ ∃(i:Nat) (x:Blk),σ[i]?=some (some b)/\H[i]?=some x/\x.live=true
 let frc:Nat->Prop:=λb=>fr b\/ ∃(i:Nat) (x:Blk) (d:Nat),σ[i]?=some (some d)/\H[i]?=some x/\Hid w x d b
 have O:Sim frc roc [] [] w:=by
  refine⟨rfl,r.sim.roOk.to (λ_ q=>.inl q) (λ_ _=>rfl) ?_,?_,?_,by simp,by simp,by simp,by simp⟩
  .rintro b (q|⟨i,x,u,z,E⟩)
   .exact r.sim.roLt b q
   .exact(r.sim.own i b x u z E).1
  .rintro b (q|⟨i,x,d,u,z,E⟩)
   .exact r.sim.frLt b q
   .exact(r.sim.hid i d x b u z E).lt
  .rintro b (q|⟨i,x,u,z,E⟩) (q'|⟨i',x',d',V,X,M⟩)
   .exact r.sim.roFr b q q'
   .exact(r.sim.hid i' d' x' b V X M).ro q
   .exact(r.sim.own i b x u z E).2.2 q'
   .exact(r.sim.hid i' d' x' b V X M).ne i b x u z E rfl
 have G:∀(az F:List A) (l:List Value),QbC H az F->LR ro σ w az l->LR roc [] w F l:=by
  intro az
  induction az with
  |nil=>
   intro F l J h;cases F with
   |nil=>exact h
   |cons b F=>exact J.elim
  |cons x az ih=>
   intro F l J h;cases F with
   |nil=>exact J.elim
   |cons y F=>
    obtain⟨hx,J⟩:=J;obtain⟨v,l',rfl,hv,h⟩:=h;refine⟨v,l',rfl,?_,ih F l' J h⟩;rcases hx with⟨rfl,hx⟩|⟨i,n,k,t,es,rfl,hH,hn,rfl⟩
    .exact(hv.data (σ':=[]) hx).mono ⟨λ_ q=>.inl q,λ_ _=>rfl,λ_ _ q=>q,λ_ _ q=>q⟩
    .subst hn;rcases hv with⟨h0,h⟩|⟨b,p,Y,t',m,h1,h,h2,⟨h3,ag⟩,h4,h5⟩
     .have:es=[]:=(by grind);subst this;exact⟨none,0,h,XQ _,.inl rfl⟩
     .refine⟨_,Y,h,h3,?_⟩;by_cases he:es=[]
      .exact .inl he
      .right;have hc:0<Y:=X9 (by grind) h3;obtain rfl:=h2 hc;obtain⟨l,u,z⟩:=r.sim.blk i _ _ h1 hH;refine⟨b,0,by simp,.inr ⟨i,_,h1,hH,rfl⟩,?_⟩;have:=Y5 (pre:=[]) (by simpa using u) z;exact this.keep ⟨λ_ q=>.inl q,λ_ _=>rfl,λ_ _ q=>q,λ_ _ q=>q⟩ rfl
 refine Calls.mono (hC frc roc [] T w O (G _ _ _ hv h2)) ?_;rintro e L ⟨v,rr,H1,af,τ,rfl,hq,sc,aa,ev⟩;have R:∀(i b:Nat) (x:Blk),σ[i]?=some (some b)->H[i]?=some x->x.live=true->L.heap[b]?=w.heap[b]? :=λi b x u z E=>ev.keepRo b (by grind);have g:Qk fr ro w ro L:=⟨λ_ q=>q,λb q=>ev.keepRo b (.inl q),λb q=>ev.keepFr b (.inl q),ev.size,ev.shape,ev.os,ev.tape,ev.output,ev.drawn⟩;have W:Sim fr ro σ H L:=by
  refine⟨r.sim.len,r.sim.roOk.to (λ_ q=>q) g.keepRo (λb q=>X9 (r.sim.roLt b q) ev.size),λb q=>X9 (r.sim.frLt b q) ev.size,r.sim.roFr,?_,r.sim.inj,?_,r.sim.hidTo (· = ·) Q9 ev.size (by simp) (by simp) λj d y g1 g2 g3=>.inl ⟨j,y,rfl,g1,g2,id,λc q=>r.sim.hidKeep g1 g2 (R j d y g1 g2) g.keepRo q⟩⟩
  .intro i b x u z E;obtain⟨p1,p2,p3⟩:=r.sim.own i b x u z E
   grind
  .intro i y x u z;refine(r.sim.blk i y x u z).keep (g.ext0 σ) ?_ ?_
   .grind
   .rintro b c rfl J;exact ev.keepFr c (by grind)
 have hk:=k rr H1 hq;have ab:d<N:=by simp_all
 simp only[hd,Act.put];have r':Rel fr ro σ H (up env d rr) N {a with tmps:=a.tmps.setIfInBounds d v} L:=
  ⟨W,VR.up (fr:=fr) (λs=>(r.env s).mono (g.ext0 σ)) (by rw[r.size];exact ab) (aa.scalar (ae _ _ hq)),by simpa using r.size,r.defers.keep g⟩
 exact⟨_,rfl,Yw (λe a w q=>q.step g rfl) _ _ _ (hk rd fr ro σ _ L r' (hrd.to g λ_ q=>q))⟩
end
section
variable {P:Program} {o:Oper} {env:Env} {H:Qb}
theorem QhI{α:Type}:∀(vs:List α) (off i:Nat) (l:List α),off+i+vs.length<=l.length->
  (vs.zipIdx i).foldl (λcs x=>cs.setIfInBounds (off+x.2) x.1) l.toArray=(splice l (off+i) vs).toArray
 |[],off,i,l,h=>by simp[splice]
 |v::vs,off,i,l,h=>by
  simp[XW]at h;rw[List.zipIdx_cons,XB];have e1:l.toArray.setIfInBounds (off+i) v=(splice l (off+i) [v]).toArray:=by
   have:l.toArray.setIfInBounds (off+i) v=(l.set (off+i) v).toArray:=by simp
   rw[this];rw[List.set_eq_take_append_cons_drop,Vm (by omega)];simp[splice]
  rw[e1,QhI vs off (i+1) _ (by grind)];have a:(l.take (off+i)).length=off+i:=by simp;omega
  unfold splice;have f:off+(i+1)=(l.take (off+i)).length+1:=by omega
  have d:(l.take (off+i)++([v]++l.drop (off+i+[v].length))).take ((l.take (off+i)).length+1)=l.take (off+i)++[v]:=by
   grind
  have e:(l.take (off+i)++([v]++l.drop (off+i+[v].length))).drop ((l.take (off+i)).length+1+vs.length)=l.drop (off+i+(v::vs).length):=by
   rw[show(l.take (off+i)).length+1+vs.length=(l.take (off+i)).length+(1+vs.length)from by omega,X5];simp[Nat.add_comm 1];omega
  simp_all
theorem QhO{a:Nat->Option (Nat×Nat)}{l:List Value}{i off size:Nat}{v:Value}{m:List Value}{rest:List (Nat×Value)}(e:a i=some (off,size))(d:v.cells=m.toArray)(f:m.length=size)
  (hl:off+size<=l.length):Instr.fill a l.toArray ((i,v)::rest)=Instr.fill a (splice l off m).toArray rest:=by
 rw[Instr.fill];simp[e];rw[Vl (by grind),d]
 simp_all[QhI]
def Qai:Nat->List Operand->List (Nat×Operand)
 |_,[]=>[]
 |i,x::xs=>(i,x)::Qai (i+1) xs
def QY(env:Env)(xs:List Operand):List (List A):=xs.map λx=>YA (opA env x)
theorem Qgk{fr ro:Nat->Prop}{σ:Sig}{N:Nat}{a:Act}{w:World}(r:Rel fr ro σ H env N a w){k:Nat}:∀(xs:List Operand) (j:Nat) (pre rest:List Value),pre.length=j*k->rest.length=xs.length*k->
  (xs.all λx=>Yr (opA env x))=true->allK k (QY env xs)->
  ∃l,Instr.fill (λi=>some (i*k,k)) (pre++rest).toArray ((Qai j xs).map λp=>(p.1,a.eval p.2))=some (pre++l).toArray/\LR ro σ w (QY env xs).flatten l
 |[],j,pre,rest,h1,h2,_,_=>by
  have:rest=[]:=(by simp_all);subst this;exact⟨[],rfl,rfl⟩
 |x::xs,j,pre,rest,h1,h2,h3,h4=>by
  simp only[List.all_cons,XT]at h3;obtain⟨hk1,hk2⟩:=h4;obtain⟨m,q1,q2⟩:=(Qi r x).cells h3.1;have hm:m.length=k:=by rw[q2.length];exact hk1
  simp[XW,Xm]at h2;simp[Qai,Vd];rw[QhO rfl q1 hm (by simp;omega)];have e:splice (pre++rest) (j*k) m=(pre++m)++rest.drop k:=by
   unfold splice
   grind[List.drop_length_add_append]
  rw[e];obtain⟨l,d,f⟩:=Qgk r xs (j+1) (pre++m) (rest.drop k) (by grind) (by simp;omega) h3.2 hk2;refine⟨m++l,?_,?_⟩
  .rw[d];simp
  .exact q2.append f
theorem J1{fr ro:Nat->Prop}{σ:Sig}{N:Nat}{a:Act}{w:World}(r:Rel fr ro σ H env N a w){T e k n:Nat}{xs:List Operand}(E:Q1 P T e k)(s:xs.length=n)(q:Nat.ble (n*k) 16777216=true)
  (m:(xs.all λx=>Yr (opA env x))=true)(j:allK k (QY env xs)):
  ∃l,(Instr.buildSlice T n (((Qai 0 xs).map λp=>(p.1,a.eval p.2)).toArray)).run P w=.ok (.slice (some ⟨w.heap.size,0,none⟩) n n) (w.alloc (.cells l.toArray e))/\LR ro σ w (QY env xs).flatten l:=by
 obtain⟨z,t,y⟩:=E.zero;have h:n*k<=16777216:=by simp_all
 have u:∀(c:Array Value) (W:World),(newRow e c).run P W=.ok ⟨W.heap.size,0,none⟩ (W.alloc (.cells c e)):=λc W=>rfl;unfold Instr.buildSlice;by_cases g:n*k=0
 .obtain⟨l,d,f⟩:=Qgk r (k:=k) xs 0 [] [] (by simp) (by grind) m j;refine⟨l,?_,f⟩;simp only[Vg,E.sl,Result.andThen,E.size,g]
  simp_all[Array.range]
 .obtain⟨l,d,f⟩:=Qgk r (k:=k) xs 0 [] ((Array.range (n*k)).map (λi=>z.cells[i%z.cells.size]!)).toList (by simp) (by rw[s];simp) m j;refine⟨l,?_,f⟩;simp only[Vg,E.sl,Result.andThen,E.size,Vl g,Sem.run_ite,t];simp only[Vb]at d;rw[Array.toArray_toList]at d
  simp_all
theorem JK{T n:Nat}{xs:List Operand}(a:o.op=.buildSlice T n (Qai 0 xs).toArray)(ρ:Operand->Value){v:Value}{w w':World}
  (h:(Instr.buildSlice T n (((Qai 0 xs).map λp=>(p.1,ρ p.2)).toArray)).run P w=.ok v w'):(execOp ρ o).run P w=.ok (.value v) w':=by
 grind[execOp,Sem.run_bind,Result.andThen,Sem.run_pure]
theorem OpH.lit{T e k n:Nat}{xs:List Operand}{es:List (List A)}(E:Q1 P T e k)(u:o.op=.buildSlice T n (Qai 0 xs).toArray)(p:xs.length=n)(d:Nat.ble (n*(k+1)) 16777216=true)
  (y:(xs.all λx=>Yr (opA env x))=true)(i:QY env xs=es)(f:allK k es)(z:es.flatten.all Yz=true)(B:Yu es.flatten=true):
  OpH P o env H (.osl H.length 0 n k) (H++[.row e k es]):=by
 intro G s σ N a w r;subst i;have h:=XO d;rw[Nat.mul_add]at h;obtain⟨l,t,j⟩:=J1 r E p (XP (by omega)) y f;have g:LR s [] w (QY env xs).flatten l:=j.data B;obtain⟨m,q⟩:=QkR r.sim f g (j.plain z);rw[Va]at m q;have F:l.length=n*k:=by rw[j.length,YP f];simp[QY,p]
 refine⟨_,_,s,[some w.heap.size],JK u a.eval t,.inr ⟨w.heap.size,0,n,e,l.length,?_,rfl,λ_=>by simp,(by omega),?_,by grind⟩,m,q⟩
 .rw[<- r.sim.len];simp
 .unfold World.shape?;rw[Yn];simp
theorem Y1{T e k n:Nat}{xs:List Operand}{es:List (List A)}(E:Q1 P T e k)(q:o.op=.buildSlice T n (Qai 0 xs).toArray)(m:xs.length=n)(d:Nat.ble (n*(k+1)) 16777216=true)
  (s:(xs.all λx=>Yr (opA env x))=true)(h:QY env xs=es)(f:allK k es)(y:es.flatten.all Yz=true):
  OpH P o env H (.osl H.length 0 n k) (H++[.rowr e k es]):=by
 intro B u σ N a w r;subst h;have g:=XO d;rw[Nat.mul_add]at g;obtain⟨l,p,i⟩:=J1 r E m (XP (by omega)) s f;have j:=r.sim.allocRowr (t:=e) (rest:=[]) f i (i.plain y);rw[Va]at j;have z:l.length=n*k:=by rw[i.length,YP f];simp[QY,m]
 refine⟨_,_,u,[some w.heap.size],JK q a.eval p,.inr ⟨w.heap.size,0,n,e,l.length,?_,rfl,λ_=>by simp,(by omega),?_,by grind⟩,j,Qk.alloc _ r.sim.roLt r.sim.frLt⟩
 .rw[<- r.sim.len];simp
 .unfold World.shape?;rw[Yn];simp
theorem J0{n:Int}{y:Nat}{c:BoundsCode}{w:World}(h0:0<=n)(a:n<=y):(Instr.sliceBound (.int .i64 n) y c).run P w=.ok n.toNat w:=by
 simp_all[Instr.sliceBound,asIntOf]
theorem Qik{T e:Nat}{k:Nat}{w:World}(E1:∀w,(underlying T).run P w=.ok (.slice e) w)(E2:∀w,(sizeOf e).run P w=.ok k w){ad:Option Addr}{n cap:Nat}{lo hi:Option Value}{l h:Nat}(f:n<=cap)
  (a:lo=none/\l=0\/ ∃z:Int,lo=some (.int .i64 z)/\0<=z/\z.toNat=l)(d:hi=none/\h=n\/ ∃z:Int,hi=some (.int .i64 z)/\0<=z/\z.toNat=h)(g:l<=h)(j:h<=n):
  (Instr.sliceAt T (.slice ad n cap) lo hi none).run P w=.ok (.slice (if cap=l then ad else ad.map (·.add (l*k))) (h-l) (cap-l)) w:=by
 have m:(Instr.sliceBounds true n cap lo hi none).run P w=.ok (l,h,cap) w:=by
  rcases a with⟨rfl,rfl⟩|⟨z,rfl,i,rfl⟩<;>rcases d with⟨rfl,rfl⟩|⟨y,rfl,y0,rfl⟩
  .rfl
  .grind[Instr.sliceBounds,Sem.run_bind,Sem.run_pure,Result.andThen,J0]
  .grind[Instr.sliceBounds,Sem.run_bind,Sem.run_pure,Result.andThen,J0]
  .simp[Instr.sliceBounds,Vg,Vh,Result.andThen,J0 y0 (show y<=cap by omega),J0 i (show z<=y.toNat by omega)]
 simp_all[Instr.sliceAt,Instr.slice]
theorem Qbp{fr ro:Nat->Prop}{σ:Sig}{N:Nat}{a:Act}{w:World}(r:Rel fr ro σ H env N a w){x:Option Operand}{l d:Nat}(h:x=none/\l=d\/ ∃y,∃z:Int,x=some y/\opA env y=.int .i64 z/\0<=z/\z.toNat=l):
  x.map a.eval=none/\l=d\/ ∃z:Int,x.map a.eval=some (.int .i64 z)/\0<=z/\z.toNat=l:=by
 rcases h with⟨rfl,rfl⟩|⟨y,z,rfl,e,f,g⟩
 .simp
 grind[QT]
theorem QpD{T e k:Nat}{x:Operand}{lo hi:Option Operand}{es es':List (List A)}{l h:Nat}(E1:∀w,(underlying T).run P w=.ok (.slice e) w)(E2:∀w,(sizeOf e).run P w=.ok k w)(t:o.op=.slice T x lo hi none)
  (u:opA env x=.rsl k es)(q:lo=none/\l=0\/ ∃y,∃z:Int,lo=some y/\opA env y=.int .i64 z/\0<=z/\z.toNat=l)
  (j:hi=none/\h=es.length\/ ∃y,∃z:Int,hi=some y/\opA env y=.int .i64 z/\0<=z/\z.toNat=h)(n:l<=h)(F:h<=es.length)(m:(es.take h).drop l=es'):OpV P o env H (.rsl k es'):=by
 intro L M σ N a w r;subst m;have i:=Qi r x;rw[u]at i;obtain⟨ad,f,i,B,E⟩:=i;have d:=Qik (w:=w) E1 E2 (ad:=ad) B (Qbp r q) (Qbp r j) n F;have g:((es.take h).drop l).length=h-l:=by simp;omega
 refine⟨_,by simp[execOp,t,i,Vg,d,Xl];rfl,(⟨_,f-l,by rw[g],by omega,?_⟩)⟩;rcases E with rfl|⟨b,p,rfl,s,J⟩
 .simp
 .by_cases G:f=l
  .grind
  .right;exact⟨b,p+l*k,by rw[Vl G];simp[Qas],s,((J.take h).drop l)⟩
theorem Qg0{T e k i s n:Nat}{x:Operand}{lo hi:Option Operand}{l h:Nat}(E1:∀w,(underlying T).run P w=.ok (.slice e) w)(E2:∀w,(sizeOf e).run P w=.ok k w)(B:o.op=.slice T x lo hi none)
  (L:opA env x=.osl i s n k)(u:lo=none/\l=0\/ ∃y,∃z:Int,lo=some y/\opA env y=.int .i64 z/\0<=z/\z.toNat=l)
  (g:hi=none/\h=n\/ ∃y,∃z:Int,hi=some y/\opA env y=.int .i64 z/\0<=z/\z.toNat=h)(j:l<=h)(F:h<=n):OpV P o env H (.osl i (s+l) (h-l) k):=by
 intro R X σ N a w r;have f:=Qi r x;rw[L]at f;rcases f with⟨rfl,f⟩|⟨b,p,t,E,m,f,M,W,⟨J,Q⟩,G,V⟩
 .have d:=Qik (P:=P) (w:=w) E1 E2 (ad:=none) (XQ 0) (Qbp r u) (Qbp r g) j F;refine⟨_,by simp only[execOp,B,f,Vg,d,Xl];rfl,?_⟩;left
  grind
 .have d:=Qik (w:=w) E1 E2 (ad:=some ⟨b,p,none⟩) J (Qbp r u) (Qbp r g) j F;refine⟨_,by simp only[execOp,B,M,Vg,d,Xl];rfl,?_⟩;right;by_cases O:t=l
  .refine⟨b,p,0,E,m,f,by grind,λq=>by omega,by omega,G,?_⟩
   grind
  .refine⟨b,p+l*k,t-l,E,m,f,by rw[Vl O];simp[Qas],λq=>by grind,by omega,G,?_⟩
   grind
theorem OpV.max{c:Call}{x y:Operand}{k:IntKind}{m n:Int}(h:o.op=.call c)(f:c={callee:=.builtin .max,args:= #[x,y],argTypes:=c.argTypes})(i:opA env x=.int k m)(j:opA env y=.int k n):
  OpV P o env H (.int k (if m<n then n else m)):=by
 intro p q σ N a w r;have g:=QT r i;have l:=QT r j;refine⟨_,?_,rfl⟩;generalize a.eval=ρ at*;have e:c.callee=.builtin .max:=by rw[f]
 have d:c.args= #[x,y]:=by rw[f]
 simp only[execOp,h,resolve,e,d,invoke,Vg,Result.andThen];simp[Builtin.max_,Builtin.max2,g,l,go_sem]
theorem OpV.min{c:Call}{x y:Operand}{k:IntKind}{m n:Int}(h:o.op=.call c)(f:c={callee:=.builtin .min,args:= #[x,y],argTypes:=c.argTypes})(i:opA env x=.int k m)(j:opA env y=.int k n):
  OpV P o env H (.int k (if n<m then n else m)):=by
 intro p q σ N a w r;have g:=QT r i;have l:=QT r j;refine⟨_,?_,rfl⟩;generalize a.eval=ρ at*;have e:c.callee=.builtin .min:=by rw[f]
 have d:c.args= #[x,y]:=by rw[f]
 simp only[execOp,h,resolve,e,d,invoke,Result.andThen];simp[Builtin.min_,Builtin.min2,g,l,go_sem]
end
section
variable {P:Program} {h0 N:Nat} {env:Env} {H:Qb} {Q:QV} {c c':Code}
def CutP(h0:Nat)(Eb:Env)(Hb:Qb)(Q:QV):QV
 |.normal,env,H=>Le h0 env H Eb Hb
 |.exit id,env,H=>Q (.exit id) env H
 |.ret,env,H=>Q .ret env H
theorem TC.cut(Eb:Env)(Hb:Qb)(h:TC P h0 N c env H (CutP h0 Eb Hb Q))(k:∀env H,Le h0 env H Eb Hb->Q .normal env H):TC P h0 N c env H Q:=
 h.mono λx env' H' q=>by
  cases x with
  |normal=>exact k _ _ q
  |exit id=>exact q
  |ret=>exact q
theorem seqN(h:TC P h0 N c env H Q):Seq P h0 N c Q .normal env H:=h
theorem seqX{id:Nat}(h:Q (.exit id) env H):Seq P h0 N c Q (.exit id) env H:=h
theorem seqR(h:Q .ret env H):Seq P h0 N c Q .ret env H:=h
theorem bloN{id:Nat}(h:Q .normal env H):Blo id Q .normal env H:=h
theorem bloE{id:Nat}(h:Q .normal env H):Blo id Q (.exit id) env H:=by simp_all[Blo]
theorem bloX{id a:Nat}(e:Nat.beq a id=false)(h:Q (.exit a) env H):Blo id Q (.exit a) env H:=by simp[Blo,e];exact h
theorem bloR{id:Nat}(h:Q .ret env H):Blo id Q .ret env H:=h
def Qfd{S B:Type}(h0:Nat)(b:Ctl S B)(Eb:S->Env)(Hb:S->Qb)(Q:QV):QV
 |.normal,env,H=>∃s,b=.cont s/\Le h0 env H (Eb s) (Hb s)
 |.exit id,env,H=>Q (.exit id) env H
 |.ret,env,H=>Q .ret env H
theorem QmO{S B:Type}{b:Ctl S B}(Eb:S->Env)(Hb:S->Qb)(h:TC P h0 N c env H (Qfd h0 b Eb Hb Q))(k:∀s env H,b=.cont s->Le h0 env H (Eb s) (Hb s)->Q .normal env H):TC P h0 N c env H Q:=
 h.mono λx env' H' q=>by
  cases x with
  |normal=>obtain⟨s,e,q⟩:=q;grind
  |exit id=>exact q
  |ret=>exact q
section
variable {S B:Type} {b:Ctl S B} {Eb:S->Env} {Hb:S->Qb}
theorem Y3{s:S}(e:b=.cont s)(h:Le h0 env H (Eb s) (Hb s)):Qfd h0 b Eb Hb Q .normal env H:=⟨s,e,h⟩
theorem Qq(h:Q .ret env H):Qfd h0 b Eb Hb Q .ret env H:=h
end
theorem QkB{x:Operand}{t:Bool}(hx:opA env x=.bool t)(h:t=true)(ht:TC P h0 N c env H Q):TC P h0 N (.cond x c c') env H Q:=TC.cond hx (λ_=>ht) (λq=>by grind)
theorem QkC{x:Operand}{t:Bool}(hx:opA env x=.bool t)(h:t=false)(hf:TC P h0 N c' env H Q):TC P h0 N (.cond x c c') env H Q:=TC.cond hx (λq=>by grind) (λ_=>hf)
section
variable {S B:Type} {I:S->Env->Qb->Prop}
theorem Qf{s:S}{d:Ctl S B}(e:some (Ctl.cont s)=some d)(h:I s env H):QbB I d Q .normal env H:=⟨s,(by grind),h⟩
theorem Qh{id:Nat}{b:B}{d:Ctl S B}(e:some (Ctl.done b)=some d)(h:Q (.exit id) env H):QbB I d Q (.exit id) env H:=⟨(by grind),h⟩
theorem Qw{b:B}{d:Ctl S B}(e:some (Ctl.done b)=some d)(h:Q .ret env H):QbB I d Q .ret env H:=⟨(by grind),h⟩
end
end
theorem YB{α β:Type}{x:Option α}{f:α->Option β}{r:β}(h:x.bind f=some r):∃a,x=some a/\f a=some r:=Option.bind_eq_some_iff.1 h
def idx{α:Type}(l:List α)(i:Int):Option α:=bif decide (0<=i)then l[i.toNat]? else none
theorem Qae{α:Type}{l:List α}{i:Int}{x:α}(h:idx l i=some x):0<=i/\l[i.toNat]?=some x:=by
 grind[idx]
def app{α:Type}(l m:List α):Option (List α):=bif Nat.ble (l.length+m.length) QC then some (l++m)else none
theorem QiY{α:Type}{l m r:List α}(h:app l m=some r):l.length+m.length<=QC/\l++m=r:=by
 unfold app at h;cases q:Nat.ble (l.length+m.length) QC with
 |true=>simp_all
 |false=>grind
def slc{α:Type}(l:List α)(lo hi:Int):Option (List α):=bif decide (0<=lo)&&decide (lo<=hi)&&decide (hi<=(l.length:Int))then some ((l.take hi.toNat).drop lo.toNat)else none
theorem Qij{α:Type}{l r:List α}{lo hi:Int}(h:slc l lo hi=some r):0<=lo/\lo<=hi/\hi<=l.length/\(l.take hi.toNat).drop lo.toNat=r:=by
 grind[slc]
def Qej{α:Type}(l:List α)(i:Int)(x:α):Option (List α):=bif decide (0<=i)&&decide (i<(l.length:Int))then some (l.set i.toNat x)else none
theorem Qfs{α:Type}{e:α->List A}{l:List α}{i:Nat}{x:α}(h:l[i]?=some x):(l.map e)[i]?=some (e x):=by simp[h]
section
variable {P:Program} {h0 N:Nat} {env:Env} {H H':Qb} {Q:QV} {all:Array Oper} {o:Oper} {l:List Oper} {d:Nat} {x:A}
theorem vV(a:OpV P o env H x)(k:WO P h0 N all l (up env d x) H Q)(hg:QA all o env true:=by exact rfl)(hd:o.dst=some d:=by exact rfl)(hN:Nat.blt d N=true:=by exact rfl):WO P h0 N all (o::l) env H Q:=
 QP hg hd hN a k
theorem vH(a:OpH P o env H x H')(k:WO P h0 N all l (up env d x) H' Q)(hg:QA all o env true:=by exact rfl)(hd:o.dst=some d:=by exact rfl)(hN:Nat.blt d N=true:=by exact rfl)(hh:Nat.ble h0 H.length=true:=by exact rfl):WO P h0 N all (o::l) env H Q:=
 Js (by simp_all) hg hd hN a k
theorem vN(a:OpH P o env H x H')(k:WO P h0 N all l env H' Q)(hg:QA all o env true:=by exact rfl)(hd:o.dst=none:=by exact rfl)(hh:Nat.ble h0 H.length=true:=by exact rfl):WO P h0 N all (o::l) env H Q:=
 QrI (by simp_all) hg hd a k
theorem vU(a:OpU P o env H H')(k:WO P h0 N all l env H' Q)(hg:QA all o env true:=by exact rfl)(hd:o.dst=none:=by exact rfl)(hh:Nat.ble h0 H.length=true:=by exact rfl):WO P h0 N all (o::l) env H Q:=
 QbV (by simp_all) hg hd a k
theorem gT{j s:Nat}{c x:Bool}(a:x=c)(hg:o.guard=some (j,c):=by exact rfl)(hs:(all[j]?).bind (·.dst)=some s:=by exact rfl)(hl:lk env s=.bool x:=by exact rfl):QA all o env true:=by
 simp_all[QA]
theorem gF{j s:Nat}{c x:Bool}(a:x= !c)(hg:o.guard=some (j,c):=by exact rfl)(hs:(all[j]?).bind (·.dst)=some s:=by exact rfl)(hl:lk env s=.bool x:=by exact rfl):QA all o env false:=by
 simp_all[QA]
theorem QlQ{x x':A}(a:x'=x)(hH:H'=H)(k:WO P h0 N all l (up env d x) H Q):WO P h0 N all l (up env d x') H' Q:=by grind
theorem QeB(hH:H'=H)(k:WO P h0 N all l env H Q):WO P h0 N all l env H' Q:=by grind
theorem QX{f:FuncId}{args a:List A}{Hc:Qb}{Qr:A->Qb->Prop}(π:List Nat)(e:OpC P o env H f args)(g:C P f a Hc Qr)
  (k:∀r H1,Qr r H1->WO P h0 N all l (up env d (Jg (rho π H.length) r)) (YH H π (H1.map (Yi (rho π H.length)))) Q)
  (hargs:args=Qak (rho π H.length) a:=by exact rfl)(hH:π.map (λp=>H[p]?)=(Hc.map (Yi (rho π H.length))).map some:=by exact rfl)(hπ:π.Nodup:=by decide)
  (hg:QA all o env true:=by exact rfl)(hd:o.dst=some d:=by exact rfl)(hN:Nat.blt d N=true:=by exact rfl)(hh:Nat.ble h0 H.length=true:=by exact rfl):WO P h0 N all (o::l) env H Q:=
 WO.call π (by simp_all) hg hd (λx h=>by simp_all) e hargs hH hπ g k
end
section
variable {P:Program} {o:Oper} {env:Env} {H:Qb} {α:Type} {e:α->List A}
theorem QpC{c:Call}{t a k:Nat}{x:Operand}{l:List α}(f:∀w,(underlying t).run P w=.ok (.slice a) w)(d:o.op=.call c:=by exact rfl)(hc:c={callee:=.builtin .len,args:= #[x],argTypes:= #[t]}:=by exact rfl)
  (hx:opA env x=.rsl k (l.map e):=by exact rfl):OpV P o env H (.int .i64 l.length):=by
 have:=QpB (H:=H) d hc f hx
 grind
theorem QcL{t a k:Nat}{x y:Operand}{l:List α}{g:IntKind}{i:Int}{v:α}(h:idx l i=some v)(j:∀w,(underlying t).run P w=.ok (.slice a) w)(d:∀w,(sizeOf a).run P w=.ok k w)
  (f:o.op=.indexAddr t x y:=by exact rfl)(hx:opA env x=.rsl k (l.map e):=by exact rfl)(hy:opA env y=.int g i:=by exact rfl):OpV P o env H (.rp (e v)):=
 QqF f j d hx hy (Qae h).1 (Qfs (Qae h).2)
theorem Qp{t a k b n:Nat}{x y:Operand}{l:List α}{g:IntKind}{i:Int}{v:α}(h:idx l i=some v)(m:l.length=n)(j:∀w,(underlying t).run P w=.ok (.slice a) w)(f:∀w,(sizeOf a).run P w=.ok k w)
  (d:o.op=.indexAddr t x y:=by exact rfl)(hx:opA env x=.osl b 0 n k:=by exact rfl)(hy:opA env y=.int g i:=by exact rfl):OpV P o env H (.ptr b (i.toNat*k)):=by
 have:=Qae h;have e:i.toNat<l.length:=(by grind);have p:=Qi1 (H:=H) d j f hx hy this.1 (by omega)
 grind
theorem QR{b t k f:Nat}{l:List α}{i:Int}{v:α}{cs':List A}(h:idx l i=some v)(hH:H[b]?=some (.row t k (l.map e)):=by exact rfl)(hcs:(e v).drop f=cs':=by exact rfl):Pts H (.ptr b (i.toNat*k+f)) cs':=
 Pts.row hH rfl (Qfs (Qae h).2) hcs
theorem Qo{b t k:Nat}{l:List α}{i:Int}{v:α}{cs':List A}(h:idx l i=some v)(hH:H[b]?=some (.row t k (l.map e)):=by exact rfl)(hcs:e v=cs':=by exact rfl):Pts H (.ptr b (i.toNat*k)) cs':=
 Pts.row (f:=0) hH rfl (Qfs (Qae h).2) hcs
theorem QkO{c:Call}{T T' et et' k:Nat}{x y:Operand}{ya:A}{m r:List α}(h:app [] m=some r)(E:Q1 P T et k)(f:∀w,(underlying T').run P w=.ok (.slice et') w)(a:Src P H ya k (m.map e))
  (d:o.op=.call c:=by exact rfl)(hc:c={callee:=.builtin .append,args:= #[x,y],argTypes:= #[T,T']}:=by exact rfl)(hx:opA env x=.nils:=by exact rfl)(hy:opA env y=ya:=by exact rfl):
  OpH P o env H (.osl H.length 0 r.length k) (H++[.row et k (r.map e)]):=by
 obtain⟨g,rfl⟩:=QiY h;have:=Qhh E f d hc hx hy a (by grind)
 grind
theorem Qg{c:Call}{T T' et et' k i n:Nat}{x y:Operand}{ya:A}{l m r:List α}(h:app l m=some r)(E:Q1 P T et k)(f:∀w,(underlying T').run P w=.ok (.slice et') w)(a:Src P H ya k (m.map e))
  (d:l.length=n:=by exact rfl)(ho:o.op=.call c:=by exact rfl)(hc:c={callee:=.builtin .append,args:= #[x,y],argTypes:= #[T,T']}:=by exact rfl)(hx:opA env x=.osl i 0 n k:=by exact rfl)
  (hH:H[i]?=some (.row et k (l.map e)):=by exact rfl)(hy:opA env y=ya:=by exact rfl):
  OpH P o env H (.osl H.length 0 r.length k) (H.set i .dead++[.row et k (r.map e)]):=by
 obtain⟨g,rfl⟩:=QiY h;subst d;have:=QkM E f ho hc hx hH (by simp) hy a (by grind) (gs:=(l++m).map e) (by rw[VC (by simp)];simp)
 grind
theorem Jd{k:Nat}{l:List α}:Src P H (.rsl k (l.map e)) k (l.map e):=Src.rsl
theorem QM{i n k t:Nat}{l:List α}(hH:H[i]?=some (.row t k (l.map e)):=by exact rfl)(hn:l.length=n:=by exact rfl):Src P H (.osl i 0 n k) k (l.map e):=
 Src.osl hH (by grind[List.take_of_length_le]) (by simp[hn])
theorem QaX{t n b T k f:Nat}{x y:Operand}{l l':List α}{i:Int}{v j:α}{vs:List A}{a:A}{off:Nat}(h:idx l i=some v)(hl:Qej l i j=some l')(m:∀w,(sizeOf t).run P w=.ok n w)(d:off=i.toNat*k+f)(g:splice (e v) f vs=e j)
  (p:o.op=.store t x y:=by exact rfl)(hx:opA env x=.ptr b off:=by exact rfl)(hH:H[b]?=some (.row T k (l.map e)):=by exact rfl)
  (hy:opA env y=a:=by exact rfl)(hk:Yr a=true:=by exact rfl)(hv:YA a=vs:=by exact rfl)(hn:vs.length=n:=by exact rfl)(hp:vs.all Yz=true:=by exact rfl)(hd:Yu vs=true:=by exact rfl)(hf:Nat.ble (f+n) k=true:=by exact rfl):
  OpU P o env H (H.set b (.row T k (l'.map e))):=by
 refine Qi2 p hx hH m d (Qfs (Qae h).2) hy hk hv hn hp hd hf g ?_
 grind[Qej,List.map_set]
end
def ZR(a:A)(v:Value):Prop:=∀ro σ w,VR ro σ w a v
def ZL(az:List A)(l:List Value):Prop:=∀ro σ w,LR ro σ w az l
theorem ZR.int{k:IntKind}{n:Int}:ZR (.int k n) (.int k n):=λ_ _ _=>rfl
theorem ZR.bool{b:Bool}:ZR (.bool b) (.bool b):=λ_ _ _=>rfl
theorem ZR.str:ZR (.str []) (.string ⟨#[]⟩):=λ_ _ _=>rfl
theorem ZR.rsl{α:Type}{k:Nat}{e:α->List A}:ZR (.rsl k (List.map e [])) (.slice none 0 0):=λ_ _ _=>⟨none,0,rfl,XQ _,.inl rfl⟩
theorem ZR.nils:ZR .nils (.slice none 0 0):=λ_ _ _=>rfl
theorem ZR.nilp:ZR .nilp (.pointer none):=λ_ _ _=>rfl
theorem ZR.nilf:ZR .nilf .nilFunc:=λ_ _ _=>rfl
theorem ZR.nilm:ZR .nilm (.map none):=λ_ _ _=>rfl
theorem QqC:ZR .nilif .nilIface:=λ_ _ _=>rfl
theorem ZL.nil:ZL [] []:=λ_ _ _=>rfl
theorem ZL.cons{a:A}{v:Value}{az:List A}{l:List Value}(h:ZR a v)(k:ZL az l):ZL (a::az) (v::l):=λro σ w=>⟨v,l,rfl,h ro σ w,k ro σ w⟩
theorem ZR.agg{az:List A}{l:List Value}(h:ZL az l):ZR (.agg az) (.agg l.toArray):=λro σ w=>⟨l,rfl,h ro σ w⟩
section
variable {P:Program} {o:Oper} {env:Env} {H:Qb}
theorem Qdo{t:Nat}{z:Value}{v:A}{cs:List A}(i:∀w,(zeroValue t).run P w=.ok z w)(g:ZR v z)(k:o.op=.alloc t:=by exact rfl)(hk:Yr v=true:=by exact rfl)(hcs:YA v=cs:=by exact rfl)(hpl:cs.all Yz=true:=by exact rfl):
  OpH P o env H (.ptr H.length 0) (H++[.cells t cs]):=by
 intro j f σ N a w r;obtain⟨l,h,d⟩:=(g f σ w).cells hk;subst hcs;refine⟨.pointer (some ⟨w.heap.size,0,none⟩),w.alloc (.cells l.toArray t),f,[some w.heap.size],?_,⟨w.heap.size,?_,rfl⟩,r.sim.allocCells d (d.plain hpl),Qk.alloc _ r.sim.roLt r.sim.frLt⟩
 .have e:(newVar t z).run P w=.ok ⟨w.heap.size,0,none⟩ (w.alloc (.cells l.toArray t)):=by
   unfold newVar;rw[h];rfl
  simp_all[execOp,Instr.alloc]
 .rw[<- r.sim.len];simp
theorem QlG{t:TypeId}{p q:Bool}{w:World}(a:∀w,(underlying t).run P w=.ok .bool w):(Op.equal t (.bool p) (.bool q)).run P w=.ok (p==q) w:=by
 have k:∀d,(Op.equalIn (d+1) t (.bool p) (.bool q)).run P w=.ok (p==q) w:=by
  simp[Op.equalIn,a]
 exact k 9999
theorem Qdn{t u:TypeId}{x y:Operand}{p q:Bool}(i:∀w,(underlying t).run P w=.ok .bool w)(f:o.op=.binOp .neq t x y u:=by exact rfl)(hx:opA env x=.bool p:=by exact rfl)(hy:opA env y=.bool q:=by exact rfl):OpV P o env H (.bool (p != q)):=by
 intro g h σ N a w r;have d:=QdC r hx;have e:=QdC r hy;refine⟨_,?_,rfl⟩
 simp_all[execOp,Go.binOp,eqGuard,QlG,bne]
theorem Q4{t:TypeId}{x y:Operand}{s:List UInt8}{k:IntKind}{i:Int}{c:UInt8}(h:idx s i=some c)(d:∀w,(underlying t).run P w=.ok .string w)(a:o.op=.index t x y:=by exact rfl)(hx:opA env x=.str s:=by exact rfl)(hy:opA env y=.int k i:=by exact rfl):
  OpV P o env H (.int .u8 c.toNat):=QnR a d hx hy (Qae h).1 (Qae h).2
theorem QkK{α:Type}{e:α->List A}{T et k:Nat}{x:Operand}{lo hi:Option Operand}{l r:List α}{a b:Int}(h:slc l a b=some r)(E1:∀w,(underlying T).run P w=.ok (.slice et) w)(E2:∀w,(sizeOf et).run P w=.ok k w)
  (f:lo=none/\a=0\/ ∃y,lo=some y/\opA env y=.int .i64 a)(g:hi=none/\b=l.length\/ ∃y,hi=some y/\opA env y=.int .i64 b)
  (d:o.op=.slice T x lo hi none:=by exact rfl)(hx:opA env x=.rsl k (l.map e):=by exact rfl):OpV P o env H (.rsl k (r.map e)):=by
 obtain⟨j,i,m,rfl⟩:=Qij h;refine QpD (l:=a.toNat) (h:=b.toNat) E1 E2 d hx ?_ ?_ (by omega) (by simp;omega) (by simp)
 .grind
 grind
theorem QnU{c:Call}{t a i n k:Nat}{x:Operand}(e:∀w,(underlying t).run P w=.ok (.slice a) w)(d:o.op=.call c:=by exact rfl)(hc:c={callee:=.builtin .len,args:= #[x],argTypes:= #[t]}:=by exact rfl)
  (hx:opA env x=.osl i 0 n k:=by exact rfl):OpV P o env H (.int .i64 n):=QkJ d hc e hx
end
def Qe(k:IntKind)(n:Int):List A:=[.int k n]
def Qbk(b:Bool):List A:=[.bool b]
def JW(s:List UInt8):List A:=[.str s]
def QlI{α:Type}(k:Nat)(e:α->List A)(l:List α):List A:=[.rsl k (l.map e)]
theorem Qjg{P:Program}{rd:Option Nat}{o:Oper}{a:Act}{next:Act->World->Prop}{Q:Exit->Act->World->Prop}{e:Result Next}
  (k:∀a' w',next a' w'->a'.defers=a.defers)(h:o.uponIn (WF rd) 0 P a next Q e):
  o.uponIn (WF rd) 0 P a (λa' w'=>next a' w'/\ ∃v,a'=a.put o.dst v) Q e:=by
 cases e with
 |ok n w'=>
  cases n with
  |value v=>exact⟨h,_,rfl⟩
  |skip=>exact⟨h,_,rfl⟩
  |defer d=>
   have:=congrArg List.length (k _ _ h)
   revert this
   cases o.dst<;>simp[Act.put]
  |enter f g=>
   exact⟨h.1,CallsIn.mono h.2 (by grind)⟩
  |row r g=>exact⟨h.1,RowsIn.mono h.2 (by grind)⟩
  |round l f j assign i=>exact⟨h.1,RoundIn.mono h.2 (by grind)⟩
  |_=>exact h.elim
 |halt x w'=>cases x<;>first|exact h|exact h.elim
def Jm(e:Env)(H:Qb):QV:=λx e' H'=>x=.normal/\e'=e/\H'=H
theorem Jm.mk{e:Env}{H:Qb}:Jm e H .normal e H:=⟨rfl,rfl,rfl⟩
inductive Sb (af bf ds:List Nat) (xs:List A) (env0:Env):Env->Prop
 |nil:Sb af bf ds xs env0 []
 |dep (j:Nat) {s:Nat} {a:A} {r:Env} (h1:af.contains j=true) (h2:ds[j]?=some s) (h3:xs[j]?=some a) (k:Sb af bf ds xs env0 r):Sb af bf ds xs env0 ((s,a)::r)
 |old {s:Nat} {a:A} {r:Env} (h1:ds.contains s=false) (h2:lk env0 s=a) (k:Sb af bf ds xs env0 r):Sb af bf ds xs env0 ((s,a)::r)
 |pre (j:Nat) {s:Nat} {a:A} {r:Env} (h1:bf.contains j=true) (h2:ds[j]?=some s) (h3:lk env0 s=a) (k:Sb af bf ds xs env0 r):Sb af bf ds xs env0 ((s,a)::r)
def Qj(o:Oper):List Nat:=(o.after.toList.filter (Region.binds .any)).map (·.on)
def QiW(l:List Oper)(i:Nat):List Nat:=(List.range l.length).filter λj=>((l[j]?).map Qj).getD [] |>.contains i
inductive Qfc (P:Program) (N:Nat) (l:List Oper) (ds:List Nat) (xs:List A) (env0:Env) (i:Nat) (H H':Qb):Prop
 |mk (o:Oper) (e:Env) (d:Nat) (x:A) (ho:l[i]?=some o) (hd:o.dst=some d) (hx:xs[i]?=some x) (hs:Sb (Qj o) (QiW l i) ds xs env0 e)
   (h:WO P H.length N l.toArray [o] e H (Jm (up e d x) H')):Qfc P N l ds xs env0 i H H'
theorem Qfc.use{P:Program}{N:Nat}{l:List Oper}{J:List Nat}{xs:List A}{env0:Env}{i:Nat}{H H':Qb}(u:Qfc P N l J xs env0 i H H')
  {Q:Exit->Act->World->Prop}{K:Act->World->Prop}{fr ro:Nat->Prop}{σ:Sig}{a:Act}{w:World}{o:Oper}{rd:Option Nat}(W:l[i]?=some o)
  (p:Sim fr ro σ H w)(hN:a.tmps.size=N)(F:Qc1 fr a.defers w)(L:QeH rd fr w)
  (hD:∀j∈Qj o,∀s x,J[j]?=some s->xs[j]?=some x->VR ro σ w x (a.tmps.getD s undef))
  (hE:∀s,J.contains s=false->VR ro σ w (lk env0 s) (a.tmps.getD s undef))(hP:∀j s,(QiW l i).contains j=true->J[j]?=some s->VR ro σ w (lk env0 s) (a.tmps.getD s undef))
  (hK:∀v w' ro' τ d x,o.dst=some d->xs[i]?=some x->VR ro' (σ++τ) w' x ((a.put o.dst v).tmps.getD d undef)->Sim fr ro' (σ++τ) H' w'->Qk fr ro w ro' w'->K (a.put o.dst v) w'):
  wpOpIn (WF rd) 0 P l.toArray Q i K a w:=by
 obtain⟨y,e,d,x,M,hd,hx,hs,h⟩:=u;obtain rfl:y=o:=XV (M.symm.trans W);have B:Rel fr ro σ H e N a w:=by
  refine⟨p,?_,hN,F⟩;intro s;clear h
  induction hs with
  |nil=>exact trivial
  | @dep j s1 t r k g h3 _ ih=>
   unfold lk;cases u:Nat.beq s s1 with
   |false=>exact ih
   |true=>
    obtain rfl:=XN u
    grind
  | @old s1 t r k g _ ih=>
   unfold lk;cases u:Nat.beq s s1 with
   |false=>exact ih
   |true=>
    obtain rfl:=XN u
    grind
  | @pre j s1 t r k g h3 _ ih=>
   unfold lk;cases u:Nat.beq s s1 with
   |false=>exact ih
   |true=>
    obtain rfl:=XN u
    grind
 have z:=h rd fr ro σ a w B L;have fin:∀v w',Qb0 H.length fr ro σ w N a.defers (Jm (up e d x) H') .normal (a.put y.dst v) w'->K (a.put y.dst v) w':=by
  rintro v w' ⟨_,X,H2,ro',σ',ab,_,⟨_,rfl,rfl⟩,Y,m,ht,_,O⟩;have hσ:σ'=σ++σ'.drop H.length:=by
   conv=>lhs;rw[<- Xx H.length σ']
   rw[ht, <- p.len,X4]
  have G:=Y.env d;unfold lk at G;rw[Vz]at G;rw[hσ]at G;refine hK v w' ro' (σ'.drop H.length) d x hd hx G ?_ m;rw[<- hσ];exact Y.sim.frMono O.sub
 unfold wpOpIn;have R:l.toArray[i]?=some y:=by simpa using W
 rw[R];simp only;unfold wpL wpListIn at z;split at z
 .rename_i hw;rw[Vm hw];obtain⟨V,z⟩:=z;refine⟨V,?_⟩;have g:=Qjg (by
   intro a' w' q;unfold wpListIn at q;obtain⟨_,_,_,_,_,_,_,_,_,_,_,q,_⟩:=q;exact q) z
  generalize(y.semAt (WF rd).round a.eval).run P w=res at*;cases res with
  |ok n w'=>
   cases n with
   |value v=>exact fin _ _ g.1
   |skip=>exact fin _ _ g.1
   |defer df=>
    exfalso;obtain⟨⟨_,_,_,_,_,_,_,_,_,_,_,q,_⟩,_⟩:=g;have:=congrArg List.length q
    revert this
    cases y.dst<;>simp[Act.put]
   |enter f E=>
    refine⟨g.1,CallsIn.mono g.2 (λe T m=>?_)⟩;cases e with
    |returned v=>exact fin _ _ m.1
    |panicked c=>obtain⟨t,_,_,_,_,_,k,⟨rfl,_⟩,_⟩:=m;exact k.elim
    |outgrown=>obtain⟨a1,w1,t,_,_,_,_,_,k,⟨rfl,_⟩,_⟩:=m;exact k.elim
   |row r E=>
    exact⟨g.1,RowsIn.mono g.2 (λ_ _ m=>fin _ _ m.1)⟩
   |round l f tmps assign aa=>
    refine⟨g.1,RoundIn.mono g.2 (λe T m=>?_)⟩;cases e with
    |returned v=>exact fin _ _ m.1
    |panicked c=>obtain⟨t,_,_,_,_,_,k,⟨rfl,_⟩,_⟩:=m;exact k.elim
    |outgrown=>obtain⟨a1,w1,t,_,_,_,_,_,k,⟨rfl,_⟩,_⟩:=m;exact k.elim
   |_=>exact g.elim
  |halt x w'=>
   cases x with
   |panic v=>obtain⟨t,_,_,_,_,_,k,⟨rfl,_⟩,_⟩:=g;exact k.elim
   |_=>exact g.elim
 simp_all[wpListIn]
theorem least{p:Nat->Prop}(a:∀i,p i\/ ¬p i):∀n,p n->∃i,i<=n/\p i/\ ∀j,j<i->¬p j:=by
 intro n
 induction n using Nat.strongRecOn with
 |ind n d=>
  grind
def onL(L:Array Bool)(i:Nat):Prop:=L[i]?=some true
theorem QaL{l:List Oper}{L:Array Bool}(p:L.size=l.length){i:Nat}:
  i∈Region.ready .any l.toArray L↔ ∃o,l[i]?=some o/\ ¬onL L i/\ ∀j∈Qj o,onL L j:=by
 unfold Region.ready;simp only[Xe,List.mem_range,XT,XE];have f:∀j,L.getD j false=true↔onL L j:=by
  intro j;unfold onL;rw[Array.getD_eq_getD_getElem?]
  grind
 constructor
 .rintro⟨d,h,a⟩;refine⟨l[i],(by simp),?_,?_⟩
  .grind
  .rw[XH d]at a;simp only[Xk,Option.getD_some,Array.all_eq_true']at a;intro j k;unfold Qj at k
   grind
 .rintro⟨o,d,h,a⟩;have g:i<l.length:=(by grind);refine⟨g,?_,?_⟩
  .grind
  .rw[d];simp only[Xk,Option.getD_some,Array.all_eq_true'];intro e m;cases n:Region.binds .any e with
   |false=>simp
   |true=>
    have:=(f _).2 (a e.on (by unfold Qj;grind))
    grind
theorem J2{L:Array Bool}{i j:Nat}(hi:i<L.size):onL (L.setIfInBounds i true) j↔j=i\/onL L j:=by
 grind[onL]
def unl(L:Array Bool):Nat:=L.toList.countP (!·)
theorem Qih{L:Array Bool}{i:Nat}(hi:i<L.size)(h:¬onL L i):unl (L.setIfInBounds i true)+1=unl L:=by
 unfold unl;have a:L.toList[i]=false:=by
  grind[onL]
 grind
theorem Qme{L:Array Bool}{i:Nat}(hi:i<L.size)(h:¬onL L i):0<unl L:=by have:=Qih hi h;omega
inductive Qc0 (l:List Oper) (m:Nat):Nat->Prop
 |one {o:Oper} {j:Nat} (ho:l[m]?=some o) (hj:j∈Qj o):Qc0 l m j
 |step {o:Oper} {i j:Nat} (h:Qc0 l m i) (ho:l[i]?=some o) (hj:j∈Qj o):Qc0 l m j
def QfX(l:List Oper):Nat->List Nat->List Nat
 |0,S=>S
 |j+1,S=>QfX l j (bif S.contains j then S++(match l[j]? with|some o=>Qj o|none=>[])else S)
theorem Qcy{l:List Oper}{m:Nat}:∀(n:Nat) (S:List Nat),(∀j∈S,Qc0 l m j)->∀j∈QfX l n S,Qc0 l m j
 |0,S,h,j,hj=>h j hj
 |n+1,S,h,j,hj=>by
  refine Qcy n _ ?_ j hj;intro i hi;cases q:S.contains n with
  |false=>grind
  |true=>
   rw[q]at hi;rcases Vx.1 hi with z|z
   .exact h i z
   .cases ho:l[n]? with
    |none=>grind
    |some o=>rw[ho]at z;exact .step (by grind) ho z
def Qaw(ds:List Nat)(xs:List A)(env0:Env):Env:=ds.zip xs++env0
theorem Qqa{a:List Nat}{xs:List A}{env0:Env}(hl:a.length=xs.length)(s:Nat):
  (∃(j:Nat) (x:A),a[j]?=some s/\xs[j]?=some x/\lk (Qaw a xs env0) s=x)\/(a.contains s=false/\lk (Qaw a xs env0) s=lk env0 s):=by
 unfold Qaw
 induction a generalizing xs with
 |nil=>simp
 |cons d a g=>
  cases xs with
  |nil=>simp at hl
  |cons x xs=>
   simp[XW,Nat.add_right_cancel_iff]at hl;simp only[List.zip_cons_cons,VE,lk];cases h:Nat.beq s d with
   |true=>
    obtain rfl:=XN h;left;exact⟨0,x,rfl,rfl,by simp⟩
   |false=>
    have f:s≠d:=λq=>by simp_all
    rcases g hl with⟨j,y,e,i,k⟩|⟨e,i⟩
    .left;exact⟨j+1,y,by grind,by grind,by grind⟩
    grind
def drawChk.nodupB:List Nat->Bool
 |[]=>true
 |x::r=> !r.contains x&&drawChk.nodupB r
def drawChk.goB(l:List Oper)(m:Nat):Nat->List Oper->Bool
 |_,[]=>true
 |i,o::r=>(Qj o).all (λj=>Nat.blt j i)&&(bif Nat.beq i m then(List.range m).all (λj=>(QfX l m (Qj o)).contains j)else bif Nat.blt m i then(Qj o).contains (i-1)else true)&&drawChk.goB l m (i+1) r
def drawChk.loB(m k:Nat)(los:List Nat)(hs:List Bool):Nat->List Oper->Bool
 |_,[]=>(List.range k).all λj=>(List.range m).any λi=>hs.getD i false&&Nat.beq (los.getD i 0) j
 |i,o::r=>(bif Nat.blt i m then
   (Nat.beq (los.getD i 0) 0||(Qj o).any (λj=>Nat.blt j m&&Nat.ble (los.getD i 0) (los.getD j 0+(if hs.getD j false then 1 else 0))))
   &&(!hs.getD i false||(Nat.blt (los.getD i 0) k&&(List.range m).all (λj=> !hs.getD j false|| !Nat.beq (los.getD i 0) (los.getD j 0)||Nat.beq i j)))
  else true)&&drawChk.loB m k los hs (i+1) r
def drawChk(l:List Oper)(m k N:Nat)(ds los:List Nat)(hs:List Bool):Bool:=
 Nat.ble m l.length&&(ds.length==m)&&(l.take m).map (·.dst)==ds.map some&&ds.all (λd=>Nat.blt d N)&&drawChk.nodupB ds
 &&drawChk.goB l m 0 l&&(drawChk.loB m k los hs 0 l)
theorem QeU{a:List Nat}(h:drawChk.nodupB a=true):∀(i j d:Nat),a[i]?=some d->a[j]?=some d->i=j:=by
 induction a with
 |nil=>simp
 |cons x r e=>
  simp[drawChk.nodupB,XT]at h
  grind
theorem QjU{l:List Oper}{m:Nat}:∀(r:List Oper) (b:Nat),drawChk.goB l m b r=true->∀(i:Nat) (o:Oper),r[i]?=some o->
  (∀j∈Qj o,j<b+i)/\(b+i=m->∀j,j<m->j∈QfX l m (Qj o))/\(m<b+i->b+i-1∈Qj o):=by
 intro r
 induction r with
 |nil=>simp
 |cons x r g=>
  intro b h i o a;simp only[drawChk.goB]at h;cases i with
  |zero=>
   simp at a;refine⟨λj e=>?_,λd j e=>?_,λd=>?_⟩
   .simp_all
   .simp_all
   .have k:Nat.beq b m=false:=by
     cases q:Nat.beq b m with
     |false=>rfl
     |true=>simp_all
    have f:Nat.blt m b=true:=by simp_all
    grind
  |succ i=>
   grind
inductive Ob (P:Program) (N:Nat) (l:List Oper) (ds:List Nat) (xs:List A) (env0:Env):Nat->List (List (Qb×Qb))->Prop
 |nil {i:Nat}:Ob P N l ds xs env0 i []
 |cons {i:Nat} {s:List (Qb×Qb)} {r:List (List (Qb×Qb))} (h:∀p∈s,Qfc P N l ds xs env0 i p.1 p.2) (k:Ob P N l ds xs env0 (i+1) r):Ob P N l ds xs env0 i (s::r)
theorem Ob.get{P:Program}{N:Nat}{l:List Oper}{a:List Nat}{xs:List A}{env0:Env}{b:Nat}{d:List (List (Qb×Qb))}(h:Ob P N l a xs env0 b d):
  ∀(i:Nat) (s:List (Qb×Qb)),d[i]?=some s->∀p∈s,Qfc P N l a xs env0 (b+i) p.1 p.2:=by
 induction h with
 |nil=>simp
 | @cons b1 s1 r1 h _ ih=>
  grind
theorem Ob.st0{P:Program}{N:Nat}{l:List Oper}{a:List Nat}{xs:List A}{env0:Env}{i:Nat}:∀p∈([]:List (Qb×Qb)),Qfc P N l a xs env0 i p.1 p.2:=by
 simp
theorem Ob.stC{P:Program}{N:Nat}{l:List Oper}{a:List Nat}{xs:List A}{env0:Env}{i:Nat}{H H':Qb}{r:List (Qb×Qb)}(h:Qfc P N l a xs env0 i H H')
  (k:∀p∈r,Qfc P N l a xs env0 i p.1 p.2):∀p∈(H,H')::r,Qfc P N l a xs env0 i p.1 p.2:=by
 grind
theorem QbC.nil{H:Qb}:QbC H [] []:=trivial
theorem QbC.cons{H:Qb}{az d f:List A}{a b:A}(e:az=a::d)(h:Look H a b)(k:QbC H d f):QbC H az (b::f):=by subst e;exact⟨h,k⟩
section
variable {P:Program} {o:Oper} {env:Env} {H:Qb} {α:Type} {e:α->List A}
theorem QgX{t a k:Nat}{x y:Operand}{l:List α}{g:IntKind}{i:Int}{v:α}{cs:List A}(h:idx l i=some v)(he:e v=cs)(j:∀w,(underlying t).run P w=.ok (.slice a) w)(d:∀w,(sizeOf a).run P w=.ok k w)
  (f:o.op=.indexAddr t x y:=by exact rfl)(hx:opA env x=.rsl k (l.map e):=by exact rfl)(hy:opA env y=.int g i:=by exact rfl):OpV P o env H (.rp cs):=
 he▸QcL h j d f hx hy
end
inductive PL (P:Program):List Field->List (Nat×Nat)->Prop
 |nil:PL P [] []
 |cons {f:Field} {n:Nat} {fs:List Field} {pl:List (Nat×Nat)} (h:∀w,(sizeOf f.type).run P w=.ok n w) (k:PL P fs pl):PL P (f::fs) ((f.offset,n)::pl)
theorem PL.run{P:Program}{fs:List Field}{a:List (Nat×Nat)}(h:PL P fs a):∀w,(fs.mapM λf=>(do pure (f.offset, <- sizeOf f.type):Sem (Nat×Nat))).run P w=.ok a w:=by
 induction h with
 |nil=>intro w;rfl
 |cons h _ ih=>
  simp_all
structure QeI (P:Program) (t:TypeId) (pl:List (Nat×Nat)):Prop where
 un:∃fs:List Field,(∀w,(underlying t).run P w=.ok (.struct fs.toArray) w)/\PL P fs pl
section
variable {P:Program} {o:Oper} {env:Env} {H:Qb}
def Qe0(env:Env)(pl:List (Nat×Nat)):List A->List (Nat×Operand)->Option (List A)
 |cs,[]=>some cs
 |cs,(i,x)::r=>match pl[i]? with
  |none=>none
  |some (off,size)=>bif Yr (opA env x)&&Nat.beq (YA (opA env x)).length size&&Nat.ble (off+size) cs.length then Qe0 env pl (splice cs off (YA (opA env x))) r else none
theorem Qgm{fr ro:Nat->Prop}{σ:Sig}{N:Nat}{a:Act}{w:World}(r:Rel fr ro σ H env N a w){d:List (Nat×Nat)}:∀(parts:List (Nat×Operand)) (cs:List A) (l:List Value) (cs':List A),
  LR ro σ w cs l->Qe0 env d cs parts=some cs'->
  ∃l',Instr.fill (d.toArray[·]?) l.toArray (parts.map λp=>(p.1,a.eval p.2))=some l'.toArray/\LR ro σ w cs' l'
 |[],cs,l,cs',h,q=>by
  cases q;exact⟨l,rfl,h⟩
 |(i,x)::rest,cs,l,cs',h,q=>by
  unfold Qe0 at q;cases hp:d[i]? with
  |none=>grind
  |some p=>
   obtain⟨off,size⟩:=p;rw[hp]at q;simp at q;cases hc:(Yr (opA env x)&&Nat.beq (YA (opA env x)).length size&&Nat.ble (off+size) cs.length)with
   |false=>grind
   |true=>
    rw[hc]at q;simp[XT]at hc;obtain⟨⟨c1,c2⟩,c3⟩:=hc;obtain⟨m,q1,q2⟩:=(Qi r x).cells c1;have hm:m.length=size:=by rw[q2.length];simp_all
    have hl:=h.length;obtain⟨l',f,e⟩:=Qgm r rest _ (splice l off m) cs' (h.splice off q2) q
    grind[QhO,Nat.le_of_ble_eq_true]
theorem OpV.build{t:TypeId}{z:Value}{zs cs:List A}{e:List (Nat×Nat)}{parts:List (Nat×Operand)}(j:∀w,(zeroValue t).run P w=.ok z w)(i:ZR (.agg zs) z)(s:QeI P t e)
  (h:o.op=.build t parts.toArray:=by exact rfl)(hf:Qe0 env e zs parts=some cs:=by exact rfl):OpV P o env H (.agg cs):=by
 intro u q σ N a w r;obtain⟨x,f,m⟩:=s.un;obtain⟨l,rfl,g⟩:=i q σ w;obtain⟨d,p,k⟩:=Qgm r parts zs l cs g hf;refine⟨.agg d.toArray,?_,d,rfl,k⟩;have n:=m.run w;simp only[execOp,h,Instr.build,Vg,j,Result.andThen,f,XF,List.mapM_toArray,Sem.run_map,n,Value.cells,p,Vh]
end
section
variable {P:Program} {o:Oper} {env:Env} {H:Qb}
theorem YV{x:Operand}{a:A}(i:o.op=.nilCheck x)(g:opA env x=a:=by exact rfl)(hk:(match a with|.ptr _ _=>true|.rp _=>true|_=>false)=true:=by exact rfl):OpV P o env H a:=by
 intro j k σ N ac w r;have h:=Qi r x;rw[g]at h;cases a<;>first|(cases hk)|skip
 .obtain⟨b,e,f⟩:=h;refine⟨_,?_,b,e,rfl⟩
  simp_all[execOp]
 .obtain⟨b,d,e,f⟩:=h;refine⟨_,?_,b,d,rfl,f⟩
  simp_all[execOp]
end
mutual
def FzA(i k:Nat)(es:List (List A)):A->A->Prop
 |.agg az,b=>∃bs,b=.agg bs/\FzL i k es az bs
 |.fn f x c,b=>∃x' c',b=.fn f x' c'/\FzL i k es x x'/\FzL i k es c c'
 |.iface t a,b=>∃a',b=.iface t a'/\FzA i k es a a'
 |.tup az,b=>∃bs,b=.tup bs/\FzL i k es az bs
 |.osl j o n k',b=>b=.osl j o n k'\/(j=i/\o=0/\k'=k/\n=es.length/\b=.rsl k es)
 |.nils,b=>b=.nils\/ ∃k',b=.rsl k' []
 |a,b=>b=a
def FzL(i k:Nat)(es:List (List A)):List A->List A->Prop
 |[],b=>b=[]
 |a::az,b=>∃a' as',b=a'::as'/\FzA i k es a a'/\FzL i k es az as'
end
mutual
theorem FzA.refl{i k:Nat}{es:List (List A)}:∀a:A,FzA i k es a a
 |.agg az=>⟨az,rfl,FzL.refl az⟩
 |.fn _ x c=>⟨x,c,rfl,FzL.refl x,FzL.refl c⟩
 |.iface _ a=>⟨a,rfl,FzA.refl a⟩
 |.tup az=>⟨az,rfl,FzL.refl az⟩
 |.osl _ _ _ _=>.inl rfl
 |.nils=>.inl rfl
 |.any=>rfl
 |.bool _=>rfl
 |.int _ _=>rfl
 |.str _=>rfl
 |.nilp=>rfl
 |.ptr _ _=>rfl
 |.rp _=>rfl
 |.rsl _ _=>rfl
 |.nilf=>rfl
 |.nilif=>rfl
 |.map _=>rfl
 |.nilm=>rfl
theorem FzL.refl{i k:Nat}{es:List (List A)}:∀az:List A,FzL i k es az az
 |[]=>rfl
 |a::az=>⟨a,az,rfl,FzA.refl a,FzL.refl az⟩
end
theorem FzA.agg{i k:Nat}{es:List (List A)}{az bs:List A}(h:FzL i k es az bs):FzA i k es (.agg az) (.agg bs):=⟨bs,rfl,h⟩
theorem FzA.tup{i k:Nat}{es:List (List A)}{az bs:List A}(h:FzL i k es az bs):FzA i k es (.tup az) (.tup bs):=⟨bs,rfl,h⟩
theorem FzA.iface{i k:Nat}{es:List (List A)}{t:Nat}{a b:A}(h:FzA i k es a b):FzA i k es (.iface t a) (.iface t b):=⟨b,rfl,h⟩
theorem FzA.own{i k n:Nat}{es:List (List A)}(hn:n=es.length):FzA i k es (.osl i 0 n k) (.rsl k es):=.inr (by grind)
theorem FzA.nil{i k k':Nat}{es:List (List A)}:FzA i k es .nils (.rsl k' []):=.inr ⟨k',rfl⟩
theorem FzL.cons{i k:Nat}{es:List (List A)}{a b:A}{az bs:List A}(h:FzA i k es a b)(q:FzL i k es az bs):FzL i k es (a::az) (b::bs):=⟨b,bs,rfl,h,q⟩
mutual
theorem Ql4{i k:Nat}{es:List (List A)}{ro ro':Nat->Prop}{σ:Sig}{w:World}(ext:Ext ro σ w ro' σ w)
  (hf:∀v,VR ro σ w (.osl i 0 es.length k) v->VR ro' σ w (.rsl k es) v):∀(a b:A) (v:Value),FzA i k es a b->VR ro σ w a v->VR ro' σ w b v
 |.agg az,b,v,h,q=>by
  obtain⟨bs,rfl,h⟩:=h;obtain⟨l,rfl,q⟩:=q;exact⟨l,rfl,QeL ext hf az bs l h q⟩
 |.fn f x c,b,v,h,q=>by
  obtain⟨x',c',rfl,h1,h2⟩:=h;obtain⟨l,l',rfl,q1,q2⟩:=q;exact⟨l,l',rfl,QeL ext hf x x' l h1 q1,QeL ext hf c c' l' h2 q2⟩
 |.iface t a,b,v,h,q=>by
  obtain⟨a',rfl,h⟩:=h;obtain⟨x,rfl,q⟩:=q;exact⟨x,rfl,Ql4 ext hf a a' x h q⟩
 |.tup az,b,v,h,q=>by
  obtain⟨bs,rfl,h⟩:=h;obtain⟨l,rfl,q⟩:=q;exact⟨l,rfl,QeL ext hf az bs l h q⟩
 |.osl j o n k',b,v,h,q=>by
  rcases h with rfl|⟨rfl,rfl,rfl,rfl,rfl⟩
  .exact q.mono ext
  .exact hf v q
 |.nils,b,v,h,q=>by
  rcases h with rfl|⟨k',rfl⟩
  .exact q
  .obtain rfl:v=.slice none 0 0:=q;exact⟨none,0,rfl,XQ _,.inl rfl⟩
 |.any,b,v,h,q=>by obtain rfl:b=_:=h;trivial
 |.bool _,b,v,h,q=>by obtain rfl:b=_:=h;exact q
 |.int _ _,b,v,h,q=>by obtain rfl:b=_:=h;exact q
 |.str _,b,v,h,q=>by obtain rfl:b=_:=h;exact q
 |.nilp,b,v,h,q=>by obtain rfl:b=_:=h;exact q
 |.ptr _ _,b,v,h,q=>by obtain rfl:b=_:=h;exact q.mono ext
 |.rp _,b,v,h,q=>by obtain rfl:b=_:=h;exact q.mono ext
 |.rsl _ _,b,v,h,q=>by obtain rfl:b=_:=h;exact q.mono ext
 |.nilf,b,v,h,q=>by obtain rfl:b=_:=h;exact q
 |.nilif,b,v,h,q=>by obtain rfl:b=_:=h;exact q
 |.map _,b,v,h,q=>by obtain rfl:b=_:=h;exact q.mono ext
 |.nilm,b,v,h,q=>by obtain rfl:b=_:=h;exact q
theorem QeL{i k:Nat}{es:List (List A)}{ro ro':Nat->Prop}{σ:Sig}{w:World}(ext:Ext ro σ w ro' σ w)
  (hf:∀v,VR ro σ w (.osl i 0 es.length k) v->VR ro' σ w (.rsl k es) v):∀(az bs:List A) (l:List Value),FzL i k es az bs->LR ro σ w az l->LR ro' σ w bs l
 |[],bs,l,h,q=>by obtain rfl:bs=[]:=h;exact q
 |a::az,bs,l,h,q=>by
  obtain⟨a',as',rfl,h1,h2⟩:=h;obtain⟨v,l',rfl,q1,q2⟩:=q;exact⟨v,l',rfl,Ql4 ext hf a a' v h1 q1,QeL ext hf az as' l' h2 q2⟩
end
def FzB(i k:Nat)(es:List (List A))(x y:Blk):Prop:=y=x\/ ∃t cs cs',x=.cells t cs/\y=.cells t cs'/\FzL i k es cs cs'
def FzH(i k:Nat)(es:List (List A)):Qb->Qb->Prop
 |[],h=>h=[]
 |x::r,h=>∃y r',h=y::r'/\FzB i k es x y/\FzH i k es r r'
def QpL(i k:Nat)(es:List (List A))(env:Env):Env->Prop
 |[]=>True
 |(s,a)::r=>FzA i k es (lk env s) a/\QpL i k es env r
theorem FzH.nil{i k:Nat}{es:List (List A)}:FzH i k es [] []:=rfl
theorem FzH.keep{i k:Nat}{es:List (List A)}{x:Blk}{r r':Qb}(h:FzH i k es r r'):FzH i k es (x::r) (x::r'):=⟨x,r',rfl,.inl rfl,h⟩
theorem FzH.cells{i k t:Nat}{es:List (List A)}{cs cs':List A}{r r':Qb}(q:FzL i k es cs cs')(h:FzH i k es r r'):FzH i k es (.cells t cs::r) (.cells t cs'::r'):=⟨_,r',rfl,.inr (by grind),h⟩
theorem FzH.get{i k:Nat}{es:List (List A)}:∀{H H':Qb},FzH i k es H H'->∀(j:Nat) (y:Blk),H'[j]?=some y->∃x,H[j]?=some x/\FzB i k es x y
 |[],_,h,j,y,q=>by obtain rfl:_=[]:=h;simp at q
 |x::r,_,h,j,y,q=>by
  obtain⟨y',r',rfl,h1,h2⟩:=h;cases j with
  |zero=>grind
  |succ j=>obtain⟨x',p1,p2⟩:=h2.get j y q;grind
theorem FzH.len{i k:Nat}{es:List (List A)}:∀{H H':Qb},FzH i k es H H'->H'.length=H.length
 |[],_,h=>by obtain rfl:_=[]:=h;rfl
 |x::r,_,h=>by obtain⟨y',r',rfl,h1,h2⟩:=h;simp[h2.len]
theorem FzB.live{i k:Nat}{es:List (List A)}{x y:Blk}(h:FzB i k es x y):y.live=x.live:=by
 rcases h with rfl|⟨t,d,a,rfl,rfl,_⟩<;>rfl
theorem Qau{env:Env}{H H':Qb}{h0 i k t:Nat}{es:List (List A)}(ov:Env)(hi:Nat.ble h0 i=true)(hH:H[i]?=some (.row t k es))(X:QpL i k es env ov)(F:FzH i k es (H.set i .dead) H'):Le h0 env H (ov++env) H':=by
 intro fr T σ N a w r
 let ro':Nat->Prop:=λb=>T b\/σ[i]?=some (some b)
 have hown:=λb h=>r.sim.own i b _ h hH rfl;have ext:Ext T σ w ro' σ w:=⟨λ_ q=>.inl q,λ_ _=>rfl,λ_ _ q=>q,λ_ _ q=>q⟩;have hf:∀v,VR T σ w (.osl i 0 es.length k) v->VR ro' σ w (.rsl k es) v:=by
  intro v h;rcases h with⟨h0,h⟩|⟨b,p,L,t',m,g,h,n,⟨u,aa⟩,h4,R⟩
  .have:es=[]:=(by grind);subst this;exact⟨none,0,h,XQ _,.inl rfl⟩
  .refine⟨_,L,h,u,?_⟩;by_cases he:es=[]
   .exact .inl he
   .right;have hc:0<L:=X9 (by grind) u;obtain rfl:=n hc;obtain⟨l,O,W⟩:=r.sim.blk i _ _ g hH;refine⟨b,0,by simp,.inr g,?_⟩;have:=Y5 (pre:=[]) (by simpa using O) W;exact this.keep ⟨λ_ q=>.inl q,λ_ _=>rfl,λ_ _ q=>q,λ_ _ q=>q⟩ rfl
 have f:∀(j:Nat) (y:Blk),H'[j]?=some y->y≠ .dead->j≠i/\ ∃x,H[j]?=some x/\FzB i k es x y:=by
  intro j y h M;obtain⟨x,g,n⟩:=F.get j y h;by_cases e:j=i
  .subst e;rw[Xb]at g;simp only[if_true]at g;split at g
   .cases g;rcases n with rfl|⟨_,_,_,q,_,_⟩
    .grind
    .cases q
   .simp at g
  grind
 refine⟨ro',σ,⟨⟨by rw[F.len,XZ];exact r.sim.len,r.sim.roOk.to (λ_ q=>.inl q) (λ_ _=>rfl) ?_,r.sim.frLt,?_,?_,?_,?_,r.sim.hidTo (· = ·) Q9 (XQ _) (λj b x c O W q3 q4=>q4.elim id λq=>((r.sim.hid j b x c O W q3).ne i c _ q hH rfl rfl).elim) (by simp) λj d y Q P g3=>.inl ?_⟩,?_,r.size,r.defers⟩,λ_ q=>.inl q,rfl⟩
 rotate_left 5
 .obtain⟨_,x,g4,g5⟩:=f j y P (QfB g3);exact⟨j,x,rfl,Q,g4,λz=>by rw[<- g5.live];exact z,λc q=>by rcases g5 with rfl|⟨t,cs,G,rfl,rfl,_⟩;exact q;exact q.elim⟩
 rotate_left 1
 .rintro b (q|q)
  .exact r.sim.roLt b q
  grind
 .rintro b (q|q)
  .exact r.sim.roFr b q
  grind
 .intro j b v g n u;obtain⟨e,x,n,J⟩:=f j v n (Qav u);have hx:x.live=true:=by rw[<- J.live];exact u
  obtain⟨B,E,p3⟩:=r.sim.own j b x g n hx;refine⟨B,?_,p3⟩;rintro(q|q)
  .exact E q
  .exact e (r.sim.inj j i b x _ g q n hH hx rfl)
 .intro j j' b v v' g n u h4 R h6;obtain⟨_,x,B,E⟩:=f j v u (Qav R);obtain⟨_,x',V,Y⟩:=f j' v' h4 (Qav h6);exact r.sim.inj j j' b x x' g n B V (by rw[<- E.live];exact R) (by rw[<- Y.live];exact h6)
 .intro j s v g n;by_cases M:v≠ .dead
  .obtain⟨_,x,B,E⟩:=f j v n M;have J:=r.sim.blk j s x g B;rcases E with rfl|⟨t,cs,G,rfl,rfl,q⟩
   .exact J.keep ext (λ_ _ _=>rfl) (λ_ _ _ _=>rfl)
   .cases s with
    |none=>exact J.elim
    |some b=>
     obtain⟨l,e1,e2,e3⟩:=J;exact⟨l,e1,QeL ext hf cs G l q e2,e3⟩
  .obtain rfl:v=.dead:=Classical.not_not.1 M;trivial
 .intro s
  induction ov with
  |nil=>exact(r.env s).mono ext
  |cons p ov ih=>
   obtain⟨s1,a1⟩:=p;obtain⟨Q,P⟩:=X;simp only[VE,lk];cases q:Nat.beq s s1 with
   |true=>
    obtain rfl:=XN q;exact Ql4 ext hf _ _ _ Q (r.env s)
   |false=>exact ih P
theorem QpL.nil{i k:Nat}{es:List (List A)}{env:Env}:QpL i k es env []:=trivial
theorem QpL.cons{i k s:Nat}{es:List (List A)}{env:Env}{a b:A}{r:Env}(h:lk env s=a)(q:FzA i k es a b)(g:QpL i k es env r):QpL i k es env ((s,b)::r):=⟨h▸q,g⟩
def Qd6(P:Program)(env:Env)(H:Qb)(l:ResultVar)(x:A):Prop:=
 ∀fr ro σ N a w,Rel fr ro σ H env N a w->∃v,((match l with
  |.tmp t=>pure (a.tmps.getD t undef)
  |.cell b t=>do loadVar t (<- asAddr (a.tmps.getD b undef)):Sem Value)).run P w=.ok v w/\VR ro σ w x v
def QlU(P:Program)(env:Env)(H:Qb):List ResultVar->List A->Prop
 |[],xs=>xs=[]
 |l::ls,xs=>∃x xs',xs=x::xs'/\Qd6 P env H l x/\QlU P env H ls xs'
section
variable {P:Program} {fn:Func} {env:Env} {H:Qb}
theorem Qd6.tmp{t:Nat}{x:A}(d:lk env t=x:=by exact rfl):Qd6 P env H (.tmp t) x:=
 λfr ro σ N a w r=>⟨a.tmps.getD t undef,rfl,d▸r.env t⟩
theorem Qd6.cell{b t:Nat}{p x:A}{cs:List A}(l:∀w,(isAgg t).run P w=.ok false w)(i:Pts H p (x::cs))(f:lk env b=p:=by exact rfl):Qd6 P env H (.cell b t) x:=by
 intro e h σ N a w r;have d:=r.env b;rw[f]at d;obtain⟨j,g,m,⟨y,n,_,k⟩,_⟩:=i e h σ w _ r.sim d
 simp_all[asAddr,loadVar]
theorem Qfb{b t n:Nat}{p:A}{cs:List A}(s:∀w,(isAgg t).run P w=.ok true w)(q:∀w,(sizeOf t).run P w=.ok n w)(k:Pts H p cs)(g:lk env b=p:=by exact rfl)(hl:(cs.take n).length=n:=by exact rfl):
  Qd6 P env H (.cell b t) (.agg (cs.take n)):=by
 intro f j σ N a w r;have d:=r.env b;rw[g]at d;obtain⟨m,i,u,h⟩:=k f j σ w _ r.sim d;obtain⟨l,e,_,x⟩:=YE (P:=P) 0 (by simpa using h.take n);refine⟨.agg l.toArray,?_,l,rfl,e⟩
 simp_all[asAddr,loadVar,loadCells]
theorem QE{b t n i T:Nat}{cs:List A}(d:∀w,(isAgg t).run P w=.ok true w)(a:∀w,(sizeOf t).run P w=.ok n w)(e:lk env b=.ptr i 0)(hH:H[i]?=some (.cells T cs))(hl:cs.length=n):
  Qd6 P env H (.cell b t) (.agg cs):=by
 have:=Qfb d a (Pts.cells hH rfl) e (by grind)
 grind
theorem JV{b t i T:Nat}{x:A}(ha:∀w,(isAgg t).run P w=.ok false w)(hx:lk env b=.ptr i 0)(hH:H[i]?=some (.cells T [x])):Qd6 P env H (.cell b t) x:=
 Qd6.cell ha (Pts.cells hH rfl) hx
theorem QlU.nil:QlU P env H [] []:=rfl
theorem QlU.cons{l:ResultVar}{ls:List ResultVar}{x:A}{xs:List A}(h:Qd6 P env H l x)(k:QlU P env H ls xs):QlU P env H (l::ls) (x::xs):=⟨x,xs,rfl,h,k⟩
theorem QlU.run{fr ro:Nat->Prop}{σ:Sig}{N:Nat}{a:Act}{w:World}(r:Rel fr ro σ H env N a w):∀{ls:List ResultVar} {xs:List A},QlU P env H ls xs->
  ∃vs:List Value,(ls.mapM λl=>(match l with
   |.tmp t=>pure (a.tmps.getD t undef)
   |.cell b t=>do loadVar t (<- asAddr (a.tmps.getD b undef)):Sem Value)).run P w=.ok vs w/\LR ro σ w xs vs
 |[],_,h=>by obtain rfl:_=[]:=h;exact⟨[],rfl,rfl⟩
 |l::ls,_,h=>by
  obtain⟨x,xs,rfl,h1,h2⟩:=h;obtain⟨v,e1,e2⟩:=h1 fr ro σ N a w r;obtain⟨vs,e3,e4⟩:=QlU.run r h2;refine⟨v::vs,?_,v,vs,rfl,e2,e4⟩
  simp_all
theorem QU{ls:List ResultVar}{xs:List A}(h:fn.results=ls.toArray)(m:Nat.beq ls.length 1=false)(k:QlU P env H ls xs):Qd5 P fn env H (.tup xs):=by
 intro j p σ N a w r;obtain⟨vs,n,d⟩:=k.run r;have e:¬vs.length=1:=by
  have:∀{ls:List ResultVar} {xs:List A},QlU P env H ls xs->xs.length=ls.length:=by
   intro ls
   induction ls with
   |nil=>intro xs h;obtain rfl:xs=[]:=h;rfl
   |cons l ls f=>intro xs h;obtain⟨x,g,rfl,_,i⟩:=h;simp[f i]
  rw[d.length,this k];intro q;simp_all
 refine⟨.tuple vs.toArray,?_,vs,rfl,d⟩;unfold results;rw[List.mapM_toArray,Vg,Sem.run_map]
 grind[Result.andThen,Sem.run_pure]
theorem Je{l:ResultVar}{x:A}(h:fn.results= #[l])(k:Qd6 P env H l x):Qd5 P fn env H x:=by
 intro g f σ N a w r;obtain⟨vs,e,d⟩:=(QlU.cons k QlU.nil).run r;obtain⟨v,_,rfl,d,rfl⟩:=d;refine⟨v,?_,d⟩;unfold results;rw[h,show #[l]=[l].toArray from rfl];rw[List.mapM_toArray,Vg,Sem.run_map]
 erw [e]
 rfl
end
mutual
def Qb9:A->Bool
 |.bool _=>true
 |.int _ _=>true
 |.str _=>true
 |.agg cs=>QfM cs
 |_=>false
def QfM:List A->Bool
 |[]=>true
 |a::r=>Qb9 a&&QfM r
end
mutual
def Q0:A->Value
 |.bool b=>.bool b
 |.int k n=>.int k n
 |.str s=>.string ⟨s.toArray⟩
 |.agg cs=>.agg (Jf cs).toArray
 |_=>.bool false
def Jf:List A->List Value
 |[]=>[]
 |a::r=>Q0 a::Jf r
end
mutual
theorem VR.val{ro:Nat->Prop}{σ:Sig}{w:World}:∀{a:A} {v:Value},Qb9 a=true->VR ro σ w a v->v=Q0 a
 |.bool _,_,_,h=>h
 |.int _ _,_,_,h=>h
 |.str _,_,_,h=>h
 |.agg cs,v,hs,h=>by
  obtain⟨l,rfl,h⟩:=h;rw[Q0,LR.val hs h]
theorem LR.val{ro:Nat->Prop}{σ:Sig}{w:World}:∀{az:List A} {l:List Value},QfM az=true->LR ro σ w az l->l=Jf az
 |[],l,_,h=>h
 |a::r,l,hs,h=>by
  obtain⟨v,l',rfl,h1,h2⟩:=h;simp only[QfM,XT]at hs;rw[Jf,VR.val hs.1 h1,LR.val hs.2 h2]
end
mutual
theorem Qcp{ro:Nat->Prop}{σ:Sig}{w:World}:∀{a:A},Qb9 a=true->VR ro σ w a (Q0 a)
 |.bool _,_=>rfl
 |.int _ _,_=>rfl
 |.str _,_=>rfl
 |.agg cs,hs=>⟨Jf cs,rfl,Qg4 hs⟩
theorem Qg4{ro:Nat->Prop}{σ:Sig}{w:World}:∀{az:List A},QfM az=true->LR ro σ w az (Jf az)
 |[],_=>rfl
 |a::r,hs=>by
  simp only[QfM,XT]at hs;exact⟨_,_,rfl,Qcp hs.1,Qg4 hs.2⟩
end
open Go.MapKept
structure JG (P:Program) (kt:TypeId) {α:Type} (ek:α->A):Prop where
 scl:∀x,Qb9 (ek x)=true
 inj:∀x y,Q0 (ek x)=Q0 (ek y)->x=y
 check:∀(w:World) em x,(Instr.checkKey em 10000 kt (Q0 (ek x))).run P w=.ok () w
 find:∀(w:World) x (es:List MapEntry),(∀e∈es,∃y,e.key=Q0 (ek y))->
  ((Instr.findKey kt (Q0 (ek x)) es).run P w=.ok none w/\ ∀e∈es,e.key≠Q0 (ek x))\/ ∃j e,(Instr.findKey kt (Q0 (ek x)) es).run P w=.ok (some (j,e.val)) w/\es[j]?=some e/\e.key=Q0 (ek x)
 stays:∀(w:World) x,(Instr.keyThatStays (Q0 (ek x)) (Q0 (ek x))).run P w=.ok (Q0 (ek x)) w
section
variable {P:Program} {kt:TypeId}
theorem JG.plain{α:Type}{ek:α->A}{d:TypeDesc}(f:P.underlying kt=some d)(a:∀x,IsKey d (Q0 (ek x)))(e:∀x,Qb9 (ek x)=true)(hi:∀x y,Q0 (ek x)=Q0 (ek y)->x=y):JG P kt ek:=by
 refine⟨e,hi,λw g x=>run_checkKey f (a x) g 9999,λw x i h=>?_,λw x=>run_keyThatStays (a x)⟩
 grind[findNow_spec,run_findKey]
theorem JG.int{q:IntKind}(hk:P.underlying kt=some (.int q)):JG P kt (λn=>A.int q n):=
 JG.plain hk (λx=>by rfl) (λ_=>rfl) (λx y h=>by simpa[Q0]using h)
theorem JG.str(hk:P.underlying kt=some .string):JG P kt A.str:=
 JG.plain hk (λx=>by simp[IsKey,Q0]) (λ_=>rfl) (λx y h=>by simpa[Q0]using h)
theorem JG.struct{α:Type}[DecidableEq α]{ek:α->A}{fs:Array Field}(E:P.underlying kt=some (.struct fs))(r:∀x,Qb9 (ek x)=true)(hi:∀x y,Q0 (ek x)=Q0 (ek y)->x=y)
  (B:∀(w:World) em x,(Instr.checkKey em 10000 kt (Q0 (ek x))).run P w=.ok () w)
  (he:∀(w:World) x y,(Op.equal kt (Q0 (ek x)) (Q0 (ek y))).run P w=.ok (decide (x=y)) w)(q:∀x,Instr.sameBits 10000 (Q0 (ek x)) (Q0 (ek x))=true):JG P kt ek:=by
 refine⟨r,hi,B,λw x a n=>?_,λw x=>by simp[Instr.keyThatStays,q x]⟩
 .have g:∀(a:List MapEntry) (i:Nat),(∀e∈a,∃y,e.key=Q0 (ek y))->
    ((Instr.findAsking kt (Q0 (ek x)) a i).run P w=.ok none w/\ ∀e∈a,e.key≠Q0 (ek x))\/
    ∃j e,(Instr.findAsking kt (Q0 (ek x)) a i).run P w=.ok (some (i+j,e.val)) w/\a[j]?=some e/\e.key=Q0 (ek x):=by
   intro a
   induction a with
   |nil=>simp_all[Instr.findAsking]
   |cons e a p=>
    intro i d;obtain⟨y,h⟩:=d e (by simp);have l:=he w x y;by_cases f:x=y
    .subst f;exact .inr ⟨0,e,by simp[Instr.findAsking,h,l],rfl,h⟩
    .rcases p (i+1) (λz m=>d z (by simp[m]))with⟨k,t⟩|⟨j,s,k,t,u⟩
     .refine .inl ⟨by simp[Instr.findAsking,h,l,f,k],λz m=>?_⟩
      grind
     .exact .inr ⟨j+1,s,by simp[Instr.findAsking,h,l,f,k,Nat.add_assoc,Nat.add_comm 1 j],by grind,u⟩
  cases a with
  |nil=>simp_all[Instr.findKey,run_underlying,Instr.findNow]
  |cons e a=>
   have F:Instr.findNow (.struct fs) (Q0 (ek x)) (e::a) 0=none:=by
    rfl
   have G:(Instr.findKey kt (Q0 (ek x)) (e::a)).run P w=(Instr.findAsking kt (Q0 (ek x)) (e::a) 0).run P w:=by
    simp_all[Instr.findKey,run_underlying]
   grind
def YN{α β:Type}[DecidableEq α](l:List (α×β))(k:α):Option β:=(l.find? λp=>decide (p.1=k)).map (·.2)
def Yk{α β:Type}[DecidableEq α](l:List (α×β))(k:α)(v:β):List (α×β):=bif l.any λp=>decide (p.1=k)then l.map λp=>bif decide (p.1=k)then(p.1,v)else p else l++[(k,v)]
def Qy{α β:Type}[DecidableEq α](l:List (α×β))(k:α)(z:β):β:=(YN l k).getD z
def Qbj{α β:Type}[DecidableEq α](l:List (α×β))(k:α):Bool:=l.any λp=>decide (p.1=k)
def mdel{α β:Type}[DecidableEq α](l:List (α×β))(k:α):List (α×β):=l.filter λp=> !decide (p.1=k)
def Qx{α β:Type}(ek:α->A)(ev:β->A)(l:List (α×β)):List (A×A):=l.map λp=>(ek p.1,ev p.2)
section
variable {α β:Type} [DecidableEq α] {ek:α->A} {ev:β->A} {ro:Nat->Prop} {σ:Sig} {w:World} (K:JG P kt ek)
include K
theorem Qi8:∀{l:List (α×β)} {es:List MapEntry},ER ro σ w (Qx ek ev l) es->es.map (·.key)=l.map λp=>Q0 (ek p.1)
 |[],es,h=>by cases(show es=[]from h);rfl
 |p::l,es,h=>by
  obtain⟨e,l',rfl,h1,h2,h3⟩:=h;simp only[Vd];rw[VR.val (K.scl _) h1,Qi8 h3]
theorem QbD{l:List (α×β)}{es:List MapEntry}(h:ER ro σ w (Qx ek ev l) es):∀e∈es,∃y,e.key=Q0 (ek y):=by
 intro e a;have:e.key∈es.map (·.key):=VA a;rw[Qi8 K h]at this
 grind
theorem ER.find:∀{l:List (α×β)} {es:List MapEntry},ER ro σ w (Qx ek ev l) es->∀(x:α),(es.map (·.key)).Nodup->
  ((∀e,e∈es->e.key≠Q0 (ek x))->YN l x=none/\Qbj l x=false)/\
  (∀(j:Nat) (e:MapEntry),es[j]?=some e->e.key=Q0 (ek x)->Qbj l x=true/\ ∃v,YN l x=some v/\VR ro σ w (ev v) e.val)
 |[],es,h,x,_=>by
  cases(show es=[]from h);exact⟨λ_=>⟨rfl,rfl⟩,(by simp)⟩
 |p::l,es,h,x,hn=>by
  obtain⟨e0,l',rfl,h1,h2,h3⟩:=h;have hk:=VR.val (K.scl _) h1;simp[Vd,List.nodup_cons]at hn;obtain⟨a1,a2⟩:=ER.find h3 x hn.2;by_cases hp:p.1=x
  .grind[Qbj,YN]
  .have e1:YN (p::l) x=YN l x:=by simp[YN,hp]
   have f:Qbj (p::l) x=Qbj l x:=by simp[Qbj,hp]
   constructor
   .grind
   .intro j e a d;cases j with
    |zero=>
     simp[XC,Option.some.injEq]at a;subst a;exact absurd (K.inj _ _ (hk.symm.trans d)) hp
    |succ j=>grind
end
end
end Go.Sw
namespace Go.Sw
open Go.MapKept
section
variable {P:Program} {o:Oper} {env:Env} {H:Qb}
theorem Yt{T:Nat}(e:o.op=.makeMap T none:=by exact rfl):OpH P o env H (.map H.length) (H++[.map []]):=by
 intro f d σ N a w r;refine⟨.map (some w.heap.size),w.alloc (.map #[] 0),d,[some w.heap.size],?_,⟨w.heap.size,?_,rfl⟩,r.sim.alloc ⟨#[],0,Yn _ _,rfl,by simp,by simp,by simp⟩,Qk.alloc _ r.sim.roLt r.sim.frLt⟩
 .simp_all[execOp,Instr.makeMap]
 .rw[<- r.sim.len];simp
section
variable {T kt et:Nat} {α β:Type} [DecidableEq α] {ek:α->A} {ev:β->A} {x y:Operand} {i:Nat} {l:List (α×β)} {k:α} {z0:β} {z:Value}
theorem Qc5(K:JG P kt ek){ro:Nat->Prop}{w:World}(m:P.underlying T=some (.map kt et))(s:∀w,(zeroValue et).run P w=.ok z w)(i:ZR (ev z0) z){b a:Nat}{es:Array MapEntry}
  (n:w.heap[b]?=some (.map es a))(he:ER ro [] w (Qx ek ev l) es.toList)(r:(es.toList.map (·.key)).Nodup):
  ∃v,(∀ck,(Instr.lookup T (.map (some b)) (Q0 (ek k)) ck).run P w=.ok (if ck then .tuple #[v,.bool (Qbj l k)]else v) w)/\VR ro [] w (ev (Qy l k z0)) v:=by
 obtain⟨q,p⟩:=ER.find K he k r;rcases K.find w k es.toList (QbD K he)with⟨d,h⟩|⟨j,e,d,h,t⟩
 .obtain⟨g,f⟩:=q h;refine⟨z,λck=>?_,?_⟩
  .simp[Instr.lookup,Vg,run_underlying m,Result.andThen,MapKept.run_getObj_map n,Vh,K.check,d,s,f]
  .rw[Qy,g];exact i _ _ _
 .obtain⟨g,v,f,u⟩:=p j e h t;refine⟨e.val,λck=>?_,?_⟩
  .simp[Instr.lookup,Vg,run_underlying m,Result.andThen,MapKept.run_getObj_map n,Vh,K.check,d,g]
  .rw[Qy,f];exact u
theorem YM{h:β}(K:JG P kt ek)(B:some (Qy l k z0)=some h)(n:P.underlying T=some (.map kt et))(p:∀w,(zeroValue et).run P w=.ok z w)(d:ZR (ev z0) z)
  (E:o.op=.lookup T x y false:=by exact rfl)(hx:opA env x=.map i:=by exact rfl)(hH:H[i]?=some (.map (Qx ek ev l)):=by exact rfl)(hy:opA env y=ek k:=by exact rfl):OpV P o env H (ev h):=by
 obtain rfl:=XV B;intro F Q σ N a w r;have f:=Qi r x;rw[hx]at f;obtain⟨b,u,M⟩:=f;have g:=Qi r y;rw[hy]at g;have L:=VR.val (K.scl _) g;obtain⟨R,e,j,m,J,G,t⟩:=r.sim.blk i _ _ u hH;obtain⟨v,O,s⟩:=Qc5 K n p d j m t;refine⟨v,?_,s.mono ⟨λ_ q=>q,λ_ _=>rfl,λ_ _ q=>q,(by simp)⟩⟩
 simp_all[execOp]
theorem QlY{h:β}(K:JG P kt ek)(B:some (Qy l k z0)=some h)(n:P.underlying T=some (.map kt et))(p:∀w,(zeroValue et).run P w=.ok z w)(d:ZR (ev z0) z)
  (E:o.op=.lookup T x y true:=by exact rfl)(hx:opA env x=.map i:=by exact rfl)(hH:H[i]?=some (.map (Qx ek ev l)):=by exact rfl)(hy:opA env y=ek k:=by exact rfl):OpV P o env H (.tup [ev h,.bool (Qbj l k)]):=by
 obtain rfl:=XV B;intro F Q σ N a w r;have f:=Qi r x;rw[hx]at f;obtain⟨b,u,M⟩:=f;have g:=Qi r y;rw[hy]at g;have L:=VR.val (K.scl _) g;obtain⟨R,e,j,m,J,G,t⟩:=r.sim.blk i _ _ u hH;obtain⟨v,O,s⟩:=Qc5 K n p d j m t;refine⟨.tuple #[v,.bool (Qbj l k)],?_,[v,.bool (Qbj l k)],rfl,v,_,rfl,s.mono ⟨λ_ q=>q,λ_ _=>rfl,λ_ _ q=>q,(by simp)⟩,_,_,rfl,rfl,rfl⟩
 simp_all[execOp]
theorem QnT{h:β}(K:JG P kt ek)(B:some (Qy l k z0)=some h)(n:P.underlying T=some (.map kt et))(p:∀w,(zeroValue et).run P w=.ok z w)(d:ZR (ev z0) z)
  (E:o.op=.lookup T x y false:=by exact rfl)(hx:opA env x=.map i:=by exact rfl)(hH:H[i]?=some (.fmap (Qx ek ev l)):=by exact rfl)(hy:opA env y=ek k:=by exact rfl):OpV P o env H (ev h):=by
 obtain rfl:=XV B;intro F Q σ N a w r;have f:=Qi r x;rw[hx]at f;obtain⟨b,u,M⟩:=f;have g:=Qi r y;rw[hy]at g;have L:=VR.val (K.scl _) g;obtain⟨_,R,e,j,m,J,G,t⟩:=r.sim.blk i _ _ u hH;obtain⟨v,O,s⟩:=Qc5 K n p d j m t;refine⟨v,?_,s.mono ⟨λ_ q=>q,λ_ _=>rfl,λ_ _ q=>q,(by simp)⟩⟩
 simp_all[execOp]
theorem ER.append{ro:Nat->Prop}{σ:Sig}{w:World}:∀{l m:List (A×A)} {es fs:List MapEntry},ER ro σ w l es->ER ro σ w m fs->ER ro σ w (l++m) (es++fs)
 |[],m,es,fs,h,k=>by cases(show es=[]from h);exact k
 |p::l,m,es,fs,h,k=>by
  obtain⟨e,l',rfl,h1,h2,h3⟩:=h;exact⟨e,l'++fs,rfl,h1,h2,ER.append h3 k⟩
theorem ER.put(K:JG P kt ek){ro:Nat->Prop}{w w':World}{v:β}{val:Value}(a:Ext ro [] w ro [] w')(d:VR ro [] w (ev v) val):∀{l:List (α×β)} {es:List MapEntry} {j:Nat} {e:MapEntry},ER ro [] w (Qx ek ev l) es->
  (es.map (·.key)).Nodup->es[j]?=some e->e.key=Q0 (ek k)->
  ER ro [] w' (Qx ek ev (l.map λp=>bif decide (p.1=k)then(p.1,v)else p)) (es.modify j λe=>{e with key:=Q0 (ek k),val:=val})
 |[],es,j,e,h,hn,he,hk=>by cases(show es=[]from h);simp at he
 |p::l,es,j,e,h,hn,he,hk=>by
  obtain⟨e0,l',rfl,h1,h2,h3⟩:=h;have hk0:=VR.val (K.scl _) h1;simp only[Vd,List.nodup_cons]at hn;cases j with
  |zero=>
   simp[XC,Option.some.injEq]at he;subst he;have hp:=K.inj _ _ (hk0.symm.trans hk);have e1:Qx ek ev ((p::l).map λp=>bif decide (p.1=k)then(p.1,v)else p)=(ek p.1,ev v)::Qx ek ev l:=by
    simp only[Qx,Vd,hp,decide_true,Vi,List.map_map,List.cons.injEq,true_and];apply List.map_congr_left;intro q f;have:q.1≠k:=by
     intro e;refine hn.1 ?_;rw[Qi8 K h3];exact Xf.2 ⟨q,f,by rw[e, <- hp,hk0]⟩
    simp[this]
   rw[e1];refine⟨_,l',rfl,?_,d.mono a,h3.mono a⟩;rw[<- hp];exact Qcp (K.scl _)
  |succ j=>
   have hp:p.1≠k:=by
    intro q;refine hn.1 (Xf.2 ⟨e,VB he,?_⟩);rw[hk,hk0,q]
   have e1:Qx ek ev ((p::l).map λp=>bif decide (p.1=k)then(p.1,v)else p)=(ek p.1,ev p.2)::Qx ek ev (l.map λp=>bif decide (p.1=k)then(p.1,v)else p):=by
    simp[Qx,hp]
   rw[e1];exact⟨_,_,rfl,h1.mono a,h2.mono a,ER.put K a d h3 hn.2 he hk⟩
theorem YW{m:List (α×β)}(K:JG P kt ek){v:β}{zz:Operand}(hm:some (Yk l k v)=some m)(hd:YL (ev v)=true)(hT:P.underlying T=some (.map kt et))
  (ho:o.op=.mapUpdate T x y zz:=by exact rfl)(hx:opA env x=.map i:=by exact rfl)(hH:H[i]?=some (.map (Qx ek ev l)):=by exact rfl)(hy:opA env y=ek k:=by exact rfl)(hv:opA env zz=ev v:=by exact rfl):
  OpU P o env H (H.set i (.map (Qx ek ev m))):=by
 obtain rfl:=XV hm;intro fr Y σ N a w r;have h1:=Qi r x;rw[hx]at h1;obtain⟨b,V,q2⟩:=h1;have h2:=Qi r y;rw[hy]at h2;have h3:=VR.val (K.scl _) h2;have h4:=Qi r zz;rw[hv]at h4;have E:VR Y [] w (ev v) (a.eval zz):=VR.data hd h4;obtain⟨t,d,J,L,p3,p4,Q⟩:=r.sim.blk i _ _ V hH;obtain⟨f1,f2⟩:=ER.find K L k Q;have F:∀(obj:Obj) y,w.shape? b=some y->({w with heap:=w.heap.setIfInBounds b obj}:World).shape? b=some y:=by
  grind[World.shape?]
 rcases K.find w k t.toList (QbD K L)with⟨X,G⟩|⟨j,e,X,G,M⟩
 .obtain⟨u1,u2⟩:=f1 G;have R:Yk l k v=l++[(k,v)]:=by
   unfold Yk;rw[show(l.any λp=>decide (p.1=k))=false from u2];rfl
  have n:=r.sim.set (x':=.map (Qx ek ev (Yk l k v))) (obj:=.map (t.push {key:=Q0 (ek k),val:=a.eval zz,born:=d}) (d+1)) V hH rfl (F _)
   (λe O=>⟨_,_,O,by
    rw[R,Qx,Xg,Array.toList_push];exact(L.mono ⟨e.sub,e.keep,e.shape,λ_ _ q=>q⟩).append ⟨_,_,rfl,Qcp (K.scl _),E.mono ⟨e.sub,e.keep,e.shape,λ_ _ q=>q⟩,rfl⟩,by
    grind,by
    grind,by
    grind⟩)
  refine⟨_,Y,[],?_,by grind,n.2⟩;simp only[execOp,ho,q2,h3,Vg,Instr.mapUpdate,run_underlying hT,Result.andThen,MapKept.run_getObj_map J,K.check,X,MapKept.run_setObj_map _ J];rfl
 .obtain⟨u1,u2⟩:=f2 j e G M;have R:Yk l k v=l.map λp=>bif decide (p.1=k)then(p.1,v)else p:=by
   unfold Yk;rw[show(l.any λp=>decide (p.1=k))=true from u1];rfl
  have hj:t[j]?=some e:=by grind
  have g:(t.modify j λe=>{e with key:=Q0 (ek k),val:=a.eval zz}).toList=t.toList.modify j λe=>{e with key:=Q0 (ek k),val:=a.eval zz}:=by simp
  have s:∀{γ:Type} (f:MapEntry->γ),(∀B,t.toList[j]?=some B->f {B with key:=Q0 (ek k),val:=a.eval zz}=f B)->(t.toList.modify j λe=>{e with key:=Q0 (ek k),val:=a.eval zz}).map f=t.toList.map f:=by
   intro γ f hf;apply List.ext_getElem?
   grind
  have n:=r.sim.set (x':=.map (Qx ek ev (Yk l k v))) (obj:=.map (t.modify j λe=>{e with key:=Q0 (ek k),val:=a.eval zz}) d) V hH rfl (F _)
   (λW O=>⟨_,_,O,by
    rw[R,g];exact ER.put K ⟨W.sub,W.keep,W.shape,λ_ _ q=>q⟩ E L Q G M,by
    rw[g];intro B u;have:B.born∈(t.toList.modify j λe=>{e with key:=Q0 (ek k),val:=a.eval zz}).map (·.born):=VA u;rw[s (·.born) (λ_ _=>rfl)]at this;obtain⟨e2,h,h'⟩:=Xf.1 this;rw[<- h'];exact p3 e2 h,by
    rw[g,s (·.born) (λ_ _=>rfl)];exact p4,by
    rw[g,s (·.key) (λB u=>by rw[G]at u;cases u;exact M.symm)];exact Q⟩)
  refine⟨_,Y,[],?_,by simpa using n.1,n.2⟩;have z:=K.stays w k;simp only[execOp,ho,q2,h3,Vg,Instr.mapUpdate,run_underlying hT,Result.andThen,MapKept.run_getObj_map J,K.check,X,hj,Xk,Option.getD_some,M,z,MapKept.run_setObj_map _ J];rfl
theorem ER.length{ro:Nat->Prop}{σ:Sig}{w:World}:∀{l:List (A×A)} {es:List MapEntry},ER ro σ w l es->es.length=l.length
 |[],es,h=>by cases(show es=[]from h);rfl
 |p::l,es,h=>by
  obtain⟨e,l',rfl,_,_,h3⟩:=h;simp[ER.length h3]
theorem Qdm{c:Call}{n:Int}(t:P.underlying T=some (.map kt et))(s:(l.length:Int)=n)(m:o.op=.call c:=by exact rfl)(hc:c={callee:=.builtin .len,args:= #[x],argTypes:= #[T]}:=by exact rfl)
  (hx:opA env x=.map i:=by exact rfl)(hH:H[i]?=some (.map (Qx ek ev l)):=by exact rfl):OpV P o env H (.int .i64 n):=by
 intro y F σ N a w r;have f:=Qi r x;rw[hx]at f;obtain⟨b,q,h⟩:=f;obtain⟨g,e,j,p,B,z,E⟩:=r.sim.blk i _ _ q hH;have k:=p.length;refine⟨.int .i64 n,?_,rfl⟩;have d:goInt g.size=.int .i64 n:=by
  have:g.size=l.length:=by rw[<- Array.length_toList,k];simp[Qx]
  rw[this, <- s];rfl
 subst hc;have u:=h;generalize a.eval=ρ at*;rw[<- d];simp[execOp,m,h,resolve,invoke,Go.builtin,Builtin.len_,run_underlying t,MapKept.run_getObj_map j,go_sem]
end
end
end Go.Sw
namespace Go.Sw
open Go.ChangeMaps (setBlock)
section
variable {P:Program} {o:Oper} {env:Env} {H:Qb} {h0 N:Nat} {Q:QV}
def OpE(P:Program)(o:Oper)(env:Env)(H:Qb)(K:A->Qb->Prop):Prop:=
 ∀fr ro σ N a w,Rel fr ro σ H env N a w->∃x H' v w' ro' τ,K x H'/\(execOp a.eval o).run P w=.ok (.value v) w'/\VR ro' (σ++τ) w' x v/\
  Sim fr ro' (σ++τ) H' w'/\Qk fr ro w ro' w'
theorem QlP{all:Array Oper}{l:List Oper}{d:Nat}{K:A->Qb->Prop}(n:h0<=H.length)(hg:QA all o env true)(z:o.dst=some d)(F:Nat.blt d N=true)
  (i:OpE P o env H K)(k:∀x H',K x H'->WO P h0 N all l (up env d x) H' Q):WO P h0 N all (o::l) env H Q:=by
 intro B fr y σ a w r hrd;obtain⟨x,H',v,j,f,τ,p,m,t,u,g⟩:=i fr y σ N a w r;refine JS (Y0 hg r) m ?_;simp[z];have h:d<N:=by simp_all
 have E:Rel fr f (σ++τ) H' (up env d x) N {a with tmps:=a.tmps.setIfInBounds d v} j:=
  ⟨u,VR.up (fr:=fr) (λs=>(r.env s).mono (g.ext σ τ)) (by rw[r.size];exact h) t,by simpa using r.size,r.defers.keep g⟩
 refine Yw (λe a w q=>q.step g (QK ?_)) _ _ _ (k x H' p B fr f (σ++τ) _ j E (hrd.to g λ_ q=>q));rw[r.sim.len];exact n
theorem Sim.shutMap{fr ro:Nat->Prop}{σ:Sig}{w:World}(s:Sim fr ro σ H w){i b:Nat}{es:List (A×A)}(hσ:σ[i]?=some (some b))(hH:H[i]?=some (.map es)):
  Sim fr (λc=>ro c\/c=b) σ (H.set i (.fmap es)) w:=by
 have hown:=s.own i b _ hσ hH rfl;have ext:Ext ro σ w (λc=>ro c\/c=b) σ w:=⟨λ_ q=>.inl q,λ_ _=>rfl,λ_ _ q=>q,λ_ _ q=>q⟩;have a:∀(j:Nat) (v:Blk),(H.set i (.fmap es))[j]?=some v->v.live=true->j≠i/\H[j]?=some v:=by
  intro j v h z;by_cases e:j=i
  .subst e;rw[Xb]at h
   grind[Blk.live]
  grind
 have n:∀(j:Nat) (v:Blk),(H.set i (.fmap es))[j]?=some v->v.holds=true->H[j]?=some v:=by
  intro j v h z;by_cases e:j=i
  .subst e;rw[Xb]at h;simp only[if_true]at h;split at h
   .cases h;cases z
   .simp at h
  grind
 refine⟨by rw[XZ];exact s.len,s.roOk.to (λ_ q=>.inl q) (λ_ _=>rfl) ?_,s.frLt,?_,?_,?_,?_,s.hidTo (· = ·) Q9 (XQ _) (λj d x c J N L M=>M.elim id λq=>((s.hid j d x c J N L).ne i b _ hσ hH rfl q).elim) (by simp) (by grind)⟩
 .rintro c (q|rfl)
  .exact s.roLt c q
  omega
 .rintro c (q|rfl)
  .exact s.roFr c q
  grind
 .intro j c v g f m;obtain⟨e,f⟩:=a j v f m;obtain⟨p,r,t⟩:=s.own j c v g f m;refine⟨p,?_,t⟩;rintro(q|rfl)
  .exact r q
  .exact e (s.inj j i c v _ g hσ f hH m rfl)
 .intro j E c v F g f m G B u;exact s.inj j E c v F g f (a j v m B).2 (a E F G u).2 B u
 .intro j y v g f;by_cases e:j=i
  .subst e;rw[hσ]at g;cases g;rw[Xb]at f;simp only[if_true]at f;split at f
   .cases f;obtain⟨l,k,p,r,t⟩:=s.blk j _ _ hσ hH;exact⟨.inr rfl,l,k,p,r.mono ext.nil,t⟩
   .simp at f
  .rw[XM (λq=>e q.symm)]at f;exact(s.blk j y v g f).keep ext (λ_ _ _=>rfl) (λ_ _ _ _=>rfl)
section
variable {T kt et i:Nat} {x:Operand} {es:List (A×A)}
theorem OpH.range(z:P.underlying T=some (.map kt et))(t:o.op=.range T x:=by exact rfl)(hx:opA env x=.map i:=by exact rfl)(hH:H[i]?=some (.map es):=by exact rfl):
  OpH P o env H (.ptr H.length 0) (H.set i (.fmap es)++[.iter none es]):=by
 intro s j σ N a w r;have p:=Qi r x;rw[hx]at p;obtain⟨b,k,F⟩:=p;obtain⟨l,d,n,u,E,y,G⟩:=r.sim.blk i _ _ k hH;have B:=(r.sim.own i b _ k hH rfl).1;have m:=r.sim.shutMap k hH;have f:Qk s j w (λc=>j c\/c=b) w:=YQ (λ_ q=>.inl q);have g:Qk s (λc=>j c\/c=b) w (λc=>j c\/c=b) (w.alloc (.mapIter (some b) d #[] d)):=Qk.alloc _ m.roLt m.frLt;have ext0:=(f.trans g).ext0 [];refine⟨.pointer (some ⟨w.heap.size,0,none⟩),w.alloc (.mapIter (some b) d #[] d),_,[some w.heap.size],?_,⟨w.heap.size,?_,rfl⟩,
  m.alloc (.inr ⟨b,l,d, #[],l.toList,Yn _ _,.inr rfl,by rw[Yl _ _ _ B];exact n,E,y,?_,u.mono ext0,λ_ h=>by cases h⟩),f.trans g⟩
 .simp only[execOp,t,F,Instr.range,Vg,run_underlying z,Result.andThen,MapKept.run_getObj_map n];rfl
 .rw[<- r.sim.len];simp
 .have:l.toList.filter (λe=> !#[].contains e.born)=l.toList:=by simp
  rw[this]
theorem Qg1(u:P.underlying T=some (.map kt et))(n:o.op=.range T x:=by exact rfl)(hx:opA env x=.map i:=by exact rfl)(hH:H[i]?=some (.fmap es):=by exact rfl):
  OpH P o env H (.ptr H.length 0) (H++[.iter none es]):=by
 intro q m σ N a w r;have k:=Qi r x;rw[hx]at k;obtain⟨b,s,B⟩:=k;obtain⟨f,l,d,j,p,z,t,E⟩:=r.sim.blk i _ _ s hH;have y:=r.sim.roLt b f;have g:Qk q m w m (w.alloc (.mapIter (some b) d #[] d)):=Qk.alloc _ r.sim.roLt r.sim.frLt;have ext0:=g.ext0 [];refine⟨.pointer (some ⟨w.heap.size,0,none⟩),w.alloc (.mapIter (some b) d #[] d),_,[some w.heap.size],?_,⟨w.heap.size,?_,rfl⟩,
  r.sim.alloc (.inr ⟨b,l,d, #[],l.toList,Yn _ _,f,by rw[Yl _ _ _ y];exact j,z,t,?_,p.mono ext0,λ_ h=>by cases h⟩),g⟩
 .simp only[execOp,n,B,Instr.range,Vg,run_underlying u,Result.andThen,MapKept.run_getObj_map j];rfl
 .rw[<- r.sim.len];simp
 .have:l.toList.filter (λe=> !#[].contains e.born)=l.toList:=by simp
  rw[this]
theorem ER.mem{ro:Nat->Prop}{σ:Sig}{w:World}:∀{es:List (A×A)} {l:List MapEntry},ER ro σ w es l->∀e∈l,∃x es' l',(x::es').Perm es/\(e::l').Perm l/\VR ro σ w x.1 e.key/\VR ro σ w x.2 e.val/\ER ro σ w es' l'
 |[],l,h,e,he=>by cases(show l=[]from h);cases he
 |y::es,l,h,e,he=>by
  obtain⟨e0,l',rfl,h1,h2,h3⟩:=h;rcases X0.1 he with rfl|he
  .exact⟨y,es,l',.refl _,.refl _,h1,h2,h3⟩
  .obtain⟨x,es',l'',p1,p2,v1,v2,h4⟩:=ER.mem h3 e he;exact⟨x,y::es',e0::l'',(List.Perm.swap _ _ _).trans (p1.cons _),(List.Perm.swap _ _ _).trans (p2.cons _),v1,v2,⟨e0,l'',rfl,h1,h2,h4⟩⟩
theorem Qkx:∀{l:List MapEntry},(l.map (·.born)).Nodup->∀a∈l,∀b∈l,a.born=b.born->a=b
 |[],_,a,ha,_,_,_=>by cases ha
 |c::l,hn,a,ha,b,hb,hab=>by
  simp[Vd,List.nodup_cons]at hn;rcases X0.1 ha with ea|ha'<;>rcases X0.1 hb with eb|hb'
  .rw[ea,eb]
  .grind
  .grind
  .exact Qkx hn.2 a ha' b hb' hab
def NextK(H:Qb)(i:Nat)(cur:Option (A×A))(es:List (A×A))(v:A)(H':Qb):Prop:=
 (es=[]/\v=.tup [.bool false]/\H'=H)\/ ∃e es',(e::es').Perm es/\v=.tup [.bool true,e.1,e.2]/\H'=H.set i (.iter (some e) es')
theorem OpE.next{M:Option (A×A)}(ho:o.op=.next x false:=by exact rfl)(hx:opA env x=.ptr i 0:=by exact rfl)(hH:H[i]?=some (.iter M es):=by exact rfl):
  OpE P o env H (NextK H i M es):=by
 intro fr t σ N a w r;have h1:=Qi r x;rw[hx]at h1;obtain⟨b,q1,q2⟩:=h1;have k:∀(v:Value) (g:World),g.heap=w.heap->g.os=w.os->g.tape=w.tape->g.output=w.output->w.drawn<=g.drawn->Sim fr t (σ++[]) H g/\Qk fr t w t g:=by
  intro v g V X e3 e4 e5;exact⟨by simpa using r.sim.heap V,Qk.heap V X e3 e4 e5⟩
 rcases r.sim.blk i _ _ q1 hH with⟨rfl,rfl,p⟩|⟨m,l,f,d,left,p1,p2,p3,p4,Y,p6,p7,p8⟩
 .refine⟨_,_,.tuple #[.bool false],w,t,[],.inl ⟨rfl,rfl,rfl⟩,?_,⟨_,rfl,_,_,rfl,rfl,rfl⟩,k (.bool false) w rfl rfl rfl rfl (XQ _)⟩;generalize a.eval=ρ at*;simp only[execOp,ho,q2,Instr.next,Vg,getObj,Sem.run,p,Result.andThen];rfl
 .have aa:(leftOf l d).toList=l.toList.filter λe=> !d.contains e.born:=by simp[leftOf]
  have n:left.Perm (leftOf l d).toList:=by grind
  rcases run_next_at (P:=P) w o.type b m f f d l f p1 p3 p4 (XQ _)with⟨g1,g2⟩|⟨e,g1,g,g2,g3⟩
  .have af:left=[]:=by
    have:left.length=0:=by rw[n.length_eq];omega
    grind
   subst af;have W:es=[]:=by
    have:=p7.length
    grind
   refine⟨_,_,.tuple #[.bool false],w,t,[],.inl ⟨W,rfl,rfl⟩,?_,⟨_,rfl,_,_,rfl,rfl,rfl⟩,k (.bool false) w rfl rfl rfl rfl (XQ _)⟩
   simp_all[execOp]
  .have he:e∈left:=n.mem_iff.2 g1;have O:e∈l.toList:=by grind
   obtain⟨y,Q,J,k1,k2,v1,v2,k3⟩:=p7.mem e he;have s:g.heap=w.heap/\g.os=w.os/\g.tape=w.tape/\g.output=w.output/\w.drawn<=g.drawn:=by
    rcases g2 with rfl|rfl
    .simp
    .exact⟨rfl,rfl,rfl,rfl,Nat.le_succ _⟩
   obtain⟨s1,E⟩:=k (.bool false) g s.1 s.2.1 s.2.2.1 s.2.2.2.1 s.2.2.2.2;rw[Va]at s1;have ag:b≠m:=by
    grind
   have B:=s1.set (x':=.iter (some y) Q) (obj:=.mapIter (some m) f (d.push e.born) f) q1 hH rfl
    (λz G=>by
     grind[World.shape?])
    (λu ab=>.inr ⟨m,l,f,d.push e.born,J,ab,u.sub _ p2,by
      grind,p4,Y,by
      have ae:(l.toList.filter λe=> !d.contains e.born).Nodup:=by
       have:l.toList.Nodup:=List.Pairwise.of_map _ (λa b h q=>h (congrArg _ q)) Y;exact this.filter _
      have hp:(e::J).Perm (l.toList.filter λe=> !d.contains e.born):=k2.trans p6;have L:(e::J).Nodup:=hp.nodup_iff.2 ae;have V:(l.toList.filter λF=> !(d.push e.born).contains F.born)=(l.toList.filter λe=> !d.contains e.born).filter λF=> !decide (F.born=e.born):=by
       rw[List.filter_filter];apply List.filter_congr;intro z _;simp[Array.contains_push,Bool.and_comm]
      rw[V];have h2:=hp.filter (λF=> !decide (F.born=e.born));have X:(e::J).filter (λF=> !decide (F.born=e.born))=J:=by
       rw[List.filter_cons_of_neg (by simp),List.filter_eq_self];intro z G;have ac:z∈l.toList:=(Xe.1 (hp.mem_iff.1 (List.mem_cons_of_mem _ G))).1;simp only[Bool.not_eq_true',decide_eq_false_iff_not];intro hb;have:z=e:=by
        exact Qkx Y z ac e O hb
       subst this;exact(List.nodup_cons.1 L).1 G
      rw[X]at h2;exact h2,by
      have T:Ext t [] w t [] g:=E.ext0 [];exact(k3.mono T).mono ⟨u.sub,u.keep,u.shape,λ_ _ q=>q⟩,by
      intro z G;cases G;have T:Ext t [] w t [] g:=E.ext0 [];exact⟨e,O,by simp,(v1.mono T).mono ⟨u.sub,u.keep,u.shape,λ_ _ q=>q⟩,(v2.mono T).mono ⟨u.sub,u.keep,u.shape,λ_ _ q=>q⟩⟩⟩)
   have R:=E.trans B.2;have xt:=R.ext0 [];refine⟨_,_,.tuple #[.bool true,e.key,e.val],_,t,[],.inr ⟨y,Q,k1,rfl,rfl⟩,?_,
    ⟨[.bool true,e.key,e.val],rfl,_,_,rfl,rfl,_,_,rfl,(v1.mono xt).mono ⟨λ_ q=>q,λ_ _=>rfl,λ_ _ q=>q,λj c q=>by simp at q⟩,_,_,rfl,(v2.mono xt).mono ⟨λ_ q=>q,λ_ _=>rfl,λ_ _ q=>q,λj c q=>by simp at q⟩,rfl⟩,by simpa using B.1,R⟩
   generalize a.eval=ρ at*;simp only[execOp,ho,q2,Vg,g3,Result.andThen,setBlock];rfl
theorem OpV.entry{e:A×A}(L:o.op=.entry x:=by exact rfl)(hx:opA env x=.ptr i 0:=by exact rfl)(hH:H[i]?=some (.iter (some e) es):=by exact rfl):OpV P o env H (.tup [e.1,e.2]):=by
 intro E J σ N a w r;have g:=Qi r x;rw[hx]at g;obtain⟨b,s,Q⟩:=g;rcases r.sim.blk i _ _ s hH with⟨_,h,_⟩|⟨m,l,d,j,left,z,B,M,F,n,R,O,p⟩
 .cases h
 .obtain⟨f,y,G,k,u⟩:=p e rfl;refine⟨.tuple #[f.key,f.val],?_,[f.key,f.val],rfl,_,_,rfl,k.mono ⟨λ_ q=>q,λ_ _=>rfl,λ_ _ q=>q,(by simp)⟩,_,_,rfl,u.mono ⟨λ_ q=>q,λ_ _=>rfl,λ_ _ q=>q,(by simp)⟩,rfl⟩;have t:l.find? (·.born==f.born)=some f:=by rw[<- Array.find?_toList];exact find_born f l.toList n y
  simp_all[execOp,Instr.entry,getObj,Sem.run]
end
end
end Go.Sw
namespace Go.Sw
def QfP{S E B:Type}(stepE:S->E->Option (Ctl S B))(stepN:S->Option B):S->List E->Option B
 |s,[]=>stepN s
 |s,e::p=>match stepE s e with
  |some (.cont s')=>QfP stepE stepN s' p
  |some (.done b)=>some b
  |none=>none
def QbJ{E:Type}(x:E):List E->List (List E)
 |[]=>[[x]]
 |y::l=>(x::y::l)::(QbJ x l).map (y:: ·)
def Qcd{E:Type}:List E->List (List E)
 |[]=>[[]]
 |x::l=>(Qcd l).flatMap (QbJ x)
theorem Qgc{E:Type}(x:E):∀(a b:List E),a++x::b∈QbJ x (a++b)
 |[],[]=>by simp[QbJ]
 |[],y::b=>by simp[QbJ]
 |y::a,b=>by
  simp only[VE,QbJ,X0,Xf];exact .inr ⟨a++x::b,Qgc x a b,rfl⟩
theorem Qel{E:Type}:∀(l p:List E),p.Perm l->p∈Qcd l
 |[],p,h=>by rw[List.perm_nil.1 h];simp[Qcd]
 |x::l,p,h=>by
  have hx:x∈p:=h.mem_iff.2 (by simp);obtain⟨a,b,rfl⟩:=List.append_of_mem hx;have h2:=(List.perm_cons x).1 ((List.perm_middle.symm).trans h);simp[Qcd,List.mem_flatMap];exact⟨a++b,Qel l _ h2,Qgc x a b⟩
def anyP{E R:Type}[DecidableEq R](k:List E->Option R)(l:List E):Option R:=bif (Qcd l).all (λp=>decide (k p=k l))then k l else none
theorem QmL{E R:Type}[DecidableEq R]{k:List E->Option R}{l:List E}{r:R}(h:anyP k l=some r)(p:List E)(a:p.Perm l):k p=some r:=by
 unfold anyP at h;cases q:(Qcd l).all (λp=>decide (k p=k l))with
 |true=>
  simp_all[Qel]
 |false=>grind
theorem Qc6{E:Type}:∀(l p:List E),p∈Qcd l->p.Perm l
 |[],p,h=>by simp[Qcd]at h;rw[h]
 |x::l,p,h=>by
  simp[Qcd,List.mem_flatMap]at h;obtain⟨q,hq,hp⟩:=h;have ins:∀(q p:List E),p∈QbJ x q->p.Perm (x::q):=by
   intro q
   induction q with
   |nil=>intro p hp;simp[QbJ]at hp;rw[hp]
   |cons y q d=>
    intro p hp;simp[QbJ,X0,Xf]at hp;rcases hp with rfl|⟨z,a,rfl⟩
    .exact .refl _
    .exact((d z a).cons y).trans (List.Perm.swap _ _ _)
  exact(ins q p hp).trans ((Qc6 l q hq).cons x)
theorem QiZ{E R:Type}[DecidableEq R]{k:List E->Option R}{l:List E}{r:R}(h:∀p,p.Perm l->k p=some r):anyP k l=some r:=by
 unfold anyP;have:(Qcd l).all (λp=>decide (k p=k l))=true:=Xs.2 λp a=>by
  simp_all[Qc6]
 rw[this];simp_all
def QkU{S E B:Type}(stepE:S->E->Option (Ctl S B))(stepN:S->Option B)(G:B->Prop)(s:S)(l:List E):Prop:=∀p,p.Perm l->∃b,QfP stepE stepN s p=some b/\G b
section
variable {P:Program} {o:Oper} {env:Env} {H:Qb} {h0 N:Nat} {Q:QV} {c:Code}
def QcN(I:Env->Qb->Prop)(Q:QV):QV
 |.normal,env,H=>I env H
 |.exit id,env,H=>Q (.exit id) env H
 |.ret,env,H=>Q .ret env H
theorem Qpy{I:Nat->Env->Qb->Prop}(body:∀n env H,I n env H->TC P h0 N c env H (QcN (λenv H=>∃n',n'<n/\I n' env H) Q)){n:Nat}(z:I n env H):TC P h0 N (.loop c) env H Q:=by
 intro J j y σ a w r hrd b k cs hro hb hr;have B:∀m n env H fr1 ro1 σ1 a1 w1,n<m->I n env H->Rel fr1 ro1 σ1 H env N a1 w1->Qk j y w ro1 w1->σ1.take h0=σ.take h0->Grow j w a.defers fr1 a1.defers->
   ∃e h g,QaW h0 j y σ w N a.defers Q e h g/\ArrivesIn (Machine.fenced P (WF J)) P (lone (b.atR a1 (.code c::.inLoop c::k)) cs w1) b k cs e h g:=by
  intro m
  induction m with
  |zero=>omega
  |succ m ih=>
   intro n env H fr1 ro1 σ1 a1 w1 hn z r1 ev1 t1 g1;obtain⟨e,h,g,E,d⟩:=body n env H z J fr1 ro1 σ1 a1 w1 r1 (hrd.to ev1 g1.sub) b (.inLoop c::k) cs hro hb hr;obtain⟨x,f,H',l,σ',t,u,p,L,X,G,R⟩:=E;have s:=ev1.trans (X.frMono g1.sub);have M:=g1.trans ev1.size R;have O:∀x,Q x f H'->ExR e x->QaW h0 j y σ w N a.defers Q e h g:=λx q q'=>⟨x,f,H',l,σ',t,q',q,L,s,G.trans t1,M⟩;cases e with
   |normal=>
    obtain rfl:x=.normal:=u;obtain⟨n',W,p⟩:=p;obtain⟨T,V,Y,F,i⟩:=ih n' f H' t l σ' h g (by omega) p L s (G.trans t1) M;exact⟨T,V,Y,F,.of_steps (StepsIn.trans d (.one (fenced_calm hb hr rfl) stepR_inLoop)) i⟩
   |exit id=>
    obtain rfl:x=.exit id:=u;exact⟨_,h,g,O _ p rfl,.pass rfl (by simp) d⟩
   |ret=>
    obtain rfl:x=.ret:=u;exact⟨_,h,g,O _ p rfl,.pass rfl (by simp) d⟩
   |_=>exact u.elim
 obtain⟨e,h,g,E,d⟩:=B (n+1) n env H j y σ a w (Xn _) z r (Qk.refl _ _ _) rfl (Grow.refl _ _ _);exact⟨e,h,g,E,.of_steps (.one (fenced_calm hb hr rfl) stepR_loop) d⟩
section
variable {S E B:Type} {stepE:S->E->Option (Ctl S B)} {stepN:S->Option B} {G:B->Prop} (Es:S->Env) (Hp:S->List (A×A)->Qb) {enc:E->A×A}
def AtP(stepE:S->E->Option (Ctl S B))(stepN:S->Option B)(G:B->Prop)(enc:E->A×A)(h0 n:Nat)(env:Env)(H:Qb):Prop:=
 ∃s l,l.length=n/\QkU stepE stepN G s l/\Le h0 env H (Es s) (Hp s (l.map enc))
theorem Qpx{s0:S}{l0:List E}(h:QkU stepE stepN G s0 l0)(hI:Le h0 env H (Es s0) (Hp s0 (l0.map enc)))
  (body:∀s l,QkU stepE stepN G s l->TC P h0 N c (Es s) (Hp s (l.map enc)) (QcN (λenv H=>∃n',n'<l.length/\AtP Es Hp stepE stepN G enc h0 n' env H) Q)):TC P h0 N (.loop c) env H Q:=
 Qpy (I:=AtP Es Hp stepE stepN G enc h0) (λn env H ⟨s,l,hn,ha,hle⟩=>by subst hn;exact Qd hle (body s l ha)) ⟨s0,l0,rfl,h,hI⟩
theorem Qhy{α β:Type}{f:α->β}:∀{m g:List β},m.Perm g->∀{l:List α},g=l.map f->∃l':List α,l'.Perm l/\l'.map f=m:=by
 intro m g h
 induction h with
 |nil=>simp
 |cons x _ ih=>
  intro l d;cases l with
  |nil=>cases d
  |cons a l=>
   simp[Vd,List.cons.injEq]at d;obtain⟨l',e,i⟩:=ih d.2;exact⟨a::l',e.cons _,by grind⟩
 |swap x y m=>
  intro l d
  match l,d with
  |a::b::l,d=>
   exact⟨b::a::l,List.Perm.swap _ _ _,by grind⟩
 |trans _ _ ih1 ih2=>
  intro l d;obtain⟨p,e,i⟩:=ih2 d;obtain⟨k,n,j⟩:=ih1 i.symm;exact⟨k,n.trans e,j⟩
theorem Qpt{all:Array Oper}{L:List Oper}{d i:Nat}{x:Operand}{r:Option (A×A)}{s:S}{l:List E}(hl:QkU stepE stepN G s l)
  (B:∀b,stepN s=some b->G b->WO P h0 N all L (up env d (.tup [.bool false])) H Q)
  (F:∀e l' D,stepE s e=some D->(∀b,D=.done b->G b)->(l'.length<l.length/\ ∀s',D=.cont s'->QkU stepE stepN G s' l')->
   WO P h0 N all L (up env d (.tup [.bool true,(enc e).1,(enc e).2])) (H.set i (.iter (some (enc e)) (l'.map enc))) Q)
  (w:o.op=.next x false:=by exact rfl)(hx:opA env x=.ptr i 0:=by exact rfl)(hH:H[i]?=some (.iter r (l.map enc)):=by exact rfl)
  (hg:QA all o env true:=by exact rfl)(hd:o.dst=some d:=by exact rfl)(hN:Nat.blt d N=true:=by exact rfl)(hh:Nat.ble h0 H.length=true:=by exact rfl):WO P h0 N all (o::L) env H Q:=by
 refine QlP (XO hh) hg hd hN (OpE.next w hx hH) ?_;rintro v H' (⟨m,rfl,rfl⟩|⟨e,z,m,rfl,rfl⟩)
 .have:=List.map_eq_nil_iff.1 m;subst this;obtain⟨b,j,k⟩:=hl [] (.refl _);exact B b j k
 .obtain⟨y,j,k⟩:=Qhy m rfl;cases y with
  |nil=>cases k
  |cons a l'=>
   obtain⟨rfl,rfl⟩:=k;have h:l'.length<l.length:=by rw[<- j.length_eq];simp
   have f:∀p,p.Perm l'->∃b,QfP stepE stepN s (a::p)=some b/\G b:=λp q=>hl _ ((q.cons a).trans j);cases n:stepE s a with
   |none=>
    obtain⟨b,g,_⟩:=f l' (.refl _);simp[QfP,n]at g
   |some D=>
    refine F a l' D n ?_ ⟨h,?_⟩
    .obtain⟨t,g,u⟩:=f l' (.refl _)
     grind[QfP]
    .rintro s' rfl p q;obtain⟨t,g,u⟩:=f p q;simp[QfP,n]at g;exact⟨t,g,u⟩
theorem Qri{s:S}{l l':List E}{D:Ctl S B}(e:some (Ctl.cont s)=some D)(hc:l'.length<l.length/\ ∀s',D=.cont s'->QkU stepE stepN G s' l')(h:Le h0 env H (Es s) (Hp s (l'.map enc))):
  QcN (λenv H=>∃n',n'<l.length/\AtP Es Hp stepE stepN G enc h0 n' env H) Q .normal env H:=
 ⟨_,hc.1,s,l',rfl,(by grind),h⟩
theorem Qrh{I:Env->Qb->Prop}{id:Nat}(h:Q (.exit id) env H):QcN I Q (.exit id) env H:=h
end
def QqX{B:Type}(h0:Nat)(G:B->Prop)(Eb:B->Env)(Hb:B->Qb)(Q:QV):QV
 |.normal,env,H=>∃b,G b/\Le h0 env H (Eb b) (Hb b)
 |.exit id,env,H=>Q (.exit id) env H
 |.ret,env,H=>Q .ret env H
theorem QqE{S E B:Type}{stepE:S->E->Option (Ctl S B)}{stepN:S->Option B}{G:B->Prop}{s0:S}{l0:List E}(hl:QkU stepE stepN G s0 l0)(Eb:B->Env)(Hb:B->Qb)
  (h:TC P h0 N c env H (QqX h0 G Eb Hb Q))(k:∀b env H,G b->Le h0 env H (Eb b) (Hb b)->Q .normal env H):TC P h0 N c env H Q:=
 h.mono λx env' H' q=>by
  cases x with
  |normal=>obtain⟨b,e,q⟩:=q;grind
  |exit id=>exact q
  |ret=>exact q
theorem cutGN{B:Type}{G:B->Prop}{Eb:B->Env}{Hb:B->Qb}{b:B}(hG:G b)(h:Le h0 env H (Eb b) (Hb b)):QqX h0 G Eb Hb Q .normal env H:=⟨b,hG,h⟩
theorem Qh9{i:Nat}{e:Option (A×A)}{es:List (A×A)}{H':Qb}(hH:H[i]?=some (.iter e es))(d:H.set i (.iter none es)=H'):Le h0 env H env H':=by
 subst d;intro u p σ N a w r;refine⟨p,σ,⟨r.sim.weaken hH rfl ?_,r.env,r.size,r.defers⟩,λ_ q=>q,rfl⟩;intro y h;cases y with
 |none=>exact h
 |some b=>
  rcases h with⟨g,n,k⟩|⟨m,l,f,j,left,g,n,k,t,z,x,s,B⟩
  .exact .inl ⟨g,rfl,k⟩
  .exact .inr (by grind)
end
def mk{α:Type}(n:Int)(z:α):Option (List α):=bif decide (0<=n)&&decide (n<=4294967296)then some (List.replicate n.toNat z)else none
section
variable {P:Program} {o:Oper} {env:Env} {H:Qb} {ro:Nat->Prop} {σ:Sig} {w:World}
theorem LR.replicate{az:List A}{l:List Value}(h:LR ro σ w az l):∀n,LR ro σ w (List.replicate n az).flatten (List.replicate n l).flatten
 |0=>rfl
 |n+1=>by
  exact h.append (LR.replicate h n)
end
open Go.Sort Go.Proofs Go.Shelf
section
variable {α:Type}
def ins(lt:α->α->Bool)(x:α):List α->List α
 |[]=>[x]
 |y::l=>bif lt y x then y::ins lt x l else x::y::l
def Jh(lt:α->α->Bool):List α->List α
 |[]=>[]
 |x::l=>ins lt x (Jh lt l)
theorem Qf9(lt:α->α->Bool)(x:α):∀l,(ins lt x l).Perm (x::l)
 |[]=>.refl _
 |y::l=>by
  unfold ins;cases lt y x
  .exact .refl _
  .exact((Qf9 lt x l).cons y).trans (List.Perm.swap _ _ _)
theorem Qu(lt:α->α->Bool):∀l,(Jh lt l).Perm l
 |[]=>.refl _
 |x::l=>(Qf9 lt x _).trans ((Qu lt l).cons x)
structure Qfa (lt:α->α->Bool) (l:List α):Prop where
 irrefl:∀x∈l,lt x x=false
 trans:∀x∈l,∀y∈l,∀z∈l,lt x y=true->lt y z=true->lt x z=true
 ntrans:∀x∈l,∀y∈l,∀z∈l,lt x y=false->lt y z=false->lt x z=false
theorem Qfa.mono{lt:α->α->Bool}{l m:List α}(h:Qfa lt l)(hm:∀x∈m,x∈l):Qfa lt m:=
 ⟨λx hx=>h.irrefl x (hm x hx),λx hx y hy z hz=>h.trans x (hm x hx) y (hm y hy) z (hm z hz),λx hx y hy z hz=>h.ntrans x (hm x hx) y (hm y hy) z (hm z hz)⟩
theorem Qfa.asymm{lt:α->α->Bool}{l:List α}(h:Qfa lt l){x y:α}(d:x∈l)(e:y∈l)(a:lt x y=true):lt y x=false:=by
 cases q:lt y x
 .rfl
 .rw[<- h.irrefl x d,h.trans x d y e x d a q]
theorem Qf8{lt:α->α->Bool}{x:α}:∀{l:List α},Qfa lt (x::l)->l.Pairwise (λa b=>lt b a=false)->(ins lt x l).Pairwise (λa b=>lt b a=false)
 |[],_,_=>by simp[ins]
 |y::l,h,hp=>by
  obtain⟨h1,h2⟩:=Xc.1 hp;unfold ins;cases q:lt y x
  .refine Xc.2 ⟨λz hz=>?_,hp⟩;rcases X0.1 hz with rfl|hz
   .exact q
   .exact h.ntrans z (by simp[hz]) y (by simp) x (by simp) (h1 z hz) q
  .refine Xc.2 ⟨λz hz=>?_,Qf8 (h.mono (by grind)) h2⟩;rcases X0.1 ((Qf9 lt x l).mem_iff.1 hz)with rfl|hz
   .exact h.asymm (by simp) (by simp) q
   grind
theorem Q2{lt:α->α->Bool}:∀{l:List α},Qfa lt l->(Jh lt l).Pairwise (λa b=>lt b a=false)
 |[],_=>by simp[Jh]
 |x::l,h=>Qf8 (h.mono (by
   intro z hz;rcases X0.1 hz with rfl|hz
   .simp
   grind[Qu])) (Q2 (h.mono (by grind)))
theorem JO{lt:α->α->Bool}:∀{l m:List α},l.Perm m->(∀x∈l,∀y∈l,lt x y=false->lt y x=false->x=y)->l.Pairwise (λa b=>lt b a=false)->m.Pairwise (λa b=>lt b a=false)->l=m
 |[],m,h,_,_,_=>by simp_all
 |x::l,[],h,_,_,_=>by simp_all
 |x::l,y::m,h,ha,hl,hm=>by
  obtain⟨l1,l2⟩:=Xc.1 hl;obtain⟨m1,m2⟩:=Xc.1 hm;have hy:y∈x::l:=h.mem_iff.2 (by simp);have hxy:x=y:=by
   grind
  subst hxy;rw[JO (by simp_all) (by grind) l2 m2]
def ltO(cf:α->α->Option Int)(x y:α):Bool:=match cf x y with
 |some c=>decide (c<0)
 |none=>false
def Qkv[DecidableEq α](cf:α->α->Option Int)(l:List α):Bool:=
 l.all λx=> !ltO cf x x&&l.all λy=>(cf x y).isSome&&(ltO cf x y||ltO cf y x||decide (x=y))&&l.all λz=>(!ltO cf x y|| !ltO cf y z||ltO cf x z)&&(ltO cf x y||ltO cf y z|| !ltO cf x z)
def Qb7[DecidableEq α](cf:α->α->Option Int)(l:List α):Option (List α):=bif Nat.ble l.length QC&&Qkv cf l then some (Jh (ltO cf) l)else none
theorem Qdq[DecidableEq α]{a:α->α->Option Int}{l l':List α}(h:Qb7 a l=some l'):
  l.length<=QC/\(∀x∈l,∀y∈l,∃c,a x y=some c)/\Qfa (ltO a) l/\(∀x∈l,∀y∈l,ltO a x y=false->ltO a y x=false->x=y)/\Jh (ltO a) l=l':=by
 unfold Qb7 at h;cases i:Nat.ble l.length QC with
 |false=>grind
 |true=>
 rw[i,Vu]at h;cases q:Qkv a l with
 |false=>grind
 |true=>
  rw[q]at h;refine⟨(by simp_all),?_⟩;unfold Qkv at q;simp[Xs,XT,Bool.not_eq_true',Bool.or_eq_true]at q;refine⟨λx d y e=>Option.isSome_iff_exists.1 ((q x d).2 y e).1.1,⟨λx d=>(q x d).1,λx d y e z j f g=>?_,λx d y e z j f g=>?_⟩,λx d y e f g=>?_,XV h⟩
  .grind
  .grind
  grind
theorem Qoh[DecidableEq α]{a:α->α->Option Int}{l:List α}(d:l.length<=QC)(c:α->α->Int)(f:∀x∈l,∀y∈l,a x y=some (c x y))(hi:∀x∈l,¬c x x<0)
  (i:∀x∈l,∀y∈l,∀z∈l,c x y<0->c y z<0->c x z<0)(h:∀x∈l,∀y∈l,∀z∈l,¬c x y<0->¬c y z<0->¬c x z<0)(k:∀x∈l,∀y∈l,¬c x y<0->¬c y x<0->x=y):
  Qb7 a l=some (Jh (ltO a) l):=by
 have e:∀x∈l,∀y∈l,ltO a x y=decide (c x y<0):=λx g y j=>by unfold ltO;grind
 have q:Qkv a l=true:=by
  unfold Qkv
  grind
 simp_all[Qb7,XP]
theorem QaI[DecidableEq α]{a:α->α->Option Int}{l l':List α}(h:Qb7 a l=some l'):l.length=l'.length:=by
 rw[<- (Qdq h).2.2.2.2];exact(Qu _ _).length_eq.symm
theorem Qbn{l l':List α}{i:Int}{x:α}(h:Qej l i x=some l'):l.length=l'.length:=by
 grind[Qej]
theorem Q7{h0:Nat}{env:Env}{H:Qb}{s:Nat}{a a':A}(h:lk env s=a)(e:a=a'):Le h0 env H (up env s a') H:=by
 intro g f σ N act w r;refine⟨f,σ,⟨r.sim,λd=>?_,r.size,r.defers⟩,λ_ q=>q,rfl⟩;subst e;have:lk (up env s a) d=lk env d:=by
  simp[lk];cases q:Nat.beq d s with
  |true=>simp_all
  |false=>rfl
 rw[this];exact r.env d
end
section
variable {fr ro:Nat->Prop} {σ:Sig} {H:Qb} {w w':World}
theorem Qe1(hh:∀b,b<w.heap.size->w'.heap[b]?=w.heap[b]?)(hro:∀b,ro b->b<w.heap.size)(σ:Sig):Ext ro σ w ro σ w':=
 ⟨λ_ q=>q,(by grind),λb x hx=>by grind[World.shape?],λ_ _ q=>q⟩
theorem Sim.grown(s:Sim fr ro σ H w)(a:∀b,b<w.heap.size->w'.heap[b]?=w.heap[b]?)(m:w.heap.size<=w'.heap.size):Sim fr ro σ H w':=by
 refine⟨s.len,s.roOk.to (λ_ q=>q) (λb q=>a b (s.roLt b q)) (λb h=>X9 (s.roLt b h) m),λb h=>X9 (s.frLt b h) m,s.roFr,λi b x e f n=>?_,s.inj,λi y x e f=>?_,s.hidTo (· = ·) Q9 m (by simp) (by simp) λj d y l k r=>.inl ⟨j,y,rfl,l,k,id,λc q=>s.hidKeep l k (λz=>a d (s.own j d y l k z).1) (λb q=>a b (s.roLt b q)) q⟩⟩
 .obtain⟨p,q⟩:=s.own i b x e f n
  grind
 .refine(s.blk i y x e f).keep (Qe1 a s.roLt σ) ?_ ?_
  .rintro b rfl g;exact a b (s.own i b x e f g).1
  .rintro b c rfl g;exact a c (s.hid i b x c e f g).lt
theorem Qk.grown(hh:∀b,b<w.heap.size->w'.heap[b]?=w.heap[b]?)(hs:w.heap.size<=w'.heap.size)(s:Sim fr ro σ H w)(ho:w'.os=w.os)(ht:w'.tape=w.tape)(hu:w'.output=w.output)(hd:w.drawn<=w'.drawn):Qk fr ro w ro w':=
 ⟨λ_ q=>q,λb h=>hh b (s.roLt b h),λb h=>hh b (s.frLt b h),hs,(Qe1 hh s.roLt σ).shape,ho,ht,hu,hd⟩
theorem Qmv(h:∀b,b<w.heap.size->w'.heap[b]?=w.heap[b]?)(i:w.heap.size<=w'.heap.size)(d:w'.os=w.os)(e:w'.tape=w.tape)(f:w'.output=w.output)(j:w.drawn<=w'.drawn):
  ∃q os',w'=grow (w.drewN q) os':=by
 refine⟨w'.drawn-w.drawn,w'.heap.extract w.heap.size w'.heap.size,?_⟩;obtain⟨a,k,g,p,l⟩:=w';simp only at h i d e f j;subst d e f;unfold grow World.drewN;have n:a=w.heap++a.extract w.heap.size a.size:=by
  grind
 have m:g=w.drawn+(g-w.drawn):=by omega
 grind
end
end Go.Sw
