/- The rules by which the code is walked, with what they rest on (part 1). -/
import Derived.Calls
import Derived.Tactics
import Derived.Below
import Derived.TacticsIn
import Derived.OrdersIn
import Derived.RangeFuncLeaves
import Derived.RangeFuncRecord
import Derived.Laws.Strings
import Derived.Laws.World
import Derived.Orders
import Derived.Maps.Keyed
import Derived.Laws.StructEq
import Derived.Maps.RangeRun
import Derived.Shelf.SlSortCmp.NoneTotal
set_option linter.unusedVariables false
set_option linter.unusedSimpArgs false
set_option linter.unusedSectionVars false
namespace Go.Sw
abbrev Xa:= @List.getElem?_set_self
abbrev Xb:= @List.getElem?_set
abbrev Xc:= @List.pairwise_cons
abbrev Xd:= @List.mem_filter
abbrev Xe:= @List.mem_map
abbrev Xf:= @List.map_append
abbrev Xg:= @Bool.not_true
abbrev Xh:= @Bool.not_false
abbrev Xi:= @Bool.false_eq_true
abbrev Xj:= @Option.map_some
abbrev Xk:= @Option.map_none
abbrev Xl:= @Nat.succ_mul
abbrev Xm:= @Nat.not_lt_zero
abbrev Xn:= @Nat.lt_succ_self
abbrev Xo:= @List.getElem?_map
abbrev Xp:= @List.drop_eq_getElem_cons
abbrev Xq:= @List.drop_eq_nil_iff
abbrev Xr:= @List.flatten_append
abbrev Xs:= @List.all_eq_true
abbrev Xt:= @List.any_eq_true
abbrev Xu:= @List.range_succ
abbrev Xv:= @Nat.zero_add
abbrev Xw:= @Nat.add_zero
abbrev Xx:= @Nat.mul_zero
abbrev Xy:= @List.length_take
abbrev Xz:= @List.take_append_drop
abbrev XA:= @Nat.add_mul
abbrev XB:= @Nat.min_eq_left
abbrev XC:= @Nat.mul_le_mul_right
abbrev XD:= @List.foldl_cons
abbrev XE:= @List.getElem?_cons_zero
abbrev XF:= @List.getElem?_cons_succ
abbrev XG:= @List.getElem?_toArray
abbrev XH:= @Sem.run_ite
abbrev XI:= @List.map_toArray
abbrev XJ:= @Option.bind_some
abbrev XK:= @List.getElem?_eq_getElem
abbrev XL:= @List.getElem?_eq_some_iff
abbrev XM:= @List.getElem?_append_left
abbrev XN:= @List.getElem?_append_right
abbrev XO:= @List.getElem?_eq_none
abbrev XP:= @List.getElem?_set_ne
abbrev XQ:= @Nat.eq_of_beq_eq_true
abbrev XR:= @Nat.le_of_ble_eq_true
abbrev XS:= @Nat.ble_eq_true_of_le
abbrev XT:= @Nat.le_refl
abbrev XU:= @Nat.zero_le
abbrev XV:= @Nat.le_trans
abbrev XW:= @Bool.and_eq_true
abbrev XX:= @Bool.or_eq_false_iff
abbrev XY:= @Bool.eq_iff_iff
abbrev XZ:= @Option.some.inj
abbrev X0:= @List.length_cons
abbrev X2:= @List.length_map
abbrev X3:= @List.length_append
abbrev X4:= @List.length_set
abbrev X5:= @List.mem_cons_of_mem
abbrev X6:= @List.mem_cons
abbrev X7:= @List.take_append_of_le_length
abbrev X8:= @List.drop_append_of_le_length
abbrev X9:= @List.take_length
abbrev Va:= @List.drop_length_add_append
abbrev Vb:= @List.take_length_add_append
abbrev Vc:= @Array.getElem?_eq_some_iff
abbrev Vd:= @List.getElem_mem
abbrev Ve:= @Array.getElem?_setIfInBounds
abbrev Vf:= @Nat.lt_of_lt_of_le
abbrev Vg:= @List.append_nil
abbrev Vh:= @List.nil_append
abbrev Vi:= @List.append_assoc
abbrev Vj:= @List.map_cons
abbrev Vk:= @List.map_nil
abbrev Vl:= @List.flatten_cons
abbrev Vm:= @Sem.run_bind
abbrev Vn:= @Sem.run_pure
abbrev Vp:= @cond_true
abbrev Vq:= @cond_false
abbrev Vr:= @decide_eq_true_eq
abbrev Vs:= @if_neg
abbrev Vt:= @if_pos
abbrev Vu:= @decide_eq_true
abbrev Vv:= @of_decide_eq_true
abbrev Vw:= @of_decide_eq_false
abbrev Vx:= @decide_eq_false
abbrev Vy:= @beq_iff_eq
abbrev Vz:= @beq_eq_false_iff_ne
abbrev VA:= @Bool.true_and
abbrev VB:= @List.mem_singleton
abbrev VC:= @Nat.lt_or_ge
abbrev VD:= @List.mem_append
abbrev VE:= @List.pairwise_iff_getElem
abbrev VF:= @Nat.beq_refl
abbrev VG:= @List.mem_map_of_mem
abbrev VH:= @List.mem_of_getElem?
abbrev VI:= @List.take_of_length_le
abbrev VJ:= @List.length_eq_zero_iff
abbrev VK:= @List.cons_append
abbrev VL:= @List.getD_eq_getElem?_getD
abbrev VM:= @Bool.eq_false_iff
abbrev VN:= @List.length_filter_le
def Qkl:Nat:=11
def nG:Nat:=12
def QiI:List (List Int):=[[1,9999],[-1099511627776,1099511627776],[0,1048576],[0,39],[0,255],[0,1099511627776],[0,255],[1,1048576],[0,1],[0,31],[1,1048576]]
theorem gOk:((List.range nG).all λb=>Nat.beq b Qkl|| !(QiI.getD b []).isEmpty)=true:=by decide
theorem gLt:Nat.ble QiI.length nG=true:=by decide
theorem QoY:Nat.blt Qkl nG=true:=by decide
structure GP (w:World):Prop where
 max:∃m:Int,w.cell? ⟨Qkl,0,none⟩=some (.int .i64 m)
 tab:∀(g:Nat) (zs:List Int),QiI[g]?=some zs->∀(i:Nat) (z:Int),zs[i]?=some z->w.cell? ⟨g,i,none⟩=some (.int .i64 z)
theorem GP.keep{w w':World}(h:∀b,b<nG->w'.heap[b]?=w.heap[b]?)(g:GP w):GP w':=by
 obtain⟨m,j⟩:=g.max;refine⟨⟨m,?_⟩,λd f a i z e=>?_⟩
 .rw[<- j];unfold World.cell?;rw[h Qkl (by simpa using QoY)]
 .rw[<- g.tab d f a i z e];unfold World.cell?;have k:=(XL.1 a).1;have l:QiI.length<=nG:=by simpa using gLt
  rw[h d (by omega)]
theorem Qgb{w:World}{b i:Nat}{v:Value}(h:w.cell? ⟨b,i,none⟩=some v):b<w.heap.size:=by
 cases e:w.heap[b]? with
 |none=>simp[World.cell?,e]at h
 |some o=>exact(Vc.1 e).1
theorem GP.size{w:World}(g:GP w)(b:Nat)(f:b<nG):b<w.heap.size:=by
 have h:=Xs.1 gOk b (List.mem_range.2 f);rw[Bool.or_eq_true]at h;rcases h with h|h
 .obtain⟨m,d⟩:=g.max;rw[XQ h];exact Qgb d
 .cases e:QiI[b]? with
  |none=>rw[VL,e]at h;simp at h
  |some a=>
   cases a with
   |nil=>rw[VL,e]at h;simp at h
   |cons z a=>exact Qgb (g.tab b _ e 0 z rfl)
end Go.Sw
namespace Go.Sw
inductive A where
 |any
 |bool (b:Bool)
 |int (k:IntKind) (n:Int)
 |str (s:List UInt8)
 |nilp
 |ptr (i off:Nat)
 |rp (cs:List A)
 |nils
 |rsl (k:Nat) (es:List (List A))
 |osl (i o n k:Nat)
 |agg (cs:List A)
 |fn (f:Fn) (first cap:List A)
 |nilf
 |iface (t:Nat) (v:A)
 |nilif
 |map (i:Nat)
 |nilm
 |tup (vs:List A)
abbrev Sig:=List (Option Nat)
def Qo:Value->Prop
 |.agg _|.tuple _=>False
 |_=>True
mutual
def VR(ro:Nat->Prop)(σ:Sig)(w:World):A->Value->Prop
 |.any,_=>True
 |.bool b,v=>v=.bool b
 |.int k n,v=>v=.int k n
 |.str s,v=>v=.string ⟨s.toArray⟩
 |.nilp,v=>v=.pointer none
 |.ptr i off,v=>∃b,σ[i]?=some (some b)/\v=.pointer (some ⟨b,off,none⟩)
 |.rp cs,v=>∃b off,v=.pointer (some ⟨b,off,none⟩)/\ro b/\CR ro [] w b cs off
 |.nils,v=>v=.slice none 0 0
 |.rsl k es,v=>∃a cap,v=.slice a es.length cap/\es.length<=cap/\
   (es=[]\/ ∃b off,a=some ⟨b,off,none⟩/\ro b/\RR ro [] w b k es off)
 |.osl i o n k,v=>(n=0/\v=.slice none 0 0)\/
   ∃b p cap t m,σ[i]?=some (some b)/\v=.slice (some ⟨b,p,none⟩) n cap/\(0<cap->p=o*k)/\(n<=cap/\cap<=9223372036854775807)/\w.shape? b=some (t,m)/\(o+cap)*k<=m
 |.agg cs,v=>∃l:List Value,v=.agg l.toArray/\LR ro σ w cs l
 |.fn f first cap,v=>∃l l':List Value,v=.func f l.toArray l'.toArray/\LR ro σ w first l/\LR ro σ w cap l'
 |.nilf,v=>v=.nilFunc
 |.iface t a,v=>∃x,v=.iface t x/\VR ro σ w a x
 |.nilif,v=>v=.nilIface
 |.map i,v=>∃b,σ[i]?=some (some b)/\v=.map (some b)
 |.nilm,v=>v=.map none
 |.tup vs,v=>∃l:List Value,v=.tuple l.toArray/\LR ro σ w vs l
def CR(ro:Nat->Prop)(σ:Sig)(w:World)(b:Nat):List A->Nat->Prop
 |[],_=>True
 |a::r,off=>(∃v,w.cell? ⟨b,off,none⟩=some v/\Qo v/\VR ro σ w a v)/\CR ro σ w b r (off+1)
def RR(ro:Nat->Prop)(σ:Sig)(w:World)(b k:Nat):List (List A)->Nat->Prop
 |[],_=>True
 |cs::r,off=>cs.length=k/\CR ro σ w b cs off/\RR ro σ w b k r (off+k)
def LR(ro:Nat->Prop)(σ:Sig)(w:World):List A->List Value->Prop
 |[],l=>l=[]
 |a::r,l=>∃v l',l=v::l'/\VR ro σ w a v/\LR ro σ w r l'
end
structure Ext (ro:Nat->Prop) (σ:Sig) (w:World) (ro':Nat->Prop) (σ':Sig) (w':World):Prop where
 sub:∀b,ro b->ro' b
 keep:∀b,ro b->w'.heap[b]?=w.heap[b]?
 shape:∀b x,w.shape? b=some x->w'.shape? b=some x
 sig:∀(i b:Nat),σ[i]?=some (some b)->σ'[i]?=some (some b)
theorem Qgc{w w':World}{b off:Nat}(h:w'.heap[b]?=w.heap[b]?):w'.cell? ⟨b,off,none⟩=w.cell? ⟨b,off,none⟩:=by
 simp only[World.cell?,h]
theorem Ext.nil{ro ro':Nat->Prop}{σ σ':Sig}{w w':World}(h:Ext ro σ w ro' σ' w'):Ext ro [] w ro' [] w':=
 ⟨h.sub,h.keep,h.shape,λ_ _ q=>q⟩
mutual
theorem VR.mono{ro ro':Nat->Prop}{w w':World}:∀{a:A} {σ σ':Sig} {v:Value},Ext ro σ w ro' σ' w'->VR ro σ w a v->VR ro' σ' w' a v
 |.any,_,_,_,h,_=>trivial
 |.bool b,_,_,v,h,q=>q
 |.int k n,_,_,v,h,q=>q
 |.str s,_,_,v,h,q=>q
 |.nilp,_,_,v,h,q=>q
 |.ptr i off,_,_,v,h,q=>by
  simp only[VR]at q⊢;obtain⟨b,h1,h2⟩:=q;exact⟨b,h.sig _ _ h1,h2⟩
 |.rp cs,_,_,v,h,q=>by
  simp only[VR]at q⊢;obtain⟨b,off,h1,h2,h3⟩:=q;exact⟨b,off,h1,h.sub _ h2,CR.mono h.nil h2 h3⟩
 |.nils,_,_,v,h,q=>q
 |.rsl k es,_,_,v,h,q=>by
  simp only[VR]at q⊢;obtain⟨a,cap,h1,h2,h3⟩:=q;refine⟨a,cap,h1,h2,?_⟩;rcases h3 with h3|⟨b,off,h4,h5,h6⟩
  .exact .inl h3
  .exact .inr ⟨b,off,h4,h.sub _ h5,RR.mono h.nil h5 h6⟩
 |.osl i o n k,_,_,v,h,q=>by
  simp only[VR]at q⊢;rcases q with q|⟨b,p,cap,t,m,h1,h2,h6,h3,h4,h5⟩
  .exact .inl q
  .exact .inr ⟨b,p,cap,t,m,h.sig _ _ h1,h2,h6,h3,h.shape _ _ h4,h5⟩
 |.agg cs,_,_,v,h,q=>by
  simp only[VR]at q⊢;obtain⟨l,h1,h2⟩:=q;exact⟨l,h1,LR.mono h h2⟩
 |.fn f a c,_,_,v,h,q=>by
  simp only[VR]at q⊢;obtain⟨l,l',h1,h2,h3⟩:=q;exact⟨l,l',h1,LR.mono h h2,LR.mono h h3⟩
 |.nilf,_,_,v,h,q=>q
 |.iface t a,_,_,v,h,q=>by
  simp only[VR]at q⊢;obtain⟨x,h1,h2⟩:=q;exact⟨x,h1,VR.mono h h2⟩
 |.nilif,_,_,v,h,q=>q
 |.map i,_,_,v,h,q=>by
  simp only[VR]at q⊢;obtain⟨b,h1,h2⟩:=q;exact⟨b,h.sig _ _ h1,h2⟩
 |.nilm,_,_,v,h,q=>q
 |.tup vs,_,_,v,h,q=>by
  simp only[VR]at q⊢;obtain⟨l,h1,h2⟩:=q;exact⟨l,h1,LR.mono h h2⟩
theorem CR.mono{ro ro':Nat->Prop}{w w':World}:∀{cs:List A} {σ σ':Sig} {b off:Nat},Ext ro σ w ro' σ' w'->ro b->CR ro σ w b cs off->CR ro' σ' w' b cs off
 |[],_,_,_,_,_,_,_=>trivial
 |a::r,_,_,b,off,h,hb,q=>by
  simp only[CR]at q⊢;obtain⟨⟨v,h1,hp,h2⟩,h3⟩:=q;exact⟨⟨v,by rw[Qgc (h.keep _ hb)];exact h1,hp,VR.mono h h2⟩,CR.mono h hb h3⟩
theorem RR.mono{ro ro':Nat->Prop}{w w':World}:∀{es:List (List A)} {σ σ':Sig} {b k off:Nat},Ext ro σ w ro' σ' w'->ro b->RR ro σ w b k es off->RR ro' σ' w' b k es off
 |[],_,_,_,_,_,_,_,_=>trivial
 |cs::r,_,_,b,k,off,h,hb,q=>by
  simp only[RR]at q⊢;obtain⟨h1,h2,h3⟩:=q;exact⟨h1,CR.mono h hb h2,RR.mono h hb h3⟩
theorem LR.mono{ro ro':Nat->Prop}{w w':World}:∀{az:List A} {σ σ':Sig} {l:List Value},Ext ro σ w ro' σ' w'->LR ro σ w az l->LR ro' σ' w' az l
 |[],_,_,_,h,q=>q
 |a::r,_,_,l,h,q=>by
  simp only[LR]at q⊢;obtain⟨v,l',h1,h2,h3⟩:=q;exact⟨v,l',h1,VR.mono h h2,LR.mono h h3⟩
end
structure Ent where
 fl:Bool
 off:Nat
 lo:Int
 hi:Int
def Qd3(i n c:Nat):List (List A):=(List.range c).map λj=>[.osl i (j*n) n 1]
def eC(b1 b2:Nat)(e:Ent):List A:=[.ptr (bif e.fl then b2 else b1) e.off,.int .i64 e.lo,.int .i64 e.hi]
inductive Blk where
 |dead
 |cells (t:Nat) (cs:List A)
 |row (t k:Nat) (es:List (List A))
 |rowr (t k:Nat) (es:List (List A))
 |map (es:List (A×A))
 |iter (cur:Option (A×A)) (es:List (A×A))
 |fmap (es:List (A×A))
 |ents (t b1 b2:Nat) (es:List Ent)
 |wins (t b n c:Nat)
 |mapO (fz:Bool) (t k:Nat) (es:List (A×Option (List (List A))))
 |mapP (es:List (A×A))
 |frow (t k:Nat) (es:List (List A))
def Blk.live:Blk->Bool
 |.dead=>false
 |.fmap _=>false
 |.frow _ _ _=>false
 |.mapO fz _ _ _=> !fz
 |_=>true
def Blk.held:Blk->Bool
 |.mapO fz _ _ _=>fz
 |_=>false
def Blk.holds(x:Blk):Bool:=x.live||x.held
theorem Qar{x:Blk}(h:x.live=true):x≠ .dead:=by rintro rfl;cases h
theorem Qen{x:Blk}(h:x.holds=true):x≠ .dead:=by rintro rfl;cases h
theorem Qby{x:Blk}(h:x.live=true):x.holds=true:=by unfold Blk.holds;rw[h];rfl
abbrev Qd:=List Blk
def ER(ro:Nat->Prop)(σ:Sig)(w:World):List (A×A)->List MapEntry->Prop
 |[],l=>l=[]
 |x::r,l=>∃e l',l=e::l'/\VR ro σ w x.1 e.key/\VR ro σ w x.2 e.val/\ER ro σ w r l'
def ItR(ro:Nat->Prop)(w:World)(b:Nat)(cur:Option (A×A))(es:List (A×A)):Prop:=
 (es=[]/\cur=none/\w.heap[b]?=some (.mapIter none 0 #[] 0))\/
 ∃m l clock seen left,w.heap[b]?=some (.mapIter (some m) clock seen clock)/\ro m/\w.heap[m]?=some (.map l clock)/\(∀e∈l.toList,e.born<clock)/\(l.toList.map (·.born)).Nodup/\
  (left:List MapEntry).Perm (l.toList.filter λe=> !seen.contains e.born)/\ER ro [] w es left/\
  (∀x,cur=some x->∃e∈l.toList,seen.back? =some e.born/\VR ro [] w x.1 e.key/\VR ro [] w x.2 e.val)
def RL(ro:Nat->Prop)(σ:Sig)(w:World)(k:Nat):List (List A)->List Value->Prop
 |[],_=>True
 |c::es,l=>∃l1 l2,l=l1++l2/\c.length=k/\(LR ro σ w c l1/\ ∀v∈l1,Qo v)/\RL ro σ w k es l2
theorem RL.mono{ro ro':Nat->Prop}{σ σ':Sig}{w w':World}(h:Ext ro σ w ro' σ' w'){k:Nat}:∀{es:List (List A)} {l:List Value},RL ro σ w k es l->RL ro' σ' w' k es l
 |[],_,_=>trivial
 |c::es,l,⟨l1,l2,h1,h2,h3,h4⟩=>⟨l1,l2,h1,h2,⟨h3.1.mono h,h3.2⟩,RL.mono h h4⟩
def SO(ro:Nat->Prop)(w:World)(t k:Nat)(rows:List (List A))(v:Value):Prop:=
 (rows=[]/\v=.slice none 0 0)\/ ∃(c p cap:Nat) (vs:List Value),v=.slice (some ⟨c,p,none⟩) rows.length cap/\(rows.length<=cap/\cap<=9223372036854775807)/\w.heap[c]?=some (.cells vs.toArray t (0,0))/\cap*k<=vs.length/\RL ro [] w k rows vs/\(0<cap->p=0)
def MO(ro:Nat->Prop)(w:World)(t k:Nat):List (A×Option (List (List A)))->List MapEntry->Prop
 |[],l=>l=[]
 |x::r,l=>∃e l',l=e::l'/\VR ro [] w x.1 e.key/\(∀rows,x.2=some rows->SO ro w t k rows e.val)/\MO ro w t k r l'
def Qd7:List (A×Option (List (List A)))->List MapEntry->Nat->Prop
 |x::r,e::l,c=>(x.2.isSome=true/\ ∃p n cap,e.val=.slice (some ⟨c,p,none⟩) n cap)\/Qd7 r l c
 |_,_,_=>False
def Qjc:List (A×Option (List (List A)))->List MapEntry->Prop
 |x::r,e::l=>(∀c,x.2.isSome=true->(∃p n cap,e.val=.slice (some ⟨c,p,none⟩) n cap)->¬Qd7 r l c)/\Qjc r l
 |_,_=>True
def Hid(w:World):Blk->Nat->Nat->Prop
 |.mapO _ _ _ es,b,c=>∃l clock,w.heap[b]?=some (.map l clock)/\Qd7 es l.toList c
 |_,_,_=>False
theorem Hid.keep{w w':World}{x:Blk}{b c:Nat}(h:w'.heap[b]?=w.heap[b]?)(q:Hid w' x b c):Hid w x b c:=by
 cases x with
 |mapO fz t k f=>obtain⟨l,a,e,d⟩:=q;exact⟨l,a,by grind,d⟩
 |_=>exact q.elim
theorem Hid.holds{w:World}{x:Blk}{b c:Nat}(q:Hid w x b c):x.holds=true:=by
 cases x with
 |mapO fz t k a=>cases fz<;>rfl
 |_=>exact q.elim
theorem MO.mono{ro ro':Nat->Prop}{σ σ':Sig}{w w':World}(h:Ext ro σ w ro' σ' w'){t k:Nat}:∀{es:List (A×Option (List (List A)))} {l:List MapEntry},(∀c,Qd7 es l c->w'.heap[c]?=w.heap[c]?)->MO ro w t k es l->MO ro' w' t k es l
 |[],_,_,q=>q
 |x::r,_,hh,⟨e,l',h1,h2,h3,h4⟩=>by
  subst h1;refine⟨e,l',rfl,h2.mono h.nil,λrows hr=>?_,MO.mono h (λc hc=>hh c (.inr hc)) h4⟩;rcases h3 rows hr with q|⟨c,p,cap,vs,q1,q2,q3,q4,q5,q6⟩
  .exact .inl q
  .exact .inr ⟨c,p,cap,vs,q1,q2,by rw[hh c (.inl (by grind))];exact q3,q4,q5.mono h.nil,q6⟩
theorem MO.cells{ro:Nat->Prop}{w:World}{t k:Nat}:∀{es:List (A×Option (List (List A)))} {l:List MapEntry} {c:Nat},MO ro w t k es l->Qd7 es l c->∃vs:Array Value,w.heap[c]?=some (.cells vs t (0,0))
 |[],l,c,h,q=>by cases l<;>exact q.elim
 |x::r,_,c,⟨e,l',h1,h2,h3,h4⟩,q=>by
  subst h1;rcases q with⟨q1,p,n,cap,q2⟩|q
  .obtain⟨rows,hr⟩:=Option.isSome_iff_exists.1 q1;rcases h3 rows hr with⟨_,z⟩|⟨c',p',cap',vs,z1,z2,z3,z4,z5,z6⟩
   .grind
   grind
  .exact MO.cells h4 q
def Born(l:Array MapEntry)(clock:Nat):Prop:=clock=l.size/\ ∀(i:Nat) (e:MapEntry),l.toList[i]?=some e->e.born=i
theorem Born.modify{l:Array MapEntry}{a j:Nat}{f:MapEntry->MapEntry}(h:Born l a)(d:∀e,(f e).born=e.born):Born (l.modify j f) a:=by
 obtain⟨b,k⟩:=h;refine⟨by simp[b],λi g q=>?_⟩
 grind
def BR(ro:Nat->Prop)(σ:Sig)(w:World):Blk->Option Nat->Prop
 |.dead,_=>True
 |.cells t cs,some b=>∃l:List Value,w.heap[b]?=some (.cells l.toArray t (0,0))/\LR ro σ w cs l/\ ∀v∈l,Qo v
 |.row t k es,some b=>∃l:List Value,w.heap[b]?=some (.cells l.toArray t (0,0))/\RL ro [] w k es l
 |.rowr t k es,some b=>∃l:List Value,w.heap[b]?=some (.cells l.toArray t (0,0))/\RL ro σ w k es l
 |.row _ _ es,none=>es=[]
 |.ents t b1 b2 es,some b=>∃l:List Value,w.heap[b]?=some (.cells l.toArray t (0,0))/\RL ro σ w 3 (es.map (eC b1 b2)) l
 |.ents _ _ _ es,none=>es=[]
 |.wins t b n c,some d=>∃l:List Value,w.heap[d]?=some (.cells l.toArray t (0,0))/\RL ro σ w 1 (Qd3 b n c) l
 |.wins _ _ _ c,none=>c=0
 |.map es,some b=>∃l clock,w.heap[b]?=some (.map l clock)/\ER ro [] w es l.toList/\
   (∀e∈l.toList,e.born<clock)/\(l.toList.map (·.born)).Nodup/\(l.toList.map (·.key)).Nodup
 |.mapP es,some b=>∃l clock,w.heap[b]?=some (.map l clock)/\ER ro σ w es l.toList/\
   (∀e∈l.toList,e.born<clock)/\(l.toList.map (·.born)).Nodup/\(l.toList.map (·.key)).Nodup
 |.frow t k es,some b=>ro b/\ ∃l:List Value,w.heap[b]?=some (.cells l.toArray t (0,0))/\RL ro [] w k es l/\l.length=es.length*k
 |.iter cur es,some b=>ItR ro w b cur es
 |.mapO fz t k es,some b=>(fz=true->ro b)/\ ∃l clock,w.heap[b]?=some (.map l clock)/\MO ro w t k es l.toList/\Qjc es l.toList/\
   (∀e∈l.toList,e.born<clock)/\(l.toList.map (·.born)).Nodup/\(l.toList.map (·.key)).Nodup/\Born l clock
 |.fmap es,some b=>ro b/\ ∃l clock,w.heap[b]?=some (.map l clock)/\ER ro [] w es l.toList/\
   (∀e∈l.toList,e.born<clock)/\(l.toList.map (·.born)).Nodup/\(l.toList.map (·.key)).Nodup
 |_,none=>False
structure RoOk (ro:Nat->Prop) (w:World):Prop where
 lt:∀b,ro b->b<w.heap.size
 g:∀b,b<nG->ro b
 gp:GP w
theorem RoOk.to{ro ro':Nat->Prop}{w w':World}(h:RoOk ro w)(sub:∀b,ro b->ro' b)(keep:∀b,ro b->w'.heap[b]?=w.heap[b]?)(lt:∀b,ro' b->b<w'.heap.size):RoOk ro' w':=
 ⟨lt,λb hb=>sub b (h.g b hb),h.gp.keep λb hb=>keep b (h.g b hb)⟩
structure Qod (fr ro:Nat->Prop) (σ:Sig) (H:Qd) (w:World) (i0 b0 c:Nat):Prop where
 lt:c<w.heap.size
 ro:¬ro c
 fr:¬fr c
 ne:∀(j b:Nat) (y:Blk),σ[j]?=some (some b)->H[j]?=some y->y.live=true->c≠b
 one:∀(j b:Nat) (y:Blk),σ[j]?=some (some b)->H[j]?=some y->Hid w y b c->b=b0/\j=i0
structure Sim (fr ro:Nat->Prop) (σ:Sig) (H:Qd) (w:World):Prop where
 len:σ.length=H.length
 roOk:RoOk ro w
 frLt:∀b,fr b->b<w.heap.size
 roFr:∀b,ro b->¬fr b
 own:∀(i b:Nat) (blk:Blk),σ[i]?=some (some b)->H[i]?=some blk->blk.live=true->b<w.heap.size/\ ¬ro b/\ ¬fr b
 inj:∀(i j b:Nat) (x y:Blk),σ[i]?=some (some b)->σ[j]?=some (some b)->H[i]?=some x->H[j]?=some y->x.live=true->y.live=true->i=j
 blk:∀(i:Nat) (s:Option Nat) (x:Blk),σ[i]?=some s->H[i]?=some x->BR ro σ w x s
 hid:∀(i b:Nat) (x:Blk) (c:Nat),σ[i]?=some (some b)->H[i]?=some x->Hid w x b c->Qod fr ro σ H w i b c
theorem Sim.roHeld{fr ro:Nat->Prop}{σ:Sig}{H:Qd}{w:World}(s:Sim fr ro σ H w){i b:Nat}{x:Blk}(d:σ[i]?=some (some b))(e:H[i]?=some x)(a:x.held=true):ro b:=by
 have h:=s.blk i _ x d e;cases x with
 |mapO fz t k f=>exact h.1 a
 |_=>cases a
theorem Sim.hidKeep{fr ro:Nat->Prop}{σ:Sig}{H:Qd}{w w':World}(s:Sim fr ro σ H w){i b c:Nat}{x:Blk}(f:σ[i]?=some (some b))(e:H[i]?=some x)
  (g:x.live=true->w'.heap[b]?=w.heap[b]?)(d:∀b,ro b->w'.heap[b]?=w.heap[b]?)(q:Hid w' x b c):Hid w x b c:=by
 refine q.keep ?_;have h:=q.holds;cases a:x.live with
 |true=>exact g a
 |false=>unfold Blk.holds at h;rw[a]at h;exact d b (s.roHeld f e h)
theorem Sim.hidTo{fr n ro ro':Nat->Prop}{σ σ':Sig}{H H':Qd}{w w':World}(s:Sim fr ro σ H w)(R:Nat->Nat->Prop)(T:∀j j' a,R j a->R j' a->j=j')(z:w.heap.size<=w'.heap.size)
  (N:∀(i b:Nat) (x:Blk) (c:Nat),σ[i]?=some (some b)->H[i]?=some x->Hid w x b c->ro' c->ro c)
  (O:∀(i b:Nat) (x:Blk) (c:Nat),σ[i]?=some (some b)->H[i]?=some x->Hid w x b c->n c->fr c)
  (h:∀(j d:Nat) (y:Blk),σ'[j]?=some (some d)->H'[j]?=some y->y.holds=true->
   (∃(a:Nat) (l:Blk),R j a/\σ[a]?=some (some d)/\H[a]?=some l/\(y.live=true->l.live=true)/\ ∀c,Hid w' y d c->Hid w l d c)\/(w.heap.size<=d/\ ∀c,Hid w' y d c->False)):
  ∀(i b:Nat) (x:Blk) (c:Nat),σ'[i]?=some (some b)->H'[i]?=some x->Hid w' x b c->Qod n ro' σ' H' w' i b c:=by
 intro i b x c G M F;rcases h i b x G M F.holds with⟨a,l,X,J,L,g3,Q⟩|⟨_,g⟩
 .have k:=s.hid a b l c J L (Q c F);refine⟨Vf k.lt z,λq=>k.ro (by grind),λq=>k.fr (by grind),λj d y t p m=>?_,λj d y t p m=>?_⟩
  .rcases h j d y t p (Qby m)with⟨u,y1,_,r,B,E,_⟩|⟨f,_⟩
   .exact k.ne u d y1 r B (E m)
   .exact λe=>by have:=k.lt;omega
  .rcases h j d y t p m.holds with⟨u,y1,Y,r,B,E,P⟩|⟨_,f⟩
   .obtain⟨W,V⟩:=k.one u d y1 r B (P c m)
    grind
   grind
 grind
theorem Q3(j j' j0:Nat)(h:j=j0)(h':j'=j0):j=j':=h.trans h'.symm
theorem Sim.roLt{fr ro:Nat->Prop}{σ:Sig}{H:Qd}{w:World}(s:Sim fr ro σ H w):∀b,ro b->b<w.heap.size:=s.roOk.lt
structure Qi (fr ro:Nat->Prop) (w:World) (ro':Nat->Prop) (w':World):Prop where
 sub:∀b,ro b->ro' b
 keepRo:∀b,ro b->w'.heap[b]?=w.heap[b]?
 keepFr:∀b,fr b->w'.heap[b]?=w.heap[b]?
 size:w.heap.size<=w'.heap.size
 shape:∀b x,w.shape? b=some x->w'.shape? b=some x
 os:w'.os=w.os
 tape:w'.tape=w.tape
 output:w'.output=w.output
 drawn:w.drawn<=w'.drawn
theorem Qi.refl(fr ro:Nat->Prop)(w:World):Qi fr ro w ro w:=
 ⟨λ_ h=>h,λ_ _=>rfl,λ_ _=>rfl,XT _,λ_ _ h=>h,rfl,rfl,rfl,XT _⟩
theorem Qi.trans{fr ro ro1 ro2:Nat->Prop}{w w1 w2:World}(h:Qi fr ro w ro1 w1)(k:Qi fr ro1 w1 ro2 w2):Qi fr ro w ro2 w2:=
 ⟨λb q=>k.sub _ (h.sub _ q),λb q=>(k.keepRo _ (h.sub _ q)).trans (h.keepRo _ q),λb q=>(k.keepFr _ q).trans (h.keepFr _ q),
  XV h.size k.size,λb x q=>k.shape _ _ (h.shape _ _ q),k.os.trans h.os,k.tape.trans h.tape,k.output.trans h.output,XV h.drawn k.drawn⟩
theorem Qae{σ τ:Sig}{i b:Nat}(h:σ[i]?=some (some b)):(σ++τ)[i]?=some (some b):=by
 grind
theorem Qi.ext{fr ro ro':Nat->Prop}{w w':World}(h:Qi fr ro w ro' w')(σ τ:Sig):Ext ro σ w ro' (σ++τ) w':=
 ⟨h.sub,h.keepRo,h.shape,λ_ _=>Qae⟩
theorem Qi.ext0{fr ro ro':Nat->Prop}{w w':World}(h:Qi fr ro w ro' w')(σ:Sig):Ext ro σ w ro' σ w':=
 ⟨h.sub,h.keepRo,h.shape,λ_ _ q=>q⟩
theorem ER.mono{ro ro':Nat->Prop}{σ σ':Sig}{w w':World}(h:Ext ro σ w ro' σ' w'):∀{es:List (A×A)} {l:List MapEntry},ER ro σ w es l->ER ro' σ' w' es l
 |[],_,q=>q
 |x::r,l,q=>by
  simp only[ER]at q⊢;obtain⟨e,l',h1,h2,h3,h4⟩:=q;exact⟨e,l',h1,h2.mono h,h3.mono h,ER.mono h h4⟩
theorem ItR.keep{ro ro':Nat->Prop}{σ σ':Sig}{w w':World}(h:Ext ro σ w ro' σ' w'){b:Nat}(E:w'.heap[b]?=w.heap[b]?){d:Option (A×A)}{es:List (A×A)}
  (q:ItR ro w b d es):ItR ro' w' b d es:=by
 rcases q with⟨i,g,j⟩|⟨m,l,a,f,left,i,g,j,s,u,y,z,k⟩
 .exact .inl ⟨i,g,by grind⟩
 .refine .inr ⟨m,l,a,f,left,by grind,h.sub _ g,by rw[h.keep _ g];exact j,s,u,y,z.mono h.nil,λx p=>?_⟩;obtain⟨e,n,r,t,B⟩:=k x p;exact⟨e,n,r,t.mono h.nil,B.mono h.nil⟩
theorem CR.keep{ro ro':Nat->Prop}{σ σ':Sig}{w w':World}(h:Ext ro σ w ro' σ' w'){b:Nat}(hb:w'.heap[b]?=w.heap[b]?):
  ∀{cs:List A} {off:Nat},CR ro σ w b cs off->CR ro' σ' w' b cs off
 |[],_,_=>trivial
 |a::r,off,q=>by
  simp only[CR]at q⊢;obtain⟨⟨v,h1,hp,h2⟩,h3⟩:=q;exact⟨⟨v,by rw[Qgc hb];exact h1,hp,h2.mono h⟩,CR.keep h hb h3⟩
theorem RR.keep{ro ro':Nat->Prop}{σ σ':Sig}{w w':World}(h:Ext ro σ w ro' σ' w'){b:Nat}(hb:w'.heap[b]?=w.heap[b]?){k:Nat}:
  ∀{es:List (List A)} {off:Nat},RR ro σ w b k es off->RR ro' σ' w' b k es off
 |[],_,_=>trivial
 |cs::r,off,q=>by
  simp only[RR]at q⊢;obtain⟨h1,h2,h3⟩:=q;exact⟨h1,CR.keep h hb h2,RR.keep h hb h3⟩
theorem BR.keep{ro ro':Nat->Prop}{σ σ':Sig}{w w':World}(h:Ext ro σ w ro' σ' w'){x:Blk}{s:Option Nat}
  (g:∀b,s=some b->x.live=true->w'.heap[b]?=w.heap[b]?)(q:BR ro σ w x s)(m:∀b c,s=some b->Hid w x b c->w'.heap[c]?=w.heap[c]?):BR ro' σ' w' x s:=by
 cases x with
 |mapO fz t k i=>
  cases s with
  |none=>exact q
  |some b=>
   obtain⟨j,l,c,a,e,f⟩:=q;refine⟨λz=>h.sub b (j z),l,c,?_,e.mono h (λd p=>m b d rfl ⟨l,c,a,p⟩),f⟩;cases fz with
   |false=>rw[g b rfl rfl];exact a
   |true=>rw[h.keep b (j rfl)];exact a
 |dead=>trivial
 |cells t y=>
  cases s with
  |none=>exact q
  |some b=>
   obtain⟨l,a,e,f⟩:=q;exact⟨l,by rw[g b rfl rfl];exact a,e.mono h,f⟩
 |row t k i=>
  cases s with
  |none=>exact q
  |some b=>
   obtain⟨l,a,e⟩:=q;exact⟨l,by rw[g b rfl rfl];exact a,e.mono h.nil⟩
 |rowr t k i=>
  cases s with
  |none=>exact q.elim
  |some b=>
   obtain⟨l,a,e⟩:=q;exact⟨l,by rw[g b rfl rfl];exact a,e.mono h⟩
 |wins t b n c=>
  cases s with
  |none=>exact q
  |some d=>
   obtain⟨l,a,e⟩:=q;exact⟨l,by rw[g d rfl rfl];exact a,e.mono h⟩
 |ents t u B i=>
  cases s with
  |none=>exact q
  |some b=>
   obtain⟨l,a,e⟩:=q;exact⟨l,by rw[g b rfl rfl];exact a,e.mono h⟩
 |map i=>
  cases s with
  |none=>exact q
  |some b=>
   obtain⟨l,c,a,e,f⟩:=q;exact⟨l,c,by rw[g b rfl rfl];exact a,e.mono h.nil,f⟩
 |mapP i=>
  cases s with
  |none=>exact q
  |some b=>
   obtain⟨l,c,a,e,f⟩:=q;exact⟨l,c,by rw[g b rfl rfl];exact a,e.mono h,f⟩
 |frow t k i=>
  cases s with
  |none=>exact q
  |some b=>
   obtain⟨j,l,a,e,f⟩:=q;exact⟨h.sub b j,l,by rw[h.keep b j];exact a,e.mono h.nil,f⟩
 |iter r i=>
  cases s with
  |none=>exact q
  |some b=>exact ItR.keep h (g b rfl rfl) q
 |fmap i=>
  cases s with
  |none=>exact q
  |some b=>
   obtain⟨j,l,c,a,e,f⟩:=q;exact⟨h.sub b j,l,c,by rw[h.keep b j];exact a,e.mono h.nil,f⟩
end Go.Sw
namespace Go.Sw
abbrev Env:=List (Nat×A)
def lk:Env->Nat->A
 |[],_=>.any
 |(d,a)::r,s=>bif Nat.beq s d then a else lk r s
abbrev up(env:Env)(d:Nat)(a:A):Env:=(d,a)::env
inductive AEx where
 |normal|exit (id:Nat)|ret
abbrev QA:=AEx->Env->Qd->Prop
def Qcg(fr:Nat->Prop)(ds:List Deferred)(w:World):Prop:=ds.Nodup/\ ∀d∈ds,∃D,d={target:=.collected D,args:= #[]}/\fr D/\w.heap[D]?=some (.deferred (some []))
theorem Qcg.keep{fr ro ro':Nat->Prop}{b:List Deferred}{w w':World}(h:Qcg fr b w)(k:Qi fr ro w ro' w'):Qcg fr b w':=by
 refine⟨h.1,λd e=>?_⟩;obtain⟨D,f,a,g⟩:=h.2 d e;exact⟨D,f,a,(k.keepFr D a).trans g⟩
structure Grow (fr:Nat->Prop) (w:World) (ds:List Deferred) (fr':Nat->Prop) (ds':List Deferred):Prop where
 sub:∀b,fr b->fr' b
 new:∀b,fr' b->fr b\/w.heap.size<=b
 ds:∀d∈ds',d∈ds\/ ∃D,d={target:=.collected D,args:= #[]}/\w.heap.size<=D
theorem Grow.refl(fr:Nat->Prop)(w:World)(ds:List Deferred):Grow fr w ds fr ds:=⟨λ_ h=>h,λ_ h=>.inl h,λ_ h=>.inl h⟩
theorem Grow.trans{fr g f:Nat->Prop}{w w1:World}{ds a e:List Deferred}(h:Grow fr w ds g a)(i:w.heap.size<=w1.heap.size)(k:Grow g w1 a f e):Grow fr w ds f e:=by
 refine⟨λb q=>k.sub b (h.sub b q),λb q=>?_,λd q=>?_⟩
 .rcases k.new b q with q|q
  .exact h.new b q
  omega
 .rcases k.ds d q with q|⟨D,j,l⟩
  .exact h.ds d q
  grind
theorem Qi.frMono{fr fr' ro ro':Nat->Prop}{w w':World}(h:Qi fr' ro w ro' w')(s:∀b,fr b->fr' b):Qi fr ro w ro' w':=
 ⟨h.sub,h.keepRo,λb q=>h.keepFr b (s b q),h.size,h.shape,h.os,h.tape,h.output,h.drawn⟩
theorem Sim.frMono{fr fr' ro:Nat->Prop}{σ:Sig}{H:Qd}{w:World}(h:Sim fr' ro σ H w)(s:∀b,fr b->fr' b):Sim fr ro σ H w:=
 ⟨h.len,h.roOk,λb q=>h.frLt b (s b q),λb q r=>h.roFr b q (s b r),λi b x q1 q2 q3=>let⟨a,b',c⟩:=h.own i b x q1 q2 q3;(by grind),h.inj,h.blk,λi b x c q1 q2 q3=>let k:=h.hid i b x c q1 q2 q3;⟨k.lt,k.ro,λq=>k.fr (s c q),k.ne,k.one⟩⟩
structure Rel (fr ro:Nat->Prop) (σ:Sig) (H:Qd) (env:Env) (N:Nat) (a:Act) (w:World):Prop where
 sim:Sim fr ro σ H w
 env:∀s,VR ro σ w (lk env s) (a.tmps.getD s undef)
 size:a.tmps.size=N
 defers:Qcg fr a.defers w
def Qdw(rd:Option Nat)(fr:Nat->Prop)(w:World):Prop:=∀l,rd=some l->fr l/\ ∃r,w.heap[l]?=some (.loop r)
theorem Qdv{fr:Nat->Prop}{w:World}:Qdw none fr w:=λl e=>by cases e
theorem Qdw.to{rd:Option Nat}{fr fr' ro ro':Nat->Prop}{w w':World}(h:Qdw rd fr w)(k:Qi fr ro w ro' w')(s:∀b,fr b->fr' b):Qdw rd fr' w':=λl e=>by
 obtain⟨h1,r,h2⟩:=h l e;exact⟨s l h1,r,(k.keepFr l h1).trans h2⟩
def ExR:Exit->AEx->Prop
 |.normal,x=>x=.normal
 |.exit id,x=>x=.exit id
 |.ret,x=>x=.ret
 |_,_=>False
def QaO(h0:Nat)(fr ro:Nat->Prop)(σ:Sig)(w:World)(N:Nat)(ds:List Deferred)(Q:QA):Exit->Act->World->Prop:=
 λe a' w'=>∃x env' H' ro' σ' fr',ExR e x/\Q x env' H'/\Rel fr' ro' σ' H' env' N a' w'/\Qi fr ro w ro' w'/\σ'.take h0=σ.take h0/\Grow fr w ds fr' a'.defers
theorem QaO.grow{g:Nat}{fr f ro d:Nat->Prop}{σ σ1:Sig}{w w1:World}{N:Nat}{k a:List Deferred}{Q:QA}{e:Exit}{a':Act}{w':World}
  (h:QaO g f d σ1 w1 N a Q e a' w')(he:Qi fr ro w d w1)(r:σ1.take g=σ.take g)(hg:Grow fr w k f a):QaO g fr ro σ w N k Q e a' w':=by
 obtain⟨x,b,H',i,σ',j,m,l,n,p,q,s⟩:=h;exact⟨x,b,H',i,σ',j,m,l,n,he.trans (p.frMono hg.sub),q.trans r,hg.trans he.size s⟩
theorem QaO.step{h0:Nat}{fr ro ro1:Nat->Prop}{σ σ1:Sig}{w w1:World}{N:Nat}{ds:List Deferred}{Q:QA}{e:Exit}{a':Act}{w':World}
  (h:QaO h0 fr ro1 σ1 w1 N ds Q e a' w')(he:Qi fr ro w ro1 w1)(hs:σ1.take h0=σ.take h0):QaO h0 fr ro σ w N ds Q e a' w':=h.grow he hs (Grow.refl _ _ _)
theorem QaO.mono{g:Nat}{fr ro:Nat->Prop}{σ:Sig}{w:World}{N:Nat}{f:List Deferred}{Q Q':QA}{e:Exit}{a':Act}{w':World}
  (h:QaO g fr ro σ w N f Q e a' w')(i:∀x env H,Q x env H->Q' x env H):QaO g fr ro σ w N f Q' e a' w':=by
 obtain⟨x,a,H',b,σ',d,k,j,l⟩:=h;exact⟨x,a,H',b,σ',d,k,i _ _ _ j,l⟩
def Qbz(h0:Nat)(fr ro:Nat->Prop)(σ:Sig)(w:World)(N:Nat)(ds:List Deferred)(Q:QA):Exit->Act->World->Prop:=
 λe a' w'=>∃x env' H' ro' σ' fr',ExR e x/\Q x env' H'/\Rel fr' ro' σ' H' env' N a' w'/\Qi fr ro w ro' w'/\σ'.take h0=σ.take h0/\a'.defers=ds/\Grow fr w ds fr' ds
theorem Qbz.grow{g:Nat}{fr d ro b:Nat->Prop}{σ σ1:Sig}{w w1:World}{N:Nat}{f:List Deferred}{Q:QA}{e:Exit}{a':Act}{w':World}
  (h:Qbz g d b σ1 w1 N f Q e a' w')(he:Qi fr ro w b w1)(q:σ1.take g=σ.take g)(hg:Grow fr w f d f):Qbz g fr ro σ w N f Q e a' w':=by
 obtain⟨x,a,H',i,σ',j,l,k,m,n,p,r,s⟩:=h;exact⟨x,a,H',i,σ',j,l,k,m,he.trans (n.frMono hg.sub),p.trans q,r,hg.trans he.size s⟩
theorem Qbz.step{h0:Nat}{fr ro ro1:Nat->Prop}{σ σ1:Sig}{w w1:World}{N:Nat}{ds:List Deferred}{Q:QA}{e:Exit}{a':Act}{w':World}
  (h:Qbz h0 fr ro1 σ1 w1 N ds Q e a' w')(he:Qi fr ro w ro1 w1)(hs:σ1.take h0=σ.take h0):Qbz h0 fr ro σ w N ds Q e a' w':=h.grow he hs (Grow.refl _ _ _)
theorem Qbz.mono{g:Nat}{fr ro:Nat->Prop}{σ:Sig}{w:World}{N:Nat}{f:List Deferred}{Q Q':QA}{e:Exit}{a':Act}{w':World}
  (h:Qbz g fr ro σ w N f Q e a' w')(i:∀x env H,Q x env H->Q' x env H):Qbz g fr ro σ w N f Q' e a' w':=by
 obtain⟨x,a,H',b,σ',d,k,j,l⟩:=h;exact⟨x,a,H',b,σ',d,k,i _ _ _ j,l⟩
theorem Qbz.postW{g:Nat}{fr ro:Nat->Prop}{σ:Sig}{w:World}{N:Nat}{f:List Deferred}{Q:QA}{e:Exit}{a':Act}{w':World}
  (h:Qbz g fr ro σ w N f Q e a' w'):QaO g fr ro σ w N f Q e a' w':=by
 obtain⟨x,a,H',b,σ',d,j,i,k,l,m,n,p⟩:=h;exact⟨x,a,H',b,σ',d,j,i,k,l,m,by grind⟩
def WF(rd:Option Nat):Fence:={Fence.wide with round:=rd}
theorem WF.calls{rd:Option Nat}{P:Program}{f:FuncId}{args:Array Value}{w:World}{R:Ending->World->Prop}:CallsIn (WF rd) 0 P f args w R↔Calls P f args w R:=callsIn_wide
abbrev wpL(P:Program)(rd:Option Nat)(ops:Array Oper)(Q:Exit->Act->World->Prop):List Oper->Act->World->Prop:=wpListIn (WF rd) 0 P ops Q
def TC(P:Program)(h0 N:Nat)(c:Code)(env:Env)(H:Qd)(Q:QA):Prop:=
 ∀rd fr ro σ a w,Rel fr ro σ H env N a w->Qdw rd fr w->c.wpIn (WF rd) 0 P (QaO h0 fr ro σ w N a.defers Q) a w
def WO(P:Program)(h0 N:Nat)(all:Array Oper)(l:List Oper)(env:Env)(H:Qd)(Q:QA):Prop:=
 ∀rd fr ro σ a w,Rel fr ro σ H env N a w->Qdw rd fr w->wpL P rd all (Qbz h0 fr ro σ w N a.defers Q) l a w
def Le(h0:Nat)(env:Env)(H:Qd)(env':Env)(H':Qd):Prop:=
 ∀fr ro σ N a w,Rel fr ro σ H env N a w->∃ro' σ',Rel fr ro' σ' H' env' N a w/\(∀b,ro b->ro' b)/\σ'.take h0=σ.take h0
theorem Le.refl(h0:Nat)(env:Env)(H:Qd):Le h0 env H env H:=λfr ro σ N a w h=>(by grind)
theorem Le.trans{b:Nat}{g i e:Env}{H1 H2 H3:Qd}(h:Le b g H1 i H2)(k:Le b i H2 e H3):Le b g H1 e H3:=by
 intro f m σ N a w r;obtain⟨d,σ1,l,n,p⟩:=h f m σ N a w r;obtain⟨j,σ2,s,t,q⟩:=k f d σ1 N a w l
 grind
theorem YB{fr ro ro':Nat->Prop}{w:World}(h:∀b,ro b->ro' b):Qi fr ro w ro' w:=
 ⟨h,λ_ _=>rfl,λ_ _=>rfl,XT _,λ_ _ h=>h,rfl,rfl,rfl,XT _⟩
theorem Yo{P:Program}{rd:Option Nat}{ops:Array Oper}{Q Q':Exit->Act->World->Prop}(hq:∀e a w,Q e a w->Q' e a w):
  ∀(l:List Oper) (a:Act) (w:World),wpL P rd ops Q l a w->wpL P rd ops Q' l a w
 |[],a,w,h=>hq _ _ _ h
 |o::l,a,w,h=>by
  unfold wpL wpListIn at h⊢;split
  .rename_i hw;rw[Vt hw]at h;obtain⟨h1,h2⟩:=h;refine⟨h1,?_⟩
   revert h2
   generalize(o.semAt (WF rd).round a.eval).run P w=r;intro h2;have hk:=λa w=>Yo (P:=P) (rd:=rd) (ops:=ops) hq l a w;cases r with
   |ok x w=>
    cases x with
    |value v=>exact hk _ _ h2
    |skip=>exact hk _ _ h2
    |defer d=>exact hk _ _ h2
    |enter f args=>
     refine⟨h2.1,CallsIn.mono h2.2 ?_⟩;intro e w' q;cases e with
     |returned v=>grind
     |panicked c=>grind
     |outgrown=>obtain⟨a,w,q⟩:=q;exact⟨a,w,hq _ _ _ q⟩
    |row r args=>exact⟨h2.1,RowsIn.mono h2.2 λv w' q=>hk _ _ q⟩
    |round l f tmps assign body=>
     refine⟨h2.1,RoundIn.mono h2.2 ?_⟩;intro e w' q;cases e with
     |returned v=>grind
     |panicked c=>grind
     |outgrown=>obtain⟨a,w,q⟩:=q;exact⟨a,w,hq _ _ _ q⟩
    |_=>exact h2
   |halt x w=>
    cases x with
    |panic v=>exact hq _ _ _ h2
    |_=>exact h2
  .rename_i hw;rw[Vs hw]at h;exact⟨h.1,Yo hq l _ _ h.2⟩
theorem QcA{P:Program}{o:Oper}{a:Act}{w w':World}{x:Next}{rd:Option Nat}(h:(execOp a.eval o).run P w=.ok x w')(b:∀d,x≠ .defer d):(o.semAt (WF rd).round a.eval).run P w=.ok x w':=by
 cases e:o.op with
 |defer c=>
  exfalso;have:execOp a.eval o=(do pure (.defer (<- resolve a.eval c o.type))):=by simp[execOp,e]
  rw[this]at h;simp only[Vm]at h;generalize(resolve a.eval c o.type).run P w=r at h;cases r with
  |ok d w2=>simp[Result.andThen,go_sem]at h;grind
  |halt x w2=>simp_all
 |_=>grind[Oper.semAt_eq]
theorem Qac{P:Program}{rd:Option Nat}{ops:Array Oper}{Q:Exit->Act->World->Prop}{o:Oper}{l:List Oper}{a:Act}{w w':World}{v:Value}(b:Region.wanted o (yielded ops a.tmps)=true)
  (h:(execOp a.eval o).run P w=.ok (.value v) w')(k:wpL P rd ops Q l (a.put o.dst v) w'):wpL P rd ops Q (o::l) a w:=by
 unfold wpL wpListIn;rw[Vt b];exact⟨λ_ _=>trivial,by rw[QcA h (λd e=>by cases e)];exact k⟩
theorem Qk6{P:Program}{rd:Option Nat}{ops:Array Oper}{Q:Exit->Act->World->Prop}{o:Oper}{l:List Oper}{a:Act}{w w':World}(b:Region.wanted o (yielded ops a.tmps)=true)
  (h:(execOp a.eval o).run P w=.ok .skip w')(k:wpL P rd ops Q l (a.put o.dst undef) w'):wpL P rd ops Q (o::l) a w:=by
 unfold wpL wpListIn;rw[Vt b];exact⟨λ_ _=>trivial,by rw[QcA h (λd e=>by cases e)];exact k⟩
theorem QfJ{P:Program}{rd:Option Nat}{ops:Array Oper}{Q:Exit->Act->World->Prop}{o:Oper}{l:List Oper}{a:Act}{w w':World}{f:FuncId}{args:Array Value}(b:Region.wanted o (yielded ops a.tmps)=true)
  (h:(execOp a.eval o).run P w=.ok (.enter f args) w')(k:Calls P f args w' λe w''=>∃v,e=.returned v/\wpL P rd ops Q l (a.put o.dst v) w''):wpL P rd ops Q (o::l) a w:=by
 unfold wpL wpListIn;rw[Vt b];refine⟨λ_ _=>trivial,?_⟩;rw[QcA h (λd e=>by cases e)];refine⟨λh=>by simp[WF,Fence.wide]at h,WF.calls.2 (Calls.mono k ?_)⟩
 grind
section
variable {P:Program} {h0 N:Nat} {env env':Env} {H H':Qd} {Q Q':QA} {c c':Code}
theorem TC.mono(h:TC P h0 N c env H Q)(hq:∀x env H,Q x env H->Q' x env H):TC P h0 N c env H Q':=
 λrd fr ro σ a w r hrd=>Code.wpIn_mono (λe a w q=>q.mono hq) (h rd fr ro σ a w r hrd)
theorem Qg(d:Le h0 env H env' H')(h:TC P h0 N c env' H' Q):TC P h0 N c env H Q:=by
 intro i f g σ a w r hrd;obtain⟨b,σ',j,s,t⟩:=d f g σ N a w r;exact Code.wpIn_mono (λe a w q=>q.step (YB s) t) (h i f b σ' a w j hrd)
theorem Qy{all:Array Oper}{l:List Oper}(d:Le h0 env H env' H')(h:WO P h0 N all l env' H' Q):WO P h0 N all l env H Q:=by
 intro i f g σ a w r hrd;obtain⟨b,σ',j,s,t⟩:=d f g σ N a w r;exact Yo (λe a w q=>q.step (YB s) t) _ _ _ (h i f b σ' a w j hrd)
theorem WO.mono{all:Array Oper}{l:List Oper}(h:WO P h0 N all l env H Q)(hq:∀x env H,Q x env H->Q' x env H):WO P h0 N all l env H Q':=
 λrd fr ro σ a w r hrd=>Yo (λe a w q=>q.mono hq) _ _ _ (h rd fr ro σ a w r hrd)
def Seq(P:Program)(h0 N:Nat)(c:Code)(Q:QA):QA
 |.normal,env,H=>TC P h0 N c env H Q
 |.exit id,env,H=>Q (.exit id) env H
 |.ret,env,H=>Q .ret env H
def Blo(id:Nat)(Q:QA):QA
 |.normal,env,H=>Q .normal env H
 |.exit id',env,H=>bif Nat.beq id' id then Q .normal env H else Q (.exit id') env H
 |.ret,env,H=>Q .ret env H
theorem TC.seq(h:TC P h0 N c env H (Seq P h0 N c' Q)):TC P h0 N (.seq c c') env H Q:=by
 intro n t u σ a w r hrd;refine wpIn_seq (Code.wpIn_mono ?_ (h n t u σ a w r hrd));rintro e s p ⟨x,b,H',d,σ',f,g,k,l,i,m,j⟩;cases e with
 |normal=>
  obtain rfl:x=.normal:=g;exact Code.wpIn_mono (λe a w q=>q.grow i m j) (k n f d σ' s p l (hrd.to i j.sub))
 |exit id=>
  obtain rfl:x=.exit id:=g;exact⟨_,b,H',d,σ',f,rfl,k,l,i,m,j⟩
 |ret=>
  obtain rfl:x=.ret:=g;exact⟨_,b,H',d,σ',f,rfl,k,l,i,m,j⟩
 |_=>exact g.elim
theorem TC.skip(h:Q .normal env H):TC P h0 N .skip env H Q:=
 λrd fr ro σ a w r hrd=>wpIn_skip ⟨_,env,H,ro,σ,fr,rfl,h,r,Qi.refl _ _ _,rfl,Grow.refl _ _ _⟩
theorem TC.ret(h:Q .ret env H):TC P h0 N .ret env H Q:=
 λrd fr ro σ a w r hrd=>wpIn_ret ⟨_,env,H,ro,σ,fr,rfl,h,r,Qi.refl _ _ _,rfl,Grow.refl _ _ _⟩
theorem TC.exit{id:Nat}(h:Q (.exit id) env H):TC P h0 N (.exit id) env H Q:=
 λrd fr ro σ a w r hrd=>wpIn_exit ⟨_,env,H,ro,σ,fr,rfl,h,r,Qi.refl _ _ _,rfl,Grow.refl _ _ _⟩
theorem TC.block{id:Nat}(h:TC P h0 N c env H (Blo id Q)):TC P h0 N (.block id c) env H Q:=by
 intro q p s σ a w r hrd;refine wpIn_block (Code.wpIn_mono ?_ (h q p s σ a w r hrd));rintro e u t ⟨x,b,H',d,σ',f,j,g,k,l,m,n⟩;cases e with
 |normal=>
  obtain rfl:x=.normal:=j;exact⟨_,b,H',d,σ',f,rfl,g,k,l,m,n⟩
 |exit i=>
  obtain rfl:x=.exit i:=j;simp only[Exit.inBlock];simp only[Blo]at g;by_cases e:i=id
  .subst e;rw[Vt rfl];rw[VF]at g;exact⟨_,b,H',d,σ',f,rfl,g,k,l,m,n⟩
  .rw[Vs e];have:Nat.beq i id=false:=by
    simp_all[VM]
   rw[this]at g;exact⟨_,b,H',d,σ',f,rfl,g,k,l,m,n⟩
 |ret=>
  obtain rfl:x=.ret:=j;exact⟨_,b,H',d,σ',f,rfl,g,k,l,m,n⟩
 |_=>exact j.elim
def opA(env:Env):Operand->A
 |.tmp t=>lk env t
 |.const (.bool b)=>.bool b
 |.const (.int k n)=>.int k n
 |.const (.string s)=>.str s.data.toList
 |.const (.pointer none)=>.nilp
 |.const (.slice none 0 0)=>.nils
 |.const (.map none)=>.nilm
 |.const .nilFunc=>.nilf
 |.const .nilIface=>.nilif
 |.func f=>.fn (.func f) [] []
 |_=>.any
theorem Qk{fr ro:Nat->Prop}{σ:Sig}{a:Act}{w:World}(r:Rel fr ro σ H env N a w)(x:Operand):VR ro σ w (opA env x) (a.eval x):=by
 cases x with
 |tmp t=>exact r.env t
 |const v=>
  cases v with
  |slice a n k=>
   cases a with
   |none=>
    cases n with
    |zero=>cases k with
     |zero=>rfl
     |succ k=>trivial
    |succ n=>trivial
   |some a=>trivial
  |pointer p=>cases p with
   |none=>rfl
   |some p=>trivial
  |map p=>cases p with
   |none=>rfl
   |some p=>trivial
  |string s=>rfl
  |_=>simp_all[opA,VR,Act.eval]
 |global g=>trivial
 |func f=>exact⟨[],[],rfl,rfl,rfl⟩
theorem TC.cond{x:Operand}{t:Bool}(j:opA env x=.bool t)(i:t=true->TC P h0 N c env H Q)(h:t=false->TC P h0 N c' env H Q):
  TC P h0 N (.cond x c c') env H Q:=by
 intro d b g σ a w r hrd;have f:=Qk r x;rw[j]at f;exact wpIn_cond_split f (λe=>i e d b g σ a w r hrd) (λe=>h e d b g σ a w r hrd)
theorem QlX{t:Array Value}{d s:Nat}{v:Value}(a:d<t.size):(t.setIfInBounds d v).getD s undef=if s=d then v else t.getD s undef:=by
 simp only[Array.getD_eq_getD_getElem?,Ve]
 grind
theorem VR.up{fr ro:Nat->Prop}{σ:Sig}{a:Act}{w:World}(r:∀s,VR ro σ w (lk env s) (a.tmps.getD s undef)){d:Nat}(b:d<a.tmps.size){x:A}{v:Value}(f:VR ro σ w x v):
  ∀s,VR ro σ w (lk (up env d x) s) ((a.tmps.setIfInBounds d v).getD s undef):=by
 intro s;rw[QlX b];simp only[up,lk];by_cases e:s=d
 .simp_all
 .have:Nat.beq s d=false:=by
   simp_all[VM]
  grind
def Qs(all:Array Oper)(o:Oper)(env:Env)(b:Bool):Prop:=
 match o.guard with
 |none=>b=true
 |some (j,c)=>∃d,(all[j]?).bind (·.dst)=some d/\((∃x,lk env d=.bool x/\b=(x==c))\/(lk env d=.tup []/\b=false))
theorem YZ{all:Array Oper}{o:Oper}{b:Bool}(h:Qs all o env b){fr ro:Nat->Prop}{σ:Sig}{a:Act}{w:World}(r:Rel fr ro σ H env N a w):
  Region.wanted o (yielded all a.tmps)=b:=by
 unfold Qs at h;unfold Region.wanted;cases m:o.guard with
 |none=>grind
 |some g=>
  obtain⟨j,c⟩:=g;rw[m]at h;obtain⟨d,k,⟨x,f,i⟩|⟨f,i⟩⟩:=h
  .have e:=r.env d;rw[f]at e;simp only[VR]at e;have n:a.tmps[d]?=some (.bool x):=by
    rw[Array.getD_eq_getD_getElem?]at e
    grind[undef]
   simp_all[yielded]
  .have e:=r.env d;rw[f]at e;obtain⟨l,e,p⟩:=e;rw[Array.getD_eq_getD_getElem?]at e;subst i;simp only[yielded,k,XJ]
   grind
def OpV(P:Program)(o:Oper)(env:Env)(H:Qd)(x:A):Prop:=
 ∀fr ro σ N a w,Rel fr ro σ H env N a w->∃v,(execOp a.eval o).run P w=.ok (.value v) w/\VR ro σ w x v
def OpH(P:Program)(o:Oper)(env:Env)(H:Qd)(x:A)(H':Qd):Prop:=
 ∀fr ro σ N a w,Rel fr ro σ H env N a w->∃v w' ro' τ,(execOp a.eval o).run P w=.ok (.value v) w'/\VR ro' (σ++τ) w' x v/\
  Sim fr ro' (σ++τ) H' w'/\Qi fr ro w ro' w'
def OpU(P:Program)(o:Oper)(env:Env)(H:Qd)(H':Qd):Prop:=
 ∀fr ro σ N a w,Rel fr ro σ H env N a w->∃w' ro' τ,(execOp a.eval o).run P w=.ok .skip w'/\
  Sim fr ro' (σ++τ) H' w'/\Qi fr ro w ro' w'
theorem WO.nil{all:Array Oper}(h:Q .normal env H):WO P h0 N all [] env H Q:=
 λrd fr ro σ a w r hrd=>⟨_,env,H,ro,σ,fr,rfl,h,r,Qi.refl _ _ _,rfl,rfl,Grow.refl _ _ _⟩
theorem QC{σ τ:Sig}{a:Nat}(h:a<=σ.length):(σ++τ).take a=σ.take a:=by
 grind
theorem Qg3{all:Array Oper}{o:Oper}{l:List Oper}{d:Nat}{x:A}(t:h0<=H.length)(hg:Qs all o env true)(u:o.dst=some d)(B:Nat.blt d N=true)
  (g:OpH P o env H x H')(k:WO P h0 N all l (up env d x) H' Q):WO P h0 N all (o::l) env H Q:=by
 intro y fr p σ a w r hrd;obtain⟨v,i,b,τ,m,j,n,f⟩:=g fr p σ N a w r;refine Qac (YZ hg r) m ?_;simp only[u,Act.put];have h:d<N:=by simp_all
 have z:Rel fr b (σ++τ) H' (up env d x) N {a with tmps:=a.tmps.setIfInBounds d v} i:=
  ⟨n,VR.up (fr:=fr) (λs=>(r.env s).mono (f.ext σ τ)) (by rw[r.size];exact h) j,by simpa using r.size,r.defers.keep f⟩
 refine Yo (λe a w q=>q.step f (QC ?_)) _ _ _ (k y fr b (σ++τ) _ i z (hrd.to f λ_ q=>q));rw[r.sim.len];exact t
theorem Yv{all:Array Oper}{o:Oper}{l:List Oper}{d:Nat}{x:A}(hg:Qs all o env true)(i:o.dst=some d)(m:Nat.blt d N=true)
  (b:OpV P o env H x)(k:WO P h0 N all l (up env d x) H Q):WO P h0 N all (o::l) env H Q:=by
 intro j fr f σ a w r hrd;obtain⟨v,h,g⟩:=b fr f σ N a w r;refine Qac (YZ hg r) h ?_;simp only[i,Act.put];have e:d<N:=by simp_all
 exact k j fr f σ {a with tmps:=a.tmps.setIfInBounds d v} w ⟨r.sim,VR.up (fr:=fr) r.env (by rw[r.size];exact e) g,by simpa using r.size,r.defers⟩ hrd
theorem Qmz{all:Array Oper}{o:Oper}{l:List Oper}(n:h0<=H.length)(hg:Qs all o env true)(p:o.dst=none)
  (g:OpU P o env H H')(k:WO P h0 N all l env H' Q):WO P h0 N all (o::l) env H Q:=by
 intro t f j σ a w r hrd;obtain⟨h,b,τ,i,m,d⟩:=g f j σ N a w r;refine Qk6 (YZ hg r) i ?_;simp only[p,Act.put];have u:Rel f b (σ++τ) H' env N a h:=⟨m,λs=>(r.env s).mono (d.ext σ τ),r.size,r.defers.keep d⟩;refine Yo (λe a w q=>q.step d (QC ?_)) _ _ _ (k t f b (σ++τ) _ h u (hrd.to d λ_ q=>q));rw[r.sim.len];exact n
theorem Qpb{all:Array Oper}{o:Oper}{l:List Oper}{x:A}(n:h0<=H.length)(hg:Qs all o env true)(p:o.dst=none)
  (g:OpH P o env H x H')(k:WO P h0 N all l env H' Q):WO P h0 N all (o::l) env H Q:=by
 intro t f m σ a w r hrd;obtain⟨v,h,b,τ,i,y,j,d⟩:=g f m σ N a w r;refine Qac (YZ hg r) i ?_;simp only[p,Act.put];have u:Rel f b (σ++τ) H' env N a h:=⟨j,λs=>(r.env s).mono (d.ext σ τ),r.size,r.defers.keep d⟩;refine Yo (λe a w q=>q.step d (QC ?_)) _ _ _ (k t f b (σ++τ) _ h u (hrd.to d λ_ q=>q));rw[r.sim.len];exact n
theorem WO.skip{all:Array Oper}{o:Oper}{l:List Oper}{d:Nat}(hg:Qs all o env false)(e:o.dst=some d)(h:Nat.blt d N=true)
  (k:WO P h0 N all l (up env d (.tup [])) H Q):WO P h0 N all (o::l) env H Q:=by
 intro f fr g σ a w r hrd;unfold wpL wpListIn;rw[YZ hg r,Vs (by simp)];refine⟨λ_ _=>trivial,?_⟩;simp only[e,Act.put];have b:d<N:=by simp_all
 exact k f fr g σ {a with tmps:=a.tmps.setIfInBounds d undef} w ⟨r.sim,VR.up (fr:=fr) r.env (by rw[r.size];exact b) ⟨[],rfl,rfl⟩,by simpa using r.size,r.defers⟩ hrd
theorem TC.region{id:Nat}{l:List Oper}(h:WO P h0 N l.toArray l env H Q):TC P h0 N (.region id l.toArray false) env H Q:=
 λrd fr ro σ a w r hrd=>Code.wpIn_mono (λe a w q=>q.postW) (wpIn_region_lit (h rd fr ro σ a w r hrd))
end
end Go.Sw
namespace Go.Sw
mutual
def Yu(ρ:Nat->Nat):A->A
 |.ptr i off=>.ptr (ρ i) off
 |.osl i o n k=>.osl (ρ i) o n k
 |.agg cs=>.agg (Qaa ρ cs)
 |.fn f a c=>.fn f (Qaa ρ a) (Qaa ρ c)
 |.iface t v=>.iface t (Yu ρ v)
 |.map i=>.map (ρ i)
 |.tup vs=>.tup (Qaa ρ vs)
 |a=>a
def Qaa(ρ:Nat->Nat):List A->List A
 |[]=>[]
 |a::r=>Yu ρ a::Qaa ρ r
end
def Qfz(ρ:Nat->Nat):List (List A)->List (List A)
 |[]=>[]
 |a::r=>Qaa ρ a::Qfz ρ r
def Qj7(ρ:Nat->Nat):List (A×A)->List (A×A)
 |[]=>[]
 |a::r=>(Yu ρ a.1,Yu ρ a.2)::Qj7 ρ r
def QO(ρ:Nat->Nat):Blk->Blk
 |.cells t cs=>.cells t (Qaa ρ cs)
 |.rowr t k es=>.rowr t k (Qfz ρ es)
 |.ents t b1 b2 es=>.ents t (ρ b1) (ρ b2) es
 |.wins t b n c=>.wins t (ρ b) n c
 |.mapP es=>.mapP (Qj7 ρ es)
 |b=>b
theorem QfR(ρ:Nat->Nat)(b1 b2:Nat):∀(es:List Ent),Qfz ρ (es.map (eC b1 b2))=es.map (eC (ρ b1) (ρ b2))
 |[]=>rfl
 |e::es=>by
  have:=QfR ρ b1 b2 es;simp only[Vj,Qfz,this];congr 1;cases h:e.fl<;>simp[eC,Qaa,Yu,h]
theorem Qj8(ρ:Nat->Nat)(b n c:Nat):Qfz ρ (Qd3 b n c)=Qd3 (ρ b) n c:=by
 unfold Qd3
 induction List.range c with
 |nil=>rfl
 |cons j l a=>simp only[Vj,Qfz,a];rfl
theorem QG(ρ:Nat->Nat)(x:Blk):(QO ρ x).live=x.live:=by cases x<;>rfl
theorem Qak(ρ:Nat->Nat)(x:Blk)(w:World)(b c:Nat):Hid w (QO ρ x) b c↔Hid w x b c:=by cases x<;>exact Iff.rfl
section
variable {ro:Nat->Prop} {σ σ':Sig} {w:World} {ρ:Nat->Nat} (h:∀i:Nat,σ[ρ i]?=σ'[i]?)
include h
mutual
theorem Qdt:∀{a:A} {v:Value},VR ro σ w (Yu ρ a) v↔VR ro σ' w a v
 |.any,_=>by simp only[Yu,VR]
 |.bool b,v=>by simp only[Yu,VR]
 |.int k n,v=>by simp only[Yu,VR]
 |.str s,v=>by simp only[Yu,VR]
 |.nilp,v=>by simp only[Yu,VR]
 |.ptr i off,v=>by simp only[Yu,VR,h]
 |.rp cs,v=>by simp only[Yu,VR]
 |.nils,v=>by simp only[Yu,VR]
 |.rsl k es,v=>by simp only[Yu,VR]
 |.osl i o n k,v=>by simp only[Yu,VR,h]
 |.agg cs,v=>by simp only[Yu,VR];exact exists_congr λl=>and_congr_right λ_=>Qbw
 |.fn f a c,v=>by simp only[Yu,VR];exact exists_congr λl=>exists_congr λl'=>and_congr_right λ_=>and_congr Qbw Qbw
 |.nilf,v=>by simp only[Yu,VR]
 |.iface t a,v=>by simp only[Yu,VR];exact exists_congr λl=>and_congr_right λ_=>Qdt
 |.nilif,v=>by simp only[Yu,VR]
 |.map i,v=>by simp only[Yu,VR,h]
 |.nilm,v=>by simp only[Yu,VR]
 |.tup vs,v=>by simp only[Yu,VR];exact exists_congr λl=>and_congr_right λ_=>Qbw
theorem Qbw:∀{az:List A} {l:List Value},LR ro σ w (Qaa ρ az) l↔LR ro σ' w az l
 |[],l=>by simp only[Qaa,LR]
 |a::r,l=>by
  simp only[Qaa,LR];exact exists_congr λv=>exists_congr λl'=>and_congr_right λ_=>and_congr Qdt Qbw
end
theorem QdH:∀(cs:List A),(Qaa ρ cs).length=cs.length
 |[]=>rfl
 |a::r=>by simp[Qaa,QdH r]
theorem Qg6{k:Nat}:∀{es:List (List A)} {l:List Value},RL ro σ w k (Qfz ρ es) l↔RL ro σ' w k es l
 |[],l=>by rfl
 |a::r,l=>by
  simp only[Qfz,RL,QdH h];exact exists_congr λl1=>exists_congr λl2=>and_congr_right λ_=>and_congr_right λ_=>and_congr (and_congr_left λ_=>Qbw h) Qg6
theorem Qm3:∀{es:List (A×A)} {l:List MapEntry},ER ro σ w (Qj7 ρ es) l↔ER ro σ' w es l
 |[],l=>by rfl
 |a::r,l=>by
  simp only[Qj7,ER];exact exists_congr λe=>exists_congr λl'=>and_congr_right λ_=>and_congr (Qdt h) (and_congr (Qdt h) Qm3)
theorem Qhj{x:Blk}{s:Option Nat}:BR ro σ w (QO ρ x) s↔BR ro σ' w x s:=by
 cases x with
 |cells t e=>
  cases s with
  |none=>exact Iff.rfl
  |some b=>simp only[QO,BR];exact exists_congr λl=>and_congr_right λ_=>and_congr_left λ_=>Qbw h
 |rowr t k a=>
  cases s with
  |none=>exact Iff.rfl
  |some b=>simp only[QO,BR];exact exists_congr λl=>and_congr_right λ_=>Qg6 h
 |mapP a=>
  cases s with
  |none=>exact Iff.rfl
  |some b=>simp only[QO,BR];exact exists_congr λl=>exists_congr λc=>and_congr_right λ_=>and_congr_left λ_=>Qm3 h
 |wins t b n c=>
  cases s with
  |none=>exact Iff.rfl
  |some d=>
   simp only[QO,BR];refine exists_congr λl=>and_congr_right λ_=>?_;rw[<- Qj8];exact Qg6 h
 |ents t f g a=>
  cases s with
  |none=>exact Iff.rfl
  |some b=>
   simp only[QO,BR];refine exists_congr λl=>and_congr_right λ_=>?_;rw[<- QfR];exact Qg6 h
 |_=>cases s<;>exact Iff.rfl
end
def C(P:Program)(f:FuncId)(args:List A)(H:Qd)(Q:A->Qd->Prop):Prop:=
 ∀fr ro σ vals w,Sim fr ro σ H w->LR ro σ w args vals->Calls P f vals.toArray w λe w'=>
  ∃v r H' ro' τ,e=.returned v/\Q r H'/\Sim fr ro' (σ++τ) H' w'/\VR ro' (σ++τ) w' r v/\Qi fr ro w ro' w'
theorem C.mono{P:Program}{f:FuncId}{args:List A}{H:Qd}{Q Q':A->Qd->Prop}(h:C P f args H Q)(hq:∀r H,Q r H->Q' r H):C P f args H Q':=
 λfr ro σ vals w s l=>(h fr ro σ vals w s l).mono (by grind)
def Qf8:Nat->List A->Env
 |_,[]=>[]
 |i,a::r=>(i,a)::Qf8 (i+1) r
theorem QeO{ro:Nat->Prop}{σ:Sig}{w:World}:∀{args:List A} {vals:List Value} {i:Nat} (pre:List Value),pre.length=i->LR ro σ w args vals->∀rest:Array Value,
  ∀s,VR ro σ w (lk (Qf8 i args) s) (((pre++vals).toArray++rest).getD s undef)
 |[],vals,i,pre,hp,hl,rest,s=>trivial
 |a::r,vals,i,pre,hp,hl,rest,s=>by
  simp only[LR]at hl;obtain⟨v,l',rfl,h1,h2⟩:=hl;simp only[Qf8,lk];by_cases e:s=i
  .simp_all[Array.getElem?_append]
  .have:Nat.beq s i=false:=by
    simp_all[VM]
   rw[this];have:=QeO (i:=i+1) (pre++[v]) (by simp[hp]) h2 rest s
   grind
def Qce(P:Program)(fn:Func)(env:Env)(H:Qd)(r:A):Prop:=
 ∀fr ro σ N a w,Rel fr ro σ H env N a w->∃v,(results fn a.tmps).run P w=.ok v w/\VR ro σ w r v
def QcW(P:Program)(h0:Nat)(fn:Func)(Q:A->Qd->Prop):QA
 |.normal,env,H=>∃env' H' r,Le h0 env H env' H'/\Qce P fn env' H' r/\Q r H'
 |.ret,env,H=>∃env' H' r,Le h0 env H env' H'/\Qce P fn env' H' r/\Q r H'
 |.exit _,_,_=>False
theorem LR.length{ro:Nat->Prop}{σ:Sig}{w:World}:∀{az:List A} {l:List Value},LR ro σ w az l->l.length=az.length
 |[],l,h=>by simp only[LR]at h;simp[h]
 |a::r,l,h=>by
  simp only[LR]at h;obtain⟨v,l',rfl,_,h2⟩:=h;simp[h2.length]
theorem Sim.turn{fr ro:Nat->Prop}{σ:Sig}{H:Qd}{w:World}(s:Sim fr ro σ H w){b:Nat}{obj:Obj}(m:¬ro b)(r:¬fr b)(F:∀(i:Nat) (x:Blk),σ[i]?=some (some b)->H[i]?=some x->x.live=true->False)
  (l:∀(i d:Nat) (x:Blk),σ[i]?=some (some d)->H[i]?=some x->Hid w x d b->False)
  (t:∀y,w.shape? b=some y->(w.putObj b obj).shape? b=some y):Sim fr ro σ H (w.putObj b obj)/\Qi fr ro w ro (w.putObj b obj):=by
 have n:∀c,c≠b->(w.putObj b obj).heap[c]?=w.heap[c]? :=λc p=>World.putObj_heap_other p;have a:(w.putObj b obj).heap.size=w.heap.size:=by simp
 have ev:Qi fr ro w ro (w.putObj b obj):=by
  refine⟨λ_ q=>q,(by grind),(by grind),by omega,λc x q=>?_,rfl,rfl,rfl,XT _⟩
  grind[World.shape?]
 have e:Ext ro σ w ro σ (w.putObj b obj):=by have:=ev.ext σ [];grind
 refine⟨⟨s.len,s.roOk.to (λ_ q=>q) ev.keepRo (λc q=>by rw[a];exact s.roLt c q),λc q=>by rw[a];exact s.frLt c q,s.roFr,λi c x f g u=>?_,s.inj,λi y x f g=>?_,
  s.hidTo (· = ·) Q3 (by omega) (by simp) (by simp) λj d y k h G=>.inl ⟨j,y,rfl,k,h,id,λc q=>s.hidKeep k h (by grind) ev.keepRo q⟩⟩,ev⟩
 .obtain⟨z,B,E⟩:=s.own i c x f g u
  grind
 .refine(s.blk i y x f g).keep e ?_ ?_
  .grind
  grind
theorem Qbn{P:Program}{fn:Func}{tmps:Array Value}{R:Ending->World->Prop}{fr ro:Nat->Prop}{σ:Sig}{H:Qd}:
  ∀(ds:List Deferred) (w:World),ds.Nodup->(∀d∈ds,∃D,d={target:=.collected D,args:= #[]}/\ ¬ro D/\ ¬fr D/\(∀(i:Nat) (x:Blk),σ[i]?=some (some D)->H[i]?=some x->x.live=true->False)/\(∀(i d:Nat) (x:Blk),σ[i]?=some (some d)->H[i]?=some x->Hid w x d D->False)/\w.heap[D]?=some (.deferred (some [])))->
  Sim fr ro σ H w->(∀w',Sim fr ro σ H w'->Qi fr ro w ro w'->∃v,(results fn tmps).run P w'=.ok v w'/\R (.returned v) w')->LeavesInM Fence.wide 0 P fn tmps R ds .returning w
 |[],w,_,_,s,hk=>by
  obtain⟨v,h1,h2⟩:=hk w s (Qi.refl _ _ _);exact⟨v,h1,h2⟩
 |d::ds,w,hn,hd,s,hk=>by
  obtain⟨D,rfl,h1,h2,h3,h5,h4⟩:=hd d (by simp);obtain⟨n1,n2⟩:=List.nodup_cons.1 hn;obtain⟨s',ev⟩:=s.turn (obj:=.deferred none) h1 h2 h3 h5 (λy q=>by grind[World.shape?]);refine⟨(by simp),.inl ⟨D,_,rfl,run_takeDeferred h4,?_⟩⟩;refine Qbn ds _ n2 (λd' q=>?_) s' (λw' q1 q2=>hk w' q1 (ev.trans q2));obtain⟨D',rfl,g1,g2,g3,g5,g4⟩:=hd d' (by simp[q]);refine⟨D',rfl,g1,g2,g3,λi d x z1 z2 z3=>g5 i d x z1 z2 (s.hidKeep z1 z2 (λz=>World.putObj_heap_other (by grind)) (λb q=>World.putObj_heap_other (λe:b=D=>h1 (e▸q))) z3),(World.putObj_heap_other (λe=>?_)).trans g4⟩
  grind
theorem Qc{P:Program}{f:FuncId}{fn:Func}{c:Code}{N:Nat}{args:List A}{H:Qd}{Q:A->Qd->Prop}
  (hf:P.funcs[f]?=some fn)(hb:fn.body=some c)(hN:fn.ntmps=N)(hA:Nat.ble args.length N=true)
  (h:TC P H.length N c (Qf8 0 args) H (QcW P H.length fn Q)):C P f args H Q:=by
 intro fr ro σ vals w hs hl;have R:=hl.length;have aa:args.length<=N:=by simp_all
 refine(callsIn_wide (n:=0)).1 (callsIn_of_wp_marks hf hb trivial (Code.wpIn_mono ?_ (h none fr ro σ _ w ⟨hs,?_,?_,List.nodup_nil,λd k=>by cases k⟩ Qdv)))
 .rintro e m j ⟨x,u,H1,J,σ1,O,y,E,h3,h4,h5,V⟩;have t:(∃g H' r,Le H.length u H1 g H'/\Qce P fn g H' r/\Q r H')->LeavesInM Fence.wide 0 P fn m.tmps (λe j=>
    ∃v' r H' a τ,e=.returned v'/\Q r H'/\Sim fr a (σ++τ) H' j/\VR a (σ++τ) j r v'/\Qi fr ro w a j) m.defers .returning j:=by
   rintro⟨g,H',r,G,Y,hq⟩;obtain⟨a,σ',b,l,ht⟩:=G O J σ1 N m j h3;have hσ:σ'=σ++σ'.drop H.length:=by
    have T:σ'.take H.length=σ:=by rw[ht,h5,VI (by rw[hs.len];omega)]
    grind[List.take_append_drop]
   have s1:Sim fr a σ' H' j:=b.sim.frMono V.sub;refine Qbn (ro:=a) (fr:=fr) (σ:=σ') (H:=H') m.defers j b.defers.1 (λd k=>?_) s1 (λw2 W p=>?_)
   .obtain⟨D,rfl,z,g2⟩:=b.defers.2 d k;refine⟨D,rfl,λq=>b.sim.roFr D q z,λq=>?_,λi x F L B=>(b.sim.own i D x F L B).2.2 z,λi d x F L B=>(b.sim.hid i d x D F L B).fr z,g2⟩;rcases V.ds _ k with X|⟨D',e,X⟩
    .cases X
    .have:D=D':=by simpa using e
     subst this;have:=hs.frLt D q;omega
   .have M:Rel fr a σ' H' g N {m with defers:=[]} w2:=⟨W,λs=>(b.env s).mono (by have:=p.ext σ' [];grind),b.size,List.nodup_nil,λd k=>by cases k⟩;obtain⟨v,T,e2⟩:=Y fr a σ' N _ w2 M;exact⟨v,T,v,r,H',a,σ'.drop H.length,rfl,hq,hσ▸W,hσ▸e2,(h4.trans (YB l)).trans p⟩
  cases e with
  |normal=>
   obtain rfl:x=.normal:=y;exact t E
  |ret=>
   obtain rfl:x=.ret:=y;exact t E
  |exit id=>
   obtain rfl:x=.exit id:=y;exact E.elim
  |_=>exact y.elim
 .intro s;have:=QeO (i:=0) [] rfl hl (Array.replicate (fn.ntmps-vals.toArray.size) undef) s
  grind
 grind
section
variable {P:Program} {fn:Func} {env:Env} {H:Qd}
theorem Qce.nil(h:fn.results= #[]):Qce P fn env H (.tup []):=
 λfr ro σ N a w r=>⟨.tuple #[],by simp[results,h,go_sem],[],rfl,rfl⟩
theorem Qce.one{t:Nat}{x:A}(h:fn.results= #[.tmp t])(hx:lk env t=x):Qce P fn env H x:=
 λfr ro σ N a w r=>⟨a.tmps.getD t undef,by simp[results,h,go_sem],hx▸r.env t⟩
theorem QkI{t u:Nat}{x y:A}(h:fn.results= #[.tmp t,.tmp u])(hx:lk env t=x)(hy:lk env u=y):Qce P fn env H (.tup [x,y]):=
 λfr ro σ N a w r=>⟨.tuple #[a.tmps.getD t undef,a.tmps.getD u undef],by simp[results,h,go_sem],
  [_,_],rfl,_,_,rfl,hx▸r.env t,_,_,rfl,hy▸r.env u,rfl⟩
theorem QbT{t u v:Nat}{x y z:A}(h:fn.results= #[.tmp t,.tmp u,.tmp v])(hx:lk env t=x)(hy:lk env u=y)(hz:lk env v=z):
  Qce P fn env H (.tup [x,y,z]):=
 λfr ro σ N a w r=>⟨.tuple #[a.tmps.getD t undef,a.tmps.getD u undef,a.tmps.getD v undef],by simp[results,h,go_sem],
  [_,_,_],rfl,_,_,rfl,hx▸r.env t,_,_,rfl,hy▸r.env u,_,_,rfl,hz▸r.env v,rfl⟩
end
inductive Ctl (S B:Type) where
 |cont (s:S)
 |done (b:B)
 deriving DecidableEq
def iter{S B:Type}(step:S->Option (Ctl S B)):Nat->S->Option B
 |0,_=>none
 |n+1,s=>match step s with
  |some (.cont s')=>iter step n s'
  |some (.done b)=>some b
  |none=>none
def Qbj{S B:Type}(I:S->Env->Qd->Prop)(d:Ctl S B)(Q:QA):QA
 |.normal,env,H=>∃s,d=.cont s/\I s env H
 |.exit id,env,H=>(∃b,d=.done b)/\Q (.exit id) env H
 |.ret,env,H=>(∃b,d=.done b)/\Q .ret env H
theorem QmI{P:Program}{h0 N:Nat}{c:Code}{S B:Type}{step:S->Option (Ctl S B)}{I:S->Env->Qd->Prop}{Q:QA}{z:B}
  (body:∀s d env H,I s env H->step s=some d->(∀b,d=.done b->b=z)->TC P h0 N c env H (Qbj I d Q))
  {m:Nat}{s0:S}(h:iter step m s0=some z){env:Env}{H:Qd}(G:I s0 env H):TC P h0 N (.loop c) env H Q:=by
 intro O p F σ a w r hrd b k cs hro hb hr;have M:∀m s env H fr1 ro1 σ1 a1 w1,iter step m s=some z->I s env H->Rel fr1 ro1 σ1 H env N a1 w1->Qi p F w ro1 w1->σ1.take h0=σ.take h0->Grow p w a.defers fr1 a1.defers->
   ∃e i j,QaO h0 p F σ w N a.defers Q e i j/\ArrivesIn (Machine.fenced P (WF O)) P (lone (b.atR a1 (.code c::.inLoop c::k)) cs w1) b k cs e i j:=by
  intro m
  induction m with
  |zero=>grind[iter]
  |succ m ih=>
   intro s env H fr1 ro1 σ1 a1 w1 hit G r1 ev1 t1 g1;simp only[iter]at hit;cases V:step s with
   |none=>grind
   |some d=>
    rw[V]at hit;have hd:∀b,d=.done b->b=z:=by
     grind
    obtain⟨e,i,j,J,f⟩:=body s d env H G V hd O fr1 ro1 σ1 a1 w1 r1 (hrd.to ev1 g1.sub) b (.inLoop c::k) cs hro hb hr;obtain⟨x,g,H',n,σ',y,E,u,R,q4,W,q6⟩:=J;have t:=ev1.trans (q4.frMono g1.sub);have T:=g1.trans ev1.size q6;have X:∀x,Q x g H'->ExR e x->QaO h0 p F σ w N a.defers Q e i j:=λx q q'=>⟨x,g,H',n,σ',y,q',q,R,t,W.trans t1,T⟩;cases e with
    |normal=>
     obtain rfl:x=.normal:=E;obtain⟨s',rfl,u⟩:=u;obtain⟨e2,Y,w2,L,l⟩:=ih s' g H' y n σ' i j hit u R t (W.trans t1) T;exact⟨e2,Y,w2,L,.of_steps (StepsIn.trans f (.one (fenced_calm hb hr rfl) stepR_inLoop)) l⟩
    |exit id=>
     obtain rfl:x=.exit id:=E;exact⟨_,i,j,X _ u.2 rfl,.pass (x:=.inLoop c) rfl (by simp) f⟩
    |ret=>
     obtain rfl:x=.ret:=E;exact⟨_,i,j,X _ u.2 rfl,.pass (x:=.inLoop c) rfl (by simp) f⟩
    |_=>exact E.elim
 obtain⟨e,i,j,J,f⟩:=M m s0 env H p F σ a w h G r (Qi.refl _ _ _) rfl (Grow.refl _ _ _);exact⟨e,i,j,J,.of_steps (.one (fenced_calm hb hr rfl) stepR_loop) f⟩
theorem TC.loop{P:Program}{h0 N:Nat}{c:Code}{S B:Type}{step:S->Option (Ctl S B)}(E:S->Env)(Hp:S->Qd){Q:QA}
  {m:Nat}{s0:S}{b0:B}(h:iter step m s0=some b0){env:Env}{H:Qd}(hI:Le h0 env H (E s0) (Hp s0))
  (body:∀s d,step s=some d->(∀b,d=.done b->b=b0)->TC P h0 N c (E s) (Hp s) (Qbj (λs env H=>Le h0 env H (E s) (Hp s)) d Q)):TC P h0 N (.loop c) env H Q:=
 QmI (I:=λs env H=>Le h0 env H (E s) (Hp s)) (λs d env H hI hs hd=>Qg hI (body s d hs hd)) h hI
end Go.Sw
namespace Go.Sw
def rho(π:List Nat)(n i:Nat):Nat:=
 match π[i]? with
 |some p=>p
 |none=>n+(i-π.length)
def Yi:Qd->List Nat->List Blk->Qd
 |H,[],xs=>H++xs
 |H,p::π,x::xs=>Yi (H.set p x) π xs
 |H,_::_,[]=>H
theorem Qb9:∀(π:List Nat) (H:Qd) (xs:List Blk),π.length<=xs.length->(Yi H π xs).length=H.length+(xs.length-π.length)
 |[],H,xs,_=>by simp[Yi]
 |p::π,H,[],h=>by simp at h
 |p::π,H,x::xs,h=>by
  simp only[X0]at h;simp only[Yi,Qb9 π (H.set p x) xs (by omega),X4,X0];omega
theorem Qcl:∀(π:List Nat) (H:Qd) (xs:List Blk) (i:Nat),i<H.length->i∉π->(Yi H π xs)[i]?=H[i]?
 |[],H,xs,i,hi,_=>by simp[Yi,XM hi]
 |p::π,H,[],i,hi,h=>by simp[Yi]
 |p::π,H,x::xs,i,hi,h=>by
  simp only[X6,not_or]at h;simp only[Yi];rw[Qcl π (H.set p x) xs i (by grind) h.2,XP (λe=>h.1 e.symm)]
theorem Qew:∀(π:List Nat) (H:Qd) (xs:List Blk) (j:Nat),π.length<=xs.length->(∀p∈π,p<H.length)->π.Nodup->
  (Yi H π xs)[rho π H.length j]?=xs[j]?
 |[],H,xs,j,_,_,_=>by
  simp_all[Yi,rho,XN]
 |p::π,H,[],j,h,_,_=>by simp at h
 |p::π,H,x::xs,j,h,hp,hn=>by
  simp only[X0]at h;have hn':=List.nodup_cons.1 hn;simp only[Yi];cases j with
  |zero=>
   grind[rho,Qcl]
  |succ j=>
   have ih:=Qew π (H.set p x) xs j (by omega) (λq hq=>by grind) hn'.2;rw[X4]at ih;have e:rho (p::π) H.length (j+1)=rho π H.length j:=by
    simp only[rho,XF,X0];simp
   grind
theorem Qj6(π:List Nat)(n i:Nat)(hi:n<=i\/i∈π):∃j,i=rho π n j:=by
 rcases hi with hi|hi
 .refine⟨π.length+(i-n),?_⟩
  grind[rho]
 .obtain⟨j,a,rfl⟩:=List.mem_iff_getElem.1 hi;exact⟨j,by simp[rho,XK a]⟩
def Yk(σ:Sig)(π:List Nat):Sig:=π.map λp=>(σ[p]?).getD none
theorem Qd8{σ τ:Sig}{π:List Nat}{n:Nat}(a:σ.length=n)(b:∀p∈π,p<n)(j:Nat):(σ++τ)[rho π n j]?=(Yk σ π++τ)[j]? :=by
 rcases(by omega)with h|h
 .grind[rho,Yk]
 grind[rho,Yk]
def OpC(P:Program)(o:Oper)(env:Env)(H:Qd)(f:FuncId)(args:List A):Prop:=
 ∀fr ro σ N a w,Rel fr ro σ H env N a w->∃vals:List Value,(execOp a.eval o).run P w=.ok (.enter f vals.toArray) w/\LR ro σ w args vals
theorem Y7{π:List Nat}{H:Qd}{Hc:List Blk}(a:π.map (λp=>H[p]?)=Hc.map some){p:Nat}(b:p∈π):p<H.length:=by
 grind[List.mem_map_of_mem]
theorem WO.call{P:Program}{h0 N:Nat}{all:Array Oper}{o:Oper}{l:List Oper}{env:Env}{H:Qd}{Q:QA}{d:Option Nat}{f:FuncId}
  {args ac:List A}{Hc:Qd}{Qr:A->Qd->Prop}(π:List Nat)(hh:h0<=H.length)(hg:Qs all o env true)(hd:o.dst=d)(hN:∀x,d=some x->x<N)
  (au:OpC P o env H f args)(hargs:args=Qaa (rho π H.length) ac)(hH:π.map (λp=>H[p]?)=(Hc.map (QO (rho π H.length))).map some)(hπ:π.Nodup)
  (hC:C P f ac Hc Qr)
  (k:∀r H1,Qr r H1->WO P h0 N all l (match d with|some d=>up env d (Yu (rho π H.length) r)|none=>env) (Yi H π (H1.map (QO (rho π H.length)))) Q):
  WO P h0 N all (o::l) env H Q:=by
 intro rd fr ro σ a w r hrd;obtain⟨ai,h1,h2⟩:=au fr ro σ N a w r;refine QfJ (YZ hg r) h1 ?_;have hp:∀p∈π,p<H.length:=λp q=>Y7 hH q;have hσl:=r.sim.len;have aa:∀(j p:Nat),π[j]?=some p->H[p]?=(Hc[j]?).map (QO (rho π H.length)):=by
  intro j p M;have:=congrArg (λl=>l[j]?) hH;simp only[Xo,M,Xj]at this;cases e:Hc[j]? with
  |none=>rw[e]at this;simp at this
  |some x=>rw[e]at this;simpa using this
 have aj:π.length=Hc.length:=by simpa using congrArg List.length hH
 have hσc:∀j:Nat,σ[rho π H.length j]?=(Yk σ π)[j]? :=by
  intro j;have:=Qd8 (τ:=[]) hσl hp j;simpa using this
 let frc:Nat->Prop:=λb=>fr b\/(∃i x,σ[i]?=some (some b)/\H[i]?=some x/\x.live=true/\i∉π)\/ ∃i x d,σ[i]?=some (some d)/\H[i]?=some x/\Hid w x d b/\i∉π
 have hπj:∀(j b:Nat),(Yk σ π)[j]?=some (some b)->∃p,π[j]?=some p/\σ[p]?=some (some b):=by
  intro j b M;simp only[Yk,Xo]at M;cases e:π[j]? with
  |none=>rw[e]at M;simp at M
  |some p=>
   rw[e]at M;simp at M;refine⟨p,rfl,?_⟩;cases e2:σ[p]? with
   |none=>rw[e2]at M;simp at M
   |some s=>rw[e2]at M;simp at M;rw[M]
 have hπi:∀(i j p:Nat),π[i]?=some p->π[j]?=some p->i=j:=by
  intro i j p T R;have hi:i<π.length:=by
   rcases VC i π.length with q|q
   .exact q
   .rw[XO q]at T;simp at T
  have M:j<π.length:=by
   rcases VC j π.length with q|q
   .exact q
   .rw[XO q]at R;simp at R
  rw[XK hi]at T;rw[XK M]at R;have ad:=(XZ T).trans (XZ R).symm;rcases Nat.lt_trichotomy i j with q|q|q
  .exact(VE.1 hπ i j hi M q ad).elim
  .exact q
  .exact(VE.1 hπ j i M hi q ad.symm).elim
 have ak:Sim frc ro (Yk σ π) Hc w:=by
  refine⟨by simp[Yk,aj],r.sim.roOk,?_,?_,?_,?_,?_,?_⟩
  .rintro b (hb|⟨i,x,h,g,m,J⟩|⟨i,x,d,h,g,m,J⟩)
   .exact r.sim.frLt b hb
   .exact(r.sim.own i b x h g m).1
   .exact(r.sim.hid i d x b h g m).lt
  .rintro b hb (hf|⟨i,x,h,g,m,J⟩|⟨i,x,d,h,g,m,J⟩)
   .exact r.sim.roFr b hb hf
   .exact(r.sim.own i b x h g m).2.1 hb
   .exact(r.sim.hid i d x b h g m).ro hb
  .intro j b x h g m;obtain⟨p,T,e2⟩:=hπj j b h;have e3:H[p]?=some (QO (rho π H.length) x):=by rw[aa j p T,g];rfl
   obtain⟨o1,o2,o3⟩:=r.sim.own p b _ e2 e3 (by rw[QG];exact m);refine⟨o1,o2,?_⟩;rintro(hf|⟨i,y,y1,y2,y3,y4⟩|⟨i,y,d,y1,y2,y3,y4⟩)
   .exact o3 hf
   .have:=r.sim.inj i p b _ _ y1 e2 y2 e3 y3 (by rw[QG];exact m);subst this;exact y4 (VH T)
   .exact(r.sim.hid i d y b y1 y2 y3).ne p b _ e2 e3 (by rw[QG];exact m) rfl
  .intro i j b x y h g m J X q6;obtain⟨p,T,e2⟩:=hπj i b h;obtain⟨p',R,aq⟩:=hπj j b g;have e3:H[p]?=some (QO (rho π H.length) x):=by rw[aa i p T,m];rfl
   have am:H[p']?=some (QO (rho π H.length) y):=by rw[aa j p' R,J];rfl
   have:=r.sim.inj p p' b _ _ e2 aq e3 am (by rw[QG];exact X) (by rw[QG];exact q6);subst this;have hi:i<π.length:=by
    rcases VC i π.length with q|q
    .exact q
    .rw[XO q]at T;simp at T
   have M:j<π.length:=by
    rcases VC j π.length with q|q
    .exact q
    .rw[XO q]at R;simp at R
   rw[XK hi]at T;rw[XK M]at R;have ad:=(XZ T).trans (XZ R).symm;rcases Nat.lt_trichotomy i j with q|q|q
   .exact(VE.1 hπ i j hi M q ad).elim
   .exact q
   .exact(VE.1 hπ j i M hi q ad.symm).elim
  .intro j s x h g;have M:j<π.length:=by
    rcases VC j π.length with q|q
    .exact q
    .rw[XO (by simpa[Yk]using q)]at h;simp at h
   have T:π[j]?=some π[j]:=XK M;have e3:H[π[j]]?=some (QO (rho π H.length) x):=by rw[aa j _ T,g];rfl
   have e2:σ[π[j]]?=some s:=by
    have:=hσc j;rw[h]at this;simpa[rho,T]using this
   exact(Qhj hσc).1 (r.sim.blk _ s _ e2 e3)
  .intro j b x c h g m;obtain⟨p,T,e2⟩:=hπj j b h;have e3:H[p]?=some (QO (rho π H.length) x):=by rw[aa j p T,g];rfl
   have k:=r.sim.hid p b _ c e2 e3 ((Qak _ _ _ _ _).2 m);refine⟨k.lt,k.ro,?_,?_,?_⟩
   .rintro(hf|⟨i,y,y1,y2,y3,y4⟩|⟨i,y,d,y1,y2,y3,y4⟩)
    .exact k.fr hf
    .exact k.ne i c y y1 y2 y3 rfl
    .obtain⟨rfl,rfl⟩:=k.one i d y y1 y2 y3;exact y4 (VH T)
   .intro O b' y L n Y;obtain⟨p',f1,f2⟩:=hπj O b' L;exact k.ne p' b' _ f2 (show H[p']?=some (QO (rho π H.length) y)by rw[aa O p' f1,n];rfl) (by rw[QG];exact Y)
   .intro O b' y L n Y;obtain⟨p',f1,f2⟩:=hπj O b' L;obtain⟨z4,z5⟩:=k.one p' b' _ f2 (show H[p']?=some (QO (rho π H.length) y)by rw[aa O p' f1,n];rfl) ((Qak _ _ _ _ _).2 Y);subst z5;exact⟨z4,hπi O j p' f1 T⟩
 have ag:LR ro (Yk σ π) w ac ai:=(Qbw hσc).1 (hargs▸h2);refine Calls.mono (hC frc ro (Yk σ π) ai w ak ag) ?_;rintro e w' ⟨v,rr,H1,ab,τ,rfl,hq,sc,hv,ev⟩;have hσ':∀j:Nat,(σ++τ)[rho π H.length j]?=(Yk σ π++τ)[j]? :=λj=>Qd8 hσl hp j;have an:H1.length=π.length+τ.length:=by rw[<- sc.len];simp[Yk]
 have al:π.length<=(H1.map (QO (rho π H.length))).length:=by simp;omega
 have W:Qi fr ro w ab w':=⟨ev.sub,ev.keepRo,λb q=>ev.keepFr b (.inl q),ev.size,ev.shape,ev.os,ev.tape,ev.output,ev.drawn⟩;have G:∀j,(Yi H π (H1.map (QO (rho π H.length))))[rho π H.length j]?=(H1[j]?).map (QO (rho π H.length)):=by
  intro j;rw[Qew π H _ j al hp hπ];simp
 have B:∀i,i<H.length->i∉π->(Yi H π (H1.map (QO (rho π H.length))))[i]?=H[i]? :=λi=>Qcl π H _ i;have t:∀i:Nat,(∃j,i=rho π H.length j)\/(i<H.length/\i∉π):=by
  intro i;by_cases q:H.length<=i\/i∈π
  .exact .inl (Qj6 π H.length i q)
  .simp only[not_or]at q;exact .inr ⟨by omega,q.2⟩
 have F:∀i b x,i<H.length->i∉π->σ[i]?=some (some b)->H[i]?=some x->x.live=true->frc b:=λi b x h g m J X=>.inr (.inl ⟨i,x,m,J,X,g⟩);have af:∀i b x c,i<H.length->i∉π->σ[i]?=some (some b)->H[i]?=some x->Hid w' x b c->Hid w x b c/\frc c:=λi b x c h g m J X=>
  have q6:=r.sim.hidKeep m J (λz=>ev.keepFr b (F i b x h g m J z)) ev.keepRo X
  ⟨q6,.inr (.inr ⟨i,x,b,m,J,q6,g⟩)⟩
 have ah:Sim fr ab (σ++τ) (Yi H π (H1.map (QO (rho π H.length)))) w':=by
  refine⟨?_,sc.roOk,λb q=>sc.frLt b (.inl q),λb q q'=>sc.roFr b q (.inl q'),?_,?_,?_,?_⟩
  .rw[Qb9 _ _ _ al];simp[hσl,an]
  .intro i b x h g m;rcases t i with⟨j,rfl⟩|⟨c1,c2⟩
   .rw[hσ']at h;rw[G]at g;cases e:H1[j]? with
    |none=>rw[e]at g;simp at g
    |some y=>
     rw[e]at g;simp at g;subst g;obtain⟨o1,o2,o3⟩:=sc.own j b y h e (by rw[QG]at m;exact m);exact⟨o1,o2,λq=>o3 (.inl q)⟩
   .rw[B i c1 c2]at g;rw[XM (by omega)]at h;obtain⟨o1,o2,o3⟩:=r.sim.own i b x h g m;exact⟨Vf o1 ev.size,λq=>sc.roFr b q (F i b x c1 c2 h g m),o3⟩
  .intro i E b x y h g m J X q6;have ae:∀(i E:Nat) (x y:Blk),(∃j,i=rho π H.length j)->(E<H.length/\E∉π)->(σ++τ)[i]?=some (some b)->(σ++τ)[E]?=some (some b)->
     (Yi H π (H1.map (QO (rho π H.length))))[i]?=some x->(Yi H π (H1.map (QO (rho π H.length))))[E]?=some y->x.live=true->y.live=true->False:=by
    rintro i E x y ⟨j,rfl⟩ ⟨c1,c2⟩ h g m J X q6;rw[hσ']at h;rw[G]at m;rw[B E c1 c2]at J;rw[XM (by omega)]at g;cases e:H1[j]? with
    |none=>rw[e]at m;simp at m
    |some z=>
     rw[e]at m;simp at m;subst m;exact(sc.own j b z h e (by rw[QG]at X;exact X)).2.2 (F E b y c1 c2 g J q6)
   rcases t i with ci|ci<;>rcases t E with ci'|ci'
   .obtain⟨j,rfl⟩:=ci;obtain⟨O,rfl⟩:=ci';rw[hσ']at h g;rw[G]at m J;cases e:H1[j]? with
    |none=>rw[e]at m;simp at m
    |some z=>
     cases V:H1[O]? with
     |none=>rw[V]at J;simp at J
     |some z'=>
      rw[e]at m;simp at m;subst m;rw[V]at J;simp at J;subst J;rw[sc.inj j O b z z' h g e V (by rw[QG]at X;exact X) (by rw[QG]at q6;exact q6)]
   .exact(ae i E x y ci ci' h g m J X q6).elim
   .exact(ae E i y x ci' ci g h J m q6 X).elim
   .rw[B i ci.1 ci.2]at m;rw[B E ci'.1 ci'.2]at J;rw[XM (by omega)]at h g;exact r.sim.inj i E b x y h g m J X q6
  .intro i s x h g;rcases t i with⟨j,rfl⟩|⟨c1,c2⟩
   .rw[hσ']at h;rw[G]at g;cases e:H1[j]? with
    |none=>rw[e]at g;simp at g
    |some y=>
     rw[e]at g;simp at g;subst g;exact(Qhj hσ').2 (sc.blk j s y h e)
   .rw[B i c1 c2]at g;rw[XM (by omega)]at h;refine BR.keep (W.ext σ τ) ?_ (r.sim.blk i s x h g) ?_
    .rintro b rfl hl;exact ev.keepFr b (F i b x c1 c2 h g hl)
    .rintro b c rfl hl;exact ev.keepFr c (.inr (.inr ⟨i,x,b,h,g,hl,c2⟩))
  .intro i b x c h g m;rcases t i with⟨j,rfl⟩|⟨c1,c2⟩
   .rw[hσ']at h;rw[G]at g;cases e:H1[j]? with
    |none=>rw[e]at g;simp at g
    |some y=>
     rw[e]at g;simp at g;subst g;have k:=sc.hid j b y c h e ((Qak _ _ _ _ _).1 m);refine⟨k.lt,k.ro,λq=>k.fr (.inl q),?_,?_⟩
     .intro E b' y' L n Y;rcases t E with⟨O,rfl⟩|⟨d1,d2⟩
      .rw[hσ']at L;rw[G]at n;cases V:H1[O]? with
       |none=>rw[V]at n;simp at n
       |some u=>
        rw[V]at n;simp at n;subst n;exact k.ne O b' u L V (by rw[QG]at Y;exact Y)
      .rw[B E d1 d2]at n;rw[XM (by omega)]at L;rintro rfl;exact k.fr (F E c y' d1 d2 L n Y)
     .intro E b' y' L n Y;rcases t E with⟨O,rfl⟩|⟨d1,d2⟩
      .rw[hσ']at L;rw[G]at n;cases V:H1[O]? with
       |none=>rw[V]at n;simp at n
       |some u=>
        rw[V]at n;simp at n;subst n;obtain⟨z4,rfl⟩:=k.one O b' u L V ((Qak _ _ _ _ _).1 Y);exact⟨z4,rfl⟩
      .rw[B E d1 d2]at n;rw[XM (by omega)]at L;exact(k.fr (af E b' y' c d1 d2 L n Y).2).elim
   .rw[B i c1 c2]at g;rw[XM (by omega)]at h;obtain⟨J,X⟩:=af i b x c c1 c2 h g m;have k:=r.sim.hid i b x c h g J;refine⟨Vf k.lt ev.size,λq=>sc.roFr c q X,k.fr,?_,?_⟩
    .intro E b' y' L n Y;rcases t E with⟨O,rfl⟩|⟨d1,d2⟩
     .rw[hσ']at L;rw[G]at n;cases V:H1[O]? with
      |none=>rw[V]at n;simp at n
      |some u=>
       rw[V]at n;simp at n;subst n;rintro rfl;exact(sc.own O c u L V (by rw[QG]at Y;exact Y)).2.2 X
     .rw[B E d1 d2]at n;rw[XM (by omega)]at L;exact k.ne E b' y' L n Y
    .intro E b' y' L n Y;rcases t E with⟨O,rfl⟩|⟨d1,d2⟩
     .rw[hσ']at L;rw[G]at n;cases V:H1[O]? with
      |none=>rw[V]at n;simp at n
      |some u=>
       rw[V]at n;simp at n;subst n;exact((sc.hid O b' u c L V ((Qak _ _ _ _ _).1 Y)).fr X).elim
     .rw[B E d1 d2]at n;rw[XM (by omega)]at L;exact k.one E b' y' L n (af E b' y' c d1 d2 L n Y).1
 have ar:VR ab (σ++τ) w' (Yu (rho π H.length) rr) v:=(Qdt hσ').2 hv;have hk:=k rr H1 hq;cases d with
 |none=>
  simp only[hd,Act.put];have r':Rel fr ab (σ++τ) (Yi H π (H1.map (QO (rho π H.length)))) env N a w':=⟨ah,λs=>(r.env s).mono (W.ext σ τ),r.size,r.defers.keep W⟩;exact⟨_,rfl,Yo (λe a w q=>q.step W (QC (by omega))) _ _ _ (hk rd fr ab (σ++τ) _ w' r' (hrd.to W λ_ q=>q))⟩
 |some d=>
  simp only[hd,Act.put];have ao:=hN d rfl;have r':Rel fr ab (σ++τ) (Yi H π (H1.map (QO (rho π H.length)))) (up env d (Yu (rho π H.length) rr)) N {a with tmps:=a.tmps.setIfInBounds d v} w':=
   ⟨ah,VR.up (fr:=fr) (λs=>(r.env s).mono (W.ext σ τ)) (by rw[r.size];exact ao) ar,by simpa using r.size,r.defers.keep W⟩
  exact⟨_,rfl,Yo (λe a w q=>q.step W (QC (by omega))) _ _ _ (hk rd fr ab (σ++τ) _ w' r' (hrd.to W λ_ q=>q))⟩
end Go.Sw
namespace Go.Sw
section
variable {P:Program} {o:Oper} {env:Env} {H:Qd}
theorem Qw{fr ro:Nat->Prop}{σ:Sig}{N:Nat}{a:Act}{w:World}(r:Rel fr ro σ H env N a w){x:Operand}{k:IntKind}{n:Int}(h:opA env x=.int k n):a.eval x=.int k n:=by
 have:=Qk r x;rw[h]at this;exact this
theorem QcD{fr ro:Nat->Prop}{σ:Sig}{N:Nat}{a:Act}{w:World}(r:Rel fr ro σ H env N a w){x:Operand}{b:Bool}(h:opA env x=.bool b):a.eval x=.bool b:=by
 have:=Qk r x;rw[h]at this;exact this
theorem Qec{fr ro:Nat->Prop}{σ:Sig}{N:Nat}{a:Act}{w:World}(r:Rel fr ro σ H env N a w){x:Operand}{s:List UInt8}(h:opA env x=.str s):a.eval x=.string ⟨s.toArray⟩:=by
 have:=Qk r x;rw[h]at this;exact this
theorem OpV.move{x:Operand}{v:A}(ho:o.op=.move x)(hx:opA env x=v):OpV P o env H v:=
 λfr ro σ N a w r=>⟨a.eval x,by simp[execOp,ho,go_sem],hx▸Qk r x⟩
theorem OpV.assign{x:Operand}{v:A}(ho:o.op=.assign x)(hx:opA env x=v):OpV P o env H v:=
 λfr ro σ N a w r=>⟨a.eval x,by simp[execOp,ho,go_sem],hx▸Qk r x⟩
theorem OpV.pick{c x y:Operand}{b:Bool}{v:A}(e:o.op=.pick c x y)(d:opA env c=.bool b)(i:(if b then opA env x else opA env y)=v):OpV P o env H v:=by
 intro f h σ N a w r;have g:=QcD r d;refine⟨if b then a.eval x else a.eval y,by simp_all[execOp,asBool],?_⟩
 grind[Qk]
theorem OpV.add{t u:TypeId}{x y:Operand}{k:IntKind}{m n:Int}(i:o.op=.binOp .add t x y u)(d:opA env x=.int k m)(b:opA env y=.int k n):OpV P o env H (.int k (k.wrap (m+n))):=by
 intro e h σ N a w r;have f:=Qw r d;have g:=Qw r b;refine⟨_,?_,rfl⟩
 simp_all[execOp,Go.binOp,eqGuard,Op.intArith]
theorem OpV.sub{t u:TypeId}{x y:Operand}{k:IntKind}{m n:Int}(i:o.op=.binOp .sub t x y u)(d:opA env x=.int k m)(b:opA env y=.int k n):OpV P o env H (.int k (k.wrap (m-n))):=by
 intro e h σ N a w r;have f:=Qw r d;have g:=Qw r b;refine⟨_,?_,rfl⟩
 simp_all[execOp,Go.binOp,eqGuard,Op.intArith]
theorem OpV.mul{t u:TypeId}{x y:Operand}{k:IntKind}{m n:Int}(i:o.op=.binOp .mul t x y u)(d:opA env x=.int k m)(b:opA env y=.int k n):OpV P o env H (.int k (k.wrap (m*n))):=by
 intro e h σ N a w r;have f:=Qw r d;have g:=Qw r b;refine⟨_,?_,rfl⟩
 simp_all[execOp,Go.binOp,eqGuard,Op.intArith]
theorem OpV.cmp{op:BinOp}{t u:TypeId}{x y:Operand}{k:IntKind}{m n:Int}{f:Int->Int->Bool}(j:o.op=.binOp op t x y u)(h:opA env x=.int k m)(i:opA env y=.int k n)
  (d:op=.eql/\f=(λa b=>a==b)\/op=.neq/\f=(λa b=>a != b)\/op=.lss/\f=(λa b=>decide (a<b))\/op=.leq/\f=(λa b=>decide (a<=b))\/
   op=.gtr/\f=(λa b=>decide (b<a))\/op=.geq/\f=(λa b=>decide (b<=a))):OpV P o env H (.bool (f m n)):=by
 intro l p σ N a w r;have e:=Qw r h;have g:=Qw r i;refine⟨_,?_,rfl⟩;generalize a.eval=ρ at*;rcases d with⟨rfl,rfl⟩|⟨rfl,rfl⟩|⟨rfl,rfl⟩|⟨rfl,rfl⟩|⟨rfl,rfl⟩|⟨rfl,rfl⟩<;>simp[execOp,j,e,g,Go.binOp,eqGuard,Op.intCmp,go_sem]
theorem OpV.eql{t u:TypeId}{x y:Operand}{k:IntKind}{m n:Int}(ho:o.op=.binOp .eql t x y u)(hx:opA env x=.int k m)(hy:opA env y=.int k n):OpV P o env H (.bool (m==n)):=
 OpV.cmp (f:=λa b=>a==b) ho hx hy (by simp)
theorem OpV.neq{t u:TypeId}{x y:Operand}{k:IntKind}{m n:Int}(ho:o.op=.binOp .neq t x y u)(hx:opA env x=.int k m)(hy:opA env y=.int k n):OpV P o env H (.bool (m != n)):=
 OpV.cmp (f:=λa b=>a != b) ho hx hy (by simp)
theorem OpV.lss{t u:TypeId}{x y:Operand}{k:IntKind}{m n:Int}(ho:o.op=.binOp .lss t x y u)(hx:opA env x=.int k m)(hy:opA env y=.int k n):OpV P o env H (.bool (decide (m<n))):=
 OpV.cmp (f:=λa b=>decide (a<b)) ho hx hy (by simp)
theorem OpV.leq{t u:TypeId}{x y:Operand}{k:IntKind}{m n:Int}(ho:o.op=.binOp .leq t x y u)(hx:opA env x=.int k m)(hy:opA env y=.int k n):OpV P o env H (.bool (decide (m<=n))):=
 OpV.cmp (f:=λa b=>decide (a<=b)) ho hx hy (by simp)
theorem OpV.gtr{t u:TypeId}{x y:Operand}{k:IntKind}{m n:Int}(ho:o.op=.binOp .gtr t x y u)(hx:opA env x=.int k m)(hy:opA env y=.int k n):OpV P o env H (.bool (decide (n<m))):=
 OpV.cmp (f:=λa b=>decide (b<a)) ho hx hy (by simp)
theorem OpV.geq{t u:TypeId}{x y:Operand}{k:IntKind}{m n:Int}(ho:o.op=.binOp .geq t x y u)(hx:opA env x=.int k m)(hy:opA env y=.int k n):OpV P o env H (.bool (decide (n<=m))):=
 OpV.cmp (f:=λa b=>decide (b<=a)) ho hx hy (by simp)
theorem OpV.rem{t u:TypeId}{x y:Operand}{k:IntKind}{m n:Int}(j:o.op=.binOp .rem t x y u)(b:opA env x=.int k m)(d:opA env y=.int k n)(e:n≠0):OpV P o env H (.int k (m.tmod n)):=by
 intro h i σ N a w r;have f:=Qw r b;have g:=Qw r d;exact⟨_,by simp_all[execOp,Go.binOp,eqGuard,Op.intDiv],rfl⟩
theorem OpV.quo{t u:TypeId}{x y:Operand}{k:IntKind}{m n:Int}(j:o.op=.binOp .quo t x y u)(b:opA env x=.int k m)(d:opA env y=.int k n)(e:n≠0):OpV P o env H (.int k (k.wrap (m.tdiv n))):=by
 intro h i σ N a w r;have f:=Qw r b;have g:=Qw r d;exact⟨_,by simp_all[execOp,Go.binOp,eqGuard,Op.intDiv],rfl⟩
theorem OpV.not{t:TypeId}{x:Operand}{b:Bool}(h:o.op=.unOp .not t x)(d:opA env x=.bool b):OpV P o env H (.bool !b):=by
 intro e g σ N a w r;have f:=QcD r d;exact⟨_,by simp_all[execOp,Op.unary],rfl⟩
theorem OpV.neg{t:TypeId}{x:Operand}{k:IntKind}{n:Int}(g:o.op=.unOp .neg t x)(b:opA env x=.int k n):OpV P o env H (.int k (k.wrap (0-n))):=by
 intro d f σ N a w r;have e:=Qw r b;exact⟨_,by simp_all[execOp,Op.unary,Op.intArith],rfl⟩
theorem YG{s t:TypeId}{x:Operand}{k e:IntKind}{n:Int}{b:TypeDesc}(l:o.op=.convert s t x)(h:∀w,(underlying s).run P w=.ok b w)(i:∀w,(underlying t).run P w=.ok (.int k) w)
  (d:opA env x=.int e n):OpV P o env H (.int k (k.wrap n)):=by
 intro g j σ N a w r;have f:=Qw r d;refine⟨_,?_,rfl⟩
 simp_all[execOp,convert,Conv.intToInt]
theorem Qdx{op:BinOp}{t u:TypeId}{x y:Operand}{p q:List UInt8}{f:List UInt8->List UInt8->Bool}(l:o.op=.binOp op t x y u)(h:opA env x=.str p)(i:opA env y=.str q)
  (d:op=.eql/\f=(λa b=>a==b)\/op=.neq/\f=(λa b=>a != b)\/op=.lss/\f=Op.bytesLess\/op=.geq/\f=(λa b=> !Op.bytesLess a b)\/
   op=.leq/\f=(λa b=>Op.bytesLess a b||a==b)\/op=.gtr/\f=(λa b=> !(Op.bytesLess a b||a==b))):OpV P o env H (.bool (f p q)):=by
 intro m n σ N a w r;have e:=Qec r h;have g:=Qec r i;refine⟨_,?_,rfl⟩;generalize a.eval=ρ at*;have k:(⟨p.toArray⟩:ByteArray).toList=p:=by simp
 have j:(⟨q.toArray⟩:ByteArray).toList=q:=by simp
 rcases d with⟨rfl,rfl⟩|⟨rfl,rfl⟩|⟨rfl,rfl⟩|⟨rfl,rfl⟩|⟨rfl,rfl⟩|⟨rfl,rfl⟩<;>simp[execOp,l,e,g,Go.binOp,eqGuard,Op.stringOp,k,j,go_sem,bne]
theorem Qdy{t u:TypeId}{x y:Operand}{p q:List UInt8}(ho:o.op=.binOp .eql t x y u)(hx:opA env x=.str p)(hy:opA env y=.str q):OpV P o env H (.bool (p==q)):=
 Qdx (f:=λa b=>a==b) ho hx hy (by simp)
theorem QkL{t u:TypeId}{x y:Operand}{p q:List UInt8}(ho:o.op=.binOp .neq t x y u)(hx:opA env x=.str p)(hy:opA env y=.str q):OpV P o env H (.bool (p != q)):=
 Qdx (f:=λa b=>a != b) ho hx hy (by simp)
theorem QkM{t u:TypeId}{x y:Operand}{p q:List UInt8}(ho:o.op=.binOp .lss t x y u)(hx:opA env x=.str p)(hy:opA env y=.str q):OpV P o env H (.bool (Op.bytesLess p q)):=
 Qdx ho hx hy (by simp)
theorem QkN{t:TypeId}{x y:Operand}{s:List UInt8}{k:IntKind}{n:Int}{c:UInt8}(z:o.op=.index t x y)(u:∀w,(underlying t).run P w=.ok .string w)(e:opA env x=.str s)(f:opA env y=.int k n)
  (q:0<=n)(g:s[n.toNat]?=some c):OpV P o env H (.int .u8 c.toNat):=by
 intro p m σ N a w r;have l:=Qec r e;have j:=Qw r f;have h:(⟨s.toArray⟩:ByteArray)[n.toNat]?=some c:=by
  obtain⟨d,i⟩:=XL.1 g;have b:(⟨s.toArray⟩:ByteArray).size=s.length:=by rfl
  rw[getElem?_pos _ _ (by rw[b];exact d)];show some (s.toArray[n.toNat]'(by omega))=some c;simp[i]
 refine⟨_,?_,rfl⟩
 simp_all[execOp,Instr.index,asIntOf]
theorem QaQ{c:Call}{t:TypeId}{x:Operand}{s:List UInt8}(f:o.op=.call c)(g:c={callee:=.builtin .len,args:= #[x],argTypes:= #[t]})(e:∀w,(underlying t).run P w=.ok .string w)
  (d:opA env x=.str s):OpV P o env H (.int .i64 s.length):=by
 intro h i σ N a w r;have b:=Qec r d;refine⟨_,?_,rfl⟩;generalize a.eval=ρ at*;subst g;simp[execOp,f,b,resolve,invoke,Go.builtin,Builtin.len_,e,goInt,go_sem]<;>rfl
theorem QmP{c:Call}{t e:TypeId}{x:Operand}{k:Nat}{es:List (List A)}(i:o.op=.call c)(g:c={callee:=.builtin .len,args:= #[x],argTypes:= #[t]})(h:∀w,(underlying t).run P w=.ok (.slice e) w)
  (f:opA env x=.rsl k es):OpV P o env H (.int .i64 es.length):=by
 intro l m σ N a w r;have b:=Qk r x;rw[f]at b;obtain⟨j,d,b,_⟩:=b;refine⟨_,?_,rfl⟩;generalize a.eval=ρ at*;subst g;simp[execOp,i,b,resolve,invoke,Go.builtin,Builtin.len_,h,goInt,go_sem]
theorem Qie{c:Call}{t e:TypeId}{x:Operand}{i s n k:Nat}(l:o.op=.call c)(h:c={callee:=.builtin .len,args:= #[x],argTypes:= #[t]})(j:∀w,(underlying t).run P w=.ok (.slice e) w)
  (g:opA env x=.osl i s n k):OpV P o env H (.int .i64 n):=by
 intro u y σ N a w r;have d:=Qk r x;rw[g]at d;refine⟨_,?_,rfl⟩;generalize a.eval=ρ at*;subst h;rcases d with⟨rfl,d⟩|⟨b,p,f,q,m,_,d,_⟩<;>
 simp[execOp,l,d,resolve,invoke,Go.builtin,Builtin.len_,j,goInt,go_sem]
structure YO (P:Program) (T f off n:Nat):Prop where
 h:∃fs fd,(∀w,(underlying T).run P w=.ok (.struct fs) w)/\fs[f]?=some fd/\fd.offset=off/\(∀w,(sizeOf fd.type).run P w=.ok n w)/\n≠0
theorem YR(b off n:Nat):(⟨b,off,none⟩:Addr).add n=⟨b,off+n,none⟩:=by
 simp_all[Addr.add]
theorem QdF{T f off n b p:Nat}(a:YO P T f off n)(w:World):(Instr.fieldAt T (.pointer (some ⟨b,p,none⟩)) f).run P w=.ok (.pointer (some ⟨b,p+off,none⟩)) w:=by
 obtain⟨j,k,d,e,rfl,g,i⟩:=a.h
 simp_all[Instr.fieldAt,Instr.sureAddr,fieldPlace,YR]
theorem Qcw{T f off n i p:Nat}{x:Operand}(e:YO P T f off n)(j:o.op=.fieldAddr T x f)(h:opA env x=.ptr i p):OpV P o env H (.ptr i (p+off)):=by
 intro k l σ N a w r;have d:=Qk r x;rw[h]at d;obtain⟨b,d,g⟩:=d;refine⟨.pointer (some ⟨b,p+off,none⟩),?_,b,d,rfl⟩;generalize a.eval=ρ at*;simp only[execOp,j,g,Vm,QdF e];rfl
theorem CR.drop{ro:Nat->Prop}{σ:Sig}{w:World}{b:Nat}:∀(n:Nat) {cs:List A} {off:Nat},CR ro σ w b cs off->CR ro σ w b (cs.drop n) (off+n)
 |0,_,_,h=>h
 |n+1,[],_,h=>trivial
 |n+1,c::cs,off,h=>by
  have:=CR.drop n h.2
  grind
theorem CR.take{ro:Nat->Prop}{σ:Sig}{w:World}{b:Nat}:∀(n:Nat) {cs:List A} {off:Nat},CR ro σ w b cs off->CR ro σ w b (cs.take n) off
 |0,_,_,h=>trivial
 |n+1,[],_,h=>trivial
 |n+1,c::cs,off,h=>⟨h.1,CR.take n h.2⟩
theorem Qfn{T f off n:Nat}{x:Operand}{cs cs':List A}(j:YO P T f off n)(k:o.op=.fieldAddr T x f)(i:opA env x=.rp cs)(e:cs.drop off=cs'):OpV P o env H (.rp cs'):=by
 intro l m σ N a w r;have d:=Qk r x;rw[i]at d;obtain⟨b,p,d,g,h⟩:=d;refine⟨.pointer (some ⟨b,p+off,none⟩),?_,b,p+off,rfl,g,e▸h.drop off⟩;generalize a.eval=ρ at*;simp only[execOp,k,d,Vm,QdF j];rfl
theorem RR.get{ro:Nat->Prop}{σ:Sig}{w:World}{b k:Nat}:∀(n:Nat) {es:List (List A)} {off:Nat} {c:List A},RR ro σ w b k es off->es[n]?=some c->c.length=k/\CR ro σ w b c (off+n*k)
 |n,[],_,_,h,hc=>by simp at hc
 |0,e::es,off,c,h,hc=>by
  simp at hc;subst hc;exact⟨h.1,by simpa using h.2.1⟩
 |n+1,e::es,off,c,h,hc=>by
  have:=RR.get n h.2.2 (by simpa using hc)
  grind
theorem QnP{t e:TypeId}{x y:Operand}{k:Nat}{es:List (List A)}{G:IntKind}{n:Int}{c:List A}(B:o.op=.indexAddr t x y)(z:∀w,(underlying t).run P w=.ok (.slice e) w)
  (s:∀w,(sizeOf e).run P w=.ok k w)(m:opA env x=.rsl k es)(l:opA env y=.int G n)(F:0<=n)(q:es[n.toNat]?=some c):OpV P o env H (.rp c):=by
 intro O L σ N a w r;have f:=Qk r x;rw[m]at f;have j:=Qw r l;obtain⟨J,i,f,M,E⟩:=f;have g:n.toNat<es.length:=(by grind);rcases E with rfl|⟨b,d,rfl,p,u⟩
 .simp at g
 have h:n<es.length:=by omega
 refine⟨.pointer (some ⟨b,d+n.toNat*k,none⟩),?_,b,d+n.toNat*k,rfl,p,(u.get n.toNat q).2⟩;generalize a.eval=ρ at*;simp[execOp,B,f,j,Instr.indexAt,asIntOf,z,s,F,h,YR,go_sem]
theorem Qg8{t e:TypeId}{x y:Operand}{i s m k:Nat}{F:IntKind}{n:Int}(G:o.op=.indexAddr t x y)(u:∀w,(underlying t).run P w=.ok (.slice e) w)
  (B:∀w,(sizeOf e).run P w=.ok k w)(l:opA env x=.osl i s m k)(j:opA env y=.int F n)(E:0<=n)(z:n<m):OpV P o env H (.ptr i (s*k+n.toNat*k)):=by
 intro M Q σ N a w r;have d:=Qk r x;rw[l]at d;have g:=Qw r j;rcases d with⟨rfl,_⟩|⟨b,p,f,J,O,h,d,q,L,_⟩
 .omega
 obtain rfl:=q (by omega);refine⟨.pointer (some ⟨b,s*k+n.toNat*k,none⟩),?_,b,h,rfl⟩;generalize a.eval=ρ at*;simp[execOp,G,d,g,Instr.indexAt,asIntOf,u,B,E,z,YR,go_sem]
def Pts(H:Qd)(p:A)(cs:List A):Prop:=
 ∀fr ro σ w v,Sim fr ro σ H w->VR ro σ w p v->∃b off,v=.pointer (some ⟨b,off,none⟩)/\CR ro σ w b cs off
theorem VR.lift{ro:Nat->Prop}{σ:Sig}{w:World}{a:A}{v:Value}(h:VR ro [] w a v):VR ro σ w a v:=
 h.mono ⟨λ_ q=>q,λ_ _=>rfl,λ_ _ q=>q,(by simp)⟩
theorem CR.lift{ro:Nat->Prop}{σ:Sig}{w:World}{b:Nat}:∀{cs:List A} {off:Nat},CR ro [] w b cs off->CR ro σ w b cs off
 |[],_,_=>trivial
 |c::cs,off,⟨⟨v,h1,hp,h2⟩,h3⟩=>⟨⟨v,h1,hp,h2.lift⟩,CR.lift h3⟩
theorem LR.lift{ro:Nat->Prop}{σ:Sig}{w:World}:∀{cs:List A} {l:List Value},LR ro [] w cs l->LR ro σ w cs l
 |[],_,h=>h
 |c::cs,l,⟨v,l',h1,h2,h3⟩=>⟨v,l',h1,h2.lift,LR.lift h3⟩
theorem Pts.rp{cs:List A}:Pts H (.rp cs) cs:=λfr ro σ w v s ⟨b,off,h1,h2,h3⟩=>⟨b,off,h1,h3.lift⟩
theorem LR.cells{ro:Nat->Prop}{σ:Sig}{w:World}{b t:Nat}{fz:Nat×Nat}{pre l:List Value}(d:w.heap[b]?=some (.cells (pre++l).toArray t fz))(a:∀v∈l,Qo v):
  ∀{cs:List A},LR ro σ w cs l->CR ro σ w b cs pre.length:=by
 induction l generalizing pre with
 |nil=>
  intro cs h;cases cs with
  |nil=>trivial
  |cons c cs=>obtain⟨v,k,h,_⟩:=h;cases h
 |cons v l j=>
  intro cs h;cases cs with
  |nil=>trivial
  |cons c cs=>
   obtain⟨m,k,f,e,g⟩:=h;cases f;refine⟨⟨v,by simp[World.cell?,d],a v (by simp),e⟩,?_⟩;have:=j (pre:=pre++[v]) (by simpa using d) (λx i=>a x (by simp[i])) g
   grind
theorem Pts.cells{i off t:Nat}{cs cs':List A}(d:H[i]?=some (.cells t cs))(a:cs.drop off=cs'):Pts H (.ptr i off) cs':=by
 intro m n σ w v s h;obtain⟨b,e,f⟩:=h;obtain⟨l,g,j,k⟩:=s.blk i _ _ e d;have:=LR.cells (pre:=[]) (by simpa using g) k j;refine⟨b,off,f,a▸ ?_⟩;have:=this.drop off
 grind
theorem LR.get{ro:Nat->Prop}{σ:Sig}{w:World}:∀{az:List A} {l:List Value} (i:Nat) {a:A},LR ro σ w az l->az[i]?=some a->∃v,l[i]?=some v/\VR ro σ w a v
 |[],l,i,a,h,ha=>by simp at ha
 |x::az,l,0,a,⟨v,l',h1,h2,h3⟩,ha=>by
  grind
 |x::az,l,i+1,a,⟨v,l',h1,h2,h3⟩,ha=>by
  subst h1;obtain⟨v',q1,q2⟩:=LR.get i h3 (by simpa using ha)
  grind
theorem LR.drop{ro:Nat->Prop}{σ:Sig}{w:World}:∀(n:Nat) {az:List A} {l:List Value},LR ro σ w az l->LR ro σ w (az.drop n) (l.drop n)
 |0,az,l,h=>h
 |n+1,[],l,h=>by cases(show l=[]from h);rfl
 |n+1,a::az,l,⟨v,l',h1,h2,h3⟩=>by subst h1;exact LR.drop n h3
theorem LR.take{ro:Nat->Prop}{σ:Sig}{w:World}:∀(n:Nat) {az:List A} {l:List Value},LR ro σ w az l->LR ro σ w (az.take n) (l.take n)
 |0,az,l,h=>rfl
 |n+1,[],l,h=>by cases(show l=[]from h);rfl
 |n+1,a::az,l,⟨v,l',h1,h2,h3⟩=>by subst h1;exact⟨v,l'.take n,rfl,h2,LR.take n h3⟩
theorem LR.append{ro:Nat->Prop}{σ:Sig}{w:World}:∀{az:List A} {l:List Value} {bs:List A} {m:List Value},LR ro σ w az l->LR ro σ w bs m->LR ro σ w (az++bs) (l++m)
 |[],l,bs,m,h,k=>by cases(show l=[]from h);exact k
 |a::az,l,bs,m,⟨v,l',h1,h2,h3⟩,k=>by subst h1;exact⟨v,l'++m,rfl,h2,LR.append h3 k⟩
theorem QjX{ro:Nat->Prop}{σ:Sig}{w:World}{b t:Nat}{fz:Nat×Nat}:∀{cs:List A} {pre l post:List Value},w.heap[b]?=some (.cells (pre++(l++post)).toArray t fz)->(∀v∈l,Qo v)->
  LR ro σ w cs l->CR ro σ w b cs pre.length
 |[],_,_,_,_,_,_=>trivial
 |c::cs,pre,l,post,hb,hpl,⟨v,l',h1,h2,h3⟩=>by
  subst h1;refine⟨⟨v,by simp[World.cell?,hb],hpl v (by simp),h2⟩,?_⟩;have:=QjX (pre:=pre++[v]) (l:=l') (post:=post) (by simpa using hb) (by grind) h3
  grind
theorem Yt{ro:Nat->Prop}{σ:Sig}{w:World}{b t k:Nat}{fz:Nat×Nat}:∀{es:List (List A)} {pre l:List Value},w.heap[b]?=some (.cells (pre++l).toArray t fz)->
  RL ro σ w k es l->RR ro σ w b k es pre.length
 |[],_,_,_,_=>trivial
 |c::es,pre,l,hb,⟨l1,l2,h1,h2,h3,h4⟩=>by
  subst h1;refine⟨h2,QjX hb h3.2 h3.1,?_⟩;have hl:=h3.1.length;have:=Yt (pre:=pre++l1) (l:=l2) (by simpa using hb) h4
  grind
theorem Pts.row{i off t k e f:Nat}{es:List (List A)}{c cs':List A}(d:H[i]?=some (.row t k es))(p:off=e*k+f)(he:es[e]?=some c)(a:c.drop f=cs'):Pts H (.ptr i off) cs':=by
 intro q r σ w v s h;obtain⟨b,g,j⟩:=h;obtain⟨l,m,n⟩:=s.blk i _ _ g d;have:=((Yt (pre:=[]) (by simpa using m) n).get e he).2.drop f;refine⟨b,off,j,?_⟩;subst p a;simpa using this.lift
theorem Pts.rowr{i off t k e f:Nat}{es:List (List A)}{c cs':List A}(a:H[i]?=some (.rowr t k es))(r:off=e*k+f)(he:es[e]?=some c)(m:c.drop f=cs'):Pts H (.ptr i off) cs':=by
 intro p q σ w v s h;obtain⟨b,d,n⟩:=h;obtain⟨l,g,j⟩:=s.blk i _ _ d a;have:=((Yt (pre:=[]) (by simpa using g) j).get e he).2.drop f
 grind
theorem QkB{w w':World}(h:w'.heap=w.heap)(a:Addr):w'.cell? a=w.cell? a:=by unfold World.cell?;rw[h]
theorem Yx{ro:Nat->Prop}{σ:Sig}{w:World}{b off:Nat}:∀{cs:List A} (i:Nat),CR ro σ w b cs (off+i)->
  ∃l,LR ro σ w cs l/\(∀v∈l,Qo v)/\ ∀(w':World) (a:Array Value),w'.heap=w.heap->(loadCellsFrom ⟨b,off,none⟩ i cs.length a).run P w'=.ok (a++l.toArray) w'
 |[],i,h=>⟨[],rfl,by simp,λw' a _=>by rfl⟩
 |c::cs,i,⟨⟨v,h1,hp,h2⟩,h3⟩=>by
  obtain⟨l,q1,qp,q2⟩:=Yx (cs:=cs) (i+1) (by omega);refine⟨v::l,⟨v,l,rfl,h2,q1⟩,by grind,λw' a hw=>?_⟩;have h1':w'.cell? ⟨b,off+i,none⟩=some v:=by rw[QkB hw];exact h1
  simp_all[loadCellsFrom,YR]
theorem Qu{t n:Nat}{x:Operand}{p:A}{cs vs:List A}(z:o.op=.load t x)(y:∀w,(isAgg t).run P w=.ok true w)(u:∀w,(sizeOf t).run P w=.ok n w)(h:opA env x=p)(k:Pts H p cs)
  (f:cs.take n=vs)(m:vs.length=n):OpV P o env H (.agg vs):=by
 intro j q σ N a w r;have e:=Qk r x;rw[h]at e;obtain⟨b,off,s,g⟩:=k j q σ w _ r.sim e;subst f;obtain⟨l,i,_,d⟩:=Yx (P:=P) (cs:=cs.take n) (off:=off) 0 (by simpa using g.take n);have d:=d w #[] rfl;rw[m]at d;refine⟨.agg l.toArray,?_,l,rfl,i⟩
 simp_all[execOp,Instr.loadAt,Instr.sureAddr,loadVar,loadCells]
theorem OpV.load{t:Nat}{x:Operand}{p v:A}{cs:List A}(n:o.op=.load t x)(m:∀w,(isAgg t).run P w=.ok false w)(e:opA env x=p)(g:Pts H p (v::cs)):OpV P o env H v:=by
 intro f h σ N a w r;have d:=Qk r x;rw[e]at d;obtain⟨b,i,j,⟨y,k,_,l⟩,_⟩:=g f h σ w _ r.sim d
 simp_all[execOp,Instr.loadAt,Instr.sureAddr,loadVar]
theorem OpV.extract{x:Operand}{vs:List A}{i:Nat}{v:A}(m:o.op=.extract x i)(e:opA env x=.tup vs)(f:vs[i]?=some v):OpV P o env H v:=by
 intro j k σ N a w r;have b:=Qk r x;rw[e]at b;obtain⟨l,b,d⟩:=b;obtain⟨y,g,h⟩:=d.get i f
 simp_all[execOp,Instr.extract]
theorem OpV.field{T f off n:Nat}{x:Operand}{cs:List A}{v:A}(i:YO P T f off n)(d:∀fs fd,(∀w,(underlying T).run P w=.ok (.struct fs) w)->fs[f]?=some fd->∀w,(isAgg fd.type).run P w=.ok false w)
  (B:o.op=.field T x f)(g:opA env x=.agg cs)(j:cs[off]?=some v):OpV P o env H v:=by
 intro t u σ N a w r;have b:=Qk r x;rw[g]at b;obtain⟨l,b,e⟩:=b;obtain⟨y,p,q⟩:=e.get off j;obtain⟨fs,fd,m,k,rfl,z,s⟩:=i.h
 simp_all[execOp,Instr.field,asAgg,part]
theorem Qbg{fr ro:Nat->Prop}{σ:Sig}{N:Nat}{a:Act}{w:World}(r:Rel fr ro σ H env N a w):∀(l:List Operand),LR ro σ w (l.map (opA env)) (l.map a.eval)
 |[]=>rfl
 |x::l=>⟨_,_,rfl,Qk r x,Qbg r l⟩
theorem OpV.makeFunc{f:Fn}{first cap:List Operand}{vf vc:List A}(h:o.op=.makeFunc f first.toArray cap.toArray)(d:first.map (opA env)=vf)(b:cap.map (opA env)=vc):OpV P o env H (.fn f vf vc):=by
 intro e g σ N a w r;refine⟨.func f (first.map a.eval).toArray (cap.map a.eval).toArray,?_,_,_,rfl,d▸Qbg r first,b▸Qbg r cap⟩
 simp_all[execOp,Instr.makeFunc]
theorem Qan{t:TypeId}{x:Operand}{v:A}{d:TypeDesc}(j:o.op=.makeInterface t x)(h:∀w,(underlying t).run P w=.ok d w)(f:∀m,d≠ .interface m)(e:opA env x=v):OpV P o env H (.iface t v):=by
 intro g i σ N a w r;have b:=Qk r x;rw[e]at b;refine⟨.iface t (a.eval x),?_,_,rfl,b⟩
 simp_all[execOp,Instr.makeInterface]
end
end Go.Sw
namespace Go.Sw
mutual
def Yr:A->Bool
 |.ptr _ _=>false
 |.osl _ _ _ _=>false
 |.map _=>false
 |.agg cs=>Yz cs
 |.fn _ a c=>Yz a&&Yz c
 |.iface _ v=>Yr v
 |.tup vs=>Yz vs
 |_=>true
def Yz:List A->Bool
 |[]=>true
 |a::r=>Yr a&&Yz r
end
mutual
theorem VR.data{ro:Nat->Prop}{σ σ':Sig}{w:World}:∀{a:A} {v:Value},Yr a=true->VR ro σ w a v->VR ro σ' w a v
 |.any,_,_,_=>trivial
 |.bool b,v,_,q=>q
 |.int k n,v,_,q=>q
 |.str s,v,_,q=>q
 |.nilp,v,_,q=>q
 |.ptr i off,v,d,q=>by simp[Yr]at d
 |.rp cs,v,_,q=>q
 |.nils,v,_,q=>q
 |.rsl k es,v,_,q=>q
 |.osl i o n k,v,d,q=>by simp[Yr]at d
 |.agg cs,v,d,q=>by
  simp only[VR,Yr]at q d⊢;obtain⟨l,h1,h2⟩:=q;exact⟨l,h1,LR.data d h2⟩
 |.fn f a c,v,d,q=>by
  simp only[VR,Yr,XW]at q d⊢;obtain⟨l,l',h1,h2,h3⟩:=q;exact⟨l,l',h1,LR.data d.1 h2,LR.data d.2 h3⟩
 |.nilf,v,_,q=>q
 |.iface t a,v,d,q=>by
  simp only[VR,Yr]at q d⊢;obtain⟨x,h1,h2⟩:=q;exact⟨x,h1,VR.data d h2⟩
 |.nilif,v,_,q=>q
 |.map i,v,d,q=>by simp[Yr]at d
 |.nilm,v,_,q=>q
 |.tup vs,v,d,q=>by
  simp only[VR,Yr]at q d⊢;obtain⟨l,h1,h2⟩:=q;exact⟨l,h1,LR.data d h2⟩
theorem LR.data{ro:Nat->Prop}{σ σ':Sig}{w:World}:∀{az:List A} {l:List Value},Yz az=true->LR ro σ w az l->LR ro σ' w az l
 |[],_,_,q=>q
 |a::r,l,d,q=>by
  simp only[LR,Yz,XW]at q d⊢;obtain⟨v,l',h1,h2,h3⟩:=q;exact⟨v,l',h1,VR.data d.1 h2,LR.data d.2 h3⟩
end
def Yq:A->Bool
 |.any|.agg _|.tup _=>false
 |_=>true
def Q8:A->List A
 |.agg cs=>cs
 |a=>[a]
def Yj:A->Bool
 |.any=>false
 |_=>true
theorem VR.plain{ro:Nat->Prop}{σ:Sig}{w:World}{a:A}{v:Value}(b:Yq a=true)(h:VR ro σ w a v):Qo v:=by
 cases a<;>first|(simp[Yq]at b;done)|skip
 case rsl k es=>obtain⟨d,c,rfl,_⟩:=h;trivial
 case osl=>rcases h with⟨_,rfl⟩|⟨_,_,_,_,_,_,rfl,_⟩<;>trivial
 case fn=>obtain⟨_,_,rfl,_⟩:=h;trivial
 case iface=>obtain⟨_,rfl,_⟩:=h;trivial
 case ptr=>obtain⟨_,_,rfl⟩:=h;trivial
 case rp=>obtain⟨_,_,rfl,_⟩:=h;trivial
 case map=>obtain⟨_,_,rfl⟩:=h;trivial
 all_goals (simp only[VR]at h;subst h;trivial)
theorem VR.cells{ro:Nat->Prop}{σ:Sig}{w:World}{a:A}{v:Value}(d:Yj a=true)(h:VR ro σ w a v):∃l:List Value,v.cells=l.toArray/\LR ro σ w (Q8 a) l:=by
 cases a
 case any=>simp[Yj]at d
 case agg cs=>obtain⟨l,rfl,h⟩:=h;exact⟨l,rfl,h⟩
 case tup cs=>obtain⟨l,rfl,h⟩:=h;exact⟨[.tuple l.toArray],rfl,_,_,rfl,⟨l,rfl,h⟩,rfl⟩
 all_goals
  have b:=h.plain rfl;refine⟨[v],?_,v,[],rfl,h,rfl⟩;cases v<;>first|rfl|exact b.elim
theorem LR.plain{ro:Nat->Prop}{σ:Sig}{w:World}:∀{az:List A} {l:List Value},az.all Yq=true->LR ro σ w az l->∀v∈l,Qo v
 |[],l,_,h=>by cases(show l=[]from h);simp
 |a::az,l,hp,⟨v,l',h1,h2,h3⟩=>by
  subst h1;simp only[List.all_cons,XW]at hp;intro x hx;rcases X6.1 hx with rfl|hx
  .exact h2.plain hp.1
  .exact LR.plain hp.2 h3 x hx
theorem Ys(w:World)(obj:Obj)(b:Nat)(a:b<w.heap.size):(w.alloc obj).heap[b]?=w.heap[b]? :=by
 show(w.heap.push obj)[b]?=_
 grind
theorem Q0(w:World)(obj:Obj):(w.alloc obj).heap[w.heap.size]?=some obj:=by
 show(w.heap.push obj)[w.heap.size]?=_;simp
theorem YY(w:World)(obj:Obj):(w.alloc obj).heap.size=w.heap.size+1:=by
 simp
theorem Qlh{w:World}{b:Nat}{x:TypeId×Nat}(h:w.shape? b=some x):b<w.heap.size:=by
 grind[World.shape?]
theorem Qi.alloc{fr ro:Nat->Prop}{w:World}(obj:Obj)(hro:∀b,ro b->b<w.heap.size)(hfr:∀b,fr b->b<w.heap.size):Qi fr ro w ro (w.alloc obj):=
 ⟨λ_ h=>h,λb h=>Ys w obj b (hro b h),λb h=>Ys w obj b (hfr b h),by simp,
  λb x h=>by grind[World.shape?,Ys],rfl,rfl,rfl,XT _⟩
section
variable {P:Program} {o:Oper} {env:Env} {H:Qd} {fr ro:Nat->Prop} {σ:Sig} {w:World}
theorem Sim.alloc(s:Sim fr ro σ H w){obj:Obj}{x:Blk}(J:BR ro (σ++[some w.heap.size]) (w.alloc obj) x (some w.heap.size))
  (u:∀c,Hid (w.alloc obj) x w.heap.size c->False:=by exact λ_ h=>h.elim):
  Sim fr ro (σ++[some w.heap.size]) (H++[x]) (w.alloc obj):=by
 have ev:Qi fr ro w ro (w.alloc obj):=Qi.alloc obj s.roLt s.frLt;have p:=s.len;have e:∀(i:Nat) (y:Option Nat),(σ++[some w.heap.size])[i]?=some y->(i<σ.length/\σ[i]?=some y)\/(i=σ.length/\y=some w.heap.size):=by
  grind
 have k:∀i:Nat,i<σ.length->(H++[x])[i]?=H[i]? :=λi G=>XM (by omega);have F:(H++[x])[σ.length]?=some x:=by rw[p];simp
 refine⟨by simp[p],s.roOk.to (λ_ q=>q) ev.keepRo (λb h=>?_),λb h=>?_,s.roFr,?_,?_,?_,?_⟩
 .rw[YY];have:=s.roLt b h;omega
 .rw[YY];have:=s.frLt b h;omega
 .intro i b y f g m;rw[YY];rcases e i _ f with⟨q,f⟩|⟨rfl,n⟩
  .rw[k i q]at g;obtain⟨a,b,c⟩:=s.own i b y f g m
   grind
  .cases n;exact⟨by omega,λq=>by have:=s.roLt _ q;omega,λq=>by have:=s.frLt _ q;omega⟩
 .intro i j b y z f g m t B E;rcases e i _ f with⟨q,f⟩|⟨rfl,n⟩<;>rcases e j _ g with⟨q',g⟩|⟨rfl,e2⟩
  .rw[k i q]at m;rw[k j q']at t;exact s.inj i j b y z f g m t B E
  .cases e2;rw[k i q]at m;have:=(s.own i _ y f m B).1;omega
  .cases n;rw[k j q']at t;have:=(s.own j _ z g t E).1;omega
  .rfl
 .intro i y z f g;rcases e i _ f with⟨q,f⟩|⟨rfl,n⟩
  .rw[k i q]at g;refine(s.blk i y z f g).keep (ev.ext σ _) ?_ ?_
   .rintro b rfl p;exact Ys w obj b (s.own i b z f g p).1
   .rintro b c rfl p;exact Ys w obj c (s.hid i b z c f g p).lt
  grind
 .refine s.hidTo (· = ·) Q3 (by rw[YY];omega) (λ_ _ _ _ _ _ _ q=>q) (λ_ _ _ _ _ _ _ q=>q) λj d y r l L=>?_;rcases e j _ r with⟨q,r⟩|⟨rfl,n⟩
  .rw[k j q]at l;exact .inl ⟨j,y,rfl,r,l,id,λc q=>s.hidKeep r l (λz=>Ys w obj d (s.own j d y r l z).1) ev.keepRo q⟩
  .rw[F]at l;cases l;cases n;exact .inr ⟨XT _,u⟩
theorem Sim.allocCells(s:Sim fr ro σ H w){t:Nat}{cs:List A}{l:List Value}(h:LR ro σ w cs l)(hp:∀v∈l,Qo v):
  Sim fr ro (σ++[some w.heap.size]) (H++[.cells t cs]) (w.alloc (.cells l.toArray t)):=
 s.alloc ⟨l,Q0 _ _,h.mono ((Qi.alloc (fr:=fr) _ s.roLt s.frLt).ext σ _),hp⟩
theorem Qii{ro:Nat->Prop}{σ:Sig}{w:World}:∀{az bs:List A} {l:List Value},LR ro σ w (az++bs) l->∃l1 l2,l=l1++l2/\LR ro σ w az l1/\LR ro σ w bs l2
 |[],bs,l,h=>⟨[],l,rfl,rfl,h⟩
 |a::az,bs,l,⟨v,l',h1,h2,h3⟩=>by
  obtain⟨l1,l2,e,q1,q2⟩:=Qii h3;subst h1 e;exact⟨v::l1,l2,rfl,⟨v,l1,rfl,h2,q1⟩,q2⟩
def allK(k:Nat):List (List A)->Prop
 |[]=>True
 |c::es=>c.length=k/\allK k es
theorem YM{k:Nat}:∀{es:List (List A)} {l rest:List Value},allK k es->LR ro σ w es.flatten l->(∀v∈l,Qo v)->RL ro σ w k es (l++rest)
 |[],_,_,_,_,_=>trivial
 |c::es,l,rest,⟨h1,h2⟩,h,hp=>by
  rw[Vl]at h;obtain⟨l1,l2,rfl,q1,q2⟩:=Qii h;exact⟨l1,l2++rest,by simp,h1,(by grind),YM h2 q2 (by grind)⟩
theorem Sim.allocRow(s:Sim fr ro σ H w){t k:Nat}{es:List (List A)}{l rest:List Value}(hk:allK k es)(h:LR ro [] w es.flatten l)(hp:∀v∈l,Qo v):
  Sim fr ro (σ++[some w.heap.size]) (H++[.row t k es]) (w.alloc (.cells (l++rest).toArray t)):=
 s.alloc ⟨l++rest,Q0 _ _,(YM hk h hp).mono ((Qi.alloc (fr:=fr) _ s.roLt s.frLt).ext0 [])⟩
theorem Sim.allocRowr(s:Sim fr ro σ H w){t k:Nat}{es:List (List A)}{l rest:List Value}(hk:allK k es)(h:LR ro σ w es.flatten l)(hp:∀v∈l,Qo v):
  Sim fr ro (σ++[some w.heap.size]) (H++[.rowr t k es]) (w.alloc (.cells (l++rest).toArray t)):=
 s.alloc ⟨l++rest,Q0 _ _,(YM hk h hp).mono ((Qi.alloc (fr:=fr) _ s.roLt s.frLt).ext σ _)⟩
theorem OpH.box{t:Nat}{x:Operand}{v:A}{cs:List A}(n:o.op=.box t x)(i:opA env x=v)(j:Yj v=true)(d:Q8 v=cs)(b:cs.all Yq=true):
  OpH P o env H (.ptr H.length 0) (H++[.cells t cs]):=by
 intro m k σ N a w r;have f:=Qk r x;rw[i]at f;obtain⟨l,h,g⟩:=f.cells j;subst d;refine⟨.pointer (some ⟨w.heap.size,0,none⟩),w.alloc (.cells l.toArray t),k,[some w.heap.size],?_,⟨w.heap.size,?_,rfl⟩,r.sim.allocCells g (g.plain b),Qi.alloc _ r.sim.roLt r.sim.frLt⟩
 .generalize a.eval=ρ at*;have e:(newVar t (ρ x)).run P w=.ok ⟨w.heap.size,0,none⟩ (w.alloc (.cells l.toArray t)):=by
   unfold newVar;rw[h];rfl
  simp_all[execOp,Instr.box]
 .rw[<- r.sim.len];simp
theorem Sim.set(s:Sim fr ro σ H w){i b:Nat}{x x':Blk}{obj:Obj}(hσ:σ[i]?=some (some b))(p:H[i]?=some x)(r:x.live=true)
  (T:∀y,w.shape? b=some y->({w with heap:=w.heap.setIfInBounds b obj}:World).shape? b=some y)
  (G:Ext ro σ w ro σ {w with heap:=w.heap.setIfInBounds b obj}->({w with heap:=w.heap.setIfInBounds b obj}:World).heap[b]?=some obj->BR ro σ {w with heap:=w.heap.setIfInBounds b obj} x' (some b))
  (V:∀c,Hid {w with heap:=w.heap.setIfInBounds b obj} x' b c->Hid w x b c:=by exact λ_ h=>h.elim):
  Sim fr ro σ (H.set i x') {w with heap:=w.heap.setIfInBounds b obj}/\Qi fr ro w ro {w with heap:=w.heap.setIfInBounds b obj}:=by
 obtain⟨X,O,P⟩:=s.own i b x hσ p r;have n:∀c,c≠b->({w with heap:=w.heap.setIfInBounds b obj}:World).heap[c]?=w.heap[c]? :=by
  grind
 have F:({w with heap:=w.heap.setIfInBounds b obj}:World).heap[b]?=some obj:=by
  grind
 have m:({w with heap:=w.heap.setIfInBounds b obj}:World).heap.size=w.heap.size:=by simp
 have ev:Qi fr ro w ro {w with heap:=w.heap.setIfInBounds b obj}:=
  ⟨λ_ h=>h,(by grind),(by grind),by omega,by
   grind[World.shape?],rfl,rfl,rfl,XT _⟩
 have W:i<H.length:=(by grind);have Q:(H.set i x')[i]?=some x':=(by grind);have a:∀j,j≠i->(H.set i x')[j]?=H[j]? :=(by grind);have L:=G (ev.ext0 σ) F;refine⟨⟨by rw[X4];exact s.len,s.roOk.to (λ_ q=>q) ev.keepRo (λc h=>by rw[m];exact s.roLt c h),λc h=>by rw[m];exact s.frLt c h,s.roFr,?_,?_,?_,?_⟩,ev⟩
 .intro j c y g f t;rw[m];by_cases q:j=i
  .grind
  .rw[a j q]at f;exact s.own j c y g f t
 .intro j l c y z g f t E M N;by_cases q:j=i
  .subst q;rw[hσ]at g;cases g;by_cases u:l=j
   .exact u.symm
   .rw[a l u]at E;exact s.inj j l _ x z hσ f p E r N
  .rw[a j q]at t;by_cases u:l=i
   .subst u;rw[hσ]at f;cases f;exact s.inj j l _ y x g hσ t p M r
   .rw[a l u]at E;exact s.inj j l c y z g f t E M N
 .intro j y z g f;by_cases q:j=i
  .grind
  .rw[a j q]at f;refine(s.blk j y z g f).keep (ev.ext0 σ) ?_ ?_
   .rintro c rfl k;exact n c (λe=>q (s.inj j i b z x (e▸g) hσ f p k r))
   .rintro c d rfl R;exact n d ((s.hid j c z d g f R).ne i b x hσ p r)
 .refine s.hidTo (· = ·) Q3 (by omega) (λ_ _ _ _ _ _ _ q=>q) (λ_ _ _ _ _ _ _ q=>q) λj d y J B Y=>.inl ?_;by_cases q:j=i
  .grind
  .rw[a j q]at B;exact⟨j,y,rfl,J,B,id,λc z=>s.hidKeep J B (λk=>n d (λe=>q (s.inj j i b y x (e▸J) hσ B p k r))) ev.keepRo z⟩
def splice{α:Type}(l:List α)(o:Nat)(vs:List α):List α:=l.take o++vs++l.drop (o+vs.length)
theorem Q1{α:Type}{l:List α}{o:Nat}{vs:List α}(h:o+vs.length<=l.length):(splice l o vs).length=l.length:=by
 simp[splice];omega
theorem Qdi{h:Array Obj}{b:Nat}{f:Obj->Obj}{x:Obj}(a:h[b]?=some x):h.modify b f=h.setIfInBounds b (f x):=by
 grind
theorem Q4{b t:Nat}:∀{vs l:List Value} {w:World} (off i:Nat),w.heap[b]?=some (.cells l.toArray t (0,0))->off+i+vs.length<=l.length->(∀v∈vs,Qo v)->
  (storeCells ⟨b,off,none⟩ vs i).run P w=.ok () {w with heap:=w.heap.setIfInBounds b (.cells (splice l (off+i) vs).toArray t (0,0))}
 |[],l,w,off,i,hb,hl,hp=>by
  have e:w.heap.setIfInBounds b (.cells (splice l (off+i) []).toArray t (0,0))=w.heap:=by
   apply Array.ext_getElem?;intro j;rw[Ve];by_cases q:b=j
   .subst q;obtain⟨a,r⟩:=Vc.1 hb;simp[a,splice,r]
   grind
  rw[e];rfl
 |v::vs,l,w,off,i,hb,hl,hp=>by
  simp only[X0]at hl;have p:=hp v (by simp);have h:w.cell? ⟨b,off+i,none⟩=some l[off+i]:=by
   simp[World.cell?,hb]
  have f:w.frozen? ⟨b,off+i,none⟩=false:=by
   simp[World.frozen?,hb]
  have d:w.setCell ⟨b,off+i,none⟩ v={w with heap:=w.heap.setIfInBounds b (.cells (splice l (off+i) [v]).toArray t (0,0))}:=by
   unfold World.setCell;rw[Qdi hb];simp only[Option.isSome_none,Xi,if_false];congr 3;have:l.toArray.setIfInBounds (off+i) v=(l.set (off+i) v).toArray:=by simp
   rw[this];congr 1;rw[List.set_eq_take_append_cons_drop,Vt (by omega)];simp[splice]
  have a:b<w.heap.size:=by
   grind
  have k:=Q4 (vs:=vs) (l:=splice l (off+i) [v]) (w:={w with heap:=w.heap.setIfInBounds b (.cells (splice l (off+i) [v]).toArray t (0,0))}) off (i+1)
   (by show(w.heap.setIfInBounds b _)[b]?=_;rw[Ve,Vt rfl,Vt a])
   (by rw[Q1 (by simp;omega)];omega) (by grind)
  have x:splice (splice l (off+i) [v]) (off+(i+1)) vs=splice l (off+i) (v::vs):=by
   have g:(l.take (off+i)).length=off+i:=by simp;omega
   unfold splice;rw[Vi (l.take (off+i))];have s:off+(i+1)=(l.take (off+i)).length+1:=by omega
   have u:(l.take (off+i)++([v]++l.drop (off+i+[v].length))).take ((l.take (off+i)).length+1)=l.take (off+i)++[v]:=by
    grind
   have y:(l.take (off+i)++([v]++l.drop (off+i+[v].length))).drop ((l.take (off+i)).length+1+vs.length)=l.drop (off+i+(v::vs).length):=by
    rw[show(l.take (off+i)).length+1+vs.length=(l.take (off+i)).length+(1+vs.length)from by omega,Va];simp[Nat.add_comm 1];omega
   simp_all
  have n:(w.heap.setIfInBounds b (.cells (splice l (off+i) [v]).toArray t (0,0))).setIfInBounds b (.cells (splice (splice l (off+i) [v]) (off+(i+1)) vs).toArray t (0,0))=
    w.heap.setIfInBounds b (.cells (splice l (off+i) (v::vs)).toArray t (0,0)):=by
   grind
  rw[n]at k;have m:(Go.store ⟨b,off+i,none⟩ v).run P w=.ok () {w with heap:=w.heap.setIfInBounds b (.cells (splice l (off+i) [v]).toArray t (0,0))}:=by
   rw[<- d];cases v<;>first|exact p.elim|simp[Go.store,Sem.run,h,f,go_sem]
  simp_all[storeCells,YR]
theorem Jf{w:World}{b t:Nat}{l l':List Value}(d:w.heap[b]?=some (.cells l.toArray t (0,0)))(e:l'.length=l.length)(y:TypeId×Nat)(h:w.shape? b=some y):
  ({w with heap:=w.heap.setIfInBounds b (.cells l'.toArray t (0,0))}:World).shape? b=some y:=by
 have a:b<w.heap.size:=by
  grind
 simp_all[World.shape?]
theorem LR.splice{ro:Nat->Prop}{σ:Sig}{w:World}{az vs:List A}{l m:List Value}(off:Nat)(h:LR ro σ w az l)(k:LR ro σ w vs m):LR ro σ w (Sw.splice az off vs) (Sw.splice l off m):=by
 unfold Sw.splice;rw[k.length];exact((h.take off).append k).append (h.drop _)
theorem QeN{l m:List Value}{off:Nat}(h:∀v∈l,Qo v)(k:∀v∈m,Qo v):∀v∈Sw.splice l off m,Qo v:=by
 grind[Sw.splice]
theorem OpU.store{t n i off T:Nat}{x y:Operand}{cs vs cs':List A}{v:A}(X:o.op=.store t x y)(J:opA env x=.ptr i off)(q:H[i]?=some (.cells T cs))(W:∀w,(sizeOf t).run P w=.ok n w)
  (h:opA env y=v)(O:Yj v=true)(Q:Q8 v=vs)(G:vs.length=n)(F:vs.all Yq=true)(B:Nat.ble (off+n) cs.length=true)(p:splice cs off vs=cs'):
  OpU P o env H (H.set i (.cells T cs')):=by
 intro fr L σ N a w r;have d:=Qk r x;rw[J]at d;obtain⟨b,d,V⟩:=d;have E:=Qk r y;rw[h]at E;obtain⟨m,Y,g⟩:=E.cells O;rw[Q]at g;obtain⟨l,s,k,R⟩:=r.sim.blk i _ _ d q;have j:off+n<=cs.length:=by simp_all
 have u:m.length=n:=by rw[g.length,G]
 have z:=Q4 (P:=P) (vs:=m) off 0 s (by rw[k.length,u];omega) (g.plain F);have f:=r.sim.set (x':=.cells T cs') (obj:=.cells (splice l off m).toArray T (0,0)) d q rfl
  (λy h=>Jf s (Q1 (by rw[k.length,u];omega)) y h)
  (λe M=>⟨_,M,p▸(k.splice off g).mono e,QeN R (g.plain F)⟩)
 refine⟨_,L,[],?_,by grind,f.2⟩
 simp_all[storeVar,execOp,Instr.storeAt,Instr.sureAddr]
theorem RL.splice{ro:Nat->Prop}{σ:Sig}{w:World}{k:Nat}:∀{e:Nat} {es:List (List A)} {l m:List Value} {c a:List A} {f:Nat},RL ro σ w k es l->es[e]?=some c->LR ro σ w a m->(∀v∈m,Qo v)->f+a.length<=k->
  RL ro σ w k (es.set e (Sw.splice c f a)) (Sw.splice l (e*k+f) m)
 |_,[],_,_,_,_,_,_,h,_,_,_=>by simp at h
 |0,c0::es,l,m,c,a,f,⟨l1,l2,h1,h2,h3,h4⟩,hc,hm,hp,hf=>by
  simp at hc;subst hc h1;have hl1:=h3.1.length;refine⟨Sw.splice l1 f m,l2,?_,?_,⟨h3.1.splice f hm,QeN h3.2 hp⟩,h4⟩
  .unfold Sw.splice;simp only[Nat.zero_mul,Xv,Vi];rw[X7 (by omega),X8 (by rw[hm.length];omega)]
  .rw[Q1 (by omega)];exact h2
 |e+1,c0::es,l,m,c,a,f,⟨l1,l2,h1,h2,h3,h4⟩,hc,hm,hp,hf=>by
  subst h1;have hl1:=h3.1.length;refine⟨l1,Sw.splice l2 (e*k+f) m,?_,h2,h3,RL.splice h4 (by grind) hm hp hf⟩;have e1:(e+1)*k+f=l1.length+(e*k+f):=by grind
  unfold Sw.splice;rw[e1,Vb,show l1.length+(e*k+f)+m.length=l1.length+(e*k+f+m.length)from by omega,Va];simp
theorem RL.length{ro:Nat->Prop}{σ:Sig}{w:World}{k:Nat}:∀{es:List (List A)} {l:List Value},RL ro σ w k es l->es.length*k<=l.length
 |[],l,_=>by simp
 |c::es,l,⟨l1,l2,h1,h2,h3,h4⟩=>by
  subst h1;have:=RL.length h4;have:=h3.1.length
  grind[Nat.succ_mul]
theorem Qg9{t n i off T k e f:Nat}{x y:Operand}{es d:List (List A)}{c vs F:List A}{v:A}(ho:o.op=.store t x y)(R:opA env x=.ptr i off)(B:H[i]?=some (.row T k es))(hs:∀w,(sizeOf t).run P w=.ok n w)
  (j:off=e*k+f)(X:es[e]?=some c)(s:opA env y=v)(Y:Yj v=true)(W:Q8 v=vs)(Q:vs.length=n)(O:vs.all Yq=true)(V:Yz vs=true)(hf:Nat.ble (f+n) k=true)
  (z:splice c f vs=F)(q:es.set e F=d):
  OpU P o env H (H.set i (.row T k d)):=by
 intro fr ro σ N a w r;have g:=Qk r x;rw[R]at g;obtain⟨b,g,h2⟩:=g;have L:=Qk r y;rw[s]at L;obtain⟨m,h4,p⟩:=L.cells Y;rw[W]at p;obtain⟨l,J,M⟩:=r.sim.blk i _ _ g B;have aa:f+n<=k:=by simp_all
 have hm:m.length=n:=by rw[p.length,Q]
 have he:e<es.length:=(by grind);have E:off+n<=l.length:=by
  have:=M.length;have h6:(e+1)*k<=es.length*k:=XC k he
  grind
 have G:=Q4 (P:=P) (vs:=m) off 0 J (by omega) (p.plain O);have h:=r.sim.set (x':=.row T k d) (obj:=.cells (splice l off m).toArray T (0,0)) g B rfl
  (λy s=>Jf J (Q1 (by omega)) y s)
  (λex u=>⟨_,u,by
   subst q z j;exact(M.splice X (p.data V) (p.plain O) (by omega)).mono ex.nil⟩)
 refine⟨_,ro,[],?_,by grind,h.2⟩
 simp_all[storeVar,execOp,Instr.storeAt,Instr.sureAddr]
end
end Go.Sw
namespace Go.Sw
section
variable {P:Program} {o:Oper} {env:Env} {H:Qd} {fr ro:Nat->Prop} {σ:Sig} {w:World}
theorem Ext.heap{w':World}(h:w'.heap=w.heap):Ext ro σ w ro σ w':=
 ⟨λ_ q=>q,λb _=>by rw[h],λb x q=>by unfold World.shape? at q⊢;grind,λ_ _ q=>q⟩
theorem Sim.heap{w':World}(s:Sim fr ro σ H w)(h:w'.heap=w.heap):Sim fr ro σ H w':=
 ⟨s.len,s.roOk.to (λ_ q=>q) (λb _=>by rw[h]) (λb q=>by rw[h];exact s.roLt b q),λb q=>by rw[h];exact s.frLt b q,s.roFr,λi b x q1 q2 q3=>by rw[h];exact s.own i b x q1 q2 q3,s.inj,
  λi y x q1 q2=>(s.blk i y x q1 q2).keep (Ext.heap h) (by grind) (by grind),
  s.hidTo (· = ·) Q3 (by grind) (by simp) (by simp) λj d y g1 g2 g3=>.inl ⟨j,y,rfl,g1,g2,id,λc q=>q.keep (by rw[h])⟩⟩
theorem Qi.heap{w':World}(h:w'.heap=w.heap)(ho:w'.os=w.os)(ht:w'.tape=w.tape)(hu:w'.output=w.output)(hd:w.drawn<=w'.drawn):Qi fr ro w ro w':=
 ⟨λ_ q=>q,λb _=>by rw[h],λb _=>by rw[h],by grind,λb x q=>by unfold World.shape? at q⊢;grind,ho,ht,hu,hd⟩
theorem Sim.moved(s:Sim fr ro σ H w){i:Nat}{x:Blk}{y:Option Nat}(l:H[i]?=some x)(hσ:σ[i]?=some y):Sim fr ro (σ++[y]) (H.set i .dead++[x]) w:=by
 have G:=s.len;have Q:i<H.length:=(by grind);have a:∀(j:Nat) (z:Option Nat) (v:Blk),(σ++[y])[j]?=some z->(H.set i .dead++[x])[j]?=some v->v≠ .dead->
   (j<σ.length/\j≠i/\σ[j]?=some z/\H[j]?=some v)\/(j=σ.length/\z=y/\v=x):=by
  grind
 have hσ':∀(j:Nat) (b:Nat),σ[j]?=some (some b)->(σ++[y])[j]?=some (some b):=(by grind);have ext:Ext ro σ w ro (σ++[y]) w:=⟨λ_ q=>q,λ_ _=>rfl,λ_ _ q=>q,hσ'⟩;refine⟨by simp[G],s.roOk,s.frLt,s.roFr,?_,?_,?_,s.hidTo (λj B=>(j<σ.length/\j≠i/\B=j)\/(j=σ.length/\B=i)) (by omega) (XT _) (by simp) (by simp) λj d y L M P=>.inl ?_⟩
 rotate_left 3
 .rcases a j _ y L M (Qen P)with⟨N,J,e,f⟩|⟨N,m,rfl⟩
  .grind
  grind
 .intro j b v g h k;rcases a j _ v g h (Qar k)with⟨_,_,e,f⟩|⟨_,m,rfl⟩
  .exact s.own j b v e f k
  .subst m;exact s.own i b v hσ l k
 .intro j t b v r g h k O n p;rcases a j _ v g k (Qar n)with⟨_,E,e,f⟩|⟨R,m,F⟩<;>rcases a t _ r h O (Qar p)with⟨_,n1',q1',q2'⟩|⟨r1',e1',r2'⟩
  .exact s.inj j t b v r e q1' f q2' n p
  .subst e1' r2';exact(E (s.inj j i b v r e hσ f l n p)).elim
  .subst m F;exact(n1' (s.inj t i b r v q1' hσ q2' l p n)).elim
  omega
 .intro j z v g h;by_cases u:v≠ .dead
  .rcases a j z v g h u with⟨_,_,e,f⟩|⟨_,rfl,rfl⟩
   .exact(s.blk j z v e f).keep ext (λ_ _ _=>rfl) (λ_ _ _ _=>rfl)
   .exact(s.blk i _ _ hσ l).keep ext (λ_ _ _=>rfl) (λ_ _ _ _=>rfl)
  .obtain rfl:v=.dead:=Classical.not_not.1 u;trivial
def Src(P:Program)(H:Qd)(x:A)(k:Nat)(es:List (List A)):Prop:=
 ∀fr ro σ w v,Sim fr ro σ H w->VR ro σ w x v->(∃a c,v=.slice a es.length c)/\allK k es/\
  ∃l,(∀w':World,w'.heap=w.heap->(Builtin.firstCells k es.length v).run P w'=.ok l.toArray w')/\LR ro [] w es.flatten l/\ ∀v∈l,Qo v
theorem RR.flat{b k:Nat}:∀{es:List (List A)} {off:Nat},RR ro σ w b k es off->CR ro σ w b es.flatten off/\allK k es/\es.flatten.length=es.length*k
 |[],off,_=>⟨trivial,trivial,by simp⟩
 |c::es,off,⟨h1,h2,h3⟩=>by
  obtain⟨q1,q2,q3⟩:=RR.flat h3;refine⟨?_,⟨h1,q2⟩,by grind⟩;rw[Vl];have:∀(c:List A) (off:Nat) (d:List A),CR ro σ w b c off->CR ro σ w b d (off+c.length)->CR ro σ w b (c++d) off:=by
   intro c
   induction c with
   |nil=>simp
   |cons x c a=>intro off d ⟨h1,h2⟩ h;exact⟨h1,a (off+1) d h2 (by grind)⟩
  grind
theorem Qa8{b off k n c:Nat}{cs:List A}(h:CR ro σ w b cs off)(d:cs.length=n*k):
  ∃l,(∀w':World,w'.heap=w.heap->(Builtin.firstCells k n (.slice (some ⟨b,off,none⟩) n c)).run P w'=.ok l.toArray w')/\LR ro σ w cs l/\ ∀v∈l,Qo v:=by
 obtain⟨l,a,e,f⟩:=Yx (P:=P) (cs:=cs) (off:=off) 0 (by simpa using h)
 grind[Builtin.firstCells,loadCells]
theorem YC{k c:Nat}{a:Option Addr}:(Builtin.firstCells k 0 (.slice a 0 c)).run P w=.ok #[] w:=by
 cases a<;>simp[Builtin.firstCells,loadCells,loadCellsFrom,go_sem]
theorem Src.rsl{k:Nat}{es:List (List A)}:Src P H (.rsl k es) k es:=by
 intro j l σ w v s ⟨a,c,h1,h2,h3⟩;subst h1;refine⟨⟨a,c,rfl⟩,?_⟩;rcases h3 with rfl|⟨b,h,rfl,i,f⟩
 .exact⟨trivial,[],λ_ _=>YC,rfl,by simp⟩
 .obtain⟨d,e,g⟩:=f.flat;exact⟨e,Qa8 d g⟩
theorem Src.nils{k:Nat}:Src P H .nils k []:=by
 intro a b σ w v s h;simp only[VR]at h;subst h;exact⟨⟨none,0,rfl⟩,trivial,[],λ_ _=>YC,rfl,by simp⟩
theorem RR.drop{b k:Nat}:∀(n:Nat) {es:List (List A)} {off:Nat},RR ro σ w b k es off->RR ro σ w b k (es.drop n) (off+n*k)
 |0,_,_,h=>by simpa using h
 |n+1,[],_,_=>trivial
 |n+1,c::es,off,⟨h1,h2,h3⟩=>by
  have:=RR.drop n h3
  grind
theorem RR.take{b k:Nat}:∀(n:Nat) {es:List (List A)} {off:Nat},RR ro σ w b k es off->RR ro σ w b k (es.take n) off
 |0,_,_,h=>trivial
 |n+1,[],_,_=>trivial
 |n+1,c::es,off,⟨h1,h2,h3⟩=>⟨h1,h2,RR.take n h3⟩
theorem Src.osl{i s n k t:Nat}{es a:List (List A)}(q:H[i]?=some (.row t k es))(he:(es.drop s).take n=a)(E:s+n<=es.length):Src P H (.osl i s n k) k a:=by
 intro J M σ w v sm h;have y:a.length=n:=by grind
 rcases h with⟨rfl,rfl⟩|⟨b,p,d,z,m,r,rfl,u,B,F,G⟩
 .have e:a=[]:=(by grind);subst e;exact⟨⟨none,0,rfl⟩,trivial,[],λ_ _=>YC,rfl,by simp⟩
 .rw[y];refine⟨⟨_,d,rfl⟩,?_⟩;obtain⟨l,g,j⟩:=sm.blk i _ _ r q;have f:=((Yt (pre:=[]) (by simpa using g) j).drop s).take n;rw[he]at f;by_cases x:0<d
  .obtain rfl:=u x;obtain⟨g,j,L⟩:=f.flat
   simp_all[Qa8]
  .obtain rfl:n=0:=by omega
   have e:a=[]:=(by grind);subst e;exact⟨trivial,[],λ_ _=>YC,rfl,by simp⟩
def Q7:Nat:=4294967296
theorem Qd5(n c:Nat)(h:c<n):Builtin.nextslicecap n c<=4*n+1000:=by
 grind[Builtin.nextslicecap,Builtin.growBy]
structure Q9 (P:Program) (T e k:Nat):Prop where
 sl:∀w,(underlying T).run P w=.ok (.slice e) w
 size:∀w,(sizeOf e).run P w=.ok k w
 zero:∃z,(∀w,(zeroValue e).run P w=.ok z w)/\z.cells.size=k
 bytes:∃i,(∀w,(typeInfo e).run P w=.ok i w)/\i.bytes<=4096
theorem Qih{T k:Nat}{es:List (List A)}{l rest:List Value}(s:Sim fr ro σ H w)(hk:allK k es)(h:LR ro [] w es.flatten l)(hp:∀v∈l,Qo v):
  Sim fr ro (σ++[some w.heap.size]) (H++[.row T k es]) (w.alloc (.cells (l++rest).toArray T))/\Qi fr ro w ro (w.alloc (.cells (l++rest).toArray T)):=
 ⟨s.allocRow hk h hp,Qi.alloc _ s.roLt s.frLt⟩
theorem Yf{k:Nat}:∀{es:List (List A)},allK k es->es.flatten.length=es.length*k
 |[],_=>by simp
 |c::es,⟨h1,h2⟩=>by simp[Yf h2,h1,Xl,Nat.add_comm]
theorem QbS{k:Nat}:∀{es fs:List (List A)},allK k es->allK k fs->allK k (es++fs)
 |[],_,_,h=>h
 |c::es,_,⟨h1,h2⟩,h=>⟨h1,QbS h2 h⟩
theorem Qgf{k:Nat}:∀{es:List (List A)} (n:Nat),allK k es->allK k (es.take n)
 |_,0,_=>trivial
 |[],n+1,_=>trivial
 |c::es,n+1,⟨h1,h2⟩=>⟨h1,Qgf n h2⟩
theorem RL.allK{k:Nat}:∀{es:List (List A)} {l:List Value},RL ro σ w k es l->allK k es
 |[],_,_=>trivial
 |c::es,l,⟨l1,l2,h1,h2,h3,h4⟩=>⟨h2,RL.allK h4⟩
theorem RL.app{k:Nat}:∀{n:Nat} {es fs:List (List A)} {l m:List Value},RL ro σ w k es l->n<=es.length->Sw.allK k fs->LR ro σ w fs.flatten m->(∀v∈m,Qo v)->
  RL ro σ w k (es.take n++fs) (Sw.splice l (n*k) m)
 |0,es,fs,l,m,h,hn,hk,hm,hp=>by
  simp_all[Sw.splice,YM]
 |n+1,[],fs,l,m,h,hn,hk,hm,hp=>by simp at hn
 |n+1,c::es,fs,l,m,⟨l1,l2,h1,h2,h3,h4⟩,hn,hk,hm,hp=>by
  subst h1;have hl1:=h3.1.length;refine⟨l1,Sw.splice l2 (n*k) m,?_,h2,h3,RL.app h4 (by grind) hk hm hp⟩;have e1:(n+1)*k=l1.length+n*k:=by grind
  unfold Sw.splice;rw[e1,Vb,show l1.length+n*k+m.length=l1.length+(n*k+m.length)from by omega,Va];simp
theorem Qey{T T' e e' k need cap:Nat}{t:TypeId}(E:Q9 P T e k)(N:∀w,(underlying T').run P w=.ok (.slice e') w){ad:Option Addr}{n m c:Nat}{ax:Option Addr}
  (d:need=n+m)(g:cap<need)(a:need<=Q7){old new:List Value}
  (r:∀w':World,w'.heap=w.heap->(Builtin.firstCells k m (.slice ax m c)).run P w'=.ok new.toArray w')(u:∀w':World,w'.heap=w.heap->(Builtin.firstCells k n (.slice ad n cap)).run P w'=.ok old.toArray w'):
  ∃(rest:List Value) (b:Nat),(need<=b/\b<=9223372036854775807)/\rest.length=(b-need)*k/\(Builtin.append_ #[T,T'] t #[.slice ad n cap,.slice ax m c]).run P w=
   .ok (.slice (some ⟨w.heap.size,0,none⟩) need b) (({w with drawn:=w.drawn+1}:World).alloc (.cells ((old++new)++rest).toArray e)):=by
 obtain⟨z,H,h⟩:=E.zero;obtain⟨i,M,J⟩:=E.bytes
 let b:=need+w.tape w.drawn (.appendCap need cap e)%(2^63-need)
 refine⟨(Builtin.zeroCells z.cells (b-need)).toList,b,⟨Nat.le_add_right _ _,by
  have:=Nat.mod_lt (w.tape w.drawn (.appendCap need cap e)) (show 0<2^63-need by unfold Q7 at a;omega);show need+_%(2^63-need)<=_;omega⟩,by simp[Builtin.zeroCells,h],?_⟩
 have f:¬(need<=cap):=by omega
 have s:¬((need:Int)>IntKind.i64.max/\(False\/i.bytes=0)):=by
  rintro⟨q,_⟩;have:IntKind.i64.max=9223372036854775807:=by decide
  rw[this]at q;unfold Q7 at a;omega
 have B:¬(Builtin.nextslicecap need cap*i.bytes>2^48):=by
  have:=Qd5 need cap g;have y:Builtin.nextslicecap need cap*i.bytes<=(4*need+1000)*4096:=Nat.mul_le_mul this J;unfold Q7 at a;omega
 generalize hF:Builtin.firstCells=F at r u;unfold Builtin.append_;rw[hF];have l:∀W:World,(choose (.appendCap need cap e)).run P W=.ok (need+W.tape W.drawn (.appendCap need cap e)%(2^63-need)) {W with drawn:=W.drawn+1}:=by
  intro W;simp[choose,Sem.run,Question.forced,Question.cut]
 have p:∀(x:Nat) (W:World),(askRoom x).run P W=.ok () W:=by
  intro x W;unfold askRoom;split<;>rfl
 have j:∀(c:Array Value) (W:World),(newRow e c).run P W=.ok ⟨W.heap.size,0,none⟩ (W.alloc (.cells c e)):=λc W=>rfl;subst d;simp only[not_and,false_or]at s;have y:¬(((n+m:Nat):Int)>IntKind.i64.max/\(False\/i.bytes=0)):=by simpa using s
 simp only[XG,XE,XF,Vm,E.sl,E.size,N,M,H,Result.andThen,Builtin.lenOf,Vn,Xi,if_false,XH,
  Xh,if_true,Vs f,Vs y,Vs B,l,p]
 have O:=u {w with drawn:=w.drawn+1} rfl;have L:=r {w with drawn:=w.drawn+1} rfl;simp only[O,L,j];have G:old.toArray++new.toArray++Builtin.zeroCells z.cells (b-(n+m))=((old++new)++(Builtin.zeroCells z.cells (b-(n+m))).toList).toArray:=by
  apply Array.toList_inj.1;simp
 rw[<- G]
theorem QbI{T T' e e' k cap:Nat}{t:TypeId}(E:Q9 P T e k)(f:∀w,(underlying T').run P w=.ok (.slice e') w){ad:Option Addr}{n m c:Nat}{ax:Option Addr}
  (b:n+m<=cap){new:List Value}(d:(Builtin.firstCells k m (.slice ax m c)).run P w=.ok new.toArray w):
  (Builtin.append_ #[T,T'] t #[.slice ad n cap,.slice ax m c]).run P w=
   match ad with
   |some a=>(do storeCells (a.add (n*k)) new;pure (Value.slice ad (n+m) cap):Sem Value).run P w
   |none=>.ok (.slice ad (n+m) cap) w:=by
 generalize hF:Builtin.firstCells=F at d;unfold Builtin.append_;rw[hF];simp only[XG,XE,XF,Vm,E.sl,E.size,f,Result.andThen,Builtin.lenOf,Vn,Xi,if_false,XH,
  Xh,if_true,Vt b,d]
 cases ad with
 |none=>rfl
 |some a=>simp only[Vm,Result.andThen,Vn]
theorem Sim.weaken(s:Sim fr ro σ H w){i:Nat}{x x':Blk}(z:H[i]?=some x)(N:x.live=true)(l:∀y,BR ro σ w x y->BR ro σ w x' y)
  (L:∀b c,Hid w x' b c->Hid w x b c:=by exact λ_ _ h=>h.elim):Sim fr ro σ (H.set i x') w:=by
 have O:i<H.length:=(by grind);have M:(H.set i x')[i]?=some x':=(by grind);have J:∀j,j≠i->(H.set i x')[j]?=H[j]? :=(by grind);have a:∀(j:Nat) (v:Blk),(H.set i x')[j]?=some v->(j=i/\v=x')\/(j≠i/\H[j]?=some v):=by
  grind
 have k:∀(j:Nat) (v:Blk),(H.set i x')[j]?=some v->v.live=true->∃f,H[j]?=some f/\f.live=true:=by
  grind
 refine⟨by rw[X4];exact s.len,s.roOk,s.frLt,s.roFr,?_,?_,?_,s.hidTo (· = ·) Q3 (XT _) (by simp) (by simp) λj d y P Q R=>.inl ?_⟩
 rotate_left 3
 .grind
 .intro j b v e g q;obtain⟨f,p,r⟩:=k j v g q;exact s.own j b f e p r
 .intro j t b v f e g q G E F;obtain⟨u,p,r⟩:=k j v q E;obtain⟨B,m,n⟩:=k t f G F;exact s.inj j t b u B e g p m r n
 .intro j y v e g;rcases a j v g with⟨rfl,rfl⟩|⟨_,h⟩
  .exact l y (s.blk j y x e z)
  .exact s.blk j y v e h
theorem RL.take{k:Nat}:∀(n:Nat) {es:List (List A)} {l:List Value},RL ro σ w k es l->RL ro σ w k (es.take n) l
 |0,_,_,_=>trivial
 |n+1,[],_,_=>trivial
 |n+1,c::es,l,⟨l1,l2,h1,h2,h3,h4⟩=>⟨l1,l2,h1,h2,h3,RL.take n h4⟩
theorem Yy{c:Call}{T T':TypeId}{x y:Operand}(a:o.op=.call c)(b:c={callee:=.builtin .append,args:= #[x,y],argTypes:= #[T,T']})(ρ:Operand->Value){v:Value}{w':World}
  (h:(Builtin.append_ #[T,T'] o.type #[ρ x,ρ y]).run P w=.ok v w'):(execOp ρ o).run P w=.ok (.value v) w':=by
 simp_all[execOp,resolve,invoke,Go.builtin]
theorem Sim.phantom(s:Sim fr ro σ H w)(t k:Nat):Sim fr ro (σ++[none]) (H++[.row t k []]) w:=by
 have g:=s.len;have f:∀(i b:Nat),(σ++[none])[i]?=some (some b)->i<σ.length:=by
  grind
 refine⟨by simp[g],s.roOk,s.frLt,s.roFr,?_,?_,?_,s.hidTo (· = ·) Q3 (XT _) (by simp) (by simp) λj d y a e h=>.inl ?_⟩
 rotate_left 3
 .grind
 .intro i b z a e h;have q:=f i b a;rw[XM q]at a;rw[XM (by omega)]at e;exact s.own i b z a e h
 .intro i j b z B a e h l p r;have m:=f i b a;have n:=f j b e;rw[XM m]at a;rw[XM n]at e;rw[XM (by omega)]at h l;exact s.inj i j b z B a e h l p r
 .intro i y z a e;have ext:Ext ro σ w ro (σ++[none]) w:=⟨λ_ q=>q,λ_ _=>rfl,λ_ _ q=>q,(by grind)⟩;rcases Nat.lt_trichotomy i σ.length with q|q|q
  .rw[XM q]at a;rw[XM (by omega)]at e;exact(s.blk i y z a e).keep ext (λ_ _ _=>rfl) (λ_ _ _ _=>rfl)
  .subst q;have x:(σ++[none])[σ.length]?=some none:=by simp
   have u:(H++[Blk.row t k []])[σ.length]?=some (.row t k []):=by grind
   rw[x]at a;rw[u]at e;cases a;cases e;rfl
  grind
theorem Sim.kill(s:Sim fr ro σ H w)(i:Nat):Sim fr ro σ (H.set i .dead) w:=by
 have a:∀(j:Nat) (v:Blk),(H.set i .dead)[j]?=some v->v≠ .dead->H[j]?=some v:=by
  grind
 refine⟨by rw[X4];exact s.len,s.roOk,s.frLt,s.roFr,?_,?_,?_,s.hidTo (· = ·) Q3 (XT _) (by simp) (by simp) λj d y r p u=>.inl ⟨j,y,rfl,r,a j y p (Qen u),id,λ_ q=>q⟩⟩
 .intro j b v e f g;exact s.own j b v e (a j v f (Qar g)) g
 .intro j k b v n e f g t h l;exact s.inj j k b v n e f (a j v g (Qar h)) (a k n t (Qar l)) h l
 .intro j y v e f;by_cases m:v≠ .dead
  .exact s.blk j y v e (a j v f m)
  .obtain rfl:v=.dead:=Classical.not_not.1 m;trivial
theorem grown{c:Call}{T T' e e' k n m cap cx:Nat}{x y:Operand}{es fs:List (List A)}{a:Act}{ad ax:Option Addr}{old new:List Value}(E:Q9 P T e k)(Y:∀w,(underlying T').run P w=.ok (.slice e') w)(V:o.op=.call c)
  (O:c={callee:=.builtin .append,args:= #[x,y],argTypes:= #[T,T']})(L:a.eval x=.slice ad n cap)(N:a.eval y=.slice ax m cx)(s:Sim fr ro σ H w)(g:cap<n+m)(f:n+m<=Q7)
  (h:∀w':World,w'.heap=w.heap->(Builtin.firstCells k n (.slice ad n cap)).run P w'=.ok old.toArray w')(j:∀w':World,w'.heap=w.heap->(Builtin.firstCells k m (.slice ax m cx)).run P w'=.ok new.toArray w')
  (d:LR ro [] w es.flatten old)(R:∀v∈old,Qo v)(p:allK k es)(q:LR ro [] w fs.flatten new)(aa:∀v∈new,Qo v)(i:allK k fs)(B:es.length=n)(u:fs.length=m):
  ∃v w' ro' τ,(execOp a.eval o).run P w=.ok (.value v) w'/\VR ro' (σ++τ) w' (.osl H.length 0 (n+m) k) v/\Sim fr ro' (σ++τ) (H++[.row e k (es++fs)]) w'/\Qi fr ro w ro' w':=by
 obtain⟨rest,Q,r,F,l⟩:=Qey (t:=o.type) E Y rfl g f j h
 let w0:World:={w with drawn:=w.drawn+1}
 have X:Sim fr ro σ H w0:=s.heap rfl;have M:Qi fr ro w ro w0:=Qi.heap rfl rfl rfl rfl (Nat.le_succ _);have z:LR ro [] w0 (es++fs).flatten (old++new):=by
  rw[Xr];exact(d.append q).mono (Ext.heap (w:=w) (w':=w0) rfl)
 obtain⟨W,e1⟩:=Qih (T:=e) (rest:=rest) X (QbS p i) z (λv hv=>by grind);have b:(execOp a.eval o).run P w=.ok (.value _) _:=Yy V O a.eval (by rw[L,N];exact l);refine⟨_,_,ro,[some w.heap.size],b,.inr ⟨w.heap.size,0,Q,e,(old++new++rest).length,?_,rfl,λ_=>by simp,r,?_,?_⟩,W,M.trans e1⟩
 .rw[<- s.len];simp
 .have:=Q0 w0 (.cells ((old++new)++rest).toArray e);unfold World.shape?
  grind
 .have G:=d.length;have J:=q.length;rw[Yf p]at G;rw[Yf i]at J;simp only[X3,F,G,J,B,u,Xv];rw[<- XA, <- XA]
  grind
theorem QfI{c:Call}{T T' e e' k:Nat}{x y:Operand}{u:A}{fs:List (List A)}(E:Q9 P T e k)(s:∀w,(underlying T').run P w=.ok (.slice e') w)(q:o.op=.call c)
  (j:c={callee:=.builtin .append,args:= #[x,y],argTypes:= #[T,T']})(z:opA env x=.nils)(B:opA env y=u)(G:Src P H u k fs)(i:fs.length<=Q7):
  OpH P o env H (.osl H.length 0 fs.length k) (H++[.row e k fs]):=by
 intro O p σ N a w r;have b:=Qk r x;rw[z]at b;simp only[VR]at b;have h:=Qk r y;rw[B]at h;obtain⟨⟨Q,J,f⟩,L,l,g,F,M⟩:=G O p σ w _ r.sim h;rw[f]at g;by_cases R:fs.length=0
 .have d:fs=[]:=(by grind);subst d;refine⟨.slice none 0 0,w,p,[none],?_,.inl ⟨rfl,rfl⟩,r.sim.phantom e k,Qi.refl _ _ _⟩;refine Yy q j _ ?_;rw[b,f];have:=QbI (t:=o.type) E s (ad:=none) (n:=0) (m:=0) (cap:=0) (c:=J) (ax:=Q) (XT 0) (g w rfl);omega
 .have:=grown (es:=[]) (old:=[]) E s q j b f r.sim (by omega) (by omega) (λ_ _=>YC) g rfl (by simp) trivial F M L rfl rfl
  grind
theorem Qif{c:Call}{T T' e e' k i n:Nat}{x y:Operand}{ya:A}{es fs gs:List (List A)}(E:Q9 P T e k)(Y:∀w,(underlying T').run P w=.ok (.slice e') w)(B:o.op=.call c)
  (J:c={callee:=.builtin .append,args:= #[x,y],argTypes:= #[T,T']})(hx:opA env x=.osl i 0 n k)(V:H[i]?=some (.row e k es))(hn:n<=es.length)(u:opA env y=ya)(hs:Src P H ya k fs)(g:n+fs.length<=Q7)
  (hg:es.take n++fs=gs):OpH P o env H (.osl H.length 0 (n+fs.length) k) (H.set i .dead++[.row e k gs]):=by
 intro fr z σ N a w r;subst hg;have h:=Qk r x;rw[hx]at h;have h2:=Qk r y;rw[u]at h2;obtain⟨⟨ay,cy,e1⟩,q2,l,G,W,q5⟩:=hs fr z σ w _ r.sim h2;rw[e1]at G;have j:i<H.length:=(by grind);have ag:(H.set i .dead).length=H.length:=X4;obtain⟨s,hσ⟩:∃s,σ[i]?=some s:=⟨_,XK (by rw[r.sim.len];exact j)⟩;rcases h with⟨rfl,h⟩|⟨b,p,cap,t',mm,Q,h,h4,h5,M,h7⟩
 ·
  by_cases hm:fs.length=0
  .have q:fs=[]:=(by grind);subst q;refine⟨.slice none 0 0,w,z,[none],?_,.inl ⟨rfl,rfl⟩,(r.sim.kill i).phantom e k,Qi.refl _ _ _⟩;refine Yy B J _ ?_;rw[h,e1];have:=QbI (t:=o.type) E Y (ad:=none) (n:=0) (m:=0) (cap:=0) (c:=cy) (ax:=ay) (XT 0) (G w rfl);omega
  .have:=grown (es:=[]) (old:=[]) E Y B J h e1 (r.sim.kill i) (by omega) g (λ_ _=>YC) G rfl (by simp) trivial W q5 q2 rfl rfl
   grind
 .have L:=r.sim.blk i _ _ Q V;obtain⟨R,F,g2⟩:=L;have aa:(es.take n).length=n:=by simp;omega
  obtain⟨old,o1,o2,o3⟩:∃old:List Value,(∀w':World,w'.heap=w.heap->(Builtin.firstCells k n (.slice (some ⟨b,p,none⟩) n cap)).run P w'=.ok old.toArray w')/\LR z [] w (es.take n).flatten old/\ ∀v∈old,Qo v:=by
   have O:Src P H (.osl i 0 n k) k (es.take n):=Src.osl V (by simp) (by omega);obtain⟨_,_,l',z1,z2,z3⟩:=O fr z σ w (.slice (some ⟨b,p,none⟩) n cap) r.sim (.inr ⟨b,p,cap,t',mm,Q,rfl,h4,h5,M,h7⟩)
   grind
  by_cases f:n+fs.length<=cap
  .have ae:=QbI (t:=o.type) E Y (ad:=some ⟨b,p,none⟩) (n:=n) (m:=fs.length) (cap:=cap) (c:=cy) (ax:=ay) f (G w rfl);have af:l.length=fs.length*k:=by rw[W.length,Yf q2]
   by_cases hm:fs.length=0
   .have q:fs=[]:=(by grind);subst q;have el:l=[]:=(by simp_all);subst el;have sw:=(r.sim.weaken (x':=.row e k (es.take n)) V rfl (by
     intro y u;cases y with
     |none=>simp only[BR]at u⊢;grind
     |some y=>obtain⟨R,F,g2⟩:=u;exact⟨R,F,g2.take n⟩))
    have X:=sw.moved (i:=i) (Xa j) Q;rw[List.set_set]at X;refine⟨.slice (some ⟨b,p,none⟩) n cap,w,z,[some b],?_,.inr ⟨b,p,cap,t',mm,?_,by simp,h4,by omega,M,h7⟩,by grind,Qi.refl _ _ _⟩
    .refine Yy B J _ ?_
     simp_all[storeCells]
    .rw[<- r.sim.len];simp
   .obtain rfl:p=0*k:=h4 (by omega);have ab:(n+fs.length)*k<=R.length:=by
     have:w.shape? b=some (e,R.length):=by unfold World.shape?;rw[F];simp
     rw[this]at M;cases M;exact XV (XC k f) (by grind)
    rw[XA]at ab;have ah:=Q4 (P:=P) (vs:=l) (n*k) 0 F (by omega) q5;have d:=r.sim.set (x':=.row e k (es.take n++fs)) (obj:=.cells (splice R (n*k) l).toArray e (0,0)) Q V rfl
     (λy u=>Jf F (Q1 (by omega)) y u)
     (λex ac=>⟨_,ac,(g2.app hn q2 W q5).mono ex.nil⟩)
    have X:=d.1.moved (i:=i) (Xa j) Q;rw[List.set_set]at X;refine⟨.slice (some ⟨b,0*k,none⟩) (n+fs.length) cap,_,z,[some b],?_,.inr ⟨b,0*k,cap,t',mm,?_,rfl,h4,⟨f,h5.2⟩,?_,h7⟩,X,d.2⟩
    .refine Yy B J _ ?_
     simp_all[YR]
    .rw[<- r.sim.len];simp
    .exact d.2.shape _ _ M
  .have:=grown (es:=es.take n) (old:=old) (fs:=fs) E Y B J h e1 (r.sim.kill i) (by omega) g o1 G o2 o3 (Qgf n g2.allK) W q5 q2 aa rfl
   grind
end
end Go.Sw
namespace Go.Sw
section
variable {P:Program} {o:Oper} {env:Env} {H:Qd}
theorem OpC.fn{c:Call}{f:FuncId}{xs:List Operand}{d:Array TypeId}{args:List A}(b:∀(a:Array Value) (w:World),(callFunc f a).run P w=.ok (.enter f a) w)(k:o.op=.call c)
  (h:c={callee:=.value (.func f),args:=xs.toArray,argTypes:=d})(g:xs.map (opA env)=args):OpC P o env H f args:=by
 intro i j σ N a w r;refine⟨xs.map a.eval,?_,g▸Qbg r xs⟩;subst h;have e:a.eval (.func f)=.func (.func f) #[] #[]:=rfl
 grind[execOp,resolve,Deferred.ofValue,invoke]
theorem Qha{c:Call}{f:FuncId}{x:Operand}{xs:List Operand}{h:Array TypeId}{args vf vc:List A}(d:∀(a:Array Value) (w:World),(callFunc f a).run P w=.ok (.enter f a) w)(q:o.op=.call c)
  (m:c={callee:=.value x,args:=xs.toArray,argTypes:=h})(j:opA env x=.fn (.func f) vf vc)(i:vf++(xs.map (opA env)++vc)=args):OpC P o env H f args:=by
 intro n p σ N a w r;have b:=Qk r x;rw[j]at b;obtain⟨l,k,b,e,g⟩:=b;refine⟨l++(xs.map a.eval++k),?_,i▸e.append ((Qbg r xs).append g)⟩
 grind[execOp,resolve,Deferred.ofValue,invoke]
def Qfx(ρ:Nat->Nat)(env:Env):Env->Prop
 |[]=>True
 |(s,a)::r=>lk env s=Yu ρ a/\Qfx ρ env r
theorem Qfx.ok{ro:Nat->Prop}{σ σ':Sig}{w:World}{ρ:Nat->Nat}(h:∀i:Nat,σ[ρ i]?=σ'[i]?){t:Array Value}(r:∀s,VR ro σ w (lk env s) (t.getD s undef)):
  ∀{env':Env},Qfx ρ env env'->∀s,VR ro σ' w (lk env' s) (t.getD s undef)
 |[],_,s=>trivial
 |(d,a)::e,⟨h1,h2⟩,s=>by
  simp only[lk];by_cases q:s=d
  .grind[Nat.beq_refl,Qdt]
  .have:Nat.beq s d=false:=by
    simp_all[VM]
   rw[this];exact Qfx.ok h r h2 s
theorem Sim.sub{fr ro:Nat->Prop}{σ:Sig}{w:World}{π:List Nat}{H':Qd}(s:Sim fr ro σ H w)(r:π.map (λp=>H[p]?)=(H'.map (QO (rho π H.length))).map some)(hπ:π.Nodup):
  Sim fr ro (Yk σ π) H' w/\ ∀j:Nat,σ[rho π H.length j]?=(Yk σ π)[j]? :=by
 have N:∀p∈π,p<H.length:=λp q=>Y7 r q;have hσl:=s.len;have L:∀(j p:Nat),π[j]?=some p->H[p]?=(H'[j]?).map (QO (rho π H.length)):=by
  intro j p e;have:=congrArg (λl=>l[j]?) r
  grind
 have h:π.length=H'.length:=by simpa using congrArg List.length r
 have hσc:∀j:Nat,σ[rho π H.length j]?=(Yk σ π)[j]? :=by
  intro j;have:=Qd8 (τ:=[]) hσl N j
  grind
 have hπj:∀(j b:Nat),(Yk σ π)[j]?=some (some b)->∃p,π[j]?=some p/\σ[p]?=some (some b):=by
  intro j b e;simp only[Yk,Xo]at e
  grind
 have hπi:∀(i j p:Nat),π[i]?=some p->π[j]?=some p->i=j:=by
  intro i j p g a;have t:i<π.length:=(by grind);have e:j<π.length:=(XL.1 a).1;rw[XK t]at g;rw[XK e]at a;have k:=(XZ g).trans (XZ a).symm;rcases Nat.lt_trichotomy i j with q|q|q
  .exact(VE.1 hπ i j t e q k).elim
  .exact q
  .exact(VE.1 hπ j i e t q k.symm).elim
 refine⟨⟨by simp[Yk,h],s.roOk,s.frLt,s.roFr,?_,?_,?_,s.hidTo (λj p=>π[j]?=some p) hπi (XT _) (λ_ _ _ _ _ _ _ q=>q) (λ_ _ _ _ _ _ _ q=>q) λj d y G P Q=>.inl ?_⟩,hσc⟩
 rotate_left 3
 .obtain⟨p,g,f⟩:=hπj j d G;exact⟨p,QO (rho π H.length) y,g,f,by grind,by rw[QG];exact id,λc q=>(Qak _ _ _ _ _).2 q⟩
 .intro j b x n B F;obtain⟨p,g,f⟩:=hπj j b n;have m:H[p]?=some (QO (rho π H.length) x):=by grind
  exact s.own p b _ f m (by rw[QG];exact F)
 .intro i j b x y n B F O M J;obtain⟨p,g,f⟩:=hπj i b n;obtain⟨E,a,z⟩:=hπj j b B;have m:H[p]?=some (QO (rho π H.length) x):=by grind
  have u:H[E]?=some (QO (rho π H.length) y):=by grind
  have:=s.inj p E b _ _ f z m u (by rw[QG];exact M) (by rw[QG];exact J)
  grind
 .intro j y x n B;have e:j<π.length:=by
   grind
  have g:π[j]?=some π[j]:=XK e;have m:H[π[j]]?=some (QO (rho π H.length) x):=by grind
  have f:σ[π[j]]?=some y:=by
   grind[rho]
  exact(Qhj hσc).1 (s.blk _ y _ f m)
theorem Qph{d:Nat}{env':Env}{H':Qd}(π:List Nat)(b:π.take d=List.range d)(e:π.map (λp=>H[p]?)=(H'.map (QO (rho π H.length))).map some)(hπ:π.Nodup)
  (hE:Qfx (rho π H.length) env env'):Le d env H env' H':=by
 intro h g σ N a w r;obtain⟨f,hσ⟩:=r.sim.sub e hπ;refine⟨g,Yk σ π,⟨f,Qfx.ok hσ r.env hE,r.size,r.defers⟩,λ_ q=>q,?_⟩;have j:=r.sim.len;have i:∀p∈π,p<H.length:=λp q=>Y7 e q;unfold Yk;rw[<- List.map_take,b];apply List.ext_getElem?
 grind
theorem Le.phantom{e s k t:Nat}(g:e<=H.length)(f:lk env s=.nils):Le e env H (up env s (.osl H.length 0 0 k)) (H++[.row t k []]):=by
 intro h d σ N a w r;refine⟨d,σ++[none],⟨r.sim.phantom t k,?_,r.size,r.defers⟩,λ_ q=>q,QC (by rw[r.sim.len];exact g)⟩;have ext:Ext d σ w d (σ++[none]) w:=⟨λ_ q=>q,λ_ _=>rfl,λ_ _ q=>q,(by grind)⟩;intro b;simp only[lk];by_cases q:b=s
 .subst q;rw[VF];have:=r.env b;rw[f]at this;exact .inl ⟨rfl,this⟩
 .have:Nat.beq b s=false:=by
   simp_all[VM]
  rw[this];exact(r.env b).mono ext
theorem QjW{e s k:Nat}(d:lk env s=.nils):Le e env H (up env s (.rsl k [])) H:=by
 intro g f σ N a w r;refine⟨f,σ,⟨r.sim,?_,r.size,r.defers⟩,λ_ q=>q,rfl⟩;intro b;simp only[lk];by_cases q:b=s
 .subst q;rw[VF];have:=r.env b;rw[d]at this;exact⟨none,0,this,XT _,.inl rfl⟩
 .have:Nat.beq b s=false:=by
   simp_all[VM]
  rw[this];exact r.env b
mutual
def Yg:A->Bool
 |.bool _=>true
 |.int _ _=>true
 |.str _=>true
 |.tup vs=>Qd9 vs
 |_=>false
def Qd9:List A->Bool
 |[]=>true
 |a::r=>Yg a&&Qd9 r
end
mutual
theorem VR.scalar{ro ro':Nat->Prop}{σ σ':Sig}{w w':World}:∀{a:A} {v:Value},Yg a=true->VR ro σ w a v->VR ro' σ' w' a v
 |.bool _,_,_,h=>h
 |.int _ _,_,_,h=>h
 |.str _,_,_,h=>h
 |.tup vs,v,hs,h=>by
  simp only[VR,Yg]at h hs⊢;obtain⟨l,h1,h2⟩:=h;exact⟨l,h1,LR.scalar hs h2⟩
 |.any,_,hs,_=>by simp[Yg]at hs
 |.nilp,_,hs,_=>by simp[Yg]at hs
 |.ptr _ _,_,hs,_=>by simp[Yg]at hs
 |.rp _,_,hs,_=>by simp[Yg]at hs
 |.nils,_,hs,_=>by simp[Yg]at hs
 |.rsl _ _,_,hs,_=>by simp[Yg]at hs
 |.osl _ _ _ _,_,hs,_=>by simp[Yg]at hs
 |.agg _,_,hs,_=>by simp[Yg]at hs
 |.fn _ _ _,_,hs,_=>by simp[Yg]at hs
 |.nilf,_,hs,_=>by simp[Yg]at hs
 |.iface _ _,_,hs,_=>by simp[Yg]at hs
 |.nilif,_,hs,_=>by simp[Yg]at hs
 |.map _,_,hs,_=>by simp[Yg]at hs
 |.nilm,_,hs,_=>by simp[Yg]at hs
theorem LR.scalar{ro ro':Nat->Prop}{σ σ':Sig}{w w':World}:∀{az:List A} {l:List Value},Qd9 az=true->LR ro σ w az l->LR ro' σ' w' az l
 |[],_,_,h=>h
 |a::r,l,hs,h=>by
  simp only[LR,Qd9,XW]at h hs⊢;obtain⟨v,l',h1,h2,h3⟩:=h;exact⟨v,l',h1,VR.scalar hs.1 h2,LR.scalar hs.2 h3⟩
end
def Look(H:Qd):A->A->Prop:=λa a'=>(a'=a/\Yr a=true)\/ ∃i n k t es,a=.osl i 0 n k/\H[i]?=some (.row t k es)/\es.length=n/\a'=.rsl k es
def Qbk(H:Qd):List A->List A->Prop
 |[],[]=>True
 |a::az,b::bs=>Look H a b/\Qbk H az bs
 |_,_=>False
theorem QmD{h0 N:Nat}{Q:QA}{all:Array Oper}{l:List Oper}{d:Nat}{f:FuncId}{args B:List A}{Qr:A->Qd->Prop}(ad:OpC P o env H f args)(hv:Qbk H args B)(hC:C P f B [] Qr)
  (ac:∀r H1,Qr r H1->Yg r=true)(k:∀r H1,Qr r H1->WO P h0 N all l (up env d r) H Q)(hg:Qs all o env true:=by exact rfl)(hd:o.dst=some d:=by exact rfl)(hN:Nat.blt d N=true:=by exact rfl):WO P h0 N all (o::l) env H Q:=by
 intro rd fr ro σ a w r hrd;obtain⟨Y,h1,h2⟩:=ad fr ro σ N a w r;refine QfJ (YZ hg r) h1 ?_
 let roc:Nat->Prop:=λb=>ro b\/ ∃(i:Nat) (x:Blk),σ[i]?=some (some b)/\H[i]?=some x/\x.live=true
 let frc:Nat->Prop:=λb=>fr b\/ ∃(i:Nat) (x:Blk) (d:Nat),σ[i]?=some (some d)/\H[i]?=some x/\Hid w x d b
 have W:Sim frc roc [] [] w:=by
  refine⟨rfl,r.sim.roOk.to (λ_ q=>.inl q) (λ_ _=>rfl) ?_,?_,?_,by simp,by simp,by simp,by simp⟩
  .rintro b (q|⟨i,x,u,z,F⟩)
   .exact r.sim.roLt b q
   .exact(r.sim.own i b x u z F).1
  .rintro b (q|⟨i,x,d,u,z,F⟩)
   .exact r.sim.frLt b q
   .exact(r.sim.hid i d x b u z F).lt
  .rintro b (q|⟨i,x,u,z,F⟩) (q'|⟨i',x',d',L,R,X⟩)
   .exact r.sim.roFr b q q'
   .exact(r.sim.hid i' d' x' b L R X).ro q
   .exact(r.sim.own i b x u z F).2.2 q'
   .exact(r.sim.hid i' d' x' b L R X).ne i b x u z F rfl
 have G:∀(az E:List A) (l:List Value),Qbk H az E->LR ro σ w az l->LR roc [] w E l:=by
  intro az
  induction az with
  |nil=>
   intro E l J h;cases E with
   |nil=>exact h
   |cons b E=>exact J.elim
  |cons x az ih=>
   intro E l J h;cases E with
   |nil=>exact J.elim
   |cons y E=>
    obtain⟨hx,J⟩:=J;obtain⟨v,l',rfl,hv,h⟩:=h;refine⟨v,l',rfl,?_,ih E l' J h⟩;rcases hx with⟨rfl,hx⟩|⟨i,n,k,t,es,rfl,hH,hn,rfl⟩
    .exact(hv.data (σ':=[]) hx).mono ⟨λ_ q=>.inl q,λ_ _=>rfl,λ_ _ q=>q,λ_ _ q=>q⟩
    .subst hn;rcases hv with⟨h0,h⟩|⟨b,p,T,t',m,h1,h,h2,⟨h3,af⟩,h4,h5⟩
     .have:es=[]:=(by grind);subst this;exact⟨none,0,h,XT _,.inl rfl⟩
     .refine⟨_,T,h,h3,?_⟩;by_cases he:es=[]
      .exact .inl he
      .right;have hc:0<T:=Vf (by grind) h3;obtain rfl:=h2 hc;obtain⟨l,u,z⟩:=r.sim.blk i _ _ h1 hH;refine⟨b,0,by simp,.inr ⟨i,_,h1,hH,rfl⟩,?_⟩;have:=Yt (pre:=[]) (by simpa using u) z;exact this.keep ⟨λ_ q=>.inl q,λ_ _=>rfl,λ_ _ q=>q,λ_ _ q=>q⟩ rfl
 refine Calls.mono (hC frc roc [] Y w W (G _ _ _ hv h2)) ?_;rintro e V ⟨v,rr,H1,ae,τ,rfl,hq,sc,aa,ev⟩;have M:∀(i b:Nat) (x:Blk),σ[i]?=some (some b)->H[i]?=some x->x.live=true->V.heap[b]?=w.heap[b]? :=λi b x u z F=>ev.keepRo b (by grind);have g:Qi fr ro w ro V:=⟨λ_ q=>q,λb q=>ev.keepRo b (.inl q),λb q=>ev.keepFr b (.inl q),ev.size,ev.shape,ev.os,ev.tape,ev.output,ev.drawn⟩;have O:Sim fr ro σ H V:=by
  refine⟨r.sim.len,r.sim.roOk.to (λ_ q=>q) g.keepRo (λb q=>Vf (r.sim.roLt b q) ev.size),λb q=>Vf (r.sim.frLt b q) ev.size,r.sim.roFr,?_,r.sim.inj,?_,r.sim.hidTo (· = ·) Q3 ev.size (by simp) (by simp) λj d y g1 g2 g3=>.inl ⟨j,y,rfl,g1,g2,id,λc q=>r.sim.hidKeep g1 g2 (M j d y g1 g2) g.keepRo q⟩⟩
  .intro i b x u z F;obtain⟨p1,p2,p3⟩:=r.sim.own i b x u z F
   grind
  .intro i y x u z;refine(r.sim.blk i y x u z).keep (g.ext0 σ) ?_ ?_
   .grind
   .rintro b c rfl J;exact ev.keepFr c (by grind)
 have hk:=k rr H1 hq;have ab:d<N:=by simp_all
 simp only[hd,Act.put];have r':Rel fr ro σ H (up env d rr) N {a with tmps:=a.tmps.setIfInBounds d v} V:=
  ⟨O,VR.up (fr:=fr) (λs=>(r.env s).mono (g.ext0 σ)) (by rw[r.size];exact ab) (aa.scalar (ac _ _ hq)),by simpa using r.size,r.defers.keep g⟩
 exact⟨_,rfl,Yo (λe a w q=>q.step g rfl) _ _ _ (hk rd fr ro σ _ V r' (hrd.to g λ_ q=>q))⟩
end
end Go.Sw
namespace Go.Sw
section
variable {P:Program} {o:Oper} {env:Env} {H:Qd}
theorem QfW{α:Type}:∀(vs:List α) (off i:Nat) (l:List α),off+i+vs.length<=l.length->
  (vs.zipIdx i).foldl (λ(cs:Array α) (x:α×Nat)=>cs.setIfInBounds (off+x.2) x.1) l.toArray=(splice l (off+i) vs).toArray
 |[],off,i,l,h=>by simp[splice]
 |v::vs,off,i,l,h=>by
  simp only[X0]at h;rw[List.zipIdx_cons,XD];have e1:l.toArray.setIfInBounds (off+i) v=(splice l (off+i) [v]).toArray:=by
   have:l.toArray.setIfInBounds (off+i) v=(l.set (off+i) v).toArray:=by simp
   rw[this];congr 1;rw[List.set_eq_take_append_cons_drop,Vt (by omega)];simp[splice]
  rw[e1,QfW vs off (i+1) _ (by grind)];congr 1;have a:(l.take (off+i)).length=off+i:=by simp;omega
  unfold splice;rw[Vi (l.take (off+i))];have b:off+(i+1)=(l.take (off+i)).length+1:=by omega
  have e:(l.take (off+i)++([v]++l.drop (off+i+[v].length))).take ((l.take (off+i)).length+1)=l.take (off+i)++[v]:=by
   grind
  have d:(l.take (off+i)++([v]++l.drop (off+i+[v].length))).drop ((l.take (off+i)).length+1+vs.length)=l.drop (off+i+(v::vs).length):=by
   rw[show(l.take (off+i)).length+1+vs.length=(l.take (off+i)).length+(1+vs.length)from by omega,Va];simp[Nat.add_comm 1];omega
  simp_all
theorem QfY{place:Nat->Option (Nat×Nat)}{l:List Value}{i off size:Nat}{v:Value}{m:List Value}{rest:List (Nat×Value)}(a:place i=some (off,size))(d:v.cells=m.toArray)(e:m.length=size)
  (f:off+size<=l.length):Instr.fill place l.toArray ((i,v)::rest)=Instr.fill place (splice l off m).toArray rest:=by
 have b:v.cells.size=size:=by grind
 rw[Instr.fill];simp only[a];rw[Vs (by grind),d];congr 1
 simp_all[QfW]
def Qaz:Nat->List Operand->List (Nat×Operand)
 |_,[]=>[]
 |i,x::xs=>(i,x)::Qaz (i+1) xs
def Yc(env:Env)(xs:List Operand):List (List A):=xs.map λx=>Q8 (opA env x)
theorem QeX{fr ro:Nat->Prop}{σ:Sig}{N:Nat}{a:Act}{w:World}(r:Rel fr ro σ H env N a w){k:Nat}:∀(xs:List Operand) (j:Nat) (pre rest:List Value),pre.length=j*k->rest.length=xs.length*k->
  (xs.all λx=>Yj (opA env x))=true->allK k (Yc env xs)->
  ∃l,Instr.fill (λi=>some (i*k,k)) (pre++rest).toArray ((Qaz j xs).map λp=>(p.1,a.eval p.2))=some (pre++l).toArray/\LR ro σ w (Yc env xs).flatten l
 |[],j,pre,rest,h1,h2,_,_=>by
  have:rest=[]:=(by simp_all);subst this;exact⟨[],rfl,rfl⟩
 |x::xs,j,pre,rest,h1,h2,h3,h4=>by
  simp only[List.all_cons,XW]at h3;obtain⟨hk1,hk2⟩:=h4;obtain⟨m,q1,q2⟩:=(Qk r x).cells h3.1;have hm:m.length=k:=by rw[q2.length];exact hk1
  simp only[X0,Xl]at h2;simp only[Qaz,Vj];rw[QfY (off:=j*k) (size:=k) rfl q1 hm (by simp;omega)];have e:splice (pre++rest) (j*k) m=(pre++m)++rest.drop k:=by
   unfold splice
   grind[List.drop_length_add_append]
  rw[e];obtain⟨l,b,d⟩:=QeX r xs (j+1) (pre++m) (rest.drop k) (by grind) (by simp;omega) h3.2 hk2;refine⟨m++l,?_,?_⟩
  .rw[b];simp
  .show LR ro σ w ((Q8 (opA env x))++(Yc env xs).flatten) (m++l);exact q2.append d
theorem QaJ{fr ro:Nat->Prop}{σ:Sig}{N:Nat}{a:Act}{w:World}(r:Rel fr ro σ H env N a w){T e k n:Nat}{xs:List Operand}(E:Q9 P T e k)(m:xs.length=n)(q:Nat.ble (n*k) 16777216=true)
  (f:(xs.all λx=>Yj (opA env x))=true)(g:allK k (Yc env xs)):
  ∃l,(Instr.buildSlice T n (((Qaz 0 xs).map λp=>(p.1,a.eval p.2)).toArray)).run P w=.ok (.slice (some ⟨w.heap.size,0,none⟩) n n) (w.alloc (.cells l.toArray e))/\LR ro σ w (Yc env xs).flatten l:=by
 obtain⟨z,t,s⟩:=E.zero;have h:n*k<=16777216:=by simp_all
 have u:∀(c:Array Value) (W:World),(newRow e c).run P W=.ok ⟨W.heap.size,0,none⟩ (W.alloc (.cells c e)):=λc W=>rfl;unfold Instr.buildSlice;by_cases j:n*k=0
 .obtain⟨l,b,d⟩:=QeX r (k:=k) xs 0 [] [] (by simp) (by grind) f g;refine⟨l,?_,d⟩;simp only[Vm,E.sl,Result.andThen,E.size,j]
  simp_all[Array.range]
 .obtain⟨l,b,d⟩:=QeX r (k:=k) xs 0 [] ((Array.range (n*k)).map (λi=>z.cells[i%z.cells.size]!)).toList (by simp) (by rw[m];simp) f g;refine⟨l,?_,d⟩;simp only[Vm,E.sl,Result.andThen,E.size,Vs j,XH,t,Vn];rw[Vs (by omega)];simp only[Vh]at b;rw[Array.toArray_toList]at b
  simp_all
theorem Qao{T n:Nat}{xs:List Operand}(a:o.op=.buildSlice T n (Qaz 0 xs).toArray)(ρ:Operand->Value){v:Value}{w w':World}
  (h:(Instr.buildSlice T n (((Qaz 0 xs).map λp=>(p.1,ρ p.2)).toArray)).run P w=.ok v w'):(execOp ρ o).run P w=.ok (.value v) w':=by
 grind[execOp,Sem.run_bind,Result.andThen,Sem.run_pure]
theorem OpH.lit{T e k n:Nat}{xs:List Operand}{es:List (List A)}(E:Q9 P T e k)(s:o.op=.buildSlice T n (Qaz 0 xs).toArray)(j:xs.length=n)(f:Nat.ble (n*(k+1)) 16777216=true)
  (z:(xs.all λx=>Yj (opA env x))=true)(h:Yc env xs=es)(g:allK k es)(y:es.flatten.all Yq=true)(u:Yz es.flatten=true):
  OpH P o env H (.osl H.length 0 n k) (H++[.row e k es]):=by
 intro B p σ N a w r;subst h;have i:=XR f;rw[Nat.mul_add]at i;obtain⟨l,t,d⟩:=QaJ r E j (XS (by omega)) z g;have b:LR p [] w (Yc env xs).flatten l:=d.data u;obtain⟨m,q⟩:=Qih (T:=e) (rest:=[]) r.sim g b (d.plain y);rw[Vg]at m q;have F:l.length=n*k:=by rw[d.length,Yf g];simp[Yc,j]
 refine⟨_,_,p,[some w.heap.size],Qao s a.eval t,.inr ⟨w.heap.size,0,n,e,l.length,?_,rfl,λ_=>by simp,(by omega),?_,by grind⟩,m,q⟩
 .rw[<- r.sim.len];simp
 .unfold World.shape?;rw[Q0];simp
theorem YA{T e k n:Nat}{xs:List Operand}{es:List (List A)}(E:Q9 P T e k)(m:o.op=.buildSlice T n (Qaz 0 xs).toArray)(i:xs.length=n)(d:Nat.ble (n*(k+1)) 16777216=true)
  (s:(xs.all λx=>Yj (opA env x))=true)(g:Yc env xs=es)(f:allK k es)(q:es.flatten.all Yq=true):
  OpH P o env H (.osl H.length 0 n k) (H++[.rowr e k es]):=by
 intro y u σ N a w r;subst g;have h:=XR d;rw[Nat.mul_add]at h;obtain⟨l,p,b⟩:=QaJ r E i (XS (by omega)) s f;have j:=r.sim.allocRowr (t:=e) (rest:=[]) f b (b.plain q);rw[Vg]at j;have z:l.length=n*k:=by rw[b.length,Yf f];simp[Yc,i]
 refine⟨_,_,u,[some w.heap.size],Qao m a.eval p,.inr ⟨w.heap.size,0,n,e,l.length,?_,rfl,λ_=>by simp,(by omega),?_,by grind⟩,j,Qi.alloc _ r.sim.roLt r.sim.frLt⟩
 .rw[<- r.sim.len];simp
 .unfold World.shape?;rw[Q0];simp
theorem Yp{n:Int}{y:Nat}{c:BoundsCode}{w:World}(a:0<=n)(b:n<=y):(Instr.sliceBound (.int .i64 n) y c).run P w=.ok n.toNat w:=by
 simp_all[Instr.sliceBound,asIntOf]
theorem Qgw{T e:Nat}{k:Nat}{w:World}(E1:∀w,(underlying T).run P w=.ok (.slice e) w)(E2:∀w,(sizeOf e).run P w=.ok k w){ad:Option Addr}{n cap:Nat}{lo hi:Option Value}{l h:Nat}(d:n<=cap)
  (a:lo=none/\l=0\/ ∃z:Int,lo=some (.int .i64 z)/\0<=z/\z.toNat=l)(b:hi=none/\h=n\/ ∃z:Int,hi=some (.int .i64 z)/\0<=z/\z.toNat=h)(g:l<=h)(j:h<=n):
  (Instr.sliceAt T (.slice ad n cap) lo hi none).run P w=.ok (.slice (if cap=l then ad else ad.map (·.add (l*k))) (h-l) (cap-l)) w:=by
 have i:(Instr.sliceBounds true n cap lo hi none).run P w=.ok (l,h,cap) w:=by
  rcases a with⟨rfl,rfl⟩|⟨z,rfl,f,rfl⟩<;>rcases b with⟨rfl,rfl⟩|⟨y,rfl,y0,rfl⟩
  .rfl
  .grind[Instr.sliceBounds,Sem.run_bind,Sem.run_pure,Result.andThen,Yp]
  .grind[Instr.sliceBounds,Sem.run_bind,Sem.run_pure,Result.andThen,Yp]
  .simp only[Instr.sliceBounds,Vm,Vn,Result.andThen,Yp y0 (show y<=(cap:Int)by omega),Yp f (show z<=(y.toNat:Int)by omega)]
 simp_all[Instr.sliceAt,Result.andThen,Instr.slice]
theorem Qa9{fr ro:Nat->Prop}{σ:Sig}{N:Nat}{a:Act}{w:World}(r:Rel fr ro σ H env N a w){x:Option Operand}{l d:Nat}(h:x=none/\l=d\/ ∃y,∃z:Int,x=some y/\opA env y=.int .i64 z/\0<=z/\z.toNat=l):
  x.map a.eval=none/\l=d\/ ∃z:Int,x.map a.eval=some (.int .i64 z)/\0<=z/\z.toNat=l:=by
 rcases h with⟨rfl,rfl⟩|⟨y,z,rfl,e,b,f⟩
 .simp
 grind[Qw]
theorem QmR{T e k:Nat}{x:Operand}{lo hi:Option Operand}{es i:List (List A)}{l h:Nat}(E1:∀w,(underlying T).run P w=.ok (.slice e) w)(E2:∀w,(sizeOf e).run P w=.ok k w)(F:o.op=.slice T x lo hi none)
  (u:opA env x=.rsl k es)(q:lo=none/\l=0\/ ∃y,∃z:Int,lo=some y/\opA env y=.int .i64 z/\0<=z/\z.toNat=l)
  (n:hi=none/\h=es.length\/ ∃y,∃z:Int,hi=some y/\opA env y=.int .i64 z/\0<=z/\z.toNat=h)(m:l<=h)(L:h<=es.length)(s:(es.take h).drop l=i):OpV P o env H (.rsl k i):=by
 intro O M σ N a w r;subst s;have j:=Qk r x;rw[u]at j;obtain⟨ad,d,j,t,G⟩:=j;have g:=Qgw (P:=P) (w:=w) E1 E2 (ad:=ad) t (Qa9 r q) (Qa9 r n) m L;have f:((es.take h).drop l).length=h-l:=by simp;omega
 refine⟨_,by simp only[execOp,F,j,Vm,g,Result.andThen,Vn,Xk];rfl,?_⟩;refine⟨_,d-l,by rw[f],by omega,?_⟩;rcases G with rfl|⟨b,p,rfl,J,B⟩
 .left;simp
 .by_cases E:d=l
  .grind
  .right;refine⟨b,p+l*k,by rw[Vs E];simp[YR],J,?_⟩;exact(B.take h).drop l
theorem Qfq{T e k i s n:Nat}{x:Operand}{lo hi:Option Operand}{l h:Nat}(E1:∀w,(underlying T).run P w=.ok (.slice e) w)(E2:∀w,(sizeOf e).run P w=.ok k w)(E:o.op=.slice T x lo hi none)
  (L:opA env x=.osl i s n k)(u:lo=none/\l=0\/ ∃y,∃z:Int,lo=some y/\opA env y=.int .i64 z/\0<=z/\z.toNat=l)
  (t:hi=none/\h=n\/ ∃y,∃z:Int,hi=some y/\opA env y=.int .i64 z/\0<=z/\z.toNat=h)(j:l<=h)(G:h<=n):OpV P o env H (.osl i (s+l) (h-l) k):=by
 intro X V σ N a w r;have f:=Qk r x;rw[L]at f;rcases f with⟨rfl,f⟩|⟨b,p,g,F,m,f,J,W,⟨Q,M⟩,B,R⟩
 .have d:=Qgw (P:=P) (w:=w) E1 E2 (ad:=none) (XT 0) (Qa9 r u) (Qa9 r t) j G;refine⟨_,by simp only[execOp,E,f,Vm,d,Result.andThen,Vn,Xk];rfl,?_⟩;left
  grind
 .have d:=Qgw (P:=P) (w:=w) E1 E2 (ad:=some ⟨b,p,none⟩) Q (Qa9 r u) (Qa9 r t) j G;refine⟨_,by simp only[execOp,E,J,Vm,d,Result.andThen,Vn,Xk];rfl,?_⟩;right;by_cases O:g=l
  .refine⟨b,p,0,F,m,f,by grind,λq=>by omega,by omega,B,?_⟩
   grind
  .refine⟨b,p+l*k,g-l,F,m,f,by rw[Vs O];simp[YR],λq=>by grind,by omega,B,?_⟩
   grind
theorem OpV.max{c:Call}{x y:Operand}{k:IntKind}{m n:Int}(j:o.op=.call c)(e:c={callee:=.builtin .max,args:= #[x,y],argTypes:=c.argTypes})(h:opA env x=.int k m)(i:opA env y=.int k n):
  OpV P o env H (.int k (if m<n then n else m)):=by
 intro l p σ N a w r;have f:=Qw r h;have g:=Qw r i;refine⟨_,?_,rfl⟩;generalize a.eval=ρ at*;have b:c.callee=.builtin .max:=by rw[e]
 have d:c.args= #[x,y]:=by rw[e]
 simp only[execOp,j,resolve,b,d,invoke,Go.builtin,Vm,Vn,Result.andThen];simp[Builtin.max_,Builtin.max2,f,g,go_sem]
theorem OpV.min{c:Call}{x y:Operand}{k:IntKind}{m n:Int}(j:o.op=.call c)(e:c={callee:=.builtin .min,args:= #[x,y],argTypes:=c.argTypes})(h:opA env x=.int k m)(i:opA env y=.int k n):
  OpV P o env H (.int k (if n<m then n else m)):=by
 intro l p σ N a w r;have f:=Qw r h;have g:=Qw r i;refine⟨_,?_,rfl⟩;generalize a.eval=ρ at*;have b:c.callee=.builtin .min:=by rw[e]
 have d:c.args= #[x,y]:=by rw[e]
 simp only[execOp,j,resolve,b,d,invoke,Go.builtin,Vm,Vn,Result.andThen];simp[Builtin.min_,Builtin.min2,f,g,go_sem]
end
end Go.Sw
namespace Go.Sw
section
variable {P:Program} {h0 N:Nat} {env:Env} {H:Qd} {Q:QA} {c c':Code}
def CutP(h0:Nat)(Eb:Env)(Hb:Qd)(Q:QA):QA
 |.normal,env,H=>Le h0 env H Eb Hb
 |.exit id,env,H=>Q (.exit id) env H
 |.ret,env,H=>Q .ret env H
theorem TC.cut(Eb:Env)(Hb:Qd)(h:TC P h0 N c env H (CutP h0 Eb Hb Q))(k:∀env H,Le h0 env H Eb Hb->Q .normal env H):TC P h0 N c env H Q:=
 h.mono λx env' H' q=>by
  cases x with
  |normal=>exact k _ _ q
  |exit id=>exact q
  |ret=>exact q
theorem Qlj(h:TC P h0 N c env H Q):Seq P h0 N c Q .normal env H:=h
theorem seqX{id:Nat}(h:Q (.exit id) env H):Seq P h0 N c Q (.exit id) env H:=h
theorem seqR(h:Q .ret env H):Seq P h0 N c Q .ret env H:=h
theorem bloN{id:Nat}(h:Q .normal env H):Blo id Q .normal env H:=h
theorem bloE{id:Nat}(h:Q .normal env H):Blo id Q (.exit id) env H:=by simp_all[Blo]
theorem bloX{id a:Nat}(e:Nat.beq a id=false)(h:Q (.exit a) env H):Blo id Q (.exit a) env H:=by simp only[Blo,e,Vq];exact h
theorem bloR{id:Nat}(h:Q .ret env H):Blo id Q .ret env H:=h
def Qgl{S B:Type}(h0:Nat)(b:Ctl S B)(Eb:S->Env)(Hb:S->Qd)(Q:QA):QA
 |.normal,env,H=>∃s,b=.cont s/\Le h0 env H (Eb s) (Hb s)
 |.exit id,env,H=>Q (.exit id) env H
 |.ret,env,H=>Q .ret env H
theorem Qg4{S B:Type}{b:Ctl S B}(Eb:S->Env)(Hb:S->Qd)(h:TC P h0 N c env H (Qgl h0 b Eb Hb Q))(k:∀s env H,b=.cont s->Le h0 env H (Eb s) (Hb s)->Q .normal env H):TC P h0 N c env H Q:=
 h.mono λx env' H' q=>by
  cases x with
  |normal=>obtain⟨s,e,q⟩:=q;grind
  |exit id=>exact q
  |ret=>exact q
section
variable {S B:Type} {b:Ctl S B} {Eb:S->Env} {Hb:S->Qd}
theorem QE{s:S}(e:b=.cont s)(h:Le h0 env H (Eb s) (Hb s)):Qgl h0 b Eb Hb Q .normal env H:=⟨s,e,h⟩
theorem QR(h:Q .ret env H):Qgl h0 b Eb Hb Q .ret env H:=h
end
theorem QmK{x:Operand}{t:Bool}(hx:opA env x=.bool t)(h:t=true)(ht:TC P h0 N c env H Q):TC P h0 N (.cond x c c') env H Q:=TC.cond hx (λ_=>ht) (λq=>by grind)
theorem QmL{x:Operand}{t:Bool}(hx:opA env x=.bool t)(h:t=false)(hf:TC P h0 N c' env H Q):TC P h0 N (.cond x c c') env H Q:=TC.cond hx (λq=>by grind) (λ_=>hf)
section
variable {S B:Type} {I:S->Env->Qd->Prop}
theorem Qx{s:S}{d:Ctl S B}(e:some (Ctl.cont s)=some d)(h:I s env H):Qbj I d Q .normal env H:=⟨s,(by grind),h⟩
theorem QB{id:Nat}{b:B}{d:Ctl S B}(e:some (Ctl.done b)=some d)(h:Q (.exit id) env H):Qbj I d Q (.exit id) env H:=⟨(by grind),h⟩
theorem Yb{b:B}{d:Ctl S B}(e:some (Ctl.done b)=some d)(h:Q .ret env H):Qbj I d Q .ret env H:=⟨(by grind),h⟩
end
end
theorem YX{α β:Type}{x:Option α}{f:α->Option β}{r:β}(h:x.bind f=some r):∃a,x=some a/\f a=some r:=Option.bind_eq_some_iff.1 h
def idx{α:Type}(l:List α)(i:Int):Option α:=bif decide (0<=i)then l[i.toNat]? else none
theorem Qa4{α:Type}{l:List α}{i:Int}{x:α}(h:idx l i=some x):0<=i/\l[i.toNat]?=some x:=by
 grind[idx]
def app{α:Type}(l m:List α):Option (List α):=bif Nat.ble (l.length+m.length) Q7 then some (l++m)else none
theorem Qi2{α:Type}{l m r:List α}(h:app l m=some r):l.length+m.length<=Q7/\l++m=r:=by
 unfold app at h;cases q:Nat.ble (l.length+m.length) Q7 with
 |true=>simp_all
 |false=>grind
def slc{α:Type}(l:List α)(lo hi:Int):Option (List α):=bif decide (0<=lo)&&decide (lo<=hi)&&decide (hi<=(l.length:Int))then some ((l.take hi.toNat).drop lo.toNat)else none
theorem Qck{α:Type}{l r:List α}{lo hi:Int}(h:slc l lo hi=some r):0<=lo/\lo<=hi/\hi<=l.length/\(l.take hi.toNat).drop lo.toNat=r:=by
 grind[slc]
def Qa1{α:Type}(l:List α)(i:Int)(x:α):Option (List α):=bif decide (0<=i)&&decide (i<(l.length:Int))then some (l.set i.toNat x)else none
theorem QgH{α:Type}{e:α->List A}{l:List α}{i:Nat}{x:α}(h:l[i]?=some x):(l.map e)[i]?=some (e x):=by simp[h]
end Go.Sw
namespace Go.Sw
section
variable {P:Program} {h0 N:Nat} {env:Env} {H H':Qd} {Q:QA} {all:Array Oper} {o:Oper} {l:List Oper} {d:Nat} {x:A}
theorem vV(a:OpV P o env H x)(k:WO P h0 N all l (up env d x) H Q)(hg:Qs all o env true:=by exact rfl)(hd:o.dst=some d:=by exact rfl)(hN:Nat.blt d N=true:=by exact rfl):WO P h0 N all (o::l) env H Q:=
 Yv hg hd hN a k
theorem vH(a:OpH P o env H x H')(k:WO P h0 N all l (up env d x) H' Q)(hg:Qs all o env true:=by exact rfl)(hd:o.dst=some d:=by exact rfl)(hN:Nat.blt d N=true:=by exact rfl)(hh:Nat.ble h0 H.length=true:=by exact rfl):WO P h0 N all (o::l) env H Q:=
 Qg3 (by simp_all) hg hd hN a k
theorem vN(a:OpH P o env H x H')(k:WO P h0 N all l env H' Q)(hg:Qs all o env true:=by exact rfl)(hd:o.dst=none:=by exact rfl)(hh:Nat.ble h0 H.length=true:=by exact rfl):WO P h0 N all (o::l) env H Q:=
 Qpb (by simp_all) hg hd a k
theorem vU(a:OpU P o env H H')(k:WO P h0 N all l env H' Q)(hg:Qs all o env true:=by exact rfl)(hd:o.dst=none:=by exact rfl)(hh:Nat.ble h0 H.length=true:=by exact rfl):WO P h0 N all (o::l) env H Q:=
 Qmz (by simp_all) hg hd a k
theorem gT{j s:Nat}{c x:Bool}(a:x=c)(hg:o.guard=some (j,c):=by exact rfl)(hs:(all[j]?).bind (·.dst)=some s:=by exact rfl)(hl:lk env s=.bool x:=by exact rfl):Qs all o env true:=by
 simp_all[Qs]
theorem gF{j s:Nat}{c x:Bool}(a:x= !c)(hg:o.guard=some (j,c):=by exact rfl)(hs:(all[j]?).bind (·.dst)=some s:=by exact rfl)(hl:lk env s=.bool x:=by exact rfl):Qs all o env false:=by
 simp_all[Qs]
theorem Qpc{x x':A}(a:x'=x)(b:H'=H)(k:WO P h0 N all l (up env d x) H Q):WO P h0 N all l (up env d x') H' Q:=by grind
theorem Qds(a:H'=H)(k:WO P h0 N all l env H Q):WO P h0 N all l env H' Q:=by grind
theorem Qq{f:FuncId}{args a:List A}{Hc:Qd}{Qr:A->Qd->Prop}(π:List Nat)(b:OpC P o env H f args)(e:C P f a Hc Qr)
  (k:∀r H1,Qr r H1->WO P h0 N all l (up env d (Yu (rho π H.length) r)) (Yi H π (H1.map (QO (rho π H.length)))) Q)
  (hargs:args=Qaa (rho π H.length) a:=by exact rfl)(hH:π.map (λp=>H[p]?)=(Hc.map (QO (rho π H.length))).map some:=by exact rfl)(hπ:π.Nodup:=by decide)
  (hg:Qs all o env true:=by exact rfl)(hd:o.dst=some d:=by exact rfl)(hN:Nat.blt d N=true:=by exact rfl)(hh:Nat.ble h0 H.length=true:=by exact rfl):WO P h0 N all (o::l) env H Q:=
 WO.call (d:=some d) π (by simp_all) hg hd (λx g=>by simp_all) b hargs hH hπ e k
end
section
variable {P:Program} {o:Oper} {env:Env} {H:Qd} {α:Type} {e:α->List A}
theorem QmQ{c:Call}{t b k:Nat}{x:Operand}{l:List α}(a:∀w,(underlying t).run P w=.ok (.slice b) w)(d:o.op=.call c:=by exact rfl)(hc:c={callee:=.builtin .len,args:= #[x],argTypes:= #[t]}:=by exact rfl)
  (hx:opA env x=.rsl k (l.map e):=by exact rfl):OpV P o env H (.int .i64 l.length):=by
 have:=QmP (H:=H) d hc a hx
 grind
theorem QjT{t a k:Nat}{x y:Operand}{l:List α}{f:IntKind}{i:Int}{v:α}(h:idx l i=some v)(d:∀w,(underlying t).run P w=.ok (.slice a) w)(b:∀w,(sizeOf a).run P w=.ok k w)
  (g:o.op=.indexAddr t x y:=by exact rfl)(hx:opA env x=.rsl k (l.map e):=by exact rfl)(hy:opA env y=.int f i:=by exact rfl):OpV P o env H (.rp (e v)):=
 QnP g d b hx hy (Qa4 h).1 (QgH (Qa4 h).2)
theorem Ya{t a k b n:Nat}{x y:Operand}{l:List α}{g:IntKind}{i:Int}{v:α}(h:idx l i=some v)(m:l.length=n)(f:∀w,(underlying t).run P w=.ok (.slice a) w)(d:∀w,(sizeOf a).run P w=.ok k w)
  (j:o.op=.indexAddr t x y:=by exact rfl)(hx:opA env x=.osl b 0 n k:=by exact rfl)(hy:opA env y=.int g i:=by exact rfl):OpV P o env H (.ptr b (i.toNat*k)):=by
 have:=Qa4 h;have e:i.toNat<l.length:=(by grind);have p:=Qg8 (H:=H) j f d hx hy this.1 (by omega)
 grind
theorem Qt{b t k:Nat}{l:List α}{i:Int}{v:α}{cs':List A}(h:idx l i=some v)(a:H[b]?=some (.row t k (l.map e)):=by exact rfl)(hcs:e v=cs':=by exact rfl):Pts H (.ptr b (i.toNat*k)) cs':=
 Pts.row (f:=0) a rfl (QgH (Qa4 h).2) hcs
theorem Qig{c:Call}{T T' et et' k:Nat}{x y:Operand}{a:A}{m r:List α}(h:app [] m=some r)(E:Q9 P T et k)(b:∀w,(underlying T').run P w=.ok (.slice et') w)(d:Src P H a k (m.map e))
  (f:o.op=.call c:=by exact rfl)(hc:c={callee:=.builtin .append,args:= #[x,y],argTypes:= #[T,T']}:=by exact rfl)(hx:opA env x=.nils:=by exact rfl)(hy:opA env y=a:=by exact rfl):
  OpH P o env H (.osl H.length 0 r.length k) (H++[.row et k (r.map e)]):=by
 obtain⟨g,rfl⟩:=Qi2 h;have:=QfI E b f hc hx hy d (by grind)
 grind
theorem QU{c:Call}{T T' et et' k i n:Nat}{x y:Operand}{a:A}{l m r:List α}(h:app l m=some r)(E:Q9 P T et k)(f:∀w,(underlying T').run P w=.ok (.slice et') w)(d:Src P H a k (m.map e))
  (b:l.length=n:=by exact rfl)(ho:o.op=.call c:=by exact rfl)(hc:c={callee:=.builtin .append,args:= #[x,y],argTypes:= #[T,T']}:=by exact rfl)(hx:opA env x=.osl i 0 n k:=by exact rfl)
  (hH:H[i]?=some (.row et k (l.map e)):=by exact rfl)(hy:opA env y=a:=by exact rfl):
  OpH P o env H (.osl H.length 0 r.length k) (H.set i .dead++[.row et k (r.map e)]):=by
 obtain⟨g,rfl⟩:=Qi2 h;subst b;have:=Qif E f ho hc hx hH (by simp) hy d (by grind) (gs:=(l++m).map e) (by rw[VI (by simp)];simp)
 grind
theorem Qaq{k:Nat}{l:List α}:Src P H (.rsl k (l.map e)) k (l.map e):=Src.rsl
theorem QaN{i n k t:Nat}{l:List α}(a:H[i]?=some (.row t k (l.map e)):=by exact rfl)(hn:l.length=n:=by exact rfl):Src P H (.osl i 0 n k) k (l.map e):=
 Src.osl a (by grind[List.take_of_length_le]) (by simp[hn])
theorem YT{t n b T k f:Nat}{x y:Operand}{l l':List α}{i:Int}{v j:α}{vs:List A}{a:A}{off:Nat}(h:idx l i=some v)(q:Qa1 l i j=some l')(p:∀w,(sizeOf t).run P w=.ok n w)(d:off=i.toNat*k+f)(g:splice (e v) f vs=e j)
  (m:o.op=.store t x y:=by exact rfl)(hx:opA env x=.ptr b off:=by exact rfl)(hH:H[b]?=some (.row T k (l.map e)):=by exact rfl)
  (hy:opA env y=a:=by exact rfl)(hk:Yj a=true:=by exact rfl)(hv:Q8 a=vs:=by exact rfl)(hn:vs.length=n:=by exact rfl)(hp:vs.all Yq=true:=by exact rfl)(hd:Yz vs=true:=by exact rfl)(hf:Nat.ble (f+n) k=true:=by exact rfl):
  OpU P o env H (H.set b (.row T k (l'.map e))):=by
 refine Qg9 m hx hH p d (QgH (Qa4 h).2) hy hk hv hn hp hd hf g ?_
 grind[Qa1,List.map_set]
end
def ZR(a:A)(v:Value):Prop:=∀ro σ w,VR ro σ w a v
def ZL(az:List A)(l:List Value):Prop:=∀ro σ w,LR ro σ w az l
theorem ZR.int{k:IntKind}{n:Int}:ZR (.int k n) (.int k n):=λ_ _ _=>rfl
theorem ZR.bool{b:Bool}:ZR (.bool b) (.bool b):=λ_ _ _=>rfl
theorem ZR.str:ZR (.str []) (.string ⟨#[]⟩):=λ_ _ _=>rfl
theorem ZR.rsl{α:Type}{k:Nat}{e:α->List A}:ZR (.rsl k (List.map e [])) (.slice none 0 0):=λ_ _ _=>⟨none,0,rfl,XT _,.inl rfl⟩
theorem ZR.nils:ZR .nils (.slice none 0 0):=λ_ _ _=>rfl
theorem ZR.nilp:ZR .nilp (.pointer none):=λ_ _ _=>rfl
theorem ZR.nilf:ZR .nilf .nilFunc:=λ_ _ _=>rfl
theorem ZR.nilm:ZR .nilm (.map none):=λ_ _ _=>rfl
theorem QnK:ZR .nilif .nilIface:=λ_ _ _=>rfl
theorem ZL.nil:ZL [] []:=λ_ _ _=>rfl
theorem ZL.cons{a:A}{v:Value}{az:List A}{l:List Value}(h:ZR a v)(k:ZL az l):ZL (a::az) (v::l):=λro σ w=>⟨v,l,rfl,h ro σ w,k ro σ w⟩
theorem ZR.agg{az:List A}{l:List Value}(h:ZL az l):ZR (.agg az) (.agg l.toArray):=λro σ w=>⟨l,rfl,h ro σ w⟩
section
variable {P:Program} {o:Oper} {env:Env} {H:Qd}
theorem Qft{t:Nat}{z:Value}{v:A}{cs:List A}(j:∀w,(zeroValue t).run P w=.ok z w)(g:ZR v z)(i:o.op=.alloc t:=by exact rfl)(hk:Yj v=true:=by exact rfl)(hcs:Q8 v=cs:=by exact rfl)(hpl:cs.all Yq=true:=by exact rfl):
  OpH P o env H (.ptr H.length 0) (H++[.cells t cs]):=by
 intro h d σ N a w r;obtain⟨l,f,b⟩:=(g d σ w).cells hk;subst hcs;refine⟨.pointer (some ⟨w.heap.size,0,none⟩),w.alloc (.cells l.toArray t),d,[some w.heap.size],?_,⟨w.heap.size,?_,rfl⟩,r.sim.allocCells b (b.plain hpl),Qi.alloc _ r.sim.roLt r.sim.frLt⟩
 .generalize a.eval=ρ at*;have e:(newVar t z).run P w=.ok ⟨w.heap.size,0,none⟩ (w.alloc (.cells l.toArray t)):=by
   unfold newVar;rw[f];rfl
  simp_all[execOp,Instr.alloc]
 .rw[<- r.sim.len];simp
theorem QiW{t:TypeId}{p q:Bool}{w:World}(a:∀w,(underlying t).run P w=.ok .bool w):(Op.equal t (.bool p) (.bool q)).run P w=.ok (p==q) w:=by
 have k:∀d,(Op.equalIn (d+1) t (.bool p) (.bool q)).run P w=.ok (p==q) w:=by
  intro d;simp[Op.equalIn,a,go_sem]
 exact k 9999
theorem Qfr{t u:TypeId}{x y:Operand}{p q:Bool}(f:∀w,(underlying t).run P w=.ok .bool w)(h:o.op=.binOp .neq t x y u:=by exact rfl)(hx:opA env x=.bool p:=by exact rfl)(hy:opA env y=.bool q:=by exact rfl):OpV P o env H (.bool (p != q)):=by
 intro b g σ N a w r;have d:=QcD r hx;have e:=QcD r hy;refine⟨_,?_,rfl⟩
 simp_all[execOp,Go.binOp,eqGuard,QiW,bne]
theorem QaP{t:TypeId}{x y:Operand}{s:List UInt8}{k:IntKind}{i:Int}{c:UInt8}(h:idx s i=some c)(a:∀w,(underlying t).run P w=.ok .string w)(b:o.op=.index t x y:=by exact rfl)(hx:opA env x=.str s:=by exact rfl)(hy:opA env y=.int k i:=by exact rfl):
  OpV P o env H (.int .u8 c.toNat):=QkN b a hx hy (Qa4 h).1 (Qa4 h).2
theorem Y6{α:Type}{e:α->List A}{T et k:Nat}{x:Operand}{lo hi:Option Operand}{l r:List α}{a b:Int}(h:slc l a b=some r)(E1:∀w,(underlying T).run P w=.ok (.slice et) w)(E2:∀w,(sizeOf et).run P w=.ok k w)
  (d:lo=none/\a=0\/ ∃y,lo=some y/\opA env y=.int .i64 a)(f:hi=none/\b=l.length\/ ∃y,hi=some y/\opA env y=.int .i64 b)
  (g:o.op=.slice T x lo hi none:=by exact rfl)(hx:opA env x=.rsl k (l.map e):=by exact rfl):OpV P o env H (.rsl k (r.map e)):=by
 obtain⟨m,i,j,rfl⟩:=Qck h;refine QmR (l:=a.toNat) (h:=b.toNat) E1 E2 g hx ?_ ?_ (by omega) (by simp;omega) (by simp)
 .grind
 grind
theorem QkO{c:Call}{t b i n k:Nat}{x:Operand}(a:∀w,(underlying t).run P w=.ok (.slice b) w)(d:o.op=.call c:=by exact rfl)(hc:c={callee:=.builtin .len,args:= #[x],argTypes:= #[t]}:=by exact rfl)
  (hx:opA env x=.osl i 0 n k:=by exact rfl):OpV P o env H (.int .i64 n):=Qie d hc a hx
end
def Qe(k:IntKind)(n:Int):List A:=[.int k n]
def Qa5(b:Bool):List A:=[.bool b]
def encS(s:List UInt8):List A:=[.str s]
def Qj{α:Type}(k:Nat)(e:α->List A)(l:List α):List A:=[.rsl k (l.map e)]
end Go.Sw
namespace Go.Sw
theorem Qhl{P:Program}{rd:Option Nat}{o:Oper}{a:Act}{next:Act->World->Prop}{Q:Exit->Act->World->Prop}{b:Result Next}
  (j:∀a' w',next a' w'->a'.defers=a.defers)(h:o.uponIn (WF rd) 0 P a next Q b):
  o.uponIn (WF rd) 0 P a (λa' w'=>next a' w'/\ ∃v,a'=a.put o.dst v) Q b:=by
 cases b with
 |ok n w'=>
  cases n with
  |value v=>exact⟨h,_,rfl⟩
  |skip=>exact⟨h,_,rfl⟩
  |defer d=>
   have:=congrArg List.length (j _ _ h);exfalso
   revert this
   cases o.dst<;>simp[Act.put]
  |enter f e=>
   exact⟨h.1,CallsIn.mono h.2 (by grind)⟩
  |row r e=>exact⟨h.1,RowsIn.mono h.2 (by grind)⟩
  |round l f g assign i=>exact⟨h.1,RoundIn.mono h.2 (by grind)⟩
  |_=>exact h.elim
 |halt x w'=>cases x<;>first|exact h|exact h.elim
def YW(e:Env)(H:Qd):QA:=λx e' H'=>x=.normal/\e'=e/\H'=H
theorem YW.mk{e:Env}{H:Qd}:YW e H .normal e H:=⟨rfl,rfl,rfl⟩
inductive Sb (af bf ds:List Nat) (xs:List A) (env0:Env):Env->Prop
 |nil:Sb af bf ds xs env0 []
 |dep (j:Nat) {s:Nat} {a:A} {r:Env} (h1:af.contains j=true) (h2:ds[j]?=some s) (h3:xs[j]?=some a) (k:Sb af bf ds xs env0 r):Sb af bf ds xs env0 ((s,a)::r)
 |old {s:Nat} {a:A} {r:Env} (h1:ds.contains s=false) (h2:lk env0 s=a) (k:Sb af bf ds xs env0 r):Sb af bf ds xs env0 ((s,a)::r)
 |pre (j:Nat) {s:Nat} {a:A} {r:Env} (h1:bf.contains j=true) (h2:ds[j]?=some s) (h3:lk env0 s=a) (k:Sb af bf ds xs env0 r):Sb af bf ds xs env0 ((s,a)::r)
def Qh(o:Oper):List Nat:=(o.after.toList.filter (Region.binds .any)).map (·.on)
def QgZ(l:List Oper)(i:Nat):List Nat:=(List.range l.length).filter λj=>((l[j]?).map Qh).getD [] |>.contains i
inductive QdZ (P:Program) (N:Nat) (l:List Oper) (ds:List Nat) (xs:List A) (env0:Env) (i:Nat) (H H':Qd):Prop
 |mk (o:Oper) (e:Env) (d:Nat) (x:A) (ho:l[i]?=some o) (hd:o.dst=some d) (hx:xs[i]?=some x) (hs:Sb (Qh o) (QgZ l i) ds xs env0 e)
   (h:WO P H.length N l.toArray [o] e H (YW (up e d x) H')):QdZ P N l ds xs env0 i H H'
theorem QdZ.use{P:Program}{N:Nat}{l:List Oper}{F:List Nat}{xs:List A}{env0:Env}{i:Nat}{H H':Qd}(t:QdZ P N l F xs env0 i H H')
  {Q:Exit->Act->World->Prop}{K:Act->World->Prop}{fr ro:Nat->Prop}{σ:Sig}{a:Act}{w:World}{o:Oper}{rd:Option Nat}(V:l[i]?=some o)
  (m:Sim fr ro σ H w)(hN:a.tmps.size=N)(E:Qcg fr a.defers w)(J:Qdw rd fr w)
  (hD:∀j∈Qh o,∀s x,F[j]?=some s->xs[j]?=some x->VR ro σ w x (a.tmps.getD s undef))
  (hE:∀s,F.contains s=false->VR ro σ w (lk env0 s) (a.tmps.getD s undef))(hP:∀j s,(QgZ l i).contains j=true->F[j]?=some s->VR ro σ w (lk env0 s) (a.tmps.getD s undef))
  (hK:∀v w' ro' τ d x,o.dst=some d->xs[i]?=some x->VR ro' (σ++τ) w' x ((a.put o.dst v).tmps.getD d undef)->Sim fr ro' (σ++τ) H' w'->Qi fr ro w ro' w'->K (a.put o.dst v) w'):
  wpOpIn (WF rd) 0 P l.toArray Q i K a w:=by
 obtain⟨u,e,d,x,T,hd,hx,hs,h⟩:=t;obtain rfl:u=o:=XZ (T.symm.trans V);have B:Rel fr ro σ H e N a w:=by
  refine⟨m,?_,hN,E⟩;intro s;clear h
  induction hs with
  |nil=>exact trivial
  | @dep j s1 p r g b h3 _ ih=>
   unfold lk;cases t:Nat.beq s s1 with
   |false=>exact ih
   |true=>
    obtain rfl:=XQ t
    grind
  | @old s1 p r g b _ ih=>
   unfold lk;cases t:Nat.beq s s1 with
   |false=>exact ih
   |true=>
    obtain rfl:=XQ t
    grind
  | @pre j s1 p r g b h3 _ ih=>
   unfold lk;cases t:Nat.beq s s1 with
   |false=>exact ih
   |true=>
    obtain rfl:=XQ t
    grind
 have y:=h rd fr ro σ a w B J;have fin:∀v w',Qbz H.length fr ro σ w N a.defers (YW (up e d x) H') .normal (a.put u.dst v) w'->K (a.put u.dst v) w':=by
  rintro v w' ⟨_,W,H2,ro',σ',aa,_,⟨_,rfl,rfl⟩,Y,k,ht,_,M⟩;have hσ:σ'=σ++σ'.drop H.length:=by
   conv=>lhs;rw[<- Xz H.length σ']
   rw[ht, <- m.len,X9]
  have G:=Y.env d;unfold lk at G;rw[VF]at G;rw[hσ]at G;refine hK v w' ro' (σ'.drop H.length) d x hd hx G ?_ k;rw[<- hσ];exact Y.sim.frMono M.sub
 unfold wpOpIn;have L:l.toArray[i]?=some u:=by simpa using V
 rw[L];simp only;unfold wpL wpListIn at y;split at y
 .rename_i hw;rw[Vt hw];obtain⟨O,y⟩:=y;refine⟨O,?_⟩;have b:=Qhl (by
   intro a' w' q;unfold wpListIn at q;obtain⟨_,_,_,_,_,_,_,_,_,_,_,q,_⟩:=q;exact q) y
  generalize(u.semAt (WF rd).round a.eval).run P w=res at*;cases res with
  |ok n w'=>
   cases n with
   |value v=>exact fin _ _ b.1
   |skip=>exact fin _ _ b.1
   |defer df=>
    exfalso;obtain⟨⟨_,_,_,_,_,_,_,_,_,_,_,q,_⟩,_⟩:=b;have:=congrArg List.length q
    revert this
    cases u.dst<;>simp[Act.put]
   |enter f z=>
    refine⟨b.1,CallsIn.mono b.2 (λe R k=>?_)⟩;cases e with
    |returned v=>exact fin _ _ k.1
    |panicked c=>obtain⟨p,_,_,_,_,_,g,⟨rfl,_⟩,_⟩:=k;exact g.elim
    |outgrown=>obtain⟨a1,w1,p,_,_,_,_,_,g,⟨rfl,_⟩,_⟩:=k;exact g.elim
   |row r z=>
    exact⟨b.1,RowsIn.mono b.2 (λ_ _ k=>fin _ _ k.1)⟩
   |round l f tmps assign X=>
    refine⟨b.1,RoundIn.mono b.2 (λe R k=>?_)⟩;cases e with
    |returned v=>exact fin _ _ k.1
    |panicked c=>obtain⟨p,_,_,_,_,_,g,⟨rfl,_⟩,_⟩:=k;exact g.elim
    |outgrown=>obtain⟨a1,w1,p,_,_,_,_,_,g,⟨rfl,_⟩,_⟩:=k;exact g.elim
   |_=>exact b.elim
  |halt x w'=>
   cases x with
   |panic v=>obtain⟨p,_,_,_,_,_,g,⟨rfl,_⟩,_⟩:=b;exact g.elim
   |_=>exact b.elim
 simp_all[wpListIn]
theorem least{p:Nat->Prop}(a:∀i,p i\/ ¬p i):∀n,p n->∃i,i<=n/\p i/\ ∀j,j<i->¬p j:=by
 intro n
 induction n using Nat.strongRecOn with
 |ind n b=>
  grind
def onL(L:Array Bool)(i:Nat):Prop:=L[i]?=some true
theorem QaF{l:List Oper}{L:Array Bool}(m:L.size=l.length){i:Nat}:
  i∈Region.ready .any l.toArray L↔ ∃o,l[i]?=some o/\ ¬onL L i/\ ∀j∈Qh o,onL L j:=by
 unfold Region.ready;simp only[Xd,List.mem_range,List.size_toArray,XW,Bool.not_eq_true',XG];have d:∀j,L.getD j false=true↔onL L j:=by
  intro j;unfold onL;rw[Array.getD_eq_getD_getElem?]
  grind
 constructor
 .rintro⟨b,g,a⟩;refine⟨l[i],(by simp),?_,?_⟩
  .grind
  .rw[XK b]at a;simp only[Xj,Option.getD_some,Array.all_eq_true']at a;intro j h;unfold Qh at h
   grind
 .rintro⟨o,b,g,a⟩;have f:i<l.length:=(by grind);refine⟨f,?_,?_⟩
  .grind
  .rw[b];simp only[Xj,Option.getD_some,Array.all_eq_true'];intro e n;cases k:Region.binds .any e with
   |false=>simp
   |true=>
    have:=(d _).2 (a e.on (by unfold Qh;grind))
    grind
theorem Jk{L:Array Bool}{i j:Nat}(hi:i<L.size):onL (L.setIfInBounds i true) j↔j=i\/onL L j:=by
 grind[onL]
def unl(L:Array Bool):Nat:=L.toList.countP (!·)
theorem Qgr{L:Array Bool}{i:Nat}(hi:i<L.size)(h:¬onL L i):unl (L.setIfInBounds i true)+1=unl L:=by
 unfold unl;have a:i<L.toList.length:=by omega
 have b:L.toList[i]=false:=by
  grind[onL]
 grind
theorem Qjl{L:Array Bool}{i:Nat}(hi:i<L.size)(h:¬onL L i):0<unl L:=by have:=Qgr hi h;omega
inductive Qcf (l:List Oper) (m:Nat):Nat->Prop
 |one {o:Oper} {j:Nat} (ho:l[m]?=some o) (hj:j∈Qh o):Qcf l m j
 |step {o:Oper} {i j:Nat} (h:Qcf l m i) (ho:l[i]?=some o) (hj:j∈Qh o):Qcf l m j
def QeG(l:List Oper):Nat->List Nat->List Nat
 |0,S=>S
 |j+1,S=>QeG l j (bif S.contains j then S++(match l[j]? with|some o=>Qh o|none=>[])else S)
theorem QbX{l:List Oper}{m:Nat}:∀(n:Nat) (S:List Nat),(∀j∈S,Qcf l m j)->∀j∈QeG l n S,Qcf l m j
 |0,S,h,j,hj=>h j hj
 |n+1,S,h,j,hj=>by
  refine QbX n _ ?_ j hj;intro i hi;cases q:S.contains n with
  |false=>grind
  |true=>
   rw[q]at hi;rcases VD.1 hi with z|z
   .exact h i z
   .cases ho:l[n]? with
    |none=>grind
    |some o=>rw[ho]at z;exact .step (by grind) ho z
def Qas(ds:List Nat)(xs:List A)(env0:Env):Env:=ds.zip xs++env0
theorem Qnq{a:List Nat}{xs:List A}{env0:Env}(b:a.length=xs.length)(s:Nat):
  (∃(j:Nat) (x:A),a[j]?=some s/\xs[j]?=some x/\lk (Qas a xs env0) s=x)\/(a.contains s=false/\lk (Qas a xs env0) s=lk env0 s):=by
 unfold Qas
 induction a generalizing xs with
 |nil=>right;simp
 |cons d a i=>
  cases xs with
  |nil=>simp at b
  |cons x xs=>
   simp only[X0,Nat.add_right_cancel_iff]at b;simp only[List.zip_cons_cons,VK,lk];cases h:Nat.beq s d with
   |true=>
    obtain rfl:=XQ h;left;exact⟨0,x,rfl,rfl,by simp⟩
   |false=>
    have g:s≠d:=λq=>by simp_all
    rcases i b with⟨j,y,f,e,k⟩|⟨f,e⟩
    .left;exact⟨j+1,y,by grind,by grind,by grind⟩
    grind
def drawChk.nodupB:List Nat->Bool
 |[]=>true
 |x::r=> !r.contains x&&drawChk.nodupB r
def drawChk.goB(l:List Oper)(m:Nat):Nat->List Oper->Bool
 |_,[]=>true
 |i,o::r=>(Qh o).all (λj=>Nat.blt j i)&&(bif Nat.beq i m then(List.range m).all (λj=>(QeG l m (Qh o)).contains j)else bif Nat.blt m i then(Qh o).contains (i-1)else true)&&drawChk.goB l m (i+1) r
def drawChk.loB(m k:Nat)(los:List Nat)(hs:List Bool):Nat->List Oper->Bool
 |_,[]=>(List.range k).all λj=>(List.range m).any λi=>hs.getD i false&&Nat.beq (los.getD i 0) j
 |i,o::r=>(bif Nat.blt i m then
   (Nat.beq (los.getD i 0) 0||(Qh o).any (λj=>Nat.blt j m&&Nat.ble (los.getD i 0) (los.getD j 0+(if hs.getD j false then 1 else 0))))
   &&(!hs.getD i false||(Nat.blt (los.getD i 0) k&&(List.range m).all (λj=> !hs.getD j false|| !Nat.beq (los.getD i 0) (los.getD j 0)||Nat.beq i j)))
  else true)&&drawChk.loB m k los hs (i+1) r
def drawChk(l:List Oper)(m k N:Nat)(ds los:List Nat)(hs:List Bool):Bool:=
 Nat.ble m l.length&&(ds.length==m)&&(l.take m).map (·.dst)==ds.map some&&ds.all (λd=>Nat.blt d N)&&drawChk.nodupB ds
 &&drawChk.goB l m 0 l&&(drawChk.loB m k los hs 0 l)
theorem QdJ{a:List Nat}(h:drawChk.nodupB a=true):∀(i j d:Nat),a[i]?=some d->a[j]?=some d->i=j:=by
 induction a with
 |nil=>simp
 |cons x r b=>
  simp only[drawChk.nodupB,XW,Bool.not_eq_true']at h
  grind
theorem QhC{l:List Oper}{m:Nat}:∀(r:List Oper) (b:Nat),drawChk.goB l m b r=true->∀(i:Nat) (o:Oper),r[i]?=some o->
  (∀j∈Qh o,j<b+i)/\(b+i=m->∀j,j<m->j∈QeG l m (Qh o))/\(m<b+i->b+i-1∈Qh o):=by
 intro r
 induction r with
 |nil=>simp
 |cons x r e=>
  intro b h i o a;simp only[drawChk.goB,XW]at h;cases i with
  |zero=>
   simp at a;subst a;refine⟨λj d=>?_,λf j d=>?_,λf=>?_⟩
   .simp_all
   .simp_all
   .have g:=h.1.2;have n:Nat.beq b m=false:=by
     cases q:Nat.beq b m with
     |false=>rfl
     |true=>simp_all
    have k:Nat.blt m b=true:=by simp_all
    grind
  |succ i=>
   have:=e (b+1) h.2 i o (by grind)
   grind
inductive Ob (P:Program) (N:Nat) (l:List Oper) (ds:List Nat) (xs:List A) (env0:Env):Nat->List (List (Qd×Qd))->Prop
 |nil {i:Nat}:Ob P N l ds xs env0 i []
 |cons {i:Nat} {s:List (Qd×Qd)} {r:List (List (Qd×Qd))} (h:∀p∈s,QdZ P N l ds xs env0 i p.1 p.2) (k:Ob P N l ds xs env0 (i+1) r):Ob P N l ds xs env0 i (s::r)
theorem Ob.get{P:Program}{N:Nat}{l:List Oper}{d:List Nat}{xs:List A}{env0:Env}{b:Nat}{a:List (List (Qd×Qd))}(h:Ob P N l d xs env0 b a):
  ∀(i:Nat) (s:List (Qd×Qd)),a[i]?=some s->∀p∈s,QdZ P N l d xs env0 (b+i) p.1 p.2:=by
 induction h with
 |nil=>simp
 | @cons b1 s1 r1 h _ ih=>
  grind
theorem Ob.st0{P:Program}{N:Nat}{l:List Oper}{a:List Nat}{xs:List A}{env0:Env}{i:Nat}:∀p∈([]:List (Qd×Qd)),QdZ P N l a xs env0 i p.1 p.2:=by
 simp
theorem Ob.stC{P:Program}{N:Nat}{l:List Oper}{a:List Nat}{xs:List A}{env0:Env}{i:Nat}{H H':Qd}{r:List (Qd×Qd)}(h:QdZ P N l a xs env0 i H H')
  (k:∀p∈r,QdZ P N l a xs env0 i p.1 p.2):∀p∈(H,H')::r,QdZ P N l a xs env0 i p.1 p.2:=by
 grind
theorem Qbk.nil{H:Qd}:Qbk H [] []:=trivial
theorem Qbk.cons{H:Qd}{az d f:List A}{a b:A}(e:az=a::d)(h:Look H a b)(k:Qbk H d f):Qbk H az (b::f):=by subst e;exact⟨h,k⟩
section
variable {P:Program} {o:Oper} {env:Env} {H:Qd} {α:Type} {e:α->List A}
end
end Go.Sw
namespace Go.Sw
inductive PL (P:Program):List Field->List (Nat×Nat)->Prop
 |nil:PL P [] []
 |cons {f:Field} {n:Nat} {fs:List Field} {pl:List (Nat×Nat)} (h:∀w,(sizeOf f.type).run P w=.ok n w) (k:PL P fs pl):PL P (f::fs) ((f.offset,n)::pl)
theorem PL.run{P:Program}{fs:List Field}{a:List (Nat×Nat)}(h:PL P fs a):∀w,(fs.mapM λf=>(do pure (f.offset, <- sizeOf f.type):Sem (Nat×Nat))).run P w=.ok a w:=by
 induction h with
 |nil=>intro w;rfl
 |cons h _ ih=>
  simp_all
structure Qz (P:Program) (t:TypeId) (pl:List (Nat×Nat)):Prop where
 un:∃fs:List Field,(∀w,(underlying t).run P w=.ok (.struct fs.toArray) w)/\PL P fs pl
section
variable {P:Program} {o:Oper} {env:Env} {H:Qd}
def QdQ(env:Env)(pl:List (Nat×Nat)):List A->List (Nat×Operand)->Option (List A)
 |cs,[]=>some cs
 |cs,(i,x)::r=>match pl[i]? with
  |none=>none
  |some (off,size)=>bif Yj (opA env x)&&Nat.beq (Q8 (opA env x)).length size&&Nat.ble (off+size) cs.length then QdQ env pl (splice cs off (Q8 (opA env x))) r else none
theorem QeZ{fr ro:Nat->Prop}{σ:Sig}{N:Nat}{a:Act}{w:World}(r:Rel fr ro σ H env N a w){b:List (Nat×Nat)}:∀(parts:List (Nat×Operand)) (cs:List A) (l:List Value) (cs':List A),
  LR ro σ w cs l->QdQ env b cs parts=some cs'->
  ∃l',Instr.fill (b.toArray[·]?) l.toArray (parts.map λp=>(p.1,a.eval p.2))=some l'.toArray/\LR ro σ w cs' l'
 |[],cs,l,cs',h,q=>by
  cases q;exact⟨l,rfl,h⟩
 |(i,x)::rest,cs,l,cs',h,q=>by
  unfold QdQ at q;cases hp:b[i]? with
  |none=>grind
  |some p=>
   obtain⟨off,size⟩:=p;rw[hp]at q;simp only at q;cases hc:(Yj (opA env x)&&Nat.beq (Q8 (opA env x)).length size&&Nat.ble (off+size) cs.length)with
   |false=>grind
   |true=>
    rw[hc]at q;simp only[XW]at hc;obtain⟨⟨c1,c2⟩,c3⟩:=hc;obtain⟨m,q1,q2⟩:=(Qk r x).cells c1;have hm:m.length=size:=by rw[q2.length];simp_all
    have e:l.length=cs.length:=h.length;obtain⟨l',d,f⟩:=QeZ r rest _ (splice l off m) cs' (h.splice off q2) q
    grind[QfY,Nat.le_of_ble_eq_true]
theorem OpV.build{t:TypeId}{z:Value}{zs cs:List A}{b:List (Nat×Nat)}{parts:List (Nat×Operand)}(i:∀w,(zeroValue t).run P w=.ok z w)(m:ZR (.agg zs) z)(j:Qz P t b)
  (q:o.op=.build t parts.toArray:=by exact rfl)(hf:QdQ env b zs parts=some cs:=by exact rfl):OpV P o env H (.agg cs):=by
 intro s n σ N a w r;obtain⟨u,e,f⟩:=j.un;obtain⟨l,rfl,h⟩:=m n σ w;obtain⟨d,p,k⟩:=QeZ r parts zs l cs h hf;refine⟨.agg d.toArray,?_,d,rfl,k⟩;generalize hρ:a.eval=ρ at*;have g:=f.run w;simp only[execOp,q,Instr.build,Vm,i,Result.andThen,e,XI,List.mapM_toArray,Sem.run_map,g,Value.cells,p,Vn]
end
def nz(n:Int):Option Unit:=bif n==0 then none else some ()
theorem nz_ok{n:Int}{u:Unit}(h:nz n=some u):n≠0:=by
 rintro rfl;simp[nz]at h
section
variable {P:Program} {o:Oper} {env:Env} {H:Qd}
theorem Qfm{x:Operand}{a:A}(k:o.op=.nilCheck x)(g:opA env x=a:=by exact rfl)(hk:(match a with|.ptr _ _=>true|.rp _=>true|_=>false)=true:=by exact rfl):OpV P o env H a:=by
 intro i j σ N ac w r;have h:=Qk r x;rw[g]at h;cases a<;>first|(cases hk;done)|skip
 .obtain⟨b,e,f⟩:=h;refine⟨_,?_,b,e,rfl⟩
  simp_all[execOp]
 .obtain⟨b,d,e,f⟩:=h;refine⟨_,?_,b,d,rfl,f⟩
  simp_all[execOp]
end
mutual
def FzA(i k:Nat)(es:List (List A)):A->A->Prop
 |.agg az,b=>∃bs,b=.agg bs/\FzL i k es az bs
 |.fn f x c,b=>∃x' c',b=.fn f x' c'/\FzL i k es x x'/\FzL i k es c c'
 |.iface t a,b=>∃a',b=.iface t a'/\FzA i k es a a'
 |.tup az,b=>∃bs,b=.tup bs/\FzL i k es az bs
 |.osl j o n k',b=>b=.osl j o n k'\/(j=i/\o=0/\k'=k/\n=es.length/\b=.rsl k es)
 |.nils,b=>b=.nils\/ ∃k',b=.rsl k' []
 |a,b=>b=a
def FzL(i k:Nat)(es:List (List A)):List A->List A->Prop
 |[],b=>b=[]
 |a::az,b=>∃a' as',b=a'::as'/\FzA i k es a a'/\FzL i k es az as'
end
mutual
theorem FzA.refl{i k:Nat}{es:List (List A)}:∀a:A,FzA i k es a a
 |.agg az=>⟨az,rfl,FzL.refl az⟩
 |.fn _ x c=>⟨x,c,rfl,FzL.refl x,FzL.refl c⟩
 |.iface _ a=>⟨a,rfl,FzA.refl a⟩
 |.tup az=>⟨az,rfl,FzL.refl az⟩
 |.osl _ _ _ _=>.inl rfl
 |.nils=>.inl rfl
 |.any=>rfl
 |.bool _=>rfl
 |.int _ _=>rfl
 |.str _=>rfl
 |.nilp=>rfl
 |.ptr _ _=>rfl
 |.rp _=>rfl
 |.rsl _ _=>rfl
 |.nilf=>rfl
 |.nilif=>rfl
 |.map _=>rfl
 |.nilm=>rfl
theorem FzL.refl{i k:Nat}{es:List (List A)}:∀az:List A,FzL i k es az az
 |[]=>rfl
 |a::az=>⟨a,az,rfl,FzA.refl a,FzL.refl az⟩
end
theorem FzA.agg{i k:Nat}{es:List (List A)}{az bs:List A}(h:FzL i k es az bs):FzA i k es (.agg az) (.agg bs):=⟨bs,rfl,h⟩
theorem FzA.tup{i k:Nat}{es:List (List A)}{az bs:List A}(h:FzL i k es az bs):FzA i k es (.tup az) (.tup bs):=⟨bs,rfl,h⟩
theorem FzA.iface{i k:Nat}{es:List (List A)}{t:Nat}{a b:A}(h:FzA i k es a b):FzA i k es (.iface t a) (.iface t b):=⟨b,rfl,h⟩
theorem FzA.own{i k n:Nat}{es:List (List A)}(hn:n=es.length):FzA i k es (.osl i 0 n k) (.rsl k es):=.inr (by grind)
theorem FzA.nil{i k k':Nat}{es:List (List A)}:FzA i k es .nils (.rsl k' []):=.inr ⟨k',rfl⟩
theorem FzL.cons{i k:Nat}{es:List (List A)}{a b:A}{az bs:List A}(h:FzA i k es a b)(q:FzL i k es az bs):FzL i k es (a::az) (b::bs):=⟨b,bs,rfl,h,q⟩
mutual
theorem Qjd{i k:Nat}{es:List (List A)}{ro ro':Nat->Prop}{σ:Sig}{w:World}(ext:Ext ro σ w ro' σ w)
  (hf:∀v,VR ro σ w (.osl i 0 es.length k) v->VR ro' σ w (.rsl k es) v):∀(a b:A) (v:Value),FzA i k es a b->VR ro σ w a v->VR ro' σ w b v
 |.agg az,b,v,h,q=>by
  obtain⟨bs,rfl,h⟩:=h;obtain⟨l,rfl,q⟩:=q;exact⟨l,rfl,QdC ext hf az bs l h q⟩
 |.fn f x c,b,v,h,q=>by
  obtain⟨x',c',rfl,h1,h2⟩:=h;obtain⟨l,l',rfl,q1,q2⟩:=q;exact⟨l,l',rfl,QdC ext hf x x' l h1 q1,QdC ext hf c c' l' h2 q2⟩
 |.iface t a,b,v,h,q=>by
  obtain⟨a',rfl,h⟩:=h;obtain⟨x,rfl,q⟩:=q;exact⟨x,rfl,Qjd ext hf a a' x h q⟩
 |.tup az,b,v,h,q=>by
  obtain⟨bs,rfl,h⟩:=h;obtain⟨l,rfl,q⟩:=q;exact⟨l,rfl,QdC ext hf az bs l h q⟩
 |.osl j o n k',b,v,h,q=>by
  rcases h with rfl|⟨rfl,rfl,rfl,rfl,rfl⟩
  .exact q.mono ext
  .exact hf v q
 |.nils,b,v,h,q=>by
  rcases h with rfl|⟨k',rfl⟩
  .exact q
  .obtain rfl:v=.slice none 0 0:=q;exact⟨none,0,rfl,XT _,.inl rfl⟩
 |.any,b,v,h,q=>by obtain rfl:b=_:=h;trivial
 |.bool _,b,v,h,q=>by obtain rfl:b=_:=h;exact q
 |.int _ _,b,v,h,q=>by obtain rfl:b=_:=h;exact q
 |.str _,b,v,h,q=>by obtain rfl:b=_:=h;exact q
 |.nilp,b,v,h,q=>by obtain rfl:b=_:=h;exact q
 |.ptr _ _,b,v,h,q=>by obtain rfl:b=_:=h;exact q.mono ext
 |.rp _,b,v,h,q=>by obtain rfl:b=_:=h;exact q.mono ext
 |.rsl _ _,b,v,h,q=>by obtain rfl:b=_:=h;exact q.mono ext
 |.nilf,b,v,h,q=>by obtain rfl:b=_:=h;exact q
 |.nilif,b,v,h,q=>by obtain rfl:b=_:=h;exact q
 |.map _,b,v,h,q=>by obtain rfl:b=_:=h;exact q.mono ext
 |.nilm,b,v,h,q=>by obtain rfl:b=_:=h;exact q
theorem QdC{i k:Nat}{es:List (List A)}{ro ro':Nat->Prop}{σ:Sig}{w:World}(ext:Ext ro σ w ro' σ w)
  (hf:∀v,VR ro σ w (.osl i 0 es.length k) v->VR ro' σ w (.rsl k es) v):∀(az bs:List A) (l:List Value),FzL i k es az bs->LR ro σ w az l->LR ro' σ w bs l
 |[],bs,l,h,q=>by obtain rfl:bs=[]:=h;exact q
 |a::az,bs,l,h,q=>by
  obtain⟨a',as',rfl,h1,h2⟩:=h;obtain⟨v,l',rfl,q1,q2⟩:=q;exact⟨v,l',rfl,Qjd ext hf a a' v h1 q1,QdC ext hf az as' l' h2 q2⟩
end
def FzB(i k:Nat)(es:List (List A))(x y:Blk):Prop:=y=x\/ ∃t cs cs',x=.cells t cs/\y=.cells t cs'/\FzL i k es cs cs'
def FzH(i k:Nat)(es:List (List A)):Qd->Qd->Prop
 |[],h=>h=[]
 |x::r,h=>∃y r',h=y::r'/\FzB i k es x y/\FzH i k es r r'
def QmY(i k:Nat)(es:List (List A))(env:Env):Env->Prop
 |[]=>True
 |(s,a)::r=>FzA i k es (lk env s) a/\QmY i k es env r
theorem FzH.nil{i k:Nat}{es:List (List A)}:FzH i k es [] []:=rfl
theorem FzH.keep{i k:Nat}{es:List (List A)}{x:Blk}{r r':Qd}(h:FzH i k es r r'):FzH i k es (x::r) (x::r'):=⟨x,r',rfl,.inl rfl,h⟩
theorem FzH.cells{i k t:Nat}{es:List (List A)}{cs cs':List A}{r r':Qd}(q:FzL i k es cs cs')(h:FzH i k es r r'):FzH i k es (.cells t cs::r) (.cells t cs'::r'):=⟨_,r',rfl,.inr (by grind),h⟩
theorem FzH.get{i k:Nat}{es:List (List A)}:∀{H H':Qd},FzH i k es H H'->∀(j:Nat) (y:Blk),H'[j]?=some y->∃x,H[j]?=some x/\FzB i k es x y
 |[],_,h,j,y,q=>by obtain rfl:_=[]:=h;simp at q
 |x::r,_,h,j,y,q=>by
  obtain⟨y',r',rfl,h1,h2⟩:=h;cases j with
  |zero=>grind
  |succ j=>simp at q;obtain⟨x',p1,p2⟩:=h2.get j y q;grind
theorem FzH.len{i k:Nat}{es:List (List A)}:∀{H H':Qd},FzH i k es H H'->H'.length=H.length
 |[],_,h=>by obtain rfl:_=[]:=h;rfl
 |x::r,_,h=>by obtain⟨y',r',rfl,h1,h2⟩:=h;simp[h2.len]
theorem FzB.live{i k:Nat}{es:List (List A)}{x y:Blk}(h:FzB i k es x y):y.live=x.live:=by
 rcases h with rfl|⟨t,b,a,rfl,rfl,_⟩<;>rfl
theorem Qch{env:Env}{H H':Qd}{R i k t:Nat}{es:List (List A)}(ov:Env)(hi:Nat.ble R i=true)(M:H[i]?=some (.row t k es))(aa:QmY i k es env ov)(F:FzH i k es (H.set i .dead) H'):Le R env H (ov++env) H':=by
 intro fr O σ N a w r
 let ro':Nat->Prop:=λb=>O b\/σ[i]?=some (some b)
 have ab:∀b,σ[i]?=some (some b)->b<w.heap.size/\ ¬O b/\ ¬fr b:=λb h=>r.sim.own i b _ h M rfl;have ext:Ext O σ w ro' σ w:=⟨λ_ q=>.inl q,λ_ _=>rfl,λ_ _ q=>q,λ_ _ q=>q⟩;have hf:∀v,VR O σ w (.osl i 0 es.length k) v->VR ro' σ w (.rsl k es) v:=by
  intro v h;rcases h with⟨R,h⟩|⟨b,p,G,t',m,g,h,n,⟨u,ac⟩,h4,W⟩
  .have:es=[]:=(by grind);subst this;exact⟨none,0,h,XT _,.inl rfl⟩
  .refine⟨_,G,h,u,?_⟩;by_cases he:es=[]
   .exact .inl he
   .right;have hc:0<G:=Vf (by grind) u;obtain rfl:=n hc;obtain⟨l,V,q2⟩:=r.sim.blk i _ _ g M;refine⟨b,0,by simp,.inr g,?_⟩;have:=Yt (pre:=[]) (by simpa using V) q2;exact this.keep ⟨λ_ q=>.inl q,λ_ _=>rfl,λ_ _ q=>q,λ_ _ q=>q⟩ rfl
 have f:∀(j:Nat) (y:Blk),H'[j]?=some y->y≠ .dead->j≠i/\ ∃x,H[j]?=some x/\FzB i k es x y:=by
  intro j y h Q;obtain⟨x,g,n⟩:=F.get j y h;by_cases e:j=i
  .subst e;rw[Xb]at g;simp only[if_true]at g;split at g
   .cases g;rcases n with rfl|⟨_,_,_,q,_,_⟩
    .grind
    .cases q
   .simp at g
  grind
 refine⟨ro',σ,⟨⟨by rw[F.len,X4];exact r.sim.len,r.sim.roOk.to (λ_ q=>.inl q) (λ_ _=>rfl) ?_,r.sim.frLt,?_,?_,?_,?_,r.sim.hidTo (· = ·) Q3 (XT _) (λj b x c V q2 q3 q4=>q4.elim id λq=>((r.sim.hid j b x c V q2 q3).ne i c _ q M rfl rfl).elim) (by simp) λj d y P T g3=>.inl ?_⟩,?_,r.size,r.defers⟩,λ_ q=>.inl q,rfl⟩
 rotate_left 5
 .obtain⟨_,x,g4,g5⟩:=f j y T (Qen g3);exact⟨j,x,rfl,P,g4,λz=>by rw[<- g5.live];exact z,λc q=>by rcases g5 with rfl|⟨t,cs,L,rfl,rfl,_⟩;exact q;exact q.elim⟩
 rotate_left 1
 .rintro b (q|q)
  .exact r.sim.roLt b q
  grind
 .rintro b (q|q)
  .exact r.sim.roFr b q
  grind
 .intro j b v g n u;obtain⟨e,x,n,J⟩:=f j v n (Qar u);have hx:x.live=true:=by rw[<- J.live];exact u
  obtain⟨B,E,p3⟩:=r.sim.own j b x g n hx;refine⟨B,?_,p3⟩;rintro(q|q)
  .exact E q
  .exact e (r.sim.inj j i b x _ g q n M hx rfl)
 .intro j j' b v v' g n u h4 W h6;obtain⟨_,x,B,E⟩:=f j v u (Qar W);obtain⟨_,x',Y,X⟩:=f j' v' h4 (Qar h6);exact r.sim.inj j j' b x x' g n B Y (by rw[<- E.live];exact W) (by rw[<- X.live];exact h6)
 .intro j s v g n;by_cases Q:v≠ .dead
  .obtain⟨_,x,B,E⟩:=f j v n Q;have J:=r.sim.blk j s x g B;rcases E with rfl|⟨t,cs,L,rfl,rfl,q⟩
   .exact J.keep ext (λ_ _ _=>rfl) (λ_ _ _ _=>rfl)
   .cases s with
    |none=>exact J.elim
    |some b=>
     obtain⟨l,e1,e2,e3⟩:=J;exact⟨l,e1,QdC ext hf cs L l q e2,e3⟩
  .obtain rfl:v=.dead:=Classical.not_not.1 Q;trivial
 .intro s
  induction ov with
  |nil=>exact(r.env s).mono ext
  |cons p ov ih=>
   obtain⟨s1,a1⟩:=p;obtain⟨P,T⟩:=aa;simp only[VK,lk];cases q:Nat.beq s s1 with
   |true=>
    obtain rfl:=XQ q;exact Qjd ext hf _ _ _ P (r.env s)
   |false=>exact ih T
theorem QmY.nil{i k:Nat}{es:List (List A)}{env:Env}:QmY i k es env []:=trivial
theorem QmY.cons{i k s:Nat}{es:List (List A)}{env:Env}{a b:A}{r:Env}(h:lk env s=a)(q:FzA i k es a b)(g:QmY i k es env r):QmY i k es env ((s,b)::r):=⟨h▸q,g⟩
def QdX(P:Program)(env:Env)(H:Qd)(l:ResultVar)(x:A):Prop:=
 ∀fr ro σ N a w,Rel fr ro σ H env N a w->∃v,((match l with
  |.tmp t=>pure (a.tmps.getD t undef)
  |.cell b t=>do loadVar t (<- asAddr (a.tmps.getD b undef)):Sem Value)).run P w=.ok v w/\VR ro σ w x v
def Qi6(P:Program)(env:Env)(H:Qd):List ResultVar->List A->Prop
 |[],xs=>xs=[]
 |l::ls,xs=>∃x xs',xs=x::xs'/\QdX P env H l x/\Qi6 P env H ls xs'
section
variable {P:Program} {fn:Func} {env:Env} {H:Qd}
theorem QdX.tmp{t:Nat}{x:A}(b:lk env t=x:=by exact rfl):QdX P env H (.tmp t) x:=
 λfr ro σ N a w r=>⟨a.tmps.getD t undef,rfl,b▸r.env t⟩
theorem QdX.cell{b t:Nat}{p x:A}{cs:List A}(n:∀w,(isAgg t).run P w=.ok false w)(g:Pts H p (x::cs))(e:lk env b=p:=by exact rfl):QdX P env H (.cell b t) x:=by
 intro f h σ N a w r;have d:=r.env b;rw[e]at d;obtain⟨j,i,k,⟨y,l,_,m⟩,_⟩:=g f h σ w _ r.sim d
 simp_all[asAddr,loadVar]
theorem QdW{b t n:Nat}{p:A}{cs:List A}(u:∀w,(isAgg t).run P w=.ok true w)(s:∀w,(sizeOf t).run P w=.ok n w)(j:Pts H p cs)(g:lk env b=p:=by exact rfl)(hl:(cs.take n).length=n:=by exact rfl):
  QdX P env H (.cell b t) (.agg (cs.take n)):=by
 intro i k σ N a w r;have e:=r.env b;rw[g]at e;obtain⟨m,off,q,f⟩:=j i k σ w _ r.sim e;obtain⟨l,h,_,d⟩:=Yx (P:=P) (cs:=cs.take n) (off:=off) 0 (by simpa using f.take n);have d:=d w #[] rfl;rw[hl]at d;refine⟨.agg l.toArray,?_,l,rfl,h⟩
 simp_all[asAddr,loadVar,loadCells]
theorem Ql{b t n i T:Nat}{cs:List A}(e:∀w,(isAgg t).run P w=.ok true w)(d:∀w,(sizeOf t).run P w=.ok n w)(f:lk env b=.ptr i 0)(a:H[i]?=some (.cells T cs))(g:cs.length=n):
  QdX P env H (.cell b t) (.agg cs):=by
 have:=QdW (b:=b) (p:=.ptr i 0) e d (Pts.cells (off:=0) a rfl) f (by grind)
 grind
theorem Qi6.nil:Qi6 P env H [] []:=rfl
theorem Qi6.cons{l:ResultVar}{ls:List ResultVar}{x:A}{xs:List A}(h:QdX P env H l x)(k:Qi6 P env H ls xs):Qi6 P env H (l::ls) (x::xs):=⟨x,xs,rfl,h,k⟩
theorem Qi6.run{fr ro:Nat->Prop}{σ:Sig}{N:Nat}{a:Act}{w:World}(r:Rel fr ro σ H env N a w):∀{ls:List ResultVar} {xs:List A},Qi6 P env H ls xs->
  ∃vs:List Value,(ls.mapM λl=>(match l with
   |.tmp t=>pure (a.tmps.getD t undef)
   |.cell b t=>do loadVar t (<- asAddr (a.tmps.getD b undef)):Sem Value)).run P w=.ok vs w/\LR ro σ w xs vs
 |[],_,h=>by obtain rfl:_=[]:=h;exact⟨[],rfl,rfl⟩
 |l::ls,_,h=>by
  obtain⟨x,xs,rfl,h1,h2⟩:=h;obtain⟨v,e1,e2⟩:=h1 fr ro σ N a w r;obtain⟨vs,e3,e4⟩:=Qi6.run r h2;refine⟨v::vs,?_,v,vs,rfl,e2,e4⟩
  simp_all
theorem Qn{ls:List ResultVar}{xs:List A}(h:fn.results=ls.toArray)(i:Nat.beq ls.length 1=false)(k:Qi6 P env H ls xs):Qce P fn env H (.tup xs):=by
 intro j m σ N a w r;obtain⟨vs,n,d⟩:=k.run r;have b:¬vs.length=1:=by
  have:∀{ls:List ResultVar} {xs:List A},Qi6 P env H ls xs->xs.length=ls.length:=by
   intro ls
   induction ls with
   |nil=>intro xs h;obtain rfl:xs=[]:=h;rfl
   |cons l ls f=>intro xs h;obtain⟨x,g,rfl,_,e⟩:=h;simp[f e]
  rw[d.length,this k];intro q;simp_all
 refine⟨.tuple vs.toArray,?_,vs,rfl,d⟩;unfold results;rw[h];rw[List.mapM_toArray,Vm,Sem.run_map]
 grind[Result.andThen,Sem.run_pure]
theorem Y1{l:ResultVar}{x:A}(h:fn.results= #[l])(k:QdX P env H l x):Qce P fn env H x:=by
 intro e f σ N a w r;obtain⟨vs,d,b⟩:=(Qi6.cons k Qi6.nil).run r;obtain⟨v,_,rfl,b,rfl⟩:=b;refine⟨v,?_,b⟩;unfold results;rw[h,show #[l]=[l].toArray from rfl];rw[List.mapM_toArray,Vm,Sem.run_map]
 erw [d]
 rfl
end
end Go.Sw
namespace Go.Sw
mutual
def Qj4:A->Bool
 |.bool _=>true
 |.int _ _=>true
 |.str _=>true
 |.agg cs=>Qgv cs
 |_=>false
def Qgv:List A->Bool
 |[]=>true
 |a::r=>Qj4 a&&Qgv r
end
mutual
def QH:A->Value
 |.bool b=>.bool b
 |.int k n=>.int k n
 |.str s=>.string ⟨s.toArray⟩
 |.agg cs=>.agg (YJ cs).toArray
 |_=>.bool false
def YJ:List A->List Value
 |[]=>[]
 |a::r=>QH a::YJ r
end
mutual
theorem VR.val{ro:Nat->Prop}{σ:Sig}{w:World}:∀{a:A} {v:Value},Qj4 a=true->VR ro σ w a v->v=QH a
 |.bool _,_,_,h=>h
 |.int _ _,_,_,h=>h
 |.str _,_,_,h=>h
 |.agg cs,v,hs,h=>by
  obtain⟨l,rfl,h⟩:=h;rw[QH,LR.val hs h]
theorem LR.val{ro:Nat->Prop}{σ:Sig}{w:World}:∀{az:List A} {l:List Value},Qgv az=true->LR ro σ w az l->l=YJ az
 |[],l,_,h=>h
 |a::r,l,hs,h=>by
  obtain⟨v,l',rfl,h1,h2⟩:=h;simp only[Qgv,XW]at hs;rw[YJ,VR.val hs.1 h1,LR.val hs.2 h2]
end
mutual
theorem QcS{ro:Nat->Prop}{σ:Sig}{w:World}:∀{a:A},Qj4 a=true->VR ro σ w a (QH a)
 |.bool _,_=>rfl
 |.int _ _,_=>rfl
 |.str _,_=>rfl
 |.agg cs,hs=>⟨YJ cs,rfl,Qfv hs⟩
theorem Qfv{ro:Nat->Prop}{σ:Sig}{w:World}:∀{az:List A},Qgv az=true->LR ro σ w az (YJ az)
 |[],_=>rfl
 |a::r,hs=>by
  simp only[Qgv,XW]at hs;exact⟨_,_,rfl,QcS hs.1,Qfv hs.2⟩
end
end Go.Sw
namespace Go.Sw
open Go.MapKept
structure Qab (P:Program) (kt:TypeId) {α:Type} (ek:α->A):Prop where
 scl:∀x,Qj4 (ek x)=true
 inj:∀x y,QH (ek x)=QH (ek y)->x=y
 check:∀(w:World) em x,(Instr.checkKey em 10000 kt (QH (ek x))).run P w=.ok () w
 find:∀(w:World) x (es:List MapEntry),(∀e∈es,∃y,e.key=QH (ek y))->
  ((Instr.findKey kt (QH (ek x)) es).run P w=.ok none w/\ ∀e∈es,e.key≠QH (ek x))\/ ∃j e,(Instr.findKey kt (QH (ek x)) es).run P w=.ok (some (j,e.val)) w/\es[j]?=some e/\e.key=QH (ek x)
 stays:∀(w:World) x,(Instr.keyThatStays (QH (ek x)) (QH (ek x))).run P w=.ok (QH (ek x)) w
section
variable {P:Program} {kt:TypeId}
theorem Qab.plain{α:Type}{a:α->A}{d:TypeDesc}(h:P.underlying kt=some d)(b:∀x,IsKey d (QH (a x)))(f:∀x,Qj4 (a x)=true)(hi:∀x y,QH (a x)=QH (a y)->x=y):Qab P kt a:=by
 refine⟨f,hi,λw e x=>run_checkKey h (b x) e 9999,λw x i g=>?_,λw x=>run_keyThatStays (b x)⟩
 grind[findNow_spec,run_findKey]
theorem Qab.int{q:IntKind}(hk:P.underlying kt=some (.int q)):Qab P kt (λn=>A.int q n):=
 Qab.plain hk (λx=>by rfl) (λ_=>rfl) (λx y h=>by simpa[QH]using h)
theorem Qab.str(hk:P.underlying kt=some .string):Qab P kt A.str:=
 Qab.plain hk (λx=>by simp[IsKey,QH]) (λ_=>rfl) (λx y h=>by simpa[QH]using h)
theorem Qab.struct{α:Type}[DecidableEq α]{a:α->A}{fs:Array Field}(G:P.underlying kt=some (.struct fs))(r:∀x,Qj4 (a x)=true)(hi:∀x y,QH (a x)=QH (a y)->x=y)
  (p:∀(w:World) em x,(Instr.checkKey em 10000 kt (QH (a x))).run P w=.ok () w)
  (he:∀(w:World) x y,(Op.equal kt (QH (a x)) (QH (a y))).run P w=.ok (decide (x=y)) w)(q:∀x,Instr.sameBits 10000 (QH (a x)) (QH (a x))=true):Qab P kt a:=by
 refine⟨r,hi,p,λw x b B=>?_,λw x=>by simp[Instr.keyThatStays,q x]⟩
 .have h:∀(b:List MapEntry) (i:Nat),(∀e∈b,∃y,e.key=QH (a y))->
    ((Instr.findAsking kt (QH (a x)) b i).run P w=.ok none w/\ ∀e∈b,e.key≠QH (a x))\/
    ∃j e,(Instr.findAsking kt (QH (a x)) b i).run P w=.ok (some (i+j,e.val)) w/\b[j]?=some e/\e.key=QH (a x):=by
   intro b
   induction b with
   |nil=>simp_all[Instr.findAsking]
   |cons e b u=>
    intro i d;obtain⟨y,g⟩:=d e (by simp);have k:=he w x y;by_cases f:x=y
    .subst f;exact .inr ⟨0,e,by simp[Instr.findAsking,g,k],rfl,g⟩
    .rcases u (i+1) (λz m=>d z (by simp[m]))with⟨l,n⟩|⟨j,s,l,n,t⟩
     .refine .inl ⟨by simp[Instr.findAsking,g,k,f,l],λz m=>?_⟩
      grind
     .exact .inr ⟨j+1,s,by simp[Instr.findAsking,g,k,f,l,Nat.add_assoc,Nat.add_comm 1 j],by grind,t⟩
  cases b with
  |nil=>simp_all[Instr.findKey,run_underlying,Instr.findNow]
  |cons e b=>
   have E:Instr.findNow (.struct fs) (QH (a x)) (e::b) 0=none:=by
    rfl
   have F:(Instr.findKey kt (QH (a x)) (e::b)).run P w=(Instr.findAsking kt (QH (a x)) (e::b) 0).run P w:=by
    simp_all[Instr.findKey,run_underlying]
   grind
def Qag{α β:Type}[DecidableEq α](l:List (α×β))(k:α):Option β:=(l.find? λp=>decide (p.1=k)).map (·.2)
def Yn{α β:Type}[DecidableEq α](l:List (α×β))(k:α)(v:β):List (α×β):=bif l.any λp=>decide (p.1=k)then l.map λp=>bif decide (p.1=k)then(p.1,v)else p else l++[(k,v)]
def QN{α β:Type}[DecidableEq α](l:List (α×β))(k:α)(z:β):β:=(Qag l k).getD z
def Qb8{α β:Type}[DecidableEq α](l:List (α×β))(k:α):Bool:=l.any λp=>decide (p.1=k)
def QV{α β:Type}(ek:α->A)(ev:β->A)(l:List (α×β)):List (A×A):=l.map λp=>(ek p.1,ev p.2)
section
variable {α β:Type} [DecidableEq α] {ek:α->A} {ev:β->A} {ro:Nat->Prop} {σ:Sig} {w:World} (K:Qab P kt ek)
include K
theorem Qhh:∀{l:List (α×β)} {es:List MapEntry},ER ro σ w (QV ek ev l) es->es.map (·.key)=l.map λp=>QH (ek p.1)
 |[],es,h=>by cases(show es=[]from h);rfl
 |p::l,es,h=>by
  obtain⟨e,l',rfl,h1,h2,h3⟩:=h;simp only[Vj];rw[VR.val (K.scl _) h1,Qhh (l:=l) h3]
theorem Qij{l:List (α×β)}{es:List MapEntry}(h:ER ro σ w (QV ek ev l) es):∀e∈es,∃y,e.key=QH (ek y):=by
 intro e a;have:e.key∈es.map (·.key):=VG a;rw[Qhh K h]at this
 grind
theorem ER.find:∀{l:List (α×β)} {es:List MapEntry},ER ro σ w (QV ek ev l) es->∀(x:α),(es.map (·.key)).Nodup->
  ((∀e:MapEntry,e∈es->e.key≠QH (ek x))->Qag l x=none/\Qb8 l x=false)/\
  (∀(j:Nat) (e:MapEntry),es[j]?=some e->e.key=QH (ek x)->Qb8 l x=true/\ ∃v,Qag l x=some v/\VR ro σ w (ev v) e.val)
 |[],es,h,x,_=>by
  cases(show es=[]from h);exact⟨λ_=>⟨rfl,rfl⟩,(by simp)⟩
 |p::l,es,h,x,hn=>by
  obtain⟨e0,l',rfl,h1,h2,h3⟩:=h;have hk:e0.key=QH (ek p.1):=VR.val (K.scl _) h1;simp only[Vj,List.nodup_cons]at hn;obtain⟨a1,a2⟩:=ER.find (l:=l) h3 x hn.2;by_cases hp:p.1=x
  .grind[Qb8,Qag]
  .have e1:Qag (p::l) x=Qag l x:=by simp[Qag,hp]
   have d:Qb8 (p::l) x=Qb8 l x:=by simp[Qb8,hp]
   rw[e1,d];constructor
   .grind
   .intro j e a b;cases j with
    |zero=>
     simp only[XE,Option.some.injEq]at a;subst a;exact absurd (K.inj _ _ (hk.symm.trans b)) hp
    |succ j=>grind
end
end
end Go.Sw
namespace Go.Sw
open Go.MapKept
section
variable {P:Program} {o:Oper} {env:Env} {H:Qd}
theorem Yw{T:Nat}(e:o.op=.makeMap T none:=by exact rfl):OpH P o env H (.map H.length) (H++[.map []]):=by
 intro d b σ N a w r;refine⟨.map (some w.heap.size),w.alloc (.map #[] 0),b,[some w.heap.size],?_,⟨w.heap.size,?_,rfl⟩,r.sim.alloc ⟨#[],0,Q0 _ _,rfl,by simp,by simp,by simp⟩,Qi.alloc _ r.sim.roLt r.sim.frLt⟩
 .simp_all[execOp,Instr.makeMap]
 .rw[<- r.sim.len];simp
section
variable {T kt et:Nat} {α β:Type} [DecidableEq α] {ek:α->A} {ev:β->A} {x y:Operand} {i:Nat} {l:List (α×β)} {k:α} {z0:β} {z:Value}
theorem Qex(K:Qab P kt ek){ro:Nat->Prop}{w:World}(m:P.underlying T=some (.map kt et))(s:∀w,(zeroValue et).run P w=.ok z w)(i:ZR (ev z0) z){b a:Nat}{es:Array MapEntry}
  (n:w.heap[b]?=some (.map es a))(he:ER ro [] w (QV ek ev l) es.toList)(p:(es.toList.map (·.key)).Nodup):
  ∃v,(∀ck,(Instr.lookup T (.map (some b)) (QH (ek k)) ck).run P w=.ok (if ck then .tuple #[v,.bool (Qb8 l k)]else v) w)/\VR ro [] w (ev (QN l k z0)) v:=by
 obtain⟨r,t⟩:=ER.find K he k p;rcases K.find w k es.toList (Qij K he)with⟨g,f⟩|⟨j,e,g,f,q⟩
 .obtain⟨h,d⟩:=r f;refine⟨z,λck=>?_,?_⟩
  .simp only[Instr.lookup,Vm,run_underlying m,Result.andThen,MapKept.run_getObj_map n,Vn,K.check,g,s,d]
  .rw[QN,h];exact i _ _ _
 .obtain⟨h,v,d,u⟩:=t j e f q;refine⟨e.val,λck=>?_,?_⟩
  .simp only[Instr.lookup,Vm,run_underlying m,Result.andThen,MapKept.run_getObj_map n,Vn,K.check,g,h]
  .rw[QN,d];exact u
theorem YS{zv:β}(K:Qab P kt ek)(s:some (QN l k z0)=some zv)(j:P.underlying T=some (.map kt et))(n:∀w,(zeroValue et).run P w=.ok z w)(e:ZR (ev z0) z)
  (G:o.op=.lookup T x y false:=by exact rfl)(hx:opA env x=.map i:=by exact rfl)(hH:H[i]?=some (.map (QV ek ev l)):=by exact rfl)(hy:opA env y=ek k:=by exact rfl):OpV P o env H (ev zv):=by
 obtain rfl:=XZ s;intro O F σ N a w r;have f:=Qk r x;rw[hx]at f;obtain⟨b,m,M⟩:=f;have g:=Qk r y;rw[hy]at g;have L:=VR.val (K.scl _) g;obtain⟨E,d,h,t,B,J,u⟩:=r.sim.blk i _ _ m hH;obtain⟨v,Q,p⟩:=Qex (T:=T) (z0:=z0) (k:=k) K j n e h t u;refine⟨v,?_,p.mono ⟨λ_ q=>q,λ_ _=>rfl,λ_ _ q=>q,(by simp)⟩⟩
 simp_all[execOp]
theorem Qi8{zv:β}(K:Qab P kt ek)(s:some (QN l k z0)=some zv)(j:P.underlying T=some (.map kt et))(n:∀w,(zeroValue et).run P w=.ok z w)(e:ZR (ev z0) z)
  (G:o.op=.lookup T x y true:=by exact rfl)(hx:opA env x=.map i:=by exact rfl)(hH:H[i]?=some (.map (QV ek ev l)):=by exact rfl)(hy:opA env y=ek k:=by exact rfl):OpV P o env H (.tup [ev zv,.bool (Qb8 l k)]):=by
 obtain rfl:=XZ s;intro O F σ N a w r;have f:=Qk r x;rw[hx]at f;obtain⟨b,m,M⟩:=f;have g:=Qk r y;rw[hy]at g;have L:=VR.val (K.scl _) g;obtain⟨E,d,h,t,B,J,u⟩:=r.sim.blk i _ _ m hH;obtain⟨v,Q,p⟩:=Qex (T:=T) (z0:=z0) (k:=k) K j n e h t u;refine⟨.tuple #[v,.bool (Qb8 l k)],?_,[v,.bool (Qb8 l k)],rfl,v,_,rfl,p.mono ⟨λ_ q=>q,λ_ _=>rfl,λ_ _ q=>q,(by simp)⟩,_,_,rfl,rfl,rfl⟩
 simp_all[execOp]
theorem ER.append{ro:Nat->Prop}{σ:Sig}{w:World}:∀{l m:List (A×A)} {es fs:List MapEntry},ER ro σ w l es->ER ro σ w m fs->ER ro σ w (l++m) (es++fs)
 |[],m,es,fs,h,k=>by cases(show es=[]from h);exact k
 |p::l,m,es,fs,h,k=>by
  obtain⟨e,l',rfl,h1,h2,h3⟩:=h;exact⟨e,l'++fs,rfl,h1,h2,ER.append h3 k⟩
theorem ER.put(K:Qab P kt ek){ro:Nat->Prop}{w w':World}{v:β}{val:Value}(a:Ext ro [] w ro [] w')(b:VR ro [] w (ev v) val):∀{l:List (α×β)} {es:List MapEntry} {j:Nat} {e:MapEntry},ER ro [] w (QV ek ev l) es->
  (es.map (·.key)).Nodup->es[j]?=some e->e.key=QH (ek k)->
  ER ro [] w' (QV ek ev (l.map λp=>bif decide (p.1=k)then(p.1,v)else p)) (es.modify j λe=>{e with key:=QH (ek k),val:=val})
 |[],es,j,e,h,hn,he,hk=>by cases(show es=[]from h);simp at he
 |p::l,es,j,e,h,hn,he,hk=>by
  obtain⟨e0,l',rfl,h1,h2,h3⟩:=h;have hk0:e0.key=QH (ek p.1):=VR.val (K.scl _) h1;simp only[Vj,List.nodup_cons]at hn;cases j with
  |zero=>
   simp only[XE,Option.some.injEq]at he;subst he;have hp:p.1=k:=K.inj _ _ (hk0.symm.trans hk);simp only[List.modify_zero_cons];have e1:QV ek ev ((p::l).map λp=>bif decide (p.1=k)then(p.1,v)else p)=(ek p.1,ev v)::QV ek ev l:=by
    simp only[QV,Vj,hp,decide_true,Vp,List.map_map,List.cons.injEq,true_and];apply List.map_congr_left;intro q d;have:q.1≠k:=by
     intro e;refine hn.1 ?_;rw[Qhh K h3];exact Xe.2 ⟨q,d,by rw[e, <- hp,hk0]⟩
    simp[this]
   rw[e1];refine⟨_,l',rfl,?_,b.mono a,h3.mono a⟩;show VR ro [] w' (ek p.1) (QH (ek k));rw[<- hp];exact QcS (K.scl _)
  |succ j=>
   simp only[XF]at he;have hp:p.1≠k:=by
    intro q;refine hn.1 (Xe.2 ⟨e,VH he,?_⟩);rw[hk,hk0,q]
   simp only[List.modify_succ_cons];have e1:QV ek ev ((p::l).map λp=>bif decide (p.1=k)then(p.1,v)else p)=(ek p.1,ev p.2)::QV ek ev (l.map λp=>bif decide (p.1=k)then(p.1,v)else p):=by
    simp[QV,hp]
   rw[e1];exact⟨_,_,rfl,h1.mono a,h2.mono a,ER.put K a b h3 hn.2 he hk⟩
theorem YU{m:List (α×β)}(K:Qab P kt ek){v:β}{t:Operand}(hm:some (Yn l k v)=some m)(hd:Yr (ev v)=true)(hT:P.underlying T=some (.map kt et))
  (ho:o.op=.mapUpdate T x y t:=by exact rfl)(hx:opA env x=.map i:=by exact rfl)(hH:H[i]?=some (.map (QV ek ev l)):=by exact rfl)(hy:opA env y=ek k:=by exact rfl)(hv:opA env t=ev v:=by exact rfl):
  OpU P o env H (H.set i (.map (QV ek ev m))):=by
 obtain rfl:=XZ hm;intro fr X σ N a w r;have h1:=Qk r x;rw[hx]at h1;obtain⟨b,W,q2⟩:=h1;have h2:=Qk r y;rw[hy]at h2;have h3:=VR.val (K.scl _) h2;have h4:=Qk r t;rw[hv]at h4;have F:VR X [] w (ev v) (a.eval t):=VR.data hd h4;obtain⟨u,d,L,M,p3,p4,p5⟩:=r.sim.blk i _ _ W hH;obtain⟨f1,f2⟩:=ER.find K M k p5;have G:∀(obj:Obj) y,w.shape? b=some y->({w with heap:=w.heap.setIfInBounds b obj}:World).shape? b=some y:=by
  grind[World.shape?]
 rcases K.find w k u.toList (Qij K M)with⟨R,J⟩|⟨j,e,R,J,O⟩
 .obtain⟨u1,u2⟩:=f1 J;have Q:Yn l k v=l++[(k,v)]:=by
   unfold Yn;rw[show(l.any λp=>decide (p.1=k))=false from u2];rfl
  have g:=r.sim.set (x':=.map (QV ek ev (Yn l k v))) (obj:=.map (u.push {key:=QH (ek k),val:=a.eval t,born:=d}) (d+1)) W hH rfl (G _)
   (λe Y=>⟨_,_,Y,by
    rw[Q,QV,Xf,Array.toList_push];exact(M.mono ⟨e.sub,e.keep,e.shape,λ_ _ q=>q⟩).append ⟨_,_,rfl,QcS (K.scl _),F.mono ⟨e.sub,e.keep,e.shape,λ_ _ q=>q⟩,rfl⟩,by
    grind,by
    grind,by
    grind⟩)
  refine⟨_,X,[],?_,by grind,g.2⟩;simp only[execOp,ho,q2,h3,Vm,Instr.mapUpdate,run_underlying hT,Result.andThen,MapKept.run_getObj_map L,K.check,R,MapKept.run_setObj_map _ L];rfl
 .obtain⟨u1,u2⟩:=f2 j e J O;have Q:Yn l k v=l.map λp=>bif decide (p.1=k)then(p.1,v)else p:=by
   unfold Yn;rw[show(l.any λp=>decide (p.1=k))=true from u1];rfl
  have hj:u[j]?=some e:=by grind
  have n:(u.modify j λe=>{e with key:=QH (ek k),val:=a.eval t}).toList=u.toList.modify j λe=>{e with key:=QH (ek k),val:=a.eval t}:=by simp
  have s:∀{γ:Type} (f:MapEntry->γ),(∀E,u.toList[j]?=some E->f {E with key:=QH (ek k),val:=a.eval t}=f E)->(u.toList.modify j λe=>{e with key:=QH (ek k),val:=a.eval t}).map f=u.toList.map f:=by
   intro γ f hf;apply List.ext_getElem?
   grind
  have g:=r.sim.set (x':=.map (QV ek ev (Yn l k v))) (obj:=.map (u.modify j λe=>{e with key:=QH (ek k),val:=a.eval t}) d) W hH rfl (G _)
   (λV Y=>⟨_,_,Y,by
    rw[Q,n];exact ER.put K ⟨V.sub,V.keep,V.shape,λ_ _ q=>q⟩ F M p5 J O,by
    rw[n];intro E z;have:E.born∈(u.toList.modify j λe=>{e with key:=QH (ek k),val:=a.eval t}).map (·.born):=VG z;rw[s (·.born) (λ_ _=>rfl)]at this;obtain⟨e2,h,h'⟩:=Xe.1 this;rw[<- h'];exact p3 e2 h,by
    rw[n,s (·.born) (λ_ _=>rfl)];exact p4,by
    rw[n,s (·.key) (λE z=>by rw[J]at z;cases z;exact O.symm)];exact p5⟩)
  refine⟨_,X,[],?_,by simpa using g.1,g.2⟩;have B:=K.stays w k;simp only[execOp,ho,q2,h3,Vm,Instr.mapUpdate,run_underlying hT,Result.andThen,MapKept.run_getObj_map L,K.check,R,hj,Xj,Option.getD_some,O,B,MapKept.run_setObj_map _ L];rfl
theorem ER.length{ro:Nat->Prop}{σ:Sig}{w:World}:∀{l:List (A×A)} {es:List MapEntry},ER ro σ w l es->es.length=l.length
 |[],es,h=>by cases(show es=[]from h);rfl
 |p::l,es,h=>by
  obtain⟨e,l',rfl,_,_,h3⟩:=h;simp[ER.length h3]
theorem Qcu{c:Call}{n:Int}(m:P.underlying T=some (.map kt et))(q:(l.length:Int)=n)(t:o.op=.call c:=by exact rfl)(hc:c={callee:=.builtin .len,args:= #[x],argTypes:= #[T]}:=by exact rfl)
  (hx:opA env x=.map i:=by exact rfl)(hH:H[i]?=some (.map (QV ek ev l)):=by exact rfl):OpV P o env H (.int .i64 n):=by
 intro E F σ N a w r;have f:=Qk r x;rw[hx]at f;obtain⟨b,p,g⟩:=f;obtain⟨h,d,j,k,y,B,z⟩:=r.sim.blk i _ _ p hH;have u:=k.length;refine⟨.int .i64 n,?_,rfl⟩;have e:goInt h.size=.int .i64 n:=by
  have:h.size=l.length:=by rw[<- Array.length_toList,u];simp[QV]
  rw[this, <- q];rfl
 subst hc;have s:=g;generalize a.eval=ρ at*;rw[<- e];simp[execOp,t,g,resolve,invoke,Go.builtin,Builtin.len_,run_underlying m,MapKept.run_getObj_map j,go_sem]
end
end
end Go.Sw
namespace Go.Sw
open Go.ChangeMaps (setBlock)
section
variable {P:Program} {o:Oper} {env:Env} {H:Qd} {h0 N:Nat} {Q:QA}
def OpE(P:Program)(o:Oper)(env:Env)(H:Qd)(K:A->Qd->Prop):Prop:=
 ∀fr ro σ N a w,Rel fr ro σ H env N a w->∃x H' v w' ro' τ,K x H'/\(execOp a.eval o).run P w=.ok (.value v) w'/\VR ro' (σ++τ) w' x v/\
  Sim fr ro' (σ++τ) H' w'/\Qi fr ro w ro' w'
theorem QmA{all:Array Oper}{l:List Oper}{d:Nat}{K:A->Qd->Prop}(t:h0<=H.length)(hg:Qs all o env true)(y:o.dst=some d)(E:Nat.blt d N=true)
  (g:OpE P o env H K)(k:∀x H',K x H'->WO P h0 N all l (up env d x) H' Q):WO P h0 N all (o::l) env H Q:=by
 intro z fr B σ a w r hrd;obtain⟨x,H',v,i,b,τ,u,j,m,n,f⟩:=g fr B σ N a w r;refine Qac (YZ hg r) j ?_;simp only[y,Act.put];have h:d<N:=by simp_all
 have p:Rel fr b (σ++τ) H' (up env d x) N {a with tmps:=a.tmps.setIfInBounds d v} i:=
  ⟨n,VR.up (fr:=fr) (λs=>(r.env s).mono (f.ext σ τ)) (by rw[r.size];exact h) m,by simpa using r.size,r.defers.keep f⟩
 refine Yo (λe a w q=>q.step f (QC ?_)) _ _ _ (k x H' u z fr b (σ++τ) _ i p (hrd.to f λ_ q=>q));rw[r.sim.len];exact t
theorem Sim.shutMap{fr ro:Nat->Prop}{σ:Sig}{w:World}(s:Sim fr ro σ H w){i b:Nat}{es:List (A×A)}(hσ:σ[i]?=some (some b))(n:H[i]?=some (.map es)):
  Sim fr (λc=>ro c\/c=b) σ (H.set i (.fmap es)) w:=by
 have B:b<w.heap.size/\ ¬ro b/\ ¬fr b:=s.own i b _ hσ n rfl;have ext:Ext ro σ w (λc=>ro c\/c=b) σ w:=⟨λ_ q=>.inl q,λ_ _=>rfl,λ_ _ q=>q,λ_ _ q=>q⟩;have a:∀(j:Nat) (v:Blk),(H.set i (.fmap es))[j]?=some v->v.live=true->j≠i/\H[j]?=some v:=by
  intro j v h E;by_cases e:j=i
  .subst e;rw[Xb]at h;simp only[if_true]at h
   grind[Blk.live]
  grind
 have p:∀(j:Nat) (v:Blk),(H.set i (.fmap es))[j]?=some v->v.holds=true->H[j]?=some v:=by
  intro j v h E;by_cases e:j=i
  .subst e;rw[Xb]at h;simp only[if_true]at h;split at h
   .cases h;cases E
   .simp at h
  grind
 refine⟨by rw[X4];exact s.len,s.roOk.to (λ_ q=>.inl q) (λ_ _=>rfl) ?_,s.frLt,?_,?_,?_,?_,s.hidTo (· = ·) Q3 (XT _) (λj d x c N P M L=>L.elim id λq=>((s.hid j d x c N P M).ne i b _ hσ n rfl q).elim) (by simp) (by grind)⟩
 .rintro c (q|rfl)
  .exact s.roLt c q
  omega
 .rintro c (q|rfl)
  .exact s.roFr c q
  grind
 .intro j c v g f m;obtain⟨e,f⟩:=a j v f m;obtain⟨r,u,t⟩:=s.own j c v g f m;refine⟨r,?_,t⟩;rintro(q|rfl)
  .exact u q
  .exact e (s.inj j i c v _ g hσ f n m rfl)
 .intro j z c v J g f m O F G;exact s.inj j z c v J g f (a j v m F).2 (a z J O G).2 F G
 .intro j y v g f;by_cases e:j=i
  .subst e;rw[hσ]at g;cases g;rw[Xb]at f;simp only[if_true]at f;split at f
   .cases f;obtain⟨l,k,r,u,t⟩:=s.blk j _ _ hσ n;exact⟨.inr rfl,l,k,r,u.mono ext.nil,t⟩
   .simp at f
  .rw[XP (λq=>e q.symm)]at f;exact(s.blk j y v g f).keep ext (λ_ _ _=>rfl) (λ_ _ _ _=>rfl)
section
variable {T kt et i:Nat} {x:Operand} {es:List (A×A)}
theorem OpH.range(B:P.underlying T=some (.map kt et))(F:o.op=.range T x:=by exact rfl)(hx:opA env x=.map i:=by exact rfl)(hH:H[i]?=some (.map es):=by exact rfl):
  OpH P o env H (.ptr H.length 0) (H.set i (.fmap es)++[.iter none es]):=by
 intro s f σ N a w r;have p:=Qk r x;rw[hx]at p;obtain⟨b,m,z⟩:=p;obtain⟨l,d,n,t,u,y,G⟩:=r.sim.blk i _ _ m hH;have E:=(r.sim.own i b _ m hH rfl).1;have k:=r.sim.shutMap m hH;have j:Qi s f w (λc=>f c\/c=b) w:=YB (λ_ q=>.inl q);have g:Qi s (λc=>f c\/c=b) w (λc=>f c\/c=b) (w.alloc (.mapIter (some b) d #[] d)):=Qi.alloc _ k.roLt k.frLt;have ext0:Ext f [] w (λc=>f c\/c=b) [] (w.alloc (.mapIter (some b) d #[] d)):=(j.trans g).ext0 [];refine⟨.pointer (some ⟨w.heap.size,0,none⟩),w.alloc (.mapIter (some b) d #[] d),_,[some w.heap.size],?_,⟨w.heap.size,?_,rfl⟩,
  k.alloc (.inr ⟨b,l,d, #[],l.toList,Q0 _ _,.inr rfl,by rw[Ys _ _ _ E];exact n,u,y,?_,t.mono ext0,λ_ h=>by cases h⟩),j.trans g⟩
 .generalize a.eval=ρ at*;simp only[execOp,F,z,Instr.range,Vm,run_underlying B,Result.andThen,MapKept.run_getObj_map n];rfl
 .rw[<- r.sim.len];simp
 .have:l.toList.filter (λe=> !(#[]:Array Nat).contains e.born)=l.toList:=by simp
  rw[this]
theorem ER.mem{ro:Nat->Prop}{σ:Sig}{w:World}:∀{es:List (A×A)} {l:List MapEntry},ER ro σ w es l->∀e∈l,∃x es' l',(x::es').Perm es/\(e::l').Perm l/\VR ro σ w x.1 e.key/\VR ro σ w x.2 e.val/\ER ro σ w es' l'
 |[],l,h,e,he=>by cases(show l=[]from h);cases he
 |y::es,l,h,e,he=>by
  obtain⟨e0,l',rfl,h1,h2,h3⟩:=h;rcases X6.1 he with rfl|he
  .exact⟨y,es,l',.refl _,.refl _,h1,h2,h3⟩
  .obtain⟨x,es',l'',p1,p2,v1,v2,h4⟩:=ER.mem h3 e he;exact⟨x,y::es',e0::l'',(List.Perm.swap _ _ _).trans (p1.cons _),(List.Perm.swap _ _ _).trans (p2.cons _),v1,v2,⟨e0,l'',rfl,h1,h2,h4⟩⟩
theorem Qh8:∀{l:List MapEntry},(l.map (·.born)).Nodup->∀a∈l,∀b∈l,a.born=b.born->a=b
 |[],_,a,ha,_,_,_=>by cases ha
 |c::l,hn,a,ha,b,hb,hab=>by
  simp only[Vj,List.nodup_cons]at hn;rcases X6.1 ha with ea|ha'<;>rcases X6.1 hb with eb|hb'
  .rw[ea,eb]
  .grind
  .grind
  .exact Qh8 hn.2 a ha' b hb' hab
def NextK(H:Qd)(i:Nat)(cur:Option (A×A))(es:List (A×A))(v:A)(H':Qd):Prop:=
 (es=[]/\v=.tup [.bool false]/\H'=H)\/ ∃e es',(e::es').Perm es/\v=.tup [.bool true,e.1,e.2]/\H'=H.set i (.iter (some e) es')
theorem OpE.next{L:Option (A×A)}(ho:o.op=.next x false:=by exact rfl)(hx:opA env x=.ptr i 0:=by exact rfl)(hH:H[i]?=some (.iter L es):=by exact rfl):
  OpE P o env H (NextK H i L es):=by
 intro fr k σ N a w r;have h1:=Qk r x;rw[hx]at h1;obtain⟨b,q1,q2⟩:=h1;have g:∀(v:Value) (w1:World),w1.heap=w.heap->w1.os=w.os->w1.tape=w.tape->w1.output=w.output->w.drawn<=w1.drawn->Sim fr k (σ++[]) H w1/\Qi fr k w k w1:=by
  intro v w1 T X e3 e4 e5;exact⟨by simpa using r.sim.heap T,Qi.heap T X e3 e4 e5⟩
 rcases r.sim.blk i _ _ q1 hH with⟨rfl,rfl,p⟩|⟨m,l,d,f,left,p1,p2,p3,p4,p5,p6,p7,p8⟩
 .refine⟨_,_,.tuple #[.bool false],w,k,[],.inl ⟨rfl,rfl,rfl⟩,?_,⟨_,rfl,_,_,rfl,rfl,rfl⟩,g (.bool false) w rfl rfl rfl rfl (XT _)⟩;generalize a.eval=ρ at*;simp only[execOp,ho,q2,Instr.next,Vm,getObj,Sem.run,p,Result.andThen];rfl
 .have V:(leftOf l f).toList=l.toList.filter λe=> !f.contains e.born:=by simp[leftOf]
  have s:left.Perm (leftOf l f).toList:=by grind
  rcases run_next_at (P:=P) w o.type b m d d f l d p1 p3 p4 (XT _)with⟨g1,g2⟩|⟨e,g1,w1,g2,g3⟩
  .have ac:left=[]:=by
    have:left.length=0:=by rw[s.length_eq];omega
    grind
   subst ac;have aa:es=[]:=by
    have:=p7.length
    grind
   refine⟨_,_,.tuple #[.bool false],w,k,[],.inl ⟨aa,rfl,rfl⟩,?_,⟨_,rfl,_,_,rfl,rfl,rfl⟩,g (.bool false) w rfl rfl rfl rfl (XT _)⟩
   simp_all[execOp]
  .have he:e∈left:=s.mem_iff.2 g1;have F:e∈l.toList:=by grind
   obtain⟨y,J,Q,k1,k2,v1,v2,k3⟩:=p7.mem e he;have n:w1.heap=w.heap/\w1.os=w.os/\w1.tape=w.tape/\w1.output=w.output/\w.drawn<=w1.drawn:=by
    rcases g2 with rfl|rfl
    .simp
    .exact⟨rfl,rfl,rfl,rfl,Nat.le_succ _⟩
   obtain⟨s1,B⟩:=g (.bool false) w1 n.1 n.2.1 n.2.2.1 n.2.2.2.1 n.2.2.2.2;rw[Vg]at s1;have ad:b≠m:=by
    grind
   have u:=s1.set (x':=.iter (some y) J) (obj:=.mapIter (some m) d (f.push e.born) d) q1 hH rfl
    (λz M=>by
     grind[World.shape?])
    (λt ab=>.inr ⟨m,l,d,f.push e.born,Q,ab,t.sub _ p2,by
      grind,p4,p5,by
      have W:(l.toList.filter λe=> !f.contains e.born).Nodup:=by
       have:l.toList.Nodup:=List.Pairwise.of_map _ (λa b h q=>h (congrArg _ q)) p5;exact this.filter _
      have hp:(e::Q).Perm (l.toList.filter λe=> !f.contains e.born):=k2.trans p6;have G:(e::Q).Nodup:=hp.nodup_iff.2 W;have T:(l.toList.filter λE=> !(f.push e.born).contains E.born)=(l.toList.filter λe=> !f.contains e.born).filter λE=> !decide (E.born=e.born):=by
       rw[List.filter_filter];apply List.filter_congr;intro z _;simp[Array.contains_push,Bool.and_comm]
      rw[T];have h2:=hp.filter (λE=> !decide (E.born=e.born));have X:(e::Q).filter (λE=> !decide (E.born=e.born))=Q:=by
       rw[List.filter_cons_of_neg (by simp),List.filter_eq_self];intro z M;have Y:z∈l.toList:=(Xd.1 (hp.mem_iff.1 (X5 _ M))).1;simp only[Bool.not_eq_true',decide_eq_false_iff_not];intro hb;have:z=e:=by
        exact Qh8 p5 z Y e F hb
       subst this;exact(List.nodup_cons.1 G).1 M
      rw[X]at h2;exact h2,by
      have R:Ext k [] w k [] w1:=B.ext0 [];exact(k3.mono R).mono ⟨t.sub,t.keep,t.shape,λ_ _ q=>q⟩,by
      intro z M;cases M;have R:Ext k [] w k [] w1:=B.ext0 [];exact⟨e,F,by simp,(v1.mono R).mono ⟨t.sub,t.keep,t.shape,λ_ _ q=>q⟩,(v2.mono R).mono ⟨t.sub,t.keep,t.shape,λ_ _ q=>q⟩⟩⟩)
   have O:=B.trans u.2;have xt:Ext k [] w k [] {w1 with heap:=w1.heap.setIfInBounds b (.mapIter (some m) d (f.push e.born) d)}:=O.ext0 [];refine⟨_,_,.tuple #[.bool true,e.key,e.val],_,k,[],.inr ⟨y,J,k1,rfl,rfl⟩,?_,
    ⟨[.bool true,e.key,e.val],rfl,_,_,rfl,rfl,_,_,rfl,(v1.mono xt).mono ⟨λ_ q=>q,λ_ _=>rfl,λ_ _ q=>q,λj c q=>by simp at q⟩,_,_,rfl,(v2.mono xt).mono ⟨λ_ q=>q,λ_ _=>rfl,λ_ _ q=>q,λj c q=>by simp at q⟩,rfl⟩,by simpa using u.1,O⟩
   generalize a.eval=ρ at*;simp only[execOp,ho,q2,Vm,g3,Result.andThen,setBlock];rfl
theorem OpV.entry{e:A×A}(E:o.op=.entry x:=by exact rfl)(hx:opA env x=.ptr i 0:=by exact rfl)(hH:H[i]?=some (.iter (some e) es):=by exact rfl):OpV P o env H (.tup [e.1,e.2]):=by
 intro G M σ N a w r;have g:=Qk r x;rw[hx]at g;obtain⟨b,t,Q⟩:=g;rcases r.sim.blk i _ _ t hH with⟨_,h,_⟩|⟨m,l,d,j,left,z,F,B,O,y,J,R,s⟩
 .cases h
 .obtain⟨f,u,L,k,p⟩:=s e rfl;refine⟨.tuple #[f.key,f.val],?_,[f.key,f.val],rfl,_,_,rfl,k.mono ⟨λ_ q=>q,λ_ _=>rfl,λ_ _ q=>q,(by simp)⟩,_,_,rfl,p.mono ⟨λ_ q=>q,λ_ _=>rfl,λ_ _ q=>q,(by simp)⟩,rfl⟩;have n:l.find? (·.born==f.born)=some f:=by rw[<- Array.find?_toList];exact find_born f l.toList y u
  simp_all[execOp,Instr.entry,getObj,Sem.run]
end
end
end Go.Sw
namespace Go.Sw
def Qd4{S E B:Type}(stepE:S->E->Option (Ctl S B))(stepN:S->Option B):S->List E->Option B
 |s,[]=>stepN s
 |s,e::p=>match stepE s e with
  |some (.cont s')=>Qd4 stepE stepN s' p
  |some (.done b)=>some b
  |none=>none
def Qbp{E:Type}(x:E):List E->List (List E)
 |[]=>[[x]]
 |y::l=>(x::y::l)::(Qbp x l).map (y:: ·)
def QbL{E:Type}:List E->List (List E)
 |[]=>[[]]
 |x::l=>(QbL l).flatMap (Qbp x)
theorem QeS{E:Type}(x:E):∀(a b:List E),a++x::b∈Qbp x (a++b)
 |[],[]=>by simp[Qbp]
 |[],y::b=>by simp[Qbp]
 |y::a,b=>by
  simp only[VK,Qbp,X6,Xe];exact .inr ⟨a++x::b,QeS x a b,rfl⟩
theorem Qdc{E:Type}:∀(l p:List E),p.Perm l->p∈QbL l
 |[],p,h=>by rw[List.perm_nil.1 h];simp[QbL]
 |x::l,p,h=>by
  have hx:x∈p:=h.mem_iff.2 (by simp);obtain⟨a,b,rfl⟩:=List.append_of_mem hx;have h2:(a++b).Perm l:=(List.perm_cons x).1 ((List.perm_middle.symm).trans h);simp only[QbL,List.mem_flatMap];exact⟨a++b,Qdc l _ h2,QeS x a b⟩
def anyP{E R:Type}[DecidableEq R](k:List E->Option R)(l:List E):Option R:=bif (QbL l).all (λp=>decide (k p=k l))then k l else none
theorem QnI{E R:Type}[DecidableEq R]{k:List E->Option R}{l:List E}{r:R}(h:anyP k l=some r)(p:List E)(a:p.Perm l):k p=some r:=by
 unfold anyP at h;cases q:(QbL l).all (λp=>decide (k p=k l))with
 |true=>
  simp_all[Qdc]
 |false=>grind
theorem Qcn{E:Type}:∀(l p:List E),p∈QbL l->p.Perm l
 |[],p,h=>by simp[QbL]at h;rw[h]
 |x::l,p,h=>by
  simp only[QbL,List.mem_flatMap]at h;obtain⟨q,hq,hp⟩:=h;have ins:∀(q p:List E),p∈Qbp x q->p.Perm (x::q):=by
   intro q
   induction q with
   |nil=>intro p hp;simp[Qbp]at hp;rw[hp]
   |cons y q a=>
    intro p hp;simp only[Qbp,X6,Xe]at hp;rcases hp with rfl|⟨z,b,rfl⟩
    .exact .refl _
    .exact((a z b).cons y).trans (List.Perm.swap _ _ _)
  exact(ins q p hp).trans ((Qcn l q hq).cons x)
theorem QnJ{E R:Type}[DecidableEq R]{k:List E->Option R}{l:List E}{r:R}(h:∀p,p.Perm l->k p=some r):anyP k l=some r:=by
 unfold anyP;have:(QbL l).all (λp=>decide (k p=k l))=true:=Xs.2 λp a=>by
  simp_all[Qcn]
 rw[this];simp_all
def Qil{S E B:Type}(stepE:S->E->Option (Ctl S B))(stepN:S->Option B)(G:B->Prop)(s:S)(l:List E):Prop:=∀p,p.Perm l->∃b,Qd4 stepE stepN s p=some b/\G b
section
variable {P:Program} {o:Oper} {env:Env} {H:Qd} {h0 N:Nat} {Q:QA} {c:Code}
def Qb3(I:Env->Qd->Prop)(Q:QA):QA
 |.normal,env,H=>I env H
 |.exit id,env,H=>Q (.exit id) env H
 |.ret,env,H=>Q .ret env H
theorem QmH{I:Nat->Env->Qd->Prop}(body:∀n env H,I n env H->TC P h0 N c env H (Qb3 (λenv H=>∃n',n'<n/\I n' env H) Q)){n:Nat}(z:I n env H):TC P h0 N (.loop c) env H Q:=by
 intro G l y σ a w r hrd b k cs hro hb hr;have F:∀m n env H fr1 ro1 σ1 a1 w1,n<m->I n env H->Rel fr1 ro1 σ1 H env N a1 w1->Qi l y w ro1 w1->σ1.take h0=σ.take h0->Grow l w a.defers fr1 a1.defers->
   ∃e g h,QaO h0 l y σ w N a.defers Q e g h/\ArrivesIn (Machine.fenced P (WF G)) P (lone (b.atR a1 (.code c::.inLoop c::k)) cs w1) b k cs e g h:=by
  intro m
  induction m with
  |zero=>omega
  |succ m X=>
   intro n env H fr1 ro1 σ1 a1 w1 hn z r1 ev1 t1 g1;obtain⟨e,g,h,B,d⟩:=body n env H z G fr1 ro1 σ1 a1 w1 r1 (hrd.to ev1 g1.sub) b (.inLoop c::k) cs hro hb hr;obtain⟨x,f,H',j,σ',t,u,s,J,T,M,W⟩:=B;have p:=ev1.trans (T.frMono g1.sub);have L:=g1.trans ev1.size W;have O:∀x,Q x f H'->ExR e x->QaO h0 l y σ w N a.defers Q e g h:=λx q Y=>⟨x,f,H',j,σ',t,Y,q,J,p,M.trans t1,L⟩;cases e with
   |normal=>
    obtain rfl:x=.normal:=u;obtain⟨n',aa,s⟩:=s;obtain⟨V,R,w2,E,i⟩:=X n' f H' t j σ' g h (by omega) s J p (M.trans t1) L;exact⟨V,R,w2,E,.of_steps (StepsIn.trans d (.one (fenced_calm hb hr rfl) stepR_inLoop)) i⟩
   |exit id=>
    obtain rfl:x=.exit id:=u;exact⟨_,g,h,O _ s rfl,.pass (x:=.inLoop c) rfl (by simp) d⟩
   |ret=>
    obtain rfl:x=.ret:=u;exact⟨_,g,h,O _ s rfl,.pass (x:=.inLoop c) rfl (by simp) d⟩
   |_=>exact u.elim
 obtain⟨e,g,h,B,d⟩:=F (n+1) n env H l y σ a w (Xn _) z r (Qi.refl _ _ _) rfl (Grow.refl _ _ _);exact⟨e,g,h,B,.of_steps (.one (fenced_calm hb hr rfl) stepR_loop) d⟩
section
variable {S E B:Type} {stepE:S->E->Option (Ctl S B)} {stepN:S->Option B} {G:B->Prop} (Es:S->Env) (Hp:S->List (A×A)->Qd) {enc:E->A×A}
def AtP(stepE:S->E->Option (Ctl S B))(stepN:S->Option B)(G:B->Prop)(enc:E->A×A)(h0 n:Nat)(env:Env)(H:Qd):Prop:=
 ∃s l,l.length=n/\Qil stepE stepN G s l/\Le h0 env H (Es s) (Hp s (l.map enc))
theorem QmG{s0:S}{l0:List E}(h:Qil stepE stepN G s0 l0)(hI:Le h0 env H (Es s0) (Hp s0 (l0.map enc)))
  (body:∀s l,Qil stepE stepN G s l->TC P h0 N c (Es s) (Hp s (l.map enc)) (Qb3 (λenv H=>∃n',n'<l.length/\AtP Es Hp stepE stepN G enc h0 n' env H) Q)):TC P h0 N (.loop c) env H Q:=
 QmH (I:=AtP Es Hp stepE stepN G enc h0) (λn env H ⟨s,l,hn,ha,hle⟩=>by subst hn;exact Qg hle (body s l ha)) ⟨s0,l0,rfl,h,hI⟩
theorem Qkd{α β:Type}{f:α->β}:∀{m g:List β},m.Perm g->∀{l:List α},g=l.map f->∃l':List α,l'.Perm l/\l'.map f=m:=by
 intro m g h
 induction h with
 |nil=>simp
 |cons x _ ih=>
  intro l d;cases l with
  |nil=>cases d
  |cons a l=>
   simp only[Vj,List.cons.injEq]at d;obtain⟨l',e,i⟩:=ih d.2;exact⟨a::l',e.cons _,by grind⟩
 |swap x y m=>
  intro l d
  match l,d with
  |a::b::l,d=>
   simp only[Vj,List.cons.injEq]at d;exact⟨b::a::l,List.Perm.swap _ _ _,by grind⟩
 |trans _ _ ih1 ih2=>
  intro l d;obtain⟨p,e,i⟩:=ih2 d;obtain⟨j,k,n⟩:=ih1 i.symm;exact⟨j,k.trans e,n⟩
theorem QmC{all:Array Oper}{L:List Oper}{d i:Nat}{x:Operand}{r:Option (A×A)}{s:S}{l:List E}(u:Qil stepE stepN G s l)
  (z:∀b,stepN s=some b->G b->WO P h0 N all L (up env d (.tup [.bool false])) H Q)
  (y:∀e l' D,stepE s e=some D->(∀b,D=.done b->G b)->(l'.length<l.length/\ ∀s',D=.cont s'->Qil stepE stepN G s' l')->
   WO P h0 N all L (up env d (.tup [.bool true,(enc e).1,(enc e).2])) (H.set i (.iter (some (enc e)) (l'.map enc))) Q)
  (J:o.op=.next x false:=by exact rfl)(hx:opA env x=.ptr i 0:=by exact rfl)(hH:H[i]?=some (.iter r (l.map enc)):=by exact rfl)
  (hg:Qs all o env true:=by exact rfl)(hd:o.dst=some d:=by exact rfl)(hN:Nat.blt d N=true:=by exact rfl)(hh:Nat.ble h0 H.length=true:=by exact rfl):WO P h0 N all (o::L) env H Q:=by
 refine QmA (XR hh) hg hd hN (OpE.next J hx hH) ?_;rintro v H' (⟨n,rfl,rfl⟩|⟨e,B,n,rfl,rfl⟩)
 .have:l=[]:=List.map_eq_nil_iff.1 n;subst this;obtain⟨b,k,h⟩:=u [] (.refl _);exact z b k h
 .obtain⟨F,k,h⟩:=Qkd n rfl;cases F with
  |nil=>cases h
  |cons a l'=>
   simp only[Vj,List.cons.injEq]at h;obtain⟨rfl,rfl⟩:=h;have g:l'.length<l.length:=by rw[<- k.length_eq];simp
   have f:∀p,p.Perm l'->∃b,Qd4 stepE stepN s (a::p)=some b/\G b:=λp q=>u _ ((q.cons a).trans k);cases m:stepE s a with
   |none=>
    obtain⟨b,j,_⟩:=f l' (.refl _);simp[Qd4,m]at j
   |some D=>
    refine y a l' D m ?_ ⟨g,?_⟩
    .rintro b rfl;obtain⟨t,j,w⟩:=f l' (.refl _)
     grind[Qd4]
    .rintro s' rfl p q;obtain⟨t,j,w⟩:=f p q;simp[Qd4,m]at j;exact⟨t,j,w⟩
theorem QoQ{s:S}{l l':List E}{D:Ctl S B}(e:some (Ctl.cont s)=some D)(hc:l'.length<l.length/\ ∀s',D=.cont s'->Qil stepE stepN G s' l')(h:Le h0 env H (Es s) (Hp s (l'.map enc))):
  Qb3 (λenv H=>∃n',n'<l.length/\AtP Es Hp stepE stepN G enc h0 n' env H) Q .normal env H:=
 ⟨_,hc.1,s,l',rfl,(by grind),h⟩
theorem QoP{I:Env->Qd->Prop}{id:Nat}(h:Q (.exit id) env H):Qb3 I Q (.exit id) env H:=h
end
def Qoe{B:Type}(h0:Nat)(G:B->Prop)(Eb:B->Env)(Hb:B->Qd)(Q:QA):QA
 |.normal,env,H=>∃b,G b/\Le h0 env H (Eb b) (Hb b)
 |.exit id,env,H=>Q (.exit id) env H
 |.ret,env,H=>Q .ret env H
theorem QnM{S E B:Type}{stepE:S->E->Option (Ctl S B)}{stepN:S->Option B}{G:B->Prop}{s0:S}{l0:List E}(hl:Qil stepE stepN G s0 l0)(Eb:B->Env)(Hb:B->Qd)
  (h:TC P h0 N c env H (Qoe h0 G Eb Hb Q))(k:∀b env H,G b->Le h0 env H (Eb b) (Hb b)->Q .normal env H):TC P h0 N c env H Q:=
 h.mono λx env' H' q=>by
  cases x with
  |normal=>obtain⟨b,e,q⟩:=q;grind
  |exit id=>exact q
  |ret=>exact q
theorem cutGN{B:Type}{G:B->Prop}{Eb:B->Env}{Hb:B->Qd}{b:B}(hG:G b)(h:Le h0 env H (Eb b) (Hb b)):Qoe h0 G Eb Hb Q .normal env H:=⟨b,hG,h⟩
theorem QkX{i:Nat}{f:Option (A×A)}{es:List (A×A)}{H':Qd}(n:H[i]?=some (.iter f es))(e:H.set i (.iter none es)=H'):Le h0 env H env H':=by
 subst e;intro z s σ N a w r;refine⟨s,σ,⟨r.sim.weaken (x':=.iter none es) n rfl ?_,r.env,r.size,r.defers⟩,λ_ q=>q,rfl⟩;intro y h;cases y with
 |none=>exact h
 |some b=>
  rcases h with⟨g,p,j⟩|⟨m,l,d,k,left,g,p,j,u,x,B,E,t⟩
  .exact .inl ⟨g,rfl,j⟩
  .exact .inr (by grind)
end
end Go.Sw
namespace Go.Sw
def mk{α:Type}(n:Int)(z:α):Option (List α):=bif decide (0<=n)&&decide (n<=4294967296)then some (List.replicate n.toNat z)else none
theorem mk_ok{α:Type}{n:Int}{z:α}{l:List α}(h:mk n z=some l):0<=n/\n<=4294967296/\List.replicate n.toNat z=l:=by
 unfold mk at h;cases q:(decide (0<=n)&&decide (n<=4294967296))with
 |true=>rw[q]at h;simp at q;exact⟨q.1,q.2,XZ h⟩
 |false=>rw[q]at h;cases h
theorem QfS{α:Type}[Inhabited α](zl:List α)(k:Nat)(hk:zl.length=k)(h0:0<k):∀n,(List.range (n*k)).map (λi=>zl.toArray[i%zl.toArray.size]!)=(List.replicate n zl).flatten
 |0=>by simp
 |n+1=>by
  rw[Xl,List.range_add,Xf,QfS zl k hk h0 n,List.replicate_succ',Xr];congr 1;simp only[Vl,List.flatten_nil,Vg,List.map_map];apply List.ext_getElem
  .simp[hk]
  .intro i h1 h2;simp only[X2,List.length_range]at h1;simp only[List.getElem_map,List.getElem_range,Function.comp,List.size_toArray,hk];rw[Nat.mul_comm,Nat.mul_add_mod,Nat.mod_eq_of_lt h1];simp[hk,h1]
section
variable {P:Program} {o:Oper} {env:Env} {H:Qd} {ro:Nat->Prop} {σ:Sig} {w:World}
theorem LR.replicate{az:List A}{l:List Value}(h:LR ro σ w az l):∀n,LR ro σ w (List.replicate n az).flatten (List.replicate n l).flatten
 |0=>rfl
 |n+1=>by
  rw[List.replicate_succ,List.replicate_succ];exact h.append (LR.replicate h n)
theorem Qjw{α:Type}{e:α->List A}{T et k:Nat}{x y:Operand}{M X:IntKind}{n:Int}{zv:α}{l:List α}{z:Value}{a:A}(V:mk n zv=some l)(E:Q9 P T et k)(hz:∀w,(zeroValue et).run P w=.ok z w)(ae:ZR a z)
  (hk:Yj a=true)(hc:Q8 a=e zv)(hp:(Q8 a).all Yq=true)(p:Nat.beq (e zv).length k=true)
  (ho:o.op=.makeSlice T x y:=by exact rfl)(hx:opA env x=.int M n:=by exact rfl)(hy:opA env y=.int X n:=by exact rfl)
  {fr ro:Nat->Prop}{σ:Sig}{N:Nat}{act:Act}{w:World}(r:Rel fr ro σ H env N act w):∃lv:List Value,(execOp act.eval o).run P w=.ok (.value (.slice (some ⟨w.heap.size,0,none⟩) l.length l.length)) (w.alloc (.cells lv.toArray et))/\
   LR ro [] w (l.map e).flatten lv/\(∀v∈lv,Qo v)/\allK k (l.map e)/\lv.length=l.length*k/\l.length<=4294967296:=by
 obtain⟨n0,n1,hl⟩:=mk_ok V;have L:=Qk r x;rw[hx]at L;have h2:=Qk r y;rw[hy]at h2;have Y:act.eval x=.int M n:=L;have ac:act.eval y=.int X n:=h2;obtain⟨i,hi,ag⟩:=E.bytes;obtain⟨d,c1,Q⟩:=(ae ro [] w).cells hk;have s:d.length=k:=by
  rw[Q.length,hc];exact XQ p
 have af:(if n.toNat*k=0 then(#[]:Array Value)else d.toArray)=d.toArray\/n.toNat*k=0:=by
  by_cases q:n.toNat*k=0
  .exact .inr q
  .exact .inl (Vs q)
 have b:∀(ZZ:Array Value),(ZZ=d.toArray\/n.toNat*k=0)->(Array.range (n.toNat*k)).map (λj=>ZZ[j%ZZ.size]!)=((List.replicate n.toNat d).flatten).toArray:=by
  intro ZZ hZ;by_cases q:n.toNat*k=0
  .rw[q];have:(List.replicate n.toNat d).flatten=[]:=by
    apply VJ.1;simp[s,q]
   rw[this];simp
  .obtain rfl:ZZ=d.toArray:=hZ.resolve_right q;have ab:0<k:=by
    rcases Nat.eq_zero_or_pos k with h|h
    .rw[h,Xx]at q;exact absurd rfl q
    .exact h
   rw[<- QfS d k s ab n.toNat];simp[XI, <- List.toArray_range]
 have F:=Q.replicate n.toNat;have aa:allK k (List.replicate n.toNat (e zv)):=by
  have:∀m,allK k (List.replicate m (e zv)):=by
   intro m
   induction m with
   |zero=>trivial
   |succ m ih=>exact⟨XQ p,ih⟩
  exact this _
 have f:∀v∈(List.replicate n.toNat d).flatten,Qo v:=by
  intro v G;obtain⟨m,V,G⟩:=List.mem_flatten.1 G;rw[List.eq_of_mem_replicate V]at G;exact Q.plain hp v G
 rw[hc]at F;have g:l.map e=List.replicate n.toNat (e zv):=by rw[<- hl,List.map_replicate]
 have B:l.length=n.toNat:=by rw[<- hl];simp
 refine⟨(List.replicate n.toNat d).flatten,?_,by rw[g];exact F,f,by rw[g];exact aa,by rw[B];simp[s],by omega⟩;rw[B]
 .have hw:IntKind.i64.wrap n=n:=by
   unfold IntKind.wrap;simp[IntKind.bits,IntKind.signed];omega
  have ad:∀(x:Nat) (W:World),(askRoom x).run P W=.ok () W:=by
   intro x W;unfold askRoom;split<;>rfl
  have t:∀(c:Array Value) (W:World),(newRow et c).run P W=.ok ⟨W.heap.size,0,none⟩ (W.alloc (.cells c et)):=λc W=>rfl;have O:¬(n<0):=by omega
  have R:¬((i.bytes:Int)*n>2^48):=by
   have L:(i.bytes:Int)*n<=4096*4294967296:=Int.mul_le_mul (by omega) n1 n0 (by omega);omega
  have u:(Instr.makeSlice T (.int M n) (.int X n)).run P w=.ok (.slice (some ⟨w.heap.size,0,none⟩) n.toNat n.toNat) (w.alloc (.cells ((List.replicate n.toNat d).flatten).toArray et)):=by
   have ah:¬(n>n):=by omega
   have J:∀(k:IntKind) (m:Int) (W:World),(asInt (.int k m)).run P W=.ok m W:=λk m W=>rfl;unfold Instr.makeSlice;simp only[Vm,E.sl,E.size,hi,Result.andThen,J,Vn,hw,ad,XH];rw[Vs (by simp[O,R];omega)];by_cases q:n.toNat*k=0
   .simp only[q,if_true,Vn];have:=b #[] (.inr q);rw[q]at this;simp only[this,t]
   .simp only[q,if_false,hz,Vn,c1,b d.toArray (.inl rfl),t]
  generalize act.eval=ρ at*;simp only[execOp,ho,Y,ac,Vm,u,Result.andThen];rfl
theorem QjU{α:Type}{e:α->List A}{T et k:Nat}{x y:Operand}{g L:IntKind}{n:Int}{zv:α}{l:List α}{z:Value}{a:A}(B:mk n zv=some l)(E:Q9 P T et k)(p:∀w,(zeroValue et).run P w=.ok z w)(d:ZR a z)
  (s:Yj a=true)(q:Q8 a=e zv)(M:(Q8 a).all Yq=true)(b:Nat.beq (e zv).length k=true)
  (F:o.op=.makeSlice T x y:=by exact rfl)(hx:opA env x=.int g n:=by exact rfl)(hy:opA env y=.int L n:=by exact rfl):
  OpH P o env H (.osl H.length 0 l.length k) (H++[.row et k (l.map e)]):=by
 intro Q u σ N act w r;obtain⟨m,h,i,G,J,j,O⟩:=Qjw B E p d s q M b F hx hy r;have f:=r.sim.allocRow (t:=et) (rest:=[]) J i G;rw[Vg]at f;refine⟨_,_,u,[some w.heap.size],h,.inr ⟨w.heap.size,0,l.length,et,m.length,?_,rfl,λ_=>by simp,⟨XT _,by omega⟩,?_,by rw[j,Xv];exact XT _⟩,f,Qi.alloc _ r.sim.roLt r.sim.frLt⟩
 .rw[<- r.sim.len];simp
 .unfold World.shape?;rw[Q0];simp
end
end Go.Sw
namespace Go.Sw
open Go.Sort Go.Proofs Go.Shelf
section
variable {α:Type}
def ins(lt:α->α->Bool)(x:α):List α->List α
 |[]=>[x]
 |y::l=>bif lt y x then y::ins lt x l else x::y::l
def QaX(lt:α->α->Bool):List α->List α
 |[]=>[]
 |x::l=>ins lt x (QaX lt l)
theorem QeR(lt:α->α->Bool)(x:α):∀l,(ins lt x l).Perm (x::l)
 |[]=>.refl _
 |y::l=>by
  unfold ins;cases lt y x
  .exact .refl _
  .exact((QeR lt x l).cons y).trans (List.Perm.swap _ _ _)
theorem QM(lt:α->α->Bool):∀l,(QaX lt l).Perm l
 |[]=>.refl _
 |x::l=>(QeR lt x _).trans ((QM lt l).cons x)
structure Qfi (lt:α->α->Bool) (l:List α):Prop where
 irrefl:∀x∈l,lt x x=false
 trans:∀x∈l,∀y∈l,∀z∈l,lt x y=true->lt y z=true->lt x z=true
 ntrans:∀x∈l,∀y∈l,∀z∈l,lt x y=false->lt y z=false->lt x z=false
theorem Qfi.mono{lt:α->α->Bool}{l m:List α}(h:Qfi lt l)(hm:∀x∈m,x∈l):Qfi lt m:=
 ⟨λx hx=>h.irrefl x (hm x hx),λx hx y hy z hz=>h.trans x (hm x hx) y (hm y hy) z (hm z hz),λx hx y hy z hz=>h.ntrans x (hm x hx) y (hm y hy) z (hm z hz)⟩
theorem Qfi.asymm{lt:α->α->Bool}{l:List α}(h:Qfi lt l){x y:α}(a:x∈l)(d:y∈l)(b:lt x y=true):lt y x=false:=by
 cases q:lt y x
 .rfl
 .rw[<- h.irrefl x a,h.trans x a y d x a b q]
theorem QeQ{lt:α->α->Bool}{x:α}:∀{l:List α},Qfi lt (x::l)->l.Pairwise (λa b=>lt b a=false)->(ins lt x l).Pairwise (λa b=>lt b a=false)
 |[],_,_=>by simp[ins]
 |y::l,h,hp=>by
  obtain⟨h1,h2⟩:=Xc.1 hp;unfold ins;cases q:lt y x
  .refine Xc.2 ⟨λz hz=>?_,hp⟩;rcases X6.1 hz with rfl|hz
   .exact q
   .exact h.ntrans z (by simp[hz]) y (by simp) x (by simp) (h1 z hz) q
  .refine Xc.2 ⟨λz hz=>?_,QeQ (h.mono (by grind)) h2⟩;rcases X6.1 ((QeR lt x l).mem_iff.1 hz)with rfl|hz
   .exact h.asymm (by simp) (by simp) q
   grind
theorem YK{lt:α->α->Bool}:∀{l:List α},Qfi lt l->(QaX lt l).Pairwise (λa b=>lt b a=false)
 |[],_=>by simp[QaX]
 |x::l,h=>QeQ (h.mono (by
   intro z hz;rcases X6.1 hz with rfl|hz
   .simp
   grind[QM])) (YK (h.mono (by grind)))
theorem Qbl{lt:α->α->Bool}:∀{l m:List α},l.Perm m->(∀x∈l,∀y∈l,lt x y=false->lt y x=false->x=y)->l.Pairwise (λa b=>lt b a=false)->m.Pairwise (λa b=>lt b a=false)->l=m
 |[],m,h,_,_,_=>by simp_all
 |x::l,[],h,_,_,_=>by simp_all
 |x::l,y::m,h,ha,hl,hm=>by
  obtain⟨l1,l2⟩:=Xc.1 hl;obtain⟨m1,m2⟩:=Xc.1 hm;have hy:y∈x::l:=h.mem_iff.2 (by simp);have hx:x∈y::m:=h.mem_iff.1 (by simp);have hxy:x=y:=by
   grind
  subst hxy;rw[Qbl (by simp_all) (by grind) l2 m2]
def ltO(cf:α->α->Option Int)(x y:α):Bool:=match cf x y with
 |some c=>decide (c<0)
 |none=>false
def Qh5[DecidableEq α](cf:α->α->Option Int)(l:List α):Bool:=
 l.all λx=> !ltO cf x x&&l.all λy=>(cf x y).isSome&&(ltO cf x y||ltO cf y x||decide (x=y))&&l.all λz=>(!ltO cf x y|| !ltO cf y z||ltO cf x z)&&(ltO cf x y||ltO cf y z|| !ltO cf x z)
def QbG[DecidableEq α](cf:α->α->Option Int)(l:List α):Option (List α):=bif Nat.ble l.length Q7&&Qh5 cf l then some (QaX (ltO cf) l)else none
theorem Qet[DecidableEq α]{cf:α->α->Option Int}{l l':List α}(h:QbG cf l=some l'):
  l.length<=Q7/\(∀x∈l,∀y∈l,∃c,cf x y=some c)/\Qfi (ltO cf) l/\(∀x∈l,∀y∈l,ltO cf x y=false->ltO cf y x=false->x=y)/\QaX (ltO cf) l=l':=by
 unfold QbG at h;cases f:Nat.ble l.length Q7 with
 |false=>grind
 |true=>
 rw[f,VA]at h;cases q:Qh5 cf l with
 |false=>grind
 |true=>
  rw[q]at h;refine⟨(by simp_all),?_⟩;unfold Qh5 at q;simp only[Xs,XW,Bool.not_eq_true',Bool.or_eq_true,Vr]at q;refine⟨λx a y b=>Option.isSome_iff_exists.1 ((q x a).2 y b).1.1,⟨λx a=>(q x a).1,λx a y b z g e d=>?_,λx a y b z g e d=>?_⟩,λx a y b e d=>?_,XZ h⟩
  .grind
  .grind
  grind
theorem Qlf[DecidableEq α]{cf:α->α->Option Int}{l:List α}(a:l.length<=Q7)(c:α->α->Int)(f:∀x∈l,∀y∈l,cf x y=some (c x y))(hi:∀x∈l,¬c x x<0)
  (h:∀x∈l,∀y∈l,∀z∈l,c x y<0->c y z<0->c x z<0)(b:∀x∈l,∀y∈l,∀z∈l,¬c x y<0->¬c y z<0->¬c x z<0)(g:∀x∈l,∀y∈l,¬c x y<0->¬c y x<0->x=y):
  QbG cf l=some (QaX (ltO cf) l):=by
 have i:∀x∈l,∀y∈l,ltO cf x y=decide (c x y<0):=λx d y e=>by unfold ltO;grind
 have q:Qh5 cf l=true:=by
  unfold Qh5
  grind
 simp_all[QbG,XS]
theorem Qa7[DecidableEq α]{cf:α->α->Option Int}{l l':List α}(h:QbG cf l=some l'):l.length=l'.length:=by
 rw[<- (Qet h).2.2.2.2];exact(QM _ _).length_eq.symm
theorem Q2{l l':List α}{i:Int}{x:α}(h:Qa1 l i x=some l'):l.length=l'.length:=by
 grind[Qa1]
theorem Qv{d:Nat}{env:Env}{H:Qd}{s:Nat}{a a':A}(h:lk env s=a)(e:a=a'):Le d env H (up env s a') H:=by
 intro g f σ N act w r;refine⟨f,σ,⟨r.sim,λb=>?_,r.size,r.defers⟩,λ_ q=>q,rfl⟩;subst e;have:lk (up env s a) b=lk env b:=by
  simp only[lk];cases q:Nat.beq b s with
  |true=>simp_all
  |false=>rfl
 rw[this];exact r.env b
end
section
variable {fr ro:Nat->Prop} {σ:Sig} {H:Qd} {w w':World}
theorem QdR(hh:∀b,b<w.heap.size->w'.heap[b]?=w.heap[b]?)(hro:∀b,ro b->b<w.heap.size)(σ:Sig):Ext ro σ w ro σ w':=
 ⟨λ_ q=>q,(by grind),λb x hx=>by grind[World.shape?],λ_ _ q=>q⟩
theorem Sim.grown(s:Sim fr ro σ H w)(a:∀b,b<w.heap.size->w'.heap[b]?=w.heap[b]?)(l:w.heap.size<=w'.heap.size):Sim fr ro σ H w':=by
 refine⟨s.len,s.roOk.to (λ_ q=>q) (λb q=>a b (s.roLt b q)) (λb h=>Vf (s.roLt b h) l),λb h=>Vf (s.frLt b h) l,s.roFr,λi b x f e n=>?_,s.inj,λi y x f e=>?_,s.hidTo (· = ·) Q3 l (by simp) (by simp) λj d y k g r=>.inl ⟨j,y,rfl,k,g,id,λc q=>s.hidKeep k g (λz=>a d (s.own j d y k g z).1) (λb q=>a b (s.roLt b q)) q⟩⟩
 .obtain⟨p,q⟩:=s.own i b x f e n
  grind
 .refine(s.blk i y x f e).keep (QdR a s.roLt σ) ?_ ?_
  .rintro b rfl m;exact a b (s.own i b x f e m).1
  .rintro b c rfl m;exact a c (s.hid i b x c f e m).lt
theorem Qi.grown(hh:∀b,b<w.heap.size->w'.heap[b]?=w.heap[b]?)(hs:w.heap.size<=w'.heap.size)(s:Sim fr ro σ H w)(ho:w'.os=w.os)(ht:w'.tape=w.tape)(hu:w'.output=w.output)(hd:w.drawn<=w'.drawn):Qi fr ro w ro w':=
 ⟨λ_ q=>q,λb h=>hh b (s.roLt b h),λb h=>hh b (s.frLt b h),hs,(QdR hh s.roLt σ).shape,ho,ht,hu,hd⟩
theorem Qnt(h:∀b,b<w.heap.size->w'.heap[b]?=w.heap[b]?)(j:w.heap.size<=w'.heap.size)(d:w'.os=w.os)(g:w'.tape=w.tape)(f:w'.output=w.output)(i:w.drawn<=w'.drawn):
  ∃q os',w'=grow (w.drewN q) os':=by
 refine⟨w'.drawn-w.drawn,w'.heap.extract w.heap.size w'.heap.size,?_⟩;obtain⟨a,k,e,n,l⟩:=w';simp only at h j d g f i;subst d g f;unfold grow World.drewN;have p:a=w.heap++a.extract w.heap.size a.size:=by
  grind
 have m:e=w.drawn+(e-w.drawn):=by omega
 grind
end
end Go.Sw
