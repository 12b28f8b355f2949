/- The rules by which the code is walked, with what they rest on (part 1). -/
import Derived.Calls
import Derived.Tactics
import Derived.Below
import Derived.TacticsIn
import Derived.OrdersIn
import Derived.RangeFuncLeaves
import Derived.RangeFuncRecord
import Derived.Laws.Strings
import Derived.Laws.World
import Derived.Orders
import Derived.Maps.Keyed
import Derived.Laws.StructEq
import Derived.Maps.RangeRun
import Derived.Shelf.SlSortCmp.NoneTotal
set_option linter.unusedVariables false
set_option linter.unusedSimpArgs false
set_option linter.unusedSectionVars false
namespace Go.Sw
abbrev Xa:= @List.getElem?_set_self
abbrev Xb:= @List.getElem?_set
abbrev Xc:= @List.pairwise_cons
abbrev Xd:= @List.mem_filter
abbrev Xe:= @List.mem_map
abbrev Xf:= @List.map_append
abbrev Xg:= @Bool.not_false
abbrev Xh:= @Bool.false_eq_true
abbrev Xi:= @Option.map_some
abbrev Xj:= @Nat.succ_mul
abbrev Xk:= @Nat.lt_succ_self
abbrev Xl:= @List.getElem?_map
abbrev Xm:= @List.drop_eq_getElem_cons
abbrev Xn:= @List.drop_eq_nil_iff
abbrev Xo:= @List.drop_length
abbrev Xp:= @List.all_eq_true
abbrev Xq:= @List.any_eq_true
abbrev Xr:= @Array.toList_inj
abbrev Xs:= @Nat.zero_add
abbrev Xt:= @Nat.add_zero
abbrev Xu:= @List.length_take
abbrev Xv:= @List.take_append_drop
abbrev Xw:= @Nat.add_mul
abbrev Xx:= @Nat.min_eq_left
abbrev Xy:= @Nat.mul_le_mul_right
abbrev Xz:= @List.getElem?_cons_zero
abbrev XA:= @List.getElem?_cons_succ
abbrev XB:= @List.getElem?_toArray
abbrev XC:= @Sem.run_ite
abbrev XD:= @List.map_toArray
abbrev XE:= @Option.bind_some
abbrev XF:= @List.getElem?_eq_getElem
abbrev XG:= @List.getElem?_eq_some_iff
abbrev XH:= @List.getElem?_append_left
abbrev XI:= @List.getElem?_append_right
abbrev XJ:= @List.getElem?_eq_none
abbrev XK:= @List.getElem?_set_ne
abbrev XL:= @Nat.eq_of_beq_eq_true
abbrev XM:= @Nat.le_of_ble_eq_true
abbrev XN:= @Nat.ble_eq_true_of_le
abbrev XO:= @Nat.le_refl
abbrev XP:= @Nat.zero_le
abbrev XQ:= @Nat.le_trans
abbrev XR:= @Bool.and_eq_true
abbrev XS:= @Bool.or_eq_false_iff
abbrev XT:= @Bool.eq_iff_iff
abbrev XU:= @Option.some.inj
abbrev XV:= @List.length_cons
abbrev XW:= @List.length_map
abbrev XX:= @List.length_append
abbrev XY:= @List.length_set
abbrev XZ:= @List.mem_cons_of_mem
abbrev X0:= @List.mem_cons
abbrev X2:= @List.take_append_of_le_length
abbrev X3:= @List.drop_append_of_le_length
abbrev X4:= @List.take_length
abbrev X5:= @List.drop_length_add_append
abbrev X6:= @List.take_length_add_append
abbrev X7:= @Array.getElem?_eq_some_iff
abbrev X8:= @Array.getElem?_setIfInBounds
abbrev X9:= @Nat.lt_of_lt_of_le
abbrev Va:= @List.append_nil
abbrev Vb:= @List.nil_append
abbrev Vc:= @List.append_assoc
abbrev Vd:= @List.map_cons
abbrev Ve:= @List.map_nil
abbrev Vf:= @List.flatten_cons
abbrev Vg:= @Sem.run_bind
abbrev Vh:= @Sem.run_pure
abbrev Vi:= @cond_true
abbrev Vj:= @cond_false
abbrev Vk:= @decide_eq_true_eq
abbrev Vl:= @if_neg
abbrev Vm:= @if_pos
abbrev Vn:= @of_decide_eq_false
abbrev Vo:= @decide_eq_false
abbrev Vp:= @beq_iff_eq
abbrev Vq:= @List.mem_singleton
abbrev Vr:= @Nat.lt_or_ge
abbrev Vs:= @List.mem_append
abbrev Vt:= @List.pairwise_iff_getElem
abbrev Vu:= @Nat.beq_refl
abbrev Vv:= @List.mem_map_of_mem
abbrev Vw:= @List.mem_of_getElem?
abbrev Vx:= @List.take_of_length_le
abbrev Vy:= @List.length_eq_zero_iff
abbrev Vz:= @List.cons_append
abbrev VA:= @List.getD_eq_getElem?_getD
abbrev VB:= @Bool.eq_false_iff
abbrev VC:= @List.length_filter_le
def Qg2:Nat:=0
def nG:Nat:=1
def QfT:List (List Int):=[]
theorem gOk:((List.range nG).all λb=>Nat.beq b Qg2|| !(QfT.getD b []).isEmpty)=true:=by decide
theorem gLt:Nat.ble QfT.length nG=true:=by decide
theorem QjW:Nat.blt Qg2 nG=true:=by decide
structure GP (w:World):Prop where
 max:∃m:Int,w.cell? ⟨Qg2,0,none⟩=some (.int .i64 m)
 tab:∀(g:Nat) (zs:List Int),QfT[g]?=some zs->∀(i:Nat) (z:Int),zs[i]?=some z->w.cell? ⟨g,i,none⟩=some (.int .i64 z)
theorem GP.keep{w w':World}(h:∀b,b<nG->w'.heap[b]?=w.heap[b]?)(g:GP w):GP w':=by
 obtain⟨m,j⟩:=g.max;refine⟨⟨m,?_⟩,λd f a i z e=>?_⟩
 .rw[<- j];unfold World.cell?;rw[h Qg2 (by simpa using QjW)]
 .rw[<- g.tab d f a i z e];unfold World.cell?;have k:=(XG.1 a).1;have l:QfT.length<=nG:=by simpa using gLt
  rw[h d (by omega)]
theorem Qeg{w:World}{b i:Nat}{v:Value}(h:w.cell? ⟨b,i,none⟩=some v):b<w.heap.size:=by
 cases e:w.heap[b]? with
 |none=>simp[World.cell?,e]at h
 |some o=>exact(X7.1 e).1
theorem GP.size{w:World}(g:GP w)(b:Nat)(f:b<nG):b<w.heap.size:=by
 have h:=Xp.1 gOk b (List.mem_range.2 f);rw[Bool.or_eq_true]at h;rcases h with h|h
 .obtain⟨m,d⟩:=g.max;rw[XL h];exact Qeg d
 .cases e:QfT[b]? with
  |none=>rw[VA,e]at h;simp at h
  |some a=>
   cases a with
   |nil=>rw[VA,e]at h;simp at h
   |cons z a=>exact Qeg (g.tab b _ e 0 z rfl)
inductive A where
 |any
 |bool (b:Bool)
 |int (k:IntKind) (n:Int)
 |str (s:List UInt8)
 |nilp
 |ptr (i off:Nat)
 |rp (cs:List A)
 |nils
 |rsl (k:Nat) (es:List (List A))
 |osl (i o n k:Nat)
 |agg (cs:List A)
 |fn (f:Fn) (first cap:List A)
 |nilf
 |iface (t:Nat) (v:A)
 |nilif
 |map (i:Nat)
 |nilm
 |tup (vs:List A)
abbrev Sig:=List (Option Nat)
def Qu:Value->Prop
 |.agg _|.tuple _=>False
 |_=>True
mutual
def VR(ro:Nat->Prop)(σ:Sig)(w:World):A->Value->Prop
 |.any,_=>True
 |.bool b,v=>v=.bool b
 |.int k n,v=>v=.int k n
 |.str s,v=>v=.string ⟨s.toArray⟩
 |.nilp,v=>v=.pointer none
 |.ptr i off,v=>∃b,σ[i]?=some (some b)/\v=.pointer (some ⟨b,off,none⟩)
 |.rp cs,v=>∃b off,v=.pointer (some ⟨b,off,none⟩)/\ro b/\CR ro [] w b cs off
 |.nils,v=>v=.slice none 0 0
 |.rsl k es,v=>∃a cap,v=.slice a es.length cap/\es.length<=cap/\
   (es=[]\/ ∃b off,a=some ⟨b,off,none⟩/\ro b/\RR ro [] w b k es off)
 |.osl i o n k,v=>(n=0/\v=.slice none 0 0)\/
   ∃b p cap t m,σ[i]?=some (some b)/\v=.slice (some ⟨b,p,none⟩) n cap/\(0<cap->p=o*k)/\(n<=cap/\cap<=9223372036854775807)/\w.shape? b=some (t,m)/\(o+cap)*k<=m
 |.agg cs,v=>∃l:List Value,v=.agg l.toArray/\LR ro σ w cs l
 |.fn f first cap,v=>∃l l':List Value,v=.func f l.toArray l'.toArray/\LR ro σ w first l/\LR ro σ w cap l'
 |.nilf,v=>v=.nilFunc
 |.iface t a,v=>∃x,v=.iface t x/\VR ro σ w a x
 |.nilif,v=>v=.nilIface
 |.map i,v=>∃b,σ[i]?=some (some b)/\v=.map (some b)
 |.nilm,v=>v=.map none
 |.tup vs,v=>∃l:List Value,v=.tuple l.toArray/\LR ro σ w vs l
def CR(ro:Nat->Prop)(σ:Sig)(w:World)(b:Nat):List A->Nat->Prop
 |[],_=>True
 |a::r,off=>(∃v,w.cell? ⟨b,off,none⟩=some v/\Qu v/\VR ro σ w a v)/\CR ro σ w b r (off+1)
def RR(ro:Nat->Prop)(σ:Sig)(w:World)(b k:Nat):List (List A)->Nat->Prop
 |[],_=>True
 |cs::r,off=>cs.length=k/\CR ro σ w b cs off/\RR ro σ w b k r (off+k)
def LR(ro:Nat->Prop)(σ:Sig)(w:World):List A->List Value->Prop
 |[],l=>l=[]
 |a::r,l=>∃v l',l=v::l'/\VR ro σ w a v/\LR ro σ w r l'
end
structure Ext (ro:Nat->Prop) (σ:Sig) (w:World) (ro':Nat->Prop) (σ':Sig) (w':World):Prop where
 sub:∀b,ro b->ro' b
 keep:∀b,ro b->w'.heap[b]?=w.heap[b]?
 shape:∀b x,w.shape? b=some x->w'.shape? b=some x
 sig:∀(i b:Nat),σ[i]?=some (some b)->σ'[i]?=some (some b)
theorem Qeh{w w':World}{b a:Nat}(h:w'.heap[b]?=w.heap[b]?):w'.cell? ⟨b,a,none⟩=w.cell? ⟨b,a,none⟩:=by
 simp only[World.cell?,h]
theorem Ext.nil{ro ro':Nat->Prop}{σ σ':Sig}{w w':World}(h:Ext ro σ w ro' σ' w'):Ext ro [] w ro' [] w':=
 ⟨h.sub,h.keep,h.shape,λ_ _ q=>q⟩
mutual
theorem VR.mono{ro ro':Nat->Prop}{w w':World}:∀{a:A} {σ σ':Sig} {v:Value},Ext ro σ w ro' σ' w'->VR ro σ w a v->VR ro' σ' w' a v
 |.any,_,_,_,h,_=>trivial
 |.bool b,_,_,v,h,q=>q
 |.int k n,_,_,v,h,q=>q
 |.str s,_,_,v,h,q=>q
 |.nilp,_,_,v,h,q=>q
 |.ptr i off,_,_,v,h,q=>by
  simp only[VR]at q⊢;obtain⟨b,h1,h2⟩:=q;exact⟨b,h.sig _ _ h1,h2⟩
 |.rp cs,_,_,v,h,q=>by
  simp only[VR]at q⊢;obtain⟨b,off,h1,h2,h3⟩:=q;exact⟨b,off,h1,h.sub _ h2,CR.mono h.nil h2 h3⟩
 |.nils,_,_,v,h,q=>q
 |.rsl k es,_,_,v,h,q=>by
  simp only[VR]at q⊢;obtain⟨a,cap,h1,h2,h3⟩:=q;refine⟨a,cap,h1,h2,?_⟩;rcases h3 with h3|⟨b,off,h4,h5,h6⟩
  .exact .inl h3
  .exact .inr ⟨b,off,h4,h.sub _ h5,RR.mono h.nil h5 h6⟩
 |.osl i o n k,_,_,v,h,q=>by
  simp only[VR]at q⊢;rcases q with q|⟨b,p,cap,t,m,h1,h2,h6,h3,h4,h5⟩
  .exact .inl q
  .exact .inr ⟨b,p,cap,t,m,h.sig _ _ h1,h2,h6,h3,h.shape _ _ h4,h5⟩
 |.agg cs,_,_,v,h,q=>by
  simp only[VR]at q⊢;obtain⟨l,h1,h2⟩:=q;exact⟨l,h1,LR.mono h h2⟩
 |.fn f a c,_,_,v,h,q=>by
  simp only[VR]at q⊢;obtain⟨l,l',h1,h2,h3⟩:=q;exact⟨l,l',h1,LR.mono h h2,LR.mono h h3⟩
 |.nilf,_,_,v,h,q=>q
 |.iface t a,_,_,v,h,q=>by
  simp only[VR]at q⊢;obtain⟨x,h1,h2⟩:=q;exact⟨x,h1,VR.mono h h2⟩
 |.nilif,_,_,v,h,q=>q
 |.map i,_,_,v,h,q=>by
  simp only[VR]at q⊢;obtain⟨b,h1,h2⟩:=q;exact⟨b,h.sig _ _ h1,h2⟩
 |.nilm,_,_,v,h,q=>q
 |.tup vs,_,_,v,h,q=>by
  simp only[VR]at q⊢;obtain⟨l,h1,h2⟩:=q;exact⟨l,h1,LR.mono h h2⟩
theorem CR.mono{ro ro':Nat->Prop}{w w':World}:∀{cs:List A} {σ σ':Sig} {b off:Nat},Ext ro σ w ro' σ' w'->ro b->CR ro σ w b cs off->CR ro' σ' w' b cs off
 |[],_,_,_,_,_,_,_=>trivial
 |a::r,_,_,b,off,h,hb,q=>by
  simp only[CR]at q⊢;obtain⟨⟨v,h1,hp,h2⟩,h3⟩:=q;exact⟨⟨v,by rw[Qeh (h.keep _ hb)];exact h1,hp,VR.mono h h2⟩,CR.mono h hb h3⟩
theorem RR.mono{ro ro':Nat->Prop}{w w':World}:∀{es:List (List A)} {σ σ':Sig} {b k off:Nat},Ext ro σ w ro' σ' w'->ro b->RR ro σ w b k es off->RR ro' σ' w' b k es off
 |[],_,_,_,_,_,_,_,_=>trivial
 |cs::r,_,_,b,k,off,h,hb,q=>by
  simp only[RR]at q⊢;obtain⟨h1,h2,h3⟩:=q;exact⟨h1,CR.mono h hb h2,RR.mono h hb h3⟩
theorem LR.mono{ro ro':Nat->Prop}{w w':World}:∀{az:List A} {σ σ':Sig} {l:List Value},Ext ro σ w ro' σ' w'->LR ro σ w az l->LR ro' σ' w' az l
 |[],_,_,_,h,q=>q
 |a::r,_,_,l,h,q=>by
  simp only[LR]at q⊢;obtain⟨v,l',h1,h2,h3⟩:=q;exact⟨v,l',h1,VR.mono h h2,LR.mono h h3⟩
end
structure Ent where
 fl:Bool
 off:Nat
 lo:Int
 hi:Int
def winL(i n c:Nat):List (List A):=(List.range c).map λj=>[.osl i (j*n) n 1]
def eC(b1 b2:Nat)(e:Ent):List A:=[.ptr (bif e.fl then b2 else b1) e.off,.int .i64 e.lo,.int .i64 e.hi]
inductive Blk where
 |dead
 |cells (t:Nat) (cs:List A)
 |row (t k:Nat) (es:List (List A))
 |rowr (t k:Nat) (es:List (List A))
 |map (es:List (A×A))
 |iter (cur:Option (A×A)) (es:List (A×A))
 |fmap (es:List (A×A))
 |ents (t b1 b2:Nat) (es:List Ent)
 |wins (t b n c:Nat)
 |mapO (fz:Bool) (t k:Nat) (es:List (A×Option (List (List A))))
 |mapP (es:List (A×A))
 |frow (t k:Nat) (es:List (List A))
def Blk.live:Blk->Bool
 |.dead=>false
 |.fmap _=>false
 |.frow _ _ _=>false
 |.mapO fz _ _ _=> !fz
 |_=>true
def Blk.held:Blk->Bool
 |.mapO fz _ _ _=>fz
 |_=>false
def Blk.holds(x:Blk):Bool:=x.live||x.held
theorem Qa1{x:Blk}(h:x.live=true):x≠ .dead:=by rintro rfl;cases h
theorem Qe0{x:Blk}(h:x.holds=true):x≠ .dead:=by rintro rfl;cases h
theorem Qa2{x:Blk}(h:x.live=true):x.holds=true:=by unfold Blk.holds;rw[h];rfl
abbrev Qc:=List Blk
def ER(ro:Nat->Prop)(σ:Sig)(w:World):List (A×A)->List MapEntry->Prop
 |[],l=>l=[]
 |x::r,l=>∃e l',l=e::l'/\VR ro σ w x.1 e.key/\VR ro σ w x.2 e.val/\ER ro σ w r l'
def ItR(ro:Nat->Prop)(w:World)(b:Nat)(cur:Option (A×A))(es:List (A×A)):Prop:=
 (es=[]/\cur=none/\w.heap[b]?=some (.mapIter none 0 #[] 0))\/
 ∃m l clock seen left,w.heap[b]?=some (.mapIter (some m) clock seen clock)/\ro m/\w.heap[m]?=some (.map l clock)/\(∀e∈l.toList,e.born<clock)/\(l.toList.map (·.born)).Nodup/\
  (left:List MapEntry).Perm (l.toList.filter λe=> !seen.contains e.born)/\ER ro [] w es left/\
  (∀x,cur=some x->∃e∈l.toList,seen.back? =some e.born/\VR ro [] w x.1 e.key/\VR ro [] w x.2 e.val)
def RL(ro:Nat->Prop)(σ:Sig)(w:World)(k:Nat):List (List A)->List Value->Prop
 |[],_=>True
 |c::es,l=>∃l1 l2,l=l1++l2/\c.length=k/\(LR ro σ w c l1/\ ∀v∈l1,Qu v)/\RL ro σ w k es l2
theorem RL.mono{ro ro':Nat->Prop}{σ σ':Sig}{w w':World}(h:Ext ro σ w ro' σ' w'){k:Nat}:∀{es:List (List A)} {l:List Value},RL ro σ w k es l->RL ro' σ' w' k es l
 |[],_,_=>trivial
 |c::es,l,⟨l1,l2,h1,h2,h3,h4⟩=>⟨l1,l2,h1,h2,⟨h3.1.mono h,h3.2⟩,RL.mono h h4⟩
def SO(ro:Nat->Prop)(w:World)(t k:Nat)(rows:List (List A))(v:Value):Prop:=
 (rows=[]/\v=.slice none 0 0)\/ ∃(c p cap:Nat) (vs:List Value),v=.slice (some ⟨c,p,none⟩) rows.length cap/\(rows.length<=cap/\cap<=9223372036854775807)/\w.heap[c]?=some (.cells vs.toArray t (0,0))/\cap*k<=vs.length/\RL ro [] w k rows vs/\(0<cap->p=0)
def MO(ro:Nat->Prop)(w:World)(t k:Nat):List (A×Option (List (List A)))->List MapEntry->Prop
 |[],l=>l=[]
 |x::r,l=>∃e l',l=e::l'/\VR ro [] w x.1 e.key/\(∀rows,x.2=some rows->SO ro w t k rows e.val)/\MO ro w t k r l'
def QeT:List (A×Option (List (List A)))->List MapEntry->Nat->Prop
 |x::r,e::l,c=>(x.2.isSome=true/\ ∃p n cap,e.val=.slice (some ⟨c,p,none⟩) n cap)\/QeT r l c
 |_,_,_=>False
def QiE:List (A×Option (List (List A)))->List MapEntry->Prop
 |x::r,e::l=>(∀c,x.2.isSome=true->(∃p n cap,e.val=.slice (some ⟨c,p,none⟩) n cap)->¬QeT r l c)/\QiE r l
 |_,_=>True
def Hid(w:World):Blk->Nat->Nat->Prop
 |.mapO _ _ _ es,b,c=>∃l clock,w.heap[b]?=some (.map l clock)/\QeT es l.toList c
 |_,_,_=>False
theorem Hid.keep{w w':World}{x:Blk}{b c:Nat}(h:w'.heap[b]?=w.heap[b]?)(q:Hid w' x b c):Hid w x b c:=by
 cases x with
 |mapO fz t k e=>obtain⟨l,a,f,d⟩:=q;exact⟨l,a,by grind,d⟩
 |_=>exact q.elim
theorem Hid.holds{w:World}{x:Blk}{b c:Nat}(q:Hid w x b c):x.holds=true:=by
 cases x with
 |mapO fz t k a=>cases fz<;>rfl
 |_=>exact q.elim
theorem MO.mono{ro ro':Nat->Prop}{σ σ':Sig}{w w':World}(h:Ext ro σ w ro' σ' w'){t k:Nat}:∀{es:List (A×Option (List (List A)))} {l:List MapEntry},(∀c,QeT es l c->w'.heap[c]?=w.heap[c]?)->MO ro w t k es l->MO ro' w' t k es l
 |[],_,_,q=>q
 |x::r,_,hh,⟨e,l',h1,h2,h3,h4⟩=>by
  subst h1;refine⟨e,l',rfl,h2.mono h.nil,λrows hr=>?_,MO.mono h (λc hc=>hh c (.inr hc)) h4⟩;rcases h3 rows hr with q|⟨c,p,cap,vs,q1,q2,q3,q4,q5,q6⟩
  .exact .inl q
  .exact .inr ⟨c,p,cap,vs,q1,q2,by rw[hh c (.inl (by grind))];exact q3,q4,q5.mono h.nil,q6⟩
theorem MO.cells{ro:Nat->Prop}{w:World}{t k:Nat}:∀{es:List (A×Option (List (List A)))} {l:List MapEntry} {c:Nat},MO ro w t k es l->QeT es l c->∃vs:Array Value,w.heap[c]?=some (.cells vs t (0,0))
 |[],l,c,h,q=>by cases l<;>exact q.elim
 |x::r,_,c,⟨e,l',h1,h2,h3,h4⟩,q=>by
  subst h1;rcases q with⟨q1,p,n,cap,q2⟩|q
  .obtain⟨rows,hr⟩:=Option.isSome_iff_exists.1 q1;rcases h3 rows hr with⟨_,z⟩|⟨c',p',cap',vs,z1,z2,z3,z4,z5,z6⟩
   .grind
   grind
  .exact MO.cells h4 q
def Born(l:Array MapEntry)(clock:Nat):Prop:=clock=l.size/\ ∀(i:Nat) (e:MapEntry),l.toList[i]?=some e->e.born=i
def BR(ro:Nat->Prop)(σ:Sig)(w:World):Blk->Option Nat->Prop
 |.dead,_=>True
 |.cells t cs,some b=>∃l:List Value,w.heap[b]?=some (.cells l.toArray t (0,0))/\LR ro σ w cs l/\ ∀v∈l,Qu v
 |.row t k es,some b=>∃l:List Value,w.heap[b]?=some (.cells l.toArray t (0,0))/\RL ro [] w k es l
 |.rowr t k es,some b=>∃l:List Value,w.heap[b]?=some (.cells l.toArray t (0,0))/\RL ro σ w k es l
 |.row _ _ es,none=>es=[]
 |.ents t b1 b2 es,some b=>∃l:List Value,w.heap[b]?=some (.cells l.toArray t (0,0))/\RL ro σ w 3 (es.map (eC b1 b2)) l
 |.ents _ _ _ es,none=>es=[]
 |.wins t b n c,some d=>∃l:List Value,w.heap[d]?=some (.cells l.toArray t (0,0))/\RL ro σ w 1 (winL b n c) l
 |.wins _ _ _ c,none=>c=0
 |.map es,some b=>∃l clock,w.heap[b]?=some (.map l clock)/\ER ro [] w es l.toList/\
   (∀e∈l.toList,e.born<clock)/\(l.toList.map (·.born)).Nodup/\(l.toList.map (·.key)).Nodup
 |.mapP es,some b=>∃l clock,w.heap[b]?=some (.map l clock)/\ER ro σ w es l.toList/\
   (∀e∈l.toList,e.born<clock)/\(l.toList.map (·.born)).Nodup/\(l.toList.map (·.key)).Nodup
 |.frow t k es,some b=>ro b/\ ∃l:List Value,w.heap[b]?=some (.cells l.toArray t (0,0))/\RL ro [] w k es l/\l.length=es.length*k
 |.iter cur es,some b=>ItR ro w b cur es
 |.mapO fz t k es,some b=>(fz=true->ro b)/\ ∃l clock,w.heap[b]?=some (.map l clock)/\MO ro w t k es l.toList/\QiE es l.toList/\
   (∀e∈l.toList,e.born<clock)/\(l.toList.map (·.born)).Nodup/\(l.toList.map (·.key)).Nodup/\Born l clock
 |.fmap es,some b=>ro b/\ ∃l clock,w.heap[b]?=some (.map l clock)/\ER ro [] w es l.toList/\
   (∀e∈l.toList,e.born<clock)/\(l.toList.map (·.born)).Nodup/\(l.toList.map (·.key)).Nodup
 |_,none=>False
structure RoOk (ro:Nat->Prop) (w:World):Prop where
 lt:∀b,ro b->b<w.heap.size
 g:∀b,b<nG->ro b
 gp:GP w
theorem RoOk.to{ro ro':Nat->Prop}{w w':World}(h:RoOk ro w)(sub:∀b,ro b->ro' b)(keep:∀b,ro b->w'.heap[b]?=w.heap[b]?)(lt:∀b,ro' b->b<w'.heap.size):RoOk ro' w':=
 ⟨lt,λb hb=>sub b (h.g b hb),h.gp.keep λb hb=>keep b (h.g b hb)⟩
structure QjD (fr ro:Nat->Prop) (σ:Sig) (H:Qc) (w:World) (i0 b0 c:Nat):Prop where
 lt:c<w.heap.size
 ro:¬ro c
 fr:¬fr c
 ne:∀(j b:Nat) (y:Blk),σ[j]?=some (some b)->H[j]?=some y->y.live=true->c≠b
 one:∀(j b:Nat) (y:Blk),σ[j]?=some (some b)->H[j]?=some y->Hid w y b c->b=b0/\j=i0
structure Sim (fr ro:Nat->Prop) (σ:Sig) (H:Qc) (w:World):Prop where
 len:σ.length=H.length
 roOk:RoOk ro w
 frLt:∀b,fr b->b<w.heap.size
 roFr:∀b,ro b->¬fr b
 own:∀(i b:Nat) (blk:Blk),σ[i]?=some (some b)->H[i]?=some blk->blk.live=true->b<w.heap.size/\ ¬ro b/\ ¬fr b
 inj:∀(i j b:Nat) (x y:Blk),σ[i]?=some (some b)->σ[j]?=some (some b)->H[i]?=some x->H[j]?=some y->x.live=true->y.live=true->i=j
 blk:∀(i:Nat) (s:Option Nat) (x:Blk),σ[i]?=some s->H[i]?=some x->BR ro σ w x s
 hid:∀(i b:Nat) (x:Blk) (c:Nat),σ[i]?=some (some b)->H[i]?=some x->Hid w x b c->QjD fr ro σ H w i b c
theorem Sim.roHeld{fr ro:Nat->Prop}{σ:Sig}{H:Qc}{w:World}(s:Sim fr ro σ H w){i b:Nat}{x:Blk}(d:σ[i]?=some (some b))(e:H[i]?=some x)(a:x.held=true):ro b:=by
 have h:=s.blk i _ x d e;cases x with
 |mapO fz t k f=>exact h.1 a
 |_=>cases a
theorem Sim.hidKeep{fr ro:Nat->Prop}{σ:Sig}{H:Qc}{w w':World}(s:Sim fr ro σ H w){i b c:Nat}{x:Blk}(f:σ[i]?=some (some b))(g:H[i]?=some x)
  (e:x.live=true->w'.heap[b]?=w.heap[b]?)(d:∀b,ro b->w'.heap[b]?=w.heap[b]?)(q:Hid w' x b c):Hid w x b c:=by
 refine q.keep ?_;have h:=q.holds;cases a:x.live with
 |true=>exact e a
 |false=>unfold Blk.holds at h;rw[a]at h;exact d b (s.roHeld f g h)
theorem Sim.hidTo{fr fr' ro m:Nat->Prop}{σ σ':Sig}{H H':Qc}{w w':World}(s:Sim fr ro σ H w)(R:Nat->Nat->Prop)(V:∀j j' a,R j a->R j' a->j=j')(z:w.heap.size<=w'.heap.size)
  (O:∀(i b:Nat) (x:Blk) (c:Nat),σ[i]?=some (some b)->H[i]?=some x->Hid w x b c->m c->ro c)
  (J:∀(i b:Nat) (x:Blk) (c:Nat),σ[i]?=some (some b)->H[i]?=some x->Hid w x b c->fr' c->fr c)
  (h:∀(j d:Nat) (y:Blk),σ'[j]?=some (some d)->H'[j]?=some y->y.holds=true->
   (∃(a:Nat) (n:Blk),R j a/\σ[a]?=some (some d)/\H[a]?=some n/\(y.live=true->n.live=true)/\ ∀c,Hid w' y d c->Hid w n d c)\/(w.heap.size<=d/\ ∀c,Hid w' y d c->False)):
  ∀(i b:Nat) (x:Blk) (c:Nat),σ'[i]?=some (some b)->H'[i]?=some x->Hid w' x b c->QjD fr' m σ' H' w' i b c:=by
 intro i b x c L Q F;rcases h i b x L Q F.holds with⟨a,n,T,M,P,Y,N⟩|⟨_,g⟩
 .have k:=s.hid a b n c M P (N c F);refine⟨X9 k.lt z,λq=>k.ro (by grind),λq=>k.fr (by grind),λj d y r t l=>?_,λj d y r t l=>?_⟩
  .rcases h j d y r t (Qa2 l)with⟨u,y1,_,p,B,E,_⟩|⟨f,_⟩
   .exact k.ne u d y1 p B (E l)
   .exact λe=>by have:=k.lt;omega
  .rcases h j d y r t l.holds with⟨u,y1,r1,p,B,E,G⟩|⟨_,f⟩
   .obtain⟨X,W⟩:=k.one u d y1 p B (G c l)
    grind
   grind
 grind
theorem QX(j j' j0:Nat)(h:j=j0)(h':j'=j0):j=j':=h.trans h'.symm
theorem Sim.roLt{fr ro:Nat->Prop}{σ:Sig}{H:Qc}{w:World}(s:Sim fr ro σ H w):∀b,ro b->b<w.heap.size:=s.roOk.lt
structure Qi (fr ro:Nat->Prop) (w:World) (ro':Nat->Prop) (w':World):Prop where
 sub:∀b,ro b->ro' b
 keepRo:∀b,ro b->w'.heap[b]?=w.heap[b]?
 keepFr:∀b,fr b->w'.heap[b]?=w.heap[b]?
 size:w.heap.size<=w'.heap.size
 shape:∀b x,w.shape? b=some x->w'.shape? b=some x
 os:w'.os=w.os
 tape:w'.tape=w.tape
 output:w'.output=w.output
 drawn:w.drawn<=w'.drawn
theorem Qi.refl(fr ro:Nat->Prop)(w:World):Qi fr ro w ro w:=
 ⟨λ_ h=>h,λ_ _=>rfl,λ_ _=>rfl,XO _,λ_ _ h=>h,rfl,rfl,rfl,XO _⟩
theorem Qi.trans{fr ro ro1 ro2:Nat->Prop}{w w1 w2:World}(h:Qi fr ro w ro1 w1)(k:Qi fr ro1 w1 ro2 w2):Qi fr ro w ro2 w2:=
 ⟨λb q=>k.sub _ (h.sub _ q),λb q=>(k.keepRo _ (h.sub _ q)).trans (h.keepRo _ q),λb q=>(k.keepFr _ q).trans (h.keepFr _ q),
  XQ h.size k.size,λb x q=>k.shape _ _ (h.shape _ _ q),k.os.trans h.os,k.tape.trans h.tape,k.output.trans h.output,XQ h.drawn k.drawn⟩
theorem QbD{σ τ:Sig}{i b:Nat}(h:σ[i]?=some (some b)):(σ++τ)[i]?=some (some b):=by
 grind
theorem Qi.ext{fr ro ro':Nat->Prop}{w w':World}(h:Qi fr ro w ro' w')(σ τ:Sig):Ext ro σ w ro' (σ++τ) w':=
 ⟨h.sub,h.keepRo,h.shape,λ_ _=>QbD⟩
theorem Qi.ext0{fr ro ro':Nat->Prop}{w w':World}(h:Qi fr ro w ro' w')(σ:Sig):Ext ro σ w ro' σ w':=
 ⟨h.sub,h.keepRo,h.shape,λ_ _ q=>q⟩
theorem ER.mono{ro ro':Nat->Prop}{σ σ':Sig}{w w':World}(h:Ext ro σ w ro' σ' w'):∀{es:List (A×A)} {l:List MapEntry},ER ro σ w es l->ER ro' σ' w' es l
 |[],_,q=>q
 |x::r,l,q=>by
  simp only[ER]at q⊢;obtain⟨e,l',h1,h2,h3,h4⟩:=q;exact⟨e,l',h1,h2.mono h,h3.mono h,ER.mono h h4⟩
theorem ItR.keep{ro g:Nat->Prop}{σ σ':Sig}{w w':World}(h:Ext ro σ w g σ' w'){b:Nat}(F:w'.heap[b]?=w.heap[b]?){f:Option (A×A)}{es:List (A×A)}
  (q:ItR ro w b f es):ItR g w' b f es:=by
 rcases q with⟨k,i,j⟩|⟨m,l,a,d,left,k,i,j,r,p,E,y,u⟩
 .exact .inl ⟨k,i,by grind⟩
 .refine .inr ⟨m,l,a,d,left,by grind,h.sub _ i,by rw[h.keep _ i];exact j,r,p,E,y.mono h.nil,λx s=>?_⟩;obtain⟨e,n,t,B,z⟩:=u x s;exact⟨e,n,t,B.mono h.nil,z.mono h.nil⟩
theorem CR.keep{ro ro':Nat->Prop}{σ σ':Sig}{w w':World}(h:Ext ro σ w ro' σ' w'){b:Nat}(hb:w'.heap[b]?=w.heap[b]?):
  ∀{cs:List A} {off:Nat},CR ro σ w b cs off->CR ro' σ' w' b cs off
 |[],_,_=>trivial
 |a::r,off,q=>by
  simp only[CR]at q⊢;obtain⟨⟨v,h1,hp,h2⟩,h3⟩:=q;exact⟨⟨v,by rw[Qeh hb];exact h1,hp,h2.mono h⟩,CR.keep h hb h3⟩
theorem RR.keep{ro ro':Nat->Prop}{σ σ':Sig}{w w':World}(h:Ext ro σ w ro' σ' w'){b:Nat}(hb:w'.heap[b]?=w.heap[b]?){k:Nat}:
  ∀{es:List (List A)} {off:Nat},RR ro σ w b k es off->RR ro' σ' w' b k es off
 |[],_,_=>trivial
 |cs::r,off,q=>by
  simp only[RR]at q⊢;obtain⟨h1,h2,h3⟩:=q;exact⟨h1,CR.keep h hb h2,RR.keep h hb h3⟩
theorem BR.keep{ro m:Nat->Prop}{σ σ':Sig}{w w':World}(h:Ext ro σ w m σ' w'){x:Blk}{s:Option Nat}
  (g:∀b,s=some b->x.live=true->w'.heap[b]?=w.heap[b]?)(q:BR ro σ w x s)(r:∀b c,s=some b->Hid w x b c->w'.heap[c]?=w.heap[c]?):BR m σ' w' x s:=by
 cases x with
 |mapO fz t k j=>
  cases s with
  |none=>exact q
  |some b=>
   obtain⟨i,l,c,a,e,f⟩:=q;refine⟨λz=>h.sub b (i z),l,c,?_,e.mono h (λd p=>r b d rfl ⟨l,c,a,p⟩),f⟩;cases fz with
   |false=>rw[g b rfl rfl];exact a
   |true=>rw[h.keep b (i rfl)];exact a
 |dead=>trivial
 |cells t E=>
  cases s with
  |none=>exact q
  |some b=>
   obtain⟨l,a,e,f⟩:=q;exact⟨l,by rw[g b rfl rfl];exact a,e.mono h,f⟩
 |row t k j=>
  cases s with
  |none=>exact q
  |some b=>
   obtain⟨l,a,e⟩:=q;exact⟨l,by rw[g b rfl rfl];exact a,e.mono h.nil⟩
 |rowr t k j=>
  cases s with
  |none=>exact q.elim
  |some b=>
   obtain⟨l,a,e⟩:=q;exact⟨l,by rw[g b rfl rfl];exact a,e.mono h⟩
 |wins t b n c=>
  cases s with
  |none=>exact q
  |some d=>
   obtain⟨l,a,e⟩:=q;exact⟨l,by rw[g d rfl rfl];exact a,e.mono h⟩
 |ents t B y j=>
  cases s with
  |none=>exact q
  |some b=>
   obtain⟨l,a,e⟩:=q;exact⟨l,by rw[g b rfl rfl];exact a,e.mono h⟩
 |map j=>
  cases s with
  |none=>exact q
  |some b=>
   obtain⟨l,c,a,e,f⟩:=q;exact⟨l,c,by rw[g b rfl rfl];exact a,e.mono h.nil,f⟩
 |mapP j=>
  cases s with
  |none=>exact q
  |some b=>
   obtain⟨l,c,a,e,f⟩:=q;exact⟨l,c,by rw[g b rfl rfl];exact a,e.mono h,f⟩
 |frow t k j=>
  cases s with
  |none=>exact q
  |some b=>
   obtain⟨i,l,a,e,f⟩:=q;exact⟨h.sub b i,l,by rw[h.keep b i];exact a,e.mono h.nil,f⟩
 |iter u j=>
  cases s with
  |none=>exact q
  |some b=>exact ItR.keep h (g b rfl rfl) q
 |fmap j=>
  cases s with
  |none=>exact q
  |some b=>
   obtain⟨i,l,c,a,e,f⟩:=q;exact⟨h.sub b i,l,c,by rw[h.keep b i];exact a,e.mono h.nil,f⟩
abbrev Env:=List (Nat×A)
def lk:Env->Nat->A
 |[],_=>.any
 |(d,a)::r,s=>bif Nat.beq s d then a else lk r s
abbrev up(env:Env)(d:Nat)(a:A):Env:=(d,a)::env
inductive AEx where
 |normal|exit (id:Nat)|ret
abbrev Qx:=AEx->Env->Qc->Prop
def Qj9(fr:Nat->Prop)(w:World)(d:Deferred):Prop:=∃D,d={target:=.collected D,args:= #[]}/\fr D/\w.heap[D]?=some (.deferred (some []))
def QgE(d:Deferred):Prop:=∃fv cap,d={target:=.fn fv cap,args:= #[]}
def QaO(fr:Nat->Prop)(ds:List Deferred)(w:World):Prop:=ds.Nodup/\ ∀d∈ds,Qj9 fr w d\/QgE d
theorem QaO.mark{fr:Nat->Prop}{a:List Deferred}{w:World}(h:QaO fr a w){D:Nat}(d:({target:=.collected D,args:= #[]}:Deferred)∈a):fr D/\w.heap[D]?=some (.deferred (some [])):=by
 rcases h.2 _ d with⟨D',e,i,g⟩|⟨f,c,e⟩
 .have:D=D':=by simpa using e
  subst this;exact⟨i,g⟩
 .simp at e
theorem QaO.to{fr fr':Nat->Prop}{a:List Deferred}{w w':World}(h:QaO fr a w)(k:∀D,({target:=.collected D,args:= #[]}:Deferred)∈a->fr D->w.heap[D]?=some (.deferred (some []))->fr' D/\w'.heap[D]?=some (.deferred (some []))):QaO fr' a w':=by
 refine⟨h.1,λd e=>?_⟩;rcases h.2 d e with⟨D,f,l,i⟩|q
 .obtain⟨j,g⟩:=k D (f▸e) l i;exact .inl ⟨D,f,j,g⟩
 .exact .inr q
theorem QaO.keep{fr ro ro':Nat->Prop}{ds:List Deferred}{w w':World}(h:QaO fr ds w)(k:Qi fr ro w ro' w'):QaO fr ds w':=
 h.to λD _ h2 h3=>⟨h2,(k.keepFr D h2).trans h3⟩
structure Grow (fr:Nat->Prop) (w:World) (ds:List Deferred) (fr':Nat->Prop) (ds':List Deferred):Prop where
 sub:∀b,fr b->fr' b
 new:∀b,fr' b->fr b\/w.heap.size<=b
 kd:∀d∈ds,d∈ds'
 ds:∀d∈ds',d∈ds\/ ∃D,d={target:=.collected D,args:= #[]}/\w.heap.size<=D
theorem Grow.refl(fr:Nat->Prop)(w:World)(ds:List Deferred):Grow fr w ds fr ds:=⟨λ_ h=>h,λ_ h=>.inl h,λ_ h=>h,λ_ h=>.inl h⟩
theorem Grow.trans{fr f a:Nat->Prop}{w i:World}{ds g e:List Deferred}(h:Grow fr w ds f g)(l:w.heap.size<=i.heap.size)(k:Grow f i g a e):Grow fr w ds a e:=by
 refine⟨λb q=>k.sub b (h.sub b q),λb q=>?_,λd q=>k.kd d (h.kd d q),λd q=>?_⟩
 .rcases k.new b q with q|q
  .exact h.new b q
  omega
 .rcases k.ds d q with q|⟨D,j,m⟩
  .exact h.ds d q
  grind
theorem Qi.frMono{fr fr' ro ro':Nat->Prop}{w w':World}(h:Qi fr' ro w ro' w')(s:∀b,fr b->fr' b):Qi fr ro w ro' w':=
 ⟨h.sub,h.keepRo,λb q=>h.keepFr b (s b q),h.size,h.shape,h.os,h.tape,h.output,h.drawn⟩
theorem Sim.frMono{fr fr' ro:Nat->Prop}{σ:Sig}{H:Qc}{w:World}(h:Sim fr' ro σ H w)(s:∀b,fr b->fr' b):Sim fr ro σ H w:=
 ⟨h.len,h.roOk,λb q=>h.frLt b (s b q),λb q r=>h.roFr b q (s b r),λi b x q1 q2 q3=>let⟨a,b',c⟩:=h.own i b x q1 q2 q3;(by grind),h.inj,h.blk,λi b x c q1 q2 q3=>let k:=h.hid i b x c q1 q2 q3;⟨k.lt,k.ro,λq=>k.fr (s c q),k.ne,k.one⟩⟩
structure Rel (fr ro:Nat->Prop) (σ:Sig) (H:Qc) (env:Env) (N:Nat) (a:Act) (w:World):Prop where
 sim:Sim fr ro σ H w
 env:∀s,VR ro σ w (lk env s) (a.tmps.getD s undef)
 size:a.tmps.size=N
 defers:QaO fr a.defers w
def Qco(rd:Option Nat)(fr:Nat->Prop)(w:World):Prop:=∀l,rd=some l->fr l/\ ∃r,w.heap[l]?=some (.loop r)
theorem Qav{fr:Nat->Prop}{w:World}:Qco none fr w:=λl e=>by cases e
theorem Qco.to{rd:Option Nat}{fr fr' ro ro':Nat->Prop}{w w':World}(h:Qco rd fr w)(k:Qi fr ro w ro' w')(s:∀b,fr b->fr' b):Qco rd fr' w':=λl e=>by
 obtain⟨h1,r,h2⟩:=h l e;exact⟨s l h1,r,(k.keepFr l h1).trans h2⟩
def ExR:Exit->AEx->Prop
 |.normal,x=>x=.normal
 |.exit id,x=>x=.exit id
 |.ret,x=>x=.ret
 |_,_=>False
def Qan(h0:Nat)(fr ro:Nat->Prop)(σ:Sig)(w:World)(N:Nat)(ds:List Deferred)(Q:Qx):Exit->Act->World->Prop:=
 λe a' w'=>∃x env' H' ro' σ' fr',ExR e x/\Q x env' H'/\Rel fr' ro' σ' H' env' N a' w'/\Qi fr ro w ro' w'/\σ'.take h0=σ.take h0/\Grow fr w ds fr' a'.defers
theorem Qan.grow{i:Nat}{fr g ro f:Nat->Prop}{σ σ1:Sig}{w m:World}{N:Nat}{l d:List Deferred}{Q:Qx}{e:Exit}{a':Act}{w':World}
  (h:Qan i g f σ1 m N d Q e a' w')(he:Qi fr ro w f m)(r:σ1.take i=σ.take i)(hg:Grow fr w l g d):Qan i fr ro σ w N l Q e a' w':=by
 obtain⟨x,a,H',k,σ',j,s,u,q,p,n,t⟩:=h;exact⟨x,a,H',k,σ',j,s,u,q,he.trans (p.frMono hg.sub),n.trans r,hg.trans he.size t⟩
theorem Qan.step{h0:Nat}{fr ro ro1:Nat->Prop}{σ σ1:Sig}{w w1:World}{N:Nat}{ds:List Deferred}{Q:Qx}{e:Exit}{a':Act}{w':World}
  (h:Qan h0 fr ro1 σ1 w1 N ds Q e a' w')(he:Qi fr ro w ro1 w1)(hs:σ1.take h0=σ.take h0):Qan h0 fr ro σ w N ds Q e a' w':=h.grow he hs (Grow.refl _ _ _)
theorem Qan.mono{i:Nat}{fr ro:Nat->Prop}{σ:Sig}{w:World}{N:Nat}{g:List Deferred}{Q Q':Qx}{e:Exit}{a':Act}{w':World}
  (h:Qan i fr ro σ w N g Q e a' w')(k:∀x env H,Q x env H->Q' x env H):Qan i fr ro σ w N g Q' e a' w':=by
 obtain⟨x,a,H',f,σ',d,l,m,j⟩:=h;exact⟨x,a,H',f,σ',d,l,k _ _ _ m,j⟩
def Qa8(h0:Nat)(fr ro:Nat->Prop)(σ:Sig)(w:World)(N:Nat)(ds:List Deferred)(Q:Qx):Exit->Act->World->Prop:=
 λe a' w'=>∃x env' H' ro' σ' fr',ExR e x/\Q x env' H'/\Rel fr' ro' σ' H' env' N a' w'/\Qi fr ro w ro' w'/\σ'.take h0=σ.take h0/\a'.defers=ds/\Grow fr w ds fr' ds
theorem Qa8.grow{i:Nat}{fr f ro d:Nat->Prop}{σ σ1:Sig}{w l:World}{N:Nat}{g:List Deferred}{Q:Qx}{e:Exit}{a':Act}{w':World}
  (h:Qa8 i f d σ1 l N g Q e a' w')(he:Qi fr ro w d l)(q:σ1.take i=σ.take i)(hg:Grow fr w g f g):Qa8 i fr ro σ w N g Q e a' w':=by
 obtain⟨x,a,H',k,σ',j,s,u,p,n,m,t,r⟩:=h;exact⟨x,a,H',k,σ',j,s,u,p,he.trans (n.frMono hg.sub),m.trans q,t,hg.trans he.size r⟩
theorem Qa8.step{h0:Nat}{fr ro ro1:Nat->Prop}{σ σ1:Sig}{w w1:World}{N:Nat}{ds:List Deferred}{Q:Qx}{e:Exit}{a':Act}{w':World}
  (h:Qa8 h0 fr ro1 σ1 w1 N ds Q e a' w')(he:Qi fr ro w ro1 w1)(hs:σ1.take h0=σ.take h0):Qa8 h0 fr ro σ w N ds Q e a' w':=h.grow he hs (Grow.refl _ _ _)
theorem Qa8.mono{i:Nat}{fr ro:Nat->Prop}{σ:Sig}{w:World}{N:Nat}{g:List Deferred}{Q Q':Qx}{e:Exit}{a':Act}{w':World}
  (h:Qa8 i fr ro σ w N g Q e a' w')(k:∀x env H,Q x env H->Q' x env H):Qa8 i fr ro σ w N g Q' e a' w':=by
 obtain⟨x,a,H',f,σ',d,l,m,j⟩:=h;exact⟨x,a,H',f,σ',d,l,k _ _ _ m,j⟩
theorem Qa8.postW{i:Nat}{fr ro:Nat->Prop}{σ:Sig}{w:World}{N:Nat}{g:List Deferred}{Q:Qx}{e:Exit}{a':Act}{w':World}
  (h:Qa8 i fr ro σ w N g Q e a' w'):Qan i fr ro σ w N g Q e a' w':=by
 obtain⟨x,a,H',f,σ',d,m,n,l,k,j,q,p⟩:=h;exact⟨x,a,H',f,σ',d,m,n,l,k,j,by grind⟩
def WF(rd:Option Nat):Fence:={Fence.wide with round:=rd}
theorem WF.calls{rd:Option Nat}{P:Program}{f:FuncId}{args:Array Value}{w:World}{R:Ending->World->Prop}:CallsIn (WF rd) 0 P f args w R↔Calls P f args w R:=callsIn_wide
abbrev wpL(P:Program)(rd:Option Nat)(ops:Array Oper)(Q:Exit->Act->World->Prop):List Oper->Act->World->Prop:=wpListIn (WF rd) 0 P ops Q
def TC(P:Program)(h0 N:Nat)(c:Code)(env:Env)(H:Qc)(Q:Qx):Prop:=
 ∀rd fr ro σ a w,Rel fr ro σ H env N a w->Qco rd fr w->c.wpIn (WF rd) 0 P (Qan h0 fr ro σ w N a.defers Q) a w
def WO(P:Program)(h0 N:Nat)(all:Array Oper)(l:List Oper)(env:Env)(H:Qc)(Q:Qx):Prop:=
 ∀rd fr ro σ a w,Rel fr ro σ H env N a w->Qco rd fr w->wpL P rd all (Qa8 h0 fr ro σ w N a.defers Q) l a w
def Le(h0:Nat)(env:Env)(H:Qc)(env':Env)(H':Qc):Prop:=
 ∀fr ro σ N a w,Rel fr ro σ H env N a w->∃ro' σ',Rel fr ro' σ' H' env' N a w/\(∀b,ro b->ro' b)/\σ'.take h0=σ.take h0
theorem Le.refl(h0:Nat)(env:Env)(H:Qc):Le h0 env H env H:=λfr ro σ N a w h=>(by grind)
theorem Le.trans{d:Nat}{e1 e2 f:Env}{H1 H2 H3:Qc}(h:Le d e1 H1 e2 H2)(k:Le d e2 H2 f H3):Le d e1 H1 f H3:=by
 intro g l σ N a w r;obtain⟨e,σ1,i,n,s⟩:=h g l σ N a w r;obtain⟨j,σ2,q,m,p⟩:=k g e σ1 N a w i
 grind
theorem QS{fr ro ro':Nat->Prop}{w:World}(h:∀b,ro b->ro' b):Qi fr ro w ro' w:=
 ⟨h,λ_ _=>rfl,λ_ _=>rfl,XO _,λ_ _ h=>h,rfl,rfl,rfl,XO _⟩
theorem Q3{P:Program}{rd:Option Nat}{ops:Array Oper}{Q Q':Exit->Act->World->Prop}(hq:∀e a w,Q e a w->Q' e a w):
  ∀(l:List Oper) (a:Act) (w:World),wpL P rd ops Q l a w->wpL P rd ops Q' l a w
 |[],a,w,h=>hq _ _ _ h
 |o::l,a,w,h=>by
  unfold wpL wpListIn at h⊢;split
  .rename_i hw;rw[Vm hw]at h;obtain⟨h1,h2⟩:=h;refine⟨h1,?_⟩
   revert h2
   generalize(o.semAt (WF rd).round a.eval).run P w=r;intro h2;have hk:=λa w=>Q3 (P:=P) (rd:=rd) (ops:=ops) hq l a w;cases r with
   |ok x w=>
    cases x with
    |value v=>exact hk _ _ h2
    |skip=>exact hk _ _ h2
    |defer d=>exact hk _ _ h2
    |enter f args=>
     refine⟨h2.1,CallsIn.mono h2.2 ?_⟩;intro e w' q;cases e with
     |returned v=>grind
     |panicked c=>grind
     |outgrown=>obtain⟨a,w,q⟩:=q;exact⟨a,w,hq _ _ _ q⟩
    |row r args=>exact⟨h2.1,RowsIn.mono h2.2 λv w' q=>hk _ _ q⟩
    |round l f tmps assign body=>
     refine⟨h2.1,RoundIn.mono h2.2 ?_⟩;intro e w' q;cases e with
     |returned v=>grind
     |panicked c=>grind
     |outgrown=>obtain⟨a,w,q⟩:=q;exact⟨a,w,hq _ _ _ q⟩
    |_=>exact h2
   |halt x w=>
    cases x with
    |panic v=>exact hq _ _ _ h2
    |_=>exact h2
  .rename_i hw;rw[Vl hw]at h;exact⟨h.1,Q3 hq l _ _ h.2⟩
theorem QbT{P:Program}{o:Oper}{a:Act}{w w':World}{x:Next}{rd:Option Nat}(h:(execOp a.eval o).run P w=.ok x w')(g:∀d,x≠ .defer d):(o.semAt (WF rd).round a.eval).run P w=.ok x w':=by
 cases e:o.op with
 |defer c=>
  have:execOp a.eval o=(do pure (.defer (<- resolve a.eval c o.type))):=by simp[execOp,e]
  rw[this]at h;simp[Vg]at h;generalize(resolve a.eval c o.type).run P w=r at h;cases r with
  |ok d f=>simp[go_sem]at h;grind
  |halt x f=>simp_all
 |_=>grind[Oper.semAt_eq]
theorem YQ{P:Program}{rd:Option Nat}{ops:Array Oper}{Q:Exit->Act->World->Prop}{o:Oper}{l:List Oper}{a:Act}{w w':World}{v:Value}(f:Region.wanted o (yielded ops a.tmps)=true)
  (h:(execOp a.eval o).run P w=.ok (.value v) w')(k:wpL P rd ops Q l (a.put o.dst v) w'):wpL P rd ops Q (o::l) a w:=by
 unfold wpL wpListIn;rw[Vm f];exact⟨λ_ _=>trivial,by rw[QbT h (λd e=>by cases e)];exact k⟩
theorem QhE{P:Program}{rd:Option Nat}{ops:Array Oper}{Q:Exit->Act->World->Prop}{o:Oper}{l:List Oper}{a:Act}{w w':World}(f:Region.wanted o (yielded ops a.tmps)=true)
  (h:(execOp a.eval o).run P w=.ok .skip w')(k:wpL P rd ops Q l (a.put o.dst undef) w'):wpL P rd ops Q (o::l) a w:=by
 unfold wpL wpListIn;rw[Vm f];exact⟨λ_ _=>trivial,by rw[QbT h (λd e=>by cases e)];exact k⟩
theorem Qd1{P:Program}{rd:Option Nat}{ops:Array Oper}{Q:Exit->Act->World->Prop}{o:Oper}{l:List Oper}{a:Act}{w w':World}{f:FuncId}{args:Array Value}(g:Region.wanted o (yielded ops a.tmps)=true)
  (h:(execOp a.eval o).run P w=.ok (.enter f args) w')(k:Calls P f args w' λe w''=>∃v,e=.returned v/\wpL P rd ops Q l (a.put o.dst v) w''):wpL P rd ops Q (o::l) a w:=by
 unfold wpL wpListIn;rw[Vm g];refine⟨λ_ _=>trivial,?_⟩;rw[QbT h (λd e=>by cases e)];refine⟨λh=>by simp[WF,Fence.wide]at h,WF.calls.2 (Calls.mono k ?_)⟩
 grind
section
variable {P:Program} {h0 N:Nat} {env env':Env} {H H':Qc} {Q Q':Qx} {c c':Code}
theorem TC.mono(h:TC P h0 N c env H Q)(hq:∀x env H,Q x env H->Q' x env H):TC P h0 N c env H Q':=
 λrd fr ro σ a w r hrd=>Code.wpIn_mono (λe a w q=>q.mono hq) (h rd fr ro σ a w r hrd)
theorem Qn(d:Le h0 env H env' H')(h:TC P h0 N c env' H' Q):TC P h0 N c env H Q:=by
 intro j g k σ a w r hrd;obtain⟨f,σ',i,s,t⟩:=d g k σ N a w r;exact Code.wpIn_mono (λe a w q=>q.step (QS s) t) (h j g f σ' a w i hrd)
theorem Qp{all:Array Oper}{l:List Oper}(d:Le h0 env H env' H')(h:WO P h0 N all l env' H' Q):WO P h0 N all l env H Q:=by
 intro j g k σ a w r hrd;obtain⟨f,σ',i,s,t⟩:=d g k σ N a w r;exact Q3 (λe a w q=>q.step (QS s) t) _ _ _ (h j g f σ' a w i hrd)
theorem WO.mono{all:Array Oper}{l:List Oper}(h:WO P h0 N all l env H Q)(hq:∀x env H,Q x env H->Q' x env H):WO P h0 N all l env H Q':=
 λrd fr ro σ a w r hrd=>Q3 (λe a w q=>q.mono hq) _ _ _ (h rd fr ro σ a w r hrd)
def Seq(P:Program)(h0 N:Nat)(c:Code)(Q:Qx):Qx
 |.normal,env,H=>TC P h0 N c env H Q
 |.exit id,env,H=>Q (.exit id) env H
 |.ret,env,H=>Q .ret env H
def Blo(id:Nat)(Q:Qx):Qx
 |.normal,env,H=>Q .normal env H
 |.exit id',env,H=>bif Nat.beq id' id then Q .normal env H else Q (.exit id') env H
 |.ret,env,H=>Q .ret env H
theorem TC.seq(h:TC P h0 N c env H (Seq P h0 N c' Q)):TC P h0 N (.seq c c') env H Q:=by
 intro p y u σ a w r hrd;refine wpIn_seq (Code.wpIn_mono ?_ (h p y u σ a w r hrd));rintro e s t ⟨x,d,H',f,σ',g,j,n,m,i,l,k⟩;cases e with
 |normal=>
  obtain rfl:x=.normal:=j;exact Code.wpIn_mono (λe a w q=>q.grow i l k) (n p g f σ' s t m (hrd.to i k.sub))
 |exit id=>
  obtain rfl:x=.exit id:=j;exact⟨_,d,H',f,σ',g,rfl,n,m,i,l,k⟩
 |ret=>
  obtain rfl:x=.ret:=j;exact⟨_,d,H',f,σ',g,rfl,n,m,i,l,k⟩
 |_=>exact j.elim
theorem TC.skip(h:Q .normal env H):TC P h0 N .skip env H Q:=
 λrd fr ro σ a w r hrd=>wpIn_skip ⟨_,env,H,ro,σ,fr,rfl,h,r,Qi.refl _ _ _,rfl,Grow.refl _ _ _⟩
theorem TC.ret(h:Q .ret env H):TC P h0 N .ret env H Q:=
 λrd fr ro σ a w r hrd=>wpIn_ret ⟨_,env,H,ro,σ,fr,rfl,h,r,Qi.refl _ _ _,rfl,Grow.refl _ _ _⟩
theorem TC.exit{id:Nat}(h:Q (.exit id) env H):TC P h0 N (.exit id) env H Q:=
 λrd fr ro σ a w r hrd=>wpIn_exit ⟨_,env,H,ro,σ,fr,rfl,h,r,Qi.refl _ _ _,rfl,Grow.refl _ _ _⟩
theorem TC.block{id:Nat}(h:TC P h0 N c env H (Blo id Q)):TC P h0 N (.block id c) env H Q:=by
 intro s q t σ a w r hrd;refine wpIn_block (Code.wpIn_mono ?_ (h s q t σ a w r hrd));rintro e y u ⟨x,d,H',f,σ',g,n,j,m,l,k,p⟩;cases e with
 |normal=>
  obtain rfl:x=.normal:=n;exact⟨_,d,H',f,σ',g,rfl,j,m,l,k,p⟩
 |exit i=>
  obtain rfl:x=.exit i:=n;simp[Exit.inBlock];simp only[Blo]at j;by_cases e:i=id
  .subst e;rw[Vm rfl];rw[Vu]at j;exact⟨_,d,H',f,σ',g,rfl,j,m,l,k,p⟩
  .rw[Vl e];have:Nat.beq i id=false:=by
    simp_all[VB]
   rw[this]at j;exact⟨_,d,H',f,σ',g,rfl,j,m,l,k,p⟩
 |ret=>
  obtain rfl:x=.ret:=n;exact⟨_,d,H',f,σ',g,rfl,j,m,l,k,p⟩
 |_=>exact n.elim
def opA(env:Env):Operand->A
 |.tmp t=>lk env t
 |.const (.bool b)=>.bool b
 |.const (.int k n)=>.int k n
 |.const (.string s)=>.str s.data.toList
 |.const (.pointer none)=>.nilp
 |.const (.slice none 0 0)=>.nils
 |.const (.map none)=>.nilm
 |.const .nilFunc=>.nilf
 |.const .nilIface=>.nilif
 |.func f=>.fn (.func f) [] []
 |_=>.any
theorem Ql{fr ro:Nat->Prop}{σ:Sig}{a:Act}{w:World}(r:Rel fr ro σ H env N a w)(x:Operand):VR ro σ w (opA env x) (a.eval x):=by
 cases x with
 |tmp t=>exact r.env t
 |const v=>
  cases v with
  |slice a n k=>
   cases a with
   |none=>
    cases n with
    |zero=>cases k with
     |zero=>rfl
     |succ k=>trivial
    |succ n=>trivial
   |some a=>trivial
  |pointer p=>cases p with
   |none=>rfl
   |some p=>trivial
  |map p=>cases p with
   |none=>rfl
   |some p=>trivial
  |string s=>rfl
  |_=>simp_all[opA,VR,Act.eval]
 |global g=>trivial
 |func f=>exact⟨[],[],rfl,rfl,rfl⟩
theorem TC.cond{x:Operand}{t:Bool}(j:opA env x=.bool t)(k:t=true->TC P h0 N c env H Q)(i:t=false->TC P h0 N c' env H Q):
  TC P h0 N (.cond x c c') env H Q:=by
 intro f h g σ a w r hrd;have d:=Ql r x;rw[j]at d;exact wpIn_cond_split d (λe=>k e f h g σ a w r hrd) (λe=>i e f h g σ a w r hrd)
theorem Qh5{t:Array Value}{d s:Nat}{v:Value}(a:d<t.size):(t.setIfInBounds d v).getD s undef=if s=d then v else t.getD s undef:=by
 simp[Array.getD_eq_getD_getElem?]
 grind
theorem VR.up{fr ro:Nat->Prop}{σ:Sig}{a:Act}{w:World}(r:∀s,VR ro σ w (lk env s) (a.tmps.getD s undef)){d:Nat}(f:d<a.tmps.size){x:A}{v:Value}(g:VR ro σ w x v):
  ∀s,VR ro σ w (lk (up env d x) s) ((a.tmps.setIfInBounds d v).getD s undef):=by
 intro s;rw[Qh5 f];simp only[lk];by_cases e:s=d
 .simp_all
 .have:Nat.beq s d=false:=by
   simp_all[VB]
  grind
def Qs(all:Array Oper)(o:Oper)(env:Env)(b:Bool):Prop:=
 match o.guard with
 |none=>b=true
 |some (j,c)=>∃d,(all[j]?).bind (·.dst)=some d/\((∃x,lk env d=.bool x/\b=(x==c))\/(lk env d=.tup []/\b=false))
theorem Yp{all:Array Oper}{o:Oper}{b:Bool}(h:Qs all o env b){fr ro:Nat->Prop}{σ:Sig}{a:Act}{w:World}(r:Rel fr ro σ H env N a w):
  Region.wanted o (yielded all a.tmps)=b:=by
 unfold Qs at h;unfold Region.wanted;cases j:o.guard with
 |none=>grind
 |some g=>
  rw[j]at h;obtain⟨d,k,⟨x,f,i⟩|⟨f,i⟩⟩:=h
  .have e:=r.env d;rw[f]at e;simp only[VR]at e;have m:a.tmps[d]?=some (.bool x):=by
    rw[Array.getD_eq_getD_getElem?]at e
    grind[undef]
   simp_all[yielded]
  .have e:=r.env d;rw[f]at e;obtain⟨l,e,n⟩:=e;rw[Array.getD_eq_getD_getElem?]at e;simp[yielded,k]
   grind
def OpV(P:Program)(o:Oper)(env:Env)(H:Qc)(x:A):Prop:=
 ∀fr ro σ N a w,Rel fr ro σ H env N a w->∃v,(execOp a.eval o).run P w=.ok (.value v) w/\VR ro σ w x v
def OpH(P:Program)(o:Oper)(env:Env)(H:Qc)(x:A)(H':Qc):Prop:=
 ∀fr ro σ N a w,Rel fr ro σ H env N a w->∃v w' ro' τ,(execOp a.eval o).run P w=.ok (.value v) w'/\VR ro' (σ++τ) w' x v/\
  Sim fr ro' (σ++τ) H' w'/\Qi fr ro w ro' w'
def OpU(P:Program)(o:Oper)(env:Env)(H:Qc)(H':Qc):Prop:=
 ∀fr ro σ N a w,Rel fr ro σ H env N a w->∃w' ro' τ,(execOp a.eval o).run P w=.ok .skip w'/\
  Sim fr ro' (σ++τ) H' w'/\Qi fr ro w ro' w'
theorem WO.nil{all:Array Oper}(h:Q .normal env H):WO P h0 N all [] env H Q:=
 λrd fr ro σ a w r hrd=>⟨_,env,H,ro,σ,fr,rfl,h,r,Qi.refl _ _ _,rfl,rfl,Grow.refl _ _ _⟩
theorem QB{σ τ:Sig}{a:Nat}(h:a<=σ.length):(σ++τ).take a=σ.take a:=by
 grind
theorem Qf2{all:Array Oper}{o:Oper}{l:List Oper}{d:Nat}{x:A}(p:h0<=H.length)(hg:Qs all o env true)(m:o.dst=some d)(E:Nat.blt d N=true)
  (h:OpH P o env H x H')(k:WO P h0 N all l (up env d x) H' Q):WO P h0 N all (o::l) env H Q:=by
 intro u fr y σ a w r hrd;obtain⟨v,j,f,τ,z,B,n,g⟩:=h fr y σ N a w r;refine YQ (Yp hg r) z ?_;simp[m];have i:d<N:=by simp_all
 have t:Rel fr f (σ++τ) H' (up env d x) N {a with tmps:=a.tmps.setIfInBounds d v} j:=
  ⟨n,VR.up (fr:=fr) (λs=>(r.env s).mono (g.ext σ τ)) (by rw[r.size];exact i) B,by simpa using r.size,r.defers.keep g⟩
 refine Q3 (λe a w q=>q.step g (QB ?_)) _ _ _ (k u fr f (σ++τ) _ j t (hrd.to g λ_ q=>q));rw[r.sim.len];exact p
theorem Yr{all:Array Oper}{o:Oper}{l:List Oper}{d:Nat}{x:A}(hg:Qs all o env true)(h:o.dst=some d)(n:Nat.blt d N=true)
  (e:OpV P o env H x)(k:WO P h0 N all l (up env d x) H Q):WO P h0 N all (o::l) env H Q:=by
 intro i fr g σ a w r hrd;obtain⟨v,j,m⟩:=e fr g σ N a w r;refine YQ (Yp hg r) j ?_;simp[h];have f:d<N:=by simp_all
 exact k i fr g σ {a with tmps:=a.tmps.setIfInBounds d v} w ⟨r.sim,VR.up (fr:=fr) r.env (by rw[r.size];exact f) m,by simpa using r.size,r.defers⟩ hrd
theorem Qiq{all:Array Oper}{o:Oper}{l:List Oper}(n:h0<=H.length)(hg:Qs all o env true)(j:o.dst=none)
  (g:OpU P o env H H')(k:WO P h0 N all l env H' Q):WO P h0 N all (o::l) env H Q:=by
 intro t h u σ a w r hrd;obtain⟨i,d,τ,x,m,f⟩:=g h u σ N a w r;refine QhE (Yp hg r) x ?_;simp[j];have p:Rel h d (σ++τ) H' env N a i:=⟨m,λs=>(r.env s).mono (f.ext σ τ),r.size,r.defers.keep f⟩;refine Q3 (λe a w q=>q.step f (QB ?_)) _ _ _ (k t h d (σ++τ) _ i p (hrd.to f λ_ q=>q));rw[r.sim.len];exact n
theorem Qj6{all:Array Oper}{o:Oper}{l:List Oper}{x:A}(n:h0<=H.length)(hg:Qs all o env true)(j:o.dst=none)
  (h:OpH P o env H x H')(k:WO P h0 N all l env H' Q):WO P h0 N all (o::l) env H Q:=by
 intro t g u σ a w r hrd;obtain⟨v,i,d,τ,y,z,m,f⟩:=h g u σ N a w r;refine YQ (Yp hg r) y ?_;simp[j];have p:Rel g d (σ++τ) H' env N a i:=⟨m,λs=>(r.env s).mono (f.ext σ τ),r.size,r.defers.keep f⟩;refine Q3 (λe a w q=>q.step f (QB ?_)) _ _ _ (k t g d (σ++τ) _ i p (hrd.to f λ_ q=>q));rw[r.sim.len];exact n
theorem WO.skip{all:Array Oper}{o:Oper}{l:List Oper}{d:Nat}(hg:Qs all o env false)(f:o.dst=some d)(i:Nat.blt d N=true)
  (k:WO P h0 N all l (up env d (.tup [])) H Q):WO P h0 N all (o::l) env H Q:=by
 intro g fr h σ a w r hrd;unfold wpL wpListIn;rw[Yp hg r,Vl (by simp)];refine⟨λ_ _=>trivial,?_⟩;simp[f];have e:d<N:=by simp_all
 exact k g fr h σ {a with tmps:=a.tmps.setIfInBounds d undef} w ⟨r.sim,VR.up (fr:=fr) r.env (by rw[r.size];exact e) ⟨[],rfl,rfl⟩,by simpa using r.size,r.defers⟩ hrd
theorem TC.region{id:Nat}{l:List Oper}(h:WO P h0 N l.toArray l env H Q):TC P h0 N (.region id l.toArray false) env H Q:=
 λrd fr ro σ a w r hrd=>Code.wpIn_mono (λe a w q=>q.postW) (wpIn_region_lit (h rd fr ro σ a w r hrd))
end
mutual
def Yz(ρ:Nat->Nat):A->A
 |.ptr i off=>.ptr (ρ i) off
 |.osl i o n k=>.osl (ρ i) o n k
 |.agg cs=>.agg (Qag ρ cs)
 |.fn f a c=>.fn f (Qag ρ a) (Qag ρ c)
 |.iface t v=>.iface t (Yz ρ v)
 |.map i=>.map (ρ i)
 |.tup vs=>.tup (Qag ρ vs)
 |a=>a
def Qag(ρ:Nat->Nat):List A->List A
 |[]=>[]
 |a::r=>Yz ρ a::Qag ρ r
end
def Qe8(ρ:Nat->Nat):List (List A)->List (List A)
 |[]=>[]
 |a::r=>Qag ρ a::Qe8 ρ r
def renP(ρ:Nat->Nat):List (A×A)->List (A×A)
 |[]=>[]
 |a::r=>(Yz ρ a.1,Yz ρ a.2)::renP ρ r
def QM(ρ:Nat->Nat):Blk->Blk
 |.cells t cs=>.cells t (Qag ρ cs)
 |.rowr t k es=>.rowr t k (Qe8 ρ es)
 |.ents t b1 b2 es=>.ents t (ρ b1) (ρ b2) es
 |.wins t b n c=>.wins t (ρ b) n c
 |.mapP es=>.mapP (renP ρ es)
 |b=>b
theorem Qd6(ρ:Nat->Nat)(b1 b2:Nat):∀(es:List Ent),Qe8 ρ (es.map (eC b1 b2))=es.map (eC (ρ b1) (ρ b2))
 |[]=>rfl
 |e::es=>by
  have:=Qd6 ρ b1 b2 es;simp only[Vd,Qe8,this];congr 1;cases h:e.fl<;>simp[eC,Qag,Yz,h]
theorem QgT(ρ:Nat->Nat)(b n c:Nat):Qe8 ρ (winL b n c)=winL (ρ b) n c:=by
 unfold winL
 induction List.range c with
 |nil=>rfl
 |cons j l a=>simp only[Vd,Qe8,a];rfl
theorem Qz(ρ:Nat->Nat)(x:Blk):(QM ρ x).live=x.live:=by cases x<;>rfl
theorem Qah(ρ:Nat->Nat)(x:Blk)(w:World)(b c:Nat):Hid w (QM ρ x) b c↔Hid w x b c:=by cases x<;>exact Iff.rfl
section
variable {ro:Nat->Prop} {σ σ':Sig} {w:World} {ρ:Nat->Nat} (h:∀i:Nat,σ[ρ i]?=σ'[i]?)
include h
mutual
theorem Qcm:∀{a:A} {v:Value},VR ro σ w (Yz ρ a) v↔VR ro σ' w a v
 |.any,_=>by simp only[Yz,VR]
 |.bool b,v=>by simp only[Yz,VR]
 |.int k n,v=>by simp only[Yz,VR]
 |.str s,v=>by simp only[Yz,VR]
 |.nilp,v=>by simp only[Yz,VR]
 |.ptr i off,v=>by simp only[Yz,VR,h]
 |.rp cs,v=>by simp only[Yz,VR]
 |.nils,v=>by simp only[Yz,VR]
 |.rsl k es,v=>by simp only[Yz,VR]
 |.osl i o n k,v=>by simp only[Yz,VR,h]
 |.agg cs,v=>by simp only[Yz,VR];exact exists_congr λl=>and_congr_right λ_=>QaZ
 |.fn f a c,v=>by simp only[Yz,VR];exact exists_congr λl=>exists_congr λl'=>and_congr_right λ_=>and_congr QaZ QaZ
 |.nilf,v=>by simp only[Yz,VR]
 |.iface t a,v=>by simp only[Yz,VR];exact exists_congr λl=>and_congr_right λ_=>Qcm
 |.nilif,v=>by simp only[Yz,VR]
 |.map i,v=>by simp only[Yz,VR,h]
 |.nilm,v=>by simp only[Yz,VR]
 |.tup vs,v=>by simp only[Yz,VR];exact exists_congr λl=>and_congr_right λ_=>QaZ
theorem QaZ:∀{az:List A} {l:List Value},LR ro σ w (Qag ρ az) l↔LR ro σ' w az l
 |[],l=>by simp only[Qag,LR]
 |a::r,l=>by
  simp only[Qag,LR];exact exists_congr λv=>exists_congr λl'=>and_congr_right λ_=>and_congr Qcm QaZ
end
theorem Qcx:∀(cs:List A),(Qag ρ cs).length=cs.length
 |[]=>rfl
 |a::r=>by simp[Qag,Qcx r]
theorem QeL{k:Nat}:∀{es:List (List A)} {l:List Value},RL ro σ w k (Qe8 ρ es) l↔RL ro σ' w k es l
 |[],l=>by rfl
 |a::r,l=>by
  simp only[Qe8,RL,Qcx h];exact exists_congr λl1=>exists_congr λl2=>and_congr_right λ_=>and_congr_right λ_=>and_congr (and_congr_left λ_=>QaZ h) QeL
theorem QiJ:∀{es:List (A×A)} {l:List MapEntry},ER ro σ w (renP ρ es) l↔ER ro σ' w es l
 |[],l=>by rfl
 |a::r,l=>by
  simp only[renP,ER];exact exists_congr λe=>exists_congr λl'=>and_congr_right λ_=>and_congr (Qcm h) (and_congr (Qcm h) QiJ)
theorem Qe1{x:Blk}{s:Option Nat}:BR ro σ w (QM ρ x) s↔BR ro σ' w x s:=by
 cases x with
 |cells t g=>
  cases s with
  |none=>exact Iff.rfl
  |some b=>simp only[QM,BR];exact exists_congr λl=>and_congr_right λ_=>and_congr_left λ_=>QaZ h
 |rowr t k a=>
  cases s with
  |none=>exact Iff.rfl
  |some b=>simp only[QM,BR];exact exists_congr λl=>and_congr_right λ_=>QeL h
 |mapP a=>
  cases s with
  |none=>exact Iff.rfl
  |some b=>simp only[QM,BR];exact exists_congr λl=>exists_congr λc=>and_congr_right λ_=>and_congr_left λ_=>QiJ h
 |wins t b n c=>
  cases s with
  |none=>exact Iff.rfl
  |some d=>
   simp only[QM,BR];refine exists_congr λl=>and_congr_right λ_=>?_;rw[<- QgT];exact QeL h
 |ents t f e a=>
  cases s with
  |none=>exact Iff.rfl
  |some b=>
   simp only[QM,BR];refine exists_congr λl=>and_congr_right λ_=>?_;rw[<- Qd6];exact QeL h
 |_=>cases s<;>exact Iff.rfl
end
def C(P:Program)(f:FuncId)(args:List A)(H:Qc)(Q:A->Qc->Prop):Prop:=
 ∀fr ro σ vals w,Sim fr ro σ H w->LR ro σ w args vals->Calls P f vals.toArray w λe w'=>
  ∃v r H' ro' τ,e=.returned v/\Q r H'/\Sim fr ro' (σ++τ) H' w'/\VR ro' (σ++τ) w' r v/\Qi fr ro w ro' w'
theorem C.mono{P:Program}{f:FuncId}{args:List A}{H:Qc}{Q Q':A->Qc->Prop}(h:C P f args H Q)(hq:∀r H,Q r H->Q' r H):C P f args H Q':=
 λfr ro σ vals w s l=>(h fr ro σ vals w s l).mono (by grind)
def Qa5:Nat->List A->Env
 |_,[]=>[]
 |i,a::r=>(i,a)::Qa5 (i+1) r
theorem Qbi{ro:Nat->Prop}{σ:Sig}{w:World}:∀{args:List A} {vals:List Value} {i:Nat} (pre:List Value),pre.length=i->LR ro σ w args vals->∀rest:Array Value,
  ∀s,VR ro σ w (lk (Qa5 i args) s) (((pre++vals).toArray++rest).getD s undef)
 |[],vals,i,pre,hp,hl,rest,s=>trivial
 |a::r,vals,i,pre,hp,hl,rest,s=>by
  simp only[LR]at hl;obtain⟨v,l',rfl,h1,h2⟩:=hl;simp only[Qa5,lk];by_cases e:s=i
  .simp_all[Array.getElem?_append]
  .have:Nat.beq s i=false:=by
    simp_all[VB]
   rw[this];have:=Qbi (i:=i+1) (pre++[v]) (by simp[hp]) h2 rest s
   grind
def Qa7(P:Program)(fn:Func)(env:Env)(H:Qc)(r:A):Prop:=
 ∀fr ro σ N a w,Rel fr ro σ H env N a w->∃v,(results fn a.tmps).run P w=.ok v w/\VR ro σ w r v
def YM(P:Program)(h0:Nat)(fn:Func)(Q:A->Qc->Prop):Qx
 |.normal,env,H=>∃env' H' r,Le h0 env H env' H'/\Qa7 P fn env' H' r/\Q r H'
 |.ret,env,H=>∃env' H' r,Le h0 env H env' H'/\Qa7 P fn env' H' r/\Q r H'
 |.exit _,_,_=>False
theorem LR.length{ro:Nat->Prop}{σ:Sig}{w:World}:∀{az:List A} {l:List Value},LR ro σ w az l->l.length=az.length
 |[],l,h=>by simp only[LR]at h;simp[h]
 |a::r,l,h=>by
  simp only[LR]at h;obtain⟨v,l',rfl,_,h2⟩:=h;simp[h2.length]
theorem Sim.turn{fr ro:Nat->Prop}{σ:Sig}{H:Qc}{w:World}(s:Sim fr ro σ H w){b:Nat}{obj:Obj}(u:¬ro b)(t:¬fr b)(z:∀(i:Nat) (x:Blk),σ[i]?=some (some b)->H[i]?=some x->x.live=true->False)
  (k:∀(i d:Nat) (x:Blk),σ[i]?=some (some d)->H[i]?=some x->Hid w x d b->False)
  (n:∀y,w.shape? b=some y->(w.putObj b obj).shape? b=some y):Sim fr ro σ H (w.putObj b obj)/\Qi fr ro w ro (w.putObj b obj):=by
 have m:∀c,c≠b->(w.putObj b obj).heap[c]?=w.heap[c]? :=λc p=>World.putObj_heap_other p;have a:(w.putObj b obj).heap.size=w.heap.size:=by simp
 have ev:Qi fr ro w ro (w.putObj b obj):=by
  refine⟨λ_ q=>q,(by grind),(by grind),by omega,λc x q=>?_,rfl,rfl,rfl,XO _⟩
  grind[World.shape?]
 have e:Ext ro σ w ro σ (w.putObj b obj):=by have:=ev.ext σ [];grind
 refine⟨⟨s.len,s.roOk.to (λ_ q=>q) ev.keepRo (λc q=>by rw[a];exact s.roLt c q),λc q=>by rw[a];exact s.frLt c q,s.roFr,λi c x f g r=>?_,s.inj,λi y x f g=>?_,
  s.hidTo (· = ·) QX (by omega) (by simp) (by simp) λj d y h l E=>.inl ⟨j,y,rfl,h,l,id,λc q=>s.hidKeep h l (by grind) ev.keepRo q⟩⟩,ev⟩
 .obtain⟨G,F,B⟩:=s.own i c x f g r
  grind
 .refine(s.blk i y x f g).keep e ?_ ?_
  .grind
  grind
theorem YW{P:Program}{fn:Func}{tmps:Array Value}{R:Ending->World->Prop}{fr ro:Nat->Prop}{σ:Sig}{H:Qc}:
  ∀(ds:List Deferred) (w:World),ds.Nodup->(∀d∈ds,∃D,d={target:=.collected D,args:= #[]}/\ ¬ro D/\ ¬fr D/\(∀(i:Nat) (x:Blk),σ[i]?=some (some D)->H[i]?=some x->x.live=true->False)/\(∀(i d:Nat) (x:Blk),σ[i]?=some (some d)->H[i]?=some x->Hid w x d D->False)/\w.heap[D]?=some (.deferred (some [])))->
  Sim fr ro σ H w->(∀w',Sim fr ro σ H w'->Qi fr ro w ro w'->∃v,(results fn tmps).run P w'=.ok v w'/\R (.returned v) w')->LeavesInM Fence.wide 0 P fn tmps R ds .returning w
 |[],w,_,_,s,hk=>by
  obtain⟨v,h1,h2⟩:=hk w s (Qi.refl _ _ _);exact⟨v,h1,h2⟩
 |d::ds,w,hn,hd,s,hk=>by
  obtain⟨D,rfl,h1,h2,h3,h5,h4⟩:=hd d (by simp);obtain⟨n1,n2⟩:=List.nodup_cons.1 hn;obtain⟨s',ev⟩:=s.turn (obj:=.deferred none) h1 h2 h3 h5 (λy q=>by grind[World.shape?]);refine⟨(by simp),.inl ⟨D,_,rfl,run_takeDeferred h4,?_⟩⟩;refine YW ds _ n2 (λd' q=>?_) s' (λw' q1 q2=>hk w' q1 (ev.trans q2));obtain⟨D',rfl,g1,g2,g3,g5,g4⟩:=hd d' (by simp[q]);refine⟨D',rfl,g1,g2,g3,λi d x z1 z2 z3=>g5 i d x z1 z2 (s.hidKeep z1 z2 (λz=>World.putObj_heap_other (by grind)) (λb q=>World.putObj_heap_other (λe:b=D=>h1 (e▸q))) z3),(World.putObj_heap_other (λe=>?_)).trans g4⟩
  grind
theorem YJ{P:Program}{f:FuncId}{fn:Func}{c:Code}{N:Nat}{args:List A}{H:Qc}{Q:A->Qc->Prop}
  (hf:P.funcs[f]?=some fn)(hb:fn.body=some c)(hN:fn.ntmps=N)(hA:Nat.ble args.length N=true)
  (h:TC P H.length N c (Qa5 0 args) H (YM P H.length fn Q)):C P f args H Q:=by
 intro fr ro σ vals w hs hl;have X:=hl.length;have aa:args.length<=N:=by simp_all
 refine(callsIn_wide (n:=0)).1 (callsIn_of_wp_marks hf hb trivial (Code.wpIn_mono ?_ (h none fr ro σ _ w ⟨hs,?_,?_,List.nodup_nil,λd l=>by cases l⟩ Qav)))
 .rintro e m k ⟨x,t,H1,M,σ1,O,z,T,h3,h4,h5,E⟩;have u:(∃j H' r,Le H.length t H1 j H'/\Qa7 P fn j H' r/\Q r H')->LeavesInM Fence.wide 0 P fn m.tmps (λe k=>
    ∃v' r H' a τ,e=.returned v'/\Q r H'/\Sim fr a (σ++τ) H' k/\VR a (σ++τ) k r v'/\Qi fr ro w a k) m.defers .returning k:=by
   rintro⟨j,H',r,G,hr,hq⟩;obtain⟨a,σ',g,p,ht⟩:=G O M σ1 N m k h3;have hσ:σ'=σ++σ'.drop H.length:=by
    have W:σ'.take H.length=σ:=by rw[ht,h5,Vx (by rw[hs.len];omega)]
    grind[List.take_append_drop]
   have s1:Sim fr a σ' H' k:=g.sim.frMono E.sub;refine YW (ro:=a) (fr:=fr) (σ:=σ') (H:=H') m.defers k g.defers.1 (λd l=>?_) s1 (λY s2 y=>?_)
   .obtain⟨D,rfl,_⟩:=(E.ds d l).resolve_left (by simp);obtain⟨J,g2⟩:=g.defers.mark l;refine⟨D,rfl,λq=>g.sim.roFr D q J,λq=>?_,λi x L R F=>(g.sim.own i D x L R F).2.2 J,λi d x L R F=>(g.sim.hid i d x D L R F).fr J,g2⟩;rcases E.ds _ l with V|⟨D',e,V⟩
    .cases V
    .have:D=D':=by simpa using e
     subst this;have:=hs.frLt D q;omega
   .have B:Rel fr a σ' H' j N {m with defers:=[]} Y:=⟨s2,λs=>(g.env s).mono (by have:=y.ext σ' [];grind),g.size,List.nodup_nil,λd l=>by cases l⟩;obtain⟨v,W,e2⟩:=hr fr a σ' N _ Y B;exact⟨v,W,v,r,H',a,σ'.drop H.length,rfl,hq,hσ▸s2,hσ▸e2,(h4.trans (QS p)).trans y⟩
  cases e with
  |normal=>
   obtain rfl:x=.normal:=z;exact u T
  |ret=>
   obtain rfl:x=.ret:=z;exact u T
  |exit id=>
   obtain rfl:x=.exit id:=z;exact T.elim
  |_=>exact z.elim
 .intro s;have:=Qbi (i:=0) [] rfl hl (Array.replicate (fn.ntmps-vals.toArray.size) undef) s
  grind
 grind
section
variable {P:Program} {fn:Func} {env:Env} {H:Qc}
theorem Qa7.nil(h:fn.results= #[]):Qa7 P fn env H (.tup []):=
 λfr ro σ N a w r=>⟨.tuple #[],by simp[results,h,go_sem],[],rfl,rfl⟩
theorem Qa7.one{t:Nat}{x:A}(h:fn.results= #[.tmp t])(hx:lk env t=x):Qa7 P fn env H x:=
 λfr ro σ N a w r=>⟨a.tmps.getD t undef,by simp[results,h,go_sem],hx▸r.env t⟩
theorem Qhh{t u:Nat}{x y:A}(h:fn.results= #[.tmp t,.tmp u])(hx:lk env t=x)(hy:lk env u=y):Qa7 P fn env H (.tup [x,y]):=
 λfr ro σ N a w r=>⟨.tuple #[a.tmps.getD t undef,a.tmps.getD u undef],by simp[results,h,go_sem],
  [_,_],rfl,_,_,rfl,hx▸r.env t,_,_,rfl,hy▸r.env u,rfl⟩
theorem Qfy{t u v:Nat}{x y z:A}(h:fn.results= #[.tmp t,.tmp u,.tmp v])(hx:lk env t=x)(hy:lk env u=y)(hz:lk env v=z):
  Qa7 P fn env H (.tup [x,y,z]):=
 λfr ro σ N a w r=>⟨.tuple #[a.tmps.getD t undef,a.tmps.getD u undef,a.tmps.getD v undef],by simp[results,h,go_sem],
  [_,_,_],rfl,_,_,rfl,hx▸r.env t,_,_,rfl,hy▸r.env u,_,_,rfl,hz▸r.env v,rfl⟩
end
inductive Ctl (S B:Type) where
 |cont (s:S)
 |done (b:B)
 deriving DecidableEq
def iter{S B:Type}(step:S->Option (Ctl S B)):Nat->S->Option B
 |0,_=>none
 |n+1,s=>match step s with
  |some (.cont s')=>iter step n s'
  |some (.done b)=>some b
  |none=>none
def QaP{S B:Type}(I:S->Env->Qc->Prop)(d:Ctl S B)(Q:Qx):Qx
 |.normal,env,H=>∃s,d=.cont s/\I s env H
 |.exit id,env,H=>(∃b,d=.done b)/\Q (.exit id) env H
 |.ret,env,H=>(∃b,d=.done b)/\Q .ret env H
theorem Qix{P:Program}{h0 N:Nat}{c:Code}{S B:Type}{step:S->Option (Ctl S B)}{I:S->Env->Qc->Prop}{Q:Qx}{z:B}
  (body:∀s d env H,I s env H->step s=some d->(∀b,d=.done b->b=z)->TC P h0 N c env H (QaP I d Q))
  {m:Nat}{G:S}(h:iter step m G=some z){env:Env}{H:Qc}(M:I G env H):TC P h0 N (.loop c) env H Q:=by
 intro V n F σ a w r hrd b k cs hro hb hr;have O:∀m s env H fr1 ro1 σ1 a1 w1,iter step m s=some z->I s env H->Rel fr1 ro1 σ1 H env N a1 w1->Qi n F w ro1 w1->σ1.take h0=σ.take h0->Grow n w a.defers fr1 a1.defers->
   ∃e j i,Qan h0 n F σ w N a.defers Q e j i/\ArrivesIn (Machine.fenced P (WF V)) P (lone (b.atR a1 (.code c::.inLoop c::k)) cs w1) b k cs e j i:=by
  intro m
  induction m with
  |zero=>grind[iter]
  |succ m ih=>
   intro s env H fr1 ro1 σ1 a1 w1 hit M r1 ev1 t1 g1;simp only[iter]at hit;cases X:step s with
   |none=>grind
   |some d=>
    rw[X]at hit;have hd:∀b,d=.done b->b=z:=by
     grind
    obtain⟨e,j,i,J,f⟩:=body s d env H M X hd V fr1 ro1 σ1 a1 w1 r1 (hrd.to ev1 g1.sub) b (.inLoop c::k) cs hro hb hr;obtain⟨x,g,H',p,σ',u,E,y,T,q4,W,q6⟩:=J;have t:=ev1.trans (q4.frMono g1.sub);have Y:=g1.trans ev1.size q6;have R:∀x,Q x g H'->ExR e x->Qan h0 n F σ w N a.defers Q e j i:=λx q q'=>⟨x,g,H',p,σ',u,q',q,T,t,W.trans t1,Y⟩;cases e with
    |normal=>
     obtain rfl:x=.normal:=E;obtain⟨s',rfl,y⟩:=y;obtain⟨e2,a2,w2,L,l⟩:=ih s' g H' u p σ' j i hit y T t (W.trans t1) Y;exact⟨e2,a2,w2,L,.of_steps (StepsIn.trans f (.one (fenced_calm hb hr rfl) stepR_inLoop)) l⟩
    |exit id=>
     obtain rfl:x=.exit id:=E;exact⟨_,j,i,R _ y.2 rfl,.pass (x:=.inLoop c) rfl (by simp) f⟩
    |ret=>
     obtain rfl:x=.ret:=E;exact⟨_,j,i,R _ y.2 rfl,.pass (x:=.inLoop c) rfl (by simp) f⟩
    |_=>exact E.elim
 obtain⟨e,j,i,J,f⟩:=O m G env H n F σ a w h M r (Qi.refl _ _ _) rfl (Grow.refl _ _ _);exact⟨e,j,i,J,.of_steps (.one (fenced_calm hb hr rfl) stepR_loop) f⟩
theorem TC.loop{P:Program}{h0 N:Nat}{c:Code}{S B:Type}{step:S->Option (Ctl S B)}(E:S->Env)(Hp:S->Qc){Q:Qx}
  {m:Nat}{s0:S}{b0:B}(h:iter step m s0=some b0){env:Env}{H:Qc}(hI:Le h0 env H (E s0) (Hp s0))
  (body:∀s d,step s=some d->(∀b,d=.done b->b=b0)->TC P h0 N c (E s) (Hp s) (QaP (λs env H=>Le h0 env H (E s) (Hp s)) d Q)):TC P h0 N (.loop c) env H Q:=
 Qix (I:=λs env H=>Le h0 env H (E s) (Hp s)) (λs d env H hI hs hd=>Qn hI (body s d hs hd)) h hI
def rho(π:List Nat)(n i:Nat):Nat:=
 match π[i]? with
 |some p=>p
 |none=>n+(i-π.length)
def QL:Qc->List Nat->List Blk->Qc
 |H,[],xs=>H++xs
 |H,p::π,x::xs=>QL (H.set p x) π xs
 |H,_::_,[]=>H
theorem Qby:∀(π:List Nat) (H:Qc) (xs:List Blk),π.length<=xs.length->(QL H π xs).length=H.length+(xs.length-π.length)
 |[],H,xs,_=>by simp[QL]
 |p::π,H,[],h=>by simp at h
 |p::π,H,x::xs,h=>by
  simp[XV]at h;simp only[QL,Qby π (H.set p x) xs (by omega),XY,XV];omega
theorem QbF:∀(π:List Nat) (H:Qc) (xs:List Blk) (i:Nat),i<H.length->i∉π->(QL H π xs)[i]?=H[i]?
 |[],H,xs,i,hi,_=>by simp[QL,XH hi]
 |p::π,H,[],i,hi,h=>by simp[QL]
 |p::π,H,x::xs,i,hi,h=>by
  simp[X0,not_or]at h;simp[QL];rw[QbF π (H.set p x) xs i (by grind) h.2,XK (λe=>h.1 e.symm)]
theorem Qdb:∀(π:List Nat) (H:Qc) (xs:List Blk) (j:Nat),π.length<=xs.length->(∀p∈π,p<H.length)->π.Nodup->
  (QL H π xs)[rho π H.length j]?=xs[j]?
 |[],H,xs,j,_,_,_=>by
  simp_all[QL,rho,XI]
 |p::π,H,[],j,h,_,_=>by simp at h
 |p::π,H,x::xs,j,h,hp,hn=>by
  simp[XV]at h;have hn':=List.nodup_cons.1 hn;simp[QL];cases j with
  |zero=>
   grind[rho,QbF]
  |succ j=>
   have ih:=Qdb π (H.set p x) xs j (by omega) (λq hq=>by grind) hn'.2;have e:rho (p::π) H.length (j+1)=rho π H.length j:=by
    simp only[rho,XV];simp
   grind
theorem QgS(π:List Nat)(n i:Nat)(hi:n<=i\/i∈π):∃j,i=rho π n j:=by
 rcases hi with hi|hi
 .refine⟨π.length+(i-n),?_⟩
  grind[rho]
 .obtain⟨j,a,rfl⟩:=List.mem_iff_getElem.1 hi;exact⟨j,by simp[rho,XF a]⟩
def Q4(σ:Sig)(π:List Nat):Sig:=π.map λp=>(σ[p]?).getD none
theorem QcQ{σ τ:Sig}{π:List Nat}{n:Nat}(d:σ.length=n)(a:∀p∈π,p<n)(j:Nat):(σ++τ)[rho π n j]?=(Q4 σ π++τ)[j]? :=by
 rcases(by omega)with h|h
 .grind[rho,Q4]
 grind[rho,Q4]
def OpC(P:Program)(o:Oper)(env:Env)(H:Qc)(f:FuncId)(args:List A):Prop:=
 ∀fr ro σ N a w,Rel fr ro σ H env N a w->∃vals:List Value,(execOp a.eval o).run P w=.ok (.enter f vals.toArray) w/\LR ro σ w args vals
theorem YK{π:List Nat}{H:Qc}{Hc:List Blk}(a:π.map (λp=>H[p]?)=Hc.map some){p:Nat}(d:p∈π):p<H.length:=by
 grind[List.mem_map_of_mem]
theorem WO.call{P:Program}{h0 N:Nat}{all:Array Oper}{o:Oper}{l:List Oper}{env:Env}{H:Qc}{Q:Qx}{d:Option Nat}{f:FuncId}
  {args aa:List A}{Hc:Qc}{Qr:A->Qc->Prop}(π:List Nat)(hh:h0<=H.length)(hg:Qs all o env true)(hd:o.dst=d)(hN:∀x,d=some x->x<N)
  (an:OpC P o env H f args)(hargs:args=Qag (rho π H.length) aa)(hH:π.map (λp=>H[p]?)=(Hc.map (QM (rho π H.length))).map some)(hπ:π.Nodup)
  (hC:C P f aa Hc Qr)
  (k:∀r H1,Qr r H1->WO P h0 N all l (match d with|some d=>up env d (Yz (rho π H.length) r)|none=>env) (QL H π (H1.map (QM (rho π H.length)))) Q):
  WO P h0 N all (o::l) env H Q:=by
 intro rd fr ro σ a w r hrd;obtain⟨ai,h1,h2⟩:=an fr ro σ N a w r;refine Qd1 (Yp hg r) h1 ?_;have hp:∀p∈π,p<H.length:=λp q=>YK hH q;have hσl:=r.sim.len;have ab:∀(j p:Nat),π[j]?=some p->H[p]?=(Hc[j]?).map (QM (rho π H.length)):=by
  intro j p M;have:=congrArg (λl=>l[j]?) hH;simp only[Xl,M,Xi]at this;cases e:Hc[j]? with
  |none=>rw[e]at this;simp at this
  |some x=>rw[e]at this;simpa using this
 have ak:π.length=Hc.length:=by simpa using congrArg List.length hH
 have hσc:∀j:Nat,σ[rho π H.length j]?=(Q4 σ π)[j]? :=by
  intro j;have:=QcQ (τ:=[]) hσl hp j;simpa using this
 let frc:Nat->Prop:=λb=>fr b\/(∃i x,σ[i]?=some (some b)/\H[i]?=some x/\x.live=true/\i∉π)\/ ∃i x d,σ[i]?=some (some d)/\H[i]?=some x/\Hid w x d b/\i∉π
 have hπj:∀(j b:Nat),(Q4 σ π)[j]?=some (some b)->∃p,π[j]?=some p/\σ[p]?=some (some b):=by
  intro j b M;simp only[Q4,Xl]at M;cases e:π[j]? with
  |none=>rw[e]at M;simp at M
  |some p=>
   rw[e]at M;simp at M;refine⟨p,rfl,?_⟩;cases e2:σ[p]? with
   |none=>rw[e2]at M;simp at M
   |some s=>rw[e2]at M;simp at M;rw[M]
 have hπi:∀(i j p:Nat),π[i]?=some p->π[j]?=some p->i=j:=by
  intro i j p T O;have hi:i<π.length:=by
   rcases Vr i π.length with q|q
   .exact q
   .rw[XJ q]at T;simp at T
  have M:j<π.length:=by
   rcases Vr j π.length with q|q
   .exact q
   .rw[XJ q]at O;simp at O
  rw[XF hi]at T;rw[XF M]at O;have ae:=(XU T).trans (XU O).symm;rcases Nat.lt_trichotomy i j with q|q|q
  .exact(Vt.1 hπ i j hi M q ae).elim
  .exact q
  .exact(Vt.1 hπ j i M hi q ae.symm).elim
 have aj:Sim frc ro (Q4 σ π) Hc w:=by
  refine⟨by simp[Q4,ak],r.sim.roOk,?_,?_,?_,?_,?_,?_⟩
  .rintro b (hb|⟨i,x,h,g,m,J⟩|⟨i,x,d,h,g,m,J⟩)
   .exact r.sim.frLt b hb
   .exact(r.sim.own i b x h g m).1
   .exact(r.sim.hid i d x b h g m).lt
  .rintro b hb (hf|⟨i,x,h,g,m,J⟩|⟨i,x,d,h,g,m,J⟩)
   .exact r.sim.roFr b hb hf
   .exact(r.sim.own i b x h g m).2.1 hb
   .exact(r.sim.hid i d x b h g m).ro hb
  .intro j b x h g m;obtain⟨p,T,e2⟩:=hπj j b h;have e3:H[p]?=some (QM (rho π H.length) x):=by rw[ab j p T,g];rfl
   obtain⟨o1,o2,o3⟩:=r.sim.own p b _ e2 e3 (by rw[Qz];exact m);refine⟨o1,o2,?_⟩;rintro(hf|⟨i,y,y1,y2,y3,y4⟩|⟨i,y,d,y1,y2,y3,y4⟩)
   .exact o3 hf
   .have:=r.sim.inj i p b _ _ y1 e2 y2 e3 y3 (by rw[Qz];exact m);subst this;exact y4 (Vw T)
   .exact(r.sim.hid i d y b y1 y2 y3).ne p b _ e2 e3 (by rw[Qz];exact m) rfl
  .intro i j b x y h g m J X q6;obtain⟨p,T,e2⟩:=hπj i b h;obtain⟨p',O,aq⟩:=hπj j b g;have e3:H[p]?=some (QM (rho π H.length) x):=by rw[ab i p T,m];rfl
   have ao:H[p']?=some (QM (rho π H.length) y):=by rw[ab j p' O,J];rfl
   have:=r.sim.inj p p' b _ _ e2 aq e3 ao (by rw[Qz];exact X) (by rw[Qz];exact q6);subst this;have hi:i<π.length:=by
    rcases Vr i π.length with q|q
    .exact q
    .rw[XJ q]at T;simp at T
   have M:j<π.length:=by
    rcases Vr j π.length with q|q
    .exact q
    .rw[XJ q]at O;simp at O
   rw[XF hi]at T;rw[XF M]at O;have ae:=(XU T).trans (XU O).symm;rcases Nat.lt_trichotomy i j with q|q|q
   .exact(Vt.1 hπ i j hi M q ae).elim
   .exact q
   .exact(Vt.1 hπ j i M hi q ae.symm).elim
  .intro j s x h g;have M:j<π.length:=by
    rcases Vr j π.length with q|q
    .exact q
    .rw[XJ (by simpa[Q4]using q)]at h;simp at h
   have T:π[j]?=some π[j]:=XF M;have e3:H[π[j]]?=some (QM (rho π H.length) x):=by rw[ab j _ T,g];rfl
   have e2:σ[π[j]]?=some s:=by
    have:=hσc j;rw[h]at this;simpa[rho,T]using this
   exact(Qe1 hσc).1 (r.sim.blk _ s _ e2 e3)
  .intro j b x c h g m;obtain⟨p,T,e2⟩:=hπj j b h;have e3:H[p]?=some (QM (rho π H.length) x):=by rw[ab j p T,g];rfl
   have k:=r.sim.hid p b _ c e2 e3 ((Qah _ _ _ _ _).2 m);refine⟨k.lt,k.ro,?_,?_,?_⟩
   .rintro(hf|⟨i,y,y1,y2,y3,y4⟩|⟨i,y,d,y1,y2,y3,y4⟩)
    .exact k.fr hf
    .exact k.ne i c y y1 y2 y3 rfl
    .obtain⟨rfl,rfl⟩:=k.one i d y y1 y2 y3;exact y4 (Vw T)
   .intro R b' y L n Y;obtain⟨p',f1,f2⟩:=hπj R b' L;exact k.ne p' b' _ f2 (show H[p']?=some (QM (rho π H.length) y)by rw[ab R p' f1,n];rfl) (by rw[Qz];exact Y)
   .intro R b' y L n Y;obtain⟨p',f1,f2⟩:=hπj R b' L;obtain⟨z4,z5⟩:=k.one p' b' _ f2 (show H[p']?=some (QM (rho π H.length) y)by rw[ab R p' f1,n];rfl) ((Qah _ _ _ _ _).2 Y);subst z5;exact⟨z4,hπi R j p' f1 T⟩
 have ag:LR ro (Q4 σ π) w aa ai:=(QaZ hσc).1 (hargs▸h2);refine Calls.mono (hC frc ro (Q4 σ π) ai w aj ag) ?_;rintro e w' ⟨v,rr,H1,ac,τ,rfl,hq,sc,hv,ev⟩;have hσ':∀j:Nat,(σ++τ)[rho π H.length j]?=(Q4 σ π++τ)[j]? :=λj=>QcQ hσl hp j;have am:H1.length=π.length+τ.length:=by rw[<- sc.len];simp[Q4]
 have al:π.length<=(H1.map (QM (rho π H.length))).length:=by simp;omega
 have V:Qi fr ro w ac w':=⟨ev.sub,ev.keepRo,λb q=>ev.keepFr b (.inl q),ev.size,ev.shape,ev.os,ev.tape,ev.output,ev.drawn⟩;have F:∀j,(QL H π (H1.map (QM (rho π H.length))))[rho π H.length j]?=(H1[j]?).map (QM (rho π H.length)):=by
  intro j;rw[Qdb π H _ j al hp hπ];simp
 have B:∀i,i<H.length->i∉π->(QL H π (H1.map (QM (rho π H.length))))[i]?=H[i]? :=λi=>QbF π H _ i;have t:∀i:Nat,(∃j,i=rho π H.length j)\/(i<H.length/\i∉π):=by
  intro i;by_cases q:H.length<=i\/i∈π
  .exact .inl (QgS π H.length i q)
  .simp only[not_or]at q;exact .inr ⟨by omega,q.2⟩
 have G:∀i b x,i<H.length->i∉π->σ[i]?=some (some b)->H[i]?=some x->x.live=true->frc b:=λi b x h g m J X=>.inr (.inl ⟨i,x,m,J,X,g⟩);have af:∀i b x c,i<H.length->i∉π->σ[i]?=some (some b)->H[i]?=some x->Hid w' x b c->Hid w x b c/\frc c:=λi b x c h g m J X=>
  have q6:=r.sim.hidKeep m J (λz=>ev.keepFr b (G i b x h g m J z)) ev.keepRo X
  ⟨q6,.inr (.inr ⟨i,x,b,m,J,q6,g⟩)⟩
 have ah:Sim fr ac (σ++τ) (QL H π (H1.map (QM (rho π H.length)))) w':=by
  refine⟨?_,sc.roOk,λb q=>sc.frLt b (.inl q),λb q q'=>sc.roFr b q (.inl q'),?_,?_,?_,?_⟩
  .rw[Qby _ _ _ al];simp[hσl,am]
  .intro i b x h g m;rcases t i with⟨j,rfl⟩|⟨c1,c2⟩
   .rw[hσ']at h;rw[F]at g;cases e:H1[j]? with
    |none=>rw[e]at g;simp at g
    |some y=>
     rw[e]at g;simp at g;subst g;obtain⟨o1,o2,o3⟩:=sc.own j b y h e (by rw[Qz]at m;exact m);exact⟨o1,o2,λq=>o3 (.inl q)⟩
   .rw[B i c1 c2]at g;rw[XH (by omega)]at h;obtain⟨o1,o2,o3⟩:=r.sim.own i b x h g m;exact⟨X9 o1 ev.size,λq=>sc.roFr b q (G i b x c1 c2 h g m),o3⟩
  .intro i E b x y h g m J X q6;have ad:∀(i E:Nat) (x y:Blk),(∃j,i=rho π H.length j)->(E<H.length/\E∉π)->(σ++τ)[i]?=some (some b)->(σ++τ)[E]?=some (some b)->
     (QL H π (H1.map (QM (rho π H.length))))[i]?=some x->(QL H π (H1.map (QM (rho π H.length))))[E]?=some y->x.live=true->y.live=true->False:=by
    rintro i E x y ⟨j,rfl⟩ ⟨c1,c2⟩ h g m J X q6;rw[hσ']at h;rw[F]at m;rw[B E c1 c2]at J;rw[XH (by omega)]at g;cases e:H1[j]? with
    |none=>rw[e]at m;simp at m
    |some z=>
     rw[e]at m;simp at m;subst m;exact(sc.own j b z h e (by rw[Qz]at X;exact X)).2.2 (G E b y c1 c2 g J q6)
   rcases t i with ci|ci<;>rcases t E with ci'|ci'
   .obtain⟨j,rfl⟩:=ci;obtain⟨R,rfl⟩:=ci';rw[hσ']at h g;rw[F]at m J;cases e:H1[j]? with
    |none=>rw[e]at m;simp at m
    |some z=>
     cases W:H1[R]? with
     |none=>rw[W]at J;simp at J
     |some z'=>
      rw[e]at m;simp at m;subst m;rw[W]at J;simp at J;subst J;rw[sc.inj j R b z z' h g e W (by rw[Qz]at X;exact X) (by rw[Qz]at q6;exact q6)]
   .exact(ad i E x y ci ci' h g m J X q6).elim
   .exact(ad E i y x ci' ci g h J m q6 X).elim
   .rw[B i ci.1 ci.2]at m;rw[B E ci'.1 ci'.2]at J;rw[XH (by omega)]at h g;exact r.sim.inj i E b x y h g m J X q6
  .intro i s x h g;rcases t i with⟨j,rfl⟩|⟨c1,c2⟩
   .rw[hσ']at h;rw[F]at g;cases e:H1[j]? with
    |none=>rw[e]at g;simp at g
    |some y=>
     rw[e]at g;simp at g;subst g;exact(Qe1 hσ').2 (sc.blk j s y h e)
   .rw[B i c1 c2]at g;rw[XH (by omega)]at h;refine BR.keep (V.ext σ τ) ?_ (r.sim.blk i s x h g) ?_
    .rintro b rfl hl;exact ev.keepFr b (G i b x c1 c2 h g hl)
    .rintro b c rfl hl;exact ev.keepFr c (.inr (.inr ⟨i,x,b,h,g,hl,c2⟩))
  .intro i b x c h g m;rcases t i with⟨j,rfl⟩|⟨c1,c2⟩
   .rw[hσ']at h;rw[F]at g;cases e:H1[j]? with
    |none=>rw[e]at g;simp at g
    |some y=>
     rw[e]at g;simp at g;subst g;have k:=sc.hid j b y c h e ((Qah _ _ _ _ _).1 m);refine⟨k.lt,k.ro,λq=>k.fr (.inl q),?_,?_⟩
     .intro E b' y' L n Y;rcases t E with⟨R,rfl⟩|⟨d1,d2⟩
      .rw[hσ']at L;rw[F]at n;cases W:H1[R]? with
       |none=>rw[W]at n;simp at n
       |some u=>
        rw[W]at n;simp at n;subst n;exact k.ne R b' u L W (by rw[Qz]at Y;exact Y)
      .rw[B E d1 d2]at n;rw[XH (by omega)]at L;rintro rfl;exact k.fr (G E c y' d1 d2 L n Y)
     .intro E b' y' L n Y;rcases t E with⟨R,rfl⟩|⟨d1,d2⟩
      .rw[hσ']at L;rw[F]at n;cases W:H1[R]? with
       |none=>rw[W]at n;simp at n
       |some u=>
        rw[W]at n;simp at n;subst n;obtain⟨z4,rfl⟩:=k.one R b' u L W ((Qah _ _ _ _ _).1 Y);exact⟨z4,rfl⟩
      .rw[B E d1 d2]at n;rw[XH (by omega)]at L;exact(k.fr (af E b' y' c d1 d2 L n Y).2).elim
   .rw[B i c1 c2]at g;rw[XH (by omega)]at h;obtain⟨J,X⟩:=af i b x c c1 c2 h g m;have k:=r.sim.hid i b x c h g J;refine⟨X9 k.lt ev.size,λq=>sc.roFr c q X,k.fr,?_,?_⟩
    .intro E b' y' L n Y;rcases t E with⟨R,rfl⟩|⟨d1,d2⟩
     .rw[hσ']at L;rw[F]at n;cases W:H1[R]? with
      |none=>rw[W]at n;simp at n
      |some u=>
       rw[W]at n;simp at n;subst n;rintro rfl;exact(sc.own R c u L W (by rw[Qz]at Y;exact Y)).2.2 X
     .rw[B E d1 d2]at n;rw[XH (by omega)]at L;exact k.ne E b' y' L n Y
    .intro E b' y' L n Y;rcases t E with⟨R,rfl⟩|⟨d1,d2⟩
     .rw[hσ']at L;rw[F]at n;cases W:H1[R]? with
      |none=>rw[W]at n;simp at n
      |some u=>
       rw[W]at n;simp at n;subst n;exact((sc.hid R b' u c L W ((Qah _ _ _ _ _).1 Y)).fr X).elim
     .rw[B E d1 d2]at n;rw[XH (by omega)]at L;exact k.one E b' y' L n (af E b' y' c d1 d2 L n Y).1
 have ar:VR ac (σ++τ) w' (Yz (rho π H.length) rr) v:=(Qcm hσ').2 hv;have hk:=k rr H1 hq;cases d with
 |none=>
  simp only[hd,Act.put];have r':Rel fr ac (σ++τ) (QL H π (H1.map (QM (rho π H.length)))) env N a w':=⟨ah,λs=>(r.env s).mono (V.ext σ τ),r.size,r.defers.keep V⟩;exact⟨_,rfl,Q3 (λe a w q=>q.step V (QB (by omega))) _ _ _ (hk rd fr ac (σ++τ) _ w' r' (hrd.to V λ_ q=>q))⟩
 |some d=>
  simp only[hd,Act.put];have au:=hN d rfl;have r':Rel fr ac (σ++τ) (QL H π (H1.map (QM (rho π H.length)))) (up env d (Yz (rho π H.length) rr)) N {a with tmps:=a.tmps.setIfInBounds d v} w':=
   ⟨ah,VR.up (fr:=fr) (λs=>(r.env s).mono (V.ext σ τ)) (by rw[r.size];exact au) ar,by simpa using r.size,r.defers.keep V⟩
  exact⟨_,rfl,Q3 (λe a w q=>q.step V (QB (by omega))) _ _ _ (hk rd fr ac (σ++τ) _ w' r' (hrd.to V λ_ q=>q))⟩
section
variable {P:Program} {o:Oper} {env:Env} {H:Qc}
theorem QH{fr ro:Nat->Prop}{σ:Sig}{N:Nat}{a:Act}{w:World}(r:Rel fr ro σ H env N a w){x:Operand}{k:IntKind}{n:Int}(h:opA env x=.int k n):a.eval x=.int k n:=by
 have:=Ql r x;rw[h]at this;exact this
theorem QaH{fr ro:Nat->Prop}{σ:Sig}{N:Nat}{a:Act}{w:World}(r:Rel fr ro σ H env N a w){x:Operand}{b:Bool}(h:opA env x=.bool b):a.eval x=.bool b:=by
 have:=Ql r x;rw[h]at this;exact this
theorem QcU{fr ro:Nat->Prop}{σ:Sig}{N:Nat}{a:Act}{w:World}(r:Rel fr ro σ H env N a w){x:Operand}{s:List UInt8}(h:opA env x=.str s):a.eval x=.string ⟨s.toArray⟩:=by
 have:=Ql r x;rw[h]at this;exact this
theorem OpV.move{x:Operand}{v:A}(ho:o.op=.move x)(hx:opA env x=v):OpV P o env H v:=
 λfr ro σ N a w r=>⟨a.eval x,by simp[execOp,ho],hx▸Ql r x⟩
theorem OpV.assign{x:Operand}{v:A}(ho:o.op=.assign x)(hx:opA env x=v):OpV P o env H v:=
 λfr ro σ N a w r=>⟨a.eval x,by simp[execOp,ho],hx▸Ql r x⟩
theorem OpV.pick{c x y:Operand}{b:Bool}{v:A}(e:o.op=.pick c x y)(d:opA env c=.bool b)(g:(if b then opA env x else opA env y)=v):OpV P o env H v:=by
 intro i h σ N a w r;have f:=QaH r d;refine⟨if b then a.eval x else a.eval y,by simp_all[execOp,asBool],?_⟩
 grind[Ql]
theorem OpV.add{t u:TypeId}{x y:Operand}{k:IntKind}{m n:Int}(f:o.op=.binOp .add t x y u)(d:opA env x=.int k m)(e:opA env y=.int k n):OpV P o env H (.int k (k.wrap (m+n))):=by
 intro i g σ N a w r;have h:=QH r d;have j:=QH r e;refine⟨_,?_,rfl⟩
 simp_all[execOp,Go.binOp,eqGuard,Op.intArith]
theorem OpV.sub{t u:TypeId}{x y:Operand}{k:IntKind}{m n:Int}(f:o.op=.binOp .sub t x y u)(d:opA env x=.int k m)(e:opA env y=.int k n):OpV P o env H (.int k (k.wrap (m-n))):=by
 intro i g σ N a w r;have h:=QH r d;have j:=QH r e;refine⟨_,?_,rfl⟩
 simp_all[execOp,Go.binOp,eqGuard,Op.intArith]
theorem OpV.mul{t u:TypeId}{x y:Operand}{k:IntKind}{m n:Int}(f:o.op=.binOp .mul t x y u)(d:opA env x=.int k m)(e:opA env y=.int k n):OpV P o env H (.int k (k.wrap (m*n))):=by
 intro i g σ N a w r;have h:=QH r d;have j:=QH r e;refine⟨_,?_,rfl⟩
 simp_all[execOp,Go.binOp,eqGuard,Op.intArith]
theorem Qbv{op:BinOp}{t u:TypeId}{x y:Operand}{k:IntKind}{m n:Int}{f:Int->Int->Bool}(e:o.op=.binOp op t x y u)(h:opA env x=.int k m)(g:opA env y=.int k n)
  (d:op=.eql/\f=(λa b=>a==b)\/op=.neq/\f=(λa b=>a != b)\/op=.lss/\f=(λa b=>decide (a<b))\/op=.leq/\f=(λa b=>decide (a<=b))\/
   op=.gtr/\f=(λa b=>decide (b<a))\/op=.geq/\f=(λa b=>decide (b<=a))):OpV P o env H (.bool (f m n)):=by
 intro p l σ N a w r;have i:=QH r h;have j:=QH r g;refine⟨_,?_,rfl⟩;generalize a.eval=ρ at*;rcases d with⟨rfl,rfl⟩|⟨rfl,rfl⟩|⟨rfl,rfl⟩|⟨rfl,rfl⟩|⟨rfl,rfl⟩|⟨rfl,rfl⟩<;>simp[e,i,j,go_sem]
theorem OpV.eql{t u:TypeId}{x y:Operand}{k:IntKind}{m n:Int}(ho:o.op=.binOp .eql t x y u)(hx:opA env x=.int k m)(hy:opA env y=.int k n):OpV P o env H (.bool (m==n)):=
 Qbv ho hx hy (by simp)
theorem OpV.neq{t u:TypeId}{x y:Operand}{k:IntKind}{m n:Int}(ho:o.op=.binOp .neq t x y u)(hx:opA env x=.int k m)(hy:opA env y=.int k n):OpV P o env H (.bool (m != n)):=
 Qbv ho hx hy (by simp)
theorem OpV.lss{t u:TypeId}{x y:Operand}{k:IntKind}{m n:Int}(ho:o.op=.binOp .lss t x y u)(hx:opA env x=.int k m)(hy:opA env y=.int k n):OpV P o env H (.bool (decide (m<n))):=
 Qbv (f:=λa b=>decide (a<b)) ho hx hy (by simp)
theorem OpV.leq{t u:TypeId}{x y:Operand}{k:IntKind}{m n:Int}(ho:o.op=.binOp .leq t x y u)(hx:opA env x=.int k m)(hy:opA env y=.int k n):OpV P o env H (.bool (decide (m<=n))):=
 Qbv (f:=λa b=>decide (a<=b)) ho hx hy (by simp)
theorem OpV.gtr{t u:TypeId}{x y:Operand}{k:IntKind}{m n:Int}(ho:o.op=.binOp .gtr t x y u)(hx:opA env x=.int k m)(hy:opA env y=.int k n):OpV P o env H (.bool (decide (n<m))):=
 Qbv (f:=λa b=>decide (b<a)) ho hx hy (by simp)
theorem OpV.geq{t u:TypeId}{x y:Operand}{k:IntKind}{m n:Int}(ho:o.op=.binOp .geq t x y u)(hx:opA env x=.int k m)(hy:opA env y=.int k n):OpV P o env H (.bool (decide (n<=m))):=
 Qbv (f:=λa b=>decide (b<=a)) ho hx hy (by simp)
theorem OpV.rem{t u:TypeId}{x y:Operand}{k:IntKind}{m n:Int}(f:o.op=.binOp .rem t x y u)(e:opA env x=.int k m)(d:opA env y=.int k n)(j:n≠0):OpV P o env H (.int k (m.tmod n)):=by
 intro i g σ N a w r;have h:=QH r e;have l:=QH r d;exact⟨_,by simp_all[execOp,Go.binOp,eqGuard,Op.intDiv],rfl⟩
theorem OpV.quo{t u:TypeId}{x y:Operand}{k:IntKind}{m n:Int}(f:o.op=.binOp .quo t x y u)(e:opA env x=.int k m)(d:opA env y=.int k n)(j:n≠0):OpV P o env H (.int k (k.wrap (m.tdiv n))):=by
 intro i g σ N a w r;have h:=QH r e;have l:=QH r d;exact⟨_,by simp_all[execOp,Go.binOp,eqGuard,Op.intDiv],rfl⟩
theorem OpV.not{t:TypeId}{x:Operand}{b:Bool}(e:o.op=.unOp .not t x)(d:opA env x=.bool b):OpV P o env H (.bool !b):=by
 intro h f σ N a w r;have g:=QaH r d;exact⟨_,by simp_all[execOp,Op.unary],rfl⟩
theorem OpV.neg{t:TypeId}{x:Operand}{k:IntKind}{n:Int}(e:o.op=.unOp .neg t x)(d:opA env x=.int k n):OpV P o env H (.int k (k.wrap (0-n))):=by
 intro h f σ N a w r;have g:=QH r d;exact⟨_,by simp_all[execOp,Op.unary,Op.intArith],rfl⟩
theorem QdN{s t:TypeId}{x:Operand}{k f:IntKind}{n:Int}{d:TypeDesc}(g:o.op=.convert s t x)(i:∀w,(underlying s).run P w=.ok d w)(h:∀w,(underlying t).run P w=.ok (.int k) w)
  (e:opA env x=.int f n):OpV P o env H (.int k (k.wrap n)):=by
 intro m j σ N a w r;have l:=QH r e;refine⟨_,?_,rfl⟩
 simp_all[execOp,convert,Conv.intToInt]
theorem Qcp{op:BinOp}{t u:TypeId}{x y:Operand}{p q:List UInt8}{f:List UInt8->List UInt8->Bool}(e:o.op=.binOp op t x y u)(i:opA env x=.str p)(g:opA env y=.str q)
  (d:op=.eql/\f=(λa b=>a==b)\/op=.neq/\f=(λa b=>a != b)\/op=.lss/\f=Op.bytesLess\/op=.geq/\f=(λa b=> !Op.bytesLess a b)\/
   op=.leq/\f=(λa b=>Op.bytesLess a b||a==b)\/op=.gtr/\f=(λa b=> !(Op.bytesLess a b||a==b))):OpV P o env H (.bool (f p q)):=by
 intro n m σ N a w r;have k:=QcU r i;have l:=QcU r g;refine⟨_,?_,rfl⟩;generalize a.eval=ρ at*;have j:(⟨p.toArray⟩:ByteArray).toList=p:=by simp
 have h:(⟨q.toArray⟩:ByteArray).toList=q:=by simp
 rcases d with⟨rfl,rfl⟩|⟨rfl,rfl⟩|⟨rfl,rfl⟩|⟨rfl,rfl⟩|⟨rfl,rfl⟩|⟨rfl,rfl⟩<;>simp[e,k,l,Go.binOp,Op.stringOp,j,h,go_sem,bne]
theorem Qhn{t u:TypeId}{x y:Operand}{p q:List UInt8}(ho:o.op=.binOp .eql t x y u)(hx:opA env x=.str p)(hy:opA env y=.str q):OpV P o env H (.bool (p==q)):=
 Qcp ho hx hy (by simp)
theorem Qhk{t u:TypeId}{x y:Operand}{p q:List UInt8}(ho:o.op=.binOp .neq t x y u)(hx:opA env x=.str p)(hy:opA env y=.str q):OpV P o env H (.bool (p != q)):=
 Qcp ho hx hy (by simp)
theorem Qhl{t u:TypeId}{x y:Operand}{p q:List UInt8}(ho:o.op=.binOp .lss t x y u)(hx:opA env x=.str p)(hy:opA env y=.str q):OpV P o env H (.bool (Op.bytesLess p q)):=
 Qcp ho hx hy (by simp)
theorem Qhm{t:TypeId}{x y:Operand}{s:List UInt8}{k:IntKind}{n:Int}{c:UInt8}(l:o.op=.index t x y)(p:∀w,(underlying t).run P w=.ok .string w)(h:opA env x=.str s)(f:opA env y=.int k n)
  (m:0<=n)(j:s[n.toNat]?=some c):OpV P o env H (.int .u8 c.toNat):=by
 intro z q σ N a w r;have u:=QcU r h;have B:=QH r f;have i:(⟨s.toArray⟩:ByteArray)[n.toNat]?=some c:=by
  obtain⟨d,e⟩:=XG.1 j;have g:(⟨s.toArray⟩:ByteArray).size=s.length:=by rfl
  rw[getElem?_pos _ _ (by exact d)];show some (s.toArray[n.toNat]'(by omega))=some c;simp[e]
 refine⟨_,?_,rfl⟩
 simp_all[execOp,Instr.index,asIntOf]
theorem QaY{c:Call}{t:TypeId}{x:Operand}{s:List UInt8}(d:o.op=.call c)(e:c={callee:=.builtin .len,args:= #[x],argTypes:= #[t]})(h:∀w,(underlying t).run P w=.ok .string w)
  (f:opA env x=.str s):OpV P o env H (.int .i64 s.length):=by
 intro j i σ N a w r;have g:=QcU r f;generalize a.eval=ρ at*;subst e;simp[execOp,d,g,resolve,invoke,Builtin.len_,h,goInt,go_sem]<;>rfl
theorem QiB{c:Call}{t e:TypeId}{x:Operand}{k:Nat}{es:List (List A)}(f:o.op=.call c)(i:c={callee:=.builtin .len,args:= #[x],argTypes:= #[t]})(g:∀w,(underlying t).run P w=.ok (.slice e) w)
  (h:opA env x=.rsl k es):OpV P o env H (.int .i64 es.length):=by
 intro n m σ N a w r;have d:=Ql r x;rw[h]at d;obtain⟨l,j,d,_⟩:=d;refine⟨_,?_,rfl⟩;generalize a.eval=ρ at*;subst i;simp[execOp,f,d,resolve,invoke,Builtin.len_,g,goInt,go_sem]
theorem QiC{c:Call}{t e:TypeId}{x:Operand}{i s n k:Nat}(f:o.op=.call c)(j:c={callee:=.builtin .len,args:= #[x],argTypes:= #[t]})(g:∀w,(underlying t).run P w=.ok (.slice e) w)
  (h:opA env x=.osl i s n k):OpV P o env H (.int .i64 n):=by
 intro y u σ N a w r;have d:=Ql r x;rw[h]at d;refine⟨_,?_,rfl⟩;generalize a.eval=ρ at*;subst j;rcases d with⟨rfl,d⟩|⟨b,p,l,q,m,_,d,_⟩<;>
 simp[execOp,f,d,resolve,invoke,Builtin.len_,g,goInt,go_sem]
structure Yb (P:Program) (T f off n:Nat):Prop where
 h:∃fs fd,(∀w,(underlying T).run P w=.ok (.struct fs) w)/\fs[f]?=some fd/\fd.offset=off/\(∀w,(sizeOf fd.type).run P w=.ok n w)/\n≠0
theorem QaM(b a n:Nat):(⟨b,a,none⟩:Addr).add n=⟨b,a+n,none⟩:=by
 simp_all[Addr.add]
theorem Qcw{T f off n b p:Nat}(a:Yb P T f off n)(w:World):(Instr.fieldAt T (.pointer (some ⟨b,p,none⟩)) f).run P w=.ok (.pointer (some ⟨b,p+off,none⟩)) w:=by
 obtain⟨j,g,i,k,rfl,e,d⟩:=a.h
 simp_all[Instr.fieldAt,Instr.sureAddr,fieldPlace,QaM]
theorem QbO{T f off n i p:Nat}{x:Operand}(e:Yb P T f off n)(h:o.op=.fieldAddr T x f)(g:opA env x=.ptr i p):OpV P o env H (.ptr i (p+off)):=by
 intro l k σ N a w r;have d:=Ql r x;rw[g]at d;obtain⟨b,d,j⟩:=d;refine⟨.pointer (some ⟨b,p+off,none⟩),?_,b,d,rfl⟩;simp only[execOp,h,j,Vg,Qcw e];rfl
theorem CR.drop{ro:Nat->Prop}{σ:Sig}{w:World}{b:Nat}:∀(n:Nat) {cs:List A} {off:Nat},CR ro σ w b cs off->CR ro σ w b (cs.drop n) (off+n)
 |0,_,_,h=>h
 |n+1,[],_,h=>trivial
 |n+1,c::cs,off,h=>by
  have:=CR.drop n h.2
  grind
theorem CR.take{ro:Nat->Prop}{σ:Sig}{w:World}{b:Nat}:∀(n:Nat) {cs:List A} {off:Nat},CR ro σ w b cs off->CR ro σ w b (cs.take n) off
 |0,_,_,h=>trivial
 |n+1,[],_,h=>trivial
 |n+1,c::cs,off,h=>⟨h.1,CR.take n h.2⟩
theorem QdL{T f off n:Nat}{x:Operand}{h d:List A}(l:Yb P T f off n)(i:o.op=.fieldAddr T x f)(k:opA env x=.rp h)(g:h.drop off=d):OpV P o env H (.rp d):=by
 intro s q σ N a w r;have e:=Ql r x;rw[k]at e;obtain⟨b,p,e,m,j⟩:=e;refine⟨.pointer (some ⟨b,p+off,none⟩),?_,b,p+off,rfl,m,g▸j.drop off⟩;simp only[execOp,i,e,Vg,Qcw l];rfl
theorem RR.get{ro:Nat->Prop}{σ:Sig}{w:World}{b k:Nat}:∀(n:Nat) {es:List (List A)} {off:Nat} {c:List A},RR ro σ w b k es off->es[n]?=some c->c.length=k/\CR ro σ w b c (off+n*k)
 |n,[],_,_,h,hc=>by simp at hc
 |0,e::es,off,c,h,hc=>by
  simp at hc;subst hc;exact⟨h.1,by simpa using h.2.1⟩
 |n+1,e::es,off,c,h,hc=>by
  have:=RR.get n h.2.2 (by simpa using hc)
  grind
theorem Qjq{t e:TypeId}{x y:Operand}{k:Nat}{es:List (List A)}{B:IntKind}{n:Int}{c:List A}(q:o.op=.indexAddr t x y)(i:∀w,(underlying t).run P w=.ok (.slice e) w)
  (j:∀w,(sizeOf e).run P w=.ok k w)(z:opA env x=.rsl k es)(p:opA env y=.int B n)(u:0<=n)(l:es[n.toNat]?=some c):OpV P o env H (.rp c):=by
 intro L J σ N a w r;have f:=Ql r x;rw[z]at f;have G:=QH r p;obtain⟨O,E,f,M,s⟩:=f;have g:n.toNat<es.length:=(by grind);rcases s with rfl|⟨b,d,rfl,h,m⟩
 .simp at g
 have F:n<es.length:=by omega
 refine⟨.pointer (some ⟨b,d+n.toNat*k,none⟩),?_,b,d+n.toNat*k,rfl,h,(m.get n.toNat l).2⟩;generalize a.eval=ρ at*;simp[q,f,G,Instr.indexAt,i,j,u,F,go_sem]
theorem QgG{t e:TypeId}{x y:Operand}{i s m k:Nat}{B:IntKind}{n:Int}(f:o.op=.indexAddr t x y)(q:∀w,(underlying t).run P w=.ok (.slice e) w)
  (z:∀w,(sizeOf e).run P w=.ok k w)(u:opA env x=.osl i s m k)(g:opA env y=.int B n)(l:0<=n)(E:n<m):OpV P o env H (.ptr i (s*k+n.toNat*k)):=by
 intro Q O σ N a w r;have d:=Ql r x;rw[u]at d;have G:=QH r g;rcases d with⟨rfl,_⟩|⟨b,p,F,M,J,j,d,h,L,_⟩
 .omega
 obtain rfl:=h (by omega);refine⟨.pointer (some ⟨b,s*k+n.toNat*k,none⟩),?_,b,j,rfl⟩;generalize a.eval=ρ at*;simp[f,d,G,Instr.indexAt,q,z,l,E,go_sem]
def Pts(H:Qc)(p:A)(cs:List A):Prop:=
 ∀fr ro σ w v,Sim fr ro σ H w->VR ro σ w p v->∃b off,v=.pointer (some ⟨b,off,none⟩)/\CR ro σ w b cs off
theorem VR.lift{ro:Nat->Prop}{σ:Sig}{w:World}{a:A}{v:Value}(h:VR ro [] w a v):VR ro σ w a v:=
 h.mono ⟨λ_ q=>q,λ_ _=>rfl,λ_ _ q=>q,(by simp)⟩
theorem CR.lift{ro:Nat->Prop}{σ:Sig}{w:World}{b:Nat}:∀{cs:List A} {off:Nat},CR ro [] w b cs off->CR ro σ w b cs off
 |[],_,_=>trivial
 |c::cs,off,⟨⟨v,h1,hp,h2⟩,h3⟩=>⟨⟨v,h1,hp,h2.lift⟩,CR.lift h3⟩
theorem LR.lift{ro:Nat->Prop}{σ:Sig}{w:World}:∀{cs:List A} {l:List Value},LR ro [] w cs l->LR ro σ w cs l
 |[],_,h=>h
 |c::cs,l,⟨v,l',h1,h2,h3⟩=>⟨v,l',h1,h2.lift,LR.lift h3⟩
theorem Pts.rp{cs:List A}:Pts H (.rp cs) cs:=λfr ro σ w v s ⟨b,off,h1,h2,h3⟩=>⟨b,off,h1,h3.lift⟩
theorem LR.cells{ro:Nat->Prop}{σ:Sig}{w:World}{b t:Nat}{fz:Nat×Nat}{pre l:List Value}(e:w.heap[b]?=some (.cells (pre++l).toArray t fz))(d:∀v∈l,Qu v):
  ∀{a:List A},LR ro σ w a l->CR ro σ w b a pre.length:=by
 induction l generalizing pre with
 |nil=>
  intro a h;cases a with
  |nil=>trivial
  |cons c a=>obtain⟨v,k,h,_⟩:=h;cases h
 |cons v l f=>
  intro a h;cases a with
  |nil=>trivial
  |cons c a=>
   obtain⟨n,k,j,m,g⟩:=h;cases j;refine⟨⟨v,by simp[World.cell?,e],d v (by simp),m⟩,?_⟩;have:=f (pre:=pre++[v]) (by simpa using e) (λx i=>d x (by simp[i])) g
   grind
theorem Pts.cells{i a t:Nat}{e d:List A}(n:H[i]?=some (.cells t e))(m:e.drop a=d):Pts H (.ptr i a) d:=by
 intro q p σ w v s h;obtain⟨b,j,r⟩:=h;obtain⟨l,f,k,g⟩:=s.blk i _ _ j n;have:=LR.cells (pre:=[]) (by simpa using f) g k;have:=this.drop a
 grind
theorem LR.get{ro:Nat->Prop}{σ:Sig}{w:World}:∀{az:List A} {l:List Value} (i:Nat) {a:A},LR ro σ w az l->az[i]?=some a->∃v,l[i]?=some v/\VR ro σ w a v
 |[],l,i,a,h,ha=>by simp at ha
 |x::az,l,0,a,⟨v,l',h1,h2,h3⟩,ha=>by
  grind
 |x::az,l,i+1,a,⟨v,l',h1,h2,h3⟩,ha=>by
  obtain⟨v',q1,q2⟩:=LR.get i h3 (by simpa using ha)
  grind
theorem LR.drop{ro:Nat->Prop}{σ:Sig}{w:World}:∀(n:Nat) {az:List A} {l:List Value},LR ro σ w az l->LR ro σ w (az.drop n) (l.drop n)
 |0,az,l,h=>h
 |n+1,[],l,h=>by cases(show l=[]from h);rfl
 |n+1,a::az,l,⟨v,l',h1,h2,h3⟩=>by subst h1;exact LR.drop n h3
theorem LR.take{ro:Nat->Prop}{σ:Sig}{w:World}:∀(n:Nat) {az:List A} {l:List Value},LR ro σ w az l->LR ro σ w (az.take n) (l.take n)
 |0,az,l,h=>rfl
 |n+1,[],l,h=>by cases(show l=[]from h);rfl
 |n+1,a::az,l,⟨v,l',h1,h2,h3⟩=>by subst h1;exact⟨v,l'.take n,rfl,h2,LR.take n h3⟩
theorem LR.append{ro:Nat->Prop}{σ:Sig}{w:World}:∀{az:List A} {l:List Value} {bs:List A} {m:List Value},LR ro σ w az l->LR ro σ w bs m->LR ro σ w (az++bs) (l++m)
 |[],l,bs,m,h,k=>by cases(show l=[]from h);exact k
 |a::az,l,bs,m,⟨v,l',h1,h2,h3⟩,k=>by subst h1;exact⟨v,l'++m,rfl,h2,LR.append h3 k⟩
theorem QgK{ro:Nat->Prop}{σ:Sig}{w:World}{b t:Nat}{fz:Nat×Nat}:∀{cs:List A} {pre l post:List Value},w.heap[b]?=some (.cells (pre++(l++post)).toArray t fz)->(∀v∈l,Qu v)->
  LR ro σ w cs l->CR ro σ w b cs pre.length
 |[],_,_,_,_,_,_=>trivial
 |c::cs,pre,l,post,hb,hpl,⟨v,l',h1,h2,h3⟩=>by
  subst h1;refine⟨⟨v,by simp[World.cell?,hb],hpl v (by simp),h2⟩,?_⟩;have:=QgK (pre:=pre++[v]) (by simpa using hb) (by grind) h3
  grind
theorem YB{ro:Nat->Prop}{σ:Sig}{w:World}{b t k:Nat}{fz:Nat×Nat}:∀{es:List (List A)} {pre l:List Value},w.heap[b]?=some (.cells (pre++l).toArray t fz)->
  RL ro σ w k es l->RR ro σ w b k es pre.length
 |[],_,_,_,_=>trivial
 |c::es,pre,l,hb,⟨l1,l2,h1,h2,h3,h4⟩=>by
  subst h1;refine⟨h2,QgK hb h3.2 h3.1,?_⟩;have hl:=h3.1.length;have:=YB (pre:=pre++l1) (by simpa using hb) h4
  grind
theorem Pts.row{i a t k e f:Nat}{es:List (List A)}{c d:List A}(q:H[i]?=some (.row t k es))(j:a=e*k+f)(he:es[e]?=some c)(g:c.drop f=d):Pts H (.ptr i a) d:=by
 intro x u σ w v s h;obtain⟨b,n,r⟩:=h;obtain⟨l,m,p⟩:=s.blk i _ _ n q;have:=((YB (pre:=[]) (by simpa using m) p).get e he).2.drop f;refine⟨b,a,r,?_⟩;subst j g;simpa using this.lift
theorem Pts.rowr{i a t k e f:Nat}{es:List (List A)}{c d:List A}(p:H[i]?=some (.rowr t k es))(q:a=e*k+f)(he:es[e]?=some c)(n:c.drop f=d):Pts H (.ptr i a) d:=by
 intro u r σ w v s h;obtain⟨b,j,x⟩:=h;obtain⟨l,g,m⟩:=s.blk i _ _ j p;have:=((YB (pre:=[]) (by simpa using g) m).get e he).2.drop f
 grind
theorem Qg9{w w':World}(h:w'.heap=w.heap)(a:Addr):w'.cell? a=w.cell? a:=by unfold World.cell?;rw[h]
theorem Yk{ro:Nat->Prop}{σ:Sig}{w:World}{b d:Nat}:∀{e:List A} (i:Nat),CR ro σ w b e (d+i)->
  ∃l,LR ro σ w e l/\(∀v∈l,Qu v)/\ ∀(w':World) (a:Array Value),w'.heap=w.heap->(loadCellsFrom ⟨b,d,none⟩ i e.length a).run P w'=.ok (a++l.toArray) w'
 |[],i,h=>⟨[],rfl,by simp,λw' a _=>by rfl⟩
 |c::e,i,⟨⟨v,h1,hp,h2⟩,h3⟩=>by
  obtain⟨l,q1,qp,q2⟩:=Yk (i+1) (by omega);refine⟨v::l,⟨v,l,rfl,h2,q1⟩,by grind,λw' a hw=>?_⟩;have h1':w'.cell? ⟨b,d+i,none⟩=some v:=by rw[Qg9 hw];exact h1
  simp_all[loadCellsFrom,QaM]
theorem Q1{t n:Nat}{x:Operand}{p:A}{e vs:List A}(s:o.op=.load t x)(y:∀w,(isAgg t).run P w=.ok true w)(z:∀w,(sizeOf t).run P w=.ok n w)(h:opA env x=p)(j:Pts H p e)
  (q:e.take n=vs)(u:vs.length=n):OpV P o env H (.agg vs):=by
 intro m k σ N a w r;have d:=Ql r x;rw[h]at d;obtain⟨b,f,E,g⟩:=j m k σ w _ r.sim d;subst q;obtain⟨l,i,_,B⟩:=Yk (P:=P) 0 (by simpa using g.take n);refine⟨.agg l.toArray,?_,l,rfl,i⟩
 simp_all[execOp,Instr.loadAt,Instr.sureAddr,loadVar,loadCells]
theorem OpV.load{t:Nat}{x:Operand}{p v:A}{j:List A}(k:o.op=.load t x)(n:∀w,(isAgg t).run P w=.ok false w)(f:opA env x=p)(g:Pts H p (v::j)):OpV P o env H v:=by
 intro i h σ N a w r;have d:=Ql r x;rw[f]at d;obtain⟨b,e,q,⟨y,m,_,l⟩,_⟩:=g i h σ w _ r.sim d
 simp_all[execOp,Instr.loadAt,Instr.sureAddr,loadVar]
theorem OpV.extract{x:Operand}{vs:List A}{i:Nat}{v:A}(h:o.op=.extract x i)(f:opA env x=.tup vs)(e:vs[i]?=some v):OpV P o env H v:=by
 intro n m σ N a w r;have d:=Ql r x;rw[f]at d;obtain⟨l,d,g⟩:=d;obtain⟨y,k,j⟩:=g.get i e
 simp_all[execOp,Instr.extract]
theorem OpV.field{T f off n:Nat}{x:Operand}{e:List A}{v:A}(k:Yb P T f off n)(j:∀fs fd,(∀w,(underlying T).run P w=.ok (.struct fs) w)->fs[f]?=some fd->∀w,(isAgg fd.type).run P w=.ok false w)
  (t:o.op=.field T x f)(i:opA env x=.agg e)(g:e[off]?=some v):OpV P o env H v:=by
 intro E B σ N a w r;have d:=Ql r x;rw[i]at d;obtain⟨l,d,m⟩:=d;obtain⟨y,z,u⟩:=m.get off g;obtain⟨fs,fd,p,F,rfl,q,s⟩:=k.h
 simp_all[execOp,Instr.field,asAgg,part]
theorem QaL{fr ro:Nat->Prop}{σ:Sig}{N:Nat}{a:Act}{w:World}(r:Rel fr ro σ H env N a w):∀(l:List Operand),LR ro σ w (l.map (opA env)) (l.map a.eval)
 |[]=>rfl
 |x::l=>⟨_,_,rfl,Ql r x,QaL r l⟩
theorem OpV.makeFunc{f:Fn}{first cap:List Operand}{e d:List A}(i:o.op=.makeFunc f first.toArray cap.toArray)(g:first.map (opA env)=e)(h:cap.map (opA env)=d):OpV P o env H (.fn f e d):=by
 intro k j σ N a w r;refine⟨.func f (first.map a.eval).toArray (cap.map a.eval).toArray,?_,_,_,rfl,g▸QaL r first,h▸QaL r cap⟩
 simp_all[execOp,Instr.makeFunc]
theorem Qak{t:TypeId}{x:Operand}{v:A}{d:TypeDesc}(g:o.op=.makeInterface t x)(k:∀w,(underlying t).run P w=.ok d w)(h:∀m,d≠ .interface m)(f:opA env x=v):OpV P o env H (.iface t v):=by
 intro j i σ N a w r;have e:=Ql r x;rw[f]at e;refine⟨.iface t (a.eval x),?_,_,rfl,e⟩
 simp_all[execOp,Instr.makeInterface]
end
mutual
def Yd:A->Bool
 |.ptr _ _=>false
 |.osl _ _ _ _=>false
 |.map _=>false
 |.agg cs=>Ym cs
 |.fn _ a c=>Ym a&&Ym c
 |.iface _ v=>Yd v
 |.tup vs=>Ym vs
 |_=>true
def Ym:List A->Bool
 |[]=>true
 |a::r=>Yd a&&Ym r
end
mutual
theorem VR.data{ro:Nat->Prop}{σ σ':Sig}{w:World}:∀{a:A} {v:Value},Yd a=true->VR ro σ w a v->VR ro σ' w a v
 |.any,_,_,_=>trivial
 |.bool b,v,_,q=>q
 |.int k n,v,_,q=>q
 |.str s,v,_,q=>q
 |.nilp,v,_,q=>q
 |.ptr i off,v,d,q=>by simp[Yd]at d
 |.rp cs,v,_,q=>q
 |.nils,v,_,q=>q
 |.rsl k es,v,_,q=>q
 |.osl i o n k,v,d,q=>by simp[Yd]at d
 |.agg cs,v,d,q=>by
  simp only[VR,Yd]at q d⊢;obtain⟨l,h1,h2⟩:=q;exact⟨l,h1,LR.data d h2⟩
 |.fn f a c,v,d,q=>by
  simp only[VR,Yd,XR]at q d⊢;obtain⟨l,l',h1,h2,h3⟩:=q;exact⟨l,l',h1,LR.data d.1 h2,LR.data d.2 h3⟩
 |.nilf,v,_,q=>q
 |.iface t a,v,d,q=>by
  simp only[VR,Yd]at q d⊢;obtain⟨x,h1,h2⟩:=q;exact⟨x,h1,VR.data d h2⟩
 |.nilif,v,_,q=>q
 |.map i,v,d,q=>by simp[Yd]at d
 |.nilm,v,_,q=>q
 |.tup vs,v,d,q=>by
  simp only[VR,Yd]at q d⊢;obtain⟨l,h1,h2⟩:=q;exact⟨l,h1,LR.data d h2⟩
theorem LR.data{ro:Nat->Prop}{σ σ':Sig}{w:World}:∀{az:List A} {l:List Value},Ym az=true->LR ro σ w az l->LR ro σ' w az l
 |[],_,_,q=>q
 |a::r,l,d,q=>by
  simp only[LR,Ym,XR]at q d⊢;obtain⟨v,l',h1,h2,h3⟩:=q;exact⟨v,l',h1,VR.data d.1 h2,LR.data d.2 h3⟩
end
def Yf:A->Bool
 |.any|.agg _|.tup _=>false
 |_=>true
def QZ:A->List A
 |.agg cs=>cs
 |a=>[a]
def Q6:A->Bool
 |.any=>false
 |_=>true
theorem VR.plain{ro:Nat->Prop}{σ:Sig}{w:World}{a:A}{v:Value}(d:Yf a=true)(h:VR ro σ w a v):Qu v:=by
 cases a<;>first|(simp[Yf]at d)|skip
 case rsl k es=>obtain⟨e,c,rfl,_⟩:=h;trivial
 case osl=>rcases h with⟨_,rfl⟩|⟨_,_,_,_,_,_,rfl,_⟩<;>trivial
 case fn=>obtain⟨_,_,rfl,_⟩:=h;trivial
 case iface=>obtain⟨_,rfl,_⟩:=h;trivial
 case ptr=>obtain⟨_,_,rfl⟩:=h;trivial
 case rp=>obtain⟨_,_,rfl,_⟩:=h;trivial
 case map=>obtain⟨_,_,rfl⟩:=h;trivial
 all_goals (subst h;trivial)
theorem VR.cells{ro:Nat->Prop}{σ:Sig}{w:World}{a:A}{v:Value}(e:Q6 a=true)(h:VR ro σ w a v):∃l:List Value,v.cells=l.toArray/\LR ro σ w (QZ a) l:=by
 cases a
 case any=>simp[Q6]at e
 case agg cs=>obtain⟨l,rfl,h⟩:=h;exact⟨l,rfl,h⟩
 case tup cs=>obtain⟨l,rfl,h⟩:=h;exact⟨[.tuple l.toArray],rfl,_,_,rfl,⟨l,rfl,h⟩,rfl⟩
 all_goals
  have d:=h.plain rfl;refine⟨[v],?_,v,[],rfl,h,rfl⟩;cases v<;>first|rfl|exact d.elim
theorem LR.plain{ro:Nat->Prop}{σ:Sig}{w:World}:∀{az:List A} {l:List Value},az.all Yf=true->LR ro σ w az l->∀v∈l,Qu v
 |[],l,_,h=>by cases(show l=[]from h);simp
 |a::az,l,hp,⟨v,l',h1,h2,h3⟩=>by
  subst h1;simp only[List.all_cons,XR]at hp;intro x hx;rcases X0.1 hx with rfl|hx
  .exact h2.plain hp.1
  .exact LR.plain hp.2 h3 x hx
theorem Q2(w:World)(obj:Obj)(b:Nat)(a:b<w.heap.size):(w.alloc obj).heap[b]?=w.heap[b]? :=by
 show(w.heap.push obj)[b]?=_
 grind
theorem Yi(w:World)(obj:Obj):(w.alloc obj).heap[w.heap.size]?=some obj:=by
 show(w.heap.push obj)[w.heap.size]?=_;simp
theorem YD(w:World)(obj:Obj):(w.alloc obj).heap.size=w.heap.size+1:=by
 simp
theorem QhS{w:World}{b:Nat}{x:TypeId×Nat}(h:w.shape? b=some x):b<w.heap.size:=by
 grind[World.shape?]
theorem Qi.alloc{fr ro:Nat->Prop}{w:World}(obj:Obj)(hro:∀b,ro b->b<w.heap.size)(hfr:∀b,fr b->b<w.heap.size):Qi fr ro w ro (w.alloc obj):=
 ⟨λ_ h=>h,λb h=>Q2 w obj b (hro b h),λb h=>Q2 w obj b (hfr b h),by simp,
  λb x h=>by grind[World.shape?,Q2],rfl,rfl,rfl,XO _⟩
section
variable {P:Program} {o:Oper} {env:Env} {H:Qc} {fr ro:Nat->Prop} {σ:Sig} {w:World}
theorem Sim.alloc(s:Sim fr ro σ H w){obj:Obj}{x:Blk}(L:BR ro (σ++[some w.heap.size]) (w.alloc obj) x (some w.heap.size))
  (u:∀c,Hid (w.alloc obj) x w.heap.size c->False:=by exact λ_ h=>h.elim):
  Sim fr ro (σ++[some w.heap.size]) (H++[x]) (w.alloc obj):=by
 have ev:Qi fr ro w ro (w.alloc obj):=Qi.alloc obj s.roLt s.frLt;have l:=s.len;have e:∀(i:Nat) (y:Option Nat),(σ++[some w.heap.size])[i]?=some y->(i<σ.length/\σ[i]?=some y)\/(i=σ.length/\y=some w.heap.size):=by
  grind
 have k:∀i:Nat,i<σ.length->(H++[x])[i]?=H[i]? :=λi G=>XH (by omega);have F:(H++[x])[σ.length]?=some x:=by rw[l];simp
 refine⟨by simp[l],s.roOk.to (λ_ q=>q) ev.keepRo (λb h=>?_),λb h=>?_,s.roFr,?_,?_,?_,?_⟩
 .rw[YD];have:=s.roLt b h;omega
 .rw[YD];have:=s.frLt b h;omega
 .intro i b y f g n;rw[YD];rcases e i _ f with⟨q,f⟩|⟨rfl,p⟩
  .rw[k i q]at g;obtain⟨a,b,c⟩:=s.own i b y f g n
   grind
  .cases p;exact⟨by omega,λq=>by have:=s.roLt _ q;omega,λq=>by have:=s.frLt _ q;omega⟩
 .intro i j b y z f g n t B E;rcases e i _ f with⟨q,f⟩|⟨rfl,p⟩<;>rcases e j _ g with⟨q',g⟩|⟨rfl,e2⟩
  .rw[k i q]at n;rw[k j q']at t;exact s.inj i j b y z f g n t B E
  .cases e2;rw[k i q]at n;have:=(s.own i _ y f n B).1;omega
  .cases p;rw[k j q']at t;have:=(s.own j _ z g t E).1;omega
  .rfl
 .intro i y z f g;rcases e i _ f with⟨q,f⟩|⟨rfl,p⟩
  .rw[k i q]at g;refine(s.blk i y z f g).keep (ev.ext σ _) ?_ ?_
   .rintro b rfl l;exact Q2 w obj b (s.own i b z f g l).1
   .rintro b c rfl l;exact Q2 w obj c (s.hid i b z c f g l).lt
  grind
 .refine s.hidTo (· = ·) QX (by rw[YD];omega) (λ_ _ _ _ _ _ _ q=>q) (λ_ _ _ _ _ _ _ q=>q) λj d y r m J=>?_;rcases e j _ r with⟨q,r⟩|⟨rfl,p⟩
  .rw[k j q]at m;exact .inl ⟨j,y,rfl,r,m,id,λc q=>s.hidKeep r m (λz=>Q2 w obj d (s.own j d y r m z).1) ev.keepRo q⟩
  .rw[F]at m;cases m;cases p;exact .inr ⟨XO _,u⟩
theorem Sim.allocCells(s:Sim fr ro σ H w){t:Nat}{cs:List A}{l:List Value}(h:LR ro σ w cs l)(hp:∀v∈l,Qu v):
  Sim fr ro (σ++[some w.heap.size]) (H++[.cells t cs]) (w.alloc (.cells l.toArray t)):=
 s.alloc ⟨l,Yi _ _,h.mono ((Qi.alloc _ s.roLt s.frLt).ext σ _),hp⟩
theorem QfF{ro:Nat->Prop}{σ:Sig}{w:World}:∀{az bs:List A} {l:List Value},LR ro σ w (az++bs) l->∃l1 l2,l=l1++l2/\LR ro σ w az l1/\LR ro σ w bs l2
 |[],bs,l,h=>⟨[],l,rfl,rfl,h⟩
 |a::az,bs,l,⟨v,l',h1,h2,h3⟩=>by
  obtain⟨l1,l2,e,q1,q2⟩:=QfF h3;subst h1 e;exact⟨v::l1,l2,rfl,⟨v,l1,rfl,h2,q1⟩,q2⟩
def allK(k:Nat):List (List A)->Prop
 |[]=>True
 |c::es=>c.length=k/\allK k es
theorem Qaf{k:Nat}:∀{es:List (List A)} {l rest:List Value},allK k es->LR ro σ w es.flatten l->(∀v∈l,Qu v)->RL ro σ w k es (l++rest)
 |[],_,_,_,_,_=>trivial
 |c::es,l,rest,⟨h1,h2⟩,h,hp=>by
  obtain⟨l1,l2,rfl,q1,q2⟩:=QfF h;exact⟨l1,l2++rest,by simp,h1,(by grind),Qaf h2 q2 (by grind)⟩
theorem Sim.allocRow(s:Sim fr ro σ H w){t k:Nat}{es:List (List A)}{l rest:List Value}(hk:allK k es)(h:LR ro [] w es.flatten l)(hp:∀v∈l,Qu v):
  Sim fr ro (σ++[some w.heap.size]) (H++[.row t k es]) (w.alloc (.cells (l++rest).toArray t)):=
 s.alloc ⟨l++rest,Yi _ _,(Qaf hk h hp).mono ((Qi.alloc _ s.roLt s.frLt).ext0 [])⟩
theorem OpH.box{t:Nat}{x:Operand}{v:A}{g:List A}(p:o.op=.box t x)(k:opA env x=v)(j:Q6 v=true)(f:QZ v=g)(d:g.all Yf=true):
  OpH P o env H (.ptr H.length 0) (H++[.cells t g]):=by
 intro q m σ N a w r;have i:=Ql r x;rw[k]at i;obtain⟨l,n,h⟩:=i.cells j;subst f;refine⟨.pointer (some ⟨w.heap.size,0,none⟩),w.alloc (.cells l.toArray t),m,[some w.heap.size],?_,⟨w.heap.size,?_,rfl⟩,r.sim.allocCells h (h.plain d),Qi.alloc _ r.sim.roLt r.sim.frLt⟩
 .generalize a.eval=ρ at*;have e:(newVar t (ρ x)).run P w=.ok ⟨w.heap.size,0,none⟩ (w.alloc (.cells l.toArray t)):=by
   unfold newVar;rw[n];rfl
  simp_all[execOp,Instr.box]
 .rw[<- r.sim.len];simp
theorem Sim.set(s:Sim fr ro σ H w){i b:Nat}{x x':Blk}{obj:Obj}(hσ:σ[i]?=some (some b))(r:H[i]?=some x)(p:x.live=true)
  (T:∀y,w.shape? b=some y->({w with heap:=w.heap.setIfInBounds b obj}:World).shape? b=some y)
  (G:Ext ro σ w ro σ {w with heap:=w.heap.setIfInBounds b obj}->({w with heap:=w.heap.setIfInBounds b obj}:World).heap[b]?=some obj->BR ro σ {w with heap:=w.heap.setIfInBounds b obj} x' (some b))
  (Q:∀c,Hid {w with heap:=w.heap.setIfInBounds b obj} x' b c->Hid w x b c:=by exact λ_ h=>h.elim):
  Sim fr ro σ (H.set i x') {w with heap:=w.heap.setIfInBounds b obj}/\Qi fr ro w ro {w with heap:=w.heap.setIfInBounds b obj}:=by
 obtain⟨Y,N,O⟩:=s.own i b x hσ r p;have l:∀c,c≠b->({w with heap:=w.heap.setIfInBounds b obj}:World).heap[c]?=w.heap[c]? :=by
  grind
 have F:({w with heap:=w.heap.setIfInBounds b obj}:World).heap[b]?=some obj:=by
  grind
 have n:({w with heap:=w.heap.setIfInBounds b obj}:World).heap.size=w.heap.size:=by simp
 have ev:Qi fr ro w ro {w with heap:=w.heap.setIfInBounds b obj}:=
  ⟨λ_ h=>h,(by grind),(by grind),by omega,by
   grind[World.shape?],rfl,rfl,rfl,XO _⟩
 have W:i<H.length:=(by grind);have R:(H.set i x')[i]?=some x':=(by grind);have a:∀j,j≠i->(H.set i x')[j]?=H[j]? :=(by grind);have P:=G (ev.ext0 σ) F;refine⟨⟨by rw[XY];exact s.len,s.roOk.to (λ_ q=>q) ev.keepRo (λc h=>by rw[n];exact s.roLt c h),λc h=>by rw[n];exact s.frLt c h,s.roFr,?_,?_,?_,?_⟩,ev⟩
 .intro j c y g f u;rw[n];by_cases q:j=i
  .grind
  .rw[a j q]at f;exact s.own j c y g f u
 .intro j m c y z g f u B L M;by_cases q:j=i
  .subst q;rw[hσ]at g;cases g;by_cases t:m=j
   .exact t.symm
   .rw[a m t]at B;exact s.inj j m _ x z hσ f r B p M
  .rw[a j q]at u;by_cases t:m=i
   .subst t;rw[hσ]at f;cases f;exact s.inj j m _ y x g hσ u r L p
   .rw[a m t]at B;exact s.inj j m c y z g f u B L M
 .intro j y z g f;by_cases q:j=i
  .grind
  .rw[a j q]at f;refine(s.blk j y z g f).keep (ev.ext0 σ) ?_ ?_
   .rintro c rfl k;exact l c (λe=>q (s.inj j i b z x (e▸g) hσ f r k p))
   .rintro c d rfl V;exact l d ((s.hid j c z d g f V).ne i b x hσ r p)
 .refine s.hidTo (· = ·) QX (by omega) (λ_ _ _ _ _ _ _ q=>q) (λ_ _ _ _ _ _ _ q=>q) λj d y J E X=>.inl ?_;by_cases q:j=i
  .grind
  .rw[a j q]at E;exact⟨j,y,rfl,J,E,id,λc z=>s.hidKeep J E (λk=>l d (λe=>q (s.inj j i b y x (e▸J) hσ E r k p))) ev.keepRo z⟩
def splice{α:Type}(l:List α)(o:Nat)(vs:List α):List α:=l.take o++vs++l.drop (o+vs.length)
theorem Q7{α:Type}{l:List α}{o:Nat}{vs:List α}(h:o+vs.length<=l.length):(splice l o vs).length=l.length:=by
 simp[splice];omega
theorem Qce{h:Array Obj}{b:Nat}{f:Obj->Obj}{x:Obj}(a:h[b]?=some x):h.modify b f=h.setIfInBounds b (f x):=by
 grind
theorem Q9{b t:Nat}:∀{vs l:List Value} {w:World} (a i:Nat),w.heap[b]?=some (.cells l.toArray t (0,0))->a+i+vs.length<=l.length->(∀v∈vs,Qu v)->
  (storeCells ⟨b,a,none⟩ vs i).run P w=.ok () {w with heap:=w.heap.setIfInBounds b (.cells (splice l (a+i) vs).toArray t (0,0))}
 |[],l,w,a,i,hb,hl,hp=>by
  have e:w.heap.setIfInBounds b (.cells (splice l (a+i) []).toArray t (0,0))=w.heap:=by
   apply Array.ext_getElem?;intro j;rw[X8];by_cases q:b=j
   .subst q;obtain⟨d,k⟩:=X7.1 hb;simp[d,splice,k]
   grind
  rw[e];rfl
 |v::vs,l,w,a,i,hb,hl,hp=>by
  simp only[XV]at hl;have m:=hp v (by simp);have p:w.cell? ⟨b,a+i,none⟩=some l[a+i]:=by
   simp[World.cell?,hb]
  have g:w.frozen? ⟨b,a+i,none⟩=false:=by
   simp[World.frozen?,hb]
  have f:w.setCell ⟨b,a+i,none⟩ v={w with heap:=w.heap.setIfInBounds b (.cells (splice l (a+i) [v]).toArray t (0,0))}:=by
   unfold World.setCell;rw[Qce hb];simp only[Option.isSome_none,Xh,if_false];congr 3;have:l.toArray.setIfInBounds (a+i) v=(l.set (a+i) v).toArray:=by simp
   rw[this];congr 1;rw[List.set_eq_take_append_cons_drop,Vm (by omega)];simp[splice]
  have d:b<w.heap.size:=by
   grind
  have n:=Q9 (vs:=vs) (l:=splice l (a+i) [v]) (w:={w with heap:=w.heap.setIfInBounds b (.cells (splice l (a+i) [v]).toArray t (0,0))}) a (i+1)
   (by show(w.heap.setIfInBounds b _)[b]?=_;rw[X8,Vm rfl,Vm d])
   (by rw[Q7 (by simp;omega)];omega) (by grind)
  have x:splice (splice l (a+i) [v]) (a+(i+1)) vs=splice l (a+i) (v::vs):=by
   have h:(l.take (a+i)).length=a+i:=by simp;omega
   unfold splice;rw[Vc (l.take (a+i))];have u:a+(i+1)=(l.take (a+i)).length+1:=by omega
   have z:(l.take (a+i)++([v]++l.drop (a+i+[v].length))).take ((l.take (a+i)).length+1)=l.take (a+i)++[v]:=by
    grind
   have y:(l.take (a+i)++([v]++l.drop (a+i+[v].length))).drop ((l.take (a+i)).length+1+vs.length)=l.drop (a+i+(v::vs).length):=by
    rw[show(l.take (a+i)).length+1+vs.length=(l.take (a+i)).length+(1+vs.length)from by omega,X5];simp[Nat.add_comm 1];omega
   simp_all
  have s:(w.heap.setIfInBounds b (.cells (splice l (a+i) [v]).toArray t (0,0))).setIfInBounds b (.cells (splice (splice l (a+i) [v]) (a+(i+1)) vs).toArray t (0,0))=
    w.heap.setIfInBounds b (.cells (splice l (a+i) (v::vs)).toArray t (0,0)):=by
   grind
  rw[s]at n;have r:(Go.store ⟨b,a+i,none⟩ v).run P w=.ok () {w with heap:=w.heap.setIfInBounds b (.cells (splice l (a+i) [v]).toArray t (0,0))}:=by
   rw[<- f];cases v<;>first|exact m.elim|simp[Go.store,Sem.run,p,g,go_sem]
  simp_all[storeCells,QaM]
theorem Qab{w:World}{b t:Nat}{l l':List Value}(e:w.heap[b]?=some (.cells l.toArray t (0,0)))(d:l'.length=l.length)(y:TypeId×Nat)(h:w.shape? b=some y):
  {w with heap:=w.heap.setIfInBounds b (.cells l'.toArray t (0,0))}.shape? b=some y:=by
 have a:b<w.heap.size:=by
  grind
 simp_all[World.shape?]
theorem LR.splice{ro:Nat->Prop}{σ:Sig}{w:World}{az vs:List A}{l m:List Value}(a:Nat)(h:LR ro σ w az l)(k:LR ro σ w vs m):LR ro σ w (Sw.splice az a vs) (Sw.splice l a m):=by
 unfold Sw.splice;rw[k.length];exact((h.take a).append k).append (h.drop _)
theorem Qdj{l m:List Value}{a:Nat}(h:∀v∈l,Qu v)(k:∀v∈m,Qu v):∀v∈Sw.splice l a m,Qu v:=by
 grind[Sw.splice]
theorem OpU.store{t n i off T:Nat}{x y:Operand}{j vs d:List A}{v:A}(ho:o.op=.store t x y)(R:opA env x=.ptr i off)(G:H[i]?=some (.cells T j))(X:∀w,(sizeOf t).run P w=.ok n w)
  (q:opA env y=v)(L:Q6 v=true)(Q:QZ v=vs)(W:vs.length=n)(F:vs.all Yf=true)(z:Nat.ble (off+n) j.length=true)(p:splice j off vs=d):
  OpU P o env H (H.set i (.cells T d)):=by
 intro Y M σ N a w r;have h:=Ql r x;rw[R]at h;obtain⟨b,h,h2⟩:=h;have E:=Ql r y;rw[q]at E;obtain⟨m,h4,f⟩:=E.cells L;rw[Q]at f;obtain⟨l,u,s,V⟩:=r.sim.blk i _ _ h G;have k:off+n<=j.length:=by simp_all
 have B:m.length=n:=by rw[f.length,W]
 have J:=Q9 (P:=P) off 0 u (by rw[s.length,B];omega) (f.plain F);have g:=r.sim.set (x':=.cells T d) h G rfl
  (λy q=>Qab u (Q7 (by rw[s.length,B];omega)) y q)
  (λe O=>⟨_,O,p▸(s.splice off f).mono e,Qdj V (f.plain F)⟩)
 refine⟨_,M,[],?_,by grind,g.2⟩
 simp_all[storeVar,execOp,Instr.storeAt,Instr.sureAddr]
theorem RL.splice{ro:Nat->Prop}{σ:Sig}{w:World}{k:Nat}:∀{e:Nat} {es:List (List A)} {l m:List Value} {c a:List A} {f:Nat},RL ro σ w k es l->es[e]?=some c->LR ro σ w a m->(∀v∈m,Qu v)->f+a.length<=k->
  RL ro σ w k (es.set e (Sw.splice c f a)) (Sw.splice l (e*k+f) m)
 |_,[],_,_,_,_,_,_,h,_,_,_=>by simp at h
 |0,c0::es,l,m,c,a,f,⟨l1,l2,h1,h2,h3,h4⟩,hc,hm,hp,hf=>by
  simp at hc;subst hc h1;have hl1:=h3.1.length;refine⟨Sw.splice l1 f m,l2,?_,?_,⟨h3.1.splice f hm,Qdj h3.2 hp⟩,h4⟩
  .unfold Sw.splice;simp[Nat.zero_mul,Xs,Vc];rw[X2 (by omega),X3 (by rw[hm.length];omega)]
  .rw[Q7 (by omega)];exact h2
 |e+1,c0::es,l,m,c,a,f,⟨l1,l2,h1,h2,h3,h4⟩,hc,hm,hp,hf=>by
  subst h1;have hl1:=h3.1.length;refine⟨l1,Sw.splice l2 (e*k+f) m,?_,h2,h3,RL.splice h4 (by grind) hm hp hf⟩;have e1:(e+1)*k+f=l1.length+(e*k+f):=by grind
  unfold Sw.splice;rw[e1,X6,show l1.length+(e*k+f)+m.length=l1.length+(e*k+f+m.length)from by omega,X5];simp
theorem RL.length{ro:Nat->Prop}{σ:Sig}{w:World}{k:Nat}:∀{es:List (List A)} {l:List Value},RL ro σ w k es l->es.length*k<=l.length
 |[],l,_=>by simp
 |c::es,l,⟨l1,l2,h1,h2,h3,h4⟩=>by
  have:=RL.length h4;have:=h3.1.length
  grind[Nat.succ_mul]
theorem QeQ{t n i off T k e f:Nat}{x y:Operand}{es d:List (List A)}{c vs B:List A}{v:A}(ho:o.op=.store t x y)(hx:opA env x=.ptr i off)(J:H[i]?=some (.row T k es))(hs:∀w,(sizeOf t).run P w=.ok n w)
  (h:off=e*k+f)(Y:es[e]?=some c)(q:opA env y=v)(Q:Q6 v=true)(V:QZ v=vs)(X:vs.length=n)(F:vs.all Yf=true)(hd:Ym vs=true)(hf:Nat.ble (f+n) k=true)
  (u:splice c f vs=B)(z:es.set e B=d):
  OpU P o env H (H.set i (.row T k d)):=by
 intro fr ro σ N a w r;have j:=Ql r x;rw[hx]at j;obtain⟨b,j,h2⟩:=j;have E:=Ql r y;rw[q]at E;obtain⟨m,h4,g⟩:=E.cells Q;rw[V]at g;obtain⟨l,M,O⟩:=r.sim.blk i _ _ j J;have W:f+n<=k:=by simp_all
 have hm:m.length=n:=by rw[g.length,X]
 have R:e<es.length:=(by grind);have G:off+n<=l.length:=by
  have:=O.length;have h6:=Xy k R
  grind
 have L:=Q9 (P:=P) off 0 M (by omega) (g.plain F);have p:=r.sim.set (x':=.row T k d) (obj:=.cells (splice l off m).toArray T (0,0)) j J rfl
  (λy q=>Qab M (Q7 (by omega)) y q)
  (λex s=>⟨_,s,by
   subst z u h;exact(O.splice Y (g.data hd) (g.plain F) (by omega)).mono ex.nil⟩)
 refine⟨_,ro,[],?_,by grind,p.2⟩
 simp_all[storeVar,execOp,Instr.storeAt,Instr.sureAddr]
end
section
variable {P:Program} {o:Oper} {env:Env} {H:Qc} {fr ro:Nat->Prop} {σ:Sig} {w:World}
theorem Ext.heap{w':World}(h:w'.heap=w.heap):Ext ro σ w ro σ w':=
 ⟨λ_ q=>q,λb _=>by rw[h],λb x q=>by unfold World.shape? at q⊢;grind,λ_ _ q=>q⟩
theorem Sim.heap{w':World}(s:Sim fr ro σ H w)(h:w'.heap=w.heap):Sim fr ro σ H w':=
 ⟨s.len,s.roOk.to (λ_ q=>q) (λb _=>by rw[h]) (λb q=>by rw[h];exact s.roLt b q),λb q=>by rw[h];exact s.frLt b q,s.roFr,λi b x q1 q2 q3=>by rw[h];exact s.own i b x q1 q2 q3,s.inj,
  λi y x q1 q2=>(s.blk i y x q1 q2).keep (Ext.heap h) (by grind) (by grind),
  s.hidTo (· = ·) QX (by grind) (by simp) (by simp) λj d y g1 g2 g3=>.inl ⟨j,y,rfl,g1,g2,id,λc q=>q.keep (by rw[h])⟩⟩
theorem Qi.heap{w':World}(h:w'.heap=w.heap)(ho:w'.os=w.os)(ht:w'.tape=w.tape)(hu:w'.output=w.output)(hd:w.drawn<=w'.drawn):Qi fr ro w ro w':=
 ⟨λ_ q=>q,λb _=>by rw[h],λb _=>by rw[h],by grind,λb x q=>by unfold World.shape? at q⊢;grind,ho,ht,hu,hd⟩
theorem Sim.moved(s:Sim fr ro σ H w){i:Nat}{x:Blk}{y:Option Nat}(r:H[i]?=some x)(hσ:σ[i]?=some y):Sim fr ro (σ++[y]) (H.set i .dead++[x]) w:=by
 have F:=s.len;have Q:i<H.length:=(by grind);have a:∀(j:Nat) (z:Option Nat) (v:Blk),(σ++[y])[j]?=some z->(H.set i .dead++[x])[j]?=some v->v≠ .dead->
   (j<σ.length/\j≠i/\σ[j]?=some z/\H[j]?=some v)\/(j=σ.length/\z=y/\v=x):=by
  grind
 have hσ':∀(j:Nat) (b:Nat),σ[j]?=some (some b)->(σ++[y])[j]?=some (some b):=(by grind);have ext:Ext ro σ w ro (σ++[y]) w:=⟨λ_ q=>q,λ_ _=>rfl,λ_ _ q=>q,hσ'⟩;refine⟨by simp[F],s.roOk,s.frLt,s.roFr,?_,?_,?_,s.hidTo (λj B=>(j<σ.length/\j≠i/\B=j)\/(j=σ.length/\B=i)) (by omega) (XO _) (by simp) (by simp) λj d y L O J=>.inl ?_⟩
 rotate_left 3
 .rcases a j _ y L O (Qe0 J)with⟨N,P,e,f⟩|⟨N,n,rfl⟩
  .grind
  grind
 .intro j b v h k g;rcases a j _ v h k (Qa1 g)with⟨_,_,e,f⟩|⟨_,n,rfl⟩
  .exact s.own j b v e f g
  .subst n;exact s.own i b v hσ r g
 .intro j t b v p h k g G l m;rcases a j _ v h g (Qa1 l)with⟨_,E,e,f⟩|⟨R,n,M⟩<;>rcases a t _ p k G (Qa1 m)with⟨_,n1',q1',q2'⟩|⟨r1',e1',r2'⟩
  .exact s.inj j t b v p e q1' f q2' l m
  .subst e1' r2';exact(E (s.inj j i b v p e hσ f r l m)).elim
  .subst n M;exact(n1' (s.inj t i b p v q1' hσ q2' r m l)).elim
  omega
 .intro j z v h k;by_cases u:v≠ .dead
  .rcases a j z v h k u with⟨_,_,e,f⟩|⟨_,rfl,rfl⟩
   .exact(s.blk j z v e f).keep ext (λ_ _ _=>rfl) (λ_ _ _ _=>rfl)
   .exact(s.blk i _ _ hσ r).keep ext (λ_ _ _=>rfl) (λ_ _ _ _=>rfl)
  .obtain rfl:v=.dead:=Classical.not_not.1 u;trivial
def Src(P:Program)(H:Qc)(x:A)(k:Nat)(es:List (List A)):Prop:=
 ∀fr ro σ w v,Sim fr ro σ H w->VR ro σ w x v->(∃a c,v=.slice a es.length c)/\allK k es/\
  ∃l,(∀w':World,w'.heap=w.heap->(Builtin.firstCells k es.length v).run P w'=.ok l.toArray w')/\LR ro [] w es.flatten l/\ ∀v∈l,Qu v
theorem RR.flat{b k:Nat}:∀{es:List (List A)} {a:Nat},RR ro σ w b k es a->CR ro σ w b es.flatten a/\allK k es/\es.flatten.length=es.length*k
 |[],a,_=>⟨trivial,trivial,by simp⟩
 |c::es,a,⟨h1,h2,h3⟩=>by
  obtain⟨q1,q2,q3⟩:=RR.flat h3;refine⟨?_,⟨h1,q2⟩,by grind⟩;have:∀(c:List A) (a:Nat) (d:List A),CR ro σ w b c a->CR ro σ w b d (a+c.length)->CR ro σ w b (c++d) a:=by
   intro c
   induction c with
   |nil=>simp
   |cons x c e=>intro a d ⟨h1,h2⟩ h;exact⟨h1,e (a+1) d h2 (by grind)⟩
  grind
theorem Qcb{b a k n c:Nat}{d:List A}(h:CR ro σ w b d a)(i:d.length=n*k):
  ∃l,(∀w',w'.heap=w.heap->(Builtin.firstCells k n (.slice (some ⟨b,a,none⟩) n c)).run P w'=.ok l.toArray w')/\LR ro σ w d l/\ ∀v∈l,Qu v:=by
 obtain⟨l,g,f,e⟩:=Yk (P:=P) 0 (by simpa using h)
 grind[Builtin.firstCells,loadCells]
theorem Qac{k c:Nat}{a:Option Addr}:(Builtin.firstCells k 0 (.slice a 0 c)).run P w=.ok #[] w:=by
 cases a<;>simp[go_sem]
theorem Src.rsl{k:Nat}{es:List (List A)}:Src P H (.rsl k es) k es:=by
 intro l j σ w v s ⟨a,c,h1,h2,h3⟩;subst h1;refine⟨⟨a,c,rfl⟩,?_⟩;rcases h3 with rfl|⟨b,d,rfl,i,e⟩
 .exact⟨trivial,[],λ_ _=>Qac,rfl,by simp⟩
 .obtain⟨f,h,g⟩:=e.flat;exact⟨h,Qcb f g⟩
theorem Src.nils{k:Nat}:Src P H .nils k []:=by
 intro a d σ w v s h;subst h;exact⟨⟨none,0,rfl⟩,trivial,[],λ_ _=>Qac,rfl,by simp⟩
theorem RR.drop{b k:Nat}:∀(n:Nat) {es:List (List A)} {off:Nat},RR ro σ w b k es off->RR ro σ w b k (es.drop n) (off+n*k)
 |0,_,_,h=>by simpa using h
 |n+1,[],_,_=>trivial
 |n+1,c::es,off,⟨h1,h2,h3⟩=>by
  have:=RR.drop n h3
  grind
theorem RR.take{b k:Nat}:∀(n:Nat) {es:List (List A)} {off:Nat},RR ro σ w b k es off->RR ro σ w b k (es.take n) off
 |0,_,_,h=>trivial
 |n+1,[],_,_=>trivial
 |n+1,c::es,off,⟨h1,h2,h3⟩=>⟨h1,h2,RR.take n h3⟩
theorem Src.osl{i s n k t:Nat}{es a:List (List A)}(q:H[i]?=some (.row t k es))(he:(es.drop s).take n=a)(L:s+n<=es.length):Src P H (.osl i s n k) k a:=by
 intro J G σ w v sm h;have j:a.length=n:=by grind
 rcases h with⟨rfl,rfl⟩|⟨b,p,d,B,m,u,rfl,M,z,y,x⟩
 .have e:a=[]:=(by grind);subst e;exact⟨⟨none,0,rfl⟩,trivial,[],λ_ _=>Qac,rfl,by simp⟩
 .rw[j];refine⟨⟨_,d,rfl⟩,?_⟩;obtain⟨l,f,g⟩:=sm.blk i _ _ u q;have r:=((YB (pre:=[]) (by simpa using f) g).drop s).take n;by_cases F:0<d
  .obtain⟨f,g,E⟩:=r.flat
   simp_all[Qcb]
  .obtain rfl:n=0:=by omega
   have e:a=[]:=(by grind);subst e;exact⟨trivial,[],λ_ _=>Qac,rfl,by simp⟩
def Yg:Nat:=4294967296
theorem QcO(n c:Nat)(h:c<n):Builtin.nextslicecap n c<=4*n+1000:=by
 grind[Builtin.nextslicecap,Builtin.growBy]
structure QP (P:Program) (T e k:Nat):Prop where
 sl:∀w,(underlying T).run P w=.ok (.slice e) w
 size:∀w,(sizeOf e).run P w=.ok k w
 zero:∃z,(∀w,(zeroValue e).run P w=.ok z w)/\z.cells.size=k
 bytes:∃i,(∀w,(typeInfo e).run P w=.ok i w)/\i.bytes<=4096
theorem QfE{T k:Nat}{es:List (List A)}{l rest:List Value}(s:Sim fr ro σ H w)(hk:allK k es)(h:LR ro [] w es.flatten l)(hp:∀v∈l,Qu v):
  Sim fr ro (σ++[some w.heap.size]) (H++[.row T k es]) (w.alloc (.cells (l++rest).toArray T))/\Qi fr ro w ro (w.alloc (.cells (l++rest).toArray T)):=
 ⟨s.allocRow hk h hp,Qi.alloc _ s.roLt s.frLt⟩
theorem YE{k:Nat}:∀{es:List (List A)},allK k es->es.flatten.length=es.length*k
 |[],_=>by simp
 |c::es,⟨h1,h2⟩=>by simp[YE h2,h1,Xj,Nat.add_comm]
theorem QcI{k:Nat}:∀{es fs:List (List A)},allK k es->allK k fs->allK k (es++fs)
 |[],_,_,h=>h
 |c::es,_,⟨h1,h2⟩,h=>⟨h1,QcI h2 h⟩
theorem Qei{k:Nat}:∀{es:List (List A)} (n:Nat),allK k es->allK k (es.take n)
 |_,0,_=>trivial
 |[],n+1,_=>trivial
 |c::es,n+1,⟨h1,h2⟩=>⟨h1,Qei n h2⟩
theorem RL.allK{k:Nat}:∀{es:List (List A)} {l:List Value},RL ro σ w k es l->allK k es
 |[],_,_=>trivial
 |c::es,l,⟨l1,l2,h1,h2,h3,h4⟩=>⟨h2,RL.allK h4⟩
theorem RL.app{k:Nat}:∀{n:Nat} {es fs:List (List A)} {l m:List Value},RL ro σ w k es l->n<=es.length->Sw.allK k fs->LR ro σ w fs.flatten m->(∀v∈m,Qu v)->
  RL ro σ w k (es.take n++fs) (Sw.splice l (n*k) m)
 |0,es,fs,l,m,h,hn,hk,hm,hp=>by
  simp_all[Sw.splice,Qaf]
 |n+1,[],fs,l,m,h,hn,hk,hm,hp=>by simp at hn
 |n+1,c::es,fs,l,m,⟨l1,l2,h1,h2,h3,h4⟩,hn,hk,hm,hp=>by
  subst h1;have hl1:=h3.1.length;refine⟨l1,Sw.splice l2 (n*k) m,?_,h2,h3,RL.app h4 (by grind) hk hm hp⟩;have e1:(n+1)*k=l1.length+n*k:=by grind
  unfold Sw.splice;rw[e1,X6,show l1.length+n*k+m.length=l1.length+(n*k+m.length)from by omega,X5];simp
theorem QhT{T T' e e' k need cap:Nat}{t:TypeId}(E:QP P T e k)(J:∀w,(underlying T').run P w=.ok (.slice e') w){ad:Option Addr}{n m c:Nat}{ax:Option Addr}
  (g:need=n+m)(h:cap<need)(a:need<=Yg){old new:List Value}
  (y:∀w':World,w'.heap=w.heap->(Builtin.firstCells k m (.slice ax m c)).run P w'=.ok new.toArray w')(s:∀w':World,w'.heap=w.heap->(Builtin.firstCells k n (.slice ad n cap)).run P w'=.ok old.toArray w'):
  ∃(rest:List Value) (d:Nat),(need<=d/\d<=9223372036854775807)/\rest.length=(d-need)*k/\(Builtin.append_ #[T,T'] t #[.slice ad n cap,.slice ax m c]).run P w=
   .ok (.slice (some ⟨w.heap.size,0,none⟩) need d) (({w with drawn:=w.drawn+1}:World).alloc (.cells ((old++new)++rest).toArray e)):=by
 obtain⟨z,N,l⟩:=E.zero;obtain⟨i,G,O⟩:=E.bytes
 let d:=need+w.tape w.drawn (.appendCap need cap e)%(2^63-need)
 refine⟨(Builtin.zeroCells z.cells (d-need)).toList,d,⟨Nat.le_add_right _ _,by
  have:=Nat.mod_lt (w.tape w.drawn (.appendCap need cap e)) (show 0<2^63-need by unfold Yg at a;omega);show need+_%(2^63-need)<=_;omega⟩,by simp[Builtin.zeroCells,l],?_⟩
 have f:¬(need<=cap):=by omega
 have B:¬((need:Int)>IntKind.i64.max/\(False\/i.bytes=0)):=by
  rintro⟨q,_⟩;have:IntKind.i64.max=9223372036854775807:=by decide
  rw[this]at q;unfold Yg at a;omega
 have Q:¬(Builtin.nextslicecap need cap*i.bytes>2^48):=by
  have:=QcO need cap h;have u:=Nat.mul_le_mul this O;unfold Yg at a;omega
 generalize hF:Builtin.firstCells=F at y s;unfold Builtin.append_;rw[hF];have j:∀W:World,(choose (.appendCap need cap e)).run P W=.ok (need+W.tape W.drawn (.appendCap need cap e)%(2^63-need)) {W with drawn:=W.drawn+1}:=by
  intro W;simp[choose,Sem.run,Question.forced,Question.cut]
 have r:∀(x:Nat) (W:World),(askRoom x).run P W=.ok () W:=by
  intro x W;unfold askRoom;split<;>rfl
 have p:∀(c:Array Value) (W:World),(newRow e c).run P W=.ok ⟨W.heap.size,0,none⟩ (W.alloc (.cells c e)):=λc W=>rfl;subst g;simp only[not_and,false_or]at B;have u:¬(((n+m:Nat):Int)>IntKind.i64.max/\(False\/i.bytes=0)):=by simpa using B
 simp only[XB,Xz,XA,Vg,E.sl,E.size,J,G,N,Result.andThen,Builtin.lenOf,Vh,Xh,if_false,XC,
  Xg,if_true,Vl f,Vl u,Vl Q,j,r]
 have M:=s {w with drawn:=w.drawn+1} rfl;have L:=y {w with drawn:=w.drawn+1} rfl;simp only[M,L,p];have H:old.toArray++new.toArray++Builtin.zeroCells z.cells (d-(n+m))=((old++new)++(Builtin.zeroCells z.cells (d-(n+m))).toList).toArray:=by
  apply Xr.1;simp
 rw[<- H]
theorem Qdc{T T' e e' k cap:Nat}{t:TypeId}(E:QP P T e k)(g:∀w,(underlying T').run P w=.ok (.slice e') w){ad:Option Addr}{n m c:Nat}{ax:Option Addr}
  (d:n+m<=cap){new:List Value}(f:(Builtin.firstCells k m (.slice ax m c)).run P w=.ok new.toArray w):
  (Builtin.append_ #[T,T'] t #[.slice ad n cap,.slice ax m c]).run P w=
   match ad with
   |some a=>(do storeCells (a.add (n*k)) new;pure (Value.slice ad (n+m) cap):Sem Value).run P w
   |none=>.ok (.slice ad (n+m) cap) w:=by
 generalize hF:Builtin.firstCells=F at f;unfold Builtin.append_;rw[hF];simp only[XB,Xz,XA,Vg,E.sl,E.size,g,Result.andThen,Builtin.lenOf,Vh,Xh,if_false,XC,
  Xg,if_true,Vm d,f]
 cases ad with
 |none=>rfl
 |some a=>simp only[Vg,Result.andThen,Vh]
theorem Sim.weaken(s:Sim fr ro σ H w){i:Nat}{x x':Blk}(F:H[i]?=some x)(M:x.live=true)(r:∀y,BR ro σ w x y->BR ro σ w x' y)
  (B:∀b c,Hid w x' b c->Hid w x b c:=by exact λ_ _ h=>h.elim):Sim fr ro σ (H.set i x') w:=by
 have a:∀(j:Nat) (v:Blk),(H.set i x')[j]?=some v->(j=i/\v=x')\/(j≠i/\H[j]?=some v):=by
  grind
 have n:∀(j:Nat) (v:Blk),(H.set i x')[j]?=some v->v.live=true->∃e,H[j]?=some e/\e.live=true:=by
  grind
 refine⟨by rw[XY];exact s.len,s.roOk,s.frLt,s.roFr,?_,?_,?_,s.hidTo (· = ·) QX (XO _) (by simp) (by simp) λj d y L O N=>.inl ?_⟩
 rotate_left 3
 .grind
 .intro j b v f g m;obtain⟨e,k,p⟩:=n j v g m;exact s.own j b e f k p
 .intro j t b v e f g m G z E;obtain⟨u,k,p⟩:=n j v m z;obtain⟨J,q,l⟩:=n t e G E;exact s.inj j t b u J f g k q p l
 .intro j y v f g;rcases a j v g with⟨rfl,rfl⟩|⟨_,h⟩
  .exact r y (s.blk j y x f F)
  .exact s.blk j y v f h
theorem RL.take{k:Nat}:∀(n:Nat) {es:List (List A)} {l:List Value},RL ro σ w k es l->RL ro σ w k (es.take n) l
 |0,_,_,_=>trivial
 |n+1,[],_,_=>trivial
 |n+1,c::es,l,⟨l1,l2,h1,h2,h3,h4⟩=>⟨l1,l2,h1,h2,h3,RL.take n h4⟩
theorem Qaj{c:Call}{T T':TypeId}{x y:Operand}(a:o.op=.call c)(d:c={callee:=.builtin .append,args:= #[x,y],argTypes:= #[T,T']})(ρ:Operand->Value){v:Value}{w':World}
  (h:(Builtin.append_ #[T,T'] o.type #[ρ x,ρ y]).run P w=.ok v w'):(execOp ρ o).run P w=.ok (.value v) w':=by
 simp_all[execOp,resolve,invoke,Go.builtin]
theorem Sim.phantom(s:Sim fr ro σ H w)(t k:Nat):Sim fr ro (σ++[none]) (H++[.row t k []]) w:=by
 have h:=s.len;have f:∀(i b:Nat),(σ++[none])[i]?=some (some b)->i<σ.length:=by
  grind
 refine⟨by simp[h],s.roOk,s.frLt,s.roFr,?_,?_,?_,s.hidTo (· = ·) QX (XO _) (by simp) (by simp) λj d y a e g=>.inl ?_⟩
 rotate_left 3
 .grind
 .intro i b z a e g;have q:=f i b a;rw[XH q]at a;rw[XH (by omega)]at e;exact s.own i b z a e g
 .intro i j b z B a e g l m n;have x:=f i b a;have u:=f j b e;rw[XH x]at a;rw[XH u]at e;rw[XH (by omega)]at g l;exact s.inj i j b z B a e g l m n
 .intro i y z a e;have ext:Ext ro σ w ro (σ++[none]) w:=⟨λ_ q=>q,λ_ _=>rfl,λ_ _ q=>q,(by grind)⟩;rcases Nat.lt_trichotomy i σ.length with q|q|q
  .rw[XH q]at a;rw[XH (by omega)]at e;exact(s.blk i y z a e).keep ext (λ_ _ _=>rfl) (λ_ _ _ _=>rfl)
  .subst q;have r:(σ++[none])[σ.length]?=some none:=by simp
   have p:(H++[Blk.row t k []])[σ.length]?=some (.row t k []):=by grind
   rw[r]at a;rw[p]at e;cases a;cases e;rfl
  grind
theorem Sim.kill(s:Sim fr ro σ H w)(i:Nat):Sim fr ro σ (H.set i .dead) w:=by
 have a:∀(j:Nat) (v:Blk),(H.set i .dead)[j]?=some v->v≠ .dead->H[j]?=some v:=by
  grind
 refine⟨by rw[XY];exact s.len,s.roOk,s.frLt,s.roFr,?_,?_,?_,s.hidTo (· = ·) QX (XO _) (by simp) (by simp) λj d y p r u=>.inl ⟨j,y,rfl,p,a j y r (Qe0 u),id,λ_ q=>q⟩⟩
 .intro j b v e f g;exact s.own j b v e (a j v f (Qa1 g)) g
 .intro j l b v m e f g t h n;exact s.inj j l b v m e f (a j v g (Qa1 h)) (a l m t (Qa1 n)) h n
 .intro j y v e f;by_cases k:v≠ .dead
  .exact s.blk j y v e (a j v f k)
  .obtain rfl:v=.dead:=Classical.not_not.1 k;trivial
theorem grown{c:Call}{T T' e e' k n m cap cx:Nat}{x y:Operand}{es fs:List (List A)}{a:Act}{ad ax:Option Addr}{old new:List Value}(E:QP P T e k)(R:∀w,(underlying T').run P w=.ok (.slice e') w)(Q:o.op=.call c)
  (M:c={callee:=.builtin .append,args:= #[x,y],argTypes:= #[T,T']})(J:a.eval x=.slice ad n cap)(h2:a.eval y=.slice ax m cx)(s:Sim fr ro σ H w)(f:cap<n+m)(r:n+m<=Yg)
  (i:∀w',w'.heap=w.heap->(Builtin.firstCells k n (.slice ad n cap)).run P w'=.ok old.toArray w')(l:∀w',w'.heap=w.heap->(Builtin.firstCells k m (.slice ax m cx)).run P w'=.ok new.toArray w')
  (j:LR ro [] w es.flatten old)(O:∀v∈old,Qu v)(q:allK k es)(p:LR ro [] w fs.flatten new)(N:∀v∈new,Qu v)(h:allK k fs)(X:es.length=n)(u:fs.length=m):
  ∃v w' ro' τ,(execOp a.eval o).run P w=.ok (.value v) w'/\VR ro' (σ++τ) w' (.osl H.length 0 (n+m) k) v/\Sim fr ro' (σ++τ) (H++[.row e k (es++fs)]) w'/\Qi fr ro w ro' w':=by
 obtain⟨d,Y,z,B,g⟩:=QhT E R rfl f r l i
 let w0:={w with drawn:=w.drawn+1}
 have s0:Sim fr ro σ H w0:=s.heap rfl;have L:Qi fr ro w ro w0:=Qi.heap rfl rfl rfl rfl (Nat.le_succ _);have t:LR ro [] w0 (es++fs).flatten (old++new):=by
  rw[List.flatten_append];exact(j.append p).mono (Ext.heap (w:=w) rfl)
 obtain⟨W,V⟩:=QfE s0 (QcI q h) t (λv hv=>by grind);have hexec:=Qaj Q M a.eval (by rw[J,h2];exact g);refine⟨_,_,ro,[some w.heap.size],hexec,.inr ⟨w.heap.size,0,Y,e,(old++new++d).length,?_,rfl,λ_=>by simp,z,?_,?_⟩,W,L.trans V⟩
 .rw[<- s.len];simp
 .have:=Yi w0 (.cells ((old++new)++d).toArray e);unfold World.shape?
  grind
 .have F:=j.length;have G:=p.length;rw[YE q]at F;rw[YE h]at G;simp[XX,B,F,G,u];rw[<- Xw, <- Xw]
  grind
theorem Qd0{c:Call}{T T' e e' k:Nat}{x y:Operand}{i:A}{fs:List (List A)}(E:QP P T e k)(p:∀w,(underlying T').run P w=.ok (.slice e') w)(n:o.op=.call c)
  (j:c={callee:=.builtin .append,args:= #[x,y],argTypes:= #[T,T']})(J:opA env x=.nils)(F:opA env y=i)(z:Src P H i k fs)(q:fs.length<=Yg):
  OpH P o env H (.osl H.length 0 fs.length k) (H++[.row e k fs]):=by
 intro B m σ N a w r;have h:=Ql r x;rw[J]at h;have s:=Ql r y;rw[F]at s;obtain⟨⟨O,Q,f⟩,L,l,g,G,u⟩:=z B m σ w _ r.sim s;rw[f]at g;by_cases M:fs.length=0
 .have d:fs=[]:=(by grind);subst d;refine⟨.slice none 0 0,w,m,[none],(Qaj n j _ ?_),.inl ⟨rfl,rfl⟩,r.sim.phantom e k,Qi.refl _ _ _⟩;rw[h,f];have:=Qdc (t:=o.type) E p (ad:=none) (XO 0) (g w rfl);omega
 .have:=grown (es:=[]) E p n j h f r.sim (by omega) (by omega) (λ_ _=>Qac) g rfl (by simp) trivial G u L rfl rfl
  grind
theorem QfD{c:Call}{T T' e e' k i n:Nat}{x y:Operand}{ya:A}{es fs gs:List (List A)}(E:QP P T e k)(hd:∀w,(underlying T').run P w=.ok (.slice e') w)(F:o.op=.call c)
  (R:c={callee:=.builtin .append,args:= #[x,y],argTypes:= #[T,T']})(hx:opA env x=.osl i 0 n k)(Y:H[i]?=some (.row e k es))(hn:n<=es.length)(u:opA env y=ya)(hs:Src P H ya k fs)(g:n+fs.length<=Yg)
  (hg:es.take n++fs=gs):OpH P o env H (.osl H.length 0 (n+fs.length) k) (H.set i .dead++[.row e k gs]):=by
 intro fr z σ N a w r;subst hg;have j:=Ql r x;rw[hx]at j;have h2:=Ql r y;rw[u]at h2;obtain⟨⟨ay,cy,X⟩,q2,l,J,V,q5⟩:=hs fr z σ w _ r.sim h2;rw[X]at J;have q:i<H.length:=(by grind);have ag:(H.set i .dead).length=H.length:=XY;obtain⟨s,hσ⟩:∃s,σ[i]?=some s:=⟨_,XF (by rw[r.sim.len];exact q)⟩;rcases j with⟨rfl,j⟩|⟨b,p,cap,t',mm,G,j,W,h5,B,h7⟩
 ·
  by_cases hm:fs.length=0
  .have h:fs=[]:=(by grind);subst h;refine⟨.slice none 0 0,w,z,[none],?_,.inl ⟨rfl,rfl⟩,(r.sim.kill i).phantom e k,Qi.refl _ _ _⟩;refine Qaj F R _ ?_;rw[j,X];have:=Qdc (t:=o.type) E hd (ad:=none) (n:=0) (m:=0) (cap:=0) (c:=cy) (ax:=ay) (XO 0) (J w rfl);omega
  .have:=grown (es:=[]) (old:=[]) E hd F R j X (r.sim.kill i) (by omega) g (λ_ _=>Qac) J rfl (by simp) trivial V q5 q2 rfl rfl
   grind
 .have M:=r.sim.blk i _ _ G Y;obtain⟨Q,L,g2⟩:=M;have aa:(es.take n).length=n:=by simp;omega
  obtain⟨old,o1,o2,o3⟩:∃old:List Value,(∀w':World,w'.heap=w.heap->(Builtin.firstCells k n (.slice (some ⟨b,p,none⟩) n cap)).run P w'=.ok old.toArray w')/\LR z [] w (es.take n).flatten old/\ ∀v∈old,Qu v:=by
   have O:Src P H (.osl i 0 n k) k (es.take n):=Src.osl Y (by simp) (by omega);obtain⟨_,_,l',z1,z2,z3⟩:=O fr z σ w (.slice (some ⟨b,p,none⟩) n cap) r.sim (.inr ⟨b,p,cap,t',mm,G,rfl,W,h5,B,h7⟩)
   grind
  by_cases f:n+fs.length<=cap
  .have ae:=Qdc (t:=o.type) E hd (ad:=some ⟨b,p,none⟩) (n:=n) (m:=fs.length) (cap:=cap) (c:=cy) (ax:=ay) f (J w rfl);have ah:l.length=fs.length*k:=by rw[V.length,YE q2]
   by_cases hm:fs.length=0
   .have h:fs=[]:=(by grind);subst h;have el:l=[]:=(by simp_all);subst el;have sw:=(r.sim.weaken (x':=.row e k (es.take n)) Y rfl (by
     intro y u;cases y with
     |none=>simp only[BR]at u⊢;grind
     |some y=>obtain⟨Q,L,g2⟩:=u;exact⟨Q,L,g2.take n⟩))
    have sm:=sw.moved (i:=i) (Xa q) G;rw[List.set_set]at sm;refine⟨.slice (some ⟨b,p,none⟩) n cap,w,z,[some b],?_,.inr ⟨b,p,cap,t',mm,?_,by simp,W,by omega,B,h7⟩,by grind,Qi.refl _ _ _⟩
    .refine Qaj F R _ ?_
     simp_all[storeCells]
    .rw[<- r.sim.len];simp
   .obtain rfl:p=0*k:=W (by omega);have ac:(n+fs.length)*k<=Q.length:=by
     have:w.shape? b=some (e,Q.length):=by unfold World.shape?;rw[L];simp
     rw[this]at B;cases B;exact XQ (Xy k f) (by grind)
    rw[Xw]at ac;have af:=Q9 (P:=P) (vs:=l) (n*k) 0 L (by omega) q5;have d:=r.sim.set (x':=.row e k (es.take n++fs)) (obj:=.cells (splice Q (n*k) l).toArray e (0,0)) G Y rfl
     (λy u=>Qab L (Q7 (by omega)) y u)
     (λex ab=>⟨_,ab,(g2.app hn q2 V q5).mono ex.nil⟩)
    have sm:=d.1.moved (i:=i) (Xa q) G;rw[List.set_set]at sm;refine⟨.slice (some ⟨b,0*k,none⟩) (n+fs.length) cap,_,z,[some b],?_,.inr ⟨b,0*k,cap,t',mm,?_,rfl,W,⟨f,h5.2⟩,?_,h7⟩,sm,d.2⟩
    .refine Qaj F R _ ?_
     simp_all[QaM]
    .rw[<- r.sim.len];simp
    .exact d.2.shape _ _ B
  .have:=grown (es:=es.take n) (old:=old) (fs:=fs) E hd F R j X (r.sim.kill i) (by omega) g o1 J o2 o3 (Qei n g2.allK) V q5 q2 aa rfl
   grind
end
section
variable {P:Program} {o:Oper} {env:Env} {H:Qc}
theorem OpC.fn{c:Call}{f:FuncId}{xs:List Operand}{h:Array TypeId}{args:List A}(d:∀(a:Array Value) (w:World),(callFunc f a).run P w=.ok (.enter f a) w)(i:o.op=.call c)
  (j:c={callee:=.value (.func f),args:=xs.toArray,argTypes:=h})(g:xs.map (opA env)=args):OpC P o env H f args:=by
 intro l k σ N a w r;refine⟨xs.map a.eval,?_,g▸QaL r xs⟩;have e:a.eval (.func f)=.func (.func f) #[] #[]:=rfl
 grind[execOp,resolve,Deferred.ofValue,invoke]
theorem YY{c:Call}{f:FuncId}{x:Operand}{xs:List Operand}{m:Array TypeId}{args h g:List A}(d:∀(a:Array Value) (w:World),(callFunc f a).run P w=.ok (.enter f a) w)(q:o.op=.call c)
  (s:c={callee:=.value x,args:=xs.toArray,argTypes:=m})(k:opA env x=.fn (.func f) h g)(j:h++(xs.map (opA env)++g)=args):OpC P o env H f args:=by
 intro u t σ N a w r;have e:=Ql r x;rw[k]at e;obtain⟨l,n,e,p,i⟩:=e;refine⟨l++(xs.map a.eval++n),?_,j▸p.append ((QaL r xs).append i)⟩
 grind[execOp,resolve,Deferred.ofValue,invoke]
def Qbq(ρ:Nat->Nat)(env:Env):Env->Prop
 |[]=>True
 |(s,a)::r=>lk env s=Yz ρ a/\Qbq ρ env r
theorem Qbq.ok{ro:Nat->Prop}{σ σ':Sig}{w:World}{ρ:Nat->Nat}(h:∀i,σ[ρ i]?=σ'[i]?){t:Array Value}(r:∀s,VR ro σ w (lk env s) (t.getD s undef)):
  ∀{f:Env},Qbq ρ env f->∀s,VR ro σ' w (lk f s) (t.getD s undef)
 |[],_,s=>trivial
 |(d,a)::e,⟨h1,h2⟩,s=>by
  simp only[lk];by_cases q:s=d
  .grind[Nat.beq_refl,Qcm]
  .have:Nat.beq s d=false:=by
    simp_all[VB]
   rw[this];exact Qbq.ok h r h2 s
theorem Sim.sub{fr ro:Nat->Prop}{σ:Sig}{w:World}{π:List Nat}{H':Qc}(s:Sim fr ro σ H w)(z:π.map (λp=>H[p]?)=(H'.map (QM (rho π H.length))).map some)(hπ:π.Nodup):
  Sim fr ro (Q4 σ π) H' w/\ ∀j:Nat,σ[rho π H.length j]?=(Q4 σ π)[j]? :=by
 have G:∀p∈π,p<H.length:=λp q=>YK z q;have hσl:=s.len;have M:∀(j p:Nat),π[j]?=some p->H[p]?=(H'[j]?).map (QM (rho π H.length)):=by
  intro j p e;have:=congrArg (λl=>l[j]?) z
  grind
 have k:π.length=H'.length:=by simpa using congrArg List.length z
 have hσc:∀j:Nat,σ[rho π H.length j]?=(Q4 σ π)[j]? :=by
  intro j;have:=QcQ (τ:=[]) hσl G j
  grind
 have hπj:∀(j b:Nat),(Q4 σ π)[j]?=some (some b)->∃p,π[j]?=some p/\σ[p]?=some (some b):=by
  intro j b e;simp only[Q4,Xl]at e
  grind
 have hπi:∀(i j p:Nat),π[i]?=some p->π[j]?=some p->i=j:=by
  intro i j p g a;have r:i<π.length:=(by grind);have e:j<π.length:=(XG.1 a).1;rw[XF r]at g;rw[XF e]at a;have h:=(XU g).trans (XU a).symm;rcases Nat.lt_trichotomy i j with q|q|q
  .exact(Vt.1 hπ i j r e q h).elim
  .exact q
  .exact(Vt.1 hπ j i e r q h.symm).elim
 refine⟨⟨by simp[Q4,k],s.roOk,s.frLt,s.roFr,?_,?_,?_,s.hidTo (λj p=>π[j]?=some p) hπi (XO _) (λ_ _ _ _ _ _ _ q=>q) (λ_ _ _ _ _ _ _ q=>q) λj d y J Q P=>.inl ?_⟩,hσc⟩
 rotate_left 3
 .obtain⟨p,g,f⟩:=hπj j d J;exact⟨p,QM (rho π H.length) y,g,f,by grind,by rw[Qz];exact id,λc q=>(Qah _ _ _ _ _).2 q⟩
 .intro j b x n B E;obtain⟨p,g,f⟩:=hπj j b n;have m:H[p]?=some (QM (rho π H.length) x):=by grind
  exact s.own p b _ f m (by rw[Qz];exact E)
 .intro i j b x y n B E O L N;obtain⟨p,g,f⟩:=hπj i b n;obtain⟨F,a,u⟩:=hπj j b B;have m:H[p]?=some (QM (rho π H.length) x):=by grind
  have t:H[F]?=some (QM (rho π H.length) y):=by grind
  have:=s.inj p F b _ _ f u m t (by rw[Qz];exact L) (by rw[Qz];exact N)
  grind
 .intro j y x n B;have e:j<π.length:=by
   grind
  have g:π[j]?=some π[j]:=XF e;have m:H[π[j]]?=some (QM (rho π H.length) x):=by grind
  have f:σ[π[j]]?=some y:=by
   grind[rho]
  exact(Qe1 hσc).1 (s.blk _ y _ f m)
theorem Qka{f:Nat}{d:Env}{H':Qc}(π:List Nat)(e:π.take f=List.range f)(g:π.map (λp=>H[p]?)=(H'.map (QM (rho π H.length))).map some)(hπ:π.Nodup)
  (hE:Qbq (rho π H.length) env d):Le f env H d H':=by
 intro l i σ N a w r;obtain⟨h,hσ⟩:=r.sim.sub g hπ;refine⟨i,Q4 σ π,⟨h,Qbq.ok hσ r.env hE,r.size,r.defers⟩,λ_ q=>q,?_⟩;have j:=r.sim.len;have k:∀p∈π,p<H.length:=λp q=>YK g q;unfold Q4;rw[<- List.map_take,e];apply List.ext_getElem?
 grind
theorem Le.phantom{f s k t:Nat}(g:f<=H.length)(h:lk env s=.nils):Le f env H (up env s (.osl H.length 0 0 k)) (H++[.row t k []]):=by
 intro i e σ N a w r;refine⟨e,σ++[none],⟨r.sim.phantom t k,?_,r.size,r.defers⟩,λ_ q=>q,QB (by rw[r.sim.len];exact g)⟩;have ext:Ext e σ w e (σ++[none]) w:=⟨λ_ q=>q,λ_ _=>rfl,λ_ _ q=>q,(by grind)⟩;intro d;simp only[lk];by_cases q:d=s
 .subst q;rw[Vu];have:=r.env d;rw[h]at this;exact .inl ⟨rfl,this⟩
 .have:Nat.beq d s=false:=by
   simp_all[VB]
  rw[this];exact(r.env d).mono ext
theorem Qjr{f s k:Nat}(g:lk env s=.nils):Le f env H (up env s (.rsl k [])) H:=by
 intro h e σ N a w r;refine⟨e,σ,⟨r.sim,?_,r.size,r.defers⟩,λ_ q=>q,rfl⟩;intro d;simp only[lk];by_cases q:d=s
 .subst q;rw[Vu];have:=r.env d;rw[g]at this;exact⟨none,0,this,XO _,.inl rfl⟩
 .have:Nat.beq d s=false:=by
   simp_all[VB]
  rw[this];exact r.env d
mutual
def QW:A->Bool
 |.bool _=>true
 |.int _ _=>true
 |.str _=>true
 |.tup vs=>QcR vs
 |_=>false
def QcR:List A->Bool
 |[]=>true
 |a::r=>QW a&&QcR r
end
mutual
theorem VR.scalar{ro ro':Nat->Prop}{σ σ':Sig}{w w':World}:∀{a:A} {v:Value},QW a=true->VR ro σ w a v->VR ro' σ' w' a v
 |.bool _,_,_,h=>h
 |.int _ _,_,_,h=>h
 |.str _,_,_,h=>h
 |.tup vs,v,hs,h=>by
  simp only[VR,QW]at h hs⊢;obtain⟨l,h1,h2⟩:=h;exact⟨l,h1,LR.scalar hs h2⟩
 |.any,_,hs,_=>by simp[QW]at hs
 |.nilp,_,hs,_=>by simp[QW]at hs
 |.ptr _ _,_,hs,_=>by simp[QW]at hs
 |.rp _,_,hs,_=>by simp[QW]at hs
 |.nils,_,hs,_=>by simp[QW]at hs
 |.rsl _ _,_,hs,_=>by simp[QW]at hs
 |.osl _ _ _ _,_,hs,_=>by simp[QW]at hs
 |.agg _,_,hs,_=>by simp[QW]at hs
 |.fn _ _ _,_,hs,_=>by simp[QW]at hs
 |.nilf,_,hs,_=>by simp[QW]at hs
 |.iface _ _,_,hs,_=>by simp[QW]at hs
 |.nilif,_,hs,_=>by simp[QW]at hs
 |.map _,_,hs,_=>by simp[QW]at hs
 |.nilm,_,hs,_=>by simp[QW]at hs
theorem LR.scalar{ro ro':Nat->Prop}{σ σ':Sig}{w w':World}:∀{az:List A} {l:List Value},QcR az=true->LR ro σ w az l->LR ro' σ' w' az l
 |[],_,_,h=>h
 |a::r,l,hs,h=>by
  simp only[LR,QcR,XR]at h hs⊢;obtain⟨v,l',h1,h2,h3⟩:=h;exact⟨v,l',h1,VR.scalar hs.1 h2,LR.scalar hs.2 h3⟩
end
def Look(H:Qc):A->A->Prop:=λa a'=>(a'=a/\Yd a=true)\/ ∃i n k t es,a=.osl i 0 n k/\H[i]?=some (.row t k es)/\es.length=n/\a'=.rsl k es
def QaQ(H:Qc):List A->List A->Prop
 |[],[]=>True
 |a::az,b::bs=>Look H a b/\QaQ H az bs
 |_,_=>False
theorem Qb3{h0 N:Nat}{Q:Qx}{all:Array Oper}{l:List Oper}{d:Nat}{f:FuncId}{args B:List A}{Qr:A->Qc->Prop}(aa:OpC P o env H f args)(hv:QaQ H args B)(hC:C P f B [] Qr)
  (ab:∀r H1,Qr r H1->QW r=true)(k:∀r H1,Qr r H1->WO P h0 N all l (up env d r) H Q)(hg:Qs all o env true:=by exact rfl)(hd:o.dst=some d:=by exact rfl)(hN:Nat.blt d N=true:=by exact rfl):WO P h0 N all (o::l) env H Q:=by
 intro rd fr ro σ a w r hrd;obtain⟨X,h1,h2⟩:=aa fr ro σ N a w r;refine Qd1 (Yp hg r) h1 ?_
 let roc:Nat->Prop:=λb=>ro b\/ ∃(i:Nat) (x:Blk),σ[i]?=some (some b)/\H[i]?=some x/\x.live=true
 let frc:Nat->Prop:=λb=>fr b\/ ∃(i:Nat) (x:Blk) (d:Nat),σ[i]?=some (some d)/\H[i]?=some x/\Hid w x d b
 have W:Sim frc roc [] [] w:=by
  refine⟨rfl,r.sim.roOk.to (λ_ q=>.inl q) (λ_ _=>rfl) ?_,?_,?_,by simp,by simp,by simp,by simp⟩
  .rintro b (q|⟨i,x,u,z,F⟩)
   .exact r.sim.roLt b q
   .exact(r.sim.own i b x u z F).1
  .rintro b (q|⟨i,x,d,u,z,F⟩)
   .exact r.sim.frLt b q
   .exact(r.sim.hid i d x b u z F).lt
  .rintro b (q|⟨i,x,u,z,F⟩) (q'|⟨i',x',d',R,T,Y⟩)
   .exact r.sim.roFr b q q'
   .exact(r.sim.hid i' d' x' b R T Y).ro q
   .exact(r.sim.own i b x u z F).2.2 q'
   .exact(r.sim.hid i' d' x' b R T Y).ne i b x u z F rfl
 have J:∀(az E:List A) (l:List Value),QaQ H az E->LR ro σ w az l->LR roc [] w E l:=by
  intro az
  induction az with
  |nil=>
   intro E l G h;cases E with
   |nil=>exact h
   |cons b E=>exact G.elim
  |cons x az ih=>
   intro E l G h;cases E with
   |nil=>exact G.elim
   |cons y E=>
    obtain⟨hx,G⟩:=G;obtain⟨v,l',rfl,hv,h⟩:=h;refine⟨v,l',rfl,?_,ih E l' G h⟩;rcases hx with⟨rfl,hx⟩|⟨i,n,k,t,es,rfl,hH,hn,rfl⟩
    .exact(hv.data (σ':=[]) hx).mono ⟨λ_ q=>.inl q,λ_ _=>rfl,λ_ _ q=>q,λ_ _ q=>q⟩
    .subst hn;rcases hv with⟨h0,h⟩|⟨b,p,V,t',m,h1,h,h2,⟨h3,af⟩,h4,h5⟩
     .have:es=[]:=(by grind);subst this;exact⟨none,0,h,XO _,.inl rfl⟩
     .refine⟨_,V,h,h3,?_⟩;by_cases he:es=[]
      .exact .inl he
      .right;have hc:0<V:=X9 (by grind) h3;obtain rfl:=h2 hc;obtain⟨l,u,z⟩:=r.sim.blk i _ _ h1 hH;refine⟨b,0,by simp,.inr ⟨i,_,h1,hH,rfl⟩,?_⟩;have:=YB (pre:=[]) (by simpa using u) z;exact this.keep ⟨λ_ q=>.inl q,λ_ _=>rfl,λ_ _ q=>q,λ_ _ q=>q⟩ rfl
 refine Calls.mono (hC frc roc [] X w W (J _ _ _ hv h2)) ?_;rintro e L ⟨v,rr,H1,ae,τ,rfl,hq,sc,ac,ev⟩;have O:∀(i b:Nat) (x:Blk),σ[i]?=some (some b)->H[i]?=some x->x.live=true->L.heap[b]?=w.heap[b]? :=λi b x u z F=>ev.keepRo b (by grind);have g:Qi fr ro w ro L:=⟨λ_ q=>q,λb q=>ev.keepRo b (.inl q),λb q=>ev.keepFr b (.inl q),ev.size,ev.shape,ev.os,ev.tape,ev.output,ev.drawn⟩;have M:Sim fr ro σ H L:=by
  refine⟨r.sim.len,r.sim.roOk.to (λ_ q=>q) g.keepRo (λb q=>X9 (r.sim.roLt b q) ev.size),λb q=>X9 (r.sim.frLt b q) ev.size,r.sim.roFr,?_,r.sim.inj,?_,r.sim.hidTo (· = ·) QX ev.size (by simp) (by simp) λj d y g1 g2 g3=>.inl ⟨j,y,rfl,g1,g2,id,λc q=>r.sim.hidKeep g1 g2 (O j d y g1 g2) g.keepRo q⟩⟩
  .intro i b x u z F;obtain⟨p1,p2,p3⟩:=r.sim.own i b x u z F
   grind
  .intro i y x u z;refine(r.sim.blk i y x u z).keep (g.ext0 σ) ?_ ?_
   .grind
   .rintro b c rfl G;exact ev.keepFr c (by grind)
 have hk:=k rr H1 hq;have ad:d<N:=by simp_all
 simp only[hd,Act.put];have r':Rel fr ro σ H (up env d rr) N {a with tmps:=a.tmps.setIfInBounds d v} L:=
  ⟨M,VR.up (fr:=fr) (λs=>(r.env s).mono (g.ext0 σ)) (by rw[r.size];exact ad) (ac.scalar (ab _ _ hq)),by simpa using r.size,r.defers.keep g⟩
 exact⟨_,rfl,Q3 (λe a w q=>q.step g rfl) _ _ _ (hk rd fr ro σ _ L r' (hrd.to g λ_ q=>q))⟩
end
section
variable {P:Program} {o:Oper} {env:Env} {H:Qc}
theorem Qeb{α:Type}:∀(vs:List α) (a i:Nat) (l:List α),a+i+vs.length<=l.length->
  (vs.zipIdx i).foldl (λcs x=>cs.setIfInBounds (a+x.2) x.1) l.toArray=(splice l (a+i) vs).toArray
 |[],a,i,l,h=>by simp[splice]
 |v::vs,a,i,l,h=>by
  simp[XV]at h;rw[List.zipIdx_cons,List.foldl_cons];have e1:l.toArray.setIfInBounds (a+i) v=(splice l (a+i) [v]).toArray:=by
   have:l.toArray.setIfInBounds (a+i) v=(l.set (a+i) v).toArray:=by simp
   rw[this];rw[List.set_eq_take_append_cons_drop,Vm (by omega)];simp[splice]
  rw[e1,Qeb vs a (i+1) _ (by grind)];have d:(l.take (a+i)).length=a+i:=by simp;omega
  unfold splice;have e:a+(i+1)=(l.take (a+i)).length+1:=by omega
  have g:(l.take (a+i)++([v]++l.drop (a+i+[v].length))).take ((l.take (a+i)).length+1)=l.take (a+i)++[v]:=by
   grind
  have f:(l.take (a+i)++([v]++l.drop (a+i+[v].length))).drop ((l.take (a+i)).length+1+vs.length)=l.drop (a+i+(v::vs).length):=by
   rw[show(l.take (a+i)).length+1+vs.length=(l.take (a+i)).length+(1+vs.length)from by omega,X5];simp[Nat.add_comm 1];omega
  simp_all
theorem Qed{a:Nat->Option (Nat×Nat)}{l:List Value}{i d size:Nat}{v:Value}{m:List Value}{rest:List (Nat×Value)}(e:a i=some (d,size))(f:v.cells=m.toArray)(h:m.length=size)
  (g:d+size<=l.length):Instr.fill a l.toArray ((i,v)::rest)=Instr.fill a (splice l d m).toArray rest:=by
 rw[Instr.fill];simp[e];rw[Vl (by grind),f]
 simp_all[Qeb]
def QaB:Nat->List Operand->List (Nat×Operand)
 |_,[]=>[]
 |i,x::xs=>(i,x)::QaB (i+1) xs
def Yh(env:Env)(xs:List Operand):List (List A):=xs.map λx=>QZ (opA env x)
theorem Qdr{fr ro:Nat->Prop}{σ:Sig}{N:Nat}{a:Act}{w:World}(r:Rel fr ro σ H env N a w){k:Nat}:∀(xs:List Operand) (j:Nat) (pre rest:List Value),pre.length=j*k->rest.length=xs.length*k->
  (xs.all λx=>Q6 (opA env x))=true->allK k (Yh env xs)->
  ∃l,Instr.fill (λi=>some (i*k,k)) (pre++rest).toArray ((QaB j xs).map λp=>(p.1,a.eval p.2))=some (pre++l).toArray/\LR ro σ w (Yh env xs).flatten l
 |[],j,pre,rest,h1,h2,_,_=>by
  have:rest=[]:=(by simp_all);subst this;exact⟨[],rfl,rfl⟩
 |x::xs,j,pre,rest,h1,h2,h3,h4=>by
  simp only[List.all_cons,XR]at h3;obtain⟨hk1,hk2⟩:=h4;obtain⟨m,q1,q2⟩:=(Ql r x).cells h3.1;have hm:m.length=k:=by rw[q2.length];exact hk1
  simp[XV,Xj]at h2;simp[QaB,Vd];rw[Qed rfl q1 hm (by simp;omega)];have e:splice (pre++rest) (j*k) m=(pre++m)++rest.drop k:=by
   unfold splice
   grind[List.drop_length_add_append]
  rw[e];obtain⟨l,d,f⟩:=Qdr r xs (j+1) (pre++m) (rest.drop k) (by grind) (by simp;omega) h3.2 hk2;refine⟨m++l,?_,?_⟩
  .rw[d];simp
  .exact q2.append f
theorem Qbd{fr ro:Nat->Prop}{σ:Sig}{N:Nat}{a:Act}{w:World}(r:Rel fr ro σ H env N a w){T e k n:Nat}{xs:List Operand}(E:QP P T e k)(u:xs.length=n)(q:Nat.ble (n*k) 16777216=true)
  (j:(xs.all λx=>Q6 (opA env x))=true)(m:allK k (Yh env xs)):
  ∃l,(Instr.buildSlice T n (((QaB 0 xs).map λp=>(p.1,a.eval p.2)).toArray)).run P w=.ok (.slice (some ⟨w.heap.size,0,none⟩) n n) (w.alloc (.cells l.toArray e))/\LR ro σ w (Yh env xs).flatten l:=by
 obtain⟨z,t,y⟩:=E.zero;have g:n*k<=16777216:=by simp_all
 have s:∀(c:Array Value) (W:World),(newRow e c).run P W=.ok ⟨W.heap.size,0,none⟩ (W.alloc (.cells c e)):=λc W=>rfl;unfold Instr.buildSlice;by_cases h:n*k=0
 .obtain⟨l,f,d⟩:=Qdr r (k:=k) xs 0 [] [] (by simp) (by grind) j m;refine⟨l,?_,d⟩;simp only[Vg,E.sl,Result.andThen,E.size,h]
  simp_all[Array.range]
 .obtain⟨l,f,d⟩:=Qdr r (k:=k) xs 0 [] ((Array.range (n*k)).map (λi=>z.cells[i%z.cells.size]!)).toList (by simp) (by rw[u];simp) j m;refine⟨l,?_,d⟩;simp only[Vg,E.sl,Result.andThen,E.size,Vl h,XC,t];simp only[Vb]at f;rw[Array.toArray_toList]at f
  simp_all
theorem Qa4{T n:Nat}{xs:List Operand}(a:o.op=.buildSlice T n (QaB 0 xs).toArray)(ρ:Operand->Value){v:Value}{w w':World}
  (h:(Instr.buildSlice T n (((QaB 0 xs).map λp=>(p.1,ρ p.2)).toArray)).run P w=.ok v w'):(execOp ρ o).run P w=.ok (.value v) w':=by
 grind[execOp,Sem.run_bind,Result.andThen,Sem.run_pure]
theorem OpH.lit{T e k n:Nat}{xs:List Operand}{es:List (List A)}(E:QP P T e k)(t:o.op=.buildSlice T n (QaB 0 xs).toArray)(s:xs.length=n)(f:Nat.ble (n*(k+1)) 16777216=true)
  (y:(xs.all λx=>Q6 (opA env x))=true)(g:Yh env xs=es)(d:allK k es)(z:es.flatten.all Yf=true)(u:Ym es.flatten=true):
  OpH P o env H (.osl H.length 0 n k) (H++[.row e k es]):=by
 intro G q σ N a w r;subst g;have i:=XM f;rw[Nat.mul_add]at i;obtain⟨l,B,j⟩:=Qbd r E s (XN (by omega)) y d;have h:LR q [] w (Yh env xs).flatten l:=j.data u;obtain⟨p,m⟩:=QfE r.sim d h (j.plain z);rw[Va]at p m;have F:l.length=n*k:=by rw[j.length,YE d];simp[Yh,s]
 refine⟨_,_,q,[some w.heap.size],Qa4 t a.eval B,.inr ⟨w.heap.size,0,n,e,l.length,?_,rfl,λ_=>by simp,(by omega),?_,by grind⟩,p,m⟩
 .rw[<- r.sim.len];simp
 .unfold World.shape?;rw[Yi];simp
theorem YU{n:Int}{y:Nat}{c:BoundsCode}{w:World}(d:0<=n)(a:n<=y):(Instr.sliceBound (.int .i64 n) y c).run P w=.ok n.toNat w:=by
 simp_all[Instr.sliceBound,asIntOf]
theorem Qgn{T e:Nat}{k:Nat}{w:World}(E1:∀w,(underlying T).run P w=.ok (.slice e) w)(E2:∀w,(sizeOf e).run P w=.ok k w){ad:Option Addr}{n cap:Nat}{lo hi:Option Value}{l h:Nat}(f:n<=cap)
  (d:lo=none/\l=0\/ ∃z:Int,lo=some (.int .i64 z)/\0<=z/\z.toNat=l)(a:hi=none/\h=n\/ ∃z:Int,hi=some (.int .i64 z)/\0<=z/\z.toNat=h)(i:l<=h)(j:h<=n):
  (Instr.sliceAt T (.slice ad n cap) lo hi none).run P w=.ok (.slice (if cap=l then ad else ad.map (·.add (l*k))) (h-l) (cap-l)) w:=by
 have m:(Instr.sliceBounds true n cap lo hi none).run P w=.ok (l,h,cap) w:=by
  rcases d with⟨rfl,rfl⟩|⟨z,rfl,g,rfl⟩<;>rcases a with⟨rfl,rfl⟩|⟨y,rfl,y0,rfl⟩
  .rfl
  .grind[Instr.sliceBounds,Sem.run_bind,Sem.run_pure,Result.andThen,YU]
  .grind[Instr.sliceBounds,Sem.run_bind,Sem.run_pure,Result.andThen,YU]
  .simp[Instr.sliceBounds,Vg,Vh,Result.andThen,YU y0 (show y<=cap by omega),YU g (show z<=y.toNat by omega)]
 simp_all[Instr.sliceAt,Instr.slice]
theorem QbW{fr ro:Nat->Prop}{σ:Sig}{N:Nat}{a:Act}{w:World}(r:Rel fr ro σ H env N a w){x:Option Operand}{l d:Nat}(h:x=none/\l=d\/ ∃y,∃z:Int,x=some y/\opA env y=.int .i64 z/\0<=z/\z.toNat=l):
  x.map a.eval=none/\l=d\/ ∃z:Int,x.map a.eval=some (.int .i64 z)/\0<=z/\z.toNat=l:=by
 rcases h with⟨rfl,rfl⟩|⟨y,z,rfl,g,f,e⟩
 .simp
 grind[QH]
theorem QdM{T e k i s n:Nat}{x:Operand}{lo hi:Option Operand}{l h:Nat}(E1:∀w,(underlying T).run P w=.ok (.slice e) w)(E2:∀w,(sizeOf e).run P w=.ok k w)(G:o.op=.slice T x lo hi none)
  (O:opA env x=.osl i s n k)(j:lo=none/\l=0\/ ∃y,∃z:Int,lo=some y/\opA env y=.int .i64 z/\0<=z/\z.toNat=l)
  (g:hi=none/\h=n\/ ∃y,∃z:Int,hi=some y/\opA env y=.int .i64 z/\0<=z/\z.toNat=h)(t:l<=h)(E:h<=n):OpV P o env H (.osl i (s+l) (h-l) k):=by
 intro V R σ N a w r;have f:=Ql r x;rw[O]at f;rcases f with⟨rfl,f⟩|⟨b,p,u,F,m,f,Q,X,⟨M,L⟩,B,W⟩
 .have d:=Qgn (P:=P) (w:=w) E1 E2 (ad:=none) (XO 0) (QbW r j) (QbW r g) t E;refine⟨_,by simp only[execOp,G,f,Vg,d,Option.map_none];rfl,?_⟩;left
  grind
 .have d:=Qgn (w:=w) E1 E2 (ad:=some ⟨b,p,none⟩) M (QbW r j) (QbW r g) t E;refine⟨_,by simp only[execOp,G,Q,Vg,d,Option.map_none];rfl,?_⟩;right;by_cases J:u=l
  .refine⟨b,p,0,F,m,f,by grind,λq=>by omega,by omega,B,?_⟩
   grind
  .refine⟨b,p+l*k,u-l,F,m,f,by rw[Vl J];simp[QaM],λq=>by grind,by omega,B,?_⟩
   grind
theorem OpV.max{c:Call}{x y:Operand}{k:IntKind}{m n:Int}(g:o.op=.call c)(f:c={callee:=.builtin .max,args:= #[x,y],argTypes:=c.argTypes})(i:opA env x=.int k m)(h:opA env y=.int k n):
  OpV P o env H (.int k (if m<n then n else m)):=by
 intro q p σ N a w r;have j:=QH r i;have l:=QH r h;refine⟨_,?_,rfl⟩;generalize a.eval=ρ at*;have e:c.callee=.builtin .max:=by rw[f]
 have d:c.args= #[x,y]:=by rw[f]
 simp only[execOp,g,resolve,e,d,invoke,Vg,Result.andThen];simp[Builtin.max_,Builtin.max2,j,l,go_sem]
theorem OpV.min{c:Call}{x y:Operand}{k:IntKind}{m n:Int}(g:o.op=.call c)(f:c={callee:=.builtin .min,args:= #[x,y],argTypes:=c.argTypes})(i:opA env x=.int k m)(h:opA env y=.int k n):
  OpV P o env H (.int k (if n<m then n else m)):=by
 intro q p σ N a w r;have j:=QH r i;have l:=QH r h;refine⟨_,?_,rfl⟩;generalize a.eval=ρ at*;have e:c.callee=.builtin .min:=by rw[f]
 have d:c.args= #[x,y]:=by rw[f]
 simp only[execOp,g,resolve,e,d,invoke,Result.andThen];simp[Builtin.min_,Builtin.min2,j,l,go_sem]
end
section
variable {P:Program} {h0 N:Nat} {env:Env} {H:Qc} {Q:Qx} {c c':Code}
theorem seqN(h:TC P h0 N c env H Q):Seq P h0 N c Q .normal env H:=h
theorem seqX{id:Nat}(h:Q (.exit id) env H):Seq P h0 N c Q (.exit id) env H:=h
theorem seqR(h:Q .ret env H):Seq P h0 N c Q .ret env H:=h
theorem bloN{id:Nat}(h:Q .normal env H):Blo id Q .normal env H:=h
theorem bloE{id:Nat}(h:Q .normal env H):Blo id Q (.exit id) env H:=by simp_all[Blo]
theorem bloX{id a:Nat}(e:Nat.beq a id=false)(h:Q (.exit a) env H):Blo id Q (.exit a) env H:=by simp[Blo,e];exact h
theorem bloR{id:Nat}(h:Q .ret env H):Blo id Q .ret env H:=h
def Qeo{S B:Type}(h0:Nat)(b:Ctl S B)(Eb:S->Env)(Hb:S->Qc)(Q:Qx):Qx
 |.normal,env,H=>∃s,b=.cont s/\Le h0 env H (Eb s) (Hb s)
 |.exit id,env,H=>Q (.exit id) env H
 |.ret,env,H=>Q .ret env H
theorem Qjm{S B:Type}{b:Ctl S B}(Eb:S->Env)(Hb:S->Qc)(h:TC P h0 N c env H (Qeo h0 b Eb Hb Q))(k:∀s env H,b=.cont s->Le h0 env H (Eb s) (Hb s)->Q .normal env H):TC P h0 N c env H Q:=
 h.mono λx env' H' q=>by
  cases x with
  |normal=>obtain⟨s,e,q⟩:=q;grind
  |exit id=>exact q
  |ret=>exact q
section
variable {S B:Type} {b:Ctl S B} {Eb:S->Env} {Hb:S->Qc}
theorem YX{s:S}(e:b=.cont s)(h:Le h0 env H (Eb s) (Hb s)):Qeo h0 b Eb Hb Q .normal env H:=⟨s,e,h⟩
theorem Qv(h:Q .ret env H):Qeo h0 b Eb Hb Q .ret env H:=h
end
theorem Qiy{x:Operand}{t:Bool}(hx:opA env x=.bool t)(h:t=true)(ht:TC P h0 N c env H Q):TC P h0 N (.cond x c c') env H Q:=TC.cond hx (λ_=>ht) (λq=>by grind)
theorem Qiz{x:Operand}{t:Bool}(hx:opA env x=.bool t)(h:t=false)(hf:TC P h0 N c' env H Q):TC P h0 N (.cond x c c') env H Q:=TC.cond hx (λq=>by grind) (λ_=>hf)
section
variable {S B:Type} {I:S->Env->Qc->Prop}
theorem Qo{s:S}{d:Ctl S B}(e:some (Ctl.cont s)=some d)(h:I s env H):QaP I d Q .normal env H:=⟨s,(by grind),h⟩
theorem Qq{id:Nat}{b:B}{d:Ctl S B}(e:some (Ctl.done b)=some d)(h:Q (.exit id) env H):QaP I d Q (.exit id) env H:=⟨(by grind),h⟩
theorem Qy{b:B}{d:Ctl S B}(e:some (Ctl.done b)=some d)(h:Q .ret env H):QaP I d Q .ret env H:=⟨(by grind),h⟩
end
end
theorem Q5{α β:Type}{x:Option α}{f:α->Option β}{r:β}(h:x.bind f=some r):∃a,x=some a/\f a=some r:=Option.bind_eq_some_iff.1 h
def idx{α:Type}(l:List α)(i:Int):Option α:=bif decide (0<=i)then l[i.toNat]? else none
theorem QaU{α:Type}{l:List α}{i:Int}{x:α}(h:idx l i=some x):0<=i/\l[i.toNat]?=some x:=by
 grind[idx]
def app{α:Type}(l m:List α):Option (List α):=bif Nat.ble (l.length+m.length) Yg then some (l++m)else none
theorem Qim{α:Type}{l m r:List α}(h:app l m=some r):l.length+m.length<=Yg/\l++m=r:=by
 unfold app at h;cases q:Nat.ble (l.length+m.length) Yg with
 |true=>simp_all
 |false=>grind
def slc{α:Type}(l:List α)(lo hi:Int):Option (List α):=bif decide (0<=lo)&&decide (lo<=hi)&&decide (hi<=(l.length:Int))then some ((l.take hi.toNat).drop lo.toNat)else none
theorem Qda{α:Type}{l r:List α}{lo hi:Int}(h:slc l lo hi=some r):0<=lo/\lo<=hi/\hi<=l.length/\(l.take hi.toNat).drop lo.toNat=r:=by
 grind[slc]
def Qba{α:Type}(l:List α)(i:Int)(x:α):Option (List α):=bif decide (0<=i)&&decide (i<(l.length:Int))then some (l.set i.toNat x)else none
theorem QcW{α:Type}{e:α->List A}{l:List α}{i:Nat}{x:α}(h:l[i]?=some x):(l.map e)[i]?=some (e x):=by simp[h]
section
variable {P:Program} {h0 N:Nat} {env:Env} {H H':Qc} {Q:Qx} {all:Array Oper} {o:Oper} {l:List Oper} {d:Nat} {x:A}
theorem vV(a:OpV P o env H x)(k:WO P h0 N all l (up env d x) H Q)(hg:Qs all o env true:=by exact rfl)(hd:o.dst=some d:=by exact rfl)(hN:Nat.blt d N=true:=by exact rfl):WO P h0 N all (o::l) env H Q:=
 Yr hg hd hN a k
theorem vH(a:OpH P o env H x H')(k:WO P h0 N all l (up env d x) H' Q)(hg:Qs all o env true:=by exact rfl)(hd:o.dst=some d:=by exact rfl)(hN:Nat.blt d N=true:=by exact rfl)(hh:Nat.ble h0 H.length=true:=by exact rfl):WO P h0 N all (o::l) env H Q:=
 Qf2 (by simp_all) hg hd hN a k
theorem vN(a:OpH P o env H x H')(k:WO P h0 N all l env H' Q)(hg:Qs all o env true:=by exact rfl)(hd:o.dst=none:=by exact rfl)(hh:Nat.ble h0 H.length=true:=by exact rfl):WO P h0 N all (o::l) env H Q:=
 Qj6 (by simp_all) hg hd a k
theorem vU(a:OpU P o env H H')(k:WO P h0 N all l env H' Q)(hg:Qs all o env true:=by exact rfl)(hd:o.dst=none:=by exact rfl)(hh:Nat.ble h0 H.length=true:=by exact rfl):WO P h0 N all (o::l) env H Q:=
 Qiq (by simp_all) hg hd a k
theorem gT{j s:Nat}{c x:Bool}(a:x=c)(hg:o.guard=some (j,c):=by exact rfl)(hs:(all[j]?).bind (·.dst)=some s:=by exact rfl)(hl:lk env s=.bool x:=by exact rfl):Qs all o env true:=by
 simp_all[Qs]
theorem gF{j s:Nat}{c x:Bool}(a:x= !c)(hg:o.guard=some (j,c):=by exact rfl)(hs:(all[j]?).bind (·.dst)=some s:=by exact rfl)(hl:lk env s=.bool x:=by exact rfl):Qs all o env false:=by
 simp_all[Qs]
theorem Qbn{x x':A}(a:x'=x)(e:H'=H)(k:WO P h0 N all l (up env d x) H Q):WO P h0 N all l (up env d x') H' Q:=by grind
theorem QdB(a:H'=H)(k:WO P h0 N all l env H Q):WO P h0 N all l env H' Q:=by grind
theorem Qh{f:FuncId}{args a:List A}{Hc:Qc}{Qr:A->Qc->Prop}(π:List Nat)(e:OpC P o env H f args)(g:C P f a Hc Qr)
  (k:∀r H1,Qr r H1->WO P h0 N all l (up env d (Yz (rho π H.length) r)) (QL H π (H1.map (QM (rho π H.length)))) Q)
  (hargs:args=Qag (rho π H.length) a:=by exact rfl)(hH:π.map (λp=>H[p]?)=(Hc.map (QM (rho π H.length))).map some:=by exact rfl)(hπ:π.Nodup:=by decide)
  (hg:Qs all o env true:=by exact rfl)(hd:o.dst=some d:=by exact rfl)(hN:Nat.blt d N=true:=by exact rfl)(hh:Nat.ble h0 H.length=true:=by exact rfl):WO P h0 N all (o::l) env H Q:=
 WO.call π (by simp_all) hg hd (λx h=>by simp_all) e hargs hH hπ g k
end
section
variable {P:Program} {o:Oper} {env:Env} {H:Qc} {α:Type} {e:α->List A}
theorem QfC{c:Call}{t f k:Nat}{x:Operand}{l:List α}(d:∀w,(underlying t).run P w=.ok (.slice f) w)(a:o.op=.call c:=by exact rfl)(hc:c={callee:=.builtin .len,args:= #[x],argTypes:= #[t]}:=by exact rfl)
  (hx:opA env x=.rsl k (l.map e):=by exact rfl):OpV P o env H (.int .i64 l.length):=by
 have:=QiB (H:=H) a hc d hx
 grind
theorem Qc2{t a k:Nat}{x y:Operand}{l:List α}{f:IntKind}{i:Int}{v:α}(h:idx l i=some v)(g:∀w,(underlying t).run P w=.ok (.slice a) w)(j:∀w,(sizeOf a).run P w=.ok k w)
  (d:o.op=.indexAddr t x y:=by exact rfl)(hx:opA env x=.rsl k (l.map e):=by exact rfl)(hy:opA env y=.int f i:=by exact rfl):OpV P o env H (.rp (e v)):=
 Qjq d g j hx hy (QaU h).1 (QcW (QaU h).2)
theorem QC{t a k b n:Nat}{x y:Operand}{l:List α}{g:IntKind}{i:Int}{v:α}(h:idx l i=some v)(m:l.length=n)(e:∀w,(underlying t).run P w=.ok (.slice a) w)(f:∀w,(sizeOf a).run P w=.ok k w)
  (d:o.op=.indexAddr t x y:=by exact rfl)(hx:opA env x=.osl b 0 n k:=by exact rfl)(hy:opA env y=.int g i:=by exact rfl):OpV P o env H (.ptr b (i.toNat*k)):=by
 have:=QaU h;have j:i.toNat<l.length:=(by grind);have p:=QgG (H:=H) d e f hx hy this.1 (by omega)
 grind
theorem Yj{b t k f:Nat}{l:List α}{i:Int}{v:α}{a:List A}(h:idx l i=some v)(d:H[b]?=some (.row t k (l.map e)):=by exact rfl)(hcs:(e v).drop f=a:=by exact rfl):Pts H (.ptr b (i.toNat*k+f)) a:=
 Pts.row d rfl (QcW (QaU h).2) hcs
theorem QU{b t k:Nat}{l:List α}{i:Int}{v:α}{a:List A}(h:idx l i=some v)(d:H[b]?=some (.row t k (l.map e)):=by exact rfl)(hcs:e v=a:=by exact rfl):Pts H (.ptr b (i.toNat*k)) a:=
 Pts.row (f:=0) d rfl (QcW (QaU h).2) hcs
theorem QiD{c:Call}{T T' et et' k:Nat}{x y:Operand}{a:A}{m r:List α}(h:app [] m=some r)(E:QP P T et k)(f:∀w,(underlying T').run P w=.ok (.slice et') w)(g:Src P H a k (m.map e))
  (d:o.op=.call c:=by exact rfl)(hc:c={callee:=.builtin .append,args:= #[x,y],argTypes:= #[T,T']}:=by exact rfl)(hx:opA env x=.nils:=by exact rfl)(hy:opA env y=a:=by exact rfl):
  OpH P o env H (.osl H.length 0 r.length k) (H++[.row et k (r.map e)]):=by
 obtain⟨i,rfl⟩:=Qim h;have:=Qd0 E f d hc hx hy g (by grind)
 grind
theorem YA{c:Call}{T T' et et' k i n:Nat}{x y:Operand}{a:A}{l m r:List α}(h:app l m=some r)(E:QP P T et k)(d:∀w,(underlying T').run P w=.ok (.slice et') w)(g:Src P H a k (m.map e))
  (f:l.length=n:=by exact rfl)(ho:o.op=.call c:=by exact rfl)(hc:c={callee:=.builtin .append,args:= #[x,y],argTypes:= #[T,T']}:=by exact rfl)(hx:opA env x=.osl i 0 n k:=by exact rfl)
  (hH:H[i]?=some (.row et k (l.map e)):=by exact rfl)(hy:opA env y=a:=by exact rfl):
  OpH P o env H (.osl H.length 0 r.length k) (H.set i .dead++[.row et k (r.map e)]):=by
 obtain⟨j,rfl⟩:=Qim h;subst f;have:=QfD E d ho hc hx hH (by simp) hy g (by grind) (gs:=(l++m).map e) (by rw[Vx (by simp)];simp)
 grind
theorem QdE{k:Nat}{l:List α}:Src P H (.rsl k (l.map e)) k (l.map e):=Src.rsl
theorem Qbo{i n k t:Nat}{l:List α}(a:H[i]?=some (.row t k (l.map e)):=by exact rfl)(hn:l.length=n:=by exact rfl):Src P H (.osl i 0 n k) k (l.map e):=
 Src.osl a (by grind[List.take_of_length_le]) (by simp[hn])
theorem YF{t n b T k f:Nat}{x y:Operand}{l l':List α}{i:Int}{v m:α}{vs:List A}{a:A}{d:Nat}(h:idx l i=some v)(r:Qba l i m=some l')(q:∀w,(sizeOf t).run P w=.ok n w)(g:d=i.toNat*k+f)(j:splice (e v) f vs=e m)
  (p:o.op=.store t x y:=by exact rfl)(hx:opA env x=.ptr b d:=by exact rfl)(hH:H[b]?=some (.row T k (l.map e)):=by exact rfl)
  (hy:opA env y=a:=by exact rfl)(hk:Q6 a=true:=by exact rfl)(hv:QZ a=vs:=by exact rfl)(hn:vs.length=n:=by exact rfl)(hp:vs.all Yf=true:=by exact rfl)(hd:Ym vs=true:=by exact rfl)(hf:Nat.ble (f+n) k=true:=by exact rfl):
  OpU P o env H (H.set b (.row T k (l'.map e))):=by
 refine QeQ p hx hH q g (QcW (QaU h).2) hy hk hv hn hp hd hf j ?_
 grind[Qba,List.map_set]
end
def ZR(a:A)(v:Value):Prop:=∀ro σ w,VR ro σ w a v
def ZL(az:List A)(l:List Value):Prop:=∀ro σ w,LR ro σ w az l
theorem ZR.int{k:IntKind}{n:Int}:ZR (.int k n) (.int k n):=λ_ _ _=>rfl
theorem ZR.bool{b:Bool}:ZR (.bool b) (.bool b):=λ_ _ _=>rfl
theorem ZR.str:ZR (.str []) (.string ⟨#[]⟩):=λ_ _ _=>rfl
theorem ZR.rsl{α:Type}{k:Nat}{e:α->List A}:ZR (.rsl k (List.map e [])) (.slice none 0 0):=λ_ _ _=>⟨none,0,rfl,XO _,.inl rfl⟩
theorem ZR.nils:ZR .nils (.slice none 0 0):=λ_ _ _=>rfl
theorem ZR.nilp:ZR .nilp (.pointer none):=λ_ _ _=>rfl
theorem ZR.nilf:ZR .nilf .nilFunc:=λ_ _ _=>rfl
theorem ZR.nilm:ZR .nilm (.map none):=λ_ _ _=>rfl
theorem Qjj:ZR .nilif .nilIface:=λ_ _ _=>rfl
theorem ZL.nil:ZL [] []:=λ_ _ _=>rfl
theorem ZL.cons{a:A}{v:Value}{az:List A}{l:List Value}(h:ZR a v)(k:ZL az l):ZL (a::az) (v::l):=λro σ w=>⟨v,l,rfl,h ro σ w,k ro σ w⟩
theorem ZR.agg{az:List A}{l:List Value}(h:ZL az l):ZR (.agg az) (.agg l.toArray):=λro σ w=>⟨l,rfl,h ro σ w⟩
section
variable {P:Program} {o:Oper} {env:Env} {H:Qc}
theorem QbP{t:Nat}{z:Value}{v:A}{d:List A}(k:∀w,(zeroValue t).run P w=.ok z w)(h:ZR v z)(j:o.op=.alloc t:=by exact rfl)(hk:Q6 v=true:=by exact rfl)(hcs:QZ v=d:=by exact rfl)(hpl:d.all Yf=true:=by exact rfl):
  OpH P o env H (.ptr H.length 0) (H++[.cells t d]):=by
 intro m g σ N a w r;obtain⟨l,i,f⟩:=(h g σ w).cells hk;subst hcs;refine⟨.pointer (some ⟨w.heap.size,0,none⟩),w.alloc (.cells l.toArray t),g,[some w.heap.size],?_,⟨w.heap.size,?_,rfl⟩,r.sim.allocCells f (f.plain hpl),Qi.alloc _ r.sim.roLt r.sim.frLt⟩
 .have e:(newVar t z).run P w=.ok ⟨w.heap.size,0,none⟩ (w.alloc (.cells l.toArray t)):=by
   unfold newVar;rw[i];rfl
  simp_all[execOp,Instr.alloc]
 .rw[<- r.sim.len];simp
theorem Qdv{t:TypeId}{p q:Bool}{w:World}(a:∀w,(underlying t).run P w=.ok .bool w):(Op.equal t (.bool p) (.bool q)).run P w=.ok (p==q) w:=by
 have k:∀d,(Op.equalIn (d+1) t (.bool p) (.bool q)).run P w=.ok (p==q) w:=by
  simp[Op.equalIn,a]
 exact k 9999
theorem QdP{t u:TypeId}{x y:Operand}{p q:Bool}(h:∀w,(underlying t).run P w=.ok .bool w)(d:o.op=.binOp .eql t x y u:=by exact rfl)(hx:opA env x=.bool p:=by exact rfl)(hy:opA env y=.bool q:=by exact rfl):OpV P o env H (.bool (p==q)):=by
 intro g e σ N a w r;have f:=QaH r hx;have i:=QaH r hy;refine⟨_,?_,rfl⟩
 simp_all[execOp,Go.binOp,eqGuard,Qdv]
theorem QdO{t u:TypeId}{x y:Operand}{p q:Bool}(h:∀w,(underlying t).run P w=.ok .bool w)(d:o.op=.binOp .neq t x y u:=by exact rfl)(hx:opA env x=.bool p:=by exact rfl)(hy:opA env y=.bool q:=by exact rfl):OpV P o env H (.bool (p != q)):=by
 intro g e σ N a w r;have f:=QaH r hx;have i:=QaH r hy;refine⟨_,?_,rfl⟩
 simp_all[execOp,Go.binOp,eqGuard,Qdv,bne]
theorem Qaz{t:TypeId}{x y:Operand}{s:List UInt8}{k:IntKind}{i:Int}{c:UInt8}(h:idx s i=some c)(d:∀w,(underlying t).run P w=.ok .string w)(a:o.op=.index t x y:=by exact rfl)(hx:opA env x=.str s:=by exact rfl)(hy:opA env y=.int k i:=by exact rfl):
  OpV P o env H (.int .u8 c.toNat):=Qhm a d hx hy (QaU h).1 (QaU h).2
theorem Qhp{c:Call}{t e i n k:Nat}{x:Operand}(d:∀w,(underlying t).run P w=.ok (.slice e) w)(a:o.op=.call c:=by exact rfl)(hc:c={callee:=.builtin .len,args:= #[x],argTypes:= #[t]}:=by exact rfl)
  (hx:opA env x=.osl i 0 n k:=by exact rfl):OpV P o env H (.int .i64 n):=QiC a hc d hx
end
def Qd(k:IntKind)(n:Int):List A:=[.int k n]
def YP(b:Bool):List A:=[.bool b]
def encS(s:List UInt8):List A:=[.str s]
def Qw{α:Type}(k:Nat)(e:α->List A)(l:List α):List A:=[.rsl k (l.map e)]
theorem Qe2{P:Program}{rd:Option Nat}{o:Oper}{a:Act}{next:Act->World->Prop}{Q:Exit->Act->World->Prop}{e:Result Next}
  (k:∀a' w',next a' w'->a'.defers=a.defers)(h:o.uponIn (WF rd) 0 P a next Q e):
  o.uponIn (WF rd) 0 P a (λa' w'=>next a' w'/\ ∃v,a'=a.put o.dst v) Q e:=by
 cases e with
 |ok n w'=>
  cases n with
  |value v=>exact⟨h,_,rfl⟩
  |skip=>exact⟨h,_,rfl⟩
  |defer d=>
   have:=congrArg List.length (k _ _ h)
   revert this
   cases o.dst<;>simp[Act.put]
  |enter f g=>
   exact⟨h.1,CallsIn.mono h.2 (by grind)⟩
  |row r g=>exact⟨h.1,RowsIn.mono h.2 (by grind)⟩
  |round l f j assign i=>exact⟨h.1,RoundIn.mono h.2 (by grind)⟩
  |_=>exact h.elim
 |halt x w'=>cases x<;>first|exact h|exact h.elim
def YC(e:Env)(H:Qc):Qx:=λx e' H'=>x=.normal/\e'=e/\H'=H
theorem YC.mk{e:Env}{H:Qc}:YC e H .normal e H:=⟨rfl,rfl,rfl⟩
inductive Sb (af bf ds:List Nat) (xs:List A) (env0:Env):Env->Prop
 |nil:Sb af bf ds xs env0 []
 |dep (j:Nat) {s:Nat} {a:A} {r:Env} (h1:af.contains j=true) (h2:ds[j]?=some s) (h3:xs[j]?=some a) (k:Sb af bf ds xs env0 r):Sb af bf ds xs env0 ((s,a)::r)
 |old {s:Nat} {a:A} {r:Env} (h1:ds.contains s=false) (h2:lk env0 s=a) (k:Sb af bf ds xs env0 r):Sb af bf ds xs env0 ((s,a)::r)
 |pre (j:Nat) {s:Nat} {a:A} {r:Env} (h1:bf.contains j=true) (h2:ds[j]?=some s) (h3:lk env0 s=a) (k:Sb af bf ds xs env0 r):Sb af bf ds xs env0 ((s,a)::r)
def Qj(o:Oper):List Nat:=(o.after.toList.filter (Region.binds .any)).map (·.on)
def QeG(l:List Oper)(i:Nat):List Nat:=(List.range l.length).filter λj=>((l[j]?).map Qj).getD [] |>.contains i
inductive QcM (P:Program) (N:Nat) (l:List Oper) (ds:List Nat) (xs:List A) (env0:Env) (i:Nat) (H H':Qc):Prop
 |mk (o:Oper) (e:Env) (d:Nat) (x:A) (ho:l[i]?=some o) (hd:o.dst=some d) (hx:xs[i]?=some x) (hs:Sb (Qj o) (QeG l i) ds xs env0 e)
   (h:WO P H.length N l.toArray [o] e H (YC (up e d x) H')):QcM P N l ds xs env0 i H H'
theorem QcM.use{P:Program}{N:Nat}{l:List Oper}{J:List Nat}{xs:List A}{env0:Env}{i:Nat}{H H':Qc}(u:QcM P N l J xs env0 i H H')
  {Q:Exit->Act->World->Prop}{K:Act->World->Prop}{fr ro:Nat->Prop}{σ:Sig}{a:Act}{w:World}{o:Oper}{rd:Option Nat}(W:l[i]?=some o)
  (p:Sim fr ro σ H w)(hN:a.tmps.size=N)(E:QaO fr a.defers w)(V:Qco rd fr w)
  (hD:∀j∈Qj o,∀s x,J[j]?=some s->xs[j]?=some x->VR ro σ w x (a.tmps.getD s undef))
  (hE:∀s,J.contains s=false->VR ro σ w (lk env0 s) (a.tmps.getD s undef))(hP:∀j s,(QeG l i).contains j=true->J[j]?=some s->VR ro σ w (lk env0 s) (a.tmps.getD s undef))
  (hK:∀v w' ro' τ d x,o.dst=some d->xs[i]?=some x->VR ro' (σ++τ) w' x ((a.put o.dst v).tmps.getD d undef)->Sim fr ro' (σ++τ) H' w'->Qi fr ro w ro' w'->K (a.put o.dst v) w'):
  wpOpIn (WF rd) 0 P l.toArray Q i K a w:=by
 obtain⟨y,e,d,x,T,hd,hx,hs,h⟩:=u;obtain rfl:y=o:=XU (T.symm.trans W);have z:Rel fr ro σ H e N a w:=by
  refine⟨p,?_,hN,E⟩;intro s;clear h
  induction hs with
  |nil=>exact trivial
  | @dep j s1 t r k g h3 _ ih=>
   unfold lk;cases u:Nat.beq s s1 with
   |false=>exact ih
   |true=>
    obtain rfl:=XL u
    grind
  | @old s1 t r k g _ ih=>
   unfold lk;cases u:Nat.beq s s1 with
   |false=>exact ih
   |true=>
    obtain rfl:=XL u
    grind
  | @pre j s1 t r k g h3 _ ih=>
   unfold lk;cases u:Nat.beq s s1 with
   |false=>exact ih
   |true=>
    obtain rfl:=XL u
    grind
 have F:=h rd fr ro σ a w z V;have fin:∀v w',Qa8 H.length fr ro σ w N a.defers (YC (up e d x) H') .normal (a.put y.dst v) w'->K (a.put y.dst v) w':=by
  rintro v w' ⟨_,X,H2,ro',σ',aa,_,⟨_,rfl,rfl⟩,r',m,ht,_,O⟩;have hσ:σ'=σ++σ'.drop H.length:=by
   conv=>lhs;rw[<- Xv H.length σ']
   rw[ht, <- p.len,X4]
  have G:=r'.env d;unfold lk at G;rw[Vu]at G;rw[hσ]at G;refine hK v w' ro' (σ'.drop H.length) d x hd hx G ?_ m;rw[<- hσ];exact r'.sim.frMono O.sub
 unfold wpOpIn;have L:l.toArray[i]?=some y:=by simpa using W
 rw[L];simp only;unfold wpL wpListIn at F;split at F
 .rename_i hw;rw[Vm hw];obtain⟨R,F⟩:=F;refine⟨R,?_⟩;have g:=Qe2 (by
   intro a' w' q;unfold wpListIn at q;obtain⟨_,_,_,_,_,_,_,_,_,_,_,q,_⟩:=q;exact q) F
  generalize(y.semAt (WF rd).round a.eval).run P w=res at*;cases res with
  |ok n w'=>
   cases n with
   |value v=>exact fin _ _ g.1
   |skip=>exact fin _ _ g.1
   |defer df=>
    exfalso;obtain⟨⟨_,_,_,_,_,_,_,_,_,_,_,q,_⟩,_⟩:=g;have:=congrArg List.length q
    revert this
    cases y.dst<;>simp[Act.put]
   |enter f B=>
    refine⟨g.1,CallsIn.mono g.2 (λe M m=>?_)⟩;cases e with
    |returned v=>exact fin _ _ m.1
    |panicked c=>obtain⟨t,_,_,_,_,_,k,⟨rfl,_⟩,_⟩:=m;exact k.elim
    |outgrown=>obtain⟨a1,w1,t,_,_,_,_,_,k,⟨rfl,_⟩,_⟩:=m;exact k.elim
   |row r B=>
    exact⟨g.1,RowsIn.mono g.2 (λ_ _ m=>fin _ _ m.1)⟩
   |round l f tmps assign Y=>
    refine⟨g.1,RoundIn.mono g.2 (λe M m=>?_)⟩;cases e with
    |returned v=>exact fin _ _ m.1
    |panicked c=>obtain⟨t,_,_,_,_,_,k,⟨rfl,_⟩,_⟩:=m;exact k.elim
    |outgrown=>obtain⟨a1,w1,t,_,_,_,_,_,k,⟨rfl,_⟩,_⟩:=m;exact k.elim
   |_=>exact g.elim
  |halt x w'=>
   cases x with
   |panic v=>obtain⟨t,_,_,_,_,_,k,⟨rfl,_⟩,_⟩:=g;exact k.elim
   |_=>exact g.elim
 simp_all[wpListIn]
theorem least{p:Nat->Prop}(a:∀i,p i\/ ¬p i):∀n,p n->∃i,i<=n/\p i/\ ∀j,j<i->¬p j:=by
 intro n
 induction n using Nat.strongRecOn with
 |ind n d=>
  grind
def onL(L:Array Bool)(i:Nat):Prop:=L[i]?=some true
theorem Qau{l:List Oper}{L:Array Bool}(n:L.size=l.length){i:Nat}:
  i∈Region.ready .any l.toArray L↔ ∃o,l[i]?=some o/\ ¬onL L i/\ ∀j∈Qj o,onL L j:=by
 unfold Region.ready;simp only[Xd,List.mem_range,XR,XB];have f:∀j,L.getD j false=true↔onL L j:=by
  intro j;unfold onL;rw[Array.getD_eq_getD_getElem?]
  grind
 constructor
 .rintro⟨d,k,a⟩;refine⟨l[i],(by simp),?_,?_⟩
  .grind
  .rw[XF d]at a;simp only[Xi,Option.getD_some,Array.all_eq_true']at a;intro j h;unfold Qj at h
   grind
 .rintro⟨o,d,k,a⟩;have g:i<l.length:=(by grind);refine⟨g,?_,?_⟩
  .grind
  .rw[d];simp only[Xi,Option.getD_some,Array.all_eq_true'];intro e m;cases p:Region.binds .any e with
   |false=>simp
   |true=>
    have:=(f _).2 (a e.on (by unfold Qj;grind))
    grind
theorem YV{L:Array Bool}{i j:Nat}(hi:i<L.size):onL (L.setIfInBounds i true) j↔j=i\/onL L j:=by
 grind[onL]
def unl(L:Array Bool):Nat:=L.toList.countP (!·)
theorem Qeq{L:Array Bool}{i:Nat}(hi:i<L.size)(h:¬onL L i):unl (L.setIfInBounds i true)+1=unl L:=by
 unfold unl;have a:L.toList[i]=false:=by
  grind[onL]
 grind
theorem Qgk{L:Array Bool}{i:Nat}(hi:i<L.size)(h:¬onL L i):0<unl L:=by have:=Qeq hi h;omega
inductive QbC (l:List Oper) (m:Nat):Nat->Prop
 |one {o:Oper} {j:Nat} (ho:l[m]?=some o) (hj:j∈Qj o):QbC l m j
 |step {o:Oper} {i j:Nat} (h:QbC l m i) (ho:l[i]?=some o) (hj:j∈Qj o):QbC l m j
def Qdi(l:List Oper):Nat->List Nat->List Nat
 |0,S=>S
 |j+1,S=>Qdi l j (bif S.contains j then S++(match l[j]? with|some o=>Qj o|none=>[])else S)
theorem Qbr{l:List Oper}{m:Nat}:∀(n:Nat) (S:List Nat),(∀j∈S,QbC l m j)->∀j∈Qdi l n S,QbC l m j
 |0,S,h,j,hj=>h j hj
 |n+1,S,h,j,hj=>by
  refine Qbr n _ ?_ j hj;intro i hi;cases q:S.contains n with
  |false=>grind
  |true=>
   rw[q]at hi;rcases Vs.1 hi with z|z
   .exact h i z
   .cases ho:l[n]? with
    |none=>grind
    |some o=>rw[ho]at z;exact .step (by grind) ho z
def Qam(ds:List Nat)(xs:List A)(env0:Env):Env:=ds.zip xs++env0
theorem Qi0{a:List Nat}{xs:List A}{env0:Env}(e:a.length=xs.length)(s:Nat):
  (∃(j:Nat) (x:A),a[j]?=some s/\xs[j]?=some x/\lk (Qam a xs env0) s=x)\/(a.contains s=false/\lk (Qam a xs env0) s=lk env0 s):=by
 unfold Qam
 induction a generalizing xs with
 |nil=>simp
 |cons d a g=>
  cases xs with
  |nil=>simp at e
  |cons x xs=>
   simp[XV,Nat.add_right_cancel_iff]at e;simp only[List.zip_cons_cons,Vz,lk];cases h:Nat.beq s d with
   |true=>
    obtain rfl:=XL h;left;exact⟨0,x,rfl,rfl,by simp⟩
   |false=>
    have f:s≠d:=λq=>by simp_all
    rcases g e with⟨j,y,i,k,l⟩|⟨i,k⟩
    .left;exact⟨j+1,y,by grind,by grind,by grind⟩
    grind
def drawChk.nodupB:List Nat->Bool
 |[]=>true
 |x::r=> !r.contains x&&drawChk.nodupB r
def drawChk.goB(l:List Oper)(m:Nat):Nat->List Oper->Bool
 |_,[]=>true
 |i,o::r=>(Qj o).all (λj=>Nat.blt j i)&&(bif Nat.beq i m then(List.range m).all (λj=>(Qdi l m (Qj o)).contains j)else bif Nat.blt m i then(Qj o).contains (i-1)else true)&&drawChk.goB l m (i+1) r
def drawChk.loB(m k:Nat)(los:List Nat)(hs:List Bool):Nat->List Oper->Bool
 |_,[]=>(List.range k).all λj=>(List.range m).any λi=>hs.getD i false&&Nat.beq (los.getD i 0) j
 |i,o::r=>(bif Nat.blt i m then
   (Nat.beq (los.getD i 0) 0||(Qj o).any (λj=>Nat.blt j m&&Nat.ble (los.getD i 0) (los.getD j 0+(if hs.getD j false then 1 else 0))))
   &&(!hs.getD i false||(Nat.blt (los.getD i 0) k&&(List.range m).all (λj=> !hs.getD j false|| !Nat.beq (los.getD i 0) (los.getD j 0)||Nat.beq i j)))
  else true)&&drawChk.loB m k los hs (i+1) r
def drawChk(l:List Oper)(m k N:Nat)(ds los:List Nat)(hs:List Bool):Bool:=
 Nat.ble m l.length&&(ds.length==m)&&(l.take m).map (·.dst)==ds.map some&&ds.all (λd=>Nat.blt d N)&&drawChk.nodupB ds
 &&drawChk.goB l m 0 l&&(drawChk.loB m k los hs 0 l)
theorem Qcy{a:List Nat}(h:drawChk.nodupB a=true):∀(i j d:Nat),a[i]?=some d->a[j]?=some d->i=j:=by
 induction a with
 |nil=>simp
 |cons x r e=>
  simp[drawChk.nodupB,XR]at h
  grind
theorem Qfd{l:List Oper}{m:Nat}:∀(r:List Oper) (b:Nat),drawChk.goB l m b r=true->∀(i:Nat) (o:Oper),r[i]?=some o->
  (∀j∈Qj o,j<b+i)/\(b+i=m->∀j,j<m->j∈Qdi l m (Qj o))/\(m<b+i->b+i-1∈Qj o):=by
 intro r
 induction r with
 |nil=>simp
 |cons x r f=>
  intro b h i o d;simp only[drawChk.goB]at h;cases i with
  |zero=>
   simp at d;refine⟨λj a=>?_,λe j a=>?_,λe=>?_⟩
   .simp_all
   .simp_all
   .have g:Nat.beq b m=false:=by
     cases q:Nat.beq b m with
     |false=>rfl
     |true=>simp_all
    have k:Nat.blt m b=true:=by simp_all
    grind
  |succ i=>
   grind
inductive Ob (P:Program) (N:Nat) (l:List Oper) (ds:List Nat) (xs:List A) (env0:Env):Nat->List (List (Qc×Qc))->Prop
 |nil {i:Nat}:Ob P N l ds xs env0 i []
 |cons {i:Nat} {s:List (Qc×Qc)} {r:List (List (Qc×Qc))} (h:∀p∈s,QcM P N l ds xs env0 i p.1 p.2) (k:Ob P N l ds xs env0 (i+1) r):Ob P N l ds xs env0 i (s::r)
theorem Ob.get{P:Program}{N:Nat}{l:List Oper}{d:List Nat}{xs:List A}{env0:Env}{b:Nat}{a:List (List (Qc×Qc))}(h:Ob P N l d xs env0 b a):
  ∀(i:Nat) (s:List (Qc×Qc)),a[i]?=some s->∀p∈s,QcM P N l d xs env0 (b+i) p.1 p.2:=by
 induction h with
 |nil=>simp
 | @cons b1 s1 r1 h _ ih=>
  grind
theorem Ob.st0{P:Program}{N:Nat}{l:List Oper}{a:List Nat}{xs:List A}{env0:Env}{i:Nat}:∀p∈([]:List (Qc×Qc)),QcM P N l a xs env0 i p.1 p.2:=by
 simp
theorem Ob.stC{P:Program}{N:Nat}{l:List Oper}{a:List Nat}{xs:List A}{env0:Env}{i:Nat}{H H':Qc}{r:List (Qc×Qc)}(h:QcM P N l a xs env0 i H H')
  (k:∀p∈r,QcM P N l a xs env0 i p.1 p.2):∀p∈(H,H')::r,QcM P N l a xs env0 i p.1 p.2:=by
 grind
theorem QaQ.nil{H:Qc}:QaQ H [] []:=trivial
theorem QaQ.cons{H:Qc}{az d f:List A}{a b:A}(e:az=a::d)(h:Look H a b)(k:QaQ H d f):QaQ H az (b::f):=by subst e;exact⟨h,k⟩
section
variable {P:Program} {o:Oper} {env:Env} {H:Qc} {α:Type} {e:α->List A}
end
inductive PL (P:Program):List Field->List (Nat×Nat)->Prop
 |nil:PL P [] []
 |cons {f:Field} {n:Nat} {fs:List Field} {pl:List (Nat×Nat)} (h:∀w,(sizeOf f.type).run P w=.ok n w) (k:PL P fs pl):PL P (f::fs) ((f.offset,n)::pl)
theorem PL.run{P:Program}{fs:List Field}{a:List (Nat×Nat)}(h:PL P fs a):∀w,(fs.mapM λf=>(do pure (f.offset, <- sizeOf f.type):Sem (Nat×Nat))).run P w=.ok a w:=by
 induction h with
 |nil=>intro w;rfl
 |cons h _ ih=>
  simp_all
structure QdH (P:Program) (t:TypeId) (pl:List (Nat×Nat)):Prop where
 un:∃fs:List Field,(∀w,(underlying t).run P w=.ok (.struct fs.toArray) w)/\PL P fs pl
section
variable {P:Program} {o:Oper} {env:Env} {H:Qc}
def QcE(env:Env)(pl:List (Nat×Nat)):List A->List (Nat×Operand)->Option (List A)
 |cs,[]=>some cs
 |cs,(i,x)::r=>match pl[i]? with
  |none=>none
  |some (off,size)=>bif Q6 (opA env x)&&Nat.beq (QZ (opA env x)).length size&&Nat.ble (off+size) cs.length then QcE env pl (splice cs off (QZ (opA env x))) r else none
theorem Qdt{fr ro:Nat->Prop}{σ:Sig}{N:Nat}{a:Act}{w:World}(r:Rel fr ro σ H env N a w){f:List (Nat×Nat)}:∀(parts:List (Nat×Operand)) (e:List A) (l:List Value) (d:List A),
  LR ro σ w e l->QcE env f e parts=some d->
  ∃l',Instr.fill (f.toArray[·]?) l.toArray (parts.map λp=>(p.1,a.eval p.2))=some l'.toArray/\LR ro σ w d l'
 |[],e,l,d,h,q=>by
  cases q;exact⟨l,rfl,h⟩
 |(i,x)::rest,e,l,d,h,q=>by
  unfold QcE at q;cases hp:f[i]? with
  |none=>grind
  |some p=>
   obtain⟨off,size⟩:=p;rw[hp]at q;simp at q;cases hc:(Q6 (opA env x)&&Nat.beq (QZ (opA env x)).length size&&Nat.ble (off+size) e.length)with
   |false=>grind
   |true=>
    rw[hc]at q;simp[XR]at hc;obtain⟨⟨c1,c2⟩,c3⟩:=hc;obtain⟨m,q1,q2⟩:=(Ql r x).cells c1;have hm:m.length=size:=by rw[q2.length];simp_all
    have hl:=h.length;obtain⟨l',j,g⟩:=Qdt r rest _ (splice l off m) d (h.splice off q2) q
    grind[Qed,Nat.le_of_ble_eq_true]
theorem OpV.build{t:TypeId}{z:Value}{zs d:List A}{f:List (Nat×Nat)}{parts:List (Nat×Operand)}(p:∀w,(zeroValue t).run P w=.ok z w)(h:ZR (.agg zs) z)(n:QdH P t f)
  (g:o.op=.build t parts.toArray:=by exact rfl)(hf:QcE env f zs parts=some d:=by exact rfl):OpV P o env H (.agg d):=by
 intro x q σ N a w r;obtain⟨y,s,u⟩:=n.un;obtain⟨l,rfl,i⟩:=h q σ w;obtain⟨e,m,j⟩:=Qdt r parts zs l d i hf;refine⟨.agg e.toArray,?_,e,rfl,j⟩;have k:=u.run w;simp only[execOp,g,Instr.build,Vg,p,Result.andThen,s,XD,List.mapM_toArray,Sem.run_map,k,Value.cells,m,Vh]
end
def nz(n:Int):Option Unit:=bif n==0 then none else some ()
section
variable {P:Program} {o:Oper} {env:Env} {H:Qc}
theorem QdJ{x:Operand}{a:A}(i:o.op=.nilCheck x)(g:opA env x=a:=by exact rfl)(hk:(match a with|.ptr _ _=>true|.rp _=>true|_=>false)=true:=by exact rfl):OpV P o env H a:=by
 intro k j σ N ac w r;have h:=Ql r x;rw[g]at h;cases a<;>first|(cases hk)|skip
 .obtain⟨b,e,f⟩:=h;refine⟨_,?_,b,e,rfl⟩
  simp_all[execOp]
 .obtain⟨b,d,e,f⟩:=h;refine⟨_,?_,b,d,rfl,f⟩
  simp_all[execOp]
end
mutual
def FzA(i k:Nat)(es:List (List A)):A->A->Prop
 |.agg az,b=>∃bs,b=.agg bs/\FzL i k es az bs
 |.fn f x c,b=>∃x' c',b=.fn f x' c'/\FzL i k es x x'/\FzL i k es c c'
 |.iface t a,b=>∃a',b=.iface t a'/\FzA i k es a a'
 |.tup az,b=>∃bs,b=.tup bs/\FzL i k es az bs
 |.osl j o n k',b=>b=.osl j o n k'\/(j=i/\o=0/\k'=k/\n=es.length/\b=.rsl k es)
 |.nils,b=>b=.nils\/ ∃k',b=.rsl k' []
 |a,b=>b=a
def FzL(i k:Nat)(es:List (List A)):List A->List A->Prop
 |[],b=>b=[]
 |a::az,b=>∃a' as',b=a'::as'/\FzA i k es a a'/\FzL i k es az as'
end
mutual
theorem FzA.refl{i k:Nat}{es:List (List A)}:∀a:A,FzA i k es a a
 |.agg az=>⟨az,rfl,FzL.refl az⟩
 |.fn _ x c=>⟨x,c,rfl,FzL.refl x,FzL.refl c⟩
 |.iface _ a=>⟨a,rfl,FzA.refl a⟩
 |.tup az=>⟨az,rfl,FzL.refl az⟩
 |.osl _ _ _ _=>.inl rfl
 |.nils=>.inl rfl
 |.any=>rfl
 |.bool _=>rfl
 |.int _ _=>rfl
 |.str _=>rfl
 |.nilp=>rfl
 |.ptr _ _=>rfl
 |.rp _=>rfl
 |.rsl _ _=>rfl
 |.nilf=>rfl
 |.nilif=>rfl
 |.map _=>rfl
 |.nilm=>rfl
theorem FzL.refl{i k:Nat}{es:List (List A)}:∀az:List A,FzL i k es az az
 |[]=>rfl
 |a::az=>⟨a,az,rfl,FzA.refl a,FzL.refl az⟩
end
theorem FzA.agg{i k:Nat}{es:List (List A)}{az bs:List A}(h:FzL i k es az bs):FzA i k es (.agg az) (.agg bs):=⟨bs,rfl,h⟩
theorem FzA.tup{i k:Nat}{es:List (List A)}{az bs:List A}(h:FzL i k es az bs):FzA i k es (.tup az) (.tup bs):=⟨bs,rfl,h⟩
theorem FzA.iface{i k:Nat}{es:List (List A)}{t:Nat}{a b:A}(h:FzA i k es a b):FzA i k es (.iface t a) (.iface t b):=⟨b,rfl,h⟩
theorem FzA.own{i k n:Nat}{es:List (List A)}(hn:n=es.length):FzA i k es (.osl i 0 n k) (.rsl k es):=.inr (by grind)
theorem FzA.nil{i k k':Nat}{es:List (List A)}:FzA i k es .nils (.rsl k' []):=.inr ⟨k',rfl⟩
theorem FzL.cons{i k:Nat}{es:List (List A)}{a b:A}{az bs:List A}(h:FzA i k es a b)(q:FzL i k es az bs):FzL i k es (a::az) (b::bs):=⟨b,bs,rfl,h,q⟩
mutual
theorem Qgd{i k:Nat}{es:List (List A)}{ro ro':Nat->Prop}{σ:Sig}{w:World}(ext:Ext ro σ w ro' σ w)
  (hf:∀v,VR ro σ w (.osl i 0 es.length k) v->VR ro' σ w (.rsl k es) v):∀(a b:A) (v:Value),FzA i k es a b->VR ro σ w a v->VR ro' σ w b v
 |.agg az,b,v,h,q=>by
  obtain⟨bs,rfl,h⟩:=h;obtain⟨l,rfl,q⟩:=q;exact⟨l,rfl,Qct ext hf az bs l h q⟩
 |.fn f x c,b,v,h,q=>by
  obtain⟨x',c',rfl,h1,h2⟩:=h;obtain⟨l,l',rfl,q1,q2⟩:=q;exact⟨l,l',rfl,Qct ext hf x x' l h1 q1,Qct ext hf c c' l' h2 q2⟩
 |.iface t a,b,v,h,q=>by
  obtain⟨a',rfl,h⟩:=h;obtain⟨x,rfl,q⟩:=q;exact⟨x,rfl,Qgd ext hf a a' x h q⟩
 |.tup az,b,v,h,q=>by
  obtain⟨bs,rfl,h⟩:=h;obtain⟨l,rfl,q⟩:=q;exact⟨l,rfl,Qct ext hf az bs l h q⟩
 |.osl j o n k',b,v,h,q=>by
  rcases h with rfl|⟨rfl,rfl,rfl,rfl,rfl⟩
  .exact q.mono ext
  .exact hf v q
 |.nils,b,v,h,q=>by
  rcases h with rfl|⟨k',rfl⟩
  .exact q
  .obtain rfl:v=.slice none 0 0:=q;exact⟨none,0,rfl,XO _,.inl rfl⟩
 |.any,b,v,h,q=>by obtain rfl:b=_:=h;trivial
 |.bool _,b,v,h,q=>by obtain rfl:b=_:=h;exact q
 |.int _ _,b,v,h,q=>by obtain rfl:b=_:=h;exact q
 |.str _,b,v,h,q=>by obtain rfl:b=_:=h;exact q
 |.nilp,b,v,h,q=>by obtain rfl:b=_:=h;exact q
 |.ptr _ _,b,v,h,q=>by obtain rfl:b=_:=h;exact q.mono ext
 |.rp _,b,v,h,q=>by obtain rfl:b=_:=h;exact q.mono ext
 |.rsl _ _,b,v,h,q=>by obtain rfl:b=_:=h;exact q.mono ext
 |.nilf,b,v,h,q=>by obtain rfl:b=_:=h;exact q
 |.nilif,b,v,h,q=>by obtain rfl:b=_:=h;exact q
 |.map _,b,v,h,q=>by obtain rfl:b=_:=h;exact q.mono ext
 |.nilm,b,v,h,q=>by obtain rfl:b=_:=h;exact q
theorem Qct{i k:Nat}{es:List (List A)}{ro ro':Nat->Prop}{σ:Sig}{w:World}(ext:Ext ro σ w ro' σ w)
  (hf:∀v,VR ro σ w (.osl i 0 es.length k) v->VR ro' σ w (.rsl k es) v):∀(az bs:List A) (l:List Value),FzL i k es az bs->LR ro σ w az l->LR ro' σ w bs l
 |[],bs,l,h,q=>by obtain rfl:bs=[]:=h;exact q
 |a::az,bs,l,h,q=>by
  obtain⟨a',as',rfl,h1,h2⟩:=h;obtain⟨v,l',rfl,q1,q2⟩:=q;exact⟨v,l',rfl,Qgd ext hf a a' v h1 q1,Qct ext hf az as' l' h2 q2⟩
end
def FzB(i k:Nat)(es:List (List A))(x y:Blk):Prop:=y=x\/ ∃t cs cs',x=.cells t cs/\y=.cells t cs'/\FzL i k es cs cs'
def FzH(i k:Nat)(es:List (List A)):Qc->Qc->Prop
 |[],h=>h=[]
 |x::r,h=>∃y r',h=y::r'/\FzB i k es x y/\FzH i k es r r'
def QiF(i k:Nat)(es:List (List A))(env:Env):Env->Prop
 |[]=>True
 |(s,a)::r=>FzA i k es (lk env s) a/\QiF i k es env r
theorem FzH.nil{i k:Nat}{es:List (List A)}:FzH i k es [] []:=rfl
theorem FzH.keep{i k:Nat}{es:List (List A)}{x:Blk}{r r':Qc}(h:FzH i k es r r'):FzH i k es (x::r) (x::r'):=⟨x,r',rfl,.inl rfl,h⟩
theorem FzH.cells{i k t:Nat}{es:List (List A)}{cs cs':List A}{r r':Qc}(q:FzL i k es cs cs')(h:FzH i k es r r'):FzH i k es (.cells t cs::r) (.cells t cs'::r'):=⟨_,r',rfl,.inr (by grind),h⟩
theorem FzH.get{i k:Nat}{es:List (List A)}:∀{H H':Qc},FzH i k es H H'->∀(j:Nat) (y:Blk),H'[j]?=some y->∃x,H[j]?=some x/\FzB i k es x y
 |[],_,h,j,y,q=>by obtain rfl:_=[]:=h;simp at q
 |x::r,_,h,j,y,q=>by
  obtain⟨y',r',rfl,h1,h2⟩:=h;cases j with
  |zero=>grind
  |succ j=>obtain⟨x',p1,p2⟩:=h2.get j y q;grind
theorem FzH.len{i k:Nat}{es:List (List A)}:∀{H H':Qc},FzH i k es H H'->H'.length=H.length
 |[],_,h=>by obtain rfl:_=[]:=h;rfl
 |x::r,_,h=>by obtain⟨y',r',rfl,h1,h2⟩:=h;simp[h2.len]
theorem FzB.live{i k:Nat}{es:List (List A)}{x y:Blk}(h:FzB i k es x y):y.live=x.live:=by
 rcases h with rfl|⟨t,d,a,rfl,rfl,_⟩<;>rfl
theorem Yu{env:Env}{H H':Qc}{T i k t:Nat}{es:List (List A)}(ov:Env)(hi:Nat.ble T i=true)(M:H[i]?=some (.row t k es))(P:QiF i k es env ov)(L:FzH i k es (H.set i .dead) H'):Le T env H (ov++env) H':=by
 intro fr Y σ N a w r
 let ro':Nat->Prop:=λb=>Y b\/σ[i]?=some (some b)
 have hown:=λb h=>r.sim.own i b _ h M rfl;have ext:Ext Y σ w ro' σ w:=⟨λ_ q=>.inl q,λ_ _=>rfl,λ_ _ q=>q,λ_ _ q=>q⟩;have hf:∀v,VR Y σ w (.osl i 0 es.length k) v->VR ro' σ w (.rsl k es) v:=by
  intro v h;rcases h with⟨T,h⟩|⟨b,p,F,t',m,g,h,n,⟨u,aa⟩,h4,O⟩
  .have:es=[]:=(by grind);subst this;exact⟨none,0,h,XO _,.inl rfl⟩
  .refine⟨_,F,h,u,?_⟩;by_cases he:es=[]
   .exact .inl he
   .right;have hc:0<F:=X9 (by grind) u;obtain rfl:=n hc;obtain⟨l,X,q2⟩:=r.sim.blk i _ _ g M;refine⟨b,0,by simp,.inr g,?_⟩;have:=YB (pre:=[]) (by simpa using X) q2;exact this.keep ⟨λ_ q=>.inl q,λ_ _=>rfl,λ_ _ q=>q,λ_ _ q=>q⟩ rfl
 have f:∀(j:Nat) (y:Blk),H'[j]?=some y->y≠ .dead->j≠i/\ ∃x,H[j]?=some x/\FzB i k es x y:=by
  intro j y h R;obtain⟨x,g,n⟩:=L.get j y h;by_cases e:j=i
  .subst e;rw[Xb]at g;simp only[if_true]at g;split at g
   .cases g;rcases n with rfl|⟨_,_,_,q,_,_⟩
    .grind
    .cases q
   .simp at g
  grind
 refine⟨ro',σ,⟨⟨by rw[L.len,XY];exact r.sim.len,r.sim.roOk.to (λ_ q=>.inl q) (λ_ _=>rfl) ?_,r.sim.frLt,?_,?_,?_,?_,r.sim.hidTo (· = ·) QX (XO _) (λj b x c X q2 q3 q4=>q4.elim id λq=>((r.sim.hid j b x c X q2 q3).ne i c _ q M rfl rfl).elim) (by simp) λj d y W g2 g3=>.inl ?_⟩,?_,r.size,r.defers⟩,λ_ q=>.inl q,rfl⟩
 rotate_left 5
 .obtain⟨_,x,g4,g5⟩:=f j y g2 (Qe0 g3);exact⟨j,x,rfl,W,g4,λz=>by rw[<- g5.live];exact z,λc q=>by rcases g5 with rfl|⟨t,cs,E,rfl,rfl,_⟩;exact q;exact q.elim⟩
 rotate_left 1
 .rintro b (q|q)
  .exact r.sim.roLt b q
  grind
 .rintro b (q|q)
  .exact r.sim.roFr b q
  grind
 .intro j b v g n u;obtain⟨e,x,n,J⟩:=f j v n (Qa1 u);have hx:x.live=true:=by rw[<- J.live];exact u
  obtain⟨B,G,p3⟩:=r.sim.own j b x g n hx;refine⟨B,?_,p3⟩;rintro(q|q)
  .exact G q
  .exact e (r.sim.inj j i b x _ g q n M hx rfl)
 .intro j j' b v v' g n u h4 O h6;obtain⟨_,x,B,G⟩:=f j v u (Qa1 O);obtain⟨_,x',V,Q⟩:=f j' v' h4 (Qa1 h6);exact r.sim.inj j j' b x x' g n B V (by rw[<- G.live];exact O) (by rw[<- Q.live];exact h6)
 .intro j s v g n;by_cases R:v≠ .dead
  .obtain⟨_,x,B,G⟩:=f j v n R;have J:=r.sim.blk j s x g B;rcases G with rfl|⟨t,cs,E,rfl,rfl,q⟩
   .exact J.keep ext (λ_ _ _=>rfl) (λ_ _ _ _=>rfl)
   .cases s with
    |none=>exact J.elim
    |some b=>
     obtain⟨l,e1,e2,e3⟩:=J;exact⟨l,e1,Qct ext hf cs E l q e2,e3⟩
  .obtain rfl:v=.dead:=Classical.not_not.1 R;trivial
 .intro s
  induction ov with
  |nil=>exact(r.env s).mono ext
  |cons p ov ih=>
   obtain⟨s1,a1⟩:=p;obtain⟨W,g2⟩:=P;simp only[Vz,lk];cases q:Nat.beq s s1 with
   |true=>
    obtain rfl:=XL q;exact Qgd ext hf _ _ _ W (r.env s)
   |false=>exact ih g2
theorem QiF.nil{i k:Nat}{es:List (List A)}{env:Env}:QiF i k es env []:=trivial
theorem QiF.cons{i k s:Nat}{es:List (List A)}{env:Env}{a b:A}{r:Env}(h:lk env s=a)(q:FzA i k es a b)(g:QiF i k es env r):QiF i k es env ((s,b)::r):=⟨h▸q,g⟩
def Qb4(P:Program)(env:Env)(H:Qc)(l:ResultVar)(x:A):Prop:=
 ∀fr ro σ N a w,Rel fr ro σ H env N a w->∃v,((match l with
  |.tmp t=>pure (a.tmps.getD t undef)
  |.cell b t=>do loadVar t (<- asAddr (a.tmps.getD b undef)):Sem Value)).run P w=.ok v w/\VR ro σ w x v
def Qf6(P:Program)(env:Env)(H:Qc):List ResultVar->List A->Prop
 |[],xs=>xs=[]
 |l::ls,xs=>∃x xs',xs=x::xs'/\Qb4 P env H l x/\Qf6 P env H ls xs'
section
variable {P:Program} {fn:Func} {env:Env} {H:Qc}
theorem Qb4.tmp{t:Nat}{x:A}(d:lk env t=x:=by exact rfl):Qb4 P env H (.tmp t) x:=
 λfr ro σ N a w r=>⟨a.tmps.getD t undef,rfl,d▸r.env t⟩
theorem Qb4.cell{b t:Nat}{p x:A}{j:List A}(n:∀w,(isAgg t).run P w=.ok false w)(g:Pts H p (x::j))(f:lk env b=p:=by exact rfl):Qb4 P env H (.cell b t) x:=by
 intro i h σ N a w r;have d:=r.env b;rw[f]at d;obtain⟨k,e,q,⟨y,m,_,l⟩,_⟩:=g i h σ w _ r.sim d
 simp_all[asAddr,loadVar]
theorem QcK{b t n:Nat}{p:A}{d:List A}(s:∀w,(isAgg t).run P w=.ok true w)(u:∀w,(sizeOf t).run P w=.ok n w)(j:Pts H p d)(h:lk env b=p:=by exact rfl)(hl:(d.take n).length=n:=by exact rfl):
  Qb4 P env H (.cell b t) (.agg (d.take n)):=by
 intro m k σ N a w r;have e:=r.env b;rw[h]at e;obtain⟨q,f,y,g⟩:=j m k σ w _ r.sim e;obtain⟨l,i,_,x⟩:=Yk (P:=P) 0 (by simpa using g.take n);refine⟨.agg l.toArray,?_,l,rfl,i⟩
 simp_all[asAddr,loadVar,loadCells]
theorem Qe{b t n i T:Nat}{a:List A}(e:∀w,(isAgg t).run P w=.ok true w)(g:∀w,(sizeOf t).run P w=.ok n w)(d:lk env b=.ptr i 0)(f:H[i]?=some (.cells T a))(h:a.length=n):
  Qb4 P env H (.cell b t) (.agg a):=by
 have:=QcK e g (Pts.cells f rfl) d (by grind)
 grind
theorem Qm{b t i T:Nat}{x:A}(ha:∀w,(isAgg t).run P w=.ok false w)(hx:lk env b=.ptr i 0)(hH:H[i]?=some (.cells T [x])):Qb4 P env H (.cell b t) x:=
 Qb4.cell ha (Pts.cells hH rfl) hx
theorem Qf6.nil:Qf6 P env H [] []:=rfl
theorem Qf6.cons{l:ResultVar}{ls:List ResultVar}{x:A}{xs:List A}(h:Qb4 P env H l x)(k:Qf6 P env H ls xs):Qf6 P env H (l::ls) (x::xs):=⟨x,xs,rfl,h,k⟩
theorem Qf6.run{fr ro:Nat->Prop}{σ:Sig}{N:Nat}{a:Act}{w:World}(r:Rel fr ro σ H env N a w):∀{ls:List ResultVar} {xs:List A},Qf6 P env H ls xs->
  ∃vs:List Value,(ls.mapM λl=>(match l with
   |.tmp t=>pure (a.tmps.getD t undef)
   |.cell b t=>do loadVar t (<- asAddr (a.tmps.getD b undef)):Sem Value)).run P w=.ok vs w/\LR ro σ w xs vs
 |[],_,h=>by obtain rfl:_=[]:=h;exact⟨[],rfl,rfl⟩
 |l::ls,_,h=>by
  obtain⟨x,xs,rfl,h1,h2⟩:=h;obtain⟨v,e1,e2⟩:=h1 fr ro σ N a w r;obtain⟨vs,e3,e4⟩:=Qf6.run r h2;refine⟨v::vs,?_,v,vs,rfl,e2,e4⟩
  simp_all
theorem Qg{ls:List ResultVar}{xs:List A}(h:fn.results=ls.toArray)(p:Nat.beq ls.length 1=false)(k:Qf6 P env H ls xs):Qa7 P fn env H (.tup xs):=by
 intro n m σ N a w r;obtain⟨vs,j,d⟩:=k.run r;have e:¬vs.length=1:=by
  have:∀{ls:List ResultVar} {xs:List A},Qf6 P env H ls xs->xs.length=ls.length:=by
   intro ls
   induction ls with
   |nil=>intro xs h;obtain rfl:xs=[]:=h;rfl
   |cons l ls f=>intro xs h;obtain⟨x,g,rfl,_,i⟩:=h;simp[f i]
  rw[d.length,this k];intro q;simp_all
 refine⟨.tuple vs.toArray,?_,vs,rfl,d⟩;unfold results;rw[List.mapM_toArray,Vg,Sem.run_map]
 grind[Result.andThen,Sem.run_pure]
theorem Qt{l:ResultVar}{x:A}(h:fn.results= #[l])(k:Qb4 P env H l x):Qa7 P fn env H x:=by
 intro f g σ N a w r;obtain⟨vs,e,d⟩:=(Qf6.cons k Qf6.nil).run r;obtain⟨v,_,rfl,d,rfl⟩:=d;refine⟨v,?_,d⟩;unfold results;rw[h,show #[l]=[l].toArray from rfl];rw[List.mapM_toArray,Vg,Sem.run_map]
 erw [e]
 rfl
end
mutual
def QgQ:A->Bool
 |.bool _=>true
 |.int _ _=>true
 |.str _=>true
 |.agg cs=>Qer cs
 |_=>false
def Qer:List A->Bool
 |[]=>true
 |a::r=>QgQ a&&Qer r
end
mutual
def QJ:A->Value
 |.bool b=>.bool b
 |.int k n=>.int k n
 |.str s=>.string ⟨s.toArray⟩
 |.agg cs=>.agg (Yv cs).toArray
 |_=>.bool false
def Yv:List A->List Value
 |[]=>[]
 |a::r=>QJ a::Yv r
end
mutual
theorem VR.val{ro:Nat->Prop}{σ:Sig}{w:World}:∀{a:A} {v:Value},QgQ a=true->VR ro σ w a v->v=QJ a
 |.bool _,_,_,h=>h
 |.int _ _,_,_,h=>h
 |.str _,_,_,h=>h
 |.agg cs,v,hs,h=>by
  obtain⟨l,rfl,h⟩:=h;rw[QJ,LR.val hs h]
theorem LR.val{ro:Nat->Prop}{σ:Sig}{w:World}:∀{az:List A} {l:List Value},Qer az=true->LR ro σ w az l->l=Yv az
 |[],l,_,h=>h
 |a::r,l,hs,h=>by
  obtain⟨v,l',rfl,h1,h2⟩:=h;simp only[Qer,XR]at hs;rw[Yv,VR.val hs.1 h1,LR.val hs.2 h2]
end
mutual
theorem QdC{ro:Nat->Prop}{σ:Sig}{w:World}:∀{a:A},QgQ a=true->VR ro σ w a (QJ a)
 |.bool _,_=>rfl
 |.int _ _,_=>rfl
 |.str _,_=>rfl
 |.agg cs,hs=>⟨Yv cs,rfl,QdR hs⟩
theorem QdR{ro:Nat->Prop}{σ:Sig}{w:World}:∀{az:List A},Qer az=true->LR ro σ w az (Yv az)
 |[],_=>rfl
 |a::r,hs=>by
  simp only[Qer,XR]at hs;exact⟨_,_,rfl,QdC hs.1,QdR hs.2⟩
end
open Go.MapKept
structure YZ (P:Program) (kt:TypeId) {α:Type} (ek:α->A):Prop where
 scl:∀x,QgQ (ek x)=true
 inj:∀x y,QJ (ek x)=QJ (ek y)->x=y
 check:∀(w:World) em x,(Instr.checkKey em 10000 kt (QJ (ek x))).run P w=.ok () w
 find:∀(w:World) x (es:List MapEntry),(∀e∈es,∃y,e.key=QJ (ek y))->
  ((Instr.findKey kt (QJ (ek x)) es).run P w=.ok none w/\ ∀e∈es,e.key≠QJ (ek x))\/ ∃j e,(Instr.findKey kt (QJ (ek x)) es).run P w=.ok (some (j,e.val)) w/\es[j]?=some e/\e.key=QJ (ek x)
 stays:∀(w:World) x,(Instr.keyThatStays (QJ (ek x)) (QJ (ek x))).run P w=.ok (QJ (ek x)) w
section
variable {P:Program} {kt:TypeId}
theorem YZ.plain{α:Type}{a:α->A}{d:TypeDesc}(f:P.underlying kt=some d)(e:∀x,IsKey d (QJ (a x)))(g:∀x,QgQ (a x)=true)(hi:∀x y,QJ (a x)=QJ (a y)->x=y):YZ P kt a:=by
 refine⟨g,hi,λw h x=>run_checkKey f (e x) h 9999,λw x j i=>?_,λw x=>run_keyThatStays (e x)⟩
 grind[findNow_spec,run_findKey]
theorem YZ.int{q:IntKind}(hk:P.underlying kt=some (.int q)):YZ P kt (λn=>A.int q n):=
 YZ.plain hk (λx=>by rfl) (λ_=>rfl) (λx y h=>by simpa[QJ]using h)
theorem YZ.str(hk:P.underlying kt=some .string):YZ P kt A.str:=
 YZ.plain hk (λx=>by simp[IsKey,QJ]) (λ_=>rfl) (λx y h=>by simpa[QJ]using h)
theorem YZ.struct{α:Type}[DecidableEq α]{a:α->A}{fs:Array Field}(F:P.underlying kt=some (.struct fs))(q:∀x,QgQ (a x)=true)(hi:∀x y,QJ (a x)=QJ (a y)->x=y)
  (r:∀(w:World) em x,(Instr.checkKey em 10000 kt (QJ (a x))).run P w=.ok () w)
  (he:∀(w:World) x y,(Op.equal kt (QJ (a x)) (QJ (a y))).run P w=.ok (decide (x=y)) w)(u:∀x,Instr.sameBits 10000 (QJ (a x)) (QJ (a x))=true):YZ P kt a:=by
 refine⟨q,hi,r,λw x d t=>?_,λw x=>by simp[Instr.keyThatStays,u x]⟩
 .have k:∀(d:List MapEntry) (i:Nat),(∀e∈d,∃y,e.key=QJ (a y))->
    ((Instr.findAsking kt (QJ (a x)) d i).run P w=.ok none w/\ ∀e∈d,e.key≠QJ (a x))\/
    ∃j e,(Instr.findAsking kt (QJ (a x)) d i).run P w=.ok (some (i+j,e.val)) w/\d[j]?=some e/\e.key=QJ (a x):=by
   intro d
   induction d with
   |nil=>simp_all[Instr.findAsking]
   |cons e d p=>
    intro i f;obtain⟨y,h⟩:=f e (by simp);have l:=he w x y;by_cases g:x=y
    .subst g;exact .inr ⟨0,e,by simp[Instr.findAsking,h,l],rfl,h⟩
    .rcases p (i+1) (λz n=>f z (by simp[n]))with⟨m,E⟩|⟨j,B,m,E,s⟩
     .refine .inl ⟨by simp[Instr.findAsking,h,l,g,m],λz n=>?_⟩
      grind
     .exact .inr ⟨j+1,B,by simp[Instr.findAsking,h,l,g,m,Nat.add_assoc,Nat.add_comm 1 j],by grind,s⟩
  cases d with
  |nil=>simp_all[Instr.findKey,run_underlying,Instr.findNow]
  |cons e d=>
   have H:Instr.findNow (.struct fs) (QJ (a x)) (e::d) 0=none:=by
    rfl
   have G:(Instr.findKey kt (QJ (a x)) (e::d)).run P w=(Instr.findAsking kt (QJ (a x)) (e::d) 0).run P w:=by
    simp_all[Instr.findKey,run_underlying]
   grind
def Qcf{α β:Type}[DecidableEq α](l:List (α×β))(k:α):Option β:=(l.find? λp=>decide (p.1=k)).map (·.2)
def Qae{α β:Type}[DecidableEq α](l:List (α×β))(k:α)(v:β):List (α×β):=bif l.any λp=>decide (p.1=k)then l.map λp=>bif decide (p.1=k)then(p.1,v)else p else l++[(k,v)]
def Ya{α β:Type}[DecidableEq α](l:List (α×β))(k:α)(z:β):β:=(Qcf l k).getD z
def QaE{α β:Type}[DecidableEq α](l:List (α×β))(k:α):Bool:=l.any λp=>decide (p.1=k)
def Qf{α β:Type}(ek:α->A)(ev:β->A)(l:List (α×β)):List (A×A):=l.map λp=>(ek p.1,ev p.2)
section
variable {α β:Type} [DecidableEq α] {ek:α->A} {ev:β->A} {ro:Nat->Prop} {σ:Sig} {w:World} (K:YZ P kt ek)
include K
theorem QeX:∀{l:List (α×β)} {es:List MapEntry},ER ro σ w (Qf ek ev l) es->es.map (·.key)=l.map λp=>QJ (ek p.1)
 |[],es,h=>by cases(show es=[]from h);rfl
 |p::l,es,h=>by
  obtain⟨e,l',rfl,h1,h2,h3⟩:=h;simp only[Vd];rw[VR.val (K.scl _) h1,QeX h3]
theorem QfG{l:List (α×β)}{es:List MapEntry}(h:ER ro σ w (Qf ek ev l) es):∀e∈es,∃y,e.key=QJ (ek y):=by
 intro e a;have:e.key∈es.map (·.key):=Vv a;rw[QeX K h]at this
 grind
theorem ER.find:∀{l:List (α×β)} {es:List MapEntry},ER ro σ w (Qf ek ev l) es->∀(x:α),(es.map (·.key)).Nodup->
  ((∀e,e∈es->e.key≠QJ (ek x))->Qcf l x=none/\QaE l x=false)/\
  (∀(j:Nat) (e:MapEntry),es[j]?=some e->e.key=QJ (ek x)->QaE l x=true/\ ∃v,Qcf l x=some v/\VR ro σ w (ev v) e.val)
 |[],es,h,x,_=>by
  cases(show es=[]from h);exact⟨λ_=>⟨rfl,rfl⟩,(by simp)⟩
 |p::l,es,h,x,hn=>by
  obtain⟨e0,l',rfl,h1,h2,h3⟩:=h;have hk:=VR.val (K.scl _) h1;simp[Vd,List.nodup_cons]at hn;obtain⟨a1,a2⟩:=ER.find h3 x hn.2;by_cases hp:p.1=x
  .grind[QaE,Qcf]
  .have e1:Qcf (p::l) x=Qcf l x:=by simp[Qcf,hp]
   have f:QaE (p::l) x=QaE l x:=by simp[QaE,hp]
   constructor
   .grind
   .intro j e a d;cases j with
    |zero=>
     simp[Xz,Option.some.injEq]at a;subst a;exact absurd (K.inj _ _ (hk.symm.trans d)) hp
    |succ j=>grind
end
end
end Go.Sw
namespace Go.Sw
open Go.MapKept
section
variable {P:Program} {o:Oper} {env:Env} {H:Qc}
theorem QR{T:Nat}(e:o.op=.makeMap T none:=by exact rfl):OpH P o env H (.map H.length) (H++[.map []]):=by
 intro f d σ N a w r;refine⟨.map (some w.heap.size),w.alloc (.map #[] 0),d,[some w.heap.size],?_,⟨w.heap.size,?_,rfl⟩,r.sim.alloc ⟨#[],0,Yi _ _,rfl,by simp,by simp,by simp⟩,Qi.alloc _ r.sim.roLt r.sim.frLt⟩
 .simp_all[execOp,Instr.makeMap]
 .rw[<- r.sim.len];simp
section
variable {T kt et:Nat} {α β:Type} [DecidableEq α] {ek:α->A} {ev:β->A} {x y:Operand} {i:Nat} {l:List (α×β)} {k:α} {z0:β} {z:Value}
theorem QbG(K:YZ P kt ek){ro:Nat->Prop}{w:World}(m:P.underlying T=some (.map kt et))(t:∀w,(zeroValue et).run P w=.ok z w)(f:ZR (ev z0) z){b a:Nat}{es:Array MapEntry}
  (n:w.heap[b]?=some (.map es a))(he:ER ro [] w (Qf ek ev l) es.toList)(u:(es.toList.map (·.key)).Nodup):
  ∃v,(∀ck,(Instr.lookup T (.map (some b)) (QJ (ek k)) ck).run P w=.ok (if ck then .tuple #[v,.bool (QaE l k)]else v) w)/\VR ro [] w (ev (Ya l k z0)) v:=by
 obtain⟨p,r⟩:=ER.find K he k u;rcases K.find w k es.toList (QfG K he)with⟨g,i⟩|⟨j,e,g,i,q⟩
 .obtain⟨d,h⟩:=p i;refine⟨z,λck=>?_,?_⟩
  .simp[Instr.lookup,Vg,run_underlying m,Result.andThen,MapKept.run_getObj_map n,Vh,K.check,g,t,h]
  .rw[Ya,d];exact f _ _ _
 .obtain⟨d,v,h,s⟩:=r j e i q;refine⟨e.val,λck=>?_,?_⟩
  .simp[Instr.lookup,Vg,run_underlying m,Result.andThen,MapKept.run_getObj_map n,Vh,K.check,g,d]
  .rw[Ya,h];exact s
theorem QN{zv:β}(K:YZ P kt ek)(n:some (Ya l k z0)=some zv)(h:P.underlying T=some (.map kt et))(t:∀w,(zeroValue et).run P w=.ok z w)(e:ZR (ev z0) z)
  (J:o.op=.lookup T x y false:=by exact rfl)(hx:opA env x=.map i:=by exact rfl)(hH:H[i]?=some (.map (Qf ek ev l)):=by exact rfl)(hy:opA env y=ek k:=by exact rfl):OpV P o env H (ev zv):=by
 obtain rfl:=XU n;intro G F σ N a w r;have f:=Ql r x;rw[hx]at f;obtain⟨b,m,Q⟩:=f;have g:=Ql r y;rw[hy]at g;have L:=VR.val (K.scl _) g;obtain⟨E,d,u,s,B,O,j⟩:=r.sim.blk i _ _ m hH;obtain⟨v,M,p⟩:=QbG K h t e u s j;refine⟨v,?_,p.mono ⟨λ_ q=>q,λ_ _=>rfl,λ_ _ q=>q,(by simp)⟩⟩
 simp_all[execOp]
theorem QaX{zv:β}(K:YZ P kt ek)(n:some (Ya l k z0)=some zv)(h:P.underlying T=some (.map kt et))(t:∀w,(zeroValue et).run P w=.ok z w)(e:ZR (ev z0) z)
  (J:o.op=.lookup T x y true:=by exact rfl)(hx:opA env x=.map i:=by exact rfl)(hH:H[i]?=some (.map (Qf ek ev l)):=by exact rfl)(hy:opA env y=ek k:=by exact rfl):OpV P o env H (.tup [ev zv,.bool (QaE l k)]):=by
 obtain rfl:=XU n;intro G F σ N a w r;have f:=Ql r x;rw[hx]at f;obtain⟨b,m,Q⟩:=f;have g:=Ql r y;rw[hy]at g;have L:=VR.val (K.scl _) g;obtain⟨E,d,u,s,B,O,j⟩:=r.sim.blk i _ _ m hH;obtain⟨v,M,p⟩:=QbG K h t e u s j;refine⟨.tuple #[v,.bool (QaE l k)],?_,[v,.bool (QaE l k)],rfl,v,_,rfl,p.mono ⟨λ_ q=>q,λ_ _=>rfl,λ_ _ q=>q,(by simp)⟩,_,_,rfl,rfl,rfl⟩
 simp_all[execOp]
theorem Qho{zv:β}(K:YZ P kt ek)(n:some (Ya l k z0)=some zv)(h:P.underlying T=some (.map kt et))(t:∀w,(zeroValue et).run P w=.ok z w)(e:ZR (ev z0) z)
  (J:o.op=.lookup T x y false:=by exact rfl)(hx:opA env x=.map i:=by exact rfl)(hH:H[i]?=some (.fmap (Qf ek ev l)):=by exact rfl)(hy:opA env y=ek k:=by exact rfl):OpV P o env H (ev zv):=by
 obtain rfl:=XU n;intro G F σ N a w r;have f:=Ql r x;rw[hx]at f;obtain⟨b,m,Q⟩:=f;have g:=Ql r y;rw[hy]at g;have L:=VR.val (K.scl _) g;obtain⟨_,E,d,u,s,B,O,j⟩:=r.sim.blk i _ _ m hH;obtain⟨v,M,p⟩:=QbG K h t e u s j;refine⟨v,?_,p.mono ⟨λ_ q=>q,λ_ _=>rfl,λ_ _ q=>q,(by simp)⟩⟩
 simp_all[execOp]
theorem ER.append{ro:Nat->Prop}{σ:Sig}{w:World}:∀{l m:List (A×A)} {es fs:List MapEntry},ER ro σ w l es->ER ro σ w m fs->ER ro σ w (l++m) (es++fs)
 |[],m,es,fs,h,k=>by cases(show es=[]from h);exact k
 |p::l,m,es,fs,h,k=>by
  obtain⟨e,l',rfl,h1,h2,h3⟩:=h;exact⟨e,l'++fs,rfl,h1,h2,ER.append h3 k⟩
theorem ER.put(K:YZ P kt ek){ro:Nat->Prop}{w w':World}{v:β}{val:Value}(a:Ext ro [] w ro [] w')(d:VR ro [] w (ev v) val):∀{l:List (α×β)} {es:List MapEntry} {j:Nat} {e:MapEntry},ER ro [] w (Qf ek ev l) es->
  (es.map (·.key)).Nodup->es[j]?=some e->e.key=QJ (ek k)->
  ER ro [] w' (Qf ek ev (l.map λp=>bif decide (p.1=k)then(p.1,v)else p)) (es.modify j λe=>{e with key:=QJ (ek k),val:=val})
 |[],es,j,e,h,hn,he,hk=>by cases(show es=[]from h);simp at he
 |p::l,es,j,e,h,hn,he,hk=>by
  obtain⟨e0,l',rfl,h1,h2,h3⟩:=h;have hk0:=VR.val (K.scl _) h1;simp only[Vd,List.nodup_cons]at hn;cases j with
  |zero=>
   simp[Xz,Option.some.injEq]at he;subst he;have hp:=K.inj _ _ (hk0.symm.trans hk);have e1:Qf ek ev ((p::l).map λp=>bif decide (p.1=k)then(p.1,v)else p)=(ek p.1,ev v)::Qf ek ev l:=by
    simp only[Qf,Vd,hp,decide_true,Vi,List.map_map,List.cons.injEq,true_and];apply List.map_congr_left;intro q f;have:q.1≠k:=by
     intro e;refine hn.1 ?_;rw[QeX K h3];exact Xe.2 ⟨q,f,by rw[e, <- hp,hk0]⟩
    simp[this]
   rw[e1];refine⟨_,l',rfl,?_,d.mono a,h3.mono a⟩;rw[<- hp];exact QdC (K.scl _)
  |succ j=>
   have hp:p.1≠k:=by
    intro q;refine hn.1 (Xe.2 ⟨e,Vw he,?_⟩);rw[hk,hk0,q]
   have e1:Qf ek ev ((p::l).map λp=>bif decide (p.1=k)then(p.1,v)else p)=(ek p.1,ev p.2)::Qf ek ev (l.map λp=>bif decide (p.1=k)then(p.1,v)else p):=by
    simp[Qf,hp]
   rw[e1];exact⟨_,_,rfl,h1.mono a,h2.mono a,ER.put K a d h3 hn.2 he hk⟩
theorem QO{m:List (α×β)}(K:YZ P kt ek){v:β}{s:Operand}(hm:some (Qae l k v)=some m)(hd:Yd (ev v)=true)(hT:P.underlying T=some (.map kt et))
  (ho:o.op=.mapUpdate T x y s:=by exact rfl)(hx:opA env x=.map i:=by exact rfl)(hH:H[i]?=some (.map (Qf ek ev l)):=by exact rfl)(hy:opA env y=ek k:=by exact rfl)(hv:opA env s=ev v:=by exact rfl):
  OpU P o env H (H.set i (.map (Qf ek ev m))):=by
 obtain rfl:=XU hm;intro fr ro σ N a w r;have h1:=Ql r x;rw[hx]at h1;obtain⟨b,Y,q2⟩:=h1;have h2:=Ql r y;rw[hy]at h2;have h3:=VR.val (K.scl _) h2;have h4:=Ql r s;rw[hv]at h4;have F:VR ro [] w (ev v) (a.eval s):=VR.data hd h4;obtain⟨u,d,M,O,p3,p4,W⟩:=r.sim.blk i _ _ Y hH;obtain⟨f1,f2⟩:=ER.find K O k W;have G:∀(obj:Obj) y,w.shape? b=some y->({w with heap:=w.heap.setIfInBounds b obj}:World).shape? b=some y:=by
  grind[World.shape?]
 rcases K.find w k u.toList (QfG K O)with⟨V,J⟩|⟨j,e,V,J,L⟩
 .obtain⟨u1,u2⟩:=f1 J;have R:Qae l k v=l++[(k,v)]:=by
   unfold Qae;rw[show(l.any λp=>decide (p.1=k))=false from u2];rfl
  have n:=r.sim.set (x':=.map (Qf ek ev (Qae l k v))) (obj:=.map (u.push {key:=QJ (ek k),val:=a.eval s,born:=d}) (d+1)) Y hH rfl (G _)
   (λe Q=>⟨_,_,Q,by
    rw[R,Qf,Xf,Array.toList_push];exact(O.mono ⟨e.sub,e.keep,e.shape,λ_ _ q=>q⟩).append ⟨_,_,rfl,QdC (K.scl _),F.mono ⟨e.sub,e.keep,e.shape,λ_ _ q=>q⟩,rfl⟩,by
    grind,by
    grind,by
    grind⟩)
  refine⟨_,ro,[],?_,by grind,n.2⟩;simp only[execOp,ho,q2,h3,Vg,Instr.mapUpdate,run_underlying hT,Result.andThen,MapKept.run_getObj_map M,K.check,V,MapKept.run_setObj_map _ M];rfl
 .obtain⟨u1,u2⟩:=f2 j e J L;have R:Qae l k v=l.map λp=>bif decide (p.1=k)then(p.1,v)else p:=by
   unfold Qae;rw[show(l.any λp=>decide (p.1=k))=true from u1];rfl
  have hj:u[j]?=some e:=by grind
  have g:(u.modify j λe=>{e with key:=QJ (ek k),val:=a.eval s}).toList=u.toList.modify j λe=>{e with key:=QJ (ek k),val:=a.eval s}:=by simp
  have t:∀{γ:Type} (f:MapEntry->γ),(∀E,u.toList[j]?=some E->f {E with key:=QJ (ek k),val:=a.eval s}=f E)->(u.toList.modify j λe=>{e with key:=QJ (ek k),val:=a.eval s}).map f=u.toList.map f:=by
   intro γ f hf;apply List.ext_getElem?
   grind
  have n:=r.sim.set (x':=.map (Qf ek ev (Qae l k v))) (obj:=.map (u.modify j λe=>{e with key:=QJ (ek k),val:=a.eval s}) d) Y hH rfl (G _)
   (λX Q=>⟨_,_,Q,by
    rw[R,g];exact ER.put K ⟨X.sub,X.keep,X.shape,λ_ _ q=>q⟩ F O W J L,by
    rw[g];intro E z;have:E.born∈(u.toList.modify j λe=>{e with key:=QJ (ek k),val:=a.eval s}).map (·.born):=Vv z;rw[t (·.born) (λ_ _=>rfl)]at this;obtain⟨e2,h,h'⟩:=Xe.1 this;rw[<- h'];exact p3 e2 h,by
    rw[g,t (·.born) (λ_ _=>rfl)];exact p4,by
    rw[g,t (·.key) (λE z=>by rw[J]at z;cases z;exact L.symm)];exact W⟩)
  refine⟨_,ro,[],?_,by simpa using n.1,n.2⟩;have B:=K.stays w k;simp only[execOp,ho,q2,h3,Vg,Instr.mapUpdate,run_underlying hT,Result.andThen,MapKept.run_getObj_map M,K.check,V,hj,Xi,Option.getD_some,L,B,MapKept.run_setObj_map _ M];rfl
theorem ER.length{ro:Nat->Prop}{σ:Sig}{w:World}:∀{l:List (A×A)} {es:List MapEntry},ER ro σ w l es->es.length=l.length
 |[],es,h=>by cases(show es=[]from h);rfl
 |p::l,es,h=>by
  obtain⟨e,l',rfl,_,_,h3⟩:=h;simp[ER.length h3]
theorem QdK{c:Call}{n:Int}(k:P.underlying T=some (.map kt et))(u:(l.length:Int)=n)(j:o.op=.call c:=by exact rfl)(hc:c={callee:=.builtin .len,args:= #[x],argTypes:= #[T]}:=by exact rfl)
  (hx:opA env x=.map i:=by exact rfl)(hH:H[i]?=some (.map (Qf ek ev l)):=by exact rfl):OpV P o env H (.int .i64 n):=by
 intro F E σ N a w r;have h:=Ql r x;rw[hx]at h;obtain⟨b,p,f⟩:=h;obtain⟨g,e,s,q,y,B,z⟩:=r.sim.blk i _ _ p hH;have m:=q.length;refine⟨.int .i64 n,?_,rfl⟩;have d:goInt g.size=.int .i64 n:=by
  have:g.size=l.length:=by rw[<- Array.length_toList,m];simp[Qf]
  rw[this, <- u];rfl
 subst hc;have t:=f;generalize a.eval=ρ at*;rw[<- d];simp[execOp,j,f,resolve,invoke,Go.builtin,Builtin.len_,run_underlying k,MapKept.run_getObj_map s,go_sem]
end
end
end Go.Sw
namespace Go.Sw
open Go.ChangeMaps (setBlock)
section
variable {P:Program} {o:Oper} {env:Env} {H:Qc} {h0 N:Nat} {Q:Qx}
def OpE(P:Program)(o:Oper)(env:Env)(H:Qc)(K:A->Qc->Prop):Prop:=
 ∀fr ro σ N a w,Rel fr ro σ H env N a w->∃x H' v w' ro' τ,K x H'/\(execOp a.eval o).run P w=.ok (.value v) w'/\VR ro' (σ++τ) w' x v/\
  Sim fr ro' (σ++τ) H' w'/\Qi fr ro w ro' w'
theorem Qf3{all:Array Oper}{l:List Oper}{d:Nat}{K:A->Qc->Prop}(p:h0<=H.length)(hg:Qs all o env true)(m:o.dst=some d)(F:Nat.blt d N=true)
  (h:OpE P o env H K)(k:∀x H',K x H'->WO P h0 N all l (up env d x) H' Q):WO P h0 N all (o::l) env H Q:=by
 intro y fr z σ a w r hrd;obtain⟨x,H',v,j,f,τ,E,B,u,n,g⟩:=h fr z σ N a w r;refine YQ (Yp hg r) B ?_;simp[m];have i:d<N:=by simp_all
 have t:Rel fr f (σ++τ) H' (up env d x) N {a with tmps:=a.tmps.setIfInBounds d v} j:=
  ⟨n,VR.up (fr:=fr) (λs=>(r.env s).mono (g.ext σ τ)) (by rw[r.size];exact i) u,by simpa using r.size,r.defers.keep g⟩
 refine Q3 (λe a w q=>q.step g (QB ?_)) _ _ _ (k x H' E y fr f (σ++τ) _ j t (hrd.to g λ_ q=>q));rw[r.sim.len];exact p
theorem Sim.shutMap{fr ro:Nat->Prop}{σ:Sig}{w:World}(s:Sim fr ro σ H w){i b:Nat}{es:List (A×A)}(hσ:σ[i]?=some (some b))(n:H[i]?=some (.map es)):
  Sim fr (λc=>ro c\/c=b) σ (H.set i (.fmap es)) w:=by
 have hown:=s.own i b _ hσ n rfl;have ext:Ext ro σ w (λc=>ro c\/c=b) σ w:=⟨λ_ q=>.inl q,λ_ _=>rfl,λ_ _ q=>q,λ_ _ q=>q⟩;have a:∀(j:Nat) (v:Blk),(H.set i (.fmap es))[j]?=some v->v.live=true->j≠i/\H[j]?=some v:=by
  intro j v h E;by_cases e:j=i
  .subst e;rw[Xb]at h
   grind[Blk.live]
  grind
 have p:∀(j:Nat) (v:Blk),(H.set i (.fmap es))[j]?=some v->v.holds=true->H[j]?=some v:=by
  intro j v h E;by_cases e:j=i
  .subst e;rw[Xb]at h;simp only[if_true]at h;split at h
   .cases h;cases E
   .simp at h
  grind
 refine⟨by rw[XY];exact s.len,s.roOk.to (λ_ q=>.inl q) (λ_ _=>rfl) ?_,s.frLt,?_,?_,?_,?_,s.hidTo (· = ·) QX (XO _) (λj d x c N O M J=>J.elim id λq=>((s.hid j d x c N O M).ne i b _ hσ n rfl q).elim) (by simp) (by grind)⟩
 .rintro c (q|rfl)
  .exact s.roLt c q
  omega
 .rintro c (q|rfl)
  .exact s.roFr c q
  grind
 .intro j c v g f m;obtain⟨e,f⟩:=a j v f m;obtain⟨t,u,r⟩:=s.own j c v g f m;refine⟨t,?_,r⟩;rintro(q|rfl)
  .exact u q
  .exact e (s.inj j i c v _ g hσ f n m rfl)
 .intro j G c v F g f m L z B;exact s.inj j G c v F g f (a j v m z).2 (a G F L B).2 z B
 .intro j y v g f;by_cases e:j=i
  .subst e;rw[hσ]at g;cases g;rw[Xb]at f;simp only[if_true]at f;split at f
   .cases f;obtain⟨l,k,t,u,r⟩:=s.blk j _ _ hσ n;exact⟨.inr rfl,l,k,t,u.mono ext.nil,r⟩
   .simp at f
  .rw[XK (λq=>e q.symm)]at f;exact(s.blk j y v g f).keep ext (λ_ _ _=>rfl) (λ_ _ _ _=>rfl)
section
variable {T kt et i:Nat} {x:Operand} {es:List (A×A)}
theorem OpH.range(u:P.underlying T=some (.map kt et))(t:o.op=.range T x:=by exact rfl)(hx:opA env x=.map i:=by exact rfl)(hH:H[i]?=some (.map es):=by exact rfl):
  OpH P o env H (.ptr H.length 0) (H.set i (.fmap es)++[.iter none es]):=by
 intro s j σ N a w r;have p:=Ql r x;rw[hx]at p;obtain⟨b,k,F⟩:=p;obtain⟨l,d,n,z,y,E,G⟩:=r.sim.blk i _ _ k hH;have B:=(r.sim.own i b _ k hH rfl).1;have m:=r.sim.shutMap k hH;have f:Qi s j w (λc=>j c\/c=b) w:=QS (λ_ q=>.inl q);have g:Qi s (λc=>j c\/c=b) w (λc=>j c\/c=b) (w.alloc (.mapIter (some b) d #[] d)):=Qi.alloc _ m.roLt m.frLt;have ext0:=(f.trans g).ext0 [];refine⟨.pointer (some ⟨w.heap.size,0,none⟩),w.alloc (.mapIter (some b) d #[] d),_,[some w.heap.size],?_,⟨w.heap.size,?_,rfl⟩,
  m.alloc (.inr ⟨b,l,d, #[],l.toList,Yi _ _,.inr rfl,by rw[Q2 _ _ _ B];exact n,y,E,?_,z.mono ext0,λ_ h=>by cases h⟩),f.trans g⟩
 .simp only[execOp,t,F,Instr.range,Vg,run_underlying u,Result.andThen,MapKept.run_getObj_map n];rfl
 .rw[<- r.sim.len];simp
 .have:l.toList.filter (λe=> !#[].contains e.born)=l.toList:=by simp
  rw[this]
theorem Qf9(p:P.underlying T=some (.map kt et))(n:o.op=.range T x:=by exact rfl)(hx:opA env x=.map i:=by exact rfl)(hH:H[i]?=some (.fmap es):=by exact rfl):
  OpH P o env H (.ptr H.length 0) (H++[.iter none es]):=by
 intro B k σ N a w r;have m:=Ql r x;rw[hx]at m;obtain⟨b,s,z⟩:=m;obtain⟨f,l,d,j,t,q,y,E⟩:=r.sim.blk i _ _ s hH;have u:=r.sim.roLt b f;have g:Qi B k w k (w.alloc (.mapIter (some b) d #[] d)):=Qi.alloc _ r.sim.roLt r.sim.frLt;have ext0:=g.ext0 [];refine⟨.pointer (some ⟨w.heap.size,0,none⟩),w.alloc (.mapIter (some b) d #[] d),_,[some w.heap.size],?_,⟨w.heap.size,?_,rfl⟩,
  r.sim.alloc (.inr ⟨b,l,d, #[],l.toList,Yi _ _,f,by rw[Q2 _ _ _ u];exact j,q,y,?_,t.mono ext0,λ_ h=>by cases h⟩),g⟩
 .simp only[execOp,n,z,Instr.range,Vg,run_underlying p,Result.andThen,MapKept.run_getObj_map j];rfl
 .rw[<- r.sim.len];simp
 .have:l.toList.filter (λe=> !#[].contains e.born)=l.toList:=by simp
  rw[this]
theorem ER.mem{ro:Nat->Prop}{σ:Sig}{w:World}:∀{es:List (A×A)} {l:List MapEntry},ER ro σ w es l->∀e∈l,∃x es' l',(x::es').Perm es/\(e::l').Perm l/\VR ro σ w x.1 e.key/\VR ro σ w x.2 e.val/\ER ro σ w es' l'
 |[],l,h,e,he=>by cases(show l=[]from h);cases he
 |y::es,l,h,e,he=>by
  obtain⟨e0,l',rfl,h1,h2,h3⟩:=h;rcases X0.1 he with rfl|he
  .exact⟨y,es,l',.refl _,.refl _,h1,h2,h3⟩
  .obtain⟨x,es',l'',p1,p2,v1,v2,h4⟩:=ER.mem h3 e he;exact⟨x,y::es',e0::l'',(List.Perm.swap _ _ _).trans (p1.cons _),(List.Perm.swap _ _ _).trans (p2.cons _),v1,v2,⟨e0,l'',rfl,h1,h2,h4⟩⟩
theorem Qfu:∀{l:List MapEntry},(l.map (·.born)).Nodup->∀a∈l,∀b∈l,a.born=b.born->a=b
 |[],_,a,ha,_,_,_=>by cases ha
 |c::l,hn,a,ha,b,hb,hab=>by
  simp[Vd,List.nodup_cons]at hn;rcases X0.1 ha with ea|ha'<;>rcases X0.1 hb with eb|hb'
  .rw[ea,eb]
  .grind
  .grind
  .exact Qfu hn.2 a ha' b hb' hab
def NextK(H:Qc)(i:Nat)(cur:Option (A×A))(es:List (A×A))(v:A)(H':Qc):Prop:=
 (es=[]/\v=.tup [.bool false]/\H'=H)\/ ∃e es',(e::es').Perm es/\v=.tup [.bool true,e.1,e.2]/\H'=H.set i (.iter (some e) es')
theorem OpE.next{G:Option (A×A)}(ho:o.op=.next x false:=by exact rfl)(hx:opA env x=.ptr i 0:=by exact rfl)(hH:H[i]?=some (.iter G es):=by exact rfl):
  OpE P o env H (NextK H i G es):=by
 intro fr u σ N a w r;have h1:=Ql r x;rw[hx]at h1;obtain⟨b,q1,q2⟩:=h1;have k:∀(v:Value) (g:World),g.heap=w.heap->g.os=w.os->g.tape=w.tape->g.output=w.output->w.drawn<=g.drawn->Sim fr u (σ++[]) H g/\Qi fr u w u g:=by
  intro v g T X e3 e4 e5;exact⟨by simpa using r.sim.heap T,Qi.heap T X e3 e4 e5⟩
 rcases r.sim.blk i _ _ q1 hH with⟨rfl,rfl,p⟩|⟨m,l,f,d,left,p1,p2,p3,p4,p5,p6,p7,p8⟩
 .refine⟨_,_,.tuple #[.bool false],w,u,[],.inl ⟨rfl,rfl,rfl⟩,?_,⟨_,rfl,_,_,rfl,rfl,rfl⟩,k (.bool false) w rfl rfl rfl rfl (XO _)⟩;generalize a.eval=ρ at*;simp only[execOp,ho,q2,Instr.next,Vg,getObj,Sem.run,p,Result.andThen];rfl
 .have ac:(leftOf l d).toList=l.toList.filter λe=> !d.contains e.born:=by simp[leftOf]
  have n:left.Perm (leftOf l d).toList:=by grind
  rcases run_next_at (P:=P) w o.type b m f f d l f p1 p3 p4 (XO _)with⟨g1,g2⟩|⟨e,g1,g,g2,g3⟩
  .have ab:left=[]:=by
    have:left.length=0:=by rw[n.length_eq];omega
    grind
   subst ab;have ae:es=[]:=by
    have:=p7.length
    grind
   refine⟨_,_,.tuple #[.bool false],w,u,[],.inl ⟨ae,rfl,rfl⟩,?_,⟨_,rfl,_,_,rfl,rfl,rfl⟩,k (.bool false) w rfl rfl rfl rfl (XO _)⟩
   simp_all[execOp]
  .have he:e∈left:=n.mem_iff.2 g1;have J:e∈l.toList:=by grind
   obtain⟨y,R,O,k1,k2,v1,v2,k3⟩:=p7.mem e he;have s:g.heap=w.heap/\g.os=w.os/\g.tape=w.tape/\g.output=w.output/\w.drawn<=g.drawn:=by
    rcases g2 with rfl|rfl
    .simp
    .exact⟨rfl,rfl,rfl,rfl,Nat.le_succ _⟩
   obtain⟨s1,E⟩:=k (.bool false) g s.1 s.2.1 s.2.2.1 s.2.2.2.1 s.2.2.2.2;rw[Va]at s1;have af:b≠m:=by
    grind
   have B:=s1.set (x':=.iter (some y) R) (obj:=.mapIter (some m) f (d.push e.born) f) q1 hH rfl
    (λz M=>by
     grind[World.shape?])
    (λt ad=>.inr ⟨m,l,f,d.push e.born,O,ad,t.sub _ p2,by
      grind,p4,p5,by
      have W:(l.toList.filter λe=> !d.contains e.born).Nodup:=by
       have:l.toList.Nodup:=List.Pairwise.of_map _ (λa b h q=>h (congrArg _ q)) p5;exact this.filter _
      have Y:(e::O).Perm (l.toList.filter λe=> !d.contains e.born):=k2.trans p6;have Q:(e::O).Nodup:=Y.nodup_iff.2 W;have T:(l.toList.filter λF=> !(d.push e.born).contains F.born)=(l.toList.filter λe=> !d.contains e.born).filter λF=> !decide (F.born=e.born):=by
       rw[List.filter_filter];apply List.filter_congr;intro z _;simp[Array.contains_push,Bool.and_comm]
      rw[T];have h2:=Y.filter (λF=> !decide (F.born=e.born));have X:(e::O).filter (λF=> !decide (F.born=e.born))=O:=by
       rw[List.filter_cons_of_neg (by simp),List.filter_eq_self];intro z M;have aa:z∈l.toList:=(Xd.1 (Y.mem_iff.1 (XZ _ M))).1;simp only[Bool.not_eq_true',decide_eq_false_iff_not];intro hb;have:z=e:=by
        exact Qfu p5 z aa e J hb
       subst this;exact(List.nodup_cons.1 Q).1 M
      rw[X]at h2;exact h2,by
      have V:Ext u [] w u [] g:=E.ext0 [];exact(k3.mono V).mono ⟨t.sub,t.keep,t.shape,λ_ _ q=>q⟩,by
      intro z M;cases M;have V:Ext u [] w u [] g:=E.ext0 [];exact⟨e,J,by simp,(v1.mono V).mono ⟨t.sub,t.keep,t.shape,λ_ _ q=>q⟩,(v2.mono V).mono ⟨t.sub,t.keep,t.shape,λ_ _ q=>q⟩⟩⟩)
   have L:=E.trans B.2;have xt:=L.ext0 [];refine⟨_,_,.tuple #[.bool true,e.key,e.val],_,u,[],.inr ⟨y,R,k1,rfl,rfl⟩,?_,
    ⟨[.bool true,e.key,e.val],rfl,_,_,rfl,rfl,_,_,rfl,(v1.mono xt).mono ⟨λ_ q=>q,λ_ _=>rfl,λ_ _ q=>q,λj c q=>by simp at q⟩,_,_,rfl,(v2.mono xt).mono ⟨λ_ q=>q,λ_ _=>rfl,λ_ _ q=>q,λj c q=>by simp at q⟩,rfl⟩,by simpa using B.1,L⟩
   generalize a.eval=ρ at*;simp only[execOp,ho,q2,Vg,g3,Result.andThen,setBlock];rfl
theorem OpV.entry{e:A×A}(E:o.op=.entry x:=by exact rfl)(hx:opA env x=.ptr i 0:=by exact rfl)(hH:H[i]?=some (.iter (some e) es):=by exact rfl):OpV P o env H (.tup [e.1,e.2]):=by
 intro B O σ N a w r;have j:=Ql r x;rw[hx]at j;obtain⟨b,u,R⟩:=j;rcases r.sim.blk i _ _ u hH with⟨_,h,_⟩|⟨m,l,d,g,left,G,Q,z,F,t,M,J,s⟩
 .cases h
 .obtain⟨f,n,L,k,p⟩:=s e rfl;refine⟨.tuple #[f.key,f.val],?_,[f.key,f.val],rfl,_,_,rfl,k.mono ⟨λ_ q=>q,λ_ _=>rfl,λ_ _ q=>q,(by simp)⟩,_,_,rfl,p.mono ⟨λ_ q=>q,λ_ _=>rfl,λ_ _ q=>q,(by simp)⟩,rfl⟩;have y:l.find? (·.born==f.born)=some f:=by rw[<- Array.find?_toList];exact find_born f l.toList t n
  simp_all[execOp,Instr.entry,getObj,Sem.run]
end
end
end Go.Sw
namespace Go.Sw
def QfN{S E B:Type}(stepE:S->E->Option (Ctl S B))(stepN:S->Option B):S->List E->Option B
 |s,[]=>stepN s
 |s,e::p=>match stepE s e with
  |some (.cont s')=>QfN stepE stepN s' p
  |some (.done b)=>some b
  |none=>none
def Qcl{E:Type}(x:E):List E->List (List E)
 |[]=>[[x]]
 |y::l=>(x::y::l)::(Qcl x l).map (y:: ·)
def Qd9{E:Type}:List E->List (List E)
 |[]=>[[]]
 |x::l=>(Qd9 l).flatMap (Qcl x)
theorem Qdp{E:Type}(x:E):∀(a b:List E),a++x::b∈Qcl x (a++b)
 |[],[]=>by simp[Qcl]
 |[],y::b=>by simp[Qcl]
 |y::a,b=>by
  simp only[Vz,Qcl,X0,Xe];exact .inr ⟨a++x::b,Qdp x a b,rfl⟩
theorem Qd8{E:Type}:∀(l p:List E),p.Perm l->p∈Qd9 l
 |[],p,h=>by rw[List.perm_nil.1 h];simp[Qd9]
 |x::l,p,h=>by
  have hx:x∈p:=h.mem_iff.2 (by simp);obtain⟨a,b,rfl⟩:=List.append_of_mem hx;have h2:=(List.perm_cons x).1 ((List.perm_middle.symm).trans h);simp[Qd9,List.mem_flatMap];exact⟨a++b,Qd8 l _ h2,Qdp x a b⟩
def anyP{E R:Type}[DecidableEq R](k:List E->Option R)(l:List E):Option R:=bif (Qd9 l).all (λp=>decide (k p=k l))then k l else none
theorem Qji{E R:Type}[DecidableEq R]{k:List E->Option R}{l:List E}{r:R}(h:anyP k l=some r)(p:List E)(a:p.Perm l):k p=some r:=by
 unfold anyP at h;cases q:(Qd9 l).all (λp=>decide (k p=k l))with
 |true=>
  simp_all[Qd8]
 |false=>grind
def QfI{S E B:Type}(stepE:S->E->Option (Ctl S B))(stepN:S->Option B)(G:B->Prop)(s:S)(l:List E):Prop:=∀p,p.Perm l->∃b,QfN stepE stepN s p=some b/\G b
section
variable {P:Program} {o:Oper} {env:Env} {H:Qc} {h0 N:Nat} {Q:Qx} {c:Code}
def Qbw(I:Env->Qc->Prop)(Q:Qx):Qx
 |.normal,env,H=>I env H
 |.exit id,env,H=>Q (.exit id) env H
 |.ret,env,H=>Q .ret env H
theorem Qiw{I:Nat->Env->Qc->Prop}(body:∀n env H,I n env H->TC P h0 N c env H (Qbw (λenv H=>∃n',n'<n/\I n' env H) Q)){n:Nat}(E:I n env H):TC P h0 N (.loop c) env H Q:=by
 intro L j y σ a w r hrd b k cs hro hb hr;have F:∀m n env H fr1 ro1 σ1 a1 w1,n<m->I n env H->Rel fr1 ro1 σ1 H env N a1 w1->Qi j y w ro1 w1->σ1.take h0=σ.take h0->Grow j w a.defers fr1 a1.defers->
   ∃e h g,Qan h0 j y σ w N a.defers Q e h g/\ArrivesIn (Machine.fenced P (WF L)) P (lone (b.atR a1 (.code c::.inLoop c::k)) cs w1) b k cs e h g:=by
  intro m
  induction m with
  |zero=>omega
  |succ m ih=>
   intro n env H fr1 ro1 σ1 a1 w1 hn E r1 ev1 t1 g1;obtain⟨e,h,g,z,d⟩:=body n env H E L fr1 ro1 σ1 a1 w1 r1 (hrd.to ev1 g1.sub) b (.inLoop c::k) cs hro hb hr;obtain⟨x,f,H',l,σ',s,u,t,J,T,M,q6⟩:=z;have p:=ev1.trans (T.frMono g1.sub);have O:=g1.trans ev1.size q6;have G:∀x,Q x f H'->ExR e x->Qan h0 j y σ w N a.defers Q e h g:=λx q R=>⟨x,f,H',l,σ',s,R,q,J,p,M.trans t1,O⟩;cases e with
   |normal=>
    obtain rfl:x=.normal:=u;obtain⟨n',Y,t⟩:=t;obtain⟨V,X,W,B,i⟩:=ih n' f H' s l σ' h g (by omega) t J p (M.trans t1) O;exact⟨V,X,W,B,.of_steps (StepsIn.trans d (.one (fenced_calm hb hr rfl) stepR_inLoop)) i⟩
   |exit id=>
    obtain rfl:x=.exit id:=u;exact⟨_,h,g,G _ t rfl,.pass rfl (by simp) d⟩
   |ret=>
    obtain rfl:x=.ret:=u;exact⟨_,h,g,G _ t rfl,.pass rfl (by simp) d⟩
   |_=>exact u.elim
 obtain⟨e,h,g,z,d⟩:=F (n+1) n env H j y σ a w (Xk _) E r (Qi.refl _ _ _) rfl (Grow.refl _ _ _);exact⟨e,h,g,z,.of_steps (.one (fenced_calm hb hr rfl) stepR_loop) d⟩
section
variable {S E B:Type} {stepE:S->E->Option (Ctl S B)} {stepN:S->Option B} {G:B->Prop} (Es:S->Env) (Hp:S->List (A×A)->Qc) {enc:E->A×A}
def AtP(stepE:S->E->Option (Ctl S B))(stepN:S->Option B)(G:B->Prop)(enc:E->A×A)(h0 n:Nat)(env:Env)(H:Qc):Prop:=
 ∃s l,l.length=n/\QfI stepE stepN G s l/\Le h0 env H (Es s) (Hp s (l.map enc))
theorem Qiv{s0:S}{l0:List E}(h:QfI stepE stepN G s0 l0)(hI:Le h0 env H (Es s0) (Hp s0 (l0.map enc)))
  (body:∀s l,QfI stepE stepN G s l->TC P h0 N c (Es s) (Hp s (l.map enc)) (Qbw (λenv H=>∃n',n'<l.length/\AtP Es Hp stepE stepN G enc h0 n' env H) Q)):TC P h0 N (.loop c) env H Q:=
 Qiw (I:=AtP Es Hp stepE stepN G enc h0) (λn env H ⟨s,l,hn,ha,hle⟩=>by subst hn;exact Qn hle (body s l ha)) ⟨s0,l0,rfl,h,hI⟩
theorem QgY{α β:Type}{f:α->β}:∀{m e:List β},m.Perm e->∀{l:List α},e=l.map f->∃l':List α,l'.Perm l/\l'.map f=m:=by
 intro m e h
 induction h with
 |nil=>simp
 |cons x _ ih=>
  intro l d;cases l with
  |nil=>cases d
  |cons a l=>
   simp[Vd,List.cons.injEq]at d;obtain⟨l',g,i⟩:=ih d.2;exact⟨a::l',g.cons _,by grind⟩
 |swap x y m=>
  intro l d
  match l,d with
  |a::b::l,d=>
   exact⟨b::a::l,List.Perm.swap _ _ _,by grind⟩
 |trans _ _ ih1 ih2=>
  intro l d;obtain⟨p,g,i⟩:=ih2 d;obtain⟨n,k,j⟩:=ih1 i.symm;exact⟨n,k.trans g,j⟩
theorem Qis{all:Array Oper}{L:List Oper}{d i:Nat}{x:Operand}{n:Option (A×A)}{s:S}{l:List E}(u:QfI stepE stepN G s l)
  (y:∀b,stepN s=some b->G b->WO P h0 N all L (up env d (.tup [.bool false])) H Q)
  (F:∀e l' D,stepE s e=some D->(∀b,D=.done b->G b)->(l'.length<l.length/\ ∀s',D=.cont s'->QfI stepE stepN G s' l')->
   WO P h0 N all L (up env d (.tup [.bool true,(enc e).1,(enc e).2])) (H.set i (.iter (some (enc e)) (l'.map enc))) Q)
  (z:o.op=.next x false:=by exact rfl)(hx:opA env x=.ptr i 0:=by exact rfl)(hH:H[i]?=some (.iter n (l.map enc)):=by exact rfl)
  (hg:Qs all o env true:=by exact rfl)(hd:o.dst=some d:=by exact rfl)(hN:Nat.blt d N=true:=by exact rfl)(hh:Nat.ble h0 H.length=true:=by exact rfl):WO P h0 N all (o::L) env H Q:=by
 refine Qf3 (XM hh) hg hd hN (OpE.next z hx hH) ?_;rintro v H' (⟨q,rfl,rfl⟩|⟨e,B,q,rfl,rfl⟩)
 .have:=List.map_eq_nil_iff.1 q;subst this;obtain⟨b,k,j⟩:=u [] (.refl _);exact y b k j
 .obtain⟨J,k,j⟩:=QgY q rfl;cases J with
  |nil=>cases j
  |cons a l'=>
   obtain⟨rfl,rfl⟩:=j;have h:l'.length<l.length:=by rw[<- k.length_eq];simp
   have f:∀p,p.Perm l'->∃b,QfN stepE stepN s (a::p)=some b/\G b:=λp m=>u _ ((m.cons a).trans k);cases r:stepE s a with
   |none=>
    obtain⟨b,g,_⟩:=f l' (.refl _);simp[QfN,r]at g
   |some D=>
    refine F a l' D r ?_ ⟨h,?_⟩
    .obtain⟨t,g,w⟩:=f l' (.refl _)
     grind[QfN]
    .rintro s' rfl p m;obtain⟨t,g,w⟩:=f p m;simp[QfN,r]at g;exact⟨t,g,w⟩
theorem QjT{s:S}{l l':List E}{D:Ctl S B}(e:some (Ctl.cont s)=some D)(hc:l'.length<l.length/\ ∀s',D=.cont s'->QfI stepE stepN G s' l')(h:Le h0 env H (Es s) (Hp s (l'.map enc))):
  Qbw (λenv H=>∃n',n'<l.length/\AtP Es Hp stepE stepN G enc h0 n' env H) Q .normal env H:=
 ⟨_,hc.1,s,l',rfl,(by grind),h⟩
theorem QjS{I:Env->Qc->Prop}{id:Nat}(h:Q (.exit id) env H):Qbw I Q (.exit id) env H:=h
end
def QjF{B:Type}(h0:Nat)(G:B->Prop)(Eb:B->Env)(Hb:B->Qc)(Q:Qx):Qx
 |.normal,env,H=>∃b,G b/\Le h0 env H (Eb b) (Hb b)
 |.exit id,env,H=>Q (.exit id) env H
 |.ret,env,H=>Q .ret env H
theorem Qjl{S E B:Type}{stepE:S->E->Option (Ctl S B)}{stepN:S->Option B}{G:B->Prop}{s0:S}{l0:List E}(hl:QfI stepE stepN G s0 l0)(Eb:B->Env)(Hb:B->Qc)
  (h:TC P h0 N c env H (QjF h0 G Eb Hb Q))(k:∀b env H,G b->Le h0 env H (Eb b) (Hb b)->Q .normal env H):TC P h0 N c env H Q:=
 h.mono λx env' H' q=>by
  cases x with
  |normal=>obtain⟨b,e,q⟩:=q;grind
  |exit id=>exact q
  |ret=>exact q
theorem cutGN{B:Type}{G:B->Prop}{Eb:B->Env}{Hb:B->Qc}{b:B}(hG:G b)(h:Le h0 env H (Eb b) (Hb b)):QjF h0 G Eb Hb Q .normal env H:=⟨b,hG,h⟩
theorem Qhw{i:Nat}{e:Option (A×A)}{es:List (A×A)}{H':Qc}(p:H[i]?=some (.iter e es))(f:H.set i (.iter none es)=H'):Le h0 env H env H':=by
 subst f;intro B n σ N a w r;refine⟨n,σ,⟨r.sim.weaken p rfl ?_,r.env,r.size,r.defers⟩,λ_ q=>q,rfl⟩;intro y h;cases y with
 |none=>exact h
 |some b=>
  rcases h with⟨k,s,j⟩|⟨m,l,d,g,left,k,s,j,u,t,E,x,z⟩
  .exact .inl ⟨k,rfl,j⟩
  .exact .inr (by grind)
end
def mk{α:Type}(n:Int)(z:α):Option (List α):=bif decide (0<=n)&&decide (n<=4294967296)then some (List.replicate n.toNat z)else none
theorem mk_ok{α:Type}{n:Int}{z:α}{l:List α}(h:mk n z=some l):0<=n/\n<=4294967296/\List.replicate n.toNat z=l:=by
 unfold mk at h;cases q:(decide (0<=n)&&decide (n<=4294967296))with
 |true=>rw[q]at h;simp at q;exact⟨q.1,q.2,XU h⟩
 |false=>rw[q]at h;cases h
theorem Qd7{α:Type}[Inhabited α](zl:List α)(k:Nat)(hk:zl.length=k)(h0:0<k):∀n,(List.range (n*k)).map (λi=>zl.toArray[i%zl.toArray.size]!)=(List.replicate n zl).flatten
 |0=>by simp
 |n+1=>by
  rw[Xj,List.range_add,Xf,Qd7 zl k hk h0 n,List.replicate_succ',List.flatten_append];congr 1;simp only[Vf,List.flatten_nil,Va,List.map_map];apply List.ext_getElem
  .simp[hk]
  .intro i h1 h2;simp only[XW,List.length_range]at h1;simp only[List.getElem_map,List.getElem_range,Function.comp,List.size_toArray,hk];rw[Nat.mul_comm,Nat.mul_add_mod,Nat.mod_eq_of_lt h1];simp[hk,h1]
section
variable {P:Program} {o:Oper} {env:Env} {H:Qc} {ro:Nat->Prop} {σ:Sig} {w:World}
theorem LR.replicate{az:List A}{l:List Value}(h:LR ro σ w az l):∀n,LR ro σ w (List.replicate n az).flatten (List.replicate n l).flatten
 |0=>rfl
 |n+1=>by
  rw[List.replicate_succ,List.replicate_succ];exact h.append (LR.replicate h n)
theorem QiZ{α:Type}{e:α->List A}{T et k:Nat}{x y:Operand}{L ky:IntKind}{n:Int}{zv:α}{l:List α}{z:Value}{a:A}(O:mk n zv=some l)(E:QP P T et k)(hz:∀w,(zeroValue et).run P w=.ok z w)(Q:ZR a z)
  (hk:Q6 a=true)(hc:QZ a=e zv)(hp:(QZ a).all Yf=true)(p:Nat.beq (e zv).length k=true)
  (ho:o.op=.makeSlice T x y:=by exact rfl)(hx:opA env x=.int L n:=by exact rfl)(hy:opA env y=.int ky n:=by exact rfl)
  {fr ro:Nat->Prop}{σ:Sig}{N:Nat}{act:Act}{w:World}(r:Rel fr ro σ H env N act w):∃lv:List Value,(execOp act.eval o).run P w=.ok (.value (.slice (some ⟨w.heap.size,0,none⟩) l.length l.length)) (w.alloc (.cells lv.toArray et))/\
   LR ro [] w (l.map e).flatten lv/\(∀v∈lv,Qu v)/\allK k (l.map e)/\lv.length=l.length*k/\l.length<=4294967296:=by
 obtain⟨n0,n1,hl⟩:=mk_ok O;have X:=Ql r x;rw[hx]at X;have h2:=Ql r y;rw[hy]at h2;have M:act.eval x=.int L n:=X;have Y:act.eval y=.int ky n:=h2;obtain⟨i,hi,af⟩:=E.bytes;obtain⟨f,c1,c2⟩:=(Q ro [] w).cells hk;have t:f.length=k:=by
  rw[c2.length,hc];exact XL p
 have ae:(if n.toNat*k=0 then(#[]:Array Value)else f.toArray)=f.toArray\/n.toNat*k=0:=by
  by_cases q:n.toNat*k=0
  .exact .inr q
  .exact .inl (Vl q)
 have d:∀(ZZ:Array Value),(ZZ=f.toArray\/n.toNat*k=0)->(Array.range (n.toNat*k)).map (λj=>ZZ[j%ZZ.size]!)=((List.replicate n.toNat f).flatten).toArray:=by
  intro ZZ hZ;by_cases q:n.toNat*k=0
  .rw[q];have:(List.replicate n.toNat f).flatten=[]:=by
    apply Vy.1;simp[t,q]
   rw[this];simp
  .obtain rfl:ZZ=f.toArray:=hZ.resolve_right q;have ac:0<k:=by
    rcases Nat.eq_zero_or_pos k with h|h
    .rw[h,Nat.mul_zero]at q;exact absurd rfl q
    .exact h
   rw[<- Qd7 f k t ac n.toNat];simp[XD, <- List.toArray_range]
 have G:=c2.replicate n.toNat;have V:allK k (List.replicate n.toNat (e zv)):=by
  have:∀m,allK k (List.replicate m (e zv)):=by
   intro m
   induction m with
   |zero=>trivial
   |succ m ih=>exact⟨XL p,ih⟩
  exact this _
 have g:∀v∈(List.replicate n.toNat f).flatten,Qu v:=by
  intro v J;obtain⟨m,O,J⟩:=List.mem_flatten.1 J;rw[List.eq_of_mem_replicate O]at J;exact c2.plain hp v J
 rw[hc]at G;have s:l.map e=List.replicate n.toNat (e zv):=by rw[<- hl,List.map_replicate]
 have F:l.length=n.toNat:=by rw[<- hl];simp
 refine⟨(List.replicate n.toNat f).flatten,?_,by rw[s];exact G,g,by rw[s];exact V,by rw[F];simp[t],by omega⟩;rw[F]
 .have hw:IntKind.i64.wrap n=n:=by
   unfold IntKind.wrap;simp[IntKind.bits,IntKind.signed];omega
  have ad:∀(x:Nat) (W:World),(askRoom x).run P W=.ok () W:=by
   intro x W;unfold askRoom;split<;>rfl
  have u:∀(c:Array Value) (W:World),(newRow et c).run P W=.ok ⟨W.heap.size,0,none⟩ (W.alloc (.cells c et)):=λc W=>rfl;have aa:¬(n<0):=by omega
  have ab:¬((i.bytes:Int)*n>2^48):=by
   have X:(i.bytes:Int)*n<=4096*4294967296:=Int.mul_le_mul (by omega) n1 n0 (by omega);omega
  have B:(Instr.makeSlice T (.int L n) (.int ky n)).run P w=.ok (.slice (some ⟨w.heap.size,0,none⟩) n.toNat n.toNat) (w.alloc (.cells ((List.replicate n.toNat f).flatten).toArray et)):=by
   have ag:¬(n>n):=by omega
   have R:∀(k:IntKind) (m:Int) (W:World),(asInt (.int k m)).run P W=.ok m W:=λk m W=>rfl;unfold Instr.makeSlice;simp only[Vg,E.sl,E.size,hi,Result.andThen,R,Vh,hw,ad,XC];rw[Vl (by simp[aa,ab];omega)];by_cases q:n.toNat*k=0
   .simp only[q,if_true,Vh];have:=d #[] (.inr q);rw[q]at this;simp only[this,u]
   .simp only[q,if_false,hz,Vh,c1,d f.toArray (.inl rfl),u]
  generalize act.eval=ρ at*;simp only[execOp,ho,M,Y,Vg,B,Result.andThen];rfl
theorem QgH{α:Type}{e:α->List A}{T et k:Nat}{x y:Operand}{i G:IntKind}{n:Int}{zv:α}{l:List α}{z:Value}{a:A}(s:mk n zv=some l)(E:QP P T et k)(L:∀w,(zeroValue et).run P w=.ok z w)(f:ZR a z)
  (j:Q6 a=true)(p:QZ a=e zv)(J:(QZ a).all Yf=true)(d:Nat.beq (e zv).length k=true)
  (u:o.op=.makeSlice T x y:=by exact rfl)(hx:opA env x=.int i n:=by exact rfl)(hy:opA env y=.int G n:=by exact rfl):
  OpH P o env H (.osl H.length 0 l.length k) (H++[.row et k (l.map e)]):=by
 intro Q q σ N act w r;obtain⟨m,M,O,F,B,h,R⟩:=QiZ s E L f j p J d u hx hy r;have g:=r.sim.allocRow (t:=et) (rest:=[]) B O F;rw[Va]at g;refine⟨_,_,q,[some w.heap.size],M,.inr ⟨w.heap.size,0,l.length,et,m.length,?_,rfl,λ_=>by simp,⟨XO _,by omega⟩,?_,by rw[h,Xs];exact XO _⟩,g,Qi.alloc _ r.sim.roLt r.sim.frLt⟩
 .rw[<- r.sim.len];simp
 .unfold World.shape?;rw[Yi];simp
end
open Go.Sort Go.Proofs Go.Shelf
section
variable {α:Type}
def ins(lt:α->α->Bool)(x:α):List α->List α
 |[]=>[x]
 |y::l=>bif lt y x then y::ins lt x l else x::y::l
def Qbk(lt:α->α->Bool):List α->List α
 |[]=>[]
 |x::l=>ins lt x (Qbk lt l)
theorem Qdo(lt:α->α->Bool)(x:α):∀l,(ins lt x l).Perm (x::l)
 |[]=>.refl _
 |y::l=>by
  unfold ins;cases lt y x
  .exact .refl _
  .exact((Qdo lt x l).cons y).trans (List.Perm.swap _ _ _)
theorem QK(lt:α->α->Bool):∀l,(Qbk lt l).Perm l
 |[]=>.refl _
 |x::l=>(Qdo lt x _).trans ((QK lt l).cons x)
structure QdD (lt:α->α->Bool) (l:List α):Prop where
 irrefl:∀x∈l,lt x x=false
 trans:∀x∈l,∀y∈l,∀z∈l,lt x y=true->lt y z=true->lt x z=true
 ntrans:∀x∈l,∀y∈l,∀z∈l,lt x y=false->lt y z=false->lt x z=false
theorem QdD.mono{lt:α->α->Bool}{l m:List α}(h:QdD lt l)(hm:∀x∈m,x∈l):QdD lt m:=
 ⟨λx hx=>h.irrefl x (hm x hx),λx hx y hy z hz=>h.trans x (hm x hx) y (hm y hy) z (hm z hz),λx hx y hy z hz=>h.ntrans x (hm x hx) y (hm y hy) z (hm z hz)⟩
theorem QdD.asymm{lt:α->α->Bool}{l:List α}(h:QdD lt l){x y:α}(a:x∈l)(e:y∈l)(d:lt x y=true):lt y x=false:=by
 cases q:lt y x
 .rfl
 .rw[<- h.irrefl x a,h.trans x a y e x a d q]
theorem Qdn{lt:α->α->Bool}{x:α}:∀{l:List α},QdD lt (x::l)->l.Pairwise (λa b=>lt b a=false)->(ins lt x l).Pairwise (λa b=>lt b a=false)
 |[],_,_=>by simp[ins]
 |y::l,h,hp=>by
  obtain⟨h1,h2⟩:=Xc.1 hp;unfold ins;cases q:lt y x
  .refine Xc.2 ⟨λz hz=>?_,hp⟩;rcases X0.1 hz with rfl|hz
   .exact q
   .exact h.ntrans z (by simp[hz]) y (by simp) x (by simp) (h1 z hz) q
  .refine Xc.2 ⟨λz hz=>?_,Qdn (h.mono (by grind)) h2⟩;rcases X0.1 ((Qdo lt x l).mem_iff.1 hz)with rfl|hz
   .exact h.asymm (by simp) (by simp) q
   grind
theorem YH{lt:α->α->Bool}:∀{l:List α},QdD lt l->(Qbk lt l).Pairwise (λa b=>lt b a=false)
 |[],_=>by simp[Qbk]
 |x::l,h=>Qdn (h.mono (by
   intro z hz;rcases X0.1 hz with rfl|hz
   .simp
   grind[QK])) (YH (h.mono (by grind)))
theorem QaR{lt:α->α->Bool}:∀{l m:List α},l.Perm m->(∀x∈l,∀y∈l,lt x y=false->lt y x=false->x=y)->l.Pairwise (λa b=>lt b a=false)->m.Pairwise (λa b=>lt b a=false)->l=m
 |[],m,h,_,_,_=>by simp_all
 |x::l,[],h,_,_,_=>by simp_all
 |x::l,y::m,h,ha,hl,hm=>by
  obtain⟨l1,l2⟩:=Xc.1 hl;obtain⟨m1,m2⟩:=Xc.1 hm;have hy:y∈x::l:=h.mem_iff.2 (by simp);have hxy:x=y:=by
   grind
  subst hxy;rw[QaR (by simp_all) (by grind) l2 m2]
def ltO(cf:α->α->Option Int)(x y:α):Bool:=match cf x y with
 |some c=>decide (c<0)
 |none=>false
def Qfq[DecidableEq α](cf:α->α->Option Int)(l:List α):Bool:=
 l.all λx=> !ltO cf x x&&l.all λy=>(cf x y).isSome&&(ltO cf x y||ltO cf y x||decide (x=y))&&l.all λz=>(!ltO cf x y|| !ltO cf y z||ltO cf x z)&&(ltO cf x y||ltO cf y z|| !ltO cf x z)
def Qbx[DecidableEq α](cf:α->α->Option Int)(l:List α):Option (List α):=bif Nat.ble l.length Yg&&Qfq cf l then some (Qbk (ltO cf) l)else none
theorem Qc9[DecidableEq α]{a:α->α->Option Int}{l l':List α}(h:Qbx a l=some l'):
  l.length<=Yg/\(∀x∈l,∀y∈l,∃c,a x y=some c)/\QdD (ltO a) l/\(∀x∈l,∀y∈l,ltO a x y=false->ltO a y x=false->x=y)/\Qbk (ltO a) l=l':=by
 unfold Qbx at h;cases i:Nat.ble l.length Yg with
 |false=>grind
 |true=>
 rw[i,Bool.true_and]at h;cases q:Qfq a l with
 |false=>grind
 |true=>
  rw[q]at h;refine⟨(by simp_all),?_⟩;unfold Qfq at q;simp[Xp,XR,Bool.not_eq_true',Bool.or_eq_true]at q;refine⟨λx d y e=>Option.isSome_iff_exists.1 ((q x d).2 y e).1.1,⟨λx d=>(q x d).1,λx d y e z j f g=>?_,λx d y e z j f g=>?_⟩,λx d y e f g=>?_,XU h⟩
  .grind
  .grind
  grind
theorem QhR[DecidableEq α]{a:α->α->Option Int}{l:List α}(d:l.length<=Yg)(c:α->α->Int)(j:∀x∈l,∀y∈l,a x y=some (c x y))(hi:∀x∈l,¬c x x<0)
  (g:∀x∈l,∀y∈l,∀z∈l,c x y<0->c y z<0->c x z<0)(i:∀x∈l,∀y∈l,∀z∈l,¬c x y<0->¬c y z<0->¬c x z<0)(h:∀x∈l,∀y∈l,¬c x y<0->¬c y x<0->x=y):
  Qbx a l=some (Qbk (ltO a) l):=by
 have e:∀x∈l,∀y∈l,ltO a x y=decide (c x y<0):=λx f y k=>by unfold ltO;grind
 have q:Qfq a l=true:=by
  unfold Qfq
  grind
 simp_all[Qbx,XN]
theorem Qaa[DecidableEq α]{a:α->α->Option Int}{l l':List α}(h:Qbx a l=some l'):l.length=l'.length:=by
 rw[<- (Qc9 h).2.2.2.2];exact(QK _ _).length_eq.symm
theorem Q8{l l':List α}{i:Int}{x:α}(h:Qba l i x=some l'):l.length=l'.length:=by
 grind[Qba]
theorem QA{g:Nat}{env:Env}{H:Qc}{s:Nat}{a a':A}(h:lk env s=a)(e:a=a'):Le g env H (up env s a') H:=by
 intro i f σ N act w r;refine⟨f,σ,⟨r.sim,λd=>?_,r.size,r.defers⟩,λ_ q=>q,rfl⟩;subst e;have:lk (up env s a) d=lk env d:=by
  simp[lk];cases q:Nat.beq d s with
  |true=>simp_all
  |false=>rfl
 rw[this];exact r.env d
end
section
variable {fr ro:Nat->Prop} {σ:Sig} {H:Qc} {w w':World}
theorem QcF(hh:∀b,b<w.heap.size->w'.heap[b]?=w.heap[b]?)(hro:∀b,ro b->b<w.heap.size)(σ:Sig):Ext ro σ w ro σ w':=
 ⟨λ_ q=>q,(by grind),λb x hx=>by grind[World.shape?],λ_ _ q=>q⟩
theorem Sim.grown(s:Sim fr ro σ H w)(a:∀b,b<w.heap.size->w'.heap[b]?=w.heap[b]?)(l:w.heap.size<=w'.heap.size):Sim fr ro σ H w':=by
 refine⟨s.len,s.roOk.to (λ_ q=>q) (λb q=>a b (s.roLt b q)) (λb h=>X9 (s.roLt b h) l),λb h=>X9 (s.frLt b h) l,s.roFr,λi b x e f n=>?_,s.inj,λi y x e f=>?_,s.hidTo (· = ·) QX l (by simp) (by simp) λj d y g m r=>.inl ⟨j,y,rfl,g,m,id,λc q=>s.hidKeep g m (λz=>a d (s.own j d y g m z).1) (λb q=>a b (s.roLt b q)) q⟩⟩
 .obtain⟨p,q⟩:=s.own i b x e f n
  grind
 .refine(s.blk i y x e f).keep (QcF a s.roLt σ) ?_ ?_
  .rintro b rfl k;exact a b (s.own i b x e f k).1
  .rintro b c rfl k;exact a c (s.hid i b x c e f k).lt
theorem Qi.grown(hh:∀b,b<w.heap.size->w'.heap[b]?=w.heap[b]?)(hs:w.heap.size<=w'.heap.size)(s:Sim fr ro σ H w)(ho:w'.os=w.os)(ht:w'.tape=w.tape)(hu:w'.output=w.output)(hd:w.drawn<=w'.drawn):Qi fr ro w ro w':=
 ⟨λ_ q=>q,λb h=>hh b (s.roLt b h),λb h=>hh b (s.frLt b h),hs,(QcF hh s.roLt σ).shape,ho,ht,hu,hd⟩
theorem Qi4(i:∀b,b<w.heap.size->w'.heap[b]?=w.heap[b]?)(j:w.heap.size<=w'.heap.size)(d:w'.os=w.os)(e:w'.tape=w.tape)(g:w'.output=w.output)(h:w.drawn<=w'.drawn):
  ∃q os',w'=grow (w.drewN q) os':=by
 refine⟨w'.drawn-w.drawn,w'.heap.extract w.heap.size w'.heap.size,?_⟩;obtain⟨a,n,f,p,m⟩:=w';simp only at i j d e g h;subst d e g;unfold grow World.drewN;have l:a=w.heap++a.extract w.heap.size a.size:=by
  grind
 have k:f=w.drawn+(f-w.drawn):=by omega
 grind
end
end Go.Sw
