/- The rules by which the code is walked, with what they rest on (part 1). -/
import Derived.Calls
import Derived.Tactics
import Derived.Below
import Derived.TacticsIn
import Derived.OrdersIn
import Derived.RangeFuncLeaves
import Derived.RangeFuncRecord
import Derived.Laws.Strings
import Derived.Laws.World
import Derived.Orders
import Derived.Maps.Keyed
import Derived.Laws.StructEq
import Derived.Maps.RangeRun
import Derived.Shelf.SlSortCmp.NoneTotal
set_option linter.unusedVariables false
set_option linter.unusedSimpArgs false
set_option linter.unusedSectionVars false
namespace Go.Sw
abbrev Xa:= @List.getElem?_set_self
abbrev Xb:= @List.getElem?_set
abbrev Xc:= @List.pairwise_cons
abbrev Xd:= @List.mem_filter
abbrev Xe:= @List.mem_map
abbrev Xf:= @List.map_append
abbrev Xg:= @Bool.not_true
abbrev Xh:= @Bool.not_false
abbrev Xi:= @Bool.false_eq_true
abbrev Xj:= @Option.map_some
abbrev Xk:= @Option.map_none
abbrev Xl:= @List.replicate_succ
abbrev Xm:= @Nat.succ_mul
abbrev Xn:= @Nat.lt_succ_self
abbrev Xo:= @List.getElem?_map
abbrev Xp:= @List.drop_eq_getElem_cons
abbrev Xq:= @List.drop_eq_nil_iff
abbrev Xr:= @List.drop_length
abbrev Xs:= @List.all_eq_true
abbrev Xt:= @List.any_eq_true
abbrev Xu:= @Array.toList_inj
abbrev Xv:= @Nat.zero_add
abbrev Xw:= @Nat.add_zero
abbrev Xx:= @List.length_take
abbrev Xy:= @List.take_append_drop
abbrev Xz:= @Nat.add_mul
abbrev XA:= @Nat.min_eq_left
abbrev XB:= @Nat.mul_le_mul_right
abbrev XC:= @List.foldl_cons
abbrev XD:= @List.getElem?_cons_zero
abbrev XE:= @List.getElem?_cons_succ
abbrev XF:= @List.getElem?_toArray
abbrev XG:= @Sem.run_ite
abbrev XH:= @List.map_toArray
abbrev XI:= @Option.bind_some
abbrev XJ:= @List.getElem?_eq_getElem
abbrev XK:= @List.getElem?_eq_some_iff
abbrev XL:= @List.getElem?_append_left
abbrev XM:= @List.getElem?_append_right
abbrev XN:= @List.getElem?_eq_none
abbrev XO:= @List.getElem?_set_ne
abbrev XP:= @Nat.eq_of_beq_eq_true
abbrev XQ:= @Nat.le_of_ble_eq_true
abbrev XR:= @Nat.ble_eq_true_of_le
abbrev XS:= @Nat.le_refl
abbrev XT:= @Nat.zero_le
abbrev XU:= @Nat.le_trans
abbrev XV:= @Bool.and_eq_true
abbrev XW:= @Bool.or_eq_false_iff
abbrev XX:= @Bool.eq_iff_iff
abbrev XY:= @Option.some.inj
abbrev XZ:= @List.length_cons
abbrev X0:= @List.length_map
abbrev X2:= @List.length_append
abbrev X3:= @List.length_set
abbrev X4:= @List.mem_cons_of_mem
abbrev X5:= @List.mem_cons
abbrev X6:= @List.take_append_of_le_length
abbrev X7:= @List.drop_append_of_le_length
abbrev X8:= @List.take_length
abbrev X9:= @List.drop_length_add_append
abbrev Va:= @List.take_length_add_append
abbrev Vb:= @Array.getElem?_eq_some_iff
abbrev Vc:= @Array.getElem?_setIfInBounds
abbrev Vd:= @Nat.lt_of_lt_of_le
abbrev Ve:= @List.append_nil
abbrev Vf:= @List.nil_append
abbrev Vg:= @List.append_assoc
abbrev Vh:= @List.map_cons
abbrev Vi:= @List.map_nil
abbrev Vj:= @List.flatten_cons
abbrev Vk:= @Sem.run_bind
abbrev Vl:= @Sem.run_pure
abbrev Vm:= @cond_true
abbrev Vn:= @cond_false
abbrev Vo:= @decide_eq_true_eq
abbrev Vp:= @if_neg
abbrev Vq:= @if_pos
abbrev Vr:= @decide_eq_true
abbrev Vs:= @of_decide_eq_true
abbrev Vt:= @of_decide_eq_false
abbrev Vu:= @beq_iff_eq
abbrev Vv:= @beq_eq_false_iff_ne
abbrev Vw:= @Bool.true_and
abbrev Vx:= @List.mem_singleton
abbrev Vy:= @Nat.lt_or_ge
abbrev Vz:= @List.mem_append
abbrev VA:= @List.pairwise_iff_getElem
abbrev VB:= @Nat.beq_refl
abbrev VC:= @List.mem_map_of_mem
abbrev VD:= @List.mem_of_getElem?
abbrev VE:= @List.take_of_length_le
abbrev VF:= @List.length_eq_zero_iff
abbrev VG:= @List.cons_append
abbrev VH:= @List.getD_eq_getElem?_getD
abbrev VI:= @Bool.eq_false_iff
def Qi9:Nat:=0
def nG:Nat:=1
def QhG:List (List Int):=[]
theorem gOk:((List.range nG).all λb=>Nat.beq b Qi9|| !(QhG.getD b []).isEmpty)=true:=by decide
theorem gLt:Nat.ble QhG.length nG=true:=by decide
theorem QmW:Nat.blt Qi9 nG=true:=by decide
structure GP (w:World):Prop where
 max:∃m:Int,w.cell? ⟨Qi9,0,none⟩=some (.int .i64 m)
 tab:∀(g:Nat) (zs:List Int),QhG[g]?=some zs->∀(i:Nat) (z:Int),zs[i]?=some z->w.cell? ⟨g,i,none⟩=some (.int .i64 z)
theorem GP.keep{w w':World}(h:∀b,b<nG->w'.heap[b]?=w.heap[b]?)(g:GP w):GP w':=by
 obtain⟨m,f⟩:=g.max;refine⟨⟨m,?_⟩,λd j a i z e=>?_⟩
 .rw[<- f];unfold World.cell?;rw[h Qi9 (by simpa using QmW)]
 .rw[<- g.tab d j a i z e];unfold World.cell?;have l:=(XK.1 a).1;have k:QhG.length<=nG:=by simpa using gLt
  rw[h d (by omega)]
theorem QfB{w:World}{b i:Nat}{v:Value}(h:w.cell? ⟨b,i,none⟩=some v):b<w.heap.size:=by
 cases e:w.heap[b]? with
 |none=>simp[World.cell?,e]at h
 |some o=>exact(Vb.1 e).1
theorem GP.size{w:World}(g:GP w)(b:Nat)(f:b<nG):b<w.heap.size:=by
 have h:=Xs.1 gOk b (List.mem_range.2 f);rw[Bool.or_eq_true]at h;rcases h with h|h
 .obtain⟨m,d⟩:=g.max;rw[XP h];exact QfB d
 .cases e:QhG[b]? with
  |none=>rw[VH,e]at h;simp at h
  |some a=>
   cases a with
   |nil=>rw[VH,e]at h;simp at h
   |cons z a=>exact QfB (g.tab b _ e 0 z rfl)
inductive A where
 |any
 |bool (b:Bool)
 |int (k:IntKind) (n:Int)
 |str (s:List UInt8)
 |nilp
 |ptr (i off:Nat)
 |rp (cs:List A)
 |nils
 |rsl (k:Nat) (es:List (List A))
 |osl (i o n k:Nat)
 |agg (cs:List A)
 |fn (f:Fn) (first cap:List A)
 |nilf
 |iface (t:Nat) (v:A)
 |nilif
 |map (i:Nat)
 |nilm
 |tup (vs:List A)
abbrev Sig:=List (Option Nat)
def Qz:Value->Prop
 |.agg _|.tuple _=>False
 |_=>True
mutual
def VR(ro:Nat->Prop)(σ:Sig)(w:World):A->Value->Prop
 |.any,_=>True
 |.bool b,v=>v=.bool b
 |.int k n,v=>v=.int k n
 |.str s,v=>v=.string ⟨s.toArray⟩
 |.nilp,v=>v=.pointer none
 |.ptr i off,v=>∃b,σ[i]?=some (some b)/\v=.pointer (some ⟨b,off,none⟩)
 |.rp cs,v=>∃b off,v=.pointer (some ⟨b,off,none⟩)/\ro b/\CR ro [] w b cs off
 |.nils,v=>v=.slice none 0 0
 |.rsl k es,v=>∃a cap,v=.slice a es.length cap/\es.length<=cap/\
   (es=[]\/ ∃b off,a=some ⟨b,off,none⟩/\ro b/\RR ro [] w b k es off)
 |.osl i o n k,v=>(n=0/\v=.slice none 0 0)\/
   ∃b p cap t m,σ[i]?=some (some b)/\v=.slice (some ⟨b,p,none⟩) n cap/\(0<cap->p=o*k)/\(n<=cap/\cap<=9223372036854775807)/\w.shape? b=some (t,m)/\(o+cap)*k<=m
 |.agg cs,v=>∃l:List Value,v=.agg l.toArray/\LR ro σ w cs l
 |.fn f first cap,v=>∃l l':List Value,v=.func f l.toArray l'.toArray/\LR ro σ w first l/\LR ro σ w cap l'
 |.nilf,v=>v=.nilFunc
 |.iface t a,v=>∃x,v=.iface t x/\VR ro σ w a x
 |.nilif,v=>v=.nilIface
 |.map i,v=>∃b,σ[i]?=some (some b)/\v=.map (some b)
 |.nilm,v=>v=.map none
 |.tup vs,v=>∃l:List Value,v=.tuple l.toArray/\LR ro σ w vs l
def CR(ro:Nat->Prop)(σ:Sig)(w:World)(b:Nat):List A->Nat->Prop
 |[],_=>True
 |a::r,off=>(∃v,w.cell? ⟨b,off,none⟩=some v/\Qz v/\VR ro σ w a v)/\CR ro σ w b r (off+1)
def RR(ro:Nat->Prop)(σ:Sig)(w:World)(b k:Nat):List (List A)->Nat->Prop
 |[],_=>True
 |cs::r,off=>cs.length=k/\CR ro σ w b cs off/\RR ro σ w b k r (off+k)
def LR(ro:Nat->Prop)(σ:Sig)(w:World):List A->List Value->Prop
 |[],l=>l=[]
 |a::r,l=>∃v l',l=v::l'/\VR ro σ w a v/\LR ro σ w r l'
end
structure Ext (ro:Nat->Prop) (σ:Sig) (w:World) (ro':Nat->Prop) (σ':Sig) (w':World):Prop where
 sub:∀b,ro b->ro' b
 keep:∀b,ro b->w'.heap[b]?=w.heap[b]?
 shape:∀b x,w.shape? b=some x->w'.shape? b=some x
 sig:∀(i b:Nat),σ[i]?=some (some b)->σ'[i]?=some (some b)
theorem QfC{w w':World}{b a:Nat}(h:w'.heap[b]?=w.heap[b]?):w'.cell? ⟨b,a,none⟩=w.cell? ⟨b,a,none⟩:=by
 simp only[World.cell?,h]
theorem Ext.nil{ro ro':Nat->Prop}{σ σ':Sig}{w w':World}(h:Ext ro σ w ro' σ' w'):Ext ro [] w ro' [] w':=
 ⟨h.sub,h.keep,h.shape,λ_ _ q=>q⟩
mutual
theorem VR.mono{ro ro':Nat->Prop}{w w':World}:∀{a:A} {σ σ':Sig} {v:Value},Ext ro σ w ro' σ' w'->VR ro σ w a v->VR ro' σ' w' a v
 |.any,_,_,_,h,_=>trivial
 |.bool b,_,_,v,h,q=>q
 |.int k n,_,_,v,h,q=>q
 |.str s,_,_,v,h,q=>q
 |.nilp,_,_,v,h,q=>q
 |.ptr i off,_,_,v,h,q=>by
  simp only[VR]at q⊢;obtain⟨b,h1,h2⟩:=q;exact⟨b,h.sig _ _ h1,h2⟩
 |.rp cs,_,_,v,h,q=>by
  simp only[VR]at q⊢;obtain⟨b,off,h1,h2,h3⟩:=q;exact⟨b,off,h1,h.sub _ h2,CR.mono h.nil h2 h3⟩
 |.nils,_,_,v,h,q=>q
 |.rsl k es,_,_,v,h,q=>by
  simp only[VR]at q⊢;obtain⟨a,cap,h1,h2,h3⟩:=q;refine⟨a,cap,h1,h2,?_⟩;rcases h3 with h3|⟨b,off,h4,h5,h6⟩
  .exact .inl h3
  .exact .inr ⟨b,off,h4,h.sub _ h5,RR.mono h.nil h5 h6⟩
 |.osl i o n k,_,_,v,h,q=>by
  simp only[VR]at q⊢;rcases q with q|⟨b,p,cap,t,m,h1,h2,h6,h3,h4,h5⟩
  .exact .inl q
  .exact .inr ⟨b,p,cap,t,m,h.sig _ _ h1,h2,h6,h3,h.shape _ _ h4,h5⟩
 |.agg cs,_,_,v,h,q=>by
  simp only[VR]at q⊢;obtain⟨l,h1,h2⟩:=q;exact⟨l,h1,LR.mono h h2⟩
 |.fn f a c,_,_,v,h,q=>by
  simp only[VR]at q⊢;obtain⟨l,l',h1,h2,h3⟩:=q;exact⟨l,l',h1,LR.mono h h2,LR.mono h h3⟩
 |.nilf,_,_,v,h,q=>q
 |.iface t a,_,_,v,h,q=>by
  simp only[VR]at q⊢;obtain⟨x,h1,h2⟩:=q;exact⟨x,h1,VR.mono h h2⟩
 |.nilif,_,_,v,h,q=>q
 |.map i,_,_,v,h,q=>by
  simp only[VR]at q⊢;obtain⟨b,h1,h2⟩:=q;exact⟨b,h.sig _ _ h1,h2⟩
 |.nilm,_,_,v,h,q=>q
 |.tup vs,_,_,v,h,q=>by
  simp only[VR]at q⊢;obtain⟨l,h1,h2⟩:=q;exact⟨l,h1,LR.mono h h2⟩
theorem CR.mono{ro ro':Nat->Prop}{w w':World}:∀{cs:List A} {σ σ':Sig} {b off:Nat},Ext ro σ w ro' σ' w'->ro b->CR ro σ w b cs off->CR ro' σ' w' b cs off
 |[],_,_,_,_,_,_,_=>trivial
 |a::r,_,_,b,off,h,hb,q=>by
  simp only[CR]at q⊢;obtain⟨⟨v,h1,hp,h2⟩,h3⟩:=q;exact⟨⟨v,by rw[QfC (h.keep _ hb)];exact h1,hp,VR.mono h h2⟩,CR.mono h hb h3⟩
theorem RR.mono{ro ro':Nat->Prop}{w w':World}:∀{es:List (List A)} {σ σ':Sig} {b k off:Nat},Ext ro σ w ro' σ' w'->ro b->RR ro σ w b k es off->RR ro' σ' w' b k es off
 |[],_,_,_,_,_,_,_,_=>trivial
 |cs::r,_,_,b,k,off,h,hb,q=>by
  simp only[RR]at q⊢;obtain⟨h1,h2,h3⟩:=q;exact⟨h1,CR.mono h hb h2,RR.mono h hb h3⟩
theorem LR.mono{ro ro':Nat->Prop}{w w':World}:∀{az:List A} {σ σ':Sig} {l:List Value},Ext ro σ w ro' σ' w'->LR ro σ w az l->LR ro' σ' w' az l
 |[],_,_,_,h,q=>q
 |a::r,_,_,l,h,q=>by
  simp only[LR]at q⊢;obtain⟨v,l',h1,h2,h3⟩:=q;exact⟨v,l',h1,VR.mono h h2,LR.mono h h3⟩
end
structure Ent where
 fl:Bool
 off:Nat
 lo:Int
 hi:Int
def winL(i n c:Nat):List (List A):=(List.range c).map λj=>[.osl i (j*n) n 1]
def eC(b1 b2:Nat)(e:Ent):List A:=[.ptr (bif e.fl then b2 else b1) e.off,.int .i64 e.lo,.int .i64 e.hi]
inductive Blk where
 |dead
 |cells (t:Nat) (cs:List A)
 |row (t k:Nat) (es:List (List A))
 |rowr (t k:Nat) (es:List (List A))
 |map (es:List (A×A))
 |iter (cur:Option (A×A)) (es:List (A×A))
 |fmap (es:List (A×A))
 |ents (t b1 b2:Nat) (es:List Ent)
 |wins (t b n c:Nat)
 |mapO (fz:Bool) (t k:Nat) (es:List (A×Option (List (List A))))
 |mapP (es:List (A×A))
 |frow (t k:Nat) (es:List (List A))
def Blk.live:Blk->Bool
 |.dead=>false
 |.fmap _=>false
 |.frow _ _ _=>false
 |.mapO fz _ _ _=> !fz
 |_=>true
def Blk.held:Blk->Bool
 |.mapO fz _ _ _=>fz
 |_=>false
def Blk.holds(x:Blk):Bool:=x.live||x.held
theorem Qbo{x:Blk}(h:x.live=true):x≠ .dead:=by rintro rfl;cases h
theorem Qgj{x:Blk}(h:x.holds=true):x≠ .dead:=by rintro rfl;cases h
theorem Qgk{x:Blk}(h:x.live=true):x.holds=true:=by unfold Blk.holds;rw[h];rfl
abbrev Qd:=List Blk
def ER(ro:Nat->Prop)(σ:Sig)(w:World):List (A×A)->List MapEntry->Prop
 |[],l=>l=[]
 |x::r,l=>∃e l',l=e::l'/\VR ro σ w x.1 e.key/\VR ro σ w x.2 e.val/\ER ro σ w r l'
def ItR(ro:Nat->Prop)(w:World)(b:Nat)(cur:Option (A×A))(es:List (A×A)):Prop:=
 (es=[]/\cur=none/\w.heap[b]?=some (.mapIter none 0 #[] 0))\/
 ∃m l clock seen left,w.heap[b]?=some (.mapIter (some m) clock seen clock)/\ro m/\w.heap[m]?=some (.map l clock)/\(∀e∈l.toList,e.born<clock)/\(l.toList.map (·.born)).Nodup/\
  (left:List MapEntry).Perm (l.toList.filter λe=> !seen.contains e.born)/\ER ro [] w es left/\
  (∀x,cur=some x->∃e∈l.toList,seen.back? =some e.born/\VR ro [] w x.1 e.key/\VR ro [] w x.2 e.val)
def RL(ro:Nat->Prop)(σ:Sig)(w:World)(k:Nat):List (List A)->List Value->Prop
 |[],_=>True
 |c::es,l=>∃l1 l2,l=l1++l2/\c.length=k/\(LR ro σ w c l1/\ ∀v∈l1,Qz v)/\RL ro σ w k es l2
theorem RL.mono{ro ro':Nat->Prop}{σ σ':Sig}{w w':World}(h:Ext ro σ w ro' σ' w'){k:Nat}:∀{es:List (List A)} {l:List Value},RL ro σ w k es l->RL ro' σ' w' k es l
 |[],_,_=>trivial
 |c::es,l,⟨l1,l2,h1,h2,h3,h4⟩=>⟨l1,l2,h1,h2,⟨h3.1.mono h,h3.2⟩,RL.mono h h4⟩
def SO(ro:Nat->Prop)(w:World)(t k:Nat)(rows:List (List A))(v:Value):Prop:=
 (rows=[]/\v=.slice none 0 0)\/ ∃(c p cap:Nat) (vs:List Value),v=.slice (some ⟨c,p,none⟩) rows.length cap/\(rows.length<=cap/\cap<=9223372036854775807)/\w.heap[c]?=some (.cells vs.toArray t (0,0))/\cap*k<=vs.length/\RL ro [] w k rows vs/\(0<cap->p=0)
def MO(ro:Nat->Prop)(w:World)(t k:Nat):List (A×Option (List (List A)))->List MapEntry->Prop
 |[],l=>l=[]
 |x::r,l=>∃e l',l=e::l'/\VR ro [] w x.1 e.key/\(∀rows,x.2=some rows->SO ro w t k rows e.val)/\MO ro w t k r l'
def QdG:List (A×Option (List (List A)))->List MapEntry->Nat->Prop
 |x::r,e::l,c=>(x.2.isSome=true/\ ∃p n cap,e.val=.slice (some ⟨c,p,none⟩) n cap)\/QdG r l c
 |_,_,_=>False
def Qh7:List (A×Option (List (List A)))->List MapEntry->Prop
 |x::r,e::l=>(∀c,x.2.isSome=true->(∃p n cap,e.val=.slice (some ⟨c,p,none⟩) n cap)->¬QdG r l c)/\Qh7 r l
 |_,_=>True
def Hid(w:World):Blk->Nat->Nat->Prop
 |.mapO _ _ _ es,b,c=>∃l clock,w.heap[b]?=some (.map l clock)/\QdG es l.toList c
 |_,_,_=>False
theorem Hid.keep{w w':World}{x:Blk}{b c:Nat}(h:w'.heap[b]?=w.heap[b]?)(q:Hid w' x b c):Hid w x b c:=by
 cases x with
 |mapO fz t k f=>obtain⟨l,d,e,a⟩:=q;exact⟨l,d,by grind,a⟩
 |_=>exact q.elim
theorem Hid.holds{w:World}{x:Blk}{b c:Nat}(q:Hid w x b c):x.holds=true:=by
 cases x with
 |mapO fz t k a=>cases fz<;>rfl
 |_=>exact q.elim
theorem MO.mono{ro ro':Nat->Prop}{σ σ':Sig}{w w':World}(h:Ext ro σ w ro' σ' w'){t k:Nat}:∀{es:List (A×Option (List (List A)))} {l:List MapEntry},(∀c,QdG es l c->w'.heap[c]?=w.heap[c]?)->MO ro w t k es l->MO ro' w' t k es l
 |[],_,_,q=>q
 |x::r,_,hh,⟨e,l',h1,h2,h3,h4⟩=>by
  subst h1;refine⟨e,l',rfl,h2.mono h.nil,λrows hr=>?_,MO.mono h (λc hc=>hh c (.inr hc)) h4⟩;rcases h3 rows hr with q|⟨c,p,cap,vs,q1,q2,q3,q4,q5,q6⟩
  .exact .inl q
  .exact .inr ⟨c,p,cap,vs,q1,q2,by rw[hh c (.inl (by grind))];exact q3,q4,q5.mono h.nil,q6⟩
theorem MO.cells{ro:Nat->Prop}{w:World}{t k:Nat}:∀{es:List (A×Option (List (List A)))} {l:List MapEntry} {c:Nat},MO ro w t k es l->QdG es l c->∃vs:Array Value,w.heap[c]?=some (.cells vs t (0,0))
 |[],l,c,h,q=>by cases l<;>exact q.elim
 |x::r,_,c,⟨e,l',h1,h2,h3,h4⟩,q=>by
  subst h1;rcases q with⟨q1,p,n,cap,q2⟩|q
  .obtain⟨rows,hr⟩:=Option.isSome_iff_exists.1 q1;rcases h3 rows hr with⟨_,z⟩|⟨c',p',cap',vs,z1,z2,z3,z4,z5,z6⟩
   .grind
   grind
  .exact MO.cells h4 q
def Born(l:Array MapEntry)(clock:Nat):Prop:=clock=l.size/\ ∀(i:Nat) (e:MapEntry),l.toList[i]?=some e->e.born=i
theorem Born.modify{l:Array MapEntry}{a j:Nat}{f:MapEntry->MapEntry}(h:Born l a)(m:∀e,(f e).born=e.born):Born (l.modify j f) a:=by
 obtain⟨d,g⟩:=h;refine⟨by simp[d],λi k q=>?_⟩
 grind
def BR(ro:Nat->Prop)(σ:Sig)(w:World):Blk->Option Nat->Prop
 |.dead,_=>True
 |.cells t cs,some b=>∃l:List Value,w.heap[b]?=some (.cells l.toArray t (0,0))/\LR ro σ w cs l/\ ∀v∈l,Qz v
 |.row t k es,some b=>∃l:List Value,w.heap[b]?=some (.cells l.toArray t (0,0))/\RL ro [] w k es l
 |.rowr t k es,some b=>∃l:List Value,w.heap[b]?=some (.cells l.toArray t (0,0))/\RL ro σ w k es l
 |.row _ _ es,none=>es=[]
 |.ents t b1 b2 es,some b=>∃l:List Value,w.heap[b]?=some (.cells l.toArray t (0,0))/\RL ro σ w 3 (es.map (eC b1 b2)) l
 |.ents _ _ _ es,none=>es=[]
 |.wins t b n c,some d=>∃l:List Value,w.heap[d]?=some (.cells l.toArray t (0,0))/\RL ro σ w 1 (winL b n c) l
 |.wins _ _ _ c,none=>c=0
 |.map es,some b=>∃l clock,w.heap[b]?=some (.map l clock)/\ER ro [] w es l.toList/\
   (∀e∈l.toList,e.born<clock)/\(l.toList.map (·.born)).Nodup/\(l.toList.map (·.key)).Nodup
 |.mapP es,some b=>∃l clock,w.heap[b]?=some (.map l clock)/\ER ro σ w es l.toList/\
   (∀e∈l.toList,e.born<clock)/\(l.toList.map (·.born)).Nodup/\(l.toList.map (·.key)).Nodup
 |.frow t k es,some b=>ro b/\ ∃l:List Value,w.heap[b]?=some (.cells l.toArray t (0,0))/\RL ro [] w k es l/\l.length=es.length*k
 |.iter cur es,some b=>ItR ro w b cur es
 |.mapO fz t k es,some b=>(fz=true->ro b)/\ ∃l clock,w.heap[b]?=some (.map l clock)/\MO ro w t k es l.toList/\Qh7 es l.toList/\
   (∀e∈l.toList,e.born<clock)/\(l.toList.map (·.born)).Nodup/\(l.toList.map (·.key)).Nodup/\Born l clock
 |.fmap es,some b=>ro b/\ ∃l clock,w.heap[b]?=some (.map l clock)/\ER ro [] w es l.toList/\
   (∀e∈l.toList,e.born<clock)/\(l.toList.map (·.born)).Nodup/\(l.toList.map (·.key)).Nodup
 |_,none=>False
structure RoOk (ro:Nat->Prop) (w:World):Prop where
 lt:∀b,ro b->b<w.heap.size
 g:∀b,b<nG->ro b
 gp:GP w
theorem RoOk.to{ro ro':Nat->Prop}{w w':World}(h:RoOk ro w)(sub:∀b,ro b->ro' b)(keep:∀b,ro b->w'.heap[b]?=w.heap[b]?)(lt:∀b,ro' b->b<w'.heap.size):RoOk ro' w':=
 ⟨lt,λb hb=>sub b (h.g b hb),h.gp.keep λb hb=>keep b (h.g b hb)⟩
structure Qmq (fr ro:Nat->Prop) (σ:Sig) (H:Qd) (w:World) (i0 b0 c:Nat):Prop where
 lt:c<w.heap.size
 ro:¬ro c
 fr:¬fr c
 ne:∀(j b:Nat) (y:Blk),σ[j]?=some (some b)->H[j]?=some y->y.live=true->c≠b
 one:∀(j b:Nat) (y:Blk),σ[j]?=some (some b)->H[j]?=some y->Hid w y b c->b=b0/\j=i0
structure Sim (fr ro:Nat->Prop) (σ:Sig) (H:Qd) (w:World):Prop where
 len:σ.length=H.length
 roOk:RoOk ro w
 frLt:∀b,fr b->b<w.heap.size
 roFr:∀b,ro b->¬fr b
 own:∀(i b:Nat) (blk:Blk),σ[i]?=some (some b)->H[i]?=some blk->blk.live=true->b<w.heap.size/\ ¬ro b/\ ¬fr b
 inj:∀(i j b:Nat) (x y:Blk),σ[i]?=some (some b)->σ[j]?=some (some b)->H[i]?=some x->H[j]?=some y->x.live=true->y.live=true->i=j
 blk:∀(i:Nat) (s:Option Nat) (x:Blk),σ[i]?=some s->H[i]?=some x->BR ro σ w x s
 hid:∀(i b:Nat) (x:Blk) (c:Nat),σ[i]?=some (some b)->H[i]?=some x->Hid w x b c->Qmq fr ro σ H w i b c
theorem Sim.roHeld{fr ro:Nat->Prop}{σ:Sig}{H:Qd}{w:World}(s:Sim fr ro σ H w){i b:Nat}{x:Blk}(e:σ[i]?=some (some b))(d:H[i]?=some x)(a:x.held=true):ro b:=by
 have h:=s.blk i _ x e d;cases x with
 |mapO fz t k f=>exact h.1 a
 |_=>cases a
theorem Sim.hidKeep{fr ro:Nat->Prop}{σ:Sig}{H:Qd}{w w':World}(s:Sim fr ro σ H w){i b c:Nat}{x:Blk}(f:σ[i]?=some (some b))(d:H[i]?=some x)
  (e:x.live=true->w'.heap[b]?=w.heap[b]?)(g:∀b,ro b->w'.heap[b]?=w.heap[b]?)(q:Hid w' x b c):Hid w x b c:=by
 refine q.keep ?_;have h:=q.holds;cases a:x.live with
 |true=>exact e a
 |false=>unfold Blk.holds at h;rw[a]at h;exact g b (s.roHeld f d h)
theorem Sim.hidTo{fr m ro l:Nat->Prop}{σ σ':Sig}{H H':Qd}{w w':World}(s:Sim fr ro σ H w)(R:Nat->Nat->Prop)(W:∀j j' a,R j a->R j' a->j=j')(E:w.heap.size<=w'.heap.size)
  (Q:∀(i b:Nat) (x:Blk) (c:Nat),σ[i]?=some (some b)->H[i]?=some x->Hid w x b c->l c->ro c)
  (M:∀(i b:Nat) (x:Blk) (c:Nat),σ[i]?=some (some b)->H[i]?=some x->Hid w x b c->m c->fr c)
  (h:∀(j d:Nat) (y:Blk),σ'[j]?=some (some d)->H'[j]?=some y->y.holds=true->
   (∃(a:Nat) (p:Blk),R j a/\σ[a]?=some (some d)/\H[a]?=some p/\(y.live=true->p.live=true)/\ ∀c,Hid w' y d c->Hid w p d c)\/(w.heap.size<=d/\ ∀c,Hid w' y d c->False)):
  ∀(i b:Nat) (x:Blk) (c:Nat),σ'[i]?=some (some b)->H'[i]?=some x->Hid w' x b c->Qmq m l σ' H' w' i b c:=by
 intro i b x c T J F;rcases h i b x T J F.holds with⟨a,p,V,P,L,g3,N⟩|⟨_,g⟩
 .have k:=s.hid a b p c P L (N c F);refine⟨Vd k.lt E,λq=>k.ro (by grind),λq=>k.fr (by grind),λj d y u r n=>?_,λj d y u r n=>?_⟩
  .rcases h j d y u r (Qgk n)with⟨z,y1,_,B,t,G,_⟩|⟨f,_⟩
   .exact k.ne z d y1 B t (G n)
   .exact λe=>by have:=k.lt;omega
  .rcases h j d y u r n.holds with⟨z,y1,Y,B,t,G,O⟩|⟨_,f⟩
   .obtain⟨X,e2⟩:=k.one z d y1 B t (O c n)
    grind
   grind
 grind
theorem Q7(j j' j0:Nat)(h:j=j0)(h':j'=j0):j=j':=h.trans h'.symm
theorem Sim.roLt{fr ro:Nat->Prop}{σ:Sig}{H:Qd}{w:World}(s:Sim fr ro σ H w):∀b,ro b->b<w.heap.size:=s.roOk.lt
structure Qh (fr ro:Nat->Prop) (w:World) (ro':Nat->Prop) (w':World):Prop where
 sub:∀b,ro b->ro' b
 keepRo:∀b,ro b->w'.heap[b]?=w.heap[b]?
 keepFr:∀b,fr b->w'.heap[b]?=w.heap[b]?
 size:w.heap.size<=w'.heap.size
 shape:∀b x,w.shape? b=some x->w'.shape? b=some x
 os:w'.os=w.os
 tape:w'.tape=w.tape
 output:w'.output=w.output
 drawn:w.drawn<=w'.drawn
theorem Qh.refl(fr ro:Nat->Prop)(w:World):Qh fr ro w ro w:=
 ⟨λ_ h=>h,λ_ _=>rfl,λ_ _=>rfl,XS _,λ_ _ h=>h,rfl,rfl,rfl,XS _⟩
theorem Qh.trans{fr ro ro1 ro2:Nat->Prop}{w w1 w2:World}(h:Qh fr ro w ro1 w1)(k:Qh fr ro1 w1 ro2 w2):Qh fr ro w ro2 w2:=
 ⟨λb q=>k.sub _ (h.sub _ q),λb q=>(k.keepRo _ (h.sub _ q)).trans (h.keepRo _ q),λb q=>(k.keepFr _ q).trans (h.keepFr _ q),
  XU h.size k.size,λb x q=>k.shape _ _ (h.shape _ _ q),k.os.trans h.os,k.tape.trans h.tape,k.output.trans h.output,XU h.drawn k.drawn⟩
theorem Qb7{σ τ:Sig}{i b:Nat}(h:σ[i]?=some (some b)):(σ++τ)[i]?=some (some b):=by
 grind
theorem Qh.ext{fr ro ro':Nat->Prop}{w w':World}(h:Qh fr ro w ro' w')(σ τ:Sig):Ext ro σ w ro' (σ++τ) w':=
 ⟨h.sub,h.keepRo,h.shape,λ_ _=>Qb7⟩
theorem Qh.ext0{fr ro ro':Nat->Prop}{w w':World}(h:Qh fr ro w ro' w')(σ:Sig):Ext ro σ w ro' σ w':=
 ⟨h.sub,h.keepRo,h.shape,λ_ _ q=>q⟩
theorem ER.mono{ro ro':Nat->Prop}{σ σ':Sig}{w w':World}(h:Ext ro σ w ro' σ' w'):∀{es:List (A×A)} {l:List MapEntry},ER ro σ w es l->ER ro' σ' w' es l
 |[],_,q=>q
 |x::r,l,q=>by
  simp only[ER]at q⊢;obtain⟨e,l',h1,h2,h3,h4⟩:=q;exact⟨e,l',h1,h2.mono h,h3.mono h,ER.mono h h4⟩
theorem ItR.keep{ro d:Nat->Prop}{σ σ':Sig}{w w':World}(h:Ext ro σ w d σ' w'){b:Nat}(F:w'.heap[b]?=w.heap[b]?){g:Option (A×A)}{es:List (A×A)}
  (q:ItR ro w b g es):ItR d w' b g es:=by
 rcases q with⟨j,i,k⟩|⟨m,l,a,f,left,j,i,k,n,r,p,u,s⟩
 .exact .inl ⟨j,i,by grind⟩
 .refine .inr ⟨m,l,a,f,left,by grind,h.sub _ i,by rw[h.keep _ i];exact k,n,r,p,u.mono h.nil,λx E=>?_⟩;obtain⟨e,z,y,B,t⟩:=s x E;exact⟨e,z,y,B.mono h.nil,t.mono h.nil⟩
theorem CR.keep{ro ro':Nat->Prop}{σ σ':Sig}{w w':World}(h:Ext ro σ w ro' σ' w'){b:Nat}(hb:w'.heap[b]?=w.heap[b]?):
  ∀{cs:List A} {off:Nat},CR ro σ w b cs off->CR ro' σ' w' b cs off
 |[],_,_=>trivial
 |a::r,off,q=>by
  simp only[CR]at q⊢;obtain⟨⟨v,h1,hp,h2⟩,h3⟩:=q;exact⟨⟨v,by rw[QfC hb];exact h1,hp,h2.mono h⟩,CR.keep h hb h3⟩
theorem RR.keep{ro ro':Nat->Prop}{σ σ':Sig}{w w':World}(h:Ext ro σ w ro' σ' w'){b:Nat}(hb:w'.heap[b]?=w.heap[b]?){k:Nat}:
  ∀{es:List (List A)} {off:Nat},RR ro σ w b k es off->RR ro' σ' w' b k es off
 |[],_,_=>trivial
 |cs::r,off,q=>by
  simp only[RR]at q⊢;obtain⟨h1,h2,h3⟩:=q;exact⟨h1,CR.keep h hb h2,RR.keep h hb h3⟩
theorem BR.keep{ro m:Nat->Prop}{σ σ':Sig}{w w':World}(h:Ext ro σ w m σ' w'){x:Blk}{s:Option Nat}
  (g:∀b,s=some b->x.live=true->w'.heap[b]?=w.heap[b]?)(q:BR ro σ w x s)(r:∀b c,s=some b->Hid w x b c->w'.heap[c]?=w.heap[c]?):BR m σ' w' x s:=by
 cases x with
 |mapO fz t k i=>
  cases s with
  |none=>exact q
  |some b=>
   obtain⟨j,l,c,a,e,f⟩:=q;refine⟨λz=>h.sub b (j z),l,c,?_,e.mono h (λd p=>r b d rfl ⟨l,c,a,p⟩),f⟩;cases fz with
   |false=>rw[g b rfl rfl];exact a
   |true=>rw[h.keep b (j rfl)];exact a
 |dead=>trivial
 |cells t E=>
  cases s with
  |none=>exact q
  |some b=>
   obtain⟨l,a,e,f⟩:=q;exact⟨l,by rw[g b rfl rfl];exact a,e.mono h,f⟩
 |row t k i=>
  cases s with
  |none=>exact q
  |some b=>
   obtain⟨l,a,e⟩:=q;exact⟨l,by rw[g b rfl rfl];exact a,e.mono h.nil⟩
 |rowr t k i=>
  cases s with
  |none=>exact q.elim
  |some b=>
   obtain⟨l,a,e⟩:=q;exact⟨l,by rw[g b rfl rfl];exact a,e.mono h⟩
 |wins t b n c=>
  cases s with
  |none=>exact q
  |some d=>
   obtain⟨l,a,e⟩:=q;exact⟨l,by rw[g d rfl rfl];exact a,e.mono h⟩
 |ents t y B i=>
  cases s with
  |none=>exact q
  |some b=>
   obtain⟨l,a,e⟩:=q;exact⟨l,by rw[g b rfl rfl];exact a,e.mono h⟩
 |map i=>
  cases s with
  |none=>exact q
  |some b=>
   obtain⟨l,c,a,e,f⟩:=q;exact⟨l,c,by rw[g b rfl rfl];exact a,e.mono h.nil,f⟩
 |mapP i=>
  cases s with
  |none=>exact q
  |some b=>
   obtain⟨l,c,a,e,f⟩:=q;exact⟨l,c,by rw[g b rfl rfl];exact a,e.mono h,f⟩
 |frow t k i=>
  cases s with
  |none=>exact q
  |some b=>
   obtain⟨j,l,a,e,f⟩:=q;exact⟨h.sub b j,l,by rw[h.keep b j];exact a,e.mono h.nil,f⟩
 |iter u i=>
  cases s with
  |none=>exact q
  |some b=>exact ItR.keep h (g b rfl rfl) q
 |fmap i=>
  cases s with
  |none=>exact q
  |some b=>
   obtain⟨j,l,c,a,e,f⟩:=q;exact⟨h.sub b j,l,c,by rw[h.keep b j];exact a,e.mono h.nil,f⟩
abbrev Env:=List (Nat×A)
def lk:Env->Nat->A
 |[],_=>.any
 |(d,a)::r,s=>bif Nat.beq s d then a else lk r s
abbrev up(env:Env)(d:Nat)(a:A):Env:=(d,a)::env
inductive AEx where
 |normal|exit (id:Nat)|ret
abbrev QE:=AEx->Env->Qd->Prop
def Qne(fr:Nat->Prop)(w:World)(d:Deferred):Prop:=∃D,d={target:=.collected D,args:= #[]}/\fr D/\w.heap[D]?=some (.deferred (some []))
def QiI(d:Deferred):Prop:=∃fv cap,d={target:=.fn fv cap,args:= #[]}
def Qbr(fr:Nat->Prop)(ds:List Deferred)(w:World):Prop:=ds.Nodup/\ ∀d∈ds,Qne fr w d\/QiI d
theorem Qbr.mark{fr:Nat->Prop}{a:List Deferred}{w:World}(h:Qbr fr a w){D:Nat}(g:({target:=.collected D,args:= #[]}:Deferred)∈a):fr D/\w.heap[D]?=some (.deferred (some [])):=by
 rcases h.2 _ g with⟨D',e,i,d⟩|⟨f,c,e⟩
 .have:D=D':=by simpa using e
  subst this;exact⟨i,d⟩
 .simp at e
theorem Qbr.to{fr a:Nat->Prop}{e:List Deferred}{w w':World}(h:Qbr fr e w)(k:∀D,({target:=.collected D,args:= #[]}:Deferred)∈e->fr D->w.heap[D]?=some (.deferred (some []))->a D/\w'.heap[D]?=some (.deferred (some []))):Qbr a e w':=by
 refine⟨h.1,λd f=>?_⟩;rcases h.2 d f with⟨D,g,i,m⟩|q
 .obtain⟨l,j⟩:=k D (g▸f) i m;exact .inl ⟨D,g,l,j⟩
 .exact .inr q
theorem Qbr.keep{fr ro ro':Nat->Prop}{ds:List Deferred}{w w':World}(h:Qbr fr ds w)(k:Qh fr ro w ro' w'):Qbr fr ds w':=
 h.to λD _ h2 h3=>⟨h2,(k.keepFr D h2).trans h3⟩
structure Grow (fr:Nat->Prop) (w:World) (ds:List Deferred) (fr':Nat->Prop) (ds':List Deferred):Prop where
 sub:∀b,fr b->fr' b
 new:∀b,fr' b->fr b\/w.heap.size<=b
 kd:∀d∈ds,d∈ds'
 ds:∀d∈ds',d∈ds\/ ∃D,d={target:=.collected D,args:= #[]}/\w.heap.size<=D
theorem Grow.refl(fr:Nat->Prop)(w:World)(ds:List Deferred):Grow fr w ds fr ds:=⟨λ_ h=>h,λ_ h=>.inl h,λ_ h=>h,λ_ h=>.inl h⟩
theorem Grow.trans{fr a f:Nat->Prop}{w i:World}{ds g e:List Deferred}(h:Grow fr w ds a g)(m:w.heap.size<=i.heap.size)(k:Grow a i g f e):Grow fr w ds f e:=by
 refine⟨λb q=>k.sub b (h.sub b q),λb q=>?_,λd q=>k.kd d (h.kd d q),λd q=>?_⟩
 .rcases k.new b q with q|q
  .exact h.new b q
  omega
 .rcases k.ds d q with q|⟨D,j,l⟩
  .exact h.ds d q
  grind
theorem Qh.frMono{fr fr' ro ro':Nat->Prop}{w w':World}(h:Qh fr' ro w ro' w')(s:∀b,fr b->fr' b):Qh fr ro w ro' w':=
 ⟨h.sub,h.keepRo,λb q=>h.keepFr b (s b q),h.size,h.shape,h.os,h.tape,h.output,h.drawn⟩
theorem Sim.frMono{fr fr' ro:Nat->Prop}{σ:Sig}{H:Qd}{w:World}(h:Sim fr' ro σ H w)(s:∀b,fr b->fr' b):Sim fr ro σ H w:=
 ⟨h.len,h.roOk,λb q=>h.frLt b (s b q),λb q r=>h.roFr b q (s b r),λi b x q1 q2 q3=>let⟨a,b',c⟩:=h.own i b x q1 q2 q3;(by grind),h.inj,h.blk,λi b x c q1 q2 q3=>let k:=h.hid i b x c q1 q2 q3;⟨k.lt,k.ro,λq=>k.fr (s c q),k.ne,k.one⟩⟩
structure Rel (fr ro:Nat->Prop) (σ:Sig) (H:Qd) (env:Env) (N:Nat) (a:Act) (w:World):Prop where
 sim:Sim fr ro σ H w
 env:∀s,VR ro σ w (lk env s) (a.tmps.getD s undef)
 size:a.tmps.size=N
 defers:Qbr fr a.defers w
def QdF(rd:Option Nat)(fr:Nat->Prop)(w:World):Prop:=∀l,rd=some l->fr l/\ ∃r,w.heap[l]?=some (.loop r)
theorem QdF.none{fr:Nat->Prop}{w:World}:QdF none fr w:=λl e=>by cases e
theorem QdF.to{rd:Option Nat}{fr fr' ro ro':Nat->Prop}{w w':World}(h:QdF rd fr w)(k:Qh fr ro w ro' w')(s:∀b,fr b->fr' b):QdF rd fr' w':=λl e=>by
 obtain⟨h1,r,h2⟩:=h l e;exact⟨s l h1,r,(k.keepFr l h1).trans h2⟩
def ExR:Exit->AEx->Prop
 |.normal,x=>x=.normal
 |.exit id,x=>x=.exit id
 |.ret,x=>x=.ret
 |_,_=>False
def Qap(h0:Nat)(fr ro:Nat->Prop)(σ:Sig)(w:World)(N:Nat)(ds:List Deferred)(Q:QE):Exit->Act->World->Prop:=
 λe a' w'=>∃x env' H' ro' σ' fr',ExR e x/\Q x env' H'/\Rel fr' ro' σ' H' env' N a' w'/\Qh fr ro w ro' w'/\σ'.take h0=σ.take h0/\Grow fr w ds fr' a'.defers
theorem Qap.grow{i:Nat}{fr d ro a:Nat->Prop}{σ σ1:Sig}{w l:World}{N:Nat}{m g:List Deferred}{Q:QE}{e:Exit}{a':Act}{w':World}
  (h:Qap i d a σ1 l N g Q e a' w')(he:Qh fr ro w a l)(s:σ1.take i=σ.take i)(hg:Grow fr w m d g):Qap i fr ro σ w N m Q e a' w':=by
 obtain⟨x,f,H',j,σ',k,t,n,u,p,q,r⟩:=h;exact⟨x,f,H',j,σ',k,t,n,u,he.trans (p.frMono hg.sub),q.trans s,hg.trans he.size r⟩
theorem Qap.step{h0:Nat}{fr ro ro1:Nat->Prop}{σ σ1:Sig}{w w1:World}{N:Nat}{ds:List Deferred}{Q:QE}{e:Exit}{a':Act}{w':World}
  (h:Qap h0 fr ro1 σ1 w1 N ds Q e a' w')(he:Qh fr ro w ro1 w1)(hs:σ1.take h0=σ.take h0):Qap h0 fr ro σ w N ds Q e a' w':=h.grow he hs (Grow.refl _ _ _)
theorem Qap.mono{g:Nat}{fr ro:Nat->Prop}{σ:Sig}{w:World}{N:Nat}{i:List Deferred}{Q Q':QE}{e:Exit}{a':Act}{w':World}
  (h:Qap g fr ro σ w N i Q e a' w')(k:∀x env H,Q x env H->Q' x env H):Qap g fr ro σ w N i Q' e a' w':=by
 obtain⟨x,a,H',d,σ',f,l,j,m⟩:=h;exact⟨x,a,H',d,σ',f,l,k _ _ _ j,m⟩
def Qbq(h0:Nat)(fr ro:Nat->Prop)(σ:Sig)(w:World)(N:Nat)(ds:List Deferred)(Q:QE):Exit->Act->World->Prop:=
 λe a' w'=>∃x env' H' ro' σ' fr',ExR e x/\Q x env' H'/\Rel fr' ro' σ' H' env' N a' w'/\Qh fr ro w ro' w'/\σ'.take h0=σ.take h0/\a'.defers=ds/\Grow fr w ds fr' ds
theorem Qbq.grow{g:Nat}{fr d ro a:Nat->Prop}{σ σ1:Sig}{w l:World}{N:Nat}{i:List Deferred}{Q:QE}{e:Exit}{a':Act}{w':World}
  (h:Qbq g d a σ1 l N i Q e a' w')(he:Qh fr ro w a l)(s:σ1.take g=σ.take g)(hg:Grow fr w i d i):Qbq g fr ro σ w N i Q e a' w':=by
 obtain⟨x,f,H',j,σ',k,t,m,u,n,p,q,r⟩:=h;exact⟨x,f,H',j,σ',k,t,m,u,he.trans (n.frMono hg.sub),p.trans s,q,hg.trans he.size r⟩
theorem Qbq.step{h0:Nat}{fr ro ro1:Nat->Prop}{σ σ1:Sig}{w w1:World}{N:Nat}{ds:List Deferred}{Q:QE}{e:Exit}{a':Act}{w':World}
  (h:Qbq h0 fr ro1 σ1 w1 N ds Q e a' w')(he:Qh fr ro w ro1 w1)(hs:σ1.take h0=σ.take h0):Qbq h0 fr ro σ w N ds Q e a' w':=h.grow he hs (Grow.refl _ _ _)
theorem Qbq.mono{g:Nat}{fr ro:Nat->Prop}{σ:Sig}{w:World}{N:Nat}{i:List Deferred}{Q Q':QE}{e:Exit}{a':Act}{w':World}
  (h:Qbq g fr ro σ w N i Q e a' w')(k:∀x env H,Q x env H->Q' x env H):Qbq g fr ro σ w N i Q' e a' w':=by
 obtain⟨x,a,H',d,σ',f,l,j,m⟩:=h;exact⟨x,a,H',d,σ',f,l,k _ _ _ j,m⟩
theorem Qbq.postW{g:Nat}{fr ro:Nat->Prop}{σ:Sig}{w:World}{N:Nat}{i:List Deferred}{Q:QE}{e:Exit}{a':Act}{w':World}
  (h:Qbq g fr ro σ w N i Q e a' w'):Qap g fr ro σ w N i Q e a' w':=by
 obtain⟨x,a,H',d,σ',f,m,j,n,k,l,p,q⟩:=h;exact⟨x,a,H',d,σ',f,m,j,n,k,l,by grind⟩
def WF(rd:Option Nat):Fence:={Fence.wide with round:=rd}
theorem WF.calls{rd:Option Nat}{P:Program}{f:FuncId}{args:Array Value}{w:World}{R:Ending->World->Prop}:CallsIn (WF rd) 0 P f args w R↔Calls P f args w R:=callsIn_wide
abbrev wpL(P:Program)(rd:Option Nat)(ops:Array Oper)(Q:Exit->Act->World->Prop):List Oper->Act->World->Prop:=wpListIn (WF rd) 0 P ops Q
def TC(P:Program)(h0 N:Nat)(c:Code)(env:Env)(H:Qd)(Q:QE):Prop:=
 ∀rd fr ro σ a w,Rel fr ro σ H env N a w->QdF rd fr w->c.wpIn (WF rd) 0 P (Qap h0 fr ro σ w N a.defers Q) a w
def WO(P:Program)(h0 N:Nat)(all:Array Oper)(l:List Oper)(env:Env)(H:Qd)(Q:QE):Prop:=
 ∀rd fr ro σ a w,Rel fr ro σ H env N a w->QdF rd fr w->wpL P rd all (Qbq h0 fr ro σ w N a.defers Q) l a w
def Le(h0:Nat)(env:Env)(H:Qd)(env':Env)(H':Qd):Prop:=
 ∀fr ro σ N a w,Rel fr ro σ H env N a w->∃ro' σ',Rel fr ro' σ' H' env' N a w/\(∀b,ro b->ro' b)/\σ'.take h0=σ.take h0
theorem Le.refl(h0:Nat)(env:Env)(H:Qd):Le h0 env H env H:=λfr ro σ N a w h=>(by grind)
theorem Le.trans{e:Nat}{f i g:Env}{H1 H2 H3:Qd}(h:Le e f H1 i H2)(k:Le e i H2 g H3):Le e f H1 g H3:=by
 intro j l σ N a w r;obtain⟨d,σ1,n,s,t⟩:=h j l σ N a w r;obtain⟨m,σ2,q,u,p⟩:=k j d σ1 N a w n
 grind
theorem Q1{fr ro ro':Nat->Prop}{w:World}(h:∀b,ro b->ro' b):Qh fr ro w ro' w:=
 ⟨h,λ_ _=>rfl,λ_ _=>rfl,XS _,λ_ _ h=>h,rfl,rfl,rfl,XS _⟩
theorem Yn{P:Program}{rd:Option Nat}{ops:Array Oper}{Q Q':Exit->Act->World->Prop}(hq:∀e a w,Q e a w->Q' e a w):
  ∀(l:List Oper) (a:Act) (w:World),wpL P rd ops Q l a w->wpL P rd ops Q' l a w
 |[],a,w,h=>hq _ _ _ h
 |o::l,a,w,h=>by
  unfold wpL wpListIn at h⊢;split
  .rename_i hw;rw[Vq hw]at h;obtain⟨h1,h2⟩:=h;refine⟨h1,?_⟩
   revert h2
   generalize(o.semAt (WF rd).round a.eval).run P w=r;intro h2;have hk:=λa w=>Yn (P:=P) (rd:=rd) (ops:=ops) hq l a w;cases r with
   |ok x w=>
    cases x with
    |value v=>exact hk _ _ h2
    |skip=>exact hk _ _ h2
    |defer d=>exact hk _ _ h2
    |enter f args=>
     refine⟨h2.1,CallsIn.mono h2.2 ?_⟩;intro e w' q;cases e with
     |returned v=>grind
     |panicked c=>grind
     |outgrown=>obtain⟨a,w,q⟩:=q;exact⟨a,w,hq _ _ _ q⟩
    |row r args=>exact⟨h2.1,RowsIn.mono h2.2 λv w' q=>hk _ _ q⟩
    |round l f tmps assign body=>
     refine⟨h2.1,RoundIn.mono h2.2 ?_⟩;intro e w' q;cases e with
     |returned v=>grind
     |panicked c=>grind
     |outgrown=>obtain⟨a,w,q⟩:=q;exact⟨a,w,hq _ _ _ q⟩
    |_=>exact h2
   |halt x w=>
    cases x with
    |panic v=>exact hq _ _ _ h2
    |_=>exact h2
  .rename_i hw;rw[Vp hw]at h;exact⟨h.1,Yn hq l _ _ h.2⟩
theorem Qcm{P:Program}{o:Oper}{a:Act}{w w':World}{x:Next}{rd:Option Nat}(h:(execOp a.eval o).run P w=.ok x w')(g:∀d,x≠ .defer d):(o.semAt (WF rd).round a.eval).run P w=.ok x w':=by
 cases e:o.op with
 |defer c=>
  have:execOp a.eval o=(do pure (.defer (<- resolve a.eval c o.type))):=by simp[execOp,e]
  rw[this]at h;simp[Vk]at h;generalize(resolve a.eval c o.type).run P w=r at h;cases r with
  |ok d f=>simp[go_sem]at h;grind
  |halt x f=>simp_all
 |_=>grind[Oper.semAt_eq]
theorem Qaa{P:Program}{rd:Option Nat}{ops:Array Oper}{Q:Exit->Act->World->Prop}{o:Oper}{l:List Oper}{a:Act}{w w':World}{v:Value}(f:Region.wanted o (yielded ops a.tmps)=true)
  (h:(execOp a.eval o).run P w=.ok (.value v) w')(k:wpL P rd ops Q l (a.put o.dst v) w'):wpL P rd ops Q (o::l) a w:=by
 unfold wpL wpListIn;rw[Vq f];exact⟨λ_ _=>trivial,by rw[Qcm h (λd e=>by cases e)];exact k⟩
theorem QjW{P:Program}{rd:Option Nat}{ops:Array Oper}{Q:Exit->Act->World->Prop}{o:Oper}{l:List Oper}{a:Act}{w w':World}(f:Region.wanted o (yielded ops a.tmps)=true)
  (h:(execOp a.eval o).run P w=.ok .skip w')(k:wpL P rd ops Q l (a.put o.dst undef) w'):wpL P rd ops Q (o::l) a w:=by
 unfold wpL wpListIn;rw[Vq f];exact⟨λ_ _=>trivial,by rw[Qcm h (λd e=>by cases e)];exact k⟩
theorem Qe7{P:Program}{rd:Option Nat}{ops:Array Oper}{Q:Exit->Act->World->Prop}{o:Oper}{l:List Oper}{a:Act}{w w':World}{f:FuncId}{args:Array Value}(g:Region.wanted o (yielded ops a.tmps)=true)
  (h:(execOp a.eval o).run P w=.ok (.enter f args) w')(k:Calls P f args w' λe w''=>∃v,e=.returned v/\wpL P rd ops Q l (a.put o.dst v) w''):wpL P rd ops Q (o::l) a w:=by
 unfold wpL wpListIn;rw[Vq g];refine⟨λ_ _=>trivial,?_⟩;rw[Qcm h (λd e=>by cases e)];refine⟨λh=>by simp[WF,Fence.wide]at h,WF.calls.2 (Calls.mono k ?_)⟩
 grind
section
variable {P:Program} {h0 N:Nat} {env env':Env} {H H':Qd} {Q Q':QE} {c c':Code}
theorem TC.mono(h:TC P h0 N c env H Q)(hq:∀x env H,Q x env H->Q' x env H):TC P h0 N c env H Q':=
 λrd fr ro σ a w r hrd=>Code.wpIn_mono (λe a w q=>q.mono hq) (h rd fr ro σ a w r hrd)
theorem TC.le(f:Le h0 env H env' H')(h:TC P h0 N c env' H' Q):TC P h0 N c env H Q:=by
 intro j g k σ a w r hrd;obtain⟨d,σ',i,s,t⟩:=f g k σ N a w r;exact Code.wpIn_mono (λe a w q=>q.step (Q1 s) t) (h j g d σ' a w i hrd)
theorem WO.le{all:Array Oper}{l:List Oper}(f:Le h0 env H env' H')(h:WO P h0 N all l env' H' Q):WO P h0 N all l env H Q:=by
 intro j g k σ a w r hrd;obtain⟨d,σ',i,s,t⟩:=f g k σ N a w r;exact Yn (λe a w q=>q.step (Q1 s) t) _ _ _ (h j g d σ' a w i hrd)
theorem WO.mono{all:Array Oper}{l:List Oper}(h:WO P h0 N all l env H Q)(hq:∀x env H,Q x env H->Q' x env H):WO P h0 N all l env H Q':=
 λrd fr ro σ a w r hrd=>Yn (λe a w q=>q.mono hq) _ _ _ (h rd fr ro σ a w r hrd)
def Seq(P:Program)(h0 N:Nat)(c:Code)(Q:QE):QE
 |.normal,env,H=>TC P h0 N c env H Q
 |.exit id,env,H=>Q (.exit id) env H
 |.ret,env,H=>Q .ret env H
def Blo(id:Nat)(Q:QE):QE
 |.normal,env,H=>Q .normal env H
 |.exit id',env,H=>bif Nat.beq id' id then Q .normal env H else Q (.exit id') env H
 |.ret,env,H=>Q .ret env H
theorem TC.seq(h:TC P h0 N c env H (Seq P h0 N c' Q)):TC P h0 N (.seq c c') env H Q:=by
 intro p t y σ a w r hrd;refine wpIn_seq (Code.wpIn_mono ?_ (h p t y σ a w r hrd));rintro e s u ⟨x,d,H',f,σ',g,k,l,n,i,m,j⟩;cases e with
 |normal=>
  obtain rfl:x=.normal:=k;exact Code.wpIn_mono (λe a w q=>q.grow i m j) (l p g f σ' s u n (hrd.to i j.sub))
 |exit id=>
  obtain rfl:x=.exit id:=k;exact⟨_,d,H',f,σ',g,rfl,l,n,i,m,j⟩
 |ret=>
  obtain rfl:x=.ret:=k;exact⟨_,d,H',f,σ',g,rfl,l,n,i,m,j⟩
 |_=>exact k.elim
theorem TC.skip(h:Q .normal env H):TC P h0 N .skip env H Q:=
 λrd fr ro σ a w r hrd=>wpIn_skip ⟨_,env,H,ro,σ,fr,rfl,h,r,Qh.refl _ _ _,rfl,Grow.refl _ _ _⟩
theorem TC.ret(h:Q .ret env H):TC P h0 N .ret env H Q:=
 λrd fr ro σ a w r hrd=>wpIn_ret ⟨_,env,H,ro,σ,fr,rfl,h,r,Qh.refl _ _ _,rfl,Grow.refl _ _ _⟩
theorem TC.exit{id:Nat}(h:Q (.exit id) env H):TC P h0 N (.exit id) env H Q:=
 λrd fr ro σ a w r hrd=>wpIn_exit ⟨_,env,H,ro,σ,fr,rfl,h,r,Qh.refl _ _ _,rfl,Grow.refl _ _ _⟩
theorem TC.block{id:Nat}(h:TC P h0 N c env H (Blo id Q)):TC P h0 N (.block id c) env H Q:=by
 intro q t s σ a w r hrd;refine wpIn_block (Code.wpIn_mono ?_ (h q t s σ a w r hrd));rintro e u y ⟨x,d,H',f,σ',g,n,i,p,k,l,m⟩;cases e with
 |normal=>
  obtain rfl:x=.normal:=n;exact⟨_,d,H',f,σ',g,rfl,i,p,k,l,m⟩
 |exit j=>
  obtain rfl:x=.exit j:=n;simp[Exit.inBlock];simp only[Blo]at i;by_cases e:j=id
  .subst e;rw[Vq rfl];rw[VB]at i;exact⟨_,d,H',f,σ',g,rfl,i,p,k,l,m⟩
  .rw[Vp e];have:Nat.beq j id=false:=by
    simp_all[VI]
   rw[this]at i;exact⟨_,d,H',f,σ',g,rfl,i,p,k,l,m⟩
 |ret=>
  obtain rfl:x=.ret:=n;exact⟨_,d,H',f,σ',g,rfl,i,p,k,l,m⟩
 |_=>exact n.elim
def opA(env:Env):Operand->A
 |.tmp t=>lk env t
 |.const (.bool b)=>.bool b
 |.const (.int k n)=>.int k n
 |.const (.string s)=>.str s.data.toList
 |.const (.pointer none)=>.nilp
 |.const (.slice none 0 0)=>.nils
 |.const (.map none)=>.nilm
 |.const .nilFunc=>.nilf
 |.const .nilIface=>.nilif
 |.func f=>.fn (.func f) [] []
 |_=>.any
theorem Qo{fr ro:Nat->Prop}{σ:Sig}{a:Act}{w:World}(r:Rel fr ro σ H env N a w)(x:Operand):VR ro σ w (opA env x) (a.eval x):=by
 cases x with
 |tmp t=>exact r.env t
 |const v=>
  cases v with
  |slice a n k=>
   cases a with
   |none=>
    cases n with
    |zero=>cases k with
     |zero=>rfl
     |succ k=>trivial
    |succ n=>trivial
   |some a=>trivial
  |pointer p=>cases p with
   |none=>rfl
   |some p=>trivial
  |map p=>cases p with
   |none=>rfl
   |some p=>trivial
  |string s=>rfl
  |_=>simp_all[opA,VR,Act.eval]
 |global g=>trivial
 |func f=>exact⟨[],[],rfl,rfl,rfl⟩
theorem TC.cond{x:Operand}{t:Bool}(k:opA env x=.bool t)(i:t=true->TC P h0 N c env H Q)(j:t=false->TC P h0 N c' env H Q):
  TC P h0 N (.cond x c c') env H Q:=by
 intro f h d σ a w r hrd;have g:=Qo r x;rw[k]at g;exact wpIn_cond_split g (λe=>i e f h d σ a w r hrd) (λe=>j e f h d σ a w r hrd)
theorem Qkp{t:Array Value}{d s:Nat}{v:Value}(a:d<t.size):(t.setIfInBounds d v).getD s undef=if s=d then v else t.getD s undef:=by
 simp[Array.getD_eq_getD_getElem?]
 grind
theorem VR.up{fr ro:Nat->Prop}{σ:Sig}{a:Act}{w:World}(r:∀s,VR ro σ w (lk env s) (a.tmps.getD s undef)){d:Nat}(f:d<a.tmps.size){x:A}{v:Value}(g:VR ro σ w x v):
  ∀s,VR ro σ w (lk (up env d x) s) ((a.tmps.setIfInBounds d v).getD s undef):=by
 intro s;rw[Qkp f];simp only[lk];by_cases e:s=d
 .simp_all
 .have:Nat.beq s d=false:=by
   simp_all[VI]
  grind
def QG(all:Array Oper)(o:Oper)(env:Env)(b:Bool):Prop:=
 match o.guard with
 |none=>b=true
 |some (j,c)=>∃d,(all[j]?).bind (·.dst)=some d/\((∃x,lk env d=.bool x/\b=(x==c))\/(lk env d=.tup []/\b=false))
theorem YI{all:Array Oper}{o:Oper}{b:Bool}(h:QG all o env b){fr ro:Nat->Prop}{σ:Sig}{a:Act}{w:World}(r:Rel fr ro σ H env N a w):
  Region.wanted o (yielded all a.tmps)=b:=by
 unfold QG at h;unfold Region.wanted;cases i:o.guard with
 |none=>grind
 |some g=>
  rw[i]at h;obtain⟨d,j,⟨x,f,k⟩|⟨f,k⟩⟩:=h
  .have e:=r.env d;rw[f]at e;simp only[VR]at e;have m:a.tmps[d]?=some (.bool x):=by
    rw[Array.getD_eq_getD_getElem?]at e
    grind[undef]
   simp_all[yielded]
  .have e:=r.env d;rw[f]at e;obtain⟨l,e,n⟩:=e;rw[Array.getD_eq_getD_getElem?]at e;simp[yielded,j]
   grind
def OpV(P:Program)(o:Oper)(env:Env)(H:Qd)(x:A):Prop:=
 ∀fr ro σ N a w,Rel fr ro σ H env N a w->∃v,(execOp a.eval o).run P w=.ok (.value v) w/\VR ro σ w x v
def OpH(P:Program)(o:Oper)(env:Env)(H:Qd)(x:A)(H':Qd):Prop:=
 ∀fr ro σ N a w,Rel fr ro σ H env N a w->∃v w' ro' τ,(execOp a.eval o).run P w=.ok (.value v) w'/\VR ro' (σ++τ) w' x v/\
  Sim fr ro' (σ++τ) H' w'/\Qh fr ro w ro' w'
def OpU(P:Program)(o:Oper)(env:Env)(H:Qd)(H':Qd):Prop:=
 ∀fr ro σ N a w,Rel fr ro σ H env N a w->∃w' ro' τ,(execOp a.eval o).run P w=.ok .skip w'/\
  Sim fr ro' (σ++τ) H' w'/\Qh fr ro w ro' w'
theorem WO.nil{all:Array Oper}(h:Q .normal env H):WO P h0 N all [] env H Q:=
 λrd fr ro σ a w r hrd=>⟨_,env,H,ro,σ,fr,rfl,h,r,Qh.refl _ _ _,rfl,rfl,Grow.refl _ _ _⟩
theorem QM{σ τ:Sig}{a:Nat}(h:a<=σ.length):(σ++τ).take a=σ.take a:=by
 grind
theorem Qh0{all:Array Oper}{o:Oper}{l:List Oper}{d:Nat}{x:A}(u:h0<=H.length)(hg:QG all o env true)(n:o.dst=some d)(E:Nat.blt d N=true)
  (h:OpH P o env H x H')(k:WO P h0 N all l (up env d x) H' Q):WO P h0 N all (o::l) env H Q:=by
 intro t fr y σ a w r hrd;obtain⟨v,j,f,τ,z,m,B,g⟩:=h fr y σ N a w r;refine Qaa (YI hg r) z ?_;simp[n];have i:d<N:=by simp_all
 have p:Rel fr f (σ++τ) H' (up env d x) N {a with tmps:=a.tmps.setIfInBounds d v} j:=
  ⟨B,VR.up (fr:=fr) (λs=>(r.env s).mono (g.ext σ τ)) (by rw[r.size];exact i) m,by simpa using r.size,r.defers.keep g⟩
 refine Yn (λe a w q=>q.step g (QM ?_)) _ _ _ (k t fr f (σ++τ) _ j p (hrd.to g λ_ q=>q));rw[r.sim.len];exact u
theorem Y5{all:Array Oper}{o:Oper}{l:List Oper}{d:Nat}{x:A}(hg:QG all o env true)(i:o.dst=some d)(n:Nat.blt d N=true)
  (e:OpV P o env H x)(k:WO P h0 N all l (up env d x) H Q):WO P h0 N all (o::l) env H Q:=by
 intro j fr g σ a w r hrd;obtain⟨v,m,h⟩:=e fr g σ N a w r;refine Qaa (YI hg r) m ?_;simp[i];have f:d<N:=by simp_all
 exact k j fr g σ {a with tmps:=a.tmps.setIfInBounds d v} w ⟨r.sim,VR.up (fr:=fr) r.env (by rw[r.size];exact f) h,by simpa using r.size,r.defers⟩ hrd
theorem Qk1{all:Array Oper}{o:Oper}{l:List Oper}(p:h0<=H.length)(hg:QG all o env true)(j:o.dst=none)
  (h:OpU P o env H H')(k:WO P h0 N all l env H' Q):WO P h0 N all (o::l) env H Q:=by
 intro n g t σ a w r hrd;obtain⟨i,d,τ,u,x,f⟩:=h g t σ N a w r;refine QjW (YI hg r) u ?_;simp[j];have m:Rel g d (σ++τ) H' env N a i:=⟨x,λs=>(r.env s).mono (f.ext σ τ),r.size,r.defers.keep f⟩;refine Yn (λe a w q=>q.step f (QM ?_)) _ _ _ (k n g d (σ++τ) _ i m (hrd.to f λ_ q=>q));rw[r.sim.len];exact p
theorem WO.skip{all:Array Oper}{o:Oper}{l:List Oper}{d:Nat}(hg:QG all o env false)(f:o.dst=some d)(i:Nat.blt d N=true)
  (k:WO P h0 N all l (up env d (.tup [])) H Q):WO P h0 N all (o::l) env H Q:=by
 intro h fr g σ a w r hrd;unfold wpL wpListIn;rw[YI hg r,Vp (by simp)];refine⟨λ_ _=>trivial,?_⟩;simp[f];have e:d<N:=by simp_all
 exact k h fr g σ {a with tmps:=a.tmps.setIfInBounds d undef} w ⟨r.sim,VR.up (fr:=fr) r.env (by rw[r.size];exact e) ⟨[],rfl,rfl⟩,by simpa using r.size,r.defers⟩ hrd
theorem TC.region{id:Nat}{l:List Oper}(h:WO P h0 N l.toArray l env H Q):TC P h0 N (.region id l.toArray false) env H Q:=
 λrd fr ro σ a w r hrd=>Code.wpIn_mono (λe a w q=>q.postW) (wpIn_region_lit (h rd fr ro σ a w r hrd))
end
mutual
def YF(ρ:Nat->Nat):A->A
 |.ptr i off=>.ptr (ρ i) off
 |.osl i o n k=>.osl (ρ i) o n k
 |.agg cs=>.agg (Qag ρ cs)
 |.fn f a c=>.fn f (Qag ρ a) (Qag ρ c)
 |.iface t v=>.iface t (YF ρ v)
 |.map i=>.map (ρ i)
 |.tup vs=>.tup (Qag ρ vs)
 |a=>a
def Qag(ρ:Nat->Nat):List A->List A
 |[]=>[]
 |a::r=>YF ρ a::Qag ρ r
end
def Qe2(ρ:Nat->Nat):List (List A)->List (List A)
 |[]=>[]
 |a::r=>Qag ρ a::Qe2 ρ r
def renP(ρ:Nat->Nat):List (A×A)->List (A×A)
 |[]=>[]
 |a::r=>(YF ρ a.1,YF ρ a.2)::renP ρ r
def QU(ρ:Nat->Nat):Blk->Blk
 |.cells t cs=>.cells t (Qag ρ cs)
 |.rowr t k es=>.rowr t k (Qe2 ρ es)
 |.ents t b1 b2 es=>.ents t (ρ b1) (ρ b2) es
 |.wins t b n c=>.wins t (ρ b) n c
 |.mapP es=>.mapP (renP ρ es)
 |b=>b
theorem Qfh(ρ:Nat->Nat)(b1 b2:Nat):∀(es:List Ent),Qe2 ρ (es.map (eC b1 b2))=es.map (eC (ρ b1) (ρ b2))
 |[]=>rfl
 |e::es=>by
  have:=Qfh ρ b1 b2 es;simp only[Vh,Qe2,this];congr 1;cases h:e.fl<;>simp[eC,Qag,YF,h]
theorem QiX(ρ:Nat->Nat)(b n c:Nat):Qe2 ρ (winL b n c)=winL (ρ b) n c:=by
 unfold winL
 induction List.range c with
 |nil=>rfl
 |cons j l a=>simp only[Vh,Qe2,a];rfl
theorem QH(ρ:Nat->Nat)(x:Blk):(QU ρ x).live=x.live:=by cases x<;>rfl
theorem Qah(ρ:Nat->Nat)(x:Blk)(w:World)(b c:Nat):Hid w (QU ρ x) b c↔Hid w x b c:=by cases x<;>exact Iff.rfl
section
variable {ro:Nat->Prop} {σ σ':Sig} {w:World} {ρ:Nat->Nat} (h:∀i:Nat,σ[ρ i]?=σ'[i]?)
include h
mutual
theorem Qci:∀{a:A} {v:Value},VR ro σ w (YF ρ a) v↔VR ro σ' w a v
 |.any,_=>by simp only[YF,VR]
 |.bool b,v=>by simp only[YF,VR]
 |.int k n,v=>by simp only[YF,VR]
 |.str s,v=>by simp only[YF,VR]
 |.nilp,v=>by simp only[YF,VR]
 |.ptr i off,v=>by simp only[YF,VR,h]
 |.rp cs,v=>by simp only[YF,VR]
 |.nils,v=>by simp only[YF,VR]
 |.rsl k es,v=>by simp only[YF,VR]
 |.osl i o n k,v=>by simp only[YF,VR,h]
 |.agg cs,v=>by simp only[YF,VR];exact exists_congr λl=>and_congr_right λ_=>QbM
 |.fn f a c,v=>by simp only[YF,VR];exact exists_congr λl=>exists_congr λl'=>and_congr_right λ_=>and_congr QbM QbM
 |.nilf,v=>by simp only[YF,VR]
 |.iface t a,v=>by simp only[YF,VR];exact exists_congr λl=>and_congr_right λ_=>Qci
 |.nilif,v=>by simp only[YF,VR]
 |.map i,v=>by simp only[YF,VR,h]
 |.nilm,v=>by simp only[YF,VR]
 |.tup vs,v=>by simp only[YF,VR];exact exists_congr λl=>and_congr_right λ_=>QbM
theorem QbM:∀{az:List A} {l:List Value},LR ro σ w (Qag ρ az) l↔LR ro σ' w az l
 |[],l=>by simp only[Qag,LR]
 |a::r,l=>by
  simp only[Qag,LR];exact exists_congr λv=>exists_congr λl'=>and_congr_right λ_=>and_congr Qci QbM
end
theorem Qlt{b:Nat}:∀{cs:List A} {off:Nat},CR ro σ w b (Qag ρ cs) off↔CR ro σ' w b cs off
 |[],off=>by rfl
 |a::r,off=>by
  simp only[Qag,CR];exact and_congr (exists_congr λv=>and_congr_right λ_=>and_congr_right λ_=>Qci h) Qlt
theorem QbA:∀(cs:List A),(Qag ρ cs).length=cs.length
 |[]=>rfl
 |a::r=>by simp[Qag,QbA r]
theorem Qnd{b k:Nat}:∀{es:List (List A)} {off:Nat},RR ro σ w b k (Qe2 ρ es) off↔RR ro σ' w b k es off
 |[],off=>by rfl
 |a::r,off=>by
  simp only[Qe2,RR,QbA h];exact and_congr_right λ_=>and_congr (Qlt h) Qnd
theorem Qga{k:Nat}:∀{es:List (List A)} {l:List Value},RL ro σ w k (Qe2 ρ es) l↔RL ro σ' w k es l
 |[],l=>by rfl
 |a::r,l=>by
  simp only[Qe2,RL,QbA h];exact exists_congr λl1=>exists_congr λl2=>and_congr_right λ_=>and_congr_right λ_=>and_congr (and_congr_left λ_=>QbM h) Qga
theorem Qln:∀{es:List (A×A)} {l:List MapEntry},ER ro σ w (renP ρ es) l↔ER ro σ' w es l
 |[],l=>by rfl
 |a::r,l=>by
  simp only[renP,ER];exact exists_congr λe=>exists_congr λl'=>and_congr_right λ_=>and_congr (Qci h) (and_congr (Qci h) Qln)
theorem Qgl{x:Blk}{s:Option Nat}:BR ro σ w (QU ρ x) s↔BR ro σ' w x s:=by
 cases x with
 |cells t f=>
  cases s with
  |none=>exact Iff.rfl
  |some b=>simp only[QU,BR];exact exists_congr λl=>and_congr_right λ_=>and_congr_left λ_=>QbM h
 |rowr t k a=>
  cases s with
  |none=>exact Iff.rfl
  |some b=>simp only[QU,BR];exact exists_congr λl=>and_congr_right λ_=>Qga h
 |mapP a=>
  cases s with
  |none=>exact Iff.rfl
  |some b=>simp only[QU,BR];exact exists_congr λl=>exists_congr λc=>and_congr_right λ_=>and_congr_left λ_=>Qln h
 |wins t b n c=>
  cases s with
  |none=>exact Iff.rfl
  |some d=>
   simp only[QU,BR];refine exists_congr λl=>and_congr_right λ_=>?_;rw[<- QiX];exact Qga h
 |ents t e g a=>
  cases s with
  |none=>exact Iff.rfl
  |some b=>
   simp only[QU,BR];refine exists_congr λl=>and_congr_right λ_=>?_;rw[<- Qfh];exact Qga h
 |_=>cases s<;>exact Iff.rfl
end
def C(P:Program)(f:FuncId)(args:List A)(H:Qd)(Q:A->Qd->Prop):Prop:=
 ∀fr ro σ vals w,Sim fr ro σ H w->LR ro σ w args vals->Calls P f vals.toArray w λe w'=>
  ∃v r H' ro' τ,e=.returned v/\Q r H'/\Sim fr ro' (σ++τ) H' w'/\VR ro' (σ++τ) w' r v/\Qh fr ro w ro' w'
theorem C.mono{P:Program}{f:FuncId}{args:List A}{H:Qd}{Q Q':A->Qd->Prop}(h:C P f args H Q)(hq:∀r H,Q r H->Q' r H):C P f args H Q':=
 λfr ro σ vals w s l=>(h fr ro σ vals w s l).mono (by grind)
def Qb3:Nat->List A->Env
 |_,[]=>[]
 |i,a::r=>(i,a)::Qb3 (i+1) r
theorem Qcv{ro:Nat->Prop}{σ:Sig}{w:World}:∀{args:List A} {vals:List Value} {i:Nat} (pre:List Value),pre.length=i->LR ro σ w args vals->∀rest:Array Value,
  ∀s,VR ro σ w (lk (Qb3 i args) s) (((pre++vals).toArray++rest).getD s undef)
 |[],vals,i,pre,hp,hl,rest,s=>trivial
 |a::r,vals,i,pre,hp,hl,rest,s=>by
  simp only[LR]at hl;obtain⟨v,l',rfl,h1,h2⟩:=hl;simp only[Qb3,lk];by_cases e:s=i
  .simp_all[Array.getElem?_append]
  .have:Nat.beq s i=false:=by
    simp_all[VI]
   rw[this];have:=Qcv (i:=i+1) (pre++[v]) (by simp[hp]) h2 rest s
   grind
def QbL(P:Program)(fn:Func)(env:Env)(H:Qd)(r:A):Prop:=
 ∀fr ro σ N a w,Rel fr ro σ H env N a w->∃v,(results fn a.tmps).run P w=.ok v w/\VR ro σ w r v
def Jd(P:Program)(h0:Nat)(fn:Func)(Q:A->Qd->Prop):QE
 |.normal,env,H=>∃env' H' r,Le h0 env H env' H'/\QbL P fn env' H' r/\Q r H'
 |.ret,env,H=>∃env' H' r,Le h0 env H env' H'/\QbL P fn env' H' r/\Q r H'
 |.exit _,_,_=>False
theorem LR.length{ro:Nat->Prop}{σ:Sig}{w:World}:∀{az:List A} {l:List Value},LR ro σ w az l->l.length=az.length
 |[],l,h=>by simp only[LR]at h;simp[h]
 |a::r,l,h=>by
  simp only[LR]at h;obtain⟨v,l',rfl,_,h2⟩:=h;simp[h2.length]
theorem Sim.turn{fr ro:Nat->Prop}{σ:Sig}{H:Qd}{w:World}(s:Sim fr ro σ H w){b:Nat}{obj:Obj}(t:¬ro b)(r:¬fr b)(G:∀(i:Nat) (x:Blk),σ[i]?=some (some b)->H[i]?=some x->x.live=true->False)
  (k:∀(i d:Nat) (x:Blk),σ[i]?=some (some d)->H[i]?=some x->Hid w x d b->False)
  (p:∀y,w.shape? b=some y->(w.putObj b obj).shape? b=some y):Sim fr ro σ H (w.putObj b obj)/\Qh fr ro w ro (w.putObj b obj):=by
 have n:∀c,c≠b->(w.putObj b obj).heap[c]?=w.heap[c]? :=λc u=>World.putObj_heap_other u;have e:(w.putObj b obj).heap.size=w.heap.size:=by simp
 have ev:Qh fr ro w ro (w.putObj b obj):=by
  refine⟨λ_ q=>q,(by grind),(by grind),by omega,λc x q=>?_,rfl,rfl,rfl,XS _⟩
  grind[World.shape?]
 have a:Ext ro σ w ro σ (w.putObj b obj):=by have:=ev.ext σ [];grind
 refine⟨⟨s.len,s.roOk.to (λ_ q=>q) ev.keepRo (λc q=>by rw[e];exact s.roLt c q),λc q=>by rw[e];exact s.frLt c q,s.roFr,λi c x f g m=>?_,s.inj,λi y x f g=>?_,
  s.hidTo (· = ·) Q7 (by omega) (by simp) (by simp) λj d y h l F=>.inl ⟨j,y,rfl,h,l,id,λc q=>s.hidKeep h l (by grind) ev.keepRo q⟩⟩,ev⟩
 .obtain⟨E,B,z⟩:=s.own i c x f g m
  grind
 .refine(s.blk i y x f g).keep a ?_ ?_
  .grind
  grind
theorem Qav{P:Program}{fn:Func}{tmps:Array Value}{R:Ending->World->Prop}{fr ro:Nat->Prop}{σ:Sig}{H:Qd}:
  ∀(ds:List Deferred) (w:World),ds.Nodup->(∀d∈ds,∃D,d={target:=.collected D,args:= #[]}/\ ¬ro D/\ ¬fr D/\(∀(i:Nat) (x:Blk),σ[i]?=some (some D)->H[i]?=some x->x.live=true->False)/\(∀(i d:Nat) (x:Blk),σ[i]?=some (some d)->H[i]?=some x->Hid w x d D->False)/\w.heap[D]?=some (.deferred (some [])))->
  Sim fr ro σ H w->(∀w',Sim fr ro σ H w'->Qh fr ro w ro w'->∃v,(results fn tmps).run P w'=.ok v w'/\R (.returned v) w')->LeavesInM Fence.wide 0 P fn tmps R ds .returning w
 |[],w,_,_,s,hk=>by
  obtain⟨v,h1,h2⟩:=hk w s (Qh.refl _ _ _);exact⟨v,h1,h2⟩
 |d::ds,w,hn,hd,s,hk=>by
  obtain⟨D,rfl,h1,h2,h3,h5,h4⟩:=hd d (by simp);obtain⟨n1,n2⟩:=List.nodup_cons.1 hn;obtain⟨s',ev⟩:=s.turn (obj:=.deferred none) h1 h2 h3 h5 (λy q=>by grind[World.shape?]);refine⟨(by simp),.inl ⟨D,_,rfl,run_takeDeferred h4,?_⟩⟩;refine Qav ds _ n2 (λd' q=>?_) s' (λw' q1 q2=>hk w' q1 (ev.trans q2));obtain⟨D',rfl,g1,g2,g3,g5,g4⟩:=hd d' (by simp[q]);refine⟨D',rfl,g1,g2,g3,λi d x z1 z2 z3=>g5 i d x z1 z2 (s.hidKeep z1 z2 (λz=>World.putObj_heap_other (by grind)) (λb q=>World.putObj_heap_other (λe:b=D=>h1 (e▸q))) z3),(World.putObj_heap_other (λe=>?_)).trans g4⟩
  grind
theorem QQ{P:Program}{f:FuncId}{fn:Func}{c:Code}{N:Nat}{args:List A}{H:Qd}{Q:A->Qd->Prop}
  (hf:P.funcs[f]?=some fn)(hb:fn.body=some c)(hN:fn.ntmps=N)(hA:Nat.ble args.length N=true)
  (h:TC P H.length N c (Qb3 0 args) H (Jd P H.length fn Q)):C P f args H Q:=by
 intro fr ro σ vals w hs hl;have V:=hl.length;have aa:args.length<=N:=by simp_all
 refine(callsIn_wide (n:=0)).1 (callsIn_of_wp_marks hf hb trivial (Code.wpIn_mono ?_ (h none fr ro σ _ w ⟨hs,?_,?_,List.nodup_nil,λd l=>by cases l⟩ QdF.none)))
 .rintro e t k ⟨x,u,H1,J,σ1,M,z,B,h3,h4,h5,E⟩;have y:(∃j H' r,Le H.length u H1 j H'/\QbL P fn j H' r/\Q r H')->LeavesInM Fence.wide 0 P fn t.tmps (λe k=>
    ∃v' r H' a τ,e=.returned v'/\Q r H'/\Sim fr a (σ++τ) H' k/\VR a (σ++τ) k r v'/\Qh fr ro w a k) t.defers .returning k:=by
   rintro⟨j,H',r,T,hr,hq⟩;obtain⟨a,σ',g,m,ht⟩:=T M J σ1 N t k h3;have hσ:σ'=σ++σ'.drop H.length:=by
    have X:σ'.take H.length=σ:=by rw[ht,h5,VE (by rw[hs.len];omega)]
    grind[List.take_append_drop]
   have s1:Sim fr a σ' H' k:=g.sim.frMono E.sub;refine Qav (ro:=a) (fr:=fr) (σ:=σ') (H:=H') t.defers k g.defers.1 (λd l=>?_) s1 (λY W p=>?_)
   .obtain⟨D,rfl,_⟩:=(E.ds d l).resolve_left (by simp);obtain⟨L,g2⟩:=g.defers.mark l;refine⟨D,rfl,λq=>g.sim.roFr D q L,λq=>?_,λi x O R F=>(g.sim.own i D x O R F).2.2 L,λi d x O R F=>(g.sim.hid i d x D O R F).fr L,g2⟩;rcases E.ds _ l with q'|⟨D',e,q'⟩
    .cases q'
    .have:D=D':=by simpa using e
     subst this;have:=hs.frLt D q;omega
   .have G:Rel fr a σ' H' j N {t with defers:=[]} Y:=⟨W,λs=>(g.env s).mono (by have:=p.ext σ' [];grind),g.size,List.nodup_nil,λd l=>by cases l⟩;obtain⟨v,X,e2⟩:=hr fr a σ' N _ Y G;exact⟨v,X,v,r,H',a,σ'.drop H.length,rfl,hq,hσ▸W,hσ▸e2,(h4.trans (Q1 m)).trans p⟩
  cases e with
  |normal=>
   obtain rfl:x=.normal:=z;exact y B
  |ret=>
   obtain rfl:x=.ret:=z;exact y B
  |exit id=>
   obtain rfl:x=.exit id:=z;exact B.elim
  |_=>exact z.elim
 .intro s;have:=Qcv (i:=0) [] rfl hl (Array.replicate (fn.ntmps-vals.toArray.size) undef) s
  grind
 grind
section
variable {P:Program} {fn:Func} {env:Env} {H:Qd}
theorem QbL.nil(h:fn.results= #[]):QbL P fn env H (.tup []):=
 λfr ro σ N a w r=>⟨.tuple #[],by simp[results,h,go_sem],[],rfl,rfl⟩
theorem QbL.one{t:Nat}{x:A}(h:fn.results= #[.tmp t])(hx:lk env t=x):QbL P fn env H x:=
 λfr ro σ N a w r=>⟨a.tmps.getD t undef,by simp[results,h,go_sem],hx▸r.env t⟩
theorem Qjz{t u:Nat}{x y:A}(h:fn.results= #[.tmp t,.tmp u])(hx:lk env t=x)(hy:lk env u=y):QbL P fn env H (.tup [x,y]):=
 λfr ro σ N a w r=>⟨.tuple #[a.tmps.getD t undef,a.tmps.getD u undef],by simp[results,h,go_sem],
  [_,_],rfl,_,_,rfl,hx▸r.env t,_,_,rfl,hy▸r.env u,rfl⟩
end
inductive Ctl (S B:Type) where
 |cont (s:S)
 |done (b:B)
 deriving DecidableEq
def iter{S B:Type}(step:S->Option (Ctl S B)):Nat->S->Option B
 |0,_=>none
 |n+1,s=>match step s with
  |some (.cont s')=>iter step n s'
  |some (.done b)=>some b
  |none=>none
def Qa8{S B:Type}(I:S->Env->Qd->Prop)(d:Ctl S B)(Q:QE):QE
 |.normal,env,H=>∃s,d=.cont s/\I s env H
 |.exit id,env,H=>(∃b,d=.done b)/\Q (.exit id) env H
 |.ret,env,H=>(∃b,d=.done b)/\Q .ret env H
theorem Qk8{P:Program}{h0 N:Nat}{c:Code}{S B:Type}{step:S->Option (Ctl S B)}{I:S->Env->Qd->Prop}{Q:QE}{F:B}
  (t:∀s d env H,I s env H->step s=some d->(∀b,d=.done b->b=F)->TC P h0 N c env H (Qa8 I d Q))
  {m:Nat}{s0:S}(h:iter step m s0=some F){env:Env}{H:Qd}(L:I s0 env H):TC P h0 N (.loop c) env H Q:=by
 intro T n E σ a w r hrd b k cs hro hb hr;have M:∀m s env H fr1 ro1 σ1 a1 w1,iter step m s=some F->I s env H->Rel fr1 ro1 σ1 H env N a1 w1->Qh n E w ro1 w1->σ1.take h0=σ.take h0->Grow n w a.defers fr1 a1.defers->
   ∃e j i,Qap h0 n E σ w N a.defers Q e j i/\ArrivesIn (Machine.fenced P (WF T)) P (lone (b.atR a1 (.code c::.inLoop c::k)) cs w1) b k cs e j i:=by
  intro m
  induction m with
  |zero=>grind[iter]
  |succ m ih=>
   intro s env H fr1 ro1 σ1 a1 w1 hit L r1 ev1 t1 g1;simp only[iter]at hit;cases V:step s with
   |none=>grind
   |some d=>
    rw[V]at hit;have hd:∀b,d=.done b->b=F:=by
     grind
    obtain⟨e,j,i,J,f⟩:=t s d env H L V hd T fr1 ro1 σ1 a1 w1 r1 (hrd.to ev1 g1.sub) b (.inLoop c::k) cs hro hb hr;obtain⟨x,g,H',p,σ',u,G,z,W,q4,X,q6⟩:=J;have y:=ev1.trans (q4.frMono g1.sub);have R:=g1.trans ev1.size q6;have Y:∀x,Q x g H'->ExR e x->Qap h0 n E σ w N a.defers Q e j i:=λx q q'=>⟨x,g,H',p,σ',u,q',q,W,y,X.trans t1,R⟩;cases e with
    |normal=>
     obtain rfl:x=.normal:=G;obtain⟨s',rfl,z⟩:=z;obtain⟨e2,a2,w2,O,l⟩:=ih s' g H' u p σ' j i hit z W y (X.trans t1) R;exact⟨e2,a2,w2,O,.of_steps (StepsIn.trans f (.one (fenced_calm hb hr rfl) stepR_inLoop)) l⟩
    |exit id=>
     obtain rfl:x=.exit id:=G;exact⟨_,j,i,Y _ z.2 rfl,.pass (x:=.inLoop c) rfl (by simp) f⟩
    |ret=>
     obtain rfl:x=.ret:=G;exact⟨_,j,i,Y _ z.2 rfl,.pass (x:=.inLoop c) rfl (by simp) f⟩
    |_=>exact G.elim
 obtain⟨e,j,i,J,f⟩:=M m s0 env H n E σ a w h L r (Qh.refl _ _ _) rfl (Grow.refl _ _ _);exact⟨e,j,i,J,.of_steps (.one (fenced_calm hb hr rfl) stepR_loop) f⟩
theorem TC.loop{P:Program}{h0 N:Nat}{c:Code}{S B:Type}{step:S->Option (Ctl S B)}(E:S->Env)(Hp:S->Qd){Q:QE}
  {m:Nat}{s0:S}{b0:B}(h:iter step m s0=some b0){env:Env}{H:Qd}(hI:Le h0 env H (E s0) (Hp s0))
  (body:∀s d,step s=some d->(∀b,d=.done b->b=b0)->TC P h0 N c (E s) (Hp s) (Qa8 (λs env H=>Le h0 env H (E s) (Hp s)) d Q)):TC P h0 N (.loop c) env H Q:=
 Qk8 (I:=λs env H=>Le h0 env H (E s) (Hp s)) (λs d env H hI hs hd=>TC.le hI (body s d hs hd)) h hI
def rho(π:List Nat)(n i:Nat):Nat:=
 match π[i]? with
 |some p=>p
 |none=>n+(i-π.length)
def QR:Qd->List Nat->List Blk->Qd
 |H,[],xs=>H++xs
 |H,p::π,x::xs=>QR (H.set p x) π xs
 |H,_::_,[]=>H
theorem QbY:∀(π:List Nat) (H:Qd) (xs:List Blk),π.length<=xs.length->(QR H π xs).length=H.length+(xs.length-π.length)
 |[],H,xs,_=>by simp[QR]
 |p::π,H,[],h=>by simp at h
 |p::π,H,x::xs,h=>by
  simp[XZ]at h;simp only[QR,QbY π (H.set p x) xs (by omega),X3,XZ];omega
theorem Qb8:∀(π:List Nat) (H:Qd) (xs:List Blk) (i:Nat),i<H.length->i∉π->(QR H π xs)[i]?=H[i]?
 |[],H,xs,i,hi,_=>by simp[QR,XL hi]
 |p::π,H,[],i,hi,h=>by simp[QR]
 |p::π,H,x::xs,i,hi,h=>by
  simp[X5,not_or]at h;simp[QR];rw[Qb8 π (H.set p x) xs i (by grind) h.2,XO (λe=>h.1 e.symm)]
theorem Qd3:∀(π:List Nat) (H:Qd) (xs:List Blk) (j:Nat),π.length<=xs.length->(∀p∈π,p<H.length)->π.Nodup->
  (QR H π xs)[rho π H.length j]?=xs[j]?
 |[],H,xs,j,_,_,_=>by
  simp_all[QR,rho,XM]
 |p::π,H,[],j,h,_,_=>by simp at h
 |p::π,H,x::xs,j,h,hp,hn=>by
  simp[XZ]at h;have hn':=List.nodup_cons.1 hn;simp[QR];cases j with
  |zero=>
   grind[rho,Qb8]
  |succ j=>
   have ih:=Qd3 π (H.set p x) xs j (by omega) (λq hq=>by grind) hn'.2;have e:rho (p::π) H.length (j+1)=rho π H.length j:=by
    simp only[rho,XZ];simp
   grind
theorem QiW(π:List Nat)(n i:Nat)(hi:n<=i\/i∈π):∃j,i=rho π n j:=by
 rcases hi with hi|hi
 .refine⟨π.length+(i-n),?_⟩
  grind[rho]
 .obtain⟨j,a,rfl⟩:=List.mem_iff_getElem.1 hi;exact⟨j,by simp[rho,XJ a]⟩
def YA(σ:Sig)(π:List Nat):Sig:=π.map λp=>(σ[p]?).getD none
theorem QdJ{σ τ:Sig}{π:List Nat}{n:Nat}(a:σ.length=n)(d:∀p∈π,p<n)(j:Nat):(σ++τ)[rho π n j]?=(YA σ π++τ)[j]? :=by
 rcases(by omega)with h|h
 .grind[rho,YA]
 grind[rho,YA]
def OpC(P:Program)(o:Oper)(env:Env)(H:Qd)(f:FuncId)(args:List A):Prop:=
 ∀fr ro σ N a w,Rel fr ro σ H env N a w->∃vals:List Value,(execOp a.eval o).run P w=.ok (.enter f vals.toArray) w/\LR ro σ w args vals
theorem Jb{π:List Nat}{H:Qd}{Hc:List Blk}(d:π.map (λp=>H[p]?)=Hc.map some){p:Nat}(a:p∈π):p<H.length:=by
 grind[List.mem_map_of_mem]
theorem WO.call{P:Program}{h0 N:Nat}{all:Array Oper}{o:Oper}{l:List Oper}{env:Env}{H:Qd}{Q:QE}{d:Option Nat}{f:FuncId}
  {args ac:List A}{Hc:Qd}{Qr:A->Qd->Prop}(π:List Nat)(hh:h0<=H.length)(hg:QG all o env true)(hd:o.dst=d)(hN:∀x,d=some x->x<N)
  (am:OpC P o env H f args)(hargs:args=Qag (rho π H.length) ac)(hH:π.map (λp=>H[p]?)=(Hc.map (QU (rho π H.length))).map some)(hπ:π.Nodup)
  (hC:C P f ac Hc Qr)
  (k:∀r H1,Qr r H1->WO P h0 N all l (match d with|some d=>up env d (YF (rho π H.length) r)|none=>env) (QR H π (H1.map (QU (rho π H.length)))) Q):
  WO P h0 N all (o::l) env H Q:=by
 intro rd fr ro σ a w r hrd;obtain⟨ah,h1,h2⟩:=am fr ro σ N a w r;refine Qe7 (YI hg r) h1 ?_;have hp:∀p∈π,p<H.length:=λp q=>Jb hH q;have hσl:=r.sim.len;have aa:∀(j p:Nat),π[j]?=some p->H[p]?=(Hc[j]?).map (QU (rho π H.length)):=by
  intro j p M;have:=congrArg (λl=>l[j]?) hH;simp only[Xo,M,Xj]at this;cases e:Hc[j]? with
  |none=>rw[e]at this;simp at this
  |some x=>rw[e]at this;simpa using this
 have aj:π.length=Hc.length:=by simpa using congrArg List.length hH
 have hσc:∀j:Nat,σ[rho π H.length j]?=(YA σ π)[j]? :=by
  intro j;have:=QdJ (τ:=[]) hσl hp j;simpa using this
 let frc:Nat->Prop:=λb=>fr b\/(∃i x,σ[i]?=some (some b)/\H[i]?=some x/\x.live=true/\i∉π)\/ ∃i x d,σ[i]?=some (some d)/\H[i]?=some x/\Hid w x d b/\i∉π
 have hπj:∀(j b:Nat),(YA σ π)[j]?=some (some b)->∃p,π[j]?=some p/\σ[p]?=some (some b):=by
  intro j b M;simp only[YA,Xo]at M;cases e:π[j]? with
  |none=>rw[e]at M;simp at M
  |some p=>
   rw[e]at M;simp at M;refine⟨p,rfl,?_⟩;cases e2:σ[p]? with
   |none=>rw[e2]at M;simp at M
   |some s=>rw[e2]at M;simp at M;rw[M]
 have hπi:∀(i j p:Nat),π[i]?=some p->π[j]?=some p->i=j:=by
  intro i j p T R;have hi:i<π.length:=by
   rcases Vy i π.length with q|q
   .exact q
   .rw[XN q]at T;simp at T
  have M:j<π.length:=by
   rcases Vy j π.length with q|q
   .exact q
   .rw[XN q]at R;simp at R
  rw[XJ hi]at T;rw[XJ M]at R;have ad:=(XY T).trans (XY R).symm;rcases Nat.lt_trichotomy i j with q|q|q
  .exact(VA.1 hπ i j hi M q ad).elim
  .exact q
  .exact(VA.1 hπ j i M hi q ad.symm).elim
 have al:Sim frc ro (YA σ π) Hc w:=by
  refine⟨by simp[YA,aj],r.sim.roOk,?_,?_,?_,?_,?_,?_⟩
  .rintro b (hb|⟨i,x,h,g,m,J⟩|⟨i,x,d,h,g,m,J⟩)
   .exact r.sim.frLt b hb
   .exact(r.sim.own i b x h g m).1
   .exact(r.sim.hid i d x b h g m).lt
  .rintro b hb (hf|⟨i,x,h,g,m,J⟩|⟨i,x,d,h,g,m,J⟩)
   .exact r.sim.roFr b hb hf
   .exact(r.sim.own i b x h g m).2.1 hb
   .exact(r.sim.hid i d x b h g m).ro hb
  .intro j b x h g m;obtain⟨p,T,e2⟩:=hπj j b h;have e3:H[p]?=some (QU (rho π H.length) x):=by rw[aa j p T,g];rfl
   obtain⟨o1,o2,o3⟩:=r.sim.own p b _ e2 e3 (by rw[QH];exact m);refine⟨o1,o2,?_⟩;rintro(hf|⟨i,y,y1,y2,y3,y4⟩|⟨i,y,d,y1,y2,y3,y4⟩)
   .exact o3 hf
   .have:=r.sim.inj i p b _ _ y1 e2 y2 e3 y3 (by rw[QH];exact m);subst this;exact y4 (VD T)
   .exact(r.sim.hid i d y b y1 y2 y3).ne p b _ e2 e3 (by rw[QH];exact m) rfl
  .intro i j b x y h g m J X q6;obtain⟨p,T,e2⟩:=hπj i b h;obtain⟨p',R,aq⟩:=hπj j b g;have e3:H[p]?=some (QU (rho π H.length) x):=by rw[aa i p T,m];rfl
   have ao:H[p']?=some (QU (rho π H.length) y):=by rw[aa j p' R,J];rfl
   have:=r.sim.inj p p' b _ _ e2 aq e3 ao (by rw[QH];exact X) (by rw[QH];exact q6);subst this;have hi:i<π.length:=by
    rcases Vy i π.length with q|q
    .exact q
    .rw[XN q]at T;simp at T
   have M:j<π.length:=by
    rcases Vy j π.length with q|q
    .exact q
    .rw[XN q]at R;simp at R
   rw[XJ hi]at T;rw[XJ M]at R;have ad:=(XY T).trans (XY R).symm;rcases Nat.lt_trichotomy i j with q|q|q
   .exact(VA.1 hπ i j hi M q ad).elim
   .exact q
   .exact(VA.1 hπ j i M hi q ad.symm).elim
  .intro j s x h g;have M:j<π.length:=by
    rcases Vy j π.length with q|q
    .exact q
    .rw[XN (by simpa[YA]using q)]at h;simp at h
   have T:π[j]?=some π[j]:=XJ M;have e3:H[π[j]]?=some (QU (rho π H.length) x):=by rw[aa j _ T,g];rfl
   have e2:σ[π[j]]?=some s:=by
    have:=hσc j;rw[h]at this;simpa[rho,T]using this
   exact(Qgl hσc).1 (r.sim.blk _ s _ e2 e3)
  .intro j b x c h g m;obtain⟨p,T,e2⟩:=hπj j b h;have e3:H[p]?=some (QU (rho π H.length) x):=by rw[aa j p T,g];rfl
   have k:=r.sim.hid p b _ c e2 e3 ((Qah _ _ _ _ _).2 m);refine⟨k.lt,k.ro,?_,?_,?_⟩
   .rintro(hf|⟨i,y,y1,y2,y3,y4⟩|⟨i,y,d,y1,y2,y3,y4⟩)
    .exact k.fr hf
    .exact k.ne i c y y1 y2 y3 rfl
    .obtain⟨rfl,rfl⟩:=k.one i d y y1 y2 y3;exact y4 (VD T)
   .intro O b' y L n Y;obtain⟨p',f1,f2⟩:=hπj O b' L;exact k.ne p' b' _ f2 (show H[p']?=some (QU (rho π H.length) y)by rw[aa O p' f1,n];rfl) (by rw[QH];exact Y)
   .intro O b' y L n Y;obtain⟨p',f1,f2⟩:=hπj O b' L;obtain⟨z4,z5⟩:=k.one p' b' _ f2 (show H[p']?=some (QU (rho π H.length) y)by rw[aa O p' f1,n];rfl) ((Qah _ _ _ _ _).2 Y);subst z5;exact⟨z4,hπi O j p' f1 T⟩
 have ag:LR ro (YA σ π) w ac ah:=(QbM hσc).1 (hargs▸h2);refine Calls.mono (hC frc ro (YA σ π) ah w al ag) ?_;rintro e w' ⟨v,rr,H1,ab,τ,rfl,hq,sc,hv,ev⟩;have hσ':∀j:Nat,(σ++τ)[rho π H.length j]?=(YA σ π++τ)[j]? :=λj=>QdJ hσl hp j;have au:H1.length=π.length+τ.length:=by rw[<- sc.len];simp[YA]
 have ak:π.length<=(H1.map (QU (rho π H.length))).length:=by simp;omega
 have W:Qh fr ro w ab w':=⟨ev.sub,ev.keepRo,λb q=>ev.keepFr b (.inl q),ev.size,ev.shape,ev.os,ev.tape,ev.output,ev.drawn⟩;have F:∀j,(QR H π (H1.map (QU (rho π H.length))))[rho π H.length j]?=(H1[j]?).map (QU (rho π H.length)):=by
  intro j;rw[Qd3 π H _ j ak hp hπ];simp
 have B:∀i,i<H.length->i∉π->(QR H π (H1.map (QU (rho π H.length))))[i]?=H[i]? :=λi=>Qb8 π H _ i;have t:∀i:Nat,(∃j,i=rho π H.length j)\/(i<H.length/\i∉π):=by
  intro i;by_cases q:H.length<=i\/i∈π
  .exact .inl (QiW π H.length i q)
  .simp only[not_or]at q;exact .inr ⟨by omega,q.2⟩
 have G:∀i b x,i<H.length->i∉π->σ[i]?=some (some b)->H[i]?=some x->x.live=true->frc b:=λi b x h g m J X=>.inr (.inl ⟨i,x,m,J,X,g⟩);have ae:∀i b x c,i<H.length->i∉π->σ[i]?=some (some b)->H[i]?=some x->Hid w' x b c->Hid w x b c/\frc c:=λi b x c h g m J X=>
  have q6:=r.sim.hidKeep m J (λz=>ev.keepFr b (G i b x h g m J z)) ev.keepRo X
  ⟨q6,.inr (.inr ⟨i,x,b,m,J,q6,g⟩)⟩
 have ai:Sim fr ab (σ++τ) (QR H π (H1.map (QU (rho π H.length)))) w':=by
  refine⟨?_,sc.roOk,λb q=>sc.frLt b (.inl q),λb q q'=>sc.roFr b q (.inl q'),?_,?_,?_,?_⟩
  .rw[QbY _ _ _ ak];simp[hσl,au]
  .intro i b x h g m;rcases t i with⟨j,rfl⟩|⟨c1,c2⟩
   .rw[hσ']at h;rw[F]at g;cases e:H1[j]? with
    |none=>rw[e]at g;simp at g
    |some y=>
     rw[e]at g;simp at g;subst g;obtain⟨o1,o2,o3⟩:=sc.own j b y h e (by rw[QH]at m;exact m);exact⟨o1,o2,λq=>o3 (.inl q)⟩
   .rw[B i c1 c2]at g;rw[XL (by omega)]at h;obtain⟨o1,o2,o3⟩:=r.sim.own i b x h g m;exact⟨Vd o1 ev.size,λq=>sc.roFr b q (G i b x c1 c2 h g m),o3⟩
  .intro i E b x y h g m J X q6;have af:∀(i E:Nat) (x y:Blk),(∃j,i=rho π H.length j)->(E<H.length/\E∉π)->(σ++τ)[i]?=some (some b)->(σ++τ)[E]?=some (some b)->
     (QR H π (H1.map (QU (rho π H.length))))[i]?=some x->(QR H π (H1.map (QU (rho π H.length))))[E]?=some y->x.live=true->y.live=true->False:=by
    rintro i E x y ⟨j,rfl⟩ ⟨c1,c2⟩ h g m J X q6;rw[hσ']at h;rw[F]at m;rw[B E c1 c2]at J;rw[XL (by omega)]at g;cases e:H1[j]? with
    |none=>rw[e]at m;simp at m
    |some z=>
     rw[e]at m;simp at m;subst m;exact(sc.own j b z h e (by rw[QH]at X;exact X)).2.2 (G E b y c1 c2 g J q6)
   rcases t i with ci|ci<;>rcases t E with ci'|ci'
   .obtain⟨j,rfl⟩:=ci;obtain⟨O,rfl⟩:=ci';rw[hσ']at h g;rw[F]at m J;cases e:H1[j]? with
    |none=>rw[e]at m;simp at m
    |some z=>
     cases V:H1[O]? with
     |none=>rw[V]at J;simp at J
     |some z'=>
      rw[e]at m;simp at m;subst m;rw[V]at J;simp at J;subst J;rw[sc.inj j O b z z' h g e V (by rw[QH]at X;exact X) (by rw[QH]at q6;exact q6)]
   .exact(af i E x y ci ci' h g m J X q6).elim
   .exact(af E i y x ci' ci g h J m q6 X).elim
   .rw[B i ci.1 ci.2]at m;rw[B E ci'.1 ci'.2]at J;rw[XL (by omega)]at h g;exact r.sim.inj i E b x y h g m J X q6
  .intro i s x h g;rcases t i with⟨j,rfl⟩|⟨c1,c2⟩
   .rw[hσ']at h;rw[F]at g;cases e:H1[j]? with
    |none=>rw[e]at g;simp at g
    |some y=>
     rw[e]at g;simp at g;subst g;exact(Qgl hσ').2 (sc.blk j s y h e)
   .rw[B i c1 c2]at g;rw[XL (by omega)]at h;refine BR.keep (W.ext σ τ) ?_ (r.sim.blk i s x h g) ?_
    .rintro b rfl hl;exact ev.keepFr b (G i b x c1 c2 h g hl)
    .rintro b c rfl hl;exact ev.keepFr c (.inr (.inr ⟨i,x,b,h,g,hl,c2⟩))
  .intro i b x c h g m;rcases t i with⟨j,rfl⟩|⟨c1,c2⟩
   .rw[hσ']at h;rw[F]at g;cases e:H1[j]? with
    |none=>rw[e]at g;simp at g
    |some y=>
     rw[e]at g;simp at g;subst g;have k:=sc.hid j b y c h e ((Qah _ _ _ _ _).1 m);refine⟨k.lt,k.ro,λq=>k.fr (.inl q),?_,?_⟩
     .intro E b' y' L n Y;rcases t E with⟨O,rfl⟩|⟨d1,d2⟩
      .rw[hσ']at L;rw[F]at n;cases V:H1[O]? with
       |none=>rw[V]at n;simp at n
       |some u=>
        rw[V]at n;simp at n;subst n;exact k.ne O b' u L V (by rw[QH]at Y;exact Y)
      .rw[B E d1 d2]at n;rw[XL (by omega)]at L;rintro rfl;exact k.fr (G E c y' d1 d2 L n Y)
     .intro E b' y' L n Y;rcases t E with⟨O,rfl⟩|⟨d1,d2⟩
      .rw[hσ']at L;rw[F]at n;cases V:H1[O]? with
       |none=>rw[V]at n;simp at n
       |some u=>
        rw[V]at n;simp at n;subst n;obtain⟨z4,rfl⟩:=k.one O b' u L V ((Qah _ _ _ _ _).1 Y);exact⟨z4,rfl⟩
      .rw[B E d1 d2]at n;rw[XL (by omega)]at L;exact(k.fr (ae E b' y' c d1 d2 L n Y).2).elim
   .rw[B i c1 c2]at g;rw[XL (by omega)]at h;obtain⟨J,X⟩:=ae i b x c c1 c2 h g m;have k:=r.sim.hid i b x c h g J;refine⟨Vd k.lt ev.size,λq=>sc.roFr c q X,k.fr,?_,?_⟩
    .intro E b' y' L n Y;rcases t E with⟨O,rfl⟩|⟨d1,d2⟩
     .rw[hσ']at L;rw[F]at n;cases V:H1[O]? with
      |none=>rw[V]at n;simp at n
      |some u=>
       rw[V]at n;simp at n;subst n;rintro rfl;exact(sc.own O c u L V (by rw[QH]at Y;exact Y)).2.2 X
     .rw[B E d1 d2]at n;rw[XL (by omega)]at L;exact k.ne E b' y' L n Y
    .intro E b' y' L n Y;rcases t E with⟨O,rfl⟩|⟨d1,d2⟩
     .rw[hσ']at L;rw[F]at n;cases V:H1[O]? with
      |none=>rw[V]at n;simp at n
      |some u=>
       rw[V]at n;simp at n;subst n;exact((sc.hid O b' u c L V ((Qah _ _ _ _ _).1 Y)).fr X).elim
     .rw[B E d1 d2]at n;rw[XL (by omega)]at L;exact k.one E b' y' L n (ae E b' y' c d1 d2 L n Y).1
 have an:VR ab (σ++τ) w' (YF (rho π H.length) rr) v:=(Qci hσ').2 hv;have hk:=k rr H1 hq;cases d with
 |none=>
  simp only[hd,Act.put];have r':Rel fr ab (σ++τ) (QR H π (H1.map (QU (rho π H.length)))) env N a w':=⟨ai,λs=>(r.env s).mono (W.ext σ τ),r.size,r.defers.keep W⟩;exact⟨_,rfl,Yn (λe a w q=>q.step W (QM (by omega))) _ _ _ (hk rd fr ab (σ++τ) _ w' r' (hrd.to W λ_ q=>q))⟩
 |some d=>
  simp only[hd,Act.put];have ar:=hN d rfl;have r':Rel fr ab (σ++τ) (QR H π (H1.map (QU (rho π H.length)))) (up env d (YF (rho π H.length) rr)) N {a with tmps:=a.tmps.setIfInBounds d v} w':=
   ⟨ai,VR.up (fr:=fr) (λs=>(r.env s).mono (W.ext σ τ)) (by rw[r.size];exact ar) an,by simpa using r.size,r.defers.keep W⟩
  exact⟨_,rfl,Yn (λe a w q=>q.step W (QM (by omega))) _ _ _ (hk rd fr ab (σ++τ) _ w' r' (hrd.to W λ_ q=>q))⟩
section
variable {P:Program} {o:Oper} {env:Env} {H:Qd}
theorem QP{fr ro:Nat->Prop}{σ:Sig}{N:Nat}{a:Act}{w:World}(r:Rel fr ro σ H env N a w){x:Operand}{k:IntKind}{n:Int}(h:opA env x=.int k n):a.eval x=.int k n:=by
 have:=Qo r x;rw[h]at this;exact this
theorem Qcr{fr ro:Nat->Prop}{σ:Sig}{N:Nat}{a:Act}{w:World}(r:Rel fr ro σ H env N a w){x:Operand}{b:Bool}(h:opA env x=.bool b):a.eval x=.bool b:=by
 have:=Qo r x;rw[h]at this;exact this
theorem QdM{fr ro:Nat->Prop}{σ:Sig}{N:Nat}{a:Act}{w:World}(r:Rel fr ro σ H env N a w){x:Operand}{s:List UInt8}(h:opA env x=.str s):a.eval x=.string ⟨s.toArray⟩:=by
 have:=Qo r x;rw[h]at this;exact this
theorem OpV.move{x:Operand}{v:A}(ho:o.op=.move x)(hx:opA env x=v):OpV P o env H v:=
 λfr ro σ N a w r=>⟨a.eval x,by simp[execOp,ho],hx▸Qo r x⟩
theorem OpV.assign{x:Operand}{v:A}(ho:o.op=.assign x)(hx:opA env x=v):OpV P o env H v:=
 λfr ro σ N a w r=>⟨a.eval x,by simp[execOp,ho],hx▸Qo r x⟩
theorem OpV.pick{c x y:Operand}{b:Bool}{v:A}(f:o.op=.pick c x y)(d:opA env c=.bool b)(g:(if b then opA env x else opA env y)=v):OpV P o env H v:=by
 intro i e σ N a w r;have h:=Qcr r d;refine⟨if b then a.eval x else a.eval y,by simp_all[execOp,asBool],?_⟩
 grind[Qo]
theorem OpV.add{t u:TypeId}{x y:Operand}{k:IntKind}{m n:Int}(i:o.op=.binOp .add t x y u)(e:opA env x=.int k m)(d:opA env y=.int k n):OpV P o env H (.int k (k.wrap (m+n))):=by
 intro j g σ N a w r;have h:=QP r e;have f:=QP r d;refine⟨_,?_,rfl⟩
 simp_all[execOp,Go.binOp,eqGuard,Op.intArith]
theorem OpV.sub{t u:TypeId}{x y:Operand}{k:IntKind}{m n:Int}(i:o.op=.binOp .sub t x y u)(e:opA env x=.int k m)(d:opA env y=.int k n):OpV P o env H (.int k (k.wrap (m-n))):=by
 intro j g σ N a w r;have h:=QP r e;have f:=QP r d;refine⟨_,?_,rfl⟩
 simp_all[execOp,Go.binOp,eqGuard,Op.intArith]
theorem OpV.mul{t u:TypeId}{x y:Operand}{k:IntKind}{m n:Int}(i:o.op=.binOp .mul t x y u)(e:opA env x=.int k m)(d:opA env y=.int k n):OpV P o env H (.int k (k.wrap (m*n))):=by
 intro j g σ N a w r;have h:=QP r e;have f:=QP r d;refine⟨_,?_,rfl⟩
 simp_all[execOp,Go.binOp,eqGuard,Op.intArith]
theorem QbV{op:BinOp}{t u:TypeId}{x y:Operand}{k:IntKind}{m n:Int}{f:Int->Int->Bool}(h:o.op=.binOp op t x y u)(j:opA env x=.int k m)(g:opA env y=.int k n)
  (d:op=.eql/\f=(λa b=>a==b)\/op=.neq/\f=(λa b=>a != b)\/op=.lss/\f=(λa b=>decide (a<b))\/op=.leq/\f=(λa b=>decide (a<=b))\/
   op=.gtr/\f=(λa b=>decide (b<a))\/op=.geq/\f=(λa b=>decide (b<=a))):OpV P o env H (.bool (f m n)):=by
 intro p l σ N a w r;have i:=QP r j;have e:=QP r g;refine⟨_,?_,rfl⟩;generalize a.eval=ρ at*;rcases d with⟨rfl,rfl⟩|⟨rfl,rfl⟩|⟨rfl,rfl⟩|⟨rfl,rfl⟩|⟨rfl,rfl⟩|⟨rfl,rfl⟩<;>simp[h,i,e,go_sem]
theorem OpV.eql{t u:TypeId}{x y:Operand}{k:IntKind}{m n:Int}(ho:o.op=.binOp .eql t x y u)(hx:opA env x=.int k m)(hy:opA env y=.int k n):OpV P o env H (.bool (m==n)):=
 QbV ho hx hy (by simp)
theorem OpV.neq{t u:TypeId}{x y:Operand}{k:IntKind}{m n:Int}(ho:o.op=.binOp .neq t x y u)(hx:opA env x=.int k m)(hy:opA env y=.int k n):OpV P o env H (.bool (m != n)):=
 QbV ho hx hy (by simp)
theorem OpV.lss{t u:TypeId}{x y:Operand}{k:IntKind}{m n:Int}(ho:o.op=.binOp .lss t x y u)(hx:opA env x=.int k m)(hy:opA env y=.int k n):OpV P o env H (.bool (decide (m<n))):=
 QbV (f:=λa b=>decide (a<b)) ho hx hy (by simp)
theorem OpV.leq{t u:TypeId}{x y:Operand}{k:IntKind}{m n:Int}(ho:o.op=.binOp .leq t x y u)(hx:opA env x=.int k m)(hy:opA env y=.int k n):OpV P o env H (.bool (decide (m<=n))):=
 QbV (f:=λa b=>decide (a<=b)) ho hx hy (by simp)
theorem OpV.gtr{t u:TypeId}{x y:Operand}{k:IntKind}{m n:Int}(ho:o.op=.binOp .gtr t x y u)(hx:opA env x=.int k m)(hy:opA env y=.int k n):OpV P o env H (.bool (decide (n<m))):=
 QbV (f:=λa b=>decide (b<a)) ho hx hy (by simp)
theorem OpV.geq{t u:TypeId}{x y:Operand}{k:IntKind}{m n:Int}(ho:o.op=.binOp .geq t x y u)(hx:opA env x=.int k m)(hy:opA env y=.int k n):OpV P o env H (.bool (decide (n<=m))):=
 QbV (f:=λa b=>decide (b<=a)) ho hx hy (by simp)
theorem OpV.rem{t u:TypeId}{x y:Operand}{k:IntKind}{m n:Int}(g:o.op=.binOp .rem t x y u)(e:opA env x=.int k m)(d:opA env y=.int k n)(h:n≠0):OpV P o env H (.int k (m.tmod n)):=by
 intro l i σ N a w r;have j:=QP r e;have f:=QP r d;exact⟨_,by simp_all[execOp,Go.binOp,eqGuard,Op.intDiv],rfl⟩
theorem OpV.quo{t u:TypeId}{x y:Operand}{k:IntKind}{m n:Int}(g:o.op=.binOp .quo t x y u)(e:opA env x=.int k m)(d:opA env y=.int k n)(h:n≠0):OpV P o env H (.int k (k.wrap (m.tdiv n))):=by
 intro l i σ N a w r;have j:=QP r e;have f:=QP r d;exact⟨_,by simp_all[execOp,Go.binOp,eqGuard,Op.intDiv],rfl⟩
theorem OpV.not{t:TypeId}{x:Operand}{b:Bool}(g:o.op=.unOp .not t x)(d:opA env x=.bool b):OpV P o env H (.bool !b):=by
 intro h e σ N a w r;have f:=Qcr r d;exact⟨_,by simp_all[execOp,Op.unary],rfl⟩
theorem OpV.neg{t:TypeId}{x:Operand}{k:IntKind}{n:Int}(g:o.op=.unOp .neg t x)(d:opA env x=.int k n):OpV P o env H (.int k (k.wrap (0-n))):=by
 intro h e σ N a w r;have f:=QP r d;exact⟨_,by simp_all[execOp,Op.unary,Op.intArith],rfl⟩
theorem QeV{s t:TypeId}{x:Operand}{k d:IntKind}{n:Int}{f:TypeDesc}(h:o.op=.convert s t x)(i:∀w,(underlying s).run P w=.ok f w)(g:∀w,(underlying t).run P w=.ok (.int k) w)
  (e:opA env x=.int d n):OpV P o env H (.int k (k.wrap n)):=by
 intro m j σ N a w r;have l:=QP r e;refine⟨_,?_,rfl⟩
 simp_all[execOp,convert,Conv.intToInt]
theorem Qdc{op:BinOp}{t u:TypeId}{x y:Operand}{p q:List UInt8}{f:List UInt8->List UInt8->Bool}(i:o.op=.binOp op t x y u)(l:opA env x=.str p)(h:opA env y=.str q)
  (d:op=.eql/\f=(λa b=>a==b)\/op=.neq/\f=(λa b=>a != b)\/op=.lss/\f=Op.bytesLess\/op=.geq/\f=(λa b=> !Op.bytesLess a b)\/
   op=.leq/\f=(λa b=>Op.bytesLess a b||a==b)\/op=.gtr/\f=(λa b=> !(Op.bytesLess a b||a==b))):OpV P o env H (.bool (f p q)):=by
 intro n m σ N a w r;have k:=QdM r l;have e:=QdM r h;refine⟨_,?_,rfl⟩;generalize a.eval=ρ at*;have g:(⟨p.toArray⟩:ByteArray).toList=p:=by simp
 have j:(⟨q.toArray⟩:ByteArray).toList=q:=by simp
 rcases d with⟨rfl,rfl⟩|⟨rfl,rfl⟩|⟨rfl,rfl⟩|⟨rfl,rfl⟩|⟨rfl,rfl⟩|⟨rfl,rfl⟩<;>simp[i,k,e,Go.binOp,Op.stringOp,g,j,go_sem,bne]
theorem QjF{t u:TypeId}{x y:Operand}{p q:List UInt8}(ho:o.op=.binOp .eql t x y u)(hx:opA env x=.str p)(hy:opA env y=.str q):OpV P o env H (.bool (p==q)):=
 Qdc ho hx hy (by simp)
theorem QjC{t u:TypeId}{x y:Operand}{p q:List UInt8}(ho:o.op=.binOp .neq t x y u)(hx:opA env x=.str p)(hy:opA env y=.str q):OpV P o env H (.bool (p != q)):=
 Qdc ho hx hy (by simp)
theorem QjD{t u:TypeId}{x y:Operand}{p q:List UInt8}(ho:o.op=.binOp .lss t x y u)(hx:opA env x=.str p)(hy:opA env y=.str q):OpV P o env H (.bool (Op.bytesLess p q)):=
 Qdc ho hx hy (by simp)
theorem QjE{t:TypeId}{x y:Operand}{s:List UInt8}{k:IntKind}{n:Int}{c:UInt8}(q:o.op=.index t x y)(p:∀w,(underlying t).run P w=.ok .string w)(h:opA env x=.str s)(e:opA env y=.int k n)
  (u:0<=n)(i:s[n.toNat]?=some c):OpV P o env H (.int .u8 c.toNat):=by
 intro m z σ N a w r;have B:=QdM r h;have l:=QP r e;have j:(⟨s.toArray⟩:ByteArray)[n.toNat]?=some c:=by
  obtain⟨d,f⟩:=XK.1 i;have g:(⟨s.toArray⟩:ByteArray).size=s.length:=by rfl
  rw[getElem?_pos _ _ (by exact d)];show some (s.toArray[n.toNat]'(by omega))=some c;simp[f]
 refine⟨_,?_,rfl⟩
 simp_all[execOp,Instr.index,asIntOf]
theorem YT{c:Call}{t:TypeId}{x:Operand}{s:List UInt8}(h:o.op=.call c)(d:c={callee:=.builtin .len,args:= #[x],argTypes:= #[t]})(e:∀w,(underlying t).run P w=.ok .string w)
  (g:opA env x=.str s):OpV P o env H (.int .i64 s.length):=by
 intro j i σ N a w r;have f:=QdM r g;generalize a.eval=ρ at*;subst d;simp[execOp,h,f,resolve,invoke,Builtin.len_,e,goInt,go_sem]<;>rfl
theorem Qlc{c:Call}{t e:TypeId}{x:Operand}{k:Nat}{es:List (List A)}(g:o.op=.call c)(j:c={callee:=.builtin .len,args:= #[x],argTypes:= #[t]})(f:∀w,(underlying t).run P w=.ok (.slice e) w)
  (i:opA env x=.rsl k es):OpV P o env H (.int .i64 es.length):=by
 intro n m σ N a w r;have d:=Qo r x;rw[i]at d;obtain⟨l,h,d,_⟩:=d;refine⟨_,?_,rfl⟩;generalize a.eval=ρ at*;subst j;simp[execOp,g,d,resolve,invoke,Builtin.len_,f,goInt,go_sem]
theorem Qld{c:Call}{t e:TypeId}{x:Operand}{i s n k:Nat}(g:o.op=.call c)(l:c={callee:=.builtin .len,args:= #[x],argTypes:= #[t]})(f:∀w,(underlying t).run P w=.ok (.slice e) w)
  (j:opA env x=.osl i s n k):OpV P o env H (.int .i64 n):=by
 intro y q σ N a w r;have d:=Qo r x;rw[j]at d;refine⟨_,?_,rfl⟩;generalize a.eval=ρ at*;subst l;rcases d with⟨rfl,d⟩|⟨b,p,h,u,m,_,d,_⟩<;>
 simp[execOp,g,d,resolve,invoke,Builtin.len_,f,goInt,go_sem]
structure Qae (P:Program) (T f off n:Nat):Prop where
 h:∃fs fd,(∀w,(underlying T).run P w=.ok (.struct fs) w)/\fs[f]?=some fd/\fd.offset=off/\(∀w,(sizeOf fd.type).run P w=.ok n w)/\n≠0
theorem QaH(b a n:Nat):(⟨b,a,none⟩:Addr).add n=⟨b,a+n,none⟩:=by
 simp_all[Addr.add]
theorem Qdk{T f off n b p:Nat}(a:Qae P T f off n)(w:World):(Instr.fieldAt T (.pointer (some ⟨b,p,none⟩)) f).run P w=.ok (.pointer (some ⟨b,p+off,none⟩)) w:=by
 obtain⟨j,i,k,d,rfl,e,g⟩:=a.h
 simp_all[Instr.fieldAt,Instr.sureAddr,fieldPlace,QaH]
theorem QeU{T f off n i p:Nat}{x:Operand}(g:Qae P T f off n)(j:o.op=.fieldAddr T x f)(h:opA env x=.ptr i p):OpV P o env H (.ptr i (p+off)):=by
 intro l k σ N a w r;have d:=Qo r x;rw[h]at d;obtain⟨b,d,e⟩:=d;refine⟨.pointer (some ⟨b,p+off,none⟩),?_,b,d,rfl⟩;simp only[execOp,j,e,Vk,Qdk g];rfl
theorem CR.drop{ro:Nat->Prop}{σ:Sig}{w:World}{b:Nat}:∀(n:Nat) {cs:List A} {off:Nat},CR ro σ w b cs off->CR ro σ w b (cs.drop n) (off+n)
 |0,_,_,h=>h
 |n+1,[],_,h=>trivial
 |n+1,c::cs,off,h=>by
  have:=CR.drop n h.2
  grind
theorem CR.take{ro:Nat->Prop}{σ:Sig}{w:World}{b:Nat}:∀(n:Nat) {cs:List A} {off:Nat},CR ro σ w b cs off->CR ro σ w b (cs.take n) off
 |0,_,_,h=>trivial
 |n+1,[],_,h=>trivial
 |n+1,c::cs,off,h=>⟨h.1,CR.take n h.2⟩
theorem QeT{T f off n:Nat}{x:Operand}{h d:List A}(k:Qae P T f off n)(l:o.op=.fieldAddr T x f)(m:opA env x=.rp h)(g:h.drop off=d):OpV P o env H (.rp d):=by
 intro s q σ N a w r;have e:=Qo r x;rw[m]at e;obtain⟨b,p,e,i,j⟩:=e;refine⟨.pointer (some ⟨b,p+off,none⟩),?_,b,p+off,rfl,i,g▸j.drop off⟩;simp only[execOp,l,e,Vk,Qdk k];rfl
theorem RR.get{ro:Nat->Prop}{σ:Sig}{w:World}{b k:Nat}:∀(n:Nat) {es:List (List A)} {off:Nat} {c:List A},RR ro σ w b k es off->es[n]?=some c->c.length=k/\CR ro σ w b c (off+n*k)
 |n,[],_,_,h,hc=>by simp at hc
 |0,e::es,off,c,h,hc=>by
  simp at hc;subst hc;exact⟨h.1,by simpa using h.2.1⟩
 |n+1,e::es,off,c,h,hc=>by
  have:=RR.get n h.2.2 (by simpa using hc)
  grind
theorem Qmg{t e:TypeId}{x y:Operand}{k:Nat}{es:List (List A)}{F:IntKind}{n:Int}{c:List A}(u:o.op=.indexAddr t x y)(m:∀w,(underlying t).run P w=.ok (.slice e) w)
  (q:∀w,(sizeOf e).run P w=.ok k w)(z:opA env x=.rsl k es)(l:opA env y=.int F n)(G:0<=n)(B:es[n.toNat]?=some c):OpV P o env H (.rp c):=by
 intro L O σ N a w r;have f:=Qo r x;rw[z]at f;have j:=QP r l;obtain⟨J,s,f,M,i⟩:=f;have g:n.toNat<es.length:=(by grind);rcases i with rfl|⟨b,d,rfl,E,h⟩
 .simp at g
 have p:n<es.length:=by omega
 refine⟨.pointer (some ⟨b,d+n.toNat*k,none⟩),?_,b,d+n.toNat*k,rfl,E,(h.get n.toNat B).2⟩;generalize a.eval=ρ at*;simp[u,f,j,Instr.indexAt,m,q,G,p,go_sem]
theorem QiK{t e:TypeId}{x y:Operand}{i s m k:Nat}{j:IntKind}{n:Int}(q:o.op=.indexAddr t x y)(l:∀w,(underlying t).run P w=.ok (.slice e) w)
  (u:∀w,(sizeOf e).run P w=.ok k w)(E:opA env x=.osl i s m k)(h:opA env y=.int j n)(z:0<=n)(F:n<m):OpV P o env H (.ptr i (s*k+n.toNat*k)):=by
 intro L O σ N a w r;have d:=Qo r x;rw[E]at d;have f:=QP r h;rcases d with⟨rfl,_⟩|⟨b,p,B,Q,M,G,d,g,J,_⟩
 .omega
 obtain rfl:=g (by omega);refine⟨.pointer (some ⟨b,s*k+n.toNat*k,none⟩),?_,b,G,rfl⟩;generalize a.eval=ρ at*;simp[q,d,f,Instr.indexAt,l,u,z,F,go_sem]
def Pts(H:Qd)(p:A)(cs:List A):Prop:=
 ∀fr ro σ w v,Sim fr ro σ H w->VR ro σ w p v->∃b off,v=.pointer (some ⟨b,off,none⟩)/\CR ro σ w b cs off
theorem VR.lift{ro:Nat->Prop}{σ:Sig}{w:World}{a:A}{v:Value}(h:VR ro [] w a v):VR ro σ w a v:=
 h.mono ⟨λ_ q=>q,λ_ _=>rfl,λ_ _ q=>q,(by simp)⟩
theorem CR.lift{ro:Nat->Prop}{σ:Sig}{w:World}{b:Nat}:∀{cs:List A} {off:Nat},CR ro [] w b cs off->CR ro σ w b cs off
 |[],_,_=>trivial
 |c::cs,off,⟨⟨v,h1,hp,h2⟩,h3⟩=>⟨⟨v,h1,hp,h2.lift⟩,CR.lift h3⟩
theorem LR.lift{ro:Nat->Prop}{σ:Sig}{w:World}:∀{cs:List A} {l:List Value},LR ro [] w cs l->LR ro σ w cs l
 |[],_,h=>h
 |c::cs,l,⟨v,l',h1,h2,h3⟩=>⟨v,l',h1,h2.lift,LR.lift h3⟩
theorem Pts.rp{cs:List A}:Pts H (.rp cs) cs:=λfr ro σ w v s ⟨b,off,h1,h2,h3⟩=>⟨b,off,h1,h3.lift⟩
theorem LR.cells{ro:Nat->Prop}{σ:Sig}{w:World}{b t:Nat}{fz:Nat×Nat}{pre l:List Value}(e:w.heap[b]?=some (.cells (pre++l).toArray t fz))(d:∀v∈l,Qz v):
  ∀{a:List A},LR ro σ w a l->CR ro σ w b a pre.length:=by
 induction l generalizing pre with
 |nil=>
  intro a h;cases a with
  |nil=>trivial
  |cons c a=>obtain⟨v,g,h,_⟩:=h;cases h
 |cons v l i=>
  intro a h;cases a with
  |nil=>trivial
  |cons c a=>
   obtain⟨n,g,j,f,m⟩:=h;cases j;refine⟨⟨v,by simp[World.cell?,e],d v (by simp),f⟩,?_⟩;have:=i (pre:=pre++[v]) (by simpa using e) (λx k=>d x (by simp[k])) m
   grind
theorem Pts.cells{i a t:Nat}{e d:List A}(n:H[i]?=some (.cells t e))(g:e.drop a=d):Pts H (.ptr i a) d:=by
 intro r q σ w v s h;obtain⟨b,m,p⟩:=h;obtain⟨l,j,k,f⟩:=s.blk i _ _ m n;have:=LR.cells (pre:=[]) (by simpa using j) f k;have:=this.drop a
 grind
theorem LR.get{ro:Nat->Prop}{σ:Sig}{w:World}:∀{az:List A} {l:List Value} (i:Nat) {a:A},LR ro σ w az l->az[i]?=some a->∃v,l[i]?=some v/\VR ro σ w a v
 |[],l,i,a,h,ha=>by simp at ha
 |x::az,l,0,a,⟨v,l',h1,h2,h3⟩,ha=>by
  grind
 |x::az,l,i+1,a,⟨v,l',h1,h2,h3⟩,ha=>by
  obtain⟨v',q1,q2⟩:=LR.get i h3 (by simpa using ha)
  grind
theorem LR.drop{ro:Nat->Prop}{σ:Sig}{w:World}:∀(n:Nat) {az:List A} {l:List Value},LR ro σ w az l->LR ro σ w (az.drop n) (l.drop n)
 |0,az,l,h=>h
 |n+1,[],l,h=>by cases(show l=[]from h);rfl
 |n+1,a::az,l,⟨v,l',h1,h2,h3⟩=>by subst h1;exact LR.drop n h3
theorem LR.take{ro:Nat->Prop}{σ:Sig}{w:World}:∀(n:Nat) {az:List A} {l:List Value},LR ro σ w az l->LR ro σ w (az.take n) (l.take n)
 |0,az,l,h=>rfl
 |n+1,[],l,h=>by cases(show l=[]from h);rfl
 |n+1,a::az,l,⟨v,l',h1,h2,h3⟩=>by subst h1;exact⟨v,l'.take n,rfl,h2,LR.take n h3⟩
theorem LR.append{ro:Nat->Prop}{σ:Sig}{w:World}:∀{az:List A} {l:List Value} {bs:List A} {m:List Value},LR ro σ w az l->LR ro σ w bs m->LR ro σ w (az++bs) (l++m)
 |[],l,bs,m,h,k=>by cases(show l=[]from h);exact k
 |a::az,l,bs,m,⟨v,l',h1,h2,h3⟩,k=>by subst h1;exact⟨v,l'++m,rfl,h2,LR.append h3 k⟩
theorem QiN{ro:Nat->Prop}{σ:Sig}{w:World}{b t:Nat}{fz:Nat×Nat}:∀{cs:List A} {pre l post:List Value},w.heap[b]?=some (.cells (pre++(l++post)).toArray t fz)->(∀v∈l,Qz v)->
  LR ro σ w cs l->CR ro σ w b cs pre.length
 |[],_,_,_,_,_,_=>trivial
 |c::cs,pre,l,post,hb,hpl,⟨v,l',h1,h2,h3⟩=>by
  subst h1;refine⟨⟨v,by simp[World.cell?,hb],hpl v (by simp),h2⟩,?_⟩;have:=QiN (pre:=pre++[v]) (by simpa using hb) (by grind) h3
  grind
theorem YL{ro:Nat->Prop}{σ:Sig}{w:World}{b t k:Nat}{fz:Nat×Nat}:∀{es:List (List A)} {pre l:List Value},w.heap[b]?=some (.cells (pre++l).toArray t fz)->
  RL ro σ w k es l->RR ro σ w b k es pre.length
 |[],_,_,_,_=>trivial
 |c::es,pre,l,hb,⟨l1,l2,h1,h2,h3,h4⟩=>by
  subst h1;refine⟨h2,QiN hb h3.2 h3.1,?_⟩;have hl:=h3.1.length;have:=YL (pre:=pre++l1) (by simpa using hb) h4
  grind
theorem Pts.row{i a t k e f:Nat}{es:List (List A)}{c d:List A}(r:H[i]?=some (.row t k es))(n:a=e*k+f)(he:es[e]?=some c)(g:c.drop f=d):Pts H (.ptr i a) d:=by
 intro x u σ w v s h;obtain⟨b,q,j⟩:=h;obtain⟨l,m,p⟩:=s.blk i _ _ q r;have:=((YL (pre:=[]) (by simpa using m) p).get e he).2.drop f;refine⟨b,a,j,?_⟩;subst n g;simpa using this.lift
theorem Pts.rowr{i d t k e f:Nat}{es:List (List A)}{c a:List A}(p:H[i]?=some (.rowr t k es))(r:d=e*k+f)(he:es[e]?=some c)(g:c.drop f=a):Pts H (.ptr i d) a:=by
 intro x u σ w v s h;obtain⟨b,n,q⟩:=h;obtain⟨l,j,m⟩:=s.blk i _ _ n p;have:=((YL (pre:=[]) (by simpa using j) m).get e he).2.drop f
 grind
theorem Qjs{w w':World}(h:w'.heap=w.heap)(a:Addr):w'.cell? a=w.cell? a:=by unfold World.cell?;rw[h]
theorem Yu{ro:Nat->Prop}{σ:Sig}{w:World}{b d:Nat}:∀{e:List A} (i:Nat),CR ro σ w b e (d+i)->
  ∃l,LR ro σ w e l/\(∀v∈l,Qz v)/\ ∀(w':World) (a:Array Value),w'.heap=w.heap->(loadCellsFrom ⟨b,d,none⟩ i e.length a).run P w'=.ok (a++l.toArray) w'
 |[],i,h=>⟨[],rfl,by simp,λw' a _=>by rfl⟩
 |c::e,i,⟨⟨v,h1,hp,h2⟩,h3⟩=>by
  obtain⟨l,q1,qp,q2⟩:=Yu (i+1) (by omega);refine⟨v::l,⟨v,l,rfl,h2,q1⟩,by grind,λw' a hw=>?_⟩;have h1':w'.cell? ⟨b,d+i,none⟩=some v:=by rw[Qjs hw];exact h1
  simp_all[loadCellsFrom,QaH]
theorem Qdd{t n:Nat}{x:Operand}{p:A}{d vs:List A}(y:o.op=.load t x)(B:∀w,(isAgg t).run P w=.ok true w)(E:∀w,(sizeOf t).run P w=.ok n w)(m:opA env x=p)(k:Pts H p d)
  (i:d.take n=vs)(u:vs.length=n):OpV P o env H (.agg vs):=by
 intro f j σ N a w r;have e:=Qo r x;rw[m]at e;obtain⟨b,g,s,q⟩:=k f j σ w _ r.sim e;subst i;obtain⟨l,h,_,z⟩:=Yu (P:=P) 0 (by simpa using q.take n);refine⟨.agg l.toArray,?_,l,rfl,h⟩
 simp_all[execOp,Instr.loadAt,Instr.sureAddr,loadVar,loadCells]
theorem OpV.load{t:Nat}{x:Operand}{p v:A}{g:List A}(m:o.op=.load t x)(n:∀w,(isAgg t).run P w=.ok false w)(j:opA env x=p)(i:Pts H p (v::g)):OpV P o env H v:=by
 intro e h σ N a w r;have d:=Qo r x;rw[j]at d;obtain⟨b,f,k,⟨y,q,_,l⟩,_⟩:=i e h σ w _ r.sim d
 simp_all[execOp,Instr.loadAt,Instr.sureAddr,loadVar]
theorem OpV.extract{x:Operand}{vs:List A}{i:Nat}{v:A}(k:o.op=.extract x i)(g:opA env x=.tup vs)(f:vs[i]?=some v):OpV P o env H v:=by
 intro j m σ N a w r;have d:=Qo r x;rw[g]at d;obtain⟨l,d,e⟩:=d;obtain⟨y,n,h⟩:=e.get i f
 simp_all[execOp,Instr.extract]
theorem OpV.field{T f off n:Nat}{x:Operand}{e:List A}{v:A}(i:Qae P T f off n)(k:∀fs fd,(∀w,(underlying T).run P w=.ok (.struct fs) w)->fs[f]?=some fd->∀w,(isAgg fd.type).run P w=.ok false w)
  (z:o.op=.field T x f)(m:opA env x=.agg e)(j:e[off]?=some v):OpV P o env H v:=by
 intro s E σ N a w r;have d:=Qo r x;rw[m]at d;obtain⟨l,d,g⟩:=d;obtain⟨y,F,p⟩:=g.get off j;obtain⟨fs,fd,q,u,rfl,t,B⟩:=i.h
 simp_all[execOp,Instr.field,asAgg,part]
theorem Qa7{fr ro:Nat->Prop}{σ:Sig}{N:Nat}{a:Act}{w:World}(r:Rel fr ro σ H env N a w):∀(l:List Operand),LR ro σ w (l.map (opA env)) (l.map a.eval)
 |[]=>rfl
 |x::l=>⟨_,_,rfl,Qo r x,Qa7 r l⟩
theorem OpV.makeFunc{f:Fn}{first cap:List Operand}{e d:List A}(j:o.op=.makeFunc f first.toArray cap.toArray)(h:first.map (opA env)=e)(g:cap.map (opA env)=d):OpV P o env H (.fn f e d):=by
 intro k i σ N a w r;refine⟨.func f (first.map a.eval).toArray (cap.map a.eval).toArray,?_,_,_,rfl,h▸Qa7 r first,g▸Qa7 r cap⟩
 simp_all[execOp,Instr.makeFunc]
theorem Qak{t:TypeId}{x:Operand}{v:A}{d:TypeDesc}(j:o.op=.makeInterface t x)(i:∀w,(underlying t).run P w=.ok d w)(g:∀m,d≠ .interface m)(f:opA env x=v):OpV P o env H (.iface t v):=by
 intro k h σ N a w r;have e:=Qo r x;rw[f]at e;refine⟨.iface t (a.eval x),?_,_,rfl,e⟩
 simp_all[execOp,Instr.makeInterface]
end
mutual
def Yo:A->Bool
 |.ptr _ _=>false
 |.osl _ _ _ _=>false
 |.map _=>false
 |.agg cs=>Yv cs
 |.fn _ a c=>Yv a&&Yv c
 |.iface _ v=>Yo v
 |.tup vs=>Yv vs
 |_=>true
def Yv:List A->Bool
 |[]=>true
 |a::r=>Yo a&&Yv r
end
mutual
theorem VR.data{ro:Nat->Prop}{σ σ':Sig}{w:World}:∀{a:A} {v:Value},Yo a=true->VR ro σ w a v->VR ro σ' w a v
 |.any,_,_,_=>trivial
 |.bool b,v,_,q=>q
 |.int k n,v,_,q=>q
 |.str s,v,_,q=>q
 |.nilp,v,_,q=>q
 |.ptr i off,v,d,q=>by simp[Yo]at d
 |.rp cs,v,_,q=>q
 |.nils,v,_,q=>q
 |.rsl k es,v,_,q=>q
 |.osl i o n k,v,d,q=>by simp[Yo]at d
 |.agg cs,v,d,q=>by
  simp only[VR,Yo]at q d⊢;obtain⟨l,h1,h2⟩:=q;exact⟨l,h1,LR.data d h2⟩
 |.fn f a c,v,d,q=>by
  simp only[VR,Yo,XV]at q d⊢;obtain⟨l,l',h1,h2,h3⟩:=q;exact⟨l,l',h1,LR.data d.1 h2,LR.data d.2 h3⟩
 |.nilf,v,_,q=>q
 |.iface t a,v,d,q=>by
  simp only[VR,Yo]at q d⊢;obtain⟨x,h1,h2⟩:=q;exact⟨x,h1,VR.data d h2⟩
 |.nilif,v,_,q=>q
 |.map i,v,d,q=>by simp[Yo]at d
 |.nilm,v,_,q=>q
 |.tup vs,v,d,q=>by
  simp only[VR,Yo]at q d⊢;obtain⟨l,h1,h2⟩:=q;exact⟨l,h1,LR.data d h2⟩
theorem LR.data{ro:Nat->Prop}{σ σ':Sig}{w:World}:∀{az:List A} {l:List Value},Yv az=true->LR ro σ w az l->LR ro σ' w az l
 |[],_,_,q=>q
 |a::r,l,d,q=>by
  simp only[LR,Yv,XV]at q d⊢;obtain⟨v,l',h1,h2,h3⟩:=q;exact⟨v,l',h1,VR.data d.1 h2,LR.data d.2 h3⟩
end
def Yq:A->Bool
 |.any|.agg _|.tup _=>false
 |_=>true
def Yb:A->List A
 |.agg cs=>cs
 |a=>[a]
def Yl:A->Bool
 |.any=>false
 |_=>true
theorem VR.plain{ro:Nat->Prop}{σ:Sig}{w:World}{a:A}{v:Value}(d:Yq a=true)(h:VR ro σ w a v):Qz v:=by
 cases a<;>first|(simp[Yq]at d)|skip
 case rsl k es=>obtain⟨e,c,rfl,_⟩:=h;trivial
 case osl=>rcases h with⟨_,rfl⟩|⟨_,_,_,_,_,_,rfl,_⟩<;>trivial
 case fn=>obtain⟨_,_,rfl,_⟩:=h;trivial
 case iface=>obtain⟨_,rfl,_⟩:=h;trivial
 case ptr=>obtain⟨_,_,rfl⟩:=h;trivial
 case rp=>obtain⟨_,_,rfl,_⟩:=h;trivial
 case map=>obtain⟨_,_,rfl⟩:=h;trivial
 all_goals (subst h;trivial)
theorem VR.cells{ro:Nat->Prop}{σ:Sig}{w:World}{a:A}{v:Value}(d:Yl a=true)(h:VR ro σ w a v):∃l:List Value,v.cells=l.toArray/\LR ro σ w (Yb a) l:=by
 cases a
 case any=>simp[Yl]at d
 case agg cs=>obtain⟨l,rfl,h⟩:=h;exact⟨l,rfl,h⟩
 case tup cs=>obtain⟨l,rfl,h⟩:=h;exact⟨[.tuple l.toArray],rfl,_,_,rfl,⟨l,rfl,h⟩,rfl⟩
 all_goals
  have e:=h.plain rfl;refine⟨[v],?_,v,[],rfl,h,rfl⟩;cases v<;>first|rfl|exact e.elim
theorem LR.plain{ro:Nat->Prop}{σ:Sig}{w:World}:∀{az:List A} {l:List Value},az.all Yq=true->LR ro σ w az l->∀v∈l,Qz v
 |[],l,_,h=>by cases(show l=[]from h);simp
 |a::az,l,hp,⟨v,l',h1,h2,h3⟩=>by
  subst h1;simp only[List.all_cons,XV]at hp;intro x hx;rcases X5.1 hx with rfl|hx
  .exact h2.plain hp.1
  .exact LR.plain hp.2 h3 x hx
theorem Yh(w:World)(obj:Obj)(b:Nat)(a:b<w.heap.size):(w.alloc obj).heap[b]?=w.heap[b]? :=by
 show(w.heap.push obj)[b]?=_
 grind
theorem Ys(w:World)(obj:Obj):(w.alloc obj).heap[w.heap.size]?=some obj:=by
 show(w.heap.push obj)[w.heap.size]?=_;simp
theorem YR(w:World)(obj:Obj):(w.alloc obj).heap.size=w.heap.size+1:=by
 simp
theorem Qj8{w:World}{b:Nat}{x:TypeId×Nat}(h:w.shape? b=some x):b<w.heap.size:=by
 grind[World.shape?]
theorem Qh.alloc{fr ro:Nat->Prop}{w:World}(obj:Obj)(hro:∀b,ro b->b<w.heap.size)(hfr:∀b,fr b->b<w.heap.size):Qh fr ro w ro (w.alloc obj):=
 ⟨λ_ h=>h,λb h=>Yh w obj b (hro b h),λb h=>Yh w obj b (hfr b h),by simp,
  λb x h=>by grind[World.shape?,Yh],rfl,rfl,rfl,XS _⟩
section
variable {P:Program} {o:Oper} {env:Env} {H:Qd} {fr ro:Nat->Prop} {σ:Sig} {w:World}
theorem Sim.alloc(s:Sim fr ro σ H w){obj:Obj}{x:Blk}(J:BR ro (σ++[some w.heap.size]) (w.alloc obj) x (some w.heap.size))
  (u:∀c,Hid (w.alloc obj) x w.heap.size c->False:=by exact λ_ h=>h.elim):
  Sim fr ro (σ++[some w.heap.size]) (H++[x]) (w.alloc obj):=by
 have ev:Qh fr ro w ro (w.alloc obj):=Qh.alloc obj s.roLt s.frLt;have n:=s.len;have e:∀(i:Nat) (y:Option Nat),(σ++[some w.heap.size])[i]?=some y->(i<σ.length/\σ[i]?=some y)\/(i=σ.length/\y=some w.heap.size):=by
  grind
 have k:∀i:Nat,i<σ.length->(H++[x])[i]?=H[i]? :=λi G=>XL (by omega);have F:(H++[x])[σ.length]?=some x:=by rw[n];simp
 refine⟨by simp[n],s.roOk.to (λ_ q=>q) ev.keepRo (λb h=>?_),λb h=>?_,s.roFr,?_,?_,?_,?_⟩
 .rw[YR];have:=s.roLt b h;omega
 .rw[YR];have:=s.frLt b h;omega
 .intro i b y f g p;rw[YR];rcases e i _ f with⟨q,f⟩|⟨rfl,l⟩
  .rw[k i q]at g;obtain⟨a,b,c⟩:=s.own i b y f g p
   grind
  .cases l;exact⟨by omega,λq=>by have:=s.roLt _ q;omega,λq=>by have:=s.frLt _ q;omega⟩
 .intro i j b y z f g p t E B;rcases e i _ f with⟨q,f⟩|⟨rfl,l⟩<;>rcases e j _ g with⟨q',g⟩|⟨rfl,e2⟩
  .rw[k i q]at p;rw[k j q']at t;exact s.inj i j b y z f g p t E B
  .cases e2;rw[k i q]at p;have:=(s.own i _ y f p E).1;omega
  .cases l;rw[k j q']at t;have:=(s.own j _ z g t B).1;omega
  .rfl
 .intro i y z f g;rcases e i _ f with⟨q,f⟩|⟨rfl,l⟩
  .rw[k i q]at g;refine(s.blk i y z f g).keep (ev.ext σ _) ?_ ?_
   .rintro b rfl n;exact Yh w obj b (s.own i b z f g n).1
   .rintro b c rfl n;exact Yh w obj c (s.hid i b z c f g n).lt
  grind
 .refine s.hidTo (· = ·) Q7 (by rw[YR];omega) (λ_ _ _ _ _ _ _ q=>q) (λ_ _ _ _ _ _ _ q=>q) λj d y r m L=>?_;rcases e j _ r with⟨q,r⟩|⟨rfl,l⟩
  .rw[k j q]at m;exact .inl ⟨j,y,rfl,r,m,id,λc q=>s.hidKeep r m (λz=>Yh w obj d (s.own j d y r m z).1) ev.keepRo q⟩
  .rw[F]at m;cases m;cases l;exact .inr ⟨XS _,u⟩
theorem Sim.allocCells(s:Sim fr ro σ H w){t:Nat}{cs:List A}{l:List Value}(h:LR ro σ w cs l)(hp:∀v∈l,Qz v):
  Sim fr ro (σ++[some w.heap.size]) (H++[.cells t cs]) (w.alloc (.cells l.toArray t)):=
 s.alloc ⟨l,Ys _ _,h.mono ((Qh.alloc _ s.roLt s.frLt).ext σ _),hp⟩
theorem Qhn{ro:Nat->Prop}{σ:Sig}{w:World}:∀{az bs:List A} {l:List Value},LR ro σ w (az++bs) l->∃l1 l2,l=l1++l2/\LR ro σ w az l1/\LR ro σ w bs l2
 |[],bs,l,h=>⟨[],l,rfl,rfl,h⟩
 |a::az,bs,l,⟨v,l',h1,h2,h3⟩=>by
  obtain⟨l1,l2,e,q1,q2⟩:=Qhn h3;subst h1 e;exact⟨v::l1,l2,rfl,⟨v,l1,rfl,h2,q1⟩,q2⟩
def allK(k:Nat):List (List A)->Prop
 |[]=>True
 |c::es=>c.length=k/\allK k es
theorem Qad{k:Nat}:∀{es:List (List A)} {l rest:List Value},allK k es->LR ro σ w es.flatten l->(∀v∈l,Qz v)->RL ro σ w k es (l++rest)
 |[],_,_,_,_,_=>trivial
 |c::es,l,rest,⟨h1,h2⟩,h,hp=>by
  obtain⟨l1,l2,rfl,q1,q2⟩:=Qhn h;exact⟨l1,l2++rest,by simp,h1,(by grind),Qad h2 q2 (by grind)⟩
theorem Sim.allocRow(s:Sim fr ro σ H w){t k:Nat}{es:List (List A)}{l rest:List Value}(hk:allK k es)(h:LR ro [] w es.flatten l)(hp:∀v∈l,Qz v):
  Sim fr ro (σ++[some w.heap.size]) (H++[.row t k es]) (w.alloc (.cells (l++rest).toArray t)):=
 s.alloc ⟨l++rest,Ys _ _,(Qad hk h hp).mono ((Qh.alloc _ s.roLt s.frLt).ext0 [])⟩
theorem OpH.box{t:Nat}{x:Operand}{v:A}{f:List A}(q:o.op=.box t x)(n:opA env x=v)(m:Yl v=true)(d:Yb v=f)(g:f.all Yq=true):
  OpH P o env H (.ptr H.length 0) (H++[.cells t f]):=by
 intro p k σ N a w r;have h:=Qo r x;rw[n]at h;obtain⟨l,j,i⟩:=h.cells m;subst d;refine⟨.pointer (some ⟨w.heap.size,0,none⟩),w.alloc (.cells l.toArray t),k,[some w.heap.size],?_,⟨w.heap.size,?_,rfl⟩,r.sim.allocCells i (i.plain g),Qh.alloc _ r.sim.roLt r.sim.frLt⟩
 .generalize a.eval=ρ at*;have e:(newVar t (ρ x)).run P w=.ok ⟨w.heap.size,0,none⟩ (w.alloc (.cells l.toArray t)):=by
   unfold newVar;rw[j];rfl
  simp_all[execOp,Instr.box]
 .rw[<- r.sim.len];simp
theorem Sim.set(s:Sim fr ro σ H w){i b:Nat}{x x':Blk}{obj:Obj}(hσ:σ[i]?=some (some b))(p:H[i]?=some x)(r:x.live=true)
  (T:∀y,w.shape? b=some y->({w with heap:=w.heap.setIfInBounds b obj}:World).shape? b=some y)
  (J:Ext ro σ w ro σ {w with heap:=w.heap.setIfInBounds b obj}->({w with heap:=w.heap.setIfInBounds b obj}:World).heap[b]?=some obj->BR ro σ {w with heap:=w.heap.setIfInBounds b obj} x' (some b))
  (Q:∀c,Hid {w with heap:=w.heap.setIfInBounds b obj} x' b c->Hid w x b c:=by exact λ_ h=>h.elim):
  Sim fr ro σ (H.set i x') {w with heap:=w.heap.setIfInBounds b obj}/\Qh fr ro w ro {w with heap:=w.heap.setIfInBounds b obj}:=by
 obtain⟨W,M,N⟩:=s.own i b x hσ p r;have l:∀c,c≠b->({w with heap:=w.heap.setIfInBounds b obj}:World).heap[c]?=w.heap[c]? :=by
  grind
 have F:({w with heap:=w.heap.setIfInBounds b obj}:World).heap[b]?=some obj:=by
  grind
 have n:({w with heap:=w.heap.setIfInBounds b obj}:World).heap.size=w.heap.size:=by simp
 have ev:Qh fr ro w ro {w with heap:=w.heap.setIfInBounds b obj}:=
  ⟨λ_ h=>h,(by grind),(by grind),by omega,by
   grind[World.shape?],rfl,rfl,rfl,XS _⟩
 have X:i<H.length:=(by grind);have R:(H.set i x')[i]?=some x':=(by grind);have a:∀j,j≠i->(H.set i x')[j]?=H[j]? :=(by grind);have O:=J (ev.ext0 σ) F;refine⟨⟨by rw[X3];exact s.len,s.roOk.to (λ_ q=>q) ev.keepRo (λc h=>by rw[n];exact s.roLt c h),λc h=>by rw[n];exact s.frLt c h,s.roFr,?_,?_,?_,?_⟩,ev⟩
 .intro j c y g f t;rw[n];by_cases q:j=i
  .grind
  .rw[a j q]at f;exact s.own j c y g f t
 .intro j k c y z g f t B P L;by_cases q:j=i
  .subst q;rw[hσ]at g;cases g;by_cases u:k=j
   .exact u.symm
   .rw[a k u]at B;exact s.inj j k _ x z hσ f p B r L
  .rw[a j q]at t;by_cases u:k=i
   .subst u;rw[hσ]at f;cases f;exact s.inj j k _ y x g hσ t p P r
   .rw[a k u]at B;exact s.inj j k c y z g f t B P L
 .intro j y z g f;by_cases q:j=i
  .grind
  .rw[a j q]at f;refine(s.blk j y z g f).keep (ev.ext0 σ) ?_ ?_
   .rintro c rfl m;exact l c (λe=>q (s.inj j i b z x (e▸g) hσ f p m r))
   .rintro c d rfl V;exact l d ((s.hid j c z d g f V).ne i b x hσ p r)
 .refine s.hidTo (· = ·) Q7 (by omega) (λ_ _ _ _ _ _ _ q=>q) (λ_ _ _ _ _ _ _ q=>q) λj d y G E Y=>.inl ?_;by_cases q:j=i
  .grind
  .rw[a j q]at E;exact⟨j,y,rfl,G,E,id,λc z=>s.hidKeep G E (λm=>l d (λe=>q (s.inj j i b y x (e▸G) hσ E p m r))) ev.keepRo z⟩
def splice{α:Type}(l:List α)(o:Nat)(vs:List α):List α:=l.take o++vs++l.drop (o+vs.length)
theorem Yy{α:Type}{l:List α}{o:Nat}{vs:List α}(h:o+vs.length<=l.length):(splice l o vs).length=l.length:=by
 simp[splice];omega
theorem Qc2{h:Array Obj}{b:Nat}{f:Obj->Obj}{x:Obj}(a:h[b]?=some x):h.modify b f=h.setIfInBounds b (f x):=by
 grind
theorem YD{b t:Nat}:∀{vs l:List Value} {w:World} (a i:Nat),w.heap[b]?=some (.cells l.toArray t (0,0))->a+i+vs.length<=l.length->(∀v∈vs,Qz v)->
  (storeCells ⟨b,a,none⟩ vs i).run P w=.ok () {w with heap:=w.heap.setIfInBounds b (.cells (splice l (a+i) vs).toArray t (0,0))}
 |[],l,w,a,i,hb,hl,hp=>by
  have e:w.heap.setIfInBounds b (.cells (splice l (a+i) []).toArray t (0,0))=w.heap:=by
   apply Array.ext_getElem?;intro j;rw[Vc];by_cases q:b=j
   .subst q;obtain⟨d,m⟩:=Vb.1 hb;simp[d,splice,m]
   grind
  rw[e];rfl
 |v::vs,l,w,a,i,hb,hl,hp=>by
  simp only[XZ]at hl;have p:=hp v (by simp);have s:w.cell? ⟨b,a+i,none⟩=some l[a+i]:=by
   simp[World.cell?,hb]
  have g:w.frozen? ⟨b,a+i,none⟩=false:=by
   simp[World.frozen?,hb]
  have f:w.setCell ⟨b,a+i,none⟩ v={w with heap:=w.heap.setIfInBounds b (.cells (splice l (a+i) [v]).toArray t (0,0))}:=by
   unfold World.setCell;rw[Qc2 hb];simp only[Option.isSome_none,Xi,if_false];congr 3;have:l.toArray.setIfInBounds (a+i) v=(l.set (a+i) v).toArray:=by simp
   rw[this];congr 1;rw[List.set_eq_take_append_cons_drop,Vq (by omega)];simp[splice]
  have d:b<w.heap.size:=by
   grind
  have r:=YD (vs:=vs) (l:=splice l (a+i) [v]) (w:={w with heap:=w.heap.setIfInBounds b (.cells (splice l (a+i) [v]).toArray t (0,0))}) a (i+1)
   (by show(w.heap.setIfInBounds b _)[b]?=_;rw[Vc,Vq rfl,Vq d])
   (by rw[Yy (by simp;omega)];omega) (by grind)
  have z:splice (splice l (a+i) [v]) (a+(i+1)) vs=splice l (a+i) (v::vs):=by
   have h:(l.take (a+i)).length=a+i:=by simp;omega
   unfold splice;rw[Vg (l.take (a+i))];have u:a+(i+1)=(l.take (a+i)).length+1:=by omega
   have x:(l.take (a+i)++([v]++l.drop (a+i+[v].length))).take ((l.take (a+i)).length+1)=l.take (a+i)++[v]:=by
    grind
   have y:(l.take (a+i)++([v]++l.drop (a+i+[v].length))).drop ((l.take (a+i)).length+1+vs.length)=l.drop (a+i+(v::vs).length):=by
    rw[show(l.take (a+i)).length+1+vs.length=(l.take (a+i)).length+(1+vs.length)from by omega,X9];simp[Nat.add_comm 1];omega
   simp_all
  have k:(w.heap.setIfInBounds b (.cells (splice l (a+i) [v]).toArray t (0,0))).setIfInBounds b (.cells (splice (splice l (a+i) [v]) (a+(i+1)) vs).toArray t (0,0))=
    w.heap.setIfInBounds b (.cells (splice l (a+i) (v::vs)).toArray t (0,0)):=by
   grind
  rw[k]at r;have n:(Go.store ⟨b,a+i,none⟩ v).run P w=.ok () {w with heap:=w.heap.setIfInBounds b (.cells (splice l (a+i) [v]).toArray t (0,0))}:=by
   rw[<- f];cases v<;>first|exact p.elim|simp[Go.store,Sem.run,s,g,go_sem]
  simp_all[storeCells,QaH]
theorem Qay{w:World}{b t:Nat}{l l':List Value}(d:w.heap[b]?=some (.cells l.toArray t (0,0)))(e:l'.length=l.length)(y:TypeId×Nat)(h:w.shape? b=some y):
  {w with heap:=w.heap.setIfInBounds b (.cells l'.toArray t (0,0))}.shape? b=some y:=by
 have a:b<w.heap.size:=by
  grind
 simp_all[World.shape?]
theorem LR.splice{ro:Nat->Prop}{σ:Sig}{w:World}{az vs:List A}{l m:List Value}(a:Nat)(h:LR ro σ w az l)(k:LR ro σ w vs m):LR ro σ w (Sw.splice az a vs) (Sw.splice l a m):=by
 unfold Sw.splice;rw[k.length];exact((h.take a).append k).append (h.drop _)
theorem Qef{l m:List Value}{a:Nat}(h:∀v∈l,Qz v)(k:∀v∈m,Qz v):∀v∈Sw.splice l a m,Qz v:=by
 grind[Sw.splice]
theorem OpU.store{t n i off T:Nat}{x y:Operand}{j vs d:List A}{v:A}(ho:o.op=.store t x y)(Q:opA env x=.ptr i off)(J:H[i]?=some (.cells T j))(hs:∀w,(sizeOf t).run P w=.ok n w)
  (k:opA env y=v)(W:Yl v=true)(M:Yb v=vs)(O:vs.length=n)(F:vs.all Yq=true)(G:Nat.ble (off+n) j.length=true)(q:splice j off vs=d):
  OpU P o env H (H.set i (.cells T d)):=by
 intro fr V σ N a w r;have h:=Qo r x;rw[Q]at h;obtain⟨b,h,X⟩:=h;have B:=Qo r y;rw[k]at B;obtain⟨m,Y,g⟩:=B.cells W;rw[M]at g;obtain⟨l,z,p,R⟩:=r.sim.blk i _ _ h J;have s:off+n<=j.length:=by simp_all
 have u:m.length=n:=by rw[g.length,O]
 have E:=YD (P:=P) off 0 z (by rw[p.length,u];omega) (g.plain F);have f:=r.sim.set (x':=.cells T d) h J rfl
  (λy k=>Qay z (Yy (by rw[p.length,u];omega)) y k)
  (λe L=>⟨_,L,q▸(p.splice off g).mono e,Qef R (g.plain F)⟩)
 refine⟨_,V,[],?_,by grind,f.2⟩
 simp_all[storeVar,execOp,Instr.storeAt,Instr.sureAddr]
theorem RL.splice{ro:Nat->Prop}{σ:Sig}{w:World}{k:Nat}:∀{e:Nat} {es:List (List A)} {l m:List Value} {c a:List A} {f:Nat},RL ro σ w k es l->es[e]?=some c->LR ro σ w a m->(∀v∈m,Qz v)->f+a.length<=k->
  RL ro σ w k (es.set e (Sw.splice c f a)) (Sw.splice l (e*k+f) m)
 |_,[],_,_,_,_,_,_,h,_,_,_=>by simp at h
 |0,c0::es,l,m,c,a,f,⟨l1,l2,h1,h2,h3,h4⟩,hc,hm,hp,hf=>by
  simp at hc;subst hc h1;have hl1:=h3.1.length;refine⟨Sw.splice l1 f m,l2,?_,?_,⟨h3.1.splice f hm,Qef h3.2 hp⟩,h4⟩
  .unfold Sw.splice;simp[Nat.zero_mul,Xv,Vg];rw[X6 (by omega),X7 (by rw[hm.length];omega)]
  .rw[Yy (by omega)];exact h2
 |e+1,c0::es,l,m,c,a,f,⟨l1,l2,h1,h2,h3,h4⟩,hc,hm,hp,hf=>by
  subst h1;have hl1:=h3.1.length;refine⟨l1,Sw.splice l2 (e*k+f) m,?_,h2,h3,RL.splice h4 (by grind) hm hp hf⟩;have e1:(e+1)*k+f=l1.length+(e*k+f):=by grind
  unfold Sw.splice;rw[e1,Va,show l1.length+(e*k+f)+m.length=l1.length+(e*k+f+m.length)from by omega,X9];simp
theorem RL.length{ro:Nat->Prop}{σ:Sig}{w:World}{k:Nat}:∀{es:List (List A)} {l:List Value},RL ro σ w k es l->es.length*k<=l.length
 |[],l,_=>by simp
 |c::es,l,⟨l1,l2,h1,h2,h3,h4⟩=>by
  have:=RL.length h4;have:=h3.1.length
  grind[Nat.succ_mul]
theorem Qgd{t n i off T k e f:Nat}{x y:Operand}{es d:List (List A)}{c vs E:List A}{v:A}(ho:o.op=.store t x y)(X:opA env x=.ptr i off)(O:H[i]?=some (.row T k es))(hs:∀w,(sizeOf t).run P w=.ok n w)
  (p:off=e*k+f)(Y:es[e]?=some c)(s:opA env y=v)(hk:Yl v=true)(W:Yb v=vs)(Q:vs.length=n)(J:vs.all Yq=true)(hd:Yv vs=true)(hf:Nat.ble (f+n) k=true)
  (q:splice c f vs=E)(u:es.set e E=d):
  OpU P o env H (H.set i (.row T k d)):=by
 intro fr R σ N a w r;have j:=Qo r x;rw[X]at j;obtain⟨b,j,h2⟩:=j;have B:=Qo r y;rw[s]at B;obtain⟨m,h4,h⟩:=B.cells hk;rw[W]at h;obtain⟨l,L,M⟩:=r.sim.blk i _ _ j O;have aa:f+n<=k:=by simp_all
 have hm:m.length=n:=by rw[h.length,Q]
 have V:e<es.length:=(by grind);have F:off+n<=l.length:=by
  have:=M.length;have h6:=XB k V
  grind
 have G:=YD (P:=P) off 0 L (by omega) (h.plain J);have g:=r.sim.set (x':=.row T k d) (obj:=.cells (splice l off m).toArray T (0,0)) j O rfl
  (λy s=>Qay L (Yy (by omega)) y s)
  (λex z=>⟨_,z,by
   subst u q p;exact(M.splice Y (h.data hd) (h.plain J) (by omega)).mono ex.nil⟩)
 refine⟨_,R,[],?_,by grind,g.2⟩
 simp_all[storeVar,execOp,Instr.storeAt,Instr.sureAddr]
end
section
variable {P:Program} {o:Oper} {env:Env} {H:Qd} {fr ro:Nat->Prop} {σ:Sig} {w:World}
theorem Ext.heap{w':World}(h:w'.heap=w.heap):Ext ro σ w ro σ w':=
 ⟨λ_ q=>q,λb _=>by rw[h],λb x q=>by unfold World.shape? at q⊢;grind,λ_ _ q=>q⟩
theorem Sim.heap{w':World}(s:Sim fr ro σ H w)(h:w'.heap=w.heap):Sim fr ro σ H w':=
 ⟨s.len,s.roOk.to (λ_ q=>q) (λb _=>by rw[h]) (λb q=>by rw[h];exact s.roLt b q),λb q=>by rw[h];exact s.frLt b q,s.roFr,λi b x q1 q2 q3=>by rw[h];exact s.own i b x q1 q2 q3,s.inj,
  λi y x q1 q2=>(s.blk i y x q1 q2).keep (Ext.heap h) (by grind) (by grind),
  s.hidTo (· = ·) Q7 (by grind) (by simp) (by simp) λj d y g1 g2 g3=>.inl ⟨j,y,rfl,g1,g2,id,λc q=>q.keep (by rw[h])⟩⟩
theorem Qh.heap{w':World}(h:w'.heap=w.heap)(ho:w'.os=w.os)(ht:w'.tape=w.tape)(hu:w'.output=w.output)(hd:w.drawn<=w'.drawn):Qh fr ro w ro w':=
 ⟨λ_ q=>q,λb _=>by rw[h],λb _=>by rw[h],by grind,λb x q=>by unfold World.shape? at q⊢;grind,ho,ht,hu,hd⟩
theorem Sim.moved(s:Sim fr ro σ H w){i:Nat}{x:Blk}{y:Option Nat}(m:H[i]?=some x)(hσ:σ[i]?=some y):Sim fr ro (σ++[y]) (H.set i .dead++[x]) w:=by
 have N:=s.len;have Q:i<H.length:=(by grind);have a:∀(j:Nat) (z:Option Nat) (v:Blk),(σ++[y])[j]?=some z->(H.set i .dead++[x])[j]?=some v->v≠ .dead->
   (j<σ.length/\j≠i/\σ[j]?=some z/\H[j]?=some v)\/(j=σ.length/\z=y/\v=x):=by
  grind
 have hσ':∀(j:Nat) (b:Nat),σ[j]?=some (some b)->(σ++[y])[j]?=some (some b):=(by grind);have ext:Ext ro σ w ro (σ++[y]) w:=⟨λ_ q=>q,λ_ _=>rfl,λ_ _ q=>q,hσ'⟩;refine⟨by simp[N],s.roOk,s.frLt,s.roFr,?_,?_,?_,s.hidTo (λj u=>(j<σ.length/\j≠i/\u=j)\/(j=σ.length/\u=i)) (by omega) (XS _) (by simp) (by simp) λj d y L F P=>.inl ?_⟩
 rotate_left 3
 .rcases a j _ y L F (Qgj P)with⟨G,M,e,f⟩|⟨G,n,rfl⟩
  .grind
  grind
 .intro j b v k g h;rcases a j _ v k g (Qbo h)with⟨_,_,e,f⟩|⟨_,n,rfl⟩
  .exact s.own j b v e f h
  .subst n;exact s.own i b v hσ m h
 .intro j t b v p k g h E r l;rcases a j _ v k h (Qbo r)with⟨_,J,e,f⟩|⟨R,n,O⟩<;>rcases a t _ p g E (Qbo l)with⟨_,n1',q1',q2'⟩|⟨r1',e1',r2'⟩
  .exact s.inj j t b v p e q1' f q2' r l
  .subst e1' r2';exact(J (s.inj j i b v p e hσ f m r l)).elim
  .subst n O;exact(n1' (s.inj t i b p v q1' hσ q2' m l r)).elim
  omega
 .intro j z v k g;by_cases B:v≠ .dead
  .rcases a j z v k g B with⟨_,_,e,f⟩|⟨_,rfl,rfl⟩
   .exact(s.blk j z v e f).keep ext (λ_ _ _=>rfl) (λ_ _ _ _=>rfl)
   .exact(s.blk i _ _ hσ m).keep ext (λ_ _ _=>rfl) (λ_ _ _ _=>rfl)
  .obtain rfl:v=.dead:=Classical.not_not.1 B;trivial
def Src(P:Program)(H:Qd)(x:A)(k:Nat)(es:List (List A)):Prop:=
 ∀fr ro σ w v,Sim fr ro σ H w->VR ro σ w x v->(∃a c,v=.slice a es.length c)/\allK k es/\
  ∃l,(∀w':World,w'.heap=w.heap->(Builtin.firstCells k es.length v).run P w'=.ok l.toArray w')/\LR ro [] w es.flatten l/\ ∀v∈l,Qz v
theorem RR.flat{b k:Nat}:∀{es:List (List A)} {a:Nat},RR ro σ w b k es a->CR ro σ w b es.flatten a/\allK k es/\es.flatten.length=es.length*k
 |[],a,_=>⟨trivial,trivial,by simp⟩
 |c::es,a,⟨h1,h2,h3⟩=>by
  obtain⟨q1,q2,q3⟩:=RR.flat h3;refine⟨?_,⟨h1,q2⟩,by grind⟩;have:∀(c:List A) (a:Nat) (d:List A),CR ro σ w b c a->CR ro σ w b d (a+c.length)->CR ro σ w b (c++d) a:=by
   intro c
   induction c with
   |nil=>simp
   |cons x c e=>intro a d ⟨h1,h2⟩ h;exact⟨h1,e (a+1) d h2 (by grind)⟩
  grind
theorem QcY{b a k n c:Nat}{d:List A}(h:CR ro σ w b d a)(e:d.length=n*k):
  ∃l,(∀w',w'.heap=w.heap->(Builtin.firstCells k n (.slice (some ⟨b,a,none⟩) n c)).run P w'=.ok l.toArray w')/\LR ro σ w d l/\ ∀v∈l,Qz v:=by
 obtain⟨l,g,i,f⟩:=Yu (P:=P) 0 (by simpa using h)
 grind[Builtin.firstCells,loadCells]
theorem QaE{k c:Nat}{a:Option Addr}:(Builtin.firstCells k 0 (.slice a 0 c)).run P w=.ok #[] w:=by
 cases a<;>simp[go_sem]
theorem Src.rsl{k:Nat}{es:List (List A)}:Src P H (.rsl k es) k es:=by
 intro l j σ w v s ⟨a,c,h1,h2,h3⟩;subst h1;refine⟨⟨a,c,rfl⟩,?_⟩;rcases h3 with rfl|⟨b,e,rfl,i,d⟩
 .exact⟨trivial,[],λ_ _=>QaE,rfl,by simp⟩
 .obtain⟨g,h,f⟩:=d.flat;exact⟨h,QcY g f⟩
theorem Src.nils{k:Nat}:Src P H .nils k []:=by
 intro d a σ w v s h;subst h;exact⟨⟨none,0,rfl⟩,trivial,[],λ_ _=>QaE,rfl,by simp⟩
theorem RR.drop{b k:Nat}:∀(n:Nat) {es:List (List A)} {off:Nat},RR ro σ w b k es off->RR ro σ w b k (es.drop n) (off+n*k)
 |0,_,_,h=>by simpa using h
 |n+1,[],_,_=>trivial
 |n+1,c::es,off,⟨h1,h2,h3⟩=>by
  have:=RR.drop n h3
  grind
theorem RR.take{b k:Nat}:∀(n:Nat) {es:List (List A)} {off:Nat},RR ro σ w b k es off->RR ro σ w b k (es.take n) off
 |0,_,_,h=>trivial
 |n+1,[],_,_=>trivial
 |n+1,c::es,off,⟨h1,h2,h3⟩=>⟨h1,h2,RR.take n h3⟩
theorem Src.osl{i s n k t:Nat}{es a:List (List A)}(u:H[i]?=some (.row t k es))(he:(es.drop s).take n=a)(E:s+n<=es.length):Src P H (.osl i s n k) k a:=by
 intro M F σ w v sm h;have r:a.length=n:=by grind
 rcases h with⟨rfl,rfl⟩|⟨b,p,d,G,m,q,rfl,x,J,y,z⟩
 .have e:a=[]:=(by grind);subst e;exact⟨⟨none,0,rfl⟩,trivial,[],λ_ _=>QaE,rfl,by simp⟩
 .rw[r];refine⟨⟨_,d,rfl⟩,?_⟩;obtain⟨l,f,g⟩:=sm.blk i _ _ q u;have j:=((YL (pre:=[]) (by simpa using f) g).drop s).take n;by_cases L:0<d
  .obtain⟨f,g,B⟩:=j.flat
   simp_all[QcY]
  .obtain rfl:n=0:=by omega
   have e:a=[]:=(by grind);subst e;exact⟨trivial,[],λ_ _=>QaE,rfl,by simp⟩
def Yk:Nat:=4294967296
theorem QdD(n c:Nat)(h:c<n):Builtin.nextslicecap n c<=4*n+1000:=by
 grind[Builtin.nextslicecap,Builtin.growBy]
structure Q4 (P:Program) (T e k:Nat):Prop where
 sl:∀w,(underlying T).run P w=.ok (.slice e) w
 size:∀w,(sizeOf e).run P w=.ok k w
 zero:∃z,(∀w,(zeroValue e).run P w=.ok z w)/\z.cells.size=k
 bytes:∃i,(∀w,(typeInfo e).run P w=.ok i w)/\i.bytes<=4096
theorem Qhm{T k:Nat}{es:List (List A)}{l rest:List Value}(s:Sim fr ro σ H w)(hk:allK k es)(h:LR ro [] w es.flatten l)(hp:∀v∈l,Qz v):
  Sim fr ro (σ++[some w.heap.size]) (H++[.row T k es]) (w.alloc (.cells (l++rest).toArray T))/\Qh fr ro w ro (w.alloc (.cells (l++rest).toArray T)):=
 ⟨s.allocRow hk h hp,Qh.alloc _ s.roLt s.frLt⟩
theorem YS{k:Nat}:∀{es:List (List A)},allK k es->es.flatten.length=es.length*k
 |[],_=>by simp
 |c::es,⟨h1,h2⟩=>by simp[YS h2,h1,Xm,Nat.add_comm]
theorem Qdw{k:Nat}:∀{es fs:List (List A)},allK k es->allK k fs->allK k (es++fs)
 |[],_,_,h=>h
 |c::es,_,⟨h1,h2⟩,h=>⟨h1,Qdw h2 h⟩
theorem QfD{k:Nat}:∀{es:List (List A)} (n:Nat),allK k es->allK k (es.take n)
 |_,0,_=>trivial
 |[],n+1,_=>trivial
 |c::es,n+1,⟨h1,h2⟩=>⟨h1,QfD n h2⟩
theorem RL.allK{k:Nat}:∀{es:List (List A)} {l:List Value},RL ro σ w k es l->allK k es
 |[],_,_=>trivial
 |c::es,l,⟨l1,l2,h1,h2,h3,h4⟩=>⟨h2,RL.allK h4⟩
theorem RL.app{k:Nat}:∀{n:Nat} {es fs:List (List A)} {l m:List Value},RL ro σ w k es l->n<=es.length->Sw.allK k fs->LR ro σ w fs.flatten m->(∀v∈m,Qz v)->
  RL ro σ w k (es.take n++fs) (Sw.splice l (n*k) m)
 |0,es,fs,l,m,h,hn,hk,hm,hp=>by
  simp_all[Sw.splice,Qad]
 |n+1,[],fs,l,m,h,hn,hk,hm,hp=>by simp at hn
 |n+1,c::es,fs,l,m,⟨l1,l2,h1,h2,h3,h4⟩,hn,hk,hm,hp=>by
  subst h1;have hl1:=h3.1.length;refine⟨l1,Sw.splice l2 (n*k) m,?_,h2,h3,RL.app h4 (by grind) hk hm hp⟩;have e1:(n+1)*k=l1.length+n*k:=by grind
  unfold Sw.splice;rw[e1,Va,show l1.length+n*k+m.length=l1.length+(n*k+m.length)from by omega,X9];simp
theorem Qj9{T T' e e' k need cap:Nat}{t:TypeId}(E:Q4 P T e k)(M:∀w,(underlying T').run P w=.ok (.slice e') w){ad:Option Addr}{n m c:Nat}{ax:Option Addr}
  (f:need=n+m)(h:cap<need)(a:need<=Yk){old new:List Value}
  (s:∀w':World,w'.heap=w.heap->(Builtin.firstCells k m (.slice ax m c)).run P w'=.ok new.toArray w')(u:∀w':World,w'.heap=w.heap->(Builtin.firstCells k n (.slice ad n cap)).run P w'=.ok old.toArray w'):
  ∃(rest:List Value) (d:Nat),(need<=d/\d<=9223372036854775807)/\rest.length=(d-need)*k/\(Builtin.append_ #[T,T'] t #[.slice ad n cap,.slice ax m c]).run P w=
   .ok (.slice (some ⟨w.heap.size,0,none⟩) need d) (({w with drawn:=w.drawn+1}:World).alloc (.cells ((old++new)++rest).toArray e)):=by
 obtain⟨z,O,p⟩:=E.zero;obtain⟨i,N,L⟩:=E.bytes
 let d:=need+w.tape w.drawn (.appendCap need cap e)%(2^63-need)
 refine⟨(Builtin.zeroCells z.cells (d-need)).toList,d,⟨Nat.le_add_right _ _,by
  have:=Nat.mod_lt (w.tape w.drawn (.appendCap need cap e)) (show 0<2^63-need by unfold Yk at a;omega);show need+_%(2^63-need)<=_;omega⟩,by simp[Builtin.zeroCells,p],?_⟩
 have g:¬(need<=cap):=by omega
 have B:¬((need:Int)>IntKind.i64.max/\(False\/i.bytes=0)):=by
  rintro⟨q,_⟩;have:IntKind.i64.max=9223372036854775807:=by decide
  rw[this]at q;unfold Yk at a;omega
 have G:¬(Builtin.nextslicecap need cap*i.bytes>2^48):=by
  have:=QdD need cap h;have y:=Nat.mul_le_mul this L;unfold Yk at a;omega
 generalize hF:Builtin.firstCells=F at s u;unfold Builtin.append_;rw[hF];have r:∀W:World,(choose (.appendCap need cap e)).run P W=.ok (need+W.tape W.drawn (.appendCap need cap e)%(2^63-need)) {W with drawn:=W.drawn+1}:=by
  intro W;simp[choose,Sem.run,Question.forced,Question.cut]
 have l:∀(x:Nat) (W:World),(askRoom x).run P W=.ok () W:=by
  intro x W;unfold askRoom;split<;>rfl
 have j:∀(c:Array Value) (W:World),(newRow e c).run P W=.ok ⟨W.heap.size,0,none⟩ (W.alloc (.cells c e)):=λc W=>rfl;subst f;simp only[not_and,false_or]at B;have y:¬(((n+m:Nat):Int)>IntKind.i64.max/\(False\/i.bytes=0)):=by simpa using B
 simp only[XF,XD,XE,Vk,E.sl,E.size,M,N,O,Result.andThen,Builtin.lenOf,Vl,Xi,if_false,XG,
  Xh,if_true,Vp g,Vp y,Vp G,r,l]
 have H:=u {w with drawn:=w.drawn+1} rfl;have Q:=s {w with drawn:=w.drawn+1} rfl;simp only[H,Q,j];have J:old.toArray++new.toArray++Builtin.zeroCells z.cells (d-(n+m))=((old++new)++(Builtin.zeroCells z.cells (d-(n+m))).toList).toArray:=by
  apply Xu.1;simp
 rw[<- J]
theorem Qgu{T T' e e' k cap:Nat}{t:TypeId}(E:Q4 P T e k)(g:∀w,(underlying T').run P w=.ok (.slice e') w){ad:Option Addr}{n m c:Nat}{ax:Option Addr}
  (d:n+m<=cap){new:List Value}(f:(Builtin.firstCells k m (.slice ax m c)).run P w=.ok new.toArray w):
  (Builtin.append_ #[T,T'] t #[.slice ad n cap,.slice ax m c]).run P w=
   match ad with
   |some a=>(do storeCells (a.add (n*k)) new;pure (Value.slice ad (n+m) cap):Sem Value).run P w
   |none=>.ok (.slice ad (n+m) cap) w:=by
 generalize hF:Builtin.firstCells=F at f;unfold Builtin.append_;rw[hF];simp only[XF,XD,XE,Vk,E.sl,E.size,g,Result.andThen,Builtin.lenOf,Vl,Xi,if_false,XG,
  Xh,if_true,Vq d,f]
 cases ad with
 |none=>rfl
 |some a=>simp only[Vk,Result.andThen,Vl]
theorem Sim.weaken(s:Sim fr ro σ H w){i:Nat}{x x':Blk}(E:H[i]?=some x)(N:x.live=true)(r:∀y,BR ro σ w x y->BR ro σ w x' y)
  (F:∀b c,Hid w x' b c->Hid w x b c:=by exact λ_ _ h=>h.elim):Sim fr ro σ (H.set i x') w:=by
 have a:∀(j:Nat) (v:Blk),(H.set i x')[j]?=some v->(j=i/\v=x')\/(j≠i/\H[j]?=some v):=by
  grind
 have m:∀(j:Nat) (v:Blk),(H.set i x')[j]?=some v->v.live=true->∃e,H[j]?=some e/\e.live=true:=by
  grind
 refine⟨by rw[X3];exact s.len,s.roOk,s.frLt,s.roFr,?_,?_,?_,s.hidTo (· = ·) Q7 (XS _) (by simp) (by simp) λj d y L M O=>.inl ?_⟩
 rotate_left 3
 .grind
 .intro j b v f g n;obtain⟨e,k,l⟩:=m j v g n;exact s.own j b e f k l
 .intro j t b v e f g n z G B;obtain⟨u,k,l⟩:=m j v n G;obtain⟨J,p,q⟩:=m t e z B;exact s.inj j t b u J f g k p l q
 .intro j y v f g;rcases a j v g with⟨rfl,rfl⟩|⟨_,h⟩
  .exact r y (s.blk j y x f E)
  .exact s.blk j y v f h
theorem RL.take{k:Nat}:∀(n:Nat) {es:List (List A)} {l:List Value},RL ro σ w k es l->RL ro σ w k (es.take n) l
 |0,_,_,_=>trivial
 |n+1,[],_,_=>trivial
 |n+1,c::es,l,⟨l1,l2,h1,h2,h3,h4⟩=>⟨l1,l2,h1,h2,h3,RL.take n h4⟩
theorem QaO{c:Call}{T T':TypeId}{x y:Operand}(a:o.op=.call c)(d:c={callee:=.builtin .append,args:= #[x,y],argTypes:= #[T,T']})(ρ:Operand->Value){v:Value}{w':World}
  (h:(Builtin.append_ #[T,T'] o.type #[ρ x,ρ y]).run P w=.ok v w'):(execOp ρ o).run P w=.ok (.value v) w':=by
 simp_all[execOp,resolve,invoke,Go.builtin]
theorem Sim.phantom(s:Sim fr ro σ H w)(t k:Nat):Sim fr ro (σ++[none]) (H++[.row t k []]) w:=by
 have g:=s.len;have f:∀(i b:Nat),(σ++[none])[i]?=some (some b)->i<σ.length:=by
  grind
 refine⟨by simp[g],s.roOk,s.frLt,s.roFr,?_,?_,?_,s.hidTo (· = ·) Q7 (XS _) (by simp) (by simp) λj d y a e h=>.inl ?_⟩
 rotate_left 3
 .grind
 .intro i b z a e h;have q:=f i b a;rw[XL q]at a;rw[XL (by omega)]at e;exact s.own i b z a e h
 .intro i j b z m a e h l x u;have r:=f i b a;have p:=f j b e;rw[XL r]at a;rw[XL p]at e;rw[XL (by omega)]at h l;exact s.inj i j b z m a e h l x u
 .intro i y z a e;have ext:Ext ro σ w ro (σ++[none]) w:=⟨λ_ q=>q,λ_ _=>rfl,λ_ _ q=>q,(by grind)⟩;rcases Nat.lt_trichotomy i σ.length with q|q|q
  .rw[XL q]at a;rw[XL (by omega)]at e;exact(s.blk i y z a e).keep ext (λ_ _ _=>rfl) (λ_ _ _ _=>rfl)
  .subst q;have n:(σ++[none])[σ.length]?=some none:=by simp
   have B:(H++[Blk.row t k []])[σ.length]?=some (.row t k []):=by grind
   rw[n]at a;rw[B]at e;cases a;cases e;rfl
  grind
theorem Sim.kill(s:Sim fr ro σ H w)(i:Nat):Sim fr ro σ (H.set i .dead) w:=by
 have a:∀(j:Nat) (v:Blk),(H.set i .dead)[j]?=some v->v≠ .dead->H[j]?=some v:=by
  grind
 refine⟨by rw[X3];exact s.len,s.roOk,s.frLt,s.roFr,?_,?_,?_,s.hidTo (· = ·) Q7 (XS _) (by simp) (by simp) λj d y r t u=>.inl ⟨j,y,rfl,r,a j y t (Qgj u),id,λ_ q=>q⟩⟩
 .intro j b v f e g;exact s.own j b v f (a j v e (Qbo g)) g
 .intro j m b v k f e g p l h;exact s.inj j m b v k f e (a j v g (Qbo l)) (a m k p (Qbo h)) l h
 .intro j y v f e;by_cases n:v≠ .dead
  .exact s.blk j y v f (a j v e n)
  .obtain rfl:v=.dead:=Classical.not_not.1 n;trivial
theorem grown{c:Call}{T T' e e' k n m cap cx:Nat}{x y:Operand}{es fs:List (List A)}{a:Act}{ad ax:Option Addr}{old new:List Value}(E:Q4 P T e k)(W:∀w,(underlying T').run P w=.ok (.slice e') w)(R:o.op=.call c)
  (V:c={callee:=.builtin .append,args:= #[x,y],argTypes:= #[T,T']})(h1:a.eval x=.slice ad n cap)(L:a.eval y=.slice ax m cx)(s:Sim fr ro σ H w)(q:cap<n+m)(h:n+m<=Yk)
  (i:∀w',w'.heap=w.heap->(Builtin.firstCells k n (.slice ad n cap)).run P w'=.ok old.toArray w')(f:∀w',w'.heap=w.heap->(Builtin.firstCells k m (.slice ax m cx)).run P w'=.ok new.toArray w')
  (p:LR ro [] w es.flatten old)(aa:∀v∈old,Qz v)(j:allK k es)(g:LR ro [] w fs.flatten new)(Y:∀v∈new,Qz v)(r:allK k fs)(M:es.length=n)(u:fs.length=m):
  ∃v w' ro' τ,(execOp a.eval o).run P w=.ok (.value v) w'/\VR ro' (σ++τ) w' (.osl H.length 0 (n+m) k) v/\Sim fr ro' (σ++τ) (H++[.row e k (es++fs)]) w'/\Qh fr ro w ro' w':=by
 obtain⟨d,N,B,z,l⟩:=Qj9 E W rfl q h f i
 let w0:={w with drawn:=w.drawn+1}
 have X:Sim fr ro σ H w0:=s.heap rfl;have O:Qh fr ro w ro w0:=Qh.heap rfl rfl rfl rfl (Nat.le_succ _);have t:LR ro [] w0 (es++fs).flatten (old++new):=by
  rw[List.flatten_append];exact(p.append g).mono (Ext.heap (w:=w) rfl)
 obtain⟨Q,J⟩:=Qhm X (Qdw j r) t (λv hv=>by grind);have hexec:=QaO R V a.eval (by rw[h1,L];exact l);refine⟨_,_,ro,[some w.heap.size],hexec,.inr ⟨w.heap.size,0,N,e,(old++new++d).length,?_,rfl,λ_=>by simp,B,?_,?_⟩,Q,O.trans J⟩
 .rw[<- s.len];simp
 .have:=Ys w0 (.cells ((old++new)++d).toArray e);unfold World.shape?
  grind
 .have F:=p.length;have G:=g.length;rw[YS j]at F;rw[YS r]at G;simp[X2,z,F,G,u];rw[<- Xz, <- Xz]
  grind
theorem Qhk{c:Call}{T T' e e' k i n:Nat}{x y:Operand}{ya:A}{es fs gs:List (List A)}(E:Q4 P T e k)(hd:∀w,(underlying T').run P w=.ok (.slice e') w)(J:o.op=.call c)
  (R:c={callee:=.builtin .append,args:= #[x,y],argTypes:= #[T,T']})(hx:opA env x=.osl i 0 n k)(Y:H[i]?=some (.row e k es))(hn:n<=es.length)(z:opA env y=ya)(hs:Src P H ya k fs)(g:n+fs.length<=Yk)
  (hg:es.take n++fs=gs):OpH P o env H (.osl H.length 0 (n+fs.length) k) (H.set i .dead++[.row e k gs]):=by
 intro fr u σ N a w r;subst hg;have q:=Qo r x;rw[hx]at q;have h2:=Qo r y;rw[z]at h2;obtain⟨⟨ay,cy,e1⟩,q2,l,O,q4,X⟩:=hs fr u σ w _ r.sim h2;rw[e1]at O;have j:i<H.length:=(by grind);have ah:(H.set i .dead).length=H.length:=X3;obtain⟨s,hσ⟩:∃s,σ[i]?=some s:=⟨_,XJ (by rw[r.sim.len];exact j)⟩;rcases q with⟨rfl,q⟩|⟨b,p,cap,t',mm,M,q,V,h5,B,h7⟩
 ·
  by_cases hm:fs.length=0
  .have h:fs=[]:=(by grind);subst h;refine⟨.slice none 0 0,w,u,[none],?_,.inl ⟨rfl,rfl⟩,(r.sim.kill i).phantom e k,Qh.refl _ _ _⟩;refine QaO J R _ ?_;rw[q,e1];have:=Qgu (t:=o.type) E hd (ad:=none) (n:=0) (m:=0) (cap:=0) (c:=cy) (ax:=ay) (XS 0) (O w rfl);omega
  .have:=grown (es:=[]) (old:=[]) E hd J R q e1 (r.sim.kill i) (by omega) g (λ_ _=>QaE) O rfl (by simp) trivial q4 X q2 rfl rfl
   grind
 .have F:=r.sim.blk i _ _ M Y;obtain⟨L,Q,W⟩:=F;have ab:(es.take n).length=n:=by simp;omega
  obtain⟨old,o1,o2,o3⟩:∃old:List Value,(∀w':World,w'.heap=w.heap->(Builtin.firstCells k n (.slice (some ⟨b,p,none⟩) n cap)).run P w'=.ok old.toArray w')/\LR u [] w (es.take n).flatten old/\ ∀v∈old,Qz v:=by
   have G:Src P H (.osl i 0 n k) k (es.take n):=Src.osl Y (by simp) (by omega);obtain⟨_,_,l',z1,z2,z3⟩:=G fr u σ w (.slice (some ⟨b,p,none⟩) n cap) r.sim (.inr ⟨b,p,cap,t',mm,M,rfl,V,h5,B,h7⟩)
   grind
  by_cases f:n+fs.length<=cap
  .have ae:=Qgu (t:=o.type) E hd (ad:=some ⟨b,p,none⟩) (n:=n) (m:=fs.length) (cap:=cap) (c:=cy) (ax:=ay) f (O w rfl);have ag:l.length=fs.length*k:=by rw[q4.length,YS q2]
   by_cases hm:fs.length=0
   .have h:fs=[]:=(by grind);subst h;have el:l=[]:=(by simp_all);subst el;have sw:=(r.sim.weaken (x':=.row e k (es.take n)) Y rfl (by
     intro y z;cases y with
     |none=>simp only[BR]at z⊢;grind
     |some y=>obtain⟨L,Q,W⟩:=z;exact⟨L,Q,W.take n⟩))
    have sm:=sw.moved (i:=i) (Xa j) M;rw[List.set_set]at sm;refine⟨.slice (some ⟨b,p,none⟩) n cap,w,u,[some b],?_,.inr ⟨b,p,cap,t',mm,?_,by simp,V,by omega,B,h7⟩,by grind,Qh.refl _ _ _⟩
    .refine QaO J R _ ?_
     simp_all[storeCells]
    .rw[<- r.sim.len];simp
   .obtain rfl:p=0*k:=V (by omega);have ac:(n+fs.length)*k<=L.length:=by
     have:w.shape? b=some (e,L.length):=by unfold World.shape?;rw[Q];simp
     rw[this]at B;cases B;exact XU (XB k f) (by grind)
    rw[Xz]at ac;have af:=YD (P:=P) (vs:=l) (n*k) 0 Q (by omega) X;have d:=r.sim.set (x':=.row e k (es.take n++fs)) (obj:=.cells (splice L (n*k) l).toArray e (0,0)) M Y rfl
     (λy z=>Qay Q (Yy (by omega)) y z)
     (λex aa=>⟨_,aa,(W.app hn q2 q4 X).mono ex.nil⟩)
    have sm:=d.1.moved (i:=i) (Xa j) M;rw[List.set_set]at sm;refine⟨.slice (some ⟨b,0*k,none⟩) (n+fs.length) cap,_,u,[some b],?_,.inr ⟨b,0*k,cap,t',mm,?_,rfl,V,⟨f,h5.2⟩,?_,h7⟩,sm,d.2⟩
    .refine QaO J R _ ?_
     simp_all[QaH]
    .rw[<- r.sim.len];simp
    .exact d.2.shape _ _ B
  .have:=grown (es:=es.take n) (old:=old) (fs:=fs) E hd J R q e1 (r.sim.kill i) (by omega) g o1 O o2 o3 (QfD n W.allK) q4 X q2 ab rfl
   grind
end
section
variable {P:Program} {o:Oper} {env:Env} {H:Qd}
theorem OpC.fn{c:Call}{f:FuncId}{xs:List Operand}{g:Array TypeId}{args:List A}(d:∀(a:Array Value) (w:World),(callFunc f a).run P w=.ok (.enter f a) w)(j:o.op=.call c)
  (k:c={callee:=.value (.func f),args:=xs.toArray,argTypes:=g})(h:xs.map (opA env)=args):OpC P o env H f args:=by
 intro l i σ N a w r;refine⟨xs.map a.eval,?_,h▸Qa7 r xs⟩;have e:a.eval (.func f)=.func (.func f) #[] #[]:=rfl
 grind[execOp,resolve,Deferred.ofValue,invoke]
theorem Qge{c:Call}{f:FuncId}{x:Operand}{xs:List Operand}{j:Array TypeId}{args g h:List A}(d:∀(a:Array Value) (w:World),(callFunc f a).run P w=.ok (.enter f a) w)(s:o.op=.call c)
  (u:c={callee:=.value x,args:=xs.toArray,argTypes:=j})(k:opA env x=.fn (.func f) g h)(n:g++(xs.map (opA env)++h)=args):OpC P o env H f args:=by
 intro q t σ N a w r;have e:=Qo r x;rw[k]at e;obtain⟨l,m,e,i,p⟩:=e;refine⟨l++(xs.map a.eval++m),?_,n▸i.append ((Qa7 r xs).append p)⟩
 grind[execOp,resolve,Deferred.ofValue,invoke]
def QbN(ρ:Nat->Nat)(env:Env):Env->Prop
 |[]=>True
 |(s,a)::r=>lk env s=YF ρ a/\QbN ρ env r
theorem QbN.ok{ro:Nat->Prop}{σ σ':Sig}{w:World}{ρ:Nat->Nat}(h:∀i,σ[ρ i]?=σ'[i]?){t:Array Value}(r:∀s,VR ro σ w (lk env s) (t.getD s undef)):
  ∀{f:Env},QbN ρ env f->∀s,VR ro σ' w (lk f s) (t.getD s undef)
 |[],_,s=>trivial
 |(d,a)::e,⟨h1,h2⟩,s=>by
  simp only[lk];by_cases q:s=d
  .grind[Nat.beq_refl,Qci]
  .have:Nat.beq s d=false:=by
    simp_all[VI]
   rw[this];exact QbN.ok h r h2 s
theorem Sim.sub{fr ro:Nat->Prop}{σ:Sig}{w:World}{π:List Nat}{H':Qd}(s:Sim fr ro σ H w)(t:π.map (λp=>H[p]?)=(H'.map (QU (rho π H.length))).map some)(hπ:π.Nodup):
  Sim fr ro (YA σ π) H' w/\ ∀j:Nat,σ[rho π H.length j]?=(YA σ π)[j]? :=by
 have L:∀p∈π,p<H.length:=λp q=>Jb t q;have hσl:=s.len;have G:∀(j p:Nat),π[j]?=some p->H[p]?=(H'[j]?).map (QU (rho π H.length)):=by
  intro j p e;have:=congrArg (λl=>l[j]?) t
  grind
 have k:π.length=H'.length:=by simpa using congrArg List.length t
 have hσc:∀j:Nat,σ[rho π H.length j]?=(YA σ π)[j]? :=by
  intro j;have:=QdJ (τ:=[]) hσl L j
  grind
 have hπj:∀(j b:Nat),(YA σ π)[j]?=some (some b)->∃p,π[j]?=some p/\σ[p]?=some (some b):=by
  intro j b e;simp only[YA,Xo]at e
  grind
 have hπi:∀(i j p:Nat),π[i]?=some p->π[j]?=some p->i=j:=by
  intro i j p f a;have r:i<π.length:=(by grind);have e:j<π.length:=(XK.1 a).1;rw[XJ r]at f;rw[XJ e]at a;have h:=(XY f).trans (XY a).symm;rcases Nat.lt_trichotomy i j with q|q|q
  .exact(VA.1 hπ i j r e q h).elim
  .exact q
  .exact(VA.1 hπ j i e r q h.symm).elim
 refine⟨⟨by simp[YA,k],s.roOk,s.frLt,s.roFr,?_,?_,?_,s.hidTo (λj p=>π[j]?=some p) hπi (XS _) (λ_ _ _ _ _ _ _ q=>q) (λ_ _ _ _ _ _ _ q=>q) λj d y M O Q=>.inl ?_⟩,hσc⟩
 rotate_left 3
 .obtain⟨p,f,g⟩:=hπj j d M;exact⟨p,QU (rho π H.length) y,f,g,by grind,by rw[QH];exact id,λc q=>(Qah _ _ _ _ _).2 q⟩
 .intro j b x n u E;obtain⟨p,f,g⟩:=hπj j b n;have m:H[p]?=some (QU (rho π H.length) x):=by grind
  exact s.own p b _ g m (by rw[QH];exact E)
 .intro i j b x y n u E P J N;obtain⟨p,f,g⟩:=hπj i b n;obtain⟨F,a,B⟩:=hπj j b u;have m:H[p]?=some (QU (rho π H.length) x):=by grind
  have z:H[F]?=some (QU (rho π H.length) y):=by grind
  have:=s.inj p F b _ _ g B m z (by rw[QH];exact J) (by rw[QH];exact N)
  grind
 .intro j y x n u;have e:j<π.length:=by
   grind
  have f:π[j]?=some π[j]:=XJ e;have m:H[π[j]]?=some (QU (rho π H.length) x):=by grind
  have g:σ[π[j]]?=some y:=by
   grind[rho]
  exact(Qgl hσc).1 (s.blk _ y _ g m)
theorem Qnf{f:Nat}{d:Env}{H':Qd}(π:List Nat)(e:π.take f=List.range f)(g:π.map (λp=>H[p]?)=(H'.map (QU (rho π H.length))).map some)(hπ:π.Nodup)
  (hE:QbN (rho π H.length) env d):Le f env H d H':=by
 intro l h σ N a w r;obtain⟨i,hσ⟩:=r.sim.sub g hπ;refine⟨h,YA σ π,⟨i,QbN.ok hσ r.env hE,r.size,r.defers⟩,λ_ q=>q,?_⟩;have j:=r.sim.len;have k:∀p∈π,p<H.length:=λp q=>Jb g q;unfold YA;rw[<- List.map_take,e];apply List.ext_getElem?
 grind
theorem Le.phantom{f s k t:Nat}(h:f<=H.length)(g:lk env s=.nils):Le f env H (up env s (.osl H.length 0 0 k)) (H++[.row t k []]):=by
 intro i e σ N a w r;refine⟨e,σ++[none],⟨r.sim.phantom t k,?_,r.size,r.defers⟩,λ_ q=>q,QM (by rw[r.sim.len];exact h)⟩;have ext:Ext e σ w e (σ++[none]) w:=⟨λ_ q=>q,λ_ _=>rfl,λ_ _ q=>q,(by grind)⟩;intro d;simp only[lk];by_cases q:d=s
 .subst q;rw[VB];have:=r.env d;rw[g]at this;exact .inl ⟨rfl,this⟩
 .have:Nat.beq d s=false:=by
   simp_all[VI]
  rw[this];exact(r.env d).mono ext
theorem Qmh{e s k:Nat}(f:lk env s=.nils):Le e env H (up env s (.rsl k [])) H:=by
 intro h g σ N a w r;refine⟨g,σ,⟨r.sim,?_,r.size,r.defers⟩,λ_ q=>q,rfl⟩;intro d;simp only[lk];by_cases q:d=s
 .subst q;rw[VB];have:=r.env d;rw[f]at this;exact⟨none,0,this,XS _,.inl rfl⟩
 .have:Nat.beq d s=false:=by
   simp_all[VI]
  rw[this];exact r.env d
mutual
def Q6:A->Bool
 |.bool _=>true
 |.int _ _=>true
 |.str _=>true
 |.tup vs=>QdK vs
 |_=>false
def QdK:List A->Bool
 |[]=>true
 |a::r=>Q6 a&&QdK r
end
mutual
theorem VR.scalar{ro ro':Nat->Prop}{σ σ':Sig}{w w':World}:∀{a:A} {v:Value},Q6 a=true->VR ro σ w a v->VR ro' σ' w' a v
 |.bool _,_,_,h=>h
 |.int _ _,_,_,h=>h
 |.str _,_,_,h=>h
 |.tup vs,v,hs,h=>by
  simp only[VR,Q6]at h hs⊢;obtain⟨l,h1,h2⟩:=h;exact⟨l,h1,LR.scalar hs h2⟩
 |.any,_,hs,_=>by simp[Q6]at hs
 |.nilp,_,hs,_=>by simp[Q6]at hs
 |.ptr _ _,_,hs,_=>by simp[Q6]at hs
 |.rp _,_,hs,_=>by simp[Q6]at hs
 |.nils,_,hs,_=>by simp[Q6]at hs
 |.rsl _ _,_,hs,_=>by simp[Q6]at hs
 |.osl _ _ _ _,_,hs,_=>by simp[Q6]at hs
 |.agg _,_,hs,_=>by simp[Q6]at hs
 |.fn _ _ _,_,hs,_=>by simp[Q6]at hs
 |.nilf,_,hs,_=>by simp[Q6]at hs
 |.iface _ _,_,hs,_=>by simp[Q6]at hs
 |.nilif,_,hs,_=>by simp[Q6]at hs
 |.map _,_,hs,_=>by simp[Q6]at hs
 |.nilm,_,hs,_=>by simp[Q6]at hs
theorem LR.scalar{ro ro':Nat->Prop}{σ σ':Sig}{w w':World}:∀{az:List A} {l:List Value},QdK az=true->LR ro σ w az l->LR ro' σ' w' az l
 |[],_,_,h=>h
 |a::r,l,hs,h=>by
  simp only[LR,QdK,XV]at h hs⊢;obtain⟨v,l',h1,h2,h3⟩:=h;exact⟨v,l',h1,VR.scalar hs.1 h2,LR.scalar hs.2 h3⟩
end
def Look(H:Qd):A->A->Prop:=λa a'=>(a'=a/\Yo a=true)\/ ∃i n k t es,a=.osl i 0 n k/\H[i]?=some (.row t k es)/\es.length=n/\a'=.rsl k es
def Qa9(H:Qd):List A->List A->Prop
 |[],[]=>True
 |a::az,b::bs=>Look H a b/\Qa9 H az bs
 |_,_=>False
theorem QcF{h0 N:Nat}{Q:QE}{all:Array Oper}{l:List Oper}{d:Nat}{f:FuncId}{args B:List A}{Qr:A->Qd->Prop}(aa:OpC P o env H f args)(hv:Qa9 H args B)(hC:C P f B [] Qr)
  (ad:∀r H1,Qr r H1->Q6 r=true)(k:∀r H1,Qr r H1->WO P h0 N all l (up env d r) H Q)(hg:QG all o env true:=by exact rfl)(hd:o.dst=some d:=by exact rfl)(hN:Nat.blt d N=true:=by exact rfl):WO P h0 N all (o::l) env H Q:=by
 intro rd fr ro σ a w r hrd;obtain⟨L,h1,h2⟩:=aa fr ro σ N a w r;refine Qe7 (YI hg r) h1 ?_
 let roc:Nat->Prop:=λb=>ro b\/ ∃(i:Nat) (x:Blk),σ[i]?=some (some b)/\H[i]?=some x/\x.live=true
 let frc:Nat->Prop:=λb=>fr b\/ ∃(i:Nat) (x:Blk) (d:Nat),σ[i]?=some (some d)/\H[i]?=some x/\Hid w x d b
 have O:Sim frc roc [] [] w:=by
  refine⟨rfl,r.sim.roOk.to (λ_ q=>.inl q) (λ_ _=>rfl) ?_,?_,?_,by simp,by simp,by simp,by simp⟩
  .rintro b (q|⟨i,x,u,z,E⟩)
   .exact r.sim.roLt b q
   .exact(r.sim.own i b x u z E).1
  .rintro b (q|⟨i,x,d,u,z,E⟩)
   .exact r.sim.frLt b q
   .exact(r.sim.hid i d x b u z E).lt
  .rintro b (q|⟨i,x,u,z,E⟩) (q'|⟨i',x',d',Y,R,V⟩)
   .exact r.sim.roFr b q q'
   .exact(r.sim.hid i' d' x' b Y R V).ro q
   .exact(r.sim.own i b x u z E).2.2 q'
   .exact(r.sim.hid i' d' x' b Y R V).ne i b x u z E rfl
 have G:∀(az F:List A) (l:List Value),Qa9 H az F->LR ro σ w az l->LR roc [] w F l:=by
  intro az
  induction az with
  |nil=>
   intro F l J h;cases F with
   |nil=>exact h
   |cons b F=>exact J.elim
  |cons x az ih=>
   intro F l J h;cases F with
   |nil=>exact J.elim
   |cons y F=>
    obtain⟨hx,J⟩:=J;obtain⟨v,l',rfl,hv,h⟩:=h;refine⟨v,l',rfl,?_,ih F l' J h⟩;rcases hx with⟨rfl,hx⟩|⟨i,n,k,t,es,rfl,hH,hn,rfl⟩
    .exact(hv.data (σ':=[]) hx).mono ⟨λ_ q=>.inl q,λ_ _=>rfl,λ_ _ q=>q,λ_ _ q=>q⟩
    .subst hn;rcases hv with⟨h0,h⟩|⟨b,p,W,t',m,h1,h,h2,⟨h3,af⟩,h4,h5⟩
     .have:es=[]:=(by grind);subst this;exact⟨none,0,h,XS _,.inl rfl⟩
     .refine⟨_,W,h,h3,?_⟩;by_cases he:es=[]
      .exact .inl he
      .right;have hc:0<W:=Vd (by grind) h3;obtain rfl:=h2 hc;obtain⟨l,u,z⟩:=r.sim.blk i _ _ h1 hH;refine⟨b,0,by simp,.inr ⟨i,_,h1,hH,rfl⟩,?_⟩;have:=YL (pre:=[]) (by simpa using u) z;exact this.keep ⟨λ_ q=>.inl q,λ_ _=>rfl,λ_ _ q=>q,λ_ _ q=>q⟩ rfl
 refine Calls.mono (hC frc roc [] L w O (G _ _ _ hv h2)) ?_;rintro e M ⟨v,rr,H1,ae,τ,rfl,hq,sc,ac,ev⟩;have T:∀(i b:Nat) (x:Blk),σ[i]?=some (some b)->H[i]?=some x->x.live=true->M.heap[b]?=w.heap[b]? :=λi b x u z E=>ev.keepRo b (by grind);have g:Qh fr ro w ro M:=⟨λ_ q=>q,λb q=>ev.keepRo b (.inl q),λb q=>ev.keepFr b (.inl q),ev.size,ev.shape,ev.os,ev.tape,ev.output,ev.drawn⟩;have X:Sim fr ro σ H M:=by
  refine⟨r.sim.len,r.sim.roOk.to (λ_ q=>q) g.keepRo (λb q=>Vd (r.sim.roLt b q) ev.size),λb q=>Vd (r.sim.frLt b q) ev.size,r.sim.roFr,?_,r.sim.inj,?_,r.sim.hidTo (· = ·) Q7 ev.size (by simp) (by simp) λj d y g1 g2 g3=>.inl ⟨j,y,rfl,g1,g2,id,λc q=>r.sim.hidKeep g1 g2 (T j d y g1 g2) g.keepRo q⟩⟩
  .intro i b x u z E;obtain⟨p1,p2,p3⟩:=r.sim.own i b x u z E
   grind
  .intro i y x u z;refine(r.sim.blk i y x u z).keep (g.ext0 σ) ?_ ?_
   .grind
   .rintro b c rfl J;exact ev.keepFr c (by grind)
 have hk:=k rr H1 hq;have ab:d<N:=by simp_all
 simp only[hd,Act.put];have r':Rel fr ro σ H (up env d rr) N {a with tmps:=a.tmps.setIfInBounds d v} M:=
  ⟨X,VR.up (fr:=fr) (λs=>(r.env s).mono (g.ext0 σ)) (by rw[r.size];exact ab) (ac.scalar (ad _ _ hq)),by simpa using r.size,r.defers.keep g⟩
 exact⟨_,rfl,Yn (λe a w q=>q.step g rfl) _ _ _ (hk rd fr ro σ _ M r' (hrd.to g λ_ q=>q))⟩
end
section
variable {P:Program} {o:Oper} {env:Env} {H:Qd}
theorem Qfq{α:Type}:∀(vs:List α) (a i:Nat) (l:List α),a+i+vs.length<=l.length->
  (vs.zipIdx i).foldl (λcs x=>cs.setIfInBounds (a+x.2) x.1) l.toArray=(splice l (a+i) vs).toArray
 |[],a,i,l,h=>by simp[splice]
 |v::vs,a,i,l,h=>by
  simp[XZ]at h;rw[List.zipIdx_cons,XC];have e1:l.toArray.setIfInBounds (a+i) v=(splice l (a+i) [v]).toArray:=by
   have:l.toArray.setIfInBounds (a+i) v=(l.set (a+i) v).toArray:=by simp
   rw[this];rw[List.set_eq_take_append_cons_drop,Vq (by omega)];simp[splice]
  rw[e1,Qfq vs a (i+1) _ (by grind)];have d:(l.take (a+i)).length=a+i:=by simp;omega
  unfold splice;have e:a+(i+1)=(l.take (a+i)).length+1:=by omega
  have f:(l.take (a+i)++([v]++l.drop (a+i+[v].length))).take ((l.take (a+i)).length+1)=l.take (a+i)++[v]:=by
   grind
  have g:(l.take (a+i)++([v]++l.drop (a+i+[v].length))).drop ((l.take (a+i)).length+1+vs.length)=l.drop (a+i+(v::vs).length):=by
   rw[show(l.take (a+i)).length+1+vs.length=(l.take (a+i)).length+(1+vs.length)from by omega,X9];simp[Nat.add_comm 1];omega
  simp_all
theorem Qfs{a:Nat->Option (Nat×Nat)}{l:List Value}{i d size:Nat}{v:Value}{m:List Value}{rest:List (Nat×Value)}(f:a i=some (d,size))(e:v.cells=m.toArray)(g:m.length=size)
  (h:d+size<=l.length):Instr.fill a l.toArray ((i,v)::rest)=Instr.fill a (splice l d m).toArray rest:=by
 rw[Instr.fill];simp[f];rw[Vp (by grind),e]
 simp_all[Qfq]
def QaN:Nat->List Operand->List (Nat×Operand)
 |_,[]=>[]
 |i,x::xs=>(i,x)::QaN (i+1) xs
def Yr(env:Env)(xs:List Operand):List (List A):=xs.map λx=>Yb (opA env x)
theorem Qeq{fr ro:Nat->Prop}{σ:Sig}{N:Nat}{a:Act}{w:World}(r:Rel fr ro σ H env N a w){k:Nat}:∀(xs:List Operand) (j:Nat) (pre rest:List Value),pre.length=j*k->rest.length=xs.length*k->
  (xs.all λx=>Yl (opA env x))=true->allK k (Yr env xs)->
  ∃l,Instr.fill (λi=>some (i*k,k)) (pre++rest).toArray ((QaN j xs).map λp=>(p.1,a.eval p.2))=some (pre++l).toArray/\LR ro σ w (Yr env xs).flatten l
 |[],j,pre,rest,h1,h2,_,_=>by
  have:rest=[]:=(by simp_all);subst this;exact⟨[],rfl,rfl⟩
 |x::xs,j,pre,rest,h1,h2,h3,h4=>by
  simp only[List.all_cons,XV]at h3;obtain⟨hk1,hk2⟩:=h4;obtain⟨m,q1,q2⟩:=(Qo r x).cells h3.1;have hm:m.length=k:=by rw[q2.length];exact hk1
  simp[XZ,Xm]at h2;simp[QaN,Vh];rw[Qfs rfl q1 hm (by simp;omega)];have e:splice (pre++rest) (j*k) m=(pre++m)++rest.drop k:=by
   unfold splice
   grind[List.drop_length_add_append]
  rw[e];obtain⟨l,d,f⟩:=Qeq r xs (j+1) (pre++m) (rest.drop k) (by grind) (by simp;omega) h3.2 hk2;refine⟨m++l,?_,?_⟩
  .rw[d];simp
  .exact q2.append f
theorem Qbx{fr ro:Nat->Prop}{σ:Sig}{N:Nat}{a:Act}{w:World}(r:Rel fr ro σ H env N a w){T e k n:Nat}{xs:List Operand}(E:Q4 P T e k)(t:xs.length=n)(y:Nat.ble (n*k) 16777216=true)
  (m:(xs.all λx=>Yl (opA env x))=true)(g:allK k (Yr env xs)):
  ∃l,(Instr.buildSlice T n (((QaN 0 xs).map λp=>(p.1,a.eval p.2)).toArray)).run P w=.ok (.slice (some ⟨w.heap.size,0,none⟩) n n) (w.alloc (.cells l.toArray e))/\LR ro σ w (Yr env xs).flatten l:=by
 obtain⟨z,u,q⟩:=E.zero;have j:n*k<=16777216:=by simp_all
 have s:∀(c:Array Value) (W:World),(newRow e c).run P W=.ok ⟨W.heap.size,0,none⟩ (W.alloc (.cells c e)):=λc W=>rfl;unfold Instr.buildSlice;by_cases h:n*k=0
 .obtain⟨l,f,d⟩:=Qeq r (k:=k) xs 0 [] [] (by simp) (by grind) m g;refine⟨l,?_,d⟩;simp only[Vk,E.sl,Result.andThen,E.size,h]
  simp_all[Array.range]
 .obtain⟨l,f,d⟩:=Qeq r (k:=k) xs 0 [] ((Array.range (n*k)).map (λi=>z.cells[i%z.cells.size]!)).toList (by simp) (by rw[t];simp) m g;refine⟨l,?_,d⟩;simp only[Vk,E.sl,Result.andThen,E.size,Vp h,XG,u];simp only[Vf]at f;rw[Array.toArray_toList]at f
  simp_all
theorem Qbp{T n:Nat}{xs:List Operand}(a:o.op=.buildSlice T n (QaN 0 xs).toArray)(ρ:Operand->Value){v:Value}{w w':World}
  (h:(Instr.buildSlice T n (((QaN 0 xs).map λp=>(p.1,ρ p.2)).toArray)).run P w=.ok v w'):(execOp ρ o).run P w=.ok (.value v) w':=by
 grind[execOp,Sem.run_bind,Result.andThen,Sem.run_pure]
theorem OpH.lit{T e k n:Nat}{xs:List Operand}{es:List (List A)}(E:Q4 P T e k)(u:o.op=.buildSlice T n (QaN 0 xs).toArray)(p:xs.length=n)(j:Nat.ble (n*(k+1)) 16777216=true)
  (y:(xs.all λx=>Yl (opA env x))=true)(h:Yr env xs=es)(g:allK k es)(z:es.flatten.all Yq=true)(t:Yv es.flatten=true):
  OpH P o env H (.osl H.length 0 n k) (H++[.row e k es]):=by
 intro G q σ N a w r;subst h;have f:=XQ j;rw[Nat.mul_add]at f;obtain⟨l,B,d⟩:=Qbx r E p (XR (by omega)) y g;have i:LR q [] w (Yr env xs).flatten l:=d.data t;obtain⟨s,m⟩:=Qhm r.sim g i (d.plain z);rw[Ve]at s m;have F:l.length=n*k:=by rw[d.length,YS g];simp[Yr,p]
 refine⟨_,_,q,[some w.heap.size],Qbp u a.eval B,.inr ⟨w.heap.size,0,n,e,l.length,?_,rfl,λ_=>by simp,(by omega),?_,by grind⟩,s,m⟩
 .rw[<- r.sim.len];simp
 .unfold World.shape?;rw[Ys];simp
theorem Jo{n:Int}{y:Nat}{c:BoundsCode}{w:World}(a:0<=n)(d:n<=y):(Instr.sliceBound (.int .i64 n) y c).run P w=.ok n.toNat w:=by
 simp_all[Instr.sliceBound,asIntOf]
theorem QfP{T e:Nat}{k:Nat}{w:World}(E1:∀w,(underlying T).run P w=.ok (.slice e) w)(E2:∀w,(sizeOf e).run P w=.ok k w){ad:Option Addr}{n cap:Nat}{lo hi:Option Value}{l h:Nat}(f:n<=cap)
  (d:lo=none/\l=0\/ ∃z:Int,lo=some (.int .i64 z)/\0<=z/\z.toNat=l)(a:hi=none/\h=n\/ ∃z:Int,hi=some (.int .i64 z)/\0<=z/\z.toNat=h)(i:l<=h)(m:h<=n):
  (Instr.sliceAt T (.slice ad n cap) lo hi none).run P w=.ok (.slice (if cap=l then ad else ad.map (·.add (l*k))) (h-l) (cap-l)) w:=by
 have j:(Instr.sliceBounds true n cap lo hi none).run P w=.ok (l,h,cap) w:=by
  rcases d with⟨rfl,rfl⟩|⟨z,rfl,g,rfl⟩<;>rcases a with⟨rfl,rfl⟩|⟨y,rfl,y0,rfl⟩
  .rfl
  .grind[Instr.sliceBounds,Sem.run_bind,Sem.run_pure,Result.andThen,Jo]
  .grind[Instr.sliceBounds,Sem.run_bind,Sem.run_pure,Result.andThen,Jo]
  .simp[Instr.sliceBounds,Vk,Vl,Result.andThen,Jo y0 (show y<=cap by omega),Jo g (show z<=y.toNat by omega)]
 simp_all[Instr.sliceAt,Instr.slice]
theorem QaX{fr ro:Nat->Prop}{σ:Sig}{N:Nat}{a:Act}{w:World}(r:Rel fr ro σ H env N a w){x:Option Operand}{l d:Nat}(h:x=none/\l=d\/ ∃y,∃z:Int,x=some y/\opA env y=.int .i64 z/\0<=z/\z.toNat=l):
  x.map a.eval=none/\l=d\/ ∃z:Int,x.map a.eval=some (.int .i64 z)/\0<=z/\z.toNat=l:=by
 rcases h with⟨rfl,rfl⟩|⟨y,z,rfl,f,e,g⟩
 .simp
 grind[QP]
theorem Qle{T e k:Nat}{x:Operand}{lo hi:Option Operand}{es f:List (List A)}{l h:Nat}(E1:∀w,(underlying T).run P w=.ok (.slice e) w)(E2:∀w,(sizeOf e).run P w=.ok k w)(E:o.op=.slice T x lo hi none)
  (J:opA env x=.rsl k es)(q:lo=none/\l=0\/ ∃y,∃z:Int,lo=some y/\opA env y=.int .i64 z/\0<=z/\z.toNat=l)
  (n:hi=none/\h=es.length\/ ∃y,∃z:Int,hi=some y/\opA env y=.int .i64 z/\0<=z/\z.toNat=h)(p:l<=h)(B:h<=es.length)(m:(es.take h).drop l=f):OpV P o env H (.rsl k f):=by
 intro M O σ N a w r;subst m;have j:=Qo r x;rw[J]at j;obtain⟨ad,d,j,t,G⟩:=j;have i:=QfP (w:=w) E1 E2 (ad:=ad) t (QaX r q) (QaX r n) p B;have g:((es.take h).drop l).length=h-l:=by simp;omega
 refine⟨_,by simp[execOp,E,j,Vk,i,Xk];rfl,(⟨_,d-l,by rw[g],by omega,?_⟩)⟩;rcases G with rfl|⟨b,s,rfl,u,L⟩
 .simp
 .by_cases F:d=l
  .grind
  .right;exact⟨b,s+l*k,by rw[Vp F];simp[QaH],u,((L.take h).drop l)⟩
theorem Qlf{T e k i s n:Nat}{x:Operand}{lo hi:Option Operand}{l h:Nat}(E1:∀w,(underlying T).run P w=.ok (.slice e) w)(E2:∀w,(sizeOf e).run P w=.ok k w)(E:o.op=.slice T x lo hi none)
  (M:opA env x=.osl i s n k)(u:lo=none/\l=0\/ ∃y,∃z:Int,lo=some y/\opA env y=.int .i64 z/\0<=z/\z.toNat=l)
  (g:hi=none/\h=n\/ ∃y,∃z:Int,hi=some y/\opA env y=.int .i64 z/\0<=z/\z.toNat=h)(j:l<=h)(B:h<=n):OpV P o env H (.osl i (s+l) (h-l) k):=by
 intro V X σ N a w r;have f:=Qo r x;rw[M]at f;rcases f with⟨rfl,f⟩|⟨b,p,t,G,m,f,J,W,⟨L,Q⟩,F,R⟩
 .have d:=QfP (P:=P) (w:=w) E1 E2 (ad:=none) (XS 0) (QaX r u) (QaX r g) j B;refine⟨_,by simp only[execOp,E,f,Vk,d,Xk];rfl,?_⟩;left
  grind
 .have d:=QfP (w:=w) E1 E2 (ad:=some ⟨b,p,none⟩) L (QaX r u) (QaX r g) j B;refine⟨_,by simp only[execOp,E,J,Vk,d,Xk];rfl,?_⟩;right;by_cases O:t=l
  .refine⟨b,p,0,G,m,f,by grind,λq=>by omega,by omega,F,?_⟩
   grind
  .refine⟨b,p+l*k,t-l,G,m,f,by rw[Vp O];simp[QaH],λq=>by grind,by omega,F,?_⟩
   grind
theorem OpV.max{c:Call}{x y:Operand}{k:IntKind}{m n:Int}(i:o.op=.call c)(f:c={callee:=.builtin .max,args:= #[x,y],argTypes:=c.argTypes})(l:opA env x=.int k m)(h:opA env y=.int k n):
  OpV P o env H (.int k (if m<n then n else m)):=by
 intro q p σ N a w r;have j:=QP r l;have g:=QP r h;refine⟨_,?_,rfl⟩;generalize a.eval=ρ at*;have e:c.callee=.builtin .max:=by rw[f]
 have d:c.args= #[x,y]:=by rw[f]
 simp only[execOp,i,resolve,e,d,invoke,Vk,Result.andThen];simp[Builtin.max_,Builtin.max2,j,g,go_sem]
theorem OpV.min{c:Call}{x y:Operand}{k:IntKind}{m n:Int}(i:o.op=.call c)(f:c={callee:=.builtin .min,args:= #[x,y],argTypes:=c.argTypes})(l:opA env x=.int k m)(h:opA env y=.int k n):
  OpV P o env H (.int k (if n<m then n else m)):=by
 intro q p σ N a w r;have j:=QP r l;have g:=QP r h;refine⟨_,?_,rfl⟩;generalize a.eval=ρ at*;have e:c.callee=.builtin .min:=by rw[f]
 have d:c.args= #[x,y]:=by rw[f]
 simp only[execOp,i,resolve,e,d,invoke,Result.andThen];simp[Builtin.min_,Builtin.min2,j,g,go_sem]
end
section
variable {P:Program} {h0 N:Nat} {env:Env} {H:Qd} {Q:QE} {c c':Code}
def CutP(h0:Nat)(Eb:Env)(Hb:Qd)(Q:QE):QE
 |.normal,env,H=>Le h0 env H Eb Hb
 |.exit id,env,H=>Q (.exit id) env H
 |.ret,env,H=>Q .ret env H
theorem TC.cut(Eb:Env)(Hb:Qd)(h:TC P h0 N c env H (CutP h0 Eb Hb Q))(k:∀env H,Le h0 env H Eb Hb->Q .normal env H):TC P h0 N c env H Q:=
 h.mono λx env' H' q=>by
  cases x with
  |normal=>exact k _ _ q
  |exit id=>exact q
  |ret=>exact q
theorem seqN(h:TC P h0 N c env H Q):Seq P h0 N c Q .normal env H:=h
theorem seqX{id:Nat}(h:Q (.exit id) env H):Seq P h0 N c Q (.exit id) env H:=h
theorem seqR(h:Q .ret env H):Seq P h0 N c Q .ret env H:=h
theorem bloN{id:Nat}(h:Q .normal env H):Blo id Q .normal env H:=h
theorem bloE{id:Nat}(h:Q .normal env H):Blo id Q (.exit id) env H:=by simp_all[Blo]
theorem bloX{id a:Nat}(e:Nat.beq a id=false)(h:Q (.exit a) env H):Blo id Q (.exit a) env H:=by simp[Blo,e];exact h
theorem bloR{id:Nat}(h:Q .ret env H):Blo id Q .ret env H:=h
def QfI{S B:Type}(h0:Nat)(b:Ctl S B)(Eb:S->Env)(Hb:S->Qd)(Q:QE):QE
 |.normal,env,H=>∃s,b=.cont s/\Le h0 env H (Eb s) (Hb s)
 |.exit id,env,H=>Q (.exit id) env H
 |.ret,env,H=>Q .ret env H
theorem Qmd{S B:Type}{b:Ctl S B}(Eb:S->Env)(Hb:S->Qd)(h:TC P h0 N c env H (QfI h0 b Eb Hb Q))(k:∀s env H,b=.cont s->Le h0 env H (Eb s) (Hb s)->Q .normal env H):TC P h0 N c env H Q:=
 h.mono λx env' H' q=>by
  cases x with
  |normal=>obtain⟨s,e,q⟩:=q;grind
  |exit id=>exact q
  |ret=>exact q
section
variable {S B:Type} {b:Ctl S B} {Eb:S->Env} {Hb:S->Qd}
theorem YQ{s:S}(e:b=.cont s)(h:Le h0 env H (Eb s) (Hb s)):QfI h0 b Eb Hb Q .normal env H:=⟨s,e,h⟩
theorem Qp(h:Q .ret env H):QfI h0 b Eb Hb Q .ret env H:=h
end
theorem Qk9{x:Operand}{t:Bool}(hx:opA env x=.bool t)(h:t=true)(ht:TC P h0 N c env H Q):TC P h0 N (.cond x c c') env H Q:=TC.cond hx (λ_=>ht) (λq=>by grind)
theorem Qla{x:Operand}{t:Bool}(hx:opA env x=.bool t)(h:t=false)(hf:TC P h0 N c' env H Q):TC P h0 N (.cond x c c') env H Q:=TC.cond hx (λq=>by grind) (λ_=>hf)
section
variable {S B:Type} {I:S->Env->Qd->Prop}
theorem Qm{s:S}{d:Ctl S B}(e:some (Ctl.cont s)=some d)(h:I s env H):Qa8 I d Q .normal env H:=⟨s,(by grind),h⟩
theorem Qn{id:Nat}{b:B}{d:Ctl S B}(e:some (Ctl.done b)=some d)(h:Q (.exit id) env H):Qa8 I d Q (.exit id) env H:=⟨(by grind),h⟩
theorem Qq{b:B}{d:Ctl S B}(e:some (Ctl.done b)=some d)(h:Q .ret env H):Qa8 I d Q .ret env H:=⟨(by grind),h⟩
end
end
theorem YH{α β:Type}{x:Option α}{f:α->Option β}{r:β}(h:x.bind f=some r):∃a,x=some a/\f a=some r:=Option.bind_eq_some_iff.1 h
def idx{α:Type}(l:List α)(i:Int):Option α:=bif decide (0<=i)then l[i.toNat]? else none
theorem Qbe{α:Type}{l:List α}{i:Int}{x:α}(h:idx l i=some x):0<=i/\l[i.toNat]?=some x:=by
 grind[idx]
def app{α:Type}(l m:List α):Option (List α):=bif Nat.ble (l.length+m.length) Yk then some (l++m)else none
theorem Qna{α:Type}{l m r:List α}(h:app l m=some r):l.length+m.length<=Yk/\l++m=r:=by
 unfold app at h;cases q:Nat.ble (l.length+m.length) Yk with
 |true=>simp_all
 |false=>grind
def slc{α:Type}(l:List α)(lo hi:Int):Option (List α):=bif decide (0<=lo)&&decide (lo<=hi)&&decide (hi<=(l.length:Int))then some ((l.take hi.toNat).drop lo.toNat)else none
theorem QcW{α:Type}{l r:List α}{lo hi:Int}(h:slc l lo hi=some r):0<=lo/\lo<=hi/\hi<=l.length/\(l.take hi.toNat).drop lo.toNat=r:=by
 grind[slc]
def QcX{α:Type}(l:List α)(i:Int)(x:α):Option (List α):=bif decide (0<=i)&&decide (i<(l.length:Int))then some (l.set i.toNat x)else none
theorem QfV{α:Type}{e:α->List A}{l:List α}{i:Nat}{x:α}(h:l[i]?=some x):(l.map e)[i]?=some (e x):=by simp[h]
section
variable {P:Program} {h0 N:Nat} {env:Env} {H H':Qd} {Q:QE} {all:Array Oper} {o:Oper} {l:List Oper} {d:Nat} {x:A}
theorem vV(a:OpV P o env H x)(k:WO P h0 N all l (up env d x) H Q)(hg:QG all o env true:=by exact rfl)(hd:o.dst=some d:=by exact rfl)(hN:Nat.blt d N=true:=by exact rfl):WO P h0 N all (o::l) env H Q:=
 Y5 hg hd hN a k
theorem vH(a:OpH P o env H x H')(k:WO P h0 N all l (up env d x) H' Q)(hg:QG all o env true:=by exact rfl)(hd:o.dst=some d:=by exact rfl)(hN:Nat.blt d N=true:=by exact rfl)(hh:Nat.ble h0 H.length=true:=by exact rfl):WO P h0 N all (o::l) env H Q:=
 Qh0 (by simp_all) hg hd hN a k
theorem vU(a:OpU P o env H H')(k:WO P h0 N all l env H' Q)(hg:QG all o env true:=by exact rfl)(hd:o.dst=none:=by exact rfl)(hh:Nat.ble h0 H.length=true:=by exact rfl):WO P h0 N all (o::l) env H Q:=
 Qk1 (by simp_all) hg hd a k
theorem gT{j s:Nat}{c x:Bool}(a:x=c)(hg:o.guard=some (j,c):=by exact rfl)(hs:(all[j]?).bind (·.dst)=some s:=by exact rfl)(hl:lk env s=.bool x:=by exact rfl):QG all o env true:=by
 simp_all[QG]
theorem QbJ{x x':A}(a:x'=x)(e:H'=H)(k:WO P h0 N all l (up env d x) H Q):WO P h0 N all l (up env d x') H' Q:=by grind
theorem Qk4(a:H'=H)(k:WO P h0 N all l env H Q):WO P h0 N all l env H' Q:=by grind
theorem Qw{f:FuncId}{args a:List A}{Hc:Qd}{Qr:A->Qd->Prop}(π:List Nat)(e:OpC P o env H f args)(g:C P f a Hc Qr)
  (k:∀r H1,Qr r H1->WO P h0 N all l (up env d (YF (rho π H.length) r)) (QR H π (H1.map (QU (rho π H.length)))) Q)
  (hargs:args=Qag (rho π H.length) a:=by exact rfl)(hH:π.map (λp=>H[p]?)=(Hc.map (QU (rho π H.length))).map some:=by exact rfl)(hπ:π.Nodup:=by decide)
  (hg:QG all o env true:=by exact rfl)(hd:o.dst=some d:=by exact rfl)(hN:Nat.blt d N=true:=by exact rfl)(hh:Nat.ble h0 H.length=true:=by exact rfl):WO P h0 N all (o::l) env H Q:=
 WO.call π (by simp_all) hg hd (λx h=>by simp_all) e hargs hH hπ g k
end
section
variable {P:Program} {o:Oper} {env:Env} {H:Qd} {α:Type} {e:α->List A}
theorem Qhj{c:Call}{t d k:Nat}{x:Operand}{l:List α}(a:∀w,(underlying t).run P w=.ok (.slice d) w)(f:o.op=.call c:=by exact rfl)(hc:c={callee:=.builtin .len,args:= #[x],argTypes:= #[t]}:=by exact rfl)
  (hx:opA env x=.rsl k (l.map e):=by exact rfl):OpV P o env H (.int .i64 l.length):=by
 have:=Qlc (H:=H) f hc a hx
 grind
theorem QcN{t a k:Nat}{x y:Operand}{l:List α}{f:IntKind}{i:Int}{v:α}(h:idx l i=some v)(g:∀w,(underlying t).run P w=.ok (.slice a) w)(d:∀w,(sizeOf a).run P w=.ok k w)
  (j:o.op=.indexAddr t x y:=by exact rfl)(hx:opA env x=.rsl k (l.map e):=by exact rfl)(hy:opA env y=.int f i:=by exact rfl):OpV P o env H (.rp (e v)):=
 Qmg j g d hx hy (Qbe h).1 (QfV (Qbe h).2)
theorem Y3{t a k b n:Nat}{x y:Operand}{l:List α}{e:IntKind}{i:Int}{v:α}(h:idx l i=some v)(p:l.length=n)(f:∀w,(underlying t).run P w=.ok (.slice a) w)(g:∀w,(sizeOf a).run P w=.ok k w)
  (j:o.op=.indexAddr t x y:=by exact rfl)(hx:opA env x=.osl b 0 n k:=by exact rfl)(hy:opA env y=.int e i:=by exact rfl):OpV P o env H (.ptr b (i.toNat*k)):=by
 have:=Qbe h;have d:i.toNat<l.length:=(by grind);have m:=QiK (H:=H) j f g hx hy this.1 (by omega)
 grind
theorem Yz{b t k:Nat}{l:List α}{i:Int}{v:α}{a:List A}(h:idx l i=some v)(d:H[b]?=some (.row t k (l.map e)):=by exact rfl)(hcs:e v=a:=by exact rfl):Pts H (.ptr b (i.toNat*k)) a:=
 Pts.row (f:=0) d rfl (QfV (Qbe h).2) hcs
theorem QT{c:Call}{T T' et et' k i n:Nat}{x y:Operand}{a:A}{l m r:List α}(h:app l m=some r)(E:Q4 P T et k)(g:∀w,(underlying T').run P w=.ok (.slice et') w)(f:Src P H a k (m.map e))
  (d:l.length=n:=by exact rfl)(ho:o.op=.call c:=by exact rfl)(hc:c={callee:=.builtin .append,args:= #[x,y],argTypes:= #[T,T']}:=by exact rfl)(hx:opA env x=.osl i 0 n k:=by exact rfl)
  (hH:H[i]?=some (.row et k (l.map e)):=by exact rfl)(hy:opA env y=a:=by exact rfl):
  OpH P o env H (.osl H.length 0 r.length k) (H.set i .dead++[.row et k (r.map e)]):=by
 obtain⟨j,rfl⟩:=Qna h;subst d;have:=Qhk E g ho hc hx hH (by simp) hy f (by grind) (gs:=(l++m).map e) (by rw[VE (by simp)];simp)
 grind
theorem Qh2{k:Nat}{l:List α}:Src P H (.rsl k (l.map e)) k (l.map e):=Src.rsl
theorem Y6{i n k t:Nat}{l:List α}(a:H[i]?=some (.row t k (l.map e)):=by exact rfl)(hn:l.length=n:=by exact rfl):Src P H (.osl i 0 n k) k (l.map e):=
 Src.osl a (by grind[List.take_of_length_le]) (by simp[hn])
theorem Jr{t n b T k f:Nat}{x y:Operand}{l l':List α}{i:Int}{v m:α}{vs:List A}{a:A}{d:Nat}(h:idx l i=some v)(r:QcX l i m=some l')(p:∀w,(sizeOf t).run P w=.ok n w)(g:d=i.toNat*k+f)(j:splice (e v) f vs=e m)
  (q:o.op=.store t x y:=by exact rfl)(hx:opA env x=.ptr b d:=by exact rfl)(hH:H[b]?=some (.row T k (l.map e)):=by exact rfl)
  (hy:opA env y=a:=by exact rfl)(hk:Yl a=true:=by exact rfl)(hv:Yb a=vs:=by exact rfl)(hn:vs.length=n:=by exact rfl)(hp:vs.all Yq=true:=by exact rfl)(hd:Yv vs=true:=by exact rfl)(hf:Nat.ble (f+n) k=true:=by exact rfl):
  OpU P o env H (H.set b (.row T k (l'.map e))):=by
 refine Qgd q hx hH p g (QfV (Qbe h).2) hy hk hv hn hp hd hf j ?_
 grind[QcX,List.map_set]
end
def ZR(a:A)(v:Value):Prop:=∀ro σ w,VR ro σ w a v
def ZL(az:List A)(l:List Value):Prop:=∀ro σ w,LR ro σ w az l
theorem ZR.int{k:IntKind}{n:Int}:ZR (.int k n) (.int k n):=λ_ _ _=>rfl
theorem ZR.bool{b:Bool}:ZR (.bool b) (.bool b):=λ_ _ _=>rfl
theorem ZR.str:ZR (.str []) (.string ⟨#[]⟩):=λ_ _ _=>rfl
theorem ZR.rsl{α:Type}{k:Nat}{e:α->List A}:ZR (.rsl k (List.map e [])) (.slice none 0 0):=λ_ _ _=>⟨none,0,rfl,XS _,.inl rfl⟩
theorem ZR.nils:ZR .nils (.slice none 0 0):=λ_ _ _=>rfl
theorem ZR.nilp:ZR .nilp (.pointer none):=λ_ _ _=>rfl
theorem ZR.nilf:ZR .nilf .nilFunc:=λ_ _ _=>rfl
theorem ZR.nilm:ZR .nilm (.map none):=λ_ _ _=>rfl
theorem Qma:ZR .nilif .nilIface:=λ_ _ _=>rfl
theorem ZL.nil:ZL [] []:=λ_ _ _=>rfl
theorem ZL.cons{a:A}{v:Value}{az:List A}{l:List Value}(h:ZR a v)(k:ZL az l):ZL (a::az) (v::l):=λro σ w=>⟨v,l,rfl,h ro σ w,k ro σ w⟩
theorem ZR.agg{az:List A}{l:List Value}(h:ZL az l):ZR (.agg az) (.agg l.toArray):=λro σ w=>⟨l,rfl,h ro σ w⟩
section
variable {P:Program} {o:Oper} {env:Env} {H:Qd}
theorem Qbl{t:Nat}{z:Value}{v:A}{d:List A}(k:∀w,(zeroValue t).run P w=.ok z w)(i:ZR v z)(m:o.op=.alloc t:=by exact rfl)(hk:Yl v=true:=by exact rfl)(hcs:Yb v=d:=by exact rfl)(hpl:d.all Yq=true:=by exact rfl):
  OpH P o env H (.ptr H.length 0) (H++[.cells t d]):=by
 intro j f σ N a w r;obtain⟨l,h,g⟩:=(i f σ w).cells hk;subst hcs;refine⟨.pointer (some ⟨w.heap.size,0,none⟩),w.alloc (.cells l.toArray t),f,[some w.heap.size],?_,⟨w.heap.size,?_,rfl⟩,r.sim.allocCells g (g.plain hpl),Qh.alloc _ r.sim.roLt r.sim.frLt⟩
 .have e:(newVar t z).run P w=.ok ⟨w.heap.size,0,none⟩ (w.alloc (.cells l.toArray t)):=by
   unfold newVar;rw[h];rfl
  simp_all[execOp,Instr.alloc]
 .rw[<- r.sim.len];simp
theorem QhU{t:TypeId}{p q:Bool}{w:World}(a:∀w,(underlying t).run P w=.ok .bool w):(Op.equal t (.bool p) (.bool q)).run P w=.ok (p==q) w:=by
 have k:∀d,(Op.equalIn (d+1) t (.bool p) (.bool q)).run P w=.ok (p==q) w:=by
  simp[Op.equalIn,a]
 exact k 9999
theorem QeW{t u:TypeId}{x y:Operand}{p q:Bool}(f:∀w,(underlying t).run P w=.ok .bool w)(h:o.op=.binOp .neq t x y u:=by exact rfl)(hx:opA env x=.bool p:=by exact rfl)(hy:opA env y=.bool q:=by exact rfl):OpV P o env H (.bool (p != q)):=by
 intro i e σ N a w r;have g:=Qcr r hx;have d:=Qcr r hy;refine⟨_,?_,rfl⟩
 simp_all[execOp,Go.binOp,eqGuard,QhU,bne]
theorem QL{t:TypeId}{x y:Operand}{s:List UInt8}{k:IntKind}{i:Int}{c:UInt8}(h:idx s i=some c)(a:∀w,(underlying t).run P w=.ok .string w)(d:o.op=.index t x y:=by exact rfl)(hx:opA env x=.str s:=by exact rfl)(hy:opA env y=.int k i:=by exact rfl):
  OpV P o env H (.int .u8 c.toNat):=QjE d a hx hy (Qbe h).1 (Qbe h).2
theorem Qlg{α:Type}{e:α->List A}{T et k:Nat}{x:Operand}{lo hi:Option Operand}{l r:List α}{a b:Int}(h:slc l a b=some r)(E1:∀w,(underlying T).run P w=.ok (.slice et) w)(E2:∀w,(sizeOf et).run P w=.ok k w)
  (f:lo=none/\a=0\/ ∃y,lo=some y/\opA env y=.int .i64 a)(d:hi=none/\b=l.length\/ ∃y,hi=some y/\opA env y=.int .i64 b)
  (g:o.op=.slice T x lo hi none:=by exact rfl)(hx:opA env x=.rsl k (l.map e):=by exact rfl):OpV P o env H (.rsl k (r.map e)):=by
 obtain⟨j,m,i,rfl⟩:=QcW h;refine Qle (l:=a.toNat) (h:=b.toNat) E1 E2 g hx ?_ ?_ (by omega) (by simp;omega) (by simp)
 .grind
 grind
theorem QjH{c:Call}{t d i n k:Nat}{x:Operand}(a:∀w,(underlying t).run P w=.ok (.slice d) w)(e:o.op=.call c:=by exact rfl)(hc:c={callee:=.builtin .len,args:= #[x],argTypes:= #[t]}:=by exact rfl)
  (hx:opA env x=.osl i 0 n k:=by exact rfl):OpV P o env H (.int .i64 n):=Qld e hc a hx
end
def Qe(k:IntKind)(n:Int):List A:=[.int k n]
def Y0(b:Bool):List A:=[.bool b]
def Jl(s:List UInt8):List A:=[.str s]
def Ya{α:Type}(k:Nat)(e:α->List A)(l:List α):List A:=[.rsl k (l.map e)]
theorem Qgm{P:Program}{rd:Option Nat}{o:Oper}{a:Act}{next:Act->World->Prop}{Q:Exit->Act->World->Prop}{e:Result Next}
  (k:∀a' w',next a' w'->a'.defers=a.defers)(h:o.uponIn (WF rd) 0 P a next Q e):
  o.uponIn (WF rd) 0 P a (λa' w'=>next a' w'/\ ∃v,a'=a.put o.dst v) Q e:=by
 cases e with
 |ok n w'=>
  cases n with
  |value v=>exact⟨h,_,rfl⟩
  |skip=>exact⟨h,_,rfl⟩
  |defer d=>
   have:=congrArg List.length (k _ _ h)
   revert this
   cases o.dst<;>simp[Act.put]
  |enter f g=>
   exact⟨h.1,CallsIn.mono h.2 (by grind)⟩
  |row r g=>exact⟨h.1,RowsIn.mono h.2 (by grind)⟩
  |round l f i assign j=>exact⟨h.1,RoundIn.mono h.2 (by grind)⟩
  |_=>exact h.elim
 |halt x w'=>cases x<;>first|exact h|exact h.elim
def YM(e:Env)(H:Qd):QE:=λx e' H'=>x=.normal/\e'=e/\H'=H
theorem YM.mk{e:Env}{H:Qd}:YM e H .normal e H:=⟨rfl,rfl,rfl⟩
inductive Sb (af bf ds:List Nat) (xs:List A) (env0:Env):Env->Prop
 |nil:Sb af bf ds xs env0 []
 |dep (j:Nat) {s:Nat} {a:A} {r:Env} (h1:af.contains j=true) (h2:ds[j]?=some s) (h3:xs[j]?=some a) (k:Sb af bf ds xs env0 r):Sb af bf ds xs env0 ((s,a)::r)
 |old {s:Nat} {a:A} {r:Env} (h1:ds.contains s=false) (h2:lk env0 s=a) (k:Sb af bf ds xs env0 r):Sb af bf ds xs env0 ((s,a)::r)
 |pre (j:Nat) {s:Nat} {a:A} {r:Env} (h1:bf.contains j=true) (h2:ds[j]?=some s) (h3:lk env0 s=a) (k:Sb af bf ds xs env0 r):Sb af bf ds xs env0 ((s,a)::r)
def Qk(o:Oper):List Nat:=(o.after.toList.filter (Region.binds .any)).map (·.on)
def Qf8(l:List Oper)(i:Nat):List Nat:=(List.range l.length).filter λj=>((l[j]?).map Qk).getD [] |>.contains i
inductive QdA (P:Program) (N:Nat) (l:List Oper) (ds:List Nat) (xs:List A) (env0:Env) (i:Nat) (H H':Qd):Prop
 |mk (o:Oper) (e:Env) (d:Nat) (x:A) (ho:l[i]?=some o) (hd:o.dst=some d) (hx:xs[i]?=some x) (hs:Sb (Qk o) (Qf8 l i) ds xs env0 e)
   (h:WO P H.length N l.toArray [o] e H (YM (up e d x) H')):QdA P N l ds xs env0 i H H'
theorem QdA.use{P:Program}{N:Nat}{l:List Oper}{J:List Nat}{xs:List A}{env0:Env}{i:Nat}{H H':Qd}(t:QdA P N l J xs env0 i H H')
  {Q:Exit->Act->World->Prop}{K:Act->World->Prop}{fr ro:Nat->Prop}{σ:Sig}{a:Act}{w:World}{o:Oper}{rd:Option Nat}(X:l[i]?=some o)
  (p:Sim fr ro σ H w)(hN:a.tmps.size=N)(F:Qbr fr a.defers w)(V:QdF rd fr w)
  (hD:∀j∈Qk o,∀s x,J[j]?=some s->xs[j]?=some x->VR ro σ w x (a.tmps.getD s undef))
  (hE:∀s,J.contains s=false->VR ro σ w (lk env0 s) (a.tmps.getD s undef))(hP:∀j s,(Qf8 l i).contains j=true->J[j]?=some s->VR ro σ w (lk env0 s) (a.tmps.getD s undef))
  (hK:∀v w' ro' τ d x,o.dst=some d->xs[i]?=some x->VR ro' (σ++τ) w' x ((a.put o.dst v).tmps.getD d undef)->Sim fr ro' (σ++τ) H' w'->Qh fr ro w ro' w'->K (a.put o.dst v) w'):
  wpOpIn (WF rd) 0 P l.toArray Q i K a w:=by
 obtain⟨y,e,d,x,O,hd,hx,hs,h⟩:=t;obtain rfl:y=o:=XY (O.symm.trans X);have B:Rel fr ro σ H e N a w:=by
  refine⟨p,?_,hN,F⟩;intro s;clear h
  induction hs with
  |nil=>exact trivial
  | @dep j s1 u r k g h3 _ ih=>
   unfold lk;cases t:Nat.beq s s1 with
   |false=>exact ih
   |true=>
    obtain rfl:=XP t
    grind
  | @old s1 u r k g _ ih=>
   unfold lk;cases t:Nat.beq s s1 with
   |false=>exact ih
   |true=>
    obtain rfl:=XP t
    grind
  | @pre j s1 u r k g h3 _ ih=>
   unfold lk;cases t:Nat.beq s s1 with
   |false=>exact ih
   |true=>
    obtain rfl:=XP t
    grind
 have E:=h rd fr ro σ a w B V;have fin:∀v w',Qbq H.length fr ro σ w N a.defers (YM (up e d x) H') .normal (a.put y.dst v) w'->K (a.put y.dst v) w':=by
  rintro v w' ⟨_,W,H2,ro',σ',ab,_,⟨_,rfl,rfl⟩,Y,m,ht,_,L⟩;have hσ:σ'=σ++σ'.drop H.length:=by
   conv=>lhs;rw[<- Xy H.length σ']
   rw[ht, <- p.len,X8]
  have G:=Y.env d;unfold lk at G;rw[VB]at G;rw[hσ]at G;refine hK v w' ro' (σ'.drop H.length) d x hd hx G ?_ m;rw[<- hσ];exact Y.sim.frMono L.sub
 unfold wpOpIn;have R:l.toArray[i]?=some y:=by simpa using X
 rw[R];simp only;unfold wpL wpListIn at E;split at E
 .rename_i hw;rw[Vq hw];obtain⟨M,E⟩:=E;refine⟨M,?_⟩;have g:=Qgm (by
   intro a' w' q;unfold wpListIn at q;obtain⟨_,_,_,_,_,_,_,_,_,_,_,q,_⟩:=q;exact q) E
  generalize(y.semAt (WF rd).round a.eval).run P w=res at*;cases res with
  |ok n w'=>
   cases n with
   |value v=>exact fin _ _ g.1
   |skip=>exact fin _ _ g.1
   |defer df=>
    exfalso;obtain⟨⟨_,_,_,_,_,_,_,_,_,_,_,q,_⟩,_⟩:=g;have:=congrArg List.length q
    revert this
    cases y.dst<;>simp[Act.put]
   |enter f z=>
    refine⟨g.1,CallsIn.mono g.2 (λe T m=>?_)⟩;cases e with
    |returned v=>exact fin _ _ m.1
    |panicked c=>obtain⟨u,_,_,_,_,_,k,⟨rfl,_⟩,_⟩:=m;exact k.elim
    |outgrown=>obtain⟨a1,w1,u,_,_,_,_,_,k,⟨rfl,_⟩,_⟩:=m;exact k.elim
   |row r z=>
    exact⟨g.1,RowsIn.mono g.2 (λ_ _ m=>fin _ _ m.1)⟩
   |round l f tmps assign aa=>
    refine⟨g.1,RoundIn.mono g.2 (λe T m=>?_)⟩;cases e with
    |returned v=>exact fin _ _ m.1
    |panicked c=>obtain⟨u,_,_,_,_,_,k,⟨rfl,_⟩,_⟩:=m;exact k.elim
    |outgrown=>obtain⟨a1,w1,u,_,_,_,_,_,k,⟨rfl,_⟩,_⟩:=m;exact k.elim
   |_=>exact g.elim
  |halt x w'=>
   cases x with
   |panic v=>obtain⟨u,_,_,_,_,_,k,⟨rfl,_⟩,_⟩:=g;exact k.elim
   |_=>exact g.elim
 simp_all[wpListIn]
theorem least{p:Nat->Prop}(a:∀i,p i\/ ¬p i):∀n,p n->∃i,i<=n/\p i/\ ∀j,j<i->¬p j:=by
 intro n
 induction n using Nat.strongRecOn with
 |ind n d=>
  grind
def onL(L:Array Bool)(i:Nat):Prop:=L[i]?=some true
theorem QaA{l:List Oper}{L:Array Bool}(n:L.size=l.length){i:Nat}:
  i∈Region.ready .any l.toArray L↔ ∃o,l[i]?=some o/\ ¬onL L i/\ ∀j∈Qk o,onL L j:=by
 unfold Region.ready;simp only[Xd,List.mem_range,XV,XF];have d:∀j,L.getD j false=true↔onL L j:=by
  intro j;unfold onL;rw[Array.getD_eq_getD_getElem?]
  grind
 constructor
 .rintro⟨f,g,a⟩;refine⟨l[i],(by simp),?_,?_⟩
  .grind
  .rw[XJ f]at a;simp only[Xj,Option.getD_some,Array.all_eq_true']at a;intro j k;unfold Qk at k
   grind
 .rintro⟨o,f,g,a⟩;have h:i<l.length:=(by grind);refine⟨h,?_,?_⟩
  .grind
  .rw[f];simp only[Xj,Option.getD_some,Array.all_eq_true'];intro e m;cases p:Region.binds .any e with
   |false=>simp
   |true=>
    have:=(d _).2 (a e.on (by unfold Qk;grind))
    grind
theorem Jp{L:Array Bool}{i j:Nat}(hi:i<L.size):onL (L.setIfInBounds i true) j↔j=i\/onL L j:=by
 grind[onL]
def unl(L:Array Bool):Nat:=L.toList.countP (!·)
theorem QfM{L:Array Bool}{i:Nat}(hi:i<L.size)(h:¬onL L i):unl (L.setIfInBounds i true)+1=unl L:=by
 unfold unl;have a:L.toList[i]=false:=by
  grind[onL]
 grind
theorem Qig{L:Array Bool}{i:Nat}(hi:i<L.size)(h:¬onL L i):0<unl L:=by have:=QfM hi h;omega
inductive Qb5 (l:List Oper) (m:Nat):Nat->Prop
 |one {o:Oper} {j:Nat} (ho:l[m]?=some o) (hj:j∈Qk o):Qb5 l m j
 |step {o:Oper} {i j:Nat} (h:Qb5 l m i) (ho:l[i]?=some o) (hj:j∈Qk o):Qb5 l m j
def Qec(l:List Oper):Nat->List Nat->List Nat
 |0,S=>S
 |j+1,S=>Qec l j (bif S.contains j then S++(match l[j]? with|some o=>Qk o|none=>[])else S)
theorem QbP{l:List Oper}{m:Nat}:∀(n:Nat) (S:List Nat),(∀j∈S,Qb5 l m j)->∀j∈Qec l n S,Qb5 l m j
 |0,S,h,j,hj=>h j hj
 |n+1,S,h,j,hj=>by
  refine QbP n _ ?_ j hj;intro i hi;cases q:S.contains n with
  |false=>grind
  |true=>
   rw[q]at hi;rcases Vz.1 hi with z|z
   .exact h i z
   .cases ho:l[n]? with
    |none=>grind
    |some o=>rw[ho]at z;exact .step (by grind) ho z
def Qao(ds:List Nat)(xs:List A)(env0:Env):Env:=ds.zip xs++env0
theorem QlE{a:List Nat}{xs:List A}{env0:Env}(e:a.length=xs.length)(s:Nat):
  (∃(j:Nat) (x:A),a[j]?=some s/\xs[j]?=some x/\lk (Qao a xs env0) s=x)\/(a.contains s=false/\lk (Qao a xs env0) s=lk env0 s):=by
 unfold Qao
 induction a generalizing xs with
 |nil=>simp
 |cons d a i=>
  cases xs with
  |nil=>simp at e
  |cons x xs=>
   simp[XZ,Nat.add_right_cancel_iff]at e;simp only[List.zip_cons_cons,VG,lk];cases h:Nat.beq s d with
   |true=>
    obtain rfl:=XP h;left;exact⟨0,x,rfl,rfl,by simp⟩
   |false=>
    have g:s≠d:=λq=>by simp_all
    rcases i e with⟨j,y,k,f,l⟩|⟨k,f⟩
    .left;exact⟨j+1,y,by grind,by grind,by grind⟩
    grind
def drawChk.nodupB:List Nat->Bool
 |[]=>true
 |x::r=> !r.contains x&&drawChk.nodupB r
def drawChk.goB(l:List Oper)(m:Nat):Nat->List Oper->Bool
 |_,[]=>true
 |i,o::r=>(Qk o).all (λj=>Nat.blt j i)&&(bif Nat.beq i m then(List.range m).all (λj=>(Qec l m (Qk o)).contains j)else bif Nat.blt m i then(Qk o).contains (i-1)else true)&&drawChk.goB l m (i+1) r
def drawChk.loB(m k:Nat)(los:List Nat)(hs:List Bool):Nat->List Oper->Bool
 |_,[]=>(List.range k).all λj=>(List.range m).any λi=>hs.getD i false&&Nat.beq (los.getD i 0) j
 |i,o::r=>(bif Nat.blt i m then
   (Nat.beq (los.getD i 0) 0||(Qk o).any (λj=>Nat.blt j m&&Nat.ble (los.getD i 0) (los.getD j 0+(if hs.getD j false then 1 else 0))))
   &&(!hs.getD i false||(Nat.blt (los.getD i 0) k&&(List.range m).all (λj=> !hs.getD j false|| !Nat.beq (los.getD i 0) (los.getD j 0)||Nat.beq i j)))
  else true)&&drawChk.loB m k los hs (i+1) r
def drawChk(l:List Oper)(m k N:Nat)(ds los:List Nat)(hs:List Bool):Bool:=
 Nat.ble m l.length&&(ds.length==m)&&(l.take m).map (·.dst)==ds.map some&&ds.all (λd=>Nat.blt d N)&&drawChk.nodupB ds
 &&drawChk.goB l m 0 l&&(drawChk.loB m k los hs 0 l)
theorem Qdm{a:List Nat}(h:drawChk.nodupB a=true):∀(i j d:Nat),a[i]?=some d->a[j]?=some d->i=j:=by
 induction a with
 |nil=>simp
 |cons x r e=>
  simp[drawChk.nodupB,XV]at h
  grind
theorem QgK{l:List Oper}{m:Nat}:∀(r:List Oper) (b:Nat),drawChk.goB l m b r=true->∀(i:Nat) (o:Oper),r[i]?=some o->
  (∀j∈Qk o,j<b+i)/\(b+i=m->∀j,j<m->j∈Qec l m (Qk o))/\(m<b+i->b+i-1∈Qk o):=by
 intro r
 induction r with
 |nil=>simp
 |cons x r g=>
  intro b h i o d;simp only[drawChk.goB]at h;cases i with
  |zero=>
   simp at d;refine⟨λj e=>?_,λa j e=>?_,λa=>?_⟩
   .simp_all
   .simp_all
   .have k:Nat.beq b m=false:=by
     cases q:Nat.beq b m with
     |false=>rfl
     |true=>simp_all
    have f:Nat.blt m b=true:=by simp_all
    grind
  |succ i=>
   grind
inductive Ob (P:Program) (N:Nat) (l:List Oper) (ds:List Nat) (xs:List A) (env0:Env):Nat->List (List (Qd×Qd))->Prop
 |nil {i:Nat}:Ob P N l ds xs env0 i []
 |cons {i:Nat} {s:List (Qd×Qd)} {r:List (List (Qd×Qd))} (h:∀p∈s,QdA P N l ds xs env0 i p.1 p.2) (k:Ob P N l ds xs env0 (i+1) r):Ob P N l ds xs env0 i (s::r)
theorem Ob.get{P:Program}{N:Nat}{l:List Oper}{a:List Nat}{xs:List A}{env0:Env}{b:Nat}{d:List (List (Qd×Qd))}(h:Ob P N l a xs env0 b d):
  ∀(i:Nat) (s:List (Qd×Qd)),d[i]?=some s->∀p∈s,QdA P N l a xs env0 (b+i) p.1 p.2:=by
 induction h with
 |nil=>simp
 | @cons b1 s1 r1 h _ ih=>
  grind
theorem Ob.st0{P:Program}{N:Nat}{l:List Oper}{a:List Nat}{xs:List A}{env0:Env}{i:Nat}:∀p∈([]:List (Qd×Qd)),QdA P N l a xs env0 i p.1 p.2:=by
 simp
theorem Ob.stC{P:Program}{N:Nat}{l:List Oper}{a:List Nat}{xs:List A}{env0:Env}{i:Nat}{H H':Qd}{r:List (Qd×Qd)}(h:QdA P N l a xs env0 i H H')
  (k:∀p∈r,QdA P N l a xs env0 i p.1 p.2):∀p∈(H,H')::r,QdA P N l a xs env0 i p.1 p.2:=by
 grind
theorem Qa9.nil{H:Qd}:Qa9 H [] []:=trivial
theorem Qa9.cons{H:Qd}{az d f:List A}{a b:A}(e:az=a::d)(h:Look H a b)(k:Qa9 H d f):Qa9 H az (b::f):=by subst e;exact⟨h,k⟩
section
variable {P:Program} {o:Oper} {env:Env} {H:Qd} {α:Type} {e:α->List A}
end
inductive PL (P:Program):List Field->List (Nat×Nat)->Prop
 |nil:PL P [] []
 |cons {f:Field} {n:Nat} {fs:List Field} {pl:List (Nat×Nat)} (h:∀w,(sizeOf f.type).run P w=.ok n w) (k:PL P fs pl):PL P (f::fs) ((f.offset,n)::pl)
theorem PL.run{P:Program}{fs:List Field}{a:List (Nat×Nat)}(h:PL P fs a):∀w,(fs.mapM λf=>(do pure (f.offset, <- sizeOf f.type):Sem (Nat×Nat))).run P w=.ok a w:=by
 induction h with
 |nil=>intro w;rfl
 |cons h _ ih=>
  simp_all
structure QeO (P:Program) (t:TypeId) (pl:List (Nat×Nat)):Prop where
 un:∃fs:List Field,(∀w,(underlying t).run P w=.ok (.struct fs.toArray) w)/\PL P fs pl
section
variable {P:Program} {o:Oper} {env:Env} {H:Qd}
def Qer(env:Env)(pl:List (Nat×Nat)):List A->List (Nat×Operand)->Option (List A)
 |cs,[]=>some cs
 |cs,(i,x)::r=>match pl[i]? with
  |none=>none
  |some (off,size)=>bif Yl (opA env x)&&Nat.beq (Yb (opA env x)).length size&&Nat.ble (off+size) cs.length then Qer env pl (splice cs off (Yb (opA env x))) r else none
theorem QgS{fr ro:Nat->Prop}{σ:Sig}{N:Nat}{a:Act}{w:World}(r:Rel fr ro σ H env N a w){f:List (Nat×Nat)}:∀(parts:List (Nat×Operand)) (e:List A) (l:List Value) (d:List A),
  LR ro σ w e l->Qer env f e parts=some d->
  ∃l',Instr.fill (f.toArray[·]?) l.toArray (parts.map λp=>(p.1,a.eval p.2))=some l'.toArray/\LR ro σ w d l'
 |[],e,l,d,h,q=>by
  cases q;exact⟨l,rfl,h⟩
 |(i,x)::rest,e,l,d,h,q=>by
  unfold Qer at q;cases hp:f[i]? with
  |none=>grind
  |some p=>
   obtain⟨off,size⟩:=p;rw[hp]at q;simp at q;cases hc:(Yl (opA env x)&&Nat.beq (Yb (opA env x)).length size&&Nat.ble (off+size) e.length)with
   |false=>grind
   |true=>
    rw[hc]at q;simp[XV]at hc;obtain⟨⟨c1,c2⟩,c3⟩:=hc;obtain⟨m,q1,q2⟩:=(Qo r x).cells c1;have hm:m.length=size:=by rw[q2.length];simp_all
    have hl:=h.length;obtain⟨l',g,j⟩:=QgS r rest _ (splice l off m) d (h.splice off q2) q
    grind[Qfs,Nat.le_of_ble_eq_true]
theorem OpV.build{t:TypeId}{z:Value}{zs d:List A}{f:List (Nat×Nat)}{parts:List (Nat×Operand)}(n:∀w,(zeroValue t).run P w=.ok z w)(j:ZR (.agg zs) z)(q:QeO P t f)
  (k:o.op=.build t parts.toArray:=by exact rfl)(hf:Qer env f zs parts=some d:=by exact rfl):OpV P o env H (.agg d):=by
 intro x m σ N a w r;obtain⟨y,s,g⟩:=q.un;obtain⟨l,rfl,h⟩:=j m σ w;obtain⟨e,i,p⟩:=QgS r parts zs l d h hf;refine⟨.agg e.toArray,?_,e,rfl,p⟩;have u:=g.run w;simp only[execOp,k,Instr.build,Vk,n,Result.andThen,s,XH,List.mapM_toArray,Sem.run_map,u,Value.cells,i,Vl]
end
def nz(n:Int):Option Unit:=bif n==0 then none else some ()
section
variable {P:Program} {o:Oper} {env:Env} {H:Qd}
theorem QeR{x:Operand}{a:A}(i:o.op=.nilCheck x)(g:opA env x=a:=by exact rfl)(hk:(match a with|.ptr _ _=>true|.rp _=>true|_=>false)=true:=by exact rfl):OpV P o env H a:=by
 intro k j σ N ac w r;have h:=Qo r x;rw[g]at h;cases a<;>first|(cases hk)|skip
 .obtain⟨b,f,e⟩:=h;refine⟨_,?_,b,f,rfl⟩
  simp_all[execOp]
 .obtain⟨b,d,f,e⟩:=h;refine⟨_,?_,b,d,rfl,e⟩
  simp_all[execOp]
end
mutual
def FzA(i k:Nat)(es:List (List A)):A->A->Prop
 |.agg az,b=>∃bs,b=.agg bs/\FzL i k es az bs
 |.fn f x c,b=>∃x' c',b=.fn f x' c'/\FzL i k es x x'/\FzL i k es c c'
 |.iface t a,b=>∃a',b=.iface t a'/\FzA i k es a a'
 |.tup az,b=>∃bs,b=.tup bs/\FzL i k es az bs
 |.osl j o n k',b=>b=.osl j o n k'\/(j=i/\o=0/\k'=k/\n=es.length/\b=.rsl k es)
 |.nils,b=>b=.nils\/ ∃k',b=.rsl k' []
 |a,b=>b=a
def FzL(i k:Nat)(es:List (List A)):List A->List A->Prop
 |[],b=>b=[]
 |a::az,b=>∃a' as',b=a'::as'/\FzA i k es a a'/\FzL i k es az as'
end
mutual
theorem FzA.refl{i k:Nat}{es:List (List A)}:∀a:A,FzA i k es a a
 |.agg az=>⟨az,rfl,FzL.refl az⟩
 |.fn _ x c=>⟨x,c,rfl,FzL.refl x,FzL.refl c⟩
 |.iface _ a=>⟨a,rfl,FzA.refl a⟩
 |.tup az=>⟨az,rfl,FzL.refl az⟩
 |.osl _ _ _ _=>.inl rfl
 |.nils=>.inl rfl
 |.any=>rfl
 |.bool _=>rfl
 |.int _ _=>rfl
 |.str _=>rfl
 |.nilp=>rfl
 |.ptr _ _=>rfl
 |.rp _=>rfl
 |.rsl _ _=>rfl
 |.nilf=>rfl
 |.nilif=>rfl
 |.map _=>rfl
 |.nilm=>rfl
theorem FzL.refl{i k:Nat}{es:List (List A)}:∀az:List A,FzL i k es az az
 |[]=>rfl
 |a::az=>⟨a,az,rfl,FzA.refl a,FzL.refl az⟩
end
theorem FzA.agg{i k:Nat}{es:List (List A)}{az bs:List A}(h:FzL i k es az bs):FzA i k es (.agg az) (.agg bs):=⟨bs,rfl,h⟩
theorem FzA.tup{i k:Nat}{es:List (List A)}{az bs:List A}(h:FzL i k es az bs):FzA i k es (.tup az) (.tup bs):=⟨bs,rfl,h⟩
theorem FzA.iface{i k:Nat}{es:List (List A)}{t:Nat}{a b:A}(h:FzA i k es a b):FzA i k es (.iface t a) (.iface t b):=⟨b,rfl,h⟩
theorem FzA.own{i k n:Nat}{es:List (List A)}(hn:n=es.length):FzA i k es (.osl i 0 n k) (.rsl k es):=.inr (by grind)
theorem FzA.nil{i k k':Nat}{es:List (List A)}:FzA i k es .nils (.rsl k' []):=.inr ⟨k',rfl⟩
theorem FzL.cons{i k:Nat}{es:List (List A)}{a b:A}{az bs:List A}(h:FzA i k es a b)(q:FzL i k es az bs):FzL i k es (a::az) (b::bs):=⟨b,bs,rfl,h,q⟩
mutual
theorem Qh8{i k:Nat}{es:List (List A)}{ro ro':Nat->Prop}{σ:Sig}{w:World}(ext:Ext ro σ w ro' σ w)
  (hf:∀v,VR ro σ w (.osl i 0 es.length k) v->VR ro' σ w (.rsl k es) v):∀(a b:A) (v:Value),FzA i k es a b->VR ro σ w a v->VR ro' σ w b v
 |.agg az,b,v,h,q=>by
  obtain⟨bs,rfl,h⟩:=h;obtain⟨l,rfl,q⟩:=q;exact⟨l,rfl,Qdf ext hf az bs l h q⟩
 |.fn f x c,b,v,h,q=>by
  obtain⟨x',c',rfl,h1,h2⟩:=h;obtain⟨l,l',rfl,q1,q2⟩:=q;exact⟨l,l',rfl,Qdf ext hf x x' l h1 q1,Qdf ext hf c c' l' h2 q2⟩
 |.iface t a,b,v,h,q=>by
  obtain⟨a',rfl,h⟩:=h;obtain⟨x,rfl,q⟩:=q;exact⟨x,rfl,Qh8 ext hf a a' x h q⟩
 |.tup az,b,v,h,q=>by
  obtain⟨bs,rfl,h⟩:=h;obtain⟨l,rfl,q⟩:=q;exact⟨l,rfl,Qdf ext hf az bs l h q⟩
 |.osl j o n k',b,v,h,q=>by
  rcases h with rfl|⟨rfl,rfl,rfl,rfl,rfl⟩
  .exact q.mono ext
  .exact hf v q
 |.nils,b,v,h,q=>by
  rcases h with rfl|⟨k',rfl⟩
  .exact q
  .obtain rfl:v=.slice none 0 0:=q;exact⟨none,0,rfl,XS _,.inl rfl⟩
 |.any,b,v,h,q=>by obtain rfl:b=_:=h;trivial
 |.bool _,b,v,h,q=>by obtain rfl:b=_:=h;exact q
 |.int _ _,b,v,h,q=>by obtain rfl:b=_:=h;exact q
 |.str _,b,v,h,q=>by obtain rfl:b=_:=h;exact q
 |.nilp,b,v,h,q=>by obtain rfl:b=_:=h;exact q
 |.ptr _ _,b,v,h,q=>by obtain rfl:b=_:=h;exact q.mono ext
 |.rp _,b,v,h,q=>by obtain rfl:b=_:=h;exact q.mono ext
 |.rsl _ _,b,v,h,q=>by obtain rfl:b=_:=h;exact q.mono ext
 |.nilf,b,v,h,q=>by obtain rfl:b=_:=h;exact q
 |.nilif,b,v,h,q=>by obtain rfl:b=_:=h;exact q
 |.map _,b,v,h,q=>by obtain rfl:b=_:=h;exact q.mono ext
 |.nilm,b,v,h,q=>by obtain rfl:b=_:=h;exact q
theorem Qdf{i k:Nat}{es:List (List A)}{ro ro':Nat->Prop}{σ:Sig}{w:World}(ext:Ext ro σ w ro' σ w)
  (hf:∀v,VR ro σ w (.osl i 0 es.length k) v->VR ro' σ w (.rsl k es) v):∀(az bs:List A) (l:List Value),FzL i k es az bs->LR ro σ w az l->LR ro' σ w bs l
 |[],bs,l,h,q=>by obtain rfl:bs=[]:=h;exact q
 |a::az,bs,l,h,q=>by
  obtain⟨a',as',rfl,h1,h2⟩:=h;obtain⟨v,l',rfl,q1,q2⟩:=q;exact⟨v,l',rfl,Qh8 ext hf a a' v h1 q1,Qdf ext hf az as' l' h2 q2⟩
end
def FzB(i k:Nat)(es:List (List A))(x y:Blk):Prop:=y=x\/ ∃t cs cs',x=.cells t cs/\y=.cells t cs'/\FzL i k es cs cs'
def FzH(i k:Nat)(es:List (List A)):Qd->Qd->Prop
 |[],h=>h=[]
 |x::r,h=>∃y r',h=y::r'/\FzB i k es x y/\FzH i k es r r'
def Qlj(i k:Nat)(es:List (List A))(env:Env):Env->Prop
 |[]=>True
 |(s,a)::r=>FzA i k es (lk env s) a/\Qlj i k es env r
theorem FzH.nil{i k:Nat}{es:List (List A)}:FzH i k es [] []:=rfl
theorem FzH.keep{i k:Nat}{es:List (List A)}{x:Blk}{r r':Qd}(h:FzH i k es r r'):FzH i k es (x::r) (x::r'):=⟨x,r',rfl,.inl rfl,h⟩
theorem FzH.cells{i k t:Nat}{es:List (List A)}{cs cs':List A}{r r':Qd}(q:FzL i k es cs cs')(h:FzH i k es r r'):FzH i k es (.cells t cs::r) (.cells t cs'::r'):=⟨_,r',rfl,.inr (by grind),h⟩
theorem FzH.get{i k:Nat}{es:List (List A)}:∀{H H':Qd},FzH i k es H H'->∀(j:Nat) (y:Blk),H'[j]?=some y->∃x,H[j]?=some x/\FzB i k es x y
 |[],_,h,j,y,q=>by obtain rfl:_=[]:=h;simp at q
 |x::r,_,h,j,y,q=>by
  obtain⟨y',r',rfl,h1,h2⟩:=h;cases j with
  |zero=>grind
  |succ j=>obtain⟨x',p1,p2⟩:=h2.get j y q;grind
theorem FzH.len{i k:Nat}{es:List (List A)}:∀{H H':Qd},FzH i k es H H'->H'.length=H.length
 |[],_,h=>by obtain rfl:_=[]:=h;rfl
 |x::r,_,h=>by obtain⟨y',r',rfl,h1,h2⟩:=h;simp[h2.len]
theorem FzB.live{i k:Nat}{es:List (List A)}{x y:Blk}(h:FzB i k es x y):y.live=x.live:=by
 rcases h with rfl|⟨t,d,a,rfl,rfl,_⟩<;>rfl
theorem YW{env:Env}{H H':Qd}{Q i k t:Nat}{es:List (List A)}(ov:Env)(hi:Nat.ble Q i=true)(M:H[i]?=some (.row t k es))(ab:Qlj i k es env ov)(J:FzH i k es (H.set i .dead) H'):Le Q env H (ov++env) H':=by
 intro fr R σ N a w r
 let ro':Nat->Prop:=λb=>R b\/σ[i]?=some (some b)
 have hown:=λb h=>r.sim.own i b _ h M rfl;have ext:Ext R σ w ro' σ w:=⟨λ_ q=>.inl q,λ_ _=>rfl,λ_ _ q=>q,λ_ _ q=>q⟩;have hf:∀v,VR R σ w (.osl i 0 es.length k) v->VR ro' σ w (.rsl k es) v:=by
  intro v h;rcases h with⟨Q,h⟩|⟨b,p,G,t',m,g,h,n,⟨u,ac⟩,h4,Y⟩
  .have:es=[]:=(by grind);subst this;exact⟨none,0,h,XS _,.inl rfl⟩
  .refine⟨_,G,h,u,?_⟩;by_cases he:es=[]
   .exact .inl he
   .right;have hc:0<G:=Vd (by grind) u;obtain rfl:=n hc;obtain⟨l,V,X⟩:=r.sim.blk i _ _ g M;refine⟨b,0,by simp,.inr g,?_⟩;have:=YL (pre:=[]) (by simpa using V) X;exact this.keep ⟨λ_ q=>.inl q,λ_ _=>rfl,λ_ _ q=>q,λ_ _ q=>q⟩ rfl
 have f:∀(j:Nat) (y:Blk),H'[j]?=some y->y≠ .dead->j≠i/\ ∃x,H[j]?=some x/\FzB i k es x y:=by
  intro j y h W;obtain⟨x,g,n⟩:=J.get j y h;by_cases e:j=i
  .subst e;rw[Xb]at g;simp only[if_true]at g;split at g
   .cases g;rcases n with rfl|⟨_,_,_,q,_,_⟩
    .grind
    .cases q
   .simp at g
  grind
 refine⟨ro',σ,⟨⟨by rw[J.len,X3];exact r.sim.len,r.sim.roOk.to (λ_ q=>.inl q) (λ_ _=>rfl) ?_,r.sim.frLt,?_,?_,?_,?_,r.sim.hidTo (· = ·) Q7 (XS _) (λj b x c V X q3 q4=>q4.elim id λq=>((r.sim.hid j b x c V X q3).ne i c _ q M rfl rfl).elim) (by simp) λj d y T O g3=>.inl ?_⟩,?_,r.size,r.defers⟩,λ_ q=>.inl q,rfl⟩
 rotate_left 5
 .obtain⟨_,x,g4,g5⟩:=f j y O (Qgj g3);exact⟨j,x,rfl,T,g4,λz=>by rw[<- g5.live];exact z,λc q=>by rcases g5 with rfl|⟨t,cs,B,rfl,rfl,_⟩;exact q;exact q.elim⟩
 rotate_left 1
 .rintro b (q|q)
  .exact r.sim.roLt b q
  grind
 .rintro b (q|q)
  .exact r.sim.roFr b q
  grind
 .intro j b v g n u;obtain⟨e,x,n,E⟩:=f j v n (Qbo u);have hx:x.live=true:=by rw[<- E.live];exact u
  obtain⟨F,L,p3⟩:=r.sim.own j b x g n hx;refine⟨F,?_,p3⟩;rintro(q|q)
  .exact L q
  .exact e (r.sim.inj j i b x _ g q n M hx rfl)
 .intro j j' b v v' g n u h4 Y h6;obtain⟨_,x,F,L⟩:=f j v u (Qbo Y);obtain⟨_,x',aa,P⟩:=f j' v' h4 (Qbo h6);exact r.sim.inj j j' b x x' g n F aa (by rw[<- L.live];exact Y) (by rw[<- P.live];exact h6)
 .intro j s v g n;by_cases W:v≠ .dead
  .obtain⟨_,x,F,L⟩:=f j v n W;have E:=r.sim.blk j s x g F;rcases L with rfl|⟨t,cs,B,rfl,rfl,q⟩
   .exact E.keep ext (λ_ _ _=>rfl) (λ_ _ _ _=>rfl)
   .cases s with
    |none=>exact E.elim
    |some b=>
     obtain⟨l,e1,e2,e3⟩:=E;exact⟨l,e1,Qdf ext hf cs B l q e2,e3⟩
  .obtain rfl:v=.dead:=Classical.not_not.1 W;trivial
 .intro s
  induction ov with
  |nil=>exact(r.env s).mono ext
  |cons p ov ih=>
   obtain⟨s1,a1⟩:=p;obtain⟨T,O⟩:=ab;simp only[VG,lk];cases q:Nat.beq s s1 with
   |true=>
    obtain rfl:=XP q;exact Qh8 ext hf _ _ _ T (r.env s)
   |false=>exact ih O
theorem Qlj.nil{i k:Nat}{es:List (List A)}{env:Env}:Qlj i k es env []:=trivial
theorem Qlj.cons{i k s:Nat}{es:List (List A)}{env:Env}{a b:A}{r:Env}(h:lk env s=a)(q:FzA i k es a b)(g:Qlj i k es env r):Qlj i k es env ((s,b)::r):=⟨h▸q,g⟩
def QcJ(P:Program)(env:Env)(H:Qd)(l:ResultVar)(x:A):Prop:=
 ∀fr ro σ N a w,Rel fr ro σ H env N a w->∃v,((match l with
  |.tmp t=>pure (a.tmps.getD t undef)
  |.cell b t=>do loadVar t (<- asAddr (a.tmps.getD b undef)):Sem Value)).run P w=.ok v w/\VR ro σ w x v
def Qh3(P:Program)(env:Env)(H:Qd):List ResultVar->List A->Prop
 |[],xs=>xs=[]
 |l::ls,xs=>∃x xs',xs=x::xs'/\QcJ P env H l x/\Qh3 P env H ls xs'
section
variable {P:Program} {fn:Func} {env:Env} {H:Qd}
theorem QcJ.tmp{t:Nat}{x:A}(d:lk env t=x:=by exact rfl):QcJ P env H (.tmp t) x:=
 λfr ro σ N a w r=>⟨a.tmps.getD t undef,rfl,d▸r.env t⟩
theorem QcJ.cell{b t:Nat}{p x:A}{g:List A}(n:∀w,(isAgg t).run P w=.ok false w)(i:Pts H p (x::g))(j:lk env b=p:=by exact rfl):QcJ P env H (.cell b t) x:=by
 intro e h σ N a w r;have d:=r.env b;rw[j]at d;obtain⟨m,f,k,⟨y,q,_,l⟩,_⟩:=i e h σ w _ r.sim d
 simp_all[asAddr,loadVar]
theorem Qdx{b t n:Nat}{p:A}{d:List A}(x:∀w,(isAgg t).run P w=.ok true w)(y:∀w,(sizeOf t).run P w=.ok n w)(j:Pts H p d)(k:lk env b=p:=by exact rfl)(hl:(d.take n).length=n:=by exact rfl):
  QcJ P env H (.cell b t) (.agg (d.take n)):=by
 intro f i σ N a w r;have e:=r.env b;rw[k]at e;obtain⟨u,g,q,m⟩:=j f i σ w _ r.sim e;obtain⟨l,h,_,s⟩:=Yu (P:=P) 0 (by simpa using m.take n);refine⟨.agg l.toArray,?_,l,rfl,h⟩
 simp_all[asAddr,loadVar,loadCells]
theorem Qg{b t n i T:Nat}{a:List A}(d:∀w,(isAgg t).run P w=.ok true w)(e:∀w,(sizeOf t).run P w=.ok n w)(f:lk env b=.ptr i 0)(g:H[i]?=some (.cells T a))(h:a.length=n):
  QcJ P env H (.cell b t) (.agg a):=by
 have:=Qdx d e (Pts.cells g rfl) f (by grind)
 grind
theorem QZ{b t i T:Nat}{x:A}(ha:∀w,(isAgg t).run P w=.ok false w)(hx:lk env b=.ptr i 0)(hH:H[i]?=some (.cells T [x])):QcJ P env H (.cell b t) x:=
 QcJ.cell ha (Pts.cells hH rfl) hx
theorem Qh3.nil:Qh3 P env H [] []:=rfl
theorem Qh3.cons{l:ResultVar}{ls:List ResultVar}{x:A}{xs:List A}(h:QcJ P env H l x)(k:Qh3 P env H ls xs):Qh3 P env H (l::ls) (x::xs):=⟨x,xs,rfl,h,k⟩
theorem Qh3.run{fr ro:Nat->Prop}{σ:Sig}{N:Nat}{a:Act}{w:World}(r:Rel fr ro σ H env N a w):∀{ls:List ResultVar} {xs:List A},Qh3 P env H ls xs->
  ∃vs:List Value,(ls.mapM λl=>(match l with
   |.tmp t=>pure (a.tmps.getD t undef)
   |.cell b t=>do loadVar t (<- asAddr (a.tmps.getD b undef)):Sem Value)).run P w=.ok vs w/\LR ro σ w xs vs
 |[],_,h=>by obtain rfl:_=[]:=h;exact⟨[],rfl,rfl⟩
 |l::ls,_,h=>by
  obtain⟨x,xs,rfl,h1,h2⟩:=h;obtain⟨v,e1,e2⟩:=h1 fr ro σ N a w r;obtain⟨vs,e3,e4⟩:=Qh3.run r h2;refine⟨v::vs,?_,v,vs,rfl,e2,e4⟩
  simp_all
theorem Qi{ls:List ResultVar}{xs:List A}(h:fn.results=ls.toArray)(m:Nat.beq ls.length 1=false)(k:Qh3 P env H ls xs):QbL P fn env H (.tup xs):=by
 intro p n σ N a w r;obtain⟨vs,j,e⟩:=k.run r;have d:¬vs.length=1:=by
  have:∀{ls:List ResultVar} {xs:List A},Qh3 P env H ls xs->xs.length=ls.length:=by
   intro ls
   induction ls with
   |nil=>intro xs h;obtain rfl:xs=[]:=h;rfl
   |cons l ls i=>intro xs h;obtain⟨x,g,rfl,_,f⟩:=h;simp[i f]
  rw[e.length,this k];intro q;simp_all
 refine⟨.tuple vs.toArray,?_,vs,rfl,e⟩;unfold results;rw[List.mapM_toArray,Vk,Sem.run_map]
 grind[Result.andThen,Sem.run_pure]
theorem Q8{l:ResultVar}{x:A}(h:fn.results= #[l])(k:QcJ P env H l x):QbL P fn env H x:=by
 intro g f σ N a w r;obtain⟨vs,e,d⟩:=(Qh3.cons k Qh3.nil).run r;obtain⟨v,_,rfl,d,rfl⟩:=d;refine⟨v,?_,d⟩;unfold results;rw[h,show #[l]=[l].toArray from rfl];rw[List.mapM_toArray,Vk,Sem.run_map]
 erw [e]
 rfl
end
mutual
def QiV:A->Bool
 |.bool _=>true
 |.int _ _=>true
 |.str _=>true
 |.agg cs=>QfO cs
 |_=>false
def QfO:List A->Bool
 |[]=>true
 |a::r=>QiV a&&QfO r
end
mutual
def QK:A->Value
 |.bool b=>.bool b
 |.int k n=>.int k n
 |.str s=>.string ⟨s.toArray⟩
 |.agg cs=>.agg (YE cs).toArray
 |_=>.bool false
def YE:List A->List Value
 |[]=>[]
 |a::r=>QK a::YE r
end
mutual
theorem VR.val{ro:Nat->Prop}{σ:Sig}{w:World}:∀{a:A} {v:Value},QiV a=true->VR ro σ w a v->v=QK a
 |.bool _,_,_,h=>h
 |.int _ _,_,_,h=>h
 |.str _,_,_,h=>h
 |.agg cs,v,hs,h=>by
  obtain⟨l,rfl,h⟩:=h;rw[QK,LR.val hs h]
theorem LR.val{ro:Nat->Prop}{σ:Sig}{w:World}:∀{az:List A} {l:List Value},QfO az=true->LR ro σ w az l->l=YE az
 |[],l,_,h=>h
 |a::r,l,hs,h=>by
  obtain⟨v,l',rfl,h1,h2⟩:=h;simp only[QfO,XV]at hs;rw[YE,VR.val hs.1 h1,LR.val hs.2 h2]
end
mutual
theorem QcG{ro:Nat->Prop}{σ:Sig}{w:World}:∀{a:A},QiV a=true->VR ro σ w a (QK a)
 |.bool _,_=>rfl
 |.int _ _,_=>rfl
 |.str _,_=>rfl
 |.agg cs,hs=>⟨YE cs,rfl,QeY hs⟩
theorem QeY{ro:Nat->Prop}{σ:Sig}{w:World}:∀{az:List A},QfO az=true->LR ro σ w az (YE az)
 |[],_=>rfl
 |a::r,hs=>by
  simp only[QfO,XV]at hs;exact⟨_,_,rfl,QcG hs.1,QeY hs.2⟩
end
open Go.MapKept
structure Jk (P:Program) (kt:TypeId) {α:Type} (ek:α->A):Prop where
 scl:∀x,QiV (ek x)=true
 inj:∀x y,QK (ek x)=QK (ek y)->x=y
 check:∀(w:World) em x,(Instr.checkKey em 10000 kt (QK (ek x))).run P w=.ok () w
 find:∀(w:World) x (es:List MapEntry),(∀e∈es,∃y,e.key=QK (ek y))->
  ((Instr.findKey kt (QK (ek x)) es).run P w=.ok none w/\ ∀e∈es,e.key≠QK (ek x))\/ ∃j e,(Instr.findKey kt (QK (ek x)) es).run P w=.ok (some (j,e.val)) w/\es[j]?=some e/\e.key=QK (ek x)
 stays:∀(w:World) x,(Instr.keyThatStays (QK (ek x)) (QK (ek x))).run P w=.ok (QK (ek x)) w
section
variable {P:Program} {kt:TypeId}
theorem Jk.plain{α:Type}{a:α->A}{d:TypeDesc}(i:P.underlying kt=some d)(e:∀x,IsKey d (QK (a x)))(f:∀x,QiV (a x)=true)(hi:∀x y,QK (a x)=QK (a y)->x=y):Jk P kt a:=by
 refine⟨f,hi,λw g x=>run_checkKey i (e x) g 9999,λw x j h=>?_,λw x=>run_keyThatStays (e x)⟩
 grind[findNow_spec,run_findKey]
theorem Jk.int{q:IntKind}(hk:P.underlying kt=some (.int q)):Jk P kt (λn=>A.int q n):=
 Jk.plain hk (λx=>by rfl) (λ_=>rfl) (λx y h=>by simpa[QK]using h)
theorem Jk.str(hk:P.underlying kt=some .string):Jk P kt A.str:=
 Jk.plain hk (λx=>by simp[IsKey,QK]) (λ_=>rfl) (λx y h=>by simpa[QK]using h)
theorem Jk.struct{α:Type}[DecidableEq α]{a:α->A}{fs:Array Field}(H:P.underlying kt=some (.struct fs))(r:∀x,QiV (a x)=true)(hi:∀x y,QK (a x)=QK (a y)->x=y)
  (t:∀(w:World) em x,(Instr.checkKey em 10000 kt (QK (a x))).run P w=.ok () w)
  (he:∀(w:World) x y,(Op.equal kt (QK (a x)) (QK (a y))).run P w=.ok (decide (x=y)) w)(s:∀x,Instr.sameBits 10000 (QK (a x)) (QK (a x))=true):Jk P kt a:=by
 refine⟨r,hi,t,λw x d q=>?_,λw x=>by simp[Instr.keyThatStays,s x]⟩
 .have k:∀(d:List MapEntry) (i:Nat),(∀e∈d,∃y,e.key=QK (a y))->
    ((Instr.findAsking kt (QK (a x)) d i).run P w=.ok none w/\ ∀e∈d,e.key≠QK (a x))\/
    ∃j e,(Instr.findAsking kt (QK (a x)) d i).run P w=.ok (some (i+j,e.val)) w/\d[j]?=some e/\e.key=QK (a x):=by
   intro d
   induction d with
   |nil=>simp_all[Instr.findAsking]
   |cons e d B=>
    intro i f;obtain⟨y,h⟩:=f e (by simp);have l:=he w x y;by_cases g:x=y
    .subst g;exact .inr ⟨0,e,by simp[Instr.findAsking,h,l],rfl,h⟩
    .rcases B (i+1) (λz n=>f z (by simp[n]))with⟨m,p⟩|⟨j,E,m,p,u⟩
     .refine .inl ⟨by simp[Instr.findAsking,h,l,g,m],λz n=>?_⟩
      grind
     .exact .inr ⟨j+1,E,by simp[Instr.findAsking,h,l,g,m,Nat.add_assoc,Nat.add_comm 1 j],by grind,u⟩
  cases d with
  |nil=>simp_all[Instr.findKey,run_underlying,Instr.findNow]
  |cons e d=>
   have G:Instr.findNow (.struct fs) (QK (a x)) (e::d) 0=none:=by
    rfl
   have F:(Instr.findKey kt (QK (a x)) (e::d)).run P w=(Instr.findAsking kt (QK (a x)) (e::d) 0).run P w:=by
    simp_all[Instr.findKey,run_underlying]
   grind
def YP{α β:Type}[DecidableEq α](l:List (α×β))(k:α):Option β:=(l.find? λp=>decide (p.1=k)).map (·.2)
def QW{α β:Type}[DecidableEq α](l:List (α×β))(k:α)(v:β):List (α×β):=bif l.any λp=>decide (p.1=k)then l.map λp=>bif decide (p.1=k)then(p.1,v)else p else l++[(k,v)]
def QA{α β:Type}[DecidableEq α](l:List (α×β))(k:α)(z:β):β:=(YP l k).getD z
def Jh{α β:Type}[DecidableEq α](l:List (α×β))(k:α):Bool:=l.any λp=>decide (p.1=k)
def Qf{α β:Type}(ek:α->A)(ev:β->A)(l:List (α×β)):List (A×A):=l.map λp=>(ek p.1,ev p.2)
section
variable {α β:Type} [DecidableEq α] {ek:α->A} {ev:β->A} {ro:Nat->Prop} {σ:Sig} {w:World} (K:Jk P kt ek)
include K
theorem Qgh:∀{l:List (α×β)} {es:List MapEntry},ER ro σ w (Qf ek ev l) es->es.map (·.key)=l.map λp=>QK (ek p.1)
 |[],es,h=>by cases(show es=[]from h);rfl
 |p::l,es,h=>by
  obtain⟨e,l',rfl,h1,h2,h3⟩:=h;simp only[Vh];rw[VR.val (K.scl _) h1,Qgh h3]
theorem Qhq{l:List (α×β)}{es:List MapEntry}(h:ER ro σ w (Qf ek ev l) es):∀e∈es,∃y,e.key=QK (ek y):=by
 intro e a;have:e.key∈es.map (·.key):=VC a;rw[Qgh K h]at this
 grind
theorem ER.find:∀{l:List (α×β)} {es:List MapEntry},ER ro σ w (Qf ek ev l) es->∀(x:α),(es.map (·.key)).Nodup->
  ((∀e,e∈es->e.key≠QK (ek x))->YP l x=none/\Jh l x=false)/\
  (∀(j:Nat) (e:MapEntry),es[j]?=some e->e.key=QK (ek x)->Jh l x=true/\ ∃v,YP l x=some v/\VR ro σ w (ev v) e.val)
 |[],es,h,x,_=>by
  cases(show es=[]from h);exact⟨λ_=>⟨rfl,rfl⟩,(by simp)⟩
 |p::l,es,h,x,hn=>by
  obtain⟨e0,l',rfl,h1,h2,h3⟩:=h;have hk:=VR.val (K.scl _) h1;simp[Vh,List.nodup_cons]at hn;obtain⟨a1,a2⟩:=ER.find h3 x hn.2;by_cases hp:p.1=x
  .grind[Jh,YP]
  .have e1:YP (p::l) x=YP l x:=by simp[YP,hp]
   have f:Jh (p::l) x=Jh l x:=by simp[Jh,hp]
   constructor
   .grind
   .intro j e a d;cases j with
    |zero=>
     simp[XD,Option.some.injEq]at a;subst a;exact absurd (K.inj _ _ (hk.symm.trans d)) hp
    |succ j=>grind
end
end
end Go.Sw
namespace Go.Sw
open Go.MapKept
section
variable {P:Program} {o:Oper} {env:Env} {H:Qd}
theorem Yg{T:Nat}(e:o.op=.makeMap T none:=by exact rfl):OpH P o env H (.map H.length) (H++[.map []]):=by
 intro f d σ N a w r;refine⟨.map (some w.heap.size),w.alloc (.map #[] 0),d,[some w.heap.size],?_,⟨w.heap.size,?_,rfl⟩,r.sim.alloc ⟨#[],0,Ys _ _,rfl,by simp,by simp,by simp⟩,Qh.alloc _ r.sim.roLt r.sim.frLt⟩
 .simp_all[execOp,Instr.makeMap]
 .rw[<- r.sim.len];simp
section
variable {T kt et:Nat} {α β:Type} [DecidableEq α] {ek:α->A} {ev:β->A} {x y:Operand} {i:Nat} {l:List (α×β)} {k:α} {z0:β} {z:Value}
theorem Qb9(K:Jk P kt ek){ro:Nat->Prop}{w:World}(m:P.underlying T=some (.map kt et))(s:∀w,(zeroValue et).run P w=.ok z w)(h:ZR (ev z0) z){b a:Nat}{es:Array MapEntry}
  (n:w.heap[b]?=some (.map es a))(he:ER ro [] w (Qf ek ev l) es.toList)(q:(es.toList.map (·.key)).Nodup):
  ∃v,(∀ck,(Instr.lookup T (.map (some b)) (QK (ek k)) ck).run P w=.ok (if ck then .tuple #[v,.bool (Jh l k)]else v) w)/\VR ro [] w (ev (QA l k z0)) v:=by
 obtain⟨p,r⟩:=ER.find K he k q;rcases K.find w k es.toList (Qhq K he)with⟨i,d⟩|⟨j,e,i,d,u⟩
 .obtain⟨f,g⟩:=p d;refine⟨z,λck=>?_,?_⟩
  .simp[Instr.lookup,Vk,run_underlying m,Result.andThen,MapKept.run_getObj_map n,Vl,K.check,i,s,g]
  .rw[QA,f];exact h _ _ _
 .obtain⟨f,v,g,t⟩:=r j e d u;refine⟨e.val,λck=>?_,?_⟩
  .simp[Instr.lookup,Vk,run_underlying m,Result.andThen,MapKept.run_getObj_map n,Vl,K.check,i,f]
  .rw[QA,g];exact t
theorem QY{zv:β}(K:Jk P kt ek)(h:some (QA l k z0)=some zv)(p:P.underlying T=some (.map kt et))(t:∀w,(zeroValue et).run P w=.ok z w)(e:ZR (ev z0) z)
  (J:o.op=.lookup T x y false:=by exact rfl)(hx:opA env x=.map i:=by exact rfl)(hH:H[i]?=some (.map (Qf ek ev l)):=by exact rfl)(hy:opA env y=ek k:=by exact rfl):OpV P o env H (ev zv):=by
 obtain rfl:=XY h;intro L Q σ N a w r;have g:=Qo r x;rw[hx]at g;obtain⟨b,j,F⟩:=g;have f:=Qo r y;rw[hy]at f;have O:=VR.val (K.scl _) f;obtain⟨G,d,s,n,E,M,m⟩:=r.sim.blk i _ _ j hH;obtain⟨v,B,u⟩:=Qb9 K p t e s n m;refine⟨v,?_,u.mono ⟨λ_ q=>q,λ_ _=>rfl,λ_ _ q=>q,(by simp)⟩⟩
 simp_all[execOp]
theorem Qbk{zv:β}(K:Jk P kt ek)(h:some (QA l k z0)=some zv)(p:P.underlying T=some (.map kt et))(t:∀w,(zeroValue et).run P w=.ok z w)(e:ZR (ev z0) z)
  (J:o.op=.lookup T x y true:=by exact rfl)(hx:opA env x=.map i:=by exact rfl)(hH:H[i]?=some (.map (Qf ek ev l)):=by exact rfl)(hy:opA env y=ek k:=by exact rfl):OpV P o env H (.tup [ev zv,.bool (Jh l k)]):=by
 obtain rfl:=XY h;intro L Q σ N a w r;have g:=Qo r x;rw[hx]at g;obtain⟨b,j,F⟩:=g;have f:=Qo r y;rw[hy]at f;have O:=VR.val (K.scl _) f;obtain⟨G,d,s,n,E,M,m⟩:=r.sim.blk i _ _ j hH;obtain⟨v,B,u⟩:=Qb9 K p t e s n m;refine⟨.tuple #[v,.bool (Jh l k)],?_,[v,.bool (Jh l k)],rfl,v,_,rfl,u.mono ⟨λ_ q=>q,λ_ _=>rfl,λ_ _ q=>q,(by simp)⟩,_,_,rfl,rfl,rfl⟩
 simp_all[execOp]
theorem QjG{zv:β}(K:Jk P kt ek)(h:some (QA l k z0)=some zv)(p:P.underlying T=some (.map kt et))(t:∀w,(zeroValue et).run P w=.ok z w)(e:ZR (ev z0) z)
  (J:o.op=.lookup T x y false:=by exact rfl)(hx:opA env x=.map i:=by exact rfl)(hH:H[i]?=some (.fmap (Qf ek ev l)):=by exact rfl)(hy:opA env y=ek k:=by exact rfl):OpV P o env H (ev zv):=by
 obtain rfl:=XY h;intro L Q σ N a w r;have g:=Qo r x;rw[hx]at g;obtain⟨b,j,F⟩:=g;have f:=Qo r y;rw[hy]at f;have O:=VR.val (K.scl _) f;obtain⟨_,G,d,s,n,E,M,m⟩:=r.sim.blk i _ _ j hH;obtain⟨v,B,u⟩:=Qb9 K p t e s n m;refine⟨v,?_,u.mono ⟨λ_ q=>q,λ_ _=>rfl,λ_ _ q=>q,(by simp)⟩⟩
 simp_all[execOp]
theorem Qdz(K:Jk P kt ek)(l:P.underlying T=some (.map kt et))(p:∀w,(zeroValue et).run P w=.ok z w)(d:ZR (ev z0) z)
  (m:o.op=.lookup T x y false:=by exact rfl)(hx:opA env x=.nilm:=by exact rfl)(hy:opA env y=ek k:=by exact rfl):OpV P o env H (ev z0):=by
 intro t s σ N a w r;have g:=Qo r x;rw[hx]at g;have f:=Qo r y;rw[hy]at f;have q:=VR.val (K.scl _) f;refine⟨z,?_,d _ _ _⟩;have i:(Instr.findKey kt (QK (ek k)) []).run P w=.ok none w:=by
  rcases K.find w k [] (by simp)with⟨h,_⟩|⟨j,e,_,h,_⟩
  .exact h
  .simp at h
 have n:a.eval x=.map none:=g;simp only[execOp,m,n,q,Vk,Instr.lookup,run_underlying l,Result.andThen,Vl,K.check,i,p];rfl
theorem ER.append{ro:Nat->Prop}{σ:Sig}{w:World}:∀{l m:List (A×A)} {es fs:List MapEntry},ER ro σ w l es->ER ro σ w m fs->ER ro σ w (l++m) (es++fs)
 |[],m,es,fs,h,k=>by cases(show es=[]from h);exact k
 |p::l,m,es,fs,h,k=>by
  obtain⟨e,l',rfl,h1,h2,h3⟩:=h;exact⟨e,l'++fs,rfl,h1,h2,ER.append h3 k⟩
theorem ER.put(K:Jk P kt ek){ro:Nat->Prop}{w w':World}{v:β}{val:Value}(a:Ext ro [] w ro [] w')(d:VR ro [] w (ev v) val):∀{l:List (α×β)} {es:List MapEntry} {j:Nat} {e:MapEntry},ER ro [] w (Qf ek ev l) es->
  (es.map (·.key)).Nodup->es[j]?=some e->e.key=QK (ek k)->
  ER ro [] w' (Qf ek ev (l.map λp=>bif decide (p.1=k)then(p.1,v)else p)) (es.modify j λe=>{e with key:=QK (ek k),val:=val})
 |[],es,j,e,h,hn,he,hk=>by cases(show es=[]from h);simp at he
 |p::l,es,j,e,h,hn,he,hk=>by
  obtain⟨e0,l',rfl,h1,h2,h3⟩:=h;have hk0:=VR.val (K.scl _) h1;simp only[Vh,List.nodup_cons]at hn;cases j with
  |zero=>
   simp[XD,Option.some.injEq]at he;subst he;have hp:=K.inj _ _ (hk0.symm.trans hk);have e1:Qf ek ev ((p::l).map λp=>bif decide (p.1=k)then(p.1,v)else p)=(ek p.1,ev v)::Qf ek ev l:=by
    simp only[Qf,Vh,hp,decide_true,Vm,List.map_map,List.cons.injEq,true_and];apply List.map_congr_left;intro q f;have:q.1≠k:=by
     intro e;refine hn.1 ?_;rw[Qgh K h3];exact Xe.2 ⟨q,f,by rw[e, <- hp,hk0]⟩
    simp[this]
   rw[e1];refine⟨_,l',rfl,?_,d.mono a,h3.mono a⟩;rw[<- hp];exact QcG (K.scl _)
  |succ j=>
   have hp:p.1≠k:=by
    intro q;refine hn.1 (Xe.2 ⟨e,VD he,?_⟩);rw[hk,hk0,q]
   have e1:Qf ek ev ((p::l).map λp=>bif decide (p.1=k)then(p.1,v)else p)=(ek p.1,ev p.2)::Qf ek ev (l.map λp=>bif decide (p.1=k)then(p.1,v)else p):=by
    simp[Qf,hp]
   rw[e1];exact⟨_,_,rfl,h1.mono a,h2.mono a,ER.put K a d h3 hn.2 he hk⟩
theorem Q3{m:List (α×β)}(K:Jk P kt ek){v:β}{s:Operand}(hm:some (QW l k v)=some m)(hd:Yo (ev v)=true)(hT:P.underlying T=some (.map kt et))
  (ho:o.op=.mapUpdate T x y s:=by exact rfl)(hx:opA env x=.map i:=by exact rfl)(hH:H[i]?=some (.map (Qf ek ev l)):=by exact rfl)(hy:opA env y=ek k:=by exact rfl)(hv:opA env s=ev v:=by exact rfl):
  OpU P o env H (H.set i (.map (Qf ek ev m))):=by
 obtain rfl:=XY hm;intro fr V σ N a w r;have h1:=Qo r x;rw[hx]at h1;obtain⟨b,X,q2⟩:=h1;have h2:=Qo r y;rw[hy]at h2;have h3:=VR.val (K.scl _) h2;have h4:=Qo r s;rw[hv]at h4;have J:VR V [] w (ev v) (a.eval s):=VR.data hd h4;obtain⟨u,d,L,M,p3,p4,Q⟩:=r.sim.blk i _ _ X hH;obtain⟨f1,f2⟩:=ER.find K M k Q;have G:∀(obj:Obj) y,w.shape? b=some y->({w with heap:=w.heap.setIfInBounds b obj}:World).shape? b=some y:=by
  grind[World.shape?]
 rcases K.find w k u.toList (Qhq K M)with⟨W,F⟩|⟨j,e,W,F,O⟩
 .obtain⟨u1,u2⟩:=f1 F;have hl:QW l k v=l++[(k,v)]:=by
   unfold QW;rw[show(l.any λp=>decide (p.1=k))=false from u2];rfl
  have g:=r.sim.set (x':=.map (Qf ek ev (QW l k v))) (obj:=.map (u.push {key:=QK (ek k),val:=a.eval s,born:=d}) (d+1)) X hH rfl (G _)
   (λe Y=>⟨_,_,Y,by
    rw[hl,Qf,Xf,Array.toList_push];exact(M.mono ⟨e.sub,e.keep,e.shape,λ_ _ q=>q⟩).append ⟨_,_,rfl,QcG (K.scl _),J.mono ⟨e.sub,e.keep,e.shape,λ_ _ q=>q⟩,rfl⟩,by
    grind,by
    grind,by
    grind⟩)
  refine⟨_,V,[],?_,by grind,g.2⟩;simp only[execOp,ho,q2,h3,Vk,Instr.mapUpdate,run_underlying hT,Result.andThen,MapKept.run_getObj_map L,K.check,W,MapKept.run_setObj_map _ L];rfl
 .obtain⟨u1,u2⟩:=f2 j e F O;have hl:QW l k v=l.map λp=>bif decide (p.1=k)then(p.1,v)else p:=by
   unfold QW;rw[show(l.any λp=>decide (p.1=k))=true from u1];rfl
  have hj:u[j]?=some e:=by grind
  have n:(u.modify j λe=>{e with key:=QK (ek k),val:=a.eval s}).toList=u.toList.modify j λe=>{e with key:=QK (ek k),val:=a.eval s}:=by simp
  have t:∀{γ:Type} (f:MapEntry->γ),(∀E,u.toList[j]?=some E->f {E with key:=QK (ek k),val:=a.eval s}=f E)->(u.toList.modify j λe=>{e with key:=QK (ek k),val:=a.eval s}).map f=u.toList.map f:=by
   intro γ f hf;apply List.ext_getElem?
   grind
  have g:=r.sim.set (x':=.map (Qf ek ev (QW l k v))) (obj:=.map (u.modify j λe=>{e with key:=QK (ek k),val:=a.eval s}) d) X hH rfl (G _)
   (λR Y=>⟨_,_,Y,by
    rw[hl,n];exact ER.put K ⟨R.sub,R.keep,R.shape,λ_ _ q=>q⟩ J M Q F O,by
    rw[n];intro E z;have:E.born∈(u.toList.modify j λe=>{e with key:=QK (ek k),val:=a.eval s}).map (·.born):=VC z;rw[t (·.born) (λ_ _=>rfl)]at this;obtain⟨e2,h,h'⟩:=Xe.1 this;rw[<- h'];exact p3 e2 h,by
    rw[n,t (·.born) (λ_ _=>rfl)];exact p4,by
    rw[n,t (·.key) (λE z=>by rw[F]at z;cases z;exact O.symm)];exact Q⟩)
  refine⟨_,V,[],?_,by simpa using g.1,g.2⟩;have B:=K.stays w k;simp only[execOp,ho,q2,h3,Vk,Instr.mapUpdate,run_underlying hT,Result.andThen,MapKept.run_getObj_map L,K.check,W,hj,Xj,Option.getD_some,O,B,MapKept.run_setObj_map _ L];rfl
theorem ER.length{ro:Nat->Prop}{σ:Sig}{w:World}:∀{l:List (A×A)} {es:List MapEntry},ER ro σ w l es->es.length=l.length
 |[],es,h=>by cases(show es=[]from h);rfl
 |p::l,es,h=>by
  obtain⟨e,l',rfl,_,_,h3⟩:=h;simp[ER.length h3]
theorem QeS{c:Call}{n:Int}(m:P.underlying T=some (.map kt et))(t:(l.length:Int)=n)(u:o.op=.call c:=by exact rfl)(hc:c={callee:=.builtin .len,args:= #[x],argTypes:= #[T]}:=by exact rfl)
  (hx:opA env x=.map i:=by exact rfl)(hH:H[i]?=some (.map (Qf ek ev l)):=by exact rfl):OpV P o env H (.int .i64 n):=by
 intro F E σ N a w r;have h:=Qo r x;rw[hx]at h;obtain⟨b,k,f⟩:=h;obtain⟨g,e,q,j,z,y,B⟩:=r.sim.blk i _ _ k hH;have p:=j.length;refine⟨.int .i64 n,?_,rfl⟩;have d:goInt g.size=.int .i64 n:=by
  have:g.size=l.length:=by rw[<- Array.length_toList,p];simp[Qf]
  rw[this, <- t];rfl
 subst hc;have s:=f;generalize a.eval=ρ at*;rw[<- d];simp[execOp,u,f,resolve,invoke,Go.builtin,Builtin.len_,run_underlying m,MapKept.run_getObj_map q,go_sem]
end
end
end Go.Sw
namespace Go.Sw
open Go.ChangeMaps (setBlock)
section
variable {P:Program} {o:Oper} {env:Env} {H:Qd} {h0 N:Nat} {Q:QE}
def OpE(P:Program)(o:Oper)(env:Env)(H:Qd)(K:A->Qd->Prop):Prop:=
 ∀fr ro σ N a w,Rel fr ro σ H env N a w->∃x H' v w' ro' τ,K x H'/\(execOp a.eval o).run P w=.ok (.value v) w'/\VR ro' (σ++τ) w' x v/\
  Sim fr ro' (σ++τ) H' w'/\Qh fr ro w ro' w'
theorem Qk2{all:Array Oper}{l:List Oper}{d:Nat}{K:A->Qd->Prop}(u:h0<=H.length)(hg:QG all o env true)(n:o.dst=some d)(F:Nat.blt d N=true)
  (h:OpE P o env H K)(k:∀x H',K x H'->WO P h0 N all l (up env d x) H' Q):WO P h0 N all (o::l) env H Q:=by
 intro t fr y σ a w r hrd;obtain⟨x,H',v,j,f,τ,z,B,m,E,g⟩:=h fr y σ N a w r;refine Qaa (YI hg r) B ?_;simp[n];have i:d<N:=by simp_all
 have p:Rel fr f (σ++τ) H' (up env d x) N {a with tmps:=a.tmps.setIfInBounds d v} j:=
  ⟨E,VR.up (fr:=fr) (λs=>(r.env s).mono (g.ext σ τ)) (by rw[r.size];exact i) m,by simpa using r.size,r.defers.keep g⟩
 refine Yn (λe a w q=>q.step g (QM ?_)) _ _ _ (k x H' z t fr f (σ++τ) _ j p (hrd.to g λ_ q=>q));rw[r.sim.len];exact u
theorem Sim.shutMap{fr ro:Nat->Prop}{σ:Sig}{w:World}(s:Sim fr ro σ H w){i b:Nat}{es:List (A×A)}(hσ:σ[i]?=some (some b))(p:H[i]?=some (.map es)):
  Sim fr (λc=>ro c\/c=b) σ (H.set i (.fmap es)) w:=by
 have hown:=s.own i b _ hσ p rfl;have ext:Ext ro σ w (λc=>ro c\/c=b) σ w:=⟨λ_ q=>.inl q,λ_ _=>rfl,λ_ _ q=>q,λ_ _ q=>q⟩;have a:∀(j:Nat) (v:Blk),(H.set i (.fmap es))[j]?=some v->v.live=true->j≠i/\H[j]?=some v:=by
  intro j v h F;by_cases e:j=i
  .subst e;rw[Xb]at h
   grind[Blk.live]
  grind
 have n:∀(j:Nat) (v:Blk),(H.set i (.fmap es))[j]?=some v->v.holds=true->H[j]?=some v:=by
  intro j v h F;by_cases e:j=i
  .subst e;rw[Xb]at h;simp only[if_true]at h;split at h
   .cases h;cases F
   .simp at h
  grind
 refine⟨by rw[X3];exact s.len,s.roOk.to (λ_ q=>.inl q) (λ_ _=>rfl) ?_,s.frLt,?_,?_,?_,?_,s.hidTo (· = ·) Q7 (XS _) (λj d x c M N L O=>O.elim id λq=>((s.hid j d x c M N L).ne i b _ hσ p rfl q).elim) (by simp) (by grind)⟩
 .rintro c (q|rfl)
  .exact s.roLt c q
  omega
 .rintro c (q|rfl)
  .exact s.roFr c q
  grind
 .intro j c v g f m;obtain⟨e,f⟩:=a j v f m;obtain⟨r,u,t⟩:=s.own j c v g f m;refine⟨r,?_,t⟩;rintro(q|rfl)
  .exact u q
  .exact e (s.inj j i c v _ g hσ f p m rfl)
 .intro j E c v B g f m J G z;exact s.inj j E c v B g f (a j v m G).2 (a E B J z).2 G z
 .intro j y v g f;by_cases e:j=i
  .subst e;rw[hσ]at g;cases g;rw[Xb]at f;simp only[if_true]at f;split at f
   .cases f;obtain⟨l,k,r,u,t⟩:=s.blk j _ _ hσ p;exact⟨.inr rfl,l,k,r,u.mono ext.nil,t⟩
   .simp at f
  .rw[XO (λq=>e q.symm)]at f;exact(s.blk j y v g f).keep ext (λ_ _ _=>rfl) (λ_ _ _ _=>rfl)
section
variable {T kt et i:Nat} {x:Operand} {es:List (A×A)}
theorem OpH.range(z:P.underlying T=some (.map kt et))(E:o.op=.range T x:=by exact rfl)(hx:opA env x=.map i:=by exact rfl)(hH:H[i]?=some (.map es):=by exact rfl):
  OpH P o env H (.ptr H.length 0) (H.set i (.fmap es)++[.iter none es]):=by
 intro s j σ N a w r;have n:=Qo r x;rw[hx]at n;obtain⟨b,k,B⟩:=n;obtain⟨l,d,p,y,u,t,G⟩:=r.sim.blk i _ _ k hH;have F:=(r.sim.own i b _ k hH rfl).1;have m:=r.sim.shutMap k hH;have f:Qh s j w (λc=>j c\/c=b) w:=Q1 (λ_ q=>.inl q);have g:Qh s (λc=>j c\/c=b) w (λc=>j c\/c=b) (w.alloc (.mapIter (some b) d #[] d)):=Qh.alloc _ m.roLt m.frLt;have ext0:=(f.trans g).ext0 [];refine⟨.pointer (some ⟨w.heap.size,0,none⟩),w.alloc (.mapIter (some b) d #[] d),_,[some w.heap.size],?_,⟨w.heap.size,?_,rfl⟩,
  m.alloc (.inr ⟨b,l,d, #[],l.toList,Ys _ _,.inr rfl,by rw[Yh _ _ _ F];exact p,u,t,?_,y.mono ext0,λ_ h=>by cases h⟩),f.trans g⟩
 .simp only[execOp,E,B,Instr.range,Vk,run_underlying z,Result.andThen,MapKept.run_getObj_map p];rfl
 .rw[<- r.sim.len];simp
 .have:l.toList.filter (λe=> !#[].contains e.born)=l.toList:=by simp
  rw[this]
theorem Qh4(t:P.underlying T=some (.map kt et))(y:o.op=.range T x:=by exact rfl)(hx:opA env x=.map i:=by exact rfl)(hH:H[i]?=some (.fmap es):=by exact rfl):
  OpH P o env H (.ptr H.length 0) (H++[.iter none es]):=by
 intro B k σ N a w r;have m:=Qo r x;rw[hx]at m;obtain⟨b,s,u⟩:=m;obtain⟨f,l,d,j,q,p,n,E⟩:=r.sim.blk i _ _ s hH;have z:=r.sim.roLt b f;have g:Qh B k w k (w.alloc (.mapIter (some b) d #[] d)):=Qh.alloc _ r.sim.roLt r.sim.frLt;have ext0:=g.ext0 [];refine⟨.pointer (some ⟨w.heap.size,0,none⟩),w.alloc (.mapIter (some b) d #[] d),_,[some w.heap.size],?_,⟨w.heap.size,?_,rfl⟩,
  r.sim.alloc (.inr ⟨b,l,d, #[],l.toList,Ys _ _,f,by rw[Yh _ _ _ z];exact j,p,n,?_,q.mono ext0,λ_ h=>by cases h⟩),g⟩
 .simp only[execOp,y,u,Instr.range,Vk,run_underlying t,Result.andThen,MapKept.run_getObj_map j];rfl
 .rw[<- r.sim.len];simp
 .have:l.toList.filter (λe=> !#[].contains e.born)=l.toList:=by simp
  rw[this]
theorem ER.mem{ro:Nat->Prop}{σ:Sig}{w:World}:∀{es:List (A×A)} {l:List MapEntry},ER ro σ w es l->∀e∈l,∃x es' l',(x::es').Perm es/\(e::l').Perm l/\VR ro σ w x.1 e.key/\VR ro σ w x.2 e.val/\ER ro σ w es' l'
 |[],l,h,e,he=>by cases(show l=[]from h);cases he
 |y::es,l,h,e,he=>by
  obtain⟨e0,l',rfl,h1,h2,h3⟩:=h;rcases X5.1 he with rfl|he
  .exact⟨y,es,l',.refl _,.refl _,h1,h2,h3⟩
  .obtain⟨x,es',l'',p1,p2,v1,v2,h4⟩:=ER.mem h3 e he;exact⟨x,y::es',e0::l'',(List.Perm.swap _ _ _).trans (p1.cons _),(List.Perm.swap _ _ _).trans (p2.cons _),v1,v2,⟨e0,l'',rfl,h1,h2,h4⟩⟩
theorem Qhf:∀{l:List MapEntry},(l.map (·.born)).Nodup->∀a∈l,∀b∈l,a.born=b.born->a=b
 |[],_,a,ha,_,_,_=>by cases ha
 |c::l,hn,a,ha,b,hb,hab=>by
  simp[Vh,List.nodup_cons]at hn;rcases X5.1 ha with ea|ha'<;>rcases X5.1 hb with eb|hb'
  .rw[ea,eb]
  .grind
  .grind
  .exact Qhf hn.2 a ha' b hb' hab
def NextK(H:Qd)(i:Nat)(cur:Option (A×A))(es:List (A×A))(v:A)(H':Qd):Prop:=
 (es=[]/\v=.tup [.bool false]/\H'=H)\/ ∃e es',(e::es').Perm es/\v=.tup [.bool true,e.1,e.2]/\H'=H.set i (.iter (some e) es')
theorem OpE.next{O:Option (A×A)}(ho:o.op=.next x false:=by exact rfl)(hx:opA env x=.ptr i 0:=by exact rfl)(hH:H[i]?=some (.iter O es):=by exact rfl):
  OpE P o env H (NextK H i O es):=by
 intro fr u σ N a w r;have h1:=Qo r x;rw[hx]at h1;obtain⟨b,q1,q2⟩:=h1;have k:∀(v:Value) (g:World),g.heap=w.heap->g.os=w.os->g.tape=w.tape->g.output=w.output->w.drawn<=g.drawn->Sim fr u (σ++[]) H g/\Qh fr u w u g:=by
  intro v g T e2 e3 e4 e5;exact⟨by simpa using r.sim.heap T,Qh.heap T e2 e3 e4 e5⟩
 rcases r.sim.blk i _ _ q1 hH with⟨rfl,rfl,p⟩|⟨m,l,f,d,left,p1,p2,p3,p4,W,p6,p7,p8⟩
 .refine⟨_,_,.tuple #[.bool false],w,u,[],.inl ⟨rfl,rfl,rfl⟩,?_,⟨_,rfl,_,_,rfl,rfl,rfl⟩,k (.bool false) w rfl rfl rfl rfl (XS _)⟩;generalize a.eval=ρ at*;simp only[execOp,ho,q2,Instr.next,Vk,getObj,Sem.run,p,Result.andThen];rfl
 .have aa:(leftOf l d).toList=l.toList.filter λe=> !d.contains e.born:=by simp[leftOf]
  have n:left.Perm (leftOf l d).toList:=by grind
  rcases run_next_at (P:=P) w o.type b m f f d l f p1 p3 p4 (XS _)with⟨g1,g2⟩|⟨e,g1,g,g2,g3⟩
  .have ab:left=[]:=by
    have:left.length=0:=by rw[n.length_eq];omega
    grind
   subst ab;have ad:es=[]:=by
    have:=p7.length
    grind
   refine⟨_,_,.tuple #[.bool false],w,u,[],.inl ⟨ad,rfl,rfl⟩,?_,⟨_,rfl,_,_,rfl,rfl,rfl⟩,k (.bool false) w rfl rfl rfl rfl (XS _)⟩
   simp_all[execOp]
  .have he:e∈left:=n.mem_iff.2 g1;have G:e∈l.toList:=by grind
   obtain⟨y,J,L,k1,k2,v1,v2,k3⟩:=p7.mem e he;have s:g.heap=w.heap/\g.os=w.os/\g.tape=w.tape/\g.output=w.output/\w.drawn<=g.drawn:=by
    rcases g2 with rfl|rfl
    .simp
    .exact⟨rfl,rfl,rfl,rfl,Nat.le_succ _⟩
   obtain⟨s1,E⟩:=k (.bool false) g s.1 s.2.1 s.2.2.1 s.2.2.2.1 s.2.2.2.2;rw[Ve]at s1;have ae:b≠m:=by
    grind
   have B:=s1.set (x':=.iter (some y) J) (obj:=.mapIter (some m) f (d.push e.born) f) q1 hH rfl
    (λz M=>by
     grind[World.shape?])
    (λt ac=>.inr ⟨m,l,f,d.push e.born,L,ac,t.sub _ p2,by
      grind,p4,W,by
      have Y:(l.toList.filter λe=> !d.contains e.born).Nodup:=by
       have:l.toList.Nodup:=List.Pairwise.of_map _ (λa b h q=>h (congrArg _ q)) W;exact this.filter _
      have hp:(e::L).Perm (l.toList.filter λe=> !d.contains e.born):=k2.trans p6;have Q:(e::L).Nodup:=hp.nodup_iff.2 Y;have T:(l.toList.filter λF=> !(d.push e.born).contains F.born)=(l.toList.filter λe=> !d.contains e.born).filter λF=> !decide (F.born=e.born):=by
       rw[List.filter_filter];apply List.filter_congr;intro z _;simp[Array.contains_push,Bool.and_comm]
      rw[T];have h2:=hp.filter (λF=> !decide (F.born=e.born));have e2:(e::L).filter (λF=> !decide (F.born=e.born))=L:=by
       rw[List.filter_cons_of_neg (by simp),List.filter_eq_self];intro z M;have X:z∈l.toList:=(Xd.1 (hp.mem_iff.1 (X4 _ M))).1;simp only[Bool.not_eq_true',decide_eq_false_iff_not];intro hb;have:z=e:=by
        exact Qhf W z X e G hb
       subst this;exact(List.nodup_cons.1 Q).1 M
      rw[e2]at h2;exact h2,by
      have V:Ext u [] w u [] g:=E.ext0 [];exact(k3.mono V).mono ⟨t.sub,t.keep,t.shape,λ_ _ q=>q⟩,by
      intro z M;cases M;have V:Ext u [] w u [] g:=E.ext0 [];exact⟨e,G,by simp,(v1.mono V).mono ⟨t.sub,t.keep,t.shape,λ_ _ q=>q⟩,(v2.mono V).mono ⟨t.sub,t.keep,t.shape,λ_ _ q=>q⟩⟩⟩)
   have R:=E.trans B.2;have xt:=R.ext0 [];refine⟨_,_,.tuple #[.bool true,e.key,e.val],_,u,[],.inr ⟨y,J,k1,rfl,rfl⟩,?_,
    ⟨[.bool true,e.key,e.val],rfl,_,_,rfl,rfl,_,_,rfl,(v1.mono xt).mono ⟨λ_ q=>q,λ_ _=>rfl,λ_ _ q=>q,λj c q=>by simp at q⟩,_,_,rfl,(v2.mono xt).mono ⟨λ_ q=>q,λ_ _=>rfl,λ_ _ q=>q,λj c q=>by simp at q⟩,rfl⟩,by simpa using B.1,R⟩
   generalize a.eval=ρ at*;simp only[execOp,ho,q2,Vk,g3,Result.andThen,setBlock];rfl
theorem OpV.entry{e:A×A}(B:o.op=.entry x:=by exact rfl)(hx:opA env x=.ptr i 0:=by exact rfl)(hH:H[i]?=some (.iter (some e) es):=by exact rfl):OpV P o env H (.tup [e.1,e.2]):=by
 intro F L σ N a w r;have j:=Qo r x;rw[hx]at j;obtain⟨b,u,O⟩:=j;rcases r.sim.blk i _ _ u hH with⟨_,h,_⟩|⟨m,l,d,g,left,J,R,M,Q,k,E,G,t⟩
 .cases h
 .obtain⟨f,y,z,p,s⟩:=t e rfl;refine⟨.tuple #[f.key,f.val],?_,[f.key,f.val],rfl,_,_,rfl,p.mono ⟨λ_ q=>q,λ_ _=>rfl,λ_ _ q=>q,(by simp)⟩,_,_,rfl,s.mono ⟨λ_ q=>q,λ_ _=>rfl,λ_ _ q=>q,(by simp)⟩,rfl⟩;have n:l.find? (·.born==f.born)=some f:=by rw[<- Array.find?_toList];exact find_born f l.toList k y
  simp_all[execOp,Instr.entry,getObj,Sem.run]
end
end
end Go.Sw
namespace Go.Sw
def Qhy{S E B:Type}(stepE:S->E->Option (Ctl S B))(stepN:S->Option B):S->List E->Option B
 |s,[]=>stepN s
 |s,e::p=>match stepE s e with
  |some (.cont s')=>Qhy stepE stepN s' p
  |some (.done b)=>some b
  |none=>none
def Qc7{E:Type}(x:E):List E->List (List E)
 |[]=>[[x]]
 |y::l=>(x::y::l)::(Qc7 x l).map (y:: ·)
def Qfk{E:Type}:List E->List (List E)
 |[]=>[[]]
 |x::l=>(Qfk l).flatMap (Qc7 x)
theorem Qem{E:Type}(x:E):∀(a b:List E),a++x::b∈Qc7 x (a++b)
 |[],[]=>by simp[Qc7]
 |[],y::b=>by simp[Qc7]
 |y::a,b=>by
  simp only[VG,Qc7,X5,Xe];exact .inr ⟨a++x::b,Qem x a b,rfl⟩
theorem Qfj{E:Type}:∀(l p:List E),p.Perm l->p∈Qfk l
 |[],p,h=>by rw[List.perm_nil.1 h];simp[Qfk]
 |x::l,p,h=>by
  have hx:x∈p:=h.mem_iff.2 (by simp);obtain⟨a,b,rfl⟩:=List.append_of_mem hx;have h2:=(List.perm_cons x).1 ((List.perm_middle.symm).trans h);simp[Qfk,List.mem_flatMap];exact⟨a++b,Qfj l _ h2,Qem x a b⟩
def anyP{E R:Type}[DecidableEq R](k:List E->Option R)(l:List E):Option R:=bif (Qfk l).all (λp=>decide (k p=k l))then k l else none
theorem Ql9{E R:Type}[DecidableEq R]{k:List E->Option R}{l:List E}{r:R}(h:anyP k l=some r)(p:List E)(a:p.Perm l):k p=some r:=by
 unfold anyP at h;cases q:(Qfk l).all (λp=>decide (k p=k l))with
 |true=>
  simp_all[Qfj]
 |false=>grind
def Qhs{S E B:Type}(stepE:S->E->Option (Ctl S B))(stepN:S->Option B)(G:B->Prop)(s:S)(l:List E):Prop:=∀p,p.Perm l->∃b,Qhy stepE stepN s p=some b/\G b
section
variable {P:Program} {o:Oper} {env:Env} {H:Qd} {h0 N:Nat} {Q:QE} {c:Code}
def QbW(I:Env->Qd->Prop)(Q:QE):QE
 |.normal,env,H=>I env H
 |.exit id,env,H=>Q (.exit id) env H
 |.ret,env,H=>Q .ret env H
theorem Qk7{I:Nat->Env->Qd->Prop}(p:∀n env H,I n env H->TC P h0 N c env H (QbW (λenv H=>∃n',n'<n/\I n' env H) Q)){n:Nat}(E:I n env H):TC P h0 N (.loop c) env H Q:=by
 intro L j y σ a w r hrd b k cs hro hb hr;have F:∀m n env H fr1 ro1 σ1 a1 w1,n<m->I n env H->Rel fr1 ro1 σ1 H env N a1 w1->Qh j y w ro1 w1->σ1.take h0=σ.take h0->Grow j w a.defers fr1 a1.defers->
   ∃e h g,Qap h0 j y σ w N a.defers Q e h g/\ArrivesIn (Machine.fenced P (WF L)) P (lone (b.atR a1 (.code c::.inLoop c::k)) cs w1) b k cs e h g:=by
  intro m
  induction m with
  |zero=>omega
  |succ m T=>
   intro n env H fr1 ro1 σ1 a1 w1 hn E r1 ev1 t1 g1;obtain⟨e,h,g,B,d⟩:=p n env H E L fr1 ro1 σ1 a1 w1 r1 (hrd.to ev1 g1.sub) b (.inLoop c::k) cs hro hb hr;obtain⟨x,f,H',l,σ',s,z,u,M,Y,O,q6⟩:=B;have t:=ev1.trans (Y.frMono g1.sub);have J:=g1.trans ev1.size q6;have R:∀x,Q x f H'->ExR e x->Qap h0 j y σ w N a.defers Q e h g:=λx q q'=>⟨x,f,H',l,σ',s,q',q,M,t,O.trans t1,J⟩;cases e with
   |normal=>
    obtain rfl:x=.normal:=z;obtain⟨n',W,u⟩:=u;obtain⟨e2,X,V,G,i⟩:=T n' f H' s l σ' h g (by omega) u M t (O.trans t1) J;exact⟨e2,X,V,G,.of_steps (StepsIn.trans d (.one (fenced_calm hb hr rfl) stepR_inLoop)) i⟩
   |exit id=>
    obtain rfl:x=.exit id:=z;exact⟨_,h,g,R _ u rfl,.pass rfl (by simp) d⟩
   |ret=>
    obtain rfl:x=.ret:=z;exact⟨_,h,g,R _ u rfl,.pass rfl (by simp) d⟩
   |_=>exact z.elim
 obtain⟨e,h,g,B,d⟩:=F (n+1) n env H j y σ a w (Xn _) E r (Qh.refl _ _ _) rfl (Grow.refl _ _ _);exact⟨e,h,g,B,.of_steps (.one (fenced_calm hb hr rfl) stepR_loop) d⟩
section
variable {S E B:Type} {stepE:S->E->Option (Ctl S B)} {stepN:S->Option B} {G:B->Prop} (Es:S->Env) (Hp:S->List (A×A)->Qd) {enc:E->A×A}
def AtP(stepE:S->E->Option (Ctl S B))(stepN:S->Option B)(G:B->Prop)(enc:E->A×A)(h0 n:Nat)(env:Env)(H:Qd):Prop:=
 ∃s l,l.length=n/\Qhs stepE stepN G s l/\Le h0 env H (Es s) (Hp s (l.map enc))
theorem Qk6{s0:S}{l0:List E}(h:Qhs stepE stepN G s0 l0)(hI:Le h0 env H (Es s0) (Hp s0 (l0.map enc)))
  (body:∀s l,Qhs stepE stepN G s l->TC P h0 N c (Es s) (Hp s (l.map enc)) (QbW (λenv H=>∃n',n'<l.length/\AtP Es Hp stepE stepN G enc h0 n' env H) Q)):TC P h0 N (.loop c) env H Q:=
 Qk7 (I:=AtP Es Hp stepE stepN G enc h0) (λn env H ⟨s,l,hn,ha,hle⟩=>by subst hn;exact TC.le hle (body s l ha)) ⟨s0,l0,rfl,h,hI⟩
theorem Qi1{α β:Type}{f:α->β}:∀{m e:List β},m.Perm e->∀{l:List α},e=l.map f->∃l':List α,l'.Perm l/\l'.map f=m:=by
 intro m e h
 induction h with
 |nil=>simp
 |cons x _ ih=>
  intro l d;cases l with
  |nil=>cases d
  |cons a l=>
   simp[Vh,List.cons.injEq]at d;obtain⟨l',g,i⟩:=ih d.2;exact⟨a::l',g.cons _,by grind⟩
 |swap x y m=>
  intro l d
  match l,d with
  |a::b::l,d=>
   exact⟨b::a::l,List.Perm.swap _ _ _,by grind⟩
 |trans _ _ ih1 ih2=>
  intro l d;obtain⟨p,g,i⟩:=ih2 d;obtain⟨k,n,j⟩:=ih1 i.symm;exact⟨k,n.trans g,j⟩
theorem Qk3{all:Array Oper}{L:List Oper}{d i:Nat}{x:Operand}{r:Option (A×A)}{s:S}{l:List E}(w:Qhs stepE stepN G s l)
  (F:∀b,stepN s=some b->G b->WO P h0 N all L (up env d (.tup [.bool false])) H Q)
  (z:∀e l' D,stepE s e=some D->(∀b,D=.done b->G b)->(l'.length<l.length/\ ∀s',D=.cont s'->Qhs stepE stepN G s' l')->
   WO P h0 N all L (up env d (.tup [.bool true,(enc e).1,(enc e).2])) (H.set i (.iter (some (enc e)) (l'.map enc))) Q)
  (B:o.op=.next x false:=by exact rfl)(hx:opA env x=.ptr i 0:=by exact rfl)(hH:H[i]?=some (.iter r (l.map enc)):=by exact rfl)
  (hg:QG all o env true:=by exact rfl)(hd:o.dst=some d:=by exact rfl)(hN:Nat.blt d N=true:=by exact rfl)(hh:Nat.ble h0 H.length=true:=by exact rfl):WO P h0 N all (o::L) env H Q:=by
 refine Qk2 (XQ hh) hg hd hN (OpE.next B hx hH) ?_;rintro v H' (⟨n,rfl,rfl⟩|⟨e,J,n,rfl,rfl⟩)
 .have:=List.map_eq_nil_iff.1 n;subst this;obtain⟨b,j,k⟩:=w [] (.refl _);exact F b j k
 .obtain⟨y,j,k⟩:=Qi1 n rfl;cases y with
  |nil=>cases k
  |cons a l'=>
   obtain⟨rfl,rfl⟩:=k;have g:l'.length<l.length:=by rw[<- j.length_eq];simp
   have f:∀p,p.Perm l'->∃b,Qhy stepE stepN s (a::p)=some b/\G b:=λp q=>w _ ((q.cons a).trans j);cases m:stepE s a with
   |none=>
    obtain⟨b,h,_⟩:=f l' (.refl _);simp[Qhy,m]at h
   |some D=>
    refine z a l' D m ?_ ⟨g,?_⟩
    .obtain⟨u,h,t⟩:=f l' (.refl _)
     grind[Qhy]
    .rintro s' rfl p q;obtain⟨u,h,t⟩:=f p q;simp[Qhy,m]at h;exact⟨u,h,t⟩
theorem QmR{s:S}{l l':List E}{D:Ctl S B}(e:some (Ctl.cont s)=some D)(hc:l'.length<l.length/\ ∀s',D=.cont s'->Qhs stepE stepN G s' l')(h:Le h0 env H (Es s) (Hp s (l'.map enc))):
  QbW (λenv H=>∃n',n'<l.length/\AtP Es Hp stepE stepN G enc h0 n' env H) Q .normal env H:=
 ⟨_,hc.1,s,l',rfl,(by grind),h⟩
theorem QmQ{I:Env->Qd->Prop}{id:Nat}(h:Q (.exit id) env H):QbW I Q (.exit id) env H:=h
end
def Qms{B:Type}(h0:Nat)(G:B->Prop)(Eb:B->Env)(Hb:B->Qd)(Q:QE):QE
 |.normal,env,H=>∃b,G b/\Le h0 env H (Eb b) (Hb b)
 |.exit id,env,H=>Q (.exit id) env H
 |.ret,env,H=>Q .ret env H
theorem Qmc{S E B:Type}{stepE:S->E->Option (Ctl S B)}{stepN:S->Option B}{G:B->Prop}{s0:S}{l0:List E}(hl:Qhs stepE stepN G s0 l0)(Eb:B->Env)(Hb:B->Qd)
  (h:TC P h0 N c env H (Qms h0 G Eb Hb Q))(k:∀b env H,G b->Le h0 env H (Eb b) (Hb b)->Q .normal env H):TC P h0 N c env H Q:=
 h.mono λx env' H' q=>by
  cases x with
  |normal=>obtain⟨b,e,q⟩:=q;grind
  |exit id=>exact q
  |ret=>exact q
theorem cutGN{B:Type}{G:B->Prop}{Eb:B->Env}{Hb:B->Qd}{b:B}(hG:G b)(h:Le h0 env H (Eb b) (Hb b)):Qms h0 G Eb Hb Q .normal env H:=⟨b,hG,h⟩
theorem QjO{i:Nat}{f:Option (A×A)}{es:List (A×A)}{H':Qd}(s:H[i]?=some (.iter f es))(d:H.set i (.iter none es)=H'):Le h0 env H env H':=by
 subst d;intro E p σ N a w r;refine⟨p,σ,⟨r.sim.weaken s rfl ?_,r.env,r.size,r.defers⟩,λ_ q=>q,rfl⟩;intro y h;cases y with
 |none=>exact h
 |some b=>
  rcases h with⟨g,n,k⟩|⟨m,l,e,j,left,g,n,k,t,u,x,B,z⟩
  .exact .inl ⟨g,rfl,k⟩
  .exact .inr (by grind)
end
def mk{α:Type}(n:Int)(z:α):Option (List α):=bif decide (0<=n)&&decide (n<=4294967296)then some (List.replicate n.toNat z)else none
theorem mk_ok{α:Type}{n:Int}{z:α}{l:List α}(h:mk n z=some l):0<=n/\n<=4294967296/\List.replicate n.toNat z=l:=by
 unfold mk at h;cases q:(decide (0<=n)&&decide (n<=4294967296))with
 |true=>rw[q]at h;simp at q;exact⟨q.1,q.2,XY h⟩
 |false=>rw[q]at h;cases h
theorem Qfi{α:Type}[Inhabited α](zl:List α)(k:Nat)(hk:zl.length=k)(h0:0<k):∀n,(List.range (n*k)).map (λi=>zl.toArray[i%zl.toArray.size]!)=(List.replicate n zl).flatten
 |0=>by simp
 |n+1=>by
  rw[Xm,List.range_add,Xf,Qfi zl k hk h0 n,List.replicate_succ',List.flatten_append];congr 1;simp only[Vj,List.flatten_nil,Ve,List.map_map];apply List.ext_getElem
  .simp[hk]
  .intro i h1 h2;simp only[X0,List.length_range]at h1;simp only[List.getElem_map,List.getElem_range,Function.comp,List.size_toArray,hk];rw[Nat.mul_comm,Nat.mul_add_mod,Nat.mod_eq_of_lt h1];simp[hk,h1]
section
variable {P:Program} {o:Oper} {env:Env} {H:Qd} {ro:Nat->Prop} {σ:Sig} {w:World}
theorem LR.replicate{az:List A}{l:List Value}(h:LR ro σ w az l):∀n,LR ro σ w (List.replicate n az).flatten (List.replicate n l).flatten
 |0=>rfl
 |n+1=>by
  rw[Xl,Xl];exact h.append (LR.replicate h n)
theorem QlD{α:Type}{e:α->List A}{T et k:Nat}{x y:Operand}{kx ky:IntKind}{n:Int}{zv:α}{l:List α}{z:Value}{a:A}(O:mk n zv=some l)(E:Q4 P T et k)(hz:∀w,(zeroValue et).run P w=.ok z w)(L:ZR a z)
  (hk:Yl a=true)(hc:Yb a=e zv)(hp:(Yb a).all Yq=true)(p:Nat.beq (e zv).length k=true)
  (ho:o.op=.makeSlice T x y:=by exact rfl)(hx:opA env x=.int kx n:=by exact rfl)(hy:opA env y=.int ky n:=by exact rfl)
  {fr ro:Nat->Prop}{σ:Sig}{N:Nat}{act:Act}{w:World}(r:Rel fr ro σ H env N act w):∃lv:List Value,(execOp act.eval o).run P w=.ok (.value (.slice (some ⟨w.heap.size,0,none⟩) l.length l.length)) (w.alloc (.cells lv.toArray et))/\
   LR ro [] w (l.map e).flatten lv/\(∀v∈lv,Qz v)/\allK k (l.map e)/\lv.length=l.length*k/\l.length<=4294967296:=by
 obtain⟨n0,n1,hl⟩:=mk_ok O;have R:=Qo r x;rw[hx]at R;have h2:=Qo r y;rw[hy]at h2;have aa:act.eval x=.int kx n:=R;have ab:act.eval y=.int ky n:=h2;obtain⟨i,hi,af⟩:=E.bytes;obtain⟨f,c1,Q⟩:=(L ro [] w).cells hk;have t:f.length=k:=by
  rw[Q.length,hc];exact XP p
 have ae:(if n.toNat*k=0 then(#[]:Array Value)else f.toArray)=f.toArray\/n.toNat*k=0:=by
  by_cases q:n.toNat*k=0
  .exact .inr q
  .exact .inl (Vp q)
 have d:∀(ZZ:Array Value),(ZZ=f.toArray\/n.toNat*k=0)->(Array.range (n.toNat*k)).map (λj=>ZZ[j%ZZ.size]!)=((List.replicate n.toNat f).flatten).toArray:=by
  intro ZZ hZ;by_cases q:n.toNat*k=0
  .rw[q];have:(List.replicate n.toNat f).flatten=[]:=by
    apply VF.1;simp[t,q]
   rw[this];simp
  .obtain rfl:ZZ=f.toArray:=hZ.resolve_right q;have ad:0<k:=by
    rcases Nat.eq_zero_or_pos k with h|h
    .rw[h,Nat.mul_zero]at q;exact absurd rfl q
    .exact h
   rw[<- Qfi f k t ad n.toNat];simp[XH, <- List.toArray_range]
 have B:=Q.replicate n.toNat;have ac:allK k (List.replicate n.toNat (e zv)):=by
  have:∀m,allK k (List.replicate m (e zv)):=by
   intro m
   induction m with
   |zero=>trivial
   |succ m ih=>exact⟨XP p,ih⟩
  exact this _
 have g:∀v∈(List.replicate n.toNat f).flatten,Qz v:=by
  intro v J;obtain⟨m,O,J⟩:=List.mem_flatten.1 J;rw[List.eq_of_mem_replicate O]at J;exact Q.plain hp v J
 rw[hc]at B;have s:l.map e=List.replicate n.toNat (e zv):=by rw[<- hl,List.map_replicate]
 have G:l.length=n.toNat:=by rw[<- hl];simp
 refine⟨(List.replicate n.toNat f).flatten,?_,by rw[s];exact B,g,by rw[s];exact ac,by rw[G];simp[t],by omega⟩;rw[G]
 .have hw:IntKind.i64.wrap n=n:=by
   unfold IntKind.wrap;simp[IntKind.bits,IntKind.signed];omega
  have M:∀(x:Nat) (W:World),(askRoom x).run P W=.ok () W:=by
   intro x W;unfold askRoom;split<;>rfl
  have F:∀(c:Array Value) (W:World),(newRow et c).run P W=.ok ⟨W.heap.size,0,none⟩ (W.alloc (.cells c et)):=λc W=>rfl;have Y:¬(n<0):=by omega
  have V:¬((i.bytes:Int)*n>2^48):=by
   have R:(i.bytes:Int)*n<=4096*4294967296:=Int.mul_le_mul (by omega) n1 n0 (by omega);omega
  have u:(Instr.makeSlice T (.int kx n) (.int ky n)).run P w=.ok (.slice (some ⟨w.heap.size,0,none⟩) n.toNat n.toNat) (w.alloc (.cells ((List.replicate n.toNat f).flatten).toArray et)):=by
   have ag:¬(n>n):=by omega
   have X:∀(k:IntKind) (m:Int) (W:World),(asInt (.int k m)).run P W=.ok m W:=λk m W=>rfl;unfold Instr.makeSlice;simp only[Vk,E.sl,E.size,hi,Result.andThen,X,Vl,hw,M,XG];rw[Vp (by simp[Y,V];omega)];by_cases q:n.toNat*k=0
   .simp only[q,if_true,Vl];have:=d #[] (.inr q);rw[q]at this;simp only[this,F]
   .simp only[q,if_false,hz,Vl,c1,d f.toArray (.inl rfl),F]
  generalize act.eval=ρ at*;simp only[execOp,ho,aa,ab,Vk,u,Result.andThen];rfl
theorem QiL{α:Type}{e:α->List A}{T et k:Nat}{x y:Operand}{F j:IntKind}{n:Int}{zv:α}{l:List α}{z:Value}{a:A}(m:mk n zv=some l)(E:Q4 P T et k)(J:∀w,(zeroValue et).run P w=.ok z w)(f:ZR a z)
  (L:Yl a=true)(s:Yb a=e zv)(M:(Yb a).all Yq=true)(d:Nat.beq (e zv).length k=true)
  (q:o.op=.makeSlice T x y:=by exact rfl)(hx:opA env x=.int F n:=by exact rfl)(hy:opA env y=.int j n:=by exact rfl):
  OpH P o env H (.osl H.length 0 l.length k) (H++[.row et k (l.map e)]):=by
 intro R G σ N act w r;obtain⟨p,O,h,u,i,B,Q⟩:=QlD m E J f L s M d q hx hy r;have g:=r.sim.allocRow (t:=et) (rest:=[]) i h u;rw[Ve]at g;refine⟨_,_,G,[some w.heap.size],O,.inr ⟨w.heap.size,0,l.length,et,p.length,?_,rfl,λ_=>by simp,⟨XS _,by omega⟩,?_,by rw[B,Xv];exact XS _⟩,g,Qh.alloc _ r.sim.roLt r.sim.frLt⟩
 .rw[<- r.sim.len];simp
 .unfold World.shape?;rw[Ys];simp
end
open Go.Sort Go.Proofs Go.Shelf
section
variable {α:Type}
def ins(lt:α->α->Bool)(x:α):List α->List α
 |[]=>[x]
 |y::l=>bif lt y x then y::ins lt x l else x::y::l
def Qfp(lt:α->α->Bool):List α->List α
 |[]=>[]
 |x::l=>ins lt x (Qfp lt l)
theorem Qel(lt:α->α->Bool)(x:α):∀l,(ins lt x l).Perm (x::l)
 |[]=>.refl _
 |y::l=>by
  unfold ins;cases lt y x
  .exact .refl _
  .exact((Qel lt x l).cons y).trans (List.Perm.swap _ _ _)
theorem Qbc(lt:α->α->Bool):∀l,(Qfp lt l).Perm l
 |[]=>.refl _
 |x::l=>(Qel lt x _).trans ((Qbc lt l).cons x)
structure QfF (lt:α->α->Bool) (l:List α):Prop where
 irrefl:∀x∈l,lt x x=false
 trans:∀x∈l,∀y∈l,∀z∈l,lt x y=true->lt y z=true->lt x z=true
 ntrans:∀x∈l,∀y∈l,∀z∈l,lt x y=false->lt y z=false->lt x z=false
theorem QfF.mono{lt:α->α->Bool}{l m:List α}(h:QfF lt l)(hm:∀x∈m,x∈l):QfF lt m:=
 ⟨λx hx=>h.irrefl x (hm x hx),λx hx y hy z hz=>h.trans x (hm x hx) y (hm y hy) z (hm z hz),λx hx y hy z hz=>h.ntrans x (hm x hx) y (hm y hy) z (hm z hz)⟩
theorem QfF.asymm{lt:α->α->Bool}{l:List α}(h:QfF lt l){x y:α}(a:x∈l)(e:y∈l)(d:lt x y=true):lt y x=false:=by
 cases q:lt y x
 .rfl
 .rw[<- h.irrefl x a,h.trans x a y e x a d q]
theorem Qek{lt:α->α->Bool}{x:α}:∀{l:List α},QfF lt (x::l)->l.Pairwise (λa b=>lt b a=false)->(ins lt x l).Pairwise (λa b=>lt b a=false)
 |[],_,_=>by simp[ins]
 |y::l,h,hp=>by
  obtain⟨h1,h2⟩:=Xc.1 hp;unfold ins;cases q:lt y x
  .refine Xc.2 ⟨λz hz=>?_,hp⟩;rcases X5.1 hz with rfl|hz
   .exact q
   .exact h.ntrans z (by simp[hz]) y (by simp) x (by simp) (h1 z hz) q
  .refine Xc.2 ⟨λz hz=>?_,Qek (h.mono (by grind)) h2⟩;rcases X5.1 ((Qel lt x l).mem_iff.1 hz)with rfl|hz
   .exact h.asymm (by simp) (by simp) q
   grind
theorem Qcx{lt:α->α->Bool}:∀{l:List α},QfF lt l->(Qfp lt l).Pairwise (λa b=>lt b a=false)
 |[],_=>by simp[Qfp]
 |x::l,h=>Qek (h.mono (by
   intro z hz;rcases X5.1 hz with rfl|hz
   .simp
   grind[Qbc])) (Qcx (h.mono (by grind)))
theorem Qd1{lt:α->α->Bool}:∀{l m:List α},l.Perm m->(∀x∈l,∀y∈l,lt x y=false->lt y x=false->x=y)->l.Pairwise (λa b=>lt b a=false)->m.Pairwise (λa b=>lt b a=false)->l=m
 |[],m,h,_,_,_=>by simp_all
 |x::l,[],h,_,_,_=>by simp_all
 |x::l,y::m,h,ha,hl,hm=>by
  obtain⟨l1,l2⟩:=Xc.1 hl;obtain⟨m1,m2⟩:=Xc.1 hm;have hy:y∈x::l:=h.mem_iff.2 (by simp);have hxy:x=y:=by
   grind
  subst hxy;rw[Qd1 (by simp_all) (by grind) l2 m2]
def ltO(cf:α->α->Option Int)(x y:α):Bool:=match cf x y with
 |some c=>decide (c<0)
 |none=>false
def QkX[DecidableEq α](cf:α->α->Option Int)(l:List α):Bool:=
 l.all λx=> !ltO cf x x&&l.all λy=>(cf x y).isSome&&(ltO cf x y||ltO cf y x||decide (x=y))&&l.all λz=>(!ltO cf x y|| !ltO cf y z||ltO cf x z)&&(ltO cf x y||ltO cf y z|| !ltO cf x z)
def Qgr[DecidableEq α](cf:α->α->Option Int)(l:List α):Option (List α):=bif Nat.ble l.length Yk&&QkX cf l then some (Qfp (ltO cf) l)else none
theorem Qgq[DecidableEq α]{a:α->α->Option Int}{l l':List α}(h:Qgr a l=some l'):
  l.length<=Yk/\(∀x∈l,∀y∈l,∃c,a x y=some c)/\QfF (ltO a) l/\(∀x∈l,∀y∈l,ltO a x y=false->ltO a y x=false->x=y)/\Qfp (ltO a) l=l':=by
 unfold Qgr at h;cases j:Nat.ble l.length Yk with
 |false=>grind
 |true=>
 rw[j,Vw]at h;cases q:QkX a l with
 |false=>grind
 |true=>
  rw[q]at h;refine⟨(by simp_all),?_⟩;unfold QkX at q;simp[Xs,XV,Bool.not_eq_true',Bool.or_eq_true]at q;refine⟨λx d y e=>Option.isSome_iff_exists.1 ((q x d).2 y e).1.1,⟨λx d=>(q x d).1,λx d y e z i g f=>?_,λx d y e z i g f=>?_⟩,λx d y e g f=>?_,XY h⟩
  .grind
  .grind
  grind
theorem QbO[DecidableEq α]{a:α->α->Option Int}{l l':List α}(h:Qgr a l=some l'):l.length=l'.length:=by
 rw[<- (Qgq h).2.2.2.2];exact(Qbc _ _).length_eq.symm
theorem Qaf{l l':List α}{i:Int}{x:α}(h:QcX l i x=some l'):l.length=l'.length:=by
 grind[QcX]
theorem QX{f:Nat}{env:Env}{H:Qd}{s:Nat}{a a':A}(h:lk env s=a)(e:a=a'):Le f env H (up env s a') H:=by
 intro i g σ N act w r;refine⟨g,σ,⟨r.sim,λd=>?_,r.size,r.defers⟩,λ_ q=>q,rfl⟩;subst e;have:lk (up env s a) d=lk env d:=by
  simp[lk];cases q:Nat.beq d s with
  |true=>simp_all
  |false=>rfl
 rw[this];exact r.env d
end
section
variable {fr ro:Nat->Prop} {σ:Sig} {H:Qd} {w w':World}
theorem Qdr(hh:∀b,b<w.heap.size->w'.heap[b]?=w.heap[b]?)(hro:∀b,ro b->b<w.heap.size)(σ:Sig):Ext ro σ w ro σ w':=
 ⟨λ_ q=>q,(by grind),λb x hx=>by grind[World.shape?],λ_ _ q=>q⟩
theorem Sim.grown(s:Sim fr ro σ H w)(a:∀b,b<w.heap.size->w'.heap[b]?=w.heap[b]?)(m:w.heap.size<=w'.heap.size):Sim fr ro σ H w':=by
 refine⟨s.len,s.roOk.to (λ_ q=>q) (λb q=>a b (s.roLt b q)) (λb h=>Vd (s.roLt b h) m),λb h=>Vd (s.frLt b h) m,s.roFr,λi b x f e n=>?_,s.inj,λi y x f e=>?_,s.hidTo (· = ·) Q7 m (by simp) (by simp) λj d y g k r=>.inl ⟨j,y,rfl,g,k,id,λc q=>s.hidKeep g k (λz=>a d (s.own j d y g k z).1) (λb q=>a b (s.roLt b q)) q⟩⟩
 .obtain⟨p,q⟩:=s.own i b x f e n
  grind
 .refine(s.blk i y x f e).keep (Qdr a s.roLt σ) ?_ ?_
  .rintro b rfl l;exact a b (s.own i b x f e l).1
  .rintro b c rfl l;exact a c (s.hid i b x c f e l).lt
theorem Qh.grown(hh:∀b,b<w.heap.size->w'.heap[b]?=w.heap[b]?)(hs:w.heap.size<=w'.heap.size)(s:Sim fr ro σ H w)(ho:w'.os=w.os)(ht:w'.tape=w.tape)(hu:w'.output=w.output)(hd:w.drawn<=w'.drawn):Qh fr ro w ro w':=
 ⟨λ_ q=>q,λb h=>hh b (s.roLt b h),λb h=>hh b (s.frLt b h),hs,(Qdr hh s.roLt σ).shape,ho,ht,hu,hd⟩
theorem QlJ(i:∀b,b<w.heap.size->w'.heap[b]?=w.heap[b]?)(j:w.heap.size<=w'.heap.size)(f:w'.os=w.os)(d:w'.tape=w.tape)(g:w'.output=w.output)(h:w.drawn<=w'.drawn):
  ∃q os',w'=grow (w.drewN q) os':=by
 refine⟨w'.drawn-w.drawn,w'.heap.extract w.heap.size w'.heap.size,?_⟩;obtain⟨a,m,e,p,l⟩:=w';simp only at i j f d g h;subst f d g;unfold grow World.drewN;have k:a=w.heap++a.extract w.heap.size a.size:=by
  grind
 have n:e=w.drawn+(e-w.drawn):=by omega
 grind
end
end Go.Sw
