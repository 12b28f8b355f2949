/- The rules by which the code is walked, with what they rest on (part 1). -/
import Derived.Calls
import Derived.Tactics
import Derived.Below
import Derived.TacticsIn
import Derived.OrdersIn
import Derived.RangeFuncLeaves
import Derived.RangeFuncRecord
import Derived.Laws.Strings
import Derived.Laws.World
import Derived.Orders
import Derived.Maps.Keyed
import Derived.Laws.StructEq
import Derived.Maps.RangeRun
set_option linter.unusedVariables false
set_option linter.unusedSimpArgs false
set_option linter.unusedSectionVars false
namespace Go.Sw
abbrev Xa:= @List.getElem?_set_self
abbrev Xb:= @List.getElem?_set
abbrev Xc:= @List.pairwise_cons
abbrev Xd:= @List.mem_filter
abbrev Xe:= @List.mem_map
abbrev Xf:= @List.map_append
abbrev Xg:= @Bool.false_eq_true
abbrev Xh:= @Option.map_some
abbrev Xi:= @Option.map_none
abbrev Xj:= @Nat.succ_mul
abbrev Xk:= @Nat.not_lt_zero
abbrev Xl:= @Nat.lt_succ_self
abbrev Xm:= @Nat.lt_succ_iff_lt_or_eq
abbrev Xn:= @List.getElem?_map
abbrev Xo:= @List.drop_eq_getElem_cons
abbrev Xp:= @List.flatten_append
abbrev Xq:= @List.all_eq_true
abbrev Xr:= @List.any_eq_true
abbrev Xs:= @List.length_range
abbrev Xt:= @Nat.sub_zero
abbrev Xu:= @Nat.zero_add
abbrev Xv:= @Nat.add_zero
abbrev Xw:= @List.length_take
abbrev Xx:= @List.length_drop
abbrev Xy:= @List.take_append_drop
abbrev Xz:= @Nat.add_mul
abbrev XA:= @Nat.min_eq_left
abbrev XB:= @Nat.mul_le_mul_right
abbrev XC:= @List.getElem?_cons_zero
abbrev XD:= @List.getElem?_cons_succ
abbrev XE:= @List.getElem?_toArray
abbrev XF:= @Sem.run_ite
abbrev XG:= @List.map_toArray
abbrev XH:= @Option.bind_some
abbrev XI:= @List.getElem?_eq_getElem
abbrev XJ:= @List.getElem?_eq_some_iff
abbrev XK:= @List.getElem?_append_left
abbrev XL:= @List.getElem?_append_right
abbrev XM:= @List.getElem?_eq_none
abbrev XN:= @List.getElem?_set_ne
abbrev XO:= @Nat.eq_of_beq_eq_true
abbrev XP:= @Nat.le_of_ble_eq_true
abbrev XQ:= @Nat.ble_eq_true_of_le
abbrev XR:= @Nat.le_refl
abbrev XS:= @Nat.zero_le
abbrev XT:= @Nat.le_trans
abbrev XU:= @Bool.and_eq_true
abbrev XV:= @Option.some.inj
abbrev XW:= @List.length_cons
abbrev XX:= @List.length_map
abbrev XY:= @List.length_append
abbrev XZ:= @List.length_set
abbrev X0:= @List.mem_cons_of_mem
abbrev X2:= @List.mem_cons
abbrev X3:= @List.take_append_of_le_length
abbrev X4:= @List.drop_append_of_le_length
abbrev X5:= @List.take_length
abbrev X6:= @List.drop_length_add_append
abbrev X7:= @List.take_length_add_append
abbrev X8:= @Array.getElem?_eq_some_iff
abbrev X9:= @List.getElem_mem
abbrev Va:= @Array.getElem?_setIfInBounds
abbrev Vb:= @Nat.lt_of_lt_of_le
abbrev Vc:= @List.append_nil
abbrev Vd:= @List.nil_append
abbrev Ve:= @List.append_assoc
abbrev Vf:= @List.map_cons
abbrev Vg:= @List.map_nil
abbrev Vh:= @List.flatten_cons
abbrev Vi:= @Sem.run_bind
abbrev Vj:= @Sem.run_pure
abbrev Vk:= @cond_true
abbrev Vl:= @cond_false
abbrev Vm:= @decide_eq_true_eq
abbrev Vn:= @if_neg
abbrev Vo:= @if_pos
abbrev Vp:= @decide_eq_true
abbrev Vq:= @of_decide_eq_true
abbrev Vr:= @decide_eq_false
abbrev Vs:= @beq_iff_eq
abbrev Vt:= @List.mem_singleton
abbrev Vu:= @Nat.lt_or_ge
abbrev Vv:= @List.mem_append
abbrev Vw:= @List.pairwise_iff_getElem
abbrev Vx:= @Nat.beq_refl
abbrev Vy:= @List.mem_map_of_mem
abbrev Vz:= @List.mem_of_getElem?
abbrev VA:= @List.take_of_length_le
abbrev VB:= @List.length_eq_zero_iff
abbrev VC:= @List.cons_append
abbrev VD:= @List.getD_eq_getElem?_getD
abbrev VE:= @Bool.eq_false_iff
def QhF:Nat:=11
def nG:Nat:=12
def QgB:List (List Int):=[[1,9999],[-1099511627776,1099511627776],[0,1048576],[0,39],[0,255],[0,1099511627776],[0,255],[1,1048576],[0,1],[0,31],[1,1048576]]
theorem gOk:((List.range nG).all λb=>Nat.beq b QhF|| !(QgB.getD b []).isEmpty)=true:=by decide
theorem gLt:Nat.ble QgB.length nG=true:=by decide
theorem QkW:Nat.blt QhF nG=true:=by decide
structure GP (w:World):Prop where
 max:∃m:Int,w.cell? ⟨QhF,0,none⟩=some (.int .i64 m)
 tab:∀(g:Nat) (zs:List Int),QgB[g]?=some zs->∀(i:Nat) (z:Int),zs[i]?=some z->w.cell? ⟨g,i,none⟩=some (.int .i64 z)
theorem GP.keep{w w':World}(h:∀b,b<nG->w'.heap[b]?=w.heap[b]?)(g:GP w):GP w':=by
 obtain⟨m,f⟩:=g.max;refine⟨⟨m,?_⟩,λa j d i z e=>?_⟩
 .rw[<- f];unfold World.cell?;rw[h QhF (by simpa using QkW)]
 .rw[<- g.tab a j d i z e];unfold World.cell?;have k:=(XJ.1 d).1;have l:QgB.length<=nG:=by simpa using gLt
  rw[h a (by omega)]
theorem QeC{w:World}{b i:Nat}{v:Value}(h:w.cell? ⟨b,i,none⟩=some v):b<w.heap.size:=by
 cases e:w.heap[b]? with
 |none=>simp[World.cell?,e]at h
 |some o=>exact(X8.1 e).1
theorem GP.size{w:World}(g:GP w)(b:Nat)(d:b<nG):b<w.heap.size:=by
 have h:=Xq.1 gOk b (List.mem_range.2 d);rw[Bool.or_eq_true]at h;rcases h with h|h
 .obtain⟨m,f⟩:=g.max;rw[XO h];exact QeC f
 .cases e:QgB[b]? with
  |none=>rw[VD,e]at h;simp at h
  |some a=>
   cases a with
   |nil=>rw[VD,e]at h;simp at h
   |cons z a=>exact QeC (g.tab b _ e 0 z rfl)
end Go.Sw
namespace Go.Sw
inductive A where
 |any
 |bool (b:Bool)
 |int (k:IntKind) (n:Int)
 |str (s:List UInt8)
 |nilp
 |ptr (i off:Nat)
 |rp (cs:List A)
 |nils
 |rsl (k:Nat) (es:List (List A))
 |osl (i o n k:Nat)
 |agg (cs:List A)
 |fn (f:Fn) (first cap:List A)
 |nilf
 |iface (t:Nat) (v:A)
 |nilif
 |map (i:Nat)
 |nilm
 |tup (vs:List A)
abbrev Sig:=List (Option Nat)
def Qn:Value->Prop
 |.agg _|.tuple _=>False
 |_=>True
mutual
def VR(ro:Nat->Prop)(σ:Sig)(w:World):A->Value->Prop
 |.any,_=>True
 |.bool b,v=>v=.bool b
 |.int k n,v=>v=.int k n
 |.str s,v=>v=.string ⟨s.toArray⟩
 |.nilp,v=>v=.pointer none
 |.ptr i off,v=>∃b,σ[i]?=some (some b)/\v=.pointer (some ⟨b,off,none⟩)
 |.rp cs,v=>∃b off,v=.pointer (some ⟨b,off,none⟩)/\ro b/\CR ro [] w b cs off
 |.nils,v=>v=.slice none 0 0
 |.rsl k es,v=>∃a cap,v=.slice a es.length cap/\es.length<=cap/\
   (es=[]\/ ∃b off,a=some ⟨b,off,none⟩/\ro b/\RR ro [] w b k es off)
 |.osl i o n k,v=>(n=0/\v=.slice none 0 0)\/
   ∃b p cap t m,σ[i]?=some (some b)/\v=.slice (some ⟨b,p,none⟩) n cap/\(0<cap->p=o*k)/\n<=cap/\w.shape? b=some (t,m)/\(o+cap)*k<=m
 |.agg cs,v=>∃l:List Value,v=.agg l.toArray/\LR ro σ w cs l
 |.fn f first cap,v=>∃l l':List Value,v=.func f l.toArray l'.toArray/\LR ro σ w first l/\LR ro σ w cap l'
 |.nilf,v=>v=.nilFunc
 |.iface t a,v=>∃x,v=.iface t x/\VR ro σ w a x
 |.nilif,v=>v=.nilIface
 |.map i,v=>∃b,σ[i]?=some (some b)/\v=.map (some b)
 |.nilm,v=>v=.map none
 |.tup vs,v=>∃l:List Value,v=.tuple l.toArray/\LR ro σ w vs l
def CR(ro:Nat->Prop)(σ:Sig)(w:World)(b:Nat):List A->Nat->Prop
 |[],_=>True
 |a::r,off=>(∃v,w.cell? ⟨b,off,none⟩=some v/\Qn v/\VR ro σ w a v)/\CR ro σ w b r (off+1)
def RR(ro:Nat->Prop)(σ:Sig)(w:World)(b k:Nat):List (List A)->Nat->Prop
 |[],_=>True
 |cs::r,off=>cs.length=k/\CR ro σ w b cs off/\RR ro σ w b k r (off+k)
def LR(ro:Nat->Prop)(σ:Sig)(w:World):List A->List Value->Prop
 |[],l=>l=[]
 |a::r,l=>∃v l',l=v::l'/\VR ro σ w a v/\LR ro σ w r l'
end
structure Ext (ro:Nat->Prop) (σ:Sig) (w:World) (ro':Nat->Prop) (σ':Sig) (w':World):Prop where
 sub:∀b,ro b->ro' b
 keep:∀b,ro b->w'.heap[b]?=w.heap[b]?
 shape:∀b x,w.shape? b=some x->w'.shape? b=some x
 sig:∀(i b:Nat),σ[i]?=some (some b)->σ'[i]?=some (some b)
theorem QeD{w w':World}{b off:Nat}(h:w'.heap[b]?=w.heap[b]?):w'.cell? ⟨b,off,none⟩=w.cell? ⟨b,off,none⟩:=by
 simp only[World.cell?,h]
theorem Ext.nil{ro ro':Nat->Prop}{σ σ':Sig}{w w':World}(h:Ext ro σ w ro' σ' w'):Ext ro [] w ro' [] w':=
 ⟨h.sub,h.keep,h.shape,λ_ _ q=>q⟩
mutual
theorem VR.mono{ro ro':Nat->Prop}{w w':World}:∀{a:A} {σ σ':Sig} {v:Value},Ext ro σ w ro' σ' w'->VR ro σ w a v->VR ro' σ' w' a v
 |.any,_,_,_,h,_=>trivial
 |.bool b,_,_,v,h,q=>q
 |.int k n,_,_,v,h,q=>q
 |.str s,_,_,v,h,q=>q
 |.nilp,_,_,v,h,q=>q
 |.ptr i off,_,_,v,h,q=>by
  simp only[VR]at q⊢;obtain⟨b,h1,h2⟩:=q;exact⟨b,h.sig _ _ h1,h2⟩
 |.rp cs,_,_,v,h,q=>by
  simp only[VR]at q⊢;obtain⟨b,off,h1,h2,h3⟩:=q;exact⟨b,off,h1,h.sub _ h2,CR.mono h.nil h2 h3⟩
 |.nils,_,_,v,h,q=>q
 |.rsl k es,_,_,v,h,q=>by
  simp only[VR]at q⊢;obtain⟨a,cap,h1,h2,h3⟩:=q;refine⟨a,cap,h1,h2,?_⟩;rcases h3 with h3|⟨b,off,h4,h5,h6⟩
  .exact .inl h3
  .exact .inr ⟨b,off,h4,h.sub _ h5,RR.mono h.nil h5 h6⟩
 |.osl i o n k,_,_,v,h,q=>by
  simp only[VR]at q⊢;rcases q with q|⟨b,p,cap,t,m,h1,h2,h6,h3,h4,h5⟩
  .exact .inl q
  .exact .inr ⟨b,p,cap,t,m,h.sig _ _ h1,h2,h6,h3,h.shape _ _ h4,h5⟩
 |.agg cs,_,_,v,h,q=>by
  simp only[VR]at q⊢;obtain⟨l,h1,h2⟩:=q;exact⟨l,h1,LR.mono h h2⟩
 |.fn f a c,_,_,v,h,q=>by
  simp only[VR]at q⊢;obtain⟨l,l',h1,h2,h3⟩:=q;exact⟨l,l',h1,LR.mono h h2,LR.mono h h3⟩
 |.nilf,_,_,v,h,q=>q
 |.iface t a,_,_,v,h,q=>by
  simp only[VR]at q⊢;obtain⟨x,h1,h2⟩:=q;exact⟨x,h1,VR.mono h h2⟩
 |.nilif,_,_,v,h,q=>q
 |.map i,_,_,v,h,q=>by
  simp only[VR]at q⊢;obtain⟨b,h1,h2⟩:=q;exact⟨b,h.sig _ _ h1,h2⟩
 |.nilm,_,_,v,h,q=>q
 |.tup vs,_,_,v,h,q=>by
  simp only[VR]at q⊢;obtain⟨l,h1,h2⟩:=q;exact⟨l,h1,LR.mono h h2⟩
theorem CR.mono{ro ro':Nat->Prop}{w w':World}:∀{cs:List A} {σ σ':Sig} {b off:Nat},Ext ro σ w ro' σ' w'->ro b->CR ro σ w b cs off->CR ro' σ' w' b cs off
 |[],_,_,_,_,_,_,_=>trivial
 |a::r,_,_,b,off,h,hb,q=>by
  simp only[CR]at q⊢;obtain⟨⟨v,h1,hp,h2⟩,h3⟩:=q;exact⟨⟨v,by rw[QeD (h.keep _ hb)];exact h1,hp,VR.mono h h2⟩,CR.mono h hb h3⟩
theorem RR.mono{ro ro':Nat->Prop}{w w':World}:∀{es:List (List A)} {σ σ':Sig} {b k off:Nat},Ext ro σ w ro' σ' w'->ro b->RR ro σ w b k es off->RR ro' σ' w' b k es off
 |[],_,_,_,_,_,_,_,_=>trivial
 |cs::r,_,_,b,k,off,h,hb,q=>by
  simp only[RR]at q⊢;obtain⟨h1,h2,h3⟩:=q;exact⟨h1,CR.mono h hb h2,RR.mono h hb h3⟩
theorem LR.mono{ro ro':Nat->Prop}{w w':World}:∀{az:List A} {σ σ':Sig} {l:List Value},Ext ro σ w ro' σ' w'->LR ro σ w az l->LR ro' σ' w' az l
 |[],_,_,_,h,q=>q
 |a::r,_,_,l,h,q=>by
  simp only[LR]at q⊢;obtain⟨v,l',h1,h2,h3⟩:=q;exact⟨v,l',h1,VR.mono h h2,LR.mono h h3⟩
end
structure Ent where
 fl:Bool
 off:Nat
 lo:Int
 hi:Int
def eC(b1 b2:Nat)(e:Ent):List A:=[.ptr (bif e.fl then b2 else b1) e.off,.int .i64 e.lo,.int .i64 e.hi]
inductive Blk where
 |dead
 |cells (t:Nat) (cs:List A)
 |row (t k:Nat) (es:List (List A))
 |rowr (t k:Nat) (es:List (List A))
 |map (es:List (A×A))
 |iter (cur:Option (A×A)) (es:List (A×A))
 |fmap (es:List (A×A))
 |ents (t b1 b2:Nat) (es:List Ent)
 |mapO (fz:Bool) (t k:Nat) (es:List (A×Option (List (List A))))
 |mapP (es:List (A×A))
 |frow (t k:Nat) (es:List (List A))
def Blk.live:Blk->Bool
 |.dead=>false
 |.fmap _=>false
 |.frow _ _ _=>false
 |.mapO fz _ _ _=> !fz
 |_=>true
def Blk.held:Blk->Bool
 |.mapO fz _ _ _=>fz
 |_=>false
def Blk.holds(x:Blk):Bool:=x.live||x.held
theorem Qas{x:Blk}(h:x.live=true):x≠ .dead:=by rintro rfl;cases h
theorem Qdj{x:Blk}(h:x.holds=true):x≠ .dead:=by rintro rfl;cases h
theorem Qbi{x:Blk}(h:x.live=true):x.holds=true:=by unfold Blk.holds;rw[h];rfl
abbrev Qc:=List Blk
def ER(ro:Nat->Prop)(σ:Sig)(w:World):List (A×A)->List MapEntry->Prop
 |[],l=>l=[]
 |x::r,l=>∃e l',l=e::l'/\VR ro σ w x.1 e.key/\VR ro σ w x.2 e.val/\ER ro σ w r l'
def ItR(ro:Nat->Prop)(w:World)(b:Nat)(cur:Option (A×A))(es:List (A×A)):Prop:=
 (es=[]/\cur=none/\w.heap[b]?=some (.mapIter none 0 #[] 0))\/
 ∃m l clock seen left,w.heap[b]?=some (.mapIter (some m) clock seen clock)/\ro m/\w.heap[m]?=some (.map l clock)/\(∀e∈l.toList,e.born<clock)/\(l.toList.map (·.born)).Nodup/\
  (left:List MapEntry).Perm (l.toList.filter λe=> !seen.contains e.born)/\ER ro [] w es left/\
  (∀x,cur=some x->∃e∈l.toList,seen.back? =some e.born/\VR ro [] w x.1 e.key/\VR ro [] w x.2 e.val)
def RL(ro:Nat->Prop)(σ:Sig)(w:World)(k:Nat):List (List A)->List Value->Prop
 |[],_=>True
 |c::es,l=>∃l1 l2,l=l1++l2/\c.length=k/\(LR ro σ w c l1/\ ∀v∈l1,Qn v)/\RL ro σ w k es l2
theorem RL.mono{ro ro':Nat->Prop}{σ σ':Sig}{w w':World}(h:Ext ro σ w ro' σ' w'){k:Nat}:∀{es:List (List A)} {l:List Value},RL ro σ w k es l->RL ro' σ' w' k es l
 |[],_,_=>trivial
 |c::es,l,⟨l1,l2,h1,h2,h3,h4⟩=>⟨l1,l2,h1,h2,⟨h3.1.mono h,h3.2⟩,RL.mono h h4⟩
def SO(ro:Nat->Prop)(w:World)(t k:Nat)(rows:List (List A))(v:Value):Prop:=
 (rows=[]/\v=.slice none 0 0)\/ ∃(c p cap:Nat) (vs:List Value),v=.slice (some ⟨c,p,none⟩) rows.length cap/\rows.length<=cap/\w.heap[c]?=some (.cells vs.toArray t (0,0))/\cap*k<=vs.length/\RL ro [] w k rows vs/\(0<cap->p=0)
def MO(ro:Nat->Prop)(w:World)(t k:Nat):List (A×Option (List (List A)))->List MapEntry->Prop
 |[],l=>l=[]
 |x::r,l=>∃e l',l=e::l'/\VR ro [] w x.1 e.key/\(∀rows,x.2=some rows->SO ro w t k rows e.val)/\MO ro w t k r l'
def Qc8:List (A×Option (List (List A)))->List MapEntry->Nat->Prop
 |x::r,e::l,c=>(x.2.isSome=true/\ ∃p n cap,e.val=.slice (some ⟨c,p,none⟩) n cap)\/Qc8 r l c
 |_,_,_=>False
def QgX:List (A×Option (List (List A)))->List MapEntry->Prop
 |x::r,e::l=>(∀c,x.2.isSome=true->(∃p n cap,e.val=.slice (some ⟨c,p,none⟩) n cap)->¬Qc8 r l c)/\QgX r l
 |_,_=>True
def Hid(w:World):Blk->Nat->Nat->Prop
 |.mapO _ _ _ es,b,c=>∃l clock,w.heap[b]?=some (.map l clock)/\Qc8 es l.toList c
 |_,_,_=>False
theorem Hid.keep{w w':World}{x:Blk}{b c:Nat}(h:w'.heap[b]?=w.heap[b]?)(q:Hid w' x b c):Hid w x b c:=by
 cases x with
 |mapO fz t k f=>obtain⟨l,a,d,e⟩:=q;exact⟨l,a,by rw[<- h];exact d,e⟩
 |_=>exact q.elim
theorem Hid.holds{w:World}{x:Blk}{b c:Nat}(q:Hid w x b c):x.holds=true:=by
 cases x with
 |mapO fz t k a=>cases fz<;>rfl
 |_=>exact q.elim
theorem MO.mono{ro ro':Nat->Prop}{σ σ':Sig}{w w':World}(h:Ext ro σ w ro' σ' w'){t k:Nat}:∀{es:List (A×Option (List (List A)))} {l:List MapEntry},(∀c,Qc8 es l c->w'.heap[c]?=w.heap[c]?)->MO ro w t k es l->MO ro' w' t k es l
 |[],_,_,q=>q
 |x::r,_,hh,⟨e,l',h1,h2,h3,h4⟩=>by
  subst h1;refine⟨e,l',rfl,h2.mono h.nil,λrows hr=>?_,MO.mono h (λc hc=>hh c (.inr hc)) h4⟩;rcases h3 rows hr with q|⟨c,p,cap,vs,q1,q2,q3,q4,q5,q6⟩
  .exact .inl q
  .exact .inr ⟨c,p,cap,vs,q1,q2,by rw[hh c (.inl ⟨by rw[hr];rfl,p,_,_,q1⟩)];exact q3,q4,q5.mono h.nil,q6⟩
theorem MO.cells{ro:Nat->Prop}{w:World}{t k:Nat}:∀{es:List (A×Option (List (List A)))} {l:List MapEntry} {c:Nat},MO ro w t k es l->Qc8 es l c->∃vs:Array Value,w.heap[c]?=some (.cells vs t (0,0))
 |[],l,c,h,q=>by cases l<;>exact q.elim
 |x::r,_,c,⟨e,l',h1,h2,h3,h4⟩,q=>by
  subst h1;rcases q with⟨q1,p,n,cap,q2⟩|q
  .obtain⟨rows,hr⟩:=Option.isSome_iff_exists.1 q1;rcases h3 rows hr with⟨_,z⟩|⟨c',p',cap',vs,z1,z2,z3,z4,z5,z6⟩
   .rw[q2]at z;cases z
   .rw[q2]at z1;cases z1;exact⟨_,z3⟩
  .exact MO.cells h4 q
def Born(l:Array MapEntry)(clock:Nat):Prop:=clock=l.size/\ ∀(i:Nat) (e:MapEntry),l.toList[i]?=some e->e.born=i
theorem Born.modify{l:Array MapEntry}{a j:Nat}{f:MapEntry->MapEntry}(h:Born l a)(k:∀e,(f e).born=e.born):Born (l.modify j f) a:=by
 obtain⟨g,b⟩:=h;refine⟨by simp[g],λi m q=>?_⟩;rw[Array.toList_modify,List.getElem?_modify]at q;cases z:l.toList[i]? with
 |none=>rw[z]at q;simp at q
 |some e=>
  rw[z]at q;by_cases d:j=i
  .simp[d]at q;rw[<- q,k];exact b i e z
  .simp[d]at q;rw[<- q];exact b i e z
def BR(ro:Nat->Prop)(σ:Sig)(w:World):Blk->Option Nat->Prop
 |.dead,_=>True
 |.cells t cs,some b=>∃l:List Value,w.heap[b]?=some (.cells l.toArray t (0,0))/\LR ro σ w cs l/\ ∀v∈l,Qn v
 |.row t k es,some b=>∃l:List Value,w.heap[b]?=some (.cells l.toArray t (0,0))/\RL ro [] w k es l
 |.rowr t k es,some b=>∃l:List Value,w.heap[b]?=some (.cells l.toArray t (0,0))/\RL ro σ w k es l
 |.row _ _ es,none=>es=[]
 |.ents t b1 b2 es,some b=>∃l:List Value,w.heap[b]?=some (.cells l.toArray t (0,0))/\RL ro σ w 3 (es.map (eC b1 b2)) l
 |.ents _ _ _ es,none=>es=[]
 |.map es,some b=>∃l clock,w.heap[b]?=some (.map l clock)/\ER ro [] w es l.toList/\
   (∀e∈l.toList,e.born<clock)/\(l.toList.map (·.born)).Nodup/\(l.toList.map (·.key)).Nodup
 |.mapP es,some b=>∃l clock,w.heap[b]?=some (.map l clock)/\ER ro σ w es l.toList/\
   (∀e∈l.toList,e.born<clock)/\(l.toList.map (·.born)).Nodup/\(l.toList.map (·.key)).Nodup
 |.frow t k es,some b=>ro b/\ ∃l:List Value,w.heap[b]?=some (.cells l.toArray t (0,0))/\RL ro [] w k es l/\l.length=es.length*k
 |.iter cur es,some b=>ItR ro w b cur es
 |.mapO fz t k es,some b=>(fz=true->ro b)/\ ∃l clock,w.heap[b]?=some (.map l clock)/\MO ro w t k es l.toList/\QgX es l.toList/\
   (∀e∈l.toList,e.born<clock)/\(l.toList.map (·.born)).Nodup/\(l.toList.map (·.key)).Nodup/\Born l clock
 |.fmap es,some b=>ro b/\ ∃l clock,w.heap[b]?=some (.map l clock)/\ER ro [] w es l.toList/\
   (∀e∈l.toList,e.born<clock)/\(l.toList.map (·.born)).Nodup/\(l.toList.map (·.key)).Nodup
 |_,none=>False
structure RoOk (ro:Nat->Prop) (w:World):Prop where
 lt:∀b,ro b->b<w.heap.size
 g:∀b,b<nG->ro b
 gp:GP w
theorem RoOk.to{ro ro':Nat->Prop}{w w':World}(h:RoOk ro w)(sub:∀b,ro b->ro' b)(keep:∀b,ro b->w'.heap[b]?=w.heap[b]?)(lt:∀b,ro' b->b<w'.heap.size):RoOk ro' w':=
 ⟨lt,λb hb=>sub b (h.g b hb),h.gp.keep λb hb=>keep b (h.g b hb)⟩
structure Qkv (fr ro:Nat->Prop) (σ:Sig) (H:Qc) (w:World) (i0 b0 c:Nat):Prop where
 lt:c<w.heap.size
 ro:¬ro c
 fr:¬fr c
 ne:∀(j b:Nat) (y:Blk),σ[j]?=some (some b)->H[j]?=some y->y.live=true->c≠b
 one:∀(j b:Nat) (y:Blk),σ[j]?=some (some b)->H[j]?=some y->Hid w y b c->b=b0/\j=i0
structure Sim (fr ro:Nat->Prop) (σ:Sig) (H:Qc) (w:World):Prop where
 len:σ.length=H.length
 roOk:RoOk ro w
 frLt:∀b,fr b->b<w.heap.size
 roFr:∀b,ro b->¬fr b
 own:∀(i b:Nat) (blk:Blk),σ[i]?=some (some b)->H[i]?=some blk->blk.live=true->b<w.heap.size/\ ¬ro b/\ ¬fr b
 inj:∀(i j b:Nat) (x y:Blk),σ[i]?=some (some b)->σ[j]?=some (some b)->H[i]?=some x->H[j]?=some y->x.live=true->y.live=true->i=j
 blk:∀(i:Nat) (s:Option Nat) (x:Blk),σ[i]?=some s->H[i]?=some x->BR ro σ w x s
 hid:∀(i b:Nat) (x:Blk) (c:Nat),σ[i]?=some (some b)->H[i]?=some x->Hid w x b c->Qkv fr ro σ H w i b c
theorem Sim.roHeld{fr ro:Nat->Prop}{σ:Sig}{H:Qc}{w:World}(s:Sim fr ro σ H w){i b:Nat}{x:Blk}(d:σ[i]?=some (some b))(e:H[i]?=some x)(a:x.held=true):ro b:=by
 have h:=s.blk i _ x d e;cases x with
 |mapO fz t k f=>exact h.1 a
 |_=>cases a
theorem Sim.hidKeep{fr ro:Nat->Prop}{σ:Sig}{H:Qc}{w w':World}(s:Sim fr ro σ H w){i b c:Nat}{x:Blk}(f:σ[i]?=some (some b))(d:H[i]?=some x)
  (hl:x.live=true->w'.heap[b]?=w.heap[b]?)(e:∀b,ro b->w'.heap[b]?=w.heap[b]?)(q:Hid w' x b c):Hid w x b c:=by
 refine q.keep ?_;have h:=q.holds;cases a:x.live with
 |true=>exact hl a
 |false=>unfold Blk.holds at h;rw[a]at h;exact e b (s.roHeld f d h)
theorem Sim.hidTo{fr p ro ro':Nat->Prop}{σ σ':Sig}{H H':Qc}{w w':World}(s:Sim fr ro σ H w)(R:Nat->Nat->Prop)(V:∀j j' a,R j a->R j' a->j=j')(r:w.heap.size<=w'.heap.size)
  (J:∀(i b:Nat) (x:Blk) (c:Nat),σ[i]?=some (some b)->H[i]?=some x->Hid w x b c->ro' c->ro c)
  (u:∀(i b:Nat) (x:Blk) (c:Nat),σ[i]?=some (some b)->H[i]?=some x->Hid w x b c->p c->fr c)
  (h:∀(j d:Nat) (y:Blk),σ'[j]?=some (some d)->H'[j]?=some y->y.holds=true->
   (∃(a:Nat) (l:Blk),R j a/\σ[a]?=some (some d)/\H[a]?=some l/\(y.live=true->l.live=true)/\ ∀c,Hid w' y d c->Hid w l d c)\/(w.heap.size<=d/\ ∀c,Hid w' y d c->False)):
  ∀(i b:Nat) (x:Blk) (c:Nat),σ'[i]?=some (some b)->H'[i]?=some x->Hid w' x b c->Qkv p ro' σ' H' w' i b c:=by
 intro i b x c W O n;rcases h i b x W O n.holds with⟨a,l,Y,G,z,g3,F⟩|⟨_,g⟩
 .have k:=s.hid a b l c G z (F c n);refine⟨Vb k.lt r,λq=>k.ro (J a b l c G z (F c n) q),λq=>k.fr (u a b l c G z (F c n) q),λj d y B M m=>?_,λj d y B M m=>?_⟩
  .rcases h j d y B M (Qbi m)with⟨E,y1,_,L,t,N,_⟩|⟨f,_⟩
   .exact k.ne E d y1 L t (N m)
   .exact λe=>by have:=k.lt;omega
  .rcases h j d y B M m.holds with⟨E,y1,X,L,t,N,P⟩|⟨_,f⟩
   .obtain⟨Q,T⟩:=k.one E d y1 L t (P c m);subst T;exact⟨Q,V _ _ _ X Y⟩
   .exact(f c m).elim
 .exact(g c n).elim
theorem QP(j j' j0:Nat)(h:j=j0)(h':j'=j0):j=j':=h.trans h'.symm
theorem Sim.roLt{fr ro:Nat->Prop}{σ:Sig}{H:Qc}{w:World}(s:Sim fr ro σ H w):∀b,ro b->b<w.heap.size:=s.roOk.lt
structure Qg (fr ro:Nat->Prop) (w:World) (ro':Nat->Prop) (w':World):Prop where
 sub:∀b,ro b->ro' b
 keepRo:∀b,ro b->w'.heap[b]?=w.heap[b]?
 keepFr:∀b,fr b->w'.heap[b]?=w.heap[b]?
 size:w.heap.size<=w'.heap.size
 shape:∀b x,w.shape? b=some x->w'.shape? b=some x
 os:w'.os=w.os
 tape:w'.tape=w.tape
 output:w'.output=w.output
 drawn:w.drawn<=w'.drawn
theorem Qg.refl(fr ro:Nat->Prop)(w:World):Qg fr ro w ro w:=
 ⟨λ_ h=>h,λ_ _=>rfl,λ_ _=>rfl,XR _,λ_ _ h=>h,rfl,rfl,rfl,XR _⟩
theorem Qg.trans{fr ro ro1 ro2:Nat->Prop}{w w1 w2:World}(h:Qg fr ro w ro1 w1)(k:Qg fr ro1 w1 ro2 w2):Qg fr ro w ro2 w2:=
 ⟨λb q=>k.sub _ (h.sub _ q),λb q=>(k.keepRo _ (h.sub _ q)).trans (h.keepRo _ q),λb q=>(k.keepFr _ q).trans (h.keepFr _ q),
  XT h.size k.size,λb x q=>k.shape _ _ (h.shape _ _ q),k.os.trans h.os,k.tape.trans h.tape,k.output.trans h.output,XT h.drawn k.drawn⟩
theorem Yq{σ τ:Sig}{i b:Nat}(h:σ[i]?=some (some b)):(σ++τ)[i]?=some (some b):=by
 have a:i<σ.length:=by
  rcases Vu i σ.length with q|q
  .exact q
  .simp[XM q]at h
 rw[XK a];exact h
theorem Qg.ext{fr ro ro':Nat->Prop}{w w':World}(h:Qg fr ro w ro' w')(σ τ:Sig):Ext ro σ w ro' (σ++τ) w':=
 ⟨h.sub,h.keepRo,h.shape,λ_ _=>Yq⟩
theorem Qg.ext0{fr ro ro':Nat->Prop}{w w':World}(h:Qg fr ro w ro' w')(σ:Sig):Ext ro σ w ro' σ w':=
 ⟨h.sub,h.keepRo,h.shape,λ_ _ q=>q⟩
theorem ER.mono{ro ro':Nat->Prop}{σ σ':Sig}{w w':World}(h:Ext ro σ w ro' σ' w'):∀{es:List (A×A)} {l:List MapEntry},ER ro σ w es l->ER ro' σ' w' es l
 |[],_,q=>q
 |x::r,l,q=>by
  simp only[ER]at q⊢;obtain⟨e,l',h1,h2,h3,h4⟩:=q;exact⟨e,l',h1,h2.mono h,h3.mono h,ER.mono h h4⟩
theorem ItR.keep{ro ro':Nat->Prop}{σ σ':Sig}{w w':World}(h:Ext ro σ w ro' σ' w'){b:Nat}(k:w'.heap[b]?=w.heap[b]?){f:Option (A×A)}{es:List (A×A)}
  (q:ItR ro w b f es):ItR ro' w' b f es:=by
 rcases q with⟨j,g,i⟩|⟨m,l,a,d,left,j,g,i,u,E,y,z,t⟩
 .exact .inl ⟨j,g,by rw[k];exact i⟩
 .refine .inr ⟨m,l,a,d,left,by rw[k];exact j,h.sub _ g,by rw[h.keep _ g];exact i,u,E,y,z.mono h.nil,λx B=>?_⟩;obtain⟨e,n,r,p,s⟩:=t x B;exact⟨e,n,r,p.mono h.nil,s.mono h.nil⟩
theorem CR.keep{ro ro':Nat->Prop}{σ σ':Sig}{w w':World}(h:Ext ro σ w ro' σ' w'){b:Nat}(hb:w'.heap[b]?=w.heap[b]?):
  ∀{cs:List A} {off:Nat},CR ro σ w b cs off->CR ro' σ' w' b cs off
 |[],_,_=>trivial
 |a::r,off,q=>by
  simp only[CR]at q⊢;obtain⟨⟨v,h1,hp,h2⟩,h3⟩:=q;exact⟨⟨v,by rw[QeD hb];exact h1,hp,h2.mono h⟩,CR.keep h hb h3⟩
theorem RR.keep{ro ro':Nat->Prop}{σ σ':Sig}{w w':World}(h:Ext ro σ w ro' σ' w'){b:Nat}(hb:w'.heap[b]?=w.heap[b]?){k:Nat}:
  ∀{es:List (List A)} {off:Nat},RR ro σ w b k es off->RR ro' σ' w' b k es off
 |[],_,_=>trivial
 |cs::r,off,q=>by
  simp only[RR]at q⊢;obtain⟨h1,h2,h3⟩:=q;exact⟨h1,CR.keep h hb h2,RR.keep h hb h3⟩
theorem BR.keep{ro ro':Nat->Prop}{σ σ':Sig}{w w':World}(h:Ext ro σ w ro' σ' w'){x:Blk}{s:Option Nat}
  (i:∀b,s=some b->x.live=true->w'.heap[b]?=w.heap[b]?)(q:BR ro σ w x s)(n:∀b c,s=some b->Hid w x b c->w'.heap[c]?=w.heap[c]?):BR ro' σ' w' x s:=by
 cases x with
 |mapO fz t k g=>
  cases s with
  |none=>exact q
  |some b=>
   obtain⟨j,l,c,a,e,f⟩:=q;refine⟨λz=>h.sub b (j z),l,c,?_,e.mono h (λd m=>n b d rfl ⟨l,c,a,m⟩),f⟩;cases fz with
   |false=>rw[i b rfl rfl];exact a
   |true=>rw[h.keep b (j rfl)];exact a
 |dead=>trivial
 |cells t y=>
  cases s with
  |none=>exact q
  |some b=>
   obtain⟨l,a,e,f⟩:=q;exact⟨l,by rw[i b rfl rfl];exact a,e.mono h,f⟩
 |row t k g=>
  cases s with
  |none=>exact q
  |some b=>
   obtain⟨l,a,e⟩:=q;exact⟨l,by rw[i b rfl rfl];exact a,e.mono h.nil⟩
 |rowr t k g=>
  cases s with
  |none=>exact q.elim
  |some b=>
   obtain⟨l,a,e⟩:=q;exact⟨l,by rw[i b rfl rfl];exact a,e.mono h⟩
 |ents t r u g=>
  cases s with
  |none=>exact q
  |some b=>
   obtain⟨l,a,e⟩:=q;exact⟨l,by rw[i b rfl rfl];exact a,e.mono h⟩
 |map g=>
  cases s with
  |none=>exact q
  |some b=>
   obtain⟨l,c,a,e,f⟩:=q;exact⟨l,c,by rw[i b rfl rfl];exact a,e.mono h.nil,f⟩
 |mapP g=>
  cases s with
  |none=>exact q
  |some b=>
   obtain⟨l,c,a,e,f⟩:=q;exact⟨l,c,by rw[i b rfl rfl];exact a,e.mono h,f⟩
 |frow t k g=>
  cases s with
  |none=>exact q
  |some b=>
   obtain⟨j,l,a,e,f⟩:=q;exact⟨h.sub b j,l,by rw[h.keep b j];exact a,e.mono h.nil,f⟩
 |iter p g=>
  cases s with
  |none=>exact q
  |some b=>exact ItR.keep h (i b rfl rfl) q
 |fmap g=>
  cases s with
  |none=>exact q
  |some b=>
   obtain⟨j,l,c,a,e,f⟩:=q;exact⟨h.sub b j,l,c,by rw[h.keep b j];exact a,e.mono h.nil,f⟩
end Go.Sw
namespace Go.Sw
abbrev Env:=List (Nat×A)
def lk:Env->Nat->A
 |[],_=>.any
 |(d,a)::r,s=>bif Nat.beq s d then a else lk r s
abbrev up(env:Env)(d:Nat)(a:A):Env:=(d,a)::env
inductive AEx where
 |normal|exit (id:Nat)|ret
abbrev Qv:=AEx->Env->Qc->Prop
def Qcm(fr:Nat->Prop)(ds:List Deferred)(w:World):Prop:=ds.Nodup/\ ∀d∈ds,∃D,d={target:=.collected D,args:= #[]}/\fr D/\w.heap[D]?=some (.deferred (some []))
theorem Qcm.keep{fr ro ro':Nat->Prop}{b:List Deferred}{w w':World}(h:Qcm fr b w)(k:Qg fr ro w ro' w'):Qcm fr b w':=by
 refine⟨h.1,λd f=>?_⟩;obtain⟨D,g,a,e⟩:=h.2 d f;exact⟨D,g,a,(k.keepFr D a).trans e⟩
structure Grow (fr:Nat->Prop) (w:World) (ds:List Deferred) (fr':Nat->Prop) (ds':List Deferred):Prop where
 sub:∀b,fr b->fr' b
 new:∀b,fr' b->fr b\/w.heap.size<=b
 ds:∀d∈ds',d∈ds\/ ∃D,d={target:=.collected D,args:= #[]}/\w.heap.size<=D
theorem Grow.refl(fr:Nat->Prop)(w:World)(ds:List Deferred):Grow fr w ds fr ds:=⟨λ_ h=>h,λ_ h=>.inl h,λ_ h=>.inl h⟩
theorem Grow.trans{fr g f:Nat->Prop}{w w1:World}{ds e a:List Deferred}(h:Grow fr w ds g e)(i:w.heap.size<=w1.heap.size)(k:Grow g w1 e f a):Grow fr w ds f a:=by
 refine⟨λb q=>k.sub b (h.sub b q),λb q=>?_,λd q=>?_⟩
 .rcases k.new b q with q|q
  .exact h.new b q
  .exact .inr (XT i q)
 .rcases k.ds d q with q|⟨D,l,j⟩
  .exact h.ds d q
  .exact .inr ⟨D,l,XT i j⟩
theorem Qg.frMono{fr fr' ro ro':Nat->Prop}{w w':World}(h:Qg fr' ro w ro' w')(s:∀b,fr b->fr' b):Qg fr ro w ro' w':=
 ⟨h.sub,h.keepRo,λb q=>h.keepFr b (s b q),h.size,h.shape,h.os,h.tape,h.output,h.drawn⟩
theorem Sim.frMono{fr fr' ro:Nat->Prop}{σ:Sig}{H:Qc}{w:World}(h:Sim fr' ro σ H w)(s:∀b,fr b->fr' b):Sim fr ro σ H w:=
 ⟨h.len,h.roOk,λb q=>h.frLt b (s b q),λb q r=>h.roFr b q (s b r),λi b x q1 q2 q3=>let⟨a,b',c⟩:=h.own i b x q1 q2 q3;⟨a,b',λq=>c (s b q)⟩,h.inj,h.blk,λi b x c q1 q2 q3=>let k:=h.hid i b x c q1 q2 q3;⟨k.lt,k.ro,λq=>k.fr (s c q),k.ne,k.one⟩⟩
structure Rel (fr ro:Nat->Prop) (σ:Sig) (H:Qc) (env:Env) (N:Nat) (a:Act) (w:World):Prop where
 sim:Sim fr ro σ H w
 env:∀s,VR ro σ w (lk env s) (a.tmps.getD s undef)
 size:a.tmps.size=N
 defers:Qcm fr a.defers w
def Qc7(rd:Option Nat)(fr:Nat->Prop)(w:World):Prop:=∀l,rd=some l->fr l/\ ∃r,w.heap[l]?=some (.loop r)
theorem Qc7.none{fr:Nat->Prop}{w:World}:Qc7 none fr w:=λl e=>by cases e
theorem Qc7.to{rd:Option Nat}{fr fr' ro ro':Nat->Prop}{w w':World}(h:Qc7 rd fr w)(k:Qg fr ro w ro' w')(s:∀b,fr b->fr' b):Qc7 rd fr' w':=λl e=>by
 obtain⟨h1,r,h2⟩:=h l e;exact⟨s l h1,r,(k.keepFr l h1).trans h2⟩
def ExR:Exit->AEx->Prop
 |.normal,x=>x=.normal
 |.exit id,x=>x=.exit id
 |.ret,x=>x=.ret
 |_,_=>False
def QaJ(h0:Nat)(fr ro:Nat->Prop)(σ:Sig)(w:World)(N:Nat)(ds:List Deferred)(Q:Qv):Exit->Act->World->Prop:=
 λe a' w'=>∃x env' H' ro' σ' fr',ExR e x/\Q x env' H'/\Rel fr' ro' σ' H' env' N a' w'/\Qg fr ro w ro' w'/\σ'.take h0=σ.take h0/\Grow fr w ds fr' a'.defers
theorem QaJ.grow{h0:Nat}{fr f ro b:Nat->Prop}{σ σ1:Sig}{w w1:World}{N:Nat}{j a:List Deferred}{Q:Qv}{e:Exit}{a':Act}{w':World}
  (h:QaJ h0 f b σ1 w1 N a Q e a' w')(he:Qg fr ro w b w1)(l:σ1.take h0=σ.take h0)(hg:Grow fr w j f a):QaJ h0 fr ro σ w N j Q e a' w':=by
 obtain⟨x,d,H',i,σ',g,m,n,k,p,r,q⟩:=h;exact⟨x,d,H',i,σ',g,m,n,k,he.trans (p.frMono hg.sub),r.trans l,hg.trans he.size q⟩
theorem QaJ.step{h0:Nat}{fr ro ro1:Nat->Prop}{σ σ1:Sig}{w w1:World}{N:Nat}{ds:List Deferred}{Q:Qv}{e:Exit}{a':Act}{w':World}
  (h:QaJ h0 fr ro1 σ1 w1 N ds Q e a' w')(he:Qg fr ro w ro1 w1)(hs:σ1.take h0=σ.take h0):QaJ h0 fr ro σ w N ds Q e a' w':=h.grow he hs (Grow.refl _ _ _)
theorem QaJ.mono{h0:Nat}{fr ro:Nat->Prop}{σ:Sig}{w:World}{N:Nat}{f:List Deferred}{Q Q':Qv}{e:Exit}{a':Act}{w':World}
  (h:QaJ h0 fr ro σ w N f Q e a' w')(g:∀x env H,Q x env H->Q' x env H):QaJ h0 fr ro σ w N f Q' e a' w':=by
 obtain⟨x,a,H',d,σ',b,j,k,i⟩:=h;exact⟨x,a,H',d,σ',b,j,g _ _ _ k,i⟩
def Qbx(h0:Nat)(fr ro:Nat->Prop)(σ:Sig)(w:World)(N:Nat)(ds:List Deferred)(Q:Qv):Exit->Act->World->Prop:=
 λe a' w'=>∃x env' H' ro' σ' fr',ExR e x/\Q x env' H'/\Rel fr' ro' σ' H' env' N a' w'/\Qg fr ro w ro' w'/\σ'.take h0=σ.take h0/\a'.defers=ds/\Grow fr w ds fr' ds
theorem Qbx.grow{h0:Nat}{fr d ro a:Nat->Prop}{σ σ1:Sig}{w w1:World}{N:Nat}{f:List Deferred}{Q:Qv}{e:Exit}{a':Act}{w':World}
  (h:Qbx h0 d a σ1 w1 N f Q e a' w')(he:Qg fr ro w a w1)(k:σ1.take h0=σ.take h0)(hg:Grow fr w f d f):Qbx h0 fr ro σ w N f Q e a' w':=by
 obtain⟨x,b,H',i,σ',g,l,m,j,n,r,p,q⟩:=h;exact⟨x,b,H',i,σ',g,l,m,j,he.trans (n.frMono hg.sub),r.trans k,p,hg.trans he.size q⟩
theorem Qbx.step{h0:Nat}{fr ro ro1:Nat->Prop}{σ σ1:Sig}{w w1:World}{N:Nat}{ds:List Deferred}{Q:Qv}{e:Exit}{a':Act}{w':World}
  (h:Qbx h0 fr ro1 σ1 w1 N ds Q e a' w')(he:Qg fr ro w ro1 w1)(hs:σ1.take h0=σ.take h0):Qbx h0 fr ro σ w N ds Q e a' w':=h.grow he hs (Grow.refl _ _ _)
theorem Qbx.mono{h0:Nat}{fr ro:Nat->Prop}{σ:Sig}{w:World}{N:Nat}{f:List Deferred}{Q Q':Qv}{e:Exit}{a':Act}{w':World}
  (h:Qbx h0 fr ro σ w N f Q e a' w')(g:∀x env H,Q x env H->Q' x env H):Qbx h0 fr ro σ w N f Q' e a' w':=by
 obtain⟨x,a,H',d,σ',b,j,k,i⟩:=h;exact⟨x,a,H',d,σ',b,j,g _ _ _ k,i⟩
theorem Qbx.postW{h0:Nat}{fr ro:Nat->Prop}{σ:Sig}{w:World}{N:Nat}{f:List Deferred}{Q:Qv}{e:Exit}{a':Act}{w':World}
  (h:Qbx h0 fr ro σ w N f Q e a' w'):QaJ h0 fr ro σ w N f Q e a' w':=by
 obtain⟨x,a,H',d,σ',b,i,j,g,k,n,l,m⟩:=h;exact⟨x,a,H',d,σ',b,i,j,g,k,n,by rw[l];exact m⟩
def WF(rd:Option Nat):Fence:={Fence.wide with round:=rd}
theorem WF.calls{rd:Option Nat}{P:Program}{f:FuncId}{args:Array Value}{w:World}{R:Ending->World->Prop}:CallsIn (WF rd) 0 P f args w R↔Calls P f args w R:=callsIn_wide
abbrev wpL(P:Program)(rd:Option Nat)(ops:Array Oper)(Q:Exit->Act->World->Prop):List Oper->Act->World->Prop:=wpListIn (WF rd) 0 P ops Q
def TC(P:Program)(h0 N:Nat)(c:Code)(env:Env)(H:Qc)(Q:Qv):Prop:=
 ∀rd fr ro σ a w,Rel fr ro σ H env N a w->Qc7 rd fr w->c.wpIn (WF rd) 0 P (QaJ h0 fr ro σ w N a.defers Q) a w
def WO(P:Program)(h0 N:Nat)(all:Array Oper)(l:List Oper)(env:Env)(H:Qc)(Q:Qv):Prop:=
 ∀rd fr ro σ a w,Rel fr ro σ H env N a w->Qc7 rd fr w->wpL P rd all (Qbx h0 fr ro σ w N a.defers Q) l a w
def Le(h0:Nat)(env:Env)(H:Qc)(env':Env)(H':Qc):Prop:=
 ∀fr ro σ N a w,Rel fr ro σ H env N a w->∃ro' σ',Rel fr ro' σ' H' env' N a w/\(∀b,ro b->ro' b)/\σ'.take h0=σ.take h0
theorem Le.refl(h0:Nat)(env:Env)(H:Qc):Le h0 env H env H:=λfr ro σ N a w h=>⟨ro,σ,h,λ_ q=>q,rfl⟩
theorem Le.trans{h0:Nat}{g i f:Env}{H1 H2 H3:Qc}(h:Le h0 g H1 i H2)(k:Le h0 i H2 f H3):Le h0 g H1 f H3:=by
 intro j t σ N a w r;obtain⟨d,σ1,n,s,m⟩:=h j t σ N a w r;obtain⟨e,σ2,u,l,p⟩:=k j d σ1 N a w n;exact⟨e,σ2,u,λb q=>l _ (s _ q),p.trans m⟩
theorem Yy{fr ro ro':Nat->Prop}{w:World}(h:∀b,ro b->ro' b):Qg fr ro w ro' w:=
 ⟨h,λ_ _=>rfl,λ_ _=>rfl,XR _,λ_ _ h=>h,rfl,rfl,rfl,XR _⟩
theorem Q4{P:Program}{rd:Option Nat}{ops:Array Oper}{Q Q':Exit->Act->World->Prop}(hq:∀e a w,Q e a w->Q' e a w):
  ∀(l:List Oper) (a:Act) (w:World),wpL P rd ops Q l a w->wpL P rd ops Q' l a w
 |[],a,w,h=>hq _ _ _ h
 |o::l,a,w,h=>by
  unfold wpL wpListIn at h⊢;split
  .rename_i hw;rw[Vo hw]at h;obtain⟨h1,h2⟩:=h;refine⟨h1,?_⟩
   revert h2
   generalize(o.semAt (WF rd).round a.eval).run P w=r;intro h2;have hk:=λa w=>Q4 (P:=P) (rd:=rd) (ops:=ops) hq l a w;cases r with
   |ok x w=>
    cases x with
    |value v=>exact hk _ _ h2
    |skip=>exact hk _ _ h2
    |defer d=>exact hk _ _ h2
    |enter f args=>
     refine⟨h2.1,CallsIn.mono h2.2 ?_⟩;intro e w' q;cases e with
     |returned v=>exact hk _ _ q
     |panicked c=>exact hq _ _ _ q
     |outgrown=>obtain⟨a,w,q⟩:=q;exact⟨a,w,hq _ _ _ q⟩
    |row r args=>exact⟨h2.1,RowsIn.mono h2.2 λv w' q=>hk _ _ q⟩
    |round l f tmps assign body=>
     refine⟨h2.1,RoundIn.mono h2.2 ?_⟩;intro e w' q;cases e with
     |returned v=>exact hk _ _ q
     |panicked c=>exact hq _ _ _ q
     |outgrown=>obtain⟨a,w,q⟩:=q;exact⟨a,w,hq _ _ _ q⟩
    |_=>exact h2
   |halt x w=>
    cases x with
    |panic v=>exact hq _ _ _ h2
    |_=>exact h2
  .rename_i hw;rw[Vn hw]at h;exact⟨h.1,Q4 hq l _ _ h.2⟩
theorem Qb4{P:Program}{o:Oper}{a:Act}{w w':World}{x:Next}{rd:Option Nat}(h:(execOp a.eval o).run P w=.ok x w')(b:∀d,x≠ .defer d):(o.semAt (WF rd).round a.eval).run P w=.ok x w':=by
 cases e:o.op with
 |defer c=>
  exfalso;have:execOp a.eval o=(do pure (.defer (<- resolve a.eval c o.type))):=by simp[execOp,e]
  rw[this]at h;simp only[Vi]at h;generalize(resolve a.eval c o.type).run P w=r at h;cases r with
  |ok d w2=>simp[Result.andThen,go_sem]at h;exact b _ h.1.symm
  |halt x w2=>simp[Result.andThen]at h
 |_=>rw[Oper.semAt_eq _ _ _ (by rw[e];intro c q;cases q)];exact h
theorem Qab{P:Program}{rd:Option Nat}{ops:Array Oper}{Q:Exit->Act->World->Prop}{o:Oper}{l:List Oper}{a:Act}{w w':World}{v:Value}(b:Region.wanted o (yielded ops a.tmps)=true)
  (h:(execOp a.eval o).run P w=.ok (.value v) w')(k:wpL P rd ops Q l (a.put o.dst v) w'):wpL P rd ops Q (o::l) a w:=by
 unfold wpL wpListIn;rw[Vo b];exact⟨λ_ _=>trivial,by rw[Qb4 h (λd e=>by cases e)];exact k⟩
theorem Qfu{P:Program}{rd:Option Nat}{ops:Array Oper}{Q:Exit->Act->World->Prop}{o:Oper}{l:List Oper}{a:Act}{w w':World}(b:Region.wanted o (yielded ops a.tmps)=true)
  (h:(execOp a.eval o).run P w=.ok .skip w')(k:wpL P rd ops Q l (a.put o.dst undef) w'):wpL P rd ops Q (o::l) a w:=by
 unfold wpL wpListIn;rw[Vo b];exact⟨λ_ _=>trivial,by rw[Qb4 h (λd e=>by cases e)];exact k⟩
theorem Qco{P:Program}{rd:Option Nat}{ops:Array Oper}{Q:Exit->Act->World->Prop}{o:Oper}{l:List Oper}{a:Act}{w w':World}{f:FuncId}{args:Array Value}(b:Region.wanted o (yielded ops a.tmps)=true)
  (h:(execOp a.eval o).run P w=.ok (.enter f args) w')(k:Calls P f args w' λe w''=>∃v,e=.returned v/\wpL P rd ops Q l (a.put o.dst v) w''):wpL P rd ops Q (o::l) a w:=by
 unfold wpL wpListIn;rw[Vo b];refine⟨λ_ _=>trivial,?_⟩;rw[Qb4 h (λd e=>by cases e)];refine⟨λh=>by simp[WF,Fence.wide]at h,WF.calls.2 (Calls.mono k ?_)⟩;rintro e w'' ⟨v,rfl,q⟩;exact q
section
variable {P:Program} {h0 N:Nat} {env env':Env} {H H':Qc} {Q Q':Qv} {c c':Code}
theorem TC.mono(h:TC P h0 N c env H Q)(hq:∀x env H,Q x env H->Q' x env H):TC P h0 N c env H Q':=
 λrd fr ro σ a w r hrd=>Code.wpIn_mono (λe a w q=>q.mono hq) (h rd fr ro σ a w r hrd)
theorem TC.le(b:Le h0 env H env' H')(h:TC P h0 N c env' H' Q):TC P h0 N c env H Q:=by
 intro i f j σ a w r hrd;obtain⟨d,σ',g,s,t⟩:=b f j σ N a w r;exact Code.wpIn_mono (λe a w q=>q.step (Yy s) t) (h i f d σ' a w g hrd)
theorem WO.le{all:Array Oper}{l:List Oper}(b:Le h0 env H env' H')(h:WO P h0 N all l env' H' Q):WO P h0 N all l env H Q:=by
 intro i f j σ a w r hrd;obtain⟨d,σ',g,s,t⟩:=b f j σ N a w r;exact Q4 (λe a w q=>q.step (Yy s) t) _ _ _ (h i f d σ' a w g hrd)
theorem WO.mono{all:Array Oper}{l:List Oper}(h:WO P h0 N all l env H Q)(hq:∀x env H,Q x env H->Q' x env H):WO P h0 N all l env H Q':=
 λrd fr ro σ a w r hrd=>Q4 (λe a w q=>q.mono hq) _ _ _ (h rd fr ro σ a w r hrd)
def Seq(P:Program)(h0 N:Nat)(c:Code)(Q:Qv):Qv
 |.normal,env,H=>TC P h0 N c env H Q
 |.exit id,env,H=>Q (.exit id) env H
 |.ret,env,H=>Q .ret env H
def Blo(id:Nat)(Q:Qv):Qv
 |.normal,env,H=>Q .normal env H
 |.exit id',env,H=>bif Nat.beq id' id then Q .normal env H else Q (.exit id') env H
 |.ret,env,H=>Q .ret env H
theorem TC.seq(h:TC P h0 N c env H (Seq P h0 N c' Q)):TC P h0 N (.seq c c') env H Q:=by
 intro n u s σ a w r hrd;refine wpIn_seq (Code.wpIn_mono ?_ (h n u s σ a w r hrd));rintro e p t ⟨x,b,H',f,σ',d,g,l,k,i,m,j⟩;cases e with
 |normal=>
  obtain rfl:x=.normal:=g;exact Code.wpIn_mono (λe a w q=>q.grow i m j) (l n d f σ' p t k (hrd.to i j.sub))
 |exit id=>
  obtain rfl:x=.exit id:=g;exact⟨_,b,H',f,σ',d,rfl,l,k,i,m,j⟩
 |ret=>
  obtain rfl:x=.ret:=g;exact⟨_,b,H',f,σ',d,rfl,l,k,i,m,j⟩
 |_=>exact g.elim
theorem TC.skip(h:Q .normal env H):TC P h0 N .skip env H Q:=
 λrd fr ro σ a w r hrd=>wpIn_skip ⟨_,env,H,ro,σ,fr,rfl,h,r,Qg.refl _ _ _,rfl,Grow.refl _ _ _⟩
theorem TC.ret(h:Q .ret env H):TC P h0 N .ret env H Q:=
 λrd fr ro σ a w r hrd=>wpIn_ret ⟨_,env,H,ro,σ,fr,rfl,h,r,Qg.refl _ _ _,rfl,Grow.refl _ _ _⟩
theorem TC.exit{id:Nat}(h:Q (.exit id) env H):TC P h0 N (.exit id) env H Q:=
 λrd fr ro σ a w r hrd=>wpIn_exit ⟨_,env,H,ro,σ,fr,rfl,h,r,Qg.refl _ _ _,rfl,Grow.refl _ _ _⟩
theorem TC.block{id:Nat}(h:TC P h0 N c env H (Blo id Q)):TC P h0 N (.block id c) env H Q:=by
 intro p t s σ a w r hrd;refine wpIn_block (Code.wpIn_mono ?_ (h p t s σ a w r hrd));rintro e u y ⟨x,b,H',f,σ',d,k,i,j,l,n,m⟩;cases e with
 |normal=>
  obtain rfl:x=.normal:=k;exact⟨_,b,H',f,σ',d,rfl,i,j,l,n,m⟩
 |exit g=>
  obtain rfl:x=.exit g:=k;simp only[Exit.inBlock];simp only[Blo]at i;by_cases e:g=id
  .subst e;rw[Vo rfl];rw[Vx]at i;exact⟨_,b,H',f,σ',d,rfl,i,j,l,n,m⟩
  .rw[Vn e];have:Nat.beq g id=false:=by
    rw[VE];intro q;exact e (XO q)
   rw[this]at i;exact⟨_,b,H',f,σ',d,rfl,i,j,l,n,m⟩
 |ret=>
  obtain rfl:x=.ret:=k;exact⟨_,b,H',f,σ',d,rfl,i,j,l,n,m⟩
 |_=>exact k.elim
def opA(env:Env):Operand->A
 |.tmp t=>lk env t
 |.const (.bool b)=>.bool b
 |.const (.int k n)=>.int k n
 |.const (.string s)=>.str s.data.toList
 |.const (.pointer none)=>.nilp
 |.const (.slice none 0 0)=>.nils
 |.const (.map none)=>.nilm
 |.const .nilFunc=>.nilf
 |.const .nilIface=>.nilif
 |.func f=>.fn (.func f) [] []
 |_=>.any
theorem Qf{fr ro:Nat->Prop}{σ:Sig}{a:Act}{w:World}(r:Rel fr ro σ H env N a w)(x:Operand):VR ro σ w (opA env x) (a.eval x):=by
 cases x with
 |tmp t=>exact r.env t
 |const v=>
  cases v with
  |slice a n k=>
   cases a with
   |none=>
    cases n with
    |zero=>cases k with
     |zero=>rfl
     |succ k=>trivial
    |succ n=>trivial
   |some a=>trivial
  |pointer p=>cases p with
   |none=>rfl
   |some p=>trivial
  |map p=>cases p with
   |none=>rfl
   |some p=>trivial
  |string s=>simp[opA,VR,Act.eval]
  |_=>first|trivial|rfl|simp[opA,VR,Act.eval]
 |global g=>trivial
 |func f=>exact⟨[],[],rfl,rfl,rfl⟩
theorem TC.cond{x:Operand}{t:Bool}(i:opA env x=.bool t)(h:t=true->TC P h0 N c env H Q)(j:t=false->TC P h0 N c' env H Q):
  TC P h0 N (.cond x c c') env H Q:=by
 intro b g d σ a w r hrd;have f:=Qf r x;rw[i]at f;exact wpIn_cond_split f (λe=>h e b g d σ a w r hrd) (λe=>j e b g d σ a w r hrd)
theorem QfJ{t:Array Value}{d s:Nat}{v:Value}(a:d<t.size):(t.setIfInBounds d v).getD s undef=if s=d then v else t.getD s undef:=by
 simp only[Array.getD_eq_getD_getElem?,Va];by_cases e:s=d
 .subst e;simp[a]
 .rw[Vn (λq=>e q.symm),Vn e]
theorem VR.up{fr ro:Nat->Prop}{σ:Sig}{a:Act}{w:World}(r:∀s,VR ro σ w (lk env s) (a.tmps.getD s undef)){d:Nat}(b:d<a.tmps.size){x:A}{v:Value}(f:VR ro σ w x v):
  ∀s,VR ro σ w (lk (up env d x) s) ((a.tmps.setIfInBounds d v).getD s undef):=by
 intro s;rw[QfJ b];simp only[up,lk];by_cases e:s=d
 .subst e;rw[Vx,Vo rfl];exact f
 .have:Nat.beq s d=false:=by
   rw[VE];intro q;exact e (XO q)
  rw[this,Vn e];exact r s
def Qm(all:Array Oper)(o:Oper)(env:Env)(b:Bool):Prop:=
 match o.guard with
 |none=>b=true
 |some (j,c)=>∃d,(all[j]?).bind (·.dst)=some d/\((∃x,lk env d=.bool x/\b=(x==c))\/(lk env d=.tup []/\b=false))
theorem Yn{all:Array Oper}{o:Oper}{b:Bool}(h:Qm all o env b){fr ro:Nat->Prop}{σ:Sig}{a:Act}{w:World}(r:Rel fr ro σ H env N a w):
  Region.wanted o (yielded all a.tmps)=b:=by
 unfold Qm at h;unfold Region.wanted;cases n:o.guard with
 |none=>rw[n]at h;exact h.symm
 |some g=>
  obtain⟨j,c⟩:=g;rw[n]at h;obtain⟨d,m,⟨x,k,i⟩|⟨k,i⟩⟩:=h
  .have f:=r.env d;rw[k]at f;simp only[VR]at f;have p:a.tmps[d]?=some (.bool x):=by
    rw[Array.getD_eq_getD_getElem?]at f;cases e:a.tmps[d]? with
    |none=>rw[e]at f;simp[undef]at f
    |some y=>rw[e]at f;simp at f;rw[f]
   simp only[yielded,m,XH,p,i];cases x<;>cases c<;>rfl
  .have f:=r.env d;rw[k]at f;obtain⟨l,f,q⟩:=f;rw[Array.getD_eq_getD_getElem?]at f;subst i;simp only[yielded,m,XH];cases e:a.tmps[d]? with
   |none=>cases c<;>rfl
   |some y=>rw[e]at f;simp at f;subst f;cases c<;>rfl
def OpV(P:Program)(o:Oper)(env:Env)(H:Qc)(x:A):Prop:=
 ∀fr ro σ N a w,Rel fr ro σ H env N a w->∃v,(execOp a.eval o).run P w=.ok (.value v) w/\VR ro σ w x v
def OpH(P:Program)(o:Oper)(env:Env)(H:Qc)(x:A)(H':Qc):Prop:=
 ∀fr ro σ N a w,Rel fr ro σ H env N a w->∃v w' ro' τ,(execOp a.eval o).run P w=.ok (.value v) w'/\VR ro' (σ++τ) w' x v/\
  Sim fr ro' (σ++τ) H' w'/\Qg fr ro w ro' w'
def OpU(P:Program)(o:Oper)(env:Env)(H:Qc)(H':Qc):Prop:=
 ∀fr ro σ N a w,Rel fr ro σ H env N a w->∃w' ro' τ,(execOp a.eval o).run P w=.ok .skip w'/\
  Sim fr ro' (σ++τ) H' w'/\Qg fr ro w ro' w'
theorem WO.nil{all:Array Oper}(h:Q .normal env H):WO P h0 N all [] env H Q:=
 λrd fr ro σ a w r hrd=>⟨_,env,H,ro,σ,fr,rfl,h,r,Qg.refl _ _ _,rfl,rfl,Grow.refl _ _ _⟩
theorem Qp{σ τ:Sig}{h0:Nat}(h:h0<=σ.length):(σ++τ).take h0=σ.take h0:=by
 rw[X3 h]
theorem YH{all:Array Oper}{o:Oper}{l:List Oper}{d:Nat}{x:A}(y:h0<=H.length)(hg:Qm all o env true)(n:o.dst=some d)(j:Nat.blt d N=true)
  (g:OpH P o env H x H')(k:WO P h0 N all l (up env d x) H' Q):WO P h0 N all (o::l) env H Q:=by
 intro z fr B σ a w r hrd;obtain⟨v,i,b,τ,p,u,m,f⟩:=g fr B σ N a w r;refine Qab (Yn hg r) p ?_;simp only[n,Act.put];have h:d<N:=by simpa using j
 have t:Rel fr b (σ++τ) H' (up env d x) N {a with tmps:=a.tmps.setIfInBounds d v} i:=
  ⟨m,VR.up (fr:=fr) (λs=>(r.env s).mono (f.ext σ τ)) (by rw[r.size];exact h) u,by simpa using r.size,r.defers.keep f⟩
 refine Q4 (λe a w q=>q.step f (Qp ?_)) _ _ _ (k z fr b (σ++τ) _ i t (hrd.to f λ_ q=>q));rw[r.sim.len];exact y
theorem Qz{all:Array Oper}{o:Oper}{l:List Oper}{d:Nat}{x:A}(hg:Qm all o env true)(h:o.dst=some d)(g:Nat.blt d N=true)
  (b:OpV P o env H x)(k:WO P h0 N all l (up env d x) H Q):WO P h0 N all (o::l) env H Q:=by
 intro m fr f σ a w r hrd;obtain⟨v,i,j⟩:=b fr f σ N a w r;refine Qab (Yn hg r) i ?_;simp only[h,Act.put];have e:d<N:=by simpa using g
 exact k m fr f σ {a with tmps:=a.tmps.setIfInBounds d v} w ⟨r.sim,VR.up (fr:=fr) r.env (by rw[r.size];exact e) j,by simpa using r.size,r.defers⟩ hrd
theorem Qba{all:Array Oper}{o:Oper}{l:List Oper}(p:h0<=H.length)(hg:Qm all o env true)(j:o.dst=none)
  (f:OpU P o env H H')(k:WO P h0 N all l env H' Q):WO P h0 N all (o::l) env H Q:=by
 intro t g u σ a w r hrd;obtain⟨h,b,τ,m,i,d⟩:=f g u σ N a w r;refine Qfu (Yn hg r) m ?_;simp only[j,Act.put];have n:Rel g b (σ++τ) H' env N a h:=⟨i,λs=>(r.env s).mono (d.ext σ τ),r.size,r.defers.keep d⟩;refine Q4 (λe a w q=>q.step d (Qp ?_)) _ _ _ (k t g b (σ++τ) _ h n (hrd.to d λ_ q=>q));rw[r.sim.len];exact p
theorem Qk8{all:Array Oper}{o:Oper}{l:List Oper}{x:A}(p:h0<=H.length)(hg:Qm all o env true)(j:o.dst=none)
  (f:OpH P o env H x H')(k:WO P h0 N all l env H' Q):WO P h0 N all (o::l) env H Q:=by
 intro t g u σ a w r hrd;obtain⟨v,h,b,τ,m,y,i,d⟩:=f g u σ N a w r;refine Qab (Yn hg r) m ?_;simp only[j,Act.put];have n:Rel g b (σ++τ) H' env N a h:=⟨i,λs=>(r.env s).mono (d.ext σ τ),r.size,r.defers.keep d⟩;refine Q4 (λe a w q=>q.step d (Qp ?_)) _ _ _ (k t g b (σ++τ) _ h n (hrd.to d λ_ q=>q));rw[r.sim.len];exact p
theorem WO.skip{all:Array Oper}{o:Oper}{l:List Oper}{d:Nat}(hg:Qm all o env false)(h:o.dst=some d)(e:Nat.blt d N=true)
  (k:WO P h0 N all l (up env d (.tup [])) H Q):WO P h0 N all (o::l) env H Q:=by
 intro f fr g σ a w r hrd;unfold wpL wpListIn;rw[Yn hg r,Vn (by simp)];refine⟨λ_ _=>trivial,?_⟩;simp only[h,Act.put];have b:d<N:=by simpa using e
 exact k f fr g σ {a with tmps:=a.tmps.setIfInBounds d undef} w ⟨r.sim,VR.up (fr:=fr) r.env (by rw[r.size];exact b) ⟨[],rfl,rfl⟩,by simpa using r.size,r.defers⟩ hrd
theorem TC.region{id:Nat}{l:List Oper}(h:WO P h0 N l.toArray l env H Q):TC P h0 N (.region id l.toArray false) env H Q:=
 λrd fr ro σ a w r hrd=>Code.wpIn_mono (λe a w q=>q.postW) (wpIn_region_lit (h rd fr ro σ a w r hrd))
end
end Go.Sw
namespace Go.Sw
mutual
def Yk(ρ:Nat->Nat):A->A
 |.ptr i off=>.ptr (ρ i) off
 |.osl i o n k=>.osl (ρ i) o n k
 |.agg cs=>.agg (Qaa ρ cs)
 |.fn f a c=>.fn f (Qaa ρ a) (Qaa ρ c)
 |.iface t v=>.iface t (Yk ρ v)
 |.map i=>.map (ρ i)
 |.tup vs=>.tup (Qaa ρ vs)
 |a=>a
def Qaa(ρ:Nat->Nat):List A->List A
 |[]=>[]
 |a::r=>Yk ρ a::Qaa ρ r
end
def QeV(ρ:Nat->Nat):List (List A)->List (List A)
 |[]=>[]
 |a::r=>Qaa ρ a::QeV ρ r
def Qgq(ρ:Nat->Nat):List (A×A)->List (A×A)
 |[]=>[]
 |a::r=>(Yk ρ a.1,Yk ρ a.2)::Qgq ρ r
def QN(ρ:Nat->Nat):Blk->Blk
 |.cells t cs=>.cells t (Qaa ρ cs)
 |.rowr t k es=>.rowr t k (QeV ρ es)
 |.ents t b1 b2 es=>.ents t (ρ b1) (ρ b2) es
 |.mapP es=>.mapP (Qgq ρ es)
 |b=>b
theorem Qek(ρ:Nat->Nat)(b1 b2:Nat):∀(es:List Ent),QeV ρ (es.map (eC b1 b2))=es.map (eC (ρ b1) (ρ b2))
 |[]=>rfl
 |e::es=>by
  have:=Qek ρ b1 b2 es;simp only[Vf,QeV,this];congr 1;cases h:e.fl<;>simp[eC,Qaa,Yk,h]
theorem QE(ρ:Nat->Nat)(x:Blk):(QN ρ x).live=x.live:=by cases x<;>rfl
theorem Qai(ρ:Nat->Nat)(x:Blk)(w:World)(b c:Nat):Hid w (QN ρ x) b c↔Hid w x b c:=by cases x<;>exact Iff.rfl
section
variable {ro:Nat->Prop} {σ σ':Sig} {w:World} {ρ:Nat->Nat} (h:∀i:Nat,σ[ρ i]?=σ'[i]?)
include h
mutual
theorem QcD:∀{a:A} {v:Value},VR ro σ w (Yk ρ a) v↔VR ro σ' w a v
 |.any,_=>by simp only[Yk,VR]
 |.bool b,v=>by simp only[Yk,VR]
 |.int k n,v=>by simp only[Yk,VR]
 |.str s,v=>by simp only[Yk,VR]
 |.nilp,v=>by simp only[Yk,VR]
 |.ptr i off,v=>by simp only[Yk,VR,h]
 |.rp cs,v=>by simp only[Yk,VR]
 |.nils,v=>by simp only[Yk,VR]
 |.rsl k es,v=>by simp only[Yk,VR]
 |.osl i o n k,v=>by simp only[Yk,VR,h]
 |.agg cs,v=>by simp only[Yk,VR];exact exists_congr λl=>and_congr_right λ_=>Qbg
 |.fn f a c,v=>by simp only[Yk,VR];exact exists_congr λl=>exists_congr λl'=>and_congr_right λ_=>and_congr Qbg Qbg
 |.nilf,v=>by simp only[Yk,VR]
 |.iface t a,v=>by simp only[Yk,VR];exact exists_congr λl=>and_congr_right λ_=>QcD
 |.nilif,v=>by simp only[Yk,VR]
 |.map i,v=>by simp only[Yk,VR,h]
 |.nilm,v=>by simp only[Yk,VR]
 |.tup vs,v=>by simp only[Yk,VR];exact exists_congr λl=>and_congr_right λ_=>Qbg
theorem Qbg:∀{az:List A} {l:List Value},LR ro σ w (Qaa ρ az) l↔LR ro σ' w az l
 |[],l=>by simp only[Qaa,LR]
 |a::r,l=>by
  simp only[Qaa,LR];exact exists_congr λv=>exists_congr λl'=>and_congr_right λ_=>and_congr QcD Qbg
end
theorem QcO:∀(cs:List A),(Qaa ρ cs).length=cs.length
 |[]=>rfl
 |a::r=>by simp[Qaa,QcO r]
theorem QgM{k:Nat}:∀{es:List (List A)} {l:List Value},RL ro σ w k (QeV ρ es) l↔RL ro σ' w k es l
 |[],l=>by simp only[QeV,RL]
 |a::r,l=>by
  simp only[QeV,RL,QcO h];exact exists_congr λl1=>exists_congr λl2=>and_congr_right λ_=>and_congr_right λ_=>and_congr (and_congr_left λ_=>Qbg h) QgM
theorem Qjv:∀{es:List (A×A)} {l:List MapEntry},ER ro σ w (Qgq ρ es) l↔ER ro σ' w es l
 |[],l=>by simp only[Qgq,ER]
 |a::r,l=>by
  simp only[Qgq,ER];exact exists_congr λe=>exists_congr λl'=>and_congr_right λ_=>and_congr (QcD h) (and_congr (QcD h) Qjv)
theorem Qfr{x:Blk}{s:Option Nat}:BR ro σ w (QN ρ x) s↔BR ro σ' w x s:=by
 cases x with
 |cells t e=>
  cases s with
  |none=>exact Iff.rfl
  |some b=>simp only[QN,BR];exact exists_congr λl=>and_congr_right λ_=>and_congr_left λ_=>Qbg h
 |rowr t k a=>
  cases s with
  |none=>exact Iff.rfl
  |some b=>simp only[QN,BR];exact exists_congr λl=>and_congr_right λ_=>QgM h
 |mapP a=>
  cases s with
  |none=>exact Iff.rfl
  |some b=>simp only[QN,BR];exact exists_congr λl=>exists_congr λc=>and_congr_right λ_=>and_congr_left λ_=>Qjv h
 |ents t d f a=>
  cases s with
  |none=>exact Iff.rfl
  |some b=>
   simp only[QN,BR];refine exists_congr λl=>and_congr_right λ_=>?_;rw[<- Qek];exact QgM h
 |_=>cases s<;>exact Iff.rfl
end
def C(P:Program)(f:FuncId)(args:List A)(H:Qc)(Q:A->Qc->Prop):Prop:=
 ∀fr ro σ vals w,Sim fr ro σ H w->LR ro σ w args vals->Calls P f vals.toArray w λe w'=>
  ∃v r H' ro' τ,e=.returned v/\Q r H'/\Sim fr ro' (σ++τ) H' w'/\VR ro' (σ++τ) w' r v/\Qg fr ro w ro' w'
theorem C.mono{P:Program}{f:FuncId}{args:List A}{H:Qc}{Q Q':A->Qc->Prop}(h:C P f args H Q)(hq:∀r H,Q r H->Q' r H):C P f args H Q':=
 λfr ro σ vals w s l=>(h fr ro σ vals w s l).mono λe w' ⟨v,r,H',ro',τ,h1,h2,h3⟩=>⟨v,r,H',ro',τ,h1,hq _ _ h2,h3⟩
def QeA:Nat->List A->Env
 |_,[]=>[]
 |i,a::r=>(i,a)::QeA (i+1) r
theorem Qdx{ro:Nat->Prop}{σ:Sig}{w:World}:∀{args:List A} {vals:List Value} {i:Nat} (pre:List Value),pre.length=i->LR ro σ w args vals->∀rest:Array Value,
  ∀s,VR ro σ w (lk (QeA i args) s) (((pre++vals).toArray++rest).getD s undef)
 |[],vals,i,pre,hp,hl,rest,s=>trivial
 |a::r,vals,i,pre,hp,hl,rest,s=>by
  simp only[LR]at hl;obtain⟨v,l',rfl,h1,h2⟩:=hl;simp only[QeA,lk];by_cases e:s=i
  .subst e;rw[Vx];have:((pre++v::l').toArray++rest).getD s undef=v:=by
    subst hp;simp[Array.getD_eq_getD_getElem?,Array.getElem?_append]
   rw[this];exact h1
  .have:Nat.beq s i=false:=by
    rw[VE];intro q;exact e (XO q)
   rw[this];have:=Qdx (i:=i+1) (pre++[v]) (by simp[hp]) h2 rest s;simpa using this
def QbO(P:Program)(fn:Func)(env:Env)(H:Qc)(r:A):Prop:=
 ∀fr ro σ N a w,Rel fr ro σ H env N a w->∃v,(results fn a.tmps).run P w=.ok v w/\VR ro σ w r v
def Qcj(P:Program)(h0:Nat)(fn:Func)(Q:A->Qc->Prop):Qv
 |.normal,env,H=>∃env' H' r,Le h0 env H env' H'/\QbO P fn env' H' r/\Q r H'
 |.ret,env,H=>∃env' H' r,Le h0 env H env' H'/\QbO P fn env' H' r/\Q r H'
 |.exit _,_,_=>False
theorem LR.length{ro:Nat->Prop}{σ:Sig}{w:World}:∀{az:List A} {l:List Value},LR ro σ w az l->l.length=az.length
 |[],l,h=>by simp only[LR]at h;simp[h]
 |a::r,l,h=>by
  simp only[LR]at h;obtain⟨v,l',rfl,_,h2⟩:=h;simp[h2.length]
theorem Sim.turn{fr ro:Nat->Prop}{σ:Sig}{H:Qc}{w:World}(s:Sim fr ro σ H w){b:Nat}{obj:Obj}(n:¬ro b)(p:¬fr b)(u:∀(i:Nat) (x:Blk),σ[i]?=some (some b)->H[i]?=some x->x.live=true->False)
  (g:∀(i d:Nat) (x:Blk),σ[i]?=some (some d)->H[i]?=some x->Hid w x d b->False)
  (r:∀y,w.shape? b=some y->(w.putObj b obj).shape? b=some y):Sim fr ro σ H (w.putObj b obj)/\Qg fr ro w ro (w.putObj b obj):=by
 have a:∀c,c≠b->(w.putObj b obj).heap[c]?=w.heap[c]? :=λc F=>World.putObj_heap_other F;have f:(w.putObj b obj).heap.size=w.heap.size:=by simp
 have ev:Qg fr ro w ro (w.putObj b obj):=by
  refine⟨λ_ q=>q,λc q=>a c (λe=>n (e▸q)),λc q=>a c (λe=>p (e▸q)),by rw[f];exact XR _,λc x q=>?_,rfl,rfl,rfl,XR _⟩;by_cases e:c=b
  .subst e;exact r x q
  .unfold World.shape? at q⊢;rw[a c e];exact q
 have l:Ext ro σ w ro σ (w.putObj b obj):=by have:=ev.ext σ [];simpa using this
 refine⟨⟨s.len,s.roOk.to (λ_ q=>q) ev.keepRo (λc q=>by rw[f];exact s.roLt c q),λc q=>by rw[f];exact s.frLt c q,s.roFr,λi c x k h G=>?_,s.inj,λi y x k h=>?_,
  s.hidTo (· = ·) QP (by rw[f];exact XR _) (λ_ _ _ _ _ _ _ q=>q) (λ_ _ _ _ _ _ _ q=>q) λj d y m t M=>.inl ⟨j,y,rfl,m,t,id,λc q=>s.hidKeep m t (λz=>a d (λe=>u j y (e▸m) t z)) ev.keepRo q⟩⟩,ev⟩
 .obtain⟨E,L,B⟩:=s.own i c x k h G;exact⟨by rw[f];exact E,L,B⟩
 .refine(s.blk i y x k h).keep l ?_ ?_
  .rintro c rfl J;exact a c (λe=>u i x (e▸k) h J)
  .rintro d c rfl q;exact a c (λe=>g i d x k h (e▸q))
theorem Qa8{P:Program}{fn:Func}{tmps:Array Value}{R:Ending->World->Prop}{fr ro:Nat->Prop}{σ:Sig}{H:Qc}:
  ∀(ds:List Deferred) (w:World),ds.Nodup->(∀d∈ds,∃D,d={target:=.collected D,args:= #[]}/\ ¬ro D/\ ¬fr D/\(∀(i:Nat) (x:Blk),σ[i]?=some (some D)->H[i]?=some x->x.live=true->False)/\(∀(i d:Nat) (x:Blk),σ[i]?=some (some d)->H[i]?=some x->Hid w x d D->False)/\w.heap[D]?=some (.deferred (some [])))->
  Sim fr ro σ H w->(∀w',Sim fr ro σ H w'->Qg fr ro w ro w'->∃v,(results fn tmps).run P w'=.ok v w'/\R (.returned v) w')->LeavesInM Fence.wide 0 P fn tmps R ds .returning w
 |[],w,_,_,s,hk=>by
  obtain⟨v,h1,h2⟩:=hk w s (Qg.refl _ _ _);exact⟨v,h1,h2⟩
 |d::ds,w,hn,hd,s,hk=>by
  obtain⟨D,rfl,h1,h2,h3,h5,h4⟩:=hd d (by simp);obtain⟨n1,n2⟩:=List.nodup_cons.1 hn;obtain⟨s',ev⟩:=s.turn (obj:=.deferred none) h1 h2 h3 h5 (λy q=>by unfold World.shape? at q;rw[h4]at q;simp at q);refine⟨(by intro e;cases e),.inl ⟨D,_,rfl,run_takeDeferred h4,?_⟩⟩;refine Qa8 ds _ n2 (λd' q=>?_) s' (λw' q1 q2=>hk w' q1 (ev.trans q2));obtain⟨D',rfl,g1,g2,g3,g5,g4⟩:=hd d' (by simp[q]);refine⟨D',rfl,g1,g2,g3,λi d x z1 z2 z3=>g5 i d x z1 z2 (s.hidKeep z1 z2 (λz=>World.putObj_heap_other (λe:d=D=>h3 i x (e▸z1) z2 z)) (λb q=>World.putObj_heap_other (λe:b=D=>h1 (e▸q))) z3),(World.putObj_heap_other (λe=>?_)).trans g4⟩;subst e;exact n1 q
theorem Qa{P:Program}{f:FuncId}{fn:Func}{c:Code}{N:Nat}{args:List A}{H:Qc}{Q:A->Qc->Prop}
  (hf:P.funcs[f]?=some fn)(hb:fn.body=some c)(hN:fn.ntmps=N)(hA:Nat.ble args.length N=true)
  (h:TC P H.length N c (QeA 0 args) H (Qcj P H.length fn Q)):C P f args H Q:=by
 intro fr ro σ vals w hs hl;have t:=hl.length;have aa:args.length<=N:=by simpa using hA
 refine(callsIn_wide (n:=0)).1 (callsIn_of_wp_marks hf hb trivial (Code.wpIn_mono ?_ (h none fr ro σ _ w ⟨hs,?_,?_,List.nodup_nil,λd k=>by cases k⟩ Qc7.none)))
 .rintro e l j ⟨x,u,H1,F,σ1,T,z,G,h3,h4,h5,W⟩;have y:(∃g H' r,Le H.length u H1 g H'/\QbO P fn g H' r/\Q r H')->LeavesInM Fence.wide 0 P fn l.tmps (λe j=>
    ∃v' r H' a τ,e=.returned v'/\Q r H'/\Sim fr a (σ++τ) H' j/\VR a (σ++τ) j r v'/\Qg fr ro w a j) l.defers .returning j:=by
   rintro⟨g,H',r,B,hr,Y⟩;obtain⟨a,σ',b,p,ht⟩:=B T F σ1 N l j h3;have hσ:σ'=σ++σ'.drop H.length:=by
    have J:σ'.take H.length=σ:=by rw[ht,h5,VA (by rw[hs.len];exact XR _)]
    conv=>lhs;rw[<- Xy H.length σ',J]
   have s1:Sim fr a σ' H' j:=b.sim.frMono W.sub;refine Qa8 (ro:=a) (fr:=fr) (σ:=σ') (H:=H') l.defers j b.defers.1 (λd k=>?_) s1 (λw2 V m=>?_)
   .obtain⟨D,rfl,O,g2⟩:=b.defers.2 d k;refine⟨D,rfl,λq=>b.sim.roFr D q O,λq=>?_,λi x E M L=>(b.sim.own i D x E M L).2.2 O,λi d x E M L=>(b.sim.hid i d x D E M L).fr O,g2⟩;rcases W.ds _ k with X|⟨D',e,X⟩
    .cases X
    .have:D=D':=by simpa using e
     subst this;have:=hs.frLt D q;omega
   .have R:Rel fr a σ' H' g N {l with defers:=[]} w2:=⟨V,λs=>(b.env s).mono (by have:=m.ext σ' [];simpa using this),b.size,List.nodup_nil,λd k=>by cases k⟩;obtain⟨v,J,e2⟩:=hr fr a σ' N _ w2 R;exact⟨v,J,v,r,H',a,σ'.drop H.length,rfl,Y,hσ▸V,hσ▸e2,(h4.trans (Yy p)).trans m⟩
  cases e with
  |normal=>
   obtain rfl:x=.normal:=z;exact y G
  |ret=>
   obtain rfl:x=.ret:=z;exact y G
  |exit id=>
   obtain rfl:x=.exit id:=z;exact G.elim
  |_=>exact z.elim
 .intro s;have:=Qdx (i:=0) [] rfl hl (Array.replicate (fn.ntmps-vals.toArray.size) undef) s;simpa using this
 .simp[hN,t];omega
section
variable {P:Program} {fn:Func} {env:Env} {H:Qc}
theorem QbO.nil(h:fn.results= #[]):QbO P fn env H (.tup []):=
 λfr ro σ N a w r=>⟨.tuple #[],by simp[results,h,go_sem],[],rfl,rfl⟩
theorem QbO.one{t:Nat}{x:A}(h:fn.results= #[.tmp t])(hx:lk env t=x):QbO P fn env H x:=
 λfr ro σ N a w r=>⟨a.tmps.getD t undef,by simp[results,h,go_sem],hx▸r.env t⟩
theorem QhQ{t u:Nat}{x y:A}(h:fn.results= #[.tmp t,.tmp u])(hx:lk env t=x)(hy:lk env u=y):QbO P fn env H (.tup [x,y]):=
 λfr ro σ N a w r=>⟨.tuple #[a.tmps.getD t undef,a.tmps.getD u undef],by simp[results,h,go_sem],
  [_,_],rfl,_,_,rfl,hx▸r.env t,_,_,rfl,hy▸r.env u,rfl⟩
theorem QcZ{t u v:Nat}{x y z:A}(h:fn.results= #[.tmp t,.tmp u,.tmp v])(hx:lk env t=x)(hy:lk env u=y)(hz:lk env v=z):
  QbO P fn env H (.tup [x,y,z]):=
 λfr ro σ N a w r=>⟨.tuple #[a.tmps.getD t undef,a.tmps.getD u undef,a.tmps.getD v undef],by simp[results,h,go_sem],
  [_,_,_],rfl,_,_,rfl,hx▸r.env t,_,_,rfl,hy▸r.env u,_,_,rfl,hz▸r.env v,rfl⟩
end
inductive Ctl (S B:Type) where
 |cont (s:S)
 |done (b:B)
 deriving DecidableEq
def iter{S B:Type}(step:S->Option (Ctl S B)):Nat->S->Option B
 |0,_=>none
 |n+1,s=>match step s with
  |some (.cont s')=>iter step n s'
  |some (.done b)=>some b
  |none=>none
def Qa4{S B:Type}(I:S->Env->Qc->Prop)(d:Ctl S B)(Q:Qv):Qv
 |.normal,env,H=>∃s,d=.cont s/\I s env H
 |.exit id,env,H=>(∃b,d=.done b)/\Q (.exit id) env H
 |.ret,env,H=>(∃b,d=.done b)/\Q .ret env H
theorem Qf3{P:Program}{h0 N:Nat}{c:Code}{S B:Type}{step:S->Option (Ctl S B)}{I:S->Env->Qc->Prop}{Q:Qv}{F:B}
  (body:∀s d env H,I s env H->step s=some d->(∀b,d=.done b->b=F)->TC P h0 N c env H (Qa4 I d Q))
  {m:Nat}{M:S}(h:iter step m M=some F){env:Env}{H:Qc}(J:I M env H):TC P h0 N (.loop c) env H Q:=by
 intro Y n E σ a w r hrd b k cs hro hb hr;have R:∀m s env H fr1 ro1 σ1 a1 w1,iter step m s=some F->I s env H->Rel fr1 ro1 σ1 H env N a1 w1->Qg n E w ro1 w1->σ1.take h0=σ.take h0->Grow n w a.defers fr1 a1.defers->
   ∃e i j,QaJ h0 n E σ w N a.defers Q e i j/\ArrivesIn (Machine.fenced P (WF Y)) P (lone (b.atR a1 (.code c::.inLoop c::k)) cs w1) b k cs e i j:=by
  intro m
  induction m with
  |zero=>intro s env H fr1 ro1 σ1 a1 w1 hit;simp[iter]at hit
  |succ m ih=>
   intro s env H fr1 ro1 σ1 a1 w1 hit J r1 ev1 t1 g1;simp only[iter]at hit;cases O:step s with
   |none=>rw[O]at hit;simp at hit
   |some d=>
    rw[O]at hit;have hd:∀b,d=.done b->b=F:=by
     rintro b rfl;simpa using hit
    obtain⟨e,i,j,G,f⟩:=body s d env H J O hd Y fr1 ro1 σ1 a1 w1 r1 (hrd.to ev1 g1.sub) b (.inLoop c::k) cs hro hb hr;obtain⟨x,g,H',y,σ',u,z,t,W,q4,T,q6⟩:=G;have p:=ev1.trans (q4.frMono g1.sub);have X:=g1.trans ev1.size q6;have V:∀x,Q x g H'->ExR e x->QaJ h0 n E σ w N a.defers Q e i j:=λx q q'=>⟨x,g,H',y,σ',u,q',q,W,p,T.trans t1,X⟩;cases e with
    |normal=>
     obtain rfl:x=.normal:=z;obtain⟨s',rfl,t⟩:=t;obtain⟨e2,a2,w2,L,l⟩:=ih s' g H' u y σ' i j hit t W p (T.trans t1) X;exact⟨e2,a2,w2,L,.of_steps (StepsIn.trans f (.one (fenced_calm hb hr rfl) stepR_inLoop)) l⟩
    |exit id=>
     obtain rfl:x=.exit id:=z;exact⟨_,i,j,V _ t.2 rfl,.pass (x:=.inLoop c) rfl (λ_ _=>.inl (by simp)) f⟩
    |ret=>
     obtain rfl:x=.ret:=z;exact⟨_,i,j,V _ t.2 rfl,.pass (x:=.inLoop c) rfl (λ_ _=>.inl (by simp)) f⟩
    |_=>exact z.elim
 obtain⟨e,i,j,G,f⟩:=R m M env H n E σ a w h J r (Qg.refl _ _ _) rfl (Grow.refl _ _ _);exact⟨e,i,j,G,.of_steps (.one (fenced_calm hb hr rfl) stepR_loop) f⟩
theorem TC.loop{P:Program}{h0 N:Nat}{c:Code}{S B:Type}{step:S->Option (Ctl S B)}(E:S->Env)(Hp:S->Qc){Q:Qv}
  {m:Nat}{s0:S}{b0:B}(h:iter step m s0=some b0){env:Env}{H:Qc}(hI:Le h0 env H (E s0) (Hp s0))
  (body:∀s d,step s=some d->(∀b,d=.done b->b=b0)->TC P h0 N c (E s) (Hp s) (Qa4 (λs env H=>Le h0 env H (E s) (Hp s)) d Q)):TC P h0 N (.loop c) env H Q:=
 Qf3 (I:=λs env H=>Le h0 env H (E s) (Hp s)) (λs d env H hI hs hd=>TC.le hI (body s d hs hd)) h hI
end Go.Sw
namespace Go.Sw
def rho(π:List Nat)(n i:Nat):Nat:=
 match π[i]? with
 |some p=>p
 |none=>n+(i-π.length)
def Ya:Qc->List Nat->List Blk->Qc
 |H,[],xs=>H++xs
 |H,p::π,x::xs=>Ya (H.set p x) π xs
 |H,_::_,[]=>H
theorem QbH:∀(π:List Nat) (H:Qc) (xs:List Blk),π.length<=xs.length->(Ya H π xs).length=H.length+(xs.length-π.length)
 |[],H,xs,_=>by simp[Ya]
 |p::π,H,[],h=>by simp at h
 |p::π,H,x::xs,h=>by
  simp only[XW]at h;simp only[Ya,QbH π (H.set p x) xs (by omega),XZ,XW];omega
theorem QbQ:∀(π:List Nat) (H:Qc) (xs:List Blk) (i:Nat),i<H.length->i∉π->(Ya H π xs)[i]?=H[i]?
 |[],H,xs,i,hi,_=>by simp[Ya,XK hi]
 |p::π,H,[],i,hi,h=>by simp[Ya]
 |p::π,H,x::xs,i,hi,h=>by
  simp only[X2,not_or]at h;simp only[Ya];rw[QbQ π (H.set p x) xs i (by simpa using hi) h.2,XN (λe=>h.1 e.symm)]
theorem Qdo:∀(π:List Nat) (H:Qc) (xs:List Blk) (j:Nat),π.length<=xs.length->(∀p∈π,p<H.length)->π.Nodup->
  (Ya H π xs)[rho π H.length j]?=xs[j]?
 |[],H,xs,j,_,_,_=>by
  simp only[Ya,rho,List.getElem?_nil,List.length_nil,Xt];rw[XL (by omega)];congr 1;omega
 |p::π,H,[],j,h,_,_=>by simp at h
 |p::π,H,x::xs,j,h,hp,hn=>by
  simp only[XW]at h;have hn':=List.nodup_cons.1 hn;simp only[Ya];cases j with
  |zero=>
   simp only[rho,XC];rw[QbQ π _ xs p (by simpa using hp p (by simp)) hn'.1];rw[Xa (hp p (by simp))]
  |succ j=>
   have ih:=Qdo π (H.set p x) xs j (by omega) (λq hq=>by simpa using hp q (by simp[hq])) hn'.2;rw[XZ]at ih;have e:rho (p::π) H.length (j+1)=rho π H.length j:=by
    simp only[rho,XD,XW];cases π[j]? with
    |none=>simp only[];congr 1;omega
    |some q=>rfl
   rw[e,ih];simp
theorem QhA(π:List Nat)(n i:Nat)(hi:n<=i\/i∈π):∃j,i=rho π n j:=by
 rcases hi with hi|hi
 .refine⟨π.length+(i-n),?_⟩;have:π[π.length+(i-n)]?=none:=XM (by omega);simp only[rho,this];omega
 .obtain⟨j,a,rfl⟩:=List.mem_iff_getElem.1 hi;exact⟨j,by simp[rho,XI a]⟩
def Q2(σ:Sig)(π:List Nat):Sig:=π.map λp=>(σ[p]?).getD none
theorem Qc9{σ τ:Sig}{π:List Nat}{n:Nat}(f:σ.length=n)(b:∀p∈π,p<n)(j:Nat):(σ++τ)[rho π n j]?=(Q2 σ π++τ)[j]? :=by
 rcases Vu j π.length with h|h
 .have a:π[j]∈π:=X9 h;have d:=b _ a;have e:rho π n j=π[j]:=by simp[rho,XI h]
  rw[e,XK (by omega),XK (by simpa[Q2]using h)];simp[Q2,XI h,XI (show π[j]<σ.length by omega)]
 .have e:rho π n j=n+(j-π.length):=by
   simp[rho,XM h]
  rw[e,XL (by omega),XL (by simpa[Q2]using h)];simp[Q2,f]
def OpC(P:Program)(o:Oper)(env:Env)(H:Qc)(f:FuncId)(args:List A):Prop:=
 ∀fr ro σ N a w,Rel fr ro σ H env N a w->∃vals:List Value,(execOp a.eval o).run P w=.ok (.enter f vals.toArray) w/\LR ro σ w args vals
theorem YS{π:List Nat}{H:Qc}{Hc:List Blk}(hH:π.map (λp=>H[p]?)=Hc.map some){p:Nat}(b:p∈π):p<H.length:=by
 have:H[p]? ∈π.map (λp=>H[p]?):=Vy b;rw[hH]at this;obtain⟨x,_,a⟩:=Xe.1 this;rcases Vu p H.length with h|h
 .exact h
 .rw[XM h]at a;simp at a
theorem WO.call{P:Program}{h0 N:Nat}{all:Array Oper}{o:Oper}{l:List Oper}{env:Env}{H:Qc}{Q:Qv}{d:Option Nat}{f:FuncId}
  {args aa:List A}{Hc:Qc}{Qr:A->Qc->Prop}(π:List Nat)(hh:h0<=H.length)(hg:Qm all o env true)(hd:o.dst=d)(hN:∀x,d=some x->x<N)
  (aq:OpC P o env H f args)(hargs:args=Qaa (rho π H.length) aa)(hH:π.map (λp=>H[p]?)=(Hc.map (QN (rho π H.length))).map some)(hπ:π.Nodup)
  (hC:C P f aa Hc Qr)
  (k:∀r H1,Qr r H1->WO P h0 N all l (match d with|some d=>up env d (Yk (rho π H.length) r)|none=>env) (Ya H π (H1.map (QN (rho π H.length)))) Q):
  WO P h0 N all (o::l) env H Q:=by
 intro rd fr ro σ a w r hrd;obtain⟨ai,h1,h2⟩:=aq fr ro σ N a w r;refine Qco (Yn hg r) h1 ?_;have hp:∀p∈π,p<H.length:=λp q=>YS hH q;have hσl:=r.sim.len;have ab:∀(j p:Nat),π[j]?=some p->H[p]?=(Hc[j]?).map (QN (rho π H.length)):=by
  intro j p M;have:=congrArg (λl=>l[j]?) hH;simp only[Xn,M,Xh]at this;cases e:Hc[j]? with
  |none=>rw[e]at this;simp at this
  |some x=>rw[e]at this;simpa using this
 have al:π.length=Hc.length:=by simpa using congrArg List.length hH
 have hσc:∀j:Nat,σ[rho π H.length j]?=(Q2 σ π)[j]? :=by
  intro j;have:=Qc9 (τ:=[]) hσl hp j;simpa using this
 let frc:Nat->Prop:=λb=>fr b\/(∃i x,σ[i]?=some (some b)/\H[i]?=some x/\x.live=true/\i∉π)\/ ∃i x d,σ[i]?=some (some d)/\H[i]?=some x/\Hid w x d b/\i∉π
 have hπj:∀(j b:Nat),(Q2 σ π)[j]?=some (some b)->∃p,π[j]?=some p/\σ[p]?=some (some b):=by
  intro j b M;simp only[Q2,Xn]at M;cases e:π[j]? with
  |none=>rw[e]at M;simp at M
  |some p=>
   rw[e]at M;simp at M;refine⟨p,rfl,?_⟩;cases e2:σ[p]? with
   |none=>rw[e2]at M;simp at M
   |some s=>rw[e2]at M;simp at M;rw[M]
 have hπi:∀(i j p:Nat),π[i]?=some p->π[j]?=some p->i=j:=by
  intro i j p T O;have hi:i<π.length:=by
   rcases Vu i π.length with q|q
   .exact q
   .rw[XM q]at T;simp at T
  have M:j<π.length:=by
   rcases Vu j π.length with q|q
   .exact q
   .rw[XM q]at O;simp at O
  rw[XI hi]at T;rw[XI M]at O;have ag:=(XV T).trans (XV O).symm;rcases Nat.lt_trichotomy i j with q|q|q
  .exact(Vw.1 hπ i j hi M q ag).elim
  .exact q
  .exact(Vw.1 hπ j i M hi q ag.symm).elim
 have am:Sim frc ro (Q2 σ π) Hc w:=by
  refine⟨by simp[Q2,al],r.sim.roOk,?_,?_,?_,?_,?_,?_⟩
  .rintro b (hb|⟨i,x,h,g,m,J⟩|⟨i,x,d,h,g,m,J⟩)
   .exact r.sim.frLt b hb
   .exact(r.sim.own i b x h g m).1
   .exact(r.sim.hid i d x b h g m).lt
  .rintro b hb (hf|⟨i,x,h,g,m,J⟩|⟨i,x,d,h,g,m,J⟩)
   .exact r.sim.roFr b hb hf
   .exact(r.sim.own i b x h g m).2.1 hb
   .exact(r.sim.hid i d x b h g m).ro hb
  .intro j b x h g m;obtain⟨p,T,e2⟩:=hπj j b h;have e3:H[p]?=some (QN (rho π H.length) x):=by rw[ab j p T,g];rfl
   obtain⟨o1,o2,o3⟩:=r.sim.own p b _ e2 e3 (by rw[QE];exact m);refine⟨o1,o2,?_⟩;rintro(hf|⟨i,y,y1,y2,y3,y4⟩|⟨i,y,d,y1,y2,y3,y4⟩)
   .exact o3 hf
   .have:=r.sim.inj i p b _ _ y1 e2 y2 e3 y3 (by rw[QE];exact m);subst this;exact y4 (Vz T)
   .exact(r.sim.hid i d y b y1 y2 y3).ne p b _ e2 e3 (by rw[QE];exact m) rfl
  .intro i j b x y h g m J X q6;obtain⟨p,T,e2⟩:=hπj i b h;obtain⟨p',O,ao⟩:=hπj j b g;have e3:H[p]?=some (QN (rho π H.length) x):=by rw[ab i p T,m];rfl
   have av:H[p']?=some (QN (rho π H.length) y):=by rw[ab j p' O,J];rfl
   have:=r.sim.inj p p' b _ _ e2 ao e3 av (by rw[QE];exact X) (by rw[QE];exact q6);subst this;have hi:i<π.length:=by
    rcases Vu i π.length with q|q
    .exact q
    .rw[XM q]at T;simp at T
   have M:j<π.length:=by
    rcases Vu j π.length with q|q
    .exact q
    .rw[XM q]at O;simp at O
   rw[XI hi]at T;rw[XI M]at O;have ag:=(XV T).trans (XV O).symm;rcases Nat.lt_trichotomy i j with q|q|q
   .exact(Vw.1 hπ i j hi M q ag).elim
   .exact q
   .exact(Vw.1 hπ j i M hi q ag.symm).elim
  .intro j s x h g;have M:j<π.length:=by
    rcases Vu j π.length with q|q
    .exact q
    .rw[XM (by simpa[Q2]using q)]at h;simp at h
   have T:π[j]?=some π[j]:=XI M;have e3:H[π[j]]?=some (QN (rho π H.length) x):=by rw[ab j _ T,g];rfl
   have e2:σ[π[j]]?=some s:=by
    have:=hσc j;rw[h]at this;simpa[rho,T]using this
   exact(Qfr hσc).1 (r.sim.blk _ s _ e2 e3)
  .intro j b x c h g m;obtain⟨p,T,e2⟩:=hπj j b h;have e3:H[p]?=some (QN (rho π H.length) x):=by rw[ab j p T,g];rfl
   have k:=r.sim.hid p b _ c e2 e3 ((Qai _ _ _ _ _).2 m);refine⟨k.lt,k.ro,?_,?_,?_⟩
   .rintro(hf|⟨i,y,y1,y2,y3,y4⟩|⟨i,y,d,y1,y2,y3,y4⟩)
    .exact k.fr hf
    .exact k.ne i c y y1 y2 y3 rfl
    .obtain⟨rfl,rfl⟩:=k.one i d y y1 y2 y3;exact y4 (Vz T)
   .intro R b' y L n Y;obtain⟨p',f1,f2⟩:=hπj R b' L;exact k.ne p' b' _ f2 (show H[p']?=some (QN (rho π H.length) y)by rw[ab R p' f1,n];rfl) (by rw[QE];exact Y)
   .intro R b' y L n Y;obtain⟨p',f1,f2⟩:=hπj R b' L;obtain⟨z4,z5⟩:=k.one p' b' _ f2 (show H[p']?=some (QN (rho π H.length) y)by rw[ab R p' f1,n];rfl) ((Qai _ _ _ _ _).2 Y);subst z5;exact⟨z4,hπi R j p' f1 T⟩
 have ah:LR ro (Q2 σ π) w aa ai:=(Qbg hσc).1 (hargs▸h2);refine Calls.mono (hC frc ro (Q2 σ π) ai w am ah) ?_;rintro e w' ⟨v,rr,H1,ac,τ,rfl,hq,sc,hv,ev⟩;have hσ':∀j:Nat,(σ++τ)[rho π H.length j]?=(Q2 σ π++τ)[j]? :=λj=>Qc9 hσl hp j;have an:H1.length=π.length+τ.length:=by rw[<- sc.len];simp[Q2]
 have ak:π.length<=(H1.map (QN (rho π H.length))).length:=by simp;omega
 have V:Qg fr ro w ac w':=⟨ev.sub,ev.keepRo,λb q=>ev.keepFr b (.inl q),ev.size,ev.shape,ev.os,ev.tape,ev.output,ev.drawn⟩;have G:∀j,(Ya H π (H1.map (QN (rho π H.length))))[rho π H.length j]?=(H1[j]?).map (QN (rho π H.length)):=by
  intro j;rw[Qdo π H _ j ak hp hπ];simp
 have B:∀i,i<H.length->i∉π->(Ya H π (H1.map (QN (rho π H.length))))[i]?=H[i]? :=λi=>QbQ π H _ i;have t:∀i:Nat,(∃j,i=rho π H.length j)\/(i<H.length/\i∉π):=by
  intro i;by_cases q:H.length<=i\/i∈π
  .exact .inl (QhA π H.length i q)
  .simp only[not_or]at q;exact .inr ⟨by omega,q.2⟩
 have F:∀i b x,i<H.length->i∉π->σ[i]?=some (some b)->H[i]?=some x->x.live=true->frc b:=λi b x h g m J X=>.inr (.inl ⟨i,x,m,J,X,g⟩);have ae:∀i b x c,i<H.length->i∉π->σ[i]?=some (some b)->H[i]?=some x->Hid w' x b c->Hid w x b c/\frc c:=λi b x c h g m J X=>
  have q6:=r.sim.hidKeep m J (λz=>ev.keepFr b (F i b x h g m J z)) ev.keepRo X
  ⟨q6,.inr (.inr ⟨i,x,b,m,J,q6,g⟩)⟩
 have aj:Sim fr ac (σ++τ) (Ya H π (H1.map (QN (rho π H.length)))) w':=by
  refine⟨?_,sc.roOk,λb q=>sc.frLt b (.inl q),λb q q'=>sc.roFr b q (.inl q'),?_,?_,?_,?_⟩
  .rw[QbH _ _ _ ak];simp[hσl,an]
  .intro i b x h g m;rcases t i with⟨j,rfl⟩|⟨c1,c2⟩
   .rw[hσ']at h;rw[G]at g;cases e:H1[j]? with
    |none=>rw[e]at g;simp at g
    |some y=>
     rw[e]at g;simp at g;subst g;obtain⟨o1,o2,o3⟩:=sc.own j b y h e (by rw[QE]at m;exact m);exact⟨o1,o2,λq=>o3 (.inl q)⟩
   .rw[B i c1 c2]at g;rw[XK (by omega)]at h;obtain⟨o1,o2,o3⟩:=r.sim.own i b x h g m;exact⟨Vb o1 ev.size,λq=>sc.roFr b q (F i b x c1 c2 h g m),o3⟩
  .intro i E b x y h g m J X q6;have af:∀(i E:Nat) (x y:Blk),(∃j,i=rho π H.length j)->(E<H.length/\E∉π)->(σ++τ)[i]?=some (some b)->(σ++τ)[E]?=some (some b)->
     (Ya H π (H1.map (QN (rho π H.length))))[i]?=some x->(Ya H π (H1.map (QN (rho π H.length))))[E]?=some y->x.live=true->y.live=true->False:=by
    rintro i E x y ⟨j,rfl⟩ ⟨c1,c2⟩ h g m J X q6;rw[hσ']at h;rw[G]at m;rw[B E c1 c2]at J;rw[XK (by omega)]at g;cases e:H1[j]? with
    |none=>rw[e]at m;simp at m
    |some z=>
     rw[e]at m;simp at m;subst m;exact(sc.own j b z h e (by rw[QE]at X;exact X)).2.2 (F E b y c1 c2 g J q6)
   rcases t i with ci|ci<;>rcases t E with ci'|ci'
   .obtain⟨j,rfl⟩:=ci;obtain⟨R,rfl⟩:=ci';rw[hσ']at h g;rw[G]at m J;cases e:H1[j]? with
    |none=>rw[e]at m;simp at m
    |some z=>
     cases W:H1[R]? with
     |none=>rw[W]at J;simp at J
     |some z'=>
      rw[e]at m;simp at m;subst m;rw[W]at J;simp at J;subst J;rw[sc.inj j R b z z' h g e W (by rw[QE]at X;exact X) (by rw[QE]at q6;exact q6)]
   .exact(af i E x y ci ci' h g m J X q6).elim
   .exact(af E i y x ci' ci g h J m q6 X).elim
   .rw[B i ci.1 ci.2]at m;rw[B E ci'.1 ci'.2]at J;rw[XK (by omega)]at h g;exact r.sim.inj i E b x y h g m J X q6
  .intro i s x h g;rcases t i with⟨j,rfl⟩|⟨c1,c2⟩
   .rw[hσ']at h;rw[G]at g;cases e:H1[j]? with
    |none=>rw[e]at g;simp at g
    |some y=>
     rw[e]at g;simp at g;subst g;exact(Qfr hσ').2 (sc.blk j s y h e)
   .rw[B i c1 c2]at g;rw[XK (by omega)]at h;refine BR.keep (V.ext σ τ) ?_ (r.sim.blk i s x h g) ?_
    .rintro b rfl hl;exact ev.keepFr b (F i b x c1 c2 h g hl)
    .rintro b c rfl hl;exact ev.keepFr c (.inr (.inr ⟨i,x,b,h,g,hl,c2⟩))
  .intro i b x c h g m;rcases t i with⟨j,rfl⟩|⟨c1,c2⟩
   .rw[hσ']at h;rw[G]at g;cases e:H1[j]? with
    |none=>rw[e]at g;simp at g
    |some y=>
     rw[e]at g;simp at g;subst g;have k:=sc.hid j b y c h e ((Qai _ _ _ _ _).1 m);refine⟨k.lt,k.ro,λq=>k.fr (.inl q),?_,?_⟩
     .intro E b' y' L n Y;rcases t E with⟨R,rfl⟩|⟨d1,d2⟩
      .rw[hσ']at L;rw[G]at n;cases W:H1[R]? with
       |none=>rw[W]at n;simp at n
       |some u=>
        rw[W]at n;simp at n;subst n;exact k.ne R b' u L W (by rw[QE]at Y;exact Y)
      .rw[B E d1 d2]at n;rw[XK (by omega)]at L;rintro rfl;exact k.fr (F E c y' d1 d2 L n Y)
     .intro E b' y' L n Y;rcases t E with⟨R,rfl⟩|⟨d1,d2⟩
      .rw[hσ']at L;rw[G]at n;cases W:H1[R]? with
       |none=>rw[W]at n;simp at n
       |some u=>
        rw[W]at n;simp at n;subst n;obtain⟨z4,rfl⟩:=k.one R b' u L W ((Qai _ _ _ _ _).1 Y);exact⟨z4,rfl⟩
      .rw[B E d1 d2]at n;rw[XK (by omega)]at L;exact(k.fr (ae E b' y' c d1 d2 L n Y).2).elim
   .rw[B i c1 c2]at g;rw[XK (by omega)]at h;obtain⟨J,X⟩:=ae i b x c c1 c2 h g m;have k:=r.sim.hid i b x c h g J;refine⟨Vb k.lt ev.size,λq=>sc.roFr c q X,k.fr,?_,?_⟩
    .intro E b' y' L n Y;rcases t E with⟨R,rfl⟩|⟨d1,d2⟩
     .rw[hσ']at L;rw[G]at n;cases W:H1[R]? with
      |none=>rw[W]at n;simp at n
      |some u=>
       rw[W]at n;simp at n;subst n;rintro rfl;exact(sc.own R c u L W (by rw[QE]at Y;exact Y)).2.2 X
     .rw[B E d1 d2]at n;rw[XK (by omega)]at L;exact k.ne E b' y' L n Y
    .intro E b' y' L n Y;rcases t E with⟨R,rfl⟩|⟨d1,d2⟩
     .rw[hσ']at L;rw[G]at n;cases W:H1[R]? with
      |none=>rw[W]at n;simp at n
      |some u=>
       rw[W]at n;simp at n;subst n;exact((sc.hid R b' u c L W ((Qai _ _ _ _ _).1 Y)).fr X).elim
     .rw[B E d1 d2]at n;rw[XK (by omega)]at L;exact k.one E b' y' L n (ae E b' y' c d1 d2 L n Y).1
 have au:VR ac (σ++τ) w' (Yk (rho π H.length) rr) v:=(QcD hσ').2 hv;have hk:=k rr H1 hq;cases d with
 |none=>
  simp only[hd,Act.put];have r':Rel fr ac (σ++τ) (Ya H π (H1.map (QN (rho π H.length)))) env N a w':=⟨aj,λs=>(r.env s).mono (V.ext σ τ),r.size,r.defers.keep V⟩;exact⟨_,rfl,Q4 (λe a w q=>q.step V (Qp (by omega))) _ _ _ (hk rd fr ac (σ++τ) _ w' r' (hrd.to V λ_ q=>q))⟩
 |some d=>
  simp only[hd,Act.put];have ar:=hN d rfl;have r':Rel fr ac (σ++τ) (Ya H π (H1.map (QN (rho π H.length)))) (up env d (Yk (rho π H.length) rr)) N {a with tmps:=a.tmps.setIfInBounds d v} w':=
   ⟨aj,VR.up (fr:=fr) (λs=>(r.env s).mono (V.ext σ τ)) (by rw[r.size];exact ar) au,by simpa using r.size,r.defers.keep V⟩
  exact⟨_,rfl,Q4 (λe a w q=>q.step V (Qp (by omega))) _ _ _ (hk rd fr ac (σ++τ) _ w' r' (hrd.to V λ_ q=>q))⟩
end Go.Sw
namespace Go.Sw
section
variable {P:Program} {o:Oper} {env:Env} {H:Qc}
theorem QI{fr ro:Nat->Prop}{σ:Sig}{N:Nat}{a:Act}{w:World}(r:Rel fr ro σ H env N a w){x:Operand}{k:IntKind}{n:Int}(h:opA env x=.int k n):a.eval x=.int k n:=by
 have:=Qf r x;rw[h]at this;exact this
theorem QaY{fr ro:Nat->Prop}{σ:Sig}{N:Nat}{a:Act}{w:World}(r:Rel fr ro σ H env N a w){x:Operand}{b:Bool}(h:opA env x=.bool b):a.eval x=.bool b:=by
 have:=Qf r x;rw[h]at this;exact this
theorem Qdb{fr ro:Nat->Prop}{σ:Sig}{N:Nat}{a:Act}{w:World}(r:Rel fr ro σ H env N a w){x:Operand}{s:List UInt8}(h:opA env x=.str s):a.eval x=.string ⟨s.toArray⟩:=by
 have:=Qf r x;rw[h]at this;exact this
theorem OpV.move{x:Operand}{v:A}(ho:o.op=.move x)(hx:opA env x=v):OpV P o env H v:=
 λfr ro σ N a w r=>⟨a.eval x,by simp[execOp,ho,go_sem],hx▸Qf r x⟩
theorem OpV.assign{x:Operand}{v:A}(ho:o.op=.assign x)(hx:opA env x=v):OpV P o env H v:=
 λfr ro σ N a w r=>⟨a.eval x,by simp[execOp,ho,go_sem],hx▸Qf r x⟩
theorem OpV.pick{c x y:Operand}{b:Bool}{v:A}(g:o.op=.pick c x y)(d:opA env c=.bool b)(e:(if b then opA env x else opA env y)=v):OpV P o env H v:=by
 intro i h σ N a w r;have f:=QaY r d;refine⟨if b then a.eval x else a.eval y,by generalize a.eval=ρ at*;simp[execOp,g,f,asBool,go_sem],?_⟩;subst e;cases b
 .exact Qf r y
 .exact Qf r x
theorem OpV.add{t u:TypeId}{x y:Operand}{k:IntKind}{m n:Int}(g:o.op=.binOp .add t x y u)(e:opA env x=.int k m)(d:opA env y=.int k n):OpV P o env H (.int k (k.wrap (m+n))):=by
 intro i h σ N a w r;have f:=QI r e;have b:=QI r d;refine⟨_,?_,rfl⟩;generalize a.eval=ρ at*;simp[execOp,g,f,b,Go.binOp,eqGuard,Op.intArith,go_sem]
theorem OpV.sub{t u:TypeId}{x y:Operand}{k:IntKind}{m n:Int}(g:o.op=.binOp .sub t x y u)(e:opA env x=.int k m)(d:opA env y=.int k n):OpV P o env H (.int k (k.wrap (m-n))):=by
 intro i h σ N a w r;have f:=QI r e;have b:=QI r d;refine⟨_,?_,rfl⟩;generalize a.eval=ρ at*;simp[execOp,g,f,b,Go.binOp,eqGuard,Op.intArith,go_sem]
theorem OpV.mul{t u:TypeId}{x y:Operand}{k:IntKind}{m n:Int}(g:o.op=.binOp .mul t x y u)(e:opA env x=.int k m)(d:opA env y=.int k n):OpV P o env H (.int k (k.wrap (m*n))):=by
 intro i h σ N a w r;have f:=QI r e;have b:=QI r d;refine⟨_,?_,rfl⟩;generalize a.eval=ρ at*;simp[execOp,g,f,b,Go.binOp,eqGuard,Op.intArith,go_sem]
theorem OpV.cmp{op:BinOp}{t u:TypeId}{x y:Operand}{k:IntKind}{m n:Int}{f:Int->Int->Bool}(j:o.op=.binOp op t x y u)(i:opA env x=.int k m)(g:opA env y=.int k n)
  (d:op=.eql/\f=(λa b=>a==b)\/op=.neq/\f=(λa b=>a != b)\/op=.lss/\f=(λa b=>decide (a<b))\/op=.leq/\f=(λa b=>decide (a<=b))\/
   op=.gtr/\f=(λa b=>decide (b<a))\/op=.geq/\f=(λa b=>decide (b<=a))):OpV P o env H (.bool (f m n)):=by
 intro p l σ N a w r;have e:=QI r i;have h:=QI r g;refine⟨_,?_,rfl⟩;generalize a.eval=ρ at*;rcases d with⟨rfl,rfl⟩|⟨rfl,rfl⟩|⟨rfl,rfl⟩|⟨rfl,rfl⟩|⟨rfl,rfl⟩|⟨rfl,rfl⟩<;>simp[execOp,j,e,h,Go.binOp,eqGuard,Op.intCmp,go_sem]
theorem OpV.eql{t u:TypeId}{x y:Operand}{k:IntKind}{m n:Int}(ho:o.op=.binOp .eql t x y u)(hx:opA env x=.int k m)(hy:opA env y=.int k n):OpV P o env H (.bool (m==n)):=
 OpV.cmp (f:=λa b=>a==b) ho hx hy (by simp)
theorem OpV.neq{t u:TypeId}{x y:Operand}{k:IntKind}{m n:Int}(ho:o.op=.binOp .neq t x y u)(hx:opA env x=.int k m)(hy:opA env y=.int k n):OpV P o env H (.bool (m != n)):=
 OpV.cmp (f:=λa b=>a != b) ho hx hy (by simp)
theorem OpV.lss{t u:TypeId}{x y:Operand}{k:IntKind}{m n:Int}(ho:o.op=.binOp .lss t x y u)(hx:opA env x=.int k m)(hy:opA env y=.int k n):OpV P o env H (.bool (decide (m<n))):=
 OpV.cmp (f:=λa b=>decide (a<b)) ho hx hy (by simp)
theorem OpV.leq{t u:TypeId}{x y:Operand}{k:IntKind}{m n:Int}(ho:o.op=.binOp .leq t x y u)(hx:opA env x=.int k m)(hy:opA env y=.int k n):OpV P o env H (.bool (decide (m<=n))):=
 OpV.cmp (f:=λa b=>decide (a<=b)) ho hx hy (by simp)
theorem OpV.gtr{t u:TypeId}{x y:Operand}{k:IntKind}{m n:Int}(ho:o.op=.binOp .gtr t x y u)(hx:opA env x=.int k m)(hy:opA env y=.int k n):OpV P o env H (.bool (decide (n<m))):=
 OpV.cmp (f:=λa b=>decide (b<a)) ho hx hy (by simp)
theorem OpV.geq{t u:TypeId}{x y:Operand}{k:IntKind}{m n:Int}(ho:o.op=.binOp .geq t x y u)(hx:opA env x=.int k m)(hy:opA env y=.int k n):OpV P o env H (.bool (decide (n<=m))):=
 OpV.cmp (f:=λa b=>decide (b<=a)) ho hx hy (by simp)
theorem OpV.rem{t u:TypeId}{x y:Operand}{k:IntKind}{m n:Int}(h:o.op=.binOp .rem t x y u)(g:opA env x=.int k m)(d:opA env y=.int k n)(f:n≠0):OpV P o env H (.int k (m.tmod n)):=by
 intro j i σ N a w r;have b:=QI r g;have e:=QI r d;exact⟨_,by generalize a.eval=ρ at*;simp[execOp,h,b,e,Go.binOp,eqGuard,Op.intDiv,f,go_sem],rfl⟩
theorem OpV.not{t:TypeId}{x:Operand}{b:Bool}(f:o.op=.unOp .not t x)(d:opA env x=.bool b):OpV P o env H (.bool !b):=by
 intro h g σ N a w r;have e:=QaY r d;exact⟨_,by generalize a.eval=ρ at*;simp[execOp,f,e,Op.unary,go_sem],rfl⟩
theorem OpV.neg{t:TypeId}{x:Operand}{k:IntKind}{n:Int}(e:o.op=.unOp .neg t x)(b:opA env x=.int k n):OpV P o env H (.int k (k.wrap (0-n))):=by
 intro g f σ N a w r;have d:=QI r b;exact⟨_,by generalize a.eval=ρ at*;simp[execOp,e,d,Op.unary,Op.intArith,go_sem],rfl⟩
theorem YL{s t:TypeId}{x:Operand}{k f:IntKind}{n:Int}{b:TypeDesc}(i:o.op=.convert s t x)(d:∀w,(underlying s).run P w=.ok b w)(g:∀w,(underlying t).run P w=.ok (.int k) w)
  (h:opA env x=.int f n):OpV P o env H (.int k (k.wrap n)):=by
 intro l j σ N a w r;have e:=QI r h;refine⟨_,?_,rfl⟩;generalize a.eval=ρ at*;cases b<;>simp[execOp,i,e,convert,d,g,Conv.intToInt,go_sem]
theorem QcG{op:BinOp}{t u:TypeId}{x y:Operand}{p q:List UInt8}{f:List UInt8->List UInt8->Bool}(l:o.op=.binOp op t x y u)(j:opA env x=.str p)(g:opA env y=.str q)
  (d:op=.eql/\f=(λa b=>a==b)\/op=.neq/\f=(λa b=>a != b)\/op=.lss/\f=Op.bytesLess\/op=.geq/\f=(λa b=> !Op.bytesLess a b)\/
   op=.leq/\f=(λa b=>Op.bytesLess a b||a==b)\/op=.gtr/\f=(λa b=> !(Op.bytesLess a b||a==b))):OpV P o env H (.bool (f p q)):=by
 intro n m σ N a w r;have e:=Qdb r j;have h:=Qdb r g;refine⟨_,?_,rfl⟩;generalize a.eval=ρ at*;have i:(⟨p.toArray⟩:ByteArray).toList=p:=by rw[Go.ByteArray.toList_eq]
 have k:(⟨q.toArray⟩:ByteArray).toList=q:=by rw[Go.ByteArray.toList_eq]
 rcases d with⟨rfl,rfl⟩|⟨rfl,rfl⟩|⟨rfl,rfl⟩|⟨rfl,rfl⟩|⟨rfl,rfl⟩|⟨rfl,rfl⟩<;>simp[execOp,l,e,h,Go.binOp,eqGuard,Op.stringOp,i,k,go_sem,bne]
theorem QcH{t u:TypeId}{x y:Operand}{p q:List UInt8}(ho:o.op=.binOp .eql t x y u)(hx:opA env x=.str p)(hy:opA env y=.str q):OpV P o env H (.bool (p==q)):=
 QcG (f:=λa b=>a==b) ho hx hy (by simp)
theorem QhT{t u:TypeId}{x y:Operand}{p q:List UInt8}(ho:o.op=.binOp .neq t x y u)(hx:opA env x=.str p)(hy:opA env y=.str q):OpV P o env H (.bool (p != q)):=
 QcG (f:=λa b=>a != b) ho hx hy (by simp)
theorem QhU{t u:TypeId}{x y:Operand}{p q:List UInt8}(ho:o.op=.binOp .lss t x y u)(hx:opA env x=.str p)(hy:opA env y=.str q):OpV P o env H (.bool (Op.bytesLess p q)):=
 QcG ho hx hy (by simp)
theorem QhV{t:TypeId}{x y:Operand}{s:List UInt8}{k:IntKind}{n:Int}{c:UInt8}(p:o.op=.index t x y)(l:∀w,(underlying t).run P w=.ok .string w)(m:opA env x=.str s)(i:opA env y=.int k n)
  (h0:0<=n)(g:s[n.toNat]?=some c):OpV P o env H (.int .u8 c.toNat):=by
 intro u q σ N a w r;have h:=Qdb r m;have j:=QI r i;have e:(⟨s.toArray⟩:ByteArray)[n.toNat]?=some c:=by
  obtain⟨b,f⟩:=XJ.1 g;have d:(⟨s.toArray⟩:ByteArray).size=s.length:=by simp[ByteArray.size]
  rw[getElem?_pos _ _ (by rw[d];exact b)];show some (s.toArray[n.toNat]'(by simpa using b))=some c;simp[f]
 refine⟨_,?_,rfl⟩;generalize a.eval=ρ at*;simp[execOp,p,h,j,Instr.index,asIntOf,l,h0,e,go_sem]
theorem Qbe{c:Call}{t:TypeId}{x:Operand}{s:List UInt8}(g:o.op=.call c)(b:c={callee:=.builtin .len,args:= #[x],argTypes:= #[t]})(d:∀w,(underlying t).run P w=.ok .string w)
  (e:opA env x=.str s):OpV P o env H (.int .i64 s.length):=by
 intro i h σ N a w r;have f:=Qdb r e;refine⟨_,?_,rfl⟩;generalize a.eval=ρ at*;subst b;simp[execOp,g,f,resolve,invoke,Go.builtin,Builtin.len_,d,goInt,go_sem]<;>rfl
theorem Qjj{c:Call}{t e:TypeId}{x:Operand}{k:Nat}{es:List (List A)}(i:o.op=.call c)(d:c={callee:=.builtin .len,args:= #[x],argTypes:= #[t]})(f:∀w,(underlying t).run P w=.ok (.slice e) w)
  (h:opA env x=.rsl k es):OpV P o env H (.int .i64 es.length):=by
 intro l j σ N a w r;have b:=Qf r x;rw[h]at b;obtain⟨ad,g,b,_⟩:=b;refine⟨_,?_,rfl⟩;generalize a.eval=ρ at*;subst d;simp[execOp,i,b,resolve,invoke,Go.builtin,Builtin.len_,f,goInt,go_sem]
theorem Qf9{c:Call}{t e:TypeId}{x:Operand}{i s n k:Nat}(l:o.op=.call c)(f:c={callee:=.builtin .len,args:= #[x],argTypes:= #[t]})(g:∀w,(underlying t).run P w=.ok (.slice e) w)
  (j:opA env x=.osl i s n k):OpV P o env H (.int .i64 n):=by
 intro y q σ N a w r;have d:=Qf r x;rw[j]at d;refine⟨_,?_,rfl⟩;generalize a.eval=ρ at*;subst f;rcases d with⟨rfl,d⟩|⟨b,p,h,u,m,_,d,_⟩<;>
 simp[execOp,l,d,resolve,invoke,Go.builtin,Builtin.len_,g,goInt,go_sem]
structure QD (P:Program) (T f off n:Nat):Prop where
 h:∃fs fd,(∀w,(underlying T).run P w=.ok (.struct fs) w)/\fs[f]?=some fd/\fd.offset=off/\(∀w,(sizeOf fd.type).run P w=.ok n w)/\n≠0
theorem YR(b off n:Nat):(⟨b,off,none⟩:Addr).add n=⟨b,off+n,none⟩:=by
 unfold Addr.add;split
 .rename_i h;simp[h]
 .rfl
theorem QcM{T f off n b p:Nat}(i:QD P T f off n)(w:World):(Instr.fieldAt T (.pointer (some ⟨b,p,none⟩)) f).run P w=.ok (.pointer (some ⟨b,p+off,none⟩)) w:=by
 obtain⟨k,j,a,d,rfl,e,g⟩:=i.h;simp[Instr.fieldAt,a,d,Instr.sureAddr,fieldPlace,e,g,YR,go_sem]
theorem Ye{T f off n i p:Nat}{x:Operand}(j:QD P T f off n)(h:o.op=.fieldAddr T x f)(g:opA env x=.ptr i p):OpV P o env H (.ptr i (p+off)):=by
 intro l k σ N a w r;have d:=Qf r x;rw[g]at d;obtain⟨b,d,e⟩:=d;refine⟨.pointer (some ⟨b,p+off,none⟩),?_,b,d,rfl⟩;generalize a.eval=ρ at*;simp only[execOp,h,e,Vi,QcM j];rfl
theorem CR.drop{ro:Nat->Prop}{σ:Sig}{w:World}{b:Nat}:∀(n:Nat) {cs:List A} {off:Nat},CR ro σ w b cs off->CR ro σ w b (cs.drop n) (off+n)
 |0,_,_,h=>h
 |n+1,[],_,h=>trivial
 |n+1,c::cs,off,h=>by
  have:=CR.drop n h.2;rw[List.drop_succ_cons];rw[show off+(n+1)=off+1+n from by omega];exact this
theorem CR.take{ro:Nat->Prop}{σ:Sig}{w:World}{b:Nat}:∀(n:Nat) {cs:List A} {off:Nat},CR ro σ w b cs off->CR ro σ w b (cs.take n) off
 |0,_,_,h=>trivial
 |n+1,[],_,h=>trivial
 |n+1,c::cs,off,h=>⟨h.1,CR.take n h.2⟩
theorem Qs{T f off n:Nat}{x:Operand}{cs cs':List A}(j:QD P T f off n)(k:o.op=.fieldAddr T x f)(i:opA env x=.rp cs)(e:cs.drop off=cs'):OpV P o env H (.rp cs'):=by
 intro m l σ N a w r;have d:=Qf r x;rw[i]at d;obtain⟨b,p,d,h,g⟩:=d;refine⟨.pointer (some ⟨b,p+off,none⟩),?_,b,p+off,rfl,h,e▸g.drop off⟩;generalize a.eval=ρ at*;simp only[execOp,k,d,Vi,QcM j];rfl
theorem RR.get{ro:Nat->Prop}{σ:Sig}{w:World}{b k:Nat}:∀(n:Nat) {es:List (List A)} {off:Nat} {c:List A},RR ro σ w b k es off->es[n]?=some c->c.length=k/\CR ro σ w b c (off+n*k)
 |n,[],_,_,h,hc=>by simp at hc
 |0,e::es,off,c,h,hc=>by
  simp at hc;subst hc;exact⟨h.1,by simpa using h.2.1⟩
 |n+1,e::es,off,c,h,hc=>by
  have:=RR.get n h.2.2 (by simpa using hc);refine⟨this.1,?_⟩;rw[show off+(n+1)*k=off+k+n*k from by rw[Xj];omega];exact this.2
theorem Qj9{t e:TypeId}{x y:Operand}{k:Nat}{es:List (List A)}{j:IntKind}{n:Int}{c:List A}(p:o.op=.indexAddr t x y)(u:∀w,(underlying t).run P w=.ok (.slice e) w)
  (l:∀w,(sizeOf e).run P w=.ok k w)(E:opA env x=.rsl k es)(m:opA env y=.int j n)(h0:0<=n)(h:es[n.toNat]?=some c):OpV P o env H (.rp c):=by
 intro L J σ N a w r;have f:=Qf r x;rw[E]at f;have i:=QI r m;obtain⟨ad,B,f,G,q⟩:=f;have g:n.toNat<es.length:=(XJ.1 h).1;rcases q with rfl|⟨b,d,rfl,F,s⟩
 .simp at g
 have z:n<es.length:=by omega
 refine⟨.pointer (some ⟨b,d+n.toNat*k,none⟩),?_,b,d+n.toNat*k,rfl,F,(s.get n.toNat h).2⟩;generalize a.eval=ρ at*;simp[execOp,p,f,i,Instr.indexAt,asIntOf,u,l,h0,z,YR,go_sem]
theorem Qfi{t e:TypeId}{x y:Operand}{i s m k:Nat}{l:IntKind}{n:Int}(F:o.op=.indexAddr t x y)(z:∀w,(underlying t).run P w=.ok (.slice e) w)
  (h:∀w,(sizeOf e).run P w=.ok k w)(E:opA env x=.osl i s m k)(j:opA env y=.int l n)(h0:0<=n)(f:n<m):OpV P o env H (.ptr i (s*k+n.toNat*k)):=by
 intro O J σ N a w r;have d:=Qf r x;rw[E]at d;have q:=QI r j;rcases d with⟨rfl,_⟩|⟨b,p,B,M,G,g,d,u,L,_⟩
 .omega
 obtain rfl:=u (by omega);refine⟨.pointer (some ⟨b,s*k+n.toNat*k,none⟩),?_,b,g,rfl⟩;generalize a.eval=ρ at*;simp[execOp,F,d,q,Instr.indexAt,asIntOf,z,h,h0,f,YR,go_sem]
def Pts(H:Qc)(p:A)(cs:List A):Prop:=
 ∀fr ro σ w v,Sim fr ro σ H w->VR ro σ w p v->∃b off,v=.pointer (some ⟨b,off,none⟩)/\CR ro σ w b cs off
theorem VR.lift{ro:Nat->Prop}{σ:Sig}{w:World}{a:A}{v:Value}(h:VR ro [] w a v):VR ro σ w a v:=
 h.mono ⟨λ_ q=>q,λ_ _=>rfl,λ_ _ q=>q,λi b q=>by simp at q⟩
theorem CR.lift{ro:Nat->Prop}{σ:Sig}{w:World}{b:Nat}:∀{cs:List A} {off:Nat},CR ro [] w b cs off->CR ro σ w b cs off
 |[],_,_=>trivial
 |c::cs,off,⟨⟨v,h1,hp,h2⟩,h3⟩=>⟨⟨v,h1,hp,h2.lift⟩,CR.lift h3⟩
theorem LR.lift{ro:Nat->Prop}{σ:Sig}{w:World}:∀{cs:List A} {l:List Value},LR ro [] w cs l->LR ro σ w cs l
 |[],_,h=>h
 |c::cs,l,⟨v,l',h1,h2,h3⟩=>⟨v,l',h1,h2.lift,LR.lift h3⟩
theorem Pts.rp{cs:List A}:Pts H (.rp cs) cs:=λfr ro σ w v s ⟨b,off,h1,h2,h3⟩=>⟨b,off,h1,h3.lift⟩
theorem LR.cells{ro:Nat->Prop}{σ:Sig}{w:World}{b t:Nat}{fz:Nat×Nat}{pre l:List Value}(d:w.heap[b]?=some (.cells (pre++l).toArray t fz))(a:∀v∈l,Qn v):
  ∀{cs:List A},LR ro σ w cs l->CR ro σ w b cs pre.length:=by
 induction l generalizing pre with
 |nil=>
  intro cs h;cases cs with
  |nil=>trivial
  |cons c cs=>obtain⟨v,e,h,_⟩:=h;cases h
 |cons v l g=>
  intro cs h;cases cs with
  |nil=>trivial
  |cons c cs=>
   obtain⟨m,e,i,j,f⟩:=h;cases i;refine⟨⟨v,by simp[World.cell?,d],a v (by simp),j⟩,?_⟩;have:=g (pre:=pre++[v]) (by simpa using d) (λx k=>a x (by simp[k])) f;simpa using this
theorem Pts.cells{i off t:Nat}{cs cs':List A}(hH:H[i]?=some (.cells t cs))(a:cs.drop off=cs'):Pts H (.ptr i off) cs':=by
 intro m k σ w v s h;obtain⟨b,g,j⟩:=h;obtain⟨l,e,d,f⟩:=s.blk i _ _ g hH;have:=LR.cells (pre:=[]) (by simpa using e) f d;refine⟨b,off,j,a▸ ?_⟩;have:=this.drop off;simpa using this
theorem LR.get{ro:Nat->Prop}{σ:Sig}{w:World}:∀{az:List A} {l:List Value} (i:Nat) {a:A},LR ro σ w az l->az[i]?=some a->∃v,l[i]?=some v/\VR ro σ w a v
 |[],l,i,a,h,ha=>by simp at ha
 |x::az,l,0,a,⟨v,l',h1,h2,h3⟩,ha=>by
  simp at ha;subst ha h1;exact⟨v,rfl,h2⟩
 |x::az,l,i+1,a,⟨v,l',h1,h2,h3⟩,ha=>by
  subst h1;obtain⟨v',q1,q2⟩:=LR.get i h3 (by simpa using ha);exact⟨v',by simpa using q1,q2⟩
theorem LR.drop{ro:Nat->Prop}{σ:Sig}{w:World}:∀(n:Nat) {az:List A} {l:List Value},LR ro σ w az l->LR ro σ w (az.drop n) (l.drop n)
 |0,az,l,h=>h
 |n+1,[],l,h=>by cases(show l=[]from h);rfl
 |n+1,a::az,l,⟨v,l',h1,h2,h3⟩=>by subst h1;exact LR.drop n h3
theorem LR.take{ro:Nat->Prop}{σ:Sig}{w:World}:∀(n:Nat) {az:List A} {l:List Value},LR ro σ w az l->LR ro σ w (az.take n) (l.take n)
 |0,az,l,h=>rfl
 |n+1,[],l,h=>by cases(show l=[]from h);rfl
 |n+1,a::az,l,⟨v,l',h1,h2,h3⟩=>by subst h1;exact⟨v,l'.take n,rfl,h2,LR.take n h3⟩
theorem LR.append{ro:Nat->Prop}{σ:Sig}{w:World}:∀{az:List A} {l:List Value} {bs:List A} {m:List Value},LR ro σ w az l->LR ro σ w bs m->LR ro σ w (az++bs) (l++m)
 |[],l,bs,m,h,k=>by cases(show l=[]from h);exact k
 |a::az,l,bs,m,⟨v,l',h1,h2,h3⟩,k=>by subst h1;exact⟨v,l'++m,rfl,h2,LR.append h3 k⟩
theorem Qhu{ro:Nat->Prop}{σ:Sig}{w:World}{b t:Nat}{fz:Nat×Nat}:∀{cs:List A} {pre l post:List Value},w.heap[b]?=some (.cells (pre++(l++post)).toArray t fz)->(∀v∈l,Qn v)->
  LR ro σ w cs l->CR ro σ w b cs pre.length
 |[],_,_,_,_,_,_=>trivial
 |c::cs,pre,l,post,hb,hpl,⟨v,l',h1,h2,h3⟩=>by
  subst h1;refine⟨⟨v,by simp[World.cell?,hb],hpl v (by simp),h2⟩,?_⟩;have:=Qhu (pre:=pre++[v]) (l:=l') (post:=post) (by simpa using hb) (λx hx=>hpl x (by simp[hx])) h3;simpa using this
theorem Yz{ro:Nat->Prop}{σ:Sig}{w:World}{b t k:Nat}{fz:Nat×Nat}:∀{es:List (List A)} {pre l:List Value},w.heap[b]?=some (.cells (pre++l).toArray t fz)->
  RL ro σ w k es l->RR ro σ w b k es pre.length
 |[],_,_,_,_=>trivial
 |c::es,pre,l,hb,⟨l1,l2,h1,h2,h3,h4⟩=>by
  subst h1;refine⟨h2,Qhu hb h3.2 h3.1,?_⟩;have hl:=h3.1.length;have:=Yz (pre:=pre++l1) (l:=l2) (by simpa using hb) h4;simpa[hl,h2]using this
theorem Pts.row{i off t k e f:Nat}{es:List (List A)}{c cs':List A}(hH:H[i]?=some (.row t k es))(n:off=e*k+f)(he:es[e]?=some c)(a:c.drop f=cs'):Pts H (.ptr i off) cs':=by
 intro q p σ w v s h;obtain⟨b,j,m⟩:=h;obtain⟨l,g,d⟩:=s.blk i _ _ j hH;have:=((Yz (pre:=[]) (by simpa using g) d).get e he).2.drop f;refine⟨b,off,m,?_⟩;subst n a;simpa using this.lift
theorem Pts.rowr{i off t k e f:Nat}{es:List (List A)}{c cs':List A}(hH:H[i]?=some (.rowr t k es))(n:off=e*k+f)(he:es[e]?=some c)(a:c.drop f=cs'):Pts H (.ptr i off) cs':=by
 intro q p σ w v s h;obtain⟨b,j,m⟩:=h;obtain⟨l,g,d⟩:=s.blk i _ _ j hH;have:=((Yz (pre:=[]) (by simpa using g) d).get e he).2.drop f;refine⟨b,off,m,?_⟩;subst n a;simpa using this
theorem QhI{w w':World}(h:w'.heap=w.heap)(a:Addr):w'.cell? a=w.cell? a:=by unfold World.cell?;rw[h]
theorem Yo{ro:Nat->Prop}{σ:Sig}{w:World}{b off:Nat}:∀{cs:List A} (i:Nat),CR ro σ w b cs (off+i)->
  ∃l,LR ro σ w cs l/\(∀v∈l,Qn v)/\ ∀(w':World) (a:Array Value),w'.heap=w.heap->(loadCellsFrom ⟨b,off,none⟩ i cs.length a).run P w'=.ok (a++l.toArray) w'
 |[],i,h=>⟨[],rfl,by simp,λw' a _=>by simp[loadCellsFrom,go_sem]⟩
 |c::cs,i,⟨⟨v,h1,hp,h2⟩,h3⟩=>by
  obtain⟨l,q1,qp,q2⟩:=Yo (cs:=cs) (i+1) (by rw[<- Nat.add_assoc];exact h3);refine⟨v::l,⟨v,l,rfl,h2,q1⟩,by simpa using⟨hp,qp⟩,λw' a hw=>?_⟩;have h1':w'.cell? ⟨b,off+i,none⟩=some v:=by rw[QhI hw];exact h1
  have:=q2 w' (a.push v) hw;simp[loadCellsFrom,Go.load,Sem.run,YR,h1',this,go_sem]
theorem Qj{t n:Nat}{x:Operand}{p:A}{cs vs:List A}(s:o.op=.load t x)(f:∀w,(isAgg t).run P w=.ok true w)(j:∀w,(sizeOf t).run P w=.ok n w)(q:opA env x=p)(i:Pts H p cs)
  (y:cs.take n=vs)(hl:vs.length=n):OpV P o env H (.agg vs):=by
 intro u m σ N a w r;have e:=Qf r x;rw[q]at e;obtain⟨b,off,k,g⟩:=i u m σ w _ r.sim e;subst y;obtain⟨l,h,_,d⟩:=Yo (P:=P) (cs:=cs.take n) (off:=off) 0 (by simpa using g.take n);have d:=d w #[] rfl;rw[hl]at d;refine⟨.agg l.toArray,?_,l,rfl,h⟩;generalize a.eval=ρ at*;simp[execOp,s,k,Instr.loadAt,Instr.sureAddr,loadVar,f,j,loadCells,d,go_sem]
theorem OpV.load{t:Nat}{x:Operand}{p v:A}{cs:List A}(l:o.op=.load t x)(e:∀w,(isAgg t).run P w=.ok false w)(k:opA env x=p)(g:Pts H p (v::cs)):OpV P o env H v:=by
 intro m j σ N a w r;have d:=Qf r x;rw[k]at d;obtain⟨b,n,h,⟨y,f,_,i⟩,_⟩:=g m j σ w _ r.sim d;refine⟨y,?_,i⟩;generalize a.eval=ρ at*;simp[execOp,l,h,Instr.loadAt,Instr.sureAddr,loadVar,e,Go.load,Sem.run,f,go_sem]
theorem OpV.extract{x:Operand}{vs:List A}{i:Nat}{v:A}(j:o.op=.extract x i)(h:opA env x=.tup vs)(e:vs[i]?=some v):OpV P o env H v:=by
 intro m k σ N a w r;have b:=Qf r x;rw[h]at b;obtain⟨l,b,f⟩:=b;obtain⟨y,d,g⟩:=f.get i e;refine⟨y,?_,g⟩;generalize a.eval=ρ at*;simp[execOp,j,b,Instr.extract,d,go_sem]
theorem Qa3{fr ro:Nat->Prop}{σ:Sig}{N:Nat}{a:Act}{w:World}(r:Rel fr ro σ H env N a w):∀(l:List Operand),LR ro σ w (l.map (opA env)) (l.map a.eval)
 |[]=>rfl
 |x::l=>⟨_,_,rfl,Qf r x,Qa3 r l⟩
theorem OpV.makeFunc{f:Fn}{first cap:List Operand}{vf vc:List A}(e:o.op=.makeFunc f first.toArray cap.toArray)(d:first.map (opA env)=vf)(b:cap.map (opA env)=vc):OpV P o env H (.fn f vf vc):=by
 intro h g σ N a w r;refine⟨.func f (first.map a.eval).toArray (cap.map a.eval).toArray,?_,_,_,rfl,d▸Qa3 r first,b▸Qa3 r cap⟩;generalize a.eval=ρ at*;simp[execOp,e,Instr.makeFunc,go_sem]
theorem Qao{t:TypeId}{x:Operand}{v:A}{d:TypeDesc}(h:o.op=.makeInterface t x)(e:∀w,(underlying t).run P w=.ok d w)(f:∀m,d≠ .interface m)(g:opA env x=v):OpV P o env H (.iface t v):=by
 intro j i σ N a w r;have b:=Qf r x;rw[g]at b;refine⟨.iface t (a.eval x),?_,_,rfl,b⟩;generalize a.eval=ρ at*;cases d<;>first|(simp[execOp,h,Instr.makeInterface,e,go_sem];done)|exact(f _ rfl).elim
end
end Go.Sw
namespace Go.Sw
mutual
def Q9:A->Bool
 |.ptr _ _=>false
 |.osl _ _ _ _=>false
 |.map _=>false
 |.agg cs=>Q6 cs
 |.fn _ a c=>Q6 a&&Q6 c
 |.iface _ v=>Q9 v
 |.tup vs=>Q6 vs
 |_=>true
def Q6:List A->Bool
 |[]=>true
 |a::r=>Q9 a&&Q6 r
end
mutual
theorem VR.data{ro:Nat->Prop}{σ σ':Sig}{w:World}:∀{a:A} {v:Value},Q9 a=true->VR ro σ w a v->VR ro σ' w a v
 |.any,_,_,_=>trivial
 |.bool b,v,_,q=>q
 |.int k n,v,_,q=>q
 |.str s,v,_,q=>q
 |.nilp,v,_,q=>q
 |.ptr i off,v,d,q=>by simp[Q9]at d
 |.rp cs,v,_,q=>q
 |.nils,v,_,q=>q
 |.rsl k es,v,_,q=>q
 |.osl i o n k,v,d,q=>by simp[Q9]at d
 |.agg cs,v,d,q=>by
  simp only[VR,Q9]at q d⊢;obtain⟨l,h1,h2⟩:=q;exact⟨l,h1,LR.data d h2⟩
 |.fn f a c,v,d,q=>by
  simp only[VR,Q9,XU]at q d⊢;obtain⟨l,l',h1,h2,h3⟩:=q;exact⟨l,l',h1,LR.data d.1 h2,LR.data d.2 h3⟩
 |.nilf,v,_,q=>q
 |.iface t a,v,d,q=>by
  simp only[VR,Q9]at q d⊢;obtain⟨x,h1,h2⟩:=q;exact⟨x,h1,VR.data d h2⟩
 |.nilif,v,_,q=>q
 |.map i,v,d,q=>by simp[Q9]at d
 |.nilm,v,_,q=>q
 |.tup vs,v,d,q=>by
  simp only[VR,Q9]at q d⊢;obtain⟨l,h1,h2⟩:=q;exact⟨l,h1,LR.data d h2⟩
theorem LR.data{ro:Nat->Prop}{σ σ':Sig}{w:World}:∀{az:List A} {l:List Value},Q6 az=true->LR ro σ w az l->LR ro σ' w az l
 |[],_,_,q=>q
 |a::r,l,d,q=>by
  simp only[LR,Q6,XU]at q d⊢;obtain⟨v,l',h1,h2,h3⟩:=q;exact⟨v,l',h1,VR.data d.1 h2,LR.data d.2 h3⟩
end
def Yb:A->Bool
 |.any|.agg _|.tup _=>false
 |_=>true
def QX:A->List A
 |.agg cs=>cs
 |a=>[a]
def Q0:A->Bool
 |.any=>false
 |_=>true
theorem VR.plain{ro:Nat->Prop}{σ:Sig}{w:World}{a:A}{v:Value}(b:Yb a=true)(h:VR ro σ w a v):Qn v:=by
 cases a<;>first|(simp[Yb]at b;done)|skip
 case rsl k es=>obtain⟨ad,c,rfl,_⟩:=h;trivial
 case osl=>rcases h with⟨_,rfl⟩|⟨_,_,_,_,_,_,rfl,_⟩<;>trivial
 case fn=>obtain⟨_,_,rfl,_⟩:=h;trivial
 case iface=>obtain⟨_,rfl,_⟩:=h;trivial
 case ptr=>obtain⟨_,_,rfl⟩:=h;trivial
 case rp=>obtain⟨_,_,rfl,_⟩:=h;trivial
 case map=>obtain⟨_,_,rfl⟩:=h;trivial
 all_goals (simp only[VR]at h;subst h;trivial)
theorem VR.cells{ro:Nat->Prop}{σ:Sig}{w:World}{a:A}{v:Value}(d:Q0 a=true)(h:VR ro σ w a v):∃l:List Value,v.cells=l.toArray/\LR ro σ w (QX a) l:=by
 cases a
 case any=>simp[Q0]at d
 case agg cs=>obtain⟨l,rfl,h⟩:=h;exact⟨l,rfl,h⟩
 case tup cs=>obtain⟨l,rfl,h⟩:=h;exact⟨[.tuple l.toArray],rfl,_,_,rfl,⟨l,rfl,h⟩,rfl⟩
 all_goals
  have b:=h.plain rfl;refine⟨[v],?_,v,[],rfl,h,rfl⟩;cases v<;>first|rfl|exact b.elim
theorem LR.plain{ro:Nat->Prop}{σ:Sig}{w:World}:∀{az:List A} {l:List Value},az.all Yb=true->LR ro σ w az l->∀v∈l,Qn v
 |[],l,_,h=>by cases(show l=[]from h);simp
 |a::az,l,hp,⟨v,l',h1,h2,h3⟩=>by
  subst h1;simp only[List.all_cons,XU]at hp;intro x hx;rcases X2.1 hx with rfl|hx
  .exact h2.plain hp.1
  .exact LR.plain hp.2 h3 x hx
theorem Yd(w:World)(obj:Obj)(b:Nat)(a:b<w.heap.size):(w.alloc obj).heap[b]?=w.heap[b]? :=by
 show(w.heap.push obj)[b]?=_;rw[Array.getElem?_push,Vn (by omega)]
theorem Q1(w:World)(obj:Obj):(w.alloc obj).heap[w.heap.size]?=some obj:=by
 show(w.heap.push obj)[w.heap.size]?=_;simp
theorem Yc(w:World)(obj:Obj):(w.alloc obj).heap.size=w.heap.size+1:=by
 show(w.heap.push obj).size=_;simp
theorem Qbp{w:World}{b:Nat}{x:TypeId×Nat}(h:w.shape? b=some x):b<w.heap.size:=by
 unfold World.shape? at h;rcases Vu b w.heap.size with q|q
 .exact q
 .rw[Array.getElem?_eq_none q]at h;simp at h
theorem Qg.alloc{fr ro:Nat->Prop}{w:World}(obj:Obj)(hro:∀b,ro b->b<w.heap.size)(hfr:∀b,fr b->b<w.heap.size):Qg fr ro w ro (w.alloc obj):=
 ⟨λ_ h=>h,λb h=>Yd w obj b (hro b h),λb h=>Yd w obj b (hfr b h),by rw[Yc];omega,
  λb x h=>by unfold World.shape? at h⊢;rw[Yd w obj b (Qbp h)];exact h,rfl,rfl,rfl,XR _⟩
section
variable {P:Program} {o:Oper} {env:Env} {H:Qc} {fr ro:Nat->Prop} {σ:Sig} {w:World}
theorem Sim.alloc(s:Sim fr ro σ H w){obj:Obj}{x:Blk}(G:BR ro (σ++[some w.heap.size]) (w.alloc obj) x (some w.heap.size))
  (u:∀c,Hid (w.alloc obj) x w.heap.size c->False:=by exact λ_ h=>h.elim):
  Sim fr ro (σ++[some w.heap.size]) (H++[x]) (w.alloc obj):=by
 have ev:Qg fr ro w ro (w.alloc obj):=Qg.alloc obj s.roLt s.frLt;have n:=s.len;have e:∀(i:Nat) (y:Option Nat),(σ++[some w.heap.size])[i]?=some y->(i<σ.length/\σ[i]?=some y)\/(i=σ.length/\y=some w.heap.size):=by
  intro i y h;rcases Nat.lt_trichotomy i σ.length with q|q|q
  .rw[XK q]at h;exact .inl ⟨q,h⟩
  .subst q;simp at h;exact .inr ⟨rfl,h.symm⟩
  .rw[XM (by simp;omega)]at h;simp at h
 have k:∀i:Nat,i<σ.length->(H++[x])[i]?=H[i]? :=λi L=>XK (by omega);have E:(H++[x])[σ.length]?=some x:=by rw[n];simp
 refine⟨by simp[n],s.roOk.to (λ_ q=>q) ev.keepRo (λb h=>?_),λb h=>?_,s.roFr,?_,?_,?_,?_⟩
 .rw[Yc];have:=s.roLt b h;omega
 .rw[Yc];have:=s.frLt b h;omega
 .intro i b y f g m;rw[Yc];rcases e i _ f with⟨q,f⟩|⟨rfl,l⟩
  .rw[k i q]at g;obtain⟨a,b,c⟩:=s.own i b y f g m;exact⟨by omega,b,c⟩
  .cases l;exact⟨by omega,λq=>by have:=s.roLt _ q;omega,λq=>by have:=s.frLt _ q;omega⟩
 .intro i j b y z f g m t F B;rcases e i _ f with⟨q,f⟩|⟨rfl,l⟩<;>rcases e j _ g with⟨q',g⟩|⟨rfl,e2⟩
  .rw[k i q]at m;rw[k j q']at t;exact s.inj i j b y z f g m t F B
  .cases e2;rw[k i q]at m;have:=(s.own i _ y f m F).1;omega
  .cases l;rw[k j q']at t;have:=(s.own j _ z g t B).1;omega
  .rfl
 .intro i y z f g;rcases e i _ f with⟨q,f⟩|⟨rfl,l⟩
  .rw[k i q]at g;refine(s.blk i y z f g).keep (ev.ext σ _) ?_ ?_
   .rintro b rfl n;exact Yd w obj b (s.own i b z f g n).1
   .rintro b c rfl n;exact Yd w obj c (s.hid i b z c f g n).lt
  .rw[E]at g;cases g;subst l;exact G
 .refine s.hidTo (· = ·) QP (by rw[Yc];omega) (λ_ _ _ _ _ _ _ q=>q) (λ_ _ _ _ _ _ _ q=>q) λj d y r p J=>?_;rcases e j _ r with⟨q,r⟩|⟨rfl,l⟩
  .rw[k j q]at p;exact .inl ⟨j,y,rfl,r,p,id,λc q=>s.hidKeep r p (λz=>Yd w obj d (s.own j d y r p z).1) ev.keepRo q⟩
  .rw[E]at p;cases p;cases l;exact .inr ⟨XR _,u⟩
theorem Sim.allocCells(s:Sim fr ro σ H w){t:Nat}{cs:List A}{l:List Value}(h:LR ro σ w cs l)(hp:∀v∈l,Qn v):
  Sim fr ro (σ++[some w.heap.size]) (H++[.cells t cs]) (w.alloc (.cells l.toArray t)):=
 s.alloc ⟨l,Q1 _ _,h.mono ((Qg.alloc (fr:=fr) _ s.roLt s.frLt).ext σ _),hp⟩
theorem Qge{ro:Nat->Prop}{σ:Sig}{w:World}:∀{az bs:List A} {l:List Value},LR ro σ w (az++bs) l->∃l1 l2,l=l1++l2/\LR ro σ w az l1/\LR ro σ w bs l2
 |[],bs,l,h=>⟨[],l,rfl,rfl,h⟩
 |a::az,bs,l,⟨v,l',h1,h2,h3⟩=>by
  obtain⟨l1,l2,e,q1,q2⟩:=Qge h3;subst h1 e;exact⟨v::l1,l2,rfl,⟨v,l1,rfl,h2,q1⟩,q2⟩
def allK(k:Nat):List (List A)->Prop
 |[]=>True
 |c::es=>c.length=k/\allK k es
theorem YZ{k:Nat}:∀{es:List (List A)} {l rest:List Value},allK k es->LR ro σ w es.flatten l->(∀v∈l,Qn v)->RL ro σ w k es (l++rest)
 |[],_,_,_,_,_=>trivial
 |c::es,l,rest,⟨h1,h2⟩,h,hp=>by
  rw[Vh]at h;obtain⟨l1,l2,rfl,q1,q2⟩:=Qge h;exact⟨l1,l2++rest,by simp,h1,⟨q1,λv hv=>hp v (by simp[hv])⟩,YZ h2 q2 (λv hv=>hp v (by simp[hv]))⟩
theorem Sim.allocRow(s:Sim fr ro σ H w){t k:Nat}{es:List (List A)}{l rest:List Value}(hk:allK k es)(h:LR ro [] w es.flatten l)(hp:∀v∈l,Qn v):
  Sim fr ro (σ++[some w.heap.size]) (H++[.row t k es]) (w.alloc (.cells (l++rest).toArray t)):=
 s.alloc ⟨l++rest,Q1 _ _,(YZ hk h hp).mono ((Qg.alloc (fr:=fr) _ s.roLt s.frLt).ext0 [])⟩
theorem Sim.allocRowr(s:Sim fr ro σ H w){t k:Nat}{es:List (List A)}{l rest:List Value}(hk:allK k es)(h:LR ro σ w es.flatten l)(hp:∀v∈l,Qn v):
  Sim fr ro (σ++[some w.heap.size]) (H++[.rowr t k es]) (w.alloc (.cells (l++rest).toArray t)):=
 s.alloc ⟨l++rest,Q1 _ _,(YZ hk h hp).mono ((Qg.alloc (fr:=fr) _ s.roLt s.frLt).ext σ _)⟩
theorem OpH.box{t:Nat}{x:Operand}{v:A}{cs:List A}(m:o.op=.box t x)(k:opA env x=v)(i:Q0 v=true)(b:QX v=cs)(d:cs.all Yb=true):
  OpH P o env H (.ptr H.length 0) (H++[.cells t cs]):=by
 intro n j σ N a w r;have g:=Qf r x;rw[k]at g;obtain⟨l,h,f⟩:=g.cells i;subst b;refine⟨.pointer (some ⟨w.heap.size,0,none⟩),w.alloc (.cells l.toArray t),j,[some w.heap.size],?_,⟨w.heap.size,?_,rfl⟩,r.sim.allocCells f (f.plain d),Qg.alloc _ r.sim.roLt r.sim.frLt⟩
 .generalize a.eval=ρ at*;have e:(newVar t (ρ x)).run P w=.ok ⟨w.heap.size,0,none⟩ (w.alloc (.cells l.toArray t)):=by
   unfold newVar;rw[h];rfl
  simp only[execOp,m,Instr.box,Vi,e];rfl
 .rw[<- r.sim.len];simp
theorem Sim.set(s:Sim fr ro σ H w){i b:Nat}{x x':Blk}{obj:Obj}(hσ:σ[i]?=some (some b))(hH:H[i]?=some x)(hl:x.live=true)
  (O:∀y,w.shape? b=some y->({w with heap:=w.heap.setIfInBounds b obj}:World).shape? b=some y)
  (N:Ext ro σ w ro σ {w with heap:=w.heap.setIfInBounds b obj}->({w with heap:=w.heap.setIfInBounds b obj}:World).heap[b]?=some obj->BR ro σ {w with heap:=w.heap.setIfInBounds b obj} x' (some b))
  (M:∀c,Hid {w with heap:=w.heap.setIfInBounds b obj} x' b c->Hid w x b c:=by exact λ_ h=>h.elim):
  Sim fr ro σ (H.set i x') {w with heap:=w.heap.setIfInBounds b obj}/\Qg fr ro w ro {w with heap:=w.heap.setIfInBounds b obj}:=by
 obtain⟨P,m,n⟩:=s.own i b x hσ hH hl;have k:∀c,c≠b->({w with heap:=w.heap.setIfInBounds b obj}:World).heap[c]?=w.heap[c]? :=by
  intro c V;show(w.heap.setIfInBounds b obj)[c]?=_;rw[Va,Vn (λq=>V q.symm)]
 have L:({w with heap:=w.heap.setIfInBounds b obj}:World).heap[b]?=some obj:=by
  show(w.heap.setIfInBounds b obj)[b]?=_;rw[Va,Vo rfl,Vo P]
 have l:({w with heap:=w.heap.setIfInBounds b obj}:World).heap.size=w.heap.size:=by simp
 have ev:Qg fr ro w ro {w with heap:=w.heap.setIfInBounds b obj}:=
  ⟨λ_ h=>h,λc h=>k c (λq=>m (q▸h)),λc h=>k c (λq=>n (q▸h)),by rw[l];exact XR _,by
   intro c y h;by_cases q:c=b
   .subst q;exact O y h
   .unfold World.shape? at h⊢;rw[k c q];exact h,rfl,rfl,rfl,XR _⟩
 have T:i<H.length:=(XJ.1 hH).1;have u:(H.set i x')[i]?=some x':=Xa T;have g:∀j,j≠i->(H.set i x')[j]?=H[j]? :=λj X=>XN (λq=>X q.symm);have F:=N (ev.ext0 σ) L;refine⟨⟨by rw[XZ];exact s.len,s.roOk.to (λ_ q=>q) ev.keepRo (λc h=>by rw[l];exact s.roLt c h),λc h=>by rw[l];exact s.frLt c h,s.roFr,?_,?_,?_,?_⟩,ev⟩
 .intro j c y f a B;rw[l];by_cases q:j=i
  .subst q;rw[hσ]at f;cases f;exact⟨P,m,n⟩
  .rw[g j q]at a;exact s.own j c y f a B
 .intro j p c y z f a B J R Q;by_cases q:j=i
  .subst q;rw[hσ]at f;cases f;by_cases G:p=j
   .exact G.symm
   .rw[g p G]at J;exact s.inj j p _ x z hσ a hH J hl Q
  .rw[g j q]at B;by_cases G:p=i
   .subst G;rw[hσ]at a;cases a;exact s.inj j p _ y x f hσ B hH R hl
   .rw[g p G]at J;exact s.inj j p c y z f a B J R Q
 .intro j y z f a;by_cases q:j=i
  .subst q;rw[u]at a;cases a;rw[hσ]at f;cases f;exact F
  .rw[g j q]at a;refine(s.blk j y z f a).keep (ev.ext0 σ) ?_ ?_
   .rintro c rfl r;exact k c (λe=>q (s.inj j i b z x (e▸f) hσ a hH r hl))
   .rintro c d rfl W;exact k d ((s.hid j c z d f a W).ne i b x hσ hH hl)
 .refine s.hidTo (· = ·) QP (by rw[l];exact XR _) (λ_ _ _ _ _ _ _ q=>q) (λ_ _ _ _ _ _ _ q=>q) λj d y E t Y=>.inl ?_;by_cases q:j=i
  .subst q;rw[u]at t;cases t;rw[hσ]at E;cases E;exact⟨j,x,rfl,hσ,hH,λ_=>hl,M⟩
  .rw[g j q]at t;exact⟨j,y,rfl,E,t,id,λc z=>s.hidKeep E t (λr=>k d (λe=>q (s.inj j i b y x (e▸E) hσ t hH r hl))) ev.keepRo z⟩
def splice{α:Type}(l:List α)(o:Nat)(vs:List α):List α:=l.take o++vs++l.drop (o+vs.length)
theorem QS{α:Type}{l:List α}{o:Nat}{vs:List α}(h:o+vs.length<=l.length):(splice l o vs).length=l.length:=by
 simp[splice];omega
theorem Qa0{h:Array Obj}{b:Nat}{f:Obj->Obj}{x:Obj}(g:h[b]?=some x):h.modify b f=h.setIfInBounds b (f x):=by
 apply Array.ext_getElem?;intro i;rw[Array.getElem?_modify,Va];by_cases e:b=i
 .subst e;obtain⟨a,d⟩:=X8.1 g;simp[d,a]
 .simp[e]
theorem QT{b t:Nat}:∀{vs l:List Value} {w:World} (off i:Nat),w.heap[b]?=some (.cells l.toArray t (0,0))->off+i+vs.length<=l.length->(∀v∈vs,Qn v)->
  (storeCells ⟨b,off,none⟩ vs i).run P w=.ok () {w with heap:=w.heap.setIfInBounds b (.cells (splice l (off+i) vs).toArray t (0,0))}
 |[],l,w,off,i,hb,hl,hp=>by
  have e:w.heap.setIfInBounds b (.cells (splice l (off+i) []).toArray t (0,0))=w.heap:=by
   apply Array.ext_getElem?;intro j;rw[Va];by_cases q:b=j
   .subst q;obtain⟨a,m⟩:=X8.1 hb;simp[a,splice,m]
   .rw[Vn q]
  rw[e];simp[storeCells,go_sem]
 |v::vs,l,w,off,i,hb,hl,hp=>by
  simp only[XW]at hl;have s:=hp v (by simp);have n:w.cell? ⟨b,off+i,none⟩=some l[off+i]:=by
   simp[World.cell?,hb]
  have g:w.frozen? ⟨b,off+i,none⟩=false:=by
   simp[World.frozen?,hb]
  have d:w.setCell ⟨b,off+i,none⟩ v={w with heap:=w.heap.setIfInBounds b (.cells (splice l (off+i) [v]).toArray t (0,0))}:=by
   unfold World.setCell;rw[Qa0 hb];simp only[Option.isSome_none,Xg,if_false];congr 3;have:l.toArray.setIfInBounds (off+i) v=(l.set (off+i) v).toArray:=by simp
   rw[this];congr 1;rw[List.set_eq_take_append_cons_drop,Vo (by omega)];simp[splice]
  have a:b<w.heap.size:=by
   rcases Vu b w.heap.size with q|q
   .exact q
   .rw[Array.getElem?_eq_none q]at hb;simp at hb
  have h:=QT (vs:=vs) (l:=splice l (off+i) [v]) (w:={w with heap:=w.heap.setIfInBounds b (.cells (splice l (off+i) [v]).toArray t (0,0))}) off (i+1)
   (by show(w.heap.setIfInBounds b _)[b]?=_;rw[Va,Vo rfl,Vo a])
   (by rw[QS (by simp;omega)];omega) (λx y=>hp x (by simp[y]))
  have z:splice (splice l (off+i) [v]) (off+(i+1)) vs=splice l (off+i) (v::vs):=by
   have k:(l.take (off+i)).length=off+i:=by simp;omega
   unfold splice;rw[Ve (l.take (off+i))];have u:off+(i+1)=(l.take (off+i)).length+1:=by omega
   have B:(l.take (off+i)++([v]++l.drop (off+i+[v].length))).take ((l.take (off+i)).length+1)=l.take (off+i)++[v]:=by
    rw[X7];simp
   have p:(l.take (off+i)++([v]++l.drop (off+i+[v].length))).drop ((l.take (off+i)).length+1+vs.length)=l.drop (off+i+(v::vs).length):=by
    rw[show(l.take (off+i)).length+1+vs.length=(l.take (off+i)).length+(1+vs.length)from by omega,X6];simp[Nat.add_comm 1];congr 1;omega
   rw[u,B,p];simp
  have r:(w.heap.setIfInBounds b (.cells (splice l (off+i) [v]).toArray t (0,0))).setIfInBounds b (.cells (splice (splice l (off+i) [v]) (off+(i+1)) vs).toArray t (0,0))=
    w.heap.setIfInBounds b (.cells (splice l (off+i) (v::vs)).toArray t (0,0)):=by
   rw[z,Array.setIfInBounds_setIfInBounds]
  rw[r]at h;have f:(Go.store ⟨b,off+i,none⟩ v).run P w=.ok () {w with heap:=w.heap.setIfInBounds b (.cells (splice l (off+i) [v]).toArray t (0,0))}:=by
   rw[<- d];cases v<;>first|exact s.elim|simp[Go.store,Sem.run,n,g,go_sem]
  simp only[storeCells,YR,Vi,f];exact h
theorem Qae{w:World}{b t:Nat}{l l':List Value}(a:w.heap[b]?=some (.cells l.toArray t (0,0)))(hl:l'.length=l.length)(y:TypeId×Nat)(h:w.shape? b=some y):
  ({w with heap:=w.heap.setIfInBounds b (.cells l'.toArray t (0,0))}:World).shape? b=some y:=by
 have d:b<w.heap.size:=by
  rcases Vu b w.heap.size with q|q
  .exact q
  .rw[Array.getElem?_eq_none q]at a;simp at a
 unfold World.shape? at h⊢;rw[a]at h;simp at h;subst h;show(match(w.heap.setIfInBounds b (.cells l'.toArray t (0,0)))[b]? with|some (.cells c elem _)=>some (elem,c.size)|_=>none)=_;rw[Va,Vo rfl,Vo d];simp[hl]
theorem LR.splice{ro:Nat->Prop}{σ:Sig}{w:World}{az vs:List A}{l m:List Value}(off:Nat)(h:LR ro σ w az l)(k:LR ro σ w vs m):LR ro σ w (Sw.splice az off vs) (Sw.splice l off m):=by
 unfold Sw.splice;rw[k.length];exact((h.take off).append k).append (h.drop _)
theorem Qdw{l m:List Value}{off:Nat}(h:∀v∈l,Qn v)(k:∀v∈m,Qn v):∀v∈Sw.splice l off m,Qn v:=by
 intro v a;simp only[Sw.splice,Vv]at a;rcases a with(a|a)|a
 .exact h v (List.mem_of_mem_take a)
 .exact k v a
 .exact h v (List.mem_of_mem_drop a)
theorem OpU.store{t n i off T:Nat}{x y:Operand}{cs vs cs':List A}{v:A}(ho:o.op=.store t x y)(Y:opA env x=.ptr i off)(hH:H[i]?=some (.cells T cs))(V:∀w,(sizeOf t).run P w=.ok n w)
  (z:opA env y=v)(O:Q0 v=true)(W:QX v=vs)(X:vs.length=n)(G:vs.all Yb=true)(g:Nat.ble (off+n) cs.length=true)(s:splice cs off vs=cs'):
  OpU P o env H (H.set i (.cells T cs')):=by
 intro fr Q σ N a w r;have h:=Qf r x;rw[Y]at h;obtain⟨b,h,M⟩:=h;have F:=Qf r y;rw[z]at F;obtain⟨m,J,j⟩:=F.cells O;rw[W]at j;obtain⟨l,E,p,R⟩:=r.sim.blk i _ _ h hH;have u:off+n<=cs.length:=by simpa using g
 have B:m.length=n:=by rw[j.length,X]
 have f:=QT (P:=P) (vs:=m) off 0 E (by rw[p.length,B];omega) (j.plain G);have d:=r.sim.set (x':=.cells T cs') (obj:=.cells (splice l off m).toArray T (0,0)) h hH rfl
  (λy z=>Qae E (QS (by rw[p.length,B];omega)) y z)
  (λe L=>⟨_,L,s▸(p.splice off j).mono e,Qdw R (j.plain G)⟩)
 refine⟨_,Q,[],?_,by simpa using d.1,d.2⟩;generalize a.eval=ρ at*;have q:(ρ y).cells.size=n:=by rw[J];simp[B]
 have k:(storeVar t ⟨b,off,none⟩ (ρ y)).run P w=.ok () {w with heap:=w.heap.setIfInBounds b (.cells (splice l off m).toArray T (0,0))}:=by
  unfold storeVar;rw[Vi,V];simp only[Result.andThen];rw[Vn (by simp[q]),J];simpa using f
 simp only[execOp,ho,M,Instr.storeAt,Instr.sureAddr,pure_bind,Vi,k];rfl
theorem RL.splice{ro:Nat->Prop}{σ:Sig}{w:World}{k:Nat}:∀{e:Nat} {es:List (List A)} {l m:List Value} {c a:List A} {f:Nat},RL ro σ w k es l->es[e]?=some c->LR ro σ w a m->(∀v∈m,Qn v)->f+a.length<=k->
  RL ro σ w k (es.set e (Sw.splice c f a)) (Sw.splice l (e*k+f) m)
 |_,[],_,_,_,_,_,_,h,_,_,_=>by simp at h
 |0,c0::es,l,m,c,a,f,⟨l1,l2,h1,h2,h3,h4⟩,hc,hm,hp,hf=>by
  simp at hc;subst hc h1;have hl1:=h3.1.length;refine⟨Sw.splice l1 f m,l2,?_,?_,⟨h3.1.splice f hm,Qdw h3.2 hp⟩,h4⟩
  .unfold Sw.splice;simp only[Nat.zero_mul,Xu,Ve];rw[X3 (by omega),X4 (by rw[hm.length];omega)]
  .rw[QS (by omega)];exact h2
 |e+1,c0::es,l,m,c,a,f,⟨l1,l2,h1,h2,h3,h4⟩,hc,hm,hp,hf=>by
  subst h1;have hl1:=h3.1.length;refine⟨l1,Sw.splice l2 (e*k+f) m,?_,h2,h3,RL.splice h4 (by simpa using hc) hm hp hf⟩;have e1:(e+1)*k+f=l1.length+(e*k+f):=by rw[Xj];omega
  unfold Sw.splice;rw[e1,X7,show l1.length+(e*k+f)+m.length=l1.length+(e*k+f+m.length)from by omega,X6];simp
theorem RL.length{ro:Nat->Prop}{σ:Sig}{w:World}{k:Nat}:∀{es:List (List A)} {l:List Value},RL ro σ w k es l->es.length*k<=l.length
 |[],l,_=>by simp
 |c::es,l,⟨l1,l2,h1,h2,h3,h4⟩=>by
  subst h1;have:=RL.length h4;have:=h3.1.length;simp only[XW,XY,Xj];omega
theorem Qfj{t n i off T k e f:Nat}{x y:Operand}{es es':List (List A)}{c vs R:List A}{v:A}(ho:o.op=.store t x y)(hx:opA env x=.ptr i off)(hH:H[i]?=some (.row T k es))(hs:∀w,(sizeOf t).run P w=.ok n w)
  (h:off=e*k+f)(L:es[e]?=some c)(F:opA env y=v)(hk:Q0 v=true)(hv:QX v=vs)(W:vs.length=n)(J:vs.all Yb=true)(hd:Q6 vs=true)(hf:Nat.ble (f+n) k=true)
  (B:splice c f vs=R)(u:es.set e R=es'):
  OpU P o env H (H.set i (.row T k es')):=by
 intro fr ro σ N a w r;have j:=Qf r x;rw[hx]at j;obtain⟨b,j,Y⟩:=j;have O:=Qf r y;rw[F]at O;obtain⟨m,V,p⟩:=O.cells hk;rw[hv]at p;obtain⟨l,G,M⟩:=r.sim.blk i _ _ j hH;have E:f+n<=k:=by simpa using hf
 have hm:m.length=n:=by rw[p.length,W]
 have X:e<es.length:=(XJ.1 L).1;have Q:off+n<=l.length:=by
  have:=M.length;have h6:(e+1)*k<=es.length*k:=XB k X;rw[Xj]at h6;omega
 have g:=QT (P:=P) (vs:=m) off 0 G (by omega) (p.plain J);have d:=r.sim.set (x':=.row T k es') (obj:=.cells (splice l off m).toArray T (0,0)) j hH rfl
  (λy F=>Qae G (QS (by omega)) y F)
  (λex s=>⟨_,s,by
   subst u B h;exact(M.splice L (p.data hd) (p.plain J) (by rw[W];exact E)).mono ex.nil⟩)
 refine⟨_,ro,[],?_,by simpa using d.1,d.2⟩;generalize a.eval=ρ at*;have q:(ρ y).cells.size=n:=by rw[V];simp[hm]
 have z:(storeVar t ⟨b,off,none⟩ (ρ y)).run P w=.ok () {w with heap:=w.heap.setIfInBounds b (.cells (splice l off m).toArray T (0,0))}:=by
  unfold storeVar;rw[Vi,hs];simp only[Result.andThen];rw[Vn (by simp[q]),V];simpa using g
 simp only[execOp,ho,Y,Instr.storeAt,Instr.sureAddr,pure_bind,Vi,z];rfl
end
end Go.Sw
namespace Go.Sw
section
variable {P:Program} {o:Oper} {env:Env} {H:Qc} {fr ro:Nat->Prop} {σ:Sig} {w:World}
theorem Ext.heap{w':World}(h:w'.heap=w.heap):Ext ro σ w ro σ w':=
 ⟨λ_ q=>q,λb _=>by rw[h],λb x q=>by unfold World.shape? at q⊢;rw[h];exact q,λ_ _ q=>q⟩
theorem Sim.heap{w':World}(s:Sim fr ro σ H w)(h:w'.heap=w.heap):Sim fr ro σ H w':=
 ⟨s.len,s.roOk.to (λ_ q=>q) (λb _=>by rw[h]) (λb q=>by rw[h];exact s.roLt b q),λb q=>by rw[h];exact s.frLt b q,s.roFr,λi b x q1 q2 q3=>by rw[h];exact s.own i b x q1 q2 q3,s.inj,
  λi y x q1 q2=>(s.blk i y x q1 q2).keep (Ext.heap h) (λb _ _=>by rw[h]) (λb c _ _=>by rw[h]),
  s.hidTo (· = ·) QP (by rw[h];exact XR _) (λ_ _ _ _ _ _ _ q=>q) (λ_ _ _ _ _ _ _ q=>q) λj d y g1 g2 g3=>.inl ⟨j,y,rfl,g1,g2,id,λc q=>q.keep (by rw[h])⟩⟩
theorem Qg.heap{w':World}(h:w'.heap=w.heap)(ho:w'.os=w.os)(ht:w'.tape=w.tape)(hu:w'.output=w.output)(hd:w.drawn<=w'.drawn):Qg fr ro w ro w':=
 ⟨λ_ q=>q,λb _=>by rw[h],λb _=>by rw[h],by rw[h];exact XR _,λb x q=>by unfold World.shape? at q⊢;rw[h];exact q,ho,ht,hu,hd⟩
theorem Sim.moved(s:Sim fr ro σ H w){i:Nat}{x:Blk}{y:Option Nat}(hH:H[i]?=some x)(hσ:σ[i]?=some y):Sim fr ro (σ++[y]) (H.set i .dead++[x]) w:=by
 have G:=s.len;have M:i<H.length:=(XJ.1 hH).1;have a:∀(j:Nat) (z:Option Nat) (v:Blk),(σ++[y])[j]?=some z->(H.set i .dead++[x])[j]?=some v->v≠ .dead->
   (j<σ.length/\j≠i/\σ[j]?=some z/\H[j]?=some v)\/(j=σ.length/\z=y/\v=x):=by
  intro j z v g f n;rcases Nat.lt_trichotomy j σ.length with q|q|q
  .rw[XK q]at g;rw[XK (by rw[XZ];omega)]at f;by_cases e:j=i
   .subst e;rw[Xa M]at f;cases f;exact absurd rfl n
   .rw[XN (λq=>e q.symm)]at f;exact .inl ⟨q,e,g,f⟩
  .subst q;have m:(σ++[y])[σ.length]?=some y:=by simp
   have N:(H.set i .dead++[x])[σ.length]?=some x:=by rw[G,show H.length=(H.set i .dead).length from by simp];simp
   rw[m]at g;rw[N]at f;cases g;cases f;exact .inr ⟨rfl,rfl,rfl⟩
  .rw[XM (by simp;omega)]at g;simp at g
 have hσ':∀(j:Nat) (b:Nat),σ[j]?=some (some b)->(σ++[y])[j]?=some (some b):=λj b h=>Yq h;have ext:Ext ro σ w ro (σ++[y]) w:=⟨λ_ q=>q,λ_ _=>rfl,λ_ _ q=>q,hσ'⟩;refine⟨by simp[G],s.roOk,s.frLt,s.roFr,?_,?_,?_,s.hidTo (λj F=>(j<σ.length/\j≠i/\F=j)\/(j=σ.length/\F=i)) (by omega) (XR _) (λ_ _ _ _ _ _ _ q=>q) (λ_ _ _ _ _ _ _ q=>q) λj d y R O L=>.inl ?_⟩
 rotate_left 3
 .rcases a j _ y R O (Qdj L)with⟨u,E,k,l⟩|⟨u,m,rfl⟩
  .exact⟨j,y,.inl ⟨u,E,rfl⟩,k,l,id,λ_ q=>q⟩
  .subst m;exact⟨i,y,.inr ⟨u,rfl⟩,hσ,hH,id,λ_ q=>q⟩
 .intro j b v g f n;rcases a j _ v g f (Qas n)with⟨_,_,k,l⟩|⟨_,m,rfl⟩
  .exact s.own j b v k l n
  .subst m;exact s.own i b v hσ hH n
 .intro j B b v r g f n V t p;rcases a j _ v g n (Qas t)with⟨_,Q,k,l⟩|⟨T,m,P⟩<;>rcases a B _ r f V (Qas p)with⟨_,n1',q1',q2'⟩|⟨r1',e1',r2'⟩
  .exact s.inj j B b v r k q1' l q2' t p
  .subst e1' r2';exact(Q (s.inj j i b v r k hσ l hH t p)).elim
  .subst m P;exact(n1' (s.inj B i b r v q1' hσ q2' hH p t)).elim
  .rw[T,r1']
 .intro j z v g f;by_cases J:v≠ .dead
  .rcases a j z v g f J with⟨_,_,k,l⟩|⟨_,rfl,rfl⟩
   .exact(s.blk j z v k l).keep ext (λ_ _ _=>rfl) (λ_ _ _ _=>rfl)
   .exact(s.blk i _ _ hσ hH).keep ext (λ_ _ _=>rfl) (λ_ _ _ _=>rfl)
  .obtain rfl:v=.dead:=Classical.not_not.1 J;trivial
def Src(P:Program)(H:Qc)(x:A)(k:Nat)(es:List (List A)):Prop:=
 ∀fr ro σ w v,Sim fr ro σ H w->VR ro σ w x v->(∃a c,v=.slice a es.length c)/\allK k es/\
  ∃l,(∀w':World,w'.heap=w.heap->(Builtin.firstCells k es.length v).run P w'=.ok l.toArray w')/\LR ro [] w es.flatten l/\ ∀v∈l,Qn v
theorem RR.flat{b k:Nat}:∀{es:List (List A)} {off:Nat},RR ro σ w b k es off->CR ro σ w b es.flatten off/\allK k es/\es.flatten.length=es.length*k
 |[],off,_=>⟨trivial,trivial,by simp⟩
 |c::es,off,⟨h1,h2,h3⟩=>by
  obtain⟨q1,q2,q3⟩:=RR.flat h3;refine⟨?_,⟨h1,q2⟩,by simp[q3,h1,Xj,Nat.add_comm]⟩;rw[Vh];have:∀(c:List A) (off:Nat) (d:List A),CR ro σ w b c off->CR ro σ w b d (off+c.length)->CR ro σ w b (c++d) off:=by
   intro c
   induction c with
   |nil=>intro off d _ h;simpa using h
   |cons x c a=>intro off d ⟨h1,h2⟩ h;exact⟨h1,a (off+1) d h2 (by rw[Nat.add_assoc,Nat.add_comm 1];simpa using h)⟩
  exact this c off _ h2 (by rw[h1];exact q1)
theorem Qby{b off k n c:Nat}{cs:List A}(h:CR ro σ w b cs off)(f:cs.length=n*k):
  ∃l,(∀w':World,w'.heap=w.heap->(Builtin.firstCells k n (.slice (some ⟨b,off,none⟩) n c)).run P w'=.ok l.toArray w')/\LR ro σ w cs l/\ ∀v∈l,Qn v:=by
 obtain⟨l,e,d,a⟩:=Yo (P:=P) (cs:=cs) (off:=off) 0 (by simpa using h);refine⟨l,λw' g=>?_,e,d⟩;rw[f]at a;simp only[Builtin.firstCells,loadCells];simpa using a w' #[] g
theorem YF{k c:Nat}{a:Option Addr}:(Builtin.firstCells k 0 (.slice a 0 c)).run P w=.ok #[] w:=by
 cases a<;>simp[Builtin.firstCells,loadCells,loadCellsFrom,go_sem]
theorem Src.rsl{k:Nat}{es:List (List A)}:Src P H (.rsl k es) k es:=by
 intro l j σ w v s ⟨a,c,h1,h2,h3⟩;subst h1;refine⟨⟨a,c,rfl⟩,?_⟩;rcases h3 with rfl|⟨b,h,rfl,i,g⟩
 .exact⟨trivial,[],λ_ _=>YF,rfl,by simp⟩
 .obtain⟨e,d,f⟩:=g.flat;exact⟨d,Qby e f⟩
theorem Src.nils{k:Nat}:Src P H .nils k []:=by
 intro a b σ w v s h;simp only[VR]at h;subst h;exact⟨⟨none,0,rfl⟩,trivial,[],λ_ _=>YF,rfl,by simp⟩
theorem RR.drop{b k:Nat}:∀(n:Nat) {es:List (List A)} {off:Nat},RR ro σ w b k es off->RR ro σ w b k (es.drop n) (off+n*k)
 |0,_,_,h=>by simpa using h
 |n+1,[],_,_=>trivial
 |n+1,c::es,off,⟨h1,h2,h3⟩=>by
  have:=RR.drop n h3;rw[show off+(n+1)*k=off+k+n*k from by rw[Xj];omega];exact this
theorem RR.take{b k:Nat}:∀(n:Nat) {es:List (List A)} {off:Nat},RR ro σ w b k es off->RR ro σ w b k (es.take n) off
 |0,_,_,h=>trivial
 |n+1,[],_,_=>trivial
 |n+1,c::es,off,⟨h1,h2,h3⟩=>⟨h1,h2,RR.take n h3⟩
theorem Src.osl{i s n k t:Nat}{es es':List (List A)}(hH:H[i]?=some (.row t k es))(he:(es.drop s).take n=es')(J:s+n<=es.length):Src P H (.osl i s n k) k es':=by
 intro G B σ w v sm h;have d:es'.length=n:=by rw[<- he];simp;omega
 rcases h with⟨rfl,rfl⟩|⟨b,p,a,F,m,u,rfl,x,y,z,E⟩
 .have e:es'=[]:=VB.1 d;subst e;exact⟨⟨none,0,rfl⟩,trivial,[],λ_ _=>YF,rfl,by simp⟩
 .rw[d];refine⟨⟨_,a,rfl⟩,?_⟩;obtain⟨l,g,f⟩:=sm.blk i _ _ u hH;have j:=((Yz (pre:=[]) (by simpa using g) f).drop s).take n;rw[he]at j;by_cases q:0<a
  .obtain rfl:=x q;obtain⟨g,f,r⟩:=j.flat;refine⟨f,?_⟩;have:=Qby (P:=P) (n:=n) (c:=a) g (by rw[r,d]);simpa using this
  .obtain rfl:n=0:=by omega
   have e:es'=[]:=VB.1 d;subst e;exact⟨trivial,[],λ_ _=>YF,rfl,by simp⟩
def QK:Nat:=4294967296
theorem Qc5(n c:Nat)(h:c<n):Builtin.nextslicecap n c<=4*n+1000:=by
 unfold Builtin.nextslicecap;split
 .omega
 .split
  .omega
  .have a:∀(r c:Nat),c<=2*n+400->Builtin.growBy n r c<=4*n+1000:=by
    intro r
    induction r with
    |zero=>intro c b;simp[Builtin.growBy];omega
    |succ r d=>
     intro c b;simp only[Builtin.growBy];split
     .omega
     .exact d _ (by omega)
   exact a 4 c (by omega)
structure QM (P:Program) (T e k:Nat):Prop where
 sl:∀w,(underlying T).run P w=.ok (.slice e) w
 size:∀w,(sizeOf e).run P w=.ok k w
 zero:∃z,(∀w,(zeroValue e).run P w=.ok z w)/\z.cells.size=k
 bytes:∃i,(∀w,(typeInfo e).run P w=.ok i w)/\i.bytes<=4096
theorem Qgd{T k:Nat}{es:List (List A)}{l rest:List Value}(s:Sim fr ro σ H w)(hk:allK k es)(h:LR ro [] w es.flatten l)(hp:∀v∈l,Qn v):
  Sim fr ro (σ++[some w.heap.size]) (H++[.row T k es]) (w.alloc (.cells (l++rest).toArray T))/\Qg fr ro w ro (w.alloc (.cells (l++rest).toArray T)):=
 ⟨s.allocRow hk h hp,Qg.alloc _ s.roLt s.frLt⟩
theorem Yg{k:Nat}:∀{es:List (List A)},allK k es->es.flatten.length=es.length*k
 |[],_=>by simp
 |c::es,⟨h1,h2⟩=>by simp[Yg h2,h1,Xj,Nat.add_comm]
theorem QcX{k:Nat}:∀{es fs:List (List A)},allK k es->allK k fs->allK k (es++fs)
 |[],_,_,h=>h
 |c::es,_,⟨h1,h2⟩,h=>⟨h1,QcX h2 h⟩
theorem QeF{k:Nat}:∀{es:List (List A)} (n:Nat),allK k es->allK k (es.take n)
 |_,0,_=>trivial
 |[],n+1,_=>trivial
 |c::es,n+1,⟨h1,h2⟩=>⟨h1,QeF n h2⟩
theorem RL.allK{k:Nat}:∀{es:List (List A)} {l:List Value},RL ro σ w k es l->allK k es
 |[],_,_=>trivial
 |c::es,l,⟨l1,l2,h1,h2,h3,h4⟩=>⟨h2,RL.allK h4⟩
theorem RL.app{k:Nat}:∀{n:Nat} {es fs:List (List A)} {l m:List Value},RL ro σ w k es l->n<=es.length->Sw.allK k fs->LR ro σ w fs.flatten m->(∀v∈m,Qn v)->
  RL ro σ w k (es.take n++fs) (Sw.splice l (n*k) m)
 |0,es,fs,l,m,h,hn,hk,hm,hp=>by
  simp only[List.take_zero,Vd,Nat.zero_mul];unfold Sw.splice;simp only[List.take_zero,Vd];exact YZ hk hm hp
 |n+1,[],fs,l,m,h,hn,hk,hm,hp=>by simp at hn
 |n+1,c::es,fs,l,m,⟨l1,l2,h1,h2,h3,h4⟩,hn,hk,hm,hp=>by
  subst h1;have hl1:=h3.1.length;refine⟨l1,Sw.splice l2 (n*k) m,?_,h2,h3,RL.app h4 (by simpa using hn) hk hm hp⟩;have e1:(n+1)*k=l1.length+n*k:=by rw[Xj];omega
  unfold Sw.splice;rw[e1,X7,show l1.length+n*k+m.length=l1.length+(n*k+m.length)from by omega,X6];simp
theorem Qfz{T T' e e' k need cap:Nat}{t:TypeId}(E:QM P T e k)(N:∀w,(underlying T').run P w=.ok (.slice e') w){ad:Option Addr}{n m c:Nat}{ax:Option Addr}
  (d:need=n+m)(g:cap<need)(a:need<=QK){old new:List Value}
  (u:∀w':World,w'.heap=w.heap->(Builtin.firstCells k m (.slice ax m c)).run P w'=.ok new.toArray w')(y:∀w':World,w'.heap=w.heap->(Builtin.firstCells k n (.slice ad n cap)).run P w'=.ok old.toArray w'):
  ∃(rest:List Value) (b:Nat),need<=b/\rest.length=(b-need)*k/\(Builtin.append_ #[T,T'] t #[.slice ad n cap,.slice ax m c]).run P w=
   .ok (.slice (some ⟨w.heap.size,0,none⟩) need b) (({w with drawn:=w.drawn+1}:World).alloc (.cells ((old++new)++rest).toArray e)):=by
 obtain⟨z,O,j⟩:=E.zero;obtain⟨i,L,B⟩:=E.bytes
 let b:=need+w.tape w.drawn (.appendCap need cap e)%(2^63-need)
 refine⟨(Builtin.zeroCells z.cells (b-need)).toList,b,Nat.le_add_right _ _,by simp[Builtin.zeroCells,j],?_⟩;have f:¬(need<=cap):=by omega
 have s:¬((need:Int)>IntKind.i64.max/\(False\/i.bytes=0)):=by
  rintro⟨q,_⟩;have:IntKind.i64.max=9223372036854775807:=by decide
  rw[this]at q;unfold QK at a;omega
 have H:¬(Builtin.nextslicecap need cap*i.bytes>2^48):=by
  have:=Qc5 need cap g;have r:Builtin.nextslicecap need cap*i.bytes<=(4*need+1000)*4096:=Nat.mul_le_mul this B;unfold QK at a;omega
 generalize hF:Builtin.firstCells=F at u y;unfold Builtin.append_;rw[hF];have l:∀W:World,(choose (.appendCap need cap e)).run P W=.ok (need+W.tape W.drawn (.appendCap need cap e)%(2^63-need)) {W with drawn:=W.drawn+1}:=by
  intro W;simp[choose,Sem.run,Question.forced,Question.cut]
 have p:∀(x:Nat) (W:World),(askRoom x).run P W=.ok () W:=by
  intro x W;unfold askRoom;split<;>rfl
 have h:∀(c:Array Value) (W:World),(newRow e c).run P W=.ok ⟨W.heap.size,0,none⟩ (W.alloc (.cells c e)):=λc W=>rfl;subst d;simp only[not_and,false_or]at s;have r:¬(((n+m:Nat):Int)>IntKind.i64.max/\(False\/i.bytes=0)):=by simpa using s
 simp only[XE,XC,XD,Vi,E.sl,E.size,N,L,O,Result.andThen,Builtin.lenOf,Vj,Xg,if_false,XF,
  Bool.not_false,if_true,Vn f,Vn r,Vn H,l,p]
 have J:=y {w with drawn:=w.drawn+1} rfl;have M:=u {w with drawn:=w.drawn+1} rfl;simp only[J,M,h];have G:old.toArray++new.toArray++Builtin.zeroCells z.cells (b-(n+m))=((old++new)++(Builtin.zeroCells z.cells (b-(n+m))).toList).toArray:=by
  apply Array.toList_inj.1;simp
 rw[<- G]
theorem Qb5{T T' e e' k cap:Nat}{t:TypeId}(E:QM P T e k)(f:∀w,(underlying T').run P w=.ok (.slice e') w){ad:Option Addr}{n m c:Nat}{ax:Option Addr}
  (b:n+m<=cap){new:List Value}(d:(Builtin.firstCells k m (.slice ax m c)).run P w=.ok new.toArray w):
  (Builtin.append_ #[T,T'] t #[.slice ad n cap,.slice ax m c]).run P w=
   match ad with
   |some a=>(do storeCells (a.add (n*k)) new;pure (Value.slice ad (n+m) cap):Sem Value).run P w
   |none=>.ok (.slice ad (n+m) cap) w:=by
 generalize hF:Builtin.firstCells=F at d;unfold Builtin.append_;rw[hF];simp only[XE,XC,XD,Vi,E.sl,E.size,f,Result.andThen,Builtin.lenOf,Vj,Xg,if_false,XF,
  Bool.not_false,if_true,Vo b,d]
 cases ad with
 |none=>rfl
 |some a=>simp only[Vi,Result.andThen,Vj]
theorem Sim.weaken(s:Sim fr ro σ H w){i:Nat}{x x':Blk}(hH:H[i]?=some x)(hl:x.live=true)(B:∀y,BR ro σ w x y->BR ro σ w x' y)
  (p:∀b c,Hid w x' b c->Hid w x b c:=by exact λ_ _ h=>h.elim):Sim fr ro σ (H.set i x') w:=by
 have L:i<H.length:=(XJ.1 hH).1;have l:(H.set i x')[i]?=some x':=Xa L;have m:∀j,j≠i->(H.set i x')[j]?=H[j]? :=λj P=>XN (λq=>P q.symm);have a:∀(j:Nat) (v:Blk),(H.set i x')[j]?=some v->(j=i/\v=x')\/(j≠i/\H[j]?=some v):=by
  intro j v h;by_cases e:j=i
  .subst e;rw[l]at h;cases h;exact .inl ⟨rfl,rfl⟩
  .rw[m j e]at h;exact .inr ⟨e,h⟩
 have F:∀(j:Nat) (v:Blk),(H.set i x')[j]?=some v->v.live=true->∃f,H[j]?=some f/\f.live=true:=by
  intro j v h M;rcases a j v h with⟨rfl,rfl⟩|⟨_,h⟩
  .exact⟨x,hH,hl⟩
  .exact⟨v,h,M⟩
 refine⟨by rw[XZ];exact s.len,s.roOk,s.frLt,s.roFr,?_,?_,?_,s.hidTo (· = ·) QP (XR _) (λ_ _ _ _ _ _ _ q=>q) (λ_ _ _ _ _ _ _ q=>q) λj d y J O V=>.inl ?_⟩
 rotate_left 3
 .rcases a j y O with⟨rfl,rfl⟩|⟨_,h⟩
  .exact⟨j,x,rfl,J,hH,λ_=>hl,λc q=>p d c q⟩
  .exact⟨j,y,rfl,J,h,id,λ_ q=>q⟩
 .intro j b v g k r;obtain⟨f,n,t⟩:=F j v k r;exact s.own j b f g n t
 .intro j G b v f g k r R T N;obtain⟨u,n,t⟩:=F j v r T;obtain⟨Q,E,z⟩:=F G f R N;exact s.inj j G b u Q g k n E t z
 .intro j y v g k;rcases a j v k with⟨rfl,rfl⟩|⟨_,h⟩
  .exact B y (s.blk j y x g hH)
  .exact s.blk j y v g h
theorem RL.take{k:Nat}:∀(n:Nat) {es:List (List A)} {l:List Value},RL ro σ w k es l->RL ro σ w k (es.take n) l
 |0,_,_,_=>trivial
 |n+1,[],_,_=>trivial
 |n+1,c::es,l,⟨l1,l2,h1,h2,h3,h4⟩=>⟨l1,l2,h1,h2,h3,RL.take n h4⟩
theorem YG{c:Call}{T T':TypeId}{x y:Operand}(b:o.op=.call c)(a:c={callee:=.builtin .append,args:= #[x,y],argTypes:= #[T,T']})(ρ:Operand->Value){v:Value}{w':World}
  (h:(Builtin.append_ #[T,T'] o.type #[ρ x,ρ y]).run P w=.ok v w'):(execOp ρ o).run P w=.ok (.value v) w':=by
 subst a;simp only[execOp,b,resolve,invoke,Go.builtin,Vi,Vj,Result.andThen];simp only[XG,Vf,Vg,h]
theorem Sim.phantom(s:Sim fr ro σ H w)(t k:Nat):Sim fr ro (σ++[none]) (H++[.row t k []]) w:=by
 have g:=s.len;have f:∀(i b:Nat),(σ++[none])[i]?=some (some b)->i<σ.length:=by
  intro i b a;rcases Vu i σ.length with q|q
  .exact q
  .rw[XL q]at a;cases m:i-σ.length with
   |zero=>rw[m]at a;simp at a
   |succ j=>rw[m]at a;simp at a
 refine⟨by simp[g],s.roOk,s.frLt,s.roFr,?_,?_,?_,s.hidTo (· = ·) QP (XR _) (λ_ _ _ _ _ _ _ q=>q) (λ_ _ _ _ _ _ _ q=>q) λj d y a e l=>.inl ?_⟩
 rotate_left 3
 .have q:=f j d a;rw[XK q]at a;rw[XK (by omega)]at e;exact⟨j,y,rfl,a,e,id,λ_ q=>q⟩
 .intro i b z a e l;have q:=f i b a;rw[XK q]at a;rw[XK (by omega)]at e;exact s.own i b z a e l
 .intro i j b z F a e l n u r;have p:=f i b a;have x:=f j b e;rw[XK p]at a;rw[XK x]at e;rw[XK (by omega)]at l n;exact s.inj i j b z F a e l n u r
 .intro i y z a e;have ext:Ext ro σ w ro (σ++[none]) w:=⟨λ_ q=>q,λ_ _=>rfl,λ_ _ q=>q,λ_ _ h=>Yq h⟩;rcases Nat.lt_trichotomy i σ.length with q|q|q
  .rw[XK q]at a;rw[XK (by omega)]at e;exact(s.blk i y z a e).keep ext (λ_ _ _=>rfl) (λ_ _ _ _=>rfl)
  .subst q;have B:(σ++[none])[σ.length]?=some none:=by simp
   have E:(H++[Blk.row t k []])[σ.length]?=some (.row t k []):=by rw[g];simp
   rw[B]at a;rw[E]at e;cases a;cases e;rfl
  .rw[XM (by simp;omega)]at a;simp at a
theorem Sim.kill(s:Sim fr ro σ H w)(i:Nat):Sim fr ro σ (H.set i .dead) w:=by
 have a:∀(j:Nat) (v:Blk),(H.set i .dead)[j]?=some v->v≠ .dead->H[j]?=some v:=by
  intro j v h l;by_cases e:j=i
  .subst e;rw[Xb]at h;simp only[if_true]at h;split at h
   .cases h;exact absurd rfl l
   .simp at h
  .rw[XN (λq=>e q.symm)]at h;exact h
 refine⟨by rw[XZ];exact s.len,s.roOk,s.frLt,s.roFr,?_,?_,?_,s.hidTo (· = ·) QP (XR _) (λ_ _ _ _ _ _ _ q=>q) (λ_ _ _ _ _ _ _ q=>q) λj d y t z u=>.inl ⟨j,y,rfl,t,a j y z (Qdj u),id,λ_ q=>q⟩⟩
 .intro j b v f g k;exact s.own j b v f (a j v g (Qas k)) k
 .intro j n b v m f g k x r p;exact s.inj j n b v m f g (a j v k (Qas r)) (a n m x (Qas p)) r p
 .intro j y v f g;by_cases l:v≠ .dead
  .exact s.blk j y v f (a j v g l)
  .obtain rfl:v=.dead:=Classical.not_not.1 l;trivial
theorem grown{c:Call}{T T' e e' k n m cap cx:Nat}{x y:Operand}{es fs:List (List A)}{a:Act}{ad ax:Option Addr}{old new:List Value}(E:QM P T e k)(W:∀w,(underlying T').run P w=.ok (.slice e') w)(ho:o.op=.call c)
  (V:c={callee:=.builtin .append,args:= #[x,y],argTypes:= #[T,T']})(h1:a.eval x=.slice ad n cap)(O:a.eval y=.slice ax m cx)(s:Sim fr ro σ H w)(p:cap<n+m)(i:n+m<=QK)
  (d:∀w':World,w'.heap=w.heap->(Builtin.firstCells k n (.slice ad n cap)).run P w'=.ok old.toArray w')(h:∀w':World,w'.heap=w.heap->(Builtin.firstCells k m (.slice ax m cx)).run P w'=.ok new.toArray w')
  (r:LR ro [] w es.flatten old)(z:∀v∈old,Qn v)(g:allK k es)(j:LR ro [] w fs.flatten new)(L:∀v∈new,Qn v)(l:allK k fs)(G:es.length=n)(B:fs.length=m):
  ∃v w' ro' τ,(execOp a.eval o).run P w=.ok (.value v) w'/\VR ro' (σ++τ) w' (.osl H.length 0 (n+m) k) v/\Sim fr ro' (σ++τ) (H++[.row e k (es++fs)]) w'/\Qg fr ro w ro' w':=by
 obtain⟨rest,X,J,u,f⟩:=Qfz (t:=o.type) E W rfl p i h d
 let w0:World:={w with drawn:=w.drawn+1}
 have R:Sim fr ro σ H w0:=s.heap rfl;have e0:Qg fr ro w ro w0:=Qg.heap rfl rfl rfl rfl (Nat.le_succ _);have F:LR ro [] w0 (es++fs).flatten (old++new):=by
  rw[Xp];exact(r.append j).mono (Ext.heap (w:=w) (w':=w0) rfl)
 obtain⟨s1,Q⟩:=Qgd (T:=e) (rest:=rest) R (QcX g l) F (λv Y=>by rcases Vv.1 Y with q|q;exact z v q;exact L v q);have b:(execOp a.eval o).run P w=.ok (.value _) _:=YG ho V a.eval (by rw[h1,O];exact f);refine⟨_,_,ro,[some w.heap.size],b,.inr ⟨w.heap.size,0,X,e,(old++new++rest).length,?_,rfl,λ_=>by simp,J,?_,?_⟩,s1,e0.trans Q⟩
 .rw[<- s.len];simp
 .have:=Q1 w0 (.cells ((old++new)++rest).toArray e);unfold World.shape?;rw[show w.heap.size=w0.heap.size from rfl,this];simp
 .have N:=r.length;have M:=j.length;rw[Yg g]at N;rw[Yg l]at M;simp only[XY,u,N,M,G,B,Xu];rw[<- Xz, <- Xz];exact XB k (by omega)
theorem Qed{c:Call}{T T' e e' k:Nat}{x y:Operand}{ya:A}{fs:List (List A)}(E:QM P T e k)(q:∀w,(underlying T').run P w=.ok (.slice e') w)(s:o.op=.call c)
  (p:c={callee:=.builtin .append,args:= #[x,y],argTypes:= #[T,T']})(O:opA env x=.nils)(L:opA env y=ya)(J:Src P H ya k fs)(i:fs.length<=QK):
  OpH P o env H (.osl H.length 0 fs.length k) (H++[.row e k fs]):=by
 intro F j σ N a w r;have b:=Qf r x;rw[O]at b;simp only[VR]at b;have h:=Qf r y;rw[L]at h;obtain⟨⟨G,B,f⟩,u,l,g,M,z⟩:=J F j σ w _ r.sim h;rw[f]at g;by_cases Q:fs.length=0
 .have d:fs=[]:=VB.1 Q;subst d;refine⟨.slice none 0 0,w,j,[none],?_,.inl ⟨rfl,rfl⟩,r.sim.phantom e k,Qg.refl _ _ _⟩;refine YG s p _ ?_;rw[b,f];have:=Qb5 (t:=o.type) E q (ad:=none) (n:=0) (m:=0) (cap:=0) (c:=B) (ax:=G) (XR 0) (g w rfl);simpa using this
 .have:=grown (es:=[]) (old:=[]) E q s p b f r.sim (by omega) (by omega) (λ_ _=>YF) g rfl (by simp) trivial M z u rfl rfl;simpa using this
theorem Qga{c:Call}{T T' e e' k i n:Nat}{x y:Operand}{ya:A}{es fs gs:List (List A)}(E:QM P T e k)(hd:∀w,(underlying T').run P w=.ok (.slice e') w)(ho:o.op=.call c)
  (O:c={callee:=.builtin .append,args:= #[x,y],argTypes:= #[T,T']})(hx:opA env x=.osl i 0 n k)(hH:H[i]?=some (.row e k es))(hn:n<=es.length)(F:opA env y=ya)(hs:Src P H ya k fs)(j:n+fs.length<=QK)
  (hg:es.take n++fs=gs):OpH P o env H (.osl H.length 0 (n+fs.length) k) (H.set i .dead++[.row e k gs]):=by
 intro fr G σ N a w r;subst hg;have g:=Qf r x;rw[hx]at g;have h2:=Qf r y;rw[F]at h2;obtain⟨⟨ay,cy,J⟩,q2,l,Q,q4,q5⟩:=hs fr G σ w _ r.sim h2;rw[J]at Q;have B:i<H.length:=(XJ.1 hH).1;have aa:(H.set i .dead).length=H.length:=XZ;obtain⟨s,hσ⟩:∃s,σ[i]?=some s:=⟨_,XI (by rw[r.sim.len];exact B)⟩;rcases g with⟨rfl,g⟩|⟨b,p,cap,t',mm,V,g,h4,h5,R,h7⟩
 ·
  by_cases hm:fs.length=0
  .have u:fs=[]:=VB.1 hm;subst u;refine⟨.slice none 0 0,w,G,[none],?_,.inl ⟨rfl,rfl⟩,(r.sim.kill i).phantom e k,Qg.refl _ _ _⟩;refine YG ho O _ ?_;rw[g,J];have:=Qb5 (t:=o.type) E hd (ad:=none) (n:=0) (m:=0) (cap:=0) (c:=cy) (ax:=ay) (XR 0) (Q w rfl);simpa using this
  .have:=grown (es:=[]) (old:=[]) E hd ho O g J (r.sim.kill i) (by omega) j (λ_ _=>YF) Q rfl (by simp) trivial q4 q5 q2 rfl rfl;rw[aa]at this;simpa using this
 .have L:=r.sim.blk i _ _ V hH;obtain⟨lb,X,g2⟩:=L;have W:(es.take n).length=n:=by simp;omega
  obtain⟨old,o1,o2,o3⟩:∃old:List Value,(∀w':World,w'.heap=w.heap->(Builtin.firstCells k n (.slice (some ⟨b,p,none⟩) n cap)).run P w'=.ok old.toArray w')/\LR G [] w (es.take n).flatten old/\ ∀v∈old,Qn v:=by
   have M:Src P H (.osl i 0 n k) k (es.take n):=Src.osl hH (by simp) (by omega);obtain⟨_,_,l',z1,z2,z3⟩:=M fr G σ w (.slice (some ⟨b,p,none⟩) n cap) r.sim (.inr ⟨b,p,cap,t',mm,V,rfl,h4,h5,R,h7⟩);rw[W]at z1;exact⟨l',z1,z2,z3⟩
  by_cases d:n+fs.length<=cap
  .have h:=Qb5 (t:=o.type) E hd (ad:=some ⟨b,p,none⟩) (n:=n) (m:=fs.length) (cap:=cap) (c:=cy) (ax:=ay) d (Q w rfl);have z:l.length=fs.length*k:=by rw[q4.length,Yg q2]
   by_cases hm:fs.length=0
   .have u:fs=[]:=VB.1 hm;subst u;have el:l=[]:=VB.1 (by rw[z];simp);subst el;have sw:=(r.sim.weaken (x':=.row e k (es.take n)) hH rfl (by
     intro y F;cases y with
     |none=>simp only[BR]at F⊢;subst F;simp
     |some y=>obtain⟨lb,X,g2⟩:=F;exact⟨lb,X,g2.take n⟩))
    have Y:=sw.moved (i:=i) (Xa B) V;rw[List.set_set]at Y;refine⟨.slice (some ⟨b,p,none⟩) n cap,w,G,[some b],?_,.inr ⟨b,p,cap,t',mm,?_,by simp,h4,by simpa using h5,R,h7⟩,by simpa using Y,Qg.refl _ _ _⟩
    .refine YG ho O _ ?_;rw[g,J];simpa[storeCells,go_sem]using h
    .rw[<- r.sim.len];simp
   .obtain rfl:p=0*k:=h4 (by omega);have q:(n+fs.length)*k<=lb.length:=by
     have:w.shape? b=some (e,lb.length):=by unfold World.shape?;rw[X];simp
     rw[this]at R;cases R;exact XT (XB k d) (by simpa using h7)
    rw[Xz]at q;have ac:=QT (P:=P) (vs:=l) (n*k) 0 X (by rw[z];simpa using q) q5;have f:=r.sim.set (x':=.row e k (es.take n++fs)) (obj:=.cells (splice lb (n*k) l).toArray e (0,0)) V hH rfl
     (λy F=>Qae X (QS (by rw[z];exact q)) y F)
     (λex ab=>⟨_,ab,(g2.app hn q2 q4 q5).mono ex.nil⟩)
    have Y:=f.1.moved (i:=i) (Xa B) V;rw[List.set_set]at Y;refine⟨.slice (some ⟨b,0*k,none⟩) (n+fs.length) cap,_,G,[some b],?_,.inr ⟨b,0*k,cap,t',mm,?_,rfl,h4,d,?_,h7⟩,Y,f.2⟩
    .refine YG ho O _ ?_;rw[g,J,h];simp only[YR,Nat.zero_mul,Xu,Vi,ac,Result.andThen,Vj];simp
    .rw[<- r.sim.len];simp
    .exact f.2.shape _ _ R
  .have:=grown (es:=es.take n) (old:=old) (fs:=fs) E hd ho O g J (r.sim.kill i) (by omega) j o1 Q o2 o3 (QeF n g2.allK) q4 q5 q2 W rfl;rw[aa]at this;exact this
end
end Go.Sw
namespace Go.Sw
section
variable {P:Program} {o:Oper} {env:Env} {H:Qc}
theorem OpC.fn{c:Call}{f:FuncId}{xs:List Operand}{h:Array TypeId}{args:List A}(b:∀(a:Array Value) (w:World),(callFunc f a).run P w=.ok (.enter f a) w)(i:o.op=.call c)
  (d:c={callee:=.value (.func f),args:=xs.toArray,argTypes:=h})(g:xs.map (opA env)=args):OpC P o env H f args:=by
 intro k j σ N a w r;refine⟨xs.map a.eval,?_,g▸Qa3 r xs⟩;subst d;have e:a.eval (.func f)=.func (.func f) #[] #[]:=rfl;generalize a.eval=ρ at*;simp only[execOp,i,resolve,e,Deferred.ofValue,invoke,Vi,Vj,Result.andThen,b];simp
theorem QaD{c:Call}{f:FuncId}{x:Operand}{xs:List Operand}{i:Array TypeId}{args vf vc:List A}(b:∀(a:Array Value) (w:World),(callFunc f a).run P w=.ok (.enter f a) w)(n:o.op=.call c)
  (h:c={callee:=.value x,args:=xs.toArray,argTypes:=i})(m:opA env x=.fn (.func f) vf vc)(k:vf++(xs.map (opA env)++vc)=args):OpC P o env H f args:=by
 intro q p σ N a w r;have d:=Qf r x;rw[m]at d;obtain⟨l,e,d,j,g⟩:=d;refine⟨l++(xs.map a.eval++e),?_,k▸j.append ((Qa3 r xs).append g)⟩;subst h;generalize a.eval=ρ at*;simp only[execOp,n,resolve,d,Deferred.ofValue,invoke,Vi,Vj,Result.andThen,b];simp
def Qc2(ρ:Nat->Nat)(env:Env):Env->Prop
 |[]=>True
 |(s,a)::r=>lk env s=Yk ρ a/\Qc2 ρ env r
theorem Qc2.ok{ro:Nat->Prop}{σ σ':Sig}{w:World}{ρ:Nat->Nat}(h:∀i:Nat,σ[ρ i]?=σ'[i]?){t:Array Value}(r:∀s,VR ro σ w (lk env s) (t.getD s undef)):
  ∀{env':Env},Qc2 ρ env env'->∀s,VR ro σ' w (lk env' s) (t.getD s undef)
 |[],_,s=>trivial
 |(d,a)::e,⟨h1,h2⟩,s=>by
  simp only[lk];by_cases q:s=d
  .subst q;rw[Vx];have:=r s;rw[h1]at this;exact(QcD h).1 this
  .have:Nat.beq s d=false:=by
    rw[VE];intro b;exact q (XO b)
   rw[this];exact Qc2.ok h r h2 s
theorem Sim.sub{fr ro:Nat->Prop}{σ:Sig}{w:World}{π:List Nat}{H':Qc}(s:Sim fr ro σ H w)(hH:π.map (λp=>H[p]?)=(H'.map (QN (rho π H.length))).map some)(hπ:π.Nodup):
  Sim fr ro (Q2 σ π) H' w/\ ∀j:Nat,σ[rho π H.length j]?=(Q2 σ π)[j]? :=by
 have L:∀p∈π,p<H.length:=λp q=>YS hH q;have hσl:=s.len;have k:∀(j p:Nat),π[j]?=some p->H[p]?=(H'[j]?).map (QN (rho π H.length)):=by
  intro j p a;have:=congrArg (λl=>l[j]?) hH;simp only[Xn,a,Xh]at this;cases e:H'[j]? with
  |none=>rw[e]at this;simp at this
  |some x=>rw[e]at this;simpa using this
 have z:π.length=H'.length:=by simpa using congrArg List.length hH
 have hσc:∀j:Nat,σ[rho π H.length j]?=(Q2 σ π)[j]? :=by
  intro j;have:=Qc9 (τ:=[]) hσl L j;simpa using this
 have hπj:∀(j b:Nat),(Q2 σ π)[j]?=some (some b)->∃p,π[j]?=some p/\σ[p]?=some (some b):=by
  intro j b a;simp only[Q2,Xn]at a;cases e:π[j]? with
  |none=>rw[e]at a;simp at a
  |some p=>
   rw[e]at a;simp at a;refine⟨p,rfl,?_⟩;cases m:σ[p]? with
   |none=>rw[m]at a;simp at a
   |some s=>rw[m]at a;simp at a;rw[a]
 have hπi:∀(i j p:Nat),π[i]?=some p->π[j]?=some p->i=j:=by
  intro i j p g f;have r:i<π.length:=(XJ.1 g).1;have a:j<π.length:=(XJ.1 f).1;rw[XI r]at g;rw[XI a]at f;have h:=(XV g).trans (XV f).symm;rcases Nat.lt_trichotomy i j with q|q|q
  .exact(Vw.1 hπ i j r a q h).elim
  .exact q
  .exact(Vw.1 hπ j i a r q h.symm).elim
 refine⟨⟨by simp[Q2,z],s.roOk,s.frLt,s.roFr,?_,?_,?_,s.hidTo (λj p=>π[j]?=some p) hπi (XR _) (λ_ _ _ _ _ _ _ q=>q) (λ_ _ _ _ _ _ _ q=>q) λj d y O N Q=>.inl ?_⟩,hσc⟩
 rotate_left 3
 .obtain⟨p,g,m⟩:=hπj j d O;exact⟨p,QN (rho π H.length) y,g,m,by rw[k j p g,N];rfl,by rw[QE];exact id,λc q=>(Qai _ _ _ _ _).2 q⟩
 .intro j b x n t B;obtain⟨p,g,m⟩:=hπj j b n;have u:H[p]?=some (QN (rho π H.length) x):=by rw[k j p g,t];rfl
  exact s.own p b _ m u (by rw[QE];exact B)
 .intro i j b x y n t B P J M;obtain⟨p,g,m⟩:=hπj i b n;obtain⟨G,f,E⟩:=hπj j b t;have u:H[p]?=some (QN (rho π H.length) x):=by rw[k i p g,B];rfl
  have F:H[G]?=some (QN (rho π H.length) y):=by rw[k j G f,P];rfl
  have:=s.inj p G b _ _ m E u F (by rw[QE];exact J) (by rw[QE];exact M);subst this;have r:i<π.length:=(XJ.1 g).1;have a:j<π.length:=(XJ.1 f).1;rw[XI r]at g;rw[XI a]at f;have h:=(XV g).trans (XV f).symm;rcases Nat.lt_trichotomy i j with q|q|q
  .exact(Vw.1 hπ i j r a q h).elim
  .exact q
  .exact(Vw.1 hπ j i a r q h.symm).elim
 .intro j y x n t;have a:j<π.length:=by
   rcases Vu j π.length with q|q
   .exact q
   .rw[XM (by simpa[Q2]using q)]at n;simp at n
  have g:π[j]?=some π[j]:=XI a;have u:H[π[j]]?=some (QN (rho π H.length) x):=by rw[k j _ g,t];rfl
  have m:σ[π[j]]?=some y:=by
   have:=hσc j;rw[n]at this;simpa[rho,g]using this
  exact(Qfr hσc).1 (s.blk _ y _ m u)
theorem Qjp{h0:Nat}{env':Env}{H':Qc}(π:List Nat)(b:π.take h0=List.range h0)(hH:π.map (λp=>H[p]?)=(H'.map (QN (rho π H.length))).map some)(hπ:π.Nodup)
  (hE:Qc2 (rho π H.length) env env'):Le h0 env H env' H':=by
 intro k h σ N a w r;obtain⟨g,hσ⟩:=r.sim.sub hH hπ;refine⟨h,Q2 σ π,⟨g,Qc2.ok hσ r.env hE,r.size,r.defers⟩,λ_ q=>q,?_⟩;have f:=r.sim.len;have e:∀p∈π,p<H.length:=λp q=>YS hH q;unfold Q2;rw[<- List.map_take,b];apply List.ext_getElem?;intro i;rcases Vu i h0 with q|q
 .have j:i∈π:=List.mem_of_mem_take (i:=h0) (by rw[b];exact List.mem_range.2 q);have d:i<σ.length:=by rw[f];exact e i j
  rw[Xn,List.getElem?_take,Vo q,List.getElem?_range q];simp[XI d]
 .rw[XM (by simpa using q),List.getElem?_take,Vn (by omega)]
theorem Le.phantom{h0 s k t:Nat}(e:h0<=H.length)(g:lk env s=.nils):Le h0 env H (up env s (.osl H.length 0 0 k)) (H++[.row t k []]):=by
 intro i d σ N a w r;refine⟨d,σ++[none],⟨r.sim.phantom t k,?_,r.size,r.defers⟩,λ_ q=>q,Qp (by rw[r.sim.len];exact e)⟩;have ext:Ext d σ w d (σ++[none]) w:=⟨λ_ q=>q,λ_ _=>rfl,λ_ _ q=>q,λ_ _ h=>Yq h⟩;intro b;simp only[lk];by_cases q:b=s
 .subst q;rw[Vx];have:=r.env b;rw[g]at this;exact .inl ⟨rfl,this⟩
 .have:Nat.beq b s=false:=by
   rw[VE];intro f;exact q (XO f)
  rw[this];exact(r.env b).mono ext
theorem Qkc{h0 s k:Nat}(f:lk env s=.nils):Le h0 env H (up env s (.rsl k [])) H:=by
 intro g e σ N a w r;refine⟨e,σ,⟨r.sim,?_,r.size,r.defers⟩,λ_ q=>q,rfl⟩;intro b;simp only[lk];by_cases q:b=s
 .subst q;rw[Vx];have:=r.env b;rw[f]at this;exact⟨none,0,this,XR _,.inl rfl⟩
 .have:Nat.beq b s=false:=by
   rw[VE];intro d;exact q (XO d)
  rw[this];exact r.env b
mutual
def Q8:A->Bool
 |.bool _=>true
 |.int _ _=>true
 |.str _=>true
 |.tup vs=>Qda vs
 |_=>false
def Qda:List A->Bool
 |[]=>true
 |a::r=>Q8 a&&Qda r
end
mutual
theorem VR.scalar{ro ro':Nat->Prop}{σ σ':Sig}{w w':World}:∀{a:A} {v:Value},Q8 a=true->VR ro σ w a v->VR ro' σ' w' a v
 |.bool _,_,_,h=>h
 |.int _ _,_,_,h=>h
 |.str _,_,_,h=>h
 |.tup vs,v,hs,h=>by
  simp only[VR,Q8]at h hs⊢;obtain⟨l,h1,h2⟩:=h;exact⟨l,h1,LR.scalar hs h2⟩
 |.any,_,hs,_=>by simp[Q8]at hs
 |.nilp,_,hs,_=>by simp[Q8]at hs
 |.ptr _ _,_,hs,_=>by simp[Q8]at hs
 |.rp _,_,hs,_=>by simp[Q8]at hs
 |.nils,_,hs,_=>by simp[Q8]at hs
 |.rsl _ _,_,hs,_=>by simp[Q8]at hs
 |.osl _ _ _ _,_,hs,_=>by simp[Q8]at hs
 |.agg _,_,hs,_=>by simp[Q8]at hs
 |.fn _ _ _,_,hs,_=>by simp[Q8]at hs
 |.nilf,_,hs,_=>by simp[Q8]at hs
 |.iface _ _,_,hs,_=>by simp[Q8]at hs
 |.nilif,_,hs,_=>by simp[Q8]at hs
 |.map _,_,hs,_=>by simp[Q8]at hs
 |.nilm,_,hs,_=>by simp[Q8]at hs
theorem LR.scalar{ro ro':Nat->Prop}{σ σ':Sig}{w w':World}:∀{az:List A} {l:List Value},Qda az=true->LR ro σ w az l->LR ro' σ' w' az l
 |[],_,_,h=>h
 |a::r,l,hs,h=>by
  simp only[LR,Qda,XU]at h hs⊢;obtain⟨v,l',h1,h2,h3⟩:=h;exact⟨v,l',h1,VR.scalar hs.1 h2,LR.scalar hs.2 h3⟩
end
def Look(H:Qc):A->A->Prop:=λa a'=>(a'=a/\Q9 a=true)\/ ∃i n k t es,a=.osl i 0 n k/\H[i]?=some (.row t k es)/\es.length=n/\a'=.rsl k es
def Qa5(H:Qc):List A->List A->Prop
 |[],[]=>True
 |a::az,b::bs=>Look H a b/\Qa5 H az bs
 |_,_=>False
theorem Qf1{h0 N:Nat}{Q:Qv}{all:Array Oper}{l:List Oper}{d:Nat}{f:FuncId}{args B:List A}{Qr:A->Qc->Prop}(aa:OpC P o env H f args)(hv:Qa5 H args B)(hC:C P f B [] Qr)
  (ae:∀r H1,Qr r H1->Q8 r=true)(k:∀r H1,Qr r H1->WO P h0 N all l (up env d r) H Q)(hg:Qm all o env true:=by exact rfl)(hd:o.dst=some d:=by exact rfl)(hN:Nat.blt d N=true:=by exact rfl):WO P h0 N all (o::l) env H Q:=by
 intro rd fr ro σ a w r hrd;obtain⟨O,h1,h2⟩:=aa fr ro σ N a w r;refine Qco (Yn hg r) h1 ?_
 let roc:Nat->Prop:=λb=>ro b\/ ∃(i:Nat) (x:Blk),σ[i]?=some (some b)/\H[i]?=some x/\x.live=true
 let frc:Nat->Prop:=λb=>fr b\/ ∃(i:Nat) (x:Blk) (d:Nat),σ[i]?=some (some d)/\H[i]?=some x/\Hid w x d b
 have Y:Sim frc roc [] [] w:=by
  refine⟨rfl,r.sim.roOk.to (λ_ q=>.inl q) (λ_ _=>rfl) ?_,?_,?_,by simp,by simp,by simp,by simp⟩
  .rintro b (q|⟨i,x,g,u,E⟩)
   .exact r.sim.roLt b q
   .exact(r.sim.own i b x g u E).1
  .rintro b (q|⟨i,x,d,g,u,E⟩)
   .exact r.sim.frLt b q
   .exact(r.sim.hid i d x b g u E).lt
  .rintro b (q|⟨i,x,g,u,E⟩) (q'|⟨i',x',d',X,T,V⟩)
   .exact r.sim.roFr b q q'
   .exact(r.sim.hid i' d' x' b X T V).ro q
   .exact(r.sim.own i b x g u E).2.2 q'
   .exact(r.sim.hid i' d' x' b X T V).ne i b x g u E rfl
 have L:∀(az G:List A) (l:List Value),Qa5 H az G->LR ro σ w az l->LR roc [] w G l:=by
  intro az
  induction az with
  |nil=>
   intro G l F h;cases G with
   |nil=>exact h
   |cons b G=>exact F.elim
  |cons x az ih=>
   intro G l F h;cases G with
   |nil=>exact F.elim
   |cons y G=>
    obtain⟨hx,F⟩:=F;obtain⟨v,l',rfl,hv,h⟩:=h;refine⟨v,l',rfl,?_,ih G l' F h⟩;rcases hx with⟨rfl,hx⟩|⟨i,n,k,t,es,rfl,hH,hn,rfl⟩
    .exact(hv.data (σ':=[]) hx).mono ⟨λ_ q=>.inl q,λ_ _=>rfl,λ_ _ q=>q,λ_ _ q=>q⟩
    .subst hn;rcases hv with⟨h0,h⟩|⟨b,p,R,t',m,h1,h,h2,h3,h4,h5⟩
     .have:es=[]:=VB.1 h0;subst this;exact⟨none,0,h,XR _,.inl rfl⟩
     .refine⟨_,R,h,h3,?_⟩;by_cases he:es=[]
      .exact .inl he
      .right;have hc:0<R:=Vb (List.length_pos_iff.2 he) h3;obtain rfl:=h2 hc;obtain⟨l,g,u⟩:=r.sim.blk i _ _ h1 hH;refine⟨b,0,by simp,.inr ⟨i,_,h1,hH,rfl⟩,?_⟩;have:=Yz (pre:=[]) (by simpa using g) u;exact this.keep ⟨λ_ q=>.inl q,λ_ _=>rfl,λ_ _ q=>q,λ_ _ q=>q⟩ rfl
 refine Calls.mono (hC frc roc [] O w Y (L _ _ _ hv h2)) ?_;rintro e M ⟨v,rr,H1,af,τ,rfl,hq,sc,ac,ev⟩;have J:∀(i b:Nat) (x:Blk),σ[i]?=some (some b)->H[i]?=some x->x.live=true->M.heap[b]?=w.heap[b]? :=λi b x g u E=>ev.keepRo b (.inr ⟨i,x,g,u,E⟩);have z:Qg fr ro w ro M:=⟨λ_ q=>q,λb q=>ev.keepRo b (.inl q),λb q=>ev.keepFr b (.inl q),ev.size,ev.shape,ev.os,ev.tape,ev.output,ev.drawn⟩;have W:Sim fr ro σ H M:=by
  refine⟨r.sim.len,r.sim.roOk.to (λ_ q=>q) z.keepRo (λb q=>Vb (r.sim.roLt b q) ev.size),λb q=>Vb (r.sim.frLt b q) ev.size,r.sim.roFr,?_,r.sim.inj,?_,r.sim.hidTo (· = ·) QP ev.size (λ_ _ _ _ _ _ _ q=>q) (λ_ _ _ _ _ _ _ q=>q) λj d y g1 g2 g3=>.inl ⟨j,y,rfl,g1,g2,id,λc q=>r.sim.hidKeep g1 g2 (J j d y g1 g2) z.keepRo q⟩⟩
  .intro i b x g u E;obtain⟨p1,p2,p3⟩:=r.sim.own i b x g u E;exact⟨Vb p1 ev.size,p2,p3⟩
  .intro i y x g u;refine(r.sim.blk i y x g u).keep (z.ext0 σ) ?_ ?_
   .rintro b rfl F;exact J i b x g u F
   .rintro b c rfl F;exact ev.keepFr c (.inr ⟨i,x,b,g,u,F⟩)
 have hk:=k rr H1 hq;have ab:d<N:=by simpa using hN
 simp only[hd,Act.put];have r':Rel fr ro σ H (up env d rr) N {a with tmps:=a.tmps.setIfInBounds d v} M:=
  ⟨W,VR.up (fr:=fr) (λs=>(r.env s).mono (z.ext0 σ)) (by rw[r.size];exact ab) (ac.scalar (ae _ _ hq)),by simpa using r.size,r.defers.keep z⟩
 exact⟨_,rfl,Q4 (λe a w q=>q.step z rfl) _ _ _ (hk rd fr ro σ _ M r' (hrd.to z λ_ q=>q))⟩
end
end Go.Sw
namespace Go.Sw
section
variable {P:Program} {o:Oper} {env:Env} {H:Qc}
theorem Qeu{α:Type}:∀(vs:List α) (off i:Nat) (l:List α),off+i+vs.length<=l.length->
  (vs.zipIdx i).foldl (λ(cs:Array α) (x:α×Nat)=>cs.setIfInBounds (off+x.2) x.1) l.toArray=(splice l (off+i) vs).toArray
 |[],off,i,l,h=>by simp[splice]
 |v::vs,off,i,l,h=>by
  simp only[XW]at h;rw[List.zipIdx_cons,List.foldl_cons];have e1:l.toArray.setIfInBounds (off+i) v=(splice l (off+i) [v]).toArray:=by
   have:l.toArray.setIfInBounds (off+i) v=(l.set (off+i) v).toArray:=by simp
   rw[this];congr 1;rw[List.set_eq_take_append_cons_drop,Vo (by omega)];simp[splice]
  rw[e1,Qeu vs off (i+1) _ (by rw[QS (by simp;omega)];omega)];congr 1;have a:(l.take (off+i)).length=off+i:=by simp;omega
  unfold splice;rw[Ve (l.take (off+i))];have e:off+(i+1)=(l.take (off+i)).length+1:=by omega
  have d:(l.take (off+i)++([v]++l.drop (off+i+[v].length))).take ((l.take (off+i)).length+1)=l.take (off+i)++[v]:=by
   rw[X7];simp
  have b:(l.take (off+i)++([v]++l.drop (off+i+[v].length))).drop ((l.take (off+i)).length+1+vs.length)=l.drop (off+i+(v::vs).length):=by
   rw[show(l.take (off+i)).length+1+vs.length=(l.take (off+i)).length+(1+vs.length)from by omega,X6];simp[Nat.add_comm 1];congr 1;omega
  rw[e,d,b];simp
theorem Qew{a:Nat->Option (Nat×Nat)}{l:List Value}{i off size:Nat}{v:Value}{m:List Value}{rest:List (Nat×Value)}(e:a i=some (off,size))(d:v.cells=m.toArray)(f:m.length=size)
  (hl:off+size<=l.length):Instr.fill a l.toArray ((i,v)::rest)=Instr.fill a (splice l off m).toArray rest:=by
 have b:v.cells.size=size:=by rw[d];simpa using f
 rw[Instr.fill];simp only[e];rw[Vn (by simp[b];omega),d];congr 1;have:=Qeu m off 0 l (by omega);rw[Xv]at this;rw[<- this];simp[Array.foldl_toList]
def QaA:Nat->List Operand->List (Nat×Operand)
 |_,[]=>[]
 |i,x::xs=>(i,x)::QaA (i+1) xs
def QV(env:Env)(xs:List Operand):List (List A):=xs.map λx=>QX (opA env x)
theorem QdG{fr ro:Nat->Prop}{σ:Sig}{N:Nat}{a:Act}{w:World}(r:Rel fr ro σ H env N a w){k:Nat}:∀(xs:List Operand) (j:Nat) (pre rest:List Value),pre.length=j*k->rest.length=xs.length*k->
  (xs.all λx=>Q0 (opA env x))=true->allK k (QV env xs)->
  ∃l,Instr.fill (λi=>some (i*k,k)) (pre++rest).toArray ((QaA j xs).map λp=>(p.1,a.eval p.2))=some (pre++l).toArray/\LR ro σ w (QV env xs).flatten l
 |[],j,pre,rest,h1,h2,_,_=>by
  have:rest=[]:=VB.1 (by simpa using h2);subst this;exact⟨[],rfl,rfl⟩
 |x::xs,j,pre,rest,h1,h2,h3,h4=>by
  simp only[List.all_cons,XU]at h3;obtain⟨hk1,hk2⟩:=h4;obtain⟨m,q1,q2⟩:=(Qf r x).cells h3.1;have hm:m.length=k:=by rw[q2.length];exact hk1
  simp only[XW,Xj]at h2;simp only[QaA,Vf];rw[Qew (off:=j*k) (size:=k) rfl q1 hm (by simp;omega)];have e:splice (pre++rest) (j*k) m=(pre++m)++rest.drop k:=by
   unfold splice;rw[<- h1,List.take_left,X6,hm]
  rw[e];obtain⟨l,b,d⟩:=QdG r xs (j+1) (pre++m) (rest.drop k) (by simp[h1,hm,Xj]) (by simp;omega) h3.2 hk2;refine⟨m++l,?_,?_⟩
  .rw[b];simp
  .show LR ro σ w ((QX (opA env x))++(QV env xs).flatten) (m++l);exact q2.append d
theorem QaH{fr ro:Nat->Prop}{σ:Sig}{N:Nat}{a:Act}{w:World}(r:Rel fr ro σ H env N a w){T e k n:Nat}{xs:List Operand}(E:QM P T e k)(s:xs.length=n)(f:Nat.ble (n*k) 16777216=true)
  (m:(xs.all λx=>Q0 (opA env x))=true)(q:allK k (QV env xs)):
  ∃l,(Instr.buildSlice T n (((QaA 0 xs).map λp=>(p.1,a.eval p.2)).toArray)).run P w=.ok (.slice (some ⟨w.heap.size,0,none⟩) n n) (w.alloc (.cells l.toArray e))/\LR ro σ w (QV env xs).flatten l:=by
 obtain⟨z,y,t⟩:=E.zero;have j:n*k<=16777216:=by simpa using f
 have d:∀(c:Array Value) (W:World),(newRow e c).run P W=.ok ⟨W.heap.size,0,none⟩ (W.alloc (.cells c e)):=λc W=>rfl;unfold Instr.buildSlice;by_cases g:n*k=0
 .obtain⟨l,b,h⟩:=QdG r (k:=k) xs 0 [] [] (by simp) (by rw[s];simpa using g.symm) m q;refine⟨l,?_,h⟩;simp only[Vi,E.sl,Result.andThen,E.size,g];simp only[Xk,gt_iff_lt,if_false,if_true,Vj,XF,Result.andThen];have u:Array.range 0= #[]:=rfl;simp at b;simp[u,b,d]
 .obtain⟨l,b,h⟩:=QdG r (k:=k) xs 0 [] ((Array.range (n*k)).map (λi=>z.cells[i%z.cells.size]!)).toList (by simp) (by rw[s];simp) m q;refine⟨l,?_,h⟩;simp only[Vi,E.sl,Result.andThen,E.size,Vn g,XF,y,Vj];rw[Vn (by omega)];simp only[Vd]at b;rw[Array.toArray_toList]at b;simp only[b,Vi,d,Result.andThen,Vj]
theorem Qaq{T n:Nat}{xs:List Operand}(a:o.op=.buildSlice T n (QaA 0 xs).toArray)(ρ:Operand->Value){v:Value}{w w':World}
  (h:(Instr.buildSlice T n (((QaA 0 xs).map λp=>(p.1,ρ p.2)).toArray)).run P w=.ok v w'):(execOp ρ o).run P w=.ok (.value v) w':=by
 simp only[execOp,a,Vi,XG,h,Result.andThen,Vj]
theorem OpH.lit{T e k n:Nat}{xs:List Operand}{es:List (List A)}(E:QM P T e k)(z:o.op=.buildSlice T n (QaA 0 xs).toArray)(p:xs.length=n)(d:Nat.ble (n*k) 16777216=true)
  (y:(xs.all λx=>Q0 (opA env x))=true)(f:QV env xs=es)(h:allK k es)(q:es.flatten.all Yb=true)(s:Q6 es.flatten=true):
  OpH P o env H (.osl H.length 0 n k) (H++[.row e k es]):=by
 intro B j σ N a w r;subst f;obtain⟨l,t,g⟩:=QaH r E p d y h;have b:LR j [] w (QV env xs).flatten l:=g.data s;obtain⟨i,m⟩:=Qgd (T:=e) (rest:=[]) r.sim h b (g.plain q);rw[Vc]at i m;have u:l.length=n*k:=by rw[g.length,Yg h];simp[QV,p]
 refine⟨_,_,j,[some w.heap.size],Qaq z a.eval t,.inr ⟨w.heap.size,0,n,e,l.length,?_,rfl,λ_=>by simp,XR _,?_,by rw[u,Xu];exact XR _⟩,i,m⟩
 .rw[<- r.sim.len];simp
 .unfold World.shape?;rw[Q1];simp
theorem Yt{T e k n:Nat}{xs:List Operand}{es:List (List A)}(E:QM P T e k)(u:o.op=.buildSlice T n (QaA 0 xs).toArray)(i:xs.length=n)(b:Nat.ble (n*k) 16777216=true)
  (q:(xs.all λx=>Q0 (opA env x))=true)(d:QV env xs=es)(g:allK k es)(j:es.flatten.all Yb=true):
  OpH P o env H (.osl H.length 0 n k) (H++[.rowr e k es]):=by
 intro y s σ N a w r;subst d;obtain⟨l,m,f⟩:=QaH r E i b q g;have h:=r.sim.allocRowr (t:=e) (rest:=[]) g f (f.plain j);rw[Vc]at h;have p:l.length=n*k:=by rw[f.length,Yg g];simp[QV,i]
 refine⟨_,_,s,[some w.heap.size],Qaq u a.eval m,.inr ⟨w.heap.size,0,n,e,l.length,?_,rfl,λ_=>by simp,XR _,?_,by rw[p,Xu];exact XR _⟩,h,Qg.alloc _ r.sim.roLt r.sim.frLt⟩
 .rw[<- r.sim.len];simp
 .unfold World.shape?;rw[Q1];simp
theorem Y4{n:Int}{y:Nat}{c:BoundsCode}{w:World}(h0:0<=n)(a:n<=y):(Instr.sliceBound (.int .i64 n) y c).run P w=.ok n.toNat w:=by
 simp[Instr.sliceBound,asIntOf,h0,a,go_sem]
theorem QeU{T e:Nat}{k:Nat}{w:World}(E1:∀w,(underlying T).run P w=.ok (.slice e) w)(E2:∀w,(sizeOf e).run P w=.ok k w){ad:Option Addr}{n cap:Nat}{lo hi:Option Value}{l h:Nat}(d:n<=cap)
  (a:lo=none/\l=0\/ ∃z:Int,lo=some (.int .i64 z)/\0<=z/\z.toNat=l)(b:hi=none/\h=n\/ ∃z:Int,hi=some (.int .i64 z)/\0<=z/\z.toNat=h)(i:l<=h)(j:h<=n):
  (Instr.sliceAt T (.slice ad n cap) lo hi none).run P w=.ok (.slice (if cap=l then ad else ad.map (·.add (l*k))) (h-l) (cap-l)) w:=by
 have g:(Instr.sliceBounds true n cap lo hi none).run P w=.ok (l,h,cap) w:=by
  rcases a with⟨rfl,rfl⟩|⟨z,rfl,f,rfl⟩<;>rcases b with⟨rfl,rfl⟩|⟨y,rfl,y0,rfl⟩
  .simp[Instr.sliceBounds,go_sem]
  .simp only[Instr.sliceBounds,Vi,Vj,Result.andThen,Y4 y0 (show y<=(cap:Int)by omega)]
  .simp only[Instr.sliceBounds,Vi,Vj,Result.andThen,Y4 f (show z<=(h:Int)by omega)]
  .simp only[Instr.sliceBounds,Vi,Vj,Result.andThen,Y4 y0 (show y<=(cap:Int)by omega),Y4 f (show z<=(y.toNat:Int)by omega)]
 simp only[Instr.sliceAt,Vi,E1,Result.andThen,Instr.slice,g,E2,Vj]
theorem QaX{fr ro:Nat->Prop}{σ:Sig}{N:Nat}{a:Act}{w:World}(r:Rel fr ro σ H env N a w){x:Option Operand}{l d:Nat}(h:x=none/\l=d\/ ∃y,∃z:Int,x=some y/\opA env y=.int .i64 z/\0<=z/\z.toNat=l):
  x.map a.eval=none/\l=d\/ ∃z:Int,x.map a.eval=some (.int .i64 z)/\0<=z/\z.toNat=l:=by
 rcases h with⟨rfl,rfl⟩|⟨y,z,rfl,f,b,e⟩
 .exact .inl ⟨rfl,rfl⟩
 .exact .inr ⟨z,by simp[QI r f],b,e⟩
theorem Qjl{T e k:Nat}{x:Operand}{lo hi:Option Operand}{es es':List (List A)}{l h:Nat}(E1:∀w,(underlying T).run P w=.ok (.slice e) w)(E2:∀w,(sizeOf e).run P w=.ok k w)(F:o.op=.slice T x lo hi none)
  (G:opA env x=.rsl k es)(j:lo=none/\l=0\/ ∃y,∃z:Int,lo=some y/\opA env y=.int .i64 z/\0<=z/\z.toNat=l)
  (n:hi=none/\h=es.length\/ ∃y,∃z:Int,hi=some y/\opA env y=.int .i64 z/\0<=z/\z.toNat=h)(m:l<=h)(E:h<=es.length)(p:(es.take h).drop l=es'):OpV P o env H (.rsl k es'):=by
 intro M L σ N a w r;subst p;have i:=Qf r x;rw[G]at i;obtain⟨ad,g,i,t,s⟩:=i;have f:=QeU (P:=P) (w:=w) E1 E2 (ad:=ad) t (QaX r j) (QaX r n) m E;have d:((es.take h).drop l).length=h-l:=by simp;omega
 refine⟨_,by simp only[execOp,F,i,Vi,f,Result.andThen,Vj,Xi];rfl,?_⟩;refine⟨_,g-l,by rw[d],by rw[d];omega,?_⟩;rcases s with rfl|⟨b,q,rfl,B,J⟩
 .left;simp
 .by_cases u:g=l
  .left;apply VB.1;omega
  .right;refine⟨b,q+l*k,by rw[Vn u];simp[YR],B,?_⟩;exact(J.take h).drop l
theorem QdX{T e k i s n:Nat}{x:Operand}{lo hi:Option Operand}{l h:Nat}(E1:∀w,(underlying T).run P w=.ok (.slice e) w)(E2:∀w,(sizeOf e).run P w=.ok k w)(L:o.op=.slice T x lo hi none)
  (R:opA env x=.osl i s n k)(j:lo=none/\l=0\/ ∃y,∃z:Int,lo=some y/\opA env y=.int .i64 z/\0<=z/\z.toNat=l)
  (t:hi=none/\h=n\/ ∃y,∃z:Int,hi=some y/\opA env y=.int .i64 z/\0<=z/\z.toNat=h)(u:l<=h)(E:h<=n):OpV P o env H (.osl i (s+l) (h-l) k):=by
 intro W V σ N a w r;have g:=Qf r x;rw[R]at g;rcases g with⟨rfl,g⟩|⟨b,p,f,J,m,g,O,M,Q,G,F⟩
 .have d:=QeU (P:=P) (w:=w) E1 E2 (ad:=none) (XR 0) (QaX r j) (QaX r t) u E;refine⟨_,by simp only[execOp,L,g,Vi,d,Result.andThen,Vj,Xi];rfl,?_⟩;left;obtain rfl:h=0:=by omega
  obtain rfl:l=0:=by omega
  simp
 .have d:=QeU (P:=P) (w:=w) E1 E2 (ad:=some ⟨b,p,none⟩) Q (QaX r j) (QaX r t) u E;refine⟨_,by simp only[execOp,L,O,Vi,d,Result.andThen,Vj,Xi];rfl,?_⟩;right;by_cases B:f=l
  .refine⟨b,p,0,J,m,g,by rw[Vo B];simp[B],λq=>by omega,by omega,G,?_⟩;subst B;exact XT (by simp) F
  .refine⟨b,p+l*k,f-l,J,m,g,by rw[Vn B];simp[YR],λq=>by rw[M (by omega),Xz],by omega,G,?_⟩;rw[show s+l+(f-l)=s+f from by omega];exact F
theorem OpV.max{c:Call}{x y:Operand}{k:IntKind}{m n:Int}(j:o.op=.call c)(e:c={callee:=.builtin .max,args:= #[x,y],argTypes:=c.argTypes})(i:opA env x=.int k m)(g:opA env y=.int k n):
  OpV P o env H (.int k (if m<n then n else m)):=by
 intro p l σ N a w r;have f:=QI r i;have h:=QI r g;refine⟨_,?_,rfl⟩;generalize a.eval=ρ at*;have d:c.callee=.builtin .max:=by rw[e]
 have b:c.args= #[x,y]:=by rw[e]
 simp only[execOp,j,resolve,d,b,invoke,Go.builtin,Vi,Vj,Result.andThen];simp[Builtin.max_,Builtin.max2,f,h,go_sem]
theorem OpV.min{c:Call}{x y:Operand}{k:IntKind}{m n:Int}(j:o.op=.call c)(e:c={callee:=.builtin .min,args:= #[x,y],argTypes:=c.argTypes})(i:opA env x=.int k m)(g:opA env y=.int k n):
  OpV P o env H (.int k (if n<m then n else m)):=by
 intro p l σ N a w r;have f:=QI r i;have h:=QI r g;refine⟨_,?_,rfl⟩;generalize a.eval=ρ at*;have d:c.callee=.builtin .min:=by rw[e]
 have b:c.args= #[x,y]:=by rw[e]
 simp only[execOp,j,resolve,d,b,invoke,Go.builtin,Vi,Vj,Result.andThen];simp[Builtin.min_,Builtin.min2,f,h,go_sem]
end
end Go.Sw
namespace Go.Sw
section
variable {P:Program} {h0 N:Nat} {env:Env} {H:Qc} {Q:Qv} {c c':Code}
def CutP(h0:Nat)(Eb:Env)(Hb:Qc)(Q:Qv):Qv
 |.normal,env,H=>Le h0 env H Eb Hb
 |.exit id,env,H=>Q (.exit id) env H
 |.ret,env,H=>Q .ret env H
theorem TC.cut(Eb:Env)(Hb:Qc)(h:TC P h0 N c env H (CutP h0 Eb Hb Q))(k:∀env H,Le h0 env H Eb Hb->Q .normal env H):TC P h0 N c env H Q:=
 h.mono λx env' H' q=>by
  cases x with
  |normal=>exact k _ _ q
  |exit id=>exact q
  |ret=>exact q
theorem Qio(h:TC P h0 N c env H Q):Seq P h0 N c Q .normal env H:=h
theorem seqX{id:Nat}(h:Q (.exit id) env H):Seq P h0 N c Q (.exit id) env H:=h
theorem seqR(h:Q .ret env H):Seq P h0 N c Q .ret env H:=h
theorem bloN{id:Nat}(h:Q .normal env H):Blo id Q .normal env H:=h
theorem bloE{id:Nat}(h:Q .normal env H):Blo id Q (.exit id) env H:=by simp only[Blo,Vx,Vk];exact h
theorem bloX{id a:Nat}(e:Nat.beq a id=false)(h:Q (.exit a) env H):Blo id Q (.exit a) env H:=by simp only[Blo,e,Vl];exact h
theorem bloR{id:Nat}(h:Q .ret env H):Blo id Q .ret env H:=h
def Qd4{S B:Type}(h0:Nat)(b:Ctl S B)(Eb:S->Env)(Hb:S->Qc)(Q:Qv):Qv
 |.normal,env,H=>∃s,b=.cont s/\Le h0 env H (Eb s) (Hb s)
 |.exit id,env,H=>Q (.exit id) env H
 |.ret,env,H=>Q .ret env H
theorem Qfd{S B:Type}{b:Ctl S B}(Eb:S->Env)(Hb:S->Qc)(h:TC P h0 N c env H (Qd4 h0 b Eb Hb Q))(k:∀s env H,b=.cont s->Le h0 env H (Eb s) (Hb s)->Q .normal env H):TC P h0 N c env H Q:=
 h.mono λx env' H' q=>by
  cases x with
  |normal=>obtain⟨s,e,q⟩:=q;exact k s _ _ e q
  |exit id=>exact q
  |ret=>exact q
section
variable {S B:Type} {b:Ctl S B} {Eb:S->Env} {Hb:S->Qc}
theorem QG{s:S}(e:b=.cont s)(h:Le h0 env H (Eb s) (Hb s)):Qd4 h0 b Eb Hb Q .normal env H:=⟨s,e,h⟩
theorem Qkt{id:Nat}(h:Q (.exit id) env H):Qd4 h0 b Eb Hb Q (.exit id) env H:=h
theorem QZ(h:Q .ret env H):Qd4 h0 b Eb Hb Q .ret env H:=h
end
theorem Qf4{x:Operand}{t:Bool}(hx:opA env x=.bool t)(h:t=true)(ht:TC P h0 N c env H Q):TC P h0 N (.cond x c c') env H Q:=TC.cond hx (λ_=>ht) (λq=>by rw[h]at q;cases q)
theorem QdP{x:Operand}{t:Bool}(hx:opA env x=.bool t)(h:t=false)(hf:TC P h0 N c' env H Q):TC P h0 N (.cond x c c') env H Q:=TC.cond hx (λq=>by rw[h]at q;cases q) (λ_=>hf)
section
variable {S B:Type} {I:S->Env->Qc->Prop}
theorem Qt{s:S}{d:Ctl S B}(e:some (Ctl.cont s)=some d)(h:I s env H):Qa4 I d Q .normal env H:=⟨s,(XV e).symm,h⟩
theorem Qx{id:Nat}{b:B}{d:Ctl S B}(e:some (Ctl.done b)=some d)(h:Q (.exit id) env H):Qa4 I d Q (.exit id) env H:=⟨⟨b,(XV e).symm⟩,h⟩
theorem Yl{b:B}{d:Ctl S B}(e:some (Ctl.done b)=some d)(h:Q .ret env H):Qa4 I d Q .ret env H:=⟨⟨b,(XV e).symm⟩,h⟩
end
end
theorem bnd{α β:Type}{x:Option α}{f:α->Option β}{r:β}(h:x.bind f=some r):∃a,x=some a/\f a=some r:=Option.bind_eq_some_iff.1 h
theorem ifT{α:Type}{c:Bool}{x y:Option α}{r:α}(a:c=true)(h:(bif c then x else y)=some r):x=some r:=by subst a;exact h
theorem ifF{α:Type}{c:Bool}{x y:Option α}{r:α}(a:c=false)(h:(bif c then x else y)=some r):y=some r:=by subst a;exact h
def idx{α:Type}(l:List α)(i:Int):Option α:=bif decide (0<=i)then l[i.toNat]? else none
theorem Qap{α:Type}{l:List α}{i:Int}{x:α}(h:idx l i=some x):0<=i/\l[i.toNat]?=some x:=by
 unfold idx at h;by_cases q:0<=i
 .rw[Vp q]at h;exact⟨q,h⟩
 .rw[Vr q]at h;simp at h
def app{α:Type}(l m:List α):Option (List α):=bif Nat.ble (l.length+m.length) QK then some (l++m)else none
theorem QgG{α:Type}{l m r:List α}(h:app l m=some r):l.length+m.length<=QK/\l++m=r:=by
 unfold app at h;cases q:Nat.ble (l.length+m.length) QK with
 |true=>rw[q]at h;exact⟨XP q,XV h⟩
 |false=>rw[q]at h;simp at h
def slc{α:Type}(l:List α)(lo hi:Int):Option (List α):=bif decide (0<=lo)&&decide (lo<=hi)&&decide (hi<=(l.length:Int))then some ((l.take hi.toNat).drop lo.toNat)else none
theorem Qcr{α:Type}{l r:List α}{lo hi:Int}(h:slc l lo hi=some r):0<=lo/\lo<=hi/\hi<=l.length/\(l.take hi.toNat).drop lo.toNat=r:=by
 unfold slc at h;cases q:(decide (0<=lo)&&decide (lo<=hi)&&decide (hi<=(l.length:Int)))with
 |true=>
  rw[q]at h;simp at q;exact⟨q.1.1,q.1.2,q.2,XV h⟩
 |false=>rw[q]at h;simp at h
def Qct{α:Type}(l:List α)(i:Int)(x:α):Option (List α):=bif decide (0<=i)&&decide (i<(l.length:Int))then some (l.set i.toNat x)else none
theorem Qdc{α:Type}{e:α->List A}{l:List α}{i:Nat}{x:α}(h:l[i]?=some x):(l.map e)[i]?=some (e x):=by simp[h]
end Go.Sw
namespace Go.Sw
section
variable {P:Program} {h0 N:Nat} {env:Env} {H H':Qc} {Q:Qv} {all:Array Oper} {o:Oper} {l:List Oper} {d:Nat} {x:A}
theorem vV(a:OpV P o env H x)(k:WO P h0 N all l (up env d x) H Q)(hg:Qm all o env true:=by exact rfl)(hd:o.dst=some d:=by exact rfl)(hN:Nat.blt d N=true:=by exact rfl):WO P h0 N all (o::l) env H Q:=
 Qz hg hd hN a k
theorem vH(a:OpH P o env H x H')(k:WO P h0 N all l (up env d x) H' Q)(hg:Qm all o env true:=by exact rfl)(hd:o.dst=some d:=by exact rfl)(hN:Nat.blt d N=true:=by exact rfl)(hh:Nat.ble h0 H.length=true:=by exact rfl):WO P h0 N all (o::l) env H Q:=
 YH (XP hh) hg hd hN a k
theorem vN(a:OpH P o env H x H')(k:WO P h0 N all l env H' Q)(hg:Qm all o env true:=by exact rfl)(hd:o.dst=none:=by exact rfl)(hh:Nat.ble h0 H.length=true:=by exact rfl):WO P h0 N all (o::l) env H Q:=
 Qk8 (XP hh) hg hd a k
theorem vU(a:OpU P o env H H')(k:WO P h0 N all l env H' Q)(hg:Qm all o env true:=by exact rfl)(hd:o.dst=none:=by exact rfl)(hh:Nat.ble h0 H.length=true:=by exact rfl):WO P h0 N all (o::l) env H Q:=
 Qba (XP hh) hg hd a k
theorem gT{j s:Nat}{c x:Bool}(a:x=c)(hg:o.guard=some (j,c):=by exact rfl)(hs:(all[j]?).bind (·.dst)=some s:=by exact rfl)(hl:lk env s=.bool x:=by exact rfl):Qm all o env true:=by
 unfold Qm;rw[hg];exact⟨s,hs,.inl ⟨x,hl,by subst a;cases x<;>rfl⟩⟩
theorem gF{j s:Nat}{c x:Bool}(a:x= !c)(hg:o.guard=some (j,c):=by exact rfl)(hs:(all[j]?).bind (·.dst)=some s:=by exact rfl)(hl:lk env s=.bool x:=by exact rfl):Qm all o env false:=by
 unfold Qm;rw[hg];exact⟨s,hs,.inl ⟨x,hl,by subst a;cases c<;>rfl⟩⟩
theorem Qk9{x x':A}(a:x'=x)(hH:H'=H)(k:WO P h0 N all l (up env d x) H Q):WO P h0 N all l (up env d x') H' Q:=by subst a;subst hH;exact k
theorem QdO(hH:H'=H)(k:WO P h0 N all l env H Q):WO P h0 N all l env H' Q:=by subst hH;exact k
theorem Qu{f:FuncId}{args a:List A}{Hc:Qc}{Qr:A->Qc->Prop}(π:List Nat)(b:OpC P o env H f args)(g:C P f a Hc Qr)
  (k:∀r H1,Qr r H1->WO P h0 N all l (up env d (Yk (rho π H.length) r)) (Ya H π (H1.map (QN (rho π H.length)))) Q)
  (hargs:args=Qaa (rho π H.length) a:=by exact rfl)(hH:π.map (λp=>H[p]?)=(Hc.map (QN (rho π H.length))).map some:=by exact rfl)(hπ:π.Nodup:=by decide)
  (hg:Qm all o env true:=by exact rfl)(hd:o.dst=some d:=by exact rfl)(hN:Nat.blt d N=true:=by exact rfl)(hh:Nat.ble h0 H.length=true:=by exact rfl):WO P h0 N all (o::l) env H Q:=
 WO.call (d:=some d) π (XP hh) hg hd (λx e=>by cases e;simpa using hN) b hargs hH hπ g k
end
section
variable {P:Program} {o:Oper} {env:Env} {H:Qc} {α:Type} {e:α->List A}
theorem Qjk{c:Call}{t et k:Nat}{x:Operand}{l:List α}(a:∀w,(underlying t).run P w=.ok (.slice et) w)(b:o.op=.call c:=by exact rfl)(hc:c={callee:=.builtin .len,args:= #[x],argTypes:= #[t]}:=by exact rfl)
  (hx:opA env x=.rsl k (l.map e):=by exact rfl):OpV P o env H (.int .i64 l.length):=by
 have:=Qjj (H:=H) b hc a hx
 rwa [XX]at this
theorem Qhr{t et k:Nat}{x y:Operand}{l:List α}{a:IntKind}{i:Int}{v:α}(h:idx l i=some v)(d:∀w,(underlying t).run P w=.ok (.slice et) w)(f:∀w,(sizeOf et).run P w=.ok k w)
  (b:o.op=.indexAddr t x y:=by exact rfl)(hx:opA env x=.rsl k (l.map e):=by exact rfl)(hy:opA env y=.int a i:=by exact rfl):OpV P o env H (.rp (e v)):=
 Qj9 b d f hx hy (Qap h).1 (Qdc (Qap h).2)
theorem QL{t et k b n:Nat}{x y:Operand}{l:List α}{f:IntKind}{i:Int}{v:α}(h:idx l i=some v)(m:l.length=n)(d:∀w,(underlying t).run P w=.ok (.slice et) w)(e:∀w,(sizeOf et).run P w=.ok k w)
  (g:o.op=.indexAddr t x y:=by exact rfl)(hx:opA env x=.osl b 0 n k:=by exact rfl)(hy:opA env y=.int f i:=by exact rfl):OpV P o env H (.ptr b (i.toNat*k)):=by
 have:=Qap h;have j:i.toNat<l.length:=(XJ.1 this.2).1;have a:=Qfi (H:=H) g d e hx hy this.1 (by omega)
 rwa [Nat.zero_mul,Xu]at a
theorem QeI{b t k f:Nat}{l:List α}{i:Int}{v:α}{cs':List A}(h:idx l i=some v)(hH:H[b]?=some (.row t k (l.map e)):=by exact rfl)(hcs:(e v).drop f=cs':=by exact rfl):Pts H (.ptr b (i.toNat*k+f)) cs':=
 Pts.row hH rfl (Qdc (Qap h).2) hcs
theorem Qq{b t k:Nat}{l:List α}{i:Int}{v:α}{cs':List A}(h:idx l i=some v)(hH:H[b]?=some (.row t k (l.map e)):=by exact rfl)(hcs:e v=cs':=by exact rfl):Pts H (.ptr b (i.toNat*k)) cs':=
 Pts.row (f:=0) hH rfl (Qdc (Qap h).2) hcs
theorem Qgb{c:Call}{T T' et et' k:Nat}{x y:Operand}{ya:A}{m r:List α}(h:app [] m=some r)(E:QM P T et k)(a:∀w,(underlying T').run P w=.ok (.slice et') w)(b:Src P H ya k (m.map e))
  (f:o.op=.call c:=by exact rfl)(hc:c={callee:=.builtin .append,args:= #[x,y],argTypes:= #[T,T']}:=by exact rfl)(hx:opA env x=.nils:=by exact rfl)(hy:opA env y=ya:=by exact rfl):
  OpH P o env H (.osl H.length 0 r.length k) (H++[.row et k (r.map e)]):=by
 obtain⟨d,rfl⟩:=QgG h;have:=Qed E a f hc hx hy b (by simpa using d);simpa using this
theorem QA{c:Call}{T T' et et' k i n:Nat}{x y:Operand}{ya:A}{l m r:List α}(h:app l m=some r)(E:QM P T et k)(a:∀w,(underlying T').run P w=.ok (.slice et') w)(b:Src P H ya k (m.map e))
  (f:l.length=n:=by exact rfl)(ho:o.op=.call c:=by exact rfl)(hc:c={callee:=.builtin .append,args:= #[x,y],argTypes:= #[T,T']}:=by exact rfl)(hx:opA env x=.osl i 0 n k:=by exact rfl)
  (hH:H[i]?=some (.row et k (l.map e)):=by exact rfl)(hy:opA env y=ya:=by exact rfl):
  OpH P o env H (.osl H.length 0 r.length k) (H.set i .dead++[.row et k (r.map e)]):=by
 obtain⟨d,rfl⟩:=QgG h;subst f;have:=Qga E a ho hc hx hH (by simp) hy b (by simpa using d) (gs:=(l++m).map e) (by rw[VA (by simp)];simp);simpa using this
theorem Qag{k:Nat}{l:List α}:Src P H (.rsl k (l.map e)) k (l.map e):=Src.rsl
theorem YI{i n k t:Nat}{l:List α}(hH:H[i]?=some (.row t k (l.map e)):=by exact rfl)(hn:l.length=n:=by exact rfl):Src P H (.osl i 0 n k) k (l.map e):=
 Src.osl hH (by subst hn;rw[List.drop_zero,VA (by simp)]) (by simp[hn])
theorem Y9{t n b T k f:Nat}{x y:Operand}{l l':List α}{i:Int}{v j:α}{vs:List A}{a:A}{off:Nat}(h:idx l i=some v)(hl:Qct l i j=some l')(m:∀w,(sizeOf t).run P w=.ok n w)(d:off=i.toNat*k+f)(g:splice (e v) f vs=e j)
  (p:o.op=.store t x y:=by exact rfl)(hx:opA env x=.ptr b off:=by exact rfl)(hH:H[b]?=some (.row T k (l.map e)):=by exact rfl)
  (hy:opA env y=a:=by exact rfl)(hk:Q0 a=true:=by exact rfl)(hv:QX a=vs:=by exact rfl)(hn:vs.length=n:=by exact rfl)(hp:vs.all Yb=true:=by exact rfl)(hd:Q6 vs=true:=by exact rfl)(hf:Nat.ble (f+n) k=true:=by exact rfl):
  OpU P o env H (H.set b (.row T k (l'.map e))):=by
 refine Qfj p hx hH m d (Qdc (Qap h).2) hy hk hv hn hp hd hf g ?_;unfold Qct at hl;cases q:(decide (0<=i)&&decide (i<(l.length:Int)))with
 |false=>rw[q]at hl;simp at hl
 |true=>rw[q]at hl;rw[<- XV hl,List.map_set]
end
def ZR(a:A)(v:Value):Prop:=∀ro σ w,VR ro σ w a v
def ZL(az:List A)(l:List Value):Prop:=∀ro σ w,LR ro σ w az l
theorem ZR.int{k:IntKind}{n:Int}:ZR (.int k n) (.int k n):=λ_ _ _=>rfl
theorem ZR.bool{b:Bool}:ZR (.bool b) (.bool b):=λ_ _ _=>rfl
theorem ZR.str:ZR (.str []) (.string ⟨#[]⟩):=λ_ _ _=>rfl
theorem ZR.rsl{α:Type}{k:Nat}{e:α->List A}:ZR (.rsl k (List.map e [])) (.slice none 0 0):=λ_ _ _=>⟨none,0,rfl,XR _,.inl rfl⟩
theorem ZR.nils:ZR .nils (.slice none 0 0):=λ_ _ _=>rfl
theorem ZR.nilp:ZR .nilp (.pointer none):=λ_ _ _=>rfl
theorem ZR.nilf:ZR .nilf .nilFunc:=λ_ _ _=>rfl
theorem ZR.nilm:ZR .nilm (.map none):=λ_ _ _=>rfl
theorem Qj3:ZR .nilif .nilIface:=λ_ _ _=>rfl
theorem ZL.nil:ZL [] []:=λ_ _ _=>rfl
theorem ZL.cons{a:A}{v:Value}{az:List A}{l:List Value}(h:ZR a v)(k:ZL az l):ZL (a::az) (v::l):=λro σ w=>⟨v,l,rfl,h ro σ w,k ro σ w⟩
theorem ZR.agg{az:List A}{l:List Value}(h:ZL az l):ZR (.agg az) (.agg l.toArray):=λro σ w=>⟨l,rfl,h ro σ w⟩
section
variable {P:Program} {o:Oper} {env:Env} {H:Qc}
theorem Qd0{t:Nat}{z:Value}{v:A}{cs:List A}(g:∀w,(zeroValue t).run P w=.ok z w)(h:ZR v z)(i:o.op=.alloc t:=by exact rfl)(hk:Q0 v=true:=by exact rfl)(hcs:QX v=cs:=by exact rfl)(hpl:cs.all Yb=true:=by exact rfl):
  OpH P o env H (.ptr H.length 0) (H++[.cells t cs]):=by
 intro j d σ N a w r;obtain⟨l,f,b⟩:=(h d σ w).cells hk;subst hcs;refine⟨.pointer (some ⟨w.heap.size,0,none⟩),w.alloc (.cells l.toArray t),d,[some w.heap.size],?_,⟨w.heap.size,?_,rfl⟩,r.sim.allocCells b (b.plain hpl),Qg.alloc _ r.sim.roLt r.sim.frLt⟩
 .generalize a.eval=ρ at*;have e:(newVar t z).run P w=.ok ⟨w.heap.size,0,none⟩ (w.alloc (.cells l.toArray t)):=by
   unfold newVar;rw[f];rfl
  simp only[execOp,i,Instr.alloc,Vi,g,Result.andThen,e];rfl
 .rw[<- r.sim.len];simp
theorem QdK{t:TypeId}{p q:Bool}{w:World}(a:∀w,(underlying t).run P w=.ok .bool w):(Op.equal t (.bool p) (.bool q)).run P w=.ok (p==q) w:=by
 have k:∀d,(Op.equalIn (d+1) t (.bool p) (.bool q)).run P w=.ok (p==q) w:=by
  intro d;simp[Op.equalIn,a,go_sem]
 exact k 9999
theorem QgQ{t u:TypeId}{x y:Operand}{p q:Bool}(d:∀w,(underlying t).run P w=.ok .bool w)(f:o.op=.binOp .eql t x y u:=by exact rfl)(hx:opA env x=.bool p:=by exact rfl)(hy:opA env y=.bool q:=by exact rfl):OpV P o env H (.bool (p==q)):=by
 intro h g σ N a w r;have e:=QaY r hx;have b:=QaY r hy;refine⟨_,?_,rfl⟩;generalize a.eval=ρ at*;simp[execOp,f,e,b,Go.binOp,eqGuard,QdK d,go_sem]
theorem QdY{t u:TypeId}{x y:Operand}{p q:Bool}(d:∀w,(underlying t).run P w=.ok .bool w)(f:o.op=.binOp .neq t x y u:=by exact rfl)(hx:opA env x=.bool p:=by exact rfl)(hy:opA env y=.bool q:=by exact rfl):OpV P o env H (.bool (p != q)):=by
 intro h g σ N a w r;have e:=QaY r hx;have b:=QaY r hy;refine⟨_,?_,rfl⟩;generalize a.eval=ρ at*;simp[execOp,f,e,b,Go.binOp,eqGuard,QdK d,go_sem,bne]
theorem QaK{t:TypeId}{x y:Operand}{s:List UInt8}{k:IntKind}{i:Int}{c:UInt8}(h:idx s i=some c)(a:∀w,(underlying t).run P w=.ok .string w)(b:o.op=.index t x y:=by exact rfl)(hx:opA env x=.str s:=by exact rfl)(hy:opA env y=.int k i:=by exact rfl):
  OpV P o env H (.int .u8 c.toNat):=QhV b a hx hy (Qap h).1 (Qap h).2
theorem Qjm{α:Type}{e:α->List A}{T et k:Nat}{x:Operand}{lo hi:Option Operand}{l r:List α}{a b:Int}(h:slc l a b=some r)(E1:∀w,(underlying T).run P w=.ok (.slice et) w)(E2:∀w,(sizeOf et).run P w=.ok k w)
  (g:lo=none/\a=0\/ ∃y,lo=some y/\opA env y=.int .i64 a)(i:hi=none/\b=l.length\/ ∃y,hi=some y/\opA env y=.int .i64 b)
  (m:o.op=.slice T x lo hi none:=by exact rfl)(hx:opA env x=.rsl k (l.map e):=by exact rfl):OpV P o env H (.rsl k (r.map e)):=by
 obtain⟨j,n,p,rfl⟩:=Qcr h;refine Qjl (l:=a.toNat) (h:=b.toNat) E1 E2 m hx ?_ ?_ (by omega) (by simp;omega) (by simp)
 .rcases g with⟨f,d⟩|⟨y,f,d⟩
  .exact .inl ⟨f,by rw[d];rfl⟩
  .exact .inr ⟨y,a,f,d,j,rfl⟩
 .rcases i with⟨f,d⟩|⟨y,f,d⟩
  .exact .inl ⟨f,by rw[d];simp⟩
  .exact .inr ⟨y,b,f,d,by omega,rfl⟩
theorem QhZ{c:Call}{t et i n k:Nat}{x:Operand}(a:∀w,(underlying t).run P w=.ok (.slice et) w)(b:o.op=.call c:=by exact rfl)(hc:c={callee:=.builtin .len,args:= #[x],argTypes:= #[t]}:=by exact rfl)
  (hx:opA env x=.osl i 0 n k:=by exact rfl):OpV P o env H (.int .i64 n):=Qf9 b hc a hx
end
def Qe(k:IntKind)(n:Int):List A:=[.int k n]
def Qbn(b:Bool):List A:=[.bool b]
def encS(s:List UInt8):List A:=[.str s]
def encL{α:Type}(k:Nat)(e:α->List A)(l:List α):List A:=[.rsl k (l.map e)]
end Go.Sw
namespace Go.Sw
theorem Qif{P:Program}{rd:Option Nat}{o:Oper}{a:Act}{next:Act->World->Prop}{Q:Exit->Act->World->Prop}{g:Result Next}
  (p:∀a' w',next a' w'->a'.defers=a.defers)(h:o.uponIn (WF rd) 0 P a next Q g):
  o.uponIn (WF rd) 0 P a (λa' w'=>next a' w'/\ ∃v,a'=a.put o.dst v) Q g:=by
 cases g with
 |ok n w'=>
  cases n with
  |value v=>exact⟨h,_,rfl⟩
  |skip=>exact⟨h,_,rfl⟩
  |defer d=>
   have:=congrArg List.length (p _ _ h);exfalso
   revert this
   cases o.dst<;>simp[Act.put]
  |enter f i=>
   exact⟨h.1,CallsIn.mono h.2 (λe j b=>by cases e<;>first|exact⟨b,_,rfl⟩|exact b)⟩
  |row r i=>exact⟨h.1,RowsIn.mono h.2 (λ_ _ b=>⟨b,_,rfl⟩)⟩
  |round l f m assign k=>exact⟨h.1,RoundIn.mono h.2 (λe j b=>by cases e<;>first|exact⟨b,_,rfl⟩|exact b)⟩
  |_=>exact h.elim
 |halt x w'=>cases x<;>first|exact h|exact h.elim
def YJ(e:Env)(H:Qc):Qv:=λx e' H'=>x=.normal/\e'=e/\H'=H
theorem YJ.mk{e:Env}{H:Qc}:YJ e H .normal e H:=⟨rfl,rfl,rfl⟩
inductive Sb (af bf ds:List Nat) (xs:List A) (env0:Env):Env->Prop
 |nil:Sb af bf ds xs env0 []
 |dep (j:Nat) {s:Nat} {a:A} {r:Env} (h1:af.contains j=true) (h2:ds[j]?=some s) (h3:xs[j]?=some a) (k:Sb af bf ds xs env0 r):Sb af bf ds xs env0 ((s,a)::r)
 |old {s:Nat} {a:A} {r:Env} (h1:ds.contains s=false) (h2:lk env0 s=a) (k:Sb af bf ds xs env0 r):Sb af bf ds xs env0 ((s,a)::r)
 |pre (j:Nat) {s:Nat} {a:A} {r:Env} (h1:bf.contains j=true) (h2:ds[j]?=some s) (h3:lk env0 s=a) (k:Sb af bf ds xs env0 r):Sb af bf ds xs env0 ((s,a)::r)
def Qi(o:Oper):List Nat:=(o.after.toList.filter (Region.binds .any)).map (·.on)
def QgF(l:List Oper)(i:Nat):List Nat:=(List.range l.length).filter λj=>((l[j]?).map Qi).getD [] |>.contains i
inductive Qd1 (P:Program) (N:Nat) (l:List Oper) (ds:List Nat) (xs:List A) (env0:Env) (i:Nat) (H H':Qc):Prop
 |mk (o:Oper) (e:Env) (d:Nat) (x:A) (ho:l[i]?=some o) (hd:o.dst=some d) (hx:xs[i]?=some x) (hs:Sb (Qi o) (QgF l i) ds xs env0 e)
   (h:WO P H.length N l.toArray [o] e H (YJ (up e d x) H')):Qd1 P N l ds xs env0 i H H'
theorem least{p:Nat->Prop}(d:∀i,p i\/ ¬p i):∀n,p n->∃i,i<=n/\p i/\ ∀j,j<i->¬p j:=by
 intro n
 induction n using Nat.strongRecOn with
 |ind n f=>
  intro h;by_cases q:∃j,j<n/\p j
  .obtain⟨j,b,a⟩:=q;obtain⟨i,k,g,e⟩:=f j b a;exact⟨i,by omega,g,e⟩
  .exact⟨n,XR _,h,λj b a=>q ⟨j,b,a⟩⟩
def onL(L:Array Bool)(i:Nat):Prop:=L[i]?=some true
theorem Qhg{L:Array Bool}{i:Nat}(hi:i<L.size)(b:Bool):L.getD i b=true↔onL L i:=by
 unfold onL;rw[Array.getD_eq_getD_getElem?,Array.getElem?_eq_getElem hi];simp
theorem QaG{l:List Oper}{L:Array Bool}(n:L.size=l.length){i:Nat}:
  i∈Region.ready .any l.toArray L↔ ∃o,l[i]?=some o/\ ¬onL L i/\ ∀j∈Qi o,onL L j:=by
 unfold Region.ready;simp only[Xd,List.mem_range,List.size_toArray,XU,Bool.not_eq_true',XE];have f:∀j,L.getD j false=true↔onL L j:=by
  intro j;unfold onL;rw[Array.getD_eq_getD_getElem?];cases L[j]? <;>simp
 constructor
 .rintro⟨b,d,a⟩;refine⟨l[i],XI b,?_,?_⟩
  .intro q;rw[<- Qhg (by omega) true]at q;rw[q]at d;cases d
  .rw[XI b]at a;simp only[Xh,Option.getD_some,Array.all_eq_true']at a;intro j k;unfold Qi at k;simp only[Xe,Xd,Array.mem_toList_iff]at k;obtain⟨e,⟨g,h⟩,rfl⟩:=k;have:=a e g;rw[h]at this;exact(f _).1 (by simpa using this)
 .rintro⟨o,b,d,a⟩;have m:i<l.length:=(XJ.1 b).1;refine⟨m,?_,?_⟩
  .rw[<- Qhg (by omega) true]at d;simpa using d
  .rw[b];simp only[Xh,Option.getD_some,Array.all_eq_true'];intro e g;cases h:Region.binds .any e with
   |false=>simp
   |true=>
    have:=(f _).2 (a e.on (by unfold Qi;simp only[Xe,Xd,Array.mem_toList_iff];exact⟨e,⟨g,h⟩,rfl⟩));simpa using this
theorem Y5{L:Array Bool}{i j:Nat}(hi:i<L.size):onL (L.setIfInBounds i true) j↔j=i\/onL L j:=by
 unfold onL;rw[Va];by_cases h:i=j
 .subst h;simp[hi]
 .have a:¬j=i:=λq=>h q.symm;simp[h,a]
def unl(L:Array Bool):Nat:=L.toList.countP (!·)
theorem QeS{L:Array Bool}{i:Nat}(hi:i<L.size)(h:¬onL L i):unl (L.setIfInBounds i true)+1=unl L:=by
 unfold unl;have a:i<L.toList.length:=by simpa using hi
 have b:L.toList[i]=false:=by
  unfold onL at h;rw[Array.getElem?_eq_getElem hi]at h;simpa using h
 rw[Array.toList_setIfInBounds,List.countP_set a];have:0<L.toList.countP (!·):=List.countP_pos_iff.2 ⟨L.toList[i],X9 a,by rw[b];rfl⟩;rw[b,Vo (by rfl),Vn (by decide)];omega
theorem Qg2{L:Array Bool}{i:Nat}(hi:i<L.size)(h:¬onL L i):0<unl L:=by have:=QeS hi h;omega
inductive QbP (l:List Oper) (m:Nat):Nat->Prop
 |one {o:Oper} {j:Nat} (ho:l[m]?=some o) (hj:j∈Qi o):QbP l m j
 |step {o:Oper} {i j:Nat} (h:QbP l m i) (ho:l[i]?=some o) (hj:j∈Qi o):QbP l m j
def Qdv(l:List Oper):Nat->List Nat->List Nat
 |0,S=>S
 |j+1,S=>Qdv l j (bif S.contains j then S++(match l[j]? with|some o=>Qi o|none=>[])else S)
theorem Qbz{l:List Oper}{m:Nat}:∀(n:Nat) (S:List Nat),(∀j∈S,QbP l m j)->∀j∈Qdv l n S,QbP l m j
 |0,S,h,j,hj=>h j hj
 |n+1,S,h,j,hj=>by
  refine Qbz n _ ?_ j hj;intro i hi;cases q:S.contains n with
  |false=>rw[q]at hi;exact h i hi
  |true=>
   rw[q]at hi;rcases Vv.1 hi with z|z
   .exact h i z
   .cases ho:l[n]? with
    |none=>rw[ho]at z;cases z
    |some o=>rw[ho]at z;exact .step (h n (by simpa using q)) ho z
def Qat(ds:List Nat)(xs:List A)(env0:Env):Env:=ds.zip xs++env0
theorem QjK{a:List Nat}{xs:List A}{env0:Env}(hl:a.length=xs.length)(s:Nat):
  (∃(j:Nat) (x:A),a[j]?=some s/\xs[j]?=some x/\lk (Qat a xs env0) s=x)\/(a.contains s=false/\lk (Qat a xs env0) s=lk env0 s):=by
 unfold Qat
 induction a generalizing xs with
 |nil=>right;simp
 |cons d a i=>
  cases xs with
  |nil=>simp at hl
  |cons x xs=>
   simp only[XW,Nat.add_right_cancel_iff]at hl;simp only[List.zip_cons_cons,VC,lk];cases h:Nat.beq s d with
   |true=>
    obtain rfl:=XO h;left;exact⟨0,x,rfl,rfl,by simp⟩
   |false=>
    have f:s≠d:=λq=>by subst q;simp[Vx]at h
    rcases i hl with⟨j,y,b,e,g⟩|⟨b,e⟩
    .left;exact⟨j+1,y,by simpa using b,by simpa using e,by simpa using g⟩
    .right;refine⟨?_,by simpa using e⟩;simp only[List.contains_cons,b,Bool.or_false];simpa using f
def drawChk.nodupB:List Nat->Bool
 |[]=>true
 |x::r=> !r.contains x&&drawChk.nodupB r
def drawChk.goB(l:List Oper)(m:Nat):Nat->List Oper->Bool
 |_,[]=>true
 |i,o::r=>(Qi o).all (λj=>Nat.blt j i)&&(bif Nat.beq i m then(List.range m).all (λj=>(Qdv l m (Qi o)).contains j)else bif Nat.blt m i then(Qi o).contains (i-1)else true)&&drawChk.goB l m (i+1) r
def drawChk.loB(m k:Nat)(los:List Nat)(hs:List Bool):Nat->List Oper->Bool
 |_,[]=>(List.range k).all λj=>(List.range m).any λi=>hs.getD i false&&Nat.beq (los.getD i 0) j
 |i,o::r=>(bif Nat.blt i m then
   (Nat.beq (los.getD i 0) 0||(Qi o).any (λj=>Nat.blt j m&&Nat.ble (los.getD i 0) (los.getD j 0+(if hs.getD j false then 1 else 0))))
   &&(!hs.getD i false||(Nat.blt (los.getD i 0) k&&(List.range m).all (λj=> !hs.getD j false|| !Nat.beq (los.getD i 0) (los.getD j 0)||Nat.beq i j)))
  else true)&&drawChk.loB m k los hs (i+1) r
def drawChk(l:List Oper)(m k N:Nat)(ds los:List Nat)(hs:List Bool):Bool:=
 Nat.ble m l.length&&(ds.length==m)&&(l.take m).map (·.dst)==ds.map some&&ds.all (λd=>Nat.blt d N)&&drawChk.nodupB ds
 &&drawChk.goB l m 0 l&&(drawChk.loB m k los hs 0 l)
theorem QcP{e:List Nat}(h:drawChk.nodupB e=true):∀(i j d:Nat),e[i]?=some d->e[j]?=some d->i=j:=by
 induction e with
 |nil=>intro i j d a;simp at a
 |cons x r g=>
  simp only[drawChk.nodupB,XU,Bool.not_eq_true']at h;have f:∀(i:Nat),r[i]? ≠some x:=by
   intro i q;have:r.contains x=true:=by simpa using Vz q
   rw[this]at h;cases h.1
  intro i j d a b;cases i with
  |zero=>
   cases j with
   |zero=>rfl
   |succ j=>simp at a b;subst a;exact absurd b (f j)
  |succ i=>
   cases j with
   |zero=>simp at a b;subst b;exact absurd a (f i)
   |succ j=>simp at a b;rw[g h.2 i j d a b]
theorem QfI{l:List Oper}{m:Nat}:∀(r:List Oper) (b:Nat),drawChk.goB l m b r=true->∀(i:Nat) (o:Oper),r[i]?=some o->
  (∀j∈Qi o,j<b+i)/\(b+i=m->∀j,j<m->j∈Qdv l m (Qi o))/\(m<b+i->b+i-1∈Qi o):=by
 intro r
 induction r with
 |nil=>intro b h i o d;simp at d
 |cons x r p=>
  intro b h i o d;simp only[drawChk.goB,XU]at h;cases i with
  |zero=>
   simp at d;subst d;refine⟨λj g=>?_,λk j g=>?_,λk=>?_⟩
   .have:=Xq.1 h.1.1 j g;simpa using this
   .have a:=h.1.2;have f:Nat.beq b m=true:=by subst k;simp
    rw[f]at a;simp only[Vk]at a;have:=Xq.1 a j (List.mem_range.2 g);simpa using this
   .have a:=h.1.2;have f:Nat.beq b m=false:=by
     cases q:Nat.beq b m with
     |false=>rfl
     |true=>have:=XO q;omega
    have n:Nat.blt m b=true:=by simpa using k
    rw[f,n]at a;simpa using a
  |succ i=>
   have:=p (b+1) h.2 i o (by simpa using d);have e:b+1+i=b+(i+1):=by omega
   rw[e]at this;exact this
inductive Ob (P:Program) (N:Nat) (l:List Oper) (ds:List Nat) (xs:List A) (env0:Env):Nat->List (List (Qc×Qc))->Prop
 |nil {i:Nat}:Ob P N l ds xs env0 i []
 |cons {i:Nat} {s:List (Qc×Qc)} {r:List (List (Qc×Qc))} (h:∀p∈s,Qd1 P N l ds xs env0 i p.1 p.2) (k:Ob P N l ds xs env0 (i+1) r):Ob P N l ds xs env0 i (s::r)
theorem Ob.get{P:Program}{N:Nat}{l:List Oper}{f:List Nat}{xs:List A}{env0:Env}{b:Nat}{d:List (List (Qc×Qc))}(h:Ob P N l f xs env0 b d):
  ∀(i:Nat) (s:List (Qc×Qc)),d[i]?=some s->∀p∈s,Qd1 P N l f xs env0 (b+i) p.1 p.2:=by
 induction h with
 |nil=>intro i s h;simp at h
 | @cons b1 s1 r1 h _ ih=>
  intro i s a p e;cases i with
  |zero=>simp at a;subst a;exact h p e
  |succ i=>
   have:=ih i s (by simpa using a) p e
   rwa [show b1+1+i=b1+(i+1)by omega]at this
theorem Ob.st0{P:Program}{N:Nat}{l:List Oper}{a:List Nat}{xs:List A}{env0:Env}{i:Nat}:∀p∈([]:List (Qc×Qc)),Qd1 P N l a xs env0 i p.1 p.2:=by
 intro p b;cases b
theorem Ob.stC{P:Program}{N:Nat}{l:List Oper}{a:List Nat}{xs:List A}{env0:Env}{i:Nat}{H H':Qc}{r:List (Qc×Qc)}(h:Qd1 P N l a xs env0 i H H')
  (k:∀p∈r,Qd1 P N l a xs env0 i p.1 p.2):∀p∈(H,H')::r,Qd1 P N l a xs env0 i p.1 p.2:=by
 intro p b;rcases X2.1 b with rfl|q
 .exact h
 .exact k p q
theorem Qa5.nil{H:Qc}:Qa5 H [] []:=trivial
theorem Qa5.cons{H:Qc}{az d f:List A}{a b:A}(e:az=a::d)(h:Look H a b)(k:Qa5 H d f):Qa5 H az (b::f):=by subst e;exact⟨h,k⟩
section
variable {P:Program} {o:Oper} {env:Env} {H:Qc} {α:Type} {e:α->List A}
end
end Go.Sw
namespace Go.Sw
inductive PL (P:Program):List Field->List (Nat×Nat)->Prop
 |nil:PL P [] []
 |cons {f:Field} {n:Nat} {fs:List Field} {pl:List (Nat×Nat)} (h:∀w,(sizeOf f.type).run P w=.ok n w) (k:PL P fs pl):PL P (f::fs) ((f.offset,n)::pl)
theorem PL.run{P:Program}{fs:List Field}{a:List (Nat×Nat)}(h:PL P fs a):∀w,(fs.mapM λf=>(do pure (f.offset, <- sizeOf f.type):Sem (Nat×Nat))).run P w=.ok a w:=by
 induction h with
 |nil=>intro w;rfl
 |cons h _ ih=>
  intro w;rw[List.mapM_cons];simp only[Vi,h,Result.andThen,Vj,ih]
structure Qw (P:Program) (t:TypeId) (pl:List (Nat×Nat)):Prop where
 un:∃fs:List Field,(∀w,(underlying t).run P w=.ok (.struct fs.toArray) w)/\PL P fs pl
section
variable {P:Program} {o:Oper} {env:Env} {H:Qc}
def QcT(env:Env)(pl:List (Nat×Nat)):List A->List (Nat×Operand)->Option (List A)
 |cs,[]=>some cs
 |cs,(i,x)::r=>match pl[i]? with
  |none=>none
  |some (off,size)=>bif Q0 (opA env x)&&Nat.beq (QX (opA env x)).length size&&Nat.ble (off+size) cs.length then QcT env pl (splice cs off (QX (opA env x))) r else none
theorem QdI{fr ro:Nat->Prop}{σ:Sig}{N:Nat}{a:Act}{w:World}(r:Rel fr ro σ H env N a w){b:List (Nat×Nat)}:∀(parts:List (Nat×Operand)) (cs:List A) (l:List Value) (cs':List A),
  LR ro σ w cs l->QcT env b cs parts=some cs'->
  ∃l',Instr.fill (b.toArray[·]?) l.toArray (parts.map λp=>(p.1,a.eval p.2))=some l'.toArray/\LR ro σ w cs' l'
 |[],cs,l,cs',h,q=>by
  cases q;exact⟨l,rfl,h⟩
 |(i,x)::rest,cs,l,cs',h,q=>by
  unfold QcT at q;cases hp:b[i]? with
  |none=>rw[hp]at q;cases q
  |some p=>
   obtain⟨off,size⟩:=p;rw[hp]at q;simp only at q;cases hc:(Q0 (opA env x)&&Nat.beq (QX (opA env x)).length size&&Nat.ble (off+size) cs.length)with
   |false=>rw[hc]at q;cases q
   |true=>
    rw[hc]at q;simp only[XU]at hc;obtain⟨⟨c1,c2⟩,c3⟩:=hc;obtain⟨m,q1,q2⟩:=(Qf r x).cells c1;have hm:m.length=size:=by rw[q2.length];exact XO c2
    have f:l.length=cs.length:=h.length;obtain⟨l',d,e⟩:=QdI r rest _ (splice l off m) cs' (h.splice off q2) q;refine⟨l',?_,e⟩;rw[Vf,Qew (off:=off) (size:=size) (by simpa using hp) q1 hm (by rw[f];exact XP c3)];exact d
theorem OpV.build{t:TypeId}{z:Value}{zs cs:List A}{d:List (Nat×Nat)}{parts:List (Nat×Operand)}(j:∀w,(zeroValue t).run P w=.ok z w)(h:ZR (.agg zs) z)(f:Qw P t d)
  (q:o.op=.build t parts.toArray:=by exact rfl)(hf:QcT env d zs parts=some cs:=by exact rfl):OpV P o env H (.agg cs):=by
 intro u m σ N a w r;obtain⟨s,g,i⟩:=f.un;obtain⟨l,rfl,k⟩:=h m σ w;obtain⟨b,n,p⟩:=QdI r parts zs l cs k hf;refine⟨.agg b.toArray,?_,b,rfl,p⟩;generalize hρ:a.eval=ρ at*;have e:=i.run w;simp only[execOp,q,Instr.build,Vi,j,Result.andThen,g,XG,List.mapM_toArray,Sem.run_map,e,Value.cells,n,Vj]
end
section
variable {P:Program} {o:Oper} {env:Env} {H:Qc}
theorem Yj{x:Operand}{a:A}(g:o.op=.nilCheck x)(i:opA env x=a:=by exact rfl)(hk:(match a with|.ptr _ _=>true|.rp _=>true|_=>false)=true:=by exact rfl):OpV P o env H a:=by
 intro k j σ N ac w r;have h:=Qf r x;rw[i]at h;cases a<;>first|(cases hk;done)|skip
 .obtain⟨b,d,e⟩:=h;refine⟨_,?_,b,d,rfl⟩;generalize ac.eval=ρ at*;simp[execOp,g,e,go_sem]
 .obtain⟨b,f,d,e⟩:=h;refine⟨_,?_,b,f,rfl,e⟩;generalize ac.eval=ρ at*;simp[execOp,g,d,go_sem]
end
mutual
def FzA(i k:Nat)(es:List (List A)):A->A->Prop
 |.agg az,b=>∃bs,b=.agg bs/\FzL i k es az bs
 |.fn f x c,b=>∃x' c',b=.fn f x' c'/\FzL i k es x x'/\FzL i k es c c'
 |.iface t a,b=>∃a',b=.iface t a'/\FzA i k es a a'
 |.tup az,b=>∃bs,b=.tup bs/\FzL i k es az bs
 |.osl j o n k',b=>b=.osl j o n k'\/(j=i/\o=0/\k'=k/\n=es.length/\b=.rsl k es)
 |.nils,b=>b=.nils\/ ∃k',b=.rsl k' []
 |a,b=>b=a
def FzL(i k:Nat)(es:List (List A)):List A->List A->Prop
 |[],b=>b=[]
 |a::az,b=>∃a' as',b=a'::as'/\FzA i k es a a'/\FzL i k es az as'
end
mutual
theorem FzA.refl{i k:Nat}{es:List (List A)}:∀a:A,FzA i k es a a
 |.agg az=>⟨az,rfl,FzL.refl az⟩
 |.fn _ x c=>⟨x,c,rfl,FzL.refl x,FzL.refl c⟩
 |.iface _ a=>⟨a,rfl,FzA.refl a⟩
 |.tup az=>⟨az,rfl,FzL.refl az⟩
 |.osl _ _ _ _=>.inl rfl
 |.nils=>.inl rfl
 |.any=>rfl
 |.bool _=>rfl
 |.int _ _=>rfl
 |.str _=>rfl
 |.nilp=>rfl
 |.ptr _ _=>rfl
 |.rp _=>rfl
 |.rsl _ _=>rfl
 |.nilf=>rfl
 |.nilif=>rfl
 |.map _=>rfl
 |.nilm=>rfl
theorem FzL.refl{i k:Nat}{es:List (List A)}:∀az:List A,FzL i k es az az
 |[]=>rfl
 |a::az=>⟨a,az,rfl,FzA.refl a,FzL.refl az⟩
end
theorem FzA.agg{i k:Nat}{es:List (List A)}{az bs:List A}(h:FzL i k es az bs):FzA i k es (.agg az) (.agg bs):=⟨bs,rfl,h⟩
theorem FzA.tup{i k:Nat}{es:List (List A)}{az bs:List A}(h:FzL i k es az bs):FzA i k es (.tup az) (.tup bs):=⟨bs,rfl,h⟩
theorem FzA.iface{i k:Nat}{es:List (List A)}{t:Nat}{a b:A}(h:FzA i k es a b):FzA i k es (.iface t a) (.iface t b):=⟨b,rfl,h⟩
theorem FzA.own{i k n:Nat}{es:List (List A)}(hn:n=es.length):FzA i k es (.osl i 0 n k) (.rsl k es):=.inr ⟨rfl,rfl,rfl,hn,rfl⟩
theorem FzA.nil{i k k':Nat}{es:List (List A)}:FzA i k es .nils (.rsl k' []):=.inr ⟨k',rfl⟩
theorem FzL.cons{i k:Nat}{es:List (List A)}{a b:A}{az bs:List A}(h:FzA i k es a b)(q:FzL i k es az bs):FzL i k es (a::az) (b::bs):=⟨b,bs,rfl,h,q⟩
mutual
theorem QgY{i k:Nat}{es:List (List A)}{ro ro':Nat->Prop}{σ:Sig}{w:World}(ext:Ext ro σ w ro' σ w)
  (hf:∀v,VR ro σ w (.osl i 0 es.length k) v->VR ro' σ w (.rsl k es) v):∀(a b:A) (v:Value),FzA i k es a b->VR ro σ w a v->VR ro' σ w b v
 |.agg az,b,v,h,q=>by
  obtain⟨bs,rfl,h⟩:=h;obtain⟨l,rfl,q⟩:=q;exact⟨l,rfl,QcJ ext hf az bs l h q⟩
 |.fn f x c,b,v,h,q=>by
  obtain⟨x',c',rfl,h1,h2⟩:=h;obtain⟨l,l',rfl,q1,q2⟩:=q;exact⟨l,l',rfl,QcJ ext hf x x' l h1 q1,QcJ ext hf c c' l' h2 q2⟩
 |.iface t a,b,v,h,q=>by
  obtain⟨a',rfl,h⟩:=h;obtain⟨x,rfl,q⟩:=q;exact⟨x,rfl,QgY ext hf a a' x h q⟩
 |.tup az,b,v,h,q=>by
  obtain⟨bs,rfl,h⟩:=h;obtain⟨l,rfl,q⟩:=q;exact⟨l,rfl,QcJ ext hf az bs l h q⟩
 |.osl j o n k',b,v,h,q=>by
  rcases h with rfl|⟨rfl,rfl,rfl,rfl,rfl⟩
  .exact q.mono ext
  .exact hf v q
 |.nils,b,v,h,q=>by
  rcases h with rfl|⟨k',rfl⟩
  .exact q
  .obtain rfl:v=.slice none 0 0:=q;exact⟨none,0,rfl,XR _,.inl rfl⟩
 |.any,b,v,h,q=>by obtain rfl:b=_:=h;trivial
 |.bool _,b,v,h,q=>by obtain rfl:b=_:=h;exact q
 |.int _ _,b,v,h,q=>by obtain rfl:b=_:=h;exact q
 |.str _,b,v,h,q=>by obtain rfl:b=_:=h;exact q
 |.nilp,b,v,h,q=>by obtain rfl:b=_:=h;exact q
 |.ptr _ _,b,v,h,q=>by obtain rfl:b=_:=h;exact q.mono ext
 |.rp _,b,v,h,q=>by obtain rfl:b=_:=h;exact q.mono ext
 |.rsl _ _,b,v,h,q=>by obtain rfl:b=_:=h;exact q.mono ext
 |.nilf,b,v,h,q=>by obtain rfl:b=_:=h;exact q
 |.nilif,b,v,h,q=>by obtain rfl:b=_:=h;exact q
 |.map _,b,v,h,q=>by obtain rfl:b=_:=h;exact q.mono ext
 |.nilm,b,v,h,q=>by obtain rfl:b=_:=h;exact q
theorem QcJ{i k:Nat}{es:List (List A)}{ro ro':Nat->Prop}{σ:Sig}{w:World}(ext:Ext ro σ w ro' σ w)
  (hf:∀v,VR ro σ w (.osl i 0 es.length k) v->VR ro' σ w (.rsl k es) v):∀(az bs:List A) (l:List Value),FzL i k es az bs->LR ro σ w az l->LR ro' σ w bs l
 |[],bs,l,h,q=>by obtain rfl:bs=[]:=h;exact q
 |a::az,bs,l,h,q=>by
  obtain⟨a',as',rfl,h1,h2⟩:=h;obtain⟨v,l',rfl,q1,q2⟩:=q;exact⟨v,l',rfl,QgY ext hf a a' v h1 q1,QcJ ext hf az as' l' h2 q2⟩
end
def FzB(i k:Nat)(es:List (List A))(x y:Blk):Prop:=y=x\/ ∃t cs cs',x=.cells t cs/\y=.cells t cs'/\FzL i k es cs cs'
def FzH(i k:Nat)(es:List (List A)):Qc->Qc->Prop
 |[],h=>h=[]
 |x::r,h=>∃y r',h=y::r'/\FzB i k es x y/\FzH i k es r r'
def Qjr(i k:Nat)(es:List (List A))(env:Env):Env->Prop
 |[]=>True
 |(s,a)::r=>FzA i k es (lk env s) a/\Qjr i k es env r
theorem FzH.nil{i k:Nat}{es:List (List A)}:FzH i k es [] []:=rfl
theorem FzH.keep{i k:Nat}{es:List (List A)}{x:Blk}{r r':Qc}(h:FzH i k es r r'):FzH i k es (x::r) (x::r'):=⟨x,r',rfl,.inl rfl,h⟩
theorem FzH.cells{i k t:Nat}{es:List (List A)}{cs cs':List A}{r r':Qc}(q:FzL i k es cs cs')(h:FzH i k es r r'):FzH i k es (.cells t cs::r) (.cells t cs'::r'):=⟨_,r',rfl,.inr ⟨t,cs,cs',rfl,rfl,q⟩,h⟩
theorem FzH.get{i k:Nat}{es:List (List A)}:∀{H H':Qc},FzH i k es H H'->∀(j:Nat) (y:Blk),H'[j]?=some y->∃x,H[j]?=some x/\FzB i k es x y
 |[],_,h,j,y,q=>by obtain rfl:_=[]:=h;simp at q
 |x::r,_,h,j,y,q=>by
  obtain⟨y',r',rfl,h1,h2⟩:=h;cases j with
  |zero=>simp at q;subst q;exact⟨x,rfl,h1⟩
  |succ j=>simp at q;obtain⟨x',p1,p2⟩:=h2.get j y q;exact⟨x',by simpa using p1,p2⟩
theorem FzH.len{i k:Nat}{es:List (List A)}:∀{H H':Qc},FzH i k es H H'->H'.length=H.length
 |[],_,h=>by obtain rfl:_=[]:=h;rfl
 |x::r,_,h=>by obtain⟨y',r',rfl,h1,h2⟩:=h;simp[h2.len]
theorem FzB.live{i k:Nat}{es:List (List A)}{x y:Blk}(h:FzB i k es x y):y.live=x.live:=by
 rcases h with rfl|⟨t,b,a,rfl,rfl,_⟩<;>rfl
theorem Y1{env:Env}{H H':Qc}{h0 i k t:Nat}{es:List (List A)}(ov:Env)(hi:Nat.ble h0 i=true)(hH:H[i]?=some (.row t k es))(R:Qjr i k es env ov)(L:FzH i k es (H.set i .dead) H'):Le h0 env H (ov++env) H':=by
 intro fr O σ N a w r
 let ro':Nat->Prop:=λb=>O b\/σ[i]?=some (some b)
 have u:∀b,σ[i]?=some (some b)->b<w.heap.size/\ ¬O b/\ ¬fr b:=λb h=>r.sim.own i b _ h hH rfl;have ext:Ext O σ w ro' σ w:=⟨λ_ q=>.inl q,λ_ _=>rfl,λ_ _ q=>q,λ_ _ q=>q⟩;have hf:∀v,VR O σ w (.osl i 0 es.length k) v->VR ro' σ w (.rsl k es) v:=by
  intro v h;rcases h with⟨h0,h⟩|⟨b,p,J,t',m,g,h,n,B,h4,h5⟩
  .have:es=[]:=VB.1 h0;subst this;exact⟨none,0,h,XR _,.inl rfl⟩
  .refine⟨_,J,h,B,?_⟩;by_cases he:es=[]
   .exact .inl he
   .right;have hc:0<J:=Vb (List.length_pos_iff.2 he) B;obtain rfl:=n hc;obtain⟨l,Q,V⟩:=r.sim.blk i _ _ g hH;refine⟨b,0,by simp,.inr g,?_⟩;have:=Yz (pre:=[]) (by simpa using Q) V;exact this.keep ⟨λ_ q=>.inl q,λ_ _=>rfl,λ_ _ q=>q,λ_ _ q=>q⟩ rfl
 have f:∀(j:Nat) (y:Blk),H'[j]?=some y->y≠ .dead->j≠i/\ ∃x,H[j]?=some x/\FzB i k es x y:=by
  intro j y h P;obtain⟨x,g,n⟩:=L.get j y h;by_cases e:j=i
  .subst e;rw[Xb]at g;simp only[if_true]at g;split at g
   .cases g;rcases n with rfl|⟨_,_,_,q,_,_⟩
    .exact absurd rfl P
    .cases q
   .simp at g
  .rw[XN (λq=>e q.symm)]at g;exact⟨e,x,g,n⟩
 refine⟨ro',σ,⟨⟨by rw[L.len,XZ];exact r.sim.len,r.sim.roOk.to (λ_ q=>.inl q) (λ_ _=>rfl) ?_,r.sim.frLt,?_,?_,?_,?_,r.sim.hidTo (· = ·) QP (XR _) (λj b x c Q V q3 q4=>q4.elim id λq=>((r.sim.hid j b x c Q V q3).ne i c _ q hH rfl rfl).elim) (λ_ _ _ _ _ _ _ q=>q) λj d y W T g3=>.inl ?_⟩,?_,r.size,r.defers⟩,λ_ q=>.inl q,rfl⟩
 rotate_left 5
 .obtain⟨_,x,g4,g5⟩:=f j y T (Qdj g3);exact⟨j,x,rfl,W,g4,λz=>by rw[<- g5.live];exact z,λc q=>by rcases g5 with rfl|⟨t,cs,F,rfl,rfl,_⟩;exact q;exact q.elim⟩
 rotate_left 1
 .rintro b (q|q)
  .exact r.sim.roLt b q
  .exact(u b q).1
 .rintro b (q|q)
  .exact r.sim.roFr b q
  .exact(u b q).2.2
 .intro j b v g n B;obtain⟨e,x,n,E⟩:=f j v n (Qas B);have hx:x.live=true:=by rw[<- E.live];exact B
  obtain⟨G,M,p3⟩:=r.sim.own j b x g n hx;refine⟨G,?_,p3⟩;rintro(q|q)
  .exact M q
  .exact e (r.sim.inj j i b x _ g q n hH hx rfl)
 .intro j j' b v v' g n B h4 h5 h6;obtain⟨_,x,G,M⟩:=f j v B (Qas h5);obtain⟨_,x',X,Y⟩:=f j' v' h4 (Qas h6);exact r.sim.inj j j' b x x' g n G X (by rw[<- M.live];exact h5) (by rw[<- Y.live];exact h6)
 .intro j s v g n;by_cases P:v≠ .dead
  .obtain⟨_,x,G,M⟩:=f j v n P;have E:=r.sim.blk j s x g G;rcases M with rfl|⟨t,cs,F,rfl,rfl,q⟩
   .exact E.keep ext (λ_ _ _=>rfl) (λ_ _ _ _=>rfl)
   .cases s with
    |none=>exact E.elim
    |some b=>
     obtain⟨l,e1,e2,e3⟩:=E;exact⟨l,e1,QcJ ext hf cs F l q e2,e3⟩
  .obtain rfl:v=.dead:=Classical.not_not.1 P;trivial
 .intro s
  induction ov with
  |nil=>exact(r.env s).mono ext
  |cons p ov ih=>
   obtain⟨s1,a1⟩:=p;obtain⟨W,T⟩:=R;simp only[VC,lk];cases q:Nat.beq s s1 with
   |true=>
    obtain rfl:=XO q;exact QgY ext hf _ _ _ W (r.env s)
   |false=>exact ih T
theorem Qjr.nil{i k:Nat}{es:List (List A)}{env:Env}:Qjr i k es env []:=trivial
theorem Qjr.cons{i k s:Nat}{es:List (List A)}{env:Env}{a b:A}{r:Env}(h:lk env s=a)(q:FzA i k es a b)(g:Qjr i k es env r):Qjr i k es env ((s,b)::r):=⟨h▸q,g⟩
def Qck(P:Program)(env:Env)(H:Qc)(l:ResultVar)(x:A):Prop:=
 ∀fr ro σ N a w,Rel fr ro σ H env N a w->∃v,((match l with
  |.tmp t=>pure (a.tmps.getD t undef)
  |.cell b t=>do loadVar t (<- asAddr (a.tmps.getD b undef)):Sem Value)).run P w=.ok v w/\VR ro σ w x v
def QgL(P:Program)(env:Env)(H:Qc):List ResultVar->List A->Prop
 |[],xs=>xs=[]
 |l::ls,xs=>∃x xs',xs=x::xs'/\Qck P env H l x/\QgL P env H ls xs'
section
variable {P:Program} {fn:Func} {env:Env} {H:Qc}
theorem Qck.tmp{t:Nat}{x:A}(b:lk env t=x:=by exact rfl):Qck P env H (.tmp t) x:=
 λfr ro σ N a w r=>⟨a.tmps.getD t undef,rfl,b▸r.env t⟩
theorem Qck.cell{b t:Nat}{p x:A}{cs:List A}(e:∀w,(isAgg t).run P w=.ok false w)(g:Pts H p (x::cs))(k:lk env b=p:=by exact rfl):Qck P env H (.cell b t) x:=by
 intro l j σ N a w r;have d:=r.env b;rw[k]at d;obtain⟨n,m,h,⟨y,f,_,i⟩,_⟩:=g l j σ w _ r.sim d;refine⟨y,?_,i⟩;simp only[h];simp[asAddr,loadVar,e,Go.load,Sem.run,f,go_sem]
theorem Qc0{b t n:Nat}{p:A}{cs:List A}(f:∀w,(isAgg t).run P w=.ok true w)(j:∀w,(sizeOf t).run P w=.ok n w)(i:Pts H p cs)(q:lk env b=p:=by exact rfl)(hl:(cs.take n).length=n:=by exact rfl):
  Qck P env H (.cell b t) (.agg (cs.take n)):=by
 intro s m σ N a w r;have e:=r.env b;rw[q]at e;obtain⟨u,off,k,g⟩:=i s m σ w _ r.sim e;obtain⟨l,h,_,d⟩:=Yo (P:=P) (cs:=cs.take n) (off:=off) 0 (by simpa using g.take n);have d:=d w #[] rfl;rw[hl]at d;refine⟨.agg l.toArray,?_,l,rfl,h⟩;simp only[k];simp[asAddr,loadVar,f,j,loadCells,d,go_sem]
theorem Qk{b t n i T:Nat}{cs:List A}(d:∀w,(isAgg t).run P w=.ok true w)(e:∀w,(sizeOf t).run P w=.ok n w)(a:lk env b=.ptr i 0)(hH:H[i]?=some (.cells T cs))(hl:cs.length=n):
  Qck P env H (.cell b t) (.agg cs):=by
 have:=Qc0 (b:=b) (p:=.ptr i 0) d e (Pts.cells (off:=0) hH rfl) a (by subst hl;simp);subst hl;simpa using this
theorem Qan{b t i T:Nat}{x:A}(ha:∀w,(isAgg t).run P w=.ok false w)(hx:lk env b=.ptr i 0)(hH:H[i]?=some (.cells T [x])):Qck P env H (.cell b t) x:=
 Qck.cell (p:=.ptr i 0) (cs:=[]) ha (Pts.cells (off:=0) hH rfl) hx
theorem QgL.nil:QgL P env H [] []:=rfl
theorem QgL.cons{l:ResultVar}{ls:List ResultVar}{x:A}{xs:List A}(h:Qck P env H l x)(k:QgL P env H ls xs):QgL P env H (l::ls) (x::xs):=⟨x,xs,rfl,h,k⟩
theorem QgL.run{fr ro:Nat->Prop}{σ:Sig}{N:Nat}{a:Act}{w:World}(r:Rel fr ro σ H env N a w):∀{ls:List ResultVar} {xs:List A},QgL P env H ls xs->
  ∃vs:List Value,(ls.mapM λl=>(match l with
   |.tmp t=>pure (a.tmps.getD t undef)
   |.cell b t=>do loadVar t (<- asAddr (a.tmps.getD b undef)):Sem Value)).run P w=.ok vs w/\LR ro σ w xs vs
 |[],_,h=>by obtain rfl:_=[]:=h;exact⟨[],rfl,rfl⟩
 |l::ls,_,h=>by
  obtain⟨x,xs,rfl,h1,h2⟩:=h;obtain⟨v,e1,e2⟩:=h1 fr ro σ N a w r;obtain⟨vs,e3,e4⟩:=QgL.run r h2;refine⟨v::vs,?_,v,vs,rfl,e2,e4⟩;rw[List.mapM_cons];simp only[Vi,e1,Result.andThen,e3,Vj]
theorem Qo{ls:List ResultVar}{xs:List A}(h:fn.results=ls.toArray)(e:Nat.beq ls.length 1=false)(k:QgL P env H ls xs):QbO P fn env H (.tup xs):=by
 intro n m σ N a w r;obtain⟨vs,j,d⟩:=k.run r;have b:¬vs.length=1:=by
  have:∀{ls:List ResultVar} {xs:List A},QgL P env H ls xs->xs.length=ls.length:=by
   intro ls
   induction ls with
   |nil=>intro xs h;obtain rfl:xs=[]:=h;rfl
   |cons l ls f=>intro xs h;obtain⟨x,g,rfl,_,i⟩:=h;simp[f i]
  rw[d.length,this k];intro q;rw[q]at e;cases e
 refine⟨.tuple vs.toArray,?_,vs,rfl,d⟩;unfold results;rw[h];rw[List.mapM_toArray,Vi,Sem.run_map]
 erw [j]
 simp[Result.andThen,b,Vj]
theorem Yp{l:ResultVar}{x:A}(h:fn.results= #[l])(k:Qck P env H l x):QbO P fn env H x:=by
 intro e f σ N a w r;obtain⟨vs,d,b⟩:=(QgL.cons k QgL.nil).run r;obtain⟨v,_,rfl,b,rfl⟩:=b;refine⟨v,?_,b⟩;unfold results;rw[h,show #[l]=[l].toArray from rfl];rw[List.mapM_toArray,Vi,Sem.run_map]
 erw [d]
 rfl
end
end Go.Sw
namespace Go.Sw
mutual
def Qbr:A->Bool
 |.bool _=>true
 |.int _ _=>true
 |.str _=>true
 |.agg cs=>Qdp cs
 |_=>false
def Qdp:List A->Bool
 |[]=>true
 |a::r=>Qbr a&&Qdp r
end
mutual
def QB:A->Value
 |.bool b=>.bool b
 |.int k n=>.int k n
 |.str s=>.string ⟨s.toArray⟩
 |.agg cs=>.agg (YA cs).toArray
 |_=>.bool false
def YA:List A->List Value
 |[]=>[]
 |a::r=>QB a::YA r
end
mutual
theorem VR.val{ro:Nat->Prop}{σ:Sig}{w:World}:∀{a:A} {v:Value},Qbr a=true->VR ro σ w a v->v=QB a
 |.bool _,_,_,h=>h
 |.int _ _,_,_,h=>h
 |.str _,_,_,h=>h
 |.agg cs,v,hs,h=>by
  obtain⟨l,rfl,h⟩:=h;rw[QB,LR.val hs h]
theorem LR.val{ro:Nat->Prop}{σ:Sig}{w:World}:∀{az:List A} {l:List Value},Qdp az=true->LR ro σ w az l->l=YA az
 |[],l,_,h=>h
 |a::r,l,hs,h=>by
  obtain⟨v,l',rfl,h1,h2⟩:=h;simp only[Qdp,XU]at hs;rw[YA,VR.val hs.1 h1,LR.val hs.2 h2]
end
mutual
theorem Qbv{ro:Nat->Prop}{σ:Sig}{w:World}:∀{a:A},Qbr a=true->VR ro σ w a (QB a)
 |.bool _,_=>rfl
 |.int _ _,_=>rfl
 |.str _,_=>rfl
 |.agg cs,hs=>⟨YA cs,rfl,Qd3 hs⟩
theorem Qd3{ro:Nat->Prop}{σ:Sig}{w:World}:∀{az:List A},Qdp az=true->LR ro σ w az (YA az)
 |[],_=>rfl
 |a::r,hs=>by
  simp only[Qdp,XU]at hs;exact⟨_,_,rfl,Qbv hs.1,Qd3 hs.2⟩
end
end Go.Sw
namespace Go.Sw
open Go.MapKept
structure YE (P:Program) (kt:TypeId) {α:Type} (ek:α->A):Prop where
 scl:∀x,Qbr (ek x)=true
 inj:∀x y,QB (ek x)=QB (ek y)->x=y
 check:∀(w:World) em x,(Instr.checkKey em 10000 kt (QB (ek x))).run P w=.ok () w
 find:∀(w:World) x (es:List MapEntry),(∀e∈es,∃y,e.key=QB (ek y))->
  ((Instr.findKey kt (QB (ek x)) es).run P w=.ok none w/\ ∀e∈es,e.key≠QB (ek x))\/ ∃j e,(Instr.findKey kt (QB (ek x)) es).run P w=.ok (some (j,e.val)) w/\es[j]?=some e/\e.key=QB (ek x)
 stays:∀(w:World) x,(Instr.keyThatStays (QB (ek x)) (QB (ek x))).run P w=.ok (QB (ek x)) w
section
variable {P:Program} {kt:TypeId}
theorem YE.plain{α:Type}{ek:α->A}{d:TypeDesc}(g:P.underlying kt=some d)(a:∀x,IsKey d (QB (ek x)))(m:∀x,Qbr (ek x)=true)(hi:∀x y,QB (ek x)=QB (ek y)->x=y):YE P kt ek:=by
 refine⟨m,hi,λw r x=>run_checkKey g (a x) r 9999,λw x i b=>?_,λw x=>run_keyThatStays (a x)⟩
 .have h:∀y∈i,IsKey d y.key:=λy p=>by
   obtain⟨l,n⟩:=b y p;rw[n];exact a l
  rcases findNow_spec (a x) i 0 h with⟨e,f⟩|⟨j,q,e,f,k⟩
  .exact Or.inl ⟨run_findKey g e,f⟩
  .exact Or.inr ⟨j,q,by simpa using run_findKey g e,f,k⟩
theorem YE.int{q:IntKind}(hk:P.underlying kt=some (.int q)):YE P kt (λn=>A.int q n):=
 YE.plain hk (λx=>by simp[IsKey,QB]) (λ_=>rfl) (λx y h=>by simpa[QB]using h)
theorem YE.str(hk:P.underlying kt=some .string):YE P kt A.str:=
 YE.plain hk (λx=>by simp[IsKey,QB]) (λ_=>rfl) (λx y h=>by simpa[QB]using h)
theorem YE.struct{α:Type}[DecidableEq α]{ek:α->A}{fs:Array Field}(r:P.underlying kt=some (.struct fs))(F:∀x,Qbr (ek x)=true)(hi:∀x y,QB (ek x)=QB (ek y)->x=y)
  (B:∀(w:World) em x,(Instr.checkKey em 10000 kt (QB (ek x))).run P w=.ok () w)
  (he:∀(w:World) x y,(Op.equal kt (QB (ek x)) (QB (ek y))).run P w=.ok (decide (x=y)) w)(u:∀x,Instr.sameBits 10000 (QB (ek x)) (QB (ek x))=true):YE P kt ek:=by
 refine⟨F,hi,B,λw x a m=>?_,λw x=>by simp[Instr.keyThatStays,u x]⟩
 .have d:∀(a:List MapEntry) (i:Nat),(∀e∈a,∃y,e.key=QB (ek y))->
    ((Instr.findAsking kt (QB (ek x)) a i).run P w=.ok none w/\ ∀e∈a,e.key≠QB (ek x))\/
    ∃j e,(Instr.findAsking kt (QB (ek x)) a i).run P w=.ok (some (i+j,e.val)) w/\a[j]?=some e/\e.key=QB (ek x):=by
   intro a
   induction a with
   |nil=>intro i _;exact .inl ⟨by simp[Instr.findAsking],by simp⟩
   |cons e a t=>
    intro i f;obtain⟨y,g⟩:=f e (by simp);have n:=he w x y;by_cases b:x=y
    .subst b;exact .inr ⟨0,e,by simp[Instr.findAsking,g,n],rfl,g⟩
    .rcases t (i+1) (λz h=>f z (by simp[h]))with⟨p,k⟩|⟨j,E,p,k,s⟩
     .refine .inl ⟨by simp[Instr.findAsking,g,n,b,p],λz h=>?_⟩;rcases X2.1 h with rfl|h
      .rw[g];intro q;exact b (hi _ _ q).symm
      .exact k z h
     .exact .inr ⟨j+1,E,by simp[Instr.findAsking,g,n,b,p,Nat.add_assoc,Nat.add_comm 1 j],by simpa using k,s⟩
  cases a with
  |nil=>exact .inl ⟨by simp[Instr.findKey,run_underlying r,Instr.findNow,Result.andThen],by simp⟩
  |cons e a=>
   have G:Instr.findNow (.struct fs) (QB (ek x)) (e::a) 0=none:=by
    simp only[Instr.findNow];have:∀v l,Instr.sameNow (.struct fs) v l=none:=by intro v l;cases v<;>cases l<;>rfl
    rw[this]
   have H:(Instr.findKey kt (QB (ek x)) (e::a)).run P w=(Instr.findAsking kt (QB (ek x)) (e::a) 0).run P w:=by
    simp only[Instr.findKey,Vi,run_underlying r,Result.andThen,G]
   rw[H];simpa using d (e::a) 0 m
def Qak{α β:Type}[DecidableEq α](l:List (α×β))(k:α):Option β:=(l.find? λp=>decide (p.1=k)).map (·.2)
def Qaj{α β:Type}[DecidableEq α](l:List (α×β))(k:α)(v:β):List (α×β):=bif l.any λp=>decide (p.1=k)then l.map λp=>bif decide (p.1=k)then(p.1,v)else p else l++[(k,v)]
def YQ{α β:Type}[DecidableEq α](l:List (α×β))(k:α)(z:β):β:=(Qak l k).getD z
def QaV{α β:Type}[DecidableEq α](l:List (α×β))(k:α):Bool:=l.any λp=>decide (p.1=k)
def Qh{α β:Type}(ek:α->A)(ev:β->A)(l:List (α×β)):List (A×A):=l.map λp=>(ek p.1,ev p.2)
section
variable {α β:Type} [DecidableEq α] {ek:α->A} {ev:β->A} {ro:Nat->Prop} {σ:Sig} {w:World} (K:YE P kt ek)
include K
theorem Qfn:∀{l:List (α×β)} {es:List MapEntry},ER ro σ w (Qh ek ev l) es->es.map (·.key)=l.map λp=>QB (ek p.1)
 |[],es,h=>by cases(show es=[]from h);rfl
 |p::l,es,h=>by
  obtain⟨e,l',rfl,h1,h2,h3⟩:=h;simp only[Vf];rw[VR.val (K.scl _) h1,Qfn (l:=l) h3]
theorem QaL{l:List (α×β)}{es:List MapEntry}(h:ER ro σ w (Qh ek ev l) es):∀e∈es,∃y,e.key=QB (ek y):=by
 intro e a;have:e.key∈es.map (·.key):=Vy a;rw[Qfn K h]at this;obtain⟨p,_,b⟩:=Xe.1 this;exact⟨p.1,b.symm⟩
theorem ER.find:∀{l:List (α×β)} {es:List MapEntry},ER ro σ w (Qh ek ev l) es->∀(x:α),(es.map (·.key)).Nodup->
  ((∀e:MapEntry,e∈es->e.key≠QB (ek x))->Qak l x=none/\QaV l x=false)/\
  (∀(j:Nat) (e:MapEntry),es[j]?=some e->e.key=QB (ek x)->QaV l x=true/\ ∃v,Qak l x=some v/\VR ro σ w (ev v) e.val)
 |[],es,h,x,_=>by
  cases(show es=[]from h);exact⟨λ_=>⟨rfl,rfl⟩,λj e he=>by simp at he⟩
 |p::l,es,h,x,hn=>by
  obtain⟨e0,l',rfl,h1,h2,h3⟩:=h;have hk:e0.key=QB (ek p.1):=VR.val (K.scl _) h1;simp only[Vf,List.nodup_cons]at hn;obtain⟨a1,a2⟩:=ER.find (l:=l) h3 x hn.2;by_cases hp:p.1=x
  .subst hp;constructor
   .intro q;exact absurd hk (q e0 (by simp))
   .intro j e he hx;cases j with
    |zero=>
     simp only[XC,Option.some.injEq]at he;subst he;exact⟨by simp[QaV],p.2,by simp[Qak],h2⟩
    |succ j=>
     simp only[XD]at he;exact absurd (hk.trans hx.symm▸Vy (f:=λe:MapEntry=>e.key) (Vz he)) hn.1
  .have e1:Qak (p::l) x=Qak l x:=by simp[Qak,hp]
   have a:QaV (p::l) x=QaV l x:=by simp[QaV,hp]
   rw[e1,a];constructor
   .intro q;exact a1 λe he=>q e (by simp[he])
   .intro j e he hx;cases j with
    |zero=>
     simp only[XC,Option.some.injEq]at he;subst he;exact absurd (K.inj _ _ (hk.symm.trans hx)) hp
    |succ j=>exact a2 j e (by simpa using he) hx
end
end
end Go.Sw
namespace Go.Sw
open Go.MapKept
section
variable {P:Program} {o:Oper} {env:Env} {H:Qc}
theorem QW{T:Nat}(b:o.op=.makeMap T none:=by exact rfl):OpH P o env H (.map H.length) (H++[.map []]):=by
 intro e d σ N a w r;refine⟨.map (some w.heap.size),w.alloc (.map #[] 0),d,[some w.heap.size],?_,⟨w.heap.size,?_,rfl⟩,r.sim.alloc ⟨#[],0,Q1 _ _,rfl,by simp,by simp,by simp⟩,Qg.alloc _ r.sim.roLt r.sim.frLt⟩
 .generalize a.eval=ρ at*;simp only[execOp,b,Instr.makeMap,Xi,Vi];rfl
 .rw[<- r.sim.len];simp
section
variable {T kt et:Nat} {α β:Type} [DecidableEq α] {ek:α->A} {ev:β->A} {x y:Operand} {i:Nat} {l:List (α×β)} {k:α} {z0:β} {z:Value}
theorem QbR(K:YE P kt ek){ro:Nat->Prop}{w:World}(n:P.underlying T=some (.map kt et))(u:∀w,(zeroValue et).run P w=.ok z w)(d:ZR (ev z0) z){b a:Nat}{es:Array MapEntry}
  (m:w.heap[b]?=some (.map es a))(he:ER ro [] w (Qh ek ev l) es.toList)(t:(es.toList.map (·.key)).Nodup):
  ∃v,(∀ck,(Instr.lookup T (.map (some b)) (QB (ek k)) ck).run P w=.ok (if ck then .tuple #[v,.bool (QaV l k)]else v) w)/\VR ro [] w (ev (YQ l k z0)) v:=by
 obtain⟨p,r⟩:=ER.find K he k t;rcases K.find w k es.toList (QaL K he)with⟨g,h⟩|⟨j,e,g,h,q⟩
 .obtain⟨f,i⟩:=p h;refine⟨z,λck=>?_,?_⟩
  .simp only[Instr.lookup,Vi,run_underlying n,Result.andThen,MapKept.run_getObj_map m,Vj,K.check,g,u,i]
  .rw[YQ,f];exact d _ _ _
 .obtain⟨f,v,i,s⟩:=r j e h q;refine⟨e.val,λck=>?_,?_⟩
  .simp only[Instr.lookup,Vi,run_underlying n,Result.andThen,MapKept.run_getObj_map m,Vj,K.check,g,f]
  .rw[YQ,i];exact s
theorem YK{zv:β}(K:YE P kt ek)(E:some (YQ l k z0)=some zv)(u:P.underlying T=some (.map kt et))(G:∀w,(zeroValue et).run P w=.ok z w)(e:ZR (ev z0) z)
  (J:o.op=.lookup T x y false:=by exact rfl)(hx:opA env x=.map i:=by exact rfl)(hH:H[i]?=some (.map (Qh ek ev l)):=by exact rfl)(hy:opA env y=ek k:=by exact rfl):OpV P o env H (ev zv):=by
 obtain rfl:=XV E;intro O M σ N a w r;have g:=Qf r x;rw[hx]at g;obtain⟨b,m,h⟩:=g;have f:=Qf r y;rw[hy]at f;have n:=VR.val (K.scl _) f;obtain⟨Q,d,t,B,L,R,F⟩:=r.sim.blk i _ _ m hH;obtain⟨v,p,s⟩:=QbR (T:=T) (z0:=z0) (k:=k) K u G e t B F;refine⟨v,?_,s.mono ⟨λ_ q=>q,λ_ _=>rfl,λ_ _ q=>q,λj c q=>by simp at q⟩⟩;have:=p false;simp only[execOp,J,h,n,Vi,this,Result.andThen];rfl
theorem Qbd{zv:β}(K:YE P kt ek)(E:some (YQ l k z0)=some zv)(u:P.underlying T=some (.map kt et))(G:∀w,(zeroValue et).run P w=.ok z w)(e:ZR (ev z0) z)
  (J:o.op=.lookup T x y true:=by exact rfl)(hx:opA env x=.map i:=by exact rfl)(hH:H[i]?=some (.map (Qh ek ev l)):=by exact rfl)(hy:opA env y=ek k:=by exact rfl):OpV P o env H (.tup [ev zv,.bool (QaV l k)]):=by
 obtain rfl:=XV E;intro O M σ N a w r;have g:=Qf r x;rw[hx]at g;obtain⟨b,m,h⟩:=g;have f:=Qf r y;rw[hy]at f;have n:=VR.val (K.scl _) f;obtain⟨Q,d,t,B,L,R,F⟩:=r.sim.blk i _ _ m hH;obtain⟨v,p,s⟩:=QbR (T:=T) (z0:=z0) (k:=k) K u G e t B F;refine⟨.tuple #[v,.bool (QaV l k)],?_,[v,.bool (QaV l k)],rfl,v,_,rfl,s.mono ⟨λ_ q=>q,λ_ _=>rfl,λ_ _ q=>q,λj c q=>by simp at q⟩,_,_,rfl,rfl,rfl⟩;have:=p true;simp only[execOp,J,h,n,Vi,this,Result.andThen];rfl
theorem QhY{zv:β}(K:YE P kt ek)(E:some (YQ l k z0)=some zv)(u:P.underlying T=some (.map kt et))(G:∀w,(zeroValue et).run P w=.ok z w)(e:ZR (ev z0) z)
  (J:o.op=.lookup T x y false:=by exact rfl)(hx:opA env x=.map i:=by exact rfl)(hH:H[i]?=some (.fmap (Qh ek ev l)):=by exact rfl)(hy:opA env y=ek k:=by exact rfl):OpV P o env H (ev zv):=by
 obtain rfl:=XV E;intro O M σ N a w r;have g:=Qf r x;rw[hx]at g;obtain⟨b,m,h⟩:=g;have f:=Qf r y;rw[hy]at f;have n:=VR.val (K.scl _) f;obtain⟨_,Q,d,t,B,L,R,F⟩:=r.sim.blk i _ _ m hH;obtain⟨v,p,s⟩:=QbR (T:=T) (z0:=z0) (k:=k) K u G e t B F;refine⟨v,?_,s.mono ⟨λ_ q=>q,λ_ _=>rfl,λ_ _ q=>q,λj c q=>by simp at q⟩⟩;have:=p false;simp only[execOp,J,h,n,Vi,this,Result.andThen];rfl
theorem ER.append{ro:Nat->Prop}{σ:Sig}{w:World}:∀{l m:List (A×A)} {es fs:List MapEntry},ER ro σ w l es->ER ro σ w m fs->ER ro σ w (l++m) (es++fs)
 |[],m,es,fs,h,k=>by cases(show es=[]from h);exact k
 |p::l,m,es,fs,h,k=>by
  obtain⟨e,l',rfl,h1,h2,h3⟩:=h;exact⟨e,l'++fs,rfl,h1,h2,ER.append h3 k⟩
theorem ER.put(K:YE P kt ek){ro:Nat->Prop}{w w':World}{v:β}{val:Value}(a:Ext ro [] w ro [] w')(b:VR ro [] w (ev v) val):∀{l:List (α×β)} {es:List MapEntry} {j:Nat} {e:MapEntry},ER ro [] w (Qh ek ev l) es->
  (es.map (·.key)).Nodup->es[j]?=some e->e.key=QB (ek k)->
  ER ro [] w' (Qh ek ev (l.map λp=>bif decide (p.1=k)then(p.1,v)else p)) (es.modify j λe=>{e with key:=QB (ek k),val:=val})
 |[],es,j,e,h,hn,he,hk=>by cases(show es=[]from h);simp at he
 |p::l,es,j,e,h,hn,he,hk=>by
  obtain⟨e0,l',rfl,h1,h2,h3⟩:=h;have hk0:e0.key=QB (ek p.1):=VR.val (K.scl _) h1;simp only[Vf,List.nodup_cons]at hn;cases j with
  |zero=>
   simp only[XC,Option.some.injEq]at he;subst he;have hp:p.1=k:=K.inj _ _ (hk0.symm.trans hk);simp only[List.modify_zero_cons];have e1:Qh ek ev ((p::l).map λp=>bif decide (p.1=k)then(p.1,v)else p)=(ek p.1,ev v)::Qh ek ev l:=by
    simp only[Qh,Vf,hp,decide_true,Vk,List.map_map,List.cons.injEq,true_and];apply List.map_congr_left;intro q d;have:q.1≠k:=by
     intro e;refine hn.1 ?_;rw[Qfn K h3];exact Xe.2 ⟨q,d,by rw[e, <- hp,hk0]⟩
    simp[this]
   rw[e1];refine⟨_,l',rfl,?_,b.mono a,h3.mono a⟩;show VR ro [] w' (ek p.1) (QB (ek k));rw[<- hp];exact Qbv (K.scl _)
  |succ j=>
   simp only[XD]at he;have hp:p.1≠k:=by
    intro q;refine hn.1 (Xe.2 ⟨e,Vz he,?_⟩);rw[hk,hk0,q]
   simp only[List.modify_succ_cons];have e1:Qh ek ev ((p::l).map λp=>bif decide (p.1=k)then(p.1,v)else p)=(ek p.1,ev p.2)::Qh ek ev (l.map λp=>bif decide (p.1=k)then(p.1,v)else p):=by
    simp[Qh,hp]
   rw[e1];exact⟨_,_,rfl,h1.mono a,h2.mono a,ER.put K a b h3 hn.2 he hk⟩
theorem QU{m:List (α×β)}(K:YE P kt ek){v:β}{zz:Operand}(hm:some (Qaj l k v)=some m)(G:Q9 (ev v)=true)(hT:P.underlying T=some (.map kt et))
  (ho:o.op=.mapUpdate T x y zz:=by exact rfl)(hx:opA env x=.map i:=by exact rfl)(hH:H[i]?=some (.map (Qh ek ev l)):=by exact rfl)(R:opA env y=ek k:=by exact rfl)(hv:opA env zz=ev v:=by exact rfl):
  OpU P o env H (H.set i (.map (Qh ek ev m))):=by
 obtain rfl:=XV hm;intro fr ro σ N a w r;have h1:=Qf r x;rw[hx]at h1;obtain⟨b,Y,q2⟩:=h1;have h2:=Qf r y;rw[R]at h2;have h3:=VR.val (K.scl _) h2;have h4:=Qf r zz;rw[hv]at h4;have Q:VR ro [] w (ev v) (a.eval zz):=VR.data G h4;obtain⟨u,s,M,X,p3,p4,W⟩:=r.sim.blk i _ _ Y hH;obtain⟨f1,f2⟩:=ER.find K X k W;have O:∀(obj:Obj) y,w.shape? b=some y->({w with heap:=w.heap.setIfInBounds b obj}:World).shape? b=some y:=by
  intro obj y R;unfold World.shape? at R;rw[M]at R;simp at R
 rcases K.find w k u.toList (QaL K X)with⟨g1,J⟩|⟨j,e,g1,J,V⟩
 .obtain⟨u1,u2⟩:=f1 J;have hl:Qaj l k v=l++[(k,v)]:=by
   unfold Qaj;rw[show(l.any λp=>decide (p.1=k))=false from u2];rfl
  have g:=r.sim.set (x':=.map (Qh ek ev (Qaj l k v))) (obj:=.map (u.push {key:=QB (ek k),val:=a.eval zz,born:=s}) (s+1)) Y hH rfl (O _)
   (λe B=>⟨_,_,B,by
    rw[hl,Qh,Xf,Array.toList_push];exact(X.mono ⟨e.sub,e.keep,e.shape,λ_ _ q=>q⟩).append ⟨_,_,rfl,Qbv (K.scl _),Q.mono ⟨e.sub,e.keep,e.shape,λ_ _ q=>q⟩,rfl⟩,by
    rw[Array.toList_push];intro e B;rcases Vv.1 B with q|q
    .exact Nat.lt_succ_of_lt (p3 e q)
    .simp at q;subst q;exact Xl _,by
    rw[Array.toList_push,Xf];refine List.nodup_append.2 ⟨p4,by simp,?_⟩;intro c hc d G;simp at G;subst G;obtain⟨e,B,rfl⟩:=Xe.1 hc;exact Nat.ne_of_lt (p3 e B),by
    rw[Array.toList_push,Xf];refine List.nodup_append.2 ⟨W,by simp,?_⟩;intro c hc d G;simp at G;subst G;obtain⟨e,B,rfl⟩:=Xe.1 hc;exact J e B⟩)
  refine⟨_,ro,[],?_,by simpa using g.1,g.2⟩;simp only[execOp,ho,q2,h3,Vi,Instr.mapUpdate,run_underlying hT,Result.andThen,MapKept.run_getObj_map M,K.check,g1,MapKept.run_setObj_map _ M];rfl
 .obtain⟨u1,u2⟩:=f2 j e J V;have hl:Qaj l k v=l.map λp=>bif decide (p.1=k)then(p.1,v)else p:=by
   unfold Qaj;rw[show(l.any λp=>decide (p.1=k))=true from u1];rfl
  have hj:u[j]?=some e:=by rw[<- J];simp
  have t:(u.modify j λe=>{e with key:=QB (ek k),val:=a.eval zz}).toList=u.toList.modify j λe=>{e with key:=QB (ek k),val:=a.eval zz}:=by simp
  have z:∀{γ:Type} (f:MapEntry->γ),(∀F,u.toList[j]?=some F->f {F with key:=QB (ek k),val:=a.eval zz}=f F)->(u.toList.modify j λe=>{e with key:=QB (ek k),val:=a.eval zz}).map f=u.toList.map f:=by
   intro γ f hf;apply List.ext_getElem?;intro n;rw[Xn,Xn,List.getElem?_modify];by_cases hn:j=n
   .subst hn;cases q:u.toList[j]? with
    |none=>rfl
    |some F=>simp[hf F q]
   .simp[hn]
  have g:=r.sim.set (x':=.map (Qh ek ev (Qaj l k v))) (obj:=.map (u.modify j λe=>{e with key:=QB (ek k),val:=a.eval zz}) s) Y hH rfl (O _)
   (λe0 B=>⟨_,_,B,by
    rw[hl,t];exact ER.put K ⟨e0.sub,e0.keep,e0.shape,λ_ _ q=>q⟩ Q X W J V,by
    rw[t];intro F E;have:F.born∈(u.toList.modify j λe=>{e with key:=QB (ek k),val:=a.eval zz}).map (·.born):=Vy E;rw[z (·.born) (λ_ _=>rfl)]at this;obtain⟨e2,h,h'⟩:=Xe.1 this;rw[<- h'];exact p3 e2 h,by
    rw[t,z (·.born) (λ_ _=>rfl)];exact p4,by
    rw[t,z (·.key) (λF E=>by rw[J]at E;cases E;exact V.symm)];exact W⟩)
  refine⟨_,ro,[],?_,by simpa using g.1,g.2⟩;have L:=K.stays w k;simp only[execOp,ho,q2,h3,Vi,Instr.mapUpdate,run_underlying hT,Result.andThen,MapKept.run_getObj_map M,K.check,g1,hj,Xh,Option.getD_some,V,L,MapKept.run_setObj_map _ M];rfl
theorem ER.length{ro:Nat->Prop}{σ:Sig}{w:World}:∀{l:List (A×A)} {es:List MapEntry},ER ro σ w l es->es.length=l.length
 |[],es,h=>by cases(show es=[]from h);rfl
 |p::l,es,h=>by
  obtain⟨e,l',rfl,_,_,h3⟩:=h;simp[ER.length h3]
theorem Qb2{c:Call}{n:Int}(s:P.underlying T=some (.map kt et))(q:(l.length:Int)=n)(u:o.op=.call c:=by exact rfl)(hc:c={callee:=.builtin .len,args:= #[x],argTypes:= #[T]}:=by exact rfl)
  (hx:opA env x=.map i:=by exact rfl)(hH:H[i]?=some (.map (Qh ek ev l)):=by exact rfl):OpV P o env H (.int .i64 n):=by
 intro F y σ N a w r;have h:=Qf r x;rw[hx]at h;obtain⟨b,k,g⟩:=h;obtain⟨f,e,j,t,B,z,E⟩:=r.sim.blk i _ _ k hH;have p:=t.length;refine⟨.int .i64 n,?_,rfl⟩;have d:goInt f.size=.int .i64 n:=by
  have:f.size=l.length:=by rw[<- Array.length_toList,p];simp[Qh]
  rw[this, <- q];rfl
 subst hc;have m:=g;generalize a.eval=ρ at*;rw[<- d];simp[execOp,u,g,resolve,invoke,Go.builtin,Builtin.len_,run_underlying s,MapKept.run_getObj_map j,go_sem]
end
end
end Go.Sw
namespace Go.Sw
open Go.ChangeMaps (setBlock)
section
variable {P:Program} {o:Oper} {env:Env} {H:Qc} {h0 N:Nat} {Q:Qv}
def OpE(P:Program)(o:Oper)(env:Env)(H:Qc)(K:A->Qc->Prop):Prop:=
 ∀fr ro σ N a w,Rel fr ro σ H env N a w->∃x H' v w' ro' τ,K x H'/\(execOp a.eval o).run P w=.ok (.value v) w'/\VR ro' (σ++τ) w' x v/\
  Sim fr ro' (σ++τ) H' w'/\Qg fr ro w ro' w'
theorem QgI{all:Array Oper}{l:List Oper}{d:Nat}{K:A->Qc->Prop}(y:h0<=H.length)(hg:Qm all o env true)(n:o.dst=some d)(j:Nat.blt d N=true)
  (g:OpE P o env H K)(k:∀x H',K x H'->WO P h0 N all l (up env d x) H' Q):WO P h0 N all (o::l) env H Q:=by
 intro z fr B σ a w r hrd;obtain⟨x,H',v,i,b,τ,E,p,u,m,f⟩:=g fr B σ N a w r;refine Qab (Yn hg r) p ?_;simp only[n,Act.put];have h:d<N:=by simpa using j
 have t:Rel fr b (σ++τ) H' (up env d x) N {a with tmps:=a.tmps.setIfInBounds d v} i:=
  ⟨m,VR.up (fr:=fr) (λs=>(r.env s).mono (f.ext σ τ)) (by rw[r.size];exact h) u,by simpa using r.size,r.defers.keep f⟩
 refine Q4 (λe a w q=>q.step f (Qp ?_)) _ _ _ (k x H' E z fr b (σ++τ) _ i t (hrd.to f λ_ q=>q));rw[r.sim.len];exact y
theorem Sim.shutMap{fr ro:Nat->Prop}{σ:Sig}{w:World}(s:Sim fr ro σ H w){i b:Nat}{es:List (A×A)}(hσ:σ[i]?=some (some b))(hH:H[i]?=some (.map es)):
  Sim fr (λc=>ro c\/c=b) σ (H.set i (.fmap es)) w:=by
 have k:b<w.heap.size/\ ¬ro b/\ ¬fr b:=s.own i b _ hσ hH rfl;have ext:Ext ro σ w (λc=>ro c\/c=b) σ w:=⟨λ_ q=>.inl q,λ_ _=>rfl,λ_ _ q=>q,λ_ _ q=>q⟩;have a:∀(j:Nat) (v:Blk),(H.set i (.fmap es))[j]?=some v->v.live=true->j≠i/\H[j]?=some v:=by
  intro j v h t;by_cases e:j=i
  .subst e;rw[Xb]at h;simp only[if_true]at h;split at h
   .cases h;simp[Blk.live]at t
   .simp at h
  .rw[XN (λq=>e q.symm)]at h;exact⟨e,h⟩
 have g:∀(j:Nat) (v:Blk),(H.set i (.fmap es))[j]?=some v->v.holds=true->H[j]?=some v:=by
  intro j v h t;by_cases e:j=i
  .subst e;rw[Xb]at h;simp only[if_true]at h;split at h
   .cases h;cases t
   .simp at h
  .rw[XN (λq=>e q.symm)]at h;exact h
 refine⟨by rw[XZ];exact s.len,s.roOk.to (λ_ q=>.inl q) (λ_ _=>rfl) ?_,s.frLt,?_,?_,?_,?_,s.hidTo (· = ·) QP (XR _) (λj d x c J O M R=>R.elim id λq=>((s.hid j d x c J O M).ne i b _ hσ hH rfl q).elim) (λ_ _ _ _ _ _ _ q=>q) λj d y P N L=>.inl ⟨j,y,rfl,P,g j y N L,id,λ_ q=>q⟩⟩
 .rintro c (q|rfl)
  .exact s.roLt c q
  .exact k.1
 .rintro c (q|rfl)
  .exact s.roFr c q
  .exact k.2.2
 .intro j c v m f p;obtain⟨e,f⟩:=a j v f p;obtain⟨r,z,u⟩:=s.own j c v m f p;refine⟨r,?_,u⟩;rintro(q|rfl)
  .exact z q
  .exact e (s.inj j i c v _ m hσ f hH p rfl)
 .intro j B c v F m f p Q G E;exact s.inj j B c v F m f (a j v p G).2 (a B F Q E).2 G E
 .intro j y v m f;by_cases e:j=i
  .subst e;rw[hσ]at m;cases m;rw[Xb]at f;simp only[if_true]at f;split at f
   .cases f;obtain⟨l,n,r,z,u⟩:=s.blk j _ _ hσ hH;exact⟨.inr rfl,l,n,r,z.mono ext.nil,u⟩
   .simp at f
  .rw[XN (λq=>e q.symm)]at f;exact(s.blk j y v m f).keep ext (λ_ _ _=>rfl) (λ_ _ _ _=>rfl)
section
variable {T kt et i:Nat} {x:Operand} {es:List (A×A)}
theorem QdZ(y:P.underlying T=some (.map kt et))(z:o.op=.range T x:=by exact rfl)(hx:opA env x=.map i:=by exact rfl)(hH:H[i]?=some (.fmap es):=by exact rfl):
  OpH P o env H (.ptr H.length 0) (H++[.iter none es]):=by
 intro B j σ N a w r;have m:=Qf r x;rw[hx]at m;obtain⟨b,p,n⟩:=m;obtain⟨f,l,d,k,q,u,t,E⟩:=r.sim.blk i _ _ p hH;have s:=r.sim.roLt b f;have g:Qg B j w j (w.alloc (.mapIter (some b) d #[] d)):=Qg.alloc _ r.sim.roLt r.sim.frLt;have ext0:Ext j [] w j [] (w.alloc (.mapIter (some b) d #[] d)):=g.ext0 [];refine⟨.pointer (some ⟨w.heap.size,0,none⟩),w.alloc (.mapIter (some b) d #[] d),_,[some w.heap.size],?_,⟨w.heap.size,?_,rfl⟩,
  r.sim.alloc (.inr ⟨b,l,d, #[],l.toList,Q1 _ _,f,by rw[Yd _ _ _ s];exact k,u,t,?_,q.mono ext0,λ_ h=>by cases h⟩),g⟩
 .generalize a.eval=ρ at*;simp only[execOp,z,n,Instr.range,Vi,run_underlying y,Result.andThen,MapKept.run_getObj_map k];rfl
 .rw[<- r.sim.len];simp
 .have:l.toList.filter (λe=> !(#[]:Array Nat).contains e.born)=l.toList:=by rw[List.filter_eq_self];intro e _;simp
  rw[this]
theorem ER.mem{ro:Nat->Prop}{σ:Sig}{w:World}:∀{es:List (A×A)} {l:List MapEntry},ER ro σ w es l->∀e∈l,∃x es' l',(x::es').Perm es/\(e::l').Perm l/\VR ro σ w x.1 e.key/\VR ro σ w x.2 e.val/\ER ro σ w es' l'
 |[],l,h,e,he=>by cases(show l=[]from h);cases he
 |y::es,l,h,e,he=>by
  obtain⟨e0,l',rfl,h1,h2,h3⟩:=h;rcases X2.1 he with rfl|he
  .exact⟨y,es,l',.refl _,.refl _,h1,h2,h3⟩
  .obtain⟨x,es',l'',p1,p2,v1,v2,h4⟩:=ER.mem h3 e he;exact⟨x,y::es',e0::l'',(List.Perm.swap _ _ _).trans (p1.cons _),(List.Perm.swap _ _ _).trans (p2.cons _),v1,v2,⟨e0,l'',rfl,h1,h2,h4⟩⟩
theorem QfY:∀{l:List MapEntry},(l.map (·.born)).Nodup->∀a∈l,∀b∈l,a.born=b.born->a=b
 |[],_,a,ha,_,_,_=>by cases ha
 |c::l,hn,a,ha,b,hb,hab=>by
  simp only[Vf,List.nodup_cons]at hn;rcases X2.1 ha with ea|ha'<;>rcases X2.1 hb with eb|hb'
  .rw[ea,eb]
  .subst ea;exact absurd (Xe.2 ⟨b,hb',hab.symm⟩) hn.1
  .subst eb;exact absurd (Xe.2 ⟨a,ha',hab⟩) hn.1
  .exact QfY hn.2 a ha' b hb' hab
def NextK(H:Qc)(i:Nat)(cur:Option (A×A))(es:List (A×A))(v:A)(H':Qc):Prop:=
 (es=[]/\v=.tup [.bool false]/\H'=H)\/ ∃e es',(e::es').Perm es/\v=.tup [.bool true,e.1,e.2]/\H'=H.set i (.iter (some e) es')
theorem OpE.next{R:Option (A×A)}(ho:o.op=.next x false:=by exact rfl)(hx:opA env x=.ptr i 0:=by exact rfl)(hH:H[i]?=some (.iter R es):=by exact rfl):
  OpE P o env H (NextK H i R es):=by
 intro fr n σ N a w r;have h1:=Qf r x;rw[hx]at h1;obtain⟨b,q1,q2⟩:=h1;have k:∀(v:Value) (w1:World),w1.heap=w.heap->w1.os=w.os->w1.tape=w.tape->w1.output=w.output->w.drawn<=w1.drawn->Sim fr n (σ++[]) H w1/\Qg fr n w n w1:=by
  intro v w1 W e2 e3 e4 e5;exact⟨by simpa using r.sim.heap W,Qg.heap W e2 e3 e4 e5⟩
 rcases r.sim.blk i _ _ q1 hH with⟨rfl,rfl,p⟩|⟨m,l,d,f,left,p1,p2,X,p4,p5,p6,p7,p8⟩
 .refine⟨_,_,.tuple #[.bool false],w,n,[],.inl ⟨rfl,rfl,rfl⟩,?_,⟨_,rfl,_,_,rfl,rfl,rfl⟩,k (.bool false) w rfl rfl rfl rfl (XR _)⟩;generalize a.eval=ρ at*;simp only[execOp,ho,q2,Instr.next,Vi,getObj,Sem.run,p,Result.andThen];rfl
 .have s:(leftOf l f).toList=l.toList.filter λe=> !f.contains e.born:=by simp[leftOf]
  have t:left.Perm (leftOf l f).toList:=by rw[s];exact p6
  rcases run_next_at (P:=P) w o.type b m d d f l d p1 X p4 (XR _)with⟨M,g2⟩|⟨e,M,w1,g2,g3⟩
  .have af:left=[]:=by
    have:left.length=0:=by rw[t.length_eq];simpa using M
    exact VB.1 this
   subst af;have ab:es=[]:=by
    have:=p7.length;simp only[List.length_nil]at this;exact VB.1 this.symm
   refine⟨_,_,.tuple #[.bool false],w,n,[],.inl ⟨ab,rfl,rfl⟩,?_,⟨_,rfl,_,_,rfl,rfl,rfl⟩,k (.bool false) w rfl rfl rfl rfl (XR _)⟩;generalize a.eval=ρ at*;simp only[execOp,ho,q2,Vi,g2,Result.andThen];rfl
  .have he:e∈left:=t.mem_iff.2 M;have O:e∈l.toList:=by rw[s]at M;exact(Xd.1 M).1
   obtain⟨y,L,J,k1,k2,v1,v2,k3⟩:=p7.mem e he;have g:w1.heap=w.heap/\w1.os=w.os/\w1.tape=w.tape/\w1.output=w.output/\w.drawn<=w1.drawn:=by
    rcases g2 with rfl|rfl
    .exact⟨rfl,rfl,rfl,rfl,XR _⟩
    .exact⟨rfl,rfl,rfl,rfl,Nat.le_succ _⟩
   obtain⟨s1,G⟩:=k (.bool false) w1 g.1 g.2.1 g.2.2.1 g.2.2.2.1 g.2.2.2.2;rw[Vc]at s1;have aa:b≠m:=by
    rintro rfl;rw[p1]at X;cases X
   have B:=s1.set (x':=.iter (some y) L) (obj:=.mapIter (some m) d (f.push e.born) d) q1 hH rfl
    (λz E=>by
     unfold World.shape? at E;rw[g.1,p1]at E;simp at E)
    (λu ae=>.inr ⟨m,l,d,f.push e.born,J,ae,u.sub _ p2,by
      show(w1.heap.setIfInBounds b _)[m]?=_;rw[Va,Vn aa,g.1];exact X,p4,p5,by
      have ac:(l.toList.filter λe=> !f.contains e.born).Nodup:=by
       have:l.toList.Nodup:=List.Pairwise.of_map _ (λa b h q=>h (congrArg _ q)) p5;exact this.filter _
      have hp:(e::J).Perm (l.toList.filter λe=> !f.contains e.born):=k2.trans p6;have T:(e::J).Nodup:=hp.nodup_iff.2 ac;have W:(l.toList.filter λF=> !(f.push e.born).contains F.born)=(l.toList.filter λe=> !f.contains e.born).filter λF=> !decide (F.born=e.born):=by
       rw[List.filter_filter];apply List.filter_congr;intro z _;simp[Array.contains_push,Bool.and_comm]
      rw[W];have h2:=hp.filter (λF=> !decide (F.born=e.born));have e2:(e::J).filter (λF=> !decide (F.born=e.born))=J:=by
       rw[List.filter_cons_of_neg (by simp),List.filter_eq_self];intro z E;have Y:z∈l.toList:=(Xd.1 (hp.mem_iff.1 (X0 _ E))).1;simp only[Bool.not_eq_true',decide_eq_false_iff_not];intro hb;have:z=e:=by
        exact QfY p5 z Y e O hb
       subst this;exact(List.nodup_cons.1 T).1 E
      rw[e2]at h2;exact h2,by
      have V:Ext n [] w n [] w1:=G.ext0 [];exact(k3.mono V).mono ⟨u.sub,u.keep,u.shape,λ_ _ q=>q⟩,by
      intro z E;cases E;have V:Ext n [] w n [] w1:=G.ext0 [];exact⟨e,O,by simp,(v1.mono V).mono ⟨u.sub,u.keep,u.shape,λ_ _ q=>q⟩,(v2.mono V).mono ⟨u.sub,u.keep,u.shape,λ_ _ q=>q⟩⟩⟩)
   have Q:=G.trans B.2;have xt:Ext n [] w n [] {w1 with heap:=w1.heap.setIfInBounds b (.mapIter (some m) d (f.push e.born) d)}:=Q.ext0 [];refine⟨_,_,.tuple #[.bool true,e.key,e.val],_,n,[],.inr ⟨y,L,k1,rfl,rfl⟩,?_,
    ⟨[.bool true,e.key,e.val],rfl,_,_,rfl,rfl,_,_,rfl,(v1.mono xt).mono ⟨λ_ q=>q,λ_ _=>rfl,λ_ _ q=>q,λj c q=>by simp at q⟩,_,_,rfl,(v2.mono xt).mono ⟨λ_ q=>q,λ_ _=>rfl,λ_ _ q=>q,λj c q=>by simp at q⟩,rfl⟩,by simpa using B.1,Q⟩
   generalize a.eval=ρ at*;simp only[execOp,ho,q2,Vi,g3,Result.andThen,setBlock];rfl
theorem OpV.entry{e:A×A}(J:o.op=.entry x:=by exact rfl)(hx:opA env x=.ptr i 0:=by exact rfl)(hH:H[i]?=some (.iter (some e) es):=by exact rfl):OpV P o env H (.tup [e.1,e.2]):=by
 intro Q M σ N a w r;have n:=Qf r x;rw[hx]at n;obtain⟨b,p,y⟩:=n;rcases r.sim.blk i _ _ p hH with⟨_,h,_⟩|⟨m,l,d,k,left,t,L,z,R,G,O,T,B⟩
 .cases h
 .obtain⟨f,u,E,F,s⟩:=B e rfl;refine⟨.tuple #[f.key,f.val],?_,[f.key,f.val],rfl,_,_,rfl,F.mono ⟨λ_ q=>q,λ_ _=>rfl,λ_ _ q=>q,λj c q=>by simp at q⟩,_,_,rfl,s.mono ⟨λ_ q=>q,λ_ _=>rfl,λ_ _ q=>q,λj c q=>by simp at q⟩,rfl⟩;have g:l.find? (·.born==f.born)=some f:=by rw[<- Array.find?_toList];exact find_born f l.toList G u
  generalize a.eval=ρ at*;simp only[execOp,J,y,Instr.entry,getObj,Vi,Sem.run,t,z,Result.andThen,E,bne_self_eq_false,Xg,if_false,g];rfl
end
end
end Go.Sw
namespace Go.Sw
def Qgo{S E B:Type}(stepE:S->E->Option (Ctl S B))(stepN:S->Option B):S->List E->Option B
 |s,[]=>stepN s
 |s,e::p=>match stepE s e with
  |some (.cont s')=>Qgo stepE stepN s' p
  |some (.done b)=>some b
  |none=>none
def QcA{E:Type}(x:E):List E->List (List E)
 |[]=>[[x]]
 |y::l=>(x::y::l)::(QcA x l).map (y:: ·)
def Qeo{E:Type}:List E->List (List E)
 |[]=>[[]]
 |x::l=>(Qeo l).flatMap (QcA x)
theorem QdC{E:Type}(x:E):∀(a b:List E),a++x::b∈QcA x (a++b)
 |[],[]=>by simp[QcA]
 |[],y::b=>by simp[QcA]
 |y::a,b=>by
  simp only[VC,QcA,X2,Xe];exact .inr ⟨a++x::b,QdC x a b,rfl⟩
theorem Qen{E:Type}:∀(l p:List E),p.Perm l->p∈Qeo l
 |[],p,h=>by rw[List.perm_nil.1 h];simp[Qeo]
 |x::l,p,h=>by
  have hx:x∈p:=h.mem_iff.2 (by simp);obtain⟨a,b,rfl⟩:=List.append_of_mem hx;have h2:(a++b).Perm l:=(List.perm_cons x).1 ((List.perm_middle.symm).trans h);simp only[Qeo,List.mem_flatMap];exact⟨a++b,Qen l _ h2,QdC x a b⟩
def anyP{E R:Type}[DecidableEq R](k:List E->Option R)(l:List E):Option R:=bif (Qeo l).all (λp=>decide (k p=k l))then k l else none
theorem Qhm{E R:Type}[DecidableEq R]{k:List E->Option R}{l:List E}{r:R}(h:anyP k l=some r)(p:List E)(a:p.Perm l):k p=some r:=by
 unfold anyP at h;cases q:(Qeo l).all (λp=>decide (k p=k l))with
 |true=>
  rw[q]at h;have:=Xq.1 q p (Qen l p a);rw[Vq this];exact h
 |false=>rw[q]at h;cases h
def Qgg{S E B:Type}(stepE:S->E->Option (Ctl S B))(stepN:S->Option B)(G:B->Prop)(s:S)(l:List E):Prop:=∀p,p.Perm l->∃b,Qgo stepE stepN s p=some b/\G b
section
variable {P:Program} {o:Oper} {env:Env} {H:Qc} {h0 N:Nat} {Q:Qv} {c:Code}
def QbF(I:Env->Qc->Prop)(Q:Qv):Qv
 |.normal,env,H=>I env H
 |.exit id,env,H=>Q (.exit id) env H
 |.ret,env,H=>Q .ret env H
theorem Qjg{I:Nat->Env->Qc->Prop}(body:∀n env H,I n env H->TC P h0 N c env H (QbF (λenv H=>∃n',n'<n/\I n' env H) Q)){n:Nat}(B:I n env H):TC P h0 N (.loop c) env H Q:=by
 intro O j y σ a w r hrd b k cs hro hb hr;have F:∀m n env H fr1 ro1 σ1 a1 w1,n<m->I n env H->Rel fr1 ro1 σ1 H env N a1 w1->Qg j y w ro1 w1->σ1.take h0=σ.take h0->Grow j w a.defers fr1 a1.defers->
   ∃e g h,QaJ h0 j y σ w N a.defers Q e g h/\ArrivesIn (Machine.fenced P (WF O)) P (lone (b.atR a1 (.code c::.inLoop c::k)) cs w1) b k cs e g h:=by
  intro m
  induction m with
  |zero=>intro n env H fr1 ro1 σ1 a1 w1 hn;exact absurd hn (Xk _)
  |succ m W=>
   intro n env H fr1 ro1 σ1 a1 w1 hn B r1 ev1 t1 g1;obtain⟨e,g,h,z,d⟩:=body n env H B O fr1 ro1 σ1 a1 w1 r1 (hrd.to ev1 g1.sub) b (.inLoop c::k) cs hro hb hr;obtain⟨x,f,H',t,σ',s,u,p,L,Y,G,V⟩:=z;have l:=ev1.trans (Y.frMono g1.sub);have M:=g1.trans ev1.size V;have J:∀x,Q x f H'->ExR e x->QaJ h0 j y σ w N a.defers Q e g h:=λx q q'=>⟨x,f,H',t,σ',s,q',q,L,l,G.trans t1,M⟩;cases e with
   |normal=>
    obtain rfl:x=.normal:=u;obtain⟨n',R,p⟩:=p;obtain⟨T,X,w2,E,i⟩:=W n' f H' s t σ' g h (by omega) p L l (G.trans t1) M;exact⟨T,X,w2,E,.of_steps (StepsIn.trans d (.one (fenced_calm hb hr rfl) stepR_inLoop)) i⟩
   |exit id=>
    obtain rfl:x=.exit id:=u;exact⟨_,g,h,J _ p rfl,.pass (x:=.inLoop c) rfl (λ_ _=>.inl (by simp)) d⟩
   |ret=>
    obtain rfl:x=.ret:=u;exact⟨_,g,h,J _ p rfl,.pass (x:=.inLoop c) rfl (λ_ _=>.inl (by simp)) d⟩
   |_=>exact u.elim
 obtain⟨e,g,h,z,d⟩:=F (n+1) n env H j y σ a w (Xl _) B r (Qg.refl _ _ _) rfl (Grow.refl _ _ _);exact⟨e,g,h,z,.of_steps (.one (fenced_calm hb hr rfl) stepR_loop) d⟩
section
variable {S E B:Type} {stepE:S->E->Option (Ctl S B)} {stepN:S->Option B} {G:B->Prop} (Es:S->Env) (Hp:S->List (A×A)->Qc) {enc:E->A×A}
def AtP(stepE:S->E->Option (Ctl S B))(stepN:S->Option B)(G:B->Prop)(enc:E->A×A)(h0 n:Nat)(env:Env)(H:Qc):Prop:=
 ∃s l,l.length=n/\Qgg stepE stepN G s l/\Le h0 env H (Es s) (Hp s (l.map enc))
theorem Qjf{s0:S}{l0:List E}(h:Qgg stepE stepN G s0 l0)(hI:Le h0 env H (Es s0) (Hp s0 (l0.map enc)))
  (body:∀s l,Qgg stepE stepN G s l->TC P h0 N c (Es s) (Hp s (l.map enc)) (QbF (λenv H=>∃n',n'<l.length/\AtP Es Hp stepE stepN G enc h0 n' env H) Q)):TC P h0 N (.loop c) env H Q:=
 Qjg (I:=AtP Es Hp stepE stepN G enc h0) (λn env H ⟨s,l,hn,ha,hle⟩=>by subst hn;exact TC.le hle (body s l ha)) ⟨s0,l0,rfl,h,hI⟩
theorem Qep{α β:Type}{f:α->β}:∀{m e:List β},m.Perm e->∀{l:List α},e=l.map f->∃l':List α,l'.Perm l/\l'.map f=m:=by
 intro m e h
 induction h with
 |nil=>intro l d;exact⟨[],by rw[List.map_eq_nil_iff.1 d.symm],rfl⟩
 |cons x _ ih=>
  intro l d;cases l with
  |nil=>cases d
  |cons a l=>
   simp only[Vf,List.cons.injEq]at d;obtain⟨l',g,i⟩:=ih d.2;exact⟨a::l',g.cons _,by simp[i,d.1]⟩
 |swap x y m=>
  intro l d
  match l,d with
  |a::b::l,d=>
   simp only[Vf,List.cons.injEq]at d;exact⟨b::a::l,List.Perm.swap _ _ _,by simp[d.1,d.2.1,d.2.2]⟩
 |trans _ _ ih1 ih2=>
  intro l d;obtain⟨p,g,i⟩:=ih2 d;obtain⟨k,j,n⟩:=ih1 i.symm;exact⟨k,j.trans g,n⟩
theorem Qjb{all:Array Oper}{L:List Oper}{d i:Nat}{x:Operand}{t:Option (A×A)}{s:S}{l:List E}(hl:Qgg stepE stepN G s l)
  (w:∀b,stepN s=some b->G b->WO P h0 N all L (up env d (.tup [.bool false])) H Q)
  (z:∀e l' D,stepE s e=some D->(∀b,D=.done b->G b)->(l'.length<l.length/\ ∀s',D=.cont s'->Qgg stepE stepN G s' l')->
   WO P h0 N all L (up env d (.tup [.bool true,(enc e).1,(enc e).2])) (H.set i (.iter (some (enc e)) (l'.map enc))) Q)
  (F:o.op=.next x false:=by exact rfl)(hx:opA env x=.ptr i 0:=by exact rfl)(hH:H[i]?=some (.iter t (l.map enc)):=by exact rfl)
  (hg:Qm all o env true:=by exact rfl)(hd:o.dst=some d:=by exact rfl)(hN:Nat.blt d N=true:=by exact rfl)(hh:Nat.ble h0 H.length=true:=by exact rfl):WO P h0 N all (o::L) env H Q:=by
 refine QgI (XP hh) hg hd hN (OpE.next F hx hH) ?_;rintro v H' (⟨q,rfl,rfl⟩|⟨e,y,q,rfl,rfl⟩)
 .have:l=[]:=List.map_eq_nil_iff.1 q;subst this;obtain⟨b,k,h⟩:=hl [] (.refl _);exact w b k h
 .obtain⟨B,k,h⟩:=Qep q rfl;cases B with
  |nil=>cases h
  |cons a l'=>
   simp only[Vf,List.cons.injEq]at h;obtain⟨rfl,rfl⟩:=h;have j:l'.length<l.length:=by rw[<- k.length_eq];simp
   have f:∀p,p.Perm l'->∃b,Qgo stepE stepN s (a::p)=some b/\G b:=λp n=>hl _ ((n.cons a).trans k);cases m:stepE s a with
   |none=>
    obtain⟨b,g,_⟩:=f l' (.refl _);simp[Qgo,m]at g
   |some D=>
    refine z a l' D m ?_ ⟨j,?_⟩
    .rintro b rfl;obtain⟨u,g,r⟩:=f l' (.refl _);simp[Qgo,m]at g;subst g;exact r
    .rintro s' rfl p n;obtain⟨u,g,r⟩:=f p n;simp[Qgo,m]at g;exact⟨u,g,r⟩
theorem QkS{s:S}{l l':List E}{D:Ctl S B}(e:some (Ctl.cont s)=some D)(hc:l'.length<l.length/\ ∀s',D=.cont s'->Qgg stepE stepN G s' l')(h:Le h0 env H (Es s) (Hp s (l'.map enc))):
  QbF (λenv H=>∃n',n'<l.length/\AtP Es Hp stepE stepN G enc h0 n' env H) Q .normal env H:=
 ⟨_,hc.1,s,l',rfl,hc.2 _ (XV e).symm,h⟩
theorem QkR{I:Env->Qc->Prop}{id:Nat}(h:Q (.exit id) env H):QbF I Q (.exit id) env H:=h
end
def Qkw{B:Type}(h0:Nat)(G:B->Prop)(Eb:B->Env)(Hb:B->Qc)(Q:Qv):Qv
 |.normal,env,H=>∃b,G b/\Le h0 env H (Eb b) (Hb b)
 |.exit id,env,H=>Q (.exit id) env H
 |.ret,env,H=>Q .ret env H
theorem Qj5{S E B:Type}{stepE:S->E->Option (Ctl S B)}{stepN:S->Option B}{G:B->Prop}{s0:S}{l0:List E}(hl:Qgg stepE stepN G s0 l0)(Eb:B->Env)(Hb:B->Qc)
  (h:TC P h0 N c env H (Qkw h0 G Eb Hb Q))(k:∀b env H,G b->Le h0 env H (Eb b) (Hb b)->Q .normal env H):TC P h0 N c env H Q:=
 h.mono λx env' H' q=>by
  cases x with
  |normal=>obtain⟨b,e,q⟩:=q;exact k b _ _ e q
  |exit id=>exact q
  |ret=>exact q
theorem cutGN{B:Type}{G:B->Prop}{Eb:B->Env}{Hb:B->Qc}{b:B}(hG:G b)(h:Le h0 env H (Eb b) (Hb b)):Qkw h0 G Eb Hb Q .normal env H:=⟨b,hG,h⟩
theorem QeN{i:Nat}{k:Option (A×A)}{es:List (A×A)}{H':Qc}(hH:H[i]?=some (.iter k es))(f:H.set i (.iter none es)=H'):Le h0 env H env H':=by
 subst f;intro F u σ N a w r;refine⟨u,σ,⟨r.sim.weaken (x':=.iter none es) hH rfl ?_,r.env,r.size,r.defers⟩,λ_ q=>q,rfl⟩;intro y h;cases y with
 |none=>exact h
 |some b=>
  rcases h with⟨j,n,g⟩|⟨m,l,d,e,left,j,n,g,p,B,s,t,E⟩
  .exact .inl ⟨j,rfl,g⟩
  .exact .inr ⟨m,l,d,e,left,j,n,g,p,B,s,t,λx z=>by cases z⟩
end
end Go.Sw
