/- The rules by which the code is walked, with what they rest on (part 1). -/
import Derived.Calls
import Derived.Tactics
import Derived.Below
import Derived.TacticsIn
import Derived.OrdersIn
import Derived.RangeFuncLeaves
import Derived.RangeFuncRecord
import Derived.Laws.Strings
import Derived.Laws.World
import Derived.Orders
import Derived.Maps.Keyed
import Derived.Laws.StructEq
import Derived.Maps.RangeRun
import Derived.Shelf.SlSortCmp.NoneTotal
set_option linter.unusedVariables false
set_option linter.unusedSimpArgs false
set_option linter.unusedSectionVars false
namespace Go.Sw
abbrev Xa:= @List.getElem?_set_self
abbrev Xb:= @List.getElem?_set
abbrev Xc:= @List.pairwise_cons
abbrev Xd:= @List.mem_filter
abbrev Xe:= @List.mem_map
abbrev Xf:= @List.map_append
abbrev Xg:= @Bool.not_false
abbrev Xh:= @Bool.false_eq_true
abbrev Xi:= @Option.map_some
abbrev Xj:= @Nat.succ_mul
abbrev Xk:= @Nat.lt_succ_self
abbrev Xl:= @List.getElem?_map
abbrev Xm:= @List.drop_eq_getElem_cons
abbrev Xn:= @List.drop_length
abbrev Xo:= @List.all_eq_true
abbrev Xp:= @List.any_eq_true
abbrev Xq:= @Array.toList_inj
abbrev Xr:= @Nat.zero_add
abbrev Xs:= @Nat.add_zero
abbrev Xt:= @List.length_take
abbrev Xu:= @List.take_append_drop
abbrev Xv:= @Nat.add_mul
abbrev Xw:= @Nat.min_eq_left
abbrev Xx:= @Nat.mul_le_mul_right
abbrev Xy:= @List.getElem?_cons_zero
abbrev Xz:= @List.getElem?_cons_succ
abbrev XA:= @List.getElem?_toArray
abbrev XB:= @Sem.run_ite
abbrev XC:= @List.map_toArray
abbrev XD:= @Option.bind_some
abbrev XE:= @List.getElem?_eq_getElem
abbrev XF:= @List.getElem?_eq_some_iff
abbrev XG:= @List.getElem?_append_left
abbrev XH:= @List.getElem?_append_right
abbrev XI:= @List.getElem?_eq_none
abbrev XJ:= @List.getElem?_set_ne
abbrev XK:= @Nat.eq_of_beq_eq_true
abbrev XL:= @Nat.le_of_ble_eq_true
abbrev XM:= @Nat.le_refl
abbrev XN:= @Nat.zero_le
abbrev XO:= @Nat.le_trans
abbrev XP:= @Bool.and_eq_true
abbrev XQ:= @Bool.or_eq_false_iff
abbrev XR:= @Bool.eq_iff_iff
abbrev XS:= @Option.some.inj
abbrev XT:= @List.length_cons
abbrev XU:= @List.length_map
abbrev XV:= @List.length_append
abbrev XW:= @List.length_set
abbrev XX:= @List.mem_cons_of_mem
abbrev XY:= @List.mem_cons
abbrev XZ:= @List.take_append_of_le_length
abbrev X0:= @List.drop_append_of_le_length
abbrev X2:= @List.take_length
abbrev X3:= @List.drop_length_add_append
abbrev X4:= @List.take_length_add_append
abbrev X5:= @Array.getElem?_eq_some_iff
abbrev X6:= @List.getElem_mem
abbrev X7:= @Array.getElem?_setIfInBounds
abbrev X8:= @Nat.lt_of_lt_of_le
abbrev X9:= @List.append_nil
abbrev Va:= @List.nil_append
abbrev Vb:= @List.append_assoc
abbrev Vc:= @List.map_cons
abbrev Vd:= @List.map_nil
abbrev Ve:= @List.flatten_cons
abbrev Vf:= @Sem.run_bind
abbrev Vg:= @Sem.run_pure
abbrev Vh:= @cond_true
abbrev Vi:= @cond_false
abbrev Vj:= @if_neg
abbrev Vk:= @if_pos
abbrev Vl:= @decide_eq_false
abbrev Vm:= @List.mem_singleton
abbrev Vn:= @Nat.lt_or_ge
abbrev Vo:= @List.mem_append
abbrev Vp:= @List.pairwise_iff_getElem
abbrev Vq:= @Nat.beq_refl
abbrev Vr:= @List.mem_map_of_mem
abbrev Vs:= @List.mem_of_getElem?
abbrev Vt:= @List.take_of_length_le
abbrev Vu:= @List.length_eq_zero_iff
abbrev Vv:= @List.cons_append
abbrev Vw:= @List.getD_eq_getElem?_getD
abbrev Vx:= @Bool.eq_false_iff
def QgJ:Nat:=0
def nG:Nat:=1
def QfG:List (List Int):=[]
theorem gOk:((List.range nG).all λb=>Nat.beq b QgJ|| !(QfG.getD b []).isEmpty)=true:=by decide
theorem gLt:Nat.ble QfG.length nG=true:=by decide
theorem Qjw:Nat.blt QgJ nG=true:=by decide
structure GP (w:World):Prop where
 max:∃m:Int,w.cell? ⟨QgJ,0,none⟩=some (.int .i64 m)
 tab:∀(g:Nat) (zs:List Int),QfG[g]?=some zs->∀(i:Nat) (z:Int),zs[i]?=some z->w.cell? ⟨g,i,none⟩=some (.int .i64 z)
theorem GP.keep{w w':World}(h:∀b,b<nG->w'.heap[b]?=w.heap[b]?)(g:GP w):GP w':=by
 obtain⟨m,e⟩:=g.max;refine⟨⟨m,?_⟩,λd j a i z f=>?_⟩
 .rw[<- e];unfold World.cell?;rw[h QgJ (by simpa using Qjw)]
 .rw[<- g.tab d j a i z f];unfold World.cell?;have k:=(XF.1 a).1;have l:QfG.length<=nG:=by simpa using gLt
  rw[h d (by omega)]
theorem QdZ{w:World}{b i:Nat}{v:Value}(h:w.cell? ⟨b,i,none⟩=some v):b<w.heap.size:=by
 cases e:w.heap[b]? with
 |none=>simp[World.cell?,e]at h
 |some o=>exact(X5.1 e).1
theorem GP.size{w:World}(g:GP w)(b:Nat)(f:b<nG):b<w.heap.size:=by
 have h:=Xo.1 gOk b (List.mem_range.2 f);rw[Bool.or_eq_true]at h;rcases h with h|h
 .obtain⟨m,d⟩:=g.max;rw[XK h];exact QdZ d
 .cases e:QfG[b]? with
  |none=>rw[Vw,e]at h;simp at h
  |some a=>
   cases a with
   |nil=>rw[Vw,e]at h;simp at h
   |cons z a=>exact QdZ (g.tab b _ e 0 z rfl)
inductive A where
 |any
 |bool (b:Bool)
 |int (k:IntKind) (n:Int)
 |str (s:List UInt8)
 |nilp
 |ptr (i off:Nat)
 |rp (cs:List A)
 |nils
 |rsl (k:Nat) (es:List (List A))
 |osl (i o n k:Nat)
 |agg (cs:List A)
 |fn (f:Fn) (first cap:List A)
 |nilf
 |iface (t:Nat) (v:A)
 |nilif
 |map (i:Nat)
 |nilm
 |tup (vs:List A)
abbrev Sig:=List (Option Nat)
def Qv:Value->Prop
 |.agg _|.tuple _=>False
 |_=>True
mutual
def VR(ro:Nat->Prop)(σ:Sig)(w:World):A->Value->Prop
 |.any,_=>True
 |.bool b,v=>v=.bool b
 |.int k n,v=>v=.int k n
 |.str s,v=>v=.string ⟨s.toArray⟩
 |.nilp,v=>v=.pointer none
 |.ptr i off,v=>∃b,σ[i]?=some (some b)/\v=.pointer (some ⟨b,off,none⟩)
 |.rp cs,v=>∃b off,v=.pointer (some ⟨b,off,none⟩)/\ro b/\CR ro [] w b cs off
 |.nils,v=>v=.slice none 0 0
 |.rsl k es,v=>∃a cap,v=.slice a es.length cap/\es.length<=cap/\
   (es=[]\/ ∃b off,a=some ⟨b,off,none⟩/\ro b/\RR ro [] w b k es off)
 |.osl i o n k,v=>(n=0/\v=.slice none 0 0)\/
   ∃b p cap t m,σ[i]?=some (some b)/\v=.slice (some ⟨b,p,none⟩) n cap/\(0<cap->p=o*k)/\(n<=cap/\cap<=9223372036854775807)/\w.shape? b=some (t,m)/\(o+cap)*k<=m
 |.agg cs,v=>∃l:List Value,v=.agg l.toArray/\LR ro σ w cs l
 |.fn f first cap,v=>∃l l':List Value,v=.func f l.toArray l'.toArray/\LR ro σ w first l/\LR ro σ w cap l'
 |.nilf,v=>v=.nilFunc
 |.iface t a,v=>∃x,v=.iface t x/\VR ro σ w a x
 |.nilif,v=>v=.nilIface
 |.map i,v=>∃b,σ[i]?=some (some b)/\v=.map (some b)
 |.nilm,v=>v=.map none
 |.tup vs,v=>∃l:List Value,v=.tuple l.toArray/\LR ro σ w vs l
def CR(ro:Nat->Prop)(σ:Sig)(w:World)(b:Nat):List A->Nat->Prop
 |[],_=>True
 |a::r,off=>(∃v,w.cell? ⟨b,off,none⟩=some v/\Qv v/\VR ro σ w a v)/\CR ro σ w b r (off+1)
def RR(ro:Nat->Prop)(σ:Sig)(w:World)(b k:Nat):List (List A)->Nat->Prop
 |[],_=>True
 |cs::r,off=>cs.length=k/\CR ro σ w b cs off/\RR ro σ w b k r (off+k)
def LR(ro:Nat->Prop)(σ:Sig)(w:World):List A->List Value->Prop
 |[],l=>l=[]
 |a::r,l=>∃v l',l=v::l'/\VR ro σ w a v/\LR ro σ w r l'
end
structure Ext (ro:Nat->Prop) (σ:Sig) (w:World) (ro':Nat->Prop) (σ':Sig) (w':World):Prop where
 sub:∀b,ro b->ro' b
 keep:∀b,ro b->w'.heap[b]?=w.heap[b]?
 shape:∀b x,w.shape? b=some x->w'.shape? b=some x
 sig:∀(i b:Nat),σ[i]?=some (some b)->σ'[i]?=some (some b)
theorem Qd0{w w':World}{b a:Nat}(h:w'.heap[b]?=w.heap[b]?):w'.cell? ⟨b,a,none⟩=w.cell? ⟨b,a,none⟩:=by
 simp only[World.cell?,h]
theorem Ext.nil{ro ro':Nat->Prop}{σ σ':Sig}{w w':World}(h:Ext ro σ w ro' σ' w'):Ext ro [] w ro' [] w':=
 ⟨h.sub,h.keep,h.shape,λ_ _ q=>q⟩
mutual
theorem VR.mono{ro ro':Nat->Prop}{w w':World}:∀{a:A} {σ σ':Sig} {v:Value},Ext ro σ w ro' σ' w'->VR ro σ w a v->VR ro' σ' w' a v
 |.any,_,_,_,h,_=>trivial
 |.bool b,_,_,v,h,q=>q
 |.int k n,_,_,v,h,q=>q
 |.str s,_,_,v,h,q=>q
 |.nilp,_,_,v,h,q=>q
 |.ptr i off,_,_,v,h,q=>by
  simp only[VR]at q⊢;obtain⟨b,h1,h2⟩:=q;exact⟨b,h.sig _ _ h1,h2⟩
 |.rp cs,_,_,v,h,q=>by
  simp only[VR]at q⊢;obtain⟨b,off,h1,h2,h3⟩:=q;exact⟨b,off,h1,h.sub _ h2,CR.mono h.nil h2 h3⟩
 |.nils,_,_,v,h,q=>q
 |.rsl k es,_,_,v,h,q=>by
  simp only[VR]at q⊢;obtain⟨a,cap,h1,h2,h3⟩:=q;refine⟨a,cap,h1,h2,?_⟩;rcases h3 with h3|⟨b,off,h4,h5,h6⟩
  .exact .inl h3
  .exact .inr ⟨b,off,h4,h.sub _ h5,RR.mono h.nil h5 h6⟩
 |.osl i o n k,_,_,v,h,q=>by
  simp only[VR]at q⊢;rcases q with q|⟨b,p,cap,t,m,h1,h2,h6,h3,h4,h5⟩
  .exact .inl q
  .exact .inr ⟨b,p,cap,t,m,h.sig _ _ h1,h2,h6,h3,h.shape _ _ h4,h5⟩
 |.agg cs,_,_,v,h,q=>by
  simp only[VR]at q⊢;obtain⟨l,h1,h2⟩:=q;exact⟨l,h1,LR.mono h h2⟩
 |.fn f a c,_,_,v,h,q=>by
  simp only[VR]at q⊢;obtain⟨l,l',h1,h2,h3⟩:=q;exact⟨l,l',h1,LR.mono h h2,LR.mono h h3⟩
 |.nilf,_,_,v,h,q=>q
 |.iface t a,_,_,v,h,q=>by
  simp only[VR]at q⊢;obtain⟨x,h1,h2⟩:=q;exact⟨x,h1,VR.mono h h2⟩
 |.nilif,_,_,v,h,q=>q
 |.map i,_,_,v,h,q=>by
  simp only[VR]at q⊢;obtain⟨b,h1,h2⟩:=q;exact⟨b,h.sig _ _ h1,h2⟩
 |.nilm,_,_,v,h,q=>q
 |.tup vs,_,_,v,h,q=>by
  simp only[VR]at q⊢;obtain⟨l,h1,h2⟩:=q;exact⟨l,h1,LR.mono h h2⟩
theorem CR.mono{ro ro':Nat->Prop}{w w':World}:∀{cs:List A} {σ σ':Sig} {b off:Nat},Ext ro σ w ro' σ' w'->ro b->CR ro σ w b cs off->CR ro' σ' w' b cs off
 |[],_,_,_,_,_,_,_=>trivial
 |a::r,_,_,b,off,h,hb,q=>by
  simp only[CR]at q⊢;obtain⟨⟨v,h1,hp,h2⟩,h3⟩:=q;exact⟨⟨v,by rw[Qd0 (h.keep _ hb)];exact h1,hp,VR.mono h h2⟩,CR.mono h hb h3⟩
theorem RR.mono{ro ro':Nat->Prop}{w w':World}:∀{es:List (List A)} {σ σ':Sig} {b k off:Nat},Ext ro σ w ro' σ' w'->ro b->RR ro σ w b k es off->RR ro' σ' w' b k es off
 |[],_,_,_,_,_,_,_,_=>trivial
 |cs::r,_,_,b,k,off,h,hb,q=>by
  simp only[RR]at q⊢;obtain⟨h1,h2,h3⟩:=q;exact⟨h1,CR.mono h hb h2,RR.mono h hb h3⟩
theorem LR.mono{ro ro':Nat->Prop}{w w':World}:∀{az:List A} {σ σ':Sig} {l:List Value},Ext ro σ w ro' σ' w'->LR ro σ w az l->LR ro' σ' w' az l
 |[],_,_,_,h,q=>q
 |a::r,_,_,l,h,q=>by
  simp only[LR]at q⊢;obtain⟨v,l',h1,h2,h3⟩:=q;exact⟨v,l',h1,VR.mono h h2,LR.mono h h3⟩
end
structure Ent where
 fl:Bool
 off:Nat
 lo:Int
 hi:Int
def winL(i n c:Nat):List (List A):=(List.range c).map λj=>[.osl i (j*n) n 1]
def eC(b1 b2:Nat)(e:Ent):List A:=[.ptr (bif e.fl then b2 else b1) e.off,.int .i64 e.lo,.int .i64 e.hi]
inductive Blk where
 |dead
 |cells (t:Nat) (cs:List A)
 |row (t k:Nat) (es:List (List A))
 |rowr (t k:Nat) (es:List (List A))
 |map (es:List (A×A))
 |iter (cur:Option (A×A)) (es:List (A×A))
 |fmap (es:List (A×A))
 |ents (t b1 b2:Nat) (es:List Ent)
 |wins (t b n c:Nat)
 |mapO (fz:Bool) (t k:Nat) (es:List (A×Option (List (List A))))
 |mapP (es:List (A×A))
 |frow (t k:Nat) (es:List (List A))
def Blk.live:Blk->Bool
 |.dead=>false
 |.fmap _=>false
 |.frow _ _ _=>false
 |.mapO fz _ _ _=> !fz
 |_=>true
def Blk.held:Blk->Bool
 |.mapO fz _ _ _=>fz
 |_=>false
def Blk.holds(x:Blk):Bool:=x.live||x.held
theorem Qa0{x:Blk}(h:x.live=true):x≠ .dead:=by rintro rfl;cases h
theorem QeK{x:Blk}(h:x.holds=true):x≠ .dead:=by rintro rfl;cases h
theorem Qa1{x:Blk}(h:x.live=true):x.holds=true:=by unfold Blk.holds;rw[h];rfl
abbrev Qc:=List Blk
def ER(ro:Nat->Prop)(σ:Sig)(w:World):List (A×A)->List MapEntry->Prop
 |[],l=>l=[]
 |x::r,l=>∃e l',l=e::l'/\VR ro σ w x.1 e.key/\VR ro σ w x.2 e.val/\ER ro σ w r l'
def ItR(ro:Nat->Prop)(w:World)(b:Nat)(cur:Option (A×A))(es:List (A×A)):Prop:=
 (es=[]/\cur=none/\w.heap[b]?=some (.mapIter none 0 #[] 0))\/
 ∃m l clock seen left,w.heap[b]?=some (.mapIter (some m) clock seen clock)/\ro m/\w.heap[m]?=some (.map l clock)/\(∀e∈l.toList,e.born<clock)/\(l.toList.map (·.born)).Nodup/\
  (left:List MapEntry).Perm (l.toList.filter λe=> !seen.contains e.born)/\ER ro [] w es left/\
  (∀x,cur=some x->∃e∈l.toList,seen.back? =some e.born/\VR ro [] w x.1 e.key/\VR ro [] w x.2 e.val)
def RL(ro:Nat->Prop)(σ:Sig)(w:World)(k:Nat):List (List A)->List Value->Prop
 |[],_=>True
 |c::es,l=>∃l1 l2,l=l1++l2/\c.length=k/\(LR ro σ w c l1/\ ∀v∈l1,Qv v)/\RL ro σ w k es l2
theorem RL.mono{ro ro':Nat->Prop}{σ σ':Sig}{w w':World}(h:Ext ro σ w ro' σ' w'){k:Nat}:∀{es:List (List A)} {l:List Value},RL ro σ w k es l->RL ro' σ' w' k es l
 |[],_,_=>trivial
 |c::es,l,⟨l1,l2,h1,h2,h3,h4⟩=>⟨l1,l2,h1,h2,⟨h3.1.mono h,h3.2⟩,RL.mono h h4⟩
def SO(ro:Nat->Prop)(w:World)(t k:Nat)(rows:List (List A))(v:Value):Prop:=
 (rows=[]/\v=.slice none 0 0)\/ ∃(c p cap:Nat) (vs:List Value),v=.slice (some ⟨c,p,none⟩) rows.length cap/\(rows.length<=cap/\cap<=9223372036854775807)/\w.heap[c]?=some (.cells vs.toArray t (0,0))/\cap*k<=vs.length/\RL ro [] w k rows vs/\(0<cap->p=0)
def MO(ro:Nat->Prop)(w:World)(t k:Nat):List (A×Option (List (List A)))->List MapEntry->Prop
 |[],l=>l=[]
 |x::r,l=>∃e l',l=e::l'/\VR ro [] w x.1 e.key/\(∀rows,x.2=some rows->SO ro w t k rows e.val)/\MO ro w t k r l'
def QeE:List (A×Option (List (List A)))->List MapEntry->Nat->Prop
 |x::r,e::l,c=>(x.2.isSome=true/\ ∃p n cap,e.val=.slice (some ⟨c,p,none⟩) n cap)\/QeE r l c
 |_,_,_=>False
def Qio:List (A×Option (List (List A)))->List MapEntry->Prop
 |x::r,e::l=>(∀c,x.2.isSome=true->(∃p n cap,e.val=.slice (some ⟨c,p,none⟩) n cap)->¬QeE r l c)/\Qio r l
 |_,_=>True
def Hid(w:World):Blk->Nat->Nat->Prop
 |.mapO _ _ _ es,b,c=>∃l clock,w.heap[b]?=some (.map l clock)/\QeE es l.toList c
 |_,_,_=>False
theorem Hid.keep{w w':World}{x:Blk}{b c:Nat}(h:w'.heap[b]?=w.heap[b]?)(q:Hid w' x b c):Hid w x b c:=by
 cases x with
 |mapO fz t k f=>obtain⟨l,a,e,d⟩:=q;exact⟨l,a,by grind,d⟩
 |_=>exact q.elim
theorem Hid.holds{w:World}{x:Blk}{b c:Nat}(q:Hid w x b c):x.holds=true:=by
 cases x with
 |mapO fz t k a=>cases fz<;>rfl
 |_=>exact q.elim
theorem MO.mono{ro ro':Nat->Prop}{σ σ':Sig}{w w':World}(h:Ext ro σ w ro' σ' w'){t k:Nat}:∀{es:List (A×Option (List (List A)))} {l:List MapEntry},(∀c,QeE es l c->w'.heap[c]?=w.heap[c]?)->MO ro w t k es l->MO ro' w' t k es l
 |[],_,_,q=>q
 |x::r,_,hh,⟨e,l',h1,h2,h3,h4⟩=>by
  subst h1;refine⟨e,l',rfl,h2.mono h.nil,λrows hr=>?_,MO.mono h (λc hc=>hh c (.inr hc)) h4⟩;rcases h3 rows hr with q|⟨c,p,cap,vs,q1,q2,q3,q4,q5,q6⟩
  .exact .inl q
  .exact .inr ⟨c,p,cap,vs,q1,q2,by rw[hh c (.inl (by grind))];exact q3,q4,q5.mono h.nil,q6⟩
theorem MO.cells{ro:Nat->Prop}{w:World}{t k:Nat}:∀{es:List (A×Option (List (List A)))} {l:List MapEntry} {c:Nat},MO ro w t k es l->QeE es l c->∃vs:Array Value,w.heap[c]?=some (.cells vs t (0,0))
 |[],l,c,h,q=>by cases l<;>exact q.elim
 |x::r,_,c,⟨e,l',h1,h2,h3,h4⟩,q=>by
  subst h1;rcases q with⟨q1,p,n,cap,q2⟩|q
  .obtain⟨rows,hr⟩:=Option.isSome_iff_exists.1 q1;rcases h3 rows hr with⟨_,z⟩|⟨c',p',cap',vs,z1,z2,z3,z4,z5,z6⟩
   .grind
   grind
  .exact MO.cells h4 q
def Born(l:Array MapEntry)(clock:Nat):Prop:=clock=l.size/\ ∀(i:Nat) (e:MapEntry),l.toList[i]?=some e->e.born=i
def BR(ro:Nat->Prop)(σ:Sig)(w:World):Blk->Option Nat->Prop
 |.dead,_=>True
 |.cells t cs,some b=>∃l:List Value,w.heap[b]?=some (.cells l.toArray t (0,0))/\LR ro σ w cs l/\ ∀v∈l,Qv v
 |.row t k es,some b=>∃l:List Value,w.heap[b]?=some (.cells l.toArray t (0,0))/\RL ro [] w k es l
 |.rowr t k es,some b=>∃l:List Value,w.heap[b]?=some (.cells l.toArray t (0,0))/\RL ro σ w k es l
 |.row _ _ es,none=>es=[]
 |.ents t b1 b2 es,some b=>∃l:List Value,w.heap[b]?=some (.cells l.toArray t (0,0))/\RL ro σ w 3 (es.map (eC b1 b2)) l
 |.ents _ _ _ es,none=>es=[]
 |.wins t b n c,some d=>∃l:List Value,w.heap[d]?=some (.cells l.toArray t (0,0))/\RL ro σ w 1 (winL b n c) l
 |.wins _ _ _ c,none=>c=0
 |.map es,some b=>∃l clock,w.heap[b]?=some (.map l clock)/\ER ro [] w es l.toList/\
   (∀e∈l.toList,e.born<clock)/\(l.toList.map (·.born)).Nodup/\(l.toList.map (·.key)).Nodup
 |.mapP es,some b=>∃l clock,w.heap[b]?=some (.map l clock)/\ER ro σ w es l.toList/\
   (∀e∈l.toList,e.born<clock)/\(l.toList.map (·.born)).Nodup/\(l.toList.map (·.key)).Nodup
 |.frow t k es,some b=>ro b/\ ∃l:List Value,w.heap[b]?=some (.cells l.toArray t (0,0))/\RL ro [] w k es l/\l.length=es.length*k
 |.iter cur es,some b=>ItR ro w b cur es
 |.mapO fz t k es,some b=>(fz=true->ro b)/\ ∃l clock,w.heap[b]?=some (.map l clock)/\MO ro w t k es l.toList/\Qio es l.toList/\
   (∀e∈l.toList,e.born<clock)/\(l.toList.map (·.born)).Nodup/\(l.toList.map (·.key)).Nodup/\Born l clock
 |.fmap es,some b=>ro b/\ ∃l clock,w.heap[b]?=some (.map l clock)/\ER ro [] w es l.toList/\
   (∀e∈l.toList,e.born<clock)/\(l.toList.map (·.born)).Nodup/\(l.toList.map (·.key)).Nodup
 |_,none=>False
structure RoOk (ro:Nat->Prop) (w:World):Prop where
 lt:∀b,ro b->b<w.heap.size
 g:∀b,b<nG->ro b
 gp:GP w
theorem RoOk.to{ro ro':Nat->Prop}{w w':World}(h:RoOk ro w)(sub:∀b,ro b->ro' b)(keep:∀b,ro b->w'.heap[b]?=w.heap[b]?)(lt:∀b,ro' b->b<w'.heap.size):RoOk ro' w':=
 ⟨lt,λb hb=>sub b (h.g b hb),h.gp.keep λb hb=>keep b (h.g b hb)⟩
structure Qjg (fr ro:Nat->Prop) (σ:Sig) (H:Qc) (w:World) (i0 b0 c:Nat):Prop where
 lt:c<w.heap.size
 ro:¬ro c
 fr:¬fr c
 ne:∀(j b:Nat) (y:Blk),σ[j]?=some (some b)->H[j]?=some y->y.live=true->c≠b
 one:∀(j b:Nat) (y:Blk),σ[j]?=some (some b)->H[j]?=some y->Hid w y b c->b=b0/\j=i0
structure Sim (fr ro:Nat->Prop) (σ:Sig) (H:Qc) (w:World):Prop where
 len:σ.length=H.length
 roOk:RoOk ro w
 frLt:∀b,fr b->b<w.heap.size
 roFr:∀b,ro b->¬fr b
 own:∀(i b:Nat) (blk:Blk),σ[i]?=some (some b)->H[i]?=some blk->blk.live=true->b<w.heap.size/\ ¬ro b/\ ¬fr b
 inj:∀(i j b:Nat) (x y:Blk),σ[i]?=some (some b)->σ[j]?=some (some b)->H[i]?=some x->H[j]?=some y->x.live=true->y.live=true->i=j
 blk:∀(i:Nat) (s:Option Nat) (x:Blk),σ[i]?=some s->H[i]?=some x->BR ro σ w x s
 hid:∀(i b:Nat) (x:Blk) (c:Nat),σ[i]?=some (some b)->H[i]?=some x->Hid w x b c->Qjg fr ro σ H w i b c
theorem Sim.roHeld{fr ro:Nat->Prop}{σ:Sig}{H:Qc}{w:World}(s:Sim fr ro σ H w){i b:Nat}{x:Blk}(d:σ[i]?=some (some b))(e:H[i]?=some x)(a:x.held=true):ro b:=by
 have h:=s.blk i _ x d e;cases x with
 |mapO fz t k f=>exact h.1 a
 |_=>cases a
theorem Sim.hidKeep{fr ro:Nat->Prop}{σ:Sig}{H:Qc}{w w':World}(s:Sim fr ro σ H w){i b c:Nat}{x:Blk}(g:σ[i]?=some (some b))(f:H[i]?=some x)
  (e:x.live=true->w'.heap[b]?=w.heap[b]?)(d:∀b,ro b->w'.heap[b]?=w.heap[b]?)(q:Hid w' x b c):Hid w x b c:=by
 refine q.keep ?_;have h:=q.holds;cases a:x.live with
 |true=>exact e a
 |false=>unfold Blk.holds at h;rw[a]at h;exact d b (s.roHeld g f h)
theorem Sim.hidTo{fr fr' ro n:Nat->Prop}{σ σ':Sig}{H H':Qc}{w w':World}(s:Sim fr ro σ H w)(R:Nat->Nat->Prop)(T:∀j j' a,R j a->R j' a->j=j')(z:w.heap.size<=w'.heap.size)
  (M:∀(i b:Nat) (x:Blk) (c:Nat),σ[i]?=some (some b)->H[i]?=some x->Hid w x b c->n c->ro c)
  (G:∀(i b:Nat) (x:Blk) (c:Nat),σ[i]?=some (some b)->H[i]?=some x->Hid w x b c->fr' c->fr c)
  (h:∀(j d:Nat) (y:Blk),σ'[j]?=some (some d)->H'[j]?=some y->y.holds=true->
   (∃(a:Nat) (l:Blk),R j a/\σ[a]?=some (some d)/\H[a]?=some l/\(y.live=true->l.live=true)/\ ∀c,Hid w' y d c->Hid w l d c)\/(w.heap.size<=d/\ ∀c,Hid w' y d c->False)):
  ∀(i b:Nat) (x:Blk) (c:Nat),σ'[i]?=some (some b)->H'[i]?=some x->Hid w' x b c->Qjg fr' n σ' H' w' i b c:=by
 intro i b x c J N E;rcases h i b x J N E.holds with⟨a,l,X,L,P,V,O⟩|⟨_,g⟩
 .have k:=s.hid a b l c L P (O c E);refine⟨X8 k.lt z,λq=>k.ro (by grind),λq=>k.fr (by grind),λj d y p u m=>?_,λj d y p u m=>?_⟩
  .rcases h j d y p u (Qa1 m)with⟨B,y1,_,t,r,F,_⟩|⟨f,_⟩
   .exact k.ne B d y1 t r (F m)
   .exact λe=>by have:=k.lt;omega
  .rcases h j d y p u m.holds with⟨B,y1,Y,t,r,F,Q⟩|⟨_,f⟩
   .obtain⟨W,e2⟩:=k.one B d y1 t r (Q c m)
    grind
   grind
 grind
theorem QU(j j' j0:Nat)(h:j=j0)(h':j'=j0):j=j':=h.trans h'.symm
theorem Sim.roLt{fr ro:Nat->Prop}{σ:Sig}{H:Qc}{w:World}(s:Sim fr ro σ H w):∀b,ro b->b<w.heap.size:=s.roOk.lt
structure Qj (fr ro:Nat->Prop) (w:World) (ro':Nat->Prop) (w':World):Prop where
 sub:∀b,ro b->ro' b
 keepRo:∀b,ro b->w'.heap[b]?=w.heap[b]?
 keepFr:∀b,fr b->w'.heap[b]?=w.heap[b]?
 size:w.heap.size<=w'.heap.size
 shape:∀b x,w.shape? b=some x->w'.shape? b=some x
 os:w'.os=w.os
 tape:w'.tape=w.tape
 output:w'.output=w.output
 drawn:w.drawn<=w'.drawn
theorem Qj.refl(fr ro:Nat->Prop)(w:World):Qj fr ro w ro w:=
 ⟨λ_ h=>h,λ_ _=>rfl,λ_ _=>rfl,XM _,λ_ _ h=>h,rfl,rfl,rfl,XM _⟩
theorem Qj.trans{fr ro ro1 ro2:Nat->Prop}{w w1 w2:World}(h:Qj fr ro w ro1 w1)(k:Qj fr ro1 w1 ro2 w2):Qj fr ro w ro2 w2:=
 ⟨λb q=>k.sub _ (h.sub _ q),λb q=>(k.keepRo _ (h.sub _ q)).trans (h.keepRo _ q),λb q=>(k.keepFr _ q).trans (h.keepFr _ q),
  XO h.size k.size,λb x q=>k.shape _ _ (h.shape _ _ q),k.os.trans h.os,k.tape.trans h.tape,k.output.trans h.output,XO h.drawn k.drawn⟩
theorem Qby{σ τ:Sig}{i b:Nat}(h:σ[i]?=some (some b)):(σ++τ)[i]?=some (some b):=by
 grind
theorem Qj.ext{fr ro ro':Nat->Prop}{w w':World}(h:Qj fr ro w ro' w')(σ τ:Sig):Ext ro σ w ro' (σ++τ) w':=
 ⟨h.sub,h.keepRo,h.shape,λ_ _=>Qby⟩
theorem Qj.ext0{fr ro ro':Nat->Prop}{w w':World}(h:Qj fr ro w ro' w')(σ:Sig):Ext ro σ w ro' σ w':=
 ⟨h.sub,h.keepRo,h.shape,λ_ _ q=>q⟩
theorem ER.mono{ro ro':Nat->Prop}{σ σ':Sig}{w w':World}(h:Ext ro σ w ro' σ' w'):∀{es:List (A×A)} {l:List MapEntry},ER ro σ w es l->ER ro' σ' w' es l
 |[],_,q=>q
 |x::r,l,q=>by
  simp only[ER]at q⊢;obtain⟨e,l',h1,h2,h3,h4⟩:=q;exact⟨e,l',h1,h2.mono h,h3.mono h,ER.mono h h4⟩
theorem ItR.keep{ro d:Nat->Prop}{σ σ':Sig}{w w':World}(h:Ext ro σ w d σ' w'){b:Nat}(F:w'.heap[b]?=w.heap[b]?){f:Option (A×A)}{es:List (A×A)}
  (q:ItR ro w b f es):ItR d w' b f es:=by
 rcases q with⟨k,i,j⟩|⟨m,l,a,g,left,k,i,j,n,r,z,B,s⟩
 .exact .inl ⟨k,i,by grind⟩
 .refine .inr ⟨m,l,a,g,left,by grind,h.sub _ i,by rw[h.keep _ i];exact j,n,r,z,B.mono h.nil,λx p=>?_⟩;obtain⟨e,u,y,E,t⟩:=s x p;exact⟨e,u,y,E.mono h.nil,t.mono h.nil⟩
theorem CR.keep{ro ro':Nat->Prop}{σ σ':Sig}{w w':World}(h:Ext ro σ w ro' σ' w'){b:Nat}(hb:w'.heap[b]?=w.heap[b]?):
  ∀{cs:List A} {off:Nat},CR ro σ w b cs off->CR ro' σ' w' b cs off
 |[],_,_=>trivial
 |a::r,off,q=>by
  simp only[CR]at q⊢;obtain⟨⟨v,h1,hp,h2⟩,h3⟩:=q;exact⟨⟨v,by rw[Qd0 hb];exact h1,hp,h2.mono h⟩,CR.keep h hb h3⟩
theorem RR.keep{ro ro':Nat->Prop}{σ σ':Sig}{w w':World}(h:Ext ro σ w ro' σ' w'){b:Nat}(hb:w'.heap[b]?=w.heap[b]?){k:Nat}:
  ∀{es:List (List A)} {off:Nat},RR ro σ w b k es off->RR ro' σ' w' b k es off
 |[],_,_=>trivial
 |cs::r,off,q=>by
  simp only[RR]at q⊢;obtain⟨h1,h2,h3⟩:=q;exact⟨h1,CR.keep h hb h2,RR.keep h hb h3⟩
theorem BR.keep{ro m:Nat->Prop}{σ σ':Sig}{w w':World}(h:Ext ro σ w m σ' w'){x:Blk}{s:Option Nat}
  (g:∀b,s=some b->x.live=true->w'.heap[b]?=w.heap[b]?)(q:BR ro σ w x s)(p:∀b c,s=some b->Hid w x b c->w'.heap[c]?=w.heap[c]?):BR m σ' w' x s:=by
 cases x with
 |mapO fz t k j=>
  cases s with
  |none=>exact q
  |some b=>
   obtain⟨i,l,c,a,e,f⟩:=q;refine⟨λz=>h.sub b (i z),l,c,?_,e.mono h (λd u=>p b d rfl ⟨l,c,a,u⟩),f⟩;cases fz with
   |false=>rw[g b rfl rfl];exact a
   |true=>rw[h.keep b (i rfl)];exact a
 |dead=>trivial
 |cells t y=>
  cases s with
  |none=>exact q
  |some b=>
   obtain⟨l,a,e,f⟩:=q;exact⟨l,by rw[g b rfl rfl];exact a,e.mono h,f⟩
 |row t k j=>
  cases s with
  |none=>exact q
  |some b=>
   obtain⟨l,a,e⟩:=q;exact⟨l,by rw[g b rfl rfl];exact a,e.mono h.nil⟩
 |rowr t k j=>
  cases s with
  |none=>exact q.elim
  |some b=>
   obtain⟨l,a,e⟩:=q;exact⟨l,by rw[g b rfl rfl];exact a,e.mono h⟩
 |wins t b n c=>
  cases s with
  |none=>exact q
  |some d=>
   obtain⟨l,a,e⟩:=q;exact⟨l,by rw[g d rfl rfl];exact a,e.mono h⟩
 |ents t E B j=>
  cases s with
  |none=>exact q
  |some b=>
   obtain⟨l,a,e⟩:=q;exact⟨l,by rw[g b rfl rfl];exact a,e.mono h⟩
 |map j=>
  cases s with
  |none=>exact q
  |some b=>
   obtain⟨l,c,a,e,f⟩:=q;exact⟨l,c,by rw[g b rfl rfl];exact a,e.mono h.nil,f⟩
 |mapP j=>
  cases s with
  |none=>exact q
  |some b=>
   obtain⟨l,c,a,e,f⟩:=q;exact⟨l,c,by rw[g b rfl rfl];exact a,e.mono h,f⟩
 |frow t k j=>
  cases s with
  |none=>exact q
  |some b=>
   obtain⟨i,l,a,e,f⟩:=q;exact⟨h.sub b i,l,by rw[h.keep b i];exact a,e.mono h.nil,f⟩
 |iter r j=>
  cases s with
  |none=>exact q
  |some b=>exact ItR.keep h (g b rfl rfl) q
 |fmap j=>
  cases s with
  |none=>exact q
  |some b=>
   obtain⟨i,l,c,a,e,f⟩:=q;exact⟨h.sub b i,l,c,by rw[h.keep b i];exact a,e.mono h.nil,f⟩
abbrev Env:=List (Nat×A)
def lk:Env->Nat->A
 |[],_=>.any
 |(d,a)::r,s=>bif Nat.beq s d then a else lk r s
abbrev up(env:Env)(d:Nat)(a:A):Env:=(d,a)::env
inductive AEx where
 |normal|exit (id:Nat)|ret
abbrev Qx:=AEx->Env->Qc->Prop
def QjJ(fr:Nat->Prop)(w:World)(d:Deferred):Prop:=∃D,d={target:=.collected D,args:= #[]}/\fr D/\w.heap[D]?=some (.deferred (some []))
def Qgo(d:Deferred):Prop:=∃fv cap,d={target:=.fn fv cap,args:= #[]}
def QaN(fr:Nat->Prop)(ds:List Deferred)(w:World):Prop:=ds.Nodup/\ ∀d∈ds,QjJ fr w d\/Qgo d
theorem QaN.mark{fr:Nat->Prop}{a:List Deferred}{w:World}(h:QaN fr a w){D:Nat}(g:({target:=.collected D,args:= #[]}:Deferred)∈a):fr D/\w.heap[D]?=some (.deferred (some [])):=by
 rcases h.2 _ g with⟨D',e,d,i⟩|⟨f,c,e⟩
 .have:D=D':=by simpa using e
  subst this;exact⟨d,i⟩
 .simp at e
theorem QaN.to{fr fr':Nat->Prop}{a:List Deferred}{w w':World}(h:QaN fr a w)(k:∀D,({target:=.collected D,args:= #[]}:Deferred)∈a->fr D->w.heap[D]?=some (.deferred (some []))->fr' D/\w'.heap[D]?=some (.deferred (some []))):QaN fr' a w':=by
 refine⟨h.1,λd f=>?_⟩;rcases h.2 d f with⟨D,e,l,i⟩|q
 .obtain⟨g,j⟩:=k D (e▸f) l i;exact .inl ⟨D,e,g,j⟩
 .exact .inr q
theorem QaN.keep{fr ro ro':Nat->Prop}{ds:List Deferred}{w w':World}(h:QaN fr ds w)(k:Qj fr ro w ro' w'):QaN fr ds w':=
 h.to λD _ h2 h3=>⟨h2,(k.keepFr D h2).trans h3⟩
structure Grow (fr:Nat->Prop) (w:World) (ds:List Deferred) (fr':Nat->Prop) (ds':List Deferred):Prop where
 sub:∀b,fr b->fr' b
 new:∀b,fr' b->fr b\/w.heap.size<=b
 kd:∀d∈ds,d∈ds'
 ds:∀d∈ds',d∈ds\/ ∃D,d={target:=.collected D,args:= #[]}/\w.heap.size<=D
theorem Grow.refl(fr:Nat->Prop)(w:World)(ds:List Deferred):Grow fr w ds fr ds:=⟨λ_ h=>h,λ_ h=>.inl h,λ_ h=>h,λ_ h=>.inl h⟩
theorem Grow.trans{fr g e:Nat->Prop}{w i:World}{ds f a:List Deferred}(h:Grow fr w ds g f)(j:w.heap.size<=i.heap.size)(k:Grow g i f e a):Grow fr w ds e a:=by
 refine⟨λb q=>k.sub b (h.sub b q),λb q=>?_,λd q=>k.kd d (h.kd d q),λd q=>?_⟩
 .rcases k.new b q with q|q
  .exact h.new b q
  omega
 .rcases k.ds d q with q|⟨D,l,m⟩
  .exact h.ds d q
  grind
theorem Qj.frMono{fr fr' ro ro':Nat->Prop}{w w':World}(h:Qj fr' ro w ro' w')(s:∀b,fr b->fr' b):Qj fr ro w ro' w':=
 ⟨h.sub,h.keepRo,λb q=>h.keepFr b (s b q),h.size,h.shape,h.os,h.tape,h.output,h.drawn⟩
theorem Sim.frMono{fr fr' ro:Nat->Prop}{σ:Sig}{H:Qc}{w:World}(h:Sim fr' ro σ H w)(s:∀b,fr b->fr' b):Sim fr ro σ H w:=
 ⟨h.len,h.roOk,λb q=>h.frLt b (s b q),λb q r=>h.roFr b q (s b r),λi b x q1 q2 q3=>let⟨a,b',c⟩:=h.own i b x q1 q2 q3;(by grind),h.inj,h.blk,λi b x c q1 q2 q3=>let k:=h.hid i b x c q1 q2 q3;⟨k.lt,k.ro,λq=>k.fr (s c q),k.ne,k.one⟩⟩
structure Rel (fr ro:Nat->Prop) (σ:Sig) (H:Qc) (env:Env) (N:Nat) (a:Act) (w:World):Prop where
 sim:Sim fr ro σ H w
 env:∀s,VR ro σ w (lk env s) (a.tmps.getD s undef)
 size:a.tmps.size=N
 defers:QaN fr a.defers w
def Qch(rd:Option Nat)(fr:Nat->Prop)(w:World):Prop:=∀l,rd=some l->fr l/\ ∃r,w.heap[l]?=some (.loop r)
theorem Qav{fr:Nat->Prop}{w:World}:Qch none fr w:=λl e=>by cases e
theorem Qch.to{rd:Option Nat}{fr fr' ro ro':Nat->Prop}{w w':World}(h:Qch rd fr w)(k:Qj fr ro w ro' w')(s:∀b,fr b->fr' b):Qch rd fr' w':=λl e=>by
 obtain⟨h1,r,h2⟩:=h l e;exact⟨s l h1,r,(k.keepFr l h1).trans h2⟩
def ExR:Exit->AEx->Prop
 |.normal,x=>x=.normal
 |.exit id,x=>x=.exit id
 |.ret,x=>x=.ret
 |_,_=>False
def Qan(h0:Nat)(fr ro:Nat->Prop)(σ:Sig)(w:World)(N:Nat)(ds:List Deferred)(Q:Qx):Exit->Act->World->Prop:=
 λe a' w'=>∃x env' H' ro' σ' fr',ExR e x/\Q x env' H'/\Rel fr' ro' σ' H' env' N a' w'/\Qj fr ro w ro' w'/\σ'.take h0=σ.take h0/\Grow fr w ds fr' a'.defers
theorem Qan.grow{i:Nat}{fr g ro a:Nat->Prop}{σ σ1:Sig}{w m:World}{N:Nat}{l f:List Deferred}{Q:Qx}{e:Exit}{a':Act}{w':World}
  (h:Qan i g a σ1 m N f Q e a' w')(he:Qj fr ro w a m)(s:σ1.take i=σ.take i)(hg:Grow fr w l g f):Qan i fr ro σ w N l Q e a' w':=by
 obtain⟨x,d,H',j,σ',k,r,t,q,n,p,u⟩:=h;exact⟨x,d,H',j,σ',k,r,t,q,he.trans (n.frMono hg.sub),p.trans s,hg.trans he.size u⟩
theorem Qan.step{h0:Nat}{fr ro ro1:Nat->Prop}{σ σ1:Sig}{w w1:World}{N:Nat}{ds:List Deferred}{Q:Qx}{e:Exit}{a':Act}{w':World}
  (h:Qan h0 fr ro1 σ1 w1 N ds Q e a' w')(he:Qj fr ro w ro1 w1)(hs:σ1.take h0=σ.take h0):Qan h0 fr ro σ w N ds Q e a' w':=h.grow he hs (Grow.refl _ _ _)
theorem Qan.mono{i:Nat}{fr ro:Nat->Prop}{σ:Sig}{w:World}{N:Nat}{g:List Deferred}{Q Q':Qx}{e:Exit}{a':Act}{w':World}
  (h:Qan i fr ro σ w N g Q e a' w')(m:∀x env H,Q x env H->Q' x env H):Qan i fr ro σ w N g Q' e a' w':=by
 obtain⟨x,a,H',d,σ',f,k,l,j⟩:=h;exact⟨x,a,H',d,σ',f,k,m _ _ _ l,j⟩
def Qa7(h0:Nat)(fr ro:Nat->Prop)(σ:Sig)(w:World)(N:Nat)(ds:List Deferred)(Q:Qx):Exit->Act->World->Prop:=
 λe a' w'=>∃x env' H' ro' σ' fr',ExR e x/\Q x env' H'/\Rel fr' ro' σ' H' env' N a' w'/\Qj fr ro w ro' w'/\σ'.take h0=σ.take h0/\a'.defers=ds/\Grow fr w ds fr' ds
theorem Qa7.grow{i:Nat}{fr f ro a:Nat->Prop}{σ σ1:Sig}{w l:World}{N:Nat}{g:List Deferred}{Q:Qx}{e:Exit}{a':Act}{w':World}
  (h:Qa7 i f a σ1 l N g Q e a' w')(he:Qj fr ro w a l)(r:σ1.take i=σ.take i)(hg:Grow fr w g f g):Qa7 i fr ro σ w N g Q e a' w':=by
 obtain⟨x,d,H',j,σ',k,q,s,p,m,n,t,u⟩:=h;exact⟨x,d,H',j,σ',k,q,s,p,he.trans (m.frMono hg.sub),n.trans r,t,hg.trans he.size u⟩
theorem Qa7.step{h0:Nat}{fr ro ro1:Nat->Prop}{σ σ1:Sig}{w w1:World}{N:Nat}{ds:List Deferred}{Q:Qx}{e:Exit}{a':Act}{w':World}
  (h:Qa7 h0 fr ro1 σ1 w1 N ds Q e a' w')(he:Qj fr ro w ro1 w1)(hs:σ1.take h0=σ.take h0):Qa7 h0 fr ro σ w N ds Q e a' w':=h.grow he hs (Grow.refl _ _ _)
theorem Qa7.mono{i:Nat}{fr ro:Nat->Prop}{σ:Sig}{w:World}{N:Nat}{g:List Deferred}{Q Q':Qx}{e:Exit}{a':Act}{w':World}
  (h:Qa7 i fr ro σ w N g Q e a' w')(m:∀x env H,Q x env H->Q' x env H):Qa7 i fr ro σ w N g Q' e a' w':=by
 obtain⟨x,a,H',d,σ',f,k,l,j⟩:=h;exact⟨x,a,H',d,σ',f,k,m _ _ _ l,j⟩
theorem Qa7.postW{i:Nat}{fr ro:Nat->Prop}{σ:Sig}{w:World}{N:Nat}{g:List Deferred}{Q:Qx}{e:Exit}{a':Act}{w':World}
  (h:Qa7 i fr ro σ w N g Q e a' w'):Qan i fr ro σ w N g Q e a' w':=by
 obtain⟨x,a,H',d,σ',f,m,n,l,j,k,p,q⟩:=h;exact⟨x,a,H',d,σ',f,m,n,l,j,k,by grind⟩
def WF(rd:Option Nat):Fence:={Fence.wide with round:=rd}
theorem WF.calls{rd:Option Nat}{P:Program}{f:FuncId}{args:Array Value}{w:World}{R:Ending->World->Prop}:CallsIn (WF rd) 0 P f args w R↔Calls P f args w R:=callsIn_wide
abbrev wpL(P:Program)(rd:Option Nat)(ops:Array Oper)(Q:Exit->Act->World->Prop):List Oper->Act->World->Prop:=wpListIn (WF rd) 0 P ops Q
def TC(P:Program)(h0 N:Nat)(c:Code)(env:Env)(H:Qc)(Q:Qx):Prop:=
 ∀rd fr ro σ a w,Rel fr ro σ H env N a w->Qch rd fr w->c.wpIn (WF rd) 0 P (Qan h0 fr ro σ w N a.defers Q) a w
def WO(P:Program)(h0 N:Nat)(all:Array Oper)(l:List Oper)(env:Env)(H:Qc)(Q:Qx):Prop:=
 ∀rd fr ro σ a w,Rel fr ro σ H env N a w->Qch rd fr w->wpL P rd all (Qa7 h0 fr ro σ w N a.defers Q) l a w
def Le(h0:Nat)(env:Env)(H:Qc)(env':Env)(H':Qc):Prop:=
 ∀fr ro σ N a w,Rel fr ro σ H env N a w->∃ro' σ',Rel fr ro' σ' H' env' N a w/\(∀b,ro b->ro' b)/\σ'.take h0=σ.take h0
theorem Le.refl(h0:Nat)(env:Env)(H:Qc):Le h0 env H env H:=λfr ro σ N a w h=>(by grind)
theorem Le.trans{e:Nat}{e1 e2 g:Env}{H1 H2 H3:Qc}(h:Le e e1 H1 e2 H2)(k:Le e e2 H2 g H3):Le e e1 H1 g H3:=by
 intro f l σ N a w r;obtain⟨d,σ1,j,q,m⟩:=h f l σ N a w r;obtain⟨i,σ2,p,s,n⟩:=k f d σ1 N a w j
 grind
theorem QR{fr ro ro':Nat->Prop}{w:World}(h:∀b,ro b->ro' b):Qj fr ro w ro' w:=
 ⟨h,λ_ _=>rfl,λ_ _=>rfl,XM _,λ_ _ h=>h,rfl,rfl,rfl,XM _⟩
theorem Q1{P:Program}{rd:Option Nat}{ops:Array Oper}{Q Q':Exit->Act->World->Prop}(hq:∀e a w,Q e a w->Q' e a w):
  ∀(l:List Oper) (a:Act) (w:World),wpL P rd ops Q l a w->wpL P rd ops Q' l a w
 |[],a,w,h=>hq _ _ _ h
 |o::l,a,w,h=>by
  unfold wpL wpListIn at h⊢;split
  .rename_i hw;rw[Vk hw]at h;obtain⟨h1,h2⟩:=h;refine⟨h1,?_⟩
   revert h2
   generalize(o.semAt (WF rd).round a.eval).run P w=r;intro h2;have hk:=λa w=>Q1 (P:=P) (rd:=rd) (ops:=ops) hq l a w;cases r with
   |ok x w=>
    cases x with
    |value v=>exact hk _ _ h2
    |skip=>exact hk _ _ h2
    |defer d=>exact hk _ _ h2
    |enter f args=>
     refine⟨h2.1,CallsIn.mono h2.2 ?_⟩;intro e w' q;cases e with
     |returned v=>grind
     |panicked c=>grind
     |outgrown=>obtain⟨a,w,q⟩:=q;exact⟨a,w,hq _ _ _ q⟩
    |row r args=>exact⟨h2.1,RowsIn.mono h2.2 λv w' q=>hk _ _ q⟩
    |round l f tmps assign body=>
     refine⟨h2.1,RoundIn.mono h2.2 ?_⟩;intro e w' q;cases e with
     |returned v=>grind
     |panicked c=>grind
     |outgrown=>obtain⟨a,w,q⟩:=q;exact⟨a,w,hq _ _ _ q⟩
    |_=>exact h2
   |halt x w=>
    cases x with
    |panic v=>exact hq _ _ _ h2
    |_=>exact h2
  .rename_i hw;rw[Vj hw]at h;exact⟨h.1,Q1 hq l _ _ h.2⟩
theorem QbO{P:Program}{o:Oper}{a:Act}{w w':World}{x:Next}{rd:Option Nat}(h:(execOp a.eval o).run P w=.ok x w')(g:∀d,x≠ .defer d):(o.semAt (WF rd).round a.eval).run P w=.ok x w':=by
 cases e:o.op with
 |defer c=>
  have:execOp a.eval o=(do pure (.defer (<- resolve a.eval c o.type))):=by simp[execOp,e]
  rw[this]at h;simp[Vf]at h;generalize(resolve a.eval c o.type).run P w=r at h;cases r with
  |ok d f=>simp[go_sem]at h;grind
  |halt x f=>simp_all
 |_=>grind[Oper.semAt_eq]
theorem YO{P:Program}{rd:Option Nat}{ops:Array Oper}{Q:Exit->Act->World->Prop}{o:Oper}{l:List Oper}{a:Act}{w w':World}{v:Value}(f:Region.wanted o (yielded ops a.tmps)=true)
  (h:(execOp a.eval o).run P w=.ok (.value v) w')(k:wpL P rd ops Q l (a.put o.dst v) w'):wpL P rd ops Q (o::l) a w:=by
 unfold wpL wpListIn;rw[Vk f];exact⟨λ_ _=>trivial,by rw[QbO h (λd e=>by cases e)];exact k⟩
theorem Qhm{P:Program}{rd:Option Nat}{ops:Array Oper}{Q:Exit->Act->World->Prop}{o:Oper}{l:List Oper}{a:Act}{w w':World}(f:Region.wanted o (yielded ops a.tmps)=true)
  (h:(execOp a.eval o).run P w=.ok .skip w')(k:wpL P rd ops Q l (a.put o.dst undef) w'):wpL P rd ops Q (o::l) a w:=by
 unfold wpL wpListIn;rw[Vk f];exact⟨λ_ _=>trivial,by rw[QbO h (λd e=>by cases e)];exact k⟩
theorem QdI{P:Program}{rd:Option Nat}{ops:Array Oper}{Q:Exit->Act->World->Prop}{o:Oper}{l:List Oper}{a:Act}{w w':World}{f:FuncId}{args:Array Value}(g:Region.wanted o (yielded ops a.tmps)=true)
  (h:(execOp a.eval o).run P w=.ok (.enter f args) w')(k:Calls P f args w' λe w''=>∃v,e=.returned v/\wpL P rd ops Q l (a.put o.dst v) w''):wpL P rd ops Q (o::l) a w:=by
 unfold wpL wpListIn;rw[Vk g];refine⟨λ_ _=>trivial,?_⟩;rw[QbO h (λd e=>by cases e)];refine⟨λh=>by simp[WF,Fence.wide]at h,WF.calls.2 (Calls.mono k ?_)⟩
 grind
section
variable {P:Program} {h0 N:Nat} {env env':Env} {H H':Qc} {Q Q':Qx} {c c':Code}
theorem TC.mono(h:TC P h0 N c env H Q)(hq:∀x env H,Q x env H->Q' x env H):TC P h0 N c env H Q':=
 λrd fr ro σ a w r hrd=>Code.wpIn_mono (λe a w q=>q.mono hq) (h rd fr ro σ a w r hrd)
theorem Qm(f:Le h0 env H env' H')(h:TC P h0 N c env' H' Q):TC P h0 N c env H Q:=by
 intro k g j σ a w r hrd;obtain⟨d,σ',i,s,t⟩:=f g j σ N a w r;exact Code.wpIn_mono (λe a w q=>q.step (QR s) t) (h k g d σ' a w i hrd)
theorem Qq{all:Array Oper}{l:List Oper}(f:Le h0 env H env' H')(h:WO P h0 N all l env' H' Q):WO P h0 N all l env H Q:=by
 intro k g j σ a w r hrd;obtain⟨d,σ',i,s,t⟩:=f g j σ N a w r;exact Q1 (λe a w q=>q.step (QR s) t) _ _ _ (h k g d σ' a w i hrd)
theorem WO.mono{all:Array Oper}{l:List Oper}(h:WO P h0 N all l env H Q)(hq:∀x env H,Q x env H->Q' x env H):WO P h0 N all l env H Q':=
 λrd fr ro σ a w r hrd=>Q1 (λe a w q=>q.mono hq) _ _ _ (h rd fr ro σ a w r hrd)
def Seq(P:Program)(h0 N:Nat)(c:Code)(Q:Qx):Qx
 |.normal,env,H=>TC P h0 N c env H Q
 |.exit id,env,H=>Q (.exit id) env H
 |.ret,env,H=>Q .ret env H
def Blo(id:Nat)(Q:Qx):Qx
 |.normal,env,H=>Q .normal env H
 |.exit id',env,H=>bif Nat.beq id' id then Q .normal env H else Q (.exit id') env H
 |.ret,env,H=>Q .ret env H
theorem TC.seq(h:TC P h0 N c env H (Seq P h0 N c' Q)):TC P h0 N (.seq c c') env H Q:=by
 intro p s y σ a w r hrd;refine wpIn_seq (Code.wpIn_mono ?_ (h p s y σ a w r hrd));rintro e u t ⟨x,d,H',f,σ',g,j,n,m,i,l,k⟩;cases e with
 |normal=>
  obtain rfl:x=.normal:=j;exact Code.wpIn_mono (λe a w q=>q.grow i l k) (n p g f σ' u t m (hrd.to i k.sub))
 |exit id=>
  obtain rfl:x=.exit id:=j;exact⟨_,d,H',f,σ',g,rfl,n,m,i,l,k⟩
 |ret=>
  obtain rfl:x=.ret:=j;exact⟨_,d,H',f,σ',g,rfl,n,m,i,l,k⟩
 |_=>exact j.elim
theorem TC.skip(h:Q .normal env H):TC P h0 N .skip env H Q:=
 λrd fr ro σ a w r hrd=>wpIn_skip ⟨_,env,H,ro,σ,fr,rfl,h,r,Qj.refl _ _ _,rfl,Grow.refl _ _ _⟩
theorem TC.ret(h:Q .ret env H):TC P h0 N .ret env H Q:=
 λrd fr ro σ a w r hrd=>wpIn_ret ⟨_,env,H,ro,σ,fr,rfl,h,r,Qj.refl _ _ _,rfl,Grow.refl _ _ _⟩
theorem TC.exit{id:Nat}(h:Q (.exit id) env H):TC P h0 N (.exit id) env H Q:=
 λrd fr ro σ a w r hrd=>wpIn_exit ⟨_,env,H,ro,σ,fr,rfl,h,r,Qj.refl _ _ _,rfl,Grow.refl _ _ _⟩
theorem TC.block{id:Nat}(h:TC P h0 N c env H (Blo id Q)):TC P h0 N (.block id c) env H Q:=by
 intro t q s σ a w r hrd;refine wpIn_block (Code.wpIn_mono ?_ (h t q s σ a w r hrd));rintro e u y ⟨x,d,H',f,σ',g,n,j,m,k,l,p⟩;cases e with
 |normal=>
  obtain rfl:x=.normal:=n;exact⟨_,d,H',f,σ',g,rfl,j,m,k,l,p⟩
 |exit i=>
  obtain rfl:x=.exit i:=n;simp[Exit.inBlock];simp only[Blo]at j;by_cases e:i=id
  .subst e;rw[Vk rfl];rw[Vq]at j;exact⟨_,d,H',f,σ',g,rfl,j,m,k,l,p⟩
  .rw[Vj e];have:Nat.beq i id=false:=by
    simp_all[Vx]
   rw[this]at j;exact⟨_,d,H',f,σ',g,rfl,j,m,k,l,p⟩
 |ret=>
  obtain rfl:x=.ret:=n;exact⟨_,d,H',f,σ',g,rfl,j,m,k,l,p⟩
 |_=>exact n.elim
def opA(env:Env):Operand->A
 |.tmp t=>lk env t
 |.const (.bool b)=>.bool b
 |.const (.int k n)=>.int k n
 |.const (.string s)=>.str s.data.toList
 |.const (.pointer none)=>.nilp
 |.const (.slice none 0 0)=>.nils
 |.const (.map none)=>.nilm
 |.const .nilFunc=>.nilf
 |.const .nilIface=>.nilif
 |.func f=>.fn (.func f) [] []
 |_=>.any
theorem Ql{fr ro:Nat->Prop}{σ:Sig}{a:Act}{w:World}(r:Rel fr ro σ H env N a w)(x:Operand):VR ro σ w (opA env x) (a.eval x):=by
 cases x with
 |tmp t=>exact r.env t
 |const v=>
  cases v with
  |slice a n k=>
   cases a with
   |none=>
    cases n with
    |zero=>cases k with
     |zero=>rfl
     |succ k=>trivial
    |succ n=>trivial
   |some a=>trivial
  |pointer p=>cases p with
   |none=>rfl
   |some p=>trivial
  |map p=>cases p with
   |none=>rfl
   |some p=>trivial
  |string s=>rfl
  |_=>simp_all[opA,VR,Act.eval]
 |global g=>trivial
 |func f=>exact⟨[],[],rfl,rfl,rfl⟩
theorem TC.cond{x:Operand}{t:Bool}(i:opA env x=.bool t)(j:t=true->TC P h0 N c env H Q)(k:t=false->TC P h0 N c' env H Q):
  TC P h0 N (.cond x c c') env H Q:=by
 intro h f d σ a w r hrd;have g:=Ql r x;rw[i]at g;exact wpIn_cond_split g (λe=>j e h f d σ a w r hrd) (λe=>k e h f d σ a w r hrd)
theorem QhH{t:Array Value}{d s:Nat}{v:Value}(a:d<t.size):(t.setIfInBounds d v).getD s undef=if s=d then v else t.getD s undef:=by
 simp[Array.getD_eq_getD_getElem?]
 grind
theorem VR.up{fr ro:Nat->Prop}{σ:Sig}{a:Act}{w:World}(r:∀s,VR ro σ w (lk env s) (a.tmps.getD s undef)){d:Nat}(f:d<a.tmps.size){x:A}{v:Value}(g:VR ro σ w x v):
  ∀s,VR ro σ w (lk (up env d x) s) ((a.tmps.setIfInBounds d v).getD s undef):=by
 intro s;rw[QhH f];simp only[lk];by_cases e:s=d
 .simp_all
 .have:Nat.beq s d=false:=by
   simp_all[Vx]
  grind
def Qt(all:Array Oper)(o:Oper)(env:Env)(b:Bool):Prop:=
 match o.guard with
 |none=>b=true
 |some (j,c)=>∃d,(all[j]?).bind (·.dst)=some d/\((∃x,lk env d=.bool x/\b=(x==c))\/(lk env d=.tup []/\b=false))
theorem Yo{all:Array Oper}{o:Oper}{b:Bool}(h:Qt all o env b){fr ro:Nat->Prop}{σ:Sig}{a:Act}{w:World}(r:Rel fr ro σ H env N a w):
  Region.wanted o (yielded all a.tmps)=b:=by
 unfold Qt at h;unfold Region.wanted;cases i:o.guard with
 |none=>grind
 |some g=>
  rw[i]at h;obtain⟨d,k,⟨x,f,j⟩|⟨f,j⟩⟩:=h
  .have e:=r.env d;rw[f]at e;simp only[VR]at e;have n:a.tmps[d]?=some (.bool x):=by
    rw[Array.getD_eq_getD_getElem?]at e
    grind[undef]
   simp_all[yielded]
  .have e:=r.env d;rw[f]at e;obtain⟨l,e,m⟩:=e;rw[Array.getD_eq_getD_getElem?]at e;simp[yielded,k]
   grind
def OpV(P:Program)(o:Oper)(env:Env)(H:Qc)(x:A):Prop:=
 ∀fr ro σ N a w,Rel fr ro σ H env N a w->∃v,(execOp a.eval o).run P w=.ok (.value v) w/\VR ro σ w x v
def OpH(P:Program)(o:Oper)(env:Env)(H:Qc)(x:A)(H':Qc):Prop:=
 ∀fr ro σ N a w,Rel fr ro σ H env N a w->∃v w' ro' τ,(execOp a.eval o).run P w=.ok (.value v) w'/\VR ro' (σ++τ) w' x v/\
  Sim fr ro' (σ++τ) H' w'/\Qj fr ro w ro' w'
def OpU(P:Program)(o:Oper)(env:Env)(H:Qc)(H':Qc):Prop:=
 ∀fr ro σ N a w,Rel fr ro σ H env N a w->∃w' ro' τ,(execOp a.eval o).run P w=.ok .skip w'/\
  Sim fr ro' (σ++τ) H' w'/\Qj fr ro w ro' w'
theorem WO.nil{all:Array Oper}(h:Q .normal env H):WO P h0 N all [] env H Q:=
 λrd fr ro σ a w r hrd=>⟨_,env,H,ro,σ,fr,rfl,h,r,Qj.refl _ _ _,rfl,rfl,Grow.refl _ _ _⟩
theorem QB{σ τ:Sig}{a:Nat}(h:a<=σ.length):(σ++τ).take a=σ.take a:=by
 grind
theorem QfN{all:Array Oper}{o:Oper}{l:List Oper}{d:Nat}{x:A}(m:h0<=H.length)(hg:Qt all o env true)(y:o.dst=some d)(E:Nat.blt d N=true)
  (i:OpH P o env H x H')(k:WO P h0 N all l (up env d x) H' Q):WO P h0 N all (o::l) env H Q:=by
 intro B fr u σ a w r hrd;obtain⟨v,j,f,τ,p,z,n,g⟩:=i fr u σ N a w r;refine YO (Yo hg r) p ?_;simp[y];have h:d<N:=by simp_all
 have t:Rel fr f (σ++τ) H' (up env d x) N {a with tmps:=a.tmps.setIfInBounds d v} j:=
  ⟨n,VR.up (fr:=fr) (λs=>(r.env s).mono (g.ext σ τ)) (by rw[r.size];exact h) z,by simpa using r.size,r.defers.keep g⟩
 refine Q1 (λe a w q=>q.step g (QB ?_)) _ _ _ (k B fr f (σ++τ) _ j t (hrd.to g λ_ q=>q));rw[r.sim.len];exact m
theorem Yq{all:Array Oper}{o:Oper}{l:List Oper}{d:Nat}{x:A}(hg:Qt all o env true)(i:o.dst=some d)(n:Nat.blt d N=true)
  (f:OpV P o env H x)(k:WO P h0 N all l (up env d x) H Q):WO P h0 N all (o::l) env H Q:=by
 intro m fr g σ a w r hrd;obtain⟨v,h,j⟩:=f fr g σ N a w r;refine YO (Yo hg r) h ?_;simp[i];have e:d<N:=by simp_all
 exact k m fr g σ {a with tmps:=a.tmps.setIfInBounds d v} w ⟨r.sim,VR.up (fr:=fr) r.env (by rw[r.size];exact e) j,by simpa using r.size,r.defers⟩ hrd
theorem Qia{all:Array Oper}{o:Oper}{l:List Oper}(j:h0<=H.length)(hg:Qt all o env true)(u:o.dst=none)
  (h:OpU P o env H H')(k:WO P h0 N all l env H' Q):WO P h0 N all (o::l) env H Q:=by
 intro x g t σ a w r hrd;obtain⟨i,d,τ,n,m,f⟩:=h g t σ N a w r;refine Qhm (Yo hg r) n ?_;simp[u];have p:Rel g d (σ++τ) H' env N a i:=⟨m,λs=>(r.env s).mono (f.ext σ τ),r.size,r.defers.keep f⟩;refine Q1 (λe a w q=>q.step f (QB ?_)) _ _ _ (k x g d (σ++τ) _ i p (hrd.to f λ_ q=>q));rw[r.sim.len];exact j
theorem QjG{all:Array Oper}{o:Oper}{l:List Oper}{x:A}(j:h0<=H.length)(hg:Qt all o env true)(u:o.dst=none)
  (h:OpH P o env H x H')(k:WO P h0 N all l env H' Q):WO P h0 N all (o::l) env H Q:=by
 intro y g t σ a w r hrd;obtain⟨v,i,d,τ,n,z,m,f⟩:=h g t σ N a w r;refine YO (Yo hg r) n ?_;simp[u];have p:Rel g d (σ++τ) H' env N a i:=⟨m,λs=>(r.env s).mono (f.ext σ τ),r.size,r.defers.keep f⟩;refine Q1 (λe a w q=>q.step f (QB ?_)) _ _ _ (k y g d (σ++τ) _ i p (hrd.to f λ_ q=>q));rw[r.sim.len];exact j
theorem WO.skip{all:Array Oper}{o:Oper}{l:List Oper}{d:Nat}(hg:Qt all o env false)(g:o.dst=some d)(i:Nat.blt d N=true)
  (k:WO P h0 N all l (up env d (.tup [])) H Q):WO P h0 N all (o::l) env H Q:=by
 intro h fr f σ a w r hrd;unfold wpL wpListIn;rw[Yo hg r,Vj (by simp)];refine⟨λ_ _=>trivial,?_⟩;simp[g];have e:d<N:=by simp_all
 exact k h fr f σ {a with tmps:=a.tmps.setIfInBounds d undef} w ⟨r.sim,VR.up (fr:=fr) r.env (by rw[r.size];exact e) ⟨[],rfl,rfl⟩,by simpa using r.size,r.defers⟩ hrd
theorem TC.region{id:Nat}{l:List Oper}(h:WO P h0 N l.toArray l env H Q):TC P h0 N (.region id l.toArray false) env H Q:=
 λrd fr ro σ a w r hrd=>Code.wpIn_mono (λe a w q=>q.postW) (wpIn_region_lit (h rd fr ro σ a w r hrd))
end
mutual
def Yw(ρ:Nat->Nat):A->A
 |.ptr i off=>.ptr (ρ i) off
 |.osl i o n k=>.osl (ρ i) o n k
 |.agg cs=>.agg (Qag ρ cs)
 |.fn f a c=>.fn f (Qag ρ a) (Qag ρ c)
 |.iface t v=>.iface t (Yw ρ v)
 |.map i=>.map (ρ i)
 |.tup vs=>.tup (Qag ρ vs)
 |a=>a
def Qag(ρ:Nat->Nat):List A->List A
 |[]=>[]
 |a::r=>Yw ρ a::Qag ρ r
end
def QeR(ρ:Nat->Nat):List (List A)->List (List A)
 |[]=>[]
 |a::r=>Qag ρ a::QeR ρ r
def renP(ρ:Nat->Nat):List (A×A)->List (A×A)
 |[]=>[]
 |a::r=>(Yw ρ a.1,Yw ρ a.2)::renP ρ r
def QK(ρ:Nat->Nat):Blk->Blk
 |.cells t cs=>.cells t (Qag ρ cs)
 |.rowr t k es=>.rowr t k (QeR ρ es)
 |.ents t b1 b2 es=>.ents t (ρ b1) (ρ b2) es
 |.wins t b n c=>.wins t (ρ b) n c
 |.mapP es=>.mapP (renP ρ es)
 |b=>b
theorem QdN(ρ:Nat->Nat)(b1 b2:Nat):∀(es:List Ent),QeR ρ (es.map (eC b1 b2))=es.map (eC (ρ b1) (ρ b2))
 |[]=>rfl
 |e::es=>by
  have:=QdN ρ b1 b2 es;simp only[Vc,QeR,this];congr 1;cases h:e.fl<;>simp[eC,Qag,Yw,h]
theorem QgC(ρ:Nat->Nat)(b n c:Nat):QeR ρ (winL b n c)=winL (ρ b) n c:=by
 unfold winL
 induction List.range c with
 |nil=>rfl
 |cons j l a=>simp only[Vc,QeR,a];rfl
theorem Qz(ρ:Nat->Nat)(x:Blk):(QK ρ x).live=x.live:=by cases x<;>rfl
theorem Qah(ρ:Nat->Nat)(x:Blk)(w:World)(b c:Nat):Hid w (QK ρ x) b c↔Hid w x b c:=by cases x<;>exact Iff.rfl
section
variable {ro:Nat->Prop} {σ σ':Sig} {w:World} {ρ:Nat->Nat} (h:∀i:Nat,σ[ρ i]?=σ'[i]?)
include h
mutual
theorem Qcf:∀{a:A} {v:Value},VR ro σ w (Yw ρ a) v↔VR ro σ' w a v
 |.any,_=>by simp only[Yw,VR]
 |.bool b,v=>by simp only[Yw,VR]
 |.int k n,v=>by simp only[Yw,VR]
 |.str s,v=>by simp only[Yw,VR]
 |.nilp,v=>by simp only[Yw,VR]
 |.ptr i off,v=>by simp only[Yw,VR,h]
 |.rp cs,v=>by simp only[Yw,VR]
 |.nils,v=>by simp only[Yw,VR]
 |.rsl k es,v=>by simp only[Yw,VR]
 |.osl i o n k,v=>by simp only[Yw,VR,h]
 |.agg cs,v=>by simp only[Yw,VR];exact exists_congr λl=>and_congr_right λ_=>QaY
 |.fn f a c,v=>by simp only[Yw,VR];exact exists_congr λl=>exists_congr λl'=>and_congr_right λ_=>and_congr QaY QaY
 |.nilf,v=>by simp only[Yw,VR]
 |.iface t a,v=>by simp only[Yw,VR];exact exists_congr λl=>and_congr_right λ_=>Qcf
 |.nilif,v=>by simp only[Yw,VR]
 |.map i,v=>by simp only[Yw,VR,h]
 |.nilm,v=>by simp only[Yw,VR]
 |.tup vs,v=>by simp only[Yw,VR];exact exists_congr λl=>and_congr_right λ_=>QaY
theorem QaY:∀{az:List A} {l:List Value},LR ro σ w (Qag ρ az) l↔LR ro σ' w az l
 |[],l=>by simp only[Qag,LR]
 |a::r,l=>by
  simp only[Qag,LR];exact exists_congr λv=>exists_congr λl'=>and_congr_right λ_=>and_congr Qcf QaY
end
theorem Qcq:∀(cs:List A),(Qag ρ cs).length=cs.length
 |[]=>rfl
 |a::r=>by simp[Qag,Qcq r]
theorem Qev{k:Nat}:∀{es:List (List A)} {l:List Value},RL ro σ w k (QeR ρ es) l↔RL ro σ' w k es l
 |[],l=>by rfl
 |a::r,l=>by
  simp only[QeR,RL,Qcq h];exact exists_congr λl1=>exists_congr λl2=>and_congr_right λ_=>and_congr_right λ_=>and_congr (and_congr_left λ_=>QaY h) Qev
theorem Qit:∀{es:List (A×A)} {l:List MapEntry},ER ro σ w (renP ρ es) l↔ER ro σ' w es l
 |[],l=>by rfl
 |a::r,l=>by
  simp only[renP,ER];exact exists_congr λe=>exists_congr λl'=>and_congr_right λ_=>and_congr (Qcf h) (and_congr (Qcf h) Qit)
theorem QeL{x:Blk}{s:Option Nat}:BR ro σ w (QK ρ x) s↔BR ro σ' w x s:=by
 cases x with
 |cells t f=>
  cases s with
  |none=>exact Iff.rfl
  |some b=>simp only[QK,BR];exact exists_congr λl=>and_congr_right λ_=>and_congr_left λ_=>QaY h
 |rowr t k a=>
  cases s with
  |none=>exact Iff.rfl
  |some b=>simp only[QK,BR];exact exists_congr λl=>and_congr_right λ_=>Qev h
 |mapP a=>
  cases s with
  |none=>exact Iff.rfl
  |some b=>simp only[QK,BR];exact exists_congr λl=>exists_congr λc=>and_congr_right λ_=>and_congr_left λ_=>Qit h
 |wins t b n c=>
  cases s with
  |none=>exact Iff.rfl
  |some d=>
   simp only[QK,BR];refine exists_congr λl=>and_congr_right λ_=>?_;rw[<- QgC];exact Qev h
 |ents t e g a=>
  cases s with
  |none=>exact Iff.rfl
  |some b=>
   simp only[QK,BR];refine exists_congr λl=>and_congr_right λ_=>?_;rw[<- QdN];exact Qev h
 |_=>cases s<;>exact Iff.rfl
end
def C(P:Program)(f:FuncId)(args:List A)(H:Qc)(Q:A->Qc->Prop):Prop:=
 ∀fr ro σ vals w,Sim fr ro σ H w->LR ro σ w args vals->Calls P f vals.toArray w λe w'=>
  ∃v r H' ro' τ,e=.returned v/\Q r H'/\Sim fr ro' (σ++τ) H' w'/\VR ro' (σ++τ) w' r v/\Qj fr ro w ro' w'
theorem C.mono{P:Program}{f:FuncId}{args:List A}{H:Qc}{Q Q':A->Qc->Prop}(h:C P f args H Q)(hq:∀r H,Q r H->Q' r H):C P f args H Q':=
 λfr ro σ vals w s l=>(h fr ro σ vals w s l).mono (by grind)
def Qa4:Nat->List A->Env
 |_,[]=>[]
 |i,a::r=>(i,a)::Qa4 (i+1) r
theorem Qbg{ro:Nat->Prop}{σ:Sig}{w:World}:∀{args:List A} {vals:List Value} {i:Nat} (pre:List Value),pre.length=i->LR ro σ w args vals->∀rest:Array Value,
  ∀s,VR ro σ w (lk (Qa4 i args) s) (((pre++vals).toArray++rest).getD s undef)
 |[],vals,i,pre,hp,hl,rest,s=>trivial
 |a::r,vals,i,pre,hp,hl,rest,s=>by
  simp only[LR]at hl;obtain⟨v,l',rfl,h1,h2⟩:=hl;simp only[Qa4,lk];by_cases e:s=i
  .simp_all[Array.getElem?_append]
  .have:Nat.beq s i=false:=by
    simp_all[Vx]
   rw[this];have:=Qbg (i:=i+1) (pre++[v]) (by simp[hp]) h2 rest s
   grind
def Qa6(P:Program)(fn:Func)(env:Env)(H:Qc)(r:A):Prop:=
 ∀fr ro σ N a w,Rel fr ro σ H env N a w->∃v,(results fn a.tmps).run P w=.ok v w/\VR ro σ w r v
def YK(P:Program)(h0:Nat)(fn:Func)(Q:A->Qc->Prop):Qx
 |.normal,env,H=>∃env' H' r,Le h0 env H env' H'/\Qa6 P fn env' H' r/\Q r H'
 |.ret,env,H=>∃env' H' r,Le h0 env H env' H'/\Qa6 P fn env' H' r/\Q r H'
 |.exit _,_,_=>False
theorem LR.length{ro:Nat->Prop}{σ:Sig}{w:World}:∀{az:List A} {l:List Value},LR ro σ w az l->l.length=az.length
 |[],l,h=>by simp only[LR]at h;simp[h]
 |a::r,l,h=>by
  simp only[LR]at h;obtain⟨v,l',rfl,_,h2⟩:=h;simp[h2.length]
theorem Sim.turn{fr ro:Nat->Prop}{σ:Sig}{H:Qc}{w:World}(s:Sim fr ro σ H w){b:Nat}{obj:Obj}(t:¬ro b)(r:¬fr b)(G:∀(i:Nat) (x:Blk),σ[i]?=some (some b)->H[i]?=some x->x.live=true->False)
  (k:∀(i d:Nat) (x:Blk),σ[i]?=some (some d)->H[i]?=some x->Hid w x d b->False)
  (p:∀y,w.shape? b=some y->(w.putObj b obj).shape? b=some y):Sim fr ro σ H (w.putObj b obj)/\Qj fr ro w ro (w.putObj b obj):=by
 have m:∀c,c≠b->(w.putObj b obj).heap[c]?=w.heap[c]? :=λc u=>World.putObj_heap_other u;have a:(w.putObj b obj).heap.size=w.heap.size:=by simp
 have ev:Qj fr ro w ro (w.putObj b obj):=by
  refine⟨λ_ q=>q,(by grind),(by grind),by omega,λc x q=>?_,rfl,rfl,rfl,XM _⟩
  grind[World.shape?]
 have e:Ext ro σ w ro σ (w.putObj b obj):=by have:=ev.ext σ [];grind
 refine⟨⟨s.len,s.roOk.to (λ_ q=>q) ev.keepRo (λc q=>by rw[a];exact s.roLt c q),λc q=>by rw[a];exact s.frLt c q,s.roFr,λi c x f g n=>?_,s.inj,λi y x f g=>?_,
  s.hidTo (· = ·) QU (by omega) (by simp) (by simp) λj d y h l z=>.inl ⟨j,y,rfl,h,l,id,λc q=>s.hidKeep h l (by grind) ev.keepRo q⟩⟩,ev⟩
 .obtain⟨F,E,B⟩:=s.own i c x f g n
  grind
 .refine(s.blk i y x f g).keep e ?_ ?_
  .grind
  grind
theorem YU{P:Program}{fn:Func}{tmps:Array Value}{R:Ending->World->Prop}{fr ro:Nat->Prop}{σ:Sig}{H:Qc}:
  ∀(ds:List Deferred) (w:World),ds.Nodup->(∀d∈ds,∃D,d={target:=.collected D,args:= #[]}/\ ¬ro D/\ ¬fr D/\(∀(i:Nat) (x:Blk),σ[i]?=some (some D)->H[i]?=some x->x.live=true->False)/\(∀(i d:Nat) (x:Blk),σ[i]?=some (some d)->H[i]?=some x->Hid w x d D->False)/\w.heap[D]?=some (.deferred (some [])))->
  Sim fr ro σ H w->(∀w',Sim fr ro σ H w'->Qj fr ro w ro w'->∃v,(results fn tmps).run P w'=.ok v w'/\R (.returned v) w')->LeavesInM Fence.wide 0 P fn tmps R ds .returning w
 |[],w,_,_,s,hk=>by
  obtain⟨v,h1,h2⟩:=hk w s (Qj.refl _ _ _);exact⟨v,h1,h2⟩
 |d::ds,w,hn,hd,s,hk=>by
  obtain⟨D,rfl,h1,h2,h3,h5,h4⟩:=hd d (by simp);obtain⟨n1,n2⟩:=List.nodup_cons.1 hn;obtain⟨s',ev⟩:=s.turn (obj:=.deferred none) h1 h2 h3 h5 (λy q=>by grind[World.shape?]);refine⟨(by simp),.inl ⟨D,_,rfl,run_takeDeferred h4,?_⟩⟩;refine YU ds _ n2 (λd' q=>?_) s' (λw' q1 q2=>hk w' q1 (ev.trans q2));obtain⟨D',rfl,g1,g2,g3,g5,g4⟩:=hd d' (by simp[q]);refine⟨D',rfl,g1,g2,g3,λi d x z1 z2 z3=>g5 i d x z1 z2 (s.hidKeep z1 z2 (λz=>World.putObj_heap_other (by grind)) (λb q=>World.putObj_heap_other (λe:b=D=>h1 (e▸q))) z3),(World.putObj_heap_other (λe=>?_)).trans g4⟩
  grind
theorem YH{P:Program}{f:FuncId}{fn:Func}{c:Code}{N:Nat}{args:List A}{H:Qc}{Q:A->Qc->Prop}
  (hf:P.funcs[f]?=some fn)(hb:fn.body=some c)(hN:fn.ntmps=N)(hA:Nat.ble args.length N=true)
  (h:TC P H.length N c (Qa4 0 args) H (YK P H.length fn Q)):C P f args H Q:=by
 intro fr ro σ vals w hs hl;have Y:=hl.length;have aa:args.length<=N:=by simp_all
 refine(callsIn_wide (n:=0)).1 (callsIn_of_wp_marks hf hb trivial (Code.wpIn_mono ?_ (h none fr ro σ _ w ⟨hs,?_,?_,List.nodup_nil,λd l=>by cases l⟩ Qav)))
 .rintro e y k ⟨x,t,H1,L,σ1,B,z,M,h3,h4,h5,T⟩;have u:(∃j H' r,Le H.length t H1 j H'/\Qa6 P fn j H' r/\Q r H')->LeavesInM Fence.wide 0 P fn y.tmps (λe k=>
    ∃v' r H' a τ,e=.returned v'/\Q r H'/\Sim fr a (σ++τ) H' k/\VR a (σ++τ) k r v'/\Qj fr ro w a k) y.defers .returning k:=by
   rintro⟨j,H',r,J,hr,hq⟩;obtain⟨a,σ',g,m,ht⟩:=J B L σ1 N y k h3;have hσ:σ'=σ++σ'.drop H.length:=by
    have X:σ'.take H.length=σ:=by rw[ht,h5,Vt (by rw[hs.len];omega)]
    grind[List.take_append_drop]
   have s1:Sim fr a σ' H' k:=g.sim.frMono T.sub;refine YU (ro:=a) (fr:=fr) (σ:=σ') (H:=H') y.defers k g.defers.1 (λd l=>?_) s1 (λV W p=>?_)
   .obtain⟨D,rfl,_⟩:=(T.ds d l).resolve_left (by simp);obtain⟨E,g2⟩:=g.defers.mark l;refine⟨D,rfl,λq=>g.sim.roFr D q E,λq=>?_,λi x G O R=>(g.sim.own i D x G O R).2.2 E,λi d x G O R=>(g.sim.hid i d x D G O R).fr E,g2⟩;rcases T.ds _ l with q'|⟨D',e,q'⟩
    .cases q'
    .have:D=D':=by simpa using e
     subst this;have:=hs.frLt D q;omega
   .have F:Rel fr a σ' H' j N {y with defers:=[]} V:=⟨W,λs=>(g.env s).mono (by have:=p.ext σ' [];grind),g.size,List.nodup_nil,λd l=>by cases l⟩;obtain⟨v,X,e2⟩:=hr fr a σ' N _ V F;exact⟨v,X,v,r,H',a,σ'.drop H.length,rfl,hq,hσ▸W,hσ▸e2,(h4.trans (QR m)).trans p⟩
  cases e with
  |normal=>
   obtain rfl:x=.normal:=z;exact u M
  |ret=>
   obtain rfl:x=.ret:=z;exact u M
  |exit id=>
   obtain rfl:x=.exit id:=z;exact M.elim
  |_=>exact z.elim
 .intro s;have:=Qbg (i:=0) [] rfl hl (Array.replicate (fn.ntmps-vals.toArray.size) undef) s
  grind
 grind
section
variable {P:Program} {fn:Func} {env:Env} {H:Qc}
theorem Qa6.nil(h:fn.results= #[]):Qa6 P fn env H (.tup []):=
 λfr ro σ N a w r=>⟨.tuple #[],by simp[results,h,go_sem],[],rfl,rfl⟩
theorem Qa6.one{t:Nat}{x:A}(h:fn.results= #[.tmp t])(hx:lk env t=x):Qa6 P fn env H x:=
 λfr ro σ N a w r=>⟨a.tmps.getD t undef,by simp[results,h,go_sem],hx▸r.env t⟩
theorem Qg0{t u:Nat}{x y:A}(h:fn.results= #[.tmp t,.tmp u])(hx:lk env t=x)(hy:lk env u=y):Qa6 P fn env H (.tup [x,y]):=
 λfr ro σ N a w r=>⟨.tuple #[a.tmps.getD t undef,a.tmps.getD u undef],by simp[results,h,go_sem],
  [_,_],rfl,_,_,rfl,hx▸r.env t,_,_,rfl,hy▸r.env u,rfl⟩
theorem Qfj{t u v:Nat}{x y z:A}(h:fn.results= #[.tmp t,.tmp u,.tmp v])(hx:lk env t=x)(hy:lk env u=y)(hz:lk env v=z):
  Qa6 P fn env H (.tup [x,y,z]):=
 λfr ro σ N a w r=>⟨.tuple #[a.tmps.getD t undef,a.tmps.getD u undef,a.tmps.getD v undef],by simp[results,h,go_sem],
  [_,_,_],rfl,_,_,rfl,hx▸r.env t,_,_,rfl,hy▸r.env u,_,_,rfl,hz▸r.env v,rfl⟩
end
inductive Ctl (S B:Type) where
 |cont (s:S)
 |done (b:B)
 deriving DecidableEq
def iter{S B:Type}(step:S->Option (Ctl S B)):Nat->S->Option B
 |0,_=>none
 |n+1,s=>match step s with
  |some (.cont s')=>iter step n s'
  |some (.done b)=>some b
  |none=>none
def QaO{S B:Type}(I:S->Env->Qc->Prop)(d:Ctl S B)(Q:Qx):Qx
 |.normal,env,H=>∃s,d=.cont s/\I s env H
 |.exit id,env,H=>(∃b,d=.done b)/\Q (.exit id) env H
 |.ret,env,H=>(∃b,d=.done b)/\Q .ret env H
theorem Qih{P:Program}{h0 N:Nat}{c:Code}{S B:Type}{step:S->Option (Ctl S B)}{I:S->Env->Qc->Prop}{Q:Qx}{F:B}
  (body:∀s d env H,I s env H->step s=some d->(∀b,d=.done b->b=F)->TC P h0 N c env H (QaO I d Q))
  {m:Nat}{G:S}(h:iter step m G=some F){env:Env}{H:Qc}(L:I G env H):TC P h0 N (.loop c) env H Q:=by
 intro R n E σ a w r hrd b k cs hro hb hr;have O:∀m s env H fr1 ro1 σ1 a1 w1,iter step m s=some F->I s env H->Rel fr1 ro1 σ1 H env N a1 w1->Qj n E w ro1 w1->σ1.take h0=σ.take h0->Grow n w a.defers fr1 a1.defers->
   ∃e j i,Qan h0 n E σ w N a.defers Q e j i/\ArrivesIn (Machine.fenced P (WF R)) P (lone (b.atR a1 (.code c::.inLoop c::k)) cs w1) b k cs e j i:=by
  intro m
  induction m with
  |zero=>grind[iter]
  |succ m ih=>
   intro s env H fr1 ro1 σ1 a1 w1 hit L r1 ev1 t1 g1;simp only[iter]at hit;cases T:step s with
   |none=>grind
   |some d=>
    rw[T]at hit;have hd:∀b,d=.done b->b=F:=by
     grind
    obtain⟨e,j,i,M,f⟩:=body s d env H L T hd R fr1 ro1 σ1 a1 w1 r1 (hrd.to ev1 g1.sub) b (.inLoop c::k) cs hro hb hr;obtain⟨x,g,H',y,σ',t,z,u,W,q4,V,q6⟩:=M;have p:=ev1.trans (q4.frMono g1.sub);have X:=g1.trans ev1.size q6;have Y:∀x,Q x g H'->ExR e x->Qan h0 n E σ w N a.defers Q e j i:=λx q q'=>⟨x,g,H',y,σ',t,q',q,W,p,V.trans t1,X⟩;cases e with
    |normal=>
     obtain rfl:x=.normal:=z;obtain⟨s',rfl,u⟩:=u;obtain⟨e2,a2,w2,J,l⟩:=ih s' g H' t y σ' j i hit u W p (V.trans t1) X;exact⟨e2,a2,w2,J,.of_steps (StepsIn.trans f (.one (fenced_calm hb hr rfl) stepR_inLoop)) l⟩
    |exit id=>
     obtain rfl:x=.exit id:=z;exact⟨_,j,i,Y _ u.2 rfl,.pass (x:=.inLoop c) rfl (by simp) f⟩
    |ret=>
     obtain rfl:x=.ret:=z;exact⟨_,j,i,Y _ u.2 rfl,.pass (x:=.inLoop c) rfl (by simp) f⟩
    |_=>exact z.elim
 obtain⟨e,j,i,M,f⟩:=O m G env H n E σ a w h L r (Qj.refl _ _ _) rfl (Grow.refl _ _ _);exact⟨e,j,i,M,.of_steps (.one (fenced_calm hb hr rfl) stepR_loop) f⟩
theorem TC.loop{P:Program}{h0 N:Nat}{c:Code}{S B:Type}{step:S->Option (Ctl S B)}(E:S->Env)(Hp:S->Qc){Q:Qx}
  {m:Nat}{s0:S}{b0:B}(h:iter step m s0=some b0){env:Env}{H:Qc}(hI:Le h0 env H (E s0) (Hp s0))
  (body:∀s d,step s=some d->(∀b,d=.done b->b=b0)->TC P h0 N c (E s) (Hp s) (QaO (λs env H=>Le h0 env H (E s) (Hp s)) d Q)):TC P h0 N (.loop c) env H Q:=
 Qih (I:=λs env H=>Le h0 env H (E s) (Hp s)) (λs d env H hI hs hd=>Qm hI (body s d hs hd)) h hI
def rho(π:List Nat)(n i:Nat):Nat:=
 match π[i]? with
 |some p=>p
 |none=>n+(i-π.length)
def QJ:Qc->List Nat->List Blk->Qc
 |H,[],xs=>H++xs
 |H,p::π,x::xs=>QJ (H.set p x) π xs
 |H,_::_,[]=>H
theorem Qbr:∀(π:List Nat) (H:Qc) (xs:List Blk),π.length<=xs.length->(QJ H π xs).length=H.length+(xs.length-π.length)
 |[],H,xs,_=>by simp[QJ]
 |p::π,H,[],h=>by simp at h
 |p::π,H,x::xs,h=>by
  simp[XT]at h;simp only[QJ,Qbr π (H.set p x) xs (by omega),XW,XT];omega
theorem QbB:∀(π:List Nat) (H:Qc) (xs:List Blk) (i:Nat),i<H.length->i∉π->(QJ H π xs)[i]?=H[i]?
 |[],H,xs,i,hi,_=>by simp[QJ,XG hi]
 |p::π,H,[],i,hi,h=>by simp[QJ]
 |p::π,H,x::xs,i,hi,h=>by
  simp[XY,not_or]at h;simp[QJ];rw[QbB π (H.set p x) xs i (by grind) h.2,XJ (λe=>h.1 e.symm)]
theorem Qc0:∀(π:List Nat) (H:Qc) (xs:List Blk) (j:Nat),π.length<=xs.length->(∀p∈π,p<H.length)->π.Nodup->
  (QJ H π xs)[rho π H.length j]?=xs[j]?
 |[],H,xs,j,_,_,_=>by
  simp_all[QJ,rho,XH]
 |p::π,H,[],j,h,_,_=>by simp at h
 |p::π,H,x::xs,j,h,hp,hn=>by
  simp[XT]at h;have hn':=List.nodup_cons.1 hn;simp[QJ];cases j with
  |zero=>
   grind[rho,QbB]
  |succ j=>
   have ih:=Qc0 π (H.set p x) xs j (by omega) (λq hq=>by grind) hn'.2;have e:rho (p::π) H.length (j+1)=rho π H.length j:=by
    simp only[rho,XT];simp
   grind
theorem QgB(π:List Nat)(n i:Nat)(hi:n<=i\/i∈π):∃j,i=rho π n j:=by
 rcases hi with hi|hi
 .refine⟨π.length+(i-n),?_⟩
  grind[rho]
 .obtain⟨j,a,rfl⟩:=List.mem_iff_getElem.1 hi;exact⟨j,by simp[rho,XE a]⟩
def Q2(σ:Sig)(π:List Nat):Sig:=π.map λp=>(σ[p]?).getD none
theorem QcI{σ τ:Sig}{π:List Nat}{n:Nat}(d:σ.length=n)(a:∀p∈π,p<n)(j:Nat):(σ++τ)[rho π n j]?=(Q2 σ π++τ)[j]? :=by
 rcases(by omega)with h|h
 .grind[rho,Q2]
 grind[rho,Q2]
def OpC(P:Program)(o:Oper)(env:Env)(H:Qc)(f:FuncId)(args:List A):Prop:=
 ∀fr ro σ N a w,Rel fr ro σ H env N a w->∃vals:List Value,(execOp a.eval o).run P w=.ok (.enter f vals.toArray) w/\LR ro σ w args vals
theorem YI{π:List Nat}{H:Qc}{Hc:List Blk}(d:π.map (λp=>H[p]?)=Hc.map some){p:Nat}(a:p∈π):p<H.length:=by
 grind[List.mem_map_of_mem]
theorem WO.call{P:Program}{h0 N:Nat}{all:Array Oper}{o:Oper}{l:List Oper}{env:Env}{H:Qc}{Q:Qx}{d:Option Nat}{f:FuncId}
  {args ac:List A}{Hc:Qc}{Qr:A->Qc->Prop}(π:List Nat)(hh:h0<=H.length)(hg:Qt all o env true)(hd:o.dst=d)(hN:∀x,d=some x->x<N)
  (ar:OpC P o env H f args)(hargs:args=Qag (rho π H.length) ac)(hH:π.map (λp=>H[p]?)=(Hc.map (QK (rho π H.length))).map some)(hπ:π.Nodup)
  (hC:C P f ac Hc Qr)
  (k:∀r H1,Qr r H1->WO P h0 N all l (match d with|some d=>up env d (Yw (rho π H.length) r)|none=>env) (QJ H π (H1.map (QK (rho π H.length)))) Q):
  WO P h0 N all (o::l) env H Q:=by
 intro rd fr ro σ a w r hrd;obtain⟨ai,h1,h2⟩:=ar fr ro σ N a w r;refine QdI (Yo hg r) h1 ?_;have hp:∀p∈π,p<H.length:=λp q=>YI hH q;have hσl:=r.sim.len;have ab:∀(j p:Nat),π[j]?=some p->H[p]?=(Hc[j]?).map (QK (rho π H.length)):=by
  intro j p M;have:=congrArg (λl=>l[j]?) hH;simp only[Xl,M,Xi]at this;cases e:Hc[j]? with
  |none=>rw[e]at this;simp at this
  |some x=>rw[e]at this;simpa using this
 have ak:π.length=Hc.length:=by simpa using congrArg List.length hH
 have hσc:∀j:Nat,σ[rho π H.length j]?=(Q2 σ π)[j]? :=by
  intro j;have:=QcI (τ:=[]) hσl hp j;simpa using this
 let frc:Nat->Prop:=λb=>fr b\/(∃i x,σ[i]?=some (some b)/\H[i]?=some x/\x.live=true/\i∉π)\/ ∃i x d,σ[i]?=some (some d)/\H[i]?=some x/\Hid w x d b/\i∉π
 have hπj:∀(j b:Nat),(Q2 σ π)[j]?=some (some b)->∃p,π[j]?=some p/\σ[p]?=some (some b):=by
  intro j b M;simp only[Q2,Xl]at M;cases e:π[j]? with
  |none=>rw[e]at M;simp at M
  |some p=>
   rw[e]at M;simp at M;refine⟨p,rfl,?_⟩;cases e2:σ[p]? with
   |none=>rw[e2]at M;simp at M
   |some s=>rw[e2]at M;simp at M;rw[M]
 have hπi:∀(i j p:Nat),π[i]?=some p->π[j]?=some p->i=j:=by
  intro i j p T O;have hi:i<π.length:=by
   rcases Vn i π.length with q|q
   .exact q
   .rw[XI q]at T;simp at T
  have M:j<π.length:=by
   rcases Vn j π.length with q|q
   .exact q
   .rw[XI q]at O;simp at O
  rw[XE hi]at T;rw[XE M]at O;have ae:=(XS T).trans (XS O).symm;rcases Nat.lt_trichotomy i j with q|q|q
  .exact(Vp.1 hπ i j hi M q ae).elim
  .exact q
  .exact(Vp.1 hπ j i M hi q ae.symm).elim
 have al:Sim frc ro (Q2 σ π) Hc w:=by
  refine⟨by simp[Q2,ak],r.sim.roOk,?_,?_,?_,?_,?_,?_⟩
  .rintro b (hb|⟨i,x,h,g,m,J⟩|⟨i,x,d,h,g,m,J⟩)
   .exact r.sim.frLt b hb
   .exact(r.sim.own i b x h g m).1
   .exact(r.sim.hid i d x b h g m).lt
  .rintro b hb (hf|⟨i,x,h,g,m,J⟩|⟨i,x,d,h,g,m,J⟩)
   .exact r.sim.roFr b hb hf
   .exact(r.sim.own i b x h g m).2.1 hb
   .exact(r.sim.hid i d x b h g m).ro hb
  .intro j b x h g m;obtain⟨p,T,e2⟩:=hπj j b h;have e3:H[p]?=some (QK (rho π H.length) x):=by rw[ab j p T,g];rfl
   obtain⟨o1,o2,o3⟩:=r.sim.own p b _ e2 e3 (by rw[Qz];exact m);refine⟨o1,o2,?_⟩;rintro(hf|⟨i,y,y1,y2,y3,y4⟩|⟨i,y,d,y1,y2,y3,y4⟩)
   .exact o3 hf
   .have:=r.sim.inj i p b _ _ y1 e2 y2 e3 y3 (by rw[Qz];exact m);subst this;exact y4 (Vs T)
   .exact(r.sim.hid i d y b y1 y2 y3).ne p b _ e2 e3 (by rw[Qz];exact m) rfl
  .intro i j b x y h g m J X q6;obtain⟨p,T,e2⟩:=hπj i b h;obtain⟨p',O,ao⟩:=hπj j b g;have e3:H[p]?=some (QK (rho π H.length) x):=by rw[ab i p T,m];rfl
   have au:H[p']?=some (QK (rho π H.length) y):=by rw[ab j p' O,J];rfl
   have:=r.sim.inj p p' b _ _ e2 ao e3 au (by rw[Qz];exact X) (by rw[Qz];exact q6);subst this;have hi:i<π.length:=by
    rcases Vn i π.length with q|q
    .exact q
    .rw[XI q]at T;simp at T
   have M:j<π.length:=by
    rcases Vn j π.length with q|q
    .exact q
    .rw[XI q]at O;simp at O
   rw[XE hi]at T;rw[XE M]at O;have ae:=(XS T).trans (XS O).symm;rcases Nat.lt_trichotomy i j with q|q|q
   .exact(Vp.1 hπ i j hi M q ae).elim
   .exact q
   .exact(Vp.1 hπ j i M hi q ae.symm).elim
  .intro j s x h g;have M:j<π.length:=by
    rcases Vn j π.length with q|q
    .exact q
    .rw[XI (by simpa[Q2]using q)]at h;simp at h
   have T:π[j]?=some π[j]:=XE M;have e3:H[π[j]]?=some (QK (rho π H.length) x):=by rw[ab j _ T,g];rfl
   have e2:σ[π[j]]?=some s:=by
    have:=hσc j;rw[h]at this;simpa[rho,T]using this
   exact(QeL hσc).1 (r.sim.blk _ s _ e2 e3)
  .intro j b x c h g m;obtain⟨p,T,e2⟩:=hπj j b h;have e3:H[p]?=some (QK (rho π H.length) x):=by rw[ab j p T,g];rfl
   have k:=r.sim.hid p b _ c e2 e3 ((Qah _ _ _ _ _).2 m);refine⟨k.lt,k.ro,?_,?_,?_⟩
   .rintro(hf|⟨i,y,y1,y2,y3,y4⟩|⟨i,y,d,y1,y2,y3,y4⟩)
    .exact k.fr hf
    .exact k.ne i c y y1 y2 y3 rfl
    .obtain⟨rfl,rfl⟩:=k.one i d y y1 y2 y3;exact y4 (Vs T)
   .intro R b' y L n Y;obtain⟨p',f1,f2⟩:=hπj R b' L;exact k.ne p' b' _ f2 (show H[p']?=some (QK (rho π H.length) y)by rw[ab R p' f1,n];rfl) (by rw[Qz];exact Y)
   .intro R b' y L n Y;obtain⟨p',f1,f2⟩:=hπj R b' L;obtain⟨z4,z5⟩:=k.one p' b' _ f2 (show H[p']?=some (QK (rho π H.length) y)by rw[ab R p' f1,n];rfl) ((Qah _ _ _ _ _).2 Y);subst z5;exact⟨z4,hπi R j p' f1 T⟩
 have ag:LR ro (Q2 σ π) w ac ai:=(QaY hσc).1 (hargs▸h2);refine Calls.mono (hC frc ro (Q2 σ π) ai w al ag) ?_;rintro e w' ⟨v,rr,H1,aa,τ,rfl,hq,sc,hv,ev⟩;have hσ':∀j:Nat,(σ++τ)[rho π H.length j]?=(Q2 σ π++τ)[j]? :=λj=>QcI hσl hp j;have am:H1.length=π.length+τ.length:=by rw[<- sc.len];simp[Q2]
 have aj:π.length<=(H1.map (QK (rho π H.length))).length:=by simp;omega
 have V:Qj fr ro w aa w':=⟨ev.sub,ev.keepRo,λb q=>ev.keepFr b (.inl q),ev.size,ev.shape,ev.os,ev.tape,ev.output,ev.drawn⟩;have F:∀j,(QJ H π (H1.map (QK (rho π H.length))))[rho π H.length j]?=(H1[j]?).map (QK (rho π H.length)):=by
  intro j;rw[Qc0 π H _ j aj hp hπ];simp
 have B:∀i,i<H.length->i∉π->(QJ H π (H1.map (QK (rho π H.length))))[i]?=H[i]? :=λi=>QbB π H _ i;have t:∀i:Nat,(∃j,i=rho π H.length j)\/(i<H.length/\i∉π):=by
  intro i;by_cases q:H.length<=i\/i∈π
  .exact .inl (QgB π H.length i q)
  .simp only[not_or]at q;exact .inr ⟨by omega,q.2⟩
 have G:∀i b x,i<H.length->i∉π->σ[i]?=some (some b)->H[i]?=some x->x.live=true->frc b:=λi b x h g m J X=>.inr (.inl ⟨i,x,m,J,X,g⟩);have af:∀i b x c,i<H.length->i∉π->σ[i]?=some (some b)->H[i]?=some x->Hid w' x b c->Hid w x b c/\frc c:=λi b x c h g m J X=>
  have q6:=r.sim.hidKeep m J (λz=>ev.keepFr b (G i b x h g m J z)) ev.keepRo X
  ⟨q6,.inr (.inr ⟨i,x,b,m,J,q6,g⟩)⟩
 have ah:Sim fr aa (σ++τ) (QJ H π (H1.map (QK (rho π H.length)))) w':=by
  refine⟨?_,sc.roOk,λb q=>sc.frLt b (.inl q),λb q q'=>sc.roFr b q (.inl q'),?_,?_,?_,?_⟩
  .rw[Qbr _ _ _ aj];simp[hσl,am]
  .intro i b x h g m;rcases t i with⟨j,rfl⟩|⟨c1,c2⟩
   .rw[hσ']at h;rw[F]at g;cases e:H1[j]? with
    |none=>rw[e]at g;simp at g
    |some y=>
     rw[e]at g;simp at g;subst g;obtain⟨o1,o2,o3⟩:=sc.own j b y h e (by rw[Qz]at m;exact m);exact⟨o1,o2,λq=>o3 (.inl q)⟩
   .rw[B i c1 c2]at g;rw[XG (by omega)]at h;obtain⟨o1,o2,o3⟩:=r.sim.own i b x h g m;exact⟨X8 o1 ev.size,λq=>sc.roFr b q (G i b x c1 c2 h g m),o3⟩
  .intro i E b x y h g m J X q6;have ad:∀(i E:Nat) (x y:Blk),(∃j,i=rho π H.length j)->(E<H.length/\E∉π)->(σ++τ)[i]?=some (some b)->(σ++τ)[E]?=some (some b)->
     (QJ H π (H1.map (QK (rho π H.length))))[i]?=some x->(QJ H π (H1.map (QK (rho π H.length))))[E]?=some y->x.live=true->y.live=true->False:=by
    rintro i E x y ⟨j,rfl⟩ ⟨c1,c2⟩ h g m J X q6;rw[hσ']at h;rw[F]at m;rw[B E c1 c2]at J;rw[XG (by omega)]at g;cases e:H1[j]? with
    |none=>rw[e]at m;simp at m
    |some z=>
     rw[e]at m;simp at m;subst m;exact(sc.own j b z h e (by rw[Qz]at X;exact X)).2.2 (G E b y c1 c2 g J q6)
   rcases t i with ci|ci<;>rcases t E with ci'|ci'
   .obtain⟨j,rfl⟩:=ci;obtain⟨R,rfl⟩:=ci';rw[hσ']at h g;rw[F]at m J;cases e:H1[j]? with
    |none=>rw[e]at m;simp at m
    |some z=>
     cases W:H1[R]? with
     |none=>rw[W]at J;simp at J
     |some z'=>
      rw[e]at m;simp at m;subst m;rw[W]at J;simp at J;subst J;rw[sc.inj j R b z z' h g e W (by rw[Qz]at X;exact X) (by rw[Qz]at q6;exact q6)]
   .exact(ad i E x y ci ci' h g m J X q6).elim
   .exact(ad E i y x ci' ci g h J m q6 X).elim
   .rw[B i ci.1 ci.2]at m;rw[B E ci'.1 ci'.2]at J;rw[XG (by omega)]at h g;exact r.sim.inj i E b x y h g m J X q6
  .intro i s x h g;rcases t i with⟨j,rfl⟩|⟨c1,c2⟩
   .rw[hσ']at h;rw[F]at g;cases e:H1[j]? with
    |none=>rw[e]at g;simp at g
    |some y=>
     rw[e]at g;simp at g;subst g;exact(QeL hσ').2 (sc.blk j s y h e)
   .rw[B i c1 c2]at g;rw[XG (by omega)]at h;refine BR.keep (V.ext σ τ) ?_ (r.sim.blk i s x h g) ?_
    .rintro b rfl hl;exact ev.keepFr b (G i b x c1 c2 h g hl)
    .rintro b c rfl hl;exact ev.keepFr c (.inr (.inr ⟨i,x,b,h,g,hl,c2⟩))
  .intro i b x c h g m;rcases t i with⟨j,rfl⟩|⟨c1,c2⟩
   .rw[hσ']at h;rw[F]at g;cases e:H1[j]? with
    |none=>rw[e]at g;simp at g
    |some y=>
     rw[e]at g;simp at g;subst g;have k:=sc.hid j b y c h e ((Qah _ _ _ _ _).1 m);refine⟨k.lt,k.ro,λq=>k.fr (.inl q),?_,?_⟩
     .intro E b' y' L n Y;rcases t E with⟨R,rfl⟩|⟨d1,d2⟩
      .rw[hσ']at L;rw[F]at n;cases W:H1[R]? with
       |none=>rw[W]at n;simp at n
       |some u=>
        rw[W]at n;simp at n;subst n;exact k.ne R b' u L W (by rw[Qz]at Y;exact Y)
      .rw[B E d1 d2]at n;rw[XG (by omega)]at L;rintro rfl;exact k.fr (G E c y' d1 d2 L n Y)
     .intro E b' y' L n Y;rcases t E with⟨R,rfl⟩|⟨d1,d2⟩
      .rw[hσ']at L;rw[F]at n;cases W:H1[R]? with
       |none=>rw[W]at n;simp at n
       |some u=>
        rw[W]at n;simp at n;subst n;obtain⟨z4,rfl⟩:=k.one R b' u L W ((Qah _ _ _ _ _).1 Y);exact⟨z4,rfl⟩
      .rw[B E d1 d2]at n;rw[XG (by omega)]at L;exact(k.fr (af E b' y' c d1 d2 L n Y).2).elim
   .rw[B i c1 c2]at g;rw[XG (by omega)]at h;obtain⟨J,X⟩:=af i b x c c1 c2 h g m;have k:=r.sim.hid i b x c h g J;refine⟨X8 k.lt ev.size,λq=>sc.roFr c q X,k.fr,?_,?_⟩
    .intro E b' y' L n Y;rcases t E with⟨R,rfl⟩|⟨d1,d2⟩
     .rw[hσ']at L;rw[F]at n;cases W:H1[R]? with
      |none=>rw[W]at n;simp at n
      |some u=>
       rw[W]at n;simp at n;subst n;rintro rfl;exact(sc.own R c u L W (by rw[Qz]at Y;exact Y)).2.2 X
     .rw[B E d1 d2]at n;rw[XG (by omega)]at L;exact k.ne E b' y' L n Y
    .intro E b' y' L n Y;rcases t E with⟨R,rfl⟩|⟨d1,d2⟩
     .rw[hσ']at L;rw[F]at n;cases W:H1[R]? with
      |none=>rw[W]at n;simp at n
      |some u=>
       rw[W]at n;simp at n;subst n;exact((sc.hid R b' u c L W ((Qah _ _ _ _ _).1 Y)).fr X).elim
     .rw[B E d1 d2]at n;rw[XG (by omega)]at L;exact k.one E b' y' L n (af E b' y' c d1 d2 L n Y).1
 have an:VR aa (σ++τ) w' (Yw (rho π H.length) rr) v:=(Qcf hσ').2 hv;have hk:=k rr H1 hq;cases d with
 |none=>
  simp only[hd,Act.put];have r':Rel fr aa (σ++τ) (QJ H π (H1.map (QK (rho π H.length)))) env N a w':=⟨ah,λs=>(r.env s).mono (V.ext σ τ),r.size,r.defers.keep V⟩;exact⟨_,rfl,Q1 (λe a w q=>q.step V (QB (by omega))) _ _ _ (hk rd fr aa (σ++τ) _ w' r' (hrd.to V λ_ q=>q))⟩
 |some d=>
  simp only[hd,Act.put];have aq:=hN d rfl;have r':Rel fr aa (σ++τ) (QJ H π (H1.map (QK (rho π H.length)))) (up env d (Yw (rho π H.length) rr)) N {a with tmps:=a.tmps.setIfInBounds d v} w':=
   ⟨ah,VR.up (fr:=fr) (λs=>(r.env s).mono (V.ext σ τ)) (by rw[r.size];exact aq) an,by simpa using r.size,r.defers.keep V⟩
  exact⟨_,rfl,Q1 (λe a w q=>q.step V (QB (by omega))) _ _ _ (hk rd fr aa (σ++τ) _ w' r' (hrd.to V λ_ q=>q))⟩
section
variable {P:Program} {o:Oper} {env:Env} {H:Qc}
theorem QG{fr ro:Nat->Prop}{σ:Sig}{N:Nat}{a:Act}{w:World}(r:Rel fr ro σ H env N a w){x:Operand}{k:IntKind}{n:Int}(h:opA env x=.int k n):a.eval x=.int k n:=by
 have:=Ql r x;rw[h]at this;exact this
theorem QbS{fr ro:Nat->Prop}{σ:Sig}{N:Nat}{a:Act}{w:World}(r:Rel fr ro σ H env N a w){x:Operand}{b:Bool}(h:opA env x=.bool b):a.eval x=.bool b:=by
 have:=Ql r x;rw[h]at this;exact this
theorem QcM{fr ro:Nat->Prop}{σ:Sig}{N:Nat}{a:Act}{w:World}(r:Rel fr ro σ H env N a w){x:Operand}{s:List UInt8}(h:opA env x=.str s):a.eval x=.string ⟨s.toArray⟩:=by
 have:=Ql r x;rw[h]at this;exact this
theorem OpV.move{x:Operand}{v:A}(ho:o.op=.move x)(hx:opA env x=v):OpV P o env H v:=
 λfr ro σ N a w r=>⟨a.eval x,by simp[execOp,ho],hx▸Ql r x⟩
theorem OpV.assign{x:Operand}{v:A}(ho:o.op=.assign x)(hx:opA env x=v):OpV P o env H v:=
 λfr ro σ N a w r=>⟨a.eval x,by simp[execOp,ho],hx▸Ql r x⟩
theorem OpV.pick{c x y:Operand}{b:Bool}{v:A}(i:o.op=.pick c x y)(d:opA env c=.bool b)(e:(if b then opA env x else opA env y)=v):OpV P o env H v:=by
 intro g f σ N a w r;have h:=QbS r d;refine⟨if b then a.eval x else a.eval y,by simp_all[execOp,asBool],?_⟩
 grind[Ql]
theorem OpV.add{t u:TypeId}{x y:Operand}{k:IntKind}{m n:Int}(j:o.op=.binOp .add t x y u)(d:opA env x=.int k m)(e:opA env y=.int k n):OpV P o env H (.int k (k.wrap (m+n))):=by
 intro g f σ N a w r;have i:=QG r d;have h:=QG r e;refine⟨_,?_,rfl⟩
 simp_all[execOp,Go.binOp,eqGuard,Op.intArith]
theorem OpV.sub{t u:TypeId}{x y:Operand}{k:IntKind}{m n:Int}(j:o.op=.binOp .sub t x y u)(d:opA env x=.int k m)(e:opA env y=.int k n):OpV P o env H (.int k (k.wrap (m-n))):=by
 intro g f σ N a w r;have i:=QG r d;have h:=QG r e;refine⟨_,?_,rfl⟩
 simp_all[execOp,Go.binOp,eqGuard,Op.intArith]
theorem OpV.mul{t u:TypeId}{x y:Operand}{k:IntKind}{m n:Int}(j:o.op=.binOp .mul t x y u)(d:opA env x=.int k m)(e:opA env y=.int k n):OpV P o env H (.int k (k.wrap (m*n))):=by
 intro g f σ N a w r;have i:=QG r d;have h:=QG r e;refine⟨_,?_,rfl⟩
 simp_all[execOp,Go.binOp,eqGuard,Op.intArith]
theorem Qbo{op:BinOp}{t u:TypeId}{x y:Operand}{k:IntKind}{m n:Int}{f:Int->Int->Bool}(i:o.op=.binOp op t x y u)(e:opA env x=.int k m)(j:opA env y=.int k n)
  (d:op=.eql/\f=(λa b=>a==b)\/op=.neq/\f=(λa b=>a != b)\/op=.lss/\f=(λa b=>decide (a<b))\/op=.leq/\f=(λa b=>decide (a<=b))\/
   op=.gtr/\f=(λa b=>decide (b<a))\/op=.geq/\f=(λa b=>decide (b<=a))):OpV P o env H (.bool (f m n)):=by
 intro l p σ N a w r;have g:=QG r e;have h:=QG r j;refine⟨_,?_,rfl⟩;generalize a.eval=ρ at*;rcases d with⟨rfl,rfl⟩|⟨rfl,rfl⟩|⟨rfl,rfl⟩|⟨rfl,rfl⟩|⟨rfl,rfl⟩|⟨rfl,rfl⟩<;>simp[i,g,h,go_sem]
theorem OpV.eql{t u:TypeId}{x y:Operand}{k:IntKind}{m n:Int}(ho:o.op=.binOp .eql t x y u)(hx:opA env x=.int k m)(hy:opA env y=.int k n):OpV P o env H (.bool (m==n)):=
 Qbo ho hx hy (by simp)
theorem OpV.neq{t u:TypeId}{x y:Operand}{k:IntKind}{m n:Int}(ho:o.op=.binOp .neq t x y u)(hx:opA env x=.int k m)(hy:opA env y=.int k n):OpV P o env H (.bool (m != n)):=
 Qbo ho hx hy (by simp)
theorem OpV.lss{t u:TypeId}{x y:Operand}{k:IntKind}{m n:Int}(ho:o.op=.binOp .lss t x y u)(hx:opA env x=.int k m)(hy:opA env y=.int k n):OpV P o env H (.bool (decide (m<n))):=
 Qbo (f:=λa b=>decide (a<b)) ho hx hy (by simp)
theorem OpV.leq{t u:TypeId}{x y:Operand}{k:IntKind}{m n:Int}(ho:o.op=.binOp .leq t x y u)(hx:opA env x=.int k m)(hy:opA env y=.int k n):OpV P o env H (.bool (decide (m<=n))):=
 Qbo (f:=λa b=>decide (a<=b)) ho hx hy (by simp)
theorem OpV.gtr{t u:TypeId}{x y:Operand}{k:IntKind}{m n:Int}(ho:o.op=.binOp .gtr t x y u)(hx:opA env x=.int k m)(hy:opA env y=.int k n):OpV P o env H (.bool (decide (n<m))):=
 Qbo (f:=λa b=>decide (b<a)) ho hx hy (by simp)
theorem OpV.geq{t u:TypeId}{x y:Operand}{k:IntKind}{m n:Int}(ho:o.op=.binOp .geq t x y u)(hx:opA env x=.int k m)(hy:opA env y=.int k n):OpV P o env H (.bool (decide (n<=m))):=
 Qbo (f:=λa b=>decide (b<=a)) ho hx hy (by simp)
theorem OpV.rem{t u:TypeId}{x y:Operand}{k:IntKind}{m n:Int}(l:o.op=.binOp .rem t x y u)(d:opA env x=.int k m)(e:opA env y=.int k n)(g:n≠0):OpV P o env H (.int k (m.tmod n)):=by
 intro f i σ N a w r;have h:=QG r d;have j:=QG r e;exact⟨_,by simp_all[execOp,Go.binOp,eqGuard,Op.intDiv],rfl⟩
theorem OpV.quo{t u:TypeId}{x y:Operand}{k:IntKind}{m n:Int}(l:o.op=.binOp .quo t x y u)(d:opA env x=.int k m)(e:opA env y=.int k n)(g:n≠0):OpV P o env H (.int k (k.wrap (m.tdiv n))):=by
 intro f i σ N a w r;have h:=QG r d;have j:=QG r e;exact⟨_,by simp_all[execOp,Go.binOp,eqGuard,Op.intDiv],rfl⟩
theorem OpV.not{t:TypeId}{x:Operand}{b:Bool}(h:o.op=.unOp .not t x)(d:opA env x=.bool b):OpV P o env H (.bool !b):=by
 intro f e σ N a w r;have g:=QbS r d;exact⟨_,by simp_all[execOp,Op.unary],rfl⟩
theorem OpV.neg{t:TypeId}{x:Operand}{k:IntKind}{n:Int}(h:o.op=.unOp .neg t x)(d:opA env x=.int k n):OpV P o env H (.int k (k.wrap (0-n))):=by
 intro f e σ N a w r;have g:=QG r d;exact⟨_,by simp_all[execOp,Op.unary,Op.intArith],rfl⟩
theorem Qdw{s t:TypeId}{x:Operand}{k f:IntKind}{n:Int}{e:TypeDesc}(m:o.op=.convert s t x)(i:∀w,(underlying s).run P w=.ok e w)(h:∀w,(underlying t).run P w=.ok (.int k) w)
  (d:opA env x=.int f n):OpV P o env H (.int k (k.wrap n)):=by
 intro g l σ N a w r;have j:=QG r d;refine⟨_,?_,rfl⟩
 simp_all[execOp,convert,Conv.intToInt]
theorem Qci{op:BinOp}{t u:TypeId}{x y:Operand}{p q:List UInt8}{f:List UInt8->List UInt8->Bool}(k:o.op=.binOp op t x y u)(e:opA env x=.str p)(l:opA env y=.str q)
  (d:op=.eql/\f=(λa b=>a==b)\/op=.neq/\f=(λa b=>a != b)\/op=.lss/\f=Op.bytesLess\/op=.geq/\f=(λa b=> !Op.bytesLess a b)\/
   op=.leq/\f=(λa b=>Op.bytesLess a b||a==b)\/op=.gtr/\f=(λa b=> !(Op.bytesLess a b||a==b))):OpV P o env H (.bool (f p q)):=by
 intro m n σ N a w r;have g:=QcM r e;have i:=QcM r l;refine⟨_,?_,rfl⟩;generalize a.eval=ρ at*;have h:(⟨p.toArray⟩:ByteArray).toList=p:=by simp
 have j:(⟨q.toArray⟩:ByteArray).toList=q:=by simp
 rcases d with⟨rfl,rfl⟩|⟨rfl,rfl⟩|⟨rfl,rfl⟩|⟨rfl,rfl⟩|⟨rfl,rfl⟩|⟨rfl,rfl⟩<;>simp[k,g,i,Go.binOp,Op.stringOp,h,j,go_sem,bne]
theorem Qg6{t u:TypeId}{x y:Operand}{p q:List UInt8}(ho:o.op=.binOp .eql t x y u)(hx:opA env x=.str p)(hy:opA env y=.str q):OpV P o env H (.bool (p==q)):=
 Qci ho hx hy (by simp)
theorem Qg3{t u:TypeId}{x y:Operand}{p q:List UInt8}(ho:o.op=.binOp .neq t x y u)(hx:opA env x=.str p)(hy:opA env y=.str q):OpV P o env H (.bool (p != q)):=
 Qci ho hx hy (by simp)
theorem Qg4{t u:TypeId}{x y:Operand}{p q:List UInt8}(ho:o.op=.binOp .lss t x y u)(hx:opA env x=.str p)(hy:opA env y=.str q):OpV P o env H (.bool (Op.bytesLess p q)):=
 Qci ho hx hy (by simp)
theorem Qg5{t:TypeId}{x y:Operand}{s:List UInt8}{k:IntKind}{n:Int}{c:UInt8}(B:o.op=.index t x y)(m:∀w,(underlying t).run P w=.ok .string w)(e:opA env x=.str s)(i:opA env y=.int k n)
  (q:0<=n)(j:s[n.toNat]?=some c):OpV P o env H (.int .u8 c.toNat):=by
 intro l u σ N a w r;have p:=QcM r e;have z:=QG r i;have f:(⟨s.toArray⟩:ByteArray)[n.toNat]?=some c:=by
  obtain⟨d,h⟩:=XF.1 j;have g:(⟨s.toArray⟩:ByteArray).size=s.length:=by rfl
  rw[getElem?_pos _ _ (by exact d)];show some (s.toArray[n.toNat]'(by omega))=some c;simp[h]
 refine⟨_,?_,rfl⟩
 simp_all[execOp,Instr.index,asIntOf]
theorem QaX{c:Call}{t:TypeId}{x:Operand}{s:List UInt8}(g:o.op=.call c)(h:c={callee:=.builtin .len,args:= #[x],argTypes:= #[t]})(e:∀w,(underlying t).run P w=.ok .string w)
  (d:opA env x=.str s):OpV P o env H (.int .i64 s.length):=by
 intro j i σ N a w r;have f:=QcM r d;generalize a.eval=ρ at*;subst h;simp[execOp,g,f,resolve,invoke,Builtin.len_,e,goInt,go_sem]<;>rfl
theorem Qil{c:Call}{t e:TypeId}{x:Operand}{k:Nat}{es:List (List A)}(i:o.op=.call c)(j:c={callee:=.builtin .len,args:= #[x],argTypes:= #[t]})(g:∀w,(underlying t).run P w=.ok (.slice e) w)
  (f:opA env x=.rsl k es):OpV P o env H (.int .i64 es.length):=by
 intro l n σ N a w r;have d:=Ql r x;rw[f]at d;obtain⟨m,h,d,_⟩:=d;refine⟨_,?_,rfl⟩;generalize a.eval=ρ at*;subst j;simp[execOp,i,d,resolve,invoke,Builtin.len_,g,goInt,go_sem]
theorem Qim{c:Call}{t e:TypeId}{x:Operand}{i s n k:Nat}(j:o.op=.call c)(l:c={callee:=.builtin .len,args:= #[x],argTypes:= #[t]})(g:∀w,(underlying t).run P w=.ok (.slice e) w)
  (f:opA env x=.osl i s n k):OpV P o env H (.int .i64 n):=by
 intro q u σ N a w r;have d:=Ql r x;rw[f]at d;refine⟨_,?_,rfl⟩;generalize a.eval=ρ at*;subst l;rcases d with⟨rfl,d⟩|⟨b,p,h,y,m,_,d,_⟩<;>
 simp[execOp,j,d,resolve,invoke,Builtin.len_,g,goInt,go_sem]
structure Ym (P:Program) (T f off n:Nat):Prop where
 h:∃fs fd,(∀w,(underlying T).run P w=.ok (.struct fs) w)/\fs[f]?=some fd/\fd.offset=off/\(∀w,(sizeOf fd.type).run P w=.ok n w)/\n≠0
theorem QaL(b a n:Nat):(⟨b,a,none⟩:Addr).add n=⟨b,a+n,none⟩:=by
 simp_all[Addr.add]
theorem Qcp{T f off n b p:Nat}(a:Ym P T f off n)(w:World):(Instr.fieldAt T (.pointer (some ⟨b,p,none⟩)) f).run P w=.ok (.pointer (some ⟨b,p+off,none⟩)) w:=by
 obtain⟨k,i,g,j,rfl,d,e⟩:=a.h
 simp_all[Instr.fieldAt,Instr.sureAddr,fieldPlace,QaL]
theorem QbK{T f off n i p:Nat}{x:Operand}(j:Ym P T f off n)(h:o.op=.fieldAddr T x f)(e:opA env x=.ptr i p):OpV P o env H (.ptr i (p+off)):=by
 intro l k σ N a w r;have d:=Ql r x;rw[e]at d;obtain⟨b,d,g⟩:=d;refine⟨.pointer (some ⟨b,p+off,none⟩),?_,b,d,rfl⟩;simp only[execOp,h,g,Vf,Qcp j];rfl
theorem CR.drop{ro:Nat->Prop}{σ:Sig}{w:World}{b:Nat}:∀(n:Nat) {cs:List A} {off:Nat},CR ro σ w b cs off->CR ro σ w b (cs.drop n) (off+n)
 |0,_,_,h=>h
 |n+1,[],_,h=>trivial
 |n+1,c::cs,off,h=>by
  have:=CR.drop n h.2
  grind
theorem CR.take{ro:Nat->Prop}{σ:Sig}{w:World}{b:Nat}:∀(n:Nat) {cs:List A} {off:Nat},CR ro σ w b cs off->CR ro σ w b (cs.take n) off
 |0,_,_,h=>trivial
 |n+1,[],_,h=>trivial
 |n+1,c::cs,off,h=>⟨h.1,CR.take n h.2⟩
theorem Qdu{T f off n:Nat}{x:Operand}{h d:List A}(m:Ym P T f off n)(l:o.op=.fieldAddr T x f)(i:opA env x=.rp h)(g:h.drop off=d):OpV P o env H (.rp d):=by
 intro q s σ N a w r;have e:=Ql r x;rw[i]at e;obtain⟨b,p,e,k,j⟩:=e;refine⟨.pointer (some ⟨b,p+off,none⟩),?_,b,p+off,rfl,k,g▸j.drop off⟩;simp only[execOp,l,e,Vf,Qcp m];rfl
theorem RR.get{ro:Nat->Prop}{σ:Sig}{w:World}{b k:Nat}:∀(n:Nat) {es:List (List A)} {off:Nat} {c:List A},RR ro σ w b k es off->es[n]?=some c->c.length=k/\CR ro σ w b c (off+n*k)
 |n,[],_,_,h,hc=>by simp at hc
 |0,e::es,off,c,h,hc=>by
  simp at hc;subst hc;exact⟨h.1,by simpa using h.2.1⟩
 |n+1,e::es,off,c,h,hc=>by
  have:=RR.get n h.2.2 (by simpa using hc)
  grind
theorem Qi5{t e:TypeId}{x y:Operand}{k:Nat}{es:List (List A)}{F:IntKind}{n:Int}{c:List A}(E:o.op=.indexAddr t x y)(i:∀w,(underlying t).run P w=.ok (.slice e) w)
  (l:∀w,(sizeOf e).run P w=.ok k w)(h:opA env x=.rsl k es)(G:opA env y=.int F n)(z:0<=n)(q:es[n.toNat]?=some c):OpV P o env H (.rp c):=by
 intro J M σ N a w r;have f:=Ql r x;rw[h]at f;have p:=QG r G;obtain⟨L,m,f,O,s⟩:=f;have g:n.toNat<es.length:=(by grind);rcases s with rfl|⟨b,d,rfl,u,B⟩
 .simp at g
 have j:n<es.length:=by omega
 refine⟨.pointer (some ⟨b,d+n.toNat*k,none⟩),?_,b,d+n.toNat*k,rfl,u,(B.get n.toNat q).2⟩;generalize a.eval=ρ at*;simp[E,f,p,Instr.indexAt,i,l,z,j,go_sem]
theorem Qgq{t e:TypeId}{x y:Operand}{i s m k:Nat}{G:IntKind}{n:Int}(F:o.op=.indexAddr t x y)(h:∀w,(underlying t).run P w=.ok (.slice e) w)
  (l:∀w,(sizeOf e).run P w=.ok k w)(g:opA env x=.osl i s m k)(z:opA env y=.int G n)(u:0<=n)(q:n<m):OpV P o env H (.ptr i (s*k+n.toNat*k)):=by
 intro L M σ N a w r;have d:=Ql r x;rw[g]at d;have E:=QG r z;rcases d with⟨rfl,_⟩|⟨b,p,B,O,Q,j,d,f,J,_⟩
 .omega
 obtain rfl:=f (by omega);refine⟨.pointer (some ⟨b,s*k+n.toNat*k,none⟩),?_,b,j,rfl⟩;generalize a.eval=ρ at*;simp[F,d,E,Instr.indexAt,h,l,u,q,go_sem]
def Pts(H:Qc)(p:A)(cs:List A):Prop:=
 ∀fr ro σ w v,Sim fr ro σ H w->VR ro σ w p v->∃b off,v=.pointer (some ⟨b,off,none⟩)/\CR ro σ w b cs off
theorem VR.lift{ro:Nat->Prop}{σ:Sig}{w:World}{a:A}{v:Value}(h:VR ro [] w a v):VR ro σ w a v:=
 h.mono ⟨λ_ q=>q,λ_ _=>rfl,λ_ _ q=>q,(by simp)⟩
theorem CR.lift{ro:Nat->Prop}{σ:Sig}{w:World}{b:Nat}:∀{cs:List A} {off:Nat},CR ro [] w b cs off->CR ro σ w b cs off
 |[],_,_=>trivial
 |c::cs,off,⟨⟨v,h1,hp,h2⟩,h3⟩=>⟨⟨v,h1,hp,h2.lift⟩,CR.lift h3⟩
theorem LR.lift{ro:Nat->Prop}{σ:Sig}{w:World}:∀{cs:List A} {l:List Value},LR ro [] w cs l->LR ro σ w cs l
 |[],_,h=>h
 |c::cs,l,⟨v,l',h1,h2,h3⟩=>⟨v,l',h1,h2.lift,LR.lift h3⟩
theorem Pts.rp{cs:List A}:Pts H (.rp cs) cs:=λfr ro σ w v s ⟨b,off,h1,h2,h3⟩=>⟨b,off,h1,h3.lift⟩
theorem LR.cells{ro:Nat->Prop}{σ:Sig}{w:World}{b t:Nat}{fz:Nat×Nat}{pre l:List Value}(e:w.heap[b]?=some (.cells (pre++l).toArray t fz))(d:∀v∈l,Qv v):
  ∀{a:List A},LR ro σ w a l->CR ro σ w b a pre.length:=by
 induction l generalizing pre with
 |nil=>
  intro a h;cases a with
  |nil=>trivial
  |cons c a=>obtain⟨v,m,h,_⟩:=h;cases h
 |cons v l j=>
  intro a h;cases a with
  |nil=>trivial
  |cons c a=>
   obtain⟨n,m,i,k,g⟩:=h;cases i;refine⟨⟨v,by simp[World.cell?,e],d v (by simp),k⟩,?_⟩;have:=j (pre:=pre++[v]) (by simpa using e) (λx f=>d x (by simp[f])) g
   grind
theorem Pts.cells{i a t:Nat}{e d:List A}(m:H[i]?=some (.cells t e))(f:e.drop a=d):Pts H (.ptr i a) d:=by
 intro p q σ w v s h;obtain⟨b,g,r⟩:=h;obtain⟨l,k,n,j⟩:=s.blk i _ _ g m;have:=LR.cells (pre:=[]) (by simpa using k) j n;have:=this.drop a
 grind
theorem LR.get{ro:Nat->Prop}{σ:Sig}{w:World}:∀{az:List A} {l:List Value} (i:Nat) {a:A},LR ro σ w az l->az[i]?=some a->∃v,l[i]?=some v/\VR ro σ w a v
 |[],l,i,a,h,ha=>by simp at ha
 |x::az,l,0,a,⟨v,l',h1,h2,h3⟩,ha=>by
  grind
 |x::az,l,i+1,a,⟨v,l',h1,h2,h3⟩,ha=>by
  obtain⟨v',q1,q2⟩:=LR.get i h3 (by simpa using ha)
  grind
theorem LR.drop{ro:Nat->Prop}{σ:Sig}{w:World}:∀(n:Nat) {az:List A} {l:List Value},LR ro σ w az l->LR ro σ w (az.drop n) (l.drop n)
 |0,az,l,h=>h
 |n+1,[],l,h=>by cases(show l=[]from h);rfl
 |n+1,a::az,l,⟨v,l',h1,h2,h3⟩=>by subst h1;exact LR.drop n h3
theorem LR.take{ro:Nat->Prop}{σ:Sig}{w:World}:∀(n:Nat) {az:List A} {l:List Value},LR ro σ w az l->LR ro σ w (az.take n) (l.take n)
 |0,az,l,h=>rfl
 |n+1,[],l,h=>by cases(show l=[]from h);rfl
 |n+1,a::az,l,⟨v,l',h1,h2,h3⟩=>by subst h1;exact⟨v,l'.take n,rfl,h2,LR.take n h3⟩
theorem LR.append{ro:Nat->Prop}{σ:Sig}{w:World}:∀{az:List A} {l:List Value} {bs:List A} {m:List Value},LR ro σ w az l->LR ro σ w bs m->LR ro σ w (az++bs) (l++m)
 |[],l,bs,m,h,k=>by cases(show l=[]from h);exact k
 |a::az,l,bs,m,⟨v,l',h1,h2,h3⟩,k=>by subst h1;exact⟨v,l'++m,rfl,h2,LR.append h3 k⟩
theorem Qgu{ro:Nat->Prop}{σ:Sig}{w:World}{b t:Nat}{fz:Nat×Nat}:∀{cs:List A} {pre l post:List Value},w.heap[b]?=some (.cells (pre++(l++post)).toArray t fz)->(∀v∈l,Qv v)->
  LR ro σ w cs l->CR ro σ w b cs pre.length
 |[],_,_,_,_,_,_=>trivial
 |c::cs,pre,l,post,hb,hpl,⟨v,l',h1,h2,h3⟩=>by
  subst h1;refine⟨⟨v,by simp[World.cell?,hb],hpl v (by simp),h2⟩,?_⟩;have:=Qgu (pre:=pre++[v]) (by simpa using hb) (by grind) h3
  grind
theorem YA{ro:Nat->Prop}{σ:Sig}{w:World}{b t k:Nat}{fz:Nat×Nat}:∀{es:List (List A)} {pre l:List Value},w.heap[b]?=some (.cells (pre++l).toArray t fz)->
  RL ro σ w k es l->RR ro σ w b k es pre.length
 |[],_,_,_,_=>trivial
 |c::es,pre,l,hb,⟨l1,l2,h1,h2,h3,h4⟩=>by
  subst h1;refine⟨h2,Qgu hb h3.2 h3.1,?_⟩;have hl:=h3.1.length;have:=YA (pre:=pre++l1) (by simpa using hb) h4
  grind
theorem Pts.row{i a t k e f:Nat}{es:List (List A)}{c d:List A}(q:H[i]?=some (.row t k es))(p:a=e*k+f)(he:es[e]?=some c)(g:c.drop f=d):Pts H (.ptr i a) d:=by
 intro u x σ w v s h;obtain⟨b,j,m⟩:=h;obtain⟨l,n,r⟩:=s.blk i _ _ j q;have:=((YA (pre:=[]) (by simpa using n) r).get e he).2.drop f;refine⟨b,a,m,?_⟩;subst p g;simpa using this.lift
theorem Pts.rowr{i a t k e f:Nat}{es:List (List A)}{c d:List A}(n:H[i]?=some (.rowr t k es))(x:a=e*k+f)(he:es[e]?=some c)(g:c.drop f=d):Pts H (.ptr i a) d:=by
 intro q r σ w v s h;obtain⟨b,j,u⟩:=h;obtain⟨l,m,p⟩:=s.blk i _ _ j n;have:=((YA (pre:=[]) (by simpa using m) p).get e he).2.drop f
 grind
theorem QgR{w w':World}(h:w'.heap=w.heap)(a:Addr):w'.cell? a=w.cell? a:=by unfold World.cell?;rw[h]
theorem Yg{ro:Nat->Prop}{σ:Sig}{w:World}{b d:Nat}:∀{e:List A} (i:Nat),CR ro σ w b e (d+i)->
  ∃l,LR ro σ w e l/\(∀v∈l,Qv v)/\ ∀(w':World) (a:Array Value),w'.heap=w.heap->(loadCellsFrom ⟨b,d,none⟩ i e.length a).run P w'=.ok (a++l.toArray) w'
 |[],i,h=>⟨[],rfl,by simp,λw' a _=>by rfl⟩
 |c::e,i,⟨⟨v,h1,hp,h2⟩,h3⟩=>by
  obtain⟨l,q1,qp,q2⟩:=Yg (i+1) (by omega);refine⟨v::l,⟨v,l,rfl,h2,q1⟩,by grind,λw' a hw=>?_⟩;have h1':w'.cell? ⟨b,d+i,none⟩=some v:=by rw[QgR hw];exact h1
  simp_all[loadCellsFrom,QaL]
theorem QY{t n:Nat}{x:Operand}{p:A}{d vs:List A}(B:o.op=.load t x)(s:∀w,(isAgg t).run P w=.ok true w)(u:∀w,(sizeOf t).run P w=.ok n w)(f:opA env x=p)(q:Pts H p d)
  (i:d.take n=vs)(y:vs.length=n):OpV P o env H (.agg vs):=by
 intro g k σ N a w r;have e:=Ql r x;rw[f]at e;obtain⟨b,j,z,h⟩:=q g k σ w _ r.sim e;subst i;obtain⟨l,m,_,E⟩:=Yg (P:=P) 0 (by simpa using h.take n);refine⟨.agg l.toArray,?_,l,rfl,m⟩
 simp_all[execOp,Instr.loadAt,Instr.sureAddr,loadVar,loadCells]
theorem OpV.load{t:Nat}{x:Operand}{p v:A}{g:List A}(q:o.op=.load t x)(l:∀w,(isAgg t).run P w=.ok false w)(e:opA env x=p)(j:Pts H p (v::g)):OpV P o env H v:=by
 intro f i σ N a w r;have d:=Ql r x;rw[e]at d;obtain⟨b,h,n,⟨y,m,_,k⟩,_⟩:=j f i σ w _ r.sim d
 simp_all[execOp,Instr.loadAt,Instr.sureAddr,loadVar]
theorem OpV.extract{x:Operand}{vs:List A}{i:Nat}{v:A}(n:o.op=.extract x i)(e:opA env x=.tup vs)(f:vs[i]?=some v):OpV P o env H v:=by
 intro j m σ N a w r;have d:=Ql r x;rw[e]at d;obtain⟨l,d,g⟩:=d;obtain⟨y,k,h⟩:=g.get i f
 simp_all[execOp,Instr.extract]
theorem OpV.field{T f off n:Nat}{x:Operand}{e:List A}{v:A}(k:Ym P T f off n)(m:∀fs fd,(∀w,(underlying T).run P w=.ok (.struct fs) w)->fs[f]?=some fd->∀w,(isAgg fd.type).run P w=.ok false w)
  (z:o.op=.field T x f)(g:opA env x=.agg e)(i:e[off]?=some v):OpV P o env H v:=by
 intro q B σ N a w r;have d:=Ql r x;rw[g]at d;obtain⟨l,d,j⟩:=d;obtain⟨y,s,p⟩:=j.get off i;obtain⟨fs,fd,u,E,rfl,F,t⟩:=k.h
 simp_all[execOp,Instr.field,asAgg,part]
theorem QaK{fr ro:Nat->Prop}{σ:Sig}{N:Nat}{a:Act}{w:World}(r:Rel fr ro σ H env N a w):∀(l:List Operand),LR ro σ w (l.map (opA env)) (l.map a.eval)
 |[]=>rfl
 |x::l=>⟨_,_,rfl,Ql r x,QaK r l⟩
theorem OpV.makeFunc{f:Fn}{first cap:List Operand}{e d:List A}(k:o.op=.makeFunc f first.toArray cap.toArray)(h:first.map (opA env)=e)(g:cap.map (opA env)=d):OpV P o env H (.fn f e d):=by
 intro j i σ N a w r;refine⟨.func f (first.map a.eval).toArray (cap.map a.eval).toArray,?_,_,_,rfl,h▸QaK r first,g▸QaK r cap⟩
 simp_all[execOp,Instr.makeFunc]
theorem Qak{t:TypeId}{x:Operand}{v:A}{d:TypeDesc}(k:o.op=.makeInterface t x)(i:∀w,(underlying t).run P w=.ok d w)(j:∀m,d≠ .interface m)(f:opA env x=v):OpV P o env H (.iface t v):=by
 intro h g σ N a w r;have e:=Ql r x;rw[f]at e;refine⟨.iface t (a.eval x),?_,_,rfl,e⟩
 simp_all[execOp,Instr.makeInterface]
end
mutual
def Yc:A->Bool
 |.ptr _ _=>false
 |.osl _ _ _ _=>false
 |.map _=>false
 |.agg cs=>Yi cs
 |.fn _ a c=>Yi a&&Yi c
 |.iface _ v=>Yc v
 |.tup vs=>Yi vs
 |_=>true
def Yi:List A->Bool
 |[]=>true
 |a::r=>Yc a&&Yi r
end
mutual
theorem VR.data{ro:Nat->Prop}{σ σ':Sig}{w:World}:∀{a:A} {v:Value},Yc a=true->VR ro σ w a v->VR ro σ' w a v
 |.any,_,_,_=>trivial
 |.bool b,v,_,q=>q
 |.int k n,v,_,q=>q
 |.str s,v,_,q=>q
 |.nilp,v,_,q=>q
 |.ptr i off,v,d,q=>by simp[Yc]at d
 |.rp cs,v,_,q=>q
 |.nils,v,_,q=>q
 |.rsl k es,v,_,q=>q
 |.osl i o n k,v,d,q=>by simp[Yc]at d
 |.agg cs,v,d,q=>by
  simp only[VR,Yc]at q d⊢;obtain⟨l,h1,h2⟩:=q;exact⟨l,h1,LR.data d h2⟩
 |.fn f a c,v,d,q=>by
  simp only[VR,Yc,XP]at q d⊢;obtain⟨l,l',h1,h2,h3⟩:=q;exact⟨l,l',h1,LR.data d.1 h2,LR.data d.2 h3⟩
 |.nilf,v,_,q=>q
 |.iface t a,v,d,q=>by
  simp only[VR,Yc]at q d⊢;obtain⟨x,h1,h2⟩:=q;exact⟨x,h1,VR.data d h2⟩
 |.nilif,v,_,q=>q
 |.map i,v,d,q=>by simp[Yc]at d
 |.nilm,v,_,q=>q
 |.tup vs,v,d,q=>by
  simp only[VR,Yc]at q d⊢;obtain⟨l,h1,h2⟩:=q;exact⟨l,h1,LR.data d h2⟩
theorem LR.data{ro:Nat->Prop}{σ σ':Sig}{w:World}:∀{az:List A} {l:List Value},Yi az=true->LR ro σ w az l->LR ro σ' w az l
 |[],_,_,q=>q
 |a::r,l,d,q=>by
  simp only[LR,Yi,XP]at q d⊢;obtain⟨v,l',h1,h2,h3⟩:=q;exact⟨v,l',h1,VR.data d.1 h2,LR.data d.2 h3⟩
end
def Yd:A->Bool
 |.any|.agg _|.tup _=>false
 |_=>true
def QW:A->List A
 |.agg cs=>cs
 |a=>[a]
def Q4:A->Bool
 |.any=>false
 |_=>true
theorem VR.plain{ro:Nat->Prop}{σ:Sig}{w:World}{a:A}{v:Value}(d:Yd a=true)(h:VR ro σ w a v):Qv v:=by
 cases a<;>first|(simp[Yd]at d)|skip
 case rsl k es=>obtain⟨e,c,rfl,_⟩:=h;trivial
 case osl=>rcases h with⟨_,rfl⟩|⟨_,_,_,_,_,_,rfl,_⟩<;>trivial
 case fn=>obtain⟨_,_,rfl,_⟩:=h;trivial
 case iface=>obtain⟨_,rfl,_⟩:=h;trivial
 case ptr=>obtain⟨_,_,rfl⟩:=h;trivial
 case rp=>obtain⟨_,_,rfl,_⟩:=h;trivial
 case map=>obtain⟨_,_,rfl⟩:=h;trivial
 all_goals (subst h;trivial)
theorem VR.cells{ro:Nat->Prop}{σ:Sig}{w:World}{a:A}{v:Value}(d:Q4 a=true)(h:VR ro σ w a v):∃l:List Value,v.cells=l.toArray/\LR ro σ w (QW a) l:=by
 cases a
 case any=>simp[Q4]at d
 case agg cs=>obtain⟨l,rfl,h⟩:=h;exact⟨l,rfl,h⟩
 case tup cs=>obtain⟨l,rfl,h⟩:=h;exact⟨[.tuple l.toArray],rfl,_,_,rfl,⟨l,rfl,h⟩,rfl⟩
 all_goals
  have e:=h.plain rfl;refine⟨[v],?_,v,[],rfl,h,rfl⟩;cases v<;>first|rfl|exact e.elim
theorem LR.plain{ro:Nat->Prop}{σ:Sig}{w:World}:∀{az:List A} {l:List Value},az.all Yd=true->LR ro σ w az l->∀v∈l,Qv v
 |[],l,_,h=>by cases(show l=[]from h);simp
 |a::az,l,hp,⟨v,l',h1,h2,h3⟩=>by
  subst h1;simp only[List.all_cons,XP]at hp;intro x hx;rcases XY.1 hx with rfl|hx
  .exact h2.plain hp.1
  .exact LR.plain hp.2 h3 x hx
theorem QZ(w:World)(obj:Obj)(b:Nat)(a:b<w.heap.size):(w.alloc obj).heap[b]?=w.heap[b]? :=by
 show(w.heap.push obj)[b]?=_
 grind
theorem Yf(w:World)(obj:Obj):(w.alloc obj).heap[w.heap.size]?=some obj:=by
 show(w.heap.push obj)[w.heap.size]?=_;simp
theorem YC(w:World)(obj:Obj):(w.alloc obj).heap.size=w.heap.size+1:=by
 simp
theorem Qhv{w:World}{b:Nat}{x:TypeId×Nat}(h:w.shape? b=some x):b<w.heap.size:=by
 grind[World.shape?]
theorem Qj.alloc{fr ro:Nat->Prop}{w:World}(obj:Obj)(hro:∀b,ro b->b<w.heap.size)(hfr:∀b,fr b->b<w.heap.size):Qj fr ro w ro (w.alloc obj):=
 ⟨λ_ h=>h,λb h=>QZ w obj b (hro b h),λb h=>QZ w obj b (hfr b h),by simp,
  λb x h=>by grind[World.shape?,QZ],rfl,rfl,rfl,XM _⟩
section
variable {P:Program} {o:Oper} {env:Env} {H:Qc} {fr ro:Nat->Prop} {σ:Sig} {w:World}
theorem Sim.alloc(s:Sim fr ro σ H w){obj:Obj}{x:Blk}(L:BR ro (σ++[some w.heap.size]) (w.alloc obj) x (some w.heap.size))
  (u:∀c,Hid (w.alloc obj) x w.heap.size c->False:=by exact λ_ h=>h.elim):
  Sim fr ro (σ++[some w.heap.size]) (H++[x]) (w.alloc obj):=by
 have ev:Qj fr ro w ro (w.alloc obj):=Qj.alloc obj s.roLt s.frLt;have m:=s.len;have e:∀(i:Nat) (y:Option Nat),(σ++[some w.heap.size])[i]?=some y->(i<σ.length/\σ[i]?=some y)\/(i=σ.length/\y=some w.heap.size):=by
  grind
 have k:∀i:Nat,i<σ.length->(H++[x])[i]?=H[i]? :=λi G=>XG (by omega);have F:(H++[x])[σ.length]?=some x:=by rw[m];simp
 refine⟨by simp[m],s.roOk.to (λ_ q=>q) ev.keepRo (λb h=>?_),λb h=>?_,s.roFr,?_,?_,?_,?_⟩
 .rw[YC];have:=s.roLt b h;omega
 .rw[YC];have:=s.frLt b h;omega
 .intro i b y f g l;rw[YC];rcases e i _ f with⟨q,f⟩|⟨rfl,n⟩
  .rw[k i q]at g;obtain⟨a,b,c⟩:=s.own i b y f g l
   grind
  .cases n;exact⟨by omega,λq=>by have:=s.roLt _ q;omega,λq=>by have:=s.frLt _ q;omega⟩
 .intro i j b y z f g l t B E;rcases e i _ f with⟨q,f⟩|⟨rfl,n⟩<;>rcases e j _ g with⟨q',g⟩|⟨rfl,e2⟩
  .rw[k i q]at l;rw[k j q']at t;exact s.inj i j b y z f g l t B E
  .cases e2;rw[k i q]at l;have:=(s.own i _ y f l B).1;omega
  .cases n;rw[k j q']at t;have:=(s.own j _ z g t E).1;omega
  .rfl
 .intro i y z f g;rcases e i _ f with⟨q,f⟩|⟨rfl,n⟩
  .rw[k i q]at g;refine(s.blk i y z f g).keep (ev.ext σ _) ?_ ?_
   .rintro b rfl m;exact QZ w obj b (s.own i b z f g m).1
   .rintro b c rfl m;exact QZ w obj c (s.hid i b z c f g m).lt
  grind
 .refine s.hidTo (· = ·) QU (by rw[YC];omega) (λ_ _ _ _ _ _ _ q=>q) (λ_ _ _ _ _ _ _ q=>q) λj d y r p J=>?_;rcases e j _ r with⟨q,r⟩|⟨rfl,n⟩
  .rw[k j q]at p;exact .inl ⟨j,y,rfl,r,p,id,λc q=>s.hidKeep r p (λz=>QZ w obj d (s.own j d y r p z).1) ev.keepRo q⟩
  .rw[F]at p;cases p;cases n;exact .inr ⟨XM _,u⟩
theorem Sim.allocCells(s:Sim fr ro σ H w){t:Nat}{cs:List A}{l:List Value}(h:LR ro σ w cs l)(hp:∀v∈l,Qv v):
  Sim fr ro (σ++[some w.heap.size]) (H++[.cells t cs]) (w.alloc (.cells l.toArray t)):=
 s.alloc ⟨l,Yf _ _,h.mono ((Qj.alloc _ s.roLt s.frLt).ext σ _),hp⟩
theorem Qfq{ro:Nat->Prop}{σ:Sig}{w:World}:∀{az bs:List A} {l:List Value},LR ro σ w (az++bs) l->∃l1 l2,l=l1++l2/\LR ro σ w az l1/\LR ro σ w bs l2
 |[],bs,l,h=>⟨[],l,rfl,rfl,h⟩
 |a::az,bs,l,⟨v,l',h1,h2,h3⟩=>by
  obtain⟨l1,l2,e,q1,q2⟩:=Qfq h3;subst h1 e;exact⟨v::l1,l2,rfl,⟨v,l1,rfl,h2,q1⟩,q2⟩
def allK(k:Nat):List (List A)->Prop
 |[]=>True
 |c::es=>c.length=k/\allK k es
theorem Qaf{k:Nat}:∀{es:List (List A)} {l rest:List Value},allK k es->LR ro σ w es.flatten l->(∀v∈l,Qv v)->RL ro σ w k es (l++rest)
 |[],_,_,_,_,_=>trivial
 |c::es,l,rest,⟨h1,h2⟩,h,hp=>by
  obtain⟨l1,l2,rfl,q1,q2⟩:=Qfq h;exact⟨l1,l2++rest,by simp,h1,(by grind),Qaf h2 q2 (by grind)⟩
theorem Sim.allocRow(s:Sim fr ro σ H w){t k:Nat}{es:List (List A)}{l rest:List Value}(hk:allK k es)(h:LR ro [] w es.flatten l)(hp:∀v∈l,Qv v):
  Sim fr ro (σ++[some w.heap.size]) (H++[.row t k es]) (w.alloc (.cells (l++rest).toArray t)):=
 s.alloc ⟨l++rest,Yf _ _,(Qaf hk h hp).mono ((Qj.alloc _ s.roLt s.frLt).ext0 [])⟩
theorem OpH.box{t:Nat}{x:Operand}{v:A}{d:List A}(q:o.op=.box t x)(j:opA env x=v)(k:Q4 v=true)(f:QW v=d)(g:d.all Yd=true):
  OpH P o env H (.ptr H.length 0) (H++[.cells t d]):=by
 intro p m σ N a w r;have i:=Ql r x;rw[j]at i;obtain⟨l,n,h⟩:=i.cells k;subst f;refine⟨.pointer (some ⟨w.heap.size,0,none⟩),w.alloc (.cells l.toArray t),m,[some w.heap.size],?_,⟨w.heap.size,?_,rfl⟩,r.sim.allocCells h (h.plain g),Qj.alloc _ r.sim.roLt r.sim.frLt⟩
 .generalize a.eval=ρ at*;have e:(newVar t (ρ x)).run P w=.ok ⟨w.heap.size,0,none⟩ (w.alloc (.cells l.toArray t)):=by
   unfold newVar;rw[n];rfl
  simp_all[execOp,Instr.box]
 .rw[<- r.sim.len];simp
theorem Sim.set(s:Sim fr ro σ H w){i b:Nat}{x x':Blk}{obj:Obj}(hσ:σ[i]?=some (some b))(p:H[i]?=some x)(r:x.live=true)
  (R:∀y,w.shape? b=some y->({w with heap:=w.heap.setIfInBounds b obj}:World).shape? b=some y)
  (J:Ext ro σ w ro σ {w with heap:=w.heap.setIfInBounds b obj}->({w with heap:=w.heap.setIfInBounds b obj}:World).heap[b]?=some obj->BR ro σ {w with heap:=w.heap.setIfInBounds b obj} x' (some b))
  (Q:∀c,Hid {w with heap:=w.heap.setIfInBounds b obj} x' b c->Hid w x b c:=by exact λ_ h=>h.elim):
  Sim fr ro σ (H.set i x') {w with heap:=w.heap.setIfInBounds b obj}/\Qj fr ro w ro {w with heap:=w.heap.setIfInBounds b obj}:=by
 obtain⟨X,L,O⟩:=s.own i b x hσ p r;have m:∀c,c≠b->({w with heap:=w.heap.setIfInBounds b obj}:World).heap[c]?=w.heap[c]? :=by
  grind
 have G:({w with heap:=w.heap.setIfInBounds b obj}:World).heap[b]?=some obj:=by
  grind
 have l:({w with heap:=w.heap.setIfInBounds b obj}:World).heap.size=w.heap.size:=by simp
 have ev:Qj fr ro w ro {w with heap:=w.heap.setIfInBounds b obj}:=
  ⟨λ_ h=>h,(by grind),(by grind),by omega,by
   grind[World.shape?],rfl,rfl,rfl,XM _⟩
 have Y:i<H.length:=(by grind);have T:(H.set i x')[i]?=some x':=(by grind);have a:∀j,j≠i->(H.set i x')[j]?=H[j]? :=(by grind);have N:=J (ev.ext0 σ) G;refine⟨⟨by rw[XW];exact s.len,s.roOk.to (λ_ q=>q) ev.keepRo (λc h=>by rw[l];exact s.roLt c h),λc h=>by rw[l];exact s.frLt c h,s.roFr,?_,?_,?_,?_⟩,ev⟩
 .intro j c y g f t;rw[l];by_cases q:j=i
  .grind
  .rw[a j q]at f;exact s.own j c y g f t
 .intro j k c y z g f t B M P;by_cases q:j=i
  .subst q;rw[hσ]at g;cases g;by_cases u:k=j
   .exact u.symm
   .rw[a k u]at B;exact s.inj j k _ x z hσ f p B r P
  .rw[a j q]at t;by_cases u:k=i
   .subst u;rw[hσ]at f;cases f;exact s.inj j k _ y x g hσ t p M r
   .rw[a k u]at B;exact s.inj j k c y z g f t B M P
 .intro j y z g f;by_cases q:j=i
  .grind
  .rw[a j q]at f;refine(s.blk j y z g f).keep (ev.ext0 σ) ?_ ?_
   .rintro c rfl n;exact m c (λe=>q (s.inj j i b z x (e▸g) hσ f p n r))
   .rintro c d rfl V;exact m d ((s.hid j c z d g f V).ne i b x hσ p r)
 .refine s.hidTo (· = ·) QU (by omega) (λ_ _ _ _ _ _ _ q=>q) (λ_ _ _ _ _ _ _ q=>q) λj d y F E W=>.inl ?_;by_cases q:j=i
  .grind
  .rw[a j q]at E;exact⟨j,y,rfl,F,E,id,λc z=>s.hidKeep F E (λn=>m d (λe=>q (s.inj j i b y x (e▸F) hσ E p n r))) ev.keepRo z⟩
def splice{α:Type}(l:List α)(o:Nat)(vs:List α):List α:=l.take o++vs++l.drop (o+vs.length)
theorem Q6{α:Type}{l:List α}{o:Nat}{vs:List α}(h:o+vs.length<=l.length):(splice l o vs).length=l.length:=by
 simp[splice];omega
theorem Qb9{h:Array Obj}{b:Nat}{f:Obj->Obj}{x:Obj}(a:h[b]?=some x):h.modify b f=h.setIfInBounds b (f x):=by
 grind
theorem Q9{b t:Nat}:∀{vs l:List Value} {w:World} (a i:Nat),w.heap[b]?=some (.cells l.toArray t (0,0))->a+i+vs.length<=l.length->(∀v∈vs,Qv v)->
  (storeCells ⟨b,a,none⟩ vs i).run P w=.ok () {w with heap:=w.heap.setIfInBounds b (.cells (splice l (a+i) vs).toArray t (0,0))}
 |[],l,w,a,i,hb,hl,hp=>by
  have e:w.heap.setIfInBounds b (.cells (splice l (a+i) []).toArray t (0,0))=w.heap:=by
   apply Array.ext_getElem?;intro j;rw[X7];by_cases q:b=j
   .subst q;obtain⟨d,p⟩:=X5.1 hb;simp[d,splice,p]
   grind
  rw[e];rfl
 |v::vs,l,w,a,i,hb,hl,hp=>by
  simp only[XT]at hl;have m:=hp v (by simp);have s:w.cell? ⟨b,a+i,none⟩=some l[a+i]:=by
   simp[World.cell?,hb]
  have g:w.frozen? ⟨b,a+i,none⟩=false:=by
   simp[World.frozen?,hb]
  have f:w.setCell ⟨b,a+i,none⟩ v={w with heap:=w.heap.setIfInBounds b (.cells (splice l (a+i) [v]).toArray t (0,0))}:=by
   unfold World.setCell;rw[Qb9 hb];simp only[Option.isSome_none,Xh,if_false];congr 3;have:l.toArray.setIfInBounds (a+i) v=(l.set (a+i) v).toArray:=by simp
   rw[this];congr 1;rw[List.set_eq_take_append_cons_drop,Vk (by omega)];simp[splice]
  have d:b<w.heap.size:=by
   grind
  have r:=Q9 (vs:=vs) (l:=splice l (a+i) [v]) (w:={w with heap:=w.heap.setIfInBounds b (.cells (splice l (a+i) [v]).toArray t (0,0))}) a (i+1)
   (by show(w.heap.setIfInBounds b _)[b]?=_;rw[X7,Vk rfl,Vk d])
   (by rw[Q6 (by simp;omega)];omega) (by grind)
  have z:splice (splice l (a+i) [v]) (a+(i+1)) vs=splice l (a+i) (v::vs):=by
   have h:(l.take (a+i)).length=a+i:=by simp;omega
   unfold splice;rw[Vb (l.take (a+i))];have y:a+(i+1)=(l.take (a+i)).length+1:=by omega
   have u:(l.take (a+i)++([v]++l.drop (a+i+[v].length))).take ((l.take (a+i)).length+1)=l.take (a+i)++[v]:=by
    grind
   have x:(l.take (a+i)++([v]++l.drop (a+i+[v].length))).drop ((l.take (a+i)).length+1+vs.length)=l.drop (a+i+(v::vs).length):=by
    rw[show(l.take (a+i)).length+1+vs.length=(l.take (a+i)).length+(1+vs.length)from by omega,X3];simp[Nat.add_comm 1];omega
   simp_all
  have n:(w.heap.setIfInBounds b (.cells (splice l (a+i) [v]).toArray t (0,0))).setIfInBounds b (.cells (splice (splice l (a+i) [v]) (a+(i+1)) vs).toArray t (0,0))=
    w.heap.setIfInBounds b (.cells (splice l (a+i) (v::vs)).toArray t (0,0)):=by
   grind
  rw[n]at r;have k:(Go.store ⟨b,a+i,none⟩ v).run P w=.ok () {w with heap:=w.heap.setIfInBounds b (.cells (splice l (a+i) [v]).toArray t (0,0))}:=by
   rw[<- f];cases v<;>first|exact m.elim|simp[Go.store,Sem.run,s,g,go_sem]
  simp_all[storeCells,QaL]
theorem Qab{w:World}{b t:Nat}{l l':List Value}(e:w.heap[b]?=some (.cells l.toArray t (0,0)))(d:l'.length=l.length)(y:TypeId×Nat)(h:w.shape? b=some y):
  {w with heap:=w.heap.setIfInBounds b (.cells l'.toArray t (0,0))}.shape? b=some y:=by
 have a:b<w.heap.size:=by
  grind
 simp_all[World.shape?]
theorem LR.splice{ro:Nat->Prop}{σ:Sig}{w:World}{az vs:List A}{l m:List Value}(a:Nat)(h:LR ro σ w az l)(k:LR ro σ w vs m):LR ro σ w (Sw.splice az a vs) (Sw.splice l a m):=by
 unfold Sw.splice;rw[k.length];exact((h.take a).append k).append (h.drop _)
theorem Qc9{l m:List Value}{a:Nat}(h:∀v∈l,Qv v)(k:∀v∈m,Qv v):∀v∈Sw.splice l a m,Qv v:=by
 grind[Sw.splice]
theorem OpU.store{t n i off T:Nat}{x y:Operand}{j vs d:List A}{v:A}(ho:o.op=.store t x y)(L:opA env x=.ptr i off)(E:H[i]?=some (.cells T j))(Y:∀w,(sizeOf t).run P w=.ok n w)
  (s:opA env y=v)(O:Q4 v=true)(R:QW v=vs)(M:vs.length=n)(J:vs.all Yd=true)(z:Nat.ble (off+n) j.length=true)(p:splice j off vs=d):
  OpU P o env H (H.set i (.cells T d)):=by
 intro X Q σ N a w r;have h:=Ql r x;rw[L]at h;obtain⟨b,h,h2⟩:=h;have F:=Ql r y;rw[s]at F;obtain⟨m,h4,g⟩:=F.cells O;rw[R]at g;obtain⟨l,G,q,V⟩:=r.sim.blk i _ _ h E;have k:off+n<=j.length:=by simp_all
 have u:m.length=n:=by rw[g.length,M]
 have B:=Q9 (P:=P) off 0 G (by rw[q.length,u];omega) (g.plain J);have f:=r.sim.set (x':=.cells T d) h E rfl
  (λy s=>Qab G (Q6 (by rw[q.length,u];omega)) y s)
  (λe W=>⟨_,W,p▸(q.splice off g).mono e,Qc9 V (g.plain J)⟩)
 refine⟨_,Q,[],?_,by grind,f.2⟩
 simp_all[storeVar,execOp,Instr.storeAt,Instr.sureAddr]
theorem RL.splice{ro:Nat->Prop}{σ:Sig}{w:World}{k:Nat}:∀{e:Nat} {es:List (List A)} {l m:List Value} {c a:List A} {f:Nat},RL ro σ w k es l->es[e]?=some c->LR ro σ w a m->(∀v∈m,Qv v)->f+a.length<=k->
  RL ro σ w k (es.set e (Sw.splice c f a)) (Sw.splice l (e*k+f) m)
 |_,[],_,_,_,_,_,_,h,_,_,_=>by simp at h
 |0,c0::es,l,m,c,a,f,⟨l1,l2,h1,h2,h3,h4⟩,hc,hm,hp,hf=>by
  simp at hc;subst hc h1;have hl1:=h3.1.length;refine⟨Sw.splice l1 f m,l2,?_,?_,⟨h3.1.splice f hm,Qc9 h3.2 hp⟩,h4⟩
  .unfold Sw.splice;simp[Nat.zero_mul,Xr,Vb];rw[XZ (by omega),X0 (by rw[hm.length];omega)]
  .rw[Q6 (by omega)];exact h2
 |e+1,c0::es,l,m,c,a,f,⟨l1,l2,h1,h2,h3,h4⟩,hc,hm,hp,hf=>by
  subst h1;have hl1:=h3.1.length;refine⟨l1,Sw.splice l2 (e*k+f) m,?_,h2,h3,RL.splice h4 (by grind) hm hp hf⟩;have e1:(e+1)*k+f=l1.length+(e*k+f):=by grind
  unfold Sw.splice;rw[e1,X4,show l1.length+(e*k+f)+m.length=l1.length+(e*k+f+m.length)from by omega,X3];simp
theorem RL.length{ro:Nat->Prop}{σ:Sig}{w:World}{k:Nat}:∀{es:List (List A)} {l:List Value},RL ro σ w k es l->es.length*k<=l.length
 |[],l,_=>by simp
 |c::es,l,⟨l1,l2,h1,h2,h3,h4⟩=>by
  have:=RL.length h4;have:=h3.1.length
  grind[Nat.succ_mul]
theorem QeB{t n i off T k e f:Nat}{x y:Operand}{es d:List (List A)}{c vs E:List A}{v:A}(ho:o.op=.store t x y)(Q:opA env x=.ptr i off)(G:H[i]?=some (.row T k es))(hs:∀w,(sizeOf t).run P w=.ok n w)
  (g:off=e*k+f)(R:es[e]?=some c)(u:opA env y=v)(Y:Q4 v=true)(V:QW v=vs)(X:vs.length=n)(O:vs.all Yd=true)(hd:Yi vs=true)(hf:Nat.ble (f+n) k=true)
  (q:splice c f vs=E)(z:es.set e E=d):
  OpU P o env H (H.set i (.row T k d)):=by
 intro fr ro σ N a w r;have j:=Ql r x;rw[Q]at j;obtain⟨b,j,h2⟩:=j;have M:=Ql r y;rw[u]at M;obtain⟨m,h4,h⟩:=M.cells Y;rw[V]at h;obtain⟨l,F,J⟩:=r.sim.blk i _ _ j G;have aa:f+n<=k:=by simp_all
 have hm:m.length=n:=by rw[h.length,X]
 have W:e<es.length:=(by grind);have L:off+n<=l.length:=by
  have:=J.length;have h6:=Xx k W
  grind
 have B:=Q9 (P:=P) off 0 F (by omega) (h.plain O);have p:=r.sim.set (x':=.row T k d) (obj:=.cells (splice l off m).toArray T (0,0)) j G rfl
  (λy u=>Qab F (Q6 (by omega)) y u)
  (λex s=>⟨_,s,by
   subst z q g;exact(J.splice R (h.data hd) (h.plain O) (by omega)).mono ex.nil⟩)
 refine⟨_,ro,[],?_,by grind,p.2⟩
 simp_all[storeVar,execOp,Instr.storeAt,Instr.sureAddr]
end
section
variable {P:Program} {o:Oper} {env:Env} {H:Qc} {fr ro:Nat->Prop} {σ:Sig} {w:World}
theorem Ext.heap{w':World}(h:w'.heap=w.heap):Ext ro σ w ro σ w':=
 ⟨λ_ q=>q,λb _=>by rw[h],λb x q=>by unfold World.shape? at q⊢;grind,λ_ _ q=>q⟩
theorem Sim.heap{w':World}(s:Sim fr ro σ H w)(h:w'.heap=w.heap):Sim fr ro σ H w':=
 ⟨s.len,s.roOk.to (λ_ q=>q) (λb _=>by rw[h]) (λb q=>by rw[h];exact s.roLt b q),λb q=>by rw[h];exact s.frLt b q,s.roFr,λi b x q1 q2 q3=>by rw[h];exact s.own i b x q1 q2 q3,s.inj,
  λi y x q1 q2=>(s.blk i y x q1 q2).keep (Ext.heap h) (by grind) (by grind),
  s.hidTo (· = ·) QU (by grind) (by simp) (by simp) λj d y g1 g2 g3=>.inl ⟨j,y,rfl,g1,g2,id,λc q=>q.keep (by rw[h])⟩⟩
theorem Qj.heap{w':World}(h:w'.heap=w.heap)(ho:w'.os=w.os)(ht:w'.tape=w.tape)(hu:w'.output=w.output)(hd:w.drawn<=w'.drawn):Qj fr ro w ro w':=
 ⟨λ_ q=>q,λb _=>by rw[h],λb _=>by rw[h],by grind,λb x q=>by unfold World.shape? at q⊢;grind,ho,ht,hu,hd⟩
theorem Sim.moved(s:Sim fr ro σ H w){i:Nat}{x:Blk}{y:Option Nat}(n:H[i]?=some x)(hσ:σ[i]?=some y):Sim fr ro (σ++[y]) (H.set i .dead++[x]) w:=by
 have O:=s.len;have Q:i<H.length:=(by grind);have a:∀(j:Nat) (z:Option Nat) (v:Blk),(σ++[y])[j]?=some z->(H.set i .dead++[x])[j]?=some v->v≠ .dead->
   (j<σ.length/\j≠i/\σ[j]?=some z/\H[j]?=some v)\/(j=σ.length/\z=y/\v=x):=by
  grind
 have hσ':∀(j:Nat) (b:Nat),σ[j]?=some (some b)->(σ++[y])[j]?=some (some b):=(by grind);have ext:Ext ro σ w ro (σ++[y]) w:=⟨λ_ q=>q,λ_ _=>rfl,λ_ _ q=>q,hσ'⟩;refine⟨by simp[O],s.roOk,s.frLt,s.roFr,?_,?_,?_,s.hidTo (λj u=>(j<σ.length/\j≠i/\u=j)\/(j=σ.length/\u=i)) (by omega) (XM _) (by simp) (by simp) λj d y J P G=>.inl ?_⟩
 rotate_left 3
 .rcases a j _ y J P (QeK G)with⟨L,M,e,f⟩|⟨L,m,rfl⟩
  .grind
  grind
 .intro j b v g h k;rcases a j _ v g h (Qa0 k)with⟨_,_,e,f⟩|⟨_,m,rfl⟩
  .exact s.own j b v e f k
  .subst m;exact s.own i b v hσ n k
 .intro j t b v p g h k F l r;rcases a j _ v g k (Qa0 l)with⟨_,E,e,f⟩|⟨R,m,N⟩<;>rcases a t _ p h F (Qa0 r)with⟨_,n1',q1',q2'⟩|⟨r1',e1',r2'⟩
  .exact s.inj j t b v p e q1' f q2' l r
  .subst e1' r2';exact(E (s.inj j i b v p e hσ f n l r)).elim
  .subst m N;exact(n1' (s.inj t i b p v q1' hσ q2' n r l)).elim
  omega
 .intro j z v g h;by_cases B:v≠ .dead
  .rcases a j z v g h B with⟨_,_,e,f⟩|⟨_,rfl,rfl⟩
   .exact(s.blk j z v e f).keep ext (λ_ _ _=>rfl) (λ_ _ _ _=>rfl)
   .exact(s.blk i _ _ hσ n).keep ext (λ_ _ _=>rfl) (λ_ _ _ _=>rfl)
  .obtain rfl:v=.dead:=Classical.not_not.1 B;trivial
def Src(P:Program)(H:Qc)(x:A)(k:Nat)(es:List (List A)):Prop:=
 ∀fr ro σ w v,Sim fr ro σ H w->VR ro σ w x v->(∃a c,v=.slice a es.length c)/\allK k es/\
  ∃l,(∀w':World,w'.heap=w.heap->(Builtin.firstCells k es.length v).run P w'=.ok l.toArray w')/\LR ro [] w es.flatten l/\ ∀v∈l,Qv v
theorem RR.flat{b k:Nat}:∀{es:List (List A)} {a:Nat},RR ro σ w b k es a->CR ro σ w b es.flatten a/\allK k es/\es.flatten.length=es.length*k
 |[],a,_=>⟨trivial,trivial,by simp⟩
 |c::es,a,⟨h1,h2,h3⟩=>by
  obtain⟨q1,q2,q3⟩:=RR.flat h3;refine⟨?_,⟨h1,q2⟩,by grind⟩;have:∀(c:List A) (a:Nat) (d:List A),CR ro σ w b c a->CR ro σ w b d (a+c.length)->CR ro σ w b (c++d) a:=by
   intro c
   induction c with
   |nil=>simp
   |cons x c e=>intro a d ⟨h1,h2⟩ h;exact⟨h1,e (a+1) d h2 (by grind)⟩
  grind
theorem Qb6{b a k n c:Nat}{d:List A}(h:CR ro σ w b d a)(e:d.length=n*k):
  ∃l,(∀w',w'.heap=w.heap->(Builtin.firstCells k n (.slice (some ⟨b,a,none⟩) n c)).run P w'=.ok l.toArray w')/\LR ro σ w d l/\ ∀v∈l,Qv v:=by
 obtain⟨l,f,i,g⟩:=Yg (P:=P) 0 (by simpa using h)
 grind[Builtin.firstCells,loadCells]
theorem Qac{k c:Nat}{a:Option Addr}:(Builtin.firstCells k 0 (.slice a 0 c)).run P w=.ok #[] w:=by
 cases a<;>simp[go_sem]
theorem Src.rsl{k:Nat}{es:List (List A)}:Src P H (.rsl k es) k es:=by
 intro j l σ w v s ⟨a,c,h1,h2,h3⟩;subst h1;refine⟨⟨a,c,rfl⟩,?_⟩;rcases h3 with rfl|⟨b,e,rfl,i,d⟩
 .exact⟨trivial,[],λ_ _=>Qac,rfl,by simp⟩
 .obtain⟨g,h,f⟩:=d.flat;exact⟨h,Qb6 g f⟩
theorem Src.nils{k:Nat}:Src P H .nils k []:=by
 intro d a σ w v s h;subst h;exact⟨⟨none,0,rfl⟩,trivial,[],λ_ _=>Qac,rfl,by simp⟩
theorem RR.drop{b k:Nat}:∀(n:Nat) {es:List (List A)} {off:Nat},RR ro σ w b k es off->RR ro σ w b k (es.drop n) (off+n*k)
 |0,_,_,h=>by simpa using h
 |n+1,[],_,_=>trivial
 |n+1,c::es,off,⟨h1,h2,h3⟩=>by
  have:=RR.drop n h3
  grind
theorem RR.take{b k:Nat}:∀(n:Nat) {es:List (List A)} {off:Nat},RR ro σ w b k es off->RR ro σ w b k (es.take n) off
 |0,_,_,h=>trivial
 |n+1,[],_,_=>trivial
 |n+1,c::es,off,⟨h1,h2,h3⟩=>⟨h1,h2,RR.take n h3⟩
theorem Src.osl{i s n k t:Nat}{es a:List (List A)}(q:H[i]?=some (.row t k es))(he:(es.drop s).take n=a)(E:s+n<=es.length):Src P H (.osl i s n k) k a:=by
 intro z J σ w v sm h;have u:a.length=n:=by grind
 rcases h with⟨rfl,rfl⟩|⟨b,p,d,F,m,j,rfl,L,B,x,y⟩
 .have e:a=[]:=(by grind);subst e;exact⟨⟨none,0,rfl⟩,trivial,[],λ_ _=>Qac,rfl,by simp⟩
 .rw[u];refine⟨⟨_,d,rfl⟩,?_⟩;obtain⟨l,f,g⟩:=sm.blk i _ _ j q;have r:=((YA (pre:=[]) (by simpa using f) g).drop s).take n;by_cases M:0<d
  .obtain⟨f,g,G⟩:=r.flat
   simp_all[Qb6]
  .obtain rfl:n=0:=by omega
   have e:a=[]:=(by grind);subst e;exact⟨trivial,[],λ_ _=>Qac,rfl,by simp⟩
def Yz:Nat:=4294967296
theorem QcG(n c:Nat)(h:c<n):Builtin.nextslicecap n c<=4*n+1000:=by
 grind[Builtin.nextslicecap,Builtin.growBy]
structure QN (P:Program) (T e k:Nat):Prop where
 sl:∀w,(underlying T).run P w=.ok (.slice e) w
 size:∀w,(sizeOf e).run P w=.ok k w
 zero:∃z,(∀w,(zeroValue e).run P w=.ok z w)/\z.cells.size=k
 bytes:∃i,(∀w,(typeInfo e).run P w=.ok i w)/\i.bytes<=4096
theorem Qfp{T k:Nat}{es:List (List A)}{l rest:List Value}(s:Sim fr ro σ H w)(hk:allK k es)(h:LR ro [] w es.flatten l)(hp:∀v∈l,Qv v):
  Sim fr ro (σ++[some w.heap.size]) (H++[.row T k es]) (w.alloc (.cells (l++rest).toArray T))/\Qj fr ro w ro (w.alloc (.cells (l++rest).toArray T)):=
 ⟨s.allocRow hk h hp,Qj.alloc _ s.roLt s.frLt⟩
theorem YD{k:Nat}:∀{es:List (List A)},allK k es->es.flatten.length=es.length*k
 |[],_=>by simp
 |c::es,⟨h1,h2⟩=>by simp[YD h2,h1,Xj,Nat.add_comm]
theorem QcA{k:Nat}:∀{es fs:List (List A)},allK k es->allK k fs->allK k (es++fs)
 |[],_,_,h=>h
 |c::es,_,⟨h1,h2⟩,h=>⟨h1,QcA h2 h⟩
theorem Qd1{k:Nat}:∀{es:List (List A)} (n:Nat),allK k es->allK k (es.take n)
 |_,0,_=>trivial
 |[],n+1,_=>trivial
 |c::es,n+1,⟨h1,h2⟩=>⟨h1,Qd1 n h2⟩
theorem RL.allK{k:Nat}:∀{es:List (List A)} {l:List Value},RL ro σ w k es l->allK k es
 |[],_,_=>trivial
 |c::es,l,⟨l1,l2,h1,h2,h3,h4⟩=>⟨h2,RL.allK h4⟩
theorem RL.app{k:Nat}:∀{n:Nat} {es fs:List (List A)} {l m:List Value},RL ro σ w k es l->n<=es.length->Sw.allK k fs->LR ro σ w fs.flatten m->(∀v∈m,Qv v)->
  RL ro σ w k (es.take n++fs) (Sw.splice l (n*k) m)
 |0,es,fs,l,m,h,hn,hk,hm,hp=>by
  simp_all[Sw.splice,Qaf]
 |n+1,[],fs,l,m,h,hn,hk,hm,hp=>by simp at hn
 |n+1,c::es,fs,l,m,⟨l1,l2,h1,h2,h3,h4⟩,hn,hk,hm,hp=>by
  subst h1;have hl1:=h3.1.length;refine⟨l1,Sw.splice l2 (n*k) m,?_,h2,h3,RL.app h4 (by grind) hk hm hp⟩;have e1:(n+1)*k=l1.length+n*k:=by grind
  unfold Sw.splice;rw[e1,X4,show l1.length+n*k+m.length=l1.length+(n*k+m.length)from by omega,X3];simp
theorem Qhw{T T' e e' k need cap:Nat}{t:TypeId}(E:QN P T e k)(J:∀w,(underlying T').run P w=.ok (.slice e') w){ad:Option Addr}{n m c:Nat}{ax:Option Addr}
  (g:need=n+m)(h:cap<need)(a:need<=Yz){old new:List Value}
  (s:∀w':World,w'.heap=w.heap->(Builtin.firstCells k m (.slice ax m c)).run P w'=.ok new.toArray w')(B:∀w':World,w'.heap=w.heap->(Builtin.firstCells k n (.slice ad n cap)).run P w'=.ok old.toArray w'):
  ∃(rest:List Value) (d:Nat),(need<=d/\d<=9223372036854775807)/\rest.length=(d-need)*k/\(Builtin.append_ #[T,T'] t #[.slice ad n cap,.slice ax m c]).run P w=
   .ok (.slice (some ⟨w.heap.size,0,none⟩) need d) (({w with drawn:=w.drawn+1}:World).alloc (.cells ((old++new)++rest).toArray e)):=by
 obtain⟨z,M,p⟩:=E.zero;obtain⟨i,G,Q⟩:=E.bytes
 let d:=need+w.tape w.drawn (.appendCap need cap e)%(2^63-need)
 refine⟨(Builtin.zeroCells z.cells (d-need)).toList,d,⟨Nat.le_add_right _ _,by
  have:=Nat.mod_lt (w.tape w.drawn (.appendCap need cap e)) (show 0<2^63-need by unfold Yz at a;omega);show need+_%(2^63-need)<=_;omega⟩,by simp[Builtin.zeroCells,p],?_⟩
 have f:¬(need<=cap):=by omega
 have y:¬((need:Int)>IntKind.i64.max/\(False\/i.bytes=0)):=by
  rintro⟨q,_⟩;have:IntKind.i64.max=9223372036854775807:=by decide
  rw[this]at q;unfold Yz at a;omega
 have L:¬(Builtin.nextslicecap need cap*i.bytes>2^48):=by
  have:=QcG need cap h;have u:=Nat.mul_le_mul this Q;unfold Yz at a;omega
 generalize hF:Builtin.firstCells=F at s B;unfold Builtin.append_;rw[hF];have j:∀W:World,(choose (.appendCap need cap e)).run P W=.ok (need+W.tape W.drawn (.appendCap need cap e)%(2^63-need)) {W with drawn:=W.drawn+1}:=by
  intro W;simp[choose,Sem.run,Question.forced,Question.cut]
 have r:∀(x:Nat) (W:World),(askRoom x).run P W=.ok () W:=by
  intro x W;unfold askRoom;split<;>rfl
 have l:∀(c:Array Value) (W:World),(newRow e c).run P W=.ok ⟨W.heap.size,0,none⟩ (W.alloc (.cells c e)):=λc W=>rfl;subst g;simp only[not_and,false_or]at y;have u:¬(((n+m:Nat):Int)>IntKind.i64.max/\(False\/i.bytes=0)):=by simpa using y
 simp only[XA,Xy,Xz,Vf,E.sl,E.size,J,G,M,Result.andThen,Builtin.lenOf,Vg,Xh,if_false,XB,
  Xg,if_true,Vj f,Vj u,Vj L,j,r]
 have N:=B {w with drawn:=w.drawn+1} rfl;have O:=s {w with drawn:=w.drawn+1} rfl;simp only[N,O,l];have H:old.toArray++new.toArray++Builtin.zeroCells z.cells (d-(n+m))=((old++new)++(Builtin.zeroCells z.cells (d-(n+m))).toList).toArray:=by
  apply Xq.1;simp
 rw[<- H]
theorem Qc1{T T' e e' k cap:Nat}{t:TypeId}(E:QN P T e k)(g:∀w,(underlying T').run P w=.ok (.slice e') w){ad:Option Addr}{n m c:Nat}{ax:Option Addr}
  (d:n+m<=cap){new:List Value}(f:(Builtin.firstCells k m (.slice ax m c)).run P w=.ok new.toArray w):
  (Builtin.append_ #[T,T'] t #[.slice ad n cap,.slice ax m c]).run P w=
   match ad with
   |some a=>(do storeCells (a.add (n*k)) new;pure (Value.slice ad (n+m) cap):Sem Value).run P w
   |none=>.ok (.slice ad (n+m) cap) w:=by
 generalize hF:Builtin.firstCells=F at f;unfold Builtin.append_;rw[hF];simp only[XA,Xy,Xz,Vf,E.sl,E.size,g,Result.andThen,Builtin.lenOf,Vg,Xh,if_false,XB,
  Xg,if_true,Vk d,f]
 cases ad with
 |none=>rfl
 |some a=>simp only[Vf,Result.andThen,Vg]
theorem Sim.weaken(s:Sim fr ro σ H w){i:Nat}{x x':Blk}(B:H[i]?=some x)(N:x.live=true)(m:∀y,BR ro σ w x y->BR ro σ w x' y)
  (z:∀b c,Hid w x' b c->Hid w x b c:=by exact λ_ _ h=>h.elim):Sim fr ro σ (H.set i x') w:=by
 have a:∀(j:Nat) (v:Blk),(H.set i x')[j]?=some v->(j=i/\v=x')\/(j≠i/\H[j]?=some v):=by
  grind
 have k:∀(j:Nat) (v:Blk),(H.set i x')[j]?=some v->v.live=true->∃f,H[j]?=some f/\f.live=true:=by
  grind
 refine⟨by rw[XW];exact s.len,s.roOk,s.frLt,s.roFr,?_,?_,?_,s.hidTo (· = ·) QU (XM _) (by simp) (by simp) λj d y M O L=>.inl ?_⟩
 rotate_left 3
 .grind
 .intro j b v e g n;obtain⟨f,r,l⟩:=k j v g n;exact s.own j b f e r l
 .intro j t b v f e g n E F J;obtain⟨u,r,l⟩:=k j v n F;obtain⟨G,p,q⟩:=k t f E J;exact s.inj j t b u G e g r p l q
 .intro j y v e g;rcases a j v g with⟨rfl,rfl⟩|⟨_,h⟩
  .exact m y (s.blk j y x e B)
  .exact s.blk j y v e h
theorem RL.take{k:Nat}:∀(n:Nat) {es:List (List A)} {l:List Value},RL ro σ w k es l->RL ro σ w k (es.take n) l
 |0,_,_,_=>trivial
 |n+1,[],_,_=>trivial
 |n+1,c::es,l,⟨l1,l2,h1,h2,h3,h4⟩=>⟨l1,l2,h1,h2,h3,RL.take n h4⟩
theorem Qaj{c:Call}{T T':TypeId}{x y:Operand}(a:o.op=.call c)(d:c={callee:=.builtin .append,args:= #[x,y],argTypes:= #[T,T']})(ρ:Operand->Value){v:Value}{w':World}
  (h:(Builtin.append_ #[T,T'] o.type #[ρ x,ρ y]).run P w=.ok v w'):(execOp ρ o).run P w=.ok (.value v) w':=by
 simp_all[execOp,resolve,invoke,Go.builtin]
theorem Sim.phantom(s:Sim fr ro σ H w)(t k:Nat):Sim fr ro (σ++[none]) (H++[.row t k []]) w:=by
 have g:=s.len;have f:∀(i b:Nat),(σ++[none])[i]?=some (some b)->i<σ.length:=by
  grind
 refine⟨by simp[g],s.roOk,s.frLt,s.roFr,?_,?_,?_,s.hidTo (· = ·) QU (XM _) (by simp) (by simp) λj d y a e h=>.inl ?_⟩
 rotate_left 3
 .grind
 .intro i b z a e h;have q:=f i b a;rw[XG q]at a;rw[XG (by omega)]at e;exact s.own i b z a e h
 .intro i j b z B a e h l m n;have x:=f i b a;have u:=f j b e;rw[XG x]at a;rw[XG u]at e;rw[XG (by omega)]at h l;exact s.inj i j b z B a e h l m n
 .intro i y z a e;have ext:Ext ro σ w ro (σ++[none]) w:=⟨λ_ q=>q,λ_ _=>rfl,λ_ _ q=>q,(by grind)⟩;rcases Nat.lt_trichotomy i σ.length with q|q|q
  .rw[XG q]at a;rw[XG (by omega)]at e;exact(s.blk i y z a e).keep ext (λ_ _ _=>rfl) (λ_ _ _ _=>rfl)
  .subst q;have r:(σ++[none])[σ.length]?=some none:=by simp
   have p:(H++[Blk.row t k []])[σ.length]?=some (.row t k []):=by grind
   rw[r]at a;rw[p]at e;cases a;cases e;rfl
  grind
theorem Sim.kill(s:Sim fr ro σ H w)(i:Nat):Sim fr ro σ (H.set i .dead) w:=by
 have a:∀(j:Nat) (v:Blk),(H.set i .dead)[j]?=some v->v≠ .dead->H[j]?=some v:=by
  grind
 refine⟨by rw[XW];exact s.len,s.roOk,s.frLt,s.roFr,?_,?_,?_,s.hidTo (· = ·) QU (XM _) (by simp) (by simp) λj d y t u r=>.inl ⟨j,y,rfl,t,a j y u (QeK r),id,λ_ q=>q⟩⟩
 .intro j b v e f g;exact s.own j b v e (a j v f (Qa0 g)) g
 .intro j k b v m e f g p h n;exact s.inj j k b v m e f (a j v g (Qa0 h)) (a k m p (Qa0 n)) h n
 .intro j y v e f;by_cases l:v≠ .dead
  .exact s.blk j y v e (a j v f l)
  .obtain rfl:v=.dead:=Classical.not_not.1 l;trivial
theorem grown{c:Call}{T T' e e' k n m cap cx:Nat}{x y:Operand}{es fs:List (List A)}{a:Act}{ad ax:Option Addr}{old new:List Value}(E:QN P T e k)(M:∀w,(underlying T').run P w=.ok (.slice e') w)(ho:o.op=.call c)
  (Q:c={callee:=.builtin .append,args:= #[x,y],argTypes:= #[T,T']})(W:a.eval x=.slice ad n cap)(N:a.eval y=.slice ax m cx)(s:Sim fr ro σ H w)(r:cap<n+m)(j:n+m<=Yz)
  (i:∀w',w'.heap=w.heap->(Builtin.firstCells k n (.slice ad n cap)).run P w'=.ok old.toArray w')(q:∀w',w'.heap=w.heap->(Builtin.firstCells k m (.slice ax m cx)).run P w'=.ok new.toArray w')
  (g:LR ro [] w es.flatten old)(V:∀v∈old,Qv v)(l:allK k es)(p:LR ro [] w fs.flatten new)(R:∀v∈new,Qv v)(f:allK k fs)(L:es.length=n)(B:fs.length=m):
  ∃v w' ro' τ,(execOp a.eval o).run P w=.ok (.value v) w'/\VR ro' (σ++τ) w' (.osl H.length 0 (n+m) k) v/\Sim fr ro' (σ++τ) (H++[.row e k (es++fs)]) w'/\Qj fr ro w ro' w':=by
 obtain⟨d,X,t,z,h⟩:=Qhw E M rfl r j q i
 let w0:={w with drawn:=w.drawn+1}
 have J:Sim fr ro σ H w0:=s.heap rfl;have e0:Qj fr ro w ro w0:=Qj.heap rfl rfl rfl rfl (Nat.le_succ _);have u:LR ro [] w0 (es++fs).flatten (old++new):=by
  rw[List.flatten_append];exact(g.append p).mono (Ext.heap (w:=w) rfl)
 obtain⟨O,Y⟩:=Qfp J (QcA l f) u (λv hv=>by grind);have hexec:=Qaj ho Q a.eval (by rw[W,N];exact h);refine⟨_,_,ro,[some w.heap.size],hexec,.inr ⟨w.heap.size,0,X,e,(old++new++d).length,?_,rfl,λ_=>by simp,t,?_,?_⟩,O,e0.trans Y⟩
 .rw[<- s.len];simp
 .have:=Yf w0 (.cells ((old++new)++d).toArray e);unfold World.shape?
  grind
 .have G:=g.length;have F:=p.length;rw[YD l]at G;rw[YD f]at F;simp[XV,z,G,F,B];rw[<- Xv, <- Xv]
  grind
theorem QdG{c:Call}{T T' e e' k:Nat}{x y:Operand}{p:A}{fs:List (List A)}(E:QN P T e k)(j:∀w,(underlying T').run P w=.ok (.slice e') w)(s:o.op=.call c)
  (q:c={callee:=.builtin .append,args:= #[x,y],argTypes:= #[T,T']})(u:opA env x=.nils)(L:opA env y=p)(B:Src P H p k fs)(n:fs.length<=Yz):
  OpH P o env H (.osl H.length 0 fs.length k) (H++[.row e k fs]):=by
 intro z i σ N a w r;have f:=Ql r x;rw[u]at f;have m:=Ql r y;rw[L]at m;obtain⟨⟨Q,O,h⟩,G,l,g,J,F⟩:=B z i σ w _ r.sim m;rw[h]at g;by_cases M:fs.length=0
 .have d:fs=[]:=(by grind);subst d;refine⟨.slice none 0 0,w,i,[none],(Qaj s q _ ?_),.inl ⟨rfl,rfl⟩,r.sim.phantom e k,Qj.refl _ _ _⟩;rw[f,h];have:=Qc1 (t:=o.type) E j (ad:=none) (XM 0) (g w rfl);omega
 .have:=grown (es:=[]) E j s q f h r.sim (by omega) (by omega) (λ_ _=>Qac) g rfl (by simp) trivial J F G rfl rfl
  grind
theorem Qfo{c:Call}{T T' e e' k i n:Nat}{x y:Operand}{ya:A}{es fs gs:List (List A)}(E:QN P T e k)(Y:∀w,(underlying T').run P w=.ok (.slice e') w)(L:o.op=.call c)
  (G:c={callee:=.builtin .append,args:= #[x,y],argTypes:= #[T,T']})(hx:opA env x=.osl i 0 n k)(hH:H[i]?=some (.row e k es))(hn:n<=es.length)(u:opA env y=ya)(hs:Src P H ya k fs)(g:n+fs.length<=Yz)
  (hg:es.take n++fs=gs):OpH P o env H (.osl H.length 0 (n+fs.length) k) (H.set i .dead++[.row e k gs]):=by
 intro fr z σ N a w r;subst hg;have j:=Ql r x;rw[hx]at j;have h2:=Ql r y;rw[u]at h2;obtain⟨⟨ay,cy,X⟩,q2,l,Q,q4,q5⟩:=hs fr z σ w _ r.sim h2;rw[X]at Q;have q:i<H.length:=(by grind);have ah:(H.set i .dead).length=H.length:=XW;obtain⟨s,hσ⟩:∃s,σ[i]?=some s:=⟨_,XE (by rw[r.sim.len];exact q)⟩;rcases j with⟨rfl,j⟩|⟨b,p,cap,t',mm,O,j,W,h5,R,h7⟩
 ·
  by_cases hm:fs.length=0
  .have h:fs=[]:=(by grind);subst h;refine⟨.slice none 0 0,w,z,[none],?_,.inl ⟨rfl,rfl⟩,(r.sim.kill i).phantom e k,Qj.refl _ _ _⟩;refine Qaj L G _ ?_;rw[j,X];have:=Qc1 (t:=o.type) E Y (ad:=none) (n:=0) (m:=0) (cap:=0) (c:=cy) (ax:=ay) (XM 0) (Q w rfl);omega
  .have:=grown (es:=[]) (old:=[]) E Y L G j X (r.sim.kill i) (by omega) g (λ_ _=>Qac) Q rfl (by simp) trivial q4 q5 q2 rfl rfl
   grind
 .have B:=r.sim.blk i _ _ O hH;obtain⟨M,J,g2⟩:=B;have ab:(es.take n).length=n:=by simp;omega
  obtain⟨old,o1,o2,o3⟩:∃old:List Value,(∀w':World,w'.heap=w.heap->(Builtin.firstCells k n (.slice (some ⟨b,p,none⟩) n cap)).run P w'=.ok old.toArray w')/\LR z [] w (es.take n).flatten old/\ ∀v∈old,Qv v:=by
   have F:Src P H (.osl i 0 n k) k (es.take n):=Src.osl hH (by simp) (by omega);obtain⟨_,_,l',z1,z2,z3⟩:=F fr z σ w (.slice (some ⟨b,p,none⟩) n cap) r.sim (.inr ⟨b,p,cap,t',mm,O,rfl,W,h5,R,h7⟩)
   grind
  by_cases f:n+fs.length<=cap
  .have ae:=Qc1 (t:=o.type) E Y (ad:=some ⟨b,p,none⟩) (n:=n) (m:=fs.length) (cap:=cap) (c:=cy) (ax:=ay) f (Q w rfl);have af:l.length=fs.length*k:=by rw[q4.length,YD q2]
   by_cases hm:fs.length=0
   .have h:fs=[]:=(by grind);subst h;have el:l=[]:=(by simp_all);subst el;have sw:=(r.sim.weaken (x':=.row e k (es.take n)) hH rfl (by
     intro y u;cases y with
     |none=>simp only[BR]at u⊢;grind
     |some y=>obtain⟨M,J,g2⟩:=u;exact⟨M,J,g2.take n⟩))
    have V:=sw.moved (i:=i) (Xa q) O;rw[List.set_set]at V;refine⟨.slice (some ⟨b,p,none⟩) n cap,w,z,[some b],?_,.inr ⟨b,p,cap,t',mm,?_,by simp,W,by omega,R,h7⟩,by grind,Qj.refl _ _ _⟩
    .refine Qaj L G _ ?_
     simp_all[storeCells]
    .rw[<- r.sim.len];simp
   .obtain rfl:p=0*k:=W (by omega);have ac:(n+fs.length)*k<=M.length:=by
     have:w.shape? b=some (e,M.length):=by unfold World.shape?;rw[J];simp
     rw[this]at R;cases R;exact XO (Xx k f) (by grind)
    rw[Xv]at ac;have ag:=Q9 (P:=P) (vs:=l) (n*k) 0 J (by omega) q5;have d:=r.sim.set (x':=.row e k (es.take n++fs)) (obj:=.cells (splice M (n*k) l).toArray e (0,0)) O hH rfl
     (λy u=>Qab J (Q6 (by omega)) y u)
     (λex aa=>⟨_,aa,(g2.app hn q2 q4 q5).mono ex.nil⟩)
    have V:=d.1.moved (i:=i) (Xa q) O;rw[List.set_set]at V;refine⟨.slice (some ⟨b,0*k,none⟩) (n+fs.length) cap,_,z,[some b],?_,.inr ⟨b,0*k,cap,t',mm,?_,rfl,W,⟨f,h5.2⟩,?_,h7⟩,V,d.2⟩
    .refine Qaj L G _ ?_
     simp_all[QaL]
    .rw[<- r.sim.len];simp
    .exact d.2.shape _ _ R
  .have:=grown (es:=es.take n) (old:=old) (fs:=fs) E Y L G j X (r.sim.kill i) (by omega) g o1 Q o2 o3 (Qd1 n g2.allK) q4 q5 q2 ab rfl
   grind
end
section
variable {P:Program} {o:Oper} {env:Env} {H:Qc}
theorem OpC.fn{c:Call}{f:FuncId}{xs:List Operand}{h:Array TypeId}{args:List A}(d:∀(a:Array Value) (w:World),(callFunc f a).run P w=.ok (.enter f a) w)(k:o.op=.call c)
  (l:c={callee:=.value (.func f),args:=xs.toArray,argTypes:=h})(g:xs.map (opA env)=args):OpC P o env H f args:=by
 intro j i σ N a w r;refine⟨xs.map a.eval,?_,g▸QaK r xs⟩;have e:a.eval (.func f)=.func (.func f) #[] #[]:=rfl
 grind[execOp,resolve,Deferred.ofValue,invoke]
theorem YW{c:Call}{f:FuncId}{x:Operand}{xs:List Operand}{k:Array TypeId}{args h g:List A}(e:∀(a:Array Value) (w:World),(callFunc f a).run P w=.ok (.enter f a) w)(t:o.op=.call c)
  (u:c={callee:=.value x,args:=xs.toArray,argTypes:=k})(p:opA env x=.fn (.func f) h g)(i:h++(xs.map (opA env)++g)=args):OpC P o env H f args:=by
 intro q s σ N a w r;have d:=Ql r x;rw[p]at d;obtain⟨l,n,d,m,j⟩:=d;refine⟨l++(xs.map a.eval++n),?_,i▸m.append ((QaK r xs).append j)⟩
 grind[execOp,resolve,Deferred.ofValue,invoke]
def Qbj(ρ:Nat->Nat)(env:Env):Env->Prop
 |[]=>True
 |(s,a)::r=>lk env s=Yw ρ a/\Qbj ρ env r
theorem Qbj.ok{ro:Nat->Prop}{σ σ':Sig}{w:World}{ρ:Nat->Nat}(h:∀i,σ[ρ i]?=σ'[i]?){t:Array Value}(r:∀s,VR ro σ w (lk env s) (t.getD s undef)):
  ∀{f:Env},Qbj ρ env f->∀s,VR ro σ' w (lk f s) (t.getD s undef)
 |[],_,s=>trivial
 |(d,a)::e,⟨h1,h2⟩,s=>by
  simp only[lk];by_cases q:s=d
  .grind[Nat.beq_refl,Qcf]
  .have:Nat.beq s d=false:=by
    simp_all[Vx]
   rw[this];exact Qbj.ok h r h2 s
theorem Sim.sub{fr ro:Nat->Prop}{σ:Sig}{w:World}{π:List Nat}{H':Qc}(s:Sim fr ro σ H w)(u:π.map (λp=>H[p]?)=(H'.map (QK (rho π H.length))).map some)(hπ:π.Nodup):
  Sim fr ro (Q2 σ π) H' w/\ ∀j:Nat,σ[rho π H.length j]?=(Q2 σ π)[j]? :=by
 have N:∀p∈π,p<H.length:=λp q=>YI u q;have hσl:=s.len;have G:∀(j p:Nat),π[j]?=some p->H[p]?=(H'[j]?).map (QK (rho π H.length)):=by
  intro j p e;have:=congrArg (λl=>l[j]?) u
  grind
 have m:π.length=H'.length:=by simpa using congrArg List.length u
 have hσc:∀j:Nat,σ[rho π H.length j]?=(Q2 σ π)[j]? :=by
  intro j;have:=QcI (τ:=[]) hσl N j
  grind
 have hπj:∀(j b:Nat),(Q2 σ π)[j]?=some (some b)->∃p,π[j]?=some p/\σ[p]?=some (some b):=by
  intro j b e;simp only[Q2,Xl]at e
  grind
 have hπi:∀(i j p:Nat),π[i]?=some p->π[j]?=some p->i=j:=by
  intro i j p f a;have r:i<π.length:=(by grind);have e:j<π.length:=(XF.1 a).1;rw[XE r]at f;rw[XE e]at a;have k:=(XS f).trans (XS a).symm;rcases Nat.lt_trichotomy i j with q|q|q
  .exact(Vp.1 hπ i j r e q k).elim
  .exact q
  .exact(Vp.1 hπ j i e r q k.symm).elim
 refine⟨⟨by simp[Q2,m],s.roOk,s.frLt,s.roFr,?_,?_,?_,s.hidTo (λj p=>π[j]?=some p) hπi (XM _) (λ_ _ _ _ _ _ _ q=>q) (λ_ _ _ _ _ _ _ q=>q) λj d y L Q O=>.inl ?_⟩,hσc⟩
 rotate_left 3
 .obtain⟨p,f,g⟩:=hπj j d L;exact⟨p,QK (rho π H.length) y,f,g,by grind,by rw[Qz];exact id,λc q=>(Qah _ _ _ _ _).2 q⟩
 .intro j b x n t F;obtain⟨p,f,g⟩:=hπj j b n;have h:H[p]?=some (QK (rho π H.length) x):=by grind
  exact s.own p b _ g h (by rw[Qz];exact F)
 .intro i j b x y n t F P M J;obtain⟨p,f,g⟩:=hπj i b n;obtain⟨E,a,B⟩:=hπj j b t;have h:H[p]?=some (QK (rho π H.length) x):=by grind
  have z:H[E]?=some (QK (rho π H.length) y):=by grind
  have:=s.inj p E b _ _ g B h z (by rw[Qz];exact M) (by rw[Qz];exact J)
  grind
 .intro j y x n t;have e:j<π.length:=by
   grind
  have f:π[j]?=some π[j]:=XE e;have h:H[π[j]]?=some (QK (rho π H.length) x):=by grind
  have g:σ[π[j]]?=some y:=by
   grind[rho]
  exact(QeL hσc).1 (s.blk _ y _ g h)
theorem QjK{f:Nat}{d:Env}{H':Qc}(π:List Nat)(e:π.take f=List.range f)(g:π.map (λp=>H[p]?)=(H'.map (QK (rho π H.length))).map some)(hπ:π.Nodup)
  (hE:Qbj (rho π H.length) env d):Le f env H d H':=by
 intro j h σ N a w r;obtain⟨i,hσ⟩:=r.sim.sub g hπ;refine⟨h,Q2 σ π,⟨i,Qbj.ok hσ r.env hE,r.size,r.defers⟩,λ_ q=>q,?_⟩;have k:=r.sim.len;have l:∀p∈π,p<H.length:=λp q=>YI g q;unfold Q2;rw[<- List.map_take,e];apply List.ext_getElem?
 grind
theorem Le.phantom{f s k t:Nat}(g:f<=H.length)(h:lk env s=.nils):Le f env H (up env s (.osl H.length 0 0 k)) (H++[.row t k []]):=by
 intro i e σ N a w r;refine⟨e,σ++[none],⟨r.sim.phantom t k,?_,r.size,r.defers⟩,λ_ q=>q,QB (by rw[r.sim.len];exact g)⟩;have ext:Ext e σ w e (σ++[none]) w:=⟨λ_ q=>q,λ_ _=>rfl,λ_ _ q=>q,(by grind)⟩;intro d;simp only[lk];by_cases q:d=s
 .subst q;rw[Vq];have:=r.env d;rw[h]at this;exact .inl ⟨rfl,this⟩
 .have:Nat.beq d s=false:=by
   simp_all[Vx]
  rw[this];exact(r.env d).mono ext
theorem Qi6{g s k:Nat}(f:lk env s=.nils):Le g env H (up env s (.rsl k [])) H:=by
 intro h e σ N a w r;refine⟨e,σ,⟨r.sim,?_,r.size,r.defers⟩,λ_ q=>q,rfl⟩;intro d;simp only[lk];by_cases q:d=s
 .subst q;rw[Vq];have:=r.env d;rw[f]at this;exact⟨none,0,this,XM _,.inl rfl⟩
 .have:Nat.beq d s=false:=by
   simp_all[Vx]
  rw[this];exact r.env d
mutual
def QT:A->Bool
 |.bool _=>true
 |.int _ _=>true
 |.str _=>true
 |.tup vs=>QcJ vs
 |_=>false
def QcJ:List A->Bool
 |[]=>true
 |a::r=>QT a&&QcJ r
end
mutual
theorem VR.scalar{ro ro':Nat->Prop}{σ σ':Sig}{w w':World}:∀{a:A} {v:Value},QT a=true->VR ro σ w a v->VR ro' σ' w' a v
 |.bool _,_,_,h=>h
 |.int _ _,_,_,h=>h
 |.str _,_,_,h=>h
 |.tup vs,v,hs,h=>by
  simp only[VR,QT]at h hs⊢;obtain⟨l,h1,h2⟩:=h;exact⟨l,h1,LR.scalar hs h2⟩
 |.any,_,hs,_=>by simp[QT]at hs
 |.nilp,_,hs,_=>by simp[QT]at hs
 |.ptr _ _,_,hs,_=>by simp[QT]at hs
 |.rp _,_,hs,_=>by simp[QT]at hs
 |.nils,_,hs,_=>by simp[QT]at hs
 |.rsl _ _,_,hs,_=>by simp[QT]at hs
 |.osl _ _ _ _,_,hs,_=>by simp[QT]at hs
 |.agg _,_,hs,_=>by simp[QT]at hs
 |.fn _ _ _,_,hs,_=>by simp[QT]at hs
 |.nilf,_,hs,_=>by simp[QT]at hs
 |.iface _ _,_,hs,_=>by simp[QT]at hs
 |.nilif,_,hs,_=>by simp[QT]at hs
 |.map _,_,hs,_=>by simp[QT]at hs
 |.nilm,_,hs,_=>by simp[QT]at hs
theorem LR.scalar{ro ro':Nat->Prop}{σ σ':Sig}{w w':World}:∀{az:List A} {l:List Value},QcJ az=true->LR ro σ w az l->LR ro' σ' w' az l
 |[],_,_,h=>h
 |a::r,l,hs,h=>by
  simp only[LR,QcJ,XP]at h hs⊢;obtain⟨v,l',h1,h2,h3⟩:=h;exact⟨v,l',h1,VR.scalar hs.1 h2,LR.scalar hs.2 h3⟩
end
def Look(H:Qc):A->A->Prop:=λa a'=>(a'=a/\Yc a=true)\/ ∃i n k t es,a=.osl i 0 n k/\H[i]?=some (.row t k es)/\es.length=n/\a'=.rsl k es
def QaP(H:Qc):List A->List A->Prop
 |[],[]=>True
 |a::az,b::bs=>Look H a b/\QaP H az bs
 |_,_=>False
theorem QbY{h0 N:Nat}{Q:Qx}{all:Array Oper}{l:List Oper}{d:Nat}{f:FuncId}{args B:List A}{Qr:A->Qc->Prop}(ab:OpC P o env H f args)(hv:QaP H args B)(hC:C P f B [] Qr)
  (ac:∀r H1,Qr r H1->QT r=true)(k:∀r H1,Qr r H1->WO P h0 N all l (up env d r) H Q)(hg:Qt all o env true:=by exact rfl)(hd:o.dst=some d:=by exact rfl)(hN:Nat.blt d N=true:=by exact rfl):WO P h0 N all (o::l) env H Q:=by
 intro rd fr ro σ a w r hrd;obtain⟨T,h1,h2⟩:=ab fr ro σ N a w r;refine QdI (Yo hg r) h1 ?_
 let roc:Nat->Prop:=λb=>ro b\/ ∃(i:Nat) (x:Blk),σ[i]?=some (some b)/\H[i]?=some x/\x.live=true
 let frc:Nat->Prop:=λb=>fr b\/ ∃(i:Nat) (x:Blk) (d:Nat),σ[i]?=some (some d)/\H[i]?=some x/\Hid w x d b
 have M:Sim frc roc [] [] w:=by
  refine⟨rfl,r.sim.roOk.to (λ_ q=>.inl q) (λ_ _=>rfl) ?_,?_,?_,by simp,by simp,by simp,by simp⟩
  .rintro b (q|⟨i,x,u,z,F⟩)
   .exact r.sim.roLt b q
   .exact(r.sim.own i b x u z F).1
  .rintro b (q|⟨i,x,d,u,z,F⟩)
   .exact r.sim.frLt b q
   .exact(r.sim.hid i d x b u z F).lt
  .rintro b (q|⟨i,x,u,z,F⟩) (q'|⟨i',x',d',X,Y,R⟩)
   .exact r.sim.roFr b q q'
   .exact(r.sim.hid i' d' x' b X Y R).ro q
   .exact(r.sim.own i b x u z F).2.2 q'
   .exact(r.sim.hid i' d' x' b X Y R).ne i b x u z F rfl
 have J:∀(az E:List A) (l:List Value),QaP H az E->LR ro σ w az l->LR roc [] w E l:=by
  intro az
  induction az with
  |nil=>
   intro E l G h;cases E with
   |nil=>exact h
   |cons b E=>exact G.elim
  |cons x az ih=>
   intro E l G h;cases E with
   |nil=>exact G.elim
   |cons y E=>
    obtain⟨hx,G⟩:=G;obtain⟨v,l',rfl,hv,h⟩:=h;refine⟨v,l',rfl,?_,ih E l' G h⟩;rcases hx with⟨rfl,hx⟩|⟨i,n,k,t,es,rfl,hH,hn,rfl⟩
    .exact(hv.data (σ':=[]) hx).mono ⟨λ_ q=>.inl q,λ_ _=>rfl,λ_ _ q=>q,λ_ _ q=>q⟩
    .subst hn;rcases hv with⟨h0,h⟩|⟨b,p,V,t',m,h1,h,h2,⟨h3,ae⟩,h4,h5⟩
     .have:es=[]:=(by grind);subst this;exact⟨none,0,h,XM _,.inl rfl⟩
     .refine⟨_,V,h,h3,?_⟩;by_cases he:es=[]
      .exact .inl he
      .right;have hc:0<V:=X8 (by grind) h3;obtain rfl:=h2 hc;obtain⟨l,u,z⟩:=r.sim.blk i _ _ h1 hH;refine⟨b,0,by simp,.inr ⟨i,_,h1,hH,rfl⟩,?_⟩;have:=YA (pre:=[]) (by simpa using u) z;exact this.keep ⟨λ_ q=>.inl q,λ_ _=>rfl,λ_ _ q=>q,λ_ _ q=>q⟩ rfl
 refine Calls.mono (hC frc roc [] T w M (J _ _ _ hv h2)) ?_;rintro e O ⟨v,rr,H1,af,τ,rfl,hq,sc,ad,ev⟩;have W:∀(i b:Nat) (x:Blk),σ[i]?=some (some b)->H[i]?=some x->x.live=true->O.heap[b]?=w.heap[b]? :=λi b x u z F=>ev.keepRo b (by grind);have g:Qj fr ro w ro O:=⟨λ_ q=>q,λb q=>ev.keepRo b (.inl q),λb q=>ev.keepFr b (.inl q),ev.size,ev.shape,ev.os,ev.tape,ev.output,ev.drawn⟩;have L:Sim fr ro σ H O:=by
  refine⟨r.sim.len,r.sim.roOk.to (λ_ q=>q) g.keepRo (λb q=>X8 (r.sim.roLt b q) ev.size),λb q=>X8 (r.sim.frLt b q) ev.size,r.sim.roFr,?_,r.sim.inj,?_,r.sim.hidTo (· = ·) QU ev.size (by simp) (by simp) λj d y g1 g2 g3=>.inl ⟨j,y,rfl,g1,g2,id,λc q=>r.sim.hidKeep g1 g2 (W j d y g1 g2) g.keepRo q⟩⟩
  .intro i b x u z F;obtain⟨p1,p2,p3⟩:=r.sim.own i b x u z F
   grind
  .intro i y x u z;refine(r.sim.blk i y x u z).keep (g.ext0 σ) ?_ ?_
   .grind
   .rintro b c rfl G;exact ev.keepFr c (by grind)
 have hk:=k rr H1 hq;have aa:d<N:=by simp_all
 simp only[hd,Act.put];have r':Rel fr ro σ H (up env d rr) N {a with tmps:=a.tmps.setIfInBounds d v} O:=
  ⟨L,VR.up (fr:=fr) (λs=>(r.env s).mono (g.ext0 σ)) (by rw[r.size];exact aa) (ad.scalar (ac _ _ hq)),by simpa using r.size,r.defers.keep g⟩
 exact⟨_,rfl,Q1 (λe a w q=>q.step g rfl) _ _ _ (hk rd fr ro σ _ O r' (hrd.to g λ_ q=>q))⟩
end
section
variable {P:Program} {o:Oper} {env:Env} {H:Qc}
theorem QdT{α:Type}:∀(vs:List α) (a i:Nat) (l:List α),a+i+vs.length<=l.length->
  (vs.zipIdx i).foldl (λcs x=>cs.setIfInBounds (a+x.2) x.1) l.toArray=(splice l (a+i) vs).toArray
 |[],a,i,l,h=>by simp[splice]
 |v::vs,a,i,l,h=>by
  simp[XT]at h;rw[List.zipIdx_cons,List.foldl_cons];have e1:l.toArray.setIfInBounds (a+i) v=(splice l (a+i) [v]).toArray:=by
   have:l.toArray.setIfInBounds (a+i) v=(l.set (a+i) v).toArray:=by simp
   rw[this];rw[List.set_eq_take_append_cons_drop,Vk (by omega)];simp[splice]
  rw[e1,QdT vs a (i+1) _ (by grind)];have d:(l.take (a+i)).length=a+i:=by simp;omega
  unfold splice;have e:a+(i+1)=(l.take (a+i)).length+1:=by omega
  have f:(l.take (a+i)++([v]++l.drop (a+i+[v].length))).take ((l.take (a+i)).length+1)=l.take (a+i)++[v]:=by
   grind
  have g:(l.take (a+i)++([v]++l.drop (a+i+[v].length))).drop ((l.take (a+i)).length+1+vs.length)=l.drop (a+i+(v::vs).length):=by
   rw[show(l.take (a+i)).length+1+vs.length=(l.take (a+i)).length+(1+vs.length)from by omega,X3];simp[Nat.add_comm 1];omega
  simp_all
theorem QdV{a:Nat->Option (Nat×Nat)}{l:List Value}{i d size:Nat}{v:Value}{m:List Value}{rest:List (Nat×Value)}(e:a i=some (d,size))(f:v.cells=m.toArray)(h:m.length=size)
  (g:d+size<=l.length):Instr.fill a l.toArray ((i,v)::rest)=Instr.fill a (splice l d m).toArray rest:=by
 rw[Instr.fill];simp[e];rw[Vj (by grind),f]
 simp_all[QdT]
def QaB:Nat->List Operand->List (Nat×Operand)
 |_,[]=>[]
 |i,x::xs=>(i,x)::QaB (i+1) xs
def Ye(env:Env)(xs:List Operand):List (List A):=xs.map λx=>QW (opA env x)
theorem Qdf{fr ro:Nat->Prop}{σ:Sig}{N:Nat}{a:Act}{w:World}(r:Rel fr ro σ H env N a w){k:Nat}:∀(xs:List Operand) (j:Nat) (pre rest:List Value),pre.length=j*k->rest.length=xs.length*k->
  (xs.all λx=>Q4 (opA env x))=true->allK k (Ye env xs)->
  ∃l,Instr.fill (λi=>some (i*k,k)) (pre++rest).toArray ((QaB j xs).map λp=>(p.1,a.eval p.2))=some (pre++l).toArray/\LR ro σ w (Ye env xs).flatten l
 |[],j,pre,rest,h1,h2,_,_=>by
  have:rest=[]:=(by simp_all);subst this;exact⟨[],rfl,rfl⟩
 |x::xs,j,pre,rest,h1,h2,h3,h4=>by
  simp only[List.all_cons,XP]at h3;obtain⟨hk1,hk2⟩:=h4;obtain⟨m,q1,q2⟩:=(Ql r x).cells h3.1;have hm:m.length=k:=by rw[q2.length];exact hk1
  simp[XT,Xj]at h2;simp[QaB,Vc];rw[QdV rfl q1 hm (by simp;omega)];have e:splice (pre++rest) (j*k) m=(pre++m)++rest.drop k:=by
   unfold splice
   grind[List.drop_length_add_append]
  rw[e];obtain⟨l,d,f⟩:=Qdf r xs (j+1) (pre++m) (rest.drop k) (by grind) (by simp;omega) h3.2 hk2;refine⟨m++l,?_,?_⟩
  .rw[d];simp
  .exact q2.append f
theorem Qbb{fr ro:Nat->Prop}{σ:Sig}{N:Nat}{a:Act}{w:World}(r:Rel fr ro σ H env N a w){T e k n:Nat}{xs:List Operand}(E:QN P T e k)(s:xs.length=n)(q:Nat.ble (n*k) 16777216=true)
  (h:(xs.all λx=>Q4 (opA env x))=true)(g:allK k (Ye env xs)):
  ∃l,(Instr.buildSlice T n (((QaB 0 xs).map λp=>(p.1,a.eval p.2)).toArray)).run P w=.ok (.slice (some ⟨w.heap.size,0,none⟩) n n) (w.alloc (.cells l.toArray e))/\LR ro σ w (Ye env xs).flatten l:=by
 obtain⟨z,t,u⟩:=E.zero;have m:n*k<=16777216:=by simp_all
 have y:∀(c:Array Value) (W:World),(newRow e c).run P W=.ok ⟨W.heap.size,0,none⟩ (W.alloc (.cells c e)):=λc W=>rfl;unfold Instr.buildSlice;by_cases j:n*k=0
 .obtain⟨l,f,d⟩:=Qdf r (k:=k) xs 0 [] [] (by simp) (by grind) h g;refine⟨l,?_,d⟩;simp only[Vf,E.sl,Result.andThen,E.size,j]
  simp_all[Array.range]
 .obtain⟨l,f,d⟩:=Qdf r (k:=k) xs 0 [] ((Array.range (n*k)).map (λi=>z.cells[i%z.cells.size]!)).toList (by simp) (by rw[s];simp) h g;refine⟨l,?_,d⟩;simp only[Vf,E.sl,Result.andThen,E.size,Vj j,XB,t];simp only[Va]at f;rw[Array.toArray_toList]at f
  simp_all
theorem Qa3{T n:Nat}{xs:List Operand}(a:o.op=.buildSlice T n (QaB 0 xs).toArray)(ρ:Operand->Value){v:Value}{w w':World}
  (h:(Instr.buildSlice T n (((QaB 0 xs).map λp=>(p.1,ρ p.2)).toArray)).run P w=.ok v w'):(execOp ρ o).run P w=.ok (.value v) w':=by
 grind[execOp,Sem.run_bind,Result.andThen,Sem.run_pure]
theorem OpH.lit{T e k n:Nat}{xs:List Operand}{es:List (List A)}(E:QN P T e k)(B:o.op=.buildSlice T n (QaB 0 xs).toArray)(m:xs.length=n)(f:Nat.ble (n*(k+1)) 16777216=true)
  (u:(xs.all λx=>Q4 (opA env x))=true)(g:Ye env xs=es)(d:allK k es)(y:es.flatten.all Yd=true)(z:Yi es.flatten=true):
  OpH P o env H (.osl H.length 0 n k) (H++[.row e k es]):=by
 intro F p σ N a w r;subst g;have j:=XL f;rw[Nat.mul_add]at j;obtain⟨l,t,h⟩:=Qbb r E m (Nat.ble_eq_true_of_le (by omega)) u d;have i:LR p [] w (Ye env xs).flatten l:=h.data z;obtain⟨s,q⟩:=Qfp r.sim d i (h.plain y);rw[X9]at s q;have G:l.length=n*k:=by rw[h.length,YD d];simp[Ye,m]
 refine⟨_,_,p,[some w.heap.size],Qa3 B a.eval t,.inr ⟨w.heap.size,0,n,e,l.length,?_,rfl,λ_=>by simp,(by omega),?_,by grind⟩,s,q⟩
 .rw[<- r.sim.len];simp
 .unfold World.shape?;rw[Yf];simp
theorem YS{n:Int}{y:Nat}{c:BoundsCode}{w:World}(d:0<=n)(a:n<=y):(Instr.sliceBound (.int .i64 n) y c).run P w=.ok n.toNat w:=by
 simp_all[Instr.sliceBound,asIntOf]
theorem Qf8{T e:Nat}{k:Nat}{w:World}(E1:∀w,(underlying T).run P w=.ok (.slice e) w)(E2:∀w,(sizeOf e).run P w=.ok k w){ad:Option Addr}{n cap:Nat}{lo hi:Option Value}{l h:Nat}(f:n<=cap)
  (a:lo=none/\l=0\/ ∃z:Int,lo=some (.int .i64 z)/\0<=z/\z.toNat=l)(d:hi=none/\h=n\/ ∃z:Int,hi=some (.int .i64 z)/\0<=z/\z.toNat=h)(g:l<=h)(j:h<=n):
  (Instr.sliceAt T (.slice ad n cap) lo hi none).run P w=.ok (.slice (if cap=l then ad else ad.map (·.add (l*k))) (h-l) (cap-l)) w:=by
 have m:(Instr.sliceBounds true n cap lo hi none).run P w=.ok (l,h,cap) w:=by
  rcases a with⟨rfl,rfl⟩|⟨z,rfl,i,rfl⟩<;>rcases d with⟨rfl,rfl⟩|⟨y,rfl,y0,rfl⟩
  .rfl
  .grind[Instr.sliceBounds,Sem.run_bind,Sem.run_pure,Result.andThen,YS]
  .grind[Instr.sliceBounds,Sem.run_bind,Sem.run_pure,Result.andThen,YS]
  .simp[Instr.sliceBounds,Vf,Vg,Result.andThen,YS y0 (show y<=cap by omega),YS i (show z<=y.toNat by omega)]
 simp_all[Instr.sliceAt,Instr.slice]
theorem QbR{fr ro:Nat->Prop}{σ:Sig}{N:Nat}{a:Act}{w:World}(r:Rel fr ro σ H env N a w){x:Option Operand}{l d:Nat}(h:x=none/\l=d\/ ∃y,∃z:Int,x=some y/\opA env y=.int .i64 z/\0<=z/\z.toNat=l):
  x.map a.eval=none/\l=d\/ ∃z:Int,x.map a.eval=some (.int .i64 z)/\0<=z/\z.toNat=l:=by
 rcases h with⟨rfl,rfl⟩|⟨y,z,rfl,e,f,g⟩
 .simp
 grind[QG]
theorem Qdv{T e k i s n:Nat}{x:Operand}{lo hi:Option Operand}{l h:Nat}(E1:∀w,(underlying T).run P w=.ok (.slice e) w)(E2:∀w,(sizeOf e).run P w=.ok k w)(F:o.op=.slice T x lo hi none)
  (J:opA env x=.osl i s n k)(j:lo=none/\l=0\/ ∃y,∃z:Int,lo=some y/\opA env y=.int .i64 z/\0<=z/\z.toNat=l)
  (u:hi=none/\h=n\/ ∃y,∃z:Int,hi=some y/\opA env y=.int .i64 z/\0<=z/\z.toNat=h)(t:l<=h)(E:h<=n):OpV P o env H (.osl i (s+l) (h-l) k):=by
 intro R V σ N a w r;have f:=Ql r x;rw[J]at f;rcases f with⟨rfl,f⟩|⟨b,p,g,G,m,f,L,W,⟨O,Q⟩,B,X⟩
 .have d:=Qf8 (P:=P) (w:=w) E1 E2 (ad:=none) (XM 0) (QbR r j) (QbR r u) t E;refine⟨_,by simp only[execOp,F,f,Vf,d,Option.map_none];rfl,?_⟩;left
  grind
 .have d:=Qf8 (w:=w) E1 E2 (ad:=some ⟨b,p,none⟩) O (QbR r j) (QbR r u) t E;refine⟨_,by simp only[execOp,F,L,Vf,d,Option.map_none];rfl,?_⟩;right;by_cases M:g=l
  .refine⟨b,p,0,G,m,f,by grind,λq=>by omega,by omega,B,?_⟩
   grind
  .refine⟨b,p+l*k,g-l,G,m,f,by rw[Vj M];simp[QaL],λq=>by grind,by omega,B,?_⟩
   grind
theorem OpV.max{c:Call}{x y:Operand}{k:IntKind}{m n:Int}(j:o.op=.call c)(f:c={callee:=.builtin .max,args:= #[x,y],argTypes:=c.argTypes})(g:opA env x=.int k m)(l:opA env y=.int k n):
  OpV P o env H (.int k (if m<n then n else m)):=by
 intro p q σ N a w r;have h:=QG r g;have i:=QG r l;refine⟨_,?_,rfl⟩;generalize a.eval=ρ at*;have d:c.callee=.builtin .max:=by rw[f]
 have e:c.args= #[x,y]:=by rw[f]
 simp only[execOp,j,resolve,d,e,invoke,Vf,Result.andThen];simp[Builtin.max_,Builtin.max2,h,i,go_sem]
theorem OpV.min{c:Call}{x y:Operand}{k:IntKind}{m n:Int}(j:o.op=.call c)(f:c={callee:=.builtin .min,args:= #[x,y],argTypes:=c.argTypes})(g:opA env x=.int k m)(l:opA env y=.int k n):
  OpV P o env H (.int k (if n<m then n else m)):=by
 intro p q σ N a w r;have h:=QG r g;have i:=QG r l;refine⟨_,?_,rfl⟩;generalize a.eval=ρ at*;have d:c.callee=.builtin .min:=by rw[f]
 have e:c.args= #[x,y]:=by rw[f]
 simp only[execOp,j,resolve,d,e,invoke,Result.andThen];simp[Builtin.min_,Builtin.min2,h,i,go_sem]
end
section
variable {P:Program} {h0 N:Nat} {env:Env} {H:Qc} {Q:Qx} {c c':Code}
theorem seqN(h:TC P h0 N c env H Q):Seq P h0 N c Q .normal env H:=h
theorem seqX{id:Nat}(h:Q (.exit id) env H):Seq P h0 N c Q (.exit id) env H:=h
theorem seqR(h:Q .ret env H):Seq P h0 N c Q .ret env H:=h
theorem bloN{id:Nat}(h:Q .normal env H):Blo id Q .normal env H:=h
theorem bloE{id:Nat}(h:Q .normal env H):Blo id Q (.exit id) env H:=by simp_all[Blo]
theorem bloX{id a:Nat}(e:Nat.beq a id=false)(h:Q (.exit a) env H):Blo id Q (.exit a) env H:=by simp[Blo,e];exact h
theorem bloR{id:Nat}(h:Q .ret env H):Blo id Q .ret env H:=h
def Qd8{S B:Type}(h0:Nat)(b:Ctl S B)(Eb:S->Env)(Hb:S->Qc)(Q:Qx):Qx
 |.normal,env,H=>∃s,b=.cont s/\Le h0 env H (Eb s) (Hb s)
 |.exit id,env,H=>Q (.exit id) env H
 |.ret,env,H=>Q .ret env H
theorem Qi2{S B:Type}{b:Ctl S B}(Eb:S->Env)(Hb:S->Qc)(h:TC P h0 N c env H (Qd8 h0 b Eb Hb Q))(k:∀s env H,b=.cont s->Le h0 env H (Eb s) (Hb s)->Q .normal env H):TC P h0 N c env H Q:=
 h.mono λx env' H' q=>by
  cases x with
  |normal=>obtain⟨s,e,q⟩:=q;grind
  |exit id=>exact q
  |ret=>exact q
section
variable {S B:Type} {b:Ctl S B} {Eb:S->Env} {Hb:S->Qc}
theorem YV{s:S}(e:b=.cont s)(h:Le h0 env H (Eb s) (Hb s)):Qd8 h0 b Eb Hb Q .normal env H:=⟨s,e,h⟩
theorem Qu(h:Q .ret env H):Qd8 h0 b Eb Hb Q .ret env H:=h
end
theorem Qii{x:Operand}{t:Bool}(hx:opA env x=.bool t)(h:t=true)(ht:TC P h0 N c env H Q):TC P h0 N (.cond x c c') env H Q:=TC.cond hx (λ_=>ht) (λq=>by grind)
theorem Qij{x:Operand}{t:Bool}(hx:opA env x=.bool t)(h:t=false)(hf:TC P h0 N c' env H Q):TC P h0 N (.cond x c c') env H Q:=TC.cond hx (λq=>by grind) (λ_=>hf)
section
variable {S B:Type} {I:S->Env->Qc->Prop}
theorem Qo{s:S}{d:Ctl S B}(e:some (Ctl.cont s)=some d)(h:I s env H):QaO I d Q .normal env H:=⟨s,(by grind),h⟩
theorem Qp{id:Nat}{b:B}{d:Ctl S B}(e:some (Ctl.done b)=some d)(h:Q (.exit id) env H):QaO I d Q (.exit id) env H:=⟨(by grind),h⟩
theorem Qw{b:B}{d:Ctl S B}(e:some (Ctl.done b)=some d)(h:Q .ret env H):QaO I d Q .ret env H:=⟨(by grind),h⟩
end
end
theorem Q3{α β:Type}{x:Option α}{f:α->Option β}{r:β}(h:x.bind f=some r):∃a,x=some a/\f a=some r:=Option.bind_eq_some_iff.1 h
def idx{α:Type}(l:List α)(i:Int):Option α:=bif decide (0<=i)then l[i.toNat]? else none
theorem QaT{α:Type}{l:List α}{i:Int}{x:α}(h:idx l i=some x):0<=i/\l[i.toNat]?=some x:=by
 grind[idx]
def app{α:Type}(l m:List α):Option (List α):=bif Nat.ble (l.length+m.length) Yz then some (l++m)else none
theorem Qh7{α:Type}{l m r:List α}(h:app l m=some r):l.length+m.length<=Yz/\l++m=r:=by
 unfold app at h;cases q:Nat.ble (l.length+m.length) Yz with
 |true=>simp_all
 |false=>grind
def slc{α:Type}(l:List α)(lo hi:Int):Option (List α):=bif decide (0<=lo)&&decide (lo<=hi)&&decide (hi<=(l.length:Int))then some ((l.take hi.toNat).drop lo.toNat)else none
theorem QcZ{α:Type}{l r:List α}{lo hi:Int}(h:slc l lo hi=some r):0<=lo/\lo<=hi/\hi<=l.length/\(l.take hi.toNat).drop lo.toNat=r:=by
 grind[slc]
def QbA{α:Type}(l:List α)(i:Int)(x:α):Option (List α):=bif decide (0<=i)&&decide (i<(l.length:Int))then some (l.set i.toNat x)else none
theorem QcO{α:Type}{e:α->List A}{l:List α}{i:Nat}{x:α}(h:l[i]?=some x):(l.map e)[i]?=some (e x):=by simp[h]
section
variable {P:Program} {h0 N:Nat} {env:Env} {H H':Qc} {Q:Qx} {all:Array Oper} {o:Oper} {l:List Oper} {d:Nat} {x:A}
theorem vV(a:OpV P o env H x)(k:WO P h0 N all l (up env d x) H Q)(hg:Qt all o env true:=by exact rfl)(hd:o.dst=some d:=by exact rfl)(hN:Nat.blt d N=true:=by exact rfl):WO P h0 N all (o::l) env H Q:=
 Yq hg hd hN a k
theorem vH(a:OpH P o env H x H')(k:WO P h0 N all l (up env d x) H' Q)(hg:Qt all o env true:=by exact rfl)(hd:o.dst=some d:=by exact rfl)(hN:Nat.blt d N=true:=by exact rfl)(hh:Nat.ble h0 H.length=true:=by exact rfl):WO P h0 N all (o::l) env H Q:=
 QfN (by simp_all) hg hd hN a k
theorem vN(a:OpH P o env H x H')(k:WO P h0 N all l env H' Q)(hg:Qt all o env true:=by exact rfl)(hd:o.dst=none:=by exact rfl)(hh:Nat.ble h0 H.length=true:=by exact rfl):WO P h0 N all (o::l) env H Q:=
 QjG (by simp_all) hg hd a k
theorem vU(a:OpU P o env H H')(k:WO P h0 N all l env H' Q)(hg:Qt all o env true:=by exact rfl)(hd:o.dst=none:=by exact rfl)(hh:Nat.ble h0 H.length=true:=by exact rfl):WO P h0 N all (o::l) env H Q:=
 Qia (by simp_all) hg hd a k
theorem gT{j s:Nat}{c x:Bool}(a:x=c)(hg:o.guard=some (j,c):=by exact rfl)(hs:(all[j]?).bind (·.dst)=some s:=by exact rfl)(hl:lk env s=.bool x:=by exact rfl):Qt all o env true:=by
 simp_all[Qt]
theorem gF{j s:Nat}{c x:Bool}(a:x= !c)(hg:o.guard=some (j,c):=by exact rfl)(hs:(all[j]?).bind (·.dst)=some s:=by exact rfl)(hl:lk env s=.bool x:=by exact rfl):Qt all o env false:=by
 simp_all[Qt]
theorem Qbh{x x':A}(a:x'=x)(e:H'=H)(k:WO P h0 N all l (up env d x) H Q):WO P h0 N all l (up env d x') H' Q:=by grind
theorem Qdl(a:H'=H)(k:WO P h0 N all l env H Q):WO P h0 N all l env H' Q:=by grind
theorem Qi{f:FuncId}{args a:List A}{Hc:Qc}{Qr:A->Qc->Prop}(π:List Nat)(e:OpC P o env H f args)(g:C P f a Hc Qr)
  (k:∀r H1,Qr r H1->WO P h0 N all l (up env d (Yw (rho π H.length) r)) (QJ H π (H1.map (QK (rho π H.length)))) Q)
  (hargs:args=Qag (rho π H.length) a:=by exact rfl)(hH:π.map (λp=>H[p]?)=(Hc.map (QK (rho π H.length))).map some:=by exact rfl)(hπ:π.Nodup:=by decide)
  (hg:Qt all o env true:=by exact rfl)(hd:o.dst=some d:=by exact rfl)(hN:Nat.blt d N=true:=by exact rfl)(hh:Nat.ble h0 H.length=true:=by exact rfl):WO P h0 N all (o::l) env H Q:=
 WO.call π (by simp_all) hg hd (λx h=>by simp_all) e hargs hH hπ g k
end
section
variable {P:Program} {o:Oper} {env:Env} {H:Qc} {α:Type} {e:α->List A}
theorem Qfn{c:Call}{t a k:Nat}{x:Operand}{l:List α}(d:∀w,(underlying t).run P w=.ok (.slice a) w)(f:o.op=.call c:=by exact rfl)(hc:c={callee:=.builtin .len,args:= #[x],argTypes:= #[t]}:=by exact rfl)
  (hx:opA env x=.rsl k (l.map e):=by exact rfl):OpV P o env H (.int .i64 l.length):=by
 have:=Qil (H:=H) f hc d hx
 grind
theorem Qb1{t a k:Nat}{x y:Operand}{l:List α}{g:IntKind}{i:Int}{v:α}(h:idx l i=some v)(d:∀w,(underlying t).run P w=.ok (.slice a) w)(f:∀w,(sizeOf a).run P w=.ok k w)
  (j:o.op=.indexAddr t x y:=by exact rfl)(hx:opA env x=.rsl k (l.map e):=by exact rfl)(hy:opA env y=.int g i:=by exact rfl):OpV P o env H (.rp (e v)):=
 Qi5 j d f hx hy (QaT h).1 (QcO (QaT h).2)
theorem Q5{t a k b n:Nat}{x y:Operand}{l:List α}{j:IntKind}{i:Int}{v:α}(h:idx l i=some v)(m:l.length=n)(d:∀w,(underlying t).run P w=.ok (.slice a) w)(e:∀w,(sizeOf a).run P w=.ok k w)
  (g:o.op=.indexAddr t x y:=by exact rfl)(hx:opA env x=.osl b 0 n k:=by exact rfl)(hy:opA env y=.int j i:=by exact rfl):OpV P o env H (.ptr b (i.toNat*k)):=by
 have:=QaT h;have f:i.toNat<l.length:=(by grind);have p:=Qgq (H:=H) g d e hx hy this.1 (by omega)
 grind
theorem Qbn{b t k f:Nat}{l:List α}{i:Int}{v:α}{a:List A}(h:idx l i=some v)(d:H[b]?=some (.row t k (l.map e)):=by exact rfl)(hcs:(e v).drop f=a:=by exact rfl):Pts H (.ptr b (i.toNat*k+f)) a:=
 Pts.row d rfl (QcO (QaT h).2) hcs
theorem Yj{b t k:Nat}{l:List α}{i:Int}{v:α}{a:List A}(h:idx l i=some v)(d:H[b]?=some (.row t k (l.map e)):=by exact rfl)(hcs:e v=a:=by exact rfl):Pts H (.ptr b (i.toNat*k)) a:=
 Pts.row (f:=0) d rfl (QcO (QaT h).2) hcs
theorem Qin{c:Call}{T T' et et' k:Nat}{x y:Operand}{a:A}{m r:List α}(h:app [] m=some r)(E:QN P T et k)(d:∀w,(underlying T').run P w=.ok (.slice et') w)(f:Src P H a k (m.map e))
  (g:o.op=.call c:=by exact rfl)(hc:c={callee:=.builtin .append,args:= #[x,y],argTypes:= #[T,T']}:=by exact rfl)(hx:opA env x=.nils:=by exact rfl)(hy:opA env y=a:=by exact rfl):
  OpH P o env H (.osl H.length 0 r.length k) (H++[.row et k (r.map e)]):=by
 obtain⟨i,rfl⟩:=Qh7 h;have:=QdG E d g hc hx hy f (by grind)
 grind
theorem Yx{c:Call}{T T' et et' k i n:Nat}{x y:Operand}{a:A}{l m r:List α}(h:app l m=some r)(E:QN P T et k)(f:∀w,(underlying T').run P w=.ok (.slice et') w)(d:Src P H a k (m.map e))
  (g:l.length=n:=by exact rfl)(ho:o.op=.call c:=by exact rfl)(hc:c={callee:=.builtin .append,args:= #[x,y],argTypes:= #[T,T']}:=by exact rfl)(hx:opA env x=.osl i 0 n k:=by exact rfl)
  (hH:H[i]?=some (.row et k (l.map e)):=by exact rfl)(hy:opA env y=a:=by exact rfl):
  OpH P o env H (.osl H.length 0 r.length k) (H.set i .dead++[.row et k (r.map e)]):=by
 obtain⟨j,rfl⟩:=Qh7 h;subst g;have:=Qfo E f ho hc hx hH (by simp) hy d (by grind) (gs:=(l++m).map e) (by rw[Vt (by simp)];simp)
 grind
theorem Qdn{k:Nat}{l:List α}:Src P H (.rsl k (l.map e)) k (l.map e):=Src.rsl
theorem Qbi{i n k t:Nat}{l:List α}(a:H[i]?=some (.row t k (l.map e)):=by exact rfl)(hn:l.length=n:=by exact rfl):Src P H (.osl i 0 n k) k (l.map e):=
 Src.osl a (by grind[List.take_of_length_le]) (by simp[hn])
theorem YE{t n b T k f:Nat}{x y:Operand}{l l':List α}{i:Int}{v m:α}{vs:List A}{a:A}{g:Nat}(h:idx l i=some v)(r:QbA l i m=some l')(p:∀w,(sizeOf t).run P w=.ok n w)(d:g=i.toNat*k+f)(j:splice (e v) f vs=e m)
  (q:o.op=.store t x y:=by exact rfl)(hx:opA env x=.ptr b g:=by exact rfl)(hH:H[b]?=some (.row T k (l.map e)):=by exact rfl)
  (hy:opA env y=a:=by exact rfl)(hk:Q4 a=true:=by exact rfl)(hv:QW a=vs:=by exact rfl)(hn:vs.length=n:=by exact rfl)(hp:vs.all Yd=true:=by exact rfl)(hd:Yi vs=true:=by exact rfl)(hf:Nat.ble (f+n) k=true:=by exact rfl):
  OpU P o env H (H.set b (.row T k (l'.map e))):=by
 refine QeB q hx hH p d (QcO (QaT h).2) hy hk hv hn hp hd hf j ?_
 grind[QbA,List.map_set]
end
def ZR(a:A)(v:Value):Prop:=∀ro σ w,VR ro σ w a v
def ZL(az:List A)(l:List Value):Prop:=∀ro σ w,LR ro σ w az l
theorem ZR.int{k:IntKind}{n:Int}:ZR (.int k n) (.int k n):=λ_ _ _=>rfl
theorem ZR.bool{b:Bool}:ZR (.bool b) (.bool b):=λ_ _ _=>rfl
theorem ZR.str:ZR (.str []) (.string ⟨#[]⟩):=λ_ _ _=>rfl
theorem ZR.rsl{α:Type}{k:Nat}{e:α->List A}:ZR (.rsl k (List.map e [])) (.slice none 0 0):=λ_ _ _=>⟨none,0,rfl,XM _,.inl rfl⟩
theorem ZR.nils:ZR .nils (.slice none 0 0):=λ_ _ _=>rfl
theorem ZR.nilp:ZR .nilp (.pointer none):=λ_ _ _=>rfl
theorem ZR.nilf:ZR .nilf .nilFunc:=λ_ _ _=>rfl
theorem ZR.nilm:ZR .nilm (.map none):=λ_ _ _=>rfl
theorem QiZ:ZR .nilif .nilIface:=λ_ _ _=>rfl
theorem ZL.nil:ZL [] []:=λ_ _ _=>rfl
theorem ZL.cons{a:A}{v:Value}{az:List A}{l:List Value}(h:ZR a v)(k:ZL az l):ZL (a::az) (v::l):=λro σ w=>⟨v,l,rfl,h ro σ w,k ro σ w⟩
theorem ZR.agg{az:List A}{l:List Value}(h:ZL az l):ZR (.agg az) (.agg l.toArray):=λro σ w=>⟨l,rfl,h ro σ w⟩
section
variable {P:Program} {o:Oper} {env:Env} {H:Qc}
theorem QbL{t:Nat}{z:Value}{v:A}{d:List A}(k:∀w,(zeroValue t).run P w=.ok z w)(h:ZR v z)(m:o.op=.alloc t:=by exact rfl)(hk:Q4 v=true:=by exact rfl)(hcs:QW v=d:=by exact rfl)(hpl:d.all Yd=true:=by exact rfl):
  OpH P o env H (.ptr H.length 0) (H++[.cells t d]):=by
 intro j g σ N a w r;obtain⟨l,i,f⟩:=(h g σ w).cells hk;subst hcs;refine⟨.pointer (some ⟨w.heap.size,0,none⟩),w.alloc (.cells l.toArray t),g,[some w.heap.size],?_,⟨w.heap.size,?_,rfl⟩,r.sim.allocCells f (f.plain hpl),Qj.alloc _ r.sim.roLt r.sim.frLt⟩
 .have e:(newVar t z).run P w=.ok ⟨w.heap.size,0,none⟩ (w.alloc (.cells l.toArray t)):=by
   unfold newVar;rw[i];rfl
  simp_all[execOp,Instr.alloc]
 .rw[<- r.sim.len];simp
theorem QfI{t:TypeId}{p q:Bool}{w:World}(a:∀w,(underlying t).run P w=.ok .bool w):(Op.equal t (.bool p) (.bool q)).run P w=.ok (p==q) w:=by
 have k:∀d,(Op.equalIn (d+1) t (.bool p) (.bool q)).run P w=.ok (p==q) w:=by
  simp[Op.equalIn,a]
 exact k 9999
theorem Qdx{t u:TypeId}{x y:Operand}{p q:Bool}(f:∀w,(underlying t).run P w=.ok .bool w)(i:o.op=.binOp .neq t x y u:=by exact rfl)(hx:opA env x=.bool p:=by exact rfl)(hy:opA env y=.bool q:=by exact rfl):OpV P o env H (.bool (p != q)):=by
 intro e d σ N a w r;have h:=QbS r hx;have g:=QbS r hy;refine⟨_,?_,rfl⟩
 simp_all[execOp,Go.binOp,eqGuard,QfI,bne]
theorem Qay{t:TypeId}{x y:Operand}{s:List UInt8}{k:IntKind}{i:Int}{c:UInt8}(h:idx s i=some c)(d:∀w,(underlying t).run P w=.ok .string w)(a:o.op=.index t x y:=by exact rfl)(hx:opA env x=.str s:=by exact rfl)(hy:opA env y=.int k i:=by exact rfl):
  OpV P o env H (.int .u8 c.toNat):=Qg5 a d hx hy (QaT h).1 (QaT h).2
theorem Qg8{c:Call}{t a i n k:Nat}{x:Operand}(d:∀w,(underlying t).run P w=.ok (.slice a) w)(e:o.op=.call c:=by exact rfl)(hc:c={callee:=.builtin .len,args:= #[x],argTypes:= #[t]}:=by exact rfl)
  (hx:opA env x=.osl i 0 n k:=by exact rfl):OpV P o env H (.int .i64 n):=Qim e hc d hx
end
def Qd(k:IntKind)(n:Int):List A:=[.int k n]
def YN(b:Bool):List A:=[.bool b]
def encS(s:List UInt8):List A:=[.str s]
def Qy{α:Type}(k:Nat)(e:α->List A)(l:List α):List A:=[.rsl k (l.map e)]
theorem QeM{P:Program}{rd:Option Nat}{o:Oper}{a:Act}{next:Act->World->Prop}{Q:Exit->Act->World->Prop}{e:Result Next}
  (k:∀a' w',next a' w'->a'.defers=a.defers)(h:o.uponIn (WF rd) 0 P a next Q e):
  o.uponIn (WF rd) 0 P a (λa' w'=>next a' w'/\ ∃v,a'=a.put o.dst v) Q e:=by
 cases e with
 |ok n w'=>
  cases n with
  |value v=>exact⟨h,_,rfl⟩
  |skip=>exact⟨h,_,rfl⟩
  |defer d=>
   have:=congrArg List.length (k _ _ h)
   revert this
   cases o.dst<;>simp[Act.put]
  |enter f g=>
   exact⟨h.1,CallsIn.mono h.2 (by grind)⟩
  |row r g=>exact⟨h.1,RowsIn.mono h.2 (by grind)⟩
  |round l f j assign i=>exact⟨h.1,RoundIn.mono h.2 (by grind)⟩
  |_=>exact h.elim
 |halt x w'=>cases x<;>first|exact h|exact h.elim
def YB(e:Env)(H:Qc):Qx:=λx e' H'=>x=.normal/\e'=e/\H'=H
theorem YB.mk{e:Env}{H:Qc}:YB e H .normal e H:=⟨rfl,rfl,rfl⟩
inductive Sb (af bf ds:List Nat) (xs:List A) (env0:Env):Env->Prop
 |nil:Sb af bf ds xs env0 []
 |dep (j:Nat) {s:Nat} {a:A} {r:Env} (h1:af.contains j=true) (h2:ds[j]?=some s) (h3:xs[j]?=some a) (k:Sb af bf ds xs env0 r):Sb af bf ds xs env0 ((s,a)::r)
 |old {s:Nat} {a:A} {r:Env} (h1:ds.contains s=false) (h2:lk env0 s=a) (k:Sb af bf ds xs env0 r):Sb af bf ds xs env0 ((s,a)::r)
 |pre (j:Nat) {s:Nat} {a:A} {r:Env} (h1:bf.contains j=true) (h2:ds[j]?=some s) (h3:lk env0 s=a) (k:Sb af bf ds xs env0 r):Sb af bf ds xs env0 ((s,a)::r)
def Qk(o:Oper):List Nat:=(o.after.toList.filter (Region.binds .any)).map (·.on)
def Qeq(l:List Oper)(i:Nat):List Nat:=(List.range l.length).filter λj=>((l[j]?).map Qk).getD [] |>.contains i
inductive QcE (P:Program) (N:Nat) (l:List Oper) (ds:List Nat) (xs:List A) (env0:Env) (i:Nat) (H H':Qc):Prop
 |mk (o:Oper) (e:Env) (d:Nat) (x:A) (ho:l[i]?=some o) (hd:o.dst=some d) (hx:xs[i]?=some x) (hs:Sb (Qk o) (Qeq l i) ds xs env0 e)
   (h:WO P H.length N l.toArray [o] e H (YB (up e d x) H')):QcE P N l ds xs env0 i H H'
theorem QcE.use{P:Program}{N:Nat}{l:List Oper}{J:List Nat}{xs:List A}{env0:Env}{i:Nat}{H H':Qc}(u:QcE P N l J xs env0 i H H')
  {Q:Exit->Act->World->Prop}{K:Act->World->Prop}{fr ro:Nat->Prop}{σ:Sig}{a:Act}{w:World}{o:Oper}{rd:Option Nat}(Y:l[i]?=some o)
  (p:Sim fr ro σ H w)(hN:a.tmps.size=N)(B:QaN fr a.defers w)(O:Qch rd fr w)
  (hD:∀j∈Qk o,∀s x,J[j]?=some s->xs[j]?=some x->VR ro σ w x (a.tmps.getD s undef))
  (hE:∀s,J.contains s=false->VR ro σ w (lk env0 s) (a.tmps.getD s undef))(hP:∀j s,(Qeq l i).contains j=true->J[j]?=some s->VR ro σ w (lk env0 s) (a.tmps.getD s undef))
  (hK:∀v w' ro' τ d x,o.dst=some d->xs[i]?=some x->VR ro' (σ++τ) w' x ((a.put o.dst v).tmps.getD d undef)->Sim fr ro' (σ++τ) H' w'->Qj fr ro w ro' w'->K (a.put o.dst v) w'):
  wpOpIn (WF rd) 0 P l.toArray Q i K a w:=by
 obtain⟨y,e,d,x,R,hd,hx,hs,h⟩:=u;obtain rfl:y=o:=XS (R.symm.trans Y);have E:Rel fr ro σ H e N a w:=by
  refine⟨p,?_,hN,B⟩;intro s;clear h
  induction hs with
  |nil=>exact trivial
  | @dep j s1 t r k g h3 _ ih=>
   unfold lk;cases u:Nat.beq s s1 with
   |false=>exact ih
   |true=>
    obtain rfl:=XK u
    grind
  | @old s1 t r k g _ ih=>
   unfold lk;cases u:Nat.beq s s1 with
   |false=>exact ih
   |true=>
    obtain rfl:=XK u
    grind
  | @pre j s1 t r k g h3 _ ih=>
   unfold lk;cases u:Nat.beq s s1 with
   |false=>exact ih
   |true=>
    obtain rfl:=XK u
    grind
 have z:=h rd fr ro σ a w E O;have fin:∀v w',Qa7 H.length fr ro σ w N a.defers (YB (up e d x) H') .normal (a.put y.dst v) w'->K (a.put y.dst v) w':=by
  rintro v w' ⟨_,aa,H2,ro',σ',ab,_,⟨_,rfl,rfl⟩,W,m,ht,_,T⟩;have hσ:σ'=σ++σ'.drop H.length:=by
   conv=>lhs;rw[<- Xu H.length σ']
   rw[ht, <- p.len,X2]
  have G:=W.env d;unfold lk at G;rw[Vq]at G;rw[hσ]at G;refine hK v w' ro' (σ'.drop H.length) d x hd hx G ?_ m;rw[<- hσ];exact W.sim.frMono T.sub
 unfold wpOpIn;have V:l.toArray[i]?=some y:=by simpa using Y
 rw[V];simp only;unfold wpL wpListIn at z;split at z
 .rename_i hw;rw[Vk hw];obtain⟨M,z⟩:=z;refine⟨M,?_⟩;have g:=QeM (by
   intro a' w' q;unfold wpListIn at q;obtain⟨_,_,_,_,_,_,_,_,_,_,_,q,_⟩:=q;exact q) z
  generalize(y.semAt (WF rd).round a.eval).run P w=res at*;cases res with
  |ok n w'=>
   cases n with
   |value v=>exact fin _ _ g.1
   |skip=>exact fin _ _ g.1
   |defer df=>
    exfalso;obtain⟨⟨_,_,_,_,_,_,_,_,_,_,_,q,_⟩,_⟩:=g;have:=congrArg List.length q
    revert this
    cases y.dst<;>simp[Act.put]
   |enter f F=>
    refine⟨g.1,CallsIn.mono g.2 (λe L m=>?_)⟩;cases e with
    |returned v=>exact fin _ _ m.1
    |panicked c=>obtain⟨t,_,_,_,_,_,k,⟨rfl,_⟩,_⟩:=m;exact k.elim
    |outgrown=>obtain⟨a1,w1,t,_,_,_,_,_,k,⟨rfl,_⟩,_⟩:=m;exact k.elim
   |row r F=>
    exact⟨g.1,RowsIn.mono g.2 (λ_ _ m=>fin _ _ m.1)⟩
   |round l f tmps assign X=>
    refine⟨g.1,RoundIn.mono g.2 (λe L m=>?_)⟩;cases e with
    |returned v=>exact fin _ _ m.1
    |panicked c=>obtain⟨t,_,_,_,_,_,k,⟨rfl,_⟩,_⟩:=m;exact k.elim
    |outgrown=>obtain⟨a1,w1,t,_,_,_,_,_,k,⟨rfl,_⟩,_⟩:=m;exact k.elim
   |_=>exact g.elim
  |halt x w'=>
   cases x with
   |panic v=>obtain⟨t,_,_,_,_,_,k,⟨rfl,_⟩,_⟩:=g;exact k.elim
   |_=>exact g.elim
 simp_all[wpListIn]
theorem least{p:Nat->Prop}(a:∀i,p i\/ ¬p i):∀n,p n->∃i,i<=n/\p i/\ ∀j,j<i->¬p j:=by
 intro n
 induction n using Nat.strongRecOn with
 |ind n d=>
  grind
def onL(L:Array Bool)(i:Nat):Prop:=L[i]?=some true
theorem Qau{l:List Oper}{L:Array Bool}(m:L.size=l.length){i:Nat}:
  i∈Region.ready .any l.toArray L↔ ∃o,l[i]?=some o/\ ¬onL L i/\ ∀j∈Qk o,onL L j:=by
 unfold Region.ready;simp only[Xd,List.mem_range,XP,XA];have f:∀j,L.getD j false=true↔onL L j:=by
  intro j;unfold onL;rw[Array.getD_eq_getD_getElem?]
  grind
 constructor
 .rintro⟨d,h,a⟩;refine⟨l[i],(by simp),?_,?_⟩
  .grind
  .rw[XE d]at a;simp only[Xi,Option.getD_some,Array.all_eq_true']at a;intro j k;unfold Qk at k
   grind
 .rintro⟨o,d,h,a⟩;have g:i<l.length:=(by grind);refine⟨g,?_,?_⟩
  .grind
  .rw[d];simp only[Xi,Option.getD_some,Array.all_eq_true'];intro e n;cases p:Region.binds .any e with
   |false=>simp
   |true=>
    have:=(f _).2 (a e.on (by unfold Qk;grind))
    grind
theorem YT{L:Array Bool}{i j:Nat}(hi:i<L.size):onL (L.setIfInBounds i true) j↔j=i\/onL L j:=by
 grind[onL]
def unl(L:Array Bool):Nat:=L.toList.countP (!·)
theorem Qea{L:Array Bool}{i:Nat}(hi:i<L.size)(h:¬onL L i):unl (L.setIfInBounds i true)+1=unl L:=by
 unfold unl;have a:L.toList[i]=false:=by
  grind[onL]
 grind
theorem Qf6{L:Array Bool}{i:Nat}(hi:i<L.size)(h:¬onL L i):0<unl L:=by have:=Qea hi h;omega
inductive Qbv (l:List Oper) (m:Nat):Nat->Prop
 |one {o:Oper} {j:Nat} (ho:l[m]?=some o) (hj:j∈Qk o):Qbv l m j
 |step {o:Oper} {i j:Nat} (h:Qbv l m i) (ho:l[i]?=some o) (hj:j∈Qk o):Qbv l m j
def Qc8(l:List Oper):Nat->List Nat->List Nat
 |0,S=>S
 |j+1,S=>Qc8 l j (bif S.contains j then S++(match l[j]? with|some o=>Qk o|none=>[])else S)
theorem Qbk{l:List Oper}{m:Nat}:∀(n:Nat) (S:List Nat),(∀j∈S,Qbv l m j)->∀j∈Qc8 l n S,Qbv l m j
 |0,S,h,j,hj=>h j hj
 |n+1,S,h,j,hj=>by
  refine Qbk n _ ?_ j hj;intro i hi;cases q:S.contains n with
  |false=>grind
  |true=>
   rw[q]at hi;rcases Vo.1 hi with z|z
   .exact h i z
   .cases ho:l[n]? with
    |none=>grind
    |some o=>rw[ho]at z;exact .step (by grind) ho z
def Qam(ds:List Nat)(xs:List A)(env0:Env):Env:=ds.zip xs++env0
theorem QiI{a:List Nat}{xs:List A}{env0:Env}(e:a.length=xs.length)(s:Nat):
  (∃(j:Nat) (x:A),a[j]?=some s/\xs[j]?=some x/\lk (Qam a xs env0) s=x)\/(a.contains s=false/\lk (Qam a xs env0) s=lk env0 s):=by
 unfold Qam
 induction a generalizing xs with
 |nil=>simp
 |cons d a i=>
  cases xs with
  |nil=>simp at e
  |cons x xs=>
   simp[XT,Nat.add_right_cancel_iff]at e;simp only[List.zip_cons_cons,Vv,lk];cases h:Nat.beq s d with
   |true=>
    obtain rfl:=XK h;left;exact⟨0,x,rfl,rfl,by simp⟩
   |false=>
    have g:s≠d:=λq=>by simp_all
    rcases i e with⟨j,y,f,k,l⟩|⟨f,k⟩
    .left;exact⟨j+1,y,by grind,by grind,by grind⟩
    grind
def drawChk.nodupB:List Nat->Bool
 |[]=>true
 |x::r=> !r.contains x&&drawChk.nodupB r
def drawChk.goB(l:List Oper)(m:Nat):Nat->List Oper->Bool
 |_,[]=>true
 |i,o::r=>(Qk o).all (λj=>Nat.blt j i)&&(bif Nat.beq i m then(List.range m).all (λj=>(Qc8 l m (Qk o)).contains j)else bif Nat.blt m i then(Qk o).contains (i-1)else true)&&drawChk.goB l m (i+1) r
def drawChk.loB(m k:Nat)(los:List Nat)(hs:List Bool):Nat->List Oper->Bool
 |_,[]=>(List.range k).all λj=>(List.range m).any λi=>hs.getD i false&&Nat.beq (los.getD i 0) j
 |i,o::r=>(bif Nat.blt i m then
   (Nat.beq (los.getD i 0) 0||(Qk o).any (λj=>Nat.blt j m&&Nat.ble (los.getD i 0) (los.getD j 0+(if hs.getD j false then 1 else 0))))
   &&(!hs.getD i false||(Nat.blt (los.getD i 0) k&&(List.range m).all (λj=> !hs.getD j false|| !Nat.beq (los.getD i 0) (los.getD j 0)||Nat.beq i j)))
  else true)&&drawChk.loB m k los hs (i+1) r
def drawChk(l:List Oper)(m k N:Nat)(ds los:List Nat)(hs:List Bool):Bool:=
 Nat.ble m l.length&&(ds.length==m)&&(l.take m).map (·.dst)==ds.map some&&ds.all (λd=>Nat.blt d N)&&drawChk.nodupB ds
 &&drawChk.goB l m 0 l&&(drawChk.loB m k los hs 0 l)
theorem Qcr{a:List Nat}(h:drawChk.nodupB a=true):∀(i j d:Nat),a[i]?=some d->a[j]?=some d->i=j:=by
 induction a with
 |nil=>simp
 |cons x r e=>
  simp[drawChk.nodupB,XP]at h
  grind
theorem QeZ{l:List Oper}{m:Nat}:∀(r:List Oper) (b:Nat),drawChk.goB l m b r=true->∀(i:Nat) (o:Oper),r[i]?=some o->
  (∀j∈Qk o,j<b+i)/\(b+i=m->∀j,j<m->j∈Qc8 l m (Qk o))/\(m<b+i->b+i-1∈Qk o):=by
 intro r
 induction r with
 |nil=>simp
 |cons x r f=>
  intro b h i o d;simp only[drawChk.goB]at h;cases i with
  |zero=>
   simp at d;refine⟨λj e=>?_,λa j e=>?_,λa=>?_⟩
   .simp_all
   .simp_all
   .have g:Nat.beq b m=false:=by
     cases q:Nat.beq b m with
     |false=>rfl
     |true=>simp_all
    have k:Nat.blt m b=true:=by simp_all
    grind
  |succ i=>
   grind
inductive Ob (P:Program) (N:Nat) (l:List Oper) (ds:List Nat) (xs:List A) (env0:Env):Nat->List (List (Qc×Qc))->Prop
 |nil {i:Nat}:Ob P N l ds xs env0 i []
 |cons {i:Nat} {s:List (Qc×Qc)} {r:List (List (Qc×Qc))} (h:∀p∈s,QcE P N l ds xs env0 i p.1 p.2) (k:Ob P N l ds xs env0 (i+1) r):Ob P N l ds xs env0 i (s::r)
theorem Ob.get{P:Program}{N:Nat}{l:List Oper}{d:List Nat}{xs:List A}{env0:Env}{b:Nat}{a:List (List (Qc×Qc))}(h:Ob P N l d xs env0 b a):
  ∀(i:Nat) (s:List (Qc×Qc)),a[i]?=some s->∀p∈s,QcE P N l d xs env0 (b+i) p.1 p.2:=by
 induction h with
 |nil=>simp
 | @cons b1 s1 r1 h _ ih=>
  grind
theorem Ob.st0{P:Program}{N:Nat}{l:List Oper}{a:List Nat}{xs:List A}{env0:Env}{i:Nat}:∀p∈([]:List (Qc×Qc)),QcE P N l a xs env0 i p.1 p.2:=by
 simp
theorem Ob.stC{P:Program}{N:Nat}{l:List Oper}{a:List Nat}{xs:List A}{env0:Env}{i:Nat}{H H':Qc}{r:List (Qc×Qc)}(h:QcE P N l a xs env0 i H H')
  (k:∀p∈r,QcE P N l a xs env0 i p.1 p.2):∀p∈(H,H')::r,QcE P N l a xs env0 i p.1 p.2:=by
 grind
theorem QaP.nil{H:Qc}:QaP H [] []:=trivial
theorem QaP.cons{H:Qc}{az d f:List A}{a b:A}(e:az=a::d)(h:Look H a b)(k:QaP H d f):QaP H az (b::f):=by subst e;exact⟨h,k⟩
section
variable {P:Program} {o:Oper} {env:Env} {H:Qc} {α:Type} {e:α->List A}
end
inductive PL (P:Program):List Field->List (Nat×Nat)->Prop
 |nil:PL P [] []
 |cons {f:Field} {n:Nat} {fs:List Field} {pl:List (Nat×Nat)} (h:∀w,(sizeOf f.type).run P w=.ok n w) (k:PL P fs pl):PL P (f::fs) ((f.offset,n)::pl)
theorem PL.run{P:Program}{fs:List Field}{a:List (Nat×Nat)}(h:PL P fs a):∀w,(fs.mapM λf=>(do pure (f.offset, <- sizeOf f.type):Sem (Nat×Nat))).run P w=.ok a w:=by
 induction h with
 |nil=>intro w;rfl
 |cons h _ ih=>
  simp_all
structure Qdq (P:Program) (t:TypeId) (pl:List (Nat×Nat)):Prop where
 un:∃fs:List Field,(∀w,(underlying t).run P w=.ok (.struct fs.toArray) w)/\PL P fs pl
section
variable {P:Program} {o:Oper} {env:Env} {H:Qc}
def Qcw(env:Env)(pl:List (Nat×Nat)):List A->List (Nat×Operand)->Option (List A)
 |cs,[]=>some cs
 |cs,(i,x)::r=>match pl[i]? with
  |none=>none
  |some (off,size)=>bif Q4 (opA env x)&&Nat.beq (QW (opA env x)).length size&&Nat.ble (off+size) cs.length then Qcw env pl (splice cs off (QW (opA env x))) r else none
theorem Qdh{fr ro:Nat->Prop}{σ:Sig}{N:Nat}{a:Act}{w:World}(r:Rel fr ro σ H env N a w){f:List (Nat×Nat)}:∀(parts:List (Nat×Operand)) (e:List A) (l:List Value) (d:List A),
  LR ro σ w e l->Qcw env f e parts=some d->
  ∃l',Instr.fill (f.toArray[·]?) l.toArray (parts.map λp=>(p.1,a.eval p.2))=some l'.toArray/\LR ro σ w d l'
 |[],e,l,d,h,q=>by
  cases q;exact⟨l,rfl,h⟩
 |(i,x)::rest,e,l,d,h,q=>by
  unfold Qcw at q;cases hp:f[i]? with
  |none=>grind
  |some p=>
   obtain⟨off,size⟩:=p;rw[hp]at q;simp at q;cases hc:(Q4 (opA env x)&&Nat.beq (QW (opA env x)).length size&&Nat.ble (off+size) e.length)with
   |false=>grind
   |true=>
    rw[hc]at q;simp[XP]at hc;obtain⟨⟨c1,c2⟩,c3⟩:=hc;obtain⟨m,q1,q2⟩:=(Ql r x).cells c1;have hm:m.length=size:=by rw[q2.length];simp_all
    have hl:=h.length;obtain⟨l',g,j⟩:=Qdh r rest _ (splice l off m) d (h.splice off q2) q
    grind[QdV,Nat.le_of_ble_eq_true]
theorem OpV.build{t:TypeId}{z:Value}{zs d:List A}{e:List (Nat×Nat)}{parts:List (Nat×Operand)}(p:∀w,(zeroValue t).run P w=.ok z w)(j:ZR (.agg zs) z)(m:Qdq P t e)
  (k:o.op=.build t parts.toArray:=by exact rfl)(hf:Qcw env e zs parts=some d:=by exact rfl):OpV P o env H (.agg d):=by
 intro x n σ N a w r;obtain⟨y,i,s⟩:=m.un;obtain⟨l,rfl,g⟩:=j n σ w;obtain⟨f,q,u⟩:=Qdh r parts zs l d g hf;refine⟨.agg f.toArray,?_,f,rfl,u⟩;have h:=s.run w;simp only[execOp,k,Instr.build,Vf,p,Result.andThen,i,XC,List.mapM_toArray,Sem.run_map,h,Value.cells,q,Vg]
end
def nz(n:Int):Option Unit:=bif n==0 then none else some ()
section
variable {P:Program} {o:Oper} {env:Env} {H:Qc}
theorem Qds{x:Operand}{a:A}(k:o.op=.nilCheck x)(g:opA env x=a:=by exact rfl)(hk:(match a with|.ptr _ _=>true|.rp _=>true|_=>false)=true:=by exact rfl):OpV P o env H a:=by
 intro i j σ N ac w r;have h:=Ql r x;rw[g]at h;cases a<;>first|(cases hk)|skip
 .obtain⟨b,e,f⟩:=h;refine⟨_,?_,b,e,rfl⟩
  simp_all[execOp]
 .obtain⟨b,d,e,f⟩:=h;refine⟨_,?_,b,d,rfl,f⟩
  simp_all[execOp]
end
mutual
def FzA(i k:Nat)(es:List (List A)):A->A->Prop
 |.agg az,b=>∃bs,b=.agg bs/\FzL i k es az bs
 |.fn f x c,b=>∃x' c',b=.fn f x' c'/\FzL i k es x x'/\FzL i k es c c'
 |.iface t a,b=>∃a',b=.iface t a'/\FzA i k es a a'
 |.tup az,b=>∃bs,b=.tup bs/\FzL i k es az bs
 |.osl j o n k',b=>b=.osl j o n k'\/(j=i/\o=0/\k'=k/\n=es.length/\b=.rsl k es)
 |.nils,b=>b=.nils\/ ∃k',b=.rsl k' []
 |a,b=>b=a
def FzL(i k:Nat)(es:List (List A)):List A->List A->Prop
 |[],b=>b=[]
 |a::az,b=>∃a' as',b=a'::as'/\FzA i k es a a'/\FzL i k es az as'
end
mutual
theorem FzA.refl{i k:Nat}{es:List (List A)}:∀a:A,FzA i k es a a
 |.agg az=>⟨az,rfl,FzL.refl az⟩
 |.fn _ x c=>⟨x,c,rfl,FzL.refl x,FzL.refl c⟩
 |.iface _ a=>⟨a,rfl,FzA.refl a⟩
 |.tup az=>⟨az,rfl,FzL.refl az⟩
 |.osl _ _ _ _=>.inl rfl
 |.nils=>.inl rfl
 |.any=>rfl
 |.bool _=>rfl
 |.int _ _=>rfl
 |.str _=>rfl
 |.nilp=>rfl
 |.ptr _ _=>rfl
 |.rp _=>rfl
 |.rsl _ _=>rfl
 |.nilf=>rfl
 |.nilif=>rfl
 |.map _=>rfl
 |.nilm=>rfl
theorem FzL.refl{i k:Nat}{es:List (List A)}:∀az:List A,FzL i k es az az
 |[]=>rfl
 |a::az=>⟨a,az,rfl,FzA.refl a,FzL.refl az⟩
end
theorem FzA.agg{i k:Nat}{es:List (List A)}{az bs:List A}(h:FzL i k es az bs):FzA i k es (.agg az) (.agg bs):=⟨bs,rfl,h⟩
theorem FzA.tup{i k:Nat}{es:List (List A)}{az bs:List A}(h:FzL i k es az bs):FzA i k es (.tup az) (.tup bs):=⟨bs,rfl,h⟩
theorem FzA.iface{i k:Nat}{es:List (List A)}{t:Nat}{a b:A}(h:FzA i k es a b):FzA i k es (.iface t a) (.iface t b):=⟨b,rfl,h⟩
theorem FzA.own{i k n:Nat}{es:List (List A)}(hn:n=es.length):FzA i k es (.osl i 0 n k) (.rsl k es):=.inr (by grind)
theorem FzA.nil{i k k':Nat}{es:List (List A)}:FzA i k es .nils (.rsl k' []):=.inr ⟨k',rfl⟩
theorem FzL.cons{i k:Nat}{es:List (List A)}{a b:A}{az bs:List A}(h:FzA i k es a b)(q:FzL i k es az bs):FzL i k es (a::az) (b::bs):=⟨b,bs,rfl,h,q⟩
mutual
theorem QfY{i k:Nat}{es:List (List A)}{ro ro':Nat->Prop}{σ:Sig}{w:World}(ext:Ext ro σ w ro' σ w)
  (hf:∀v,VR ro σ w (.osl i 0 es.length k) v->VR ro' σ w (.rsl k es) v):∀(a b:A) (v:Value),FzA i k es a b->VR ro σ w a v->VR ro' σ w b v
 |.agg az,b,v,h,q=>by
  obtain⟨bs,rfl,h⟩:=h;obtain⟨l,rfl,q⟩:=q;exact⟨l,rfl,Qcl ext hf az bs l h q⟩
 |.fn f x c,b,v,h,q=>by
  obtain⟨x',c',rfl,h1,h2⟩:=h;obtain⟨l,l',rfl,q1,q2⟩:=q;exact⟨l,l',rfl,Qcl ext hf x x' l h1 q1,Qcl ext hf c c' l' h2 q2⟩
 |.iface t a,b,v,h,q=>by
  obtain⟨a',rfl,h⟩:=h;obtain⟨x,rfl,q⟩:=q;exact⟨x,rfl,QfY ext hf a a' x h q⟩
 |.tup az,b,v,h,q=>by
  obtain⟨bs,rfl,h⟩:=h;obtain⟨l,rfl,q⟩:=q;exact⟨l,rfl,Qcl ext hf az bs l h q⟩
 |.osl j o n k',b,v,h,q=>by
  rcases h with rfl|⟨rfl,rfl,rfl,rfl,rfl⟩
  .exact q.mono ext
  .exact hf v q
 |.nils,b,v,h,q=>by
  rcases h with rfl|⟨k',rfl⟩
  .exact q
  .obtain rfl:v=.slice none 0 0:=q;exact⟨none,0,rfl,XM _,.inl rfl⟩
 |.any,b,v,h,q=>by obtain rfl:b=_:=h;trivial
 |.bool _,b,v,h,q=>by obtain rfl:b=_:=h;exact q
 |.int _ _,b,v,h,q=>by obtain rfl:b=_:=h;exact q
 |.str _,b,v,h,q=>by obtain rfl:b=_:=h;exact q
 |.nilp,b,v,h,q=>by obtain rfl:b=_:=h;exact q
 |.ptr _ _,b,v,h,q=>by obtain rfl:b=_:=h;exact q.mono ext
 |.rp _,b,v,h,q=>by obtain rfl:b=_:=h;exact q.mono ext
 |.rsl _ _,b,v,h,q=>by obtain rfl:b=_:=h;exact q.mono ext
 |.nilf,b,v,h,q=>by obtain rfl:b=_:=h;exact q
 |.nilif,b,v,h,q=>by obtain rfl:b=_:=h;exact q
 |.map _,b,v,h,q=>by obtain rfl:b=_:=h;exact q.mono ext
 |.nilm,b,v,h,q=>by obtain rfl:b=_:=h;exact q
theorem Qcl{i k:Nat}{es:List (List A)}{ro ro':Nat->Prop}{σ:Sig}{w:World}(ext:Ext ro σ w ro' σ w)
  (hf:∀v,VR ro σ w (.osl i 0 es.length k) v->VR ro' σ w (.rsl k es) v):∀(az bs:List A) (l:List Value),FzL i k es az bs->LR ro σ w az l->LR ro' σ w bs l
 |[],bs,l,h,q=>by obtain rfl:bs=[]:=h;exact q
 |a::az,bs,l,h,q=>by
  obtain⟨a',as',rfl,h1,h2⟩:=h;obtain⟨v,l',rfl,q1,q2⟩:=q;exact⟨v,l',rfl,QfY ext hf a a' v h1 q1,Qcl ext hf az as' l' h2 q2⟩
end
def FzB(i k:Nat)(es:List (List A))(x y:Blk):Prop:=y=x\/ ∃t cs cs',x=.cells t cs/\y=.cells t cs'/\FzL i k es cs cs'
def FzH(i k:Nat)(es:List (List A)):Qc->Qc->Prop
 |[],h=>h=[]
 |x::r,h=>∃y r',h=y::r'/\FzB i k es x y/\FzH i k es r r'
def Qip(i k:Nat)(es:List (List A))(env:Env):Env->Prop
 |[]=>True
 |(s,a)::r=>FzA i k es (lk env s) a/\Qip i k es env r
theorem FzH.nil{i k:Nat}{es:List (List A)}:FzH i k es [] []:=rfl
theorem FzH.keep{i k:Nat}{es:List (List A)}{x:Blk}{r r':Qc}(h:FzH i k es r r'):FzH i k es (x::r) (x::r'):=⟨x,r',rfl,.inl rfl,h⟩
theorem FzH.cells{i k t:Nat}{es:List (List A)}{cs cs':List A}{r r':Qc}(q:FzL i k es cs cs')(h:FzH i k es r r'):FzH i k es (.cells t cs::r) (.cells t cs'::r'):=⟨_,r',rfl,.inr (by grind),h⟩
theorem FzH.get{i k:Nat}{es:List (List A)}:∀{H H':Qc},FzH i k es H H'->∀(j:Nat) (y:Blk),H'[j]?=some y->∃x,H[j]?=some x/\FzB i k es x y
 |[],_,h,j,y,q=>by obtain rfl:_=[]:=h;simp at q
 |x::r,_,h,j,y,q=>by
  obtain⟨y',r',rfl,h1,h2⟩:=h;cases j with
  |zero=>grind
  |succ j=>obtain⟨x',p1,p2⟩:=h2.get j y q;grind
theorem FzH.len{i k:Nat}{es:List (List A)}:∀{H H':Qc},FzH i k es H H'->H'.length=H.length
 |[],_,h=>by obtain rfl:_=[]:=h;rfl
 |x::r,_,h=>by obtain⟨y',r',rfl,h1,h2⟩:=h;simp[h2.len]
theorem FzB.live{i k:Nat}{es:List (List A)}{x y:Blk}(h:FzB i k es x y):y.live=x.live:=by
 rcases h with rfl|⟨t,d,a,rfl,rfl,_⟩<;>rfl
theorem Yy{env:Env}{H H':Qc}{R i k t:Nat}{es:List (List A)}(ov:Env)(hi:Nat.ble R i=true)(M:H[i]?=some (.row t k es))(X:Qip i k es env ov)(L:FzH i k es (H.set i .dead) H'):Le R env H (ov++env) H':=by
 intro fr Y σ N a w r
 let ro':Nat->Prop:=λb=>Y b\/σ[i]?=some (some b)
 have hown:=λb h=>r.sim.own i b _ h M rfl;have ext:Ext Y σ w ro' σ w:=⟨λ_ q=>.inl q,λ_ _=>rfl,λ_ _ q=>q,λ_ _ q=>q⟩;have hf:∀v,VR Y σ w (.osl i 0 es.length k) v->VR ro' σ w (.rsl k es) v:=by
  intro v h;rcases h with⟨R,h⟩|⟨b,p,J,t',m,g,h,n,⟨u,aa⟩,h4,O⟩
  .have:es=[]:=(by grind);subst this;exact⟨none,0,h,XM _,.inl rfl⟩
  .refine⟨_,J,h,u,?_⟩;by_cases he:es=[]
   .exact .inl he
   .right;have hc:0<J:=X8 (by grind) u;obtain rfl:=n hc;obtain⟨l,W,q2⟩:=r.sim.blk i _ _ g M;refine⟨b,0,by simp,.inr g,?_⟩;have:=YA (pre:=[]) (by simpa using W) q2;exact this.keep ⟨λ_ q=>.inl q,λ_ _=>rfl,λ_ _ q=>q,λ_ _ q=>q⟩ rfl
 have f:∀(j:Nat) (y:Blk),H'[j]?=some y->y≠ .dead->j≠i/\ ∃x,H[j]?=some x/\FzB i k es x y:=by
  intro j y h P;obtain⟨x,g,n⟩:=L.get j y h;by_cases e:j=i
  .subst e;rw[Xb]at g;simp only[if_true]at g;split at g
   .cases g;rcases n with rfl|⟨_,_,_,q,_,_⟩
    .grind
    .cases q
   .simp at g
  grind
 refine⟨ro',σ,⟨⟨by rw[L.len,XW];exact r.sim.len,r.sim.roOk.to (λ_ q=>.inl q) (λ_ _=>rfl) ?_,r.sim.frLt,?_,?_,?_,?_,r.sim.hidTo (· = ·) QU (XM _) (λj b x c W q2 q3 q4=>q4.elim id λq=>((r.sim.hid j b x c W q2 q3).ne i c _ q M rfl rfl).elim) (by simp) λj d y Q g2 g3=>.inl ?_⟩,?_,r.size,r.defers⟩,λ_ q=>.inl q,rfl⟩
 rotate_left 5
 .obtain⟨_,x,g4,g5⟩:=f j y g2 (QeK g3);exact⟨j,x,rfl,Q,g4,λz=>by rw[<- g5.live];exact z,λc q=>by rcases g5 with rfl|⟨t,cs,B,rfl,rfl,_⟩;exact q;exact q.elim⟩
 rotate_left 1
 .rintro b (q|q)
  .exact r.sim.roLt b q
  grind
 .rintro b (q|q)
  .exact r.sim.roFr b q
  grind
 .intro j b v g n u;obtain⟨e,x,n,G⟩:=f j v n (Qa0 u);have hx:x.live=true:=by rw[<- G.live];exact u
  obtain⟨E,F,p3⟩:=r.sim.own j b x g n hx;refine⟨E,?_,p3⟩;rintro(q|q)
  .exact F q
  .exact e (r.sim.inj j i b x _ g q n M hx rfl)
 .intro j j' b v v' g n u h4 O h6;obtain⟨_,x,E,F⟩:=f j v u (Qa0 O);obtain⟨_,x',T,V⟩:=f j' v' h4 (Qa0 h6);exact r.sim.inj j j' b x x' g n E T (by rw[<- F.live];exact O) (by rw[<- V.live];exact h6)
 .intro j s v g n;by_cases P:v≠ .dead
  .obtain⟨_,x,E,F⟩:=f j v n P;have G:=r.sim.blk j s x g E;rcases F with rfl|⟨t,cs,B,rfl,rfl,q⟩
   .exact G.keep ext (λ_ _ _=>rfl) (λ_ _ _ _=>rfl)
   .cases s with
    |none=>exact G.elim
    |some b=>
     obtain⟨l,e1,e2,e3⟩:=G;exact⟨l,e1,Qcl ext hf cs B l q e2,e3⟩
  .obtain rfl:v=.dead:=Classical.not_not.1 P;trivial
 .intro s
  induction ov with
  |nil=>exact(r.env s).mono ext
  |cons p ov ih=>
   obtain⟨s1,a1⟩:=p;obtain⟨Q,g2⟩:=X;simp only[Vv,lk];cases q:Nat.beq s s1 with
   |true=>
    obtain rfl:=XK q;exact QfY ext hf _ _ _ Q (r.env s)
   |false=>exact ih g2
theorem Qip.nil{i k:Nat}{es:List (List A)}{env:Env}:Qip i k es env []:=trivial
theorem Qip.cons{i k s:Nat}{es:List (List A)}{env:Env}{a b:A}{r:Env}(h:lk env s=a)(q:FzA i k es a b)(g:Qip i k es env r):Qip i k es env ((s,b)::r):=⟨h▸q,g⟩
def QbZ(P:Program)(env:Env)(H:Qc)(l:ResultVar)(x:A):Prop:=
 ∀fr ro σ N a w,Rel fr ro σ H env N a w->∃v,((match l with
  |.tmp t=>pure (a.tmps.getD t undef)
  |.cell b t=>do loadVar t (<- asAddr (a.tmps.getD b undef)):Sem Value)).run P w=.ok v w/\VR ro σ w x v
def QfR(P:Program)(env:Env)(H:Qc):List ResultVar->List A->Prop
 |[],xs=>xs=[]
 |l::ls,xs=>∃x xs',xs=x::xs'/\QbZ P env H l x/\QfR P env H ls xs'
section
variable {P:Program} {fn:Func} {env:Env} {H:Qc}
theorem QbZ.tmp{t:Nat}{x:A}(d:lk env t=x:=by exact rfl):QbZ P env H (.tmp t) x:=
 λfr ro σ N a w r=>⟨a.tmps.getD t undef,rfl,d▸r.env t⟩
theorem QbZ.cell{b t:Nat}{p x:A}{g:List A}(l:∀w,(isAgg t).run P w=.ok false w)(j:Pts H p (x::g))(e:lk env b=p:=by exact rfl):QbZ P env H (.cell b t) x:=by
 intro f i σ N a w r;have d:=r.env b;rw[e]at d;obtain⟨q,h,n,⟨y,m,_,k⟩,_⟩:=j f i σ w _ r.sim d
 simp_all[asAddr,loadVar]
theorem QcC{b t n:Nat}{p:A}{d:List A}(q:∀w,(isAgg t).run P w=.ok true w)(u:∀w,(sizeOf t).run P w=.ok n w)(m:Pts H p d)(f:lk env b=p:=by exact rfl)(hl:(d.take n).length=n:=by exact rfl):
  QbZ P env H (.cell b t) (.agg (d.take n)):=by
 intro g j σ N a w r;have e:=r.env b;rw[f]at e;obtain⟨s,i,x,h⟩:=m g j σ w _ r.sim e;obtain⟨l,k,_,y⟩:=Yg (P:=P) 0 (by simpa using h.take n);refine⟨.agg l.toArray,?_,l,rfl,k⟩
 simp_all[asAddr,loadVar,loadCells]
theorem Qe{b t n i T:Nat}{a:List A}(d:∀w,(isAgg t).run P w=.ok true w)(f:∀w,(sizeOf t).run P w=.ok n w)(e:lk env b=.ptr i 0)(g:H[i]?=some (.cells T a))(h:a.length=n):
  QbZ P env H (.cell b t) (.agg a):=by
 have:=QcC d f (Pts.cells g rfl) e (by grind)
 grind
theorem Qn{b t i T:Nat}{x:A}(ha:∀w,(isAgg t).run P w=.ok false w)(hx:lk env b=.ptr i 0)(hH:H[i]?=some (.cells T [x])):QbZ P env H (.cell b t) x:=
 QbZ.cell ha (Pts.cells hH rfl) hx
theorem QfR.nil:QfR P env H [] []:=rfl
theorem QfR.cons{l:ResultVar}{ls:List ResultVar}{x:A}{xs:List A}(h:QbZ P env H l x)(k:QfR P env H ls xs):QfR P env H (l::ls) (x::xs):=⟨x,xs,rfl,h,k⟩
theorem QfR.run{fr ro:Nat->Prop}{σ:Sig}{N:Nat}{a:Act}{w:World}(r:Rel fr ro σ H env N a w):∀{ls:List ResultVar} {xs:List A},QfR P env H ls xs->
  ∃vs:List Value,(ls.mapM λl=>(match l with
   |.tmp t=>pure (a.tmps.getD t undef)
   |.cell b t=>do loadVar t (<- asAddr (a.tmps.getD b undef)):Sem Value)).run P w=.ok vs w/\LR ro σ w xs vs
 |[],_,h=>by obtain rfl:_=[]:=h;exact⟨[],rfl,rfl⟩
 |l::ls,_,h=>by
  obtain⟨x,xs,rfl,h1,h2⟩:=h;obtain⟨v,e1,e2⟩:=h1 fr ro σ N a w r;obtain⟨vs,e3,e4⟩:=QfR.run r h2;refine⟨v::vs,?_,v,vs,rfl,e2,e4⟩
  simp_all
theorem Qg{ls:List ResultVar}{xs:List A}(h:fn.results=ls.toArray)(m:Nat.beq ls.length 1=false)(k:QfR P env H ls xs):Qa6 P fn env H (.tup xs):=by
 intro j n σ N a w r;obtain⟨vs,p,e⟩:=k.run r;have d:¬vs.length=1:=by
  have:∀{ls:List ResultVar} {xs:List A},QfR P env H ls xs->xs.length=ls.length:=by
   intro ls
   induction ls with
   |nil=>intro xs h;obtain rfl:xs=[]:=h;rfl
   |cons l ls g=>intro xs h;obtain⟨x,f,rfl,_,i⟩:=h;simp[g i]
  rw[e.length,this k];intro q;simp_all
 refine⟨.tuple vs.toArray,?_,vs,rfl,e⟩;unfold results;rw[List.mapM_toArray,Vf,Sem.run_map]
 grind[Result.andThen,Sem.run_pure]
theorem Qs{l:ResultVar}{x:A}(h:fn.results= #[l])(k:QbZ P env H l x):Qa6 P fn env H x:=by
 intro g f σ N a w r;obtain⟨vs,e,d⟩:=(QfR.cons k QfR.nil).run r;obtain⟨v,_,rfl,d,rfl⟩:=d;refine⟨v,?_,d⟩;unfold results;rw[h,show #[l]=[l].toArray from rfl];rw[List.mapM_toArray,Vf,Sem.run_map]
 erw [e]
 rfl
end
mutual
def Qgz:A->Bool
 |.bool _=>true
 |.int _ _=>true
 |.str _=>true
 |.agg cs=>Qeb cs
 |_=>false
def Qeb:List A->Bool
 |[]=>true
 |a::r=>Qgz a&&Qeb r
end
mutual
def QI:A->Value
 |.bool b=>.bool b
 |.int k n=>.int k n
 |.str s=>.string ⟨s.toArray⟩
 |.agg cs=>.agg (Yt cs).toArray
 |_=>.bool false
def Yt:List A->List Value
 |[]=>[]
 |a::r=>QI a::Yt r
end
mutual
theorem VR.val{ro:Nat->Prop}{σ:Sig}{w:World}:∀{a:A} {v:Value},Qgz a=true->VR ro σ w a v->v=QI a
 |.bool _,_,_,h=>h
 |.int _ _,_,_,h=>h
 |.str _,_,_,h=>h
 |.agg cs,v,hs,h=>by
  obtain⟨l,rfl,h⟩:=h;rw[QI,LR.val hs h]
theorem LR.val{ro:Nat->Prop}{σ:Sig}{w:World}:∀{az:List A} {l:List Value},Qeb az=true->LR ro σ w az l->l=Yt az
 |[],l,_,h=>h
 |a::r,l,hs,h=>by
  obtain⟨v,l',rfl,h1,h2⟩:=h;simp only[Qeb,XP]at hs;rw[Yt,VR.val hs.1 h1,LR.val hs.2 h2]
end
mutual
theorem Qdm{ro:Nat->Prop}{σ:Sig}{w:World}:∀{a:A},Qgz a=true->VR ro σ w a (QI a)
 |.bool _,_=>rfl
 |.int _ _,_=>rfl
 |.str _,_=>rfl
 |.agg cs,hs=>⟨Yt cs,rfl,Qdz hs⟩
theorem Qdz{ro:Nat->Prop}{σ:Sig}{w:World}:∀{az:List A},Qeb az=true->LR ro σ w az (Yt az)
 |[],_=>rfl
 |a::r,hs=>by
  simp only[Qeb,XP]at hs;exact⟨_,_,rfl,Qdm hs.1,Qdz hs.2⟩
end
open Go.MapKept
structure YX (P:Program) (kt:TypeId) {α:Type} (ek:α->A):Prop where
 scl:∀x,Qgz (ek x)=true
 inj:∀x y,QI (ek x)=QI (ek y)->x=y
 check:∀(w:World) em x,(Instr.checkKey em 10000 kt (QI (ek x))).run P w=.ok () w
 find:∀(w:World) x (es:List MapEntry),(∀e∈es,∃y,e.key=QI (ek y))->
  ((Instr.findKey kt (QI (ek x)) es).run P w=.ok none w/\ ∀e∈es,e.key≠QI (ek x))\/ ∃j e,(Instr.findKey kt (QI (ek x)) es).run P w=.ok (some (j,e.val)) w/\es[j]?=some e/\e.key=QI (ek x)
 stays:∀(w:World) x,(Instr.keyThatStays (QI (ek x)) (QI (ek x))).run P w=.ok (QI (ek x)) w
section
variable {P:Program} {kt:TypeId}
theorem YX.plain{α:Type}{a:α->A}{d:TypeDesc}(i:P.underlying kt=some d)(e:∀x,IsKey d (QI (a x)))(g:∀x,Qgz (a x)=true)(hi:∀x y,QI (a x)=QI (a y)->x=y):YX P kt a:=by
 refine⟨g,hi,λw f x=>run_checkKey i (e x) f 9999,λw x j h=>?_,λw x=>run_keyThatStays (e x)⟩
 grind[findNow_spec,run_findKey]
theorem YX.int{q:IntKind}(hk:P.underlying kt=some (.int q)):YX P kt (λn=>A.int q n):=
 YX.plain hk (λx=>by rfl) (λ_=>rfl) (λx y h=>by simpa[QI]using h)
theorem YX.str(hk:P.underlying kt=some .string):YX P kt A.str:=
 YX.plain hk (λx=>by simp[IsKey,QI]) (λ_=>rfl) (λx y h=>by simpa[QI]using h)
theorem YX.struct{α:Type}[DecidableEq α]{a:α->A}{fs:Array Field}(G:P.underlying kt=some (.struct fs))(p:∀x,Qgz (a x)=true)(hi:∀x y,QI (a x)=QI (a y)->x=y)
  (t:∀(w:World) em x,(Instr.checkKey em 10000 kt (QI (a x))).run P w=.ok () w)
  (he:∀(w:World) x y,(Op.equal kt (QI (a x)) (QI (a y))).run P w=.ok (decide (x=y)) w)(E:∀x,Instr.sameBits 10000 (QI (a x)) (QI (a x))=true):YX P kt a:=by
 refine⟨p,hi,t,λw x d q=>?_,λw x=>by simp[Instr.keyThatStays,E x]⟩
 .have h:∀(d:List MapEntry) (i:Nat),(∀e∈d,∃y,e.key=QI (a y))->
    ((Instr.findAsking kt (QI (a x)) d i).run P w=.ok none w/\ ∀e∈d,e.key≠QI (a x))\/
    ∃j e,(Instr.findAsking kt (QI (a x)) d i).run P w=.ok (some (i+j,e.val)) w/\d[j]?=some e/\e.key=QI (a x):=by
   intro d
   induction d with
   |nil=>simp_all[Instr.findAsking]
   |cons e d B=>
    intro i f;obtain⟨y,k⟩:=f e (by simp);have l:=he w x y;by_cases g:x=y
    .subst g;exact .inr ⟨0,e,by simp[Instr.findAsking,k,l],rfl,k⟩
    .rcases B (i+1) (λz n=>f z (by simp[n]))with⟨m,s⟩|⟨j,r,m,s,u⟩
     .refine .inl ⟨by simp[Instr.findAsking,k,l,g,m],λz n=>?_⟩
      grind
     .exact .inr ⟨j+1,r,by simp[Instr.findAsking,k,l,g,m,Nat.add_assoc,Nat.add_comm 1 j],by grind,u⟩
  cases d with
  |nil=>simp_all[Instr.findKey,run_underlying,Instr.findNow]
  |cons e d=>
   have F:Instr.findNow (.struct fs) (QI (a x)) (e::d) 0=none:=by
    rfl
   have H:(Instr.findKey kt (QI (a x)) (e::d)).run P w=(Instr.findAsking kt (QI (a x)) (e::d) 0).run P w:=by
    simp_all[Instr.findKey,run_underlying]
   grind
def Qca{α β:Type}[DecidableEq α](l:List (α×β))(k:α):Option β:=(l.find? λp=>decide (p.1=k)).map (·.2)
def Qae{α β:Type}[DecidableEq α](l:List (α×β))(k:α)(v:β):List (α×β):=bif l.any λp=>decide (p.1=k)then l.map λp=>bif decide (p.1=k)then(p.1,v)else p else l++[(k,v)]
def Ya{α β:Type}[DecidableEq α](l:List (α×β))(k:α)(z:β):β:=(Qca l k).getD z
def QaE{α β:Type}[DecidableEq α](l:List (α×β))(k:α):Bool:=l.any λp=>decide (p.1=k)
def Qh{α β:Type}(ek:α->A)(ev:β->A)(l:List (α×β)):List (A×A):=l.map λp=>(ek p.1,ev p.2)
section
variable {α β:Type} [DecidableEq α] {ek:α->A} {ev:β->A} {ro:Nat->Prop} {σ:Sig} {w:World} (K:YX P kt ek)
include K
theorem QeH:∀{l:List (α×β)} {es:List MapEntry},ER ro σ w (Qh ek ev l) es->es.map (·.key)=l.map λp=>QI (ek p.1)
 |[],es,h=>by cases(show es=[]from h);rfl
 |p::l,es,h=>by
  obtain⟨e,l',rfl,h1,h2,h3⟩:=h;simp only[Vc];rw[VR.val (K.scl _) h1,QeH h3]
theorem Qfr{l:List (α×β)}{es:List MapEntry}(h:ER ro σ w (Qh ek ev l) es):∀e∈es,∃y,e.key=QI (ek y):=by
 intro e a;have:e.key∈es.map (·.key):=Vr a;rw[QeH K h]at this
 grind
theorem ER.find:∀{l:List (α×β)} {es:List MapEntry},ER ro σ w (Qh ek ev l) es->∀(x:α),(es.map (·.key)).Nodup->
  ((∀e,e∈es->e.key≠QI (ek x))->Qca l x=none/\QaE l x=false)/\
  (∀(j:Nat) (e:MapEntry),es[j]?=some e->e.key=QI (ek x)->QaE l x=true/\ ∃v,Qca l x=some v/\VR ro σ w (ev v) e.val)
 |[],es,h,x,_=>by
  cases(show es=[]from h);exact⟨λ_=>⟨rfl,rfl⟩,(by simp)⟩
 |p::l,es,h,x,hn=>by
  obtain⟨e0,l',rfl,h1,h2,h3⟩:=h;have hk:=VR.val (K.scl _) h1;simp[Vc,List.nodup_cons]at hn;obtain⟨a1,a2⟩:=ER.find h3 x hn.2;by_cases hp:p.1=x
  .grind[QaE,Qca]
  .have e1:Qca (p::l) x=Qca l x:=by simp[Qca,hp]
   have f:QaE (p::l) x=QaE l x:=by simp[QaE,hp]
   constructor
   .grind
   .intro j e a d;cases j with
    |zero=>
     simp[Xy,Option.some.injEq]at a;subst a;exact absurd (K.inj _ _ (hk.symm.trans d)) hp
    |succ j=>grind
end
end
end Go.Sw
namespace Go.Sw
open Go.MapKept
section
variable {P:Program} {o:Oper} {env:Env} {H:Qc}
theorem QQ{T:Nat}(e:o.op=.makeMap T none:=by exact rfl):OpH P o env H (.map H.length) (H++[.map []]):=by
 intro f d σ N a w r;refine⟨.map (some w.heap.size),w.alloc (.map #[] 0),d,[some w.heap.size],?_,⟨w.heap.size,?_,rfl⟩,r.sim.alloc ⟨#[],0,Yf _ _,rfl,by simp,by simp,by simp⟩,Qj.alloc _ r.sim.roLt r.sim.frLt⟩
 .simp_all[execOp,Instr.makeMap]
 .rw[<- r.sim.len];simp
section
variable {T kt et:Nat} {α β:Type} [DecidableEq α] {ek:α->A} {ev:β->A} {x y:Operand} {i:Nat} {l:List (α×β)} {k:α} {z0:β} {z:Value}
theorem QbC(K:YX P kt ek){ro:Nat->Prop}{w:World}(m:P.underlying T=some (.map kt et))(u:∀w,(zeroValue et).run P w=.ok z w)(i:ZR (ev z0) z){b a:Nat}{es:Array MapEntry}
  (n:w.heap[b]?=some (.map es a))(he:ER ro [] w (Qh ek ev l) es.toList)(r:(es.toList.map (·.key)).Nodup):
  ∃v,(∀ck,(Instr.lookup T (.map (some b)) (QI (ek k)) ck).run P w=.ok (if ck then .tuple #[v,.bool (QaE l k)]else v) w)/\VR ro [] w (ev (Ya l k z0)) v:=by
 obtain⟨s,t⟩:=ER.find K he k r;rcases K.find w k es.toList (Qfr K he)with⟨d,h⟩|⟨j,e,d,h,p⟩
 .obtain⟨f,g⟩:=s h;refine⟨z,λck=>?_,?_⟩
  .simp[Instr.lookup,Vf,run_underlying m,Result.andThen,MapKept.run_getObj_map n,Vg,K.check,d,u,g]
  .rw[Ya,f];exact i _ _ _
 .obtain⟨f,v,g,q⟩:=t j e h p;refine⟨e.val,λck=>?_,?_⟩
  .simp[Instr.lookup,Vf,run_underlying m,Result.andThen,MapKept.run_getObj_map n,Vg,K.check,d,f]
  .rw[Ya,g];exact q
theorem QL{zv:β}(K:YX P kt ek)(h:some (Ya l k z0)=some zv)(p:P.underlying T=some (.map kt et))(m:∀w,(zeroValue et).run P w=.ok z w)(d:ZR (ev z0) z)
  (Q:o.op=.lookup T x y false:=by exact rfl)(hx:opA env x=.map i:=by exact rfl)(hH:H[i]?=some (.map (Qh ek ev l)):=by exact rfl)(hy:opA env y=ek k:=by exact rfl):OpV P o env H (ev zv):=by
 obtain rfl:=XS h;intro B F σ N a w r;have g:=Ql r x;rw[hx]at g;obtain⟨b,u,J⟩:=g;have f:=Ql r y;rw[hy]at f;have L:=VR.val (K.scl _) f;obtain⟨G,e,n,t,M,E,j⟩:=r.sim.blk i _ _ u hH;obtain⟨v,O,s⟩:=QbC K p m d n t j;refine⟨v,?_,s.mono ⟨λ_ q=>q,λ_ _=>rfl,λ_ _ q=>q,(by simp)⟩⟩
 simp_all[execOp]
theorem QaW{zv:β}(K:YX P kt ek)(h:some (Ya l k z0)=some zv)(p:P.underlying T=some (.map kt et))(m:∀w,(zeroValue et).run P w=.ok z w)(d:ZR (ev z0) z)
  (Q:o.op=.lookup T x y true:=by exact rfl)(hx:opA env x=.map i:=by exact rfl)(hH:H[i]?=some (.map (Qh ek ev l)):=by exact rfl)(hy:opA env y=ek k:=by exact rfl):OpV P o env H (.tup [ev zv,.bool (QaE l k)]):=by
 obtain rfl:=XS h;intro B F σ N a w r;have g:=Ql r x;rw[hx]at g;obtain⟨b,u,J⟩:=g;have f:=Ql r y;rw[hy]at f;have L:=VR.val (K.scl _) f;obtain⟨G,e,n,t,M,E,j⟩:=r.sim.blk i _ _ u hH;obtain⟨v,O,s⟩:=QbC K p m d n t j;refine⟨.tuple #[v,.bool (QaE l k)],?_,[v,.bool (QaE l k)],rfl,v,_,rfl,s.mono ⟨λ_ q=>q,λ_ _=>rfl,λ_ _ q=>q,(by simp)⟩,_,_,rfl,rfl,rfl⟩
 simp_all[execOp]
theorem Qg7{zv:β}(K:YX P kt ek)(h:some (Ya l k z0)=some zv)(p:P.underlying T=some (.map kt et))(m:∀w,(zeroValue et).run P w=.ok z w)(d:ZR (ev z0) z)
  (Q:o.op=.lookup T x y false:=by exact rfl)(hx:opA env x=.map i:=by exact rfl)(hH:H[i]?=some (.fmap (Qh ek ev l)):=by exact rfl)(hy:opA env y=ek k:=by exact rfl):OpV P o env H (ev zv):=by
 obtain rfl:=XS h;intro B F σ N a w r;have g:=Ql r x;rw[hx]at g;obtain⟨b,u,J⟩:=g;have f:=Ql r y;rw[hy]at f;have L:=VR.val (K.scl _) f;obtain⟨_,G,e,n,t,M,E,j⟩:=r.sim.blk i _ _ u hH;obtain⟨v,O,s⟩:=QbC K p m d n t j;refine⟨v,?_,s.mono ⟨λ_ q=>q,λ_ _=>rfl,λ_ _ q=>q,(by simp)⟩⟩
 simp_all[execOp]
theorem ER.append{ro:Nat->Prop}{σ:Sig}{w:World}:∀{l m:List (A×A)} {es fs:List MapEntry},ER ro σ w l es->ER ro σ w m fs->ER ro σ w (l++m) (es++fs)
 |[],m,es,fs,h,k=>by cases(show es=[]from h);exact k
 |p::l,m,es,fs,h,k=>by
  obtain⟨e,l',rfl,h1,h2,h3⟩:=h;exact⟨e,l'++fs,rfl,h1,h2,ER.append h3 k⟩
theorem ER.put(K:YX P kt ek){ro:Nat->Prop}{w w':World}{v:β}{val:Value}(a:Ext ro [] w ro [] w')(d:VR ro [] w (ev v) val):∀{l:List (α×β)} {es:List MapEntry} {j:Nat} {e:MapEntry},ER ro [] w (Qh ek ev l) es->
  (es.map (·.key)).Nodup->es[j]?=some e->e.key=QI (ek k)->
  ER ro [] w' (Qh ek ev (l.map λp=>bif decide (p.1=k)then(p.1,v)else p)) (es.modify j λe=>{e with key:=QI (ek k),val:=val})
 |[],es,j,e,h,hn,he,hk=>by cases(show es=[]from h);simp at he
 |p::l,es,j,e,h,hn,he,hk=>by
  obtain⟨e0,l',rfl,h1,h2,h3⟩:=h;have hk0:=VR.val (K.scl _) h1;simp only[Vc,List.nodup_cons]at hn;cases j with
  |zero=>
   simp[Xy,Option.some.injEq]at he;subst he;have hp:=K.inj _ _ (hk0.symm.trans hk);have e1:Qh ek ev ((p::l).map λp=>bif decide (p.1=k)then(p.1,v)else p)=(ek p.1,ev v)::Qh ek ev l:=by
    simp only[Qh,Vc,hp,decide_true,Vh,List.map_map,List.cons.injEq,true_and];apply List.map_congr_left;intro q f;have:q.1≠k:=by
     intro e;refine hn.1 ?_;rw[QeH K h3];exact Xe.2 ⟨q,f,by rw[e, <- hp,hk0]⟩
    simp[this]
   rw[e1];refine⟨_,l',rfl,?_,d.mono a,h3.mono a⟩;rw[<- hp];exact Qdm (K.scl _)
  |succ j=>
   have hp:p.1≠k:=by
    intro q;refine hn.1 (Xe.2 ⟨e,Vs he,?_⟩);rw[hk,hk0,q]
   have e1:Qh ek ev ((p::l).map λp=>bif decide (p.1=k)then(p.1,v)else p)=(ek p.1,ev p.2)::Qh ek ev (l.map λp=>bif decide (p.1=k)then(p.1,v)else p):=by
    simp[Qh,hp]
   rw[e1];exact⟨_,_,rfl,h1.mono a,h2.mono a,ER.put K a d h3 hn.2 he hk⟩
theorem QM{m:List (α×β)}(K:YX P kt ek){v:β}{s:Operand}(hm:some (Qae l k v)=some m)(hd:Yc (ev v)=true)(hT:P.underlying T=some (.map kt et))
  (ho:o.op=.mapUpdate T x y s:=by exact rfl)(hx:opA env x=.map i:=by exact rfl)(hH:H[i]?=some (.map (Qh ek ev l)):=by exact rfl)(hy:opA env y=ek k:=by exact rfl)(hv:opA env s=ev v:=by exact rfl):
  OpU P o env H (H.set i (.map (Qh ek ev m))):=by
 obtain rfl:=XS hm;intro fr Y σ N a w r;have h1:=Ql r x;rw[hx]at h1;obtain⟨b,V,q2⟩:=h1;have h2:=Ql r y;rw[hy]at h2;have h3:=VR.val (K.scl _) h2;have h4:=Ql r s;rw[hv]at h4;have G:VR Y [] w (ev v) (a.eval s):=VR.data hd h4;obtain⟨u,d,L,O,p3,p4,X⟩:=r.sim.blk i _ _ V hH;obtain⟨f1,f2⟩:=ER.find K O k X;have F:∀(obj:Obj) y,w.shape? b=some y->({w with heap:=w.heap.setIfInBounds b obj}:World).shape? b=some y:=by
  grind[World.shape?]
 rcases K.find w k u.toList (Qfr K O)with⟨Q,J⟩|⟨j,e,Q,J,M⟩
 .obtain⟨u1,u2⟩:=f1 J;have hl:Qae l k v=l++[(k,v)]:=by
   unfold Qae;rw[show(l.any λp=>decide (p.1=k))=false from u2];rfl
  have n:=r.sim.set (x':=.map (Qh ek ev (Qae l k v))) (obj:=.map (u.push {key:=QI (ek k),val:=a.eval s,born:=d}) (d+1)) V hH rfl (F _)
   (λe R=>⟨_,_,R,by
    rw[hl,Qh,Xf,Array.toList_push];exact(O.mono ⟨e.sub,e.keep,e.shape,λ_ _ q=>q⟩).append ⟨_,_,rfl,Qdm (K.scl _),G.mono ⟨e.sub,e.keep,e.shape,λ_ _ q=>q⟩,rfl⟩,by
    grind,by
    grind,by
    grind⟩)
  refine⟨_,Y,[],?_,by grind,n.2⟩;simp only[execOp,ho,q2,h3,Vf,Instr.mapUpdate,run_underlying hT,Result.andThen,MapKept.run_getObj_map L,K.check,Q,MapKept.run_setObj_map _ L];rfl
 .obtain⟨u1,u2⟩:=f2 j e J M;have hl:Qae l k v=l.map λp=>bif decide (p.1=k)then(p.1,v)else p:=by
   unfold Qae;rw[show(l.any λp=>decide (p.1=k))=true from u1];rfl
  have hj:u[j]?=some e:=by grind
  have g:(u.modify j λe=>{e with key:=QI (ek k),val:=a.eval s}).toList=u.toList.modify j λe=>{e with key:=QI (ek k),val:=a.eval s}:=by simp
  have t:∀{γ:Type} (f:MapEntry->γ),(∀E,u.toList[j]?=some E->f {E with key:=QI (ek k),val:=a.eval s}=f E)->(u.toList.modify j λe=>{e with key:=QI (ek k),val:=a.eval s}).map f=u.toList.map f:=by
   intro γ f hf;apply List.ext_getElem?
   grind
  have n:=r.sim.set (x':=.map (Qh ek ev (Qae l k v))) (obj:=.map (u.modify j λe=>{e with key:=QI (ek k),val:=a.eval s}) d) V hH rfl (F _)
   (λW R=>⟨_,_,R,by
    rw[hl,g];exact ER.put K ⟨W.sub,W.keep,W.shape,λ_ _ q=>q⟩ G O X J M,by
    rw[g];intro E z;have:E.born∈(u.toList.modify j λe=>{e with key:=QI (ek k),val:=a.eval s}).map (·.born):=Vr z;rw[t (·.born) (λ_ _=>rfl)]at this;obtain⟨e2,h,h'⟩:=Xe.1 this;rw[<- h'];exact p3 e2 h,by
    rw[g,t (·.born) (λ_ _=>rfl)];exact p4,by
    rw[g,t (·.key) (λE z=>by rw[J]at z;cases z;exact M.symm)];exact X⟩)
  refine⟨_,Y,[],?_,by simpa using n.1,n.2⟩;have B:=K.stays w k;simp only[execOp,ho,q2,h3,Vf,Instr.mapUpdate,run_underlying hT,Result.andThen,MapKept.run_getObj_map L,K.check,Q,hj,Xi,Option.getD_some,M,B,MapKept.run_setObj_map _ L];rfl
theorem ER.length{ro:Nat->Prop}{σ:Sig}{w:World}:∀{l:List (A×A)} {es:List MapEntry},ER ro σ w l es->es.length=l.length
 |[],es,h=>by cases(show es=[]from h);rfl
 |p::l,es,h=>by
  obtain⟨e,l',rfl,_,_,h3⟩:=h;simp[ER.length h3]
theorem Qdt{c:Call}{n:Int}(j:P.underlying T=some (.map kt et))(m:(l.length:Int)=n)(p:o.op=.call c:=by exact rfl)(hc:c={callee:=.builtin .len,args:= #[x],argTypes:= #[T]}:=by exact rfl)
  (hx:opA env x=.map i:=by exact rfl)(hH:H[i]?=some (.map (Qh ek ev l)):=by exact rfl):OpV P o env H (.int .i64 n):=by
 intro y E σ N a w r;have f:=Ql r x;rw[hx]at f;obtain⟨b,t,h⟩:=f;obtain⟨g,d,u,s,F,B,z⟩:=r.sim.blk i _ _ t hH;have q:=s.length;refine⟨.int .i64 n,?_,rfl⟩;have e:goInt g.size=.int .i64 n:=by
  have:g.size=l.length:=by rw[<- Array.length_toList,q];simp[Qh]
  rw[this, <- m];rfl
 subst hc;have k:=h;generalize a.eval=ρ at*;rw[<- e];simp[execOp,p,h,resolve,invoke,Go.builtin,Builtin.len_,run_underlying j,MapKept.run_getObj_map u,go_sem]
end
end
end Go.Sw
namespace Go.Sw
open Go.ChangeMaps (setBlock)
section
variable {P:Program} {o:Oper} {env:Env} {H:Qc} {h0 N:Nat} {Q:Qx}
def OpE(P:Program)(o:Oper)(env:Env)(H:Qc)(K:A->Qc->Prop):Prop:=
 ∀fr ro σ N a w,Rel fr ro σ H env N a w->∃x H' v w' ro' τ,K x H'/\(execOp a.eval o).run P w=.ok (.value v) w'/\VR ro' (σ++τ) w' x v/\
  Sim fr ro' (σ++τ) H' w'/\Qj fr ro w ro' w'
theorem QfO{all:Array Oper}{l:List Oper}{d:Nat}{K:A->Qc->Prop}(m:h0<=H.length)(hg:Qt all o env true)(z:o.dst=some d)(F:Nat.blt d N=true)
  (i:OpE P o env H K)(k:∀x H',K x H'->WO P h0 N all l (up env d x) H' Q):WO P h0 N all (o::l) env H Q:=by
 intro E fr u σ a w r hrd;obtain⟨x,H',v,j,f,τ,y,t,B,n,g⟩:=i fr u σ N a w r;refine YO (Yo hg r) t ?_;simp[z];have h:d<N:=by simp_all
 have p:Rel fr f (σ++τ) H' (up env d x) N {a with tmps:=a.tmps.setIfInBounds d v} j:=
  ⟨n,VR.up (fr:=fr) (λs=>(r.env s).mono (g.ext σ τ)) (by rw[r.size];exact h) B,by simpa using r.size,r.defers.keep g⟩
 refine Q1 (λe a w q=>q.step g (QB ?_)) _ _ _ (k x H' y E fr f (σ++τ) _ j p (hrd.to g λ_ q=>q));rw[r.sim.len];exact m
theorem Sim.shutMap{fr ro:Nat->Prop}{σ:Sig}{w:World}(s:Sim fr ro σ H w){i b:Nat}{es:List (A×A)}(hσ:σ[i]?=some (some b))(p:H[i]?=some (.map es)):
  Sim fr (λc=>ro c\/c=b) σ (H.set i (.fmap es)) w:=by
 have hown:=s.own i b _ hσ p rfl;have ext:Ext ro σ w (λc=>ro c\/c=b) σ w:=⟨λ_ q=>.inl q,λ_ _=>rfl,λ_ _ q=>q,λ_ _ q=>q⟩;have a:∀(j:Nat) (v:Blk),(H.set i (.fmap es))[j]?=some v->v.live=true->j≠i/\H[j]?=some v:=by
  intro j v h E;by_cases e:j=i
  .subst e;rw[Xb]at h
   grind[Blk.live]
  grind
 have n:∀(j:Nat) (v:Blk),(H.set i (.fmap es))[j]?=some v->v.holds=true->H[j]?=some v:=by
  intro j v h E;by_cases e:j=i
  .subst e;rw[Xb]at h;simp only[if_true]at h;split at h
   .cases h;cases E
   .simp at h
  grind
 refine⟨by rw[XW];exact s.len,s.roOk.to (λ_ q=>.inl q) (λ_ _=>rfl) ?_,s.frLt,?_,?_,?_,?_,s.hidTo (· = ·) QU (XM _) (λj d x c L M N O=>O.elim id λq=>((s.hid j d x c L M N).ne i b _ hσ p rfl q).elim) (by simp) (by grind)⟩
 .rintro c (q|rfl)
  .exact s.roLt c q
  omega
 .rintro c (q|rfl)
  .exact s.roFr c q
  grind
 .intro j c v g f m;obtain⟨e,f⟩:=a j v f m;obtain⟨r,t,u⟩:=s.own j c v g f m;refine⟨r,?_,u⟩;rintro(q|rfl)
  .exact t q
  .exact e (s.inj j i c v _ g hσ f p m rfl)
 .intro j B c v F g f m J z G;exact s.inj j B c v F g f (a j v m z).2 (a B F J G).2 z G
 .intro j y v g f;by_cases e:j=i
  .subst e;rw[hσ]at g;cases g;rw[Xb]at f;simp only[if_true]at f;split at f
   .cases f;obtain⟨l,k,r,t,u⟩:=s.blk j _ _ hσ p;exact⟨.inr rfl,l,k,r,t.mono ext.nil,u⟩
   .simp at f
  .rw[XJ (λq=>e q.symm)]at f;exact(s.blk j y v g f).keep ext (λ_ _ _=>rfl) (λ_ _ _ _=>rfl)
section
variable {T kt et i:Nat} {x:Operand} {es:List (A×A)}
theorem OpH.range(t:P.underlying T=some (.map kt et))(B:o.op=.range T x:=by exact rfl)(hx:opA env x=.map i:=by exact rfl)(hH:H[i]?=some (.map es):=by exact rfl):
  OpH P o env H (.ptr H.length 0) (H.set i (.fmap es)++[.iter none es]):=by
 intro n j σ N a w r;have p:=Ql r x;rw[hx]at p;obtain⟨b,k,F⟩:=p;obtain⟨l,d,s,z,y,u,G⟩:=r.sim.blk i _ _ k hH;have E:=(r.sim.own i b _ k hH rfl).1;have m:=r.sim.shutMap k hH;have f:Qj n j w (λc=>j c\/c=b) w:=QR (λ_ q=>.inl q);have g:Qj n (λc=>j c\/c=b) w (λc=>j c\/c=b) (w.alloc (.mapIter (some b) d #[] d)):=Qj.alloc _ m.roLt m.frLt;have ext0:=(f.trans g).ext0 [];refine⟨.pointer (some ⟨w.heap.size,0,none⟩),w.alloc (.mapIter (some b) d #[] d),_,[some w.heap.size],?_,⟨w.heap.size,?_,rfl⟩,
  m.alloc (.inr ⟨b,l,d, #[],l.toList,Yf _ _,.inr rfl,by rw[QZ _ _ _ E];exact s,y,u,?_,z.mono ext0,λ_ h=>by cases h⟩),f.trans g⟩
 .simp only[execOp,B,F,Instr.range,Vf,run_underlying t,Result.andThen,MapKept.run_getObj_map s];rfl
 .rw[<- r.sim.len];simp
 .have:l.toList.filter (λe=> !#[].contains e.born)=l.toList:=by simp
  rw[this]
theorem QfU(n:P.underlying T=some (.map kt et))(y:o.op=.range T x:=by exact rfl)(hx:opA env x=.map i:=by exact rfl)(hH:H[i]?=some (.fmap es):=by exact rfl):
  OpH P o env H (.ptr H.length 0) (H++[.iter none es]):=by
 intro p k σ N a w r;have j:=Ql r x;rw[hx]at j;obtain⟨b,u,B⟩:=j;obtain⟨f,l,d,m,t,s,q,E⟩:=r.sim.blk i _ _ u hH;have z:=r.sim.roLt b f;have g:Qj p k w k (w.alloc (.mapIter (some b) d #[] d)):=Qj.alloc _ r.sim.roLt r.sim.frLt;have ext0:=g.ext0 [];refine⟨.pointer (some ⟨w.heap.size,0,none⟩),w.alloc (.mapIter (some b) d #[] d),_,[some w.heap.size],?_,⟨w.heap.size,?_,rfl⟩,
  r.sim.alloc (.inr ⟨b,l,d, #[],l.toList,Yf _ _,f,by rw[QZ _ _ _ z];exact m,s,q,?_,t.mono ext0,λ_ h=>by cases h⟩),g⟩
 .simp only[execOp,y,B,Instr.range,Vf,run_underlying n,Result.andThen,MapKept.run_getObj_map m];rfl
 .rw[<- r.sim.len];simp
 .have:l.toList.filter (λe=> !#[].contains e.born)=l.toList:=by simp
  rw[this]
theorem ER.mem{ro:Nat->Prop}{σ:Sig}{w:World}:∀{es:List (A×A)} {l:List MapEntry},ER ro σ w es l->∀e∈l,∃x es' l',(x::es').Perm es/\(e::l').Perm l/\VR ro σ w x.1 e.key/\VR ro σ w x.2 e.val/\ER ro σ w es' l'
 |[],l,h,e,he=>by cases(show l=[]from h);cases he
 |y::es,l,h,e,he=>by
  obtain⟨e0,l',rfl,h1,h2,h3⟩:=h;rcases XY.1 he with rfl|he
  .exact⟨y,es,l',.refl _,.refl _,h1,h2,h3⟩
  .obtain⟨x,es',l'',p1,p2,v1,v2,h4⟩:=ER.mem h3 e he;exact⟨x,y::es',e0::l'',(List.Perm.swap _ _ _).trans (p1.cons _),(List.Perm.swap _ _ _).trans (p2.cons _),v1,v2,⟨e0,l'',rfl,h1,h2,h4⟩⟩
theorem Qff:∀{l:List MapEntry},(l.map (·.born)).Nodup->∀a∈l,∀b∈l,a.born=b.born->a=b
 |[],_,a,ha,_,_,_=>by cases ha
 |c::l,hn,a,ha,b,hb,hab=>by
  simp[Vc,List.nodup_cons]at hn;rcases XY.1 ha with ea|ha'<;>rcases XY.1 hb with eb|hb'
  .rw[ea,eb]
  .grind
  .grind
  .exact Qff hn.2 a ha' b hb' hab
def NextK(H:Qc)(i:Nat)(cur:Option (A×A))(es:List (A×A))(v:A)(H':Qc):Prop:=
 (es=[]/\v=.tup [.bool false]/\H'=H)\/ ∃e es',(e::es').Perm es/\v=.tup [.bool true,e.1,e.2]/\H'=H.set i (.iter (some e) es')
theorem OpE.next{J:Option (A×A)}(ho:o.op=.next x false:=by exact rfl)(hx:opA env x=.ptr i 0:=by exact rfl)(hH:H[i]?=some (.iter J es):=by exact rfl):
  OpE P o env H (NextK H i J es):=by
 intro fr u σ N a w r;have h1:=Ql r x;rw[hx]at h1;obtain⟨b,q1,q2⟩:=h1;have k:∀(v:Value) (g:World),g.heap=w.heap->g.os=w.os->g.tape=w.tape->g.output=w.output->w.drawn<=g.drawn->Sim fr u (σ++[]) H g/\Qj fr u w u g:=by
  intro v g V e2 e3 e4 e5;exact⟨by simpa using r.sim.heap V,Qj.heap V e2 e3 e4 e5⟩
 rcases r.sim.blk i _ _ q1 hH with⟨rfl,rfl,p⟩|⟨m,l,f,d,left,p1,p2,p3,p4,p5,p6,p7,p8⟩
 .refine⟨_,_,.tuple #[.bool false],w,u,[],.inl ⟨rfl,rfl,rfl⟩,?_,⟨_,rfl,_,_,rfl,rfl,rfl⟩,k (.bool false) w rfl rfl rfl rfl (XM _)⟩;generalize a.eval=ρ at*;simp only[execOp,ho,q2,Instr.next,Vf,getObj,Sem.run,p,Result.andThen];rfl
 .have aa:(leftOf l d).toList=l.toList.filter λe=> !d.contains e.born:=by simp[leftOf]
  have n:left.Perm (leftOf l d).toList:=by grind
  rcases run_next_at (P:=P) w o.type b m f f d l f p1 p3 p4 (XM _)with⟨g1,g2⟩|⟨e,g1,g,g2,g3⟩
  .have Y:left=[]:=by
    have:left.length=0:=by rw[n.length_eq];omega
    grind
   subst Y;have ab:es=[]:=by
    have:=p7.length
    grind
   refine⟨_,_,.tuple #[.bool false],w,u,[],.inl ⟨ab,rfl,rfl⟩,?_,⟨_,rfl,_,_,rfl,rfl,rfl⟩,k (.bool false) w rfl rfl rfl rfl (XM _)⟩
   simp_all[execOp]
  .have he:e∈left:=n.mem_iff.2 g1;have L:e∈l.toList:=by grind
   obtain⟨y,R,M,k1,k2,v1,v2,k3⟩:=p7.mem e he;have s:g.heap=w.heap/\g.os=w.os/\g.tape=w.tape/\g.output=w.output/\w.drawn<=g.drawn:=by
    rcases g2 with rfl|rfl
    .simp
    .exact⟨rfl,rfl,rfl,rfl,Nat.le_succ _⟩
   obtain⟨s1,F⟩:=k (.bool false) g s.1 s.2.1 s.2.2.1 s.2.2.2.1 s.2.2.2.2;rw[X9]at s1;have ad:b≠m:=by
    grind
   have B:=s1.set (x':=.iter (some y) R) (obj:=.mapIter (some m) f (d.push e.born) f) q1 hH rfl
    (λz G=>by
     grind[World.shape?])
    (λt W=>.inr ⟨m,l,f,d.push e.born,M,W,t.sub _ p2,by
      grind,p4,p5,by
      have X:(l.toList.filter λe=> !d.contains e.born).Nodup:=by
       have:l.toList.Nodup:=List.Pairwise.of_map _ (λa b h q=>h (congrArg _ q)) p5;exact this.filter _
      have hp:(e::M).Perm (l.toList.filter λe=> !d.contains e.born):=k2.trans p6;have Q:(e::M).Nodup:=hp.nodup_iff.2 X;have V:(l.toList.filter λE=> !(d.push e.born).contains E.born)=(l.toList.filter λe=> !d.contains e.born).filter λE=> !decide (E.born=e.born):=by
       rw[List.filter_filter];apply List.filter_congr;intro z _;simp[Array.contains_push,Bool.and_comm]
      rw[V];have h2:=hp.filter (λE=> !decide (E.born=e.born));have e2:(e::M).filter (λE=> !decide (E.born=e.born))=M:=by
       rw[List.filter_cons_of_neg (by simp),List.filter_eq_self];intro z G;have ac:z∈l.toList:=(Xd.1 (hp.mem_iff.1 (XX _ G))).1;simp only[Bool.not_eq_true',decide_eq_false_iff_not];intro hb;have:z=e:=by
        exact Qff p5 z ac e L hb
       subst this;exact(List.nodup_cons.1 Q).1 G
      rw[e2]at h2;exact h2,by
      have T:Ext u [] w u [] g:=F.ext0 [];exact(k3.mono T).mono ⟨t.sub,t.keep,t.shape,λ_ _ q=>q⟩,by
      intro z G;cases G;have T:Ext u [] w u [] g:=F.ext0 [];exact⟨e,L,by simp,(v1.mono T).mono ⟨t.sub,t.keep,t.shape,λ_ _ q=>q⟩,(v2.mono T).mono ⟨t.sub,t.keep,t.shape,λ_ _ q=>q⟩⟩⟩)
   have O:=F.trans B.2;have xt:=O.ext0 [];refine⟨_,_,.tuple #[.bool true,e.key,e.val],_,u,[],.inr ⟨y,R,k1,rfl,rfl⟩,?_,
    ⟨[.bool true,e.key,e.val],rfl,_,_,rfl,rfl,_,_,rfl,(v1.mono xt).mono ⟨λ_ q=>q,λ_ _=>rfl,λ_ _ q=>q,λj c q=>by simp at q⟩,_,_,rfl,(v2.mono xt).mono ⟨λ_ q=>q,λ_ _=>rfl,λ_ _ q=>q,λj c q=>by simp at q⟩,rfl⟩,by simpa using B.1,O⟩
   generalize a.eval=ρ at*;simp only[execOp,ho,q2,Vf,g3,Result.andThen,setBlock];rfl
theorem OpV.entry{e:A×A}(L:o.op=.entry x:=by exact rfl)(hx:opA env x=.ptr i 0:=by exact rfl)(hH:H[i]?=some (.iter (some e) es):=by exact rfl):OpV P o env H (.tup [e.1,e.2]):=by
 intro z O σ N a w r;have j:=Ql r x;rw[hx]at j;obtain⟨b,p,Q⟩:=j;rcases r.sim.blk i _ _ p hH with⟨_,h,_⟩|⟨m,l,d,g,left,E,J,R,B,t,F,G,k⟩
 .cases h
 .obtain⟨f,u,M,s,y⟩:=k e rfl;refine⟨.tuple #[f.key,f.val],?_,[f.key,f.val],rfl,_,_,rfl,s.mono ⟨λ_ q=>q,λ_ _=>rfl,λ_ _ q=>q,(by simp)⟩,_,_,rfl,y.mono ⟨λ_ q=>q,λ_ _=>rfl,λ_ _ q=>q,(by simp)⟩,rfl⟩;have n:l.find? (·.born==f.born)=some f:=by rw[<- Array.find?_toList];exact find_born f l.toList t u
  simp_all[execOp,Instr.entry,getObj,Sem.run]
end
end
end Go.Sw
namespace Go.Sw
def Qfz{S E B:Type}(stepE:S->E->Option (Ctl S B))(stepN:S->Option B):S->List E->Option B
 |s,[]=>stepN s
 |s,e::p=>match stepE s e with
  |some (.cont s')=>Qfz stepE stepN s' p
  |some (.done b)=>some b
  |none=>none
def Qce{E:Type}(x:E):List E->List (List E)
 |[]=>[[x]]
 |y::l=>(x::y::l)::(Qce x l).map (y:: ·)
def QdQ{E:Type}:List E->List (List E)
 |[]=>[[]]
 |x::l=>(QdQ l).flatMap (Qce x)
theorem Qde{E:Type}(x:E):∀(a b:List E),a++x::b∈Qce x (a++b)
 |[],[]=>by simp[Qce]
 |[],y::b=>by simp[Qce]
 |y::a,b=>by
  simp only[Vv,Qce,XY,Xe];exact .inr ⟨a++x::b,Qde x a b,rfl⟩
theorem QdP{E:Type}:∀(l p:List E),p.Perm l->p∈QdQ l
 |[],p,h=>by rw[List.perm_nil.1 h];simp[QdQ]
 |x::l,p,h=>by
  have hx:x∈p:=h.mem_iff.2 (by simp);obtain⟨a,b,rfl⟩:=List.append_of_mem hx;have h2:=(List.perm_cons x).1 ((List.perm_middle.symm).trans h);simp[QdQ,List.mem_flatMap];exact⟨a++b,QdP l _ h2,Qde x a b⟩
def anyP{E R:Type}[DecidableEq R](k:List E->Option R)(l:List E):Option R:=bif (QdQ l).all (λp=>decide (k p=k l))then k l else none
theorem QiY{E R:Type}[DecidableEq R]{k:List E->Option R}{l:List E}{r:R}(h:anyP k l=some r)(p:List E)(a:p.Perm l):k p=some r:=by
 unfold anyP at h;cases q:(QdQ l).all (λp=>decide (k p=k l))with
 |true=>
  simp_all[QdP]
 |false=>grind
def Qft{S E B:Type}(stepE:S->E->Option (Ctl S B))(stepN:S->Option B)(G:B->Prop)(s:S)(l:List E):Prop:=∀p,p.Perm l->∃b,Qfz stepE stepN s p=some b/\G b
section
variable {P:Program} {o:Oper} {env:Env} {H:Qc} {h0 N:Nat} {Q:Qx} {c:Code}
def Qbq(I:Env->Qc->Prop)(Q:Qx):Qx
 |.normal,env,H=>I env H
 |.exit id,env,H=>Q (.exit id) env H
 |.ret,env,H=>Q .ret env H
theorem Qig{I:Nat->Env->Qc->Prop}(body:∀n env H,I n env H->TC P h0 N c env H (Qbq (λenv H=>∃n',n'<n/\I n' env H) Q)){n:Nat}(B:I n env H):TC P h0 N (.loop c) env H Q:=by
 intro G j y σ a w r hrd b k cs hro hb hr;have F:∀m n env H fr1 ro1 σ1 a1 w1,n<m->I n env H->Rel fr1 ro1 σ1 H env N a1 w1->Qj j y w ro1 w1->σ1.take h0=σ.take h0->Grow j w a.defers fr1 a1.defers->
   ∃e h g,Qan h0 j y σ w N a.defers Q e h g/\ArrivesIn (Machine.fenced P (WF G)) P (lone (b.atR a1 (.code c::.inLoop c::k)) cs w1) b k cs e h g:=by
  intro m
  induction m with
  |zero=>omega
  |succ m W=>
   intro n env H fr1 ro1 σ1 a1 w1 hn B r1 ev1 t1 g1;obtain⟨e,h,g,E,d⟩:=body n env H B G fr1 ro1 σ1 a1 w1 r1 (hrd.to ev1 g1.sub) b (.inLoop c::k) cs hro hb hr;obtain⟨x,f,H',t,σ',p,u,s,L,Y,J,V⟩:=E;have l:=ev1.trans (Y.frMono g1.sub);have M:=g1.trans ev1.size V;have O:∀x,Q x f H'->ExR e x->Qan h0 j y σ w N a.defers Q e h g:=λx q q'=>⟨x,f,H',t,σ',p,q',q,L,l,J.trans t1,M⟩;cases e with
   |normal=>
    obtain rfl:x=.normal:=u;obtain⟨n',X,s⟩:=s;obtain⟨e2,T,R,z,i⟩:=W n' f H' p t σ' h g (by omega) s L l (J.trans t1) M;exact⟨e2,T,R,z,.of_steps (StepsIn.trans d (.one (fenced_calm hb hr rfl) stepR_inLoop)) i⟩
   |exit id=>
    obtain rfl:x=.exit id:=u;exact⟨_,h,g,O _ s rfl,.pass rfl (by simp) d⟩
   |ret=>
    obtain rfl:x=.ret:=u;exact⟨_,h,g,O _ s rfl,.pass rfl (by simp) d⟩
   |_=>exact u.elim
 obtain⟨e,h,g,E,d⟩:=F (n+1) n env H j y σ a w (Xk _) B r (Qj.refl _ _ _) rfl (Grow.refl _ _ _);exact⟨e,h,g,E,.of_steps (.one (fenced_calm hb hr rfl) stepR_loop) d⟩
section
variable {S E B:Type} {stepE:S->E->Option (Ctl S B)} {stepN:S->Option B} {G:B->Prop} (Es:S->Env) (Hp:S->List (A×A)->Qc) {enc:E->A×A}
def AtP(stepE:S->E->Option (Ctl S B))(stepN:S->Option B)(G:B->Prop)(enc:E->A×A)(h0 n:Nat)(env:Env)(H:Qc):Prop:=
 ∃s l,l.length=n/\Qft stepE stepN G s l/\Le h0 env H (Es s) (Hp s (l.map enc))
theorem Qif{s0:S}{l0:List E}(h:Qft stepE stepN G s0 l0)(hI:Le h0 env H (Es s0) (Hp s0 (l0.map enc)))
  (body:∀s l,Qft stepE stepN G s l->TC P h0 N c (Es s) (Hp s (l.map enc)) (Qbq (λenv H=>∃n',n'<l.length/\AtP Es Hp stepE stepN G enc h0 n' env H) Q)):TC P h0 N (.loop c) env H Q:=
 Qig (I:=AtP Es Hp stepE stepN G enc h0) (λn env H ⟨s,l,hn,ha,hle⟩=>by subst hn;exact Qm hle (body s l ha)) ⟨s0,l0,rfl,h,hI⟩
theorem QgH{α β:Type}{f:α->β}:∀{m g:List β},m.Perm g->∀{l:List α},g=l.map f->∃l':List α,l'.Perm l/\l'.map f=m:=by
 intro m g h
 induction h with
 |nil=>simp
 |cons x _ ih=>
  intro l d;cases l with
  |nil=>cases d
  |cons a l=>
   simp[Vc,List.cons.injEq]at d;obtain⟨l',e,i⟩:=ih d.2;exact⟨a::l',e.cons _,by grind⟩
 |swap x y m=>
  intro l d
  match l,d with
  |a::b::l,d=>
   exact⟨b::a::l,List.Perm.swap _ _ _,by grind⟩
 |trans _ _ ih1 ih2=>
  intro l d;obtain⟨p,e,i⟩:=ih2 d;obtain⟨n,k,j⟩:=ih1 i.symm;exact⟨n,k.trans e,j⟩
theorem Qic{all:Array Oper}{L:List Oper}{d i:Nat}{x:Operand}{q:Option (A×A)}{s:S}{l:List E}(u:Qft stepE stepN G s l)
  (z:∀b,stepN s=some b->G b->WO P h0 N all L (up env d (.tup [.bool false])) H Q)
  (y:∀e l' D,stepE s e=some D->(∀b,D=.done b->G b)->(l'.length<l.length/\ ∀s',D=.cont s'->Qft stepE stepN G s' l')->
   WO P h0 N all L (up env d (.tup [.bool true,(enc e).1,(enc e).2])) (H.set i (.iter (some (enc e)) (l'.map enc))) Q)
  (J:o.op=.next x false:=by exact rfl)(hx:opA env x=.ptr i 0:=by exact rfl)(hH:H[i]?=some (.iter q (l.map enc)):=by exact rfl)
  (hg:Qt all o env true:=by exact rfl)(hd:o.dst=some d:=by exact rfl)(hN:Nat.blt d N=true:=by exact rfl)(hh:Nat.ble h0 H.length=true:=by exact rfl):WO P h0 N all (o::L) env H Q:=by
 refine QfO (XL hh) hg hd hN (OpE.next J hx hH) ?_;rintro v H' (⟨n,rfl,rfl⟩|⟨e,F,n,rfl,rfl⟩)
 .have:=List.map_eq_nil_iff.1 n;subst this;obtain⟨b,k,j⟩:=u [] (.refl _);exact z b k j
 .obtain⟨B,k,j⟩:=QgH n rfl;cases B with
  |nil=>cases j
  |cons a l'=>
   obtain⟨rfl,rfl⟩:=j;have g:l'.length<l.length:=by rw[<- k.length_eq];simp
   have f:∀p,p.Perm l'->∃b,Qfz stepE stepN s (a::p)=some b/\G b:=λp r=>u _ ((r.cons a).trans k);cases m:stepE s a with
   |none=>
    obtain⟨b,h,_⟩:=f l' (.refl _);simp[Qfz,m]at h
   |some D=>
    refine y a l' D m ?_ ⟨g,?_⟩
    .obtain⟨w,h,t⟩:=f l' (.refl _)
     grind[Qfz]
    .rintro s' rfl p r;obtain⟨w,h,t⟩:=f p r;simp[Qfz,m]at h;exact⟨w,h,t⟩
theorem Qjt{s:S}{l l':List E}{D:Ctl S B}(e:some (Ctl.cont s)=some D)(hc:l'.length<l.length/\ ∀s',D=.cont s'->Qft stepE stepN G s' l')(h:Le h0 env H (Es s) (Hp s (l'.map enc))):
  Qbq (λenv H=>∃n',n'<l.length/\AtP Es Hp stepE stepN G enc h0 n' env H) Q .normal env H:=
 ⟨_,hc.1,s,l',rfl,(by grind),h⟩
theorem Qjs{I:Env->Qc->Prop}{id:Nat}(h:Q (.exit id) env H):Qbq I Q (.exit id) env H:=h
end
def Qjh{B:Type}(h0:Nat)(G:B->Prop)(Eb:B->Env)(Hb:B->Qc)(Q:Qx):Qx
 |.normal,env,H=>∃b,G b/\Le h0 env H (Eb b) (Hb b)
 |.exit id,env,H=>Q (.exit id) env H
 |.ret,env,H=>Q .ret env H
theorem Qi1{S E B:Type}{stepE:S->E->Option (Ctl S B)}{stepN:S->Option B}{G:B->Prop}{s0:S}{l0:List E}(hl:Qft stepE stepN G s0 l0)(Eb:B->Env)(Hb:B->Qc)
  (h:TC P h0 N c env H (Qjh h0 G Eb Hb Q))(k:∀b env H,G b->Le h0 env H (Eb b) (Hb b)->Q .normal env H):TC P h0 N c env H Q:=
 h.mono λx env' H' q=>by
  cases x with
  |normal=>obtain⟨b,e,q⟩:=q;grind
  |exit id=>exact q
  |ret=>exact q
theorem cutGN{B:Type}{G:B->Prop}{Eb:B->Env}{Hb:B->Qc}{b:B}(hG:G b)(h:Le h0 env H (Eb b) (Hb b)):Qjh h0 G Eb Hb Q .normal env H:=⟨b,hG,h⟩
theorem Qhf{i:Nat}{f:Option (A×A)}{es:List (A×A)}{H':Qc}(s:H[i]?=some (.iter f es))(d:H.set i (.iter none es)=H'):Le h0 env H env H':=by
 subst d;intro x n σ N a w r;refine⟨n,σ,⟨r.sim.weaken s rfl ?_,r.env,r.size,r.defers⟩,λ_ q=>q,rfl⟩;intro y h;cases y with
 |none=>exact h
 |some b=>
  rcases h with⟨j,p,g⟩|⟨m,l,e,k,left,j,p,g,t,u,z,E,B⟩
  .exact .inl ⟨j,rfl,g⟩
  .exact .inr (by grind)
end
def mk{α:Type}(n:Int)(z:α):Option (List α):=bif decide (0<=n)&&decide (n<=4294967296)then some (List.replicate n.toNat z)else none
theorem mk_ok{α:Type}{n:Int}{z:α}{l:List α}(h:mk n z=some l):0<=n/\n<=4294967296/\List.replicate n.toNat z=l:=by
 unfold mk at h;cases q:(decide (0<=n)&&decide (n<=4294967296))with
 |true=>rw[q]at h;simp at q;exact⟨q.1,q.2,XS h⟩
 |false=>rw[q]at h;cases h
theorem QdO{α:Type}[Inhabited α](zl:List α)(k:Nat)(hk:zl.length=k)(h0:0<k):∀n,(List.range (n*k)).map (λi=>zl.toArray[i%zl.toArray.size]!)=(List.replicate n zl).flatten
 |0=>by simp
 |n+1=>by
  rw[Xj,List.range_add,Xf,QdO zl k hk h0 n,List.replicate_succ',List.flatten_append];congr 1;simp only[Ve,List.flatten_nil,X9,List.map_map];apply List.ext_getElem
  .simp[hk]
  .intro i h1 h2;simp only[XU,List.length_range]at h1;simp only[List.getElem_map,List.getElem_range,Function.comp,List.size_toArray,hk];rw[Nat.mul_comm,Nat.mul_add_mod,Nat.mod_eq_of_lt h1];simp[hk,h1]
section
variable {P:Program} {o:Oper} {env:Env} {H:Qc} {ro:Nat->Prop} {σ:Sig} {w:World}
theorem LR.replicate{az:List A}{l:List Value}(h:LR ro σ w az l):∀n,LR ro σ w (List.replicate n az).flatten (List.replicate n l).flatten
 |0=>rfl
 |n+1=>by
  rw[List.replicate_succ,List.replicate_succ];exact h.append (LR.replicate h n)
theorem QiH{α:Type}{e:α->List A}{T et k:Nat}{x y:Operand}{kx O:IntKind}{n:Int}{zv:α}{l:List α}{z:Value}{a:A}(L:mk n zv=some l)(E:QN P T et k)(hz:∀w,(zeroValue et).run P w=.ok z w)(ac:ZR a z)
  (hk:Q4 a=true)(hc:QW a=e zv)(hp:(QW a).all Yd=true)(s:Nat.beq (e zv).length k=true)
  (ho:o.op=.makeSlice T x y:=by exact rfl)(hx:opA env x=.int kx n:=by exact rfl)(hy:opA env y=.int O n:=by exact rfl)
  {fr ro:Nat->Prop}{σ:Sig}{N:Nat}{act:Act}{w:World}(r:Rel fr ro σ H env N act w):∃lv:List Value,(execOp act.eval o).run P w=.ok (.value (.slice (some ⟨w.heap.size,0,none⟩) l.length l.length)) (w.alloc (.cells lv.toArray et))/\
   LR ro [] w (l.map e).flatten lv/\(∀v∈lv,Qv v)/\allK k (l.map e)/\lv.length=l.length*k/\l.length<=4294967296:=by
 obtain⟨n0,n1,hl⟩:=mk_ok L;have V:=Ql r x;rw[hx]at V;have h2:=Ql r y;rw[hy]at h2;have Y:act.eval x=.int kx n:=V;have X:act.eval y=.int O n:=h2;obtain⟨i,hi,ah⟩:=E.bytes;obtain⟨f,c1,M⟩:=(ac ro [] w).cells hk;have t:f.length=k:=by
  rw[M.length,hc];exact XK s
 have af:(if n.toNat*k=0 then(#[]:Array Value)else f.toArray)=f.toArray\/n.toNat*k=0:=by
  by_cases q:n.toNat*k=0
  .exact .inr q
  .exact .inl (Vj q)
 have d:∀(ZZ:Array Value),(ZZ=f.toArray\/n.toNat*k=0)->(Array.range (n.toNat*k)).map (λj=>ZZ[j%ZZ.size]!)=((List.replicate n.toNat f).flatten).toArray:=by
  intro ZZ hZ;by_cases q:n.toNat*k=0
  .rw[q];have:(List.replicate n.toNat f).flatten=[]:=by
    apply Vu.1;simp[t,q]
   rw[this];simp
  .obtain rfl:ZZ=f.toArray:=hZ.resolve_right q;have ab:0<k:=by
    rcases Nat.eq_zero_or_pos k with h|h
    .rw[h,Nat.mul_zero]at q;exact absurd rfl q
    .exact h
   rw[<- QdO f k t ab n.toNat];simp[XC, <- List.toArray_range]
 have G:=M.replicate n.toNat;have R:allK k (List.replicate n.toNat (e zv)):=by
  have:∀m,allK k (List.replicate m (e zv)):=by
   intro m
   induction m with
   |zero=>trivial
   |succ m ih=>exact⟨XK s,ih⟩
  exact this _
 have g:∀v∈(List.replicate n.toNat f).flatten,Qv v:=by
  intro v J;obtain⟨m,L,J⟩:=List.mem_flatten.1 J;rw[List.eq_of_mem_replicate L]at J;exact M.plain hp v J
 rw[hc]at G;have p:l.map e=List.replicate n.toNat (e zv):=by rw[<- hl,List.map_replicate]
 have u:l.length=n.toNat:=by rw[<- hl];simp
 refine⟨(List.replicate n.toNat f).flatten,?_,by rw[p];exact G,g,by rw[p];exact R,by rw[u];simp[t],by omega⟩;rw[u]
 .have hw:IntKind.i64.wrap n=n:=by
   unfold IntKind.wrap;simp[IntKind.bits,IntKind.signed];omega
  have ae:∀(x:Nat) (W:World),(askRoom x).run P W=.ok () W:=by
   intro x W;unfold askRoom;split<;>rfl
  have F:∀(c:Array Value) (W:World),(newRow et c).run P W=.ok ⟨W.heap.size,0,none⟩ (W.alloc (.cells c et)):=λc W=>rfl;have aa:¬(n<0):=by omega
  have ad:¬((i.bytes:Int)*n>2^48):=by
   have V:(i.bytes:Int)*n<=4096*4294967296:=Int.mul_le_mul (by omega) n1 n0 (by omega);omega
  have B:(Instr.makeSlice T (.int kx n) (.int O n)).run P w=.ok (.slice (some ⟨w.heap.size,0,none⟩) n.toNat n.toNat) (w.alloc (.cells ((List.replicate n.toNat f).flatten).toArray et)):=by
   have ag:¬(n>n):=by omega
   have Q:∀(k:IntKind) (m:Int) (W:World),(asInt (.int k m)).run P W=.ok m W:=λk m W=>rfl;unfold Instr.makeSlice;simp only[Vf,E.sl,E.size,hi,Result.andThen,Q,Vg,hw,ae,XB];rw[Vj (by simp[aa,ad];omega)];by_cases q:n.toNat*k=0
   .simp only[q,if_true,Vg];have:=d #[] (.inr q);rw[q]at this;simp only[this,F]
   .simp only[q,if_false,hz,Vg,c1,d f.toArray (.inl rfl),F]
  generalize act.eval=ρ at*;simp only[execOp,ho,Y,X,Vf,B,Result.andThen];rfl
theorem Qgr{α:Type}{e:α->List A}{T et k:Nat}{x y:Operand}{B s:IntKind}{n:Int}{zv:α}{l:List α}{z:Value}{a:A}(h:mk n zv=some l)(E:QN P T et k)(u:∀w,(zeroValue et).run P w=.ok z w)(f:ZR a z)
  (i:Q4 a=true)(F:QW a=e zv)(j:(QW a).all Yd=true)(d:Nat.beq (e zv).length k=true)
  (O:o.op=.makeSlice T x y:=by exact rfl)(hx:opA env x=.int B n:=by exact rfl)(hy:opA env y=.int s n:=by exact rfl):
  OpH P o env H (.osl H.length 0 l.length k) (H++[.row et k (l.map e)]):=by
 intro Q p σ N act w r;obtain⟨m,M,q,L,G,J,R⟩:=QiH h E u f i F j d O hx hy r;have g:=r.sim.allocRow (t:=et) (rest:=[]) G q L;rw[X9]at g;refine⟨_,_,p,[some w.heap.size],M,.inr ⟨w.heap.size,0,l.length,et,m.length,?_,rfl,λ_=>by simp,⟨XM _,by omega⟩,?_,by rw[J,Xr];exact XM _⟩,g,Qj.alloc _ r.sim.roLt r.sim.frLt⟩
 .rw[<- r.sim.len];simp
 .unfold World.shape?;rw[Yf];simp
end
open Go.Sort Go.Proofs Go.Shelf
section
variable {α:Type}
def ins(lt:α->α->Bool)(x:α):List α->List α
 |[]=>[x]
 |y::l=>bif lt y x then y::ins lt x l else x::y::l
def QdS(lt:α->α->Bool):List α->List α
 |[]=>[]
 |x::l=>ins lt x (QdS lt l)
theorem Qdd(lt:α->α->Bool)(x:α):∀l,(ins lt x l).Perm (x::l)
 |[]=>.refl _
 |y::l=>by
  unfold ins;cases lt y x
  .exact .refl _
  .exact((Qdd lt x l).cons y).trans (List.Perm.swap _ _ _)
theorem QaR(lt:α->α->Bool):∀l,(QdS lt l).Perm l
 |[]=>.refl _
 |x::l=>(Qdd lt x _).trans ((QaR lt l).cons x)
structure Qd4 (lt:α->α->Bool) (l:List α):Prop where
 irrefl:∀x∈l,lt x x=false
 trans:∀x∈l,∀y∈l,∀z∈l,lt x y=true->lt y z=true->lt x z=true
 ntrans:∀x∈l,∀y∈l,∀z∈l,lt x y=false->lt y z=false->lt x z=false
theorem Qd4.mono{lt:α->α->Bool}{l m:List α}(h:Qd4 lt l)(hm:∀x∈m,x∈l):Qd4 lt m:=
 ⟨λx hx=>h.irrefl x (hm x hx),λx hx y hy z hz=>h.trans x (hm x hx) y (hm y hy) z (hm z hz),λx hx y hy z hz=>h.ntrans x (hm x hx) y (hm y hy) z (hm z hz)⟩
theorem Qd4.asymm{lt:α->α->Bool}{l:List α}(h:Qd4 lt l){x y:α}(a:x∈l)(e:y∈l)(d:lt x y=true):lt y x=false:=by
 cases q:lt y x
 .rfl
 .rw[<- h.irrefl x a,h.trans x a y e x a d q]
theorem Qdc{lt:α->α->Bool}{x:α}:∀{l:List α},Qd4 lt (x::l)->l.Pairwise (λa b=>lt b a=false)->(ins lt x l).Pairwise (λa b=>lt b a=false)
 |[],_,_=>by simp[ins]
 |y::l,h,hp=>by
  obtain⟨h1,h2⟩:=Xc.1 hp;unfold ins;cases q:lt y x
  .refine Xc.2 ⟨λz hz=>?_,hp⟩;rcases XY.1 hz with rfl|hz
   .exact q
   .exact h.ntrans z (by simp[hz]) y (by simp) x (by simp) (h1 z hz) q
  .refine Xc.2 ⟨λz hz=>?_,Qdc (h.mono (by grind)) h2⟩;rcases XY.1 ((Qdd lt x l).mem_iff.1 hz)with rfl|hz
   .exact h.asymm (by simp) (by simp) q
   grind
theorem QbV{lt:α->α->Bool}:∀{l:List α},Qd4 lt l->(QdS lt l).Pairwise (λa b=>lt b a=false)
 |[],_=>by simp[QdS]
 |x::l,h=>Qdc (h.mono (by
   intro z hz;rcases XY.1 hz with rfl|hz
   .simp
   grind[QaR])) (QbV (h.mono (by grind)))
theorem QcY{lt:α->α->Bool}:∀{l m:List α},l.Perm m->(∀x∈l,∀y∈l,lt x y=false->lt y x=false->x=y)->l.Pairwise (λa b=>lt b a=false)->m.Pairwise (λa b=>lt b a=false)->l=m
 |[],m,h,_,_,_=>by simp_all
 |x::l,[],h,_,_,_=>by simp_all
 |x::l,y::m,h,ha,hl,hm=>by
  obtain⟨l1,l2⟩:=Xc.1 hl;obtain⟨m1,m2⟩:=Xc.1 hm;have hy:y∈x::l:=h.mem_iff.2 (by simp);have hxy:x=y:=by
   grind
  subst hxy;rw[QcY (by simp_all) (by grind) l2 m2]
def ltO(cf:α->α->Option Int)(x y:α):Bool:=match cf x y with
 |some c=>decide (c<0)
 |none=>false
def Qh6[DecidableEq α](cf:α->α->Option Int)(l:List α):Bool:=
 l.all λx=> !ltO cf x x&&l.all λy=>(cf x y).isSome&&(ltO cf x y||ltO cf y x||decide (x=y))&&l.all λz=>(!ltO cf x y|| !ltO cf y z||ltO cf x z)&&(ltO cf x y||ltO cf y z|| !ltO cf x z)
def QdK[DecidableEq α](cf:α->α->Option Int)(l:List α):Option (List α):=bif Nat.ble l.length Yz&&Qh6 cf l then some (QdS (ltO cf) l)else none
theorem QeO[DecidableEq α]{a:α->α->Option Int}{l l':List α}(h:QdK a l=some l'):
  l.length<=Yz/\(∀x∈l,∀y∈l,∃c,a x y=some c)/\Qd4 (ltO a) l/\(∀x∈l,∀y∈l,ltO a x y=false->ltO a y x=false->x=y)/\QdS (ltO a) l=l':=by
 unfold QdK at h;cases i:Nat.ble l.length Yz with
 |false=>grind
 |true=>
 rw[i,Bool.true_and]at h;cases q:Qh6 a l with
 |false=>grind
 |true=>
  rw[q]at h;refine⟨(by simp_all),?_⟩;unfold Qh6 at q;simp[Xo,XP,Bool.not_eq_true',Bool.or_eq_true]at q;refine⟨λx d y e=>Option.isSome_iff_exists.1 ((q x d).2 y e).1.1,⟨λx d=>(q x d).1,λx d y e z j f g=>?_,λx d y e z j f g=>?_⟩,λx d y e f g=>?_,XS h⟩
  .grind
  .grind
  grind
theorem Qaa[DecidableEq α]{a:α->α->Option Int}{l l':List α}(h:QdK a l=some l'):l.length=l'.length:=by
 rw[<- (QeO h).2.2.2.2];exact(QaR _ _).length_eq.symm
theorem Q8{l l':List α}{i:Int}{x:α}(h:QbA l i x=some l'):l.length=l'.length:=by
 grind[QbA]
theorem QA{f:Nat}{env:Env}{H:Qc}{s:Nat}{a a':A}(h:lk env s=a)(e:a=a'):Le f env H (up env s a') H:=by
 intro i g σ N act w r;refine⟨g,σ,⟨r.sim,λd=>?_,r.size,r.defers⟩,λ_ q=>q,rfl⟩;subst e;have:lk (up env s a) d=lk env d:=by
  simp[lk];cases q:Nat.beq d s with
  |true=>simp_all
  |false=>rfl
 rw[this];exact r.env d
end
section
variable {fr ro:Nat->Prop} {σ:Sig} {H:Qc} {w w':World}
theorem Qcx(hh:∀b,b<w.heap.size->w'.heap[b]?=w.heap[b]?)(hro:∀b,ro b->b<w.heap.size)(σ:Sig):Ext ro σ w ro σ w':=
 ⟨λ_ q=>q,(by grind),λb x hx=>by grind[World.shape?],λ_ _ q=>q⟩
theorem Sim.grown(s:Sim fr ro σ H w)(a:∀b,b<w.heap.size->w'.heap[b]?=w.heap[b]?)(g:w.heap.size<=w'.heap.size):Sim fr ro σ H w':=by
 refine⟨s.len,s.roOk.to (λ_ q=>q) (λb q=>a b (s.roLt b q)) (λb h=>X8 (s.roLt b h) g),λb h=>X8 (s.frLt b h) g,s.roFr,λi b x e f n=>?_,s.inj,λi y x e f=>?_,s.hidTo (· = ·) QU g (by simp) (by simp) λj d y k m r=>.inl ⟨j,y,rfl,k,m,id,λc q=>s.hidKeep k m (λz=>a d (s.own j d y k m z).1) (λb q=>a b (s.roLt b q)) q⟩⟩
 .obtain⟨p,q⟩:=s.own i b x e f n
  grind
 .refine(s.blk i y x e f).keep (Qcx a s.roLt σ) ?_ ?_
  .rintro b rfl l;exact a b (s.own i b x e f l).1
  .rintro b c rfl l;exact a c (s.hid i b x c e f l).lt
theorem Qj.grown(hh:∀b,b<w.heap.size->w'.heap[b]?=w.heap[b]?)(hs:w.heap.size<=w'.heap.size)(s:Sim fr ro σ H w)(ho:w'.os=w.os)(ht:w'.tape=w.tape)(hu:w'.output=w.output)(hd:w.drawn<=w'.drawn):Qj fr ro w ro w':=
 ⟨λ_ q=>q,λb h=>hh b (s.roLt b h),λb h=>hh b (s.frLt b h),hs,(Qcx hh s.roLt σ).shape,ho,ht,hu,hd⟩
theorem QiM(h:∀b,b<w.heap.size->w'.heap[b]?=w.heap[b]?)(i:w.heap.size<=w'.heap.size)(g:w'.os=w.os)(d:w'.tape=w.tape)(f:w'.output=w.output)(j:w.drawn<=w'.drawn):
  ∃q os',w'=grow (w.drewN q) os':=by
 refine⟨w'.drawn-w.drawn,w'.heap.extract w.heap.size w'.heap.size,?_⟩;obtain⟨a,p,e,k,l⟩:=w';simp only at h i g d f j;subst g d f;unfold grow World.drewN;have m:a=w.heap++a.extract w.heap.size a.size:=by
  grind
 have n:e=w.drawn+(e-w.drawn):=by omega
 grind
end
end Go.Sw
