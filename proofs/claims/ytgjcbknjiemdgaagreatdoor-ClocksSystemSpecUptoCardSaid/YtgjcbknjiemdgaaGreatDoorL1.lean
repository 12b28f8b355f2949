/- The rules by which the code is walked, with what they rest on (part 1). -/
import Derived.Calls
import Derived.Tactics
import Derived.Below
import Derived.TacticsIn
import Derived.OrdersIn
import Derived.RangeFuncLeaves
import Derived.RangeFuncRecord
import Derived.Laws.Strings
import Derived.Laws.World
import Derived.Orders
import Derived.Maps.Keyed
import Derived.Laws.StructEq
import Derived.Maps.RangeRun
import Derived.Shelf.SlSortCmp.NoneTotal
set_option linter.unusedVariables false
set_option linter.unusedSimpArgs false
set_option linter.unusedSectionVars false
namespace Go.Sw
abbrev Xa:= @List.getElem?_set_self
abbrev Xb:= @List.getElem?_set
abbrev Xc:= @List.pairwise_cons
abbrev Xd:= @List.filter_cons
abbrev Xe:= @List.mem_filter
abbrev Xf:= @List.mem_map
abbrev Xg:= @List.map_append
abbrev Xh:= @Bool.not_true
abbrev Xi:= @Bool.not_false
abbrev Xj:= @Bool.false_eq_true
abbrev Xk:= @Option.map_some
abbrev Xl:= @Option.map_none
abbrev Xm:= @Nat.succ_mul
abbrev Xn:= @Nat.lt_succ_self
abbrev Xo:= @List.getElem?_map
abbrev Xp:= @List.drop_eq_getElem_cons
abbrev Xq:= @List.drop_eq_nil_iff
abbrev Xr:= @List.drop_length
abbrev Xs:= @List.flatten_append
abbrev Xt:= @List.all_eq_true
abbrev Xu:= @List.any_eq_true
abbrev Xv:= @Nat.zero_add
abbrev Xw:= @Nat.add_zero
abbrev Xx:= @List.length_take
abbrev Xy:= @List.take_append_drop
abbrev Xz:= @Nat.add_mul
abbrev XA:= @Nat.min_eq_left
abbrev XB:= @Nat.mul_le_mul_right
abbrev XC:= @List.foldl_cons
abbrev XD:= @List.getElem?_cons_zero
abbrev XE:= @List.getElem?_cons_succ
abbrev XF:= @List.getElem?_toArray
abbrev XG:= @Sem.run_ite
abbrev XH:= @List.map_toArray
abbrev XI:= @Option.bind_some
abbrev XJ:= @List.getElem?_eq_getElem
abbrev XK:= @List.getElem?_eq_some_iff
abbrev XL:= @List.getElem?_append_left
abbrev XM:= @List.getElem?_append_right
abbrev XN:= @List.getElem?_eq_none
abbrev XO:= @List.getElem?_set_ne
abbrev XP:= @Nat.eq_of_beq_eq_true
abbrev XQ:= @Nat.le_of_ble_eq_true
abbrev XR:= @Nat.ble_eq_true_of_le
abbrev XS:= @Nat.le_refl
abbrev XT:= @Nat.zero_le
abbrev XU:= @Nat.le_trans
abbrev XV:= @Bool.and_eq_true
abbrev XW:= @Bool.eq_iff_iff
abbrev XX:= @Option.some.inj
abbrev XY:= @List.length_cons
abbrev XZ:= @List.length_map
abbrev X0:= @List.length_append
abbrev X2:= @List.length_set
abbrev X3:= @List.mem_cons_of_mem
abbrev X4:= @List.mem_cons
abbrev X5:= @List.take_append_of_le_length
abbrev X6:= @List.drop_append_of_le_length
abbrev X7:= @List.take_length
abbrev X8:= @List.drop_length_add_append
abbrev X9:= @List.take_length_add_append
abbrev Va:= @Array.getElem?_eq_some_iff
abbrev Vb:= @Array.getElem?_setIfInBounds
abbrev Vc:= @Nat.lt_of_lt_of_le
abbrev Vd:= @List.append_nil
abbrev Ve:= @List.nil_append
abbrev Vf:= @List.append_assoc
abbrev Vg:= @List.map_cons
abbrev Vh:= @List.map_nil
abbrev Vi:= @List.flatten_cons
abbrev Vj:= @Sem.run_bind
abbrev Vk:= @Sem.run_pure
abbrev Vl:= @cond_true
abbrev Vm:= @cond_false
abbrev Vn:= @decide_eq_true_eq
abbrev Vp:= @if_neg
abbrev Vq:= @if_pos
abbrev Vr:= @decide_eq_true
abbrev Vs:= @of_decide_eq_true
abbrev Vt:= @of_decide_eq_false
abbrev Vu:= @decide_eq_false
abbrev Vv:= @beq_iff_eq
abbrev Vw:= @beq_eq_false_iff_ne
abbrev Vx:= @Bool.true_and
abbrev Vy:= @List.mem_singleton
abbrev Vz:= @Nat.lt_or_ge
abbrev VA:= @List.mem_append
abbrev VB:= @List.pairwise_iff_getElem
abbrev VC:= @Nat.beq_refl
abbrev VD:= @List.mem_map_of_mem
abbrev VE:= @List.mem_of_getElem?
abbrev VF:= @List.take_of_length_le
abbrev VG:= @List.length_eq_zero_iff
abbrev VH:= @List.cons_append
abbrev VI:= @List.getD_eq_getElem?_getD
abbrev VJ:= @Bool.eq_false_iff
def Qly:Nat:=11
def nG:Nat:=12
def QjK:List (List Int):=[[1,9999],[-1099511627776,1099511627776],[0,1048576],[0,39],[0,255],[0,1099511627776],[0,255],[1,1048576],[0,1],[0,31],[1,1048576]]
theorem gOk:((List.range nG).all λb=>Nat.beq b Qly|| !(QjK.getD b []).isEmpty)=true:=by decide
theorem gLt:Nat.ble QjK.length nG=true:=by decide
theorem Qpv:Nat.blt Qly nG=true:=by decide
structure GP (w:World):Prop where
 max:∃m:Int,w.cell? ⟨Qly,0,none⟩=some (.int .i64 m)
 tab:∀(g:Nat) (zs:List Int),QjK[g]?=some zs->∀(i:Nat) (z:Int),zs[i]?=some z->w.cell? ⟨g,i,none⟩=some (.int .i64 z)
theorem GP.keep{w w':World}(h:∀b,b<nG->w'.heap[b]?=w.heap[b]?)(g:GP w):GP w':=by
 obtain⟨m,j⟩:=g.max;refine⟨⟨m,?_⟩,λd f a i z e=>?_⟩
 .rw[<- j];unfold World.cell?;rw[h Qly (by simpa using Qpv)]
 .rw[<- g.tab d f a i z e];unfold World.cell?;have l:=(XK.1 a).1;have k:QjK.length<=nG:=by simpa using gLt
  rw[h d (by omega)]
theorem Qg4{w:World}{b i:Nat}{v:Value}(h:w.cell? ⟨b,i,none⟩=some v):b<w.heap.size:=by
 cases e:w.heap[b]? with
 |none=>simp[World.cell?,e]at h
 |some o=>exact(Va.1 e).1
theorem GP.size{w:World}(g:GP w)(b:Nat)(d:b<nG):b<w.heap.size:=by
 have h:=Xt.1 gOk b (List.mem_range.2 d);rw[Bool.or_eq_true]at h;rcases h with h|h
 .obtain⟨m,f⟩:=g.max;rw[XP h];exact Qg4 f
 .cases e:QjK[b]? with
  |none=>rw[VI,e]at h;simp at h
  |some a=>
   cases a with
   |nil=>rw[VI,e]at h;simp at h
   |cons z a=>exact Qg4 (g.tab b _ e 0 z rfl)
inductive A where
 |any
 |bool (b:Bool)
 |int (k:IntKind) (n:Int)
 |str (s:List UInt8)
 |nilp
 |ptr (i off:Nat)
 |rp (cs:List A)
 |nils
 |rsl (k:Nat) (es:List (List A))
 |osl (i o n k:Nat)
 |agg (cs:List A)
 |fn (f:Fn) (first cap:List A)
 |nilf
 |iface (t:Nat) (v:A)
 |nilif
 |map (i:Nat)
 |nilm
 |tup (vs:List A)
abbrev Sig:=List (Option Nat)
def QA:Value->Prop
 |.agg _|.tuple _=>False
 |_=>True
mutual
def VR(ro:Nat->Prop)(σ:Sig)(w:World):A->Value->Prop
 |.any,_=>True
 |.bool b,v=>v=.bool b
 |.int k n,v=>v=.int k n
 |.str s,v=>v=.string ⟨s.toArray⟩
 |.nilp,v=>v=.pointer none
 |.ptr i off,v=>∃b,σ[i]?=some (some b)/\v=.pointer (some ⟨b,off,none⟩)
 |.rp cs,v=>∃b off,v=.pointer (some ⟨b,off,none⟩)/\ro b/\CR ro [] w b cs off
 |.nils,v=>v=.slice none 0 0
 |.rsl k es,v=>∃a cap,v=.slice a es.length cap/\es.length<=cap/\
   (es=[]\/ ∃b off,a=some ⟨b,off,none⟩/\ro b/\RR ro [] w b k es off)
 |.osl i o n k,v=>(n=0/\v=.slice none 0 0)\/
   ∃b p cap t m,σ[i]?=some (some b)/\v=.slice (some ⟨b,p,none⟩) n cap/\(0<cap->p=o*k)/\(n<=cap/\cap<=9223372036854775807)/\w.shape? b=some (t,m)/\(o+cap)*k<=m
 |.agg cs,v=>∃l:List Value,v=.agg l.toArray/\LR ro σ w cs l
 |.fn f first cap,v=>∃l l':List Value,v=.func f l.toArray l'.toArray/\LR ro σ w first l/\LR ro σ w cap l'
 |.nilf,v=>v=.nilFunc
 |.iface t a,v=>∃x,v=.iface t x/\VR ro σ w a x
 |.nilif,v=>v=.nilIface
 |.map i,v=>∃b,σ[i]?=some (some b)/\v=.map (some b)
 |.nilm,v=>v=.map none
 |.tup vs,v=>∃l:List Value,v=.tuple l.toArray/\LR ro σ w vs l
def CR(ro:Nat->Prop)(σ:Sig)(w:World)(b:Nat):List A->Nat->Prop
 |[],_=>True
 |a::r,off=>(∃v,w.cell? ⟨b,off,none⟩=some v/\QA v/\VR ro σ w a v)/\CR ro σ w b r (off+1)
def RR(ro:Nat->Prop)(σ:Sig)(w:World)(b k:Nat):List (List A)->Nat->Prop
 |[],_=>True
 |cs::r,off=>cs.length=k/\CR ro σ w b cs off/\RR ro σ w b k r (off+k)
def LR(ro:Nat->Prop)(σ:Sig)(w:World):List A->List Value->Prop
 |[],l=>l=[]
 |a::r,l=>∃v l',l=v::l'/\VR ro σ w a v/\LR ro σ w r l'
end
structure Ext (ro:Nat->Prop) (σ:Sig) (w:World) (ro':Nat->Prop) (σ':Sig) (w':World):Prop where
 sub:∀b,ro b->ro' b
 keep:∀b,ro b->w'.heap[b]?=w.heap[b]?
 shape:∀b x,w.shape? b=some x->w'.shape? b=some x
 sig:∀(i b:Nat),σ[i]?=some (some b)->σ'[i]?=some (some b)
theorem Qg5{w w':World}{b off:Nat}(h:w'.heap[b]?=w.heap[b]?):w'.cell? ⟨b,off,none⟩=w.cell? ⟨b,off,none⟩:=by
 simp only[World.cell?,h]
theorem Ext.nil{ro ro':Nat->Prop}{σ σ':Sig}{w w':World}(h:Ext ro σ w ro' σ' w'):Ext ro [] w ro' [] w':=
 ⟨h.sub,h.keep,h.shape,λ_ _ q=>q⟩
mutual
theorem VR.mono{ro ro':Nat->Prop}{w w':World}:∀{a:A} {σ σ':Sig} {v:Value},Ext ro σ w ro' σ' w'->VR ro σ w a v->VR ro' σ' w' a v
 |.any,_,_,_,h,_=>trivial
 |.bool b,_,_,v,h,q=>q
 |.int k n,_,_,v,h,q=>q
 |.str s,_,_,v,h,q=>q
 |.nilp,_,_,v,h,q=>q
 |.ptr i off,_,_,v,h,q=>by
  simp only[VR]at q⊢;obtain⟨b,h1,h2⟩:=q;exact⟨b,h.sig _ _ h1,h2⟩
 |.rp cs,_,_,v,h,q=>by
  simp only[VR]at q⊢;obtain⟨b,off,h1,h2,h3⟩:=q;exact⟨b,off,h1,h.sub _ h2,CR.mono h.nil h2 h3⟩
 |.nils,_,_,v,h,q=>q
 |.rsl k es,_,_,v,h,q=>by
  simp only[VR]at q⊢;obtain⟨a,cap,h1,h2,h3⟩:=q;refine⟨a,cap,h1,h2,?_⟩;rcases h3 with h3|⟨b,off,h4,h5,h6⟩
  .exact .inl h3
  .exact .inr ⟨b,off,h4,h.sub _ h5,RR.mono h.nil h5 h6⟩
 |.osl i o n k,_,_,v,h,q=>by
  simp only[VR]at q⊢;rcases q with q|⟨b,p,cap,t,m,h1,h2,h6,h3,h4,h5⟩
  .exact .inl q
  .exact .inr ⟨b,p,cap,t,m,h.sig _ _ h1,h2,h6,h3,h.shape _ _ h4,h5⟩
 |.agg cs,_,_,v,h,q=>by
  simp only[VR]at q⊢;obtain⟨l,h1,h2⟩:=q;exact⟨l,h1,LR.mono h h2⟩
 |.fn f a c,_,_,v,h,q=>by
  simp only[VR]at q⊢;obtain⟨l,l',h1,h2,h3⟩:=q;exact⟨l,l',h1,LR.mono h h2,LR.mono h h3⟩
 |.nilf,_,_,v,h,q=>q
 |.iface t a,_,_,v,h,q=>by
  simp only[VR]at q⊢;obtain⟨x,h1,h2⟩:=q;exact⟨x,h1,VR.mono h h2⟩
 |.nilif,_,_,v,h,q=>q
 |.map i,_,_,v,h,q=>by
  simp only[VR]at q⊢;obtain⟨b,h1,h2⟩:=q;exact⟨b,h.sig _ _ h1,h2⟩
 |.nilm,_,_,v,h,q=>q
 |.tup vs,_,_,v,h,q=>by
  simp only[VR]at q⊢;obtain⟨l,h1,h2⟩:=q;exact⟨l,h1,LR.mono h h2⟩
theorem CR.mono{ro ro':Nat->Prop}{w w':World}:∀{cs:List A} {σ σ':Sig} {b off:Nat},Ext ro σ w ro' σ' w'->ro b->CR ro σ w b cs off->CR ro' σ' w' b cs off
 |[],_,_,_,_,_,_,_=>trivial
 |a::r,_,_,b,off,h,hb,q=>by
  simp only[CR]at q⊢;obtain⟨⟨v,h1,hp,h2⟩,h3⟩:=q;exact⟨⟨v,by rw[Qg5 (h.keep _ hb)];exact h1,hp,VR.mono h h2⟩,CR.mono h hb h3⟩
theorem RR.mono{ro ro':Nat->Prop}{w w':World}:∀{es:List (List A)} {σ σ':Sig} {b k off:Nat},Ext ro σ w ro' σ' w'->ro b->RR ro σ w b k es off->RR ro' σ' w' b k es off
 |[],_,_,_,_,_,_,_,_=>trivial
 |cs::r,_,_,b,k,off,h,hb,q=>by
  simp only[RR]at q⊢;obtain⟨h1,h2,h3⟩:=q;exact⟨h1,CR.mono h hb h2,RR.mono h hb h3⟩
theorem LR.mono{ro ro':Nat->Prop}{w w':World}:∀{az:List A} {σ σ':Sig} {l:List Value},Ext ro σ w ro' σ' w'->LR ro σ w az l->LR ro' σ' w' az l
 |[],_,_,_,h,q=>q
 |a::r,_,_,l,h,q=>by
  simp only[LR]at q⊢;obtain⟨v,l',h1,h2,h3⟩:=q;exact⟨v,l',h1,VR.mono h h2,LR.mono h h3⟩
end
structure Ent where
 fl:Bool
 off:Nat
 lo:Int
 hi:Int
def QeA(i n c:Nat):List (List A):=(List.range c).map λj=>[.osl i (j*n) n 1]
def eC(b1 b2:Nat)(e:Ent):List A:=[.ptr (bif e.fl then b2 else b1) e.off,.int .i64 e.lo,.int .i64 e.hi]
inductive Blk where
 |dead
 |cells (t:Nat) (cs:List A)
 |row (t k:Nat) (es:List (List A))
 |rowr (t k:Nat) (es:List (List A))
 |map (es:List (A×A))
 |iter (cur:Option (A×A)) (es:List (A×A))
 |fmap (es:List (A×A))
 |ents (t b1 b2:Nat) (es:List Ent)
 |wins (t b n c:Nat)
 |mapO (fz:Bool) (t k:Nat) (es:List (A×Option (List (List A))))
 |mapP (es:List (A×A))
 |frow (t k:Nat) (es:List (List A))
def Blk.live:Blk->Bool
 |.dead=>false
 |.fmap _=>false
 |.frow _ _ _=>false
 |.mapO fz _ _ _=> !fz
 |_=>true
def Blk.held:Blk->Bool
 |.mapO fz _ _ _=>fz
 |_=>false
def Blk.holds(x:Blk):Bool:=x.live||x.held
theorem Qaq{x:Blk}(h:x.live=true):x≠ .dead:=by rintro rfl;cases h
theorem Qe6{x:Blk}(h:x.holds=true):x≠ .dead:=by rintro rfl;cases h
theorem QbI{x:Blk}(h:x.live=true):x.holds=true:=by unfold Blk.holds;rw[h];rfl
abbrev Qe:=List Blk
def ER(ro:Nat->Prop)(σ:Sig)(w:World):List (A×A)->List MapEntry->Prop
 |[],l=>l=[]
 |x::r,l=>∃e l',l=e::l'/\VR ro σ w x.1 e.key/\VR ro σ w x.2 e.val/\ER ro σ w r l'
def ItR(ro:Nat->Prop)(w:World)(b:Nat)(cur:Option (A×A))(es:List (A×A)):Prop:=
 (es=[]/\cur=none/\w.heap[b]?=some (.mapIter none 0 #[] 0))\/
 ∃m l clock seen left,w.heap[b]?=some (.mapIter (some m) clock seen clock)/\ro m/\w.heap[m]?=some (.map l clock)/\(∀e∈l.toList,e.born<clock)/\(l.toList.map (·.born)).Nodup/\
  (left:List MapEntry).Perm (l.toList.filter λe=> !seen.contains e.born)/\ER ro [] w es left/\
  (∀x,cur=some x->∃e∈l.toList,seen.back? =some e.born/\VR ro [] w x.1 e.key/\VR ro [] w x.2 e.val)
def RL(ro:Nat->Prop)(σ:Sig)(w:World)(k:Nat):List (List A)->List Value->Prop
 |[],_=>True
 |c::es,l=>∃l1 l2,l=l1++l2/\c.length=k/\(LR ro σ w c l1/\ ∀v∈l1,QA v)/\RL ro σ w k es l2
theorem RL.mono{ro ro':Nat->Prop}{σ σ':Sig}{w w':World}(h:Ext ro σ w ro' σ' w'){k:Nat}:∀{es:List (List A)} {l:List Value},RL ro σ w k es l->RL ro' σ' w' k es l
 |[],_,_=>trivial
 |c::es,l,⟨l1,l2,h1,h2,h3,h4⟩=>⟨l1,l2,h1,h2,⟨h3.1.mono h,h3.2⟩,RL.mono h h4⟩
def SO(ro:Nat->Prop)(w:World)(t k:Nat)(rows:List (List A))(v:Value):Prop:=
 (rows=[]/\v=.slice none 0 0)\/ ∃(c p cap:Nat) (vs:List Value),v=.slice (some ⟨c,p,none⟩) rows.length cap/\(rows.length<=cap/\cap<=9223372036854775807)/\w.heap[c]?=some (.cells vs.toArray t (0,0))/\cap*k<=vs.length/\RL ro [] w k rows vs/\(0<cap->p=0)
def MO(ro:Nat->Prop)(w:World)(t k:Nat):List (A×Option (List (List A)))->List MapEntry->Prop
 |[],l=>l=[]
 |x::r,l=>∃e l',l=e::l'/\VR ro [] w x.1 e.key/\(∀rows,x.2=some rows->SO ro w t k rows e.val)/\MO ro w t k r l'
def QeF:List (A×Option (List (List A)))->List MapEntry->Nat->Prop
 |x::r,e::l,c=>(x.2.isSome=true/\ ∃p n cap,e.val=.slice (some ⟨c,p,none⟩) n cap)\/QeF r l c
 |_,_,_=>False
def Qkf:List (A×Option (List (List A)))->List MapEntry->Prop
 |x::r,e::l=>(∀c,x.2.isSome=true->(∃p n cap,e.val=.slice (some ⟨c,p,none⟩) n cap)->¬QeF r l c)/\Qkf r l
 |_,_=>True
def Hid(w:World):Blk->Nat->Nat->Prop
 |.mapO _ _ _ es,b,c=>∃l clock,w.heap[b]?=some (.map l clock)/\QeF es l.toList c
 |_,_,_=>False
theorem Hid.keep{w w':World}{x:Blk}{b c:Nat}(h:w'.heap[b]?=w.heap[b]?)(q:Hid w' x b c):Hid w x b c:=by
 cases x with
 |mapO fz t k f=>obtain⟨l,a,e,d⟩:=q;exact⟨l,a,by grind,d⟩
 |_=>exact q.elim
theorem Hid.holds{w:World}{x:Blk}{b c:Nat}(q:Hid w x b c):x.holds=true:=by
 cases x with
 |mapO fz t k a=>cases fz<;>rfl
 |_=>exact q.elim
theorem MO.mono{ro ro':Nat->Prop}{σ σ':Sig}{w w':World}(h:Ext ro σ w ro' σ' w'){t k:Nat}:∀{es:List (A×Option (List (List A)))} {l:List MapEntry},(∀c,QeF es l c->w'.heap[c]?=w.heap[c]?)->MO ro w t k es l->MO ro' w' t k es l
 |[],_,_,q=>q
 |x::r,_,hh,⟨e,l',h1,h2,h3,h4⟩=>by
  subst h1;refine⟨e,l',rfl,h2.mono h.nil,λrows hr=>?_,MO.mono h (λc hc=>hh c (.inr hc)) h4⟩;rcases h3 rows hr with q|⟨c,p,cap,vs,q1,q2,q3,q4,q5,q6⟩
  .exact .inl q
  .exact .inr ⟨c,p,cap,vs,q1,q2,by rw[hh c (.inl (by grind))];exact q3,q4,q5.mono h.nil,q6⟩
theorem MO.cells{ro:Nat->Prop}{w:World}{t k:Nat}:∀{es:List (A×Option (List (List A)))} {l:List MapEntry} {c:Nat},MO ro w t k es l->QeF es l c->∃vs:Array Value,w.heap[c]?=some (.cells vs t (0,0))
 |[],l,c,h,q=>by cases l<;>exact q.elim
 |x::r,_,c,⟨e,l',h1,h2,h3,h4⟩,q=>by
  subst h1;rcases q with⟨q1,p,n,cap,q2⟩|q
  .obtain⟨rows,hr⟩:=Option.isSome_iff_exists.1 q1;rcases h3 rows hr with⟨_,z⟩|⟨c',p',cap',vs,z1,z2,z3,z4,z5,z6⟩
   .grind
   grind
  .exact MO.cells h4 q
def Born(l:Array MapEntry)(clock:Nat):Prop:=clock=l.size/\ ∀(i:Nat) (e:MapEntry),l.toList[i]?=some e->e.born=i
theorem Born.modify{l:Array MapEntry}{a j:Nat}{f:MapEntry->MapEntry}(h:Born l a)(g:∀e,(f e).born=e.born):Born (l.modify j f) a:=by
 obtain⟨d,k⟩:=h;refine⟨by simp[d],λi m q=>?_⟩
 grind
def BR(ro:Nat->Prop)(σ:Sig)(w:World):Blk->Option Nat->Prop
 |.dead,_=>True
 |.cells t cs,some b=>∃l:List Value,w.heap[b]?=some (.cells l.toArray t (0,0))/\LR ro σ w cs l/\ ∀v∈l,QA v
 |.row t k es,some b=>∃l:List Value,w.heap[b]?=some (.cells l.toArray t (0,0))/\RL ro [] w k es l
 |.rowr t k es,some b=>∃l:List Value,w.heap[b]?=some (.cells l.toArray t (0,0))/\RL ro σ w k es l
 |.row _ _ es,none=>es=[]
 |.ents t b1 b2 es,some b=>∃l:List Value,w.heap[b]?=some (.cells l.toArray t (0,0))/\RL ro σ w 3 (es.map (eC b1 b2)) l
 |.ents _ _ _ es,none=>es=[]
 |.wins t b n c,some d=>∃l:List Value,w.heap[d]?=some (.cells l.toArray t (0,0))/\RL ro σ w 1 (QeA b n c) l
 |.wins _ _ _ c,none=>c=0
 |.map es,some b=>∃l clock,w.heap[b]?=some (.map l clock)/\ER ro [] w es l.toList/\
   (∀e∈l.toList,e.born<clock)/\(l.toList.map (·.born)).Nodup/\(l.toList.map (·.key)).Nodup
 |.mapP es,some b=>∃l clock,w.heap[b]?=some (.map l clock)/\ER ro σ w es l.toList/\
   (∀e∈l.toList,e.born<clock)/\(l.toList.map (·.born)).Nodup/\(l.toList.map (·.key)).Nodup
 |.frow t k es,some b=>ro b/\ ∃l:List Value,w.heap[b]?=some (.cells l.toArray t (0,0))/\RL ro [] w k es l/\l.length=es.length*k
 |.iter cur es,some b=>ItR ro w b cur es
 |.mapO fz t k es,some b=>(fz=true->ro b)/\ ∃l clock,w.heap[b]?=some (.map l clock)/\MO ro w t k es l.toList/\Qkf es l.toList/\
   (∀e∈l.toList,e.born<clock)/\(l.toList.map (·.born)).Nodup/\(l.toList.map (·.key)).Nodup/\Born l clock
 |.fmap es,some b=>ro b/\ ∃l clock,w.heap[b]?=some (.map l clock)/\ER ro [] w es l.toList/\
   (∀e∈l.toList,e.born<clock)/\(l.toList.map (·.born)).Nodup/\(l.toList.map (·.key)).Nodup
 |_,none=>False
structure RoOk (ro:Nat->Prop) (w:World):Prop where
 lt:∀b,ro b->b<w.heap.size
 g:∀b,b<nG->ro b
 gp:GP w
theorem RoOk.to{ro ro':Nat->Prop}{w w':World}(h:RoOk ro w)(sub:∀b,ro b->ro' b)(keep:∀b,ro b->w'.heap[b]?=w.heap[b]?)(lt:∀b,ro' b->b<w'.heap.size):RoOk ro' w':=
 ⟨lt,λb hb=>sub b (h.g b hb),h.gp.keep λb hb=>keep b (h.g b hb)⟩
structure Qo0 (fr ro:Nat->Prop) (σ:Sig) (H:Qe) (w:World) (i0 b0 c:Nat):Prop where
 lt:c<w.heap.size
 ro:¬ro c
 fr:¬fr c
 ne:∀(j b:Nat) (y:Blk),σ[j]?=some (some b)->H[j]?=some y->y.live=true->c≠b
 one:∀(j b:Nat) (y:Blk),σ[j]?=some (some b)->H[j]?=some y->Hid w y b c->b=b0/\j=i0
structure Sim (fr ro:Nat->Prop) (σ:Sig) (H:Qe) (w:World):Prop where
 len:σ.length=H.length
 roOk:RoOk ro w
 frLt:∀b,fr b->b<w.heap.size
 roFr:∀b,ro b->¬fr b
 own:∀(i b:Nat) (blk:Blk),σ[i]?=some (some b)->H[i]?=some blk->blk.live=true->b<w.heap.size/\ ¬ro b/\ ¬fr b
 inj:∀(i j b:Nat) (x y:Blk),σ[i]?=some (some b)->σ[j]?=some (some b)->H[i]?=some x->H[j]?=some y->x.live=true->y.live=true->i=j
 blk:∀(i:Nat) (s:Option Nat) (x:Blk),σ[i]?=some s->H[i]?=some x->BR ro σ w x s
 hid:∀(i b:Nat) (x:Blk) (c:Nat),σ[i]?=some (some b)->H[i]?=some x->Hid w x b c->Qo0 fr ro σ H w i b c
theorem Sim.roHeld{fr ro:Nat->Prop}{σ:Sig}{H:Qe}{w:World}(s:Sim fr ro σ H w){i b:Nat}{x:Blk}(d:σ[i]?=some (some b))(e:H[i]?=some x)(a:x.held=true):ro b:=by
 have h:=s.blk i _ x d e;cases x with
 |mapO fz t k f=>exact h.1 a
 |_=>cases a
theorem Sim.hidKeep{fr ro:Nat->Prop}{σ:Sig}{H:Qe}{w w':World}(s:Sim fr ro σ H w){i b c:Nat}{x:Blk}(d:σ[i]?=some (some b))(f:H[i]?=some x)
  (g:x.live=true->w'.heap[b]?=w.heap[b]?)(e:∀b,ro b->w'.heap[b]?=w.heap[b]?)(q:Hid w' x b c):Hid w x b c:=by
 refine q.keep ?_;have h:=q.holds;cases a:x.live with
 |true=>exact g a
 |false=>unfold Blk.holds at h;rw[a]at h;exact e b (s.roHeld d f h)
theorem Sim.hidTo{fr n ro ro':Nat->Prop}{σ σ':Sig}{H H':Qe}{w w':World}(s:Sim fr ro σ H w)(R:Nat->Nat->Prop)(X:∀j j' a,R j a->R j' a->j=j')(p:w.heap.size<=w'.heap.size)
  (M:∀(i b:Nat) (x:Blk) (c:Nat),σ[i]?=some (some b)->H[i]?=some x->Hid w x b c->ro' c->ro c)
  (G:∀(i b:Nat) (x:Blk) (c:Nat),σ[i]?=some (some b)->H[i]?=some x->Hid w x b c->n c->fr c)
  (h:∀(j d:Nat) (y:Blk),σ'[j]?=some (some d)->H'[j]?=some y->y.holds=true->
   (∃(a:Nat) (l:Blk),R j a/\σ[a]?=some (some d)/\H[a]?=some l/\(y.live=true->l.live=true)/\ ∀c,Hid w' y d c->Hid w l d c)\/(w.heap.size<=d/\ ∀c,Hid w' y d c->False)):
  ∀(i b:Nat) (x:Blk) (c:Nat),σ'[i]?=some (some b)->H'[i]?=some x->Hid w' x b c->Qo0 n ro' σ' H' w' i b c:=by
 intro i b x c J N E;rcases h i b x J N E.holds with⟨a,l,V,P,Q,g3,O⟩|⟨_,g⟩
 .have k:=s.hid a b l c P Q (O c E);refine⟨Vc k.lt p,λq=>k.ro (by grind),λq=>k.fr (by grind),λj d y t r m=>?_,λj d y t r m=>?_⟩
  .rcases h j d y t r (QbI m)with⟨z,y1,_,u,B,F,_⟩|⟨f,_⟩
   .exact k.ne z d y1 u B (F m)
   .exact λe=>by have:=k.lt;omega
  .rcases h j d y t r m.holds with⟨z,y1,W,u,B,F,L⟩|⟨_,f⟩
   .obtain⟨T,Y⟩:=k.one z d y1 u B (L c m)
    grind
   grind
 grind
theorem Yg(j j' j0:Nat)(h:j=j0)(h':j'=j0):j=j':=h.trans h'.symm
theorem Sim.roLt{fr ro:Nat->Prop}{σ:Sig}{H:Qe}{w:World}(s:Sim fr ro σ H w):∀b,ro b->b<w.heap.size:=s.roOk.lt
structure Qi (fr ro:Nat->Prop) (w:World) (ro':Nat->Prop) (w':World):Prop where
 sub:∀b,ro b->ro' b
 keepRo:∀b,ro b->w'.heap[b]?=w.heap[b]?
 keepFr:∀b,fr b->w'.heap[b]?=w.heap[b]?
 size:w.heap.size<=w'.heap.size
 shape:∀b x,w.shape? b=some x->w'.shape? b=some x
 os:w'.os=w.os
 tape:w'.tape=w.tape
 output:w'.output=w.output
 drawn:w.drawn<=w'.drawn
theorem Qi.refl(fr ro:Nat->Prop)(w:World):Qi fr ro w ro w:=
 ⟨λ_ h=>h,λ_ _=>rfl,λ_ _=>rfl,XS _,λ_ _ h=>h,rfl,rfl,rfl,XS _⟩
theorem Qi.trans{fr ro ro1 ro2:Nat->Prop}{w w1 w2:World}(h:Qi fr ro w ro1 w1)(k:Qi fr ro1 w1 ro2 w2):Qi fr ro w ro2 w2:=
 ⟨λb q=>k.sub _ (h.sub _ q),λb q=>(k.keepRo _ (h.sub _ q)).trans (h.keepRo _ q),λb q=>(k.keepFr _ q).trans (h.keepFr _ q),
  XU h.size k.size,λb x q=>k.shape _ _ (h.shape _ _ q),k.os.trans h.os,k.tape.trans h.tape,k.output.trans h.output,XU h.drawn k.drawn⟩
theorem Qac{σ τ:Sig}{i b:Nat}(h:σ[i]?=some (some b)):(σ++τ)[i]?=some (some b):=by
 grind
theorem Qi.ext{fr ro ro':Nat->Prop}{w w':World}(h:Qi fr ro w ro' w')(σ τ:Sig):Ext ro σ w ro' (σ++τ) w':=
 ⟨h.sub,h.keepRo,h.shape,λ_ _=>Qac⟩
theorem Qi.ext0{fr ro ro':Nat->Prop}{w w':World}(h:Qi fr ro w ro' w')(σ:Sig):Ext ro σ w ro' σ w':=
 ⟨h.sub,h.keepRo,h.shape,λ_ _ q=>q⟩
theorem ER.mono{ro ro':Nat->Prop}{σ σ':Sig}{w w':World}(h:Ext ro σ w ro' σ' w'):∀{es:List (A×A)} {l:List MapEntry},ER ro σ w es l->ER ro' σ' w' es l
 |[],_,q=>q
 |x::r,l,q=>by
  simp only[ER]at q⊢;obtain⟨e,l',h1,h2,h3,h4⟩:=q;exact⟨e,l',h1,h2.mono h,h3.mono h,ER.mono h h4⟩
theorem ItR.keep{ro ro':Nat->Prop}{σ σ':Sig}{w w':World}(h:Ext ro σ w ro' σ' w'){b:Nat}(E:w'.heap[b]?=w.heap[b]?){f:Option (A×A)}{es:List (A×A)}
  (q:ItR ro w b f es):ItR ro' w' b f es:=by
 rcases q with⟨j,g,i⟩|⟨m,l,a,d,left,j,g,i,t,p,z,k,s⟩
 .exact .inl ⟨j,g,by grind⟩
 .refine .inr ⟨m,l,a,d,left,by grind,h.sub _ g,by rw[h.keep _ g];exact i,t,p,z,k.mono h.nil,λx r=>?_⟩;obtain⟨e,y,n,u,B⟩:=s x r;exact⟨e,y,n,u.mono h.nil,B.mono h.nil⟩
theorem CR.keep{ro ro':Nat->Prop}{σ σ':Sig}{w w':World}(h:Ext ro σ w ro' σ' w'){b:Nat}(hb:w'.heap[b]?=w.heap[b]?):
  ∀{cs:List A} {off:Nat},CR ro σ w b cs off->CR ro' σ' w' b cs off
 |[],_,_=>trivial
 |a::r,off,q=>by
  simp only[CR]at q⊢;obtain⟨⟨v,h1,hp,h2⟩,h3⟩:=q;exact⟨⟨v,by rw[Qg5 hb];exact h1,hp,h2.mono h⟩,CR.keep h hb h3⟩
theorem RR.keep{ro ro':Nat->Prop}{σ σ':Sig}{w w':World}(h:Ext ro σ w ro' σ' w'){b:Nat}(hb:w'.heap[b]?=w.heap[b]?){k:Nat}:
  ∀{es:List (List A)} {off:Nat},RR ro σ w b k es off->RR ro' σ' w' b k es off
 |[],_,_=>trivial
 |cs::r,off,q=>by
  simp only[RR]at q⊢;obtain⟨h1,h2,h3⟩:=q;exact⟨h1,CR.keep h hb h2,RR.keep h hb h3⟩
theorem BR.keep{ro ro':Nat->Prop}{σ σ':Sig}{w w':World}(h:Ext ro σ w ro' σ' w'){x:Blk}{s:Option Nat}
  (g:∀b,s=some b->x.live=true->w'.heap[b]?=w.heap[b]?)(q:BR ro σ w x s)(p:∀b c,s=some b->Hid w x b c->w'.heap[c]?=w.heap[c]?):BR ro' σ' w' x s:=by
 cases x with
 |mapO fz t k i=>
  cases s with
  |none=>exact q
  |some b=>
   obtain⟨j,l,c,a,e,f⟩:=q;refine⟨λz=>h.sub b (j z),l,c,?_,e.mono h (λd m=>p b d rfl ⟨l,c,a,m⟩),f⟩;cases fz with
   |false=>rw[g b rfl rfl];exact a
   |true=>rw[h.keep b (j rfl)];exact a
 |dead=>trivial
 |cells t u=>
  cases s with
  |none=>exact q
  |some b=>
   obtain⟨l,a,e,f⟩:=q;exact⟨l,by rw[g b rfl rfl];exact a,e.mono h,f⟩
 |row t k i=>
  cases s with
  |none=>exact q
  |some b=>
   obtain⟨l,a,e⟩:=q;exact⟨l,by rw[g b rfl rfl];exact a,e.mono h.nil⟩
 |rowr t k i=>
  cases s with
  |none=>exact q.elim
  |some b=>
   obtain⟨l,a,e⟩:=q;exact⟨l,by rw[g b rfl rfl];exact a,e.mono h⟩
 |wins t b n c=>
  cases s with
  |none=>exact q
  |some d=>
   obtain⟨l,a,e⟩:=q;exact⟨l,by rw[g d rfl rfl];exact a,e.mono h⟩
 |ents t y B i=>
  cases s with
  |none=>exact q
  |some b=>
   obtain⟨l,a,e⟩:=q;exact⟨l,by rw[g b rfl rfl];exact a,e.mono h⟩
 |map i=>
  cases s with
  |none=>exact q
  |some b=>
   obtain⟨l,c,a,e,f⟩:=q;exact⟨l,c,by rw[g b rfl rfl];exact a,e.mono h.nil,f⟩
 |mapP i=>
  cases s with
  |none=>exact q
  |some b=>
   obtain⟨l,c,a,e,f⟩:=q;exact⟨l,c,by rw[g b rfl rfl];exact a,e.mono h,f⟩
 |frow t k i=>
  cases s with
  |none=>exact q
  |some b=>
   obtain⟨j,l,a,e,f⟩:=q;exact⟨h.sub b j,l,by rw[h.keep b j];exact a,e.mono h.nil,f⟩
 |iter r i=>
  cases s with
  |none=>exact q
  |some b=>exact ItR.keep h (g b rfl rfl) q
 |fmap i=>
  cases s with
  |none=>exact q
  |some b=>
   obtain⟨j,l,c,a,e,f⟩:=q;exact⟨h.sub b j,l,c,by rw[h.keep b j];exact a,e.mono h.nil,f⟩
abbrev Env:=List (Nat×A)
def lk:Env->Nat->A
 |[],_=>.any
 |(d,a)::r,s=>bif Nat.beq s d then a else lk r s
abbrev up(env:Env)(d:Nat)(a:A):Env:=(d,a)::env
inductive AEx where
 |normal|exit (id:Nat)|ret
abbrev QR:=AEx->Env->Qe->Prop
def QcK(fr:Nat->Prop)(ds:List Deferred)(w:World):Prop:=ds.Nodup/\ ∀d∈ds,∃D,d={target:=.collected D,args:= #[]}/\fr D/\w.heap[D]?=some (.deferred (some []))
theorem QcK.keep{fr ro ro':Nat->Prop}{e:List Deferred}{w w':World}(h:QcK fr e w)(k:Qi fr ro w ro' w'):QcK fr e w':=by
 refine⟨h.1,λd f=>?_⟩;obtain⟨D,g,a,i⟩:=h.2 d f;exact⟨D,g,a,(k.keepFr D a).trans i⟩
structure Grow (fr:Nat->Prop) (w:World) (ds:List Deferred) (fr':Nat->Prop) (ds':List Deferred):Prop where
 sub:∀b,fr b->fr' b
 new:∀b,fr' b->fr b\/w.heap.size<=b
 ds:∀d∈ds',d∈ds\/ ∃D,d={target:=.collected D,args:= #[]}/\w.heap.size<=D
theorem Grow.refl(fr:Nat->Prop)(w:World)(ds:List Deferred):Grow fr w ds fr ds:=⟨λ_ h=>h,λ_ h=>.inl h,λ_ h=>.inl h⟩
theorem Grow.trans{fr g a:Nat->Prop}{w w1:World}{ds e f:List Deferred}(h:Grow fr w ds g e)(l:w.heap.size<=w1.heap.size)(k:Grow g w1 e a f):Grow fr w ds a f:=by
 refine⟨λb q=>k.sub b (h.sub b q),λb q=>?_,λd q=>?_⟩
 .rcases k.new b q with q|q
  .exact h.new b q
  omega
 .rcases k.ds d q with q|⟨D,j,i⟩
  .exact h.ds d q
  grind
theorem Qi.frMono{fr fr' ro ro':Nat->Prop}{w w':World}(h:Qi fr' ro w ro' w')(s:∀b,fr b->fr' b):Qi fr ro w ro' w':=
 ⟨h.sub,h.keepRo,λb q=>h.keepFr b (s b q),h.size,h.shape,h.os,h.tape,h.output,h.drawn⟩
theorem Sim.frMono{fr fr' ro:Nat->Prop}{σ:Sig}{H:Qe}{w:World}(h:Sim fr' ro σ H w)(s:∀b,fr b->fr' b):Sim fr ro σ H w:=
 ⟨h.len,h.roOk,λb q=>h.frLt b (s b q),λb q r=>h.roFr b q (s b r),λi b x q1 q2 q3=>let⟨a,b',c⟩:=h.own i b x q1 q2 q3;(by grind),h.inj,h.blk,λi b x c q1 q2 q3=>let k:=h.hid i b x c q1 q2 q3;⟨k.lt,k.ro,λq=>k.fr (s c q),k.ne,k.one⟩⟩
structure Rel (fr ro:Nat->Prop) (σ:Sig) (H:Qe) (env:Env) (N:Nat) (a:Act) (w:World):Prop where
 sim:Sim fr ro σ H w
 env:∀s,VR ro σ w (lk env s) (a.tmps.getD s undef)
 size:a.tmps.size=N
 defers:QcK fr a.defers w
def QdZ(rd:Option Nat)(fr:Nat->Prop)(w:World):Prop:=∀l,rd=some l->fr l/\ ∃r,w.heap[l]?=some (.loop r)
theorem QdY{fr:Nat->Prop}{w:World}:QdZ none fr w:=λl e=>by cases e
theorem QdZ.to{rd:Option Nat}{fr fr' ro ro':Nat->Prop}{w w':World}(h:QdZ rd fr w)(k:Qi fr ro w ro' w')(s:∀b,fr b->fr' b):QdZ rd fr' w':=λl e=>by
 obtain⟨h1,r,h2⟩:=h l e;exact⟨s l h1,r,(k.keepFr l h1).trans h2⟩
def ExR:Exit->AEx->Prop
 |.normal,x=>x=.normal
 |.exit id,x=>x=.exit id
 |.ret,x=>x=.ret
 |_,_=>False
def QaM(h0:Nat)(fr ro:Nat->Prop)(σ:Sig)(w:World)(N:Nat)(ds:List Deferred)(Q:QR):Exit->Act->World->Prop:=
 λe a' w'=>∃x env' H' ro' σ' fr',ExR e x/\Q x env' H'/\Rel fr' ro' σ' H' env' N a' w'/\Qi fr ro w ro' w'/\σ'.take h0=σ.take h0/\Grow fr w ds fr' a'.defers
theorem QaM.grow{i:Nat}{fr f ro d:Nat->Prop}{σ σ1:Sig}{w w1:World}{N:Nat}{l a:List Deferred}{Q:QR}{e:Exit}{a':Act}{w':World}
  (h:QaM i f d σ1 w1 N a Q e a' w')(he:Qi fr ro w d w1)(q:σ1.take i=σ.take i)(hg:Grow fr w l f a):QaM i fr ro σ w N l Q e a' w':=by
 obtain⟨x,g,H',j,σ',k,r,p,m,s,n,t⟩:=h;exact⟨x,g,H',j,σ',k,r,p,m,he.trans (s.frMono hg.sub),n.trans q,hg.trans he.size t⟩
theorem QaM.step{h0:Nat}{fr ro ro1:Nat->Prop}{σ σ1:Sig}{w w1:World}{N:Nat}{ds:List Deferred}{Q:QR}{e:Exit}{a':Act}{w':World}
  (h:QaM h0 fr ro1 σ1 w1 N ds Q e a' w')(he:Qi fr ro w ro1 w1)(hs:σ1.take h0=σ.take h0):QaM h0 fr ro σ w N ds Q e a' w':=h.grow he hs (Grow.refl _ _ _)
theorem QaM.mono{g:Nat}{fr ro:Nat->Prop}{σ:Sig}{w:World}{N:Nat}{i:List Deferred}{Q Q':QR}{e:Exit}{a':Act}{w':World}
  (h:QaM g fr ro σ w N i Q e a' w')(l:∀x env H,Q x env H->Q' x env H):QaM g fr ro σ w N i Q' e a' w':=by
 obtain⟨x,a,H',d,σ',f,m,k,j⟩:=h;exact⟨x,a,H',d,σ',f,m,l _ _ _ k,j⟩
def QbJ(h0:Nat)(fr ro:Nat->Prop)(σ:Sig)(w:World)(N:Nat)(ds:List Deferred)(Q:QR):Exit->Act->World->Prop:=
 λe a' w'=>∃x env' H' ro' σ' fr',ExR e x/\Q x env' H'/\Rel fr' ro' σ' H' env' N a' w'/\Qi fr ro w ro' w'/\σ'.take h0=σ.take h0/\a'.defers=ds/\Grow fr w ds fr' ds
theorem QbJ.grow{g:Nat}{fr d ro a:Nat->Prop}{σ σ1:Sig}{w w1:World}{N:Nat}{i:List Deferred}{Q:QR}{e:Exit}{a':Act}{w':World}
  (h:QbJ g d a σ1 w1 N i Q e a' w')(he:Qi fr ro w a w1)(q:σ1.take g=σ.take g)(hg:Grow fr w i d i):QbJ g fr ro σ w N i Q e a' w':=by
 obtain⟨x,f,H',j,σ',k,r,p,m,s,n,t,l⟩:=h;exact⟨x,f,H',j,σ',k,r,p,m,he.trans (s.frMono hg.sub),n.trans q,t,hg.trans he.size l⟩
theorem QbJ.step{h0:Nat}{fr ro ro1:Nat->Prop}{σ σ1:Sig}{w w1:World}{N:Nat}{ds:List Deferred}{Q:QR}{e:Exit}{a':Act}{w':World}
  (h:QbJ h0 fr ro1 σ1 w1 N ds Q e a' w')(he:Qi fr ro w ro1 w1)(hs:σ1.take h0=σ.take h0):QbJ h0 fr ro σ w N ds Q e a' w':=h.grow he hs (Grow.refl _ _ _)
theorem QbJ.mono{g:Nat}{fr ro:Nat->Prop}{σ:Sig}{w:World}{N:Nat}{i:List Deferred}{Q Q':QR}{e:Exit}{a':Act}{w':World}
  (h:QbJ g fr ro σ w N i Q e a' w')(l:∀x env H,Q x env H->Q' x env H):QbJ g fr ro σ w N i Q' e a' w':=by
 obtain⟨x,a,H',d,σ',f,m,k,j⟩:=h;exact⟨x,a,H',d,σ',f,m,l _ _ _ k,j⟩
theorem QbJ.postW{g:Nat}{fr ro:Nat->Prop}{σ:Sig}{w:World}{N:Nat}{i:List Deferred}{Q:QR}{e:Exit}{a':Act}{w':World}
  (h:QbJ g fr ro σ w N i Q e a' w'):QaM g fr ro σ w N i Q e a' w':=by
 obtain⟨x,a,H',d,σ',f,m,l,j,n,k,q,p⟩:=h;exact⟨x,a,H',d,σ',f,m,l,j,n,k,by grind⟩
def WF(rd:Option Nat):Fence:={Fence.wide with round:=rd}
theorem WF.calls{rd:Option Nat}{P:Program}{f:FuncId}{args:Array Value}{w:World}{R:Ending->World->Prop}:CallsIn (WF rd) 0 P f args w R↔Calls P f args w R:=callsIn_wide
abbrev wpL(P:Program)(rd:Option Nat)(ops:Array Oper)(Q:Exit->Act->World->Prop):List Oper->Act->World->Prop:=wpListIn (WF rd) 0 P ops Q
def TC(P:Program)(h0 N:Nat)(c:Code)(env:Env)(H:Qe)(Q:QR):Prop:=
 ∀rd fr ro σ a w,Rel fr ro σ H env N a w->QdZ rd fr w->c.wpIn (WF rd) 0 P (QaM h0 fr ro σ w N a.defers Q) a w
def WO(P:Program)(h0 N:Nat)(all:Array Oper)(l:List Oper)(env:Env)(H:Qe)(Q:QR):Prop:=
 ∀rd fr ro σ a w,Rel fr ro σ H env N a w->QdZ rd fr w->wpL P rd all (QbJ h0 fr ro σ w N a.defers Q) l a w
def Le(h0:Nat)(env:Env)(H:Qe)(env':Env)(H':Qe):Prop:=
 ∀fr ro σ N a w,Rel fr ro σ H env N a w->∃ro' σ',Rel fr ro' σ' H' env' N a w/\(∀b,ro b->ro' b)/\σ'.take h0=σ.take h0
theorem Le.refl(h0:Nat)(env:Env)(H:Qe):Le h0 env H env H:=λfr ro σ N a w h=>(by grind)
theorem Le.trans{d:Nat}{j i g:Env}{H1 H2 H3:Qe}(h:Le d j H1 i H2)(k:Le d i H2 g H3):Le d j H1 g H3:=by
 intro f m σ N a w r;obtain⟨e,σ1,n,q,s⟩:=h f m σ N a w r;obtain⟨l,σ2,t,u,p⟩:=k f e σ1 N a w n
 grind
theorem YO{fr ro ro':Nat->Prop}{w:World}(h:∀b,ro b->ro' b):Qi fr ro w ro' w:=
 ⟨h,λ_ _=>rfl,λ_ _=>rfl,XS _,λ_ _ h=>h,rfl,rfl,rfl,XS _⟩
theorem YB{P:Program}{rd:Option Nat}{ops:Array Oper}{Q Q':Exit->Act->World->Prop}(hq:∀e a w,Q e a w->Q' e a w):
  ∀(l:List Oper) (a:Act) (w:World),wpL P rd ops Q l a w->wpL P rd ops Q' l a w
 |[],a,w,h=>hq _ _ _ h
 |o::l,a,w,h=>by
  unfold wpL wpListIn at h⊢;split
  .rename_i hw;rw[Vq hw]at h;obtain⟨h1,h2⟩:=h;refine⟨h1,?_⟩
   revert h2
   generalize(o.semAt (WF rd).round a.eval).run P w=r;intro h2;have hk:=λa w=>YB (P:=P) (rd:=rd) (ops:=ops) hq l a w;cases r with
   |ok x w=>
    cases x with
    |value v=>exact hk _ _ h2
    |skip=>exact hk _ _ h2
    |defer d=>exact hk _ _ h2
    |enter f args=>
     refine⟨h2.1,CallsIn.mono h2.2 ?_⟩;intro e w' q;cases e with
     |returned v=>grind
     |panicked c=>grind
     |outgrown=>obtain⟨a,w,q⟩:=q;exact⟨a,w,hq _ _ _ q⟩
    |row r args=>exact⟨h2.1,RowsIn.mono h2.2 λv w' q=>hk _ _ q⟩
    |round l f tmps assign body=>
     refine⟨h2.1,RoundIn.mono h2.2 ?_⟩;intro e w' q;cases e with
     |returned v=>grind
     |panicked c=>grind
     |outgrown=>obtain⟨a,w,q⟩:=q;exact⟨a,w,hq _ _ _ q⟩
    |_=>exact h2
   |halt x w=>
    cases x with
    |panic v=>exact hq _ _ _ h2
    |_=>exact h2
  .rename_i hw;rw[Vp hw]at h;exact⟨h.1,YB hq l _ _ h.2⟩
theorem Qc4{P:Program}{o:Oper}{a:Act}{w w':World}{x:Next}{rd:Option Nat}(h:(execOp a.eval o).run P w=.ok x w')(f:∀d,x≠ .defer d):(o.semAt (WF rd).round a.eval).run P w=.ok x w':=by
 cases e:o.op with
 |defer c=>
  exfalso;have:execOp a.eval o=(do pure (.defer (<- resolve a.eval c o.type))):=by simp[execOp,e]
  rw[this]at h;simp only[Vj]at h;generalize(resolve a.eval c o.type).run P w=r at h;cases r with
  |ok d w2=>simp[Result.andThen,go_sem]at h;grind
  |halt x w2=>simp_all
 |_=>grind[Oper.semAt_eq]
theorem Qab{P:Program}{rd:Option Nat}{ops:Array Oper}{Q:Exit->Act->World->Prop}{o:Oper}{l:List Oper}{a:Act}{w w':World}{v:Value}(f:Region.wanted o (yielded ops a.tmps)=true)
  (h:(execOp a.eval o).run P w=.ok (.value v) w')(k:wpL P rd ops Q l (a.put o.dst v) w'):wpL P rd ops Q (o::l) a w:=by
 unfold wpL wpListIn;rw[Vq f];exact⟨λ_ _=>trivial,by rw[Qc4 h (λd e=>by cases e)];exact k⟩
theorem Qmg{P:Program}{rd:Option Nat}{ops:Array Oper}{Q:Exit->Act->World->Prop}{o:Oper}{l:List Oper}{a:Act}{w w':World}(f:Region.wanted o (yielded ops a.tmps)=true)
  (h:(execOp a.eval o).run P w=.ok .skip w')(k:wpL P rd ops Q l (a.put o.dst undef) w'):wpL P rd ops Q (o::l) a w:=by
 unfold wpL wpListIn;rw[Vq f];exact⟨λ_ _=>trivial,by rw[Qc4 h (λd e=>by cases e)];exact k⟩
theorem Qgz{P:Program}{rd:Option Nat}{ops:Array Oper}{Q:Exit->Act->World->Prop}{o:Oper}{l:List Oper}{a:Act}{w w':World}{f:FuncId}{args:Array Value}(g:Region.wanted o (yielded ops a.tmps)=true)
  (h:(execOp a.eval o).run P w=.ok (.enter f args) w')(k:Calls P f args w' λe w''=>∃v,e=.returned v/\wpL P rd ops Q l (a.put o.dst v) w''):wpL P rd ops Q (o::l) a w:=by
 unfold wpL wpListIn;rw[Vq g];refine⟨λ_ _=>trivial,?_⟩;rw[Qc4 h (λd e=>by cases e)];refine⟨λh=>by simp[WF,Fence.wide]at h,WF.calls.2 (Calls.mono k ?_)⟩
 grind
section
variable {P:Program} {h0 N:Nat} {env env':Env} {H H':Qe} {Q Q':QR} {c c':Code}
theorem TC.mono(h:TC P h0 N c env H Q)(hq:∀x env H,Q x env H->Q' x env H):TC P h0 N c env H Q':=
 λrd fr ro σ a w r hrd=>Code.wpIn_mono (λe a w q=>q.mono hq) (h rd fr ro σ a w r hrd)
theorem Qd(f:Le h0 env H env' H')(h:TC P h0 N c env' H' Q):TC P h0 N c env H Q:=by
 intro i g j σ a w r hrd;obtain⟨d,σ',k,s,t⟩:=f g j σ N a w r;exact Code.wpIn_mono (λe a w q=>q.step (YO s) t) (h i g d σ' a w k hrd)
theorem QG{all:Array Oper}{l:List Oper}(f:Le h0 env H env' H')(h:WO P h0 N all l env' H' Q):WO P h0 N all l env H Q:=by
 intro i g j σ a w r hrd;obtain⟨d,σ',k,s,t⟩:=f g j σ N a w r;exact YB (λe a w q=>q.step (YO s) t) _ _ _ (h i g d σ' a w k hrd)
theorem WO.mono{all:Array Oper}{l:List Oper}(h:WO P h0 N all l env H Q)(hq:∀x env H,Q x env H->Q' x env H):WO P h0 N all l env H Q':=
 λrd fr ro σ a w r hrd=>YB (λe a w q=>q.mono hq) _ _ _ (h rd fr ro σ a w r hrd)
def Seq(P:Program)(h0 N:Nat)(c:Code)(Q:QR):QR
 |.normal,env,H=>TC P h0 N c env H Q
 |.exit id,env,H=>Q (.exit id) env H
 |.ret,env,H=>Q .ret env H
def Blo(id:Nat)(Q:QR):QR
 |.normal,env,H=>Q .normal env H
 |.exit id',env,H=>bif Nat.beq id' id then Q .normal env H else Q (.exit id') env H
 |.ret,env,H=>Q .ret env H
theorem TC.seq(h:TC P h0 N c env H (Seq P h0 N c' Q)):TC P h0 N (.seq c c') env H Q:=by
 intro p s u σ a w r hrd;refine wpIn_seq (Code.wpIn_mono ?_ (h p s u σ a w r hrd));rintro e t y ⟨x,d,H',f,σ',g,j,n,l,i,m,k⟩;cases e with
 |normal=>
  obtain rfl:x=.normal:=j;exact Code.wpIn_mono (λe a w q=>q.grow i m k) (n p g f σ' t y l (hrd.to i k.sub))
 |exit id=>
  obtain rfl:x=.exit id:=j;exact⟨_,d,H',f,σ',g,rfl,n,l,i,m,k⟩
 |ret=>
  obtain rfl:x=.ret:=j;exact⟨_,d,H',f,σ',g,rfl,n,l,i,m,k⟩
 |_=>exact j.elim
theorem TC.skip(h:Q .normal env H):TC P h0 N .skip env H Q:=
 λrd fr ro σ a w r hrd=>wpIn_skip ⟨_,env,H,ro,σ,fr,rfl,h,r,Qi.refl _ _ _,rfl,Grow.refl _ _ _⟩
theorem TC.ret(h:Q .ret env H):TC P h0 N .ret env H Q:=
 λrd fr ro σ a w r hrd=>wpIn_ret ⟨_,env,H,ro,σ,fr,rfl,h,r,Qi.refl _ _ _,rfl,Grow.refl _ _ _⟩
theorem TC.exit{id:Nat}(h:Q (.exit id) env H):TC P h0 N (.exit id) env H Q:=
 λrd fr ro σ a w r hrd=>wpIn_exit ⟨_,env,H,ro,σ,fr,rfl,h,r,Qi.refl _ _ _,rfl,Grow.refl _ _ _⟩
theorem TC.block{id:Nat}(h:TC P h0 N c env H (Blo id Q)):TC P h0 N (.block id c) env H Q:=by
 intro s q t σ a w r hrd;refine wpIn_block (Code.wpIn_mono ?_ (h s q t σ a w r hrd));rintro e u y ⟨x,d,H',g,σ',f,m,i,k,n,l,p⟩;cases e with
 |normal=>
  obtain rfl:x=.normal:=m;exact⟨_,d,H',g,σ',f,rfl,i,k,n,l,p⟩
 |exit j=>
  obtain rfl:x=.exit j:=m;simp only[Exit.inBlock];simp only[Blo]at i;by_cases e:j=id
  .subst e;rw[Vq rfl];rw[VC]at i;exact⟨_,d,H',g,σ',f,rfl,i,k,n,l,p⟩
  .rw[Vp e];have:Nat.beq j id=false:=by
    simp_all[VJ]
   rw[this]at i;exact⟨_,d,H',g,σ',f,rfl,i,k,n,l,p⟩
 |ret=>
  obtain rfl:x=.ret:=m;exact⟨_,d,H',g,σ',f,rfl,i,k,n,l,p⟩
 |_=>exact m.elim
def opA(env:Env):Operand->A
 |.tmp t=>lk env t
 |.const (.bool b)=>.bool b
 |.const (.int k n)=>.int k n
 |.const (.string s)=>.str s.data.toList
 |.const (.pointer none)=>.nilp
 |.const (.slice none 0 0)=>.nils
 |.const (.map none)=>.nilm
 |.const .nilFunc=>.nilf
 |.const .nilIface=>.nilif
 |.func f=>.fn (.func f) [] []
 |_=>.any
theorem Ql{fr ro:Nat->Prop}{σ:Sig}{a:Act}{w:World}(r:Rel fr ro σ H env N a w)(x:Operand):VR ro σ w (opA env x) (a.eval x):=by
 cases x with
 |tmp t=>exact r.env t
 |const v=>
  cases v with
  |slice a n k=>
   cases a with
   |none=>
    cases n with
    |zero=>cases k with
     |zero=>rfl
     |succ k=>trivial
    |succ n=>trivial
   |some a=>trivial
  |pointer p=>cases p with
   |none=>rfl
   |some p=>trivial
  |map p=>cases p with
   |none=>rfl
   |some p=>trivial
  |string s=>rfl
  |_=>simp_all[opA,VR,Act.eval]
 |global g=>trivial
 |func f=>exact⟨[],[],rfl,rfl,rfl⟩
theorem TC.cond{x:Operand}{t:Bool}(k:opA env x=.bool t)(i:t=true->TC P h0 N c env H Q)(j:t=false->TC P h0 N c' env H Q):
  TC P h0 N (.cond x c c') env H Q:=by
 intro h f d σ a w r hrd;have g:=Ql r x;rw[k]at g;exact wpIn_cond_split g (λe=>i e h f d σ a w r hrd) (λe=>j e h f d σ a w r hrd)
theorem QmY{t:Array Value}{d s:Nat}{v:Value}(a:d<t.size):(t.setIfInBounds d v).getD s undef=if s=d then v else t.getD s undef:=by
 simp only[Array.getD_eq_getD_getElem?,Vb]
 grind
theorem VR.up{fr ro:Nat->Prop}{σ:Sig}{a:Act}{w:World}(r:∀s,VR ro σ w (lk env s) (a.tmps.getD s undef)){d:Nat}(f:d<a.tmps.size){x:A}{v:Value}(g:VR ro σ w x v):
  ∀s,VR ro σ w (lk (up env d x) s) ((a.tmps.setIfInBounds d v).getD s undef):=by
 intro s;rw[QmY f];simp only[up,lk];by_cases e:s=d
 .simp_all
 .have:Nat.beq s d=false:=by
   simp_all[VJ]
  grind
def QE(all:Array Oper)(o:Oper)(env:Env)(b:Bool):Prop:=
 match o.guard with
 |none=>b=true
 |some (j,c)=>∃d,(all[j]?).bind (·.dst)=some d/\((∃x,lk env d=.bool x/\b=(x==c))\/(lk env d=.tup []/\b=false))
theorem Jg{all:Array Oper}{o:Oper}{b:Bool}(h:QE all o env b){fr ro:Nat->Prop}{σ:Sig}{a:Act}{w:World}(r:Rel fr ro σ H env N a w):
  Region.wanted o (yielded all a.tmps)=b:=by
 unfold QE at h;unfold Region.wanted;cases k:o.guard with
 |none=>grind
 |some g=>
  obtain⟨j,c⟩:=g;rw[k]at h;obtain⟨d,m,⟨x,f,i⟩|⟨f,i⟩⟩:=h
  .have e:=r.env d;rw[f]at e;simp only[VR]at e;have n:a.tmps[d]?=some (.bool x):=by
    rw[Array.getD_eq_getD_getElem?]at e
    grind[undef]
   simp_all[yielded]
  .have e:=r.env d;rw[f]at e;obtain⟨l,e,p⟩:=e;rw[Array.getD_eq_getD_getElem?]at e;subst i;simp only[yielded,m,XI]
   grind
def OpV(P:Program)(o:Oper)(env:Env)(H:Qe)(x:A):Prop:=
 ∀fr ro σ N a w,Rel fr ro σ H env N a w->∃v,(execOp a.eval o).run P w=.ok (.value v) w/\VR ro σ w x v
def OpH(P:Program)(o:Oper)(env:Env)(H:Qe)(x:A)(H':Qe):Prop:=
 ∀fr ro σ N a w,Rel fr ro σ H env N a w->∃v w' ro' τ,(execOp a.eval o).run P w=.ok (.value v) w'/\VR ro' (σ++τ) w' x v/\
  Sim fr ro' (σ++τ) H' w'/\Qi fr ro w ro' w'
def OpU(P:Program)(o:Oper)(env:Env)(H:Qe)(H':Qe):Prop:=
 ∀fr ro σ N a w,Rel fr ro σ H env N a w->∃w' ro' τ,(execOp a.eval o).run P w=.ok .skip w'/\
  Sim fr ro' (σ++τ) H' w'/\Qi fr ro w ro' w'
theorem WO.nil{all:Array Oper}(h:Q .normal env H):WO P h0 N all [] env H Q:=
 λrd fr ro σ a w r hrd=>⟨_,env,H,ro,σ,fr,rfl,h,r,Qi.refl _ _ _,rfl,rfl,Grow.refl _ _ _⟩
theorem QH{σ τ:Sig}{a:Nat}(h:a<=σ.length):(σ++τ).take a=σ.take a:=by
 grind
theorem QhX{all:Array Oper}{o:Oper}{l:List Oper}{d:Nat}{x:A}(t:h0<=H.length)(hg:QE all o env true)(m:o.dst=some d)(E:Nat.blt d N=true)
  (h:OpH P o env H x H')(k:WO P h0 N all l (up env d x) H' Q):WO P h0 N all (o::l) env H Q:=by
 intro u fr y σ a w r hrd;obtain⟨v,j,f,τ,z,p,n,g⟩:=h fr y σ N a w r;refine Qab (Jg hg r) z ?_;simp only[m,Act.put];have i:d<N:=by simp_all
 have B:Rel fr f (σ++τ) H' (up env d x) N {a with tmps:=a.tmps.setIfInBounds d v} j:=
  ⟨n,VR.up (fr:=fr) (λs=>(r.env s).mono (g.ext σ τ)) (by rw[r.size];exact i) p,by simpa using r.size,r.defers.keep g⟩
 refine YB (λe a w q=>q.step g (QH ?_)) _ _ _ (k u fr f (σ++τ) _ j B (hrd.to g λ_ q=>q));rw[r.sim.len];exact t
theorem YQ{all:Array Oper}{o:Oper}{l:List Oper}{d:Nat}{x:A}(hg:QE all o env true)(h:o.dst=some d)(n:Nat.blt d N=true)
  (e:OpV P o env H x)(k:WO P h0 N all l (up env d x) H Q):WO P h0 N all (o::l) env H Q:=by
 intro j fr g σ a w r hrd;obtain⟨v,m,i⟩:=e fr g σ N a w r;refine Qab (Jg hg r) m ?_;simp only[h,Act.put];have f:d<N:=by simp_all
 exact k j fr g σ {a with tmps:=a.tmps.setIfInBounds d v} w ⟨r.sim,VR.up (fr:=fr) r.env (by rw[r.size];exact f) i,by simpa using r.size,r.defers⟩ hrd
theorem Qnt{all:Array Oper}{o:Oper}{l:List Oper}(n:h0<=H.length)(hg:QE all o env true)(j:o.dst=none)
  (h:OpU P o env H H')(k:WO P h0 N all l env H' Q):WO P h0 N all (o::l) env H Q:=by
 intro p g t σ a w r hrd;obtain⟨i,d,τ,u,m,f⟩:=h g t σ N a w r;refine Qmg (Jg hg r) u ?_;simp only[j,Act.put];have x:Rel g d (σ++τ) H' env N a i:=⟨m,λs=>(r.env s).mono (f.ext σ τ),r.size,r.defers.keep f⟩;refine YB (λe a w q=>q.step f (QH ?_)) _ _ _ (k p g d (σ++τ) _ i x (hrd.to f λ_ q=>q));rw[r.sim.len];exact n
theorem QpF{all:Array Oper}{o:Oper}{l:List Oper}{x:A}(n:h0<=H.length)(hg:QE all o env true)(j:o.dst=none)
  (h:OpH P o env H x H')(k:WO P h0 N all l env H' Q):WO P h0 N all (o::l) env H Q:=by
 intro p g t σ a w r hrd;obtain⟨v,i,d,τ,u,z,m,f⟩:=h g t σ N a w r;refine Qab (Jg hg r) u ?_;simp only[j,Act.put];have y:Rel g d (σ++τ) H' env N a i:=⟨m,λs=>(r.env s).mono (f.ext σ τ),r.size,r.defers.keep f⟩;refine YB (λe a w q=>q.step f (QH ?_)) _ _ _ (k p g d (σ++τ) _ i y (hrd.to f λ_ q=>q));rw[r.sim.len];exact n
theorem WO.skip{all:Array Oper}{o:Oper}{l:List Oper}{d:Nat}(hg:QE all o env false)(f:o.dst=some d)(i:Nat.blt d N=true)
  (k:WO P h0 N all l (up env d (.tup [])) H Q):WO P h0 N all (o::l) env H Q:=by
 intro h fr g σ a w r hrd;unfold wpL wpListIn;rw[Jg hg r,Vp (by simp)];refine⟨λ_ _=>trivial,?_⟩;simp only[f,Act.put];have e:d<N:=by simp_all
 exact k h fr g σ {a with tmps:=a.tmps.setIfInBounds d undef} w ⟨r.sim,VR.up (fr:=fr) r.env (by rw[r.size];exact e) ⟨[],rfl,rfl⟩,by simpa using r.size,r.defers⟩ hrd
theorem TC.region{id:Nat}{l:List Oper}(h:WO P h0 N l.toArray l env H Q):TC P h0 N (.region id l.toArray false) env H Q:=
 λrd fr ro σ a w r hrd=>Code.wpIn_mono (λe a w q=>q.postW) (wpIn_region_lit (h rd fr ro σ a w r hrd))
end
mutual
def Y4(ρ:Nat->Nat):A->A
 |.ptr i off=>.ptr (ρ i) off
 |.osl i o n k=>.osl (ρ i) o n k
 |.agg cs=>.agg (Qag ρ cs)
 |.fn f a c=>.fn f (Qag ρ a) (Qag ρ c)
 |.iface t v=>.iface t (Y4 ρ v)
 |.map i=>.map (ρ i)
 |.tup vs=>.tup (Qag ρ vs)
 |a=>a
def Qag(ρ:Nat->Nat):List A->List A
 |[]=>[]
 |a::r=>Y4 ρ a::Qag ρ r
end
def Qil(ρ:Nat->Nat):List (List A)->List (List A)
 |[]=>[]
 |a::r=>Qag ρ a::Qil ρ r
def renP(ρ:Nat->Nat):List (A×A)->List (A×A)
 |[]=>[]
 |a::r=>(Y4 ρ a.1,Y4 ρ a.2)::renP ρ r
def Yc(ρ:Nat->Nat):Blk->Blk
 |.cells t cs=>.cells t (Qag ρ cs)
 |.rowr t k es=>.rowr t k (Qil ρ es)
 |.ents t b1 b2 es=>.ents t (ρ b1) (ρ b2) es
 |.wins t b n c=>.wins t (ρ b) n c
 |.mapP es=>.mapP (renP ρ es)
 |b=>b
theorem QgI(ρ:Nat->Nat)(b1 b2:Nat):∀(es:List Ent),Qil ρ (es.map (eC b1 b2))=es.map (eC (ρ b1) (ρ b2))
 |[]=>rfl
 |e::es=>by
  have:=QgI ρ b1 b2 es;simp only[Vg,Qil,this];congr 1;cases h:e.fl<;>simp[eC,Qag,Y4,h]
theorem Qlj(ρ:Nat->Nat)(b n c:Nat):Qil ρ (QeA b n c)=QeA (ρ b) n c:=by
 unfold QeA
 induction List.range c with
 |nil=>rfl
 |cons j l a=>simp only[Vg,Qil,a];rfl
theorem QN(ρ:Nat->Nat)(x:Blk):(Yc ρ x).live=x.live:=by cases x<;>rfl
theorem Qah(ρ:Nat->Nat)(x:Blk)(w:World)(b c:Nat):Hid w (Yc ρ x) b c↔Hid w x b c:=by cases x<;>exact Iff.rfl
section
variable {ro:Nat->Prop} {σ σ':Sig} {w:World} {ρ:Nat->Nat} (h:∀i:Nat,σ[ρ i]?=σ'[i]?)
include h
mutual
theorem QdW:∀{a:A} {v:Value},VR ro σ w (Y4 ρ a) v↔VR ro σ' w a v
 |.any,_=>by simp only[Y4,VR]
 |.bool b,v=>by simp only[Y4,VR]
 |.int k n,v=>by simp only[Y4,VR]
 |.str s,v=>by simp only[Y4,VR]
 |.nilp,v=>by simp only[Y4,VR]
 |.ptr i off,v=>by simp only[Y4,VR,h]
 |.rp cs,v=>by simp only[Y4,VR]
 |.nils,v=>by simp only[Y4,VR]
 |.rsl k es,v=>by simp only[Y4,VR]
 |.osl i o n k,v=>by simp only[Y4,VR,h]
 |.agg cs,v=>by simp only[Y4,VR];exact exists_congr λl=>and_congr_right λ_=>QbD
 |.fn f a c,v=>by simp only[Y4,VR];exact exists_congr λl=>exists_congr λl'=>and_congr_right λ_=>and_congr QbD QbD
 |.nilf,v=>by simp only[Y4,VR]
 |.iface t a,v=>by simp only[Y4,VR];exact exists_congr λl=>and_congr_right λ_=>QdW
 |.nilif,v=>by simp only[Y4,VR]
 |.map i,v=>by simp only[Y4,VR,h]
 |.nilm,v=>by simp only[Y4,VR]
 |.tup vs,v=>by simp only[Y4,VR];exact exists_congr λl=>and_congr_right λ_=>QbD
theorem QbD:∀{az:List A} {l:List Value},LR ro σ w (Qag ρ az) l↔LR ro σ' w az l
 |[],l=>by simp only[Qag,LR]
 |a::r,l=>by
  simp only[Qag,LR];exact exists_congr λv=>exists_congr λl'=>and_congr_right λ_=>and_congr QdW QbD
end
theorem Qeb:∀(cs:List A),(Qag ρ cs).length=cs.length
 |[]=>rfl
 |a::r=>by simp[Qag,Qeb r]
theorem QhZ{k:Nat}:∀{es:List (List A)} {l:List Value},RL ro σ w k (Qil ρ es) l↔RL ro σ' w k es l
 |[],l=>by rfl
 |a::r,l=>by
  simp only[Qil,RL,Qeb h];exact exists_congr λl1=>exists_congr λl2=>and_congr_right λ_=>and_congr_right λ_=>and_congr (and_congr_left λ_=>QbD h) QhZ
theorem QnV:∀{es:List (A×A)} {l:List MapEntry},ER ro σ w (renP ρ es) l↔ER ro σ' w es l
 |[],l=>by rfl
 |a::r,l=>by
  simp only[renP,ER];exact exists_congr λe=>exists_congr λl'=>and_congr_right λ_=>and_congr (QdW h) (and_congr (QdW h) QnV)
theorem Qib{x:Blk}{s:Option Nat}:BR ro σ w (Yc ρ x) s↔BR ro σ' w x s:=by
 cases x with
 |cells t e=>
  cases s with
  |none=>exact Iff.rfl
  |some b=>simp only[Yc,BR];exact exists_congr λl=>and_congr_right λ_=>and_congr_left λ_=>QbD h
 |rowr t k a=>
  cases s with
  |none=>exact Iff.rfl
  |some b=>simp only[Yc,BR];exact exists_congr λl=>and_congr_right λ_=>QhZ h
 |mapP a=>
  cases s with
  |none=>exact Iff.rfl
  |some b=>simp only[Yc,BR];exact exists_congr λl=>exists_congr λc=>and_congr_right λ_=>and_congr_left λ_=>QnV h
 |wins t b n c=>
  cases s with
  |none=>exact Iff.rfl
  |some d=>
   simp only[Yc,BR];refine exists_congr λl=>and_congr_right λ_=>?_;rw[<- Qlj];exact QhZ h
 |ents t g f a=>
  cases s with
  |none=>exact Iff.rfl
  |some b=>
   simp only[Yc,BR];refine exists_congr λl=>and_congr_right λ_=>?_;rw[<- QgI];exact QhZ h
 |_=>cases s<;>exact Iff.rfl
end
def C(P:Program)(f:FuncId)(args:List A)(H:Qe)(Q:A->Qe->Prop):Prop:=
 ∀fr ro σ vals w,Sim fr ro σ H w->LR ro σ w args vals->Calls P f vals.toArray w λe w'=>
  ∃v r H' ro' τ,e=.returned v/\Q r H'/\Sim fr ro' (σ++τ) H' w'/\VR ro' (σ++τ) w' r v/\Qi fr ro w ro' w'
theorem C.mono{P:Program}{f:FuncId}{args:List A}{H:Qe}{Q Q':A->Qe->Prop}(h:C P f args H Q)(hq:∀r H,Q r H->Q' r H):C P f args H Q':=
 λfr ro σ vals w s l=>(h fr ro σ vals w s l).mono (by grind)
def Qep:Nat->List A->Env
 |_,[]=>[]
 |i,a::r=>(i,a)::Qep (i+1) r
theorem Qfw{ro:Nat->Prop}{σ:Sig}{w:World}:∀{args:List A} {vals:List Value} {i:Nat} (pre:List Value),pre.length=i->LR ro σ w args vals->∀rest:Array Value,
  ∀s,VR ro σ w (lk (Qep i args) s) (((pre++vals).toArray++rest).getD s undef)
 |[],vals,i,pre,hp,hl,rest,s=>trivial
 |a::r,vals,i,pre,hp,hl,rest,s=>by
  simp only[LR]at hl;obtain⟨v,l',rfl,h1,h2⟩:=hl;simp only[Qep,lk];by_cases e:s=i
  .simp_all[Array.getElem?_append]
  .have:Nat.beq s i=false:=by
    simp_all[VJ]
   rw[this];have:=Qfw (i:=i+1) (pre++[v]) (by simp[hp]) h2 rest s
   grind
def QcI(P:Program)(fn:Func)(env:Env)(H:Qe)(r:A):Prop:=
 ∀fr ro σ N a w,Rel fr ro σ H env N a w->∃v,(results fn a.tmps).run P w=.ok v w/\VR ro σ w r v
def QbA(P:Program)(h0:Nat)(fn:Func)(Q:A->Qe->Prop):QR
 |.normal,env,H=>∃env' H' r,Le h0 env H env' H'/\QcI P fn env' H' r/\Q r H'
 |.ret,env,H=>∃env' H' r,Le h0 env H env' H'/\QcI P fn env' H' r/\Q r H'
 |.exit _,_,_=>False
theorem LR.length{ro:Nat->Prop}{σ:Sig}{w:World}:∀{az:List A} {l:List Value},LR ro σ w az l->l.length=az.length
 |[],l,h=>by simp only[LR]at h;simp[h]
 |a::r,l,h=>by
  simp only[LR]at h;obtain⟨v,l',rfl,_,h2⟩:=h;simp[h2.length]
theorem Sim.turn{fr ro:Nat->Prop}{σ:Sig}{H:Qe}{w:World}(s:Sim fr ro σ H w){b:Nat}{obj:Obj}(r:¬ro b)(n:¬fr b)(G:∀(i:Nat) (x:Blk),σ[i]?=some (some b)->H[i]?=some x->x.live=true->False)
  (h:∀(i d:Nat) (x:Blk),σ[i]?=some (some d)->H[i]?=some x->Hid w x d b->False)
  (m:∀y,w.shape? b=some y->(w.putObj b obj).shape? b=some y):Sim fr ro σ H (w.putObj b obj)/\Qi fr ro w ro (w.putObj b obj):=by
 have t:∀c,c≠b->(w.putObj b obj).heap[c]?=w.heap[c]? :=λc p=>World.putObj_heap_other p;have a:(w.putObj b obj).heap.size=w.heap.size:=by simp
 have ev:Qi fr ro w ro (w.putObj b obj):=by
  refine⟨λ_ q=>q,(by grind),(by grind),by omega,λc x q=>?_,rfl,rfl,rfl,XS _⟩
  grind[World.shape?]
 have e:Ext ro σ w ro σ (w.putObj b obj):=by have:=ev.ext σ [];grind
 refine⟨⟨s.len,s.roOk.to (λ_ q=>q) ev.keepRo (λc q=>by rw[a];exact s.roLt c q),λc q=>by rw[a];exact s.frLt c q,s.roFr,λi c x f g u=>?_,s.inj,λi y x f g=>?_,
  s.hidTo (· = ·) Yg (by omega) (by simp) (by simp) λj d y k l z=>.inl ⟨j,y,rfl,k,l,id,λc q=>s.hidKeep k l (by grind) ev.keepRo q⟩⟩,ev⟩
 .obtain⟨F,E,B⟩:=s.own i c x f g u
  grind
 .refine(s.blk i y x f g).keep e ?_ ?_
  .grind
  grind
theorem Qbq{P:Program}{fn:Func}{tmps:Array Value}{R:Ending->World->Prop}{fr ro:Nat->Prop}{σ:Sig}{H:Qe}:
  ∀(ds:List Deferred) (w:World),ds.Nodup->(∀d∈ds,∃D,d={target:=.collected D,args:= #[]}/\ ¬ro D/\ ¬fr D/\(∀(i:Nat) (x:Blk),σ[i]?=some (some D)->H[i]?=some x->x.live=true->False)/\(∀(i d:Nat) (x:Blk),σ[i]?=some (some d)->H[i]?=some x->Hid w x d D->False)/\w.heap[D]?=some (.deferred (some [])))->
  Sim fr ro σ H w->(∀w',Sim fr ro σ H w'->Qi fr ro w ro w'->∃v,(results fn tmps).run P w'=.ok v w'/\R (.returned v) w')->LeavesInM Fence.wide 0 P fn tmps R ds .returning w
 |[],w,_,_,s,hk=>by
  obtain⟨v,h1,h2⟩:=hk w s (Qi.refl _ _ _);exact⟨v,h1,h2⟩
 |d::ds,w,hn,hd,s,hk=>by
  obtain⟨D,rfl,h1,h2,h3,h5,h4⟩:=hd d (by simp);obtain⟨n1,n2⟩:=List.nodup_cons.1 hn;obtain⟨s',ev⟩:=s.turn (obj:=.deferred none) h1 h2 h3 h5 (λy q=>by grind[World.shape?]);refine⟨(by simp),.inl ⟨D,_,rfl,run_takeDeferred h4,?_⟩⟩;refine Qbq ds _ n2 (λd' q=>?_) s' (λw' q1 q2=>hk w' q1 (ev.trans q2));obtain⟨D',rfl,g1,g2,g3,g5,g4⟩:=hd d' (by simp[q]);refine⟨D',rfl,g1,g2,g3,λi d x z1 z2 z3=>g5 i d x z1 z2 (s.hidKeep z1 z2 (λz=>World.putObj_heap_other (by grind)) (λb q=>World.putObj_heap_other (λe:b=D=>h1 (e▸q))) z3),(World.putObj_heap_other (λe=>?_)).trans g4⟩
  grind
theorem QO{P:Program}{f:FuncId}{fn:Func}{c:Code}{N:Nat}{args:List A}{H:Qe}{Q:A->Qe->Prop}
  (hf:P.funcs[f]?=some fn)(hb:fn.body=some c)(hN:fn.ntmps=N)(hA:Nat.ble args.length N=true)
  (h:TC P H.length N c (Qep 0 args) H (QbA P H.length fn Q)):C P f args H Q:=by
 intro fr ro σ vals w hs hl;have T:=hl.length;have aa:args.length<=N:=by simp_all
 refine(callsIn_wide (n:=0)).1 (callsIn_of_wp_marks hf hb trivial (Code.wpIn_mono ?_ (h none fr ro σ _ w ⟨hs,?_,?_,List.nodup_nil,λd l=>by cases l⟩ QdY)))
 .rintro e t k ⟨x,m,H1,B,σ1,M,z,L,h3,h4,h5,X⟩;have p:(∃j H' r,Le H.length m H1 j H'/\QcI P fn j H' r/\Q r H')->LeavesInM Fence.wide 0 P fn t.tmps (λe k=>
    ∃v' r H' a τ,e=.returned v'/\Q r H'/\Sim fr a (σ++τ) H' k/\VR a (σ++τ) k r v'/\Qi fr ro w a k) t.defers .returning k:=by
   rintro⟨j,H',r,J,hr,hq⟩;obtain⟨a,σ',g,u,ht⟩:=J M B σ1 N t k h3;have hσ:σ'=σ++σ'.drop H.length:=by
    have V:σ'.take H.length=σ:=by rw[ht,h5,VF (by rw[hs.len];omega)]
    grind[List.take_append_drop]
   have s1:Sim fr a σ' H' k:=g.sim.frMono X.sub;refine Qbq (ro:=a) (fr:=fr) (σ:=σ') (H:=H') t.defers k g.defers.1 (λd l=>?_) s1 (λw2 Y y=>?_)
   .obtain⟨D,rfl,R,g2⟩:=g.defers.2 d l;refine⟨D,rfl,λq=>g.sim.roFr D q R,λq=>?_,λi x E F O=>(g.sim.own i D x E F O).2.2 R,λi d x E F O=>(g.sim.hid i d x D E F O).fr R,g2⟩;rcases X.ds _ l with W|⟨D',e,W⟩
    .cases W
    .have:D=D':=by simpa using e
     subst this;have:=hs.frLt D q;omega
   .have G:Rel fr a σ' H' j N {t with defers:=[]} w2:=⟨Y,λs=>(g.env s).mono (by have:=y.ext σ' [];grind),g.size,List.nodup_nil,λd l=>by cases l⟩;obtain⟨v,V,e2⟩:=hr fr a σ' N _ w2 G;exact⟨v,V,v,r,H',a,σ'.drop H.length,rfl,hq,hσ▸Y,hσ▸e2,(h4.trans (YO u)).trans y⟩
  cases e with
  |normal=>
   obtain rfl:x=.normal:=z;exact p L
  |ret=>
   obtain rfl:x=.ret:=z;exact p L
  |exit id=>
   obtain rfl:x=.exit id:=z;exact L.elim
  |_=>exact z.elim
 .intro s;have:=Qfw (i:=0) [] rfl hl (Array.replicate (fn.ntmps-vals.toArray.size) undef) s
  grind
 grind
section
variable {P:Program} {fn:Func} {env:Env} {H:Qe}
theorem QcI.nil(h:fn.results= #[]):QcI P fn env H (.tup []):=
 λfr ro σ N a w r=>⟨.tuple #[],by simp[results,h,go_sem],[],rfl,rfl⟩
theorem QcI.one{t:Nat}{x:A}(h:fn.results= #[.tmp t])(hx:lk env t=x):QcI P fn env H x:=
 λfr ro σ N a w r=>⟨a.tmps.getD t undef,by simp[results,h,go_sem],hx▸r.env t⟩
theorem QlV{t u:Nat}{x y:A}(h:fn.results= #[.tmp t,.tmp u])(hx:lk env t=x)(hy:lk env u=y):QcI P fn env H (.tup [x,y]):=
 λfr ro σ N a w r=>⟨.tuple #[a.tmps.getD t undef,a.tmps.getD u undef],by simp[results,h,go_sem],
  [_,_],rfl,_,_,rfl,hx▸r.env t,_,_,rfl,hy▸r.env u,rfl⟩
theorem Qb9{t u v:Nat}{x y z:A}(h:fn.results= #[.tmp t,.tmp u,.tmp v])(hx:lk env t=x)(hy:lk env u=y)(hz:lk env v=z):
  QcI P fn env H (.tup [x,y,z]):=
 λfr ro σ N a w r=>⟨.tuple #[a.tmps.getD t undef,a.tmps.getD u undef,a.tmps.getD v undef],by simp[results,h,go_sem],
  [_,_,_],rfl,_,_,rfl,hx▸r.env t,_,_,rfl,hy▸r.env u,_,_,rfl,hz▸r.env v,rfl⟩
end
inductive Ctl (S B:Type) where
 |cont (s:S)
 |done (b:B)
 deriving DecidableEq
def iter{S B:Type}(step:S->Option (Ctl S B)):Nat->S->Option B
 |0,_=>none
 |n+1,s=>match step s with
  |some (.cont s')=>iter step n s'
  |some (.done b)=>some b
  |none=>none
def Qbi{S B:Type}(I:S->Env->Qe->Prop)(d:Ctl S B)(Q:QR):QR
 |.normal,env,H=>∃s,d=.cont s/\I s env H
 |.exit id,env,H=>(∃b,d=.done b)/\Q (.exit id) env H
 |.ret,env,H=>(∃b,d=.done b)/\Q .ret env H
theorem QnC{P:Program}{h0 N:Nat}{c:Code}{S B:Type}{step:S->Option (Ctl S B)}{I:S->Env->Qe->Prop}{Q:QR}{z:B}
  (body:∀s d env H,I s env H->step s=some d->(∀b,d=.done b->b=z)->TC P h0 N c env H (Qbi I d Q))
  {m:Nat}{L:S}(h:iter step m L=some z){env:Env}{H:Qe}(O:I L env H):TC P h0 N (.loop c) env H Q:=by
 intro T n F σ a w r hrd b k cs hro hb hr;have J:∀m s env H fr1 ro1 σ1 a1 w1,iter step m s=some z->I s env H->Rel fr1 ro1 σ1 H env N a1 w1->Qi n F w ro1 w1->σ1.take h0=σ.take h0->Grow n w a.defers fr1 a1.defers->
   ∃e j i,QaM h0 n F σ w N a.defers Q e j i/\ArrivesIn (Machine.fenced P (WF T)) P (lone (b.atR a1 (.code c::.inLoop c::k)) cs w1) b k cs e j i:=by
  intro m
  induction m with
  |zero=>grind[iter]
  |succ m ih=>
   intro s env H fr1 ro1 σ1 a1 w1 hit O r1 ev1 t1 g1;simp only[iter]at hit;cases W:step s with
   |none=>grind
   |some d=>
    rw[W]at hit;have hd:∀b,d=.done b->b=z:=by
     grind
    obtain⟨e,j,i,G,f⟩:=body s d env H O W hd T fr1 ro1 σ1 a1 w1 r1 (hrd.to ev1 g1.sub) b (.inLoop c::k) cs hro hb hr;obtain⟨x,g,H',u,σ',p,E,t,V,q4,R,q6⟩:=G;have y:=ev1.trans (q4.frMono g1.sub);have X:=g1.trans ev1.size q6;have Y:∀x,Q x g H'->ExR e x->QaM h0 n F σ w N a.defers Q e j i:=λx q q'=>⟨x,g,H',u,σ',p,q',q,V,y,R.trans t1,X⟩;cases e with
    |normal=>
     obtain rfl:x=.normal:=E;obtain⟨s',rfl,t⟩:=t;obtain⟨e2,a2,w2,M,l⟩:=ih s' g H' p u σ' j i hit t V y (R.trans t1) X;exact⟨e2,a2,w2,M,.of_steps (StepsIn.trans f (.one (fenced_calm hb hr rfl) stepR_inLoop)) l⟩
    |exit id=>
     obtain rfl:x=.exit id:=E;exact⟨_,j,i,Y _ t.2 rfl,.pass (x:=.inLoop c) rfl (by simp) f⟩
    |ret=>
     obtain rfl:x=.ret:=E;exact⟨_,j,i,Y _ t.2 rfl,.pass (x:=.inLoop c) rfl (by simp) f⟩
    |_=>exact E.elim
 obtain⟨e,j,i,G,f⟩:=J m L env H n F σ a w h O r (Qi.refl _ _ _) rfl (Grow.refl _ _ _);exact⟨e,j,i,G,.of_steps (.one (fenced_calm hb hr rfl) stepR_loop) f⟩
theorem TC.loop{P:Program}{h0 N:Nat}{c:Code}{S B:Type}{step:S->Option (Ctl S B)}(E:S->Env)(Hp:S->Qe){Q:QR}
  {m:Nat}{s0:S}{b0:B}(h:iter step m s0=some b0){env:Env}{H:Qe}(hI:Le h0 env H (E s0) (Hp s0))
  (body:∀s d,step s=some d->(∀b,d=.done b->b=b0)->TC P h0 N c (E s) (Hp s) (Qbi (λs env H=>Le h0 env H (E s) (Hp s)) d Q)):TC P h0 N (.loop c) env H Q:=
 QnC (I:=λs env H=>Le h0 env H (E s) (Hp s)) (λs d env H hI hs hd=>Qd hI (body s d hs hd)) h hI
def rho(π:List Nat)(n i:Nat):Nat:=
 match π[i]? with
 |some p=>p
 |none=>n+(i-π.length)
def Yx:Qe->List Nat->List Blk->Qe
 |H,[],xs=>H++xs
 |H,p::π,x::xs=>Yx (H.set p x) π xs
 |H,_::_,[]=>H
theorem QcA:∀(π:List Nat) (H:Qe) (xs:List Blk),π.length<=xs.length->(Yx H π xs).length=H.length+(xs.length-π.length)
 |[],H,xs,_=>by simp[Yx]
 |p::π,H,[],h=>by simp at h
 |p::π,H,x::xs,h=>by
  simp only[XY]at h;simp only[Yx,QcA π (H.set p x) xs (by omega),X2,XY];omega
theorem QcM:∀(π:List Nat) (H:Qe) (xs:List Blk) (i:Nat),i<H.length->i∉π->(Yx H π xs)[i]?=H[i]?
 |[],H,xs,i,hi,_=>by simp[Yx,XL hi]
 |p::π,H,[],i,hi,h=>by simp[Yx]
 |p::π,H,x::xs,i,hi,h=>by
  simp only[X4,not_or]at h;simp only[Yx];rw[QcM π (H.set p x) xs i (by grind) h.2,XO (λe=>h.1 e.symm)]
theorem Qfg:∀(π:List Nat) (H:Qe) (xs:List Blk) (j:Nat),π.length<=xs.length->(∀p∈π,p<H.length)->π.Nodup->
  (Yx H π xs)[rho π H.length j]?=xs[j]?
 |[],H,xs,j,_,_,_=>by
  simp_all[Yx,rho,XM]
 |p::π,H,[],j,h,_,_=>by simp at h
 |p::π,H,x::xs,j,h,hp,hn=>by
  simp only[XY]at h;have hn':=List.nodup_cons.1 hn;simp only[Yx];cases j with
  |zero=>
   grind[rho,QcM]
  |succ j=>
   have ih:=Qfg π (H.set p x) xs j (by omega) (λq hq=>by grind) hn'.2;rw[X2]at ih;have e:rho (p::π) H.length (j+1)=rho π H.length j:=by
    simp only[rho,XE,XY];simp
   grind
theorem Qli(π:List Nat)(n i:Nat)(hi:n<=i\/i∈π):∃j,i=rho π n j:=by
 rcases hi with hi|hi
 .refine⟨π.length+(i-n),?_⟩
  grind[rho]
 .obtain⟨j,a,rfl⟩:=List.mem_iff_getElem.1 hi;exact⟨j,by simp[rho,XJ a]⟩
def Yy(σ:Sig)(π:List Nat):Sig:=π.map λp=>(σ[p]?).getD none
theorem QeI{σ τ:Sig}{π:List Nat}{n:Nat}(a:σ.length=n)(d:∀p∈π,p<n)(j:Nat):(σ++τ)[rho π n j]?=(Yy σ π++τ)[j]? :=by
 rcases(by omega)with h|h
 .grind[rho,Yy]
 grind[rho,Yy]
def OpC(P:Program)(o:Oper)(env:Env)(H:Qe)(f:FuncId)(args:List A):Prop:=
 ∀fr ro σ N a w,Rel fr ro σ H env N a w->∃vals:List Value,(execOp a.eval o).run P w=.ok (.enter f vals.toArray) w/\LR ro σ w args vals
theorem Jp{π:List Nat}{H:Qe}{Hc:List Blk}(a:π.map (λp=>H[p]?)=Hc.map some){p:Nat}(d:p∈π):p<H.length:=by
 grind[List.mem_map_of_mem]
theorem WO.call{P:Program}{h0 N:Nat}{all:Array Oper}{o:Oper}{l:List Oper}{env:Env}{H:Qe}{Q:QR}{d:Option Nat}{f:FuncId}
  {args aa:List A}{Hc:Qe}{Qr:A->Qe->Prop}(π:List Nat)(hh:h0<=H.length)(hg:QE all o env true)(hd:o.dst=d)(hN:∀x,d=some x->x<N)
  (ar:OpC P o env H f args)(hargs:args=Qag (rho π H.length) aa)(hH:π.map (λp=>H[p]?)=(Hc.map (Yc (rho π H.length))).map some)(hπ:π.Nodup)
  (hC:C P f aa Hc Qr)
  (k:∀r H1,Qr r H1->WO P h0 N all l (match d with|some d=>up env d (Y4 (rho π H.length) r)|none=>env) (Yx H π (H1.map (Yc (rho π H.length)))) Q):
  WO P h0 N all (o::l) env H Q:=by
 intro rd fr ro σ a w r hrd;obtain⟨ai,h1,h2⟩:=ar fr ro σ N a w r;refine Qgz (Jg hg r) h1 ?_;have hp:∀p∈π,p<H.length:=λp q=>Jp hH q;have hσl:=r.sim.len;have ab:∀(j p:Nat),π[j]?=some p->H[p]?=(Hc[j]?).map (Yc (rho π H.length)):=by
  intro j p M;have:=congrArg (λl=>l[j]?) hH;simp only[Xo,M,Xk]at this;cases e:Hc[j]? with
  |none=>rw[e]at this;simp at this
  |some x=>rw[e]at this;simpa using this
 have aj:π.length=Hc.length:=by simpa using congrArg List.length hH
 have hσc:∀j:Nat,σ[rho π H.length j]?=(Yy σ π)[j]? :=by
  intro j;have:=QeI (τ:=[]) hσl hp j;simpa using this
 let frc:Nat->Prop:=λb=>fr b\/(∃i x,σ[i]?=some (some b)/\H[i]?=some x/\x.live=true/\i∉π)\/ ∃i x d,σ[i]?=some (some d)/\H[i]?=some x/\Hid w x d b/\i∉π
 have hπj:∀(j b:Nat),(Yy σ π)[j]?=some (some b)->∃p,π[j]?=some p/\σ[p]?=some (some b):=by
  intro j b M;simp only[Yy,Xo]at M;cases e:π[j]? with
  |none=>rw[e]at M;simp at M
  |some p=>
   rw[e]at M;simp at M;refine⟨p,rfl,?_⟩;cases e2:σ[p]? with
   |none=>rw[e2]at M;simp at M
   |some s=>rw[e2]at M;simp at M;rw[M]
 have hπi:∀(i j p:Nat),π[i]?=some p->π[j]?=some p->i=j:=by
  intro i j p T R;have hi:i<π.length:=by
   rcases Vz i π.length with q|q
   .exact q
   .rw[XN q]at T;simp at T
  have M:j<π.length:=by
   rcases Vz j π.length with q|q
   .exact q
   .rw[XN q]at R;simp at R
  rw[XJ hi]at T;rw[XJ M]at R;have ae:=(XX T).trans (XX R).symm;rcases Nat.lt_trichotomy i j with q|q|q
  .exact(VB.1 hπ i j hi M q ae).elim
  .exact q
  .exact(VB.1 hπ j i M hi q ae.symm).elim
 have ak:Sim frc ro (Yy σ π) Hc w:=by
  refine⟨by simp[Yy,aj],r.sim.roOk,?_,?_,?_,?_,?_,?_⟩
  .rintro b (hb|⟨i,x,h,g,m,J⟩|⟨i,x,d,h,g,m,J⟩)
   .exact r.sim.frLt b hb
   .exact(r.sim.own i b x h g m).1
   .exact(r.sim.hid i d x b h g m).lt
  .rintro b hb (hf|⟨i,x,h,g,m,J⟩|⟨i,x,d,h,g,m,J⟩)
   .exact r.sim.roFr b hb hf
   .exact(r.sim.own i b x h g m).2.1 hb
   .exact(r.sim.hid i d x b h g m).ro hb
  .intro j b x h g m;obtain⟨p,T,e2⟩:=hπj j b h;have e3:H[p]?=some (Yc (rho π H.length) x):=by rw[ab j p T,g];rfl
   obtain⟨o1,o2,o3⟩:=r.sim.own p b _ e2 e3 (by rw[QN];exact m);refine⟨o1,o2,?_⟩;rintro(hf|⟨i,y,y1,y2,y3,y4⟩|⟨i,y,d,y1,y2,y3,y4⟩)
   .exact o3 hf
   .have:=r.sim.inj i p b _ _ y1 e2 y2 e3 y3 (by rw[QN];exact m);subst this;exact y4 (VE T)
   .exact(r.sim.hid i d y b y1 y2 y3).ne p b _ e2 e3 (by rw[QN];exact m) rfl
  .intro i j b x y h g m J X q6;obtain⟨p,T,e2⟩:=hπj i b h;obtain⟨p',R,an⟩:=hπj j b g;have e3:H[p]?=some (Yc (rho π H.length) x):=by rw[ab i p T,m];rfl
   have aq:H[p']?=some (Yc (rho π H.length) y):=by rw[ab j p' R,J];rfl
   have:=r.sim.inj p p' b _ _ e2 an e3 aq (by rw[QN];exact X) (by rw[QN];exact q6);subst this;have hi:i<π.length:=by
    rcases Vz i π.length with q|q
    .exact q
    .rw[XN q]at T;simp at T
   have M:j<π.length:=by
    rcases Vz j π.length with q|q
    .exact q
    .rw[XN q]at R;simp at R
   rw[XJ hi]at T;rw[XJ M]at R;have ae:=(XX T).trans (XX R).symm;rcases Nat.lt_trichotomy i j with q|q|q
   .exact(VB.1 hπ i j hi M q ae).elim
   .exact q
   .exact(VB.1 hπ j i M hi q ae.symm).elim
  .intro j s x h g;have M:j<π.length:=by
    rcases Vz j π.length with q|q
    .exact q
    .rw[XN (by simpa[Yy]using q)]at h;simp at h
   have T:π[j]?=some π[j]:=XJ M;have e3:H[π[j]]?=some (Yc (rho π H.length) x):=by rw[ab j _ T,g];rfl
   have e2:σ[π[j]]?=some s:=by
    have:=hσc j;rw[h]at this;simpa[rho,T]using this
   exact(Qib hσc).1 (r.sim.blk _ s _ e2 e3)
  .intro j b x c h g m;obtain⟨p,T,e2⟩:=hπj j b h;have e3:H[p]?=some (Yc (rho π H.length) x):=by rw[ab j p T,g];rfl
   have k:=r.sim.hid p b _ c e2 e3 ((Qah _ _ _ _ _).2 m);refine⟨k.lt,k.ro,?_,?_,?_⟩
   .rintro(hf|⟨i,y,y1,y2,y3,y4⟩|⟨i,y,d,y1,y2,y3,y4⟩)
    .exact k.fr hf
    .exact k.ne i c y y1 y2 y3 rfl
    .obtain⟨rfl,rfl⟩:=k.one i d y y1 y2 y3;exact y4 (VE T)
   .intro O b' y L n Y;obtain⟨p',f1,f2⟩:=hπj O b' L;exact k.ne p' b' _ f2 (show H[p']?=some (Yc (rho π H.length) y)by rw[ab O p' f1,n];rfl) (by rw[QN];exact Y)
   .intro O b' y L n Y;obtain⟨p',f1,f2⟩:=hπj O b' L;obtain⟨z4,z5⟩:=k.one p' b' _ f2 (show H[p']?=some (Yc (rho π H.length) y)by rw[ab O p' f1,n];rfl) ((Qah _ _ _ _ _).2 Y);subst z5;exact⟨z4,hπi O j p' f1 T⟩
 have ag:LR ro (Yy σ π) w aa ai:=(QbD hσc).1 (hargs▸h2);refine Calls.mono (hC frc ro (Yy σ π) ai w ak ag) ?_;rintro e w' ⟨v,rr,H1,ac,τ,rfl,hq,sc,hv,ev⟩;have hσ':∀j:Nat,(σ++τ)[rho π H.length j]?=(Yy σ π++τ)[j]? :=λj=>QeI hσl hp j;have au:H1.length=π.length+τ.length:=by rw[<- sc.len];simp[Yy]
 have al:π.length<=(H1.map (Yc (rho π H.length))).length:=by simp;omega
 have W:Qi fr ro w ac w':=⟨ev.sub,ev.keepRo,λb q=>ev.keepFr b (.inl q),ev.size,ev.shape,ev.os,ev.tape,ev.output,ev.drawn⟩;have G:∀j,(Yx H π (H1.map (Yc (rho π H.length))))[rho π H.length j]?=(H1[j]?).map (Yc (rho π H.length)):=by
  intro j;rw[Qfg π H _ j al hp hπ];simp
 have B:∀i,i<H.length->i∉π->(Yx H π (H1.map (Yc (rho π H.length))))[i]?=H[i]? :=λi=>QcM π H _ i;have t:∀i:Nat,(∃j,i=rho π H.length j)\/(i<H.length/\i∉π):=by
  intro i;by_cases q:H.length<=i\/i∈π
  .exact .inl (Qli π H.length i q)
  .simp only[not_or]at q;exact .inr ⟨by omega,q.2⟩
 have F:∀i b x,i<H.length->i∉π->σ[i]?=some (some b)->H[i]?=some x->x.live=true->frc b:=λi b x h g m J X=>.inr (.inl ⟨i,x,m,J,X,g⟩);have af:∀i b x c,i<H.length->i∉π->σ[i]?=some (some b)->H[i]?=some x->Hid w' x b c->Hid w x b c/\frc c:=λi b x c h g m J X=>
  have q6:=r.sim.hidKeep m J (λz=>ev.keepFr b (F i b x h g m J z)) ev.keepRo X
  ⟨q6,.inr (.inr ⟨i,x,b,m,J,q6,g⟩)⟩
 have ah:Sim fr ac (σ++τ) (Yx H π (H1.map (Yc (rho π H.length)))) w':=by
  refine⟨?_,sc.roOk,λb q=>sc.frLt b (.inl q),λb q q'=>sc.roFr b q (.inl q'),?_,?_,?_,?_⟩
  .rw[QcA _ _ _ al];simp[hσl,au]
  .intro i b x h g m;rcases t i with⟨j,rfl⟩|⟨c1,c2⟩
   .rw[hσ']at h;rw[G]at g;cases e:H1[j]? with
    |none=>rw[e]at g;simp at g
    |some y=>
     rw[e]at g;simp at g;subst g;obtain⟨o1,o2,o3⟩:=sc.own j b y h e (by rw[QN]at m;exact m);exact⟨o1,o2,λq=>o3 (.inl q)⟩
   .rw[B i c1 c2]at g;rw[XL (by omega)]at h;obtain⟨o1,o2,o3⟩:=r.sim.own i b x h g m;exact⟨Vc o1 ev.size,λq=>sc.roFr b q (F i b x c1 c2 h g m),o3⟩
  .intro i E b x y h g m J X q6;have ad:∀(i E:Nat) (x y:Blk),(∃j,i=rho π H.length j)->(E<H.length/\E∉π)->(σ++τ)[i]?=some (some b)->(σ++τ)[E]?=some (some b)->
     (Yx H π (H1.map (Yc (rho π H.length))))[i]?=some x->(Yx H π (H1.map (Yc (rho π H.length))))[E]?=some y->x.live=true->y.live=true->False:=by
    rintro i E x y ⟨j,rfl⟩ ⟨c1,c2⟩ h g m J X q6;rw[hσ']at h;rw[G]at m;rw[B E c1 c2]at J;rw[XL (by omega)]at g;cases e:H1[j]? with
    |none=>rw[e]at m;simp at m
    |some z=>
     rw[e]at m;simp at m;subst m;exact(sc.own j b z h e (by rw[QN]at X;exact X)).2.2 (F E b y c1 c2 g J q6)
   rcases t i with ci|ci<;>rcases t E with ci'|ci'
   .obtain⟨j,rfl⟩:=ci;obtain⟨O,rfl⟩:=ci';rw[hσ']at h g;rw[G]at m J;cases e:H1[j]? with
    |none=>rw[e]at m;simp at m
    |some z=>
     cases V:H1[O]? with
     |none=>rw[V]at J;simp at J
     |some z'=>
      rw[e]at m;simp at m;subst m;rw[V]at J;simp at J;subst J;rw[sc.inj j O b z z' h g e V (by rw[QN]at X;exact X) (by rw[QN]at q6;exact q6)]
   .exact(ad i E x y ci ci' h g m J X q6).elim
   .exact(ad E i y x ci' ci g h J m q6 X).elim
   .rw[B i ci.1 ci.2]at m;rw[B E ci'.1 ci'.2]at J;rw[XL (by omega)]at h g;exact r.sim.inj i E b x y h g m J X q6
  .intro i s x h g;rcases t i with⟨j,rfl⟩|⟨c1,c2⟩
   .rw[hσ']at h;rw[G]at g;cases e:H1[j]? with
    |none=>rw[e]at g;simp at g
    |some y=>
     rw[e]at g;simp at g;subst g;exact(Qib hσ').2 (sc.blk j s y h e)
   .rw[B i c1 c2]at g;rw[XL (by omega)]at h;refine BR.keep (W.ext σ τ) ?_ (r.sim.blk i s x h g) ?_
    .rintro b rfl hl;exact ev.keepFr b (F i b x c1 c2 h g hl)
    .rintro b c rfl hl;exact ev.keepFr c (.inr (.inr ⟨i,x,b,h,g,hl,c2⟩))
  .intro i b x c h g m;rcases t i with⟨j,rfl⟩|⟨c1,c2⟩
   .rw[hσ']at h;rw[G]at g;cases e:H1[j]? with
    |none=>rw[e]at g;simp at g
    |some y=>
     rw[e]at g;simp at g;subst g;have k:=sc.hid j b y c h e ((Qah _ _ _ _ _).1 m);refine⟨k.lt,k.ro,λq=>k.fr (.inl q),?_,?_⟩
     .intro E b' y' L n Y;rcases t E with⟨O,rfl⟩|⟨d1,d2⟩
      .rw[hσ']at L;rw[G]at n;cases V:H1[O]? with
       |none=>rw[V]at n;simp at n
       |some u=>
        rw[V]at n;simp at n;subst n;exact k.ne O b' u L V (by rw[QN]at Y;exact Y)
      .rw[B E d1 d2]at n;rw[XL (by omega)]at L;rintro rfl;exact k.fr (F E c y' d1 d2 L n Y)
     .intro E b' y' L n Y;rcases t E with⟨O,rfl⟩|⟨d1,d2⟩
      .rw[hσ']at L;rw[G]at n;cases V:H1[O]? with
       |none=>rw[V]at n;simp at n
       |some u=>
        rw[V]at n;simp at n;subst n;obtain⟨z4,rfl⟩:=k.one O b' u L V ((Qah _ _ _ _ _).1 Y);exact⟨z4,rfl⟩
      .rw[B E d1 d2]at n;rw[XL (by omega)]at L;exact(k.fr (af E b' y' c d1 d2 L n Y).2).elim
   .rw[B i c1 c2]at g;rw[XL (by omega)]at h;obtain⟨J,X⟩:=af i b x c c1 c2 h g m;have k:=r.sim.hid i b x c h g J;refine⟨Vc k.lt ev.size,λq=>sc.roFr c q X,k.fr,?_,?_⟩
    .intro E b' y' L n Y;rcases t E with⟨O,rfl⟩|⟨d1,d2⟩
     .rw[hσ']at L;rw[G]at n;cases V:H1[O]? with
      |none=>rw[V]at n;simp at n
      |some u=>
       rw[V]at n;simp at n;subst n;rintro rfl;exact(sc.own O c u L V (by rw[QN]at Y;exact Y)).2.2 X
     .rw[B E d1 d2]at n;rw[XL (by omega)]at L;exact k.ne E b' y' L n Y
    .intro E b' y' L n Y;rcases t E with⟨O,rfl⟩|⟨d1,d2⟩
     .rw[hσ']at L;rw[G]at n;cases V:H1[O]? with
      |none=>rw[V]at n;simp at n
      |some u=>
       rw[V]at n;simp at n;subst n;exact((sc.hid O b' u c L V ((Qah _ _ _ _ _).1 Y)).fr X).elim
     .rw[B E d1 d2]at n;rw[XL (by omega)]at L;exact k.one E b' y' L n (af E b' y' c d1 d2 L n Y).1
 have ao:VR ac (σ++τ) w' (Y4 (rho π H.length) rr) v:=(QdW hσ').2 hv;have hk:=k rr H1 hq;cases d with
 |none=>
  simp only[hd,Act.put];have r':Rel fr ac (σ++τ) (Yx H π (H1.map (Yc (rho π H.length)))) env N a w':=⟨ah,λs=>(r.env s).mono (W.ext σ τ),r.size,r.defers.keep W⟩;exact⟨_,rfl,YB (λe a w q=>q.step W (QH (by omega))) _ _ _ (hk rd fr ac (σ++τ) _ w' r' (hrd.to W λ_ q=>q))⟩
 |some d=>
  simp only[hd,Act.put];have am:=hN d rfl;have r':Rel fr ac (σ++τ) (Yx H π (H1.map (Yc (rho π H.length)))) (up env d (Y4 (rho π H.length) rr)) N {a with tmps:=a.tmps.setIfInBounds d v} w':=
   ⟨ah,VR.up (fr:=fr) (λs=>(r.env s).mono (W.ext σ τ)) (by rw[r.size];exact am) ao,by simpa using r.size,r.defers.keep W⟩
  exact⟨_,rfl,YB (λe a w q=>q.step W (QH (by omega))) _ _ _ (hk rd fr ac (σ++τ) _ w' r' (hrd.to W λ_ q=>q))⟩
section
variable {P:Program} {o:Oper} {env:Env} {H:Qe}
theorem QB{fr ro:Nat->Prop}{σ:Sig}{N:Nat}{a:Act}{w:World}(r:Rel fr ro σ H env N a w){x:Operand}{k:IntKind}{n:Int}(h:opA env x=.int k n):a.eval x=.int k n:=by
 have:=Ql r x;rw[h]at this;exact this
theorem Qdb{fr ro:Nat->Prop}{σ:Sig}{N:Nat}{a:Act}{w:World}(r:Rel fr ro σ H env N a w){x:Operand}{b:Bool}(h:opA env x=.bool b):a.eval x=.bool b:=by
 have:=Ql r x;rw[h]at this;exact this
theorem QeN{fr ro:Nat->Prop}{σ:Sig}{N:Nat}{a:Act}{w:World}(r:Rel fr ro σ H env N a w){x:Operand}{s:List UInt8}(h:opA env x=.str s):a.eval x=.string ⟨s.toArray⟩:=by
 have:=Ql r x;rw[h]at this;exact this
theorem OpV.move{x:Operand}{v:A}(ho:o.op=.move x)(hx:opA env x=v):OpV P o env H v:=
 λfr ro σ N a w r=>⟨a.eval x,by simp[execOp,ho,go_sem],hx▸Ql r x⟩
theorem OpV.assign{x:Operand}{v:A}(ho:o.op=.assign x)(hx:opA env x=v):OpV P o env H v:=
 λfr ro σ N a w r=>⟨a.eval x,by simp[execOp,ho,go_sem],hx▸Ql r x⟩
theorem OpV.pick{c x y:Operand}{b:Bool}{v:A}(h:o.op=.pick c x y)(d:opA env c=.bool b)(i:(if b then opA env x else opA env y)=v):OpV P o env H v:=by
 intro f e σ N a w r;have g:=Qdb r d;refine⟨if b then a.eval x else a.eval y,by simp_all[execOp,asBool],?_⟩
 grind[Ql]
theorem OpV.add{t u:TypeId}{x y:Operand}{k:IntKind}{m n:Int}(j:o.op=.binOp .add t x y u)(e:opA env x=.int k m)(d:opA env y=.int k n):OpV P o env H (.int k (k.wrap (m+n))):=by
 intro h f σ N a w r;have g:=QB r e;have i:=QB r d;refine⟨_,?_,rfl⟩
 simp_all[execOp,Go.binOp,eqGuard,Op.intArith]
theorem OpV.sub{t u:TypeId}{x y:Operand}{k:IntKind}{m n:Int}(j:o.op=.binOp .sub t x y u)(e:opA env x=.int k m)(d:opA env y=.int k n):OpV P o env H (.int k (k.wrap (m-n))):=by
 intro h f σ N a w r;have g:=QB r e;have i:=QB r d;refine⟨_,?_,rfl⟩
 simp_all[execOp,Go.binOp,eqGuard,Op.intArith]
theorem OpV.mul{t u:TypeId}{x y:Operand}{k:IntKind}{m n:Int}(j:o.op=.binOp .mul t x y u)(e:opA env x=.int k m)(d:opA env y=.int k n):OpV P o env H (.int k (k.wrap (m*n))):=by
 intro h f σ N a w r;have g:=QB r e;have i:=QB r d;refine⟨_,?_,rfl⟩
 simp_all[execOp,Go.binOp,eqGuard,Op.intArith]
theorem OpV.cmp{op:BinOp}{t u:TypeId}{x y:Operand}{k:IntKind}{m n:Int}{f:Int->Int->Bool}(j:o.op=.binOp op t x y u)(h:opA env x=.int k m)(e:opA env y=.int k n)
  (d:op=.eql/\f=(λa b=>a==b)\/op=.neq/\f=(λa b=>a != b)\/op=.lss/\f=(λa b=>decide (a<b))\/op=.leq/\f=(λa b=>decide (a<=b))\/
   op=.gtr/\f=(λa b=>decide (b<a))\/op=.geq/\f=(λa b=>decide (b<=a))):OpV P o env H (.bool (f m n)):=by
 intro l p σ N a w r;have i:=QB r h;have g:=QB r e;refine⟨_,?_,rfl⟩;generalize a.eval=ρ at*;rcases d with⟨rfl,rfl⟩|⟨rfl,rfl⟩|⟨rfl,rfl⟩|⟨rfl,rfl⟩|⟨rfl,rfl⟩|⟨rfl,rfl⟩<;>simp[execOp,j,i,g,Go.binOp,eqGuard,Op.intCmp,go_sem]
theorem OpV.eql{t u:TypeId}{x y:Operand}{k:IntKind}{m n:Int}(ho:o.op=.binOp .eql t x y u)(hx:opA env x=.int k m)(hy:opA env y=.int k n):OpV P o env H (.bool (m==n)):=
 OpV.cmp (f:=λa b=>a==b) ho hx hy (by simp)
theorem OpV.neq{t u:TypeId}{x y:Operand}{k:IntKind}{m n:Int}(ho:o.op=.binOp .neq t x y u)(hx:opA env x=.int k m)(hy:opA env y=.int k n):OpV P o env H (.bool (m != n)):=
 OpV.cmp (f:=λa b=>a != b) ho hx hy (by simp)
theorem OpV.lss{t u:TypeId}{x y:Operand}{k:IntKind}{m n:Int}(ho:o.op=.binOp .lss t x y u)(hx:opA env x=.int k m)(hy:opA env y=.int k n):OpV P o env H (.bool (decide (m<n))):=
 OpV.cmp (f:=λa b=>decide (a<b)) ho hx hy (by simp)
theorem OpV.leq{t u:TypeId}{x y:Operand}{k:IntKind}{m n:Int}(ho:o.op=.binOp .leq t x y u)(hx:opA env x=.int k m)(hy:opA env y=.int k n):OpV P o env H (.bool (decide (m<=n))):=
 OpV.cmp (f:=λa b=>decide (a<=b)) ho hx hy (by simp)
theorem OpV.gtr{t u:TypeId}{x y:Operand}{k:IntKind}{m n:Int}(ho:o.op=.binOp .gtr t x y u)(hx:opA env x=.int k m)(hy:opA env y=.int k n):OpV P o env H (.bool (decide (n<m))):=
 OpV.cmp (f:=λa b=>decide (b<a)) ho hx hy (by simp)
theorem OpV.geq{t u:TypeId}{x y:Operand}{k:IntKind}{m n:Int}(ho:o.op=.binOp .geq t x y u)(hx:opA env x=.int k m)(hy:opA env y=.int k n):OpV P o env H (.bool (decide (n<=m))):=
 OpV.cmp (f:=λa b=>decide (b<=a)) ho hx hy (by simp)
theorem OpV.rem{t u:TypeId}{x y:Operand}{k:IntKind}{m n:Int}(l:o.op=.binOp .rem t x y u)(e:opA env x=.int k m)(d:opA env y=.int k n)(h:n≠0):OpV P o env H (.int k (m.tmod n)):=by
 intro f i σ N a w r;have j:=QB r e;have g:=QB r d;exact⟨_,by simp_all[execOp,Go.binOp,eqGuard,Op.intDiv],rfl⟩
theorem OpV.quo{t u:TypeId}{x y:Operand}{k:IntKind}{m n:Int}(l:o.op=.binOp .quo t x y u)(e:opA env x=.int k m)(d:opA env y=.int k n)(h:n≠0):OpV P o env H (.int k (k.wrap (m.tdiv n))):=by
 intro f i σ N a w r;have j:=QB r e;have g:=QB r d;exact⟨_,by simp_all[execOp,Go.binOp,eqGuard,Op.intDiv],rfl⟩
theorem OpV.not{t:TypeId}{x:Operand}{b:Bool}(h:o.op=.unOp .not t x)(d:opA env x=.bool b):OpV P o env H (.bool !b):=by
 intro g e σ N a w r;have f:=Qdb r d;exact⟨_,by simp_all[execOp,Op.unary],rfl⟩
theorem OpV.neg{t:TypeId}{x:Operand}{k:IntKind}{n:Int}(h:o.op=.unOp .neg t x)(d:opA env x=.int k n):OpV P o env H (.int k (k.wrap (0-n))):=by
 intro g e σ N a w r;have f:=QB r d;exact⟨_,by simp_all[execOp,Op.unary,Op.intArith],rfl⟩
theorem Yz{s t:TypeId}{x:Operand}{k e:IntKind}{n:Int}{f:TypeDesc}(m:o.op=.convert s t x)(i:∀w,(underlying s).run P w=.ok f w)(g:∀w,(underlying t).run P w=.ok (.int k) w)
  (d:opA env x=.int e n):OpV P o env H (.int k (k.wrap n)):=by
 intro h j σ N a w r;have l:=QB r d;refine⟨_,?_,rfl⟩
 simp_all[execOp,convert,Conv.intToInt]
theorem Qcr{op:BinOp}{t u:TypeId}{x y:Operand}{p q:List UInt8}{f:List UInt8->List UInt8->Bool}(k:o.op=.binOp op t x y u)(h:opA env x=.str p)(e:opA env y=.str q)
  (d:op=.eql/\f=(λa b=>a==b)\/op=.neq/\f=(λa b=>a != b)\/op=.lss/\f=Op.bytesLess\/op=.geq/\f=(λa b=> !Op.bytesLess a b)\/
   op=.leq/\f=(λa b=>Op.bytesLess a b||a==b)\/op=.gtr/\f=(λa b=> !(Op.bytesLess a b||a==b))):OpV P o env H (.bool (f p q)):=by
 intro m n σ N a w r;have j:=QeN r h;have g:=QeN r e;refine⟨_,?_,rfl⟩;generalize a.eval=ρ at*;have l:(⟨p.toArray⟩:ByteArray).toList=p:=by simp
 have i:(⟨q.toArray⟩:ByteArray).toList=q:=by simp
 rcases d with⟨rfl,rfl⟩|⟨rfl,rfl⟩|⟨rfl,rfl⟩|⟨rfl,rfl⟩|⟨rfl,rfl⟩|⟨rfl,rfl⟩<;>simp[execOp,k,j,g,Go.binOp,eqGuard,Op.stringOp,l,i,go_sem,bne]
theorem Qd1{t u:TypeId}{x y:Operand}{p q:List UInt8}(ho:o.op=.binOp .eql t x y u)(hx:opA env x=.str p)(hy:opA env y=.str q):OpV P o env H (.bool (p==q)):=
 Qcr (f:=λa b=>a==b) ho hx hy (by simp)
theorem QlY{t u:TypeId}{x y:Operand}{p q:List UInt8}(ho:o.op=.binOp .neq t x y u)(hx:opA env x=.str p)(hy:opA env y=.str q):OpV P o env H (.bool (p != q)):=
 Qcr (f:=λa b=>a != b) ho hx hy (by simp)
theorem QlZ{t u:TypeId}{x y:Operand}{p q:List UInt8}(ho:o.op=.binOp .lss t x y u)(hx:opA env x=.str p)(hy:opA env y=.str q):OpV P o env H (.bool (Op.bytesLess p q)):=
 Qcr ho hx hy (by simp)
theorem Ql0{t:TypeId}{x y:Operand}{s:List UInt8}{k:IntKind}{n:Int}{c:UInt8}(z:o.op=.index t x y)(l:∀w,(underlying t).run P w=.ok .string w)(g:opA env x=.str s)(f:opA env y=.int k n)
  (B:0<=n)(j:s[n.toNat]?=some c):OpV P o env H (.int .u8 c.toNat):=by
 intro m q σ N a w r;have u:=QeN r g;have p:=QB r f;have h:(⟨s.toArray⟩:ByteArray)[n.toNat]?=some c:=by
  obtain⟨d,i⟩:=XK.1 j;have e:(⟨s.toArray⟩:ByteArray).size=s.length:=by rfl
  rw[getElem?_pos _ _ (by rw[e];exact d)];show some (s.toArray[n.toNat]'(by omega))=some c;simp[i]
 refine⟨_,?_,rfl⟩
 simp_all[execOp,Instr.index,asIntOf]
theorem Je{c:Call}{t:TypeId}{x:Operand}{s:List UInt8}(g:o.op=.call c)(f:c={callee:=.builtin .len,args:= #[x],argTypes:= #[t]})(d:∀w,(underlying t).run P w=.ok .string w)
  (h:opA env x=.str s):OpV P o env H (.int .i64 s.length):=by
 intro j i σ N a w r;have e:=QeN r h;refine⟨_,?_,rfl⟩;generalize a.eval=ρ at*;subst f;simp[execOp,g,e,resolve,invoke,Go.builtin,Builtin.len_,d,goInt,go_sem]<;>rfl
theorem QnJ{c:Call}{t e:TypeId}{x:Operand}{k:Nat}{es:List (List A)}(j:o.op=.call c)(i:c={callee:=.builtin .len,args:= #[x],argTypes:= #[t]})(g:∀w,(underlying t).run P w=.ok (.slice e) w)
  (h:opA env x=.rsl k es):OpV P o env H (.int .i64 es.length):=by
 intro m n σ N a w r;have d:=Ql r x;rw[h]at d;obtain⟨l,f,d,_⟩:=d;refine⟨_,?_,rfl⟩;generalize a.eval=ρ at*;subst i;simp[execOp,j,d,resolve,invoke,Go.builtin,Builtin.len_,g,goInt,go_sem]
theorem Qje{c:Call}{t e:TypeId}{x:Operand}{i s n k:Nat}(l:o.op=.call c)(j:c={callee:=.builtin .len,args:= #[x],argTypes:= #[t]})(f:∀w,(underlying t).run P w=.ok (.slice e) w)
  (h:opA env x=.osl i s n k):OpV P o env H (.int .i64 n):=by
 intro q y σ N a w r;have d:=Ql r x;rw[h]at d;refine⟨_,?_,rfl⟩;generalize a.eval=ρ at*;subst j;rcases d with⟨rfl,d⟩|⟨b,p,g,u,m,_,d,_⟩<;>
 simp[execOp,l,d,resolve,invoke,Go.builtin,Builtin.len_,f,goInt,go_sem]
structure QK (P:Program) (T f off n:Nat):Prop where
 h:∃fs fd,(∀w,(underlying T).run P w=.ok (.struct fs) w)/\fs[f]?=some fd/\fd.offset=off/\(∀w,(sizeOf fd.type).run P w=.ok n w)/\n≠0
theorem Y6(b off n:Nat):(⟨b,off,none⟩:Addr).add n=⟨b,off+n,none⟩:=by
 simp_all[Addr.add]
theorem Qd9{T f off n b p:Nat}(a:QK P T f off n)(w:World):(Instr.fieldAt T (.pointer (some ⟨b,p,none⟩)) f).run P w=.ok (.pointer (some ⟨b,p+off,none⟩)) w:=by
 obtain⟨k,j,g,e,rfl,i,d⟩:=a.h
 simp_all[Instr.fieldAt,Instr.sureAddr,fieldPlace,Y6]
theorem QcZ{T f off n i p:Nat}{x:Operand}(e:QK P T f off n)(h:o.op=.fieldAddr T x f)(j:opA env x=.ptr i p):OpV P o env H (.ptr i (p+off)):=by
 intro l k σ N a w r;have d:=Ql r x;rw[j]at d;obtain⟨b,d,g⟩:=d;refine⟨.pointer (some ⟨b,p+off,none⟩),?_,b,d,rfl⟩;generalize a.eval=ρ at*;simp only[execOp,h,g,Vj,Qd9 e];rfl
theorem CR.drop{ro:Nat->Prop}{σ:Sig}{w:World}{b:Nat}:∀(n:Nat) {cs:List A} {off:Nat},CR ro σ w b cs off->CR ro σ w b (cs.drop n) (off+n)
 |0,_,_,h=>h
 |n+1,[],_,h=>trivial
 |n+1,c::cs,off,h=>by
  have:=CR.drop n h.2
  grind
theorem CR.take{ro:Nat->Prop}{σ:Sig}{w:World}{b:Nat}:∀(n:Nat) {cs:List A} {off:Nat},CR ro σ w b cs off->CR ro σ w b (cs.take n) off
 |0,_,_,h=>trivial
 |n+1,[],_,h=>trivial
 |n+1,c::cs,off,h=>⟨h.1,CR.take n h.2⟩
theorem Qgc{T f off n:Nat}{x:Operand}{cs cs':List A}(h:QK P T f off n)(k:o.op=.fieldAddr T x f)(j:opA env x=.rp cs)(e:cs.drop off=cs'):OpV P o env H (.rp cs'):=by
 intro l m σ N a w r;have d:=Ql r x;rw[j]at d;obtain⟨b,p,d,i,g⟩:=d;refine⟨.pointer (some ⟨b,p+off,none⟩),?_,b,p+off,rfl,i,e▸g.drop off⟩;generalize a.eval=ρ at*;simp only[execOp,k,d,Vj,Qd9 h];rfl
theorem RR.get{ro:Nat->Prop}{σ:Sig}{w:World}{b k:Nat}:∀(n:Nat) {es:List (List A)} {off:Nat} {c:List A},RR ro σ w b k es off->es[n]?=some c->c.length=k/\CR ro σ w b c (off+n*k)
 |n,[],_,_,h,hc=>by simp at hc
 |0,e::es,off,c,h,hc=>by
  simp at hc;subst hc;exact⟨h.1,by simpa using h.2.1⟩
 |n+1,e::es,off,c,h,hc=>by
  have:=RR.get n h.2.2 (by simpa using hc)
  grind
theorem QoO{t e:TypeId}{x y:Operand}{k:Nat}{es:List (List A)}{m:IntKind}{n:Int}{c:List A}(F:o.op=.indexAddr t x y)(h:∀w,(underlying t).run P w=.ok (.slice e) w)
  (z:∀w,(sizeOf e).run P w=.ok k w)(p:opA env x=.rsl k es)(i:opA env y=.int m n)(G:0<=n)(E:es[n.toNat]?=some c):OpV P o env H (.rp c):=by
 intro L O σ N a w r;have f:=Ql r x;rw[p]at f;have l:=QB r i;obtain⟨J,u,f,M,s⟩:=f;have g:n.toNat<es.length:=(by grind);rcases s with rfl|⟨b,d,rfl,j,B⟩
 .simp at g
 have q:n<es.length:=by omega
 refine⟨.pointer (some ⟨b,d+n.toNat*k,none⟩),?_,b,d+n.toNat*k,rfl,j,(B.get n.toNat E).2⟩;generalize a.eval=ρ at*;simp[execOp,F,f,l,Instr.indexAt,asIntOf,h,z,G,q,Y6,go_sem]
theorem Qh1{t e:TypeId}{x y:Operand}{i s m k:Nat}{q:IntKind}{n:Int}(G:o.op=.indexAddr t x y)(f:∀w,(underlying t).run P w=.ok (.slice e) w)
  (z:∀w,(sizeOf e).run P w=.ok k w)(u:opA env x=.osl i s m k)(l:opA env y=.int q n)(F:0<=n)(E:n<m):OpV P o env H (.ptr i (s*k+n.toNat*k)):=by
 intro J O σ N a w r;have d:=Ql r x;rw[u]at d;have j:=QB r l;rcases d with⟨rfl,_⟩|⟨b,p,g,L,Q,h,d,B,M,_⟩
 .omega
 obtain rfl:=B (by omega);refine⟨.pointer (some ⟨b,s*k+n.toNat*k,none⟩),?_,b,h,rfl⟩;generalize a.eval=ρ at*;simp[execOp,G,d,j,Instr.indexAt,asIntOf,f,z,F,E,Y6,go_sem]
def Pts(H:Qe)(p:A)(cs:List A):Prop:=
 ∀fr ro σ w v,Sim fr ro σ H w->VR ro σ w p v->∃b off,v=.pointer (some ⟨b,off,none⟩)/\CR ro σ w b cs off
theorem VR.lift{ro:Nat->Prop}{σ:Sig}{w:World}{a:A}{v:Value}(h:VR ro [] w a v):VR ro σ w a v:=
 h.mono ⟨λ_ q=>q,λ_ _=>rfl,λ_ _ q=>q,(by simp)⟩
theorem CR.lift{ro:Nat->Prop}{σ:Sig}{w:World}{b:Nat}:∀{cs:List A} {off:Nat},CR ro [] w b cs off->CR ro σ w b cs off
 |[],_,_=>trivial
 |c::cs,off,⟨⟨v,h1,hp,h2⟩,h3⟩=>⟨⟨v,h1,hp,h2.lift⟩,CR.lift h3⟩
theorem Pts.rp{cs:List A}:Pts H (.rp cs) cs:=λfr ro σ w v s ⟨b,off,h1,h2,h3⟩=>⟨b,off,h1,h3.lift⟩
theorem LR.cells{ro:Nat->Prop}{σ:Sig}{w:World}{b t:Nat}{fz:Nat×Nat}{pre l:List Value}(d:w.heap[b]?=some (.cells (pre++l).toArray t fz))(a:∀v∈l,QA v):
  ∀{cs:List A},LR ro σ w cs l->CR ro σ w b cs pre.length:=by
 induction l generalizing pre with
 |nil=>
  intro cs h;cases cs with
  |nil=>trivial
  |cons c cs=>obtain⟨v,f,h,_⟩:=h;cases h
 |cons v l j=>
  intro cs h;cases cs with
  |nil=>trivial
  |cons c cs=>
   obtain⟨m,f,k,i,e⟩:=h;cases k;refine⟨⟨v,by simp[World.cell?,d],a v (by simp),i⟩,?_⟩;have:=j (pre:=pre++[v]) (by simpa using d) (λx g=>a x (by simp[g])) e
   grind
theorem Pts.cells{i off t:Nat}{cs cs':List A}(f:H[i]?=some (.cells t cs))(a:cs.drop off=cs'):Pts H (.ptr i off) cs':=by
 intro m n σ w v s h;obtain⟨b,g,e⟩:=h;obtain⟨l,d,j,k⟩:=s.blk i _ _ g f;have:=LR.cells (pre:=[]) (by simpa using d) k j;refine⟨b,off,e,a▸ ?_⟩;have:=this.drop off
 grind
theorem LR.get{ro:Nat->Prop}{σ:Sig}{w:World}:∀{az:List A} {l:List Value} (i:Nat) {a:A},LR ro σ w az l->az[i]?=some a->∃v,l[i]?=some v/\VR ro σ w a v
 |[],l,i,a,h,ha=>by simp at ha
 |x::az,l,0,a,⟨v,l',h1,h2,h3⟩,ha=>by
  grind
 |x::az,l,i+1,a,⟨v,l',h1,h2,h3⟩,ha=>by
  subst h1;obtain⟨v',q1,q2⟩:=LR.get i h3 (by simpa using ha)
  grind
theorem LR.drop{ro:Nat->Prop}{σ:Sig}{w:World}:∀(n:Nat) {az:List A} {l:List Value},LR ro σ w az l->LR ro σ w (az.drop n) (l.drop n)
 |0,az,l,h=>h
 |n+1,[],l,h=>by cases(show l=[]from h);rfl
 |n+1,a::az,l,⟨v,l',h1,h2,h3⟩=>by subst h1;exact LR.drop n h3
theorem LR.take{ro:Nat->Prop}{σ:Sig}{w:World}:∀(n:Nat) {az:List A} {l:List Value},LR ro σ w az l->LR ro σ w (az.take n) (l.take n)
 |0,az,l,h=>rfl
 |n+1,[],l,h=>by cases(show l=[]from h);rfl
 |n+1,a::az,l,⟨v,l',h1,h2,h3⟩=>by subst h1;exact⟨v,l'.take n,rfl,h2,LR.take n h3⟩
theorem LR.append{ro:Nat->Prop}{σ:Sig}{w:World}:∀{az:List A} {l:List Value} {bs:List A} {m:List Value},LR ro σ w az l->LR ro σ w bs m->LR ro σ w (az++bs) (l++m)
 |[],l,bs,m,h,k=>by cases(show l=[]from h);exact k
 |a::az,l,bs,m,⟨v,l',h1,h2,h3⟩,k=>by subst h1;exact⟨v,l'++m,rfl,h2,LR.append h3 k⟩
theorem Qk8{ro:Nat->Prop}{σ:Sig}{w:World}{b t:Nat}{fz:Nat×Nat}:∀{cs:List A} {pre l post:List Value},w.heap[b]?=some (.cells (pre++(l++post)).toArray t fz)->(∀v∈l,QA v)->
  LR ro σ w cs l->CR ro σ w b cs pre.length
 |[],_,_,_,_,_,_=>trivial
 |c::cs,pre,l,post,hb,hpl,⟨v,l',h1,h2,h3⟩=>by
  subst h1;refine⟨⟨v,by simp[World.cell?,hb],hpl v (by simp),h2⟩,?_⟩;have:=Qk8 (pre:=pre++[v]) (l:=l') (post:=post) (by simpa using hb) (by grind) h3
  grind
theorem YF{ro:Nat->Prop}{σ:Sig}{w:World}{b t k:Nat}{fz:Nat×Nat}:∀{es:List (List A)} {pre l:List Value},w.heap[b]?=some (.cells (pre++l).toArray t fz)->
  RL ro σ w k es l->RR ro σ w b k es pre.length
 |[],_,_,_,_=>trivial
 |c::es,pre,l,hb,⟨l1,l2,h1,h2,h3,h4⟩=>by
  subst h1;refine⟨h2,Qk8 hb h3.2 h3.1,?_⟩;have hl:=h3.1.length;have:=YF (pre:=pre++l1) (l:=l2) (by simpa using hb) h4
  grind
theorem Pts.row{i off t k e f:Nat}{es:List (List A)}{c cs':List A}(j:H[i]?=some (.row t k es))(p:off=e*k+f)(he:es[e]?=some c)(a:c.drop f=cs'):Pts H (.ptr i off) cs':=by
 intro q r σ w v s h;obtain⟨b,m,g⟩:=h;obtain⟨l,d,n⟩:=s.blk i _ _ m j;have:=((YF (pre:=[]) (by simpa using d) n).get e he).2.drop f;refine⟨b,off,g,?_⟩;subst p a;simpa using this.lift
theorem Pts.rowr{i off t k e f:Nat}{es:List (List A)}{c cs':List A}(g:H[i]?=some (.rowr t k es))(r:off=e*k+f)(he:es[e]?=some c)(d:c.drop f=cs'):Pts H (.ptr i off) cs':=by
 intro n q σ w v s h;obtain⟨b,j,p⟩:=h;obtain⟨l,a,m⟩:=s.blk i _ _ j g;have:=((YF (pre:=[]) (by simpa using a) m).get e he).2.drop f
 grind
theorem QlQ{w w':World}(h:w'.heap=w.heap)(a:Addr):w'.cell? a=w.cell? a:=by unfold World.cell?;rw[h]
theorem Yv{ro:Nat->Prop}{σ:Sig}{w:World}{b off:Nat}:∀{cs:List A} (i:Nat),CR ro σ w b cs (off+i)->
  ∃l,LR ro σ w cs l/\(∀v∈l,QA v)/\ ∀(w':World) (a:Array Value),w'.heap=w.heap->(loadCellsFrom ⟨b,off,none⟩ i cs.length a).run P w'=.ok (a++l.toArray) w'
 |[],i,h=>⟨[],rfl,by simp,λw' a _=>by rfl⟩
 |c::cs,i,⟨⟨v,h1,hp,h2⟩,h3⟩=>by
  obtain⟨l,q1,qp,q2⟩:=Yv (cs:=cs) (i+1) (by omega);refine⟨v::l,⟨v,l,rfl,h2,q1⟩,by grind,λw' a hw=>?_⟩;have h1':w'.cell? ⟨b,off+i,none⟩=some v:=by rw[QlQ hw];exact h1
  simp_all[loadCellsFrom,Y6]
theorem QD{t n:Nat}{x:Operand}{p:A}{cs vs:List A}(z:o.op=.load t x)(y:∀w,(isAgg t).run P w=.ok true w)(u:∀w,(sizeOf t).run P w=.ok n w)(i:opA env x=p)(q:Pts H p cs)
  (k:cs.take n=vs)(j:vs.length=n):OpV P o env H (.agg vs):=by
 intro g m σ N a w r;have e:=Ql r x;rw[i]at e;obtain⟨b,off,s,f⟩:=q g m σ w _ r.sim e;subst k;obtain⟨l,h,_,d⟩:=Yv (P:=P) (cs:=cs.take n) (off:=off) 0 (by simpa using f.take n);have d:=d w #[] rfl;rw[j]at d;refine⟨.agg l.toArray,?_,l,rfl,h⟩
 simp_all[execOp,Instr.loadAt,Instr.sureAddr,loadVar,loadCells]
theorem OpV.load{t:Nat}{x:Operand}{p v:A}{cs:List A}(n:o.op=.load t x)(l:∀w,(isAgg t).run P w=.ok false w)(f:opA env x=p)(i:Pts H p (v::cs)):OpV P o env H v:=by
 intro e h σ N a w r;have d:=Ql r x;rw[f]at d;obtain⟨b,g,k,⟨y,j,_,m⟩,_⟩:=i e h σ w _ r.sim d
 simp_all[execOp,Instr.loadAt,Instr.sureAddr,loadVar]
theorem OpV.extract{x:Operand}{vs:List A}{i:Nat}{v:A}(n:o.op=.extract x i)(f:opA env x=.tup vs)(g:vs[i]?=some v):OpV P o env H v:=by
 intro j k σ N a w r;have d:=Ql r x;rw[f]at d;obtain⟨l,d,e⟩:=d;obtain⟨y,h,m⟩:=e.get i g
 simp_all[execOp,Instr.extract]
theorem OpV.field{T f off n:Nat}{x:Operand}{cs:List A}{v:A}(e:QK P T f off n)(j:∀fs fd,(∀w,(underlying T).run P w=.ok (.struct fs) w)->fs[f]?=some fd->∀w,(isAgg fd.type).run P w=.ok false w)
  (B:o.op=.field T x f)(i:opA env x=.agg cs)(k:cs[off]?=some v):OpV P o env H v:=by
 intro p s σ N a w r;have d:=Ql r x;rw[i]at d;obtain⟨l,d,g⟩:=d;obtain⟨y,m,t⟩:=g.get off k;obtain⟨fs,fd,u,z,rfl,q,E⟩:=e.h
 simp_all[execOp,Instr.field,asAgg,part]
theorem Qbg{fr ro:Nat->Prop}{σ:Sig}{N:Nat}{a:Act}{w:World}(r:Rel fr ro σ H env N a w):∀(l:List Operand),LR ro σ w (l.map (opA env)) (l.map a.eval)
 |[]=>rfl
 |x::l=>⟨_,_,rfl,Ql r x,Qbg r l⟩
theorem OpV.makeFunc{f:Fn}{first cap:List Operand}{d e:List A}(k:o.op=.makeFunc f first.toArray cap.toArray)(g:first.map (opA env)=d)(h:cap.map (opA env)=e):OpV P o env H (.fn f d e):=by
 intro j i σ N a w r;refine⟨.func f (first.map a.eval).toArray (cap.map a.eval).toArray,?_,_,_,rfl,g▸Qbg r first,h▸Qbg r cap⟩
 simp_all[execOp,Instr.makeFunc]
theorem Qak{t:TypeId}{x:Operand}{v:A}{d:TypeDesc}(k:o.op=.makeInterface t x)(g:∀w,(underlying t).run P w=.ok d w)(j:∀m,d≠ .interface m)(f:opA env x=v):OpV P o env H (.iface t v):=by
 intro i h σ N a w r;have e:=Ql r x;rw[f]at e;refine⟨.iface t (a.eval x),?_,_,rfl,e⟩
 simp_all[execOp,Instr.makeInterface]
end
mutual
def YC:A->Bool
 |.ptr _ _=>false
 |.osl _ _ _ _=>false
 |.map _=>false
 |.agg cs=>YK cs
 |.fn _ a c=>YK a&&YK c
 |.iface _ v=>YC v
 |.tup vs=>YK vs
 |_=>true
def YK:List A->Bool
 |[]=>true
 |a::r=>YC a&&YK r
end
mutual
theorem VR.data{ro:Nat->Prop}{σ σ':Sig}{w:World}:∀{a:A} {v:Value},YC a=true->VR ro σ w a v->VR ro σ' w a v
 |.any,_,_,_=>trivial
 |.bool b,v,_,q=>q
 |.int k n,v,_,q=>q
 |.str s,v,_,q=>q
 |.nilp,v,_,q=>q
 |.ptr i off,v,d,q=>by simp[YC]at d
 |.rp cs,v,_,q=>q
 |.nils,v,_,q=>q
 |.rsl k es,v,_,q=>q
 |.osl i o n k,v,d,q=>by simp[YC]at d
 |.agg cs,v,d,q=>by
  simp only[VR,YC]at q d⊢;obtain⟨l,h1,h2⟩:=q;exact⟨l,h1,LR.data d h2⟩
 |.fn f a c,v,d,q=>by
  simp only[VR,YC,XV]at q d⊢;obtain⟨l,l',h1,h2,h3⟩:=q;exact⟨l,l',h1,LR.data d.1 h2,LR.data d.2 h3⟩
 |.nilf,v,_,q=>q
 |.iface t a,v,d,q=>by
  simp only[VR,YC]at q d⊢;obtain⟨x,h1,h2⟩:=q;exact⟨x,h1,VR.data d h2⟩
 |.nilif,v,_,q=>q
 |.map i,v,d,q=>by simp[YC]at d
 |.nilm,v,_,q=>q
 |.tup vs,v,d,q=>by
  simp only[VR,YC]at q d⊢;obtain⟨l,h1,h2⟩:=q;exact⟨l,h1,LR.data d h2⟩
theorem LR.data{ro:Nat->Prop}{σ σ':Sig}{w:World}:∀{az:List A} {l:List Value},YK az=true->LR ro σ w az l->LR ro σ' w az l
 |[],_,_,q=>q
 |a::r,l,d,q=>by
  simp only[LR,YK,XV]at q d⊢;obtain⟨v,l',h1,h2,h3⟩:=q;exact⟨v,l',h1,VR.data d.1 h2,LR.data d.2 h3⟩
end
def YA:A->Bool
 |.any|.agg _|.tup _=>false
 |_=>true
def Yj:A->List A
 |.agg cs=>cs
 |a=>[a]
def Ys:A->Bool
 |.any=>false
 |_=>true
theorem VR.plain{ro:Nat->Prop}{σ:Sig}{w:World}{a:A}{v:Value}(d:YA a=true)(h:VR ro σ w a v):QA v:=by
 cases a<;>first|(simp[YA]at d;done)|skip
 case rsl k es=>obtain⟨e,c,rfl,_⟩:=h;trivial
 case osl=>rcases h with⟨_,rfl⟩|⟨_,_,_,_,_,_,rfl,_⟩<;>trivial
 case fn=>obtain⟨_,_,rfl,_⟩:=h;trivial
 case iface=>obtain⟨_,rfl,_⟩:=h;trivial
 case ptr=>obtain⟨_,_,rfl⟩:=h;trivial
 case rp=>obtain⟨_,_,rfl,_⟩:=h;trivial
 case map=>obtain⟨_,_,rfl⟩:=h;trivial
 all_goals (simp only[VR]at h;subst h;trivial)
theorem VR.cells{ro:Nat->Prop}{σ:Sig}{w:World}{a:A}{v:Value}(e:Ys a=true)(h:VR ro σ w a v):∃l:List Value,v.cells=l.toArray/\LR ro σ w (Yj a) l:=by
 cases a
 case any=>simp[Ys]at e
 case agg cs=>obtain⟨l,rfl,h⟩:=h;exact⟨l,rfl,h⟩
 case tup cs=>obtain⟨l,rfl,h⟩:=h;exact⟨[.tuple l.toArray],rfl,_,_,rfl,⟨l,rfl,h⟩,rfl⟩
 all_goals
  have d:=h.plain rfl;refine⟨[v],?_,v,[],rfl,h,rfl⟩;cases v<;>first|rfl|exact d.elim
theorem LR.plain{ro:Nat->Prop}{σ:Sig}{w:World}:∀{az:List A} {l:List Value},az.all YA=true->LR ro σ w az l->∀v∈l,QA v
 |[],l,_,h=>by cases(show l=[]from h);simp
 |a::az,l,hp,⟨v,l',h1,h2,h3⟩=>by
  subst h1;simp only[List.all_cons,XV]at hp;intro x hx;rcases X4.1 hx with rfl|hx
  .exact h2.plain hp.1
  .exact LR.plain hp.2 h3 x hx
theorem YD(w:World)(obj:Obj)(b:Nat)(a:b<w.heap.size):(w.alloc obj).heap[b]?=w.heap[b]? :=by
 show(w.heap.push obj)[b]?=_
 grind
theorem Q9(w:World)(obj:Obj):(w.alloc obj).heap[w.heap.size]?=some obj:=by
 show(w.heap.push obj)[w.heap.size]?=_;simp
theorem Jd(w:World)(obj:Obj):(w.alloc obj).heap.size=w.heap.size+1:=by
 simp
theorem Qms{w:World}{b:Nat}{x:TypeId×Nat}(h:w.shape? b=some x):b<w.heap.size:=by
 grind[World.shape?]
theorem Qi.alloc{fr ro:Nat->Prop}{w:World}(obj:Obj)(hro:∀b,ro b->b<w.heap.size)(hfr:∀b,fr b->b<w.heap.size):Qi fr ro w ro (w.alloc obj):=
 ⟨λ_ h=>h,λb h=>YD w obj b (hro b h),λb h=>YD w obj b (hfr b h),by simp,
  λb x h=>by grind[World.shape?,YD],rfl,rfl,rfl,XS _⟩
section
variable {P:Program} {o:Oper} {env:Env} {H:Qe} {fr ro:Nat->Prop} {σ:Sig} {w:World}
theorem Sim.alloc(s:Sim fr ro σ H w){obj:Obj}{x:Blk}(L:BR ro (σ++[some w.heap.size]) (w.alloc obj) x (some w.heap.size))
  (u:∀c,Hid (w.alloc obj) x w.heap.size c->False:=by exact λ_ h=>h.elim):
  Sim fr ro (σ++[some w.heap.size]) (H++[x]) (w.alloc obj):=by
 have ev:Qi fr ro w ro (w.alloc obj):=Qi.alloc obj s.roLt s.frLt;have m:=s.len;have e:∀(i:Nat) (y:Option Nat),(σ++[some w.heap.size])[i]?=some y->(i<σ.length/\σ[i]?=some y)\/(i=σ.length/\y=some w.heap.size):=by
  grind
 have k:∀i:Nat,i<σ.length->(H++[x])[i]?=H[i]? :=λi J=>XL (by omega);have F:(H++[x])[σ.length]?=some x:=by rw[m];simp
 refine⟨by simp[m],s.roOk.to (λ_ q=>q) ev.keepRo (λb h=>?_),λb h=>?_,s.roFr,?_,?_,?_,?_⟩
 .rw[Jd];have:=s.roLt b h;omega
 .rw[Jd];have:=s.frLt b h;omega
 .intro i b y f g l;rw[Jd];rcases e i _ f with⟨q,f⟩|⟨rfl,p⟩
  .rw[k i q]at g;obtain⟨a,b,c⟩:=s.own i b y f g l
   grind
  .cases p;exact⟨by omega,λq=>by have:=s.roLt _ q;omega,λq=>by have:=s.frLt _ q;omega⟩
 .intro i j b y z f g l t B E;rcases e i _ f with⟨q,f⟩|⟨rfl,p⟩<;>rcases e j _ g with⟨q',g⟩|⟨rfl,e2⟩
  .rw[k i q]at l;rw[k j q']at t;exact s.inj i j b y z f g l t B E
  .cases e2;rw[k i q]at l;have:=(s.own i _ y f l B).1;omega
  .cases p;rw[k j q']at t;have:=(s.own j _ z g t E).1;omega
  .rfl
 .intro i y z f g;rcases e i _ f with⟨q,f⟩|⟨rfl,p⟩
  .rw[k i q]at g;refine(s.blk i y z f g).keep (ev.ext σ _) ?_ ?_
   .rintro b rfl m;exact YD w obj b (s.own i b z f g m).1
   .rintro b c rfl m;exact YD w obj c (s.hid i b z c f g m).lt
  grind
 .refine s.hidTo (· = ·) Yg (by rw[Jd];omega) (λ_ _ _ _ _ _ _ q=>q) (λ_ _ _ _ _ _ _ q=>q) λj d y r n G=>?_;rcases e j _ r with⟨q,r⟩|⟨rfl,p⟩
  .rw[k j q]at n;exact .inl ⟨j,y,rfl,r,n,id,λc q=>s.hidKeep r n (λz=>YD w obj d (s.own j d y r n z).1) ev.keepRo q⟩
  .rw[F]at n;cases n;cases p;exact .inr ⟨XS _,u⟩
theorem Sim.allocCells(s:Sim fr ro σ H w){t:Nat}{cs:List A}{l:List Value}(h:LR ro σ w cs l)(hp:∀v∈l,QA v):
  Sim fr ro (σ++[some w.heap.size]) (H++[.cells t cs]) (w.alloc (.cells l.toArray t)):=
 s.alloc ⟨l,Q9 _ _,h.mono ((Qi.alloc (fr:=fr) _ s.roLt s.frLt).ext σ _),hp⟩
theorem Qji{ro:Nat->Prop}{σ:Sig}{w:World}:∀{az bs:List A} {l:List Value},LR ro σ w (az++bs) l->∃l1 l2,l=l1++l2/\LR ro σ w az l1/\LR ro σ w bs l2
 |[],bs,l,h=>⟨[],l,rfl,rfl,h⟩
 |a::az,bs,l,⟨v,l',h1,h2,h3⟩=>by
  obtain⟨l1,l2,e,q1,q2⟩:=Qji h3;subst h1 e;exact⟨v::l1,l2,rfl,⟨v,l1,rfl,h2,q1⟩,q2⟩
def allK(k:Nat):List (List A)->Prop
 |[]=>True
 |c::es=>c.length=k/\allK k es
theorem Y1{k:Nat}:∀{es:List (List A)} {l rest:List Value},allK k es->LR ro σ w es.flatten l->(∀v∈l,QA v)->RL ro σ w k es (l++rest)
 |[],_,_,_,_,_=>trivial
 |c::es,l,rest,⟨h1,h2⟩,h,hp=>by
  rw[Vi]at h;obtain⟨l1,l2,rfl,q1,q2⟩:=Qji h;exact⟨l1,l2++rest,by simp,h1,(by grind),Y1 h2 q2 (by grind)⟩
theorem Sim.allocRow(s:Sim fr ro σ H w){t k:Nat}{es:List (List A)}{l rest:List Value}(hk:allK k es)(h:LR ro [] w es.flatten l)(hp:∀v∈l,QA v):
  Sim fr ro (σ++[some w.heap.size]) (H++[.row t k es]) (w.alloc (.cells (l++rest).toArray t)):=
 s.alloc ⟨l++rest,Q9 _ _,(Y1 hk h hp).mono ((Qi.alloc (fr:=fr) _ s.roLt s.frLt).ext0 [])⟩
theorem Sim.allocRowr(s:Sim fr ro σ H w){t k:Nat}{es:List (List A)}{l rest:List Value}(hk:allK k es)(h:LR ro σ w es.flatten l)(hp:∀v∈l,QA v):
  Sim fr ro (σ++[some w.heap.size]) (H++[.rowr t k es]) (w.alloc (.cells (l++rest).toArray t)):=
 s.alloc ⟨l++rest,Q9 _ _,(Y1 hk h hp).mono ((Qi.alloc (fr:=fr) _ s.roLt s.frLt).ext σ _)⟩
theorem OpH.box{t:Nat}{x:Operand}{v:A}{cs:List A}(p:o.op=.box t x)(j:opA env x=v)(k:Ys v=true)(d:Yj v=cs)(f:cs.all YA=true):
  OpH P o env H (.ptr H.length 0) (H++[.cells t cs]):=by
 intro n m σ N a w r;have h:=Ql r x;rw[j]at h;obtain⟨l,i,g⟩:=h.cells k;subst d;refine⟨.pointer (some ⟨w.heap.size,0,none⟩),w.alloc (.cells l.toArray t),m,[some w.heap.size],?_,⟨w.heap.size,?_,rfl⟩,r.sim.allocCells g (g.plain f),Qi.alloc _ r.sim.roLt r.sim.frLt⟩
 .generalize a.eval=ρ at*;have e:(newVar t (ρ x)).run P w=.ok ⟨w.heap.size,0,none⟩ (w.alloc (.cells l.toArray t)):=by
   unfold newVar;rw[i];rfl
  simp_all[execOp,Instr.box]
 .rw[<- r.sim.len];simp
theorem Sim.set(s:Sim fr ro σ H w){i b:Nat}{x x':Blk}{obj:Obj}(hσ:σ[i]?=some (some b))(p:H[i]?=some x)(r:x.live=true)
  (R:∀y,w.shape? b=some y->({w with heap:=w.heap.setIfInBounds b obj}:World).shape? b=some y)
  (F:Ext ro σ w ro σ {w with heap:=w.heap.setIfInBounds b obj}->({w with heap:=w.heap.setIfInBounds b obj}:World).heap[b]?=some obj->BR ro σ {w with heap:=w.heap.setIfInBounds b obj} x' (some b))
  (V:∀c,Hid {w with heap:=w.heap.setIfInBounds b obj} x' b c->Hid w x b c:=by exact λ_ h=>h.elim):
  Sim fr ro σ (H.set i x') {w with heap:=w.heap.setIfInBounds b obj}/\Qi fr ro w ro {w with heap:=w.heap.setIfInBounds b obj}:=by
 obtain⟨X,N,P⟩:=s.own i b x hσ p r;have n:∀c,c≠b->({w with heap:=w.heap.setIfInBounds b obj}:World).heap[c]?=w.heap[c]? :=by
  grind
 have G:({w with heap:=w.heap.setIfInBounds b obj}:World).heap[b]?=some obj:=by
  grind
 have k:({w with heap:=w.heap.setIfInBounds b obj}:World).heap.size=w.heap.size:=by simp
 have ev:Qi fr ro w ro {w with heap:=w.heap.setIfInBounds b obj}:=
  ⟨λ_ h=>h,(by grind),(by grind),by omega,by
   grind[World.shape?],rfl,rfl,rfl,XS _⟩
 have W:i<H.length:=(by grind);have T:(H.set i x')[i]?=some x':=(by grind);have a:∀j,j≠i->(H.set i x')[j]?=H[j]? :=(by grind);have M:=F (ev.ext0 σ) G;refine⟨⟨by rw[X2];exact s.len,s.roOk.to (λ_ q=>q) ev.keepRo (λc h=>by rw[k];exact s.roLt c h),λc h=>by rw[k];exact s.frLt c h,s.roFr,?_,?_,?_,?_⟩,ev⟩
 .intro j c y g f t;rw[k];by_cases q:j=i
  .grind
  .rw[a j q]at f;exact s.own j c y g f t
 .intro j l c y z g f t B L O;by_cases q:j=i
  .subst q;rw[hσ]at g;cases g;by_cases u:l=j
   .exact u.symm
   .rw[a l u]at B;exact s.inj j l _ x z hσ f p B r O
  .rw[a j q]at t;by_cases u:l=i
   .subst u;rw[hσ]at f;cases f;exact s.inj j l _ y x g hσ t p L r
   .rw[a l u]at B;exact s.inj j l c y z g f t B L O
 .intro j y z g f;by_cases q:j=i
  .grind
  .rw[a j q]at f;refine(s.blk j y z g f).keep (ev.ext0 σ) ?_ ?_
   .rintro c rfl m;exact n c (λe=>q (s.inj j i b z x (e▸g) hσ f p m r))
   .rintro c d rfl Q;exact n d ((s.hid j c z d g f Q).ne i b x hσ p r)
 .refine s.hidTo (· = ·) Yg (by omega) (λ_ _ _ _ _ _ _ q=>q) (λ_ _ _ _ _ _ _ q=>q) λj d y J E Y=>.inl ?_;by_cases q:j=i
  .grind
  .rw[a j q]at E;exact⟨j,y,rfl,J,E,id,λc z=>s.hidKeep J E (λm=>n d (λe=>q (s.inj j i b y x (e▸J) hσ E p m r))) ev.keepRo z⟩
def splice{α:Type}(l:List α)(o:Nat)(vs:List α):List α:=l.take o++vs++l.drop (o+vs.length)
theorem Yf{α:Type}{l:List α}{o:Nat}{vs:List α}(h:o+vs.length<=l.length):(splice l o vs).length=l.length:=by
 simp[splice];omega
theorem QdO{h:Array Obj}{b:Nat}{f:Obj->Obj}{x:Obj}(a:h[b]?=some x):h.modify b f=h.setIfInBounds b (f x):=by
 grind
theorem Yh{b t:Nat}:∀{vs l:List Value} {w:World} (off i:Nat),w.heap[b]?=some (.cells l.toArray t (0,0))->off+i+vs.length<=l.length->(∀v∈vs,QA v)->
  (storeCells ⟨b,off,none⟩ vs i).run P w=.ok () {w with heap:=w.heap.setIfInBounds b (.cells (splice l (off+i) vs).toArray t (0,0))}
 |[],l,w,off,i,hb,hl,hp=>by
  have e:w.heap.setIfInBounds b (.cells (splice l (off+i) []).toArray t (0,0))=w.heap:=by
   apply Array.ext_getElem?;intro j;rw[Vb];by_cases q:b=j
   .subst q;obtain⟨a,r⟩:=Va.1 hb;simp[a,splice,r]
   grind
  rw[e];rfl
 |v::vs,l,w,off,i,hb,hl,hp=>by
  simp only[XY]at hl;have p:=hp v (by simp);have k:w.cell? ⟨b,off+i,none⟩=some l[off+i]:=by
   simp[World.cell?,hb]
  have f:w.frozen? ⟨b,off+i,none⟩=false:=by
   simp[World.frozen?,hb]
  have d:w.setCell ⟨b,off+i,none⟩ v={w with heap:=w.heap.setIfInBounds b (.cells (splice l (off+i) [v]).toArray t (0,0))}:=by
   unfold World.setCell;rw[QdO hb];simp only[Option.isSome_none,Xj,if_false];congr 3;have:l.toArray.setIfInBounds (off+i) v=(l.set (off+i) v).toArray:=by simp
   rw[this];congr 1;rw[List.set_eq_take_append_cons_drop,Vq (by omega)];simp[splice]
  have a:b<w.heap.size:=by
   grind
  have n:=Yh (vs:=vs) (l:=splice l (off+i) [v]) (w:={w with heap:=w.heap.setIfInBounds b (.cells (splice l (off+i) [v]).toArray t (0,0))}) off (i+1)
   (by show(w.heap.setIfInBounds b _)[b]?=_;rw[Vb,Vq rfl,Vq a])
   (by rw[Yf (by simp;omega)];omega) (by grind)
  have x:splice (splice l (off+i) [v]) (off+(i+1)) vs=splice l (off+i) (v::vs):=by
   have g:(l.take (off+i)).length=off+i:=by simp;omega
   unfold splice;rw[Vf (l.take (off+i))];have u:off+(i+1)=(l.take (off+i)).length+1:=by omega
   have s:(l.take (off+i)++([v]++l.drop (off+i+[v].length))).take ((l.take (off+i)).length+1)=l.take (off+i)++[v]:=by
    grind
   have y:(l.take (off+i)++([v]++l.drop (off+i+[v].length))).drop ((l.take (off+i)).length+1+vs.length)=l.drop (off+i+(v::vs).length):=by
    rw[show(l.take (off+i)).length+1+vs.length=(l.take (off+i)).length+(1+vs.length)from by omega,X8];simp[Nat.add_comm 1];omega
   simp_all
  have h:(w.heap.setIfInBounds b (.cells (splice l (off+i) [v]).toArray t (0,0))).setIfInBounds b (.cells (splice (splice l (off+i) [v]) (off+(i+1)) vs).toArray t (0,0))=
    w.heap.setIfInBounds b (.cells (splice l (off+i) (v::vs)).toArray t (0,0)):=by
   grind
  rw[h]at n;have m:(Go.store ⟨b,off+i,none⟩ v).run P w=.ok () {w with heap:=w.heap.setIfInBounds b (.cells (splice l (off+i) [v]).toArray t (0,0))}:=by
   rw[<- d];cases v<;>first|exact p.elim|simp[Go.store,Sem.run,k,f,go_sem]
  simp_all[storeCells,Y6]
theorem JA{w:World}{b t:Nat}{l l':List Value}(e:w.heap[b]?=some (.cells l.toArray t (0,0)))(d:l'.length=l.length)(y:TypeId×Nat)(h:w.shape? b=some y):
  ({w with heap:=w.heap.setIfInBounds b (.cells l'.toArray t (0,0))}:World).shape? b=some y:=by
 have a:b<w.heap.size:=by
  grind
 simp_all[World.shape?]
theorem LR.splice{ro:Nat->Prop}{σ:Sig}{w:World}{az vs:List A}{l m:List Value}(off:Nat)(h:LR ro σ w az l)(k:LR ro σ w vs m):LR ro σ w (Sw.splice az off vs) (Sw.splice l off m):=by
 unfold Sw.splice;rw[k.length];exact((h.take off).append k).append (h.drop _)
theorem Qfv{l m:List Value}{off:Nat}(h:∀v∈l,QA v)(k:∀v∈m,QA v):∀v∈Sw.splice l off m,QA v:=by
 grind[Sw.splice]
theorem OpU.store{t n i off T:Nat}{x y:Operand}{cs vs cs':List A}{v:A}(ho:o.op=.store t x y)(G:opA env x=.ptr i off)(s:H[i]?=some (.cells T cs))(Y:∀w,(sizeOf t).run P w=.ok n w)
  (h:opA env y=v)(M:Ys v=true)(Q:Yj v=vs)(J:vs.length=n)(F:vs.all YA=true)(B:Nat.ble (off+n) cs.length=true)(j:splice cs off vs=cs'):
  OpU P o env H (H.set i (.cells T cs')):=by
 intro X O σ N a w r;have g:=Ql r x;rw[G]at g;obtain⟨b,g,V⟩:=g;have z:=Ql r y;rw[h]at z;obtain⟨m,W,d⟩:=z.cells M;rw[Q]at d;obtain⟨l,u,p,L⟩:=r.sim.blk i _ _ g s;have k:off+n<=cs.length:=by simp_all
 have E:m.length=n:=by rw[d.length,J]
 have q:=Yh (P:=P) (vs:=m) off 0 u (by rw[p.length,E];omega) (d.plain F);have f:=r.sim.set (x':=.cells T cs') (obj:=.cells (splice l off m).toArray T (0,0)) g s rfl
  (λy h=>JA u (Yf (by rw[p.length,E];omega)) y h)
  (λe R=>⟨_,R,j▸(p.splice off d).mono e,Qfv L (d.plain F)⟩)
 refine⟨_,O,[],?_,by grind,f.2⟩
 simp_all[storeVar,execOp,Instr.storeAt,Instr.sureAddr]
theorem RL.splice{ro:Nat->Prop}{σ:Sig}{w:World}{k:Nat}:∀{e:Nat} {es:List (List A)} {l m:List Value} {c a:List A} {f:Nat},RL ro σ w k es l->es[e]?=some c->LR ro σ w a m->(∀v∈m,QA v)->f+a.length<=k->
  RL ro σ w k (es.set e (Sw.splice c f a)) (Sw.splice l (e*k+f) m)
 |_,[],_,_,_,_,_,_,h,_,_,_=>by simp at h
 |0,c0::es,l,m,c,a,f,⟨l1,l2,h1,h2,h3,h4⟩,hc,hm,hp,hf=>by
  simp at hc;subst hc h1;have hl1:=h3.1.length;refine⟨Sw.splice l1 f m,l2,?_,?_,⟨h3.1.splice f hm,Qfv h3.2 hp⟩,h4⟩
  .unfold Sw.splice;simp only[Nat.zero_mul,Xv,Vf];rw[X5 (by omega),X6 (by rw[hm.length];omega)]
  .rw[Yf (by omega)];exact h2
 |e+1,c0::es,l,m,c,a,f,⟨l1,l2,h1,h2,h3,h4⟩,hc,hm,hp,hf=>by
  subst h1;have hl1:=h3.1.length;refine⟨l1,Sw.splice l2 (e*k+f) m,?_,h2,h3,RL.splice h4 (by grind) hm hp hf⟩;have e1:(e+1)*k+f=l1.length+(e*k+f):=by grind
  unfold Sw.splice;rw[e1,X9,show l1.length+(e*k+f)+m.length=l1.length+(e*k+f+m.length)from by omega,X8];simp
theorem RL.length{ro:Nat->Prop}{σ:Sig}{w:World}{k:Nat}:∀{es:List (List A)} {l:List Value},RL ro σ w k es l->es.length*k<=l.length
 |[],l,_=>by simp
 |c::es,l,⟨l1,l2,h1,h2,h3,h4⟩=>by
  subst h1;have:=RL.length h4;have:=h3.1.length
  grind[Nat.succ_mul]
theorem Qh2{t n i off T k e f:Nat}{x y:Operand}{es d:List (List A)}{c vs J:List A}{v:A}(ho:o.op=.store t x y)(Q:opA env x=.ptr i off)(B:H[i]?=some (.row T k es))(hs:∀w,(sizeOf t).run P w=.ok n w)
  (p:off=e*k+f)(X:es[e]?=some c)(q:opA env y=v)(hk:Ys v=true)(hv:Yj v=vs)(R:vs.length=n)(O:vs.all YA=true)(V:YK vs=true)(hf:Nat.ble (f+n) k=true)
  (s:splice c f vs=J)(z:es.set e J=d):
  OpU P o env H (H.set i (.row T k d)):=by
 intro fr ro σ N a w r;have h:=Ql r x;rw[Q]at h;obtain⟨b,h,h2⟩:=h;have G:=Ql r y;rw[q]at G;obtain⟨m,h4,g⟩:=G.cells hk;rw[hv]at g;obtain⟨l,F,L⟩:=r.sim.blk i _ _ h B;have Y:f+n<=k:=by simp_all
 have hm:m.length=n:=by rw[g.length,R]
 have W:e<es.length:=(by grind);have E:off+n<=l.length:=by
  have:=L.length;have h6:(e+1)*k<=es.length*k:=XB k W
  grind
 have M:=Yh (P:=P) (vs:=m) off 0 F (by omega) (g.plain O);have j:=r.sim.set (x':=.row T k d) (obj:=.cells (splice l off m).toArray T (0,0)) h B rfl
  (λy q=>JA F (Yf (by omega)) y q)
  (λex u=>⟨_,u,by
   subst z s p;exact(L.splice X (g.data V) (g.plain O) (by omega)).mono ex.nil⟩)
 refine⟨_,ro,[],?_,by grind,j.2⟩
 simp_all[storeVar,execOp,Instr.storeAt,Instr.sureAddr]
end
section
variable {P:Program} {o:Oper} {env:Env} {H:Qe} {fr ro:Nat->Prop} {σ:Sig} {w:World}
theorem Ext.heap{w':World}(h:w'.heap=w.heap):Ext ro σ w ro σ w':=
 ⟨λ_ q=>q,λb _=>by rw[h],λb x q=>by unfold World.shape? at q⊢;grind,λ_ _ q=>q⟩
theorem Sim.heap{w':World}(s:Sim fr ro σ H w)(h:w'.heap=w.heap):Sim fr ro σ H w':=
 ⟨s.len,s.roOk.to (λ_ q=>q) (λb _=>by rw[h]) (λb q=>by rw[h];exact s.roLt b q),λb q=>by rw[h];exact s.frLt b q,s.roFr,λi b x q1 q2 q3=>by rw[h];exact s.own i b x q1 q2 q3,s.inj,
  λi y x q1 q2=>(s.blk i y x q1 q2).keep (Ext.heap h) (by grind) (by grind),
  s.hidTo (· = ·) Yg (by grind) (by simp) (by simp) λj d y g1 g2 g3=>.inl ⟨j,y,rfl,g1,g2,id,λc q=>q.keep (by rw[h])⟩⟩
theorem Qi.heap{w':World}(h:w'.heap=w.heap)(ho:w'.os=w.os)(ht:w'.tape=w.tape)(hu:w'.output=w.output)(hd:w.drawn<=w'.drawn):Qi fr ro w ro w':=
 ⟨λ_ q=>q,λb _=>by rw[h],λb _=>by rw[h],by grind,λb x q=>by unfold World.shape? at q⊢;grind,ho,ht,hu,hd⟩
theorem Sim.moved(s:Sim fr ro σ H w){i:Nat}{x:Blk}{y:Option Nat}(m:H[i]?=some x)(hσ:σ[i]?=some y):Sim fr ro (σ++[y]) (H.set i .dead++[x]) w:=by
 have L:=s.len;have Q:i<H.length:=(by grind);have a:∀(j:Nat) (z:Option Nat) (v:Blk),(σ++[y])[j]?=some z->(H.set i .dead++[x])[j]?=some v->v≠ .dead->
   (j<σ.length/\j≠i/\σ[j]?=some z/\H[j]?=some v)\/(j=σ.length/\z=y/\v=x):=by
  grind
 have hσ':∀(j:Nat) (b:Nat),σ[j]?=some (some b)->(σ++[y])[j]?=some (some b):=(by grind);have ext:Ext ro σ w ro (σ++[y]) w:=⟨λ_ q=>q,λ_ _=>rfl,λ_ _ q=>q,hσ'⟩;refine⟨by simp[L],s.roOk,s.frLt,s.roFr,?_,?_,?_,s.hidTo (λj u=>(j<σ.length/\j≠i/\u=j)\/(j=σ.length/\u=i)) (by omega) (XS _) (by simp) (by simp) λj d y N O P=>.inl ?_⟩
 rotate_left 3
 .rcases a j _ y N O (Qe6 P)with⟨E,F,e,f⟩|⟨E,n,rfl⟩
  .grind
  grind
 .intro j b v h k g;rcases a j _ v h k (Qaq g)with⟨_,_,e,f⟩|⟨_,n,rfl⟩
  .exact s.own j b v e f g
  .subst n;exact s.own i b v hσ m g
 .intro j t b v p h k g G l r;rcases a j _ v h g (Qaq l)with⟨_,M,e,f⟩|⟨R,n,J⟩<;>rcases a t _ p k G (Qaq r)with⟨_,n1',q1',q2'⟩|⟨r1',e1',r2'⟩
  .exact s.inj j t b v p e q1' f q2' l r
  .subst e1' r2';exact(M (s.inj j i b v p e hσ f m l r)).elim
  .subst n J;exact(n1' (s.inj t i b p v q1' hσ q2' m r l)).elim
  omega
 .intro j z v h k;by_cases B:v≠ .dead
  .rcases a j z v h k B with⟨_,_,e,f⟩|⟨_,rfl,rfl⟩
   .exact(s.blk j z v e f).keep ext (λ_ _ _=>rfl) (λ_ _ _ _=>rfl)
   .exact(s.blk i _ _ hσ m).keep ext (λ_ _ _=>rfl) (λ_ _ _ _=>rfl)
  .obtain rfl:v=.dead:=Classical.not_not.1 B;trivial
def Src(P:Program)(H:Qe)(x:A)(k:Nat)(es:List (List A)):Prop:=
 ∀fr ro σ w v,Sim fr ro σ H w->VR ro σ w x v->(∃a c,v=.slice a es.length c)/\allK k es/\
  ∃l,(∀w':World,w'.heap=w.heap->(Builtin.firstCells k es.length v).run P w'=.ok l.toArray w')/\LR ro [] w es.flatten l/\ ∀v∈l,QA v
theorem RR.flat{b k:Nat}:∀{es:List (List A)} {off:Nat},RR ro σ w b k es off->CR ro σ w b es.flatten off/\allK k es/\es.flatten.length=es.length*k
 |[],off,_=>⟨trivial,trivial,by simp⟩
 |c::es,off,⟨h1,h2,h3⟩=>by
  obtain⟨q1,q2,q3⟩:=RR.flat h3;refine⟨?_,⟨h1,q2⟩,by grind⟩;rw[Vi];have:∀(c:List A) (off:Nat) (d:List A),CR ro σ w b c off->CR ro σ w b d (off+c.length)->CR ro σ w b (c++d) off:=by
   intro c
   induction c with
   |nil=>simp
   |cons x c a=>intro off d ⟨h1,h2⟩ h;exact⟨h1,a (off+1) d h2 (by grind)⟩
  grind
theorem Qa8{b off k n c:Nat}{cs:List A}(h:CR ro σ w b cs off)(f:cs.length=n*k):
  ∃l,(∀w':World,w'.heap=w.heap->(Builtin.firstCells k n (.slice (some ⟨b,off,none⟩) n c)).run P w'=.ok l.toArray w')/\LR ro σ w cs l/\ ∀v∈l,QA v:=by
 obtain⟨l,d,a,e⟩:=Yv (P:=P) (cs:=cs) (off:=off) 0 (by simpa using h)
 grind[Builtin.firstCells,loadCells]
theorem YP{k c:Nat}{a:Option Addr}:(Builtin.firstCells k 0 (.slice a 0 c)).run P w=.ok #[] w:=by
 cases a<;>simp[Builtin.firstCells,loadCells,loadCellsFrom,go_sem]
theorem Src.rsl{k:Nat}{es:List (List A)}:Src P H (.rsl k es) k es:=by
 intro i j σ w v s ⟨a,c,h1,h2,h3⟩;subst h1;refine⟨⟨a,c,rfl⟩,?_⟩;rcases h3 with rfl|⟨b,f,rfl,l,e⟩
 .exact⟨trivial,[],λ_ _=>YP,rfl,by simp⟩
 .obtain⟨d,g,h⟩:=e.flat;exact⟨g,Qa8 d h⟩
theorem Src.nils{k:Nat}:Src P H .nils k []:=by
 intro d a σ w v s h;simp only[VR]at h;subst h;exact⟨⟨none,0,rfl⟩,trivial,[],λ_ _=>YP,rfl,by simp⟩
theorem RR.drop{b k:Nat}:∀(n:Nat) {es:List (List A)} {off:Nat},RR ro σ w b k es off->RR ro σ w b k (es.drop n) (off+n*k)
 |0,_,_,h=>by simpa using h
 |n+1,[],_,_=>trivial
 |n+1,c::es,off,⟨h1,h2,h3⟩=>by
  have:=RR.drop n h3
  grind
theorem RR.take{b k:Nat}:∀(n:Nat) {es:List (List A)} {off:Nat},RR ro σ w b k es off->RR ro σ w b k (es.take n) off
 |0,_,_,h=>trivial
 |n+1,[],_,_=>trivial
 |n+1,c::es,off,⟨h1,h2,h3⟩=>⟨h1,h2,RR.take n h3⟩
theorem Src.osl{i s n k t:Nat}{es a:List (List A)}(u:H[i]?=some (.row t k es))(he:(es.drop s).take n=a)(G:s+n<=es.length):Src P H (.osl i s n k) k a:=by
 intro z L σ w v sm h;have r:a.length=n:=by grind
 rcases h with⟨rfl,rfl⟩|⟨b,p,d,B,m,x,rfl,q,F,J,E⟩
 .have e:a=[]:=(by grind);subst e;exact⟨⟨none,0,rfl⟩,trivial,[],λ_ _=>YP,rfl,by simp⟩
 .rw[r];refine⟨⟨_,d,rfl⟩,?_⟩;obtain⟨l,f,g⟩:=sm.blk i _ _ x u;have j:=((YF (pre:=[]) (by simpa using f) g).drop s).take n;rw[he]at j;by_cases y:0<d
  .obtain rfl:=q y;obtain⟨f,g,M⟩:=j.flat
   simp_all[Qa8]
  .obtain rfl:n=0:=by omega
   have e:a=[]:=(by grind);subst e;exact⟨trivial,[],λ_ _=>YP,rfl,by simp⟩
def Yn:Nat:=4294967296
theorem QeC(n c:Nat)(h:c<n):Builtin.nextslicecap n c<=4*n+1000:=by
 grind[Builtin.nextslicecap,Builtin.growBy]
structure Ye (P:Program) (T e k:Nat):Prop where
 sl:∀w,(underlying T).run P w=.ok (.slice e) w
 size:∀w,(sizeOf e).run P w=.ok k w
 zero:∃z,(∀w,(zeroValue e).run P w=.ok z w)/\z.cells.size=k
 bytes:∃i,(∀w,(typeInfo e).run P w=.ok i w)/\i.bytes<=4096
theorem Qjh{T k:Nat}{es:List (List A)}{l rest:List Value}(s:Sim fr ro σ H w)(hk:allK k es)(h:LR ro [] w es.flatten l)(hp:∀v∈l,QA v):
  Sim fr ro (σ++[some w.heap.size]) (H++[.row T k es]) (w.alloc (.cells (l++rest).toArray T))/\Qi fr ro w ro (w.alloc (.cells (l++rest).toArray T)):=
 ⟨s.allocRow hk h hp,Qi.alloc _ s.roLt s.frLt⟩
theorem Yt{k:Nat}:∀{es:List (List A)},allK k es->es.flatten.length=es.length*k
 |[],_=>by simp
 |c::es,⟨h1,h2⟩=>by simp[Yt h2,h1,Xm,Nat.add_comm]
theorem Qb7{k:Nat}:∀{es fs:List (List A)},allK k es->allK k fs->allK k (es++fs)
 |[],_,_,h=>h
 |c::es,_,⟨h1,h2⟩,h=>⟨h1,Qb7 h2 h⟩
theorem Qg7{k:Nat}:∀{es:List (List A)} (n:Nat),allK k es->allK k (es.take n)
 |_,0,_=>trivial
 |[],n+1,_=>trivial
 |c::es,n+1,⟨h1,h2⟩=>⟨h1,Qg7 n h2⟩
theorem RL.allK{k:Nat}:∀{es:List (List A)} {l:List Value},RL ro σ w k es l->allK k es
 |[],_,_=>trivial
 |c::es,l,⟨l1,l2,h1,h2,h3,h4⟩=>⟨h2,RL.allK h4⟩
theorem RL.app{k:Nat}:∀{n:Nat} {es fs:List (List A)} {l m:List Value},RL ro σ w k es l->n<=es.length->Sw.allK k fs->LR ro σ w fs.flatten m->(∀v∈m,QA v)->
  RL ro σ w k (es.take n++fs) (Sw.splice l (n*k) m)
 |0,es,fs,l,m,h,hn,hk,hm,hp=>by
  simp_all[Sw.splice,Y1]
 |n+1,[],fs,l,m,h,hn,hk,hm,hp=>by simp at hn
 |n+1,c::es,fs,l,m,⟨l1,l2,h1,h2,h3,h4⟩,hn,hk,hm,hp=>by
  subst h1;have hl1:=h3.1.length;refine⟨l1,Sw.splice l2 (n*k) m,?_,h2,h3,RL.app h4 (by grind) hk hm hp⟩;have e1:(n+1)*k=l1.length+n*k:=by grind
  unfold Sw.splice;rw[e1,X9,show l1.length+n*k+m.length=l1.length+(n*k+m.length)from by omega,X8];simp
theorem Qfj{T T' e e' k need cap:Nat}{t:TypeId}(E:Ye P T e k)(M:∀w,(underlying T').run P w=.ok (.slice e') w){ad:Option Addr}{n m c:Nat}{ax:Option Addr}
  (f:need=n+m)(h:cap<need)(a:need<=Yn){old new:List Value}
  (s:∀w':World,w'.heap=w.heap->(Builtin.firstCells k m (.slice ax m c)).run P w'=.ok new.toArray w')(B:∀w':World,w'.heap=w.heap->(Builtin.firstCells k n (.slice ad n cap)).run P w'=.ok old.toArray w'):
  ∃(rest:List Value) (d:Nat),(need<=d/\d<=9223372036854775807)/\rest.length=(d-need)*k/\(Builtin.append_ #[T,T'] t #[.slice ad n cap,.slice ax m c]).run P w=
   .ok (.slice (some ⟨w.heap.size,0,none⟩) need d) (({w with drawn:=w.drawn+1}:World).alloc (.cells ((old++new)++rest).toArray e)):=by
 obtain⟨z,N,j⟩:=E.zero;obtain⟨i,O,Q⟩:=E.bytes
 let d:=need+w.tape w.drawn (.appendCap need cap e)%(2^63-need)
 refine⟨(Builtin.zeroCells z.cells (d-need)).toList,d,⟨Nat.le_add_right _ _,by
  have:=Nat.mod_lt (w.tape w.drawn (.appendCap need cap e)) (show 0<2^63-need by unfold Yn at a;omega);show need+_%(2^63-need)<=_;omega⟩,by simp[Builtin.zeroCells,j],?_⟩
 have g:¬(need<=cap):=by omega
 have y:¬((need:Int)>IntKind.i64.max/\(False\/i.bytes=0)):=by
  rintro⟨q,_⟩;have:IntKind.i64.max=9223372036854775807:=by decide
  rw[this]at q;unfold Yn at a;omega
 have H:¬(Builtin.nextslicecap need cap*i.bytes>2^48):=by
  have:=QeC need cap h;have u:Builtin.nextslicecap need cap*i.bytes<=(4*need+1000)*4096:=Nat.mul_le_mul this Q;unfold Yn at a;omega
 generalize hF:Builtin.firstCells=F at s B;unfold Builtin.append_;rw[hF];have p:∀W:World,(choose (.appendCap need cap e)).run P W=.ok (need+W.tape W.drawn (.appendCap need cap e)%(2^63-need)) {W with drawn:=W.drawn+1}:=by
  intro W;simp[choose,Sem.run,Question.forced,Question.cut]
 have r:∀(x:Nat) (W:World),(askRoom x).run P W=.ok () W:=by
  intro x W;unfold askRoom;split<;>rfl
 have l:∀(c:Array Value) (W:World),(newRow e c).run P W=.ok ⟨W.heap.size,0,none⟩ (W.alloc (.cells c e)):=λc W=>rfl;subst f;simp only[not_and,false_or]at y;have u:¬(((n+m:Nat):Int)>IntKind.i64.max/\(False\/i.bytes=0)):=by simpa using y
 simp only[XF,XD,XE,Vj,E.sl,E.size,M,O,N,Result.andThen,Builtin.lenOf,Vk,Xj,if_false,XG,
  Xi,if_true,Vp g,Vp u,Vp H,p,r]
 have L:=B {w with drawn:=w.drawn+1} rfl;have J:=s {w with drawn:=w.drawn+1} rfl;simp only[L,J,l];have G:old.toArray++new.toArray++Builtin.zeroCells z.cells (d-(n+m))=((old++new)++(Builtin.zeroCells z.cells (d-(n+m))).toList).toArray:=by
  apply Array.toList_inj.1;simp
 rw[<- G]
theorem QbR{T T' e e' k cap:Nat}{t:TypeId}(E:Ye P T e k)(g:∀w,(underlying T').run P w=.ok (.slice e') w){ad:Option Addr}{n m c:Nat}{ax:Option Addr}
  (d:n+m<=cap){new:List Value}(f:(Builtin.firstCells k m (.slice ax m c)).run P w=.ok new.toArray w):
  (Builtin.append_ #[T,T'] t #[.slice ad n cap,.slice ax m c]).run P w=
   match ad with
   |some a=>(do storeCells (a.add (n*k)) new;pure (Value.slice ad (n+m) cap):Sem Value).run P w
   |none=>.ok (.slice ad (n+m) cap) w:=by
 generalize hF:Builtin.firstCells=F at f;unfold Builtin.append_;rw[hF];simp only[XF,XD,XE,Vj,E.sl,E.size,g,Result.andThen,Builtin.lenOf,Vk,Xj,if_false,XG,
  Xi,if_true,Vq d,f]
 cases ad with
 |none=>rfl
 |some a=>simp only[Vj,Result.andThen,Vk]
theorem Sim.weaken(s:Sim fr ro σ H w){i:Nat}{x x':Blk}(B:H[i]?=some x)(N:x.live=true)(q:∀y,BR ro σ w x y->BR ro σ w x' y)
  (M:∀b c,Hid w x' b c->Hid w x b c:=by exact λ_ _ h=>h.elim):Sim fr ro σ (H.set i x') w:=by
 have O:i<H.length:=(by grind);have G:(H.set i x')[i]?=some x':=(by grind);have F:∀j,j≠i->(H.set i x')[j]?=H[j]? :=(by grind);have a:∀(j:Nat) (v:Blk),(H.set i x')[j]?=some v->(j=i/\v=x')\/(j≠i/\H[j]?=some v):=by
  grind
 have l:∀(j:Nat) (v:Blk),(H.set i x')[j]?=some v->v.live=true->∃f,H[j]?=some f/\f.live=true:=by
  grind
 refine⟨by rw[X2];exact s.len,s.roOk,s.frLt,s.roFr,?_,?_,?_,s.hidTo (· = ·) Yg (XS _) (by simp) (by simp) λj d y P Q R=>.inl ?_⟩
 rotate_left 3
 .grind
 .intro j b v e g n;obtain⟨f,p,r⟩:=l j v g n;exact s.own j b f e p r
 .intro j t b v f e g n E z L;obtain⟨u,p,r⟩:=l j v n z;obtain⟨J,m,k⟩:=l t f E L;exact s.inj j t b u J e g p m r k
 .intro j y v e g;rcases a j v g with⟨rfl,rfl⟩|⟨_,h⟩
  .exact q y (s.blk j y x e B)
  .exact s.blk j y v e h
theorem RL.take{k:Nat}:∀(n:Nat) {es:List (List A)} {l:List Value},RL ro σ w k es l->RL ro σ w k (es.take n) l
 |0,_,_,_=>trivial
 |n+1,[],_,_=>trivial
 |n+1,c::es,l,⟨l1,l2,h1,h2,h3,h4⟩=>⟨l1,l2,h1,h2,h3,RL.take n h4⟩
theorem YJ{c:Call}{T T':TypeId}{x y:Operand}(a:o.op=.call c)(d:c={callee:=.builtin .append,args:= #[x,y],argTypes:= #[T,T']})(ρ:Operand->Value){v:Value}{w':World}
  (h:(Builtin.append_ #[T,T'] o.type #[ρ x,ρ y]).run P w=.ok v w'):(execOp ρ o).run P w=.ok (.value v) w':=by
 simp_all[execOp,resolve,invoke,Go.builtin]
theorem Sim.phantom(s:Sim fr ro σ H w)(t k:Nat):Sim fr ro (σ++[none]) (H++[.row t k []]) w:=by
 have h:=s.len;have f:∀(i b:Nat),(σ++[none])[i]?=some (some b)->i<σ.length:=by
  grind
 refine⟨by simp[h],s.roOk,s.frLt,s.roFr,?_,?_,?_,s.hidTo (· = ·) Yg (XS _) (by simp) (by simp) λj d y a e g=>.inl ?_⟩
 rotate_left 3
 .grind
 .intro i b z a e g;have q:=f i b a;rw[XL q]at a;rw[XL (by omega)]at e;exact s.own i b z a e g
 .intro i j b z B a e g l u r;have n:=f i b a;have m:=f j b e;rw[XL n]at a;rw[XL m]at e;rw[XL (by omega)]at g l;exact s.inj i j b z B a e g l u r
 .intro i y z a e;have ext:Ext ro σ w ro (σ++[none]) w:=⟨λ_ q=>q,λ_ _=>rfl,λ_ _ q=>q,(by grind)⟩;rcases Nat.lt_trichotomy i σ.length with q|q|q
  .rw[XL q]at a;rw[XL (by omega)]at e;exact(s.blk i y z a e).keep ext (λ_ _ _=>rfl) (λ_ _ _ _=>rfl)
  .subst q;have x:(σ++[none])[σ.length]?=some none:=by simp
   have p:(H++[Blk.row t k []])[σ.length]?=some (.row t k []):=by grind
   rw[x]at a;rw[p]at e;cases a;cases e;rfl
  grind
theorem Sim.kill(s:Sim fr ro σ H w)(i:Nat):Sim fr ro σ (H.set i .dead) w:=by
 have a:∀(j:Nat) (v:Blk),(H.set i .dead)[j]?=some v->v≠ .dead->H[j]?=some v:=by
  grind
 refine⟨by rw[X2];exact s.len,s.roOk,s.frLt,s.roFr,?_,?_,?_,s.hidTo (· = ·) Yg (XS _) (by simp) (by simp) λj d y r t u=>.inl ⟨j,y,rfl,r,a j y t (Qe6 u),id,λ_ q=>q⟩⟩
 .intro j b v f e g;exact s.own j b v f (a j v e (Qaq g)) g
 .intro j k b v m f e g p h n;exact s.inj j k b v m f e (a j v g (Qaq h)) (a k m p (Qaq n)) h n
 .intro j y v f e;by_cases l:v≠ .dead
  .exact s.blk j y v f (a j v e l)
  .obtain rfl:v=.dead:=Classical.not_not.1 l;trivial
theorem grown{c:Call}{T T' e e' k n m cap cx:Nat}{x y:Operand}{es fs:List (List A)}{a:Act}{ad ax:Option Addr}{old new:List Value}(E:Ye P T e k)(V:∀w,(underlying T').run P w=.ok (.slice e') w)(ho:o.op=.call c)
  (Y:c={callee:=.builtin .append,args:= #[x,y],argTypes:= #[T,T']})(X:a.eval x=.slice ad n cap)(N:a.eval y=.slice ax m cx)(s:Sim fr ro σ H w)(j:cap<n+m)(p:n+m<=Yn)
  (i:∀w':World,w'.heap=w.heap->(Builtin.firstCells k n (.slice ad n cap)).run P w'=.ok old.toArray w')(l:∀w':World,w'.heap=w.heap->(Builtin.firstCells k m (.slice ax m cx)).run P w'=.ok new.toArray w')
  (g:LR ro [] w es.flatten old)(M:∀v∈old,QA v)(r:allK k es)(q:LR ro [] w fs.flatten new)(W:∀v∈new,QA v)(h:allK k fs)(B:es.length=n)(G:fs.length=m):
  ∃v w' ro' τ,(execOp a.eval o).run P w=.ok (.value v) w'/\VR ro' (σ++τ) w' (.osl H.length 0 (n+m) k) v/\Sim fr ro' (σ++τ) (H++[.row e k (es++fs)]) w'/\Qi fr ro w ro' w':=by
 obtain⟨rest,O,u,z,f⟩:=Qfj (t:=o.type) E V rfl j p l i
 let w0:World:={w with drawn:=w.drawn+1}
 have s0:Sim fr ro σ H w0:=s.heap rfl;have e0:Qi fr ro w ro w0:=Qi.heap rfl rfl rfl rfl (Nat.le_succ _);have F:LR ro [] w0 (es++fs).flatten (old++new):=by
  rw[Xs];exact(g.append q).mono (Ext.heap (w:=w) (w':=w0) rfl)
 obtain⟨Q,R⟩:=Qjh (T:=e) (rest:=rest) s0 (Qb7 r h) F (λv hv=>by grind);have d:(execOp a.eval o).run P w=.ok (.value _) _:=YJ ho Y a.eval (by rw[X,N];exact f);refine⟨_,_,ro,[some w.heap.size],d,.inr ⟨w.heap.size,0,O,e,(old++new++rest).length,?_,rfl,λ_=>by simp,u,?_,?_⟩,Q,e0.trans R⟩
 .rw[<- s.len];simp
 .have:=Q9 w0 (.cells ((old++new)++rest).toArray e);unfold World.shape?
  grind
 .have J:=g.length;have L:=q.length;rw[Yt r]at J;rw[Yt h]at L;simp only[X0,z,J,L,B,G,Xv];rw[<- Xz, <- Xz]
  grind
theorem Qgy{c:Call}{T T' e e' k:Nat}{x y:Operand}{p:A}{fs:List (List A)}(E:Ye P T e k)(s:∀w,(underlying T').run P w=.ok (.slice e') w)(z:o.op=.call c)
  (j:c={callee:=.builtin .append,args:= #[x,y],argTypes:= #[T,T']})(F:opA env x=.nils)(B:opA env y=p)(O:Src P H p k fs)(q:fs.length<=Yn):
  OpH P o env H (.osl H.length 0 fs.length k) (H++[.row e k fs]):=by
 intro J u σ N a w r;have d:=Ql r x;rw[F]at d;simp only[VR]at d;have i:=Ql r y;rw[B]at i;obtain⟨⟨Q,L,g⟩,R,l,h,M,G⟩:=O J u σ w _ r.sim i;rw[g]at h;by_cases V:fs.length=0
 .have f:fs=[]:=(by grind);subst f;refine⟨.slice none 0 0,w,u,[none],?_,.inl ⟨rfl,rfl⟩,r.sim.phantom e k,Qi.refl _ _ _⟩;refine YJ z j _ ?_;rw[d,g];have:=QbR (t:=o.type) E s (ad:=none) (n:=0) (m:=0) (cap:=0) (c:=L) (ax:=Q) (XS 0) (h w rfl);omega
 .have:=grown (es:=[]) (old:=[]) E s z j d g r.sim (by omega) (by omega) (λ_ _=>YP) h rfl (by simp) trivial M G R rfl rfl
  grind
theorem Qex{c:Call}{T T' e e' k i n:Nat}{x y:Operand}{ya:A}{es fs gs:List (List A)}(E:Ye P T e k)(hd:∀w,(underlying T').run P w=.ok (.slice e') w)(R:o.op=.call c)
  (G:c={callee:=.builtin .append,args:= #[x,y],argTypes:= #[T,T']})(hx:opA env x=.osl i 0 n k)(V:H[i]?=some (.row e k es))(hn:n<=es.length)(u:opA env y=ya)(hs:Src P H ya k fs)(g:n+fs.length<=Yn)
  (hg:es.take n++fs=gs):OpH P o env H (.osl H.length 0 (n+fs.length) k) (H.set i .dead++[.row e k gs]):=by
 intro fr z σ N a w r;subst hg;have j:=Ql r x;rw[hx]at j;have h2:=Ql r y;rw[u]at h2;obtain⟨⟨ay,cy,Y⟩,q2,l,L,q4,W⟩:=hs fr z σ w _ r.sim h2;rw[Y]at L;have h:i<H.length:=(by grind);have af:(H.set i .dead).length=H.length:=X2;obtain⟨s,hσ⟩:∃s,σ[i]?=some s:=⟨_,XJ (by rw[r.sim.len];exact h)⟩;rcases j with⟨rfl,j⟩|⟨b,p,cap,t',mm,F,j,X,h5,O,h7⟩
 ·
  by_cases hm:fs.length=0
  .have q:fs=[]:=(by grind);subst q;refine⟨.slice none 0 0,w,z,[none],?_,.inl ⟨rfl,rfl⟩,(r.sim.kill i).phantom e k,Qi.refl _ _ _⟩;refine YJ R G _ ?_;rw[j,Y];have:=QbR (t:=o.type) E hd (ad:=none) (n:=0) (m:=0) (cap:=0) (c:=cy) (ax:=ay) (XS 0) (L w rfl);omega
  .have:=grown (es:=[]) (old:=[]) E hd R G j Y (r.sim.kill i) (by omega) g (λ_ _=>YP) L rfl (by simp) trivial q4 W q2 rfl rfl
   grind
 .have Q:=r.sim.blk i _ _ F V;obtain⟨J,M,g2⟩:=Q;have ab:(es.take n).length=n:=by simp;omega
  obtain⟨old,o1,o2,o3⟩:∃old:List Value,(∀w':World,w'.heap=w.heap->(Builtin.firstCells k n (.slice (some ⟨b,p,none⟩) n cap)).run P w'=.ok old.toArray w')/\LR z [] w (es.take n).flatten old/\ ∀v∈old,QA v:=by
   have B:Src P H (.osl i 0 n k) k (es.take n):=Src.osl V (by simp) (by omega);obtain⟨_,_,l',z1,z2,z3⟩:=B fr z σ w (.slice (some ⟨b,p,none⟩) n cap) r.sim (.inr ⟨b,p,cap,t',mm,F,rfl,X,h5,O,h7⟩)
   grind
  by_cases d:n+fs.length<=cap
  .have ae:=QbR (t:=o.type) E hd (ad:=some ⟨b,p,none⟩) (n:=n) (m:=fs.length) (cap:=cap) (c:=cy) (ax:=ay) d (L w rfl);have ah:l.length=fs.length*k:=by rw[q4.length,Yt q2]
   by_cases hm:fs.length=0
   .have q:fs=[]:=(by grind);subst q;have el:l=[]:=(by simp_all);subst el;have sw:=(r.sim.weaken (x':=.row e k (es.take n)) V rfl (by
     intro y u;cases y with
     |none=>simp only[BR]at u⊢;grind
     |some y=>obtain⟨J,M,g2⟩:=u;exact⟨J,M,g2.take n⟩))
    have sm:=sw.moved (i:=i) (Xa h) F;rw[List.set_set]at sm;refine⟨.slice (some ⟨b,p,none⟩) n cap,w,z,[some b],?_,.inr ⟨b,p,cap,t',mm,?_,by simp,X,by omega,O,h7⟩,by grind,Qi.refl _ _ _⟩
    .refine YJ R G _ ?_
     simp_all[storeCells]
    .rw[<- r.sim.len];simp
   .obtain rfl:p=0*k:=X (by omega);have aa:(n+fs.length)*k<=J.length:=by
     have:w.shape? b=some (e,J.length):=by unfold World.shape?;rw[M];simp
     rw[this]at O;cases O;exact XU (XB k d) (by grind)
    rw[Xz]at aa;have ag:=Yh (P:=P) (vs:=l) (n*k) 0 M (by omega) W;have f:=r.sim.set (x':=.row e k (es.take n++fs)) (obj:=.cells (splice J (n*k) l).toArray e (0,0)) F V rfl
     (λy u=>JA M (Yf (by omega)) y u)
     (λex ac=>⟨_,ac,(g2.app hn q2 q4 W).mono ex.nil⟩)
    have sm:=f.1.moved (i:=i) (Xa h) F;rw[List.set_set]at sm;refine⟨.slice (some ⟨b,0*k,none⟩) (n+fs.length) cap,_,z,[some b],?_,.inr ⟨b,0*k,cap,t',mm,?_,rfl,X,⟨d,h5.2⟩,?_,h7⟩,sm,f.2⟩
    .refine YJ R G _ ?_
     simp_all[Y6]
    .rw[<- r.sim.len];simp
    .exact f.2.shape _ _ O
  .have:=grown (es:=es.take n) (old:=old) (fs:=fs) E hd R G j Y (r.sim.kill i) (by omega) g o1 L o2 o3 (Qg7 n g2.allK) q4 W q2 ab rfl
   grind
end
section
variable {P:Program} {o:Oper} {env:Env} {H:Qe}
theorem OpC.fn{c:Call}{f:FuncId}{xs:List Operand}{i:Array TypeId}{args:List A}(d:∀(a:Array Value) (w:World),(callFunc f a).run P w=.ok (.enter f a) w)(l:o.op=.call c)
  (h:c={callee:=.value (.func f),args:=xs.toArray,argTypes:=i})(g:xs.map (opA env)=args):OpC P o env H f args:=by
 intro k j σ N a w r;refine⟨xs.map a.eval,?_,g▸Qbg r xs⟩;subst h;have e:a.eval (.func f)=.func (.func f) #[] #[]:=rfl
 grind[execOp,resolve,Deferred.ofValue,invoke]
theorem Qk5{c:Call}{f:FuncId}{x:Operand}{xs:List Operand}{p:Array TypeId}{args g h:List A}(d:∀(a:Array Value) (w:World),(callFunc f a).run P w=.ok (.enter f a) w)(u:o.op=.call c)
  (t:c={callee:=.value x,args:=xs.toArray,argTypes:=p})(k:opA env x=.fn (.func f) g h)(n:g++(xs.map (opA env)++h)=args):OpC P o env H f args:=by
 intro q s σ N a w r;have e:=Ql r x;rw[k]at e;obtain⟨l,j,e,m,i⟩:=e;refine⟨l++(xs.map a.eval++j),?_,n▸m.append ((Qbg r xs).append i)⟩
 grind[execOp,resolve,Deferred.ofValue,invoke]
def Qgk(ρ:Nat->Nat)(env:Env):Env->Prop
 |[]=>True
 |(s,a)::r=>lk env s=Y4 ρ a/\Qgk ρ env r
theorem Qgk.ok{ro:Nat->Prop}{σ σ':Sig}{w:World}{ρ:Nat->Nat}(h:∀i:Nat,σ[ρ i]?=σ'[i]?){t:Array Value}(r:∀s,VR ro σ w (lk env s) (t.getD s undef)):
  ∀{env':Env},Qgk ρ env env'->∀s,VR ro σ' w (lk env' s) (t.getD s undef)
 |[],_,s=>trivial
 |(d,a)::e,⟨h1,h2⟩,s=>by
  simp only[lk];by_cases q:s=d
  .grind[Nat.beq_refl,QdW]
  .have:Nat.beq s d=false:=by
    simp_all[VJ]
   rw[this];exact Qgk.ok h r h2 s
theorem Sim.sub{fr ro:Nat->Prop}{σ:Sig}{w:World}{π:List Nat}{H':Qe}(s:Sim fr ro σ H w)(r:π.map (λp=>H[p]?)=(H'.map (Yc (rho π H.length))).map some)(hπ:π.Nodup):
  Sim fr ro (Yy σ π) H' w/\ ∀j:Nat,σ[rho π H.length j]?=(Yy σ π)[j]? :=by
 have N:∀p∈π,p<H.length:=λp q=>Jp r q;have hσl:=s.len;have L:∀(j p:Nat),π[j]?=some p->H[p]?=(H'[j]?).map (Yc (rho π H.length)):=by
  intro j p e;have:=congrArg (λl=>l[j]?) r
  grind
 have k:π.length=H'.length:=by simpa using congrArg List.length r
 have hσc:∀j:Nat,σ[rho π H.length j]?=(Yy σ π)[j]? :=by
  intro j;have:=QeI (τ:=[]) hσl N j
  grind
 have hπj:∀(j b:Nat),(Yy σ π)[j]?=some (some b)->∃p,π[j]?=some p/\σ[p]?=some (some b):=by
  intro j b e;simp only[Yy,Xo]at e
  grind
 have hπi:∀(i j p:Nat),π[i]?=some p->π[j]?=some p->i=j:=by
  intro i j p f a;have z:i<π.length:=(by grind);have e:j<π.length:=(XK.1 a).1;rw[XJ z]at f;rw[XJ e]at a;have m:=(XX f).trans (XX a).symm;rcases Nat.lt_trichotomy i j with q|q|q
  .exact(VB.1 hπ i j z e q m).elim
  .exact q
  .exact(VB.1 hπ j i e z q m.symm).elim
 refine⟨⟨by simp[Yy,k],s.roOk,s.frLt,s.roFr,?_,?_,?_,s.hidTo (λj p=>π[j]?=some p) hπi (XS _) (λ_ _ _ _ _ _ _ q=>q) (λ_ _ _ _ _ _ _ q=>q) λj d y M P Q=>.inl ?_⟩,hσc⟩
 rotate_left 3
 .obtain⟨p,f,g⟩:=hπj j d M;exact⟨p,Yc (rho π H.length) y,f,g,by grind,by rw[QN];exact id,λc q=>(Qah _ _ _ _ _).2 q⟩
 .intro j b x n u F;obtain⟨p,f,g⟩:=hπj j b n;have h:H[p]?=some (Yc (rho π H.length) x):=by grind
  exact s.own p b _ g h (by rw[QN];exact F)
 .intro i j b x y n u F O G J;obtain⟨p,f,g⟩:=hπj i b n;obtain⟨E,a,t⟩:=hπj j b u;have h:H[p]?=some (Yc (rho π H.length) x):=by grind
  have B:H[E]?=some (Yc (rho π H.length) y):=by grind
  have:=s.inj p E b _ _ g t h B (by rw[QN];exact G) (by rw[QN];exact J)
  grind
 .intro j y x n u;have e:j<π.length:=by
   grind
  have f:π[j]?=some π[j]:=XJ e;have h:H[π[j]]?=some (Yc (rho π H.length) x):=by grind
  have g:σ[π[j]]?=some y:=by
   grind[rho]
  exact(Qib hσc).1 (s.blk _ y _ g h)
theorem QpK{e:Nat}{env':Env}{H':Qe}(π:List Nat)(d:π.take e=List.range e)(f:π.map (λp=>H[p]?)=(H'.map (Yc (rho π H.length))).map some)(hπ:π.Nodup)
  (hE:Qgk (rho π H.length) env env'):Le e env H env' H':=by
 intro i h σ N a w r;obtain⟨g,hσ⟩:=r.sim.sub f hπ;refine⟨h,Yy σ π,⟨g,Qgk.ok hσ r.env hE,r.size,r.defers⟩,λ_ q=>q,?_⟩;have j:=r.sim.len;have k:∀p∈π,p<H.length:=λp q=>Jp f q;unfold Yy;rw[<- List.map_take,d];apply List.ext_getElem?
 grind
theorem Le.phantom{f s k t:Nat}(g:f<=H.length)(h:lk env s=.nils):Le f env H (up env s (.osl H.length 0 0 k)) (H++[.row t k []]):=by
 intro i e σ N a w r;refine⟨e,σ++[none],⟨r.sim.phantom t k,?_,r.size,r.defers⟩,λ_ q=>q,QH (by rw[r.sim.len];exact g)⟩;have ext:Ext e σ w e (σ++[none]) w:=⟨λ_ q=>q,λ_ _=>rfl,λ_ _ q=>q,(by grind)⟩;intro d;simp only[lk];by_cases q:d=s
 .subst q;rw[VC];have:=r.env d;rw[h]at this;exact .inl ⟨rfl,this⟩
 .have:Nat.beq d s=false:=by
   simp_all[VJ]
  rw[this];exact(r.env d).mono ext
theorem Qk7{f s k:Nat}(g:lk env s=.nils):Le f env H (up env s (.rsl k [])) H:=by
 intro h e σ N a w r;refine⟨e,σ,⟨r.sim,?_,r.size,r.defers⟩,λ_ q=>q,rfl⟩;intro d;simp only[lk];by_cases q:d=s
 .subst q;rw[VC];have:=r.env d;rw[g]at this;exact⟨none,0,this,XS _,.inl rfl⟩
 .have:Nat.beq d s=false:=by
   simp_all[VJ]
  rw[this];exact r.env d
mutual
def Yu:A->Bool
 |.bool _=>true
 |.int _ _=>true
 |.str _=>true
 |.tup vs=>QeJ vs
 |_=>false
def QeJ:List A->Bool
 |[]=>true
 |a::r=>Yu a&&QeJ r
end
mutual
theorem VR.scalar{ro ro':Nat->Prop}{σ σ':Sig}{w w':World}:∀{a:A} {v:Value},Yu a=true->VR ro σ w a v->VR ro' σ' w' a v
 |.bool _,_,_,h=>h
 |.int _ _,_,_,h=>h
 |.str _,_,_,h=>h
 |.tup vs,v,hs,h=>by
  simp only[VR,Yu]at h hs⊢;obtain⟨l,h1,h2⟩:=h;exact⟨l,h1,LR.scalar hs h2⟩
 |.any,_,hs,_=>by simp[Yu]at hs
 |.nilp,_,hs,_=>by simp[Yu]at hs
 |.ptr _ _,_,hs,_=>by simp[Yu]at hs
 |.rp _,_,hs,_=>by simp[Yu]at hs
 |.nils,_,hs,_=>by simp[Yu]at hs
 |.rsl _ _,_,hs,_=>by simp[Yu]at hs
 |.osl _ _ _ _,_,hs,_=>by simp[Yu]at hs
 |.agg _,_,hs,_=>by simp[Yu]at hs
 |.fn _ _ _,_,hs,_=>by simp[Yu]at hs
 |.nilf,_,hs,_=>by simp[Yu]at hs
 |.iface _ _,_,hs,_=>by simp[Yu]at hs
 |.nilif,_,hs,_=>by simp[Yu]at hs
 |.map _,_,hs,_=>by simp[Yu]at hs
 |.nilm,_,hs,_=>by simp[Yu]at hs
theorem LR.scalar{ro ro':Nat->Prop}{σ σ':Sig}{w w':World}:∀{az:List A} {l:List Value},QeJ az=true->LR ro σ w az l->LR ro' σ' w' az l
 |[],_,_,h=>h
 |a::r,l,hs,h=>by
  simp only[LR,QeJ,XV]at h hs⊢;obtain⟨v,l',h1,h2,h3⟩:=h;exact⟨v,l',h1,VR.scalar hs.1 h2,LR.scalar hs.2 h3⟩
end
def Look(H:Qe):A->A->Prop:=λa a'=>(a'=a/\YC a=true)\/ ∃i n k t es,a=.osl i 0 n k/\H[i]?=some (.row t k es)/\es.length=n/\a'=.rsl k es
def Qbj(H:Qe):List A->List A->Prop
 |[],[]=>True
 |a::az,b::bs=>Look H a b/\Qbj H az bs
 |_,_=>False
theorem Qjb{h0 N:Nat}{Q:QR}{all:Array Oper}{l:List Oper}{d:Nat}{f:FuncId}{args B:List A}{Qr:A->Qe->Prop}(aa:OpC P o env H f args)(hv:Qbj H args B)(hC:C P f B [] Qr)
  (ac:∀r H1,Qr r H1->Yu r=true)(k:∀r H1,Qr r H1->WO P h0 N all l (up env d r) H Q)(hg:QE all o env true:=by exact rfl)(hd:o.dst=some d:=by exact rfl)(hN:Nat.blt d N=true:=by exact rfl):WO P h0 N all (o::l) env H Q:=by
 intro rd fr ro σ a w r hrd;obtain⟨Y,h1,h2⟩:=aa fr ro σ N a w r;refine Qgz (Jg hg r) h1 ?_
 let roc:Nat->Prop:=λb=>ro b\/ ∃(i:Nat) (x:Blk),σ[i]?=some (some b)/\H[i]?=some x/\x.live=true
 let frc:Nat->Prop:=λb=>fr b\/ ∃(i:Nat) (x:Blk) (d:Nat),σ[i]?=some (some d)/\H[i]?=some x/\Hid w x d b
 have R:Sim frc roc [] [] w:=by
  refine⟨rfl,r.sim.roOk.to (λ_ q=>.inl q) (λ_ _=>rfl) ?_,?_,?_,by simp,by simp,by simp,by simp⟩
  .rintro b (q|⟨i,x,u,z,F⟩)
   .exact r.sim.roLt b q
   .exact(r.sim.own i b x u z F).1
  .rintro b (q|⟨i,x,d,u,z,F⟩)
   .exact r.sim.frLt b q
   .exact(r.sim.hid i d x b u z F).lt
  .rintro b (q|⟨i,x,u,z,F⟩) (q'|⟨i',x',d',O,L,T⟩)
   .exact r.sim.roFr b q q'
   .exact(r.sim.hid i' d' x' b O L T).ro q
   .exact(r.sim.own i b x u z F).2.2 q'
   .exact(r.sim.hid i' d' x' b O L T).ne i b x u z F rfl
 have G:∀(az E:List A) (l:List Value),Qbj H az E->LR ro σ w az l->LR roc [] w E l:=by
  intro az
  induction az with
  |nil=>
   intro E l J h;cases E with
   |nil=>exact h
   |cons b E=>exact J.elim
  |cons x az ih=>
   intro E l J h;cases E with
   |nil=>exact J.elim
   |cons y E=>
    obtain⟨hx,J⟩:=J;obtain⟨v,l',rfl,hv,h⟩:=h;refine⟨v,l',rfl,?_,ih E l' J h⟩;rcases hx with⟨rfl,hx⟩|⟨i,n,k,t,es,rfl,hH,hn,rfl⟩
    .exact(hv.data (σ':=[]) hx).mono ⟨λ_ q=>.inl q,λ_ _=>rfl,λ_ _ q=>q,λ_ _ q=>q⟩
    .subst hn;rcases hv with⟨h0,h⟩|⟨b,p,W,t',m,h1,h,h2,⟨h3,af⟩,h4,h5⟩
     .have:es=[]:=(by grind);subst this;exact⟨none,0,h,XS _,.inl rfl⟩
     .refine⟨_,W,h,h3,?_⟩;by_cases he:es=[]
      .exact .inl he
      .right;have hc:0<W:=Vc (by grind) h3;obtain rfl:=h2 hc;obtain⟨l,u,z⟩:=r.sim.blk i _ _ h1 hH;refine⟨b,0,by simp,.inr ⟨i,_,h1,hH,rfl⟩,?_⟩;have:=YF (pre:=[]) (by simpa using u) z;exact this.keep ⟨λ_ q=>.inl q,λ_ _=>rfl,λ_ _ q=>q,λ_ _ q=>q⟩ rfl
 refine Calls.mono (hC frc roc [] Y w R (G _ _ _ hv h2)) ?_;rintro e M ⟨v,rr,H1,ae,τ,rfl,hq,sc,ad,ev⟩;have X:∀(i b:Nat) (x:Blk),σ[i]?=some (some b)->H[i]?=some x->x.live=true->M.heap[b]?=w.heap[b]? :=λi b x u z F=>ev.keepRo b (by grind);have g:Qi fr ro w ro M:=⟨λ_ q=>q,λb q=>ev.keepRo b (.inl q),λb q=>ev.keepFr b (.inl q),ev.size,ev.shape,ev.os,ev.tape,ev.output,ev.drawn⟩;have V:Sim fr ro σ H M:=by
  refine⟨r.sim.len,r.sim.roOk.to (λ_ q=>q) g.keepRo (λb q=>Vc (r.sim.roLt b q) ev.size),λb q=>Vc (r.sim.frLt b q) ev.size,r.sim.roFr,?_,r.sim.inj,?_,r.sim.hidTo (· = ·) Yg ev.size (by simp) (by simp) λj d y g1 g2 g3=>.inl ⟨j,y,rfl,g1,g2,id,λc q=>r.sim.hidKeep g1 g2 (X j d y g1 g2) g.keepRo q⟩⟩
  .intro i b x u z F;obtain⟨p1,p2,p3⟩:=r.sim.own i b x u z F
   grind
  .intro i y x u z;refine(r.sim.blk i y x u z).keep (g.ext0 σ) ?_ ?_
   .grind
   .rintro b c rfl J;exact ev.keepFr c (by grind)
 have hk:=k rr H1 hq;have ab:d<N:=by simp_all
 simp only[hd,Act.put];have r':Rel fr ro σ H (up env d rr) N {a with tmps:=a.tmps.setIfInBounds d v} M:=
  ⟨V,VR.up (fr:=fr) (λs=>(r.env s).mono (g.ext0 σ)) (by rw[r.size];exact ab) (ad.scalar (ac _ _ hq)),by simpa using r.size,r.defers.keep g⟩
 exact⟨_,rfl,YB (λe a w q=>q.step g rfl) _ _ _ (hk rd fr ro σ _ M r' (hrd.to g λ_ q=>q))⟩
end
section
variable {P:Program} {o:Oper} {env:Env} {H:Qe}
theorem QgR{α:Type}:∀(vs:List α) (off i:Nat) (l:List α),off+i+vs.length<=l.length->
  (vs.zipIdx i).foldl (λ(cs:Array α) (x:α×Nat)=>cs.setIfInBounds (off+x.2) x.1) l.toArray=(splice l (off+i) vs).toArray
 |[],off,i,l,h=>by simp[splice]
 |v::vs,off,i,l,h=>by
  simp only[XY]at h;rw[List.zipIdx_cons,XC];have e1:l.toArray.setIfInBounds (off+i) v=(splice l (off+i) [v]).toArray:=by
   have:l.toArray.setIfInBounds (off+i) v=(l.set (off+i) v).toArray:=by simp
   rw[this];congr 1;rw[List.set_eq_take_append_cons_drop,Vq (by omega)];simp[splice]
  rw[e1,QgR vs off (i+1) _ (by grind)];congr 1;have a:(l.take (off+i)).length=off+i:=by simp;omega
  unfold splice;rw[Vf (l.take (off+i))];have f:off+(i+1)=(l.take (off+i)).length+1:=by omega
  have e:(l.take (off+i)++([v]++l.drop (off+i+[v].length))).take ((l.take (off+i)).length+1)=l.take (off+i)++[v]:=by
   grind
  have d:(l.take (off+i)++([v]++l.drop (off+i+[v].length))).drop ((l.take (off+i)).length+1+vs.length)=l.drop (off+i+(v::vs).length):=by
   rw[show(l.take (off+i)).length+1+vs.length=(l.take (off+i)).length+(1+vs.length)from by omega,X8];simp[Nat.add_comm 1];omega
  simp_all
theorem QgT{place:Nat->Option (Nat×Nat)}{l:List Value}{i off size:Nat}{v:Value}{m:List Value}{rest:List (Nat×Value)}(d:place i=some (off,size))(a:v.cells=m.toArray)(g:m.length=size)
  (f:off+size<=l.length):Instr.fill place l.toArray ((i,v)::rest)=Instr.fill place (splice l off m).toArray rest:=by
 have e:v.cells.size=size:=by grind
 rw[Instr.fill];simp only[d];rw[Vp (by grind),a];congr 1
 simp_all[QgR]
def Qay:Nat->List Operand->List (Nat×Operand)
 |_,[]=>[]
 |i,x::xs=>(i,x)::Qay (i+1) xs
def Ym(env:Env)(xs:List Operand):List (List A):=xs.map λx=>Yj (opA env x)
theorem QfF{fr ro:Nat->Prop}{σ:Sig}{N:Nat}{a:Act}{w:World}(r:Rel fr ro σ H env N a w){k:Nat}:∀(xs:List Operand) (j:Nat) (pre rest:List Value),pre.length=j*k->rest.length=xs.length*k->
  (xs.all λx=>Ys (opA env x))=true->allK k (Ym env xs)->
  ∃l,Instr.fill (λi=>some (i*k,k)) (pre++rest).toArray ((Qay j xs).map λp=>(p.1,a.eval p.2))=some (pre++l).toArray/\LR ro σ w (Ym env xs).flatten l
 |[],j,pre,rest,h1,h2,_,_=>by
  have:rest=[]:=(by simp_all);subst this;exact⟨[],rfl,rfl⟩
 |x::xs,j,pre,rest,h1,h2,h3,h4=>by
  simp only[List.all_cons,XV]at h3;obtain⟨hk1,hk2⟩:=h4;obtain⟨m,q1,q2⟩:=(Ql r x).cells h3.1;have hm:m.length=k:=by rw[q2.length];exact hk1
  simp only[XY,Xm]at h2;simp only[Qay,Vg];rw[QgT (off:=j*k) (size:=k) rfl q1 hm (by simp;omega)];have e:splice (pre++rest) (j*k) m=(pre++m)++rest.drop k:=by
   unfold splice
   grind[List.drop_length_add_append]
  rw[e];obtain⟨l,d,f⟩:=QfF r xs (j+1) (pre++m) (rest.drop k) (by grind) (by simp;omega) h3.2 hk2;refine⟨m++l,?_,?_⟩
  .rw[d];simp
  .show LR ro σ w ((Yj (opA env x))++(Ym env xs).flatten) (m++l);exact q2.append f
theorem QaI{fr ro:Nat->Prop}{σ:Sig}{N:Nat}{a:Act}{w:World}(r:Rel fr ro σ H env N a w){T e k n:Nat}{xs:List Operand}(E:Ye P T e k)(s:xs.length=n)(u:Nat.ble (n*k) 16777216=true)
  (g:(xs.all λx=>Ys (opA env x))=true)(j:allK k (Ym env xs)):
  ∃l,(Instr.buildSlice T n (((Qay 0 xs).map λp=>(p.1,a.eval p.2)).toArray)).run P w=.ok (.slice (some ⟨w.heap.size,0,none⟩) n n) (w.alloc (.cells l.toArray e))/\LR ro σ w (Ym env xs).flatten l:=by
 obtain⟨z,q,t⟩:=E.zero;have h:n*k<=16777216:=by simp_all
 have y:∀(c:Array Value) (W:World),(newRow e c).run P W=.ok ⟨W.heap.size,0,none⟩ (W.alloc (.cells c e)):=λc W=>rfl;unfold Instr.buildSlice;by_cases m:n*k=0
 .obtain⟨l,f,d⟩:=QfF r (k:=k) xs 0 [] [] (by simp) (by grind) g j;refine⟨l,?_,d⟩;simp only[Vj,E.sl,Result.andThen,E.size,m]
  simp_all[Array.range]
 .obtain⟨l,f,d⟩:=QfF r (k:=k) xs 0 [] ((Array.range (n*k)).map (λi=>z.cells[i%z.cells.size]!)).toList (by simp) (by rw[s];simp) g j;refine⟨l,?_,d⟩;simp only[Vj,E.sl,Result.andThen,E.size,Vp m,XG,q,Vk];rw[Vp (by omega)];simp only[Ve]at f;rw[Array.toArray_toList]at f
  simp_all
theorem Qan{T n:Nat}{xs:List Operand}(a:o.op=.buildSlice T n (Qay 0 xs).toArray)(ρ:Operand->Value){v:Value}{w w':World}
  (h:(Instr.buildSlice T n (((Qay 0 xs).map λp=>(p.1,ρ p.2)).toArray)).run P w=.ok v w'):(execOp ρ o).run P w=.ok (.value v) w':=by
 grind[execOp,Sem.run_bind,Result.andThen,Sem.run_pure]
theorem OpH.lit{T e k n:Nat}{xs:List Operand}{es:List (List A)}(E:Ye P T e k)(z:o.op=.buildSlice T n (Qay 0 xs).toArray)(p:xs.length=n)(g:Nat.ble (n*(k+1)) 16777216=true)
  (u:(xs.all λx=>Ys (opA env x))=true)(f:Ym env xs=es)(i:allK k es)(B:es.flatten.all YA=true)(t:YK es.flatten=true):
  OpH P o env H (.osl H.length 0 n k) (H++[.row e k es]):=by
 intro F q σ N a w r;subst f;have h:=XQ g;rw[Nat.mul_add]at h;obtain⟨l,y,d⟩:=QaI r E p (XR (by omega)) u i;have j:LR q [] w (Ym env xs).flatten l:=d.data t;obtain⟨m,s⟩:=Qjh (T:=e) (rest:=[]) r.sim i j (d.plain B);rw[Vd]at m s;have G:l.length=n*k:=by rw[d.length,Yt i];simp[Ym,p]
 refine⟨_,_,q,[some w.heap.size],Qan z a.eval y,.inr ⟨w.heap.size,0,n,e,l.length,?_,rfl,λ_=>by simp,(by omega),?_,by grind⟩,m,s⟩
 .rw[<- r.sim.len];simp
 .unfold World.shape?;rw[Q9];simp
theorem YN{T e k n:Nat}{xs:List Operand}{es:List (List A)}(E:Ye P T e k)(u:o.op=.buildSlice T n (Qay 0 xs).toArray)(m:xs.length=n)(g:Nat.ble (n*(k+1)) 16777216=true)
  (p:(xs.all λx=>Ys (opA env x))=true)(f:Ym env xs=es)(i:allK k es)(y:es.flatten.all YA=true):
  OpH P o env H (.osl H.length 0 n k) (H++[.rowr e k es]):=by
 intro z q σ N a w r;subst f;have h:=XQ g;rw[Nat.mul_add]at h;obtain⟨l,s,d⟩:=QaI r E m (XR (by omega)) p i;have j:=r.sim.allocRowr (t:=e) (rest:=[]) i d (d.plain y);rw[Vd]at j;have B:l.length=n*k:=by rw[d.length,Yt i];simp[Ym,m]
 refine⟨_,_,q,[some w.heap.size],Qan u a.eval s,.inr ⟨w.heap.size,0,n,e,l.length,?_,rfl,λ_=>by simp,(by omega),?_,by grind⟩,j,Qi.alloc _ r.sim.roLt r.sim.frLt⟩
 .rw[<- r.sim.len];simp
 .unfold World.shape?;rw[Q9];simp
theorem Yi{n:Int}{y:Nat}{c:BoundsCode}{w:World}(d:0<=n)(a:n<=y):(Instr.sliceBound (.int .i64 n) y c).run P w=.ok n.toNat w:=by
 simp_all[Instr.sliceBound,asIntOf]
theorem Qks{T e:Nat}{k:Nat}{w:World}(E1:∀w,(underlying T).run P w=.ok (.slice e) w)(E2:∀w,(sizeOf e).run P w=.ok k w){ad:Option Addr}{n cap:Nat}{lo hi:Option Value}{l h:Nat}(f:n<=cap)
  (a:lo=none/\l=0\/ ∃z:Int,lo=some (.int .i64 z)/\0<=z/\z.toNat=l)(d:hi=none/\h=n\/ ∃z:Int,hi=some (.int .i64 z)/\0<=z/\z.toNat=h)(i:l<=h)(j:h<=n):
  (Instr.sliceAt T (.slice ad n cap) lo hi none).run P w=.ok (.slice (if cap=l then ad else ad.map (·.add (l*k))) (h-l) (cap-l)) w:=by
 have m:(Instr.sliceBounds true n cap lo hi none).run P w=.ok (l,h,cap) w:=by
  rcases a with⟨rfl,rfl⟩|⟨z,rfl,g,rfl⟩<;>rcases d with⟨rfl,rfl⟩|⟨y,rfl,y0,rfl⟩
  .rfl
  .grind[Instr.sliceBounds,Sem.run_bind,Sem.run_pure,Result.andThen,Yi]
  .grind[Instr.sliceBounds,Sem.run_bind,Sem.run_pure,Result.andThen,Yi]
  .simp only[Instr.sliceBounds,Vj,Vk,Result.andThen,Yi y0 (show y<=(cap:Int)by omega),Yi g (show z<=(y.toNat:Int)by omega)]
 simp_all[Instr.sliceAt,Result.andThen,Instr.slice]
theorem Qda{fr ro:Nat->Prop}{σ:Sig}{N:Nat}{a:Act}{w:World}(r:Rel fr ro σ H env N a w){x:Option Operand}{l d:Nat}(h:x=none/\l=d\/ ∃y,∃z:Int,x=some y/\opA env y=.int .i64 z/\0<=z/\z.toNat=l):
  x.map a.eval=none/\l=d\/ ∃z:Int,x.map a.eval=some (.int .i64 z)/\0<=z/\z.toNat=l:=by
 rcases h with⟨rfl,rfl⟩|⟨y,z,rfl,e,g,f⟩
 .simp
 grind[QB]
theorem Qgf{T e k i s n:Nat}{x:Operand}{lo hi:Option Operand}{l h:Nat}(E1:∀w,(underlying T).run P w=.ok (.slice e) w)(E2:∀w,(sizeOf e).run P w=.ok k w)(G:o.op=.slice T x lo hi none)
  (L:opA env x=.osl i s n k)(g:lo=none/\l=0\/ ∃y,∃z:Int,lo=some y/\opA env y=.int .i64 z/\0<=z/\z.toNat=l)
  (u:hi=none/\h=n\/ ∃y,∃z:Int,hi=some y/\opA env y=.int .i64 z/\0<=z/\z.toNat=h)(j:l<=h)(F:h<=n):OpV P o env H (.osl i (s+l) (h-l) k):=by
 intro R W σ N a w r;have f:=Ql r x;rw[L]at f;rcases f with⟨rfl,f⟩|⟨b,p,t,E,m,f,J,V,⟨M,O⟩,B,X⟩
 .have d:=Qks (P:=P) (w:=w) E1 E2 (ad:=none) (XS 0) (Qda r g) (Qda r u) j F;refine⟨_,by simp only[execOp,G,f,Vj,d,Result.andThen,Vk,Xl];rfl,?_⟩;left
  grind
 .have d:=Qks (P:=P) (w:=w) E1 E2 (ad:=some ⟨b,p,none⟩) M (Qda r g) (Qda r u) j F;refine⟨_,by simp only[execOp,G,J,Vj,d,Result.andThen,Vk,Xl];rfl,?_⟩;right;by_cases Q:t=l
  .refine⟨b,p,0,E,m,f,by grind,λq=>by omega,by omega,B,?_⟩
   grind
  .refine⟨b,p+l*k,t-l,E,m,f,by rw[Vp Q];simp[Y6],λq=>by grind,by omega,B,?_⟩
   grind
theorem OpV.max{c:Call}{x y:Operand}{k:IntKind}{m n:Int}(l:o.op=.call c)(f:c={callee:=.builtin .max,args:= #[x,y],argTypes:=c.argTypes})(i:opA env x=.int k m)(g:opA env y=.int k n):
  OpV P o env H (.int k (if m<n then n else m)):=by
 intro p q σ N a w r;have j:=QB r i;have h:=QB r g;refine⟨_,?_,rfl⟩;generalize a.eval=ρ at*;have e:c.callee=.builtin .max:=by rw[f]
 have d:c.args= #[x,y]:=by rw[f]
 simp only[execOp,l,resolve,e,d,invoke,Go.builtin,Vj,Vk,Result.andThen];simp[Builtin.max_,Builtin.max2,j,h,go_sem]
theorem OpV.min{c:Call}{x y:Operand}{k:IntKind}{m n:Int}(l:o.op=.call c)(f:c={callee:=.builtin .min,args:= #[x,y],argTypes:=c.argTypes})(i:opA env x=.int k m)(g:opA env y=.int k n):
  OpV P o env H (.int k (if n<m then n else m)):=by
 intro p q σ N a w r;have j:=QB r i;have h:=QB r g;refine⟨_,?_,rfl⟩;generalize a.eval=ρ at*;have e:c.callee=.builtin .min:=by rw[f]
 have d:c.args= #[x,y]:=by rw[f]
 simp only[execOp,l,resolve,e,d,invoke,Go.builtin,Vj,Vk,Result.andThen];simp[Builtin.min_,Builtin.min2,j,h,go_sem]
end
section
variable {P:Program} {h0 N:Nat} {env:Env} {H:Qe} {Q:QR} {c c':Code}
def CutP(h0:Nat)(Eb:Env)(Hb:Qe)(Q:QR):QR
 |.normal,env,H=>Le h0 env H Eb Hb
 |.exit id,env,H=>Q (.exit id) env H
 |.ret,env,H=>Q .ret env H
theorem TC.cut(Eb:Env)(Hb:Qe)(h:TC P h0 N c env H (CutP h0 Eb Hb Q))(k:∀env H,Le h0 env H Eb Hb->Q .normal env H):TC P h0 N c env H Q:=
 h.mono λx env' H' q=>by
  cases x with
  |normal=>exact k _ _ q
  |exit id=>exact q
  |ret=>exact q
theorem seqN(h:TC P h0 N c env H Q):Seq P h0 N c Q .normal env H:=h
theorem seqX{id:Nat}(h:Q (.exit id) env H):Seq P h0 N c Q (.exit id) env H:=h
theorem seqR(h:Q .ret env H):Seq P h0 N c Q .ret env H:=h
theorem bloN{id:Nat}(h:Q .normal env H):Blo id Q .normal env H:=h
theorem bloE{id:Nat}(h:Q .normal env H):Blo id Q (.exit id) env H:=by simp_all[Blo]
theorem bloX{id a:Nat}(e:Nat.beq a id=false)(h:Q (.exit a) env H):Blo id Q (.exit a) env H:=by simp only[Blo,e,Vm];exact h
theorem bloR{id:Nat}(h:Q .ret env H):Blo id Q .ret env H:=h
def Qhc{S B:Type}(h0:Nat)(b:Ctl S B)(Eb:S->Env)(Hb:S->Qe)(Q:QR):QR
 |.normal,env,H=>∃s,b=.cont s/\Le h0 env H (Eb s) (Hb s)
 |.exit id,env,H=>Q (.exit id) env H
 |.ret,env,H=>Q .ret env H
theorem Qk1{S B:Type}{b:Ctl S B}(Eb:S->Env)(Hb:S->Qe)(h:TC P h0 N c env H (Qhc h0 b Eb Hb Q))(k:∀s env H,b=.cont s->Le h0 env H (Eb s) (Hb s)->Q .normal env H):TC P h0 N c env H Q:=
 h.mono λx env' H' q=>by
  cases x with
  |normal=>obtain⟨s,e,q⟩:=q;grind
  |exit id=>exact q
  |ret=>exact q
section
variable {S B:Type} {b:Ctl S B} {Eb:S->Env} {Hb:S->Qe}
theorem Qq{s:S}(e:b=.cont s)(h:Le h0 env H (Eb s) (Hb s)):Qhc h0 b Eb Hb Q .normal env H:=⟨s,e,h⟩
theorem Qu(h:Q .ret env H):Qhc h0 b Eb Hb Q .ret env H:=h
end
theorem QnE{x:Operand}{t:Bool}(hx:opA env x=.bool t)(h:t=true)(ht:TC P h0 N c env H Q):TC P h0 N (.cond x c c') env H Q:=TC.cond hx (λ_=>ht) (λq=>by grind)
theorem QnF{x:Operand}{t:Bool}(hx:opA env x=.bool t)(h:t=false)(hf:TC P h0 N c' env H Q):TC P h0 N (.cond x c c') env H Q:=TC.cond hx (λq=>by grind) (λ_=>hf)
section
variable {S B:Type} {I:S->Env->Qe->Prop}
theorem Qj{s:S}{d:Ctl S B}(e:some (Ctl.cont s)=some d)(h:I s env H):Qbi I d Q .normal env H:=⟨s,(by grind),h⟩
theorem Qk{id:Nat}{b:B}{d:Ctl S B}(e:some (Ctl.done b)=some d)(h:Q (.exit id) env H):Qbi I d Q (.exit id) env H:=⟨(by grind),h⟩
theorem Qy{b:B}{d:Ctl S B}(e:some (Ctl.done b)=some d)(h:Q .ret env H):Qbi I d Q .ret env H:=⟨(by grind),h⟩
end
end
theorem Yl{α β:Type}{x:Option α}{f:α->Option β}{r:β}(h:x.bind f=some r):∃a,x=some a/\f a=some r:=Option.bind_eq_some_iff.1 h
def idx{α:Type}(l:List α)(i:Int):Option α:=bif decide (0<=i)then l[i.toNat]? else none
theorem Qam{α:Type}{l:List α}{i:Int}{x:α}(h:idx l i=some x):0<=i/\l[i.toNat]?=some x:=by
 grind[idx]
def app{α:Type}(l m:List α):Option (List α):=bif Nat.ble (l.length+m.length) Yn then some (l++m)else none
theorem QhW{α:Type}{l m r:List α}(h:app l m=some r):l.length+m.length<=Yn/\l++m=r:=by
 unfold app at h;cases q:Nat.ble (l.length+m.length) Yn with
 |true=>simp_all
 |false=>grind
def slc{α:Type}(l:List α)(lo hi:Int):Option (List α):=bif decide (0<=lo)&&decide (lo<=hi)&&decide (hi<=(l.length:Int))then some ((l.take hi.toNat).drop lo.toNat)else none
theorem QbQ{α:Type}{l r:List α}{lo hi:Int}(h:slc l lo hi=some r):0<=lo/\lo<=hi/\hi<=l.length/\(l.take hi.toNat).drop lo.toNat=r:=by
 grind[slc]
def Qbo{α:Type}(l:List α)(i:Int)(x:α):Option (List α):=bif decide (0<=i)&&decide (i<(l.length:Int))then some (l.set i.toNat x)else none
theorem QeR{α:Type}{e:α->List A}{l:List α}{i:Nat}{x:α}(h:l[i]?=some x):(l.map e)[i]?=some (e x):=by simp[h]
section
variable {P:Program} {h0 N:Nat} {env:Env} {H H':Qe} {Q:QR} {all:Array Oper} {o:Oper} {l:List Oper} {d:Nat} {x:A}
theorem vV(a:OpV P o env H x)(k:WO P h0 N all l (up env d x) H Q)(hg:QE all o env true:=by exact rfl)(hd:o.dst=some d:=by exact rfl)(hN:Nat.blt d N=true:=by exact rfl):WO P h0 N all (o::l) env H Q:=
 YQ hg hd hN a k
theorem vH(a:OpH P o env H x H')(k:WO P h0 N all l (up env d x) H' Q)(hg:QE all o env true:=by exact rfl)(hd:o.dst=some d:=by exact rfl)(hN:Nat.blt d N=true:=by exact rfl)(hh:Nat.ble h0 H.length=true:=by exact rfl):WO P h0 N all (o::l) env H Q:=
 QhX (by simp_all) hg hd hN a k
theorem vN(a:OpH P o env H x H')(k:WO P h0 N all l env H' Q)(hg:QE all o env true:=by exact rfl)(hd:o.dst=none:=by exact rfl)(hh:Nat.ble h0 H.length=true:=by exact rfl):WO P h0 N all (o::l) env H Q:=
 QpF (by simp_all) hg hd a k
theorem vU(a:OpU P o env H H')(k:WO P h0 N all l env H' Q)(hg:QE all o env true:=by exact rfl)(hd:o.dst=none:=by exact rfl)(hh:Nat.ble h0 H.length=true:=by exact rfl):WO P h0 N all (o::l) env H Q:=
 Qnt (by simp_all) hg hd a k
theorem gT{j s:Nat}{c x:Bool}(a:x=c)(hg:o.guard=some (j,c):=by exact rfl)(hs:(all[j]?).bind (·.dst)=some s:=by exact rfl)(hl:lk env s=.bool x:=by exact rfl):QE all o env true:=by
 simp_all[QE]
theorem gF{j s:Nat}{c x:Bool}(a:x= !c)(hg:o.guard=some (j,c):=by exact rfl)(hs:(all[j]?).bind (·.dst)=some s:=by exact rfl)(hl:lk env s=.bool x:=by exact rfl):QE all o env false:=by
 simp_all[QE]
theorem Qnx{x x':A}(e:x'=x)(a:H'=H)(k:WO P h0 N all l (up env d x) H Q):WO P h0 N all l (up env d x') H' Q:=by grind
theorem QdV(a:H'=H)(k:WO P h0 N all l env H Q):WO P h0 N all l env H' Q:=by grind
theorem Qo{f:FuncId}{args a:List A}{Hc:Qe}{Qr:A->Qe->Prop}(π:List Nat)(e:OpC P o env H f args)(g:C P f a Hc Qr)
  (k:∀r H1,Qr r H1->WO P h0 N all l (up env d (Y4 (rho π H.length) r)) (Yx H π (H1.map (Yc (rho π H.length)))) Q)
  (hargs:args=Qag (rho π H.length) a:=by exact rfl)(hH:π.map (λp=>H[p]?)=(Hc.map (Yc (rho π H.length))).map some:=by exact rfl)(hπ:π.Nodup:=by decide)
  (hg:QE all o env true:=by exact rfl)(hd:o.dst=some d:=by exact rfl)(hN:Nat.blt d N=true:=by exact rfl)(hh:Nat.ble h0 H.length=true:=by exact rfl):WO P h0 N all (o::l) env H Q:=
 WO.call (d:=some d) π (by simp_all) hg hd (λx h=>by simp_all) e hargs hH hπ g k
end
section
variable {P:Program} {o:Oper} {env:Env} {H:Qe} {α:Type} {e:α->List A}
theorem QnK{c:Call}{t f k:Nat}{x:Operand}{l:List α}(a:∀w,(underlying t).run P w=.ok (.slice f) w)(d:o.op=.call c:=by exact rfl)(hc:c={callee:=.builtin .len,args:= #[x],argTypes:= #[t]}:=by exact rfl)
  (hx:opA env x=.rsl k (l.map e):=by exact rfl):OpV P o env H (.int .i64 l.length):=by
 have:=QnJ (H:=H) d hc a hx
 grind
theorem Qdz{t a k:Nat}{x y:Operand}{l:List α}{f:IntKind}{i:Int}{v:α}(h:idx l i=some v)(d:∀w,(underlying t).run P w=.ok (.slice a) w)(j:∀w,(sizeOf a).run P w=.ok k w)
  (g:o.op=.indexAddr t x y:=by exact rfl)(hx:opA env x=.rsl k (l.map e):=by exact rfl)(hy:opA env y=.int f i:=by exact rfl):OpV P o env H (.rp (e v)):=
 QoO g d j hx hy (Qam h).1 (QeR (Qam h).2)
theorem Qv{t a k b n:Nat}{x y:Operand}{l:List α}{f:IntKind}{i:Int}{v:α}(h:idx l i=some v)(p:l.length=n)(d:∀w,(underlying t).run P w=.ok (.slice a) w)(g:∀w,(sizeOf a).run P w=.ok k w)
  (j:o.op=.indexAddr t x y:=by exact rfl)(hx:opA env x=.osl b 0 n k:=by exact rfl)(hy:opA env y=.int f i:=by exact rfl):OpV P o env H (.ptr b (i.toNat*k)):=by
 have:=Qam h;have e:i.toNat<l.length:=(by grind);have m:=Qh1 (H:=H) j d g hx hy this.1 (by omega)
 grind
theorem Ya{b t k f:Nat}{l:List α}{i:Int}{v:α}{cs':List A}(h:idx l i=some v)(a:H[b]?=some (.row t k (l.map e)):=by exact rfl)(hcs:(e v).drop f=cs':=by exact rfl):Pts H (.ptr b (i.toNat*k+f)) cs':=
 Pts.row a rfl (QeR (Qam h).2) hcs
theorem Qm{b t k:Nat}{l:List α}{i:Int}{v:α}{cs':List A}(h:idx l i=some v)(a:H[b]?=some (.row t k (l.map e)):=by exact rfl)(hcs:e v=cs':=by exact rfl):Pts H (.ptr b (i.toNat*k)) cs':=
 Pts.row (f:=0) a rfl (QeR (Qam h).2) hcs
theorem Qjf{c:Call}{T T' et et' k:Nat}{x y:Operand}{a:A}{m r:List α}(h:app [] m=some r)(E:Ye P T et k)(d:∀w,(underlying T').run P w=.ok (.slice et') w)(g:Src P H a k (m.map e))
  (f:o.op=.call c:=by exact rfl)(hc:c={callee:=.builtin .append,args:= #[x,y],argTypes:= #[T,T']}:=by exact rfl)(hx:opA env x=.nils:=by exact rfl)(hy:opA env y=a:=by exact rfl):
  OpH P o env H (.osl H.length 0 r.length k) (H++[.row et k (r.map e)]):=by
 obtain⟨i,rfl⟩:=QhW h;have:=Qgy E d f hc hx hy g (by grind)
 grind
theorem Qp{c:Call}{T T' et et' k i n:Nat}{x y:Operand}{a:A}{l m r:List α}(h:app l m=some r)(E:Ye P T et k)(d:∀w,(underlying T').run P w=.ok (.slice et') w)(f:Src P H a k (m.map e))
  (g:l.length=n:=by exact rfl)(ho:o.op=.call c:=by exact rfl)(hc:c={callee:=.builtin .append,args:= #[x,y],argTypes:= #[T,T']}:=by exact rfl)(hx:opA env x=.osl i 0 n k:=by exact rfl)
  (hH:H[i]?=some (.row et k (l.map e)):=by exact rfl)(hy:opA env y=a:=by exact rfl):
  OpH P o env H (.osl H.length 0 r.length k) (H.set i .dead++[.row et k (r.map e)]):=by
 obtain⟨j,rfl⟩:=QhW h;subst g;have:=Qex E d ho hc hx hH (by simp) hy f (by grind) (gs:=(l++m).map e) (by rw[VF (by simp)];simp)
 grind
theorem Qb8{k:Nat}{l:List α}:Src P H (.rsl k (l.map e)) k (l.map e):=Src.rsl
theorem QU{i n k t:Nat}{l:List α}(a:H[i]?=some (.row t k (l.map e)):=by exact rfl)(hn:l.length=n:=by exact rfl):Src P H (.osl i 0 n k) k (l.map e):=
 Src.osl a (by grind[List.take_of_length_le]) (by simp[hn])
theorem YV{t n b T k f:Nat}{x y:Operand}{l l':List α}{i:Int}{v j:α}{vs:List A}{a:A}{off:Nat}(h:idx l i=some v)(q:Qbo l i j=some l')(p:∀w,(sizeOf t).run P w=.ok n w)(d:off=i.toNat*k+f)(g:splice (e v) f vs=e j)
  (m:o.op=.store t x y:=by exact rfl)(hx:opA env x=.ptr b off:=by exact rfl)(hH:H[b]?=some (.row T k (l.map e)):=by exact rfl)
  (hy:opA env y=a:=by exact rfl)(hk:Ys a=true:=by exact rfl)(hv:Yj a=vs:=by exact rfl)(hn:vs.length=n:=by exact rfl)(hp:vs.all YA=true:=by exact rfl)(hd:YK vs=true:=by exact rfl)(hf:Nat.ble (f+n) k=true:=by exact rfl):
  OpU P o env H (H.set b (.row T k (l'.map e))):=by
 refine Qh2 m hx hH p d (QeR (Qam h).2) hy hk hv hn hp hd hf g ?_
 grind[Qbo,List.map_set]
end
def ZR(a:A)(v:Value):Prop:=∀ro σ w,VR ro σ w a v
def ZL(az:List A)(l:List Value):Prop:=∀ro σ w,LR ro σ w az l
theorem ZR.int{k:IntKind}{n:Int}:ZR (.int k n) (.int k n):=λ_ _ _=>rfl
theorem ZR.bool{b:Bool}:ZR (.bool b) (.bool b):=λ_ _ _=>rfl
theorem ZR.str:ZR (.str []) (.string ⟨#[]⟩):=λ_ _ _=>rfl
theorem ZR.rsl{α:Type}{k:Nat}{e:α->List A}:ZR (.rsl k (List.map e [])) (.slice none 0 0):=λ_ _ _=>⟨none,0,rfl,XS _,.inl rfl⟩
theorem ZR.nils:ZR .nils (.slice none 0 0):=λ_ _ _=>rfl
theorem ZR.nilp:ZR .nilp (.pointer none):=λ_ _ _=>rfl
theorem ZR.nilf:ZR .nilf .nilFunc:=λ_ _ _=>rfl
theorem ZR.nilm:ZR .nilm (.map none):=λ_ _ _=>rfl
theorem QoJ:ZR .nilif .nilIface:=λ_ _ _=>rfl
theorem ZL.nil:ZL [] []:=λ_ _ _=>rfl
theorem ZL.cons{a:A}{v:Value}{az:List A}{l:List Value}(h:ZR a v)(k:ZL az l):ZL (a::az) (v::l):=λro σ w=>⟨v,l,rfl,h ro σ w,k ro σ w⟩
theorem ZR.agg{az:List A}{l:List Value}(h:ZL az l):ZR (.agg az) (.agg l.toArray):=λro σ w=>⟨l,rfl,h ro σ w⟩
section
variable {P:Program} {o:Oper} {env:Env} {H:Qe}
theorem QbC{t:Nat}{z:Value}{v:A}{cs:List A}(j:∀w,(zeroValue t).run P w=.ok z w)(g:ZR v z)(k:o.op=.alloc t:=by exact rfl)(hk:Ys v=true:=by exact rfl)(hcs:Yj v=cs:=by exact rfl)(hpl:cs.all YA=true:=by exact rfl):
  OpH P o env H (.ptr H.length 0) (H++[.cells t cs]):=by
 intro i d σ N a w r;obtain⟨l,h,f⟩:=(g d σ w).cells hk;subst hcs;refine⟨.pointer (some ⟨w.heap.size,0,none⟩),w.alloc (.cells l.toArray t),d,[some w.heap.size],?_,⟨w.heap.size,?_,rfl⟩,r.sim.allocCells f (f.plain hpl),Qi.alloc _ r.sim.roLt r.sim.frLt⟩
 .generalize a.eval=ρ at*;have e:(newVar t z).run P w=.ok ⟨w.heap.size,0,none⟩ (w.alloc (.cells l.toArray t)):=by
   unfold newVar;rw[h];rfl
  simp_all[execOp,Instr.alloc]
 .rw[<- r.sim.len];simp
theorem QjZ{t:TypeId}{p q:Bool}{w:World}(a:∀w,(underlying t).run P w=.ok .bool w):(Op.equal t (.bool p) (.bool q)).run P w=.ok (p==q) w:=by
 have k:∀d,(Op.equalIn (d+1) t (.bool p) (.bool q)).run P w=.ok (p==q) w:=by
  intro d;simp[Op.equalIn,a,go_sem]
 exact k 9999
theorem Qgg{t u:TypeId}{x y:Operand}{p q:Bool}(d:∀w,(underlying t).run P w=.ok .bool w)(i:o.op=.binOp .neq t x y u:=by exact rfl)(hx:opA env x=.bool p:=by exact rfl)(hy:opA env y=.bool q:=by exact rfl):OpV P o env H (.bool (p != q)):=by
 intro g e σ N a w r;have f:=Qdb r hx;have h:=Qdb r hy;refine⟨_,?_,rfl⟩
 simp_all[execOp,Go.binOp,eqGuard,QjZ,bne]
theorem Q0{t:TypeId}{x y:Operand}{s:List UInt8}{k:IntKind}{i:Int}{c:UInt8}(h:idx s i=some c)(a:∀w,(underlying t).run P w=.ok .string w)(d:o.op=.index t x y:=by exact rfl)(hx:opA env x=.str s:=by exact rfl)(hy:opA env y=.int k i:=by exact rfl):
  OpV P o env H (.int .u8 c.toNat):=Ql0 d a hx hy (Qam h).1 (Qam h).2
theorem Ql2{c:Call}{t e i n k:Nat}{x:Operand}(a:∀w,(underlying t).run P w=.ok (.slice e) w)(d:o.op=.call c:=by exact rfl)(hc:c={callee:=.builtin .len,args:= #[x],argTypes:= #[t]}:=by exact rfl)
  (hx:opA env x=.osl i 0 n k:=by exact rfl):OpV P o env H (.int .i64 n):=Qje d hc a hx
end
def Qf(k:IntKind)(n:Int):List A:=[.int k n]
def Qa6(b:Bool):List A:=[.bool b]
def JC(s:List UInt8):List A:=[.str s]
def Qx{α:Type}(k:Nat)(e:α->List A)(l:List α):List A:=[.rsl k (l.map e)]
theorem Qic{P:Program}{rd:Option Nat}{o:Oper}{a:Act}{next:Act->World->Prop}{Q:Exit->Act->World->Prop}{e:Result Next}
  (k:∀a' w',next a' w'->a'.defers=a.defers)(h:o.uponIn (WF rd) 0 P a next Q e):
  o.uponIn (WF rd) 0 P a (λa' w'=>next a' w'/\ ∃v,a'=a.put o.dst v) Q e:=by
 cases e with
 |ok n w'=>
  cases n with
  |value v=>exact⟨h,_,rfl⟩
  |skip=>exact⟨h,_,rfl⟩
  |defer d=>
   have:=congrArg List.length (k _ _ h);exfalso
   revert this
   cases o.dst<;>simp[Act.put]
  |enter f g=>
   exact⟨h.1,CallsIn.mono h.2 (by grind)⟩
  |row r g=>exact⟨h.1,RowsIn.mono h.2 (by grind)⟩
  |round l f j assign i=>exact⟨h.1,RoundIn.mono h.2 (by grind)⟩
  |_=>exact h.elim
 |halt x w'=>cases x<;>first|exact h|exact h.elim
def Jb(e:Env)(H:Qe):QR:=λx e' H'=>x=.normal/\e'=e/\H'=H
theorem Jb.mk{e:Env}{H:Qe}:Jb e H .normal e H:=⟨rfl,rfl,rfl⟩
inductive Sb (af bf ds:List Nat) (xs:List A) (env0:Env):Env->Prop
 |nil:Sb af bf ds xs env0 []
 |dep (j:Nat) {s:Nat} {a:A} {r:Env} (h1:af.contains j=true) (h2:ds[j]?=some s) (h3:xs[j]?=some a) (k:Sb af bf ds xs env0 r):Sb af bf ds xs env0 ((s,a)::r)
 |old {s:Nat} {a:A} {r:Env} (h1:ds.contains s=false) (h2:lk env0 s=a) (k:Sb af bf ds xs env0 r):Sb af bf ds xs env0 ((s,a)::r)
 |pre (j:Nat) {s:Nat} {a:A} {r:Env} (h1:bf.contains j=true) (h2:ds[j]?=some s) (h3:lk env0 s=a) (k:Sb af bf ds xs env0 r):Sb af bf ds xs env0 ((s,a)::r)
def Qh(o:Oper):List Nat:=(o.after.toList.filter (Region.binds .any)).map (·.on)
def QhV(l:List Oper)(i:Nat):List Nat:=(List.range l.length).filter λj=>((l[j]?).map Qh).getD [] |>.contains i
inductive Qey (P:Program) (N:Nat) (l:List Oper) (ds:List Nat) (xs:List A) (env0:Env) (i:Nat) (H H':Qe):Prop
 |mk (o:Oper) (e:Env) (d:Nat) (x:A) (ho:l[i]?=some o) (hd:o.dst=some d) (hx:xs[i]?=some x) (hs:Sb (Qh o) (QhV l i) ds xs env0 e)
   (h:WO P H.length N l.toArray [o] e H (Jb (up e d x) H')):Qey P N l ds xs env0 i H H'
theorem Qey.use{P:Program}{N:Nat}{l:List Oper}{G:List Nat}{xs:List A}{env0:Env}{i:Nat}{H H':Qe}(u:Qey P N l G xs env0 i H H')
  {Q:Exit->Act->World->Prop}{K:Act->World->Prop}{fr ro:Nat->Prop}{σ:Sig}{a:Act}{w:World}{o:Oper}{rd:Option Nat}(Y:l[i]?=some o)
  (p:Sim fr ro σ H w)(hN:a.tmps.size=N)(z:QcK fr a.defers w)(V:QdZ rd fr w)
  (hD:∀j∈Qh o,∀s x,G[j]?=some s->xs[j]?=some x->VR ro σ w x (a.tmps.getD s undef))
  (hE:∀s,G.contains s=false->VR ro σ w (lk env0 s) (a.tmps.getD s undef))(hP:∀j s,(QhV l i).contains j=true->G[j]?=some s->VR ro σ w (lk env0 s) (a.tmps.getD s undef))
  (hK:∀v w' ro' τ d x,o.dst=some d->xs[i]?=some x->VR ro' (σ++τ) w' x ((a.put o.dst v).tmps.getD d undef)->Sim fr ro' (σ++τ) H' w'->Qi fr ro w ro' w'->K (a.put o.dst v) w'):
  wpOpIn (WF rd) 0 P l.toArray Q i K a w:=by
 obtain⟨y,e,d,x,R,hd,hx,hs,h⟩:=u;obtain rfl:y=o:=XX (R.symm.trans Y);have B:Rel fr ro σ H e N a w:=by
  refine⟨p,?_,hN,z⟩;intro s;clear h
  induction hs with
  |nil=>exact trivial
  | @dep j s1 t r k g h3 _ ih=>
   unfold lk;cases u:Nat.beq s s1 with
   |false=>exact ih
   |true=>
    obtain rfl:=XP u
    grind
  | @old s1 t r k g _ ih=>
   unfold lk;cases u:Nat.beq s s1 with
   |false=>exact ih
   |true=>
    obtain rfl:=XP u
    grind
  | @pre j s1 t r k g h3 _ ih=>
   unfold lk;cases u:Nat.beq s s1 with
   |false=>exact ih
   |true=>
    obtain rfl:=XP u
    grind
 have F:=h rd fr ro σ a w B V;have fin:∀v w',QbJ H.length fr ro σ w N a.defers (Jb (up e d x) H') .normal (a.put y.dst v) w'->K (a.put y.dst v) w':=by
  rintro v w' ⟨_,aa,H2,ro',σ',ab,_,⟨_,rfl,rfl⟩,W,m,ht,_,O⟩;have hσ:σ'=σ++σ'.drop H.length:=by
   conv=>lhs;rw[<- Xy H.length σ']
   rw[ht, <- p.len,X7]
  have J:=W.env d;unfold lk at J;rw[VC]at J;rw[hσ]at J;refine hK v w' ro' (σ'.drop H.length) d x hd hx J ?_ m;rw[<- hσ];exact W.sim.frMono O.sub
 unfold wpOpIn;have T:l.toArray[i]?=some y:=by simpa using Y
 rw[T];simp only;unfold wpL wpListIn at F;split at F
 .rename_i hw;rw[Vq hw];obtain⟨L,F⟩:=F;refine⟨L,?_⟩;have g:=Qic (by
   intro a' w' q;unfold wpListIn at q;obtain⟨_,_,_,_,_,_,_,_,_,_,_,q,_⟩:=q;exact q) F
  generalize(y.semAt (WF rd).round a.eval).run P w=res at*;cases res with
  |ok n w'=>
   cases n with
   |value v=>exact fin _ _ g.1
   |skip=>exact fin _ _ g.1
   |defer df=>
    exfalso;obtain⟨⟨_,_,_,_,_,_,_,_,_,_,_,q,_⟩,_⟩:=g;have:=congrArg List.length q
    revert this
    cases y.dst<;>simp[Act.put]
   |enter f E=>
    refine⟨g.1,CallsIn.mono g.2 (λe M m=>?_)⟩;cases e with
    |returned v=>exact fin _ _ m.1
    |panicked c=>obtain⟨t,_,_,_,_,_,k,⟨rfl,_⟩,_⟩:=m;exact k.elim
    |outgrown=>obtain⟨a1,w1,t,_,_,_,_,_,k,⟨rfl,_⟩,_⟩:=m;exact k.elim
   |row r E=>
    exact⟨g.1,RowsIn.mono g.2 (λ_ _ m=>fin _ _ m.1)⟩
   |round l f tmps assign X=>
    refine⟨g.1,RoundIn.mono g.2 (λe M m=>?_)⟩;cases e with
    |returned v=>exact fin _ _ m.1
    |panicked c=>obtain⟨t,_,_,_,_,_,k,⟨rfl,_⟩,_⟩:=m;exact k.elim
    |outgrown=>obtain⟨a1,w1,t,_,_,_,_,_,k,⟨rfl,_⟩,_⟩:=m;exact k.elim
   |_=>exact g.elim
  |halt x w'=>
   cases x with
   |panic v=>obtain⟨t,_,_,_,_,_,k,⟨rfl,_⟩,_⟩:=g;exact k.elim
   |_=>exact g.elim
 simp_all[wpListIn]
theorem least{p:Nat->Prop}(a:∀i,p i\/ ¬p i):∀n,p n->∃i,i<=n/\p i/\ ∀j,j<i->¬p j:=by
 intro n
 induction n using Nat.strongRecOn with
 |ind n d=>
  grind
def onL(L:Array Bool)(i:Nat):Prop:=L[i]?=some true
theorem QaE{l:List Oper}{L:Array Bool}(m:L.size=l.length){i:Nat}:
  i∈Region.ready .any l.toArray L↔ ∃o,l[i]?=some o/\ ¬onL L i/\ ∀j∈Qh o,onL L j:=by
 unfold Region.ready;simp only[Xe,List.mem_range,List.size_toArray,XV,Bool.not_eq_true',XF];have d:∀j,L.getD j false=true↔onL L j:=by
  intro j;unfold onL;rw[Array.getD_eq_getD_getElem?]
  grind
 constructor
 .rintro⟨f,g,a⟩;refine⟨l[i],(by simp),?_,?_⟩
  .grind
  .rw[XJ f]at a;simp only[Xk,Option.getD_some,Array.all_eq_true']at a;intro j h;unfold Qh at h
   grind
 .rintro⟨o,f,g,a⟩;have k:i<l.length:=(by grind);refine⟨k,?_,?_⟩
  .grind
  .rw[f];simp only[Xk,Option.getD_some,Array.all_eq_true'];intro e n;cases p:Region.binds .any e with
   |false=>simp
   |true=>
    have:=(d _).2 (a e.on (by unfold Qh;grind))
    grind
theorem JH{L:Array Bool}{i j:Nat}(hi:i<L.size):onL (L.setIfInBounds i true) j↔j=i\/onL L j:=by
 grind[onL]
def unl(L:Array Bool):Nat:=L.toList.countP (!·)
theorem Qhh{L:Array Bool}{i:Nat}(hi:i<L.size)(h:¬onL L i):unl (L.setIfInBounds i true)+1=unl L:=by
 unfold unl;have a:i<L.toList.length:=by omega
 have d:L.toList[i]=false:=by
  grind[onL]
 grind
theorem Qko{L:Array Bool}{i:Nat}(hi:i<L.size)(h:¬onL L i):0<unl L:=by have:=Qhh hi h;omega
inductive QcJ (l:List Oper) (m:Nat):Nat->Prop
 |one {o:Oper} {j:Nat} (ho:l[m]?=some o) (hj:j∈Qh o):QcJ l m j
 |step {o:Oper} {i j:Nat} (h:QcJ l m i) (ho:l[i]?=some o) (hj:j∈Qh o):QcJ l m j
def Qfp(l:List Oper):Nat->List Nat->List Nat
 |0,S=>S
 |j+1,S=>Qfp l j (bif S.contains j then S++(match l[j]? with|some o=>Qh o|none=>[])else S)
theorem Qce{l:List Oper}{m:Nat}:∀(n:Nat) (S:List Nat),(∀j∈S,QcJ l m j)->∀j∈Qfp l n S,QcJ l m j
 |0,S,h,j,hj=>h j hj
 |n+1,S,h,j,hj=>by
  refine Qce n _ ?_ j hj;intro i hi;cases q:S.contains n with
  |false=>grind
  |true=>
   rw[q]at hi;rcases VA.1 hi with z|z
   .exact h i z
   .cases ho:l[n]? with
    |none=>grind
    |some o=>rw[ho]at z;exact .step (by grind) ho z
def Qar(ds:List Nat)(xs:List A)(env0:Env):Env:=ds.zip xs++env0
theorem Qok{a:List Nat}{xs:List A}{env0:Env}(e:a.length=xs.length)(s:Nat):
  (∃(j:Nat) (x:A),a[j]?=some s/\xs[j]?=some x/\lk (Qar a xs env0) s=x)\/(a.contains s=false/\lk (Qar a xs env0) s=lk env0 s):=by
 unfold Qar
 induction a generalizing xs with
 |nil=>right;simp
 |cons d a g=>
  cases xs with
  |nil=>simp at e
  |cons x xs=>
   simp only[XY,Nat.add_right_cancel_iff]at e;simp only[List.zip_cons_cons,VH,lk];cases h:Nat.beq s d with
   |true=>
    obtain rfl:=XP h;left;exact⟨0,x,rfl,rfl,by simp⟩
   |false=>
    have k:s≠d:=λq=>by simp_all
    rcases g e with⟨j,y,i,f,l⟩|⟨i,f⟩
    .left;exact⟨j+1,y,by grind,by grind,by grind⟩
    grind
def drawChk.nodupB:List Nat->Bool
 |[]=>true
 |x::r=> !r.contains x&&drawChk.nodupB r
def drawChk.goB(l:List Oper)(m:Nat):Nat->List Oper->Bool
 |_,[]=>true
 |i,o::r=>(Qh o).all (λj=>Nat.blt j i)&&(bif Nat.beq i m then(List.range m).all (λj=>(Qfp l m (Qh o)).contains j)else bif Nat.blt m i then(Qh o).contains (i-1)else true)&&drawChk.goB l m (i+1) r
def drawChk.loB(m k:Nat)(los:List Nat)(hs:List Bool):Nat->List Oper->Bool
 |_,[]=>(List.range k).all λj=>(List.range m).any λi=>hs.getD i false&&Nat.beq (los.getD i 0) j
 |i,o::r=>(bif Nat.blt i m then
   (Nat.beq (los.getD i 0) 0||(Qh o).any (λj=>Nat.blt j m&&Nat.ble (los.getD i 0) (los.getD j 0+(if hs.getD j false then 1 else 0))))
   &&(!hs.getD i false||(Nat.blt (los.getD i 0) k&&(List.range m).all (λj=> !hs.getD j false|| !Nat.beq (los.getD i 0) (los.getD j 0)||Nat.beq i j)))
  else true)&&drawChk.loB m k los hs (i+1) r
def drawChk(l:List Oper)(m k N:Nat)(ds los:List Nat)(hs:List Bool):Bool:=
 Nat.ble m l.length&&(ds.length==m)&&(l.take m).map (·.dst)==ds.map some&&ds.all (λd=>Nat.blt d N)&&drawChk.nodupB ds
 &&drawChk.goB l m 0 l&&(drawChk.loB m k los hs 0 l)
theorem Qed{a:List Nat}(h:drawChk.nodupB a=true):∀(i j d:Nat),a[i]?=some d->a[j]?=some d->i=j:=by
 induction a with
 |nil=>simp
 |cons x r e=>
  simp only[drawChk.nodupB,XV,Bool.not_eq_true']at h
  grind
theorem QiB{l:List Oper}{m:Nat}:∀(r:List Oper) (b:Nat),drawChk.goB l m b r=true->∀(i:Nat) (o:Oper),r[i]?=some o->
  (∀j∈Qh o,j<b+i)/\(b+i=m->∀j,j<m->j∈Qfp l m (Qh o))/\(m<b+i->b+i-1∈Qh o):=by
 intro r
 induction r with
 |nil=>simp
 |cons x r e=>
  intro b h i o a;simp only[drawChk.goB,XV]at h;cases i with
  |zero=>
   simp at a;subst a;refine⟨λj d=>?_,λf j d=>?_,λf=>?_⟩
   .simp_all
   .simp_all
   .have g:=h.1.2;have n:Nat.beq b m=false:=by
     cases q:Nat.beq b m with
     |false=>rfl
     |true=>simp_all
    have k:Nat.blt m b=true:=by simp_all
    grind
  |succ i=>
   have:=e (b+1) h.2 i o (by grind)
   grind
inductive Ob (P:Program) (N:Nat) (l:List Oper) (ds:List Nat) (xs:List A) (env0:Env):Nat->List (List (Qe×Qe))->Prop
 |nil {i:Nat}:Ob P N l ds xs env0 i []
 |cons {i:Nat} {s:List (Qe×Qe)} {r:List (List (Qe×Qe))} (h:∀p∈s,Qey P N l ds xs env0 i p.1 p.2) (k:Ob P N l ds xs env0 (i+1) r):Ob P N l ds xs env0 i (s::r)
theorem Ob.get{P:Program}{N:Nat}{l:List Oper}{a:List Nat}{xs:List A}{env0:Env}{b:Nat}{d:List (List (Qe×Qe))}(h:Ob P N l a xs env0 b d):
  ∀(i:Nat) (s:List (Qe×Qe)),d[i]?=some s->∀p∈s,Qey P N l a xs env0 (b+i) p.1 p.2:=by
 induction h with
 |nil=>simp
 | @cons b1 s1 r1 h _ ih=>
  grind
theorem Ob.st0{P:Program}{N:Nat}{l:List Oper}{a:List Nat}{xs:List A}{env0:Env}{i:Nat}:∀p∈([]:List (Qe×Qe)),Qey P N l a xs env0 i p.1 p.2:=by
 simp
theorem Ob.stC{P:Program}{N:Nat}{l:List Oper}{a:List Nat}{xs:List A}{env0:Env}{i:Nat}{H H':Qe}{r:List (Qe×Qe)}(h:Qey P N l a xs env0 i H H')
  (k:∀p∈r,Qey P N l a xs env0 i p.1 p.2):∀p∈(H,H')::r,Qey P N l a xs env0 i p.1 p.2:=by
 grind
theorem Qbj.nil{H:Qe}:Qbj H [] []:=trivial
theorem Qbj.cons{H:Qe}{az d f:List A}{a b:A}(e:az=a::d)(h:Look H a b)(k:Qbj H d f):Qbj H az (b::f):=by subst e;exact⟨h,k⟩
section
variable {P:Program} {o:Oper} {env:Env} {H:Qe} {α:Type} {e:α->List A}
end
inductive PL (P:Program):List Field->List (Nat×Nat)->Prop
 |nil:PL P [] []
 |cons {f:Field} {n:Nat} {fs:List Field} {pl:List (Nat×Nat)} (h:∀w,(sizeOf f.type).run P w=.ok n w) (k:PL P fs pl):PL P (f::fs) ((f.offset,n)::pl)
theorem PL.run{P:Program}{fs:List Field}{a:List (Nat×Nat)}(h:PL P fs a):∀w,(fs.mapM λf=>(do pure (f.offset, <- sizeOf f.type):Sem (Nat×Nat))).run P w=.ok a w:=by
 induction h with
 |nil=>intro w;rfl
 |cons h _ ih=>
  simp_all
structure Qd0 (P:Program) (t:TypeId) (pl:List (Nat×Nat)):Prop where
 un:∃fs:List Field,(∀w,(underlying t).run P w=.ok (.struct fs.toArray) w)/\PL P fs pl
section
variable {P:Program} {o:Oper} {env:Env} {H:Qe}
def Qek(env:Env)(pl:List (Nat×Nat)):List A->List (Nat×Operand)->Option (List A)
 |cs,[]=>some cs
 |cs,(i,x)::r=>match pl[i]? with
  |none=>none
  |some (off,size)=>bif Ys (opA env x)&&Nat.beq (Yj (opA env x)).length size&&Nat.ble (off+size) cs.length then Qek env pl (splice cs off (Yj (opA env x))) r else none
theorem QfH{fr ro:Nat->Prop}{σ:Sig}{N:Nat}{a:Act}{w:World}(r:Rel fr ro σ H env N a w){d:List (Nat×Nat)}:∀(parts:List (Nat×Operand)) (cs:List A) (l:List Value) (cs':List A),
  LR ro σ w cs l->Qek env d cs parts=some cs'->
  ∃l',Instr.fill (d.toArray[·]?) l.toArray (parts.map λp=>(p.1,a.eval p.2))=some l'.toArray/\LR ro σ w cs' l'
 |[],cs,l,cs',h,q=>by
  cases q;exact⟨l,rfl,h⟩
 |(i,x)::rest,cs,l,cs',h,q=>by
  unfold Qek at q;cases hp:d[i]? with
  |none=>grind
  |some p=>
   obtain⟨off,size⟩:=p;rw[hp]at q;simp only at q;cases hc:(Ys (opA env x)&&Nat.beq (Yj (opA env x)).length size&&Nat.ble (off+size) cs.length)with
   |false=>grind
   |true=>
    rw[hc]at q;simp only[XV]at hc;obtain⟨⟨c1,c2⟩,c3⟩:=hc;obtain⟨m,q1,q2⟩:=(Ql r x).cells c1;have hm:m.length=size:=by rw[q2.length];simp_all
    have e:l.length=cs.length:=h.length;obtain⟨l',g,f⟩:=QfH r rest _ (splice l off m) cs' (h.splice off q2) q
    grind[QgT,Nat.le_of_ble_eq_true]
theorem OpV.build{t:TypeId}{z:Value}{zs cs:List A}{d:List (Nat×Nat)}{parts:List (Nat×Operand)}(g:∀w,(zeroValue t).run P w=.ok z w)(n:ZR (.agg zs) z)(s:Qd0 P t d)
  (p:o.op=.build t parts.toArray:=by exact rfl)(hf:Qek env d zs parts=some cs:=by exact rfl):OpV P o env H (.agg cs):=by
 intro u i σ N a w r;obtain⟨x,j,h⟩:=s.un;obtain⟨l,rfl,k⟩:=n i σ w;obtain⟨e,q,m⟩:=QfH r parts zs l cs k hf;refine⟨.agg e.toArray,?_,e,rfl,m⟩;generalize hρ:a.eval=ρ at*;have f:=h.run w;simp only[execOp,p,Instr.build,Vj,g,Result.andThen,j,XH,List.mapM_toArray,Sem.run_map,f,Value.cells,q,Vk]
end
def nz(n:Int):Option Unit:=bif n==0 then none else some ()
section
variable {P:Program} {o:Oper} {env:Env} {H:Qe}
theorem Qgb{x:Operand}{a:A}(k:o.op=.nilCheck x)(g:opA env x=a:=by exact rfl)(hk:(match a with|.ptr _ _=>true|.rp _=>true|_=>false)=true:=by exact rfl):OpV P o env H a:=by
 intro i j σ N ac w r;have h:=Ql r x;rw[g]at h;cases a<;>first|(cases hk;done)|skip
 .obtain⟨b,f,e⟩:=h;refine⟨_,?_,b,f,rfl⟩
  simp_all[execOp]
 .obtain⟨b,d,f,e⟩:=h;refine⟨_,?_,b,d,rfl,e⟩
  simp_all[execOp]
end
mutual
def FzA(i k:Nat)(es:List (List A)):A->A->Prop
 |.agg az,b=>∃bs,b=.agg bs/\FzL i k es az bs
 |.fn f x c,b=>∃x' c',b=.fn f x' c'/\FzL i k es x x'/\FzL i k es c c'
 |.iface t a,b=>∃a',b=.iface t a'/\FzA i k es a a'
 |.tup az,b=>∃bs,b=.tup bs/\FzL i k es az bs
 |.osl j o n k',b=>b=.osl j o n k'\/(j=i/\o=0/\k'=k/\n=es.length/\b=.rsl k es)
 |.nils,b=>b=.nils\/ ∃k',b=.rsl k' []
 |a,b=>b=a
def FzL(i k:Nat)(es:List (List A)):List A->List A->Prop
 |[],b=>b=[]
 |a::az,b=>∃a' as',b=a'::as'/\FzA i k es a a'/\FzL i k es az as'
end
mutual
theorem FzA.refl{i k:Nat}{es:List (List A)}:∀a:A,FzA i k es a a
 |.agg az=>⟨az,rfl,FzL.refl az⟩
 |.fn _ x c=>⟨x,c,rfl,FzL.refl x,FzL.refl c⟩
 |.iface _ a=>⟨a,rfl,FzA.refl a⟩
 |.tup az=>⟨az,rfl,FzL.refl az⟩
 |.osl _ _ _ _=>.inl rfl
 |.nils=>.inl rfl
 |.any=>rfl
 |.bool _=>rfl
 |.int _ _=>rfl
 |.str _=>rfl
 |.nilp=>rfl
 |.ptr _ _=>rfl
 |.rp _=>rfl
 |.rsl _ _=>rfl
 |.nilf=>rfl
 |.nilif=>rfl
 |.map _=>rfl
 |.nilm=>rfl
theorem FzL.refl{i k:Nat}{es:List (List A)}:∀az:List A,FzL i k es az az
 |[]=>rfl
 |a::az=>⟨a,az,rfl,FzA.refl a,FzL.refl az⟩
end
theorem FzA.agg{i k:Nat}{es:List (List A)}{az bs:List A}(h:FzL i k es az bs):FzA i k es (.agg az) (.agg bs):=⟨bs,rfl,h⟩
theorem FzA.tup{i k:Nat}{es:List (List A)}{az bs:List A}(h:FzL i k es az bs):FzA i k es (.tup az) (.tup bs):=⟨bs,rfl,h⟩
theorem FzA.iface{i k:Nat}{es:List (List A)}{t:Nat}{a b:A}(h:FzA i k es a b):FzA i k es (.iface t a) (.iface t b):=⟨b,rfl,h⟩
theorem FzA.own{i k n:Nat}{es:List (List A)}(hn:n=es.length):FzA i k es (.osl i 0 n k) (.rsl k es):=.inr (by grind)
theorem FzA.nil{i k k':Nat}{es:List (List A)}:FzA i k es .nils (.rsl k' []):=.inr ⟨k',rfl⟩
theorem FzL.cons{i k:Nat}{es:List (List A)}{a b:A}{az bs:List A}(h:FzA i k es a b)(q:FzL i k es az bs):FzL i k es (a::az) (b::bs):=⟨b,bs,rfl,h,q⟩
mutual
theorem Qkg{i k:Nat}{es:List (List A)}{ro ro':Nat->Prop}{σ:Sig}{w:World}(ext:Ext ro σ w ro' σ w)
  (hf:∀v,VR ro σ w (.osl i 0 es.length k) v->VR ro' σ w (.rsl k es) v):∀(a b:A) (v:Value),FzA i k es a b->VR ro σ w a v->VR ro' σ w b v
 |.agg az,b,v,h,q=>by
  obtain⟨bs,rfl,h⟩:=h;obtain⟨l,rfl,q⟩:=q;exact⟨l,rfl,Qd5 ext hf az bs l h q⟩
 |.fn f x c,b,v,h,q=>by
  obtain⟨x',c',rfl,h1,h2⟩:=h;obtain⟨l,l',rfl,q1,q2⟩:=q;exact⟨l,l',rfl,Qd5 ext hf x x' l h1 q1,Qd5 ext hf c c' l' h2 q2⟩
 |.iface t a,b,v,h,q=>by
  obtain⟨a',rfl,h⟩:=h;obtain⟨x,rfl,q⟩:=q;exact⟨x,rfl,Qkg ext hf a a' x h q⟩
 |.tup az,b,v,h,q=>by
  obtain⟨bs,rfl,h⟩:=h;obtain⟨l,rfl,q⟩:=q;exact⟨l,rfl,Qd5 ext hf az bs l h q⟩
 |.osl j o n k',b,v,h,q=>by
  rcases h with rfl|⟨rfl,rfl,rfl,rfl,rfl⟩
  .exact q.mono ext
  .exact hf v q
 |.nils,b,v,h,q=>by
  rcases h with rfl|⟨k',rfl⟩
  .exact q
  .obtain rfl:v=.slice none 0 0:=q;exact⟨none,0,rfl,XS _,.inl rfl⟩
 |.any,b,v,h,q=>by obtain rfl:b=_:=h;trivial
 |.bool _,b,v,h,q=>by obtain rfl:b=_:=h;exact q
 |.int _ _,b,v,h,q=>by obtain rfl:b=_:=h;exact q
 |.str _,b,v,h,q=>by obtain rfl:b=_:=h;exact q
 |.nilp,b,v,h,q=>by obtain rfl:b=_:=h;exact q
 |.ptr _ _,b,v,h,q=>by obtain rfl:b=_:=h;exact q.mono ext
 |.rp _,b,v,h,q=>by obtain rfl:b=_:=h;exact q.mono ext
 |.rsl _ _,b,v,h,q=>by obtain rfl:b=_:=h;exact q.mono ext
 |.nilf,b,v,h,q=>by obtain rfl:b=_:=h;exact q
 |.nilif,b,v,h,q=>by obtain rfl:b=_:=h;exact q
 |.map _,b,v,h,q=>by obtain rfl:b=_:=h;exact q.mono ext
 |.nilm,b,v,h,q=>by obtain rfl:b=_:=h;exact q
theorem Qd5{i k:Nat}{es:List (List A)}{ro ro':Nat->Prop}{σ:Sig}{w:World}(ext:Ext ro σ w ro' σ w)
  (hf:∀v,VR ro σ w (.osl i 0 es.length k) v->VR ro' σ w (.rsl k es) v):∀(az bs:List A) (l:List Value),FzL i k es az bs->LR ro σ w az l->LR ro' σ w bs l
 |[],bs,l,h,q=>by obtain rfl:bs=[]:=h;exact q
 |a::az,bs,l,h,q=>by
  obtain⟨a',as',rfl,h1,h2⟩:=h;obtain⟨v,l',rfl,q1,q2⟩:=q;exact⟨v,l',rfl,Qkg ext hf a a' v h1 q1,Qd5 ext hf az as' l' h2 q2⟩
end
def FzB(i k:Nat)(es:List (List A))(x y:Blk):Prop:=y=x\/ ∃t cs cs',x=.cells t cs/\y=.cells t cs'/\FzL i k es cs cs'
def FzH(i k:Nat)(es:List (List A)):Qe->Qe->Prop
 |[],h=>h=[]
 |x::r,h=>∃y r',h=y::r'/\FzB i k es x y/\FzH i k es r r'
def QnR(i k:Nat)(es:List (List A))(env:Env):Env->Prop
 |[]=>True
 |(s,a)::r=>FzA i k es (lk env s) a/\QnR i k es env r
theorem FzH.nil{i k:Nat}{es:List (List A)}:FzH i k es [] []:=rfl
theorem FzH.keep{i k:Nat}{es:List (List A)}{x:Blk}{r r':Qe}(h:FzH i k es r r'):FzH i k es (x::r) (x::r'):=⟨x,r',rfl,.inl rfl,h⟩
theorem FzH.cells{i k t:Nat}{es:List (List A)}{cs cs':List A}{r r':Qe}(q:FzL i k es cs cs')(h:FzH i k es r r'):FzH i k es (.cells t cs::r) (.cells t cs'::r'):=⟨_,r',rfl,.inr (by grind),h⟩
theorem FzH.get{i k:Nat}{es:List (List A)}:∀{H H':Qe},FzH i k es H H'->∀(j:Nat) (y:Blk),H'[j]?=some y->∃x,H[j]?=some x/\FzB i k es x y
 |[],_,h,j,y,q=>by obtain rfl:_=[]:=h;simp at q
 |x::r,_,h,j,y,q=>by
  obtain⟨y',r',rfl,h1,h2⟩:=h;cases j with
  |zero=>grind
  |succ j=>simp at q;obtain⟨x',p1,p2⟩:=h2.get j y q;grind
theorem FzH.len{i k:Nat}{es:List (List A)}:∀{H H':Qe},FzH i k es H H'->H'.length=H.length
 |[],_,h=>by obtain rfl:_=[]:=h;rfl
 |x::r,_,h=>by obtain⟨y',r',rfl,h1,h2⟩:=h;simp[h2.len]
theorem FzB.live{i k:Nat}{es:List (List A)}{x y:Blk}(h:FzB i k es x y):y.live=x.live:=by
 rcases h with rfl|⟨t,d,a,rfl,rfl,_⟩<;>rfl
theorem Qca{env:Env}{H H':Qe}{W i k t:Nat}{es:List (List A)}(ov:Env)(hi:Nat.ble W i=true)(M:H[i]?=some (.row t k es))(X:QnR i k es env ov)(B:FzH i k es (H.set i .dead) H'):Le W env H (ov++env) H':=by
 intro fr O σ N a w r
 let ro':Nat->Prop:=λb=>O b\/σ[i]?=some (some b)
 have aa:∀b,σ[i]?=some (some b)->b<w.heap.size/\ ¬O b/\ ¬fr b:=λb h=>r.sim.own i b _ h M rfl;have ext:Ext O σ w ro' σ w:=⟨λ_ q=>.inl q,λ_ _=>rfl,λ_ _ q=>q,λ_ _ q=>q⟩;have hf:∀v,VR O σ w (.osl i 0 es.length k) v->VR ro' σ w (.rsl k es) v:=by
  intro v h;rcases h with⟨W,h⟩|⟨b,p,G,t',m,g,h,n,⟨u,ab⟩,h4,Q⟩
  .have:es=[]:=(by grind);subst this;exact⟨none,0,h,XS _,.inl rfl⟩
  .refine⟨_,G,h,u,?_⟩;by_cases he:es=[]
   .exact .inl he
   .right;have hc:0<G:=Vc (by grind) u;obtain rfl:=n hc;obtain⟨l,R,V⟩:=r.sim.blk i _ _ g M;refine⟨b,0,by simp,.inr g,?_⟩;have:=YF (pre:=[]) (by simpa using R) V;exact this.keep ⟨λ_ q=>.inl q,λ_ _=>rfl,λ_ _ q=>q,λ_ _ q=>q⟩ rfl
 have f:∀(j:Nat) (y:Blk),H'[j]?=some y->y≠ .dead->j≠i/\ ∃x,H[j]?=some x/\FzB i k es x y:=by
  intro j y h hv;obtain⟨x,g,n⟩:=B.get j y h;by_cases e:j=i
  .subst e;rw[Xb]at g;simp only[if_true]at g;split at g
   .cases g;rcases n with rfl|⟨_,_,_,q,_,_⟩
    .grind
    .cases q
   .simp at g
  grind
 refine⟨ro',σ,⟨⟨by rw[B.len,X2];exact r.sim.len,r.sim.roOk.to (λ_ q=>.inl q) (λ_ _=>rfl) ?_,r.sim.frLt,?_,?_,?_,?_,r.sim.hidTo (· = ·) Yg (XS _) (λj b x c R V q3 q4=>q4.elim id λq=>((r.sim.hid j b x c R V q3).ne i c _ q M rfl rfl).elim) (by simp) λj d y Y g2 g3=>.inl ?_⟩,?_,r.size,r.defers⟩,λ_ q=>.inl q,rfl⟩
 rotate_left 5
 .obtain⟨_,x,g4,g5⟩:=f j y g2 (Qe6 g3);exact⟨j,x,rfl,Y,g4,λz=>by rw[<- g5.live];exact z,λc q=>by rcases g5 with rfl|⟨t,cs,J,rfl,rfl,_⟩;exact q;exact q.elim⟩
 rotate_left 1
 .rintro b (q|q)
  .exact r.sim.roLt b q
  grind
 .rintro b (q|q)
  .exact r.sim.roFr b q
  grind
 .intro j b v g n u;obtain⟨e,x,n,E⟩:=f j v n (Qaq u);have hx:x.live=true:=by rw[<- E.live];exact u
  obtain⟨L,F,p3⟩:=r.sim.own j b x g n hx;refine⟨L,?_,p3⟩;rintro(q|q)
  .exact F q
  .exact e (r.sim.inj j i b x _ g q n M hx rfl)
 .intro j j' b v v' g n u h4 Q h6;obtain⟨_,x,L,F⟩:=f j v u (Qaq Q);obtain⟨_,x',T,P⟩:=f j' v' h4 (Qaq h6);exact r.sim.inj j j' b x x' g n L T (by rw[<- F.live];exact Q) (by rw[<- P.live];exact h6)
 .intro j s v g n;by_cases hv:v≠ .dead
  .obtain⟨_,x,L,F⟩:=f j v n hv;have E:=r.sim.blk j s x g L;rcases F with rfl|⟨t,cs,J,rfl,rfl,q⟩
   .exact E.keep ext (λ_ _ _=>rfl) (λ_ _ _ _=>rfl)
   .cases s with
    |none=>exact E.elim
    |some b=>
     obtain⟨l,e1,e2,e3⟩:=E;exact⟨l,e1,Qd5 ext hf cs J l q e2,e3⟩
  .obtain rfl:v=.dead:=Classical.not_not.1 hv;trivial
 .intro s
  induction ov with
  |nil=>exact(r.env s).mono ext
  |cons p ov ih=>
   obtain⟨s1,a1⟩:=p;obtain⟨Y,g2⟩:=X;simp only[VH,lk];cases q:Nat.beq s s1 with
   |true=>
    obtain rfl:=XP q;exact Qkg ext hf _ _ _ Y (r.env s)
   |false=>exact ih g2
theorem QnR.nil{i k:Nat}{es:List (List A)}{env:Env}:QnR i k es env []:=trivial
theorem QnR.cons{i k s:Nat}{es:List (List A)}{env:Env}{a b:A}{r:Env}(h:lk env s=a)(q:FzA i k es a b)(g:QnR i k es env r):QnR i k es env ((s,b)::r):=⟨h▸q,g⟩
def Qev(P:Program)(env:Env)(H:Qe)(l:ResultVar)(x:A):Prop:=
 ∀fr ro σ N a w,Rel fr ro σ H env N a w->∃v,((match l with
  |.tmp t=>pure (a.tmps.getD t undef)
  |.cell b t=>do loadVar t (<- asAddr (a.tmps.getD b undef)):Sem Value)).run P w=.ok v w/\VR ro σ w x v
def Qka(P:Program)(env:Env)(H:Qe):List ResultVar->List A->Prop
 |[],xs=>xs=[]
 |l::ls,xs=>∃x xs',xs=x::xs'/\Qev P env H l x/\Qka P env H ls xs'
section
variable {P:Program} {fn:Func} {env:Env} {H:Qe}
theorem Qev.tmp{t:Nat}{x:A}(d:lk env t=x:=by exact rfl):Qev P env H (.tmp t) x:=
 λfr ro σ N a w r=>⟨a.tmps.getD t undef,rfl,d▸r.env t⟩
theorem Qev.cell{b t:Nat}{p x:A}{cs:List A}(m:∀w,(isAgg t).run P w=.ok false w)(i:Pts H p (x::cs))(f:lk env b=p:=by exact rfl):Qev P env H (.cell b t) x:=by
 intro e h σ N a w r;have d:=r.env b;rw[f]at d;obtain⟨l,g,k,⟨y,j,_,n⟩,_⟩:=i e h σ w _ r.sim d
 simp_all[asAddr,loadVar]
theorem Qeu{b t n:Nat}{p:A}{cs:List A}(u:∀w,(isAgg t).run P w=.ok true w)(s:∀w,(sizeOf t).run P w=.ok n w)(k:Pts H p cs)(i:lk env b=p:=by exact rfl)(hl:(cs.take n).length=n:=by exact rfl):
  Qev P env H (.cell b t) (.agg (cs.take n)):=by
 intro g j σ N a w r;have e:=r.env b;rw[i]at e;obtain⟨q,off,m,f⟩:=k g j σ w _ r.sim e;obtain⟨l,h,_,d⟩:=Yv (P:=P) (cs:=cs.take n) (off:=off) 0 (by simpa using f.take n);have d:=d w #[] rfl;rw[hl]at d;refine⟨.agg l.toArray,?_,l,rfl,h⟩
 simp_all[asAddr,loadVar,loadCells]
theorem Qg{b t n i T:Nat}{cs:List A}(a:∀w,(isAgg t).run P w=.ok true w)(f:∀w,(sizeOf t).run P w=.ok n w)(d:lk env b=.ptr i 0)(e:H[i]?=some (.cells T cs))(g:cs.length=n):
  Qev P env H (.cell b t) (.agg cs):=by
 have:=Qeu (b:=b) (p:=.ptr i 0) a f (Pts.cells (off:=0) e rfl) d (by grind)
 grind
theorem Qka.nil:Qka P env H [] []:=rfl
theorem Qka.cons{l:ResultVar}{ls:List ResultVar}{x:A}{xs:List A}(h:Qev P env H l x)(k:Qka P env H ls xs):Qka P env H (l::ls) (x::xs):=⟨x,xs,rfl,h,k⟩
theorem Qka.run{fr ro:Nat->Prop}{σ:Sig}{N:Nat}{a:Act}{w:World}(r:Rel fr ro σ H env N a w):∀{ls:List ResultVar} {xs:List A},Qka P env H ls xs->
  ∃vs:List Value,(ls.mapM λl=>(match l with
   |.tmp t=>pure (a.tmps.getD t undef)
   |.cell b t=>do loadVar t (<- asAddr (a.tmps.getD b undef)):Sem Value)).run P w=.ok vs w/\LR ro σ w xs vs
 |[],_,h=>by obtain rfl:_=[]:=h;exact⟨[],rfl,rfl⟩
 |l::ls,_,h=>by
  obtain⟨x,xs,rfl,h1,h2⟩:=h;obtain⟨v,e1,e2⟩:=h1 fr ro σ N a w r;obtain⟨vs,e3,e4⟩:=Qka.run r h2;refine⟨v::vs,?_,v,vs,rfl,e2,e4⟩
  simp_all
theorem Qt{ls:List ResultVar}{xs:List A}(h:fn.results=ls.toArray)(m:Nat.beq ls.length 1=false)(k:Qka P env H ls xs):QcI P fn env H (.tup xs):=by
 intro j n σ N a w r;obtain⟨vs,p,e⟩:=k.run r;have d:¬vs.length=1:=by
  have:∀{ls:List ResultVar} {xs:List A},Qka P env H ls xs->xs.length=ls.length:=by
   intro ls
   induction ls with
   |nil=>intro xs h;obtain rfl:xs=[]:=h;rfl
   |cons l ls i=>intro xs h;obtain⟨x,g,rfl,_,f⟩:=h;simp[i f]
  rw[e.length,this k];intro q;simp_all
 refine⟨.tuple vs.toArray,?_,vs,rfl,e⟩;unfold results;rw[h];rw[List.mapM_toArray,Vj,Sem.run_map]
 grind[Result.andThen,Sem.run_pure]
theorem Q3{l:ResultVar}{x:A}(h:fn.results= #[l])(k:Qev P env H l x):QcI P fn env H x:=by
 intro g f σ N a w r;obtain⟨vs,e,d⟩:=(Qka.cons k Qka.nil).run r;obtain⟨v,_,rfl,d,rfl⟩:=d;refine⟨v,?_,d⟩;unfold results;rw[h,show #[l]=[l].toArray from rfl];rw[List.mapM_toArray,Vj,Sem.run_map]
 erw [e]
 rfl
end
mutual
def Qlg:A->Bool
 |.bool _=>true
 |.int _ _=>true
 |.str _=>true
 |.agg cs=>Qhk cs
 |_=>false
def Qhk:List A->Bool
 |[]=>true
 |a::r=>Qlg a&&Qhk r
end
mutual
def QP:A->Value
 |.bool b=>.bool b
 |.int k n=>.int k n
 |.str s=>.string ⟨s.toArray⟩
 |.agg cs=>.agg (YZ cs).toArray
 |_=>.bool false
def YZ:List A->List Value
 |[]=>[]
 |a::r=>QP a::YZ r
end
mutual
theorem VR.val{ro:Nat->Prop}{σ:Sig}{w:World}:∀{a:A} {v:Value},Qlg a=true->VR ro σ w a v->v=QP a
 |.bool _,_,_,h=>h
 |.int _ _,_,_,h=>h
 |.str _,_,_,h=>h
 |.agg cs,v,hs,h=>by
  obtain⟨l,rfl,h⟩:=h;rw[QP,LR.val hs h]
theorem LR.val{ro:Nat->Prop}{σ:Sig}{w:World}:∀{az:List A} {l:List Value},Qhk az=true->LR ro σ w az l->l=YZ az
 |[],l,_,h=>h
 |a::r,l,hs,h=>by
  obtain⟨v,l',rfl,h1,h2⟩:=h;simp only[Qhk,XV]at hs;rw[YZ,VR.val hs.1 h1,LR.val hs.2 h2]
end
mutual
theorem Qds{ro:Nat->Prop}{σ:Sig}{w:World}:∀{a:A},Qlg a=true->VR ro σ w a (QP a)
 |.bool _,_=>rfl
 |.int _ _,_=>rfl
 |.str _,_=>rfl
 |.agg cs,hs=>⟨YZ cs,rfl,Qgj hs⟩
theorem Qgj{ro:Nat->Prop}{σ:Sig}{w:World}:∀{az:List A},Qhk az=true->LR ro σ w az (YZ az)
 |[],_=>rfl
 |a::r,hs=>by
  simp only[Qhk,XV]at hs;exact⟨_,_,rfl,Qds hs.1,Qgj hs.2⟩
end
open Go.MapKept
structure Qaa (P:Program) (kt:TypeId) {α:Type} (ek:α->A):Prop where
 scl:∀x,Qlg (ek x)=true
 inj:∀x y,QP (ek x)=QP (ek y)->x=y
 check:∀(w:World) em x,(Instr.checkKey em 10000 kt (QP (ek x))).run P w=.ok () w
 find:∀(w:World) x (es:List MapEntry),(∀e∈es,∃y,e.key=QP (ek y))->
  ((Instr.findKey kt (QP (ek x)) es).run P w=.ok none w/\ ∀e∈es,e.key≠QP (ek x))\/ ∃j e,(Instr.findKey kt (QP (ek x)) es).run P w=.ok (some (j,e.val)) w/\es[j]?=some e/\e.key=QP (ek x)
 stays:∀(w:World) x,(Instr.keyThatStays (QP (ek x)) (QP (ek x))).run P w=.ok (QP (ek x)) w
section
variable {P:Program} {kt:TypeId}
theorem Qaa.plain{α:Type}{a:α->A}{d:TypeDesc}(h:P.underlying kt=some d)(e:∀x,IsKey d (QP (a x)))(i:∀x,Qlg (a x)=true)(hi:∀x y,QP (a x)=QP (a y)->x=y):Qaa P kt a:=by
 refine⟨i,hi,λw f x=>run_checkKey h (e x) f 9999,λw x j g=>?_,λw x=>run_keyThatStays (e x)⟩
 grind[findNow_spec,run_findKey]
theorem Qaa.int{q:IntKind}(hk:P.underlying kt=some (.int q)):Qaa P kt (λn=>A.int q n):=
 Qaa.plain hk (λx=>by rfl) (λ_=>rfl) (λx y h=>by simpa[QP]using h)
theorem Qaa.str(hk:P.underlying kt=some .string):Qaa P kt A.str:=
 Qaa.plain hk (λx=>by simp[IsKey,QP]) (λ_=>rfl) (λx y h=>by simpa[QP]using h)
theorem Qaa.struct{α:Type}[DecidableEq α]{a:α->A}{fs:Array Field}(H:P.underlying kt=some (.struct fs))(B:∀x,Qlg (a x)=true)(hi:∀x y,QP (a x)=QP (a y)->x=y)
  (E:∀(w:World) em x,(Instr.checkKey em 10000 kt (QP (a x))).run P w=.ok () w)
  (he:∀(w:World) x y,(Op.equal kt (QP (a x)) (QP (a y))).run P w=.ok (decide (x=y)) w)(q:∀x,Instr.sameBits 10000 (QP (a x)) (QP (a x))=true):Qaa P kt a:=by
 refine⟨B,hi,E,λw x d t=>?_,λw x=>by simp[Instr.keyThatStays,q x]⟩
 .have k:∀(d:List MapEntry) (i:Nat),(∀e∈d,∃y,e.key=QP (a y))->
    ((Instr.findAsking kt (QP (a x)) d i).run P w=.ok none w/\ ∀e∈d,e.key≠QP (a x))\/
    ∃j e,(Instr.findAsking kt (QP (a x)) d i).run P w=.ok (some (i+j,e.val)) w/\d[j]?=some e/\e.key=QP (a x):=by
   intro d
   induction d with
   |nil=>simp_all[Instr.findAsking]
   |cons e d u=>
    intro i f;obtain⟨y,h⟩:=f e (by simp);have m:=he w x y;by_cases g:x=y
    .subst g;exact .inr ⟨0,e,by simp[Instr.findAsking,h,m],rfl,h⟩
    .rcases u (i+1) (λz n=>f z (by simp[n]))with⟨l,p⟩|⟨j,r,l,p,s⟩
     .refine .inl ⟨by simp[Instr.findAsking,h,m,g,l],λz n=>?_⟩
      grind
     .exact .inr ⟨j+1,r,by simp[Instr.findAsking,h,m,g,l,Nat.add_assoc,Nat.add_comm 1 j],by grind,s⟩
  cases d with
  |nil=>simp_all[Instr.findKey,run_underlying,Instr.findNow]
  |cons e d=>
   have F:Instr.findNow (.struct fs) (QP (a x)) (e::d) 0=none:=by
    rfl
   have G:(Instr.findKey kt (QP (a x)) (e::d)).run P w=(Instr.findAsking kt (QP (a x)) (e::d) 0).run P w:=by
    simp_all[Instr.findKey,run_underlying]
   grind
def YX{α β:Type}[DecidableEq α](l:List (α×β))(k:α):Option β:=(l.find? λp=>decide (p.1=k)).map (·.2)
def Yp{α β:Type}[DecidableEq α](l:List (α×β))(k:α)(v:β):List (α×β):=bif l.any λp=>decide (p.1=k)then l.map λp=>bif decide (p.1=k)then(p.1,v)else p else l++[(k,v)]
def QL{α β:Type}[DecidableEq α](l:List (α×β))(k:α)(z:β):β:=(YX l k).getD z
def QaT{α β:Type}[DecidableEq α](l:List (α×β))(k:α):Bool:=l.any λp=>decide (p.1=k)
def Q7{α β:Type}(ek:α->A)(ev:β->A)(l:List (α×β)):List (A×A):=l.map λp=>(ek p.1,ev p.2)
section
variable {α β:Type} [DecidableEq α] {ek:α->A} {ev:β->A} {ro:Nat->Prop} {σ:Sig} {w:World} (K:Qaa P kt ek)
include K
theorem Qh9:∀{l:List (α×β)} {es:List MapEntry},ER ro σ w (Q7 ek ev l) es->es.map (·.key)=l.map λp=>QP (ek p.1)
 |[],es,h=>by cases(show es=[]from h);rfl
 |p::l,es,h=>by
  obtain⟨e,l',rfl,h1,h2,h3⟩:=h;simp only[Vg];rw[VR.val (K.scl _) h1,Qh9 (l:=l) h3]
theorem Qjk{l:List (α×β)}{es:List MapEntry}(h:ER ro σ w (Q7 ek ev l) es):∀e∈es,∃y,e.key=QP (ek y):=by
 intro e a;have:e.key∈es.map (·.key):=VD a;rw[Qh9 K h]at this
 grind
theorem ER.find:∀{l:List (α×β)} {es:List MapEntry},ER ro σ w (Q7 ek ev l) es->∀(x:α),(es.map (·.key)).Nodup->
  ((∀e:MapEntry,e∈es->e.key≠QP (ek x))->YX l x=none/\QaT l x=false)/\
  (∀(j:Nat) (e:MapEntry),es[j]?=some e->e.key=QP (ek x)->QaT l x=true/\ ∃v,YX l x=some v/\VR ro σ w (ev v) e.val)
 |[],es,h,x,_=>by
  cases(show es=[]from h);exact⟨λ_=>⟨rfl,rfl⟩,(by simp)⟩
 |p::l,es,h,x,hn=>by
  obtain⟨e0,l',rfl,h1,h2,h3⟩:=h;have hk:e0.key=QP (ek p.1):=VR.val (K.scl _) h1;simp only[Vg,List.nodup_cons]at hn;obtain⟨a1,a2⟩:=ER.find (l:=l) h3 x hn.2;by_cases hp:p.1=x
  .grind[QaT,YX]
  .have e1:YX (p::l) x=YX l x:=by simp[YX,hp]
   have d:QaT (p::l) x=QaT l x:=by simp[QaT,hp]
   rw[e1,d];constructor
   .grind
   .intro j e a f;cases j with
    |zero=>
     simp only[XD,Option.some.injEq]at a;subst a;exact absurd (K.inj _ _ (hk.symm.trans f)) hp
    |succ j=>grind
end
end
end Go.Sw
namespace Go.Sw
open Go.MapKept
section
variable {P:Program} {o:Oper} {env:Env} {H:Qe}
theorem YH{T:Nat}(e:o.op=.makeMap T none:=by exact rfl):OpH P o env H (.map H.length) (H++[.map []]):=by
 intro f d σ N a w r;refine⟨.map (some w.heap.size),w.alloc (.map #[] 0),d,[some w.heap.size],?_,⟨w.heap.size,?_,rfl⟩,r.sim.alloc ⟨#[],0,Q9 _ _,rfl,by simp,by simp,by simp⟩,Qi.alloc _ r.sim.roLt r.sim.frLt⟩
 .simp_all[execOp,Instr.makeMap]
 .rw[<- r.sim.len];simp
section
variable {T kt et:Nat} {α β:Type} [DecidableEq α] {ek:α->A} {ev:β->A} {x y:Operand} {i:Nat} {l:List (α×β)} {k:α} {z0:β} {z:Value}
theorem Qfi(K:Qaa P kt ek){ro:Nat->Prop}{w:World}(m:P.underlying T=some (.map kt et))(q:∀w,(zeroValue et).run P w=.ok z w)(d:ZR (ev z0) z){b a:Nat}{es:Array MapEntry}
  (n:w.heap[b]?=some (.map es a))(he:ER ro [] w (Q7 ek ev l) es.toList)(r:(es.toList.map (·.key)).Nodup):
  ∃v,(∀ck,(Instr.lookup T (.map (some b)) (QP (ek k)) ck).run P w=.ok (if ck then .tuple #[v,.bool (QaT l k)]else v) w)/\VR ro [] w (ev (QL l k z0)) v:=by
 obtain⟨s,t⟩:=ER.find K he k r;rcases K.find w k es.toList (Qjk K he)with⟨i,f⟩|⟨j,e,i,f,p⟩
 .obtain⟨g,h⟩:=s f;refine⟨z,λck=>?_,?_⟩
  .simp only[Instr.lookup,Vj,run_underlying m,Result.andThen,MapKept.run_getObj_map n,Vk,K.check,i,q,h]
  .rw[QL,g];exact d _ _ _
 .obtain⟨g,v,h,u⟩:=t j e f p;refine⟨e.val,λck=>?_,?_⟩
  .simp only[Instr.lookup,Vj,run_underlying m,Result.andThen,MapKept.run_getObj_map n,Vk,K.check,i,g]
  .rw[QL,h];exact u
theorem Y7{zv:β}(K:Qaa P kt ek)(u:some (QL l k z0)=some zv)(h:P.underlying T=some (.map kt et))(s:∀w,(zeroValue et).run P w=.ok z w)(d:ZR (ev z0) z)
  (Q:o.op=.lookup T x y false:=by exact rfl)(hx:opA env x=.map i:=by exact rfl)(hH:H[i]?=some (.map (Q7 ek ev l)):=by exact rfl)(hy:opA env y=ek k:=by exact rfl):OpV P o env H (ev zv):=by
 obtain rfl:=XX u;intro J O σ N a w r;have g:=Ql r x;rw[hx]at g;obtain⟨b,p,M⟩:=g;have f:=Ql r y;rw[hy]at f;have L:=VR.val (K.scl _) f;obtain⟨E,e,t,j,B,F,m⟩:=r.sim.blk i _ _ p hH;obtain⟨v,G,n⟩:=Qfi (T:=T) (z0:=z0) (k:=k) K h s d t j m;refine⟨v,?_,n.mono ⟨λ_ q=>q,λ_ _=>rfl,λ_ _ q=>q,(by simp)⟩⟩
 simp_all[execOp]
theorem Qkc{zv:β}(K:Qaa P kt ek)(u:some (QL l k z0)=some zv)(h:P.underlying T=some (.map kt et))(s:∀w,(zeroValue et).run P w=.ok z w)(d:ZR (ev z0) z)
  (Q:o.op=.lookup T x y true:=by exact rfl)(hx:opA env x=.map i:=by exact rfl)(hH:H[i]?=some (.map (Q7 ek ev l)):=by exact rfl)(hy:opA env y=ek k:=by exact rfl):OpV P o env H (.tup [ev zv,.bool (QaT l k)]):=by
 obtain rfl:=XX u;intro J O σ N a w r;have g:=Ql r x;rw[hx]at g;obtain⟨b,p,M⟩:=g;have f:=Ql r y;rw[hy]at f;have L:=VR.val (K.scl _) f;obtain⟨E,e,t,j,B,F,m⟩:=r.sim.blk i _ _ p hH;obtain⟨v,G,n⟩:=Qfi (T:=T) (z0:=z0) (k:=k) K h s d t j m;refine⟨.tuple #[v,.bool (QaT l k)],?_,[v,.bool (QaT l k)],rfl,v,_,rfl,n.mono ⟨λ_ q=>q,λ_ _=>rfl,λ_ _ q=>q,(by simp)⟩,_,_,rfl,rfl,rfl⟩
 simp_all[execOp]
theorem ER.append{ro:Nat->Prop}{σ:Sig}{w:World}:∀{l m:List (A×A)} {es fs:List MapEntry},ER ro σ w l es->ER ro σ w m fs->ER ro σ w (l++m) (es++fs)
 |[],m,es,fs,h,k=>by cases(show es=[]from h);exact k
 |p::l,m,es,fs,h,k=>by
  obtain⟨e,l',rfl,h1,h2,h3⟩:=h;exact⟨e,l'++fs,rfl,h1,h2,ER.append h3 k⟩
theorem ER.put(K:Qaa P kt ek){ro:Nat->Prop}{w w':World}{v:β}{val:Value}(a:Ext ro [] w ro [] w')(d:VR ro [] w (ev v) val):∀{l:List (α×β)} {es:List MapEntry} {j:Nat} {e:MapEntry},ER ro [] w (Q7 ek ev l) es->
  (es.map (·.key)).Nodup->es[j]?=some e->e.key=QP (ek k)->
  ER ro [] w' (Q7 ek ev (l.map λp=>bif decide (p.1=k)then(p.1,v)else p)) (es.modify j λe=>{e with key:=QP (ek k),val:=val})
 |[],es,j,e,h,hn,he,hk=>by cases(show es=[]from h);simp at he
 |p::l,es,j,e,h,hn,he,hk=>by
  obtain⟨e0,l',rfl,h1,h2,h3⟩:=h;have hk0:e0.key=QP (ek p.1):=VR.val (K.scl _) h1;simp only[Vg,List.nodup_cons]at hn;cases j with
  |zero=>
   simp only[XD,Option.some.injEq]at he;subst he;have hp:p.1=k:=K.inj _ _ (hk0.symm.trans hk);simp only[List.modify_zero_cons];have e1:Q7 ek ev ((p::l).map λp=>bif decide (p.1=k)then(p.1,v)else p)=(ek p.1,ev v)::Q7 ek ev l:=by
    simp only[Q7,Vg,hp,decide_true,Vl,List.map_map,List.cons.injEq,true_and];apply List.map_congr_left;intro q f;have:q.1≠k:=by
     intro e;refine hn.1 ?_;rw[Qh9 K h3];exact Xf.2 ⟨q,f,by rw[e, <- hp,hk0]⟩
    simp[this]
   rw[e1];refine⟨_,l',rfl,?_,d.mono a,h3.mono a⟩;show VR ro [] w' (ek p.1) (QP (ek k));rw[<- hp];exact Qds (K.scl _)
  |succ j=>
   simp only[XE]at he;have hp:p.1≠k:=by
    intro q;refine hn.1 (Xf.2 ⟨e,VE he,?_⟩);rw[hk,hk0,q]
   simp only[List.modify_succ_cons];have e1:Q7 ek ev ((p::l).map λp=>bif decide (p.1=k)then(p.1,v)else p)=(ek p.1,ev p.2)::Q7 ek ev (l.map λp=>bif decide (p.1=k)then(p.1,v)else p):=by
    simp[Q7,hp]
   rw[e1];exact⟨_,_,rfl,h1.mono a,h2.mono a,ER.put K a d h3 hn.2 he hk⟩
theorem Y8{m:List (α×β)}(K:Qaa P kt ek){v:β}{t:Operand}(hm:some (Yp l k v)=some m)(hd:YC (ev v)=true)(hT:P.underlying T=some (.map kt et))
  (ho:o.op=.mapUpdate T x y t:=by exact rfl)(hx:opA env x=.map i:=by exact rfl)(hH:H[i]?=some (.map (Q7 ek ev l)):=by exact rfl)(hy:opA env y=ek k:=by exact rfl)(hv:opA env t=ev v:=by exact rfl):
  OpU P o env H (H.set i (.map (Q7 ek ev m))):=by
 obtain rfl:=XX hm;intro fr X σ N a w r;have h1:=Ql r x;rw[hx]at h1;obtain⟨b,Q,q2⟩:=h1;have h2:=Ql r y;rw[hy]at h2;have h3:=VR.val (K.scl _) h2;have h4:=Ql r t;rw[hv]at h4;have F:VR X [] w (ev v) (a.eval t):=VR.data hd h4;obtain⟨u,d,M,L,p3,p4,W⟩:=r.sim.blk i _ _ Q hH;obtain⟨f1,f2⟩:=ER.find K L k W;have G:∀(obj:Obj) y,w.shape? b=some y->({w with heap:=w.heap.setIfInBounds b obj}:World).shape? b=some y:=by
  grind[World.shape?]
 rcases K.find w k u.toList (Qjk K L)with⟨Y,J⟩|⟨j,e,Y,J,O⟩
 .obtain⟨u1,u2⟩:=f1 J;have R:Yp l k v=l++[(k,v)]:=by
   unfold Yp;rw[show(l.any λp=>decide (p.1=k))=false from u2];rfl
  have n:=r.sim.set (x':=.map (Q7 ek ev (Yp l k v))) (obj:=.map (u.push {key:=QP (ek k),val:=a.eval t,born:=d}) (d+1)) Q hH rfl (G _)
   (λe V=>⟨_,_,V,by
    rw[R,Q7,Xg,Array.toList_push];exact(L.mono ⟨e.sub,e.keep,e.shape,λ_ _ q=>q⟩).append ⟨_,_,rfl,Qds (K.scl _),F.mono ⟨e.sub,e.keep,e.shape,λ_ _ q=>q⟩,rfl⟩,by
    grind,by
    grind,by
    grind⟩)
  refine⟨_,X,[],?_,by grind,n.2⟩;simp only[execOp,ho,q2,h3,Vj,Instr.mapUpdate,run_underlying hT,Result.andThen,MapKept.run_getObj_map M,K.check,Y,MapKept.run_setObj_map _ M];rfl
 .obtain⟨u1,u2⟩:=f2 j e J O;have R:Yp l k v=l.map λp=>bif decide (p.1=k)then(p.1,v)else p:=by
   unfold Yp;rw[show(l.any λp=>decide (p.1=k))=true from u1];rfl
  have hj:u[j]?=some e:=by grind
  have g:(u.modify j λe=>{e with key:=QP (ek k),val:=a.eval t}).toList=u.toList.modify j λe=>{e with key:=QP (ek k),val:=a.eval t}:=by simp
  have s:∀{γ:Type} (f:MapEntry->γ),(∀E,u.toList[j]?=some E->f {E with key:=QP (ek k),val:=a.eval t}=f E)->(u.toList.modify j λe=>{e with key:=QP (ek k),val:=a.eval t}).map f=u.toList.map f:=by
   intro γ f hf;apply List.ext_getElem?
   grind
  have n:=r.sim.set (x':=.map (Q7 ek ev (Yp l k v))) (obj:=.map (u.modify j λe=>{e with key:=QP (ek k),val:=a.eval t}) d) Q hH rfl (G _)
   (λe0 V=>⟨_,_,V,by
    rw[R,g];exact ER.put K ⟨e0.sub,e0.keep,e0.shape,λ_ _ q=>q⟩ F L W J O,by
    rw[g];intro E z;have:E.born∈(u.toList.modify j λe=>{e with key:=QP (ek k),val:=a.eval t}).map (·.born):=VD z;rw[s (·.born) (λ_ _=>rfl)]at this;obtain⟨e2,h,h'⟩:=Xf.1 this;rw[<- h'];exact p3 e2 h,by
    rw[g,s (·.born) (λ_ _=>rfl)];exact p4,by
    rw[g,s (·.key) (λE z=>by rw[J]at z;cases z;exact O.symm)];exact W⟩)
  refine⟨_,X,[],?_,by simpa using n.1,n.2⟩;have B:=K.stays w k;simp only[execOp,ho,q2,h3,Vj,Instr.mapUpdate,run_underlying hT,Result.andThen,MapKept.run_getObj_map M,K.check,Y,hj,Xk,Option.getD_some,O,B,MapKept.run_setObj_map _ M];rfl
theorem ER.length{ro:Nat->Prop}{σ:Sig}{w:World}:∀{l:List (A×A)} {es:List MapEntry},ER ro σ w l es->es.length=l.length
 |[],es,h=>by cases(show es=[]from h);rfl
 |p::l,es,h=>by
  obtain⟨e,l',rfl,_,_,h3⟩:=h;simp[ER.length h3]
theorem QcX{c:Call}{n:Int}(j:P.underlying T=some (.map kt et))(t:(l.length:Int)=n)(u:o.op=.call c:=by exact rfl)(hc:c={callee:=.builtin .len,args:= #[x],argTypes:= #[T]}:=by exact rfl)
  (hx:opA env x=.map i:=by exact rfl)(hH:H[i]?=some (.map (Q7 ek ev l)):=by exact rfl):OpV P o env H (.int .i64 n):=by
 intro z E σ N a w r;have h:=Ql r x;rw[hx]at h;obtain⟨b,m,g⟩:=h;obtain⟨f,e,q,k,y,F,B⟩:=r.sim.blk i _ _ m hH;have s:=k.length;refine⟨.int .i64 n,?_,rfl⟩;have d:goInt f.size=.int .i64 n:=by
  have:f.size=l.length:=by rw[<- Array.length_toList,s];simp[Q7]
  rw[this, <- t];rfl
 subst hc;have p:=g;generalize a.eval=ρ at*;rw[<- d];simp[execOp,u,g,resolve,invoke,Go.builtin,Builtin.len_,run_underlying j,MapKept.run_getObj_map q,go_sem]
end
end
end Go.Sw
namespace Go.Sw
open Go.ChangeMaps (setBlock)
section
variable {P:Program} {o:Oper} {env:Env} {H:Qe} {h0 N:Nat} {Q:QR}
def OpE(P:Program)(o:Oper)(env:Env)(H:Qe)(K:A->Qe->Prop):Prop:=
 ∀fr ro σ N a w,Rel fr ro σ H env N a w->∃x H' v w' ro' τ,K x H'/\(execOp a.eval o).run P w=.ok (.value v) w'/\VR ro' (σ++τ) w' x v/\
  Sim fr ro' (σ++τ) H' w'/\Qi fr ro w ro' w'
theorem Qnu{all:Array Oper}{l:List Oper}{d:Nat}{K:A->Qe->Prop}(t:h0<=H.length)(hg:QE all o env true)(m:o.dst=some d)(F:Nat.blt d N=true)
  (h:OpE P o env H K)(k:∀x H',K x H'->WO P h0 N all l (up env d x) H' Q):WO P h0 N all (o::l) env H Q:=by
 intro u fr B σ a w r hrd;obtain⟨x,H',v,j,f,τ,y,z,p,n,g⟩:=h fr B σ N a w r;refine Qab (Jg hg r) z ?_;simp only[m,Act.put];have i:d<N:=by simp_all
 have E:Rel fr f (σ++τ) H' (up env d x) N {a with tmps:=a.tmps.setIfInBounds d v} j:=
  ⟨n,VR.up (fr:=fr) (λs=>(r.env s).mono (g.ext σ τ)) (by rw[r.size];exact i) p,by simpa using r.size,r.defers.keep g⟩
 refine YB (λe a w q=>q.step g (QH ?_)) _ _ _ (k x H' y u fr f (σ++τ) _ j E (hrd.to g λ_ q=>q));rw[r.sim.len];exact t
theorem Sim.shutMap{fr ro:Nat->Prop}{σ:Sig}{w:World}(s:Sim fr ro σ H w){i b:Nat}{es:List (A×A)}(hσ:σ[i]?=some (some b))(p:H[i]?=some (.map es)):
  Sim fr (λc=>ro c\/c=b) σ (H.set i (.fmap es)) w:=by
 have F:b<w.heap.size/\ ¬ro b/\ ¬fr b:=s.own i b _ hσ p rfl;have ext:Ext ro σ w (λc=>ro c\/c=b) σ w:=⟨λ_ q=>.inl q,λ_ _=>rfl,λ_ _ q=>q,λ_ _ q=>q⟩;have a:∀(j:Nat) (v:Blk),(H.set i (.fmap es))[j]?=some v->v.live=true->j≠i/\H[j]?=some v:=by
  intro j v h G;by_cases e:j=i
  .subst e;rw[Xb]at h;simp only[if_true]at h
   grind[Blk.live]
  grind
 have n:∀(j:Nat) (v:Blk),(H.set i (.fmap es))[j]?=some v->v.holds=true->H[j]?=some v:=by
  intro j v h G;by_cases e:j=i
  .subst e;rw[Xb]at h;simp only[if_true]at h;split at h
   .cases h;cases G
   .simp at h
  grind
 refine⟨by rw[X2];exact s.len,s.roOk.to (λ_ q=>.inl q) (λ_ _=>rfl) ?_,s.frLt,?_,?_,?_,?_,s.hidTo (· = ·) Yg (XS _) (λj d x c M O P N=>N.elim id λq=>((s.hid j d x c M O P).ne i b _ hσ p rfl q).elim) (by simp) (by grind)⟩
 .rintro c (q|rfl)
  .exact s.roLt c q
  omega
 .rintro c (q|rfl)
  .exact s.roFr c q
  grind
 .intro j c v g f m;obtain⟨e,f⟩:=a j v f m;obtain⟨u,t,r⟩:=s.own j c v g f m;refine⟨u,?_,r⟩;rintro(q|rfl)
  .exact t q
  .exact e (s.inj j i c v _ g hσ f p m rfl)
 .intro j B c v E g f m L z J;exact s.inj j B c v E g f (a j v m z).2 (a B E L J).2 z J
 .intro j y v g f;by_cases e:j=i
  .subst e;rw[hσ]at g;cases g;rw[Xb]at f;simp only[if_true]at f;split at f
   .cases f;obtain⟨l,k,u,t,r⟩:=s.blk j _ _ hσ p;exact⟨.inr rfl,l,k,u,t.mono ext.nil,r⟩
   .simp at f
  .rw[XO (λq=>e q.symm)]at f;exact(s.blk j y v g f).keep ext (λ_ _ _=>rfl) (λ_ _ _ _=>rfl)
section
variable {T kt et i:Nat} {x:Operand} {es:List (A×A)}
theorem OpH.range(t:P.underlying T=some (.map kt et))(E:o.op=.range T x:=by exact rfl)(hx:opA env x=.map i:=by exact rfl)(hH:H[i]?=some (.map es):=by exact rfl):
  OpH P o env H (.ptr H.length 0) (H.set i (.fmap es)++[.iter none es]):=by
 intro n f σ N a w r;have s:=Ql r x;rw[hx]at s;obtain⟨b,k,z⟩:=s;obtain⟨l,d,p,y,u,B,G⟩:=r.sim.blk i _ _ k hH;have F:=(r.sim.own i b _ k hH rfl).1;have m:=r.sim.shutMap k hH;have g:Qi n f w (λc=>f c\/c=b) w:=YO (λ_ q=>.inl q);have j:Qi n (λc=>f c\/c=b) w (λc=>f c\/c=b) (w.alloc (.mapIter (some b) d #[] d)):=Qi.alloc _ m.roLt m.frLt;have ext0:Ext f [] w (λc=>f c\/c=b) [] (w.alloc (.mapIter (some b) d #[] d)):=(g.trans j).ext0 [];refine⟨.pointer (some ⟨w.heap.size,0,none⟩),w.alloc (.mapIter (some b) d #[] d),_,[some w.heap.size],?_,⟨w.heap.size,?_,rfl⟩,
  m.alloc (.inr ⟨b,l,d, #[],l.toList,Q9 _ _,.inr rfl,by rw[YD _ _ _ F];exact p,u,B,?_,y.mono ext0,λ_ h=>by cases h⟩),g.trans j⟩
 .generalize a.eval=ρ at*;simp only[execOp,E,z,Instr.range,Vj,run_underlying t,Result.andThen,MapKept.run_getObj_map p];rfl
 .rw[<- r.sim.len];simp
 .have:l.toList.filter (λe=> !(#[]:Array Nat).contains e.born)=l.toList:=by simp
  rw[this]
theorem ER.mem{ro:Nat->Prop}{σ:Sig}{w:World}:∀{es:List (A×A)} {l:List MapEntry},ER ro σ w es l->∀e∈l,∃x es' l',(x::es').Perm es/\(e::l').Perm l/\VR ro σ w x.1 e.key/\VR ro σ w x.2 e.val/\ER ro σ w es' l'
 |[],l,h,e,he=>by cases(show l=[]from h);cases he
 |y::es,l,h,e,he=>by
  obtain⟨e0,l',rfl,h1,h2,h3⟩:=h;rcases X4.1 he with rfl|he
  .exact⟨y,es,l',.refl _,.refl _,h1,h2,h3⟩
  .obtain⟨x,es',l'',p1,p2,v1,v2,h4⟩:=ER.mem h3 e he;exact⟨x,y::es',e0::l'',(List.Perm.swap _ _ _).trans (p1.cons _),(List.Perm.swap _ _ _).trans (p2.cons _),v1,v2,⟨e0,l'',rfl,h1,h2,h4⟩⟩
theorem Qi8:∀{l:List MapEntry},(l.map (·.born)).Nodup->∀a∈l,∀b∈l,a.born=b.born->a=b
 |[],_,a,ha,_,_,_=>by cases ha
 |c::l,hn,a,ha,b,hb,hab=>by
  simp only[Vg,List.nodup_cons]at hn;rcases X4.1 ha with ea|ha'<;>rcases X4.1 hb with eb|hb'
  .rw[ea,eb]
  .grind
  .grind
  .exact Qi8 hn.2 a ha' b hb' hab
def NextK(H:Qe)(i:Nat)(cur:Option (A×A))(es:List (A×A))(v:A)(H':Qe):Prop:=
 (es=[]/\v=.tup [.bool false]/\H'=H)\/ ∃e es',(e::es').Perm es/\v=.tup [.bool true,e.1,e.2]/\H'=H.set i (.iter (some e) es')
theorem OpE.next{Q:Option (A×A)}(ho:o.op=.next x false:=by exact rfl)(hx:opA env x=.ptr i 0:=by exact rfl)(hH:H[i]?=some (.iter Q es):=by exact rfl):
  OpE P o env H (NextK H i Q es):=by
 intro fr k σ N a w r;have h1:=Ql r x;rw[hx]at h1;obtain⟨b,q1,q2⟩:=h1;have g:∀(v:Value) (w1:World),w1.heap=w.heap->w1.os=w.os->w1.tape=w.tape->w1.output=w.output->w.drawn<=w1.drawn->Sim fr k (σ++[]) H w1/\Qi fr k w k w1:=by
  intro v w1 T e2 e3 e4 e5;exact⟨by simpa using r.sim.heap T,Qi.heap T e2 e3 e4 e5⟩
 rcases r.sim.blk i _ _ q1 hH with⟨rfl,rfl,p⟩|⟨m,l,f,d,left,p1,p2,p3,p4,Y,p6,p7,p8⟩
 .refine⟨_,_,.tuple #[.bool false],w,k,[],.inl ⟨rfl,rfl,rfl⟩,?_,⟨_,rfl,_,_,rfl,rfl,rfl⟩,g (.bool false) w rfl rfl rfl rfl (XS _)⟩;generalize a.eval=ρ at*;simp only[execOp,ho,q2,Instr.next,Vj,getObj,Sem.run,p,Result.andThen];rfl
 .have ab:(leftOf l d).toList=l.toList.filter λe=> !d.contains e.born:=by simp[leftOf]
  have s:left.Perm (leftOf l d).toList:=by grind
  rcases run_next_at (P:=P) w o.type b m f f d l f p1 p3 p4 (XS _)with⟨g1,g2⟩|⟨e,g1,w1,g2,g3⟩
  .have W:left=[]:=by
    have:left.length=0:=by rw[s.length_eq];omega
    grind
   subst W;have ac:es=[]:=by
    have:=p7.length
    grind
   refine⟨_,_,.tuple #[.bool false],w,k,[],.inl ⟨ac,rfl,rfl⟩,?_,⟨_,rfl,_,_,rfl,rfl,rfl⟩,g (.bool false) w rfl rfl rfl rfl (XS _)⟩
   simp_all[execOp]
  .have he:e∈left:=s.mem_iff.2 g1;have F:e∈l.toList:=by grind
   obtain⟨y,L,M,k1,k2,v1,v2,k3⟩:=p7.mem e he;have n:w1.heap=w.heap/\w1.os=w.os/\w1.tape=w.tape/\w1.output=w.output/\w.drawn<=w1.drawn:=by
    rcases g2 with rfl|rfl
    .simp
    .exact⟨rfl,rfl,rfl,rfl,Nat.le_succ _⟩
   obtain⟨s1,E⟩:=g (.bool false) w1 n.1 n.2.1 n.2.2.1 n.2.2.2.1 n.2.2.2.2;rw[Vd]at s1;have ad:b≠m:=by
    grind
   have u:=s1.set (x':=.iter (some y) L) (obj:=.mapIter (some m) f (d.push e.born) f) q1 hH rfl
    (λz O=>by
     grind[World.shape?])
    (λt X=>.inr ⟨m,l,f,d.push e.born,M,X,t.sub _ p2,by
      grind,p4,Y,by
      have V:(l.toList.filter λe=> !d.contains e.born).Nodup:=by
       have:l.toList.Nodup:=List.Pairwise.of_map _ (λa b h q=>h (congrArg _ q)) Y;exact this.filter _
      have hp:(e::M).Perm (l.toList.filter λe=> !d.contains e.born):=k2.trans p6;have G:(e::M).Nodup:=hp.nodup_iff.2 V;have T:(l.toList.filter λB=> !(d.push e.born).contains B.born)=(l.toList.filter λe=> !d.contains e.born).filter λB=> !decide (B.born=e.born):=by
       rw[List.filter_filter];apply List.filter_congr;intro z _;simp[Array.contains_push,Bool.and_comm]
      rw[T];have h2:=hp.filter (λB=> !decide (B.born=e.born));have e2:(e::M).filter (λB=> !decide (B.born=e.born))=M:=by
       rw[List.filter_cons_of_neg (by simp),List.filter_eq_self];intro z O;have aa:z∈l.toList:=(Xe.1 (hp.mem_iff.1 (X3 _ O))).1;simp only[Bool.not_eq_true',decide_eq_false_iff_not];intro hb;have:z=e:=by
        exact Qi8 Y z aa e F hb
       subst this;exact(List.nodup_cons.1 G).1 O
      rw[e2]at h2;exact h2,by
      have R:Ext k [] w k [] w1:=E.ext0 [];exact(k3.mono R).mono ⟨t.sub,t.keep,t.shape,λ_ _ q=>q⟩,by
      intro z O;cases O;have R:Ext k [] w k [] w1:=E.ext0 [];exact⟨e,F,by simp,(v1.mono R).mono ⟨t.sub,t.keep,t.shape,λ_ _ q=>q⟩,(v2.mono R).mono ⟨t.sub,t.keep,t.shape,λ_ _ q=>q⟩⟩⟩)
   have J:=E.trans u.2;have xt:Ext k [] w k [] {w1 with heap:=w1.heap.setIfInBounds b (.mapIter (some m) f (d.push e.born) f)}:=J.ext0 [];refine⟨_,_,.tuple #[.bool true,e.key,e.val],_,k,[],.inr ⟨y,L,k1,rfl,rfl⟩,?_,
    ⟨[.bool true,e.key,e.val],rfl,_,_,rfl,rfl,_,_,rfl,(v1.mono xt).mono ⟨λ_ q=>q,λ_ _=>rfl,λ_ _ q=>q,λj c q=>by simp at q⟩,_,_,rfl,(v2.mono xt).mono ⟨λ_ q=>q,λ_ _=>rfl,λ_ _ q=>q,λj c q=>by simp at q⟩,rfl⟩,by simpa using u.1,J⟩
   generalize a.eval=ρ at*;simp only[execOp,ho,q2,Vj,g3,Result.andThen,setBlock];rfl
theorem OpV.entry{e:A×A}(R:o.op=.entry x:=by exact rfl)(hx:opA env x=.ptr i 0:=by exact rfl)(hH:H[i]?=some (.iter (some e) es):=by exact rfl):OpV P o env H (.tup [e.1,e.2]):=by
 intro F Q σ N a w r;have j:=Ql r x;rw[hx]at j;obtain⟨b,n,J⟩:=j;rcases r.sim.blk i _ _ n hH with⟨_,h,_⟩|⟨m,l,d,g,left,M,L,z,B,t,G,E,k⟩
 .cases h
 .obtain⟨f,p,O,y,s⟩:=k e rfl;refine⟨.tuple #[f.key,f.val],?_,[f.key,f.val],rfl,_,_,rfl,y.mono ⟨λ_ q=>q,λ_ _=>rfl,λ_ _ q=>q,(by simp)⟩,_,_,rfl,s.mono ⟨λ_ q=>q,λ_ _=>rfl,λ_ _ q=>q,(by simp)⟩,rfl⟩;have u:l.find? (·.born==f.born)=some f:=by rw[<- Array.find?_toList];exact find_born f l.toList t p
  simp_all[execOp,Instr.entry,getObj,Sem.run]
end
end
end Go.Sw
namespace Go.Sw
def QeB{S E B:Type}(stepE:S->E->Option (Ctl S B))(stepN:S->Option B):S->List E->Option B
 |s,[]=>stepN s
 |s,e::p=>match stepE s e with
  |some (.cont s')=>QeB stepE stepN s' p
  |some (.done b)=>some b
  |none=>none
def Qbs{E:Type}(x:E):List E->List (List E)
 |[]=>[[x]]
 |y::l=>(x::y::l)::(Qbs x l).map (y:: ·)
def QbV{E:Type}:List E->List (List E)
 |[]=>[[]]
 |x::l=>(QbV l).flatMap (Qbs x)
theorem QfB{E:Type}(x:E):∀(a b:List E),a++x::b∈Qbs x (a++b)
 |[],[]=>by simp[Qbs]
 |[],y::b=>by simp[Qbs]
 |y::a,b=>by
  simp only[VH,Qbs,X4,Xf];exact .inr ⟨a++x::b,QfB x a b,rfl⟩
theorem QdJ{E:Type}:∀(l p:List E),p.Perm l->p∈QbV l
 |[],p,h=>by rw[List.perm_nil.1 h];simp[QbV]
 |x::l,p,h=>by
  have hx:x∈p:=h.mem_iff.2 (by simp);obtain⟨a,b,rfl⟩:=List.append_of_mem hx;have h2:(a++b).Perm l:=(List.perm_cons x).1 ((List.perm_middle.symm).trans h);simp only[QbV,List.mem_flatMap];exact⟨a++b,QdJ l _ h2,QfB x a b⟩
def anyP{E R:Type}[DecidableEq R](k:List E->Option R)(l:List E):Option R:=bif (QbV l).all (λp=>decide (k p=k l))then k l else none
theorem QoH{E R:Type}[DecidableEq R]{k:List E->Option R}{l:List E}{r:R}(h:anyP k l=some r)(p:List E)(a:p.Perm l):k p=some r:=by
 unfold anyP at h;cases q:(QbV l).all (λp=>decide (k p=k l))with
 |true=>
  simp_all[QdJ]
 |false=>grind
theorem QcO{E:Type}:∀(l p:List E),p∈QbV l->p.Perm l
 |[],p,h=>by simp[QbV]at h;rw[h]
 |x::l,p,h=>by
  simp only[QbV,List.mem_flatMap]at h;obtain⟨q,hq,hp⟩:=h;have ins:∀(q p:List E),p∈Qbs x q->p.Perm (x::q):=by
   intro q
   induction q with
   |nil=>intro p hp;simp[Qbs]at hp;rw[hp]
   |cons y q a=>
    intro p hp;simp only[Qbs,X4,Xf]at hp;rcases hp with rfl|⟨z,d,rfl⟩
    .exact .refl _
    .exact((a z d).cons y).trans (List.Perm.swap _ _ _)
  exact(ins q p hp).trans ((QcO l q hq).cons x)
theorem QoI{E R:Type}[DecidableEq R]{k:List E->Option R}{l:List E}{r:R}(h:∀p,p.Perm l->k p=some r):anyP k l=some r:=by
 unfold anyP;have:(QbV l).all (λp=>decide (k p=k l))=true:=Xt.2 λp a=>by
  simp_all[QcO]
 rw[this];simp_all
def Qjn{S E B:Type}(stepE:S->E->Option (Ctl S B))(stepN:S->Option B)(G:B->Prop)(s:S)(l:List E):Prop:=∀p,p.Perm l->∃b,QeB stepE stepN s p=some b/\G b
section
variable {P:Program} {o:Oper} {env:Env} {H:Qe} {h0 N:Nat} {Q:QR} {c:Code}
def Qcv(I:Env->Qe->Prop)(Q:QR):QR
 |.normal,env,H=>I env H
 |.exit id,env,H=>Q (.exit id) env H
 |.ret,env,H=>Q .ret env H
theorem QnB{I:Nat->Env->Qe->Prop}(body:∀n env H,I n env H->TC P h0 N c env H (Qcv (λenv H=>∃n',n'<n/\I n' env H) Q)){n:Nat}(F:I n env H):TC P h0 N (.loop c) env H Q:=by
 intro J j y σ a w r hrd b k cs hro hb hr;have B:∀m n env H fr1 ro1 σ1 a1 w1,n<m->I n env H->Rel fr1 ro1 σ1 H env N a1 w1->Qi j y w ro1 w1->σ1.take h0=σ.take h0->Grow j w a.defers fr1 a1.defers->
   ∃e h g,QaM h0 j y σ w N a.defers Q e h g/\ArrivesIn (Machine.fenced P (WF J)) P (lone (b.atR a1 (.code c::.inLoop c::k)) cs w1) b k cs e h g:=by
  intro m
  induction m with
  |zero=>omega
  |succ m Y=>
   intro n env H fr1 ro1 σ1 a1 w1 hn F r1 ev1 t1 g1;obtain⟨e,h,g,z,d⟩:=body n env H F J fr1 ro1 σ1 a1 w1 r1 (hrd.to ev1 g1.sub) b (.inLoop c::k) cs hro hb hr;obtain⟨x,f,H',s,σ',l,u,p,L,X,G,V⟩:=z;have t:=ev1.trans (X.frMono g1.sub);have M:=g1.trans ev1.size V;have O:∀x,Q x f H'->ExR e x->QaM h0 j y σ w N a.defers Q e h g:=λx q W=>⟨x,f,H',s,σ',l,W,q,L,t,G.trans t1,M⟩;cases e with
   |normal=>
    obtain rfl:x=.normal:=u;obtain⟨n',R,p⟩:=p;obtain⟨e2,T,w2,E,i⟩:=Y n' f H' l s σ' h g (by omega) p L t (G.trans t1) M;exact⟨e2,T,w2,E,.of_steps (StepsIn.trans d (.one (fenced_calm hb hr rfl) stepR_inLoop)) i⟩
   |exit id=>
    obtain rfl:x=.exit id:=u;exact⟨_,h,g,O _ p rfl,.pass (x:=.inLoop c) rfl (by simp) d⟩
   |ret=>
    obtain rfl:x=.ret:=u;exact⟨_,h,g,O _ p rfl,.pass (x:=.inLoop c) rfl (by simp) d⟩
   |_=>exact u.elim
 obtain⟨e,h,g,z,d⟩:=B (n+1) n env H j y σ a w (Xn _) F r (Qi.refl _ _ _) rfl (Grow.refl _ _ _);exact⟨e,h,g,z,.of_steps (.one (fenced_calm hb hr rfl) stepR_loop) d⟩
section
variable {S E B:Type} {stepE:S->E->Option (Ctl S B)} {stepN:S->Option B} {G:B->Prop} (Es:S->Env) (Hp:S->List (A×A)->Qe) {enc:E->A×A}
def AtP(stepE:S->E->Option (Ctl S B))(stepN:S->Option B)(G:B->Prop)(enc:E->A×A)(h0 n:Nat)(env:Env)(H:Qe):Prop:=
 ∃s l,l.length=n/\Qjn stepE stepN G s l/\Le h0 env H (Es s) (Hp s (l.map enc))
theorem QnA{s0:S}{l0:List E}(h:Qjn stepE stepN G s0 l0)(hI:Le h0 env H (Es s0) (Hp s0 (l0.map enc)))
  (body:∀s l,Qjn stepE stepN G s l->TC P h0 N c (Es s) (Hp s (l.map enc)) (Qcv (λenv H=>∃n',n'<l.length/\AtP Es Hp stepE stepN G enc h0 n' env H) Q)):TC P h0 N (.loop c) env H Q:=
 QnB (I:=AtP Es Hp stepE stepN G enc h0) (λn env H ⟨s,l,hn,ha,hle⟩=>by subst hn;exact Qd hle (body s l ha)) ⟨s0,l0,rfl,h,hI⟩
theorem Qlo{α β:Type}{f:α->β}:∀{m g:List β},m.Perm g->∀{l:List α},g=l.map f->∃l':List α,l'.Perm l/\l'.map f=m:=by
 intro m g h
 induction h with
 |nil=>simp
 |cons x _ ih=>
  intro l d;cases l with
  |nil=>cases d
  |cons a l=>
   simp only[Vg,List.cons.injEq]at d;obtain⟨l',e,i⟩:=ih d.2;exact⟨a::l',e.cons _,by grind⟩
 |swap x y m=>
  intro l d
  match l,d with
  |a::b::l,d=>
   simp only[Vg,List.cons.injEq]at d;exact⟨b::a::l,List.Perm.swap _ _ _,by grind⟩
 |trans _ _ ih1 ih2=>
  intro l d;obtain⟨p,e,i⟩:=ih2 d;obtain⟨k,j,n⟩:=ih1 i.symm;exact⟨k,j.trans e,n⟩
theorem Qnw{all:Array Oper}{L:List Oper}{d i:Nat}{x:Operand}{q:Option (A×A)}{s:S}{l:List E}(t:Qjn stepE stepN G s l)
  (z:∀b,stepN s=some b->G b->WO P h0 N all L (up env d (.tup [.bool false])) H Q)
  (y:∀e l' D,stepE s e=some D->(∀b,D=.done b->G b)->(l'.length<l.length/\ ∀s',D=.cont s'->Qjn stepE stepN G s' l')->
   WO P h0 N all L (up env d (.tup [.bool true,(enc e).1,(enc e).2])) (H.set i (.iter (some (enc e)) (l'.map enc))) Q)
  (B:o.op=.next x false:=by exact rfl)(hx:opA env x=.ptr i 0:=by exact rfl)(hH:H[i]?=some (.iter q (l.map enc)):=by exact rfl)
  (hg:QE all o env true:=by exact rfl)(hd:o.dst=some d:=by exact rfl)(hN:Nat.blt d N=true:=by exact rfl)(hh:Nat.ble h0 H.length=true:=by exact rfl):WO P h0 N all (o::L) env H Q:=by
 refine Qnu (XQ hh) hg hd hN (OpE.next B hx hH) ?_;rintro v H' (⟨r,rfl,rfl⟩|⟨e,J,r,rfl,rfl⟩)
 .have:l=[]:=List.map_eq_nil_iff.1 r;subst this;obtain⟨b,k,h⟩:=t [] (.refl _);exact z b k h
 .obtain⟨F,k,h⟩:=Qlo r rfl;cases F with
  |nil=>cases h
  |cons a l'=>
   simp only[Vg,List.cons.injEq]at h;obtain⟨rfl,rfl⟩:=h;have g:l'.length<l.length:=by rw[<- k.length_eq];simp
   have f:∀p,p.Perm l'->∃b,QeB stepE stepN s (a::p)=some b/\G b:=λp n=>t _ ((n.cons a).trans k);cases m:stepE s a with
   |none=>
    obtain⟨b,j,_⟩:=f l' (.refl _);simp[QeB,m]at j
   |some D=>
    refine y a l' D m ?_ ⟨g,?_⟩
    .rintro b rfl;obtain⟨u,j,w⟩:=f l' (.refl _)
     grind[QeB]
    .rintro s' rfl p n;obtain⟨u,j,w⟩:=f p n;simp[QeB,m]at j;exact⟨u,j,w⟩
theorem Qpo{s:S}{l l':List E}{D:Ctl S B}(e:some (Ctl.cont s)=some D)(hc:l'.length<l.length/\ ∀s',D=.cont s'->Qjn stepE stepN G s' l')(h:Le h0 env H (Es s) (Hp s (l'.map enc))):
  Qcv (λenv H=>∃n',n'<l.length/\AtP Es Hp stepE stepN G enc h0 n' env H) Q .normal env H:=
 ⟨_,hc.1,s,l',rfl,(by grind),h⟩
theorem Qpn{I:Env->Qe->Prop}{id:Nat}(h:Q (.exit id) env H):Qcv I Q (.exit id) env H:=h
end
def Qo2{B:Type}(h0:Nat)(G:B->Prop)(Eb:B->Env)(Hb:B->Qe)(Q:QR):QR
 |.normal,env,H=>∃b,G b/\Le h0 env H (Eb b) (Hb b)
 |.exit id,env,H=>Q (.exit id) env H
 |.ret,env,H=>Q .ret env H
theorem QoL{S E B:Type}{stepE:S->E->Option (Ctl S B)}{stepN:S->Option B}{G:B->Prop}{s0:S}{l0:List E}(hl:Qjn stepE stepN G s0 l0)(Eb:B->Env)(Hb:B->Qe)
  (h:TC P h0 N c env H (Qo2 h0 G Eb Hb Q))(k:∀b env H,G b->Le h0 env H (Eb b) (Hb b)->Q .normal env H):TC P h0 N c env H Q:=
 h.mono λx env' H' q=>by
  cases x with
  |normal=>obtain⟨b,e,q⟩:=q;grind
  |exit id=>exact q
  |ret=>exact q
theorem cutGN{B:Type}{G:B->Prop}{Eb:B->Env}{Hb:B->Qe}{b:B}(hG:G b)(h:Le h0 env H (Eb b) (Hb b)):Qo2 h0 G Eb Hb Q .normal env H:=⟨b,hG,h⟩
theorem Qma{i:Nat}{e:Option (A×A)}{es:List (A×A)}{H':Qe}(p:H[i]?=some (.iter e es))(d:H.set i (.iter none es)=H'):Le h0 env H env H':=by
 subst d;intro u s σ N a w r;refine⟨s,σ,⟨r.sim.weaken (x':=.iter none es) p rfl ?_,r.env,r.size,r.defers⟩,λ_ q=>q,rfl⟩;intro y h;cases y with
 |none=>exact h
 |some b=>
  rcases h with⟨k,n,g⟩|⟨m,l,f,j,left,k,n,g,B,x,E,t,z⟩
  .exact .inl ⟨k,rfl,g⟩
  .exact .inr (by grind)
end
def mk{α:Type}(n:Int)(z:α):Option (List α):=bif decide (0<=n)&&decide (n<=4294967296)then some (List.replicate n.toNat z)else none
theorem mk_ok{α:Type}{n:Int}{z:α}{l:List α}(h:mk n z=some l):0<=n/\n<=4294967296/\List.replicate n.toNat z=l:=by
 unfold mk at h;cases q:(decide (0<=n)&&decide (n<=4294967296))with
 |true=>rw[q]at h;simp at q;exact⟨q.1,q.2,XX h⟩
 |false=>rw[q]at h;cases h
theorem QgK{α:Type}[Inhabited α](zl:List α)(k:Nat)(hk:zl.length=k)(h0:0<k):∀n,(List.range (n*k)).map (λi=>zl.toArray[i%zl.toArray.size]!)=(List.replicate n zl).flatten
 |0=>by simp
 |n+1=>by
  rw[Xm,List.range_add,Xg,QgK zl k hk h0 n,List.replicate_succ',Xs];congr 1;simp only[Vi,List.flatten_nil,Vd,List.map_map];apply List.ext_getElem
  .simp[hk]
  .intro i h1 h2;simp only[XZ,List.length_range]at h1;simp only[List.getElem_map,List.getElem_range,Function.comp,List.size_toArray,hk];rw[Nat.mul_comm,Nat.mul_add_mod,Nat.mod_eq_of_lt h1];simp[hk,h1]
section
variable {P:Program} {o:Oper} {env:Env} {H:Qe} {ro:Nat->Prop} {σ:Sig} {w:World}
theorem LR.replicate{az:List A}{l:List Value}(h:LR ro σ w az l):∀n,LR ro σ w (List.replicate n az).flatten (List.replicate n l).flatten
 |0=>rfl
 |n+1=>by
  rw[List.replicate_succ,List.replicate_succ];exact h.append (LR.replicate h n)
theorem Qky{α:Type}{e:α->List A}{T et k:Nat}{x y:Operand}{kx R:IntKind}{n:Int}{zv:α}{l:List α}{z:Value}{a:A}(hm:mk n zv=some l)(E:Ye P T et k)(hz:∀w,(zeroValue et).run P w=.ok z w)(Y:ZR a z)
  (hk:Ys a=true)(hc:Yj a=e zv)(hp:(Yj a).all YA=true)(p:Nat.beq (e zv).length k=true)
  (ho:o.op=.makeSlice T x y:=by exact rfl)(hx:opA env x=.int kx n:=by exact rfl)(hy:opA env y=.int R n:=by exact rfl)
  {fr ro:Nat->Prop}{σ:Sig}{N:Nat}{act:Act}{w:World}(r:Rel fr ro σ H env N act w):∃lv:List Value,(execOp act.eval o).run P w=.ok (.value (.slice (some ⟨w.heap.size,0,none⟩) l.length l.length)) (w.alloc (.cells lv.toArray et))/\
   LR ro [] w (l.map e).flatten lv/\(∀v∈lv,QA v)/\allK k (l.map e)/\lv.length=l.length*k/\l.length<=4294967296:=by
 obtain⟨n0,n1,hl⟩:=mk_ok hm;have Q:=Ql r x;rw[hx]at Q;have h2:=Ql r y;rw[hy]at h2;have L:act.eval x=.int kx n:=Q;have V:act.eval y=.int R n:=h2;obtain⟨i,hi,ae⟩:=E.bytes;obtain⟨f,c1,c2⟩:=(Y ro [] w).cells hk;have t:f.length=k:=by
  rw[c2.length,hc];exact XP p
 have ad:(if n.toNat*k=0 then(#[]:Array Value)else f.toArray)=f.toArray\/n.toNat*k=0:=by
  by_cases q:n.toNat*k=0
  .exact .inr q
  .exact .inl (Vp q)
 have d:∀(ZZ:Array Value),(ZZ=f.toArray\/n.toNat*k=0)->(Array.range (n.toNat*k)).map (λj=>ZZ[j%ZZ.size]!)=((List.replicate n.toNat f).flatten).toArray:=by
  intro ZZ hZ;by_cases q:n.toNat*k=0
  .rw[q];have:(List.replicate n.toNat f).flatten=[]:=by
    apply VG.1;simp[t,q]
   rw[this];simp
  .obtain rfl:ZZ=f.toArray:=hZ.resolve_right q;have M:0<k:=by
    rcases Nat.eq_zero_or_pos k with h|h
    .rw[h,Nat.mul_zero]at q;exact absurd rfl q
    .exact h
   rw[<- QgK f k t M n.toNat];simp[XH, <- List.toArray_range]
 have u:=c2.replicate n.toNat;have aa:allK k (List.replicate n.toNat (e zv)):=by
  have:∀m,allK k (List.replicate m (e zv)):=by
   intro m
   induction m with
   |zero=>trivial
   |succ m ih=>exact⟨XP p,ih⟩
  exact this _
 have g:∀v∈(List.replicate n.toNat f).flatten,QA v:=by
  intro v J;obtain⟨m,hm,J⟩:=List.mem_flatten.1 J;rw[List.eq_of_mem_replicate hm]at J;exact c2.plain hp v J
 rw[hc]at u;have s:l.map e=List.replicate n.toNat (e zv):=by rw[<- hl,List.map_replicate]
 have B:l.length=n.toNat:=by rw[<- hl];simp
 refine⟨(List.replicate n.toNat f).flatten,?_,by rw[s];exact u,g,by rw[s];exact aa,by rw[B];simp[t],by omega⟩;rw[B]
 .have hw:IntKind.i64.wrap n=n:=by
   unfold IntKind.wrap;simp[IntKind.bits,IntKind.signed];omega
  have X:∀(x:Nat) (W:World),(askRoom x).run P W=.ok () W:=by
   intro x W;unfold askRoom;split<;>rfl
  have G:∀(c:Array Value) (W:World),(newRow et c).run P W=.ok ⟨W.heap.size,0,none⟩ (W.alloc (.cells c et)):=λc W=>rfl;have ab:¬(n<0):=by omega
  have O:¬((i.bytes:Int)*n>2^48):=by
   have Q:(i.bytes:Int)*n<=4096*4294967296:=Int.mul_le_mul (by omega) n1 n0 (by omega);omega
  have F:(Instr.makeSlice T (.int kx n) (.int R n)).run P w=.ok (.slice (some ⟨w.heap.size,0,none⟩) n.toNat n.toNat) (w.alloc (.cells ((List.replicate n.toNat f).flatten).toArray et)):=by
   have af:¬(n>n):=by omega
   have ac:∀(k:IntKind) (m:Int) (W:World),(asInt (.int k m)).run P W=.ok m W:=λk m W=>rfl;unfold Instr.makeSlice;simp only[Vj,E.sl,E.size,hi,Result.andThen,ac,Vk,hw,X,XG];rw[Vp (by simp[ab,O];omega)];by_cases q:n.toNat*k=0
   .simp only[q,if_true,Vk];have:=d #[] (.inr q);rw[q]at this;simp only[this,G]
   .simp only[q,if_false,hz,Vk,c1,d f.toArray (.inl rfl),G]
  generalize act.eval=ρ at*;simp only[execOp,ho,L,V,Vj,F,Result.andThen];rfl
theorem Qk4{α:Type}{e:α->List A}{T et k:Nat}{x y:Operand}{q J:IntKind}{n:Int}{zv:α}{l:List α}{z:Value}{a:A}(L:mk n zv=some l)(E:Ye P T et k)(u:∀w,(zeroValue et).run P w=.ok z w)(f:ZR a z)
  (B:Ys a=true)(j:Yj a=e zv)(O:(Yj a).all YA=true)(d:Nat.beq (e zv).length k=true)
  (M:o.op=.makeSlice T x y:=by exact rfl)(hx:opA env x=.int q n:=by exact rfl)(hy:opA env y=.int J n:=by exact rfl):
  OpH P o env H (.osl H.length 0 l.length k) (H++[.row et k (l.map e)]):=by
 intro Q F σ N act w r;obtain⟨m,G,i,s,p,h,R⟩:=Qky L E u f B j O d M hx hy r;have g:=r.sim.allocRow (t:=et) (rest:=[]) p i s;rw[Vd]at g;refine⟨_,_,F,[some w.heap.size],G,.inr ⟨w.heap.size,0,l.length,et,m.length,?_,rfl,λ_=>by simp,⟨XS _,by omega⟩,?_,by rw[h,Xv];exact XS _⟩,g,Qi.alloc _ r.sim.roLt r.sim.frLt⟩
 .rw[<- r.sim.len];simp
 .unfold World.shape?;rw[Q9];simp
end
open Go.Sort Go.Proofs Go.Shelf
section
variable {α:Type}
def ins(lt:α->α->Bool)(x:α):List α->List α
 |[]=>[x]
 |y::l=>bif lt y x then y::ins lt x l else x::y::l
def QaV(lt:α->α->Bool):List α->List α
 |[]=>[]
 |x::l=>ins lt x (QaV lt l)
theorem Qfz(lt:α->α->Bool)(x:α):∀l,(ins lt x l).Perm (x::l)
 |[]=>.refl _
 |y::l=>by
  unfold ins;cases lt y x
  .exact .refl _
  .exact((Qfz lt x l).cons y).trans (List.Perm.swap _ _ _)
theorem QQ(lt:α->α->Bool):∀l,(QaV lt l).Perm l
 |[]=>.refl _
 |x::l=>(Qfz lt x _).trans ((QQ lt l).cons x)
structure Qf7 (lt:α->α->Bool) (l:List α):Prop where
 irrefl:∀x∈l,lt x x=false
 trans:∀x∈l,∀y∈l,∀z∈l,lt x y=true->lt y z=true->lt x z=true
 ntrans:∀x∈l,∀y∈l,∀z∈l,lt x y=false->lt y z=false->lt x z=false
theorem Qf7.mono{lt:α->α->Bool}{l m:List α}(h:Qf7 lt l)(hm:∀x∈m,x∈l):Qf7 lt m:=
 ⟨λx hx=>h.irrefl x (hm x hx),λx hx y hy z hz=>h.trans x (hm x hx) y (hm y hy) z (hm z hz),λx hx y hy z hz=>h.ntrans x (hm x hx) y (hm y hy) z (hm z hz)⟩
theorem Qf7.asymm{lt:α->α->Bool}{l:List α}(h:Qf7 lt l){x y:α}(d:x∈l)(e:y∈l)(a:lt x y=true):lt y x=false:=by
 cases q:lt y x
 .rfl
 .rw[<- h.irrefl x d,h.trans x d y e x d a q]
theorem Qfy{lt:α->α->Bool}{x:α}:∀{l:List α},Qf7 lt (x::l)->l.Pairwise (λa b=>lt b a=false)->(ins lt x l).Pairwise (λa b=>lt b a=false)
 |[],_,_=>by simp[ins]
 |y::l,h,hp=>by
  obtain⟨h1,h2⟩:=Xc.1 hp;unfold ins;cases q:lt y x
  .refine Xc.2 ⟨λz hz=>?_,hp⟩;rcases X4.1 hz with rfl|hz
   .exact q
   .exact h.ntrans z (by simp[hz]) y (by simp) x (by simp) (h1 z hz) q
  .refine Xc.2 ⟨λz hz=>?_,Qfy (h.mono (by grind)) h2⟩;rcases X4.1 ((Qfz lt x l).mem_iff.1 hz)with rfl|hz
   .exact h.asymm (by simp) (by simp) q
   grind
theorem YI{lt:α->α->Bool}:∀{l:List α},Qf7 lt l->(QaV lt l).Pairwise (λa b=>lt b a=false)
 |[],_=>by simp[QaV]
 |x::l,h=>Qfy (h.mono (by
   intro z hz;rcases X4.1 hz with rfl|hz
   .simp
   grind[QQ])) (YI (h.mono (by grind)))
theorem Qbm{lt:α->α->Bool}:∀{l m:List α},l.Perm m->(∀x∈l,∀y∈l,lt x y=false->lt y x=false->x=y)->l.Pairwise (λa b=>lt b a=false)->m.Pairwise (λa b=>lt b a=false)->l=m
 |[],m,h,_,_,_=>by simp_all
 |x::l,[],h,_,_,_=>by simp_all
 |x::l,y::m,h,ha,hl,hm=>by
  obtain⟨l1,l2⟩:=Xc.1 hl;obtain⟨m1,m2⟩:=Xc.1 hm;have hy:y∈x::l:=h.mem_iff.2 (by simp);have hx:x∈y::m:=h.mem_iff.1 (by simp);have hxy:x=y:=by
   grind
  subst hxy;rw[Qbm (by simp_all) (by grind) l2 m2]
def ltO(cf:α->α->Option Int)(x y:α):Bool:=match cf x y with
 |some c=>decide (c<0)
 |none=>false
def Qi6[DecidableEq α](cf:α->α->Option Int)(l:List α):Bool:=
 l.all λx=> !ltO cf x x&&l.all λy=>(cf x y).isSome&&(ltO cf x y||ltO cf y x||decide (x=y))&&l.all λz=>(!ltO cf x y|| !ltO cf y z||ltO cf x z)&&(ltO cf x y||ltO cf y z|| !ltO cf x z)
def QbP[DecidableEq α](cf:α->α->Option Int)(l:List α):Option (List α):=bif Nat.ble l.length Yn&&Qi6 cf l then some (QaV (ltO cf) l)else none
theorem Qfc[DecidableEq α]{a:α->α->Option Int}{l l':List α}(h:QbP a l=some l'):
  l.length<=Yn/\(∀x∈l,∀y∈l,∃c,a x y=some c)/\Qf7 (ltO a) l/\(∀x∈l,∀y∈l,ltO a x y=false->ltO a y x=false->x=y)/\QaV (ltO a) l=l':=by
 unfold QbP at h;cases j:Nat.ble l.length Yn with
 |false=>grind
 |true=>
 rw[j,Vx]at h;cases q:Qi6 a l with
 |false=>grind
 |true=>
  rw[q]at h;refine⟨(by simp_all),?_⟩;unfold Qi6 at q;simp only[Xt,XV,Bool.not_eq_true',Bool.or_eq_true,Vn]at q;refine⟨λx d y e=>Option.isSome_iff_exists.1 ((q x d).2 y e).1.1,⟨λx d=>(q x d).1,λx d y e z i g f=>?_,λx d y e z i g f=>?_⟩,λx d y e g f=>?_,XX h⟩
  .grind
  .grind
  grind
theorem Qmq[DecidableEq α]{a:α->α->Option Int}{l:List α}(d:l.length<=Yn)(c:α->α->Int)(k:∀x∈l,∀y∈l,a x y=some (c x y))(hi:∀x∈l,¬c x x<0)
  (e:∀x∈l,∀y∈l,∀z∈l,c x y<0->c y z<0->c x z<0)(i:∀x∈l,∀y∈l,∀z∈l,¬c x y<0->¬c y z<0->¬c x z<0)(j:∀x∈l,∀y∈l,¬c x y<0->¬c y x<0->x=y):
  QbP a l=some (QaV (ltO a) l):=by
 have h:∀x∈l,∀y∈l,ltO a x y=decide (c x y<0):=λx g y f=>by unfold ltO;grind
 have q:Qi6 a l=true:=by
  unfold Qi6
  grind
 simp_all[QbP,XR]
theorem Qa7[DecidableEq α]{a:α->α->Option Int}{l l':List α}(h:QbP a l=some l'):l.length=l'.length:=by
 rw[<- (Qfc h).2.2.2.2];exact(QQ _ _).length_eq.symm
theorem Q5{l l':List α}{i:Int}{x:α}(h:Qbo l i x=some l'):l.length=l'.length:=by
 grind[Qbo]
theorem QC{g:Nat}{env:Env}{H:Qe}{s:Nat}{a a':A}(h:lk env s=a)(e:a=a'):Le g env H (up env s a') H:=by
 intro i f σ N act w r;refine⟨f,σ,⟨r.sim,λd=>?_,r.size,r.defers⟩,λ_ q=>q,rfl⟩;subst e;have:lk (up env s a) d=lk env d:=by
  simp only[lk];cases q:Nat.beq d s with
  |true=>simp_all
  |false=>rfl
 rw[this];exact r.env d
end
section
variable {fr ro:Nat->Prop} {σ:Sig} {H:Qe} {w w':World}
theorem Qel(hh:∀b,b<w.heap.size->w'.heap[b]?=w.heap[b]?)(hro:∀b,ro b->b<w.heap.size)(σ:Sig):Ext ro σ w ro σ w':=
 ⟨λ_ q=>q,(by grind),λb x hx=>by grind[World.shape?],λ_ _ q=>q⟩
theorem Sim.grown(s:Sim fr ro σ H w)(a:∀b,b<w.heap.size->w'.heap[b]?=w.heap[b]?)(k:w.heap.size<=w'.heap.size):Sim fr ro σ H w':=by
 refine⟨s.len,s.roOk.to (λ_ q=>q) (λb q=>a b (s.roLt b q)) (λb h=>Vc (s.roLt b h) k),λb h=>Vc (s.frLt b h) k,s.roFr,λi b x f e n=>?_,s.inj,λi y x f e=>?_,s.hidTo (· = ·) Yg k (by simp) (by simp) λj d y l m r=>.inl ⟨j,y,rfl,l,m,id,λc q=>s.hidKeep l m (λz=>a d (s.own j d y l m z).1) (λb q=>a b (s.roLt b q)) q⟩⟩
 .obtain⟨p,q⟩:=s.own i b x f e n
  grind
 .refine(s.blk i y x f e).keep (Qel a s.roLt σ) ?_ ?_
  .rintro b rfl g;exact a b (s.own i b x f e g).1
  .rintro b c rfl g;exact a c (s.hid i b x c f e g).lt
theorem Qi.grown(hh:∀b,b<w.heap.size->w'.heap[b]?=w.heap[b]?)(hs:w.heap.size<=w'.heap.size)(s:Sim fr ro σ H w)(ho:w'.os=w.os)(ht:w'.tape=w.tape)(hu:w'.output=w.output)(hd:w.drawn<=w'.drawn):Qi fr ro w ro w':=
 ⟨λ_ q=>q,λb h=>hh b (s.roLt b h),λb h=>hh b (s.frLt b h),hs,(Qel hh s.roLt σ).shape,ho,ht,hu,hd⟩
theorem Qon(i:∀b,b<w.heap.size->w'.heap[b]?=w.heap[b]?)(j:w.heap.size<=w'.heap.size)(f:w'.os=w.os)(d:w'.tape=w.tape)(g:w'.output=w.output)(h:w.drawn<=w'.drawn):
  ∃q os',w'=grow (w.drewN q) os':=by
 refine⟨w'.drawn-w.drawn,w'.heap.extract w.heap.size w'.heap.size,?_⟩;obtain⟨a,l,e,n,k⟩:=w';simp only at i j f d g h;subst f d g;unfold grow World.drewN;have p:a=w.heap++a.extract w.heap.size a.size:=by
  grind
 have m:e=w.drawn+(e-w.drawn):=by omega
 grind
end
end Go.Sw
