/- The rules by which the code is walked, with what they rest on (part 1). -/
import Derived.Calls
import Derived.Tactics
import Derived.Below
import Derived.TacticsIn
import Derived.OrdersIn
import Derived.RangeFuncLeaves
import Derived.RangeFuncRecord
import Derived.Laws.Strings
import Derived.Laws.World
import Derived.Orders
import Derived.Maps.Keyed
import Derived.Laws.StructEq
import Derived.Maps.RangeRun
import Derived.Shelf.SlSortCmp.NoneTotal
set_option linter.unusedVariables false
set_option linter.unusedSimpArgs false
set_option linter.unusedSectionVars false
namespace Go.Sw
abbrev Xa:= @List.getElem?_set_self
abbrev Xb:= @List.getElem?_set
abbrev Xc:= @List.pairwise_cons
abbrev Xd:= @List.mem_filter
abbrev Xe:= @List.mem_map
abbrev Xf:= @List.map_append
abbrev Xg:= @Bool.not_true
abbrev Xh:= @Bool.not_false
abbrev Xi:= @Bool.false_eq_true
abbrev Xj:= @Option.map_some
abbrev Xk:= @Option.map_none
abbrev Xl:= @List.replicate_succ
abbrev Xm:= @Nat.succ_mul
abbrev Xn:= @Nat.lt_succ_self
abbrev Xo:= @List.getElem?_map
abbrev Xp:= @List.drop_eq_getElem_cons
abbrev Xq:= @List.drop_eq_nil_iff
abbrev Xr:= @List.drop_length
abbrev Xs:= @List.all_eq_true
abbrev Xt:= @List.any_eq_true
abbrev Xu:= @List.range_succ
abbrev Xv:= @Array.toList_inj
abbrev Xw:= @Nat.zero_add
abbrev Xx:= @Nat.add_zero
abbrev Xy:= @List.length_take
abbrev Xz:= @List.take_append_drop
abbrev XA:= @Nat.add_mul
abbrev XB:= @Nat.min_eq_left
abbrev XC:= @Nat.mul_le_mul_right
abbrev XD:= @List.foldl_cons
abbrev XE:= @List.getElem?_cons_zero
abbrev XF:= @List.getElem?_cons_succ
abbrev XG:= @List.getElem?_toArray
abbrev XH:= @Sem.run_ite
abbrev XI:= @List.map_toArray
abbrev XJ:= @Option.bind_some
abbrev XK:= @List.getElem?_eq_getElem
abbrev XL:= @List.getElem?_eq_some_iff
abbrev XM:= @List.getElem?_append_left
abbrev XN:= @List.getElem?_append_right
abbrev XO:= @List.getElem?_eq_none
abbrev XP:= @List.getElem?_set_ne
abbrev XQ:= @Nat.eq_of_beq_eq_true
abbrev XR:= @Nat.le_of_ble_eq_true
abbrev XS:= @Nat.ble_eq_true_of_le
abbrev XT:= @Nat.le_refl
abbrev XU:= @Nat.zero_le
abbrev XV:= @Nat.le_trans
abbrev XW:= @Bool.and_eq_true
abbrev XX:= @Bool.or_eq_false_iff
abbrev XY:= @Bool.eq_iff_iff
abbrev XZ:= @Option.some.inj
abbrev X0:= @List.length_cons
abbrev X2:= @List.length_map
abbrev X3:= @List.length_append
abbrev X4:= @List.length_set
abbrev X5:= @List.mem_cons_of_mem
abbrev X6:= @List.mem_cons
abbrev X7:= @List.take_append_of_le_length
abbrev X8:= @List.drop_append_of_le_length
abbrev X9:= @List.take_length
abbrev Va:= @List.drop_length_add_append
abbrev Vb:= @List.take_length_add_append
abbrev Vc:= @Array.getElem?_eq_some_iff
abbrev Vd:= @List.getElem_mem
abbrev Ve:= @Array.getElem?_setIfInBounds
abbrev Vf:= @Nat.lt_of_lt_of_le
abbrev Vg:= @List.append_nil
abbrev Vh:= @List.nil_append
abbrev Vi:= @List.append_assoc
abbrev Vj:= @List.map_cons
abbrev Vk:= @List.map_nil
abbrev Vl:= @List.flatten_cons
abbrev Vm:= @Sem.run_bind
abbrev Vn:= @Sem.run_pure
abbrev Vo:= @cond_true
abbrev Vp:= @cond_false
abbrev Vq:= @decide_eq_true_eq
abbrev Vr:= @if_neg
abbrev Vs:= @if_pos
abbrev Vt:= @decide_eq_true
abbrev Vu:= @of_decide_eq_true
abbrev Vv:= @of_decide_eq_false
abbrev Vw:= @decide_eq_false
abbrev Vx:= @beq_iff_eq
abbrev Vy:= @beq_eq_false_iff_ne
abbrev Vz:= @Bool.true_and
abbrev VA:= @List.mem_singleton
abbrev VB:= @Nat.lt_or_ge
abbrev VC:= @List.mem_append
abbrev VD:= @List.pairwise_iff_getElem
abbrev VE:= @Nat.beq_refl
abbrev VF:= @List.mem_map_of_mem
abbrev VG:= @List.mem_of_getElem?
abbrev VH:= @List.take_of_length_le
abbrev VI:= @List.length_eq_zero_iff
abbrev VJ:= @List.cons_append
abbrev VK:= @List.getD_eq_getElem?_getD
abbrev VL:= @Bool.eq_false_iff
def Qjl:Nat:=0
def nG:Nat:=1
def QhP:List (List Int):=[]
theorem gOk:((List.range nG).all λb=>Nat.beq b Qjl|| !(QhP.getD b []).isEmpty)=true:=by decide
theorem gLt:Nat.ble QhP.length nG=true:=by decide
theorem Qnt:Nat.blt Qjl nG=true:=by decide
structure GP (w:World):Prop where
 max:∃m:Int,w.cell? ⟨Qjl,0,none⟩=some (.int .i64 m)
 tab:∀(g:Nat) (zs:List Int),QhP[g]?=some zs->∀(i:Nat) (z:Int),zs[i]?=some z->w.cell? ⟨g,i,none⟩=some (.int .i64 z)
theorem GP.keep{w w':World}(h:∀b,b<nG->w'.heap[b]?=w.heap[b]?)(g:GP w):GP w':=by
 obtain⟨m,j⟩:=g.max;refine⟨⟨m,?_⟩,λa e d i z f=>?_⟩
 .rw[<- j];unfold World.cell?;rw[h Qjl (by simpa using Qnt)]
 .rw[<- g.tab a e d i z f];unfold World.cell?;have l:=(XL.1 d).1;have k:QhP.length<=nG:=by simpa using gLt
  rw[h a (by omega)]
theorem QfF{w:World}{b i:Nat}{v:Value}(h:w.cell? ⟨b,i,none⟩=some v):b<w.heap.size:=by
 cases e:w.heap[b]? with
 |none=>simp[World.cell?,e]at h
 |some o=>exact(Vc.1 e).1
theorem GP.size{w:World}(g:GP w)(b:Nat)(d:b<nG):b<w.heap.size:=by
 have h:=Xs.1 gOk b (List.mem_range.2 d);rw[Bool.or_eq_true]at h;rcases h with h|h
 .obtain⟨m,f⟩:=g.max;rw[XQ h];exact QfF f
 .cases e:QhP[b]? with
  |none=>rw[VK,e]at h;simp at h
  |some a=>
   cases a with
   |nil=>rw[VK,e]at h;simp at h
   |cons z a=>exact QfF (g.tab b _ e 0 z rfl)
inductive A where
 |any
 |bool (b:Bool)
 |int (k:IntKind) (n:Int)
 |str (s:List UInt8)
 |nilp
 |ptr (i off:Nat)
 |rp (cs:List A)
 |nils
 |rsl (k:Nat) (es:List (List A))
 |osl (i o n k:Nat)
 |agg (cs:List A)
 |fn (f:Fn) (first cap:List A)
 |nilf
 |iface (t:Nat) (v:A)
 |nilif
 |map (i:Nat)
 |nilm
 |tup (vs:List A)
abbrev Sig:=List (Option Nat)
def Qz:Value->Prop
 |.agg _|.tuple _=>False
 |_=>True
mutual
def VR(ro:Nat->Prop)(σ:Sig)(w:World):A->Value->Prop
 |.any,_=>True
 |.bool b,v=>v=.bool b
 |.int k n,v=>v=.int k n
 |.str s,v=>v=.string ⟨s.toArray⟩
 |.nilp,v=>v=.pointer none
 |.ptr i off,v=>∃b,σ[i]?=some (some b)/\v=.pointer (some ⟨b,off,none⟩)
 |.rp cs,v=>∃b off,v=.pointer (some ⟨b,off,none⟩)/\ro b/\CR ro [] w b cs off
 |.nils,v=>v=.slice none 0 0
 |.rsl k es,v=>∃a cap,v=.slice a es.length cap/\es.length<=cap/\
   (es=[]\/ ∃b off,a=some ⟨b,off,none⟩/\ro b/\RR ro [] w b k es off)
 |.osl i o n k,v=>(n=0/\v=.slice none 0 0)\/
   ∃b p cap t m,σ[i]?=some (some b)/\v=.slice (some ⟨b,p,none⟩) n cap/\(0<cap->p=o*k)/\(n<=cap/\cap<=9223372036854775807)/\w.shape? b=some (t,m)/\(o+cap)*k<=m
 |.agg cs,v=>∃l:List Value,v=.agg l.toArray/\LR ro σ w cs l
 |.fn f first cap,v=>∃l l':List Value,v=.func f l.toArray l'.toArray/\LR ro σ w first l/\LR ro σ w cap l'
 |.nilf,v=>v=.nilFunc
 |.iface t a,v=>∃x,v=.iface t x/\VR ro σ w a x
 |.nilif,v=>v=.nilIface
 |.map i,v=>∃b,σ[i]?=some (some b)/\v=.map (some b)
 |.nilm,v=>v=.map none
 |.tup vs,v=>∃l:List Value,v=.tuple l.toArray/\LR ro σ w vs l
def CR(ro:Nat->Prop)(σ:Sig)(w:World)(b:Nat):List A->Nat->Prop
 |[],_=>True
 |a::r,off=>(∃v,w.cell? ⟨b,off,none⟩=some v/\Qz v/\VR ro σ w a v)/\CR ro σ w b r (off+1)
def RR(ro:Nat->Prop)(σ:Sig)(w:World)(b k:Nat):List (List A)->Nat->Prop
 |[],_=>True
 |cs::r,off=>cs.length=k/\CR ro σ w b cs off/\RR ro σ w b k r (off+k)
def LR(ro:Nat->Prop)(σ:Sig)(w:World):List A->List Value->Prop
 |[],l=>l=[]
 |a::r,l=>∃v l',l=v::l'/\VR ro σ w a v/\LR ro σ w r l'
end
structure Ext (ro:Nat->Prop) (σ:Sig) (w:World) (ro':Nat->Prop) (σ':Sig) (w':World):Prop where
 sub:∀b,ro b->ro' b
 keep:∀b,ro b->w'.heap[b]?=w.heap[b]?
 shape:∀b x,w.shape? b=some x->w'.shape? b=some x
 sig:∀(i b:Nat),σ[i]?=some (some b)->σ'[i]?=some (some b)
theorem QfG{w w':World}{b a:Nat}(h:w'.heap[b]?=w.heap[b]?):w'.cell? ⟨b,a,none⟩=w.cell? ⟨b,a,none⟩:=by
 simp only[World.cell?,h]
theorem Ext.nil{ro ro':Nat->Prop}{σ σ':Sig}{w w':World}(h:Ext ro σ w ro' σ' w'):Ext ro [] w ro' [] w':=
 ⟨h.sub,h.keep,h.shape,λ_ _ q=>q⟩
mutual
theorem VR.mono{ro ro':Nat->Prop}{w w':World}:∀{a:A} {σ σ':Sig} {v:Value},Ext ro σ w ro' σ' w'->VR ro σ w a v->VR ro' σ' w' a v
 |.any,_,_,_,h,_=>trivial
 |.bool b,_,_,v,h,q=>q
 |.int k n,_,_,v,h,q=>q
 |.str s,_,_,v,h,q=>q
 |.nilp,_,_,v,h,q=>q
 |.ptr i off,_,_,v,h,q=>by
  simp only[VR]at q⊢;obtain⟨b,h1,h2⟩:=q;exact⟨b,h.sig _ _ h1,h2⟩
 |.rp cs,_,_,v,h,q=>by
  simp only[VR]at q⊢;obtain⟨b,off,h1,h2,h3⟩:=q;exact⟨b,off,h1,h.sub _ h2,CR.mono h.nil h2 h3⟩
 |.nils,_,_,v,h,q=>q
 |.rsl k es,_,_,v,h,q=>by
  simp only[VR]at q⊢;obtain⟨a,cap,h1,h2,h3⟩:=q;refine⟨a,cap,h1,h2,?_⟩;rcases h3 with h3|⟨b,off,h4,h5,h6⟩
  .exact .inl h3
  .exact .inr ⟨b,off,h4,h.sub _ h5,RR.mono h.nil h5 h6⟩
 |.osl i o n k,_,_,v,h,q=>by
  simp only[VR]at q⊢;rcases q with q|⟨b,p,cap,t,m,h1,h2,h6,h3,h4,h5⟩
  .exact .inl q
  .exact .inr ⟨b,p,cap,t,m,h.sig _ _ h1,h2,h6,h3,h.shape _ _ h4,h5⟩
 |.agg cs,_,_,v,h,q=>by
  simp only[VR]at q⊢;obtain⟨l,h1,h2⟩:=q;exact⟨l,h1,LR.mono h h2⟩
 |.fn f a c,_,_,v,h,q=>by
  simp only[VR]at q⊢;obtain⟨l,l',h1,h2,h3⟩:=q;exact⟨l,l',h1,LR.mono h h2,LR.mono h h3⟩
 |.nilf,_,_,v,h,q=>q
 |.iface t a,_,_,v,h,q=>by
  simp only[VR]at q⊢;obtain⟨x,h1,h2⟩:=q;exact⟨x,h1,VR.mono h h2⟩
 |.nilif,_,_,v,h,q=>q
 |.map i,_,_,v,h,q=>by
  simp only[VR]at q⊢;obtain⟨b,h1,h2⟩:=q;exact⟨b,h.sig _ _ h1,h2⟩
 |.nilm,_,_,v,h,q=>q
 |.tup vs,_,_,v,h,q=>by
  simp only[VR]at q⊢;obtain⟨l,h1,h2⟩:=q;exact⟨l,h1,LR.mono h h2⟩
theorem CR.mono{ro ro':Nat->Prop}{w w':World}:∀{cs:List A} {σ σ':Sig} {b off:Nat},Ext ro σ w ro' σ' w'->ro b->CR ro σ w b cs off->CR ro' σ' w' b cs off
 |[],_,_,_,_,_,_,_=>trivial
 |a::r,_,_,b,off,h,hb,q=>by
  simp only[CR]at q⊢;obtain⟨⟨v,h1,hp,h2⟩,h3⟩:=q;exact⟨⟨v,by rw[QfG (h.keep _ hb)];exact h1,hp,VR.mono h h2⟩,CR.mono h hb h3⟩
theorem RR.mono{ro ro':Nat->Prop}{w w':World}:∀{es:List (List A)} {σ σ':Sig} {b k off:Nat},Ext ro σ w ro' σ' w'->ro b->RR ro σ w b k es off->RR ro' σ' w' b k es off
 |[],_,_,_,_,_,_,_,_=>trivial
 |cs::r,_,_,b,k,off,h,hb,q=>by
  simp only[RR]at q⊢;obtain⟨h1,h2,h3⟩:=q;exact⟨h1,CR.mono h hb h2,RR.mono h hb h3⟩
theorem LR.mono{ro ro':Nat->Prop}{w w':World}:∀{az:List A} {σ σ':Sig} {l:List Value},Ext ro σ w ro' σ' w'->LR ro σ w az l->LR ro' σ' w' az l
 |[],_,_,_,h,q=>q
 |a::r,_,_,l,h,q=>by
  simp only[LR]at q⊢;obtain⟨v,l',h1,h2,h3⟩:=q;exact⟨v,l',h1,VR.mono h h2,LR.mono h h3⟩
end
structure Ent where
 fl:Bool
 off:Nat
 lo:Int
 hi:Int
def winL(i n c:Nat):List (List A):=(List.range c).map λj=>[.osl i (j*n) n 1]
def eC(b1 b2:Nat)(e:Ent):List A:=[.ptr (bif e.fl then b2 else b1) e.off,.int .i64 e.lo,.int .i64 e.hi]
inductive Blk where
 |dead
 |cells (t:Nat) (cs:List A)
 |row (t k:Nat) (es:List (List A))
 |rowr (t k:Nat) (es:List (List A))
 |map (es:List (A×A))
 |iter (cur:Option (A×A)) (es:List (A×A))
 |fmap (es:List (A×A))
 |ents (t b1 b2:Nat) (es:List Ent)
 |wins (t b n c:Nat)
 |mapO (fz:Bool) (t k:Nat) (es:List (A×Option (List (List A))))
 |mapP (es:List (A×A))
 |frow (t k:Nat) (es:List (List A))
def Blk.live:Blk->Bool
 |.dead=>false
 |.fmap _=>false
 |.frow _ _ _=>false
 |.mapO fz _ _ _=> !fz
 |_=>true
def Blk.held:Blk->Bool
 |.mapO fz _ _ _=>fz
 |_=>false
def Blk.holds(x:Blk):Bool:=x.live||x.held
theorem Qbw{x:Blk}(h:x.live=true):x≠ .dead:=by rintro rfl;cases h
theorem Qgs{x:Blk}(h:x.holds=true):x≠ .dead:=by rintro rfl;cases h
theorem Qgt{x:Blk}(h:x.live=true):x.holds=true:=by unfold Blk.holds;rw[h];rfl
abbrev Qd:=List Blk
def ER(ro:Nat->Prop)(σ:Sig)(w:World):List (A×A)->List MapEntry->Prop
 |[],l=>l=[]
 |x::r,l=>∃e l',l=e::l'/\VR ro σ w x.1 e.key/\VR ro σ w x.2 e.val/\ER ro σ w r l'
def ItR(ro:Nat->Prop)(w:World)(b:Nat)(cur:Option (A×A))(es:List (A×A)):Prop:=
 (es=[]/\cur=none/\w.heap[b]?=some (.mapIter none 0 #[] 0))\/
 ∃m l clock seen left,w.heap[b]?=some (.mapIter (some m) clock seen clock)/\ro m/\w.heap[m]?=some (.map l clock)/\(∀e∈l.toList,e.born<clock)/\(l.toList.map (·.born)).Nodup/\
  (left:List MapEntry).Perm (l.toList.filter λe=> !seen.contains e.born)/\ER ro [] w es left/\
  (∀x,cur=some x->∃e∈l.toList,seen.back? =some e.born/\VR ro [] w x.1 e.key/\VR ro [] w x.2 e.val)
def RL(ro:Nat->Prop)(σ:Sig)(w:World)(k:Nat):List (List A)->List Value->Prop
 |[],_=>True
 |c::es,l=>∃l1 l2,l=l1++l2/\c.length=k/\(LR ro σ w c l1/\ ∀v∈l1,Qz v)/\RL ro σ w k es l2
theorem RL.mono{ro ro':Nat->Prop}{σ σ':Sig}{w w':World}(h:Ext ro σ w ro' σ' w'){k:Nat}:∀{es:List (List A)} {l:List Value},RL ro σ w k es l->RL ro' σ' w' k es l
 |[],_,_=>trivial
 |c::es,l,⟨l1,l2,h1,h2,h3,h4⟩=>⟨l1,l2,h1,h2,⟨h3.1.mono h,h3.2⟩,RL.mono h h4⟩
def SO(ro:Nat->Prop)(w:World)(t k:Nat)(rows:List (List A))(v:Value):Prop:=
 (rows=[]/\v=.slice none 0 0)\/ ∃(c p cap:Nat) (vs:List Value),v=.slice (some ⟨c,p,none⟩) rows.length cap/\(rows.length<=cap/\cap<=9223372036854775807)/\w.heap[c]?=some (.cells vs.toArray t (0,0))/\cap*k<=vs.length/\RL ro [] w k rows vs/\(0<cap->p=0)
def MO(ro:Nat->Prop)(w:World)(t k:Nat):List (A×Option (List (List A)))->List MapEntry->Prop
 |[],l=>l=[]
 |x::r,l=>∃e l',l=e::l'/\VR ro [] w x.1 e.key/\(∀rows,x.2=some rows->SO ro w t k rows e.val)/\MO ro w t k r l'
def QdM:List (A×Option (List (List A)))->List MapEntry->Nat->Prop
 |x::r,e::l,c=>(x.2.isSome=true/\ ∃p n cap,e.val=.slice (some ⟨c,p,none⟩) n cap)\/QdM r l c
 |_,_,_=>False
def Qih:List (A×Option (List (List A)))->List MapEntry->Prop
 |x::r,e::l=>(∀c,x.2.isSome=true->(∃p n cap,e.val=.slice (some ⟨c,p,none⟩) n cap)->¬QdM r l c)/\Qih r l
 |_,_=>True
def Hid(w:World):Blk->Nat->Nat->Prop
 |.mapO _ _ _ es,b,c=>∃l clock,w.heap[b]?=some (.map l clock)/\QdM es l.toList c
 |_,_,_=>False
theorem Hid.keep{w w':World}{x:Blk}{b c:Nat}(h:w'.heap[b]?=w.heap[b]?)(q:Hid w' x b c):Hid w x b c:=by
 cases x with
 |mapO fz t k e=>obtain⟨l,d,f,a⟩:=q;exact⟨l,d,by grind,a⟩
 |_=>exact q.elim
theorem Hid.holds{w:World}{x:Blk}{b c:Nat}(q:Hid w x b c):x.holds=true:=by
 cases x with
 |mapO fz t k a=>cases fz<;>rfl
 |_=>exact q.elim
theorem MO.mono{ro ro':Nat->Prop}{σ σ':Sig}{w w':World}(h:Ext ro σ w ro' σ' w'){t k:Nat}:∀{es:List (A×Option (List (List A)))} {l:List MapEntry},(∀c,QdM es l c->w'.heap[c]?=w.heap[c]?)->MO ro w t k es l->MO ro' w' t k es l
 |[],_,_,q=>q
 |x::r,_,hh,⟨e,l',h1,h2,h3,h4⟩=>by
  subst h1;refine⟨e,l',rfl,h2.mono h.nil,λrows hr=>?_,MO.mono h (λc hc=>hh c (.inr hc)) h4⟩;rcases h3 rows hr with q|⟨c,p,cap,vs,q1,q2,q3,q4,q5,q6⟩
  .exact .inl q
  .exact .inr ⟨c,p,cap,vs,q1,q2,by rw[hh c (.inl (by grind))];exact q3,q4,q5.mono h.nil,q6⟩
theorem MO.cells{ro:Nat->Prop}{w:World}{t k:Nat}:∀{es:List (A×Option (List (List A)))} {l:List MapEntry} {c:Nat},MO ro w t k es l->QdM es l c->∃vs:Array Value,w.heap[c]?=some (.cells vs t (0,0))
 |[],l,c,h,q=>by cases l<;>exact q.elim
 |x::r,_,c,⟨e,l',h1,h2,h3,h4⟩,q=>by
  subst h1;rcases q with⟨q1,p,n,cap,q2⟩|q
  .obtain⟨rows,hr⟩:=Option.isSome_iff_exists.1 q1;rcases h3 rows hr with⟨_,z⟩|⟨c',p',cap',vs,z1,z2,z3,z4,z5,z6⟩
   .grind
   grind
  .exact MO.cells h4 q
def Born(l:Array MapEntry)(clock:Nat):Prop:=clock=l.size/\ ∀(i:Nat) (e:MapEntry),l.toList[i]?=some e->e.born=i
theorem Born.modify{l:Array MapEntry}{a j:Nat}{f:MapEntry->MapEntry}(h:Born l a)(m:∀e,(f e).born=e.born):Born (l.modify j f) a:=by
 obtain⟨d,k⟩:=h;refine⟨by simp[d],λi g q=>?_⟩
 grind
def BR(ro:Nat->Prop)(σ:Sig)(w:World):Blk->Option Nat->Prop
 |.dead,_=>True
 |.cells t cs,some b=>∃l:List Value,w.heap[b]?=some (.cells l.toArray t (0,0))/\LR ro σ w cs l/\ ∀v∈l,Qz v
 |.row t k es,some b=>∃l:List Value,w.heap[b]?=some (.cells l.toArray t (0,0))/\RL ro [] w k es l
 |.rowr t k es,some b=>∃l:List Value,w.heap[b]?=some (.cells l.toArray t (0,0))/\RL ro σ w k es l
 |.row _ _ es,none=>es=[]
 |.ents t b1 b2 es,some b=>∃l:List Value,w.heap[b]?=some (.cells l.toArray t (0,0))/\RL ro σ w 3 (es.map (eC b1 b2)) l
 |.ents _ _ _ es,none=>es=[]
 |.wins t b n c,some d=>∃l:List Value,w.heap[d]?=some (.cells l.toArray t (0,0))/\RL ro σ w 1 (winL b n c) l
 |.wins _ _ _ c,none=>c=0
 |.map es,some b=>∃l clock,w.heap[b]?=some (.map l clock)/\ER ro [] w es l.toList/\
   (∀e∈l.toList,e.born<clock)/\(l.toList.map (·.born)).Nodup/\(l.toList.map (·.key)).Nodup
 |.mapP es,some b=>∃l clock,w.heap[b]?=some (.map l clock)/\ER ro σ w es l.toList/\
   (∀e∈l.toList,e.born<clock)/\(l.toList.map (·.born)).Nodup/\(l.toList.map (·.key)).Nodup
 |.frow t k es,some b=>ro b/\ ∃l:List Value,w.heap[b]?=some (.cells l.toArray t (0,0))/\RL ro [] w k es l/\l.length=es.length*k
 |.iter cur es,some b=>ItR ro w b cur es
 |.mapO fz t k es,some b=>(fz=true->ro b)/\ ∃l clock,w.heap[b]?=some (.map l clock)/\MO ro w t k es l.toList/\Qih es l.toList/\
   (∀e∈l.toList,e.born<clock)/\(l.toList.map (·.born)).Nodup/\(l.toList.map (·.key)).Nodup/\Born l clock
 |.fmap es,some b=>ro b/\ ∃l clock,w.heap[b]?=some (.map l clock)/\ER ro [] w es l.toList/\
   (∀e∈l.toList,e.born<clock)/\(l.toList.map (·.born)).Nodup/\(l.toList.map (·.key)).Nodup
 |_,none=>False
structure RoOk (ro:Nat->Prop) (w:World):Prop where
 lt:∀b,ro b->b<w.heap.size
 g:∀b,b<nG->ro b
 gp:GP w
theorem RoOk.to{ro ro':Nat->Prop}{w w':World}(h:RoOk ro w)(sub:∀b,ro b->ro' b)(keep:∀b,ro b->w'.heap[b]?=w.heap[b]?)(lt:∀b,ro' b->b<w'.heap.size):RoOk ro' w':=
 ⟨lt,λb hb=>sub b (h.g b hb),h.gp.keep λb hb=>keep b (h.g b hb)⟩
structure QmY (fr ro:Nat->Prop) (σ:Sig) (H:Qd) (w:World) (i0 b0 c:Nat):Prop where
 lt:c<w.heap.size
 ro:¬ro c
 fr:¬fr c
 ne:∀(j b:Nat) (y:Blk),σ[j]?=some (some b)->H[j]?=some y->y.live=true->c≠b
 one:∀(j b:Nat) (y:Blk),σ[j]?=some (some b)->H[j]?=some y->Hid w y b c->b=b0/\j=i0
structure Sim (fr ro:Nat->Prop) (σ:Sig) (H:Qd) (w:World):Prop where
 len:σ.length=H.length
 roOk:RoOk ro w
 frLt:∀b,fr b->b<w.heap.size
 roFr:∀b,ro b->¬fr b
 own:∀(i b:Nat) (blk:Blk),σ[i]?=some (some b)->H[i]?=some blk->blk.live=true->b<w.heap.size/\ ¬ro b/\ ¬fr b
 inj:∀(i j b:Nat) (x y:Blk),σ[i]?=some (some b)->σ[j]?=some (some b)->H[i]?=some x->H[j]?=some y->x.live=true->y.live=true->i=j
 blk:∀(i:Nat) (s:Option Nat) (x:Blk),σ[i]?=some s->H[i]?=some x->BR ro σ w x s
 hid:∀(i b:Nat) (x:Blk) (c:Nat),σ[i]?=some (some b)->H[i]?=some x->Hid w x b c->QmY fr ro σ H w i b c
theorem Sim.roHeld{fr ro:Nat->Prop}{σ:Sig}{H:Qd}{w:World}(s:Sim fr ro σ H w){i b:Nat}{x:Blk}(e:σ[i]?=some (some b))(d:H[i]?=some x)(a:x.held=true):ro b:=by
 have h:=s.blk i _ x e d;cases x with
 |mapO fz t k f=>exact h.1 a
 |_=>cases a
theorem Sim.hidKeep{fr ro:Nat->Prop}{σ:Sig}{H:Qd}{w w':World}(s:Sim fr ro σ H w){i b c:Nat}{x:Blk}(g:σ[i]?=some (some b))(e:H[i]?=some x)
  (d:x.live=true->w'.heap[b]?=w.heap[b]?)(f:∀b,ro b->w'.heap[b]?=w.heap[b]?)(q:Hid w' x b c):Hid w x b c:=by
 refine q.keep ?_;have h:=q.holds;cases a:x.live with
 |true=>exact d a
 |false=>unfold Blk.holds at h;rw[a]at h;exact f b (s.roHeld g e h)
theorem Sim.hidTo{fr p ro n:Nat->Prop}{σ σ':Sig}{H H':Qd}{w w':World}(s:Sim fr ro σ H w)(R:Nat->Nat->Prop)(W:∀j j' a,R j a->R j' a->j=j')(E:w.heap.size<=w'.heap.size)
  (L:∀(i b:Nat) (x:Blk) (c:Nat),σ[i]?=some (some b)->H[i]?=some x->Hid w x b c->n c->ro c)
  (Q:∀(i b:Nat) (x:Blk) (c:Nat),σ[i]?=some (some b)->H[i]?=some x->Hid w x b c->p c->fr c)
  (h:∀(j d:Nat) (y:Blk),σ'[j]?=some (some d)->H'[j]?=some y->y.holds=true->
   (∃(a:Nat) (m:Blk),R j a/\σ[a]?=some (some d)/\H[a]?=some m/\(y.live=true->m.live=true)/\ ∀c,Hid w' y d c->Hid w m d c)\/(w.heap.size<=d/\ ∀c,Hid w' y d c->False)):
  ∀(i b:Nat) (x:Blk) (c:Nat),σ'[i]?=some (some b)->H'[i]?=some x->Hid w' x b c->QmY p n σ' H' w' i b c:=by
 intro i b x c T P G;rcases h i b x T P G.holds with⟨a,m,r0,N,O,V,M⟩|⟨_,g⟩
 .have k:=s.hid a b m c N O (M c G);refine⟨Vf k.lt E,λq=>k.ro (by grind),λq=>k.fr (by grind),λj d y z r l=>?_,λj d y z r l=>?_⟩
  .rcases h j d y z r (Qgt l)with⟨u,y1,_,B,t,F,_⟩|⟨f,_⟩
   .exact k.ne u d y1 B t (F l)
   .exact λe=>by have:=k.lt;omega
  .rcases h j d y z r l.holds with⟨u,y1,Y,B,t,F,J⟩|⟨_,f⟩
   .obtain⟨X,e2⟩:=k.one u d y1 B t (J c l)
    grind
   grind
 grind
theorem Yb(j j' j0:Nat)(h:j=j0)(h':j'=j0):j=j':=h.trans h'.symm
theorem Sim.roLt{fr ro:Nat->Prop}{σ:Sig}{H:Qd}{w:World}(s:Sim fr ro σ H w):∀b,ro b->b<w.heap.size:=s.roOk.lt
structure Qm (fr ro:Nat->Prop) (w:World) (ro':Nat->Prop) (w':World):Prop where
 sub:∀b,ro b->ro' b
 keepRo:∀b,ro b->w'.heap[b]?=w.heap[b]?
 keepFr:∀b,fr b->w'.heap[b]?=w.heap[b]?
 size:w.heap.size<=w'.heap.size
 shape:∀b x,w.shape? b=some x->w'.shape? b=some x
 os:w'.os=w.os
 tape:w'.tape=w.tape
 output:w'.output=w.output
 drawn:w.drawn<=w'.drawn
theorem Qm.refl(fr ro:Nat->Prop)(w:World):Qm fr ro w ro w:=
 ⟨λ_ h=>h,λ_ _=>rfl,λ_ _=>rfl,XT _,λ_ _ h=>h,rfl,rfl,rfl,XT _⟩
theorem Qm.trans{fr ro ro1 ro2:Nat->Prop}{w w1 w2:World}(h:Qm fr ro w ro1 w1)(k:Qm fr ro1 w1 ro2 w2):Qm fr ro w ro2 w2:=
 ⟨λb q=>k.sub _ (h.sub _ q),λb q=>(k.keepRo _ (h.sub _ q)).trans (h.keepRo _ q),λb q=>(k.keepFr _ q).trans (h.keepFr _ q),
  XV h.size k.size,λb x q=>k.shape _ _ (h.shape _ _ q),k.os.trans h.os,k.tape.trans h.tape,k.output.trans h.output,XV h.drawn k.drawn⟩
theorem Qck{σ τ:Sig}{i b:Nat}(h:σ[i]?=some (some b)):(σ++τ)[i]?=some (some b):=by
 grind
theorem Qm.ext{fr ro ro':Nat->Prop}{w w':World}(h:Qm fr ro w ro' w')(σ τ:Sig):Ext ro σ w ro' (σ++τ) w':=
 ⟨h.sub,h.keepRo,h.shape,λ_ _=>Qck⟩
theorem Qm.ext0{fr ro ro':Nat->Prop}{w w':World}(h:Qm fr ro w ro' w')(σ:Sig):Ext ro σ w ro' σ w':=
 ⟨h.sub,h.keepRo,h.shape,λ_ _ q=>q⟩
theorem ER.mono{ro ro':Nat->Prop}{σ σ':Sig}{w w':World}(h:Ext ro σ w ro' σ' w'):∀{es:List (A×A)} {l:List MapEntry},ER ro σ w es l->ER ro' σ' w' es l
 |[],_,q=>q
 |x::r,l,q=>by
  simp only[ER]at q⊢;obtain⟨e,l',h1,h2,h3,h4⟩:=q;exact⟨e,l',h1,h2.mono h,h3.mono h,ER.mono h h4⟩
theorem ItR.keep{ro f:Nat->Prop}{σ σ':Sig}{w w':World}(h:Ext ro σ w f σ' w'){b:Nat}(F:w'.heap[b]?=w.heap[b]?){g:Option (A×A)}{es:List (A×A)}
  (q:ItR ro w b g es):ItR f w' b g es:=by
 rcases q with⟨j,i,k⟩|⟨m,l,a,d,left,j,i,k,u,y,s,B,p⟩
 .exact .inl ⟨j,i,by grind⟩
 .refine .inr ⟨m,l,a,d,left,by grind,h.sub _ i,by rw[h.keep _ i];exact k,u,y,s,B.mono h.nil,λx n=>?_⟩;obtain⟨e,r,E,t,z⟩:=p x n;exact⟨e,r,E,t.mono h.nil,z.mono h.nil⟩
theorem CR.keep{ro ro':Nat->Prop}{σ σ':Sig}{w w':World}(h:Ext ro σ w ro' σ' w'){b:Nat}(hb:w'.heap[b]?=w.heap[b]?):
  ∀{cs:List A} {off:Nat},CR ro σ w b cs off->CR ro' σ' w' b cs off
 |[],_,_=>trivial
 |a::r,off,q=>by
  simp only[CR]at q⊢;obtain⟨⟨v,h1,hp,h2⟩,h3⟩:=q;exact⟨⟨v,by rw[QfG hb];exact h1,hp,h2.mono h⟩,CR.keep h hb h3⟩
theorem RR.keep{ro ro':Nat->Prop}{σ σ':Sig}{w w':World}(h:Ext ro σ w ro' σ' w'){b:Nat}(hb:w'.heap[b]?=w.heap[b]?){k:Nat}:
  ∀{es:List (List A)} {off:Nat},RR ro σ w b k es off->RR ro' σ' w' b k es off
 |[],_,_=>trivial
 |cs::r,off,q=>by
  simp only[RR]at q⊢;obtain⟨h1,h2,h3⟩:=q;exact⟨h1,CR.keep h hb h2,RR.keep h hb h3⟩
theorem BR.keep{ro m:Nat->Prop}{σ σ':Sig}{w w':World}(h:Ext ro σ w m σ' w'){x:Blk}{s:Option Nat}
  (g:∀b,s=some b->x.live=true->w'.heap[b]?=w.heap[b]?)(q:BR ro σ w x s)(u:∀b c,s=some b->Hid w x b c->w'.heap[c]?=w.heap[c]?):BR m σ' w' x s:=by
 cases x with
 |mapO fz t k i=>
  cases s with
  |none=>exact q
  |some b=>
   obtain⟨j,l,c,a,e,f⟩:=q;refine⟨λz=>h.sub b (j z),l,c,?_,e.mono h (λd p=>u b d rfl ⟨l,c,a,p⟩),f⟩;cases fz with
   |false=>rw[g b rfl rfl];exact a
   |true=>rw[h.keep b (j rfl)];exact a
 |dead=>trivial
 |cells t B=>
  cases s with
  |none=>exact q
  |some b=>
   obtain⟨l,a,e,f⟩:=q;exact⟨l,by rw[g b rfl rfl];exact a,e.mono h,f⟩
 |row t k i=>
  cases s with
  |none=>exact q
  |some b=>
   obtain⟨l,a,e⟩:=q;exact⟨l,by rw[g b rfl rfl];exact a,e.mono h.nil⟩
 |rowr t k i=>
  cases s with
  |none=>exact q.elim
  |some b=>
   obtain⟨l,a,e⟩:=q;exact⟨l,by rw[g b rfl rfl];exact a,e.mono h⟩
 |wins t b n c=>
  cases s with
  |none=>exact q
  |some d=>
   obtain⟨l,a,e⟩:=q;exact⟨l,by rw[g d rfl rfl];exact a,e.mono h⟩
 |ents t y E i=>
  cases s with
  |none=>exact q
  |some b=>
   obtain⟨l,a,e⟩:=q;exact⟨l,by rw[g b rfl rfl];exact a,e.mono h⟩
 |map i=>
  cases s with
  |none=>exact q
  |some b=>
   obtain⟨l,c,a,e,f⟩:=q;exact⟨l,c,by rw[g b rfl rfl];exact a,e.mono h.nil,f⟩
 |mapP i=>
  cases s with
  |none=>exact q
  |some b=>
   obtain⟨l,c,a,e,f⟩:=q;exact⟨l,c,by rw[g b rfl rfl];exact a,e.mono h,f⟩
 |frow t k i=>
  cases s with
  |none=>exact q
  |some b=>
   obtain⟨j,l,a,e,f⟩:=q;exact⟨h.sub b j,l,by rw[h.keep b j];exact a,e.mono h.nil,f⟩
 |iter r i=>
  cases s with
  |none=>exact q
  |some b=>exact ItR.keep h (g b rfl rfl) q
 |fmap i=>
  cases s with
  |none=>exact q
  |some b=>
   obtain⟨j,l,c,a,e,f⟩:=q;exact⟨h.sub b j,l,c,by rw[h.keep b j];exact a,e.mono h.nil,f⟩
abbrev Env:=List (Nat×A)
def lk:Env->Nat->A
 |[],_=>.any
 |(d,a)::r,s=>bif Nat.beq s d then a else lk r s
abbrev up(env:Env)(d:Nat)(a:A):Env:=(d,a)::env
inductive AEx where
 |normal|exit (id:Nat)|ret
abbrev QG:=AEx->Env->Qd->Prop
def QnN(fr:Nat->Prop)(w:World)(d:Deferred):Prop:=∃D,d={target:=.collected D,args:= #[]}/\fr D/\w.heap[D]?=some (.deferred (some []))
def QiT(d:Deferred):Prop:=∃fv cap,d={target:=.fn fv cap,args:= #[]}
def Qbz(fr:Nat->Prop)(ds:List Deferred)(w:World):Prop:=ds.Nodup/\ ∀d∈ds,QnN fr w d\/QiT d
theorem Qbz.mark{fr:Nat->Prop}{a:List Deferred}{w:World}(h:Qbz fr a w){D:Nat}(i:({target:=.collected D,args:= #[]}:Deferred)∈a):fr D/\w.heap[D]?=some (.deferred (some [])):=by
 rcases h.2 _ i with⟨D',e,g,d⟩|⟨f,c,e⟩
 .have:D=D':=by simpa using e
  subst this;exact⟨g,d⟩
 .simp at e
theorem Qbz.to{fr a:Nat->Prop}{e:List Deferred}{w w':World}(h:Qbz fr e w)(k:∀D,({target:=.collected D,args:= #[]}:Deferred)∈e->fr D->w.heap[D]?=some (.deferred (some []))->a D/\w'.heap[D]?=some (.deferred (some []))):Qbz a e w':=by
 refine⟨h.1,λd f=>?_⟩;rcases h.2 d f with⟨D,g,j,m⟩|q
 .obtain⟨i,l⟩:=k D (g▸f) j m;exact .inl ⟨D,g,i,l⟩
 .exact .inr q
theorem Qbz.keep{fr ro ro':Nat->Prop}{ds:List Deferred}{w w':World}(h:Qbz fr ds w)(k:Qm fr ro w ro' w'):Qbz fr ds w':=
 h.to λD _ h2 h3=>⟨h2,(k.keepFr D h2).trans h3⟩
structure Grow (fr:Nat->Prop) (w:World) (ds:List Deferred) (fr':Nat->Prop) (ds':List Deferred):Prop where
 sub:∀b,fr b->fr' b
 new:∀b,fr' b->fr b\/w.heap.size<=b
 kd:∀d∈ds,d∈ds'
 ds:∀d∈ds',d∈ds\/ ∃D,d={target:=.collected D,args:= #[]}/\w.heap.size<=D
theorem Grow.refl(fr:Nat->Prop)(w:World)(ds:List Deferred):Grow fr w ds fr ds:=⟨λ_ h=>h,λ_ h=>.inl h,λ_ h=>h,λ_ h=>.inl h⟩
theorem Grow.trans{fr f e:Nat->Prop}{w i:World}{ds g a:List Deferred}(h:Grow fr w ds f g)(l:w.heap.size<=i.heap.size)(k:Grow f i g e a):Grow fr w ds e a:=by
 refine⟨λb q=>k.sub b (h.sub b q),λb q=>?_,λd q=>k.kd d (h.kd d q),λd q=>?_⟩
 .rcases k.new b q with q|q
  .exact h.new b q
  omega
 .rcases k.ds d q with q|⟨D,m,j⟩
  .exact h.ds d q
  grind
theorem Qm.frMono{fr fr' ro ro':Nat->Prop}{w w':World}(h:Qm fr' ro w ro' w')(s:∀b,fr b->fr' b):Qm fr ro w ro' w':=
 ⟨h.sub,h.keepRo,λb q=>h.keepFr b (s b q),h.size,h.shape,h.os,h.tape,h.output,h.drawn⟩
theorem Sim.frMono{fr fr' ro:Nat->Prop}{σ:Sig}{H:Qd}{w:World}(h:Sim fr' ro σ H w)(s:∀b,fr b->fr' b):Sim fr ro σ H w:=
 ⟨h.len,h.roOk,λb q=>h.frLt b (s b q),λb q r=>h.roFr b q (s b r),λi b x q1 q2 q3=>let⟨a,b',c⟩:=h.own i b x q1 q2 q3;(by grind),h.inj,h.blk,λi b x c q1 q2 q3=>let k:=h.hid i b x c q1 q2 q3;⟨k.lt,k.ro,λq=>k.fr (s c q),k.ne,k.one⟩⟩
structure Rel (fr ro:Nat->Prop) (σ:Sig) (H:Qd) (env:Env) (N:Nat) (a:Act) (w:World):Prop where
 sim:Sim fr ro σ H w
 env:∀s,VR ro σ w (lk env s) (a.tmps.getD s undef)
 size:a.tmps.size=N
 defers:Qbz fr a.defers w
def QdL(rd:Option Nat)(fr:Nat->Prop)(w:World):Prop:=∀l,rd=some l->fr l/\ ∃r,w.heap[l]?=some (.loop r)
theorem QaG{fr:Nat->Prop}{w:World}:QdL none fr w:=λl e=>by cases e
theorem QdL.to{rd:Option Nat}{fr fr' ro ro':Nat->Prop}{w w':World}(h:QdL rd fr w)(k:Qm fr ro w ro' w')(s:∀b,fr b->fr' b):QdL rd fr' w':=λl e=>by
 obtain⟨h1,r,h2⟩:=h l e;exact⟨s l h1,r,(k.keepFr l h1).trans h2⟩
def ExR:Exit->AEx->Prop
 |.normal,x=>x=.normal
 |.exit id,x=>x=.exit id
 |.ret,x=>x=.ret
 |_,_=>False
def Qat(h0:Nat)(fr ro:Nat->Prop)(σ:Sig)(w:World)(N:Nat)(ds:List Deferred)(Q:QG):Exit->Act->World->Prop:=
 λe a' w'=>∃x env' H' ro' σ' fr',ExR e x/\Q x env' H'/\Rel fr' ro' σ' H' env' N a' w'/\Qm fr ro w ro' w'/\σ'.take h0=σ.take h0/\Grow fr w ds fr' a'.defers
theorem Qat.grow{i:Nat}{fr f ro d:Nat->Prop}{σ σ1:Sig}{w l:World}{N:Nat}{m g:List Deferred}{Q:QG}{e:Exit}{a':Act}{w':World}
  (h:Qat i f d σ1 l N g Q e a' w')(he:Qm fr ro w d l)(n:σ1.take i=σ.take i)(hg:Grow fr w m f g):Qat i fr ro σ w N m Q e a' w':=by
 obtain⟨x,a,H',j,σ',k,u,p,t,r,s,q⟩:=h;exact⟨x,a,H',j,σ',k,u,p,t,he.trans (r.frMono hg.sub),s.trans n,hg.trans he.size q⟩
theorem Qat.step{h0:Nat}{fr ro ro1:Nat->Prop}{σ σ1:Sig}{w w1:World}{N:Nat}{ds:List Deferred}{Q:QG}{e:Exit}{a':Act}{w':World}
  (h:Qat h0 fr ro1 σ1 w1 N ds Q e a' w')(he:Qm fr ro w ro1 w1)(hs:σ1.take h0=σ.take h0):Qat h0 fr ro σ w N ds Q e a' w':=h.grow he hs (Grow.refl _ _ _)
theorem Qat.mono{g:Nat}{fr ro:Nat->Prop}{σ:Sig}{w:World}{N:Nat}{i:List Deferred}{Q Q':QG}{e:Exit}{a':Act}{w':World}
  (h:Qat g fr ro σ w N i Q e a' w')(l:∀x env H,Q x env H->Q' x env H):Qat g fr ro σ w N i Q' e a' w':=by
 obtain⟨x,a,H',d,σ',f,m,j,k⟩:=h;exact⟨x,a,H',d,σ',f,m,l _ _ _ j,k⟩
def Qby(h0:Nat)(fr ro:Nat->Prop)(σ:Sig)(w:World)(N:Nat)(ds:List Deferred)(Q:QG):Exit->Act->World->Prop:=
 λe a' w'=>∃x env' H' ro' σ' fr',ExR e x/\Q x env' H'/\Rel fr' ro' σ' H' env' N a' w'/\Qm fr ro w ro' w'/\σ'.take h0=σ.take h0/\a'.defers=ds/\Grow fr w ds fr' ds
theorem Qby.grow{i:Nat}{fr f ro d:Nat->Prop}{σ σ1:Sig}{w l:World}{N:Nat}{g:List Deferred}{Q:QG}{e:Exit}{a':Act}{w':World}
  (h:Qby i f d σ1 l N g Q e a' w')(he:Qm fr ro w d l)(m:σ1.take i=σ.take i)(hg:Grow fr w g f g):Qby i fr ro σ w N g Q e a' w':=by
 obtain⟨x,a,H',j,σ',k,u,n,s,q,r,p,t⟩:=h;exact⟨x,a,H',j,σ',k,u,n,s,he.trans (q.frMono hg.sub),r.trans m,p,hg.trans he.size t⟩
theorem Qby.step{h0:Nat}{fr ro ro1:Nat->Prop}{σ σ1:Sig}{w w1:World}{N:Nat}{ds:List Deferred}{Q:QG}{e:Exit}{a':Act}{w':World}
  (h:Qby h0 fr ro1 σ1 w1 N ds Q e a' w')(he:Qm fr ro w ro1 w1)(hs:σ1.take h0=σ.take h0):Qby h0 fr ro σ w N ds Q e a' w':=h.grow he hs (Grow.refl _ _ _)
theorem Qby.mono{g:Nat}{fr ro:Nat->Prop}{σ:Sig}{w:World}{N:Nat}{i:List Deferred}{Q Q':QG}{e:Exit}{a':Act}{w':World}
  (h:Qby g fr ro σ w N i Q e a' w')(l:∀x env H,Q x env H->Q' x env H):Qby g fr ro σ w N i Q' e a' w':=by
 obtain⟨x,a,H',d,σ',f,m,j,k⟩:=h;exact⟨x,a,H',d,σ',f,m,l _ _ _ j,k⟩
theorem Qby.postW{i:Nat}{fr ro:Nat->Prop}{σ:Sig}{w:World}{N:Nat}{g:List Deferred}{Q:QG}{e:Exit}{a':Act}{w':World}
  (h:Qby i fr ro σ w N g Q e a' w'):Qat i fr ro σ w N g Q e a' w':=by
 obtain⟨x,a,H',d,σ',f,n,j,m,k,l,p,q⟩:=h;exact⟨x,a,H',d,σ',f,n,j,m,k,l,by grind⟩
def WF(rd:Option Nat):Fence:={Fence.wide with round:=rd}
theorem WF.calls{rd:Option Nat}{P:Program}{f:FuncId}{args:Array Value}{w:World}{R:Ending->World->Prop}:CallsIn (WF rd) 0 P f args w R↔Calls P f args w R:=callsIn_wide
abbrev wpL(P:Program)(rd:Option Nat)(ops:Array Oper)(Q:Exit->Act->World->Prop):List Oper->Act->World->Prop:=wpListIn (WF rd) 0 P ops Q
def TC(P:Program)(h0 N:Nat)(c:Code)(env:Env)(H:Qd)(Q:QG):Prop:=
 ∀rd fr ro σ a w,Rel fr ro σ H env N a w->QdL rd fr w->c.wpIn (WF rd) 0 P (Qat h0 fr ro σ w N a.defers Q) a w
def WO(P:Program)(h0 N:Nat)(all:Array Oper)(l:List Oper)(env:Env)(H:Qd)(Q:QG):Prop:=
 ∀rd fr ro σ a w,Rel fr ro σ H env N a w->QdL rd fr w->wpL P rd all (Qby h0 fr ro σ w N a.defers Q) l a w
def Le(h0:Nat)(env:Env)(H:Qd)(env':Env)(H':Qd):Prop:=
 ∀fr ro σ N a w,Rel fr ro σ H env N a w->∃ro' σ',Rel fr ro' σ' H' env' N a w/\(∀b,ro b->ro' b)/\σ'.take h0=σ.take h0
theorem Le.refl(h0:Nat)(env:Env)(H:Qd):Le h0 env H env H:=λfr ro σ N a w h=>(by grind)
theorem Le.trans{d:Nat}{f j i:Env}{H1 H2 H3:Qd}(h:Le d f H1 j H2)(k:Le d j H2 i H3):Le d f H1 i H3:=by
 intro g m σ N a w r;obtain⟨e,σ1,l,u,p⟩:=h g m σ N a w r;obtain⟨n,σ2,t,q,s⟩:=k g e σ1 N a w l
 grind
theorem Q4{fr ro ro':Nat->Prop}{w:World}(h:∀b,ro b->ro' b):Qm fr ro w ro' w:=
 ⟨h,λ_ _=>rfl,λ_ _=>rfl,XT _,λ_ _ h=>h,rfl,rfl,rfl,XT _⟩
theorem Yo{P:Program}{rd:Option Nat}{ops:Array Oper}{Q Q':Exit->Act->World->Prop}(hq:∀e a w,Q e a w->Q' e a w):
  ∀(l:List Oper) (a:Act) (w:World),wpL P rd ops Q l a w->wpL P rd ops Q' l a w
 |[],a,w,h=>hq _ _ _ h
 |o::l,a,w,h=>by
  unfold wpL wpListIn at h⊢;split
  .rename_i hw;rw[Vs hw]at h;obtain⟨h1,h2⟩:=h;refine⟨h1,?_⟩
   revert h2
   generalize(o.semAt (WF rd).round a.eval).run P w=r;intro h2;have hk:=λa w=>Yo (P:=P) (rd:=rd) (ops:=ops) hq l a w;cases r with
   |ok x w=>
    cases x with
    |value v=>exact hk _ _ h2
    |skip=>exact hk _ _ h2
    |defer d=>exact hk _ _ h2
    |enter f args=>
     refine⟨h2.1,CallsIn.mono h2.2 ?_⟩;intro e w' q;cases e with
     |returned v=>grind
     |panicked c=>grind
     |outgrown=>obtain⟨a,w,q⟩:=q;exact⟨a,w,hq _ _ _ q⟩
    |row r args=>exact⟨h2.1,RowsIn.mono h2.2 λv w' q=>hk _ _ q⟩
    |round l f tmps assign body=>
     refine⟨h2.1,RoundIn.mono h2.2 ?_⟩;intro e w' q;cases e with
     |returned v=>grind
     |panicked c=>grind
     |outgrown=>obtain⟨a,w,q⟩:=q;exact⟨a,w,hq _ _ _ q⟩
    |_=>exact h2
   |halt x w=>
    cases x with
    |panic v=>exact hq _ _ _ h2
    |_=>exact h2
  .rename_i hw;rw[Vr hw]at h;exact⟨h.1,Yo hq l _ _ h.2⟩
theorem Qcy{P:Program}{o:Oper}{a:Act}{w w':World}{x:Next}{rd:Option Nat}(h:(execOp a.eval o).run P w=.ok x w')(g:∀d,x≠ .defer d):(o.semAt (WF rd).round a.eval).run P w=.ok x w':=by
 cases e:o.op with
 |defer c=>
  have:execOp a.eval o=(do pure (.defer (<- resolve a.eval c o.type))):=by simp[execOp,e]
  rw[this]at h;simp[Vm]at h;generalize(resolve a.eval c o.type).run P w=r at h;cases r with
  |ok d f=>simp[go_sem]at h;grind
  |halt x f=>simp_all
 |_=>grind[Oper.semAt_eq]
theorem Qaa{P:Program}{rd:Option Nat}{ops:Array Oper}{Q:Exit->Act->World->Prop}{o:Oper}{l:List Oper}{a:Act}{w w':World}{v:Value}(f:Region.wanted o (yielded ops a.tmps)=true)
  (h:(execOp a.eval o).run P w=.ok (.value v) w')(k:wpL P rd ops Q l (a.put o.dst v) w'):wpL P rd ops Q (o::l) a w:=by
 unfold wpL wpListIn;rw[Vs f];exact⟨λ_ _=>trivial,by rw[Qcy h (λd e=>by cases e)];exact k⟩
theorem Qkb{P:Program}{rd:Option Nat}{ops:Array Oper}{Q:Exit->Act->World->Prop}{o:Oper}{l:List Oper}{a:Act}{w w':World}(f:Region.wanted o (yielded ops a.tmps)=true)
  (h:(execOp a.eval o).run P w=.ok .skip w')(k:wpL P rd ops Q l (a.put o.dst undef) w'):wpL P rd ops Q (o::l) a w:=by
 unfold wpL wpListIn;rw[Vs f];exact⟨λ_ _=>trivial,by rw[Qcy h (λd e=>by cases e)];exact k⟩
theorem Qfc{P:Program}{rd:Option Nat}{ops:Array Oper}{Q:Exit->Act->World->Prop}{o:Oper}{l:List Oper}{a:Act}{w w':World}{f:FuncId}{args:Array Value}(g:Region.wanted o (yielded ops a.tmps)=true)
  (h:(execOp a.eval o).run P w=.ok (.enter f args) w')(k:Calls P f args w' λe w''=>∃v,e=.returned v/\wpL P rd ops Q l (a.put o.dst v) w''):wpL P rd ops Q (o::l) a w:=by
 unfold wpL wpListIn;rw[Vs g];refine⟨λ_ _=>trivial,?_⟩;rw[Qcy h (λd e=>by cases e)];refine⟨λh=>by simp[WF,Fence.wide]at h,WF.calls.2 (Calls.mono k ?_)⟩
 grind
section
variable {P:Program} {h0 N:Nat} {env env':Env} {H H':Qd} {Q Q':QG} {c c':Code}
theorem TC.mono(h:TC P h0 N c env H Q)(hq:∀x env H,Q x env H->Q' x env H):TC P h0 N c env H Q':=
 λrd fr ro σ a w r hrd=>Code.wpIn_mono (λe a w q=>q.mono hq) (h rd fr ro σ a w r hrd)
theorem TC.le(f:Le h0 env H env' H')(h:TC P h0 N c env' H' Q):TC P h0 N c env H Q:=by
 intro i g k σ a w r hrd;obtain⟨d,σ',j,s,t⟩:=f g k σ N a w r;exact Code.wpIn_mono (λe a w q=>q.step (Q4 s) t) (h i g d σ' a w j hrd)
theorem WO.le{all:Array Oper}{l:List Oper}(f:Le h0 env H env' H')(h:WO P h0 N all l env' H' Q):WO P h0 N all l env H Q:=by
 intro i g k σ a w r hrd;obtain⟨d,σ',j,s,t⟩:=f g k σ N a w r;exact Yo (λe a w q=>q.step (Q4 s) t) _ _ _ (h i g d σ' a w j hrd)
theorem WO.mono{all:Array Oper}{l:List Oper}(h:WO P h0 N all l env H Q)(hq:∀x env H,Q x env H->Q' x env H):WO P h0 N all l env H Q':=
 λrd fr ro σ a w r hrd=>Yo (λe a w q=>q.mono hq) _ _ _ (h rd fr ro σ a w r hrd)
def Seq(P:Program)(h0 N:Nat)(c:Code)(Q:QG):QG
 |.normal,env,H=>TC P h0 N c env H Q
 |.exit id,env,H=>Q (.exit id) env H
 |.ret,env,H=>Q .ret env H
def Blo(id:Nat)(Q:QG):QG
 |.normal,env,H=>Q .normal env H
 |.exit id',env,H=>bif Nat.beq id' id then Q .normal env H else Q (.exit id') env H
 |.ret,env,H=>Q .ret env H
theorem TC.seq(h:TC P h0 N c env H (Seq P h0 N c' Q)):TC P h0 N (.seq c c') env H Q:=by
 intro p t u σ a w r hrd;refine wpIn_seq (Code.wpIn_mono ?_ (h p t u σ a w r hrd));rintro e y s ⟨x,d,H',f,σ',g,k,l,n,j,m,i⟩;cases e with
 |normal=>
  obtain rfl:x=.normal:=k;exact Code.wpIn_mono (λe a w q=>q.grow j m i) (l p g f σ' y s n (hrd.to j i.sub))
 |exit id=>
  obtain rfl:x=.exit id:=k;exact⟨_,d,H',f,σ',g,rfl,l,n,j,m,i⟩
 |ret=>
  obtain rfl:x=.ret:=k;exact⟨_,d,H',f,σ',g,rfl,l,n,j,m,i⟩
 |_=>exact k.elim
theorem TC.skip(h:Q .normal env H):TC P h0 N .skip env H Q:=
 λrd fr ro σ a w r hrd=>wpIn_skip ⟨_,env,H,ro,σ,fr,rfl,h,r,Qm.refl _ _ _,rfl,Grow.refl _ _ _⟩
theorem TC.ret(h:Q .ret env H):TC P h0 N .ret env H Q:=
 λrd fr ro σ a w r hrd=>wpIn_ret ⟨_,env,H,ro,σ,fr,rfl,h,r,Qm.refl _ _ _,rfl,Grow.refl _ _ _⟩
theorem TC.exit{id:Nat}(h:Q (.exit id) env H):TC P h0 N (.exit id) env H Q:=
 λrd fr ro σ a w r hrd=>wpIn_exit ⟨_,env,H,ro,σ,fr,rfl,h,r,Qm.refl _ _ _,rfl,Grow.refl _ _ _⟩
theorem TC.block{id:Nat}(h:TC P h0 N c env H (Blo id Q)):TC P h0 N (.block id c) env H Q:=by
 intro q s t σ a w r hrd;refine wpIn_block (Code.wpIn_mono ?_ (h q s t σ a w r hrd));rintro e y u ⟨x,d,H',f,σ',g,p,i,l,m,n,k⟩;cases e with
 |normal=>
  obtain rfl:x=.normal:=p;exact⟨_,d,H',f,σ',g,rfl,i,l,m,n,k⟩
 |exit j=>
  obtain rfl:x=.exit j:=p;simp[Exit.inBlock];simp only[Blo]at i;by_cases e:j=id
  .subst e;rw[Vs rfl];rw[VE]at i;exact⟨_,d,H',f,σ',g,rfl,i,l,m,n,k⟩
  .rw[Vr e];have:Nat.beq j id=false:=by
    simp_all[VL]
   rw[this]at i;exact⟨_,d,H',f,σ',g,rfl,i,l,m,n,k⟩
 |ret=>
  obtain rfl:x=.ret:=p;exact⟨_,d,H',f,σ',g,rfl,i,l,m,n,k⟩
 |_=>exact p.elim
def opA(env:Env):Operand->A
 |.tmp t=>lk env t
 |.const (.bool b)=>.bool b
 |.const (.int k n)=>.int k n
 |.const (.string s)=>.str s.data.toList
 |.const (.pointer none)=>.nilp
 |.const (.slice none 0 0)=>.nils
 |.const (.map none)=>.nilm
 |.const .nilFunc=>.nilf
 |.const .nilIface=>.nilif
 |.func f=>.fn (.func f) [] []
 |_=>.any
theorem Qs{fr ro:Nat->Prop}{σ:Sig}{a:Act}{w:World}(r:Rel fr ro σ H env N a w)(x:Operand):VR ro σ w (opA env x) (a.eval x):=by
 cases x with
 |tmp t=>exact r.env t
 |const v=>
  cases v with
  |slice a n k=>
   cases a with
   |none=>
    cases n with
    |zero=>cases k with
     |zero=>rfl
     |succ k=>trivial
    |succ n=>trivial
   |some a=>trivial
  |pointer p=>cases p with
   |none=>rfl
   |some p=>trivial
  |map p=>cases p with
   |none=>rfl
   |some p=>trivial
  |string s=>rfl
  |_=>simp_all[opA,VR,Act.eval]
 |global g=>trivial
 |func f=>exact⟨[],[],rfl,rfl,rfl⟩
theorem TC.cond{x:Operand}{t:Bool}(i:opA env x=.bool t)(k:t=true->TC P h0 N c env H Q)(j:t=false->TC P h0 N c' env H Q):
  TC P h0 N (.cond x c c') env H Q:=by
 intro f g h σ a w r hrd;have d:=Qs r x;rw[i]at d;exact wpIn_cond_split d (λe=>k e f g h σ a w r hrd) (λe=>j e f g h σ a w r hrd)
theorem QkI{t:Array Value}{d s:Nat}{v:Value}(a:d<t.size):(t.setIfInBounds d v).getD s undef=if s=d then v else t.getD s undef:=by
 simp[Array.getD_eq_getD_getElem?]
 grind
theorem VR.up{fr ro:Nat->Prop}{σ:Sig}{a:Act}{w:World}(r:∀s,VR ro σ w (lk env s) (a.tmps.getD s undef)){d:Nat}(f:d<a.tmps.size){x:A}{v:Value}(g:VR ro σ w x v):
  ∀s,VR ro σ w (lk (up env d x) s) ((a.tmps.setIfInBounds d v).getD s undef):=by
 intro s;rw[QkI f];simp only[lk];by_cases e:s=d
 .simp_all
 .have:Nat.beq s d=false:=by
   simp_all[VL]
  grind
def QI(all:Array Oper)(o:Oper)(env:Env)(b:Bool):Prop:=
 match o.guard with
 |none=>b=true
 |some (j,c)=>∃d,(all[j]?).bind (·.dst)=some d/\((∃x,lk env d=.bool x/\b=(x==c))\/(lk env d=.tup []/\b=false))
theorem YM{all:Array Oper}{o:Oper}{b:Bool}(h:QI all o env b){fr ro:Nat->Prop}{σ:Sig}{a:Act}{w:World}(r:Rel fr ro σ H env N a w):
  Region.wanted o (yielded all a.tmps)=b:=by
 unfold QI at h;unfold Region.wanted;cases i:o.guard with
 |none=>grind
 |some g=>
  rw[i]at h;obtain⟨d,k,⟨x,f,j⟩|⟨f,j⟩⟩:=h
  .have e:=r.env d;rw[f]at e;simp only[VR]at e;have m:a.tmps[d]?=some (.bool x):=by
    rw[Array.getD_eq_getD_getElem?]at e
    grind[undef]
   simp_all[yielded]
  .have e:=r.env d;rw[f]at e;obtain⟨l,e,n⟩:=e;rw[Array.getD_eq_getD_getElem?]at e;simp[yielded,k]
   grind
def OpV(P:Program)(o:Oper)(env:Env)(H:Qd)(x:A):Prop:=
 ∀fr ro σ N a w,Rel fr ro σ H env N a w->∃v,(execOp a.eval o).run P w=.ok (.value v) w/\VR ro σ w x v
def OpH(P:Program)(o:Oper)(env:Env)(H:Qd)(x:A)(H':Qd):Prop:=
 ∀fr ro σ N a w,Rel fr ro σ H env N a w->∃v w' ro' τ,(execOp a.eval o).run P w=.ok (.value v) w'/\VR ro' (σ++τ) w' x v/\
  Sim fr ro' (σ++τ) H' w'/\Qm fr ro w ro' w'
def OpU(P:Program)(o:Oper)(env:Env)(H:Qd)(H':Qd):Prop:=
 ∀fr ro σ N a w,Rel fr ro σ H env N a w->∃w' ro' τ,(execOp a.eval o).run P w=.ok .skip w'/\
  Sim fr ro' (σ++τ) H' w'/\Qm fr ro w ro' w'
theorem WO.nil{all:Array Oper}(h:Q .normal env H):WO P h0 N all [] env H Q:=
 λrd fr ro σ a w r hrd=>⟨_,env,H,ro,σ,fr,rfl,h,r,Qm.refl _ _ _,rfl,rfl,Grow.refl _ _ _⟩
theorem QR{σ τ:Sig}{a:Nat}(h:a<=σ.length):(σ++τ).take a=σ.take a:=by
 grind
theorem Qh9{all:Array Oper}{o:Oper}{l:List Oper}{d:Nat}{x:A}(y:h0<=H.length)(hg:QI all o env true)(m:o.dst=some d)(E:Nat.blt d N=true)
  (h:OpH P o env H x H')(k:WO P h0 N all l (up env d x) H' Q):WO P h0 N all (o::l) env H Q:=by
 intro n fr u σ a w r hrd;obtain⟨v,j,f,τ,B,t,z,g⟩:=h fr u σ N a w r;refine Qaa (YM hg r) B ?_;simp[m];have i:d<N:=by simp_all
 have p:Rel fr f (σ++τ) H' (up env d x) N {a with tmps:=a.tmps.setIfInBounds d v} j:=
  ⟨z,VR.up (fr:=fr) (λs=>(r.env s).mono (g.ext σ τ)) (by rw[r.size];exact i) t,by simpa using r.size,r.defers.keep g⟩
 refine Yo (λe a w q=>q.step g (QR ?_)) _ _ _ (k n fr f (σ++τ) _ j p (hrd.to g λ_ q=>q));rw[r.sim.len];exact y
theorem Y8{all:Array Oper}{o:Oper}{l:List Oper}{d:Nat}{x:A}(hg:QI all o env true)(h:o.dst=some d)(n:Nat.blt d N=true)
  (e:OpV P o env H x)(k:WO P h0 N all l (up env d x) H Q):WO P h0 N all (o::l) env H Q:=by
 intro i fr g σ a w r hrd;obtain⟨v,m,j⟩:=e fr g σ N a w r;refine Qaa (YM hg r) m ?_;simp[h];have f:d<N:=by simp_all
 exact k i fr g σ {a with tmps:=a.tmps.setIfInBounds d v} w ⟨r.sim,VR.up (fr:=fr) r.env (by rw[r.size];exact f) j,by simpa using r.size,r.defers⟩ hrd
theorem Qlt{all:Array Oper}{o:Oper}{l:List Oper}(t:h0<=H.length)(hg:QI all o env true)(j:o.dst=none)
  (h:OpU P o env H H')(k:WO P h0 N all l env H' Q):WO P h0 N all (o::l) env H Q:=by
 intro m g p σ a w r hrd;obtain⟨i,d,τ,x,u,f⟩:=h g p σ N a w r;refine Qkb (YM hg r) x ?_;simp[j];have n:Rel g d (σ++τ) H' env N a i:=⟨u,λs=>(r.env s).mono (f.ext σ τ),r.size,r.defers.keep f⟩;refine Yo (λe a w q=>q.step f (QR ?_)) _ _ _ (k m g d (σ++τ) _ i n (hrd.to f λ_ q=>q));rw[r.sim.len];exact t
theorem WO.skip{all:Array Oper}{o:Oper}{l:List Oper}{d:Nat}(hg:QI all o env false)(f:o.dst=some d)(i:Nat.blt d N=true)
  (k:WO P h0 N all l (up env d (.tup [])) H Q):WO P h0 N all (o::l) env H Q:=by
 intro g fr h σ a w r hrd;unfold wpL wpListIn;rw[YM hg r,Vr (by simp)];refine⟨λ_ _=>trivial,?_⟩;simp[f];have e:d<N:=by simp_all
 exact k g fr h σ {a with tmps:=a.tmps.setIfInBounds d undef} w ⟨r.sim,VR.up (fr:=fr) r.env (by rw[r.size];exact e) ⟨[],rfl,rfl⟩,by simpa using r.size,r.defers⟩ hrd
theorem TC.region{id:Nat}{l:List Oper}(h:WO P h0 N l.toArray l env H Q):TC P h0 N (.region id l.toArray false) env H Q:=
 λrd fr ro σ a w r hrd=>Code.wpIn_mono (λe a w q=>q.postW) (wpIn_region_lit (h rd fr ro σ a w r hrd))
end
mutual
def YK(ρ:Nat->Nat):A->A
 |.ptr i off=>.ptr (ρ i) off
 |.osl i o n k=>.osl (ρ i) o n k
 |.agg cs=>.agg (Qak ρ cs)
 |.fn f a c=>.fn f (Qak ρ a) (Qak ρ c)
 |.iface t v=>.iface t (YK ρ v)
 |.map i=>.map (ρ i)
 |.tup vs=>.tup (Qak ρ vs)
 |a=>a
def Qak(ρ:Nat->Nat):List A->List A
 |[]=>[]
 |a::r=>YK ρ a::Qak ρ r
end
def Qe7(ρ:Nat->Nat):List (List A)->List (List A)
 |[]=>[]
 |a::r=>Qak ρ a::Qe7 ρ r
def renP(ρ:Nat->Nat):List (A×A)->List (A×A)
 |[]=>[]
 |a::r=>(YK ρ a.1,YK ρ a.2)::renP ρ r
def QZ(ρ:Nat->Nat):Blk->Blk
 |.cells t cs=>.cells t (Qak ρ cs)
 |.rowr t k es=>.rowr t k (Qe7 ρ es)
 |.ents t b1 b2 es=>.ents t (ρ b1) (ρ b2) es
 |.wins t b n c=>.wins t (ρ b) n c
 |.mapP es=>.mapP (renP ρ es)
 |b=>b
theorem Qfm(ρ:Nat->Nat)(b1 b2:Nat):∀(es:List Ent),Qe7 ρ (es.map (eC b1 b2))=es.map (eC (ρ b1) (ρ b2))
 |[]=>rfl
 |e::es=>by
  have:=Qfm ρ b1 b2 es;simp only[Vj,Qe7,this];congr 1;cases h:e.fl<;>simp[eC,Qak,YK,h]
theorem Qi9(ρ:Nat->Nat)(b n c:Nat):Qe7 ρ (winL b n c)=winL (ρ b) n c:=by
 unfold winL
 induction List.range c with
 |nil=>rfl
 |cons j l a=>simp only[Vj,Qe7,a];rfl
theorem QK(ρ:Nat->Nat)(x:Blk):(QZ ρ x).live=x.live:=by cases x<;>rfl
theorem Qal(ρ:Nat->Nat)(x:Blk)(w:World)(b c:Nat):Hid w (QZ ρ x) b c↔Hid w x b c:=by cases x<;>exact Iff.rfl
section
variable {ro:Nat->Prop} {σ σ':Sig} {w:World} {ρ:Nat->Nat} (h:∀i:Nat,σ[ρ i]?=σ'[i]?)
include h
mutual
theorem Qcu:∀{a:A} {v:Value},VR ro σ w (YK ρ a) v↔VR ro σ' w a v
 |.any,_=>by simp only[YK,VR]
 |.bool b,v=>by simp only[YK,VR]
 |.int k n,v=>by simp only[YK,VR]
 |.str s,v=>by simp only[YK,VR]
 |.nilp,v=>by simp only[YK,VR]
 |.ptr i off,v=>by simp only[YK,VR,h]
 |.rp cs,v=>by simp only[YK,VR]
 |.nils,v=>by simp only[YK,VR]
 |.rsl k es,v=>by simp only[YK,VR]
 |.osl i o n k,v=>by simp only[YK,VR,h]
 |.agg cs,v=>by simp only[YK,VR];exact exists_congr λl=>and_congr_right λ_=>QbX
 |.fn f a c,v=>by simp only[YK,VR];exact exists_congr λl=>exists_congr λl'=>and_congr_right λ_=>and_congr QbX QbX
 |.nilf,v=>by simp only[YK,VR]
 |.iface t a,v=>by simp only[YK,VR];exact exists_congr λl=>and_congr_right λ_=>Qcu
 |.nilif,v=>by simp only[YK,VR]
 |.map i,v=>by simp only[YK,VR,h]
 |.nilm,v=>by simp only[YK,VR]
 |.tup vs,v=>by simp only[YK,VR];exact exists_congr λl=>and_congr_right λ_=>QbX
theorem QbX:∀{az:List A} {l:List Value},LR ro σ w (Qak ρ az) l↔LR ro σ' w az l
 |[],l=>by simp only[Qak,LR]
 |a::r,l=>by
  simp only[Qak,LR];exact exists_congr λv=>exists_congr λl'=>and_congr_right λ_=>and_congr Qcu QbX
end
theorem QlV{b:Nat}:∀{cs:List A} {off:Nat},CR ro σ w b (Qak ρ cs) off↔CR ro σ' w b cs off
 |[],off=>by rfl
 |a::r,off=>by
  simp only[Qak,CR];exact and_congr (exists_congr λv=>and_congr_right λ_=>and_congr_right λ_=>Qcu h) QlV
theorem QbJ:∀(cs:List A),(Qak ρ cs).length=cs.length
 |[]=>rfl
 |a::r=>by simp[Qak,QbJ r]
theorem QnM{b k:Nat}:∀{es:List (List A)} {off:Nat},RR ro σ w b k (Qe7 ρ es) off↔RR ro σ' w b k es off
 |[],off=>by rfl
 |a::r,off=>by
  simp only[Qe7,RR,QbJ h];exact and_congr_right λ_=>and_congr (QlV h) QnM
theorem Qgj{k:Nat}:∀{es:List (List A)} {l:List Value},RL ro σ w k (Qe7 ρ es) l↔RL ro σ' w k es l
 |[],l=>by rfl
 |a::r,l=>by
  simp only[Qe7,RL,QbJ h];exact exists_congr λl1=>exists_congr λl2=>and_congr_right λ_=>and_congr_right λ_=>and_congr (and_congr_left λ_=>QbX h) Qgj
theorem QlP:∀{es:List (A×A)} {l:List MapEntry},ER ro σ w (renP ρ es) l↔ER ro σ' w es l
 |[],l=>by rfl
 |a::r,l=>by
  simp only[renP,ER];exact exists_congr λe=>exists_congr λl'=>and_congr_right λ_=>and_congr (Qcu h) (and_congr (Qcu h) QlP)
theorem Qgu{x:Blk}{s:Option Nat}:BR ro σ w (QZ ρ x) s↔BR ro σ' w x s:=by
 cases x with
 |cells t g=>
  cases s with
  |none=>exact Iff.rfl
  |some b=>simp only[QZ,BR];exact exists_congr λl=>and_congr_right λ_=>and_congr_left λ_=>QbX h
 |rowr t k a=>
  cases s with
  |none=>exact Iff.rfl
  |some b=>simp only[QZ,BR];exact exists_congr λl=>and_congr_right λ_=>Qgj h
 |mapP a=>
  cases s with
  |none=>exact Iff.rfl
  |some b=>simp only[QZ,BR];exact exists_congr λl=>exists_congr λc=>and_congr_right λ_=>and_congr_left λ_=>QlP h
 |wins t b n c=>
  cases s with
  |none=>exact Iff.rfl
  |some d=>
   simp only[QZ,BR];refine exists_congr λl=>and_congr_right λ_=>?_;rw[<- Qi9];exact Qgj h
 |ents t f e a=>
  cases s with
  |none=>exact Iff.rfl
  |some b=>
   simp only[QZ,BR];refine exists_congr λl=>and_congr_right λ_=>?_;rw[<- Qfm];exact Qgj h
 |_=>cases s<;>exact Iff.rfl
end
def C(P:Program)(f:FuncId)(args:List A)(H:Qd)(Q:A->Qd->Prop):Prop:=
 ∀fr ro σ vals w,Sim fr ro σ H w->LR ro σ w args vals->Calls P f vals.toArray w λe w'=>
  ∃v r H' ro' τ,e=.returned v/\Q r H'/\Sim fr ro' (σ++τ) H' w'/\VR ro' (σ++τ) w' r v/\Qm fr ro w ro' w'
theorem C.mono{P:Program}{f:FuncId}{args:List A}{H:Qd}{Q Q':A->Qd->Prop}(h:C P f args H Q)(hq:∀r H,Q r H->Q' r H):C P f args H Q':=
 λfr ro σ vals w s l=>(h fr ro σ vals w s l).mono (by grind)
def Qcg:Nat->List A->Env
 |_,[]=>[]
 |i,a::r=>(i,a)::Qcg (i+1) r
theorem QcH{ro:Nat->Prop}{σ:Sig}{w:World}:∀{args:List A} {vals:List Value} {i:Nat} (pre:List Value),pre.length=i->LR ro σ w args vals->∀rest:Array Value,
  ∀s,VR ro σ w (lk (Qcg i args) s) (((pre++vals).toArray++rest).getD s undef)
 |[],vals,i,pre,hp,hl,rest,s=>trivial
 |a::r,vals,i,pre,hp,hl,rest,s=>by
  simp only[LR]at hl;obtain⟨v,l',rfl,h1,h2⟩:=hl;simp only[Qcg,lk];by_cases e:s=i
  .simp_all[Array.getElem?_append]
  .have:Nat.beq s i=false:=by
    simp_all[VL]
   rw[this];have:=QcH (i:=i+1) (pre++[v]) (by simp[hp]) h2 rest s
   grind
def QbW(P:Program)(fn:Func)(env:Env)(H:Qd)(r:A):Prop:=
 ∀fr ro σ N a w,Rel fr ro σ H env N a w->∃v,(results fn a.tmps).run P w=.ok v w/\VR ro σ w r v
def Jf(P:Program)(h0:Nat)(fn:Func)(Q:A->Qd->Prop):QG
 |.normal,env,H=>∃env' H' r,Le h0 env H env' H'/\QbW P fn env' H' r/\Q r H'
 |.ret,env,H=>∃env' H' r,Le h0 env H env' H'/\QbW P fn env' H' r/\Q r H'
 |.exit _,_,_=>False
theorem LR.length{ro:Nat->Prop}{σ:Sig}{w:World}:∀{az:List A} {l:List Value},LR ro σ w az l->l.length=az.length
 |[],l,h=>by simp only[LR]at h;simp[h]
 |a::r,l,h=>by
  simp only[LR]at h;obtain⟨v,l',rfl,_,h2⟩:=h;simp[h2.length]
theorem Sim.turn{fr ro:Nat->Prop}{σ:Sig}{H:Qd}{w:World}(s:Sim fr ro σ H w){b:Nat}{obj:Obj}(t:¬ro b)(r:¬fr b)(E:∀(i:Nat) (x:Blk),σ[i]?=some (some b)->H[i]?=some x->x.live=true->False)
  (l:∀(i d:Nat) (x:Blk),σ[i]?=some (some d)->H[i]?=some x->Hid w x d b->False)
  (m:∀y,w.shape? b=some y->(w.putObj b obj).shape? b=some y):Sim fr ro σ H (w.putObj b obj)/\Qm fr ro w ro (w.putObj b obj):=by
 have n:∀c,c≠b->(w.putObj b obj).heap[c]?=w.heap[c]? :=λc p=>World.putObj_heap_other p;have a:(w.putObj b obj).heap.size=w.heap.size:=by simp
 have ev:Qm fr ro w ro (w.putObj b obj):=by
  refine⟨λ_ q=>q,(by grind),(by grind),by omega,λc x q=>?_,rfl,rfl,rfl,XT _⟩
  grind[World.shape?]
 have e:Ext ro σ w ro σ (w.putObj b obj):=by have:=ev.ext σ [];grind
 refine⟨⟨s.len,s.roOk.to (λ_ q=>q) ev.keepRo (λc q=>by rw[a];exact s.roLt c q),λc q=>by rw[a];exact s.frLt c q,s.roFr,λi c x g f u=>?_,s.inj,λi y x g f=>?_,
  s.hidTo (· = ·) Yb (by omega) (by simp) (by simp) λj d y h k z=>.inl ⟨j,y,rfl,h,k,id,λc q=>s.hidKeep h k (by grind) ev.keepRo q⟩⟩,ev⟩
 .obtain⟨G,F,B⟩:=s.own i c x g f u
  grind
 .refine(s.blk i y x g f).keep e ?_ ?_
  .grind
  grind
theorem Qaz{P:Program}{fn:Func}{tmps:Array Value}{R:Ending->World->Prop}{fr ro:Nat->Prop}{σ:Sig}{H:Qd}:
  ∀(ds:List Deferred) (w:World),ds.Nodup->(∀d∈ds,∃D,d={target:=.collected D,args:= #[]}/\ ¬ro D/\ ¬fr D/\(∀(i:Nat) (x:Blk),σ[i]?=some (some D)->H[i]?=some x->x.live=true->False)/\(∀(i d:Nat) (x:Blk),σ[i]?=some (some d)->H[i]?=some x->Hid w x d D->False)/\w.heap[D]?=some (.deferred (some [])))->
  Sim fr ro σ H w->(∀w',Sim fr ro σ H w'->Qm fr ro w ro w'->∃v,(results fn tmps).run P w'=.ok v w'/\R (.returned v) w')->LeavesInM Fence.wide 0 P fn tmps R ds .returning w
 |[],w,_,_,s,hk=>by
  obtain⟨v,h1,h2⟩:=hk w s (Qm.refl _ _ _);exact⟨v,h1,h2⟩
 |d::ds,w,hn,hd,s,hk=>by
  obtain⟨D,rfl,h1,h2,h3,h5,h4⟩:=hd d (by simp);obtain⟨n1,n2⟩:=List.nodup_cons.1 hn;obtain⟨s',ev⟩:=s.turn (obj:=.deferred none) h1 h2 h3 h5 (λy q=>by grind[World.shape?]);refine⟨(by simp),.inl ⟨D,_,rfl,run_takeDeferred h4,?_⟩⟩;refine Qaz ds _ n2 (λd' q=>?_) s' (λw' q1 q2=>hk w' q1 (ev.trans q2));obtain⟨D',rfl,g1,g2,g3,g5,g4⟩:=hd d' (by simp[q]);refine⟨D',rfl,g1,g2,g3,λi d x z1 z2 z3=>g5 i d x z1 z2 (s.hidKeep z1 z2 (λz=>World.putObj_heap_other (by grind)) (λb q=>World.putObj_heap_other (λe:b=D=>h1 (e▸q))) z3),(World.putObj_heap_other (λe=>?_)).trans g4⟩
  grind
theorem QV{P:Program}{f:FuncId}{fn:Func}{c:Code}{N:Nat}{args:List A}{H:Qd}{Q:A->Qd->Prop}
  (hf:P.funcs[f]?=some fn)(hb:fn.body=some c)(hN:fn.ntmps=N)(hA:Nat.ble args.length N=true)
  (h:TC P H.length N c (Qcg 0 args) H (Jf P H.length fn Q)):C P f args H Q:=by
 intro fr ro σ vals w hs hl;have W:=hl.length;have aa:args.length<=N:=by simp_all
 refine(callsIn_wide (n:=0)).1 (callsIn_of_wp_marks hf hb trivial (Code.wpIn_mono ?_ (h none fr ro σ _ w ⟨hs,?_,?_,List.nodup_nil,λd l=>by cases l⟩ QaG)))
 .rintro e t k ⟨x,y,H1,B,σ1,F,z,R,h3,h4,h5,G⟩;have u:(∃j H' r,Le H.length y H1 j H'/\QbW P fn j H' r/\Q r H')->LeavesInM Fence.wide 0 P fn t.tmps (λe k=>
    ∃v' r H' a τ,e=.returned v'/\Q r H'/\Sim fr a (σ++τ) H' k/\VR a (σ++τ) k r v'/\Qm fr ro w a k) t.defers .returning k:=by
   rintro⟨j,H',r,L,hr,hq⟩;obtain⟨a,σ',g,m,ht⟩:=L F B σ1 N t k h3;have hσ:σ'=σ++σ'.drop H.length:=by
    have X:σ'.take H.length=σ:=by rw[ht,h5,VH (by rw[hs.len];omega)]
    grind[List.take_append_drop]
   have s1:Sim fr a σ' H' k:=g.sim.frMono G.sub;refine Qaz (ro:=a) (fr:=fr) (σ:=σ') (H:=H') t.defers k g.defers.1 (λd l=>?_) s1 (λY s2 p=>?_)
   .obtain⟨D,rfl,_⟩:=(G.ds d l).resolve_left (by simp);obtain⟨O,g2⟩:=g.defers.mark l;refine⟨D,rfl,λq=>g.sim.roFr D q O,λq=>?_,λi x M T E=>(g.sim.own i D x M T E).2.2 O,λi d x M T E=>(g.sim.hid i d x D M T E).fr O,g2⟩;rcases G.ds _ l with V|⟨D',e,V⟩
    .cases V
    .have:D=D':=by simpa using e
     subst this;have:=hs.frLt D q;omega
   .have J:Rel fr a σ' H' j N {t with defers:=[]} Y:=⟨s2,λs=>(g.env s).mono (by have:=p.ext σ' [];grind),g.size,List.nodup_nil,λd l=>by cases l⟩;obtain⟨v,X,e2⟩:=hr fr a σ' N _ Y J;exact⟨v,X,v,r,H',a,σ'.drop H.length,rfl,hq,hσ▸s2,hσ▸e2,(h4.trans (Q4 m)).trans p⟩
  cases e with
  |normal=>
   obtain rfl:x=.normal:=z;exact u R
  |ret=>
   obtain rfl:x=.ret:=z;exact u R
  |exit id=>
   obtain rfl:x=.exit id:=z;exact R.elim
  |_=>exact z.elim
 .intro s;have:=QcH (i:=0) [] rfl hl (Array.replicate (fn.ntmps-vals.toArray.size) undef) s
  grind
 grind
section
variable {P:Program} {fn:Func} {env:Env} {H:Qd}
theorem QbW.nil(h:fn.results= #[]):QbW P fn env H (.tup []):=
 λfr ro σ N a w r=>⟨.tuple #[],by simp[results,h,go_sem],[],rfl,rfl⟩
theorem QbW.one{t:Nat}{x:A}(h:fn.results= #[.tmp t])(hx:lk env t=x):QbW P fn env H x:=
 λfr ro σ N a w r=>⟨a.tmps.getD t undef,by simp[results,h,go_sem],hx▸r.env t⟩
theorem QjO{t u:Nat}{x y:A}(h:fn.results= #[.tmp t,.tmp u])(hx:lk env t=x)(hy:lk env u=y):QbW P fn env H (.tup [x,y]):=
 λfr ro σ N a w r=>⟨.tuple #[a.tmps.getD t undef,a.tmps.getD u undef],by simp[results,h,go_sem],
  [_,_],rfl,_,_,rfl,hx▸r.env t,_,_,rfl,hy▸r.env u,rfl⟩
end
inductive Ctl (S B:Type) where
 |cont (s:S)
 |done (b:B)
 deriving DecidableEq
def iter{S B:Type}(step:S->Option (Ctl S B)):Nat->S->Option B
 |0,_=>none
 |n+1,s=>match step s with
  |some (.cont s')=>iter step n s'
  |some (.done b)=>some b
  |none=>none
def Qbh{S B:Type}(I:S->Env->Qd->Prop)(d:Ctl S B)(Q:QG):QG
 |.normal,env,H=>∃s,d=.cont s/\I s env H
 |.exit id,env,H=>(∃b,d=.done b)/\Q (.exit id) env H
 |.ret,env,H=>(∃b,d=.done b)/\Q .ret env H
theorem QlA{P:Program}{h0 N:Nat}{c:Code}{S B:Type}{step:S->Option (Ctl S B)}{I:S->Env->Qd->Prop}{Q:QG}{G:B}
  (y:∀s d env H,I s env H->step s=some d->(∀b,d=.done b->b=G)->TC P h0 N c env H (Qbh I d Q))
  {m:Nat}{s0:S}(h:iter step m s0=some G){env:Env}{H:Qd}(J:I s0 env H):TC P h0 N (.loop c) env H Q:=by
 intro W t E σ a w r hrd b k cs hro hb hr;have L:∀m s env H fr1 ro1 σ1 a1 w1,iter step m s=some G->I s env H->Rel fr1 ro1 σ1 H env N a1 w1->Qm t E w ro1 w1->σ1.take h0=σ.take h0->Grow t w a.defers fr1 a1.defers->
   ∃e i j,Qat h0 t E σ w N a.defers Q e i j/\ArrivesIn (Machine.fenced P (WF W)) P (lone (b.atR a1 (.code c::.inLoop c::k)) cs w1) b k cs e i j:=by
  intro m
  induction m with
  |zero=>grind[iter]
  |succ m ih=>
   intro s env H fr1 ro1 σ1 a1 w1 hit J r1 ev1 t1 g1;simp only[iter]at hit;cases V:step s with
   |none=>grind
   |some d=>
    rw[V]at hit;have hd:∀b,d=.done b->b=G:=by
     grind
    obtain⟨e,i,j,M,f⟩:=y s d env H J V hd W fr1 ro1 σ1 a1 w1 r1 (hrd.to ev1 g1.sub) b (.inLoop c::k) cs hro hb hr;obtain⟨x,g,H',n,σ',u,F,z,T,q4,R,q6⟩:=M;have p:=ev1.trans (q4.frMono g1.sub);have X:=g1.trans ev1.size q6;have Y:∀x,Q x g H'->ExR e x->Qat h0 t E σ w N a.defers Q e i j:=λx q q'=>⟨x,g,H',n,σ',u,q',q,T,p,R.trans t1,X⟩;cases e with
    |normal=>
     obtain rfl:x=.normal:=F;obtain⟨s',rfl,z⟩:=z;obtain⟨e2,a2,w2,O,l⟩:=ih s' g H' u n σ' i j hit z T p (R.trans t1) X;exact⟨e2,a2,w2,O,.of_steps (StepsIn.trans f (.one (fenced_calm hb hr rfl) stepR_inLoop)) l⟩
    |exit id=>
     obtain rfl:x=.exit id:=F;exact⟨_,i,j,Y _ z.2 rfl,.pass (x:=.inLoop c) rfl (by simp) f⟩
    |ret=>
     obtain rfl:x=.ret:=F;exact⟨_,i,j,Y _ z.2 rfl,.pass (x:=.inLoop c) rfl (by simp) f⟩
    |_=>exact F.elim
 obtain⟨e,i,j,M,f⟩:=L m s0 env H t E σ a w h J r (Qm.refl _ _ _) rfl (Grow.refl _ _ _);exact⟨e,i,j,M,.of_steps (.one (fenced_calm hb hr rfl) stepR_loop) f⟩
theorem TC.loop{P:Program}{h0 N:Nat}{c:Code}{S B:Type}{step:S->Option (Ctl S B)}(E:S->Env)(Hp:S->Qd){Q:QG}
  {m:Nat}{s0:S}{b0:B}(h:iter step m s0=some b0){env:Env}{H:Qd}(hI:Le h0 env H (E s0) (Hp s0))
  (body:∀s d,step s=some d->(∀b,d=.done b->b=b0)->TC P h0 N c (E s) (Hp s) (Qbh (λs env H=>Le h0 env H (E s) (Hp s)) d Q)):TC P h0 N (.loop c) env H Q:=
 QlA (I:=λs env H=>Le h0 env H (E s) (Hp s)) (λs d env H hI hs hd=>TC.le hI (body s d hs hd)) h hI
def rho(π:List Nat)(n i:Nat):Nat:=
 match π[i]? with
 |some p=>p
 |none=>n+(i-π.length)
def QW:Qd->List Nat->List Blk->Qd
 |H,[],xs=>H++xs
 |H,p::π,x::xs=>QW (H.set p x) π xs
 |H,_::_,[]=>H
theorem Qcb:∀(π:List Nat) (H:Qd) (xs:List Blk),π.length<=xs.length->(QW H π xs).length=H.length+(xs.length-π.length)
 |[],H,xs,_=>by simp[QW]
 |p::π,H,[],h=>by simp at h
 |p::π,H,x::xs,h=>by
  simp[X0]at h;simp only[QW,Qcb π (H.set p x) xs (by omega),X4,X0];omega
theorem Qcl:∀(π:List Nat) (H:Qd) (xs:List Blk) (i:Nat),i<H.length->i∉π->(QW H π xs)[i]?=H[i]?
 |[],H,xs,i,hi,_=>by simp[QW,XM hi]
 |p::π,H,[],i,hi,h=>by simp[QW]
 |p::π,H,x::xs,i,hi,h=>by
  simp[X6,not_or]at h;simp[QW];rw[Qcl π (H.set p x) xs i (by grind) h.2,XP (λe=>h.1 e.symm)]
theorem Qea:∀(π:List Nat) (H:Qd) (xs:List Blk) (j:Nat),π.length<=xs.length->(∀p∈π,p<H.length)->π.Nodup->
  (QW H π xs)[rho π H.length j]?=xs[j]?
 |[],H,xs,j,_,_,_=>by
  simp_all[QW,rho,XN]
 |p::π,H,[],j,h,_,_=>by simp at h
 |p::π,H,x::xs,j,h,hp,hn=>by
  simp[X0]at h;have hn':=List.nodup_cons.1 hn;simp[QW];cases j with
  |zero=>
   grind[rho,Qcl]
  |succ j=>
   have ih:=Qea π (H.set p x) xs j (by omega) (λq hq=>by grind) hn'.2;have e:rho (p::π) H.length (j+1)=rho π H.length j:=by
    simp only[rho,X0];simp
   grind
theorem Qi8(π:List Nat)(n i:Nat)(hi:n<=i\/i∈π):∃j,i=rho π n j:=by
 rcases hi with hi|hi
 .refine⟨π.length+(i-n),?_⟩
  grind[rho]
 .obtain⟨j,a,rfl⟩:=List.mem_iff_getElem.1 hi;exact⟨j,by simp[rho,XK a]⟩
def YB(σ:Sig)(π:List Nat):Sig:=π.map λp=>(σ[p]?).getD none
theorem QdP{σ τ:Sig}{π:List Nat}{n:Nat}(a:σ.length=n)(d:∀p∈π,p<n)(j:Nat):(σ++τ)[rho π n j]?=(YB σ π++τ)[j]? :=by
 rcases(by omega)with h|h
 .grind[rho,YB]
 grind[rho,YB]
def OpC(P:Program)(o:Oper)(env:Env)(H:Qd)(f:FuncId)(args:List A):Prop:=
 ∀fr ro σ N a w,Rel fr ro σ H env N a w->∃vals:List Value,(execOp a.eval o).run P w=.ok (.enter f vals.toArray) w/\LR ro σ w args vals
theorem Jd{π:List Nat}{H:Qd}{Hc:List Blk}(a:π.map (λp=>H[p]?)=Hc.map some){p:Nat}(d:p∈π):p<H.length:=by
 grind[List.mem_map_of_mem]
theorem WO.call{P:Program}{h0 N:Nat}{all:Array Oper}{o:Oper}{l:List Oper}{env:Env}{H:Qd}{Q:QG}{d:Option Nat}{f:FuncId}
  {args ab:List A}{Hc:Qd}{Qr:A->Qd->Prop}(π:List Nat)(hh:h0<=H.length)(hg:QI all o env true)(hd:o.dst=d)(hN:∀x,d=some x->x<N)
  (aq:OpC P o env H f args)(hargs:args=Qak (rho π H.length) ab)(hH:π.map (λp=>H[p]?)=(Hc.map (QZ (rho π H.length))).map some)(hπ:π.Nodup)
  (hC:C P f ab Hc Qr)
  (k:∀r H1,Qr r H1->WO P h0 N all l (match d with|some d=>up env d (YK (rho π H.length) r)|none=>env) (QW H π (H1.map (QZ (rho π H.length)))) Q):
  WO P h0 N all (o::l) env H Q:=by
 intro rd fr ro σ a w r hrd;obtain⟨ah,h1,h2⟩:=aq fr ro σ N a w r;refine Qfc (YM hg r) h1 ?_;have hp:∀p∈π,p<H.length:=λp q=>Jd hH q;have hσl:=r.sim.len;have aa:∀(j p:Nat),π[j]?=some p->H[p]?=(Hc[j]?).map (QZ (rho π H.length)):=by
  intro j p M;have:=congrArg (λl=>l[j]?) hH;simp only[Xo,M,Xj]at this;cases e:Hc[j]? with
  |none=>rw[e]at this;simp at this
  |some x=>rw[e]at this;simpa using this
 have ak:π.length=Hc.length:=by simpa using congrArg List.length hH
 have hσc:∀j:Nat,σ[rho π H.length j]?=(YB σ π)[j]? :=by
  intro j;have:=QdP (τ:=[]) hσl hp j;simpa using this
 let frc:Nat->Prop:=λb=>fr b\/(∃i x,σ[i]?=some (some b)/\H[i]?=some x/\x.live=true/\i∉π)\/ ∃i x d,σ[i]?=some (some d)/\H[i]?=some x/\Hid w x d b/\i∉π
 have hπj:∀(j b:Nat),(YB σ π)[j]?=some (some b)->∃p,π[j]?=some p/\σ[p]?=some (some b):=by
  intro j b M;simp only[YB,Xo]at M;cases e:π[j]? with
  |none=>rw[e]at M;simp at M
  |some p=>
   rw[e]at M;simp at M;refine⟨p,rfl,?_⟩;cases e2:σ[p]? with
   |none=>rw[e2]at M;simp at M
   |some s=>rw[e2]at M;simp at M;rw[M]
 have hπi:∀(i j p:Nat),π[i]?=some p->π[j]?=some p->i=j:=by
  intro i j p T R;have hi:i<π.length:=by
   rcases VB i π.length with q|q
   .exact q
   .rw[XO q]at T;simp at T
  have M:j<π.length:=by
   rcases VB j π.length with q|q
   .exact q
   .rw[XO q]at R;simp at R
  rw[XK hi]at T;rw[XK M]at R;have ad:=(XZ T).trans (XZ R).symm;rcases Nat.lt_trichotomy i j with q|q|q
  .exact(VD.1 hπ i j hi M q ad).elim
  .exact q
  .exact(VD.1 hπ j i M hi q ad.symm).elim
 have aj:Sim frc ro (YB σ π) Hc w:=by
  refine⟨by simp[YB,ak],r.sim.roOk,?_,?_,?_,?_,?_,?_⟩
  .rintro b (hb|⟨i,x,h,g,m,J⟩|⟨i,x,d,h,g,m,J⟩)
   .exact r.sim.frLt b hb
   .exact(r.sim.own i b x h g m).1
   .exact(r.sim.hid i d x b h g m).lt
  .rintro b hb (hf|⟨i,x,h,g,m,J⟩|⟨i,x,d,h,g,m,J⟩)
   .exact r.sim.roFr b hb hf
   .exact(r.sim.own i b x h g m).2.1 hb
   .exact(r.sim.hid i d x b h g m).ro hb
  .intro j b x h g m;obtain⟨p,T,e2⟩:=hπj j b h;have e3:H[p]?=some (QZ (rho π H.length) x):=by rw[aa j p T,g];rfl
   obtain⟨o1,o2,o3⟩:=r.sim.own p b _ e2 e3 (by rw[QK];exact m);refine⟨o1,o2,?_⟩;rintro(hf|⟨i,y,y1,y2,y3,y4⟩|⟨i,y,d,y1,y2,y3,y4⟩)
   .exact o3 hf
   .have:=r.sim.inj i p b _ _ y1 e2 y2 e3 y3 (by rw[QK];exact m);subst this;exact y4 (VG T)
   .exact(r.sim.hid i d y b y1 y2 y3).ne p b _ e2 e3 (by rw[QK];exact m) rfl
  .intro i j b x y h g m J X q6;obtain⟨p,T,e2⟩:=hπj i b h;obtain⟨p',R,an⟩:=hπj j b g;have e3:H[p]?=some (QZ (rho π H.length) x):=by rw[aa i p T,m];rfl
   have am:H[p']?=some (QZ (rho π H.length) y):=by rw[aa j p' R,J];rfl
   have:=r.sim.inj p p' b _ _ e2 an e3 am (by rw[QK];exact X) (by rw[QK];exact q6);subst this;have hi:i<π.length:=by
    rcases VB i π.length with q|q
    .exact q
    .rw[XO q]at T;simp at T
   have M:j<π.length:=by
    rcases VB j π.length with q|q
    .exact q
    .rw[XO q]at R;simp at R
   rw[XK hi]at T;rw[XK M]at R;have ad:=(XZ T).trans (XZ R).symm;rcases Nat.lt_trichotomy i j with q|q|q
   .exact(VD.1 hπ i j hi M q ad).elim
   .exact q
   .exact(VD.1 hπ j i M hi q ad.symm).elim
  .intro j s x h g;have M:j<π.length:=by
    rcases VB j π.length with q|q
    .exact q
    .rw[XO (by simpa[YB]using q)]at h;simp at h
   have T:π[j]?=some π[j]:=XK M;have e3:H[π[j]]?=some (QZ (rho π H.length) x):=by rw[aa j _ T,g];rfl
   have e2:σ[π[j]]?=some s:=by
    have:=hσc j;rw[h]at this;simpa[rho,T]using this
   exact(Qgu hσc).1 (r.sim.blk _ s _ e2 e3)
  .intro j b x c h g m;obtain⟨p,T,e2⟩:=hπj j b h;have e3:H[p]?=some (QZ (rho π H.length) x):=by rw[aa j p T,g];rfl
   have k:=r.sim.hid p b _ c e2 e3 ((Qal _ _ _ _ _).2 m);refine⟨k.lt,k.ro,?_,?_,?_⟩
   .rintro(hf|⟨i,y,y1,y2,y3,y4⟩|⟨i,y,d,y1,y2,y3,y4⟩)
    .exact k.fr hf
    .exact k.ne i c y y1 y2 y3 rfl
    .obtain⟨rfl,rfl⟩:=k.one i d y y1 y2 y3;exact y4 (VG T)
   .intro O b' y L n Y;obtain⟨p',f1,f2⟩:=hπj O b' L;exact k.ne p' b' _ f2 (show H[p']?=some (QZ (rho π H.length) y)by rw[aa O p' f1,n];rfl) (by rw[QK];exact Y)
   .intro O b' y L n Y;obtain⟨p',f1,f2⟩:=hπj O b' L;obtain⟨z4,z5⟩:=k.one p' b' _ f2 (show H[p']?=some (QZ (rho π H.length) y)by rw[aa O p' f1,n];rfl) ((Qal _ _ _ _ _).2 Y);subst z5;exact⟨z4,hπi O j p' f1 T⟩
 have ag:LR ro (YB σ π) w ab ah:=(QbX hσc).1 (hargs▸h2);refine Calls.mono (hC frc ro (YB σ π) ah w aj ag) ?_;rintro e w' ⟨v,rr,H1,ac,τ,rfl,hq,sc,hv,ev⟩;have hσ':∀j:Nat,(σ++τ)[rho π H.length j]?=(YB σ π++τ)[j]? :=λj=>QdP hσl hp j;have au:H1.length=π.length+τ.length:=by rw[<- sc.len];simp[YB]
 have al:π.length<=(H1.map (QZ (rho π H.length))).length:=by simp;omega
 have V:Qm fr ro w ac w':=⟨ev.sub,ev.keepRo,λb q=>ev.keepFr b (.inl q),ev.size,ev.shape,ev.os,ev.tape,ev.output,ev.drawn⟩;have F:∀j,(QW H π (H1.map (QZ (rho π H.length))))[rho π H.length j]?=(H1[j]?).map (QZ (rho π H.length)):=by
  intro j;rw[Qea π H _ j al hp hπ];simp
 have B:∀i,i<H.length->i∉π->(QW H π (H1.map (QZ (rho π H.length))))[i]?=H[i]? :=λi=>Qcl π H _ i;have t:∀i:Nat,(∃j,i=rho π H.length j)\/(i<H.length/\i∉π):=by
  intro i;by_cases q:H.length<=i\/i∈π
  .exact .inl (Qi8 π H.length i q)
  .simp only[not_or]at q;exact .inr ⟨by omega,q.2⟩
 have G:∀i b x,i<H.length->i∉π->σ[i]?=some (some b)->H[i]?=some x->x.live=true->frc b:=λi b x h g m J X=>.inr (.inl ⟨i,x,m,J,X,g⟩);have af:∀i b x c,i<H.length->i∉π->σ[i]?=some (some b)->H[i]?=some x->Hid w' x b c->Hid w x b c/\frc c:=λi b x c h g m J X=>
  have q6:=r.sim.hidKeep m J (λz=>ev.keepFr b (G i b x h g m J z)) ev.keepRo X
  ⟨q6,.inr (.inr ⟨i,x,b,m,J,q6,g⟩)⟩
 have ai:Sim fr ac (σ++τ) (QW H π (H1.map (QZ (rho π H.length)))) w':=by
  refine⟨?_,sc.roOk,λb q=>sc.frLt b (.inl q),λb q q'=>sc.roFr b q (.inl q'),?_,?_,?_,?_⟩
  .rw[Qcb _ _ _ al];simp[hσl,au]
  .intro i b x h g m;rcases t i with⟨j,rfl⟩|⟨c1,c2⟩
   .rw[hσ']at h;rw[F]at g;cases e:H1[j]? with
    |none=>rw[e]at g;simp at g
    |some y=>
     rw[e]at g;simp at g;subst g;obtain⟨o1,o2,o3⟩:=sc.own j b y h e (by rw[QK]at m;exact m);exact⟨o1,o2,λq=>o3 (.inl q)⟩
   .rw[B i c1 c2]at g;rw[XM (by omega)]at h;obtain⟨o1,o2,o3⟩:=r.sim.own i b x h g m;exact⟨Vf o1 ev.size,λq=>sc.roFr b q (G i b x c1 c2 h g m),o3⟩
  .intro i E b x y h g m J X q6;have ae:∀(i E:Nat) (x y:Blk),(∃j,i=rho π H.length j)->(E<H.length/\E∉π)->(σ++τ)[i]?=some (some b)->(σ++τ)[E]?=some (some b)->
     (QW H π (H1.map (QZ (rho π H.length))))[i]?=some x->(QW H π (H1.map (QZ (rho π H.length))))[E]?=some y->x.live=true->y.live=true->False:=by
    rintro i E x y ⟨j,rfl⟩ ⟨c1,c2⟩ h g m J X q6;rw[hσ']at h;rw[F]at m;rw[B E c1 c2]at J;rw[XM (by omega)]at g;cases e:H1[j]? with
    |none=>rw[e]at m;simp at m
    |some z=>
     rw[e]at m;simp at m;subst m;exact(sc.own j b z h e (by rw[QK]at X;exact X)).2.2 (G E b y c1 c2 g J q6)
   rcases t i with ci|ci<;>rcases t E with ci'|ci'
   .obtain⟨j,rfl⟩:=ci;obtain⟨O,rfl⟩:=ci';rw[hσ']at h g;rw[F]at m J;cases e:H1[j]? with
    |none=>rw[e]at m;simp at m
    |some z=>
     cases W:H1[O]? with
     |none=>rw[W]at J;simp at J
     |some z'=>
      rw[e]at m;simp at m;subst m;rw[W]at J;simp at J;subst J;rw[sc.inj j O b z z' h g e W (by rw[QK]at X;exact X) (by rw[QK]at q6;exact q6)]
   .exact(ae i E x y ci ci' h g m J X q6).elim
   .exact(ae E i y x ci' ci g h J m q6 X).elim
   .rw[B i ci.1 ci.2]at m;rw[B E ci'.1 ci'.2]at J;rw[XM (by omega)]at h g;exact r.sim.inj i E b x y h g m J X q6
  .intro i s x h g;rcases t i with⟨j,rfl⟩|⟨c1,c2⟩
   .rw[hσ']at h;rw[F]at g;cases e:H1[j]? with
    |none=>rw[e]at g;simp at g
    |some y=>
     rw[e]at g;simp at g;subst g;exact(Qgu hσ').2 (sc.blk j s y h e)
   .rw[B i c1 c2]at g;rw[XM (by omega)]at h;refine BR.keep (V.ext σ τ) ?_ (r.sim.blk i s x h g) ?_
    .rintro b rfl hl;exact ev.keepFr b (G i b x c1 c2 h g hl)
    .rintro b c rfl hl;exact ev.keepFr c (.inr (.inr ⟨i,x,b,h,g,hl,c2⟩))
  .intro i b x c h g m;rcases t i with⟨j,rfl⟩|⟨c1,c2⟩
   .rw[hσ']at h;rw[F]at g;cases e:H1[j]? with
    |none=>rw[e]at g;simp at g
    |some y=>
     rw[e]at g;simp at g;subst g;have k:=sc.hid j b y c h e ((Qal _ _ _ _ _).1 m);refine⟨k.lt,k.ro,λq=>k.fr (.inl q),?_,?_⟩
     .intro E b' y' L n Y;rcases t E with⟨O,rfl⟩|⟨d1,d2⟩
      .rw[hσ']at L;rw[F]at n;cases W:H1[O]? with
       |none=>rw[W]at n;simp at n
       |some u=>
        rw[W]at n;simp at n;subst n;exact k.ne O b' u L W (by rw[QK]at Y;exact Y)
      .rw[B E d1 d2]at n;rw[XM (by omega)]at L;rintro rfl;exact k.fr (G E c y' d1 d2 L n Y)
     .intro E b' y' L n Y;rcases t E with⟨O,rfl⟩|⟨d1,d2⟩
      .rw[hσ']at L;rw[F]at n;cases W:H1[O]? with
       |none=>rw[W]at n;simp at n
       |some u=>
        rw[W]at n;simp at n;subst n;obtain⟨z4,rfl⟩:=k.one O b' u L W ((Qal _ _ _ _ _).1 Y);exact⟨z4,rfl⟩
      .rw[B E d1 d2]at n;rw[XM (by omega)]at L;exact(k.fr (af E b' y' c d1 d2 L n Y).2).elim
   .rw[B i c1 c2]at g;rw[XM (by omega)]at h;obtain⟨J,X⟩:=af i b x c c1 c2 h g m;have k:=r.sim.hid i b x c h g J;refine⟨Vf k.lt ev.size,λq=>sc.roFr c q X,k.fr,?_,?_⟩
    .intro E b' y' L n Y;rcases t E with⟨O,rfl⟩|⟨d1,d2⟩
     .rw[hσ']at L;rw[F]at n;cases W:H1[O]? with
      |none=>rw[W]at n;simp at n
      |some u=>
       rw[W]at n;simp at n;subst n;rintro rfl;exact(sc.own O c u L W (by rw[QK]at Y;exact Y)).2.2 X
     .rw[B E d1 d2]at n;rw[XM (by omega)]at L;exact k.ne E b' y' L n Y
    .intro E b' y' L n Y;rcases t E with⟨O,rfl⟩|⟨d1,d2⟩
     .rw[hσ']at L;rw[F]at n;cases W:H1[O]? with
      |none=>rw[W]at n;simp at n
      |some u=>
       rw[W]at n;simp at n;subst n;exact((sc.hid O b' u c L W ((Qal _ _ _ _ _).1 Y)).fr X).elim
     .rw[B E d1 d2]at n;rw[XM (by omega)]at L;exact k.one E b' y' L n (af E b' y' c d1 d2 L n Y).1
 have ar:VR ac (σ++τ) w' (YK (rho π H.length) rr) v:=(Qcu hσ').2 hv;have hk:=k rr H1 hq;cases d with
 |none=>
  simp only[hd,Act.put];have r':Rel fr ac (σ++τ) (QW H π (H1.map (QZ (rho π H.length)))) env N a w':=⟨ai,λs=>(r.env s).mono (V.ext σ τ),r.size,r.defers.keep V⟩;exact⟨_,rfl,Yo (λe a w q=>q.step V (QR (by omega))) _ _ _ (hk rd fr ac (σ++τ) _ w' r' (hrd.to V λ_ q=>q))⟩
 |some d=>
  simp only[hd,Act.put];have ao:=hN d rfl;have r':Rel fr ac (σ++τ) (QW H π (H1.map (QZ (rho π H.length)))) (up env d (YK (rho π H.length) rr)) N {a with tmps:=a.tmps.setIfInBounds d v} w':=
   ⟨ai,VR.up (fr:=fr) (λs=>(r.env s).mono (V.ext σ τ)) (by rw[r.size];exact ao) ar,by simpa using r.size,r.defers.keep V⟩
  exact⟨_,rfl,Yo (λe a w q=>q.step V (QR (by omega))) _ _ _ (hk rd fr ac (σ++τ) _ w' r' (hrd.to V λ_ q=>q))⟩
section
variable {P:Program} {o:Oper} {env:Env} {H:Qd}
theorem QT{fr ro:Nat->Prop}{σ:Sig}{N:Nat}{a:Act}{w:World}(r:Rel fr ro σ H env N a w){x:Operand}{k:IntKind}{n:Int}(h:opA env x=.int k n):a.eval x=.int k n:=by
 have:=Qs r x;rw[h]at this;exact this
theorem QcD{fr ro:Nat->Prop}{σ:Sig}{N:Nat}{a:Act}{w:World}(r:Rel fr ro σ H env N a w){x:Operand}{b:Bool}(h:opA env x=.bool b):a.eval x=.bool b:=by
 have:=Qs r x;rw[h]at this;exact this
theorem QdS{fr ro:Nat->Prop}{σ:Sig}{N:Nat}{a:Act}{w:World}(r:Rel fr ro σ H env N a w){x:Operand}{s:List UInt8}(h:opA env x=.str s):a.eval x=.string ⟨s.toArray⟩:=by
 have:=Qs r x;rw[h]at this;exact this
theorem OpV.move{x:Operand}{v:A}(ho:o.op=.move x)(hx:opA env x=v):OpV P o env H v:=
 λfr ro σ N a w r=>⟨a.eval x,by simp[execOp,ho],hx▸Qs r x⟩
theorem OpV.assign{x:Operand}{v:A}(ho:o.op=.assign x)(hx:opA env x=v):OpV P o env H v:=
 λfr ro σ N a w r=>⟨a.eval x,by simp[execOp,ho],hx▸Qs r x⟩
theorem OpV.pick{c x y:Operand}{b:Bool}{v:A}(g:o.op=.pick c x y)(d:opA env c=.bool b)(e:(if b then opA env x else opA env y)=v):OpV P o env H v:=by
 intro h i σ N a w r;have f:=QcD r d;refine⟨if b then a.eval x else a.eval y,by simp_all[execOp,asBool],?_⟩
 grind[Qs]
theorem OpV.add{t u:TypeId}{x y:Operand}{k:IntKind}{m n:Int}(g:o.op=.binOp .add t x y u)(d:opA env x=.int k m)(e:opA env y=.int k n):OpV P o env H (.int k (k.wrap (m+n))):=by
 intro i j σ N a w r;have f:=QT r d;have h:=QT r e;refine⟨_,?_,rfl⟩
 simp_all[execOp,Go.binOp,eqGuard,Op.intArith]
theorem OpV.sub{t u:TypeId}{x y:Operand}{k:IntKind}{m n:Int}(g:o.op=.binOp .sub t x y u)(d:opA env x=.int k m)(e:opA env y=.int k n):OpV P o env H (.int k (k.wrap (m-n))):=by
 intro i j σ N a w r;have f:=QT r d;have h:=QT r e;refine⟨_,?_,rfl⟩
 simp_all[execOp,Go.binOp,eqGuard,Op.intArith]
theorem OpV.mul{t u:TypeId}{x y:Operand}{k:IntKind}{m n:Int}(g:o.op=.binOp .mul t x y u)(d:opA env x=.int k m)(e:opA env y=.int k n):OpV P o env H (.int k (k.wrap (m*n))):=by
 intro i j σ N a w r;have f:=QT r d;have h:=QT r e;refine⟨_,?_,rfl⟩
 simp_all[execOp,Go.binOp,eqGuard,Op.intArith]
theorem Qb8{op:BinOp}{t u:TypeId}{x y:Operand}{k:IntKind}{m n:Int}{f:Int->Int->Bool}(i:o.op=.binOp op t x y u)(e:opA env x=.int k m)(h:opA env y=.int k n)
  (d:op=.eql/\f=(λa b=>a==b)\/op=.neq/\f=(λa b=>a != b)\/op=.lss/\f=(λa b=>decide (a<b))\/op=.leq/\f=(λa b=>decide (a<=b))\/
   op=.gtr/\f=(λa b=>decide (b<a))\/op=.geq/\f=(λa b=>decide (b<=a))):OpV P o env H (.bool (f m n)):=by
 intro l p σ N a w r;have j:=QT r e;have g:=QT r h;refine⟨_,?_,rfl⟩;generalize a.eval=ρ at*;rcases d with⟨rfl,rfl⟩|⟨rfl,rfl⟩|⟨rfl,rfl⟩|⟨rfl,rfl⟩|⟨rfl,rfl⟩|⟨rfl,rfl⟩<;>simp[i,j,g,go_sem]
theorem OpV.eql{t u:TypeId}{x y:Operand}{k:IntKind}{m n:Int}(ho:o.op=.binOp .eql t x y u)(hx:opA env x=.int k m)(hy:opA env y=.int k n):OpV P o env H (.bool (m==n)):=
 Qb8 ho hx hy (by simp)
theorem OpV.neq{t u:TypeId}{x y:Operand}{k:IntKind}{m n:Int}(ho:o.op=.binOp .neq t x y u)(hx:opA env x=.int k m)(hy:opA env y=.int k n):OpV P o env H (.bool (m != n)):=
 Qb8 ho hx hy (by simp)
theorem OpV.lss{t u:TypeId}{x y:Operand}{k:IntKind}{m n:Int}(ho:o.op=.binOp .lss t x y u)(hx:opA env x=.int k m)(hy:opA env y=.int k n):OpV P o env H (.bool (decide (m<n))):=
 Qb8 (f:=λa b=>decide (a<b)) ho hx hy (by simp)
theorem OpV.leq{t u:TypeId}{x y:Operand}{k:IntKind}{m n:Int}(ho:o.op=.binOp .leq t x y u)(hx:opA env x=.int k m)(hy:opA env y=.int k n):OpV P o env H (.bool (decide (m<=n))):=
 Qb8 (f:=λa b=>decide (a<=b)) ho hx hy (by simp)
theorem OpV.gtr{t u:TypeId}{x y:Operand}{k:IntKind}{m n:Int}(ho:o.op=.binOp .gtr t x y u)(hx:opA env x=.int k m)(hy:opA env y=.int k n):OpV P o env H (.bool (decide (n<m))):=
 Qb8 (f:=λa b=>decide (b<a)) ho hx hy (by simp)
theorem OpV.geq{t u:TypeId}{x y:Operand}{k:IntKind}{m n:Int}(ho:o.op=.binOp .geq t x y u)(hx:opA env x=.int k m)(hy:opA env y=.int k n):OpV P o env H (.bool (decide (n<=m))):=
 Qb8 (f:=λa b=>decide (b<=a)) ho hx hy (by simp)
theorem OpV.rem{t u:TypeId}{x y:Operand}{k:IntKind}{m n:Int}(j:o.op=.binOp .rem t x y u)(d:opA env x=.int k m)(e:opA env y=.int k n)(i:n≠0):OpV P o env H (.int k (m.tmod n)):=by
 intro g h σ N a w r;have l:=QT r d;have f:=QT r e;exact⟨_,by simp_all[execOp,Go.binOp,eqGuard,Op.intDiv],rfl⟩
theorem OpV.quo{t u:TypeId}{x y:Operand}{k:IntKind}{m n:Int}(j:o.op=.binOp .quo t x y u)(d:opA env x=.int k m)(e:opA env y=.int k n)(i:n≠0):OpV P o env H (.int k (k.wrap (m.tdiv n))):=by
 intro g h σ N a w r;have l:=QT r d;have f:=QT r e;exact⟨_,by simp_all[execOp,Go.binOp,eqGuard,Op.intDiv],rfl⟩
theorem OpV.not{t:TypeId}{x:Operand}{b:Bool}(f:o.op=.unOp .not t x)(d:opA env x=.bool b):OpV P o env H (.bool !b):=by
 intro g h σ N a w r;have e:=QcD r d;exact⟨_,by simp_all[execOp,Op.unary],rfl⟩
theorem OpV.neg{t:TypeId}{x:Operand}{k:IntKind}{n:Int}(f:o.op=.unOp .neg t x)(d:opA env x=.int k n):OpV P o env H (.int k (k.wrap (0-n))):=by
 intro g h σ N a w r;have e:=QT r d;exact⟨_,by simp_all[execOp,Op.unary,Op.intArith],rfl⟩
theorem Qe1{s t:TypeId}{x:Operand}{k e:IntKind}{n:Int}{f:TypeDesc}(j:o.op=.convert s t x)(l:∀w,(underlying s).run P w=.ok f w)(g:∀w,(underlying t).run P w=.ok (.int k) w)
  (d:opA env x=.int e n):OpV P o env H (.int k (k.wrap n)):=by
 intro h i σ N a w r;have m:=QT r d;refine⟨_,?_,rfl⟩
 simp_all[execOp,convert,Conv.intToInt]
theorem Qdl{op:BinOp}{t u:TypeId}{x y:Operand}{p q:List UInt8}{f:List UInt8->List UInt8->Bool}(k:o.op=.binOp op t x y u)(e:opA env x=.str p)(i:opA env y=.str q)
  (d:op=.eql/\f=(λa b=>a==b)\/op=.neq/\f=(λa b=>a != b)\/op=.lss/\f=Op.bytesLess\/op=.geq/\f=(λa b=> !Op.bytesLess a b)\/
   op=.leq/\f=(λa b=>Op.bytesLess a b||a==b)\/op=.gtr/\f=(λa b=> !(Op.bytesLess a b||a==b))):OpV P o env H (.bool (f p q)):=by
 intro m n σ N a w r;have l:=QdS r e;have h:=QdS r i;refine⟨_,?_,rfl⟩;generalize a.eval=ρ at*;have g:(⟨p.toArray⟩:ByteArray).toList=p:=by simp
 have j:(⟨q.toArray⟩:ByteArray).toList=q:=by simp
 rcases d with⟨rfl,rfl⟩|⟨rfl,rfl⟩|⟨rfl,rfl⟩|⟨rfl,rfl⟩|⟨rfl,rfl⟩|⟨rfl,rfl⟩<;>simp[k,l,h,Go.binOp,Op.stringOp,g,j,go_sem,bne]
theorem QjU{t u:TypeId}{x y:Operand}{p q:List UInt8}(ho:o.op=.binOp .eql t x y u)(hx:opA env x=.str p)(hy:opA env y=.str q):OpV P o env H (.bool (p==q)):=
 Qdl ho hx hy (by simp)
theorem QjR{t u:TypeId}{x y:Operand}{p q:List UInt8}(ho:o.op=.binOp .neq t x y u)(hx:opA env x=.str p)(hy:opA env y=.str q):OpV P o env H (.bool (p != q)):=
 Qdl ho hx hy (by simp)
theorem QjS{t u:TypeId}{x y:Operand}{p q:List UInt8}(ho:o.op=.binOp .lss t x y u)(hx:opA env x=.str p)(hy:opA env y=.str q):OpV P o env H (.bool (Op.bytesLess p q)):=
 Qdl ho hx hy (by simp)
theorem QjT{t:TypeId}{x y:Operand}{s:List UInt8}{k:IntKind}{n:Int}{c:UInt8}(u:o.op=.index t x y)(m:∀w,(underlying t).run P w=.ok .string w)(e:opA env x=.str s)(i:opA env y=.int k n)
  (z:0<=n)(h:s[n.toNat]?=some c):OpV P o env H (.int .u8 c.toNat):=by
 intro p q σ N a w r;have B:=QdS r e;have l:=QT r i;have g:(⟨s.toArray⟩:ByteArray)[n.toNat]?=some c:=by
  obtain⟨d,f⟩:=XL.1 h;have j:(⟨s.toArray⟩:ByteArray).size=s.length:=by rfl
  rw[getElem?_pos _ _ (by exact d)];show some (s.toArray[n.toNat]'(by omega))=some c;simp[f]
 refine⟨_,?_,rfl⟩
 simp_all[execOp,Instr.index,asIntOf]
theorem YV{c:Call}{t:TypeId}{x:Operand}{s:List UInt8}(g:o.op=.call c)(f:c={callee:=.builtin .len,args:= #[x],argTypes:= #[t]})(h:∀w,(underlying t).run P w=.ok .string w)
  (d:opA env x=.str s):OpV P o env H (.int .i64 s.length):=by
 intro i j σ N a w r;have e:=QdS r d;generalize a.eval=ρ at*;subst f;simp[execOp,g,e,resolve,invoke,Builtin.len_,h,goInt,go_sem]<;>rfl
theorem QlE{c:Call}{t e:TypeId}{x:Operand}{k:Nat}{es:List (List A)}(j:o.op=.call c)(i:c={callee:=.builtin .len,args:= #[x],argTypes:= #[t]})(h:∀w,(underlying t).run P w=.ok (.slice e) w)
  (f:opA env x=.rsl k es):OpV P o env H (.int .i64 es.length):=by
 intro l n σ N a w r;have d:=Qs r x;rw[f]at d;obtain⟨m,g,d,_⟩:=d;refine⟨_,?_,rfl⟩;generalize a.eval=ρ at*;subst i;simp[execOp,j,d,resolve,invoke,Builtin.len_,h,goInt,go_sem]
theorem QlF{c:Call}{t e:TypeId}{x:Operand}{i s n k:Nat}(l:o.op=.call c)(j:c={callee:=.builtin .len,args:= #[x],argTypes:= #[t]})(h:∀w,(underlying t).run P w=.ok (.slice e) w)
  (f:opA env x=.osl i s n k):OpV P o env H (.int .i64 n):=by
 intro q y σ N a w r;have d:=Qs r x;rw[f]at d;refine⟨_,?_,rfl⟩;generalize a.eval=ρ at*;subst j;rcases d with⟨rfl,d⟩|⟨b,p,g,u,m,_,d,_⟩<;>
 simp[execOp,l,d,resolve,invoke,Builtin.len_,h,goInt,go_sem]
structure Qai (P:Program) (T f off n:Nat):Prop where
 h:∃fs fd,(∀w,(underlying T).run P w=.ok (.struct fs) w)/\fs[f]?=some fd/\fd.offset=off/\(∀w,(sizeOf fd.type).run P w=.ok n w)/\n≠0
theorem QaO(b a n:Nat):(⟨b,a,none⟩:Addr).add n=⟨b,a+n,none⟩:=by
 simp_all[Addr.add]
theorem Qdr{T f off n b p:Nat}(a:Qai P T f off n)(w:World):(Instr.fieldAt T (.pointer (some ⟨b,p,none⟩)) f).run P w=.ok (.pointer (some ⟨b,p+off,none⟩)) w:=by
 obtain⟨g,j,k,d,rfl,e,i⟩:=a.h
 simp_all[Instr.fieldAt,Instr.sureAddr,fieldPlace,QaO]
theorem Qe0{T f off n i p:Nat}{x:Operand}(j:Qai P T f off n)(g:o.op=.fieldAddr T x f)(e:opA env x=.ptr i p):OpV P o env H (.ptr i (p+off)):=by
 intro l k σ N a w r;have d:=Qs r x;rw[e]at d;obtain⟨b,d,h⟩:=d;refine⟨.pointer (some ⟨b,p+off,none⟩),?_,b,d,rfl⟩;simp only[execOp,g,h,Vm,Qdr j];rfl
theorem CR.drop{ro:Nat->Prop}{σ:Sig}{w:World}{b:Nat}:∀(n:Nat) {cs:List A} {off:Nat},CR ro σ w b cs off->CR ro σ w b (cs.drop n) (off+n)
 |0,_,_,h=>h
 |n+1,[],_,h=>trivial
 |n+1,c::cs,off,h=>by
  have:=CR.drop n h.2
  grind
theorem CR.take{ro:Nat->Prop}{σ:Sig}{w:World}{b:Nat}:∀(n:Nat) {cs:List A} {off:Nat},CR ro σ w b cs off->CR ro σ w b (cs.take n) off
 |0,_,_,h=>trivial
 |n+1,[],_,h=>trivial
 |n+1,c::cs,off,h=>⟨h.1,CR.take n h.2⟩
theorem QeZ{T f off n:Nat}{x:Operand}{h d:List A}(k:Qai P T f off n)(l:o.op=.fieldAddr T x f)(i:opA env x=.rp h)(g:h.drop off=d):OpV P o env H (.rp d):=by
 intro q s σ N a w r;have e:=Qs r x;rw[i]at e;obtain⟨b,p,e,j,m⟩:=e;refine⟨.pointer (some ⟨b,p+off,none⟩),?_,b,p+off,rfl,j,g▸m.drop off⟩;simp only[execOp,l,e,Vm,Qdr k];rfl
theorem RR.get{ro:Nat->Prop}{σ:Sig}{w:World}{b k:Nat}:∀(n:Nat) {es:List (List A)} {off:Nat} {c:List A},RR ro σ w b k es off->es[n]?=some c->c.length=k/\CR ro σ w b c (off+n*k)
 |n,[],_,_,h,hc=>by simp at hc
 |0,e::es,off,c,h,hc=>by
  simp at hc;subst hc;exact⟨h.1,by simpa using h.2.1⟩
 |n+1,e::es,off,c,h,hc=>by
  have:=RR.get n h.2.2 (by simpa using hc)
  grind
theorem QmO{t e:TypeId}{x y:Operand}{k:Nat}{es:List (List A)}{i:IntKind}{n:Int}{c:List A}(F:o.op=.indexAddr t x y)(l:∀w,(underlying t).run P w=.ok (.slice e) w)
  (j:∀w,(sizeOf e).run P w=.ok k w)(h:opA env x=.rsl k es)(z:opA env y=.int i n)(G:0<=n)(m:es[n.toNat]?=some c):OpV P o env H (.rp c):=by
 intro M L σ N a w r;have f:=Qs r x;rw[h]at f;have q:=QT r z;obtain⟨J,s,f,O,B⟩:=f;have g:n.toNat<es.length:=(by grind);rcases B with rfl|⟨b,d,rfl,E,u⟩
 .simp at g
 have p:n<es.length:=by omega
 refine⟨.pointer (some ⟨b,d+n.toNat*k,none⟩),?_,b,d+n.toNat*k,rfl,E,(u.get n.toNat m).2⟩;generalize a.eval=ρ at*;simp[F,f,q,Instr.indexAt,l,j,G,p,go_sem]
theorem QiV{t e:TypeId}{x y:Operand}{i s m k:Nat}{g:IntKind}{n:Int}(E:o.op=.indexAddr t x y)(q:∀w,(underlying t).run P w=.ok (.slice e) w)
  (h:∀w,(sizeOf e).run P w=.ok k w)(f:opA env x=.osl i s m k)(B:opA env y=.int g n)(F:0<=n)(u:n<m):OpV P o env H (.ptr i (s*k+n.toNat*k)):=by
 intro J M σ N a w r;have d:=Qs r x;rw[f]at d;have j:=QT r B;rcases d with⟨rfl,_⟩|⟨b,p,l,L,Q,G,d,z,O,_⟩
 .omega
 obtain rfl:=z (by omega);refine⟨.pointer (some ⟨b,s*k+n.toNat*k,none⟩),?_,b,G,rfl⟩;generalize a.eval=ρ at*;simp[E,d,j,Instr.indexAt,q,h,F,u,go_sem]
def Pts(H:Qd)(p:A)(cs:List A):Prop:=
 ∀fr ro σ w v,Sim fr ro σ H w->VR ro σ w p v->∃b off,v=.pointer (some ⟨b,off,none⟩)/\CR ro σ w b cs off
theorem VR.lift{ro:Nat->Prop}{σ:Sig}{w:World}{a:A}{v:Value}(h:VR ro [] w a v):VR ro σ w a v:=
 h.mono ⟨λ_ q=>q,λ_ _=>rfl,λ_ _ q=>q,(by simp)⟩
theorem CR.lift{ro:Nat->Prop}{σ:Sig}{w:World}{b:Nat}:∀{cs:List A} {off:Nat},CR ro [] w b cs off->CR ro σ w b cs off
 |[],_,_=>trivial
 |c::cs,off,⟨⟨v,h1,hp,h2⟩,h3⟩=>⟨⟨v,h1,hp,h2.lift⟩,CR.lift h3⟩
theorem LR.lift{ro:Nat->Prop}{σ:Sig}{w:World}:∀{cs:List A} {l:List Value},LR ro [] w cs l->LR ro σ w cs l
 |[],_,h=>h
 |c::cs,l,⟨v,l',h1,h2,h3⟩=>⟨v,l',h1,h2.lift,LR.lift h3⟩
theorem Pts.rp{cs:List A}:Pts H (.rp cs) cs:=λfr ro σ w v s ⟨b,off,h1,h2,h3⟩=>⟨b,off,h1,h3.lift⟩
theorem LR.cells{ro:Nat->Prop}{σ:Sig}{w:World}{b t:Nat}{fz:Nat×Nat}{pre l:List Value}(e:w.heap[b]?=some (.cells (pre++l).toArray t fz))(d:∀v∈l,Qz v):
  ∀{a:List A},LR ro σ w a l->CR ro σ w b a pre.length:=by
 induction l generalizing pre with
 |nil=>
  intro a h;cases a with
  |nil=>trivial
  |cons c a=>obtain⟨v,k,h,_⟩:=h;cases h
 |cons v l i=>
  intro a h;cases a with
  |nil=>trivial
  |cons c a=>
   obtain⟨n,k,m,g,j⟩:=h;cases m;refine⟨⟨v,by simp[World.cell?,e],d v (by simp),g⟩,?_⟩;have:=i (pre:=pre++[v]) (by simpa using e) (λx f=>d x (by simp[f])) j
   grind
theorem Pts.cells{i a t:Nat}{e d:List A}(k:H[i]?=some (.cells t e))(f:e.drop a=d):Pts H (.ptr i a) d:=by
 intro q r σ w v s h;obtain⟨b,m,p⟩:=h;obtain⟨l,n,g,j⟩:=s.blk i _ _ m k;have:=LR.cells (pre:=[]) (by simpa using n) j g;have:=this.drop a
 grind
theorem LR.get{ro:Nat->Prop}{σ:Sig}{w:World}:∀{az:List A} {l:List Value} (i:Nat) {a:A},LR ro σ w az l->az[i]?=some a->∃v,l[i]?=some v/\VR ro σ w a v
 |[],l,i,a,h,ha=>by simp at ha
 |x::az,l,0,a,⟨v,l',h1,h2,h3⟩,ha=>by
  grind
 |x::az,l,i+1,a,⟨v,l',h1,h2,h3⟩,ha=>by
  obtain⟨v',q1,q2⟩:=LR.get i h3 (by simpa using ha)
  grind
theorem LR.drop{ro:Nat->Prop}{σ:Sig}{w:World}:∀(n:Nat) {az:List A} {l:List Value},LR ro σ w az l->LR ro σ w (az.drop n) (l.drop n)
 |0,az,l,h=>h
 |n+1,[],l,h=>by cases(show l=[]from h);rfl
 |n+1,a::az,l,⟨v,l',h1,h2,h3⟩=>by subst h1;exact LR.drop n h3
theorem LR.take{ro:Nat->Prop}{σ:Sig}{w:World}:∀(n:Nat) {az:List A} {l:List Value},LR ro σ w az l->LR ro σ w (az.take n) (l.take n)
 |0,az,l,h=>rfl
 |n+1,[],l,h=>by cases(show l=[]from h);rfl
 |n+1,a::az,l,⟨v,l',h1,h2,h3⟩=>by subst h1;exact⟨v,l'.take n,rfl,h2,LR.take n h3⟩
theorem LR.append{ro:Nat->Prop}{σ:Sig}{w:World}:∀{az:List A} {l:List Value} {bs:List A} {m:List Value},LR ro σ w az l->LR ro σ w bs m->LR ro σ w (az++bs) (l++m)
 |[],l,bs,m,h,k=>by cases(show l=[]from h);exact k
 |a::az,l,bs,m,⟨v,l',h1,h2,h3⟩,k=>by subst h1;exact⟨v,l'++m,rfl,h2,LR.append h3 k⟩
theorem QiY{ro:Nat->Prop}{σ:Sig}{w:World}{b t:Nat}{fz:Nat×Nat}:∀{cs:List A} {pre l post:List Value},w.heap[b]?=some (.cells (pre++(l++post)).toArray t fz)->(∀v∈l,Qz v)->
  LR ro σ w cs l->CR ro σ w b cs pre.length
 |[],_,_,_,_,_,_=>trivial
 |c::cs,pre,l,post,hb,hpl,⟨v,l',h1,h2,h3⟩=>by
  subst h1;refine⟨⟨v,by simp[World.cell?,hb],hpl v (by simp),h2⟩,?_⟩;have:=QiY (pre:=pre++[v]) (by simpa using hb) (by grind) h3
  grind
theorem YQ{ro:Nat->Prop}{σ:Sig}{w:World}{b t k:Nat}{fz:Nat×Nat}:∀{es:List (List A)} {pre l:List Value},w.heap[b]?=some (.cells (pre++l).toArray t fz)->
  RL ro σ w k es l->RR ro σ w b k es pre.length
 |[],_,_,_,_=>trivial
 |c::es,pre,l,hb,⟨l1,l2,h1,h2,h3,h4⟩=>by
  subst h1;refine⟨h2,QiY hb h3.2 h3.1,?_⟩;have hl:=h3.1.length;have:=YQ (pre:=pre++l1) (by simpa using hb) h4
  grind
theorem Pts.row{i a t k e f:Nat}{es:List (List A)}{c d:List A}(p:H[i]?=some (.row t k es))(n:a=e*k+f)(he:es[e]?=some c)(g:c.drop f=d):Pts H (.ptr i a) d:=by
 intro u x σ w v s h;obtain⟨b,q,j⟩:=h;obtain⟨l,r,m⟩:=s.blk i _ _ q p;have:=((YQ (pre:=[]) (by simpa using r) m).get e he).2.drop f;refine⟨b,a,j,?_⟩;subst n g;simpa using this.lift
theorem Pts.rowr{i a t k e f:Nat}{es:List (List A)}{c d:List A}(m:H[i]?=some (.rowr t k es))(x:a=e*k+f)(he:es[e]?=some c)(g:c.drop f=d):Pts H (.ptr i a) d:=by
 intro r u σ w v s h;obtain⟨b,n,q⟩:=h;obtain⟨l,p,j⟩:=s.blk i _ _ n m;have:=((YQ (pre:=[]) (by simpa using p) j).get e he).2.drop f
 grind
theorem QjG{w w':World}(h:w'.heap=w.heap)(a:Addr):w'.cell? a=w.cell? a:=by unfold World.cell?;rw[h]
theorem Yv{ro:Nat->Prop}{σ:Sig}{w:World}{b d:Nat}:∀{e:List A} (i:Nat),CR ro σ w b e (d+i)->
  ∃l,LR ro σ w e l/\(∀v∈l,Qz v)/\ ∀(w':World) (a:Array Value),w'.heap=w.heap->(loadCellsFrom ⟨b,d,none⟩ i e.length a).run P w'=.ok (a++l.toArray) w'
 |[],i,h=>⟨[],rfl,by simp,λw' a _=>by rfl⟩
 |c::e,i,⟨⟨v,h1,hp,h2⟩,h3⟩=>by
  obtain⟨l,q1,qp,q2⟩:=Yv (i+1) (by omega);refine⟨v::l,⟨v,l,rfl,h2,q1⟩,by grind,λw' a hw=>?_⟩;have h1':w'.cell? ⟨b,d+i,none⟩=some v:=by rw[QjG hw];exact h1
  simp_all[loadCellsFrom,QaO]
theorem Qbg{t n:Nat}{x:Operand}{p:A}{d vs:List A}(B:o.op=.load t x)(E:∀w,(isAgg t).run P w=.ok true w)(s:∀w,(sizeOf t).run P w=.ok n w)(f:opA env x=p)(g:Pts H p d)
  (k:d.take n=vs)(y:vs.length=n):OpV P o env H (.agg vs):=by
 intro h i σ N a w r;have e:=Qs r x;rw[f]at e;obtain⟨b,j,u,m⟩:=g h i σ w _ r.sim e;subst k;obtain⟨l,q,_,z⟩:=Yv (P:=P) 0 (by simpa using m.take n);refine⟨.agg l.toArray,?_,l,rfl,q⟩
 simp_all[execOp,Instr.loadAt,Instr.sureAddr,loadVar,loadCells]
theorem OpV.load{t:Nat}{x:Operand}{p v:A}{j:List A}(m:o.op=.load t x)(n:∀w,(isAgg t).run P w=.ok false w)(e:opA env x=p)(f:Pts H p (v::j)):OpV P o env H v:=by
 intro g h σ N a w r;have d:=Qs r x;rw[e]at d;obtain⟨b,i,k,⟨y,q,_,l⟩,_⟩:=f g h σ w _ r.sim d
 simp_all[execOp,Instr.loadAt,Instr.sureAddr,loadVar]
theorem OpV.extract{x:Operand}{vs:List A}{i:Nat}{v:A}(m:o.op=.extract x i)(e:opA env x=.tup vs)(g:vs[i]?=some v):OpV P o env H v:=by
 intro h k σ N a w r;have d:=Qs r x;rw[e]at d;obtain⟨l,d,f⟩:=d;obtain⟨y,n,j⟩:=f.get i g
 simp_all[execOp,Instr.extract]
theorem OpV.field{T f off n:Nat}{x:Operand}{e:List A}{v:A}(j:Qai P T f off n)(m:∀fs fd,(∀w,(underlying T).run P w=.ok (.struct fs) w)->fs[f]?=some fd->∀w,(isAgg fd.type).run P w=.ok false w)
  (B:o.op=.field T x f)(g:opA env x=.agg e)(k:e[off]?=some v):OpV P o env H v:=by
 intro t u σ N a w r;have d:=Qs r x;rw[g]at d;obtain⟨l,d,i⟩:=d;obtain⟨y,F,z⟩:=i.get off k;obtain⟨fs,fd,p,s,rfl,q,E⟩:=j.h
 simp_all[execOp,Instr.field,asAgg,part]
theorem Qbf{fr ro:Nat->Prop}{σ:Sig}{N:Nat}{a:Act}{w:World}(r:Rel fr ro σ H env N a w):∀(l:List Operand),LR ro σ w (l.map (opA env)) (l.map a.eval)
 |[]=>rfl
 |x::l=>⟨_,_,rfl,Qs r x,Qbf r l⟩
theorem OpV.makeFunc{f:Fn}{first cap:List Operand}{e d:List A}(i:o.op=.makeFunc f first.toArray cap.toArray)(g:first.map (opA env)=e)(h:cap.map (opA env)=d):OpV P o env H (.fn f e d):=by
 intro j k σ N a w r;refine⟨.func f (first.map a.eval).toArray (cap.map a.eval).toArray,?_,_,_,rfl,g▸Qbf r first,h▸Qbf r cap⟩
 simp_all[execOp,Instr.makeFunc]
theorem Qap{t:TypeId}{x:Operand}{v:A}{d:TypeDesc}(g:o.op=.makeInterface t x)(i:∀w,(underlying t).run P w=.ok d w)(h:∀m,d≠ .interface m)(f:opA env x=v):OpV P o env H (.iface t v):=by
 intro j k σ N a w r;have e:=Qs r x;rw[f]at e;refine⟨.iface t (a.eval x),?_,_,rfl,e⟩
 simp_all[execOp,Instr.makeInterface]
end
mutual
def Yq:A->Bool
 |.ptr _ _=>false
 |.osl _ _ _ _=>false
 |.map _=>false
 |.agg cs=>Yw cs
 |.fn _ a c=>Yw a&&Yw c
 |.iface _ v=>Yq v
 |.tup vs=>Yw vs
 |_=>true
def Yw:List A->Bool
 |[]=>true
 |a::r=>Yq a&&Yw r
end
mutual
theorem VR.data{ro:Nat->Prop}{σ σ':Sig}{w:World}:∀{a:A} {v:Value},Yq a=true->VR ro σ w a v->VR ro σ' w a v
 |.any,_,_,_=>trivial
 |.bool b,v,_,q=>q
 |.int k n,v,_,q=>q
 |.str s,v,_,q=>q
 |.nilp,v,_,q=>q
 |.ptr i off,v,d,q=>by simp[Yq]at d
 |.rp cs,v,_,q=>q
 |.nils,v,_,q=>q
 |.rsl k es,v,_,q=>q
 |.osl i o n k,v,d,q=>by simp[Yq]at d
 |.agg cs,v,d,q=>by
  simp only[VR,Yq]at q d⊢;obtain⟨l,h1,h2⟩:=q;exact⟨l,h1,LR.data d h2⟩
 |.fn f a c,v,d,q=>by
  simp only[VR,Yq,XW]at q d⊢;obtain⟨l,l',h1,h2,h3⟩:=q;exact⟨l,l',h1,LR.data d.1 h2,LR.data d.2 h3⟩
 |.nilf,v,_,q=>q
 |.iface t a,v,d,q=>by
  simp only[VR,Yq]at q d⊢;obtain⟨x,h1,h2⟩:=q;exact⟨x,h1,VR.data d h2⟩
 |.nilif,v,_,q=>q
 |.map i,v,d,q=>by simp[Yq]at d
 |.nilm,v,_,q=>q
 |.tup vs,v,d,q=>by
  simp only[VR,Yq]at q d⊢;obtain⟨l,h1,h2⟩:=q;exact⟨l,h1,LR.data d h2⟩
theorem LR.data{ro:Nat->Prop}{σ σ':Sig}{w:World}:∀{az:List A} {l:List Value},Yw az=true->LR ro σ w az l->LR ro σ' w az l
 |[],_,_,q=>q
 |a::r,l,d,q=>by
  simp only[LR,Yw,XW]at q d⊢;obtain⟨v,l',h1,h2,h3⟩:=q;exact⟨v,l',h1,VR.data d.1 h2,LR.data d.2 h3⟩
end
def Yr:A->Bool
 |.any|.agg _|.tup _=>false
 |_=>true
def Yd:A->List A
 |.agg cs=>cs
 |a=>[a]
def Yn:A->Bool
 |.any=>false
 |_=>true
theorem VR.plain{ro:Nat->Prop}{σ:Sig}{w:World}{a:A}{v:Value}(d:Yr a=true)(h:VR ro σ w a v):Qz v:=by
 cases a<;>first|(simp[Yr]at d)|skip
 case rsl k es=>obtain⟨e,c,rfl,_⟩:=h;trivial
 case osl=>rcases h with⟨_,rfl⟩|⟨_,_,_,_,_,_,rfl,_⟩<;>trivial
 case fn=>obtain⟨_,_,rfl,_⟩:=h;trivial
 case iface=>obtain⟨_,rfl,_⟩:=h;trivial
 case ptr=>obtain⟨_,_,rfl⟩:=h;trivial
 case rp=>obtain⟨_,_,rfl,_⟩:=h;trivial
 case map=>obtain⟨_,_,rfl⟩:=h;trivial
 all_goals (subst h;trivial)
theorem VR.cells{ro:Nat->Prop}{σ:Sig}{w:World}{a:A}{v:Value}(e:Yn a=true)(h:VR ro σ w a v):∃l:List Value,v.cells=l.toArray/\LR ro σ w (Yd a) l:=by
 cases a
 case any=>simp[Yn]at e
 case agg cs=>obtain⟨l,rfl,h⟩:=h;exact⟨l,rfl,h⟩
 case tup cs=>obtain⟨l,rfl,h⟩:=h;exact⟨[.tuple l.toArray],rfl,_,_,rfl,⟨l,rfl,h⟩,rfl⟩
 all_goals
  have d:=h.plain rfl;refine⟨[v],?_,v,[],rfl,h,rfl⟩;cases v<;>first|rfl|exact d.elim
theorem LR.plain{ro:Nat->Prop}{σ:Sig}{w:World}:∀{az:List A} {l:List Value},az.all Yr=true->LR ro σ w az l->∀v∈l,Qz v
 |[],l,_,h=>by cases(show l=[]from h);simp
 |a::az,l,hp,⟨v,l',h1,h2,h3⟩=>by
  subst h1;simp only[List.all_cons,XW]at hp;intro x hx;rcases X6.1 hx with rfl|hx
  .exact h2.plain hp.1
  .exact LR.plain hp.2 h3 x hx
theorem Yk(w:World)(obj:Obj)(b:Nat)(a:b<w.heap.size):(w.alloc obj).heap[b]?=w.heap[b]? :=by
 show(w.heap.push obj)[b]?=_
 grind
theorem Yu(w:World)(obj:Obj):(w.alloc obj).heap[w.heap.size]?=some obj:=by
 show(w.heap.push obj)[w.heap.size]?=_;simp
theorem YT(w:World)(obj:Obj):(w.alloc obj).heap.size=w.heap.size+1:=by
 simp
theorem Qkn{w:World}{b:Nat}{x:TypeId×Nat}(h:w.shape? b=some x):b<w.heap.size:=by
 grind[World.shape?]
theorem Qm.alloc{fr ro:Nat->Prop}{w:World}(obj:Obj)(hro:∀b,ro b->b<w.heap.size)(hfr:∀b,fr b->b<w.heap.size):Qm fr ro w ro (w.alloc obj):=
 ⟨λ_ h=>h,λb h=>Yk w obj b (hro b h),λb h=>Yk w obj b (hfr b h),by simp,
  λb x h=>by grind[World.shape?,Yk],rfl,rfl,rfl,XT _⟩
section
variable {P:Program} {o:Oper} {env:Env} {H:Qd} {fr ro:Nat->Prop} {σ:Sig} {w:World}
theorem Sim.alloc(s:Sim fr ro σ H w){obj:Obj}{x:Blk}(L:BR ro (σ++[some w.heap.size]) (w.alloc obj) x (some w.heap.size))
  (u:∀c,Hid (w.alloc obj) x w.heap.size c->False:=by exact λ_ h=>h.elim):
  Sim fr ro (σ++[some w.heap.size]) (H++[x]) (w.alloc obj):=by
 have ev:Qm fr ro w ro (w.alloc obj):=Qm.alloc obj s.roLt s.frLt;have n:=s.len;have e:∀(i:Nat) (y:Option Nat),(σ++[some w.heap.size])[i]?=some y->(i<σ.length/\σ[i]?=some y)\/(i=σ.length/\y=some w.heap.size):=by
  grind
 have k:∀i:Nat,i<σ.length->(H++[x])[i]?=H[i]? :=λi G=>XM (by omega);have F:(H++[x])[σ.length]?=some x:=by rw[n];simp
 refine⟨by simp[n],s.roOk.to (λ_ q=>q) ev.keepRo (λb h=>?_),λb h=>?_,s.roFr,?_,?_,?_,?_⟩
 .rw[YT];have:=s.roLt b h;omega
 .rw[YT];have:=s.frLt b h;omega
 .intro i b y f g p;rw[YT];rcases e i _ f with⟨q,f⟩|⟨rfl,l⟩
  .rw[k i q]at g;obtain⟨a,b,c⟩:=s.own i b y f g p
   grind
  .cases l;exact⟨by omega,λq=>by have:=s.roLt _ q;omega,λq=>by have:=s.frLt _ q;omega⟩
 .intro i j b y z f g p t E B;rcases e i _ f with⟨q,f⟩|⟨rfl,l⟩<;>rcases e j _ g with⟨q',g⟩|⟨rfl,e2⟩
  .rw[k i q]at p;rw[k j q']at t;exact s.inj i j b y z f g p t E B
  .cases e2;rw[k i q]at p;have:=(s.own i _ y f p E).1;omega
  .cases l;rw[k j q']at t;have:=(s.own j _ z g t B).1;omega
  .rfl
 .intro i y z f g;rcases e i _ f with⟨q,f⟩|⟨rfl,l⟩
  .rw[k i q]at g;refine(s.blk i y z f g).keep (ev.ext σ _) ?_ ?_
   .rintro b rfl n;exact Yk w obj b (s.own i b z f g n).1
   .rintro b c rfl n;exact Yk w obj c (s.hid i b z c f g n).lt
  grind
 .refine s.hidTo (· = ·) Yb (by rw[YT];omega) (λ_ _ _ _ _ _ _ q=>q) (λ_ _ _ _ _ _ _ q=>q) λj d y r m J=>?_;rcases e j _ r with⟨q,r⟩|⟨rfl,l⟩
  .rw[k j q]at m;exact .inl ⟨j,y,rfl,r,m,id,λc q=>s.hidKeep r m (λz=>Yk w obj d (s.own j d y r m z).1) ev.keepRo q⟩
  .rw[F]at m;cases m;cases l;exact .inr ⟨XT _,u⟩
theorem Sim.allocCells(s:Sim fr ro σ H w){t:Nat}{cs:List A}{l:List Value}(h:LR ro σ w cs l)(hp:∀v∈l,Qz v):
  Sim fr ro (σ++[some w.heap.size]) (H++[.cells t cs]) (w.alloc (.cells l.toArray t)):=
 s.alloc ⟨l,Yu _ _,h.mono ((Qm.alloc _ s.roLt s.frLt).ext σ _),hp⟩
theorem Qhw{ro:Nat->Prop}{σ:Sig}{w:World}:∀{az bs:List A} {l:List Value},LR ro σ w (az++bs) l->∃l1 l2,l=l1++l2/\LR ro σ w az l1/\LR ro σ w bs l2
 |[],bs,l,h=>⟨[],l,rfl,rfl,h⟩
 |a::az,bs,l,⟨v,l',h1,h2,h3⟩=>by
  obtain⟨l1,l2,e,q1,q2⟩:=Qhw h3;subst h1 e;exact⟨v::l1,l2,rfl,⟨v,l1,rfl,h2,q1⟩,q2⟩
def allK(k:Nat):List (List A)->Prop
 |[]=>True
 |c::es=>c.length=k/\allK k es
theorem Qae{k:Nat}:∀{es:List (List A)} {l rest:List Value},allK k es->LR ro σ w es.flatten l->(∀v∈l,Qz v)->RL ro σ w k es (l++rest)
 |[],_,_,_,_,_=>trivial
 |c::es,l,rest,⟨h1,h2⟩,h,hp=>by
  obtain⟨l1,l2,rfl,q1,q2⟩:=Qhw h;exact⟨l1,l2++rest,by simp,h1,(by grind),Qae h2 q2 (by grind)⟩
theorem Sim.allocRow(s:Sim fr ro σ H w){t k:Nat}{es:List (List A)}{l rest:List Value}(hk:allK k es)(h:LR ro [] w es.flatten l)(hp:∀v∈l,Qz v):
  Sim fr ro (σ++[some w.heap.size]) (H++[.row t k es]) (w.alloc (.cells (l++rest).toArray t)):=
 s.alloc ⟨l++rest,Yu _ _,(Qae hk h hp).mono ((Qm.alloc _ s.roLt s.frLt).ext0 [])⟩
theorem OpH.box{t:Nat}{x:Operand}{v:A}{g:List A}(q:o.op=.box t x)(j:opA env x=v)(n:Yn v=true)(f:Yd v=g)(d:g.all Yr=true):
  OpH P o env H (.ptr H.length 0) (H++[.cells t g]):=by
 intro p m σ N a w r;have i:=Qs r x;rw[j]at i;obtain⟨l,k,h⟩:=i.cells n;subst f;refine⟨.pointer (some ⟨w.heap.size,0,none⟩),w.alloc (.cells l.toArray t),m,[some w.heap.size],?_,⟨w.heap.size,?_,rfl⟩,r.sim.allocCells h (h.plain d),Qm.alloc _ r.sim.roLt r.sim.frLt⟩
 .generalize a.eval=ρ at*;have e:(newVar t (ρ x)).run P w=.ok ⟨w.heap.size,0,none⟩ (w.alloc (.cells l.toArray t)):=by
   unfold newVar;rw[k];rfl
  simp_all[execOp,Instr.box]
 .rw[<- r.sim.len];simp
theorem Sim.set(s:Sim fr ro σ H w){i b:Nat}{x x':Blk}{obj:Obj}(hσ:σ[i]?=some (some b))(r:H[i]?=some x)(p:x.live=true)
  (T:∀y,w.shape? b=some y->({w with heap:=w.heap.setIfInBounds b obj}:World).shape? b=some y)
  (G:Ext ro σ w ro σ {w with heap:=w.heap.setIfInBounds b obj}->({w with heap:=w.heap.setIfInBounds b obj}:World).heap[b]?=some obj->BR ro σ {w with heap:=w.heap.setIfInBounds b obj} x' (some b))
  (R:∀c,Hid {w with heap:=w.heap.setIfInBounds b obj} x' b c->Hid w x b c:=by exact λ_ h=>h.elim):
  Sim fr ro σ (H.set i x') {w with heap:=w.heap.setIfInBounds b obj}/\Qm fr ro w ro {w with heap:=w.heap.setIfInBounds b obj}:=by
 obtain⟨W,M,L⟩:=s.own i b x hσ r p;have m:∀c,c≠b->({w with heap:=w.heap.setIfInBounds b obj}:World).heap[c]?=w.heap[c]? :=by
  grind
 have F:({w with heap:=w.heap.setIfInBounds b obj}:World).heap[b]?=some obj:=by
  grind
 have n:({w with heap:=w.heap.setIfInBounds b obj}:World).heap.size=w.heap.size:=by simp
 have ev:Qm fr ro w ro {w with heap:=w.heap.setIfInBounds b obj}:=
  ⟨λ_ h=>h,(by grind),(by grind),by omega,by
   grind[World.shape?],rfl,rfl,rfl,XT _⟩
 have Y:i<H.length:=(by grind);have V:(H.set i x')[i]?=some x':=(by grind);have a:∀j,j≠i->(H.set i x')[j]?=H[j]? :=(by grind);have P:=G (ev.ext0 σ) F;refine⟨⟨by rw[X4];exact s.len,s.roOk.to (λ_ q=>q) ev.keepRo (λc h=>by rw[n];exact s.roLt c h),λc h=>by rw[n];exact s.frLt c h,s.roFr,?_,?_,?_,?_⟩,ev⟩
 .intro j c y g f u;rw[n];by_cases q:j=i
  .grind
  .rw[a j q]at f;exact s.own j c y g f u
 .intro j l c y z g f u B O N;by_cases q:j=i
  .subst q;rw[hσ]at g;cases g;by_cases t:l=j
   .exact t.symm
   .rw[a l t]at B;exact s.inj j l _ x z hσ f r B p N
  .rw[a j q]at u;by_cases t:l=i
   .subst t;rw[hσ]at f;cases f;exact s.inj j l _ y x g hσ u r O p
   .rw[a l t]at B;exact s.inj j l c y z g f u B O N
 .intro j y z g f;by_cases q:j=i
  .grind
  .rw[a j q]at f;refine(s.blk j y z g f).keep (ev.ext0 σ) ?_ ?_
   .rintro c rfl k;exact m c (λe=>q (s.inj j i b z x (e▸g) hσ f r k p))
   .rintro c d rfl Q;exact m d ((s.hid j c z d g f Q).ne i b x hσ r p)
 .refine s.hidTo (· = ·) Yb (by omega) (λ_ _ _ _ _ _ _ q=>q) (λ_ _ _ _ _ _ _ q=>q) λj d y J E X=>.inl ?_;by_cases q:j=i
  .grind
  .rw[a j q]at E;exact⟨j,y,rfl,J,E,id,λc z=>s.hidKeep J E (λk=>m d (λe=>q (s.inj j i b y x (e▸J) hσ E r k p))) ev.keepRo z⟩
def splice{α:Type}(l:List α)(o:Nat)(vs:List α):List α:=l.take o++vs++l.drop (o+vs.length)
theorem Yz{α:Type}{l:List α}{o:Nat}{vs:List α}(h:o+vs.length<=l.length):(splice l o vs).length=l.length:=by
 simp[splice];omega
theorem Qdc{h:Array Obj}{b:Nat}{f:Obj->Obj}{x:Obj}(a:h[b]?=some x):h.modify b f=h.setIfInBounds b (f x):=by
 grind
theorem YF{b t:Nat}:∀{vs l:List Value} {w:World} (a i:Nat),w.heap[b]?=some (.cells l.toArray t (0,0))->a+i+vs.length<=l.length->(∀v∈vs,Qz v)->
  (storeCells ⟨b,a,none⟩ vs i).run P w=.ok () {w with heap:=w.heap.setIfInBounds b (.cells (splice l (a+i) vs).toArray t (0,0))}
 |[],l,w,a,i,hb,hl,hp=>by
  have e:w.heap.setIfInBounds b (.cells (splice l (a+i) []).toArray t (0,0))=w.heap:=by
   apply Array.ext_getElem?;intro j;rw[Ve];by_cases q:b=j
   .subst q;obtain⟨d,m⟩:=Vc.1 hb;simp[d,splice,m]
   grind
  rw[e];rfl
 |v::vs,l,w,a,i,hb,hl,hp=>by
  simp only[X0]at hl;have r:=hp v (by simp);have p:w.cell? ⟨b,a+i,none⟩=some l[a+i]:=by
   simp[World.cell?,hb]
  have g:w.frozen? ⟨b,a+i,none⟩=false:=by
   simp[World.frozen?,hb]
  have f:w.setCell ⟨b,a+i,none⟩ v={w with heap:=w.heap.setIfInBounds b (.cells (splice l (a+i) [v]).toArray t (0,0))}:=by
   unfold World.setCell;rw[Qdc hb];simp only[Option.isSome_none,Xi,if_false];congr 3;have:l.toArray.setIfInBounds (a+i) v=(l.set (a+i) v).toArray:=by simp
   rw[this];congr 1;rw[List.set_eq_take_append_cons_drop,Vs (by omega)];simp[splice]
  have d:b<w.heap.size:=by
   grind
  have n:=YF (vs:=vs) (l:=splice l (a+i) [v]) (w:={w with heap:=w.heap.setIfInBounds b (.cells (splice l (a+i) [v]).toArray t (0,0))}) a (i+1)
   (by show(w.heap.setIfInBounds b _)[b]?=_;rw[Ve,Vs rfl,Vs d])
   (by rw[Yz (by simp;omega)];omega) (by grind)
  have x:splice (splice l (a+i) [v]) (a+(i+1)) vs=splice l (a+i) (v::vs):=by
   have h:(l.take (a+i)).length=a+i:=by simp;omega
   unfold splice;rw[Vi (l.take (a+i))];have u:a+(i+1)=(l.take (a+i)).length+1:=by omega
   have z:(l.take (a+i)++([v]++l.drop (a+i+[v].length))).take ((l.take (a+i)).length+1)=l.take (a+i)++[v]:=by
    grind
   have y:(l.take (a+i)++([v]++l.drop (a+i+[v].length))).drop ((l.take (a+i)).length+1+vs.length)=l.drop (a+i+(v::vs).length):=by
    rw[show(l.take (a+i)).length+1+vs.length=(l.take (a+i)).length+(1+vs.length)from by omega,Va];simp[Nat.add_comm 1];omega
   simp_all
  have k:(w.heap.setIfInBounds b (.cells (splice l (a+i) [v]).toArray t (0,0))).setIfInBounds b (.cells (splice (splice l (a+i) [v]) (a+(i+1)) vs).toArray t (0,0))=
    w.heap.setIfInBounds b (.cells (splice l (a+i) (v::vs)).toArray t (0,0)):=by
   grind
  rw[k]at n;have s:(Go.store ⟨b,a+i,none⟩ v).run P w=.ok () {w with heap:=w.heap.setIfInBounds b (.cells (splice l (a+i) [v]).toArray t (0,0))}:=by
   rw[<- f];cases v<;>first|exact r.elim|simp[Go.store,Sem.run,p,g,go_sem]
  simp_all[storeCells,QaO]
theorem QaD{w:World}{b t:Nat}{l l':List Value}(e:w.heap[b]?=some (.cells l.toArray t (0,0)))(d:l'.length=l.length)(y:TypeId×Nat)(h:w.shape? b=some y):
  {w with heap:=w.heap.setIfInBounds b (.cells l'.toArray t (0,0))}.shape? b=some y:=by
 have a:b<w.heap.size:=by
  grind
 simp_all[World.shape?]
theorem LR.splice{ro:Nat->Prop}{σ:Sig}{w:World}{az vs:List A}{l m:List Value}(a:Nat)(h:LR ro σ w az l)(k:LR ro σ w vs m):LR ro σ w (Sw.splice az a vs) (Sw.splice l a m):=by
 unfold Sw.splice;rw[k.length];exact((h.take a).append k).append (h.drop _)
theorem Qek{l m:List Value}{a:Nat}(h:∀v∈l,Qz v)(k:∀v∈m,Qz v):∀v∈Sw.splice l a m,Qz v:=by
 grind[Sw.splice]
theorem OpU.store{t n i off T:Nat}{x y:Operand}{j vs d:List A}{v:A}(ho:o.op=.store t x y)(L:opA env x=.ptr i off)(G:H[i]?=some (.cells T j))(X:∀w,(sizeOf t).run P w=.ok n w)
  (s:opA env y=v)(O:Yn v=true)(V:Yd v=vs)(Q:vs.length=n)(F:vs.all Yr=true)(u:Nat.ble (off+n) j.length=true)(p:splice j off vs=d):
  OpU P o env H (H.set i (.cells T d)):=by
 intro fr M σ N a w r;have h:=Qs r x;rw[L]at h;obtain⟨b,h,Y⟩:=h;have J:=Qs r y;rw[s]at J;obtain⟨m,h4,g⟩:=J.cells O;rw[V]at g;obtain⟨l,E,q,R⟩:=r.sim.blk i _ _ h G;have k:off+n<=j.length:=by simp_all
 have B:m.length=n:=by rw[g.length,Q]
 have z:=YF (P:=P) off 0 E (by rw[q.length,B];omega) (g.plain F);have f:=r.sim.set (x':=.cells T d) h G rfl
  (λy s=>QaD E (Yz (by rw[q.length,B];omega)) y s)
  (λe W=>⟨_,W,p▸(q.splice off g).mono e,Qek R (g.plain F)⟩)
 refine⟨_,M,[],?_,by grind,f.2⟩
 simp_all[storeVar,execOp,Instr.storeAt,Instr.sureAddr]
theorem RL.splice{ro:Nat->Prop}{σ:Sig}{w:World}{k:Nat}:∀{e:Nat} {es:List (List A)} {l m:List Value} {c a:List A} {f:Nat},RL ro σ w k es l->es[e]?=some c->LR ro σ w a m->(∀v∈m,Qz v)->f+a.length<=k->
  RL ro σ w k (es.set e (Sw.splice c f a)) (Sw.splice l (e*k+f) m)
 |_,[],_,_,_,_,_,_,h,_,_,_=>by simp at h
 |0,c0::es,l,m,c,a,f,⟨l1,l2,h1,h2,h3,h4⟩,hc,hm,hp,hf=>by
  simp at hc;subst hc h1;have hl1:=h3.1.length;refine⟨Sw.splice l1 f m,l2,?_,?_,⟨h3.1.splice f hm,Qek h3.2 hp⟩,h4⟩
  .unfold Sw.splice;simp[Nat.zero_mul,Xw,Vi];rw[X7 (by omega),X8 (by rw[hm.length];omega)]
  .rw[Yz (by omega)];exact h2
 |e+1,c0::es,l,m,c,a,f,⟨l1,l2,h1,h2,h3,h4⟩,hc,hm,hp,hf=>by
  subst h1;have hl1:=h3.1.length;refine⟨l1,Sw.splice l2 (e*k+f) m,?_,h2,h3,RL.splice h4 (by grind) hm hp hf⟩;have e1:(e+1)*k+f=l1.length+(e*k+f):=by grind
  unfold Sw.splice;rw[e1,Vb,show l1.length+(e*k+f)+m.length=l1.length+(e*k+f+m.length)from by omega,Va];simp
theorem RL.length{ro:Nat->Prop}{σ:Sig}{w:World}{k:Nat}:∀{es:List (List A)} {l:List Value},RL ro σ w k es l->es.length*k<=l.length
 |[],l,_=>by simp
 |c::es,l,⟨l1,l2,h1,h2,h3,h4⟩=>by
  have:=RL.length h4;have:=h3.1.length
  grind[Nat.succ_mul]
theorem Qgm{t n i off T k e f:Nat}{x y:Operand}{es d:List (List A)}{c vs G:List A}{v:A}(ho:o.op=.store t x y)(X:opA env x=.ptr i off)(O:H[i]?=some (.row T k es))(hs:∀w,(sizeOf t).run P w=.ok n w)
  (j:off=e*k+f)(Y:es[e]?=some c)(u:opA env y=v)(R:Yn v=true)(V:Yd v=vs)(hn:vs.length=n)(L:vs.all Yr=true)(Q:Yw vs=true)(hf:Nat.ble (f+n) k=true)
  (q:splice c f vs=G)(z:es.set e G=d):
  OpU P o env H (H.set i (.row T k d)):=by
 intro fr ro σ N a w r;have p:=Qs r x;rw[X]at p;obtain⟨b,p,h2⟩:=p;have E:=Qs r y;rw[u]at E;obtain⟨m,h4,h⟩:=E.cells R;rw[V]at h;obtain⟨l,J,M⟩:=r.sim.blk i _ _ p O;have aa:f+n<=k:=by simp_all
 have hm:m.length=n:=by rw[h.length,hn]
 have W:e<es.length:=(by grind);have F:off+n<=l.length:=by
  have:=M.length;have h6:=XC k W
  grind
 have B:=YF (P:=P) off 0 J (by omega) (h.plain L);have g:=r.sim.set (x':=.row T k d) (obj:=.cells (splice l off m).toArray T (0,0)) p O rfl
  (λy u=>QaD J (Yz (by omega)) y u)
  (λex s=>⟨_,s,by
   subst z q j;exact(M.splice Y (h.data Q) (h.plain L) (by omega)).mono ex.nil⟩)
 refine⟨_,ro,[],?_,by grind,g.2⟩
 simp_all[storeVar,execOp,Instr.storeAt,Instr.sureAddr]
end
section
variable {P:Program} {o:Oper} {env:Env} {H:Qd} {fr ro:Nat->Prop} {σ:Sig} {w:World}
theorem Ext.heap{w':World}(h:w'.heap=w.heap):Ext ro σ w ro σ w':=
 ⟨λ_ q=>q,λb _=>by rw[h],λb x q=>by unfold World.shape? at q⊢;grind,λ_ _ q=>q⟩
theorem Sim.heap{w':World}(s:Sim fr ro σ H w)(h:w'.heap=w.heap):Sim fr ro σ H w':=
 ⟨s.len,s.roOk.to (λ_ q=>q) (λb _=>by rw[h]) (λb q=>by rw[h];exact s.roLt b q),λb q=>by rw[h];exact s.frLt b q,s.roFr,λi b x q1 q2 q3=>by rw[h];exact s.own i b x q1 q2 q3,s.inj,
  λi y x q1 q2=>(s.blk i y x q1 q2).keep (Ext.heap h) (by grind) (by grind),
  s.hidTo (· = ·) Yb (by grind) (by simp) (by simp) λj d y g1 g2 g3=>.inl ⟨j,y,rfl,g1,g2,id,λc q=>q.keep (by rw[h])⟩⟩
theorem Qm.heap{w':World}(h:w'.heap=w.heap)(ho:w'.os=w.os)(ht:w'.tape=w.tape)(hu:w'.output=w.output)(hd:w.drawn<=w'.drawn):Qm fr ro w ro w':=
 ⟨λ_ q=>q,λb _=>by rw[h],λb _=>by rw[h],by grind,λb x q=>by unfold World.shape? at q⊢;grind,ho,ht,hu,hd⟩
theorem Sim.moved(s:Sim fr ro σ H w){i:Nat}{x:Blk}{y:Option Nat}(l:H[i]?=some x)(hσ:σ[i]?=some y):Sim fr ro (σ++[y]) (H.set i .dead++[x]) w:=by
 have E:=s.len;have Q:i<H.length:=(by grind);have a:∀(j:Nat) (z:Option Nat) (v:Blk),(σ++[y])[j]?=some z->(H.set i .dead++[x])[j]?=some v->v≠ .dead->
   (j<σ.length/\j≠i/\σ[j]?=some z/\H[j]?=some v)\/(j=σ.length/\z=y/\v=x):=by
  grind
 have hσ':∀(j:Nat) (b:Nat),σ[j]?=some (some b)->(σ++[y])[j]?=some (some b):=(by grind);have ext:Ext ro σ w ro (σ++[y]) w:=⟨λ_ q=>q,λ_ _=>rfl,λ_ _ q=>q,hσ'⟩;refine⟨by simp[E],s.roOk,s.frLt,s.roFr,?_,?_,?_,s.hidTo (λj B=>(j<σ.length/\j≠i/\B=j)\/(j=σ.length/\B=i)) (by omega) (XT _) (by simp) (by simp) λj d y N O G=>.inl ?_⟩
 rotate_left 3
 .rcases a j _ y N O (Qgs G)with⟨M,L,e,f⟩|⟨M,p,rfl⟩
  .grind
  grind
 .intro j b v k h g;rcases a j _ v k h (Qbw g)with⟨_,_,e,f⟩|⟨_,p,rfl⟩
  .exact s.own j b v e f g
  .subst p;exact s.own i b v hσ l g
 .intro j t b v r k h g J n m;rcases a j _ v k g (Qbw n)with⟨_,F,e,f⟩|⟨R,p,P⟩<;>rcases a t _ r h J (Qbw m)with⟨_,n1',q1',q2'⟩|⟨r1',e1',r2'⟩
  .exact s.inj j t b v r e q1' f q2' n m
  .subst e1' r2';exact(F (s.inj j i b v r e hσ f l n m)).elim
  .subst p P;exact(n1' (s.inj t i b r v q1' hσ q2' l m n)).elim
  omega
 .intro j z v k h;by_cases u:v≠ .dead
  .rcases a j z v k h u with⟨_,_,e,f⟩|⟨_,rfl,rfl⟩
   .exact(s.blk j z v e f).keep ext (λ_ _ _=>rfl) (λ_ _ _ _=>rfl)
   .exact(s.blk i _ _ hσ l).keep ext (λ_ _ _=>rfl) (λ_ _ _ _=>rfl)
  .obtain rfl:v=.dead:=Classical.not_not.1 u;trivial
def Src(P:Program)(H:Qd)(x:A)(k:Nat)(es:List (List A)):Prop:=
 ∀fr ro σ w v,Sim fr ro σ H w->VR ro σ w x v->(∃a c,v=.slice a es.length c)/\allK k es/\
  ∃l,(∀w':World,w'.heap=w.heap->(Builtin.firstCells k es.length v).run P w'=.ok l.toArray w')/\LR ro [] w es.flatten l/\ ∀v∈l,Qz v
theorem RR.flat{b k:Nat}:∀{es:List (List A)} {a:Nat},RR ro σ w b k es a->CR ro σ w b es.flatten a/\allK k es/\es.flatten.length=es.length*k
 |[],a,_=>⟨trivial,trivial,by simp⟩
 |c::es,a,⟨h1,h2,h3⟩=>by
  obtain⟨q1,q2,q3⟩:=RR.flat h3;refine⟨?_,⟨h1,q2⟩,by grind⟩;have:∀(c:List A) (a:Nat) (d:List A),CR ro σ w b c a->CR ro σ w b d (a+c.length)->CR ro σ w b (c++d) a:=by
   intro c
   induction c with
   |nil=>simp
   |cons x c e=>intro a d ⟨h1,h2⟩ h;exact⟨h1,e (a+1) d h2 (by grind)⟩
  grind
theorem Qc8{b a k n c:Nat}{d:List A}(h:CR ro σ w b d a)(e:d.length=n*k):
  ∃l,(∀w',w'.heap=w.heap->(Builtin.firstCells k n (.slice (some ⟨b,a,none⟩) n c)).run P w'=.ok l.toArray w')/\LR ro σ w d l/\ ∀v∈l,Qz v:=by
 obtain⟨l,i,g,f⟩:=Yv (P:=P) 0 (by simpa using h)
 grind[Builtin.firstCells,loadCells]
theorem QaK{k c:Nat}{a:Option Addr}:(Builtin.firstCells k 0 (.slice a 0 c)).run P w=.ok #[] w:=by
 cases a<;>simp[go_sem]
theorem Src.rsl{k:Nat}{es:List (List A)}:Src P H (.rsl k es) k es:=by
 intro i l σ w v s ⟨a,c,h1,h2,h3⟩;subst h1;refine⟨⟨a,c,rfl⟩,?_⟩;rcases h3 with rfl|⟨b,e,rfl,j,f⟩
 .exact⟨trivial,[],λ_ _=>QaK,rfl,by simp⟩
 .obtain⟨h,d,g⟩:=f.flat;exact⟨d,Qc8 h g⟩
theorem Src.nils{k:Nat}:Src P H .nils k []:=by
 intro a d σ w v s h;subst h;exact⟨⟨none,0,rfl⟩,trivial,[],λ_ _=>QaK,rfl,by simp⟩
theorem RR.drop{b k:Nat}:∀(n:Nat) {es:List (List A)} {off:Nat},RR ro σ w b k es off->RR ro σ w b k (es.drop n) (off+n*k)
 |0,_,_,h=>by simpa using h
 |n+1,[],_,_=>trivial
 |n+1,c::es,off,⟨h1,h2,h3⟩=>by
  have:=RR.drop n h3
  grind
theorem RR.take{b k:Nat}:∀(n:Nat) {es:List (List A)} {off:Nat},RR ro σ w b k es off->RR ro σ w b k (es.take n) off
 |0,_,_,h=>trivial
 |n+1,[],_,_=>trivial
 |n+1,c::es,off,⟨h1,h2,h3⟩=>⟨h1,h2,RR.take n h3⟩
theorem Src.osl{i s n k t:Nat}{es a:List (List A)}(u:H[i]?=some (.row t k es))(he:(es.drop s).take n=a)(G:s+n<=es.length):Src P H (.osl i s n k) k a:=by
 intro x E σ w v sm h;have q:a.length=n:=by grind
 rcases h with⟨rfl,rfl⟩|⟨b,p,d,z,m,j,rfl,F,M,B,J⟩
 .have e:a=[]:=(by grind);subst e;exact⟨⟨none,0,rfl⟩,trivial,[],λ_ _=>QaK,rfl,by simp⟩
 .rw[q];refine⟨⟨_,d,rfl⟩,?_⟩;obtain⟨l,g,f⟩:=sm.blk i _ _ j u;have r:=((YQ (pre:=[]) (by simpa using g) f).drop s).take n;by_cases y:0<d
  .obtain⟨g,f,L⟩:=r.flat
   simp_all[Qc8]
  .obtain rfl:n=0:=by omega
   have e:a=[]:=(by grind);subst e;exact⟨trivial,[],λ_ _=>QaK,rfl,by simp⟩
def Ys:Nat:=4294967296
theorem QdJ(n c:Nat)(h:c<n):Builtin.nextslicecap n c<=4*n+1000:=by
 grind[Builtin.nextslicecap,Builtin.growBy]
structure Q6 (P:Program) (T e k:Nat):Prop where
 sl:∀w,(underlying T).run P w=.ok (.slice e) w
 size:∀w,(sizeOf e).run P w=.ok k w
 zero:∃z,(∀w,(zeroValue e).run P w=.ok z w)/\z.cells.size=k
 bytes:∃i,(∀w,(typeInfo e).run P w=.ok i w)/\i.bytes<=4096
theorem Qhv{T k:Nat}{es:List (List A)}{l rest:List Value}(s:Sim fr ro σ H w)(hk:allK k es)(h:LR ro [] w es.flatten l)(hp:∀v∈l,Qz v):
  Sim fr ro (σ++[some w.heap.size]) (H++[.row T k es]) (w.alloc (.cells (l++rest).toArray T))/\Qm fr ro w ro (w.alloc (.cells (l++rest).toArray T)):=
 ⟨s.allocRow hk h hp,Qm.alloc _ s.roLt s.frLt⟩
theorem YU{k:Nat}:∀{es:List (List A)},allK k es->es.flatten.length=es.length*k
 |[],_=>by simp
 |c::es,⟨h1,h2⟩=>by simp[YU h2,h1,Xm,Nat.add_comm]
theorem QdD{k:Nat}:∀{es fs:List (List A)},allK k es->allK k fs->allK k (es++fs)
 |[],_,_,h=>h
 |c::es,_,⟨h1,h2⟩,h=>⟨h1,QdD h2 h⟩
theorem QfH{k:Nat}:∀{es:List (List A)} (n:Nat),allK k es->allK k (es.take n)
 |_,0,_=>trivial
 |[],n+1,_=>trivial
 |c::es,n+1,⟨h1,h2⟩=>⟨h1,QfH n h2⟩
theorem RL.allK{k:Nat}:∀{es:List (List A)} {l:List Value},RL ro σ w k es l->allK k es
 |[],_,_=>trivial
 |c::es,l,⟨l1,l2,h1,h2,h3,h4⟩=>⟨h2,RL.allK h4⟩
theorem RL.app{k:Nat}:∀{n:Nat} {es fs:List (List A)} {l m:List Value},RL ro σ w k es l->n<=es.length->Sw.allK k fs->LR ro σ w fs.flatten m->(∀v∈m,Qz v)->
  RL ro σ w k (es.take n++fs) (Sw.splice l (n*k) m)
 |0,es,fs,l,m,h,hn,hk,hm,hp=>by
  simp_all[Sw.splice,Qae]
 |n+1,[],fs,l,m,h,hn,hk,hm,hp=>by simp at hn
 |n+1,c::es,fs,l,m,⟨l1,l2,h1,h2,h3,h4⟩,hn,hk,hm,hp=>by
  subst h1;have hl1:=h3.1.length;refine⟨l1,Sw.splice l2 (n*k) m,?_,h2,h3,RL.app h4 (by grind) hk hm hp⟩;have e1:(n+1)*k=l1.length+n*k:=by grind
  unfold Sw.splice;rw[e1,Vb,show l1.length+n*k+m.length=l1.length+(n*k+m.length)from by omega,Va];simp
theorem Qko{T T' e e' k need cap:Nat}{t:TypeId}(E:Q6 P T e k)(J:∀w,(underlying T').run P w=.ok (.slice e') w){ad:Option Addr}{n m c:Nat}{ax:Option Addr}
  (g:need=n+m)(h:cap<need)(a:need<=Ys){old new:List Value}
  (s:∀w':World,w'.heap=w.heap->(Builtin.firstCells k m (.slice ax m c)).run P w'=.ok new.toArray w')(u:∀w':World,w'.heap=w.heap->(Builtin.firstCells k n (.slice ad n cap)).run P w'=.ok old.toArray w'):
  ∃(rest:List Value) (d:Nat),(need<=d/\d<=9223372036854775807)/\rest.length=(d-need)*k/\(Builtin.append_ #[T,T'] t #[.slice ad n cap,.slice ax m c]).run P w=
   .ok (.slice (some ⟨w.heap.size,0,none⟩) need d) (({w with drawn:=w.drawn+1}:World).alloc (.cells ((old++new)++rest).toArray e)):=by
 obtain⟨z,M,j⟩:=E.zero;obtain⟨i,G,L⟩:=E.bytes
 let d:=need+w.tape w.drawn (.appendCap need cap e)%(2^63-need)
 refine⟨(Builtin.zeroCells z.cells (d-need)).toList,d,⟨Nat.le_add_right _ _,by
  have:=Nat.mod_lt (w.tape w.drawn (.appendCap need cap e)) (show 0<2^63-need by unfold Ys at a;omega);show need+_%(2^63-need)<=_;omega⟩,by simp[Builtin.zeroCells,j],?_⟩
 have f:¬(need<=cap):=by omega
 have B:¬((need:Int)>IntKind.i64.max/\(False\/i.bytes=0)):=by
  rintro⟨q,_⟩;have:IntKind.i64.max=9223372036854775807:=by decide
  rw[this]at q;unfold Ys at a;omega
 have N:¬(Builtin.nextslicecap need cap*i.bytes>2^48):=by
  have:=QdJ need cap h;have y:=Nat.mul_le_mul this L;unfold Ys at a;omega
 generalize hF:Builtin.firstCells=F at s u;unfold Builtin.append_;rw[hF];have p:∀W:World,(choose (.appendCap need cap e)).run P W=.ok (need+W.tape W.drawn (.appendCap need cap e)%(2^63-need)) {W with drawn:=W.drawn+1}:=by
  intro W;simp[choose,Sem.run,Question.forced,Question.cut]
 have l:∀(x:Nat) (W:World),(askRoom x).run P W=.ok () W:=by
  intro x W;unfold askRoom;split<;>rfl
 have r:∀(c:Array Value) (W:World),(newRow e c).run P W=.ok ⟨W.heap.size,0,none⟩ (W.alloc (.cells c e)):=λc W=>rfl;subst g;simp only[not_and,false_or]at B;have y:¬(((n+m:Nat):Int)>IntKind.i64.max/\(False\/i.bytes=0)):=by simpa using B
 simp only[XG,XE,XF,Vm,E.sl,E.size,J,G,M,Result.andThen,Builtin.lenOf,Vn,Xi,if_false,XH,
  Xh,if_true,Vr f,Vr y,Vr N,p,l]
 have H:=u {w with drawn:=w.drawn+1} rfl;have Q:=s {w with drawn:=w.drawn+1} rfl;simp only[H,Q,r];have O:old.toArray++new.toArray++Builtin.zeroCells z.cells (d-(n+m))=((old++new)++(Builtin.zeroCells z.cells (d-(n+m))).toList).toArray:=by
  apply Xv.1;simp
 rw[<- O]
theorem QgD{T T' e e' k cap:Nat}{t:TypeId}(E:Q6 P T e k)(g:∀w,(underlying T').run P w=.ok (.slice e') w){ad:Option Addr}{n m c:Nat}{ax:Option Addr}
  (d:n+m<=cap){new:List Value}(f:(Builtin.firstCells k m (.slice ax m c)).run P w=.ok new.toArray w):
  (Builtin.append_ #[T,T'] t #[.slice ad n cap,.slice ax m c]).run P w=
   match ad with
   |some a=>(do storeCells (a.add (n*k)) new;pure (Value.slice ad (n+m) cap):Sem Value).run P w
   |none=>.ok (.slice ad (n+m) cap) w:=by
 generalize hF:Builtin.firstCells=F at f;unfold Builtin.append_;rw[hF];simp only[XG,XE,XF,Vm,E.sl,E.size,g,Result.andThen,Builtin.lenOf,Vn,Xi,if_false,XH,
  Xh,if_true,Vs d,f]
 cases ad with
 |none=>rfl
 |some a=>simp only[Vm,Result.andThen,Vn]
theorem Sim.weaken(s:Sim fr ro σ H w){i:Nat}{x x':Blk}(G:H[i]?=some x)(L:x.live=true)(m:∀y,BR ro σ w x y->BR ro σ w x' y)
  (z:∀b c,Hid w x' b c->Hid w x b c:=by exact λ_ _ h=>h.elim):Sim fr ro σ (H.set i x') w:=by
 have a:∀(j:Nat) (v:Blk),(H.set i x')[j]?=some v->(j=i/\v=x')\/(j≠i/\H[j]?=some v):=by
  grind
 have k:∀(j:Nat) (v:Blk),(H.set i x')[j]?=some v->v.live=true->∃e,H[j]?=some e/\e.live=true:=by
  grind
 refine⟨by rw[X4];exact s.len,s.roOk,s.frLt,s.roFr,?_,?_,?_,s.hidTo (· = ·) Yb (XT _) (by simp) (by simp) λj d y M N O=>.inl ?_⟩
 rotate_left 3
 .grind
 .intro j b v f g r;obtain⟨e,n,q⟩:=k j v g r;exact s.own j b e f n q
 .intro j t b v e f g r E F B;obtain⟨u,n,q⟩:=k j v r F;obtain⟨J,p,l⟩:=k t e E B;exact s.inj j t b u J f g n p q l
 .intro j y v f g;rcases a j v g with⟨rfl,rfl⟩|⟨_,h⟩
  .exact m y (s.blk j y x f G)
  .exact s.blk j y v f h
theorem RL.take{k:Nat}:∀(n:Nat) {es:List (List A)} {l:List Value},RL ro σ w k es l->RL ro σ w k (es.take n) l
 |0,_,_,_=>trivial
 |n+1,[],_,_=>trivial
 |n+1,c::es,l,⟨l1,l2,h1,h2,h3,h4⟩=>⟨l1,l2,h1,h2,h3,RL.take n h4⟩
theorem QaW{c:Call}{T T':TypeId}{x y:Operand}(d:o.op=.call c)(a:c={callee:=.builtin .append,args:= #[x,y],argTypes:= #[T,T']})(ρ:Operand->Value){v:Value}{w':World}
  (h:(Builtin.append_ #[T,T'] o.type #[ρ x,ρ y]).run P w=.ok v w'):(execOp ρ o).run P w=.ok (.value v) w':=by
 simp_all[execOp,resolve,invoke,Go.builtin]
theorem Sim.phantom(s:Sim fr ro σ H w)(t k:Nat):Sim fr ro (σ++[none]) (H++[.row t k []]) w:=by
 have g:=s.len;have f:∀(i b:Nat),(σ++[none])[i]?=some (some b)->i<σ.length:=by
  grind
 refine⟨by simp[g],s.roOk,s.frLt,s.roFr,?_,?_,?_,s.hidTo (· = ·) Yb (XT _) (by simp) (by simp) λj d y a e h=>.inl ?_⟩
 rotate_left 3
 .grind
 .intro i b z a e h;have q:=f i b a;rw[XM q]at a;rw[XM (by omega)]at e;exact s.own i b z a e h
 .intro i j b z B a e h l n p;have x:=f i b a;have u:=f j b e;rw[XM x]at a;rw[XM u]at e;rw[XM (by omega)]at h l;exact s.inj i j b z B a e h l n p
 .intro i y z a e;have ext:Ext ro σ w ro (σ++[none]) w:=⟨λ_ q=>q,λ_ _=>rfl,λ_ _ q=>q,(by grind)⟩;rcases Nat.lt_trichotomy i σ.length with q|q|q
  .rw[XM q]at a;rw[XM (by omega)]at e;exact(s.blk i y z a e).keep ext (λ_ _ _=>rfl) (λ_ _ _ _=>rfl)
  .subst q;have m:(σ++[none])[σ.length]?=some none:=by simp
   have r:(H++[Blk.row t k []])[σ.length]?=some (.row t k []):=by grind
   rw[m]at a;rw[r]at e;cases a;cases e;rfl
  grind
theorem Sim.kill(s:Sim fr ro σ H w)(i:Nat):Sim fr ro σ (H.set i .dead) w:=by
 have a:∀(j:Nat) (v:Blk),(H.set i .dead)[j]?=some v->v≠ .dead->H[j]?=some v:=by
  grind
 refine⟨by rw[X4];exact s.len,s.roOk,s.frLt,s.roFr,?_,?_,?_,s.hidTo (· = ·) Yb (XT _) (by simp) (by simp) λj d y p r t=>.inl ⟨j,y,rfl,p,a j y r (Qgs t),id,λ_ q=>q⟩⟩
 .intro j b v f e g;exact s.own j b v f (a j v e (Qbw g)) g
 .intro j n b v h f e g u l k;exact s.inj j n b v h f e (a j v g (Qbw l)) (a n h u (Qbw k)) l k
 .intro j y v f e;by_cases m:v≠ .dead
  .exact s.blk j y v f (a j v e m)
  .obtain rfl:v=.dead:=Classical.not_not.1 m;trivial
theorem grown{c:Call}{T T' e e' k n m cap cx:Nat}{x y:Operand}{es fs:List (List A)}{a:Act}{ad ax:Option Addr}{old new:List Value}(E:Q6 P T e k)(M:∀w,(underlying T').run P w=.ok (.slice e') w)(X:o.op=.call c)
  (O:c={callee:=.builtin .append,args:= #[x,y],argTypes:= #[T,T']})(h1:a.eval x=.slice ad n cap)(R:a.eval y=.slice ax m cx)(s:Sim fr ro σ H w)(f:cap<n+m)(l:n+m<=Ys)
  (q:∀w',w'.heap=w.heap->(Builtin.firstCells k n (.slice ad n cap)).run P w'=.ok old.toArray w')(j:∀w',w'.heap=w.heap->(Builtin.firstCells k m (.slice ax m cx)).run P w'=.ok new.toArray w')
  (p:LR ro [] w es.flatten old)(Q:∀v∈old,Qz v)(r:allK k es)(h:LR ro [] w fs.flatten new)(W:∀v∈new,Qz v)(g:allK k fs)(V:es.length=n)(u:fs.length=m):
  ∃v w' ro' τ,(execOp a.eval o).run P w=.ok (.value v) w'/\VR ro' (σ++τ) w' (.osl H.length 0 (n+m) k) v/\Sim fr ro' (σ++τ) (H++[.row e k (es++fs)]) w'/\Qm fr ro w ro' w':=by
 obtain⟨d,nc,B,z,i⟩:=Qko E M rfl f l j q
 let w0:={w with drawn:=w.drawn+1}
 have N:Sim fr ro σ H w0:=s.heap rfl;have J:Qm fr ro w ro w0:=Qm.heap rfl rfl rfl rfl (Nat.le_succ _);have t:LR ro [] w0 (es++fs).flatten (old++new):=by
  rw[List.flatten_append];exact(p.append h).mono (Ext.heap (w:=w) rfl)
 obtain⟨Y,L⟩:=Qhv N (QdD r g) t (λv hv=>by grind);have hexec:=QaW X O a.eval (by rw[h1,R];exact i);refine⟨_,_,ro,[some w.heap.size],hexec,.inr ⟨w.heap.size,0,nc,e,(old++new++d).length,?_,rfl,λ_=>by simp,B,?_,?_⟩,Y,J.trans L⟩
 .rw[<- s.len];simp
 .have:=Yu w0 (.cells ((old++new)++d).toArray e);unfold World.shape?
  grind
 .have F:=p.length;have G:=h.length;rw[YU r]at F;rw[YU g]at G;simp[X3,z,F,G,u];rw[<- XA, <- XA]
  grind
theorem Qht{c:Call}{T T' e e' k i n:Nat}{x y:Operand}{ya:A}{es fs gs:List (List A)}(E:Q6 P T e k)(V:∀w,(underlying T').run P w=.ok (.slice e') w)(R:o.op=.call c)
  (L:c={callee:=.builtin .append,args:= #[x,y],argTypes:= #[T,T']})(hx:opA env x=.osl i 0 n k)(hH:H[i]?=some (.row e k es))(hn:n<=es.length)(u:opA env y=ya)(hs:Src P H ya k fs)(g:n+fs.length<=Ys)
  (hg:es.take n++fs=gs):OpH P o env H (.osl H.length 0 (n+fs.length) k) (H.set i .dead++[.row e k gs]):=by
 intro fr z σ N a w r;subst hg;have q:=Qs r x;rw[hx]at q;have h2:=Qs r y;rw[u]at h2;obtain⟨⟨ay,cy,e1⟩,q2,l,F,Y,W⟩:=hs fr z σ w _ r.sim h2;rw[e1]at F;have j:i<H.length:=(by grind);have af:(H.set i .dead).length=H.length:=X4;obtain⟨s,hσ⟩:∃s,σ[i]?=some s:=⟨_,XK (by rw[r.sim.len];exact j)⟩;rcases q with⟨rfl,q⟩|⟨b,p,cap,t',mm,J,q,X,h5,G,h7⟩
 ·
  by_cases hm:fs.length=0
  .have h:fs=[]:=(by grind);subst h;refine⟨.slice none 0 0,w,z,[none],?_,.inl ⟨rfl,rfl⟩,(r.sim.kill i).phantom e k,Qm.refl _ _ _⟩;refine QaW R L _ ?_;rw[q,e1];have:=QgD (t:=o.type) E V (ad:=none) (n:=0) (m:=0) (cap:=0) (c:=cy) (ax:=ay) (XT 0) (F w rfl);omega
  .have:=grown (es:=[]) (old:=[]) E V R L q e1 (r.sim.kill i) (by omega) g (λ_ _=>QaK) F rfl (by simp) trivial Y W q2 rfl rfl
   grind
 .have O:=r.sim.blk i _ _ J hH;obtain⟨M,Q,g2⟩:=O;have ac:(es.take n).length=n:=by simp;omega
  obtain⟨old,o1,o2,o3⟩:∃old:List Value,(∀w':World,w'.heap=w.heap->(Builtin.firstCells k n (.slice (some ⟨b,p,none⟩) n cap)).run P w'=.ok old.toArray w')/\LR z [] w (es.take n).flatten old/\ ∀v∈old,Qz v:=by
   have B:Src P H (.osl i 0 n k) k (es.take n):=Src.osl hH (by simp) (by omega);obtain⟨_,_,l',z1,z2,z3⟩:=B fr z σ w (.slice (some ⟨b,p,none⟩) n cap) r.sim (.inr ⟨b,p,cap,t',mm,J,rfl,X,h5,G,h7⟩)
   grind
  by_cases d:n+fs.length<=cap
  .have ae:=QgD (t:=o.type) E V (ad:=some ⟨b,p,none⟩) (n:=n) (m:=fs.length) (cap:=cap) (c:=cy) (ax:=ay) d (F w rfl);have ag:l.length=fs.length*k:=by rw[Y.length,YU q2]
   by_cases hm:fs.length=0
   .have h:fs=[]:=(by grind);subst h;have el:l=[]:=(by simp_all);subst el;have sw:=(r.sim.weaken (x':=.row e k (es.take n)) hH rfl (by
     intro y u;cases y with
     |none=>simp only[BR]at u⊢;grind
     |some y=>obtain⟨M,Q,g2⟩:=u;exact⟨M,Q,g2.take n⟩))
    have sm:=sw.moved (i:=i) (Xa j) J;rw[List.set_set]at sm;refine⟨.slice (some ⟨b,p,none⟩) n cap,w,z,[some b],?_,.inr ⟨b,p,cap,t',mm,?_,by simp,X,by omega,G,h7⟩,by grind,Qm.refl _ _ _⟩
    .refine QaW R L _ ?_
     simp_all[storeCells]
    .rw[<- r.sim.len];simp
   .obtain rfl:p=0*k:=X (by omega);have aa:(n+fs.length)*k<=M.length:=by
     have:w.shape? b=some (e,M.length):=by unfold World.shape?;rw[Q];simp
     rw[this]at G;cases G;exact XV (XC k d) (by grind)
    rw[XA]at aa;have ah:=YF (P:=P) (vs:=l) (n*k) 0 Q (by omega) W;have f:=r.sim.set (x':=.row e k (es.take n++fs)) (obj:=.cells (splice M (n*k) l).toArray e (0,0)) J hH rfl
     (λy u=>QaD Q (Yz (by omega)) y u)
     (λex ab=>⟨_,ab,(g2.app hn q2 Y W).mono ex.nil⟩)
    have sm:=f.1.moved (i:=i) (Xa j) J;rw[List.set_set]at sm;refine⟨.slice (some ⟨b,0*k,none⟩) (n+fs.length) cap,_,z,[some b],?_,.inr ⟨b,0*k,cap,t',mm,?_,rfl,X,⟨d,h5.2⟩,?_,h7⟩,sm,f.2⟩
    .refine QaW R L _ ?_
     simp_all[QaO]
    .rw[<- r.sim.len];simp
    .exact f.2.shape _ _ G
  .have:=grown (es:=es.take n) (old:=old) (fs:=fs) E V R L q e1 (r.sim.kill i) (by omega) g o1 F o2 o3 (QfH n g2.allK) Y W q2 ac rfl
   grind
end
section
variable {P:Program} {o:Oper} {env:Env} {H:Qd}
theorem OpC.fn{c:Call}{f:FuncId}{xs:List Operand}{h:Array TypeId}{args:List A}(d:∀(a:Array Value) (w:World),(callFunc f a).run P w=.ok (.enter f a) w)(j:o.op=.call c)
  (i:c={callee:=.value (.func f),args:=xs.toArray,argTypes:=h})(g:xs.map (opA env)=args):OpC P o env H f args:=by
 intro k l σ N a w r;refine⟨xs.map a.eval,?_,g▸Qbf r xs⟩;have e:a.eval (.func f)=.func (.func f) #[] #[]:=rfl
 grind[execOp,resolve,Deferred.ofValue,invoke]
theorem Qgn{c:Call}{f:FuncId}{x:Operand}{xs:List Operand}{p:Array TypeId}{args g h:List A}(d:∀(a:Array Value) (w:World),(callFunc f a).run P w=.ok (.enter f a) w)(u:o.op=.call c)
  (s:c={callee:=.value x,args:=xs.toArray,argTypes:=p})(k:opA env x=.fn (.func f) g h)(i:g++(xs.map (opA env)++h)=args):OpC P o env H f args:=by
 intro q t σ N a w r;have e:=Qs r x;rw[k]at e;obtain⟨l,n,e,j,m⟩:=e;refine⟨l++(xs.map a.eval++n),?_,i▸j.append ((Qbf r xs).append m)⟩
 grind[execOp,resolve,Deferred.ofValue,invoke]
def QbY(ρ:Nat->Nat)(env:Env):Env->Prop
 |[]=>True
 |(s,a)::r=>lk env s=YK ρ a/\QbY ρ env r
theorem QbY.ok{ro:Nat->Prop}{σ σ':Sig}{w:World}{ρ:Nat->Nat}(h:∀i,σ[ρ i]?=σ'[i]?){t:Array Value}(r:∀s,VR ro σ w (lk env s) (t.getD s undef)):
  ∀{f:Env},QbY ρ env f->∀s,VR ro σ' w (lk f s) (t.getD s undef)
 |[],_,s=>trivial
 |(d,a)::e,⟨h1,h2⟩,s=>by
  simp only[lk];by_cases q:s=d
  .grind[Nat.beq_refl,Qcu]
  .have:Nat.beq s d=false:=by
    simp_all[VL]
   rw[this];exact QbY.ok h r h2 s
theorem Sim.sub{fr ro:Nat->Prop}{σ:Sig}{w:World}{π:List Nat}{H':Qd}(s:Sim fr ro σ H w)(z:π.map (λp=>H[p]?)=(H'.map (QZ (rho π H.length))).map some)(hπ:π.Nodup):
  Sim fr ro (YB σ π) H' w/\ ∀j:Nat,σ[rho π H.length j]?=(YB σ π)[j]? :=by
 have N:∀p∈π,p<H.length:=λp q=>Jd z q;have hσl:=s.len;have L:∀(j p:Nat),π[j]?=some p->H[p]?=(H'[j]?).map (QZ (rho π H.length)):=by
  intro j p e;have:=congrArg (λl=>l[j]?) z
  grind
 have k:π.length=H'.length:=by simpa using congrArg List.length z
 have hσc:∀j:Nat,σ[rho π H.length j]?=(YB σ π)[j]? :=by
  intro j;have:=QdP (τ:=[]) hσl N j
  grind
 have hπj:∀(j b:Nat),(YB σ π)[j]?=some (some b)->∃p,π[j]?=some p/\σ[p]?=some (some b):=by
  intro j b e;simp only[YB,Xo]at e
  grind
 have hπi:∀(i j p:Nat),π[i]?=some p->π[j]?=some p->i=j:=by
  intro i j p f a;have r:i<π.length:=(by grind);have e:j<π.length:=(XL.1 a).1;rw[XK r]at f;rw[XK e]at a;have h:=(XZ f).trans (XZ a).symm;rcases Nat.lt_trichotomy i j with q|q|q
  .exact(VD.1 hπ i j r e q h).elim
  .exact q
  .exact(VD.1 hπ j i e r q h.symm).elim
 refine⟨⟨by simp[YB,k],s.roOk,s.frLt,s.roFr,?_,?_,?_,s.hidTo (λj p=>π[j]?=some p) hπi (XT _) (λ_ _ _ _ _ _ _ q=>q) (λ_ _ _ _ _ _ _ q=>q) λj d y M Q O=>.inl ?_⟩,hσc⟩
 rotate_left 3
 .obtain⟨p,f,g⟩:=hπj j d M;exact⟨p,QZ (rho π H.length) y,f,g,by grind,by rw[QK];exact id,λc q=>(Qal _ _ _ _ _).2 q⟩
 .intro j b x n u E;obtain⟨p,f,g⟩:=hπj j b n;have m:H[p]?=some (QZ (rho π H.length) x):=by grind
  exact s.own p b _ g m (by rw[QK];exact E)
 .intro i j b x y n u E P G J;obtain⟨p,f,g⟩:=hπj i b n;obtain⟨F,a,B⟩:=hπj j b u;have m:H[p]?=some (QZ (rho π H.length) x):=by grind
  have t:H[F]?=some (QZ (rho π H.length) y):=by grind
  have:=s.inj p F b _ _ g B m t (by rw[QK];exact G) (by rw[QK];exact J)
  grind
 .intro j y x n u;have e:j<π.length:=by
   grind
  have f:π[j]?=some π[j]:=XK e;have m:H[π[j]]?=some (QZ (rho π H.length) x):=by grind
  have g:σ[π[j]]?=some y:=by
   grind[rho]
  exact(Qgu hσc).1 (s.blk _ y _ g m)
theorem QnO{f:Nat}{d:Env}{H':Qd}(π:List Nat)(e:π.take f=List.range f)(g:π.map (λp=>H[p]?)=(H'.map (QZ (rho π H.length))).map some)(hπ:π.Nodup)
  (hE:QbY (rho π H.length) env d):Le f env H d H':=by
 intro l h σ N a w r;obtain⟨i,hσ⟩:=r.sim.sub g hπ;refine⟨h,YB σ π,⟨i,QbY.ok hσ r.env hE,r.size,r.defers⟩,λ_ q=>q,?_⟩;have k:=r.sim.len;have j:∀p∈π,p<H.length:=λp q=>Jd g q;unfold YB;rw[<- List.map_take,e];apply List.ext_getElem?
 grind
theorem Le.phantom{f s k t:Nat}(h:f<=H.length)(g:lk env s=.nils):Le f env H (up env s (.osl H.length 0 0 k)) (H++[.row t k []]):=by
 intro i e σ N a w r;refine⟨e,σ++[none],⟨r.sim.phantom t k,?_,r.size,r.defers⟩,λ_ q=>q,QR (by rw[r.sim.len];exact h)⟩;have ext:Ext e σ w e (σ++[none]) w:=⟨λ_ q=>q,λ_ _=>rfl,λ_ _ q=>q,(by grind)⟩;intro d;simp only[lk];by_cases q:d=s
 .subst q;rw[VE];have:=r.env d;rw[g]at this;exact .inl ⟨rfl,this⟩
 .have:Nat.beq d s=false:=by
   simp_all[VL]
  rw[this];exact(r.env d).mono ext
theorem QmP{f s k:Nat}(e:lk env s=.nils):Le f env H (up env s (.rsl k [])) H:=by
 intro h g σ N a w r;refine⟨g,σ,⟨r.sim,?_,r.size,r.defers⟩,λ_ q=>q,rfl⟩;intro d;simp only[lk];by_cases q:d=s
 .subst q;rw[VE];have:=r.env d;rw[e]at this;exact⟨none,0,this,XT _,.inl rfl⟩
 .have:Nat.beq d s=false:=by
   simp_all[VL]
  rw[this];exact r.env d
mutual
def Ya:A->Bool
 |.bool _=>true
 |.int _ _=>true
 |.str _=>true
 |.tup vs=>QdQ vs
 |_=>false
def QdQ:List A->Bool
 |[]=>true
 |a::r=>Ya a&&QdQ r
end
mutual
theorem VR.scalar{ro ro':Nat->Prop}{σ σ':Sig}{w w':World}:∀{a:A} {v:Value},Ya a=true->VR ro σ w a v->VR ro' σ' w' a v
 |.bool _,_,_,h=>h
 |.int _ _,_,_,h=>h
 |.str _,_,_,h=>h
 |.tup vs,v,hs,h=>by
  simp only[VR,Ya]at h hs⊢;obtain⟨l,h1,h2⟩:=h;exact⟨l,h1,LR.scalar hs h2⟩
 |.any,_,hs,_=>by simp[Ya]at hs
 |.nilp,_,hs,_=>by simp[Ya]at hs
 |.ptr _ _,_,hs,_=>by simp[Ya]at hs
 |.rp _,_,hs,_=>by simp[Ya]at hs
 |.nils,_,hs,_=>by simp[Ya]at hs
 |.rsl _ _,_,hs,_=>by simp[Ya]at hs
 |.osl _ _ _ _,_,hs,_=>by simp[Ya]at hs
 |.agg _,_,hs,_=>by simp[Ya]at hs
 |.fn _ _ _,_,hs,_=>by simp[Ya]at hs
 |.nilf,_,hs,_=>by simp[Ya]at hs
 |.iface _ _,_,hs,_=>by simp[Ya]at hs
 |.nilif,_,hs,_=>by simp[Ya]at hs
 |.map _,_,hs,_=>by simp[Ya]at hs
 |.nilm,_,hs,_=>by simp[Ya]at hs
theorem LR.scalar{ro ro':Nat->Prop}{σ σ':Sig}{w w':World}:∀{az:List A} {l:List Value},QdQ az=true->LR ro σ w az l->LR ro' σ' w' az l
 |[],_,_,h=>h
 |a::r,l,hs,h=>by
  simp only[LR,QdQ,XW]at h hs⊢;obtain⟨v,l',h1,h2,h3⟩:=h;exact⟨v,l',h1,VR.scalar hs.1 h2,LR.scalar hs.2 h3⟩
end
def Look(H:Qd):A->A->Prop:=λa a'=>(a'=a/\Yq a=true)\/ ∃i n k t es,a=.osl i 0 n k/\H[i]?=some (.row t k es)/\es.length=n/\a'=.rsl k es
def Qbi(H:Qd):List A->List A->Prop
 |[],[]=>True
 |a::az,b::bs=>Look H a b/\Qbi H az bs
 |_,_=>False
theorem QcR{h0 N:Nat}{Q:QG}{all:Array Oper}{l:List Oper}{d:Nat}{f:FuncId}{args B:List A}{Qr:A->Qd->Prop}(aa:OpC P o env H f args)(hv:Qbi H args B)(hC:C P f B [] Qr)
  (ab:∀r H1,Qr r H1->Ya r=true)(k:∀r H1,Qr r H1->WO P h0 N all l (up env d r) H Q)(hg:QI all o env true:=by exact rfl)(hd:o.dst=some d:=by exact rfl)(hN:Nat.blt d N=true:=by exact rfl):WO P h0 N all (o::l) env H Q:=by
 intro rd fr ro σ a w r hrd;obtain⟨T,h1,h2⟩:=aa fr ro σ N a w r;refine Qfc (YM hg r) h1 ?_
 let roc:Nat->Prop:=λb=>ro b\/ ∃(i:Nat) (x:Blk),σ[i]?=some (some b)/\H[i]?=some x/\x.live=true
 let frc:Nat->Prop:=λb=>fr b\/ ∃(i:Nat) (x:Blk) (d:Nat),σ[i]?=some (some d)/\H[i]?=some x/\Hid w x d b
 have W:Sim frc roc [] [] w:=by
  refine⟨rfl,r.sim.roOk.to (λ_ q=>.inl q) (λ_ _=>rfl) ?_,?_,?_,by simp,by simp,by simp,by simp⟩
  .rintro b (q|⟨i,x,u,z,E⟩)
   .exact r.sim.roLt b q
   .exact(r.sim.own i b x u z E).1
  .rintro b (q|⟨i,x,d,u,z,E⟩)
   .exact r.sim.frLt b q
   .exact(r.sim.hid i d x b u z E).lt
  .rintro b (q|⟨i,x,u,z,E⟩) (q'|⟨i',x',d',M,L,V⟩)
   .exact r.sim.roFr b q q'
   .exact(r.sim.hid i' d' x' b M L V).ro q
   .exact(r.sim.own i b x u z E).2.2 q'
   .exact(r.sim.hid i' d' x' b M L V).ne i b x u z E rfl
 have J:∀(az F:List A) (l:List Value),Qbi H az F->LR ro σ w az l->LR roc [] w F l:=by
  intro az
  induction az with
  |nil=>
   intro F l G h;cases F with
   |nil=>exact h
   |cons b F=>exact G.elim
  |cons x az ih=>
   intro F l G h;cases F with
   |nil=>exact G.elim
   |cons y F=>
    obtain⟨hx,G⟩:=G;obtain⟨v,l',rfl,hv,h⟩:=h;refine⟨v,l',rfl,?_,ih F l' G h⟩;rcases hx with⟨rfl,hx⟩|⟨i,n,k,t,es,rfl,hH,hn,rfl⟩
    .exact(hv.data (σ':=[]) hx).mono ⟨λ_ q=>.inl q,λ_ _=>rfl,λ_ _ q=>q,λ_ _ q=>q⟩
    .subst hn;rcases hv with⟨h0,h⟩|⟨b,p,R,t',m,h1,h,h2,⟨h3,af⟩,h4,h5⟩
     .have:es=[]:=(by grind);subst this;exact⟨none,0,h,XT _,.inl rfl⟩
     .refine⟨_,R,h,h3,?_⟩;by_cases he:es=[]
      .exact .inl he
      .right;have hc:0<R:=Vf (by grind) h3;obtain rfl:=h2 hc;obtain⟨l,u,z⟩:=r.sim.blk i _ _ h1 hH;refine⟨b,0,by simp,.inr ⟨i,_,h1,hH,rfl⟩,?_⟩;have:=YQ (pre:=[]) (by simpa using u) z;exact this.keep ⟨λ_ q=>.inl q,λ_ _=>rfl,λ_ _ q=>q,λ_ _ q=>q⟩ rfl
 refine Calls.mono (hC frc roc [] T w W (J _ _ _ hv h2)) ?_;rintro e X ⟨v,rr,H1,ae,τ,rfl,hq,sc,ac,ev⟩;have O:∀(i b:Nat) (x:Blk),σ[i]?=some (some b)->H[i]?=some x->x.live=true->X.heap[b]?=w.heap[b]? :=λi b x u z E=>ev.keepRo b (by grind);have g:Qm fr ro w ro X:=⟨λ_ q=>q,λb q=>ev.keepRo b (.inl q),λb q=>ev.keepFr b (.inl q),ev.size,ev.shape,ev.os,ev.tape,ev.output,ev.drawn⟩;have Y:Sim fr ro σ H X:=by
  refine⟨r.sim.len,r.sim.roOk.to (λ_ q=>q) g.keepRo (λb q=>Vf (r.sim.roLt b q) ev.size),λb q=>Vf (r.sim.frLt b q) ev.size,r.sim.roFr,?_,r.sim.inj,?_,r.sim.hidTo (· = ·) Yb ev.size (by simp) (by simp) λj d y g1 g2 g3=>.inl ⟨j,y,rfl,g1,g2,id,λc q=>r.sim.hidKeep g1 g2 (O j d y g1 g2) g.keepRo q⟩⟩
  .intro i b x u z E;obtain⟨p1,p2,p3⟩:=r.sim.own i b x u z E
   grind
  .intro i y x u z;refine(r.sim.blk i y x u z).keep (g.ext0 σ) ?_ ?_
   .grind
   .rintro b c rfl G;exact ev.keepFr c (by grind)
 have hk:=k rr H1 hq;have ad:d<N:=by simp_all
 simp only[hd,Act.put];have r':Rel fr ro σ H (up env d rr) N {a with tmps:=a.tmps.setIfInBounds d v} X:=
  ⟨Y,VR.up (fr:=fr) (λs=>(r.env s).mono (g.ext0 σ)) (by rw[r.size];exact ad) (ac.scalar (ab _ _ hq)),by simpa using r.size,r.defers.keep g⟩
 exact⟨_,rfl,Yo (λe a w q=>q.step g rfl) _ _ _ (hk rd fr ro σ _ X r' (hrd.to g λ_ q=>q))⟩
end
section
variable {P:Program} {o:Oper} {env:Env} {H:Qd}
theorem Qfu{α:Type}:∀(vs:List α) (a i:Nat) (l:List α),a+i+vs.length<=l.length->
  (vs.zipIdx i).foldl (λcs x=>cs.setIfInBounds (a+x.2) x.1) l.toArray=(splice l (a+i) vs).toArray
 |[],a,i,l,h=>by simp[splice]
 |v::vs,a,i,l,h=>by
  simp[X0]at h;rw[List.zipIdx_cons,XD];have e1:l.toArray.setIfInBounds (a+i) v=(splice l (a+i) [v]).toArray:=by
   have:l.toArray.setIfInBounds (a+i) v=(l.set (a+i) v).toArray:=by simp
   rw[this];rw[List.set_eq_take_append_cons_drop,Vs (by omega)];simp[splice]
  rw[e1,Qfu vs a (i+1) _ (by grind)];have d:(l.take (a+i)).length=a+i:=by simp;omega
  unfold splice;have f:a+(i+1)=(l.take (a+i)).length+1:=by omega
  have g:(l.take (a+i)++([v]++l.drop (a+i+[v].length))).take ((l.take (a+i)).length+1)=l.take (a+i)++[v]:=by
   grind
  have e:(l.take (a+i)++([v]++l.drop (a+i+[v].length))).drop ((l.take (a+i)).length+1+vs.length)=l.drop (a+i+(v::vs).length):=by
   rw[show(l.take (a+i)).length+1+vs.length=(l.take (a+i)).length+(1+vs.length)from by omega,Va];simp[Nat.add_comm 1];omega
  simp_all
theorem Qfw{a:Nat->Option (Nat×Nat)}{l:List Value}{i d size:Nat}{v:Value}{m:List Value}{rest:List (Nat×Value)}(e:a i=some (d,size))(f:v.cells=m.toArray)(h:m.length=size)
  (g:d+size<=l.length):Instr.fill a l.toArray ((i,v)::rest)=Instr.fill a (splice l d m).toArray rest:=by
 rw[Instr.fill];simp[e];rw[Vr (by grind),f]
 simp_all[Qfu]
def QaV:Nat->List Operand->List (Nat×Operand)
 |_,[]=>[]
 |i,x::xs=>(i,x)::QaV (i+1) xs
def Yt(env:Env)(xs:List Operand):List (List A):=xs.map λx=>Yd (opA env x)
theorem Qeu{fr ro:Nat->Prop}{σ:Sig}{N:Nat}{a:Act}{w:World}(r:Rel fr ro σ H env N a w){k:Nat}:∀(xs:List Operand) (j:Nat) (pre rest:List Value),pre.length=j*k->rest.length=xs.length*k->
  (xs.all λx=>Yn (opA env x))=true->allK k (Yt env xs)->
  ∃l,Instr.fill (λi=>some (i*k,k)) (pre++rest).toArray ((QaV j xs).map λp=>(p.1,a.eval p.2))=some (pre++l).toArray/\LR ro σ w (Yt env xs).flatten l
 |[],j,pre,rest,h1,h2,_,_=>by
  have:rest=[]:=(by simp_all);subst this;exact⟨[],rfl,rfl⟩
 |x::xs,j,pre,rest,h1,h2,h3,h4=>by
  simp only[List.all_cons,XW]at h3;obtain⟨hk1,hk2⟩:=h4;obtain⟨m,q1,q2⟩:=(Qs r x).cells h3.1;have hm:m.length=k:=by rw[q2.length];exact hk1
  simp[X0,Xm]at h2;simp[QaV,Vj];rw[Qfw rfl q1 hm (by simp;omega)];have e:splice (pre++rest) (j*k) m=(pre++m)++rest.drop k:=by
   unfold splice
   grind[List.drop_length_add_append]
  rw[e];obtain⟨l,f,d⟩:=Qeu r xs (j+1) (pre++m) (rest.drop k) (by grind) (by simp;omega) h3.2 hk2;refine⟨m++l,?_,?_⟩
  .rw[f];simp
  .exact q2.append d
theorem QbG{fr ro:Nat->Prop}{σ:Sig}{N:Nat}{a:Act}{w:World}(r:Rel fr ro σ H env N a w){T e k n:Nat}{xs:List Operand}(E:Q6 P T e k)(u:xs.length=n)(q:Nat.ble (n*k) 16777216=true)
  (m:(xs.all λx=>Yn (opA env x))=true)(h:allK k (Yt env xs)):
  ∃l,(Instr.buildSlice T n (((QaV 0 xs).map λp=>(p.1,a.eval p.2)).toArray)).run P w=.ok (.slice (some ⟨w.heap.size,0,none⟩) n n) (w.alloc (.cells l.toArray e))/\LR ro σ w (Yt env xs).flatten l:=by
 obtain⟨z,y,s⟩:=E.zero;have g:n*k<=16777216:=by simp_all
 have t:∀(c:Array Value) (W:World),(newRow e c).run P W=.ok ⟨W.heap.size,0,none⟩ (W.alloc (.cells c e)):=λc W=>rfl;unfold Instr.buildSlice;by_cases j:n*k=0
 .obtain⟨l,f,d⟩:=Qeu r (k:=k) xs 0 [] [] (by simp) (by grind) m h;refine⟨l,?_,d⟩;simp only[Vm,E.sl,Result.andThen,E.size,j]
  simp_all[Array.range]
 .obtain⟨l,f,d⟩:=Qeu r (k:=k) xs 0 [] ((Array.range (n*k)).map (λi=>z.cells[i%z.cells.size]!)).toList (by simp) (by rw[u];simp) m h;refine⟨l,?_,d⟩;simp only[Vm,E.sl,Result.andThen,E.size,Vr j,XH,y];simp only[Vh]at f;rw[Array.toArray_toList]at f
  simp_all
theorem Qbx{T n:Nat}{xs:List Operand}(a:o.op=.buildSlice T n (QaV 0 xs).toArray)(ρ:Operand->Value){v:Value}{w w':World}
  (h:(Instr.buildSlice T n (((QaV 0 xs).map λp=>(p.1,ρ p.2)).toArray)).run P w=.ok v w'):(execOp ρ o).run P w=.ok (.value v) w':=by
 grind[execOp,Sem.run_bind,Result.andThen,Sem.run_pure]
theorem OpH.lit{T e k n:Nat}{xs:List Operand}{es:List (List A)}(E:Q6 P T e k)(z:o.op=.buildSlice T n (QaV 0 xs).toArray)(q:xs.length=n)(j:Nat.ble (n*(k+1)) 16777216=true)
  (y:(xs.all λx=>Yn (opA env x))=true)(h:Yt env xs=es)(g:allK k es)(u:es.flatten.all Yr=true)(t:Yw es.flatten=true):
  OpH P o env H (.osl H.length 0 n k) (H++[.row e k es]):=by
 intro G p σ N a w r;subst h;have d:=XR j;rw[Nat.mul_add]at d;obtain⟨l,B,f⟩:=QbG r E q (XS (by omega)) y g;have i:LR p [] w (Yt env xs).flatten l:=f.data t;obtain⟨s,m⟩:=Qhv r.sim g i (f.plain u);rw[Vg]at s m;have F:l.length=n*k:=by rw[f.length,YU g];simp[Yt,q]
 refine⟨_,_,p,[some w.heap.size],Qbx z a.eval B,.inr ⟨w.heap.size,0,n,e,l.length,?_,rfl,λ_=>by simp,(by omega),?_,by grind⟩,s,m⟩
 .rw[<- r.sim.len];simp
 .unfold World.shape?;rw[Yu];simp
theorem Jp{n:Int}{y:Nat}{c:BoundsCode}{w:World}(a:0<=n)(d:n<=y):(Instr.sliceBound (.int .i64 n) y c).run P w=.ok n.toNat w:=by
 simp_all[Instr.sliceBound,asIntOf]
theorem QfU{T e:Nat}{k:Nat}{w:World}(E1:∀w,(underlying T).run P w=.ok (.slice e) w)(E2:∀w,(sizeOf e).run P w=.ok k w){ad:Option Addr}{n cap:Nat}{lo hi:Option Value}{l h:Nat}(f:n<=cap)
  (d:lo=none/\l=0\/ ∃z:Int,lo=some (.int .i64 z)/\0<=z/\z.toNat=l)(a:hi=none/\h=n\/ ∃z:Int,hi=some (.int .i64 z)/\0<=z/\z.toNat=h)(g:l<=h)(j:h<=n):
  (Instr.sliceAt T (.slice ad n cap) lo hi none).run P w=.ok (.slice (if cap=l then ad else ad.map (·.add (l*k))) (h-l) (cap-l)) w:=by
 have m:(Instr.sliceBounds true n cap lo hi none).run P w=.ok (l,h,cap) w:=by
  rcases d with⟨rfl,rfl⟩|⟨z,rfl,i,rfl⟩<;>rcases a with⟨rfl,rfl⟩|⟨y,rfl,y0,rfl⟩
  .rfl
  .grind[Instr.sliceBounds,Sem.run_bind,Sem.run_pure,Result.andThen,Jp]
  .grind[Instr.sliceBounds,Sem.run_bind,Sem.run_pure,Result.andThen,Jp]
  .simp[Instr.sliceBounds,Vm,Vn,Result.andThen,Jp y0 (show y<=cap by omega),Jp i (show z<=y.toNat by omega)]
 simp_all[Instr.sliceAt,Instr.slice]
theorem Qa5{fr ro:Nat->Prop}{σ:Sig}{N:Nat}{a:Act}{w:World}(r:Rel fr ro σ H env N a w){x:Option Operand}{l d:Nat}(h:x=none/\l=d\/ ∃y,∃z:Int,x=some y/\opA env y=.int .i64 z/\0<=z/\z.toNat=l):
  x.map a.eval=none/\l=d\/ ∃z:Int,x.map a.eval=some (.int .i64 z)/\0<=z/\z.toNat=l:=by
 rcases h with⟨rfl,rfl⟩|⟨y,z,rfl,g,e,f⟩
 .simp
 grind[QT]
theorem QlG{T e k:Nat}{x:Operand}{lo hi:Option Operand}{es f:List (List A)}{l h:Nat}(E1:∀w,(underlying T).run P w=.ok (.slice e) w)(E2:∀w,(sizeOf e).run P w=.ok k w)(J:o.op=.slice T x lo hi none)
  (t:opA env x=.rsl k es)(m:lo=none/\l=0\/ ∃y,∃z:Int,lo=some y/\opA env y=.int .i64 z/\0<=z/\z.toNat=l)
  (s:hi=none/\h=es.length\/ ∃y,∃z:Int,hi=some y/\opA env y=.int .i64 z/\0<=z/\z.toNat=h)(q:l<=h)(B:h<=es.length)(p:(es.take h).drop l=f):OpV P o env H (.rsl k f):=by
 intro O M σ N a w r;subst p;have j:=Qs r x;rw[t]at j;obtain⟨ad,i,j,E,L⟩:=j;have g:=QfU (w:=w) E1 E2 (ad:=ad) E (Qa5 r m) (Qa5 r s) q B;have d:((es.take h).drop l).length=h-l:=by simp;omega
 refine⟨_,by simp[execOp,J,j,Vm,g,Xk];rfl,(⟨_,i-l,by rw[d],by omega,?_⟩)⟩;rcases L with rfl|⟨b,n,rfl,F,G⟩
 .simp
 .by_cases u:i=l
  .grind
  .right;exact⟨b,n+l*k,by rw[Vr u];simp[QaO],F,((G.take h).drop l)⟩
theorem QlH{T e k i s n:Nat}{x:Operand}{lo hi:Option Operand}{l h:Nat}(E1:∀w,(underlying T).run P w=.ok (.slice e) w)(E2:∀w,(sizeOf e).run P w=.ok k w)(G:o.op=.slice T x lo hi none)
  (J:opA env x=.osl i s n k)(g:lo=none/\l=0\/ ∃y,∃z:Int,lo=some y/\opA env y=.int .i64 z/\0<=z/\z.toNat=l)
  (u:hi=none/\h=n\/ ∃y,∃z:Int,hi=some y/\opA env y=.int .i64 z/\0<=z/\z.toNat=h)(t:l<=h)(E:h<=n):OpV P o env H (.osl i (s+l) (h-l) k):=by
 intro V R σ N a w r;have f:=Qs r x;rw[J]at f;rcases f with⟨rfl,f⟩|⟨b,p,j,B,m,f,O,X,⟨Q,L⟩,F,W⟩
 .have d:=QfU (P:=P) (w:=w) E1 E2 (ad:=none) (XT 0) (Qa5 r g) (Qa5 r u) t E;refine⟨_,by simp only[execOp,G,f,Vm,d,Xk];rfl,?_⟩;left
  grind
 .have d:=QfU (w:=w) E1 E2 (ad:=some ⟨b,p,none⟩) Q (Qa5 r g) (Qa5 r u) t E;refine⟨_,by simp only[execOp,G,O,Vm,d,Xk];rfl,?_⟩;right;by_cases M:j=l
  .refine⟨b,p,0,B,m,f,by grind,λq=>by omega,by omega,F,?_⟩
   grind
  .refine⟨b,p+l*k,j-l,B,m,f,by rw[Vr M];simp[QaO],λq=>by grind,by omega,F,?_⟩
   grind
theorem OpV.max{c:Call}{x y:Operand}{k:IntKind}{m n:Int}(j:o.op=.call c)(f:c={callee:=.builtin .max,args:= #[x,y],argTypes:=c.argTypes})(g:opA env x=.int k m)(i:opA env y=.int k n):
  OpV P o env H (.int k (if m<n then n else m)):=by
 intro p q σ N a w r;have l:=QT r g;have h:=QT r i;refine⟨_,?_,rfl⟩;generalize a.eval=ρ at*;have d:c.callee=.builtin .max:=by rw[f]
 have e:c.args= #[x,y]:=by rw[f]
 simp only[execOp,j,resolve,d,e,invoke,Vm,Result.andThen];simp[Builtin.max_,Builtin.max2,l,h,go_sem]
theorem OpV.min{c:Call}{x y:Operand}{k:IntKind}{m n:Int}(j:o.op=.call c)(f:c={callee:=.builtin .min,args:= #[x,y],argTypes:=c.argTypes})(g:opA env x=.int k m)(i:opA env y=.int k n):
  OpV P o env H (.int k (if n<m then n else m)):=by
 intro p q σ N a w r;have l:=QT r g;have h:=QT r i;refine⟨_,?_,rfl⟩;generalize a.eval=ρ at*;have d:c.callee=.builtin .min:=by rw[f]
 have e:c.args= #[x,y]:=by rw[f]
 simp only[execOp,j,resolve,d,e,invoke,Result.andThen];simp[Builtin.min_,Builtin.min2,l,h,go_sem]
end
section
variable {P:Program} {h0 N:Nat} {env:Env} {H:Qd} {Q:QG} {c c':Code}
def CutP(h0:Nat)(Eb:Env)(Hb:Qd)(Q:QG):QG
 |.normal,env,H=>Le h0 env H Eb Hb
 |.exit id,env,H=>Q (.exit id) env H
 |.ret,env,H=>Q .ret env H
theorem TC.cut(Eb:Env)(Hb:Qd)(h:TC P h0 N c env H (CutP h0 Eb Hb Q))(k:∀env H,Le h0 env H Eb Hb->Q .normal env H):TC P h0 N c env H Q:=
 h.mono λx env' H' q=>by
  cases x with
  |normal=>exact k _ _ q
  |exit id=>exact q
  |ret=>exact q
theorem seqN(h:TC P h0 N c env H Q):Seq P h0 N c Q .normal env H:=h
theorem seqX{id:Nat}(h:Q (.exit id) env H):Seq P h0 N c Q (.exit id) env H:=h
theorem seqR(h:Q .ret env H):Seq P h0 N c Q .ret env H:=h
theorem bloN{id:Nat}(h:Q .normal env H):Blo id Q .normal env H:=h
theorem bloE{id:Nat}(h:Q .normal env H):Blo id Q (.exit id) env H:=by simp_all[Blo]
theorem bloX{id a:Nat}(e:Nat.beq a id=false)(h:Q (.exit a) env H):Blo id Q (.exit a) env H:=by simp[Blo,e];exact h
theorem bloR{id:Nat}(h:Q .ret env H):Blo id Q .ret env H:=h
def QfN{S B:Type}(h0:Nat)(b:Ctl S B)(Eb:S->Env)(Hb:S->Qd)(Q:QG):QG
 |.normal,env,H=>∃s,b=.cont s/\Le h0 env H (Eb s) (Hb s)
 |.exit id,env,H=>Q (.exit id) env H
 |.ret,env,H=>Q .ret env H
theorem QmL{S B:Type}{b:Ctl S B}(Eb:S->Env)(Hb:S->Qd)(h:TC P h0 N c env H (QfN h0 b Eb Hb Q))(k:∀s env H,b=.cont s->Le h0 env H (Eb s) (Hb s)->Q .normal env H):TC P h0 N c env H Q:=
 h.mono λx env' H' q=>by
  cases x with
  |normal=>obtain⟨s,e,q⟩:=q;grind
  |exit id=>exact q
  |ret=>exact q
section
variable {S B:Type} {b:Ctl S B} {Eb:S->Env} {Hb:S->Qd}
theorem Yp{s:S}(e:b=.cont s)(h:Le h0 env H (Eb s) (Hb s)):QfN h0 b Eb Hb Q .normal env H:=⟨s,e,h⟩
theorem Ql(h:Q .ret env H):QfN h0 b Eb Hb Q .ret env H:=h
end
theorem QlB{x:Operand}{t:Bool}(hx:opA env x=.bool t)(h:t=true)(ht:TC P h0 N c env H Q):TC P h0 N (.cond x c c') env H Q:=TC.cond hx (λ_=>ht) (λq=>by grind)
theorem QlC{x:Operand}{t:Bool}(hx:opA env x=.bool t)(h:t=false)(hf:TC P h0 N c' env H Q):TC P h0 N (.cond x c c') env H Q:=TC.cond hx (λq=>by grind) (λ_=>hf)
section
variable {S B:Type} {I:S->Env->Qd->Prop}
theorem Qj{s:S}{d:Ctl S B}(e:some (Ctl.cont s)=some d)(h:I s env H):Qbh I d Q .normal env H:=⟨s,(by grind),h⟩
theorem Qk{id:Nat}{b:B}{d:Ctl S B}(e:some (Ctl.done b)=some d)(h:Q (.exit id) env H):Qbh I d Q (.exit id) env H:=⟨(by grind),h⟩
theorem Qp{b:B}{d:Ctl S B}(e:some (Ctl.done b)=some d)(h:Q .ret env H):Qbh I d Q .ret env H:=⟨(by grind),h⟩
end
end
theorem Yh{α β:Type}{x:Option α}{f:α->Option β}{r:β}(h:x.bind f=some r):∃a,x=some a/\f a=some r:=Option.bind_eq_some_iff.1 h
def idx{α:Type}(l:List α)(i:Int):Option α:=bif decide (0<=i)then l[i.toNat]? else none
theorem Qbn{α:Type}{l:List α}{i:Int}{x:α}(h:idx l i=some x):0<=i/\l[i.toNat]?=some x:=by
 grind[idx]
def app{α:Type}(l m:List α):Option (List α):=bif Nat.ble (l.length+m.length) Ys then some (l++m)else none
theorem QnJ{α:Type}{l m r:List α}(h:app l m=some r):l.length+m.length<=Ys/\l++m=r:=by
 unfold app at h;cases q:Nat.ble (l.length+m.length) Ys with
 |true=>simp_all
 |false=>grind
def slc{α:Type}(l:List α)(lo hi:Int):Option (List α):=bif decide (0<=lo)&&decide (lo<=hi)&&decide (hi<=(l.length:Int))then some ((l.take hi.toNat).drop lo.toNat)else none
theorem Qc6{α:Type}{l r:List α}{lo hi:Int}(h:slc l lo hi=some r):0<=lo/\lo<=hi/\hi<=l.length/\(l.take hi.toNat).drop lo.toNat=r:=by
 grind[slc]
def Qc7{α:Type}(l:List α)(i:Int)(x:α):Option (List α):=bif decide (0<=i)&&decide (i<(l.length:Int))then some (l.set i.toNat x)else none
theorem Qf0{α:Type}{e:α->List A}{l:List α}{i:Nat}{x:α}(h:l[i]?=some x):(l.map e)[i]?=some (e x):=by simp[h]
section
variable {P:Program} {h0 N:Nat} {env:Env} {H H':Qd} {Q:QG} {all:Array Oper} {o:Oper} {l:List Oper} {d:Nat} {x:A}
theorem vV(a:OpV P o env H x)(k:WO P h0 N all l (up env d x) H Q)(hg:QI all o env true:=by exact rfl)(hd:o.dst=some d:=by exact rfl)(hN:Nat.blt d N=true:=by exact rfl):WO P h0 N all (o::l) env H Q:=
 Y8 hg hd hN a k
theorem vH(a:OpH P o env H x H')(k:WO P h0 N all l (up env d x) H' Q)(hg:QI all o env true:=by exact rfl)(hd:o.dst=some d:=by exact rfl)(hN:Nat.blt d N=true:=by exact rfl)(hh:Nat.ble h0 H.length=true:=by exact rfl):WO P h0 N all (o::l) env H Q:=
 Qh9 (by simp_all) hg hd hN a k
theorem vU(a:OpU P o env H H')(k:WO P h0 N all l env H' Q)(hg:QI all o env true:=by exact rfl)(hd:o.dst=none:=by exact rfl)(hh:Nat.ble h0 H.length=true:=by exact rfl):WO P h0 N all (o::l) env H Q:=
 Qlt (by simp_all) hg hd a k
theorem gT{j s:Nat}{c x:Bool}(a:x=c)(hg:o.guard=some (j,c):=by exact rfl)(hs:(all[j]?).bind (·.dst)=some s:=by exact rfl)(hl:lk env s=.bool x:=by exact rfl):QI all o env true:=by
 simp_all[QI]
theorem QbU{x x':A}(a:x'=x)(e:H'=H)(k:WO P h0 N all l (up env d x) H Q):WO P h0 N all l (up env d x') H' Q:=by grind
theorem Qlw(a:H'=H)(k:WO P h0 N all l env H Q):WO P h0 N all l env H' Q:=by grind
theorem Qw{f:FuncId}{args a:List A}{Hc:Qd}{Qr:A->Qd->Prop}(π:List Nat)(e:OpC P o env H f args)(g:C P f a Hc Qr)
  (k:∀r H1,Qr r H1->WO P h0 N all l (up env d (YK (rho π H.length) r)) (QW H π (H1.map (QZ (rho π H.length)))) Q)
  (hargs:args=Qak (rho π H.length) a:=by exact rfl)(hH:π.map (λp=>H[p]?)=(Hc.map (QZ (rho π H.length))).map some:=by exact rfl)(hπ:π.Nodup:=by decide)
  (hg:QI all o env true:=by exact rfl)(hd:o.dst=some d:=by exact rfl)(hN:Nat.blt d N=true:=by exact rfl)(hh:Nat.ble h0 H.length=true:=by exact rfl):WO P h0 N all (o::l) env H Q:=
 WO.call π (by simp_all) hg hd (λx h=>by simp_all) e hargs hH hπ g k
end
section
variable {P:Program} {o:Oper} {env:Env} {H:Qd} {α:Type} {e:α->List A}
theorem QeY{c:Call}{t d k:Nat}{x:Operand}{l:List α}(a:∀w,(underlying t).run P w=.ok (.slice d) w)(f:o.op=.call c:=by exact rfl)(hc:c={callee:=.builtin .len,args:= #[x],argTypes:= #[t]}:=by exact rfl)
  (hx:opA env x=.rsl k (l.map e):=by exact rfl):OpV P o env H (.int .i64 l.length):=by
 have:=QlE (H:=H) f hc a hx
 grind
theorem Js{t a k:Nat}{x y:Operand}{l:List α}{d:IntKind}{i:Int}{v:α}(h:idx l i=some v)(g:∀w,(underlying t).run P w=.ok (.slice a) w)(j:∀w,(sizeOf a).run P w=.ok k w)
  (f:o.op=.indexAddr t x y:=by exact rfl)(hx:opA env x=.rsl k (l.map e):=by exact rfl)(hy:opA env y=.int d i:=by exact rfl):OpV P o env H (.rp (e v)):=
 QmO f g j hx hy (Qbn h).1 (Qf0 (Qbn h).2)
theorem Y7{t a k b n:Nat}{x y:Operand}{l:List α}{d:IntKind}{i:Int}{v:α}(h:idx l i=some v)(p:l.length=n)(e:∀w,(underlying t).run P w=.ok (.slice a) w)(j:∀w,(sizeOf a).run P w=.ok k w)
  (g:o.op=.indexAddr t x y:=by exact rfl)(hx:opA env x=.osl b 0 n k:=by exact rfl)(hy:opA env y=.int d i:=by exact rfl):OpV P o env H (.ptr b (i.toNat*k)):=by
 have:=Qbn h;have f:i.toNat<l.length:=(by grind);have m:=QiV (H:=H) g e j hx hy this.1 (by omega)
 grind
theorem YA{b t k:Nat}{l:List α}{i:Int}{v:α}{a:List A}(h:idx l i=some v)(d:H[b]?=some (.row t k (l.map e)):=by exact rfl)(hcs:e v=a:=by exact rfl):Pts H (.ptr b (i.toNat*k)) a:=
 Pts.row (f:=0) d rfl (Qf0 (Qbn h).2) hcs
theorem QQ{c:Call}{T T' et et' k i n:Nat}{x y:Operand}{a:A}{l m r:List α}(h:app l m=some r)(E:Q6 P T et k)(f:∀w,(underlying T').run P w=.ok (.slice et') w)(g:Src P H a k (m.map e))
  (d:l.length=n:=by exact rfl)(ho:o.op=.call c:=by exact rfl)(hc:c={callee:=.builtin .append,args:= #[x,y],argTypes:= #[T,T']}:=by exact rfl)(hx:opA env x=.osl i 0 n k:=by exact rfl)
  (hH:H[i]?=some (.row et k (l.map e)):=by exact rfl)(hy:opA env y=a:=by exact rfl):
  OpH P o env H (.osl H.length 0 r.length k) (H.set i .dead++[.row et k (r.map e)]):=by
 obtain⟨j,rfl⟩:=QnJ h;subst d;have:=Qht E f ho hc hx hH (by simp) hy g (by grind) (gs:=(l++m).map e) (by rw[VH (by simp)];simp)
 grind
theorem Qib{k:Nat}{l:List α}:Src P H (.rsl k (l.map e)) k (l.map e):=Src.rsl
theorem YN{i n k t:Nat}{l:List α}(a:H[i]?=some (.row t k (l.map e)):=by exact rfl)(hn:l.length=n:=by exact rfl):Src P H (.osl i 0 n k) k (l.map e):=
 Src.osl a (by grind[List.take_of_length_le]) (by simp[hn])
theorem Jt{t n b T k f:Nat}{x y:Operand}{l l':List α}{i:Int}{v m:α}{vs:List A}{a:A}{g:Nat}(h:idx l i=some v)(r:Qc7 l i m=some l')(q:∀w,(sizeOf t).run P w=.ok n w)(d:g=i.toNat*k+f)(j:splice (e v) f vs=e m)
  (p:o.op=.store t x y:=by exact rfl)(hx:opA env x=.ptr b g:=by exact rfl)(hH:H[b]?=some (.row T k (l.map e)):=by exact rfl)
  (hy:opA env y=a:=by exact rfl)(hk:Yn a=true:=by exact rfl)(hv:Yd a=vs:=by exact rfl)(hn:vs.length=n:=by exact rfl)(hp:vs.all Yr=true:=by exact rfl)(hd:Yw vs=true:=by exact rfl)(hf:Nat.ble (f+n) k=true:=by exact rfl):
  OpU P o env H (H.set b (.row T k (l'.map e))):=by
 refine Qgm p hx hH q d (Qf0 (Qbn h).2) hy hk hv hn hp hd hf j ?_
 grind[Qc7,List.map_set]
end
def ZR(a:A)(v:Value):Prop:=∀ro σ w,VR ro σ w a v
def ZL(az:List A)(l:List Value):Prop:=∀ro σ w,LR ro σ w az l
theorem ZR.int{k:IntKind}{n:Int}:ZR (.int k n) (.int k n):=λ_ _ _=>rfl
theorem ZR.bool{b:Bool}:ZR (.bool b) (.bool b):=λ_ _ _=>rfl
theorem ZR.str:ZR (.str []) (.string ⟨#[]⟩):=λ_ _ _=>rfl
theorem ZR.rsl{α:Type}{k:Nat}{e:α->List A}:ZR (.rsl k (List.map e [])) (.slice none 0 0):=λ_ _ _=>⟨none,0,rfl,XT _,.inl rfl⟩
theorem ZR.nils:ZR .nils (.slice none 0 0):=λ_ _ _=>rfl
theorem ZR.nilp:ZR .nilp (.pointer none):=λ_ _ _=>rfl
theorem ZR.nilf:ZR .nilf .nilFunc:=λ_ _ _=>rfl
theorem ZR.nilm:ZR .nilm (.map none):=λ_ _ _=>rfl
theorem QmI:ZR .nilif .nilIface:=λ_ _ _=>rfl
theorem ZL.nil:ZL [] []:=λ_ _ _=>rfl
theorem ZL.cons{a:A}{v:Value}{az:List A}{l:List Value}(h:ZR a v)(k:ZL az l):ZL (a::az) (v::l):=λro σ w=>⟨v,l,rfl,h ro σ w,k ro σ w⟩
theorem ZR.agg{az:List A}{l:List Value}(h:ZL az l):ZR (.agg az) (.agg l.toArray):=λro σ w=>⟨l,rfl,h ro σ w⟩
section
variable {P:Program} {o:Oper} {env:Env} {H:Qd}
theorem Qag{t:Nat}{z:Value}{v:A}{d:List A}(m:∀w,(zeroValue t).run P w=.ok z w)(i:ZR v z)(k:o.op=.alloc t:=by exact rfl)(hk:Yn v=true:=by exact rfl)(hcs:Yd v=d:=by exact rfl)(hpl:d.all Yr=true:=by exact rfl):
  OpH P o env H (.ptr H.length 0) (H++[.cells t d]):=by
 intro j f σ N a w r;obtain⟨l,h,g⟩:=(i f σ w).cells hk;subst hcs;refine⟨.pointer (some ⟨w.heap.size,0,none⟩),w.alloc (.cells l.toArray t),f,[some w.heap.size],?_,⟨w.heap.size,?_,rfl⟩,r.sim.allocCells g (g.plain hpl),Qm.alloc _ r.sim.roLt r.sim.frLt⟩
 .have e:(newVar t z).run P w=.ok ⟨w.heap.size,0,none⟩ (w.alloc (.cells l.toArray t)):=by
   unfold newVar;rw[h];rfl
  simp_all[execOp,Instr.alloc]
 .rw[<- r.sim.len];simp
theorem Qh2{t:TypeId}{p q:Bool}{w:World}(a:∀w,(underlying t).run P w=.ok .bool w):(Op.equal t (.bool p) (.bool q)).run P w=.ok (p==q) w:=by
 have k:∀d,(Op.equalIn (d+1) t (.bool p) (.bool q)).run P w=.ok (p==q) w:=by
  simp[Op.equalIn,a]
 exact k 9999
theorem Qe2{t u:TypeId}{x y:Operand}{p q:Bool}(g:∀w,(underlying t).run P w=.ok .bool w)(e:o.op=.binOp .neq t x y u:=by exact rfl)(hx:opA env x=.bool p:=by exact rfl)(hy:opA env y=.bool q:=by exact rfl):OpV P o env H (.bool (p != q)):=by
 intro h i σ N a w r;have d:=QcD r hx;have f:=QcD r hy;refine⟨_,?_,rfl⟩
 simp_all[execOp,Go.binOp,eqGuard,Qh2,bne]
theorem QP{t:TypeId}{x y:Operand}{s:List UInt8}{k:IntKind}{i:Int}{c:UInt8}(h:idx s i=some c)(a:∀w,(underlying t).run P w=.ok .string w)(d:o.op=.index t x y:=by exact rfl)(hx:opA env x=.str s:=by exact rfl)(hy:opA env y=.int k i:=by exact rfl):
  OpV P o env H (.int .u8 c.toNat):=QjT d a hx hy (Qbn h).1 (Qbn h).2
theorem QlI{α:Type}{e:α->List A}{T et k:Nat}{x:Operand}{lo hi:Option Operand}{l r:List α}{a b:Int}(h:slc l a b=some r)(E1:∀w,(underlying T).run P w=.ok (.slice et) w)(E2:∀w,(sizeOf et).run P w=.ok k w)
  (g:lo=none/\a=0\/ ∃y,lo=some y/\opA env y=.int .i64 a)(d:hi=none/\b=l.length\/ ∃y,hi=some y/\opA env y=.int .i64 b)
  (f:o.op=.slice T x lo hi none:=by exact rfl)(hx:opA env x=.rsl k (l.map e):=by exact rfl):OpV P o env H (.rsl k (r.map e)):=by
 obtain⟨i,m,j,rfl⟩:=Qc6 h;refine QlG (l:=a.toNat) (h:=b.toNat) E1 E2 f hx ?_ ?_ (by omega) (by simp;omega) (by simp)
 .grind
 grind
theorem QjW{c:Call}{t d i n k:Nat}{x:Operand}(a:∀w,(underlying t).run P w=.ok (.slice d) w)(e:o.op=.call c:=by exact rfl)(hc:c={callee:=.builtin .len,args:= #[x],argTypes:= #[t]}:=by exact rfl)
  (hx:opA env x=.osl i 0 n k:=by exact rfl):OpV P o env H (.int .i64 n):=QlF e hc a hx
end
def Qe(k:IntKind)(n:Int):List A:=[.int k n]
def Y4(b:Bool):List A:=[.bool b]
def Jl(s:List UInt8):List A:=[.str s]
def QN{α:Type}(k:Nat)(e:α->List A)(l:List α):List A:=[.rsl k (l.map e)]
theorem Qgv{P:Program}{rd:Option Nat}{o:Oper}{a:Act}{next:Act->World->Prop}{Q:Exit->Act->World->Prop}{e:Result Next}
  (k:∀a' w',next a' w'->a'.defers=a.defers)(h:o.uponIn (WF rd) 0 P a next Q e):
  o.uponIn (WF rd) 0 P a (λa' w'=>next a' w'/\ ∃v,a'=a.put o.dst v) Q e:=by
 cases e with
 |ok n w'=>
  cases n with
  |value v=>exact⟨h,_,rfl⟩
  |skip=>exact⟨h,_,rfl⟩
  |defer d=>
   have:=congrArg List.length (k _ _ h)
   revert this
   cases o.dst<;>simp[Act.put]
  |enter f g=>
   exact⟨h.1,CallsIn.mono h.2 (by grind)⟩
  |row r g=>exact⟨h.1,RowsIn.mono h.2 (by grind)⟩
  |round l f j assign i=>exact⟨h.1,RoundIn.mono h.2 (by grind)⟩
  |_=>exact h.elim
 |halt x w'=>cases x<;>first|exact h|exact h.elim
def YR(e:Env)(H:Qd):QG:=λx e' H'=>x=.normal/\e'=e/\H'=H
theorem YR.mk{e:Env}{H:Qd}:YR e H .normal e H:=⟨rfl,rfl,rfl⟩
inductive Sb (af bf ds:List Nat) (xs:List A) (env0:Env):Env->Prop
 |nil:Sb af bf ds xs env0 []
 |dep (j:Nat) {s:Nat} {a:A} {r:Env} (h1:af.contains j=true) (h2:ds[j]?=some s) (h3:xs[j]?=some a) (k:Sb af bf ds xs env0 r):Sb af bf ds xs env0 ((s,a)::r)
 |old {s:Nat} {a:A} {r:Env} (h1:ds.contains s=false) (h2:lk env0 s=a) (k:Sb af bf ds xs env0 r):Sb af bf ds xs env0 ((s,a)::r)
 |pre (j:Nat) {s:Nat} {a:A} {r:Env} (h1:bf.contains j=true) (h2:ds[j]?=some s) (h3:lk env0 s=a) (k:Sb af bf ds xs env0 r):Sb af bf ds xs env0 ((s,a)::r)
def Qn(o:Oper):List Nat:=(o.after.toList.filter (Region.binds .any)).map (·.on)
def Qgg(l:List Oper)(i:Nat):List Nat:=(List.range l.length).filter λj=>((l[j]?).map Qn).getD [] |>.contains i
inductive QdG (P:Program) (N:Nat) (l:List Oper) (ds:List Nat) (xs:List A) (env0:Env) (i:Nat) (H H':Qd):Prop
 |mk (o:Oper) (e:Env) (d:Nat) (x:A) (ho:l[i]?=some o) (hd:o.dst=some d) (hx:xs[i]?=some x) (hs:Sb (Qn o) (Qgg l i) ds xs env0 e)
   (h:WO P H.length N l.toArray [o] e H (YR (up e d x) H')):QdG P N l ds xs env0 i H H'
theorem QdG.use{P:Program}{N:Nat}{l:List Oper}{J:List Nat}{xs:List A}{env0:Env}{i:Nat}{H H':Qd}(u:QdG P N l J xs env0 i H H')
  {Q:Exit->Act->World->Prop}{K:Act->World->Prop}{fr ro:Nat->Prop}{σ:Sig}{a:Act}{w:World}{o:Oper}{rd:Option Nat}(ho:l[i]?=some o)
  (p:Sim fr ro σ H w)(hN:a.tmps.size=N)(z:Qbz fr a.defers w)(O:QdL rd fr w)
  (hD:∀j∈Qn o,∀s x,J[j]?=some s->xs[j]?=some x->VR ro σ w x (a.tmps.getD s undef))
  (hE:∀s,J.contains s=false->VR ro σ w (lk env0 s) (a.tmps.getD s undef))(hP:∀j s,(Qgg l i).contains j=true->J[j]?=some s->VR ro σ w (lk env0 s) (a.tmps.getD s undef))
  (hK:∀v w' ro' τ d x,o.dst=some d->xs[i]?=some x->VR ro' (σ++τ) w' x ((a.put o.dst v).tmps.getD d undef)->Sim fr ro' (σ++τ) H' w'->Qm fr ro w ro' w'->K (a.put o.dst v) w'):
  wpOpIn (WF rd) 0 P l.toArray Q i K a w:=by
 obtain⟨y,e,d,x,R,hd,hx,hs,h⟩:=u;obtain rfl:y=o:=XZ (R.symm.trans ho);have F:Rel fr ro σ H e N a w:=by
  refine⟨p,?_,hN,z⟩;intro s;clear h
  induction hs with
  |nil=>exact trivial
  | @dep j s1 t r k g h3 _ ih=>
   unfold lk;cases u:Nat.beq s s1 with
   |false=>exact ih
   |true=>
    obtain rfl:=XQ u
    grind
  | @old s1 t r k g _ ih=>
   unfold lk;cases u:Nat.beq s s1 with
   |false=>exact ih
   |true=>
    obtain rfl:=XQ u
    grind
  | @pre j s1 t r k g h3 _ ih=>
   unfold lk;cases u:Nat.beq s s1 with
   |false=>exact ih
   |true=>
    obtain rfl:=XQ u
    grind
 have E:=h rd fr ro σ a w F O;have fin:∀v w',Qby H.length fr ro σ w N a.defers (YR (up e d x) H') .normal (a.put y.dst v) w'->K (a.put y.dst v) w':=by
  rintro v w' ⟨_,X,H2,ro',σ',aa,_,⟨_,rfl,rfl⟩,W,m,ht,_,L⟩;have hσ:σ'=σ++σ'.drop H.length:=by
   conv=>lhs;rw[<- Xz H.length σ']
   rw[ht, <- p.len,X9]
  have G:=W.env d;unfold lk at G;rw[VE]at G;rw[hσ]at G;refine hK v w' ro' (σ'.drop H.length) d x hd hx G ?_ m;rw[<- hσ];exact W.sim.frMono L.sub
 unfold wpOpIn;have V:l.toArray[i]?=some y:=by simpa using ho
 rw[V];simp only;unfold wpL wpListIn at E;split at E
 .rename_i hw;rw[Vs hw];obtain⟨M,E⟩:=E;refine⟨M,?_⟩;have g:=Qgv (by
   intro a' w' q;unfold wpListIn at q;obtain⟨_,_,_,_,_,_,_,_,_,_,_,q,_⟩:=q;exact q) E
  generalize(y.semAt (WF rd).round a.eval).run P w=res at*;cases res with
  |ok n w'=>
   cases n with
   |value v=>exact fin _ _ g.1
   |skip=>exact fin _ _ g.1
   |defer df=>
    exfalso;obtain⟨⟨_,_,_,_,_,_,_,_,_,_,_,q,_⟩,_⟩:=g;have:=congrArg List.length q
    revert this
    cases y.dst<;>simp[Act.put]
   |enter f B=>
    refine⟨g.1,CallsIn.mono g.2 (λe T m=>?_)⟩;cases e with
    |returned v=>exact fin _ _ m.1
    |panicked c=>obtain⟨t,_,_,_,_,_,k,⟨rfl,_⟩,_⟩:=m;exact k.elim
    |outgrown=>obtain⟨a1,w1,t,_,_,_,_,_,k,⟨rfl,_⟩,_⟩:=m;exact k.elim
   |row r B=>
    exact⟨g.1,RowsIn.mono g.2 (λ_ _ m=>fin _ _ m.1)⟩
   |round l f tmps assign Y=>
    refine⟨g.1,RoundIn.mono g.2 (λe T m=>?_)⟩;cases e with
    |returned v=>exact fin _ _ m.1
    |panicked c=>obtain⟨t,_,_,_,_,_,k,⟨rfl,_⟩,_⟩:=m;exact k.elim
    |outgrown=>obtain⟨a1,w1,t,_,_,_,_,_,k,⟨rfl,_⟩,_⟩:=m;exact k.elim
   |_=>exact g.elim
  |halt x w'=>
   cases x with
   |panic v=>obtain⟨t,_,_,_,_,_,k,⟨rfl,_⟩,_⟩:=g;exact k.elim
   |_=>exact g.elim
 simp_all[wpListIn]
theorem least{p:Nat->Prop}(a:∀i,p i\/ ¬p i):∀n,p n->∃i,i<=n/\p i/\ ∀j,j<i->¬p j:=by
 intro n
 induction n using Nat.strongRecOn with
 |ind n d=>
  grind
def onL(L:Array Bool)(i:Nat):Prop:=L[i]?=some true
theorem QaF{l:List Oper}{L:Array Bool}(m:L.size=l.length){i:Nat}:
  i∈Region.ready .any l.toArray L↔ ∃o,l[i]?=some o/\ ¬onL L i/\ ∀j∈Qn o,onL L j:=by
 unfold Region.ready;simp only[Xd,List.mem_range,XW,XG];have f:∀j,L.getD j false=true↔onL L j:=by
  intro j;unfold onL;rw[Array.getD_eq_getD_getElem?]
  grind
 constructor
 .rintro⟨d,h,a⟩;refine⟨l[i],(by simp),?_,?_⟩
  .grind
  .rw[XK d]at a;simp only[Xj,Option.getD_some,Array.all_eq_true']at a;intro j k;unfold Qn at k
   grind
 .rintro⟨o,d,h,a⟩;have g:i<l.length:=(by grind);refine⟨g,?_,?_⟩
  .grind
  .rw[d];simp only[Xj,Option.getD_some,Array.all_eq_true'];intro e n;cases p:Region.binds .any e with
   |false=>simp
   |true=>
    have:=(f _).2 (a e.on (by unfold Qn;grind))
    grind
theorem Jq{L:Array Bool}{i j:Nat}(hi:i<L.size):onL (L.setIfInBounds i true) j↔j=i\/onL L j:=by
 grind[onL]
def unl(L:Array Bool):Nat:=L.toList.countP (!·)
theorem QfR{L:Array Bool}{i:Nat}(hi:i<L.size)(h:¬onL L i):unl (L.setIfInBounds i true)+1=unl L:=by
 unfold unl;have a:L.toList[i]=false:=by
  grind[onL]
 grind
theorem Qiq{L:Array Bool}{i:Nat}(hi:i<L.size)(h:¬onL L i):0<unl L:=by have:=QfR hi h;omega
inductive Qci (l:List Oper) (m:Nat):Nat->Prop
 |one {o:Oper} {j:Nat} (ho:l[m]?=some o) (hj:j∈Qn o):Qci l m j
 |step {o:Oper} {i j:Nat} (h:Qci l m i) (ho:l[i]?=some o) (hj:j∈Qn o):Qci l m j
def Qei(l:List Oper):Nat->List Nat->List Nat
 |0,S=>S
 |j+1,S=>Qei l j (bif S.contains j then S++(match l[j]? with|some o=>Qn o|none=>[])else S)
theorem Qb1{l:List Oper}{m:Nat}:∀(n:Nat) (S:List Nat),(∀j∈S,Qci l m j)->∀j∈Qei l n S,Qci l m j
 |0,S,h,j,hj=>h j hj
 |n+1,S,h,j,hj=>by
  refine Qb1 n _ ?_ j hj;intro i hi;cases q:S.contains n with
  |false=>grind
  |true=>
   rw[q]at hi;rcases VC.1 hi with z|z
   .exact h i z
   .cases ho:l[n]? with
    |none=>grind
    |some o=>rw[ho]at z;exact .step (by grind) ho z
def Qas(ds:List Nat)(xs:List A)(env0:Env):Env:=ds.zip xs++env0
theorem Ql9{a:List Nat}{xs:List A}{env0:Env}(e:a.length=xs.length)(s:Nat):
  (∃(j:Nat) (x:A),a[j]?=some s/\xs[j]?=some x/\lk (Qas a xs env0) s=x)\/(a.contains s=false/\lk (Qas a xs env0) s=lk env0 s):=by
 unfold Qas
 induction a generalizing xs with
 |nil=>simp
 |cons d a i=>
  cases xs with
  |nil=>simp at e
  |cons x xs=>
   simp[X0,Nat.add_right_cancel_iff]at e;simp only[List.zip_cons_cons,VJ,lk];cases h:Nat.beq s d with
   |true=>
    obtain rfl:=XQ h;left;exact⟨0,x,rfl,rfl,by simp⟩
   |false=>
    have f:s≠d:=λq=>by simp_all
    rcases i e with⟨j,y,k,g,l⟩|⟨k,g⟩
    .left;exact⟨j+1,y,by grind,by grind,by grind⟩
    grind
def drawChk.nodupB:List Nat->Bool
 |[]=>true
 |x::r=> !r.contains x&&drawChk.nodupB r
def drawChk.goB(l:List Oper)(m:Nat):Nat->List Oper->Bool
 |_,[]=>true
 |i,o::r=>(Qn o).all (λj=>Nat.blt j i)&&(bif Nat.beq i m then(List.range m).all (λj=>(Qei l m (Qn o)).contains j)else bif Nat.blt m i then(Qn o).contains (i-1)else true)&&drawChk.goB l m (i+1) r
def drawChk.loB(m k:Nat)(los:List Nat)(hs:List Bool):Nat->List Oper->Bool
 |_,[]=>(List.range k).all λj=>(List.range m).any λi=>hs.getD i false&&Nat.beq (los.getD i 0) j
 |i,o::r=>(bif Nat.blt i m then
   (Nat.beq (los.getD i 0) 0||(Qn o).any (λj=>Nat.blt j m&&Nat.ble (los.getD i 0) (los.getD j 0+(if hs.getD j false then 1 else 0))))
   &&(!hs.getD i false||(Nat.blt (los.getD i 0) k&&(List.range m).all (λj=> !hs.getD j false|| !Nat.beq (los.getD i 0) (los.getD j 0)||Nat.beq i j)))
  else true)&&drawChk.loB m k los hs (i+1) r
def drawChk(l:List Oper)(m k N:Nat)(ds los:List Nat)(hs:List Bool):Bool:=
 Nat.ble m l.length&&(ds.length==m)&&(l.take m).map (·.dst)==ds.map some&&ds.all (λd=>Nat.blt d N)&&drawChk.nodupB ds
 &&drawChk.goB l m 0 l&&(drawChk.loB m k los hs 0 l)
theorem Qdt{a:List Nat}(h:drawChk.nodupB a=true):∀(i j d:Nat),a[i]?=some d->a[j]?=some d->i=j:=by
 induction a with
 |nil=>simp
 |cons x r e=>
  simp[drawChk.nodupB,XW]at h
  grind
theorem QgT{l:List Oper}{m:Nat}:∀(r:List Oper) (b:Nat),drawChk.goB l m b r=true->∀(i:Nat) (o:Oper),r[i]?=some o->
  (∀j∈Qn o,j<b+i)/\(b+i=m->∀j,j<m->j∈Qei l m (Qn o))/\(m<b+i->b+i-1∈Qn o):=by
 intro r
 induction r with
 |nil=>simp
 |cons x r f=>
  intro b h i o e;simp only[drawChk.goB]at h;cases i with
  |zero=>
   simp at e;refine⟨λj a=>?_,λd j a=>?_,λd=>?_⟩
   .simp_all
   .simp_all
   .have k:Nat.beq b m=false:=by
     cases q:Nat.beq b m with
     |false=>rfl
     |true=>simp_all
    have g:Nat.blt m b=true:=by simp_all
    grind
  |succ i=>
   grind
inductive Ob (P:Program) (N:Nat) (l:List Oper) (ds:List Nat) (xs:List A) (env0:Env):Nat->List (List (Qd×Qd))->Prop
 |nil {i:Nat}:Ob P N l ds xs env0 i []
 |cons {i:Nat} {s:List (Qd×Qd)} {r:List (List (Qd×Qd))} (h:∀p∈s,QdG P N l ds xs env0 i p.1 p.2) (k:Ob P N l ds xs env0 (i+1) r):Ob P N l ds xs env0 i (s::r)
theorem Ob.get{P:Program}{N:Nat}{l:List Oper}{d:List Nat}{xs:List A}{env0:Env}{b:Nat}{a:List (List (Qd×Qd))}(h:Ob P N l d xs env0 b a):
  ∀(i:Nat) (s:List (Qd×Qd)),a[i]?=some s->∀p∈s,QdG P N l d xs env0 (b+i) p.1 p.2:=by
 induction h with
 |nil=>simp
 | @cons b1 s1 r1 h _ ih=>
  grind
theorem Ob.st0{P:Program}{N:Nat}{l:List Oper}{a:List Nat}{xs:List A}{env0:Env}{i:Nat}:∀p∈([]:List (Qd×Qd)),QdG P N l a xs env0 i p.1 p.2:=by
 simp
theorem Ob.stC{P:Program}{N:Nat}{l:List Oper}{a:List Nat}{xs:List A}{env0:Env}{i:Nat}{H H':Qd}{r:List (Qd×Qd)}(h:QdG P N l a xs env0 i H H')
  (k:∀p∈r,QdG P N l a xs env0 i p.1 p.2):∀p∈(H,H')::r,QdG P N l a xs env0 i p.1 p.2:=by
 grind
theorem Qbi.nil{H:Qd}:Qbi H [] []:=trivial
theorem Qbi.cons{H:Qd}{az d f:List A}{a b:A}(e:az=a::d)(h:Look H a b)(k:Qbi H d f):Qbi H az (b::f):=by subst e;exact⟨h,k⟩
section
variable {P:Program} {o:Oper} {env:Env} {H:Qd} {α:Type} {e:α->List A}
end
inductive PL (P:Program):List Field->List (Nat×Nat)->Prop
 |nil:PL P [] []
 |cons {f:Field} {n:Nat} {fs:List Field} {pl:List (Nat×Nat)} (h:∀w,(sizeOf f.type).run P w=.ok n w) (k:PL P fs pl):PL P (f::fs) ((f.offset,n)::pl)
theorem PL.run{P:Program}{fs:List Field}{a:List (Nat×Nat)}(h:PL P fs a):∀w,(fs.mapM λf=>(do pure (f.offset, <- sizeOf f.type):Sem (Nat×Nat))).run P w=.ok a w:=by
 induction h with
 |nil=>intro w;rfl
 |cons h _ ih=>
  simp_all
structure Qdk (P:Program) (t:TypeId) (pl:List (Nat×Nat)):Prop where
 un:∃fs:List Field,(∀w,(underlying t).run P w=.ok (.struct fs.toArray) w)/\PL P fs pl
section
variable {P:Program} {o:Oper} {env:Env} {H:Qd}
def Qev(env:Env)(pl:List (Nat×Nat)):List A->List (Nat×Operand)->Option (List A)
 |cs,[]=>some cs
 |cs,(i,x)::r=>match pl[i]? with
  |none=>none
  |some (off,size)=>bif Yn (opA env x)&&Nat.beq (Yd (opA env x)).length size&&Nat.ble (off+size) cs.length then Qev env pl (splice cs off (Yd (opA env x))) r else none
theorem Qg1{fr ro:Nat->Prop}{σ:Sig}{N:Nat}{a:Act}{w:World}(r:Rel fr ro σ H env N a w){f:List (Nat×Nat)}:∀(parts:List (Nat×Operand)) (e:List A) (l:List Value) (d:List A),
  LR ro σ w e l->Qev env f e parts=some d->
  ∃l',Instr.fill (f.toArray[·]?) l.toArray (parts.map λp=>(p.1,a.eval p.2))=some l'.toArray/\LR ro σ w d l'
 |[],e,l,d,h,q=>by
  cases q;exact⟨l,rfl,h⟩
 |(i,x)::rest,e,l,d,h,q=>by
  unfold Qev at q;cases hp:f[i]? with
  |none=>grind
  |some p=>
   obtain⟨off,size⟩:=p;rw[hp]at q;simp at q;cases hc:(Yn (opA env x)&&Nat.beq (Yd (opA env x)).length size&&Nat.ble (off+size) e.length)with
   |false=>grind
   |true=>
    rw[hc]at q;simp[XW]at hc;obtain⟨⟨c1,c2⟩,c3⟩:=hc;obtain⟨m,q1,q2⟩:=(Qs r x).cells c1;have hm:m.length=size:=by rw[q2.length];simp_all
    have hl:=h.length;obtain⟨l',g,j⟩:=Qg1 r rest _ (splice l off m) d (h.splice off q2) q
    grind[Qfw,Nat.le_of_ble_eq_true]
theorem OpV.build{t:TypeId}{z:Value}{zs d:List A}{f:List (Nat×Nat)}{parts:List (Nat×Operand)}(h:∀w,(zeroValue t).run P w=.ok z w)(q:ZR (.agg zs) z)(i:Qdk P t f)
  (p:o.op=.build t parts.toArray:=by exact rfl)(hf:Qev env f zs parts=some d:=by exact rfl):OpV P o env H (.agg d):=by
 intro x k σ N a w r;obtain⟨y,u,j⟩:=i.un;obtain⟨l,rfl,m⟩:=q k σ w;obtain⟨e,g,n⟩:=Qg1 r parts zs l d m hf;refine⟨.agg e.toArray,?_,e,rfl,n⟩;have s:=j.run w;simp only[execOp,p,Instr.build,Vm,h,Result.andThen,u,XI,List.mapM_toArray,Sem.run_map,s,Value.cells,g,Vn]
end
def nz(n:Int):Option Unit:=bif n==0 then none else some ()
section
variable {P:Program} {o:Oper} {env:Env} {H:Qd}
theorem QeW{x:Operand}{a:A}(k:o.op=.nilCheck x)(g:opA env x=a:=by exact rfl)(hk:(match a with|.ptr _ _=>true|.rp _=>true|_=>false)=true:=by exact rfl):OpV P o env H a:=by
 intro i j σ N ac w r;have h:=Qs r x;rw[g]at h;cases a<;>first|(cases hk)|skip
 .obtain⟨b,f,e⟩:=h;refine⟨_,?_,b,f,rfl⟩
  simp_all[execOp]
 .obtain⟨b,d,f,e⟩:=h;refine⟨_,?_,b,d,rfl,e⟩
  simp_all[execOp]
end
mutual
def FzA(i k:Nat)(es:List (List A)):A->A->Prop
 |.agg az,b=>∃bs,b=.agg bs/\FzL i k es az bs
 |.fn f x c,b=>∃x' c',b=.fn f x' c'/\FzL i k es x x'/\FzL i k es c c'
 |.iface t a,b=>∃a',b=.iface t a'/\FzA i k es a a'
 |.tup az,b=>∃bs,b=.tup bs/\FzL i k es az bs
 |.osl j o n k',b=>b=.osl j o n k'\/(j=i/\o=0/\k'=k/\n=es.length/\b=.rsl k es)
 |.nils,b=>b=.nils\/ ∃k',b=.rsl k' []
 |a,b=>b=a
def FzL(i k:Nat)(es:List (List A)):List A->List A->Prop
 |[],b=>b=[]
 |a::az,b=>∃a' as',b=a'::as'/\FzA i k es a a'/\FzL i k es az as'
end
mutual
theorem FzA.refl{i k:Nat}{es:List (List A)}:∀a:A,FzA i k es a a
 |.agg az=>⟨az,rfl,FzL.refl az⟩
 |.fn _ x c=>⟨x,c,rfl,FzL.refl x,FzL.refl c⟩
 |.iface _ a=>⟨a,rfl,FzA.refl a⟩
 |.tup az=>⟨az,rfl,FzL.refl az⟩
 |.osl _ _ _ _=>.inl rfl
 |.nils=>.inl rfl
 |.any=>rfl
 |.bool _=>rfl
 |.int _ _=>rfl
 |.str _=>rfl
 |.nilp=>rfl
 |.ptr _ _=>rfl
 |.rp _=>rfl
 |.rsl _ _=>rfl
 |.nilf=>rfl
 |.nilif=>rfl
 |.map _=>rfl
 |.nilm=>rfl
theorem FzL.refl{i k:Nat}{es:List (List A)}:∀az:List A,FzL i k es az az
 |[]=>rfl
 |a::az=>⟨a,az,rfl,FzA.refl a,FzL.refl az⟩
end
theorem FzA.agg{i k:Nat}{es:List (List A)}{az bs:List A}(h:FzL i k es az bs):FzA i k es (.agg az) (.agg bs):=⟨bs,rfl,h⟩
theorem FzA.tup{i k:Nat}{es:List (List A)}{az bs:List A}(h:FzL i k es az bs):FzA i k es (.tup az) (.tup bs):=⟨bs,rfl,h⟩
theorem FzA.iface{i k:Nat}{es:List (List A)}{t:Nat}{a b:A}(h:FzA i k es a b):FzA i k es (.iface t a) (.iface t b):=⟨b,rfl,h⟩
theorem FzA.own{i k n:Nat}{es:List (List A)}(hn:n=es.length):FzA i k es (.osl i 0 n k) (.rsl k es):=.inr (by grind)
theorem FzA.nil{i k k':Nat}{es:List (List A)}:FzA i k es .nils (.rsl k' []):=.inr ⟨k',rfl⟩
theorem FzL.cons{i k:Nat}{es:List (List A)}{a b:A}{az bs:List A}(h:FzA i k es a b)(q:FzL i k es az bs):FzL i k es (a::az) (b::bs):=⟨b,bs,rfl,h,q⟩
mutual
theorem Qii{i k:Nat}{es:List (List A)}{ro ro':Nat->Prop}{σ:Sig}{w:World}(ext:Ext ro σ w ro' σ w)
  (hf:∀v,VR ro σ w (.osl i 0 es.length k) v->VR ro' σ w (.rsl k es) v):∀(a b:A) (v:Value),FzA i k es a b->VR ro σ w a v->VR ro' σ w b v
 |.agg az,b,v,h,q=>by
  obtain⟨bs,rfl,h⟩:=h;obtain⟨l,rfl,q⟩:=q;exact⟨l,rfl,Qdn ext hf az bs l h q⟩
 |.fn f x c,b,v,h,q=>by
  obtain⟨x',c',rfl,h1,h2⟩:=h;obtain⟨l,l',rfl,q1,q2⟩:=q;exact⟨l,l',rfl,Qdn ext hf x x' l h1 q1,Qdn ext hf c c' l' h2 q2⟩
 |.iface t a,b,v,h,q=>by
  obtain⟨a',rfl,h⟩:=h;obtain⟨x,rfl,q⟩:=q;exact⟨x,rfl,Qii ext hf a a' x h q⟩
 |.tup az,b,v,h,q=>by
  obtain⟨bs,rfl,h⟩:=h;obtain⟨l,rfl,q⟩:=q;exact⟨l,rfl,Qdn ext hf az bs l h q⟩
 |.osl j o n k',b,v,h,q=>by
  rcases h with rfl|⟨rfl,rfl,rfl,rfl,rfl⟩
  .exact q.mono ext
  .exact hf v q
 |.nils,b,v,h,q=>by
  rcases h with rfl|⟨k',rfl⟩
  .exact q
  .obtain rfl:v=.slice none 0 0:=q;exact⟨none,0,rfl,XT _,.inl rfl⟩
 |.any,b,v,h,q=>by obtain rfl:b=_:=h;trivial
 |.bool _,b,v,h,q=>by obtain rfl:b=_:=h;exact q
 |.int _ _,b,v,h,q=>by obtain rfl:b=_:=h;exact q
 |.str _,b,v,h,q=>by obtain rfl:b=_:=h;exact q
 |.nilp,b,v,h,q=>by obtain rfl:b=_:=h;exact q
 |.ptr _ _,b,v,h,q=>by obtain rfl:b=_:=h;exact q.mono ext
 |.rp _,b,v,h,q=>by obtain rfl:b=_:=h;exact q.mono ext
 |.rsl _ _,b,v,h,q=>by obtain rfl:b=_:=h;exact q.mono ext
 |.nilf,b,v,h,q=>by obtain rfl:b=_:=h;exact q
 |.nilif,b,v,h,q=>by obtain rfl:b=_:=h;exact q
 |.map _,b,v,h,q=>by obtain rfl:b=_:=h;exact q.mono ext
 |.nilm,b,v,h,q=>by obtain rfl:b=_:=h;exact q
theorem Qdn{i k:Nat}{es:List (List A)}{ro ro':Nat->Prop}{σ:Sig}{w:World}(ext:Ext ro σ w ro' σ w)
  (hf:∀v,VR ro σ w (.osl i 0 es.length k) v->VR ro' σ w (.rsl k es) v):∀(az bs:List A) (l:List Value),FzL i k es az bs->LR ro σ w az l->LR ro' σ w bs l
 |[],bs,l,h,q=>by obtain rfl:bs=[]:=h;exact q
 |a::az,bs,l,h,q=>by
  obtain⟨a',as',rfl,h1,h2⟩:=h;obtain⟨v,l',rfl,q1,q2⟩:=q;exact⟨v,l',rfl,Qii ext hf a a' v h1 q1,Qdn ext hf az as' l' h2 q2⟩
end
def FzB(i k:Nat)(es:List (List A))(x y:Blk):Prop:=y=x\/ ∃t cs cs',x=.cells t cs/\y=.cells t cs'/\FzL i k es cs cs'
def FzH(i k:Nat)(es:List (List A)):Qd->Qd->Prop
 |[],h=>h=[]
 |x::r,h=>∃y r',h=y::r'/\FzB i k es x y/\FzH i k es r r'
def QlL(i k:Nat)(es:List (List A))(env:Env):Env->Prop
 |[]=>True
 |(s,a)::r=>FzA i k es (lk env s) a/\QlL i k es env r
theorem FzH.nil{i k:Nat}{es:List (List A)}:FzH i k es [] []:=rfl
theorem FzH.keep{i k:Nat}{es:List (List A)}{x:Blk}{r r':Qd}(h:FzH i k es r r'):FzH i k es (x::r) (x::r'):=⟨x,r',rfl,.inl rfl,h⟩
theorem FzH.cells{i k t:Nat}{es:List (List A)}{cs cs':List A}{r r':Qd}(q:FzL i k es cs cs')(h:FzH i k es r r'):FzH i k es (.cells t cs::r) (.cells t cs'::r'):=⟨_,r',rfl,.inr (by grind),h⟩
theorem FzH.get{i k:Nat}{es:List (List A)}:∀{H H':Qd},FzH i k es H H'->∀(j:Nat) (y:Blk),H'[j]?=some y->∃x,H[j]?=some x/\FzB i k es x y
 |[],_,h,j,y,q=>by obtain rfl:_=[]:=h;simp at q
 |x::r,_,h,j,y,q=>by
  obtain⟨y',r',rfl,h1,h2⟩:=h;cases j with
  |zero=>grind
  |succ j=>obtain⟨x',p1,p2⟩:=h2.get j y q;grind
theorem FzH.len{i k:Nat}{es:List (List A)}:∀{H H':Qd},FzH i k es H H'->H'.length=H.length
 |[],_,h=>by obtain rfl:_=[]:=h;rfl
 |x::r,_,h=>by obtain⟨y',r',rfl,h1,h2⟩:=h;simp[h2.len]
theorem FzB.live{i k:Nat}{es:List (List A)}{x y:Blk}(h:FzB i k es x y):y.live=x.live:=by
 rcases h with rfl|⟨t,d,a,rfl,rfl,_⟩<;>rfl
theorem YI{env:Env}{H H':Qd}{Q i k t:Nat}{es:List (List A)}(ov:Env)(hi:Nat.ble Q i=true)(M:H[i]?=some (.row t k es))(R:QlL i k es env ov)(J:FzH i k es (H.set i .dead) H'):Le Q env H (ov++env) H':=by
 intro fr T σ N a w r
 let ro':Nat->Prop:=λb=>T b\/σ[i]?=some (some b)
 have hown:=λb h=>r.sim.own i b _ h M rfl;have ext:Ext T σ w ro' σ w:=⟨λ_ q=>.inl q,λ_ _=>rfl,λ_ _ q=>q,λ_ _ q=>q⟩;have hf:∀v,VR T σ w (.osl i 0 es.length k) v->VR ro' σ w (.rsl k es) v:=by
  intro v h;rcases h with⟨Q,h⟩|⟨b,p,G,t',m,g,h,n,⟨u,aa⟩,h4,P⟩
  .have:es=[]:=(by grind);subst this;exact⟨none,0,h,XT _,.inl rfl⟩
  .refine⟨_,G,h,u,?_⟩;by_cases he:es=[]
   .exact .inl he
   .right;have hc:0<G:=Vf (by grind) u;obtain rfl:=n hc;obtain⟨l,V,q2⟩:=r.sim.blk i _ _ g M;refine⟨b,0,by simp,.inr g,?_⟩;have:=YQ (pre:=[]) (by simpa using V) q2;exact this.keep ⟨λ_ q=>.inl q,λ_ _=>rfl,λ_ _ q=>q,λ_ _ q=>q⟩ rfl
 have f:∀(j:Nat) (y:Blk),H'[j]?=some y->y≠ .dead->j≠i/\ ∃x,H[j]?=some x/\FzB i k es x y:=by
  intro j y h O;obtain⟨x,g,n⟩:=J.get j y h;by_cases e:j=i
  .subst e;rw[Xb]at g;simp only[if_true]at g;split at g
   .cases g;rcases n with rfl|⟨_,_,_,q,_,_⟩
    .grind
    .cases q
   .simp at g
  grind
 refine⟨ro',σ,⟨⟨by rw[J.len,X4];exact r.sim.len,r.sim.roOk.to (λ_ q=>.inl q) (λ_ _=>rfl) ?_,r.sim.frLt,?_,?_,?_,?_,r.sim.hidTo (· = ·) Yb (XT _) (λj b x c V q2 q3 q4=>q4.elim id λq=>((r.sim.hid j b x c V q2 q3).ne i c _ q M rfl rfl).elim) (by simp) λj d y Y g2 g3=>.inl ?_⟩,?_,r.size,r.defers⟩,λ_ q=>.inl q,rfl⟩
 rotate_left 5
 .obtain⟨_,x,g4,g5⟩:=f j y g2 (Qgs g3);exact⟨j,x,rfl,Y,g4,λz=>by rw[<- g5.live];exact z,λc q=>by rcases g5 with rfl|⟨t,cs,L,rfl,rfl,_⟩;exact q;exact q.elim⟩
 rotate_left 1
 .rintro b (q|q)
  .exact r.sim.roLt b q
  grind
 .rintro b (q|q)
  .exact r.sim.roFr b q
  grind
 .intro j b v g n u;obtain⟨e,x,n,B⟩:=f j v n (Qbw u);have hx:x.live=true:=by rw[<- B.live];exact u
  obtain⟨F,E,p3⟩:=r.sim.own j b x g n hx;refine⟨F,?_,p3⟩;rintro(q|q)
  .exact E q
  .exact e (r.sim.inj j i b x _ g q n M hx rfl)
 .intro j j' b v v' g n u h4 P h6;obtain⟨_,x,F,E⟩:=f j v u (Qbw P);obtain⟨_,x',W,X⟩:=f j' v' h4 (Qbw h6);exact r.sim.inj j j' b x x' g n F W (by rw[<- E.live];exact P) (by rw[<- X.live];exact h6)
 .intro j s v g n;by_cases O:v≠ .dead
  .obtain⟨_,x,F,E⟩:=f j v n O;have B:=r.sim.blk j s x g F;rcases E with rfl|⟨t,cs,L,rfl,rfl,q⟩
   .exact B.keep ext (λ_ _ _=>rfl) (λ_ _ _ _=>rfl)
   .cases s with
    |none=>exact B.elim
    |some b=>
     obtain⟨l,e1,e2,e3⟩:=B;exact⟨l,e1,Qdn ext hf cs L l q e2,e3⟩
  .obtain rfl:v=.dead:=Classical.not_not.1 O;trivial
 .intro s
  induction ov with
  |nil=>exact(r.env s).mono ext
  |cons p ov ih=>
   obtain⟨s1,a1⟩:=p;obtain⟨Y,g2⟩:=R;simp only[VJ,lk];cases q:Nat.beq s s1 with
   |true=>
    obtain rfl:=XQ q;exact Qii ext hf _ _ _ Y (r.env s)
   |false=>exact ih g2
theorem QlL.nil{i k:Nat}{es:List (List A)}{env:Env}:QlL i k es env []:=trivial
theorem QlL.cons{i k s:Nat}{es:List (List A)}{env:Env}{a b:A}{r:Env}(h:lk env s=a)(q:FzA i k es a b)(g:QlL i k es env r):QlL i k es env ((s,b)::r):=⟨h▸q,g⟩
def QcV(P:Program)(env:Env)(H:Qd)(l:ResultVar)(x:A):Prop:=
 ∀fr ro σ N a w,Rel fr ro σ H env N a w->∃v,((match l with
  |.tmp t=>pure (a.tmps.getD t undef)
  |.cell b t=>do loadVar t (<- asAddr (a.tmps.getD b undef)):Sem Value)).run P w=.ok v w/\VR ro σ w x v
def Qic(P:Program)(env:Env)(H:Qd):List ResultVar->List A->Prop
 |[],xs=>xs=[]
 |l::ls,xs=>∃x xs',xs=x::xs'/\QcV P env H l x/\Qic P env H ls xs'
section
variable {P:Program} {fn:Func} {env:Env} {H:Qd}
theorem QcV.tmp{t:Nat}{x:A}(d:lk env t=x:=by exact rfl):QcV P env H (.tmp t) x:=
 λfr ro σ N a w r=>⟨a.tmps.getD t undef,rfl,d▸r.env t⟩
theorem QcV.cell{b t:Nat}{p x:A}{j:List A}(n:∀w,(isAgg t).run P w=.ok false w)(f:Pts H p (x::j))(e:lk env b=p:=by exact rfl):QcV P env H (.cell b t) x:=by
 intro g h σ N a w r;have d:=r.env b;rw[e]at d;obtain⟨m,i,k,⟨y,q,_,l⟩,_⟩:=f g h σ w _ r.sim d
 simp_all[asAddr,loadVar]
theorem QdE{b t n:Nat}{p:A}{d:List A}(y:∀w,(isAgg t).run P w=.ok true w)(q:∀w,(sizeOf t).run P w=.ok n w)(g:Pts H p d)(f:lk env b=p:=by exact rfl)(hl:(d.take n).length=n:=by exact rfl):
  QcV P env H (.cell b t) (.agg (d.take n)):=by
 intro h i σ N a w r;have e:=r.env b;rw[f]at e;obtain⟨x,j,s,k⟩:=g h i σ w _ r.sim e;obtain⟨l,m,_,u⟩:=Yv (P:=P) 0 (by simpa using k.take n);refine⟨.agg l.toArray,?_,l,rfl,m⟩
 simp_all[asAddr,loadVar,loadCells]
theorem Qf{b t n i T:Nat}{a:List A}(g:∀w,(isAgg t).run P w=.ok true w)(f:∀w,(sizeOf t).run P w=.ok n w)(d:lk env b=.ptr i 0)(e:H[i]?=some (.cells T a))(h:a.length=n):
  QcV P env H (.cell b t) (.agg a):=by
 have:=QdE g f (Pts.cells e rfl) d (by grind)
 grind
theorem Q3{b t i T:Nat}{x:A}(ha:∀w,(isAgg t).run P w=.ok false w)(hx:lk env b=.ptr i 0)(hH:H[i]?=some (.cells T [x])):QcV P env H (.cell b t) x:=
 QcV.cell ha (Pts.cells hH rfl) hx
theorem Qic.nil:Qic P env H [] []:=rfl
theorem Qic.cons{l:ResultVar}{ls:List ResultVar}{x:A}{xs:List A}(h:QcV P env H l x)(k:Qic P env H ls xs):Qic P env H (l::ls) (x::xs):=⟨x,xs,rfl,h,k⟩
theorem Qic.run{fr ro:Nat->Prop}{σ:Sig}{N:Nat}{a:Act}{w:World}(r:Rel fr ro σ H env N a w):∀{ls:List ResultVar} {xs:List A},Qic P env H ls xs->
  ∃vs:List Value,(ls.mapM λl=>(match l with
   |.tmp t=>pure (a.tmps.getD t undef)
   |.cell b t=>do loadVar t (<- asAddr (a.tmps.getD b undef)):Sem Value)).run P w=.ok vs w/\LR ro σ w xs vs
 |[],_,h=>by obtain rfl:_=[]:=h;exact⟨[],rfl,rfl⟩
 |l::ls,_,h=>by
  obtain⟨x,xs,rfl,h1,h2⟩:=h;obtain⟨v,e1,e2⟩:=h1 fr ro σ N a w r;obtain⟨vs,e3,e4⟩:=Qic.run r h2;refine⟨v::vs,?_,v,vs,rfl,e2,e4⟩
  simp_all
theorem Qg{ls:List ResultVar}{xs:List A}(h:fn.results=ls.toArray)(p:Nat.beq ls.length 1=false)(k:Qic P env H ls xs):QbW P fn env H (.tup xs):=by
 intro m n σ N a w r;obtain⟨vs,j,e⟩:=k.run r;have d:¬vs.length=1:=by
  have:∀{ls:List ResultVar} {xs:List A},Qic P env H ls xs->xs.length=ls.length:=by
   intro ls
   induction ls with
   |nil=>intro xs h;obtain rfl:xs=[]:=h;rfl
   |cons l ls g=>intro xs h;obtain⟨x,i,rfl,_,f⟩:=h;simp[g f]
  rw[e.length,this k];intro q;simp_all
 refine⟨.tuple vs.toArray,?_,vs,rfl,e⟩;unfold results;rw[List.mapM_toArray,Vm,Sem.run_map]
 grind[Result.andThen,Sem.run_pure]
theorem QL{l:ResultVar}{x:A}(h:fn.results= #[l])(k:QcV P env H l x):QbW P fn env H x:=by
 intro f g σ N a w r;obtain⟨vs,e,d⟩:=(Qic.cons k Qic.nil).run r;obtain⟨v,_,rfl,d,rfl⟩:=d;refine⟨v,?_,d⟩;unfold results;rw[h,show #[l]=[l].toArray from rfl];rw[List.mapM_toArray,Vm,Sem.run_map]
 erw [e]
 rfl
end
mutual
def Qi7:A->Bool
 |.bool _=>true
 |.int _ _=>true
 |.str _=>true
 |.agg cs=>QfT cs
 |_=>false
def QfT:List A->Bool
 |[]=>true
 |a::r=>Qi7 a&&QfT r
end
mutual
def QO:A->Value
 |.bool b=>.bool b
 |.int k n=>.int k n
 |.str s=>.string ⟨s.toArray⟩
 |.agg cs=>.agg (YJ cs).toArray
 |_=>.bool false
def YJ:List A->List Value
 |[]=>[]
 |a::r=>QO a::YJ r
end
mutual
theorem VR.val{ro:Nat->Prop}{σ:Sig}{w:World}:∀{a:A} {v:Value},Qi7 a=true->VR ro σ w a v->v=QO a
 |.bool _,_,_,h=>h
 |.int _ _,_,_,h=>h
 |.str _,_,_,h=>h
 |.agg cs,v,hs,h=>by
  obtain⟨l,rfl,h⟩:=h;rw[QO,LR.val hs h]
theorem LR.val{ro:Nat->Prop}{σ:Sig}{w:World}:∀{az:List A} {l:List Value},QfT az=true->LR ro σ w az l->l=YJ az
 |[],l,_,h=>h
 |a::r,l,hs,h=>by
  obtain⟨v,l',rfl,h1,h2⟩:=h;simp only[QfT,XW]at hs;rw[YJ,VR.val hs.1 h1,LR.val hs.2 h2]
end
mutual
theorem QcS{ro:Nat->Prop}{σ:Sig}{w:World}:∀{a:A},Qi7 a=true->VR ro σ w a (QO a)
 |.bool _,_=>rfl
 |.int _ _,_=>rfl
 |.str _,_=>rfl
 |.agg cs,hs=>⟨YJ cs,rfl,Qe4 hs⟩
theorem Qe4{ro:Nat->Prop}{σ:Sig}{w:World}:∀{az:List A},QfT az=true->LR ro σ w az (YJ az)
 |[],_=>rfl
 |a::r,hs=>by
  simp only[QfT,XW]at hs;exact⟨_,_,rfl,QcS hs.1,Qe4 hs.2⟩
end
open Go.MapKept
structure Ju (P:Program) (kt:TypeId) {α:Type} (ek:α->A):Prop where
 scl:∀x,Qi7 (ek x)=true
 inj:∀x y,QO (ek x)=QO (ek y)->x=y
 check:∀(w:World) em x,(Instr.checkKey em 10000 kt (QO (ek x))).run P w=.ok () w
 find:∀(w:World) x (es:List MapEntry),(∀e∈es,∃y,e.key=QO (ek y))->
  ((Instr.findKey kt (QO (ek x)) es).run P w=.ok none w/\ ∀e∈es,e.key≠QO (ek x))\/ ∃j e,(Instr.findKey kt (QO (ek x)) es).run P w=.ok (some (j,e.val)) w/\es[j]?=some e/\e.key=QO (ek x)
 stays:∀(w:World) x,(Instr.keyThatStays (QO (ek x)) (QO (ek x))).run P w=.ok (QO (ek x)) w
section
variable {P:Program} {kt:TypeId}
theorem Ju.plain{α:Type}{a:α->A}{d:TypeDesc}(f:P.underlying kt=some d)(e:∀x,IsKey d (QO (a x)))(g:∀x,Qi7 (a x)=true)(hi:∀x y,QO (a x)=QO (a y)->x=y):Ju P kt a:=by
 refine⟨g,hi,λw h x=>run_checkKey f (e x) h 9999,λw x j i=>?_,λw x=>run_keyThatStays (e x)⟩
 grind[findNow_spec,run_findKey]
theorem Ju.int{q:IntKind}(hk:P.underlying kt=some (.int q)):Ju P kt (λn=>A.int q n):=
 Ju.plain hk (λx=>by rfl) (λ_=>rfl) (λx y h=>by simpa[QO]using h)
theorem Ju.str(hk:P.underlying kt=some .string):Ju P kt A.str:=
 Ju.plain hk (λx=>by simp[IsKey,QO]) (λ_=>rfl) (λx y h=>by simpa[QO]using h)
theorem Ju.struct{α:Type}[DecidableEq α]{a:α->A}{fs:Array Field}(G:P.underlying kt=some (.struct fs))(p:∀x,Qi7 (a x)=true)(hi:∀x y,QO (a x)=QO (a y)->x=y)
  (r:∀(w:World) em x,(Instr.checkKey em 10000 kt (QO (a x))).run P w=.ok () w)
  (he:∀(w:World) x y,(Op.equal kt (QO (a x)) (QO (a y))).run P w=.ok (decide (x=y)) w)(s:∀x,Instr.sameBits 10000 (QO (a x)) (QO (a x))=true):Ju P kt a:=by
 refine⟨p,hi,r,λw x d u=>?_,λw x=>by simp[Instr.keyThatStays,s x]⟩
 .have k:∀(d:List MapEntry) (i:Nat),(∀e∈d,∃y,e.key=QO (a y))->
    ((Instr.findAsking kt (QO (a x)) d i).run P w=.ok none w/\ ∀e∈d,e.key≠QO (a x))\/
    ∃j e,(Instr.findAsking kt (QO (a x)) d i).run P w=.ok (some (i+j,e.val)) w/\d[j]?=some e/\e.key=QO (a x):=by
   intro d
   induction d with
   |nil=>simp_all[Instr.findAsking]
   |cons e d q=>
    intro i f;obtain⟨y,h⟩:=f e (by simp);have l:=he w x y;by_cases g:x=y
    .subst g;exact .inr ⟨0,e,by simp[Instr.findAsking,h,l],rfl,h⟩
    .rcases q (i+1) (λz n=>f z (by simp[n]))with⟨m,t⟩|⟨j,B,m,t,E⟩
     .refine .inl ⟨by simp[Instr.findAsking,h,l,g,m],λz n=>?_⟩
      grind
     .exact .inr ⟨j+1,B,by simp[Instr.findAsking,h,l,g,m,Nat.add_assoc,Nat.add_comm 1 j],by grind,E⟩
  cases d with
  |nil=>simp_all[Instr.findKey,run_underlying,Instr.findNow]
  |cons e d=>
   have F:Instr.findNow (.struct fs) (QO (a x)) (e::d) 0=none:=by
    rfl
   have H:(Instr.findKey kt (QO (a x)) (e::d)).run P w=(Instr.findAsking kt (QO (a x)) (e::d) 0).run P w:=by
    simp_all[Instr.findKey,run_underlying]
   grind
def Y3{α β:Type}[DecidableEq α](l:List (α×β))(k:α):Option β:=(l.find? λp=>decide (p.1=k)).map (·.2)
def Q2{α β:Type}[DecidableEq α](l:List (α×β))(k:α)(v:β):List (α×β):=bif l.any λp=>decide (p.1=k)then l.map λp=>bif decide (p.1=k)then(p.1,v)else p else l++[(k,v)]
def QA{α β:Type}[DecidableEq α](l:List (α×β))(k:α)(z:β):β:=(Y3 l k).getD z
def Y2{α β:Type}[DecidableEq α](l:List (α×β))(k:α):Bool:=l.any λp=>decide (p.1=k)
def Qi{α β:Type}(ek:α->A)(ev:β->A)(l:List (α×β)):List (A×A):=l.map λp=>(ek p.1,ev p.2)
section
variable {α β:Type} [DecidableEq α] {ek:α->A} {ev:β->A} {ro:Nat->Prop} {σ:Sig} {w:World} (K:Ju P kt ek)
include K
theorem Qgq:∀{l:List (α×β)} {es:List MapEntry},ER ro σ w (Qi ek ev l) es->es.map (·.key)=l.map λp=>QO (ek p.1)
 |[],es,h=>by cases(show es=[]from h);rfl
 |p::l,es,h=>by
  obtain⟨e,l',rfl,h1,h2,h3⟩:=h;simp only[Vj];rw[VR.val (K.scl _) h1,Qgq h3]
theorem Qhz{l:List (α×β)}{es:List MapEntry}(h:ER ro σ w (Qi ek ev l) es):∀e∈es,∃y,e.key=QO (ek y):=by
 intro e a;have:e.key∈es.map (·.key):=VF a;rw[Qgq K h]at this
 grind
theorem ER.find:∀{l:List (α×β)} {es:List MapEntry},ER ro σ w (Qi ek ev l) es->∀(x:α),(es.map (·.key)).Nodup->
  ((∀e,e∈es->e.key≠QO (ek x))->Y3 l x=none/\Y2 l x=false)/\
  (∀(j:Nat) (e:MapEntry),es[j]?=some e->e.key=QO (ek x)->Y2 l x=true/\ ∃v,Y3 l x=some v/\VR ro σ w (ev v) e.val)
 |[],es,h,x,_=>by
  cases(show es=[]from h);exact⟨λ_=>⟨rfl,rfl⟩,(by simp)⟩
 |p::l,es,h,x,hn=>by
  obtain⟨e0,l',rfl,h1,h2,h3⟩:=h;have hk:=VR.val (K.scl _) h1;simp[Vj,List.nodup_cons]at hn;obtain⟨a1,a2⟩:=ER.find h3 x hn.2;by_cases hp:p.1=x
  .grind[Y2,Y3]
  .have e1:Y3 (p::l) x=Y3 l x:=by simp[Y3,hp]
   have f:Y2 (p::l) x=Y2 l x:=by simp[Y2,hp]
   constructor
   .grind
   .intro j e a d;cases j with
    |zero=>
     simp[XE,Option.some.injEq]at a;subst a;exact absurd (K.inj _ _ (hk.symm.trans d)) hp
    |succ j=>grind
end
end
end Go.Sw
namespace Go.Sw
open Go.MapKept
section
variable {P:Program} {o:Oper} {env:Env} {H:Qd}
theorem Yj{T:Nat}(f:o.op=.makeMap T none:=by exact rfl):OpH P o env H (.map H.length) (H++[.map []]):=by
 intro e d σ N a w r;refine⟨.map (some w.heap.size),w.alloc (.map #[] 0),d,[some w.heap.size],?_,⟨w.heap.size,?_,rfl⟩,r.sim.alloc ⟨#[],0,Yu _ _,rfl,by simp,by simp,by simp⟩,Qm.alloc _ r.sim.roLt r.sim.frLt⟩
 .simp_all[execOp,Instr.makeMap]
 .rw[<- r.sim.len];simp
section
variable {T kt et:Nat} {α β:Type} [DecidableEq α] {ek:α->A} {ev:β->A} {x y:Operand} {i:Nat} {l:List (α×β)} {k:α} {z0:β} {z:Value}
theorem Qcm(K:Ju P kt ek){ro:Nat->Prop}{w:World}(n:P.underlying T=some (.map kt et))(u:∀w,(zeroValue et).run P w=.ok z w)(f:ZR (ev z0) z){b a:Nat}{es:Array MapEntry}
  (m:w.heap[b]?=some (.map es a))(he:ER ro [] w (Qi ek ev l) es.toList)(s:(es.toList.map (·.key)).Nodup):
  ∃v,(∀ck,(Instr.lookup T (.map (some b)) (QO (ek k)) ck).run P w=.ok (if ck then .tuple #[v,.bool (Y2 l k)]else v) w)/\VR ro [] w (ev (QA l k z0)) v:=by
 obtain⟨r,p⟩:=ER.find K he k s;rcases K.find w k es.toList (Qhz K he)with⟨i,h⟩|⟨j,e,i,h,t⟩
 .obtain⟨d,g⟩:=r h;refine⟨z,λck=>?_,?_⟩
  .simp[Instr.lookup,Vm,run_underlying n,Result.andThen,MapKept.run_getObj_map m,Vn,K.check,i,u,g]
  .rw[QA,d];exact f _ _ _
 .obtain⟨d,v,g,q⟩:=p j e h t;refine⟨e.val,λck=>?_,?_⟩
  .simp[Instr.lookup,Vm,run_underlying n,Result.andThen,MapKept.run_getObj_map m,Vn,K.check,i,d]
  .rw[QA,g];exact q
theorem Ye{zv:β}(K:Ju P kt ek)(m:some (QA l k z0)=some zv)(u:P.underlying T=some (.map kt et))(s:∀w,(zeroValue et).run P w=.ok z w)(d:ZR (ev z0) z)
  (O:o.op=.lookup T x y false:=by exact rfl)(hx:opA env x=.map i:=by exact rfl)(hH:H[i]?=some (.map (Qi ek ev l)):=by exact rfl)(hy:opA env y=ek k:=by exact rfl):OpV P o env H (ev zv):=by
 obtain rfl:=XZ m;intro J F σ N a w r;have g:=Qs r x;rw[hx]at g;obtain⟨b,p,L⟩:=g;have f:=Qs r y;rw[hy]at f;have Q:=VR.val (K.scl _) f;obtain⟨M,e,n,j,E,G,h⟩:=r.sim.blk i _ _ p hH;obtain⟨v,B,t⟩:=Qcm K u s d n j h;refine⟨v,?_,t.mono ⟨λ_ q=>q,λ_ _=>rfl,λ_ _ q=>q,(by simp)⟩⟩
 simp_all[execOp]
theorem Qbt{zv:β}(K:Ju P kt ek)(m:some (QA l k z0)=some zv)(u:P.underlying T=some (.map kt et))(s:∀w,(zeroValue et).run P w=.ok z w)(d:ZR (ev z0) z)
  (O:o.op=.lookup T x y true:=by exact rfl)(hx:opA env x=.map i:=by exact rfl)(hH:H[i]?=some (.map (Qi ek ev l)):=by exact rfl)(hy:opA env y=ek k:=by exact rfl):OpV P o env H (.tup [ev zv,.bool (Y2 l k)]):=by
 obtain rfl:=XZ m;intro J F σ N a w r;have g:=Qs r x;rw[hx]at g;obtain⟨b,p,L⟩:=g;have f:=Qs r y;rw[hy]at f;have Q:=VR.val (K.scl _) f;obtain⟨M,e,n,j,E,G,h⟩:=r.sim.blk i _ _ p hH;obtain⟨v,B,t⟩:=Qcm K u s d n j h;refine⟨.tuple #[v,.bool (Y2 l k)],?_,[v,.bool (Y2 l k)],rfl,v,_,rfl,t.mono ⟨λ_ q=>q,λ_ _=>rfl,λ_ _ q=>q,(by simp)⟩,_,_,rfl,rfl,rfl⟩
 simp_all[execOp]
theorem QjV{zv:β}(K:Ju P kt ek)(m:some (QA l k z0)=some zv)(u:P.underlying T=some (.map kt et))(s:∀w,(zeroValue et).run P w=.ok z w)(d:ZR (ev z0) z)
  (O:o.op=.lookup T x y false:=by exact rfl)(hx:opA env x=.map i:=by exact rfl)(hH:H[i]?=some (.fmap (Qi ek ev l)):=by exact rfl)(hy:opA env y=ek k:=by exact rfl):OpV P o env H (ev zv):=by
 obtain rfl:=XZ m;intro J F σ N a w r;have g:=Qs r x;rw[hx]at g;obtain⟨b,p,L⟩:=g;have f:=Qs r y;rw[hy]at f;have Q:=VR.val (K.scl _) f;obtain⟨_,M,e,n,j,E,G,h⟩:=r.sim.blk i _ _ p hH;obtain⟨v,B,t⟩:=Qcm K u s d n j h;refine⟨v,?_,t.mono ⟨λ_ q=>q,λ_ _=>rfl,λ_ _ q=>q,(by simp)⟩⟩
 simp_all[execOp]
theorem ER.append{ro:Nat->Prop}{σ:Sig}{w:World}:∀{l m:List (A×A)} {es fs:List MapEntry},ER ro σ w l es->ER ro σ w m fs->ER ro σ w (l++m) (es++fs)
 |[],m,es,fs,h,k=>by cases(show es=[]from h);exact k
 |p::l,m,es,fs,h,k=>by
  obtain⟨e,l',rfl,h1,h2,h3⟩:=h;exact⟨e,l'++fs,rfl,h1,h2,ER.append h3 k⟩
theorem ER.put(K:Ju P kt ek){ro:Nat->Prop}{w w':World}{v:β}{val:Value}(a:Ext ro [] w ro [] w')(d:VR ro [] w (ev v) val):∀{l:List (α×β)} {es:List MapEntry} {j:Nat} {e:MapEntry},ER ro [] w (Qi ek ev l) es->
  (es.map (·.key)).Nodup->es[j]?=some e->e.key=QO (ek k)->
  ER ro [] w' (Qi ek ev (l.map λp=>bif decide (p.1=k)then(p.1,v)else p)) (es.modify j λe=>{e with key:=QO (ek k),val:=val})
 |[],es,j,e,h,hn,he,hk=>by cases(show es=[]from h);simp at he
 |p::l,es,j,e,h,hn,he,hk=>by
  obtain⟨e0,l',rfl,h1,h2,h3⟩:=h;have hk0:=VR.val (K.scl _) h1;simp only[Vj,List.nodup_cons]at hn;cases j with
  |zero=>
   simp[XE,Option.some.injEq]at he;subst he;have hp:=K.inj _ _ (hk0.symm.trans hk);have e1:Qi ek ev ((p::l).map λp=>bif decide (p.1=k)then(p.1,v)else p)=(ek p.1,ev v)::Qi ek ev l:=by
    simp only[Qi,Vj,hp,decide_true,Vo,List.map_map,List.cons.injEq,true_and];apply List.map_congr_left;intro q f;have:q.1≠k:=by
     intro e;refine hn.1 ?_;rw[Qgq K h3];exact Xe.2 ⟨q,f,by rw[e, <- hp,hk0]⟩
    simp[this]
   rw[e1];refine⟨_,l',rfl,?_,d.mono a,h3.mono a⟩;rw[<- hp];exact QcS (K.scl _)
  |succ j=>
   have hp:p.1≠k:=by
    intro q;refine hn.1 (Xe.2 ⟨e,VG he,?_⟩);rw[hk,hk0,q]
   have e1:Qi ek ev ((p::l).map λp=>bif decide (p.1=k)then(p.1,v)else p)=(ek p.1,ev p.2)::Qi ek ev (l.map λp=>bif decide (p.1=k)then(p.1,v)else p):=by
    simp[Qi,hp]
   rw[e1];exact⟨_,_,rfl,h1.mono a,h2.mono a,ER.put K a d h3 hn.2 he hk⟩
theorem Q7{m:List (α×β)}(K:Ju P kt ek){v:β}{s:Operand}(hm:some (Q2 l k v)=some m)(hd:Yq (ev v)=true)(hT:P.underlying T=some (.map kt et))
  (ho:o.op=.mapUpdate T x y s:=by exact rfl)(hx:opA env x=.map i:=by exact rfl)(hH:H[i]?=some (.map (Qi ek ev l)):=by exact rfl)(hy:opA env y=ek k:=by exact rfl)(hv:opA env s=ev v:=by exact rfl):
  OpU P o env H (H.set i (.map (Qi ek ev m))):=by
 obtain rfl:=XZ hm;intro fr X σ N a w r;have h1:=Qs r x;rw[hx]at h1;obtain⟨b,Y,q2⟩:=h1;have h2:=Qs r y;rw[hy]at h2;have h3:=VR.val (K.scl _) h2;have h4:=Qs r s;rw[hv]at h4;have J:VR X [] w (ev v) (a.eval s):=VR.data hd h4;obtain⟨u,d,M,L,p3,p4,W⟩:=r.sim.blk i _ _ Y hH;obtain⟨f1,f2⟩:=ER.find K L k W;have F:∀(obj:Obj) y,w.shape? b=some y->({w with heap:=w.heap.setIfInBounds b obj}:World).shape? b=some y:=by
  grind[World.shape?]
 rcases K.find w k u.toList (Qhz K L)with⟨g1,G⟩|⟨j,e,g1,G,O⟩
 .obtain⟨u1,u2⟩:=f1 G;have R:Q2 l k v=l++[(k,v)]:=by
   unfold Q2;rw[show(l.any λp=>decide (p.1=k))=false from u2];rfl
  have g:=r.sim.set (x':=.map (Qi ek ev (Q2 l k v))) (obj:=.map (u.push {key:=QO (ek k),val:=a.eval s,born:=d}) (d+1)) Y hH rfl (F _)
   (λe V=>⟨_,_,V,by
    rw[R,Qi,Xf,Array.toList_push];exact(L.mono ⟨e.sub,e.keep,e.shape,λ_ _ q=>q⟩).append ⟨_,_,rfl,QcS (K.scl _),J.mono ⟨e.sub,e.keep,e.shape,λ_ _ q=>q⟩,rfl⟩,by
    grind,by
    grind,by
    grind⟩)
  refine⟨_,X,[],?_,by grind,g.2⟩;simp only[execOp,ho,q2,h3,Vm,Instr.mapUpdate,run_underlying hT,Result.andThen,MapKept.run_getObj_map M,K.check,g1,MapKept.run_setObj_map _ M];rfl
 .obtain⟨u1,u2⟩:=f2 j e G O;have R:Q2 l k v=l.map λp=>bif decide (p.1=k)then(p.1,v)else p:=by
   unfold Q2;rw[show(l.any λp=>decide (p.1=k))=true from u1];rfl
  have hj:u[j]?=some e:=by grind
  have n:(u.modify j λe=>{e with key:=QO (ek k),val:=a.eval s}).toList=u.toList.modify j λe=>{e with key:=QO (ek k),val:=a.eval s}:=by simp
  have t:∀{γ:Type} (f:MapEntry->γ),(∀E,u.toList[j]?=some E->f {E with key:=QO (ek k),val:=a.eval s}=f E)->(u.toList.modify j λe=>{e with key:=QO (ek k),val:=a.eval s}).map f=u.toList.map f:=by
   intro γ f hf;apply List.ext_getElem?
   grind
  have g:=r.sim.set (x':=.map (Qi ek ev (Q2 l k v))) (obj:=.map (u.modify j λe=>{e with key:=QO (ek k),val:=a.eval s}) d) Y hH rfl (F _)
   (λQ V=>⟨_,_,V,by
    rw[R,n];exact ER.put K ⟨Q.sub,Q.keep,Q.shape,λ_ _ q=>q⟩ J L W G O,by
    rw[n];intro E z;have:E.born∈(u.toList.modify j λe=>{e with key:=QO (ek k),val:=a.eval s}).map (·.born):=VF z;rw[t (·.born) (λ_ _=>rfl)]at this;obtain⟨e2,h,h'⟩:=Xe.1 this;rw[<- h'];exact p3 e2 h,by
    rw[n,t (·.born) (λ_ _=>rfl)];exact p4,by
    rw[n,t (·.key) (λE z=>by rw[G]at z;cases z;exact O.symm)];exact W⟩)
  refine⟨_,X,[],?_,by simpa using g.1,g.2⟩;have B:=K.stays w k;simp only[execOp,ho,q2,h3,Vm,Instr.mapUpdate,run_underlying hT,Result.andThen,MapKept.run_getObj_map M,K.check,g1,hj,Xj,Option.getD_some,O,B,MapKept.run_setObj_map _ M];rfl
theorem ER.length{ro:Nat->Prop}{σ:Sig}{w:World}:∀{l:List (A×A)} {es:List MapEntry},ER ro σ w l es->es.length=l.length
 |[],es,h=>by cases(show es=[]from h);rfl
 |p::l,es,h=>by
  obtain⟨e,l',rfl,_,_,h3⟩:=h;simp[ER.length h3]
theorem QeX{c:Call}{n:Int}(q:P.underlying T=some (.map kt et))(m:(l.length:Int)=n)(p:o.op=.call c:=by exact rfl)(hc:c={callee:=.builtin .len,args:= #[x],argTypes:= #[T]}:=by exact rfl)
  (hx:opA env x=.map i:=by exact rfl)(hH:H[i]?=some (.map (Qi ek ev l)):=by exact rfl):OpV P o env H (.int .i64 n):=by
 intro z E σ N a w r;have h:=Qs r x;rw[hx]at h;obtain⟨b,u,f⟩:=h;obtain⟨g,e,t,s,B,F,y⟩:=r.sim.blk i _ _ u hH;have j:=s.length;refine⟨.int .i64 n,?_,rfl⟩;have d:goInt g.size=.int .i64 n:=by
  have:g.size=l.length:=by rw[<- Array.length_toList,j];simp[Qi]
  rw[this, <- m];rfl
 subst hc;have k:=f;generalize a.eval=ρ at*;rw[<- d];simp[execOp,p,f,resolve,invoke,Go.builtin,Builtin.len_,run_underlying q,MapKept.run_getObj_map t,go_sem]
end
end
end Go.Sw
namespace Go.Sw
open Go.ChangeMaps (setBlock)
section
variable {P:Program} {o:Oper} {env:Env} {H:Qd} {h0 N:Nat} {Q:QG}
def OpE(P:Program)(o:Oper)(env:Env)(H:Qd)(K:A->Qd->Prop):Prop:=
 ∀fr ro σ N a w,Rel fr ro σ H env N a w->∃x H' v w' ro' τ,K x H'/\(execOp a.eval o).run P w=.ok (.value v) w'/\VR ro' (σ++τ) w' x v/\
  Sim fr ro' (σ++τ) H' w'/\Qm fr ro w ro' w'
theorem Qlu{all:Array Oper}{l:List Oper}{d:Nat}{K:A->Qd->Prop}(z:h0<=H.length)(hg:QI all o env true)(n:o.dst=some d)(F:Nat.blt d N=true)
  (h:OpE P o env H K)(k:∀x H',K x H'->WO P h0 N all l (up env d x) H' Q):WO P h0 N all (o::l) env H Q:=by
 intro p fr y σ a w r hrd;obtain⟨x,H',v,j,f,τ,m,E,u,B,g⟩:=h fr y σ N a w r;refine Qaa (YM hg r) E ?_;simp[n];have i:d<N:=by simp_all
 have t:Rel fr f (σ++τ) H' (up env d x) N {a with tmps:=a.tmps.setIfInBounds d v} j:=
  ⟨B,VR.up (fr:=fr) (λs=>(r.env s).mono (g.ext σ τ)) (by rw[r.size];exact i) u,by simpa using r.size,r.defers.keep g⟩
 refine Yo (λe a w q=>q.step g (QR ?_)) _ _ _ (k x H' m p fr f (σ++τ) _ j t (hrd.to g λ_ q=>q));rw[r.sim.len];exact z
theorem Sim.shutMap{fr ro:Nat->Prop}{σ:Sig}{w:World}(s:Sim fr ro σ H w){i b:Nat}{es:List (A×A)}(hσ:σ[i]?=some (some b))(p:H[i]?=some (.map es)):
  Sim fr (λc=>ro c\/c=b) σ (H.set i (.fmap es)) w:=by
 have hown:=s.own i b _ hσ p rfl;have ext:Ext ro σ w (λc=>ro c\/c=b) σ w:=⟨λ_ q=>.inl q,λ_ _=>rfl,λ_ _ q=>q,λ_ _ q=>q⟩;have a:∀(j:Nat) (v:Blk),(H.set i (.fmap es))[j]?=some v->v.live=true->j≠i/\H[j]?=some v:=by
  intro j v h z;by_cases e:j=i
  .subst e;rw[Xb]at h
   grind[Blk.live]
  grind
 have n:∀(j:Nat) (v:Blk),(H.set i (.fmap es))[j]?=some v->v.holds=true->H[j]?=some v:=by
  intro j v h z;by_cases e:j=i
  .subst e;rw[Xb]at h;simp only[if_true]at h;split at h
   .cases h;cases z
   .simp at h
  grind
 refine⟨by rw[X4];exact s.len,s.roOk.to (λ_ q=>.inl q) (λ_ _=>rfl) ?_,s.frLt,?_,?_,?_,?_,s.hidTo (· = ·) Yb (XT _) (λj d x c N O J M=>M.elim id λq=>((s.hid j d x c N O J).ne i b _ hσ p rfl q).elim) (by simp) (by grind)⟩
 .rintro c (q|rfl)
  .exact s.roLt c q
  omega
 .rintro c (q|rfl)
  .exact s.roFr c q
  grind
 .intro j c v g f m;obtain⟨e,f⟩:=a j v f m;obtain⟨u,t,r⟩:=s.own j c v g f m;refine⟨u,?_,r⟩;rintro(q|rfl)
  .exact t q
  .exact e (s.inj j i c v _ g hσ f p m rfl)
 .intro j F c v G g f m L E B;exact s.inj j F c v G g f (a j v m E).2 (a F G L B).2 E B
 .intro j y v g f;by_cases e:j=i
  .subst e;rw[hσ]at g;cases g;rw[Xb]at f;simp only[if_true]at f;split at f
   .cases f;obtain⟨l,k,u,t,r⟩:=s.blk j _ _ hσ p;exact⟨.inr rfl,l,k,u,t.mono ext.nil,r⟩
   .simp at f
  .rw[XP (λq=>e q.symm)]at f;exact(s.blk j y v g f).keep ext (λ_ _ _=>rfl) (λ_ _ _ _=>rfl)
section
variable {T kt et i:Nat} {x:Operand} {es:List (A×A)}
theorem OpH.range(z:P.underlying T=some (.map kt et))(B:o.op=.range T x:=by exact rfl)(hx:opA env x=.map i:=by exact rfl)(hH:H[i]?=some (.map es):=by exact rfl):
  OpH P o env H (.ptr H.length 0) (H.set i (.fmap es)++[.iter none es]):=by
 intro p j σ N a w r;have n:=Qs r x;rw[hx]at n;obtain⟨b,m,t⟩:=n;obtain⟨l,d,s,F,u,E,G⟩:=r.sim.blk i _ _ m hH;have y:=(r.sim.own i b _ m hH rfl).1;have k:=r.sim.shutMap m hH;have g:Qm p j w (λc=>j c\/c=b) w:=Q4 (λ_ q=>.inl q);have f:Qm p (λc=>j c\/c=b) w (λc=>j c\/c=b) (w.alloc (.mapIter (some b) d #[] d)):=Qm.alloc _ k.roLt k.frLt;have ext0:=(g.trans f).ext0 [];refine⟨.pointer (some ⟨w.heap.size,0,none⟩),w.alloc (.mapIter (some b) d #[] d),_,[some w.heap.size],?_,⟨w.heap.size,?_,rfl⟩,
  k.alloc (.inr ⟨b,l,d, #[],l.toList,Yu _ _,.inr rfl,by rw[Yk _ _ _ y];exact s,u,E,?_,F.mono ext0,λ_ h=>by cases h⟩),g.trans f⟩
 .simp only[execOp,B,t,Instr.range,Vm,run_underlying z,Result.andThen,MapKept.run_getObj_map s];rfl
 .rw[<- r.sim.len];simp
 .have:l.toList.filter (λe=> !#[].contains e.born)=l.toList:=by simp
  rw[this]
theorem Qid(t:P.underlying T=some (.map kt et))(z:o.op=.range T x:=by exact rfl)(hx:opA env x=.map i:=by exact rfl)(hH:H[i]?=some (.fmap es):=by exact rfl):
  OpH P o env H (.ptr H.length 0) (H++[.iter none es]):=by
 intro n j σ N a w r;have m:=Qs r x;rw[hx]at m;obtain⟨b,B,p⟩:=m;obtain⟨g,l,d,k,y,q,u,E⟩:=r.sim.blk i _ _ B hH;have s:=r.sim.roLt b g;have f:Qm n j w j (w.alloc (.mapIter (some b) d #[] d)):=Qm.alloc _ r.sim.roLt r.sim.frLt;have ext0:=f.ext0 [];refine⟨.pointer (some ⟨w.heap.size,0,none⟩),w.alloc (.mapIter (some b) d #[] d),_,[some w.heap.size],?_,⟨w.heap.size,?_,rfl⟩,
  r.sim.alloc (.inr ⟨b,l,d, #[],l.toList,Yu _ _,g,by rw[Yk _ _ _ s];exact k,q,u,?_,y.mono ext0,λ_ h=>by cases h⟩),f⟩
 .simp only[execOp,z,p,Instr.range,Vm,run_underlying t,Result.andThen,MapKept.run_getObj_map k];rfl
 .rw[<- r.sim.len];simp
 .have:l.toList.filter (λe=> !#[].contains e.born)=l.toList:=by simp
  rw[this]
theorem ER.mem{ro:Nat->Prop}{σ:Sig}{w:World}:∀{es:List (A×A)} {l:List MapEntry},ER ro σ w es l->∀e∈l,∃x es' l',(x::es').Perm es/\(e::l').Perm l/\VR ro σ w x.1 e.key/\VR ro σ w x.2 e.val/\ER ro σ w es' l'
 |[],l,h,e,he=>by cases(show l=[]from h);cases he
 |y::es,l,h,e,he=>by
  obtain⟨e0,l',rfl,h1,h2,h3⟩:=h;rcases X6.1 he with rfl|he
  .exact⟨y,es,l',.refl _,.refl _,h1,h2,h3⟩
  .obtain⟨x,es',l'',p1,p2,v1,v2,h4⟩:=ER.mem h3 e he;exact⟨x,y::es',e0::l'',(List.Perm.swap _ _ _).trans (p1.cons _),(List.Perm.swap _ _ _).trans (p2.cons _),v1,v2,⟨e0,l'',rfl,h1,h2,h4⟩⟩
theorem Qhp:∀{l:List MapEntry},(l.map (·.born)).Nodup->∀a∈l,∀b∈l,a.born=b.born->a=b
 |[],_,a,ha,_,_,_=>by cases ha
 |c::l,hn,a,ha,b,hb,hab=>by
  simp[Vj,List.nodup_cons]at hn;rcases X6.1 ha with ea|ha'<;>rcases X6.1 hb with eb|hb'
  .rw[ea,eb]
  .grind
  .grind
  .exact Qhp hn.2 a ha' b hb' hab
def NextK(H:Qd)(i:Nat)(cur:Option (A×A))(es:List (A×A))(v:A)(H':Qd):Prop:=
 (es=[]/\v=.tup [.bool false]/\H'=H)\/ ∃e es',(e::es').Perm es/\v=.tup [.bool true,e.1,e.2]/\H'=H.set i (.iter (some e) es')
theorem OpE.next{Q:Option (A×A)}(ho:o.op=.next x false:=by exact rfl)(hx:opA env x=.ptr i 0:=by exact rfl)(hH:H[i]?=some (.iter Q es):=by exact rfl):
  OpE P o env H (NextK H i Q es):=by
 intro fr t σ N a w r;have h1:=Qs r x;rw[hx]at h1;obtain⟨b,q1,q2⟩:=h1;have k:∀(v:Value) (g:World),g.heap=w.heap->g.os=w.os->g.tape=w.tape->g.output=w.output->w.drawn<=g.drawn->Sim fr t (σ++[]) H g/\Qm fr t w t g:=by
  intro v g V e2 e3 e4 e5;exact⟨by simpa using r.sim.heap V,Qm.heap V e2 e3 e4 e5⟩
 rcases r.sim.blk i _ _ q1 hH with⟨rfl,rfl,p⟩|⟨m,l,f,d,left,p1,p2,p3,p4,Y,p6,p7,p8⟩
 .refine⟨_,_,.tuple #[.bool false],w,t,[],.inl ⟨rfl,rfl,rfl⟩,?_,⟨_,rfl,_,_,rfl,rfl,rfl⟩,k (.bool false) w rfl rfl rfl rfl (XT _)⟩;generalize a.eval=ρ at*;simp only[execOp,ho,q2,Instr.next,Vm,getObj,Sem.run,p,Result.andThen];rfl
 .have ac:(leftOf l d).toList=l.toList.filter λe=> !d.contains e.born:=by simp[leftOf]
  have s:left.Perm (leftOf l d).toList:=by grind
  rcases run_next_at (P:=P) w o.type b m f f d l f p1 p3 p4 (XT _)with⟨g1,g2⟩|⟨e,g1,g,g2,g3⟩
  .have W:left=[]:=by
    have:left.length=0:=by rw[s.length_eq];omega
    grind
   subst W;have ab:es=[]:=by
    have:=p7.length
    grind
   refine⟨_,_,.tuple #[.bool false],w,t,[],.inl ⟨ab,rfl,rfl⟩,?_,⟨_,rfl,_,_,rfl,rfl,rfl⟩,k (.bool false) w rfl rfl rfl rfl (XT _)⟩
   simp_all[execOp]
  .have he:e∈left:=s.mem_iff.2 g1;have O:e∈l.toList:=by grind
   obtain⟨y,G,R,k1,k2,v1,v2,k3⟩:=p7.mem e he;have n:g.heap=w.heap/\g.os=w.os/\g.tape=w.tape/\g.output=w.output/\w.drawn<=g.drawn:=by
    rcases g2 with rfl|rfl
    .simp
    .exact⟨rfl,rfl,rfl,rfl,Nat.le_succ _⟩
   obtain⟨s1,E⟩:=k (.bool false) g n.1 n.2.1 n.2.2.1 n.2.2.2.1 n.2.2.2.2;rw[Vg]at s1;have ae:b≠m:=by
    grind
   have B:=s1.set (x':=.iter (some y) G) (obj:=.mapIter (some m) f (d.push e.born) f) q1 hH rfl
    (λz M=>by
     grind[World.shape?])
    (λu aa=>.inr ⟨m,l,f,d.push e.born,R,aa,u.sub _ p2,by
      grind,p4,Y,by
      have ad:(l.toList.filter λe=> !d.contains e.born).Nodup:=by
       have:l.toList.Nodup:=List.Pairwise.of_map _ (λa b h q=>h (congrArg _ q)) Y;exact this.filter _
      have hp:(e::R).Perm (l.toList.filter λe=> !d.contains e.born):=k2.trans p6;have L:(e::R).Nodup:=hp.nodup_iff.2 ad;have V:(l.toList.filter λF=> !(d.push e.born).contains F.born)=(l.toList.filter λe=> !d.contains e.born).filter λF=> !decide (F.born=e.born):=by
       rw[List.filter_filter];apply List.filter_congr;intro z _;simp[Array.contains_push,Bool.and_comm]
      rw[V];have h2:=hp.filter (λF=> !decide (F.born=e.born));have e2:(e::R).filter (λF=> !decide (F.born=e.born))=R:=by
       rw[List.filter_cons_of_neg (by simp),List.filter_eq_self];intro z M;have X:z∈l.toList:=(Xd.1 (hp.mem_iff.1 (X5 _ M))).1;simp only[Bool.not_eq_true',decide_eq_false_iff_not];intro hb;have:z=e:=by
        exact Qhp Y z X e O hb
       subst this;exact(List.nodup_cons.1 L).1 M
      rw[e2]at h2;exact h2,by
      have T:Ext t [] w t [] g:=E.ext0 [];exact(k3.mono T).mono ⟨u.sub,u.keep,u.shape,λ_ _ q=>q⟩,by
      intro z M;cases M;have T:Ext t [] w t [] g:=E.ext0 [];exact⟨e,O,by simp,(v1.mono T).mono ⟨u.sub,u.keep,u.shape,λ_ _ q=>q⟩,(v2.mono T).mono ⟨u.sub,u.keep,u.shape,λ_ _ q=>q⟩⟩⟩)
   have J:=E.trans B.2;have xt:=J.ext0 [];refine⟨_,_,.tuple #[.bool true,e.key,e.val],_,t,[],.inr ⟨y,G,k1,rfl,rfl⟩,?_,
    ⟨[.bool true,e.key,e.val],rfl,_,_,rfl,rfl,_,_,rfl,(v1.mono xt).mono ⟨λ_ q=>q,λ_ _=>rfl,λ_ _ q=>q,λj c q=>by simp at q⟩,_,_,rfl,(v2.mono xt).mono ⟨λ_ q=>q,λ_ _=>rfl,λ_ _ q=>q,λj c q=>by simp at q⟩,rfl⟩,by simpa using B.1,J⟩
   generalize a.eval=ρ at*;simp only[execOp,ho,q2,Vm,g3,Result.andThen,setBlock];rfl
theorem OpV.entry{e:A×A}(R:o.op=.entry x:=by exact rfl)(hx:opA env x=.ptr i 0:=by exact rfl)(hH:H[i]?=some (.iter (some e) es):=by exact rfl):OpV P o env H (.tup [e.1,e.2]):=by
 intro J M σ N a w r;have j:=Qs r x;rw[hx]at j;obtain⟨b,y,Q⟩:=j;rcases r.sim.blk i _ _ y hH with⟨_,h,_⟩|⟨m,l,d,g,left,F,E,z,B,u,G,O,n⟩
 .cases h
 .obtain⟨f,p,L,k,t⟩:=n e rfl;refine⟨.tuple #[f.key,f.val],?_,[f.key,f.val],rfl,_,_,rfl,k.mono ⟨λ_ q=>q,λ_ _=>rfl,λ_ _ q=>q,(by simp)⟩,_,_,rfl,t.mono ⟨λ_ q=>q,λ_ _=>rfl,λ_ _ q=>q,(by simp)⟩,rfl⟩;have s:l.find? (·.born==f.born)=some f:=by rw[<- Array.find?_toList];exact find_born f l.toList u p
  simp_all[execOp,Instr.entry,getObj,Sem.run]
end
end
end Go.Sw
namespace Go.Sw
def QhH{S E B:Type}(stepE:S->E->Option (Ctl S B))(stepN:S->Option B):S->List E->Option B
 |s,[]=>stepN s
 |s,e::p=>match stepE s e with
  |some (.cont s')=>QhH stepE stepN s' p
  |some (.done b)=>some b
  |none=>none
def Qdg{E:Type}(x:E):List E->List (List E)
 |[]=>[[x]]
 |y::l=>(x::y::l)::(Qdg x l).map (y:: ·)
def Qfp{E:Type}:List E->List (List E)
 |[]=>[[]]
 |x::l=>(Qfp l).flatMap (Qdg x)
theorem Qeq{E:Type}(x:E):∀(a b:List E),a++x::b∈Qdg x (a++b)
 |[],[]=>by simp[Qdg]
 |[],y::b=>by simp[Qdg]
 |y::a,b=>by
  simp only[VJ,Qdg,X6,Xe];exact .inr ⟨a++x::b,Qeq x a b,rfl⟩
theorem Qfo{E:Type}:∀(l p:List E),p.Perm l->p∈Qfp l
 |[],p,h=>by rw[List.perm_nil.1 h];simp[Qfp]
 |x::l,p,h=>by
  have hx:x∈p:=h.mem_iff.2 (by simp);obtain⟨a,b,rfl⟩:=List.append_of_mem hx;have h2:=(List.perm_cons x).1 ((List.perm_middle.symm).trans h);simp[Qfp,List.mem_flatMap];exact⟨a++b,Qfo l _ h2,Qeq x a b⟩
def anyP{E R:Type}[DecidableEq R](k:List E->Option R)(l:List E):Option R:=bif (Qfp l).all (λp=>decide (k p=k l))then k l else none
theorem QmH{E R:Type}[DecidableEq R]{k:List E->Option R}{l:List E}{r:R}(h:anyP k l=some r)(p:List E)(a:p.Perm l):k p=some r:=by
 unfold anyP at h;cases q:(Qfp l).all (λp=>decide (k p=k l))with
 |true=>
  simp_all[Qfo]
 |false=>grind
def QhB{S E B:Type}(stepE:S->E->Option (Ctl S B))(stepN:S->Option B)(G:B->Prop)(s:S)(l:List E):Prop:=∀p,p.Perm l->∃b,QhH stepE stepN s p=some b/\G b
section
variable {P:Program} {o:Oper} {env:Env} {H:Qd} {h0 N:Nat} {Q:QG} {c:Code}
def Qb9(I:Env->Qd->Prop)(Q:QG):QG
 |.normal,env,H=>I env H
 |.exit id,env,H=>Q (.exit id) env H
 |.ret,env,H=>Q .ret env H
theorem Qlz{I:Nat->Env->Qd->Prop}(t:∀n env H,I n env H->TC P h0 N c env H (Qb9 (λenv H=>∃n',n'<n/\I n' env H) Q)){n:Nat}(B:I n env H):TC P h0 N (.loop c) env H Q:=by
 intro M p y σ a w r hrd b k cs hro hb hr;have E:∀m n env H fr1 ro1 σ1 a1 w1,n<m->I n env H->Rel fr1 ro1 σ1 H env N a1 w1->Qm p y w ro1 w1->σ1.take h0=σ.take h0->Grow p w a.defers fr1 a1.defers->
   ∃e g h,Qat h0 p y σ w N a.defers Q e g h/\ArrivesIn (Machine.fenced P (WF M)) P (lone (b.atR a1 (.code c::.inLoop c::k)) cs w1) b k cs e g h:=by
  intro m
  induction m with
  |zero=>omega
  |succ m ih=>
   intro n env H fr1 ro1 σ1 a1 w1 hn B r1 ev1 t1 g1;obtain⟨e,g,h,F,d⟩:=t n env H B M fr1 ro1 σ1 a1 w1 r1 (hrd.to ev1 g1.sub) b (.inLoop c::k) cs hro hb hr;obtain⟨x,f,H',j,σ',s,z,u,L,X,J,V⟩:=F;have l:=ev1.trans (X.frMono g1.sub);have O:=g1.trans ev1.size V;have R:∀x,Q x f H'->ExR e x->Qat h0 p y σ w N a.defers Q e g h:=λx q W=>⟨x,f,H',j,σ',s,W,q,L,l,J.trans t1,O⟩;cases e with
   |normal=>
    obtain rfl:x=.normal:=z;obtain⟨n',Y,u⟩:=u;obtain⟨e2,T,w2,G,i⟩:=ih n' f H' s j σ' g h (by omega) u L l (J.trans t1) O;exact⟨e2,T,w2,G,.of_steps (StepsIn.trans d (.one (fenced_calm hb hr rfl) stepR_inLoop)) i⟩
   |exit id=>
    obtain rfl:x=.exit id:=z;exact⟨_,g,h,R _ u rfl,.pass rfl (by simp) d⟩
   |ret=>
    obtain rfl:x=.ret:=z;exact⟨_,g,h,R _ u rfl,.pass rfl (by simp) d⟩
   |_=>exact z.elim
 obtain⟨e,g,h,F,d⟩:=E (n+1) n env H p y σ a w (Xn _) B r (Qm.refl _ _ _) rfl (Grow.refl _ _ _);exact⟨e,g,h,F,.of_steps (.one (fenced_calm hb hr rfl) stepR_loop) d⟩
section
variable {S E B:Type} {stepE:S->E->Option (Ctl S B)} {stepN:S->Option B} {G:B->Prop} (Es:S->Env) (Hp:S->List (A×A)->Qd) {enc:E->A×A}
def AtP(stepE:S->E->Option (Ctl S B))(stepN:S->Option B)(G:B->Prop)(enc:E->A×A)(h0 n:Nat)(env:Env)(H:Qd):Prop:=
 ∃s l,l.length=n/\QhB stepE stepN G s l/\Le h0 env H (Es s) (Hp s (l.map enc))
theorem Qly{s0:S}{l0:List E}(h:QhB stepE stepN G s0 l0)(hI:Le h0 env H (Es s0) (Hp s0 (l0.map enc)))
  (body:∀s l,QhB stepE stepN G s l->TC P h0 N c (Es s) (Hp s (l.map enc)) (Qb9 (λenv H=>∃n',n'<l.length/\AtP Es Hp stepE stepN G enc h0 n' env H) Q)):TC P h0 N (.loop c) env H Q:=
 Qlz (I:=AtP Es Hp stepE stepN G enc h0) (λn env H ⟨s,l,hn,ha,hle⟩=>by subst hn;exact TC.le hle (body s l ha)) ⟨s0,l0,rfl,h,hI⟩
theorem Qje{α β:Type}{f:α->β}:∀{m e:List β},m.Perm e->∀{l:List α},e=l.map f->∃l':List α,l'.Perm l/\l'.map f=m:=by
 intro m e h
 induction h with
 |nil=>simp
 |cons x _ ih=>
  intro l d;cases l with
  |nil=>cases d
  |cons a l=>
   simp[Vj,List.cons.injEq]at d;obtain⟨l',g,i⟩:=ih d.2;exact⟨a::l',g.cons _,by grind⟩
 |swap x y m=>
  intro l d
  match l,d with
  |a::b::l,d=>
   exact⟨b::a::l,List.Perm.swap _ _ _,by grind⟩
 |trans _ _ ih1 ih2=>
  intro l d;obtain⟨p,g,i⟩:=ih2 d;obtain⟨j,n,k⟩:=ih1 i.symm;exact⟨j,n.trans g,k⟩
theorem Qlv{all:Array Oper}{L:List Oper}{d i:Nat}{x:Operand}{q:Option (A×A)}{s:S}{l:List E}(t:QhB stepE stepN G s l)
  (z:∀b,stepN s=some b->G b->WO P h0 N all L (up env d (.tup [.bool false])) H Q)
  (B:∀e l' D,stepE s e=some D->(∀b,D=.done b->G b)->(l'.length<l.length/\ ∀s',D=.cont s'->QhB stepE stepN G s' l')->
   WO P h0 N all L (up env d (.tup [.bool true,(enc e).1,(enc e).2])) (H.set i (.iter (some (enc e)) (l'.map enc))) Q)
  (J:o.op=.next x false:=by exact rfl)(hx:opA env x=.ptr i 0:=by exact rfl)(hH:H[i]?=some (.iter q (l.map enc)):=by exact rfl)
  (hg:QI all o env true:=by exact rfl)(hd:o.dst=some d:=by exact rfl)(hN:Nat.blt d N=true:=by exact rfl)(hh:Nat.ble h0 H.length=true:=by exact rfl):WO P h0 N all (o::L) env H Q:=by
 refine Qlu (XR hh) hg hd hN (OpE.next J hx hH) ?_;rintro v H' (⟨r,rfl,rfl⟩|⟨e,y,r,rfl,rfl⟩)
 .have:=List.map_eq_nil_iff.1 r;subst this;obtain⟨b,k,j⟩:=t [] (.refl _);exact z b k j
 .obtain⟨F,k,j⟩:=Qje r rfl;cases F with
  |nil=>cases j
  |cons a l'=>
   obtain⟨rfl,rfl⟩:=j;have g:l'.length<l.length:=by rw[<- k.length_eq];simp
   have f:∀p,p.Perm l'->∃b,QhH stepE stepN s (a::p)=some b/\G b:=λp m=>t _ ((m.cons a).trans k);cases n:stepE s a with
   |none=>
    obtain⟨b,h,_⟩:=f l' (.refl _);simp[QhH,n]at h
   |some D=>
    refine B a l' D n ?_ ⟨g,?_⟩
    .obtain⟨u,h,w⟩:=f l' (.refl _)
     grind[QhH]
    .rintro s' rfl p m;obtain⟨u,h,w⟩:=f p m;simp[QhH,n]at h;exact⟨u,h,w⟩
theorem Qnp{s:S}{l l':List E}{D:Ctl S B}(e:some (Ctl.cont s)=some D)(hc:l'.length<l.length/\ ∀s',D=.cont s'->QhB stepE stepN G s' l')(h:Le h0 env H (Es s) (Hp s (l'.map enc))):
  Qb9 (λenv H=>∃n',n'<l.length/\AtP Es Hp stepE stepN G enc h0 n' env H) Q .normal env H:=
 ⟨_,hc.1,s,l',rfl,(by grind),h⟩
theorem Qno{I:Env->Qd->Prop}{id:Nat}(h:Q (.exit id) env H):Qb9 I Q (.exit id) env H:=h
end
def Qm0{B:Type}(h0:Nat)(G:B->Prop)(Eb:B->Env)(Hb:B->Qd)(Q:QG):QG
 |.normal,env,H=>∃b,G b/\Le h0 env H (Eb b) (Hb b)
 |.exit id,env,H=>Q (.exit id) env H
 |.ret,env,H=>Q .ret env H
theorem QmK{S E B:Type}{stepE:S->E->Option (Ctl S B)}{stepN:S->Option B}{G:B->Prop}{s0:S}{l0:List E}(hl:QhB stepE stepN G s0 l0)(Eb:B->Env)(Hb:B->Qd)
  (h:TC P h0 N c env H (Qm0 h0 G Eb Hb Q))(k:∀b env H,G b->Le h0 env H (Eb b) (Hb b)->Q .normal env H):TC P h0 N c env H Q:=
 h.mono λx env' H' q=>by
  cases x with
  |normal=>obtain⟨b,e,q⟩:=q;grind
  |exit id=>exact q
  |ret=>exact q
theorem cutGN{B:Type}{G:B->Prop}{Eb:B->Env}{Hb:B->Qd}{b:B}(hG:G b)(h:Le h0 env H (Eb b) (Hb b)):Qm0 h0 G Eb Hb Q .normal env H:=⟨b,hG,h⟩
theorem Qj3{i:Nat}{e:Option (A×A)}{es:List (A×A)}{H':Qd}(s:H[i]?=some (.iter e es))(f:H.set i (.iter none es)=H'):Le h0 env H env H':=by
 subst f;intro x p σ N a w r;refine⟨p,σ,⟨r.sim.weaken s rfl ?_,r.env,r.size,r.defers⟩,λ_ q=>q,rfl⟩;intro y h;cases y with
 |none=>exact h
 |some b=>
  rcases h with⟨k,n,j⟩|⟨m,l,d,g,left,k,n,j,z,B,u,E,t⟩
  .exact .inl ⟨k,rfl,j⟩
  .exact .inr (by grind)
end
def mk{α:Type}(n:Int)(z:α):Option (List α):=bif decide (0<=n)&&decide (n<=4294967296)then some (List.replicate n.toNat z)else none
theorem mk_ok{α:Type}{n:Int}{z:α}{l:List α}(h:mk n z=some l):0<=n/\n<=4294967296/\List.replicate n.toNat z=l:=by
 unfold mk at h;cases q:(decide (0<=n)&&decide (n<=4294967296))with
 |true=>rw[q]at h;simp at q;exact⟨q.1,q.2,XZ h⟩
 |false=>rw[q]at h;cases h
theorem Qfn{α:Type}[Inhabited α](zl:List α)(k:Nat)(hk:zl.length=k)(h0:0<k):∀n,(List.range (n*k)).map (λi=>zl.toArray[i%zl.toArray.size]!)=(List.replicate n zl).flatten
 |0=>by simp
 |n+1=>by
  rw[Xm,List.range_add,Xf,Qfn zl k hk h0 n,List.replicate_succ',List.flatten_append];congr 1;simp only[Vl,List.flatten_nil,Vg,List.map_map];apply List.ext_getElem
  .simp[hk]
  .intro i h1 h2;simp only[X2,List.length_range]at h1;simp only[List.getElem_map,List.getElem_range,Function.comp,List.size_toArray,hk];rw[Nat.mul_comm,Nat.mul_add_mod,Nat.mod_eq_of_lt h1];simp[hk,h1]
section
variable {P:Program} {o:Oper} {env:Env} {H:Qd} {ro:Nat->Prop} {σ:Sig} {w:World}
theorem LR.replicate{az:List A}{l:List Value}(h:LR ro σ w az l):∀n,LR ro σ w (List.replicate n az).flatten (List.replicate n l).flatten
 |0=>rfl
 |n+1=>by
  rw[Xl,Xl];exact h.append (LR.replicate h n)
theorem Ql8{α:Type}{e:α->List A}{T et k:Nat}{x y:Operand}{L Y:IntKind}{n:Int}{zv:α}{l:List α}{z:Value}{a:A}(hm:mk n zv=some l)(E:Q6 P T et k)(hz:∀w,(zeroValue et).run P w=.ok z w)(O:ZR a z)
  (hk:Yn a=true)(hc:Yd a=e zv)(hp:(Yd a).all Yr=true)(p:Nat.beq (e zv).length k=true)
  (ho:o.op=.makeSlice T x y:=by exact rfl)(hx:opA env x=.int L n:=by exact rfl)(hy:opA env y=.int Y n:=by exact rfl)
  {fr ro:Nat->Prop}{σ:Sig}{N:Nat}{act:Act}{w:World}(r:Rel fr ro σ H env N act w):∃lv:List Value,(execOp act.eval o).run P w=.ok (.value (.slice (some ⟨w.heap.size,0,none⟩) l.length l.length)) (w.alloc (.cells lv.toArray et))/\
   LR ro [] w (l.map e).flatten lv/\(∀v∈lv,Qz v)/\allK k (l.map e)/\lv.length=l.length*k/\l.length<=4294967296:=by
 obtain⟨n0,n1,hl⟩:=mk_ok hm;have h1:=Qs r x;rw[hx]at h1;have h2:=Qs r y;rw[hy]at h2;have Q:act.eval x=.int L n:=h1;have V:act.eval y=.int Y n:=h2;obtain⟨i,hi,ag⟩:=E.bytes;obtain⟨f,c1,M⟩:=(O ro [] w).cells hk;have t:f.length=k:=by
  rw[M.length,hc];exact XQ p
 have ae:(if n.toNat*k=0 then(#[]:Array Value)else f.toArray)=f.toArray\/n.toNat*k=0:=by
  by_cases q:n.toNat*k=0
  .exact .inr q
  .exact .inl (Vr q)
 have d:∀(ZZ:Array Value),(ZZ=f.toArray\/n.toNat*k=0)->(Array.range (n.toNat*k)).map (λj=>ZZ[j%ZZ.size]!)=((List.replicate n.toNat f).flatten).toArray:=by
  intro ZZ hZ;by_cases q:n.toNat*k=0
  .rw[q];have:(List.replicate n.toNat f).flatten=[]:=by
    apply VI.1;simp[t,q]
   rw[this];simp
  .obtain rfl:ZZ=f.toArray:=hZ.resolve_right q;have R:0<k:=by
    rcases Nat.eq_zero_or_pos k with h|h
    .rw[h,Nat.mul_zero]at q;exact absurd rfl q
    .exact h
   rw[<- Qfn f k t R n.toNat];simp[XI, <- List.toArray_range]
 have B:=M.replicate n.toNat;have ad:allK k (List.replicate n.toNat (e zv)):=by
  have:∀m,allK k (List.replicate m (e zv)):=by
   intro m
   induction m with
   |zero=>trivial
   |succ m ih=>exact⟨XQ p,ih⟩
  exact this _
 have g:∀v∈(List.replicate n.toNat f).flatten,Qz v:=by
  intro v J;obtain⟨m,hm,J⟩:=List.mem_flatten.1 J;rw[List.eq_of_mem_replicate hm]at J;exact M.plain hp v J
 rw[hc]at B;have s:l.map e=List.replicate n.toNat (e zv):=by rw[<- hl,List.map_replicate]
 have F:l.length=n.toNat:=by rw[<- hl];simp
 refine⟨(List.replicate n.toNat f).flatten,?_,by rw[s];exact B,g,by rw[s];exact ad,by rw[F];simp[t],by omega⟩;rw[F]
 .have hw:IntKind.i64.wrap n=n:=by
   unfold IntKind.wrap;simp[IntKind.bits,IntKind.signed];omega
  have aa:∀(x:Nat) (W:World),(askRoom x).run P W=.ok () W:=by
   intro x W;unfold askRoom;split<;>rfl
  have G:∀(c:Array Value) (W:World),(newRow et c).run P W=.ok ⟨W.heap.size,0,none⟩ (W.alloc (.cells c et)):=λc W=>rfl;have ac:¬(n<0):=by omega
  have ab:¬((i.bytes:Int)*n>2^48):=by
   have h1:(i.bytes:Int)*n<=4096*4294967296:=Int.mul_le_mul (by omega) n1 n0 (by omega);omega
  have u:(Instr.makeSlice T (.int L n) (.int Y n)).run P w=.ok (.slice (some ⟨w.heap.size,0,none⟩) n.toNat n.toNat) (w.alloc (.cells ((List.replicate n.toNat f).flatten).toArray et)):=by
   have af:¬(n>n):=by omega
   have X:∀(k:IntKind) (m:Int) (W:World),(asInt (.int k m)).run P W=.ok m W:=λk m W=>rfl;unfold Instr.makeSlice;simp only[Vm,E.sl,E.size,hi,Result.andThen,X,Vn,hw,aa,XH];rw[Vr (by simp[ac,ab];omega)];by_cases q:n.toNat*k=0
   .simp only[q,if_true,Vn];have:=d #[] (.inr q);rw[q]at this;simp only[this,G]
   .simp only[q,if_false,hz,Vn,c1,d f.toArray (.inl rfl),G]
  generalize act.eval=ρ at*;simp only[execOp,ho,Q,V,Vm,u,Result.andThen];rfl
theorem QiW{α:Type}{e:α->List A}{T et k:Nat}{x y:Operand}{h O:IntKind}{n:Int}{zv:α}{l:List α}{z:Value}{a:A}(q:mk n zv=some l)(E:Q6 P T et k)(s:∀w,(zeroValue et).run P w=.ok z w)(f:ZR a z)
  (m:Yn a=true)(i:Yd a=e zv)(u:(Yd a).all Yr=true)(d:Nat.beq (e zv).length k=true)
  (J:o.op=.makeSlice T x y:=by exact rfl)(hx:opA env x=.int h n:=by exact rfl)(hy:opA env y=.int O n:=by exact rfl):
  OpH P o env H (.osl H.length 0 l.length k) (H++[.row et k (l.map e)]):=by
 intro R j σ N act w r;obtain⟨p,M,B,L,F,G,Q⟩:=Ql8 q E s f m i u d J hx hy r;have g:=r.sim.allocRow (t:=et) (rest:=[]) F B L;rw[Vg]at g;refine⟨_,_,j,[some w.heap.size],M,.inr ⟨w.heap.size,0,l.length,et,p.length,?_,rfl,λ_=>by simp,⟨XT _,by omega⟩,?_,by rw[G,Xw];exact XT _⟩,g,Qm.alloc _ r.sim.roLt r.sim.frLt⟩
 .rw[<- r.sim.len];simp
 .unfold World.shape?;rw[Yu];simp
end
open Go.Sort Go.Proofs Go.Shelf
section
variable {α:Type}
def ins(lt:α->α->Bool)(x:α):List α->List α
 |[]=>[x]
 |y::l=>bif lt y x then y::ins lt x l else x::y::l
def Qft(lt:α->α->Bool):List α->List α
 |[]=>[]
 |x::l=>ins lt x (Qft lt l)
theorem Qep(lt:α->α->Bool)(x:α):∀l,(ins lt x l).Perm (x::l)
 |[]=>.refl _
 |y::l=>by
  unfold ins;cases lt y x
  .exact .refl _
  .exact((Qep lt x l).cons y).trans (List.Perm.swap _ _ _)
theorem Qbl(lt:α->α->Bool):∀l,(Qft lt l).Perm l
 |[]=>.refl _
 |x::l=>(Qep lt x _).trans ((Qbl lt l).cons x)
structure QfK (lt:α->α->Bool) (l:List α):Prop where
 irrefl:∀x∈l,lt x x=false
 trans:∀x∈l,∀y∈l,∀z∈l,lt x y=true->lt y z=true->lt x z=true
 ntrans:∀x∈l,∀y∈l,∀z∈l,lt x y=false->lt y z=false->lt x z=false
theorem QfK.mono{lt:α->α->Bool}{l m:List α}(h:QfK lt l)(hm:∀x∈m,x∈l):QfK lt m:=
 ⟨λx hx=>h.irrefl x (hm x hx),λx hx y hy z hz=>h.trans x (hm x hx) y (hm y hy) z (hm z hz),λx hx y hy z hz=>h.ntrans x (hm x hx) y (hm y hy) z (hm z hz)⟩
theorem QfK.asymm{lt:α->α->Bool}{l:List α}(h:QfK lt l){x y:α}(d:x∈l)(e:y∈l)(a:lt x y=true):lt y x=false:=by
 cases q:lt y x
 .rfl
 .rw[<- h.irrefl x d,h.trans x d y e x d a q]
theorem Qeo{lt:α->α->Bool}{x:α}:∀{l:List α},QfK lt (x::l)->l.Pairwise (λa b=>lt b a=false)->(ins lt x l).Pairwise (λa b=>lt b a=false)
 |[],_,_=>by simp[ins]
 |y::l,h,hp=>by
  obtain⟨h1,h2⟩:=Xc.1 hp;unfold ins;cases q:lt y x
  .refine Xc.2 ⟨λz hz=>?_,hp⟩;rcases X6.1 hz with rfl|hz
   .exact q
   .exact h.ntrans z (by simp[hz]) y (by simp) x (by simp) (h1 z hz) q
  .refine Xc.2 ⟨λz hz=>?_,Qeo (h.mono (by grind)) h2⟩;rcases X6.1 ((Qep lt x l).mem_iff.1 hz)with rfl|hz
   .exact h.asymm (by simp) (by simp) q
   grind
theorem QcI{lt:α->α->Bool}:∀{l:List α},QfK lt l->(Qft lt l).Pairwise (λa b=>lt b a=false)
 |[],_=>by simp[Qft]
 |x::l,h=>Qeo (h.mono (by
   intro z hz;rcases X6.1 hz with rfl|hz
   .simp
   grind[Qbl])) (QcI (h.mono (by grind)))
theorem Qd7{lt:α->α->Bool}:∀{l m:List α},l.Perm m->(∀x∈l,∀y∈l,lt x y=false->lt y x=false->x=y)->l.Pairwise (λa b=>lt b a=false)->m.Pairwise (λa b=>lt b a=false)->l=m
 |[],m,h,_,_,_=>by simp_all
 |x::l,[],h,_,_,_=>by simp_all
 |x::l,y::m,h,ha,hl,hm=>by
  obtain⟨l1,l2⟩:=Xc.1 hl;obtain⟨m1,m2⟩:=Xc.1 hm;have hy:y∈x::l:=h.mem_iff.2 (by simp);have hxy:x=y:=by
   grind
  subst hxy;rw[Qd7 (by simp_all) (by grind) l2 m2]
def ltO(cf:α->α->Option Int)(x y:α):Bool:=match cf x y with
 |some c=>decide (c<0)
 |none=>false
def Qlp[DecidableEq α](cf:α->α->Option Int)(l:List α):Bool:=
 l.all λx=> !ltO cf x x&&l.all λy=>(cf x y).isSome&&(ltO cf x y||ltO cf y x||decide (x=y))&&l.all λz=>(!ltO cf x y|| !ltO cf y z||ltO cf x z)&&(ltO cf x y||ltO cf y z|| !ltO cf x z)
def QgA[DecidableEq α](cf:α->α->Option Int)(l:List α):Option (List α):=bif Nat.ble l.length Ys&&Qlp cf l then some (Qft (ltO cf) l)else none
theorem Qgz[DecidableEq α]{a:α->α->Option Int}{l l':List α}(h:QgA a l=some l'):
  l.length<=Ys/\(∀x∈l,∀y∈l,∃c,a x y=some c)/\QfK (ltO a) l/\(∀x∈l,∀y∈l,ltO a x y=false->ltO a y x=false->x=y)/\Qft (ltO a) l=l':=by
 unfold QgA at h;cases i:Nat.ble l.length Ys with
 |false=>grind
 |true=>
 rw[i,Vz]at h;cases q:Qlp a l with
 |false=>grind
 |true=>
  rw[q]at h;refine⟨(by simp_all),?_⟩;unfold Qlp at q;simp[Xs,XW,Bool.not_eq_true',Bool.or_eq_true]at q;refine⟨λx d y e=>Option.isSome_iff_exists.1 ((q x d).2 y e).1.1,⟨λx d=>(q x d).1,λx d y e z j g f=>?_,λx d y e z j g f=>?_⟩,λx d y e g f=>?_,XZ h⟩
  .grind
  .grind
  grind
theorem QbZ[DecidableEq α]{a:α->α->Option Int}{l l':List α}(h:QgA a l=some l'):l.length=l'.length:=by
 rw[<- (Qgz h).2.2.2.2];exact(Qbl _ _).length_eq.symm
theorem Qaj{l l':List α}{i:Int}{x:α}(h:Qc7 l i x=some l'):l.length=l'.length:=by
 grind[Qc7]
theorem Q1{f:Nat}{env:Env}{H:Qd}{s:Nat}{a a':A}(h:lk env s=a)(e:a=a'):Le f env H (up env s a') H:=by
 intro i g σ N act w r;refine⟨g,σ,⟨r.sim,λd=>?_,r.size,r.defers⟩,λ_ q=>q,rfl⟩;subst e;have:lk (up env s a) d=lk env d:=by
  simp[lk];cases q:Nat.beq d s with
  |true=>simp_all
  |false=>rfl
 rw[this];exact r.env d
end
section
variable {fr ro:Nat->Prop} {σ:Sig} {H:Qd} {w w':World}
theorem Qdx(hh:∀b,b<w.heap.size->w'.heap[b]?=w.heap[b]?)(hro:∀b,ro b->b<w.heap.size)(σ:Sig):Ext ro σ w ro σ w':=
 ⟨λ_ q=>q,(by grind),λb x hx=>by grind[World.shape?],λ_ _ q=>q⟩
theorem Sim.grown(s:Sim fr ro σ H w)(a:∀b,b<w.heap.size->w'.heap[b]?=w.heap[b]?)(k:w.heap.size<=w'.heap.size):Sim fr ro σ H w':=by
 refine⟨s.len,s.roOk.to (λ_ q=>q) (λb q=>a b (s.roLt b q)) (λb h=>Vf (s.roLt b h) k),λb h=>Vf (s.frLt b h) k,s.roFr,λi b x f e n=>?_,s.inj,λi y x f e=>?_,s.hidTo (· = ·) Yb k (by simp) (by simp) λj d y g l r=>.inl ⟨j,y,rfl,g,l,id,λc q=>s.hidKeep g l (λz=>a d (s.own j d y g l z).1) (λb q=>a b (s.roLt b q)) q⟩⟩
 .obtain⟨p,q⟩:=s.own i b x f e n
  grind
 .refine(s.blk i y x f e).keep (Qdx a s.roLt σ) ?_ ?_
  .rintro b rfl m;exact a b (s.own i b x f e m).1
  .rintro b c rfl m;exact a c (s.hid i b x c f e m).lt
theorem Qm.grown(hh:∀b,b<w.heap.size->w'.heap[b]?=w.heap[b]?)(hs:w.heap.size<=w'.heap.size)(s:Sim fr ro σ H w)(ho:w'.os=w.os)(ht:w'.tape=w.tape)(hu:w'.output=w.output)(hd:w.drawn<=w'.drawn):Qm fr ro w ro w':=
 ⟨λ_ q=>q,λb h=>hh b (s.roLt b h),λb h=>hh b (s.frLt b h),hs,(Qdx hh s.roLt σ).shape,ho,ht,hu,hd⟩
theorem Qmf(i:∀b,b<w.heap.size->w'.heap[b]?=w.heap[b]?)(j:w.heap.size<=w'.heap.size)(f:w'.os=w.os)(e:w'.tape=w.tape)(d:w'.output=w.output)(h:w.drawn<=w'.drawn):
  ∃q os',w'=grow (w.drewN q) os':=by
 refine⟨w'.drawn-w.drawn,w'.heap.extract w.heap.size w'.heap.size,?_⟩;obtain⟨a,l,g,n,p⟩:=w';simp only at i j f e d h;subst f e d;unfold grow World.drewN;have k:a=w.heap++a.extract w.heap.size a.size:=by
  grind
 have m:g=w.drawn+(g-w.drawn):=by omega
 grind
end
end Go.Sw
