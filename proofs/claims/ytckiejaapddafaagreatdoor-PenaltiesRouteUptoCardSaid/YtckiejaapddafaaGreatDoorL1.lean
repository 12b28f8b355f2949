/- The rules by which the code is walked, with what they rest on (part 1). -/
import Derived.Calls
import Derived.Tactics
import Derived.Below
import Derived.TacticsIn
import Derived.OrdersIn
import Derived.RangeFuncLeaves
import Derived.RangeFuncRecord
import Derived.Laws.Strings
import Derived.Laws.World
import Derived.Orders
import Derived.Maps.Keyed
import Derived.Laws.StructEq
import Derived.Maps.RangeRun
set_option linter.unusedVariables false
set_option linter.unusedSimpArgs false
set_option linter.unusedSectionVars false
namespace Go.Sw
abbrev Xa:= @List.getElem?_set_self
abbrev Xb:= @List.getElem?_set
abbrev Xc:= @List.pairwise_cons
abbrev Xd:= @List.mem_filter
abbrev Xe:= @List.mem_map
abbrev Xf:= @List.map_append
abbrev Xg:= @Bool.not_true
abbrev Xh:= @Bool.not_false
abbrev Xi:= @Bool.false_eq_true
abbrev Xj:= @Option.map_some
abbrev Xk:= @Option.map_none
abbrev Xl:= @List.replicate_succ
abbrev Xm:= @Nat.succ_mul
abbrev Xn:= @Nat.not_lt_zero
abbrev Xo:= @Nat.lt_succ_self
abbrev Xp:= @Nat.lt_succ_iff_lt_or_eq
abbrev Xq:= @List.getElem?_map
abbrev Xr:= @List.drop_eq_getElem_cons
abbrev Xs:= @List.drop_eq_nil_iff
abbrev Xt:= @List.drop_length
abbrev Xu:= @List.flatten_append
abbrev Xv:= @List.all_eq_true
abbrev Xw:= @List.any_eq_true
abbrev Xx:= @List.length_range
abbrev Xy:= @Array.toList_inj
abbrev Xz:= @Nat.sub_zero
abbrev XA:= @Nat.zero_add
abbrev XB:= @Nat.add_zero
abbrev XC:= @List.length_take
abbrev XD:= @List.length_drop
abbrev XE:= @List.take_append_drop
abbrev XF:= @Nat.add_mul
abbrev XG:= @Nat.min_eq_left
abbrev XH:= @Nat.mul_le_mul_right
abbrev XI:= @List.foldl_append
abbrev XJ:= @List.foldl_cons
abbrev XK:= @List.getElem?_cons_zero
abbrev XL:= @List.getElem?_cons_succ
abbrev XM:= @List.getElem?_toArray
abbrev XN:= @Sem.run_ite
abbrev XO:= @List.map_toArray
abbrev XP:= @Option.bind_some
abbrev XQ:= @List.getElem?_eq_getElem
abbrev XR:= @List.getElem?_eq_some_iff
abbrev XS:= @List.getElem?_append_left
abbrev XT:= @List.getElem?_append_right
abbrev XU:= @List.getElem?_eq_none
abbrev XV:= @List.getElem?_set_ne
abbrev XW:= @Nat.eq_of_beq_eq_true
abbrev XX:= @Nat.le_of_ble_eq_true
abbrev XY:= @Nat.ble_eq_true_of_le
abbrev XZ:= @Nat.le_refl
abbrev X0:= @Nat.zero_le
abbrev X2:= @Nat.le_trans
abbrev X3:= @Bool.and_eq_true
abbrev X4:= @Bool.eq_iff_iff
abbrev X5:= @Option.some.inj
abbrev X6:= @List.length_cons
abbrev X7:= @List.length_map
abbrev X8:= @List.length_append
abbrev X9:= @List.length_set
abbrev Va:= @List.mem_cons_self
abbrev Vb:= @List.mem_cons_of_mem
abbrev Vc:= @List.mem_cons
abbrev Vd:= @List.take_append_of_le_length
abbrev Ve:= @List.drop_append_of_le_length
abbrev Vf:= @List.take_length
abbrev Vg:= @List.drop_length_add_append
abbrev Vh:= @List.take_length_add_append
abbrev Vi:= @Array.getElem?_eq_some_iff
abbrev Vj:= @List.getElem_mem
abbrev Vk:= @Array.getElem?_setIfInBounds
abbrev Vl:= @Nat.lt_of_lt_of_le
abbrev Vm:= @List.append_nil
abbrev Vn:= @List.nil_append
abbrev Vp:= @List.append_assoc
abbrev Vq:= @List.map_cons
abbrev Vr:= @List.map_nil
abbrev Vs:= @List.flatten_cons
abbrev Vt:= @Sem.run_bind
abbrev Vu:= @Sem.run_pure
abbrev Vv:= @cond_true
abbrev Vw:= @cond_false
abbrev Vx:= @decide_eq_true_eq
abbrev Vy:= @if_neg
abbrev Vz:= @if_pos
abbrev VA:= @decide_eq_true
abbrev VB:= @of_decide_eq_true
abbrev VC:= @of_decide_eq_false
abbrev VD:= @decide_eq_false
abbrev VE:= @beq_iff_eq
abbrev VF:= @beq_eq_false_iff_ne
abbrev VG:= @Bool.true_and
abbrev VH:= @List.mem_singleton
abbrev VI:= @Nat.lt_or_ge
abbrev VJ:= @List.mem_append
abbrev VK:= @List.pairwise_iff_getElem
abbrev VL:= @Nat.beq_refl
abbrev VM:= @List.mem_map_of_mem
abbrev VN:= @List.mem_of_getElem?
abbrev VO:= @List.take_of_length_le
abbrev VP:= @List.length_eq_zero_iff
abbrev VQ:= @List.cons_append
abbrev VS:= @List.getD_eq_getElem?_getD
abbrev VT:= @Bool.eq_false_iff
abbrev VU:= @List.length_filter_le
def QlO:Nat:=11
def nG:Nat:=12
def QjT:List (List Int):=[[1,9999],[-1099511627776,1099511627776],[0,1048576],[0,39],[0,255],[0,1099511627776],[0,255],[1,1048576],[0,1],[0,31],[1,1048576]]
theorem gOk:((List.range nG).all λb=>Nat.beq b QlO|| !(QjT.getD b []).isEmpty)=true:=by decide
theorem gLt:Nat.ble QjT.length nG=true:=by decide
theorem QqP:Nat.blt QlO nG=true:=by decide
structure GP (w:World):Prop where
 max:∃m:Int,w.cell? ⟨QlO,0,none⟩=some (.int .i64 m)
 tab:∀(g:Nat) (zs:List Int),QjT[g]?=some zs->∀(i:Nat) (z:Int),zs[i]?=some z->w.cell? ⟨g,i,none⟩=some (.int .i64 z)
theorem GP.keep{w w':World}(h:∀b,b<nG->w'.heap[b]?=w.heap[b]?)(g:GP w):GP w':=by
 obtain⟨m,f⟩:=g.max;refine⟨⟨m,?_⟩,λd e a i z j=>?_⟩
 .rw[<- f];unfold World.cell?;rw[h QlO (by simpa using QqP)]
 .rw[<- g.tab d e a i z j];unfold World.cell?;have k:=(XR.1 a).1;have l:QjT.length<=nG:=by simpa using gLt
  rw[h d (by omega)]
theorem Qg0{w:World}{b i:Nat}{v:Value}(h:w.cell? ⟨b,i,none⟩=some v):b<w.heap.size:=by
 cases e:w.heap[b]? with
 |none=>simp[World.cell?,e]at h
 |some o=>exact(Vi.1 e).1
theorem GP.size{w:World}(g:GP w)(b:Nat)(d:b<nG):b<w.heap.size:=by
 have h:=Xv.1 gOk b (List.mem_range.2 d);rw[Bool.or_eq_true]at h;rcases h with h|h
 .obtain⟨m,f⟩:=g.max;rw[XW h];exact Qg0 f
 .cases e:QjT[b]? with
  |none=>rw[VS,e]at h;simp at h
  |some a=>
   cases a with
   |nil=>rw[VS,e]at h;simp at h
   |cons z a=>exact Qg0 (g.tab b _ e 0 z rfl)
end Go.Sw
namespace Go.Sw
inductive A where
 |any
 |bool (b:Bool)
 |int (k:IntKind) (n:Int)
 |str (s:List UInt8)
 |nilp
 |ptr (i off:Nat)
 |rp (cs:List A)
 |nils
 |rsl (k:Nat) (es:List (List A))
 |osl (i o n k:Nat)
 |agg (cs:List A)
 |fn (f:Fn) (first cap:List A)
 |nilf
 |iface (t:Nat) (v:A)
 |nilif
 |map (i:Nat)
 |nilm
 |tup (vs:List A)
abbrev Sig:=List (Option Nat)
def Qp:Value->Prop
 |.agg _|.tuple _=>False
 |_=>True
mutual
def VR(ro:Nat->Prop)(σ:Sig)(w:World):A->Value->Prop
 |.any,_=>True
 |.bool b,v=>v=.bool b
 |.int k n,v=>v=.int k n
 |.str s,v=>v=.string ⟨s.toArray⟩
 |.nilp,v=>v=.pointer none
 |.ptr i off,v=>∃b,σ[i]?=some (some b)/\v=.pointer (some ⟨b,off,none⟩)
 |.rp cs,v=>∃b off,v=.pointer (some ⟨b,off,none⟩)/\ro b/\CR ro [] w b cs off
 |.nils,v=>v=.slice none 0 0
 |.rsl k es,v=>∃a cap,v=.slice a es.length cap/\es.length<=cap/\
   (es=[]\/ ∃b off,a=some ⟨b,off,none⟩/\ro b/\RR ro [] w b k es off)
 |.osl i o n k,v=>(n=0/\v=.slice none 0 0)\/
   ∃b p cap t m,σ[i]?=some (some b)/\v=.slice (some ⟨b,p,none⟩) n cap/\(0<cap->p=o*k)/\(n<=cap/\cap<=9223372036854775807)/\w.shape? b=some (t,m)/\(o+cap)*k<=m
 |.agg cs,v=>∃l:List Value,v=.agg l.toArray/\LR ro σ w cs l
 |.fn f first cap,v=>∃l l':List Value,v=.func f l.toArray l'.toArray/\LR ro σ w first l/\LR ro σ w cap l'
 |.nilf,v=>v=.nilFunc
 |.iface t a,v=>∃x,v=.iface t x/\VR ro σ w a x
 |.nilif,v=>v=.nilIface
 |.map i,v=>∃b,σ[i]?=some (some b)/\v=.map (some b)
 |.nilm,v=>v=.map none
 |.tup vs,v=>∃l:List Value,v=.tuple l.toArray/\LR ro σ w vs l
def CR(ro:Nat->Prop)(σ:Sig)(w:World)(b:Nat):List A->Nat->Prop
 |[],_=>True
 |a::r,off=>(∃v,w.cell? ⟨b,off,none⟩=some v/\Qp v/\VR ro σ w a v)/\CR ro σ w b r (off+1)
def RR(ro:Nat->Prop)(σ:Sig)(w:World)(b k:Nat):List (List A)->Nat->Prop
 |[],_=>True
 |cs::r,off=>cs.length=k/\CR ro σ w b cs off/\RR ro σ w b k r (off+k)
def LR(ro:Nat->Prop)(σ:Sig)(w:World):List A->List Value->Prop
 |[],l=>l=[]
 |a::r,l=>∃v l',l=v::l'/\VR ro σ w a v/\LR ro σ w r l'
end
structure Ext (ro:Nat->Prop) (σ:Sig) (w:World) (ro':Nat->Prop) (σ':Sig) (w':World):Prop where
 sub:∀b,ro b->ro' b
 keep:∀b,ro b->w'.heap[b]?=w.heap[b]?
 shape:∀b x,w.shape? b=some x->w'.shape? b=some x
 sig:∀(i b:Nat),σ[i]?=some (some b)->σ'[i]?=some (some b)
theorem Qg1{w w':World}{b off:Nat}(h:w'.heap[b]?=w.heap[b]?):w'.cell? ⟨b,off,none⟩=w.cell? ⟨b,off,none⟩:=by
 simp only[World.cell?,h]
theorem Ext.nil{ro ro':Nat->Prop}{σ σ':Sig}{w w':World}(h:Ext ro σ w ro' σ' w'):Ext ro [] w ro' [] w':=
 ⟨h.sub,h.keep,h.shape,λ_ _ q=>q⟩
mutual
theorem VR.mono{ro ro':Nat->Prop}{w w':World}:∀{a:A} {σ σ':Sig} {v:Value},Ext ro σ w ro' σ' w'->VR ro σ w a v->VR ro' σ' w' a v
 |.any,_,_,_,h,_=>trivial
 |.bool b,_,_,v,h,q=>q
 |.int k n,_,_,v,h,q=>q
 |.str s,_,_,v,h,q=>q
 |.nilp,_,_,v,h,q=>q
 |.ptr i off,_,_,v,h,q=>by
  simp only[VR]at q⊢;obtain⟨b,h1,h2⟩:=q;exact⟨b,h.sig _ _ h1,h2⟩
 |.rp cs,_,_,v,h,q=>by
  simp only[VR]at q⊢;obtain⟨b,off,h1,h2,h3⟩:=q;exact⟨b,off,h1,h.sub _ h2,CR.mono h.nil h2 h3⟩
 |.nils,_,_,v,h,q=>q
 |.rsl k es,_,_,v,h,q=>by
  simp only[VR]at q⊢;obtain⟨a,cap,h1,h2,h3⟩:=q;refine⟨a,cap,h1,h2,?_⟩;rcases h3 with h3|⟨b,off,h4,h5,h6⟩
  .exact .inl h3
  .exact .inr ⟨b,off,h4,h.sub _ h5,RR.mono h.nil h5 h6⟩
 |.osl i o n k,_,_,v,h,q=>by
  simp only[VR]at q⊢;rcases q with q|⟨b,p,cap,t,m,h1,h2,h6,h3,h4,h5⟩
  .exact .inl q
  .exact .inr ⟨b,p,cap,t,m,h.sig _ _ h1,h2,h6,h3,h.shape _ _ h4,h5⟩
 |.agg cs,_,_,v,h,q=>by
  simp only[VR]at q⊢;obtain⟨l,h1,h2⟩:=q;exact⟨l,h1,LR.mono h h2⟩
 |.fn f a c,_,_,v,h,q=>by
  simp only[VR]at q⊢;obtain⟨l,l',h1,h2,h3⟩:=q;exact⟨l,l',h1,LR.mono h h2,LR.mono h h3⟩
 |.nilf,_,_,v,h,q=>q
 |.iface t a,_,_,v,h,q=>by
  simp only[VR]at q⊢;obtain⟨x,h1,h2⟩:=q;exact⟨x,h1,VR.mono h h2⟩
 |.nilif,_,_,v,h,q=>q
 |.map i,_,_,v,h,q=>by
  simp only[VR]at q⊢;obtain⟨b,h1,h2⟩:=q;exact⟨b,h.sig _ _ h1,h2⟩
 |.nilm,_,_,v,h,q=>q
 |.tup vs,_,_,v,h,q=>by
  simp only[VR]at q⊢;obtain⟨l,h1,h2⟩:=q;exact⟨l,h1,LR.mono h h2⟩
theorem CR.mono{ro ro':Nat->Prop}{w w':World}:∀{cs:List A} {σ σ':Sig} {b off:Nat},Ext ro σ w ro' σ' w'->ro b->CR ro σ w b cs off->CR ro' σ' w' b cs off
 |[],_,_,_,_,_,_,_=>trivial
 |a::r,_,_,b,off,h,hb,q=>by
  simp only[CR]at q⊢;obtain⟨⟨v,h1,hp,h2⟩,h3⟩:=q;exact⟨⟨v,by rw[Qg1 (h.keep _ hb)];exact h1,hp,VR.mono h h2⟩,CR.mono h hb h3⟩
theorem RR.mono{ro ro':Nat->Prop}{w w':World}:∀{es:List (List A)} {σ σ':Sig} {b k off:Nat},Ext ro σ w ro' σ' w'->ro b->RR ro σ w b k es off->RR ro' σ' w' b k es off
 |[],_,_,_,_,_,_,_,_=>trivial
 |cs::r,_,_,b,k,off,h,hb,q=>by
  simp only[RR]at q⊢;obtain⟨h1,h2,h3⟩:=q;exact⟨h1,CR.mono h hb h2,RR.mono h hb h3⟩
theorem LR.mono{ro ro':Nat->Prop}{w w':World}:∀{az:List A} {σ σ':Sig} {l:List Value},Ext ro σ w ro' σ' w'->LR ro σ w az l->LR ro' σ' w' az l
 |[],_,_,_,h,q=>q
 |a::r,_,_,l,h,q=>by
  simp only[LR]at q⊢;obtain⟨v,l',h1,h2,h3⟩:=q;exact⟨v,l',h1,VR.mono h h2,LR.mono h h3⟩
end
structure Ent where
 fl:Bool
 off:Nat
 lo:Int
 hi:Int
def eC(b1 b2:Nat)(e:Ent):List A:=[.ptr (bif e.fl then b2 else b1) e.off,.int .i64 e.lo,.int .i64 e.hi]
inductive Blk where
 |dead
 |cells (t:Nat) (cs:List A)
 |row (t k:Nat) (es:List (List A))
 |rowr (t k:Nat) (es:List (List A))
 |map (es:List (A×A))
 |iter (cur:Option (A×A)) (es:List (A×A))
 |fmap (es:List (A×A))
 |ents (t b1 b2:Nat) (es:List Ent)
 |mapO (fz:Bool) (t k:Nat) (es:List (A×Option (List (List A))))
 |mapP (es:List (A×A))
 |frow (t k:Nat) (es:List (List A))
def Blk.live:Blk->Bool
 |.dead=>false
 |.fmap _=>false
 |.frow _ _ _=>false
 |.mapO fz _ _ _=> !fz
 |_=>true
def Blk.held:Blk->Bool
 |.mapO fz _ _ _=>fz
 |_=>false
def Blk.holds(x:Blk):Bool:=x.live||x.held
theorem Qay{x:Blk}(h:x.live=true):x≠ .dead:=by rintro rfl;cases h
theorem QeL{x:Blk}(h:x.holds=true):x≠ .dead:=by rintro rfl;cases h
theorem QbK{x:Blk}(h:x.live=true):x.holds=true:=by unfold Blk.holds;rw[h];rfl
abbrev Qd:=List Blk
def ER(ro:Nat->Prop)(σ:Sig)(w:World):List (A×A)->List MapEntry->Prop
 |[],l=>l=[]
 |x::r,l=>∃e l',l=e::l'/\VR ro σ w x.1 e.key/\VR ro σ w x.2 e.val/\ER ro σ w r l'
def ItR(ro:Nat->Prop)(w:World)(b:Nat)(cur:Option (A×A))(es:List (A×A)):Prop:=
 (es=[]/\cur=none/\w.heap[b]?=some (.mapIter none 0 #[] 0))\/
 ∃m l clock seen left,w.heap[b]?=some (.mapIter (some m) clock seen clock)/\ro m/\w.heap[m]?=some (.map l clock)/\(∀e∈l.toList,e.born<clock)/\(l.toList.map (·.born)).Nodup/\
  (left:List MapEntry).Perm (l.toList.filter λe=> !seen.contains e.born)/\ER ro [] w es left/\
  (∀x,cur=some x->∃e∈l.toList,seen.back? =some e.born/\VR ro [] w x.1 e.key/\VR ro [] w x.2 e.val)
def RL(ro:Nat->Prop)(σ:Sig)(w:World)(k:Nat):List (List A)->List Value->Prop
 |[],_=>True
 |c::es,l=>∃l1 l2,l=l1++l2/\c.length=k/\(LR ro σ w c l1/\ ∀v∈l1,Qp v)/\RL ro σ w k es l2
theorem RL.mono{ro ro':Nat->Prop}{σ σ':Sig}{w w':World}(h:Ext ro σ w ro' σ' w'){k:Nat}:∀{es:List (List A)} {l:List Value},RL ro σ w k es l->RL ro' σ' w' k es l
 |[],_,_=>trivial
 |c::es,l,⟨l1,l2,h1,h2,h3,h4⟩=>⟨l1,l2,h1,h2,⟨h3.1.mono h,h3.2⟩,RL.mono h h4⟩
def SO(ro:Nat->Prop)(w:World)(t k:Nat)(rows:List (List A))(v:Value):Prop:=
 (rows=[]/\v=.slice none 0 0)\/ ∃(c p cap:Nat) (vs:List Value),v=.slice (some ⟨c,p,none⟩) rows.length cap/\(rows.length<=cap/\cap<=9223372036854775807)/\w.heap[c]?=some (.cells vs.toArray t (0,0))/\cap*k<=vs.length/\RL ro [] w k rows vs/\(0<cap->p=0)
def MO(ro:Nat->Prop)(w:World)(t k:Nat):List (A×Option (List (List A)))->List MapEntry->Prop
 |[],l=>l=[]
 |x::r,l=>∃e l',l=e::l'/\VR ro [] w x.1 e.key/\(∀rows,x.2=some rows->SO ro w t k rows e.val)/\MO ro w t k r l'
def Qev:List (A×Option (List (List A)))->List MapEntry->Nat->Prop
 |x::r,e::l,c=>(x.2.isSome=true/\ ∃p n cap,e.val=.slice (some ⟨c,p,none⟩) n cap)\/Qev r l c
 |_,_,_=>False
def Qky:List (A×Option (List (List A)))->List MapEntry->Prop
 |x::r,e::l=>(∀c,x.2.isSome=true->(∃p n cap,e.val=.slice (some ⟨c,p,none⟩) n cap)->¬Qev r l c)/\Qky r l
 |_,_=>True
def Hid(w:World):Blk->Nat->Nat->Prop
 |.mapO _ _ _ es,b,c=>∃l clock,w.heap[b]?=some (.map l clock)/\Qev es l.toList c
 |_,_,_=>False
theorem Hid.keep{w w':World}{x:Blk}{b c:Nat}(h:w'.heap[b]?=w.heap[b]?)(q:Hid w' x b c):Hid w x b c:=by
 cases x with
 |mapO fz t k f=>obtain⟨l,d,a,e⟩:=q;exact⟨l,d,by rw[<- h];exact a,e⟩
 |_=>exact q.elim
theorem Hid.holds{w:World}{x:Blk}{b c:Nat}(q:Hid w x b c):x.holds=true:=by
 cases x with
 |mapO fz t k a=>cases fz<;>rfl
 |_=>exact q.elim
theorem MO.mono{ro ro':Nat->Prop}{σ σ':Sig}{w w':World}(h:Ext ro σ w ro' σ' w'){t k:Nat}:∀{es:List (A×Option (List (List A)))} {l:List MapEntry},(∀c,Qev es l c->w'.heap[c]?=w.heap[c]?)->MO ro w t k es l->MO ro' w' t k es l
 |[],_,_,q=>q
 |x::r,_,hh,⟨e,l',h1,h2,h3,h4⟩=>by
  subst h1;refine⟨e,l',rfl,h2.mono h.nil,λrows hr=>?_,MO.mono h (λc hc=>hh c (.inr hc)) h4⟩;rcases h3 rows hr with q|⟨c,p,cap,vs,q1,q2,q3,q4,q5,q6⟩
  .exact .inl q
  .exact .inr ⟨c,p,cap,vs,q1,q2,by rw[hh c (.inl ⟨by rw[hr];rfl,p,_,_,q1⟩)];exact q3,q4,q5.mono h.nil,q6⟩
theorem MO.cells{ro:Nat->Prop}{w:World}{t k:Nat}:∀{es:List (A×Option (List (List A)))} {l:List MapEntry} {c:Nat},MO ro w t k es l->Qev es l c->∃vs:Array Value,w.heap[c]?=some (.cells vs t (0,0))
 |[],l,c,h,q=>by cases l<;>exact q.elim
 |x::r,_,c,⟨e,l',h1,h2,h3,h4⟩,q=>by
  subst h1;rcases q with⟨q1,p,n,cap,q2⟩|q
  .obtain⟨rows,hr⟩:=Option.isSome_iff_exists.1 q1;rcases h3 rows hr with⟨_,z⟩|⟨c',p',cap',vs,z1,z2,z3,z4,z5,z6⟩
   .rw[q2]at z;cases z
   .rw[q2]at z1;cases z1;exact⟨_,z3⟩
  .exact MO.cells h4 q
def Born(l:Array MapEntry)(clock:Nat):Prop:=clock=l.size/\ ∀(i:Nat) (e:MapEntry),l.toList[i]?=some e->e.born=i
theorem Born.modify{l:Array MapEntry}{a j:Nat}{f:MapEntry->MapEntry}(h:Born l a)(k:∀e,(f e).born=e.born):Born (l.modify j f) a:=by
 obtain⟨g,d⟩:=h;refine⟨by simp[g],λi m q=>?_⟩;rw[Array.toList_modify,List.getElem?_modify]at q;cases z:l.toList[i]? with
 |none=>rw[z]at q;simp at q
 |some e=>
  rw[z]at q;by_cases b:j=i
  .simp[b]at q;rw[<- q,k];exact d i e z
  .simp[b]at q;rw[<- q];exact d i e z
def BR(ro:Nat->Prop)(σ:Sig)(w:World):Blk->Option Nat->Prop
 |.dead,_=>True
 |.cells t cs,some b=>∃l:List Value,w.heap[b]?=some (.cells l.toArray t (0,0))/\LR ro σ w cs l/\ ∀v∈l,Qp v
 |.row t k es,some b=>∃l:List Value,w.heap[b]?=some (.cells l.toArray t (0,0))/\RL ro [] w k es l
 |.rowr t k es,some b=>∃l:List Value,w.heap[b]?=some (.cells l.toArray t (0,0))/\RL ro σ w k es l
 |.row _ _ es,none=>es=[]
 |.ents t b1 b2 es,some b=>∃l:List Value,w.heap[b]?=some (.cells l.toArray t (0,0))/\RL ro σ w 3 (es.map (eC b1 b2)) l
 |.ents _ _ _ es,none=>es=[]
 |.map es,some b=>∃l clock,w.heap[b]?=some (.map l clock)/\ER ro [] w es l.toList/\
   (∀e∈l.toList,e.born<clock)/\(l.toList.map (·.born)).Nodup/\(l.toList.map (·.key)).Nodup
 |.mapP es,some b=>∃l clock,w.heap[b]?=some (.map l clock)/\ER ro σ w es l.toList/\
   (∀e∈l.toList,e.born<clock)/\(l.toList.map (·.born)).Nodup/\(l.toList.map (·.key)).Nodup
 |.frow t k es,some b=>ro b/\ ∃l:List Value,w.heap[b]?=some (.cells l.toArray t (0,0))/\RL ro [] w k es l/\l.length=es.length*k
 |.iter cur es,some b=>ItR ro w b cur es
 |.mapO fz t k es,some b=>(fz=true->ro b)/\ ∃l clock,w.heap[b]?=some (.map l clock)/\MO ro w t k es l.toList/\Qky es l.toList/\
   (∀e∈l.toList,e.born<clock)/\(l.toList.map (·.born)).Nodup/\(l.toList.map (·.key)).Nodup/\Born l clock
 |.fmap es,some b=>ro b/\ ∃l clock,w.heap[b]?=some (.map l clock)/\ER ro [] w es l.toList/\
   (∀e∈l.toList,e.born<clock)/\(l.toList.map (·.born)).Nodup/\(l.toList.map (·.key)).Nodup
 |_,none=>False
structure RoOk (ro:Nat->Prop) (w:World):Prop where
 lt:∀b,ro b->b<w.heap.size
 g:∀b,b<nG->ro b
 gp:GP w
theorem RoOk.to{ro ro':Nat->Prop}{w w':World}(h:RoOk ro w)(sub:∀b,ro b->ro' b)(keep:∀b,ro b->w'.heap[b]?=w.heap[b]?)(lt:∀b,ro' b->b<w'.heap.size):RoOk ro' w':=
 ⟨lt,λb hb=>sub b (h.g b hb),h.gp.keep λb hb=>keep b (h.g b hb)⟩
structure Qp8 (fr ro:Nat->Prop) (σ:Sig) (H:Qd) (w:World) (i0 b0 c:Nat):Prop where
 lt:c<w.heap.size
 ro:¬ro c
 fr:¬fr c
 ne:∀(j b:Nat) (y:Blk),σ[j]?=some (some b)->H[j]?=some y->y.live=true->c≠b
 one:∀(j b:Nat) (y:Blk),σ[j]?=some (some b)->H[j]?=some y->Hid w y b c->b=b0/\j=i0
structure Sim (fr ro:Nat->Prop) (σ:Sig) (H:Qd) (w:World):Prop where
 len:σ.length=H.length
 roOk:RoOk ro w
 frLt:∀b,fr b->b<w.heap.size
 roFr:∀b,ro b->¬fr b
 own:∀(i b:Nat) (blk:Blk),σ[i]?=some (some b)->H[i]?=some blk->blk.live=true->b<w.heap.size/\ ¬ro b/\ ¬fr b
 inj:∀(i j b:Nat) (x y:Blk),σ[i]?=some (some b)->σ[j]?=some (some b)->H[i]?=some x->H[j]?=some y->x.live=true->y.live=true->i=j
 blk:∀(i:Nat) (s:Option Nat) (x:Blk),σ[i]?=some s->H[i]?=some x->BR ro σ w x s
 hid:∀(i b:Nat) (x:Blk) (c:Nat),σ[i]?=some (some b)->H[i]?=some x->Hid w x b c->Qp8 fr ro σ H w i b c
theorem Sim.roHeld{fr ro:Nat->Prop}{σ:Sig}{H:Qd}{w:World}(s:Sim fr ro σ H w){i b:Nat}{x:Blk}(d:σ[i]?=some (some b))(e:H[i]?=some x)(a:x.held=true):ro b:=by
 have h:=s.blk i _ x d e;cases x with
 |mapO fz t k f=>exact h.1 a
 |_=>cases a
theorem Sim.hidKeep{fr ro:Nat->Prop}{σ:Sig}{H:Qd}{w w':World}(s:Sim fr ro σ H w){i b c:Nat}{x:Blk}(d:σ[i]?=some (some b))(f:H[i]?=some x)
  (hl:x.live=true->w'.heap[b]?=w.heap[b]?)(e:∀b,ro b->w'.heap[b]?=w.heap[b]?)(q:Hid w' x b c):Hid w x b c:=by
 refine q.keep ?_;have h:=q.holds;cases a:x.live with
 |true=>exact hl a
 |false=>unfold Blk.holds at h;rw[a]at h;exact e b (s.roHeld d f h)
theorem Sim.hidTo{fr n ro ro':Nat->Prop}{σ σ':Sig}{H H':Qd}{w w':World}(s:Sim fr ro σ H w)(R:Nat->Nat->Prop)(P:∀j j' a,R j a->R j' a->j=j')(u:w.heap.size<=w'.heap.size)
  (E:∀(i b:Nat) (x:Blk) (c:Nat),σ[i]?=some (some b)->H[i]?=some x->Hid w x b c->ro' c->ro c)
  (B:∀(i b:Nat) (x:Blk) (c:Nat),σ[i]?=some (some b)->H[i]?=some x->Hid w x b c->n c->fr c)
  (h:∀(j d:Nat) (y:Blk),σ'[j]?=some (some d)->H'[j]?=some y->y.holds=true->
   (∃(a:Nat) (l:Blk),R j a/\σ[a]?=some (some d)/\H[a]?=some l/\(y.live=true->l.live=true)/\ ∀c,Hid w' y d c->Hid w l d c)\/(w.heap.size<=d/\ ∀c,Hid w' y d c->False)):
  ∀(i b:Nat) (x:Blk) (c:Nat),σ'[i]?=some (some b)->H'[i]?=some x->Hid w' x b c->Qp8 n ro' σ' H' w' i b c:=by
 intro i b x c Q O p;rcases h i b x Q O p.holds with⟨a,l,X,r,F,g3,J⟩|⟨_,g⟩
 .have k:=s.hid a b l c r F (J c p);refine⟨Vl k.lt u,λq=>k.ro (E a b l c r F (J c p) q),λq=>k.fr (B a b l c r F (J c p) q),λj d y z L m=>?_,λj d y z L m=>?_⟩
  .rcases h j d y z L (QbK m)with⟨t,y1,_,G,M,N,_⟩|⟨f,_⟩
   .exact k.ne t d y1 G M (N m)
   .exact λe=>by have:=k.lt;omega
  .rcases h j d y z L m.holds with⟨t,y1,Y,G,M,N,V⟩|⟨_,f⟩
   .obtain⟨W,T⟩:=k.one t d y1 G M (V c m);subst T;exact⟨W,P _ _ _ Y X⟩
   .exact(f c m).elim
 .exact(g c p).elim
theorem Q0(j j' j0:Nat)(h:j=j0)(h':j'=j0):j=j':=h.trans h'.symm
theorem Sim.roLt{fr ro:Nat->Prop}{σ:Sig}{H:Qd}{w:World}(s:Sim fr ro σ H w):∀b,ro b->b<w.heap.size:=s.roOk.lt
structure Qh (fr ro:Nat->Prop) (w:World) (ro':Nat->Prop) (w':World):Prop where
 sub:∀b,ro b->ro' b
 keepRo:∀b,ro b->w'.heap[b]?=w.heap[b]?
 keepFr:∀b,fr b->w'.heap[b]?=w.heap[b]?
 size:w.heap.size<=w'.heap.size
 shape:∀b x,w.shape? b=some x->w'.shape? b=some x
 os:w'.os=w.os
 tape:w'.tape=w.tape
 output:w'.output=w.output
 drawn:w.drawn<=w'.drawn
theorem Qh.refl(fr ro:Nat->Prop)(w:World):Qh fr ro w ro w:=
 ⟨λ_ h=>h,λ_ _=>rfl,λ_ _=>rfl,XZ _,λ_ _ h=>h,rfl,rfl,rfl,XZ _⟩
theorem Qh.trans{fr ro ro1 ro2:Nat->Prop}{w w1 w2:World}(h:Qh fr ro w ro1 w1)(k:Qh fr ro1 w1 ro2 w2):Qh fr ro w ro2 w2:=
 ⟨λb q=>k.sub _ (h.sub _ q),λb q=>(k.keepRo _ (h.sub _ q)).trans (h.keepRo _ q),λb q=>(k.keepFr _ q).trans (h.keepFr _ q),
  X2 h.size k.size,λb x q=>k.shape _ _ (h.shape _ _ q),k.os.trans h.os,k.tape.trans h.tape,k.output.trans h.output,X2 h.drawn k.drawn⟩
theorem YL{σ τ:Sig}{i b:Nat}(h:σ[i]?=some (some b)):(σ++τ)[i]?=some (some b):=by
 have a:i<σ.length:=by
  rcases VI i σ.length with q|q
  .exact q
  .simp[XU q]at h
 rw[XS a];exact h
theorem Qh.ext{fr ro ro':Nat->Prop}{w w':World}(h:Qh fr ro w ro' w')(σ τ:Sig):Ext ro σ w ro' (σ++τ) w':=
 ⟨h.sub,h.keepRo,h.shape,λ_ _=>YL⟩
theorem Qh.ext0{fr ro ro':Nat->Prop}{w w':World}(h:Qh fr ro w ro' w')(σ:Sig):Ext ro σ w ro' σ w':=
 ⟨h.sub,h.keepRo,h.shape,λ_ _ q=>q⟩
theorem ER.mono{ro ro':Nat->Prop}{σ σ':Sig}{w w':World}(h:Ext ro σ w ro' σ' w'):∀{es:List (A×A)} {l:List MapEntry},ER ro σ w es l->ER ro' σ' w' es l
 |[],_,q=>q
 |x::r,l,q=>by
  simp only[ER]at q⊢;obtain⟨e,l',h1,h2,h3,h4⟩:=q;exact⟨e,l',h1,h2.mono h,h3.mono h,ER.mono h h4⟩
theorem ItR.keep{ro ro':Nat->Prop}{σ σ':Sig}{w w':World}(h:Ext ro σ w ro' σ' w'){b:Nat}(k:w'.heap[b]?=w.heap[b]?){f:Option (A×A)}{es:List (A×A)}
  (q:ItR ro w b f es):ItR ro' w' b f es:=by
 rcases q with⟨i,g,j⟩|⟨m,l,a,d,left,i,g,j,z,s,u,r,n⟩
 .exact .inl ⟨i,g,by rw[k];exact j⟩
 .refine .inr ⟨m,l,a,d,left,by rw[k];exact i,h.sub _ g,by rw[h.keep _ g];exact j,z,s,u,r.mono h.nil,λx t=>?_⟩;obtain⟨e,p,B,y,E⟩:=n x t;exact⟨e,p,B,y.mono h.nil,E.mono h.nil⟩
theorem CR.keep{ro ro':Nat->Prop}{σ σ':Sig}{w w':World}(h:Ext ro σ w ro' σ' w'){b:Nat}(hb:w'.heap[b]?=w.heap[b]?):
  ∀{cs:List A} {off:Nat},CR ro σ w b cs off->CR ro' σ' w' b cs off
 |[],_,_=>trivial
 |a::r,off,q=>by
  simp only[CR]at q⊢;obtain⟨⟨v,h1,hp,h2⟩,h3⟩:=q;exact⟨⟨v,by rw[Qg1 hb];exact h1,hp,h2.mono h⟩,CR.keep h hb h3⟩
theorem RR.keep{ro ro':Nat->Prop}{σ σ':Sig}{w w':World}(h:Ext ro σ w ro' σ' w'){b:Nat}(hb:w'.heap[b]?=w.heap[b]?){k:Nat}:
  ∀{es:List (List A)} {off:Nat},RR ro σ w b k es off->RR ro' σ' w' b k es off
 |[],_,_=>trivial
 |cs::r,off,q=>by
  simp only[RR]at q⊢;obtain⟨h1,h2,h3⟩:=q;exact⟨h1,CR.keep h hb h2,RR.keep h hb h3⟩
theorem BR.keep{ro ro':Nat->Prop}{σ σ':Sig}{w w':World}(h:Ext ro σ w ro' σ' w'){x:Blk}{s:Option Nat}
  (j:∀b,s=some b->x.live=true->w'.heap[b]?=w.heap[b]?)(q:BR ro σ w x s)(m:∀b c,s=some b->Hid w x b c->w'.heap[c]?=w.heap[c]?):BR ro' σ' w' x s:=by
 cases x with
 |mapO fz t k i=>
  cases s with
  |none=>exact q
  |some b=>
   obtain⟨g,l,c,a,e,f⟩:=q;refine⟨λz=>h.sub b (g z),l,c,?_,e.mono h (λd n=>m b d rfl ⟨l,c,a,n⟩),f⟩;cases fz with
   |false=>rw[j b rfl rfl];exact a
   |true=>rw[h.keep b (g rfl)];exact a
 |dead=>trivial
 |cells t r=>
  cases s with
  |none=>exact q
  |some b=>
   obtain⟨l,a,e,f⟩:=q;exact⟨l,by rw[j b rfl rfl];exact a,e.mono h,f⟩
 |row t k i=>
  cases s with
  |none=>exact q
  |some b=>
   obtain⟨l,a,e⟩:=q;exact⟨l,by rw[j b rfl rfl];exact a,e.mono h.nil⟩
 |rowr t k i=>
  cases s with
  |none=>exact q.elim
  |some b=>
   obtain⟨l,a,e⟩:=q;exact⟨l,by rw[j b rfl rfl];exact a,e.mono h⟩
 |ents t u y i=>
  cases s with
  |none=>exact q
  |some b=>
   obtain⟨l,a,e⟩:=q;exact⟨l,by rw[j b rfl rfl];exact a,e.mono h⟩
 |map i=>
  cases s with
  |none=>exact q
  |some b=>
   obtain⟨l,c,a,e,f⟩:=q;exact⟨l,c,by rw[j b rfl rfl];exact a,e.mono h.nil,f⟩
 |mapP i=>
  cases s with
  |none=>exact q
  |some b=>
   obtain⟨l,c,a,e,f⟩:=q;exact⟨l,c,by rw[j b rfl rfl];exact a,e.mono h,f⟩
 |frow t k i=>
  cases s with
  |none=>exact q
  |some b=>
   obtain⟨g,l,a,e,f⟩:=q;exact⟨h.sub b g,l,by rw[h.keep b g];exact a,e.mono h.nil,f⟩
 |iter p i=>
  cases s with
  |none=>exact q
  |some b=>exact ItR.keep h (j b rfl rfl) q
 |fmap i=>
  cases s with
  |none=>exact q
  |some b=>
   obtain⟨g,l,c,a,e,f⟩:=q;exact⟨h.sub b g,l,c,by rw[h.keep b g];exact a,e.mono h.nil,f⟩
end Go.Sw
namespace Go.Sw
abbrev Env:=List (Nat×A)
def lk:Env->Nat->A
 |[],_=>.any
 |(d,a)::r,s=>bif Nat.beq s d then a else lk r s
abbrev up(env:Env)(d:Nat)(a:A):Env:=(d,a)::env
inductive AEx where
 |normal|exit (id:Nat)|ret
abbrev QB:=AEx->Env->Qd->Prop
def Qdr(fr:Nat->Prop)(ds:List Deferred)(w:World):Prop:=ds.Nodup/\ ∀d∈ds,∃D,d={target:=.collected D,args:= #[]}/\fr D/\w.heap[D]?=some (.deferred (some []))
theorem Qdr.keep{fr ro ro':Nat->Prop}{a:List Deferred}{w w':World}(h:Qdr fr a w)(k:Qh fr ro w ro' w'):Qdr fr a w':=by
 refine⟨h.1,λd f=>?_⟩;obtain⟨D,g,b,e⟩:=h.2 d f;exact⟨D,g,b,(k.keepFr D b).trans e⟩
structure Grow (fr:Nat->Prop) (w:World) (ds:List Deferred) (fr':Nat->Prop) (ds':List Deferred):Prop where
 sub:∀b,fr b->fr' b
 new:∀b,fr' b->fr b\/w.heap.size<=b
 ds:∀d∈ds',d∈ds\/ ∃D,d={target:=.collected D,args:= #[]}/\w.heap.size<=D
theorem Grow.refl(fr:Nat->Prop)(w:World)(ds:List Deferred):Grow fr w ds fr ds:=⟨λ_ h=>h,λ_ h=>.inl h,λ_ h=>.inl h⟩
theorem Grow.trans{fr f e:Nat->Prop}{w w1:World}{ds a g:List Deferred}(h:Grow fr w ds f a)(i:w.heap.size<=w1.heap.size)(k:Grow f w1 a e g):Grow fr w ds e g:=by
 refine⟨λb q=>k.sub b (h.sub b q),λb q=>?_,λd q=>?_⟩
 .rcases k.new b q with q|q
  .exact h.new b q
  .exact .inr (X2 i q)
 .rcases k.ds d q with q|⟨D,l,j⟩
  .exact h.ds d q
  .exact .inr ⟨D,l,X2 i j⟩
theorem Qh.frMono{fr fr' ro ro':Nat->Prop}{w w':World}(h:Qh fr' ro w ro' w')(s:∀b,fr b->fr' b):Qh fr ro w ro' w':=
 ⟨h.sub,h.keepRo,λb q=>h.keepFr b (s b q),h.size,h.shape,h.os,h.tape,h.output,h.drawn⟩
theorem Sim.frMono{fr fr' ro:Nat->Prop}{σ:Sig}{H:Qd}{w:World}(h:Sim fr' ro σ H w)(s:∀b,fr b->fr' b):Sim fr ro σ H w:=
 ⟨h.len,h.roOk,λb q=>h.frLt b (s b q),λb q r=>h.roFr b q (s b r),λi b x q1 q2 q3=>let⟨a,b',c⟩:=h.own i b x q1 q2 q3;⟨a,b',λq=>c (s b q)⟩,h.inj,h.blk,λi b x c q1 q2 q3=>let k:=h.hid i b x c q1 q2 q3;⟨k.lt,k.ro,λq=>k.fr (s c q),k.ne,k.one⟩⟩
structure Rel (fr ro:Nat->Prop) (σ:Sig) (H:Qd) (env:Env) (N:Nat) (a:Act) (w:World):Prop where
 sim:Sim fr ro σ H w
 env:∀s,VR ro σ w (lk env s) (a.tmps.getD s undef)
 size:a.tmps.size=N
 defers:Qdr fr a.defers w
def Qeu(rd:Option Nat)(fr:Nat->Prop)(w:World):Prop:=∀l,rd=some l->fr l/\ ∃r,w.heap[l]?=some (.loop r)
theorem Qeu.none{fr:Nat->Prop}{w:World}:Qeu none fr w:=λl e=>by cases e
theorem Qeu.to{rd:Option Nat}{fr fr' ro ro':Nat->Prop}{w w':World}(h:Qeu rd fr w)(k:Qh fr ro w ro' w')(s:∀b,fr b->fr' b):Qeu rd fr' w':=λl e=>by
 obtain⟨h1,r,h2⟩:=h l e;exact⟨s l h1,r,(k.keepFr l h1).trans h2⟩
def ExR:Exit->AEx->Prop
 |.normal,x=>x=.normal
 |.exit id,x=>x=.exit id
 |.ret,x=>x=.ret
 |_,_=>False
def QaU(h0:Nat)(fr ro:Nat->Prop)(σ:Sig)(w:World)(N:Nat)(ds:List Deferred)(Q:QB):Exit->Act->World->Prop:=
 λe a' w'=>∃x env' H' ro' σ' fr',ExR e x/\Q x env' H'/\Rel fr' ro' σ' H' env' N a' w'/\Qh fr ro w ro' w'/\σ'.take h0=σ.take h0/\Grow fr w ds fr' a'.defers
theorem QaU.grow{h0:Nat}{fr d ro b:Nat->Prop}{σ σ1:Sig}{w w1:World}{N:Nat}{j a:List Deferred}{Q:QB}{e:Exit}{a':Act}{w':World}
  (h:QaU h0 d b σ1 w1 N a Q e a' w')(he:Qh fr ro w b w1)(k:σ1.take h0=σ.take h0)(hg:Grow fr w j d a):QaU h0 fr ro σ w N j Q e a' w':=by
 obtain⟨x,f,H',g,σ',i,q,r,m,n,l,p⟩:=h;exact⟨x,f,H',g,σ',i,q,r,m,he.trans (n.frMono hg.sub),l.trans k,hg.trans he.size p⟩
theorem QaU.step{h0:Nat}{fr ro ro1:Nat->Prop}{σ σ1:Sig}{w w1:World}{N:Nat}{ds:List Deferred}{Q:QB}{e:Exit}{a':Act}{w':World}
  (h:QaU h0 fr ro1 σ1 w1 N ds Q e a' w')(he:Qh fr ro w ro1 w1)(hs:σ1.take h0=σ.take h0):QaU h0 fr ro σ w N ds Q e a' w':=h.grow he hs (Grow.refl _ _ _)
theorem QaU.mono{h0:Nat}{fr ro:Nat->Prop}{σ:Sig}{w:World}{N:Nat}{f:List Deferred}{Q Q':QB}{e:Exit}{a':Act}{w':World}
  (h:QaU h0 fr ro σ w N f Q e a' w')(g:∀x env H,Q x env H->Q' x env H):QaU h0 fr ro σ w N f Q' e a' w':=by
 obtain⟨x,a,H',b,σ',d,j,k,i⟩:=h;exact⟨x,a,H',b,σ',d,j,g _ _ _ k,i⟩
def Qb9(h0:Nat)(fr ro:Nat->Prop)(σ:Sig)(w:World)(N:Nat)(ds:List Deferred)(Q:QB):Exit->Act->World->Prop:=
 λe a' w'=>∃x env' H' ro' σ' fr',ExR e x/\Q x env' H'/\Rel fr' ro' σ' H' env' N a' w'/\Qh fr ro w ro' w'/\σ'.take h0=σ.take h0/\a'.defers=ds/\Grow fr w ds fr' ds
theorem Qb9.grow{h0:Nat}{fr b ro a:Nat->Prop}{σ σ1:Sig}{w w1:World}{N:Nat}{f:List Deferred}{Q:QB}{e:Exit}{a':Act}{w':World}
  (h:Qb9 h0 b a σ1 w1 N f Q e a' w')(he:Qh fr ro w a w1)(j:σ1.take h0=σ.take h0)(hg:Grow fr w f b f):Qb9 h0 fr ro σ w N f Q e a' w':=by
 obtain⟨x,d,H',g,σ',i,q,r,m,n,l,p,k⟩:=h;exact⟨x,d,H',g,σ',i,q,r,m,he.trans (n.frMono hg.sub),l.trans j,p,hg.trans he.size k⟩
theorem Qb9.step{h0:Nat}{fr ro ro1:Nat->Prop}{σ σ1:Sig}{w w1:World}{N:Nat}{ds:List Deferred}{Q:QB}{e:Exit}{a':Act}{w':World}
  (h:Qb9 h0 fr ro1 σ1 w1 N ds Q e a' w')(he:Qh fr ro w ro1 w1)(hs:σ1.take h0=σ.take h0):Qb9 h0 fr ro σ w N ds Q e a' w':=h.grow he hs (Grow.refl _ _ _)
theorem Qb9.mono{h0:Nat}{fr ro:Nat->Prop}{σ:Sig}{w:World}{N:Nat}{f:List Deferred}{Q Q':QB}{e:Exit}{a':Act}{w':World}
  (h:Qb9 h0 fr ro σ w N f Q e a' w')(g:∀x env H,Q x env H->Q' x env H):Qb9 h0 fr ro σ w N f Q' e a' w':=by
 obtain⟨x,a,H',b,σ',d,j,k,i⟩:=h;exact⟨x,a,H',b,σ',d,j,g _ _ _ k,i⟩
theorem Qb9.postW{h0:Nat}{fr ro:Nat->Prop}{σ:Sig}{w:World}{N:Nat}{f:List Deferred}{Q:QB}{e:Exit}{a':Act}{w':World}
  (h:Qb9 h0 fr ro σ w N f Q e a' w'):QaU h0 fr ro σ w N f Q e a' w':=by
 obtain⟨x,a,H',b,σ',d,m,n,j,k,i,l,g⟩:=h;exact⟨x,a,H',b,σ',d,m,n,j,k,i,by rw[l];exact g⟩
def WF(rd:Option Nat):Fence:={Fence.wide with round:=rd}
theorem WF.calls{rd:Option Nat}{P:Program}{f:FuncId}{args:Array Value}{w:World}{R:Ending->World->Prop}:CallsIn (WF rd) 0 P f args w R↔Calls P f args w R:=callsIn_wide
abbrev wpL(P:Program)(rd:Option Nat)(ops:Array Oper)(Q:Exit->Act->World->Prop):List Oper->Act->World->Prop:=wpListIn (WF rd) 0 P ops Q
def TC(P:Program)(h0 N:Nat)(c:Code)(env:Env)(H:Qd)(Q:QB):Prop:=
 ∀rd fr ro σ a w,Rel fr ro σ H env N a w->Qeu rd fr w->c.wpIn (WF rd) 0 P (QaU h0 fr ro σ w N a.defers Q) a w
def WO(P:Program)(h0 N:Nat)(all:Array Oper)(l:List Oper)(env:Env)(H:Qd)(Q:QB):Prop:=
 ∀rd fr ro σ a w,Rel fr ro σ H env N a w->Qeu rd fr w->wpL P rd all (Qb9 h0 fr ro σ w N a.defers Q) l a w
def Le(h0:Nat)(env:Env)(H:Qd)(env':Env)(H':Qd):Prop:=
 ∀fr ro σ N a w,Rel fr ro σ H env N a w->∃ro' σ',Rel fr ro' σ' H' env' N a w/\(∀b,ro b->ro' b)/\σ'.take h0=σ.take h0
theorem Le.refl(h0:Nat)(env:Env)(H:Qd):Le h0 env H env H:=λfr ro σ N a w h=>⟨ro,σ,h,λ_ q=>q,rfl⟩
theorem Le.trans{h0:Nat}{i f g:Env}{H1 H2 H3:Qd}(h:Le h0 i H1 f H2)(k:Le h0 f H2 g H3):Le h0 i H1 g H3:=by
 intro j s σ N a w r;obtain⟨d,σ1,n,m,u⟩:=h j s σ N a w r;obtain⟨e,σ2,l,t,p⟩:=k j d σ1 N a w n;exact⟨e,σ2,l,λb q=>t _ (m _ q),p.trans u⟩
theorem YU{fr ro ro':Nat->Prop}{w:World}(h:∀b,ro b->ro' b):Qh fr ro w ro' w:=
 ⟨h,λ_ _=>rfl,λ_ _=>rfl,XZ _,λ_ _ h=>h,rfl,rfl,rfl,XZ _⟩
theorem Yk{P:Program}{rd:Option Nat}{ops:Array Oper}{Q Q':Exit->Act->World->Prop}(hq:∀e a w,Q e a w->Q' e a w):
  ∀(l:List Oper) (a:Act) (w:World),wpL P rd ops Q l a w->wpL P rd ops Q' l a w
 |[],a,w,h=>hq _ _ _ h
 |o::l,a,w,h=>by
  unfold wpL wpListIn at h⊢;split
  .rename_i hw;rw[Vz hw]at h;obtain⟨h1,h2⟩:=h;refine⟨h1,?_⟩
   revert h2
   generalize(o.semAt (WF rd).round a.eval).run P w=r;intro h2;have hk:=λa w=>Yk (P:=P) (rd:=rd) (ops:=ops) hq l a w;cases r with
   |ok x w=>
    cases x with
    |value v=>exact hk _ _ h2
    |skip=>exact hk _ _ h2
    |defer d=>exact hk _ _ h2
    |enter f args=>
     refine⟨h2.1,CallsIn.mono h2.2 ?_⟩;intro e w' q;cases e with
     |returned v=>exact hk _ _ q
     |panicked c=>exact hq _ _ _ q
     |outgrown=>obtain⟨a,w,q⟩:=q;exact⟨a,w,hq _ _ _ q⟩
    |row r args=>exact⟨h2.1,RowsIn.mono h2.2 λv w' q=>hk _ _ q⟩
    |round l f tmps assign body=>
     refine⟨h2.1,RoundIn.mono h2.2 ?_⟩;intro e w' q;cases e with
     |returned v=>exact hk _ _ q
     |panicked c=>exact hq _ _ _ q
     |outgrown=>obtain⟨a,w,q⟩:=q;exact⟨a,w,hq _ _ _ q⟩
    |_=>exact h2
   |halt x w=>
    cases x with
    |panic v=>exact hq _ _ _ h2
    |_=>exact h2
  .rename_i hw;rw[Vy hw]at h;exact⟨h.1,Yk hq l _ _ h.2⟩
theorem QcV{P:Program}{o:Oper}{a:Act}{w w':World}{x:Next}{rd:Option Nat}(h:(execOp a.eval o).run P w=.ok x w')(b:∀d,x≠ .defer d):(o.semAt (WF rd).round a.eval).run P w=.ok x w':=by
 cases e:o.op with
 |defer c=>
  exfalso;have:execOp a.eval o=(do pure (.defer (<- resolve a.eval c o.type))):=by simp[execOp,e]
  rw[this]at h;simp only[Vt]at h;generalize(resolve a.eval c o.type).run P w=r at h;cases r with
  |ok d w2=>simp[Result.andThen,go_sem]at h;exact b _ h.1.symm
  |halt x w2=>simp[Result.andThen]at h
 |_=>rw[Oper.semAt_eq _ _ _ (by rw[e];intro c q;cases q)];exact h
theorem Js{P:Program}{rd:Option Nat}{ops:Array Oper}{Q:Exit->Act->World->Prop}{o:Oper}{l:List Oper}{a:Act}{w w':World}{v:Value}(b:Region.wanted o (yielded ops a.tmps)=true)
  (h:(execOp a.eval o).run P w=.ok (.value v) w')(k:wpL P rd ops Q l (a.put o.dst v) w'):wpL P rd ops Q (o::l) a w:=by
 unfold wpL wpListIn;rw[Vz b];exact⟨λ_ _=>trivial,by rw[QcV h (λd e=>by cases e)];exact k⟩
theorem Qh8{P:Program}{rd:Option Nat}{ops:Array Oper}{Q:Exit->Act->World->Prop}{o:Oper}{l:List Oper}{a:Act}{w w':World}(b:Region.wanted o (yielded ops a.tmps)=true)
  (h:(execOp a.eval o).run P w=.ok .skip w')(k:wpL P rd ops Q l (a.put o.dst undef) w'):wpL P rd ops Q (o::l) a w:=by
 unfold wpL wpListIn;rw[Vz b];exact⟨λ_ _=>trivial,by rw[QcV h (λd e=>by cases e)];exact k⟩
theorem Qdu{P:Program}{rd:Option Nat}{ops:Array Oper}{Q:Exit->Act->World->Prop}{o:Oper}{l:List Oper}{a:Act}{w w':World}{f:FuncId}{args:Array Value}(b:Region.wanted o (yielded ops a.tmps)=true)
  (h:(execOp a.eval o).run P w=.ok (.enter f args) w')(k:Calls P f args w' λe w''=>∃v,e=.returned v/\wpL P rd ops Q l (a.put o.dst v) w''):wpL P rd ops Q (o::l) a w:=by
 unfold wpL wpListIn;rw[Vz b];refine⟨λ_ _=>trivial,?_⟩;rw[QcV h (λd e=>by cases e)];refine⟨λh=>by simp[WF,Fence.wide]at h,WF.calls.2 (Calls.mono k ?_)⟩;rintro e w'' ⟨v,rfl,q⟩;exact q
section
variable {P:Program} {h0 N:Nat} {env env':Env} {H H':Qd} {Q Q':QB} {c c':Code}
theorem TC.mono(h:TC P h0 N c env H Q)(hq:∀x env H,Q x env H->Q' x env H):TC P h0 N c env H Q':=
 λrd fr ro σ a w r hrd=>Code.wpIn_mono (λe a w q=>q.mono hq) (h rd fr ro σ a w r hrd)
theorem TC.le(d:Le h0 env H env' H')(h:TC P h0 N c env' H' Q):TC P h0 N c env H Q:=by
 intro g f i σ a w r hrd;obtain⟨b,σ',j,s,t⟩:=d f i σ N a w r;exact Code.wpIn_mono (λe a w q=>q.step (YU s) t) (h g f b σ' a w j hrd)
theorem WO.le{all:Array Oper}{l:List Oper}(d:Le h0 env H env' H')(h:WO P h0 N all l env' H' Q):WO P h0 N all l env H Q:=by
 intro g f i σ a w r hrd;obtain⟨b,σ',j,s,t⟩:=d f i σ N a w r;exact Yk (λe a w q=>q.step (YU s) t) _ _ _ (h g f b σ' a w j hrd)
theorem WO.mono{all:Array Oper}{l:List Oper}(h:WO P h0 N all l env H Q)(hq:∀x env H,Q x env H->Q' x env H):WO P h0 N all l env H Q':=
 λrd fr ro σ a w r hrd=>Yk (λe a w q=>q.mono hq) _ _ _ (h rd fr ro σ a w r hrd)
def Seq(P:Program)(h0 N:Nat)(c:Code)(Q:QB):QB
 |.normal,env,H=>TC P h0 N c env H Q
 |.exit id,env,H=>Q (.exit id) env H
 |.ret,env,H=>Q .ret env H
def Blo(id:Nat)(Q:QB):QB
 |.normal,env,H=>Q .normal env H
 |.exit id',env,H=>bif Nat.beq id' id then Q .normal env H else Q (.exit id') env H
 |.ret,env,H=>Q .ret env H
theorem TC.seq(h:TC P h0 N c env H (Seq P h0 N c' Q)):TC P h0 N (.seq c c') env H Q:=by
 intro n t s σ a w r hrd;refine wpIn_seq (Code.wpIn_mono ?_ (h n t s σ a w r hrd));rintro e p u ⟨x,b,H',d,σ',f,j,m,l,i,k,g⟩;cases e with
 |normal=>
  obtain rfl:x=.normal:=j;exact Code.wpIn_mono (λe a w q=>q.grow i k g) (m n f d σ' p u l (hrd.to i g.sub))
 |exit id=>
  obtain rfl:x=.exit id:=j;exact⟨_,b,H',d,σ',f,rfl,m,l,i,k,g⟩
 |ret=>
  obtain rfl:x=.ret:=j;exact⟨_,b,H',d,σ',f,rfl,m,l,i,k,g⟩
 |_=>exact j.elim
theorem TC.skip(h:Q .normal env H):TC P h0 N .skip env H Q:=
 λrd fr ro σ a w r hrd=>wpIn_skip ⟨_,env,H,ro,σ,fr,rfl,h,r,Qh.refl _ _ _,rfl,Grow.refl _ _ _⟩
theorem TC.ret(h:Q .ret env H):TC P h0 N .ret env H Q:=
 λrd fr ro σ a w r hrd=>wpIn_ret ⟨_,env,H,ro,σ,fr,rfl,h,r,Qh.refl _ _ _,rfl,Grow.refl _ _ _⟩
theorem TC.exit{id:Nat}(h:Q (.exit id) env H):TC P h0 N (.exit id) env H Q:=
 λrd fr ro σ a w r hrd=>wpIn_exit ⟨_,env,H,ro,σ,fr,rfl,h,r,Qh.refl _ _ _,rfl,Grow.refl _ _ _⟩
theorem TC.block{id:Nat}(h:TC P h0 N c env H (Blo id Q)):TC P h0 N (.block id c) env H Q:=by
 intro s t p σ a w r hrd;refine wpIn_block (Code.wpIn_mono ?_ (h s t p σ a w r hrd));rintro e u y ⟨x,b,H',d,σ',f,n,i,l,m,j,k⟩;cases e with
 |normal=>
  obtain rfl:x=.normal:=n;exact⟨_,b,H',d,σ',f,rfl,i,l,m,j,k⟩
 |exit g=>
  obtain rfl:x=.exit g:=n;simp only[Exit.inBlock];simp only[Blo]at i;by_cases e:g=id
  .subst e;rw[Vz rfl];rw[VL]at i;exact⟨_,b,H',d,σ',f,rfl,i,l,m,j,k⟩
  .rw[Vy e];have:Nat.beq g id=false:=by
    rw[VT];intro q;exact e (XW q)
   rw[this]at i;exact⟨_,b,H',d,σ',f,rfl,i,l,m,j,k⟩
 |ret=>
  obtain rfl:x=.ret:=n;exact⟨_,b,H',d,σ',f,rfl,i,l,m,j,k⟩
 |_=>exact n.elim
def opA(env:Env):Operand->A
 |.tmp t=>lk env t
 |.const (.bool b)=>.bool b
 |.const (.int k n)=>.int k n
 |.const (.string s)=>.str s.data.toList
 |.const (.pointer none)=>.nilp
 |.const (.slice none 0 0)=>.nils
 |.const (.map none)=>.nilm
 |.const .nilFunc=>.nilf
 |.const .nilIface=>.nilif
 |.func f=>.fn (.func f) [] []
 |_=>.any
theorem Qg{fr ro:Nat->Prop}{σ:Sig}{a:Act}{w:World}(r:Rel fr ro σ H env N a w)(x:Operand):VR ro σ w (opA env x) (a.eval x):=by
 cases x with
 |tmp t=>exact r.env t
 |const v=>
  cases v with
  |slice a n k=>
   cases a with
   |none=>
    cases n with
    |zero=>cases k with
     |zero=>rfl
     |succ k=>trivial
    |succ n=>trivial
   |some a=>trivial
  |pointer p=>cases p with
   |none=>rfl
   |some p=>trivial
  |map p=>cases p with
   |none=>rfl
   |some p=>trivial
  |string s=>simp[opA,VR,Act.eval]
  |_=>first|trivial|rfl|simp[opA,VR,Act.eval]
 |global g=>trivial
 |func f=>exact⟨[],[],rfl,rfl,rfl⟩
theorem TC.cond{x:Operand}{t:Bool}(j:opA env x=.bool t)(h:t=true->TC P h0 N c env H Q)(i:t=false->TC P h0 N c' env H Q):
  TC P h0 N (.cond x c c') env H Q:=by
 intro g d f σ a w r hrd;have b:=Qg r x;rw[j]at b;exact wpIn_cond_split b (λe=>h e g d f σ a w r hrd) (λe=>i e g d f σ a w r hrd)
theorem QiD{t:Array Value}{d s:Nat}{v:Value}(a:d<t.size):(t.setIfInBounds d v).getD s undef=if s=d then v else t.getD s undef:=by
 simp only[Array.getD_eq_getD_getElem?,Vk];by_cases e:s=d
 .subst e;simp[a]
 .rw[Vy (λq=>e q.symm),Vy e]
theorem VR.up{fr ro:Nat->Prop}{σ:Sig}{a:Act}{w:World}(r:∀s,VR ro σ w (lk env s) (a.tmps.getD s undef)){d:Nat}(f:d<a.tmps.size){x:A}{v:Value}(b:VR ro σ w x v):
  ∀s,VR ro σ w (lk (up env d x) s) ((a.tmps.setIfInBounds d v).getD s undef):=by
 intro s;rw[QiD f];simp only[up,lk];by_cases e:s=d
 .subst e;rw[VL,Vz rfl];exact b
 .have:Nat.beq s d=false:=by
   rw[VT];intro q;exact e (XW q)
  rw[this,Vy e];exact r s
def Qs(all:Array Oper)(o:Oper)(env:Env)(b:Bool):Prop:=
 match o.guard with
 |none=>b=true
 |some (j,c)=>∃d,(all[j]?).bind (·.dst)=some d/\((∃x,lk env d=.bool x/\b=(x==c))\/(lk env d=.tup []/\b=false))
theorem YH{all:Array Oper}{o:Oper}{b:Bool}(h:Qs all o env b){fr ro:Nat->Prop}{σ:Sig}{a:Act}{w:World}(r:Rel fr ro σ H env N a w):
  Region.wanted o (yielded all a.tmps)=b:=by
 unfold Qs at h;unfold Region.wanted;cases n:o.guard with
 |none=>rw[n]at h;exact h.symm
 |some g=>
  obtain⟨j,c⟩:=g;rw[n]at h;obtain⟨d,m,⟨x,k,i⟩|⟨k,i⟩⟩:=h
  .have f:=r.env d;rw[k]at f;simp only[VR]at f;have p:a.tmps[d]?=some (.bool x):=by
    rw[Array.getD_eq_getD_getElem?]at f;cases e:a.tmps[d]? with
    |none=>rw[e]at f;simp[undef]at f
    |some y=>rw[e]at f;simp at f;rw[f]
   simp only[yielded,m,XP,p,i];cases x<;>cases c<;>rfl
  .have f:=r.env d;rw[k]at f;obtain⟨l,f,q⟩:=f;rw[Array.getD_eq_getD_getElem?]at f;subst i;simp only[yielded,m,XP];cases e:a.tmps[d]? with
   |none=>cases c<;>rfl
   |some y=>rw[e]at f;simp at f;subst f;cases c<;>rfl
def OpV(P:Program)(o:Oper)(env:Env)(H:Qd)(x:A):Prop:=
 ∀fr ro σ N a w,Rel fr ro σ H env N a w->∃v,(execOp a.eval o).run P w=.ok (.value v) w/\VR ro σ w x v
def OpH(P:Program)(o:Oper)(env:Env)(H:Qd)(x:A)(H':Qd):Prop:=
 ∀fr ro σ N a w,Rel fr ro σ H env N a w->∃v w' ro' τ,(execOp a.eval o).run P w=.ok (.value v) w'/\VR ro' (σ++τ) w' x v/\
  Sim fr ro' (σ++τ) H' w'/\Qh fr ro w ro' w'
def OpU(P:Program)(o:Oper)(env:Env)(H:Qd)(H':Qd):Prop:=
 ∀fr ro σ N a w,Rel fr ro σ H env N a w->∃w' ro' τ,(execOp a.eval o).run P w=.ok .skip w'/\
  Sim fr ro' (σ++τ) H' w'/\Qh fr ro w ro' w'
theorem WO.nil{all:Array Oper}(h:Q .normal env H):WO P h0 N all [] env H Q:=
 λrd fr ro σ a w r hrd=>⟨_,env,H,ro,σ,fr,rfl,h,r,Qh.refl _ _ _,rfl,rfl,Grow.refl _ _ _⟩
theorem Qw{σ τ:Sig}{h0:Nat}(h:h0<=σ.length):(σ++τ).take h0=σ.take h0:=by
 rw[Vd h]
theorem Y5{all:Array Oper}{o:Oper}{l:List Oper}{d:Nat}{x:A}(m:h0<=H.length)(hg:Qs all o env true)(y:o.dst=some d)(j:Nat.blt d N=true)
  (h:OpH P o env H x H')(k:WO P h0 N all l (up env d x) H' Q):WO P h0 N all (o::l) env H Q:=by
 intro n fr p σ a w r hrd;obtain⟨v,i,b,τ,z,u,t,f⟩:=h fr p σ N a w r;refine Js (YH hg r) z ?_;simp only[y,Act.put];have g:d<N:=by simpa using j
 have B:Rel fr b (σ++τ) H' (up env d x) N {a with tmps:=a.tmps.setIfInBounds d v} i:=
  ⟨t,VR.up (fr:=fr) (λs=>(r.env s).mono (f.ext σ τ)) (by rw[r.size];exact g) u,by simpa using r.size,r.defers.keep f⟩
 refine Yk (λe a w q=>q.step f (Qw ?_)) _ _ _ (k n fr b (σ++τ) _ i B (hrd.to f λ_ q=>q));rw[r.sim.len];exact m
theorem QF{all:Array Oper}{o:Oper}{l:List Oper}{d:Nat}{x:A}(hg:Qs all o env true)(i:o.dst=some d)(g:Nat.blt d N=true)
  (e:OpV P o env H x)(k:WO P h0 N all l (up env d x) H Q):WO P h0 N all (o::l) env H Q:=by
 intro h fr f σ a w r hrd;obtain⟨v,j,m⟩:=e fr f σ N a w r;refine Js (YH hg r) j ?_;simp only[i,Act.put];have b:d<N:=by simpa using g
 exact k h fr f σ {a with tmps:=a.tmps.setIfInBounds d v} w ⟨r.sim,VR.up (fr:=fr) r.env (by rw[r.size];exact b) m,by simpa using r.size,r.defers⟩ hrd
theorem QbB{all:Array Oper}{o:Oper}{l:List Oper}(i:h0<=H.length)(hg:Qs all o env true)(p:o.dst=none)
  (f:OpU P o env H H')(k:WO P h0 N all l env H' Q):WO P h0 N all (o::l) env H Q:=by
 intro j g m σ a w r hrd;obtain⟨h,b,τ,t,n,d⟩:=f g m σ N a w r;refine Qh8 (YH hg r) t ?_;simp only[p,Act.put];have u:Rel g b (σ++τ) H' env N a h:=⟨n,λs=>(r.env s).mono (d.ext σ τ),r.size,r.defers.keep d⟩;refine Yk (λe a w q=>q.step d (Qw ?_)) _ _ _ (k j g b (σ++τ) _ h u (hrd.to d λ_ q=>q));rw[r.sim.len];exact i
theorem Qq6{all:Array Oper}{o:Oper}{l:List Oper}{x:A}(i:h0<=H.length)(hg:Qs all o env true)(p:o.dst=none)
  (f:OpH P o env H x H')(k:WO P h0 N all l env H' Q):WO P h0 N all (o::l) env H Q:=by
 intro j g m σ a w r hrd;obtain⟨v,h,b,τ,t,y,n,d⟩:=f g m σ N a w r;refine Js (YH hg r) t ?_;simp only[p,Act.put];have u:Rel g b (σ++τ) H' env N a h:=⟨n,λs=>(r.env s).mono (d.ext σ τ),r.size,r.defers.keep d⟩;refine Yk (λe a w q=>q.step d (Qw ?_)) _ _ _ (k j g b (σ++τ) _ h u (hrd.to d λ_ q=>q));rw[r.sim.len];exact i
theorem WO.skip{all:Array Oper}{o:Oper}{l:List Oper}{d:Nat}(hg:Qs all o env false)(e:o.dst=some d)(g:Nat.blt d N=true)
  (k:WO P h0 N all l (up env d (.tup [])) H Q):WO P h0 N all (o::l) env H Q:=by
 intro h fr f σ a w r hrd;unfold wpL wpListIn;rw[YH hg r,Vy (by simp)];refine⟨λ_ _=>trivial,?_⟩;simp only[e,Act.put];have b:d<N:=by simpa using g
 exact k h fr f σ {a with tmps:=a.tmps.setIfInBounds d undef} w ⟨r.sim,VR.up (fr:=fr) r.env (by rw[r.size];exact b) ⟨[],rfl,rfl⟩,by simpa using r.size,r.defers⟩ hrd
theorem TC.region{id:Nat}{l:List Oper}(h:WO P h0 N l.toArray l env H Q):TC P h0 N (.region id l.toArray false) env H Q:=
 λrd fr ro σ a w r hrd=>Code.wpIn_mono (λe a w q=>q.postW) (wpIn_region_lit (h rd fr ro σ a w r hrd))
end
end Go.Sw
namespace Go.Sw
mutual
def YE(ρ:Nat->Nat):A->A
 |.ptr i off=>.ptr (ρ i) off
 |.osl i o n k=>.osl (ρ i) o n k
 |.agg cs=>.agg (Qaa ρ cs)
 |.fn f a c=>.fn f (Qaa ρ a) (Qaa ρ c)
 |.iface t v=>.iface t (YE ρ v)
 |.map i=>.map (ρ i)
 |.tup vs=>.tup (Qaa ρ vs)
 |a=>a
def Qaa(ρ:Nat->Nat):List A->List A
 |[]=>[]
 |a::r=>YE ρ a::Qaa ρ r
end
def Qhn(ρ:Nat->Nat):List (List A)->List (List A)
 |[]=>[]
 |a::r=>Qaa ρ a::Qhn ρ r
def QjH(ρ:Nat->Nat):List (A×A)->List (A×A)
 |[]=>[]
 |a::r=>(YE ρ a.1,YE ρ a.2)::QjH ρ r
def QX(ρ:Nat->Nat):Blk->Blk
 |.cells t cs=>.cells t (Qaa ρ cs)
 |.rowr t k es=>.rowr t k (Qhn ρ es)
 |.ents t b1 b2 es=>.ents t (ρ b1) (ρ b2) es
 |.mapP es=>.mapP (QjH ρ es)
 |b=>b
theorem Qgv(ρ:Nat->Nat)(b1 b2:Nat):∀(es:List Ent),Qhn ρ (es.map (eC b1 b2))=es.map (eC (ρ b1) (ρ b2))
 |[]=>rfl
 |e::es=>by
  have:=Qgv ρ b1 b2 es;simp only[Vq,Qhn,this];congr 1;cases h:e.fl<;>simp[eC,Qaa,YE,h]
theorem QP(ρ:Nat->Nat)(x:Blk):(QX ρ x).live=x.live:=by cases x<;>rfl
theorem Qan(ρ:Nat->Nat)(x:Blk)(w:World)(b c:Nat):Hid w (QX ρ x) b c↔Hid w x b c:=by cases x<;>exact Iff.rfl
section
variable {ro:Nat->Prop} {σ σ':Sig} {w:World} {ρ:Nat->Nat} (h:∀i:Nat,σ[ρ i]?=σ'[i]?)
include h
mutual
theorem QdQ:∀{a:A} {v:Value},VR ro σ w (YE ρ a) v↔VR ro σ' w a v
 |.any,_=>by simp only[YE,VR]
 |.bool b,v=>by simp only[YE,VR]
 |.int k n,v=>by simp only[YE,VR]
 |.str s,v=>by simp only[YE,VR]
 |.nilp,v=>by simp only[YE,VR]
 |.ptr i off,v=>by simp only[YE,VR,h]
 |.rp cs,v=>by simp only[YE,VR]
 |.nils,v=>by simp only[YE,VR]
 |.rsl k es,v=>by simp only[YE,VR]
 |.osl i o n k,v=>by simp only[YE,VR,h]
 |.agg cs,v=>by simp only[YE,VR];exact exists_congr λl=>and_congr_right λ_=>QbG
 |.fn f a c,v=>by simp only[YE,VR];exact exists_congr λl=>exists_congr λl'=>and_congr_right λ_=>and_congr QbG QbG
 |.nilf,v=>by simp only[YE,VR]
 |.iface t a,v=>by simp only[YE,VR];exact exists_congr λl=>and_congr_right λ_=>QdQ
 |.nilif,v=>by simp only[YE,VR]
 |.map i,v=>by simp only[YE,VR,h]
 |.nilm,v=>by simp only[YE,VR]
 |.tup vs,v=>by simp only[YE,VR];exact exists_congr λl=>and_congr_right λ_=>QbG
theorem QbG:∀{az:List A} {l:List Value},LR ro σ w (Qaa ρ az) l↔LR ro σ' w az l
 |[],l=>by simp only[Qaa,LR]
 |a::r,l=>by
  simp only[Qaa,LR];exact exists_congr λv=>exists_congr λl'=>and_congr_right λ_=>and_congr QdQ QbG
end
theorem Qd4:∀(cs:List A),(Qaa ρ cs).length=cs.length
 |[]=>rfl
 |a::r=>by simp[Qaa,Qd4 r]
theorem Qko{k:Nat}:∀{es:List (List A)} {l:List Value},RL ro σ w k (Qhn ρ es) l↔RL ro σ' w k es l
 |[],l=>by simp only[Qhn,RL]
 |a::r,l=>by
  simp only[Qhn,RL,Qd4 h];exact exists_congr λl1=>exists_congr λl2=>and_congr_right λ_=>and_congr_right λ_=>and_congr (and_congr_left λ_=>QbG h) Qko
theorem QoQ:∀{es:List (A×A)} {l:List MapEntry},ER ro σ w (QjH ρ es) l↔ER ro σ' w es l
 |[],l=>by simp only[QjH,ER]
 |a::r,l=>by
  simp only[QjH,ER];exact exists_congr λe=>exists_congr λl'=>and_congr_right λ_=>and_congr (QdQ h) (and_congr (QdQ h) QoQ)
theorem Qh6{x:Blk}{s:Option Nat}:BR ro σ w (QX ρ x) s↔BR ro σ' w x s:=by
 cases x with
 |cells t d=>
  cases s with
  |none=>exact Iff.rfl
  |some b=>simp only[QX,BR];exact exists_congr λl=>and_congr_right λ_=>and_congr_left λ_=>QbG h
 |rowr t k a=>
  cases s with
  |none=>exact Iff.rfl
  |some b=>simp only[QX,BR];exact exists_congr λl=>and_congr_right λ_=>Qko h
 |mapP a=>
  cases s with
  |none=>exact Iff.rfl
  |some b=>simp only[QX,BR];exact exists_congr λl=>exists_congr λc=>and_congr_right λ_=>and_congr_left λ_=>QoQ h
 |ents t f e a=>
  cases s with
  |none=>exact Iff.rfl
  |some b=>
   simp only[QX,BR];refine exists_congr λl=>and_congr_right λ_=>?_;rw[<- Qgv];exact Qko h
 |_=>cases s<;>exact Iff.rfl
end
def C(P:Program)(f:FuncId)(args:List A)(H:Qd)(Q:A->Qd->Prop):Prop:=
 ∀fr ro σ vals w,Sim fr ro σ H w->LR ro σ w args vals->Calls P f vals.toArray w λe w'=>
  ∃v r H' ro' τ,e=.returned v/\Q r H'/\Sim fr ro' (σ++τ) H' w'/\VR ro' (σ++τ) w' r v/\Qh fr ro w ro' w'
theorem C.mono{P:Program}{f:FuncId}{args:List A}{H:Qd}{Q Q':A->Qd->Prop}(h:C P f args H Q)(hq:∀r H,Q r H->Q' r H):C P f args H Q':=
 λfr ro σ vals w s l=>(h fr ro σ vals w s l).mono λe w' ⟨v,r,H',ro',τ,h1,h2,h3⟩=>⟨v,r,H',ro',τ,h1,hq _ _ h2,h3⟩
def QgX:Nat->List A->Env
 |_,[]=>[]
 |i,a::r=>(i,a)::QgX (i+1) r
theorem Qfi{ro:Nat->Prop}{σ:Sig}{w:World}:∀{args:List A} {vals:List Value} {i:Nat} (pre:List Value),pre.length=i->LR ro σ w args vals->∀rest:Array Value,
  ∀s,VR ro σ w (lk (QgX i args) s) (((pre++vals).toArray++rest).getD s undef)
 |[],vals,i,pre,hp,hl,rest,s=>trivial
 |a::r,vals,i,pre,hp,hl,rest,s=>by
  simp only[LR]at hl;obtain⟨v,l',rfl,h1,h2⟩:=hl;simp only[QgX,lk];by_cases e:s=i
  .subst e;rw[VL];have:((pre++v::l').toArray++rest).getD s undef=v:=by
    subst hp;simp[Array.getD_eq_getD_getElem?,Array.getElem?_append]
   rw[this];exact h1
  .have:Nat.beq s i=false:=by
    rw[VT];intro q;exact e (XW q)
   rw[this];have:=Qfi (i:=i+1) (pre++[v]) (by simp[hp]) h2 rest s;simpa using this
def Qcy(P:Program)(fn:Func)(env:Env)(H:Qd)(r:A):Prop:=
 ∀fr ro σ N a w,Rel fr ro σ H env N a w->∃v,(results fn a.tmps).run P w=.ok v w/\VR ro σ w r v
def Qdm(P:Program)(h0:Nat)(fn:Func)(Q:A->Qd->Prop):QB
 |.normal,env,H=>∃env' H' r,Le h0 env H env' H'/\Qcy P fn env' H' r/\Q r H'
 |.ret,env,H=>∃env' H' r,Le h0 env H env' H'/\Qcy P fn env' H' r/\Q r H'
 |.exit _,_,_=>False
theorem LR.length{ro:Nat->Prop}{σ:Sig}{w:World}:∀{az:List A} {l:List Value},LR ro σ w az l->l.length=az.length
 |[],l,h=>by simp only[LR]at h;simp[h]
 |a::r,l,h=>by
  simp only[LR]at h;obtain⟨v,l',rfl,_,h2⟩:=h;simp[h2.length]
theorem Sim.turn{fr ro:Nat->Prop}{σ:Sig}{H:Qd}{w:World}(s:Sim fr ro σ H w){b:Nat}{obj:Obj}(m:¬ro b)(t:¬fr b)(u:∀(i:Nat) (x:Blk),σ[i]?=some (some b)->H[i]?=some x->x.live=true->False)
  (g:∀(i d:Nat) (x:Blk),σ[i]?=some (some d)->H[i]?=some x->Hid w x d b->False)
  (r:∀y,w.shape? b=some y->(w.putObj b obj).shape? b=some y):Sim fr ro σ H (w.putObj b obj)/\Qh fr ro w ro (w.putObj b obj):=by
 have a:∀c,c≠b->(w.putObj b obj).heap[c]?=w.heap[c]? :=λc L=>World.putObj_heap_other L;have f:(w.putObj b obj).heap.size=w.heap.size:=by simp
 have ev:Qh fr ro w ro (w.putObj b obj):=by
  refine⟨λ_ q=>q,λc q=>a c (λe=>m (e▸q)),λc q=>a c (λe=>t (e▸q)),by rw[f];exact XZ _,λc x q=>?_,rfl,rfl,rfl,XZ _⟩;by_cases e:c=b
  .subst e;exact r x q
  .unfold World.shape? at q⊢;rw[a c e];exact q
 have h:Ext ro σ w ro σ (w.putObj b obj):=by have:=ev.ext σ [];simpa using this
 refine⟨⟨s.len,s.roOk.to (λ_ q=>q) ev.keepRo (λc q=>by rw[f];exact s.roLt c q),λc q=>by rw[f];exact s.frLt c q,s.roFr,λi c x k l J=>?_,s.inj,λi y x k l=>?_,
  s.hidTo (· = ·) Q0 (by rw[f];exact XZ _) (λ_ _ _ _ _ _ _ q=>q) (λ_ _ _ _ _ _ _ q=>q) λj d y p n M=>.inl ⟨j,y,rfl,p,n,id,λc q=>s.hidKeep p n (λz=>a d (λe=>u j y (e▸p) n z)) ev.keepRo q⟩⟩,ev⟩
 .obtain⟨F,E,G⟩:=s.own i c x k l J;exact⟨by rw[f];exact F,E,G⟩
 .refine(s.blk i y x k l).keep h ?_ ?_
  .rintro c rfl B;exact a c (λe=>u i x (e▸k) l B)
  .rintro d c rfl q;exact a c (λe=>g i d x k l (e▸q))
theorem Qbs{P:Program}{fn:Func}{tmps:Array Value}{R:Ending->World->Prop}{fr ro:Nat->Prop}{σ:Sig}{H:Qd}:
  ∀(ds:List Deferred) (w:World),ds.Nodup->(∀d∈ds,∃D,d={target:=.collected D,args:= #[]}/\ ¬ro D/\ ¬fr D/\(∀(i:Nat) (x:Blk),σ[i]?=some (some D)->H[i]?=some x->x.live=true->False)/\(∀(i d:Nat) (x:Blk),σ[i]?=some (some d)->H[i]?=some x->Hid w x d D->False)/\w.heap[D]?=some (.deferred (some [])))->
  Sim fr ro σ H w->(∀w',Sim fr ro σ H w'->Qh fr ro w ro w'->∃v,(results fn tmps).run P w'=.ok v w'/\R (.returned v) w')->LeavesInM Fence.wide 0 P fn tmps R ds .returning w
 |[],w,_,_,s,hk=>by
  obtain⟨v,h1,h2⟩:=hk w s (Qh.refl _ _ _);exact⟨v,h1,h2⟩
 |d::ds,w,hn,hd,s,hk=>by
  obtain⟨D,rfl,h1,h2,h3,h5,h4⟩:=hd d (by simp);obtain⟨n1,n2⟩:=List.nodup_cons.1 hn;obtain⟨s',ev⟩:=s.turn (obj:=.deferred none) h1 h2 h3 h5 (λy q=>by unfold World.shape? at q;rw[h4]at q;simp at q);refine⟨(by intro e;cases e),.inl ⟨D,_,rfl,run_takeDeferred h4,?_⟩⟩;refine Qbs ds _ n2 (λd' q=>?_) s' (λw' q1 q2=>hk w' q1 (ev.trans q2));obtain⟨D',rfl,g1,g2,g3,g5,g4⟩:=hd d' (by simp[q]);refine⟨D',rfl,g1,g2,g3,λi d x z1 z2 z3=>g5 i d x z1 z2 (s.hidKeep z1 z2 (λz=>World.putObj_heap_other (λe:d=D=>h3 i x (e▸z1) z2 z)) (λb q=>World.putObj_heap_other (λe:b=D=>h1 (e▸q))) z3),(World.putObj_heap_other (λe=>?_)).trans g4⟩;subst e;exact n1 q
theorem Qb{P:Program}{f:FuncId}{fn:Func}{c:Code}{N:Nat}{args:List A}{H:Qd}{Q:A->Qd->Prop}
  (hf:P.funcs[f]?=some fn)(hb:fn.body=some c)(hN:fn.ntmps=N)(hA:Nat.ble args.length N=true)
  (h:TC P H.length N c (QgX 0 args) H (Qdm P H.length fn Q)):C P f args H Q:=by
 intro fr ro σ vals w hs hl;have y:=hl.length;have aa:args.length<=N:=by simpa using hA
 refine(callsIn_wide (n:=0)).1 (callsIn_of_wp_marks hf hb trivial (Code.wpIn_mono ?_ (h none fr ro σ _ w ⟨hs,?_,?_,List.nodup_nil,λd k=>by cases k⟩ Qeu.none)))
 .rintro e t j ⟨x,m,H1,G,σ1,B,z,J,h3,h4,h5,X⟩;have u:(∃g H' r,Le H.length m H1 g H'/\Qcy P fn g H' r/\Q r H')->LeavesInM Fence.wide 0 P fn t.tmps (λe j=>
    ∃v' r H' a τ,e=.returned v'/\Q r H'/\Sim fr a (σ++τ) H' j/\VR a (σ++τ) j r v'/\Qh fr ro w a j) t.defers .returning j:=by
   rintro⟨g,H',r,O,hr,hq⟩;obtain⟨a,σ',b,p,Y⟩:=O B G σ1 N t j h3;have hσ:σ'=σ++σ'.drop H.length:=by
    have M:σ'.take H.length=σ:=by rw[Y,h5,VO (by rw[hs.len];exact XZ _)]
    conv=>lhs;rw[<- XE H.length σ',M]
   have s1:Sim fr a σ' H' j:=b.sim.frMono X.sub;refine Qbs (ro:=a) (fr:=fr) (σ:=σ') (H:=H') t.defers j b.defers.1 (λd k=>?_) s1 (λw2 W l=>?_)
   .obtain⟨D,rfl,E,g2⟩:=b.defers.2 d k;refine⟨D,rfl,λq=>b.sim.roFr D q E,λq=>?_,λi x R L F=>(b.sim.own i D x R L F).2.2 E,λi d x R L F=>(b.sim.hid i d x D R L F).fr E,g2⟩;rcases X.ds _ k with V|⟨D',e,V⟩
    .cases V
    .have:D=D':=by simpa using e
     subst this;have:=hs.frLt D q;omega
   .have T:Rel fr a σ' H' g N {t with defers:=[]} w2:=⟨W,λs=>(b.env s).mono (by have:=l.ext σ' [];simpa using this),b.size,List.nodup_nil,λd k=>by cases k⟩;obtain⟨v,M,e2⟩:=hr fr a σ' N _ w2 T;exact⟨v,M,v,r,H',a,σ'.drop H.length,rfl,hq,hσ▸W,hσ▸e2,(h4.trans (YU p)).trans l⟩
  cases e with
  |normal=>
   obtain rfl:x=.normal:=z;exact u J
  |ret=>
   obtain rfl:x=.ret:=z;exact u J
  |exit id=>
   obtain rfl:x=.exit id:=z;exact J.elim
  |_=>exact z.elim
 .intro s;have:=Qfi (i:=0) [] rfl hl (Array.replicate (fn.ntmps-vals.toArray.size) undef) s;simpa using this
 .simp[hN,y];omega
section
variable {P:Program} {fn:Func} {env:Env} {H:Qd}
theorem Qcy.nil(h:fn.results= #[]):Qcy P fn env H (.tup []):=
 λfr ro σ N a w r=>⟨.tuple #[],by simp[results,h,go_sem],[],rfl,rfl⟩
theorem Qcy.one{t:Nat}{x:A}(h:fn.results= #[.tmp t])(hx:lk env t=x):Qcy P fn env H x:=
 λfr ro σ N a w r=>⟨a.tmps.getD t undef,by simp[results,h,go_sem],hx▸r.env t⟩
theorem Qme{t u:Nat}{x y:A}(h:fn.results= #[.tmp t,.tmp u])(hx:lk env t=x)(hy:lk env u=y):Qcy P fn env H (.tup [x,y]):=
 λfr ro σ N a w r=>⟨.tuple #[a.tmps.getD t undef,a.tmps.getD u undef],by simp[results,h,go_sem],
  [_,_],rfl,_,_,rfl,hx▸r.env t,_,_,rfl,hy▸r.env u,rfl⟩
theorem Qji{t u v:Nat}{x y z:A}(h:fn.results= #[.tmp t,.tmp u,.tmp v])(hx:lk env t=x)(hy:lk env u=y)(hz:lk env v=z):
  Qcy P fn env H (.tup [x,y,z]):=
 λfr ro σ N a w r=>⟨.tuple #[a.tmps.getD t undef,a.tmps.getD u undef,a.tmps.getD v undef],by simp[results,h,go_sem],
  [_,_,_],rfl,_,_,rfl,hx▸r.env t,_,_,rfl,hy▸r.env u,_,_,rfl,hz▸r.env v,rfl⟩
end
inductive Ctl (S B:Type) where
 |cont (s:S)
 |done (b:B)
 deriving DecidableEq
def iter{S B:Type}(step:S->Option (Ctl S B)):Nat->S->Option B
 |0,_=>none
 |n+1,s=>match step s with
  |some (.cont s')=>iter step n s'
  |some (.done b)=>some b
  |none=>none
def Qbn{S B:Type}(I:S->Env->Qd->Prop)(d:Ctl S B)(Q:QB):QB
 |.normal,env,H=>∃s,d=.cont s/\I s env H
 |.exit id,env,H=>(∃b,d=.done b)/\Q (.exit id) env H
 |.ret,env,H=>(∃b,d=.done b)/\Q .ret env H
theorem Qjg{P:Program}{h0 N:Nat}{c:Code}{S B:Type}{step:S->Option (Ctl S B)}{I:S->Env->Qd->Prop}{Q:QB}{z:B}
  (body:∀s d env H,I s env H->step s=some d->(∀b,d=.done b->b=z)->TC P h0 N c env H (Qbn I d Q))
  {m:Nat}{s0:S}(h:iter step m s0=some z){env:Env}{H:Qd}(O:I s0 env H):TC P h0 N (.loop c) env H Q:=by
 intro W y E σ a w r hrd b k cs hro hb hr;have M:∀m s env H fr1 ro1 σ1 a1 w1,iter step m s=some z->I s env H->Rel fr1 ro1 σ1 H env N a1 w1->Qh y E w ro1 w1->σ1.take h0=σ.take h0->Grow y w a.defers fr1 a1.defers->
   ∃e i j,QaU h0 y E σ w N a.defers Q e i j/\ArrivesIn (Machine.fenced P (WF W)) P (lone (b.atR a1 (.code c::.inLoop c::k)) cs w1) b k cs e i j:=by
  intro m
  induction m with
  |zero=>intro s env H fr1 ro1 σ1 a1 w1 hit;simp[iter]at hit
  |succ m ih=>
   intro s env H fr1 ro1 σ1 a1 w1 hit O r1 ev1 t1 g1;simp only[iter]at hit;cases J:step s with
   |none=>rw[J]at hit;simp at hit
   |some d=>
    rw[J]at hit;have hd:∀b,d=.done b->b=z:=by
     rintro b rfl;simpa using hit
    obtain⟨e,i,j,L,f⟩:=body s d env H O J hd W fr1 ro1 σ1 a1 w1 r1 (hrd.to ev1 g1.sub) b (.inLoop c::k) cs hro hb hr;obtain⟨x,g,H',n,σ',t,F,u,T,q4,R,q6⟩:=L;have p:=ev1.trans (q4.frMono g1.sub);have V:=g1.trans ev1.size q6;have X:∀x,Q x g H'->ExR e x->QaU h0 y E σ w N a.defers Q e i j:=λx q Y=>⟨x,g,H',n,σ',t,Y,q,T,p,R.trans t1,V⟩;cases e with
    |normal=>
     obtain rfl:x=.normal:=F;obtain⟨s',rfl,u⟩:=u;obtain⟨e2,a2,w2,G,l⟩:=ih s' g H' t n σ' i j hit u T p (R.trans t1) V;exact⟨e2,a2,w2,G,.of_steps (StepsIn.trans f (.one (fenced_calm hb hr rfl) stepR_inLoop)) l⟩
    |exit id=>
     obtain rfl:x=.exit id:=F;exact⟨_,i,j,X _ u.2 rfl,.pass (x:=.inLoop c) rfl (λ_ _=>.inl (by simp)) f⟩
    |ret=>
     obtain rfl:x=.ret:=F;exact⟨_,i,j,X _ u.2 rfl,.pass (x:=.inLoop c) rfl (λ_ _=>.inl (by simp)) f⟩
    |_=>exact F.elim
 obtain⟨e,i,j,L,f⟩:=M m s0 env H y E σ a w h O r (Qh.refl _ _ _) rfl (Grow.refl _ _ _);exact⟨e,i,j,L,.of_steps (.one (fenced_calm hb hr rfl) stepR_loop) f⟩
theorem TC.loop{P:Program}{h0 N:Nat}{c:Code}{S B:Type}{step:S->Option (Ctl S B)}(E:S->Env)(Hp:S->Qd){Q:QB}
  {m:Nat}{s0:S}{b0:B}(h:iter step m s0=some b0){env:Env}{H:Qd}(hI:Le h0 env H (E s0) (Hp s0))
  (body:∀s d,step s=some d->(∀b,d=.done b->b=b0)->TC P h0 N c (E s) (Hp s) (Qbn (λs env H=>Le h0 env H (E s) (Hp s)) d Q)):TC P h0 N (.loop c) env H Q:=
 Qjg (I:=λs env H=>Le h0 env H (E s) (Hp s)) (λs d env H hI hs hd=>TC.le hI (body s d hs hd)) h hI
end Go.Sw
namespace Go.Sw
def rho(π:List Nat)(n i:Nat):Nat:=
 match π[i]? with
 |some p=>p
 |none=>n+(i-π.length)
def Yt:Qd->List Nat->List Blk->Qd
 |H,[],xs=>H++xs
 |H,p::π,x::xs=>Yt (H.set p x) π xs
 |H,_::_,[]=>H
theorem Qcq:∀(π:List Nat) (H:Qd) (xs:List Blk),π.length<=xs.length->(Yt H π xs).length=H.length+(xs.length-π.length)
 |[],H,xs,_=>by simp[Yt]
 |p::π,H,[],h=>by simp at h
 |p::π,H,x::xs,h=>by
  simp only[X6]at h;simp only[Yt,Qcq π (H.set p x) xs (by omega),X9,X6];omega
theorem QcB:∀(π:List Nat) (H:Qd) (xs:List Blk) (i:Nat),i<H.length->i∉π->(Yt H π xs)[i]?=H[i]?
 |[],H,xs,i,hi,_=>by simp[Yt,XS hi]
 |p::π,H,[],i,hi,h=>by simp[Yt]
 |p::π,H,x::xs,i,hi,h=>by
  simp only[Vc,not_or]at h;simp only[Yt];rw[QcB π (H.set p x) xs i (by simpa using hi) h.2,XV (λe=>h.1 e.symm)]
theorem QeV:∀(π:List Nat) (H:Qd) (xs:List Blk) (j:Nat),π.length<=xs.length->(∀p∈π,p<H.length)->π.Nodup->
  (Yt H π xs)[rho π H.length j]?=xs[j]?
 |[],H,xs,j,_,_,_=>by
  simp only[Yt,rho,List.getElem?_nil,List.length_nil,Xz];rw[XT (by omega)];congr 1;omega
 |p::π,H,[],j,h,_,_=>by simp at h
 |p::π,H,x::xs,j,h,hp,hn=>by
  simp only[X6]at h;have hn':=List.nodup_cons.1 hn;simp only[Yt];cases j with
  |zero=>
   simp only[rho,XK];rw[QcB π _ xs p (by simpa using hp p (by simp)) hn'.1];rw[Xa (hp p (by simp))]
  |succ j=>
   have ih:=QeV π (H.set p x) xs j (by omega) (λq hq=>by simpa using hp q (by simp[hq])) hn'.2;rw[X9]at ih;have e:rho (p::π) H.length (j+1)=rho π H.length j:=by
    simp only[rho,XL,X6];cases π[j]? with
    |none=>simp only[];congr 1;omega
    |some q=>rfl
   rw[e,ih];simp
theorem QlA(π:List Nat)(n i:Nat)(hi:n<=i\/i∈π):∃j,i=rho π n j:=by
 rcases hi with hi|hi
 .refine⟨π.length+(i-n),?_⟩;have:π[π.length+(i-n)]?=none:=XU (by omega);simp only[rho,this];omega
 .obtain⟨j,a,rfl⟩:=List.mem_iff_getElem.1 hi;exact⟨j,by simp[rho,XQ a]⟩
def Yh(σ:Sig)(π:List Nat):Sig:=π.map λp=>(σ[p]?).getD none
theorem Qew{σ τ:Sig}{π:List Nat}{n:Nat}(b:σ.length=n)(d:∀p∈π,p<n)(j:Nat):(σ++τ)[rho π n j]?=(Yh σ π++τ)[j]? :=by
 rcases VI j π.length with h|h
 .have f:π[j]∈π:=Vj h;have a:=d _ f;have e:rho π n j=π[j]:=by simp[rho,XQ h]
  rw[e,XS (by omega),XS (by simpa[Yh]using h)];simp[Yh,XQ h,XQ (show π[j]<σ.length by omega)]
 .have e:rho π n j=n+(j-π.length):=by
   simp[rho,XU h]
  rw[e,XT (by omega),XT (by simpa[Yh]using h)];simp[Yh,b]
def OpC(P:Program)(o:Oper)(env:Env)(H:Qd)(f:FuncId)(args:List A):Prop:=
 ∀fr ro σ N a w,Rel fr ro σ H env N a w->∃vals:List Value,(execOp a.eval o).run P w=.ok (.enter f vals.toArray) w/\LR ro σ w args vals
theorem Jk{π:List Nat}{H:Qd}{Hc:List Blk}(hH:π.map (λp=>H[p]?)=Hc.map some){p:Nat}(b:p∈π):p<H.length:=by
 have:H[p]? ∈π.map (λp=>H[p]?):=VM b;rw[hH]at this;obtain⟨x,_,a⟩:=Xe.1 this;rcases VI p H.length with h|h
 .exact h
 .rw[XU h]at a;simp at a
theorem WO.call{P:Program}{h0 N:Nat}{all:Array Oper}{o:Oper}{l:List Oper}{env:Env}{H:Qd}{Q:QB}{d:Option Nat}{f:FuncId}
  {args ab:List A}{Hc:Qd}{Qr:A->Qd->Prop}(π:List Nat)(hh:h0<=H.length)(hg:Qs all o env true)(hd:o.dst=d)(hN:∀x,d=some x->x<N)
  (ao:OpC P o env H f args)(hargs:args=Qaa (rho π H.length) ab)(hH:π.map (λp=>H[p]?)=(Hc.map (QX (rho π H.length))).map some)(hπ:π.Nodup)
  (hC:C P f ab Hc Qr)
  (k:∀r H1,Qr r H1->WO P h0 N all l (match d with|some d=>up env d (YE (rho π H.length) r)|none=>env) (Yt H π (H1.map (QX (rho π H.length)))) Q):
  WO P h0 N all (o::l) env H Q:=by
 intro rd fr ro σ a w r hrd;obtain⟨ai,h1,h2⟩:=ao fr ro σ N a w r;refine Qdu (YH hg r) h1 ?_;have hp:∀p∈π,p<H.length:=λp q=>Jk hH q;have hσl:=r.sim.len;have ac:∀(j p:Nat),π[j]?=some p->H[p]?=(Hc[j]?).map (QX (rho π H.length)):=by
  intro j p M;have:=congrArg (λl=>l[j]?) hH;simp only[Xq,M,Xj]at this;cases e:Hc[j]? with
  |none=>rw[e]at this;simp at this
  |some x=>rw[e]at this;simpa using this
 have ak:π.length=Hc.length:=by simpa using congrArg List.length hH
 have hσc:∀j:Nat,σ[rho π H.length j]?=(Yh σ π)[j]? :=by
  intro j;have:=Qew (τ:=[]) hσl hp j;simpa using this
 let frc:Nat->Prop:=λb=>fr b\/(∃i x,σ[i]?=some (some b)/\H[i]?=some x/\x.live=true/\i∉π)\/ ∃i x d,σ[i]?=some (some d)/\H[i]?=some x/\Hid w x d b/\i∉π
 have hπj:∀(j b:Nat),(Yh σ π)[j]?=some (some b)->∃p,π[j]?=some p/\σ[p]?=some (some b):=by
  intro j b M;simp only[Yh,Xq]at M;cases e:π[j]? with
  |none=>rw[e]at M;simp at M
  |some p=>
   rw[e]at M;simp at M;refine⟨p,rfl,?_⟩;cases e2:σ[p]? with
   |none=>rw[e2]at M;simp at M
   |some s=>rw[e2]at M;simp at M;rw[M]
 have hπi:∀(i j p:Nat),π[i]?=some p->π[j]?=some p->i=j:=by
  intro i j p T O;have hi:i<π.length:=by
   rcases VI i π.length with q|q
   .exact q
   .rw[XU q]at T;simp at T
  have M:j<π.length:=by
   rcases VI j π.length with q|q
   .exact q
   .rw[XU q]at O;simp at O
  rw[XQ hi]at T;rw[XQ M]at O;have ae:=(X5 T).trans (X5 O).symm;rcases Nat.lt_trichotomy i j with q|q|q
  .exact(VK.1 hπ i j hi M q ae).elim
  .exact q
  .exact(VK.1 hπ j i M hi q ae.symm).elim
 have al:Sim frc ro (Yh σ π) Hc w:=by
  refine⟨by simp[Yh,ak],r.sim.roOk,?_,?_,?_,?_,?_,?_⟩
  .rintro b (hb|⟨i,x,h,g,m,J⟩|⟨i,x,d,h,g,m,J⟩)
   .exact r.sim.frLt b hb
   .exact(r.sim.own i b x h g m).1
   .exact(r.sim.hid i d x b h g m).lt
  .rintro b hb (hf|⟨i,x,h,g,m,J⟩|⟨i,x,d,h,g,m,J⟩)
   .exact r.sim.roFr b hb hf
   .exact(r.sim.own i b x h g m).2.1 hb
   .exact(r.sim.hid i d x b h g m).ro hb
  .intro j b x h g m;obtain⟨p,T,e2⟩:=hπj j b h;have e3:H[p]?=some (QX (rho π H.length) x):=by rw[ac j p T,g];rfl
   obtain⟨o1,o2,o3⟩:=r.sim.own p b _ e2 e3 (by rw[QP];exact m);refine⟨o1,o2,?_⟩;rintro(hf|⟨i,y,y1,y2,y3,y4⟩|⟨i,y,d,y1,y2,y3,y4⟩)
   .exact o3 hf
   .have:=r.sim.inj i p b _ _ y1 e2 y2 e3 y3 (by rw[QP];exact m);subst this;exact y4 (VN T)
   .exact(r.sim.hid i d y b y1 y2 y3).ne p b _ e2 e3 (by rw[QP];exact m) rfl
  .intro i j b x y h g m J X q6;obtain⟨p,T,e2⟩:=hπj i b h;obtain⟨p',O,aq⟩:=hπj j b g;have e3:H[p]?=some (QX (rho π H.length) x):=by rw[ac i p T,m];rfl
   have av:H[p']?=some (QX (rho π H.length) y):=by rw[ac j p' O,J];rfl
   have:=r.sim.inj p p' b _ _ e2 aq e3 av (by rw[QP];exact X) (by rw[QP];exact q6);subst this;have hi:i<π.length:=by
    rcases VI i π.length with q|q
    .exact q
    .rw[XU q]at T;simp at T
   have M:j<π.length:=by
    rcases VI j π.length with q|q
    .exact q
    .rw[XU q]at O;simp at O
   rw[XQ hi]at T;rw[XQ M]at O;have ae:=(X5 T).trans (X5 O).symm;rcases Nat.lt_trichotomy i j with q|q|q
   .exact(VK.1 hπ i j hi M q ae).elim
   .exact q
   .exact(VK.1 hπ j i M hi q ae.symm).elim
  .intro j s x h g;have M:j<π.length:=by
    rcases VI j π.length with q|q
    .exact q
    .rw[XU (by simpa[Yh]using q)]at h;simp at h
   have T:π[j]?=some π[j]:=XQ M;have e3:H[π[j]]?=some (QX (rho π H.length) x):=by rw[ac j _ T,g];rfl
   have e2:σ[π[j]]?=some s:=by
    have:=hσc j;rw[h]at this;simpa[rho,T]using this
   exact(Qh6 hσc).1 (r.sim.blk _ s _ e2 e3)
  .intro j b x c h g m;obtain⟨p,T,e2⟩:=hπj j b h;have e3:H[p]?=some (QX (rho π H.length) x):=by rw[ac j p T,g];rfl
   have k:=r.sim.hid p b _ c e2 e3 ((Qan _ _ _ _ _).2 m);refine⟨k.lt,k.ro,?_,?_,?_⟩
   .rintro(hf|⟨i,y,y1,y2,y3,y4⟩|⟨i,y,d,y1,y2,y3,y4⟩)
    .exact k.fr hf
    .exact k.ne i c y y1 y2 y3 rfl
    .obtain⟨rfl,rfl⟩:=k.one i d y y1 y2 y3;exact y4 (VN T)
   .intro R b' y L n Y;obtain⟨p',f1,f2⟩:=hπj R b' L;exact k.ne p' b' _ f2 (show H[p']?=some (QX (rho π H.length) y)by rw[ac R p' f1,n];rfl) (by rw[QP];exact Y)
   .intro R b' y L n Y;obtain⟨p',f1,f2⟩:=hπj R b' L;obtain⟨z4,z5⟩:=k.one p' b' _ f2 (show H[p']?=some (QX (rho π H.length) y)by rw[ac R p' f1,n];rfl) ((Qan _ _ _ _ _).2 Y);subst z5;exact⟨z4,hπi R j p' f1 T⟩
 have ah:LR ro (Yh σ π) w ab ai:=(QbG hσc).1 (hargs▸h2);refine Calls.mono (hC frc ro (Yh σ π) ai w al ah) ?_;rintro e w' ⟨v,rr,H1,aa,τ,rfl,hq,sc,hv,ev⟩;have hσ':∀j:Nat,(σ++τ)[rho π H.length j]?=(Yh σ π++τ)[j]? :=λj=>Qew hσl hp j;have au:H1.length=π.length+τ.length:=by rw[<- sc.len];simp[Yh]
 have am:π.length<=(H1.map (QX (rho π H.length))).length:=by simp;omega
 have V:Qh fr ro w aa w':=⟨ev.sub,ev.keepRo,λb q=>ev.keepFr b (.inl q),ev.size,ev.shape,ev.os,ev.tape,ev.output,ev.drawn⟩;have F:∀j,(Yt H π (H1.map (QX (rho π H.length))))[rho π H.length j]?=(H1[j]?).map (QX (rho π H.length)):=by
  intro j;rw[QeV π H _ j am hp hπ];simp
 have B:∀i,i<H.length->i∉π->(Yt H π (H1.map (QX (rho π H.length))))[i]?=H[i]? :=λi=>QcB π H _ i;have t:∀i:Nat,(∃j,i=rho π H.length j)\/(i<H.length/\i∉π):=by
  intro i;by_cases q:H.length<=i\/i∈π
  .exact .inl (QlA π H.length i q)
  .simp only[not_or]at q;exact .inr ⟨by omega,q.2⟩
 have G:∀i b x,i<H.length->i∉π->σ[i]?=some (some b)->H[i]?=some x->x.live=true->frc b:=λi b x h g m J X=>.inr (.inl ⟨i,x,m,J,X,g⟩);have af:∀i b x c,i<H.length->i∉π->σ[i]?=some (some b)->H[i]?=some x->Hid w' x b c->Hid w x b c/\frc c:=λi b x c h g m J X=>
  have q6:=r.sim.hidKeep m J (λz=>ev.keepFr b (G i b x h g m J z)) ev.keepRo X
  ⟨q6,.inr (.inr ⟨i,x,b,m,J,q6,g⟩)⟩
 have aj:Sim fr aa (σ++τ) (Yt H π (H1.map (QX (rho π H.length)))) w':=by
  refine⟨?_,sc.roOk,λb q=>sc.frLt b (.inl q),λb q q'=>sc.roFr b q (.inl q'),?_,?_,?_,?_⟩
  .rw[Qcq _ _ _ am];simp[hσl,au]
  .intro i b x h g m;rcases t i with⟨j,rfl⟩|⟨c1,c2⟩
   .rw[hσ']at h;rw[F]at g;cases e:H1[j]? with
    |none=>rw[e]at g;simp at g
    |some y=>
     rw[e]at g;simp at g;subst g;obtain⟨o1,o2,o3⟩:=sc.own j b y h e (by rw[QP]at m;exact m);exact⟨o1,o2,λq=>o3 (.inl q)⟩
   .rw[B i c1 c2]at g;rw[XS (by omega)]at h;obtain⟨o1,o2,o3⟩:=r.sim.own i b x h g m;exact⟨Vl o1 ev.size,λq=>sc.roFr b q (G i b x c1 c2 h g m),o3⟩
  .intro i E b x y h g m J X q6;have ag:∀(i E:Nat) (x y:Blk),(∃j,i=rho π H.length j)->(E<H.length/\E∉π)->(σ++τ)[i]?=some (some b)->(σ++τ)[E]?=some (some b)->
     (Yt H π (H1.map (QX (rho π H.length))))[i]?=some x->(Yt H π (H1.map (QX (rho π H.length))))[E]?=some y->x.live=true->y.live=true->False:=by
    rintro i E x y ⟨j,rfl⟩ ⟨c1,c2⟩ h g m J X q6;rw[hσ']at h;rw[F]at m;rw[B E c1 c2]at J;rw[XS (by omega)]at g;cases e:H1[j]? with
    |none=>rw[e]at m;simp at m
    |some z=>
     rw[e]at m;simp at m;subst m;exact(sc.own j b z h e (by rw[QP]at X;exact X)).2.2 (G E b y c1 c2 g J q6)
   rcases t i with ci|ci<;>rcases t E with ci'|ci'
   .obtain⟨j,rfl⟩:=ci;obtain⟨R,rfl⟩:=ci';rw[hσ']at h g;rw[F]at m J;cases e:H1[j]? with
    |none=>rw[e]at m;simp at m
    |some z=>
     cases W:H1[R]? with
     |none=>rw[W]at J;simp at J
     |some z'=>
      rw[e]at m;simp at m;subst m;rw[W]at J;simp at J;subst J;rw[sc.inj j R b z z' h g e W (by rw[QP]at X;exact X) (by rw[QP]at q6;exact q6)]
   .exact(ag i E x y ci ci' h g m J X q6).elim
   .exact(ag E i y x ci' ci g h J m q6 X).elim
   .rw[B i ci.1 ci.2]at m;rw[B E ci'.1 ci'.2]at J;rw[XS (by omega)]at h g;exact r.sim.inj i E b x y h g m J X q6
  .intro i s x h g;rcases t i with⟨j,rfl⟩|⟨c1,c2⟩
   .rw[hσ']at h;rw[F]at g;cases e:H1[j]? with
    |none=>rw[e]at g;simp at g
    |some y=>
     rw[e]at g;simp at g;subst g;exact(Qh6 hσ').2 (sc.blk j s y h e)
   .rw[B i c1 c2]at g;rw[XS (by omega)]at h;refine BR.keep (V.ext σ τ) ?_ (r.sim.blk i s x h g) ?_
    .rintro b rfl hl;exact ev.keepFr b (G i b x c1 c2 h g hl)
    .rintro b c rfl hl;exact ev.keepFr c (.inr (.inr ⟨i,x,b,h,g,hl,c2⟩))
  .intro i b x c h g m;rcases t i with⟨j,rfl⟩|⟨c1,c2⟩
   .rw[hσ']at h;rw[F]at g;cases e:H1[j]? with
    |none=>rw[e]at g;simp at g
    |some y=>
     rw[e]at g;simp at g;subst g;have k:=sc.hid j b y c h e ((Qan _ _ _ _ _).1 m);refine⟨k.lt,k.ro,λq=>k.fr (.inl q),?_,?_⟩
     .intro E b' y' L n Y;rcases t E with⟨R,rfl⟩|⟨d1,d2⟩
      .rw[hσ']at L;rw[F]at n;cases W:H1[R]? with
       |none=>rw[W]at n;simp at n
       |some u=>
        rw[W]at n;simp at n;subst n;exact k.ne R b' u L W (by rw[QP]at Y;exact Y)
      .rw[B E d1 d2]at n;rw[XS (by omega)]at L;rintro rfl;exact k.fr (G E c y' d1 d2 L n Y)
     .intro E b' y' L n Y;rcases t E with⟨R,rfl⟩|⟨d1,d2⟩
      .rw[hσ']at L;rw[F]at n;cases W:H1[R]? with
       |none=>rw[W]at n;simp at n
       |some u=>
        rw[W]at n;simp at n;subst n;obtain⟨z4,rfl⟩:=k.one R b' u L W ((Qan _ _ _ _ _).1 Y);exact⟨z4,rfl⟩
      .rw[B E d1 d2]at n;rw[XS (by omega)]at L;exact(k.fr (af E b' y' c d1 d2 L n Y).2).elim
   .rw[B i c1 c2]at g;rw[XS (by omega)]at h;obtain⟨J,X⟩:=af i b x c c1 c2 h g m;have k:=r.sim.hid i b x c h g J;refine⟨Vl k.lt ev.size,λq=>sc.roFr c q X,k.fr,?_,?_⟩
    .intro E b' y' L n Y;rcases t E with⟨R,rfl⟩|⟨d1,d2⟩
     .rw[hσ']at L;rw[F]at n;cases W:H1[R]? with
      |none=>rw[W]at n;simp at n
      |some u=>
       rw[W]at n;simp at n;subst n;rintro rfl;exact(sc.own R c u L W (by rw[QP]at Y;exact Y)).2.2 X
     .rw[B E d1 d2]at n;rw[XS (by omega)]at L;exact k.ne E b' y' L n Y
    .intro E b' y' L n Y;rcases t E with⟨R,rfl⟩|⟨d1,d2⟩
     .rw[hσ']at L;rw[F]at n;cases W:H1[R]? with
      |none=>rw[W]at n;simp at n
      |some u=>
       rw[W]at n;simp at n;subst n;exact((sc.hid R b' u c L W ((Qan _ _ _ _ _).1 Y)).fr X).elim
     .rw[B E d1 d2]at n;rw[XS (by omega)]at L;exact k.one E b' y' L n (af E b' y' c d1 d2 L n Y).1
 have ar:VR aa (σ++τ) w' (YE (rho π H.length) rr) v:=(QdQ hσ').2 hv;have hk:=k rr H1 hq;cases d with
 |none=>
  simp only[hd,Act.put];have r':Rel fr aa (σ++τ) (Yt H π (H1.map (QX (rho π H.length)))) env N a w':=⟨aj,λs=>(r.env s).mono (V.ext σ τ),r.size,r.defers.keep V⟩;exact⟨_,rfl,Yk (λe a w q=>q.step V (Qw (by omega))) _ _ _ (hk rd fr aa (σ++τ) _ w' r' (hrd.to V λ_ q=>q))⟩
 |some d=>
  simp only[hd,Act.put];have an:=hN d rfl;have r':Rel fr aa (σ++τ) (Yt H π (H1.map (QX (rho π H.length)))) (up env d (YE (rho π H.length) rr)) N {a with tmps:=a.tmps.setIfInBounds d v} w':=
   ⟨aj,VR.up (fr:=fr) (λs=>(r.env s).mono (V.ext σ τ)) (by rw[r.size];exact an) ar,by simpa using r.size,r.defers.keep V⟩
  exact⟨_,rfl,Yk (λe a w q=>q.step V (Qw (by omega))) _ _ _ (hk rd fr aa (σ++τ) _ w' r' (hrd.to V λ_ q=>q))⟩
end Go.Sw
namespace Go.Sw
section
variable {P:Program} {o:Oper} {env:Env} {H:Qd}
theorem QS{fr ro:Nat->Prop}{σ:Sig}{N:Nat}{a:Act}{w:World}(r:Rel fr ro σ H env N a w){x:Operand}{k:IntKind}{n:Int}(h:opA env x=.int k n):a.eval x=.int k n:=by
 have:=Qg r x;rw[h]at this;exact this
theorem Qc1{fr ro:Nat->Prop}{σ:Sig}{N:Nat}{a:Act}{w:World}(r:Rel fr ro σ H env N a w){x:Operand}{b:Bool}(h:opA env x=.bool b):a.eval x=.bool b:=by
 have:=Qg r x;rw[h]at this;exact this
theorem Qey{fr ro:Nat->Prop}{σ:Sig}{N:Nat}{a:Act}{w:World}(r:Rel fr ro σ H env N a w){x:Operand}{s:List UInt8}(h:opA env x=.str s):a.eval x=.string ⟨s.toArray⟩:=by
 have:=Qg r x;rw[h]at this;exact this
theorem OpV.move{x:Operand}{v:A}(ho:o.op=.move x)(hx:opA env x=v):OpV P o env H v:=
 λfr ro σ N a w r=>⟨a.eval x,by simp[execOp,ho,go_sem],hx▸Qg r x⟩
theorem OpV.assign{x:Operand}{v:A}(ho:o.op=.assign x)(hx:opA env x=v):OpV P o env H v:=
 λfr ro σ N a w r=>⟨a.eval x,by simp[execOp,ho,go_sem],hx▸Qg r x⟩
theorem OpV.pick{c x y:Operand}{b:Bool}{v:A}(f:o.op=.pick c x y)(e:opA env c=.bool b)(g:(if b then opA env x else opA env y)=v):OpV P o env H v:=by
 intro h i σ N a w r;have d:=Qc1 r e;refine⟨if b then a.eval x else a.eval y,by generalize a.eval=ρ at*;simp[execOp,f,d,asBool,go_sem],?_⟩;subst g;cases b
 .exact Qg r y
 .exact Qg r x
theorem OpV.add{t u:TypeId}{x y:Operand}{k:IntKind}{m n:Int}(d:o.op=.binOp .add t x y u)(f:opA env x=.int k m)(g:opA env y=.int k n):OpV P o env H (.int k (k.wrap (m+n))):=by
 intro h i σ N a w r;have e:=QS r f;have b:=QS r g;refine⟨_,?_,rfl⟩;generalize a.eval=ρ at*;simp[execOp,d,e,b,Go.binOp,eqGuard,Op.intArith,go_sem]
theorem OpV.sub{t u:TypeId}{x y:Operand}{k:IntKind}{m n:Int}(d:o.op=.binOp .sub t x y u)(f:opA env x=.int k m)(g:opA env y=.int k n):OpV P o env H (.int k (k.wrap (m-n))):=by
 intro h i σ N a w r;have e:=QS r f;have b:=QS r g;refine⟨_,?_,rfl⟩;generalize a.eval=ρ at*;simp[execOp,d,e,b,Go.binOp,eqGuard,Op.intArith,go_sem]
theorem OpV.mul{t u:TypeId}{x y:Operand}{k:IntKind}{m n:Int}(d:o.op=.binOp .mul t x y u)(f:opA env x=.int k m)(g:opA env y=.int k n):OpV P o env H (.int k (k.wrap (m*n))):=by
 intro h i σ N a w r;have e:=QS r f;have b:=QS r g;refine⟨_,?_,rfl⟩;generalize a.eval=ρ at*;simp[execOp,d,e,b,Go.binOp,eqGuard,Op.intArith,go_sem]
theorem OpV.cmp{op:BinOp}{t u:TypeId}{x y:Operand}{k:IntKind}{m n:Int}{f:Int->Int->Bool}(e:o.op=.binOp op t x y u)(g:opA env x=.int k m)(i:opA env y=.int k n)
  (d:op=.eql/\f=(λa b=>a==b)\/op=.neq/\f=(λa b=>a != b)\/op=.lss/\f=(λa b=>decide (a<b))\/op=.leq/\f=(λa b=>decide (a<=b))\/
   op=.gtr/\f=(λa b=>decide (b<a))\/op=.geq/\f=(λa b=>decide (b<=a))):OpV P o env H (.bool (f m n)):=by
 intro p l σ N a w r;have h:=QS r g;have j:=QS r i;refine⟨_,?_,rfl⟩;generalize a.eval=ρ at*;rcases d with⟨rfl,rfl⟩|⟨rfl,rfl⟩|⟨rfl,rfl⟩|⟨rfl,rfl⟩|⟨rfl,rfl⟩|⟨rfl,rfl⟩<;>simp[execOp,e,h,j,Go.binOp,eqGuard,Op.intCmp,go_sem]
theorem OpV.eql{t u:TypeId}{x y:Operand}{k:IntKind}{m n:Int}(ho:o.op=.binOp .eql t x y u)(hx:opA env x=.int k m)(hy:opA env y=.int k n):OpV P o env H (.bool (m==n)):=
 OpV.cmp (f:=λa b=>a==b) ho hx hy (by simp)
theorem OpV.neq{t u:TypeId}{x y:Operand}{k:IntKind}{m n:Int}(ho:o.op=.binOp .neq t x y u)(hx:opA env x=.int k m)(hy:opA env y=.int k n):OpV P o env H (.bool (m != n)):=
 OpV.cmp (f:=λa b=>a != b) ho hx hy (by simp)
theorem OpV.lss{t u:TypeId}{x y:Operand}{k:IntKind}{m n:Int}(ho:o.op=.binOp .lss t x y u)(hx:opA env x=.int k m)(hy:opA env y=.int k n):OpV P o env H (.bool (decide (m<n))):=
 OpV.cmp (f:=λa b=>decide (a<b)) ho hx hy (by simp)
theorem OpV.leq{t u:TypeId}{x y:Operand}{k:IntKind}{m n:Int}(ho:o.op=.binOp .leq t x y u)(hx:opA env x=.int k m)(hy:opA env y=.int k n):OpV P o env H (.bool (decide (m<=n))):=
 OpV.cmp (f:=λa b=>decide (a<=b)) ho hx hy (by simp)
theorem OpV.gtr{t u:TypeId}{x y:Operand}{k:IntKind}{m n:Int}(ho:o.op=.binOp .gtr t x y u)(hx:opA env x=.int k m)(hy:opA env y=.int k n):OpV P o env H (.bool (decide (n<m))):=
 OpV.cmp (f:=λa b=>decide (b<a)) ho hx hy (by simp)
theorem OpV.geq{t u:TypeId}{x y:Operand}{k:IntKind}{m n:Int}(ho:o.op=.binOp .geq t x y u)(hx:opA env x=.int k m)(hy:opA env y=.int k n):OpV P o env H (.bool (decide (n<=m))):=
 OpV.cmp (f:=λa b=>decide (b<=a)) ho hx hy (by simp)
theorem OpV.rem{t u:TypeId}{x y:Operand}{k:IntKind}{m n:Int}(b:o.op=.binOp .rem t x y u)(e:opA env x=.int k m)(g:opA env y=.int k n)(d:n≠0):OpV P o env H (.int k (m.tmod n)):=by
 intro j i σ N a w r;have f:=QS r e;have h:=QS r g;exact⟨_,by generalize a.eval=ρ at*;simp[execOp,b,f,h,Go.binOp,eqGuard,Op.intDiv,d,go_sem],rfl⟩
theorem OpV.not{t:TypeId}{x:Operand}{b:Bool}(d:o.op=.unOp .not t x)(f:opA env x=.bool b):OpV P o env H (.bool !b):=by
 intro g h σ N a w r;have e:=Qc1 r f;exact⟨_,by generalize a.eval=ρ at*;simp[execOp,d,e,Op.unary,go_sem],rfl⟩
theorem OpV.neg{t:TypeId}{x:Operand}{k:IntKind}{n:Int}(b:o.op=.unOp .neg t x)(e:opA env x=.int k n):OpV P o env H (.int k (k.wrap (0-n))):=by
 intro f g σ N a w r;have d:=QS r e;exact⟨_,by generalize a.eval=ρ at*;simp[execOp,b,d,Op.unary,Op.intArith,go_sem],rfl⟩
theorem Ja{s t:TypeId}{x:Operand}{k g:IntKind}{n:Int}{b:TypeDesc}(d:o.op=.convert s t x)(e:∀w,(underlying s).run P w=.ok b w)(h:∀w,(underlying t).run P w=.ok (.int k) w)
  (f:opA env x=.int g n):OpV P o env H (.int k (k.wrap n)):=by
 intro l j σ N a w r;have i:=QS r f;refine⟨_,?_,rfl⟩;generalize a.eval=ρ at*;cases b<;>simp[execOp,d,i,convert,e,h,Conv.intToInt,go_sem]
theorem QdT{op:BinOp}{t u:TypeId}{x y:Operand}{p q:List UInt8}{f:List UInt8->List UInt8->Bool}(e:o.op=.binOp op t x y u)(g:opA env x=.str p)(j:opA env y=.str q)
  (d:op=.eql/\f=(λa b=>a==b)\/op=.neq/\f=(λa b=>a != b)\/op=.lss/\f=Op.bytesLess\/op=.geq/\f=(λa b=> !Op.bytesLess a b)\/
   op=.leq/\f=(λa b=>Op.bytesLess a b||a==b)\/op=.gtr/\f=(λa b=> !(Op.bytesLess a b||a==b))):OpV P o env H (.bool (f p q)):=by
 intro n m σ N a w r;have i:=Qey r g;have l:=Qey r j;refine⟨_,?_,rfl⟩;generalize a.eval=ρ at*;have h:(⟨p.toArray⟩:ByteArray).toList=p:=by rw[Go.ByteArray.toList_eq]
 have k:(⟨q.toArray⟩:ByteArray).toList=q:=by rw[Go.ByteArray.toList_eq]
 rcases d with⟨rfl,rfl⟩|⟨rfl,rfl⟩|⟨rfl,rfl⟩|⟨rfl,rfl⟩|⟨rfl,rfl⟩|⟨rfl,rfl⟩<;>simp[execOp,e,i,l,Go.binOp,eqGuard,Op.stringOp,h,k,go_sem,bne]
theorem QdU{t u:TypeId}{x y:Operand}{p q:List UInt8}(ho:o.op=.binOp .eql t x y u)(hx:opA env x=.str p)(hy:opA env y=.str q):OpV P o env H (.bool (p==q)):=
 QdT (f:=λa b=>a==b) ho hx hy (by simp)
theorem Qmh{t u:TypeId}{x y:Operand}{p q:List UInt8}(ho:o.op=.binOp .neq t x y u)(hx:opA env x=.str p)(hy:opA env y=.str q):OpV P o env H (.bool (p != q)):=
 QdT (f:=λa b=>a != b) ho hx hy (by simp)
theorem Qmi{t u:TypeId}{x y:Operand}{p q:List UInt8}(ho:o.op=.binOp .lss t x y u)(hx:opA env x=.str p)(hy:opA env y=.str q):OpV P o env H (.bool (Op.bytesLess p q)):=
 QdT ho hx hy (by simp)
theorem Qmj{t:TypeId}{x y:Operand}{s:List UInt8}{k:IntKind}{n:Int}{c:UInt8}(g:o.op=.index t x y)(j:∀w,(underlying t).run P w=.ok .string w)(h:opA env x=.str s)(m:opA env y=.int k n)
  (h0:0<=n)(i:s[n.toNat]?=some c):OpV P o env H (.int .u8 c.toNat):=by
 intro u q σ N a w r;have l:=Qey r h;have p:=QS r m;have d:(⟨s.toArray⟩:ByteArray)[n.toNat]?=some c:=by
  obtain⟨b,f⟩:=XR.1 i;have e:(⟨s.toArray⟩:ByteArray).size=s.length:=by simp[ByteArray.size]
  rw[getElem?_pos _ _ (by rw[e];exact b)];show some (s.toArray[n.toNat]'(by simpa using b))=some c;simp[f]
 refine⟨_,?_,rfl⟩;generalize a.eval=ρ at*;simp[execOp,g,l,p,Instr.index,asIntOf,j,h0,d,go_sem]
theorem QaW{c:Call}{t:TypeId}{x:Operand}{s:List UInt8}(e:o.op=.call c)(b:c={callee:=.builtin .len,args:= #[x],argTypes:= #[t]})(d:∀w,(underlying t).run P w=.ok .string w)
  (g:opA env x=.str s):OpV P o env H (.int .i64 s.length):=by
 intro h i σ N a w r;have f:=Qey r g;refine⟨_,?_,rfl⟩;generalize a.eval=ρ at*;subst b;simp[execOp,e,f,resolve,invoke,Go.builtin,Builtin.len_,d,goInt,go_sem]<;>rfl
theorem QoA{c:Call}{t e:TypeId}{x:Operand}{k:Nat}{es:List (List A)}(d:o.op=.call c)(h:c={callee:=.builtin .len,args:= #[x],argTypes:= #[t]})(i:∀w,(underlying t).run P w=.ok (.slice e) w)
  (g:opA env x=.rsl k es):OpV P o env H (.int .i64 es.length):=by
 intro l j σ N a w r;have b:=Qg r x;rw[g]at b;obtain⟨ad,f,b,_⟩:=b;refine⟨_,?_,rfl⟩;generalize a.eval=ρ at*;subst h;simp[execOp,d,b,resolve,invoke,Go.builtin,Builtin.len_,i,goInt,go_sem]
theorem Qjm{c:Call}{t e:TypeId}{x:Operand}{i s n k:Nat}(f:o.op=.call c)(j:c={callee:=.builtin .len,args:= #[x],argTypes:= #[t]})(l:∀w,(underlying t).run P w=.ok (.slice e) w)
  (h:opA env x=.osl i s n k):OpV P o env H (.int .i64 n):=by
 intro y q σ N a w r;have d:=Qg r x;rw[h]at d;refine⟨_,?_,rfl⟩;generalize a.eval=ρ at*;subst j;rcases d with⟨rfl,d⟩|⟨b,p,g,u,m,_,d,_⟩<;>
 simp[execOp,f,d,resolve,invoke,Go.builtin,Builtin.len_,l,goInt,go_sem]
structure QG (P:Program) (T f off n:Nat):Prop where
 h:∃fs fd,(∀w,(underlying T).run P w=.ok (.struct fs) w)/\fs[f]?=some fd/\fd.offset=off/\(∀w,(sizeOf fd.type).run P w=.ok n w)/\n≠0
theorem Y4(b off n:Nat):(⟨b,off,none⟩:Addr).add n=⟨b,off+n,none⟩:=by
 unfold Addr.add;split
 .rename_i h;simp[h]
 .rfl
theorem Qd1{T f off n b p:Nat}(g:QG P T f off n)(w:World):(Instr.fieldAt T (.pointer (some ⟨b,p,none⟩)) f).run P w=.ok (.pointer (some ⟨b,p+off,none⟩)) w:=by
 obtain⟨j,k,e,i,rfl,d,a⟩:=g.h;simp[Instr.fieldAt,e,i,Instr.sureAddr,fieldPlace,d,a,Y4,go_sem]
theorem Yw{T f off n i p:Nat}{x:Operand}(g:QG P T f off n)(e:o.op=.fieldAddr T x f)(h:opA env x=.ptr i p):OpV P o env H (.ptr i (p+off)):=by
 intro k l σ N a w r;have d:=Qg r x;rw[h]at d;obtain⟨b,d,j⟩:=d;refine⟨.pointer (some ⟨b,p+off,none⟩),?_,b,d,rfl⟩;generalize a.eval=ρ at*;simp only[execOp,e,j,Vt,Qd1 g];rfl
theorem CR.drop{ro:Nat->Prop}{σ:Sig}{w:World}{b:Nat}:∀(n:Nat) {cs:List A} {off:Nat},CR ro σ w b cs off->CR ro σ w b (cs.drop n) (off+n)
 |0,_,_,h=>h
 |n+1,[],_,h=>trivial
 |n+1,c::cs,off,h=>by
  have:=CR.drop n h.2;rw[List.drop_succ_cons];rw[show off+(n+1)=off+1+n from by omega];exact this
theorem CR.take{ro:Nat->Prop}{σ:Sig}{w:World}{b:Nat}:∀(n:Nat) {cs:List A} {off:Nat},CR ro σ w b cs off->CR ro σ w b (cs.take n) off
 |0,_,_,h=>trivial
 |n+1,[],_,h=>trivial
 |n+1,c::cs,off,h=>⟨h.1,CR.take n h.2⟩
theorem Qx{T f off n:Nat}{x:Operand}{cs cs':List A}(i:QG P T f off n)(g:o.op=.fieldAddr T x f)(h:opA env x=.rp cs)(e:cs.drop off=cs'):OpV P o env H (.rp cs'):=by
 intro m l σ N a w r;have d:=Qg r x;rw[h]at d;obtain⟨b,p,d,k,j⟩:=d;refine⟨.pointer (some ⟨b,p+off,none⟩),?_,b,p+off,rfl,k,e▸j.drop off⟩;generalize a.eval=ρ at*;simp only[execOp,g,d,Vt,Qd1 i];rfl
theorem RR.get{ro:Nat->Prop}{σ:Sig}{w:World}{b k:Nat}:∀(n:Nat) {es:List (List A)} {off:Nat} {c:List A},RR ro σ w b k es off->es[n]?=some c->c.length=k/\CR ro σ w b c (off+n*k)
 |n,[],_,_,h,hc=>by simp at hc
 |0,e::es,off,c,h,hc=>by
  simp at hc;subst hc;exact⟨h.1,by simpa using h.2.1⟩
 |n+1,e::es,off,c,h,hc=>by
  have:=RR.get n h.2.2 (by simpa using hc);refine⟨this.1,?_⟩;rw[show off+(n+1)*k=off+k+n*k from by rw[Xm];omega];exact this.2
theorem QpJ{t e:TypeId}{x y:Operand}{k:Nat}{es:List (List A)}{m:IntKind}{n:Int}{c:List A}(i:o.op=.indexAddr t x y)(q:∀w,(underlying t).run P w=.ok (.slice e) w)
  (j:∀w,(sizeOf e).run P w=.ok k w)(E:opA env x=.rsl k es)(s:opA env y=.int m n)(h0:0<=n)(h:es[n.toNat]?=some c):OpV P o env H (.rp c):=by
 intro L G σ N a w r;have f:=Qg r x;rw[E]at f;have u:=QS r s;obtain⟨ad,l,f,J,F⟩:=f;have g:n.toNat<es.length:=(XR.1 h).1;rcases F with rfl|⟨b,d,rfl,z,p⟩
 .simp at g
 have B:n<es.length:=by omega
 refine⟨.pointer (some ⟨b,d+n.toNat*k,none⟩),?_,b,d+n.toNat*k,rfl,z,(p.get n.toNat h).2⟩;generalize a.eval=ρ at*;simp[execOp,i,f,u,Instr.indexAt,asIntOf,q,j,h0,B,Y4,go_sem]
theorem QhW{t e:TypeId}{x y:Operand}{i s m k:Nat}{l:IntKind}{n:Int}(f:o.op=.indexAddr t x y)(z:∀w,(underlying t).run P w=.ok (.slice e) w)
  (g:∀w,(sizeOf e).run P w=.ok k w)(j:opA env x=.osl i s m k)(E:opA env y=.int l n)(h0:0<=n)(B:n<m):OpV P o env H (.ptr i (s*k+n.toNat*k)):=by
 intro O L σ N a w r;have d:=Qg r x;rw[j]at d;have F:=QS r E;rcases d with⟨rfl,_⟩|⟨b,p,h,M,G,q,d,u,J,_⟩
 .omega
 obtain rfl:=u (by omega);refine⟨.pointer (some ⟨b,s*k+n.toNat*k,none⟩),?_,b,q,rfl⟩;generalize a.eval=ρ at*;simp[execOp,f,d,F,Instr.indexAt,asIntOf,z,g,h0,B,Y4,go_sem]
def Pts(H:Qd)(p:A)(cs:List A):Prop:=
 ∀fr ro σ w v,Sim fr ro σ H w->VR ro σ w p v->∃b off,v=.pointer (some ⟨b,off,none⟩)/\CR ro σ w b cs off
theorem VR.lift{ro:Nat->Prop}{σ:Sig}{w:World}{a:A}{v:Value}(h:VR ro [] w a v):VR ro σ w a v:=
 h.mono ⟨λ_ q=>q,λ_ _=>rfl,λ_ _ q=>q,λi b q=>by simp at q⟩
theorem CR.lift{ro:Nat->Prop}{σ:Sig}{w:World}{b:Nat}:∀{cs:List A} {off:Nat},CR ro [] w b cs off->CR ro σ w b cs off
 |[],_,_=>trivial
 |c::cs,off,⟨⟨v,h1,hp,h2⟩,h3⟩=>⟨⟨v,h1,hp,h2.lift⟩,CR.lift h3⟩
theorem LR.lift{ro:Nat->Prop}{σ:Sig}{w:World}:∀{cs:List A} {l:List Value},LR ro [] w cs l->LR ro σ w cs l
 |[],_,h=>h
 |c::cs,l,⟨v,l',h1,h2,h3⟩=>⟨v,l',h1,h2.lift,LR.lift h3⟩
theorem Pts.rp{cs:List A}:Pts H (.rp cs) cs:=λfr ro σ w v s ⟨b,off,h1,h2,h3⟩=>⟨b,off,h1,h3.lift⟩
theorem LR.cells{ro:Nat->Prop}{σ:Sig}{w:World}{b t:Nat}{fz:Nat×Nat}{pre l:List Value}(d:w.heap[b]?=some (.cells (pre++l).toArray t fz))(a:∀v∈l,Qp v):
  ∀{cs:List A},LR ro σ w cs l->CR ro σ w b cs pre.length:=by
 induction l generalizing pre with
 |nil=>
  intro cs h;cases cs with
  |nil=>trivial
  |cons c cs=>obtain⟨v,f,h,_⟩:=h;cases h
 |cons v l e=>
  intro cs h;cases cs with
  |nil=>trivial
  |cons c cs=>
   obtain⟨m,f,j,k,i⟩:=h;cases j;refine⟨⟨v,by simp[World.cell?,d],a v (by simp),k⟩,?_⟩;have:=e (pre:=pre++[v]) (by simpa using d) (λx g=>a x (by simp[g])) i;simpa using this
theorem Pts.cells{i off t:Nat}{cs cs':List A}(hH:H[i]?=some (.cells t cs))(a:cs.drop off=cs'):Pts H (.ptr i off) cs':=by
 intro m k σ w v s h;obtain⟨b,d,j⟩:=h;obtain⟨l,f,e,g⟩:=s.blk i _ _ d hH;have:=LR.cells (pre:=[]) (by simpa using f) g e;refine⟨b,off,j,a▸ ?_⟩;have:=this.drop off;simpa using this
theorem LR.get{ro:Nat->Prop}{σ:Sig}{w:World}:∀{az:List A} {l:List Value} (i:Nat) {a:A},LR ro σ w az l->az[i]?=some a->∃v,l[i]?=some v/\VR ro σ w a v
 |[],l,i,a,h,ha=>by simp at ha
 |x::az,l,0,a,⟨v,l',h1,h2,h3⟩,ha=>by
  simp at ha;subst ha h1;exact⟨v,rfl,h2⟩
 |x::az,l,i+1,a,⟨v,l',h1,h2,h3⟩,ha=>by
  subst h1;obtain⟨v',q1,q2⟩:=LR.get i h3 (by simpa using ha);exact⟨v',by simpa using q1,q2⟩
theorem LR.drop{ro:Nat->Prop}{σ:Sig}{w:World}:∀(n:Nat) {az:List A} {l:List Value},LR ro σ w az l->LR ro σ w (az.drop n) (l.drop n)
 |0,az,l,h=>h
 |n+1,[],l,h=>by cases(show l=[]from h);rfl
 |n+1,a::az,l,⟨v,l',h1,h2,h3⟩=>by subst h1;exact LR.drop n h3
theorem LR.take{ro:Nat->Prop}{σ:Sig}{w:World}:∀(n:Nat) {az:List A} {l:List Value},LR ro σ w az l->LR ro σ w (az.take n) (l.take n)
 |0,az,l,h=>rfl
 |n+1,[],l,h=>by cases(show l=[]from h);rfl
 |n+1,a::az,l,⟨v,l',h1,h2,h3⟩=>by subst h1;exact⟨v,l'.take n,rfl,h2,LR.take n h3⟩
theorem LR.append{ro:Nat->Prop}{σ:Sig}{w:World}:∀{az:List A} {l:List Value} {bs:List A} {m:List Value},LR ro σ w az l->LR ro σ w bs m->LR ro σ w (az++bs) (l++m)
 |[],l,bs,m,h,k=>by cases(show l=[]from h);exact k
 |a::az,l,bs,m,⟨v,l',h1,h2,h3⟩,k=>by subst h1;exact⟨v,l'++m,rfl,h2,LR.append h3 k⟩
theorem Qlp{ro:Nat->Prop}{σ:Sig}{w:World}{b t:Nat}{fz:Nat×Nat}:∀{cs:List A} {pre l post:List Value},w.heap[b]?=some (.cells (pre++(l++post)).toArray t fz)->(∀v∈l,Qp v)->
  LR ro σ w cs l->CR ro σ w b cs pre.length
 |[],_,_,_,_,_,_=>trivial
 |c::cs,pre,l,post,hb,hpl,⟨v,l',h1,h2,h3⟩=>by
  subst h1;refine⟨⟨v,by simp[World.cell?,hb],hpl v (by simp),h2⟩,?_⟩;have:=Qlp (pre:=pre++[v]) (l:=l') (post:=post) (by simpa using hb) (λx hx=>hpl x (by simp[hx])) h3;simpa using this
theorem YV{ro:Nat->Prop}{σ:Sig}{w:World}{b t k:Nat}{fz:Nat×Nat}:∀{es:List (List A)} {pre l:List Value},w.heap[b]?=some (.cells (pre++l).toArray t fz)->
  RL ro σ w k es l->RR ro σ w b k es pre.length
 |[],_,_,_,_=>trivial
 |c::es,pre,l,hb,⟨l1,l2,h1,h2,h3,h4⟩=>by
  subst h1;refine⟨h2,Qlp hb h3.2 h3.1,?_⟩;have hl:=h3.1.length;have:=YV (pre:=pre++l1) (l:=l2) (by simpa using hb) h4;simpa[hl,h2]using this
theorem Pts.row{i off t k e f:Nat}{es:List (List A)}{c cs':List A}(hH:H[i]?=some (.row t k es))(d:off=e*k+f)(he:es[e]?=some c)(a:c.drop f=cs'):Pts H (.ptr i off) cs':=by
 intro q p σ w v s h;obtain⟨b,m,n⟩:=h;obtain⟨l,j,g⟩:=s.blk i _ _ m hH;have:=((YV (pre:=[]) (by simpa using j) g).get e he).2.drop f;refine⟨b,off,n,?_⟩;subst d a;simpa using this.lift
theorem Pts.rowr{i off t k e f:Nat}{es:List (List A)}{c cs':List A}(hH:H[i]?=some (.rowr t k es))(d:off=e*k+f)(he:es[e]?=some c)(a:c.drop f=cs'):Pts H (.ptr i off) cs':=by
 intro q p σ w v s h;obtain⟨b,m,n⟩:=h;obtain⟨l,j,g⟩:=s.blk i _ _ m hH;have:=((YV (pre:=[]) (by simpa using j) g).get e he).2.drop f;refine⟨b,off,n,?_⟩;subst d a;simpa using this
theorem Ql5{w w':World}(h:w'.heap=w.heap)(a:Addr):w'.cell? a=w.cell? a:=by unfold World.cell?;rw[h]
theorem YI{ro:Nat->Prop}{σ:Sig}{w:World}{b off:Nat}:∀{cs:List A} (i:Nat),CR ro σ w b cs (off+i)->
  ∃l,LR ro σ w cs l/\(∀v∈l,Qp v)/\ ∀(w':World) (a:Array Value),w'.heap=w.heap->(loadCellsFrom ⟨b,off,none⟩ i cs.length a).run P w'=.ok (a++l.toArray) w'
 |[],i,h=>⟨[],rfl,by simp,λw' a _=>by simp[loadCellsFrom,go_sem]⟩
 |c::cs,i,⟨⟨v,h1,hp,h2⟩,h3⟩=>by
  obtain⟨l,q1,qp,q2⟩:=YI (cs:=cs) (i+1) (by rw[<- Nat.add_assoc];exact h3);refine⟨v::l,⟨v,l,rfl,h2,q1⟩,by simpa using⟨hp,qp⟩,λw' a hw=>?_⟩;have h1':w'.cell? ⟨b,off+i,none⟩=some v:=by rw[Ql5 hw];exact h1
  have:=q2 w' (a.push v) hw;simp[loadCellsFrom,Go.load,Sem.run,Y4,h1',this,go_sem]
theorem Qk{t n:Nat}{x:Operand}{p:A}{cs vs:List A}(f:o.op=.load t x)(h:∀w,(isAgg t).run P w=.ok true w)(g:∀w,(sizeOf t).run P w=.ok n w)(j:opA env x=p)(q:Pts H p cs)
  (i:cs.take n=vs)(hl:vs.length=n):OpV P o env H (.agg vs):=by
 intro u k σ N a w r;have e:=Qg r x;rw[j]at e;obtain⟨b,off,y,m⟩:=q u k σ w _ r.sim e;subst i;obtain⟨l,s,_,d⟩:=YI (P:=P) (cs:=cs.take n) (off:=off) 0 (by simpa using m.take n);have d:=d w #[] rfl;rw[hl]at d;refine⟨.agg l.toArray,?_,l,rfl,s⟩;generalize a.eval=ρ at*;simp[execOp,f,y,Instr.loadAt,Instr.sureAddr,loadVar,h,g,loadCells,d,go_sem]
theorem OpV.load{t:Nat}{x:Operand}{p v:A}{cs:List A}(e:o.op=.load t x)(f:∀w,(isAgg t).run P w=.ok false w)(g:opA env x=p)(k:Pts H p (v::cs)):OpV P o env H v:=by
 intro l h σ N a w r;have d:=Qg r x;rw[g]at d;obtain⟨b,m,n,⟨y,i,_,j⟩,_⟩:=k l h σ w _ r.sim d;refine⟨y,?_,j⟩;generalize a.eval=ρ at*;simp[execOp,e,n,Instr.loadAt,Instr.sureAddr,loadVar,f,Go.load,Sem.run,i,go_sem]
theorem OpV.extract{x:Operand}{vs:List A}{i:Nat}{v:A}(e:o.op=.extract x i)(f:opA env x=.tup vs)(d:vs[i]?=some v):OpV P o env H v:=by
 intro m k σ N a w r;have b:=Qg r x;rw[f]at b;obtain⟨l,b,j⟩:=b;obtain⟨y,g,h⟩:=j.get i d;refine⟨y,?_,h⟩;generalize a.eval=ρ at*;simp[execOp,e,b,Instr.extract,g,go_sem]
theorem Qbm{fr ro:Nat->Prop}{σ:Sig}{N:Nat}{a:Act}{w:World}(r:Rel fr ro σ H env N a w):∀(l:List Operand),LR ro σ w (l.map (opA env)) (l.map a.eval)
 |[]=>rfl
 |x::l=>⟨_,_,rfl,Qg r x,Qbm r l⟩
theorem OpV.makeFunc{f:Fn}{first cap:List Operand}{vf vc:List A}(b:o.op=.makeFunc f first.toArray cap.toArray)(e:first.map (opA env)=vf)(d:cap.map (opA env)=vc):OpV P o env H (.fn f vf vc):=by
 intro g h σ N a w r;refine⟨.func f (first.map a.eval).toArray (cap.map a.eval).toArray,?_,_,_,rfl,e▸Qbm r first,d▸Qbm r cap⟩;generalize a.eval=ρ at*;simp[execOp,b,Instr.makeFunc,go_sem]
theorem Qas{t:TypeId}{x:Operand}{v:A}{d:TypeDesc}(f:o.op=.makeInterface t x)(e:∀w,(underlying t).run P w=.ok d w)(g:∀m,d≠ .interface m)(h:opA env x=v):OpV P o env H (.iface t v):=by
 intro i j σ N a w r;have b:=Qg r x;rw[h]at b;refine⟨.iface t (a.eval x),?_,_,rfl,b⟩;generalize a.eval=ρ at*;cases d<;>first|(simp[execOp,f,Instr.makeInterface,e,go_sem];done)|exact(g _ rfl).elim
end
end Go.Sw
namespace Go.Sw
mutual
def Ys:A->Bool
 |.ptr _ _=>false
 |.osl _ _ _ _=>false
 |.map _=>false
 |.agg cs=>Yo cs
 |.fn _ a c=>Yo a&&Yo c
 |.iface _ v=>Ys v
 |.tup vs=>Yo vs
 |_=>true
def Yo:List A->Bool
 |[]=>true
 |a::r=>Ys a&&Yo r
end
mutual
theorem VR.data{ro:Nat->Prop}{σ σ':Sig}{w:World}:∀{a:A} {v:Value},Ys a=true->VR ro σ w a v->VR ro σ' w a v
 |.any,_,_,_=>trivial
 |.bool b,v,_,q=>q
 |.int k n,v,_,q=>q
 |.str s,v,_,q=>q
 |.nilp,v,_,q=>q
 |.ptr i off,v,d,q=>by simp[Ys]at d
 |.rp cs,v,_,q=>q
 |.nils,v,_,q=>q
 |.rsl k es,v,_,q=>q
 |.osl i o n k,v,d,q=>by simp[Ys]at d
 |.agg cs,v,d,q=>by
  simp only[VR,Ys]at q d⊢;obtain⟨l,h1,h2⟩:=q;exact⟨l,h1,LR.data d h2⟩
 |.fn f a c,v,d,q=>by
  simp only[VR,Ys,X3]at q d⊢;obtain⟨l,l',h1,h2,h3⟩:=q;exact⟨l,l',h1,LR.data d.1 h2,LR.data d.2 h3⟩
 |.nilf,v,_,q=>q
 |.iface t a,v,d,q=>by
  simp only[VR,Ys]at q d⊢;obtain⟨x,h1,h2⟩:=q;exact⟨x,h1,VR.data d h2⟩
 |.nilif,v,_,q=>q
 |.map i,v,d,q=>by simp[Ys]at d
 |.nilm,v,_,q=>q
 |.tup vs,v,d,q=>by
  simp only[VR,Ys]at q d⊢;obtain⟨l,h1,h2⟩:=q;exact⟨l,h1,LR.data d h2⟩
theorem LR.data{ro:Nat->Prop}{σ σ':Sig}{w:World}:∀{az:List A} {l:List Value},Yo az=true->LR ro σ w az l->LR ro σ' w az l
 |[],_,_,q=>q
 |a::r,l,d,q=>by
  simp only[LR,Yo,X3]at q d⊢;obtain⟨v,l',h1,h2,h3⟩:=q;exact⟨v,l',h1,VR.data d.1 h2,LR.data d.2 h3⟩
end
def Ym:A->Bool
 |.any|.agg _|.tup _=>false
 |_=>true
def Q8:A->List A
 |.agg cs=>cs
 |a=>[a]
def Yf:A->Bool
 |.any=>false
 |_=>true
theorem VR.plain{ro:Nat->Prop}{σ:Sig}{w:World}{a:A}{v:Value}(b:Ym a=true)(h:VR ro σ w a v):Qp v:=by
 cases a<;>first|(simp[Ym]at b;done)|skip
 case rsl k es=>obtain⟨ad,c,rfl,_⟩:=h;trivial
 case osl=>rcases h with⟨_,rfl⟩|⟨_,_,_,_,_,_,rfl,_⟩<;>trivial
 case fn=>obtain⟨_,_,rfl,_⟩:=h;trivial
 case iface=>obtain⟨_,rfl,_⟩:=h;trivial
 case ptr=>obtain⟨_,_,rfl⟩:=h;trivial
 case rp=>obtain⟨_,_,rfl,_⟩:=h;trivial
 case map=>obtain⟨_,_,rfl⟩:=h;trivial
 all_goals (simp only[VR]at h;subst h;trivial)
theorem VR.cells{ro:Nat->Prop}{σ:Sig}{w:World}{a:A}{v:Value}(d:Yf a=true)(h:VR ro σ w a v):∃l:List Value,v.cells=l.toArray/\LR ro σ w (Q8 a) l:=by
 cases a
 case any=>simp[Yf]at d
 case agg cs=>obtain⟨l,rfl,h⟩:=h;exact⟨l,rfl,h⟩
 case tup cs=>obtain⟨l,rfl,h⟩:=h;exact⟨[.tuple l.toArray],rfl,_,_,rfl,⟨l,rfl,h⟩,rfl⟩
 all_goals
  have b:=h.plain rfl;refine⟨[v],?_,v,[],rfl,h,rfl⟩;cases v<;>first|rfl|exact b.elim
theorem LR.plain{ro:Nat->Prop}{σ:Sig}{w:World}:∀{az:List A} {l:List Value},az.all Ym=true->LR ro σ w az l->∀v∈l,Qp v
 |[],l,_,h=>by cases(show l=[]from h);simp
 |a::az,l,hp,⟨v,l',h1,h2,h3⟩=>by
  subst h1;simp only[List.all_cons,X3]at hp;intro x hx;rcases Vc.1 hx with rfl|hx
  .exact h2.plain hp.1
  .exact LR.plain hp.2 h3 x hx
theorem Yv(w:World)(obj:Obj)(b:Nat)(a:b<w.heap.size):(w.alloc obj).heap[b]?=w.heap[b]? :=by
 show(w.heap.push obj)[b]?=_;rw[Array.getElem?_push,Vy (by omega)]
theorem Q6(w:World)(obj:Obj):(w.alloc obj).heap[w.heap.size]?=some obj:=by
 show(w.heap.push obj)[w.heap.size]?=_;simp
theorem Yu(w:World)(obj:Obj):(w.alloc obj).heap.size=w.heap.size+1:=by
 show(w.heap.push obj).size=_;simp
theorem QbR{w:World}{b:Nat}{x:TypeId×Nat}(h:w.shape? b=some x):b<w.heap.size:=by
 unfold World.shape? at h;rcases VI b w.heap.size with q|q
 .exact q
 .rw[Array.getElem?_eq_none q]at h;simp at h
theorem Qh.alloc{fr ro:Nat->Prop}{w:World}(obj:Obj)(hro:∀b,ro b->b<w.heap.size)(hfr:∀b,fr b->b<w.heap.size):Qh fr ro w ro (w.alloc obj):=
 ⟨λ_ h=>h,λb h=>Yv w obj b (hro b h),λb h=>Yv w obj b (hfr b h),by rw[Yu];omega,
  λb x h=>by unfold World.shape? at h⊢;rw[Yv w obj b (QbR h)];exact h,rfl,rfl,rfl,XZ _⟩
section
variable {P:Program} {o:Oper} {env:Env} {H:Qd} {fr ro:Nat->Prop} {σ:Sig} {w:World}
theorem Sim.alloc(s:Sim fr ro σ H w){obj:Obj}{x:Blk}(G:BR ro (σ++[some w.heap.size]) (w.alloc obj) x (some w.heap.size))
  (u:∀c,Hid (w.alloc obj) x w.heap.size c->False:=by exact λ_ h=>h.elim):
  Sim fr ro (σ++[some w.heap.size]) (H++[x]) (w.alloc obj):=by
 have ev:Qh fr ro w ro (w.alloc obj):=Qh.alloc obj s.roLt s.frLt;have m:=s.len;have e:∀(i:Nat) (y:Option Nat),(σ++[some w.heap.size])[i]?=some y->(i<σ.length/\σ[i]?=some y)\/(i=σ.length/\y=some w.heap.size):=by
  intro i y h;rcases Nat.lt_trichotomy i σ.length with q|q|q
  .rw[XS q]at h;exact .inl ⟨q,h⟩
  .subst q;simp at h;exact .inr ⟨rfl,h.symm⟩
  .rw[XU (by simp;omega)]at h;simp at h
 have k:∀i:Nat,i<σ.length->(H++[x])[i]?=H[i]? :=λi L=>XS (by omega);have E:(H++[x])[σ.length]?=some x:=by rw[m];simp
 refine⟨by simp[m],s.roOk.to (λ_ q=>q) ev.keepRo (λb h=>?_),λb h=>?_,s.roFr,?_,?_,?_,?_⟩
 .rw[Yu];have:=s.roLt b h;omega
 .rw[Yu];have:=s.frLt b h;omega
 .intro i b y f g p;rw[Yu];rcases e i _ f with⟨q,f⟩|⟨rfl,l⟩
  .rw[k i q]at g;obtain⟨a,b,c⟩:=s.own i b y f g p;exact⟨by omega,b,c⟩
  .cases l;exact⟨by omega,λq=>by have:=s.roLt _ q;omega,λq=>by have:=s.frLt _ q;omega⟩
 .intro i j b y z f g p t B F;rcases e i _ f with⟨q,f⟩|⟨rfl,l⟩<;>rcases e j _ g with⟨q',g⟩|⟨rfl,e2⟩
  .rw[k i q]at p;rw[k j q']at t;exact s.inj i j b y z f g p t B F
  .cases e2;rw[k i q]at p;have:=(s.own i _ y f p B).1;omega
  .cases l;rw[k j q']at t;have:=(s.own j _ z g t F).1;omega
  .rfl
 .intro i y z f g;rcases e i _ f with⟨q,f⟩|⟨rfl,l⟩
  .rw[k i q]at g;refine(s.blk i y z f g).keep (ev.ext σ _) ?_ ?_
   .rintro b rfl m;exact Yv w obj b (s.own i b z f g m).1
   .rintro b c rfl m;exact Yv w obj c (s.hid i b z c f g m).lt
  .rw[E]at g;cases g;subst l;exact G
 .refine s.hidTo (· = ·) Q0 (by rw[Yu];omega) (λ_ _ _ _ _ _ _ q=>q) (λ_ _ _ _ _ _ _ q=>q) λj d y r n J=>?_;rcases e j _ r with⟨q,r⟩|⟨rfl,l⟩
  .rw[k j q]at n;exact .inl ⟨j,y,rfl,r,n,id,λc q=>s.hidKeep r n (λz=>Yv w obj d (s.own j d y r n z).1) ev.keepRo q⟩
  .rw[E]at n;cases n;cases l;exact .inr ⟨XZ _,u⟩
theorem Sim.allocCells(s:Sim fr ro σ H w){t:Nat}{cs:List A}{l:List Value}(h:LR ro σ w cs l)(hp:∀v∈l,Qp v):
  Sim fr ro (σ++[some w.heap.size]) (H++[.cells t cs]) (w.alloc (.cells l.toArray t)):=
 s.alloc ⟨l,Q6 _ _,h.mono ((Qh.alloc (fr:=fr) _ s.roLt s.frLt).ext σ _),hp⟩
theorem Qjr{ro:Nat->Prop}{σ:Sig}{w:World}:∀{az bs:List A} {l:List Value},LR ro σ w (az++bs) l->∃l1 l2,l=l1++l2/\LR ro σ w az l1/\LR ro σ w bs l2
 |[],bs,l,h=>⟨[],l,rfl,rfl,h⟩
 |a::az,bs,l,⟨v,l',h1,h2,h3⟩=>by
  obtain⟨l1,l2,e,q1,q2⟩:=Qjr h3;subst h1 e;exact⟨v::l1,l2,rfl,⟨v,l1,rfl,h2,q1⟩,q2⟩
def allK(k:Nat):List (List A)->Prop
 |[]=>True
 |c::es=>c.length=k/\allK k es
theorem Y7{k:Nat}:∀{es:List (List A)} {l rest:List Value},allK k es->LR ro σ w es.flatten l->(∀v∈l,Qp v)->RL ro σ w k es (l++rest)
 |[],_,_,_,_,_=>trivial
 |c::es,l,rest,⟨h1,h2⟩,h,hp=>by
  rw[Vs]at h;obtain⟨l1,l2,rfl,q1,q2⟩:=Qjr h;exact⟨l1,l2++rest,by simp,h1,⟨q1,λv hv=>hp v (by simp[hv])⟩,Y7 h2 q2 (λv hv=>hp v (by simp[hv]))⟩
theorem Sim.allocRow(s:Sim fr ro σ H w){t k:Nat}{es:List (List A)}{l rest:List Value}(hk:allK k es)(h:LR ro [] w es.flatten l)(hp:∀v∈l,Qp v):
  Sim fr ro (σ++[some w.heap.size]) (H++[.row t k es]) (w.alloc (.cells (l++rest).toArray t)):=
 s.alloc ⟨l++rest,Q6 _ _,(Y7 hk h hp).mono ((Qh.alloc (fr:=fr) _ s.roLt s.frLt).ext0 [])⟩
theorem Sim.allocRowr(s:Sim fr ro σ H w){t k:Nat}{es:List (List A)}{l rest:List Value}(hk:allK k es)(h:LR ro σ w es.flatten l)(hp:∀v∈l,Qp v):
  Sim fr ro (σ++[some w.heap.size]) (H++[.rowr t k es]) (w.alloc (.cells (l++rest).toArray t)):=
 s.alloc ⟨l++rest,Q6 _ _,(Y7 hk h hp).mono ((Qh.alloc (fr:=fr) _ s.roLt s.frLt).ext σ _)⟩
theorem OpH.box{t:Nat}{x:Operand}{v:A}{cs:List A}(i:o.op=.box t x)(j:opA env x=v)(h:Yf v=true)(b:Q8 v=cs)(d:cs.all Ym=true):
  OpH P o env H (.ptr H.length 0) (H++[.cells t cs]):=by
 intro n k σ N a w r;have g:=Qg r x;rw[j]at g;obtain⟨l,m,f⟩:=g.cells h;subst b;refine⟨.pointer (some ⟨w.heap.size,0,none⟩),w.alloc (.cells l.toArray t),k,[some w.heap.size],?_,⟨w.heap.size,?_,rfl⟩,r.sim.allocCells f (f.plain d),Qh.alloc _ r.sim.roLt r.sim.frLt⟩
 .generalize a.eval=ρ at*;have e:(newVar t (ρ x)).run P w=.ok ⟨w.heap.size,0,none⟩ (w.alloc (.cells l.toArray t)):=by
   unfold newVar;rw[m];rfl
  simp only[execOp,i,Instr.box,Vt,e];rfl
 .rw[<- r.sim.len];simp
theorem Sim.set(s:Sim fr ro σ H w){i b:Nat}{x x':Blk}{obj:Obj}(hσ:σ[i]?=some (some b))(hH:H[i]?=some x)(hl:x.live=true)
  (O:∀y,w.shape? b=some y->({w with heap:=w.heap.setIfInBounds b obj}:World).shape? b=some y)
  (M:Ext ro σ w ro σ {w with heap:=w.heap.setIfInBounds b obj}->({w with heap:=w.heap.setIfInBounds b obj}:World).heap[b]?=some obj->BR ro σ {w with heap:=w.heap.setIfInBounds b obj} x' (some b))
  (N:∀c,Hid {w with heap:=w.heap.setIfInBounds b obj} x' b c->Hid w x b c:=by exact λ_ h=>h.elim):
  Sim fr ro σ (H.set i x') {w with heap:=w.heap.setIfInBounds b obj}/\Qh fr ro w ro {w with heap:=w.heap.setIfInBounds b obj}:=by
 obtain⟨P,m,n⟩:=s.own i b x hσ hH hl;have g:∀c,c≠b->({w with heap:=w.heap.setIfInBounds b obj}:World).heap[c]?=w.heap[c]? :=by
  intro c V;show(w.heap.setIfInBounds b obj)[c]?=_;rw[Vk,Vy (λq=>V q.symm)]
 have L:({w with heap:=w.heap.setIfInBounds b obj}:World).heap[b]?=some obj:=by
  show(w.heap.setIfInBounds b obj)[b]?=_;rw[Vk,Vz rfl,Vz P]
 have l:({w with heap:=w.heap.setIfInBounds b obj}:World).heap.size=w.heap.size:=by simp
 have ev:Qh fr ro w ro {w with heap:=w.heap.setIfInBounds b obj}:=
  ⟨λ_ h=>h,λc h=>g c (λq=>m (q▸h)),λc h=>g c (λq=>n (q▸h)),by rw[l];exact XZ _,by
   intro c y h;by_cases q:c=b
   .subst q;exact O y h
   .unfold World.shape? at h⊢;rw[g c q];exact h,rfl,rfl,rfl,XZ _⟩
 have T:i<H.length:=(XR.1 hH).1;have u:(H.set i x')[i]?=some x':=Xa T;have k:∀j,j≠i->(H.set i x')[j]?=H[j]? :=λj X=>XV (λq=>X q.symm);have B:=M (ev.ext0 σ) L;refine⟨⟨by rw[X9];exact s.len,s.roOk.to (λ_ q=>q) ev.keepRo (λc h=>by rw[l];exact s.roLt c h),λc h=>by rw[l];exact s.frLt c h,s.roFr,?_,?_,?_,?_⟩,ev⟩
 .intro j c y f a G;rw[l];by_cases q:j=i
  .subst q;rw[hσ]at f;cases f;exact⟨P,m,n⟩
  .rw[k j q]at a;exact s.own j c y f a G
 .intro j p c y z f a G J R Q;by_cases q:j=i
  .subst q;rw[hσ]at f;cases f;by_cases E:p=j
   .exact E.symm
   .rw[k p E]at J;exact s.inj j p _ x z hσ a hH J hl Q
  .rw[k j q]at G;by_cases E:p=i
   .subst E;rw[hσ]at a;cases a;exact s.inj j p _ y x f hσ G hH R hl
   .rw[k p E]at J;exact s.inj j p c y z f a G J R Q
 .intro j y z f a;by_cases q:j=i
  .subst q;rw[u]at a;cases a;rw[hσ]at f;cases f;exact B
  .rw[k j q]at a;refine(s.blk j y z f a).keep (ev.ext0 σ) ?_ ?_
   .rintro c rfl r;exact g c (λe=>q (s.inj j i b z x (e▸f) hσ a hH r hl))
   .rintro c d rfl W;exact g d ((s.hid j c z d f a W).ne i b x hσ hH hl)
 .refine s.hidTo (· = ·) Q0 (by rw[l];exact XZ _) (λ_ _ _ _ _ _ _ q=>q) (λ_ _ _ _ _ _ _ q=>q) λj d y F t Y=>.inl ?_;by_cases q:j=i
  .subst q;rw[u]at t;cases t;rw[hσ]at F;cases F;exact⟨j,x,rfl,hσ,hH,λ_=>hl,N⟩
  .rw[k j q]at t;exact⟨j,y,rfl,F,t,id,λc z=>s.hidKeep F t (λr=>g d (λe=>q (s.inj j i b y x (e▸F) hσ t hH r hl))) ev.keepRo z⟩
def splice{α:Type}(l:List α)(o:Nat)(vs:List α):List α:=l.take o++vs++l.drop (o+vs.length)
theorem Ya{α:Type}{l:List α}{o:Nat}{vs:List α}(h:o+vs.length<=l.length):(splice l o vs).length=l.length:=by
 simp[splice];omega
theorem Qbh{h:Array Obj}{b:Nat}{f:Obj->Obj}{x:Obj}(d:h[b]?=some x):h.modify b f=h.setIfInBounds b (f x):=by
 apply Array.ext_getElem?;intro i;rw[Array.getElem?_modify,Vk];by_cases e:b=i
 .subst e;obtain⟨a,g⟩:=Vi.1 d;simp[g,a]
 .simp[e]
theorem Yb{b t:Nat}:∀{vs l:List Value} {w:World} (off i:Nat),w.heap[b]?=some (.cells l.toArray t (0,0))->off+i+vs.length<=l.length->(∀v∈vs,Qp v)->
  (storeCells ⟨b,off,none⟩ vs i).run P w=.ok () {w with heap:=w.heap.setIfInBounds b (.cells (splice l (off+i) vs).toArray t (0,0))}
 |[],l,w,off,i,hb,hl,hp=>by
  have e:w.heap.setIfInBounds b (.cells (splice l (off+i) []).toArray t (0,0))=w.heap:=by
   apply Array.ext_getElem?;intro j;rw[Vk];by_cases q:b=j
   .subst q;obtain⟨a,p⟩:=Vi.1 hb;simp[a,splice,p]
   .rw[Vy q]
  rw[e];simp[storeCells,go_sem]
 |v::vs,l,w,off,i,hb,hl,hp=>by
  simp only[X6]at hl;have m:=hp v (by simp);have u:w.cell? ⟨b,off+i,none⟩=some l[off+i]:=by
   simp[World.cell?,hb]
  have f:w.frozen? ⟨b,off+i,none⟩=false:=by
   simp[World.frozen?,hb]
  have d:w.setCell ⟨b,off+i,none⟩ v={w with heap:=w.heap.setIfInBounds b (.cells (splice l (off+i) [v]).toArray t (0,0))}:=by
   unfold World.setCell;rw[Qbh hb];simp only[Option.isSome_none,Xi,if_false];congr 3;have:l.toArray.setIfInBounds (off+i) v=(l.set (off+i) v).toArray:=by simp
   rw[this];congr 1;rw[List.set_eq_take_append_cons_drop,Vz (by omega)];simp[splice]
  have a:b<w.heap.size:=by
   rcases VI b w.heap.size with q|q
   .exact q
   .rw[Array.getElem?_eq_none q]at hb;simp at hb
  have h:=Yb (vs:=vs) (l:=splice l (off+i) [v]) (w:={w with heap:=w.heap.setIfInBounds b (.cells (splice l (off+i) [v]).toArray t (0,0))}) off (i+1)
   (by show(w.heap.setIfInBounds b _)[b]?=_;rw[Vk,Vz rfl,Vz a])
   (by rw[Ya (by simp;omega)];omega) (λx s=>hp x (by simp[s]))
  have y:splice (splice l (off+i) [v]) (off+(i+1)) vs=splice l (off+i) (v::vs):=by
   have k:(l.take (off+i)).length=off+i:=by simp;omega
   unfold splice;rw[Vp (l.take (off+i))];have n:off+(i+1)=(l.take (off+i)).length+1:=by omega
   have B:(l.take (off+i)++([v]++l.drop (off+i+[v].length))).take ((l.take (off+i)).length+1)=l.take (off+i)++[v]:=by
    rw[Vh];simp
   have r:(l.take (off+i)++([v]++l.drop (off+i+[v].length))).drop ((l.take (off+i)).length+1+vs.length)=l.drop (off+i+(v::vs).length):=by
    rw[show(l.take (off+i)).length+1+vs.length=(l.take (off+i)).length+(1+vs.length)from by omega,Vg];simp[Nat.add_comm 1];congr 1;omega
   rw[n,B,r];simp
  have z:(w.heap.setIfInBounds b (.cells (splice l (off+i) [v]).toArray t (0,0))).setIfInBounds b (.cells (splice (splice l (off+i) [v]) (off+(i+1)) vs).toArray t (0,0))=
    w.heap.setIfInBounds b (.cells (splice l (off+i) (v::vs)).toArray t (0,0)):=by
   rw[y,Array.setIfInBounds_setIfInBounds]
  rw[z]at h;have g:(Go.store ⟨b,off+i,none⟩ v).run P w=.ok () {w with heap:=w.heap.setIfInBounds b (.cells (splice l (off+i) [v]).toArray t (0,0))}:=by
   rw[<- d];cases v<;>first|exact m.elim|simp[Go.store,Sem.run,u,f,go_sem]
  simp only[storeCells,Y4,Vt,g];exact h
theorem Jt{w:World}{b t:Nat}{l l':List Value}(d:w.heap[b]?=some (.cells l.toArray t (0,0)))(hl:l'.length=l.length)(y:TypeId×Nat)(h:w.shape? b=some y):
  ({w with heap:=w.heap.setIfInBounds b (.cells l'.toArray t (0,0))}:World).shape? b=some y:=by
 have a:b<w.heap.size:=by
  rcases VI b w.heap.size with q|q
  .exact q
  .rw[Array.getElem?_eq_none q]at d;simp at d
 unfold World.shape? at h⊢;rw[d]at h;simp at h;subst h;show(match(w.heap.setIfInBounds b (.cells l'.toArray t (0,0)))[b]? with|some (.cells c elem _)=>some (elem,c.size)|_=>none)=_;rw[Vk,Vz rfl,Vz a];simp[hl]
theorem LR.splice{ro:Nat->Prop}{σ:Sig}{w:World}{az vs:List A}{l m:List Value}(off:Nat)(h:LR ro σ w az l)(k:LR ro σ w vs m):LR ro σ w (Sw.splice az off vs) (Sw.splice l off m):=by
 unfold Sw.splice;rw[k.length];exact((h.take off).append k).append (h.drop _)
theorem Qfd{l m:List Value}{off:Nat}(h:∀v∈l,Qp v)(k:∀v∈m,Qp v):∀v∈Sw.splice l off m,Qp v:=by
 intro v a;simp only[Sw.splice,VJ]at a;rcases a with(a|a)|a
 .exact h v (List.mem_of_mem_take a)
 .exact k v a
 .exact h v (List.mem_of_mem_drop a)
theorem OpU.store{t n i off T:Nat}{x y:Operand}{cs vs cs':List A}{v:A}(O:o.op=.store t x y)(Y:opA env x=.ptr i off)(hH:H[i]?=some (.cells T cs))(Q:∀w,(sizeOf t).run P w=.ok n w)
  (p:opA env y=v)(L:Yf v=true)(X:Q8 v=vs)(hn:vs.length=n)(J:vs.all Ym=true)(g:Nat.ble (off+n) cs.length=true)(B:splice cs off vs=cs'):
  OpU P o env H (H.set i (.cells T cs')):=by
 intro fr R σ N a w r;have j:=Qg r x;rw[Y]at j;obtain⟨b,j,W⟩:=j;have G:=Qg r y;rw[p]at G;obtain⟨m,F,f⟩:=G.cells L;rw[X]at f;obtain⟨l,E,s,V⟩:=r.sim.blk i _ _ j hH;have z:off+n<=cs.length:=by simpa using g
 have q:m.length=n:=by rw[f.length,hn]
 have h:=Yb (P:=P) (vs:=m) off 0 E (by rw[s.length,q];omega) (f.plain J);have d:=r.sim.set (x':=.cells T cs') (obj:=.cells (splice l off m).toArray T (0,0)) j hH rfl
  (λy p=>Jt E (Ya (by rw[s.length,q];omega)) y p)
  (λe M=>⟨_,M,B▸(s.splice off f).mono e,Qfd V (f.plain J)⟩)
 refine⟨_,R,[],?_,by simpa using d.1,d.2⟩;generalize a.eval=ρ at*;have u:(ρ y).cells.size=n:=by rw[F];simp[q]
 have k:(storeVar t ⟨b,off,none⟩ (ρ y)).run P w=.ok () {w with heap:=w.heap.setIfInBounds b (.cells (splice l off m).toArray T (0,0))}:=by
  unfold storeVar;rw[Vt,Q];simp only[Result.andThen];rw[Vy (by simp[u]),F];simpa using h
 simp only[execOp,O,W,Instr.storeAt,Instr.sureAddr,pure_bind,Vt,k];rfl
theorem RL.splice{ro:Nat->Prop}{σ:Sig}{w:World}{k:Nat}:∀{e:Nat} {es:List (List A)} {l m:List Value} {c a:List A} {f:Nat},RL ro σ w k es l->es[e]?=some c->LR ro σ w a m->(∀v∈m,Qp v)->f+a.length<=k->
  RL ro σ w k (es.set e (Sw.splice c f a)) (Sw.splice l (e*k+f) m)
 |_,[],_,_,_,_,_,_,h,_,_,_=>by simp at h
 |0,c0::es,l,m,c,a,f,⟨l1,l2,h1,h2,h3,h4⟩,hc,hm,hp,hf=>by
  simp at hc;subst hc h1;have hl1:=h3.1.length;refine⟨Sw.splice l1 f m,l2,?_,?_,⟨h3.1.splice f hm,Qfd h3.2 hp⟩,h4⟩
  .unfold Sw.splice;simp only[Nat.zero_mul,XA,Vp];rw[Vd (by omega),Ve (by rw[hm.length];omega)]
  .rw[Ya (by omega)];exact h2
 |e+1,c0::es,l,m,c,a,f,⟨l1,l2,h1,h2,h3,h4⟩,hc,hm,hp,hf=>by
  subst h1;have hl1:=h3.1.length;refine⟨l1,Sw.splice l2 (e*k+f) m,?_,h2,h3,RL.splice h4 (by simpa using hc) hm hp hf⟩;have e1:(e+1)*k+f=l1.length+(e*k+f):=by rw[Xm];omega
  unfold Sw.splice;rw[e1,Vh,show l1.length+(e*k+f)+m.length=l1.length+(e*k+f+m.length)from by omega,Vg];simp
theorem RL.length{ro:Nat->Prop}{σ:Sig}{w:World}{k:Nat}:∀{es:List (List A)} {l:List Value},RL ro σ w k es l->es.length*k<=l.length
 |[],l,_=>by simp
 |c::es,l,⟨l1,l2,h1,h2,h3,h4⟩=>by
  subst h1;have:=RL.length h4;have:=h3.1.length;simp only[X6,X8,Xm];omega
theorem QhX{t n i off T k e f:Nat}{x y:Operand}{es es':List (List A)}{c vs V:List A}{v:A}(X:o.op=.store t x y)(hx:opA env x=.ptr i off)(hH:H[i]?=some (.row T k es))(hs:∀w,(sizeOf t).run P w=.ok n w)
  (p:off=e*k+f)(Q:es[e]?=some c)(B:opA env y=v)(hk:Yf v=true)(hv:Q8 v=vs)(L:vs.length=n)(R:vs.all Ym=true)(hd:Yo vs=true)(hf:Nat.ble (f+n) k=true)
  (u:splice c f vs=V)(s:es.set e V=es'):
  OpU P o env H (H.set i (.row T k es')):=by
 intro fr ro σ N a w r;have h:=Qg r x;rw[hx]at h;obtain⟨b,h,Y⟩:=h;have O:=Qg r y;rw[B]at O;obtain⟨m,M,j⟩:=O.cells hk;rw[hv]at j;obtain⟨l,J,G⟩:=r.sim.blk i _ _ h hH;have F:f+n<=k:=by simpa using hf
 have hm:m.length=n:=by rw[j.length,L]
 have he:e<es.length:=(XR.1 Q).1;have W:off+n<=l.length:=by
  have:=G.length;have h6:(e+1)*k<=es.length*k:=XH k he;rw[Xm]at h6;omega
 have g:=Yb (P:=P) (vs:=m) off 0 J (by omega) (j.plain R);have d:=r.sim.set (x':=.row T k es') (obj:=.cells (splice l off m).toArray T (0,0)) h hH rfl
  (λy B=>Jt J (Ya (by omega)) y B)
  (λex E=>⟨_,E,by
   subst s u p;exact(G.splice Q (j.data hd) (j.plain R) (by rw[L];exact F)).mono ex.nil⟩)
 refine⟨_,ro,[],?_,by simpa using d.1,d.2⟩;generalize a.eval=ρ at*;have q:(ρ y).cells.size=n:=by rw[M];simp[hm]
 have z:(storeVar t ⟨b,off,none⟩ (ρ y)).run P w=.ok () {w with heap:=w.heap.setIfInBounds b (.cells (splice l off m).toArray T (0,0))}:=by
  unfold storeVar;rw[Vt,hs];simp only[Result.andThen];rw[Vy (by simp[q]),M];simpa using g
 simp only[execOp,X,Y,Instr.storeAt,Instr.sureAddr,pure_bind,Vt,z];rfl
end
end Go.Sw
namespace Go.Sw
section
variable {P:Program} {o:Oper} {env:Env} {H:Qd} {fr ro:Nat->Prop} {σ:Sig} {w:World}
theorem Ext.heap{w':World}(h:w'.heap=w.heap):Ext ro σ w ro σ w':=
 ⟨λ_ q=>q,λb _=>by rw[h],λb x q=>by unfold World.shape? at q⊢;rw[h];exact q,λ_ _ q=>q⟩
theorem Sim.heap{w':World}(s:Sim fr ro σ H w)(h:w'.heap=w.heap):Sim fr ro σ H w':=
 ⟨s.len,s.roOk.to (λ_ q=>q) (λb _=>by rw[h]) (λb q=>by rw[h];exact s.roLt b q),λb q=>by rw[h];exact s.frLt b q,s.roFr,λi b x q1 q2 q3=>by rw[h];exact s.own i b x q1 q2 q3,s.inj,
  λi y x q1 q2=>(s.blk i y x q1 q2).keep (Ext.heap h) (λb _ _=>by rw[h]) (λb c _ _=>by rw[h]),
  s.hidTo (· = ·) Q0 (by rw[h];exact XZ _) (λ_ _ _ _ _ _ _ q=>q) (λ_ _ _ _ _ _ _ q=>q) λj d y g1 g2 g3=>.inl ⟨j,y,rfl,g1,g2,id,λc q=>q.keep (by rw[h])⟩⟩
theorem Qh.heap{w':World}(h:w'.heap=w.heap)(ho:w'.os=w.os)(ht:w'.tape=w.tape)(hu:w'.output=w.output)(hd:w.drawn<=w'.drawn):Qh fr ro w ro w':=
 ⟨λ_ q=>q,λb _=>by rw[h],λb _=>by rw[h],by rw[h];exact XZ _,λb x q=>by unfold World.shape? at q⊢;rw[h];exact q,ho,ht,hu,hd⟩
theorem Sim.moved(s:Sim fr ro σ H w){i:Nat}{x:Blk}{y:Option Nat}(hH:H[i]?=some x)(hσ:σ[i]?=some y):Sim fr ro (σ++[y]) (H.set i .dead++[x]) w:=by
 have G:=s.len;have N:i<H.length:=(XR.1 hH).1;have a:∀(j:Nat) (z:Option Nat) (v:Blk),(σ++[y])[j]?=some z->(H.set i .dead++[x])[j]?=some v->v≠ .dead->
   (j<σ.length/\j≠i/\σ[j]?=some z/\H[j]?=some v)\/(j=σ.length/\z=y/\v=x):=by
  intro j z v g f n;rcases Nat.lt_trichotomy j σ.length with q|q|q
  .rw[XS q]at g;rw[XS (by rw[X9];omega)]at f;by_cases e:j=i
   .subst e;rw[Xa N]at f;cases f;exact absurd rfl n
   .rw[XV (λq=>e q.symm)]at f;exact .inl ⟨q,e,g,f⟩
  .subst q;have m:(σ++[y])[σ.length]?=some y:=by simp
   have O:(H.set i .dead++[x])[σ.length]?=some x:=by rw[G,show H.length=(H.set i .dead).length from by simp];simp
   rw[m]at g;rw[O]at f;cases g;cases f;exact .inr ⟨rfl,rfl,rfl⟩
  .rw[XU (by simp;omega)]at g;simp at g
 have hσ':∀(j:Nat) (b:Nat),σ[j]?=some (some b)->(σ++[y])[j]?=some (some b):=λj b h=>YL h;have ext:Ext ro σ w ro (σ++[y]) w:=⟨λ_ q=>q,λ_ _=>rfl,λ_ _ q=>q,hσ'⟩;refine⟨by simp[G],s.roOk,s.frLt,s.roFr,?_,?_,?_,s.hidTo (λj F=>(j<σ.length/\j≠i/\F=j)\/(j=σ.length/\F=i)) (by omega) (XZ _) (λ_ _ _ _ _ _ _ q=>q) (λ_ _ _ _ _ _ _ q=>q) λj d y M P Q=>.inl ?_⟩
 rotate_left 3
 .rcases a j _ y M P (QeL Q)with⟨B,u,l,k⟩|⟨B,m,rfl⟩
  .exact⟨j,y,.inl ⟨B,u,rfl⟩,l,k,id,λ_ q=>q⟩
  .subst m;exact⟨i,y,.inr ⟨B,rfl⟩,hσ,hH,id,λ_ q=>q⟩
 .intro j b v g f n;rcases a j _ v g f (Qay n)with⟨_,_,l,k⟩|⟨_,m,rfl⟩
  .exact s.own j b v l k n
  .subst m;exact s.own i b v hσ hH n
 .intro j E b v t g f n R r p;rcases a j _ v g n (Qay r)with⟨_,T,l,k⟩|⟨V,m,L⟩<;>rcases a E _ t f R (Qay p)with⟨_,n1',q1',q2'⟩|⟨r1',e1',r2'⟩
  .exact s.inj j E b v t l q1' k q2' r p
  .subst e1' r2';exact(T (s.inj j i b v t l hσ k hH r p)).elim
  .subst m L;exact(n1' (s.inj E i b t v q1' hσ q2' hH p r)).elim
  .rw[V,r1']
 .intro j z v g f;by_cases J:v≠ .dead
  .rcases a j z v g f J with⟨_,_,l,k⟩|⟨_,rfl,rfl⟩
   .exact(s.blk j z v l k).keep ext (λ_ _ _=>rfl) (λ_ _ _ _=>rfl)
   .exact(s.blk i _ _ hσ hH).keep ext (λ_ _ _=>rfl) (λ_ _ _ _=>rfl)
  .obtain rfl:v=.dead:=Classical.not_not.1 J;trivial
def Src(P:Program)(H:Qd)(x:A)(k:Nat)(es:List (List A)):Prop:=
 ∀fr ro σ w v,Sim fr ro σ H w->VR ro σ w x v->(∃a c,v=.slice a es.length c)/\allK k es/\
  ∃l,(∀w':World,w'.heap=w.heap->(Builtin.firstCells k es.length v).run P w'=.ok l.toArray w')/\LR ro [] w es.flatten l/\ ∀v∈l,Qp v
theorem RR.flat{b k:Nat}:∀{es:List (List A)} {off:Nat},RR ro σ w b k es off->CR ro σ w b es.flatten off/\allK k es/\es.flatten.length=es.length*k
 |[],off,_=>⟨trivial,trivial,by simp⟩
 |c::es,off,⟨h1,h2,h3⟩=>by
  obtain⟨q1,q2,q3⟩:=RR.flat h3;refine⟨?_,⟨h1,q2⟩,by simp[q3,h1,Xm,Nat.add_comm]⟩;rw[Vs];have:∀(c:List A) (off:Nat) (d:List A),CR ro σ w b c off->CR ro σ w b d (off+c.length)->CR ro σ w b (c++d) off:=by
   intro c
   induction c with
   |nil=>intro off d _ h;simpa using h
   |cons x c a=>intro off d ⟨h1,h2⟩ h;exact⟨h1,a (off+1) d h2 (by rw[Nat.add_assoc,Nat.add_comm 1];simpa using h)⟩
  exact this c off _ h2 (by rw[h1];exact q1)
theorem Qcb{b off k n c:Nat}{cs:List A}(h:CR ro σ w b cs off)(g:cs.length=n*k):
  ∃l,(∀w':World,w'.heap=w.heap->(Builtin.firstCells k n (.slice (some ⟨b,off,none⟩) n c)).run P w'=.ok l.toArray w')/\LR ro σ w cs l/\ ∀v∈l,Qp v:=by
 obtain⟨l,f,e,a⟩:=YI (P:=P) (cs:=cs) (off:=off) 0 (by simpa using h);refine⟨l,λw' d=>?_,f,e⟩;rw[g]at a;simp only[Builtin.firstCells,loadCells];simpa using a w' #[] d
theorem Y2{k c:Nat}{a:Option Addr}:(Builtin.firstCells k 0 (.slice a 0 c)).run P w=.ok #[] w:=by
 cases a<;>simp[Builtin.firstCells,loadCells,loadCellsFrom,go_sem]
theorem Src.rsl{k:Nat}{es:List (List A)}:Src P H (.rsl k es) k es:=by
 intro l i σ w v s ⟨a,c,h1,h2,h3⟩;subst h1;refine⟨⟨a,c,rfl⟩,?_⟩;rcases h3 with rfl|⟨b,h,rfl,j,d⟩
 .exact⟨trivial,[],λ_ _=>Y2,rfl,by simp⟩
 .obtain⟨f,e,g⟩:=d.flat;exact⟨e,Qcb f g⟩
theorem Src.nils{k:Nat}:Src P H .nils k []:=by
 intro a b σ w v s h;simp only[VR]at h;subst h;exact⟨⟨none,0,rfl⟩,trivial,[],λ_ _=>Y2,rfl,by simp⟩
theorem RR.drop{b k:Nat}:∀(n:Nat) {es:List (List A)} {off:Nat},RR ro σ w b k es off->RR ro σ w b k (es.drop n) (off+n*k)
 |0,_,_,h=>by simpa using h
 |n+1,[],_,_=>trivial
 |n+1,c::es,off,⟨h1,h2,h3⟩=>by
  have:=RR.drop n h3;rw[show off+(n+1)*k=off+k+n*k from by rw[Xm];omega];exact this
theorem RR.take{b k:Nat}:∀(n:Nat) {es:List (List A)} {off:Nat},RR ro σ w b k es off->RR ro σ w b k (es.take n) off
 |0,_,_,h=>trivial
 |n+1,[],_,_=>trivial
 |n+1,c::es,off,⟨h1,h2,h3⟩=>⟨h1,h2,RR.take n h3⟩
theorem Src.osl{i s n k t:Nat}{es es':List (List A)}(hH:H[i]?=some (.row t k es))(he:(es.drop s).take n=es')(z:s+n<=es.length):Src P H (.osl i s n k) k es':=by
 intro J B σ w v sm h;have d:es'.length=n:=by rw[<- he];simp;omega
 rcases h with⟨rfl,rfl⟩|⟨b,p,a,F,m,q,rfl,x,E,G,y⟩
 .have e:es'=[]:=VP.1 d;subst e;exact⟨⟨none,0,rfl⟩,trivial,[],λ_ _=>Y2,rfl,by simp⟩
 .rw[d];refine⟨⟨_,a,rfl⟩,?_⟩;obtain⟨l,g,f⟩:=sm.blk i _ _ q hH;have j:=((YV (pre:=[]) (by simpa using g) f).drop s).take n;rw[he]at j;by_cases r:0<a
  .obtain rfl:=x r;obtain⟨g,f,u⟩:=j.flat;refine⟨f,?_⟩;have:=Qcb (P:=P) (n:=n) (c:=a) g (by rw[u,d]);simpa using this
  .obtain rfl:n=0:=by omega
   have e:es'=[]:=VP.1 d;subst e;exact⟨trivial,[],λ_ _=>Y2,rfl,by simp⟩
def Qt:Nat:=4294967296
theorem Qeq(n c:Nat)(h:c<n):Builtin.nextslicecap n c<=4*n+1000:=by
 unfold Builtin.nextslicecap;split
 .omega
 .split
  .omega
  .have a:∀(r c:Nat),c<=2*n+400->Builtin.growBy n r c<=4*n+1000:=by
    intro r
    induction r with
    |zero=>intro c b;simp[Builtin.growBy];omega
    |succ r d=>
     intro c b;simp only[Builtin.growBy];split
     .omega
     .exact d _ (by omega)
   exact a 4 c (by omega)
structure QV (P:Program) (T e k:Nat):Prop where
 sl:∀w,(underlying T).run P w=.ok (.slice e) w
 size:∀w,(sizeOf e).run P w=.ok k w
 zero:∃z,(∀w,(zeroValue e).run P w=.ok z w)/\z.cells.size=k
 bytes:∃i,(∀w,(typeInfo e).run P w=.ok i w)/\i.bytes<=4096
theorem Qjq{T k:Nat}{es:List (List A)}{l rest:List Value}(s:Sim fr ro σ H w)(hk:allK k es)(h:LR ro [] w es.flatten l)(hp:∀v∈l,Qp v):
  Sim fr ro (σ++[some w.heap.size]) (H++[.row T k es]) (w.alloc (.cells (l++rest).toArray T))/\Qh fr ro w ro (w.alloc (.cells (l++rest).toArray T)):=
 ⟨s.allocRow hk h hp,Qh.alloc _ s.roLt s.frLt⟩
theorem Yz{k:Nat}:∀{es:List (List A)},allK k es->es.flatten.length=es.length*k
 |[],_=>by simp
 |c::es,⟨h1,h2⟩=>by simp[Yz h2,h1,Xm,Nat.add_comm]
theorem Qei{k:Nat}:∀{es fs:List (List A)},allK k es->allK k fs->allK k (es++fs)
 |[],_,_,h=>h
 |c::es,_,⟨h1,h2⟩,h=>⟨h1,Qei h2 h⟩
theorem Qg4{k:Nat}:∀{es:List (List A)} (n:Nat),allK k es->allK k (es.take n)
 |_,0,_=>trivial
 |[],n+1,_=>trivial
 |c::es,n+1,⟨h1,h2⟩=>⟨h1,Qg4 n h2⟩
theorem RL.allK{k:Nat}:∀{es:List (List A)} {l:List Value},RL ro σ w k es l->allK k es
 |[],_,_=>trivial
 |c::es,l,⟨l1,l2,h1,h2,h3,h4⟩=>⟨h2,RL.allK h4⟩
theorem RL.app{k:Nat}:∀{n:Nat} {es fs:List (List A)} {l m:List Value},RL ro σ w k es l->n<=es.length->Sw.allK k fs->LR ro σ w fs.flatten m->(∀v∈m,Qp v)->
  RL ro σ w k (es.take n++fs) (Sw.splice l (n*k) m)
 |0,es,fs,l,m,h,hn,hk,hm,hp=>by
  simp only[List.take_zero,Vn,Nat.zero_mul];unfold Sw.splice;simp only[List.take_zero,Vn];exact Y7 hk hm hp
 |n+1,[],fs,l,m,h,hn,hk,hm,hp=>by simp at hn
 |n+1,c::es,fs,l,m,⟨l1,l2,h1,h2,h3,h4⟩,hn,hk,hm,hp=>by
  subst h1;have hl1:=h3.1.length;refine⟨l1,Sw.splice l2 (n*k) m,?_,h2,h3,RL.app h4 (by simpa using hn) hk hm hp⟩;have e1:(n+1)*k=l1.length+n*k:=by rw[Xm];omega
  unfold Sw.splice;rw[e1,Vh,show l1.length+n*k+m.length=l1.length+(n*k+m.length)from by omega,Vg];simp
theorem Qig{T T' e e' k need cap:Nat}{t:TypeId}(E:QV P T e k)(N:∀w,(underlying T').run P w=.ok (.slice e') w){ad:Option Addr}{n m c:Nat}{ax:Option Addr}
  (f:need=n+m)(g:cap<need)(a:need<=Qt){old new:List Value}
  (s:∀w':World,w'.heap=w.heap->(Builtin.firstCells k m (.slice ax m c)).run P w'=.ok new.toArray w')(r:∀w':World,w'.heap=w.heap->(Builtin.firstCells k n (.slice ad n cap)).run P w'=.ok old.toArray w'):
  ∃(rest:List Value) (b:Nat),(need<=b/\b<=9223372036854775807)/\rest.length=(b-need)*k/\(Builtin.append_ #[T,T'] t #[.slice ad n cap,.slice ax m c]).run P w=
   .ok (.slice (some ⟨w.heap.size,0,none⟩) need b) (({w with drawn:=w.drawn+1}:World).alloc (.cells ((old++new)++rest).toArray e)):=by
 obtain⟨z,B,p⟩:=E.zero;obtain⟨i,M,L⟩:=E.bytes
 let b:=need+w.tape w.drawn (.appendCap need cap e)%(2^63-need)
 refine⟨(Builtin.zeroCells z.cells (b-need)).toList,b,⟨Nat.le_add_right _ _,by
  have:=Nat.mod_lt (w.tape w.drawn (.appendCap need cap e)) (show 0<2^63-need by unfold Qt at a;omega);show need+_%(2^63-need)<=_;omega⟩,by simp[Builtin.zeroCells,p],?_⟩
 have d:¬(need<=cap):=by omega
 have y:¬((need:Int)>IntKind.i64.max/\(False\/i.bytes=0)):=by
  rintro⟨q,_⟩;have:IntKind.i64.max=9223372036854775807:=by decide
  rw[this]at q;unfold Qt at a;omega
 have H:¬(Builtin.nextslicecap need cap*i.bytes>2^48):=by
  have:=Qeq need cap g;have u:Builtin.nextslicecap need cap*i.bytes<=(4*need+1000)*4096:=Nat.mul_le_mul this L;unfold Qt at a;omega
 generalize hF:Builtin.firstCells=F at s r;unfold Builtin.append_;rw[hF];have j:∀W:World,(choose (.appendCap need cap e)).run P W=.ok (need+W.tape W.drawn (.appendCap need cap e)%(2^63-need)) {W with drawn:=W.drawn+1}:=by
  intro W;simp[choose,Sem.run,Question.forced,Question.cut]
 have l:∀(x:Nat) (W:World),(askRoom x).run P W=.ok () W:=by
  intro x W;unfold askRoom;split<;>rfl
 have h:∀(c:Array Value) (W:World),(newRow e c).run P W=.ok ⟨W.heap.size,0,none⟩ (W.alloc (.cells c e)):=λc W=>rfl;subst f;simp only[not_and,false_or]at y;have u:¬(((n+m:Nat):Int)>IntKind.i64.max/\(False\/i.bytes=0)):=by simpa using y
 simp only[XM,XK,XL,Vt,E.sl,E.size,N,M,B,Result.andThen,Builtin.lenOf,Vu,Xi,if_false,XN,
  Xh,if_true,Vy d,Vy u,Vy H,j,l]
 have G:=r {w with drawn:=w.drawn+1} rfl;have O:=s {w with drawn:=w.drawn+1} rfl;simp only[G,O,h];have J:old.toArray++new.toArray++Builtin.zeroCells z.cells (b-(n+m))=((old++new)++(Builtin.zeroCells z.cells (b-(n+m))).toList).toArray:=by
  apply Xy.1;simp
 rw[<- J]
theorem QcW{T T' e e' k cap:Nat}{t:TypeId}(E:QV P T e k)(f:∀w,(underlying T').run P w=.ok (.slice e') w){ad:Option Addr}{n m c:Nat}{ax:Option Addr}
  (b:n+m<=cap){new:List Value}(d:(Builtin.firstCells k m (.slice ax m c)).run P w=.ok new.toArray w):
  (Builtin.append_ #[T,T'] t #[.slice ad n cap,.slice ax m c]).run P w=
   match ad with
   |some a=>(do storeCells (a.add (n*k)) new;pure (Value.slice ad (n+m) cap):Sem Value).run P w
   |none=>.ok (.slice ad (n+m) cap) w:=by
 generalize hF:Builtin.firstCells=F at d;unfold Builtin.append_;rw[hF];simp only[XM,XK,XL,Vt,E.sl,E.size,f,Result.andThen,Builtin.lenOf,Vu,Xi,if_false,XN,
  Xh,if_true,Vz b,d]
 cases ad with
 |none=>rfl
 |some a=>simp only[Vt,Result.andThen,Vu]
theorem Sim.weaken(s:Sim fr ro σ H w){i:Nat}{x x':Blk}(hH:H[i]?=some x)(hl:x.live=true)(n:∀y,BR ro σ w x y->BR ro σ w x' y)
  (r:∀b c,Hid w x' b c->Hid w x b c:=by exact λ_ _ h=>h.elim):Sim fr ro σ (H.set i x') w:=by
 have M:i<H.length:=(XR.1 hH).1;have m:(H.set i x')[i]?=some x':=Xa M;have z:∀j,j≠i->(H.set i x')[j]?=H[j]? :=λj T=>XV (λq=>T q.symm);have a:∀(j:Nat) (v:Blk),(H.set i x')[j]?=some v->(j=i/\v=x')\/(j≠i/\H[j]?=some v):=by
  intro j v h;by_cases e:j=i
  .subst e;rw[m]at h;cases h;exact .inl ⟨rfl,rfl⟩
  .rw[z j e]at h;exact .inr ⟨e,h⟩
 have E:∀(j:Nat) (v:Blk),(H.set i x')[j]?=some v->v.live=true->∃g,H[j]?=some g/\g.live=true:=by
  intro j v h P;rcases a j v h with⟨rfl,rfl⟩|⟨_,h⟩
  .exact⟨x,hH,hl⟩
  .exact⟨v,h,P⟩
 refine⟨by rw[X9];exact s.len,s.roOk,s.frLt,s.roFr,?_,?_,?_,s.hidTo (· = ·) Q0 (XZ _) (λ_ _ _ _ _ _ _ q=>q) (λ_ _ _ _ _ _ _ q=>q) λj d y G N V=>.inl ?_⟩
 rotate_left 3
 .rcases a j y N with⟨rfl,rfl⟩|⟨_,h⟩
  .exact⟨j,x,rfl,G,hH,λ_=>hl,λc q=>r d c q⟩
  .exact⟨j,y,rfl,G,h,id,λ_ q=>q⟩
 .intro j b v f k F;obtain⟨g,t,p⟩:=E j v k F;exact s.own j b g f t p
 .intro j J b v g f k F R Q O;obtain⟨u,t,p⟩:=E j v F Q;obtain⟨L,l,B⟩:=E J g R O;exact s.inj j J b u L f k t l p B
 .intro j y v f k;rcases a j v k with⟨rfl,rfl⟩|⟨_,h⟩
  .exact n y (s.blk j y x f hH)
  .exact s.blk j y v f h
theorem RL.take{k:Nat}:∀(n:Nat) {es:List (List A)} {l:List Value},RL ro σ w k es l->RL ro σ w k (es.take n) l
 |0,_,_,_=>trivial
 |n+1,[],_,_=>trivial
 |n+1,c::es,l,⟨l1,l2,h1,h2,h3,h4⟩=>⟨l1,l2,h1,h2,h3,RL.take n h4⟩
theorem Y3{c:Call}{T T':TypeId}{x y:Operand}(b:o.op=.call c)(a:c={callee:=.builtin .append,args:= #[x,y],argTypes:= #[T,T']})(ρ:Operand->Value){v:Value}{w':World}
  (h:(Builtin.append_ #[T,T'] o.type #[ρ x,ρ y]).run P w=.ok v w'):(execOp ρ o).run P w=.ok (.value v) w':=by
 subst a;simp only[execOp,b,resolve,invoke,Go.builtin,Vt,Vu,Result.andThen];simp only[XO,Vq,Vr,h]
theorem Sim.phantom(s:Sim fr ro σ H w)(t k:Nat):Sim fr ro (σ++[none]) (H++[.row t k []]) w:=by
 have g:=s.len;have f:∀(i b:Nat),(σ++[none])[i]?=some (some b)->i<σ.length:=by
  intro i b a;rcases VI i σ.length with q|q
  .exact q
  .rw[XT q]at a;cases n:i-σ.length with
   |zero=>rw[n]at a;simp at a
   |succ j=>rw[n]at a;simp at a
 refine⟨by simp[g],s.roOk,s.frLt,s.roFr,?_,?_,?_,s.hidTo (· = ·) Q0 (XZ _) (λ_ _ _ _ _ _ _ q=>q) (λ_ _ _ _ _ _ _ q=>q) λj d y a e l=>.inl ?_⟩
 rotate_left 3
 .have q:=f j d a;rw[XS q]at a;rw[XS (by omega)]at e;exact⟨j,y,rfl,a,e,id,λ_ q=>q⟩
 .intro i b z a e l;have q:=f i b a;rw[XS q]at a;rw[XS (by omega)]at e;exact s.own i b z a e l
 .intro i j b z p a e l m B u;have x:=f i b a;have r:=f j b e;rw[XS x]at a;rw[XS r]at e;rw[XS (by omega)]at l m;exact s.inj i j b z p a e l m B u
 .intro i y z a e;have ext:Ext ro σ w ro (σ++[none]) w:=⟨λ_ q=>q,λ_ _=>rfl,λ_ _ q=>q,λ_ _ h=>YL h⟩;rcases Nat.lt_trichotomy i σ.length with q|q|q
  .rw[XS q]at a;rw[XS (by omega)]at e;exact(s.blk i y z a e).keep ext (λ_ _ _=>rfl) (λ_ _ _ _=>rfl)
  .subst q;have E:(σ++[none])[σ.length]?=some none:=by simp
   have F:(H++[Blk.row t k []])[σ.length]?=some (.row t k []):=by rw[g];simp
   rw[E]at a;rw[F]at e;cases a;cases e;rfl
  .rw[XU (by simp;omega)]at a;simp at a
theorem Sim.kill(s:Sim fr ro σ H w)(i:Nat):Sim fr ro σ (H.set i .dead) w:=by
 have a:∀(j:Nat) (v:Blk),(H.set i .dead)[j]?=some v->v≠ .dead->H[j]?=some v:=by
  intro j v h k;by_cases e:j=i
  .subst e;rw[Xb]at h;simp only[if_true]at h;split at h
   .cases h;exact absurd rfl k
   .simp at h
  .rw[XV (λq=>e q.symm)]at h;exact h
 refine⟨by rw[X9];exact s.len,s.roOk,s.frLt,s.roFr,?_,?_,?_,s.hidTo (· = ·) Q0 (XZ _) (λ_ _ _ _ _ _ _ q=>q) (λ_ _ _ _ _ _ _ q=>q) λj d y z u t=>.inl ⟨j,y,rfl,z,a j y u (QeL t),id,λ_ q=>q⟩⟩
 .intro j b v f g l;exact s.own j b v f (a j v g (Qay l)) l
 .intro j m b v p f g l x n r;exact s.inj j m b v p f g (a j v l (Qay n)) (a m p x (Qay r)) n r
 .intro j y v f g;by_cases k:v≠ .dead
  .exact s.blk j y v f (a j v g k)
  .obtain rfl:v=.dead:=Classical.not_not.1 k;trivial
theorem grown{c:Call}{T T' e e' k n m cap cx:Nat}{x y:Operand}{es fs:List (List A)}{a:Act}{ad ax:Option Addr}{old new:List Value}(E:QV P T e k)(hd:∀w,(underlying T').run P w=.ok (.slice e') w)(O:o.op=.call c)
  (hc:c={callee:=.builtin .append,args:= #[x,y],argTypes:= #[T,T']})(Q:a.eval x=.slice ad n cap)(W:a.eval y=.slice ax m cx)(s:Sim fr ro σ H w)(i:cap<n+m)(p:n+m<=Qt)
  (r:∀w':World,w'.heap=w.heap->(Builtin.firstCells k n (.slice ad n cap)).run P w'=.ok old.toArray w')(f:∀w':World,w'.heap=w.heap->(Builtin.firstCells k m (.slice ax m cx)).run P w'=.ok new.toArray w')
  (g:LR ro [] w es.flatten old)(G:∀v∈old,Qp v)(j:allK k es)(h:LR ro [] w fs.flatten new)(z:∀v∈new,Qp v)(d:allK k fs)(L:es.length=n)(B:fs.length=m):
  ∃v w' ro' τ,(execOp a.eval o).run P w=.ok (.value v) w'/\VR ro' (σ++τ) w' (.osl H.length 0 (n+m) k) v/\Sim fr ro' (σ++τ) (H++[.row e k (es++fs)]) w'/\Qh fr ro w ro' w':=by
 obtain⟨rest,V,u,J,l⟩:=Qig (t:=o.type) E hd rfl i p f r
 let w0:World:={w with drawn:=w.drawn+1}
 have X:Sim fr ro σ H w0:=s.heap rfl;have e0:Qh fr ro w ro w0:=Qh.heap rfl rfl rfl rfl (Nat.le_succ _);have F:LR ro [] w0 (es++fs).flatten (old++new):=by
  rw[Xu];exact(g.append h).mono (Ext.heap (w:=w) (w':=w0) rfl)
 obtain⟨s1,R⟩:=Qjq (T:=e) (rest:=rest) X (Qei j d) F (λv Y=>by rcases VJ.1 Y with q|q;exact G v q;exact z v q);have b:(execOp a.eval o).run P w=.ok (.value _) _:=Y3 O hc a.eval (by rw[Q,W];exact l);refine⟨_,_,ro,[some w.heap.size],b,.inr ⟨w.heap.size,0,V,e,(old++new++rest).length,?_,rfl,λ_=>by simp,u,?_,?_⟩,s1,e0.trans R⟩
 .rw[<- s.len];simp
 .have:=Q6 w0 (.cells ((old++new)++rest).toArray e);unfold World.shape?;rw[show w.heap.size=w0.heap.size from rfl,this];simp
 .have M:=g.length;have N:=h.length;rw[Yz j]at M;rw[Yz d]at N;simp only[X8,J,M,N,L,B,XA];rw[<- XF, <- XF];exact XH k (by omega)
theorem Qgj{c:Call}{T T' e e' k:Nat}{x y:Operand}{ya:A}{fs:List (List A)}(E:QV P T e k)(q:∀w,(underlying T').run P w=.ok (.slice e') w)(h:o.op=.call c)
  (p:c={callee:=.builtin .append,args:= #[x,y],argTypes:= #[T,T']})(G:opA env x=.nils)(F:opA env y=ya)(z:Src P H ya k fs)(s:fs.length<=Qt):
  OpH P o env H (.osl H.length 0 fs.length k) (H++[.row e k fs]):=by
 intro O i σ N a w r;have b:=Qg r x;rw[G]at b;simp only[VR]at b;have j:=Qg r y;rw[F]at j;obtain⟨⟨M,u,f⟩,L,l,g,Q,B⟩:=z O i σ w _ r.sim j;rw[f]at g;by_cases J:fs.length=0
 .have d:fs=[]:=VP.1 J;subst d;refine⟨.slice none 0 0,w,i,[none],?_,.inl ⟨rfl,rfl⟩,r.sim.phantom e k,Qh.refl _ _ _⟩;refine Y3 h p _ ?_;rw[b,f];have:=QcW (t:=o.type) E q (ad:=none) (n:=0) (m:=0) (cap:=0) (c:=u) (ax:=M) (XZ 0) (g w rfl);simpa using this
 .have:=grown (es:=[]) (old:=[]) E q h p b f r.sim (by omega) (by omega) (λ_ _=>Y2) g rfl (by simp) trivial Q B L rfl rfl;simpa using this
theorem Qjn{c:Call}{T T' e e' k i n:Nat}{x y:Operand}{ya:A}{es fs gs:List (List A)}(E:QV P T e k)(hd:∀w,(underlying T').run P w=.ok (.slice e') w)(L:o.op=.call c)
  (V:c={callee:=.builtin .append,args:= #[x,y],argTypes:= #[T,T']})(hx:opA env x=.osl i 0 n k)(hH:H[i]?=some (.row e k es))(hn:n<=es.length)(z:opA env y=ya)(hs:Src P H ya k fs)(j:n+fs.length<=Qt)
  (hg:es.take n++fs=gs):OpH P o env H (.osl H.length 0 (n+fs.length) k) (H.set i .dead++[.row e k gs]):=by
 intro fr G σ N a w r;subst hg;have g:=Qg r x;rw[hx]at g;have h2:=Qg r y;rw[z]at h2;obtain⟨⟨ay,cy,J⟩,q2,l,Q,q4,q5⟩:=hs fr G σ w _ r.sim h2;rw[J]at Q;have B:i<H.length:=(XR.1 hH).1;have R:(H.set i .dead).length=H.length:=X9;obtain⟨s,hσ⟩:∃s,σ[i]?=some s:=⟨_,XQ (by rw[r.sim.len];exact B)⟩;rcases g with⟨rfl,g⟩|⟨b,p,cap,t',mm,X,g,h4,h5,W,h7⟩
 ·
  by_cases hm:fs.length=0
  .have q:fs=[]:=VP.1 hm;subst q;refine⟨.slice none 0 0,w,G,[none],?_,.inl ⟨rfl,rfl⟩,(r.sim.kill i).phantom e k,Qh.refl _ _ _⟩;refine Y3 L V _ ?_;rw[g,J];have:=QcW (t:=o.type) E hd (ad:=none) (n:=0) (m:=0) (cap:=0) (c:=cy) (ax:=ay) (XZ 0) (Q w rfl);simpa using this
  .have:=grown (es:=[]) (old:=[]) E hd L V g J (r.sim.kill i) (by omega) j (λ_ _=>Y2) Q rfl (by simp) trivial q4 q5 q2 rfl rfl;rw[R]at this;simpa using this
 .have M:=r.sim.blk i _ _ X hH;obtain⟨lb,O,g2⟩:=M;have Y:(es.take n).length=n:=by simp;omega
  obtain⟨old,o1,o2,o3⟩:∃old:List Value,(∀w':World,w'.heap=w.heap->(Builtin.firstCells k n (.slice (some ⟨b,p,none⟩) n cap)).run P w'=.ok old.toArray w')/\LR G [] w (es.take n).flatten old/\ ∀v∈old,Qp v:=by
   have aa:Src P H (.osl i 0 n k) k (es.take n):=Src.osl hH (by simp) (by omega);obtain⟨_,_,l',z1,z2,z3⟩:=aa fr G σ w (.slice (some ⟨b,p,none⟩) n cap) r.sim (.inr ⟨b,p,cap,t',mm,X,rfl,h4,h5,W,h7⟩);rw[Y]at z1;exact⟨l',z1,z2,z3⟩
  by_cases f:n+fs.length<=cap
  .have h:=QcW (t:=o.type) E hd (ad:=some ⟨b,p,none⟩) (n:=n) (m:=fs.length) (cap:=cap) (c:=cy) (ax:=ay) f (Q w rfl);have F:l.length=fs.length*k:=by rw[q4.length,Yz q2]
   by_cases hm:fs.length=0
   .have q:fs=[]:=VP.1 hm;subst q;have el:l=[]:=VP.1 (by rw[F];simp);subst el;have sw:=(r.sim.weaken (x':=.row e k (es.take n)) hH rfl (by
     intro y z;cases y with
     |none=>simp only[BR]at z⊢;subst z;simp
     |some y=>obtain⟨lb,O,g2⟩:=z;exact⟨lb,O,g2.take n⟩))
    have sm:=sw.moved (i:=i) (Xa B) X;rw[List.set_set]at sm;refine⟨.slice (some ⟨b,p,none⟩) n cap,w,G,[some b],?_,.inr ⟨b,p,cap,t',mm,?_,by simp,h4,by simpa using h5,W,h7⟩,by simpa using sm,Qh.refl _ _ _⟩
    .refine Y3 L V _ ?_;rw[g,J];simpa[storeCells,go_sem]using h
    .rw[<- r.sim.len];simp
   .obtain rfl:p=0*k:=h4 (by omega);have u:(n+fs.length)*k<=lb.length:=by
     have:w.shape? b=some (e,lb.length):=by unfold World.shape?;rw[O];simp
     rw[this]at W;cases W;exact X2 (XH k f) (by simpa using h7)
    rw[XF]at u;have ab:=Yb (P:=P) (vs:=l) (n*k) 0 O (by rw[F];simpa using u) q5;have d:=r.sim.set (x':=.row e k (es.take n++fs)) (obj:=.cells (splice lb (n*k) l).toArray e (0,0)) X hH rfl
     (λy z=>Jt O (Ya (by rw[F];exact u)) y z)
     (λex ac=>⟨_,ac,(g2.app hn q2 q4 q5).mono ex.nil⟩)
    have sm:=d.1.moved (i:=i) (Xa B) X;rw[List.set_set]at sm;refine⟨.slice (some ⟨b,0*k,none⟩) (n+fs.length) cap,_,G,[some b],?_,.inr ⟨b,0*k,cap,t',mm,?_,rfl,h4,⟨f,h5.2⟩,?_,h7⟩,sm,d.2⟩
    .refine Y3 L V _ ?_;rw[g,J,h];simp only[Y4,Nat.zero_mul,XA,Vt,ab,Result.andThen,Vu];simp
    .rw[<- r.sim.len];simp
    .exact d.2.shape _ _ W
  .have:=grown (es:=es.take n) (old:=old) (fs:=fs) E hd L V g J (r.sim.kill i) (by omega) j o1 Q o2 o3 (Qg4 n g2.allK) q4 q5 q2 Y rfl;rw[R]at this;exact this
end
end Go.Sw
namespace Go.Sw
section
variable {P:Program} {o:Oper} {env:Env} {H:Qd}
theorem OpC.fn{c:Call}{f:FuncId}{xs:List Operand}{g:Array TypeId}{args:List A}(b:∀(a:Array Value) (w:World),(callFunc f a).run P w=.ok (.enter f a) w)(h:o.op=.call c)
  (d:c={callee:=.value (.func f),args:=xs.toArray,argTypes:=g})(i:xs.map (opA env)=args):OpC P o env H f args:=by
 intro j k σ N a w r;refine⟨xs.map a.eval,?_,i▸Qbm r xs⟩;subst d;have e:a.eval (.func f)=.func (.func f) #[] #[]:=rfl;generalize a.eval=ρ at*;simp only[execOp,h,resolve,e,Deferred.ofValue,invoke,Vt,Vu,Result.andThen,b];simp
theorem QaJ{c:Call}{f:FuncId}{x:Operand}{xs:List Operand}{e:Array TypeId}{args vf vc:List A}(b:∀(a:Array Value) (w:World),(callFunc f a).run P w=.ok (.enter f a) w)(g:o.op=.call c)
  (k:c={callee:=.value x,args:=xs.toArray,argTypes:=e})(m:opA env x=.fn (.func f) vf vc)(i:vf++(xs.map (opA env)++vc)=args):OpC P o env H f args:=by
 intro q p σ N a w r;have d:=Qg r x;rw[m]at d;obtain⟨l,h,d,n,j⟩:=d;refine⟨l++(xs.map a.eval++h),?_,i▸n.append ((Qbm r xs).append j)⟩;subst k;generalize a.eval=ρ at*;simp only[execOp,g,resolve,d,Deferred.ofValue,invoke,Vt,Vu,Result.andThen,b];simp
def Qem(ρ:Nat->Nat)(env:Env):Env->Prop
 |[]=>True
 |(s,a)::r=>lk env s=YE ρ a/\Qem ρ env r
theorem Qem.ok{ro:Nat->Prop}{σ σ':Sig}{w:World}{ρ:Nat->Nat}(h:∀i:Nat,σ[ρ i]?=σ'[i]?){t:Array Value}(r:∀s,VR ro σ w (lk env s) (t.getD s undef)):
  ∀{env':Env},Qem ρ env env'->∀s,VR ro σ' w (lk env' s) (t.getD s undef)
 |[],_,s=>trivial
 |(d,a)::e,⟨h1,h2⟩,s=>by
  simp only[lk];by_cases q:s=d
  .subst q;rw[VL];have:=r s;rw[h1]at this;exact(QdQ h).1 this
  .have:Nat.beq s d=false:=by
    rw[VT];intro b;exact q (XW b)
   rw[this];exact Qem.ok h r h2 s
theorem Sim.sub{fr ro:Nat->Prop}{σ:Sig}{w:World}{π:List Nat}{H':Qd}(s:Sim fr ro σ H w)(hH:π.map (λp=>H[p]?)=(H'.map (QX (rho π H.length))).map some)(hπ:π.Nodup):
  Sim fr ro (Yh σ π) H' w/\ ∀j:Nat,σ[rho π H.length j]?=(Yh σ π)[j]? :=by
 have O:∀p∈π,p<H.length:=λp q=>Jk hH q;have hσl:=s.len;have k:∀(j p:Nat),π[j]?=some p->H[p]?=(H'[j]?).map (QX (rho π H.length)):=by
  intro j p a;have:=congrArg (λl=>l[j]?) hH;simp only[Xq,a,Xj]at this;cases e:H'[j]? with
  |none=>rw[e]at this;simp at this
  |some x=>rw[e]at this;simpa using this
 have z:π.length=H'.length:=by simpa using congrArg List.length hH
 have hσc:∀j:Nat,σ[rho π H.length j]?=(Yh σ π)[j]? :=by
  intro j;have:=Qew (τ:=[]) hσl O j;simpa using this
 have hπj:∀(j b:Nat),(Yh σ π)[j]?=some (some b)->∃p,π[j]?=some p/\σ[p]?=some (some b):=by
  intro j b a;simp only[Yh,Xq]at a;cases e:π[j]? with
  |none=>rw[e]at a;simp at a
  |some p=>
   rw[e]at a;simp at a;refine⟨p,rfl,?_⟩;cases m:σ[p]? with
   |none=>rw[m]at a;simp at a
   |some s=>rw[m]at a;simp at a;rw[a]
 have hπi:∀(i j p:Nat),π[i]?=some p->π[j]?=some p->i=j:=by
  intro i j p g f;have n:i<π.length:=(XR.1 g).1;have a:j<π.length:=(XR.1 f).1;rw[XQ n]at g;rw[XQ a]at f;have h:=(X5 g).trans (X5 f).symm;rcases Nat.lt_trichotomy i j with q|q|q
  .exact(VK.1 hπ i j n a q h).elim
  .exact q
  .exact(VK.1 hπ j i a n q h.symm).elim
 refine⟨⟨by simp[Yh,z],s.roOk,s.frLt,s.roFr,?_,?_,?_,s.hidTo (λj p=>π[j]?=some p) hπi (XZ _) (λ_ _ _ _ _ _ _ q=>q) (λ_ _ _ _ _ _ _ q=>q) λj d y L N Q=>.inl ?_⟩,hσc⟩
 rotate_left 3
 .obtain⟨p,g,m⟩:=hπj j d L;exact⟨p,QX (rho π H.length) y,g,m,by rw[k j p g,N];rfl,by rw[QP];exact id,λc q=>(Qan _ _ _ _ _).2 q⟩
 .intro j b x r u E;obtain⟨p,g,m⟩:=hπj j b r;have t:H[p]?=some (QX (rho π H.length) x):=by rw[k j p g,u];rfl
  exact s.own p b _ m t (by rw[QP];exact E)
 .intro i j b x y r u E P J M;obtain⟨p,g,m⟩:=hπj i b r;obtain⟨G,f,B⟩:=hπj j b u;have t:H[p]?=some (QX (rho π H.length) x):=by rw[k i p g,E];rfl
  have F:H[G]?=some (QX (rho π H.length) y):=by rw[k j G f,P];rfl
  have:=s.inj p G b _ _ m B t F (by rw[QP];exact J) (by rw[QP];exact M);subst this;have n:i<π.length:=(XR.1 g).1;have a:j<π.length:=(XR.1 f).1;rw[XQ n]at g;rw[XQ a]at f;have h:=(X5 g).trans (X5 f).symm;rcases Nat.lt_trichotomy i j with q|q|q
  .exact(VK.1 hπ i j n a q h).elim
  .exact q
  .exact(VK.1 hπ j i a n q h.symm).elim
 .intro j y x r u;have a:j<π.length:=by
   rcases VI j π.length with q|q
   .exact q
   .rw[XU (by simpa[Yh]using q)]at r;simp at r
  have g:π[j]?=some π[j]:=XQ a;have t:H[π[j]]?=some (QX (rho π H.length) x):=by rw[k j _ g,u];rfl
  have m:σ[π[j]]?=some y:=by
   have:=hσc j;rw[r]at this;simpa[rho,g]using this
  exact(Qh6 hσc).1 (s.blk _ y _ m t)
theorem QoI{h0:Nat}{env':Env}{H':Qd}(π:List Nat)(b:π.take h0=List.range h0)(hH:π.map (λp=>H[p]?)=(H'.map (QX (rho π H.length))).map some)(hπ:π.Nodup)
  (hE:Qem (rho π H.length) env env'):Le h0 env H env' H':=by
 intro k h σ N a w r;obtain⟨f,hσ⟩:=r.sim.sub hH hπ;refine⟨h,Yh σ π,⟨f,Qem.ok hσ r.env hE,r.size,r.defers⟩,λ_ q=>q,?_⟩;have e:=r.sim.len;have j:∀p∈π,p<H.length:=λp q=>Jk hH q;unfold Yh;rw[<- List.map_take,b];apply List.ext_getElem?;intro i;rcases VI i h0 with q|q
 .have g:i∈π:=List.mem_of_mem_take (i:=h0) (by rw[b];exact List.mem_range.2 q);have d:i<σ.length:=by rw[e];exact j i g
  rw[Xq,List.getElem?_take,Vz q,List.getElem?_range q];simp[XQ d]
 .rw[XU (by simpa using q),List.getElem?_take,Vy (by omega)]
theorem Le.phantom{h0 s k t:Nat}(g:h0<=H.length)(f:lk env s=.nils):Le h0 env H (up env s (.osl H.length 0 0 k)) (H++[.row t k []]):=by
 intro i d σ N a w r;refine⟨d,σ++[none],⟨r.sim.phantom t k,?_,r.size,r.defers⟩,λ_ q=>q,Qw (by rw[r.sim.len];exact g)⟩;have ext:Ext d σ w d (σ++[none]) w:=⟨λ_ q=>q,λ_ _=>rfl,λ_ _ q=>q,λ_ _ h=>YL h⟩;intro b;simp only[lk];by_cases q:b=s
 .subst q;rw[VL];have:=r.env b;rw[f]at this;exact .inl ⟨rfl,this⟩
 .have:Nat.beq b s=false:=by
   rw[VT];intro e;exact q (XW e)
  rw[this];exact(r.env b).mono ext
theorem QpM{h0 s k:Nat}(e:lk env s=.nils):Le h0 env H (up env s (.rsl k [])) H:=by
 intro g f σ N a w r;refine⟨f,σ,⟨r.sim,?_,r.size,r.defers⟩,λ_ q=>q,rfl⟩;intro b;simp only[lk];by_cases q:b=s
 .subst q;rw[VL];have:=r.env b;rw[e]at this;exact⟨none,0,this,XZ _,.inl rfl⟩
 .have:Nat.beq b s=false:=by
   rw[VT];intro d;exact q (XW d)
  rw[this];exact r.env b
mutual
def Yr:A->Bool
 |.bool _=>true
 |.int _ _=>true
 |.str _=>true
 |.tup vs=>Qex vs
 |_=>false
def Qex:List A->Bool
 |[]=>true
 |a::r=>Yr a&&Qex r
end
mutual
theorem VR.scalar{ro ro':Nat->Prop}{σ σ':Sig}{w w':World}:∀{a:A} {v:Value},Yr a=true->VR ro σ w a v->VR ro' σ' w' a v
 |.bool _,_,_,h=>h
 |.int _ _,_,_,h=>h
 |.str _,_,_,h=>h
 |.tup vs,v,hs,h=>by
  simp only[VR,Yr]at h hs⊢;obtain⟨l,h1,h2⟩:=h;exact⟨l,h1,LR.scalar hs h2⟩
 |.any,_,hs,_=>by simp[Yr]at hs
 |.nilp,_,hs,_=>by simp[Yr]at hs
 |.ptr _ _,_,hs,_=>by simp[Yr]at hs
 |.rp _,_,hs,_=>by simp[Yr]at hs
 |.nils,_,hs,_=>by simp[Yr]at hs
 |.rsl _ _,_,hs,_=>by simp[Yr]at hs
 |.osl _ _ _ _,_,hs,_=>by simp[Yr]at hs
 |.agg _,_,hs,_=>by simp[Yr]at hs
 |.fn _ _ _,_,hs,_=>by simp[Yr]at hs
 |.nilf,_,hs,_=>by simp[Yr]at hs
 |.iface _ _,_,hs,_=>by simp[Yr]at hs
 |.nilif,_,hs,_=>by simp[Yr]at hs
 |.map _,_,hs,_=>by simp[Yr]at hs
 |.nilm,_,hs,_=>by simp[Yr]at hs
theorem LR.scalar{ro ro':Nat->Prop}{σ σ':Sig}{w w':World}:∀{az:List A} {l:List Value},Qex az=true->LR ro σ w az l->LR ro' σ' w' az l
 |[],_,_,h=>h
 |a::r,l,hs,h=>by
  simp only[LR,Qex,X3]at h hs⊢;obtain⟨v,l',h1,h2,h3⟩:=h;exact⟨v,l',h1,VR.scalar hs.1 h2,LR.scalar hs.2 h3⟩
end
def Look(H:Qd):A->A->Prop:=λa a'=>(a'=a/\Ys a=true)\/ ∃i n k t es,a=.osl i 0 n k/\H[i]?=some (.row t k es)/\es.length=n/\a'=.rsl k es
def Qbo(H:Qd):List A->List A->Prop
 |[],[]=>True
 |a::az,b::bs=>Look H a b/\Qbo H az bs
 |_,_=>False
theorem QfS{h0 N:Nat}{Q:QB}{all:Array Oper}{l:List Oper}{d:Nat}{f:FuncId}{args B:List A}{Qr:A->Qd->Prop}(ae:OpC P o env H f args)(hv:Qbo H args B)(hC:C P f B [] Qr)
  (ac:∀r H1,Qr r H1->Yr r=true)(k:∀r H1,Qr r H1->WO P h0 N all l (up env d r) H Q)(hg:Qs all o env true:=by exact rfl)(hd:o.dst=some d:=by exact rfl)(hN:Nat.blt d N=true:=by exact rfl):WO P h0 N all (o::l) env H Q:=by
 intro rd fr ro σ a w r hrd;obtain⟨T,h1,h2⟩:=ae fr ro σ N a w r;refine Qdu (YH hg r) h1 ?_
 let roc:Nat->Prop:=λb=>ro b\/ ∃(i:Nat) (x:Blk),σ[i]?=some (some b)/\H[i]?=some x/\x.live=true
 let frc:Nat->Prop:=λb=>fr b\/ ∃(i:Nat) (x:Blk) (d:Nat),σ[i]?=some (some d)/\H[i]?=some x/\Hid w x d b
 have W:Sim frc roc [] [] w:=by
  refine⟨rfl,r.sim.roOk.to (λ_ q=>.inl q) (λ_ _=>rfl) ?_,?_,?_,by simp,by simp,by simp,by simp⟩
  .rintro b (q|⟨i,x,u,g,E⟩)
   .exact r.sim.roLt b q
   .exact(r.sim.own i b x u g E).1
  .rintro b (q|⟨i,x,d,u,g,E⟩)
   .exact r.sim.frLt b q
   .exact(r.sim.hid i d x b u g E).lt
  .rintro b (q|⟨i,x,u,g,E⟩) (q'|⟨i',x',d',M,X,R⟩)
   .exact r.sim.roFr b q q'
   .exact(r.sim.hid i' d' x' b M X R).ro q
   .exact(r.sim.own i b x u g E).2.2 q'
   .exact(r.sim.hid i' d' x' b M X R).ne i b x u g E rfl
 have L:∀(az G:List A) (l:List Value),Qbo H az G->LR ro σ w az l->LR roc [] w G l:=by
  intro az
  induction az with
  |nil=>
   intro G l F h;cases G with
   |nil=>exact h
   |cons b G=>exact F.elim
  |cons x az ih=>
   intro G l F h;cases G with
   |nil=>exact F.elim
   |cons y G=>
    obtain⟨hx,F⟩:=F;obtain⟨v,l',rfl,hv,h⟩:=h;refine⟨v,l',rfl,?_,ih G l' F h⟩;rcases hx with⟨rfl,hx⟩|⟨i,n,k,t,es,rfl,hH,hn,rfl⟩
    .exact(hv.data (σ':=[]) hx).mono ⟨λ_ q=>.inl q,λ_ _=>rfl,λ_ _ q=>q,λ_ _ q=>q⟩
    .subst hn;rcases hv with⟨h0,h⟩|⟨b,p,O,t',m,h1,h,h2,⟨h3,ag⟩,h4,h5⟩
     .have:es=[]:=VP.1 h0;subst this;exact⟨none,0,h,XZ _,.inl rfl⟩
     .refine⟨_,O,h,h3,?_⟩;by_cases he:es=[]
      .exact .inl he
      .right;have hc:0<O:=Vl (List.length_pos_iff.2 he) h3;obtain rfl:=h2 hc;obtain⟨l,u,g⟩:=r.sim.blk i _ _ h1 hH;refine⟨b,0,by simp,.inr ⟨i,_,h1,hH,rfl⟩,?_⟩;have:=YV (pre:=[]) (by simpa using u) g;exact this.keep ⟨λ_ q=>.inl q,λ_ _=>rfl,λ_ _ q=>q,λ_ _ q=>q⟩ rfl
 refine Calls.mono (hC frc roc [] T w W (L _ _ _ hv h2)) ?_;rintro e Y ⟨v,rr,H1,af,τ,rfl,hq,sc,aa,ev⟩;have J:∀(i b:Nat) (x:Blk),σ[i]?=some (some b)->H[i]?=some x->x.live=true->Y.heap[b]?=w.heap[b]? :=λi b x u g E=>ev.keepRo b (.inr ⟨i,x,u,g,E⟩);have z:Qh fr ro w ro Y:=⟨λ_ q=>q,λb q=>ev.keepRo b (.inl q),λb q=>ev.keepFr b (.inl q),ev.size,ev.shape,ev.os,ev.tape,ev.output,ev.drawn⟩;have V:Sim fr ro σ H Y:=by
  refine⟨r.sim.len,r.sim.roOk.to (λ_ q=>q) z.keepRo (λb q=>Vl (r.sim.roLt b q) ev.size),λb q=>Vl (r.sim.frLt b q) ev.size,r.sim.roFr,?_,r.sim.inj,?_,r.sim.hidTo (· = ·) Q0 ev.size (λ_ _ _ _ _ _ _ q=>q) (λ_ _ _ _ _ _ _ q=>q) λj d y g1 g2 g3=>.inl ⟨j,y,rfl,g1,g2,id,λc q=>r.sim.hidKeep g1 g2 (J j d y g1 g2) z.keepRo q⟩⟩
  .intro i b x u g E;obtain⟨p1,p2,p3⟩:=r.sim.own i b x u g E;exact⟨Vl p1 ev.size,p2,p3⟩
  .intro i y x u g;refine(r.sim.blk i y x u g).keep (z.ext0 σ) ?_ ?_
   .rintro b rfl F;exact J i b x u g F
   .rintro b c rfl F;exact ev.keepFr c (.inr ⟨i,x,b,u,g,F⟩)
 have hk:=k rr H1 hq;have ab:d<N:=by simpa using hN
 simp only[hd,Act.put];have r':Rel fr ro σ H (up env d rr) N {a with tmps:=a.tmps.setIfInBounds d v} Y:=
  ⟨V,VR.up (fr:=fr) (λs=>(r.env s).mono (z.ext0 σ)) (by rw[r.size];exact ab) (aa.scalar (ac _ _ hq)),by simpa using r.size,r.defers.keep z⟩
 exact⟨_,rfl,Yk (λe a w q=>q.step z rfl) _ _ _ (hk rd fr ro σ _ Y r' (hrd.to z λ_ q=>q))⟩
end
end Go.Sw
namespace Go.Sw
section
variable {P:Program} {o:Oper} {env:Env} {H:Qd}
theorem QgH{α:Type}:∀(vs:List α) (off i:Nat) (l:List α),off+i+vs.length<=l.length->
  (vs.zipIdx i).foldl (λ(cs:Array α) (x:α×Nat)=>cs.setIfInBounds (off+x.2) x.1) l.toArray=(splice l (off+i) vs).toArray
 |[],off,i,l,h=>by simp[splice]
 |v::vs,off,i,l,h=>by
  simp only[X6]at h;rw[List.zipIdx_cons,XJ];have e1:l.toArray.setIfInBounds (off+i) v=(splice l (off+i) [v]).toArray:=by
   have:l.toArray.setIfInBounds (off+i) v=(l.set (off+i) v).toArray:=by simp
   rw[this];congr 1;rw[List.set_eq_take_append_cons_drop,Vz (by omega)];simp[splice]
  rw[e1,QgH vs off (i+1) _ (by rw[Ya (by simp;omega)];omega)];congr 1;have a:(l.take (off+i)).length=off+i:=by simp;omega
  unfold splice;rw[Vp (l.take (off+i))];have d:off+(i+1)=(l.take (off+i)).length+1:=by omega
  have b:(l.take (off+i)++([v]++l.drop (off+i+[v].length))).take ((l.take (off+i)).length+1)=l.take (off+i)++[v]:=by
   rw[Vh];simp
  have e:(l.take (off+i)++([v]++l.drop (off+i+[v].length))).drop ((l.take (off+i)).length+1+vs.length)=l.drop (off+i+(v::vs).length):=by
   rw[show(l.take (off+i)).length+1+vs.length=(l.take (off+i)).length+(1+vs.length)from by omega,Vg];simp[Nat.add_comm 1];congr 1;omega
  rw[d,b,e];simp
theorem QgJ{a:Nat->Option (Nat×Nat)}{l:List Value}{i off size:Nat}{v:Value}{m:List Value}{rest:List (Nat×Value)}(e:a i=some (off,size))(d:v.cells=m.toArray)(f:m.length=size)
  (hl:off+size<=l.length):Instr.fill a l.toArray ((i,v)::rest)=Instr.fill a (splice l off m).toArray rest:=by
 have b:v.cells.size=size:=by rw[d];simpa using f
 rw[Instr.fill];simp only[e];rw[Vy (by simp[b];omega),d];congr 1;have:=QgH m off 0 l (by omega);rw[XB]at this;rw[<- this];simp[Array.foldl_toList]
def QaF:Nat->List Operand->List (Nat×Operand)
 |_,[]=>[]
 |i,x::xs=>(i,x)::QaF (i+1) xs
def Yd(env:Env)(xs:List Operand):List (List A):=xs.map λx=>Q8 (opA env x)
theorem Qfx{fr ro:Nat->Prop}{σ:Sig}{N:Nat}{a:Act}{w:World}(r:Rel fr ro σ H env N a w){k:Nat}:∀(xs:List Operand) (j:Nat) (pre rest:List Value),pre.length=j*k->rest.length=xs.length*k->
  (xs.all λx=>Yf (opA env x))=true->allK k (Yd env xs)->
  ∃l,Instr.fill (λi=>some (i*k,k)) (pre++rest).toArray ((QaF j xs).map λp=>(p.1,a.eval p.2))=some (pre++l).toArray/\LR ro σ w (Yd env xs).flatten l
 |[],j,pre,rest,h1,h2,_,_=>by
  have:rest=[]:=VP.1 (by simpa using h2);subst this;exact⟨[],rfl,rfl⟩
 |x::xs,j,pre,rest,h1,h2,h3,h4=>by
  simp only[List.all_cons,X3]at h3;obtain⟨hk1,hk2⟩:=h4;obtain⟨m,q1,q2⟩:=(Qg r x).cells h3.1;have hm:m.length=k:=by rw[q2.length];exact hk1
  simp only[X6,Xm]at h2;simp only[QaF,Vq];rw[QgJ (off:=j*k) (size:=k) rfl q1 hm (by simp;omega)];have e:splice (pre++rest) (j*k) m=(pre++m)++rest.drop k:=by
   unfold splice;rw[<- h1,List.take_left,Vg,hm]
  rw[e];obtain⟨l,d,b⟩:=Qfx r xs (j+1) (pre++m) (rest.drop k) (by simp[h1,hm,Xm]) (by simp;omega) h3.2 hk2;refine⟨m++l,?_,?_⟩
  .rw[d];simp
  .show LR ro σ w ((Q8 (opA env x))++(Yd env xs).flatten) (m++l);exact q2.append b
theorem QaP{fr ro:Nat->Prop}{σ:Sig}{N:Nat}{a:Act}{w:World}(r:Rel fr ro σ H env N a w){T e k n:Nat}{xs:List Operand}(E:QV P T e k)(j:xs.length=n)(h:Nat.ble (n*k) 16777216=true)
  (m:(xs.all λx=>Yf (opA env x))=true)(q:allK k (Yd env xs)):
  ∃l,(Instr.buildSlice T n (((QaF 0 xs).map λp=>(p.1,a.eval p.2)).toArray)).run P w=.ok (.slice (some ⟨w.heap.size,0,none⟩) n n) (w.alloc (.cells l.toArray e))/\LR ro σ w (Yd env xs).flatten l:=by
 obtain⟨z,t,y⟩:=E.zero;have s:n*k<=16777216:=by simpa using h
 have d:∀(c:Array Value) (W:World),(newRow e c).run P W=.ok ⟨W.heap.size,0,none⟩ (W.alloc (.cells c e)):=λc W=>rfl;unfold Instr.buildSlice;by_cases g:n*k=0
 .obtain⟨l,b,f⟩:=Qfx r (k:=k) xs 0 [] [] (by simp) (by rw[j];simpa using g.symm) m q;refine⟨l,?_,f⟩;simp only[Vt,E.sl,Result.andThen,E.size,g];simp only[Xn,gt_iff_lt,if_false,if_true,Vu,XN,Result.andThen];have u:Array.range 0= #[]:=rfl;simp at b;simp[u,b,d]
 .obtain⟨l,b,f⟩:=Qfx r (k:=k) xs 0 [] ((Array.range (n*k)).map (λi=>z.cells[i%z.cells.size]!)).toList (by simp) (by rw[j];simp) m q;refine⟨l,?_,f⟩;simp only[Vt,E.sl,Result.andThen,E.size,Vy g,XN,t,Vu];rw[Vy (by omega)];simp only[Vn]at b;rw[Array.toArray_toList]at b;simp only[b,Vt,d,Result.andThen,Vu]
theorem Qav{T n:Nat}{xs:List Operand}(a:o.op=.buildSlice T n (QaF 0 xs).toArray)(ρ:Operand->Value){v:Value}{w w':World}
  (h:(Instr.buildSlice T n (((QaF 0 xs).map λp=>(p.1,ρ p.2)).toArray)).run P w=.ok v w'):(execOp ρ o).run P w=.ok (.value v) w':=by
 simp only[execOp,a,Vt,XO,h,Result.andThen,Vu]
theorem OpH.lit{T e k n:Nat}{xs:List Operand}{es:List (List A)}(E:QV P T e k)(u:o.op=.buildSlice T n (QaF 0 xs).toArray)(m:xs.length=n)(g:Nat.ble (n*(k+1)) 16777216=true)
  (t:(xs.all λx=>Yf (opA env x))=true)(d:Yd env xs=es)(f:allK k es)(y:es.flatten.all Ym=true)(B:Yo es.flatten=true):
  OpH P o env H (.osl H.length 0 n k) (H++[.row e k es]):=by
 intro F p σ N a w r;subst d;have b:=XX g;rw[Nat.mul_add]at b;obtain⟨l,z,i⟩:=QaP r E m (XY (X2 (Nat.le_add_right _ _) b)) t f;have h:LR p [] w (Yd env xs).flatten l:=i.data B;obtain⟨j,q⟩:=Qjq (T:=e) (rest:=[]) r.sim f h (i.plain y);rw[Vm]at j q;have s:l.length=n*k:=by rw[i.length,Yz f];simp[Yd,m]
 refine⟨_,_,p,[some w.heap.size],Qav u a.eval z,.inr ⟨w.heap.size,0,n,e,l.length,?_,rfl,λ_=>by simp,⟨XZ _,by omega⟩,?_,by rw[s,XA];exact XZ _⟩,j,q⟩
 .rw[<- r.sim.len];simp
 .unfold World.shape?;rw[Q6];simp
theorem YN{T e k n:Nat}{xs:List Operand}{es:List (List A)}(E:QV P T e k)(q:o.op=.buildSlice T n (QaF 0 xs).toArray)(j:xs.length=n)(f:Nat.ble (n*(k+1)) 16777216=true)
  (p:(xs.all λx=>Yf (opA env x))=true)(g:Yd env xs=es)(d:allK k es)(u:es.flatten.all Ym=true):
  OpH P o env H (.osl H.length 0 n k) (H++[.rowr e k es]):=by
 intro z s σ N a w r;subst g;have b:=XX f;rw[Nat.mul_add]at b;obtain⟨l,y,h⟩:=QaP r E j (XY (X2 (Nat.le_add_right _ _) b)) p d;have i:=r.sim.allocRowr (t:=e) (rest:=[]) d h (h.plain u);rw[Vm]at i;have m:l.length=n*k:=by rw[h.length,Yz d];simp[Yd,j]
 refine⟨_,_,s,[some w.heap.size],Qav q a.eval y,.inr ⟨w.heap.size,0,n,e,l.length,?_,rfl,λ_=>by simp,⟨XZ _,by omega⟩,?_,by rw[m,XA];exact XZ _⟩,i,Qh.alloc _ r.sim.roLt r.sim.frLt⟩
 .rw[<- r.sim.len];simp
 .unfold World.shape?;rw[Q6];simp
theorem JC{n:Int}{y:Nat}{c:BoundsCode}{w:World}(h0:0<=n)(a:n<=y):(Instr.sliceBound (.int .i64 n) y c).run P w=.ok n.toNat w:=by
 simp[Instr.sliceBound,asIntOf,h0,a,go_sem]
theorem Qhm{T e:Nat}{k:Nat}{w:World}(E1:∀w,(underlying T).run P w=.ok (.slice e) w)(E2:∀w,(sizeOf e).run P w=.ok k w){ad:Option Addr}{n cap:Nat}{lo hi:Option Value}{l h:Nat}(d:n<=cap)
  (b:lo=none/\l=0\/ ∃z:Int,lo=some (.int .i64 z)/\0<=z/\z.toNat=l)(a:hi=none/\h=n\/ ∃z:Int,hi=some (.int .i64 z)/\0<=z/\z.toNat=h)(g:l<=h)(j:h<=n):
  (Instr.sliceAt T (.slice ad n cap) lo hi none).run P w=.ok (.slice (if cap=l then ad else ad.map (·.add (l*k))) (h-l) (cap-l)) w:=by
 have i:(Instr.sliceBounds true n cap lo hi none).run P w=.ok (l,h,cap) w:=by
  rcases b with⟨rfl,rfl⟩|⟨z,rfl,f,rfl⟩<;>rcases a with⟨rfl,rfl⟩|⟨y,rfl,y0,rfl⟩
  .simp[Instr.sliceBounds,go_sem]
  .simp only[Instr.sliceBounds,Vt,Vu,Result.andThen,JC y0 (show y<=(cap:Int)by omega)]
  .simp only[Instr.sliceBounds,Vt,Vu,Result.andThen,JC f (show z<=(h:Int)by omega)]
  .simp only[Instr.sliceBounds,Vt,Vu,Result.andThen,JC y0 (show y<=(cap:Int)by omega),JC f (show z<=(y.toNat:Int)by omega)]
 simp only[Instr.sliceAt,Vt,E1,Result.andThen,Instr.slice,i,E2,Vu]
theorem Qbe{fr ro:Nat->Prop}{σ:Sig}{N:Nat}{a:Act}{w:World}(r:Rel fr ro σ H env N a w){x:Option Operand}{l d:Nat}(h:x=none/\l=d\/ ∃y,∃z:Int,x=some y/\opA env y=.int .i64 z/\0<=z/\z.toNat=l):
  x.map a.eval=none/\l=d\/ ∃z:Int,x.map a.eval=some (.int .i64 z)/\0<=z/\z.toNat=l:=by
 rcases h with⟨rfl,rfl⟩|⟨y,z,rfl,b,f,e⟩
 .exact .inl ⟨rfl,rfl⟩
 .exact .inr ⟨z,by simp[QS r b],f,e⟩
theorem QoC{T e k:Nat}{x:Operand}{lo hi:Option Operand}{es es':List (List A)}{l h:Nat}(E1:∀w,(underlying T).run P w=.ok (.slice e) w)(E2:∀w,(sizeOf e).run P w=.ok k w)(s:o.op=.slice T x lo hi none)
  (E:opA env x=.rsl k es)(n:lo=none/\l=0\/ ∃y,∃z:Int,lo=some y/\opA env y=.int .i64 z/\0<=z/\z.toNat=l)
  (j:hi=none/\h=es.length\/ ∃y,∃z:Int,hi=some y/\opA env y=.int .i64 z/\0<=z/\z.toNat=h)(m:l<=h)(t:h<=es.length)(p:(es.take h).drop l=es'):OpV P o env H (.rsl k es'):=by
 intro M L σ N a w r;subst p;have i:=Qg r x;rw[E]at i;obtain⟨ad,f,i,u,F⟩:=i;have g:=Qhm (P:=P) (w:=w) E1 E2 (ad:=ad) u (Qbe r n) (Qbe r j) m t;have d:((es.take h).drop l).length=h-l:=by simp;omega
 refine⟨_,by simp only[execOp,s,i,Vt,g,Result.andThen,Vu,Xk];rfl,?_⟩;refine⟨_,f-l,by rw[d],by rw[d];omega,?_⟩;rcases F with rfl|⟨b,q,rfl,G,B⟩
 .left;simp
 .by_cases J:f=l
  .left;apply VP.1;omega
  .right;refine⟨b,q+l*k,by rw[Vy J];simp[Y4],G,?_⟩;exact(B.take h).drop l
theorem Qf2{T e k i s n:Nat}{x:Operand}{lo hi:Option Operand}{l h:Nat}(E1:∀w,(underlying T).run P w=.ok (.slice e) w)(E2:∀w,(sizeOf e).run P w=.ok k w)(E:o.op=.slice T x lo hi none)
  (O:opA env x=.osl i s n k)(t:lo=none/\l=0\/ ∃y,∃z:Int,lo=some y/\opA env y=.int .i64 z/\0<=z/\z.toNat=l)
  (j:hi=none/\h=n\/ ∃y,∃z:Int,hi=some y/\opA env y=.int .i64 z/\0<=z/\z.toNat=h)(u:l<=h)(F:h<=n):OpV P o env H (.osl i (s+l) (h-l) k):=by
 intro X W σ N a w r;have g:=Qg r x;rw[O]at g;rcases g with⟨rfl,g⟩|⟨b,p,f,L,m,g,M,R,⟨V,Q⟩,J,G⟩
 .have d:=Qhm (P:=P) (w:=w) E1 E2 (ad:=none) (XZ 0) (Qbe r t) (Qbe r j) u F;refine⟨_,by simp only[execOp,E,g,Vt,d,Result.andThen,Vu,Xk];rfl,?_⟩;left;obtain rfl:h=0:=by omega
  obtain rfl:l=0:=by omega
  simp
 .have d:=Qhm (P:=P) (w:=w) E1 E2 (ad:=some ⟨b,p,none⟩) V (Qbe r t) (Qbe r j) u F;refine⟨_,by simp only[execOp,E,M,Vt,d,Result.andThen,Vu,Xk];rfl,?_⟩;right;by_cases B:f=l
  .refine⟨b,p,0,L,m,g,by rw[Vz B];simp[B],λq=>by omega,by omega,J,?_⟩;subst B;exact X2 (by simp) G
  .refine⟨b,p+l*k,f-l,L,m,g,by rw[Vy B];simp[Y4],λq=>by rw[R (by omega),XF],by omega,J,?_⟩;rw[show s+l+(f-l)=s+f from by omega];exact G
theorem OpV.max{c:Call}{x y:Operand}{k:IntKind}{m n:Int}(f:o.op=.call c)(e:c={callee:=.builtin .max,args:= #[x,y],argTypes:=c.argTypes})(g:opA env x=.int k m)(i:opA env y=.int k n):
  OpV P o env H (.int k (if m<n then n else m)):=by
 intro p l σ N a w r;have h:=QS r g;have j:=QS r i;refine⟨_,?_,rfl⟩;generalize a.eval=ρ at*;have b:c.callee=.builtin .max:=by rw[e]
 have d:c.args= #[x,y]:=by rw[e]
 simp only[execOp,f,resolve,b,d,invoke,Go.builtin,Vt,Vu,Result.andThen];simp[Builtin.max_,Builtin.max2,h,j,go_sem]
theorem OpV.min{c:Call}{x y:Operand}{k:IntKind}{m n:Int}(f:o.op=.call c)(e:c={callee:=.builtin .min,args:= #[x,y],argTypes:=c.argTypes})(g:opA env x=.int k m)(i:opA env y=.int k n):
  OpV P o env H (.int k (if n<m then n else m)):=by
 intro p l σ N a w r;have h:=QS r g;have j:=QS r i;refine⟨_,?_,rfl⟩;generalize a.eval=ρ at*;have b:c.callee=.builtin .min:=by rw[e]
 have d:c.args= #[x,y]:=by rw[e]
 simp only[execOp,f,resolve,b,d,invoke,Go.builtin,Vt,Vu,Result.andThen];simp[Builtin.min_,Builtin.min2,h,j,go_sem]
end
end Go.Sw
namespace Go.Sw
section
variable {P:Program} {h0 N:Nat} {env:Env} {H:Qd} {Q:QB} {c c':Code}
def CutP(h0:Nat)(Eb:Env)(Hb:Qd)(Q:QB):QB
 |.normal,env,H=>Le h0 env H Eb Hb
 |.exit id,env,H=>Q (.exit id) env H
 |.ret,env,H=>Q .ret env H
theorem TC.cut(Eb:Env)(Hb:Qd)(h:TC P h0 N c env H (CutP h0 Eb Hb Q))(k:∀env H,Le h0 env H Eb Hb->Q .normal env H):TC P h0 N c env H Q:=
 h.mono λx env' H' q=>by
  cases x with
  |normal=>exact k _ _ q
  |exit id=>exact q
  |ret=>exact q
theorem QmW(h:TC P h0 N c env H Q):Seq P h0 N c Q .normal env H:=h
theorem seqX{id:Nat}(h:Q (.exit id) env H):Seq P h0 N c Q (.exit id) env H:=h
theorem seqR(h:Q .ret env H):Seq P h0 N c Q .ret env H:=h
theorem bloN{id:Nat}(h:Q .normal env H):Blo id Q .normal env H:=h
theorem bloE{id:Nat}(h:Q .normal env H):Blo id Q (.exit id) env H:=by simp only[Blo,VL,Vv];exact h
theorem bloX{id a:Nat}(e:Nat.beq a id=false)(h:Q (.exit a) env H):Blo id Q (.exit a) env H:=by simp only[Blo,e,Vw];exact h
theorem bloR{id:Nat}(h:Q .ret env H):Blo id Q .ret env H:=h
def Qf9{S B:Type}(h0:Nat)(b:Ctl S B)(Eb:S->Env)(Hb:S->Qd)(Q:QB):QB
 |.normal,env,H=>∃s,b=.cont s/\Le h0 env H (Eb s) (Hb s)
 |.exit id,env,H=>Q (.exit id) env H
 |.ret,env,H=>Q .ret env H
theorem QhT{S B:Type}{b:Ctl S B}(Eb:S->Env)(Hb:S->Qd)(h:TC P h0 N c env H (Qf9 h0 b Eb Hb Q))(k:∀s env H,b=.cont s->Le h0 env H (Eb s) (Hb s)->Q .normal env H):TC P h0 N c env H Q:=
 h.mono λx env' H' q=>by
  cases x with
  |normal=>obtain⟨s,e,q⟩:=q;exact k s _ _ e q
  |exit id=>exact q
  |ret=>exact q
section
variable {S B:Type} {b:Ctl S B} {Eb:S->Env} {Hb:S->Qd}
theorem QL{s:S}(e:b=.cont s)(h:Le h0 env H (Eb s) (Hb s)):Qf9 h0 b Eb Hb Q .normal env H:=⟨s,e,h⟩
theorem Qp5{id:Nat}(h:Q (.exit id) env H):Qf9 h0 b Eb Hb Q (.exit id) env H:=h
theorem Q9(h:Q .ret env H):Qf9 h0 b Eb Hb Q .ret env H:=h
end
theorem Qjh{x:Operand}{t:Bool}(hx:opA env x=.bool t)(h:t=true)(ht:TC P h0 N c env H Q):TC P h0 N (.cond x c c') env H Q:=TC.cond hx (λ_=>ht) (λq=>by rw[h]at q;cases q)
theorem QfU{x:Operand}{t:Bool}(hx:opA env x=.bool t)(h:t=false)(hf:TC P h0 N c' env H Q):TC P h0 N (.cond x c c') env H Q:=TC.cond hx (λq=>by rw[h]at q;cases q) (λ_=>hf)
section
variable {S B:Type} {I:S->Env->Qd->Prop}
theorem Qv{s:S}{d:Ctl S B}(e:some (Ctl.cont s)=some d)(h:I s env H):Qbn I d Q .normal env H:=⟨s,(X5 e).symm,h⟩
theorem Qy{id:Nat}{b:B}{d:Ctl S B}(e:some (Ctl.done b)=some d)(h:Q (.exit id) env H):Qbn I d Q (.exit id) env H:=⟨⟨b,(X5 e).symm⟩,h⟩
theorem Yx{b:B}{d:Ctl S B}(e:some (Ctl.done b)=some d)(h:Q .ret env H):Qbn I d Q .ret env H:=⟨⟨b,(X5 e).symm⟩,h⟩
end
end
theorem Jy{α β:Type}{x:Option α}{f:α->Option β}{r:β}(h:x.bind f=some r):∃a,x=some a/\f a=some r:=Option.bind_eq_some_iff.1 h
theorem ifT{α:Type}{c:Bool}{x y:Option α}{r:α}(a:c=true)(h:(bif c then x else y)=some r):x=some r:=by subst a;exact h
theorem ifF{α:Type}{c:Bool}{x y:Option α}{r:α}(a:c=false)(h:(bif c then x else y)=some r):y=some r:=by subst a;exact h
def idx{α:Type}(l:List α)(i:Int):Option α:=bif decide (0<=i)then l[i.toNat]? else none
theorem Qau{α:Type}{l:List α}{i:Int}{x:α}(h:idx l i=some x):0<=i/\l[i.toNat]?=some x:=by
 unfold idx at h;by_cases q:0<=i
 .rw[VA q]at h;exact⟨q,h⟩
 .rw[VD q]at h;simp at h
def app{α:Type}(l m:List α):Option (List α):=bif Nat.ble (l.length+m.length) Qt then some (l++m)else none
theorem Qkh{α:Type}{l m r:List α}(h:app l m=some r):l.length+m.length<=Qt/\l++m=r:=by
 unfold app at h;cases q:Nat.ble (l.length+m.length) Qt with
 |true=>rw[q]at h;exact⟨XX q,X5 h⟩
 |false=>rw[q]at h;simp at h
def slc{α:Type}(l:List α)(lo hi:Int):Option (List α):=bif decide (0<=lo)&&decide (lo<=hi)&&decide (hi<=(l.length:Int))then some ((l.take hi.toNat).drop lo.toNat)else none
theorem Qdy{α:Type}{l r:List α}{lo hi:Int}(h:slc l lo hi=some r):0<=lo/\lo<=hi/\hi<=l.length/\(l.take hi.toNat).drop lo.toNat=r:=by
 unfold slc at h;cases q:(decide (0<=lo)&&decide (lo<=hi)&&decide (hi<=(l.length:Int)))with
 |true=>
  rw[q]at h;simp at q;exact⟨q.1.1,q.1.2,q.2,X5 h⟩
 |false=>rw[q]at h;simp at h
def QbN{α:Type}(l:List α)(i:Int)(x:α):Option (List α):=bif decide (0<=i)&&decide (i<(l.length:Int))then some (l.set i.toNat x)else none
theorem Qez{α:Type}{e:α->List A}{l:List α}{i:Nat}{x:α}(h:l[i]?=some x):(l.map e)[i]?=some (e x):=by simp[h]
end Go.Sw
namespace Go.Sw
section
variable {P:Program} {h0 N:Nat} {env:Env} {H H':Qd} {Q:QB} {all:Array Oper} {o:Oper} {l:List Oper} {d:Nat} {x:A}
theorem vV(a:OpV P o env H x)(k:WO P h0 N all l (up env d x) H Q)(hg:Qs all o env true:=by exact rfl)(hd:o.dst=some d:=by exact rfl)(hN:Nat.blt d N=true:=by exact rfl):WO P h0 N all (o::l) env H Q:=
 QF hg hd hN a k
theorem vH(a:OpH P o env H x H')(k:WO P h0 N all l (up env d x) H' Q)(hg:Qs all o env true:=by exact rfl)(hd:o.dst=some d:=by exact rfl)(hN:Nat.blt d N=true:=by exact rfl)(hh:Nat.ble h0 H.length=true:=by exact rfl):WO P h0 N all (o::l) env H Q:=
 Y5 (XX hh) hg hd hN a k
theorem vN(a:OpH P o env H x H')(k:WO P h0 N all l env H' Q)(hg:Qs all o env true:=by exact rfl)(hd:o.dst=none:=by exact rfl)(hh:Nat.ble h0 H.length=true:=by exact rfl):WO P h0 N all (o::l) env H Q:=
 Qq6 (XX hh) hg hd a k
theorem vU(a:OpU P o env H H')(k:WO P h0 N all l env H' Q)(hg:Qs all o env true:=by exact rfl)(hd:o.dst=none:=by exact rfl)(hh:Nat.ble h0 H.length=true:=by exact rfl):WO P h0 N all (o::l) env H Q:=
 QbB (XX hh) hg hd a k
theorem gT{j s:Nat}{c x:Bool}(a:x=c)(hg:o.guard=some (j,c):=by exact rfl)(hs:(all[j]?).bind (·.dst)=some s:=by exact rfl)(hl:lk env s=.bool x:=by exact rfl):Qs all o env true:=by
 unfold Qs;rw[hg];exact⟨s,hs,.inl ⟨x,hl,by subst a;cases x<;>rfl⟩⟩
theorem gF{j s:Nat}{c x:Bool}(a:x= !c)(hg:o.guard=some (j,c):=by exact rfl)(hs:(all[j]?).bind (·.dst)=some s:=by exact rfl)(hl:lk env s=.bool x:=by exact rfl):Qs all o env false:=by
 unfold Qs;rw[hg];exact⟨s,hs,.inl ⟨x,hl,by subst a;cases c<;>rfl⟩⟩
theorem Qq7{x x':A}(a:x'=x)(hH:H'=H)(k:WO P h0 N all l (up env d x) H Q):WO P h0 N all l (up env d x') H' Q:=by subst a;subst hH;exact k
theorem QfT(hH:H'=H)(k:WO P h0 N all l env H Q):WO P h0 N all l env H' Q:=by subst hH;exact k
theorem Qz{f:FuncId}{args a:List A}{Hc:Qd}{Qr:A->Qd->Prop}(π:List Nat)(b:OpC P o env H f args)(g:C P f a Hc Qr)
  (k:∀r H1,Qr r H1->WO P h0 N all l (up env d (YE (rho π H.length) r)) (Yt H π (H1.map (QX (rho π H.length)))) Q)
  (hargs:args=Qaa (rho π H.length) a:=by exact rfl)(hH:π.map (λp=>H[p]?)=(Hc.map (QX (rho π H.length))).map some:=by exact rfl)(hπ:π.Nodup:=by decide)
  (hg:Qs all o env true:=by exact rfl)(hd:o.dst=some d:=by exact rfl)(hN:Nat.blt d N=true:=by exact rfl)(hh:Nat.ble h0 H.length=true:=by exact rfl):WO P h0 N all (o::l) env H Q:=
 WO.call (d:=some d) π (XX hh) hg hd (λx e=>by cases e;simpa using hN) b hargs hH hπ g k
end
section
variable {P:Program} {o:Oper} {env:Env} {H:Qd} {α:Type} {e:α->List A}
theorem QoB{c:Call}{t et k:Nat}{x:Operand}{l:List α}(a:∀w,(underlying t).run P w=.ok (.slice et) w)(b:o.op=.call c:=by exact rfl)(hc:c={callee:=.builtin .len,args:= #[x],argTypes:= #[t]}:=by exact rfl)
  (hx:opA env x=.rsl k (l.map e):=by exact rfl):OpV P o env H (.int .i64 l.length):=by
 have:=QoA (H:=H) b hc a hx
 rwa [X7]at this
theorem Qlm{t et k:Nat}{x y:Operand}{l:List α}{a:IntKind}{i:Int}{v:α}(h:idx l i=some v)(b:∀w,(underlying t).run P w=.ok (.slice et) w)(f:∀w,(sizeOf et).run P w=.ok k w)
  (d:o.op=.indexAddr t x y:=by exact rfl)(hx:opA env x=.rsl k (l.map e):=by exact rfl)(hy:opA env y=.int a i:=by exact rfl):OpV P o env H (.rp (e v)):=
 QpJ d b f hx hy (Qau h).1 (Qez (Qau h).2)
theorem QJ{t et k b n:Nat}{x y:Operand}{l:List α}{a:IntKind}{i:Int}{v:α}(h:idx l i=some v)(m:l.length=n)(e:∀w,(underlying t).run P w=.ok (.slice et) w)(g:∀w,(sizeOf et).run P w=.ok k w)
  (f:o.op=.indexAddr t x y:=by exact rfl)(hx:opA env x=.osl b 0 n k:=by exact rfl)(hy:opA env y=.int a i:=by exact rfl):OpV P o env H (.ptr b (i.toNat*k)):=by
 have:=Qau h;have d:i.toNat<l.length:=(XR.1 this.2).1;have j:=QhW (H:=H) f e g hx hy this.1 (by omega)
 rwa [Nat.zero_mul,XA]at j
theorem Qcl{b t k f:Nat}{l:List α}{i:Int}{v:α}{cs':List A}(h:idx l i=some v)(hH:H[b]?=some (.row t k (l.map e)):=by exact rfl)(hcs:(e v).drop f=cs':=by exact rfl):Pts H (.ptr b (i.toNat*k+f)) cs':=
 Pts.row hH rfl (Qez (Qau h).2) hcs
theorem Qq{b t k:Nat}{l:List α}{i:Int}{v:α}{cs':List A}(h:idx l i=some v)(hH:H[b]?=some (.row t k (l.map e)):=by exact rfl)(hcs:e v=cs':=by exact rfl):Pts H (.ptr b (i.toNat*k)) cs':=
 Pts.row (f:=0) hH rfl (Qez (Qau h).2) hcs
theorem Qjo{c:Call}{T T' et et' k:Nat}{x y:Operand}{ya:A}{m r:List α}(h:app [] m=some r)(E:QV P T et k)(f:∀w,(underlying T').run P w=.ok (.slice et') w)(b:Src P H ya k (m.map e))
  (d:o.op=.call c:=by exact rfl)(hc:c={callee:=.builtin .append,args:= #[x,y],argTypes:= #[T,T']}:=by exact rfl)(hx:opA env x=.nils:=by exact rfl)(hy:opA env y=ya:=by exact rfl):
  OpH P o env H (.osl H.length 0 r.length k) (H++[.row et k (r.map e)]):=by
 obtain⟨a,rfl⟩:=Qkh h;have:=Qgj E f d hc hx hy b (by simpa using a);simpa using this
theorem QM{c:Call}{T T' et et' k i n:Nat}{x y:Operand}{ya:A}{l m r:List α}(h:app l m=some r)(E:QV P T et k)(f:∀w,(underlying T').run P w=.ok (.slice et') w)(b:Src P H ya k (m.map e))
  (d:l.length=n:=by exact rfl)(ho:o.op=.call c:=by exact rfl)(hc:c={callee:=.builtin .append,args:= #[x,y],argTypes:= #[T,T']}:=by exact rfl)(hx:opA env x=.osl i 0 n k:=by exact rfl)
  (hH:H[i]?=some (.row et k (l.map e)):=by exact rfl)(hy:opA env y=ya:=by exact rfl):
  OpH P o env H (.osl H.length 0 r.length k) (H.set i .dead++[.row et k (r.map e)]):=by
 obtain⟨a,rfl⟩:=Qkh h;subst d;have:=Qjn E f ho hc hx hH (by simp) hy b (by simpa using a) (gs:=(l++m).map e) (by rw[VO (by simp)];simp);simpa using this
theorem Qax{k:Nat}{l:List α}:Src P H (.rsl k (l.map e)) k (l.map e):=Src.rsl
theorem Y6{i n k t:Nat}{l:List α}(hH:H[i]?=some (.row t k (l.map e)):=by exact rfl)(hn:l.length=n:=by exact rfl):Src P H (.osl i 0 n k) k (l.map e):=
 Src.osl hH (by subst hn;rw[List.drop_zero,VO (by simp)]) (by simp[hn])
theorem JH{t n b T k f:Nat}{x y:Operand}{l l':List α}{i:Int}{v j:α}{vs:List A}{a:A}{off:Nat}(h:idx l i=some v)(hl:QbN l i j=some l')(p:∀w,(sizeOf t).run P w=.ok n w)(d:off=i.toNat*k+f)(g:splice (e v) f vs=e j)
  (m:o.op=.store t x y:=by exact rfl)(hx:opA env x=.ptr b off:=by exact rfl)(hH:H[b]?=some (.row T k (l.map e)):=by exact rfl)
  (hy:opA env y=a:=by exact rfl)(hk:Yf a=true:=by exact rfl)(hv:Q8 a=vs:=by exact rfl)(hn:vs.length=n:=by exact rfl)(hp:vs.all Ym=true:=by exact rfl)(hd:Yo vs=true:=by exact rfl)(hf:Nat.ble (f+n) k=true:=by exact rfl):
  OpU P o env H (H.set b (.row T k (l'.map e))):=by
 refine QhX m hx hH p d (Qez (Qau h).2) hy hk hv hn hp hd hf g ?_;unfold QbN at hl;cases q:(decide (0<=i)&&decide (i<(l.length:Int)))with
 |false=>rw[q]at hl;simp at hl
 |true=>rw[q]at hl;rw[<- X5 hl,List.map_set]
end
def ZR(a:A)(v:Value):Prop:=∀ro σ w,VR ro σ w a v
def ZL(az:List A)(l:List Value):Prop:=∀ro σ w,LR ro σ w az l
theorem ZR.int{k:IntKind}{n:Int}:ZR (.int k n) (.int k n):=λ_ _ _=>rfl
theorem ZR.bool{b:Bool}:ZR (.bool b) (.bool b):=λ_ _ _=>rfl
theorem ZR.str:ZR (.str []) (.string ⟨#[]⟩):=λ_ _ _=>rfl
theorem ZR.rsl{α:Type}{k:Nat}{e:α->List A}:ZR (.rsl k (List.map e [])) (.slice none 0 0):=λ_ _ _=>⟨none,0,rfl,XZ _,.inl rfl⟩
theorem ZR.nils:ZR .nils (.slice none 0 0):=λ_ _ _=>rfl
theorem ZR.nilp:ZR .nilp (.pointer none):=λ_ _ _=>rfl
theorem ZR.nilf:ZR .nilf .nilFunc:=λ_ _ _=>rfl
theorem ZR.nilm:ZR .nilm (.map none):=λ_ _ _=>rfl
theorem QpE:ZR .nilif .nilIface:=λ_ _ _=>rfl
theorem ZL.nil:ZL [] []:=λ_ _ _=>rfl
theorem ZL.cons{a:A}{v:Value}{az:List A}{l:List Value}(h:ZR a v)(k:ZL az l):ZL (a::az) (v::l):=λro σ w=>⟨v,l,rfl,h ro σ w,k ro σ w⟩
theorem ZR.agg{az:List A}{l:List Value}(h:ZL az l):ZR (.agg az) (.agg l.toArray):=λro σ w=>⟨l,rfl,h ro σ w⟩
section
variable {P:Program} {o:Oper} {env:Env} {H:Qd}
theorem Qf5{t:Nat}{z:Value}{v:A}{cs:List A}(h:∀w,(zeroValue t).run P w=.ok z w)(f:ZR v z)(g:o.op=.alloc t:=by exact rfl)(hk:Yf v=true:=by exact rfl)(hcs:Q8 v=cs:=by exact rfl)(hpl:cs.all Ym=true:=by exact rfl):
  OpH P o env H (.ptr H.length 0) (H++[.cells t cs]):=by
 intro j d σ N a w r;obtain⟨l,i,b⟩:=(f d σ w).cells hk;subst hcs;refine⟨.pointer (some ⟨w.heap.size,0,none⟩),w.alloc (.cells l.toArray t),d,[some w.heap.size],?_,⟨w.heap.size,?_,rfl⟩,r.sim.allocCells b (b.plain hpl),Qh.alloc _ r.sim.roLt r.sim.frLt⟩
 .generalize a.eval=ρ at*;have e:(newVar t z).run P w=.ok ⟨w.heap.size,0,none⟩ (w.alloc (.cells l.toArray t)):=by
   unfold newVar;rw[i];rfl
  simp only[execOp,g,Instr.alloc,Vt,h,Result.andThen,e];rfl
 .rw[<- r.sim.len];simp
theorem Qka{t:TypeId}{p q:Bool}{w:World}(a:∀w,(underlying t).run P w=.ok .bool w):(Op.equal t (.bool p) (.bool q)).run P w=.ok (p==q) w:=by
 have k:∀d,(Op.equalIn (d+1) t (.bool p) (.bool q)).run P w=.ok (p==q) w:=by
  intro d;simp[Op.equalIn,a,go_sem]
 exact k 9999
theorem Qf3{t u:TypeId}{x y:Operand}{p q:Bool}(b:∀w,(underlying t).run P w=.ok .bool w)(e:o.op=.binOp .neq t x y u:=by exact rfl)(hx:opA env x=.bool p:=by exact rfl)(hy:opA env y=.bool q:=by exact rfl):OpV P o env H (.bool (p != q)):=by
 intro g h σ N a w r;have f:=Qc1 r hx;have d:=Qc1 r hy;refine⟨_,?_,rfl⟩;generalize a.eval=ρ at*;simp[execOp,e,f,d,Go.binOp,eqGuard,Qka b,go_sem,bne]
theorem QaV{t:TypeId}{x y:Operand}{s:List UInt8}{k:IntKind}{i:Int}{c:UInt8}(h:idx s i=some c)(a:∀w,(underlying t).run P w=.ok .string w)(b:o.op=.index t x y:=by exact rfl)(hx:opA env x=.str s:=by exact rfl)(hy:opA env y=.int k i:=by exact rfl):
  OpV P o env H (.int .u8 c.toNat):=Qmj b a hx hy (Qau h).1 (Qau h).2
theorem QoD{α:Type}{e:α->List A}{T et k:Nat}{x:Operand}{lo hi:Option Operand}{l r:List α}{a b:Int}(h:slc l a b=some r)(E1:∀w,(underlying T).run P w=.ok (.slice et) w)(E2:∀w,(sizeOf et).run P w=.ok k w)
  (g:lo=none/\a=0\/ ∃y,lo=some y/\opA env y=.int .i64 a)(i:hi=none/\b=l.length\/ ∃y,hi=some y/\opA env y=.int .i64 b)
  (j:o.op=.slice T x lo hi none:=by exact rfl)(hx:opA env x=.rsl k (l.map e):=by exact rfl):OpV P o env H (.rsl k (r.map e)):=by
 obtain⟨m,n,p,rfl⟩:=Qdy h;refine QoC (l:=a.toNat) (h:=b.toNat) E1 E2 j hx ?_ ?_ (by omega) (by simp;omega) (by simp)
 .rcases g with⟨f,d⟩|⟨y,f,d⟩
  .exact .inl ⟨f,by rw[d];rfl⟩
  .exact .inr ⟨y,a,f,d,m,rfl⟩
 .rcases i with⟨f,d⟩|⟨y,f,d⟩
  .exact .inl ⟨f,by rw[d];simp⟩
  .exact .inr ⟨y,b,f,d,by omega,rfl⟩
theorem Qmn{c:Call}{t et i n k:Nat}{x:Operand}(a:∀w,(underlying t).run P w=.ok (.slice et) w)(b:o.op=.call c:=by exact rfl)(hc:c={callee:=.builtin .len,args:= #[x],argTypes:= #[t]}:=by exact rfl)
  (hx:opA env x=.osl i 0 n k:=by exact rfl):OpV P o env H (.int .i64 n):=Qjm b hc a hx
end
def Qf(k:IntKind)(n:Int):List A:=[.int k n]
def Qba(b:Bool):List A:=[.bool b]
def encS(s:List UInt8):List A:=[.str s]
def Qn8{α:Type}(k:Nat)(e:α->List A)(l:List α):List A:=[.rsl k (l.map e)]
end Go.Sw
namespace Go.Sw
theorem QmI{P:Program}{rd:Option Nat}{o:Oper}{a:Act}{next:Act->World->Prop}{Q:Exit->Act->World->Prop}{g:Result Next}
  (p:∀a' w',next a' w'->a'.defers=a.defers)(h:o.uponIn (WF rd) 0 P a next Q g):
  o.uponIn (WF rd) 0 P a (λa' w'=>next a' w'/\ ∃v,a'=a.put o.dst v) Q g:=by
 cases g with
 |ok n w'=>
  cases n with
  |value v=>exact⟨h,_,rfl⟩
  |skip=>exact⟨h,_,rfl⟩
  |defer d=>
   have:=congrArg List.length (p _ _ h);exfalso
   revert this
   cases o.dst<;>simp[Act.put]
  |enter f i=>
   exact⟨h.1,CallsIn.mono h.2 (λe j b=>by cases e<;>first|exact⟨b,_,rfl⟩|exact b)⟩
  |row r i=>exact⟨h.1,RowsIn.mono h.2 (λ_ _ b=>⟨b,_,rfl⟩)⟩
  |round l f k assign m=>exact⟨h.1,RoundIn.mono h.2 (λe j b=>by cases e<;>first|exact⟨b,_,rfl⟩|exact b)⟩
  |_=>exact h.elim
 |halt x w'=>cases x<;>first|exact h|exact h.elim
def Y8(e:Env)(H:Qd):QB:=λx e' H'=>x=.normal/\e'=e/\H'=H
theorem Y8.mk{e:Env}{H:Qd}:Y8 e H .normal e H:=⟨rfl,rfl,rfl⟩
inductive Sb (af bf ds:List Nat) (xs:List A) (env0:Env):Env->Prop
 |nil:Sb af bf ds xs env0 []
 |dep (j:Nat) {s:Nat} {a:A} {r:Env} (h1:af.contains j=true) (h2:ds[j]?=some s) (h3:xs[j]?=some a) (k:Sb af bf ds xs env0 r):Sb af bf ds xs env0 ((s,a)::r)
 |old {s:Nat} {a:A} {r:Env} (h1:ds.contains s=false) (h2:lk env0 s=a) (k:Sb af bf ds xs env0 r):Sb af bf ds xs env0 ((s,a)::r)
 |pre (j:Nat) {s:Nat} {a:A} {r:Env} (h1:bf.contains j=true) (h2:ds[j]?=some s) (h3:lk env0 s=a) (k:Sb af bf ds xs env0 r):Sb af bf ds xs env0 ((s,a)::r)
def Qj(o:Oper):List Nat:=(o.after.toList.filter (Region.binds .any)).map (·.on)
def Qja(l:List Oper)(i:Nat):List Nat:=(List.range l.length).filter λj=>((l[j]?).map Qj).getD [] |>.contains i
inductive Qf6 (P:Program) (N:Nat) (l:List Oper) (ds:List Nat) (xs:List A) (env0:Env) (i:Nat) (H H':Qd):Prop
 |mk (o:Oper) (e:Env) (d:Nat) (x:A) (ho:l[i]?=some o) (hd:o.dst=some d) (hx:xs[i]?=some x) (hs:Sb (Qj o) (Qja l i) ds xs env0 e)
   (h:WO P H.length N l.toArray [o] e H (Y8 (up e d x) H')):Qf6 P N l ds xs env0 i H H'
theorem least{p:Nat->Prop}(d:∀i,p i\/ ¬p i):∀n,p n->∃i,i<=n/\p i/\ ∀j,j<i->¬p j:=by
 intro n
 induction n using Nat.strongRecOn with
 |ind n e=>
  intro h;by_cases q:∃j,j<n/\p j
  .obtain⟨j,b,a⟩:=q;obtain⟨i,k,g,f⟩:=e j b a;exact⟨i,by omega,g,f⟩
  .exact⟨n,XZ _,h,λj b a=>q ⟨j,b,a⟩⟩
def onL(L:Array Bool)(i:Nat):Prop:=L[i]?=some true
theorem Qk3{L:Array Bool}{i:Nat}(hi:i<L.size)(b:Bool):L.getD i b=true↔onL L i:=by
 unfold onL;rw[Array.getD_eq_getD_getElem?,Array.getElem?_eq_getElem hi];simp
theorem QaN{l:List Oper}{L:Array Bool}(n:L.size=l.length){i:Nat}:
  i∈Region.ready .any l.toArray L↔ ∃o,l[i]?=some o/\ ¬onL L i/\ ∀j∈Qj o,onL L j:=by
 unfold Region.ready;simp only[Xd,List.mem_range,List.size_toArray,X3,Bool.not_eq_true',XM];have d:∀j,L.getD j false=true↔onL L j:=by
  intro j;unfold onL;rw[Array.getD_eq_getD_getElem?];cases L[j]? <;>simp
 constructor
 .rintro⟨b,f,a⟩;refine⟨l[i],XQ b,?_,?_⟩
  .intro q;rw[<- Qk3 (by omega) true]at q;rw[q]at f;cases f
  .rw[XQ b]at a;simp only[Xj,Option.getD_some,Array.all_eq_true']at a;intro j k;unfold Qj at k;simp only[Xe,Xd,Array.mem_toList_iff]at k;obtain⟨e,⟨g,h⟩,rfl⟩:=k;have:=a e g;rw[h]at this;exact(d _).1 (by simpa using this)
 .rintro⟨o,b,f,a⟩;have m:i<l.length:=(XR.1 b).1;refine⟨m,?_,?_⟩
  .rw[<- Qk3 (by omega) true]at f;simpa using f
  .rw[b];simp only[Xj,Option.getD_some,Array.all_eq_true'];intro e g;cases h:Region.binds .any e with
   |false=>simp
   |true=>
    have:=(d _).2 (a e.on (by unfold Qj;simp only[Xe,Xd,Array.mem_toList_iff];exact⟨e,⟨g,h⟩,rfl⟩));simpa using this
theorem JD{L:Array Bool}{i j:Nat}(hi:i<L.size):onL (L.setIfInBounds i true) j↔j=i\/onL L j:=by
 unfold onL;rw[Vk];by_cases h:i=j
 .subst h;simp[hi]
 .have a:¬j=i:=λq=>h q.symm;simp[h,a]
def unl(L:Array Bool):Nat:=L.toList.countP (!·)
theorem Qhj{L:Array Bool}{i:Nat}(hi:i<L.size)(h:¬onL L i):unl (L.setIfInBounds i true)+1=unl L:=by
 unfold unl;have a:i<L.toList.length:=by simpa using hi
 have b:L.toList[i]=false:=by
  unfold onL at h;rw[Array.getElem?_eq_getElem hi]at h;simpa using h
 rw[Array.toList_setIfInBounds,List.countP_set a];have:0<L.toList.countP (!·):=List.countP_pos_iff.2 ⟨L.toList[i],Vj a,by rw[b];rfl⟩;rw[b,Vz (by rfl),Vy (by decide)];omega
theorem QkG{L:Array Bool}{i:Nat}(hi:i<L.size)(h:¬onL L i):0<unl L:=by have:=Qhj hi h;omega
inductive Qcz (l:List Oper) (m:Nat):Nat->Prop
 |one {o:Oper} {j:Nat} (ho:l[m]?=some o) (hj:j∈Qj o):Qcz l m j
 |step {o:Oper} {i j:Nat} (h:Qcz l m i) (ho:l[i]?=some o) (hj:j∈Qj o):Qcz l m j
def Qe5(l:List Oper):Nat->List Nat->List Nat
 |0,S=>S
 |j+1,S=>Qe5 l j (bif S.contains j then S++(match l[j]? with|some o=>Qj o|none=>[])else S)
theorem Qcd{l:List Oper}{m:Nat}:∀(n:Nat) (S:List Nat),(∀j∈S,Qcz l m j)->∀j∈Qe5 l n S,Qcz l m j
 |0,S,h,j,hj=>h j hj
 |n+1,S,h,j,hj=>by
  refine Qcd n _ ?_ j hj;intro i hi;cases q:S.contains n with
  |false=>rw[q]at hi;exact h i hi
  |true=>
   rw[q]at hi;rcases VJ.1 hi with z|z
   .exact h i z
   .cases ho:l[n]? with
    |none=>rw[ho]at z;cases z
    |some o=>rw[ho]at z;exact .step (h n (by simpa using q)) ho z
def Qaz(ds:List Nat)(xs:List A)(env0:Env):Env:=ds.zip xs++env0
theorem Qpb{a:List Nat}{xs:List A}{env0:Env}(hl:a.length=xs.length)(s:Nat):
  (∃(j:Nat) (x:A),a[j]?=some s/\xs[j]?=some x/\lk (Qaz a xs env0) s=x)\/(a.contains s=false/\lk (Qaz a xs env0) s=lk env0 s):=by
 unfold Qaz
 induction a generalizing xs with
 |nil=>right;simp
 |cons d a g=>
  cases xs with
  |nil=>simp at hl
  |cons x xs=>
   simp only[X6,Nat.add_right_cancel_iff]at hl;simp only[List.zip_cons_cons,VQ,lk];cases h:Nat.beq s d with
   |true=>
    obtain rfl:=XW h;left;exact⟨0,x,rfl,rfl,by simp⟩
   |false=>
    have b:s≠d:=λq=>by subst q;simp[VL]at h
    rcases g hl with⟨j,y,e,f,i⟩|⟨e,f⟩
    .left;exact⟨j+1,y,by simpa using e,by simpa using f,by simpa using i⟩
    .right;refine⟨?_,by simpa using f⟩;simp only[List.contains_cons,e,Bool.or_false];simpa using b
def drawChk.nodupB:List Nat->Bool
 |[]=>true
 |x::r=> !r.contains x&&drawChk.nodupB r
def drawChk.goB(l:List Oper)(m:Nat):Nat->List Oper->Bool
 |_,[]=>true
 |i,o::r=>(Qj o).all (λj=>Nat.blt j i)&&(bif Nat.beq i m then(List.range m).all (λj=>(Qe5 l m (Qj o)).contains j)else bif Nat.blt m i then(Qj o).contains (i-1)else true)&&drawChk.goB l m (i+1) r
def drawChk.loB(m k:Nat)(los:List Nat)(hs:List Bool):Nat->List Oper->Bool
 |_,[]=>(List.range k).all λj=>(List.range m).any λi=>hs.getD i false&&Nat.beq (los.getD i 0) j
 |i,o::r=>(bif Nat.blt i m then
   (Nat.beq (los.getD i 0) 0||(Qj o).any (λj=>Nat.blt j m&&Nat.ble (los.getD i 0) (los.getD j 0+(if hs.getD j false then 1 else 0))))
   &&(!hs.getD i false||(Nat.blt (los.getD i 0) k&&(List.range m).all (λj=> !hs.getD j false|| !Nat.beq (los.getD i 0) (los.getD j 0)||Nat.beq i j)))
  else true)&&drawChk.loB m k los hs (i+1) r
def drawChk(l:List Oper)(m k N:Nat)(ds los:List Nat)(hs:List Bool):Bool:=
 Nat.ble m l.length&&(ds.length==m)&&(l.take m).map (·.dst)==ds.map some&&ds.all (λd=>Nat.blt d N)&&drawChk.nodupB ds
 &&drawChk.goB l m 0 l&&(drawChk.loB m k los hs 0 l)
theorem Qd6{e:List Nat}(h:drawChk.nodupB e=true):∀(i j d:Nat),e[i]?=some d->e[j]?=some d->i=j:=by
 induction e with
 |nil=>intro i j d a;simp at a
 |cons x r g=>
  simp only[drawChk.nodupB,X3,Bool.not_eq_true']at h;have f:∀(i:Nat),r[i]? ≠some x:=by
   intro i q;have:r.contains x=true:=by simpa using VN q
   rw[this]at h;cases h.1
  intro i j d a b;cases i with
  |zero=>
   cases j with
   |zero=>rfl
   |succ j=>simp at a b;subst a;exact absurd b (f j)
  |succ i=>
   cases j with
   |zero=>simp at a b;subst b;exact absurd a (f i)
   |succ j=>simp at a b;rw[g h.2 i j d a b]
theorem QiC{l:List Oper}{m:Nat}:∀(r:List Oper) (b:Nat),drawChk.goB l m b r=true->∀(i:Nat) (o:Oper),r[i]?=some o->
  (∀j∈Qj o,j<b+i)/\(b+i=m->∀j,j<m->j∈Qe5 l m (Qj o))/\(m<b+i->b+i-1∈Qj o):=by
 intro r
 induction r with
 |nil=>intro b h i o d;simp at d
 |cons x r n=>
  intro b h i o d;simp only[drawChk.goB,X3]at h;cases i with
  |zero=>
   simp at d;subst d;refine⟨λj k=>?_,λf j k=>?_,λf=>?_⟩
   .have:=Xv.1 h.1.1 j k;simpa using this
   .have a:=h.1.2;have g:Nat.beq b m=true:=by subst f;simp
    rw[g]at a;simp only[Vv]at a;have:=Xv.1 a j (List.mem_range.2 k);simpa using this
   .have a:=h.1.2;have g:Nat.beq b m=false:=by
     cases q:Nat.beq b m with
     |false=>rfl
     |true=>have:=XW q;omega
    have p:Nat.blt m b=true:=by simpa using f
    rw[g,p]at a;simpa using a
  |succ i=>
   have:=n (b+1) h.2 i o (by simpa using d);have e:b+1+i=b+(i+1):=by omega
   rw[e]at this;exact this
inductive Ob (P:Program) (N:Nat) (l:List Oper) (ds:List Nat) (xs:List A) (env0:Env):Nat->List (List (Qd×Qd))->Prop
 |nil {i:Nat}:Ob P N l ds xs env0 i []
 |cons {i:Nat} {s:List (Qd×Qd)} {r:List (List (Qd×Qd))} (h:∀p∈s,Qf6 P N l ds xs env0 i p.1 p.2) (k:Ob P N l ds xs env0 (i+1) r):Ob P N l ds xs env0 i (s::r)
theorem Ob.get{P:Program}{N:Nat}{l:List Oper}{f:List Nat}{xs:List A}{env0:Env}{b:Nat}{d:List (List (Qd×Qd))}(h:Ob P N l f xs env0 b d):
  ∀(i:Nat) (s:List (Qd×Qd)),d[i]?=some s->∀p∈s,Qf6 P N l f xs env0 (b+i) p.1 p.2:=by
 induction h with
 |nil=>intro i s h;simp at h
 | @cons b1 s1 r1 h _ ih=>
  intro i s a p e;cases i with
  |zero=>simp at a;subst a;exact h p e
  |succ i=>
   have:=ih i s (by simpa using a) p e
   rwa [show b1+1+i=b1+(i+1)by omega]at this
theorem Ob.st0{P:Program}{N:Nat}{l:List Oper}{b:List Nat}{xs:List A}{env0:Env}{i:Nat}:∀p∈([]:List (Qd×Qd)),Qf6 P N l b xs env0 i p.1 p.2:=by
 intro p a;cases a
theorem Ob.stC{P:Program}{N:Nat}{l:List Oper}{a:List Nat}{xs:List A}{env0:Env}{i:Nat}{H H':Qd}{r:List (Qd×Qd)}(h:Qf6 P N l a xs env0 i H H')
  (k:∀p∈r,Qf6 P N l a xs env0 i p.1 p.2):∀p∈(H,H')::r,Qf6 P N l a xs env0 i p.1 p.2:=by
 intro p b;rcases Vc.1 b with rfl|q
 .exact h
 .exact k p q
theorem Qbo.nil{H:Qd}:Qbo H [] []:=trivial
theorem Qbo.cons{H:Qd}{az d f:List A}{a b:A}(e:az=a::d)(h:Look H a b)(k:Qbo H d f):Qbo H az (b::f):=by subst e;exact⟨h,k⟩
section
variable {P:Program} {o:Oper} {env:Env} {H:Qd} {α:Type} {e:α->List A}
end
end Go.Sw
namespace Go.Sw
inductive PL (P:Program):List Field->List (Nat×Nat)->Prop
 |nil:PL P [] []
 |cons {f:Field} {n:Nat} {fs:List Field} {pl:List (Nat×Nat)} (h:∀w,(sizeOf f.type).run P w=.ok n w) (k:PL P fs pl):PL P (f::fs) ((f.offset,n)::pl)
theorem PL.run{P:Program}{fs:List Field}{a:List (Nat×Nat)}(h:PL P fs a):∀w,(fs.mapM λf=>(do pure (f.offset, <- sizeOf f.type):Sem (Nat×Nat))).run P w=.ok a w:=by
 induction h with
 |nil=>intro w;rfl
 |cons h _ ih=>
  intro w;rw[List.mapM_cons];simp only[Vt,h,Result.andThen,Vu,ih]
structure QC (P:Program) (t:TypeId) (pl:List (Nat×Nat)):Prop where
 un:∃fs:List Field,(∀w,(underlying t).run P w=.ok (.struct fs.toArray) w)/\PL P fs pl
section
variable {P:Program} {o:Oper} {env:Env} {H:Qd}
def Qeb(env:Env)(pl:List (Nat×Nat)):List A->List (Nat×Operand)->Option (List A)
 |cs,[]=>some cs
 |cs,(i,x)::r=>match pl[i]? with
  |none=>none
  |some (off,size)=>bif Yf (opA env x)&&Nat.beq (Q8 (opA env x)).length size&&Nat.ble (off+size) cs.length then Qeb env pl (splice cs off (Q8 (opA env x))) r else none
theorem Qfz{fr ro:Nat->Prop}{σ:Sig}{N:Nat}{a:Act}{w:World}(r:Rel fr ro σ H env N a w){b:List (Nat×Nat)}:∀(parts:List (Nat×Operand)) (cs:List A) (l:List Value) (cs':List A),
  LR ro σ w cs l->Qeb env b cs parts=some cs'->
  ∃l',Instr.fill (b.toArray[·]?) l.toArray (parts.map λp=>(p.1,a.eval p.2))=some l'.toArray/\LR ro σ w cs' l'
 |[],cs,l,cs',h,q=>by
  cases q;exact⟨l,rfl,h⟩
 |(i,x)::rest,cs,l,cs',h,q=>by
  unfold Qeb at q;cases hp:b[i]? with
  |none=>rw[hp]at q;cases q
  |some p=>
   obtain⟨off,size⟩:=p;rw[hp]at q;simp only at q;cases hc:(Yf (opA env x)&&Nat.beq (Q8 (opA env x)).length size&&Nat.ble (off+size) cs.length)with
   |false=>rw[hc]at q;cases q
   |true=>
    rw[hc]at q;simp only[X3]at hc;obtain⟨⟨c1,c2⟩,c3⟩:=hc;obtain⟨m,q1,q2⟩:=(Qg r x).cells c1;have hm:m.length=size:=by rw[q2.length];exact XW c2
    have d:l.length=cs.length:=h.length;obtain⟨l',e,f⟩:=Qfz r rest _ (splice l off m) cs' (h.splice off q2) q;refine⟨l',?_,f⟩;rw[Vq,QgJ (off:=off) (size:=size) (by simpa using hp) q1 hm (by rw[d];exact XX c3)];exact e
theorem OpV.build{t:TypeId}{z:Value}{zs cs:List A}{d:List (Nat×Nat)}{parts:List (Nat×Operand)}(g:∀w,(zeroValue t).run P w=.ok z w)(e:ZR (.agg zs) z)(m:QC P t d)
  (f:o.op=.build t parts.toArray:=by exact rfl)(hf:Qeb env d zs parts=some cs:=by exact rfl):OpV P o env H (.agg cs):=by
 intro u h σ N a w r;obtain⟨s,n,q⟩:=m.un;obtain⟨l,rfl,i⟩:=e h σ w;obtain⟨b,k,p⟩:=Qfz r parts zs l cs i hf;refine⟨.agg b.toArray,?_,b,rfl,p⟩;generalize hρ:a.eval=ρ at*;have j:=q.run w;simp only[execOp,f,Instr.build,Vt,g,Result.andThen,n,XO,List.mapM_toArray,Sem.run_map,j,Value.cells,k,Vu]
end
section
variable {P:Program} {o:Oper} {env:Env} {H:Qd}
theorem YC{x:Operand}{a:A}(g:o.op=.nilCheck x)(i:opA env x=a:=by exact rfl)(hk:(match a with|.ptr _ _=>true|.rp _=>true|_=>false)=true:=by exact rfl):OpV P o env H a:=by
 intro k j σ N ac w r;have h:=Qg r x;rw[i]at h;cases a<;>first|(cases hk;done)|skip
 .obtain⟨b,d,f⟩:=h;refine⟨_,?_,b,d,rfl⟩;generalize ac.eval=ρ at*;simp[execOp,g,f,go_sem]
 .obtain⟨b,e,d,f⟩:=h;refine⟨_,?_,b,e,rfl,f⟩;generalize ac.eval=ρ at*;simp[execOp,g,d,go_sem]
end
mutual
def FzA(i k:Nat)(es:List (List A)):A->A->Prop
 |.agg az,b=>∃bs,b=.agg bs/\FzL i k es az bs
 |.fn f x c,b=>∃x' c',b=.fn f x' c'/\FzL i k es x x'/\FzL i k es c c'
 |.iface t a,b=>∃a',b=.iface t a'/\FzA i k es a a'
 |.tup az,b=>∃bs,b=.tup bs/\FzL i k es az bs
 |.osl j o n k',b=>b=.osl j o n k'\/(j=i/\o=0/\k'=k/\n=es.length/\b=.rsl k es)
 |.nils,b=>b=.nils\/ ∃k',b=.rsl k' []
 |a,b=>b=a
def FzL(i k:Nat)(es:List (List A)):List A->List A->Prop
 |[],b=>b=[]
 |a::az,b=>∃a' as',b=a'::as'/\FzA i k es a a'/\FzL i k es az as'
end
mutual
theorem FzA.refl{i k:Nat}{es:List (List A)}:∀a:A,FzA i k es a a
 |.agg az=>⟨az,rfl,FzL.refl az⟩
 |.fn _ x c=>⟨x,c,rfl,FzL.refl x,FzL.refl c⟩
 |.iface _ a=>⟨a,rfl,FzA.refl a⟩
 |.tup az=>⟨az,rfl,FzL.refl az⟩
 |.osl _ _ _ _=>.inl rfl
 |.nils=>.inl rfl
 |.any=>rfl
 |.bool _=>rfl
 |.int _ _=>rfl
 |.str _=>rfl
 |.nilp=>rfl
 |.ptr _ _=>rfl
 |.rp _=>rfl
 |.rsl _ _=>rfl
 |.nilf=>rfl
 |.nilif=>rfl
 |.map _=>rfl
 |.nilm=>rfl
theorem FzL.refl{i k:Nat}{es:List (List A)}:∀az:List A,FzL i k es az az
 |[]=>rfl
 |a::az=>⟨a,az,rfl,FzA.refl a,FzL.refl az⟩
end
theorem FzA.agg{i k:Nat}{es:List (List A)}{az bs:List A}(h:FzL i k es az bs):FzA i k es (.agg az) (.agg bs):=⟨bs,rfl,h⟩
theorem FzA.tup{i k:Nat}{es:List (List A)}{az bs:List A}(h:FzL i k es az bs):FzA i k es (.tup az) (.tup bs):=⟨bs,rfl,h⟩
theorem FzA.iface{i k:Nat}{es:List (List A)}{t:Nat}{a b:A}(h:FzA i k es a b):FzA i k es (.iface t a) (.iface t b):=⟨b,rfl,h⟩
theorem FzA.own{i k n:Nat}{es:List (List A)}(hn:n=es.length):FzA i k es (.osl i 0 n k) (.rsl k es):=.inr ⟨rfl,rfl,rfl,hn,rfl⟩
theorem FzA.nil{i k k':Nat}{es:List (List A)}:FzA i k es .nils (.rsl k' []):=.inr ⟨k',rfl⟩
theorem FzL.cons{i k:Nat}{es:List (List A)}{a b:A}{az bs:List A}(h:FzA i k es a b)(q:FzL i k es az bs):FzL i k es (a::az) (b::bs):=⟨b,bs,rfl,h,q⟩
mutual
theorem Qkz{i k:Nat}{es:List (List A)}{ro ro':Nat->Prop}{σ:Sig}{w:World}(ext:Ext ro σ w ro' σ w)
  (hf:∀v,VR ro σ w (.osl i 0 es.length k) v->VR ro' σ w (.rsl k es) v):∀(a b:A) (v:Value),FzA i k es a b->VR ro σ w a v->VR ro' σ w b v
 |.agg az,b,v,h,q=>by
  obtain⟨bs,rfl,h⟩:=h;obtain⟨l,rfl,q⟩:=q;exact⟨l,rfl,QdX ext hf az bs l h q⟩
 |.fn f x c,b,v,h,q=>by
  obtain⟨x',c',rfl,h1,h2⟩:=h;obtain⟨l,l',rfl,q1,q2⟩:=q;exact⟨l,l',rfl,QdX ext hf x x' l h1 q1,QdX ext hf c c' l' h2 q2⟩
 |.iface t a,b,v,h,q=>by
  obtain⟨a',rfl,h⟩:=h;obtain⟨x,rfl,q⟩:=q;exact⟨x,rfl,Qkz ext hf a a' x h q⟩
 |.tup az,b,v,h,q=>by
  obtain⟨bs,rfl,h⟩:=h;obtain⟨l,rfl,q⟩:=q;exact⟨l,rfl,QdX ext hf az bs l h q⟩
 |.osl j o n k',b,v,h,q=>by
  rcases h with rfl|⟨rfl,rfl,rfl,rfl,rfl⟩
  .exact q.mono ext
  .exact hf v q
 |.nils,b,v,h,q=>by
  rcases h with rfl|⟨k',rfl⟩
  .exact q
  .obtain rfl:v=.slice none 0 0:=q;exact⟨none,0,rfl,XZ _,.inl rfl⟩
 |.any,b,v,h,q=>by obtain rfl:b=_:=h;trivial
 |.bool _,b,v,h,q=>by obtain rfl:b=_:=h;exact q
 |.int _ _,b,v,h,q=>by obtain rfl:b=_:=h;exact q
 |.str _,b,v,h,q=>by obtain rfl:b=_:=h;exact q
 |.nilp,b,v,h,q=>by obtain rfl:b=_:=h;exact q
 |.ptr _ _,b,v,h,q=>by obtain rfl:b=_:=h;exact q.mono ext
 |.rp _,b,v,h,q=>by obtain rfl:b=_:=h;exact q.mono ext
 |.rsl _ _,b,v,h,q=>by obtain rfl:b=_:=h;exact q.mono ext
 |.nilf,b,v,h,q=>by obtain rfl:b=_:=h;exact q
 |.nilif,b,v,h,q=>by obtain rfl:b=_:=h;exact q
 |.map _,b,v,h,q=>by obtain rfl:b=_:=h;exact q.mono ext
 |.nilm,b,v,h,q=>by obtain rfl:b=_:=h;exact q
theorem QdX{i k:Nat}{es:List (List A)}{ro ro':Nat->Prop}{σ:Sig}{w:World}(ext:Ext ro σ w ro' σ w)
  (hf:∀v,VR ro σ w (.osl i 0 es.length k) v->VR ro' σ w (.rsl k es) v):∀(az bs:List A) (l:List Value),FzL i k es az bs->LR ro σ w az l->LR ro' σ w bs l
 |[],bs,l,h,q=>by obtain rfl:bs=[]:=h;exact q
 |a::az,bs,l,h,q=>by
  obtain⟨a',as',rfl,h1,h2⟩:=h;obtain⟨v,l',rfl,q1,q2⟩:=q;exact⟨v,l',rfl,Qkz ext hf a a' v h1 q1,QdX ext hf az as' l' h2 q2⟩
end
def FzB(i k:Nat)(es:List (List A))(x y:Blk):Prop:=y=x\/ ∃t cs cs',x=.cells t cs/\y=.cells t cs'/\FzL i k es cs cs'
def FzH(i k:Nat)(es:List (List A)):Qd->Qd->Prop
 |[],h=>h=[]
 |x::r,h=>∃y r',h=y::r'/\FzB i k es x y/\FzH i k es r r'
def QoK(i k:Nat)(es:List (List A))(env:Env):Env->Prop
 |[]=>True
 |(s,a)::r=>FzA i k es (lk env s) a/\QoK i k es env r
theorem FzH.nil{i k:Nat}{es:List (List A)}:FzH i k es [] []:=rfl
theorem FzH.keep{i k:Nat}{es:List (List A)}{x:Blk}{r r':Qd}(h:FzH i k es r r'):FzH i k es (x::r) (x::r'):=⟨x,r',rfl,.inl rfl,h⟩
theorem FzH.cells{i k t:Nat}{es:List (List A)}{cs cs':List A}{r r':Qd}(q:FzL i k es cs cs')(h:FzH i k es r r'):FzH i k es (.cells t cs::r) (.cells t cs'::r'):=⟨_,r',rfl,.inr ⟨t,cs,cs',rfl,rfl,q⟩,h⟩
theorem FzH.get{i k:Nat}{es:List (List A)}:∀{H H':Qd},FzH i k es H H'->∀(j:Nat) (y:Blk),H'[j]?=some y->∃x,H[j]?=some x/\FzB i k es x y
 |[],_,h,j,y,q=>by obtain rfl:_=[]:=h;simp at q
 |x::r,_,h,j,y,q=>by
  obtain⟨y',r',rfl,h1,h2⟩:=h;cases j with
  |zero=>simp at q;subst q;exact⟨x,rfl,h1⟩
  |succ j=>simp at q;obtain⟨x',p1,p2⟩:=h2.get j y q;exact⟨x',by simpa using p1,p2⟩
theorem FzH.len{i k:Nat}{es:List (List A)}:∀{H H':Qd},FzH i k es H H'->H'.length=H.length
 |[],_,h=>by obtain rfl:_=[]:=h;rfl
 |x::r,_,h=>by obtain⟨y',r',rfl,h1,h2⟩:=h;simp[h2.len]
theorem FzB.live{i k:Nat}{es:List (List A)}{x y:Blk}(h:FzB i k es x y):y.live=x.live:=by
 rcases h with rfl|⟨t,b,a,rfl,rfl,_⟩<;>rfl
theorem JI{env:Env}{H H':Qd}{h0 i k t:Nat}{es:List (List A)}(ov:Env)(hi:Nat.ble h0 i=true)(hH:H[i]?=some (.row t k es))(R:QoK i k es env ov)(M:FzH i k es (H.set i .dead) H'):Le h0 env H (ov++env) H':=by
 intro fr O σ N a w r
 let ro':Nat->Prop:=λb=>O b\/σ[i]?=some (some b)
 have u:∀b,σ[i]?=some (some b)->b<w.heap.size/\ ¬O b/\ ¬fr b:=λb h=>r.sim.own i b _ h hH rfl;have ext:Ext O σ w ro' σ w:=⟨λ_ q=>.inl q,λ_ _=>rfl,λ_ _ q=>q,λ_ _ q=>q⟩;have hf:∀v,VR O σ w (.osl i 0 es.length k) v->VR ro' σ w (.rsl k es) v:=by
  intro v h;rcases h with⟨h0,h⟩|⟨b,p,E,t',m,g,h,n,⟨B,aa⟩,h4,h5⟩
  .have:es=[]:=VP.1 h0;subst this;exact⟨none,0,h,XZ _,.inl rfl⟩
  .refine⟨_,E,h,B,?_⟩;by_cases he:es=[]
   .exact .inl he
   .right;have hc:0<E:=Vl (List.length_pos_iff.2 he) B;obtain rfl:=n hc;obtain⟨l,Y,T⟩:=r.sim.blk i _ _ g hH;refine⟨b,0,by simp,.inr g,?_⟩;have:=YV (pre:=[]) (by simpa using Y) T;exact this.keep ⟨λ_ q=>.inl q,λ_ _=>rfl,λ_ _ q=>q,λ_ _ q=>q⟩ rfl
 have f:∀(j:Nat) (y:Blk),H'[j]?=some y->y≠ .dead->j≠i/\ ∃x,H[j]?=some x/\FzB i k es x y:=by
  intro j y h P;obtain⟨x,g,n⟩:=M.get j y h;by_cases e:j=i
  .subst e;rw[Xb]at g;simp only[if_true]at g;split at g
   .cases g;rcases n with rfl|⟨_,_,_,q,_,_⟩
    .exact absurd rfl P
    .cases q
   .simp at g
  .rw[XV (λq=>e q.symm)]at g;exact⟨e,x,g,n⟩
 refine⟨ro',σ,⟨⟨by rw[M.len,X9];exact r.sim.len,r.sim.roOk.to (λ_ q=>.inl q) (λ_ _=>rfl) ?_,r.sim.frLt,?_,?_,?_,?_,r.sim.hidTo (· = ·) Q0 (XZ _) (λj b x c Y T q3 q4=>q4.elim id λq=>((r.sim.hid j b x c Y T q3).ne i c _ q hH rfl rfl).elim) (λ_ _ _ _ _ _ _ q=>q) λj d y Q X g3=>.inl ?_⟩,?_,r.size,r.defers⟩,λ_ q=>.inl q,rfl⟩
 rotate_left 5
 .obtain⟨_,x,g4,g5⟩:=f j y X (QeL g3);exact⟨j,x,rfl,Q,g4,λz=>by rw[<- g5.live];exact z,λc q=>by rcases g5 with rfl|⟨t,cs,J,rfl,rfl,_⟩;exact q;exact q.elim⟩
 rotate_left 1
 .rintro b (q|q)
  .exact r.sim.roLt b q
  .exact(u b q).1
 .rintro b (q|q)
  .exact r.sim.roFr b q
  .exact(u b q).2.2
 .intro j b v g n B;obtain⟨e,x,n,F⟩:=f j v n (Qay B);have hx:x.live=true:=by rw[<- F.live];exact B
  obtain⟨L,G,p3⟩:=r.sim.own j b x g n hx;refine⟨L,?_,p3⟩;rintro(q|q)
  .exact G q
  .exact e (r.sim.inj j i b x _ g q n hH hx rfl)
 .intro j j' b v v' g n B h4 h5 h6;obtain⟨_,x,L,G⟩:=f j v B (Qay h5);obtain⟨_,x',V,W⟩:=f j' v' h4 (Qay h6);exact r.sim.inj j j' b x x' g n L V (by rw[<- G.live];exact h5) (by rw[<- W.live];exact h6)
 .intro j s v g n;by_cases P:v≠ .dead
  .obtain⟨_,x,L,G⟩:=f j v n P;have F:=r.sim.blk j s x g L;rcases G with rfl|⟨t,cs,J,rfl,rfl,q⟩
   .exact F.keep ext (λ_ _ _=>rfl) (λ_ _ _ _=>rfl)
   .cases s with
    |none=>exact F.elim
    |some b=>
     obtain⟨l,e1,e2,e3⟩:=F;exact⟨l,e1,QdX ext hf cs J l q e2,e3⟩
  .obtain rfl:v=.dead:=Classical.not_not.1 P;trivial
 .intro s
  induction ov with
  |nil=>exact(r.env s).mono ext
  |cons p ov ih=>
   obtain⟨s1,a1⟩:=p;obtain⟨Q,X⟩:=R;simp only[VQ,lk];cases q:Nat.beq s s1 with
   |true=>
    obtain rfl:=XW q;exact Qkz ext hf _ _ _ Q (r.env s)
   |false=>exact ih X
theorem QoK.nil{i k:Nat}{es:List (List A)}{env:Env}:QoK i k es env []:=trivial
theorem QoK.cons{i k s:Nat}{es:List (List A)}{env:Env}{a b:A}{r:Env}(h:lk env s=a)(q:FzA i k es a b)(g:QoK i k es env r):QoK i k es env ((s,b)::r):=⟨h▸q,g⟩
def Qdn(P:Program)(env:Env)(H:Qd)(l:ResultVar)(x:A):Prop:=
 ∀fr ro σ N a w,Rel fr ro σ H env N a w->∃v,((match l with
  |.tmp t=>pure (a.tmps.getD t undef)
  |.cell b t=>do loadVar t (<- asAddr (a.tmps.getD b undef)):Sem Value)).run P w=.ok v w/\VR ro σ w x v
def Qkn(P:Program)(env:Env)(H:Qd):List ResultVar->List A->Prop
 |[],xs=>xs=[]
 |l::ls,xs=>∃x xs',xs=x::xs'/\Qdn P env H l x/\Qkn P env H ls xs'
section
variable {P:Program} {fn:Func} {env:Env} {H:Qd}
theorem Qdn.tmp{t:Nat}{x:A}(b:lk env t=x:=by exact rfl):Qdn P env H (.tmp t) x:=
 λfr ro σ N a w r=>⟨a.tmps.getD t undef,rfl,b▸r.env t⟩
theorem Qdn.cell{b t:Nat}{p x:A}{cs:List A}(e:∀w,(isAgg t).run P w=.ok false w)(j:Pts H p (x::cs))(f:lk env b=p:=by exact rfl):Qdn P env H (.cell b t) x:=by
 intro k g σ N a w r;have d:=r.env b;rw[f]at d;obtain⟨n,l,m,⟨y,h,_,i⟩,_⟩:=j k g σ w _ r.sim d;refine⟨y,?_,i⟩;simp only[m];simp[asAddr,loadVar,e,Go.load,Sem.run,h,go_sem]
theorem Qel{b t n:Nat}{p:A}{cs:List A}(g:∀w,(isAgg t).run P w=.ok true w)(f:∀w,(sizeOf t).run P w=.ok n w)(k:Pts H p cs)(h:lk env b=p:=by exact rfl)(hl:(cs.take n).length=n:=by exact rfl):
  Qdn P env H (.cell b t) (.agg (cs.take n)):=by
 intro m i σ N a w r;have e:=r.env b;rw[h]at e;obtain⟨u,off,s,j⟩:=k m i σ w _ r.sim e;obtain⟨l,q,_,d⟩:=YI (P:=P) (cs:=cs.take n) (off:=off) 0 (by simpa using j.take n);have d:=d w #[] rfl;rw[hl]at d;refine⟨.agg l.toArray,?_,l,rfl,q⟩;simp only[s];simp[asAddr,loadVar,g,f,loadCells,d,go_sem]
theorem Qm{b t n i T:Nat}{cs:List A}(e:∀w,(isAgg t).run P w=.ok true w)(d:∀w,(sizeOf t).run P w=.ok n w)(a:lk env b=.ptr i 0)(hH:H[i]?=some (.cells T cs))(hl:cs.length=n):
  Qdn P env H (.cell b t) (.agg cs):=by
 have:=Qel (b:=b) (p:=.ptr i 0) e d (Pts.cells (off:=0) hH rfl) a (by subst hl;simp);subst hl;simpa using this
theorem Qar{b t i T:Nat}{x:A}(ha:∀w,(isAgg t).run P w=.ok false w)(hx:lk env b=.ptr i 0)(hH:H[i]?=some (.cells T [x])):Qdn P env H (.cell b t) x:=
 Qdn.cell (p:=.ptr i 0) (cs:=[]) ha (Pts.cells (off:=0) hH rfl) hx
theorem Qkn.nil:Qkn P env H [] []:=rfl
theorem Qkn.cons{l:ResultVar}{ls:List ResultVar}{x:A}{xs:List A}(h:Qdn P env H l x)(k:Qkn P env H ls xs):Qkn P env H (l::ls) (x::xs):=⟨x,xs,rfl,h,k⟩
theorem Qkn.run{fr ro:Nat->Prop}{σ:Sig}{N:Nat}{a:Act}{w:World}(r:Rel fr ro σ H env N a w):∀{ls:List ResultVar} {xs:List A},Qkn P env H ls xs->
  ∃vs:List Value,(ls.mapM λl=>(match l with
   |.tmp t=>pure (a.tmps.getD t undef)
   |.cell b t=>do loadVar t (<- asAddr (a.tmps.getD b undef)):Sem Value)).run P w=.ok vs w/\LR ro σ w xs vs
 |[],_,h=>by obtain rfl:_=[]:=h;exact⟨[],rfl,rfl⟩
 |l::ls,_,h=>by
  obtain⟨x,xs,rfl,h1,h2⟩:=h;obtain⟨v,e1,e2⟩:=h1 fr ro σ N a w r;obtain⟨vs,e3,e4⟩:=Qkn.run r h2;refine⟨v::vs,?_,v,vs,rfl,e2,e4⟩;rw[List.mapM_cons];simp only[Vt,e1,Result.andThen,e3,Vu]
theorem Qu{ls:List ResultVar}{xs:List A}(h:fn.results=ls.toArray)(d:Nat.beq ls.length 1=false)(k:Qkn P env H ls xs):Qcy P fn env H (.tup xs):=by
 intro n m σ N a w r;obtain⟨vs,i,e⟩:=k.run r;have b:¬vs.length=1:=by
  have:∀{ls:List ResultVar} {xs:List A},Qkn P env H ls xs->xs.length=ls.length:=by
   intro ls
   induction ls with
   |nil=>intro xs h;obtain rfl:xs=[]:=h;rfl
   |cons l ls f=>intro xs h;obtain⟨x,g,rfl,_,j⟩:=h;simp[f j]
  rw[e.length,this k];intro q;rw[q]at d;cases d
 refine⟨.tuple vs.toArray,?_,vs,rfl,e⟩;unfold results;rw[h];rw[List.mapM_toArray,Vt,Sem.run_map]
 erw [i]
 simp[Result.andThen,b,Vu]
theorem YJ{l:ResultVar}{x:A}(h:fn.results= #[l])(k:Qdn P env H l x):Qcy P fn env H x:=by
 intro e f σ N a w r;obtain⟨vs,d,b⟩:=(Qkn.cons k Qkn.nil).run r;obtain⟨v,_,rfl,b,rfl⟩:=b;refine⟨v,?_,b⟩;unfold results;rw[h,show #[l]=[l].toArray from rfl];rw[List.mapM_toArray,Vt,Sem.run_map]
 erw [d]
 rfl
end
end Go.Sw
namespace Go.Sw
mutual
def QbT:A->Bool
 |.bool _=>true
 |.int _ _=>true
 |.str _=>true
 |.agg cs=>QeW cs
 |_=>false
def QeW:List A->Bool
 |[]=>true
 |a::r=>QbT a&&QeW r
end
mutual
def QO:A->Value
 |.bool b=>.bool b
 |.int k n=>.int k n
 |.str s=>.string ⟨s.toArray⟩
 |.agg cs=>.agg (YW cs).toArray
 |_=>.bool false
def YW:List A->List Value
 |[]=>[]
 |a::r=>QO a::YW r
end
mutual
theorem VR.val{ro:Nat->Prop}{σ:Sig}{w:World}:∀{a:A} {v:Value},QbT a=true->VR ro σ w a v->v=QO a
 |.bool _,_,_,h=>h
 |.int _ _,_,_,h=>h
 |.str _,_,_,h=>h
 |.agg cs,v,hs,h=>by
  obtain⟨l,rfl,h⟩:=h;rw[QO,LR.val hs h]
theorem LR.val{ro:Nat->Prop}{σ:Sig}{w:World}:∀{az:List A} {l:List Value},QeW az=true->LR ro σ w az l->l=YW az
 |[],l,_,h=>h
 |a::r,l,hs,h=>by
  obtain⟨v,l',rfl,h1,h2⟩:=h;simp only[QeW,X3]at hs;rw[YW,VR.val hs.1 h1,LR.val hs.2 h2]
end
mutual
theorem Qb7{ro:Nat->Prop}{σ:Sig}{w:World}:∀{a:A},QbT a=true->VR ro σ w a (QO a)
 |.bool _,_=>rfl
 |.int _ _,_=>rfl
 |.str _,_=>rfl
 |.agg cs,hs=>⟨YW cs,rfl,Qf8 hs⟩
theorem Qf8{ro:Nat->Prop}{σ:Sig}{w:World}:∀{az:List A},QeW az=true->LR ro σ w az (YW az)
 |[],_=>rfl
 |a::r,hs=>by
  simp only[QeW,X3]at hs;exact⟨_,_,rfl,Qb7 hs.1,Qf8 hs.2⟩
end
end Go.Sw
namespace Go.Sw
open Go.MapKept
structure Y1 (P:Program) (kt:TypeId) {α:Type} (ek:α->A):Prop where
 scl:∀x,QbT (ek x)=true
 inj:∀x y,QO (ek x)=QO (ek y)->x=y
 check:∀(w:World) em x,(Instr.checkKey em 10000 kt (QO (ek x))).run P w=.ok () w
 find:∀(w:World) x (es:List MapEntry),(∀e∈es,∃y,e.key=QO (ek y))->
  ((Instr.findKey kt (QO (ek x)) es).run P w=.ok none w/\ ∀e∈es,e.key≠QO (ek x))\/ ∃j e,(Instr.findKey kt (QO (ek x)) es).run P w=.ok (some (j,e.val)) w/\es[j]?=some e/\e.key=QO (ek x)
 stays:∀(w:World) x,(Instr.keyThatStays (QO (ek x)) (QO (ek x))).run P w=.ok (QO (ek x)) w
section
variable {P:Program} {kt:TypeId}
theorem Y1.plain{α:Type}{ek:α->A}{d:TypeDesc}(e:P.underlying kt=some d)(a:∀x,IsKey d (QO (ek x)))(m:∀x,QbT (ek x)=true)(hi:∀x y,QO (ek x)=QO (ek y)->x=y):Y1 P kt ek:=by
 refine⟨m,hi,λw p x=>run_checkKey e (a x) p 9999,λw x i g=>?_,λw x=>run_keyThatStays (a x)⟩
 .have b:∀y∈i,IsKey d y.key:=λy r=>by
   obtain⟨l,k⟩:=g y r;rw[k];exact a l
  rcases findNow_spec (a x) i 0 b with⟨f,h⟩|⟨j,n,f,h,q⟩
  .exact Or.inl ⟨run_findKey e f,h⟩
  .exact Or.inr ⟨j,n,by simpa using run_findKey e f,h,q⟩
theorem Y1.int{q:IntKind}(hk:P.underlying kt=some (.int q)):Y1 P kt (λn=>A.int q n):=
 Y1.plain hk (λx=>by simp[IsKey,QO]) (λ_=>rfl) (λx y h=>by simpa[QO]using h)
theorem Y1.str(hk:P.underlying kt=some .string):Y1 P kt A.str:=
 Y1.plain hk (λx=>by simp[IsKey,QO]) (λ_=>rfl) (λx y h=>by simpa[QO]using h)
theorem Y1.struct{α:Type}[DecidableEq α]{ek:α->A}{fs:Array Field}(r:P.underlying kt=some (.struct fs))(s:∀x,QbT (ek x)=true)(hi:∀x y,QO (ek x)=QO (ek y)->x=y)
  (F:∀(w:World) em x,(Instr.checkKey em 10000 kt (QO (ek x))).run P w=.ok () w)
  (he:∀(w:World) x y,(Op.equal kt (QO (ek x)) (QO (ek y))).run P w=.ok (decide (x=y)) w)(G:∀x,Instr.sameBits 10000 (QO (ek x)) (QO (ek x))=true):Y1 P kt ek:=by
 refine⟨s,hi,F,λw x a m=>?_,λw x=>by simp[Instr.keyThatStays,G x]⟩
 .have d:∀(a:List MapEntry) (i:Nat),(∀e∈a,∃y,e.key=QO (ek y))->
    ((Instr.findAsking kt (QO (ek x)) a i).run P w=.ok none w/\ ∀e∈a,e.key≠QO (ek x))\/
    ∃j e,(Instr.findAsking kt (QO (ek x)) a i).run P w=.ok (some (i+j,e.val)) w/\a[j]?=some e/\e.key=QO (ek x):=by
   intro a
   induction a with
   |nil=>intro i _;exact .inl ⟨by simp[Instr.findAsking],by simp⟩
   |cons e a u=>
    intro i f;obtain⟨y,h⟩:=f e (by simp);have k:=he w x y;by_cases b:x=y
    .subst b;exact .inr ⟨0,e,by simp[Instr.findAsking,h,k],rfl,h⟩
    .rcases u (i+1) (λz g=>f z (by simp[g]))with⟨p,l⟩|⟨j,H,p,l,E⟩
     .refine .inl ⟨by simp[Instr.findAsking,h,k,b,p],λz g=>?_⟩;rcases Vc.1 g with rfl|g
      .rw[h];intro q;exact b (hi _ _ q).symm
      .exact l z g
     .exact .inr ⟨j+1,H,by simp[Instr.findAsking,h,k,b,p,Nat.add_assoc,Nat.add_comm 1 j],by simpa using l,E⟩
  cases a with
  |nil=>exact .inl ⟨by simp[Instr.findKey,run_underlying r,Instr.findNow,Result.andThen],by simp⟩
  |cons e a=>
   have B:Instr.findNow (.struct fs) (QO (ek x)) (e::a) 0=none:=by
    simp only[Instr.findNow];have:∀v n,Instr.sameNow (.struct fs) v n=none:=by intro v n;cases v<;>cases n<;>rfl
    rw[this]
   have t:(Instr.findKey kt (QO (ek x)) (e::a)).run P w=(Instr.findAsking kt (QO (ek x)) (e::a) 0).run P w:=by
    simp only[Instr.findKey,Vt,run_underlying r,Result.andThen,B]
   rw[t];simpa using d (e::a) 0 m
def YF{α β:Type}[DecidableEq α](l:List (α×β))(k:α):Option β:=(l.find? λp=>decide (p.1=k)).map (·.2)
def QE{α β:Type}[DecidableEq α](l:List (α×β))(k:α)(v:β):List (α×β):=bif l.any λp=>decide (p.1=k)then l.map λp=>bif decide (p.1=k)then(p.1,v)else p else l++[(k,v)]
def QI{α β:Type}[DecidableEq α](l:List (α×β))(k:α)(z:β):β:=(YF l k).getD z
def Qab{α β:Type}[DecidableEq α](l:List (α×β))(k:α):Bool:=l.any λp=>decide (p.1=k)
def Qi{α β:Type}(ek:α->A)(ev:β->A)(l:List (α×β)):List (A×A):=l.map λp=>(ek p.1,ev p.2)
section
variable {α β:Type} [DecidableEq α] {ek:α->A} {ev:β->A} {ro:Nat->Prop} {σ:Sig} {w:World} (K:Y1 P kt ek)
include K
theorem Qh3:∀{l:List (α×β)} {es:List MapEntry},ER ro σ w (Qi ek ev l) es->es.map (·.key)=l.map λp=>QO (ek p.1)
 |[],es,h=>by cases(show es=[]from h);rfl
 |p::l,es,h=>by
  obtain⟨e,l',rfl,h1,h2,h3⟩:=h;simp only[Vq];rw[VR.val (K.scl _) h1,Qh3 (l:=l) h3]
theorem QaZ{l:List (α×β)}{es:List MapEntry}(h:ER ro σ w (Qi ek ev l) es):∀e∈es,∃y,e.key=QO (ek y):=by
 intro e a;have:e.key∈es.map (·.key):=VM a;rw[Qh3 K h]at this;obtain⟨p,_,b⟩:=Xe.1 this;exact⟨p.1,b.symm⟩
theorem ER.find:∀{l:List (α×β)} {es:List MapEntry},ER ro σ w (Qi ek ev l) es->∀(x:α),(es.map (·.key)).Nodup->
  ((∀e:MapEntry,e∈es->e.key≠QO (ek x))->YF l x=none/\Qab l x=false)/\
  (∀(j:Nat) (e:MapEntry),es[j]?=some e->e.key=QO (ek x)->Qab l x=true/\ ∃v,YF l x=some v/\VR ro σ w (ev v) e.val)
 |[],es,h,x,_=>by
  cases(show es=[]from h);exact⟨λ_=>⟨rfl,rfl⟩,λj e he=>by simp at he⟩
 |p::l,es,h,x,hn=>by
  obtain⟨e0,l',rfl,h1,h2,h3⟩:=h;have hk:e0.key=QO (ek p.1):=VR.val (K.scl _) h1;simp only[Vq,List.nodup_cons]at hn;obtain⟨a1,a2⟩:=ER.find (l:=l) h3 x hn.2;by_cases hp:p.1=x
  .subst hp;constructor
   .intro q;exact absurd hk (q e0 (by simp))
   .intro j e he hx;cases j with
    |zero=>
     simp only[XK,Option.some.injEq]at he;subst he;exact⟨by simp[Qab],p.2,by simp[YF],h2⟩
    |succ j=>
     simp only[XL]at he;exact absurd (hk.trans hx.symm▸VM (f:=λe:MapEntry=>e.key) (VN he)) hn.1
  .have e1:YF (p::l) x=YF l x:=by simp[YF,hp]
   have a:Qab (p::l) x=Qab l x:=by simp[Qab,hp]
   rw[e1,a];constructor
   .intro q;exact a1 λe he=>q e (by simp[he])
   .intro j e he hx;cases j with
    |zero=>
     simp only[XK,Option.some.injEq]at he;subst he;exact absurd (K.inj _ _ (hk.symm.trans hx)) hp
    |succ j=>exact a2 j e (by simpa using he) hx
end
end
end Go.Sw
namespace Go.Sw
open Go.MapKept
section
variable {P:Program} {o:Oper} {env:Env} {H:Qd}
theorem Ye{T:Nat}(b:o.op=.makeMap T none:=by exact rfl):OpH P o env H (.map H.length) (H++[.map []]):=by
 intro e d σ N a w r;refine⟨.map (some w.heap.size),w.alloc (.map #[] 0),d,[some w.heap.size],?_,⟨w.heap.size,?_,rfl⟩,r.sim.alloc ⟨#[],0,Q6 _ _,rfl,by simp,by simp,by simp⟩,Qh.alloc _ r.sim.roLt r.sim.frLt⟩
 .generalize a.eval=ρ at*;simp only[execOp,b,Instr.makeMap,Xk,Vt];rfl
 .rw[<- r.sim.len];simp
section
variable {T kt et:Nat} {α β:Type} [DecidableEq α] {ek:α->A} {ev:β->A} {x y:Operand} {i:Nat} {l:List (α×β)} {k:α} {z0:β} {z:Value}
theorem QcC(K:Y1 P kt ek){ro:Nat->Prop}{w:World}(m:P.underlying T=some (.map kt et))(s:∀w,(zeroValue et).run P w=.ok z w)(d:ZR (ev z0) z){b a:Nat}{es:Array MapEntry}
  (n:w.heap[b]?=some (.map es a))(he:ER ro [] w (Qi ek ev l) es.toList)(t:(es.toList.map (·.key)).Nodup):
  ∃v,(∀ck,(Instr.lookup T (.map (some b)) (QO (ek k)) ck).run P w=.ok (if ck then .tuple #[v,.bool (Qab l k)]else v) w)/\VR ro [] w (ev (QI l k z0)) v:=by
 obtain⟨r,p⟩:=ER.find K he k t;rcases K.find w k es.toList (QaZ K he)with⟨h,i⟩|⟨j,e,h,i,u⟩
 .obtain⟨g,f⟩:=r i;refine⟨z,λck=>?_,?_⟩
  .simp only[Instr.lookup,Vt,run_underlying m,Result.andThen,MapKept.run_getObj_map n,Vu,K.check,h,s,f]
  .rw[QI,g];exact d _ _ _
 .obtain⟨g,v,f,q⟩:=p j e i u;refine⟨e.val,λck=>?_,?_⟩
  .simp only[Instr.lookup,Vt,run_underlying m,Result.andThen,MapKept.run_getObj_map n,Vu,K.check,h,g]
  .rw[QI,f];exact q
theorem Y9{zv:β}(K:Y1 P kt ek)(E:some (QI l k z0)=some zv)(p:P.underlying T=some (.map kt et))(n:∀w,(zeroValue et).run P w=.ok z w)(e:ZR (ev z0) z)
  (m:o.op=.lookup T x y false:=by exact rfl)(hx:opA env x=.map i:=by exact rfl)(hH:H[i]?=some (.map (Qi ek ev l)):=by exact rfl)(hy:opA env y=ek k:=by exact rfl):OpV P o env H (ev zv):=by
 obtain rfl:=X5 E;intro R M σ N a w r;have g:=Qg r x;rw[hx]at g;obtain⟨b,u,G⟩:=g;have f:=Qg r y;rw[hy]at f;have F:=VR.val (K.scl _) f;obtain⟨Q,d,s,h,O,L,B⟩:=r.sim.blk i _ _ u hH;obtain⟨v,t,J⟩:=QcC (T:=T) (z0:=z0) (k:=k) K p n e s h B;refine⟨v,?_,J.mono ⟨λ_ q=>q,λ_ _=>rfl,λ_ _ q=>q,λj c q=>by simp at q⟩⟩;have:=t false;simp only[execOp,m,G,F,Vt,this,Result.andThen];rfl
theorem QbE{zv:β}(K:Y1 P kt ek)(E:some (QI l k z0)=some zv)(p:P.underlying T=some (.map kt et))(n:∀w,(zeroValue et).run P w=.ok z w)(e:ZR (ev z0) z)
  (m:o.op=.lookup T x y true:=by exact rfl)(hx:opA env x=.map i:=by exact rfl)(hH:H[i]?=some (.map (Qi ek ev l)):=by exact rfl)(hy:opA env y=ek k:=by exact rfl):OpV P o env H (.tup [ev zv,.bool (Qab l k)]):=by
 obtain rfl:=X5 E;intro R M σ N a w r;have g:=Qg r x;rw[hx]at g;obtain⟨b,u,G⟩:=g;have f:=Qg r y;rw[hy]at f;have F:=VR.val (K.scl _) f;obtain⟨Q,d,s,h,O,L,B⟩:=r.sim.blk i _ _ u hH;obtain⟨v,t,J⟩:=QcC (T:=T) (z0:=z0) (k:=k) K p n e s h B;refine⟨.tuple #[v,.bool (Qab l k)],?_,[v,.bool (Qab l k)],rfl,v,_,rfl,J.mono ⟨λ_ q=>q,λ_ _=>rfl,λ_ _ q=>q,λj c q=>by simp at q⟩,_,_,rfl,rfl,rfl⟩;have:=t true;simp only[execOp,m,G,F,Vt,this,Result.andThen];rfl
theorem Qmm{zv:β}(K:Y1 P kt ek)(E:some (QI l k z0)=some zv)(p:P.underlying T=some (.map kt et))(n:∀w,(zeroValue et).run P w=.ok z w)(e:ZR (ev z0) z)
  (m:o.op=.lookup T x y false:=by exact rfl)(hx:opA env x=.map i:=by exact rfl)(hH:H[i]?=some (.fmap (Qi ek ev l)):=by exact rfl)(hy:opA env y=ek k:=by exact rfl):OpV P o env H (ev zv):=by
 obtain rfl:=X5 E;intro R M σ N a w r;have g:=Qg r x;rw[hx]at g;obtain⟨b,u,G⟩:=g;have f:=Qg r y;rw[hy]at f;have F:=VR.val (K.scl _) f;obtain⟨_,Q,d,s,h,O,L,B⟩:=r.sim.blk i _ _ u hH;obtain⟨v,t,J⟩:=QcC (T:=T) (z0:=z0) (k:=k) K p n e s h B;refine⟨v,?_,J.mono ⟨λ_ q=>q,λ_ _=>rfl,λ_ _ q=>q,λj c q=>by simp at q⟩⟩;have:=t false;simp only[execOp,m,G,F,Vt,this,Result.andThen];rfl
theorem ER.append{ro:Nat->Prop}{σ:Sig}{w:World}:∀{l m:List (A×A)} {es fs:List MapEntry},ER ro σ w l es->ER ro σ w m fs->ER ro σ w (l++m) (es++fs)
 |[],m,es,fs,h,k=>by cases(show es=[]from h);exact k
 |p::l,m,es,fs,h,k=>by
  obtain⟨e,l',rfl,h1,h2,h3⟩:=h;exact⟨e,l'++fs,rfl,h1,h2,ER.append h3 k⟩
theorem ER.put(K:Y1 P kt ek){ro:Nat->Prop}{w w':World}{v:β}{val:Value}(a:Ext ro [] w ro [] w')(b:VR ro [] w (ev v) val):∀{l:List (α×β)} {es:List MapEntry} {j:Nat} {e:MapEntry},ER ro [] w (Qi ek ev l) es->
  (es.map (·.key)).Nodup->es[j]?=some e->e.key=QO (ek k)->
  ER ro [] w' (Qi ek ev (l.map λp=>bif decide (p.1=k)then(p.1,v)else p)) (es.modify j λe=>{e with key:=QO (ek k),val:=val})
 |[],es,j,e,h,hn,he,hk=>by cases(show es=[]from h);simp at he
 |p::l,es,j,e,h,hn,he,hk=>by
  obtain⟨e0,l',rfl,h1,h2,h3⟩:=h;have hk0:e0.key=QO (ek p.1):=VR.val (K.scl _) h1;simp only[Vq,List.nodup_cons]at hn;cases j with
  |zero=>
   simp only[XK,Option.some.injEq]at he;subst he;have hp:p.1=k:=K.inj _ _ (hk0.symm.trans hk);simp only[List.modify_zero_cons];have e1:Qi ek ev ((p::l).map λp=>bif decide (p.1=k)then(p.1,v)else p)=(ek p.1,ev v)::Qi ek ev l:=by
    simp only[Qi,Vq,hp,decide_true,Vv,List.map_map,List.cons.injEq,true_and];apply List.map_congr_left;intro q d;have:q.1≠k:=by
     intro e;refine hn.1 ?_;rw[Qh3 K h3];exact Xe.2 ⟨q,d,by rw[e, <- hp,hk0]⟩
    simp[this]
   rw[e1];refine⟨_,l',rfl,?_,b.mono a,h3.mono a⟩;show VR ro [] w' (ek p.1) (QO (ek k));rw[<- hp];exact Qb7 (K.scl _)
  |succ j=>
   simp only[XL]at he;have hp:p.1≠k:=by
    intro q;refine hn.1 (Xe.2 ⟨e,VN he,?_⟩);rw[hk,hk0,q]
   simp only[List.modify_succ_cons];have e1:Qi ek ev ((p::l).map λp=>bif decide (p.1=k)then(p.1,v)else p)=(ek p.1,ev p.2)::Qi ek ev (l.map λp=>bif decide (p.1=k)then(p.1,v)else p):=by
    simp[Qi,hp]
   rw[e1];exact⟨_,_,rfl,h1.mono a,h2.mono a,ER.put K a b h3 hn.2 he hk⟩
theorem Yc{m:List (α×β)}(K:Y1 P kt ek){v:β}{zz:Operand}(hm:some (QE l k v)=some m)(L:Ys (ev v)=true)(hT:P.underlying T=some (.map kt et))
  (ho:o.op=.mapUpdate T x y zz:=by exact rfl)(hx:opA env x=.map i:=by exact rfl)(hH:H[i]?=some (.map (Qi ek ev l)):=by exact rfl)(O:opA env y=ek k:=by exact rfl)(hv:opA env zz=ev v:=by exact rfl):
  OpU P o env H (H.set i (.map (Qi ek ev m))):=by
 obtain rfl:=X5 hm;intro fr ro σ N a w r;have h1:=Qg r x;rw[hx]at h1;obtain⟨b,q1,q2⟩:=h1;have h2:=Qg r y;rw[O]at h2;have h3:=VR.val (K.scl _) h2;have h4:=Qg r zz;rw[hv]at h4;have Q:VR ro [] w (ev v) (a.eval zz):=VR.data L h4;obtain⟨z,s,M,V,Y,p4,X⟩:=r.sim.blk i _ _ q1 hH;obtain⟨f1,f2⟩:=ER.find K V k X;have R:∀(obj:Obj) y,w.shape? b=some y->({w with heap:=w.heap.setIfInBounds b obj}:World).shape? b=some y:=by
  intro obj y O;unfold World.shape? at O;rw[M]at O;simp at O
 rcases K.find w k z.toList (QaZ K V)with⟨g1,G⟩|⟨j,e,g1,G,W⟩
 .obtain⟨u1,u2⟩:=f1 G;have hl:QE l k v=l++[(k,v)]:=by
   unfold QE;rw[show(l.any λp=>decide (p.1=k))=false from u2];rfl
  have g:=r.sim.set (x':=.map (Qi ek ev (QE l k v))) (obj:=.map (z.push {key:=QO (ek k),val:=a.eval zz,born:=s}) (s+1)) q1 hH rfl (R _)
   (λe E=>⟨_,_,E,by
    rw[hl,Qi,Xf,Array.toList_push];exact(V.mono ⟨e.sub,e.keep,e.shape,λ_ _ q=>q⟩).append ⟨_,_,rfl,Qb7 (K.scl _),Q.mono ⟨e.sub,e.keep,e.shape,λ_ _ q=>q⟩,rfl⟩,by
    rw[Array.toList_push];intro e E;rcases VJ.1 E with q|q
    .exact Nat.lt_succ_of_lt (Y e q)
    .simp at q;subst q;exact Xo _,by
    rw[Array.toList_push,Xf];refine List.nodup_append.2 ⟨p4,by simp,?_⟩;intro c hc d L;simp at L;subst L;obtain⟨e,E,rfl⟩:=Xe.1 hc;exact Nat.ne_of_lt (Y e E),by
    rw[Array.toList_push,Xf];refine List.nodup_append.2 ⟨X,by simp,?_⟩;intro c hc d L;simp at L;subst L;obtain⟨e,E,rfl⟩:=Xe.1 hc;exact G e E⟩)
  refine⟨_,ro,[],?_,by simpa using g.1,g.2⟩;simp only[execOp,ho,q2,h3,Vt,Instr.mapUpdate,run_underlying hT,Result.andThen,MapKept.run_getObj_map M,K.check,g1,MapKept.run_setObj_map _ M];rfl
 .obtain⟨u1,u2⟩:=f2 j e G W;have hl:QE l k v=l.map λp=>bif decide (p.1=k)then(p.1,v)else p:=by
   unfold QE;rw[show(l.any λp=>decide (p.1=k))=true from u1];rfl
  have hj:z[j]?=some e:=by rw[<- G];simp
  have t:(z.modify j λe=>{e with key:=QO (ek k),val:=a.eval zz}).toList=z.toList.modify j λe=>{e with key:=QO (ek k),val:=a.eval zz}:=by simp
  have u:∀{γ:Type} (f:MapEntry->γ),(∀F,z.toList[j]?=some F->f {F with key:=QO (ek k),val:=a.eval zz}=f F)->(z.toList.modify j λe=>{e with key:=QO (ek k),val:=a.eval zz}).map f=z.toList.map f:=by
   intro γ f hf;apply List.ext_getElem?;intro n;rw[Xq,Xq,List.getElem?_modify];by_cases hn:j=n
   .subst hn;cases q:z.toList[j]? with
    |none=>rfl
    |some F=>simp[hf F q]
   .simp[hn]
  have g:=r.sim.set (x':=.map (Qi ek ev (QE l k v))) (obj:=.map (z.modify j λe=>{e with key:=QO (ek k),val:=a.eval zz}) s) q1 hH rfl (R _)
   (λe0 E=>⟨_,_,E,by
    rw[hl,t];exact ER.put K ⟨e0.sub,e0.keep,e0.shape,λ_ _ q=>q⟩ Q V X G W,by
    rw[t];intro F B;have:F.born∈(z.toList.modify j λe=>{e with key:=QO (ek k),val:=a.eval zz}).map (·.born):=VM B;rw[u (·.born) (λ_ _=>rfl)]at this;obtain⟨e2,h,h'⟩:=Xe.1 this;rw[<- h'];exact Y e2 h,by
    rw[t,u (·.born) (λ_ _=>rfl)];exact p4,by
    rw[t,u (·.key) (λF B=>by rw[G]at B;cases B;exact W.symm)];exact X⟩)
  refine⟨_,ro,[],?_,by simpa using g.1,g.2⟩;have J:=K.stays w k;simp only[execOp,ho,q2,h3,Vt,Instr.mapUpdate,run_underlying hT,Result.andThen,MapKept.run_getObj_map M,K.check,g1,hj,Xj,Option.getD_some,W,J,MapKept.run_setObj_map _ M];rfl
theorem ER.length{ro:Nat->Prop}{σ:Sig}{w:World}:∀{l:List (A×A)} {es:List MapEntry},ER ro σ w l es->es.length=l.length
 |[],es,h=>by cases(show es=[]from h);rfl
 |p::l,es,h=>by
  obtain⟨e,l',rfl,_,_,h3⟩:=h;simp[ER.length h3]
theorem QcQ{c:Call}{n:Int}(t:P.underlying T=some (.map kt et))(q:(l.length:Int)=n)(m:o.op=.call c:=by exact rfl)(hc:c={callee:=.builtin .len,args:= #[x],argTypes:= #[T]}:=by exact rfl)
  (hx:opA env x=.map i:=by exact rfl)(hH:H[i]?=some (.map (Qi ek ev l)):=by exact rfl):OpV P o env H (.int .i64 n):=by
 intro F B σ N a w r;have g:=Qg r x;rw[hx]at g;obtain⟨b,u,f⟩:=g;obtain⟨h,d,s,k,E,y,z⟩:=r.sim.blk i _ _ u hH;have j:=k.length;refine⟨.int .i64 n,?_,rfl⟩;have e:goInt h.size=.int .i64 n:=by
  have:h.size=l.length:=by rw[<- Array.length_toList,j];simp[Qi]
  rw[this, <- q];rfl
 subst hc;have p:=f;generalize a.eval=ρ at*;rw[<- e];simp[execOp,m,f,resolve,invoke,Go.builtin,Builtin.len_,run_underlying t,MapKept.run_getObj_map s,go_sem]
end
end
end Go.Sw
namespace Go.Sw
open Go.ChangeMaps (setBlock)
section
variable {P:Program} {o:Oper} {env:Env} {H:Qd} {h0 N:Nat} {Q:QB}
def OpE(P:Program)(o:Oper)(env:Env)(H:Qd)(K:A->Qd->Prop):Prop:=
 ∀fr ro σ N a w,Rel fr ro σ H env N a w->∃x H' v w' ro' τ,K x H'/\(execOp a.eval o).run P w=.ok (.value v) w'/\VR ro' (σ++τ) w' x v/\
  Sim fr ro' (σ++τ) H' w'/\Qh fr ro w ro' w'
theorem Qkk{all:Array Oper}{l:List Oper}{d:Nat}{K:A->Qd->Prop}(m:h0<=H.length)(hg:Qs all o env true)(y:o.dst=some d)(j:Nat.blt d N=true)
  (h:OpE P o env H K)(k:∀x H',K x H'->WO P h0 N all l (up env d x) H' Q):WO P h0 N all (o::l) env H Q:=by
 intro p fr n σ a w r hrd;obtain⟨x,H',v,i,b,τ,t,z,E,u,f⟩:=h fr n σ N a w r;refine Js (YH hg r) z ?_;simp only[y,Act.put];have g:d<N:=by simpa using j
 have B:Rel fr b (σ++τ) H' (up env d x) N {a with tmps:=a.tmps.setIfInBounds d v} i:=
  ⟨u,VR.up (fr:=fr) (λs=>(r.env s).mono (f.ext σ τ)) (by rw[r.size];exact g) E,by simpa using r.size,r.defers.keep f⟩
 refine Yk (λe a w q=>q.step f (Qw ?_)) _ _ _ (k x H' t p fr b (σ++τ) _ i B (hrd.to f λ_ q=>q));rw[r.sim.len];exact m
theorem Sim.shutMap{fr ro:Nat->Prop}{σ:Sig}{w:World}(s:Sim fr ro σ H w){i b:Nat}{es:List (A×A)}(hσ:σ[i]?=some (some b))(hH:H[i]?=some (.map es)):
  Sim fr (λc=>ro c\/c=b) σ (H.set i (.fmap es)) w:=by
 have k:b<w.heap.size/\ ¬ro b/\ ¬fr b:=s.own i b _ hσ hH rfl;have ext:Ext ro σ w (λc=>ro c\/c=b) σ w:=⟨λ_ q=>.inl q,λ_ _=>rfl,λ_ _ q=>q,λ_ _ q=>q⟩;have a:∀(j:Nat) (v:Blk),(H.set i (.fmap es))[j]?=some v->v.live=true->j≠i/\H[j]?=some v:=by
  intro j v h z;by_cases e:j=i
  .subst e;rw[Xb]at h;simp only[if_true]at h;split at h
   .cases h;simp[Blk.live]at z
   .simp at h
  .rw[XV (λq=>e q.symm)]at h;exact⟨e,h⟩
 have g:∀(j:Nat) (v:Blk),(H.set i (.fmap es))[j]?=some v->v.holds=true->H[j]?=some v:=by
  intro j v h z;by_cases e:j=i
  .subst e;rw[Xb]at h;simp only[if_true]at h;split at h
   .cases h;cases z
   .simp at h
  .rw[XV (λq=>e q.symm)]at h;exact h
 refine⟨by rw[X9];exact s.len,s.roOk.to (λ_ q=>.inl q) (λ_ _=>rfl) ?_,s.frLt,?_,?_,?_,?_,s.hidTo (· = ·) Q0 (XZ _) (λj d x c O M L R=>R.elim id λq=>((s.hid j d x c O M L).ne i b _ hσ hH rfl q).elim) (λ_ _ _ _ _ _ _ q=>q) λj d y J N P=>.inl ⟨j,y,rfl,J,g j y N P,id,λ_ q=>q⟩⟩
 .rintro c (q|rfl)
  .exact s.roLt c q
  .exact k.1
 .rintro c (q|rfl)
  .exact s.roFr c q
  .exact k.2.2
 .intro j c v m f p;obtain⟨e,f⟩:=a j v f p;obtain⟨u,t,r⟩:=s.own j c v m f p;refine⟨u,?_,r⟩;rintro(q|rfl)
  .exact t q
  .exact e (s.inj j i c v _ m hσ f hH p rfl)
 .intro j B c v G m f p Q F E;exact s.inj j B c v G m f (a j v p F).2 (a B G Q E).2 F E
 .intro j y v m f;by_cases e:j=i
  .subst e;rw[hσ]at m;cases m;rw[Xb]at f;simp only[if_true]at f;split at f
   .cases f;obtain⟨l,n,u,t,r⟩:=s.blk j _ _ hσ hH;exact⟨.inr rfl,l,n,u,t.mono ext.nil,r⟩
   .simp at f
  .rw[XV (λq=>e q.symm)]at f;exact(s.blk j y v m f).keep ext (λ_ _ _=>rfl) (λ_ _ _ _=>rfl)
section
variable {T kt et i:Nat} {x:Operand} {es:List (A×A)}
theorem Qf4(s:P.underlying T=some (.map kt et))(p:o.op=.range T x:=by exact rfl)(hx:opA env x=.map i:=by exact rfl)(hH:H[i]?=some (.fmap es):=by exact rfl):
  OpH P o env H (.ptr H.length 0) (H++[.iter none es]):=by
 intro B j σ N a w r;have m:=Qg r x;rw[hx]at m;obtain⟨b,z,t⟩:=m;obtain⟨f,l,d,k,n,y,q,E⟩:=r.sim.blk i _ _ z hH;have u:=r.sim.roLt b f;have g:Qh B j w j (w.alloc (.mapIter (some b) d #[] d)):=Qh.alloc _ r.sim.roLt r.sim.frLt;have ext0:Ext j [] w j [] (w.alloc (.mapIter (some b) d #[] d)):=g.ext0 [];refine⟨.pointer (some ⟨w.heap.size,0,none⟩),w.alloc (.mapIter (some b) d #[] d),_,[some w.heap.size],?_,⟨w.heap.size,?_,rfl⟩,
  r.sim.alloc (.inr ⟨b,l,d, #[],l.toList,Q6 _ _,f,by rw[Yv _ _ _ u];exact k,y,q,?_,n.mono ext0,λ_ h=>by cases h⟩),g⟩
 .generalize a.eval=ρ at*;simp only[execOp,p,t,Instr.range,Vt,run_underlying s,Result.andThen,MapKept.run_getObj_map k];rfl
 .rw[<- r.sim.len];simp
 .have:l.toList.filter (λe=> !(#[]:Array Nat).contains e.born)=l.toList:=by rw[List.filter_eq_self];intro e _;simp
  rw[this]
theorem ER.mem{ro:Nat->Prop}{σ:Sig}{w:World}:∀{es:List (A×A)} {l:List MapEntry},ER ro σ w es l->∀e∈l,∃x es' l',(x::es').Perm es/\(e::l').Perm l/\VR ro σ w x.1 e.key/\VR ro σ w x.2 e.val/\ER ro σ w es' l'
 |[],l,h,e,he=>by cases(show l=[]from h);cases he
 |y::es,l,h,e,he=>by
  obtain⟨e0,l',rfl,h1,h2,h3⟩:=h;rcases Vc.1 he with rfl|he
  .exact⟨y,es,l',.refl _,.refl _,h1,h2,h3⟩
  .obtain⟨x,es',l'',p1,p2,v1,v2,h4⟩:=ER.mem h3 e he;exact⟨x,y::es',e0::l'',(List.Perm.swap _ _ _).trans (p1.cons _),(List.Perm.swap _ _ _).trans (p2.cons _),v1,v2,⟨e0,l'',rfl,h1,h2,h4⟩⟩
theorem Qi9:∀{l:List MapEntry},(l.map (·.born)).Nodup->∀a∈l,∀b∈l,a.born=b.born->a=b
 |[],_,a,ha,_,_,_=>by cases ha
 |c::l,hn,a,ha,b,hb,hab=>by
  simp only[Vq,List.nodup_cons]at hn;rcases Vc.1 ha with ea|ha'<;>rcases Vc.1 hb with eb|hb'
  .rw[ea,eb]
  .subst ea;exact absurd (Xe.2 ⟨b,hb',hab.symm⟩) hn.1
  .subst eb;exact absurd (Xe.2 ⟨a,ha',hab⟩) hn.1
  .exact Qi9 hn.2 a ha' b hb' hab
def NextK(H:Qd)(i:Nat)(cur:Option (A×A))(es:List (A×A))(v:A)(H':Qd):Prop:=
 (es=[]/\v=.tup [.bool false]/\H'=H)\/ ∃e es',(e::es').Perm es/\v=.tup [.bool true,e.1,e.2]/\H'=H.set i (.iter (some e) es')
theorem OpE.next{M:Option (A×A)}(Y:o.op=.next x false:=by exact rfl)(hx:opA env x=.ptr i 0:=by exact rfl)(hH:H[i]?=some (.iter M es):=by exact rfl):
  OpE P o env H (NextK H i M es):=by
 intro fr n σ N a w r;have h1:=Qg r x;rw[hx]at h1;obtain⟨b,q1,q2⟩:=h1;have g:∀(v:Value) (w1:World),w1.heap=w.heap->w1.os=w.os->w1.tape=w.tape->w1.output=w.output->w.drawn<=w1.drawn->Sim fr n (σ++[]) H w1/\Qh fr n w n w1:=by
  intro v w1 X e2 e3 e4 e5;exact⟨by simpa using r.sim.heap X,Qh.heap X e2 e3 e4 e5⟩
 rcases r.sim.blk i _ _ q1 hH with⟨rfl,rfl,p⟩|⟨m,l,d,f,left,p1,p2,W,p4,p5,p6,p7,p8⟩
 .refine⟨_,_,.tuple #[.bool false],w,n,[],.inl ⟨rfl,rfl,rfl⟩,?_,⟨_,rfl,_,_,rfl,rfl,rfl⟩,g (.bool false) w rfl rfl rfl rfl (XZ _)⟩;generalize a.eval=ρ at*;simp only[execOp,Y,q2,Instr.next,Vt,getObj,Sem.run,p,Result.andThen];rfl
 .have s:(leftOf l f).toList=l.toList.filter λe=> !f.contains e.born:=by simp[leftOf]
  have t:left.Perm (leftOf l f).toList:=by rw[s];exact p6
  rcases run_next_at (P:=P) w o.type b m d d f l d p1 W p4 (XZ _)with⟨J,g2⟩|⟨e,J,w1,g2,g3⟩
  .have ab:left=[]:=by
    have:left.length=0:=by rw[t.length_eq];simpa using J
    exact VP.1 this
   subst ab;have af:es=[]:=by
    have:=p7.length;simp only[List.length_nil]at this;exact VP.1 this.symm
   refine⟨_,_,.tuple #[.bool false],w,n,[],.inl ⟨af,rfl,rfl⟩,?_,⟨_,rfl,_,_,rfl,rfl,rfl⟩,g (.bool false) w rfl rfl rfl rfl (XZ _)⟩;generalize a.eval=ρ at*;simp only[execOp,Y,q2,Vt,g2,Result.andThen];rfl
  .have he:e∈left:=t.mem_iff.2 J;have L:e∈l.toList:=by rw[s]at J;exact(Xd.1 J).1
   obtain⟨y,T,O,k1,k2,v1,v2,k3⟩:=p7.mem e he;have k:w1.heap=w.heap/\w1.os=w.os/\w1.tape=w.tape/\w1.output=w.output/\w.drawn<=w1.drawn:=by
    rcases g2 with rfl|rfl
    .exact⟨rfl,rfl,rfl,rfl,XZ _⟩
    .exact⟨rfl,rfl,rfl,rfl,Nat.le_succ _⟩
   obtain⟨s1,F⟩:=g (.bool false) w1 k.1 k.2.1 k.2.2.1 k.2.2.2.1 k.2.2.2.2;rw[Vm]at s1;have aa:b≠m:=by
    rintro rfl;rw[p1]at W;cases W
   have B:=s1.set (x':=.iter (some y) T) (obj:=.mapIter (some m) d (f.push e.born) d) q1 hH rfl
    (λz E=>by
     unfold World.shape? at E;rw[k.1,p1]at E;simp at E)
    (λu ac=>.inr ⟨m,l,d,f.push e.born,O,ac,u.sub _ p2,by
      show(w1.heap.setIfInBounds b _)[m]?=_;rw[Vk,Vy aa,k.1];exact W,p4,p5,by
      have ae:(l.toList.filter λe=> !f.contains e.born).Nodup:=by
       have:l.toList.Nodup:=List.Pairwise.of_map _ (λa b h q=>h (congrArg _ q)) p5;exact this.filter _
      have hp:(e::O).Perm (l.toList.filter λe=> !f.contains e.born):=k2.trans p6;have R:(e::O).Nodup:=hp.nodup_iff.2 ae;have X:(l.toList.filter λG=> !(f.push e.born).contains G.born)=(l.toList.filter λe=> !f.contains e.born).filter λG=> !decide (G.born=e.born):=by
       rw[List.filter_filter];apply List.filter_congr;intro z _;simp[Array.contains_push,Bool.and_comm]
      rw[X];have h2:=hp.filter (λG=> !decide (G.born=e.born));have e2:(e::O).filter (λG=> !decide (G.born=e.born))=O:=by
       rw[List.filter_cons_of_neg (by simp),List.filter_eq_self];intro z E;have ag:z∈l.toList:=(Xd.1 (hp.mem_iff.1 (Vb _ E))).1;simp only[Bool.not_eq_true',decide_eq_false_iff_not];intro hb;have:z=e:=by
        exact Qi9 p5 z ag e L hb
       subst this;exact(List.nodup_cons.1 R).1 E
      rw[e2]at h2;exact h2,by
      have V:Ext n [] w n [] w1:=F.ext0 [];exact(k3.mono V).mono ⟨u.sub,u.keep,u.shape,λ_ _ q=>q⟩,by
      intro z E;cases E;have V:Ext n [] w n [] w1:=F.ext0 [];exact⟨e,L,by simp,(v1.mono V).mono ⟨u.sub,u.keep,u.shape,λ_ _ q=>q⟩,(v2.mono V).mono ⟨u.sub,u.keep,u.shape,λ_ _ q=>q⟩⟩⟩)
   have Q:=F.trans B.2;have xt:Ext n [] w n [] {w1 with heap:=w1.heap.setIfInBounds b (.mapIter (some m) d (f.push e.born) d)}:=Q.ext0 [];refine⟨_,_,.tuple #[.bool true,e.key,e.val],_,n,[],.inr ⟨y,T,k1,rfl,rfl⟩,?_,
    ⟨[.bool true,e.key,e.val],rfl,_,_,rfl,rfl,_,_,rfl,(v1.mono xt).mono ⟨λ_ q=>q,λ_ _=>rfl,λ_ _ q=>q,λj c q=>by simp at q⟩,_,_,rfl,(v2.mono xt).mono ⟨λ_ q=>q,λ_ _=>rfl,λ_ _ q=>q,λj c q=>by simp at q⟩,rfl⟩,by simpa using B.1,Q⟩
   generalize a.eval=ρ at*;simp only[execOp,Y,q2,Vt,g3,Result.andThen,setBlock];rfl
theorem OpV.entry{e:A×A}(p:o.op=.entry x:=by exact rfl)(hx:opA env x=.ptr i 0:=by exact rfl)(hH:H[i]?=some (.iter (some e) es):=by exact rfl):OpV P o env H (.tup [e.1,e.2]):=by
 intro T R σ N a w r;have k:=Qg r x;rw[hx]at k;obtain⟨b,E,u⟩:=k;rcases r.sim.blk i _ _ E hH with⟨_,h,_⟩|⟨m,l,d,n,left,B,O,t,Q,G,M,L,J⟩
 .cases h
 .obtain⟨f,F,y,s,z⟩:=J e rfl;refine⟨.tuple #[f.key,f.val],?_,[f.key,f.val],rfl,_,_,rfl,s.mono ⟨λ_ q=>q,λ_ _=>rfl,λ_ _ q=>q,λj c q=>by simp at q⟩,_,_,rfl,z.mono ⟨λ_ q=>q,λ_ _=>rfl,λ_ _ q=>q,λj c q=>by simp at q⟩,rfl⟩;have g:l.find? (·.born==f.born)=some f:=by rw[<- Array.find?_toList];exact find_born f l.toList G F
  generalize a.eval=ρ at*;simp only[execOp,p,u,Instr.entry,getObj,Vt,Sem.run,B,t,Result.andThen,y,bne_self_eq_false,Xi,if_false,g];rfl
end
end
end Go.Sw
namespace Go.Sw
def QeY{S E B:Type}(stepE:S->E->Option (Ctl S B))(stepN:S->Option B):S->List E->Option B
 |s,[]=>stepN s
 |s,e::p=>match stepE s e with
  |some (.cont s')=>QeY stepE stepN s' p
  |some (.done b)=>some b
  |none=>none
def Qbv{E:Type}(x:E):List E->List (List E)
 |[]=>[[x]]
 |y::l=>(x::y::l)::(Qbv x l).map (y:: ·)
def QbX{E:Type}:List E->List (List E)
 |[]=>[[]]
 |x::l=>(QbX l).flatMap (Qbv x)
theorem Qfq{E:Type}(x:E):∀(a b:List E),a++x::b∈Qbv x (a++b)
 |[],[]=>by simp[Qbv]
 |[],y::b=>by simp[Qbv]
 |y::a,b=>by
  simp only[VQ,Qbv,Vc,Xe];exact .inr ⟨a++x::b,Qfq x a b,rfl⟩
theorem QdB{E:Type}:∀(l p:List E),p.Perm l->p∈QbX l
 |[],p,h=>by rw[List.perm_nil.1 h];simp[QbX]
 |x::l,p,h=>by
  have hx:x∈p:=h.mem_iff.2 (by simp);obtain⟨a,b,rfl⟩:=List.append_of_mem hx;have h2:(a++b).Perm l:=(List.perm_cons x).1 ((List.perm_middle.symm).trans h);simp only[QbX,List.mem_flatMap];exact⟨a++b,QdB l _ h2,Qfq x a b⟩
def anyP{E R:Type}[DecidableEq R](k:List E->Option R)(l:List E):Option R:=bif (QbX l).all (λp=>decide (k p=k l))then k l else none
theorem Qli{E R:Type}[DecidableEq R]{k:List E->Option R}{l:List E}{r:R}(h:anyP k l=some r)(p:List E)(a:p.Perm l):k p=some r:=by
 unfold anyP at h;cases q:(QbX l).all (λp=>decide (k p=k l))with
 |true=>
  rw[q]at h;have:=Xv.1 q p (QdB l p a);rw[VB this];exact h
 |false=>rw[q]at h;cases h
theorem QcE{E:Type}:∀(l p:List E),p∈QbX l->p.Perm l
 |[],p,h=>by simp[QbX]at h;rw[h]
 |x::l,p,h=>by
  simp only[QbX,List.mem_flatMap]at h;obtain⟨q,hq,hp⟩:=h;have ins:∀(q p:List E),p∈Qbv x q->p.Perm (x::q):=by
   intro q
   induction q with
   |nil=>intro p hp;simp[Qbv]at hp;rw[hp]
   |cons y q a=>
    intro p hp;simp only[Qbv,Vc,Xe]at hp;rcases hp with rfl|⟨z,b,rfl⟩
    .exact .refl _
    .exact((a z b).cons y).trans (List.Perm.swap _ _ _)
  exact(ins q p hp).trans ((QcE l q hq).cons x)
theorem QhS{E R:Type}[DecidableEq R]{k:List E->Option R}{l:List E}{r:R}(h:∀p,p.Perm l->k p=some r):anyP k l=some r:=by
 unfold anyP;have:(QbX l).all (λp=>decide (k p=k l))=true:=Xv.2 λp a=>by
  rw[h p (QcE l p a),h l (.refl _)];simp
 rw[this];exact h l (.refl _)
def Qjt{S E B:Type}(stepE:S->E->Option (Ctl S B))(stepN:S->Option B)(G:B->Prop)(s:S)(l:List E):Prop:=∀p,p.Perm l->∃b,QeY stepE stepN s p=some b/\G b
section
variable {P:Program} {o:Oper} {env:Env} {H:Qd} {h0 N:Nat} {Q:QB} {c:Code}
def Qcn(I:Env->Qd->Prop)(Q:QB):QB
 |.normal,env,H=>I env H
 |.exit id,env,H=>Q (.exit id) env H
 |.ret,env,H=>Q .ret env H
theorem Qox{I:Nat->Env->Qd->Prop}(body:∀n env H,I n env H->TC P h0 N c env H (Qcn (λenv H=>∃n',n'<n/\I n' env H) Q)){n:Nat}(F:I n env H):TC P h0 N (.loop c) env H Q:=by
 intro M t u σ a w r hrd b k cs hro hb hr;have E:∀m n env H fr1 ro1 σ1 a1 w1,n<m->I n env H->Rel fr1 ro1 σ1 H env N a1 w1->Qh t u w ro1 w1->σ1.take h0=σ.take h0->Grow t w a.defers fr1 a1.defers->
   ∃e g h,QaU h0 t u σ w N a.defers Q e g h/\ArrivesIn (Machine.fenced P (WF M)) P (lone (b.atR a1 (.code c::.inLoop c::k)) cs w1) b k cs e g h:=by
  intro m
  induction m with
  |zero=>intro n env H fr1 ro1 σ1 a1 w1 hn;exact absurd hn (Xn _)
  |succ m Y=>
   intro n env H fr1 ro1 σ1 a1 w1 hn F r1 ev1 t1 g1;obtain⟨e,g,h,B,d⟩:=body n env H F M fr1 ro1 σ1 a1 w1 r1 (hrd.to ev1 g1.sub) b (.inLoop c::k) cs hro hb hr;obtain⟨x,f,H',j,σ',p,y,s,J,q4,G,V⟩:=B;have l:=ev1.trans (q4.frMono g1.sub);have L:=g1.trans ev1.size V;have O:∀x,Q x f H'->ExR e x->QaU h0 t u σ w N a.defers Q e g h:=λx q R=>⟨x,f,H',j,σ',p,R,q,J,l,G.trans t1,L⟩;cases e with
   |normal=>
    obtain rfl:x=.normal:=y;obtain⟨n',X,s⟩:=s;obtain⟨W,T,w2,z,i⟩:=Y n' f H' p j σ' g h (by omega) s J l (G.trans t1) L;exact⟨W,T,w2,z,.of_steps (StepsIn.trans d (.one (fenced_calm hb hr rfl) stepR_inLoop)) i⟩
   |exit id=>
    obtain rfl:x=.exit id:=y;exact⟨_,g,h,O _ s rfl,.pass (x:=.inLoop c) rfl (λ_ _=>.inl (by simp)) d⟩
   |ret=>
    obtain rfl:x=.ret:=y;exact⟨_,g,h,O _ s rfl,.pass (x:=.inLoop c) rfl (λ_ _=>.inl (by simp)) d⟩
   |_=>exact y.elim
 obtain⟨e,g,h,B,d⟩:=E (n+1) n env H t u σ a w (Xo _) F r (Qh.refl _ _ _) rfl (Grow.refl _ _ _);exact⟨e,g,h,B,.of_steps (.one (fenced_calm hb hr rfl) stepR_loop) d⟩
section
variable {S E B:Type} {stepE:S->E->Option (Ctl S B)} {stepN:S->Option B} {G:B->Prop} (Es:S->Env) (Hp:S->List (A×A)->Qd) {enc:E->A×A}
def AtP(stepE:S->E->Option (Ctl S B))(stepN:S->Option B)(G:B->Prop)(enc:E->A×A)(h0 n:Nat)(env:Env)(H:Qd):Prop:=
 ∃s l,l.length=n/\Qjt stepE stepN G s l/\Le h0 env H (Es s) (Hp s (l.map enc))
theorem Qow{s0:S}{l0:List E}(h:Qjt stepE stepN G s0 l0)(hI:Le h0 env H (Es s0) (Hp s0 (l0.map enc)))
  (body:∀s l,Qjt stepE stepN G s l->TC P h0 N c (Es s) (Hp s (l.map enc)) (Qcn (λenv H=>∃n',n'<l.length/\AtP Es Hp stepE stepN G enc h0 n' env H) Q)):TC P h0 N (.loop c) env H Q:=
 Qox (I:=AtP Es Hp stepE stepN G enc h0) (λn env H ⟨s,l,hn,ha,hle⟩=>by subst hn;exact TC.le hle (body s l ha)) ⟨s0,l0,rfl,h,hI⟩
theorem Qgy{α β:Type}{f:α->β}:∀{m e:List β},m.Perm e->∀{l:List α},e=l.map f->∃l':List α,l'.Perm l/\l'.map f=m:=by
 intro m e h
 induction h with
 |nil=>intro l d;exact⟨[],by rw[List.map_eq_nil_iff.1 d.symm],rfl⟩
 |cons x _ ih=>
  intro l d;cases l with
  |nil=>cases d
  |cons a l=>
   simp only[Vq,List.cons.injEq]at d;obtain⟨l',g,i⟩:=ih d.2;exact⟨a::l',g.cons _,by simp[i,d.1]⟩
 |swap x y m=>
  intro l d
  match l,d with
  |a::b::l,d=>
   simp only[Vq,List.cons.injEq]at d;exact⟨b::a::l,List.Perm.swap _ _ _,by simp[d.1,d.2.1,d.2.2]⟩
 |trans _ _ ih1 ih2=>
  intro l d;obtain⟨p,g,i⟩:=ih2 d;obtain⟨k,j,n⟩:=ih1 i.symm;exact⟨k,j.trans g,n⟩
theorem Qos{all:Array Oper}{L:List Oper}{d i:Nat}{x:Operand}{t:Option (A×A)}{s:S}{l:List E}(hl:Qjt stepE stepN G s l)
  (y:∀b,stepN s=some b->G b->WO P h0 N all L (up env d (.tup [.bool false])) H Q)
  (z:∀e l' D,stepE s e=some D->(∀b,D=.done b->G b)->(l'.length<l.length/\ ∀s',D=.cont s'->Qjt stepE stepN G s' l')->
   WO P h0 N all L (up env d (.tup [.bool true,(enc e).1,(enc e).2])) (H.set i (.iter (some (enc e)) (l'.map enc))) Q)
  (w:o.op=.next x false:=by exact rfl)(hx:opA env x=.ptr i 0:=by exact rfl)(hH:H[i]?=some (.iter t (l.map enc)):=by exact rfl)
  (hg:Qs all o env true:=by exact rfl)(hd:o.dst=some d:=by exact rfl)(hN:Nat.blt d N=true:=by exact rfl)(hh:Nat.ble h0 H.length=true:=by exact rfl):WO P h0 N all (o::L) env H Q:=by
 refine Qkk (XX hh) hg hd hN (OpE.next w hx hH) ?_;rintro v H' (⟨q,rfl,rfl⟩|⟨e,B,q,rfl,rfl⟩)
 .have:l=[]:=List.map_eq_nil_iff.1 q;subst this;obtain⟨b,m,h⟩:=hl [] (.refl _);exact y b m h
 .obtain⟨F,m,h⟩:=Qgy q rfl;cases F with
  |nil=>cases h
  |cons a l'=>
   simp only[Vq,List.cons.injEq]at h;obtain⟨rfl,rfl⟩:=h;have j:l'.length<l.length:=by rw[<- m.length_eq];simp
   have f:∀p,p.Perm l'->∃b,QeY stepE stepN s (a::p)=some b/\G b:=λp n=>hl _ ((n.cons a).trans m);cases k:stepE s a with
   |none=>
    obtain⟨b,g,_⟩:=f l' (.refl _);simp[QeY,k]at g
   |some D=>
    refine z a l' D k ?_ ⟨j,?_⟩
    .rintro b rfl;obtain⟨u,g,r⟩:=f l' (.refl _);simp[QeY,k]at g;subst g;exact r
    .rintro s' rfl p n;obtain⟨u,g,r⟩:=f p n;simp[QeY,k]at g;exact⟨u,g,r⟩
theorem QqI{s:S}{l l':List E}{D:Ctl S B}(e:some (Ctl.cont s)=some D)(hc:l'.length<l.length/\ ∀s',D=.cont s'->Qjt stepE stepN G s' l')(h:Le h0 env H (Es s) (Hp s (l'.map enc))):
  Qcn (λenv H=>∃n',n'<l.length/\AtP Es Hp stepE stepN G enc h0 n' env H) Q .normal env H:=
 ⟨_,hc.1,s,l',rfl,hc.2 _ (X5 e).symm,h⟩
theorem QqH{I:Env->Qd->Prop}{id:Nat}(h:Q (.exit id) env H):Qcn I Q (.exit id) env H:=h
end
def Qp9{B:Type}(h0:Nat)(G:B->Prop)(Eb:B->Env)(Hb:B->Qd)(Q:QB):QB
 |.normal,env,H=>∃b,G b/\Le h0 env H (Eb b) (Hb b)
 |.exit id,env,H=>Q (.exit id) env H
 |.ret,env,H=>Q .ret env H
theorem QpG{S E B:Type}{stepE:S->E->Option (Ctl S B)}{stepN:S->Option B}{G:B->Prop}{s0:S}{l0:List E}(hl:Qjt stepE stepN G s0 l0)(Eb:B->Env)(Hb:B->Qd)
  (h:TC P h0 N c env H (Qp9 h0 G Eb Hb Q))(k:∀b env H,G b->Le h0 env H (Eb b) (Hb b)->Q .normal env H):TC P h0 N c env H Q:=
 h.mono λx env' H' q=>by
  cases x with
  |normal=>obtain⟨b,e,q⟩:=q;exact k b _ _ e q
  |exit id=>exact q
  |ret=>exact q
theorem cutGN{B:Type}{G:B->Prop}{Eb:B->Env}{Hb:B->Qd}{b:B}(hG:G b)(h:Le h0 env H (Eb b) (Hb b)):Qp9 h0 G Eb Hb Q .normal env H:=⟨b,hG,h⟩
theorem Qha{i:Nat}{k:Option (A×A)}{es:List (A×A)}{H':Qd}(hH:H[i]?=some (.iter k es))(f:H.set i (.iter none es)=H'):Le h0 env H env H':=by
 subst f;intro F u σ N a w r;refine⟨u,σ,⟨r.sim.weaken (x':=.iter none es) hH rfl ?_,r.env,r.size,r.defers⟩,λ_ q=>q,rfl⟩;intro y h;cases y with
 |none=>exact h
 |some b=>
  rcases h with⟨j,n,g⟩|⟨m,l,d,e,left,j,n,g,B,s,z,p,E⟩
  .exact .inl ⟨j,rfl,g⟩
  .exact .inr ⟨m,l,d,e,left,j,n,g,B,s,z,p,λx t=>by cases t⟩
end
end Go.Sw
