/- The rules by which the code is walked, with what they rest on (part 1). -/
import Derived.Calls
import Derived.Tactics
import Derived.Below
import Derived.TacticsIn
import Derived.OrdersIn
import Derived.RangeFuncLeaves
import Derived.RangeFuncRecord
import Derived.Laws.Strings
import Derived.Laws.World
import Derived.Orders
import Derived.Maps.Keyed
import Derived.Laws.StructEq
import Derived.Maps.RangeRun
set_option linter.unusedVariables false
set_option linter.unusedSimpArgs false
set_option linter.unusedSectionVars false
namespace Go.Sw
abbrev Xa:= @List.getElem?_set_self
abbrev Xb:= @List.getElem?_set
abbrev Xc:= @List.pairwise_cons
abbrev Xd:= @List.filter_cons
abbrev Xe:= @List.mem_filter
abbrev Xf:= @List.mem_map
abbrev Xg:= @List.map_append
abbrev Xh:= @Bool.not_true
abbrev Xi:= @Bool.not_false
abbrev Xj:= @Bool.false_eq_true
abbrev Xk:= @Option.map_some
abbrev Xl:= @Option.map_none
abbrev Xm:= @Nat.succ_mul
abbrev Xn:= @Nat.not_lt_zero
abbrev Xo:= @Nat.lt_succ_self
abbrev Xp:= @Nat.lt_succ_iff_lt_or_eq
abbrev Xq:= @List.getElem?_map
abbrev Xr:= @List.drop_eq_getElem_cons
abbrev Xs:= @List.drop_eq_nil_iff
abbrev Xt:= @List.all_eq_true
abbrev Xu:= @List.any_eq_true
abbrev Xv:= @Nat.sub_zero
abbrev Xw:= @Nat.zero_add
abbrev Xx:= @Nat.add_zero
abbrev Xy:= @List.length_take
abbrev Xz:= @List.take_append_drop
abbrev XA:= @Nat.add_mul
abbrev XB:= @Nat.min_eq_left
abbrev XC:= @Nat.mul_le_mul_right
abbrev XD:= @List.foldl_append
abbrev XE:= @List.foldl_cons
abbrev XF:= @List.getElem?_cons_zero
abbrev XG:= @List.getElem?_cons_succ
abbrev XH:= @List.getElem?_toArray
abbrev XI:= @Sem.run_ite
abbrev XJ:= @List.map_toArray
abbrev XK:= @Option.bind_some
abbrev XL:= @List.getElem?_eq_getElem
abbrev XM:= @List.getElem?_eq_some_iff
abbrev XN:= @List.getElem?_append_left
abbrev XO:= @List.getElem?_append_right
abbrev XP:= @List.getElem?_eq_none
abbrev XQ:= @List.getElem?_set_ne
abbrev XR:= @Nat.eq_of_beq_eq_true
abbrev XS:= @Nat.le_of_ble_eq_true
abbrev XT:= @Nat.ble_eq_true_of_le
abbrev XU:= @Nat.le_refl
abbrev XV:= @Nat.zero_le
abbrev XW:= @Nat.le_trans
abbrev XX:= @Bool.and_eq_true
abbrev XY:= @Bool.or_eq_false_iff
abbrev XZ:= @Bool.eq_iff_iff
abbrev X0:= @Option.some.inj
abbrev X2:= @List.length_cons
abbrev X3:= @List.length_map
abbrev X4:= @List.length_append
abbrev X5:= @List.length_set
abbrev X6:= @List.mem_cons_of_mem
abbrev X7:= @List.mem_cons
abbrev X8:= @List.take_append_of_le_length
abbrev X9:= @List.drop_append_of_le_length
abbrev Va:= @List.take_length
abbrev Vb:= @List.drop_length_add_append
abbrev Vc:= @List.take_length_add_append
abbrev Vd:= @Array.getElem?_eq_some_iff
abbrev Ve:= @List.getElem_mem
abbrev Vf:= @Array.getElem?_setIfInBounds
abbrev Vg:= @Nat.lt_of_lt_of_le
abbrev Vh:= @List.append_nil
abbrev Vi:= @List.nil_append
abbrev Vj:= @List.append_assoc
abbrev Vk:= @List.map_cons
abbrev Vl:= @List.map_nil
abbrev Vm:= @List.flatten_cons
abbrev Vn:= @Sem.run_bind
abbrev Vp:= @Sem.run_pure
abbrev Vq:= @cond_true
abbrev Vr:= @cond_false
abbrev Vs:= @decide_eq_true_eq
abbrev Vt:= @if_neg
abbrev Vu:= @if_pos
abbrev Vv:= @decide_eq_true
abbrev Vw:= @of_decide_eq_true
abbrev Vx:= @of_decide_eq_false
abbrev Vy:= @decide_eq_false
abbrev Vz:= @beq_iff_eq
abbrev VA:= @beq_eq_false_iff_ne
abbrev VB:= @Bool.true_and
abbrev VC:= @List.mem_singleton
abbrev VD:= @Nat.lt_or_ge
abbrev VE:= @List.mem_append
abbrev VF:= @List.pairwise_iff_getElem
abbrev VG:= @Nat.beq_refl
abbrev VH:= @List.mem_map_of_mem
abbrev VI:= @List.mem_of_getElem?
abbrev VJ:= @List.take_of_length_le
abbrev VK:= @List.length_eq_zero_iff
abbrev VL:= @List.cons_append
abbrev VM:= @List.getD_eq_getElem?_getD
abbrev VN:= @Bool.eq_false_iff
abbrev VO:= @List.length_filter_le
def QkS:Nat:=11
def nG:Nat:=12
def Qjg:List (List Int):=[[1,9999],[-1099511627776,1099511627776],[0,1048576],[0,39],[0,255],[0,1099511627776],[0,255],[1,1048576],[0,1],[0,31],[1,1048576]]
theorem gOk:((List.range nG).all λb=>Nat.beq b QkS|| !(Qjg.getD b []).isEmpty)=true:=by decide
theorem gLt:Nat.ble Qjg.length nG=true:=by decide
theorem Qpi:Nat.blt QkS nG=true:=by decide
structure GP (w:World):Prop where
 max:∃m:Int,w.cell? ⟨QkS,0,none⟩=some (.int .i64 m)
 tab:∀(g:Nat) (zs:List Int),Qjg[g]?=some zs->∀(i:Nat) (z:Int),zs[i]?=some z->w.cell? ⟨g,i,none⟩=some (.int .i64 z)
theorem GP.keep{w w':World}(h:∀b,b<nG->w'.heap[b]?=w.heap[b]?)(g:GP w):GP w':=by
 obtain⟨m,e⟩:=g.max;refine⟨⟨m,?_⟩,λa j d i z f=>?_⟩
 .rw[<- e];unfold World.cell?;rw[h QkS (by simpa using Qpi)]
 .rw[<- g.tab a j d i z f];unfold World.cell?;have l:=(XM.1 d).1;have k:Qjg.length<=nG:=by simpa using gLt
  rw[h a (by omega)]
theorem Qgp{w:World}{b i:Nat}{v:Value}(h:w.cell? ⟨b,i,none⟩=some v):b<w.heap.size:=by
 cases e:w.heap[b]? with
 |none=>simp[World.cell?,e]at h
 |some o=>exact(Vd.1 e).1
theorem GP.size{w:World}(g:GP w)(b:Nat)(f:b<nG):b<w.heap.size:=by
 have h:=Xt.1 gOk b (List.mem_range.2 f);rw[Bool.or_eq_true]at h;rcases h with h|h
 .obtain⟨m,d⟩:=g.max;rw[XR h];exact Qgp d
 .cases e:Qjg[b]? with
  |none=>rw[VM,e]at h;simp at h
  |some a=>
   cases a with
   |nil=>rw[VM,e]at h;simp at h
   |cons z a=>exact Qgp (g.tab b _ e 0 z rfl)
end Go.Sw
namespace Go.Sw
inductive A where
 |any
 |bool (b:Bool)
 |int (k:IntKind) (n:Int)
 |str (s:List UInt8)
 |nilp
 |ptr (i off:Nat)
 |rp (cs:List A)
 |nils
 |rsl (k:Nat) (es:List (List A))
 |osl (i o n k:Nat)
 |agg (cs:List A)
 |fn (f:Fn) (first cap:List A)
 |nilf
 |iface (t:Nat) (v:A)
 |nilif
 |map (i:Nat)
 |nilm
 |tup (vs:List A)
abbrev Sig:=List (Option Nat)
def Qm:Value->Prop
 |.agg _|.tuple _=>False
 |_=>True
mutual
def VR(ro:Nat->Prop)(σ:Sig)(w:World):A->Value->Prop
 |.any,_=>True
 |.bool b,v=>v=.bool b
 |.int k n,v=>v=.int k n
 |.str s,v=>v=.string ⟨s.toArray⟩
 |.nilp,v=>v=.pointer none
 |.ptr i off,v=>∃b,σ[i]?=some (some b)/\v=.pointer (some ⟨b,off,none⟩)
 |.rp cs,v=>∃b off,v=.pointer (some ⟨b,off,none⟩)/\ro b/\CR ro [] w b cs off
 |.nils,v=>v=.slice none 0 0
 |.rsl k es,v=>∃a cap,v=.slice a es.length cap/\es.length<=cap/\
   (es=[]\/ ∃b off,a=some ⟨b,off,none⟩/\ro b/\RR ro [] w b k es off)
 |.osl i o n k,v=>(n=0/\v=.slice none 0 0)\/
   ∃b p cap t m,σ[i]?=some (some b)/\v=.slice (some ⟨b,p,none⟩) n cap/\(0<cap->p=o*k)/\n<=cap/\w.shape? b=some (t,m)/\(o+cap)*k<=m
 |.agg cs,v=>∃l:List Value,v=.agg l.toArray/\LR ro σ w cs l
 |.fn f first cap,v=>∃l l':List Value,v=.func f l.toArray l'.toArray/\LR ro σ w first l/\LR ro σ w cap l'
 |.nilf,v=>v=.nilFunc
 |.iface t a,v=>∃x,v=.iface t x/\VR ro σ w a x
 |.nilif,v=>v=.nilIface
 |.map i,v=>∃b,σ[i]?=some (some b)/\v=.map (some b)
 |.nilm,v=>v=.map none
 |.tup vs,v=>∃l:List Value,v=.tuple l.toArray/\LR ro σ w vs l
def CR(ro:Nat->Prop)(σ:Sig)(w:World)(b:Nat):List A->Nat->Prop
 |[],_=>True
 |a::r,off=>(∃v,w.cell? ⟨b,off,none⟩=some v/\Qm v/\VR ro σ w a v)/\CR ro σ w b r (off+1)
def RR(ro:Nat->Prop)(σ:Sig)(w:World)(b k:Nat):List (List A)->Nat->Prop
 |[],_=>True
 |cs::r,off=>cs.length=k/\CR ro σ w b cs off/\RR ro σ w b k r (off+k)
def LR(ro:Nat->Prop)(σ:Sig)(w:World):List A->List Value->Prop
 |[],l=>l=[]
 |a::r,l=>∃v l',l=v::l'/\VR ro σ w a v/\LR ro σ w r l'
end
structure Ext (ro:Nat->Prop) (σ:Sig) (w:World) (ro':Nat->Prop) (σ':Sig) (w':World):Prop where
 sub:∀b,ro b->ro' b
 keep:∀b,ro b->w'.heap[b]?=w.heap[b]?
 shape:∀b x,w.shape? b=some x->w'.shape? b=some x
 sig:∀(i b:Nat),σ[i]?=some (some b)->σ'[i]?=some (some b)
theorem Qgq{w w':World}{b off:Nat}(h:w'.heap[b]?=w.heap[b]?):w'.cell? ⟨b,off,none⟩=w.cell? ⟨b,off,none⟩:=by
 simp only[World.cell?,h]
theorem Ext.nil{ro ro':Nat->Prop}{σ σ':Sig}{w w':World}(h:Ext ro σ w ro' σ' w'):Ext ro [] w ro' [] w':=
 ⟨h.sub,h.keep,h.shape,λ_ _ q=>q⟩
mutual
theorem VR.mono{ro ro':Nat->Prop}{w w':World}:∀{a:A} {σ σ':Sig} {v:Value},Ext ro σ w ro' σ' w'->VR ro σ w a v->VR ro' σ' w' a v
 |.any,_,_,_,h,_=>trivial
 |.bool b,_,_,v,h,q=>q
 |.int k n,_,_,v,h,q=>q
 |.str s,_,_,v,h,q=>q
 |.nilp,_,_,v,h,q=>q
 |.ptr i off,_,_,v,h,q=>by
  simp only[VR]at q⊢;obtain⟨b,h1,h2⟩:=q;exact⟨b,h.sig _ _ h1,h2⟩
 |.rp cs,_,_,v,h,q=>by
  simp only[VR]at q⊢;obtain⟨b,off,h1,h2,h3⟩:=q;exact⟨b,off,h1,h.sub _ h2,CR.mono h.nil h2 h3⟩
 |.nils,_,_,v,h,q=>q
 |.rsl k es,_,_,v,h,q=>by
  simp only[VR]at q⊢;obtain⟨a,cap,h1,h2,h3⟩:=q;refine⟨a,cap,h1,h2,?_⟩;rcases h3 with h3|⟨b,off,h4,h5,h6⟩
  .exact .inl h3
  .exact .inr ⟨b,off,h4,h.sub _ h5,RR.mono h.nil h5 h6⟩
 |.osl i o n k,_,_,v,h,q=>by
  simp only[VR]at q⊢;rcases q with q|⟨b,p,cap,t,m,h1,h2,h6,h3,h4,h5⟩
  .exact .inl q
  .exact .inr ⟨b,p,cap,t,m,h.sig _ _ h1,h2,h6,h3,h.shape _ _ h4,h5⟩
 |.agg cs,_,_,v,h,q=>by
  simp only[VR]at q⊢;obtain⟨l,h1,h2⟩:=q;exact⟨l,h1,LR.mono h h2⟩
 |.fn f a c,_,_,v,h,q=>by
  simp only[VR]at q⊢;obtain⟨l,l',h1,h2,h3⟩:=q;exact⟨l,l',h1,LR.mono h h2,LR.mono h h3⟩
 |.nilf,_,_,v,h,q=>q
 |.iface t a,_,_,v,h,q=>by
  simp only[VR]at q⊢;obtain⟨x,h1,h2⟩:=q;exact⟨x,h1,VR.mono h h2⟩
 |.nilif,_,_,v,h,q=>q
 |.map i,_,_,v,h,q=>by
  simp only[VR]at q⊢;obtain⟨b,h1,h2⟩:=q;exact⟨b,h.sig _ _ h1,h2⟩
 |.nilm,_,_,v,h,q=>q
 |.tup vs,_,_,v,h,q=>by
  simp only[VR]at q⊢;obtain⟨l,h1,h2⟩:=q;exact⟨l,h1,LR.mono h h2⟩
theorem CR.mono{ro ro':Nat->Prop}{w w':World}:∀{cs:List A} {σ σ':Sig} {b off:Nat},Ext ro σ w ro' σ' w'->ro b->CR ro σ w b cs off->CR ro' σ' w' b cs off
 |[],_,_,_,_,_,_,_=>trivial
 |a::r,_,_,b,off,h,hb,q=>by
  simp only[CR]at q⊢;obtain⟨⟨v,h1,hp,h2⟩,h3⟩:=q;exact⟨⟨v,by rw[Qgq (h.keep _ hb)];exact h1,hp,VR.mono h h2⟩,CR.mono h hb h3⟩
theorem RR.mono{ro ro':Nat->Prop}{w w':World}:∀{es:List (List A)} {σ σ':Sig} {b k off:Nat},Ext ro σ w ro' σ' w'->ro b->RR ro σ w b k es off->RR ro' σ' w' b k es off
 |[],_,_,_,_,_,_,_,_=>trivial
 |cs::r,_,_,b,k,off,h,hb,q=>by
  simp only[RR]at q⊢;obtain⟨h1,h2,h3⟩:=q;exact⟨h1,CR.mono h hb h2,RR.mono h hb h3⟩
theorem LR.mono{ro ro':Nat->Prop}{w w':World}:∀{az:List A} {σ σ':Sig} {l:List Value},Ext ro σ w ro' σ' w'->LR ro σ w az l->LR ro' σ' w' az l
 |[],_,_,_,h,q=>q
 |a::r,_,_,l,h,q=>by
  simp only[LR]at q⊢;obtain⟨v,l',h1,h2,h3⟩:=q;exact⟨v,l',h1,VR.mono h h2,LR.mono h h3⟩
end
structure Ent where
 fl:Bool
 off:Nat
 lo:Int
 hi:Int
def eC(b1 b2:Nat)(e:Ent):List A:=[.ptr (bif e.fl then b2 else b1) e.off,.int .i64 e.lo,.int .i64 e.hi]
inductive Blk where
 |dead
 |cells (t:Nat) (cs:List A)
 |row (t k:Nat) (es:List (List A))
 |rowr (t k:Nat) (es:List (List A))
 |map (es:List (A×A))
 |iter (cur:Option (A×A)) (es:List (A×A))
 |fmap (es:List (A×A))
 |ents (t b1 b2:Nat) (es:List Ent)
 |mapO (fz:Bool) (t k:Nat) (es:List (A×Option (List (List A))))
 |mapP (es:List (A×A))
 |frow (t k:Nat) (es:List (List A))
def Blk.live:Blk->Bool
 |.dead=>false
 |.fmap _=>false
 |.frow _ _ _=>false
 |.mapO fz _ _ _=> !fz
 |_=>true
def Blk.held:Blk->Bool
 |.mapO fz _ _ _=>fz
 |_=>false
def Blk.holds(x:Blk):Bool:=x.live||x.held
theorem Qay{x:Blk}(h:x.live=true):x≠ .dead:=by rintro rfl;cases h
theorem Qev{x:Blk}(h:x.holds=true):x≠ .dead:=by rintro rfl;cases h
theorem QaH{x:Blk}(h:x.live=true):x.holds=true:=by unfold Blk.holds;rw[h];rfl
abbrev Qc:=List Blk
def ER(ro:Nat->Prop)(σ:Sig)(w:World):List (A×A)->List MapEntry->Prop
 |[],l=>l=[]
 |x::r,l=>∃e l',l=e::l'/\VR ro σ w x.1 e.key/\VR ro σ w x.2 e.val/\ER ro σ w r l'
def ItR(ro:Nat->Prop)(w:World)(b:Nat)(cur:Option (A×A))(es:List (A×A)):Prop:=
 (es=[]/\cur=none/\w.heap[b]?=some (.mapIter none 0 #[] 0))\/
 ∃m l clock seen left,w.heap[b]?=some (.mapIter (some m) clock seen clock)/\ro m/\w.heap[m]?=some (.map l clock)/\(∀e∈l.toList,e.born<clock)/\(l.toList.map (·.born)).Nodup/\
  (left:List MapEntry).Perm (l.toList.filter λe=> !seen.contains e.born)/\ER ro [] w es left/\
  (∀x,cur=some x->∃e∈l.toList,seen.back? =some e.born/\VR ro [] w x.1 e.key/\VR ro [] w x.2 e.val)
def RL(ro:Nat->Prop)(σ:Sig)(w:World)(k:Nat):List (List A)->List Value->Prop
 |[],_=>True
 |c::es,l=>∃l1 l2,l=l1++l2/\c.length=k/\(LR ro σ w c l1/\ ∀v∈l1,Qm v)/\RL ro σ w k es l2
theorem RL.mono{ro ro':Nat->Prop}{σ σ':Sig}{w w':World}(h:Ext ro σ w ro' σ' w'){k:Nat}:∀{es:List (List A)} {l:List Value},RL ro σ w k es l->RL ro' σ' w' k es l
 |[],_,_=>trivial
 |c::es,l,⟨l1,l2,h1,h2,h3,h4⟩=>⟨l1,l2,h1,h2,⟨h3.1.mono h,h3.2⟩,RL.mono h h4⟩
def SO(ro:Nat->Prop)(w:World)(t k:Nat)(rows:List (List A))(v:Value):Prop:=
 (rows=[]/\v=.slice none 0 0)\/ ∃(c p cap:Nat) (vs:List Value),v=.slice (some ⟨c,p,none⟩) rows.length cap/\rows.length<=cap/\w.heap[c]?=some (.cells vs.toArray t (0,0))/\cap*k<=vs.length/\RL ro [] w k rows vs/\(0<cap->p=0)
def MO(ro:Nat->Prop)(w:World)(t k:Nat):List (A×Option (List (List A)))->List MapEntry->Prop
 |[],l=>l=[]
 |x::r,l=>∃e l',l=e::l'/\VR ro [] w x.1 e.key/\(∀rows,x.2=some rows->SO ro w t k rows e.val)/\MO ro w t k r l'
def Qei:List (A×Option (List (List A)))->List MapEntry->Nat->Prop
 |x::r,e::l,c=>(x.2.isSome=true/\ ∃p n cap,e.val=.slice (some ⟨c,p,none⟩) n cap)\/Qei r l c
 |_,_,_=>False
def QjL:List (A×Option (List (List A)))->List MapEntry->Prop
 |x::r,e::l=>(∀c,x.2.isSome=true->(∃p n cap,e.val=.slice (some ⟨c,p,none⟩) n cap)->¬Qei r l c)/\QjL r l
 |_,_=>True
def Hid(w:World):Blk->Nat->Nat->Prop
 |.mapO _ _ _ es,b,c=>∃l clock,w.heap[b]?=some (.map l clock)/\Qei es l.toList c
 |_,_,_=>False
theorem Hid.keep{w w':World}{x:Blk}{b c:Nat}(h:w'.heap[b]?=w.heap[b]?)(q:Hid w' x b c):Hid w x b c:=by
 cases x with
 |mapO fz t k f=>obtain⟨l,e,a,d⟩:=q;exact⟨l,e,by rw[<- h];exact a,d⟩
 |_=>exact q.elim
theorem Hid.holds{w:World}{x:Blk}{b c:Nat}(q:Hid w x b c):x.holds=true:=by
 cases x with
 |mapO fz t k a=>cases fz<;>rfl
 |_=>exact q.elim
theorem MO.mono{ro ro':Nat->Prop}{σ σ':Sig}{w w':World}(h:Ext ro σ w ro' σ' w'){t k:Nat}:∀{es:List (A×Option (List (List A)))} {l:List MapEntry},(∀c,Qei es l c->w'.heap[c]?=w.heap[c]?)->MO ro w t k es l->MO ro' w' t k es l
 |[],_,_,q=>q
 |x::r,_,hh,⟨e,l',h1,h2,h3,h4⟩=>by
  subst h1;refine⟨e,l',rfl,h2.mono h.nil,λrows hr=>?_,MO.mono h (λc hc=>hh c (.inr hc)) h4⟩;rcases h3 rows hr with q|⟨c,p,cap,vs,q1,q2,q3,q4,q5,q6⟩
  .exact .inl q
  .exact .inr ⟨c,p,cap,vs,q1,q2,by rw[hh c (.inl ⟨by rw[hr];rfl,p,_,_,q1⟩)];exact q3,q4,q5.mono h.nil,q6⟩
theorem MO.cells{ro:Nat->Prop}{w:World}{t k:Nat}:∀{es:List (A×Option (List (List A)))} {l:List MapEntry} {c:Nat},MO ro w t k es l->Qei es l c->∃vs:Array Value,w.heap[c]?=some (.cells vs t (0,0))
 |[],l,c,h,q=>by cases l<;>exact q.elim
 |x::r,_,c,⟨e,l',h1,h2,h3,h4⟩,q=>by
  subst h1;rcases q with⟨q1,p,n,cap,q2⟩|q
  .obtain⟨rows,hr⟩:=Option.isSome_iff_exists.1 q1;rcases h3 rows hr with⟨_,z⟩|⟨c',p',cap',vs,z1,z2,z3,z4,z5,z6⟩
   .rw[q2]at z;cases z
   .rw[q2]at z1;cases z1;exact⟨_,z3⟩
  .exact MO.cells h4 q
def Born(l:Array MapEntry)(clock:Nat):Prop:=clock=l.size/\ ∀(i:Nat) (e:MapEntry),l.toList[i]?=some e->e.born=i
theorem Born.modify{l:Array MapEntry}{a j:Nat}{f:MapEntry->MapEntry}(h:Born l a)(k:∀e,(f e).born=e.born):Born (l.modify j f) a:=by
 obtain⟨g,b⟩:=h;refine⟨by simp[g],λi m q=>?_⟩;rw[Array.toList_modify,List.getElem?_modify]at q;cases z:l.toList[i]? with
 |none=>rw[z]at q;simp at q
 |some e=>
  rw[z]at q;by_cases d:j=i
  .simp[d]at q;rw[<- q,k];exact b i e z
  .simp[d]at q;rw[<- q];exact b i e z
def BR(ro:Nat->Prop)(σ:Sig)(w:World):Blk->Option Nat->Prop
 |.dead,_=>True
 |.cells t cs,some b=>∃l:List Value,w.heap[b]?=some (.cells l.toArray t (0,0))/\LR ro σ w cs l/\ ∀v∈l,Qm v
 |.row t k es,some b=>∃l:List Value,w.heap[b]?=some (.cells l.toArray t (0,0))/\RL ro [] w k es l
 |.rowr t k es,some b=>∃l:List Value,w.heap[b]?=some (.cells l.toArray t (0,0))/\RL ro σ w k es l
 |.row _ _ es,none=>es=[]
 |.ents t b1 b2 es,some b=>∃l:List Value,w.heap[b]?=some (.cells l.toArray t (0,0))/\RL ro σ w 3 (es.map (eC b1 b2)) l
 |.ents _ _ _ es,none=>es=[]
 |.map es,some b=>∃l clock,w.heap[b]?=some (.map l clock)/\ER ro [] w es l.toList/\
   (∀e∈l.toList,e.born<clock)/\(l.toList.map (·.born)).Nodup/\(l.toList.map (·.key)).Nodup
 |.mapP es,some b=>∃l clock,w.heap[b]?=some (.map l clock)/\ER ro σ w es l.toList/\
   (∀e∈l.toList,e.born<clock)/\(l.toList.map (·.born)).Nodup/\(l.toList.map (·.key)).Nodup
 |.frow t k es,some b=>ro b/\ ∃l:List Value,w.heap[b]?=some (.cells l.toArray t (0,0))/\RL ro [] w k es l/\l.length=es.length*k
 |.iter cur es,some b=>ItR ro w b cur es
 |.mapO fz t k es,some b=>(fz=true->ro b)/\ ∃l clock,w.heap[b]?=some (.map l clock)/\MO ro w t k es l.toList/\QjL es l.toList/\
   (∀e∈l.toList,e.born<clock)/\(l.toList.map (·.born)).Nodup/\(l.toList.map (·.key)).Nodup/\Born l clock
 |.fmap es,some b=>ro b/\ ∃l clock,w.heap[b]?=some (.map l clock)/\ER ro [] w es l.toList/\
   (∀e∈l.toList,e.born<clock)/\(l.toList.map (·.born)).Nodup/\(l.toList.map (·.key)).Nodup
 |_,none=>False
structure RoOk (ro:Nat->Prop) (w:World):Prop where
 lt:∀b,ro b->b<w.heap.size
 g:∀b,b<nG->ro b
 gp:GP w
theorem RoOk.to{ro ro':Nat->Prop}{w w':World}(h:RoOk ro w)(sub:∀b,ro b->ro' b)(keep:∀b,ro b->w'.heap[b]?=w.heap[b]?)(lt:∀b,ro' b->b<w'.heap.size):RoOk ro' w':=
 ⟨lt,λb hb=>sub b (h.g b hb),h.gp.keep λb hb=>keep b (h.g b hb)⟩
structure QoC (fr ro:Nat->Prop) (σ:Sig) (H:Qc) (w:World) (i0 b0 c:Nat):Prop where
 lt:c<w.heap.size
 ro:¬ro c
 fr:¬fr c
 ne:∀(j b:Nat) (y:Blk),σ[j]?=some (some b)->H[j]?=some y->y.live=true->c≠b
 one:∀(j b:Nat) (y:Blk),σ[j]?=some (some b)->H[j]?=some y->Hid w y b c->b=b0/\j=i0
structure Sim (fr ro:Nat->Prop) (σ:Sig) (H:Qc) (w:World):Prop where
 len:σ.length=H.length
 roOk:RoOk ro w
 frLt:∀b,fr b->b<w.heap.size
 roFr:∀b,ro b->¬fr b
 own:∀(i b:Nat) (blk:Blk),σ[i]?=some (some b)->H[i]?=some blk->blk.live=true->b<w.heap.size/\ ¬ro b/\ ¬fr b
 inj:∀(i j b:Nat) (x y:Blk),σ[i]?=some (some b)->σ[j]?=some (some b)->H[i]?=some x->H[j]?=some y->x.live=true->y.live=true->i=j
 blk:∀(i:Nat) (s:Option Nat) (x:Blk),σ[i]?=some s->H[i]?=some x->BR ro σ w x s
 hid:∀(i b:Nat) (x:Blk) (c:Nat),σ[i]?=some (some b)->H[i]?=some x->Hid w x b c->QoC fr ro σ H w i b c
theorem Sim.roHeld{fr ro:Nat->Prop}{σ:Sig}{H:Qc}{w:World}(s:Sim fr ro σ H w){i b:Nat}{x:Blk}(e:σ[i]?=some (some b))(d:H[i]?=some x)(a:x.held=true):ro b:=by
 have h:=s.blk i _ x e d;cases x with
 |mapO fz t k f=>exact h.1 a
 |_=>cases a
theorem Sim.hidKeep{fr ro:Nat->Prop}{σ:Sig}{H:Qc}{w w':World}(s:Sim fr ro σ H w){i b c:Nat}{x:Blk}(f:σ[i]?=some (some b))(d:H[i]?=some x)
  (hl:x.live=true->w'.heap[b]?=w.heap[b]?)(e:∀b,ro b->w'.heap[b]?=w.heap[b]?)(q:Hid w' x b c):Hid w x b c:=by
 refine q.keep ?_;have h:=q.holds;cases a:x.live with
 |true=>exact hl a
 |false=>unfold Blk.holds at h;rw[a]at h;exact e b (s.roHeld f d h)
theorem Sim.hidTo{fr p ro ro':Nat->Prop}{σ σ':Sig}{H H':Qc}{w w':World}(s:Sim fr ro σ H w)(R:Nat->Nat->Prop)(Q:∀j j' a,R j a->R j' a->j=j')(E:w.heap.size<=w'.heap.size)
  (G:∀(i b:Nat) (x:Blk) (c:Nat),σ[i]?=some (some b)->H[i]?=some x->Hid w x b c->ro' c->ro c)
  (J:∀(i b:Nat) (x:Blk) (c:Nat),σ[i]?=some (some b)->H[i]?=some x->Hid w x b c->p c->fr c)
  (h:∀(j d:Nat) (y:Blk),σ'[j]?=some (some d)->H'[j]?=some y->y.holds=true->
   (∃(a:Nat) (l:Blk),R j a/\σ[a]?=some (some d)/\H[a]?=some l/\(y.live=true->l.live=true)/\ ∀c,Hid w' y d c->Hid w l d c)\/(w.heap.size<=d/\ ∀c,Hid w' y d c->False)):
  ∀(i b:Nat) (x:Blk) (c:Nat),σ'[i]?=some (some b)->H'[i]?=some x->Hid w' x b c->QoC p ro' σ' H' w' i b c:=by
 intro i b x c Y P n;rcases h i b x Y P n.holds with⟨a,l,O,M,r,g3,u⟩|⟨_,g⟩
 .have k:=s.hid a b l c M r (u c n);refine⟨Vg k.lt E,λq=>k.ro (G a b l c M r (u c n) q),λq=>k.fr (J a b l c M r (u c n) q),λj d y t F m=>?_,λj d y t F m=>?_⟩
  .rcases h j d y t F (QaH m)with⟨z,y1,_,B,L,N,_⟩|⟨f,_⟩
   .exact k.ne z d y1 B L (N m)
   .exact λe=>by have:=k.lt;omega
  .rcases h j d y t F m.holds with⟨z,y1,W,B,L,N,T⟩|⟨_,f⟩
   .obtain⟨V,X⟩:=k.one z d y1 B L (T c m);subst X;exact⟨V,Q _ _ _ W O⟩
   .exact(f c m).elim
 .exact(g c n).elim
theorem QW(j j' j0:Nat)(h:j=j0)(h':j'=j0):j=j':=h.trans h'.symm
theorem Sim.roLt{fr ro:Nat->Prop}{σ:Sig}{H:Qc}{w:World}(s:Sim fr ro σ H w):∀b,ro b->b<w.heap.size:=s.roOk.lt
structure Qe (fr ro:Nat->Prop) (w:World) (ro':Nat->Prop) (w':World):Prop where
 sub:∀b,ro b->ro' b
 keepRo:∀b,ro b->w'.heap[b]?=w.heap[b]?
 keepFr:∀b,fr b->w'.heap[b]?=w.heap[b]?
 size:w.heap.size<=w'.heap.size
 shape:∀b x,w.shape? b=some x->w'.shape? b=some x
 os:w'.os=w.os
 tape:w'.tape=w.tape
 output:w'.output=w.output
 drawn:w.drawn<=w'.drawn
theorem Qe.refl(fr ro:Nat->Prop)(w:World):Qe fr ro w ro w:=
 ⟨λ_ h=>h,λ_ _=>rfl,λ_ _=>rfl,XU _,λ_ _ h=>h,rfl,rfl,rfl,XU _⟩
theorem Qe.trans{fr ro ro1 ro2:Nat->Prop}{w w1 w2:World}(h:Qe fr ro w ro1 w1)(k:Qe fr ro1 w1 ro2 w2):Qe fr ro w ro2 w2:=
 ⟨λb q=>k.sub _ (h.sub _ q),λb q=>(k.keepRo _ (h.sub _ q)).trans (h.keepRo _ q),λb q=>(k.keepFr _ q).trans (h.keepFr _ q),
  XW h.size k.size,λb x q=>k.shape _ _ (h.shape _ _ q),k.os.trans h.os,k.tape.trans h.tape,k.output.trans h.output,XW h.drawn k.drawn⟩
theorem YH{σ τ:Sig}{i b:Nat}(h:σ[i]?=some (some b)):(σ++τ)[i]?=some (some b):=by
 have a:i<σ.length:=by
  rcases VD i σ.length with q|q
  .exact q
  .simp[XP q]at h
 rw[XN a];exact h
theorem Qe.ext{fr ro ro':Nat->Prop}{w w':World}(h:Qe fr ro w ro' w')(σ τ:Sig):Ext ro σ w ro' (σ++τ) w':=
 ⟨h.sub,h.keepRo,h.shape,λ_ _=>YH⟩
theorem Qe.ext0{fr ro ro':Nat->Prop}{w w':World}(h:Qe fr ro w ro' w')(σ:Sig):Ext ro σ w ro' σ w':=
 ⟨h.sub,h.keepRo,h.shape,λ_ _ q=>q⟩
theorem ER.mono{ro ro':Nat->Prop}{σ σ':Sig}{w w':World}(h:Ext ro σ w ro' σ' w'):∀{es:List (A×A)} {l:List MapEntry},ER ro σ w es l->ER ro' σ' w' es l
 |[],_,q=>q
 |x::r,l,q=>by
  simp only[ER]at q⊢;obtain⟨e,l',h1,h2,h3,h4⟩:=q;exact⟨e,l',h1,h2.mono h,h3.mono h,ER.mono h h4⟩
theorem ItR.keep{ro ro':Nat->Prop}{σ σ':Sig}{w w':World}(h:Ext ro σ w ro' σ' w'){b:Nat}(k:w'.heap[b]?=w.heap[b]?){f:Option (A×A)}{es:List (A×A)}
  (q:ItR ro w b f es):ItR ro' w' b f es:=by
 rcases q with⟨j,g,i⟩|⟨m,l,a,d,left,j,g,i,z,u,p,B,r⟩
 .exact .inl ⟨j,g,by rw[k];exact i⟩
 .refine .inr ⟨m,l,a,d,left,by rw[k];exact j,h.sub _ g,by rw[h.keep _ g];exact i,z,u,p,B.mono h.nil,λx y=>?_⟩;obtain⟨e,n,E,s,t⟩:=r x y;exact⟨e,n,E,s.mono h.nil,t.mono h.nil⟩
theorem CR.keep{ro ro':Nat->Prop}{σ σ':Sig}{w w':World}(h:Ext ro σ w ro' σ' w'){b:Nat}(hb:w'.heap[b]?=w.heap[b]?):
  ∀{cs:List A} {off:Nat},CR ro σ w b cs off->CR ro' σ' w' b cs off
 |[],_,_=>trivial
 |a::r,off,q=>by
  simp only[CR]at q⊢;obtain⟨⟨v,h1,hp,h2⟩,h3⟩:=q;exact⟨⟨v,by rw[Qgq hb];exact h1,hp,h2.mono h⟩,CR.keep h hb h3⟩
theorem RR.keep{ro ro':Nat->Prop}{σ σ':Sig}{w w':World}(h:Ext ro σ w ro' σ' w'){b:Nat}(hb:w'.heap[b]?=w.heap[b]?){k:Nat}:
  ∀{es:List (List A)} {off:Nat},RR ro σ w b k es off->RR ro' σ' w' b k es off
 |[],_,_=>trivial
 |cs::r,off,q=>by
  simp only[RR]at q⊢;obtain⟨h1,h2,h3⟩:=q;exact⟨h1,CR.keep h hb h2,RR.keep h hb h3⟩
theorem BR.keep{ro ro':Nat->Prop}{σ σ':Sig}{w w':World}(h:Ext ro σ w ro' σ' w'){x:Blk}{s:Option Nat}
  (g:∀b,s=some b->x.live=true->w'.heap[b]?=w.heap[b]?)(q:BR ro σ w x s)(m:∀b c,s=some b->Hid w x b c->w'.heap[c]?=w.heap[c]?):BR ro' σ' w' x s:=by
 cases x with
 |mapO fz t k i=>
  cases s with
  |none=>exact q
  |some b=>
   obtain⟨j,l,c,a,e,f⟩:=q;refine⟨λz=>h.sub b (j z),l,c,?_,e.mono h (λd p=>m b d rfl ⟨l,c,a,p⟩),f⟩;cases fz with
   |false=>rw[g b rfl rfl];exact a
   |true=>rw[h.keep b (j rfl)];exact a
 |dead=>trivial
 |cells t y=>
  cases s with
  |none=>exact q
  |some b=>
   obtain⟨l,a,e,f⟩:=q;exact⟨l,by rw[g b rfl rfl];exact a,e.mono h,f⟩
 |row t k i=>
  cases s with
  |none=>exact q
  |some b=>
   obtain⟨l,a,e⟩:=q;exact⟨l,by rw[g b rfl rfl];exact a,e.mono h.nil⟩
 |rowr t k i=>
  cases s with
  |none=>exact q.elim
  |some b=>
   obtain⟨l,a,e⟩:=q;exact⟨l,by rw[g b rfl rfl];exact a,e.mono h⟩
 |ents t r u i=>
  cases s with
  |none=>exact q
  |some b=>
   obtain⟨l,a,e⟩:=q;exact⟨l,by rw[g b rfl rfl];exact a,e.mono h⟩
 |map i=>
  cases s with
  |none=>exact q
  |some b=>
   obtain⟨l,c,a,e,f⟩:=q;exact⟨l,c,by rw[g b rfl rfl];exact a,e.mono h.nil,f⟩
 |mapP i=>
  cases s with
  |none=>exact q
  |some b=>
   obtain⟨l,c,a,e,f⟩:=q;exact⟨l,c,by rw[g b rfl rfl];exact a,e.mono h,f⟩
 |frow t k i=>
  cases s with
  |none=>exact q
  |some b=>
   obtain⟨j,l,a,e,f⟩:=q;exact⟨h.sub b j,l,by rw[h.keep b j];exact a,e.mono h.nil,f⟩
 |iter n i=>
  cases s with
  |none=>exact q
  |some b=>exact ItR.keep h (g b rfl rfl) q
 |fmap i=>
  cases s with
  |none=>exact q
  |some b=>
   obtain⟨j,l,c,a,e,f⟩:=q;exact⟨h.sub b j,l,c,by rw[h.keep b j];exact a,e.mono h.nil,f⟩
end Go.Sw
namespace Go.Sw
abbrev Env:=List (Nat×A)
def lk:Env->Nat->A
 |[],_=>.any
 |(d,a)::r,s=>bif Nat.beq s d then a else lk r s
abbrev up(env:Env)(d:Nat)(a:A):Env:=(d,a)::env
inductive AEx where
 |normal|exit (id:Nat)|ret
abbrev Qx:=AEx->Env->Qc->Prop
def Qdd(fr:Nat->Prop)(ds:List Deferred)(w:World):Prop:=ds.Nodup/\ ∀d∈ds,∃D,d={target:=.collected D,args:= #[]}/\fr D/\w.heap[D]?=some (.deferred (some []))
theorem Qdd.keep{fr ro ro':Nat->Prop}{b:List Deferred}{w w':World}(h:Qdd fr b w)(k:Qe fr ro w ro' w'):Qdd fr b w':=by
 refine⟨h.1,λd f=>?_⟩;obtain⟨D,e,a,g⟩:=h.2 d f;exact⟨D,e,a,(k.keepFr D a).trans g⟩
structure Grow (fr:Nat->Prop) (w:World) (ds:List Deferred) (fr':Nat->Prop) (ds':List Deferred):Prop where
 sub:∀b,fr b->fr' b
 new:∀b,fr' b->fr b\/w.heap.size<=b
 ds:∀d∈ds',d∈ds\/ ∃D,d={target:=.collected D,args:= #[]}/\w.heap.size<=D
theorem Grow.refl(fr:Nat->Prop)(w:World)(ds:List Deferred):Grow fr w ds fr ds:=⟨λ_ h=>h,λ_ h=>.inl h,λ_ h=>.inl h⟩
theorem Grow.trans{fr a f:Nat->Prop}{w i:World}{ds e g:List Deferred}(h:Grow fr w ds a e)(j:w.heap.size<=i.heap.size)(k:Grow a i e f g):Grow fr w ds f g:=by
 refine⟨λb q=>k.sub b (h.sub b q),λb q=>?_,λd q=>?_⟩
 .rcases k.new b q with q|q
  .exact h.new b q
  .exact .inr (XW j q)
 .rcases k.ds d q with q|⟨D,m,l⟩
  .exact h.ds d q
  .exact .inr ⟨D,m,XW j l⟩
theorem Qe.frMono{fr fr' ro ro':Nat->Prop}{w w':World}(h:Qe fr' ro w ro' w')(s:∀b,fr b->fr' b):Qe fr ro w ro' w':=
 ⟨h.sub,h.keepRo,λb q=>h.keepFr b (s b q),h.size,h.shape,h.os,h.tape,h.output,h.drawn⟩
theorem Sim.frMono{fr fr' ro:Nat->Prop}{σ:Sig}{H:Qc}{w:World}(h:Sim fr' ro σ H w)(s:∀b,fr b->fr' b):Sim fr ro σ H w:=
 ⟨h.len,h.roOk,λb q=>h.frLt b (s b q),λb q r=>h.roFr b q (s b r),λi b x q1 q2 q3=>let⟨a,b',c⟩:=h.own i b x q1 q2 q3;⟨a,b',λq=>c (s b q)⟩,h.inj,h.blk,λi b x c q1 q2 q3=>let k:=h.hid i b x c q1 q2 q3;⟨k.lt,k.ro,λq=>k.fr (s c q),k.ne,k.one⟩⟩
structure Rel (fr ro:Nat->Prop) (σ:Sig) (H:Qc) (env:Env) (N:Nat) (a:Act) (w:World):Prop where
 sim:Sim fr ro σ H w
 env:∀s,VR ro σ w (lk env s) (a.tmps.getD s undef)
 size:a.tmps.size=N
 defers:Qdd fr a.defers w
def Qeh(rd:Option Nat)(fr:Nat->Prop)(w:World):Prop:=∀l,rd=some l->fr l/\ ∃r,w.heap[l]?=some (.loop r)
theorem Qeh.none{fr:Nat->Prop}{w:World}:Qeh none fr w:=λl e=>by cases e
theorem Qeh.to{rd:Option Nat}{fr fr' ro ro':Nat->Prop}{w w':World}(h:Qeh rd fr w)(k:Qe fr ro w ro' w')(s:∀b,fr b->fr' b):Qeh rd fr' w':=λl e=>by
 obtain⟨h1,r,h2⟩:=h l e;exact⟨s l h1,r,(k.keepFr l h1).trans h2⟩
def ExR:Exit->AEx->Prop
 |.normal,x=>x=.normal
 |.exit id,x=>x=.exit id
 |.ret,x=>x=.ret
 |_,_=>False
def QaR(h0:Nat)(fr ro:Nat->Prop)(σ:Sig)(w:World)(N:Nat)(ds:List Deferred)(Q:Qx):Exit->Act->World->Prop:=
 λe a' w'=>∃x env' H' ro' σ' fr',ExR e x/\Q x env' H'/\Rel fr' ro' σ' H' env' N a' w'/\Qe fr ro w ro' w'/\σ'.take h0=σ.take h0/\Grow fr w ds fr' a'.defers
theorem QaR.grow{h0:Nat}{fr d ro b:Nat->Prop}{σ σ1:Sig}{w j:World}{N:Nat}{k f:List Deferred}{Q:Qx}{e:Exit}{a':Act}{w':World}
  (h:QaR h0 d b σ1 j N f Q e a' w')(he:Qe fr ro w b j)(p:σ1.take h0=σ.take h0)(hg:Grow fr w k d f):QaR h0 fr ro σ w N k Q e a' w':=by
 obtain⟨x,a,H',g,σ',i,r,m,n,s,q,l⟩:=h;exact⟨x,a,H',g,σ',i,r,m,n,he.trans (s.frMono hg.sub),q.trans p,hg.trans he.size l⟩
theorem QaR.step{h0:Nat}{fr ro ro1:Nat->Prop}{σ σ1:Sig}{w w1:World}{N:Nat}{ds:List Deferred}{Q:Qx}{e:Exit}{a':Act}{w':World}
  (h:QaR h0 fr ro1 σ1 w1 N ds Q e a' w')(he:Qe fr ro w ro1 w1)(hs:σ1.take h0=σ.take h0):QaR h0 fr ro σ w N ds Q e a' w':=h.grow he hs (Grow.refl _ _ _)
theorem QaR.mono{h0:Nat}{fr ro:Nat->Prop}{σ:Sig}{w:World}{N:Nat}{f:List Deferred}{Q Q':Qx}{e:Exit}{a':Act}{w':World}
  (h:QaR h0 fr ro σ w N f Q e a' w')(j:∀x env H,Q x env H->Q' x env H):QaR h0 fr ro σ w N f Q' e a' w':=by
 obtain⟨x,a,H',b,σ',d,k,g,i⟩:=h;exact⟨x,a,H',b,σ',d,k,j _ _ _ g,i⟩
def Qb1(h0:Nat)(fr ro:Nat->Prop)(σ:Sig)(w:World)(N:Nat)(ds:List Deferred)(Q:Qx):Exit->Act->World->Prop:=
 λe a' w'=>∃x env' H' ro' σ' fr',ExR e x/\Q x env' H'/\Rel fr' ro' σ' H' env' N a' w'/\Qe fr ro w ro' w'/\σ'.take h0=σ.take h0/\a'.defers=ds/\Grow fr w ds fr' ds
theorem Qb1.grow{h0:Nat}{fr d ro b:Nat->Prop}{σ σ1:Sig}{w j:World}{N:Nat}{f:List Deferred}{Q:Qx}{e:Exit}{a':Act}{w':World}
  (h:Qb1 h0 d b σ1 j N f Q e a' w')(he:Qe fr ro w b j)(n:σ1.take h0=σ.take h0)(hg:Grow fr w f d f):Qb1 h0 fr ro σ w N f Q e a' w':=by
 obtain⟨x,a,H',g,σ',i,q,l,m,r,p,k,s⟩:=h;exact⟨x,a,H',g,σ',i,q,l,m,he.trans (r.frMono hg.sub),p.trans n,k,hg.trans he.size s⟩
theorem Qb1.step{h0:Nat}{fr ro ro1:Nat->Prop}{σ σ1:Sig}{w w1:World}{N:Nat}{ds:List Deferred}{Q:Qx}{e:Exit}{a':Act}{w':World}
  (h:Qb1 h0 fr ro1 σ1 w1 N ds Q e a' w')(he:Qe fr ro w ro1 w1)(hs:σ1.take h0=σ.take h0):Qb1 h0 fr ro σ w N ds Q e a' w':=h.grow he hs (Grow.refl _ _ _)
theorem Qb1.mono{h0:Nat}{fr ro:Nat->Prop}{σ:Sig}{w:World}{N:Nat}{f:List Deferred}{Q Q':Qx}{e:Exit}{a':Act}{w':World}
  (h:Qb1 h0 fr ro σ w N f Q e a' w')(j:∀x env H,Q x env H->Q' x env H):Qb1 h0 fr ro σ w N f Q' e a' w':=by
 obtain⟨x,a,H',b,σ',d,k,g,i⟩:=h;exact⟨x,a,H',b,σ',d,k,j _ _ _ g,i⟩
theorem Qb1.postW{h0:Nat}{fr ro:Nat->Prop}{σ:Sig}{w:World}{N:Nat}{f:List Deferred}{Q:Qx}{e:Exit}{a':Act}{w':World}
  (h:Qb1 h0 fr ro σ w N f Q e a' w'):QaR h0 fr ro σ w N f Q e a' w':=by
 obtain⟨x,a,H',b,σ',d,l,i,j,m,k,g,n⟩:=h;exact⟨x,a,H',b,σ',d,l,i,j,m,k,by rw[g];exact n⟩
def WF(rd:Option Nat):Fence:={Fence.wide with round:=rd}
theorem WF.calls{rd:Option Nat}{P:Program}{f:FuncId}{args:Array Value}{w:World}{R:Ending->World->Prop}:CallsIn (WF rd) 0 P f args w R↔Calls P f args w R:=callsIn_wide
abbrev wpL(P:Program)(rd:Option Nat)(ops:Array Oper)(Q:Exit->Act->World->Prop):List Oper->Act->World->Prop:=wpListIn (WF rd) 0 P ops Q
def TC(P:Program)(h0 N:Nat)(c:Code)(env:Env)(H:Qc)(Q:Qx):Prop:=
 ∀rd fr ro σ a w,Rel fr ro σ H env N a w->Qeh rd fr w->c.wpIn (WF rd) 0 P (QaR h0 fr ro σ w N a.defers Q) a w
def WO(P:Program)(h0 N:Nat)(all:Array Oper)(l:List Oper)(env:Env)(H:Qc)(Q:Qx):Prop:=
 ∀rd fr ro σ a w,Rel fr ro σ H env N a w->Qeh rd fr w->wpL P rd all (Qb1 h0 fr ro σ w N a.defers Q) l a w
def Le(h0:Nat)(env:Env)(H:Qc)(env':Env)(H':Qc):Prop:=
 ∀fr ro σ N a w,Rel fr ro σ H env N a w->∃ro' σ',Rel fr ro' σ' H' env' N a w/\(∀b,ro b->ro' b)/\σ'.take h0=σ.take h0
theorem Le.refl(h0:Nat)(env:Env)(H:Qc):Le h0 env H env H:=λfr ro σ N a w h=>⟨ro,σ,h,λ_ q=>q,rfl⟩
theorem Le.trans{h0:Nat}{j g f:Env}{H1 H2 H3:Qc}(h:Le h0 j H1 g H2)(k:Le h0 g H2 f H3):Le h0 j H1 f H3:=by
 intro i s σ N a w r;obtain⟨d,σ1,p,t,u⟩:=h i s σ N a w r;obtain⟨e,σ2,m,n,l⟩:=k i d σ1 N a w p;exact⟨e,σ2,m,λb q=>n _ (t _ q),l.trans u⟩
theorem YG{fr ro ro':Nat->Prop}{w:World}(h:∀b,ro b->ro' b):Qe fr ro w ro' w:=
 ⟨h,λ_ _=>rfl,λ_ _=>rfl,XU _,λ_ _ h=>h,rfl,rfl,rfl,XU _⟩
theorem Ye{P:Program}{rd:Option Nat}{ops:Array Oper}{Q Q':Exit->Act->World->Prop}(hq:∀e a w,Q e a w->Q' e a w):
  ∀(l:List Oper) (a:Act) (w:World),wpL P rd ops Q l a w->wpL P rd ops Q' l a w
 |[],a,w,h=>hq _ _ _ h
 |o::l,a,w,h=>by
  unfold wpL wpListIn at h⊢;split
  .rename_i hw;rw[Vu hw]at h;obtain⟨h1,h2⟩:=h;refine⟨h1,?_⟩
   revert h2
   generalize(o.semAt (WF rd).round a.eval).run P w=r;intro h2;have hk:=λa w=>Ye (P:=P) (rd:=rd) (ops:=ops) hq l a w;cases r with
   |ok x w=>
    cases x with
    |value v=>exact hk _ _ h2
    |skip=>exact hk _ _ h2
    |defer d=>exact hk _ _ h2
    |enter f args=>
     refine⟨h2.1,CallsIn.mono h2.2 ?_⟩;intro e w' q;cases e with
     |returned v=>exact hk _ _ q
     |panicked c=>exact hq _ _ _ q
     |outgrown=>obtain⟨a,w,q⟩:=q;exact⟨a,w,hq _ _ _ q⟩
    |row r args=>exact⟨h2.1,RowsIn.mono h2.2 λv w' q=>hk _ _ q⟩
    |round l f tmps assign body=>
     refine⟨h2.1,RoundIn.mono h2.2 ?_⟩;intro e w' q;cases e with
     |returned v=>exact hk _ _ q
     |panicked c=>exact hq _ _ _ q
     |outgrown=>obtain⟨a,w,q⟩:=q;exact⟨a,w,hq _ _ _ q⟩
    |_=>exact h2
   |halt x w=>
    cases x with
    |panic v=>exact hq _ _ _ h2
    |_=>exact h2
  .rename_i hw;rw[Vt hw]at h;exact⟨h.1,Ye hq l _ _ h.2⟩
theorem QcJ{P:Program}{o:Oper}{a:Act}{w w':World}{x:Next}{rd:Option Nat}(h:(execOp a.eval o).run P w=.ok x w')(f:∀d,x≠ .defer d):(o.semAt (WF rd).round a.eval).run P w=.ok x w':=by
 cases e:o.op with
 |defer c=>
  exfalso;have:execOp a.eval o=(do pure (.defer (<- resolve a.eval c o.type))):=by simp[execOp,e]
  rw[this]at h;simp only[Vn]at h;generalize(resolve a.eval c o.type).run P w=r at h;cases r with
  |ok d b=>simp[Result.andThen,go_sem]at h;exact f _ h.1.symm
  |halt x b=>simp[Result.andThen]at h
 |_=>rw[Oper.semAt_eq _ _ _ (by rw[e];intro c q;cases q)];exact h
theorem Qac{P:Program}{rd:Option Nat}{ops:Array Oper}{Q:Exit->Act->World->Prop}{o:Oper}{l:List Oper}{a:Act}{w w':World}{v:Value}(b:Region.wanted o (yielded ops a.tmps)=true)
  (h:(execOp a.eval o).run P w=.ok (.value v) w')(k:wpL P rd ops Q l (a.put o.dst v) w'):wpL P rd ops Q (o::l) a w:=by
 unfold wpL wpListIn;rw[Vu b];exact⟨λ_ _=>trivial,by rw[QcJ h (λd e=>by cases e)];exact k⟩
theorem Qhx{P:Program}{rd:Option Nat}{ops:Array Oper}{Q:Exit->Act->World->Prop}{o:Oper}{l:List Oper}{a:Act}{w w':World}(b:Region.wanted o (yielded ops a.tmps)=true)
  (h:(execOp a.eval o).run P w=.ok .skip w')(k:wpL P rd ops Q l (a.put o.dst undef) w'):wpL P rd ops Q (o::l) a w:=by
 unfold wpL wpListIn;rw[Vu b];exact⟨λ_ _=>trivial,by rw[QcJ h (λd e=>by cases e)];exact k⟩
theorem Qdg{P:Program}{rd:Option Nat}{ops:Array Oper}{Q:Exit->Act->World->Prop}{o:Oper}{l:List Oper}{a:Act}{w w':World}{f:FuncId}{args:Array Value}(b:Region.wanted o (yielded ops a.tmps)=true)
  (h:(execOp a.eval o).run P w=.ok (.enter f args) w')(k:Calls P f args w' λe w''=>∃v,e=.returned v/\wpL P rd ops Q l (a.put o.dst v) w''):wpL P rd ops Q (o::l) a w:=by
 unfold wpL wpListIn;rw[Vu b];refine⟨λ_ _=>trivial,?_⟩;rw[QcJ h (λd e=>by cases e)];refine⟨λh=>by simp[WF,Fence.wide]at h,WF.calls.2 (Calls.mono k ?_)⟩;rintro e w'' ⟨v,rfl,q⟩;exact q
section
variable {P:Program} {h0 N:Nat} {env env':Env} {H H':Qc} {Q Q':Qx} {c c':Code}
theorem TC.mono(h:TC P h0 N c env H Q)(hq:∀x env H,Q x env H->Q' x env H):TC P h0 N c env H Q':=
 λrd fr ro σ a w r hrd=>Code.wpIn_mono (λe a w q=>q.mono hq) (h rd fr ro σ a w r hrd)
theorem TC.le(b:Le h0 env H env' H')(h:TC P h0 N c env' H' Q):TC P h0 N c env H Q:=by
 intro j f g σ a w r hrd;obtain⟨d,σ',i,s,t⟩:=b f g σ N a w r;exact Code.wpIn_mono (λe a w q=>q.step (YG s) t) (h j f d σ' a w i hrd)
theorem WO.le{all:Array Oper}{l:List Oper}(b:Le h0 env H env' H')(h:WO P h0 N all l env' H' Q):WO P h0 N all l env H Q:=by
 intro j f g σ a w r hrd;obtain⟨d,σ',i,s,t⟩:=b f g σ N a w r;exact Ye (λe a w q=>q.step (YG s) t) _ _ _ (h j f d σ' a w i hrd)
theorem WO.mono{all:Array Oper}{l:List Oper}(h:WO P h0 N all l env H Q)(hq:∀x env H,Q x env H->Q' x env H):WO P h0 N all l env H Q':=
 λrd fr ro σ a w r hrd=>Ye (λe a w q=>q.mono hq) _ _ _ (h rd fr ro σ a w r hrd)
def Seq(P:Program)(h0 N:Nat)(c:Code)(Q:Qx):Qx
 |.normal,env,H=>TC P h0 N c env H Q
 |.exit id,env,H=>Q (.exit id) env H
 |.ret,env,H=>Q .ret env H
def Blo(id:Nat)(Q:Qx):Qx
 |.normal,env,H=>Q .normal env H
 |.exit id',env,H=>bif Nat.beq id' id then Q .normal env H else Q (.exit id') env H
 |.ret,env,H=>Q .ret env H
theorem TC.seq(h:TC P h0 N c env H (Seq P h0 N c' Q)):TC P h0 N (.seq c c') env H Q:=by
 intro n t p σ a w r hrd;refine wpIn_seq (Code.wpIn_mono ?_ (h n t p σ a w r hrd));rintro e s u ⟨x,b,H',d,σ',f,i,k,l,j,m,g⟩;cases e with
 |normal=>
  obtain rfl:x=.normal:=i;exact Code.wpIn_mono (λe a w q=>q.grow j m g) (k n f d σ' s u l (hrd.to j g.sub))
 |exit id=>
  obtain rfl:x=.exit id:=i;exact⟨_,b,H',d,σ',f,rfl,k,l,j,m,g⟩
 |ret=>
  obtain rfl:x=.ret:=i;exact⟨_,b,H',d,σ',f,rfl,k,l,j,m,g⟩
 |_=>exact i.elim
theorem TC.skip(h:Q .normal env H):TC P h0 N .skip env H Q:=
 λrd fr ro σ a w r hrd=>wpIn_skip ⟨_,env,H,ro,σ,fr,rfl,h,r,Qe.refl _ _ _,rfl,Grow.refl _ _ _⟩
theorem TC.ret(h:Q .ret env H):TC P h0 N .ret env H Q:=
 λrd fr ro σ a w r hrd=>wpIn_ret ⟨_,env,H,ro,σ,fr,rfl,h,r,Qe.refl _ _ _,rfl,Grow.refl _ _ _⟩
theorem TC.exit{id:Nat}(h:Q (.exit id) env H):TC P h0 N (.exit id) env H Q:=
 λrd fr ro σ a w r hrd=>wpIn_exit ⟨_,env,H,ro,σ,fr,rfl,h,r,Qe.refl _ _ _,rfl,Grow.refl _ _ _⟩
theorem TC.block{id:Nat}(h:TC P h0 N c env H (Blo id Q)):TC P h0 N (.block id c) env H Q:=by
 intro t s p σ a w r hrd;refine wpIn_block (Code.wpIn_mono ?_ (h t s p σ a w r hrd));rintro e u y ⟨x,b,H',d,σ',f,m,g,k,n,l,j⟩;cases e with
 |normal=>
  obtain rfl:x=.normal:=m;exact⟨_,b,H',d,σ',f,rfl,g,k,n,l,j⟩
 |exit i=>
  obtain rfl:x=.exit i:=m;simp only[Exit.inBlock];simp only[Blo]at g;by_cases e:i=id
  .subst e;rw[Vu rfl];rw[VG]at g;exact⟨_,b,H',d,σ',f,rfl,g,k,n,l,j⟩
  .rw[Vt e];have:Nat.beq i id=false:=by
    rw[VN];intro q;exact e (XR q)
   rw[this]at g;exact⟨_,b,H',d,σ',f,rfl,g,k,n,l,j⟩
 |ret=>
  obtain rfl:x=.ret:=m;exact⟨_,b,H',d,σ',f,rfl,g,k,n,l,j⟩
 |_=>exact m.elim
def opA(env:Env):Operand->A
 |.tmp t=>lk env t
 |.const (.bool b)=>.bool b
 |.const (.int k n)=>.int k n
 |.const (.string s)=>.str s.data.toList
 |.const (.pointer none)=>.nilp
 |.const (.slice none 0 0)=>.nils
 |.const (.map none)=>.nilm
 |.const .nilFunc=>.nilf
 |.const .nilIface=>.nilif
 |.func f=>.fn (.func f) [] []
 |_=>.any
theorem Qd{fr ro:Nat->Prop}{σ:Sig}{a:Act}{w:World}(r:Rel fr ro σ H env N a w)(x:Operand):VR ro σ w (opA env x) (a.eval x):=by
 cases x with
 |tmp t=>exact r.env t
 |const v=>
  cases v with
  |slice a n k=>
   cases a with
   |none=>
    cases n with
    |zero=>cases k with
     |zero=>rfl
     |succ k=>trivial
    |succ n=>trivial
   |some a=>trivial
  |pointer p=>cases p with
   |none=>rfl
   |some p=>trivial
  |map p=>cases p with
   |none=>rfl
   |some p=>trivial
  |string s=>simp[opA,VR,Act.eval]
  |_=>first|trivial|rfl|simp[opA,VR,Act.eval]
 |global g=>trivial
 |func f=>exact⟨[],[],rfl,rfl,rfl⟩
theorem TC.cond{x:Operand}{t:Bool}(i:opA env x=.bool t)(h:t=true->TC P h0 N c env H Q)(j:t=false->TC P h0 N c' env H Q):
  TC P h0 N (.cond x c c') env H Q:=by
 intro f b d σ a w r hrd;have g:=Qd r x;rw[i]at g;exact wpIn_cond_split g (λe=>h e f b d σ a w r hrd) (λe=>j e f b d σ a w r hrd)
theorem QhY{t:Array Value}{d s:Nat}{v:Value}(a:d<t.size):(t.setIfInBounds d v).getD s undef=if s=d then v else t.getD s undef:=by
 simp only[Array.getD_eq_getD_getElem?,Vf];by_cases e:s=d
 .subst e;simp[a]
 .rw[Vt (λq=>e q.symm),Vt e]
theorem VR.up{fr ro:Nat->Prop}{σ:Sig}{a:Act}{w:World}(r:∀s,VR ro σ w (lk env s) (a.tmps.getD s undef)){d:Nat}(f:d<a.tmps.size){x:A}{v:Value}(b:VR ro σ w x v):
  ∀s,VR ro σ w (lk (up env d x) s) ((a.tmps.setIfInBounds d v).getD s undef):=by
 intro s;rw[QhY f];simp only[up,lk];by_cases e:s=d
 .subst e;rw[VG,Vu rfl];exact b
 .have:Nat.beq s d=false:=by
   rw[VN];intro q;exact e (XR q)
  rw[this,Vt e];exact r s
def Qn(all:Array Oper)(o:Oper)(env:Env)(b:Bool):Prop:=
 match o.guard with
 |none=>b=true
 |some (j,c)=>∃d,(all[j]?).bind (·.dst)=some d/\((∃x,lk env d=.bool x/\b=(x==c))\/(lk env d=.tup []/\b=false))
theorem YA{all:Array Oper}{o:Oper}{b:Bool}(h:Qn all o env b){fr ro:Nat->Prop}{σ:Sig}{a:Act}{w:World}(r:Rel fr ro σ H env N a w):
  Region.wanted o (yielded all a.tmps)=b:=by
 unfold Qn at h;unfold Region.wanted;cases n:o.guard with
 |none=>rw[n]at h;exact h.symm
 |some g=>
  obtain⟨j,c⟩:=g;rw[n]at h;obtain⟨d,m,⟨x,i,k⟩|⟨i,k⟩⟩:=h
  .have f:=r.env d;rw[i]at f;simp only[VR]at f;have p:a.tmps[d]?=some (.bool x):=by
    rw[Array.getD_eq_getD_getElem?]at f;cases e:a.tmps[d]? with
    |none=>rw[e]at f;simp[undef]at f
    |some y=>rw[e]at f;simp at f;rw[f]
   simp only[yielded,m,XK,p,k];cases x<;>cases c<;>rfl
  .have f:=r.env d;rw[i]at f;obtain⟨l,f,q⟩:=f;rw[Array.getD_eq_getD_getElem?]at f;subst k;simp only[yielded,m,XK];cases e:a.tmps[d]? with
   |none=>cases c<;>rfl
   |some y=>rw[e]at f;simp at f;subst f;cases c<;>rfl
def OpV(P:Program)(o:Oper)(env:Env)(H:Qc)(x:A):Prop:=
 ∀fr ro σ N a w,Rel fr ro σ H env N a w->∃v,(execOp a.eval o).run P w=.ok (.value v) w/\VR ro σ w x v
def OpH(P:Program)(o:Oper)(env:Env)(H:Qc)(x:A)(H':Qc):Prop:=
 ∀fr ro σ N a w,Rel fr ro σ H env N a w->∃v w' ro' τ,(execOp a.eval o).run P w=.ok (.value v) w'/\VR ro' (σ++τ) w' x v/\
  Sim fr ro' (σ++τ) H' w'/\Qe fr ro w ro' w'
def OpU(P:Program)(o:Oper)(env:Env)(H:Qc)(H':Qc):Prop:=
 ∀fr ro σ N a w,Rel fr ro σ H env N a w->∃w' ro' τ,(execOp a.eval o).run P w=.ok .skip w'/\
  Sim fr ro' (σ++τ) H' w'/\Qe fr ro w ro' w'
theorem WO.nil{all:Array Oper}(h:Q .normal env H):WO P h0 N all [] env H Q:=
 λrd fr ro σ a w r hrd=>⟨_,env,H,ro,σ,fr,rfl,h,r,Qe.refl _ _ _,rfl,rfl,Grow.refl _ _ _⟩
theorem Qs{σ τ:Sig}{h0:Nat}(h:h0<=σ.length):(σ++τ).take h0=σ.take h0:=by
 rw[X8 h]
theorem YY{all:Array Oper}{o:Oper}{l:List Oper}{d:Nat}{x:A}(u:h0<=H.length)(hg:Qn all o env true)(j:o.dst=some d)(p:Nat.blt d N=true)
  (h:OpH P o env H x H')(k:WO P h0 N all l (up env d x) H' Q):WO P h0 N all (o::l) env H Q:=by
 intro B fr t σ a w r hrd;obtain⟨v,i,b,τ,y,m,n,f⟩:=h fr t σ N a w r;refine Qac (YA hg r) y ?_;simp only[j,Act.put];have g:d<N:=by simpa using p
 have z:Rel fr b (σ++τ) H' (up env d x) N {a with tmps:=a.tmps.setIfInBounds d v} i:=
  ⟨n,VR.up (fr:=fr) (λs=>(r.env s).mono (f.ext σ τ)) (by rw[r.size];exact g) m,by simpa using r.size,r.defers.keep f⟩
 refine Ye (λe a w q=>q.step f (Qs ?_)) _ _ _ (k B fr b (σ++τ) _ i z (hrd.to f λ_ q=>q));rw[r.sim.len];exact u
theorem QE{all:Array Oper}{o:Oper}{l:List Oper}{d:Nat}{x:A}(hg:Qn all o env true)(j:o.dst=some d)(h:Nat.blt d N=true)
  (e:OpV P o env H x)(k:WO P h0 N all l (up env d x) H Q):WO P h0 N all (o::l) env H Q:=by
 intro m fr f σ a w r hrd;obtain⟨v,i,g⟩:=e fr f σ N a w r;refine Qac (YA hg r) i ?_;simp only[j,Act.put];have b:d<N:=by simpa using h
 exact k m fr f σ {a with tmps:=a.tmps.setIfInBounds d v} w ⟨r.sim,VR.up (fr:=fr) r.env (by rw[r.size];exact b) g,by simpa using r.size,r.defers⟩ hrd
theorem QbB{all:Array Oper}{o:Oper}{l:List Oper}(n:h0<=H.length)(hg:Qn all o env true)(i:o.dst=none)
  (g:OpU P o env H H')(k:WO P h0 N all l env H' Q):WO P h0 N all (o::l) env H Q:=by
 intro u f m σ a w r hrd;obtain⟨h,b,τ,p,j,d⟩:=g f m σ N a w r;refine Qhx (YA hg r) p ?_;simp only[i,Act.put];have t:Rel f b (σ++τ) H' env N a h:=⟨j,λs=>(r.env s).mono (d.ext σ τ),r.size,r.defers.keep d⟩;refine Ye (λe a w q=>q.step d (Qs ?_)) _ _ _ (k u f b (σ++τ) _ h t (hrd.to d λ_ q=>q));rw[r.sim.len];exact n
theorem Qpy{all:Array Oper}{o:Oper}{l:List Oper}{x:A}(n:h0<=H.length)(hg:Qn all o env true)(i:o.dst=none)
  (g:OpH P o env H x H')(k:WO P h0 N all l env H' Q):WO P h0 N all (o::l) env H Q:=by
 intro u f m σ a w r hrd;obtain⟨v,h,b,τ,p,y,j,d⟩:=g f m σ N a w r;refine Qac (YA hg r) p ?_;simp only[i,Act.put];have t:Rel f b (σ++τ) H' env N a h:=⟨j,λs=>(r.env s).mono (d.ext σ τ),r.size,r.defers.keep d⟩;refine Ye (λe a w q=>q.step d (Qs ?_)) _ _ _ (k u f b (σ++τ) _ h t (hrd.to d λ_ q=>q));rw[r.sim.len];exact n
theorem WO.skip{all:Array Oper}{o:Oper}{l:List Oper}{d:Nat}(hg:Qn all o env false)(e:o.dst=some d)(f:Nat.blt d N=true)
  (k:WO P h0 N all l (up env d (.tup [])) H Q):WO P h0 N all (o::l) env H Q:=by
 intro h fr g σ a w r hrd;unfold wpL wpListIn;rw[YA hg r,Vt (by simp)];refine⟨λ_ _=>trivial,?_⟩;simp only[e,Act.put];have b:d<N:=by simpa using f
 exact k h fr g σ {a with tmps:=a.tmps.setIfInBounds d undef} w ⟨r.sim,VR.up (fr:=fr) r.env (by rw[r.size];exact b) ⟨[],rfl,rfl⟩,by simpa using r.size,r.defers⟩ hrd
theorem TC.region{id:Nat}{l:List Oper}(h:WO P h0 N l.toArray l env H Q):TC P h0 N (.region id l.toArray false) env H Q:=
 λrd fr ro σ a w r hrd=>Code.wpIn_mono (λe a w q=>q.postW) (wpIn_region_lit (h rd fr ro σ a w r hrd))
end
end Go.Sw
namespace Go.Sw
mutual
def Yx(ρ:Nat->Nat):A->A
 |.ptr i off=>.ptr (ρ i) off
 |.osl i o n k=>.osl (ρ i) o n k
 |.agg cs=>.agg (Qaa ρ cs)
 |.fn f a c=>.fn f (Qaa ρ a) (Qaa ρ c)
 |.iface t v=>.iface t (Yx ρ v)
 |.map i=>.map (ρ i)
 |.tup vs=>.tup (Qaa ρ vs)
 |a=>a
def Qaa(ρ:Nat->Nat):List A->List A
 |[]=>[]
 |a::r=>Yx ρ a::Qaa ρ r
end
def QgM(ρ:Nat->Nat):List (List A)->List (List A)
 |[]=>[]
 |a::r=>Qaa ρ a::QgM ρ r
def Qi5(ρ:Nat->Nat):List (A×A)->List (A×A)
 |[]=>[]
 |a::r=>(Yx ρ a.1,Yx ρ a.2)::Qi5 ρ r
def QV(ρ:Nat->Nat):Blk->Blk
 |.cells t cs=>.cells t (Qaa ρ cs)
 |.rowr t k es=>.rowr t k (QgM ρ es)
 |.ents t b1 b2 es=>.ents t (ρ b1) (ρ b2) es
 |.mapP es=>.mapP (Qi5 ρ es)
 |b=>b
theorem QfW(ρ:Nat->Nat)(b1 b2:Nat):∀(es:List Ent),QgM ρ (es.map (eC b1 b2))=es.map (eC (ρ b1) (ρ b2))
 |[]=>rfl
 |e::es=>by
  have:=QfW ρ b1 b2 es;simp only[Vk,QgM,this];congr 1;cases h:e.fl<;>simp[eC,Qaa,Yx,h]
theorem QG(ρ:Nat->Nat)(x:Blk):(QV ρ x).live=x.live:=by cases x<;>rfl
theorem Qaq(ρ:Nat->Nat)(x:Blk)(w:World)(b c:Nat):Hid w (QV ρ x) b c↔Hid w x b c:=by cases x<;>exact Iff.rfl
section
variable {ro:Nat->Prop} {σ σ':Sig} {w:World} {ρ:Nat->Nat} (h:∀i:Nat,σ[ρ i]?=σ'[i]?)
include h
mutual
theorem QdE:∀{a:A} {v:Value},VR ro σ w (Yx ρ a) v↔VR ro σ' w a v
 |.any,_=>by simp only[Yx,VR]
 |.bool b,v=>by simp only[Yx,VR]
 |.int k n,v=>by simp only[Yx,VR]
 |.str s,v=>by simp only[Yx,VR]
 |.nilp,v=>by simp only[Yx,VR]
 |.ptr i off,v=>by simp only[Yx,VR,h]
 |.rp cs,v=>by simp only[Yx,VR]
 |.nils,v=>by simp only[Yx,VR]
 |.rsl k es,v=>by simp only[Yx,VR]
 |.osl i o n k,v=>by simp only[Yx,VR,h]
 |.agg cs,v=>by simp only[Yx,VR];exact exists_congr λl=>and_congr_right λ_=>QbG
 |.fn f a c,v=>by simp only[Yx,VR];exact exists_congr λl=>exists_congr λl'=>and_congr_right λ_=>and_congr QbG QbG
 |.nilf,v=>by simp only[Yx,VR]
 |.iface t a,v=>by simp only[Yx,VR];exact exists_congr λl=>and_congr_right λ_=>QdE
 |.nilif,v=>by simp only[Yx,VR]
 |.map i,v=>by simp only[Yx,VR,h]
 |.nilm,v=>by simp only[Yx,VR]
 |.tup vs,v=>by simp only[Yx,VR];exact exists_congr λl=>and_congr_right λ_=>QbG
theorem QbG:∀{az:List A} {l:List Value},LR ro σ w (Qaa ρ az) l↔LR ro σ' w az l
 |[],l=>by simp only[Qaa,LR]
 |a::r,l=>by
  simp only[Qaa,LR];exact exists_congr λv=>exists_congr λl'=>and_congr_right λ_=>and_congr QdE QbG
end
theorem QdT:∀(cs:List A),(Qaa ρ cs).length=cs.length
 |[]=>rfl
 |a::r=>by simp[Qaa,QdT r]
theorem QjD{k:Nat}:∀{es:List (List A)} {l:List Value},RL ro σ w k (QgM ρ es) l↔RL ro σ' w k es l
 |[],l=>by simp only[QgM,RL]
 |a::r,l=>by
  simp only[QgM,RL,QdT h];exact exists_congr λl1=>exists_congr λl2=>and_congr_right λ_=>and_congr_right λ_=>and_congr (and_congr_left λ_=>QbG h) QjD
theorem Qnt:∀{es:List (A×A)} {l:List MapEntry},ER ro σ w (Qi5 ρ es) l↔ER ro σ' w es l
 |[],l=>by simp only[Qi5,ER]
 |a::r,l=>by
  simp only[Qi5,ER];exact exists_congr λe=>exists_congr λl'=>and_congr_right λ_=>and_congr (QdE h) (and_congr (QdE h) Qnt)
theorem Qhv{x:Blk}{s:Option Nat}:BR ro σ w (QV ρ x) s↔BR ro σ' w x s:=by
 cases x with
 |cells t f=>
  cases s with
  |none=>exact Iff.rfl
  |some b=>simp only[QV,BR];exact exists_congr λl=>and_congr_right λ_=>and_congr_left λ_=>QbG h
 |rowr t k a=>
  cases s with
  |none=>exact Iff.rfl
  |some b=>simp only[QV,BR];exact exists_congr λl=>and_congr_right λ_=>QjD h
 |mapP a=>
  cases s with
  |none=>exact Iff.rfl
  |some b=>simp only[QV,BR];exact exists_congr λl=>exists_congr λc=>and_congr_right λ_=>and_congr_left λ_=>Qnt h
 |ents t e d a=>
  cases s with
  |none=>exact Iff.rfl
  |some b=>
   simp only[QV,BR];refine exists_congr λl=>and_congr_right λ_=>?_;rw[<- QfW];exact QjD h
 |_=>cases s<;>exact Iff.rfl
end
def C(P:Program)(f:FuncId)(args:List A)(H:Qc)(Q:A->Qc->Prop):Prop:=
 ∀fr ro σ vals w,Sim fr ro σ H w->LR ro σ w args vals->Calls P f vals.toArray w λe w'=>
  ∃v r H' ro' τ,e=.returned v/\Q r H'/\Sim fr ro' (σ++τ) H' w'/\VR ro' (σ++τ) w' r v/\Qe fr ro w ro' w'
theorem C.mono{P:Program}{f:FuncId}{args:List A}{H:Qc}{Q Q':A->Qc->Prop}(h:C P f args H Q)(hq:∀r H,Q r H->Q' r H):C P f args H Q':=
 λfr ro σ vals w s l=>(h fr ro σ vals w s l).mono λe w' ⟨v,r,H',ro',τ,h1,h2,h3⟩=>⟨v,r,H',ro',τ,h1,hq _ _ h2,h3⟩
def Qgm:Nat->List A->Env
 |_,[]=>[]
 |i,a::r=>(i,a)::Qgm (i+1) r
theorem QeT{ro:Nat->Prop}{σ:Sig}{w:World}:∀{args:List A} {vals:List Value} {i:Nat} (pre:List Value),pre.length=i->LR ro σ w args vals->∀rest:Array Value,
  ∀s,VR ro σ w (lk (Qgm i args) s) (((pre++vals).toArray++rest).getD s undef)
 |[],vals,i,pre,hp,hl,rest,s=>trivial
 |a::r,vals,i,pre,hp,hl,rest,s=>by
  simp only[LR]at hl;obtain⟨v,l',rfl,h1,h2⟩:=hl;simp only[Qgm,lk];by_cases e:s=i
  .subst e;rw[VG];have:((pre++v::l').toArray++rest).getD s undef=v:=by
    subst hp;simp[Array.getD_eq_getD_getElem?,Array.getElem?_append]
   rw[this];exact h1
  .have:Nat.beq s i=false:=by
    rw[VN];intro q;exact e (XR q)
   rw[this];have:=QeT (i:=i+1) (pre++[v]) (by simp[hp]) h2 rest s;simpa using this
def Qc8(P:Program)(fn:Func)(env:Env)(H:Qc)(r:A):Prop:=
 ∀fr ro σ N a w,Rel fr ro σ H env N a w->∃v,(results fn a.tmps).run P w=.ok v w/\VR ro σ w r v
def Qc7(P:Program)(h0:Nat)(fn:Func)(Q:A->Qc->Prop):Qx
 |.normal,env,H=>∃env' H' r,Le h0 env H env' H'/\Qc8 P fn env' H' r/\Q r H'
 |.ret,env,H=>∃env' H' r,Le h0 env H env' H'/\Qc8 P fn env' H' r/\Q r H'
 |.exit _,_,_=>False
theorem LR.length{ro:Nat->Prop}{σ:Sig}{w:World}:∀{az:List A} {l:List Value},LR ro σ w az l->l.length=az.length
 |[],l,h=>by simp only[LR]at h;simp[h]
 |a::r,l,h=>by
  simp only[LR]at h;obtain⟨v,l',rfl,_,h2⟩:=h;simp[h2.length]
theorem Sim.turn{fr ro:Nat->Prop}{σ:Sig}{H:Qc}{w:World}(s:Sim fr ro σ H w){b:Nat}{obj:Obj}(r:¬ro b)(t:¬fr b)(u:∀(i:Nat) (x:Blk),σ[i]?=some (some b)->H[i]?=some x->x.live=true->False)
  (h:∀(i d:Nat) (x:Blk),σ[i]?=some (some d)->H[i]?=some x->Hid w x d b->False)
  (n:∀y,w.shape? b=some y->(w.putObj b obj).shape? b=some y):Sim fr ro σ H (w.putObj b obj)/\Qe fr ro w ro (w.putObj b obj):=by
 have a:∀c,c≠b->(w.putObj b obj).heap[c]?=w.heap[c]? :=λc G=>World.putObj_heap_other G;have f:(w.putObj b obj).heap.size=w.heap.size:=by simp
 have ev:Qe fr ro w ro (w.putObj b obj):=by
  refine⟨λ_ q=>q,λc q=>a c (λe=>r (e▸q)),λc q=>a c (λe=>t (e▸q)),by rw[f];exact XU _,λc x q=>?_,rfl,rfl,rfl,XU _⟩;by_cases e:c=b
  .subst e;exact n x q
  .unfold World.shape? at q⊢;rw[a c e];exact q
 have l:Ext ro σ w ro σ (w.putObj b obj):=by have:=ev.ext σ [];simpa using this
 refine⟨⟨s.len,s.roOk.to (λ_ q=>q) ev.keepRo (λc q=>by rw[f];exact s.roLt c q),λc q=>by rw[f];exact s.frLt c q,s.roFr,λi c x k g E=>?_,s.inj,λi y x k g=>?_,
  s.hidTo (· = ·) QW (by rw[f];exact XU _) (λ_ _ _ _ _ _ _ q=>q) (λ_ _ _ _ _ _ _ q=>q) λj d y p m M=>.inl ⟨j,y,rfl,p,m,id,λc q=>s.hidKeep p m (λz=>a d (λe=>u j y (e▸p) m z)) ev.keepRo q⟩⟩,ev⟩
 .obtain⟨J,L,F⟩:=s.own i c x k g E;exact⟨by rw[f];exact J,L,F⟩
 .refine(s.blk i y x k g).keep l ?_ ?_
  .rintro c rfl B;exact a c (λe=>u i x (e▸k) g B)
  .rintro d c rfl q;exact a c (λe=>h i d x k g (e▸q))
theorem Qbt{P:Program}{fn:Func}{tmps:Array Value}{R:Ending->World->Prop}{fr ro:Nat->Prop}{σ:Sig}{H:Qc}:
  ∀(ds:List Deferred) (w:World),ds.Nodup->(∀d∈ds,∃D,d={target:=.collected D,args:= #[]}/\ ¬ro D/\ ¬fr D/\(∀(i:Nat) (x:Blk),σ[i]?=some (some D)->H[i]?=some x->x.live=true->False)/\(∀(i d:Nat) (x:Blk),σ[i]?=some (some d)->H[i]?=some x->Hid w x d D->False)/\w.heap[D]?=some (.deferred (some [])))->
  Sim fr ro σ H w->(∀w',Sim fr ro σ H w'->Qe fr ro w ro w'->∃v,(results fn tmps).run P w'=.ok v w'/\R (.returned v) w')->LeavesInM Fence.wide 0 P fn tmps R ds .returning w
 |[],w,_,_,s,hk=>by
  obtain⟨v,h1,h2⟩:=hk w s (Qe.refl _ _ _);exact⟨v,h1,h2⟩
 |d::ds,w,hn,hd,s,hk=>by
  obtain⟨D,rfl,h1,h2,h3,h5,h4⟩:=hd d (by simp);obtain⟨n1,n2⟩:=List.nodup_cons.1 hn;obtain⟨s',ev⟩:=s.turn (obj:=.deferred none) h1 h2 h3 h5 (λy q=>by unfold World.shape? at q;rw[h4]at q;simp at q);refine⟨(by intro e;cases e),.inl ⟨D,_,rfl,run_takeDeferred h4,?_⟩⟩;refine Qbt ds _ n2 (λd' q=>?_) s' (λw' q1 q2=>hk w' q1 (ev.trans q2));obtain⟨D',rfl,g1,g2,g3,g5,g4⟩:=hd d' (by simp[q]);refine⟨D',rfl,g1,g2,g3,λi d x z1 z2 z3=>g5 i d x z1 z2 (s.hidKeep z1 z2 (λz=>World.putObj_heap_other (λe:d=D=>h3 i x (e▸z1) z2 z)) (λb q=>World.putObj_heap_other (λe:b=D=>h1 (e▸q))) z3),(World.putObj_heap_other (λe=>?_)).trans g4⟩;subst e;exact n1 q
theorem Qb{P:Program}{f:FuncId}{fn:Func}{c:Code}{N:Nat}{args:List A}{H:Qc}{Q:A->Qc->Prop}
  (hf:P.funcs[f]?=some fn)(hb:fn.body=some c)(hN:fn.ntmps=N)(hA:Nat.ble args.length N=true)
  (h:TC P H.length N c (Qgm 0 args) H (Qc7 P H.length fn Q)):C P f args H Q:=by
 intro fr ro σ vals w hs hl;have l:=hl.length;have aa:args.length<=N:=by simpa using hA
 refine(callsIn_wide (n:=0)).1 (callsIn_of_wp_marks hf hb trivial (Code.wpIn_mono ?_ (h none fr ro σ _ w ⟨hs,?_,?_,List.nodup_nil,λd k=>by cases k⟩ Qeh.none)))
 .rintro e m j ⟨x,u,H1,J,σ1,E,z,L,h3,h4,h5,W⟩;have p:(∃g H' r,Le H.length u H1 g H'/\Qc8 P fn g H' r/\Q r H')->LeavesInM Fence.wide 0 P fn m.tmps (λe j=>
    ∃v' r H' a τ,e=.returned v'/\Q r H'/\Sim fr a (σ++τ) H' j/\VR a (σ++τ) j r v'/\Qe fr ro w a j) m.defers .returning j:=by
   rintro⟨g,H',r,B,hr,hq⟩;obtain⟨a,σ',b,y,ht⟩:=B E J σ1 N m j h3;have hσ:σ'=σ++σ'.drop H.length:=by
    have O:σ'.take H.length=σ:=by rw[ht,h5,VJ (by rw[hs.len];exact XU _)]
    conv=>lhs;rw[<- Xz H.length σ',O]
   have s1:Sim fr a σ' H' j:=b.sim.frMono W.sub;refine Qbt (ro:=a) (fr:=fr) (σ:=σ') (H:=H') m.defers j b.defers.1 (λd k=>?_) s1 (λV Y t=>?_)
   .obtain⟨D,rfl,T,g2⟩:=b.defers.2 d k;refine⟨D,rfl,λq=>b.sim.roFr D q T,λq=>?_,λi x G M F=>(b.sim.own i D x G M F).2.2 T,λi d x G M F=>(b.sim.hid i d x D G M F).fr T,g2⟩;rcases W.ds _ k with X|⟨D',e,X⟩
    .cases X
    .have:D=D':=by simpa using e
     subst this;have:=hs.frLt D q;omega
   .have R:Rel fr a σ' H' g N {m with defers:=[]} V:=⟨Y,λs=>(b.env s).mono (by have:=t.ext σ' [];simpa using this),b.size,List.nodup_nil,λd k=>by cases k⟩;obtain⟨v,O,e2⟩:=hr fr a σ' N _ V R;exact⟨v,O,v,r,H',a,σ'.drop H.length,rfl,hq,hσ▸Y,hσ▸e2,(h4.trans (YG y)).trans t⟩
  cases e with
  |normal=>
   obtain rfl:x=.normal:=z;exact p L
  |ret=>
   obtain rfl:x=.ret:=z;exact p L
  |exit id=>
   obtain rfl:x=.exit id:=z;exact L.elim
  |_=>exact z.elim
 .intro s;have:=QeT (i:=0) [] rfl hl (Array.replicate (fn.ntmps-vals.toArray.size) undef) s;simpa using this
 .simp[hN,l];omega
section
variable {P:Program} {fn:Func} {env:Env} {H:Qc}
theorem Qc8.nil(h:fn.results= #[]):Qc8 P fn env H (.tup []):=
 λfr ro σ N a w r=>⟨.tuple #[],by simp[results,h,go_sem],[],rfl,rfl⟩
theorem Qc8.one{t:Nat}{x:A}(h:fn.results= #[.tmp t])(hx:lk env t=x):Qc8 P fn env H x:=
 λfr ro σ N a w r=>⟨a.tmps.getD t undef,by simp[results,h,go_sem],hx▸r.env t⟩
theorem Qlh{t u:Nat}{x y:A}(h:fn.results= #[.tmp t,.tmp u])(hx:lk env t=x)(hy:lk env u=y):Qc8 P fn env H (.tup [x,y]):=
 λfr ro σ N a w r=>⟨.tuple #[a.tmps.getD t undef,a.tmps.getD u undef],by simp[results,h,go_sem],
  [_,_],rfl,_,_,rfl,hx▸r.env t,_,_,rfl,hy▸r.env u,rfl⟩
end
inductive Ctl (S B:Type) where
 |cont (s:S)
 |done (b:B)
 deriving DecidableEq
def iter{S B:Type}(step:S->Option (Ctl S B)):Nat->S->Option B
 |0,_=>none
 |n+1,s=>match step s with
  |some (.cont s')=>iter step n s'
  |some (.done b)=>some b
  |none=>none
def Qbj{S B:Type}(I:S->Env->Qc->Prop)(d:Ctl S B)(Q:Qx):Qx
 |.normal,env,H=>∃s,d=.cont s/\I s env H
 |.exit id,env,H=>(∃b,d=.done b)/\Q (.exit id) env H
 |.ret,env,H=>(∃b,d=.done b)/\Q .ret env H
theorem Qix{P:Program}{h0 N:Nat}{c:Code}{S B:Type}{step:S->Option (Ctl S B)}{I:S->Env->Qc->Prop}{Q:Qx}{F:B}
  (body:∀s d env H,I s env H->step s=some d->(∀b,d=.done b->b=F)->TC P h0 N c env H (Qbj I d Q))
  {m:Nat}{s0:S}(h:iter step m s0=some F){env:Env}{H:Qc}(J:I s0 env H):TC P h0 N (.loop c) env H Q:=by
 intro X p E σ a w r hrd b k cs hro hb hr;have M:∀m s env H fr1 ro1 σ1 a1 w1,iter step m s=some F->I s env H->Rel fr1 ro1 σ1 H env N a1 w1->Qe p E w ro1 w1->σ1.take h0=σ.take h0->Grow p w a.defers fr1 a1.defers->
   ∃e i j,QaR h0 p E σ w N a.defers Q e i j/\ArrivesIn (Machine.fenced P (WF X)) P (lone (b.atR a1 (.code c::.inLoop c::k)) cs w1) b k cs e i j:=by
  intro m
  induction m with
  |zero=>intro s env H fr1 ro1 σ1 a1 w1 hit;simp[iter]at hit
  |succ m Y=>
   intro s env H fr1 ro1 σ1 a1 w1 hit J r1 ev1 t1 g1;simp only[iter]at hit;cases O:step s with
   |none=>rw[O]at hit;simp at hit
   |some d=>
    rw[O]at hit;have hd:∀b,d=.done b->b=F:=by
     rintro b rfl;simpa using hit
    obtain⟨e,i,j,L,f⟩:=body s d env H J O hd X fr1 ro1 σ1 a1 w1 r1 (hrd.to ev1 g1.sub) b (.inLoop c::k) cs hro hb hr;obtain⟨x,g,H',n,σ',y,z,t,T,q4,R,q6⟩:=L;have u:=ev1.trans (q4.frMono g1.sub);have V:=g1.trans ev1.size q6;have W:∀x,Q x g H'->ExR e x->QaR h0 p E σ w N a.defers Q e i j:=λx q q'=>⟨x,g,H',n,σ',y,q',q,T,u,R.trans t1,V⟩;cases e with
    |normal=>
     obtain rfl:x=.normal:=z;obtain⟨s',rfl,t⟩:=t;obtain⟨e2,a2,w2,G,l⟩:=Y s' g H' y n σ' i j hit t T u (R.trans t1) V;exact⟨e2,a2,w2,G,.of_steps (StepsIn.trans f (.one (fenced_calm hb hr rfl) stepR_inLoop)) l⟩
    |exit id=>
     obtain rfl:x=.exit id:=z;exact⟨_,i,j,W _ t.2 rfl,.pass (x:=.inLoop c) rfl (λ_ _=>.inl (by simp)) f⟩
    |ret=>
     obtain rfl:x=.ret:=z;exact⟨_,i,j,W _ t.2 rfl,.pass (x:=.inLoop c) rfl (λ_ _=>.inl (by simp)) f⟩
    |_=>exact z.elim
 obtain⟨e,i,j,L,f⟩:=M m s0 env H p E σ a w h J r (Qe.refl _ _ _) rfl (Grow.refl _ _ _);exact⟨e,i,j,L,.of_steps (.one (fenced_calm hb hr rfl) stepR_loop) f⟩
theorem TC.loop{P:Program}{h0 N:Nat}{c:Code}{S B:Type}{step:S->Option (Ctl S B)}(E:S->Env)(Hp:S->Qc){Q:Qx}
  {m:Nat}{s0:S}{b0:B}(h:iter step m s0=some b0){env:Env}{H:Qc}(hI:Le h0 env H (E s0) (Hp s0))
  (body:∀s d,step s=some d->(∀b,d=.done b->b=b0)->TC P h0 N c (E s) (Hp s) (Qbj (λs env H=>Le h0 env H (E s) (Hp s)) d Q)):TC P h0 N (.loop c) env H Q:=
 Qix (I:=λs env H=>Le h0 env H (E s) (Hp s)) (λs d env H hI hs hd=>TC.le hI (body s d hs hd)) h hI
end Go.Sw
namespace Go.Sw
def rho(π:List Nat)(n i:Nat):Nat:=
 match π[i]? with
 |some p=>p
 |none=>n+(i-π.length)
def Yn:Qc->List Nat->List Blk->Qc
 |H,[],xs=>H++xs
 |H,p::π,x::xs=>Yn (H.set p x) π xs
 |H,_::_,[]=>H
theorem Qcj:∀(π:List Nat) (H:Qc) (xs:List Blk),π.length<=xs.length->(Yn H π xs).length=H.length+(xs.length-π.length)
 |[],H,xs,_=>by simp[Yn]
 |p::π,H,[],h=>by simp at h
 |p::π,H,x::xs,h=>by
  simp only[X2]at h;simp only[Yn,Qcj π (H.set p x) xs (by omega),X5,X2];omega
theorem Qct:∀(π:List Nat) (H:Qc) (xs:List Blk) (i:Nat),i<H.length->i∉π->(Yn H π xs)[i]?=H[i]?
 |[],H,xs,i,hi,_=>by simp[Yn,XN hi]
 |p::π,H,[],i,hi,h=>by simp[Yn]
 |p::π,H,x::xs,i,hi,h=>by
  simp only[X7,not_or]at h;simp only[Yn];rw[Qct π (H.set p x) xs i (by simpa using hi) h.2,XQ (λe=>h.1 e.symm)]
theorem QeD:∀(π:List Nat) (H:Qc) (xs:List Blk) (j:Nat),π.length<=xs.length->(∀p∈π,p<H.length)->π.Nodup->
  (Yn H π xs)[rho π H.length j]?=xs[j]?
 |[],H,xs,j,_,_,_=>by
  simp only[Yn,rho,List.getElem?_nil,List.length_nil,Xv];rw[XO (by omega)];congr 1;omega
 |p::π,H,[],j,h,_,_=>by simp at h
 |p::π,H,x::xs,j,h,hp,hn=>by
  simp only[X2]at h;have hn':=List.nodup_cons.1 hn;simp only[Yn];cases j with
  |zero=>
   simp only[rho,XF];rw[Qct π _ xs p (by simpa using hp p (by simp)) hn'.1];rw[Xa (hp p (by simp))]
  |succ j=>
   have ih:=QeD π (H.set p x) xs j (by omega) (λq hq=>by simpa using hp q (by simp[hq])) hn'.2;rw[X5]at ih;have e:rho (p::π) H.length (j+1)=rho π H.length j:=by
    simp only[rho,XG,X2];cases π[j]? with
    |none=>simp only[];congr 1;omega
    |some q=>rfl
   rw[e,ih];simp
theorem QkG(π:List Nat)(n i:Nat)(hi:n<=i\/i∈π):∃j,i=rho π n j:=by
 rcases hi with hi|hi
 .refine⟨π.length+(i-n),?_⟩;have:π[π.length+(i-n)]?=none:=XP (by omega);simp only[rho,this];omega
 .obtain⟨j,a,rfl⟩:=List.mem_iff_getElem.1 hi;exact⟨j,by simp[rho,XL a]⟩
def Yb(σ:Sig)(π:List Nat):Sig:=π.map λp=>(σ[p]?).getD none
theorem Qej{σ τ:Sig}{π:List Nat}{n:Nat}(d:σ.length=n)(f:∀p∈π,p<n)(j:Nat):(σ++τ)[rho π n j]?=(Yb σ π++τ)[j]? :=by
 rcases VD j π.length with h|h
 .have a:π[j]∈π:=Ve h;have b:=f _ a;have e:rho π n j=π[j]:=by simp[rho,XL h]
  rw[e,XN (by omega),XN (by simpa[Yb]using h)];simp[Yb,XL h,XL (show π[j]<σ.length by omega)]
 .have e:rho π n j=n+(j-π.length):=by
   simp[rho,XP h]
  rw[e,XO (by omega),XO (by simpa[Yb]using h)];simp[Yb,d]
def OpC(P:Program)(o:Oper)(env:Env)(H:Qc)(f:FuncId)(args:List A):Prop:=
 ∀fr ro σ N a w,Rel fr ro σ H env N a w->∃vals:List Value,(execOp a.eval o).run P w=.ok (.enter f vals.toArray) w/\LR ro σ w args vals
theorem Jc{π:List Nat}{H:Qc}{Hc:List Blk}(hH:π.map (λp=>H[p]?)=Hc.map some){p:Nat}(b:p∈π):p<H.length:=by
 have:H[p]? ∈π.map (λp=>H[p]?):=VH b;rw[hH]at this;obtain⟨x,_,a⟩:=Xf.1 this;rcases VD p H.length with h|h
 .exact h
 .rw[XP h]at a;simp at a
theorem WO.call{P:Program}{h0 N:Nat}{all:Array Oper}{o:Oper}{l:List Oper}{env:Env}{H:Qc}{Q:Qx}{d:Option Nat}{f:FuncId}
  {args ab:List A}{Hc:Qc}{Qr:A->Qc->Prop}(π:List Nat)(hh:h0<=H.length)(hg:Qn all o env true)(hd:o.dst=d)(hN:∀x,d=some x->x<N)
  (an:OpC P o env H f args)(hargs:args=Qaa (rho π H.length) ab)(hH:π.map (λp=>H[p]?)=(Hc.map (QV (rho π H.length))).map some)(hπ:π.Nodup)
  (hC:C P f ab Hc Qr)
  (k:∀r H1,Qr r H1->WO P h0 N all l (match d with|some d=>up env d (Yx (rho π H.length) r)|none=>env) (Yn H π (H1.map (QV (rho π H.length)))) Q):
  WO P h0 N all (o::l) env H Q:=by
 intro rd fr ro σ a w r hrd;obtain⟨ai,h1,h2⟩:=an fr ro σ N a w r;refine Qdg (YA hg r) h1 ?_;have hp:∀p∈π,p<H.length:=λp q=>Jc hH q;have hσl:=r.sim.len;have ac:∀(j p:Nat),π[j]?=some p->H[p]?=(Hc[j]?).map (QV (rho π H.length)):=by
  intro j p M;have:=congrArg (λl=>l[j]?) hH;simp only[Xq,M,Xk]at this;cases e:Hc[j]? with
  |none=>rw[e]at this;simp at this
  |some x=>rw[e]at this;simpa using this
 have al:π.length=Hc.length:=by simpa using congrArg List.length hH
 have hσc:∀j:Nat,σ[rho π H.length j]?=(Yb σ π)[j]? :=by
  intro j;have:=Qej (τ:=[]) hσl hp j;simpa using this
 let frc:Nat->Prop:=λb=>fr b\/(∃i x,σ[i]?=some (some b)/\H[i]?=some x/\x.live=true/\i∉π)\/ ∃i x d,σ[i]?=some (some d)/\H[i]?=some x/\Hid w x d b/\i∉π
 have hπj:∀(j b:Nat),(Yb σ π)[j]?=some (some b)->∃p,π[j]?=some p/\σ[p]?=some (some b):=by
  intro j b M;simp only[Yb,Xq]at M;cases e:π[j]? with
  |none=>rw[e]at M;simp at M
  |some p=>
   rw[e]at M;simp at M;refine⟨p,rfl,?_⟩;cases e2:σ[p]? with
   |none=>rw[e2]at M;simp at M
   |some s=>rw[e2]at M;simp at M;rw[M]
 have hπi:∀(i j p:Nat),π[i]?=some p->π[j]?=some p->i=j:=by
  intro i j p T R;have hi:i<π.length:=by
   rcases VD i π.length with q|q
   .exact q
   .rw[XP q]at T;simp at T
  have M:j<π.length:=by
   rcases VD j π.length with q|q
   .exact q
   .rw[XP q]at R;simp at R
  rw[XL hi]at T;rw[XL M]at R;have af:=(X0 T).trans (X0 R).symm;rcases Nat.lt_trichotomy i j with q|q|q
  .exact(VF.1 hπ i j hi M q af).elim
  .exact q
  .exact(VF.1 hπ j i M hi q af.symm).elim
 have am:Sim frc ro (Yb σ π) Hc w:=by
  refine⟨by simp[Yb,al],r.sim.roOk,?_,?_,?_,?_,?_,?_⟩
  .rintro b (hb|⟨i,x,h,g,m,J⟩|⟨i,x,d,h,g,m,J⟩)
   .exact r.sim.frLt b hb
   .exact(r.sim.own i b x h g m).1
   .exact(r.sim.hid i d x b h g m).lt
  .rintro b hb (hf|⟨i,x,h,g,m,J⟩|⟨i,x,d,h,g,m,J⟩)
   .exact r.sim.roFr b hb hf
   .exact(r.sim.own i b x h g m).2.1 hb
   .exact(r.sim.hid i d x b h g m).ro hb
  .intro j b x h g m;obtain⟨p,T,e2⟩:=hπj j b h;have e3:H[p]?=some (QV (rho π H.length) x):=by rw[ac j p T,g];rfl
   obtain⟨o1,o2,o3⟩:=r.sim.own p b _ e2 e3 (by rw[QG];exact m);refine⟨o1,o2,?_⟩;rintro(hf|⟨i,y,y1,y2,y3,y4⟩|⟨i,y,d,y1,y2,y3,y4⟩)
   .exact o3 hf
   .have:=r.sim.inj i p b _ _ y1 e2 y2 e3 y3 (by rw[QG];exact m);subst this;exact y4 (VI T)
   .exact(r.sim.hid i d y b y1 y2 y3).ne p b _ e2 e3 (by rw[QG];exact m) rfl
  .intro i j b x y h g m J X q6;obtain⟨p,T,e2⟩:=hπj i b h;obtain⟨p',R,ao⟩:=hπj j b g;have e3:H[p]?=some (QV (rho π H.length) x):=by rw[ac i p T,m];rfl
   have av:H[p']?=some (QV (rho π H.length) y):=by rw[ac j p' R,J];rfl
   have:=r.sim.inj p p' b _ _ e2 ao e3 av (by rw[QG];exact X) (by rw[QG];exact q6);subst this;have hi:i<π.length:=by
    rcases VD i π.length with q|q
    .exact q
    .rw[XP q]at T;simp at T
   have M:j<π.length:=by
    rcases VD j π.length with q|q
    .exact q
    .rw[XP q]at R;simp at R
   rw[XL hi]at T;rw[XL M]at R;have af:=(X0 T).trans (X0 R).symm;rcases Nat.lt_trichotomy i j with q|q|q
   .exact(VF.1 hπ i j hi M q af).elim
   .exact q
   .exact(VF.1 hπ j i M hi q af.symm).elim
  .intro j s x h g;have M:j<π.length:=by
    rcases VD j π.length with q|q
    .exact q
    .rw[XP (by simpa[Yb]using q)]at h;simp at h
   have T:π[j]?=some π[j]:=XL M;have e3:H[π[j]]?=some (QV (rho π H.length) x):=by rw[ac j _ T,g];rfl
   have e2:σ[π[j]]?=some s:=by
    have:=hσc j;rw[h]at this;simpa[rho,T]using this
   exact(Qhv hσc).1 (r.sim.blk _ s _ e2 e3)
  .intro j b x c h g m;obtain⟨p,T,e2⟩:=hπj j b h;have e3:H[p]?=some (QV (rho π H.length) x):=by rw[ac j p T,g];rfl
   have k:=r.sim.hid p b _ c e2 e3 ((Qaq _ _ _ _ _).2 m);refine⟨k.lt,k.ro,?_,?_,?_⟩
   .rintro(hf|⟨i,y,y1,y2,y3,y4⟩|⟨i,y,d,y1,y2,y3,y4⟩)
    .exact k.fr hf
    .exact k.ne i c y y1 y2 y3 rfl
    .obtain⟨rfl,rfl⟩:=k.one i d y y1 y2 y3;exact y4 (VI T)
   .intro O b' y L n Y;obtain⟨p',f1,f2⟩:=hπj O b' L;exact k.ne p' b' _ f2 (show H[p']?=some (QV (rho π H.length) y)by rw[ac O p' f1,n];rfl) (by rw[QG];exact Y)
   .intro O b' y L n Y;obtain⟨p',f1,f2⟩:=hπj O b' L;obtain⟨z4,z5⟩:=k.one p' b' _ f2 (show H[p']?=some (QV (rho π H.length) y)by rw[ac O p' f1,n];rfl) ((Qaq _ _ _ _ _).2 Y);subst z5;exact⟨z4,hπi O j p' f1 T⟩
 have ah:LR ro (Yb σ π) w ab ai:=(QbG hσc).1 (hargs▸h2);refine Calls.mono (hC frc ro (Yb σ π) ai w am ah) ?_;rintro e w' ⟨v,rr,H1,aa,τ,rfl,hq,sc,hv,ev⟩;have hσ':∀j:Nat,(σ++τ)[rho π H.length j]?=(Yb σ π++τ)[j]? :=λj=>Qej hσl hp j;have aq:H1.length=π.length+τ.length:=by rw[<- sc.len];simp[Yb]
 have ak:π.length<=(H1.map (QV (rho π H.length))).length:=by simp;omega
 have W:Qe fr ro w aa w':=⟨ev.sub,ev.keepRo,λb q=>ev.keepFr b (.inl q),ev.size,ev.shape,ev.os,ev.tape,ev.output,ev.drawn⟩;have F:∀j,(Yn H π (H1.map (QV (rho π H.length))))[rho π H.length j]?=(H1[j]?).map (QV (rho π H.length)):=by
  intro j;rw[QeD π H _ j ak hp hπ];simp
 have B:∀i,i<H.length->i∉π->(Yn H π (H1.map (QV (rho π H.length))))[i]?=H[i]? :=λi=>Qct π H _ i;have t:∀i:Nat,(∃j,i=rho π H.length j)\/(i<H.length/\i∉π):=by
  intro i;by_cases q:H.length<=i\/i∈π
  .exact .inl (QkG π H.length i q)
  .simp only[not_or]at q;exact .inr ⟨by omega,q.2⟩
 have G:∀i b x,i<H.length->i∉π->σ[i]?=some (some b)->H[i]?=some x->x.live=true->frc b:=λi b x h g m J X=>.inr (.inl ⟨i,x,m,J,X,g⟩);have ae:∀i b x c,i<H.length->i∉π->σ[i]?=some (some b)->H[i]?=some x->Hid w' x b c->Hid w x b c/\frc c:=λi b x c h g m J X=>
  have q6:=r.sim.hidKeep m J (λz=>ev.keepFr b (G i b x h g m J z)) ev.keepRo X
  ⟨q6,.inr (.inr ⟨i,x,b,m,J,q6,g⟩)⟩
 have aj:Sim fr aa (σ++τ) (Yn H π (H1.map (QV (rho π H.length)))) w':=by
  refine⟨?_,sc.roOk,λb q=>sc.frLt b (.inl q),λb q q'=>sc.roFr b q (.inl q'),?_,?_,?_,?_⟩
  .rw[Qcj _ _ _ ak];simp[hσl,aq]
  .intro i b x h g m;rcases t i with⟨j,rfl⟩|⟨c1,c2⟩
   .rw[hσ']at h;rw[F]at g;cases e:H1[j]? with
    |none=>rw[e]at g;simp at g
    |some y=>
     rw[e]at g;simp at g;subst g;obtain⟨o1,o2,o3⟩:=sc.own j b y h e (by rw[QG]at m;exact m);exact⟨o1,o2,λq=>o3 (.inl q)⟩
   .rw[B i c1 c2]at g;rw[XN (by omega)]at h;obtain⟨o1,o2,o3⟩:=r.sim.own i b x h g m;exact⟨Vg o1 ev.size,λq=>sc.roFr b q (G i b x c1 c2 h g m),o3⟩
  .intro i E b x y h g m J X q6;have ag:∀(i E:Nat) (x y:Blk),(∃j,i=rho π H.length j)->(E<H.length/\E∉π)->(σ++τ)[i]?=some (some b)->(σ++τ)[E]?=some (some b)->
     (Yn H π (H1.map (QV (rho π H.length))))[i]?=some x->(Yn H π (H1.map (QV (rho π H.length))))[E]?=some y->x.live=true->y.live=true->False:=by
    rintro i E x y ⟨j,rfl⟩ ⟨c1,c2⟩ h g m J X q6;rw[hσ']at h;rw[F]at m;rw[B E c1 c2]at J;rw[XN (by omega)]at g;cases e:H1[j]? with
    |none=>rw[e]at m;simp at m
    |some z=>
     rw[e]at m;simp at m;subst m;exact(sc.own j b z h e (by rw[QG]at X;exact X)).2.2 (G E b y c1 c2 g J q6)
   rcases t i with ci|ci<;>rcases t E with ci'|ci'
   .obtain⟨j,rfl⟩:=ci;obtain⟨O,rfl⟩:=ci';rw[hσ']at h g;rw[F]at m J;cases e:H1[j]? with
    |none=>rw[e]at m;simp at m
    |some z=>
     cases V:H1[O]? with
     |none=>rw[V]at J;simp at J
     |some z'=>
      rw[e]at m;simp at m;subst m;rw[V]at J;simp at J;subst J;rw[sc.inj j O b z z' h g e V (by rw[QG]at X;exact X) (by rw[QG]at q6;exact q6)]
   .exact(ag i E x y ci ci' h g m J X q6).elim
   .exact(ag E i y x ci' ci g h J m q6 X).elim
   .rw[B i ci.1 ci.2]at m;rw[B E ci'.1 ci'.2]at J;rw[XN (by omega)]at h g;exact r.sim.inj i E b x y h g m J X q6
  .intro i s x h g;rcases t i with⟨j,rfl⟩|⟨c1,c2⟩
   .rw[hσ']at h;rw[F]at g;cases e:H1[j]? with
    |none=>rw[e]at g;simp at g
    |some y=>
     rw[e]at g;simp at g;subst g;exact(Qhv hσ').2 (sc.blk j s y h e)
   .rw[B i c1 c2]at g;rw[XN (by omega)]at h;refine BR.keep (W.ext σ τ) ?_ (r.sim.blk i s x h g) ?_
    .rintro b rfl hl;exact ev.keepFr b (G i b x c1 c2 h g hl)
    .rintro b c rfl hl;exact ev.keepFr c (.inr (.inr ⟨i,x,b,h,g,hl,c2⟩))
  .intro i b x c h g m;rcases t i with⟨j,rfl⟩|⟨c1,c2⟩
   .rw[hσ']at h;rw[F]at g;cases e:H1[j]? with
    |none=>rw[e]at g;simp at g
    |some y=>
     rw[e]at g;simp at g;subst g;have k:=sc.hid j b y c h e ((Qaq _ _ _ _ _).1 m);refine⟨k.lt,k.ro,λq=>k.fr (.inl q),?_,?_⟩
     .intro E b' y' L n Y;rcases t E with⟨O,rfl⟩|⟨d1,d2⟩
      .rw[hσ']at L;rw[F]at n;cases V:H1[O]? with
       |none=>rw[V]at n;simp at n
       |some u=>
        rw[V]at n;simp at n;subst n;exact k.ne O b' u L V (by rw[QG]at Y;exact Y)
      .rw[B E d1 d2]at n;rw[XN (by omega)]at L;rintro rfl;exact k.fr (G E c y' d1 d2 L n Y)
     .intro E b' y' L n Y;rcases t E with⟨O,rfl⟩|⟨d1,d2⟩
      .rw[hσ']at L;rw[F]at n;cases V:H1[O]? with
       |none=>rw[V]at n;simp at n
       |some u=>
        rw[V]at n;simp at n;subst n;obtain⟨z4,rfl⟩:=k.one O b' u L V ((Qaq _ _ _ _ _).1 Y);exact⟨z4,rfl⟩
      .rw[B E d1 d2]at n;rw[XN (by omega)]at L;exact(k.fr (ae E b' y' c d1 d2 L n Y).2).elim
   .rw[B i c1 c2]at g;rw[XN (by omega)]at h;obtain⟨J,X⟩:=ae i b x c c1 c2 h g m;have k:=r.sim.hid i b x c h g J;refine⟨Vg k.lt ev.size,λq=>sc.roFr c q X,k.fr,?_,?_⟩
    .intro E b' y' L n Y;rcases t E with⟨O,rfl⟩|⟨d1,d2⟩
     .rw[hσ']at L;rw[F]at n;cases V:H1[O]? with
      |none=>rw[V]at n;simp at n
      |some u=>
       rw[V]at n;simp at n;subst n;rintro rfl;exact(sc.own O c u L V (by rw[QG]at Y;exact Y)).2.2 X
     .rw[B E d1 d2]at n;rw[XN (by omega)]at L;exact k.ne E b' y' L n Y
    .intro E b' y' L n Y;rcases t E with⟨O,rfl⟩|⟨d1,d2⟩
     .rw[hσ']at L;rw[F]at n;cases V:H1[O]? with
      |none=>rw[V]at n;simp at n
      |some u=>
       rw[V]at n;simp at n;subst n;exact((sc.hid O b' u c L V ((Qaq _ _ _ _ _).1 Y)).fr X).elim
     .rw[B E d1 d2]at n;rw[XN (by omega)]at L;exact k.one E b' y' L n (ae E b' y' c d1 d2 L n Y).1
 have ar:VR aa (σ++τ) w' (Yx (rho π H.length) rr) v:=(QdE hσ').2 hv;have hk:=k rr H1 hq;cases d with
 |none=>
  simp only[hd,Act.put];have r':Rel fr aa (σ++τ) (Yn H π (H1.map (QV (rho π H.length)))) env N a w':=⟨aj,λs=>(r.env s).mono (W.ext σ τ),r.size,r.defers.keep W⟩;exact⟨_,rfl,Ye (λe a w q=>q.step W (Qs (by omega))) _ _ _ (hk rd fr aa (σ++τ) _ w' r' (hrd.to W λ_ q=>q))⟩
 |some d=>
  simp only[hd,Act.put];have au:=hN d rfl;have r':Rel fr aa (σ++τ) (Yn H π (H1.map (QV (rho π H.length)))) (up env d (Yx (rho π H.length) rr)) N {a with tmps:=a.tmps.setIfInBounds d v} w':=
   ⟨aj,VR.up (fr:=fr) (λs=>(r.env s).mono (W.ext σ τ)) (by rw[r.size];exact au) ar,by simpa using r.size,r.defers.keep W⟩
  exact⟨_,rfl,Ye (λe a w q=>q.step W (Qs (by omega))) _ _ _ (hk rd fr aa (σ++τ) _ w' r' (hrd.to W λ_ q=>q))⟩
end Go.Sw
namespace Go.Sw
section
variable {P:Program} {o:Oper} {env:Env} {H:Qc}
theorem QK{fr ro:Nat->Prop}{σ:Sig}{N:Nat}{a:Act}{w:World}(r:Rel fr ro σ H env N a w){x:Operand}{k:IntKind}{n:Int}(h:opA env x=.int k n):a.eval x=.int k n:=by
 have:=Qd r x;rw[h]at this;exact this
theorem QcN{fr ro:Nat->Prop}{σ:Sig}{N:Nat}{a:Act}{w:World}(r:Rel fr ro σ H env N a w){x:Operand}{b:Bool}(h:opA env x=.bool b):a.eval x=.bool b:=by
 have:=Qd r x;rw[h]at this;exact this
theorem Qel{fr ro:Nat->Prop}{σ:Sig}{N:Nat}{a:Act}{w:World}(r:Rel fr ro σ H env N a w){x:Operand}{s:List UInt8}(h:opA env x=.str s):a.eval x=.string ⟨s.toArray⟩:=by
 have:=Qd r x;rw[h]at this;exact this
theorem OpV.move{x:Operand}{v:A}(ho:o.op=.move x)(hx:opA env x=v):OpV P o env H v:=
 λfr ro σ N a w r=>⟨a.eval x,by simp[execOp,ho,go_sem],hx▸Qd r x⟩
theorem OpV.assign{x:Operand}{v:A}(ho:o.op=.assign x)(hx:opA env x=v):OpV P o env H v:=
 λfr ro σ N a w r=>⟨a.eval x,by simp[execOp,ho,go_sem],hx▸Qd r x⟩
theorem OpV.pick{c x y:Operand}{b:Bool}{v:A}(f:o.op=.pick c x y)(d:opA env c=.bool b)(e:(if b then opA env x else opA env y)=v):OpV P o env H v:=by
 intro i h σ N a w r;have g:=QcN r d;refine⟨if b then a.eval x else a.eval y,by generalize a.eval=ρ at*;simp[execOp,f,g,asBool,go_sem],?_⟩;subst e;cases b
 .exact Qd r y
 .exact Qd r x
theorem OpV.add{t u:TypeId}{x y:Operand}{k:IntKind}{m n:Int}(f:o.op=.binOp .add t x y u)(e:opA env x=.int k m)(g:opA env y=.int k n):OpV P o env H (.int k (k.wrap (m+n))):=by
 intro i h σ N a w r;have b:=QK r e;have d:=QK r g;refine⟨_,?_,rfl⟩;generalize a.eval=ρ at*;simp[execOp,f,b,d,Go.binOp,eqGuard,Op.intArith,go_sem]
theorem OpV.sub{t u:TypeId}{x y:Operand}{k:IntKind}{m n:Int}(f:o.op=.binOp .sub t x y u)(e:opA env x=.int k m)(g:opA env y=.int k n):OpV P o env H (.int k (k.wrap (m-n))):=by
 intro i h σ N a w r;have b:=QK r e;have d:=QK r g;refine⟨_,?_,rfl⟩;generalize a.eval=ρ at*;simp[execOp,f,b,d,Go.binOp,eqGuard,Op.intArith,go_sem]
theorem OpV.mul{t u:TypeId}{x y:Operand}{k:IntKind}{m n:Int}(f:o.op=.binOp .mul t x y u)(e:opA env x=.int k m)(g:opA env y=.int k n):OpV P o env H (.int k (k.wrap (m*n))):=by
 intro i h σ N a w r;have b:=QK r e;have d:=QK r g;refine⟨_,?_,rfl⟩;generalize a.eval=ρ at*;simp[execOp,f,b,d,Go.binOp,eqGuard,Op.intArith,go_sem]
theorem OpV.cmp{op:BinOp}{t u:TypeId}{x y:Operand}{k:IntKind}{m n:Int}{f:Int->Int->Bool}(i:o.op=.binOp op t x y u)(h:opA env x=.int k m)(j:opA env y=.int k n)
  (d:op=.eql/\f=(λa b=>a==b)\/op=.neq/\f=(λa b=>a != b)\/op=.lss/\f=(λa b=>decide (a<b))\/op=.leq/\f=(λa b=>decide (a<=b))\/
   op=.gtr/\f=(λa b=>decide (b<a))\/op=.geq/\f=(λa b=>decide (b<=a))):OpV P o env H (.bool (f m n)):=by
 intro p l σ N a w r;have g:=QK r h;have e:=QK r j;refine⟨_,?_,rfl⟩;generalize a.eval=ρ at*;rcases d with⟨rfl,rfl⟩|⟨rfl,rfl⟩|⟨rfl,rfl⟩|⟨rfl,rfl⟩|⟨rfl,rfl⟩|⟨rfl,rfl⟩<;>simp[execOp,i,g,e,Go.binOp,eqGuard,Op.intCmp,go_sem]
theorem OpV.eql{t u:TypeId}{x y:Operand}{k:IntKind}{m n:Int}(ho:o.op=.binOp .eql t x y u)(hx:opA env x=.int k m)(hy:opA env y=.int k n):OpV P o env H (.bool (m==n)):=
 OpV.cmp (f:=λa b=>a==b) ho hx hy (by simp)
theorem OpV.neq{t u:TypeId}{x y:Operand}{k:IntKind}{m n:Int}(ho:o.op=.binOp .neq t x y u)(hx:opA env x=.int k m)(hy:opA env y=.int k n):OpV P o env H (.bool (m != n)):=
 OpV.cmp (f:=λa b=>a != b) ho hx hy (by simp)
theorem OpV.lss{t u:TypeId}{x y:Operand}{k:IntKind}{m n:Int}(ho:o.op=.binOp .lss t x y u)(hx:opA env x=.int k m)(hy:opA env y=.int k n):OpV P o env H (.bool (decide (m<n))):=
 OpV.cmp (f:=λa b=>decide (a<b)) ho hx hy (by simp)
theorem OpV.leq{t u:TypeId}{x y:Operand}{k:IntKind}{m n:Int}(ho:o.op=.binOp .leq t x y u)(hx:opA env x=.int k m)(hy:opA env y=.int k n):OpV P o env H (.bool (decide (m<=n))):=
 OpV.cmp (f:=λa b=>decide (a<=b)) ho hx hy (by simp)
theorem OpV.gtr{t u:TypeId}{x y:Operand}{k:IntKind}{m n:Int}(ho:o.op=.binOp .gtr t x y u)(hx:opA env x=.int k m)(hy:opA env y=.int k n):OpV P o env H (.bool (decide (n<m))):=
 OpV.cmp (f:=λa b=>decide (b<a)) ho hx hy (by simp)
theorem OpV.geq{t u:TypeId}{x y:Operand}{k:IntKind}{m n:Int}(ho:o.op=.binOp .geq t x y u)(hx:opA env x=.int k m)(hy:opA env y=.int k n):OpV P o env H (.bool (decide (n<=m))):=
 OpV.cmp (f:=λa b=>decide (b<=a)) ho hx hy (by simp)
theorem OpV.rem{t u:TypeId}{x y:Operand}{k:IntKind}{m n:Int}(g:o.op=.binOp .rem t x y u)(f:opA env x=.int k m)(h:opA env y=.int k n)(b:n≠0):OpV P o env H (.int k (m.tmod n)):=by
 intro j i σ N a w r;have e:=QK r f;have d:=QK r h;exact⟨_,by generalize a.eval=ρ at*;simp[execOp,g,e,d,Go.binOp,eqGuard,Op.intDiv,b,go_sem],rfl⟩
theorem OpV.not{t:TypeId}{x:Operand}{b:Bool}(f:o.op=.unOp .not t x)(e:opA env x=.bool b):OpV P o env H (.bool !b):=by
 intro h g σ N a w r;have d:=QcN r e;exact⟨_,by generalize a.eval=ρ at*;simp[execOp,f,d,Op.unary,go_sem],rfl⟩
theorem OpV.neg{t:TypeId}{x:Operand}{k:IntKind}{n:Int}(e:o.op=.unOp .neg t x)(d:opA env x=.int k n):OpV P o env H (.int k (k.wrap (0-n))):=by
 intro g f σ N a w r;have b:=QK r d;exact⟨_,by generalize a.eval=ρ at*;simp[execOp,e,b,Op.unary,Op.intArith,go_sem],rfl⟩
theorem Qau{s t:TypeId}{x:Operand}{k d:IntKind}{n:Int}{b:TypeDesc}(i:o.op=.convert s t x)(f:∀w,(underlying s).run P w=.ok b w)(e:∀w,(underlying t).run P w=.ok (.int k) w)
  (h:opA env x=.int d n):OpV P o env H (.int k (k.wrap n)):=by
 intro l j σ N a w r;have g:=QK r h;refine⟨_,?_,rfl⟩;generalize a.eval=ρ at*;cases b<;>simp[execOp,i,g,convert,f,e,Conv.intToInt,go_sem]
theorem QdI{op:BinOp}{t u:TypeId}{x y:Operand}{p q:List UInt8}{f:List UInt8->List UInt8->Bool}(j:o.op=.binOp op t x y u)(i:opA env x=.str p)(l:opA env y=.str q)
  (d:op=.eql/\f=(λa b=>a==b)\/op=.neq/\f=(λa b=>a != b)\/op=.lss/\f=Op.bytesLess\/op=.geq/\f=(λa b=> !Op.bytesLess a b)\/
   op=.leq/\f=(λa b=>Op.bytesLess a b||a==b)\/op=.gtr/\f=(λa b=> !(Op.bytesLess a b||a==b))):OpV P o env H (.bool (f p q)):=by
 intro n m σ N a w r;have h:=Qel r i;have e:=Qel r l;refine⟨_,?_,rfl⟩;generalize a.eval=ρ at*;have k:(⟨p.toArray⟩:ByteArray).toList=p:=by rw[Go.ByteArray.toList_eq]
 have g:(⟨q.toArray⟩:ByteArray).toList=q:=by rw[Go.ByteArray.toList_eq]
 rcases d with⟨rfl,rfl⟩|⟨rfl,rfl⟩|⟨rfl,rfl⟩|⟨rfl,rfl⟩|⟨rfl,rfl⟩|⟨rfl,rfl⟩<;>simp[execOp,j,h,e,Go.binOp,eqGuard,Op.stringOp,k,g,go_sem,bne]
theorem QdJ{t u:TypeId}{x y:Operand}{p q:List UInt8}(ho:o.op=.binOp .eql t x y u)(hx:opA env x=.str p)(hy:opA env y=.str q):OpV P o env H (.bool (p==q)):=
 QdI (f:=λa b=>a==b) ho hx hy (by simp)
theorem Qlk{t u:TypeId}{x y:Operand}{p q:List UInt8}(ho:o.op=.binOp .neq t x y u)(hx:opA env x=.str p)(hy:opA env y=.str q):OpV P o env H (.bool (p != q)):=
 QdI (f:=λa b=>a != b) ho hx hy (by simp)
theorem Qll{t u:TypeId}{x y:Operand}{p q:List UInt8}(ho:o.op=.binOp .lss t x y u)(hx:opA env x=.str p)(hy:opA env y=.str q):OpV P o env H (.bool (Op.bytesLess p q)):=
 QdI ho hx hy (by simp)
theorem Qlm{t:TypeId}{x y:Operand}{s:List UInt8}{k:IntKind}{n:Int}{c:UInt8}(l:o.op=.index t x y)(h:∀w,(underlying t).run P w=.ok .string w)(j:opA env x=.str s)(p:opA env y=.int k n)
  (h0:0<=n)(m:s[n.toNat]?=some c):OpV P o env H (.int .u8 c.toNat):=by
 intro u q σ N a w r;have i:=Qel r j;have g:=QK r p;have e:(⟨s.toArray⟩:ByteArray)[n.toNat]?=some c:=by
  obtain⟨b,f⟩:=XM.1 m;have d:(⟨s.toArray⟩:ByteArray).size=s.length:=by simp[ByteArray.size]
  rw[getElem?_pos _ _ (by rw[d];exact b)];show some (s.toArray[n.toNat]'(by simpa using b))=some c;simp[f]
 refine⟨_,?_,rfl⟩;generalize a.eval=ρ at*;simp[execOp,l,i,g,Instr.index,asIntOf,h,h0,e,go_sem]
theorem Jk{c:Call}{t:TypeId}{x:Operand}{s:List UInt8}(f:o.op=.call c)(g:c={callee:=.builtin .len,args:= #[x],argTypes:= #[t]})(e:∀w,(underlying t).run P w=.ok .string w)
  (d:opA env x=.str s):OpV P o env H (.int .i64 s.length):=by
 intro i h σ N a w r;have b:=Qel r d;refine⟨_,?_,rfl⟩;generalize a.eval=ρ at*;subst g;simp[execOp,f,b,resolve,invoke,Go.builtin,Builtin.len_,e,goInt,go_sem]<;>rfl
theorem Qnc{c:Call}{t e:TypeId}{x:Operand}{k:Nat}{es:List (List A)}(h:o.op=.call c)(i:c={callee:=.builtin .len,args:= #[x],argTypes:= #[t]})(f:∀w,(underlying t).run P w=.ok (.slice e) w)
  (g:opA env x=.rsl k es):OpV P o env H (.int .i64 es.length):=by
 intro l j σ N a w r;have b:=Qd r x;rw[g]at b;obtain⟨ad,d,b,_⟩:=b;refine⟨_,?_,rfl⟩;generalize a.eval=ρ at*;subst i;simp[execOp,h,b,resolve,invoke,Go.builtin,Builtin.len_,f,goInt,go_sem]
theorem QiF{c:Call}{t e:TypeId}{x:Operand}{i s n k:Nat}(j:o.op=.call c)(l:c={callee:=.builtin .len,args:= #[x],argTypes:= #[t]})(g:∀w,(underlying t).run P w=.ok (.slice e) w)
  (h:opA env x=.osl i s n k):OpV P o env H (.int .i64 n):=by
 intro y u σ N a w r;have d:=Qd r x;rw[h]at d;refine⟨_,?_,rfl⟩;generalize a.eval=ρ at*;subst l;rcases d with⟨rfl,d⟩|⟨b,p,f,q,m,_,d,_⟩<;>
 simp[execOp,j,d,resolve,invoke,Go.builtin,Builtin.len_,g,goInt,go_sem]
structure QY (P:Program) (T f off n:Nat):Prop where
 h:∃fs fd,(∀w,(underlying T).run P w=.ok (.struct fs) w)/\fs[f]?=some fd/\fd.offset=off/\(∀w,(sizeOf fd.type).run P w=.ok n w)/\n≠0
theorem Ja(b off n:Nat):(⟨b,off,none⟩:Addr).add n=⟨b,off+n,none⟩:=by
 unfold Addr.add;split
 .rename_i h;simp[h]
 .rfl
theorem QdQ{T f off n b p:Nat}(d:QY P T f off n)(w:World):(Instr.fieldAt T (.pointer (some ⟨b,p,none⟩)) f).run P w=.ok (.pointer (some ⟨b,p+off,none⟩)) w:=by
 obtain⟨j,k,g,a,rfl,i,e⟩:=d.h;simp[Instr.fieldAt,g,a,Instr.sureAddr,fieldPlace,i,e,Ja,go_sem]
theorem Yq{T f off n i p:Nat}{x:Operand}(h:QY P T f off n)(j:o.op=.fieldAddr T x f)(g:opA env x=.ptr i p):OpV P o env H (.ptr i (p+off)):=by
 intro l k σ N a w r;have d:=Qd r x;rw[g]at d;obtain⟨b,d,e⟩:=d;refine⟨.pointer (some ⟨b,p+off,none⟩),?_,b,d,rfl⟩;generalize a.eval=ρ at*;simp only[execOp,j,e,Vn,QdQ h];rfl
theorem CR.drop{ro:Nat->Prop}{σ:Sig}{w:World}{b:Nat}:∀(n:Nat) {cs:List A} {off:Nat},CR ro σ w b cs off->CR ro σ w b (cs.drop n) (off+n)
 |0,_,_,h=>h
 |n+1,[],_,h=>trivial
 |n+1,c::cs,off,h=>by
  have:=CR.drop n h.2;rw[List.drop_succ_cons];rw[show off+(n+1)=off+1+n from by omega];exact this
theorem CR.take{ro:Nat->Prop}{σ:Sig}{w:World}{b:Nat}:∀(n:Nat) {cs:List A} {off:Nat},CR ro σ w b cs off->CR ro σ w b (cs.take n) off
 |0,_,_,h=>trivial
 |n+1,[],_,h=>trivial
 |n+1,c::cs,off,h=>⟨h.1,CR.take n h.2⟩
theorem Qp{T f off n:Nat}{x:Operand}{cs cs':List A}(i:QY P T f off n)(k:o.op=.fieldAddr T x f)(j:opA env x=.rp cs)(e:cs.drop off=cs'):OpV P o env H (.rp cs'):=by
 intro m l σ N a w r;have d:=Qd r x;rw[j]at d;obtain⟨b,p,d,g,h⟩:=d;refine⟨.pointer (some ⟨b,p+off,none⟩),?_,b,p+off,rfl,g,e▸h.drop off⟩;generalize a.eval=ρ at*;simp only[execOp,k,d,Vn,QdQ i];rfl
theorem RR.get{ro:Nat->Prop}{σ:Sig}{w:World}{b k:Nat}:∀(n:Nat) {es:List (List A)} {off:Nat} {c:List A},RR ro σ w b k es off->es[n]?=some c->c.length=k/\CR ro σ w b c (off+n*k)
 |n,[],_,_,h,hc=>by simp at hc
 |0,e::es,off,c,h,hc=>by
  simp at hc;subst hc;exact⟨h.1,by simpa using h.2.1⟩
 |n+1,e::es,off,c,h,hc=>by
  have:=RR.get n h.2.2 (by simpa using hc);refine⟨this.1,?_⟩;rw[show off+(n+1)*k=off+k+n*k from by rw[Xm];omega];exact this.2
theorem Qoc{t e:TypeId}{x y:Operand}{k:Nat}{es:List (List A)}{j:IntKind}{n:Int}{c:List A}(F:o.op=.indexAddr t x y)(z:∀w,(underlying t).run P w=.ok (.slice e) w)
  (B:∀w,(sizeOf e).run P w=.ok k w)(l:opA env x=.rsl k es)(p:opA env y=.int j n)(h0:0<=n)(h:es[n.toNat]?=some c):OpV P o env H (.rp c):=by
 intro L J σ N a w r;have f:=Qd r x;rw[l]at f;have i:=QK r p;obtain⟨ad,q,f,G,m⟩:=f;have g:n.toNat<es.length:=(XM.1 h).1;rcases m with rfl|⟨b,d,rfl,E,s⟩
 .simp at g
 have u:n<es.length:=by omega
 refine⟨.pointer (some ⟨b,d+n.toNat*k,none⟩),?_,b,d+n.toNat*k,rfl,E,(s.get n.toNat h).2⟩;generalize a.eval=ρ at*;simp[execOp,F,f,i,Instr.indexAt,asIntOf,z,B,h0,u,Ja,go_sem]
theorem Qhl{t e:TypeId}{x y:Operand}{i s m k:Nat}{q:IntKind}{n:Int}(B:o.op=.indexAddr t x y)(j:∀w,(underlying t).run P w=.ok (.slice e) w)
  (l:∀w,(sizeOf e).run P w=.ok k w)(u:opA env x=.osl i s m k)(F:opA env y=.int q n)(h0:0<=n)(E:n<m):OpV P o env H (.ptr i (s*k+n.toNat*k)):=by
 intro M J σ N a w r;have d:=Qd r x;rw[u]at d;have g:=QK r F;rcases d with⟨rfl,_⟩|⟨b,p,f,L,G,h,d,z,O,_⟩
 .omega
 obtain rfl:=z (by omega);refine⟨.pointer (some ⟨b,s*k+n.toNat*k,none⟩),?_,b,h,rfl⟩;generalize a.eval=ρ at*;simp[execOp,B,d,g,Instr.indexAt,asIntOf,j,l,h0,E,Ja,go_sem]
def Pts(H:Qc)(p:A)(cs:List A):Prop:=
 ∀fr ro σ w v,Sim fr ro σ H w->VR ro σ w p v->∃b off,v=.pointer (some ⟨b,off,none⟩)/\CR ro σ w b cs off
theorem VR.lift{ro:Nat->Prop}{σ:Sig}{w:World}{a:A}{v:Value}(h:VR ro [] w a v):VR ro σ w a v:=
 h.mono ⟨λ_ q=>q,λ_ _=>rfl,λ_ _ q=>q,λi b q=>by simp at q⟩
theorem CR.lift{ro:Nat->Prop}{σ:Sig}{w:World}{b:Nat}:∀{cs:List A} {off:Nat},CR ro [] w b cs off->CR ro σ w b cs off
 |[],_,_=>trivial
 |c::cs,off,⟨⟨v,h1,hp,h2⟩,h3⟩=>⟨⟨v,h1,hp,h2.lift⟩,CR.lift h3⟩
theorem LR.lift{ro:Nat->Prop}{σ:Sig}{w:World}:∀{cs:List A} {l:List Value},LR ro [] w cs l->LR ro σ w cs l
 |[],_,h=>h
 |c::cs,l,⟨v,l',h1,h2,h3⟩=>⟨v,l',h1,h2.lift,LR.lift h3⟩
theorem Pts.rp{cs:List A}:Pts H (.rp cs) cs:=λfr ro σ w v s ⟨b,off,h1,h2,h3⟩=>⟨b,off,h1,h3.lift⟩
theorem LR.cells{ro:Nat->Prop}{σ:Sig}{w:World}{b t:Nat}{fz:Nat×Nat}{pre l:List Value}(d:w.heap[b]?=some (.cells (pre++l).toArray t fz))(a:∀v∈l,Qm v):
  ∀{cs:List A},LR ro σ w cs l->CR ro σ w b cs pre.length:=by
 induction l generalizing pre with
 |nil=>
  intro cs h;cases cs with
  |nil=>trivial
  |cons c cs=>obtain⟨v,k,h,_⟩:=h;cases h
 |cons v l e=>
  intro cs h;cases cs with
  |nil=>trivial
  |cons c cs=>
   obtain⟨m,k,i,f,g⟩:=h;cases i;refine⟨⟨v,by simp[World.cell?,d],a v (by simp),f⟩,?_⟩;have:=e (pre:=pre++[v]) (by simpa using d) (λx j=>a x (by simp[j])) g;simpa using this
theorem Pts.cells{i off t:Nat}{cs cs':List A}(hH:H[i]?=some (.cells t cs))(a:cs.drop off=cs'):Pts H (.ptr i off) cs':=by
 intro m k σ w v s h;obtain⟨b,g,d⟩:=h;obtain⟨l,j,e,f⟩:=s.blk i _ _ g hH;have:=LR.cells (pre:=[]) (by simpa using j) f e;refine⟨b,off,d,a▸ ?_⟩;have:=this.drop off;simpa using this
theorem LR.get{ro:Nat->Prop}{σ:Sig}{w:World}:∀{az:List A} {l:List Value} (i:Nat) {a:A},LR ro σ w az l->az[i]?=some a->∃v,l[i]?=some v/\VR ro σ w a v
 |[],l,i,a,h,ha=>by simp at ha
 |x::az,l,0,a,⟨v,l',h1,h2,h3⟩,ha=>by
  simp at ha;subst ha h1;exact⟨v,rfl,h2⟩
 |x::az,l,i+1,a,⟨v,l',h1,h2,h3⟩,ha=>by
  subst h1;obtain⟨v',q1,q2⟩:=LR.get i h3 (by simpa using ha);exact⟨v',by simpa using q1,q2⟩
theorem LR.drop{ro:Nat->Prop}{σ:Sig}{w:World}:∀(n:Nat) {az:List A} {l:List Value},LR ro σ w az l->LR ro σ w (az.drop n) (l.drop n)
 |0,az,l,h=>h
 |n+1,[],l,h=>by cases(show l=[]from h);rfl
 |n+1,a::az,l,⟨v,l',h1,h2,h3⟩=>by subst h1;exact LR.drop n h3
theorem LR.take{ro:Nat->Prop}{σ:Sig}{w:World}:∀(n:Nat) {az:List A} {l:List Value},LR ro σ w az l->LR ro σ w (az.take n) (l.take n)
 |0,az,l,h=>rfl
 |n+1,[],l,h=>by cases(show l=[]from h);rfl
 |n+1,a::az,l,⟨v,l',h1,h2,h3⟩=>by subst h1;exact⟨v,l'.take n,rfl,h2,LR.take n h3⟩
theorem LR.append{ro:Nat->Prop}{σ:Sig}{w:World}:∀{az:List A} {l:List Value} {bs:List A} {m:List Value},LR ro σ w az l->LR ro σ w bs m->LR ro σ w (az++bs) (l++m)
 |[],l,bs,m,h,k=>by cases(show l=[]from h);exact k
 |a::az,l,bs,m,⟨v,l',h1,h2,h3⟩,k=>by subst h1;exact⟨v,l'++m,rfl,h2,LR.append h3 k⟩
theorem Qkx{ro:Nat->Prop}{σ:Sig}{w:World}{b t:Nat}{fz:Nat×Nat}:∀{cs:List A} {pre l post:List Value},w.heap[b]?=some (.cells (pre++(l++post)).toArray t fz)->(∀v∈l,Qm v)->
  LR ro σ w cs l->CR ro σ w b cs pre.length
 |[],_,_,_,_,_,_=>trivial
 |c::cs,pre,l,post,hb,hpl,⟨v,l',h1,h2,h3⟩=>by
  subst h1;refine⟨⟨v,by simp[World.cell?,hb],hpl v (by simp),h2⟩,?_⟩;have:=Qkx (pre:=pre++[v]) (l:=l') (post:=post) (by simpa using hb) (λx hx=>hpl x (by simp[hx])) h3;simpa using this
theorem YI{ro:Nat->Prop}{σ:Sig}{w:World}{b t k:Nat}{fz:Nat×Nat}:∀{es:List (List A)} {pre l:List Value},w.heap[b]?=some (.cells (pre++l).toArray t fz)->
  RL ro σ w k es l->RR ro σ w b k es pre.length
 |[],_,_,_,_=>trivial
 |c::es,pre,l,hb,⟨l1,l2,h1,h2,h3,h4⟩=>by
  subst h1;refine⟨h2,Qkx hb h3.2 h3.1,?_⟩;have hl:=h3.1.length;have:=YI (pre:=pre++l1) (l:=l2) (by simpa using hb) h4;simpa[hl,h2]using this
theorem Pts.row{i off t k e f:Nat}{es:List (List A)}{c cs':List A}(hH:H[i]?=some (.row t k es))(m:off=e*k+f)(he:es[e]?=some c)(a:c.drop f=cs'):Pts H (.ptr i off) cs':=by
 intro q p σ w v s h;obtain⟨b,j,d⟩:=h;obtain⟨l,n,g⟩:=s.blk i _ _ j hH;have:=((YI (pre:=[]) (by simpa using n) g).get e he).2.drop f;refine⟨b,off,d,?_⟩;subst m a;simpa using this.lift
theorem Pts.rowr{i off t k e f:Nat}{es:List (List A)}{c cs':List A}(hH:H[i]?=some (.rowr t k es))(m:off=e*k+f)(he:es[e]?=some c)(a:c.drop f=cs'):Pts H (.ptr i off) cs':=by
 intro q p σ w v s h;obtain⟨b,j,d⟩:=h;obtain⟨l,n,g⟩:=s.blk i _ _ j hH;have:=((YI (pre:=[]) (by simpa using n) g).get e he).2.drop f;refine⟨b,off,d,?_⟩;subst m a;simpa using this
theorem Qk8{w w':World}(h:w'.heap=w.heap)(a:Addr):w'.cell? a=w.cell? a:=by unfold World.cell?;rw[h]
theorem YC{ro:Nat->Prop}{σ:Sig}{w:World}{b off:Nat}:∀{cs:List A} (i:Nat),CR ro σ w b cs (off+i)->
  ∃l,LR ro σ w cs l/\(∀v∈l,Qm v)/\ ∀(w':World) (a:Array Value),w'.heap=w.heap->(loadCellsFrom ⟨b,off,none⟩ i cs.length a).run P w'=.ok (a++l.toArray) w'
 |[],i,h=>⟨[],rfl,by simp,λw' a _=>by simp[loadCellsFrom,go_sem]⟩
 |c::cs,i,⟨⟨v,h1,hp,h2⟩,h3⟩=>by
  obtain⟨l,q1,qp,q2⟩:=YC (cs:=cs) (i+1) (by rw[<- Nat.add_assoc];exact h3);refine⟨v::l,⟨v,l,rfl,h2,q1⟩,by simpa using⟨hp,qp⟩,λw' a hw=>?_⟩;have h1':w'.cell? ⟨b,off+i,none⟩=some v:=by rw[Qk8 hw];exact h1
  have:=q2 w' (a.push v) hw;simp[loadCellsFrom,Go.load,Sem.run,Ja,h1',this,go_sem]
theorem Qh{t n:Nat}{x:Operand}{p:A}{cs vs:List A}(s:o.op=.load t x)(m:∀w,(isAgg t).run P w=.ok true w)(k:∀w,(sizeOf t).run P w=.ok n w)(q:opA env x=p)(u:Pts H p cs)
  (f:cs.take n=vs)(hl:vs.length=n):OpV P o env H (.agg vs):=by
 intro j i σ N a w r;have e:=Qd r x;rw[q]at e;obtain⟨b,off,g,h⟩:=u j i σ w _ r.sim e;subst f;obtain⟨l,y,_,d⟩:=YC (P:=P) (cs:=cs.take n) (off:=off) 0 (by simpa using h.take n);have d:=d w #[] rfl;rw[hl]at d;refine⟨.agg l.toArray,?_,l,rfl,y⟩;generalize a.eval=ρ at*;simp[execOp,s,g,Instr.loadAt,Instr.sureAddr,loadVar,m,k,loadCells,d,go_sem]
theorem OpV.load{t:Nat}{x:Operand}{p v:A}{cs:List A}(m:o.op=.load t x)(j:∀w,(isAgg t).run P w=.ok false w)(k:opA env x=p)(n:Pts H p (v::cs)):OpV P o env H v:=by
 intro h g σ N a w r;have d:=Qd r x;rw[k]at d;obtain⟨b,i,e,⟨y,f,_,l⟩,_⟩:=n h g σ w _ r.sim d;refine⟨y,?_,l⟩;generalize a.eval=ρ at*;simp[execOp,m,e,Instr.loadAt,Instr.sureAddr,loadVar,j,Go.load,Sem.run,f,go_sem]
theorem OpV.extract{x:Operand}{vs:List A}{i:Nat}{v:A}(j:o.op=.extract x i)(g:opA env x=.tup vs)(f:vs[i]?=some v):OpV P o env H v:=by
 intro m k σ N a w r;have b:=Qd r x;rw[g]at b;obtain⟨l,b,d⟩:=b;obtain⟨y,e,h⟩:=d.get i f;refine⟨y,?_,h⟩;generalize a.eval=ρ at*;simp[execOp,j,b,Instr.extract,e,go_sem]
theorem Qbi{fr ro:Nat->Prop}{σ:Sig}{N:Nat}{a:Act}{w:World}(r:Rel fr ro σ H env N a w):∀(l:List Operand),LR ro σ w (l.map (opA env)) (l.map a.eval)
 |[]=>rfl
 |x::l=>⟨_,_,rfl,Qd r x,Qbi r l⟩
theorem OpV.makeFunc{f:Fn}{first cap:List Operand}{vf vc:List A}(e:o.op=.makeFunc f first.toArray cap.toArray)(b:first.map (opA env)=vf)(d:cap.map (opA env)=vc):OpV P o env H (.fn f vf vc):=by
 intro h g σ N a w r;refine⟨.func f (first.map a.eval).toArray (cap.map a.eval).toArray,?_,_,_,rfl,b▸Qbi r first,d▸Qbi r cap⟩;generalize a.eval=ρ at*;simp[execOp,e,Instr.makeFunc,go_sem]
theorem Qat{t:TypeId}{x:Operand}{v:A}{d:TypeDesc}(h:o.op=.makeInterface t x)(g:∀w,(underlying t).run P w=.ok d w)(e:∀m,d≠ .interface m)(f:opA env x=v):OpV P o env H (.iface t v):=by
 intro j i σ N a w r;have b:=Qd r x;rw[f]at b;refine⟨.iface t (a.eval x),?_,_,rfl,b⟩;generalize a.eval=ρ at*;cases d<;>first|(simp[execOp,h,Instr.makeInterface,g,go_sem];done)|exact(e _ rfl).elim
end
end Go.Sw
namespace Go.Sw
mutual
def Ym:A->Bool
 |.ptr _ _=>false
 |.osl _ _ _ _=>false
 |.map _=>false
 |.agg cs=>Yc cs
 |.fn _ a c=>Yc a&&Yc c
 |.iface _ v=>Ym v
 |.tup vs=>Yc vs
 |_=>true
def Yc:List A->Bool
 |[]=>true
 |a::r=>Ym a&&Yc r
end
mutual
theorem VR.data{ro:Nat->Prop}{σ σ':Sig}{w:World}:∀{a:A} {v:Value},Ym a=true->VR ro σ w a v->VR ro σ' w a v
 |.any,_,_,_=>trivial
 |.bool b,v,_,q=>q
 |.int k n,v,_,q=>q
 |.str s,v,_,q=>q
 |.nilp,v,_,q=>q
 |.ptr i off,v,d,q=>by simp[Ym]at d
 |.rp cs,v,_,q=>q
 |.nils,v,_,q=>q
 |.rsl k es,v,_,q=>q
 |.osl i o n k,v,d,q=>by simp[Ym]at d
 |.agg cs,v,d,q=>by
  simp only[VR,Ym]at q d⊢;obtain⟨l,h1,h2⟩:=q;exact⟨l,h1,LR.data d h2⟩
 |.fn f a c,v,d,q=>by
  simp only[VR,Ym,XX]at q d⊢;obtain⟨l,l',h1,h2,h3⟩:=q;exact⟨l,l',h1,LR.data d.1 h2,LR.data d.2 h3⟩
 |.nilf,v,_,q=>q
 |.iface t a,v,d,q=>by
  simp only[VR,Ym]at q d⊢;obtain⟨x,h1,h2⟩:=q;exact⟨x,h1,VR.data d h2⟩
 |.nilif,v,_,q=>q
 |.map i,v,d,q=>by simp[Ym]at d
 |.nilm,v,_,q=>q
 |.tup vs,v,d,q=>by
  simp only[VR,Ym]at q d⊢;obtain⟨l,h1,h2⟩:=q;exact⟨l,h1,LR.data d h2⟩
theorem LR.data{ro:Nat->Prop}{σ σ':Sig}{w:World}:∀{az:List A} {l:List Value},Yc az=true->LR ro σ w az l->LR ro σ' w az l
 |[],_,_,q=>q
 |a::r,l,d,q=>by
  simp only[LR,Yc,XX]at q d⊢;obtain⟨v,l',h1,h2,h3⟩:=q;exact⟨v,l',h1,VR.data d.1 h2,LR.data d.2 h3⟩
end
def Yo:A->Bool
 |.any|.agg _|.tup _=>false
 |_=>true
def Yi:A->List A
 |.agg cs=>cs
 |a=>[a]
def Q8:A->Bool
 |.any=>false
 |_=>true
theorem VR.plain{ro:Nat->Prop}{σ:Sig}{w:World}{a:A}{v:Value}(b:Yo a=true)(h:VR ro σ w a v):Qm v:=by
 cases a<;>first|(simp[Yo]at b;done)|skip
 case rsl k es=>obtain⟨ad,c,rfl,_⟩:=h;trivial
 case osl=>rcases h with⟨_,rfl⟩|⟨_,_,_,_,_,_,rfl,_⟩<;>trivial
 case fn=>obtain⟨_,_,rfl,_⟩:=h;trivial
 case iface=>obtain⟨_,rfl,_⟩:=h;trivial
 case ptr=>obtain⟨_,_,rfl⟩:=h;trivial
 case rp=>obtain⟨_,_,rfl,_⟩:=h;trivial
 case map=>obtain⟨_,_,rfl⟩:=h;trivial
 all_goals (simp only[VR]at h;subst h;trivial)
theorem VR.cells{ro:Nat->Prop}{σ:Sig}{w:World}{a:A}{v:Value}(b:Q8 a=true)(h:VR ro σ w a v):∃l:List Value,v.cells=l.toArray/\LR ro σ w (Yi a) l:=by
 cases a
 case any=>simp[Q8]at b
 case agg cs=>obtain⟨l,rfl,h⟩:=h;exact⟨l,rfl,h⟩
 case tup cs=>obtain⟨l,rfl,h⟩:=h;exact⟨[.tuple l.toArray],rfl,_,_,rfl,⟨l,rfl,h⟩,rfl⟩
 all_goals
  have d:=h.plain rfl;refine⟨[v],?_,v,[],rfl,h,rfl⟩;cases v<;>first|rfl|exact d.elim
theorem LR.plain{ro:Nat->Prop}{σ:Sig}{w:World}:∀{az:List A} {l:List Value},az.all Yo=true->LR ro σ w az l->∀v∈l,Qm v
 |[],l,_,h=>by cases(show l=[]from h);simp
 |a::az,l,hp,⟨v,l',h1,h2,h3⟩=>by
  subst h1;simp only[List.all_cons,XX]at hp;intro x hx;rcases X7.1 hx with rfl|hx
  .exact h2.plain hp.1
  .exact LR.plain hp.2 h3 x hx
theorem Ya(w:World)(obj:Obj)(b:Nat)(a:b<w.heap.size):(w.alloc obj).heap[b]?=w.heap[b]? :=by
 show(w.heap.push obj)[b]?=_;rw[Array.getElem?_push,Vt (by omega)]
theorem Q9(w:World)(obj:Obj):(w.alloc obj).heap[w.heap.size]?=some obj:=by
 show(w.heap.push obj)[w.heap.size]?=_;simp
theorem Q5(w:World)(obj:Obj):(w.alloc obj).heap.size=w.heap.size+1:=by
 show(w.heap.push obj).size=_;simp
theorem QbM{w:World}{b:Nat}{x:TypeId×Nat}(h:w.shape? b=some x):b<w.heap.size:=by
 unfold World.shape? at h;rcases VD b w.heap.size with q|q
 .exact q
 .rw[Array.getElem?_eq_none q]at h;simp at h
theorem Qe.alloc{fr ro:Nat->Prop}{w:World}(obj:Obj)(hro:∀b,ro b->b<w.heap.size)(hfr:∀b,fr b->b<w.heap.size):Qe fr ro w ro (w.alloc obj):=
 ⟨λ_ h=>h,λb h=>Ya w obj b (hro b h),λb h=>Ya w obj b (hfr b h),by rw[Q5];omega,
  λb x h=>by unfold World.shape? at h⊢;rw[Ya w obj b (QbM h)];exact h,rfl,rfl,rfl,XU _⟩
section
variable {P:Program} {o:Oper} {env:Env} {H:Qc} {fr ro:Nat->Prop} {σ:Sig} {w:World}
theorem Sim.alloc(s:Sim fr ro σ H w){obj:Obj}{x:Blk}(G:BR ro (σ++[some w.heap.size]) (w.alloc obj) x (some w.heap.size))
  (u:∀c,Hid (w.alloc obj) x w.heap.size c->False:=by exact λ_ h=>h.elim):
  Sim fr ro (σ++[some w.heap.size]) (H++[x]) (w.alloc obj):=by
 have ev:Qe fr ro w ro (w.alloc obj):=Qe.alloc obj s.roLt s.frLt;have m:=s.len;have e:∀(i:Nat) (y:Option Nat),(σ++[some w.heap.size])[i]?=some y->(i<σ.length/\σ[i]?=some y)\/(i=σ.length/\y=some w.heap.size):=by
  intro i y h;rcases Nat.lt_trichotomy i σ.length with q|q|q
  .rw[XN q]at h;exact .inl ⟨q,h⟩
  .subst q;simp at h;exact .inr ⟨rfl,h.symm⟩
  .rw[XP (by simp;omega)]at h;simp at h
 have k:∀i:Nat,i<σ.length->(H++[x])[i]?=H[i]? :=λi L=>XN (by omega);have B:(H++[x])[σ.length]?=some x:=by rw[m];simp
 refine⟨by simp[m],s.roOk.to (λ_ q=>q) ev.keepRo (λb h=>?_),λb h=>?_,s.roFr,?_,?_,?_,?_⟩
 .rw[Q5];have:=s.roLt b h;omega
 .rw[Q5];have:=s.frLt b h;omega
 .intro i b y g f n;rw[Q5];rcases e i _ g with⟨q,g⟩|⟨rfl,l⟩
  .rw[k i q]at f;obtain⟨a,b,c⟩:=s.own i b y g f n;exact⟨by omega,b,c⟩
  .cases l;exact⟨by omega,λq=>by have:=s.roLt _ q;omega,λq=>by have:=s.frLt _ q;omega⟩
 .intro i j b y z g f n t F E;rcases e i _ g with⟨q,g⟩|⟨rfl,l⟩<;>rcases e j _ f with⟨q',f⟩|⟨rfl,e2⟩
  .rw[k i q]at n;rw[k j q']at t;exact s.inj i j b y z g f n t F E
  .cases e2;rw[k i q]at n;have:=(s.own i _ y g n F).1;omega
  .cases l;rw[k j q']at t;have:=(s.own j _ z f t E).1;omega
  .rfl
 .intro i y z g f;rcases e i _ g with⟨q,g⟩|⟨rfl,l⟩
  .rw[k i q]at f;refine(s.blk i y z g f).keep (ev.ext σ _) ?_ ?_
   .rintro b rfl m;exact Ya w obj b (s.own i b z g f m).1
   .rintro b c rfl m;exact Ya w obj c (s.hid i b z c g f m).lt
  .rw[B]at f;cases f;subst l;exact G
 .refine s.hidTo (· = ·) QW (by rw[Q5];omega) (λ_ _ _ _ _ _ _ q=>q) (λ_ _ _ _ _ _ _ q=>q) λj d y r p J=>?_;rcases e j _ r with⟨q,r⟩|⟨rfl,l⟩
  .rw[k j q]at p;exact .inl ⟨j,y,rfl,r,p,id,λc q=>s.hidKeep r p (λz=>Ya w obj d (s.own j d y r p z).1) ev.keepRo q⟩
  .rw[B]at p;cases p;cases l;exact .inr ⟨XU _,u⟩
theorem Sim.allocCells(s:Sim fr ro σ H w){t:Nat}{cs:List A}{l:List Value}(h:LR ro σ w cs l)(hp:∀v∈l,Qm v):
  Sim fr ro (σ++[some w.heap.size]) (H++[.cells t cs]) (w.alloc (.cells l.toArray t)):=
 s.alloc ⟨l,Q9 _ _,h.mono ((Qe.alloc (fr:=fr) _ s.roLt s.frLt).ext σ _),hp⟩
theorem QiN{ro:Nat->Prop}{σ:Sig}{w:World}:∀{az bs:List A} {l:List Value},LR ro σ w (az++bs) l->∃l1 l2,l=l1++l2/\LR ro σ w az l1/\LR ro σ w bs l2
 |[],bs,l,h=>⟨[],l,rfl,rfl,h⟩
 |a::az,bs,l,⟨v,l',h1,h2,h3⟩=>by
  obtain⟨l1,l2,e,q1,q2⟩:=QiN h3;subst h1 e;exact⟨v::l1,l2,rfl,⟨v,l1,rfl,h2,q1⟩,q2⟩
def allK(k:Nat):List (List A)->Prop
 |[]=>True
 |c::es=>c.length=k/\allK k es
theorem Y0{k:Nat}:∀{es:List (List A)} {l rest:List Value},allK k es->LR ro σ w es.flatten l->(∀v∈l,Qm v)->RL ro σ w k es (l++rest)
 |[],_,_,_,_,_=>trivial
 |c::es,l,rest,⟨h1,h2⟩,h,hp=>by
  rw[Vm]at h;obtain⟨l1,l2,rfl,q1,q2⟩:=QiN h;exact⟨l1,l2++rest,by simp,h1,⟨q1,λv hv=>hp v (by simp[hv])⟩,Y0 h2 q2 (λv hv=>hp v (by simp[hv]))⟩
theorem Sim.allocRow(s:Sim fr ro σ H w){t k:Nat}{es:List (List A)}{l rest:List Value}(hk:allK k es)(h:LR ro [] w es.flatten l)(hp:∀v∈l,Qm v):
  Sim fr ro (σ++[some w.heap.size]) (H++[.row t k es]) (w.alloc (.cells (l++rest).toArray t)):=
 s.alloc ⟨l++rest,Q9 _ _,(Y0 hk h hp).mono ((Qe.alloc (fr:=fr) _ s.roLt s.frLt).ext0 [])⟩
theorem Sim.allocRowr(s:Sim fr ro σ H w){t k:Nat}{es:List (List A)}{l rest:List Value}(hk:allK k es)(h:LR ro σ w es.flatten l)(hp:∀v∈l,Qm v):
  Sim fr ro (σ++[some w.heap.size]) (H++[.rowr t k es]) (w.alloc (.cells (l++rest).toArray t)):=
 s.alloc ⟨l++rest,Q9 _ _,(Y0 hk h hp).mono ((Qe.alloc (fr:=fr) _ s.roLt s.frLt).ext σ _)⟩
theorem OpH.box{t:Nat}{x:Operand}{v:A}{cs:List A}(m:o.op=.box t x)(k:opA env x=v)(j:Q8 v=true)(d:Yi v=cs)(b:cs.all Yo=true):
  OpH P o env H (.ptr H.length 0) (H++[.cells t cs]):=by
 intro n i σ N a w r;have g:=Qd r x;rw[k]at g;obtain⟨l,h,f⟩:=g.cells j;subst d;refine⟨.pointer (some ⟨w.heap.size,0,none⟩),w.alloc (.cells l.toArray t),i,[some w.heap.size],?_,⟨w.heap.size,?_,rfl⟩,r.sim.allocCells f (f.plain b),Qe.alloc _ r.sim.roLt r.sim.frLt⟩
 .generalize a.eval=ρ at*;have e:(newVar t (ρ x)).run P w=.ok ⟨w.heap.size,0,none⟩ (w.alloc (.cells l.toArray t)):=by
   unfold newVar;rw[h];rfl
  simp only[execOp,m,Instr.box,Vn,e];rfl
 .rw[<- r.sim.len];simp
theorem Sim.set(s:Sim fr ro σ H w){i b:Nat}{x x':Blk}{obj:Obj}(hσ:σ[i]?=some (some b))(hH:H[i]?=some x)(hl:x.live=true)
  (O:∀y,w.shape? b=some y->({w with heap:=w.heap.setIfInBounds b obj}:World).shape? b=some y)
  (N:Ext ro σ w ro σ {w with heap:=w.heap.setIfInBounds b obj}->({w with heap:=w.heap.setIfInBounds b obj}:World).heap[b]?=some obj->BR ro σ {w with heap:=w.heap.setIfInBounds b obj} x' (some b))
  (M:∀c,Hid {w with heap:=w.heap.setIfInBounds b obj} x' b c->Hid w x b c:=by exact λ_ h=>h.elim):
  Sim fr ro σ (H.set i x') {w with heap:=w.heap.setIfInBounds b obj}/\Qe fr ro w ro {w with heap:=w.heap.setIfInBounds b obj}:=by
 obtain⟨P,m,n⟩:=s.own i b x hσ hH hl;have g:∀c,c≠b->({w with heap:=w.heap.setIfInBounds b obj}:World).heap[c]?=w.heap[c]? :=by
  intro c V;show(w.heap.setIfInBounds b obj)[c]?=_;rw[Vf,Vt (λq=>V q.symm)]
 have L:({w with heap:=w.heap.setIfInBounds b obj}:World).heap[b]?=some obj:=by
  show(w.heap.setIfInBounds b obj)[b]?=_;rw[Vf,Vu rfl,Vu P]
 have l:({w with heap:=w.heap.setIfInBounds b obj}:World).heap.size=w.heap.size:=by simp
 have ev:Qe fr ro w ro {w with heap:=w.heap.setIfInBounds b obj}:=
  ⟨λ_ h=>h,λc h=>g c (λq=>m (q▸h)),λc h=>g c (λq=>n (q▸h)),by rw[l];exact XU _,by
   intro c y h;by_cases q:c=b
   .subst q;exact O y h
   .unfold World.shape? at h⊢;rw[g c q];exact h,rfl,rfl,rfl,XU _⟩
 have X:i<H.length:=(XM.1 hH).1;have F:(H.set i x')[i]?=some x':=Xa X;have k:∀j,j≠i->(H.set i x')[j]?=H[j]? :=λj W=>XQ (λq=>W q.symm);have E:=N (ev.ext0 σ) L;refine⟨⟨by rw[X5];exact s.len,s.roOk.to (λ_ q=>q) ev.keepRo (λc h=>by rw[l];exact s.roLt c h),λc h=>by rw[l];exact s.frLt c h,s.roFr,?_,?_,?_,?_⟩,ev⟩
 .intro j c y f a B;rw[l];by_cases q:j=i
  .subst q;rw[hσ]at f;cases f;exact⟨P,m,n⟩
  .rw[k j q]at a;exact s.own j c y f a B
 .intro j p c y z f a B J R Q;by_cases q:j=i
  .subst q;rw[hσ]at f;cases f;by_cases u:p=j
   .exact u.symm
   .rw[k p u]at J;exact s.inj j p _ x z hσ a hH J hl Q
  .rw[k j q]at B;by_cases u:p=i
   .subst u;rw[hσ]at a;cases a;exact s.inj j p _ y x f hσ B hH R hl
   .rw[k p u]at J;exact s.inj j p c y z f a B J R Q
 .intro j y z f a;by_cases q:j=i
  .subst q;rw[F]at a;cases a;rw[hσ]at f;cases f;exact E
  .rw[k j q]at a;refine(s.blk j y z f a).keep (ev.ext0 σ) ?_ ?_
   .rintro c rfl r;exact g c (λe=>q (s.inj j i b z x (e▸f) hσ a hH r hl))
   .rintro c d rfl T;exact g d ((s.hid j c z d f a T).ne i b x hσ hH hl)
 .refine s.hidTo (· = ·) QW (by rw[l];exact XU _) (λ_ _ _ _ _ _ _ q=>q) (λ_ _ _ _ _ _ _ q=>q) λj d y G t Y=>.inl ?_;by_cases q:j=i
  .subst q;rw[F]at t;cases t;rw[hσ]at G;cases G;exact⟨j,x,rfl,hσ,hH,λ_=>hl,M⟩
  .rw[k j q]at t;exact⟨j,y,rfl,G,t,id,λc z=>s.hidKeep G t (λr=>g d (λe=>q (s.inj j i b y x (e▸G) hσ t hH r hl))) ev.keepRo z⟩
def splice{α:Type}(l:List α)(o:Nat)(vs:List α):List α:=l.take o++vs++l.drop (o+vs.length)
theorem Yd{α:Type}{l:List α}{o:Nat}{vs:List α}(h:o+vs.length<=l.length):(splice l o vs).length=l.length:=by
 simp[splice];omega
theorem Qbc{h:Array Obj}{b:Nat}{f:Obj->Obj}{x:Obj}(g:h[b]?=some x):h.modify b f=h.setIfInBounds b (f x):=by
 apply Array.ext_getElem?;intro i;rw[Array.getElem?_modify,Vf];by_cases e:b=i
 .subst e;obtain⟨a,d⟩:=Vd.1 g;simp[d,a]
 .simp[e]
theorem Yg{b t:Nat}:∀{vs l:List Value} {w:World} (off i:Nat),w.heap[b]?=some (.cells l.toArray t (0,0))->off+i+vs.length<=l.length->(∀v∈vs,Qm v)->
  (storeCells ⟨b,off,none⟩ vs i).run P w=.ok () {w with heap:=w.heap.setIfInBounds b (.cells (splice l (off+i) vs).toArray t (0,0))}
 |[],l,w,off,i,hb,hl,hp=>by
  have e:w.heap.setIfInBounds b (.cells (splice l (off+i) []).toArray t (0,0))=w.heap:=by
   apply Array.ext_getElem?;intro j;rw[Vf];by_cases q:b=j
   .subst q;obtain⟨a,m⟩:=Vd.1 hb;simp[a,splice,m]
   .rw[Vt q]
  rw[e];simp[storeCells,go_sem]
 |v::vs,l,w,off,i,hb,hl,hp=>by
  simp only[X2]at hl;have s:=hp v (by simp);have B:w.cell? ⟨b,off+i,none⟩=some l[off+i]:=by
   simp[World.cell?,hb]
  have g:w.frozen? ⟨b,off+i,none⟩=false:=by
   simp[World.frozen?,hb]
  have d:w.setCell ⟨b,off+i,none⟩ v={w with heap:=w.heap.setIfInBounds b (.cells (splice l (off+i) [v]).toArray t (0,0))}:=by
   unfold World.setCell;rw[Qbc hb];simp only[Option.isSome_none,Xj,if_false];congr 3;have:l.toArray.setIfInBounds (off+i) v=(l.set (off+i) v).toArray:=by simp
   rw[this];congr 1;rw[List.set_eq_take_append_cons_drop,Vu (by omega)];simp[splice]
  have a:b<w.heap.size:=by
   rcases VD b w.heap.size with q|q
   .exact q
   .rw[Array.getElem?_eq_none q]at hb;simp at hb
  have h:=Yg (vs:=vs) (l:=splice l (off+i) [v]) (w:={w with heap:=w.heap.setIfInBounds b (.cells (splice l (off+i) [v]).toArray t (0,0))}) off (i+1)
   (by show(w.heap.setIfInBounds b _)[b]?=_;rw[Vf,Vu rfl,Vu a])
   (by rw[Yd (by simp;omega)];omega) (λx z=>hp x (by simp[z]))
  have r:splice (splice l (off+i) [v]) (off+(i+1)) vs=splice l (off+i) (v::vs):=by
   have k:(l.take (off+i)).length=off+i:=by simp;omega
   unfold splice;rw[Vj (l.take (off+i))];have p:off+(i+1)=(l.take (off+i)).length+1:=by omega
   have y:(l.take (off+i)++([v]++l.drop (off+i+[v].length))).take ((l.take (off+i)).length+1)=l.take (off+i)++[v]:=by
    rw[Vc];simp
   have n:(l.take (off+i)++([v]++l.drop (off+i+[v].length))).drop ((l.take (off+i)).length+1+vs.length)=l.drop (off+i+(v::vs).length):=by
    rw[show(l.take (off+i)).length+1+vs.length=(l.take (off+i)).length+(1+vs.length)from by omega,Vb];simp[Nat.add_comm 1];congr 1;omega
   rw[p,y,n];simp
  have u:(w.heap.setIfInBounds b (.cells (splice l (off+i) [v]).toArray t (0,0))).setIfInBounds b (.cells (splice (splice l (off+i) [v]) (off+(i+1)) vs).toArray t (0,0))=
    w.heap.setIfInBounds b (.cells (splice l (off+i) (v::vs)).toArray t (0,0)):=by
   rw[r,Array.setIfInBounds_setIfInBounds]
  rw[u]at h;have f:(Go.store ⟨b,off+i,none⟩ v).run P w=.ok () {w with heap:=w.heap.setIfInBounds b (.cells (splice l (off+i) [v]).toArray t (0,0))}:=by
   rw[<- d];cases v<;>first|exact s.elim|simp[Go.store,Sem.run,B,g,go_sem]
  simp only[storeCells,Ja,Vn,f];exact h
theorem QaJ{w:World}{b t:Nat}{l l':List Value}(d:w.heap[b]?=some (.cells l.toArray t (0,0)))(hl:l'.length=l.length)(y:TypeId×Nat)(h:w.shape? b=some y):
  ({w with heap:=w.heap.setIfInBounds b (.cells l'.toArray t (0,0))}:World).shape? b=some y:=by
 have a:b<w.heap.size:=by
  rcases VD b w.heap.size with q|q
  .exact q
  .rw[Array.getElem?_eq_none q]at d;simp at d
 unfold World.shape? at h⊢;rw[d]at h;simp at h;subst h;show(match(w.heap.setIfInBounds b (.cells l'.toArray t (0,0)))[b]? with|some (.cells c elem _)=>some (elem,c.size)|_=>none)=_;rw[Vf,Vu rfl,Vu a];simp[hl]
theorem LR.splice{ro:Nat->Prop}{σ:Sig}{w:World}{az vs:List A}{l m:List Value}(off:Nat)(h:LR ro σ w az l)(k:LR ro σ w vs m):LR ro σ w (Sw.splice az off vs) (Sw.splice l off m):=by
 unfold Sw.splice;rw[k.length];exact((h.take off).append k).append (h.drop _)
theorem QeS{l m:List Value}{off:Nat}(h:∀v∈l,Qm v)(k:∀v∈m,Qm v):∀v∈Sw.splice l off m,Qm v:=by
 intro v a;simp only[Sw.splice,VE]at a;rcases a with(a|a)|a
 .exact h v (List.mem_of_mem_take a)
 .exact k v a
 .exact h v (List.mem_of_mem_drop a)
theorem OpU.store{t n i off T:Nat}{x y:Operand}{cs vs cs':List A}{v:A}(ho:o.op=.store t x y)(Q:opA env x=.ptr i off)(hH:H[i]?=some (.cells T cs))(X:∀w,(sizeOf t).run P w=.ok n w)
  (s:opA env y=v)(Y:Q8 v=true)(O:Yi v=vs)(V:vs.length=n)(G:vs.all Yo=true)(g:Nat.ble (off+n) cs.length=true)(B:splice cs off vs=cs'):
  OpU P o env H (H.set i (.cells T cs')):=by
 intro fr W σ N a w r;have j:=Qd r x;rw[Q]at j;obtain⟨b,j,L⟩:=j;have E:=Qd r y;rw[s]at E;obtain⟨m,F,h⟩:=E.cells Y;rw[O]at h;obtain⟨l,J,k,M⟩:=r.sim.blk i _ _ j hH;have q:off+n<=cs.length:=by simpa using g
 have p:m.length=n:=by rw[h.length,V]
 have f:=Yg (P:=P) (vs:=m) off 0 J (by rw[k.length,p];omega) (h.plain G);have d:=r.sim.set (x':=.cells T cs') (obj:=.cells (splice l off m).toArray T (0,0)) j hH rfl
  (λy s=>QaJ J (Yd (by rw[k.length,p];omega)) y s)
  (λe R=>⟨_,R,B▸(k.splice off h).mono e,QeS M (h.plain G)⟩)
 refine⟨_,W,[],?_,by simpa using d.1,d.2⟩;generalize a.eval=ρ at*;have u:(ρ y).cells.size=n:=by rw[F];simp[p]
 have z:(storeVar t ⟨b,off,none⟩ (ρ y)).run P w=.ok () {w with heap:=w.heap.setIfInBounds b (.cells (splice l off m).toArray T (0,0))}:=by
  unfold storeVar;rw[Vn,X];simp only[Result.andThen];rw[Vt (by simp[u]),F];simpa using f
 simp only[execOp,ho,L,Instr.storeAt,Instr.sureAddr,pure_bind,Vn,z];rfl
theorem RL.splice{ro:Nat->Prop}{σ:Sig}{w:World}{k:Nat}:∀{e:Nat} {es:List (List A)} {l m:List Value} {c a:List A} {f:Nat},RL ro σ w k es l->es[e]?=some c->LR ro σ w a m->(∀v∈m,Qm v)->f+a.length<=k->
  RL ro σ w k (es.set e (Sw.splice c f a)) (Sw.splice l (e*k+f) m)
 |_,[],_,_,_,_,_,_,h,_,_,_=>by simp at h
 |0,c0::es,l,m,c,a,f,⟨l1,l2,h1,h2,h3,h4⟩,hc,hm,hp,hf=>by
  simp at hc;subst hc h1;have hl1:=h3.1.length;refine⟨Sw.splice l1 f m,l2,?_,?_,⟨h3.1.splice f hm,QeS h3.2 hp⟩,h4⟩
  .unfold Sw.splice;simp only[Nat.zero_mul,Xw,Vj];rw[X8 (by omega),X9 (by rw[hm.length];omega)]
  .rw[Yd (by omega)];exact h2
 |e+1,c0::es,l,m,c,a,f,⟨l1,l2,h1,h2,h3,h4⟩,hc,hm,hp,hf=>by
  subst h1;have hl1:=h3.1.length;refine⟨l1,Sw.splice l2 (e*k+f) m,?_,h2,h3,RL.splice h4 (by simpa using hc) hm hp hf⟩;have e1:(e+1)*k+f=l1.length+(e*k+f):=by rw[Xm];omega
  unfold Sw.splice;rw[e1,Vc,show l1.length+(e*k+f)+m.length=l1.length+(e*k+f+m.length)from by omega,Vb];simp
theorem RL.length{ro:Nat->Prop}{σ:Sig}{w:World}{k:Nat}:∀{es:List (List A)} {l:List Value},RL ro σ w k es l->es.length*k<=l.length
 |[],l,_=>by simp
 |c::es,l,⟨l1,l2,h1,h2,h3,h4⟩=>by
  subst h1;have:=RL.length h4;have:=h3.1.length;simp only[X2,X4,Xm];omega
theorem Qhn{t n i off T k e f:Nat}{x y:Operand}{es es':List (List A)}{c vs O:List A}{v:A}(ho:o.op=.store t x y)(hx:opA env x=.ptr i off)(hH:H[i]?=some (.row T k es))(hs:∀w,(sizeOf t).run P w=.ok n w)
  (h:off=e*k+f)(J:es[e]?=some c)(u:opA env y=v)(hk:Q8 v=true)(hv:Yi v=vs)(M:vs.length=n)(W:vs.all Yo=true)(Y:Yc vs=true)(X:Nat.ble (f+n) k=true)
  (E:splice c f vs=O)(s:es.set e O=es'):
  OpU P o env H (H.set i (.row T k es')):=by
 intro fr ro σ N a w r;have p:=Qd r x;rw[hx]at p;obtain⟨b,p,h2⟩:=p;have R:=Qd r y;rw[u]at R;obtain⟨m,G,j⟩:=R.cells hk;rw[hv]at j;obtain⟨l,L,V⟩:=r.sim.blk i _ _ p hH;have q:f+n<=k:=by simpa using X
 have hm:m.length=n:=by rw[j.length,M]
 have he:e<es.length:=(XM.1 J).1;have Q:off+n<=l.length:=by
  have:=V.length;have h6:(e+1)*k<=es.length*k:=XC k he;rw[Xm]at h6;omega
 have g:=Yg (P:=P) (vs:=m) off 0 L (by omega) (j.plain W);have d:=r.sim.set (x':=.row T k es') (obj:=.cells (splice l off m).toArray T (0,0)) p hH rfl
  (λy u=>QaJ L (Yd (by omega)) y u)
  (λex F=>⟨_,F,by
   subst s E h;exact(V.splice J (j.data Y) (j.plain W) (by rw[M];exact q)).mono ex.nil⟩)
 refine⟨_,ro,[],?_,by simpa using d.1,d.2⟩;generalize a.eval=ρ at*;have z:(ρ y).cells.size=n:=by rw[G];simp[hm]
 have B:(storeVar t ⟨b,off,none⟩ (ρ y)).run P w=.ok () {w with heap:=w.heap.setIfInBounds b (.cells (splice l off m).toArray T (0,0))}:=by
  unfold storeVar;rw[Vn,hs];simp only[Result.andThen];rw[Vt (by simp[z]),G];simpa using g
 simp only[execOp,ho,h2,Instr.storeAt,Instr.sureAddr,pure_bind,Vn,B];rfl
end
end Go.Sw
namespace Go.Sw
section
variable {P:Program} {o:Oper} {env:Env} {H:Qc} {fr ro:Nat->Prop} {σ:Sig} {w:World}
theorem Ext.heap{w':World}(h:w'.heap=w.heap):Ext ro σ w ro σ w':=
 ⟨λ_ q=>q,λb _=>by rw[h],λb x q=>by unfold World.shape? at q⊢;rw[h];exact q,λ_ _ q=>q⟩
theorem Sim.heap{w':World}(s:Sim fr ro σ H w)(h:w'.heap=w.heap):Sim fr ro σ H w':=
 ⟨s.len,s.roOk.to (λ_ q=>q) (λb _=>by rw[h]) (λb q=>by rw[h];exact s.roLt b q),λb q=>by rw[h];exact s.frLt b q,s.roFr,λi b x q1 q2 q3=>by rw[h];exact s.own i b x q1 q2 q3,s.inj,
  λi y x q1 q2=>(s.blk i y x q1 q2).keep (Ext.heap h) (λb _ _=>by rw[h]) (λb c _ _=>by rw[h]),
  s.hidTo (· = ·) QW (by rw[h];exact XU _) (λ_ _ _ _ _ _ _ q=>q) (λ_ _ _ _ _ _ _ q=>q) λj d y g1 g2 g3=>.inl ⟨j,y,rfl,g1,g2,id,λc q=>q.keep (by rw[h])⟩⟩
theorem Qe.heap{w':World}(h:w'.heap=w.heap)(ho:w'.os=w.os)(ht:w'.tape=w.tape)(hu:w'.output=w.output)(hd:w.drawn<=w'.drawn):Qe fr ro w ro w':=
 ⟨λ_ q=>q,λb _=>by rw[h],λb _=>by rw[h],by rw[h];exact XU _,λb x q=>by unfold World.shape? at q⊢;rw[h];exact q,ho,ht,hu,hd⟩
theorem Sim.moved(s:Sim fr ro σ H w){i:Nat}{x:Blk}{y:Option Nat}(hH:H[i]?=some x)(hσ:σ[i]?=some y):Sim fr ro (σ++[y]) (H.set i .dead++[x]) w:=by
 have F:=s.len;have P:i<H.length:=(XM.1 hH).1;have a:∀(j:Nat) (z:Option Nat) (v:Blk),(σ++[y])[j]?=some z->(H.set i .dead++[x])[j]?=some v->v≠ .dead->
   (j<σ.length/\j≠i/\σ[j]?=some z/\H[j]?=some v)\/(j=σ.length/\z=y/\v=x):=by
  intro j z v g f m;rcases Nat.lt_trichotomy j σ.length with q|q|q
  .rw[XN q]at g;rw[XN (by rw[X5];omega)]at f;by_cases e:j=i
   .subst e;rw[Xa P]at f;cases f;exact absurd rfl m
   .rw[XQ (λq=>e q.symm)]at f;exact .inl ⟨q,e,g,f⟩
  .subst q;have n:(σ++[y])[σ.length]?=some y:=by simp
   have R:(H.set i .dead++[x])[σ.length]?=some x:=by rw[F,show H.length=(H.set i .dead).length from by simp];simp
   rw[n]at g;rw[R]at f;cases g;cases f;exact .inr ⟨rfl,rfl,rfl⟩
  .rw[XP (by simp;omega)]at g;simp at g
 have hσ':∀(j:Nat) (b:Nat),σ[j]?=some (some b)->(σ++[y])[j]?=some (some b):=λj b h=>YH h;have ext:Ext ro σ w ro (σ++[y]) w:=⟨λ_ q=>q,λ_ _=>rfl,λ_ _ q=>q,hσ'⟩;refine⟨by simp[F],s.roOk,s.frLt,s.roFr,?_,?_,?_,s.hidTo (λj J=>(j<σ.length/\j≠i/\J=j)\/(j=σ.length/\J=i)) (by omega) (XU _) (λ_ _ _ _ _ _ _ q=>q) (λ_ _ _ _ _ _ _ q=>q) λj d y V L O=>.inl ?_⟩
 rotate_left 3
 .rcases a j _ y V L (Qev O)with⟨E,B,k,l⟩|⟨E,n,rfl⟩
  .exact⟨j,y,.inl ⟨E,B,rfl⟩,k,l,id,λ_ q=>q⟩
  .subst n;exact⟨i,y,.inr ⟨E,rfl⟩,hσ,hH,id,λ_ q=>q⟩
 .intro j b v g f m;rcases a j _ v g f (Qay m)with⟨_,_,k,l⟩|⟨_,n,rfl⟩
  .exact s.own j b v k l m
  .subst n;exact s.own i b v hσ hH m
 .intro j u b v p g f m M t r;rcases a j _ v g m (Qay t)with⟨_,T,k,l⟩|⟨Q,n,N⟩<;>rcases a u _ p f M (Qay r)with⟨_,n1',q1',q2'⟩|⟨r1',e1',r2'⟩
  .exact s.inj j u b v p k q1' l q2' t r
  .subst e1' r2';exact(T (s.inj j i b v p k hσ l hH t r)).elim
  .subst n N;exact(n1' (s.inj u i b p v q1' hσ q2' hH r t)).elim
  .rw[Q,r1']
 .intro j z v g f;by_cases G:v≠ .dead
  .rcases a j z v g f G with⟨_,_,k,l⟩|⟨_,rfl,rfl⟩
   .exact(s.blk j z v k l).keep ext (λ_ _ _=>rfl) (λ_ _ _ _=>rfl)
   .exact(s.blk i _ _ hσ hH).keep ext (λ_ _ _=>rfl) (λ_ _ _ _=>rfl)
  .obtain rfl:v=.dead:=Classical.not_not.1 G;trivial
def Src(P:Program)(H:Qc)(x:A)(k:Nat)(es:List (List A)):Prop:=
 ∀fr ro σ w v,Sim fr ro σ H w->VR ro σ w x v->(∃a c,v=.slice a es.length c)/\allK k es/\
  ∃l,(∀w':World,w'.heap=w.heap->(Builtin.firstCells k es.length v).run P w'=.ok l.toArray w')/\LR ro [] w es.flatten l/\ ∀v∈l,Qm v
theorem RR.flat{b k:Nat}:∀{es:List (List A)} {off:Nat},RR ro σ w b k es off->CR ro σ w b es.flatten off/\allK k es/\es.flatten.length=es.length*k
 |[],off,_=>⟨trivial,trivial,by simp⟩
 |c::es,off,⟨h1,h2,h3⟩=>by
  obtain⟨q1,q2,q3⟩:=RR.flat h3;refine⟨?_,⟨h1,q2⟩,by simp[q3,h1,Xm,Nat.add_comm]⟩;rw[Vm];have:∀(c:List A) (off:Nat) (d:List A),CR ro σ w b c off->CR ro σ w b d (off+c.length)->CR ro σ w b (c++d) off:=by
   intro c
   induction c with
   |nil=>intro off d _ h;simpa using h
   |cons x c a=>intro off d ⟨h1,h2⟩ h;exact⟨h1,a (off+1) d h2 (by rw[Nat.add_assoc,Nat.add_comm 1];simpa using h)⟩
  exact this c off _ h2 (by rw[h1];exact q1)
theorem Qb5{b off k n c:Nat}{cs:List A}(h:CR ro σ w b cs off)(d:cs.length=n*k):
  ∃l,(∀w':World,w'.heap=w.heap->(Builtin.firstCells k n (.slice (some ⟨b,off,none⟩) n c)).run P w'=.ok l.toArray w')/\LR ro σ w cs l/\ ∀v∈l,Qm v:=by
 obtain⟨l,g,e,a⟩:=YC (P:=P) (cs:=cs) (off:=off) 0 (by simpa using h);refine⟨l,λw' f=>?_,g,e⟩;rw[d]at a;simp only[Builtin.firstCells,loadCells];simpa using a w' #[] f
theorem YM{k c:Nat}{a:Option Addr}:(Builtin.firstCells k 0 (.slice a 0 c)).run P w=.ok #[] w:=by
 cases a<;>simp[Builtin.firstCells,loadCells,loadCellsFrom,go_sem]
theorem Src.rsl{k:Nat}{es:List (List A)}:Src P H (.rsl k es) k es:=by
 intro j i σ w v s ⟨a,c,h1,h2,h3⟩;subst h1;refine⟨⟨a,c,rfl⟩,?_⟩;rcases h3 with rfl|⟨b,f,rfl,l,g⟩
 .exact⟨trivial,[],λ_ _=>YM,rfl,by simp⟩
 .obtain⟨h,d,e⟩:=g.flat;exact⟨d,Qb5 h e⟩
theorem Src.nils{k:Nat}:Src P H .nils k []:=by
 intro b a σ w v s h;simp only[VR]at h;subst h;exact⟨⟨none,0,rfl⟩,trivial,[],λ_ _=>YM,rfl,by simp⟩
theorem RR.drop{b k:Nat}:∀(n:Nat) {es:List (List A)} {off:Nat},RR ro σ w b k es off->RR ro σ w b k (es.drop n) (off+n*k)
 |0,_,_,h=>by simpa using h
 |n+1,[],_,_=>trivial
 |n+1,c::es,off,⟨h1,h2,h3⟩=>by
  have:=RR.drop n h3;rw[show off+(n+1)*k=off+k+n*k from by rw[Xm];omega];exact this
theorem RR.take{b k:Nat}:∀(n:Nat) {es:List (List A)} {off:Nat},RR ro σ w b k es off->RR ro σ w b k (es.take n) off
 |0,_,_,h=>trivial
 |n+1,[],_,_=>trivial
 |n+1,c::es,off,⟨h1,h2,h3⟩=>⟨h1,h2,RR.take n h3⟩
theorem Src.osl{i s n k t:Nat}{es es':List (List A)}(hH:H[i]?=some (.row t k es))(he:(es.drop s).take n=es')(y:s+n<=es.length):Src P H (.osl i s n k) k es':=by
 intro F B σ w v sm h;have d:es'.length=n:=by rw[<- he];simp;omega
 rcases h with⟨rfl,rfl⟩|⟨b,p,a,E,m,u,rfl,q,z,J,G⟩
 .have e:es'=[]:=VK.1 d;subst e;exact⟨⟨none,0,rfl⟩,trivial,[],λ_ _=>YM,rfl,by simp⟩
 .rw[d];refine⟨⟨_,a,rfl⟩,?_⟩;obtain⟨l,g,f⟩:=sm.blk i _ _ u hH;have j:=((YI (pre:=[]) (by simpa using g) f).drop s).take n;rw[he]at j;by_cases x:0<a
  .obtain rfl:=q x;obtain⟨g,f,r⟩:=j.flat;refine⟨f,?_⟩;have:=Qb5 (P:=P) (n:=n) (c:=a) g (by rw[r,d]);simpa using this
  .obtain rfl:n=0:=by omega
   have e:es'=[]:=VK.1 d;subst e;exact⟨trivial,[],λ_ _=>YM,rfl,by simp⟩
def Qq:Nat:=4294967296
theorem Qec(n c:Nat)(h:c<n):Builtin.nextslicecap n c<=4*n+1000:=by
 unfold Builtin.nextslicecap;split
 .omega
 .split
  .omega
  .have a:∀(r c:Nat),c<=2*n+400->Builtin.growBy n r c<=4*n+1000:=by
    intro r
    induction r with
    |zero=>intro c d;simp[Builtin.growBy];omega
    |succ r b=>
     intro c d;simp only[Builtin.growBy];split
     .omega
     .exact b _ (by omega)
   exact a 4 c (by omega)
structure QN (P:Program) (T e k:Nat):Prop where
 sl:∀w,(underlying T).run P w=.ok (.slice e) w
 size:∀w,(sizeOf e).run P w=.ok k w
 zero:∃z,(∀w,(zeroValue e).run P w=.ok z w)/\z.cells.size=k
 bytes:∃i,(∀w,(typeInfo e).run P w=.ok i w)/\i.bytes<=4096
theorem QiM{T k:Nat}{es:List (List A)}{l rest:List Value}(s:Sim fr ro σ H w)(hk:allK k es)(h:LR ro [] w es.flatten l)(hp:∀v∈l,Qm v):
  Sim fr ro (σ++[some w.heap.size]) (H++[.row T k es]) (w.alloc (.cells (l++rest).toArray T))/\Qe fr ro w ro (w.alloc (.cells (l++rest).toArray T)):=
 ⟨s.allocRow hk h hp,Qe.alloc _ s.roLt s.frLt⟩
theorem Yu{k:Nat}:∀{es:List (List A)},allK k es->es.flatten.length=es.length*k
 |[],_=>by simp
 |c::es,⟨h1,h2⟩=>by simp[Yu h2,h1,Xm,Nat.add_comm]
theorem Qd5{k:Nat}:∀{es fs:List (List A)},allK k es->allK k fs->allK k (es++fs)
 |[],_,_,h=>h
 |c::es,_,⟨h1,h2⟩,h=>⟨h1,Qd5 h2 h⟩
theorem Qgu{k:Nat}:∀{es:List (List A)} (n:Nat),allK k es->allK k (es.take n)
 |_,0,_=>trivial
 |[],n+1,_=>trivial
 |c::es,n+1,⟨h1,h2⟩=>⟨h1,Qgu n h2⟩
theorem RL.allK{k:Nat}:∀{es:List (List A)} {l:List Value},RL ro σ w k es l->allK k es
 |[],_,_=>trivial
 |c::es,l,⟨l1,l2,h1,h2,h3,h4⟩=>⟨h2,RL.allK h4⟩
theorem RL.app{k:Nat}:∀{n:Nat} {es fs:List (List A)} {l m:List Value},RL ro σ w k es l->n<=es.length->Sw.allK k fs->LR ro σ w fs.flatten m->(∀v∈m,Qm v)->
  RL ro σ w k (es.take n++fs) (Sw.splice l (n*k) m)
 |0,es,fs,l,m,h,hn,hk,hm,hp=>by
  simp only[List.take_zero,Vi,Nat.zero_mul];unfold Sw.splice;simp only[List.take_zero,Vi];exact Y0 hk hm hp
 |n+1,[],fs,l,m,h,hn,hk,hm,hp=>by simp at hn
 |n+1,c::es,fs,l,m,⟨l1,l2,h1,h2,h3,h4⟩,hn,hk,hm,hp=>by
  subst h1;have hl1:=h3.1.length;refine⟨l1,Sw.splice l2 (n*k) m,?_,h2,h3,RL.app h4 (by simpa using hn) hk hm hp⟩;have e1:(n+1)*k=l1.length+n*k:=by rw[Xm];omega
  unfold Sw.splice;rw[e1,Vc,show l1.length+n*k+m.length=l1.length+(n*k+m.length)from by omega,Vb];simp
theorem QhI{T T' e e' k need cap:Nat}{t:TypeId}(E:QN P T e k)(L:∀w,(underlying T').run P w=.ok (.slice e') w){ad:Option Addr}{n m c:Nat}{ax:Option Addr}
  (f:need=n+m)(g:cap<need)(a:need<=Qq){old new:List Value}
  (s:∀w':World,w'.heap=w.heap->(Builtin.firstCells k m (.slice ax m c)).run P w'=.ok new.toArray w')(y:∀w':World,w'.heap=w.heap->(Builtin.firstCells k n (.slice ad n cap)).run P w'=.ok old.toArray w'):
  ∃(rest:List Value) (b:Nat),need<=b/\rest.length=(b-need)*k/\(Builtin.append_ #[T,T'] t #[.slice ad n cap,.slice ax m c]).run P w=
   .ok (.slice (some ⟨w.heap.size,0,none⟩) need b) (({w with drawn:=w.drawn+1}:World).alloc (.cells ((old++new)++rest).toArray e)):=by
 obtain⟨z,N,p⟩:=E.zero;obtain⟨i,J,H⟩:=E.bytes
 let b:=need+w.tape w.drawn (.appendCap need cap e)%(2^63-need)
 refine⟨(Builtin.zeroCells z.cells (b-need)).toList,b,Nat.le_add_right _ _,by simp[Builtin.zeroCells,p],?_⟩;have d:¬(need<=cap):=by omega
 have u:¬((need:Int)>IntKind.i64.max/\(False\/i.bytes=0)):=by
  rintro⟨q,_⟩;have:IntKind.i64.max=9223372036854775807:=by decide
  rw[this]at q;unfold Qq at a;omega
 have G:¬(Builtin.nextslicecap need cap*i.bytes>2^48):=by
  have:=Qec need cap g;have r:Builtin.nextslicecap need cap*i.bytes<=(4*need+1000)*4096:=Nat.mul_le_mul this H;unfold Qq at a;omega
 generalize hF:Builtin.firstCells=F at s y;unfold Builtin.append_;rw[hF];have j:∀W:World,(choose (.appendCap need cap e)).run P W=.ok (need+W.tape W.drawn (.appendCap need cap e)%(2^63-need)) {W with drawn:=W.drawn+1}:=by
  intro W;simp[choose,Sem.run,Question.forced,Question.cut]
 have h:∀(x:Nat) (W:World),(askRoom x).run P W=.ok () W:=by
  intro x W;unfold askRoom;split<;>rfl
 have l:∀(c:Array Value) (W:World),(newRow e c).run P W=.ok ⟨W.heap.size,0,none⟩ (W.alloc (.cells c e)):=λc W=>rfl;subst f;simp only[not_and,false_or]at u;have r:¬(((n+m:Nat):Int)>IntKind.i64.max/\(False\/i.bytes=0)):=by simpa using u
 simp only[XH,XF,XG,Vn,E.sl,E.size,L,J,N,Result.andThen,Builtin.lenOf,Vp,Xj,if_false,XI,
  Xi,if_true,Vt d,Vt r,Vt G,j,h]
 have M:=y {w with drawn:=w.drawn+1} rfl;have O:=s {w with drawn:=w.drawn+1} rfl;simp only[M,O,l];have B:old.toArray++new.toArray++Builtin.zeroCells z.cells (b-(n+m))=((old++new)++(Builtin.zeroCells z.cells (b-(n+m))).toList).toArray:=by
  apply Array.toList_inj.1;simp
 rw[<- B]
theorem QcK{T T' e e' k cap:Nat}{t:TypeId}(E:QN P T e k)(f:∀w,(underlying T').run P w=.ok (.slice e') w){ad:Option Addr}{n m c:Nat}{ax:Option Addr}
  (b:n+m<=cap){new:List Value}(d:(Builtin.firstCells k m (.slice ax m c)).run P w=.ok new.toArray w):
  (Builtin.append_ #[T,T'] t #[.slice ad n cap,.slice ax m c]).run P w=
   match ad with
   |some a=>(do storeCells (a.add (n*k)) new;pure (Value.slice ad (n+m) cap):Sem Value).run P w
   |none=>.ok (.slice ad (n+m) cap) w:=by
 generalize hF:Builtin.firstCells=F at d;unfold Builtin.append_;rw[hF];simp only[XH,XF,XG,Vn,E.sl,E.size,f,Result.andThen,Builtin.lenOf,Vp,Xj,if_false,XI,
  Xi,if_true,Vu b,d]
 cases ad with
 |none=>rfl
 |some a=>simp only[Vn,Result.andThen,Vp]
theorem Sim.weaken(s:Sim fr ro σ H w){i:Nat}{x x':Blk}(hH:H[i]?=some x)(hl:x.live=true)(B:∀y,BR ro σ w x y->BR ro σ w x' y)
  (z:∀b c,Hid w x' b c->Hid w x b c:=by exact λ_ _ h=>h.elim):Sim fr ro σ (H.set i x') w:=by
 have R:i<H.length:=(XM.1 hH).1;have E:(H.set i x')[i]?=some x':=Xa R;have F:∀j,j≠i->(H.set i x')[j]?=H[j]? :=λj P=>XQ (λq=>P q.symm);have a:∀(j:Nat) (v:Blk),(H.set i x')[j]?=some v->(j=i/\v=x')\/(j≠i/\H[j]?=some v):=by
  intro j v h;by_cases e:j=i
  .subst e;rw[E]at h;cases h;exact .inl ⟨rfl,rfl⟩
  .rw[F j e]at h;exact .inr ⟨e,h⟩
 have l:∀(j:Nat) (v:Blk),(H.set i x')[j]?=some v->v.live=true->∃f,H[j]?=some f/\f.live=true:=by
  intro j v h Q;rcases a j v h with⟨rfl,rfl⟩|⟨_,h⟩
  .exact⟨x,hH,hl⟩
  .exact⟨v,h,Q⟩
 refine⟨by rw[X5];exact s.len,s.roOk,s.frLt,s.roFr,?_,?_,?_,s.hidTo (· = ·) QW (XU _) (λ_ _ _ _ _ _ _ q=>q) (λ_ _ _ _ _ _ _ q=>q) λj d y J M V=>.inl ?_⟩
 rotate_left 3
 .rcases a j y M with⟨rfl,rfl⟩|⟨_,h⟩
  .exact⟨j,x,rfl,J,hH,λ_=>hl,λc q=>z d c q⟩
  .exact⟨j,y,rfl,J,h,id,λ_ q=>q⟩
 .intro j b v g k r;obtain⟨f,n,t⟩:=l j v k r;exact s.own j b f g n t
 .intro j G b v f g k r N T O;obtain⟨u,n,t⟩:=l j v r T;obtain⟨L,p,m⟩:=l G f N O;exact s.inj j G b u L g k n p t m
 .intro j y v g k;rcases a j v k with⟨rfl,rfl⟩|⟨_,h⟩
  .exact B y (s.blk j y x g hH)
  .exact s.blk j y v g h
theorem RL.take{k:Nat}:∀(n:Nat) {es:List (List A)} {l:List Value},RL ro σ w k es l->RL ro σ w k (es.take n) l
 |0,_,_,_=>trivial
 |n+1,[],_,_=>trivial
 |n+1,c::es,l,⟨l1,l2,h1,h2,h3,h4⟩=>⟨l1,l2,h1,h2,h3,RL.take n h4⟩
theorem YW{c:Call}{T T':TypeId}{x y:Operand}(a:o.op=.call c)(b:c={callee:=.builtin .append,args:= #[x,y],argTypes:= #[T,T']})(ρ:Operand->Value){v:Value}{w':World}
  (h:(Builtin.append_ #[T,T'] o.type #[ρ x,ρ y]).run P w=.ok v w'):(execOp ρ o).run P w=.ok (.value v) w':=by
 subst b;simp only[execOp,a,resolve,invoke,Go.builtin,Vn,Vp,Result.andThen];simp only[XJ,Vk,Vl,h]
theorem Sim.phantom(s:Sim fr ro σ H w)(t k:Nat):Sim fr ro (σ++[none]) (H++[.row t k []]) w:=by
 have g:=s.len;have f:∀(i b:Nat),(σ++[none])[i]?=some (some b)->i<σ.length:=by
  intro i b a;rcases VD i σ.length with q|q
  .exact q
  .rw[XO q]at a;cases m:i-σ.length with
   |zero=>rw[m]at a;simp at a
   |succ j=>rw[m]at a;simp at a
 refine⟨by simp[g],s.roOk,s.frLt,s.roFr,?_,?_,?_,s.hidTo (· = ·) QW (XU _) (λ_ _ _ _ _ _ _ q=>q) (λ_ _ _ _ _ _ _ q=>q) λj d y a e l=>.inl ?_⟩
 rotate_left 3
 .have q:=f j d a;rw[XN q]at a;rw[XN (by omega)]at e;exact⟨j,y,rfl,a,e,id,λ_ q=>q⟩
 .intro i b z a e l;have q:=f i b a;rw[XN q]at a;rw[XN (by omega)]at e;exact s.own i b z a e l
 .intro i j b z p a e l n E u;have r:=f i b a;have x:=f j b e;rw[XN r]at a;rw[XN x]at e;rw[XN (by omega)]at l n;exact s.inj i j b z p a e l n E u
 .intro i y z a e;have ext:Ext ro σ w ro (σ++[none]) w:=⟨λ_ q=>q,λ_ _=>rfl,λ_ _ q=>q,λ_ _ h=>YH h⟩;rcases Nat.lt_trichotomy i σ.length with q|q|q
  .rw[XN q]at a;rw[XN (by omega)]at e;exact(s.blk i y z a e).keep ext (λ_ _ _=>rfl) (λ_ _ _ _=>rfl)
  .subst q;have F:(σ++[none])[σ.length]?=some none:=by simp
   have B:(H++[Blk.row t k []])[σ.length]?=some (.row t k []):=by rw[g];simp
   rw[F]at a;rw[B]at e;cases a;cases e;rfl
  .rw[XP (by simp;omega)]at a;simp at a
theorem Sim.kill(s:Sim fr ro σ H w)(i:Nat):Sim fr ro σ (H.set i .dead) w:=by
 have a:∀(j:Nat) (v:Blk),(H.set i .dead)[j]?=some v->v≠ .dead->H[j]?=some v:=by
  intro j v h l;by_cases e:j=i
  .subst e;rw[Xb]at h;simp only[if_true]at h;split at h
   .cases h;exact absurd rfl l
   .simp at h
  .rw[XQ (λq=>e q.symm)]at h;exact h
 refine⟨by rw[X5];exact s.len,s.roOk,s.frLt,s.roFr,?_,?_,?_,s.hidTo (· = ·) QW (XU _) (λ_ _ _ _ _ _ _ q=>q) (λ_ _ _ _ _ _ _ q=>q) λj d y u x t=>.inl ⟨j,y,rfl,u,a j y x (Qev t),id,λ_ q=>q⟩⟩
 .intro j b v g f k;exact s.own j b v g (a j v f (Qay k)) k
 .intro j p b v n g f k z r m;exact s.inj j p b v n g f (a j v k (Qay r)) (a p n z (Qay m)) r m
 .intro j y v g f;by_cases l:v≠ .dead
  .exact s.blk j y v g (a j v f l)
  .obtain rfl:v=.dead:=Classical.not_not.1 l;trivial
theorem grown{c:Call}{T T' e e' k n m cap cx:Nat}{x y:Operand}{es fs:List (List A)}{a:Act}{ad ax:Option Addr}{old new:List Value}(E:QN P T e k)(R:∀w,(underlying T').run P w=.ok (.slice e') w)(Y:o.op=.call c)
  (V:c={callee:=.builtin .append,args:= #[x,y],argTypes:= #[T,T']})(h1:a.eval x=.slice ad n cap)(O:a.eval y=.slice ax m cx)(s:Sim fr ro σ H w)(i:cap<n+m)(f:n+m<=Qq)
  (h:∀w':World,w'.heap=w.heap->(Builtin.firstCells k n (.slice ad n cap)).run P w'=.ok old.toArray w')(l:∀w':World,w'.heap=w.heap->(Builtin.firstCells k m (.slice ax m cx)).run P w'=.ok new.toArray w')
  (j:LR ro [] w es.flatten old)(G:∀v∈old,Qm v)(d:allK k es)(g:LR ro [] w fs.flatten new)(u:∀v∈new,Qm v)(p:allK k fs)(z:es.length=n)(B:fs.length=m):
  ∃v w' ro' τ,(execOp a.eval o).run P w=.ok (.value v) w'/\VR ro' (σ++τ) w' (.osl H.length 0 (n+m) k) v/\Sim fr ro' (σ++τ) (H++[.row e k (es++fs)]) w'/\Qe fr ro w ro' w':=by
 obtain⟨rest,nc,J,L,r⟩:=QhI (t:=o.type) E R rfl i f l h
 let w0:World:={w with drawn:=w.drawn+1}
 have s0:Sim fr ro σ H w0:=s.heap rfl;have X:Qe fr ro w ro w0:=Qe.heap rfl rfl rfl rfl (Nat.le_succ _);have F:LR ro [] w0 (es++fs).flatten (old++new):=by
  rw[List.flatten_append];exact(j.append g).mono (Ext.heap (w:=w) (w':=w0) rfl)
 obtain⟨s1,W⟩:=QiM (T:=e) (rest:=rest) s0 (Qd5 d p) F (λv Q=>by rcases VE.1 Q with q|q;exact G v q;exact u v q);have b:(execOp a.eval o).run P w=.ok (.value _) _:=YW Y V a.eval (by rw[h1,O];exact r);refine⟨_,_,ro,[some w.heap.size],b,.inr ⟨w.heap.size,0,nc,e,(old++new++rest).length,?_,rfl,λ_=>by simp,J,?_,?_⟩,s1,X.trans W⟩
 .rw[<- s.len];simp
 .have:=Q9 w0 (.cells ((old++new)++rest).toArray e);unfold World.shape?;rw[show w.heap.size=w0.heap.size from rfl,this];simp
 .have N:=j.length;have M:=g.length;rw[Yu d]at N;rw[Yu p]at M;simp only[X4,L,N,M,z,B,Xw];rw[<- XA, <- XA];exact XC k (by omega)
theorem QfM{c:Call}{T T' e e' k:Nat}{x y:Operand}{ya:A}{fs:List (List A)}(E:QN P T e k)(j:∀w,(underlying T').run P w=.ok (.slice e') w)(s:o.op=.call c)
  (p:c={callee:=.builtin .append,args:= #[x,y],argTypes:= #[T,T']})(G:opA env x=.nils)(L:opA env y=ya)(Q:Src P H ya k fs)(i:fs.length<=Qq):
  OpH P o env H (.osl H.length 0 fs.length k) (H++[.row e k fs]):=by
 intro O q σ N a w r;have b:=Qd r x;rw[G]at b;simp only[VR]at b;have h:=Qd r y;rw[L]at h;obtain⟨⟨z,M,g⟩,B,l,d,J,u⟩:=Q O q σ w _ r.sim h;rw[g]at d;by_cases F:fs.length=0
 .have f:fs=[]:=VK.1 F;subst f;refine⟨.slice none 0 0,w,q,[none],?_,.inl ⟨rfl,rfl⟩,r.sim.phantom e k,Qe.refl _ _ _⟩;refine YW s p _ ?_;rw[b,g];have:=QcK (t:=o.type) E j (ad:=none) (n:=0) (m:=0) (cap:=0) (c:=M) (ax:=z) (XU 0) (d w rfl);simpa using this
 .have:=grown (es:=[]) (old:=[]) E j s p b g r.sim (by omega) (by omega) (λ_ _=>YM) d rfl (by simp) trivial J u B rfl rfl;simpa using this
theorem QiI{c:Call}{T T' e e' k i n:Nat}{x y:Operand}{ya:A}{es fs gs:List (List A)}(E:QN P T e k)(hd:∀w,(underlying T').run P w=.ok (.slice e') w)(Y:o.op=.call c)
  (O:c={callee:=.builtin .append,args:= #[x,y],argTypes:= #[T,T']})(hx:opA env x=.osl i 0 n k)(hH:H[i]?=some (.row e k es))(hn:n<=es.length)(q:opA env y=ya)(hs:Src P H ya k fs)(h:n+fs.length<=Qq)
  (hg:es.take n++fs=gs):OpH P o env H (.osl H.length 0 (n+fs.length) k) (H.set i .dead++[.row e k gs]):=by
 intro fr G σ N a w r;subst hg;have g:=Qd r x;rw[hx]at g;have h2:=Qd r y;rw[q]at h2;obtain⟨⟨ay,cy,J⟩,q2,l,L,q4,q5⟩:=hs fr G σ w _ r.sim h2;rw[J]at L;have F:i<H.length:=(XM.1 hH).1;have M:(H.set i .dead).length=H.length:=X5;obtain⟨s,hσ⟩:∃s,σ[i]?=some s:=⟨_,XL (by rw[r.sim.len];exact F)⟩;rcases g with⟨rfl,g⟩|⟨b,p,cap,t',mm,W,g,h4,h5,Q,h7⟩
 ·
  by_cases hm:fs.length=0
  .have B:fs=[]:=VK.1 hm;subst B;refine⟨.slice none 0 0,w,G,[none],?_,.inl ⟨rfl,rfl⟩,(r.sim.kill i).phantom e k,Qe.refl _ _ _⟩;refine YW Y O _ ?_;rw[g,J];have:=QcK (t:=o.type) E hd (ad:=none) (n:=0) (m:=0) (cap:=0) (c:=cy) (ax:=ay) (XU 0) (L w rfl);simpa using this
  .have:=grown (es:=[]) (old:=[]) E hd Y O g J (r.sim.kill i) (by omega) h (λ_ _=>YM) L rfl (by simp) trivial q4 q5 q2 rfl rfl;rw[M]at this;simpa using this
 .have aa:=r.sim.blk i _ _ W hH;obtain⟨R,g1,g2⟩:=aa;have X:(es.take n).length=n:=by simp;omega
  obtain⟨old,o1,o2,o3⟩:∃old:List Value,(∀w':World,w'.heap=w.heap->(Builtin.firstCells k n (.slice (some ⟨b,p,none⟩) n cap)).run P w'=.ok old.toArray w')/\LR G [] w (es.take n).flatten old/\ ∀v∈old,Qm v:=by
   have V:Src P H (.osl i 0 n k) k (es.take n):=Src.osl hH (by simp) (by omega);obtain⟨_,_,l',z1,z2,z3⟩:=V fr G σ w (.slice (some ⟨b,p,none⟩) n cap) r.sim (.inr ⟨b,p,cap,t',mm,W,rfl,h4,h5,Q,h7⟩);rw[X]at z1;exact⟨l',z1,z2,z3⟩
  by_cases f:n+fs.length<=cap
  .have j:=QcK (t:=o.type) E hd (ad:=some ⟨b,p,none⟩) (n:=n) (m:=fs.length) (cap:=cap) (c:=cy) (ax:=ay) f (L w rfl);have z:l.length=fs.length*k:=by rw[q4.length,Yu q2]
   by_cases hm:fs.length=0
   .have B:fs=[]:=VK.1 hm;subst B;have el:l=[]:=VK.1 (by rw[z];simp);subst el;have sw:=(r.sim.weaken (x':=.row e k (es.take n)) hH rfl (by
     intro y q;cases y with
     |none=>simp only[BR]at q⊢;subst q;simp
     |some y=>obtain⟨R,g1,g2⟩:=q;exact⟨R,g1,g2.take n⟩))
    have sm:=sw.moved (i:=i) (Xa F) W;rw[List.set_set]at sm;refine⟨.slice (some ⟨b,p,none⟩) n cap,w,G,[some b],?_,.inr ⟨b,p,cap,t',mm,?_,by simp,h4,by simpa using h5,Q,h7⟩,by simpa using sm,Qe.refl _ _ _⟩
    .refine YW Y O _ ?_;rw[g,J];simpa[storeCells,go_sem]using j
    .rw[<- r.sim.len];simp
   .obtain rfl:p=0*k:=h4 (by omega);have u:(n+fs.length)*k<=R.length:=by
     have:w.shape? b=some (e,R.length):=by unfold World.shape?;rw[g1];simp
     rw[this]at Q;cases Q;exact XW (XC k f) (by simpa using h7)
    rw[XA]at u;have ab:=Yg (P:=P) (vs:=l) (n*k) 0 g1 (by rw[z];simpa using u) q5;have d:=r.sim.set (x':=.row e k (es.take n++fs)) (obj:=.cells (splice R (n*k) l).toArray e (0,0)) W hH rfl
     (λy q=>QaJ g1 (Yd (by rw[z];exact u)) y q)
     (λex ac=>⟨_,ac,(g2.app hn q2 q4 q5).mono ex.nil⟩)
    have sm:=d.1.moved (i:=i) (Xa F) W;rw[List.set_set]at sm;refine⟨.slice (some ⟨b,0*k,none⟩) (n+fs.length) cap,_,G,[some b],?_,.inr ⟨b,0*k,cap,t',mm,?_,rfl,h4,f,?_,h7⟩,sm,d.2⟩
    .refine YW Y O _ ?_;rw[g,J,j];simp only[Ja,Nat.zero_mul,Xw,Vn,ab,Result.andThen,Vp];simp
    .rw[<- r.sim.len];simp
    .exact d.2.shape _ _ Q
  .have:=grown (es:=es.take n) (old:=old) (fs:=fs) E hd Y O g J (r.sim.kill i) (by omega) h o1 L o2 o3 (Qgu n g2.allK) q4 q5 q2 X rfl;rw[M]at this;exact this
end
end Go.Sw
namespace Go.Sw
section
variable {P:Program} {o:Oper} {env:Env} {H:Qc}
theorem OpC.fn{c:Call}{f:FuncId}{xs:List Operand}{d:Array TypeId}{args:List A}(b:∀(a:Array Value) (w:World),(callFunc f a).run P w=.ok (.enter f a) w)(h:o.op=.call c)
  (i:c={callee:=.value (.func f),args:=xs.toArray,argTypes:=d})(g:xs.map (opA env)=args):OpC P o env H f args:=by
 intro k j σ N a w r;refine⟨xs.map a.eval,?_,g▸Qbi r xs⟩;subst i;have e:a.eval (.func f)=.func (.func f) #[] #[]:=rfl;generalize a.eval=ρ at*;simp only[execOp,h,resolve,e,Deferred.ofValue,invoke,Vn,Vp,Result.andThen,b];simp
theorem Qce{c:Call}{f:FuncId}{x:Operand}{xs:List Operand}{i:Array TypeId}{args vf vc:List A}(b:∀(a:Array Value) (w:World),(callFunc f a).run P w=.ok (.enter f a) w)(k:o.op=.call c)
  (m:c={callee:=.value x,args:=xs.toArray,argTypes:=i})(h:opA env x=.fn (.func f) vf vc)(j:vf++(xs.map (opA env)++vc)=args):OpC P o env H f args:=by
 intro q p σ N a w r;have d:=Qd r x;rw[h]at d;obtain⟨l,n,d,e,g⟩:=d;refine⟨l++(xs.map a.eval++n),?_,j▸e.append ((Qbi r xs).append g)⟩;subst m;generalize a.eval=ρ at*;simp only[execOp,k,resolve,d,Deferred.ofValue,invoke,Vn,Vp,Result.andThen,b];simp
def Qd9(ρ:Nat->Nat)(env:Env):Env->Prop
 |[]=>True
 |(s,a)::r=>lk env s=Yx ρ a/\Qd9 ρ env r
theorem Qd9.ok{ro:Nat->Prop}{σ σ':Sig}{w:World}{ρ:Nat->Nat}(h:∀i:Nat,σ[ρ i]?=σ'[i]?){t:Array Value}(r:∀s,VR ro σ w (lk env s) (t.getD s undef)):
  ∀{env':Env},Qd9 ρ env env'->∀s,VR ro σ' w (lk env' s) (t.getD s undef)
 |[],_,s=>trivial
 |(d,a)::e,⟨h1,h2⟩,s=>by
  simp only[lk];by_cases q:s=d
  .subst q;rw[VG];have:=r s;rw[h1]at this;exact(QdE h).1 this
  .have:Nat.beq s d=false:=by
    rw[VN];intro b;exact q (XR b)
   rw[this];exact Qd9.ok h r h2 s
theorem Sim.sub{fr ro:Nat->Prop}{σ:Sig}{w:World}{π:List Nat}{H':Qc}(s:Sim fr ro σ H w)(hH:π.map (λp=>H[p]?)=(H'.map (QV (rho π H.length))).map some)(hπ:π.Nodup):
  Sim fr ro (Yb σ π) H' w/\ ∀j:Nat,σ[rho π H.length j]?=(Yb σ π)[j]? :=by
 have O:∀p∈π,p<H.length:=λp q=>Jc hH q;have hσl:=s.len;have k:∀(j p:Nat),π[j]?=some p->H[p]?=(H'[j]?).map (QV (rho π H.length)):=by
  intro j p a;have:=congrArg (λl=>l[j]?) hH;simp only[Xq,a,Xk]at this;cases e:H'[j]? with
  |none=>rw[e]at this;simp at this
  |some x=>rw[e]at this;simpa using this
 have t:π.length=H'.length:=by simpa using congrArg List.length hH
 have hσc:∀j:Nat,σ[rho π H.length j]?=(Yb σ π)[j]? :=by
  intro j;have:=Qej (τ:=[]) hσl O j;simpa using this
 have hπj:∀(j b:Nat),(Yb σ π)[j]?=some (some b)->∃p,π[j]?=some p/\σ[p]?=some (some b):=by
  intro j b a;simp only[Yb,Xq]at a;cases e:π[j]? with
  |none=>rw[e]at a;simp at a
  |some p=>
   rw[e]at a;simp at a;refine⟨p,rfl,?_⟩;cases m:σ[p]? with
   |none=>rw[m]at a;simp at a
   |some s=>rw[m]at a;simp at a;rw[a]
 have hπi:∀(i j p:Nat),π[i]?=some p->π[j]?=some p->i=j:=by
  intro i j p g f;have r:i<π.length:=(XM.1 g).1;have a:j<π.length:=(XM.1 f).1;rw[XL r]at g;rw[XL a]at f;have h:=(X0 g).trans (X0 f).symm;rcases Nat.lt_trichotomy i j with q|q|q
  .exact(VF.1 hπ i j r a q h).elim
  .exact q
  .exact(VF.1 hπ j i a r q h.symm).elim
 refine⟨⟨by simp[Yb,t],s.roOk,s.frLt,s.roFr,?_,?_,?_,s.hidTo (λj p=>π[j]?=some p) hπi (XU _) (λ_ _ _ _ _ _ _ q=>q) (λ_ _ _ _ _ _ _ q=>q) λj d y P L Q=>.inl ?_⟩,hσc⟩
 rotate_left 3
 .obtain⟨p,g,m⟩:=hπj j d P;exact⟨p,QV (rho π H.length) y,g,m,by rw[k j p g,L];rfl,by rw[QG];exact id,λc q=>(Qaq _ _ _ _ _).2 q⟩
 .intro j b x n z E;obtain⟨p,g,m⟩:=hπj j b n;have u:H[p]?=some (QV (rho π H.length) x):=by rw[k j p g,z];rfl
  exact s.own p b _ m u (by rw[QG];exact E)
 .intro i j b x y n z E M J N;obtain⟨p,g,m⟩:=hπj i b n;obtain⟨B,f,F⟩:=hπj j b z;have u:H[p]?=some (QV (rho π H.length) x):=by rw[k i p g,E];rfl
  have G:H[B]?=some (QV (rho π H.length) y):=by rw[k j B f,M];rfl
  have:=s.inj p B b _ _ m F u G (by rw[QG];exact J) (by rw[QG];exact N);subst this;have r:i<π.length:=(XM.1 g).1;have a:j<π.length:=(XM.1 f).1;rw[XL r]at g;rw[XL a]at f;have h:=(X0 g).trans (X0 f).symm;rcases Nat.lt_trichotomy i j with q|q|q
  .exact(VF.1 hπ i j r a q h).elim
  .exact q
  .exact(VF.1 hπ j i a r q h.symm).elim
 .intro j y x n z;have a:j<π.length:=by
   rcases VD j π.length with q|q
   .exact q
   .rw[XP (by simpa[Yb]using q)]at n;simp at n
  have g:π[j]?=some π[j]:=XL a;have u:H[π[j]]?=some (QV (rho π H.length) x):=by rw[k j _ g,z];rfl
  have m:σ[π[j]]?=some y:=by
   have:=hσc j;rw[n]at this;simpa[rho,g]using this
  exact(Qhv hσc).1 (s.blk _ y _ m u)
theorem Qnk{h0:Nat}{env':Env}{H':Qc}(π:List Nat)(b:π.take h0=List.range h0)(hH:π.map (λp=>H[p]?)=(H'.map (QV (rho π H.length))).map some)(hπ:π.Nodup)
  (hE:Qd9 (rho π H.length) env env'):Le h0 env H env' H':=by
 intro k f σ N a w r;obtain⟨h,hσ⟩:=r.sim.sub hH hπ;refine⟨f,Yb σ π,⟨h,Qd9.ok hσ r.env hE,r.size,r.defers⟩,λ_ q=>q,?_⟩;have e:=r.sim.len;have j:∀p∈π,p<H.length:=λp q=>Jc hH q;unfold Yb;rw[<- List.map_take,b];apply List.ext_getElem?;intro i;rcases VD i h0 with q|q
 .have g:i∈π:=List.mem_of_mem_take (i:=h0) (by rw[b];exact List.mem_range.2 q);have d:i<σ.length:=by rw[e];exact j i g
  rw[Xq,List.getElem?_take,Vu q,List.getElem?_range q];simp[XL d]
 .rw[XP (by simpa using q),List.getElem?_take,Vt (by omega)]
theorem Le.phantom{h0 s k t:Nat}(f:h0<=H.length)(g:lk env s=.nils):Le h0 env H (up env s (.osl H.length 0 0 k)) (H++[.row t k []]):=by
 intro i d σ N a w r;refine⟨d,σ++[none],⟨r.sim.phantom t k,?_,r.size,r.defers⟩,λ_ q=>q,Qs (by rw[r.sim.len];exact f)⟩;have ext:Ext d σ w d (σ++[none]) w:=⟨λ_ q=>q,λ_ _=>rfl,λ_ _ q=>q,λ_ _ h=>YH h⟩;intro b;simp only[lk];by_cases q:b=s
 .subst q;rw[VG];have:=r.env b;rw[g]at this;exact .inl ⟨rfl,this⟩
 .have:Nat.beq b s=false:=by
   rw[VN];intro e;exact q (XR e)
  rw[this];exact(r.env b).mono ext
mutual
def Yl:A->Bool
 |.bool _=>true
 |.int _ _=>true
 |.str _=>true
 |.tup vs=>Qek vs
 |_=>false
def Qek:List A->Bool
 |[]=>true
 |a::r=>Yl a&&Qek r
end
mutual
theorem VR.scalar{ro ro':Nat->Prop}{σ σ':Sig}{w w':World}:∀{a:A} {v:Value},Yl a=true->VR ro σ w a v->VR ro' σ' w' a v
 |.bool _,_,_,h=>h
 |.int _ _,_,_,h=>h
 |.str _,_,_,h=>h
 |.tup vs,v,hs,h=>by
  simp only[VR,Yl]at h hs⊢;obtain⟨l,h1,h2⟩:=h;exact⟨l,h1,LR.scalar hs h2⟩
 |.any,_,hs,_=>by simp[Yl]at hs
 |.nilp,_,hs,_=>by simp[Yl]at hs
 |.ptr _ _,_,hs,_=>by simp[Yl]at hs
 |.rp _,_,hs,_=>by simp[Yl]at hs
 |.nils,_,hs,_=>by simp[Yl]at hs
 |.rsl _ _,_,hs,_=>by simp[Yl]at hs
 |.osl _ _ _ _,_,hs,_=>by simp[Yl]at hs
 |.agg _,_,hs,_=>by simp[Yl]at hs
 |.fn _ _ _,_,hs,_=>by simp[Yl]at hs
 |.nilf,_,hs,_=>by simp[Yl]at hs
 |.iface _ _,_,hs,_=>by simp[Yl]at hs
 |.nilif,_,hs,_=>by simp[Yl]at hs
 |.map _,_,hs,_=>by simp[Yl]at hs
 |.nilm,_,hs,_=>by simp[Yl]at hs
theorem LR.scalar{ro ro':Nat->Prop}{σ σ':Sig}{w w':World}:∀{az:List A} {l:List Value},Qek az=true->LR ro σ w az l->LR ro' σ' w' az l
 |[],_,_,h=>h
 |a::r,l,hs,h=>by
  simp only[LR,Qek,XX]at h hs⊢;obtain⟨v,l',h1,h2,h3⟩:=h;exact⟨v,l',h1,VR.scalar hs.1 h2,LR.scalar hs.2 h3⟩
end
def Look(H:Qc):A->A->Prop:=λa a'=>(a'=a/\Ym a=true)\/ ∃i n k t es,a=.osl i 0 n k/\H[i]?=some (.row t k es)/\es.length=n/\a'=.rsl k es
def Qbk(H:Qc):List A->List A->Prop
 |[],[]=>True
 |a::az,b::bs=>Look H a b/\Qbk H az bs
 |_,_=>False
theorem Qm3{h0 N:Nat}{Q:Qx}{all:Array Oper}{l:List Oper}{d:Nat}{f:FuncId}{args B:List A}{Qr:A->Qc->Prop}(aa:OpC P o env H f args)(hv:Qbk H args B)(hC:C P f B [] Qr)
  (ab:∀r H1,Qr r H1->Yl r=true)(k:∀r H1,Qr r H1->WO P h0 N all l (up env d r) H Q)(hg:Qn all o env true:=by exact rfl)(hd:o.dst=some d:=by exact rfl)(hN:Nat.blt d N=true:=by exact rfl):WO P h0 N all (o::l) env H Q:=by
 intro rd fr ro σ a w r hrd;obtain⟨V,h1,h2⟩:=aa fr ro σ N a w r;refine Qdg (YA hg r) h1 ?_
 let roc:Nat->Prop:=λb=>ro b\/ ∃(i:Nat) (x:Blk),σ[i]?=some (some b)/\H[i]?=some x/\x.live=true
 let frc:Nat->Prop:=λb=>fr b\/ ∃(i:Nat) (x:Blk) (d:Nat),σ[i]?=some (some d)/\H[i]?=some x/\Hid w x d b
 have X:Sim frc roc [] [] w:=by
  refine⟨rfl,r.sim.roOk.to (λ_ q=>.inl q) (λ_ _=>rfl) ?_,?_,?_,by simp,by simp,by simp,by simp⟩
  .rintro b (q|⟨i,x,g,u,E⟩)
   .exact r.sim.roLt b q
   .exact(r.sim.own i b x g u E).1
  .rintro b (q|⟨i,x,d,g,u,E⟩)
   .exact r.sim.frLt b q
   .exact(r.sim.hid i d x b g u E).lt
  .rintro b (q|⟨i,x,g,u,E⟩) (q'|⟨i',x',d',O,M,W⟩)
   .exact r.sim.roFr b q q'
   .exact(r.sim.hid i' d' x' b O M W).ro q
   .exact(r.sim.own i b x g u E).2.2 q'
   .exact(r.sim.hid i' d' x' b O M W).ne i b x g u E rfl
 have L:∀(az G:List A) (l:List Value),Qbk H az G->LR ro σ w az l->LR roc [] w G l:=by
  intro az
  induction az with
  |nil=>
   intro G l F h;cases G with
   |nil=>exact h
   |cons b G=>exact F.elim
  |cons x az ih=>
   intro G l F h;cases G with
   |nil=>exact F.elim
   |cons y G=>
    obtain⟨hx,F⟩:=F;obtain⟨v,l',rfl,hv,h⟩:=h;refine⟨v,l',rfl,?_,ih G l' F h⟩;rcases hx with⟨rfl,hx⟩|⟨i,n,k,t,es,rfl,hH,hn,rfl⟩
    .exact(hv.data (σ':=[]) hx).mono ⟨λ_ q=>.inl q,λ_ _=>rfl,λ_ _ q=>q,λ_ _ q=>q⟩
    .subst hn;rcases hv with⟨h0,h⟩|⟨b,p,R,t',m,h1,h,h2,h3,h4,h5⟩
     .have:es=[]:=VK.1 h0;subst this;exact⟨none,0,h,XU _,.inl rfl⟩
     .refine⟨_,R,h,h3,?_⟩;by_cases he:es=[]
      .exact .inl he
      .right;have hc:0<R:=Vg (List.length_pos_iff.2 he) h3;obtain rfl:=h2 hc;obtain⟨l,g,u⟩:=r.sim.blk i _ _ h1 hH;refine⟨b,0,by simp,.inr ⟨i,_,h1,hH,rfl⟩,?_⟩;have:=YI (pre:=[]) (by simpa using g) u;exact this.keep ⟨λ_ q=>.inl q,λ_ _=>rfl,λ_ _ q=>q,λ_ _ q=>q⟩ rfl
 refine Calls.mono (hC frc roc [] V w X (L _ _ _ hv h2)) ?_;rintro e Y ⟨v,rr,H1,af,τ,rfl,hq,sc,ac,ev⟩;have J:∀(i b:Nat) (x:Blk),σ[i]?=some (some b)->H[i]?=some x->x.live=true->Y.heap[b]?=w.heap[b]? :=λi b x g u E=>ev.keepRo b (.inr ⟨i,x,g,u,E⟩);have z:Qe fr ro w ro Y:=⟨λ_ q=>q,λb q=>ev.keepRo b (.inl q),λb q=>ev.keepFr b (.inl q),ev.size,ev.shape,ev.os,ev.tape,ev.output,ev.drawn⟩;have T:Sim fr ro σ H Y:=by
  refine⟨r.sim.len,r.sim.roOk.to (λ_ q=>q) z.keepRo (λb q=>Vg (r.sim.roLt b q) ev.size),λb q=>Vg (r.sim.frLt b q) ev.size,r.sim.roFr,?_,r.sim.inj,?_,r.sim.hidTo (· = ·) QW ev.size (λ_ _ _ _ _ _ _ q=>q) (λ_ _ _ _ _ _ _ q=>q) λj d y g1 g2 g3=>.inl ⟨j,y,rfl,g1,g2,id,λc q=>r.sim.hidKeep g1 g2 (J j d y g1 g2) z.keepRo q⟩⟩
  .intro i b x g u E;obtain⟨p1,p2,p3⟩:=r.sim.own i b x g u E;exact⟨Vg p1 ev.size,p2,p3⟩
  .intro i y x g u;refine(r.sim.blk i y x g u).keep (z.ext0 σ) ?_ ?_
   .rintro b rfl F;exact J i b x g u F
   .rintro b c rfl F;exact ev.keepFr c (.inr ⟨i,x,b,g,u,F⟩)
 have hk:=k rr H1 hq;have ae:d<N:=by simpa using hN
 simp only[hd,Act.put];have r':Rel fr ro σ H (up env d rr) N {a with tmps:=a.tmps.setIfInBounds d v} Y:=
  ⟨T,VR.up (fr:=fr) (λs=>(r.env s).mono (z.ext0 σ)) (by rw[r.size];exact ae) (ac.scalar (ab _ _ hq)),by simpa using r.size,r.defers.keep z⟩
 exact⟨_,rfl,Ye (λe a w q=>q.step z rfl) _ _ _ (hk rd fr ro σ _ Y r' (hrd.to z λ_ q=>q))⟩
end
end Go.Sw
namespace Go.Sw
section
variable {P:Program} {o:Oper} {env:Env} {H:Qc}
theorem Qf6{α:Type}:∀(vs:List α) (off i:Nat) (l:List α),off+i+vs.length<=l.length->
  (vs.zipIdx i).foldl (λ(cs:Array α) (x:α×Nat)=>cs.setIfInBounds (off+x.2) x.1) l.toArray=(splice l (off+i) vs).toArray
 |[],off,i,l,h=>by simp[splice]
 |v::vs,off,i,l,h=>by
  simp only[X2]at h;rw[List.zipIdx_cons,XE];have e1:l.toArray.setIfInBounds (off+i) v=(splice l (off+i) [v]).toArray:=by
   have:l.toArray.setIfInBounds (off+i) v=(l.set (off+i) v).toArray:=by simp
   rw[this];congr 1;rw[List.set_eq_take_append_cons_drop,Vu (by omega)];simp[splice]
  rw[e1,Qf6 vs off (i+1) _ (by rw[Yd (by simp;omega)];omega)];congr 1;have a:(l.take (off+i)).length=off+i:=by simp;omega
  unfold splice;rw[Vj (l.take (off+i))];have b:off+(i+1)=(l.take (off+i)).length+1:=by omega
  have e:(l.take (off+i)++([v]++l.drop (off+i+[v].length))).take ((l.take (off+i)).length+1)=l.take (off+i)++[v]:=by
   rw[Vc];simp
  have d:(l.take (off+i)++([v]++l.drop (off+i+[v].length))).drop ((l.take (off+i)).length+1+vs.length)=l.drop (off+i+(v::vs).length):=by
   rw[show(l.take (off+i)).length+1+vs.length=(l.take (off+i)).length+(1+vs.length)from by omega,Vb];simp[Nat.add_comm 1];congr 1;omega
  rw[b,e,d];simp
theorem Qgb{a:Nat->Option (Nat×Nat)}{l:List Value}{i off size:Nat}{v:Value}{m:List Value}{rest:List (Nat×Value)}(e:a i=some (off,size))(d:v.cells=m.toArray)(f:m.length=size)
  (hl:off+size<=l.length):Instr.fill a l.toArray ((i,v)::rest)=Instr.fill a (splice l off m).toArray rest:=by
 have b:v.cells.size=size:=by rw[d];simpa using f
 rw[Instr.fill];simp only[e];rw[Vt (by simp[b];omega),d];congr 1;have:=Qf6 m off 0 l (by omega);rw[Xx]at this;rw[<- this];simp[Array.foldl_toList]
def Qak:Nat->List Operand->List (Nat×Operand)
 |_,[]=>[]
 |i,x::xs=>(i,x)::Qak (i+1) xs
def QB(env:Env)(xs:List Operand):List (List A):=xs.map λx=>Yi (opA env x)
theorem Qe4{fr ro:Nat->Prop}{σ:Sig}{N:Nat}{a:Act}{w:World}(r:Rel fr ro σ H env N a w){k:Nat}:∀(xs:List Operand) (j:Nat) (pre rest:List Value),pre.length=j*k->rest.length=xs.length*k->
  (xs.all λx=>Q8 (opA env x))=true->allK k (QB env xs)->
  ∃l,Instr.fill (λi=>some (i*k,k)) (pre++rest).toArray ((Qak j xs).map λp=>(p.1,a.eval p.2))=some (pre++l).toArray/\LR ro σ w (QB env xs).flatten l
 |[],j,pre,rest,h1,h2,_,_=>by
  have:rest=[]:=VK.1 (by simpa using h2);subst this;exact⟨[],rfl,rfl⟩
 |x::xs,j,pre,rest,h1,h2,h3,h4=>by
  simp only[List.all_cons,XX]at h3;obtain⟨hk1,hk2⟩:=h4;obtain⟨m,q1,q2⟩:=(Qd r x).cells h3.1;have hm:m.length=k:=by rw[q2.length];exact hk1
  simp only[X2,Xm]at h2;simp only[Qak,Vk];rw[Qgb (off:=j*k) (size:=k) rfl q1 hm (by simp;omega)];have e:splice (pre++rest) (j*k) m=(pre++m)++rest.drop k:=by
   unfold splice;rw[<- h1,List.take_left,Vb,hm]
  rw[e];obtain⟨l,b,d⟩:=Qe4 r xs (j+1) (pre++m) (rest.drop k) (by simp[h1,hm,Xm]) (by simp;omega) h3.2 hk2;refine⟨m++l,?_,?_⟩
  .rw[b];simp
  .show LR ro σ w ((Yi (opA env x))++(QB env xs).flatten) (m++l);exact q2.append d
theorem Js{fr ro:Nat->Prop}{σ:Sig}{N:Nat}{a:Act}{w:World}(r:Rel fr ro σ H env N a w){T e k n:Nat}{xs:List Operand}(E:QN P T e k)(j:xs.length=n)(g:Nat.ble (n*k) 16777216=true)
  (m:(xs.all λx=>Q8 (opA env x))=true)(s:allK k (QB env xs)):
  ∃l,(Instr.buildSlice T n (((Qak 0 xs).map λp=>(p.1,a.eval p.2)).toArray)).run P w=.ok (.slice (some ⟨w.heap.size,0,none⟩) n n) (w.alloc (.cells l.toArray e))/\LR ro σ w (QB env xs).flatten l:=by
 obtain⟨z,y,t⟩:=E.zero;have q:n*k<=16777216:=by simpa using g
 have d:∀(c:Array Value) (W:World),(newRow e c).run P W=.ok ⟨W.heap.size,0,none⟩ (W.alloc (.cells c e)):=λc W=>rfl;unfold Instr.buildSlice;by_cases h:n*k=0
 .obtain⟨l,b,f⟩:=Qe4 r (k:=k) xs 0 [] [] (by simp) (by rw[j];simpa using h.symm) m s;refine⟨l,?_,f⟩;simp only[Vn,E.sl,Result.andThen,E.size,h];simp only[Xn,gt_iff_lt,if_false,if_true,Vp,XI,Result.andThen];have u:Array.range 0= #[]:=rfl;simp at b;simp[u,b,d]
 .obtain⟨l,b,f⟩:=Qe4 r (k:=k) xs 0 [] ((Array.range (n*k)).map (λi=>z.cells[i%z.cells.size]!)).toList (by simp) (by rw[j];simp) m s;refine⟨l,?_,f⟩;simp only[Vn,E.sl,Result.andThen,E.size,Vt h,XI,y,Vp];rw[Vt (by omega)];simp only[Vi]at b;rw[Array.toArray_toList]at b;simp only[b,Vn,d,Result.andThen,Vp]
theorem Jd{T n:Nat}{xs:List Operand}(a:o.op=.buildSlice T n (Qak 0 xs).toArray)(ρ:Operand->Value){v:Value}{w w':World}
  (h:(Instr.buildSlice T n (((Qak 0 xs).map λp=>(p.1,ρ p.2)).toArray)).run P w=.ok v w'):(execOp ρ o).run P w=.ok (.value v) w':=by
 simp only[execOp,a,Vn,XJ,h,Result.andThen,Vp]
theorem OpH.lit{T e k n:Nat}{xs:List Operand}{es:List (List A)}(E:QN P T e k)(s:o.op=.buildSlice T n (Qak 0 xs).toArray)(i:xs.length=n)(g:Nat.ble (n*k) 16777216=true)
  (t:(xs.all λx=>Q8 (opA env x))=true)(f:QB env xs=es)(h:allK k es)(z:es.flatten.all Yo=true)(y:Yc es.flatten=true):
  OpH P o env H (.osl H.length 0 n k) (H++[.row e k es]):=by
 intro B j σ N a w r;subst f;obtain⟨l,u,b⟩:=Js r E i g t h;have d:LR j [] w (QB env xs).flatten l:=b.data y;obtain⟨m,p⟩:=QiM (T:=e) (rest:=[]) r.sim h d (b.plain z);rw[Vh]at m p;have q:l.length=n*k:=by rw[b.length,Yu h];simp[QB,i]
 refine⟨_,_,j,[some w.heap.size],Jd s a.eval u,.inr ⟨w.heap.size,0,n,e,l.length,?_,rfl,λ_=>by simp,XU _,?_,by rw[q,Xw];exact XU _⟩,m,p⟩
 .rw[<- r.sim.len];simp
 .unfold World.shape?;rw[Q9];simp
theorem YF{T e k n:Nat}{xs:List Operand}{es:List (List A)}(E:QN P T e k)(m:o.op=.buildSlice T n (Qak 0 xs).toArray)(h:xs.length=n)(f:Nat.ble (n*k) 16777216=true)
  (q:(xs.all λx=>Q8 (opA env x))=true)(d:QB env xs=es)(g:allK k es)(u:es.flatten.all Yo=true):
  OpH P o env H (.osl H.length 0 n k) (H++[.rowr e k es]):=by
 intro y p σ N a w r;subst d;obtain⟨l,s,b⟩:=Js r E h f q g;have i:=r.sim.allocRowr (t:=e) (rest:=[]) g b (b.plain u);rw[Vh]at i;have j:l.length=n*k:=by rw[b.length,Yu g];simp[QB,h]
 refine⟨_,_,p,[some w.heap.size],Jd m a.eval s,.inr ⟨w.heap.size,0,n,e,l.length,?_,rfl,λ_=>by simp,XU _,?_,by rw[j,Xw];exact XU _⟩,i,Qe.alloc _ r.sim.roLt r.sim.frLt⟩
 .rw[<- r.sim.len];simp
 .unfold World.shape?;rw[Q9];simp
theorem Jr{n:Int}{y:Nat}{c:BoundsCode}{w:World}(h0:0<=n)(a:n<=y):(Instr.sliceBound (.int .i64 n) y c).run P w=.ok n.toNat w:=by
 simp[Instr.sliceBound,asIntOf,h0,a,go_sem]
theorem QgK{T e:Nat}{k:Nat}{w:World}(E1:∀w,(underlying T).run P w=.ok (.slice e) w)(E2:∀w,(sizeOf e).run P w=.ok k w){ad:Option Addr}{n cap:Nat}{lo hi:Option Value}{l h:Nat}(d:n<=cap)
  (b:lo=none/\l=0\/ ∃z:Int,lo=some (.int .i64 z)/\0<=z/\z.toNat=l)(a:hi=none/\h=n\/ ∃z:Int,hi=some (.int .i64 z)/\0<=z/\z.toNat=h)(i:l<=h)(j:h<=n):
  (Instr.sliceAt T (.slice ad n cap) lo hi none).run P w=.ok (.slice (if cap=l then ad else ad.map (·.add (l*k))) (h-l) (cap-l)) w:=by
 have g:(Instr.sliceBounds true n cap lo hi none).run P w=.ok (l,h,cap) w:=by
  rcases b with⟨rfl,rfl⟩|⟨z,rfl,f,rfl⟩<;>rcases a with⟨rfl,rfl⟩|⟨y,rfl,y0,rfl⟩
  .simp[Instr.sliceBounds,go_sem]
  .simp only[Instr.sliceBounds,Vn,Vp,Result.andThen,Jr y0 (show y<=(cap:Int)by omega)]
  .simp only[Instr.sliceBounds,Vn,Vp,Result.andThen,Jr f (show z<=(h:Int)by omega)]
  .simp only[Instr.sliceBounds,Vn,Vp,Result.andThen,Jr y0 (show y<=(cap:Int)by omega),Jr f (show z<=(y.toNat:Int)by omega)]
 simp only[Instr.sliceAt,Vn,E1,Result.andThen,Instr.slice,g,E2,Vp]
theorem Qba{fr ro:Nat->Prop}{σ:Sig}{N:Nat}{a:Act}{w:World}(r:Rel fr ro σ H env N a w){x:Option Operand}{l d:Nat}(h:x=none/\l=d\/ ∃y,∃z:Int,x=some y/\opA env y=.int .i64 z/\0<=z/\z.toNat=l):
  x.map a.eval=none/\l=d\/ ∃z:Int,x.map a.eval=some (.int .i64 z)/\0<=z/\z.toNat=l:=by
 rcases h with⟨rfl,rfl⟩|⟨y,z,rfl,b,e,f⟩
 .exact .inl ⟨rfl,rfl⟩
 .exact .inr ⟨z,by simp[QK r b],e,f⟩
theorem Qne{T e k:Nat}{x:Operand}{lo hi:Option Operand}{es es':List (List A)}{l h:Nat}(E1:∀w,(underlying T).run P w=.ok (.slice e) w)(E2:∀w,(sizeOf e).run P w=.ok k w)(J:o.op=.slice T x lo hi none)
  (E:opA env x=.rsl k es)(q:lo=none/\l=0\/ ∃y,∃z:Int,lo=some y/\opA env y=.int .i64 z/\0<=z/\z.toNat=l)
  (n:hi=none/\h=es.length\/ ∃y,∃z:Int,hi=some y/\opA env y=.int .i64 z/\0<=z/\z.toNat=h)(j:l<=h)(F:h<=es.length)(m:(es.take h).drop l=es'):OpV P o env H (.rsl k es'):=by
 intro M L σ N a w r;subst m;have i:=Qd r x;rw[E]at i;obtain⟨ad,f,i,s,t⟩:=i;have g:=QgK (P:=P) (w:=w) E1 E2 (ad:=ad) s (Qba r q) (Qba r n) j F;have d:((es.take h).drop l).length=h-l:=by simp;omega
 refine⟨_,by simp only[execOp,J,i,Vn,g,Result.andThen,Vp,Xl];rfl,?_⟩;refine⟨_,f-l,by rw[d],by rw[d];omega,?_⟩;rcases t with rfl|⟨b,p,rfl,B,G⟩
 .left;simp
 .by_cases u:f=l
  .left;apply VK.1;omega
  .right;refine⟨b,p+l*k,by rw[Vt u];simp[Ja],B,?_⟩;exact(G.take h).drop l
theorem Qfx{T e k i s n:Nat}{x:Operand}{lo hi:Option Operand}{l h:Nat}(E1:∀w,(underlying T).run P w=.ok (.slice e) w)(E2:∀w,(sizeOf e).run P w=.ok k w)(L:o.op=.slice T x lo hi none)
  (M:opA env x=.osl i s n k)(t:lo=none/\l=0\/ ∃y,∃z:Int,lo=some y/\opA env y=.int .i64 z/\0<=z/\z.toNat=l)
  (u:hi=none/\h=n\/ ∃y,∃z:Int,hi=some y/\opA env y=.int .i64 z/\0<=z/\z.toNat=h)(j:l<=h)(G:h<=n):OpV P o env H (.osl i (s+l) (h-l) k):=by
 intro W V σ N a w r;have g:=Qd r x;rw[M]at g;rcases g with⟨rfl,g⟩|⟨b,p,f,F,m,g,O,Q,R,J,E⟩
 .have d:=QgK (P:=P) (w:=w) E1 E2 (ad:=none) (XU 0) (Qba r t) (Qba r u) j G;refine⟨_,by simp only[execOp,L,g,Vn,d,Result.andThen,Vp,Xl];rfl,?_⟩;left;obtain rfl:h=0:=by omega
  obtain rfl:l=0:=by omega
  simp
 .have d:=QgK (P:=P) (w:=w) E1 E2 (ad:=some ⟨b,p,none⟩) R (Qba r t) (Qba r u) j G;refine⟨_,by simp only[execOp,L,O,Vn,d,Result.andThen,Vp,Xl];rfl,?_⟩;right;by_cases B:f=l
  .refine⟨b,p,0,F,m,g,by rw[Vu B];simp[B],λq=>by omega,by omega,J,?_⟩;subst B;exact XW (by simp) E
  .refine⟨b,p+l*k,f-l,F,m,g,by rw[Vt B];simp[Ja],λq=>by rw[Q (by omega),XA],by omega,J,?_⟩;rw[show s+l+(f-l)=s+f from by omega];exact E
theorem OpV.max{c:Call}{x y:Operand}{k:IntKind}{m n:Int}(i:o.op=.call c)(e:c={callee:=.builtin .max,args:= #[x,y],argTypes:=c.argTypes})(h:opA env x=.int k m)(j:opA env y=.int k n):
  OpV P o env H (.int k (if m<n then n else m)):=by
 intro p l σ N a w r;have g:=QK r h;have f:=QK r j;refine⟨_,?_,rfl⟩;generalize a.eval=ρ at*;have d:c.callee=.builtin .max:=by rw[e]
 have b:c.args= #[x,y]:=by rw[e]
 simp only[execOp,i,resolve,d,b,invoke,Go.builtin,Vn,Vp,Result.andThen];simp[Builtin.max_,Builtin.max2,g,f,go_sem]
theorem OpV.min{c:Call}{x y:Operand}{k:IntKind}{m n:Int}(i:o.op=.call c)(e:c={callee:=.builtin .min,args:= #[x,y],argTypes:=c.argTypes})(h:opA env x=.int k m)(j:opA env y=.int k n):
  OpV P o env H (.int k (if n<m then n else m)):=by
 intro p l σ N a w r;have g:=QK r h;have f:=QK r j;refine⟨_,?_,rfl⟩;generalize a.eval=ρ at*;have d:c.callee=.builtin .min:=by rw[e]
 have b:c.args= #[x,y]:=by rw[e]
 simp only[execOp,i,resolve,d,b,invoke,Go.builtin,Vn,Vp,Result.andThen];simp[Builtin.min_,Builtin.min2,g,f,go_sem]
end
end Go.Sw
namespace Go.Sw
section
variable {P:Program} {h0 N:Nat} {env:Env} {H:Qc} {Q:Qx} {c c':Code}
def CutP(h0:Nat)(Eb:Env)(Hb:Qc)(Q:Qx):Qx
 |.normal,env,H=>Le h0 env H Eb Hb
 |.exit id,env,H=>Q (.exit id) env H
 |.ret,env,H=>Q .ret env H
theorem TC.cut(Eb:Env)(Hb:Qc)(h:TC P h0 N c env H (CutP h0 Eb Hb Q))(k:∀env H,Le h0 env H Eb Hb->Q .normal env H):TC P h0 N c env H Q:=
 h.mono λx env' H' q=>by
  cases x with
  |normal=>exact k _ _ q
  |exit id=>exact q
  |ret=>exact q
theorem QlQ(h:TC P h0 N c env H Q):Seq P h0 N c Q .normal env H:=h
theorem seqX{id:Nat}(h:Q (.exit id) env H):Seq P h0 N c Q (.exit id) env H:=h
theorem seqR(h:Q .ret env H):Seq P h0 N c Q .ret env H:=h
theorem bloN{id:Nat}(h:Q .normal env H):Blo id Q .normal env H:=h
theorem bloE{id:Nat}(h:Q .normal env H):Blo id Q (.exit id) env H:=by simp only[Blo,VG,Vq];exact h
theorem bloX{id a:Nat}(e:Nat.beq a id=false)(h:Q (.exit a) env H):Blo id Q (.exit a) env H:=by simp only[Blo,e,Vr];exact h
theorem bloR{id:Nat}(h:Q .ret env H):Blo id Q .ret env H:=h
def QgA{S B:Type}(h0:Nat)(b:Ctl S B)(Eb:S->Env)(Hb:S->Qc)(Q:Qx):Qx
 |.normal,env,H=>∃s,b=.cont s/\Le h0 env H (Eb s) (Hb s)
 |.exit id,env,H=>Q (.exit id) env H
 |.ret,env,H=>Q .ret env H
theorem Qhj{S B:Type}{b:Ctl S B}(Eb:S->Env)(Hb:S->Qc)(h:TC P h0 N c env H (QgA h0 b Eb Hb Q))(k:∀s env H,b=.cont s->Le h0 env H (Eb s) (Hb s)->Q .normal env H):TC P h0 N c env H Q:=
 h.mono λx env' H' q=>by
  cases x with
  |normal=>obtain⟨s,e,q⟩:=q;exact k s _ _ e q
  |exit id=>exact q
  |ret=>exact q
section
variable {S B:Type} {b:Ctl S B} {Eb:S->Env} {Hb:S->Qc}
theorem QI{s:S}(e:b=.cont s)(h:Le h0 env H (Eb s) (Hb s)):QgA h0 b Eb Hb Q .normal env H:=⟨s,e,h⟩
theorem Q4(h:Q .ret env H):QgA h0 b Eb Hb Q .ret env H:=h
end
theorem Qiy{x:Operand}{t:Bool}(hx:opA env x=.bool t)(h:t=true)(ht:TC P h0 N c env H Q):TC P h0 N (.cond x c c') env H Q:=TC.cond hx (λ_=>ht) (λq=>by rw[h]at q;cases q)
theorem Qiz{x:Operand}{t:Bool}(hx:opA env x=.bool t)(h:t=false)(hf:TC P h0 N c' env H Q):TC P h0 N (.cond x c c') env H Q:=TC.cond hx (λq=>by rw[h]at q;cases q) (λ_=>hf)
section
variable {S B:Type} {I:S->Env->Qc->Prop}
theorem Qt{s:S}{d:Ctl S B}(e:some (Ctl.cont s)=some d)(h:I s env H):Qbj I d Q .normal env H:=⟨s,(X0 e).symm,h⟩
theorem Qy{id:Nat}{b:B}{d:Ctl S B}(e:some (Ctl.done b)=some d)(h:Q (.exit id) env H):Qbj I d Q (.exit id) env H:=⟨⟨b,(X0 e).symm⟩,h⟩
theorem Yt{b:B}{d:Ctl S B}(e:some (Ctl.done b)=some d)(h:Q .ret env H):Qbj I d Q .ret env H:=⟨⟨b,(X0 e).symm⟩,h⟩
end
end
theorem bnd{α β:Type}{x:Option α}{f:α->Option β}{r:β}(h:x.bind f=some r):∃a,x=some a/\f a=some r:=Option.bind_eq_some_iff.1 h
theorem ifT{α:Type}{c:Bool}{x y:Option α}{r:α}(a:c=true)(h:(bif c then x else y)=some r):x=some r:=by subst a;exact h
theorem ifF{α:Type}{c:Bool}{x y:Option α}{r:α}(a:c=false)(h:(bif c then x else y)=some r):y=some r:=by subst a;exact h
def idx{α:Type}(l:List α)(i:Int):Option α:=bif decide (0<=i)then l[i.toNat]? else none
theorem QaN{α:Type}{l:List α}{i:Int}{x:α}(h:idx l i=some x):0<=i/\l[i.toNat]?=some x:=by
 unfold idx at h;by_cases q:0<=i
 .rw[Vv q]at h;exact⟨q,h⟩
 .rw[Vy q]at h;simp at h
def app{α:Type}(l m:List α):Option (List α):=bif Nat.ble (l.length+m.length) Qq then some (l++m)else none
theorem Qhg{α:Type}{l m r:List α}(h:app l m=some r):l.length+m.length<=Qq/\l++m=r:=by
 unfold app at h;cases q:Nat.ble (l.length+m.length) Qq with
 |true=>rw[q]at h;exact⟨XS q,X0 h⟩
 |false=>rw[q]at h;simp at h
def slc{α:Type}(l:List α)(lo hi:Int):Option (List α):=bif decide (0<=lo)&&decide (lo<=hi)&&decide (hi<=(l.length:Int))then some ((l.take hi.toNat).drop lo.toNat)else none
theorem QiX{α:Type}{l r:List α}{lo hi:Int}(h:slc l lo hi=some r):0<=lo/\lo<=hi/\hi<=l.length/\(l.take hi.toNat).drop lo.toNat=r:=by
 unfold slc at h;cases q:(decide (0<=lo)&&decide (lo<=hi)&&decide (hi<=(l.length:Int)))with
 |true=>
  rw[q]at h;simp at q;exact⟨q.1.1,q.1.2,q.2,X0 h⟩
 |false=>rw[q]at h;simp at h
def Qdk{α:Type}(l:List α)(i:Int)(x:α):Option (List α):=bif decide (0<=i)&&decide (i<(l.length:Int))then some (l.set i.toNat x)else none
theorem QgV{α:Type}{e:α->List A}{l:List α}{i:Nat}{x:α}(h:l[i]?=some x):(l.map e)[i]?=some (e x):=by simp[h]
end Go.Sw
namespace Go.Sw
section
variable {P:Program} {h0 N:Nat} {env:Env} {H H':Qc} {Q:Qx} {all:Array Oper} {o:Oper} {l:List Oper} {d:Nat} {x:A}
theorem vV(a:OpV P o env H x)(k:WO P h0 N all l (up env d x) H Q)(hg:Qn all o env true:=by exact rfl)(hd:o.dst=some d:=by exact rfl)(hN:Nat.blt d N=true:=by exact rfl):WO P h0 N all (o::l) env H Q:=
 QE hg hd hN a k
theorem vH(a:OpH P o env H x H')(k:WO P h0 N all l (up env d x) H' Q)(hg:Qn all o env true:=by exact rfl)(hd:o.dst=some d:=by exact rfl)(hN:Nat.blt d N=true:=by exact rfl)(hh:Nat.ble h0 H.length=true:=by exact rfl):WO P h0 N all (o::l) env H Q:=
 YY (XS hh) hg hd hN a k
theorem vN(a:OpH P o env H x H')(k:WO P h0 N all l env H' Q)(hg:Qn all o env true:=by exact rfl)(hd:o.dst=none:=by exact rfl)(hh:Nat.ble h0 H.length=true:=by exact rfl):WO P h0 N all (o::l) env H Q:=
 Qpy (XS hh) hg hd a k
theorem vU(a:OpU P o env H H')(k:WO P h0 N all l env H' Q)(hg:Qn all o env true:=by exact rfl)(hd:o.dst=none:=by exact rfl)(hh:Nat.ble h0 H.length=true:=by exact rfl):WO P h0 N all (o::l) env H Q:=
 QbB (XS hh) hg hd a k
theorem gT{j s:Nat}{c x:Bool}(a:x=c)(hg:o.guard=some (j,c):=by exact rfl)(hs:(all[j]?).bind (·.dst)=some s:=by exact rfl)(hl:lk env s=.bool x:=by exact rfl):Qn all o env true:=by
 unfold Qn;rw[hg];exact⟨s,hs,.inl ⟨x,hl,by subst a;cases x<;>rfl⟩⟩
theorem gF{j s:Nat}{c x:Bool}(a:x= !c)(hg:o.guard=some (j,c):=by exact rfl)(hs:(all[j]?).bind (·.dst)=some s:=by exact rfl)(hl:lk env s=.bool x:=by exact rfl):Qn all o env false:=by
 unfold Qn;rw[hg];exact⟨s,hs,.inl ⟨x,hl,by subst a;cases c<;>rfl⟩⟩
theorem Qm4{x x':A}(a:x'=x)(hH:H'=H)(k:WO P h0 N all l (up env d x) H Q):WO P h0 N all l (up env d x') H' Q:=by subst a;subst hH;exact k
theorem QdD(hH:H'=H)(k:WO P h0 N all l env H Q):WO P h0 N all l env H' Q:=by subst hH;exact k
theorem QP{f:FuncId}{args a:List A}{Hc:Qc}{Qr:A->Qc->Prop}(π:List Nat)(b:OpC P o env H f args)(e:C P f a Hc Qr)
  (k:∀r H1,Qr r H1->WO P h0 N all l (up env d (Yx (rho π H.length) r)) (Yn H π (H1.map (QV (rho π H.length)))) Q)
  (hargs:args=Qaa (rho π H.length) a:=by exact rfl)(hH:π.map (λp=>H[p]?)=(Hc.map (QV (rho π H.length))).map some:=by exact rfl)(hπ:π.Nodup:=by decide)
  (hg:Qn all o env true:=by exact rfl)(hd:o.dst=some d:=by exact rfl)(hN:Nat.blt d N=true:=by exact rfl)(hh:Nat.ble h0 H.length=true:=by exact rfl):WO P h0 N all (o::l) env H Q:=
 WO.call (d:=some d) π (XS hh) hg hd (λx g=>by cases g;simpa using hN) b hargs hH hπ e k
end
section
variable {P:Program} {o:Oper} {env:Env} {H:Qc} {α:Type} {e:α->List A}
theorem Qnd{c:Call}{t et k:Nat}{x:Operand}{l:List α}(b:∀w,(underlying t).run P w=.ok (.slice et) w)(a:o.op=.call c:=by exact rfl)(hc:c={callee:=.builtin .len,args:= #[x],argTypes:= #[t]}:=by exact rfl)
  (hx:opA env x=.rsl k (l.map e):=by exact rfl):OpV P o env H (.int .i64 l.length):=by
 have:=Qnc (H:=H) a hc b hx
 rwa [X3]at this
theorem Qhm{t et k:Nat}{x y:Operand}{l:List α}{b:IntKind}{i:Int}{v:α}(h:idx l i=some v)(f:∀w,(underlying t).run P w=.ok (.slice et) w)(d:∀w,(sizeOf et).run P w=.ok k w)
  (a:o.op=.indexAddr t x y:=by exact rfl)(hx:opA env x=.rsl k (l.map e):=by exact rfl)(hy:opA env y=.int b i:=by exact rfl):OpV P o env H (.rp (e v)):=
 Qoc a f d hx hy (QaN h).1 (QgV (QaN h).2)
theorem Q7{t et k b n:Nat}{x y:Operand}{l:List α}{d:IntKind}{i:Int}{v:α}(h:idx l i=some v)(m:l.length=n)(f:∀w,(underlying t).run P w=.ok (.slice et) w)(j:∀w,(sizeOf et).run P w=.ok k w)
  (g:o.op=.indexAddr t x y:=by exact rfl)(hx:opA env x=.osl b 0 n k:=by exact rfl)(hy:opA env y=.int d i:=by exact rfl):OpV P o env H (.ptr b (i.toNat*k)):=by
 have:=QaN h;have a:i.toNat<l.length:=(XM.1 this.2).1;have e:=Qhl (H:=H) g f j hx hy this.1 (by omega)
 rwa [Nat.zero_mul,Xw]at e
theorem Qu{b t k:Nat}{l:List α}{i:Int}{v:α}{cs':List A}(h:idx l i=some v)(hH:H[b]?=some (.row t k (l.map e)):=by exact rfl)(hcs:e v=cs':=by exact rfl):Pts H (.ptr b (i.toNat*k)) cs':=
 Pts.row (f:=0) hH rfl (QgV (QaN h).2) hcs
theorem QiK{c:Call}{T T' et et' k:Nat}{x y:Operand}{ya:A}{m r:List α}(h:app [] m=some r)(E:QN P T et k)(f:∀w,(underlying T').run P w=.ok (.slice et') w)(b:Src P H ya k (m.map e))
  (a:o.op=.call c:=by exact rfl)(hc:c={callee:=.builtin .append,args:= #[x,y],argTypes:= #[T,T']}:=by exact rfl)(hx:opA env x=.nils:=by exact rfl)(hy:opA env y=ya:=by exact rfl):
  OpH P o env H (.osl H.length 0 r.length k) (H++[.row et k (r.map e)]):=by
 obtain⟨d,rfl⟩:=Qhg h;have:=QfM E f a hc hx hy b (by simpa using d);simpa using this
theorem QR{c:Call}{T T' et et' k i n:Nat}{x y:Operand}{ya:A}{l m r:List α}(h:app l m=some r)(E:QN P T et k)(f:∀w,(underlying T').run P w=.ok (.slice et') w)(a:Src P H ya k (m.map e))
  (b:l.length=n:=by exact rfl)(ho:o.op=.call c:=by exact rfl)(hc:c={callee:=.builtin .append,args:= #[x,y],argTypes:= #[T,T']}:=by exact rfl)(hx:opA env x=.osl i 0 n k:=by exact rfl)
  (hH:H[i]?=some (.row et k (l.map e)):=by exact rfl)(hy:opA env y=ya:=by exact rfl):
  OpH P o env H (.osl H.length 0 r.length k) (H.set i .dead++[.row et k (r.map e)]):=by
 obtain⟨d,rfl⟩:=Qhg h;subst b;have:=QiI E f ho hc hx hH (by simp) hy a (by simpa using d) (gs:=(l++m).map e) (by rw[VJ (by simp)];simp);simpa using this
theorem Qai{k:Nat}{l:List α}:Src P H (.rsl k (l.map e)) k (l.map e):=Src.rsl
theorem Jy{i n k t:Nat}{l:List α}(hH:H[i]?=some (.row t k (l.map e)):=by exact rfl)(hn:l.length=n:=by exact rfl):Src P H (.osl i 0 n k) k (l.map e):=
 Src.osl hH (by subst hn;rw[List.drop_zero,VJ (by simp)]) (by simp[hn])
theorem QaT{t n b T k f:Nat}{x y:Operand}{l l':List α}{i:Int}{v j:α}{vs:List A}{a:A}{off:Nat}(h:idx l i=some v)(hl:Qdk l i j=some l')(p:∀w,(sizeOf t).run P w=.ok n w)(d:off=i.toNat*k+f)(g:splice (e v) f vs=e j)
  (m:o.op=.store t x y:=by exact rfl)(hx:opA env x=.ptr b off:=by exact rfl)(hH:H[b]?=some (.row T k (l.map e)):=by exact rfl)
  (hy:opA env y=a:=by exact rfl)(hk:Q8 a=true:=by exact rfl)(hv:Yi a=vs:=by exact rfl)(hn:vs.length=n:=by exact rfl)(hp:vs.all Yo=true:=by exact rfl)(hd:Yc vs=true:=by exact rfl)(hf:Nat.ble (f+n) k=true:=by exact rfl):
  OpU P o env H (H.set b (.row T k (l'.map e))):=by
 refine Qhn m hx hH p d (QgV (QaN h).2) hy hk hv hn hp hd hf g ?_;unfold Qdk at hl;cases q:(decide (0<=i)&&decide (i<(l.length:Int)))with
 |false=>rw[q]at hl;simp at hl
 |true=>rw[q]at hl;rw[<- X0 hl,List.map_set]
end
def ZR(a:A)(v:Value):Prop:=∀ro σ w,VR ro σ w a v
def ZL(az:List A)(l:List Value):Prop:=∀ro σ w,LR ro σ w az l
theorem ZR.int{k:IntKind}{n:Int}:ZR (.int k n) (.int k n):=λ_ _ _=>rfl
theorem ZR.bool{b:Bool}:ZR (.bool b) (.bool b):=λ_ _ _=>rfl
theorem ZR.str:ZR (.str []) (.string ⟨#[]⟩):=λ_ _ _=>rfl
theorem ZR.rsl{α:Type}{k:Nat}{e:α->List A}:ZR (.rsl k (List.map e [])) (.slice none 0 0):=λ_ _ _=>⟨none,0,rfl,XU _,.inl rfl⟩
theorem ZR.nils:ZR .nils (.slice none 0 0):=λ_ _ _=>rfl
theorem ZR.nilp:ZR .nilp (.pointer none):=λ_ _ _=>rfl
theorem ZR.nilf:ZR .nilf .nilFunc:=λ_ _ _=>rfl
theorem ZR.nilm:ZR .nilm (.map none):=λ_ _ _=>rfl
theorem Qn9:ZR .nilif .nilIface:=λ_ _ _=>rfl
theorem ZL.nil:ZL [] []:=λ_ _ _=>rfl
theorem ZL.cons{a:A}{v:Value}{az:List A}{l:List Value}(h:ZR a v)(k:ZL az l):ZL (a::az) (v::l):=λro σ w=>⟨v,l,rfl,h ro σ w,k ro σ w⟩
theorem ZR.agg{az:List A}{l:List Value}(h:ZL az l):ZR (.agg az) (.agg l.toArray):=λro σ w=>⟨l,rfl,h ro σ w⟩
section
variable {P:Program} {o:Oper} {env:Env} {H:Qc}
theorem QfB{t:Nat}{z:Value}{v:A}{cs:List A}(i:∀w,(zeroValue t).run P w=.ok z w)(h:ZR v z)(g:o.op=.alloc t:=by exact rfl)(hk:Q8 v=true:=by exact rfl)(hcs:Yi v=cs:=by exact rfl)(hpl:cs.all Yo=true:=by exact rfl):
  OpH P o env H (.ptr H.length 0) (H++[.cells t cs]):=by
 intro j d σ N a w r;obtain⟨l,f,b⟩:=(h d σ w).cells hk;subst hcs;refine⟨.pointer (some ⟨w.heap.size,0,none⟩),w.alloc (.cells l.toArray t),d,[some w.heap.size],?_,⟨w.heap.size,?_,rfl⟩,r.sim.allocCells b (b.plain hpl),Qe.alloc _ r.sim.roLt r.sim.frLt⟩
 .generalize a.eval=ρ at*;have e:(newVar t z).run P w=.ok ⟨w.heap.size,0,none⟩ (w.alloc (.cells l.toArray t)):=by
   unfold newVar;rw[f];rfl
  simp only[execOp,g,Instr.alloc,Vn,i,Result.andThen,e];rfl
 .rw[<- r.sim.len];simp
theorem Qjr{t:TypeId}{p q:Bool}{w:World}(a:∀w,(underlying t).run P w=.ok .bool w):(Op.equal t (.bool p) (.bool q)).run P w=.ok (p==q) w:=by
 have k:∀d,(Op.equalIn (d+1) t (.bool p) (.bool q)).run P w=.ok (p==q) w:=by
  intro d;simp[Op.equalIn,a,go_sem]
 exact k 9999
theorem Qfy{t u:TypeId}{x y:Operand}{p q:Bool}(e:∀w,(underlying t).run P w=.ok .bool w)(f:o.op=.binOp .neq t x y u:=by exact rfl)(hx:opA env x=.bool p:=by exact rfl)(hy:opA env y=.bool q:=by exact rfl):OpV P o env H (.bool (p != q)):=by
 intro h g σ N a w r;have b:=QcN r hx;have d:=QcN r hy;refine⟨_,?_,rfl⟩;generalize a.eval=ρ at*;simp[execOp,f,b,d,Go.binOp,eqGuard,Qjr e,go_sem,bne]
theorem QaS{t:TypeId}{x y:Operand}{s:List UInt8}{k:IntKind}{i:Int}{c:UInt8}(h:idx s i=some c)(b:∀w,(underlying t).run P w=.ok .string w)(a:o.op=.index t x y:=by exact rfl)(hx:opA env x=.str s:=by exact rfl)(hy:opA env y=.int k i:=by exact rfl):
  OpV P o env H (.int .u8 c.toNat):=Qlm a b hx hy (QaN h).1 (QaN h).2
theorem QiG{α:Type}{e:α->List A}{T et k:Nat}{x:Operand}{lo hi:Option Operand}{l r:List α}{a b:Int}(h:slc l a b=some r)(E1:∀w,(underlying T).run P w=.ok (.slice et) w)(E2:∀w,(sizeOf et).run P w=.ok k w)
  (i:lo=none/\a=0\/ ∃y,lo=some y/\opA env y=.int .i64 a)(g:hi=none/\b=l.length\/ ∃y,hi=some y/\opA env y=.int .i64 b)
  (m:o.op=.slice T x lo hi none:=by exact rfl)(hx:opA env x=.rsl k (l.map e):=by exact rfl):OpV P o env H (.rsl k (r.map e)):=by
 obtain⟨j,p,n,rfl⟩:=QiX h;refine Qne (l:=a.toNat) (h:=b.toNat) E1 E2 m hx ?_ ?_ (by omega) (by simp;omega) (by simp)
 .rcases i with⟨f,d⟩|⟨y,f,d⟩
  .exact .inl ⟨f,by rw[d];rfl⟩
  .exact .inr ⟨y,a,f,d,j,rfl⟩
 .rcases g with⟨f,d⟩|⟨y,f,d⟩
  .exact .inl ⟨f,by rw[d];simp⟩
  .exact .inr ⟨y,b,f,d,by omega,rfl⟩
theorem Qlo{c:Call}{t et i n k:Nat}{x:Operand}(b:∀w,(underlying t).run P w=.ok (.slice et) w)(a:o.op=.call c:=by exact rfl)(hc:c={callee:=.builtin .len,args:= #[x],argTypes:= #[t]}:=by exact rfl)
  (hx:opA env x=.osl i 0 n k:=by exact rfl):OpV P o env H (.int .i64 n):=QiF a hc b hx
end
def Qj(k:IntKind)(n:Int):List A:=[.int k n]
def Qa6(b:Bool):List A:=[.bool b]
def encS(s:List UInt8):List A:=[.str s]
def Qjs{α:Type}(k:Nat)(e:α->List A)(l:List α):List A:=[.rsl k (l.map e)]
end Go.Sw
namespace Go.Sw
theorem QlF{P:Program}{rd:Option Nat}{o:Oper}{a:Act}{next:Act->World->Prop}{Q:Exit->Act->World->Prop}{g:Result Next}
  (p:∀a' w',next a' w'->a'.defers=a.defers)(h:o.uponIn (WF rd) 0 P a next Q g):
  o.uponIn (WF rd) 0 P a (λa' w'=>next a' w'/\ ∃v,a'=a.put o.dst v) Q g:=by
 cases g with
 |ok n w'=>
  cases n with
  |value v=>exact⟨h,_,rfl⟩
  |skip=>exact⟨h,_,rfl⟩
  |defer d=>
   have:=congrArg List.length (p _ _ h);exfalso
   revert this
   cases o.dst<;>simp[Act.put]
  |enter f i=>
   exact⟨h.1,CallsIn.mono h.2 (λe j b=>by cases e<;>first|exact⟨b,_,rfl⟩|exact b)⟩
  |row r i=>exact⟨h.1,RowsIn.mono h.2 (λ_ _ b=>⟨b,_,rfl⟩)⟩
  |round l f k assign m=>exact⟨h.1,RoundIn.mono h.2 (λe j b=>by cases e<;>first|exact⟨b,_,rfl⟩|exact b)⟩
  |_=>exact h.elim
 |halt x w'=>cases x<;>first|exact h|exact h.elim
def Y1(e:Env)(H:Qc):Qx:=λx e' H'=>x=.normal/\e'=e/\H'=H
theorem Y1.mk{e:Env}{H:Qc}:Y1 e H .normal e H:=⟨rfl,rfl,rfl⟩
inductive Sb (af bf ds:List Nat) (xs:List A) (env0:Env):Env->Prop
 |nil:Sb af bf ds xs env0 []
 |dep (j:Nat) {s:Nat} {a:A} {r:Env} (h1:af.contains j=true) (h2:ds[j]?=some s) (h3:xs[j]?=some a) (k:Sb af bf ds xs env0 r):Sb af bf ds xs env0 ((s,a)::r)
 |old {s:Nat} {a:A} {r:Env} (h1:ds.contains s=false) (h2:lk env0 s=a) (k:Sb af bf ds xs env0 r):Sb af bf ds xs env0 ((s,a)::r)
 |pre (j:Nat) {s:Nat} {a:A} {r:Env} (h1:bf.contains j=true) (h2:ds[j]?=some s) (h3:lk env0 s=a) (k:Sb af bf ds xs env0 r):Sb af bf ds xs env0 ((s,a)::r)
def Qg(o:Oper):List Nat:=(o.after.toList.filter (Region.binds .any)).map (·.on)
def Qjx(l:List Oper)(i:Nat):List Nat:=(List.range l.length).filter λj=>((l[j]?).map Qg).getD [] |>.contains i
inductive QfC (P:Program) (N:Nat) (l:List Oper) (ds:List Nat) (xs:List A) (env0:Env) (i:Nat) (H H':Qc):Prop
 |mk (o:Oper) (e:Env) (d:Nat) (x:A) (ho:l[i]?=some o) (hd:o.dst=some d) (hx:xs[i]?=some x) (hs:Sb (Qg o) (Qjx l i) ds xs env0 e)
   (h:WO P H.length N l.toArray [o] e H (Y1 (up e d x) H')):QfC P N l ds xs env0 i H H'
theorem least{p:Nat->Prop}(d:∀i,p i\/ ¬p i):∀n,p n->∃i,i<=n/\p i/\ ∀j,j<i->¬p j:=by
 intro n
 induction n using Nat.strongRecOn with
 |ind n e=>
  intro h;by_cases q:∃j,j<n/\p j
  .obtain⟨j,a,b⟩:=q;obtain⟨i,k,f,g⟩:=e j a b;exact⟨i,by omega,f,g⟩
  .exact⟨n,XU _,h,λj a b=>q ⟨j,a,b⟩⟩
def onL(L:Array Bool)(i:Nat):Prop:=L[i]?=some true
theorem Qkf{L:Array Bool}{i:Nat}(hi:i<L.size)(b:Bool):L.getD i b=true↔onL L i:=by
 unfold onL;rw[Array.getD_eq_getD_getElem?,Array.getElem?_eq_getElem hi];simp
theorem QaL{l:List Oper}{L:Array Bool}(n:L.size=l.length){i:Nat}:
  i∈Region.ready .any l.toArray L↔ ∃o,l[i]?=some o/\ ¬onL L i/\ ∀j∈Qg o,onL L j:=by
 unfold Region.ready;simp only[Xe,List.mem_range,List.size_toArray,XX,Bool.not_eq_true',XH];have d:∀j,L.getD j false=true↔onL L j:=by
  intro j;unfold onL;rw[Array.getD_eq_getD_getElem?];cases L[j]? <;>simp
 constructor
 .rintro⟨f,a,b⟩;refine⟨l[i],XL f,?_,?_⟩
  .intro q;rw[<- Qkf (by omega) true]at q;rw[q]at a;cases a
  .rw[XL f]at b;simp only[Xk,Option.getD_some,Array.all_eq_true']at b;intro j h;unfold Qg at h;simp only[Xf,Xe,Array.mem_toList_iff]at h;obtain⟨e,⟨g,k⟩,rfl⟩:=h;have:=b e g;rw[k]at this;exact(d _).1 (by simpa using this)
 .rintro⟨o,f,a,b⟩;have m:i<l.length:=(XM.1 f).1;refine⟨m,?_,?_⟩
  .rw[<- Qkf (by omega) true]at a;simpa using a
  .rw[f];simp only[Xk,Option.getD_some,Array.all_eq_true'];intro e g;cases k:Region.binds .any e with
   |false=>simp
   |true=>
    have:=(d _).2 (b e.on (by unfold Qg;simp only[Xf,Xe,Array.mem_toList_iff];exact⟨e,⟨g,k⟩,rfl⟩));simpa using this
theorem Jt{L:Array Bool}{i j:Nat}(hi:i<L.size):onL (L.setIfInBounds i true) j↔j=i\/onL L j:=by
 unfold onL;rw[Vf];by_cases h:i=j
 .subst h;simp[hi]
 .have a:¬j=i:=λq=>h q.symm;simp[h,a]
def unl(L:Array Bool):Nat:=L.toList.countP (!·)
theorem QgI{L:Array Bool}{i:Nat}(hi:i<L.size)(h:¬onL L i):unl (L.setIfInBounds i true)+1=unl L:=by
 unfold unl;have a:i<L.toList.length:=by simpa using hi
 have b:L.toList[i]=false:=by
  unfold onL at h;rw[Array.getElem?_eq_getElem hi]at h;simpa using h
 rw[Array.toList_setIfInBounds,List.countP_set a];have:0<L.toList.countP (!·):=List.countP_pos_iff.2 ⟨L.toList[i],Ve a,by rw[b];rfl⟩;rw[b,Vu (by rfl),Vt (by decide)];omega
theorem QjU{L:Array Bool}{i:Nat}(hi:i<L.size)(h:¬onL L i):0<unl L:=by have:=QgI hi h;omega
inductive Qcr (l:List Oper) (m:Nat):Nat->Prop
 |one {o:Oper} {j:Nat} (ho:l[m]?=some o) (hj:j∈Qg o):Qcr l m j
 |step {o:Oper} {i j:Nat} (h:Qcr l m i) (ho:l[i]?=some o) (hj:j∈Qg o):Qcr l m j
def QeM(l:List Oper):Nat->List Nat->List Nat
 |0,S=>S
 |j+1,S=>QeM l j (bif S.contains j then S++(match l[j]? with|some o=>Qg o|none=>[])else S)
theorem Qb6{l:List Oper}{m:Nat}:∀(n:Nat) (S:List Nat),(∀j∈S,Qcr l m j)->∀j∈QeM l n S,Qcr l m j
 |0,S,h,j,hj=>h j hj
 |n+1,S,h,j,hj=>by
  refine Qb6 n _ ?_ j hj;intro i hi;cases q:S.contains n with
  |false=>rw[q]at hi;exact h i hi
  |true=>
   rw[q]at hi;rcases VE.1 hi with z|z
   .exact h i z
   .cases ho:l[n]? with
    |none=>rw[ho]at z;cases z
    |some o=>rw[ho]at z;exact .step (h n (by simpa using q)) ho z
def Qaz(ds:List Nat)(xs:List A)(env0:Env):Env:=ds.zip xs++env0
theorem QnM{a:List Nat}{xs:List A}{env0:Env}(hl:a.length=xs.length)(s:Nat):
  (∃(j:Nat) (x:A),a[j]?=some s/\xs[j]?=some x/\lk (Qaz a xs env0) s=x)\/(a.contains s=false/\lk (Qaz a xs env0) s=lk env0 s):=by
 unfold Qaz
 induction a generalizing xs with
 |nil=>right;simp
 |cons d a g=>
  cases xs with
  |nil=>simp at hl
  |cons x xs=>
   simp only[X2,Nat.add_right_cancel_iff]at hl;simp only[List.zip_cons_cons,VL,lk];cases h:Nat.beq s d with
   |true=>
    obtain rfl:=XR h;left;exact⟨0,x,rfl,rfl,by simp⟩
   |false=>
    have e:s≠d:=λq=>by subst q;simp[VG]at h
    rcases g hl with⟨j,y,f,b,i⟩|⟨f,b⟩
    .left;exact⟨j+1,y,by simpa using f,by simpa using b,by simpa using i⟩
    .right;refine⟨?_,by simpa using b⟩;simp only[List.contains_cons,f,Bool.or_false];simpa using e
def drawChk.nodupB:List Nat->Bool
 |[]=>true
 |x::r=> !r.contains x&&drawChk.nodupB r
def drawChk.goB(l:List Oper)(m:Nat):Nat->List Oper->Bool
 |_,[]=>true
 |i,o::r=>(Qg o).all (λj=>Nat.blt j i)&&(bif Nat.beq i m then(List.range m).all (λj=>(QeM l m (Qg o)).contains j)else bif Nat.blt m i then(Qg o).contains (i-1)else true)&&drawChk.goB l m (i+1) r
def drawChk.loB(m k:Nat)(los:List Nat)(hs:List Bool):Nat->List Oper->Bool
 |_,[]=>(List.range k).all λj=>(List.range m).any λi=>hs.getD i false&&Nat.beq (los.getD i 0) j
 |i,o::r=>(bif Nat.blt i m then
   (Nat.beq (los.getD i 0) 0||(Qg o).any (λj=>Nat.blt j m&&Nat.ble (los.getD i 0) (los.getD j 0+(if hs.getD j false then 1 else 0))))
   &&(!hs.getD i false||(Nat.blt (los.getD i 0) k&&(List.range m).all (λj=> !hs.getD j false|| !Nat.beq (los.getD i 0) (los.getD j 0)||Nat.beq i j)))
  else true)&&drawChk.loB m k los hs (i+1) r
def drawChk(l:List Oper)(m k N:Nat)(ds los:List Nat)(hs:List Bool):Bool:=
 Nat.ble m l.length&&(ds.length==m)&&(l.take m).map (·.dst)==ds.map some&&ds.all (λd=>Nat.blt d N)&&drawChk.nodupB ds
 &&drawChk.goB l m 0 l&&(drawChk.loB m k los hs 0 l)
theorem QdV{e:List Nat}(h:drawChk.nodupB e=true):∀(i j d:Nat),e[i]?=some d->e[j]?=some d->i=j:=by
 induction e with
 |nil=>intro i j d a;simp at a
 |cons x r g=>
  simp only[drawChk.nodupB,XX,Bool.not_eq_true']at h;have f:∀(i:Nat),r[i]? ≠some x:=by
   intro i q;have:r.contains x=true:=by simpa using VI q
   rw[this]at h;cases h.1
  intro i j d a b;cases i with
  |zero=>
   cases j with
   |zero=>rfl
   |succ j=>simp at a b;subst a;exact absurd b (f j)
  |succ i=>
   cases j with
   |zero=>simp at a b;subst b;exact absurd a (f i)
   |succ j=>simp at a b;rw[g h.2 i j d a b]
theorem QhX{l:List Oper}{m:Nat}:∀(r:List Oper) (b:Nat),drawChk.goB l m b r=true->∀(i:Nat) (o:Oper),r[i]?=some o->
  (∀j∈Qg o,j<b+i)/\(b+i=m->∀j,j<m->j∈QeM l m (Qg o))/\(m<b+i->b+i-1∈Qg o):=by
 intro r
 induction r with
 |nil=>intro b h i o d;simp at d
 |cons x r n=>
  intro b h i o d;simp only[drawChk.goB,XX]at h;cases i with
  |zero=>
   simp at d;subst d;refine⟨λj f=>?_,λk j f=>?_,λk=>?_⟩
   .have:=Xt.1 h.1.1 j f;simpa using this
   .have a:=h.1.2;have g:Nat.beq b m=true:=by subst k;simp
    rw[g]at a;simp only[Vq]at a;have:=Xt.1 a j (List.mem_range.2 f);simpa using this
   .have a:=h.1.2;have g:Nat.beq b m=false:=by
     cases q:Nat.beq b m with
     |false=>rfl
     |true=>have:=XR q;omega
    have p:Nat.blt m b=true:=by simpa using k
    rw[g,p]at a;simpa using a
  |succ i=>
   have:=n (b+1) h.2 i o (by simpa using d);have e:b+1+i=b+(i+1):=by omega
   rw[e]at this;exact this
inductive Ob (P:Program) (N:Nat) (l:List Oper) (ds:List Nat) (xs:List A) (env0:Env):Nat->List (List (Qc×Qc))->Prop
 |nil {i:Nat}:Ob P N l ds xs env0 i []
 |cons {i:Nat} {s:List (Qc×Qc)} {r:List (List (Qc×Qc))} (h:∀p∈s,QfC P N l ds xs env0 i p.1 p.2) (k:Ob P N l ds xs env0 (i+1) r):Ob P N l ds xs env0 i (s::r)
theorem Ob.get{P:Program}{N:Nat}{l:List Oper}{f:List Nat}{xs:List A}{env0:Env}{b:Nat}{e:List (List (Qc×Qc))}(h:Ob P N l f xs env0 b e):
  ∀(i:Nat) (s:List (Qc×Qc)),e[i]?=some s->∀p∈s,QfC P N l f xs env0 (b+i) p.1 p.2:=by
 induction h with
 |nil=>intro i s h;simp at h
 | @cons b1 s1 r1 h _ ih=>
  intro i s a p d;cases i with
  |zero=>simp at a;subst a;exact h p d
  |succ i=>
   have:=ih i s (by simpa using a) p d
   rwa [show b1+1+i=b1+(i+1)by omega]at this
theorem Ob.st0{P:Program}{N:Nat}{l:List Oper}{b:List Nat}{xs:List A}{env0:Env}{i:Nat}:∀p∈([]:List (Qc×Qc)),QfC P N l b xs env0 i p.1 p.2:=by
 intro p a;cases a
theorem Ob.stC{P:Program}{N:Nat}{l:List Oper}{a:List Nat}{xs:List A}{env0:Env}{i:Nat}{H H':Qc}{r:List (Qc×Qc)}(h:QfC P N l a xs env0 i H H')
  (k:∀p∈r,QfC P N l a xs env0 i p.1 p.2):∀p∈(H,H')::r,QfC P N l a xs env0 i p.1 p.2:=by
 intro p b;rcases X7.1 b with rfl|q
 .exact h
 .exact k p q
theorem Qbk.nil{H:Qc}:Qbk H [] []:=trivial
theorem Qbk.cons{H:Qc}{az d f:List A}{a b:A}(e:az=a::d)(h:Look H a b)(k:Qbk H d f):Qbk H az (b::f):=by subst e;exact⟨h,k⟩
section
variable {P:Program} {o:Oper} {env:Env} {H:Qc} {α:Type} {e:α->List A}
theorem Qfu{t et k:Nat}{x y:Operand}{l:List α}{b:IntKind}{i:Int}{v:α}{cs:List A}(h:idx l i=some v)(he:e v=cs)(f:∀w,(underlying t).run P w=.ok (.slice et) w)(d:∀w,(sizeOf et).run P w=.ok k w)
  (a:o.op=.indexAddr t x y:=by exact rfl)(hx:opA env x=.rsl k (l.map e):=by exact rfl)(hy:opA env y=.int b i:=by exact rfl):OpV P o env H (.rp cs):=
 he▸Qhm h f d a hx hy
end
end Go.Sw
namespace Go.Sw
inductive PL (P:Program):List Field->List (Nat×Nat)->Prop
 |nil:PL P [] []
 |cons {f:Field} {n:Nat} {fs:List Field} {pl:List (Nat×Nat)} (h:∀w,(sizeOf f.type).run P w=.ok n w) (k:PL P fs pl):PL P (f::fs) ((f.offset,n)::pl)
theorem PL.run{P:Program}{fs:List Field}{a:List (Nat×Nat)}(h:PL P fs a):∀w,(fs.mapM λf=>(do pure (f.offset, <- sizeOf f.type):Sem (Nat×Nat))).run P w=.ok a w:=by
 induction h with
 |nil=>intro w;rfl
 |cons h _ ih=>
  intro w;rw[List.mapM_cons];simp only[Vn,h,Result.andThen,Vp,ih]
structure QD (P:Program) (t:TypeId) (pl:List (Nat×Nat)):Prop where
 un:∃fs:List Field,(∀w,(underlying t).run P w=.ok (.struct fs.toArray) w)/\PL P fs pl
section
variable {P:Program} {o:Oper} {env:Env} {H:Qc}
def Qd0(env:Env)(pl:List (Nat×Nat)):List A->List (Nat×Operand)->Option (List A)
 |cs,[]=>some cs
 |cs,(i,x)::r=>match pl[i]? with
  |none=>none
  |some (off,size)=>bif Q8 (opA env x)&&Nat.beq (Yi (opA env x)).length size&&Nat.ble (off+size) cs.length then Qd0 env pl (splice cs off (Yi (opA env x))) r else none
theorem Qe6{fr ro:Nat->Prop}{σ:Sig}{N:Nat}{a:Act}{w:World}(r:Rel fr ro σ H env N a w){b:List (Nat×Nat)}:∀(parts:List (Nat×Operand)) (cs:List A) (l:List Value) (cs':List A),
  LR ro σ w cs l->Qd0 env b cs parts=some cs'->
  ∃l',Instr.fill (b.toArray[·]?) l.toArray (parts.map λp=>(p.1,a.eval p.2))=some l'.toArray/\LR ro σ w cs' l'
 |[],cs,l,cs',h,q=>by
  cases q;exact⟨l,rfl,h⟩
 |(i,x)::rest,cs,l,cs',h,q=>by
  unfold Qd0 at q;cases hp:b[i]? with
  |none=>rw[hp]at q;cases q
  |some p=>
   obtain⟨off,size⟩:=p;rw[hp]at q;simp only at q;cases hc:(Q8 (opA env x)&&Nat.beq (Yi (opA env x)).length size&&Nat.ble (off+size) cs.length)with
   |false=>rw[hc]at q;cases q
   |true=>
    rw[hc]at q;simp only[XX]at hc;obtain⟨⟨c1,c2⟩,c3⟩:=hc;obtain⟨m,q1,q2⟩:=(Qd r x).cells c1;have hm:m.length=size:=by rw[q2.length];exact XR c2
    have f:l.length=cs.length:=h.length;obtain⟨l',e,d⟩:=Qe6 r rest _ (splice l off m) cs' (h.splice off q2) q;refine⟨l',?_,d⟩;rw[Vk,Qgb (off:=off) (size:=size) (by simpa using hp) q1 hm (by rw[f];exact XS c3)];exact e
theorem OpV.build{t:TypeId}{z:Value}{zs cs:List A}{b:List (Nat×Nat)}{parts:List (Nat×Operand)}(q:∀w,(zeroValue t).run P w=.ok z w)(i:ZR (.agg zs) z)(p:QD P t b)
  (m:o.op=.build t parts.toArray:=by exact rfl)(hf:Qd0 env b zs parts=some cs:=by exact rfl):OpV P o env H (.agg cs):=by
 intro u h σ N a w r;obtain⟨s,j,e⟩:=p.un;obtain⟨l,rfl,k⟩:=i h σ w;obtain⟨d,n,g⟩:=Qe6 r parts zs l cs k hf;refine⟨.agg d.toArray,?_,d,rfl,g⟩;generalize hρ:a.eval=ρ at*;have f:=e.run w;simp only[execOp,m,Instr.build,Vn,q,Result.andThen,j,XJ,List.mapM_toArray,Sem.run_map,f,Value.cells,n,Vp]
end
section
variable {P:Program} {o:Oper} {env:Env} {H:Qc}
theorem Yw{x:Operand}{a:A}(g:o.op=.nilCheck x)(i:opA env x=a:=by exact rfl)(hk:(match a with|.ptr _ _=>true|.rp _=>true|_=>false)=true:=by exact rfl):OpV P o env H a:=by
 intro k j σ N ac w r;have h:=Qd r x;rw[i]at h;cases a<;>first|(cases hk;done)|skip
 .obtain⟨b,f,d⟩:=h;refine⟨_,?_,b,f,rfl⟩;generalize ac.eval=ρ at*;simp[execOp,g,d,go_sem]
 .obtain⟨b,e,f,d⟩:=h;refine⟨_,?_,b,e,rfl,d⟩;generalize ac.eval=ρ at*;simp[execOp,g,f,go_sem]
end
mutual
def FzA(i k:Nat)(es:List (List A)):A->A->Prop
 |.agg az,b=>∃bs,b=.agg bs/\FzL i k es az bs
 |.fn f x c,b=>∃x' c',b=.fn f x' c'/\FzL i k es x x'/\FzL i k es c c'
 |.iface t a,b=>∃a',b=.iface t a'/\FzA i k es a a'
 |.tup az,b=>∃bs,b=.tup bs/\FzL i k es az bs
 |.osl j o n k',b=>b=.osl j o n k'\/(j=i/\o=0/\k'=k/\n=es.length/\b=.rsl k es)
 |.nils,b=>b=.nils\/ ∃k',b=.rsl k' []
 |a,b=>b=a
def FzL(i k:Nat)(es:List (List A)):List A->List A->Prop
 |[],b=>b=[]
 |a::az,b=>∃a' as',b=a'::as'/\FzA i k es a a'/\FzL i k es az as'
end
mutual
theorem FzA.refl{i k:Nat}{es:List (List A)}:∀a:A,FzA i k es a a
 |.agg az=>⟨az,rfl,FzL.refl az⟩
 |.fn _ x c=>⟨x,c,rfl,FzL.refl x,FzL.refl c⟩
 |.iface _ a=>⟨a,rfl,FzA.refl a⟩
 |.tup az=>⟨az,rfl,FzL.refl az⟩
 |.osl _ _ _ _=>.inl rfl
 |.nils=>.inl rfl
 |.any=>rfl
 |.bool _=>rfl
 |.int _ _=>rfl
 |.str _=>rfl
 |.nilp=>rfl
 |.ptr _ _=>rfl
 |.rp _=>rfl
 |.rsl _ _=>rfl
 |.nilf=>rfl
 |.nilif=>rfl
 |.map _=>rfl
 |.nilm=>rfl
theorem FzL.refl{i k:Nat}{es:List (List A)}:∀az:List A,FzL i k es az az
 |[]=>rfl
 |a::az=>⟨a,az,rfl,FzA.refl a,FzL.refl az⟩
end
theorem FzA.agg{i k:Nat}{es:List (List A)}{az bs:List A}(h:FzL i k es az bs):FzA i k es (.agg az) (.agg bs):=⟨bs,rfl,h⟩
theorem FzA.tup{i k:Nat}{es:List (List A)}{az bs:List A}(h:FzL i k es az bs):FzA i k es (.tup az) (.tup bs):=⟨bs,rfl,h⟩
theorem FzA.iface{i k:Nat}{es:List (List A)}{t:Nat}{a b:A}(h:FzA i k es a b):FzA i k es (.iface t a) (.iface t b):=⟨b,rfl,h⟩
theorem FzA.own{i k n:Nat}{es:List (List A)}(hn:n=es.length):FzA i k es (.osl i 0 n k) (.rsl k es):=.inr ⟨rfl,rfl,rfl,hn,rfl⟩
theorem FzA.nil{i k k':Nat}{es:List (List A)}:FzA i k es .nils (.rsl k' []):=.inr ⟨k',rfl⟩
theorem FzL.cons{i k:Nat}{es:List (List A)}{a b:A}{az bs:List A}(h:FzA i k es a b)(q:FzL i k es az bs):FzL i k es (a::az) (b::bs):=⟨b,bs,rfl,h,q⟩
mutual
theorem QjM{i k:Nat}{es:List (List A)}{ro ro':Nat->Prop}{σ:Sig}{w:World}(ext:Ext ro σ w ro' σ w)
  (hf:∀v,VR ro σ w (.osl i 0 es.length k) v->VR ro' σ w (.rsl k es) v):∀(a b:A) (v:Value),FzA i k es a b->VR ro σ w a v->VR ro' σ w b v
 |.agg az,b,v,h,q=>by
  obtain⟨bs,rfl,h⟩:=h;obtain⟨l,rfl,q⟩:=q;exact⟨l,rfl,QdL ext hf az bs l h q⟩
 |.fn f x c,b,v,h,q=>by
  obtain⟨x',c',rfl,h1,h2⟩:=h;obtain⟨l,l',rfl,q1,q2⟩:=q;exact⟨l,l',rfl,QdL ext hf x x' l h1 q1,QdL ext hf c c' l' h2 q2⟩
 |.iface t a,b,v,h,q=>by
  obtain⟨a',rfl,h⟩:=h;obtain⟨x,rfl,q⟩:=q;exact⟨x,rfl,QjM ext hf a a' x h q⟩
 |.tup az,b,v,h,q=>by
  obtain⟨bs,rfl,h⟩:=h;obtain⟨l,rfl,q⟩:=q;exact⟨l,rfl,QdL ext hf az bs l h q⟩
 |.osl j o n k',b,v,h,q=>by
  rcases h with rfl|⟨rfl,rfl,rfl,rfl,rfl⟩
  .exact q.mono ext
  .exact hf v q
 |.nils,b,v,h,q=>by
  rcases h with rfl|⟨k',rfl⟩
  .exact q
  .obtain rfl:v=.slice none 0 0:=q;exact⟨none,0,rfl,XU _,.inl rfl⟩
 |.any,b,v,h,q=>by obtain rfl:b=_:=h;trivial
 |.bool _,b,v,h,q=>by obtain rfl:b=_:=h;exact q
 |.int _ _,b,v,h,q=>by obtain rfl:b=_:=h;exact q
 |.str _,b,v,h,q=>by obtain rfl:b=_:=h;exact q
 |.nilp,b,v,h,q=>by obtain rfl:b=_:=h;exact q
 |.ptr _ _,b,v,h,q=>by obtain rfl:b=_:=h;exact q.mono ext
 |.rp _,b,v,h,q=>by obtain rfl:b=_:=h;exact q.mono ext
 |.rsl _ _,b,v,h,q=>by obtain rfl:b=_:=h;exact q.mono ext
 |.nilf,b,v,h,q=>by obtain rfl:b=_:=h;exact q
 |.nilif,b,v,h,q=>by obtain rfl:b=_:=h;exact q
 |.map _,b,v,h,q=>by obtain rfl:b=_:=h;exact q.mono ext
 |.nilm,b,v,h,q=>by obtain rfl:b=_:=h;exact q
theorem QdL{i k:Nat}{es:List (List A)}{ro ro':Nat->Prop}{σ:Sig}{w:World}(ext:Ext ro σ w ro' σ w)
  (hf:∀v,VR ro σ w (.osl i 0 es.length k) v->VR ro' σ w (.rsl k es) v):∀(az bs:List A) (l:List Value),FzL i k es az bs->LR ro σ w az l->LR ro' σ w bs l
 |[],bs,l,h,q=>by obtain rfl:bs=[]:=h;exact q
 |a::az,bs,l,h,q=>by
  obtain⟨a',as',rfl,h1,h2⟩:=h;obtain⟨v,l',rfl,q1,q2⟩:=q;exact⟨v,l',rfl,QjM ext hf a a' v h1 q1,QdL ext hf az as' l' h2 q2⟩
end
def FzB(i k:Nat)(es:List (List A))(x y:Blk):Prop:=y=x\/ ∃t cs cs',x=.cells t cs/\y=.cells t cs'/\FzL i k es cs cs'
def FzH(i k:Nat)(es:List (List A)):Qc->Qc->Prop
 |[],h=>h=[]
 |x::r,h=>∃y r',h=y::r'/\FzB i k es x y/\FzH i k es r r'
def Qnn(i k:Nat)(es:List (List A))(env:Env):Env->Prop
 |[]=>True
 |(s,a)::r=>FzA i k es (lk env s) a/\Qnn i k es env r
theorem FzH.nil{i k:Nat}{es:List (List A)}:FzH i k es [] []:=rfl
theorem FzH.keep{i k:Nat}{es:List (List A)}{x:Blk}{r r':Qc}(h:FzH i k es r r'):FzH i k es (x::r) (x::r'):=⟨x,r',rfl,.inl rfl,h⟩
theorem FzH.cells{i k t:Nat}{es:List (List A)}{cs cs':List A}{r r':Qc}(q:FzL i k es cs cs')(h:FzH i k es r r'):FzH i k es (.cells t cs::r) (.cells t cs'::r'):=⟨_,r',rfl,.inr ⟨t,cs,cs',rfl,rfl,q⟩,h⟩
theorem FzH.get{i k:Nat}{es:List (List A)}:∀{H H':Qc},FzH i k es H H'->∀(j:Nat) (y:Blk),H'[j]?=some y->∃x,H[j]?=some x/\FzB i k es x y
 |[],_,h,j,y,q=>by obtain rfl:_=[]:=h;simp at q
 |x::r,_,h,j,y,q=>by
  obtain⟨y',r',rfl,h1,h2⟩:=h;cases j with
  |zero=>simp at q;subst q;exact⟨x,rfl,h1⟩
  |succ j=>simp at q;obtain⟨x',p1,p2⟩:=h2.get j y q;exact⟨x',by simpa using p1,p2⟩
theorem FzH.len{i k:Nat}{es:List (List A)}:∀{H H':Qc},FzH i k es H H'->H'.length=H.length
 |[],_,h=>by obtain rfl:_=[]:=h;rfl
 |x::r,_,h=>by obtain⟨y',r',rfl,h1,h2⟩:=h;simp[h2.len]
theorem FzB.live{i k:Nat}{es:List (List A)}{x y:Blk}(h:FzB i k es x y):y.live=x.live:=by
 rcases h with rfl|⟨t,b,a,rfl,rfl,_⟩<;>rfl
theorem QaU{env:Env}{H H':Qc}{h0 i k t:Nat}{es:List (List A)}(ov:Env)(hi:Nat.ble h0 i=true)(hH:H[i]?=some (.row t k es))(Q:Qnn i k es env ov)(M:FzH i k es (H.set i .dead) H'):Le h0 env H (ov++env) H':=by
 intro fr O σ N a w r
 let ro':Nat->Prop:=λb=>O b\/σ[i]?=some (some b)
 have u:∀b,σ[i]?=some (some b)->b<w.heap.size/\ ¬O b/\ ¬fr b:=λb h=>r.sim.own i b _ h hH rfl;have ext:Ext O σ w ro' σ w:=⟨λ_ q=>.inl q,λ_ _=>rfl,λ_ _ q=>q,λ_ _ q=>q⟩;have hf:∀v,VR O σ w (.osl i 0 es.length k) v->VR ro' σ w (.rsl k es) v:=by
  intro v h;rcases h with⟨h0,h⟩|⟨b,p,F,t',m,g,h,n,B,h4,Y⟩
  .have:es=[]:=VK.1 h0;subst this;exact⟨none,0,h,XU _,.inl rfl⟩
  .refine⟨_,F,h,B,?_⟩;by_cases he:es=[]
   .exact .inl he
   .right;have hc:0<F:=Vg (List.length_pos_iff.2 he) B;obtain rfl:=n hc;obtain⟨l,T,X⟩:=r.sim.blk i _ _ g hH;refine⟨b,0,by simp,.inr g,?_⟩;have:=YI (pre:=[]) (by simpa using T) X;exact this.keep ⟨λ_ q=>.inl q,λ_ _=>rfl,λ_ _ q=>q,λ_ _ q=>q⟩ rfl
 have f:∀(j:Nat) (y:Blk),H'[j]?=some y->y≠ .dead->j≠i/\ ∃x,H[j]?=some x/\FzB i k es x y:=by
  intro j y h P;obtain⟨x,g,n⟩:=M.get j y h;by_cases e:j=i
  .subst e;rw[Xb]at g;simp only[if_true]at g;split at g
   .cases g;rcases n with rfl|⟨_,_,_,q,_,_⟩
    .exact absurd rfl P
    .cases q
   .simp at g
  .rw[XQ (λq=>e q.symm)]at g;exact⟨e,x,g,n⟩
 refine⟨ro',σ,⟨⟨by rw[M.len,X5];exact r.sim.len,r.sim.roOk.to (λ_ q=>.inl q) (λ_ _=>rfl) ?_,r.sim.frLt,?_,?_,?_,?_,r.sim.hidTo (· = ·) QW (XU _) (λj b x c T X q3 q4=>q4.elim id λq=>((r.sim.hid j b x c T X q3).ne i c _ q hH rfl rfl).elim) (λ_ _ _ _ _ _ _ q=>q) λj d y g1 R g3=>.inl ?_⟩,?_,r.size,r.defers⟩,λ_ q=>.inl q,rfl⟩
 rotate_left 5
 .obtain⟨_,x,g4,g5⟩:=f j y R (Qev g3);exact⟨j,x,rfl,g1,g4,λz=>by rw[<- g5.live];exact z,λc q=>by rcases g5 with rfl|⟨t,cs,L,rfl,rfl,_⟩;exact q;exact q.elim⟩
 rotate_left 1
 .rintro b (q|q)
  .exact r.sim.roLt b q
  .exact(u b q).1
 .rintro b (q|q)
  .exact r.sim.roFr b q
  .exact(u b q).2.2
 .intro j b v g n B;obtain⟨e,x,n,E⟩:=f j v n (Qay B);have hx:x.live=true:=by rw[<- E.live];exact B
  obtain⟨G,J,p3⟩:=r.sim.own j b x g n hx;refine⟨G,?_,p3⟩;rintro(q|q)
  .exact J q
  .exact e (r.sim.inj j i b x _ g q n hH hx rfl)
 .intro j j' b v v' g n B h4 Y h6;obtain⟨_,x,G,J⟩:=f j v B (Qay Y);obtain⟨_,x',V,W⟩:=f j' v' h4 (Qay h6);exact r.sim.inj j j' b x x' g n G V (by rw[<- J.live];exact Y) (by rw[<- W.live];exact h6)
 .intro j s v g n;by_cases P:v≠ .dead
  .obtain⟨_,x,G,J⟩:=f j v n P;have E:=r.sim.blk j s x g G;rcases J with rfl|⟨t,cs,L,rfl,rfl,q⟩
   .exact E.keep ext (λ_ _ _=>rfl) (λ_ _ _ _=>rfl)
   .cases s with
    |none=>exact E.elim
    |some b=>
     obtain⟨l,e1,e2,e3⟩:=E;exact⟨l,e1,QdL ext hf cs L l q e2,e3⟩
  .obtain rfl:v=.dead:=Classical.not_not.1 P;trivial
 .intro s
  induction ov with
  |nil=>exact(r.env s).mono ext
  |cons p ov ih=>
   obtain⟨s1,a1⟩:=p;obtain⟨g1,R⟩:=Q;simp only[VL,lk];cases q:Nat.beq s s1 with
   |true=>
    obtain rfl:=XR q;exact QjM ext hf _ _ _ g1 (r.env s)
   |false=>exact ih R
theorem Qnn.nil{i k:Nat}{es:List (List A)}{env:Env}:Qnn i k es env []:=trivial
theorem Qnn.cons{i k s:Nat}{es:List (List A)}{env:Env}{a b:A}{r:Env}(h:lk env s=a)(q:FzA i k es a b)(g:Qnn i k es env r):Qnn i k es env ((s,b)::r):=⟨h▸q,g⟩
def Qc9(P:Program)(env:Env)(H:Qc)(l:ResultVar)(x:A):Prop:=
 ∀fr ro σ N a w,Rel fr ro σ H env N a w->∃v,((match l with
  |.tmp t=>pure (a.tmps.getD t undef)
  |.cell b t=>do loadVar t (<- asAddr (a.tmps.getD b undef)):Sem Value)).run P w=.ok v w/\VR ro σ w x v
def QjC(P:Program)(env:Env)(H:Qc):List ResultVar->List A->Prop
 |[],xs=>xs=[]
 |l::ls,xs=>∃x xs',xs=x::xs'/\Qc9 P env H l x/\QjC P env H ls xs'
section
variable {P:Program} {fn:Func} {env:Env} {H:Qc}
theorem Qc9.tmp{t:Nat}{x:A}(b:lk env t=x:=by exact rfl):Qc9 P env H (.tmp t) x:=
 λfr ro σ N a w r=>⟨a.tmps.getD t undef,rfl,b▸r.env t⟩
theorem Qc9.cell{b t:Nat}{p x:A}{cs:List A}(j:∀w,(isAgg t).run P w=.ok false w)(m:Pts H p (x::cs))(k:lk env b=p:=by exact rfl):Qc9 P env H (.cell b t) x:=by
 intro h g σ N a w r;have d:=r.env b;rw[k]at d;obtain⟨n,i,e,⟨y,f,_,l⟩,_⟩:=m h g σ w _ r.sim d;refine⟨y,?_,l⟩;simp only[e];simp[asAddr,loadVar,j,Go.load,Sem.run,f,go_sem]
theorem Qd7{b t n:Nat}{p:A}{cs:List A}(k:∀w,(isAgg t).run P w=.ok true w)(j:∀w,(sizeOf t).run P w=.ok n w)(q:Pts H p cs)(m:lk env b=p:=by exact rfl)(hl:(cs.take n).length=n:=by exact rfl):
  Qc9 P env H (.cell b t) (.agg (cs.take n)):=by
 intro i h σ N a w r;have e:=r.env b;rw[m]at e;obtain⟨u,off,f,g⟩:=q i h σ w _ r.sim e;obtain⟨l,s,_,d⟩:=YC (P:=P) (cs:=cs.take n) (off:=off) 0 (by simpa using g.take n);have d:=d w #[] rfl;rw[hl]at d;refine⟨.agg l.toArray,?_,l,rfl,s⟩;simp only[f];simp[asAddr,loadVar,k,j,loadCells,d,go_sem]
theorem QF{b t n i T:Nat}{cs:List A}(e:∀w,(isAgg t).run P w=.ok true w)(d:∀w,(sizeOf t).run P w=.ok n w)(a:lk env b=.ptr i 0)(hH:H[i]?=some (.cells T cs))(hl:cs.length=n):
  Qc9 P env H (.cell b t) (.agg cs):=by
 have:=Qd7 (b:=b) (p:=.ptr i 0) e d (Pts.cells (off:=0) hH rfl) a (by subst hl;simp);subst hl;simpa using this
theorem Jn{b t i T:Nat}{x:A}(ha:∀w,(isAgg t).run P w=.ok false w)(hx:lk env b=.ptr i 0)(hH:H[i]?=some (.cells T [x])):Qc9 P env H (.cell b t) x:=
 Qc9.cell (p:=.ptr i 0) (cs:=[]) ha (Pts.cells (off:=0) hH rfl) hx
theorem QjC.nil:QjC P env H [] []:=rfl
theorem QjC.cons{l:ResultVar}{ls:List ResultVar}{x:A}{xs:List A}(h:Qc9 P env H l x)(k:QjC P env H ls xs):QjC P env H (l::ls) (x::xs):=⟨x,xs,rfl,h,k⟩
theorem QjC.run{fr ro:Nat->Prop}{σ:Sig}{N:Nat}{a:Act}{w:World}(r:Rel fr ro σ H env N a w):∀{ls:List ResultVar} {xs:List A},QjC P env H ls xs->
  ∃vs:List Value,(ls.mapM λl=>(match l with
   |.tmp t=>pure (a.tmps.getD t undef)
   |.cell b t=>do loadVar t (<- asAddr (a.tmps.getD b undef)):Sem Value)).run P w=.ok vs w/\LR ro σ w xs vs
 |[],_,h=>by obtain rfl:_=[]:=h;exact⟨[],rfl,rfl⟩
 |l::ls,_,h=>by
  obtain⟨x,xs,rfl,h1,h2⟩:=h;obtain⟨v,e1,e2⟩:=h1 fr ro σ N a w r;obtain⟨vs,e3,e4⟩:=QjC.run r h2;refine⟨v::vs,?_,v,vs,rfl,e2,e4⟩;rw[List.mapM_cons];simp only[Vn,e1,Result.andThen,e3,Vp]
theorem QQ{ls:List ResultVar}{xs:List A}(h:fn.results=ls.toArray)(d:Nat.beq ls.length 1=false)(k:QjC P env H ls xs):Qc8 P fn env H (.tup xs):=by
 intro n m σ N a w r;obtain⟨vs,j,e⟩:=k.run r;have b:¬vs.length=1:=by
  have:∀{ls:List ResultVar} {xs:List A},QjC P env H ls xs->xs.length=ls.length:=by
   intro ls
   induction ls with
   |nil=>intro xs h;obtain rfl:xs=[]:=h;rfl
   |cons l ls f=>intro xs h;obtain⟨x,i,rfl,_,g⟩:=h;simp[f g]
  rw[e.length,this k];intro q;rw[q]at d;cases d
 refine⟨.tuple vs.toArray,?_,vs,rfl,e⟩;unfold results;rw[h];rw[List.mapM_toArray,Vn,Sem.run_map]
 erw [j]
 simp[Result.andThen,b,Vp]
theorem QaF{l:ResultVar}{x:A}(h:fn.results= #[l])(k:Qc9 P env H l x):Qc8 P fn env H x:=by
 intro f e σ N a w r;obtain⟨vs,d,b⟩:=(QjC.cons k QjC.nil).run r;obtain⟨v,_,rfl,b,rfl⟩:=b;refine⟨v,?_,b⟩;unfold results;rw[h,show #[l]=[l].toArray from rfl];rw[List.mapM_toArray,Vn,Sem.run_map]
 erw [d]
 rfl
end
end Go.Sw
namespace Go.Sw
mutual
def QbO:A->Bool
 |.bool _=>true
 |.int _ _=>true
 |.str _=>true
 |.agg cs=>QeE cs
 |_=>false
def QeE:List A->Bool
 |[]=>true
 |a::r=>QbO a&&QeE r
end
mutual
def QA:A->Value
 |.bool b=>.bool b
 |.int k n=>.int k n
 |.str s=>.string ⟨s.toArray⟩
 |.agg cs=>.agg (YO cs).toArray
 |_=>.bool false
def YO:List A->List Value
 |[]=>[]
 |a::r=>QA a::YO r
end
mutual
theorem VR.val{ro:Nat->Prop}{σ:Sig}{w:World}:∀{a:A} {v:Value},QbO a=true->VR ro σ w a v->v=QA a
 |.bool _,_,_,h=>h
 |.int _ _,_,_,h=>h
 |.str _,_,_,h=>h
 |.agg cs,v,hs,h=>by
  obtain⟨l,rfl,h⟩:=h;rw[QA,LR.val hs h]
theorem LR.val{ro:Nat->Prop}{σ:Sig}{w:World}:∀{az:List A} {l:List Value},QeE az=true->LR ro σ w az l->l=YO az
 |[],l,_,h=>h
 |a::r,l,hs,h=>by
  obtain⟨v,l',rfl,h1,h2⟩:=h;simp only[QeE,XX]at hs;rw[YO,VR.val hs.1 h1,LR.val hs.2 h2]
end
mutual
theorem QbY{ro:Nat->Prop}{σ:Sig}{w:World}:∀{a:A},QbO a=true->VR ro σ w a (QA a)
 |.bool _,_=>rfl
 |.int _ _,_=>rfl
 |.str _,_=>rfl
 |.agg cs,hs=>⟨YO cs,rfl,QfE hs⟩
theorem QfE{ro:Nat->Prop}{σ:Sig}{w:World}:∀{az:List A},QeE az=true->LR ro σ w az (YO az)
 |[],_=>rfl
 |a::r,hs=>by
  simp only[QeE,XX]at hs;exact⟨_,_,rfl,QbY hs.1,QfE hs.2⟩
end
end Go.Sw
namespace Go.Sw
open Go.MapKept
structure Y6 (P:Program) (kt:TypeId) {α:Type} (ek:α->A):Prop where
 scl:∀x,QbO (ek x)=true
 inj:∀x y,QA (ek x)=QA (ek y)->x=y
 check:∀(w:World) em x,(Instr.checkKey em 10000 kt (QA (ek x))).run P w=.ok () w
 find:∀(w:World) x (es:List MapEntry),(∀e∈es,∃y,e.key=QA (ek y))->
  ((Instr.findKey kt (QA (ek x)) es).run P w=.ok none w/\ ∀e∈es,e.key≠QA (ek x))\/ ∃j e,(Instr.findKey kt (QA (ek x)) es).run P w=.ok (some (j,e.val)) w/\es[j]?=some e/\e.key=QA (ek x)
 stays:∀(w:World) x,(Instr.keyThatStays (QA (ek x)) (QA (ek x))).run P w=.ok (QA (ek x)) w
section
variable {P:Program} {kt:TypeId}
theorem Y6.plain{α:Type}{ek:α->A}{d:TypeDesc}(f:P.underlying kt=some d)(a:∀x,IsKey d (QA (ek x)))(p:∀x,QbO (ek x)=true)(hi:∀x y,QA (ek x)=QA (ek y)->x=y):Y6 P kt ek:=by
 refine⟨p,hi,λw n x=>run_checkKey f (a x) n 9999,λw x i e=>?_,λw x=>run_keyThatStays (a x)⟩
 .have g:∀y∈i,IsKey d y.key:=λy r=>by
   obtain⟨l,k⟩:=e y r;rw[k];exact a l
  rcases findNow_spec (a x) i 0 g with⟨h,b⟩|⟨j,q,h,b,m⟩
  .exact Or.inl ⟨run_findKey f h,b⟩
  .exact Or.inr ⟨j,q,by simpa using run_findKey f h,b,m⟩
theorem Y6.int{q:IntKind}(hk:P.underlying kt=some (.int q)):Y6 P kt (λn=>A.int q n):=
 Y6.plain hk (λx=>by simp[IsKey,QA]) (λ_=>rfl) (λx y h=>by simpa[QA]using h)
theorem Y6.str(hk:P.underlying kt=some .string):Y6 P kt A.str:=
 Y6.plain hk (λx=>by simp[IsKey,QA]) (λ_=>rfl) (λx y h=>by simpa[QA]using h)
theorem Y6.struct{α:Type}[DecidableEq α]{ek:α->A}{fs:Array Field}(r:P.underlying kt=some (.struct fs))(H:∀x,QbO (ek x)=true)(hi:∀x y,QA (ek x)=QA (ek y)->x=y)
  (F:∀(w:World) em x,(Instr.checkKey em 10000 kt (QA (ek x))).run P w=.ok () w)
  (he:∀(w:World) x y,(Op.equal kt (QA (ek x)) (QA (ek y))).run P w=.ok (decide (x=y)) w)(B:∀x,Instr.sameBits 10000 (QA (ek x)) (QA (ek x))=true):Y6 P kt ek:=by
 refine⟨H,hi,F,λw x a m=>?_,λw x=>by simp[Instr.keyThatStays,B x]⟩
 .have d:∀(a:List MapEntry) (i:Nat),(∀e∈a,∃y,e.key=QA (ek y))->
    ((Instr.findAsking kt (QA (ek x)) a i).run P w=.ok none w/\ ∀e∈a,e.key≠QA (ek x))\/
    ∃j e,(Instr.findAsking kt (QA (ek x)) a i).run P w=.ok (some (i+j,e.val)) w/\a[j]?=some e/\e.key=QA (ek x):=by
   intro a
   induction a with
   |nil=>intro i _;exact .inl ⟨by simp[Instr.findAsking],by simp⟩
   |cons e a s=>
    intro i f;obtain⟨y,g⟩:=f e (by simp);have n:=he w x y;by_cases b:x=y
    .subst b;exact .inr ⟨0,e,by simp[Instr.findAsking,g,n],rfl,g⟩
    .rcases s (i+1) (λz h=>f z (by simp[h]))with⟨p,k⟩|⟨j,E,p,k,t⟩
     .refine .inl ⟨by simp[Instr.findAsking,g,n,b,p],λz h=>?_⟩;rcases X7.1 h with rfl|h
      .rw[g];intro q;exact b (hi _ _ q).symm
      .exact k z h
     .exact .inr ⟨j+1,E,by simp[Instr.findAsking,g,n,b,p,Nat.add_assoc,Nat.add_comm 1 j],by simpa using k,t⟩
  cases a with
  |nil=>exact .inl ⟨by simp[Instr.findKey,run_underlying r,Instr.findNow,Result.andThen],by simp⟩
  |cons e a=>
   have G:Instr.findNow (.struct fs) (QA (ek x)) (e::a) 0=none:=by
    simp only[Instr.findNow];have:∀v l,Instr.sameNow (.struct fs) v l=none:=by intro v l;cases v<;>cases l<;>rfl
    rw[this]
   have u:(Instr.findKey kt (QA (ek x)) (e::a)).run P w=(Instr.findAsking kt (QA (ek x)) (e::a) 0).run P w:=by
    simp only[Instr.findKey,Vn,run_underlying r,Result.andThen,G]
   rw[u];simpa using d (e::a) 0 m
def YD{α β:Type}[DecidableEq α](l:List (α×β))(k:α):Option β:=(l.find? λp=>decide (p.1=k)).map (·.2)
def QO{α β:Type}[DecidableEq α](l:List (α×β))(k:α)(v:β):List (α×β):=bif l.any λp=>decide (p.1=k)then l.map λp=>bif decide (p.1=k)then(p.1,v)else p else l++[(k,v)]
def Qo{α β:Type}[DecidableEq α](l:List (α×β))(k:α)(z:β):β:=(YD l k).getD z
def Qbr{α β:Type}[DecidableEq α](l:List (α×β))(k:α):Bool:=l.any λp=>decide (p.1=k)
def mdel{α β:Type}[DecidableEq α](l:List (α×β))(k:α):List (α×β):=l.filter λp=> !decide (p.1=k)
def Qk{α β:Type}(ek:α->A)(ev:β->A)(l:List (α×β)):List (A×A):=l.map λp=>(ek p.1,ev p.2)
section
variable {α β:Type} [DecidableEq α] {ek:α->A} {ev:β->A} {ro:Nat->Prop} {σ:Sig} {w:World} (K:Y6 P kt ek)
include K
theorem Qhs:∀{l:List (α×β)} {es:List MapEntry},ER ro σ w (Qk ek ev l) es->es.map (·.key)=l.map λp=>QA (ek p.1)
 |[],es,h=>by cases(show es=[]from h);rfl
 |p::l,es,h=>by
  obtain⟨e,l',rfl,h1,h2,h3⟩:=h;simp only[Vk];rw[VR.val (K.scl _) h1,Qhs (l:=l) h3]
theorem Qbl{l:List (α×β)}{es:List MapEntry}(h:ER ro σ w (Qk ek ev l) es):∀e∈es,∃y,e.key=QA (ek y):=by
 intro e a;have:e.key∈es.map (·.key):=VH a;rw[Qhs K h]at this;obtain⟨p,_,b⟩:=Xf.1 this;exact⟨p.1,b.symm⟩
theorem ER.find:∀{l:List (α×β)} {es:List MapEntry},ER ro σ w (Qk ek ev l) es->∀(x:α),(es.map (·.key)).Nodup->
  ((∀e:MapEntry,e∈es->e.key≠QA (ek x))->YD l x=none/\Qbr l x=false)/\
  (∀(j:Nat) (e:MapEntry),es[j]?=some e->e.key=QA (ek x)->Qbr l x=true/\ ∃v,YD l x=some v/\VR ro σ w (ev v) e.val)
 |[],es,h,x,_=>by
  cases(show es=[]from h);exact⟨λ_=>⟨rfl,rfl⟩,λj e he=>by simp at he⟩
 |p::l,es,h,x,hn=>by
  obtain⟨e0,l',rfl,h1,h2,h3⟩:=h;have hk:e0.key=QA (ek p.1):=VR.val (K.scl _) h1;simp only[Vk,List.nodup_cons]at hn;obtain⟨a1,a2⟩:=ER.find (l:=l) h3 x hn.2;by_cases hp:p.1=x
  .subst hp;constructor
   .intro q;exact absurd hk (q e0 (by simp))
   .intro j e he hx;cases j with
    |zero=>
     simp only[XF,Option.some.injEq]at he;subst he;exact⟨by simp[Qbr],p.2,by simp[YD],h2⟩
    |succ j=>
     simp only[XG]at he;exact absurd (hk.trans hx.symm▸VH (f:=λe:MapEntry=>e.key) (VI he)) hn.1
  .have e1:YD (p::l) x=YD l x:=by simp[YD,hp]
   have a:Qbr (p::l) x=Qbr l x:=by simp[Qbr,hp]
   rw[e1,a];constructor
   .intro q;exact a1 λe he=>q e (by simp[he])
   .intro j e he hx;cases j with
    |zero=>
     simp only[XF,Option.some.injEq]at he;subst he;exact absurd (K.inj _ _ (hk.symm.trans hx)) hp
    |succ j=>exact a2 j e (by simpa using he) hx
end
end
end Go.Sw
namespace Go.Sw
open Go.MapKept
section
variable {P:Program} {o:Oper} {env:Env} {H:Qc}
theorem Q6{T:Nat}(b:o.op=.makeMap T none:=by exact rfl):OpH P o env H (.map H.length) (H++[.map []]):=by
 intro e d σ N a w r;refine⟨.map (some w.heap.size),w.alloc (.map #[] 0),d,[some w.heap.size],?_,⟨w.heap.size,?_,rfl⟩,r.sim.alloc ⟨#[],0,Q9 _ _,rfl,by simp,by simp,by simp⟩,Qe.alloc _ r.sim.roLt r.sim.frLt⟩
 .generalize a.eval=ρ at*;simp only[execOp,b,Instr.makeMap,Xl,Vn];rfl
 .rw[<- r.sim.len];simp
section
variable {T kt et:Nat} {α β:Type} [DecidableEq α] {ek:α->A} {ev:β->A} {x y:Operand} {i:Nat} {l:List (α×β)} {k:α} {z0:β} {z:Value}
theorem Qcu(K:Y6 P kt ek){ro:Nat->Prop}{w:World}(n:P.underlying T=some (.map kt et))(u:∀w,(zeroValue et).run P w=.ok z w)(d:ZR (ev z0) z){b a:Nat}{es:Array MapEntry}
  (m:w.heap[b]?=some (.map es a))(he:ER ro [] w (Qk ek ev l) es.toList)(q:(es.toList.map (·.key)).Nodup):
  ∃v,(∀ck,(Instr.lookup T (.map (some b)) (QA (ek k)) ck).run P w=.ok (if ck then .tuple #[v,.bool (Qbr l k)]else v) w)/\VR ro [] w (ev (Qo l k z0)) v:=by
 obtain⟨s,p⟩:=ER.find K he k q;rcases K.find w k es.toList (Qbl K he)with⟨i,f⟩|⟨j,e,i,f,r⟩
 .obtain⟨g,h⟩:=s f;refine⟨z,λck=>?_,?_⟩
  .simp only[Instr.lookup,Vn,run_underlying n,Result.andThen,MapKept.run_getObj_map m,Vp,K.check,i,u,h]
  .rw[Qo,g];exact d _ _ _
 .obtain⟨g,v,h,t⟩:=p j e f r;refine⟨e.val,λck=>?_,?_⟩
  .simp only[Instr.lookup,Vn,run_underlying n,Result.andThen,MapKept.run_getObj_map m,Vp,K.check,i,g]
  .rw[Qo,h];exact t
theorem Yj{f:β}(K:Y6 P kt ek)(s:some (Qo l k z0)=some f)(J:P.underlying T=some (.map kt et))(B:∀w,(zeroValue et).run P w=.ok z w)(e:ZR (ev z0) z)
  (L:o.op=.lookup T x y false:=by exact rfl)(hx:opA env x=.map i:=by exact rfl)(hH:H[i]?=some (.map (Qk ek ev l)):=by exact rfl)(hy:opA env y=ek k:=by exact rfl):OpV P o env H (ev f):=by
 obtain rfl:=X0 s;intro V R σ N a w r;have h:=Qd r x;rw[hx]at h;obtain⟨b,u,p⟩:=h;have g:=Qd r y;rw[hy]at g;have m:=VR.val (K.scl _) g;obtain⟨M,d,E,G,O,Q,n⟩:=r.sim.blk i _ _ u hH;obtain⟨v,t,F⟩:=Qcu (T:=T) (z0:=z0) (k:=k) K J B e E G n;refine⟨v,?_,F.mono ⟨λ_ q=>q,λ_ _=>rfl,λ_ _ q=>q,λj c q=>by simp at q⟩⟩;have:=t false;simp only[execOp,L,p,m,Vn,this,Result.andThen];rfl
theorem QjG{f:β}(K:Y6 P kt ek)(s:some (Qo l k z0)=some f)(J:P.underlying T=some (.map kt et))(B:∀w,(zeroValue et).run P w=.ok z w)(e:ZR (ev z0) z)
  (L:o.op=.lookup T x y true:=by exact rfl)(hx:opA env x=.map i:=by exact rfl)(hH:H[i]?=some (.map (Qk ek ev l)):=by exact rfl)(hy:opA env y=ek k:=by exact rfl):OpV P o env H (.tup [ev f,.bool (Qbr l k)]):=by
 obtain rfl:=X0 s;intro V R σ N a w r;have h:=Qd r x;rw[hx]at h;obtain⟨b,u,p⟩:=h;have g:=Qd r y;rw[hy]at g;have m:=VR.val (K.scl _) g;obtain⟨M,d,E,G,O,Q,n⟩:=r.sim.blk i _ _ u hH;obtain⟨v,t,F⟩:=Qcu (T:=T) (z0:=z0) (k:=k) K J B e E G n;refine⟨.tuple #[v,.bool (Qbr l k)],?_,[v,.bool (Qbr l k)],rfl,v,_,rfl,F.mono ⟨λ_ q=>q,λ_ _=>rfl,λ_ _ q=>q,λj c q=>by simp at q⟩,_,_,rfl,rfl,rfl⟩;have:=t true;simp only[execOp,L,p,m,Vn,this,Result.andThen];rfl
theorem Qln{f:β}(K:Y6 P kt ek)(s:some (Qo l k z0)=some f)(J:P.underlying T=some (.map kt et))(B:∀w,(zeroValue et).run P w=.ok z w)(e:ZR (ev z0) z)
  (L:o.op=.lookup T x y false:=by exact rfl)(hx:opA env x=.map i:=by exact rfl)(hH:H[i]?=some (.fmap (Qk ek ev l)):=by exact rfl)(hy:opA env y=ek k:=by exact rfl):OpV P o env H (ev f):=by
 obtain rfl:=X0 s;intro V R σ N a w r;have h:=Qd r x;rw[hx]at h;obtain⟨b,u,p⟩:=h;have g:=Qd r y;rw[hy]at g;have m:=VR.val (K.scl _) g;obtain⟨_,M,d,E,G,O,Q,n⟩:=r.sim.blk i _ _ u hH;obtain⟨v,t,F⟩:=Qcu (T:=T) (z0:=z0) (k:=k) K J B e E G n;refine⟨v,?_,F.mono ⟨λ_ q=>q,λ_ _=>rfl,λ_ _ q=>q,λj c q=>by simp at q⟩⟩;have:=t false;simp only[execOp,L,p,m,Vn,this,Result.andThen];rfl
theorem ER.append{ro:Nat->Prop}{σ:Sig}{w:World}:∀{l m:List (A×A)} {es fs:List MapEntry},ER ro σ w l es->ER ro σ w m fs->ER ro σ w (l++m) (es++fs)
 |[],m,es,fs,h,k=>by cases(show es=[]from h);exact k
 |p::l,m,es,fs,h,k=>by
  obtain⟨e,l',rfl,h1,h2,h3⟩:=h;exact⟨e,l'++fs,rfl,h1,h2,ER.append h3 k⟩
theorem ER.put(K:Y6 P kt ek){ro:Nat->Prop}{w w':World}{v:β}{val:Value}(a:Ext ro [] w ro [] w')(b:VR ro [] w (ev v) val):∀{l:List (α×β)} {es:List MapEntry} {j:Nat} {e:MapEntry},ER ro [] w (Qk ek ev l) es->
  (es.map (·.key)).Nodup->es[j]?=some e->e.key=QA (ek k)->
  ER ro [] w' (Qk ek ev (l.map λp=>bif decide (p.1=k)then(p.1,v)else p)) (es.modify j λe=>{e with key:=QA (ek k),val:=val})
 |[],es,j,e,h,hn,he,hk=>by cases(show es=[]from h);simp at he
 |p::l,es,j,e,h,hn,he,hk=>by
  obtain⟨e0,l',rfl,h1,h2,h3⟩:=h;have hk0:e0.key=QA (ek p.1):=VR.val (K.scl _) h1;simp only[Vk,List.nodup_cons]at hn;cases j with
  |zero=>
   simp only[XF,Option.some.injEq]at he;subst he;have hp:p.1=k:=K.inj _ _ (hk0.symm.trans hk);simp only[List.modify_zero_cons];have e1:Qk ek ev ((p::l).map λp=>bif decide (p.1=k)then(p.1,v)else p)=(ek p.1,ev v)::Qk ek ev l:=by
    simp only[Qk,Vk,hp,decide_true,Vq,List.map_map,List.cons.injEq,true_and];apply List.map_congr_left;intro q d;have:q.1≠k:=by
     intro e;refine hn.1 ?_;rw[Qhs K h3];exact Xf.2 ⟨q,d,by rw[e, <- hp,hk0]⟩
    simp[this]
   rw[e1];refine⟨_,l',rfl,?_,b.mono a,h3.mono a⟩;show VR ro [] w' (ek p.1) (QA (ek k));rw[<- hp];exact QbY (K.scl _)
  |succ j=>
   simp only[XG]at he;have hp:p.1≠k:=by
    intro q;refine hn.1 (Xf.2 ⟨e,VI he,?_⟩);rw[hk,hk0,q]
   simp only[List.modify_succ_cons];have e1:Qk ek ev ((p::l).map λp=>bif decide (p.1=k)then(p.1,v)else p)=(ek p.1,ev p.2)::Qk ek ev (l.map λp=>bif decide (p.1=k)then(p.1,v)else p):=by
    simp[Qk,hp]
   rw[e1];exact⟨_,_,rfl,h1.mono a,h2.mono a,ER.put K a b h3 hn.2 he hk⟩
theorem Yr{m:List (α×β)}(K:Y6 P kt ek){v:β}{zz:Operand}(hm:some (QO l k v)=some m)(J:Ym (ev v)=true)(hT:P.underlying T=some (.map kt et))
  (ho:o.op=.mapUpdate T x y zz:=by exact rfl)(hx:opA env x=.map i:=by exact rfl)(hH:H[i]?=some (.map (Qk ek ev l)):=by exact rfl)(M:opA env y=ek k:=by exact rfl)(hv:opA env zz=ev v:=by exact rfl):
  OpU P o env H (H.set i (.map (Qk ek ev m))):=by
 obtain rfl:=X0 hm;intro fr ro σ N a w r;have h1:=Qd r x;rw[hx]at h1;obtain⟨b,q1,q2⟩:=h1;have h2:=Qd r y;rw[M]at h2;have h3:=VR.val (K.scl _) h2;have h4:=Qd r zz;rw[hv]at h4;have Q:VR ro [] w (ev v) (a.eval zz):=VR.data J h4;obtain⟨z,s,O,V,p3,p4,W⟩:=r.sim.blk i _ _ q1 hH;obtain⟨f1,f2⟩:=ER.find K V k W;have R:∀(obj:Obj) y,w.shape? b=some y->({w with heap:=w.heap.setIfInBounds b obj}:World).shape? b=some y:=by
  intro obj y M;unfold World.shape? at M;rw[O]at M;simp at M
 rcases K.find w k z.toList (Qbl K V)with⟨g1,G⟩|⟨j,e,g1,G,X⟩
 .obtain⟨u1,u2⟩:=f1 G;have hl:QO l k v=l++[(k,v)]:=by
   unfold QO;rw[show(l.any λp=>decide (p.1=k))=false from u2];rfl
  have g:=r.sim.set (x':=.map (Qk ek ev (QO l k v))) (obj:=.map (z.push {key:=QA (ek k),val:=a.eval zz,born:=s}) (s+1)) q1 hH rfl (R _)
   (λe B=>⟨_,_,B,by
    rw[hl,Qk,Xg,Array.toList_push];exact(V.mono ⟨e.sub,e.keep,e.shape,λ_ _ q=>q⟩).append ⟨_,_,rfl,QbY (K.scl _),Q.mono ⟨e.sub,e.keep,e.shape,λ_ _ q=>q⟩,rfl⟩,by
    rw[Array.toList_push];intro e B;rcases VE.1 B with q|q
    .exact Nat.lt_succ_of_lt (p3 e q)
    .simp at q;subst q;exact Xo _,by
    rw[Array.toList_push,Xg];refine List.nodup_append.2 ⟨p4,by simp,?_⟩;intro c Y d J;simp at J;subst J;obtain⟨e,B,rfl⟩:=Xf.1 Y;exact Nat.ne_of_lt (p3 e B),by
    rw[Array.toList_push,Xg];refine List.nodup_append.2 ⟨W,by simp,?_⟩;intro c Y d J;simp at J;subst J;obtain⟨e,B,rfl⟩:=Xf.1 Y;exact G e B⟩)
  refine⟨_,ro,[],?_,by simpa using g.1,g.2⟩;simp only[execOp,ho,q2,h3,Vn,Instr.mapUpdate,run_underlying hT,Result.andThen,MapKept.run_getObj_map O,K.check,g1,MapKept.run_setObj_map _ O];rfl
 .obtain⟨u1,u2⟩:=f2 j e G X;have hl:QO l k v=l.map λp=>bif decide (p.1=k)then(p.1,v)else p:=by
   unfold QO;rw[show(l.any λp=>decide (p.1=k))=true from u1];rfl
  have hj:z[j]?=some e:=by rw[<- G];simp
  have t:(z.modify j λe=>{e with key:=QA (ek k),val:=a.eval zz}).toList=z.toList.modify j λe=>{e with key:=QA (ek k),val:=a.eval zz}:=by simp
  have u:∀{γ:Type} (f:MapEntry->γ),(∀F,z.toList[j]?=some F->f {F with key:=QA (ek k),val:=a.eval zz}=f F)->(z.toList.modify j λe=>{e with key:=QA (ek k),val:=a.eval zz}).map f=z.toList.map f:=by
   intro γ f hf;apply List.ext_getElem?;intro n;rw[Xq,Xq,List.getElem?_modify];by_cases hn:j=n
   .subst hn;cases q:z.toList[j]? with
    |none=>rfl
    |some F=>simp[hf F q]
   .simp[hn]
  have g:=r.sim.set (x':=.map (Qk ek ev (QO l k v))) (obj:=.map (z.modify j λe=>{e with key:=QA (ek k),val:=a.eval zz}) s) q1 hH rfl (R _)
   (λe0 B=>⟨_,_,B,by
    rw[hl,t];exact ER.put K ⟨e0.sub,e0.keep,e0.shape,λ_ _ q=>q⟩ Q V W G X,by
    rw[t];intro F E;have:F.born∈(z.toList.modify j λe=>{e with key:=QA (ek k),val:=a.eval zz}).map (·.born):=VH E;rw[u (·.born) (λ_ _=>rfl)]at this;obtain⟨e2,h,h'⟩:=Xf.1 this;rw[<- h'];exact p3 e2 h,by
    rw[t,u (·.born) (λ_ _=>rfl)];exact p4,by
    rw[t,u (·.key) (λF E=>by rw[G]at E;cases E;exact X.symm)];exact W⟩)
  refine⟨_,ro,[],?_,by simpa using g.1,g.2⟩;have L:=K.stays w k;simp only[execOp,ho,q2,h3,Vn,Instr.mapUpdate,run_underlying hT,Result.andThen,MapKept.run_getObj_map O,K.check,g1,hj,Xk,Option.getD_some,X,L,MapKept.run_setObj_map _ O];rfl
theorem ER.length{ro:Nat->Prop}{σ:Sig}{w:World}:∀{l:List (A×A)} {es:List MapEntry},ER ro σ w l es->es.length=l.length
 |[],es,h=>by cases(show es=[]from h);rfl
 |p::l,es,h=>by
  obtain⟨e,l',rfl,_,_,h3⟩:=h;simp[ER.length h3]
theorem QbE{c:Call}{n:Int}(q:P.underlying T=some (.map kt et))(k:(l.length:Int)=n)(t:o.op=.call c:=by exact rfl)(hc:c={callee:=.builtin .len,args:= #[x],argTypes:= #[T]}:=by exact rfl)
  (hx:opA env x=.map i:=by exact rfl)(hH:H[i]?=some (.map (Qk ek ev l)):=by exact rfl):OpV P o env H (.int .i64 n):=by
 intro B z σ N a w r;have h:=Qd r x;rw[hx]at h;obtain⟨b,u,f⟩:=h;obtain⟨g,e,m,p,E,F,y⟩:=r.sim.blk i _ _ u hH;have j:=p.length;refine⟨.int .i64 n,?_,rfl⟩;have d:goInt g.size=.int .i64 n:=by
  have:g.size=l.length:=by rw[<- Array.length_toList,j];simp[Qk]
  rw[this, <- k];rfl
 subst hc;have s:=f;generalize a.eval=ρ at*;rw[<- d];simp[execOp,t,f,resolve,invoke,Go.builtin,Builtin.len_,run_underlying q,MapKept.run_getObj_map m,go_sem]
end
end
end Go.Sw
namespace Go.Sw
open Go.ChangeMaps (setBlock)
section
variable {P:Program} {o:Oper} {env:Env} {H:Qc} {h0 N:Nat} {Q:Qx}
def OpE(P:Program)(o:Oper)(env:Env)(H:Qc)(K:A->Qc->Prop):Prop:=
 ∀fr ro σ N a w,Rel fr ro σ H env N a w->∃x H' v w' ro' τ,K x H'/\(execOp a.eval o).run P w=.ok (.value v) w'/\VR ro' (σ++τ) w' x v/\
  Sim fr ro' (σ++τ) H' w'/\Qe fr ro w ro' w'
theorem Qjz{all:Array Oper}{l:List Oper}{d:Nat}{K:A->Qc->Prop}(y:h0<=H.length)(hg:Qn all o env true)(p:o.dst=some d)(t:Nat.blt d N=true)
  (h:OpE P o env H K)(k:∀x H',K x H'->WO P h0 N all l (up env d x) H' Q):WO P h0 N all (o::l) env H Q:=by
 intro E fr u σ a w r hrd;obtain⟨x,H',v,i,b,τ,j,B,m,n,f⟩:=h fr u σ N a w r;refine Qac (YA hg r) B ?_;simp only[p,Act.put];have g:d<N:=by simpa using t
 have z:Rel fr b (σ++τ) H' (up env d x) N {a with tmps:=a.tmps.setIfInBounds d v} i:=
  ⟨n,VR.up (fr:=fr) (λs=>(r.env s).mono (f.ext σ τ)) (by rw[r.size];exact g) m,by simpa using r.size,r.defers.keep f⟩
 refine Ye (λe a w q=>q.step f (Qs ?_)) _ _ _ (k x H' j E fr b (σ++τ) _ i z (hrd.to f λ_ q=>q));rw[r.sim.len];exact y
theorem Sim.shutMap{fr ro:Nat->Prop}{σ:Sig}{w:World}(s:Sim fr ro σ H w){i b:Nat}{es:List (A×A)}(hσ:σ[i]?=some (some b))(hH:H[i]?=some (.map es)):
  Sim fr (λc=>ro c\/c=b) σ (H.set i (.fmap es)) w:=by
 have k:b<w.heap.size/\ ¬ro b/\ ¬fr b:=s.own i b _ hσ hH rfl;have ext:Ext ro σ w (λc=>ro c\/c=b) σ w:=⟨λ_ q=>.inl q,λ_ _=>rfl,λ_ _ q=>q,λ_ _ q=>q⟩;have a:∀(j:Nat) (v:Blk),(H.set i (.fmap es))[j]?=some v->v.live=true->j≠i/\H[j]?=some v:=by
  intro j v h u;by_cases e:j=i
  .subst e;rw[Xb]at h;simp only[if_true]at h;split at h
   .cases h;simp[Blk.live]at u
   .simp at h
  .rw[XQ (λq=>e q.symm)]at h;exact⟨e,h⟩
 have g:∀(j:Nat) (v:Blk),(H.set i (.fmap es))[j]?=some v->v.holds=true->H[j]?=some v:=by
  intro j v h u;by_cases e:j=i
  .subst e;rw[Xb]at h;simp only[if_true]at h;split at h
   .cases h;cases u
   .simp at h
  .rw[XQ (λq=>e q.symm)]at h;exact h
 refine⟨by rw[X5];exact s.len,s.roOk.to (λ_ q=>.inl q) (λ_ _=>rfl) ?_,s.frLt,?_,?_,?_,?_,s.hidTo (· = ·) QW (XU _) (λj d x c O P J N=>N.elim id λq=>((s.hid j d x c O P J).ne i b _ hσ hH rfl q).elim) (λ_ _ _ _ _ _ _ q=>q) λj d y R L Q=>.inl ⟨j,y,rfl,R,g j y L Q,id,λ_ q=>q⟩⟩
 .rintro c (q|rfl)
  .exact s.roLt c q
  .exact k.1
 .rintro c (q|rfl)
  .exact s.roFr c q
  .exact k.2.2
 .intro j c v m f p;obtain⟨e,f⟩:=a j v f p;obtain⟨r,t,z⟩:=s.own j c v m f p;refine⟨r,?_,z⟩;rintro(q|rfl)
  .exact t q
  .exact e (s.inj j i c v _ m hσ f hH p rfl)
 .intro j E c v B m f p M G F;exact s.inj j E c v B m f (a j v p G).2 (a E B M F).2 G F
 .intro j y v m f;by_cases e:j=i
  .subst e;rw[hσ]at m;cases m;rw[Xb]at f;simp only[if_true]at f;split at f
   .cases f;obtain⟨l,n,r,t,z⟩:=s.blk j _ _ hσ hH;exact⟨.inr rfl,l,n,r,t.mono ext.nil,z⟩
   .simp at f
  .rw[XQ (λq=>e q.symm)]at f;exact(s.blk j y v m f).keep ext (λ_ _ _=>rfl) (λ_ _ _ _=>rfl)
section
variable {T kt et i:Nat} {x:Operand} {es:List (A×A)}
theorem Qfz(t:P.underlying T=some (.map kt et))(z:o.op=.range T x:=by exact rfl)(hx:opA env x=.map i:=by exact rfl)(hH:H[i]?=some (.fmap es):=by exact rfl):
  OpH P o env H (.ptr H.length 0) (H++[.iter none es]):=by
 intro p j σ N a w r;have m:=Qd r x;rw[hx]at m;obtain⟨b,B,n⟩:=m;obtain⟨g,l,d,k,q,u,y,E⟩:=r.sim.blk i _ _ B hH;have s:=r.sim.roLt b g;have f:Qe p j w j (w.alloc (.mapIter (some b) d #[] d)):=Qe.alloc _ r.sim.roLt r.sim.frLt;have ext0:Ext j [] w j [] (w.alloc (.mapIter (some b) d #[] d)):=f.ext0 [];refine⟨.pointer (some ⟨w.heap.size,0,none⟩),w.alloc (.mapIter (some b) d #[] d),_,[some w.heap.size],?_,⟨w.heap.size,?_,rfl⟩,
  r.sim.alloc (.inr ⟨b,l,d, #[],l.toList,Q9 _ _,g,by rw[Ya _ _ _ s];exact k,u,y,?_,q.mono ext0,λ_ h=>by cases h⟩),f⟩
 .generalize a.eval=ρ at*;simp only[execOp,z,n,Instr.range,Vn,run_underlying t,Result.andThen,MapKept.run_getObj_map k];rfl
 .rw[<- r.sim.len];simp
 .have:l.toList.filter (λe=> !(#[]:Array Nat).contains e.born)=l.toList:=by rw[List.filter_eq_self];intro e _;simp
  rw[this]
theorem ER.mem{ro:Nat->Prop}{σ:Sig}{w:World}:∀{es:List (A×A)} {l:List MapEntry},ER ro σ w es l->∀e∈l,∃x es' l',(x::es').Perm es/\(e::l').Perm l/\VR ro σ w x.1 e.key/\VR ro σ w x.2 e.val/\ER ro σ w es' l'
 |[],l,h,e,he=>by cases(show l=[]from h);cases he
 |y::es,l,h,e,he=>by
  obtain⟨e0,l',rfl,h1,h2,h3⟩:=h;rcases X7.1 he with rfl|he
  .exact⟨y,es,l',.refl _,.refl _,h1,h2,h3⟩
  .obtain⟨x,es',l'',p1,p2,v1,v2,h4⟩:=ER.mem h3 e he;exact⟨x,y::es',e0::l'',(List.Perm.swap _ _ _).trans (p1.cons _),(List.Perm.swap _ _ _).trans (p2.cons _),v1,v2,⟨e0,l'',rfl,h1,h2,h4⟩⟩
theorem Qit:∀{l:List MapEntry},(l.map (·.born)).Nodup->∀a∈l,∀b∈l,a.born=b.born->a=b
 |[],_,a,ha,_,_,_=>by cases ha
 |c::l,hn,a,ha,b,hb,hab=>by
  simp only[Vk,List.nodup_cons]at hn;rcases X7.1 ha with ea|ha'<;>rcases X7.1 hb with eb|hb'
  .rw[ea,eb]
  .subst ea;exact absurd (Xf.2 ⟨b,hb',hab.symm⟩) hn.1
  .subst eb;exact absurd (Xf.2 ⟨a,ha',hab⟩) hn.1
  .exact Qit hn.2 a ha' b hb' hab
def NextK(H:Qc)(i:Nat)(cur:Option (A×A))(es:List (A×A))(v:A)(H':Qc):Prop:=
 (es=[]/\v=.tup [.bool false]/\H'=H)\/ ∃e es',(e::es').Perm es/\v=.tup [.bool true,e.1,e.2]/\H'=H.set i (.iter (some e) es')
theorem OpE.next{M:Option (A×A)}(ho:o.op=.next x false:=by exact rfl)(hx:opA env x=.ptr i 0:=by exact rfl)(hH:H[i]?=some (.iter M es):=by exact rfl):
  OpE P o env H (NextK H i M es):=by
 intro fr s σ N a w r;have h1:=Qd r x;rw[hx]at h1;obtain⟨b,q1,q2⟩:=h1;have k:∀(v:Value) (g:World),g.heap=w.heap->g.os=w.os->g.tape=w.tape->g.output=w.output->w.drawn<=g.drawn->Sim fr s (σ++[]) H g/\Qe fr s w s g:=by
  intro v g Y e2 e3 e4 e5;exact⟨by simpa using r.sim.heap Y,Qe.heap Y e2 e3 e4 e5⟩
 rcases r.sim.blk i _ _ q1 hH with⟨rfl,rfl,p⟩|⟨m,l,f,d,left,p1,p2,W,p4,p5,p6,p7,p8⟩
 .refine⟨_,_,.tuple #[.bool false],w,s,[],.inl ⟨rfl,rfl,rfl⟩,?_,⟨_,rfl,_,_,rfl,rfl,rfl⟩,k (.bool false) w rfl rfl rfl rfl (XU _)⟩;generalize a.eval=ρ at*;simp only[execOp,ho,q2,Instr.next,Vn,getObj,Sem.run,p,Result.andThen];rfl
 .have u:(leftOf l d).toList=l.toList.filter λe=> !d.contains e.born:=by simp[leftOf]
  have t:left.Perm (leftOf l d).toList:=by rw[u];exact p6
  rcases run_next_at (P:=P) w o.type b m f f d l f p1 W p4 (XU _)with⟨V,g2⟩|⟨e,V,g,g2,g3⟩
  .have ac:left=[]:=by
    have:left.length=0:=by rw[t.length_eq];simpa using V
    exact VK.1 this
   subst ac;have aa:es=[]:=by
    have:=p7.length;simp only[List.length_nil]at this;exact VK.1 this.symm
   refine⟨_,_,.tuple #[.bool false],w,s,[],.inl ⟨aa,rfl,rfl⟩,?_,⟨_,rfl,_,_,rfl,rfl,rfl⟩,k (.bool false) w rfl rfl rfl rfl (XU _)⟩;generalize a.eval=ρ at*;simp only[execOp,ho,q2,Vn,g2,Result.andThen];rfl
  .have he:e∈left:=t.mem_iff.2 V;have R:e∈l.toList:=by rw[u]at V;exact(Xe.1 V).1
   obtain⟨y,O,Q,k1,k2,v1,v2,k3⟩:=p7.mem e he;have n:g.heap=w.heap/\g.os=w.os/\g.tape=w.tape/\g.output=w.output/\w.drawn<=g.drawn:=by
    rcases g2 with rfl|rfl
    .exact⟨rfl,rfl,rfl,rfl,XU _⟩
    .exact⟨rfl,rfl,rfl,rfl,Nat.le_succ _⟩
   obtain⟨s1,J⟩:=k (.bool false) g n.1 n.2.1 n.2.2.1 n.2.2.2.1 n.2.2.2.2;rw[Vh]at s1;have af:b≠m:=by
    rintro rfl;rw[p1]at W;cases W
   have E:=s1.set (x':=.iter (some y) O) (obj:=.mapIter (some m) f (d.push e.born) f) q1 hH rfl
    (λz F=>by
     unfold World.shape? at F;rw[n.1,p1]at F;simp at F)
    (λB ab=>.inr ⟨m,l,f,d.push e.born,Q,ab,B.sub _ p2,by
      show(g.heap.setIfInBounds b _)[m]?=_;rw[Vf,Vt af,n.1];exact W,p4,p5,by
      have ag:(l.toList.filter λe=> !d.contains e.born).Nodup:=by
       have:l.toList.Nodup:=List.Pairwise.of_map _ (λa b h q=>h (congrArg _ q)) p5;exact this.filter _
      have hp:(e::Q).Perm (l.toList.filter λe=> !d.contains e.born):=k2.trans p6;have T:(e::Q).Nodup:=hp.nodup_iff.2 ag;have Y:(l.toList.filter λG=> !(d.push e.born).contains G.born)=(l.toList.filter λe=> !d.contains e.born).filter λG=> !decide (G.born=e.born):=by
       rw[List.filter_filter];apply List.filter_congr;intro z _;simp[Array.contains_push,Bool.and_comm]
      rw[Y];have h2:=hp.filter (λG=> !decide (G.born=e.born));have e2:(e::Q).filter (λG=> !decide (G.born=e.born))=Q:=by
       rw[List.filter_cons_of_neg (by simp),List.filter_eq_self];intro z F;have ae:z∈l.toList:=(Xe.1 (hp.mem_iff.1 (X6 _ F))).1;simp only[Bool.not_eq_true',decide_eq_false_iff_not];intro hb;have:z=e:=by
        exact Qit p5 z ae e R hb
       subst this;exact(List.nodup_cons.1 T).1 F
      rw[e2]at h2;exact h2,by
      have X:Ext s [] w s [] g:=J.ext0 [];exact(k3.mono X).mono ⟨B.sub,B.keep,B.shape,λ_ _ q=>q⟩,by
      intro z F;cases F;have X:Ext s [] w s [] g:=J.ext0 [];exact⟨e,R,by simp,(v1.mono X).mono ⟨B.sub,B.keep,B.shape,λ_ _ q=>q⟩,(v2.mono X).mono ⟨B.sub,B.keep,B.shape,λ_ _ q=>q⟩⟩⟩)
   have L:=J.trans E.2;have xt:Ext s [] w s [] {g with heap:=g.heap.setIfInBounds b (.mapIter (some m) f (d.push e.born) f)}:=L.ext0 [];refine⟨_,_,.tuple #[.bool true,e.key,e.val],_,s,[],.inr ⟨y,O,k1,rfl,rfl⟩,?_,
    ⟨[.bool true,e.key,e.val],rfl,_,_,rfl,rfl,_,_,rfl,(v1.mono xt).mono ⟨λ_ q=>q,λ_ _=>rfl,λ_ _ q=>q,λj c q=>by simp at q⟩,_,_,rfl,(v2.mono xt).mono ⟨λ_ q=>q,λ_ _=>rfl,λ_ _ q=>q,λj c q=>by simp at q⟩,rfl⟩,by simpa using E.1,L⟩
   generalize a.eval=ρ at*;simp only[execOp,ho,q2,Vn,g3,Result.andThen,setBlock];rfl
theorem OpV.entry{e:A×A}(G:o.op=.entry x:=by exact rfl)(hx:opA env x=.ptr i 0:=by exact rfl)(hH:H[i]?=some (.iter (some e) es):=by exact rfl):OpV P o env H (.tup [e.1,e.2]):=by
 intro O L σ N a w r;have n:=Qd r x;rw[hx]at n;obtain⟨b,s,y⟩:=n;rcases r.sim.blk i _ _ s hH with⟨_,h,_⟩|⟨m,l,d,k,left,t,M,B,R,u,Q,T,J⟩
 .cases h
 .obtain⟨f,p,F,z,E⟩:=J e rfl;refine⟨.tuple #[f.key,f.val],?_,[f.key,f.val],rfl,_,_,rfl,z.mono ⟨λ_ q=>q,λ_ _=>rfl,λ_ _ q=>q,λj c q=>by simp at q⟩,_,_,rfl,E.mono ⟨λ_ q=>q,λ_ _=>rfl,λ_ _ q=>q,λj c q=>by simp at q⟩,rfl⟩;have g:l.find? (·.born==f.born)=some f:=by rw[<- Array.find?_toList];exact find_born f l.toList u p
  generalize a.eval=ρ at*;simp only[execOp,G,y,Instr.entry,getObj,Vn,Sem.run,t,B,Result.andThen,F,bne_self_eq_false,Xj,if_false,g];rfl
end
end
end Go.Sw
namespace Go.Sw
def QeG{S E B:Type}(stepE:S->E->Option (Ctl S B))(stepN:S->Option B):S->List E->Option B
 |s,[]=>stepN s
 |s,e::p=>match stepE s e with
  |some (.cont s')=>QeG stepE stepN s' p
  |some (.done b)=>some b
  |none=>none
def Qbu{E:Type}(x:E):List E->List (List E)
 |[]=>[[x]]
 |y::l=>(x::y::l)::(Qbu x l).map (y:: ·)
def QbQ{E:Type}:List E->List (List E)
 |[]=>[[]]
 |x::l=>(QbQ l).flatMap (Qbu x)
theorem QeX{E:Type}(x:E):∀(a b:List E),a++x::b∈Qbu x (a++b)
 |[],[]=>by simp[Qbu]
 |[],y::b=>by simp[Qbu]
 |y::a,b=>by
  simp only[VL,Qbu,X7,Xf];exact .inr ⟨a++x::b,QeX x a b,rfl⟩
theorem Qdm{E:Type}:∀(l p:List E),p.Perm l->p∈QbQ l
 |[],p,h=>by rw[List.perm_nil.1 h];simp[QbQ]
 |x::l,p,h=>by
  have hx:x∈p:=h.mem_iff.2 (by simp);obtain⟨a,b,rfl⟩:=List.append_of_mem hx;have h2:(a++b).Perm l:=(List.perm_cons x).1 ((List.perm_middle.symm).trans h);simp only[QbQ,List.mem_flatMap];exact⟨a++b,Qdm l _ h2,QeX x a b⟩
def anyP{E R:Type}[DecidableEq R](k:List E->Option R)(l:List E):Option R:=bif (QbQ l).all (λp=>decide (k p=k l))then k l else none
theorem Qkq{E R:Type}[DecidableEq R]{k:List E->Option R}{l:List E}{r:R}(h:anyP k l=some r)(p:List E)(a:p.Perm l):k p=some r:=by
 unfold anyP at h;cases q:(QbQ l).all (λp=>decide (k p=k l))with
 |true=>
  rw[q]at h;have:=Xt.1 q p (Qdm l p a);rw[Vw this];exact h
 |false=>rw[q]at h;cases h
theorem Qcv{E:Type}:∀(l p:List E),p∈QbQ l->p.Perm l
 |[],p,h=>by simp[QbQ]at h;rw[h]
 |x::l,p,h=>by
  simp only[QbQ,List.mem_flatMap]at h;obtain⟨q,hq,hp⟩:=h;have ins:∀(q p:List E),p∈Qbu x q->p.Perm (x::q):=by
   intro q
   induction q with
   |nil=>intro p hp;simp[Qbu]at hp;rw[hp]
   |cons y q a=>
    intro p hp;simp only[Qbu,X7,Xf]at hp;rcases hp with rfl|⟨z,b,rfl⟩
    .exact .refl _
    .exact((a z b).cons y).trans (List.Perm.swap _ _ _)
  exact(ins q p hp).trans ((Qcv l q hq).cons x)
theorem Qhi{E R:Type}[DecidableEq R]{k:List E->Option R}{l:List E}{r:R}(h:∀p,p.Perm l->k p=some r):anyP k l=some r:=by
 unfold anyP;have:(QbQ l).all (λp=>decide (k p=k l))=true:=Xt.2 λp a=>by
  rw[h p (Qcv l p a),h l (.refl _)];simp
 rw[this];exact h l (.refl _)
def QiP{S E B:Type}(stepE:S->E->Option (Ctl S B))(stepN:S->Option B)(G:B->Prop)(s:S)(l:List E):Prop:=∀p,p.Perm l->∃b,QeG stepE stepN s p=some b/\G b
section
variable {P:Program} {o:Oper} {env:Env} {H:Qc} {h0 N:Nat} {Q:Qx} {c:Code}
def Qcf(I:Env->Qc->Prop)(Q:Qx):Qx
 |.normal,env,H=>I env H
 |.exit id,env,H=>Q (.exit id) env H
 |.ret,env,H=>Q .ret env H
theorem Qm9{I:Nat->Env->Qc->Prop}(body:∀n env H,I n env H->TC P h0 N c env H (Qcf (λenv H=>∃n',n'<n/\I n' env H) Q)){n:Nat}(B:I n env H):TC P h0 N (.loop c) env H Q:=by
 intro O l y σ a w r hrd b k cs hro hb hr;have F:∀m n env H fr1 ro1 σ1 a1 w1,n<m->I n env H->Rel fr1 ro1 σ1 H env N a1 w1->Qe l y w ro1 w1->σ1.take h0=σ.take h0->Grow l w a.defers fr1 a1.defers->
   ∃e g h,QaR h0 l y σ w N a.defers Q e g h/\ArrivesIn (Machine.fenced P (WF O)) P (lone (b.atR a1 (.code c::.inLoop c::k)) cs w1) b k cs e g h:=by
  intro m
  induction m with
  |zero=>intro n env H fr1 ro1 σ1 a1 w1 hn;exact absurd hn (Xn _)
  |succ m R=>
   intro n env H fr1 ro1 σ1 a1 w1 hn B r1 ev1 t1 g1;obtain⟨e,g,h,E,d⟩:=body n env H B O fr1 ro1 σ1 a1 w1 r1 (hrd.to ev1 g1.sub) b (.inLoop c::k) cs hro hb hr;obtain⟨x,f,H',j,σ',t,u,p,J,X,G,Y⟩:=E;have s:=ev1.trans (X.frMono g1.sub);have L:=g1.trans ev1.size Y;have M:∀x,Q x f H'->ExR e x->QaR h0 l y σ w N a.defers Q e g h:=λx q q'=>⟨x,f,H',j,σ',t,q',q,J,s,G.trans t1,L⟩;cases e with
   |normal=>
    obtain rfl:x=.normal:=u;obtain⟨n',V,p⟩:=p;obtain⟨e2,T,W,z,i⟩:=R n' f H' t j σ' g h (by omega) p J s (G.trans t1) L;exact⟨e2,T,W,z,.of_steps (StepsIn.trans d (.one (fenced_calm hb hr rfl) stepR_inLoop)) i⟩
   |exit id=>
    obtain rfl:x=.exit id:=u;exact⟨_,g,h,M _ p rfl,.pass (x:=.inLoop c) rfl (λ_ _=>.inl (by simp)) d⟩
   |ret=>
    obtain rfl:x=.ret:=u;exact⟨_,g,h,M _ p rfl,.pass (x:=.inLoop c) rfl (λ_ _=>.inl (by simp)) d⟩
   |_=>exact u.elim
 obtain⟨e,g,h,E,d⟩:=F (n+1) n env H l y σ a w (Xo _) B r (Qe.refl _ _ _) rfl (Grow.refl _ _ _);exact⟨e,g,h,E,.of_steps (.one (fenced_calm hb hr rfl) stepR_loop) d⟩
section
variable {S E B:Type} {stepE:S->E->Option (Ctl S B)} {stepN:S->Option B} {G:B->Prop} (Es:S->Env) (Hp:S->List (A×A)->Qc) {enc:E->A×A}
def AtP(stepE:S->E->Option (Ctl S B))(stepN:S->Option B)(G:B->Prop)(enc:E->A×A)(h0 n:Nat)(env:Env)(H:Qc):Prop:=
 ∃s l,l.length=n/\QiP stepE stepN G s l/\Le h0 env H (Es s) (Hp s (l.map enc))
theorem Qm8{s0:S}{l0:List E}(h:QiP stepE stepN G s0 l0)(hI:Le h0 env H (Es s0) (Hp s0 (l0.map enc)))
  (body:∀s l,QiP stepE stepN G s l->TC P h0 N c (Es s) (Hp s (l.map enc)) (Qcf (λenv H=>∃n',n'<l.length/\AtP Es Hp stepE stepN G enc h0 n' env H) Q)):TC P h0 N (.loop c) env H Q:=
 Qm9 (I:=AtP Es Hp stepE stepN G enc h0) (λn env H ⟨s,l,hn,ha,hle⟩=>by subst hn;exact TC.le hle (body s l ha)) ⟨s0,l0,rfl,h,hI⟩
theorem QfY{α β:Type}{f:α->β}:∀{m e:List β},m.Perm e->∀{l:List α},e=l.map f->∃l':List α,l'.Perm l/\l'.map f=m:=by
 intro m e h
 induction h with
 |nil=>intro l d;exact⟨[],by rw[List.map_eq_nil_iff.1 d.symm],rfl⟩
 |cons x _ ih=>
  intro l d;cases l with
  |nil=>cases d
  |cons a l=>
   simp only[Vk,List.cons.injEq]at d;obtain⟨l',i,g⟩:=ih d.2;exact⟨a::l',i.cons _,by simp[g,d.1]⟩
 |swap x y m=>
  intro l d
  match l,d with
  |a::b::l,d=>
   simp only[Vk,List.cons.injEq]at d;exact⟨b::a::l,List.Perm.swap _ _ _,by simp[d.1,d.2.1,d.2.2]⟩
 |trans _ _ ih1 ih2=>
  intro l d;obtain⟨p,i,g⟩:=ih2 d;obtain⟨k,j,n⟩:=ih1 g.symm;exact⟨k,j.trans i,n⟩
theorem Qm2{all:Array Oper}{L:List Oper}{d i:Nat}{x:Operand}{q:Option (A×A)}{s:S}{l:List E}(hl:QiP stepE stepN G s l)
  (z:∀b,stepN s=some b->G b->WO P h0 N all L (up env d (.tup [.bool false])) H Q)
  (y:∀e l' D,stepE s e=some D->(∀b,D=.done b->G b)->(l'.length<l.length/\ ∀s',D=.cont s'->QiP stepE stepN G s' l')->
   WO P h0 N all L (up env d (.tup [.bool true,(enc e).1,(enc e).2])) (H.set i (.iter (some (enc e)) (l'.map enc))) Q)
  (B:o.op=.next x false:=by exact rfl)(hx:opA env x=.ptr i 0:=by exact rfl)(hH:H[i]?=some (.iter q (l.map enc)):=by exact rfl)
  (hg:Qn all o env true:=by exact rfl)(hd:o.dst=some d:=by exact rfl)(hN:Nat.blt d N=true:=by exact rfl)(hh:Nat.ble h0 H.length=true:=by exact rfl):WO P h0 N all (o::L) env H Q:=by
 refine Qjz (XS hh) hg hd hN (OpE.next B hx hH) ?_;rintro v H' (⟨r,rfl,rfl⟩|⟨e,F,r,rfl,rfl⟩)
 .have:l=[]:=List.map_eq_nil_iff.1 r;subst this;obtain⟨b,m,h⟩:=hl [] (.refl _);exact z b m h
 .obtain⟨w,m,h⟩:=QfY r rfl;cases w with
  |nil=>cases h
  |cons a l'=>
   simp only[Vk,List.cons.injEq]at h;obtain⟨rfl,rfl⟩:=h;have j:l'.length<l.length:=by rw[<- m.length_eq];simp
   have f:∀p,p.Perm l'->∃b,QeG stepE stepN s (a::p)=some b/\G b:=λp t=>hl _ ((t.cons a).trans m);cases k:stepE s a with
   |none=>
    obtain⟨b,g,_⟩:=f l' (.refl _);simp[QeG,k]at g
   |some D=>
    refine y a l' D k ?_ ⟨j,?_⟩
    .rintro b rfl;obtain⟨u,g,n⟩:=f l' (.refl _);simp[QeG,k]at g;subst g;exact n
    .rintro s' rfl p t;obtain⟨u,g,n⟩:=f p t;simp[QeG,k]at g;exact⟨u,g,n⟩
theorem Qpa{s:S}{l l':List E}{D:Ctl S B}(e:some (Ctl.cont s)=some D)(hc:l'.length<l.length/\ ∀s',D=.cont s'->QiP stepE stepN G s' l')(h:Le h0 env H (Es s) (Hp s (l'.map enc))):
  Qcf (λenv H=>∃n',n'<l.length/\AtP Es Hp stepE stepN G enc h0 n' env H) Q .normal env H:=
 ⟨_,hc.1,s,l',rfl,hc.2 _ (X0 e).symm,h⟩
theorem Qo9{I:Env->Qc->Prop}{id:Nat}(h:Q (.exit id) env H):Qcf I Q (.exit id) env H:=h
end
def QoE{B:Type}(h0:Nat)(G:B->Prop)(Eb:B->Env)(Hb:B->Qc)(Q:Qx):Qx
 |.normal,env,H=>∃b,G b/\Le h0 env H (Eb b) (Hb b)
 |.exit id,env,H=>Q (.exit id) env H
 |.ret,env,H=>Q .ret env H
theorem Qob{S E B:Type}{stepE:S->E->Option (Ctl S B)}{stepN:S->Option B}{G:B->Prop}{s0:S}{l0:List E}(hl:QiP stepE stepN G s0 l0)(Eb:B->Env)(Hb:B->Qc)
  (h:TC P h0 N c env H (QoE h0 G Eb Hb Q))(k:∀b env H,G b->Le h0 env H (Eb b) (Hb b)->Q .normal env H):TC P h0 N c env H Q:=
 h.mono λx env' H' q=>by
  cases x with
  |normal=>obtain⟨b,e,q⟩:=q;exact k b _ _ e q
  |exit id=>exact q
  |ret=>exact q
theorem cutGN{B:Type}{G:B->Prop}{Eb:B->Env}{Hb:B->Qc}{b:B}(hG:G b)(h:Le h0 env H (Eb b) (Hb b)):QoE h0 G Eb Hb Q .normal env H:=⟨b,hG,h⟩
theorem Qgy{i:Nat}{j:Option (A×A)}{es:List (A×A)}{H':Qc}(hH:H[i]?=some (.iter j es))(g:H.set i (.iter none es)=H'):Le h0 env H env H':=by
 subst g;intro F s σ N a w r;refine⟨s,σ,⟨r.sim.weaken (x':=.iter none es) hH rfl ?_,r.env,r.size,r.defers⟩,λ_ q=>q,rfl⟩;intro y h;cases y with
 |none=>exact h
 |some b=>
  rcases h with⟨k,n,f⟩|⟨m,l,d,e,left,k,n,f,z,t,p,B,E⟩
  .exact .inl ⟨k,rfl,f⟩
  .exact .inr ⟨m,l,d,e,left,k,n,f,z,t,p,B,λx u=>by cases u⟩
end
end Go.Sw
namespace Go.Sw
def mk{α:Type}(n:Int)(z:α):Option (List α):=bif decide (0<=n)&&decide (n<=4294967296)then some (List.replicate n.toNat z)else none
section
variable {P:Program} {o:Oper} {env:Env} {H:Qc} {ro:Nat->Prop} {σ:Sig} {w:World}
theorem LR.replicate{az:List A}{l:List Value}(h:LR ro σ w az l):∀n,LR ro σ w (List.replicate n az).flatten (List.replicate n l).flatten
 |0=>rfl
 |n+1=>by
  rw[List.replicate_succ,List.replicate_succ];exact h.append (LR.replicate h n)
end
end Go.Sw
