/- The rules by which the code is walked, with what they rest on (part 1). -/
import Derived.Calls
import Derived.Tactics
import Derived.Below
import Derived.TacticsIn
import Derived.OrdersIn
import Derived.RangeFuncLeaves
import Derived.RangeFuncRecord
import Derived.Laws.Strings
import Derived.Laws.World
import Derived.Orders
import Derived.Maps.Keyed
import Derived.Laws.StructEq
import Derived.Maps.RangeRun
set_option linter.unusedVariables false
set_option linter.unusedSimpArgs false
set_option linter.unusedSectionVars false
namespace Go.Sw
abbrev Xa:= @List.getElem?_set_self
abbrev Xb:= @List.getElem?_set
abbrev Xc:= @List.pairwise_cons
abbrev Xd:= @List.filter_cons
abbrev Xe:= @List.mem_filter
abbrev Xf:= @List.mem_map
abbrev Xg:= @List.map_append
abbrev Xh:= @Bool.not_true
abbrev Xi:= @Bool.not_false
abbrev Xj:= @Bool.false_eq_true
abbrev Xk:= @Option.map_some
abbrev Xl:= @Option.map_none
abbrev Xm:= @Nat.succ_mul
abbrev Xn:= @Nat.not_lt_zero
abbrev Xo:= @Nat.lt_succ_self
abbrev Xp:= @Nat.lt_succ_iff_lt_or_eq
abbrev Xq:= @List.getElem?_map
abbrev Xr:= @List.drop_eq_getElem_cons
abbrev Xs:= @List.drop_eq_nil_iff
abbrev Xt:= @List.flatten_append
abbrev Xu:= @List.all_eq_true
abbrev Xv:= @List.any_eq_true
abbrev Xw:= @List.length_range
abbrev Xx:= @Nat.sub_zero
abbrev Xy:= @Nat.zero_add
abbrev Xz:= @Nat.add_zero
abbrev XA:= @List.length_take
abbrev XB:= @List.length_drop
abbrev XC:= @List.take_append_drop
abbrev XD:= @Nat.add_mul
abbrev XE:= @Nat.min_eq_left
abbrev XF:= @Nat.mul_le_mul_right
abbrev XG:= @List.foldl_append
abbrev XH:= @List.foldl_cons
abbrev XI:= @List.getElem?_cons_zero
abbrev XJ:= @List.getElem?_cons_succ
abbrev XK:= @List.getElem?_toArray
abbrev XL:= @Sem.run_ite
abbrev XM:= @List.map_toArray
abbrev XN:= @Option.bind_some
abbrev XO:= @List.getElem?_eq_getElem
abbrev XP:= @List.getElem?_eq_some_iff
abbrev XQ:= @List.getElem?_append_left
abbrev XR:= @List.getElem?_append_right
abbrev XS:= @List.getElem?_eq_none
abbrev XT:= @List.getElem?_set_ne
abbrev XU:= @Nat.eq_of_beq_eq_true
abbrev XV:= @Nat.le_of_ble_eq_true
abbrev XW:= @Nat.ble_eq_true_of_le
abbrev XX:= @Nat.le_refl
abbrev XY:= @Nat.zero_le
abbrev XZ:= @Nat.le_trans
abbrev X0:= @Bool.and_eq_true
abbrev X2:= @Bool.or_eq_false_iff
abbrev X3:= @Bool.eq_iff_iff
abbrev X4:= @Option.some.inj
abbrev X5:= @List.length_cons
abbrev X6:= @List.length_map
abbrev X7:= @List.length_append
abbrev X8:= @List.length_set
abbrev X9:= @List.mem_cons_of_mem
abbrev Va:= @List.mem_cons
abbrev Vb:= @List.take_append_of_le_length
abbrev Vc:= @List.drop_append_of_le_length
abbrev Vd:= @List.take_length
abbrev Ve:= @List.drop_length_add_append
abbrev Vf:= @List.take_length_add_append
abbrev Vg:= @Array.getElem?_eq_some_iff
abbrev Vh:= @List.getElem_mem
abbrev Vi:= @Array.getElem?_setIfInBounds
abbrev Vj:= @Nat.lt_of_lt_of_le
abbrev Vk:= @List.append_nil
abbrev Vl:= @List.nil_append
abbrev Vm:= @List.append_assoc
abbrev Vn:= @List.map_cons
abbrev Vp:= @List.map_nil
abbrev Vq:= @List.flatten_cons
abbrev Vr:= @Sem.run_bind
abbrev Vs:= @Sem.run_pure
abbrev Vt:= @cond_true
abbrev Vu:= @cond_false
abbrev Vv:= @decide_eq_true_eq
abbrev Vw:= @if_neg
abbrev Vx:= @if_pos
abbrev Vy:= @decide_eq_true
abbrev Vz:= @of_decide_eq_true
abbrev VA:= @of_decide_eq_false
abbrev VB:= @decide_eq_false
abbrev VC:= @beq_iff_eq
abbrev VD:= @beq_eq_false_iff_ne
abbrev VE:= @Bool.true_and
abbrev VF:= @List.mem_singleton
abbrev VG:= @Nat.lt_or_ge
abbrev VH:= @List.mem_append
abbrev VI:= @List.pairwise_iff_getElem
abbrev VJ:= @Nat.beq_refl
abbrev VK:= @List.mem_map_of_mem
abbrev VL:= @List.mem_of_getElem?
abbrev VM:= @List.take_of_length_le
abbrev VN:= @List.length_eq_zero_iff
abbrev VO:= @List.cons_append
abbrev VP:= @List.getD_eq_getElem?_getD
abbrev VQ:= @Bool.eq_false_iff
abbrev VS:= @List.length_filter_le
def Qlh:Nat:=11
def nG:Nat:=12
def Qjw:List (List Int):=[[1,9999],[-1099511627776,1099511627776],[0,1048576],[0,39],[0,255],[0,1099511627776],[0,255],[1,1048576],[0,1],[0,31],[1,1048576]]
theorem gOk:((List.range nG).all λb=>Nat.beq b Qlh|| !(Qjw.getD b []).isEmpty)=true:=by decide
theorem gLt:Nat.ble Qjw.length nG=true:=by decide
theorem QpV:Nat.blt Qlh nG=true:=by decide
structure GP (w:World):Prop where
 max:∃m:Int,w.cell? ⟨Qlh,0,none⟩=some (.int .i64 m)
 tab:∀(g:Nat) (zs:List Int),Qjw[g]?=some zs->∀(i:Nat) (z:Int),zs[i]?=some z->w.cell? ⟨g,i,none⟩=some (.int .i64 z)
theorem GP.keep{w w':World}(h:∀b,b<nG->w'.heap[b]?=w.heap[b]?)(g:GP w):GP w':=by
 obtain⟨m,e⟩:=g.max;refine⟨⟨m,?_⟩,λa f d i z j=>?_⟩
 .rw[<- e];unfold World.cell?;rw[h Qlh (by simpa using QpV)]
 .rw[<- g.tab a f d i z j];unfold World.cell?;have k:=(XP.1 d).1;have l:Qjw.length<=nG:=by simpa using gLt
  rw[h a (by omega)]
theorem QgE{w:World}{b i:Nat}{v:Value}(h:w.cell? ⟨b,i,none⟩=some v):b<w.heap.size:=by
 cases e:w.heap[b]? with
 |none=>simp[World.cell?,e]at h
 |some o=>exact(Vg.1 e).1
theorem GP.size{w:World}(g:GP w)(b:Nat)(d:b<nG):b<w.heap.size:=by
 have h:=Xu.1 gOk b (List.mem_range.2 d);rw[Bool.or_eq_true]at h;rcases h with h|h
 .obtain⟨m,f⟩:=g.max;rw[XU h];exact QgE f
 .cases e:Qjw[b]? with
  |none=>rw[VP,e]at h;simp at h
  |some a=>
   cases a with
   |nil=>rw[VP,e]at h;simp at h
   |cons z a=>exact QgE (g.tab b _ e 0 z rfl)
end Go.Sw
namespace Go.Sw
inductive A where
 |any
 |bool (b:Bool)
 |int (k:IntKind) (n:Int)
 |str (s:List UInt8)
 |nilp
 |ptr (i off:Nat)
 |rp (cs:List A)
 |nils
 |rsl (k:Nat) (es:List (List A))
 |osl (i o n k:Nat)
 |agg (cs:List A)
 |fn (f:Fn) (first cap:List A)
 |nilf
 |iface (t:Nat) (v:A)
 |nilif
 |map (i:Nat)
 |nilm
 |tup (vs:List A)
abbrev Sig:=List (Option Nat)
def Qq:Value->Prop
 |.agg _|.tuple _=>False
 |_=>True
mutual
def VR(ro:Nat->Prop)(σ:Sig)(w:World):A->Value->Prop
 |.any,_=>True
 |.bool b,v=>v=.bool b
 |.int k n,v=>v=.int k n
 |.str s,v=>v=.string ⟨s.toArray⟩
 |.nilp,v=>v=.pointer none
 |.ptr i off,v=>∃b,σ[i]?=some (some b)/\v=.pointer (some ⟨b,off,none⟩)
 |.rp cs,v=>∃b off,v=.pointer (some ⟨b,off,none⟩)/\ro b/\CR ro [] w b cs off
 |.nils,v=>v=.slice none 0 0
 |.rsl k es,v=>∃a cap,v=.slice a es.length cap/\es.length<=cap/\
   (es=[]\/ ∃b off,a=some ⟨b,off,none⟩/\ro b/\RR ro [] w b k es off)
 |.osl i o n k,v=>(n=0/\v=.slice none 0 0)\/
   ∃b p cap t m,σ[i]?=some (some b)/\v=.slice (some ⟨b,p,none⟩) n cap/\(0<cap->p=o*k)/\n<=cap/\w.shape? b=some (t,m)/\(o+cap)*k<=m
 |.agg cs,v=>∃l:List Value,v=.agg l.toArray/\LR ro σ w cs l
 |.fn f first cap,v=>∃l l':List Value,v=.func f l.toArray l'.toArray/\LR ro σ w first l/\LR ro σ w cap l'
 |.nilf,v=>v=.nilFunc
 |.iface t a,v=>∃x,v=.iface t x/\VR ro σ w a x
 |.nilif,v=>v=.nilIface
 |.map i,v=>∃b,σ[i]?=some (some b)/\v=.map (some b)
 |.nilm,v=>v=.map none
 |.tup vs,v=>∃l:List Value,v=.tuple l.toArray/\LR ro σ w vs l
def CR(ro:Nat->Prop)(σ:Sig)(w:World)(b:Nat):List A->Nat->Prop
 |[],_=>True
 |a::r,off=>(∃v,w.cell? ⟨b,off,none⟩=some v/\Qq v/\VR ro σ w a v)/\CR ro σ w b r (off+1)
def RR(ro:Nat->Prop)(σ:Sig)(w:World)(b k:Nat):List (List A)->Nat->Prop
 |[],_=>True
 |cs::r,off=>cs.length=k/\CR ro σ w b cs off/\RR ro σ w b k r (off+k)
def LR(ro:Nat->Prop)(σ:Sig)(w:World):List A->List Value->Prop
 |[],l=>l=[]
 |a::r,l=>∃v l',l=v::l'/\VR ro σ w a v/\LR ro σ w r l'
end
structure Ext (ro:Nat->Prop) (σ:Sig) (w:World) (ro':Nat->Prop) (σ':Sig) (w':World):Prop where
 sub:∀b,ro b->ro' b
 keep:∀b,ro b->w'.heap[b]?=w.heap[b]?
 shape:∀b x,w.shape? b=some x->w'.shape? b=some x
 sig:∀(i b:Nat),σ[i]?=some (some b)->σ'[i]?=some (some b)
theorem QgF{w w':World}{b off:Nat}(h:w'.heap[b]?=w.heap[b]?):w'.cell? ⟨b,off,none⟩=w.cell? ⟨b,off,none⟩:=by
 simp only[World.cell?,h]
theorem Ext.nil{ro ro':Nat->Prop}{σ σ':Sig}{w w':World}(h:Ext ro σ w ro' σ' w'):Ext ro [] w ro' [] w':=
 ⟨h.sub,h.keep,h.shape,λ_ _ q=>q⟩
mutual
theorem VR.mono{ro ro':Nat->Prop}{w w':World}:∀{a:A} {σ σ':Sig} {v:Value},Ext ro σ w ro' σ' w'->VR ro σ w a v->VR ro' σ' w' a v
 |.any,_,_,_,h,_=>trivial
 |.bool b,_,_,v,h,q=>q
 |.int k n,_,_,v,h,q=>q
 |.str s,_,_,v,h,q=>q
 |.nilp,_,_,v,h,q=>q
 |.ptr i off,_,_,v,h,q=>by
  simp only[VR]at q⊢;obtain⟨b,h1,h2⟩:=q;exact⟨b,h.sig _ _ h1,h2⟩
 |.rp cs,_,_,v,h,q=>by
  simp only[VR]at q⊢;obtain⟨b,off,h1,h2,h3⟩:=q;exact⟨b,off,h1,h.sub _ h2,CR.mono h.nil h2 h3⟩
 |.nils,_,_,v,h,q=>q
 |.rsl k es,_,_,v,h,q=>by
  simp only[VR]at q⊢;obtain⟨a,cap,h1,h2,h3⟩:=q;refine⟨a,cap,h1,h2,?_⟩;rcases h3 with h3|⟨b,off,h4,h5,h6⟩
  .exact .inl h3
  .exact .inr ⟨b,off,h4,h.sub _ h5,RR.mono h.nil h5 h6⟩
 |.osl i o n k,_,_,v,h,q=>by
  simp only[VR]at q⊢;rcases q with q|⟨b,p,cap,t,m,h1,h2,h6,h3,h4,h5⟩
  .exact .inl q
  .exact .inr ⟨b,p,cap,t,m,h.sig _ _ h1,h2,h6,h3,h.shape _ _ h4,h5⟩
 |.agg cs,_,_,v,h,q=>by
  simp only[VR]at q⊢;obtain⟨l,h1,h2⟩:=q;exact⟨l,h1,LR.mono h h2⟩
 |.fn f a c,_,_,v,h,q=>by
  simp only[VR]at q⊢;obtain⟨l,l',h1,h2,h3⟩:=q;exact⟨l,l',h1,LR.mono h h2,LR.mono h h3⟩
 |.nilf,_,_,v,h,q=>q
 |.iface t a,_,_,v,h,q=>by
  simp only[VR]at q⊢;obtain⟨x,h1,h2⟩:=q;exact⟨x,h1,VR.mono h h2⟩
 |.nilif,_,_,v,h,q=>q
 |.map i,_,_,v,h,q=>by
  simp only[VR]at q⊢;obtain⟨b,h1,h2⟩:=q;exact⟨b,h.sig _ _ h1,h2⟩
 |.nilm,_,_,v,h,q=>q
 |.tup vs,_,_,v,h,q=>by
  simp only[VR]at q⊢;obtain⟨l,h1,h2⟩:=q;exact⟨l,h1,LR.mono h h2⟩
theorem CR.mono{ro ro':Nat->Prop}{w w':World}:∀{cs:List A} {σ σ':Sig} {b off:Nat},Ext ro σ w ro' σ' w'->ro b->CR ro σ w b cs off->CR ro' σ' w' b cs off
 |[],_,_,_,_,_,_,_=>trivial
 |a::r,_,_,b,off,h,hb,q=>by
  simp only[CR]at q⊢;obtain⟨⟨v,h1,hp,h2⟩,h3⟩:=q;exact⟨⟨v,by rw[QgF (h.keep _ hb)];exact h1,hp,VR.mono h h2⟩,CR.mono h hb h3⟩
theorem RR.mono{ro ro':Nat->Prop}{w w':World}:∀{es:List (List A)} {σ σ':Sig} {b k off:Nat},Ext ro σ w ro' σ' w'->ro b->RR ro σ w b k es off->RR ro' σ' w' b k es off
 |[],_,_,_,_,_,_,_,_=>trivial
 |cs::r,_,_,b,k,off,h,hb,q=>by
  simp only[RR]at q⊢;obtain⟨h1,h2,h3⟩:=q;exact⟨h1,CR.mono h hb h2,RR.mono h hb h3⟩
theorem LR.mono{ro ro':Nat->Prop}{w w':World}:∀{az:List A} {σ σ':Sig} {l:List Value},Ext ro σ w ro' σ' w'->LR ro σ w az l->LR ro' σ' w' az l
 |[],_,_,_,h,q=>q
 |a::r,_,_,l,h,q=>by
  simp only[LR]at q⊢;obtain⟨v,l',h1,h2,h3⟩:=q;exact⟨v,l',h1,VR.mono h h2,LR.mono h h3⟩
end
structure Ent where
 fl:Bool
 off:Nat
 lo:Int
 hi:Int
def eC(b1 b2:Nat)(e:Ent):List A:=[.ptr (bif e.fl then b2 else b1) e.off,.int .i64 e.lo,.int .i64 e.hi]
inductive Blk where
 |dead
 |cells (t:Nat) (cs:List A)
 |row (t k:Nat) (es:List (List A))
 |rowr (t k:Nat) (es:List (List A))
 |map (es:List (A×A))
 |iter (cur:Option (A×A)) (es:List (A×A))
 |fmap (es:List (A×A))
 |ents (t b1 b2:Nat) (es:List Ent)
 |mapO (fz:Bool) (t k:Nat) (es:List (A×Option (List (List A))))
 |mapP (es:List (A×A))
 |frow (t k:Nat) (es:List (List A))
def Blk.live:Blk->Bool
 |.dead=>false
 |.fmap _=>false
 |.frow _ _ _=>false
 |.mapO fz _ _ _=> !fz
 |_=>true
def Blk.held:Blk->Bool
 |.mapO fz _ _ _=>fz
 |_=>false
def Blk.holds(x:Blk):Bool:=x.live||x.held
theorem Qav{x:Blk}(h:x.live=true):x≠ .dead:=by rintro rfl;cases h
theorem QeC{x:Blk}(h:x.holds=true):x≠ .dead:=by rintro rfl;cases h
theorem QbJ{x:Blk}(h:x.live=true):x.holds=true:=by unfold Blk.holds;rw[h];rfl
abbrev Qd:=List Blk
def ER(ro:Nat->Prop)(σ:Sig)(w:World):List (A×A)->List MapEntry->Prop
 |[],l=>l=[]
 |x::r,l=>∃e l',l=e::l'/\VR ro σ w x.1 e.key/\VR ro σ w x.2 e.val/\ER ro σ w r l'
def ItR(ro:Nat->Prop)(w:World)(b:Nat)(cur:Option (A×A))(es:List (A×A)):Prop:=
 (es=[]/\cur=none/\w.heap[b]?=some (.mapIter none 0 #[] 0))\/
 ∃m l clock seen left,w.heap[b]?=some (.mapIter (some m) clock seen clock)/\ro m/\w.heap[m]?=some (.map l clock)/\(∀e∈l.toList,e.born<clock)/\(l.toList.map (·.born)).Nodup/\
  (left:List MapEntry).Perm (l.toList.filter λe=> !seen.contains e.born)/\ER ro [] w es left/\
  (∀x,cur=some x->∃e∈l.toList,seen.back? =some e.born/\VR ro [] w x.1 e.key/\VR ro [] w x.2 e.val)
def RL(ro:Nat->Prop)(σ:Sig)(w:World)(k:Nat):List (List A)->List Value->Prop
 |[],_=>True
 |c::es,l=>∃l1 l2,l=l1++l2/\c.length=k/\(LR ro σ w c l1/\ ∀v∈l1,Qq v)/\RL ro σ w k es l2
theorem RL.mono{ro ro':Nat->Prop}{σ σ':Sig}{w w':World}(h:Ext ro σ w ro' σ' w'){k:Nat}:∀{es:List (List A)} {l:List Value},RL ro σ w k es l->RL ro' σ' w' k es l
 |[],_,_=>trivial
 |c::es,l,⟨l1,l2,h1,h2,h3,h4⟩=>⟨l1,l2,h1,h2,⟨h3.1.mono h,h3.2⟩,RL.mono h h4⟩
def SO(ro:Nat->Prop)(w:World)(t k:Nat)(rows:List (List A))(v:Value):Prop:=
 (rows=[]/\v=.slice none 0 0)\/ ∃(c p cap:Nat) (vs:List Value),v=.slice (some ⟨c,p,none⟩) rows.length cap/\rows.length<=cap/\w.heap[c]?=some (.cells vs.toArray t (0,0))/\cap*k<=vs.length/\RL ro [] w k rows vs/\(0<cap->p=0)
def MO(ro:Nat->Prop)(w:World)(t k:Nat):List (A×Option (List (List A)))->List MapEntry->Prop
 |[],l=>l=[]
 |x::r,l=>∃e l',l=e::l'/\VR ro [] w x.1 e.key/\(∀rows,x.2=some rows->SO ro w t k rows e.val)/\MO ro w t k r l'
def Qen:List (A×Option (List (List A)))->List MapEntry->Nat->Prop
 |x::r,e::l,c=>(x.2.isSome=true/\ ∃p n cap,e.val=.slice (some ⟨c,p,none⟩) n cap)\/Qen r l c
 |_,_,_=>False
def Qka:List (A×Option (List (List A)))->List MapEntry->Prop
 |x::r,e::l=>(∀c,x.2.isSome=true->(∃p n cap,e.val=.slice (some ⟨c,p,none⟩) n cap)->¬Qen r l c)/\Qka r l
 |_,_=>True
def Hid(w:World):Blk->Nat->Nat->Prop
 |.mapO _ _ _ es,b,c=>∃l clock,w.heap[b]?=some (.map l clock)/\Qen es l.toList c
 |_,_,_=>False
theorem Hid.keep{w w':World}{x:Blk}{b c:Nat}(h:w'.heap[b]?=w.heap[b]?)(q:Hid w' x b c):Hid w x b c:=by
 cases x with
 |mapO fz t k f=>obtain⟨l,a,d,e⟩:=q;exact⟨l,a,by rw[<- h];exact d,e⟩
 |_=>exact q.elim
theorem Hid.holds{w:World}{x:Blk}{b c:Nat}(q:Hid w x b c):x.holds=true:=by
 cases x with
 |mapO fz t k a=>cases fz<;>rfl
 |_=>exact q.elim
theorem MO.mono{ro ro':Nat->Prop}{σ σ':Sig}{w w':World}(h:Ext ro σ w ro' σ' w'){t k:Nat}:∀{es:List (A×Option (List (List A)))} {l:List MapEntry},(∀c,Qen es l c->w'.heap[c]?=w.heap[c]?)->MO ro w t k es l->MO ro' w' t k es l
 |[],_,_,q=>q
 |x::r,_,hh,⟨e,l',h1,h2,h3,h4⟩=>by
  subst h1;refine⟨e,l',rfl,h2.mono h.nil,λrows hr=>?_,MO.mono h (λc hc=>hh c (.inr hc)) h4⟩;rcases h3 rows hr with q|⟨c,p,cap,vs,q1,q2,q3,q4,q5,q6⟩
  .exact .inl q
  .exact .inr ⟨c,p,cap,vs,q1,q2,by rw[hh c (.inl ⟨by rw[hr];rfl,p,_,_,q1⟩)];exact q3,q4,q5.mono h.nil,q6⟩
theorem MO.cells{ro:Nat->Prop}{w:World}{t k:Nat}:∀{es:List (A×Option (List (List A)))} {l:List MapEntry} {c:Nat},MO ro w t k es l->Qen es l c->∃vs:Array Value,w.heap[c]?=some (.cells vs t (0,0))
 |[],l,c,h,q=>by cases l<;>exact q.elim
 |x::r,_,c,⟨e,l',h1,h2,h3,h4⟩,q=>by
  subst h1;rcases q with⟨q1,p,n,cap,q2⟩|q
  .obtain⟨rows,hr⟩:=Option.isSome_iff_exists.1 q1;rcases h3 rows hr with⟨_,z⟩|⟨c',p',cap',vs,z1,z2,z3,z4,z5,z6⟩
   .rw[q2]at z;cases z
   .rw[q2]at z1;cases z1;exact⟨_,z3⟩
  .exact MO.cells h4 q
def Born(l:Array MapEntry)(clock:Nat):Prop:=clock=l.size/\ ∀(i:Nat) (e:MapEntry),l.toList[i]?=some e->e.born=i
theorem Born.modify{l:Array MapEntry}{a j:Nat}{f:MapEntry->MapEntry}(h:Born l a)(k:∀e,(f e).born=e.born):Born (l.modify j f) a:=by
 obtain⟨g,d⟩:=h;refine⟨by simp[g],λi m q=>?_⟩;rw[Array.toList_modify,List.getElem?_modify]at q;cases z:l.toList[i]? with
 |none=>rw[z]at q;simp at q
 |some e=>
  rw[z]at q;by_cases b:j=i
  .simp[b]at q;rw[<- q,k];exact d i e z
  .simp[b]at q;rw[<- q];exact d i e z
def BR(ro:Nat->Prop)(σ:Sig)(w:World):Blk->Option Nat->Prop
 |.dead,_=>True
 |.cells t cs,some b=>∃l:List Value,w.heap[b]?=some (.cells l.toArray t (0,0))/\LR ro σ w cs l/\ ∀v∈l,Qq v
 |.row t k es,some b=>∃l:List Value,w.heap[b]?=some (.cells l.toArray t (0,0))/\RL ro [] w k es l
 |.rowr t k es,some b=>∃l:List Value,w.heap[b]?=some (.cells l.toArray t (0,0))/\RL ro σ w k es l
 |.row _ _ es,none=>es=[]
 |.ents t b1 b2 es,some b=>∃l:List Value,w.heap[b]?=some (.cells l.toArray t (0,0))/\RL ro σ w 3 (es.map (eC b1 b2)) l
 |.ents _ _ _ es,none=>es=[]
 |.map es,some b=>∃l clock,w.heap[b]?=some (.map l clock)/\ER ro [] w es l.toList/\
   (∀e∈l.toList,e.born<clock)/\(l.toList.map (·.born)).Nodup/\(l.toList.map (·.key)).Nodup
 |.mapP es,some b=>∃l clock,w.heap[b]?=some (.map l clock)/\ER ro σ w es l.toList/\
   (∀e∈l.toList,e.born<clock)/\(l.toList.map (·.born)).Nodup/\(l.toList.map (·.key)).Nodup
 |.frow t k es,some b=>ro b/\ ∃l:List Value,w.heap[b]?=some (.cells l.toArray t (0,0))/\RL ro [] w k es l/\l.length=es.length*k
 |.iter cur es,some b=>ItR ro w b cur es
 |.mapO fz t k es,some b=>(fz=true->ro b)/\ ∃l clock,w.heap[b]?=some (.map l clock)/\MO ro w t k es l.toList/\Qka es l.toList/\
   (∀e∈l.toList,e.born<clock)/\(l.toList.map (·.born)).Nodup/\(l.toList.map (·.key)).Nodup/\Born l clock
 |.fmap es,some b=>ro b/\ ∃l clock,w.heap[b]?=some (.map l clock)/\ER ro [] w es l.toList/\
   (∀e∈l.toList,e.born<clock)/\(l.toList.map (·.born)).Nodup/\(l.toList.map (·.key)).Nodup
 |_,none=>False
structure RoOk (ro:Nat->Prop) (w:World):Prop where
 lt:∀b,ro b->b<w.heap.size
 g:∀b,b<nG->ro b
 gp:GP w
theorem RoOk.to{ro ro':Nat->Prop}{w w':World}(h:RoOk ro w)(sub:∀b,ro b->ro' b)(keep:∀b,ro b->w'.heap[b]?=w.heap[b]?)(lt:∀b,ro' b->b<w'.heap.size):RoOk ro' w':=
 ⟨lt,λb hb=>sub b (h.g b hb),h.gp.keep λb hb=>keep b (h.g b hb)⟩
structure Qpf (fr ro:Nat->Prop) (σ:Sig) (H:Qd) (w:World) (i0 b0 c:Nat):Prop where
 lt:c<w.heap.size
 ro:¬ro c
 fr:¬fr c
 ne:∀(j b:Nat) (y:Blk),σ[j]?=some (some b)->H[j]?=some y->y.live=true->c≠b
 one:∀(j b:Nat) (y:Blk),σ[j]?=some (some b)->H[j]?=some y->Hid w y b c->b=b0/\j=i0
structure Sim (fr ro:Nat->Prop) (σ:Sig) (H:Qd) (w:World):Prop where
 len:σ.length=H.length
 roOk:RoOk ro w
 frLt:∀b,fr b->b<w.heap.size
 roFr:∀b,ro b->¬fr b
 own:∀(i b:Nat) (blk:Blk),σ[i]?=some (some b)->H[i]?=some blk->blk.live=true->b<w.heap.size/\ ¬ro b/\ ¬fr b
 inj:∀(i j b:Nat) (x y:Blk),σ[i]?=some (some b)->σ[j]?=some (some b)->H[i]?=some x->H[j]?=some y->x.live=true->y.live=true->i=j
 blk:∀(i:Nat) (s:Option Nat) (x:Blk),σ[i]?=some s->H[i]?=some x->BR ro σ w x s
 hid:∀(i b:Nat) (x:Blk) (c:Nat),σ[i]?=some (some b)->H[i]?=some x->Hid w x b c->Qpf fr ro σ H w i b c
theorem Sim.roHeld{fr ro:Nat->Prop}{σ:Sig}{H:Qd}{w:World}(s:Sim fr ro σ H w){i b:Nat}{x:Blk}(d:σ[i]?=some (some b))(e:H[i]?=some x)(a:x.held=true):ro b:=by
 have h:=s.blk i _ x d e;cases x with
 |mapO fz t k f=>exact h.1 a
 |_=>cases a
theorem Sim.hidKeep{fr ro:Nat->Prop}{σ:Sig}{H:Qd}{w w':World}(s:Sim fr ro σ H w){i b c:Nat}{x:Blk}(d:σ[i]?=some (some b))(f:H[i]?=some x)
  (hl:x.live=true->w'.heap[b]?=w.heap[b]?)(e:∀b,ro b->w'.heap[b]?=w.heap[b]?)(q:Hid w' x b c):Hid w x b c:=by
 refine q.keep ?_;have h:=q.holds;cases a:x.live with
 |true=>exact hl a
 |false=>unfold Blk.holds at h;rw[a]at h;exact e b (s.roHeld d f h)
theorem Sim.hidTo{fr n ro ro':Nat->Prop}{σ σ':Sig}{H H':Qd}{w w':World}(s:Sim fr ro σ H w)(R:Nat->Nat->Prop)(Q:∀j j' a,R j a->R j' a->j=j')(u:w.heap.size<=w'.heap.size)
  (J:∀(i b:Nat) (x:Blk) (c:Nat),σ[i]?=some (some b)->H[i]?=some x->Hid w x b c->ro' c->ro c)
  (B:∀(i b:Nat) (x:Blk) (c:Nat),σ[i]?=some (some b)->H[i]?=some x->Hid w x b c->n c->fr c)
  (h:∀(j d:Nat) (y:Blk),σ'[j]?=some (some d)->H'[j]?=some y->y.holds=true->
   (∃(a:Nat) (l:Blk),R j a/\σ[a]?=some (some d)/\H[a]?=some l/\(y.live=true->l.live=true)/\ ∀c,Hid w' y d c->Hid w l d c)\/(w.heap.size<=d/\ ∀c,Hid w' y d c->False)):
  ∀(i b:Nat) (x:Blk) (c:Nat),σ'[i]?=some (some b)->H'[i]?=some x->Hid w' x b c->Qpf n ro' σ' H' w' i b c:=by
 intro i b x c X P p;rcases h i b x X P p.holds with⟨a,l,W,z,M,g3,t⟩|⟨_,g⟩
 .have k:=s.hid a b l c z M (t c p);refine⟨Vj k.lt u,λq=>k.ro (J a b l c z M (t c p) q),λq=>k.fr (B a b l c z M (t c p) q),λj d y G F m=>?_,λj d y G F m=>?_⟩
  .rcases h j d y G F (QbJ m)with⟨E,y1,_,L,r,N,_⟩|⟨f,_⟩
   .exact k.ne E d y1 L r (N m)
   .exact λe=>by have:=k.lt;omega
  .rcases h j d y G F m.holds with⟨E,y1,O,L,r,N,Y⟩|⟨_,f⟩
   .obtain⟨V,T⟩:=k.one E d y1 L r (Y c m);subst T;exact⟨V,Q _ _ _ O W⟩
   .exact(f c m).elim
 .exact(g c p).elim
theorem QY(j j' j0:Nat)(h:j=j0)(h':j'=j0):j=j':=h.trans h'.symm
theorem Sim.roLt{fr ro:Nat->Prop}{σ:Sig}{H:Qd}{w:World}(s:Sim fr ro σ H w):∀b,ro b->b<w.heap.size:=s.roOk.lt
structure Qh (fr ro:Nat->Prop) (w:World) (ro':Nat->Prop) (w':World):Prop where
 sub:∀b,ro b->ro' b
 keepRo:∀b,ro b->w'.heap[b]?=w.heap[b]?
 keepFr:∀b,fr b->w'.heap[b]?=w.heap[b]?
 size:w.heap.size<=w'.heap.size
 shape:∀b x,w.shape? b=some x->w'.shape? b=some x
 os:w'.os=w.os
 tape:w'.tape=w.tape
 output:w'.output=w.output
 drawn:w.drawn<=w'.drawn
theorem Qh.refl(fr ro:Nat->Prop)(w:World):Qh fr ro w ro w:=
 ⟨λ_ h=>h,λ_ _=>rfl,λ_ _=>rfl,XX _,λ_ _ h=>h,rfl,rfl,rfl,XX _⟩
theorem Qh.trans{fr ro ro1 ro2:Nat->Prop}{w w1 w2:World}(h:Qh fr ro w ro1 w1)(k:Qh fr ro1 w1 ro2 w2):Qh fr ro w ro2 w2:=
 ⟨λb q=>k.sub _ (h.sub _ q),λb q=>(k.keepRo _ (h.sub _ q)).trans (h.keepRo _ q),λb q=>(k.keepFr _ q).trans (h.keepFr _ q),
  XZ h.size k.size,λb x q=>k.shape _ _ (h.shape _ _ q),k.os.trans h.os,k.tape.trans h.tape,k.output.trans h.output,XZ h.drawn k.drawn⟩
theorem YJ{σ τ:Sig}{i b:Nat}(h:σ[i]?=some (some b)):(σ++τ)[i]?=some (some b):=by
 have a:i<σ.length:=by
  rcases VG i σ.length with q|q
  .exact q
  .simp[XS q]at h
 rw[XQ a];exact h
theorem Qh.ext{fr ro ro':Nat->Prop}{w w':World}(h:Qh fr ro w ro' w')(σ τ:Sig):Ext ro σ w ro' (σ++τ) w':=
 ⟨h.sub,h.keepRo,h.shape,λ_ _=>YJ⟩
theorem Qh.ext0{fr ro ro':Nat->Prop}{w w':World}(h:Qh fr ro w ro' w')(σ:Sig):Ext ro σ w ro' σ w':=
 ⟨h.sub,h.keepRo,h.shape,λ_ _ q=>q⟩
theorem ER.mono{ro ro':Nat->Prop}{σ σ':Sig}{w w':World}(h:Ext ro σ w ro' σ' w'):∀{es:List (A×A)} {l:List MapEntry},ER ro σ w es l->ER ro' σ' w' es l
 |[],_,q=>q
 |x::r,l,q=>by
  simp only[ER]at q⊢;obtain⟨e,l',h1,h2,h3,h4⟩:=q;exact⟨e,l',h1,h2.mono h,h3.mono h,ER.mono h h4⟩
theorem ItR.keep{ro ro':Nat->Prop}{σ σ':Sig}{w w':World}(h:Ext ro σ w ro' σ' w'){b:Nat}(k:w'.heap[b]?=w.heap[b]?){f:Option (A×A)}{es:List (A×A)}
  (q:ItR ro w b f es):ItR ro' w' b f es:=by
 rcases q with⟨i,g,j⟩|⟨m,l,a,d,left,i,g,j,y,n,E,u,p⟩
 .exact .inl ⟨i,g,by rw[k];exact j⟩
 .refine .inr ⟨m,l,a,d,left,by rw[k];exact i,h.sub _ g,by rw[h.keep _ g];exact j,y,n,E,u.mono h.nil,λx z=>?_⟩;obtain⟨e,r,B,t,s⟩:=p x z;exact⟨e,r,B,t.mono h.nil,s.mono h.nil⟩
theorem CR.keep{ro ro':Nat->Prop}{σ σ':Sig}{w w':World}(h:Ext ro σ w ro' σ' w'){b:Nat}(hb:w'.heap[b]?=w.heap[b]?):
  ∀{cs:List A} {off:Nat},CR ro σ w b cs off->CR ro' σ' w' b cs off
 |[],_,_=>trivial
 |a::r,off,q=>by
  simp only[CR]at q⊢;obtain⟨⟨v,h1,hp,h2⟩,h3⟩:=q;exact⟨⟨v,by rw[QgF hb];exact h1,hp,h2.mono h⟩,CR.keep h hb h3⟩
theorem RR.keep{ro ro':Nat->Prop}{σ σ':Sig}{w w':World}(h:Ext ro σ w ro' σ' w'){b:Nat}(hb:w'.heap[b]?=w.heap[b]?){k:Nat}:
  ∀{es:List (List A)} {off:Nat},RR ro σ w b k es off->RR ro' σ' w' b k es off
 |[],_,_=>trivial
 |cs::r,off,q=>by
  simp only[RR]at q⊢;obtain⟨h1,h2,h3⟩:=q;exact⟨h1,CR.keep h hb h2,RR.keep h hb h3⟩
theorem BR.keep{ro ro':Nat->Prop}{σ σ':Sig}{w w':World}(h:Ext ro σ w ro' σ' w'){x:Blk}{s:Option Nat}
  (j:∀b,s=some b->x.live=true->w'.heap[b]?=w.heap[b]?)(q:BR ro σ w x s)(m:∀b c,s=some b->Hid w x b c->w'.heap[c]?=w.heap[c]?):BR ro' σ' w' x s:=by
 cases x with
 |mapO fz t k g=>
  cases s with
  |none=>exact q
  |some b=>
   obtain⟨i,l,c,a,e,f⟩:=q;refine⟨λz=>h.sub b (i z),l,c,?_,e.mono h (λd p=>m b d rfl ⟨l,c,a,p⟩),f⟩;cases fz with
   |false=>rw[j b rfl rfl];exact a
   |true=>rw[h.keep b (i rfl)];exact a
 |dead=>trivial
 |cells t u=>
  cases s with
  |none=>exact q
  |some b=>
   obtain⟨l,a,e,f⟩:=q;exact⟨l,by rw[j b rfl rfl];exact a,e.mono h,f⟩
 |row t k g=>
  cases s with
  |none=>exact q
  |some b=>
   obtain⟨l,a,e⟩:=q;exact⟨l,by rw[j b rfl rfl];exact a,e.mono h.nil⟩
 |rowr t k g=>
  cases s with
  |none=>exact q.elim
  |some b=>
   obtain⟨l,a,e⟩:=q;exact⟨l,by rw[j b rfl rfl];exact a,e.mono h⟩
 |ents t y r g=>
  cases s with
  |none=>exact q
  |some b=>
   obtain⟨l,a,e⟩:=q;exact⟨l,by rw[j b rfl rfl];exact a,e.mono h⟩
 |map g=>
  cases s with
  |none=>exact q
  |some b=>
   obtain⟨l,c,a,e,f⟩:=q;exact⟨l,c,by rw[j b rfl rfl];exact a,e.mono h.nil,f⟩
 |mapP g=>
  cases s with
  |none=>exact q
  |some b=>
   obtain⟨l,c,a,e,f⟩:=q;exact⟨l,c,by rw[j b rfl rfl];exact a,e.mono h,f⟩
 |frow t k g=>
  cases s with
  |none=>exact q
  |some b=>
   obtain⟨i,l,a,e,f⟩:=q;exact⟨h.sub b i,l,by rw[h.keep b i];exact a,e.mono h.nil,f⟩
 |iter n g=>
  cases s with
  |none=>exact q
  |some b=>exact ItR.keep h (j b rfl rfl) q
 |fmap g=>
  cases s with
  |none=>exact q
  |some b=>
   obtain⟨i,l,c,a,e,f⟩:=q;exact⟨h.sub b i,l,c,by rw[h.keep b i];exact a,e.mono h.nil,f⟩
end Go.Sw
namespace Go.Sw
abbrev Env:=List (Nat×A)
def lk:Env->Nat->A
 |[],_=>.any
 |(d,a)::r,s=>bif Nat.beq s d then a else lk r s
abbrev up(env:Env)(d:Nat)(a:A):Env:=(d,a)::env
inductive AEx where
 |normal|exit (id:Nat)|ret
abbrev QB:=AEx->Env->Qd->Prop
def Qdj(fr:Nat->Prop)(ds:List Deferred)(w:World):Prop:=ds.Nodup/\ ∀d∈ds,∃D,d={target:=.collected D,args:= #[]}/\fr D/\w.heap[D]?=some (.deferred (some []))
theorem Qdj.keep{fr ro ro':Nat->Prop}{a:List Deferred}{w w':World}(h:Qdj fr a w)(k:Qh fr ro w ro' w'):Qdj fr a w':=by
 refine⟨h.1,λd e=>?_⟩;obtain⟨D,f,b,g⟩:=h.2 d e;exact⟨D,f,b,(k.keepFr D b).trans g⟩
structure Grow (fr:Nat->Prop) (w:World) (ds:List Deferred) (fr':Nat->Prop) (ds':List Deferred):Prop where
 sub:∀b,fr b->fr' b
 new:∀b,fr' b->fr b\/w.heap.size<=b
 ds:∀d∈ds',d∈ds\/ ∃D,d={target:=.collected D,args:= #[]}/\w.heap.size<=D
theorem Grow.refl(fr:Nat->Prop)(w:World)(ds:List Deferred):Grow fr w ds fr ds:=⟨λ_ h=>h,λ_ h=>.inl h,λ_ h=>.inl h⟩
theorem Grow.trans{fr f g:Nat->Prop}{w w1:World}{ds a e:List Deferred}(h:Grow fr w ds f a)(i:w.heap.size<=w1.heap.size)(k:Grow f w1 a g e):Grow fr w ds g e:=by
 refine⟨λb q=>k.sub b (h.sub b q),λb q=>?_,λd q=>?_⟩
 .rcases k.new b q with q|q
  .exact h.new b q
  .exact .inr (XZ i q)
 .rcases k.ds d q with q|⟨D,l,j⟩
  .exact h.ds d q
  .exact .inr ⟨D,l,XZ i j⟩
theorem Qh.frMono{fr fr' ro ro':Nat->Prop}{w w':World}(h:Qh fr' ro w ro' w')(s:∀b,fr b->fr' b):Qh fr ro w ro' w':=
 ⟨h.sub,h.keepRo,λb q=>h.keepFr b (s b q),h.size,h.shape,h.os,h.tape,h.output,h.drawn⟩
theorem Sim.frMono{fr fr' ro:Nat->Prop}{σ:Sig}{H:Qd}{w:World}(h:Sim fr' ro σ H w)(s:∀b,fr b->fr' b):Sim fr ro σ H w:=
 ⟨h.len,h.roOk,λb q=>h.frLt b (s b q),λb q r=>h.roFr b q (s b r),λi b x q1 q2 q3=>let⟨a,b',c⟩:=h.own i b x q1 q2 q3;⟨a,b',λq=>c (s b q)⟩,h.inj,h.blk,λi b x c q1 q2 q3=>let k:=h.hid i b x c q1 q2 q3;⟨k.lt,k.ro,λq=>k.fr (s c q),k.ne,k.one⟩⟩
structure Rel (fr ro:Nat->Prop) (σ:Sig) (H:Qd) (env:Env) (N:Nat) (a:Act) (w:World):Prop where
 sim:Sim fr ro σ H w
 env:∀s,VR ro σ w (lk env s) (a.tmps.getD s undef)
 size:a.tmps.size=N
 defers:Qdj fr a.defers w
def Qem(rd:Option Nat)(fr:Nat->Prop)(w:World):Prop:=∀l,rd=some l->fr l/\ ∃r,w.heap[l]?=some (.loop r)
theorem Qem.none{fr:Nat->Prop}{w:World}:Qem none fr w:=λl e=>by cases e
theorem Qem.to{rd:Option Nat}{fr fr' ro ro':Nat->Prop}{w w':World}(h:Qem rd fr w)(k:Qh fr ro w ro' w')(s:∀b,fr b->fr' b):Qem rd fr' w':=λl e=>by
 obtain⟨h1,r,h2⟩:=h l e;exact⟨s l h1,r,(k.keepFr l h1).trans h2⟩
def ExR:Exit->AEx->Prop
 |.normal,x=>x=.normal
 |.exit id,x=>x=.exit id
 |.ret,x=>x=.ret
 |_,_=>False
def QaQ(h0:Nat)(fr ro:Nat->Prop)(σ:Sig)(w:World)(N:Nat)(ds:List Deferred)(Q:QB):Exit->Act->World->Prop:=
 λe a' w'=>∃x env' H' ro' σ' fr',ExR e x/\Q x env' H'/\Rel fr' ro' σ' H' env' N a' w'/\Qh fr ro w ro' w'/\σ'.take h0=σ.take h0/\Grow fr w ds fr' a'.defers
theorem QaQ.grow{h0:Nat}{fr b ro d:Nat->Prop}{σ σ1:Sig}{w w1:World}{N:Nat}{j a:List Deferred}{Q:QB}{e:Exit}{a':Act}{w':World}
  (h:QaQ h0 b d σ1 w1 N a Q e a' w')(he:Qh fr ro w d w1)(p:σ1.take h0=σ.take h0)(hg:Grow fr w j b a):QaQ h0 fr ro σ w N j Q e a' w':=by
 obtain⟨x,f,H',g,σ',i,l,n,m,q,k,r⟩:=h;exact⟨x,f,H',g,σ',i,l,n,m,he.trans (q.frMono hg.sub),k.trans p,hg.trans he.size r⟩
theorem QaQ.step{h0:Nat}{fr ro ro1:Nat->Prop}{σ σ1:Sig}{w w1:World}{N:Nat}{ds:List Deferred}{Q:QB}{e:Exit}{a':Act}{w':World}
  (h:QaQ h0 fr ro1 σ1 w1 N ds Q e a' w')(he:Qh fr ro w ro1 w1)(hs:σ1.take h0=σ.take h0):QaQ h0 fr ro σ w N ds Q e a' w':=h.grow he hs (Grow.refl _ _ _)
theorem QaQ.mono{h0:Nat}{fr ro:Nat->Prop}{σ:Sig}{w:World}{N:Nat}{f:List Deferred}{Q Q':QB}{e:Exit}{a':Act}{w':World}
  (h:QaQ h0 fr ro σ w N f Q e a' w')(k:∀x env H,Q x env H->Q' x env H):QaQ h0 fr ro σ w N f Q' e a' w':=by
 obtain⟨x,a,H',b,σ',d,g,j,i⟩:=h;exact⟨x,a,H',b,σ',d,g,k _ _ _ j,i⟩
def Qb3(h0:Nat)(fr ro:Nat->Prop)(σ:Sig)(w:World)(N:Nat)(ds:List Deferred)(Q:QB):Exit->Act->World->Prop:=
 λe a' w'=>∃x env' H' ro' σ' fr',ExR e x/\Q x env' H'/\Rel fr' ro' σ' H' env' N a' w'/\Qh fr ro w ro' w'/\σ'.take h0=σ.take h0/\a'.defers=ds/\Grow fr w ds fr' ds
theorem Qb3.grow{h0:Nat}{fr a ro b:Nat->Prop}{σ σ1:Sig}{w w1:World}{N:Nat}{f:List Deferred}{Q:QB}{e:Exit}{a':Act}{w':World}
  (h:Qb3 h0 a b σ1 w1 N f Q e a' w')(he:Qh fr ro w b w1)(n:σ1.take h0=σ.take h0)(hg:Grow fr w f a f):Qb3 h0 fr ro σ w N f Q e a' w':=by
 obtain⟨x,d,H',g,σ',i,k,m,l,q,j,r,p⟩:=h;exact⟨x,d,H',g,σ',i,k,m,l,he.trans (q.frMono hg.sub),j.trans n,r,hg.trans he.size p⟩
theorem Qb3.step{h0:Nat}{fr ro ro1:Nat->Prop}{σ σ1:Sig}{w w1:World}{N:Nat}{ds:List Deferred}{Q:QB}{e:Exit}{a':Act}{w':World}
  (h:Qb3 h0 fr ro1 σ1 w1 N ds Q e a' w')(he:Qh fr ro w ro1 w1)(hs:σ1.take h0=σ.take h0):Qb3 h0 fr ro σ w N ds Q e a' w':=h.grow he hs (Grow.refl _ _ _)
theorem Qb3.mono{h0:Nat}{fr ro:Nat->Prop}{σ:Sig}{w:World}{N:Nat}{f:List Deferred}{Q Q':QB}{e:Exit}{a':Act}{w':World}
  (h:Qb3 h0 fr ro σ w N f Q e a' w')(k:∀x env H,Q x env H->Q' x env H):Qb3 h0 fr ro σ w N f Q' e a' w':=by
 obtain⟨x,a,H',b,σ',d,g,j,i⟩:=h;exact⟨x,a,H',b,σ',d,g,k _ _ _ j,i⟩
theorem Qb3.postW{h0:Nat}{fr ro:Nat->Prop}{σ:Sig}{w:World}{N:Nat}{f:List Deferred}{Q:QB}{e:Exit}{a':Act}{w':World}
  (h:Qb3 h0 fr ro σ w N f Q e a' w'):QaQ h0 fr ro σ w N f Q e a' w':=by
 obtain⟨x,a,H',b,σ',d,i,k,j,m,g,n,l⟩:=h;exact⟨x,a,H',b,σ',d,i,k,j,m,g,by rw[n];exact l⟩
def WF(rd:Option Nat):Fence:={Fence.wide with round:=rd}
theorem WF.calls{rd:Option Nat}{P:Program}{f:FuncId}{args:Array Value}{w:World}{R:Ending->World->Prop}:CallsIn (WF rd) 0 P f args w R↔Calls P f args w R:=callsIn_wide
abbrev wpL(P:Program)(rd:Option Nat)(ops:Array Oper)(Q:Exit->Act->World->Prop):List Oper->Act->World->Prop:=wpListIn (WF rd) 0 P ops Q
def TC(P:Program)(h0 N:Nat)(c:Code)(env:Env)(H:Qd)(Q:QB):Prop:=
 ∀rd fr ro σ a w,Rel fr ro σ H env N a w->Qem rd fr w->c.wpIn (WF rd) 0 P (QaQ h0 fr ro σ w N a.defers Q) a w
def WO(P:Program)(h0 N:Nat)(all:Array Oper)(l:List Oper)(env:Env)(H:Qd)(Q:QB):Prop:=
 ∀rd fr ro σ a w,Rel fr ro σ H env N a w->Qem rd fr w->wpL P rd all (Qb3 h0 fr ro σ w N a.defers Q) l a w
def Le(h0:Nat)(env:Env)(H:Qd)(env':Env)(H':Qd):Prop:=
 ∀fr ro σ N a w,Rel fr ro σ H env N a w->∃ro' σ',Rel fr ro' σ' H' env' N a w/\(∀b,ro b->ro' b)/\σ'.take h0=σ.take h0
theorem Le.refl(h0:Nat)(env:Env)(H:Qd):Le h0 env H env H:=λfr ro σ N a w h=>⟨ro,σ,h,λ_ q=>q,rfl⟩
theorem Le.trans{h0:Nat}{j f i:Env}{H1 H2 H3:Qd}(h:Le h0 j H1 f H2)(k:Le h0 f H2 i H3):Le h0 j H1 i H3:=by
 intro g u σ N a w r;obtain⟨e,σ1,m,n,l⟩:=h g u σ N a w r;obtain⟨d,σ2,p,t,s⟩:=k g e σ1 N a w m;exact⟨d,σ2,p,λb q=>t _ (n _ q),s.trans l⟩
theorem YI{fr ro ro':Nat->Prop}{w:World}(h:∀b,ro b->ro' b):Qh fr ro w ro' w:=
 ⟨h,λ_ _=>rfl,λ_ _=>rfl,XX _,λ_ _ h=>h,rfl,rfl,rfl,XX _⟩
theorem Yh{P:Program}{rd:Option Nat}{ops:Array Oper}{Q Q':Exit->Act->World->Prop}(hq:∀e a w,Q e a w->Q' e a w):
  ∀(l:List Oper) (a:Act) (w:World),wpL P rd ops Q l a w->wpL P rd ops Q' l a w
 |[],a,w,h=>hq _ _ _ h
 |o::l,a,w,h=>by
  unfold wpL wpListIn at h⊢;split
  .rename_i hw;rw[Vx hw]at h;obtain⟨h1,h2⟩:=h;refine⟨h1,?_⟩
   revert h2
   generalize(o.semAt (WF rd).round a.eval).run P w=r;intro h2;have hk:=λa w=>Yh (P:=P) (rd:=rd) (ops:=ops) hq l a w;cases r with
   |ok x w=>
    cases x with
    |value v=>exact hk _ _ h2
    |skip=>exact hk _ _ h2
    |defer d=>exact hk _ _ h2
    |enter f args=>
     refine⟨h2.1,CallsIn.mono h2.2 ?_⟩;intro e w' q;cases e with
     |returned v=>exact hk _ _ q
     |panicked c=>exact hq _ _ _ q
     |outgrown=>obtain⟨a,w,q⟩:=q;exact⟨a,w,hq _ _ _ q⟩
    |row r args=>exact⟨h2.1,RowsIn.mono h2.2 λv w' q=>hk _ _ q⟩
    |round l f tmps assign body=>
     refine⟨h2.1,RoundIn.mono h2.2 ?_⟩;intro e w' q;cases e with
     |returned v=>exact hk _ _ q
     |panicked c=>exact hq _ _ _ q
     |outgrown=>obtain⟨a,w,q⟩:=q;exact⟨a,w,hq _ _ _ q⟩
    |_=>exact h2
   |halt x w=>
    cases x with
    |panic v=>exact hq _ _ _ h2
    |_=>exact h2
  .rename_i hw;rw[Vw hw]at h;exact⟨h.1,Yh hq l _ _ h.2⟩
theorem QcO{P:Program}{o:Oper}{a:Act}{w w':World}{x:Next}{rd:Option Nat}(h:(execOp a.eval o).run P w=.ok x w')(b:∀d,x≠ .defer d):(o.semAt (WF rd).round a.eval).run P w=.ok x w':=by
 cases e:o.op with
 |defer c=>
  exfalso;have:execOp a.eval o=(do pure (.defer (<- resolve a.eval c o.type))):=by simp[execOp,e]
  rw[this]at h;simp only[Vr]at h;generalize(resolve a.eval c o.type).run P w=r at h;cases r with
  |ok d w2=>simp[Result.andThen,go_sem]at h;exact b _ h.1.symm
  |halt x w2=>simp[Result.andThen]at h
 |_=>rw[Oper.semAt_eq _ _ _ (by rw[e];intro c q;cases q)];exact h
theorem Qab{P:Program}{rd:Option Nat}{ops:Array Oper}{Q:Exit->Act->World->Prop}{o:Oper}{l:List Oper}{a:Act}{w w':World}{v:Value}(b:Region.wanted o (yielded ops a.tmps)=true)
  (h:(execOp a.eval o).run P w=.ok (.value v) w')(k:wpL P rd ops Q l (a.put o.dst v) w'):wpL P rd ops Q (o::l) a w:=by
 unfold wpL wpListIn;rw[Vx b];exact⟨λ_ _=>trivial,by rw[QcO h (λd e=>by cases e)];exact k⟩
theorem QhP{P:Program}{rd:Option Nat}{ops:Array Oper}{Q:Exit->Act->World->Prop}{o:Oper}{l:List Oper}{a:Act}{w w':World}(b:Region.wanted o (yielded ops a.tmps)=true)
  (h:(execOp a.eval o).run P w=.ok .skip w')(k:wpL P rd ops Q l (a.put o.dst undef) w'):wpL P rd ops Q (o::l) a w:=by
 unfold wpL wpListIn;rw[Vx b];exact⟨λ_ _=>trivial,by rw[QcO h (λd e=>by cases e)];exact k⟩
theorem Qdm{P:Program}{rd:Option Nat}{ops:Array Oper}{Q:Exit->Act->World->Prop}{o:Oper}{l:List Oper}{a:Act}{w w':World}{f:FuncId}{args:Array Value}(b:Region.wanted o (yielded ops a.tmps)=true)
  (h:(execOp a.eval o).run P w=.ok (.enter f args) w')(k:Calls P f args w' λe w''=>∃v,e=.returned v/\wpL P rd ops Q l (a.put o.dst v) w''):wpL P rd ops Q (o::l) a w:=by
 unfold wpL wpListIn;rw[Vx b];refine⟨λ_ _=>trivial,?_⟩;rw[QcO h (λd e=>by cases e)];refine⟨λh=>by simp[WF,Fence.wide]at h,WF.calls.2 (Calls.mono k ?_)⟩;rintro e w'' ⟨v,rfl,q⟩;exact q
section
variable {P:Program} {h0 N:Nat} {env env':Env} {H H':Qd} {Q Q':QB} {c c':Code}
theorem TC.mono(h:TC P h0 N c env H Q)(hq:∀x env H,Q x env H->Q' x env H):TC P h0 N c env H Q':=
 λrd fr ro σ a w r hrd=>Code.wpIn_mono (λe a w q=>q.mono hq) (h rd fr ro σ a w r hrd)
theorem TC.le(d:Le h0 env H env' H')(h:TC P h0 N c env' H' Q):TC P h0 N c env H Q:=by
 intro g f j σ a w r hrd;obtain⟨b,σ',i,s,t⟩:=d f j σ N a w r;exact Code.wpIn_mono (λe a w q=>q.step (YI s) t) (h g f b σ' a w i hrd)
theorem WO.le{all:Array Oper}{l:List Oper}(d:Le h0 env H env' H')(h:WO P h0 N all l env' H' Q):WO P h0 N all l env H Q:=by
 intro g f j σ a w r hrd;obtain⟨b,σ',i,s,t⟩:=d f j σ N a w r;exact Yh (λe a w q=>q.step (YI s) t) _ _ _ (h g f b σ' a w i hrd)
theorem WO.mono{all:Array Oper}{l:List Oper}(h:WO P h0 N all l env H Q)(hq:∀x env H,Q x env H->Q' x env H):WO P h0 N all l env H Q':=
 λrd fr ro σ a w r hrd=>Yh (λe a w q=>q.mono hq) _ _ _ (h rd fr ro σ a w r hrd)
def Seq(P:Program)(h0 N:Nat)(c:Code)(Q:QB):QB
 |.normal,env,H=>TC P h0 N c env H Q
 |.exit id,env,H=>Q (.exit id) env H
 |.ret,env,H=>Q .ret env H
def Blo(id:Nat)(Q:QB):QB
 |.normal,env,H=>Q .normal env H
 |.exit id',env,H=>bif Nat.beq id' id then Q .normal env H else Q (.exit id') env H
 |.ret,env,H=>Q .ret env H
theorem TC.seq(h:TC P h0 N c env H (Seq P h0 N c' Q)):TC P h0 N (.seq c c') env H Q:=by
 intro n p t σ a w r hrd;refine wpIn_seq (Code.wpIn_mono ?_ (h n p t σ a w r hrd));rintro e u s ⟨x,b,H',d,σ',f,g,m,l,i,k,j⟩;cases e with
 |normal=>
  obtain rfl:x=.normal:=g;exact Code.wpIn_mono (λe a w q=>q.grow i k j) (m n f d σ' u s l (hrd.to i j.sub))
 |exit id=>
  obtain rfl:x=.exit id:=g;exact⟨_,b,H',d,σ',f,rfl,m,l,i,k,j⟩
 |ret=>
  obtain rfl:x=.ret:=g;exact⟨_,b,H',d,σ',f,rfl,m,l,i,k,j⟩
 |_=>exact g.elim
theorem TC.skip(h:Q .normal env H):TC P h0 N .skip env H Q:=
 λrd fr ro σ a w r hrd=>wpIn_skip ⟨_,env,H,ro,σ,fr,rfl,h,r,Qh.refl _ _ _,rfl,Grow.refl _ _ _⟩
theorem TC.ret(h:Q .ret env H):TC P h0 N .ret env H Q:=
 λrd fr ro σ a w r hrd=>wpIn_ret ⟨_,env,H,ro,σ,fr,rfl,h,r,Qh.refl _ _ _,rfl,Grow.refl _ _ _⟩
theorem TC.exit{id:Nat}(h:Q (.exit id) env H):TC P h0 N (.exit id) env H Q:=
 λrd fr ro σ a w r hrd=>wpIn_exit ⟨_,env,H,ro,σ,fr,rfl,h,r,Qh.refl _ _ _,rfl,Grow.refl _ _ _⟩
theorem TC.block{id:Nat}(h:TC P h0 N c env H (Blo id Q)):TC P h0 N (.block id c) env H Q:=by
 intro s p t σ a w r hrd;refine wpIn_block (Code.wpIn_mono ?_ (h s p t σ a w r hrd));rintro e y u ⟨x,b,H',d,σ',f,k,i,l,m,j,n⟩;cases e with
 |normal=>
  obtain rfl:x=.normal:=k;exact⟨_,b,H',d,σ',f,rfl,i,l,m,j,n⟩
 |exit g=>
  obtain rfl:x=.exit g:=k;simp only[Exit.inBlock];simp only[Blo]at i;by_cases e:g=id
  .subst e;rw[Vx rfl];rw[VJ]at i;exact⟨_,b,H',d,σ',f,rfl,i,l,m,j,n⟩
  .rw[Vw e];have:Nat.beq g id=false:=by
    rw[VQ];intro q;exact e (XU q)
   rw[this]at i;exact⟨_,b,H',d,σ',f,rfl,i,l,m,j,n⟩
 |ret=>
  obtain rfl:x=.ret:=k;exact⟨_,b,H',d,σ',f,rfl,i,l,m,j,n⟩
 |_=>exact k.elim
def opA(env:Env):Operand->A
 |.tmp t=>lk env t
 |.const (.bool b)=>.bool b
 |.const (.int k n)=>.int k n
 |.const (.string s)=>.str s.data.toList
 |.const (.pointer none)=>.nilp
 |.const (.slice none 0 0)=>.nils
 |.const (.map none)=>.nilm
 |.const .nilFunc=>.nilf
 |.const .nilIface=>.nilif
 |.func f=>.fn (.func f) [] []
 |_=>.any
theorem Qg{fr ro:Nat->Prop}{σ:Sig}{a:Act}{w:World}(r:Rel fr ro σ H env N a w)(x:Operand):VR ro σ w (opA env x) (a.eval x):=by
 cases x with
 |tmp t=>exact r.env t
 |const v=>
  cases v with
  |slice a n k=>
   cases a with
   |none=>
    cases n with
    |zero=>cases k with
     |zero=>rfl
     |succ k=>trivial
    |succ n=>trivial
   |some a=>trivial
  |pointer p=>cases p with
   |none=>rfl
   |some p=>trivial
  |map p=>cases p with
   |none=>rfl
   |some p=>trivial
  |string s=>simp[opA,VR,Act.eval]
  |_=>first|trivial|rfl|simp[opA,VR,Act.eval]
 |global g=>trivial
 |func f=>exact⟨[],[],rfl,rfl,rfl⟩
theorem TC.cond{x:Operand}{t:Bool}(j:opA env x=.bool t)(h:t=true->TC P h0 N c env H Q)(i:t=false->TC P h0 N c' env H Q):
  TC P h0 N (.cond x c c') env H Q:=by
 intro f d g σ a w r hrd;have b:=Qg r x;rw[j]at b;exact wpIn_cond_split b (λe=>h e f d g σ a w r hrd) (λe=>i e f d g σ a w r hrd)
theorem Qii{t:Array Value}{d s:Nat}{v:Value}(a:d<t.size):(t.setIfInBounds d v).getD s undef=if s=d then v else t.getD s undef:=by
 simp only[Array.getD_eq_getD_getElem?,Vi];by_cases e:s=d
 .subst e;simp[a]
 .rw[Vw (λq=>e q.symm),Vw e]
theorem VR.up{fr ro:Nat->Prop}{σ:Sig}{a:Act}{w:World}(r:∀s,VR ro σ w (lk env s) (a.tmps.getD s undef)){d:Nat}(b:d<a.tmps.size){x:A}{v:Value}(f:VR ro σ w x v):
  ∀s,VR ro σ w (lk (up env d x) s) ((a.tmps.setIfInBounds d v).getD s undef):=by
 intro s;rw[Qii b];simp only[up,lk];by_cases e:s=d
 .subst e;rw[VJ,Vx rfl];exact f
 .have:Nat.beq s d=false:=by
   rw[VQ];intro q;exact e (XU q)
  rw[this,Vw e];exact r s
def Qp(all:Array Oper)(o:Oper)(env:Env)(b:Bool):Prop:=
 match o.guard with
 |none=>b=true
 |some (j,c)=>∃d,(all[j]?).bind (·.dst)=some d/\((∃x,lk env d=.bool x/\b=(x==c))\/(lk env d=.tup []/\b=false))
theorem YD{all:Array Oper}{o:Oper}{b:Bool}(h:Qp all o env b){fr ro:Nat->Prop}{σ:Sig}{a:Act}{w:World}(r:Rel fr ro σ H env N a w):
  Region.wanted o (yielded all a.tmps)=b:=by
 unfold Qp at h;unfold Region.wanted;cases n:o.guard with
 |none=>rw[n]at h;exact h.symm
 |some g=>
  obtain⟨j,c⟩:=g;rw[n]at h;obtain⟨d,m,⟨x,k,i⟩|⟨k,i⟩⟩:=h
  .have f:=r.env d;rw[k]at f;simp only[VR]at f;have p:a.tmps[d]?=some (.bool x):=by
    rw[Array.getD_eq_getD_getElem?]at f;cases e:a.tmps[d]? with
    |none=>rw[e]at f;simp[undef]at f
    |some y=>rw[e]at f;simp at f;rw[f]
   simp only[yielded,m,XN,p,i];cases x<;>cases c<;>rfl
  .have f:=r.env d;rw[k]at f;obtain⟨l,f,q⟩:=f;rw[Array.getD_eq_getD_getElem?]at f;subst i;simp only[yielded,m,XN];cases e:a.tmps[d]? with
   |none=>cases c<;>rfl
   |some y=>rw[e]at f;simp at f;subst f;cases c<;>rfl
def OpV(P:Program)(o:Oper)(env:Env)(H:Qd)(x:A):Prop:=
 ∀fr ro σ N a w,Rel fr ro σ H env N a w->∃v,(execOp a.eval o).run P w=.ok (.value v) w/\VR ro σ w x v
def OpH(P:Program)(o:Oper)(env:Env)(H:Qd)(x:A)(H':Qd):Prop:=
 ∀fr ro σ N a w,Rel fr ro σ H env N a w->∃v w' ro' τ,(execOp a.eval o).run P w=.ok (.value v) w'/\VR ro' (σ++τ) w' x v/\
  Sim fr ro' (σ++τ) H' w'/\Qh fr ro w ro' w'
def OpU(P:Program)(o:Oper)(env:Env)(H:Qd)(H':Qd):Prop:=
 ∀fr ro σ N a w,Rel fr ro σ H env N a w->∃w' ro' τ,(execOp a.eval o).run P w=.ok .skip w'/\
  Sim fr ro' (σ++τ) H' w'/\Qh fr ro w ro' w'
theorem WO.nil{all:Array Oper}(h:Q .normal env H):WO P h0 N all [] env H Q:=
 λrd fr ro σ a w r hrd=>⟨_,env,H,ro,σ,fr,rfl,h,r,Qh.refl _ _ _,rfl,rfl,Grow.refl _ _ _⟩
theorem Qv{σ τ:Sig}{h0:Nat}(h:h0<=σ.length):(σ++τ).take h0=σ.take h0:=by
 rw[Vb h]
theorem Y4{all:Array Oper}{o:Oper}{l:List Oper}{d:Nat}{x:A}(p:h0<=H.length)(hg:Qp all o env true)(y:o.dst=some d)(u:Nat.blt d N=true)
  (h:OpH P o env H x H')(k:WO P h0 N all l (up env d x) H' Q):WO P h0 N all (o::l) env H Q:=by
 intro m fr B σ a w r hrd;obtain⟨v,i,b,τ,j,t,n,f⟩:=h fr B σ N a w r;refine Qab (YD hg r) j ?_;simp only[y,Act.put];have g:d<N:=by simpa using u
 have z:Rel fr b (σ++τ) H' (up env d x) N {a with tmps:=a.tmps.setIfInBounds d v} i:=
  ⟨n,VR.up (fr:=fr) (λs=>(r.env s).mono (f.ext σ τ)) (by rw[r.size];exact g) t,by simpa using r.size,r.defers.keep f⟩
 refine Yh (λe a w q=>q.step f (Qv ?_)) _ _ _ (k m fr b (σ++τ) _ i z (hrd.to f λ_ q=>q));rw[r.sim.len];exact p
theorem QF{all:Array Oper}{o:Oper}{l:List Oper}{d:Nat}{x:A}(hg:Qp all o env true)(m:o.dst=some d)(j:Nat.blt d N=true)
  (e:OpV P o env H x)(k:WO P h0 N all l (up env d x) H Q):WO P h0 N all (o::l) env H Q:=by
 intro h fr f σ a w r hrd;obtain⟨v,g,i⟩:=e fr f σ N a w r;refine Qab (YD hg r) g ?_;simp only[m,Act.put];have b:d<N:=by simpa using j
 exact k h fr f σ {a with tmps:=a.tmps.setIfInBounds d v} w ⟨r.sim,VR.up (fr:=fr) r.env (by rw[r.size];exact b) i,by simpa using r.size,r.defers⟩ hrd
theorem QbB{all:Array Oper}{o:Oper}{l:List Oper}(n:h0<=H.length)(hg:Qp all o env true)(p:o.dst=none)
  (g:OpU P o env H H')(k:WO P h0 N all l env H' Q):WO P h0 N all (o::l) env H Q:=by
 intro j f u σ a w r hrd;obtain⟨h,b,τ,i,m,d⟩:=g f u σ N a w r;refine QhP (YD hg r) i ?_;simp only[p,Act.put];have t:Rel f b (σ++τ) H' env N a h:=⟨m,λs=>(r.env s).mono (d.ext σ τ),r.size,r.defers.keep d⟩;refine Yh (λe a w q=>q.step d (Qv ?_)) _ _ _ (k j f b (σ++τ) _ h t (hrd.to d λ_ q=>q));rw[r.sim.len];exact n
theorem Qqd{all:Array Oper}{o:Oper}{l:List Oper}{x:A}(n:h0<=H.length)(hg:Qp all o env true)(p:o.dst=none)
  (g:OpH P o env H x H')(k:WO P h0 N all l env H' Q):WO P h0 N all (o::l) env H Q:=by
 intro j f u σ a w r hrd;obtain⟨v,h,b,τ,i,y,m,d⟩:=g f u σ N a w r;refine Qab (YD hg r) i ?_;simp only[p,Act.put];have t:Rel f b (σ++τ) H' env N a h:=⟨m,λs=>(r.env s).mono (d.ext σ τ),r.size,r.defers.keep d⟩;refine Yh (λe a w q=>q.step d (Qv ?_)) _ _ _ (k j f b (σ++τ) _ h t (hrd.to d λ_ q=>q));rw[r.sim.len];exact n
theorem WO.skip{all:Array Oper}{o:Oper}{l:List Oper}{d:Nat}(hg:Qp all o env false)(g:o.dst=some d)(e:Nat.blt d N=true)
  (k:WO P h0 N all l (up env d (.tup [])) H Q):WO P h0 N all (o::l) env H Q:=by
 intro f fr h σ a w r hrd;unfold wpL wpListIn;rw[YD hg r,Vw (by simp)];refine⟨λ_ _=>trivial,?_⟩;simp only[g,Act.put];have b:d<N:=by simpa using e
 exact k f fr h σ {a with tmps:=a.tmps.setIfInBounds d undef} w ⟨r.sim,VR.up (fr:=fr) r.env (by rw[r.size];exact b) ⟨[],rfl,rfl⟩,by simpa using r.size,r.defers⟩ hrd
theorem TC.region{id:Nat}{l:List Oper}(h:WO P h0 N l.toArray l env H Q):TC P h0 N (.region id l.toArray false) env H Q:=
 λrd fr ro σ a w r hrd=>Code.wpIn_mono (λe a w q=>q.postW) (wpIn_region_lit (h rd fr ro σ a w r hrd))
end
end Go.Sw
namespace Go.Sw
mutual
def Yz(ρ:Nat->Nat):A->A
 |.ptr i off=>.ptr (ρ i) off
 |.osl i o n k=>.osl (ρ i) o n k
 |.agg cs=>.agg (Qaa ρ cs)
 |.fn f a c=>.fn f (Qaa ρ a) (Qaa ρ c)
 |.iface t v=>.iface t (Yz ρ v)
 |.map i=>.map (ρ i)
 |.tup vs=>.tup (Qaa ρ vs)
 |a=>a
def Qaa(ρ:Nat->Nat):List A->List A
 |[]=>[]
 |a::r=>Yz ρ a::Qaa ρ r
end
def Qg3(ρ:Nat->Nat):List (List A)->List (List A)
 |[]=>[]
 |a::r=>Qaa ρ a::Qg3 ρ r
def Qjk(ρ:Nat->Nat):List (A×A)->List (A×A)
 |[]=>[]
 |a::r=>(Yz ρ a.1,Yz ρ a.2)::Qjk ρ r
def QU(ρ:Nat->Nat):Blk->Blk
 |.cells t cs=>.cells t (Qaa ρ cs)
 |.rowr t k es=>.rowr t k (Qg3 ρ es)
 |.ents t b1 b2 es=>.ents t (ρ b1) (ρ b2) es
 |.mapP es=>.mapP (Qjk ρ es)
 |b=>b
theorem Qgf(ρ:Nat->Nat)(b1 b2:Nat):∀(es:List Ent),Qg3 ρ (es.map (eC b1 b2))=es.map (eC (ρ b1) (ρ b2))
 |[]=>rfl
 |e::es=>by
  have:=Qgf ρ b1 b2 es;simp only[Vn,Qg3,this];congr 1;cases h:e.fl<;>simp[eC,Qaa,Yz,h]
theorem QM(ρ:Nat->Nat)(x:Blk):(QU ρ x).live=x.live:=by cases x<;>rfl
theorem Qam(ρ:Nat->Nat)(x:Blk)(w:World)(b c:Nat):Hid w (QU ρ x) b c↔Hid w x b c:=by cases x<;>exact Iff.rfl
section
variable {ro:Nat->Prop} {σ σ':Sig} {w:World} {ρ:Nat->Nat} (h:∀i:Nat,σ[ρ i]?=σ'[i]?)
include h
mutual
theorem QdK:∀{a:A} {v:Value},VR ro σ w (Yz ρ a) v↔VR ro σ' w a v
 |.any,_=>by simp only[Yz,VR]
 |.bool b,v=>by simp only[Yz,VR]
 |.int k n,v=>by simp only[Yz,VR]
 |.str s,v=>by simp only[Yz,VR]
 |.nilp,v=>by simp only[Yz,VR]
 |.ptr i off,v=>by simp only[Yz,VR,h]
 |.rp cs,v=>by simp only[Yz,VR]
 |.nils,v=>by simp only[Yz,VR]
 |.rsl k es,v=>by simp only[Yz,VR]
 |.osl i o n k,v=>by simp only[Yz,VR,h]
 |.agg cs,v=>by simp only[Yz,VR];exact exists_congr λl=>and_congr_right λ_=>QbG
 |.fn f a c,v=>by simp only[Yz,VR];exact exists_congr λl=>exists_congr λl'=>and_congr_right λ_=>and_congr QbG QbG
 |.nilf,v=>by simp only[Yz,VR]
 |.iface t a,v=>by simp only[Yz,VR];exact exists_congr λl=>and_congr_right λ_=>QdK
 |.nilif,v=>by simp only[Yz,VR]
 |.map i,v=>by simp only[Yz,VR,h]
 |.nilm,v=>by simp only[Yz,VR]
 |.tup vs,v=>by simp only[Yz,VR];exact exists_congr λl=>and_congr_right λ_=>QbG
theorem QbG:∀{az:List A} {l:List Value},LR ro σ w (Qaa ρ az) l↔LR ro σ' w az l
 |[],l=>by simp only[Qaa,LR]
 |a::r,l=>by
  simp only[Qaa,LR];exact exists_congr λv=>exists_congr λl'=>and_congr_right λ_=>and_congr QdK QbG
end
theorem QdY:∀(cs:List A),(Qaa ρ cs).length=cs.length
 |[]=>rfl
 |a::r=>by simp[Qaa,QdY r]
theorem QjY{k:Nat}:∀{es:List (List A)} {l:List Value},RL ro σ w k (Qg3 ρ es) l↔RL ro σ' w k es l
 |[],l=>by simp only[Qg3,RL]
 |a::r,l=>by
  simp only[Qg3,RL,QdY h];exact exists_congr λl1=>exists_congr λl2=>and_congr_right λ_=>and_congr_right λ_=>and_congr (and_congr_left λ_=>QbG h) QjY
theorem Qn2:∀{es:List (A×A)} {l:List MapEntry},ER ro σ w (Qjk ρ es) l↔ER ro σ' w es l
 |[],l=>by simp only[Qjk,ER]
 |a::r,l=>by
  simp only[Qjk,ER];exact exists_congr λe=>exists_congr λl'=>and_congr_right λ_=>and_congr (QdK h) (and_congr (QdK h) Qn2)
theorem QhN{x:Blk}{s:Option Nat}:BR ro σ w (QU ρ x) s↔BR ro σ' w x s:=by
 cases x with
 |cells t e=>
  cases s with
  |none=>exact Iff.rfl
  |some b=>simp only[QU,BR];exact exists_congr λl=>and_congr_right λ_=>and_congr_left λ_=>QbG h
 |rowr t k a=>
  cases s with
  |none=>exact Iff.rfl
  |some b=>simp only[QU,BR];exact exists_congr λl=>and_congr_right λ_=>QjY h
 |mapP a=>
  cases s with
  |none=>exact Iff.rfl
  |some b=>simp only[QU,BR];exact exists_congr λl=>exists_congr λc=>and_congr_right λ_=>and_congr_left λ_=>Qn2 h
 |ents t f d a=>
  cases s with
  |none=>exact Iff.rfl
  |some b=>
   simp only[QU,BR];refine exists_congr λl=>and_congr_right λ_=>?_;rw[<- Qgf];exact QjY h
 |_=>cases s<;>exact Iff.rfl
end
def C(P:Program)(f:FuncId)(args:List A)(H:Qd)(Q:A->Qd->Prop):Prop:=
 ∀fr ro σ vals w,Sim fr ro σ H w->LR ro σ w args vals->Calls P f vals.toArray w λe w'=>
  ∃v r H' ro' τ,e=.returned v/\Q r H'/\Sim fr ro' (σ++τ) H' w'/\VR ro' (σ++τ) w' r v/\Qh fr ro w ro' w'
theorem C.mono{P:Program}{f:FuncId}{args:List A}{H:Qd}{Q Q':A->Qd->Prop}(h:C P f args H Q)(hq:∀r H,Q r H->Q' r H):C P f args H Q':=
 λfr ro σ vals w s l=>(h fr ro σ vals w s l).mono λe w' ⟨v,r,H',ro',τ,h1,h2,h3⟩=>⟨v,r,H',ro',τ,h1,hq _ _ h2,h3⟩
def QgB:Nat->List A->Env
 |_,[]=>[]
 |i,a::r=>(i,a)::QgB (i+1) r
theorem Qe6{ro:Nat->Prop}{σ:Sig}{w:World}:∀{args:List A} {vals:List Value} {i:Nat} (pre:List Value),pre.length=i->LR ro σ w args vals->∀rest:Array Value,
  ∀s,VR ro σ w (lk (QgB i args) s) (((pre++vals).toArray++rest).getD s undef)
 |[],vals,i,pre,hp,hl,rest,s=>trivial
 |a::r,vals,i,pre,hp,hl,rest,s=>by
  simp only[LR]at hl;obtain⟨v,l',rfl,h1,h2⟩:=hl;simp only[QgB,lk];by_cases e:s=i
  .subst e;rw[VJ];have:((pre++v::l').toArray++rest).getD s undef=v:=by
    subst hp;simp[Array.getD_eq_getD_getElem?,Array.getElem?_append]
   rw[this];exact h1
  .have:Nat.beq s i=false:=by
    rw[VQ];intro q;exact e (XU q)
   rw[this];have:=Qe6 (i:=i+1) (pre++[v]) (by simp[hp]) h2 rest s;simpa using this
def Qcr(P:Program)(fn:Func)(env:Env)(H:Qd)(r:A):Prop:=
 ∀fr ro σ N a w,Rel fr ro σ H env N a w->∃v,(results fn a.tmps).run P w=.ok v w/\VR ro σ w r v
def Qde(P:Program)(h0:Nat)(fn:Func)(Q:A->Qd->Prop):QB
 |.normal,env,H=>∃env' H' r,Le h0 env H env' H'/\Qcr P fn env' H' r/\Q r H'
 |.ret,env,H=>∃env' H' r,Le h0 env H env' H'/\Qcr P fn env' H' r/\Q r H'
 |.exit _,_,_=>False
theorem LR.length{ro:Nat->Prop}{σ:Sig}{w:World}:∀{az:List A} {l:List Value},LR ro σ w az l->l.length=az.length
 |[],l,h=>by simp only[LR]at h;simp[h]
 |a::r,l,h=>by
  simp only[LR]at h;obtain⟨v,l',rfl,_,h2⟩:=h;simp[h2.length]
theorem Sim.turn{fr ro:Nat->Prop}{σ:Sig}{H:Qd}{w:World}(s:Sim fr ro σ H w){b:Nat}{obj:Obj}(p:¬ro b)(n:¬fr b)(u:∀(i:Nat) (x:Blk),σ[i]?=some (some b)->H[i]?=some x->x.live=true->False)
  (g:∀(i d:Nat) (x:Blk),σ[i]?=some (some d)->H[i]?=some x->Hid w x d b->False)
  (r:∀y,w.shape? b=some y->(w.putObj b obj).shape? b=some y):Sim fr ro σ H (w.putObj b obj)/\Qh fr ro w ro (w.putObj b obj):=by
 have a:∀c,c≠b->(w.putObj b obj).heap[c]?=w.heap[c]? :=λc E=>World.putObj_heap_other E;have f:(w.putObj b obj).heap.size=w.heap.size:=by simp
 have ev:Qh fr ro w ro (w.putObj b obj):=by
  refine⟨λ_ q=>q,λc q=>a c (λe=>p (e▸q)),λc q=>a c (λe=>n (e▸q)),by rw[f];exact XX _,λc x q=>?_,rfl,rfl,rfl,XX _⟩;by_cases e:c=b
  .subst e;exact r x q
  .unfold World.shape? at q⊢;rw[a c e];exact q
 have h:Ext ro σ w ro σ (w.putObj b obj):=by have:=ev.ext σ [];simpa using this
 refine⟨⟨s.len,s.roOk.to (λ_ q=>q) ev.keepRo (λc q=>by rw[f];exact s.roLt c q),λc q=>by rw[f];exact s.frLt c q,s.roFr,λi c x l k J=>?_,s.inj,λi y x l k=>?_,
  s.hidTo (· = ·) QY (by rw[f];exact XX _) (λ_ _ _ _ _ _ _ q=>q) (λ_ _ _ _ _ _ _ q=>q) λj d y m t M=>.inl ⟨j,y,rfl,m,t,id,λc q=>s.hidKeep m t (λz=>a d (λe=>u j y (e▸m) t z)) ev.keepRo q⟩⟩,ev⟩
 .obtain⟨F,G,B⟩:=s.own i c x l k J;exact⟨by rw[f];exact F,G,B⟩
 .refine(s.blk i y x l k).keep h ?_ ?_
  .rintro c rfl L;exact a c (λe=>u i x (e▸l) k L)
  .rintro d c rfl q;exact a c (λe=>g i d x l k (e▸q))
theorem Qbs{P:Program}{fn:Func}{tmps:Array Value}{R:Ending->World->Prop}{fr ro:Nat->Prop}{σ:Sig}{H:Qd}:
  ∀(ds:List Deferred) (w:World),ds.Nodup->(∀d∈ds,∃D,d={target:=.collected D,args:= #[]}/\ ¬ro D/\ ¬fr D/\(∀(i:Nat) (x:Blk),σ[i]?=some (some D)->H[i]?=some x->x.live=true->False)/\(∀(i d:Nat) (x:Blk),σ[i]?=some (some d)->H[i]?=some x->Hid w x d D->False)/\w.heap[D]?=some (.deferred (some [])))->
  Sim fr ro σ H w->(∀w',Sim fr ro σ H w'->Qh fr ro w ro w'->∃v,(results fn tmps).run P w'=.ok v w'/\R (.returned v) w')->LeavesInM Fence.wide 0 P fn tmps R ds .returning w
 |[],w,_,_,s,hk=>by
  obtain⟨v,h1,h2⟩:=hk w s (Qh.refl _ _ _);exact⟨v,h1,h2⟩
 |d::ds,w,hn,hd,s,hk=>by
  obtain⟨D,rfl,h1,h2,h3,h5,h4⟩:=hd d (by simp);obtain⟨n1,n2⟩:=List.nodup_cons.1 hn;obtain⟨s',ev⟩:=s.turn (obj:=.deferred none) h1 h2 h3 h5 (λy q=>by unfold World.shape? at q;rw[h4]at q;simp at q);refine⟨(by intro e;cases e),.inl ⟨D,_,rfl,run_takeDeferred h4,?_⟩⟩;refine Qbs ds _ n2 (λd' q=>?_) s' (λw' q1 q2=>hk w' q1 (ev.trans q2));obtain⟨D',rfl,g1,g2,g3,g5,g4⟩:=hd d' (by simp[q]);refine⟨D',rfl,g1,g2,g3,λi d x z1 z2 z3=>g5 i d x z1 z2 (s.hidKeep z1 z2 (λz=>World.putObj_heap_other (λe:d=D=>h3 i x (e▸z1) z2 z)) (λb q=>World.putObj_heap_other (λe:b=D=>h1 (e▸q))) z3),(World.putObj_heap_other (λe=>?_)).trans g4⟩;subst e;exact n1 q
theorem Qb{P:Program}{f:FuncId}{fn:Func}{c:Code}{N:Nat}{args:List A}{H:Qd}{Q:A->Qd->Prop}
  (hf:P.funcs[f]?=some fn)(hb:fn.body=some c)(hN:fn.ntmps=N)(hA:Nat.ble args.length N=true)
  (h:TC P H.length N c (QgB 0 args) H (Qde P H.length fn Q)):C P f args H Q:=by
 intro fr ro σ vals w hs hl;have l:=hl.length;have aa:args.length<=N:=by simpa using hA
 refine(callsIn_wide (n:=0)).1 (callsIn_of_wp_marks hf hb trivial (Code.wpIn_mono ?_ (h none fr ro σ _ w ⟨hs,?_,?_,List.nodup_nil,λd k=>by cases k⟩ Qem.none)))
 .rintro e t j ⟨x,y,H1,G,σ1,R,z,E,h3,h4,h5,V⟩;have u:(∃g H' r,Le H.length y H1 g H'/\Qcr P fn g H' r/\Q r H')->LeavesInM Fence.wide 0 P fn t.tmps (λe j=>
    ∃v' r H' a τ,e=.returned v'/\Q r H'/\Sim fr a (σ++τ) H' j/\VR a (σ++τ) j r v'/\Qh fr ro w a j) t.defers .returning j:=by
   rintro⟨g,H',r,J,hr,hq⟩;obtain⟨a,σ',b,p,Y⟩:=J R G σ1 N t j h3;have hσ:σ'=σ++σ'.drop H.length:=by
    have M:σ'.take H.length=σ:=by rw[Y,h5,VM (by rw[hs.len];exact XX _)]
    conv=>lhs;rw[<- XC H.length σ',M]
   have s1:Sim fr a σ' H' j:=b.sim.frMono V.sub;refine Qbs (ro:=a) (fr:=fr) (σ:=σ') (H:=H') t.defers j b.defers.1 (λd k=>?_) s1 (λw2 X m=>?_)
   .obtain⟨D,rfl,O,g2⟩:=b.defers.2 d k;refine⟨D,rfl,λq=>b.sim.roFr D q O,λq=>?_,λi x T L F=>(b.sim.own i D x T L F).2.2 O,λi d x T L F=>(b.sim.hid i d x D T L F).fr O,g2⟩;rcases V.ds _ k with W|⟨D',e,W⟩
    .cases W
    .have:D=D':=by simpa using e
     subst this;have:=hs.frLt D q;omega
   .have B:Rel fr a σ' H' g N {t with defers:=[]} w2:=⟨X,λs=>(b.env s).mono (by have:=m.ext σ' [];simpa using this),b.size,List.nodup_nil,λd k=>by cases k⟩;obtain⟨v,M,e2⟩:=hr fr a σ' N _ w2 B;exact⟨v,M,v,r,H',a,σ'.drop H.length,rfl,hq,hσ▸X,hσ▸e2,(h4.trans (YI p)).trans m⟩
  cases e with
  |normal=>
   obtain rfl:x=.normal:=z;exact u E
  |ret=>
   obtain rfl:x=.ret:=z;exact u E
  |exit id=>
   obtain rfl:x=.exit id:=z;exact E.elim
  |_=>exact z.elim
 .intro s;have:=Qe6 (i:=0) [] rfl hl (Array.replicate (fn.ntmps-vals.toArray.size) undef) s;simpa using this
 .simp[hN,l];omega
section
variable {P:Program} {fn:Func} {env:Env} {H:Qd}
theorem Qcr.nil(h:fn.results= #[]):Qcr P fn env H (.tup []):=
 λfr ro σ N a w r=>⟨.tuple #[],by simp[results,h,go_sem],[],rfl,rfl⟩
theorem Qcr.one{t:Nat}{x:A}(h:fn.results= #[.tmp t])(hx:lk env t=x):Qcr P fn env H x:=
 λfr ro σ N a w r=>⟨a.tmps.getD t undef,by simp[results,h,go_sem],hx▸r.env t⟩
theorem QlG{t u:Nat}{x y:A}(h:fn.results= #[.tmp t,.tmp u])(hx:lk env t=x)(hy:lk env u=y):Qcr P fn env H (.tup [x,y]):=
 λfr ro σ N a w r=>⟨.tuple #[a.tmps.getD t undef,a.tmps.getD u undef],by simp[results,h,go_sem],
  [_,_],rfl,_,_,rfl,hx▸r.env t,_,_,rfl,hy▸r.env u,rfl⟩
theorem QiX{t u v:Nat}{x y z:A}(h:fn.results= #[.tmp t,.tmp u,.tmp v])(hx:lk env t=x)(hy:lk env u=y)(hz:lk env v=z):
  Qcr P fn env H (.tup [x,y,z]):=
 λfr ro σ N a w r=>⟨.tuple #[a.tmps.getD t undef,a.tmps.getD u undef,a.tmps.getD v undef],by simp[results,h,go_sem],
  [_,_,_],rfl,_,_,rfl,hx▸r.env t,_,_,rfl,hy▸r.env u,_,_,rfl,hz▸r.env v,rfl⟩
end
inductive Ctl (S B:Type) where
 |cont (s:S)
 |done (b:B)
 deriving DecidableEq
def iter{S B:Type}(step:S->Option (Ctl S B)):Nat->S->Option B
 |0,_=>none
 |n+1,s=>match step s with
  |some (.cont s')=>iter step n s'
  |some (.done b)=>some b
  |none=>none
def Qbn{S B:Type}(I:S->Env->Qd->Prop)(d:Ctl S B)(Q:QB):QB
 |.normal,env,H=>∃s,d=.cont s/\I s env H
 |.exit id,env,H=>(∃b,d=.done b)/\Q (.exit id) env H
 |.ret,env,H=>(∃b,d=.done b)/\Q .ret env H
theorem QiV{P:Program}{h0 N:Nat}{c:Code}{S B:Type}{step:S->Option (Ctl S B)}{I:S->Env->Qd->Prop}{Q:QB}{E:B}
  (body:∀s d env H,I s env H->step s=some d->(∀b,d=.done b->b=E)->TC P h0 N c env H (Qbn I d Q))
  {m:Nat}{s0:S}(h:iter step m s0=some E){env:Env}{H:Qd}(G:I s0 env H):TC P h0 N (.loop c) env H Q:=by
 intro T y z σ a w r hrd b k cs hro hb hr;have L:∀m s env H fr1 ro1 σ1 a1 w1,iter step m s=some E->I s env H->Rel fr1 ro1 σ1 H env N a1 w1->Qh y z w ro1 w1->σ1.take h0=σ.take h0->Grow y w a.defers fr1 a1.defers->
   ∃e i j,QaQ h0 y z σ w N a.defers Q e i j/\ArrivesIn (Machine.fenced P (WF T)) P (lone (b.atR a1 (.code c::.inLoop c::k)) cs w1) b k cs e i j:=by
  intro m
  induction m with
  |zero=>intro s env H fr1 ro1 σ1 a1 w1 hit;simp[iter]at hit
  |succ m ih=>
   intro s env H fr1 ro1 σ1 a1 w1 hit G r1 ev1 t1 g1;simp only[iter]at hit;cases M:step s with
   |none=>rw[M]at hit;simp at hit
   |some d=>
    rw[M]at hit;have hd:∀b,d=.done b->b=E:=by
     rintro b rfl;simpa using hit
    obtain⟨e,i,j,J,f⟩:=body s d env H G M hd T fr1 ro1 σ1 a1 w1 r1 (hrd.to ev1 g1.sub) b (.inLoop c::k) cs hro hb hr;obtain⟨x,g,H',t,σ',n,F,u,R,q4,W,q6⟩:=J;have p:=ev1.trans (q4.frMono g1.sub);have X:=g1.trans ev1.size q6;have V:∀x,Q x g H'->ExR e x->QaQ h0 y z σ w N a.defers Q e i j:=λx q q'=>⟨x,g,H',t,σ',n,q',q,R,p,W.trans t1,X⟩;cases e with
    |normal=>
     obtain rfl:x=.normal:=F;obtain⟨s',rfl,u⟩:=u;obtain⟨Y,a2,w2,O,l⟩:=ih s' g H' n t σ' i j hit u R p (W.trans t1) X;exact⟨Y,a2,w2,O,.of_steps (StepsIn.trans f (.one (fenced_calm hb hr rfl) stepR_inLoop)) l⟩
    |exit id=>
     obtain rfl:x=.exit id:=F;exact⟨_,i,j,V _ u.2 rfl,.pass (x:=.inLoop c) rfl (λ_ _=>.inl (by simp)) f⟩
    |ret=>
     obtain rfl:x=.ret:=F;exact⟨_,i,j,V _ u.2 rfl,.pass (x:=.inLoop c) rfl (λ_ _=>.inl (by simp)) f⟩
    |_=>exact F.elim
 obtain⟨e,i,j,J,f⟩:=L m s0 env H y z σ a w h G r (Qh.refl _ _ _) rfl (Grow.refl _ _ _);exact⟨e,i,j,J,.of_steps (.one (fenced_calm hb hr rfl) stepR_loop) f⟩
theorem TC.loop{P:Program}{h0 N:Nat}{c:Code}{S B:Type}{step:S->Option (Ctl S B)}(E:S->Env)(Hp:S->Qd){Q:QB}
  {m:Nat}{s0:S}{b0:B}(h:iter step m s0=some b0){env:Env}{H:Qd}(hI:Le h0 env H (E s0) (Hp s0))
  (body:∀s d,step s=some d->(∀b,d=.done b->b=b0)->TC P h0 N c (E s) (Hp s) (Qbn (λs env H=>Le h0 env H (E s) (Hp s)) d Q)):TC P h0 N (.loop c) env H Q:=
 QiV (I:=λs env H=>Le h0 env H (E s) (Hp s)) (λs d env H hI hs hd=>TC.le hI (body s d hs hd)) h hI
end Go.Sw
namespace Go.Sw
def rho(π:List Nat)(n i:Nat):Nat:=
 match π[i]? with
 |some p=>p
 |none=>n+(i-π.length)
def Yo:Qd->List Nat->List Blk->Qd
 |H,[],xs=>H++xs
 |H,p::π,x::xs=>Yo (H.set p x) π xs
 |H,_::_,[]=>H
theorem Qcj:∀(π:List Nat) (H:Qd) (xs:List Blk),π.length<=xs.length->(Yo H π xs).length=H.length+(xs.length-π.length)
 |[],H,xs,_=>by simp[Yo]
 |p::π,H,[],h=>by simp at h
 |p::π,H,x::xs,h=>by
  simp only[X5]at h;simp only[Yo,Qcj π (H.set p x) xs (by omega),X8,X5];omega
theorem Qcu:∀(π:List Nat) (H:Qd) (xs:List Blk) (i:Nat),i<H.length->i∉π->(Yo H π xs)[i]?=H[i]?
 |[],H,xs,i,hi,_=>by simp[Yo,XQ hi]
 |p::π,H,[],i,hi,h=>by simp[Yo]
 |p::π,H,x::xs,i,hi,h=>by
  simp only[Va,not_or]at h;simp only[Yo];rw[Qcu π (H.set p x) xs i (by simpa using hi) h.2,XT (λe=>h.1 e.symm)]
theorem QeK:∀(π:List Nat) (H:Qd) (xs:List Blk) (j:Nat),π.length<=xs.length->(∀p∈π,p<H.length)->π.Nodup->
  (Yo H π xs)[rho π H.length j]?=xs[j]?
 |[],H,xs,j,_,_,_=>by
  simp only[Yo,rho,List.getElem?_nil,List.length_nil,Xx];rw[XR (by omega)];congr 1;omega
 |p::π,H,[],j,h,_,_=>by simp at h
 |p::π,H,x::xs,j,h,hp,hn=>by
  simp only[X5]at h;have hn':=List.nodup_cons.1 hn;simp only[Yo];cases j with
  |zero=>
   simp only[rho,XI];rw[Qcu π _ xs p (by simpa using hp p (by simp)) hn'.1];rw[Xa (hp p (by simp))]
  |succ j=>
   have ih:=QeK π (H.set p x) xs j (by omega) (λq hq=>by simpa using hp q (by simp[hq])) hn'.2;rw[X8]at ih;have e:rho (p::π) H.length (j+1)=rho π H.length j:=by
    simp only[rho,XJ,X5];cases π[j]? with
    |none=>simp only[];congr 1;omega
    |some q=>rfl
   rw[e,ih];simp
theorem Qk3(π:List Nat)(n i:Nat)(hi:n<=i\/i∈π):∃j,i=rho π n j:=by
 rcases hi with hi|hi
 .refine⟨π.length+(i-n),?_⟩;have:π[π.length+(i-n)]?=none:=XS (by omega);simp only[rho,this];omega
 .obtain⟨j,a,rfl⟩:=List.mem_iff_getElem.1 hi;exact⟨j,by simp[rho,XO a]⟩
def Ye(σ:Sig)(π:List Nat):Sig:=π.map λp=>(σ[p]?).getD none
theorem Qeo{σ τ:Sig}{π:List Nat}{n:Nat}(b:σ.length=n)(a:∀p∈π,p<n)(j:Nat):(σ++τ)[rho π n j]?=(Ye σ π++τ)[j]? :=by
 rcases VG j π.length with h|h
 .have d:π[j]∈π:=Vh h;have f:=a _ d;have e:rho π n j=π[j]:=by simp[rho,XO h]
  rw[e,XQ (by omega),XQ (by simpa[Ye]using h)];simp[Ye,XO h,XO (show π[j]<σ.length by omega)]
 .have e:rho π n j=n+(j-π.length):=by
   simp[rho,XS h]
  rw[e,XR (by omega),XR (by simpa[Ye]using h)];simp[Ye,b]
def OpC(P:Program)(o:Oper)(env:Env)(H:Qd)(f:FuncId)(args:List A):Prop:=
 ∀fr ro σ N a w,Rel fr ro σ H env N a w->∃vals:List Value,(execOp a.eval o).run P w=.ok (.enter f vals.toArray) w/\LR ro σ w args vals
theorem Ji{π:List Nat}{H:Qd}{Hc:List Blk}(hH:π.map (λp=>H[p]?)=Hc.map some){p:Nat}(b:p∈π):p<H.length:=by
 have:H[p]? ∈π.map (λp=>H[p]?):=VK b;rw[hH]at this;obtain⟨x,_,a⟩:=Xf.1 this;rcases VG p H.length with h|h
 .exact h
 .rw[XS h]at a;simp at a
theorem WO.call{P:Program}{h0 N:Nat}{all:Array Oper}{o:Oper}{l:List Oper}{env:Env}{H:Qd}{Q:QB}{d:Option Nat}{f:FuncId}
  {args ab:List A}{Hc:Qd}{Qr:A->Qd->Prop}(π:List Nat)(hh:h0<=H.length)(hg:Qp all o env true)(hd:o.dst=d)(hN:∀x,d=some x->x<N)
  (an:OpC P o env H f args)(hargs:args=Qaa (rho π H.length) ab)(hH:π.map (λp=>H[p]?)=(Hc.map (QU (rho π H.length))).map some)(hπ:π.Nodup)
  (hC:C P f ab Hc Qr)
  (k:∀r H1,Qr r H1->WO P h0 N all l (match d with|some d=>up env d (Yz (rho π H.length) r)|none=>env) (Yo H π (H1.map (QU (rho π H.length)))) Q):
  WO P h0 N all (o::l) env H Q:=by
 intro rd fr ro σ a w r hrd;obtain⟨ai,h1,h2⟩:=an fr ro σ N a w r;refine Qdm (YD hg r) h1 ?_;have hp:∀p∈π,p<H.length:=λp q=>Ji hH q;have hσl:=r.sim.len;have ac:∀(j p:Nat),π[j]?=some p->H[p]?=(Hc[j]?).map (QU (rho π H.length)):=by
  intro j p M;have:=congrArg (λl=>l[j]?) hH;simp only[Xq,M,Xk]at this;cases e:Hc[j]? with
  |none=>rw[e]at this;simp at this
  |some x=>rw[e]at this;simpa using this
 have al:π.length=Hc.length:=by simpa using congrArg List.length hH
 have hσc:∀j:Nat,σ[rho π H.length j]?=(Ye σ π)[j]? :=by
  intro j;have:=Qeo (τ:=[]) hσl hp j;simpa using this
 let frc:Nat->Prop:=λb=>fr b\/(∃i x,σ[i]?=some (some b)/\H[i]?=some x/\x.live=true/\i∉π)\/ ∃i x d,σ[i]?=some (some d)/\H[i]?=some x/\Hid w x d b/\i∉π
 have hπj:∀(j b:Nat),(Ye σ π)[j]?=some (some b)->∃p,π[j]?=some p/\σ[p]?=some (some b):=by
  intro j b M;simp only[Ye,Xq]at M;cases e:π[j]? with
  |none=>rw[e]at M;simp at M
  |some p=>
   rw[e]at M;simp at M;refine⟨p,rfl,?_⟩;cases e2:σ[p]? with
   |none=>rw[e2]at M;simp at M
   |some s=>rw[e2]at M;simp at M;rw[M]
 have hπi:∀(i j p:Nat),π[i]?=some p->π[j]?=some p->i=j:=by
  intro i j p T R;have hi:i<π.length:=by
   rcases VG i π.length with q|q
   .exact q
   .rw[XS q]at T;simp at T
  have M:j<π.length:=by
   rcases VG j π.length with q|q
   .exact q
   .rw[XS q]at R;simp at R
  rw[XO hi]at T;rw[XO M]at R;have af:=(X4 T).trans (X4 R).symm;rcases Nat.lt_trichotomy i j with q|q|q
  .exact(VI.1 hπ i j hi M q af).elim
  .exact q
  .exact(VI.1 hπ j i M hi q af.symm).elim
 have am:Sim frc ro (Ye σ π) Hc w:=by
  refine⟨by simp[Ye,al],r.sim.roOk,?_,?_,?_,?_,?_,?_⟩
  .rintro b (hb|⟨i,x,h,g,m,J⟩|⟨i,x,d,h,g,m,J⟩)
   .exact r.sim.frLt b hb
   .exact(r.sim.own i b x h g m).1
   .exact(r.sim.hid i d x b h g m).lt
  .rintro b hb (hf|⟨i,x,h,g,m,J⟩|⟨i,x,d,h,g,m,J⟩)
   .exact r.sim.roFr b hb hf
   .exact(r.sim.own i b x h g m).2.1 hb
   .exact(r.sim.hid i d x b h g m).ro hb
  .intro j b x h g m;obtain⟨p,T,e2⟩:=hπj j b h;have e3:H[p]?=some (QU (rho π H.length) x):=by rw[ac j p T,g];rfl
   obtain⟨o1,o2,o3⟩:=r.sim.own p b _ e2 e3 (by rw[QM];exact m);refine⟨o1,o2,?_⟩;rintro(hf|⟨i,y,y1,y2,y3,y4⟩|⟨i,y,d,y1,y2,y3,y4⟩)
   .exact o3 hf
   .have:=r.sim.inj i p b _ _ y1 e2 y2 e3 y3 (by rw[QM];exact m);subst this;exact y4 (VL T)
   .exact(r.sim.hid i d y b y1 y2 y3).ne p b _ e2 e3 (by rw[QM];exact m) rfl
  .intro i j b x y h g m J X q6;obtain⟨p,T,e2⟩:=hπj i b h;obtain⟨p',R,au⟩:=hπj j b g;have e3:H[p]?=some (QU (rho π H.length) x):=by rw[ac i p T,m];rfl
   have av:H[p']?=some (QU (rho π H.length) y):=by rw[ac j p' R,J];rfl
   have:=r.sim.inj p p' b _ _ e2 au e3 av (by rw[QM];exact X) (by rw[QM];exact q6);subst this;have hi:i<π.length:=by
    rcases VG i π.length with q|q
    .exact q
    .rw[XS q]at T;simp at T
   have M:j<π.length:=by
    rcases VG j π.length with q|q
    .exact q
    .rw[XS q]at R;simp at R
   rw[XO hi]at T;rw[XO M]at R;have af:=(X4 T).trans (X4 R).symm;rcases Nat.lt_trichotomy i j with q|q|q
   .exact(VI.1 hπ i j hi M q af).elim
   .exact q
   .exact(VI.1 hπ j i M hi q af.symm).elim
  .intro j s x h g;have M:j<π.length:=by
    rcases VG j π.length with q|q
    .exact q
    .rw[XS (by simpa[Ye]using q)]at h;simp at h
   have T:π[j]?=some π[j]:=XO M;have e3:H[π[j]]?=some (QU (rho π H.length) x):=by rw[ac j _ T,g];rfl
   have e2:σ[π[j]]?=some s:=by
    have:=hσc j;rw[h]at this;simpa[rho,T]using this
   exact(QhN hσc).1 (r.sim.blk _ s _ e2 e3)
  .intro j b x c h g m;obtain⟨p,T,e2⟩:=hπj j b h;have e3:H[p]?=some (QU (rho π H.length) x):=by rw[ac j p T,g];rfl
   have k:=r.sim.hid p b _ c e2 e3 ((Qam _ _ _ _ _).2 m);refine⟨k.lt,k.ro,?_,?_,?_⟩
   .rintro(hf|⟨i,y,y1,y2,y3,y4⟩|⟨i,y,d,y1,y2,y3,y4⟩)
    .exact k.fr hf
    .exact k.ne i c y y1 y2 y3 rfl
    .obtain⟨rfl,rfl⟩:=k.one i d y y1 y2 y3;exact y4 (VL T)
   .intro O b' y L n Y;obtain⟨p',f1,f2⟩:=hπj O b' L;exact k.ne p' b' _ f2 (show H[p']?=some (QU (rho π H.length) y)by rw[ac O p' f1,n];rfl) (by rw[QM];exact Y)
   .intro O b' y L n Y;obtain⟨p',f1,f2⟩:=hπj O b' L;obtain⟨z4,z5⟩:=k.one p' b' _ f2 (show H[p']?=some (QU (rho π H.length) y)by rw[ac O p' f1,n];rfl) ((Qam _ _ _ _ _).2 Y);subst z5;exact⟨z4,hπi O j p' f1 T⟩
 have ah:LR ro (Ye σ π) w ab ai:=(QbG hσc).1 (hargs▸h2);refine Calls.mono (hC frc ro (Ye σ π) ai w am ah) ?_;rintro e w' ⟨v,rr,H1,aa,τ,rfl,hq,sc,hv,ev⟩;have hσ':∀j:Nat,(σ++τ)[rho π H.length j]?=(Ye σ π++τ)[j]? :=λj=>Qeo hσl hp j;have ao:H1.length=π.length+τ.length:=by rw[<- sc.len];simp[Ye]
 have ak:π.length<=(H1.map (QU (rho π H.length))).length:=by simp;omega
 have W:Qh fr ro w aa w':=⟨ev.sub,ev.keepRo,λb q=>ev.keepFr b (.inl q),ev.size,ev.shape,ev.os,ev.tape,ev.output,ev.drawn⟩;have F:∀j,(Yo H π (H1.map (QU (rho π H.length))))[rho π H.length j]?=(H1[j]?).map (QU (rho π H.length)):=by
  intro j;rw[QeK π H _ j ak hp hπ];simp
 have B:∀i,i<H.length->i∉π->(Yo H π (H1.map (QU (rho π H.length))))[i]?=H[i]? :=λi=>Qcu π H _ i;have t:∀i:Nat,(∃j,i=rho π H.length j)\/(i<H.length/\i∉π):=by
  intro i;by_cases q:H.length<=i\/i∈π
  .exact .inl (Qk3 π H.length i q)
  .simp only[not_or]at q;exact .inr ⟨by omega,q.2⟩
 have G:∀i b x,i<H.length->i∉π->σ[i]?=some (some b)->H[i]?=some x->x.live=true->frc b:=λi b x h g m J X=>.inr (.inl ⟨i,x,m,J,X,g⟩);have ag:∀i b x c,i<H.length->i∉π->σ[i]?=some (some b)->H[i]?=some x->Hid w' x b c->Hid w x b c/\frc c:=λi b x c h g m J X=>
  have q6:=r.sim.hidKeep m J (λz=>ev.keepFr b (G i b x h g m J z)) ev.keepRo X
  ⟨q6,.inr (.inr ⟨i,x,b,m,J,q6,g⟩)⟩
 have aj:Sim fr aa (σ++τ) (Yo H π (H1.map (QU (rho π H.length)))) w':=by
  refine⟨?_,sc.roOk,λb q=>sc.frLt b (.inl q),λb q q'=>sc.roFr b q (.inl q'),?_,?_,?_,?_⟩
  .rw[Qcj _ _ _ ak];simp[hσl,ao]
  .intro i b x h g m;rcases t i with⟨j,rfl⟩|⟨c1,c2⟩
   .rw[hσ']at h;rw[F]at g;cases e:H1[j]? with
    |none=>rw[e]at g;simp at g
    |some y=>
     rw[e]at g;simp at g;subst g;obtain⟨o1,o2,o3⟩:=sc.own j b y h e (by rw[QM]at m;exact m);exact⟨o1,o2,λq=>o3 (.inl q)⟩
   .rw[B i c1 c2]at g;rw[XQ (by omega)]at h;obtain⟨o1,o2,o3⟩:=r.sim.own i b x h g m;exact⟨Vj o1 ev.size,λq=>sc.roFr b q (G i b x c1 c2 h g m),o3⟩
  .intro i E b x y h g m J X q6;have ae:∀(i E:Nat) (x y:Blk),(∃j,i=rho π H.length j)->(E<H.length/\E∉π)->(σ++τ)[i]?=some (some b)->(σ++τ)[E]?=some (some b)->
     (Yo H π (H1.map (QU (rho π H.length))))[i]?=some x->(Yo H π (H1.map (QU (rho π H.length))))[E]?=some y->x.live=true->y.live=true->False:=by
    rintro i E x y ⟨j,rfl⟩ ⟨c1,c2⟩ h g m J X q6;rw[hσ']at h;rw[F]at m;rw[B E c1 c2]at J;rw[XQ (by omega)]at g;cases e:H1[j]? with
    |none=>rw[e]at m;simp at m
    |some z=>
     rw[e]at m;simp at m;subst m;exact(sc.own j b z h e (by rw[QM]at X;exact X)).2.2 (G E b y c1 c2 g J q6)
   rcases t i with ci|ci<;>rcases t E with ci'|ci'
   .obtain⟨j,rfl⟩:=ci;obtain⟨O,rfl⟩:=ci';rw[hσ']at h g;rw[F]at m J;cases e:H1[j]? with
    |none=>rw[e]at m;simp at m
    |some z=>
     cases V:H1[O]? with
     |none=>rw[V]at J;simp at J
     |some z'=>
      rw[e]at m;simp at m;subst m;rw[V]at J;simp at J;subst J;rw[sc.inj j O b z z' h g e V (by rw[QM]at X;exact X) (by rw[QM]at q6;exact q6)]
   .exact(ae i E x y ci ci' h g m J X q6).elim
   .exact(ae E i y x ci' ci g h J m q6 X).elim
   .rw[B i ci.1 ci.2]at m;rw[B E ci'.1 ci'.2]at J;rw[XQ (by omega)]at h g;exact r.sim.inj i E b x y h g m J X q6
  .intro i s x h g;rcases t i with⟨j,rfl⟩|⟨c1,c2⟩
   .rw[hσ']at h;rw[F]at g;cases e:H1[j]? with
    |none=>rw[e]at g;simp at g
    |some y=>
     rw[e]at g;simp at g;subst g;exact(QhN hσ').2 (sc.blk j s y h e)
   .rw[B i c1 c2]at g;rw[XQ (by omega)]at h;refine BR.keep (W.ext σ τ) ?_ (r.sim.blk i s x h g) ?_
    .rintro b rfl hl;exact ev.keepFr b (G i b x c1 c2 h g hl)
    .rintro b c rfl hl;exact ev.keepFr c (.inr (.inr ⟨i,x,b,h,g,hl,c2⟩))
  .intro i b x c h g m;rcases t i with⟨j,rfl⟩|⟨c1,c2⟩
   .rw[hσ']at h;rw[F]at g;cases e:H1[j]? with
    |none=>rw[e]at g;simp at g
    |some y=>
     rw[e]at g;simp at g;subst g;have k:=sc.hid j b y c h e ((Qam _ _ _ _ _).1 m);refine⟨k.lt,k.ro,λq=>k.fr (.inl q),?_,?_⟩
     .intro E b' y' L n Y;rcases t E with⟨O,rfl⟩|⟨d1,d2⟩
      .rw[hσ']at L;rw[F]at n;cases V:H1[O]? with
       |none=>rw[V]at n;simp at n
       |some u=>
        rw[V]at n;simp at n;subst n;exact k.ne O b' u L V (by rw[QM]at Y;exact Y)
      .rw[B E d1 d2]at n;rw[XQ (by omega)]at L;rintro rfl;exact k.fr (G E c y' d1 d2 L n Y)
     .intro E b' y' L n Y;rcases t E with⟨O,rfl⟩|⟨d1,d2⟩
      .rw[hσ']at L;rw[F]at n;cases V:H1[O]? with
       |none=>rw[V]at n;simp at n
       |some u=>
        rw[V]at n;simp at n;subst n;obtain⟨z4,rfl⟩:=k.one O b' u L V ((Qam _ _ _ _ _).1 Y);exact⟨z4,rfl⟩
      .rw[B E d1 d2]at n;rw[XQ (by omega)]at L;exact(k.fr (ag E b' y' c d1 d2 L n Y).2).elim
   .rw[B i c1 c2]at g;rw[XQ (by omega)]at h;obtain⟨J,X⟩:=ag i b x c c1 c2 h g m;have k:=r.sim.hid i b x c h g J;refine⟨Vj k.lt ev.size,λq=>sc.roFr c q X,k.fr,?_,?_⟩
    .intro E b' y' L n Y;rcases t E with⟨O,rfl⟩|⟨d1,d2⟩
     .rw[hσ']at L;rw[F]at n;cases V:H1[O]? with
      |none=>rw[V]at n;simp at n
      |some u=>
       rw[V]at n;simp at n;subst n;rintro rfl;exact(sc.own O c u L V (by rw[QM]at Y;exact Y)).2.2 X
     .rw[B E d1 d2]at n;rw[XQ (by omega)]at L;exact k.ne E b' y' L n Y
    .intro E b' y' L n Y;rcases t E with⟨O,rfl⟩|⟨d1,d2⟩
     .rw[hσ']at L;rw[F]at n;cases V:H1[O]? with
      |none=>rw[V]at n;simp at n
      |some u=>
       rw[V]at n;simp at n;subst n;exact((sc.hid O b' u c L V ((Qam _ _ _ _ _).1 Y)).fr X).elim
     .rw[B E d1 d2]at n;rw[XQ (by omega)]at L;exact k.one E b' y' L n (ag E b' y' c d1 d2 L n Y).1
 have aq:VR aa (σ++τ) w' (Yz (rho π H.length) rr) v:=(QdK hσ').2 hv;have hk:=k rr H1 hq;cases d with
 |none=>
  simp only[hd,Act.put];have r':Rel fr aa (σ++τ) (Yo H π (H1.map (QU (rho π H.length)))) env N a w':=⟨aj,λs=>(r.env s).mono (W.ext σ τ),r.size,r.defers.keep W⟩;exact⟨_,rfl,Yh (λe a w q=>q.step W (Qv (by omega))) _ _ _ (hk rd fr aa (σ++τ) _ w' r' (hrd.to W λ_ q=>q))⟩
 |some d=>
  simp only[hd,Act.put];have ar:=hN d rfl;have r':Rel fr aa (σ++τ) (Yo H π (H1.map (QU (rho π H.length)))) (up env d (Yz (rho π H.length) rr)) N {a with tmps:=a.tmps.setIfInBounds d v} w':=
   ⟨aj,VR.up (fr:=fr) (λs=>(r.env s).mono (W.ext σ τ)) (by rw[r.size];exact ar) aq,by simpa using r.size,r.defers.keep W⟩
  exact⟨_,rfl,Yh (λe a w q=>q.step W (Qv (by omega))) _ _ _ (hk rd fr aa (σ++τ) _ w' r' (hrd.to W λ_ q=>q))⟩
end Go.Sw
namespace Go.Sw
section
variable {P:Program} {o:Oper} {env:Env} {H:Qd}
theorem QQ{fr ro:Nat->Prop}{σ:Sig}{N:Nat}{a:Act}{w:World}(r:Rel fr ro σ H env N a w){x:Operand}{k:IntKind}{n:Int}(h:opA env x=.int k n):a.eval x=.int k n:=by
 have:=Qg r x;rw[h]at this;exact this
theorem Qbb{fr ro:Nat->Prop}{σ:Sig}{N:Nat}{a:Act}{w:World}(r:Rel fr ro σ H env N a w){x:Operand}{b:Bool}(h:opA env x=.bool b):a.eval x=.bool b:=by
 have:=Qg r x;rw[h]at this;exact this
theorem Qeq{fr ro:Nat->Prop}{σ:Sig}{N:Nat}{a:Act}{w:World}(r:Rel fr ro σ H env N a w){x:Operand}{s:List UInt8}(h:opA env x=.str s):a.eval x=.string ⟨s.toArray⟩:=by
 have:=Qg r x;rw[h]at this;exact this
theorem OpV.move{x:Operand}{v:A}(ho:o.op=.move x)(hx:opA env x=v):OpV P o env H v:=
 λfr ro σ N a w r=>⟨a.eval x,by simp[execOp,ho,go_sem],hx▸Qg r x⟩
theorem OpV.assign{x:Operand}{v:A}(ho:o.op=.assign x)(hx:opA env x=v):OpV P o env H v:=
 λfr ro σ N a w r=>⟨a.eval x,by simp[execOp,ho,go_sem],hx▸Qg r x⟩
theorem OpV.pick{c x y:Operand}{b:Bool}{v:A}(f:o.op=.pick c x y)(d:opA env c=.bool b)(g:(if b then opA env x else opA env y)=v):OpV P o env H v:=by
 intro h i σ N a w r;have e:=Qbb r d;refine⟨if b then a.eval x else a.eval y,by generalize a.eval=ρ at*;simp[execOp,f,e,asBool,go_sem],?_⟩;subst g;cases b
 .exact Qg r y
 .exact Qg r x
theorem OpV.add{t u:TypeId}{x y:Operand}{k:IntKind}{m n:Int}(e:o.op=.binOp .add t x y u)(g:opA env x=.int k m)(b:opA env y=.int k n):OpV P o env H (.int k (k.wrap (m+n))):=by
 intro h i σ N a w r;have d:=QQ r g;have f:=QQ r b;refine⟨_,?_,rfl⟩;generalize a.eval=ρ at*;simp[execOp,e,d,f,Go.binOp,eqGuard,Op.intArith,go_sem]
theorem OpV.sub{t u:TypeId}{x y:Operand}{k:IntKind}{m n:Int}(e:o.op=.binOp .sub t x y u)(g:opA env x=.int k m)(b:opA env y=.int k n):OpV P o env H (.int k (k.wrap (m-n))):=by
 intro h i σ N a w r;have d:=QQ r g;have f:=QQ r b;refine⟨_,?_,rfl⟩;generalize a.eval=ρ at*;simp[execOp,e,d,f,Go.binOp,eqGuard,Op.intArith,go_sem]
theorem OpV.mul{t u:TypeId}{x y:Operand}{k:IntKind}{m n:Int}(e:o.op=.binOp .mul t x y u)(g:opA env x=.int k m)(b:opA env y=.int k n):OpV P o env H (.int k (k.wrap (m*n))):=by
 intro h i σ N a w r;have d:=QQ r g;have f:=QQ r b;refine⟨_,?_,rfl⟩;generalize a.eval=ρ at*;simp[execOp,e,d,f,Go.binOp,eqGuard,Op.intArith,go_sem]
theorem OpV.cmp{op:BinOp}{t u:TypeId}{x y:Operand}{k:IntKind}{m n:Int}{f:Int->Int->Bool}(g:o.op=.binOp op t x y u)(j:opA env x=.int k m)(i:opA env y=.int k n)
  (d:op=.eql/\f=(λa b=>a==b)\/op=.neq/\f=(λa b=>a != b)\/op=.lss/\f=(λa b=>decide (a<b))\/op=.leq/\f=(λa b=>decide (a<=b))\/
   op=.gtr/\f=(λa b=>decide (b<a))\/op=.geq/\f=(λa b=>decide (b<=a))):OpV P o env H (.bool (f m n)):=by
 intro l p σ N a w r;have e:=QQ r j;have h:=QQ r i;refine⟨_,?_,rfl⟩;generalize a.eval=ρ at*;rcases d with⟨rfl,rfl⟩|⟨rfl,rfl⟩|⟨rfl,rfl⟩|⟨rfl,rfl⟩|⟨rfl,rfl⟩|⟨rfl,rfl⟩<;>simp[execOp,g,e,h,Go.binOp,eqGuard,Op.intCmp,go_sem]
theorem OpV.eql{t u:TypeId}{x y:Operand}{k:IntKind}{m n:Int}(ho:o.op=.binOp .eql t x y u)(hx:opA env x=.int k m)(hy:opA env y=.int k n):OpV P o env H (.bool (m==n)):=
 OpV.cmp (f:=λa b=>a==b) ho hx hy (by simp)
theorem OpV.neq{t u:TypeId}{x y:Operand}{k:IntKind}{m n:Int}(ho:o.op=.binOp .neq t x y u)(hx:opA env x=.int k m)(hy:opA env y=.int k n):OpV P o env H (.bool (m != n)):=
 OpV.cmp (f:=λa b=>a != b) ho hx hy (by simp)
theorem OpV.lss{t u:TypeId}{x y:Operand}{k:IntKind}{m n:Int}(ho:o.op=.binOp .lss t x y u)(hx:opA env x=.int k m)(hy:opA env y=.int k n):OpV P o env H (.bool (decide (m<n))):=
 OpV.cmp (f:=λa b=>decide (a<b)) ho hx hy (by simp)
theorem OpV.leq{t u:TypeId}{x y:Operand}{k:IntKind}{m n:Int}(ho:o.op=.binOp .leq t x y u)(hx:opA env x=.int k m)(hy:opA env y=.int k n):OpV P o env H (.bool (decide (m<=n))):=
 OpV.cmp (f:=λa b=>decide (a<=b)) ho hx hy (by simp)
theorem OpV.gtr{t u:TypeId}{x y:Operand}{k:IntKind}{m n:Int}(ho:o.op=.binOp .gtr t x y u)(hx:opA env x=.int k m)(hy:opA env y=.int k n):OpV P o env H (.bool (decide (n<m))):=
 OpV.cmp (f:=λa b=>decide (b<a)) ho hx hy (by simp)
theorem OpV.geq{t u:TypeId}{x y:Operand}{k:IntKind}{m n:Int}(ho:o.op=.binOp .geq t x y u)(hx:opA env x=.int k m)(hy:opA env y=.int k n):OpV P o env H (.bool (decide (n<=m))):=
 OpV.cmp (f:=λa b=>decide (b<=a)) ho hx hy (by simp)
theorem OpV.rem{t u:TypeId}{x y:Operand}{k:IntKind}{m n:Int}(d:o.op=.binOp .rem t x y u)(h:opA env x=.int k m)(f:opA env y=.int k n)(g:n≠0):OpV P o env H (.int k (m.tmod n)):=by
 intro i j σ N a w r;have b:=QQ r h;have e:=QQ r f;exact⟨_,by generalize a.eval=ρ at*;simp[execOp,d,b,e,Go.binOp,eqGuard,Op.intDiv,g,go_sem],rfl⟩
theorem OpV.not{t:TypeId}{x:Operand}{b:Bool}(e:o.op=.unOp .not t x)(f:opA env x=.bool b):OpV P o env H (.bool !b):=by
 intro g h σ N a w r;have d:=Qbb r f;exact⟨_,by generalize a.eval=ρ at*;simp[execOp,e,d,Op.unary,go_sem],rfl⟩
theorem OpV.neg{t:TypeId}{x:Operand}{k:IntKind}{n:Int}(d:o.op=.unOp .neg t x)(e:opA env x=.int k n):OpV P o env H (.int k (k.wrap (0-n))):=by
 intro f g σ N a w r;have b:=QQ r e;exact⟨_,by generalize a.eval=ρ at*;simp[execOp,d,b,Op.unary,Op.intArith,go_sem],rfl⟩
theorem Y8{s t:TypeId}{x:Operand}{k h:IntKind}{n:Int}{b:TypeDesc}(e:o.op=.convert s t x)(f:∀w,(underlying s).run P w=.ok b w)(g:∀w,(underlying t).run P w=.ok (.int k) w)
  (i:opA env x=.int h n):OpV P o env H (.int k (k.wrap n)):=by
 intro j l σ N a w r;have d:=QQ r i;refine⟨_,?_,rfl⟩;generalize a.eval=ρ at*;cases b<;>simp[execOp,e,d,convert,f,g,Conv.intToInt,go_sem]
theorem QdN{op:BinOp}{t u:TypeId}{x y:Operand}{p q:List UInt8}{f:List UInt8->List UInt8->Bool}(h:o.op=.binOp op t x y u)(l:opA env x=.str p)(j:opA env y=.str q)
  (d:op=.eql/\f=(λa b=>a==b)\/op=.neq/\f=(λa b=>a != b)\/op=.lss/\f=Op.bytesLess\/op=.geq/\f=(λa b=> !Op.bytesLess a b)\/
   op=.leq/\f=(λa b=>Op.bytesLess a b||a==b)\/op=.gtr/\f=(λa b=> !(Op.bytesLess a b||a==b))):OpV P o env H (.bool (f p q)):=by
 intro m n σ N a w r;have g:=Qeq r l;have i:=Qeq r j;refine⟨_,?_,rfl⟩;generalize a.eval=ρ at*;have k:(⟨p.toArray⟩:ByteArray).toList=p:=by rw[Go.ByteArray.toList_eq]
 have e:(⟨q.toArray⟩:ByteArray).toList=q:=by rw[Go.ByteArray.toList_eq]
 rcases d with⟨rfl,rfl⟩|⟨rfl,rfl⟩|⟨rfl,rfl⟩|⟨rfl,rfl⟩|⟨rfl,rfl⟩|⟨rfl,rfl⟩<;>simp[execOp,h,g,i,Go.binOp,eqGuard,Op.stringOp,k,e,go_sem,bne]
theorem QdO{t u:TypeId}{x y:Operand}{p q:List UInt8}(ho:o.op=.binOp .eql t x y u)(hx:opA env x=.str p)(hy:opA env y=.str q):OpV P o env H (.bool (p==q)):=
 QdN (f:=λa b=>a==b) ho hx hy (by simp)
theorem QlJ{t u:TypeId}{x y:Operand}{p q:List UInt8}(ho:o.op=.binOp .neq t x y u)(hx:opA env x=.str p)(hy:opA env y=.str q):OpV P o env H (.bool (p != q)):=
 QdN (f:=λa b=>a != b) ho hx hy (by simp)
theorem QlK{t u:TypeId}{x y:Operand}{p q:List UInt8}(ho:o.op=.binOp .lss t x y u)(hx:opA env x=.str p)(hy:opA env y=.str q):OpV P o env H (.bool (Op.bytesLess p q)):=
 QdN ho hx hy (by simp)
theorem QlL{t:TypeId}{x y:Operand}{s:List UInt8}{k:IntKind}{n:Int}{c:UInt8}(g:o.op=.index t x y)(m:∀w,(underlying t).run P w=.ok .string w)(p:opA env x=.str s)(l:opA env y=.int k n)
  (h0:0<=n)(i:s[n.toNat]?=some c):OpV P o env H (.int .u8 c.toNat):=by
 intro q u σ N a w r;have f:=Qeq r p;have j:=QQ r l;have d:(⟨s.toArray⟩:ByteArray)[n.toNat]?=some c:=by
  obtain⟨b,h⟩:=XP.1 i;have e:(⟨s.toArray⟩:ByteArray).size=s.length:=by simp[ByteArray.size]
  rw[getElem?_pos _ _ (by rw[e];exact b)];show some (s.toArray[n.toNat]'(by simpa using b))=some c;simp[h]
 refine⟨_,?_,rfl⟩;generalize a.eval=ρ at*;simp[execOp,g,f,j,Instr.index,asIntOf,m,h0,d,go_sem]
theorem QaS{c:Call}{t:TypeId}{x:Operand}{s:List UInt8}(e:o.op=.call c)(f:c={callee:=.builtin .len,args:= #[x],argTypes:= #[t]})(d:∀w,(underlying t).run P w=.ok .string w)
  (g:opA env x=.str s):OpV P o env H (.int .i64 s.length):=by
 intro h i σ N a w r;have b:=Qeq r g;refine⟨_,?_,rfl⟩;generalize a.eval=ρ at*;subst f;simp[execOp,e,b,resolve,invoke,Go.builtin,Builtin.len_,d,goInt,go_sem]<;>rfl
theorem QnL{c:Call}{t e:TypeId}{x:Operand}{k:Nat}{es:List (List A)}(d:o.op=.call c)(f:c={callee:=.builtin .len,args:= #[x],argTypes:= #[t]})(g:∀w,(underlying t).run P w=.ok (.slice e) w)
  (i:opA env x=.rsl k es):OpV P o env H (.int .i64 es.length):=by
 intro j l σ N a w r;have b:=Qg r x;rw[i]at b;obtain⟨ad,h,b,_⟩:=b;refine⟨_,?_,rfl⟩;generalize a.eval=ρ at*;subst f;simp[execOp,d,b,resolve,invoke,Go.builtin,Builtin.len_,g,goInt,go_sem]
theorem Qi1{c:Call}{t e:TypeId}{x:Operand}{i s n k:Nat}(f:o.op=.call c)(g:c={callee:=.builtin .len,args:= #[x],argTypes:= #[t]})(h:∀w,(underlying t).run P w=.ok (.slice e) w)
  (l:opA env x=.osl i s n k):OpV P o env H (.int .i64 n):=by
 intro q y σ N a w r;have d:=Qg r x;rw[l]at d;refine⟨_,?_,rfl⟩;generalize a.eval=ρ at*;subst g;rcases d with⟨rfl,d⟩|⟨b,p,j,u,m,_,d,_⟩<;>
 simp[execOp,f,d,resolve,invoke,Go.builtin,Builtin.len_,h,goInt,go_sem]
structure QI (P:Program) (T f off n:Nat):Prop where
 h:∃fs fd,(∀w,(underlying T).run P w=.ok (.struct fs) w)/\fs[f]?=some fd/\fd.offset=off/\(∀w,(sizeOf fd.type).run P w=.ok n w)/\n≠0
theorem Jf(b off n:Nat):(⟨b,off,none⟩:Addr).add n=⟨b,off+n,none⟩:=by
 unfold Addr.add;split
 .rename_i h;simp[h]
 .rfl
theorem QdV{T f off n b p:Nat}(g:QI P T f off n)(w:World):(Instr.fieldAt T (.pointer (some ⟨b,p,none⟩)) f).run P w=.ok (.pointer (some ⟨b,p+off,none⟩)) w:=by
 obtain⟨k,j,d,e,rfl,i,a⟩:=g.h;simp[Instr.fieldAt,d,e,Instr.sureAddr,fieldPlace,i,a,Jf,go_sem]
theorem Yp{T f off n i p:Nat}{x:Operand}(e:QI P T f off n)(g:o.op=.fieldAddr T x f)(h:opA env x=.ptr i p):OpV P o env H (.ptr i (p+off)):=by
 intro l k σ N a w r;have d:=Qg r x;rw[h]at d;obtain⟨b,d,j⟩:=d;refine⟨.pointer (some ⟨b,p+off,none⟩),?_,b,d,rfl⟩;generalize a.eval=ρ at*;simp only[execOp,g,j,Vr,QdV e];rfl
theorem CR.drop{ro:Nat->Prop}{σ:Sig}{w:World}{b:Nat}:∀(n:Nat) {cs:List A} {off:Nat},CR ro σ w b cs off->CR ro σ w b (cs.drop n) (off+n)
 |0,_,_,h=>h
 |n+1,[],_,h=>trivial
 |n+1,c::cs,off,h=>by
  have:=CR.drop n h.2;rw[List.drop_succ_cons];rw[show off+(n+1)=off+1+n from by omega];exact this
theorem CR.take{ro:Nat->Prop}{σ:Sig}{w:World}{b:Nat}:∀(n:Nat) {cs:List A} {off:Nat},CR ro σ w b cs off->CR ro σ w b (cs.take n) off
 |0,_,_,h=>trivial
 |n+1,[],_,h=>trivial
 |n+1,c::cs,off,h=>⟨h.1,CR.take n h.2⟩
theorem Qw{T f off n:Nat}{x:Operand}{cs cs':List A}(j:QI P T f off n)(g:o.op=.fieldAddr T x f)(k:opA env x=.rp cs)(e:cs.drop off=cs'):OpV P o env H (.rp cs'):=by
 intro l m σ N a w r;have d:=Qg r x;rw[k]at d;obtain⟨b,p,d,i,h⟩:=d;refine⟨.pointer (some ⟨b,p+off,none⟩),?_,b,p+off,rfl,i,e▸h.drop off⟩;generalize a.eval=ρ at*;simp only[execOp,g,d,Vr,QdV j];rfl
theorem RR.get{ro:Nat->Prop}{σ:Sig}{w:World}{b k:Nat}:∀(n:Nat) {es:List (List A)} {off:Nat} {c:List A},RR ro σ w b k es off->es[n]?=some c->c.length=k/\CR ro σ w b c (off+n*k)
 |n,[],_,_,h,hc=>by simp at hc
 |0,e::es,off,c,h,hc=>by
  simp at hc;subst hc;exact⟨h.1,by simpa using h.2.1⟩
 |n+1,e::es,off,c,h,hc=>by
  have:=RR.get n h.2.2 (by simpa using hc);refine⟨this.1,?_⟩;rw[show off+(n+1)*k=off+k+n*k from by rw[Xm];omega];exact this.2
theorem QoP{t e:TypeId}{x y:Operand}{k:Nat}{es:List (List A)}{E:IntKind}{n:Int}{c:List A}(s:o.op=.indexAddr t x y)(l:∀w,(underlying t).run P w=.ok (.slice e) w)
  (u:∀w,(sizeOf e).run P w=.ok k w)(m:opA env x=.rsl k es)(j:opA env y=.int E n)(h0:0<=n)(h:es[n.toNat]?=some c):OpV P o env H (.rp c):=by
 intro G J σ N a w r;have f:=Qg r x;rw[m]at f;have i:=QQ r j;obtain⟨ad,z,f,L,B⟩:=f;have g:n.toNat<es.length:=(XP.1 h).1;rcases B with rfl|⟨b,d,rfl,q,p⟩
 .simp at g
 have F:n<es.length:=by omega
 refine⟨.pointer (some ⟨b,d+n.toNat*k,none⟩),?_,b,d+n.toNat*k,rfl,q,(p.get n.toNat h).2⟩;generalize a.eval=ρ at*;simp[execOp,s,f,i,Instr.indexAt,asIntOf,l,u,h0,F,Jf,go_sem]
theorem QhB{t e:TypeId}{x y:Operand}{i s m k:Nat}{E:IntKind}{n:Int}(f:o.op=.indexAddr t x y)(u:∀w,(underlying t).run P w=.ok (.slice e) w)
  (l:∀w,(sizeOf e).run P w=.ok k w)(F:opA env x=.osl i s m k)(q:opA env y=.int E n)(h0:0<=n)(g:n<m):OpV P o env H (.ptr i (s*k+n.toNat*k)):=by
 intro L O σ N a w r;have d:=Qg r x;rw[F]at d;have j:=QQ r q;rcases d with⟨rfl,_⟩|⟨b,p,z,J,M,h,d,B,G,_⟩
 .omega
 obtain rfl:=B (by omega);refine⟨.pointer (some ⟨b,s*k+n.toNat*k,none⟩),?_,b,h,rfl⟩;generalize a.eval=ρ at*;simp[execOp,f,d,j,Instr.indexAt,asIntOf,u,l,h0,g,Jf,go_sem]
def Pts(H:Qd)(p:A)(cs:List A):Prop:=
 ∀fr ro σ w v,Sim fr ro σ H w->VR ro σ w p v->∃b off,v=.pointer (some ⟨b,off,none⟩)/\CR ro σ w b cs off
theorem VR.lift{ro:Nat->Prop}{σ:Sig}{w:World}{a:A}{v:Value}(h:VR ro [] w a v):VR ro σ w a v:=
 h.mono ⟨λ_ q=>q,λ_ _=>rfl,λ_ _ q=>q,λi b q=>by simp at q⟩
theorem CR.lift{ro:Nat->Prop}{σ:Sig}{w:World}{b:Nat}:∀{cs:List A} {off:Nat},CR ro [] w b cs off->CR ro σ w b cs off
 |[],_,_=>trivial
 |c::cs,off,⟨⟨v,h1,hp,h2⟩,h3⟩=>⟨⟨v,h1,hp,h2.lift⟩,CR.lift h3⟩
theorem LR.lift{ro:Nat->Prop}{σ:Sig}{w:World}:∀{cs:List A} {l:List Value},LR ro [] w cs l->LR ro σ w cs l
 |[],_,h=>h
 |c::cs,l,⟨v,l',h1,h2,h3⟩=>⟨v,l',h1,h2.lift,LR.lift h3⟩
theorem Pts.rp{cs:List A}:Pts H (.rp cs) cs:=λfr ro σ w v s ⟨b,off,h1,h2,h3⟩=>⟨b,off,h1,h3.lift⟩
theorem LR.cells{ro:Nat->Prop}{σ:Sig}{w:World}{b t:Nat}{fz:Nat×Nat}{pre l:List Value}(d:w.heap[b]?=some (.cells (pre++l).toArray t fz))(a:∀v∈l,Qq v):
  ∀{cs:List A},LR ro σ w cs l->CR ro σ w b cs pre.length:=by
 induction l generalizing pre with
 |nil=>
  intro cs h;cases cs with
  |nil=>trivial
  |cons c cs=>obtain⟨v,g,h,_⟩:=h;cases h
 |cons v l f=>
  intro cs h;cases cs with
  |nil=>trivial
  |cons c cs=>
   obtain⟨m,g,e,j,i⟩:=h;cases e;refine⟨⟨v,by simp[World.cell?,d],a v (by simp),j⟩,?_⟩;have:=f (pre:=pre++[v]) (by simpa using d) (λx k=>a x (by simp[k])) i;simpa using this
theorem Pts.cells{i off t:Nat}{cs cs':List A}(hH:H[i]?=some (.cells t cs))(a:cs.drop off=cs'):Pts H (.ptr i off) cs':=by
 intro k m σ w v s h;obtain⟨b,d,e⟩:=h;obtain⟨l,j,f,g⟩:=s.blk i _ _ d hH;have:=LR.cells (pre:=[]) (by simpa using j) g f;refine⟨b,off,e,a▸ ?_⟩;have:=this.drop off;simpa using this
theorem LR.get{ro:Nat->Prop}{σ:Sig}{w:World}:∀{az:List A} {l:List Value} (i:Nat) {a:A},LR ro σ w az l->az[i]?=some a->∃v,l[i]?=some v/\VR ro σ w a v
 |[],l,i,a,h,ha=>by simp at ha
 |x::az,l,0,a,⟨v,l',h1,h2,h3⟩,ha=>by
  simp at ha;subst ha h1;exact⟨v,rfl,h2⟩
 |x::az,l,i+1,a,⟨v,l',h1,h2,h3⟩,ha=>by
  subst h1;obtain⟨v',q1,q2⟩:=LR.get i h3 (by simpa using ha);exact⟨v',by simpa using q1,q2⟩
theorem LR.drop{ro:Nat->Prop}{σ:Sig}{w:World}:∀(n:Nat) {az:List A} {l:List Value},LR ro σ w az l->LR ro σ w (az.drop n) (l.drop n)
 |0,az,l,h=>h
 |n+1,[],l,h=>by cases(show l=[]from h);rfl
 |n+1,a::az,l,⟨v,l',h1,h2,h3⟩=>by subst h1;exact LR.drop n h3
theorem LR.take{ro:Nat->Prop}{σ:Sig}{w:World}:∀(n:Nat) {az:List A} {l:List Value},LR ro σ w az l->LR ro σ w (az.take n) (l.take n)
 |0,az,l,h=>rfl
 |n+1,[],l,h=>by cases(show l=[]from h);rfl
 |n+1,a::az,l,⟨v,l',h1,h2,h3⟩=>by subst h1;exact⟨v,l'.take n,rfl,h2,LR.take n h3⟩
theorem LR.append{ro:Nat->Prop}{σ:Sig}{w:World}:∀{az:List A} {l:List Value} {bs:List A} {m:List Value},LR ro σ w az l->LR ro σ w bs m->LR ro σ w (az++bs) (l++m)
 |[],l,bs,m,h,k=>by cases(show l=[]from h);exact k
 |a::az,l,bs,m,⟨v,l',h1,h2,h3⟩,k=>by subst h1;exact⟨v,l'++m,rfl,h2,LR.append h3 k⟩
theorem QhG{ro:Nat->Prop}{σ:Sig}{w:World}{b t:Nat}{fz:Nat×Nat}:∀{cs:List A} {pre l post:List Value},w.heap[b]?=some (.cells (pre++(l++post)).toArray t fz)->(∀v∈l,Qq v)->
  LR ro σ w cs l->CR ro σ w b cs pre.length
 |[],_,_,_,_,_,_=>trivial
 |c::cs,pre,l,post,hb,hpl,⟨v,l',h1,h2,h3⟩=>by
  subst h1;refine⟨⟨v,by simp[World.cell?,hb],hpl v (by simp),h2⟩,?_⟩;have:=QhG (pre:=pre++[v]) (l:=l') (post:=post) (by simpa using hb) (λx hx=>hpl x (by simp[hx])) h3;simpa using this
theorem YV{ro:Nat->Prop}{σ:Sig}{w:World}{b t k:Nat}{fz:Nat×Nat}:∀{es:List (List A)} {pre l:List Value},w.heap[b]?=some (.cells (pre++l).toArray t fz)->
  RL ro σ w k es l->RR ro σ w b k es pre.length
 |[],_,_,_,_=>trivial
 |c::es,pre,l,hb,⟨l1,l2,h1,h2,h3,h4⟩=>by
  subst h1;refine⟨h2,QhG hb h3.2 h3.1,?_⟩;have hl:=h3.1.length;have:=YV (pre:=pre++l1) (l:=l2) (by simpa using hb) h4;simpa[hl,h2]using this
theorem Pts.row{i off t k e f:Nat}{es:List (List A)}{c cs':List A}(hH:H[i]?=some (.row t k es))(g:off=e*k+f)(he:es[e]?=some c)(a:c.drop f=cs'):Pts H (.ptr i off) cs':=by
 intro p q σ w v s h;obtain⟨b,d,j⟩:=h;obtain⟨l,n,m⟩:=s.blk i _ _ d hH;have:=((YV (pre:=[]) (by simpa using n) m).get e he).2.drop f;refine⟨b,off,j,?_⟩;subst g a;simpa using this.lift
theorem Pts.rowr{i off t k e f:Nat}{es:List (List A)}{c cs':List A}(hH:H[i]?=some (.rowr t k es))(g:off=e*k+f)(he:es[e]?=some c)(a:c.drop f=cs'):Pts H (.ptr i off) cs':=by
 intro p q σ w v s h;obtain⟨b,d,j⟩:=h;obtain⟨l,n,m⟩:=s.blk i _ _ d hH;have:=((YV (pre:=[]) (by simpa using n) m).get e he).2.drop f;refine⟨b,off,j,?_⟩;subst g a;simpa using this
theorem Qlw{w w':World}(h:w'.heap=w.heap)(a:Addr):w'.cell? a=w.cell? a:=by unfold World.cell?;rw[h]
theorem YE{ro:Nat->Prop}{σ:Sig}{w:World}{b off:Nat}:∀{cs:List A} (i:Nat),CR ro σ w b cs (off+i)->
  ∃l,LR ro σ w cs l/\(∀v∈l,Qq v)/\ ∀(w':World) (a:Array Value),w'.heap=w.heap->(loadCellsFrom ⟨b,off,none⟩ i cs.length a).run P w'=.ok (a++l.toArray) w'
 |[],i,h=>⟨[],rfl,by simp,λw' a _=>by simp[loadCellsFrom,go_sem]⟩
 |c::cs,i,⟨⟨v,h1,hp,h2⟩,h3⟩=>by
  obtain⟨l,q1,qp,q2⟩:=YE (cs:=cs) (i+1) (by rw[<- Nat.add_assoc];exact h3);refine⟨v::l,⟨v,l,rfl,h2,q1⟩,by simpa using⟨hp,qp⟩,λw' a hw=>?_⟩;have h1':w'.cell? ⟨b,off+i,none⟩=some v:=by rw[Qlw hw];exact h1
  have:=q2 w' (a.push v) hw;simp[loadCellsFrom,Go.load,Sem.run,Jf,h1',this,go_sem]
theorem Qm{t n:Nat}{x:Operand}{p:A}{cs vs:List A}(f:o.op=.load t x)(i:∀w,(isAgg t).run P w=.ok true w)(m:∀w,(sizeOf t).run P w=.ok n w)(s:opA env x=p)(h:Pts H p cs)
  (q:cs.take n=vs)(hl:vs.length=n):OpV P o env H (.agg vs):=by
 intro g y σ N a w r;have e:=Qg r x;rw[s]at e;obtain⟨b,off,k,j⟩:=h g y σ w _ r.sim e;subst q;obtain⟨l,u,_,d⟩:=YE (P:=P) (cs:=cs.take n) (off:=off) 0 (by simpa using j.take n);have d:=d w #[] rfl;rw[hl]at d;refine⟨.agg l.toArray,?_,l,rfl,u⟩;generalize a.eval=ρ at*;simp[execOp,f,k,Instr.loadAt,Instr.sureAddr,loadVar,i,m,loadCells,d,go_sem]
theorem OpV.load{t:Nat}{x:Operand}{p v:A}{cs:List A}(e:o.op=.load t x)(h:∀w,(isAgg t).run P w=.ok false w)(m:opA env x=p)(g:Pts H p (v::cs)):OpV P o env H v:=by
 intro f n σ N a w r;have d:=Qg r x;rw[m]at d;obtain⟨b,l,j,⟨y,i,_,k⟩,_⟩:=g f n σ w _ r.sim d;refine⟨y,?_,k⟩;generalize a.eval=ρ at*;simp[execOp,e,j,Instr.loadAt,Instr.sureAddr,loadVar,h,Go.load,Sem.run,i,go_sem]
theorem OpV.extract{x:Operand}{vs:List A}{i:Nat}{v:A}(d:o.op=.extract x i)(j:opA env x=.tup vs)(g:vs[i]?=some v):OpV P o env H v:=by
 intro k m σ N a w r;have b:=Qg r x;rw[j]at b;obtain⟨l,b,f⟩:=b;obtain⟨y,e,h⟩:=f.get i g;refine⟨y,?_,h⟩;generalize a.eval=ρ at*;simp[execOp,d,b,Instr.extract,e,go_sem]
theorem Qbm{fr ro:Nat->Prop}{σ:Sig}{N:Nat}{a:Act}{w:World}(r:Rel fr ro σ H env N a w):∀(l:List Operand),LR ro σ w (l.map (opA env)) (l.map a.eval)
 |[]=>rfl
 |x::l=>⟨_,_,rfl,Qg r x,Qbm r l⟩
theorem OpV.makeFunc{f:Fn}{first cap:List Operand}{vf vc:List A}(d:o.op=.makeFunc f first.toArray cap.toArray)(b:first.map (opA env)=vf)(e:cap.map (opA env)=vc):OpV P o env H (.fn f vf vc):=by
 intro g h σ N a w r;refine⟨.func f (first.map a.eval).toArray (cap.map a.eval).toArray,?_,_,_,rfl,b▸Qbm r first,e▸Qbm r cap⟩;generalize a.eval=ρ at*;simp[execOp,d,Instr.makeFunc,go_sem]
theorem Qaq{t:TypeId}{x:Operand}{v:A}{d:TypeDesc}(f:o.op=.makeInterface t x)(e:∀w,(underlying t).run P w=.ok d w)(g:∀m,d≠ .interface m)(h:opA env x=v):OpV P o env H (.iface t v):=by
 intro i j σ N a w r;have b:=Qg r x;rw[h]at b;refine⟨.iface t (a.eval x),?_,_,rfl,b⟩;generalize a.eval=ρ at*;cases d<;>first|(simp[execOp,f,Instr.makeInterface,e,go_sem];done)|exact(g _ rfl).elim
end
end Go.Sw
namespace Go.Sw
mutual
def Yn:A->Bool
 |.ptr _ _=>false
 |.osl _ _ _ _=>false
 |.map _=>false
 |.agg cs=>Yf cs
 |.fn _ a c=>Yf a&&Yf c
 |.iface _ v=>Yn v
 |.tup vs=>Yf vs
 |_=>true
def Yf:List A->Bool
 |[]=>true
 |a::r=>Yn a&&Yf r
end
mutual
theorem VR.data{ro:Nat->Prop}{σ σ':Sig}{w:World}:∀{a:A} {v:Value},Yn a=true->VR ro σ w a v->VR ro σ' w a v
 |.any,_,_,_=>trivial
 |.bool b,v,_,q=>q
 |.int k n,v,_,q=>q
 |.str s,v,_,q=>q
 |.nilp,v,_,q=>q
 |.ptr i off,v,d,q=>by simp[Yn]at d
 |.rp cs,v,_,q=>q
 |.nils,v,_,q=>q
 |.rsl k es,v,_,q=>q
 |.osl i o n k,v,d,q=>by simp[Yn]at d
 |.agg cs,v,d,q=>by
  simp only[VR,Yn]at q d⊢;obtain⟨l,h1,h2⟩:=q;exact⟨l,h1,LR.data d h2⟩
 |.fn f a c,v,d,q=>by
  simp only[VR,Yn,X0]at q d⊢;obtain⟨l,l',h1,h2,h3⟩:=q;exact⟨l,l',h1,LR.data d.1 h2,LR.data d.2 h3⟩
 |.nilf,v,_,q=>q
 |.iface t a,v,d,q=>by
  simp only[VR,Yn]at q d⊢;obtain⟨x,h1,h2⟩:=q;exact⟨x,h1,VR.data d h2⟩
 |.nilif,v,_,q=>q
 |.map i,v,d,q=>by simp[Yn]at d
 |.nilm,v,_,q=>q
 |.tup vs,v,d,q=>by
  simp only[VR,Yn]at q d⊢;obtain⟨l,h1,h2⟩:=q;exact⟨l,h1,LR.data d h2⟩
theorem LR.data{ro:Nat->Prop}{σ σ':Sig}{w:World}:∀{az:List A} {l:List Value},Yf az=true->LR ro σ w az l->LR ro σ' w az l
 |[],_,_,q=>q
 |a::r,l,d,q=>by
  simp only[LR,Yf,X0]at q d⊢;obtain⟨v,l',h1,h2,h3⟩:=q;exact⟨v,l',h1,VR.data d.1 h2,LR.data d.2 h3⟩
end
def Yj:A->Bool
 |.any|.agg _|.tup _=>false
 |_=>true
def QZ:A->List A
 |.agg cs=>cs
 |a=>[a]
def Yb:A->Bool
 |.any=>false
 |_=>true
theorem VR.plain{ro:Nat->Prop}{σ:Sig}{w:World}{a:A}{v:Value}(b:Yj a=true)(h:VR ro σ w a v):Qq v:=by
 cases a<;>first|(simp[Yj]at b;done)|skip
 case rsl k es=>obtain⟨ad,c,rfl,_⟩:=h;trivial
 case osl=>rcases h with⟨_,rfl⟩|⟨_,_,_,_,_,_,rfl,_⟩<;>trivial
 case fn=>obtain⟨_,_,rfl,_⟩:=h;trivial
 case iface=>obtain⟨_,rfl,_⟩:=h;trivial
 case ptr=>obtain⟨_,_,rfl⟩:=h;trivial
 case rp=>obtain⟨_,_,rfl,_⟩:=h;trivial
 case map=>obtain⟨_,_,rfl⟩:=h;trivial
 all_goals (simp only[VR]at h;subst h;trivial)
theorem VR.cells{ro:Nat->Prop}{σ:Sig}{w:World}{a:A}{v:Value}(b:Yb a=true)(h:VR ro σ w a v):∃l:List Value,v.cells=l.toArray/\LR ro σ w (QZ a) l:=by
 cases a
 case any=>simp[Yb]at b
 case agg cs=>obtain⟨l,rfl,h⟩:=h;exact⟨l,rfl,h⟩
 case tup cs=>obtain⟨l,rfl,h⟩:=h;exact⟨[.tuple l.toArray],rfl,_,_,rfl,⟨l,rfl,h⟩,rfl⟩
 all_goals
  have d:=h.plain rfl;refine⟨[v],?_,v,[],rfl,h,rfl⟩;cases v<;>first|rfl|exact d.elim
theorem LR.plain{ro:Nat->Prop}{σ:Sig}{w:World}:∀{az:List A} {l:List Value},az.all Yj=true->LR ro σ w az l->∀v∈l,Qq v
 |[],l,_,h=>by cases(show l=[]from h);simp
 |a::az,l,hp,⟨v,l',h1,h2,h3⟩=>by
  subst h1;simp only[List.all_cons,X0]at hp;intro x hx;rcases Va.1 hx with rfl|hx
  .exact h2.plain hp.1
  .exact LR.plain hp.2 h3 x hx
theorem Yd(w:World)(obj:Obj)(b:Nat)(a:b<w.heap.size):(w.alloc obj).heap[b]?=w.heap[b]? :=by
 show(w.heap.push obj)[b]?=_;rw[Array.getElem?_push,Vw (by omega)]
theorem Q9(w:World)(obj:Obj):(w.alloc obj).heap[w.heap.size]?=some obj:=by
 show(w.heap.push obj)[w.heap.size]?=_;simp
theorem Q6(w:World)(obj:Obj):(w.alloc obj).heap.size=w.heap.size+1:=by
 show(w.heap.push obj).size=_;simp
theorem QbO{w:World}{b:Nat}{x:TypeId×Nat}(h:w.shape? b=some x):b<w.heap.size:=by
 unfold World.shape? at h;rcases VG b w.heap.size with q|q
 .exact q
 .rw[Array.getElem?_eq_none q]at h;simp at h
theorem Qh.alloc{fr ro:Nat->Prop}{w:World}(obj:Obj)(hro:∀b,ro b->b<w.heap.size)(hfr:∀b,fr b->b<w.heap.size):Qh fr ro w ro (w.alloc obj):=
 ⟨λ_ h=>h,λb h=>Yd w obj b (hro b h),λb h=>Yd w obj b (hfr b h),by rw[Q6];omega,
  λb x h=>by unfold World.shape? at h⊢;rw[Yd w obj b (QbO h)];exact h,rfl,rfl,rfl,XX _⟩
section
variable {P:Program} {o:Oper} {env:Env} {H:Qd} {fr ro:Nat->Prop} {σ:Sig} {w:World}
theorem Sim.alloc(s:Sim fr ro σ H w){obj:Obj}{x:Blk}(G:BR ro (σ++[some w.heap.size]) (w.alloc obj) x (some w.heap.size))
  (u:∀c,Hid (w.alloc obj) x w.heap.size c->False:=by exact λ_ h=>h.elim):
  Sim fr ro (σ++[some w.heap.size]) (H++[x]) (w.alloc obj):=by
 have ev:Qh fr ro w ro (w.alloc obj):=Qh.alloc obj s.roLt s.frLt;have p:=s.len;have e:∀(i:Nat) (y:Option Nat),(σ++[some w.heap.size])[i]?=some y->(i<σ.length/\σ[i]?=some y)\/(i=σ.length/\y=some w.heap.size):=by
  intro i y h;rcases Nat.lt_trichotomy i σ.length with q|q|q
  .rw[XQ q]at h;exact .inl ⟨q,h⟩
  .subst q;simp at h;exact .inr ⟨rfl,h.symm⟩
  .rw[XS (by simp;omega)]at h;simp at h
 have l:∀i:Nat,i<σ.length->(H++[x])[i]?=H[i]? :=λi L=>XQ (by omega);have E:(H++[x])[σ.length]?=some x:=by rw[p];simp
 refine⟨by simp[p],s.roOk.to (λ_ q=>q) ev.keepRo (λb h=>?_),λb h=>?_,s.roFr,?_,?_,?_,?_⟩
 .rw[Q6];have:=s.roLt b h;omega
 .rw[Q6];have:=s.frLt b h;omega
 .intro i b y f g m;rw[Q6];rcases e i _ f with⟨q,f⟩|⟨rfl,k⟩
  .rw[l i q]at g;obtain⟨a,b,c⟩:=s.own i b y f g m;exact⟨by omega,b,c⟩
  .cases k;exact⟨by omega,λq=>by have:=s.roLt _ q;omega,λq=>by have:=s.frLt _ q;omega⟩
 .intro i j b y z f g m t B F;rcases e i _ f with⟨q,f⟩|⟨rfl,k⟩<;>rcases e j _ g with⟨q',g⟩|⟨rfl,e2⟩
  .rw[l i q]at m;rw[l j q']at t;exact s.inj i j b y z f g m t B F
  .cases e2;rw[l i q]at m;have:=(s.own i _ y f m B).1;omega
  .cases k;rw[l j q']at t;have:=(s.own j _ z g t F).1;omega
  .rfl
 .intro i y z f g;rcases e i _ f with⟨q,f⟩|⟨rfl,k⟩
  .rw[l i q]at g;refine(s.blk i y z f g).keep (ev.ext σ _) ?_ ?_
   .rintro b rfl p;exact Yd w obj b (s.own i b z f g p).1
   .rintro b c rfl p;exact Yd w obj c (s.hid i b z c f g p).lt
  .rw[E]at g;cases g;subst k;exact G
 .refine s.hidTo (· = ·) QY (by rw[Q6];omega) (λ_ _ _ _ _ _ _ q=>q) (λ_ _ _ _ _ _ _ q=>q) λj d y r n J=>?_;rcases e j _ r with⟨q,r⟩|⟨rfl,k⟩
  .rw[l j q]at n;exact .inl ⟨j,y,rfl,r,n,id,λc q=>s.hidKeep r n (λz=>Yd w obj d (s.own j d y r n z).1) ev.keepRo q⟩
  .rw[E]at n;cases n;cases k;exact .inr ⟨XX _,u⟩
theorem Sim.allocCells(s:Sim fr ro σ H w){t:Nat}{cs:List A}{l:List Value}(h:LR ro σ w cs l)(hp:∀v∈l,Qq v):
  Sim fr ro (σ++[some w.heap.size]) (H++[.cells t cs]) (w.alloc (.cells l.toArray t)):=
 s.alloc ⟨l,Q9 _ _,h.mono ((Qh.alloc (fr:=fr) _ s.roLt s.frLt).ext σ _),hp⟩
theorem Qi6{ro:Nat->Prop}{σ:Sig}{w:World}:∀{az bs:List A} {l:List Value},LR ro σ w (az++bs) l->∃l1 l2,l=l1++l2/\LR ro σ w az l1/\LR ro σ w bs l2
 |[],bs,l,h=>⟨[],l,rfl,rfl,h⟩
 |a::az,bs,l,⟨v,l',h1,h2,h3⟩=>by
  obtain⟨l1,l2,e,q1,q2⟩:=Qi6 h3;subst h1 e;exact⟨v::l1,l2,rfl,⟨v,l1,rfl,h2,q1⟩,q2⟩
def allK(k:Nat):List (List A)->Prop
 |[]=>True
 |c::es=>c.length=k/\allK k es
theorem Jr{k:Nat}:∀{es:List (List A)} {l rest:List Value},allK k es->LR ro σ w es.flatten l->(∀v∈l,Qq v)->RL ro σ w k es (l++rest)
 |[],_,_,_,_,_=>trivial
 |c::es,l,rest,⟨h1,h2⟩,h,hp=>by
  rw[Vq]at h;obtain⟨l1,l2,rfl,q1,q2⟩:=Qi6 h;exact⟨l1,l2++rest,by simp,h1,⟨q1,λv hv=>hp v (by simp[hv])⟩,Jr h2 q2 (λv hv=>hp v (by simp[hv]))⟩
theorem Sim.allocRow(s:Sim fr ro σ H w){t k:Nat}{es:List (List A)}{l rest:List Value}(hk:allK k es)(h:LR ro [] w es.flatten l)(hp:∀v∈l,Qq v):
  Sim fr ro (σ++[some w.heap.size]) (H++[.row t k es]) (w.alloc (.cells (l++rest).toArray t)):=
 s.alloc ⟨l++rest,Q9 _ _,(Jr hk h hp).mono ((Qh.alloc (fr:=fr) _ s.roLt s.frLt).ext0 [])⟩
theorem Sim.allocRowr(s:Sim fr ro σ H w){t k:Nat}{es:List (List A)}{l rest:List Value}(hk:allK k es)(h:LR ro σ w es.flatten l)(hp:∀v∈l,Qq v):
  Sim fr ro (σ++[some w.heap.size]) (H++[.rowr t k es]) (w.alloc (.cells (l++rest).toArray t)):=
 s.alloc ⟨l++rest,Q9 _ _,(Jr hk h hp).mono ((Qh.alloc (fr:=fr) _ s.roLt s.frLt).ext σ _)⟩
theorem OpH.box{t:Nat}{x:Operand}{v:A}{cs:List A}(i:o.op=.box t x)(k:opA env x=v)(h:Yb v=true)(b:QZ v=cs)(d:cs.all Yj=true):
  OpH P o env H (.ptr H.length 0) (H++[.cells t cs]):=by
 intro n m σ N a w r;have f:=Qg r x;rw[k]at f;obtain⟨l,j,g⟩:=f.cells h;subst b;refine⟨.pointer (some ⟨w.heap.size,0,none⟩),w.alloc (.cells l.toArray t),m,[some w.heap.size],?_,⟨w.heap.size,?_,rfl⟩,r.sim.allocCells g (g.plain d),Qh.alloc _ r.sim.roLt r.sim.frLt⟩
 .generalize a.eval=ρ at*;have e:(newVar t (ρ x)).run P w=.ok ⟨w.heap.size,0,none⟩ (w.alloc (.cells l.toArray t)):=by
   unfold newVar;rw[j];rfl
  simp only[execOp,i,Instr.box,Vr,e];rfl
 .rw[<- r.sim.len];simp
theorem Sim.set(s:Sim fr ro σ H w){i b:Nat}{x x':Blk}{obj:Obj}(hσ:σ[i]?=some (some b))(hH:H[i]?=some x)(hl:x.live=true)
  (N:∀y,w.shape? b=some y->({w with heap:=w.heap.setIfInBounds b obj}:World).shape? b=some y)
  (L:Ext ro σ w ro σ {w with heap:=w.heap.setIfInBounds b obj}->({w with heap:=w.heap.setIfInBounds b obj}:World).heap[b]?=some obj->BR ro σ {w with heap:=w.heap.setIfInBounds b obj} x' (some b))
  (O:∀c,Hid {w with heap:=w.heap.setIfInBounds b obj} x' b c->Hid w x b c:=by exact λ_ h=>h.elim):
  Sim fr ro σ (H.set i x') {w with heap:=w.heap.setIfInBounds b obj}/\Qh fr ro w ro {w with heap:=w.heap.setIfInBounds b obj}:=by
 obtain⟨Q,n,m⟩:=s.own i b x hσ hH hl;have g:∀c,c≠b->({w with heap:=w.heap.setIfInBounds b obj}:World).heap[c]?=w.heap[c]? :=by
  intro c T;show(w.heap.setIfInBounds b obj)[c]?=_;rw[Vi,Vw (λq=>T q.symm)]
 have M:({w with heap:=w.heap.setIfInBounds b obj}:World).heap[b]?=some obj:=by
  show(w.heap.setIfInBounds b obj)[b]?=_;rw[Vi,Vx rfl,Vx Q]
 have l:({w with heap:=w.heap.setIfInBounds b obj}:World).heap.size=w.heap.size:=by simp
 have ev:Qh fr ro w ro {w with heap:=w.heap.setIfInBounds b obj}:=
  ⟨λ_ h=>h,λc h=>g c (λq=>n (q▸h)),λc h=>g c (λq=>m (q▸h)),by rw[l];exact XX _,by
   intro c y h;by_cases q:c=b
   .subst q;exact N y h
   .unfold World.shape? at h⊢;rw[g c q];exact h,rfl,rfl,rfl,XX _⟩
 have W:i<H.length:=(XP.1 hH).1;have u:(H.set i x')[i]?=some x':=Xa W;have k:∀j,j≠i->(H.set i x')[j]?=H[j]? :=λj V=>XT (λq=>V q.symm);have G:=L (ev.ext0 σ) M;refine⟨⟨by rw[X8];exact s.len,s.roOk.to (λ_ q=>q) ev.keepRo (λc h=>by rw[l];exact s.roLt c h),λc h=>by rw[l];exact s.frLt c h,s.roFr,?_,?_,?_,?_⟩,ev⟩
 .intro j c y f a F;rw[l];by_cases q:j=i
  .subst q;rw[hσ]at f;cases f;exact⟨Q,n,m⟩
  .rw[k j q]at a;exact s.own j c y f a F
 .intro j r c y z f a F J R P;by_cases q:j=i
  .subst q;rw[hσ]at f;cases f;by_cases E:r=j
   .exact E.symm
   .rw[k r E]at J;exact s.inj j r _ x z hσ a hH J hl P
  .rw[k j q]at F;by_cases E:r=i
   .subst E;rw[hσ]at a;cases a;exact s.inj j r _ y x f hσ F hH R hl
   .rw[k r E]at J;exact s.inj j r c y z f a F J R P
 .intro j y z f a;by_cases q:j=i
  .subst q;rw[u]at a;cases a;rw[hσ]at f;cases f;exact G
  .rw[k j q]at a;refine(s.blk j y z f a).keep (ev.ext0 σ) ?_ ?_
   .rintro c rfl p;exact g c (λe=>q (s.inj j i b z x (e▸f) hσ a hH p hl))
   .rintro c d rfl X;exact g d ((s.hid j c z d f a X).ne i b x hσ hH hl)
 .refine s.hidTo (· = ·) QY (by rw[l];exact XX _) (λ_ _ _ _ _ _ _ q=>q) (λ_ _ _ _ _ _ _ q=>q) λj d y B t Y=>.inl ?_;by_cases q:j=i
  .subst q;rw[u]at t;cases t;rw[hσ]at B;cases B;exact⟨j,x,rfl,hσ,hH,λ_=>hl,O⟩
  .rw[k j q]at t;exact⟨j,y,rfl,B,t,id,λc z=>s.hidKeep B t (λp=>g d (λe=>q (s.inj j i b y x (e▸B) hσ t hH p hl))) ev.keepRo z⟩
def splice{α:Type}(l:List α)(o:Nat)(vs:List α):List α:=l.take o++vs++l.drop (o+vs.length)
theorem Q4{α:Type}{l:List α}{o:Nat}{vs:List α}(h:o+vs.length<=l.length):(splice l o vs).length=l.length:=by
 simp[splice];omega
theorem Qbe{h:Array Obj}{b:Nat}{f:Obj->Obj}{x:Obj}(g:h[b]?=some x):h.modify b f=h.setIfInBounds b (f x):=by
 apply Array.ext_getElem?;intro i;rw[Array.getElem?_modify,Vi];by_cases e:b=i
 .subst e;obtain⟨a,d⟩:=Vg.1 g;simp[d,a]
 .simp[e]
theorem Q5{b t:Nat}:∀{vs l:List Value} {w:World} (off i:Nat),w.heap[b]?=some (.cells l.toArray t (0,0))->off+i+vs.length<=l.length->(∀v∈vs,Qq v)->
  (storeCells ⟨b,off,none⟩ vs i).run P w=.ok () {w with heap:=w.heap.setIfInBounds b (.cells (splice l (off+i) vs).toArray t (0,0))}
 |[],l,w,off,i,hb,hl,hp=>by
  have e:w.heap.setIfInBounds b (.cells (splice l (off+i) []).toArray t (0,0))=w.heap:=by
   apply Array.ext_getElem?;intro j;rw[Vi];by_cases q:b=j
   .subst q;obtain⟨a,p⟩:=Vg.1 hb;simp[a,splice,p]
   .rw[Vw q]
  rw[e];simp[storeCells,go_sem]
 |v::vs,l,w,off,i,hb,hl,hp=>by
  simp only[X5]at hl;have s:=hp v (by simp);have n:w.cell? ⟨b,off+i,none⟩=some l[off+i]:=by
   simp[World.cell?,hb]
  have g:w.frozen? ⟨b,off+i,none⟩=false:=by
   simp[World.frozen?,hb]
  have d:w.setCell ⟨b,off+i,none⟩ v={w with heap:=w.heap.setIfInBounds b (.cells (splice l (off+i) [v]).toArray t (0,0))}:=by
   unfold World.setCell;rw[Qbe hb];simp only[Option.isSome_none,Xj,if_false];congr 3;have:l.toArray.setIfInBounds (off+i) v=(l.set (off+i) v).toArray:=by simp
   rw[this];congr 1;rw[List.set_eq_take_append_cons_drop,Vx (by omega)];simp[splice]
  have a:b<w.heap.size:=by
   rcases VG b w.heap.size with q|q
   .exact q
   .rw[Array.getElem?_eq_none q]at hb;simp at hb
  have h:=Q5 (vs:=vs) (l:=splice l (off+i) [v]) (w:={w with heap:=w.heap.setIfInBounds b (.cells (splice l (off+i) [v]).toArray t (0,0))}) off (i+1)
   (by show(w.heap.setIfInBounds b _)[b]?=_;rw[Vi,Vx rfl,Vx a])
   (by rw[Q4 (by simp;omega)];omega) (λx B=>hp x (by simp[B]))
  have m:splice (splice l (off+i) [v]) (off+(i+1)) vs=splice l (off+i) (v::vs):=by
   have k:(l.take (off+i)).length=off+i:=by simp;omega
   unfold splice;rw[Vm (l.take (off+i))];have z:off+(i+1)=(l.take (off+i)).length+1:=by omega
   have r:(l.take (off+i)++([v]++l.drop (off+i+[v].length))).take ((l.take (off+i)).length+1)=l.take (off+i)++[v]:=by
    rw[Vf];simp
   have u:(l.take (off+i)++([v]++l.drop (off+i+[v].length))).drop ((l.take (off+i)).length+1+vs.length)=l.drop (off+i+(v::vs).length):=by
    rw[show(l.take (off+i)).length+1+vs.length=(l.take (off+i)).length+(1+vs.length)from by omega,Ve];simp[Nat.add_comm 1];congr 1;omega
   rw[z,r,u];simp
  have y:(w.heap.setIfInBounds b (.cells (splice l (off+i) [v]).toArray t (0,0))).setIfInBounds b (.cells (splice (splice l (off+i) [v]) (off+(i+1)) vs).toArray t (0,0))=
    w.heap.setIfInBounds b (.cells (splice l (off+i) (v::vs)).toArray t (0,0)):=by
   rw[m,Array.setIfInBounds_setIfInBounds]
  rw[y]at h;have f:(Go.store ⟨b,off+i,none⟩ v).run P w=.ok () {w with heap:=w.heap.setIfInBounds b (.cells (splice l (off+i) [v]).toArray t (0,0))}:=by
   rw[<- d];cases v<;>first|exact s.elim|simp[Go.store,Sem.run,n,g,go_sem]
  simp only[storeCells,Jf,Vr,f];exact h
theorem Qaf{w:World}{b t:Nat}{l l':List Value}(a:w.heap[b]?=some (.cells l.toArray t (0,0)))(hl:l'.length=l.length)(y:TypeId×Nat)(h:w.shape? b=some y):
  ({w with heap:=w.heap.setIfInBounds b (.cells l'.toArray t (0,0))}:World).shape? b=some y:=by
 have d:b<w.heap.size:=by
  rcases VG b w.heap.size with q|q
  .exact q
  .rw[Array.getElem?_eq_none q]at a;simp at a
 unfold World.shape? at h⊢;rw[a]at h;simp at h;subst h;show(match(w.heap.setIfInBounds b (.cells l'.toArray t (0,0)))[b]? with|some (.cells c elem _)=>some (elem,c.size)|_=>none)=_;rw[Vi,Vx rfl,Vx d];simp[hl]
theorem LR.splice{ro:Nat->Prop}{σ:Sig}{w:World}{az vs:List A}{l m:List Value}(off:Nat)(h:LR ro σ w az l)(k:LR ro σ w vs m):LR ro σ w (Sw.splice az off vs) (Sw.splice l off m):=by
 unfold Sw.splice;rw[k.length];exact((h.take off).append k).append (h.drop _)
theorem Qe2{l m:List Value}{off:Nat}(h:∀v∈l,Qq v)(k:∀v∈m,Qq v):∀v∈Sw.splice l off m,Qq v:=by
 intro v a;simp only[Sw.splice,VH]at a;rcases a with(a|a)|a
 .exact h v (List.mem_of_mem_take a)
 .exact k v a
 .exact h v (List.mem_of_mem_drop a)
theorem OpU.store{t n i off T:Nat}{x y:Operand}{cs vs cs':List A}{v:A}(X:o.op=.store t x y)(R:opA env x=.ptr i off)(hH:H[i]?=some (.cells T cs))(Y:∀w,(sizeOf t).run P w=.ok n w)
  (s:opA env y=v)(W:Yb v=true)(Q:QZ v=vs)(hn:vs.length=n)(E:vs.all Yj=true)(h:Nat.ble (off+n) cs.length=true)(u:splice cs off vs=cs'):
  OpU P o env H (H.set i (.cells T cs')):=by
 intro fr V σ N a w r;have f:=Qg r x;rw[R]at f;obtain⟨b,f,M⟩:=f;have F:=Qg r y;rw[s]at F;obtain⟨m,G,j⟩:=F.cells W;rw[Q]at j;obtain⟨l,J,B,O⟩:=r.sim.blk i _ _ f hH;have z:off+n<=cs.length:=by simpa using h
 have q:m.length=n:=by rw[j.length,hn]
 have g:=Q5 (P:=P) (vs:=m) off 0 J (by rw[B.length,q];omega) (j.plain E);have d:=r.sim.set (x':=.cells T cs') (obj:=.cells (splice l off m).toArray T (0,0)) f hH rfl
  (λy s=>Qaf J (Q4 (by rw[B.length,q];omega)) y s)
  (λe L=>⟨_,L,u▸(B.splice off j).mono e,Qe2 O (j.plain E)⟩)
 refine⟨_,V,[],?_,by simpa using d.1,d.2⟩;generalize a.eval=ρ at*;have p:(ρ y).cells.size=n:=by rw[G];simp[q]
 have k:(storeVar t ⟨b,off,none⟩ (ρ y)).run P w=.ok () {w with heap:=w.heap.setIfInBounds b (.cells (splice l off m).toArray T (0,0))}:=by
  unfold storeVar;rw[Vr,Y];simp only[Result.andThen];rw[Vw (by simp[p]),G];simpa using g
 simp only[execOp,X,M,Instr.storeAt,Instr.sureAddr,pure_bind,Vr,k];rfl
theorem RL.splice{ro:Nat->Prop}{σ:Sig}{w:World}{k:Nat}:∀{e:Nat} {es:List (List A)} {l m:List Value} {c a:List A} {f:Nat},RL ro σ w k es l->es[e]?=some c->LR ro σ w a m->(∀v∈m,Qq v)->f+a.length<=k->
  RL ro σ w k (es.set e (Sw.splice c f a)) (Sw.splice l (e*k+f) m)
 |_,[],_,_,_,_,_,_,h,_,_,_=>by simp at h
 |0,c0::es,l,m,c,a,f,⟨l1,l2,h1,h2,h3,h4⟩,hc,hm,hp,hf=>by
  simp at hc;subst hc h1;have hl1:=h3.1.length;refine⟨Sw.splice l1 f m,l2,?_,?_,⟨h3.1.splice f hm,Qe2 h3.2 hp⟩,h4⟩
  .unfold Sw.splice;simp only[Nat.zero_mul,Xy,Vm];rw[Vb (by omega),Vc (by rw[hm.length];omega)]
  .rw[Q4 (by omega)];exact h2
 |e+1,c0::es,l,m,c,a,f,⟨l1,l2,h1,h2,h3,h4⟩,hc,hm,hp,hf=>by
  subst h1;have hl1:=h3.1.length;refine⟨l1,Sw.splice l2 (e*k+f) m,?_,h2,h3,RL.splice h4 (by simpa using hc) hm hp hf⟩;have e1:(e+1)*k+f=l1.length+(e*k+f):=by rw[Xm];omega
  unfold Sw.splice;rw[e1,Vf,show l1.length+(e*k+f)+m.length=l1.length+(e*k+f+m.length)from by omega,Ve];simp
theorem RL.length{ro:Nat->Prop}{σ:Sig}{w:World}{k:Nat}:∀{es:List (List A)} {l:List Value},RL ro σ w k es l->es.length*k<=l.length
 |[],l,_=>by simp
 |c::es,l,⟨l1,l2,h1,h2,h3,h4⟩=>by
  subst h1;have:=RL.length h4;have:=h3.1.length;simp only[X5,X7,Xm];omega
theorem QhC{t n i off T k e f:Nat}{x y:Operand}{es es':List (List A)}{c vs L:List A}{v:A}(ho:o.op=.store t x y)(Y:opA env x=.ptr i off)(hH:H[i]?=some (.row T k es))(hs:∀w,(sizeOf t).run P w=.ok n w)
  (j:off=e*k+f)(G:es[e]?=some c)(q:opA env y=v)(hk:Yb v=true)(hv:QZ v=vs)(V:vs.length=n)(M:vs.all Yj=true)(hd:Yf vs=true)(hf:Nat.ble (f+n) k=true)
  (s:splice c f vs=L)(u:es.set e L=es'):
  OpU P o env H (H.set i (.row T k es')):=by
 intro fr ro σ N a w r;have h:=Qg r x;rw[Y]at h;obtain⟨b,h,X⟩:=h;have R:=Qg r y;rw[q]at R;obtain⟨m,Q,p⟩:=R.cells hk;rw[hv]at p;obtain⟨l,W,O⟩:=r.sim.blk i _ _ h hH;have F:f+n<=k:=by simpa using hf
 have hm:m.length=n:=by rw[p.length,V]
 have he:e<es.length:=(XP.1 G).1;have J:off+n<=l.length:=by
  have:=O.length;have h6:(e+1)*k<=es.length*k:=XF k he;rw[Xm]at h6;omega
 have g:=Q5 (P:=P) (vs:=m) off 0 W (by omega) (p.plain M);have d:=r.sim.set (x':=.row T k es') (obj:=.cells (splice l off m).toArray T (0,0)) h hH rfl
  (λy q=>Qaf W (Q4 (by omega)) y q)
  (λex E=>⟨_,E,by
   subst u s j;exact(O.splice G (p.data hd) (p.plain M) (by rw[V];exact F)).mono ex.nil⟩)
 refine⟨_,ro,[],?_,by simpa using d.1,d.2⟩;generalize a.eval=ρ at*;have z:(ρ y).cells.size=n:=by rw[Q];simp[hm]
 have B:(storeVar t ⟨b,off,none⟩ (ρ y)).run P w=.ok () {w with heap:=w.heap.setIfInBounds b (.cells (splice l off m).toArray T (0,0))}:=by
  unfold storeVar;rw[Vr,hs];simp only[Result.andThen];rw[Vw (by simp[z]),Q];simpa using g
 simp only[execOp,ho,X,Instr.storeAt,Instr.sureAddr,pure_bind,Vr,B];rfl
end
end Go.Sw
namespace Go.Sw
section
variable {P:Program} {o:Oper} {env:Env} {H:Qd} {fr ro:Nat->Prop} {σ:Sig} {w:World}
theorem Ext.heap{w':World}(h:w'.heap=w.heap):Ext ro σ w ro σ w':=
 ⟨λ_ q=>q,λb _=>by rw[h],λb x q=>by unfold World.shape? at q⊢;rw[h];exact q,λ_ _ q=>q⟩
theorem Sim.heap{w':World}(s:Sim fr ro σ H w)(h:w'.heap=w.heap):Sim fr ro σ H w':=
 ⟨s.len,s.roOk.to (λ_ q=>q) (λb _=>by rw[h]) (λb q=>by rw[h];exact s.roLt b q),λb q=>by rw[h];exact s.frLt b q,s.roFr,λi b x q1 q2 q3=>by rw[h];exact s.own i b x q1 q2 q3,s.inj,
  λi y x q1 q2=>(s.blk i y x q1 q2).keep (Ext.heap h) (λb _ _=>by rw[h]) (λb c _ _=>by rw[h]),
  s.hidTo (· = ·) QY (by rw[h];exact XX _) (λ_ _ _ _ _ _ _ q=>q) (λ_ _ _ _ _ _ _ q=>q) λj d y g1 g2 g3=>.inl ⟨j,y,rfl,g1,g2,id,λc q=>q.keep (by rw[h])⟩⟩
theorem Qh.heap{w':World}(h:w'.heap=w.heap)(ho:w'.os=w.os)(ht:w'.tape=w.tape)(hu:w'.output=w.output)(hd:w.drawn<=w'.drawn):Qh fr ro w ro w':=
 ⟨λ_ q=>q,λb _=>by rw[h],λb _=>by rw[h],by rw[h];exact XX _,λb x q=>by unfold World.shape? at q⊢;rw[h];exact q,ho,ht,hu,hd⟩
theorem Sim.moved(s:Sim fr ro σ H w){i:Nat}{x:Blk}{y:Option Nat}(hH:H[i]?=some x)(hσ:σ[i]?=some y):Sim fr ro (σ++[y]) (H.set i .dead++[x]) w:=by
 have F:=s.len;have O:i<H.length:=(XP.1 hH).1;have a:∀(j:Nat) (z:Option Nat) (v:Blk),(σ++[y])[j]?=some z->(H.set i .dead++[x])[j]?=some v->v≠ .dead->
   (j<σ.length/\j≠i/\σ[j]?=some z/\H[j]?=some v)\/(j=σ.length/\z=y/\v=x):=by
  intro j z v g f n;rcases Nat.lt_trichotomy j σ.length with q|q|q
  .rw[XQ q]at g;rw[XQ (by rw[X8];omega)]at f;by_cases e:j=i
   .subst e;rw[Xa O]at f;cases f;exact absurd rfl n
   .rw[XT (λq=>e q.symm)]at f;exact .inl ⟨q,e,g,f⟩
  .subst q;have m:(σ++[y])[σ.length]?=some y:=by simp
   have M:(H.set i .dead++[x])[σ.length]?=some x:=by rw[F,show H.length=(H.set i .dead).length from by simp];simp
   rw[m]at g;rw[M]at f;cases g;cases f;exact .inr ⟨rfl,rfl,rfl⟩
  .rw[XS (by simp;omega)]at g;simp at g
 have hσ':∀(j:Nat) (b:Nat),σ[j]?=some (some b)->(σ++[y])[j]?=some (some b):=λj b h=>YJ h;have ext:Ext ro σ w ro (σ++[y]) w:=⟨λ_ q=>q,λ_ _=>rfl,λ_ _ q=>q,hσ'⟩;refine⟨by simp[F],s.roOk,s.frLt,s.roFr,?_,?_,?_,s.hidTo (λj J=>(j<σ.length/\j≠i/\J=j)\/(j=σ.length/\J=i)) (by omega) (XX _) (λ_ _ _ _ _ _ _ q=>q) (λ_ _ _ _ _ _ _ q=>q) λj d y R V Q=>.inl ?_⟩
 rotate_left 3
 .rcases a j _ y R V (QeC Q)with⟨u,B,l,k⟩|⟨u,m,rfl⟩
  .exact⟨j,y,.inl ⟨u,B,rfl⟩,l,k,id,λ_ q=>q⟩
  .subst m;exact⟨i,y,.inr ⟨u,rfl⟩,hσ,hH,id,λ_ q=>q⟩
 .intro j b v g f n;rcases a j _ v g f (Qav n)with⟨_,_,l,k⟩|⟨_,m,rfl⟩
  .exact s.own j b v l k n
  .subst m;exact s.own i b v hσ hH n
 .intro j E b v r g f n N t p;rcases a j _ v g n (Qav t)with⟨_,T,l,k⟩|⟨L,m,P⟩<;>rcases a E _ r f N (Qav p)with⟨_,n1',q1',q2'⟩|⟨r1',e1',r2'⟩
  .exact s.inj j E b v r l q1' k q2' t p
  .subst e1' r2';exact(T (s.inj j i b v r l hσ k hH t p)).elim
  .subst m P;exact(n1' (s.inj E i b r v q1' hσ q2' hH p t)).elim
  .rw[L,r1']
 .intro j z v g f;by_cases G:v≠ .dead
  .rcases a j z v g f G with⟨_,_,l,k⟩|⟨_,rfl,rfl⟩
   .exact(s.blk j z v l k).keep ext (λ_ _ _=>rfl) (λ_ _ _ _=>rfl)
   .exact(s.blk i _ _ hσ hH).keep ext (λ_ _ _=>rfl) (λ_ _ _ _=>rfl)
  .obtain rfl:v=.dead:=Classical.not_not.1 G;trivial
def Src(P:Program)(H:Qd)(x:A)(k:Nat)(es:List (List A)):Prop:=
 ∀fr ro σ w v,Sim fr ro σ H w->VR ro σ w x v->(∃a c,v=.slice a es.length c)/\allK k es/\
  ∃l,(∀w':World,w'.heap=w.heap->(Builtin.firstCells k es.length v).run P w'=.ok l.toArray w')/\LR ro [] w es.flatten l/\ ∀v∈l,Qq v
theorem RR.flat{b k:Nat}:∀{es:List (List A)} {off:Nat},RR ro σ w b k es off->CR ro σ w b es.flatten off/\allK k es/\es.flatten.length=es.length*k
 |[],off,_=>⟨trivial,trivial,by simp⟩
 |c::es,off,⟨h1,h2,h3⟩=>by
  obtain⟨q1,q2,q3⟩:=RR.flat h3;refine⟨?_,⟨h1,q2⟩,by simp[q3,h1,Xm,Nat.add_comm]⟩;rw[Vq];have:∀(c:List A) (off:Nat) (d:List A),CR ro σ w b c off->CR ro σ w b d (off+c.length)->CR ro σ w b (c++d) off:=by
   intro c
   induction c with
   |nil=>intro off d _ h;simpa using h
   |cons x c a=>intro off d ⟨h1,h2⟩ h;exact⟨h1,a (off+1) d h2 (by rw[Nat.add_assoc,Nat.add_comm 1];simpa using h)⟩
  exact this c off _ h2 (by rw[h1];exact q1)
theorem Qb5{b off k n c:Nat}{cs:List A}(h:CR ro σ w b cs off)(f:cs.length=n*k):
  ∃l,(∀w':World,w'.heap=w.heap->(Builtin.firstCells k n (.slice (some ⟨b,off,none⟩) n c)).run P w'=.ok l.toArray w')/\LR ro σ w cs l/\ ∀v∈l,Qq v:=by
 obtain⟨l,g,d,a⟩:=YE (P:=P) (cs:=cs) (off:=off) 0 (by simpa using h);refine⟨l,λw' e=>?_,g,d⟩;rw[f]at a;simp only[Builtin.firstCells,loadCells];simpa using a w' #[] e
theorem Y1{k c:Nat}{a:Option Addr}:(Builtin.firstCells k 0 (.slice a 0 c)).run P w=.ok #[] w:=by
 cases a<;>simp[Builtin.firstCells,loadCells,loadCellsFrom,go_sem]
theorem Src.rsl{k:Nat}{es:List (List A)}:Src P H (.rsl k es) k es:=by
 intro i l σ w v s ⟨a,c,h1,h2,h3⟩;subst h1;refine⟨⟨a,c,rfl⟩,?_⟩;rcases h3 with rfl|⟨b,h,rfl,j,d⟩
 .exact⟨trivial,[],λ_ _=>Y1,rfl,by simp⟩
 .obtain⟨g,e,f⟩:=d.flat;exact⟨e,Qb5 g f⟩
theorem Src.nils{k:Nat}:Src P H .nils k []:=by
 intro a b σ w v s h;simp only[VR]at h;subst h;exact⟨⟨none,0,rfl⟩,trivial,[],λ_ _=>Y1,rfl,by simp⟩
theorem RR.drop{b k:Nat}:∀(n:Nat) {es:List (List A)} {off:Nat},RR ro σ w b k es off->RR ro σ w b k (es.drop n) (off+n*k)
 |0,_,_,h=>by simpa using h
 |n+1,[],_,_=>trivial
 |n+1,c::es,off,⟨h1,h2,h3⟩=>by
  have:=RR.drop n h3;rw[show off+(n+1)*k=off+k+n*k from by rw[Xm];omega];exact this
theorem RR.take{b k:Nat}:∀(n:Nat) {es:List (List A)} {off:Nat},RR ro σ w b k es off->RR ro σ w b k (es.take n) off
 |0,_,_,h=>trivial
 |n+1,[],_,_=>trivial
 |n+1,c::es,off,⟨h1,h2,h3⟩=>⟨h1,h2,RR.take n h3⟩
theorem Src.osl{i s n k t:Nat}{es es':List (List A)}(hH:H[i]?=some (.row t k es))(he:(es.drop s).take n=es')(G:s+n<=es.length):Src P H (.osl i s n k) k es':=by
 intro z J σ w v sm h;have d:es'.length=n:=by rw[<- he];simp;omega
 rcases h with⟨rfl,rfl⟩|⟨b,p,a,F,m,q,rfl,u,B,E,y⟩
 .have e:es'=[]:=VN.1 d;subst e;exact⟨⟨none,0,rfl⟩,trivial,[],λ_ _=>Y1,rfl,by simp⟩
 .rw[d];refine⟨⟨_,a,rfl⟩,?_⟩;obtain⟨l,g,f⟩:=sm.blk i _ _ q hH;have j:=((YV (pre:=[]) (by simpa using g) f).drop s).take n;rw[he]at j;by_cases r:0<a
  .obtain rfl:=u r;obtain⟨g,f,x⟩:=j.flat;refine⟨f,?_⟩;have:=Qb5 (P:=P) (n:=n) (c:=a) g (by rw[x,d]);simpa using this
  .obtain rfl:n=0:=by omega
   have e:es'=[]:=VN.1 d;subst e;exact⟨trivial,[],λ_ _=>Y1,rfl,by simp⟩
def Qy:Nat:=4294967296
theorem Qei(n c:Nat)(h:c<n):Builtin.nextslicecap n c<=4*n+1000:=by
 unfold Builtin.nextslicecap;split
 .omega
 .split
  .omega
  .have a:∀(r c:Nat),c<=2*n+400->Builtin.growBy n r c<=4*n+1000:=by
    intro r
    induction r with
    |zero=>intro c d;simp[Builtin.growBy];omega
    |succ r b=>
     intro c d;simp only[Builtin.growBy];split
     .omega
     .exact b _ (by omega)
   exact a 4 c (by omega)
structure QT (P:Program) (T e k:Nat):Prop where
 sl:∀w,(underlying T).run P w=.ok (.slice e) w
 size:∀w,(sizeOf e).run P w=.ok k w
 zero:∃z,(∀w,(zeroValue e).run P w=.ok z w)/\z.cells.size=k
 bytes:∃i,(∀w,(typeInfo e).run P w=.ok i w)/\i.bytes<=4096
theorem Qi5{T k:Nat}{es:List (List A)}{l rest:List Value}(s:Sim fr ro σ H w)(hk:allK k es)(h:LR ro [] w es.flatten l)(hp:∀v∈l,Qq v):
  Sim fr ro (σ++[some w.heap.size]) (H++[.row T k es]) (w.alloc (.cells (l++rest).toArray T))/\Qh fr ro w ro (w.alloc (.cells (l++rest).toArray T)):=
 ⟨s.allocRow hk h hp,Qh.alloc _ s.roLt s.frLt⟩
theorem Yu{k:Nat}:∀{es:List (List A)},allK k es->es.flatten.length=es.length*k
 |[],_=>by simp
 |c::es,⟨h1,h2⟩=>by simp[Yu h2,h1,Xm,Nat.add_comm]
theorem Qeb{k:Nat}:∀{es fs:List (List A)},allK k es->allK k fs->allK k (es++fs)
 |[],_,_,h=>h
 |c::es,_,⟨h1,h2⟩,h=>⟨h1,Qeb h2 h⟩
theorem QgH{k:Nat}:∀{es:List (List A)} (n:Nat),allK k es->allK k (es.take n)
 |_,0,_=>trivial
 |[],n+1,_=>trivial
 |c::es,n+1,⟨h1,h2⟩=>⟨h1,QgH n h2⟩
theorem RL.allK{k:Nat}:∀{es:List (List A)} {l:List Value},RL ro σ w k es l->allK k es
 |[],_,_=>trivial
 |c::es,l,⟨l1,l2,h1,h2,h3,h4⟩=>⟨h2,RL.allK h4⟩
theorem RL.app{k:Nat}:∀{n:Nat} {es fs:List (List A)} {l m:List Value},RL ro σ w k es l->n<=es.length->Sw.allK k fs->LR ro σ w fs.flatten m->(∀v∈m,Qq v)->
  RL ro σ w k (es.take n++fs) (Sw.splice l (n*k) m)
 |0,es,fs,l,m,h,hn,hk,hm,hp=>by
  simp only[List.take_zero,Vl,Nat.zero_mul];unfold Sw.splice;simp only[List.take_zero,Vl];exact Jr hk hm hp
 |n+1,[],fs,l,m,h,hn,hk,hm,hp=>by simp at hn
 |n+1,c::es,fs,l,m,⟨l1,l2,h1,h2,h3,h4⟩,hn,hk,hm,hp=>by
  subst h1;have hl1:=h3.1.length;refine⟨l1,Sw.splice l2 (n*k) m,?_,h2,h3,RL.app h4 (by simpa using hn) hk hm hp⟩;have e1:(n+1)*k=l1.length+n*k:=by rw[Xm];omega
  unfold Sw.splice;rw[e1,Vf,show l1.length+n*k+m.length=l1.length+(n*k+m.length)from by omega,Ve];simp
theorem QhX{T T' e e' k need cap:Nat}{t:TypeId}(E:QT P T e k)(L:∀w,(underlying T').run P w=.ok (.slice e') w){ad:Option Addr}{n m c:Nat}{ax:Option Addr}
  (f:need=n+m)(g:cap<need)(b:need<=Qy){old new:List Value}
  (y:∀w':World,w'.heap=w.heap->(Builtin.firstCells k m (.slice ax m c)).run P w'=.ok new.toArray w')(s:∀w':World,w'.heap=w.heap->(Builtin.firstCells k n (.slice ad n cap)).run P w'=.ok old.toArray w'):
  ∃(rest:List Value) (a:Nat),need<=a/\rest.length=(a-need)*k/\(Builtin.append_ #[T,T'] t #[.slice ad n cap,.slice ax m c]).run P w=
   .ok (.slice (some ⟨w.heap.size,0,none⟩) need a) (({w with drawn:=w.drawn+1}:World).alloc (.cells ((old++new)++rest).toArray e)):=by
 obtain⟨z,G,j⟩:=E.zero;obtain⟨i,N,H⟩:=E.bytes
 let a:=need+w.tape w.drawn (.appendCap need cap e)%(2^63-need)
 refine⟨(Builtin.zeroCells z.cells (a-need)).toList,a,Nat.le_add_right _ _,by simp[Builtin.zeroCells,j],?_⟩;have d:¬(need<=cap):=by omega
 have r:¬((need:Int)>IntKind.i64.max/\(False\/i.bytes=0)):=by
  rintro⟨q,_⟩;have:IntKind.i64.max=9223372036854775807:=by decide
  rw[this]at q;unfold Qy at b;omega
 have B:¬(Builtin.nextslicecap need cap*i.bytes>2^48):=by
  have:=Qei need cap g;have u:Builtin.nextslicecap need cap*i.bytes<=(4*need+1000)*4096:=Nat.mul_le_mul this H;unfold Qy at b;omega
 generalize hF:Builtin.firstCells=F at y s;unfold Builtin.append_;rw[hF];have h:∀W:World,(choose (.appendCap need cap e)).run P W=.ok (need+W.tape W.drawn (.appendCap need cap e)%(2^63-need)) {W with drawn:=W.drawn+1}:=by
  intro W;simp[choose,Sem.run,Question.forced,Question.cut]
 have l:∀(x:Nat) (W:World),(askRoom x).run P W=.ok () W:=by
  intro x W;unfold askRoom;split<;>rfl
 have p:∀(c:Array Value) (W:World),(newRow e c).run P W=.ok ⟨W.heap.size,0,none⟩ (W.alloc (.cells c e)):=λc W=>rfl;subst f;simp only[not_and,false_or]at r;have u:¬(((n+m:Nat):Int)>IntKind.i64.max/\(False\/i.bytes=0)):=by simpa using r
 simp only[XK,XI,XJ,Vr,E.sl,E.size,L,N,G,Result.andThen,Builtin.lenOf,Vs,Xj,if_false,XL,
  Xi,if_true,Vw d,Vw u,Vw B,h,l]
 have M:=s {w with drawn:=w.drawn+1} rfl;have J:=y {w with drawn:=w.drawn+1} rfl;simp only[M,J,p];have O:old.toArray++new.toArray++Builtin.zeroCells z.cells (a-(n+m))=((old++new)++(Builtin.zeroCells z.cells (a-(n+m))).toList).toArray:=by
  apply Array.toList_inj.1;simp
 rw[<- O]
theorem QcP{T T' e e' k cap:Nat}{t:TypeId}(E:QT P T e k)(f:∀w,(underlying T').run P w=.ok (.slice e') w){ad:Option Addr}{n m c:Nat}{ax:Option Addr}
  (b:n+m<=cap){new:List Value}(d:(Builtin.firstCells k m (.slice ax m c)).run P w=.ok new.toArray w):
  (Builtin.append_ #[T,T'] t #[.slice ad n cap,.slice ax m c]).run P w=
   match ad with
   |some a=>(do storeCells (a.add (n*k)) new;pure (Value.slice ad (n+m) cap):Sem Value).run P w
   |none=>.ok (.slice ad (n+m) cap) w:=by
 generalize hF:Builtin.firstCells=F at d;unfold Builtin.append_;rw[hF];simp only[XK,XI,XJ,Vr,E.sl,E.size,f,Result.andThen,Builtin.lenOf,Vs,Xj,if_false,XL,
  Xi,if_true,Vx b,d]
 cases ad with
 |none=>rfl
 |some a=>simp only[Vr,Result.andThen,Vs]
theorem Sim.weaken(s:Sim fr ro σ H w){i:Nat}{x x':Blk}(hH:H[i]?=some x)(hl:x.live=true)(m:∀y,BR ro σ w x y->BR ro σ w x' y)
  (E:∀b c,Hid w x' b c->Hid w x b c:=by exact λ_ _ h=>h.elim):Sim fr ro σ (H.set i x') w:=by
 have O:i<H.length:=(XP.1 hH).1;have l:(H.set i x')[i]?=some x':=Xa O;have z:∀j,j≠i->(H.set i x')[j]?=H[j]? :=λj M=>XT (λq=>M q.symm);have a:∀(j:Nat) (v:Blk),(H.set i x')[j]?=some v->(j=i/\v=x')\/(j≠i/\H[j]?=some v):=by
  intro j v h;by_cases e:j=i
  .subst e;rw[l]at h;cases h;exact .inl ⟨rfl,rfl⟩
  .rw[z j e]at h;exact .inr ⟨e,h⟩
 have n:∀(j:Nat) (v:Blk),(H.set i x')[j]?=some v->v.live=true->∃f,H[j]?=some f/\f.live=true:=by
  intro j v h P;rcases a j v h with⟨rfl,rfl⟩|⟨_,h⟩
  .exact⟨x,hH,hl⟩
  .exact⟨v,h,P⟩
 refine⟨by rw[X8];exact s.len,s.roOk,s.frLt,s.roFr,?_,?_,?_,s.hidTo (· = ·) QY (XX _) (λ_ _ _ _ _ _ _ q=>q) (λ_ _ _ _ _ _ _ q=>q) λj d y G T V=>.inl ?_⟩
 rotate_left 3
 .rcases a j y T with⟨rfl,rfl⟩|⟨_,h⟩
  .exact⟨j,x,rfl,G,hH,λ_=>hl,λc q=>E d c q⟩
  .exact⟨j,y,rfl,G,h,id,λ_ q=>q⟩
 .intro j b v g k B;obtain⟨f,F,r⟩:=n j v k B;exact s.own j b f g F r
 .intro j J b v f g k B N Q L;obtain⟨u,F,r⟩:=n j v B Q;obtain⟨R,t,p⟩:=n J f N L;exact s.inj j J b u R g k F t r p
 .intro j y v g k;rcases a j v k with⟨rfl,rfl⟩|⟨_,h⟩
  .exact m y (s.blk j y x g hH)
  .exact s.blk j y v g h
theorem RL.take{k:Nat}:∀(n:Nat) {es:List (List A)} {l:List Value},RL ro σ w k es l->RL ro σ w k (es.take n) l
 |0,_,_,_=>trivial
 |n+1,[],_,_=>trivial
 |n+1,c::es,l,⟨l1,l2,h1,h2,h3,h4⟩=>⟨l1,l2,h1,h2,h3,RL.take n h4⟩
theorem Y2{c:Call}{T T':TypeId}{x y:Operand}(a:o.op=.call c)(b:c={callee:=.builtin .append,args:= #[x,y],argTypes:= #[T,T']})(ρ:Operand->Value){v:Value}{w':World}
  (h:(Builtin.append_ #[T,T'] o.type #[ρ x,ρ y]).run P w=.ok v w'):(execOp ρ o).run P w=.ok (.value v) w':=by
 subst b;simp only[execOp,a,resolve,invoke,Go.builtin,Vr,Vs,Result.andThen];simp only[XM,Vn,Vp,h]
theorem Sim.phantom(s:Sim fr ro σ H w)(t k:Nat):Sim fr ro (σ++[none]) (H++[.row t k []]) w:=by
 have g:=s.len;have f:∀(i b:Nat),(σ++[none])[i]?=some (some b)->i<σ.length:=by
  intro i b a;rcases VG i σ.length with q|q
  .exact q
  .rw[XR q]at a;cases n:i-σ.length with
   |zero=>rw[n]at a;simp at a
   |succ j=>rw[n]at a;simp at a
 refine⟨by simp[g],s.roOk,s.frLt,s.roFr,?_,?_,?_,s.hidTo (· = ·) QY (XX _) (λ_ _ _ _ _ _ _ q=>q) (λ_ _ _ _ _ _ _ q=>q) λj d y a e l=>.inl ?_⟩
 rotate_left 3
 .have q:=f j d a;rw[XQ q]at a;rw[XQ (by omega)]at e;exact⟨j,y,rfl,a,e,id,λ_ q=>q⟩
 .intro i b z a e l;have q:=f i b a;rw[XQ q]at a;rw[XQ (by omega)]at e;exact s.own i b z a e l
 .intro i j b z F a e l m r u;have x:=f i b a;have B:=f j b e;rw[XQ x]at a;rw[XQ B]at e;rw[XQ (by omega)]at l m;exact s.inj i j b z F a e l m r u
 .intro i y z a e;have ext:Ext ro σ w ro (σ++[none]) w:=⟨λ_ q=>q,λ_ _=>rfl,λ_ _ q=>q,λ_ _ h=>YJ h⟩;rcases Nat.lt_trichotomy i σ.length with q|q|q
  .rw[XQ q]at a;rw[XQ (by omega)]at e;exact(s.blk i y z a e).keep ext (λ_ _ _=>rfl) (λ_ _ _ _=>rfl)
  .subst q;have E:(σ++[none])[σ.length]?=some none:=by simp
   have p:(H++[Blk.row t k []])[σ.length]?=some (.row t k []):=by rw[g];simp
   rw[E]at a;rw[p]at e;cases a;cases e;rfl
  .rw[XS (by simp;omega)]at a;simp at a
theorem Sim.kill(s:Sim fr ro σ H w)(i:Nat):Sim fr ro σ (H.set i .dead) w:=by
 have a:∀(j:Nat) (v:Blk),(H.set i .dead)[j]?=some v->v≠ .dead->H[j]?=some v:=by
  intro j v h l;by_cases e:j=i
  .subst e;rw[Xb]at h;simp only[if_true]at h;split at h
   .cases h;exact absurd rfl l
   .simp at h
  .rw[XT (λq=>e q.symm)]at h;exact h
 refine⟨by rw[X8];exact s.len,s.roOk,s.frLt,s.roFr,?_,?_,?_,s.hidTo (· = ·) QY (XX _) (λ_ _ _ _ _ _ _ q=>q) (λ_ _ _ _ _ _ _ q=>q) λj d y u z t=>.inl ⟨j,y,rfl,u,a j y z (QeC t),id,λ_ q=>q⟩⟩
 .intro j b v f g k;exact s.own j b v f (a j v g (Qav k)) k
 .intro j n b v p f g k x m r;exact s.inj j n b v p f g (a j v k (Qav m)) (a n p x (Qav r)) m r
 .intro j y v f g;by_cases l:v≠ .dead
  .exact s.blk j y v f (a j v g l)
  .obtain rfl:v=.dead:=Classical.not_not.1 l;trivial
theorem grown{c:Call}{T T' e e' k n m cap cx:Nat}{x y:Operand}{es fs:List (List A)}{a:Act}{ad ax:Option Addr}{old new:List Value}(E:QT P T e k)(hd:∀w,(underlying T').run P w=.ok (.slice e') w)(X:o.op=.call c)
  (Q:c={callee:=.builtin .append,args:= #[x,y],argTypes:= #[T,T']})(O:a.eval x=.slice ad n cap)(W:a.eval y=.slice ax m cx)(s:Sim fr ro σ H w)(i:cap<n+m)(l:n+m<=Qy)
  (h:∀w':World,w'.heap=w.heap->(Builtin.firstCells k n (.slice ad n cap)).run P w'=.ok old.toArray w')(g:∀w':World,w'.heap=w.heap->(Builtin.firstCells k m (.slice ax m cx)).run P w'=.ok new.toArray w')
  (p:LR ro [] w es.flatten old)(u:∀v∈old,Qq v)(r:allK k es)(f:LR ro [] w fs.flatten new)(J:∀v∈new,Qq v)(j:allK k fs)(L:es.length=n)(F:fs.length=m):
  ∃v w' ro' τ,(execOp a.eval o).run P w=.ok (.value v) w'/\VR ro' (σ++τ) w' (.osl H.length 0 (n+m) k) v/\Sim fr ro' (σ++τ) (H++[.row e k (es++fs)]) w'/\Qh fr ro w ro' w':=by
 obtain⟨rest,R,z,G,d⟩:=QhX (t:=o.type) E hd rfl i l g h
 let w0:World:={w with drawn:=w.drawn+1}
 have s0:Sim fr ro σ H w0:=s.heap rfl;have Y:Qh fr ro w ro w0:=Qh.heap rfl rfl rfl rfl (Nat.le_succ _);have B:LR ro [] w0 (es++fs).flatten (old++new):=by
  rw[Xt];exact(p.append f).mono (Ext.heap (w:=w) (w':=w0) rfl)
 obtain⟨s1,e1⟩:=Qi5 (T:=e) (rest:=rest) s0 (Qeb r j) B (λv V=>by rcases VH.1 V with q|q;exact u v q;exact J v q);have b:(execOp a.eval o).run P w=.ok (.value _) _:=Y2 X Q a.eval (by rw[O,W];exact d);refine⟨_,_,ro,[some w.heap.size],b,.inr ⟨w.heap.size,0,R,e,(old++new++rest).length,?_,rfl,λ_=>by simp,z,?_,?_⟩,s1,Y.trans e1⟩
 .rw[<- s.len];simp
 .have:=Q9 w0 (.cells ((old++new)++rest).toArray e);unfold World.shape?;rw[show w.heap.size=w0.heap.size from rfl,this];simp
 .have N:=p.length;have M:=f.length;rw[Yu r]at N;rw[Yu j]at M;simp only[X7,G,N,M,L,F,Xy];rw[<- XD, <- XD];exact XF k (by omega)
theorem Qf6{c:Call}{T T' e e' k:Nat}{x y:Operand}{ya:A}{fs:List (List A)}(E:QT P T e k)(s:∀w,(underlying T').run P w=.ok (.slice e') w)(p:o.op=.call c)
  (h:c={callee:=.builtin .append,args:= #[x,y],argTypes:= #[T,T']})(F:opA env x=.nils)(B:opA env y=ya)(L:Src P H ya k fs)(q:fs.length<=Qy):
  OpH P o env H (.osl H.length 0 fs.length k) (H++[.row e k fs]):=by
 intro u j σ N a w r;have b:=Qg r x;rw[F]at b;simp only[VR]at b;have i:=Qg r y;rw[B]at i;obtain⟨⟨Q,M,g⟩,J,l,d,O,G⟩:=L u j σ w _ r.sim i;rw[g]at d;by_cases z:fs.length=0
 .have f:fs=[]:=VN.1 z;subst f;refine⟨.slice none 0 0,w,j,[none],?_,.inl ⟨rfl,rfl⟩,r.sim.phantom e k,Qh.refl _ _ _⟩;refine Y2 p h _ ?_;rw[b,g];have:=QcP (t:=o.type) E s (ad:=none) (n:=0) (m:=0) (cap:=0) (c:=M) (ax:=Q) (XX 0) (d w rfl);simpa using this
 .have:=grown (es:=[]) (old:=[]) E s p h b g r.sim (by omega) (by omega) (λ_ _=>Y1) d rfl (by simp) trivial O G J rfl rfl;simpa using this
theorem Qi2{c:Call}{T T' e e' k i n:Nat}{x y:Operand}{ya:A}{es fs gs:List (List A)}(E:QT P T e k)(hd:∀w,(underlying T').run P w=.ok (.slice e') w)(ho:o.op=.call c)
  (L:c={callee:=.builtin .append,args:= #[x,y],argTypes:= #[T,T']})(hx:opA env x=.osl i 0 n k)(hH:H[i]?=some (.row e k es))(hn:n<=es.length)(z:opA env y=ya)(hs:Src P H ya k fs)(j:n+fs.length<=Qy)
  (hg:es.take n++fs=gs):OpH P o env H (.osl H.length 0 (n+fs.length) k) (H.set i .dead++[.row e k gs]):=by
 intro fr J σ N a w r;subst hg;have g:=Qg r x;rw[hx]at g;have h2:=Qg r y;rw[z]at h2;obtain⟨⟨ay,cy,G⟩,q2,l,Q,q4,q5⟩:=hs fr J σ w _ r.sim h2;rw[G]at Q;have q:i<H.length:=(XP.1 hH).1;have O:(H.set i .dead).length=H.length:=X8;obtain⟨s,hσ⟩:∃s,σ[i]?=some s:=⟨_,XO (by rw[r.sim.len];exact q)⟩;rcases g with⟨rfl,g⟩|⟨b,p,cap,t',mm,h3,g,h4,h5,V,h7⟩
 ·
  by_cases hm:fs.length=0
  .have F:fs=[]:=VN.1 hm;subst F;refine⟨.slice none 0 0,w,J,[none],?_,.inl ⟨rfl,rfl⟩,(r.sim.kill i).phantom e k,Qh.refl _ _ _⟩;refine Y2 ho L _ ?_;rw[g,G];have:=QcP (t:=o.type) E hd (ad:=none) (n:=0) (m:=0) (cap:=0) (c:=cy) (ax:=ay) (XX 0) (Q w rfl);simpa using this
  .have:=grown (es:=[]) (old:=[]) E hd ho L g G (r.sim.kill i) (by omega) j (λ_ _=>Y1) Q rfl (by simp) trivial q4 q5 q2 rfl rfl;rw[O]at this;simpa using this
 .have R:=r.sim.blk i _ _ h3 hH;obtain⟨W,Y,g2⟩:=R;have aa:(es.take n).length=n:=by simp;omega
  obtain⟨old,o1,o2,o3⟩:∃old:List Value,(∀w':World,w'.heap=w.heap->(Builtin.firstCells k n (.slice (some ⟨b,p,none⟩) n cap)).run P w'=.ok old.toArray w')/\LR J [] w (es.take n).flatten old/\ ∀v∈old,Qq v:=by
   have M:Src P H (.osl i 0 n k) k (es.take n):=Src.osl hH (by simp) (by omega);obtain⟨_,_,l',z1,z2,z3⟩:=M fr J σ w (.slice (some ⟨b,p,none⟩) n cap) r.sim (.inr ⟨b,p,cap,t',mm,h3,rfl,h4,h5,V,h7⟩);rw[aa]at z1;exact⟨l',z1,z2,z3⟩
  by_cases f:n+fs.length<=cap
  .have h:=QcP (t:=o.type) E hd (ad:=some ⟨b,p,none⟩) (n:=n) (m:=fs.length) (cap:=cap) (c:=cy) (ax:=ay) f (Q w rfl);have u:l.length=fs.length*k:=by rw[q4.length,Yu q2]
   by_cases hm:fs.length=0
   .have F:fs=[]:=VN.1 hm;subst F;have el:l=[]:=VN.1 (by rw[u];simp);subst el;have sw:=(r.sim.weaken (x':=.row e k (es.take n)) hH rfl (by
     intro y z;cases y with
     |none=>simp only[BR]at z⊢;subst z;simp
     |some y=>obtain⟨W,Y,g2⟩:=z;exact⟨W,Y,g2.take n⟩))
    have X:=sw.moved (i:=i) (Xa q) h3;rw[List.set_set]at X;refine⟨.slice (some ⟨b,p,none⟩) n cap,w,J,[some b],?_,.inr ⟨b,p,cap,t',mm,?_,by simp,h4,by simpa using h5,V,h7⟩,by simpa using X,Qh.refl _ _ _⟩
    .refine Y2 ho L _ ?_;rw[g,G];simpa[storeCells,go_sem]using h
    .rw[<- r.sim.len];simp
   .obtain rfl:p=0*k:=h4 (by omega);have B:(n+fs.length)*k<=W.length:=by
     have:w.shape? b=some (e,W.length):=by unfold World.shape?;rw[Y];simp
     rw[this]at V;cases V;exact XZ (XF k f) (by simpa using h7)
    rw[XD]at B;have ab:=Q5 (P:=P) (vs:=l) (n*k) 0 Y (by rw[u];simpa using B) q5;have d:=r.sim.set (x':=.row e k (es.take n++fs)) (obj:=.cells (splice W (n*k) l).toArray e (0,0)) h3 hH rfl
     (λy z=>Qaf Y (Q4 (by rw[u];exact B)) y z)
     (λex ac=>⟨_,ac,(g2.app hn q2 q4 q5).mono ex.nil⟩)
    have X:=d.1.moved (i:=i) (Xa q) h3;rw[List.set_set]at X;refine⟨.slice (some ⟨b,0*k,none⟩) (n+fs.length) cap,_,J,[some b],?_,.inr ⟨b,0*k,cap,t',mm,?_,rfl,h4,f,?_,h7⟩,X,d.2⟩
    .refine Y2 ho L _ ?_;rw[g,G,h];simp only[Jf,Nat.zero_mul,Xy,Vr,ab,Result.andThen,Vs];simp
    .rw[<- r.sim.len];simp
    .exact d.2.shape _ _ V
  .have:=grown (es:=es.take n) (old:=old) (fs:=fs) E hd ho L g G (r.sim.kill i) (by omega) j o1 Q o2 o3 (QgH n g2.allK) q4 q5 q2 aa rfl;rw[O]at this;exact this
end
end Go.Sw
namespace Go.Sw
section
variable {P:Program} {o:Oper} {env:Env} {H:Qd}
theorem OpC.fn{c:Call}{f:FuncId}{xs:List Operand}{d:Array TypeId}{args:List A}(b:∀(a:Array Value) (w:World),(callFunc f a).run P w=.ok (.enter f a) w)(g:o.op=.call c)
  (h:c={callee:=.value (.func f),args:=xs.toArray,argTypes:=d})(i:xs.map (opA env)=args):OpC P o env H f args:=by
 intro j k σ N a w r;refine⟨xs.map a.eval,?_,i▸Qbm r xs⟩;subst h;have e:a.eval (.func f)=.func (.func f) #[] #[]:=rfl;generalize a.eval=ρ at*;simp only[execOp,g,resolve,e,Deferred.ofValue,invoke,Vr,Vs,Result.andThen,b];simp
theorem QaG{c:Call}{f:FuncId}{x:Operand}{xs:List Operand}{k:Array TypeId}{args vf vc:List A}(b:∀(a:Array Value) (w:World),(callFunc f a).run P w=.ok (.enter f a) w)(e:o.op=.call c)
  (g:c={callee:=.value x,args:=xs.toArray,argTypes:=k})(m:opA env x=.fn (.func f) vf vc)(n:vf++(xs.map (opA env)++vc)=args):OpC P o env H f args:=by
 intro p q σ N a w r;have d:=Qg r x;rw[m]at d;obtain⟨l,h,d,j,i⟩:=d;refine⟨l++(xs.map a.eval++h),?_,n▸j.append ((Qbm r xs).append i)⟩;subst g;generalize a.eval=ρ at*;simp only[execOp,e,resolve,d,Deferred.ofValue,invoke,Vr,Vs,Result.andThen,b];simp
def Qef(ρ:Nat->Nat)(env:Env):Env->Prop
 |[]=>True
 |(s,a)::r=>lk env s=Yz ρ a/\Qef ρ env r
theorem Qef.ok{ro:Nat->Prop}{σ σ':Sig}{w:World}{ρ:Nat->Nat}(h:∀i:Nat,σ[ρ i]?=σ'[i]?){t:Array Value}(r:∀s,VR ro σ w (lk env s) (t.getD s undef)):
  ∀{env':Env},Qef ρ env env'->∀s,VR ro σ' w (lk env' s) (t.getD s undef)
 |[],_,s=>trivial
 |(d,a)::e,⟨h1,h2⟩,s=>by
  simp only[lk];by_cases q:s=d
  .subst q;rw[VJ];have:=r s;rw[h1]at this;exact(QdK h).1 this
  .have:Nat.beq s d=false:=by
    rw[VQ];intro b;exact q (XU b)
   rw[this];exact Qef.ok h r h2 s
theorem Sim.sub{fr ro:Nat->Prop}{σ:Sig}{w:World}{π:List Nat}{H':Qd}(s:Sim fr ro σ H w)(hH:π.map (λp=>H[p]?)=(H'.map (QU (rho π H.length))).map some)(hπ:π.Nodup):
  Sim fr ro (Ye σ π) H' w/\ ∀j:Nat,σ[rho π H.length j]?=(Ye σ π)[j]? :=by
 have J:∀p∈π,p<H.length:=λp q=>Ji hH q;have hσl:=s.len;have h:∀(j p:Nat),π[j]?=some p->H[p]?=(H'[j]?).map (QU (rho π H.length)):=by
  intro j p a;have:=congrArg (λl=>l[j]?) hH;simp only[Xq,a,Xk]at this;cases e:H'[j]? with
  |none=>rw[e]at this;simp at this
  |some x=>rw[e]at this;simpa using this
 have t:π.length=H'.length:=by simpa using congrArg List.length hH
 have hσc:∀j:Nat,σ[rho π H.length j]?=(Ye σ π)[j]? :=by
  intro j;have:=Qeo (τ:=[]) hσl J j;simpa using this
 have hπj:∀(j b:Nat),(Ye σ π)[j]?=some (some b)->∃p,π[j]?=some p/\σ[p]?=some (some b):=by
  intro j b a;simp only[Ye,Xq]at a;cases e:π[j]? with
  |none=>rw[e]at a;simp at a
  |some p=>
   rw[e]at a;simp at a;refine⟨p,rfl,?_⟩;cases m:σ[p]? with
   |none=>rw[m]at a;simp at a
   |some s=>rw[m]at a;simp at a;rw[a]
 have hπi:∀(i j p:Nat),π[i]?=some p->π[j]?=some p->i=j:=by
  intro i j p g f;have n:i<π.length:=(XP.1 g).1;have a:j<π.length:=(XP.1 f).1;rw[XO n]at g;rw[XO a]at f;have k:=(X4 g).trans (X4 f).symm;rcases Nat.lt_trichotomy i j with q|q|q
  .exact(VI.1 hπ i j n a q k).elim
  .exact q
  .exact(VI.1 hπ j i a n q k.symm).elim
 refine⟨⟨by simp[Ye,t],s.roOk,s.frLt,s.roFr,?_,?_,?_,s.hidTo (λj p=>π[j]?=some p) hπi (XX _) (λ_ _ _ _ _ _ _ q=>q) (λ_ _ _ _ _ _ _ q=>q) λj d y N P Q=>.inl ?_⟩,hσc⟩
 rotate_left 3
 .obtain⟨p,g,m⟩:=hπj j d N;exact⟨p,QU (rho π H.length) y,g,m,by rw[h j p g,P];rfl,by rw[QM];exact id,λc q=>(Qam _ _ _ _ _).2 q⟩
 .intro j b x r u B;obtain⟨p,g,m⟩:=hπj j b r;have z:H[p]?=some (QU (rho π H.length) x):=by rw[h j p g,u];rfl
  exact s.own p b _ m z (by rw[QM];exact B)
 .intro i j b x y r u B M L O;obtain⟨p,g,m⟩:=hπj i b r;obtain⟨E,f,F⟩:=hπj j b u;have z:H[p]?=some (QU (rho π H.length) x):=by rw[h i p g,B];rfl
  have G:H[E]?=some (QU (rho π H.length) y):=by rw[h j E f,M];rfl
  have:=s.inj p E b _ _ m F z G (by rw[QM];exact L) (by rw[QM];exact O);subst this;have n:i<π.length:=(XP.1 g).1;have a:j<π.length:=(XP.1 f).1;rw[XO n]at g;rw[XO a]at f;have k:=(X4 g).trans (X4 f).symm;rcases Nat.lt_trichotomy i j with q|q|q
  .exact(VI.1 hπ i j n a q k).elim
  .exact q
  .exact(VI.1 hπ j i a n q k.symm).elim
 .intro j y x r u;have a:j<π.length:=by
   rcases VG j π.length with q|q
   .exact q
   .rw[XS (by simpa[Ye]using q)]at r;simp at r
  have g:π[j]?=some π[j]:=XO a;have z:H[π[j]]?=some (QU (rho π H.length) x):=by rw[h j _ g,u];rfl
  have m:σ[π[j]]?=some y:=by
   have:=hσc j;rw[r]at this;simpa[rho,g]using this
  exact(QhN hσc).1 (s.blk _ y _ m z)
theorem QnU{h0:Nat}{env':Env}{H':Qd}(π:List Nat)(b:π.take h0=List.range h0)(hH:π.map (λp=>H[p]?)=(H'.map (QU (rho π H.length))).map some)(hπ:π.Nodup)
  (hE:Qef (rho π H.length) env env'):Le h0 env H env' H':=by
 intro k j σ N a w r;obtain⟨g,hσ⟩:=r.sim.sub hH hπ;refine⟨j,Ye σ π,⟨g,Qef.ok hσ r.env hE,r.size,r.defers⟩,λ_ q=>q,?_⟩;have h:=r.sim.len;have e:∀p∈π,p<H.length:=λp q=>Ji hH q;unfold Ye;rw[<- List.map_take,b];apply List.ext_getElem?;intro i;rcases VG i h0 with q|q
 .have f:i∈π:=List.mem_of_mem_take (i:=h0) (by rw[b];exact List.mem_range.2 q);have d:i<σ.length:=by rw[h];exact e i f
  rw[Xq,List.getElem?_take,Vx q,List.getElem?_range q];simp[XO d]
 .rw[XS (by simpa using q),List.getElem?_take,Vw (by omega)]
theorem Le.phantom{h0 s k t:Nat}(f:h0<=H.length)(e:lk env s=.nils):Le h0 env H (up env s (.osl H.length 0 0 k)) (H++[.row t k []]):=by
 intro i d σ N a w r;refine⟨d,σ++[none],⟨r.sim.phantom t k,?_,r.size,r.defers⟩,λ_ q=>q,Qv (by rw[r.sim.len];exact f)⟩;have ext:Ext d σ w d (σ++[none]) w:=⟨λ_ q=>q,λ_ _=>rfl,λ_ _ q=>q,λ_ _ h=>YJ h⟩;intro b;simp only[lk];by_cases q:b=s
 .subst q;rw[VJ];have:=r.env b;rw[e]at this;exact .inl ⟨rfl,this⟩
 .have:Nat.beq b s=false:=by
   rw[VQ];intro g;exact q (XU g)
  rw[this];exact(r.env b).mono ext
theorem QoS{h0 s k:Nat}(d:lk env s=.nils):Le h0 env H (up env s (.rsl k [])) H:=by
 intro g f σ N a w r;refine⟨f,σ,⟨r.sim,?_,r.size,r.defers⟩,λ_ q=>q,rfl⟩;intro b;simp only[lk];by_cases q:b=s
 .subst q;rw[VJ];have:=r.env b;rw[d]at this;exact⟨none,0,this,XX _,.inl rfl⟩
 .have:Nat.beq b s=false:=by
   rw[VQ];intro e;exact q (XU e)
  rw[this];exact r.env b
mutual
def Yl:A->Bool
 |.bool _=>true
 |.int _ _=>true
 |.str _=>true
 |.tup vs=>Qep vs
 |_=>false
def Qep:List A->Bool
 |[]=>true
 |a::r=>Yl a&&Qep r
end
mutual
theorem VR.scalar{ro ro':Nat->Prop}{σ σ':Sig}{w w':World}:∀{a:A} {v:Value},Yl a=true->VR ro σ w a v->VR ro' σ' w' a v
 |.bool _,_,_,h=>h
 |.int _ _,_,_,h=>h
 |.str _,_,_,h=>h
 |.tup vs,v,hs,h=>by
  simp only[VR,Yl]at h hs⊢;obtain⟨l,h1,h2⟩:=h;exact⟨l,h1,LR.scalar hs h2⟩
 |.any,_,hs,_=>by simp[Yl]at hs
 |.nilp,_,hs,_=>by simp[Yl]at hs
 |.ptr _ _,_,hs,_=>by simp[Yl]at hs
 |.rp _,_,hs,_=>by simp[Yl]at hs
 |.nils,_,hs,_=>by simp[Yl]at hs
 |.rsl _ _,_,hs,_=>by simp[Yl]at hs
 |.osl _ _ _ _,_,hs,_=>by simp[Yl]at hs
 |.agg _,_,hs,_=>by simp[Yl]at hs
 |.fn _ _ _,_,hs,_=>by simp[Yl]at hs
 |.nilf,_,hs,_=>by simp[Yl]at hs
 |.iface _ _,_,hs,_=>by simp[Yl]at hs
 |.nilif,_,hs,_=>by simp[Yl]at hs
 |.map _,_,hs,_=>by simp[Yl]at hs
 |.nilm,_,hs,_=>by simp[Yl]at hs
theorem LR.scalar{ro ro':Nat->Prop}{σ σ':Sig}{w w':World}:∀{az:List A} {l:List Value},Qep az=true->LR ro σ w az l->LR ro' σ' w' az l
 |[],_,_,h=>h
 |a::r,l,hs,h=>by
  simp only[LR,Qep,X0]at h hs⊢;obtain⟨v,l',h1,h2,h3⟩:=h;exact⟨v,l',h1,VR.scalar hs.1 h2,LR.scalar hs.2 h3⟩
end
def Look(H:Qd):A->A->Prop:=λa a'=>(a'=a/\Yn a=true)\/ ∃i n k t es,a=.osl i 0 n k/\H[i]?=some (.row t k es)/\es.length=n/\a'=.rsl k es
def Qbo(H:Qd):List A->List A->Prop
 |[],[]=>True
 |a::az,b::bs=>Look H a b/\Qbo H az bs
 |_,_=>False
theorem Qc9{h0 N:Nat}{Q:QB}{all:Array Oper}{l:List Oper}{d:Nat}{f:FuncId}{args B:List A}{Qr:A->Qd->Prop}(ae:OpC P o env H f args)(hv:Qbo H args B)(hC:C P f B [] Qr)
  (ac:∀r H1,Qr r H1->Yl r=true)(k:∀r H1,Qr r H1->WO P h0 N all l (up env d r) H Q)(hg:Qp all o env true:=by exact rfl)(hd:o.dst=some d:=by exact rfl)(hN:Nat.blt d N=true:=by exact rfl):WO P h0 N all (o::l) env H Q:=by
 intro rd fr ro σ a w r hrd;obtain⟨M,h1,h2⟩:=ae fr ro σ N a w r;refine Qdm (YD hg r) h1 ?_
 let roc:Nat->Prop:=λb=>ro b\/ ∃(i:Nat) (x:Blk),σ[i]?=some (some b)/\H[i]?=some x/\x.live=true
 let frc:Nat->Prop:=λb=>fr b\/ ∃(i:Nat) (x:Blk) (d:Nat),σ[i]?=some (some d)/\H[i]?=some x/\Hid w x d b
 have W:Sim frc roc [] [] w:=by
  refine⟨rfl,r.sim.roOk.to (λ_ q=>.inl q) (λ_ _=>rfl) ?_,?_,?_,by simp,by simp,by simp,by simp⟩
  .rintro b (q|⟨i,x,g,u,E⟩)
   .exact r.sim.roLt b q
   .exact(r.sim.own i b x g u E).1
  .rintro b (q|⟨i,x,d,g,u,E⟩)
   .exact r.sim.frLt b q
   .exact(r.sim.hid i d x b g u E).lt
  .rintro b (q|⟨i,x,g,u,E⟩) (q'|⟨i',x',d',T,R,O⟩)
   .exact r.sim.roFr b q q'
   .exact(r.sim.hid i' d' x' b T R O).ro q
   .exact(r.sim.own i b x g u E).2.2 q'
   .exact(r.sim.hid i' d' x' b T R O).ne i b x g u E rfl
 have L:∀(az G:List A) (l:List Value),Qbo H az G->LR ro σ w az l->LR roc [] w G l:=by
  intro az
  induction az with
  |nil=>
   intro G l F h;cases G with
   |nil=>exact h
   |cons b G=>exact F.elim
  |cons x az ih=>
   intro G l F h;cases G with
   |nil=>exact F.elim
   |cons y G=>
    obtain⟨hx,F⟩:=F;obtain⟨v,l',rfl,hv,h⟩:=h;refine⟨v,l',rfl,?_,ih G l' F h⟩;rcases hx with⟨rfl,hx⟩|⟨i,n,k,t,es,rfl,hH,hn,rfl⟩
    .exact(hv.data (σ':=[]) hx).mono ⟨λ_ q=>.inl q,λ_ _=>rfl,λ_ _ q=>q,λ_ _ q=>q⟩
    .subst hn;rcases hv with⟨h0,h⟩|⟨b,p,V,t',m,h1,h,h2,h3,h4,h5⟩
     .have:es=[]:=VN.1 h0;subst this;exact⟨none,0,h,XX _,.inl rfl⟩
     .refine⟨_,V,h,h3,?_⟩;by_cases he:es=[]
      .exact .inl he
      .right;have hc:0<V:=Vj (List.length_pos_iff.2 he) h3;obtain rfl:=h2 hc;obtain⟨l,g,u⟩:=r.sim.blk i _ _ h1 hH;refine⟨b,0,by simp,.inr ⟨i,_,h1,hH,rfl⟩,?_⟩;have:=YV (pre:=[]) (by simpa using g) u;exact this.keep ⟨λ_ q=>.inl q,λ_ _=>rfl,λ_ _ q=>q,λ_ _ q=>q⟩ rfl
 refine Calls.mono (hC frc roc [] M w W (L _ _ _ hv h2)) ?_;rintro e Y ⟨v,rr,H1,af,τ,rfl,hq,sc,aa,ev⟩;have J:∀(i b:Nat) (x:Blk),σ[i]?=some (some b)->H[i]?=some x->x.live=true->Y.heap[b]?=w.heap[b]? :=λi b x g u E=>ev.keepRo b (.inr ⟨i,x,g,u,E⟩);have z:Qh fr ro w ro Y:=⟨λ_ q=>q,λb q=>ev.keepRo b (.inl q),λb q=>ev.keepFr b (.inl q),ev.size,ev.shape,ev.os,ev.tape,ev.output,ev.drawn⟩;have X:Sim fr ro σ H Y:=by
  refine⟨r.sim.len,r.sim.roOk.to (λ_ q=>q) z.keepRo (λb q=>Vj (r.sim.roLt b q) ev.size),λb q=>Vj (r.sim.frLt b q) ev.size,r.sim.roFr,?_,r.sim.inj,?_,r.sim.hidTo (· = ·) QY ev.size (λ_ _ _ _ _ _ _ q=>q) (λ_ _ _ _ _ _ _ q=>q) λj d y g1 g2 g3=>.inl ⟨j,y,rfl,g1,g2,id,λc q=>r.sim.hidKeep g1 g2 (J j d y g1 g2) z.keepRo q⟩⟩
  .intro i b x g u E;obtain⟨p1,p2,p3⟩:=r.sim.own i b x g u E;exact⟨Vj p1 ev.size,p2,p3⟩
  .intro i y x g u;refine(r.sim.blk i y x g u).keep (z.ext0 σ) ?_ ?_
   .rintro b rfl F;exact J i b x g u F
   .rintro b c rfl F;exact ev.keepFr c (.inr ⟨i,x,b,g,u,F⟩)
 have hk:=k rr H1 hq;have ab:d<N:=by simpa using hN
 simp only[hd,Act.put];have r':Rel fr ro σ H (up env d rr) N {a with tmps:=a.tmps.setIfInBounds d v} Y:=
  ⟨X,VR.up (fr:=fr) (λs=>(r.env s).mono (z.ext0 σ)) (by rw[r.size];exact ab) (aa.scalar (ac _ _ hq)),by simpa using r.size,r.defers.keep z⟩
 exact⟨_,rfl,Yh (λe a w q=>q.step z rfl) _ _ _ (hk rd fr ro σ _ Y r' (hrd.to z λ_ q=>q))⟩
end
end Go.Sw
namespace Go.Sw
section
variable {P:Program} {o:Oper} {env:Env} {H:Qd}
theorem Qgp{α:Type}:∀(vs:List α) (off i:Nat) (l:List α),off+i+vs.length<=l.length->
  (vs.zipIdx i).foldl (λ(cs:Array α) (x:α×Nat)=>cs.setIfInBounds (off+x.2) x.1) l.toArray=(splice l (off+i) vs).toArray
 |[],off,i,l,h=>by simp[splice]
 |v::vs,off,i,l,h=>by
  simp only[X5]at h;rw[List.zipIdx_cons,XH];have e1:l.toArray.setIfInBounds (off+i) v=(splice l (off+i) [v]).toArray:=by
   have:l.toArray.setIfInBounds (off+i) v=(l.set (off+i) v).toArray:=by simp
   rw[this];congr 1;rw[List.set_eq_take_append_cons_drop,Vx (by omega)];simp[splice]
  rw[e1,Qgp vs off (i+1) _ (by rw[Q4 (by simp;omega)];omega)];congr 1;have a:(l.take (off+i)).length=off+i:=by simp;omega
  unfold splice;rw[Vm (l.take (off+i))];have b:off+(i+1)=(l.take (off+i)).length+1:=by omega
  have e:(l.take (off+i)++([v]++l.drop (off+i+[v].length))).take ((l.take (off+i)).length+1)=l.take (off+i)++[v]:=by
   rw[Vf];simp
  have d:(l.take (off+i)++([v]++l.drop (off+i+[v].length))).drop ((l.take (off+i)).length+1+vs.length)=l.drop (off+i+(v::vs).length):=by
   rw[show(l.take (off+i)).length+1+vs.length=(l.take (off+i)).length+(1+vs.length)from by omega,Ve];simp[Nat.add_comm 1];congr 1;omega
  rw[b,e,d];simp
theorem Qgr{a:Nat->Option (Nat×Nat)}{l:List Value}{i off size:Nat}{v:Value}{m:List Value}{rest:List (Nat×Value)}(f:a i=some (off,size))(d:v.cells=m.toArray)(e:m.length=size)
  (hl:off+size<=l.length):Instr.fill a l.toArray ((i,v)::rest)=Instr.fill a (splice l off m).toArray rest:=by
 have b:v.cells.size=size:=by rw[d];simpa using e
 rw[Instr.fill];simp only[f];rw[Vw (by simp[b];omega),d];congr 1;have:=Qgp m off 0 l (by omega);rw[Xz]at this;rw[<- this];simp[Array.foldl_toList]
def QaD:Nat->List Operand->List (Nat×Operand)
 |_,[]=>[]
 |i,x::xs=>(i,x)::QaD (i+1) xs
def Q8(env:Env)(xs:List Operand):List (List A):=xs.map λx=>QZ (opA env x)
theorem Qfi{fr ro:Nat->Prop}{σ:Sig}{N:Nat}{a:Act}{w:World}(r:Rel fr ro σ H env N a w){k:Nat}:∀(xs:List Operand) (j:Nat) (pre rest:List Value),pre.length=j*k->rest.length=xs.length*k->
  (xs.all λx=>Yb (opA env x))=true->allK k (Q8 env xs)->
  ∃l,Instr.fill (λi=>some (i*k,k)) (pre++rest).toArray ((QaD j xs).map λp=>(p.1,a.eval p.2))=some (pre++l).toArray/\LR ro σ w (Q8 env xs).flatten l
 |[],j,pre,rest,h1,h2,_,_=>by
  have:rest=[]:=VN.1 (by simpa using h2);subst this;exact⟨[],rfl,rfl⟩
 |x::xs,j,pre,rest,h1,h2,h3,h4=>by
  simp only[List.all_cons,X0]at h3;obtain⟨hk1,hk2⟩:=h4;obtain⟨m,q1,q2⟩:=(Qg r x).cells h3.1;have hm:m.length=k:=by rw[q2.length];exact hk1
  simp only[X5,Xm]at h2;simp only[QaD,Vn];rw[Qgr (off:=j*k) (size:=k) rfl q1 hm (by simp;omega)];have e:splice (pre++rest) (j*k) m=(pre++m)++rest.drop k:=by
   unfold splice;rw[<- h1,List.take_left,Ve,hm]
  rw[e];obtain⟨l,d,b⟩:=Qfi r xs (j+1) (pre++m) (rest.drop k) (by simp[h1,hm,Xm]) (by simp;omega) h3.2 hk2;refine⟨m++l,?_,?_⟩
  .rw[d];simp
  .show LR ro σ w ((QZ (opA env x))++(Q8 env xs).flatten) (m++l);exact q2.append b
theorem QaK{fr ro:Nat->Prop}{σ:Sig}{N:Nat}{a:Act}{w:World}(r:Rel fr ro σ H env N a w){T e k n:Nat}{xs:List Operand}(E:QT P T e k)(s:xs.length=n)(h:Nat.ble (n*k) 16777216=true)
  (m:(xs.all λx=>Yb (opA env x))=true)(q:allK k (Q8 env xs)):
  ∃l,(Instr.buildSlice T n (((QaD 0 xs).map λp=>(p.1,a.eval p.2)).toArray)).run P w=.ok (.slice (some ⟨w.heap.size,0,none⟩) n n) (w.alloc (.cells l.toArray e))/\LR ro σ w (Q8 env xs).flatten l:=by
 obtain⟨z,t,y⟩:=E.zero;have j:n*k<=16777216:=by simpa using h
 have d:∀(c:Array Value) (W:World),(newRow e c).run P W=.ok ⟨W.heap.size,0,none⟩ (W.alloc (.cells c e)):=λc W=>rfl;unfold Instr.buildSlice;by_cases g:n*k=0
 .obtain⟨l,b,f⟩:=Qfi r (k:=k) xs 0 [] [] (by simp) (by rw[s];simpa using g.symm) m q;refine⟨l,?_,f⟩;simp only[Vr,E.sl,Result.andThen,E.size,g];simp only[Xn,gt_iff_lt,if_false,if_true,Vs,XL,Result.andThen];have u:Array.range 0= #[]:=rfl;simp at b;simp[u,b,d]
 .obtain⟨l,b,f⟩:=Qfi r (k:=k) xs 0 [] ((Array.range (n*k)).map (λi=>z.cells[i%z.cells.size]!)).toList (by simp) (by rw[s];simp) m q;refine⟨l,?_,f⟩;simp only[Vr,E.sl,Result.andThen,E.size,Vw g,XL,t,Vs];rw[Vw (by omega)];simp only[Vl]at b;rw[Array.toArray_toList]at b;simp only[b,Vr,d,Result.andThen,Vs]
theorem Qat{T n:Nat}{xs:List Operand}(a:o.op=.buildSlice T n (QaD 0 xs).toArray)(ρ:Operand->Value){v:Value}{w w':World}
  (h:(Instr.buildSlice T n (((QaD 0 xs).map λp=>(p.1,ρ p.2)).toArray)).run P w=.ok v w'):(execOp ρ o).run P w=.ok (.value v) w':=by
 simp only[execOp,a,Vr,XM,h,Result.andThen,Vs]
theorem OpH.lit{T e k n:Nat}{xs:List Operand}{es:List (List A)}(E:QT P T e k)(u:o.op=.buildSlice T n (QaD 0 xs).toArray)(m:xs.length=n)(h:Nat.ble (n*k) 16777216=true)
  (q:(xs.all λx=>Yb (opA env x))=true)(f:Q8 env xs=es)(g:allK k es)(y:es.flatten.all Yj=true)(s:Yf es.flatten=true):
  OpH P o env H (.osl H.length 0 n k) (H++[.row e k es]):=by
 intro B p σ N a w r;subst f;obtain⟨l,t,d⟩:=QaK r E m h q g;have b:LR p [] w (Q8 env xs).flatten l:=d.data s;obtain⟨j,i⟩:=Qi5 (T:=e) (rest:=[]) r.sim g b (d.plain y);rw[Vk]at j i;have z:l.length=n*k:=by rw[d.length,Yu g];simp[Q8,m]
 refine⟨_,_,p,[some w.heap.size],Qat u a.eval t,.inr ⟨w.heap.size,0,n,e,l.length,?_,rfl,λ_=>by simp,XX _,?_,by rw[z,Xy];exact XX _⟩,j,i⟩
 .rw[<- r.sim.len];simp
 .unfold World.shape?;rw[Q9];simp
theorem YN{T e k n:Nat}{xs:List Operand}{es:List (List A)}(E:QT P T e k)(p:o.op=.buildSlice T n (QaD 0 xs).toArray)(i:xs.length=n)(g:Nat.ble (n*k) 16777216=true)
  (j:(xs.all λx=>Yb (opA env x))=true)(d:Q8 env xs=es)(f:allK k es)(q:es.flatten.all Yj=true):
  OpH P o env H (.osl H.length 0 n k) (H++[.rowr e k es]):=by
 intro y u σ N a w r;subst d;obtain⟨l,m,b⟩:=QaK r E i g j f;have h:=r.sim.allocRowr (t:=e) (rest:=[]) f b (b.plain q);rw[Vk]at h;have s:l.length=n*k:=by rw[b.length,Yu f];simp[Q8,i]
 refine⟨_,_,u,[some w.heap.size],Qat p a.eval m,.inr ⟨w.heap.size,0,n,e,l.length,?_,rfl,λ_=>by simp,XX _,?_,by rw[s,Xy];exact XX _⟩,h,Qh.alloc _ r.sim.roLt r.sim.frLt⟩
 .rw[<- r.sim.len];simp
 .unfold World.shape?;rw[Q9];simp
theorem Jz{n:Int}{y:Nat}{c:BoundsCode}{w:World}(h0:0<=n)(a:n<=y):(Instr.sliceBound (.int .i64 n) y c).run P w=.ok n.toNat w:=by
 simp[Instr.sliceBound,asIntOf,h0,a,go_sem]
theorem Qg1{T e:Nat}{k:Nat}{w:World}(E1:∀w,(underlying T).run P w=.ok (.slice e) w)(E2:∀w,(sizeOf e).run P w=.ok k w){ad:Option Addr}{n cap:Nat}{lo hi:Option Value}{l h:Nat}(f:n<=cap)
  (a:lo=none/\l=0\/ ∃z:Int,lo=some (.int .i64 z)/\0<=z/\z.toNat=l)(b:hi=none/\h=n\/ ∃z:Int,hi=some (.int .i64 z)/\0<=z/\z.toNat=h)(g:l<=h)(j:h<=n):
  (Instr.sliceAt T (.slice ad n cap) lo hi none).run P w=.ok (.slice (if cap=l then ad else ad.map (·.add (l*k))) (h-l) (cap-l)) w:=by
 have i:(Instr.sliceBounds true n cap lo hi none).run P w=.ok (l,h,cap) w:=by
  rcases a with⟨rfl,rfl⟩|⟨z,rfl,d,rfl⟩<;>rcases b with⟨rfl,rfl⟩|⟨y,rfl,y0,rfl⟩
  .simp[Instr.sliceBounds,go_sem]
  .simp only[Instr.sliceBounds,Vr,Vs,Result.andThen,Jz y0 (show y<=(cap:Int)by omega)]
  .simp only[Instr.sliceBounds,Vr,Vs,Result.andThen,Jz d (show z<=(h:Int)by omega)]
  .simp only[Instr.sliceBounds,Vr,Vs,Result.andThen,Jz y0 (show y<=(cap:Int)by omega),Jz d (show z<=(y.toNat:Int)by omega)]
 simp only[Instr.sliceAt,Vr,E1,Result.andThen,Instr.slice,i,E2,Vs]
theorem Qba{fr ro:Nat->Prop}{σ:Sig}{N:Nat}{a:Act}{w:World}(r:Rel fr ro σ H env N a w){x:Option Operand}{l d:Nat}(h:x=none/\l=d\/ ∃y,∃z:Int,x=some y/\opA env y=.int .i64 z/\0<=z/\z.toNat=l):
  x.map a.eval=none/\l=d\/ ∃z:Int,x.map a.eval=some (.int .i64 z)/\0<=z/\z.toNat=l:=by
 rcases h with⟨rfl,rfl⟩|⟨y,z,rfl,e,f,b⟩
 .exact .inl ⟨rfl,rfl⟩
 .exact .inr ⟨z,by simp[QQ r e],f,b⟩
theorem QnN{T e k:Nat}{x:Operand}{lo hi:Option Operand}{es es':List (List A)}{l h:Nat}(E1:∀w,(underlying T).run P w=.ok (.slice e) w)(E2:∀w,(sizeOf e).run P w=.ok k w)(E:o.op=.slice T x lo hi none)
  (u:opA env x=.rsl k es)(j:lo=none/\l=0\/ ∃y,∃z:Int,lo=some y/\opA env y=.int .i64 z/\0<=z/\z.toNat=l)
  (m:hi=none/\h=es.length\/ ∃y,∃z:Int,hi=some y/\opA env y=.int .i64 z/\0<=z/\z.toNat=h)(p:l<=h)(J:h<=es.length)(q:(es.take h).drop l=es'):OpV P o env H (.rsl k es'):=by
 intro L M σ N a w r;subst q;have i:=Qg r x;rw[u]at i;obtain⟨ad,g,i,t,F⟩:=i;have f:=Qg1 (P:=P) (w:=w) E1 E2 (ad:=ad) t (Qba r j) (Qba r m) p J;have d:((es.take h).drop l).length=h-l:=by simp;omega
 refine⟨_,by simp only[execOp,E,i,Vr,f,Result.andThen,Vs,Xl];rfl,?_⟩;refine⟨_,g-l,by rw[d],by rw[d];omega,?_⟩;rcases F with rfl|⟨b,n,rfl,G,B⟩
 .left;simp
 .by_cases s:g=l
  .left;apply VN.1;omega
  .right;refine⟨b,n+l*k,by rw[Vw s];simp[Jf],G,?_⟩;exact(B.take h).drop l
theorem QfP{T e k i s n:Nat}{x:Operand}{lo hi:Option Operand}{l h:Nat}(E1:∀w,(underlying T).run P w=.ok (.slice e) w)(E2:∀w,(sizeOf e).run P w=.ok k w)(F:o.op=.slice T x lo hi none)
  (R:opA env x=.osl i s n k)(j:lo=none/\l=0\/ ∃y,∃z:Int,lo=some y/\opA env y=.int .i64 z/\0<=z/\z.toNat=l)
  (u:hi=none/\h=n\/ ∃y,∃z:Int,hi=some y/\opA env y=.int .i64 z/\0<=z/\z.toNat=h)(t:l<=h)(G:h<=n):OpV P o env H (.osl i (s+l) (h-l) k):=by
 intro V W σ N a w r;have g:=Qg r x;rw[R]at g;rcases g with⟨rfl,g⟩|⟨b,p,f,J,m,g,O,M,Q,E,L⟩
 .have d:=Qg1 (P:=P) (w:=w) E1 E2 (ad:=none) (XX 0) (Qba r j) (Qba r u) t G;refine⟨_,by simp only[execOp,F,g,Vr,d,Result.andThen,Vs,Xl];rfl,?_⟩;left;obtain rfl:h=0:=by omega
  obtain rfl:l=0:=by omega
  simp
 .have d:=Qg1 (P:=P) (w:=w) E1 E2 (ad:=some ⟨b,p,none⟩) Q (Qba r j) (Qba r u) t G;refine⟨_,by simp only[execOp,F,O,Vr,d,Result.andThen,Vs,Xl];rfl,?_⟩;right;by_cases B:f=l
  .refine⟨b,p,0,J,m,g,by rw[Vx B];simp[B],λq=>by omega,by omega,E,?_⟩;subst B;exact XZ (by simp) L
  .refine⟨b,p+l*k,f-l,J,m,g,by rw[Vw B];simp[Jf],λq=>by rw[M (by omega),XD],by omega,E,?_⟩;rw[show s+l+(f-l)=s+f from by omega];exact L
theorem OpV.max{c:Call}{x y:Operand}{k:IntKind}{m n:Int}(g:o.op=.call c)(e:c={callee:=.builtin .max,args:= #[x,y],argTypes:=c.argTypes})(j:opA env x=.int k m)(i:opA env y=.int k n):
  OpV P o env H (.int k (if m<n then n else m)):=by
 intro l p σ N a w r;have f:=QQ r j;have h:=QQ r i;refine⟨_,?_,rfl⟩;generalize a.eval=ρ at*;have b:c.callee=.builtin .max:=by rw[e]
 have d:c.args= #[x,y]:=by rw[e]
 simp only[execOp,g,resolve,b,d,invoke,Go.builtin,Vr,Vs,Result.andThen];simp[Builtin.max_,Builtin.max2,f,h,go_sem]
theorem OpV.min{c:Call}{x y:Operand}{k:IntKind}{m n:Int}(g:o.op=.call c)(e:c={callee:=.builtin .min,args:= #[x,y],argTypes:=c.argTypes})(j:opA env x=.int k m)(i:opA env y=.int k n):
  OpV P o env H (.int k (if n<m then n else m)):=by
 intro l p σ N a w r;have f:=QQ r j;have h:=QQ r i;refine⟨_,?_,rfl⟩;generalize a.eval=ρ at*;have b:c.callee=.builtin .min:=by rw[e]
 have d:c.args= #[x,y]:=by rw[e]
 simp only[execOp,g,resolve,b,d,invoke,Go.builtin,Vr,Vs,Result.andThen];simp[Builtin.min_,Builtin.min2,f,h,go_sem]
end
end Go.Sw
namespace Go.Sw
section
variable {P:Program} {h0 N:Nat} {env:Env} {H:Qd} {Q:QB} {c c':Code}
def CutP(h0:Nat)(Eb:Env)(Hb:Qd)(Q:QB):QB
 |.normal,env,H=>Le h0 env H Eb Hb
 |.exit id,env,H=>Q (.exit id) env H
 |.ret,env,H=>Q .ret env H
theorem TC.cut(Eb:Env)(Hb:Qd)(h:TC P h0 N c env H (CutP h0 Eb Hb Q))(k:∀env H,Le h0 env H Eb Hb->Q .normal env H):TC P h0 N c env H Q:=
 h.mono λx env' H' q=>by
  cases x with
  |normal=>exact k _ _ q
  |exit id=>exact q
  |ret=>exact q
theorem Qmk(h:TC P h0 N c env H Q):Seq P h0 N c Q .normal env H:=h
theorem seqX{id:Nat}(h:Q (.exit id) env H):Seq P h0 N c Q (.exit id) env H:=h
theorem seqR(h:Q .ret env H):Seq P h0 N c Q .ret env H:=h
theorem bloN{id:Nat}(h:Q .normal env H):Blo id Q .normal env H:=h
theorem bloE{id:Nat}(h:Q .normal env H):Blo id Q (.exit id) env H:=by simp only[Blo,VJ,Vt];exact h
theorem bloX{id a:Nat}(e:Nat.beq a id=false)(h:Q (.exit a) env H):Blo id Q (.exit a) env H:=by simp only[Blo,e,Vu];exact h
theorem bloR{id:Nat}(h:Q .ret env H):Blo id Q .ret env H:=h
def QfW{S B:Type}(h0:Nat)(b:Ctl S B)(Eb:S->Env)(Hb:S->Qd)(Q:QB):QB
 |.normal,env,H=>∃s,b=.cont s/\Le h0 env H (Eb s) (Hb s)
 |.exit id,env,H=>Q (.exit id) env H
 |.ret,env,H=>Q .ret env H
theorem Qhy{S B:Type}{b:Ctl S B}(Eb:S->Env)(Hb:S->Qd)(h:TC P h0 N c env H (QfW h0 b Eb Hb Q))(k:∀s env H,b=.cont s->Le h0 env H (Eb s) (Hb s)->Q .normal env H):TC P h0 N c env H Q:=
 h.mono λx env' H' q=>by
  cases x with
  |normal=>obtain⟨s,e,q⟩:=q;exact k s _ _ e q
  |exit id=>exact q
  |ret=>exact q
section
variable {S B:Type} {b:Ctl S B} {Eb:S->Env} {Hb:S->Qd}
theorem QL{s:S}(e:b=.cont s)(h:Le h0 env H (Eb s) (Hb s)):QfW h0 b Eb Hb Q .normal env H:=⟨s,e,h⟩
theorem Qpc{id:Nat}(h:Q (.exit id) env H):QfW h0 b Eb Hb Q (.exit id) env H:=h
theorem Q3(h:Q .ret env H):QfW h0 b Eb Hb Q .ret env H:=h
end
theorem QiW{x:Operand}{t:Bool}(hx:opA env x=.bool t)(h:t=true)(ht:TC P h0 N c env H Q):TC P h0 N (.cond x c c') env H Q:=TC.cond hx (λ_=>ht) (λq=>by rw[h]at q;cases q)
theorem QfI{x:Operand}{t:Bool}(hx:opA env x=.bool t)(h:t=false)(hf:TC P h0 N c' env H Q):TC P h0 N (.cond x c c') env H Q:=TC.cond hx (λq=>by rw[h]at q;cases q) (λ_=>hf)
section
variable {S B:Type} {I:S->Env->Qd->Prop}
theorem Qu{s:S}{d:Ctl S B}(e:some (Ctl.cont s)=some d)(h:I s env H):Qbn I d Q .normal env H:=⟨s,(X4 e).symm,h⟩
theorem Qx{id:Nat}{b:B}{d:Ctl S B}(e:some (Ctl.done b)=some d)(h:Q (.exit id) env H):Qbn I d Q (.exit id) env H:=⟨⟨b,(X4 e).symm⟩,h⟩
theorem Yq{b:B}{d:Ctl S B}(e:some (Ctl.done b)=some d)(h:Q .ret env H):Qbn I d Q .ret env H:=⟨⟨b,(X4 e).symm⟩,h⟩
end
end
theorem Ju{α β:Type}{x:Option α}{f:α->Option β}{r:β}(h:x.bind f=some r):∃a,x=some a/\f a=some r:=Option.bind_eq_some_iff.1 h
theorem ifT{α:Type}{c:Bool}{x y:Option α}{r:α}(a:c=true)(h:(bif c then x else y)=some r):x=some r:=by subst a;exact h
theorem ifF{α:Type}{c:Bool}{x y:Option α}{r:α}(a:c=false)(h:(bif c then x else y)=some r):y=some r:=by subst a;exact h
def idx{α:Type}(l:List α)(i:Int):Option α:=bif decide (0<=i)then l[i.toNat]? else none
theorem Qas{α:Type}{l:List α}{i:Int}{x:α}(h:idx l i=some x):0<=i/\l[i.toNat]?=some x:=by
 unfold idx at h;by_cases q:0<=i
 .rw[Vy q]at h;exact⟨q,h⟩
 .rw[VB q]at h;simp at h
def app{α:Type}(l m:List α):Option (List α):=bif Nat.ble (l.length+m.length) Qy then some (l++m)else none
theorem QjR{α:Type}{l m r:List α}(h:app l m=some r):l.length+m.length<=Qy/\l++m=r:=by
 unfold app at h;cases q:Nat.ble (l.length+m.length) Qy with
 |true=>rw[q]at h;exact⟨XV q,X4 h⟩
 |false=>rw[q]at h;simp at h
def slc{α:Type}(l:List α)(lo hi:Int):Option (List α):=bif decide (0<=lo)&&decide (lo<=hi)&&decide (hi<=(l.length:Int))then some ((l.take hi.toNat).drop lo.toNat)else none
theorem Qdq{α:Type}{l r:List α}{lo hi:Int}(h:slc l lo hi=some r):0<=lo/\lo<=hi/\hi<=l.length/\(l.take hi.toNat).drop lo.toNat=r:=by
 unfold slc at h;cases q:(decide (0<=lo)&&decide (lo<=hi)&&decide (hi<=(l.length:Int)))with
 |true=>
  rw[q]at h;simp at q;exact⟨q.1.1,q.1.2,q.2,X4 h⟩
 |false=>rw[q]at h;simp at h
def Qct{α:Type}(l:List α)(i:Int)(x:α):Option (List α):=bif decide (0<=i)&&decide (i<(l.length:Int))then some (l.set i.toNat x)else none
theorem Qer{α:Type}{e:α->List A}{l:List α}{i:Nat}{x:α}(h:l[i]?=some x):(l.map e)[i]?=some (e x):=by simp[h]
end Go.Sw
namespace Go.Sw
section
variable {P:Program} {h0 N:Nat} {env:Env} {H H':Qd} {Q:QB} {all:Array Oper} {o:Oper} {l:List Oper} {d:Nat} {x:A}
theorem vV(a:OpV P o env H x)(k:WO P h0 N all l (up env d x) H Q)(hg:Qp all o env true:=by exact rfl)(hd:o.dst=some d:=by exact rfl)(hN:Nat.blt d N=true:=by exact rfl):WO P h0 N all (o::l) env H Q:=
 QF hg hd hN a k
theorem vH(a:OpH P o env H x H')(k:WO P h0 N all l (up env d x) H' Q)(hg:Qp all o env true:=by exact rfl)(hd:o.dst=some d:=by exact rfl)(hN:Nat.blt d N=true:=by exact rfl)(hh:Nat.ble h0 H.length=true:=by exact rfl):WO P h0 N all (o::l) env H Q:=
 Y4 (XV hh) hg hd hN a k
theorem vN(a:OpH P o env H x H')(k:WO P h0 N all l env H' Q)(hg:Qp all o env true:=by exact rfl)(hd:o.dst=none:=by exact rfl)(hh:Nat.ble h0 H.length=true:=by exact rfl):WO P h0 N all (o::l) env H Q:=
 Qqd (XV hh) hg hd a k
theorem vU(a:OpU P o env H H')(k:WO P h0 N all l env H' Q)(hg:Qp all o env true:=by exact rfl)(hd:o.dst=none:=by exact rfl)(hh:Nat.ble h0 H.length=true:=by exact rfl):WO P h0 N all (o::l) env H Q:=
 QbB (XV hh) hg hd a k
theorem gT{j s:Nat}{c x:Bool}(a:x=c)(hg:o.guard=some (j,c):=by exact rfl)(hs:(all[j]?).bind (·.dst)=some s:=by exact rfl)(hl:lk env s=.bool x:=by exact rfl):Qp all o env true:=by
 unfold Qp;rw[hg];exact⟨s,hs,.inl ⟨x,hl,by subst a;cases x<;>rfl⟩⟩
theorem gF{j s:Nat}{c x:Bool}(a:x= !c)(hg:o.guard=some (j,c):=by exact rfl)(hs:(all[j]?).bind (·.dst)=some s:=by exact rfl)(hl:lk env s=.bool x:=by exact rfl):Qp all o env false:=by
 unfold Qp;rw[hg];exact⟨s,hs,.inl ⟨x,hl,by subst a;cases c<;>rfl⟩⟩
theorem Qqe{x x':A}(a:x'=x)(hH:H'=H)(k:WO P h0 N all l (up env d x) H Q):WO P h0 N all l (up env d x') H' Q:=by subst a;subst hH;exact k
theorem QfH(hH:H'=H)(k:WO P h0 N all l env H Q):WO P h0 N all l env H' Q:=by subst hH;exact k
theorem QA{f:FuncId}{args a:List A}{Hc:Qd}{Qr:A->Qd->Prop}(π:List Nat)(b:OpC P o env H f args)(e:C P f a Hc Qr)
  (k:∀r H1,Qr r H1->WO P h0 N all l (up env d (Yz (rho π H.length) r)) (Yo H π (H1.map (QU (rho π H.length)))) Q)
  (hargs:args=Qaa (rho π H.length) a:=by exact rfl)(hH:π.map (λp=>H[p]?)=(Hc.map (QU (rho π H.length))).map some:=by exact rfl)(hπ:π.Nodup:=by decide)
  (hg:Qp all o env true:=by exact rfl)(hd:o.dst=some d:=by exact rfl)(hN:Nat.blt d N=true:=by exact rfl)(hh:Nat.ble h0 H.length=true:=by exact rfl):WO P h0 N all (o::l) env H Q:=
 WO.call (d:=some d) π (XV hh) hg hd (λx g=>by cases g;simpa using hN) b hargs hH hπ e k
end
section
variable {P:Program} {o:Oper} {env:Env} {H:Qd} {α:Type} {e:α->List A}
theorem QnM{c:Call}{t et k:Nat}{x:Operand}{l:List α}(a:∀w,(underlying t).run P w=.ok (.slice et) w)(b:o.op=.call c:=by exact rfl)(hc:c={callee:=.builtin .len,args:= #[x],argTypes:= #[t]}:=by exact rfl)
  (hx:opA env x=.rsl k (l.map e):=by exact rfl):OpV P o env H (.int .i64 l.length):=by
 have:=QnL (H:=H) b hc a hx
 rwa [X6]at this
theorem QkS{t et k:Nat}{x y:Operand}{l:List α}{d:IntKind}{i:Int}{v:α}(h:idx l i=some v)(b:∀w,(underlying t).run P w=.ok (.slice et) w)(a:∀w,(sizeOf et).run P w=.ok k w)
  (f:o.op=.indexAddr t x y:=by exact rfl)(hx:opA env x=.rsl k (l.map e):=by exact rfl)(hy:opA env y=.int d i:=by exact rfl):OpV P o env H (.rp (e v)):=
 QoP f b a hx hy (Qas h).1 (Qer (Qas h).2)
theorem QR{t et k b n:Nat}{x y:Operand}{l:List α}{g:IntKind}{i:Int}{v:α}(h:idx l i=some v)(m:l.length=n)(d:∀w,(underlying t).run P w=.ok (.slice et) w)(a:∀w,(sizeOf et).run P w=.ok k w)
  (e:o.op=.indexAddr t x y:=by exact rfl)(hx:opA env x=.osl b 0 n k:=by exact rfl)(hy:opA env y=.int g i:=by exact rfl):OpV P o env H (.ptr b (i.toNat*k)):=by
 have:=Qas h;have f:i.toNat<l.length:=(XP.1 this.2).1;have j:=QhB (H:=H) e d a hx hy this.1 (by omega)
 rwa [Nat.zero_mul,Xy]at j
theorem QgK{b t k f:Nat}{l:List α}{i:Int}{v:α}{cs':List A}(h:idx l i=some v)(hH:H[b]?=some (.row t k (l.map e)):=by exact rfl)(hcs:(e v).drop f=cs':=by exact rfl):Pts H (.ptr b (i.toNat*k+f)) cs':=
 Pts.row hH rfl (Qer (Qas h).2) hcs
theorem Qt{b t k:Nat}{l:List α}{i:Int}{v:α}{cs':List A}(h:idx l i=some v)(hH:H[b]?=some (.row t k (l.map e)):=by exact rfl)(hcs:e v=cs':=by exact rfl):Pts H (.ptr b (i.toNat*k)) cs':=
 Pts.row (f:=0) hH rfl (Qer (Qas h).2) hcs
theorem Qi3{c:Call}{T T' et et' k:Nat}{x y:Operand}{ya:A}{m r:List α}(h:app [] m=some r)(E:QT P T et k)(b:∀w,(underlying T').run P w=.ok (.slice et') w)(a:Src P H ya k (m.map e))
  (f:o.op=.call c:=by exact rfl)(hc:c={callee:=.builtin .append,args:= #[x,y],argTypes:= #[T,T']}:=by exact rfl)(hx:opA env x=.nils:=by exact rfl)(hy:opA env y=ya:=by exact rfl):
  OpH P o env H (.osl H.length 0 r.length k) (H++[.row et k (r.map e)]):=by
 obtain⟨d,rfl⟩:=QjR h;have:=Qf6 E b f hc hx hy a (by simpa using d);simpa using this
theorem QC{c:Call}{T T' et et' k i n:Nat}{x y:Operand}{ya:A}{l m r:List α}(h:app l m=some r)(E:QT P T et k)(b:∀w,(underlying T').run P w=.ok (.slice et') w)(a:Src P H ya k (m.map e))
  (f:l.length=n:=by exact rfl)(ho:o.op=.call c:=by exact rfl)(hc:c={callee:=.builtin .append,args:= #[x,y],argTypes:= #[T,T']}:=by exact rfl)(hx:opA env x=.osl i 0 n k:=by exact rfl)
  (hH:H[i]?=some (.row et k (l.map e)):=by exact rfl)(hy:opA env y=ya:=by exact rfl):
  OpH P o env H (.osl H.length 0 r.length k) (H.set i .dead++[.row et k (r.map e)]):=by
 obtain⟨d,rfl⟩:=QjR h;subst f;have:=Qi2 E b ho hc hx hH (by simp) hy a (by simpa using d) (gs:=(l++m).map e) (by rw[VM (by simp)];simp);simpa using this
theorem Jq{k:Nat}{l:List α}:Src P H (.rsl k (l.map e)) k (l.map e):=Src.rsl
theorem Y5{i n k t:Nat}{l:List α}(hH:H[i]?=some (.row t k (l.map e)):=by exact rfl)(hn:l.length=n:=by exact rfl):Src P H (.osl i 0 n k) k (l.map e):=
 Src.osl hH (by subst hn;rw[List.drop_zero,VM (by simp)]) (by simp[hn])
theorem JE{t n b T k f:Nat}{x y:Operand}{l l':List α}{i:Int}{v j:α}{vs:List A}{a:A}{off:Nat}(h:idx l i=some v)(hl:Qct l i j=some l')(m:∀w,(sizeOf t).run P w=.ok n w)(d:off=i.toNat*k+f)(g:splice (e v) f vs=e j)
  (p:o.op=.store t x y:=by exact rfl)(hx:opA env x=.ptr b off:=by exact rfl)(hH:H[b]?=some (.row T k (l.map e)):=by exact rfl)
  (hy:opA env y=a:=by exact rfl)(hk:Yb a=true:=by exact rfl)(hv:QZ a=vs:=by exact rfl)(hn:vs.length=n:=by exact rfl)(hp:vs.all Yj=true:=by exact rfl)(hd:Yf vs=true:=by exact rfl)(hf:Nat.ble (f+n) k=true:=by exact rfl):
  OpU P o env H (H.set b (.row T k (l'.map e))):=by
 refine QhC p hx hH m d (Qer (Qas h).2) hy hk hv hn hp hd hf g ?_;unfold Qct at hl;cases q:(decide (0<=i)&&decide (i<(l.length:Int)))with
 |false=>rw[q]at hl;simp at hl
 |true=>rw[q]at hl;rw[<- X4 hl,List.map_set]
end
def ZR(a:A)(v:Value):Prop:=∀ro σ w,VR ro σ w a v
def ZL(az:List A)(l:List Value):Prop:=∀ro σ w,LR ro σ w az l
theorem ZR.int{k:IntKind}{n:Int}:ZR (.int k n) (.int k n):=λ_ _ _=>rfl
theorem ZR.bool{b:Bool}:ZR (.bool b) (.bool b):=λ_ _ _=>rfl
theorem ZR.str:ZR (.str []) (.string ⟨#[]⟩):=λ_ _ _=>rfl
theorem ZR.rsl{α:Type}{k:Nat}{e:α->List A}:ZR (.rsl k (List.map e [])) (.slice none 0 0):=λ_ _ _=>⟨none,0,rfl,XX _,.inl rfl⟩
theorem ZR.nils:ZR .nils (.slice none 0 0):=λ_ _ _=>rfl
theorem ZR.nilp:ZR .nilp (.pointer none):=λ_ _ _=>rfl
theorem ZR.nilf:ZR .nilf .nilFunc:=λ_ _ _=>rfl
theorem ZR.nilm:ZR .nilm (.map none):=λ_ _ _=>rfl
theorem QoK:ZR .nilif .nilIface:=λ_ _ _=>rfl
theorem ZL.nil:ZL [] []:=λ_ _ _=>rfl
theorem ZL.cons{a:A}{v:Value}{az:List A}{l:List Value}(h:ZR a v)(k:ZL az l):ZL (a::az) (v::l):=λro σ w=>⟨v,l,rfl,h ro σ w,k ro σ w⟩
theorem ZR.agg{az:List A}{l:List Value}(h:ZL az l):ZR (.agg az) (.agg l.toArray):=λro σ w=>⟨l,rfl,h ro σ w⟩
section
variable {P:Program} {o:Oper} {env:Env} {H:Qd}
theorem QfS{t:Nat}{z:Value}{v:A}{cs:List A}(h:∀w,(zeroValue t).run P w=.ok z w)(g:ZR v z)(f:o.op=.alloc t:=by exact rfl)(hk:Yb v=true:=by exact rfl)(hcs:QZ v=cs:=by exact rfl)(hpl:cs.all Yj=true:=by exact rfl):
  OpH P o env H (.ptr H.length 0) (H++[.cells t cs]):=by
 intro j b σ N a w r;obtain⟨l,i,d⟩:=(g b σ w).cells hk;subst hcs;refine⟨.pointer (some ⟨w.heap.size,0,none⟩),w.alloc (.cells l.toArray t),b,[some w.heap.size],?_,⟨w.heap.size,?_,rfl⟩,r.sim.allocCells d (d.plain hpl),Qh.alloc _ r.sim.roLt r.sim.frLt⟩
 .generalize a.eval=ρ at*;have e:(newVar t z).run P w=.ok ⟨w.heap.size,0,none⟩ (w.alloc (.cells l.toArray t)):=by
   unfold newVar;rw[i];rfl
  simp only[execOp,f,Instr.alloc,Vr,h,Result.andThen,e];rfl
 .rw[<- r.sim.len];simp
theorem Qfy{t:TypeId}{p q:Bool}{w:World}(a:∀w,(underlying t).run P w=.ok .bool w):(Op.equal t (.bool p) (.bool q)).run P w=.ok (p==q) w:=by
 have k:∀d,(Op.equalIn (d+1) t (.bool p) (.bool q)).run P w=.ok (p==q) w:=by
  intro d;simp[Op.equalIn,a,go_sem]
 exact k 9999
theorem Qj3{t u:TypeId}{x y:Operand}{p q:Bool}(d:∀w,(underlying t).run P w=.ok .bool w)(e:o.op=.binOp .eql t x y u:=by exact rfl)(hx:opA env x=.bool p:=by exact rfl)(hy:opA env y=.bool q:=by exact rfl):OpV P o env H (.bool (p==q)):=by
 intro g h σ N a w r;have b:=Qbb r hx;have f:=Qbb r hy;refine⟨_,?_,rfl⟩;generalize a.eval=ρ at*;simp[execOp,e,b,f,Go.binOp,eqGuard,Qfy d,go_sem]
theorem QfQ{t u:TypeId}{x y:Operand}{p q:Bool}(d:∀w,(underlying t).run P w=.ok .bool w)(e:o.op=.binOp .neq t x y u:=by exact rfl)(hx:opA env x=.bool p:=by exact rfl)(hy:opA env y=.bool q:=by exact rfl):OpV P o env H (.bool (p != q)):=by
 intro g h σ N a w r;have b:=Qbb r hx;have f:=Qbb r hy;refine⟨_,?_,rfl⟩;generalize a.eval=ρ at*;simp[execOp,e,b,f,Go.binOp,eqGuard,Qfy d,go_sem,bne]
theorem QaR{t:TypeId}{x y:Operand}{s:List UInt8}{k:IntKind}{i:Int}{c:UInt8}(h:idx s i=some c)(a:∀w,(underlying t).run P w=.ok .string w)(b:o.op=.index t x y:=by exact rfl)(hx:opA env x=.str s:=by exact rfl)(hy:opA env y=.int k i:=by exact rfl):
  OpV P o env H (.int .u8 c.toNat):=QlL b a hx hy (Qas h).1 (Qas h).2
theorem QnO{α:Type}{e:α->List A}{T et k:Nat}{x:Operand}{lo hi:Option Operand}{l r:List α}{a b:Int}(h:slc l a b=some r)(E1:∀w,(underlying T).run P w=.ok (.slice et) w)(E2:∀w,(sizeOf et).run P w=.ok k w)
  (g:lo=none/\a=0\/ ∃y,lo=some y/\opA env y=.int .i64 a)(i:hi=none/\b=l.length\/ ∃y,hi=some y/\opA env y=.int .i64 b)
  (m:o.op=.slice T x lo hi none:=by exact rfl)(hx:opA env x=.rsl k (l.map e):=by exact rfl):OpV P o env H (.rsl k (r.map e)):=by
 obtain⟨j,n,p,rfl⟩:=Qdq h;refine QnN (l:=a.toNat) (h:=b.toNat) E1 E2 m hx ?_ ?_ (by omega) (by simp;omega) (by simp)
 .rcases g with⟨f,d⟩|⟨y,f,d⟩
  .exact .inl ⟨f,by rw[d];rfl⟩
  .exact .inr ⟨y,a,f,d,j,rfl⟩
 .rcases i with⟨f,d⟩|⟨y,f,d⟩
  .exact .inl ⟨f,by rw[d];simp⟩
  .exact .inr ⟨y,b,f,d,by omega,rfl⟩
theorem QlP{c:Call}{t et i n k:Nat}{x:Operand}(a:∀w,(underlying t).run P w=.ok (.slice et) w)(b:o.op=.call c:=by exact rfl)(hc:c={callee:=.builtin .len,args:= #[x],argTypes:= #[t]}:=by exact rfl)
  (hx:opA env x=.osl i 0 n k:=by exact rfl):OpV P o env H (.int .i64 n):=Qi1 b hc a hx
end
def Qf(k:IntKind)(n:Int):List A:=[.int k n]
def Qa7(b:Bool):List A:=[.bool b]
def encS(s:List UInt8):List A:=[.str s]
def Qni{α:Type}(k:Nat)(e:α->List A)(l:List α):List A:=[.rsl k (l.map e)]
end Go.Sw
namespace Go.Sw
theorem Ql6{P:Program}{rd:Option Nat}{o:Oper}{a:Act}{next:Act->World->Prop}{Q:Exit->Act->World->Prop}{g:Result Next}
  (p:∀a' w',next a' w'->a'.defers=a.defers)(h:o.uponIn (WF rd) 0 P a next Q g):
  o.uponIn (WF rd) 0 P a (λa' w'=>next a' w'/\ ∃v,a'=a.put o.dst v) Q g:=by
 cases g with
 |ok n w'=>
  cases n with
  |value v=>exact⟨h,_,rfl⟩
  |skip=>exact⟨h,_,rfl⟩
  |defer d=>
   have:=congrArg List.length (p _ _ h);exfalso
   revert this
   cases o.dst<;>simp[Act.put]
  |enter f i=>
   exact⟨h.1,CallsIn.mono h.2 (λe j b=>by cases e<;>first|exact⟨b,_,rfl⟩|exact b)⟩
  |row r i=>exact⟨h.1,RowsIn.mono h.2 (λ_ _ b=>⟨b,_,rfl⟩)⟩
  |round l f k assign m=>exact⟨h.1,RoundIn.mono h.2 (λe j b=>by cases e<;>first|exact⟨b,_,rfl⟩|exact b)⟩
  |_=>exact h.elim
 |halt x w'=>cases x<;>first|exact h|exact h.elim
def Y6(e:Env)(H:Qd):QB:=λx e' H'=>x=.normal/\e'=e/\H'=H
theorem Y6.mk{e:Env}{H:Qd}:Y6 e H .normal e H:=⟨rfl,rfl,rfl⟩
inductive Sb (af bf ds:List Nat) (xs:List A) (env0:Env):Env->Prop
 |nil:Sb af bf ds xs env0 []
 |dep (j:Nat) {s:Nat} {a:A} {r:Env} (h1:af.contains j=true) (h2:ds[j]?=some s) (h3:xs[j]?=some a) (k:Sb af bf ds xs env0 r):Sb af bf ds xs env0 ((s,a)::r)
 |old {s:Nat} {a:A} {r:Env} (h1:ds.contains s=false) (h2:lk env0 s=a) (k:Sb af bf ds xs env0 r):Sb af bf ds xs env0 ((s,a)::r)
 |pre (j:Nat) {s:Nat} {a:A} {r:Env} (h1:bf.contains j=true) (h2:ds[j]?=some s) (h3:lk env0 s=a) (k:Sb af bf ds xs env0 r):Sb af bf ds xs env0 ((s,a)::r)
def Qi(o:Oper):List Nat:=(o.after.toList.filter (Region.binds .any)).map (·.on)
def QjQ(l:List Oper)(i:Nat):List Nat:=(List.range l.length).filter λj=>((l[j]?).map Qi).getD [] |>.contains i
inductive QfT (P:Program) (N:Nat) (l:List Oper) (ds:List Nat) (xs:List A) (env0:Env) (i:Nat) (H H':Qd):Prop
 |mk (o:Oper) (e:Env) (d:Nat) (x:A) (ho:l[i]?=some o) (hd:o.dst=some d) (hx:xs[i]?=some x) (hs:Sb (Qi o) (QjQ l i) ds xs env0 e)
   (h:WO P H.length N l.toArray [o] e H (Y6 (up e d x) H')):QfT P N l ds xs env0 i H H'
theorem least{p:Nat->Prop}(d:∀i,p i\/ ¬p i):∀n,p n->∃i,i<=n/\p i/\ ∀j,j<i->¬p j:=by
 intro n
 induction n using Nat.strongRecOn with
 |ind n e=>
  intro h;by_cases q:∃j,j<n/\p j
  .obtain⟨j,b,a⟩:=q;obtain⟨i,k,g,f⟩:=e j b a;exact⟨i,by omega,g,f⟩
  .exact⟨n,XX _,h,λj b a=>q ⟨j,b,a⟩⟩
def onL(L:Array Bool)(i:Nat):Prop:=L[i]?=some true
theorem QkC{L:Array Bool}{i:Nat}(hi:i<L.size)(b:Bool):L.getD i b=true↔onL L i:=by
 unfold onL;rw[Array.getD_eq_getD_getElem?,Array.getElem?_eq_getElem hi];simp
theorem QaI{l:List Oper}{L:Array Bool}(n:L.size=l.length){i:Nat}:
  i∈Region.ready .any l.toArray L↔ ∃o,l[i]?=some o/\ ¬onL L i/\ ∀j∈Qi o,onL L j:=by
 unfold Region.ready;simp only[Xe,List.mem_range,List.size_toArray,X0,Bool.not_eq_true',XK];have b:∀j,L.getD j false=true↔onL L j:=by
  intro j;unfold onL;rw[Array.getD_eq_getD_getElem?];cases L[j]? <;>simp
 constructor
 .rintro⟨a,f,d⟩;refine⟨l[i],XO a,?_,?_⟩
  .intro q;rw[<- QkC (by omega) true]at q;rw[q]at f;cases f
  .rw[XO a]at d;simp only[Xk,Option.getD_some,Array.all_eq_true']at d;intro j h;unfold Qi at h;simp only[Xf,Xe,Array.mem_toList_iff]at h;obtain⟨e,⟨g,k⟩,rfl⟩:=h;have:=d e g;rw[k]at this;exact(b _).1 (by simpa using this)
 .rintro⟨o,a,f,d⟩;have m:i<l.length:=(XP.1 a).1;refine⟨m,?_,?_⟩
  .rw[<- QkC (by omega) true]at f;simpa using f
  .rw[a];simp only[Xk,Option.getD_some,Array.all_eq_true'];intro e g;cases k:Region.binds .any e with
   |false=>simp
   |true=>
    have:=(b _).2 (d e.on (by unfold Qi;simp only[Xf,Xe,Array.mem_toList_iff];exact⟨e,⟨g,k⟩,rfl⟩));simpa using this
theorem JA{L:Array Bool}{i j:Nat}(hi:i<L.size):onL (L.setIfInBounds i true) j↔j=i\/onL L j:=by
 unfold onL;rw[Vi];by_cases h:i=j
 .subst h;simp[hi]
 .have a:¬j=i:=λq=>h q.symm;simp[h,a]
def unl(L:Array Bool):Nat:=L.toList.countP (!·)
theorem QgZ{L:Array Bool}{i:Nat}(hi:i<L.size)(h:¬onL L i):unl (L.setIfInBounds i true)+1=unl L:=by
 unfold unl;have a:i<L.toList.length:=by simpa using hi
 have b:L.toList[i]=false:=by
  unfold onL at h;rw[Array.getElem?_eq_getElem hi]at h;simpa using h
 rw[Array.toList_setIfInBounds,List.countP_set a];have:0<L.toList.countP (!·):=List.countP_pos_iff.2 ⟨L.toList[i],Vh a,by rw[b];rfl⟩;rw[b,Vx (by rfl),Vw (by decide)];omega
theorem Qki{L:Array Bool}{i:Nat}(hi:i<L.size)(h:¬onL L i):0<unl L:=by have:=QgZ hi h;omega
inductive Qcs (l:List Oper) (m:Nat):Nat->Prop
 |one {o:Oper} {j:Nat} (ho:l[m]?=some o) (hj:j∈Qi o):Qcs l m j
 |step {o:Oper} {i j:Nat} (h:Qcs l m i) (ho:l[i]?=some o) (hj:j∈Qi o):Qcs l m j
def QeV(l:List Oper):Nat->List Nat->List Nat
 |0,S=>S
 |j+1,S=>QeV l j (bif S.contains j then S++(match l[j]? with|some o=>Qi o|none=>[])else S)
theorem Qb7{l:List Oper}{m:Nat}:∀(n:Nat) (S:List Nat),(∀j∈S,Qcs l m j)->∀j∈QeV l n S,Qcs l m j
 |0,S,h,j,hj=>h j hj
 |n+1,S,h,j,hj=>by
  refine Qb7 n _ ?_ j hj;intro i hi;cases q:S.contains n with
  |false=>rw[q]at hi;exact h i hi
  |true=>
   rw[q]at hi;rcases VH.1 hi with z|z
   .exact h i z
   .cases ho:l[n]? with
    |none=>rw[ho]at z;cases z
    |some o=>rw[ho]at z;exact .step (h n (by simpa using q)) ho z
def Qaw(ds:List Nat)(xs:List A)(env0:Env):Env:=ds.zip xs++env0
theorem Qok{a:List Nat}{xs:List A}{env0:Env}(hl:a.length=xs.length)(s:Nat):
  (∃(j:Nat) (x:A),a[j]?=some s/\xs[j]?=some x/\lk (Qaw a xs env0) s=x)\/(a.contains s=false/\lk (Qaw a xs env0) s=lk env0 s):=by
 unfold Qaw
 induction a generalizing xs with
 |nil=>right;simp
 |cons d a g=>
  cases xs with
  |nil=>simp at hl
  |cons x xs=>
   simp only[X5,Nat.add_right_cancel_iff]at hl;simp only[List.zip_cons_cons,VO,lk];cases h:Nat.beq s d with
   |true=>
    obtain rfl:=XU h;left;exact⟨0,x,rfl,rfl,by simp⟩
   |false=>
    have e:s≠d:=λq=>by subst q;simp[VJ]at h
    rcases g hl with⟨j,y,b,f,i⟩|⟨b,f⟩
    .left;exact⟨j+1,y,by simpa using b,by simpa using f,by simpa using i⟩
    .right;refine⟨?_,by simpa using f⟩;simp only[List.contains_cons,b,Bool.or_false];simpa using e
def drawChk.nodupB:List Nat->Bool
 |[]=>true
 |x::r=> !r.contains x&&drawChk.nodupB r
def drawChk.goB(l:List Oper)(m:Nat):Nat->List Oper->Bool
 |_,[]=>true
 |i,o::r=>(Qi o).all (λj=>Nat.blt j i)&&(bif Nat.beq i m then(List.range m).all (λj=>(QeV l m (Qi o)).contains j)else bif Nat.blt m i then(Qi o).contains (i-1)else true)&&drawChk.goB l m (i+1) r
def drawChk.loB(m k:Nat)(los:List Nat)(hs:List Bool):Nat->List Oper->Bool
 |_,[]=>(List.range k).all λj=>(List.range m).any λi=>hs.getD i false&&Nat.beq (los.getD i 0) j
 |i,o::r=>(bif Nat.blt i m then
   (Nat.beq (los.getD i 0) 0||(Qi o).any (λj=>Nat.blt j m&&Nat.ble (los.getD i 0) (los.getD j 0+(if hs.getD j false then 1 else 0))))
   &&(!hs.getD i false||(Nat.blt (los.getD i 0) k&&(List.range m).all (λj=> !hs.getD j false|| !Nat.beq (los.getD i 0) (los.getD j 0)||Nat.beq i j)))
  else true)&&drawChk.loB m k los hs (i+1) r
def drawChk(l:List Oper)(m k N:Nat)(ds los:List Nat)(hs:List Bool):Bool:=
 Nat.ble m l.length&&(ds.length==m)&&(l.take m).map (·.dst)==ds.map some&&ds.all (λd=>Nat.blt d N)&&drawChk.nodupB ds
 &&drawChk.goB l m 0 l&&(drawChk.loB m k los hs 0 l)
theorem Qd0{e:List Nat}(h:drawChk.nodupB e=true):∀(i j d:Nat),e[i]?=some d->e[j]?=some d->i=j:=by
 induction e with
 |nil=>intro i j d a;simp at a
 |cons x r g=>
  simp only[drawChk.nodupB,X0,Bool.not_eq_true']at h;have f:∀(i:Nat),r[i]? ≠some x:=by
   intro i q;have:r.contains x=true:=by simpa using VL q
   rw[this]at h;cases h.1
  intro i j d a b;cases i with
  |zero=>
   cases j with
   |zero=>rfl
   |succ j=>simp at a b;subst a;exact absurd b (f j)
  |succ i=>
   cases j with
   |zero=>simp at a b;subst b;exact absurd a (f i)
   |succ j=>simp at a b;rw[g h.2 i j d a b]
theorem Qih{l:List Oper}{m:Nat}:∀(r:List Oper) (b:Nat),drawChk.goB l m b r=true->∀(i:Nat) (o:Oper),r[i]?=some o->
  (∀j∈Qi o,j<b+i)/\(b+i=m->∀j,j<m->j∈QeV l m (Qi o))/\(m<b+i->b+i-1∈Qi o):=by
 intro r
 induction r with
 |nil=>intro b h i o d;simp at d
 |cons x r p=>
  intro b h i o d;simp only[drawChk.goB,X0]at h;cases i with
  |zero=>
   simp at d;subst d;refine⟨λj g=>?_,λf j g=>?_,λf=>?_⟩
   .have:=Xu.1 h.1.1 j g;simpa using this
   .have a:=h.1.2;have k:Nat.beq b m=true:=by subst f;simp
    rw[k]at a;simp only[Vt]at a;have:=Xu.1 a j (List.mem_range.2 g);simpa using this
   .have a:=h.1.2;have k:Nat.beq b m=false:=by
     cases q:Nat.beq b m with
     |false=>rfl
     |true=>have:=XU q;omega
    have n:Nat.blt m b=true:=by simpa using f
    rw[k,n]at a;simpa using a
  |succ i=>
   have:=p (b+1) h.2 i o (by simpa using d);have e:b+1+i=b+(i+1):=by omega
   rw[e]at this;exact this
inductive Ob (P:Program) (N:Nat) (l:List Oper) (ds:List Nat) (xs:List A) (env0:Env):Nat->List (List (Qd×Qd))->Prop
 |nil {i:Nat}:Ob P N l ds xs env0 i []
 |cons {i:Nat} {s:List (Qd×Qd)} {r:List (List (Qd×Qd))} (h:∀p∈s,QfT P N l ds xs env0 i p.1 p.2) (k:Ob P N l ds xs env0 (i+1) r):Ob P N l ds xs env0 i (s::r)
theorem Ob.get{P:Program}{N:Nat}{l:List Oper}{f:List Nat}{xs:List A}{env0:Env}{b:Nat}{e:List (List (Qd×Qd))}(h:Ob P N l f xs env0 b e):
  ∀(i:Nat) (s:List (Qd×Qd)),e[i]?=some s->∀p∈s,QfT P N l f xs env0 (b+i) p.1 p.2:=by
 induction h with
 |nil=>intro i s h;simp at h
 | @cons b1 s1 r1 h _ ih=>
  intro i s a p d;cases i with
  |zero=>simp at a;subst a;exact h p d
  |succ i=>
   have:=ih i s (by simpa using a) p d
   rwa [show b1+1+i=b1+(i+1)by omega]at this
theorem Ob.st0{P:Program}{N:Nat}{l:List Oper}{b:List Nat}{xs:List A}{env0:Env}{i:Nat}:∀p∈([]:List (Qd×Qd)),QfT P N l b xs env0 i p.1 p.2:=by
 intro p a;cases a
theorem Ob.stC{P:Program}{N:Nat}{l:List Oper}{a:List Nat}{xs:List A}{env0:Env}{i:Nat}{H H':Qd}{r:List (Qd×Qd)}(h:QfT P N l a xs env0 i H H')
  (k:∀p∈r,QfT P N l a xs env0 i p.1 p.2):∀p∈(H,H')::r,QfT P N l a xs env0 i p.1 p.2:=by
 intro p b;rcases Va.1 b with rfl|q
 .exact h
 .exact k p q
theorem Qbo.nil{H:Qd}:Qbo H [] []:=trivial
theorem Qbo.cons{H:Qd}{az d f:List A}{a b:A}(e:az=a::d)(h:Look H a b)(k:Qbo H d f):Qbo H az (b::f):=by subst e;exact⟨h,k⟩
section
variable {P:Program} {o:Oper} {env:Env} {H:Qd} {α:Type} {e:α->List A}
end
end Go.Sw
namespace Go.Sw
inductive PL (P:Program):List Field->List (Nat×Nat)->Prop
 |nil:PL P [] []
 |cons {f:Field} {n:Nat} {fs:List Field} {pl:List (Nat×Nat)} (h:∀w,(sizeOf f.type).run P w=.ok n w) (k:PL P fs pl):PL P (f::fs) ((f.offset,n)::pl)
theorem PL.run{P:Program}{fs:List Field}{a:List (Nat×Nat)}(h:PL P fs a):∀w,(fs.mapM λf=>(do pure (f.offset, <- sizeOf f.type):Sem (Nat×Nat))).run P w=.ok a w:=by
 induction h with
 |nil=>intro w;rfl
 |cons h _ ih=>
  intro w;rw[List.mapM_cons];simp only[Vr,h,Result.andThen,Vs,ih]
structure QD (P:Program) (t:TypeId) (pl:List (Nat×Nat)):Prop where
 un:∃fs:List Field,(∀w,(underlying t).run P w=.ok (.struct fs.toArray) w)/\PL P fs pl
section
variable {P:Program} {o:Oper} {env:Env} {H:Qd}
def Qd6(env:Env)(pl:List (Nat×Nat)):List A->List (Nat×Operand)->Option (List A)
 |cs,[]=>some cs
 |cs,(i,x)::r=>match pl[i]? with
  |none=>none
  |some (off,size)=>bif Yb (opA env x)&&Nat.beq (QZ (opA env x)).length size&&Nat.ble (off+size) cs.length then Qd6 env pl (splice cs off (QZ (opA env x))) r else none
theorem Qfk{fr ro:Nat->Prop}{σ:Sig}{N:Nat}{a:Act}{w:World}(r:Rel fr ro σ H env N a w){b:List (Nat×Nat)}:∀(parts:List (Nat×Operand)) (cs:List A) (l:List Value) (cs':List A),
  LR ro σ w cs l->Qd6 env b cs parts=some cs'->
  ∃l',Instr.fill (b.toArray[·]?) l.toArray (parts.map λp=>(p.1,a.eval p.2))=some l'.toArray/\LR ro σ w cs' l'
 |[],cs,l,cs',h,q=>by
  cases q;exact⟨l,rfl,h⟩
 |(i,x)::rest,cs,l,cs',h,q=>by
  unfold Qd6 at q;cases hp:b[i]? with
  |none=>rw[hp]at q;cases q
  |some p=>
   obtain⟨off,size⟩:=p;rw[hp]at q;simp only at q;cases hc:(Yb (opA env x)&&Nat.beq (QZ (opA env x)).length size&&Nat.ble (off+size) cs.length)with
   |false=>rw[hc]at q;cases q
   |true=>
    rw[hc]at q;simp only[X0]at hc;obtain⟨⟨c1,c2⟩,c3⟩:=hc;obtain⟨m,q1,q2⟩:=(Qg r x).cells c1;have hm:m.length=size:=by rw[q2.length];exact XU c2
    have e:l.length=cs.length:=h.length;obtain⟨l',d,f⟩:=Qfk r rest _ (splice l off m) cs' (h.splice off q2) q;refine⟨l',?_,f⟩;rw[Vn,Qgr (off:=off) (size:=size) (by simpa using hp) q1 hm (by rw[e];exact XV c3)];exact d
theorem OpV.build{t:TypeId}{z:Value}{zs cs:List A}{d:List (Nat×Nat)}{parts:List (Nat×Operand)}(p:∀w,(zeroValue t).run P w=.ok z w)(k:ZR (.agg zs) z)(h:QD P t d)
  (g:o.op=.build t parts.toArray:=by exact rfl)(hf:Qd6 env d zs parts=some cs:=by exact rfl):OpV P o env H (.agg cs):=by
 intro s q σ N a w r;obtain⟨u,f,j⟩:=h.un;obtain⟨l,rfl,n⟩:=k q σ w;obtain⟨b,m,e⟩:=Qfk r parts zs l cs n hf;refine⟨.agg b.toArray,?_,b,rfl,e⟩;generalize hρ:a.eval=ρ at*;have i:=j.run w;simp only[execOp,g,Instr.build,Vr,p,Result.andThen,f,XM,List.mapM_toArray,Sem.run_map,i,Value.cells,m,Vs]
end
section
variable {P:Program} {o:Oper} {env:Env} {H:Qd}
theorem Yy{x:Operand}{a:A}(g:o.op=.nilCheck x)(i:opA env x=a:=by exact rfl)(hk:(match a with|.ptr _ _=>true|.rp _=>true|_=>false)=true:=by exact rfl):OpV P o env H a:=by
 intro j k σ N ac w r;have h:=Qg r x;rw[i]at h;cases a<;>first|(cases hk;done)|skip
 .obtain⟨b,d,e⟩:=h;refine⟨_,?_,b,d,rfl⟩;generalize ac.eval=ρ at*;simp[execOp,g,e,go_sem]
 .obtain⟨b,f,d,e⟩:=h;refine⟨_,?_,b,f,rfl,e⟩;generalize ac.eval=ρ at*;simp[execOp,g,d,go_sem]
end
mutual
def FzA(i k:Nat)(es:List (List A)):A->A->Prop
 |.agg az,b=>∃bs,b=.agg bs/\FzL i k es az bs
 |.fn f x c,b=>∃x' c',b=.fn f x' c'/\FzL i k es x x'/\FzL i k es c c'
 |.iface t a,b=>∃a',b=.iface t a'/\FzA i k es a a'
 |.tup az,b=>∃bs,b=.tup bs/\FzL i k es az bs
 |.osl j o n k',b=>b=.osl j o n k'\/(j=i/\o=0/\k'=k/\n=es.length/\b=.rsl k es)
 |.nils,b=>b=.nils\/ ∃k',b=.rsl k' []
 |a,b=>b=a
def FzL(i k:Nat)(es:List (List A)):List A->List A->Prop
 |[],b=>b=[]
 |a::az,b=>∃a' as',b=a'::as'/\FzA i k es a a'/\FzL i k es az as'
end
mutual
theorem FzA.refl{i k:Nat}{es:List (List A)}:∀a:A,FzA i k es a a
 |.agg az=>⟨az,rfl,FzL.refl az⟩
 |.fn _ x c=>⟨x,c,rfl,FzL.refl x,FzL.refl c⟩
 |.iface _ a=>⟨a,rfl,FzA.refl a⟩
 |.tup az=>⟨az,rfl,FzL.refl az⟩
 |.osl _ _ _ _=>.inl rfl
 |.nils=>.inl rfl
 |.any=>rfl
 |.bool _=>rfl
 |.int _ _=>rfl
 |.str _=>rfl
 |.nilp=>rfl
 |.ptr _ _=>rfl
 |.rp _=>rfl
 |.rsl _ _=>rfl
 |.nilf=>rfl
 |.nilif=>rfl
 |.map _=>rfl
 |.nilm=>rfl
theorem FzL.refl{i k:Nat}{es:List (List A)}:∀az:List A,FzL i k es az az
 |[]=>rfl
 |a::az=>⟨a,az,rfl,FzA.refl a,FzL.refl az⟩
end
theorem FzA.agg{i k:Nat}{es:List (List A)}{az bs:List A}(h:FzL i k es az bs):FzA i k es (.agg az) (.agg bs):=⟨bs,rfl,h⟩
theorem FzA.tup{i k:Nat}{es:List (List A)}{az bs:List A}(h:FzL i k es az bs):FzA i k es (.tup az) (.tup bs):=⟨bs,rfl,h⟩
theorem FzA.iface{i k:Nat}{es:List (List A)}{t:Nat}{a b:A}(h:FzA i k es a b):FzA i k es (.iface t a) (.iface t b):=⟨b,rfl,h⟩
theorem FzA.own{i k n:Nat}{es:List (List A)}(hn:n=es.length):FzA i k es (.osl i 0 n k) (.rsl k es):=.inr ⟨rfl,rfl,rfl,hn,rfl⟩
theorem FzA.nil{i k k':Nat}{es:List (List A)}:FzA i k es .nils (.rsl k' []):=.inr ⟨k',rfl⟩
theorem FzL.cons{i k:Nat}{es:List (List A)}{a b:A}{az bs:List A}(h:FzA i k es a b)(q:FzL i k es az bs):FzL i k es (a::az) (b::bs):=⟨b,bs,rfl,h,q⟩
mutual
theorem Qkb{i k:Nat}{es:List (List A)}{ro ro':Nat->Prop}{σ:Sig}{w:World}(ext:Ext ro σ w ro' σ w)
  (hf:∀v,VR ro σ w (.osl i 0 es.length k) v->VR ro' σ w (.rsl k es) v):∀(a b:A) (v:Value),FzA i k es a b->VR ro σ w a v->VR ro' σ w b v
 |.agg az,b,v,h,q=>by
  obtain⟨bs,rfl,h⟩:=h;obtain⟨l,rfl,q⟩:=q;exact⟨l,rfl,QdQ ext hf az bs l h q⟩
 |.fn f x c,b,v,h,q=>by
  obtain⟨x',c',rfl,h1,h2⟩:=h;obtain⟨l,l',rfl,q1,q2⟩:=q;exact⟨l,l',rfl,QdQ ext hf x x' l h1 q1,QdQ ext hf c c' l' h2 q2⟩
 |.iface t a,b,v,h,q=>by
  obtain⟨a',rfl,h⟩:=h;obtain⟨x,rfl,q⟩:=q;exact⟨x,rfl,Qkb ext hf a a' x h q⟩
 |.tup az,b,v,h,q=>by
  obtain⟨bs,rfl,h⟩:=h;obtain⟨l,rfl,q⟩:=q;exact⟨l,rfl,QdQ ext hf az bs l h q⟩
 |.osl j o n k',b,v,h,q=>by
  rcases h with rfl|⟨rfl,rfl,rfl,rfl,rfl⟩
  .exact q.mono ext
  .exact hf v q
 |.nils,b,v,h,q=>by
  rcases h with rfl|⟨k',rfl⟩
  .exact q
  .obtain rfl:v=.slice none 0 0:=q;exact⟨none,0,rfl,XX _,.inl rfl⟩
 |.any,b,v,h,q=>by obtain rfl:b=_:=h;trivial
 |.bool _,b,v,h,q=>by obtain rfl:b=_:=h;exact q
 |.int _ _,b,v,h,q=>by obtain rfl:b=_:=h;exact q
 |.str _,b,v,h,q=>by obtain rfl:b=_:=h;exact q
 |.nilp,b,v,h,q=>by obtain rfl:b=_:=h;exact q
 |.ptr _ _,b,v,h,q=>by obtain rfl:b=_:=h;exact q.mono ext
 |.rp _,b,v,h,q=>by obtain rfl:b=_:=h;exact q.mono ext
 |.rsl _ _,b,v,h,q=>by obtain rfl:b=_:=h;exact q.mono ext
 |.nilf,b,v,h,q=>by obtain rfl:b=_:=h;exact q
 |.nilif,b,v,h,q=>by obtain rfl:b=_:=h;exact q
 |.map _,b,v,h,q=>by obtain rfl:b=_:=h;exact q.mono ext
 |.nilm,b,v,h,q=>by obtain rfl:b=_:=h;exact q
theorem QdQ{i k:Nat}{es:List (List A)}{ro ro':Nat->Prop}{σ:Sig}{w:World}(ext:Ext ro σ w ro' σ w)
  (hf:∀v,VR ro σ w (.osl i 0 es.length k) v->VR ro' σ w (.rsl k es) v):∀(az bs:List A) (l:List Value),FzL i k es az bs->LR ro σ w az l->LR ro' σ w bs l
 |[],bs,l,h,q=>by obtain rfl:bs=[]:=h;exact q
 |a::az,bs,l,h,q=>by
  obtain⟨a',as',rfl,h1,h2⟩:=h;obtain⟨v,l',rfl,q1,q2⟩:=q;exact⟨v,l',rfl,Qkb ext hf a a' v h1 q1,QdQ ext hf az as' l' h2 q2⟩
end
def FzB(i k:Nat)(es:List (List A))(x y:Blk):Prop:=y=x\/ ∃t cs cs',x=.cells t cs/\y=.cells t cs'/\FzL i k es cs cs'
def FzH(i k:Nat)(es:List (List A)):Qd->Qd->Prop
 |[],h=>h=[]
 |x::r,h=>∃y r',h=y::r'/\FzB i k es x y/\FzH i k es r r'
def QnW(i k:Nat)(es:List (List A))(env:Env):Env->Prop
 |[]=>True
 |(s,a)::r=>FzA i k es (lk env s) a/\QnW i k es env r
theorem FzH.nil{i k:Nat}{es:List (List A)}:FzH i k es [] []:=rfl
theorem FzH.keep{i k:Nat}{es:List (List A)}{x:Blk}{r r':Qd}(h:FzH i k es r r'):FzH i k es (x::r) (x::r'):=⟨x,r',rfl,.inl rfl,h⟩
theorem FzH.cells{i k t:Nat}{es:List (List A)}{cs cs':List A}{r r':Qd}(q:FzL i k es cs cs')(h:FzH i k es r r'):FzH i k es (.cells t cs::r) (.cells t cs'::r'):=⟨_,r',rfl,.inr ⟨t,cs,cs',rfl,rfl,q⟩,h⟩
theorem FzH.get{i k:Nat}{es:List (List A)}:∀{H H':Qd},FzH i k es H H'->∀(j:Nat) (y:Blk),H'[j]?=some y->∃x,H[j]?=some x/\FzB i k es x y
 |[],_,h,j,y,q=>by obtain rfl:_=[]:=h;simp at q
 |x::r,_,h,j,y,q=>by
  obtain⟨y',r',rfl,h1,h2⟩:=h;cases j with
  |zero=>simp at q;subst q;exact⟨x,rfl,h1⟩
  |succ j=>simp at q;obtain⟨x',p1,p2⟩:=h2.get j y q;exact⟨x',by simpa using p1,p2⟩
theorem FzH.len{i k:Nat}{es:List (List A)}:∀{H H':Qd},FzH i k es H H'->H'.length=H.length
 |[],_,h=>by obtain rfl:_=[]:=h;rfl
 |x::r,_,h=>by obtain⟨y',r',rfl,h1,h2⟩:=h;simp[h2.len]
theorem FzB.live{i k:Nat}{es:List (List A)}{x y:Blk}(h:FzB i k es x y):y.live=x.live:=by
 rcases h with rfl|⟨t,b,a,rfl,rfl,_⟩<;>rfl
theorem Jh{env:Env}{H H':Qd}{h0 i k t:Nat}{es:List (List A)}(ov:Env)(hi:Nat.ble h0 i=true)(hH:H[i]?=some (.row t k es))(V:QnW i k es env ov)(F:FzH i k es (H.set i .dead) H'):Le h0 env H (ov++env) H':=by
 intro fr P σ N a w r
 let ro':Nat->Prop:=λb=>P b\/σ[i]?=some (some b)
 have u:∀b,σ[i]?=some (some b)->b<w.heap.size/\ ¬P b/\ ¬fr b:=λb h=>r.sim.own i b _ h hH rfl;have ext:Ext P σ w ro' σ w:=⟨λ_ q=>.inl q,λ_ _=>rfl,λ_ _ q=>q,λ_ _ q=>q⟩;have hf:∀v,VR P σ w (.osl i 0 es.length k) v->VR ro' σ w (.rsl k es) v:=by
  intro v h;rcases h with⟨h0,h⟩|⟨b,p,G,t',m,g,h,n,B,h4,Y⟩
  .have:es=[]:=VN.1 h0;subst this;exact⟨none,0,h,XX _,.inl rfl⟩
  .refine⟨_,G,h,B,?_⟩;by_cases he:es=[]
   .exact .inl he
   .right;have hc:0<G:=Vj (List.length_pos_iff.2 he) B;obtain rfl:=n hc;obtain⟨l,R,T⟩:=r.sim.blk i _ _ g hH;refine⟨b,0,by simp,.inr g,?_⟩;have:=YV (pre:=[]) (by simpa using R) T;exact this.keep ⟨λ_ q=>.inl q,λ_ _=>rfl,λ_ _ q=>q,λ_ _ q=>q⟩ rfl
 have f:∀(j:Nat) (y:Blk),H'[j]?=some y->y≠ .dead->j≠i/\ ∃x,H[j]?=some x/\FzB i k es x y:=by
  intro j y h O;obtain⟨x,g,n⟩:=F.get j y h;by_cases e:j=i
  .subst e;rw[Xb]at g;simp only[if_true]at g;split at g
   .cases g;rcases n with rfl|⟨_,_,_,q,_,_⟩
    .exact absurd rfl O
    .cases q
   .simp at g
  .rw[XT (λq=>e q.symm)]at g;exact⟨e,x,g,n⟩
 refine⟨ro',σ,⟨⟨by rw[F.len,X8];exact r.sim.len,r.sim.roOk.to (λ_ q=>.inl q) (λ_ _=>rfl) ?_,r.sim.frLt,?_,?_,?_,?_,r.sim.hidTo (· = ·) QY (XX _) (λj b x c R T q3 q4=>q4.elim id λq=>((r.sim.hid j b x c R T q3).ne i c _ q hH rfl rfl).elim) (λ_ _ _ _ _ _ _ q=>q) λj d y W g2 g3=>.inl ?_⟩,?_,r.size,r.defers⟩,λ_ q=>.inl q,rfl⟩
 rotate_left 5
 .obtain⟨_,x,g4,g5⟩:=f j y g2 (QeC g3);exact⟨j,x,rfl,W,g4,λz=>by rw[<- g5.live];exact z,λc q=>by rcases g5 with rfl|⟨t,cs,M,rfl,rfl,_⟩;exact q;exact q.elim⟩
 rotate_left 1
 .rintro b (q|q)
  .exact r.sim.roLt b q
  .exact(u b q).1
 .rintro b (q|q)
  .exact r.sim.roFr b q
  .exact(u b q).2.2
 .intro j b v g n B;obtain⟨e,x,n,J⟩:=f j v n (Qav B);have hx:x.live=true:=by rw[<- J.live];exact B
  obtain⟨L,E,p3⟩:=r.sim.own j b x g n hx;refine⟨L,?_,p3⟩;rintro(q|q)
  .exact E q
  .exact e (r.sim.inj j i b x _ g q n hH hx rfl)
 .intro j j' b v v' g n B h4 Y h6;obtain⟨_,x,L,E⟩:=f j v B (Qav Y);obtain⟨_,x',Q,X⟩:=f j' v' h4 (Qav h6);exact r.sim.inj j j' b x x' g n L Q (by rw[<- E.live];exact Y) (by rw[<- X.live];exact h6)
 .intro j s v g n;by_cases O:v≠ .dead
  .obtain⟨_,x,L,E⟩:=f j v n O;have J:=r.sim.blk j s x g L;rcases E with rfl|⟨t,cs,M,rfl,rfl,q⟩
   .exact J.keep ext (λ_ _ _=>rfl) (λ_ _ _ _=>rfl)
   .cases s with
    |none=>exact J.elim
    |some b=>
     obtain⟨l,e1,e2,e3⟩:=J;exact⟨l,e1,QdQ ext hf cs M l q e2,e3⟩
  .obtain rfl:v=.dead:=Classical.not_not.1 O;trivial
 .intro s
  induction ov with
  |nil=>exact(r.env s).mono ext
  |cons p ov ih=>
   obtain⟨s1,a1⟩:=p;obtain⟨W,g2⟩:=V;simp only[VO,lk];cases q:Nat.beq s s1 with
   |true=>
    obtain rfl:=XU q;exact Qkb ext hf _ _ _ W (r.env s)
   |false=>exact ih g2
theorem QnW.nil{i k:Nat}{es:List (List A)}{env:Env}:QnW i k es env []:=trivial
theorem QnW.cons{i k s:Nat}{es:List (List A)}{env:Env}{a b:A}{r:Env}(h:lk env s=a)(q:FzA i k es a b)(g:QnW i k es env r):QnW i k es env ((s,b)::r):=⟨h▸q,g⟩
def Qdf(P:Program)(env:Env)(H:Qd)(l:ResultVar)(x:A):Prop:=
 ∀fr ro σ N a w,Rel fr ro σ H env N a w->∃v,((match l with
  |.tmp t=>pure (a.tmps.getD t undef)
  |.cell b t=>do loadVar t (<- asAddr (a.tmps.getD b undef)):Sem Value)).run P w=.ok v w/\VR ro σ w x v
def QjX(P:Program)(env:Env)(H:Qd):List ResultVar->List A->Prop
 |[],xs=>xs=[]
 |l::ls,xs=>∃x xs',xs=x::xs'/\Qdf P env H l x/\QjX P env H ls xs'
section
variable {P:Program} {fn:Func} {env:Env} {H:Qd}
theorem Qdf.tmp{t:Nat}{x:A}(b:lk env t=x:=by exact rfl):Qdf P env H (.tmp t) x:=
 λfr ro σ N a w r=>⟨a.tmps.getD t undef,rfl,b▸r.env t⟩
theorem Qdf.cell{b t:Nat}{p x:A}{cs:List A}(g:∀w,(isAgg t).run P w=.ok false w)(f:Pts H p (x::cs))(l:lk env b=p:=by exact rfl):Qdf P env H (.cell b t) x:=by
 intro e m σ N a w r;have d:=r.env b;rw[l]at d;obtain⟨n,k,i,⟨y,h,_,j⟩,_⟩:=f e m σ w _ r.sim d;refine⟨y,?_,j⟩;simp only[i];simp[asAddr,loadVar,g,Go.load,Sem.run,h,go_sem]
theorem Qee{b t n:Nat}{p:A}{cs:List A}(h:∀w,(isAgg t).run P w=.ok true w)(k:∀w,(sizeOf t).run P w=.ok n w)(g:Pts H p cs)(m:lk env b=p:=by exact rfl)(hl:(cs.take n).length=n:=by exact rfl):
  Qdf P env H (.cell b t) (.agg (cs.take n)):=by
 intro f s σ N a w r;have e:=r.env b;rw[m]at e;obtain⟨u,off,j,i⟩:=g f s σ w _ r.sim e;obtain⟨l,q,_,d⟩:=YE (P:=P) (cs:=cs.take n) (off:=off) 0 (by simpa using i.take n);have d:=d w #[] rfl;rw[hl]at d;refine⟨.agg l.toArray,?_,l,rfl,q⟩;simp only[j];simp[asAddr,loadVar,h,k,loadCells,d,go_sem]
theorem Ql{b t n i T:Nat}{cs:List A}(d:∀w,(isAgg t).run P w=.ok true w)(a:∀w,(sizeOf t).run P w=.ok n w)(e:lk env b=.ptr i 0)(hH:H[i]?=some (.cells T cs))(hl:cs.length=n):
  Qdf P env H (.cell b t) (.agg cs):=by
 have:=Qee (b:=b) (p:=.ptr i 0) d a (Pts.cells (off:=0) hH rfl) e (by subst hl;simp);subst hl;simpa using this
theorem Qap{b t i T:Nat}{x:A}(ha:∀w,(isAgg t).run P w=.ok false w)(hx:lk env b=.ptr i 0)(hH:H[i]?=some (.cells T [x])):Qdf P env H (.cell b t) x:=
 Qdf.cell (p:=.ptr i 0) (cs:=[]) ha (Pts.cells (off:=0) hH rfl) hx
theorem QjX.nil:QjX P env H [] []:=rfl
theorem QjX.cons{l:ResultVar}{ls:List ResultVar}{x:A}{xs:List A}(h:Qdf P env H l x)(k:QjX P env H ls xs):QjX P env H (l::ls) (x::xs):=⟨x,xs,rfl,h,k⟩
theorem QjX.run{fr ro:Nat->Prop}{σ:Sig}{N:Nat}{a:Act}{w:World}(r:Rel fr ro σ H env N a w):∀{ls:List ResultVar} {xs:List A},QjX P env H ls xs->
  ∃vs:List Value,(ls.mapM λl=>(match l with
   |.tmp t=>pure (a.tmps.getD t undef)
   |.cell b t=>do loadVar t (<- asAddr (a.tmps.getD b undef)):Sem Value)).run P w=.ok vs w/\LR ro σ w xs vs
 |[],_,h=>by obtain rfl:_=[]:=h;exact⟨[],rfl,rfl⟩
 |l::ls,_,h=>by
  obtain⟨x,xs,rfl,h1,h2⟩:=h;obtain⟨v,e1,e2⟩:=h1 fr ro σ N a w r;obtain⟨vs,e3,e4⟩:=QjX.run r h2;refine⟨v::vs,?_,v,vs,rfl,e2,e4⟩;rw[List.mapM_cons];simp only[Vr,e1,Result.andThen,e3,Vs]
theorem Qs{ls:List ResultVar}{xs:List A}(h:fn.results=ls.toArray)(e:Nat.beq ls.length 1=false)(k:QjX P env H ls xs):Qcr P fn env H (.tup xs):=by
 intro m n σ N a w r;obtain⟨vs,j,d⟩:=k.run r;have b:¬vs.length=1:=by
  have:∀{ls:List ResultVar} {xs:List A},QjX P env H ls xs->xs.length=ls.length:=by
   intro ls
   induction ls with
   |nil=>intro xs h;obtain rfl:xs=[]:=h;rfl
   |cons l ls g=>intro xs h;obtain⟨x,f,rfl,_,i⟩:=h;simp[g i]
  rw[d.length,this k];intro q;rw[q]at e;cases e
 refine⟨.tuple vs.toArray,?_,vs,rfl,d⟩;unfold results;rw[h];rw[List.mapM_toArray,Vr,Sem.run_map]
 erw [j]
 simp[Result.andThen,b,Vs]
theorem YG{l:ResultVar}{x:A}(h:fn.results= #[l])(k:Qdf P env H l x):Qcr P fn env H x:=by
 intro f e σ N a w r;obtain⟨vs,d,b⟩:=(QjX.cons k QjX.nil).run r;obtain⟨v,_,rfl,b,rfl⟩:=b;refine⟨v,?_,b⟩;unfold results;rw[h,show #[l]=[l].toArray from rfl];rw[List.mapM_toArray,Vr,Sem.run_map]
 erw [d]
 rfl
end
end Go.Sw
namespace Go.Sw
mutual
def QbQ:A->Bool
 |.bool _=>true
 |.int _ _=>true
 |.str _=>true
 |.agg cs=>QeL cs
 |_=>false
def QeL:List A->Bool
 |[]=>true
 |a::r=>QbQ a&&QeL r
end
mutual
def QJ:A->Value
 |.bool b=>.bool b
 |.int k n=>.int k n
 |.str s=>.string ⟨s.toArray⟩
 |.agg cs=>.agg (YS cs).toArray
 |_=>.bool false
def YS:List A->List Value
 |[]=>[]
 |a::r=>QJ a::YS r
end
mutual
theorem VR.val{ro:Nat->Prop}{σ:Sig}{w:World}:∀{a:A} {v:Value},QbQ a=true->VR ro σ w a v->v=QJ a
 |.bool _,_,_,h=>h
 |.int _ _,_,_,h=>h
 |.str _,_,_,h=>h
 |.agg cs,v,hs,h=>by
  obtain⟨l,rfl,h⟩:=h;rw[QJ,LR.val hs h]
theorem LR.val{ro:Nat->Prop}{σ:Sig}{w:World}:∀{az:List A} {l:List Value},QeL az=true->LR ro σ w az l->l=YS az
 |[],l,_,h=>h
 |a::r,l,hs,h=>by
  obtain⟨v,l',rfl,h1,h2⟩:=h;simp only[QeL,X0]at hs;rw[YS,VR.val hs.1 h1,LR.val hs.2 h2]
end
mutual
theorem Qb1{ro:Nat->Prop}{σ:Sig}{w:World}:∀{a:A},QbQ a=true->VR ro σ w a (QJ a)
 |.bool _,_=>rfl
 |.int _ _,_=>rfl
 |.str _,_=>rfl
 |.agg cs,hs=>⟨YS cs,rfl,QfV hs⟩
theorem QfV{ro:Nat->Prop}{σ:Sig}{w:World}:∀{az:List A},QeL az=true->LR ro σ w az (YS az)
 |[],_=>rfl
 |a::r,hs=>by
  simp only[QeL,X0]at hs;exact⟨_,_,rfl,Qb1 hs.1,QfV hs.2⟩
end
end Go.Sw
namespace Go.Sw
open Go.MapKept
structure Y0 (P:Program) (kt:TypeId) {α:Type} (ek:α->A):Prop where
 scl:∀x,QbQ (ek x)=true
 inj:∀x y,QJ (ek x)=QJ (ek y)->x=y
 check:∀(w:World) em x,(Instr.checkKey em 10000 kt (QJ (ek x))).run P w=.ok () w
 find:∀(w:World) x (es:List MapEntry),(∀e∈es,∃y,e.key=QJ (ek y))->
  ((Instr.findKey kt (QJ (ek x)) es).run P w=.ok none w/\ ∀e∈es,e.key≠QJ (ek x))\/ ∃j e,(Instr.findKey kt (QJ (ek x)) es).run P w=.ok (some (j,e.val)) w/\es[j]?=some e/\e.key=QJ (ek x)
 stays:∀(w:World) x,(Instr.keyThatStays (QJ (ek x)) (QJ (ek x))).run P w=.ok (QJ (ek x)) w
section
variable {P:Program} {kt:TypeId}
theorem Y0.plain{α:Type}{ek:α->A}{d:TypeDesc}(b:P.underlying kt=some d)(a:∀x,IsKey d (QJ (ek x)))(q:∀x,QbQ (ek x)=true)(hi:∀x y,QJ (ek x)=QJ (ek y)->x=y):Y0 P kt ek:=by
 refine⟨q,hi,λw r x=>run_checkKey b (a x) r 9999,λw x i g=>?_,λw x=>run_keyThatStays (a x)⟩
 .have h:∀y∈i,IsKey d y.key:=λy n=>by
   obtain⟨l,p⟩:=g y n;rw[p];exact a l
  rcases findNow_spec (a x) i 0 h with⟨e,f⟩|⟨j,k,e,f,m⟩
  .exact Or.inl ⟨run_findKey b e,f⟩
  .exact Or.inr ⟨j,k,by simpa using run_findKey b e,f,m⟩
theorem Y0.int{q:IntKind}(hk:P.underlying kt=some (.int q)):Y0 P kt (λn=>A.int q n):=
 Y0.plain hk (λx=>by simp[IsKey,QJ]) (λ_=>rfl) (λx y h=>by simpa[QJ]using h)
theorem Y0.str(hk:P.underlying kt=some .string):Y0 P kt A.str:=
 Y0.plain hk (λx=>by simp[IsKey,QJ]) (λ_=>rfl) (λx y h=>by simpa[QJ]using h)
theorem Y0.struct{α:Type}[DecidableEq α]{ek:α->A}{fs:Array Field}(r:P.underlying kt=some (.struct fs))(F:∀x,QbQ (ek x)=true)(hi:∀x y,QJ (ek x)=QJ (ek y)->x=y)
  (s:∀(w:World) em x,(Instr.checkKey em 10000 kt (QJ (ek x))).run P w=.ok () w)
  (he:∀(w:World) x y,(Op.equal kt (QJ (ek x)) (QJ (ek y))).run P w=.ok (decide (x=y)) w)(u:∀x,Instr.sameBits 10000 (QJ (ek x)) (QJ (ek x))=true):Y0 P kt ek:=by
 refine⟨F,hi,s,λw x a n=>?_,λw x=>by simp[Instr.keyThatStays,u x]⟩
 .have d:∀(a:List MapEntry) (i:Nat),(∀e∈a,∃y,e.key=QJ (ek y))->
    ((Instr.findAsking kt (QJ (ek x)) a i).run P w=.ok none w/\ ∀e∈a,e.key≠QJ (ek x))\/
    ∃j e,(Instr.findAsking kt (QJ (ek x)) a i).run P w=.ok (some (i+j,e.val)) w/\a[j]?=some e/\e.key=QJ (ek x):=by
   intro a
   induction a with
   |nil=>intro i _;exact .inl ⟨by simp[Instr.findAsking],by simp⟩
   |cons e a t=>
    intro i f;obtain⟨y,g⟩:=f e (by simp);have m:=he w x y;by_cases b:x=y
    .subst b;exact .inr ⟨0,e,by simp[Instr.findAsking,g,m],rfl,g⟩
    .rcases t (i+1) (λz h=>f z (by simp[h]))with⟨k,l⟩|⟨j,B,k,l,E⟩
     .refine .inl ⟨by simp[Instr.findAsking,g,m,b,k],λz h=>?_⟩;rcases Va.1 h with rfl|h
      .rw[g];intro q;exact b (hi _ _ q).symm
      .exact l z h
     .exact .inr ⟨j+1,B,by simp[Instr.findAsking,g,m,b,k,Nat.add_assoc,Nat.add_comm 1 j],by simpa using l,E⟩
  cases a with
  |nil=>exact .inl ⟨by simp[Instr.findKey,run_underlying r,Instr.findNow,Result.andThen],by simp⟩
  |cons e a=>
   have H:Instr.findNow (.struct fs) (QJ (ek x)) (e::a) 0=none:=by
    simp only[Instr.findNow];have:∀v p,Instr.sameNow (.struct fs) v p=none:=by intro v p;cases v<;>cases p<;>rfl
    rw[this]
   have G:(Instr.findKey kt (QJ (ek x)) (e::a)).run P w=(Instr.findAsking kt (QJ (ek x)) (e::a) 0).run P w:=by
    simp only[Instr.findKey,Vr,run_underlying r,Result.andThen,H]
   rw[G];simpa using d (e::a) 0 n
def YB{α β:Type}[DecidableEq α](l:List (α×β))(k:α):Option β:=(l.find? λp=>decide (p.1=k)).map (·.2)
def QH{α β:Type}[DecidableEq α](l:List (α×β))(k:α)(v:β):List (α×β):=bif l.any λp=>decide (p.1=k)then l.map λp=>bif decide (p.1=k)then(p.1,v)else p else l++[(k,v)]
def QV{α β:Type}[DecidableEq α](l:List (α×β))(k:α)(z:β):β:=(YB l k).getD z
def QaE{α β:Type}[DecidableEq α](l:List (α×β))(k:α):Bool:=l.any λp=>decide (p.1=k)
def Qj{α β:Type}(ek:α->A)(ev:β->A)(l:List (α×β)):List (A×A):=l.map λp=>(ek p.1,ev p.2)
section
variable {α β:Type} [DecidableEq α] {ek:α->A} {ev:β->A} {ro:Nat->Prop} {σ:Sig} {w:World} (K:Y0 P kt ek)
include K
theorem QhK:∀{l:List (α×β)} {es:List MapEntry},ER ro σ w (Qj ek ev l) es->es.map (·.key)=l.map λp=>QJ (ek p.1)
 |[],es,h=>by cases(show es=[]from h);rfl
 |p::l,es,h=>by
  obtain⟨e,l',rfl,h1,h2,h3⟩:=h;simp only[Vn];rw[VR.val (K.scl _) h1,QhK (l:=l) h3]
theorem QaV{l:List (α×β)}{es:List MapEntry}(h:ER ro σ w (Qj ek ev l) es):∀e∈es,∃y,e.key=QJ (ek y):=by
 intro e b;have:e.key∈es.map (·.key):=VK b;rw[QhK K h]at this;obtain⟨p,_,a⟩:=Xf.1 this;exact⟨p.1,a.symm⟩
theorem ER.find:∀{l:List (α×β)} {es:List MapEntry},ER ro σ w (Qj ek ev l) es->∀(x:α),(es.map (·.key)).Nodup->
  ((∀e:MapEntry,e∈es->e.key≠QJ (ek x))->YB l x=none/\QaE l x=false)/\
  (∀(j:Nat) (e:MapEntry),es[j]?=some e->e.key=QJ (ek x)->QaE l x=true/\ ∃v,YB l x=some v/\VR ro σ w (ev v) e.val)
 |[],es,h,x,_=>by
  cases(show es=[]from h);exact⟨λ_=>⟨rfl,rfl⟩,λj e he=>by simp at he⟩
 |p::l,es,h,x,hn=>by
  obtain⟨e0,l',rfl,h1,h2,h3⟩:=h;have hk:e0.key=QJ (ek p.1):=VR.val (K.scl _) h1;simp only[Vn,List.nodup_cons]at hn;obtain⟨a1,a2⟩:=ER.find (l:=l) h3 x hn.2;by_cases hp:p.1=x
  .subst hp;constructor
   .intro q;exact absurd hk (q e0 (by simp))
   .intro j e he hx;cases j with
    |zero=>
     simp only[XI,Option.some.injEq]at he;subst he;exact⟨by simp[QaE],p.2,by simp[YB],h2⟩
    |succ j=>
     simp only[XJ]at he;exact absurd (hk.trans hx.symm▸VK (f:=λe:MapEntry=>e.key) (VL he)) hn.1
  .have e1:YB (p::l) x=YB l x:=by simp[YB,hp]
   have a:QaE (p::l) x=QaE l x:=by simp[QaE,hp]
   rw[e1,a];constructor
   .intro q;exact a1 λe he=>q e (by simp[he])
   .intro j e he hx;cases j with
    |zero=>
     simp only[XI,Option.some.injEq]at he;subst he;exact absurd (K.inj _ _ (hk.symm.trans hx)) hp
    |succ j=>exact a2 j e (by simpa using he) hx
end
end
end Go.Sw
namespace Go.Sw
open Go.MapKept
section
variable {P:Program} {o:Oper} {env:Env} {H:Qd}
theorem Ya{T:Nat}(b:o.op=.makeMap T none:=by exact rfl):OpH P o env H (.map H.length) (H++[.map []]):=by
 intro e d σ N a w r;refine⟨.map (some w.heap.size),w.alloc (.map #[] 0),d,[some w.heap.size],?_,⟨w.heap.size,?_,rfl⟩,r.sim.alloc ⟨#[],0,Q9 _ _,rfl,by simp,by simp,by simp⟩,Qh.alloc _ r.sim.roLt r.sim.frLt⟩
 .generalize a.eval=ρ at*;simp only[execOp,b,Instr.makeMap,Xl,Vr];rfl
 .rw[<- r.sim.len];simp
section
variable {T kt et:Nat} {α β:Type} [DecidableEq α] {ek:α->A} {ev:β->A} {x y:Operand} {i:Nat} {l:List (α×β)} {k:α} {z0:β} {z:Value}
theorem Qcv(K:Y0 P kt ek){ro:Nat->Prop}{w:World}(m:P.underlying T=some (.map kt et))(u:∀w,(zeroValue et).run P w=.ok z w)(h:ZR (ev z0) z){b a:Nat}{es:Array MapEntry}
  (n:w.heap[b]?=some (.map es a))(he:ER ro [] w (Qj ek ev l) es.toList)(t:(es.toList.map (·.key)).Nodup):
  ∃v,(∀ck,(Instr.lookup T (.map (some b)) (QJ (ek k)) ck).run P w=.ok (if ck then .tuple #[v,.bool (QaE l k)]else v) w)/\VR ro [] w (ev (QV l k z0)) v:=by
 obtain⟨s,r⟩:=ER.find K he k t;rcases K.find w k es.toList (QaV K he)with⟨d,g⟩|⟨j,e,d,g,q⟩
 .obtain⟨f,i⟩:=s g;refine⟨z,λck=>?_,?_⟩
  .simp only[Instr.lookup,Vr,run_underlying m,Result.andThen,MapKept.run_getObj_map n,Vs,K.check,d,u,i]
  .rw[QV,f];exact h _ _ _
 .obtain⟨f,v,i,p⟩:=r j e g q;refine⟨e.val,λck=>?_,?_⟩
  .simp only[Instr.lookup,Vr,run_underlying m,Result.andThen,MapKept.run_getObj_map n,Vs,K.check,d,f]
  .rw[QV,i];exact p
theorem Y7{zv:β}(K:Y0 P kt ek)(p:some (QV l k z0)=some zv)(B:P.underlying T=some (.map kt et))(s:∀w,(zeroValue et).run P w=.ok z w)(e:ZR (ev z0) z)
  (t:o.op=.lookup T x y false:=by exact rfl)(hx:opA env x=.map i:=by exact rfl)(hH:H[i]?=some (.map (Qj ek ev l)):=by exact rfl)(hy:opA env y=ek k:=by exact rfl):OpV P o env H (ev zv):=by
 obtain rfl:=X4 p;intro M O σ N a w r;have f:=Qg r x;rw[hx]at f;obtain⟨b,J,F⟩:=f;have g:=Qg r y;rw[hy]at g;have E:=VR.val (K.scl _) g;obtain⟨R,d,m,n,L,Q,h⟩:=r.sim.blk i _ _ J hH;obtain⟨v,G,u⟩:=Qcv (T:=T) (z0:=z0) (k:=k) K B s e m n h;refine⟨v,?_,u.mono ⟨λ_ q=>q,λ_ _=>rfl,λ_ _ q=>q,λj c q=>by simp at q⟩⟩;have:=G false;simp only[execOp,t,F,E,Vr,this,Result.andThen];rfl
theorem QbE{zv:β}(K:Y0 P kt ek)(p:some (QV l k z0)=some zv)(B:P.underlying T=some (.map kt et))(s:∀w,(zeroValue et).run P w=.ok z w)(e:ZR (ev z0) z)
  (t:o.op=.lookup T x y true:=by exact rfl)(hx:opA env x=.map i:=by exact rfl)(hH:H[i]?=some (.map (Qj ek ev l)):=by exact rfl)(hy:opA env y=ek k:=by exact rfl):OpV P o env H (.tup [ev zv,.bool (QaE l k)]):=by
 obtain rfl:=X4 p;intro M O σ N a w r;have f:=Qg r x;rw[hx]at f;obtain⟨b,J,F⟩:=f;have g:=Qg r y;rw[hy]at g;have E:=VR.val (K.scl _) g;obtain⟨R,d,m,n,L,Q,h⟩:=r.sim.blk i _ _ J hH;obtain⟨v,G,u⟩:=Qcv (T:=T) (z0:=z0) (k:=k) K B s e m n h;refine⟨.tuple #[v,.bool (QaE l k)],?_,[v,.bool (QaE l k)],rfl,v,_,rfl,u.mono ⟨λ_ q=>q,λ_ _=>rfl,λ_ _ q=>q,λj c q=>by simp at q⟩,_,_,rfl,rfl,rfl⟩;have:=G true;simp only[execOp,t,F,E,Vr,this,Result.andThen];rfl
theorem QlO{zv:β}(K:Y0 P kt ek)(p:some (QV l k z0)=some zv)(B:P.underlying T=some (.map kt et))(s:∀w,(zeroValue et).run P w=.ok z w)(e:ZR (ev z0) z)
  (t:o.op=.lookup T x y false:=by exact rfl)(hx:opA env x=.map i:=by exact rfl)(hH:H[i]?=some (.fmap (Qj ek ev l)):=by exact rfl)(hy:opA env y=ek k:=by exact rfl):OpV P o env H (ev zv):=by
 obtain rfl:=X4 p;intro M O σ N a w r;have f:=Qg r x;rw[hx]at f;obtain⟨b,J,F⟩:=f;have g:=Qg r y;rw[hy]at g;have E:=VR.val (K.scl _) g;obtain⟨_,R,d,m,n,L,Q,h⟩:=r.sim.blk i _ _ J hH;obtain⟨v,G,u⟩:=Qcv (T:=T) (z0:=z0) (k:=k) K B s e m n h;refine⟨v,?_,u.mono ⟨λ_ q=>q,λ_ _=>rfl,λ_ _ q=>q,λj c q=>by simp at q⟩⟩;have:=G false;simp only[execOp,t,F,E,Vr,this,Result.andThen];rfl
theorem ER.append{ro:Nat->Prop}{σ:Sig}{w:World}:∀{l m:List (A×A)} {es fs:List MapEntry},ER ro σ w l es->ER ro σ w m fs->ER ro σ w (l++m) (es++fs)
 |[],m,es,fs,h,k=>by cases(show es=[]from h);exact k
 |p::l,m,es,fs,h,k=>by
  obtain⟨e,l',rfl,h1,h2,h3⟩:=h;exact⟨e,l'++fs,rfl,h1,h2,ER.append h3 k⟩
theorem ER.put(K:Y0 P kt ek){ro:Nat->Prop}{w w':World}{v:β}{val:Value}(a:Ext ro [] w ro [] w')(b:VR ro [] w (ev v) val):∀{l:List (α×β)} {es:List MapEntry} {j:Nat} {e:MapEntry},ER ro [] w (Qj ek ev l) es->
  (es.map (·.key)).Nodup->es[j]?=some e->e.key=QJ (ek k)->
  ER ro [] w' (Qj ek ev (l.map λp=>bif decide (p.1=k)then(p.1,v)else p)) (es.modify j λe=>{e with key:=QJ (ek k),val:=val})
 |[],es,j,e,h,hn,he,hk=>by cases(show es=[]from h);simp at he
 |p::l,es,j,e,h,hn,he,hk=>by
  obtain⟨e0,l',rfl,h1,h2,h3⟩:=h;have hk0:e0.key=QJ (ek p.1):=VR.val (K.scl _) h1;simp only[Vn,List.nodup_cons]at hn;cases j with
  |zero=>
   simp only[XI,Option.some.injEq]at he;subst he;have hp:p.1=k:=K.inj _ _ (hk0.symm.trans hk);simp only[List.modify_zero_cons];have e1:Qj ek ev ((p::l).map λp=>bif decide (p.1=k)then(p.1,v)else p)=(ek p.1,ev v)::Qj ek ev l:=by
    simp only[Qj,Vn,hp,decide_true,Vt,List.map_map,List.cons.injEq,true_and];apply List.map_congr_left;intro q d;have:q.1≠k:=by
     intro e;refine hn.1 ?_;rw[QhK K h3];exact Xf.2 ⟨q,d,by rw[e, <- hp,hk0]⟩
    simp[this]
   rw[e1];refine⟨_,l',rfl,?_,b.mono a,h3.mono a⟩;show VR ro [] w' (ek p.1) (QJ (ek k));rw[<- hp];exact Qb1 (K.scl _)
  |succ j=>
   simp only[XJ]at he;have hp:p.1≠k:=by
    intro q;refine hn.1 (Xf.2 ⟨e,VL he,?_⟩);rw[hk,hk0,q]
   simp only[List.modify_succ_cons];have e1:Qj ek ev ((p::l).map λp=>bif decide (p.1=k)then(p.1,v)else p)=(ek p.1,ev p.2)::Qj ek ev (l.map λp=>bif decide (p.1=k)then(p.1,v)else p):=by
    simp[Qj,hp]
   rw[e1];exact⟨_,_,rfl,h1.mono a,h2.mono a,ER.put K a b h3 hn.2 he hk⟩
theorem Q7{m:List (α×β)}(K:Y0 P kt ek){v:β}{zz:Operand}(hm:some (QH l k v)=some m)(G:Yn (ev v)=true)(hT:P.underlying T=some (.map kt et))
  (ho:o.op=.mapUpdate T x y zz:=by exact rfl)(hx:opA env x=.map i:=by exact rfl)(hH:H[i]?=some (.map (Qj ek ev l)):=by exact rfl)(M:opA env y=ek k:=by exact rfl)(hv:opA env zz=ev v:=by exact rfl):
  OpU P o env H (H.set i (.map (Qj ek ev m))):=by
 obtain rfl:=X4 hm;intro fr ro σ N a w r;have h1:=Qg r x;rw[hx]at h1;obtain⟨b,q1,q2⟩:=h1;have h2:=Qg r y;rw[M]at h2;have h3:=VR.val (K.scl _) h2;have h4:=Qg r zz;rw[hv]at h4;have O:VR ro [] w (ev v) (a.eval zz):=VR.data G h4;obtain⟨z,s,Q,V,p3,p4,X⟩:=r.sim.blk i _ _ q1 hH;obtain⟨f1,f2⟩:=ER.find K V k X;have R:∀(obj:Obj) y,w.shape? b=some y->({w with heap:=w.heap.setIfInBounds b obj}:World).shape? b=some y:=by
  intro obj y M;unfold World.shape? at M;rw[Q]at M;simp at M
 rcases K.find w k z.toList (QaV K V)with⟨g1,L⟩|⟨j,e,g1,L,W⟩
 .obtain⟨u1,u2⟩:=f1 L;have hl:QH l k v=l++[(k,v)]:=by
   unfold QH;rw[show(l.any λp=>decide (p.1=k))=false from u2];rfl
  have g:=r.sim.set (x':=.map (Qj ek ev (QH l k v))) (obj:=.map (z.push {key:=QJ (ek k),val:=a.eval zz,born:=s}) (s+1)) q1 hH rfl (R _)
   (λe B=>⟨_,_,B,by
    rw[hl,Qj,Xg,Array.toList_push];exact(V.mono ⟨e.sub,e.keep,e.shape,λ_ _ q=>q⟩).append ⟨_,_,rfl,Qb1 (K.scl _),O.mono ⟨e.sub,e.keep,e.shape,λ_ _ q=>q⟩,rfl⟩,by
    rw[Array.toList_push];intro e B;rcases VH.1 B with q|q
    .exact Nat.lt_succ_of_lt (p3 e q)
    .simp at q;subst q;exact Xo _,by
    rw[Array.toList_push,Xg];refine List.nodup_append.2 ⟨p4,by simp,?_⟩;intro c Y d G;simp at G;subst G;obtain⟨e,B,rfl⟩:=Xf.1 Y;exact Nat.ne_of_lt (p3 e B),by
    rw[Array.toList_push,Xg];refine List.nodup_append.2 ⟨X,by simp,?_⟩;intro c Y d G;simp at G;subst G;obtain⟨e,B,rfl⟩:=Xf.1 Y;exact L e B⟩)
  refine⟨_,ro,[],?_,by simpa using g.1,g.2⟩;simp only[execOp,ho,q2,h3,Vr,Instr.mapUpdate,run_underlying hT,Result.andThen,MapKept.run_getObj_map Q,K.check,g1,MapKept.run_setObj_map _ Q];rfl
 .obtain⟨u1,u2⟩:=f2 j e L W;have hl:QH l k v=l.map λp=>bif decide (p.1=k)then(p.1,v)else p:=by
   unfold QH;rw[show(l.any λp=>decide (p.1=k))=true from u1];rfl
  have hj:z[j]?=some e:=by rw[<- L];simp
  have t:(z.modify j λe=>{e with key:=QJ (ek k),val:=a.eval zz}).toList=z.toList.modify j λe=>{e with key:=QJ (ek k),val:=a.eval zz}:=by simp
  have u:∀{γ:Type} (f:MapEntry->γ),(∀F,z.toList[j]?=some F->f {F with key:=QJ (ek k),val:=a.eval zz}=f F)->(z.toList.modify j λe=>{e with key:=QJ (ek k),val:=a.eval zz}).map f=z.toList.map f:=by
   intro γ f hf;apply List.ext_getElem?;intro n;rw[Xq,Xq,List.getElem?_modify];by_cases hn:j=n
   .subst hn;cases q:z.toList[j]? with
    |none=>rfl
    |some F=>simp[hf F q]
   .simp[hn]
  have g:=r.sim.set (x':=.map (Qj ek ev (QH l k v))) (obj:=.map (z.modify j λe=>{e with key:=QJ (ek k),val:=a.eval zz}) s) q1 hH rfl (R _)
   (λe0 B=>⟨_,_,B,by
    rw[hl,t];exact ER.put K ⟨e0.sub,e0.keep,e0.shape,λ_ _ q=>q⟩ O V X L W,by
    rw[t];intro F E;have:F.born∈(z.toList.modify j λe=>{e with key:=QJ (ek k),val:=a.eval zz}).map (·.born):=VK E;rw[u (·.born) (λ_ _=>rfl)]at this;obtain⟨e2,h,h'⟩:=Xf.1 this;rw[<- h'];exact p3 e2 h,by
    rw[t,u (·.born) (λ_ _=>rfl)];exact p4,by
    rw[t,u (·.key) (λF E=>by rw[L]at E;cases E;exact W.symm)];exact X⟩)
  refine⟨_,ro,[],?_,by simpa using g.1,g.2⟩;have J:=K.stays w k;simp only[execOp,ho,q2,h3,Vr,Instr.mapUpdate,run_underlying hT,Result.andThen,MapKept.run_getObj_map Q,K.check,g1,hj,Xk,Option.getD_some,W,J,MapKept.run_setObj_map _ Q];rfl
theorem ER.length{ro:Nat->Prop}{σ:Sig}{w:World}:∀{l:List (A×A)} {es:List MapEntry},ER ro σ w l es->es.length=l.length
 |[],es,h=>by cases(show es=[]from h);rfl
 |p::l,es,h=>by
  obtain⟨e,l',rfl,_,_,h3⟩:=h;simp[ER.length h3]
theorem QcJ{c:Call}{n:Int}(j:P.underlying T=some (.map kt et))(s:(l.length:Int)=n)(k:o.op=.call c:=by exact rfl)(hc:c={callee:=.builtin .len,args:= #[x],argTypes:= #[T]}:=by exact rfl)
  (hx:opA env x=.map i:=by exact rfl)(hH:H[i]?=some (.map (Qj ek ev l)):=by exact rfl):OpV P o env H (.int .i64 n):=by
 intro B F σ N a w r;have f:=Qg r x;rw[hx]at f;obtain⟨b,u,g⟩:=f;obtain⟨h,d,p,q,y,E,z⟩:=r.sim.blk i _ _ u hH;have t:=q.length;refine⟨.int .i64 n,?_,rfl⟩;have e:goInt h.size=.int .i64 n:=by
  have:h.size=l.length:=by rw[<- Array.length_toList,t];simp[Qj]
  rw[this, <- s];rfl
 subst hc;have m:=g;generalize a.eval=ρ at*;rw[<- e];simp[execOp,k,g,resolve,invoke,Go.builtin,Builtin.len_,run_underlying j,MapKept.run_getObj_map p,go_sem]
end
end
end Go.Sw
namespace Go.Sw
open Go.ChangeMaps (setBlock)
section
variable {P:Program} {o:Oper} {env:Env} {H:Qd} {h0 N:Nat} {Q:QB}
def OpE(P:Program)(o:Oper)(env:Env)(H:Qd)(K:A->Qd->Prop):Prop:=
 ∀fr ro σ N a w,Rel fr ro σ H env N a w->∃x H' v w' ro' τ,K x H'/\(execOp a.eval o).run P w=.ok (.value v) w'/\VR ro' (σ++τ) w' x v/\
  Sim fr ro' (σ++τ) H' w'/\Qh fr ro w ro' w'
theorem QjU{all:Array Oper}{l:List Oper}{d:Nat}{K:A->Qd->Prop}(t:h0<=H.length)(hg:Qp all o env true)(z:o.dst=some d)(y:Nat.blt d N=true)
  (h:OpE P o env H K)(k:∀x H',K x H'->WO P h0 N all l (up env d x) H' Q):WO P h0 N all (o::l) env H Q:=by
 intro m fr E σ a w r hrd;obtain⟨x,H',v,i,b,τ,n,j,u,p,f⟩:=h fr E σ N a w r;refine Qab (YD hg r) j ?_;simp only[z,Act.put];have g:d<N:=by simpa using y
 have B:Rel fr b (σ++τ) H' (up env d x) N {a with tmps:=a.tmps.setIfInBounds d v} i:=
  ⟨p,VR.up (fr:=fr) (λs=>(r.env s).mono (f.ext σ τ)) (by rw[r.size];exact g) u,by simpa using r.size,r.defers.keep f⟩
 refine Yh (λe a w q=>q.step f (Qv ?_)) _ _ _ (k x H' n m fr b (σ++τ) _ i B (hrd.to f λ_ q=>q));rw[r.sim.len];exact t
theorem Sim.shutMap{fr ro:Nat->Prop}{σ:Sig}{w:World}(s:Sim fr ro σ H w){i b:Nat}{es:List (A×A)}(hσ:σ[i]?=some (some b))(hH:H[i]?=some (.map es)):
  Sim fr (λc=>ro c\/c=b) σ (H.set i (.fmap es)) w:=by
 have m:b<w.heap.size/\ ¬ro b/\ ¬fr b:=s.own i b _ hσ hH rfl;have ext:Ext ro σ w (λc=>ro c\/c=b) σ w:=⟨λ_ q=>.inl q,λ_ _=>rfl,λ_ _ q=>q,λ_ _ q=>q⟩;have a:∀(j:Nat) (v:Blk),(H.set i (.fmap es))[j]?=some v->v.live=true->j≠i/\H[j]?=some v:=by
  intro j v h z;by_cases e:j=i
  .subst e;rw[Xb]at h;simp only[if_true]at h;split at h
   .cases h;simp[Blk.live]at z
   .simp at h
  .rw[XT (λq=>e q.symm)]at h;exact⟨e,h⟩
 have g:∀(j:Nat) (v:Blk),(H.set i (.fmap es))[j]?=some v->v.holds=true->H[j]?=some v:=by
  intro j v h z;by_cases e:j=i
  .subst e;rw[Xb]at h;simp only[if_true]at h;split at h
   .cases h;cases z
   .simp at h
  .rw[XT (λq=>e q.symm)]at h;exact h
 refine⟨by rw[X8];exact s.len,s.roOk.to (λ_ q=>.inl q) (λ_ _=>rfl) ?_,s.frLt,?_,?_,?_,?_,s.hidTo (· = ·) QY (XX _) (λj d x c R L J N=>N.elim id λq=>((s.hid j d x c R L J).ne i b _ hσ hH rfl q).elim) (λ_ _ _ _ _ _ _ q=>q) λj d y P Q O=>.inl ⟨j,y,rfl,P,g j y Q O,id,λ_ q=>q⟩⟩
 .rintro c (q|rfl)
  .exact s.roLt c q
  .exact m.1
 .rintro c (q|rfl)
  .exact s.roFr c q
  .exact m.2.2
 .intro j c v k f p;obtain⟨e,f⟩:=a j v f p;obtain⟨u,r,t⟩:=s.own j c v k f p;refine⟨u,?_,t⟩;rintro(q|rfl)
  .exact r q
  .exact e (s.inj j i c v _ k hσ f hH p rfl)
 .intro j G c v E k f p M F B;exact s.inj j G c v E k f (a j v p F).2 (a G E M B).2 F B
 .intro j y v k f;by_cases e:j=i
  .subst e;rw[hσ]at k;cases k;rw[Xb]at f;simp only[if_true]at f;split at f
   .cases f;obtain⟨l,n,u,r,t⟩:=s.blk j _ _ hσ hH;exact⟨.inr rfl,l,n,u,r.mono ext.nil,t⟩
   .simp at f
  .rw[XT (λq=>e q.symm)]at f;exact(s.blk j y v k f).keep ext (λ_ _ _=>rfl) (λ_ _ _ _=>rfl)
section
variable {T kt et i:Nat} {x:Operand} {es:List (A×A)}
theorem QfR(q:P.underlying T=some (.map kt et))(t:o.op=.range T x:=by exact rfl)(hx:opA env x=.map i:=by exact rfl)(hH:H[i]?=some (.fmap es):=by exact rfl):
  OpH P o env H (.ptr H.length 0) (H++[.iter none es]):=by
 intro s j σ N a w r;have k:=Qg r x;rw[hx]at k;obtain⟨b,n,y⟩:=k;obtain⟨g,l,d,m,z,p,u,E⟩:=r.sim.blk i _ _ n hH;have B:=r.sim.roLt b g;have f:Qh s j w j (w.alloc (.mapIter (some b) d #[] d)):=Qh.alloc _ r.sim.roLt r.sim.frLt;have ext0:Ext j [] w j [] (w.alloc (.mapIter (some b) d #[] d)):=f.ext0 [];refine⟨.pointer (some ⟨w.heap.size,0,none⟩),w.alloc (.mapIter (some b) d #[] d),_,[some w.heap.size],?_,⟨w.heap.size,?_,rfl⟩,
  r.sim.alloc (.inr ⟨b,l,d, #[],l.toList,Q9 _ _,g,by rw[Yd _ _ _ B];exact m,p,u,?_,z.mono ext0,λ_ h=>by cases h⟩),f⟩
 .generalize a.eval=ρ at*;simp only[execOp,t,y,Instr.range,Vr,run_underlying q,Result.andThen,MapKept.run_getObj_map m];rfl
 .rw[<- r.sim.len];simp
 .have:l.toList.filter (λe=> !(#[]:Array Nat).contains e.born)=l.toList:=by rw[List.filter_eq_self];intro e _;simp
  rw[this]
theorem ER.mem{ro:Nat->Prop}{σ:Sig}{w:World}:∀{es:List (A×A)} {l:List MapEntry},ER ro σ w es l->∀e∈l,∃x es' l',(x::es').Perm es/\(e::l').Perm l/\VR ro σ w x.1 e.key/\VR ro σ w x.2 e.val/\ER ro σ w es' l'
 |[],l,h,e,he=>by cases(show l=[]from h);cases he
 |y::es,l,h,e,he=>by
  obtain⟨e0,l',rfl,h1,h2,h3⟩:=h;rcases Va.1 he with rfl|he
  .exact⟨y,es,l',.refl _,.refl _,h1,h2,h3⟩
  .obtain⟨x,es',l'',p1,p2,v1,v2,h4⟩:=ER.mem h3 e he;exact⟨x,y::es',e0::l'',(List.Perm.swap _ _ _).trans (p1.cons _),(List.Perm.swap _ _ _).trans (p2.cons _),v1,v2,⟨e0,l'',rfl,h1,h2,h4⟩⟩
theorem QiQ:∀{l:List MapEntry},(l.map (·.born)).Nodup->∀a∈l,∀b∈l,a.born=b.born->a=b
 |[],_,a,ha,_,_,_=>by cases ha
 |c::l,hn,a,ha,b,hb,hab=>by
  simp only[Vn,List.nodup_cons]at hn;rcases Va.1 ha with ea|ha'<;>rcases Va.1 hb with eb|hb'
  .rw[ea,eb]
  .subst ea;exact absurd (Xf.2 ⟨b,hb',hab.symm⟩) hn.1
  .subst eb;exact absurd (Xf.2 ⟨a,ha',hab⟩) hn.1
  .exact QiQ hn.2 a ha' b hb' hab
def NextK(H:Qd)(i:Nat)(cur:Option (A×A))(es:List (A×A))(v:A)(H':Qd):Prop:=
 (es=[]/\v=.tup [.bool false]/\H'=H)\/ ∃e es',(e::es').Perm es/\v=.tup [.bool true,e.1,e.2]/\H'=H.set i (.iter (some e) es')
theorem OpE.next{O:Option (A×A)}(ho:o.op=.next x false:=by exact rfl)(hx:opA env x=.ptr i 0:=by exact rfl)(hH:H[i]?=some (.iter O es):=by exact rfl):
  OpE P o env H (NextK H i O es):=by
 intro fr n σ N a w r;have h1:=Qg r x;rw[hx]at h1;obtain⟨b,q1,q2⟩:=h1;have k:∀(v:Value) (w1:World),w1.heap=w.heap->w1.os=w.os->w1.tape=w.tape->w1.output=w.output->w.drawn<=w1.drawn->Sim fr n (σ++[]) H w1/\Qh fr n w n w1:=by
  intro v w1 V Y e3 e4 e5;exact⟨by simpa using r.sim.heap V,Qh.heap V Y e3 e4 e5⟩
 rcases r.sim.blk i _ _ q1 hH with⟨rfl,rfl,p⟩|⟨m,l,d,f,left,p1,p2,X,p4,p5,p6,p7,p8⟩
 .refine⟨_,_,.tuple #[.bool false],w,n,[],.inl ⟨rfl,rfl,rfl⟩,?_,⟨_,rfl,_,_,rfl,rfl,rfl⟩,k (.bool false) w rfl rfl rfl rfl (XX _)⟩;generalize a.eval=ρ at*;simp only[execOp,ho,q2,Instr.next,Vr,getObj,Sem.run,p,Result.andThen];rfl
 .have s:(leftOf l f).toList=l.toList.filter λe=> !f.contains e.born:=by simp[leftOf]
  have t:left.Perm (leftOf l f).toList:=by rw[s];exact p6
  rcases run_next_at (P:=P) w o.type b m d d f l d p1 X p4 (XX _)with⟨Q,g2⟩|⟨e,Q,w1,g2,g3⟩
  .have ac:left=[]:=by
    have:left.length=0:=by rw[t.length_eq];simpa using Q
    exact VN.1 this
   subst ac;have aa:es=[]:=by
    have:=p7.length;simp only[List.length_nil]at this;exact VN.1 this.symm
   refine⟨_,_,.tuple #[.bool false],w,n,[],.inl ⟨aa,rfl,rfl⟩,?_,⟨_,rfl,_,_,rfl,rfl,rfl⟩,k (.bool false) w rfl rfl rfl rfl (XX _)⟩;generalize a.eval=ρ at*;simp only[execOp,ho,q2,Vr,g2,Result.andThen];rfl
  .have he:e∈left:=t.mem_iff.2 Q;have M:e∈l.toList:=by rw[s]at Q;exact(Xe.1 Q).1
   obtain⟨y,T,J,k1,k2,v1,v2,k3⟩:=p7.mem e he;have g:w1.heap=w.heap/\w1.os=w.os/\w1.tape=w.tape/\w1.output=w.output/\w.drawn<=w1.drawn:=by
    rcases g2 with rfl|rfl
    .exact⟨rfl,rfl,rfl,rfl,XX _⟩
    .exact⟨rfl,rfl,rfl,rfl,Nat.le_succ _⟩
   obtain⟨s1,G⟩:=k (.bool false) w1 g.1 g.2.1 g.2.2.1 g.2.2.2.1 g.2.2.2.2;rw[Vk]at s1;have ae:b≠m:=by
    rintro rfl;rw[p1]at X;cases X
   have E:=s1.set (x':=.iter (some y) T) (obj:=.mapIter (some m) d (f.push e.born) d) q1 hH rfl
    (λz B=>by
     unfold World.shape? at B;rw[g.1,p1]at B;simp at B)
    (λu ab=>.inr ⟨m,l,d,f.push e.born,J,ab,u.sub _ p2,by
      show(w1.heap.setIfInBounds b _)[m]?=_;rw[Vi,Vw ae,g.1];exact X,p4,p5,by
      have af:(l.toList.filter λe=> !f.contains e.born).Nodup:=by
       have:l.toList.Nodup:=List.Pairwise.of_map _ (λa b h q=>h (congrArg _ q)) p5;exact this.filter _
      have hp:(e::J).Perm (l.toList.filter λe=> !f.contains e.born):=k2.trans p6;have R:(e::J).Nodup:=hp.nodup_iff.2 af;have V:(l.toList.filter λF=> !(f.push e.born).contains F.born)=(l.toList.filter λe=> !f.contains e.born).filter λF=> !decide (F.born=e.born):=by
       rw[List.filter_filter];apply List.filter_congr;intro z _;simp[Array.contains_push,Bool.and_comm]
      rw[V];have h2:=hp.filter (λF=> !decide (F.born=e.born));have Y:(e::J).filter (λF=> !decide (F.born=e.born))=J:=by
       rw[List.filter_cons_of_neg (by simp),List.filter_eq_self];intro z B;have ag:z∈l.toList:=(Xe.1 (hp.mem_iff.1 (X9 _ B))).1;simp only[Bool.not_eq_true',decide_eq_false_iff_not];intro hb;have:z=e:=by
        exact QiQ p5 z ag e M hb
       subst this;exact(List.nodup_cons.1 R).1 B
      rw[Y]at h2;exact h2,by
      have W:Ext n [] w n [] w1:=G.ext0 [];exact(k3.mono W).mono ⟨u.sub,u.keep,u.shape,λ_ _ q=>q⟩,by
      intro z B;cases B;have W:Ext n [] w n [] w1:=G.ext0 [];exact⟨e,M,by simp,(v1.mono W).mono ⟨u.sub,u.keep,u.shape,λ_ _ q=>q⟩,(v2.mono W).mono ⟨u.sub,u.keep,u.shape,λ_ _ q=>q⟩⟩⟩)
   have L:=G.trans E.2;have xt:Ext n [] w n [] {w1 with heap:=w1.heap.setIfInBounds b (.mapIter (some m) d (f.push e.born) d)}:=L.ext0 [];refine⟨_,_,.tuple #[.bool true,e.key,e.val],_,n,[],.inr ⟨y,T,k1,rfl,rfl⟩,?_,
    ⟨[.bool true,e.key,e.val],rfl,_,_,rfl,rfl,_,_,rfl,(v1.mono xt).mono ⟨λ_ q=>q,λ_ _=>rfl,λ_ _ q=>q,λj c q=>by simp at q⟩,_,_,rfl,(v2.mono xt).mono ⟨λ_ q=>q,λ_ _=>rfl,λ_ _ q=>q,λj c q=>by simp at q⟩,rfl⟩,by simpa using E.1,L⟩
   generalize a.eval=ρ at*;simp only[execOp,ho,q2,Vr,g3,Result.andThen,setBlock];rfl
theorem OpV.entry{e:A×A}(E:o.op=.entry x:=by exact rfl)(hx:opA env x=.ptr i 0:=by exact rfl)(hH:H[i]?=some (.iter (some e) es):=by exact rfl):OpV P o env H (.tup [e.1,e.2]):=by
 intro Q R σ N a w r;have n:=Qg r x;rw[hx]at n;obtain⟨b,J,u⟩:=n;rcases r.sim.blk i _ _ J hH with⟨_,h,_⟩|⟨m,l,g,k,left,B,L,y,O,z,T,M,s⟩
 .cases h
 .obtain⟨f,G,F,t,p⟩:=s e rfl;refine⟨.tuple #[f.key,f.val],?_,[f.key,f.val],rfl,_,_,rfl,t.mono ⟨λ_ q=>q,λ_ _=>rfl,λ_ _ q=>q,λj c q=>by simp at q⟩,_,_,rfl,p.mono ⟨λ_ q=>q,λ_ _=>rfl,λ_ _ q=>q,λj c q=>by simp at q⟩,rfl⟩;have d:l.find? (·.born==f.born)=some f:=by rw[<- Array.find?_toList];exact find_born f l.toList z G
  generalize a.eval=ρ at*;simp only[execOp,E,u,Instr.entry,getObj,Vr,Sem.run,B,y,Result.andThen,F,bne_self_eq_false,Xj,if_false,d];rfl
end
end
end Go.Sw
namespace Go.Sw
def QeN{S E B:Type}(stepE:S->E->Option (Ctl S B))(stepN:S->Option B):S->List E->Option B
 |s,[]=>stepN s
 |s,e::p=>match stepE s e with
  |some (.cont s')=>QeN stepE stepN s' p
  |some (.done b)=>some b
  |none=>none
def Qbt{E:Type}(x:E):List E->List (List E)
 |[]=>[[x]]
 |y::l=>(x::y::l)::(Qbt x l).map (y:: ·)
def QbT{E:Type}:List E->List (List E)
 |[]=>[[]]
 |x::l=>(QbT l).flatMap (Qbt x)
theorem Qfb{E:Type}(x:E):∀(a b:List E),a++x::b∈Qbt x (a++b)
 |[],[]=>by simp[Qbt]
 |[],y::b=>by simp[Qbt]
 |y::a,b=>by
  simp only[VO,Qbt,Va,Xf];exact .inr ⟨a++x::b,Qfb x a b,rfl⟩
theorem Qdu{E:Type}:∀(l p:List E),p.Perm l->p∈QbT l
 |[],p,h=>by rw[List.perm_nil.1 h];simp[QbT]
 |x::l,p,h=>by
  have hx:x∈p:=h.mem_iff.2 (by simp);obtain⟨a,b,rfl⟩:=List.append_of_mem hx;have h2:(a++b).Perm l:=(List.perm_cons x).1 ((List.perm_middle.symm).trans h);simp only[QbT,List.mem_flatMap];exact⟨a++b,Qdu l _ h2,Qfb x a b⟩
def anyP{E R:Type}[DecidableEq R](k:List E->Option R)(l:List E):Option R:=bif (QbT l).all (λp=>decide (k p=k l))then k l else none
theorem QkM{E R:Type}[DecidableEq R]{k:List E->Option R}{l:List E}{r:R}(h:anyP k l=some r)(p:List E)(a:p.Perm l):k p=some r:=by
 unfold anyP at h;cases q:(QbT l).all (λp=>decide (k p=k l))with
 |true=>
  rw[q]at h;have:=Xu.1 q p (Qdu l p a);rw[Vz this];exact h
 |false=>rw[q]at h;cases h
theorem Qcx{E:Type}:∀(l p:List E),p∈QbT l->p.Perm l
 |[],p,h=>by simp[QbT]at h;rw[h]
 |x::l,p,h=>by
  simp only[QbT,List.mem_flatMap]at h;obtain⟨q,hq,hp⟩:=h;have ins:∀(q p:List E),p∈Qbt x q->p.Perm (x::q):=by
   intro q
   induction q with
   |nil=>intro p hp;simp[Qbt]at hp;rw[hp]
   |cons y q a=>
    intro p hp;simp only[Qbt,Va,Xf]at hp;rcases hp with rfl|⟨z,b,rfl⟩
    .exact .refl _
    .exact((a z b).cons y).trans (List.Perm.swap _ _ _)
  exact(ins q p hp).trans ((Qcx l q hq).cons x)
theorem QkN{E R:Type}[DecidableEq R]{k:List E->Option R}{l:List E}{r:R}(h:∀p,p.Perm l->k p=some r):anyP k l=some r:=by
 unfold anyP;have:(QbT l).all (λp=>decide (k p=k l))=true:=Xu.2 λp a=>by
  rw[h p (Qcx l p a),h l (.refl _)];simp
 rw[this];exact h l (.refl _)
def Qi8{S E B:Type}(stepE:S->E->Option (Ctl S B))(stepN:S->Option B)(G:B->Prop)(s:S)(l:List E):Prop:=∀p,p.Perm l->∃b,QeN stepE stepN s p=some b/\G b
section
variable {P:Program} {o:Oper} {env:Env} {H:Qd} {h0 N:Nat} {Q:QB} {c:Code}
def Qcg(I:Env->Qd->Prop)(Q:QB):QB
 |.normal,env,H=>I env H
 |.exit id,env,H=>Q (.exit id) env H
 |.ret,env,H=>Q .ret env H
theorem QnI{I:Nat->Env->Qd->Prop}(body:∀n env H,I n env H->TC P h0 N c env H (Qcg (λenv H=>∃n',n'<n/\I n' env H) Q)){n:Nat}(z:I n env H):TC P h0 N (.loop c) env H Q:=by
 intro J t u σ a w r hrd b k cs hro hb hr;have E:∀m n env H fr1 ro1 σ1 a1 w1,n<m->I n env H->Rel fr1 ro1 σ1 H env N a1 w1->Qh t u w ro1 w1->σ1.take h0=σ.take h0->Grow t w a.defers fr1 a1.defers->
   ∃e g h,QaQ h0 t u σ w N a.defers Q e g h/\ArrivesIn (Machine.fenced P (WF J)) P (lone (b.atR a1 (.code c::.inLoop c::k)) cs w1) b k cs e g h:=by
  intro m
  induction m with
  |zero=>intro n env H fr1 ro1 σ1 a1 w1 hn;exact absurd hn (Xn _)
  |succ m Y=>
   intro n env H fr1 ro1 σ1 a1 w1 hn z r1 ev1 t1 g1;obtain⟨e,g,h,B,d⟩:=body n env H z J fr1 ro1 σ1 a1 w1 r1 (hrd.to ev1 g1.sub) b (.inLoop c::k) cs hro hb hr;obtain⟨x,f,H',p,σ',j,y,s,G,V,M,W⟩:=B;have l:=ev1.trans (V.frMono g1.sub);have O:=g1.trans ev1.size W;have L:∀x,Q x f H'->ExR e x->QaQ h0 t u σ w N a.defers Q e g h:=λx q X=>⟨x,f,H',p,σ',j,X,q,G,l,M.trans t1,O⟩;cases e with
   |normal=>
    obtain rfl:x=.normal:=y;obtain⟨n',aa,s⟩:=s;obtain⟨R,T,w2,F,i⟩:=Y n' f H' j p σ' g h (by omega) s G l (M.trans t1) O;exact⟨R,T,w2,F,.of_steps (StepsIn.trans d (.one (fenced_calm hb hr rfl) stepR_inLoop)) i⟩
   |exit id=>
    obtain rfl:x=.exit id:=y;exact⟨_,g,h,L _ s rfl,.pass (x:=.inLoop c) rfl (λ_ _=>.inl (by simp)) d⟩
   |ret=>
    obtain rfl:x=.ret:=y;exact⟨_,g,h,L _ s rfl,.pass (x:=.inLoop c) rfl (λ_ _=>.inl (by simp)) d⟩
   |_=>exact y.elim
 obtain⟨e,g,h,B,d⟩:=E (n+1) n env H t u σ a w (Xo _) z r (Qh.refl _ _ _) rfl (Grow.refl _ _ _);exact⟨e,g,h,B,.of_steps (.one (fenced_calm hb hr rfl) stepR_loop) d⟩
section
variable {S E B:Type} {stepE:S->E->Option (Ctl S B)} {stepN:S->Option B} {G:B->Prop} (Es:S->Env) (Hp:S->List (A×A)->Qd) {enc:E->A×A}
def AtP(stepE:S->E->Option (Ctl S B))(stepN:S->Option B)(G:B->Prop)(enc:E->A×A)(h0 n:Nat)(env:Env)(H:Qd):Prop:=
 ∃s l,l.length=n/\Qi8 stepE stepN G s l/\Le h0 env H (Es s) (Hp s (l.map enc))
theorem QnH{s0:S}{l0:List E}(h:Qi8 stepE stepN G s0 l0)(hI:Le h0 env H (Es s0) (Hp s0 (l0.map enc)))
  (body:∀s l,Qi8 stepE stepN G s l->TC P h0 N c (Es s) (Hp s (l.map enc)) (Qcg (λenv H=>∃n',n'<l.length/\AtP Es Hp stepE stepN G enc h0 n' env H) Q)):TC P h0 N (.loop c) env H Q:=
 QnI (I:=AtP Es Hp stepE stepN G enc h0) (λn env H ⟨s,l,hn,ha,hle⟩=>by subst hn;exact TC.le hle (body s l ha)) ⟨s0,l0,rfl,h,hI⟩
theorem Qgi{α β:Type}{f:α->β}:∀{m i:List β},m.Perm i->∀{l:List α},i=l.map f->∃l':List α,l'.Perm l/\l'.map f=m:=by
 intro m i h
 induction h with
 |nil=>intro l d;exact⟨[],by rw[List.map_eq_nil_iff.1 d.symm],rfl⟩
 |cons x _ ih=>
  intro l d;cases l with
  |nil=>cases d
  |cons a l=>
   simp only[Vn,List.cons.injEq]at d;obtain⟨l',e,g⟩:=ih d.2;exact⟨a::l',e.cons _,by simp[g,d.1]⟩
 |swap x y m=>
  intro l d
  match l,d with
  |a::b::l,d=>
   simp only[Vn,List.cons.injEq]at d;exact⟨b::a::l,List.Perm.swap _ _ _,by simp[d.1,d.2.1,d.2.2]⟩
 |trans _ _ ih1 ih2=>
  intro l d;obtain⟨p,e,g⟩:=ih2 d;obtain⟨j,k,n⟩:=ih1 g.symm;exact⟨j,k.trans e,n⟩
theorem QnD{all:Array Oper}{L:List Oper}{d i:Nat}{x:Operand}{t:Option (A×A)}{s:S}{l:List E}(hl:Qi8 stepE stepN G s l)
  (y:∀b,stepN s=some b->G b->WO P h0 N all L (up env d (.tup [.bool false])) H Q)
  (B:∀e l' D,stepE s e=some D->(∀b,D=.done b->G b)->(l'.length<l.length/\ ∀s',D=.cont s'->Qi8 stepE stepN G s' l')->
   WO P h0 N all L (up env d (.tup [.bool true,(enc e).1,(enc e).2])) (H.set i (.iter (some (enc e)) (l'.map enc))) Q)
  (F:o.op=.next x false:=by exact rfl)(hx:opA env x=.ptr i 0:=by exact rfl)(hH:H[i]?=some (.iter t (l.map enc)):=by exact rfl)
  (hg:Qp all o env true:=by exact rfl)(hd:o.dst=some d:=by exact rfl)(hN:Nat.blt d N=true:=by exact rfl)(hh:Nat.ble h0 H.length=true:=by exact rfl):WO P h0 N all (o::L) env H Q:=by
 refine QjU (XV hh) hg hd hN (OpE.next F hx hH) ?_;rintro v H' (⟨n,rfl,rfl⟩|⟨e,z,n,rfl,rfl⟩)
 .have:l=[]:=List.map_eq_nil_iff.1 n;subst this;obtain⟨b,m,h⟩:=hl [] (.refl _);exact y b m h
 .obtain⟨w,m,h⟩:=Qgi n rfl;cases w with
  |nil=>cases h
  |cons a l'=>
   simp only[Vn,List.cons.injEq]at h;obtain⟨rfl,rfl⟩:=h;have j:l'.length<l.length:=by rw[<- m.length_eq];simp
   have f:∀p,p.Perm l'->∃b,QeN stepE stepN s (a::p)=some b/\G b:=λp q=>hl _ ((q.cons a).trans m);cases k:stepE s a with
   |none=>
    obtain⟨b,g,_⟩:=f l' (.refl _);simp[QeN,k]at g
   |some D=>
    refine B a l' D k ?_ ⟨j,?_⟩
    .rintro b rfl;obtain⟨u,g,r⟩:=f l' (.refl _);simp[QeN,k]at g;subst g;exact r
    .rintro s' rfl p q;obtain⟨u,g,r⟩:=f p q;simp[QeN,k]at g;exact⟨u,g,r⟩
theorem QpP{s:S}{l l':List E}{D:Ctl S B}(e:some (Ctl.cont s)=some D)(hc:l'.length<l.length/\ ∀s',D=.cont s'->Qi8 stepE stepN G s' l')(h:Le h0 env H (Es s) (Hp s (l'.map enc))):
  Qcg (λenv H=>∃n',n'<l.length/\AtP Es Hp stepE stepN G enc h0 n' env H) Q .normal env H:=
 ⟨_,hc.1,s,l',rfl,hc.2 _ (X4 e).symm,h⟩
theorem QpO{I:Env->Qd->Prop}{id:Nat}(h:Q (.exit id) env H):Qcg I Q (.exit id) env H:=h
end
def Qph{B:Type}(h0:Nat)(G:B->Prop)(Eb:B->Env)(Hb:B->Qd)(Q:QB):QB
 |.normal,env,H=>∃b,G b/\Le h0 env H (Eb b) (Hb b)
 |.exit id,env,H=>Q (.exit id) env H
 |.ret,env,H=>Q .ret env H
theorem QoM{S E B:Type}{stepE:S->E->Option (Ctl S B)}{stepN:S->Option B}{G:B->Prop}{s0:S}{l0:List E}(hl:Qi8 stepE stepN G s0 l0)(Eb:B->Env)(Hb:B->Qd)
  (h:TC P h0 N c env H (Qph h0 G Eb Hb Q))(k:∀b env H,G b->Le h0 env H (Eb b) (Hb b)->Q .normal env H):TC P h0 N c env H Q:=
 h.mono λx env' H' q=>by
  cases x with
  |normal=>obtain⟨b,e,q⟩:=q;exact k b _ _ e q
  |exit id=>exact q
  |ret=>exact q
theorem cutGN{B:Type}{G:B->Prop}{Eb:B->Env}{Hb:B->Qd}{b:B}(hG:G b)(h:Le h0 env H (Eb b) (Hb b)):Qph h0 G Eb Hb Q .normal env H:=⟨b,hG,h⟩
theorem QgQ{i:Nat}{k:Option (A×A)}{es:List (A×A)}{H':Qd}(hH:H[i]?=some (.iter k es))(j:H.set i (.iter none es)=H'):Le h0 env H env H':=by
 subst j;intro F u σ N a w r;refine⟨u,σ,⟨r.sim.weaken (x':=.iter none es) hH rfl ?_,r.env,r.size,r.defers⟩,λ_ q=>q,rfl⟩;intro y h;cases y with
 |none=>exact h
 |some b=>
  rcases h with⟨f,n,g⟩|⟨m,l,d,e,left,f,n,g,t,p,B,s,E⟩
  .exact .inl ⟨f,rfl,g⟩
  .exact .inr ⟨m,l,d,e,left,f,n,g,t,p,B,s,λx z=>by cases z⟩
end
end Go.Sw
