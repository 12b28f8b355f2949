/- The rules by which the code is walked, with what they rest on (part 1). -/
import Derived.Calls
import Derived.Tactics
import Derived.Below
import Derived.TacticsIn
import Derived.OrdersIn
import Derived.RangeFuncLeaves
import Derived.RangeFuncRecord
import Derived.Laws.Strings
import Derived.Laws.World
import Derived.Orders
import Derived.Maps.Keyed
import Derived.Laws.StructEq
import Derived.Maps.RangeRun
set_option linter.unusedVariables false
set_option linter.unusedSimpArgs false
set_option linter.unusedSectionVars false
namespace Go.Sw
abbrev Xa:= @List.getElem?_set_self
abbrev Xb:= @List.getElem?_set
abbrev Xc:= @List.pairwise_cons
abbrev Xd:= @List.filter_cons
abbrev Xe:= @List.mem_filter
abbrev Xf:= @List.mem_map
abbrev Xg:= @List.map_append
abbrev Xh:= @Bool.not_true
abbrev Xi:= @Bool.not_false
abbrev Xj:= @Bool.false_eq_true
abbrev Xk:= @Option.map_some
abbrev Xl:= @Option.map_none
abbrev Xm:= @Nat.succ_mul
abbrev Xn:= @Nat.not_lt_zero
abbrev Xo:= @Nat.lt_succ_self
abbrev Xp:= @Nat.lt_succ_iff_lt_or_eq
abbrev Xq:= @List.getElem?_map
abbrev Xr:= @List.drop_eq_getElem_cons
abbrev Xs:= @List.drop_eq_nil_iff
abbrev Xt:= @List.drop_length
abbrev Xu:= @List.all_eq_true
abbrev Xv:= @List.any_eq_true
abbrev Xw:= @Nat.sub_zero
abbrev Xx:= @Nat.zero_add
abbrev Xy:= @Nat.add_zero
abbrev Xz:= @List.length_take
abbrev XA:= @List.take_append_drop
abbrev XB:= @Nat.add_mul
abbrev XC:= @Nat.min_eq_left
abbrev XD:= @Nat.mul_le_mul_right
abbrev XE:= @List.foldl_append
abbrev XF:= @List.foldl_cons
abbrev XG:= @List.getElem?_cons_zero
abbrev XH:= @List.getElem?_cons_succ
abbrev XI:= @List.getElem?_toArray
abbrev XJ:= @Sem.run_ite
abbrev XK:= @List.map_toArray
abbrev XL:= @Option.bind_some
abbrev XM:= @List.getElem?_eq_getElem
abbrev XN:= @List.getElem?_eq_some_iff
abbrev XO:= @List.getElem?_append_left
abbrev XP:= @List.getElem?_append_right
abbrev XQ:= @List.getElem?_eq_none
abbrev XR:= @List.getElem?_set_ne
abbrev XS:= @Nat.eq_of_beq_eq_true
abbrev XT:= @Nat.le_of_ble_eq_true
abbrev XU:= @Nat.ble_eq_true_of_le
abbrev XV:= @Nat.le_refl
abbrev XW:= @Nat.zero_le
abbrev XX:= @Nat.le_trans
abbrev XY:= @Bool.and_eq_true
abbrev XZ:= @Bool.or_eq_false_iff
abbrev X0:= @Bool.eq_iff_iff
abbrev X2:= @Option.some.inj
abbrev X3:= @List.length_cons
abbrev X4:= @List.length_map
abbrev X5:= @List.length_append
abbrev X6:= @List.length_set
abbrev X7:= @List.mem_cons_of_mem
abbrev X8:= @List.mem_cons
abbrev X9:= @List.take_append_of_le_length
abbrev Va:= @List.drop_append_of_le_length
abbrev Vb:= @List.take_length
abbrev Vc:= @List.drop_length_add_append
abbrev Vd:= @List.take_length_add_append
abbrev Ve:= @Array.getElem?_eq_some_iff
abbrev Vf:= @List.getElem_mem
abbrev Vg:= @Array.getElem?_setIfInBounds
abbrev Vh:= @Nat.lt_of_lt_of_le
abbrev Vi:= @List.append_nil
abbrev Vj:= @List.nil_append
abbrev Vk:= @List.append_assoc
abbrev Vl:= @List.map_cons
abbrev Vm:= @List.map_nil
abbrev Vn:= @List.flatten_cons
abbrev Vp:= @Sem.run_bind
abbrev Vq:= @Sem.run_pure
abbrev Vr:= @cond_true
abbrev Vs:= @cond_false
abbrev Vt:= @decide_eq_true_eq
abbrev Vu:= @if_neg
abbrev Vv:= @if_pos
abbrev Vw:= @decide_eq_true
abbrev Vx:= @of_decide_eq_true
abbrev Vy:= @of_decide_eq_false
abbrev Vz:= @decide_eq_false
abbrev VA:= @beq_iff_eq
abbrev VB:= @beq_eq_false_iff_ne
abbrev VC:= @Bool.true_and
abbrev VD:= @List.mem_singleton
abbrev VE:= @Nat.lt_or_ge
abbrev VF:= @List.mem_append
abbrev VG:= @List.pairwise_iff_getElem
abbrev VH:= @Nat.beq_refl
abbrev VI:= @List.mem_map_of_mem
abbrev VJ:= @List.mem_of_getElem?
abbrev VK:= @List.take_of_length_le
abbrev VL:= @List.length_eq_zero_iff
abbrev VM:= @List.cons_append
abbrev VN:= @List.getD_eq_getElem?_getD
abbrev VO:= @Bool.eq_false_iff
abbrev VP:= @List.length_filter_le
def Qlu:Nat:=11
def nG:Nat:=12
def QjT:List (List Int):=[[1,9999],[-1099511627776,1099511627776],[0,1048576],[0,39],[0,255],[0,1099511627776],[0,255],[1,1048576],[0,1],[0,31],[1,1048576]]
theorem gOk:((List.range nG).all λb=>Nat.beq b Qlu|| !(QjT.getD b []).isEmpty)=true:=by decide
theorem gLt:Nat.ble QjT.length nG=true:=by decide
theorem QpR:Nat.blt Qlu nG=true:=by decide
structure GP (w:World):Prop where
 max:∃m:Int,w.cell? ⟨Qlu,0,none⟩=some (.int .i64 m)
 tab:∀(g:Nat) (zs:List Int),QjT[g]?=some zs->∀(i:Nat) (z:Int),zs[i]?=some z->w.cell? ⟨g,i,none⟩=some (.int .i64 z)
theorem GP.keep{w w':World}(h:∀b,b<nG->w'.heap[b]?=w.heap[b]?)(g:GP w):GP w':=by
 obtain⟨m,f⟩:=g.max;refine⟨⟨m,?_⟩,λd e a i z j=>?_⟩
 .rw[<- f];unfold World.cell?;rw[h Qlu (by simpa using QpR)]
 .rw[<- g.tab d e a i z j];unfold World.cell?;have l:=(XN.1 a).1;have k:QjT.length<=nG:=by simpa using gLt
  rw[h d (by omega)]
theorem QgQ{w:World}{b i:Nat}{v:Value}(h:w.cell? ⟨b,i,none⟩=some v):b<w.heap.size:=by
 cases e:w.heap[b]? with
 |none=>simp[World.cell?,e]at h
 |some o=>exact(Ve.1 e).1
theorem GP.size{w:World}(g:GP w)(b:Nat)(f:b<nG):b<w.heap.size:=by
 have h:=Xu.1 gOk b (List.mem_range.2 f);rw[Bool.or_eq_true]at h;rcases h with h|h
 .obtain⟨m,d⟩:=g.max;rw[XS h];exact QgQ d
 .cases e:QjT[b]? with
  |none=>rw[VN,e]at h;simp at h
  |some a=>
   cases a with
   |nil=>rw[VN,e]at h;simp at h
   |cons z a=>exact QgQ (g.tab b _ e 0 z rfl)
end Go.Sw
namespace Go.Sw
inductive A where
 |any
 |bool (b:Bool)
 |int (k:IntKind) (n:Int)
 |str (s:List UInt8)
 |nilp
 |ptr (i off:Nat)
 |rp (cs:List A)
 |nils
 |rsl (k:Nat) (es:List (List A))
 |osl (i o n k:Nat)
 |agg (cs:List A)
 |fn (f:Fn) (first cap:List A)
 |nilf
 |iface (t:Nat) (v:A)
 |nilif
 |map (i:Nat)
 |nilm
 |tup (vs:List A)
abbrev Sig:=List (Option Nat)
def Qn:Value->Prop
 |.agg _|.tuple _=>False
 |_=>True
mutual
def VR(ro:Nat->Prop)(σ:Sig)(w:World):A->Value->Prop
 |.any,_=>True
 |.bool b,v=>v=.bool b
 |.int k n,v=>v=.int k n
 |.str s,v=>v=.string ⟨s.toArray⟩
 |.nilp,v=>v=.pointer none
 |.ptr i off,v=>∃b,σ[i]?=some (some b)/\v=.pointer (some ⟨b,off,none⟩)
 |.rp cs,v=>∃b off,v=.pointer (some ⟨b,off,none⟩)/\ro b/\CR ro [] w b cs off
 |.nils,v=>v=.slice none 0 0
 |.rsl k es,v=>∃a cap,v=.slice a es.length cap/\es.length<=cap/\
   (es=[]\/ ∃b off,a=some ⟨b,off,none⟩/\ro b/\RR ro [] w b k es off)
 |.osl i o n k,v=>(n=0/\v=.slice none 0 0)\/
   ∃b p cap t m,σ[i]?=some (some b)/\v=.slice (some ⟨b,p,none⟩) n cap/\(0<cap->p=o*k)/\n<=cap/\w.shape? b=some (t,m)/\(o+cap)*k<=m
 |.agg cs,v=>∃l:List Value,v=.agg l.toArray/\LR ro σ w cs l
 |.fn f first cap,v=>∃l l':List Value,v=.func f l.toArray l'.toArray/\LR ro σ w first l/\LR ro σ w cap l'
 |.nilf,v=>v=.nilFunc
 |.iface t a,v=>∃x,v=.iface t x/\VR ro σ w a x
 |.nilif,v=>v=.nilIface
 |.map i,v=>∃b,σ[i]?=some (some b)/\v=.map (some b)
 |.nilm,v=>v=.map none
 |.tup vs,v=>∃l:List Value,v=.tuple l.toArray/\LR ro σ w vs l
def CR(ro:Nat->Prop)(σ:Sig)(w:World)(b:Nat):List A->Nat->Prop
 |[],_=>True
 |a::r,off=>(∃v,w.cell? ⟨b,off,none⟩=some v/\Qn v/\VR ro σ w a v)/\CR ro σ w b r (off+1)
def RR(ro:Nat->Prop)(σ:Sig)(w:World)(b k:Nat):List (List A)->Nat->Prop
 |[],_=>True
 |cs::r,off=>cs.length=k/\CR ro σ w b cs off/\RR ro σ w b k r (off+k)
def LR(ro:Nat->Prop)(σ:Sig)(w:World):List A->List Value->Prop
 |[],l=>l=[]
 |a::r,l=>∃v l',l=v::l'/\VR ro σ w a v/\LR ro σ w r l'
end
structure Ext (ro:Nat->Prop) (σ:Sig) (w:World) (ro':Nat->Prop) (σ':Sig) (w':World):Prop where
 sub:∀b,ro b->ro' b
 keep:∀b,ro b->w'.heap[b]?=w.heap[b]?
 shape:∀b x,w.shape? b=some x->w'.shape? b=some x
 sig:∀(i b:Nat),σ[i]?=some (some b)->σ'[i]?=some (some b)
theorem QgR{w w':World}{b off:Nat}(h:w'.heap[b]?=w.heap[b]?):w'.cell? ⟨b,off,none⟩=w.cell? ⟨b,off,none⟩:=by
 simp only[World.cell?,h]
theorem Ext.nil{ro ro':Nat->Prop}{σ σ':Sig}{w w':World}(h:Ext ro σ w ro' σ' w'):Ext ro [] w ro' [] w':=
 ⟨h.sub,h.keep,h.shape,λ_ _ q=>q⟩
mutual
theorem VR.mono{ro ro':Nat->Prop}{w w':World}:∀{a:A} {σ σ':Sig} {v:Value},Ext ro σ w ro' σ' w'->VR ro σ w a v->VR ro' σ' w' a v
 |.any,_,_,_,h,_=>trivial
 |.bool b,_,_,v,h,q=>q
 |.int k n,_,_,v,h,q=>q
 |.str s,_,_,v,h,q=>q
 |.nilp,_,_,v,h,q=>q
 |.ptr i off,_,_,v,h,q=>by
  simp only[VR]at q⊢;obtain⟨b,h1,h2⟩:=q;exact⟨b,h.sig _ _ h1,h2⟩
 |.rp cs,_,_,v,h,q=>by
  simp only[VR]at q⊢;obtain⟨b,off,h1,h2,h3⟩:=q;exact⟨b,off,h1,h.sub _ h2,CR.mono h.nil h2 h3⟩
 |.nils,_,_,v,h,q=>q
 |.rsl k es,_,_,v,h,q=>by
  simp only[VR]at q⊢;obtain⟨a,cap,h1,h2,h3⟩:=q;refine⟨a,cap,h1,h2,?_⟩;rcases h3 with h3|⟨b,off,h4,h5,h6⟩
  .exact .inl h3
  .exact .inr ⟨b,off,h4,h.sub _ h5,RR.mono h.nil h5 h6⟩
 |.osl i o n k,_,_,v,h,q=>by
  simp only[VR]at q⊢;rcases q with q|⟨b,p,cap,t,m,h1,h2,h6,h3,h4,h5⟩
  .exact .inl q
  .exact .inr ⟨b,p,cap,t,m,h.sig _ _ h1,h2,h6,h3,h.shape _ _ h4,h5⟩
 |.agg cs,_,_,v,h,q=>by
  simp only[VR]at q⊢;obtain⟨l,h1,h2⟩:=q;exact⟨l,h1,LR.mono h h2⟩
 |.fn f a c,_,_,v,h,q=>by
  simp only[VR]at q⊢;obtain⟨l,l',h1,h2,h3⟩:=q;exact⟨l,l',h1,LR.mono h h2,LR.mono h h3⟩
 |.nilf,_,_,v,h,q=>q
 |.iface t a,_,_,v,h,q=>by
  simp only[VR]at q⊢;obtain⟨x,h1,h2⟩:=q;exact⟨x,h1,VR.mono h h2⟩
 |.nilif,_,_,v,h,q=>q
 |.map i,_,_,v,h,q=>by
  simp only[VR]at q⊢;obtain⟨b,h1,h2⟩:=q;exact⟨b,h.sig _ _ h1,h2⟩
 |.nilm,_,_,v,h,q=>q
 |.tup vs,_,_,v,h,q=>by
  simp only[VR]at q⊢;obtain⟨l,h1,h2⟩:=q;exact⟨l,h1,LR.mono h h2⟩
theorem CR.mono{ro ro':Nat->Prop}{w w':World}:∀{cs:List A} {σ σ':Sig} {b off:Nat},Ext ro σ w ro' σ' w'->ro b->CR ro σ w b cs off->CR ro' σ' w' b cs off
 |[],_,_,_,_,_,_,_=>trivial
 |a::r,_,_,b,off,h,hb,q=>by
  simp only[CR]at q⊢;obtain⟨⟨v,h1,hp,h2⟩,h3⟩:=q;exact⟨⟨v,by rw[QgR (h.keep _ hb)];exact h1,hp,VR.mono h h2⟩,CR.mono h hb h3⟩
theorem RR.mono{ro ro':Nat->Prop}{w w':World}:∀{es:List (List A)} {σ σ':Sig} {b k off:Nat},Ext ro σ w ro' σ' w'->ro b->RR ro σ w b k es off->RR ro' σ' w' b k es off
 |[],_,_,_,_,_,_,_,_=>trivial
 |cs::r,_,_,b,k,off,h,hb,q=>by
  simp only[RR]at q⊢;obtain⟨h1,h2,h3⟩:=q;exact⟨h1,CR.mono h hb h2,RR.mono h hb h3⟩
theorem LR.mono{ro ro':Nat->Prop}{w w':World}:∀{az:List A} {σ σ':Sig} {l:List Value},Ext ro σ w ro' σ' w'->LR ro σ w az l->LR ro' σ' w' az l
 |[],_,_,_,h,q=>q
 |a::r,_,_,l,h,q=>by
  simp only[LR]at q⊢;obtain⟨v,l',h1,h2,h3⟩:=q;exact⟨v,l',h1,VR.mono h h2,LR.mono h h3⟩
end
structure Ent where
 fl:Bool
 off:Nat
 lo:Int
 hi:Int
def eC(b1 b2:Nat)(e:Ent):List A:=[.ptr (bif e.fl then b2 else b1) e.off,.int .i64 e.lo,.int .i64 e.hi]
inductive Blk where
 |dead
 |cells (t:Nat) (cs:List A)
 |row (t k:Nat) (es:List (List A))
 |rowr (t k:Nat) (es:List (List A))
 |map (es:List (A×A))
 |iter (cur:Option (A×A)) (es:List (A×A))
 |fmap (es:List (A×A))
 |ents (t b1 b2:Nat) (es:List Ent)
 |mapO (fz:Bool) (t k:Nat) (es:List (A×Option (List (List A))))
 |mapP (es:List (A×A))
 |frow (t k:Nat) (es:List (List A))
def Blk.live:Blk->Bool
 |.dead=>false
 |.fmap _=>false
 |.frow _ _ _=>false
 |.mapO fz _ _ _=> !fz
 |_=>true
def Blk.held:Blk->Bool
 |.mapO fz _ _ _=>fz
 |_=>false
def Blk.holds(x:Blk):Bool:=x.live||x.held
theorem Qax{x:Blk}(h:x.live=true):x≠ .dead:=by rintro rfl;cases h
theorem QeK{x:Blk}(h:x.holds=true):x≠ .dead:=by rintro rfl;cases h
theorem QaG{x:Blk}(h:x.live=true):x.holds=true:=by unfold Blk.holds;rw[h];rfl
abbrev Qc:=List Blk
def ER(ro:Nat->Prop)(σ:Sig)(w:World):List (A×A)->List MapEntry->Prop
 |[],l=>l=[]
 |x::r,l=>∃e l',l=e::l'/\VR ro σ w x.1 e.key/\VR ro σ w x.2 e.val/\ER ro σ w r l'
def ItR(ro:Nat->Prop)(w:World)(b:Nat)(cur:Option (A×A))(es:List (A×A)):Prop:=
 (es=[]/\cur=none/\w.heap[b]?=some (.mapIter none 0 #[] 0))\/
 ∃m l clock seen left,w.heap[b]?=some (.mapIter (some m) clock seen clock)/\ro m/\w.heap[m]?=some (.map l clock)/\(∀e∈l.toList,e.born<clock)/\(l.toList.map (·.born)).Nodup/\
  (left:List MapEntry).Perm (l.toList.filter λe=> !seen.contains e.born)/\ER ro [] w es left/\
  (∀x,cur=some x->∃e∈l.toList,seen.back? =some e.born/\VR ro [] w x.1 e.key/\VR ro [] w x.2 e.val)
def RL(ro:Nat->Prop)(σ:Sig)(w:World)(k:Nat):List (List A)->List Value->Prop
 |[],_=>True
 |c::es,l=>∃l1 l2,l=l1++l2/\c.length=k/\(LR ro σ w c l1/\ ∀v∈l1,Qn v)/\RL ro σ w k es l2
theorem RL.mono{ro ro':Nat->Prop}{σ σ':Sig}{w w':World}(h:Ext ro σ w ro' σ' w'){k:Nat}:∀{es:List (List A)} {l:List Value},RL ro σ w k es l->RL ro' σ' w' k es l
 |[],_,_=>trivial
 |c::es,l,⟨l1,l2,h1,h2,h3,h4⟩=>⟨l1,l2,h1,h2,⟨h3.1.mono h,h3.2⟩,RL.mono h h4⟩
def SO(ro:Nat->Prop)(w:World)(t k:Nat)(rows:List (List A))(v:Value):Prop:=
 (rows=[]/\v=.slice none 0 0)\/ ∃(c p cap:Nat) (vs:List Value),v=.slice (some ⟨c,p,none⟩) rows.length cap/\rows.length<=cap/\w.heap[c]?=some (.cells vs.toArray t (0,0))/\cap*k<=vs.length/\RL ro [] w k rows vs/\(0<cap->p=0)
def MO(ro:Nat->Prop)(w:World)(t k:Nat):List (A×Option (List (List A)))->List MapEntry->Prop
 |[],l=>l=[]
 |x::r,l=>∃e l',l=e::l'/\VR ro [] w x.1 e.key/\(∀rows,x.2=some rows->SO ro w t k rows e.val)/\MO ro w t k r l'
def Qex:List (A×Option (List (List A)))->List MapEntry->Nat->Prop
 |x::r,e::l,c=>(x.2.isSome=true/\ ∃p n cap,e.val=.slice (some ⟨c,p,none⟩) n cap)\/Qex r l c
 |_,_,_=>False
def Qkp:List (A×Option (List (List A)))->List MapEntry->Prop
 |x::r,e::l=>(∀c,x.2.isSome=true->(∃p n cap,e.val=.slice (some ⟨c,p,none⟩) n cap)->¬Qex r l c)/\Qkp r l
 |_,_=>True
def Hid(w:World):Blk->Nat->Nat->Prop
 |.mapO _ _ _ es,b,c=>∃l clock,w.heap[b]?=some (.map l clock)/\Qex es l.toList c
 |_,_,_=>False
theorem Hid.keep{w w':World}{x:Blk}{b c:Nat}(h:w'.heap[b]?=w.heap[b]?)(q:Hid w' x b c):Hid w x b c:=by
 cases x with
 |mapO fz t k f=>obtain⟨l,a,e,d⟩:=q;exact⟨l,a,by rw[<- h];exact e,d⟩
 |_=>exact q.elim
theorem Hid.holds{w:World}{x:Blk}{b c:Nat}(q:Hid w x b c):x.holds=true:=by
 cases x with
 |mapO fz t k a=>cases fz<;>rfl
 |_=>exact q.elim
theorem MO.mono{ro ro':Nat->Prop}{σ σ':Sig}{w w':World}(h:Ext ro σ w ro' σ' w'){t k:Nat}:∀{es:List (A×Option (List (List A)))} {l:List MapEntry},(∀c,Qex es l c->w'.heap[c]?=w.heap[c]?)->MO ro w t k es l->MO ro' w' t k es l
 |[],_,_,q=>q
 |x::r,_,hh,⟨e,l',h1,h2,h3,h4⟩=>by
  subst h1;refine⟨e,l',rfl,h2.mono h.nil,λrows hr=>?_,MO.mono h (λc hc=>hh c (.inr hc)) h4⟩;rcases h3 rows hr with q|⟨c,p,cap,vs,q1,q2,q3,q4,q5,q6⟩
  .exact .inl q
  .exact .inr ⟨c,p,cap,vs,q1,q2,by rw[hh c (.inl ⟨by rw[hr];rfl,p,_,_,q1⟩)];exact q3,q4,q5.mono h.nil,q6⟩
theorem MO.cells{ro:Nat->Prop}{w:World}{t k:Nat}:∀{es:List (A×Option (List (List A)))} {l:List MapEntry} {c:Nat},MO ro w t k es l->Qex es l c->∃vs:Array Value,w.heap[c]?=some (.cells vs t (0,0))
 |[],l,c,h,q=>by cases l<;>exact q.elim
 |x::r,_,c,⟨e,l',h1,h2,h3,h4⟩,q=>by
  subst h1;rcases q with⟨q1,p,n,cap,q2⟩|q
  .obtain⟨rows,hr⟩:=Option.isSome_iff_exists.1 q1;rcases h3 rows hr with⟨_,z⟩|⟨c',p',cap',vs,z1,z2,z3,z4,z5,z6⟩
   .rw[q2]at z;cases z
   .rw[q2]at z1;cases z1;exact⟨_,z3⟩
  .exact MO.cells h4 q
def Born(l:Array MapEntry)(clock:Nat):Prop:=clock=l.size/\ ∀(i:Nat) (e:MapEntry),l.toList[i]?=some e->e.born=i
theorem Born.modify{l:Array MapEntry}{a j:Nat}{f:MapEntry->MapEntry}(h:Born l a)(k:∀e,(f e).born=e.born):Born (l.modify j f) a:=by
 obtain⟨g,d⟩:=h;refine⟨by simp[g],λi m q=>?_⟩;rw[Array.toList_modify,List.getElem?_modify]at q;cases z:l.toList[i]? with
 |none=>rw[z]at q;simp at q
 |some e=>
  rw[z]at q;by_cases b:j=i
  .simp[b]at q;rw[<- q,k];exact d i e z
  .simp[b]at q;rw[<- q];exact d i e z
def BR(ro:Nat->Prop)(σ:Sig)(w:World):Blk->Option Nat->Prop
 |.dead,_=>True
 |.cells t cs,some b=>∃l:List Value,w.heap[b]?=some (.cells l.toArray t (0,0))/\LR ro σ w cs l/\ ∀v∈l,Qn v
 |.row t k es,some b=>∃l:List Value,w.heap[b]?=some (.cells l.toArray t (0,0))/\RL ro [] w k es l
 |.rowr t k es,some b=>∃l:List Value,w.heap[b]?=some (.cells l.toArray t (0,0))/\RL ro σ w k es l
 |.row _ _ es,none=>es=[]
 |.ents t b1 b2 es,some b=>∃l:List Value,w.heap[b]?=some (.cells l.toArray t (0,0))/\RL ro σ w 3 (es.map (eC b1 b2)) l
 |.ents _ _ _ es,none=>es=[]
 |.map es,some b=>∃l clock,w.heap[b]?=some (.map l clock)/\ER ro [] w es l.toList/\
   (∀e∈l.toList,e.born<clock)/\(l.toList.map (·.born)).Nodup/\(l.toList.map (·.key)).Nodup
 |.mapP es,some b=>∃l clock,w.heap[b]?=some (.map l clock)/\ER ro σ w es l.toList/\
   (∀e∈l.toList,e.born<clock)/\(l.toList.map (·.born)).Nodup/\(l.toList.map (·.key)).Nodup
 |.frow t k es,some b=>ro b/\ ∃l:List Value,w.heap[b]?=some (.cells l.toArray t (0,0))/\RL ro [] w k es l/\l.length=es.length*k
 |.iter cur es,some b=>ItR ro w b cur es
 |.mapO fz t k es,some b=>(fz=true->ro b)/\ ∃l clock,w.heap[b]?=some (.map l clock)/\MO ro w t k es l.toList/\Qkp es l.toList/\
   (∀e∈l.toList,e.born<clock)/\(l.toList.map (·.born)).Nodup/\(l.toList.map (·.key)).Nodup/\Born l clock
 |.fmap es,some b=>ro b/\ ∃l clock,w.heap[b]?=some (.map l clock)/\ER ro [] w es l.toList/\
   (∀e∈l.toList,e.born<clock)/\(l.toList.map (·.born)).Nodup/\(l.toList.map (·.key)).Nodup
 |_,none=>False
structure RoOk (ro:Nat->Prop) (w:World):Prop where
 lt:∀b,ro b->b<w.heap.size
 g:∀b,b<nG->ro b
 gp:GP w
theorem RoOk.to{ro ro':Nat->Prop}{w w':World}(h:RoOk ro w)(sub:∀b,ro b->ro' b)(keep:∀b,ro b->w'.heap[b]?=w.heap[b]?)(lt:∀b,ro' b->b<w'.heap.size):RoOk ro' w':=
 ⟨lt,λb hb=>sub b (h.g b hb),h.gp.keep λb hb=>keep b (h.g b hb)⟩
structure Qpe (fr ro:Nat->Prop) (σ:Sig) (H:Qc) (w:World) (i0 b0 c:Nat):Prop where
 lt:c<w.heap.size
 ro:¬ro c
 fr:¬fr c
 ne:∀(j b:Nat) (y:Blk),σ[j]?=some (some b)->H[j]?=some y->y.live=true->c≠b
 one:∀(j b:Nat) (y:Blk),σ[j]?=some (some b)->H[j]?=some y->Hid w y b c->b=b0/\j=i0
structure Sim (fr ro:Nat->Prop) (σ:Sig) (H:Qc) (w:World):Prop where
 len:σ.length=H.length
 roOk:RoOk ro w
 frLt:∀b,fr b->b<w.heap.size
 roFr:∀b,ro b->¬fr b
 own:∀(i b:Nat) (blk:Blk),σ[i]?=some (some b)->H[i]?=some blk->blk.live=true->b<w.heap.size/\ ¬ro b/\ ¬fr b
 inj:∀(i j b:Nat) (x y:Blk),σ[i]?=some (some b)->σ[j]?=some (some b)->H[i]?=some x->H[j]?=some y->x.live=true->y.live=true->i=j
 blk:∀(i:Nat) (s:Option Nat) (x:Blk),σ[i]?=some s->H[i]?=some x->BR ro σ w x s
 hid:∀(i b:Nat) (x:Blk) (c:Nat),σ[i]?=some (some b)->H[i]?=some x->Hid w x b c->Qpe fr ro σ H w i b c
theorem Sim.roHeld{fr ro:Nat->Prop}{σ:Sig}{H:Qc}{w:World}(s:Sim fr ro σ H w){i b:Nat}{x:Blk}(e:σ[i]?=some (some b))(d:H[i]?=some x)(a:x.held=true):ro b:=by
 have h:=s.blk i _ x e d;cases x with
 |mapO fz t k f=>exact h.1 a
 |_=>cases a
theorem Sim.hidKeep{fr ro:Nat->Prop}{σ:Sig}{H:Qc}{w w':World}(s:Sim fr ro σ H w){i b c:Nat}{x:Blk}(f:σ[i]?=some (some b))(e:H[i]?=some x)
  (hl:x.live=true->w'.heap[b]?=w.heap[b]?)(d:∀b,ro b->w'.heap[b]?=w.heap[b]?)(q:Hid w' x b c):Hid w x b c:=by
 refine q.keep ?_;have h:=q.holds;cases a:x.live with
 |true=>exact hl a
 |false=>unfold Blk.holds at h;rw[a]at h;exact d b (s.roHeld f e h)
theorem Sim.hidTo{fr p ro ro':Nat->Prop}{σ σ':Sig}{H H':Qc}{w w':World}(s:Sim fr ro σ H w)(R:Nat->Nat->Prop)(W:∀j j' a,R j a->R j' a->j=j')(G:w.heap.size<=w'.heap.size)
  (F:∀(i b:Nat) (x:Blk) (c:Nat),σ[i]?=some (some b)->H[i]?=some x->Hid w x b c->ro' c->ro c)
  (M:∀(i b:Nat) (x:Blk) (c:Nat),σ[i]?=some (some b)->H[i]?=some x->Hid w x b c->p c->fr c)
  (h:∀(j d:Nat) (y:Blk),σ'[j]?=some (some d)->H'[j]?=some y->y.holds=true->
   (∃(a:Nat) (l:Blk),R j a/\σ[a]?=some (some d)/\H[a]?=some l/\(y.live=true->l.live=true)/\ ∀c,Hid w' y d c->Hid w l d c)\/(w.heap.size<=d/\ ∀c,Hid w' y d c->False)):
  ∀(i b:Nat) (x:Blk) (c:Nat),σ'[i]?=some (some b)->H'[i]?=some x->Hid w' x b c->Qpe p ro' σ' H' w' i b c:=by
 intro i b x c Y V n;rcases h i b x Y V n.holds with⟨a,l,Q,E,u,g3,z⟩|⟨_,g⟩
 .have k:=s.hid a b l c E u (z c n);refine⟨Vh k.lt G,λq=>k.ro (F a b l c E u (z c n) q),λq=>k.fr (M a b l c E u (z c n) q),λj d y t J m=>?_,λj d y t J m=>?_⟩
  .rcases h j d y t J (QaG m)with⟨L,y1,_,r,B,N,_⟩|⟨f,_⟩
   .exact k.ne L d y1 r B (N m)
   .exact λe=>by have:=k.lt;omega
  .rcases h j d y t J m.holds with⟨L,y1,O,r,B,N,T⟩|⟨_,f⟩
   .obtain⟨P,X⟩:=k.one L d y1 r B (T c m);subst X;exact⟨P,W _ _ _ O Q⟩
   .exact(f c m).elim
 .exact(g c n).elim
theorem QY(j j' j0:Nat)(h:j=j0)(h':j'=j0):j=j':=h.trans h'.symm
theorem Sim.roLt{fr ro:Nat->Prop}{σ:Sig}{H:Qc}{w:World}(s:Sim fr ro σ H w):∀b,ro b->b<w.heap.size:=s.roOk.lt
structure Qe (fr ro:Nat->Prop) (w:World) (ro':Nat->Prop) (w':World):Prop where
 sub:∀b,ro b->ro' b
 keepRo:∀b,ro b->w'.heap[b]?=w.heap[b]?
 keepFr:∀b,fr b->w'.heap[b]?=w.heap[b]?
 size:w.heap.size<=w'.heap.size
 shape:∀b x,w.shape? b=some x->w'.shape? b=some x
 os:w'.os=w.os
 tape:w'.tape=w.tape
 output:w'.output=w.output
 drawn:w.drawn<=w'.drawn
theorem Qe.refl(fr ro:Nat->Prop)(w:World):Qe fr ro w ro w:=
 ⟨λ_ h=>h,λ_ _=>rfl,λ_ _=>rfl,XV _,λ_ _ h=>h,rfl,rfl,rfl,XV _⟩
theorem Qe.trans{fr ro ro1 ro2:Nat->Prop}{w w1 w2:World}(h:Qe fr ro w ro1 w1)(k:Qe fr ro1 w1 ro2 w2):Qe fr ro w ro2 w2:=
 ⟨λb q=>k.sub _ (h.sub _ q),λb q=>(k.keepRo _ (h.sub _ q)).trans (h.keepRo _ q),λb q=>(k.keepFr _ q).trans (h.keepFr _ q),
  XX h.size k.size,λb x q=>k.shape _ _ (h.shape _ _ q),k.os.trans h.os,k.tape.trans h.tape,k.output.trans h.output,XX h.drawn k.drawn⟩
theorem YO{σ τ:Sig}{i b:Nat}(h:σ[i]?=some (some b)):(σ++τ)[i]?=some (some b):=by
 have a:i<σ.length:=by
  rcases VE i σ.length with q|q
  .exact q
  .simp[XQ q]at h
 rw[XO a];exact h
theorem Qe.ext{fr ro ro':Nat->Prop}{w w':World}(h:Qe fr ro w ro' w')(σ τ:Sig):Ext ro σ w ro' (σ++τ) w':=
 ⟨h.sub,h.keepRo,h.shape,λ_ _=>YO⟩
theorem Qe.ext0{fr ro ro':Nat->Prop}{w w':World}(h:Qe fr ro w ro' w')(σ:Sig):Ext ro σ w ro' σ w':=
 ⟨h.sub,h.keepRo,h.shape,λ_ _ q=>q⟩
theorem ER.mono{ro ro':Nat->Prop}{σ σ':Sig}{w w':World}(h:Ext ro σ w ro' σ' w'):∀{es:List (A×A)} {l:List MapEntry},ER ro σ w es l->ER ro' σ' w' es l
 |[],_,q=>q
 |x::r,l,q=>by
  simp only[ER]at q⊢;obtain⟨e,l',h1,h2,h3,h4⟩:=q;exact⟨e,l',h1,h2.mono h,h3.mono h,ER.mono h h4⟩
theorem ItR.keep{ro ro':Nat->Prop}{σ σ':Sig}{w w':World}(h:Ext ro σ w ro' σ' w'){b:Nat}(k:w'.heap[b]?=w.heap[b]?){f:Option (A×A)}{es:List (A×A)}
  (q:ItR ro w b f es):ItR ro' w' b f es:=by
 rcases q with⟨j,g,i⟩|⟨m,l,a,d,left,j,g,i,u,r,y,p,s⟩
 .exact .inl ⟨j,g,by rw[k];exact i⟩
 .refine .inr ⟨m,l,a,d,left,by rw[k];exact j,h.sub _ g,by rw[h.keep _ g];exact i,u,r,y,p.mono h.nil,λx B=>?_⟩;obtain⟨e,n,E,z,t⟩:=s x B;exact⟨e,n,E,z.mono h.nil,t.mono h.nil⟩
theorem CR.keep{ro ro':Nat->Prop}{σ σ':Sig}{w w':World}(h:Ext ro σ w ro' σ' w'){b:Nat}(hb:w'.heap[b]?=w.heap[b]?):
  ∀{cs:List A} {off:Nat},CR ro σ w b cs off->CR ro' σ' w' b cs off
 |[],_,_=>trivial
 |a::r,off,q=>by
  simp only[CR]at q⊢;obtain⟨⟨v,h1,hp,h2⟩,h3⟩:=q;exact⟨⟨v,by rw[QgR hb];exact h1,hp,h2.mono h⟩,CR.keep h hb h3⟩
theorem RR.keep{ro ro':Nat->Prop}{σ σ':Sig}{w w':World}(h:Ext ro σ w ro' σ' w'){b:Nat}(hb:w'.heap[b]?=w.heap[b]?){k:Nat}:
  ∀{es:List (List A)} {off:Nat},RR ro σ w b k es off->RR ro' σ' w' b k es off
 |[],_,_=>trivial
 |cs::r,off,q=>by
  simp only[RR]at q⊢;obtain⟨h1,h2,h3⟩:=q;exact⟨h1,CR.keep h hb h2,RR.keep h hb h3⟩
theorem BR.keep{ro ro':Nat->Prop}{σ σ':Sig}{w w':World}(h:Ext ro σ w ro' σ' w'){x:Blk}{s:Option Nat}
  (i:∀b,s=some b->x.live=true->w'.heap[b]?=w.heap[b]?)(q:BR ro σ w x s)(m:∀b c,s=some b->Hid w x b c->w'.heap[c]?=w.heap[c]?):BR ro' σ' w' x s:=by
 cases x with
 |mapO fz t k j=>
  cases s with
  |none=>exact q
  |some b=>
   obtain⟨g,l,c,a,e,f⟩:=q;refine⟨λz=>h.sub b (g z),l,c,?_,e.mono h (λd n=>m b d rfl ⟨l,c,a,n⟩),f⟩;cases fz with
   |false=>rw[i b rfl rfl];exact a
   |true=>rw[h.keep b (g rfl)];exact a
 |dead=>trivial
 |cells t y=>
  cases s with
  |none=>exact q
  |some b=>
   obtain⟨l,a,e,f⟩:=q;exact⟨l,by rw[i b rfl rfl];exact a,e.mono h,f⟩
 |row t k j=>
  cases s with
  |none=>exact q
  |some b=>
   obtain⟨l,a,e⟩:=q;exact⟨l,by rw[i b rfl rfl];exact a,e.mono h.nil⟩
 |rowr t k j=>
  cases s with
  |none=>exact q.elim
  |some b=>
   obtain⟨l,a,e⟩:=q;exact⟨l,by rw[i b rfl rfl];exact a,e.mono h⟩
 |ents t u r j=>
  cases s with
  |none=>exact q
  |some b=>
   obtain⟨l,a,e⟩:=q;exact⟨l,by rw[i b rfl rfl];exact a,e.mono h⟩
 |map j=>
  cases s with
  |none=>exact q
  |some b=>
   obtain⟨l,c,a,e,f⟩:=q;exact⟨l,c,by rw[i b rfl rfl];exact a,e.mono h.nil,f⟩
 |mapP j=>
  cases s with
  |none=>exact q
  |some b=>
   obtain⟨l,c,a,e,f⟩:=q;exact⟨l,c,by rw[i b rfl rfl];exact a,e.mono h,f⟩
 |frow t k j=>
  cases s with
  |none=>exact q
  |some b=>
   obtain⟨g,l,a,e,f⟩:=q;exact⟨h.sub b g,l,by rw[h.keep b g];exact a,e.mono h.nil,f⟩
 |iter p j=>
  cases s with
  |none=>exact q
  |some b=>exact ItR.keep h (i b rfl rfl) q
 |fmap j=>
  cases s with
  |none=>exact q
  |some b=>
   obtain⟨g,l,c,a,e,f⟩:=q;exact⟨h.sub b g,l,c,by rw[h.keep b g];exact a,e.mono h.nil,f⟩
end Go.Sw
namespace Go.Sw
abbrev Env:=List (Nat×A)
def lk:Env->Nat->A
 |[],_=>.any
 |(d,a)::r,s=>bif Nat.beq s d then a else lk r s
abbrev up(env:Env)(d:Nat)(a:A):Env:=(d,a)::env
inductive AEx where
 |normal|exit (id:Nat)|ret
abbrev QA:=AEx->Env->Qc->Prop
def Qdq(fr:Nat->Prop)(ds:List Deferred)(w:World):Prop:=ds.Nodup/\ ∀d∈ds,∃D,d={target:=.collected D,args:= #[]}/\fr D/\w.heap[D]?=some (.deferred (some []))
theorem Qdq.keep{fr ro ro':Nat->Prop}{b:List Deferred}{w w':World}(h:Qdq fr b w)(k:Qe fr ro w ro' w'):Qdq fr b w':=by
 refine⟨h.1,λd e=>?_⟩;obtain⟨D,g,a,f⟩:=h.2 d e;exact⟨D,g,a,(k.keepFr D a).trans f⟩
structure Grow (fr:Nat->Prop) (w:World) (ds:List Deferred) (fr':Nat->Prop) (ds':List Deferred):Prop where
 sub:∀b,fr b->fr' b
 new:∀b,fr' b->fr b\/w.heap.size<=b
 ds:∀d∈ds',d∈ds\/ ∃D,d={target:=.collected D,args:= #[]}/\w.heap.size<=D
theorem Grow.refl(fr:Nat->Prop)(w:World)(ds:List Deferred):Grow fr w ds fr ds:=⟨λ_ h=>h,λ_ h=>.inl h,λ_ h=>.inl h⟩
theorem Grow.trans{fr f g:Nat->Prop}{w j:World}{ds a e:List Deferred}(h:Grow fr w ds f a)(i:w.heap.size<=j.heap.size)(k:Grow f j a g e):Grow fr w ds g e:=by
 refine⟨λb q=>k.sub b (h.sub b q),λb q=>?_,λd q=>?_⟩
 .rcases k.new b q with q|q
  .exact h.new b q
  .exact .inr (XX i q)
 .rcases k.ds d q with q|⟨D,m,l⟩
  .exact h.ds d q
  .exact .inr ⟨D,m,XX i l⟩
theorem Qe.frMono{fr fr' ro ro':Nat->Prop}{w w':World}(h:Qe fr' ro w ro' w')(s:∀b,fr b->fr' b):Qe fr ro w ro' w':=
 ⟨h.sub,h.keepRo,λb q=>h.keepFr b (s b q),h.size,h.shape,h.os,h.tape,h.output,h.drawn⟩
theorem Sim.frMono{fr fr' ro:Nat->Prop}{σ:Sig}{H:Qc}{w:World}(h:Sim fr' ro σ H w)(s:∀b,fr b->fr' b):Sim fr ro σ H w:=
 ⟨h.len,h.roOk,λb q=>h.frLt b (s b q),λb q r=>h.roFr b q (s b r),λi b x q1 q2 q3=>let⟨a,b',c⟩:=h.own i b x q1 q2 q3;⟨a,b',λq=>c (s b q)⟩,h.inj,h.blk,λi b x c q1 q2 q3=>let k:=h.hid i b x c q1 q2 q3;⟨k.lt,k.ro,λq=>k.fr (s c q),k.ne,k.one⟩⟩
structure Rel (fr ro:Nat->Prop) (σ:Sig) (H:Qc) (env:Env) (N:Nat) (a:Act) (w:World):Prop where
 sim:Sim fr ro σ H w
 env:∀s,VR ro σ w (lk env s) (a.tmps.getD s undef)
 size:a.tmps.size=N
 defers:Qdq fr a.defers w
def Qew(rd:Option Nat)(fr:Nat->Prop)(w:World):Prop:=∀l,rd=some l->fr l/\ ∃r,w.heap[l]?=some (.loop r)
theorem Qew.none{fr:Nat->Prop}{w:World}:Qew none fr w:=λl e=>by cases e
theorem Qew.to{rd:Option Nat}{fr fr' ro ro':Nat->Prop}{w w':World}(h:Qew rd fr w)(k:Qe fr ro w ro' w')(s:∀b,fr b->fr' b):Qew rd fr' w':=λl e=>by
 obtain⟨h1,r,h2⟩:=h l e;exact⟨s l h1,r,(k.keepFr l h1).trans h2⟩
def ExR:Exit->AEx->Prop
 |.normal,x=>x=.normal
 |.exit id,x=>x=.exit id
 |.ret,x=>x=.ret
 |_,_=>False
def QaQ(h0:Nat)(fr ro:Nat->Prop)(σ:Sig)(w:World)(N:Nat)(ds:List Deferred)(Q:QA):Exit->Act->World->Prop:=
 λe a' w'=>∃x env' H' ro' σ' fr',ExR e x/\Q x env' H'/\Rel fr' ro' σ' H' env' N a' w'/\Qe fr ro w ro' w'/\σ'.take h0=σ.take h0/\Grow fr w ds fr' a'.defers
theorem QaQ.grow{h0:Nat}{fr d ro a:Nat->Prop}{σ σ1:Sig}{w j:World}{N:Nat}{k b:List Deferred}{Q:QA}{e:Exit}{a':Act}{w':World}
  (h:QaQ h0 d a σ1 j N b Q e a' w')(he:Qe fr ro w a j)(q:σ1.take h0=σ.take h0)(hg:Grow fr w k d b):QaQ h0 fr ro σ w N k Q e a' w':=by
 obtain⟨x,f,H',g,σ',i,s,r,m,p,l,n⟩:=h;exact⟨x,f,H',g,σ',i,s,r,m,he.trans (p.frMono hg.sub),l.trans q,hg.trans he.size n⟩
theorem QaQ.step{h0:Nat}{fr ro ro1:Nat->Prop}{σ σ1:Sig}{w w1:World}{N:Nat}{ds:List Deferred}{Q:QA}{e:Exit}{a':Act}{w':World}
  (h:QaQ h0 fr ro1 σ1 w1 N ds Q e a' w')(he:Qe fr ro w ro1 w1)(hs:σ1.take h0=σ.take h0):QaQ h0 fr ro σ w N ds Q e a' w':=h.grow he hs (Grow.refl _ _ _)
theorem QaQ.mono{h0:Nat}{fr ro:Nat->Prop}{σ:Sig}{w:World}{N:Nat}{f:List Deferred}{Q Q':QA}{e:Exit}{a':Act}{w':World}
  (h:QaQ h0 fr ro σ w N f Q e a' w')(j:∀x env H,Q x env H->Q' x env H):QaQ h0 fr ro σ w N f Q' e a' w':=by
 obtain⟨x,a,H',b,σ',d,k,i,g⟩:=h;exact⟨x,a,H',b,σ',d,k,j _ _ _ i,g⟩
def Qb6(h0:Nat)(fr ro:Nat->Prop)(σ:Sig)(w:World)(N:Nat)(ds:List Deferred)(Q:QA):Exit->Act->World->Prop:=
 λe a' w'=>∃x env' H' ro' σ' fr',ExR e x/\Q x env' H'/\Rel fr' ro' σ' H' env' N a' w'/\Qe fr ro w ro' w'/\σ'.take h0=σ.take h0/\a'.defers=ds/\Grow fr w ds fr' ds
theorem Qb6.grow{h0:Nat}{fr b ro a:Nat->Prop}{σ σ1:Sig}{w j:World}{N:Nat}{f:List Deferred}{Q:QA}{e:Exit}{a':Act}{w':World}
  (h:Qb6 h0 b a σ1 j N f Q e a' w')(he:Qe fr ro w a j)(q:σ1.take h0=σ.take h0)(hg:Grow fr w f b f):Qb6 h0 fr ro σ w N f Q e a' w':=by
 obtain⟨x,d,H',g,σ',i,s,r,m,n,l,p,k⟩:=h;exact⟨x,d,H',g,σ',i,s,r,m,he.trans (n.frMono hg.sub),l.trans q,p,hg.trans he.size k⟩
theorem Qb6.step{h0:Nat}{fr ro ro1:Nat->Prop}{σ σ1:Sig}{w w1:World}{N:Nat}{ds:List Deferred}{Q:QA}{e:Exit}{a':Act}{w':World}
  (h:Qb6 h0 fr ro1 σ1 w1 N ds Q e a' w')(he:Qe fr ro w ro1 w1)(hs:σ1.take h0=σ.take h0):Qb6 h0 fr ro σ w N ds Q e a' w':=h.grow he hs (Grow.refl _ _ _)
theorem Qb6.mono{h0:Nat}{fr ro:Nat->Prop}{σ:Sig}{w:World}{N:Nat}{f:List Deferred}{Q Q':QA}{e:Exit}{a':Act}{w':World}
  (h:Qb6 h0 fr ro σ w N f Q e a' w')(j:∀x env H,Q x env H->Q' x env H):Qb6 h0 fr ro σ w N f Q' e a' w':=by
 obtain⟨x,a,H',b,σ',d,k,i,g⟩:=h;exact⟨x,a,H',b,σ',d,k,j _ _ _ i,g⟩
theorem Qb6.postW{h0:Nat}{fr ro:Nat->Prop}{σ:Sig}{w:World}{N:Nat}{f:List Deferred}{Q:QA}{e:Exit}{a':Act}{w':World}
  (h:Qb6 h0 fr ro σ w N f Q e a' w'):QaQ h0 fr ro σ w N f Q e a' w':=by
 obtain⟨x,a,H',b,σ',d,n,m,j,k,i,l,g⟩:=h;exact⟨x,a,H',b,σ',d,n,m,j,k,i,by rw[l];exact g⟩
def WF(rd:Option Nat):Fence:={Fence.wide with round:=rd}
theorem WF.calls{rd:Option Nat}{P:Program}{f:FuncId}{args:Array Value}{w:World}{R:Ending->World->Prop}:CallsIn (WF rd) 0 P f args w R↔Calls P f args w R:=callsIn_wide
abbrev wpL(P:Program)(rd:Option Nat)(ops:Array Oper)(Q:Exit->Act->World->Prop):List Oper->Act->World->Prop:=wpListIn (WF rd) 0 P ops Q
def TC(P:Program)(h0 N:Nat)(c:Code)(env:Env)(H:Qc)(Q:QA):Prop:=
 ∀rd fr ro σ a w,Rel fr ro σ H env N a w->Qew rd fr w->c.wpIn (WF rd) 0 P (QaQ h0 fr ro σ w N a.defers Q) a w
def WO(P:Program)(h0 N:Nat)(all:Array Oper)(l:List Oper)(env:Env)(H:Qc)(Q:QA):Prop:=
 ∀rd fr ro σ a w,Rel fr ro σ H env N a w->Qew rd fr w->wpL P rd all (Qb6 h0 fr ro σ w N a.defers Q) l a w
def Le(h0:Nat)(env:Env)(H:Qc)(env':Env)(H':Qc):Prop:=
 ∀fr ro σ N a w,Rel fr ro σ H env N a w->∃ro' σ',Rel fr ro' σ' H' env' N a w/\(∀b,ro b->ro' b)/\σ'.take h0=σ.take h0
theorem Le.refl(h0:Nat)(env:Env)(H:Qc):Le h0 env H env H:=λfr ro σ N a w h=>⟨ro,σ,h,λ_ q=>q,rfl⟩
theorem Le.trans{h0:Nat}{f j i:Env}{H1 H2 H3:Qc}(h:Le h0 f H1 j H2)(k:Le h0 j H2 i H3):Le h0 f H1 i H3:=by
 intro g p σ N a w r;obtain⟨e,σ1,u,t,s⟩:=h g p σ N a w r;obtain⟨d,σ2,l,m,n⟩:=k g e σ1 N a w u;exact⟨d,σ2,l,λb q=>m _ (t _ q),n.trans s⟩
theorem YN{fr ro ro':Nat->Prop}{w:World}(h:∀b,ro b->ro' b):Qe fr ro w ro' w:=
 ⟨h,λ_ _=>rfl,λ_ _=>rfl,XV _,λ_ _ h=>h,rfl,rfl,rfl,XV _⟩
theorem Yq{P:Program}{rd:Option Nat}{ops:Array Oper}{Q Q':Exit->Act->World->Prop}(hq:∀e a w,Q e a w->Q' e a w):
  ∀(l:List Oper) (a:Act) (w:World),wpL P rd ops Q l a w->wpL P rd ops Q' l a w
 |[],a,w,h=>hq _ _ _ h
 |o::l,a,w,h=>by
  unfold wpL wpListIn at h⊢;split
  .rename_i hw;rw[Vv hw]at h;obtain⟨h1,h2⟩:=h;refine⟨h1,?_⟩
   revert h2
   generalize(o.semAt (WF rd).round a.eval).run P w=r;intro h2;have hk:=λa w=>Yq (P:=P) (rd:=rd) (ops:=ops) hq l a w;cases r with
   |ok x w=>
    cases x with
    |value v=>exact hk _ _ h2
    |skip=>exact hk _ _ h2
    |defer d=>exact hk _ _ h2
    |enter f args=>
     refine⟨h2.1,CallsIn.mono h2.2 ?_⟩;intro e w' q;cases e with
     |returned v=>exact hk _ _ q
     |panicked c=>exact hq _ _ _ q
     |outgrown=>obtain⟨a,w,q⟩:=q;exact⟨a,w,hq _ _ _ q⟩
    |row r args=>exact⟨h2.1,RowsIn.mono h2.2 λv w' q=>hk _ _ q⟩
    |round l f tmps assign body=>
     refine⟨h2.1,RoundIn.mono h2.2 ?_⟩;intro e w' q;cases e with
     |returned v=>exact hk _ _ q
     |panicked c=>exact hq _ _ _ q
     |outgrown=>obtain⟨a,w,q⟩:=q;exact⟨a,w,hq _ _ _ q⟩
    |_=>exact h2
   |halt x w=>
    cases x with
    |panic v=>exact hq _ _ _ h2
    |_=>exact h2
  .rename_i hw;rw[Vu hw]at h;exact⟨h.1,Yq hq l _ _ h.2⟩
theorem QcQ{P:Program}{o:Oper}{a:Act}{w w':World}{x:Next}{rd:Option Nat}(h:(execOp a.eval o).run P w=.ok x w')(b:∀d,x≠ .defer d):(o.semAt (WF rd).round a.eval).run P w=.ok x w':=by
 cases e:o.op with
 |defer c=>
  exfalso;have:execOp a.eval o=(do pure (.defer (<- resolve a.eval c o.type))):=by simp[execOp,e]
  rw[this]at h;simp only[Vp]at h;generalize(resolve a.eval c o.type).run P w=r at h;cases r with
  |ok d f=>simp[Result.andThen,go_sem]at h;exact b _ h.1.symm
  |halt x f=>simp[Result.andThen]at h
 |_=>rw[Oper.semAt_eq _ _ _ (by rw[e];intro c q;cases q)];exact h
theorem Qac{P:Program}{rd:Option Nat}{ops:Array Oper}{Q:Exit->Act->World->Prop}{o:Oper}{l:List Oper}{a:Act}{w w':World}{v:Value}(b:Region.wanted o (yielded ops a.tmps)=true)
  (h:(execOp a.eval o).run P w=.ok (.value v) w')(k:wpL P rd ops Q l (a.put o.dst v) w'):wpL P rd ops Q (o::l) a w:=by
 unfold wpL wpListIn;rw[Vv b];exact⟨λ_ _=>trivial,by rw[QcQ h (λd e=>by cases e)];exact k⟩
theorem Qh2{P:Program}{rd:Option Nat}{ops:Array Oper}{Q:Exit->Act->World->Prop}{o:Oper}{l:List Oper}{a:Act}{w w':World}(b:Region.wanted o (yielded ops a.tmps)=true)
  (h:(execOp a.eval o).run P w=.ok .skip w')(k:wpL P rd ops Q l (a.put o.dst undef) w'):wpL P rd ops Q (o::l) a w:=by
 unfold wpL wpListIn;rw[Vv b];exact⟨λ_ _=>trivial,by rw[QcQ h (λd e=>by cases e)];exact k⟩
theorem Qdt{P:Program}{rd:Option Nat}{ops:Array Oper}{Q:Exit->Act->World->Prop}{o:Oper}{l:List Oper}{a:Act}{w w':World}{f:FuncId}{args:Array Value}(b:Region.wanted o (yielded ops a.tmps)=true)
  (h:(execOp a.eval o).run P w=.ok (.enter f args) w')(k:Calls P f args w' λe w''=>∃v,e=.returned v/\wpL P rd ops Q l (a.put o.dst v) w''):wpL P rd ops Q (o::l) a w:=by
 unfold wpL wpListIn;rw[Vv b];refine⟨λ_ _=>trivial,?_⟩;rw[QcQ h (λd e=>by cases e)];refine⟨λh=>by simp[WF,Fence.wide]at h,WF.calls.2 (Calls.mono k ?_)⟩;rintro e w'' ⟨v,rfl,q⟩;exact q
section
variable {P:Program} {h0 N:Nat} {env env':Env} {H H':Qc} {Q Q':QA} {c c':Code}
theorem TC.mono(h:TC P h0 N c env H Q)(hq:∀x env H,Q x env H->Q' x env H):TC P h0 N c env H Q':=
 λrd fr ro σ a w r hrd=>Code.wpIn_mono (λe a w q=>q.mono hq) (h rd fr ro σ a w r hrd)
theorem TC.le(b:Le h0 env H env' H')(h:TC P h0 N c env' H' Q):TC P h0 N c env H Q:=by
 intro g f i σ a w r hrd;obtain⟨d,σ',j,s,t⟩:=b f i σ N a w r;exact Code.wpIn_mono (λe a w q=>q.step (YN s) t) (h g f d σ' a w j hrd)
theorem WO.le{all:Array Oper}{l:List Oper}(b:Le h0 env H env' H')(h:WO P h0 N all l env' H' Q):WO P h0 N all l env H Q:=by
 intro g f i σ a w r hrd;obtain⟨d,σ',j,s,t⟩:=b f i σ N a w r;exact Yq (λe a w q=>q.step (YN s) t) _ _ _ (h g f d σ' a w j hrd)
theorem WO.mono{all:Array Oper}{l:List Oper}(h:WO P h0 N all l env H Q)(hq:∀x env H,Q x env H->Q' x env H):WO P h0 N all l env H Q':=
 λrd fr ro σ a w r hrd=>Yq (λe a w q=>q.mono hq) _ _ _ (h rd fr ro σ a w r hrd)
def Seq(P:Program)(h0 N:Nat)(c:Code)(Q:QA):QA
 |.normal,env,H=>TC P h0 N c env H Q
 |.exit id,env,H=>Q (.exit id) env H
 |.ret,env,H=>Q .ret env H
def Blo(id:Nat)(Q:QA):QA
 |.normal,env,H=>Q .normal env H
 |.exit id',env,H=>bif Nat.beq id' id then Q .normal env H else Q (.exit id') env H
 |.ret,env,H=>Q .ret env H
theorem TC.seq(h:TC P h0 N c env H (Seq P h0 N c' Q)):TC P h0 N (.seq c c') env H Q:=by
 intro n s t σ a w r hrd;refine wpIn_seq (Code.wpIn_mono ?_ (h n s t σ a w r hrd));rintro e u p ⟨x,b,H',d,σ',f,j,m,l,g,k,i⟩;cases e with
 |normal=>
  obtain rfl:x=.normal:=j;exact Code.wpIn_mono (λe a w q=>q.grow g k i) (m n f d σ' u p l (hrd.to g i.sub))
 |exit id=>
  obtain rfl:x=.exit id:=j;exact⟨_,b,H',d,σ',f,rfl,m,l,g,k,i⟩
 |ret=>
  obtain rfl:x=.ret:=j;exact⟨_,b,H',d,σ',f,rfl,m,l,g,k,i⟩
 |_=>exact j.elim
theorem TC.skip(h:Q .normal env H):TC P h0 N .skip env H Q:=
 λrd fr ro σ a w r hrd=>wpIn_skip ⟨_,env,H,ro,σ,fr,rfl,h,r,Qe.refl _ _ _,rfl,Grow.refl _ _ _⟩
theorem TC.ret(h:Q .ret env H):TC P h0 N .ret env H Q:=
 λrd fr ro σ a w r hrd=>wpIn_ret ⟨_,env,H,ro,σ,fr,rfl,h,r,Qe.refl _ _ _,rfl,Grow.refl _ _ _⟩
theorem TC.exit{id:Nat}(h:Q (.exit id) env H):TC P h0 N (.exit id) env H Q:=
 λrd fr ro σ a w r hrd=>wpIn_exit ⟨_,env,H,ro,σ,fr,rfl,h,r,Qe.refl _ _ _,rfl,Grow.refl _ _ _⟩
theorem TC.block{id:Nat}(h:TC P h0 N c env H (Blo id Q)):TC P h0 N (.block id c) env H Q:=by
 intro s p t σ a w r hrd;refine wpIn_block (Code.wpIn_mono ?_ (h s p t σ a w r hrd));rintro e y u ⟨x,b,H',d,σ',f,n,i,k,l,j,m⟩;cases e with
 |normal=>
  obtain rfl:x=.normal:=n;exact⟨_,b,H',d,σ',f,rfl,i,k,l,j,m⟩
 |exit g=>
  obtain rfl:x=.exit g:=n;simp only[Exit.inBlock];simp only[Blo]at i;by_cases e:g=id
  .subst e;rw[Vv rfl];rw[VH]at i;exact⟨_,b,H',d,σ',f,rfl,i,k,l,j,m⟩
  .rw[Vu e];have:Nat.beq g id=false:=by
    rw[VO];intro q;exact e (XS q)
   rw[this]at i;exact⟨_,b,H',d,σ',f,rfl,i,k,l,j,m⟩
 |ret=>
  obtain rfl:x=.ret:=n;exact⟨_,b,H',d,σ',f,rfl,i,k,l,j,m⟩
 |_=>exact n.elim
def opA(env:Env):Operand->A
 |.tmp t=>lk env t
 |.const (.bool b)=>.bool b
 |.const (.int k n)=>.int k n
 |.const (.string s)=>.str s.data.toList
 |.const (.pointer none)=>.nilp
 |.const (.slice none 0 0)=>.nils
 |.const (.map none)=>.nilm
 |.const .nilFunc=>.nilf
 |.const .nilIface=>.nilif
 |.func f=>.fn (.func f) [] []
 |_=>.any
theorem Qd{fr ro:Nat->Prop}{σ:Sig}{a:Act}{w:World}(r:Rel fr ro σ H env N a w)(x:Operand):VR ro σ w (opA env x) (a.eval x):=by
 cases x with
 |tmp t=>exact r.env t
 |const v=>
  cases v with
  |slice a n k=>
   cases a with
   |none=>
    cases n with
    |zero=>cases k with
     |zero=>rfl
     |succ k=>trivial
    |succ n=>trivial
   |some a=>trivial
  |pointer p=>cases p with
   |none=>rfl
   |some p=>trivial
  |map p=>cases p with
   |none=>rfl
   |some p=>trivial
  |string s=>simp[opA,VR,Act.eval]
  |_=>first|trivial|rfl|simp[opA,VR,Act.eval]
 |global g=>trivial
 |func f=>exact⟨[],[],rfl,rfl,rfl⟩
theorem TC.cond{x:Operand}{t:Bool}(h:opA env x=.bool t)(i:t=true->TC P h0 N c env H Q)(j:t=false->TC P h0 N c' env H Q):
  TC P h0 N (.cond x c c') env H Q:=by
 intro g f b σ a w r hrd;have d:=Qd r x;rw[h]at d;exact wpIn_cond_split d (λe=>i e g f b σ a w r hrd) (λe=>j e g f b σ a w r hrd)
theorem Qiv{t:Array Value}{d s:Nat}{v:Value}(a:d<t.size):(t.setIfInBounds d v).getD s undef=if s=d then v else t.getD s undef:=by
 simp only[Array.getD_eq_getD_getElem?,Vg];by_cases e:s=d
 .subst e;simp[a]
 .rw[Vu (λq=>e q.symm),Vu e]
theorem VR.up{fr ro:Nat->Prop}{σ:Sig}{a:Act}{w:World}(r:∀s,VR ro σ w (lk env s) (a.tmps.getD s undef)){d:Nat}(b:d<a.tmps.size){x:A}{v:Value}(f:VR ro σ w x v):
  ∀s,VR ro σ w (lk (up env d x) s) ((a.tmps.setIfInBounds d v).getD s undef):=by
 intro s;rw[Qiv b];simp only[up,lk];by_cases e:s=d
 .subst e;rw[VH,Vv rfl];exact f
 .have:Nat.beq s d=false:=by
   rw[VO];intro q;exact e (XS q)
  rw[this,Vu e];exact r s
def Qp(all:Array Oper)(o:Oper)(env:Env)(b:Bool):Prop:=
 match o.guard with
 |none=>b=true
 |some (j,c)=>∃d,(all[j]?).bind (·.dst)=some d/\((∃x,lk env d=.bool x/\b=(x==c))\/(lk env d=.tup []/\b=false))
theorem YK{all:Array Oper}{o:Oper}{b:Bool}(h:Qp all o env b){fr ro:Nat->Prop}{σ:Sig}{a:Act}{w:World}(r:Rel fr ro σ H env N a w):
  Region.wanted o (yielded all a.tmps)=b:=by
 unfold Qp at h;unfold Region.wanted;cases n:o.guard with
 |none=>rw[n]at h;exact h.symm
 |some g=>
  obtain⟨j,c⟩:=g;rw[n]at h;obtain⟨d,m,⟨x,k,i⟩|⟨k,i⟩⟩:=h
  .have f:=r.env d;rw[k]at f;simp only[VR]at f;have p:a.tmps[d]?=some (.bool x):=by
    rw[Array.getD_eq_getD_getElem?]at f;cases e:a.tmps[d]? with
    |none=>rw[e]at f;simp[undef]at f
    |some y=>rw[e]at f;simp at f;rw[f]
   simp only[yielded,m,XL,p,i];cases x<;>cases c<;>rfl
  .have f:=r.env d;rw[k]at f;obtain⟨l,f,q⟩:=f;rw[Array.getD_eq_getD_getElem?]at f;subst i;simp only[yielded,m,XL];cases e:a.tmps[d]? with
   |none=>cases c<;>rfl
   |some y=>rw[e]at f;simp at f;subst f;cases c<;>rfl
def OpV(P:Program)(o:Oper)(env:Env)(H:Qc)(x:A):Prop:=
 ∀fr ro σ N a w,Rel fr ro σ H env N a w->∃v,(execOp a.eval o).run P w=.ok (.value v) w/\VR ro σ w x v
def OpH(P:Program)(o:Oper)(env:Env)(H:Qc)(x:A)(H':Qc):Prop:=
 ∀fr ro σ N a w,Rel fr ro σ H env N a w->∃v w' ro' τ,(execOp a.eval o).run P w=.ok (.value v) w'/\VR ro' (σ++τ) w' x v/\
  Sim fr ro' (σ++τ) H' w'/\Qe fr ro w ro' w'
def OpU(P:Program)(o:Oper)(env:Env)(H:Qc)(H':Qc):Prop:=
 ∀fr ro σ N a w,Rel fr ro σ H env N a w->∃w' ro' τ,(execOp a.eval o).run P w=.ok .skip w'/\
  Sim fr ro' (σ++τ) H' w'/\Qe fr ro w ro' w'
theorem WO.nil{all:Array Oper}(h:Q .normal env H):WO P h0 N all [] env H Q:=
 λrd fr ro σ a w r hrd=>⟨_,env,H,ro,σ,fr,rfl,h,r,Qe.refl _ _ _,rfl,rfl,Grow.refl _ _ _⟩
theorem Qy{σ τ:Sig}{h0:Nat}(h:h0<=σ.length):(σ++τ).take h0=σ.take h0:=by
 rw[X9 h]
theorem Y8{all:Array Oper}{o:Oper}{l:List Oper}{d:Nat}{x:A}(t:h0<=H.length)(hg:Qp all o env true)(p:o.dst=some d)(j:Nat.blt d N=true)
  (h:OpH P o env H x H')(k:WO P h0 N all l (up env d x) H' Q):WO P h0 N all (o::l) env H Q:=by
 intro n fr u σ a w r hrd;obtain⟨v,i,b,τ,z,y,m,f⟩:=h fr u σ N a w r;refine Qac (YK hg r) z ?_;simp only[p,Act.put];have g:d<N:=by simpa using j
 have B:Rel fr b (σ++τ) H' (up env d x) N {a with tmps:=a.tmps.setIfInBounds d v} i:=
  ⟨m,VR.up (fr:=fr) (λs=>(r.env s).mono (f.ext σ τ)) (by rw[r.size];exact g) y,by simpa using r.size,r.defers.keep f⟩
 refine Yq (λe a w q=>q.step f (Qy ?_)) _ _ _ (k n fr b (σ++τ) _ i B (hrd.to f λ_ q=>q));rw[r.sim.len];exact t
theorem QK{all:Array Oper}{o:Oper}{l:List Oper}{d:Nat}{x:A}(hg:Qp all o env true)(i:o.dst=some d)(g:Nat.blt d N=true)
  (e:OpV P o env H x)(k:WO P h0 N all l (up env d x) H Q):WO P h0 N all (o::l) env H Q:=by
 intro h fr f σ a w r hrd;obtain⟨v,m,j⟩:=e fr f σ N a w r;refine Qac (YK hg r) m ?_;simp only[i,Act.put];have b:d<N:=by simpa using g
 exact k h fr f σ {a with tmps:=a.tmps.setIfInBounds d v} w ⟨r.sim,VR.up (fr:=fr) r.env (by rw[r.size];exact b) j,by simpa using r.size,r.defers⟩ hrd
theorem QbC{all:Array Oper}{o:Oper}{l:List Oper}(n:h0<=H.length)(hg:Qp all o env true)(m:o.dst=none)
  (f:OpU P o env H H')(k:WO P h0 N all l env H' Q):WO P h0 N all (o::l) env H Q:=by
 intro j g p σ a w r hrd;obtain⟨h,b,τ,t,i,d⟩:=f g p σ N a w r;refine Qh2 (YK hg r) t ?_;simp only[m,Act.put];have u:Rel g b (σ++τ) H' env N a h:=⟨i,λs=>(r.env s).mono (d.ext σ τ),r.size,r.defers.keep d⟩;refine Yq (λe a w q=>q.step d (Qy ?_)) _ _ _ (k j g b (σ++τ) _ h u (hrd.to d λ_ q=>q));rw[r.sim.len];exact n
theorem Qp6{all:Array Oper}{o:Oper}{l:List Oper}{x:A}(n:h0<=H.length)(hg:Qp all o env true)(m:o.dst=none)
  (f:OpH P o env H x H')(k:WO P h0 N all l env H' Q):WO P h0 N all (o::l) env H Q:=by
 intro j g p σ a w r hrd;obtain⟨v,h,b,τ,t,y,i,d⟩:=f g p σ N a w r;refine Qac (YK hg r) t ?_;simp only[m,Act.put];have u:Rel g b (σ++τ) H' env N a h:=⟨i,λs=>(r.env s).mono (d.ext σ τ),r.size,r.defers.keep d⟩;refine Yq (λe a w q=>q.step d (Qy ?_)) _ _ _ (k j g b (σ++τ) _ h u (hrd.to d λ_ q=>q));rw[r.sim.len];exact n
theorem WO.skip{all:Array Oper}{o:Oper}{l:List Oper}{d:Nat}(hg:Qp all o env false)(e:o.dst=some d)(g:Nat.blt d N=true)
  (k:WO P h0 N all l (up env d (.tup [])) H Q):WO P h0 N all (o::l) env H Q:=by
 intro h fr f σ a w r hrd;unfold wpL wpListIn;rw[YK hg r,Vu (by simp)];refine⟨λ_ _=>trivial,?_⟩;simp only[e,Act.put];have b:d<N:=by simpa using g
 exact k h fr f σ {a with tmps:=a.tmps.setIfInBounds d undef} w ⟨r.sim,VR.up (fr:=fr) r.env (by rw[r.size];exact b) ⟨[],rfl,rfl⟩,by simpa using r.size,r.defers⟩ hrd
theorem TC.region{id:Nat}{l:List Oper}(h:WO P h0 N l.toArray l env H Q):TC P h0 N (.region id l.toArray false) env H Q:=
 λrd fr ro σ a w r hrd=>Code.wpIn_mono (λe a w q=>q.postW) (wpIn_region_lit (h rd fr ro σ a w r hrd))
end
end Go.Sw
namespace Go.Sw
mutual
def YI(ρ:Nat->Nat):A->A
 |.ptr i off=>.ptr (ρ i) off
 |.osl i o n k=>.osl (ρ i) o n k
 |.agg cs=>.agg (Qaa ρ cs)
 |.fn f a c=>.fn f (Qaa ρ a) (Qaa ρ c)
 |.iface t v=>.iface t (YI ρ v)
 |.map i=>.map (ρ i)
 |.tup vs=>.tup (Qaa ρ vs)
 |a=>a
def Qaa(ρ:Nat->Nat):List A->List A
 |[]=>[]
 |a::r=>YI ρ a::Qaa ρ r
end
def Qhe(ρ:Nat->Nat):List (List A)->List (List A)
 |[]=>[]
 |a::r=>Qaa ρ a::Qhe ρ r
def QjI(ρ:Nat->Nat):List (A×A)->List (A×A)
 |[]=>[]
 |a::r=>(YI ρ a.1,YI ρ a.2)::QjI ρ r
def QW(ρ:Nat->Nat):Blk->Blk
 |.cells t cs=>.cells t (Qaa ρ cs)
 |.rowr t k es=>.rowr t k (Qhe ρ es)
 |.ents t b1 b2 es=>.ents t (ρ b1) (ρ b2) es
 |.mapP es=>.mapP (QjI ρ es)
 |b=>b
theorem Qgn(ρ:Nat->Nat)(b1 b2:Nat):∀(es:List Ent),Qhe ρ (es.map (eC b1 b2))=es.map (eC (ρ b1) (ρ b2))
 |[]=>rfl
 |e::es=>by
  have:=Qgn ρ b1 b2 es;simp only[Vl,Qhe,this];congr 1;cases h:e.fl<;>simp[eC,Qaa,YI,h]
theorem QM(ρ:Nat->Nat)(x:Blk):(QW ρ x).live=x.live:=by cases x<;>rfl
theorem Qao(ρ:Nat->Nat)(x:Blk)(w:World)(b c:Nat):Hid w (QW ρ x) b c↔Hid w x b c:=by cases x<;>exact Iff.rfl
section
variable {ro:Nat->Prop} {σ σ':Sig} {w:World} {ρ:Nat->Nat} (h:∀i:Nat,σ[ρ i]?=σ'[i]?)
include h
mutual
theorem QdO:∀{a:A} {v:Value},VR ro σ w (YI ρ a) v↔VR ro σ' w a v
 |.any,_=>by simp only[YI,VR]
 |.bool b,v=>by simp only[YI,VR]
 |.int k n,v=>by simp only[YI,VR]
 |.str s,v=>by simp only[YI,VR]
 |.nilp,v=>by simp only[YI,VR]
 |.ptr i off,v=>by simp only[YI,VR,h]
 |.rp cs,v=>by simp only[YI,VR]
 |.nils,v=>by simp only[YI,VR]
 |.rsl k es,v=>by simp only[YI,VR]
 |.osl i o n k,v=>by simp only[YI,VR,h]
 |.agg cs,v=>by simp only[YI,VR];exact exists_congr λl=>and_congr_right λ_=>QbG
 |.fn f a c,v=>by simp only[YI,VR];exact exists_congr λl=>exists_congr λl'=>and_congr_right λ_=>and_congr QbG QbG
 |.nilf,v=>by simp only[YI,VR]
 |.iface t a,v=>by simp only[YI,VR];exact exists_congr λl=>and_congr_right λ_=>QdO
 |.nilif,v=>by simp only[YI,VR]
 |.map i,v=>by simp only[YI,VR,h]
 |.nilm,v=>by simp only[YI,VR]
 |.tup vs,v=>by simp only[YI,VR];exact exists_congr λl=>and_congr_right λ_=>QbG
theorem QbG:∀{az:List A} {l:List Value},LR ro σ w (Qaa ρ az) l↔LR ro σ' w az l
 |[],l=>by simp only[Qaa,LR]
 |a::r,l=>by
  simp only[Qaa,LR];exact exists_congr λv=>exists_congr λl'=>and_congr_right λ_=>and_congr QdO QbG
end
theorem Qd1:∀(cs:List A),(Qaa ρ cs).length=cs.length
 |[]=>rfl
 |a::r=>by simp[Qaa,Qd1 r]
theorem Qkh{k:Nat}:∀{es:List (List A)} {l:List Value},RL ro σ w k (Qhe ρ es) l↔RL ro σ' w k es l
 |[],l=>by simp only[Qhe,RL]
 |a::r,l=>by
  simp only[Qhe,RL,Qd1 h];exact exists_congr λl1=>exists_congr λl2=>and_congr_right λ_=>and_congr_right λ_=>and_congr (and_congr_left λ_=>QbG h) Qkh
theorem Qn5:∀{es:List (A×A)} {l:List MapEntry},ER ro σ w (QjI ρ es) l↔ER ro σ' w es l
 |[],l=>by simp only[QjI,ER]
 |a::r,l=>by
  simp only[QjI,ER];exact exists_congr λe=>exists_congr λl'=>and_congr_right λ_=>and_congr (QdO h) (and_congr (QdO h) Qn5)
theorem Qh0{x:Blk}{s:Option Nat}:BR ro σ w (QW ρ x) s↔BR ro σ' w x s:=by
 cases x with
 |cells t f=>
  cases s with
  |none=>exact Iff.rfl
  |some b=>simp only[QW,BR];exact exists_congr λl=>and_congr_right λ_=>and_congr_left λ_=>QbG h
 |rowr t k a=>
  cases s with
  |none=>exact Iff.rfl
  |some b=>simp only[QW,BR];exact exists_congr λl=>and_congr_right λ_=>Qkh h
 |mapP a=>
  cases s with
  |none=>exact Iff.rfl
  |some b=>simp only[QW,BR];exact exists_congr λl=>exists_congr λc=>and_congr_right λ_=>and_congr_left λ_=>Qn5 h
 |ents t d e a=>
  cases s with
  |none=>exact Iff.rfl
  |some b=>
   simp only[QW,BR];refine exists_congr λl=>and_congr_right λ_=>?_;rw[<- Qgn];exact Qkh h
 |_=>cases s<;>exact Iff.rfl
end
def C(P:Program)(f:FuncId)(args:List A)(H:Qc)(Q:A->Qc->Prop):Prop:=
 ∀fr ro σ vals w,Sim fr ro σ H w->LR ro σ w args vals->Calls P f vals.toArray w λe w'=>
  ∃v r H' ro' τ,e=.returned v/\Q r H'/\Sim fr ro' (σ++τ) H' w'/\VR ro' (σ++τ) w' r v/\Qe fr ro w ro' w'
theorem C.mono{P:Program}{f:FuncId}{args:List A}{H:Qc}{Q Q':A->Qc->Prop}(h:C P f args H Q)(hq:∀r H,Q r H->Q' r H):C P f args H Q':=
 λfr ro σ vals w s l=>(h fr ro σ vals w s l).mono λe w' ⟨v,r,H',ro',τ,h1,h2,h3⟩=>⟨v,r,H',ro',τ,h1,hq _ _ h2,h3⟩
def QgN:Nat->List A->Env
 |_,[]=>[]
 |i,a::r=>(i,a)::QgN (i+1) r
theorem Qe8{ro:Nat->Prop}{σ:Sig}{w:World}:∀{args:List A} {vals:List Value} {i:Nat} (pre:List Value),pre.length=i->LR ro σ w args vals->∀rest:Array Value,
  ∀s,VR ro σ w (lk (QgN i args) s) (((pre++vals).toArray++rest).getD s undef)
 |[],vals,i,pre,hp,hl,rest,s=>trivial
 |a::r,vals,i,pre,hp,hl,rest,s=>by
  simp only[LR]at hl;obtain⟨v,l',rfl,h1,h2⟩:=hl;simp only[QgN,lk];by_cases e:s=i
  .subst e;rw[VH];have:((pre++v::l').toArray++rest).getD s undef=v:=by
    subst hp;simp[Array.getD_eq_getD_getElem?,Array.getElem?_append]
   rw[this];exact h1
  .have:Nat.beq s i=false:=by
    rw[VO];intro q;exact e (XS q)
   rw[this];have:=Qe8 (i:=i+1) (pre++[v]) (by simp[hp]) h2 rest s;simpa using this
def Qdl(P:Program)(fn:Func)(env:Env)(H:Qc)(r:A):Prop:=
 ∀fr ro σ N a w,Rel fr ro σ H env N a w->∃v,(results fn a.tmps).run P w=.ok v w/\VR ro σ w r v
def Qdk(P:Program)(h0:Nat)(fn:Func)(Q:A->Qc->Prop):QA
 |.normal,env,H=>∃env' H' r,Le h0 env H env' H'/\Qdl P fn env' H' r/\Q r H'
 |.ret,env,H=>∃env' H' r,Le h0 env H env' H'/\Qdl P fn env' H' r/\Q r H'
 |.exit _,_,_=>False
theorem LR.length{ro:Nat->Prop}{σ:Sig}{w:World}:∀{az:List A} {l:List Value},LR ro σ w az l->l.length=az.length
 |[],l,h=>by simp only[LR]at h;simp[h]
 |a::r,l,h=>by
  simp only[LR]at h;obtain⟨v,l',rfl,_,h2⟩:=h;simp[h2.length]
theorem Sim.turn{fr ro:Nat->Prop}{σ:Sig}{H:Qc}{w:World}(s:Sim fr ro σ H w){b:Nat}{obj:Obj}(r:¬ro b)(n:¬fr b)(u:∀(i:Nat) (x:Blk),σ[i]?=some (some b)->H[i]?=some x->x.live=true->False)
  (k:∀(i d:Nat) (x:Blk),σ[i]?=some (some d)->H[i]?=some x->Hid w x d b->False)
  (t:∀y,w.shape? b=some y->(w.putObj b obj).shape? b=some y):Sim fr ro σ H (w.putObj b obj)/\Qe fr ro w ro (w.putObj b obj):=by
 have a:∀c,c≠b->(w.putObj b obj).heap[c]?=w.heap[c]? :=λc G=>World.putObj_heap_other G;have f:(w.putObj b obj).heap.size=w.heap.size:=by simp
 have ev:Qe fr ro w ro (w.putObj b obj):=by
  refine⟨λ_ q=>q,λc q=>a c (λe=>r (e▸q)),λc q=>a c (λe=>n (e▸q)),by rw[f];exact XV _,λc x q=>?_,rfl,rfl,rfl,XV _⟩;by_cases e:c=b
  .subst e;exact t x q
  .unfold World.shape? at q⊢;rw[a c e];exact q
 have g:Ext ro σ w ro σ (w.putObj b obj):=by have:=ev.ext σ [];simpa using this
 refine⟨⟨s.len,s.roOk.to (λ_ q=>q) ev.keepRo (λc q=>by rw[f];exact s.roLt c q),λc q=>by rw[f];exact s.frLt c q,s.roFr,λi c x h l J=>?_,s.inj,λi y x h l=>?_,
  s.hidTo (· = ·) QY (by rw[f];exact XV _) (λ_ _ _ _ _ _ _ q=>q) (λ_ _ _ _ _ _ _ q=>q) λj d y p m M=>.inl ⟨j,y,rfl,p,m,id,λc q=>s.hidKeep p m (λz=>a d (λe=>u j y (e▸p) m z)) ev.keepRo q⟩⟩,ev⟩
 .obtain⟨F,L,B⟩:=s.own i c x h l J;exact⟨by rw[f];exact F,L,B⟩
 .refine(s.blk i y x h l).keep g ?_ ?_
  .rintro c rfl E;exact a c (λe=>u i x (e▸h) l E)
  .rintro d c rfl q;exact a c (λe=>k i d x h l (e▸q))
theorem Qbu{P:Program}{fn:Func}{tmps:Array Value}{R:Ending->World->Prop}{fr ro:Nat->Prop}{σ:Sig}{H:Qc}:
  ∀(ds:List Deferred) (w:World),ds.Nodup->(∀d∈ds,∃D,d={target:=.collected D,args:= #[]}/\ ¬ro D/\ ¬fr D/\(∀(i:Nat) (x:Blk),σ[i]?=some (some D)->H[i]?=some x->x.live=true->False)/\(∀(i d:Nat) (x:Blk),σ[i]?=some (some d)->H[i]?=some x->Hid w x d D->False)/\w.heap[D]?=some (.deferred (some [])))->
  Sim fr ro σ H w->(∀w',Sim fr ro σ H w'->Qe fr ro w ro w'->∃v,(results fn tmps).run P w'=.ok v w'/\R (.returned v) w')->LeavesInM Fence.wide 0 P fn tmps R ds .returning w
 |[],w,_,_,s,hk=>by
  obtain⟨v,h1,h2⟩:=hk w s (Qe.refl _ _ _);exact⟨v,h1,h2⟩
 |d::ds,w,hn,hd,s,hk=>by
  obtain⟨D,rfl,h1,h2,h3,h5,h4⟩:=hd d (by simp);obtain⟨n1,n2⟩:=List.nodup_cons.1 hn;obtain⟨s',ev⟩:=s.turn (obj:=.deferred none) h1 h2 h3 h5 (λy q=>by unfold World.shape? at q;rw[h4]at q;simp at q);refine⟨(by intro e;cases e),.inl ⟨D,_,rfl,run_takeDeferred h4,?_⟩⟩;refine Qbu ds _ n2 (λd' q=>?_) s' (λw' q1 q2=>hk w' q1 (ev.trans q2));obtain⟨D',rfl,g1,g2,g3,g5,g4⟩:=hd d' (by simp[q]);refine⟨D',rfl,g1,g2,g3,λi d x z1 z2 z3=>g5 i d x z1 z2 (s.hidKeep z1 z2 (λz=>World.putObj_heap_other (λe:d=D=>h3 i x (e▸z1) z2 z)) (λb q=>World.putObj_heap_other (λe:b=D=>h1 (e▸q))) z3),(World.putObj_heap_other (λe=>?_)).trans g4⟩;subst e;exact n1 q
theorem Qb{P:Program}{f:FuncId}{fn:Func}{c:Code}{N:Nat}{args:List A}{H:Qc}{Q:A->Qc->Prop}
  (hf:P.funcs[f]?=some fn)(hb:fn.body=some c)(hN:fn.ntmps=N)(hA:Nat.ble args.length N=true)
  (h:TC P H.length N c (QgN 0 args) H (Qdk P H.length fn Q)):C P f args H Q:=by
 intro fr ro σ vals w hs hl;have p:=hl.length;have aa:args.length<=N:=by simpa using hA
 refine(callsIn_wide (n:=0)).1 (callsIn_of_wp_marks hf hb trivial (Code.wpIn_mono ?_ (h none fr ro σ _ w ⟨hs,?_,?_,List.nodup_nil,λd k=>by cases k⟩ Qew.none)))
 .rintro e y j ⟨x,l,H1,O,σ1,M,z,L,h3,h4,h5,W⟩;have t:(∃g H' r,Le H.length l H1 g H'/\Qdl P fn g H' r/\Q r H')->LeavesInM Fence.wide 0 P fn y.tmps (λe j=>
    ∃v' r H' a τ,e=.returned v'/\Q r H'/\Sim fr a (σ++τ) H' j/\VR a (σ++τ) j r v'/\Qe fr ro w a j) y.defers .returning j:=by
   rintro⟨g,H',r,F,hr,hq⟩;obtain⟨a,σ',b,u,ht⟩:=F M O σ1 N y j h3;have hσ:σ'=σ++σ'.drop H.length:=by
    have G:σ'.take H.length=σ:=by rw[ht,h5,VK (by rw[hs.len];exact XV _)]
    conv=>lhs;rw[<- XA H.length σ',G]
   have s1:Sim fr a σ' H' j:=b.sim.frMono W.sub;refine Qbu (ro:=a) (fr:=fr) (σ:=σ') (H:=H') y.defers j b.defers.1 (λd k=>?_) s1 (λX Y m=>?_)
   .obtain⟨D,rfl,J,g2⟩:=b.defers.2 d k;refine⟨D,rfl,λq=>b.sim.roFr D q J,λq=>?_,λi x B T R=>(b.sim.own i D x B T R).2.2 J,λi d x B T R=>(b.sim.hid i d x D B T R).fr J,g2⟩;rcases W.ds _ k with V|⟨D',e,V⟩
    .cases V
    .have:D=D':=by simpa using e
     subst this;have:=hs.frLt D q;omega
   .have E:Rel fr a σ' H' g N {y with defers:=[]} X:=⟨Y,λs=>(b.env s).mono (by have:=m.ext σ' [];simpa using this),b.size,List.nodup_nil,λd k=>by cases k⟩;obtain⟨v,G,e2⟩:=hr fr a σ' N _ X E;exact⟨v,G,v,r,H',a,σ'.drop H.length,rfl,hq,hσ▸Y,hσ▸e2,(h4.trans (YN u)).trans m⟩
  cases e with
  |normal=>
   obtain rfl:x=.normal:=z;exact t L
  |ret=>
   obtain rfl:x=.ret:=z;exact t L
  |exit id=>
   obtain rfl:x=.exit id:=z;exact L.elim
  |_=>exact z.elim
 .intro s;have:=Qe8 (i:=0) [] rfl hl (Array.replicate (fn.ntmps-vals.toArray.size) undef) s;simpa using this
 .simp[hN,p];omega
section
variable {P:Program} {fn:Func} {env:Env} {H:Qc}
theorem Qdl.nil(h:fn.results= #[]):Qdl P fn env H (.tup []):=
 λfr ro σ N a w r=>⟨.tuple #[],by simp[results,h,go_sem],[],rfl,rfl⟩
theorem Qdl.one{t:Nat}{x:A}(h:fn.results= #[.tmp t])(hx:lk env t=x):Qdl P fn env H x:=
 λfr ro σ N a w r=>⟨a.tmps.getD t undef,by simp[results,h,go_sem],hx▸r.env t⟩
theorem QlU{t u:Nat}{x y:A}(h:fn.results= #[.tmp t,.tmp u])(hx:lk env t=x)(hy:lk env u=y):Qdl P fn env H (.tup [x,y]):=
 λfr ro σ N a w r=>⟨.tuple #[a.tmps.getD t undef,a.tmps.getD u undef],by simp[results,h,go_sem],
  [_,_],rfl,_,_,rfl,hx▸r.env t,_,_,rfl,hy▸r.env u,rfl⟩
end
inductive Ctl (S B:Type) where
 |cont (s:S)
 |done (b:B)
 deriving DecidableEq
def iter{S B:Type}(step:S->Option (Ctl S B)):Nat->S->Option B
 |0,_=>none
 |n+1,s=>match step s with
  |some (.cont s')=>iter step n s'
  |some (.done b)=>some b
  |none=>none
def Qbm{S B:Type}(I:S->Env->Qc->Prop)(d:Ctl S B)(Q:QA):QA
 |.normal,env,H=>∃s,d=.cont s/\I s env H
 |.exit id,env,H=>(∃b,d=.done b)/\Q (.exit id) env H
 |.ret,env,H=>(∃b,d=.done b)/\Q .ret env H
theorem Qi8{P:Program}{h0 N:Nat}{c:Code}{S B:Type}{step:S->Option (Ctl S B)}{I:S->Env->Qc->Prop}{Q:QA}{F:B}
  (body:∀s d env H,I s env H->step s=some d->(∀b,d=.done b->b=F)->TC P h0 N c env H (Qbm I d Q))
  {m:Nat}{s0:S}(h:iter step m s0=some F){env:Env}{H:Qc}(M:I s0 env H):TC P h0 N (.loop c) env H Q:=by
 intro V t E σ a w r hrd b k cs hro hb hr;have J:∀m s env H fr1 ro1 σ1 a1 w1,iter step m s=some F->I s env H->Rel fr1 ro1 σ1 H env N a1 w1->Qe t E w ro1 w1->σ1.take h0=σ.take h0->Grow t w a.defers fr1 a1.defers->
   ∃e j i,QaQ h0 t E σ w N a.defers Q e j i/\ArrivesIn (Machine.fenced P (WF V)) P (lone (b.atR a1 (.code c::.inLoop c::k)) cs w1) b k cs e j i:=by
  intro m
  induction m with
  |zero=>intro s env H fr1 ro1 σ1 a1 w1 hit;simp[iter]at hit
  |succ m ih=>
   intro s env H fr1 ro1 σ1 a1 w1 hit M r1 ev1 t1 g1;simp only[iter]at hit;cases G:step s with
   |none=>rw[G]at hit;simp at hit
   |some d=>
    rw[G]at hit;have hd:∀b,d=.done b->b=F:=by
     rintro b rfl;simpa using hit
    obtain⟨e,j,i,O,f⟩:=body s d env H M G hd V fr1 ro1 σ1 a1 w1 r1 (hrd.to ev1 g1.sub) b (.inLoop c::k) cs hro hb hr;obtain⟨x,g,H',n,σ',u,z,y,X,q4,W,Y⟩:=O;have p:=ev1.trans (q4.frMono g1.sub);have R:=g1.trans ev1.size Y;have T:∀x,Q x g H'->ExR e x->QaQ h0 t E σ w N a.defers Q e j i:=λx q q'=>⟨x,g,H',n,σ',u,q',q,X,p,W.trans t1,R⟩;cases e with
    |normal=>
     obtain rfl:x=.normal:=z;obtain⟨s',rfl,y⟩:=y;obtain⟨e2,a2,w2,L,l⟩:=ih s' g H' u n σ' j i hit y X p (W.trans t1) R;exact⟨e2,a2,w2,L,.of_steps (StepsIn.trans f (.one (fenced_calm hb hr rfl) stepR_inLoop)) l⟩
    |exit id=>
     obtain rfl:x=.exit id:=z;exact⟨_,j,i,T _ y.2 rfl,.pass (x:=.inLoop c) rfl (λ_ _=>.inl (by simp)) f⟩
    |ret=>
     obtain rfl:x=.ret:=z;exact⟨_,j,i,T _ y.2 rfl,.pass (x:=.inLoop c) rfl (λ_ _=>.inl (by simp)) f⟩
    |_=>exact z.elim
 obtain⟨e,j,i,O,f⟩:=J m s0 env H t E σ a w h M r (Qe.refl _ _ _) rfl (Grow.refl _ _ _);exact⟨e,j,i,O,.of_steps (.one (fenced_calm hb hr rfl) stepR_loop) f⟩
theorem TC.loop{P:Program}{h0 N:Nat}{c:Code}{S B:Type}{step:S->Option (Ctl S B)}(E:S->Env)(Hp:S->Qc){Q:QA}
  {m:Nat}{s0:S}{b0:B}(h:iter step m s0=some b0){env:Env}{H:Qc}(hI:Le h0 env H (E s0) (Hp s0))
  (body:∀s d,step s=some d->(∀b,d=.done b->b=b0)->TC P h0 N c (E s) (Hp s) (Qbm (λs env H=>Le h0 env H (E s) (Hp s)) d Q)):TC P h0 N (.loop c) env H Q:=
 Qi8 (I:=λs env H=>Le h0 env H (E s) (Hp s)) (λs d env H hI hs hd=>TC.le hI (body s d hs hd)) h hI
end Go.Sw
namespace Go.Sw
def rho(π:List Nat)(n i:Nat):Nat:=
 match π[i]? with
 |some p=>p
 |none=>n+(i-π.length)
def Yy:Qc->List Nat->List Blk->Qc
 |H,[],xs=>H++xs
 |H,p::π,x::xs=>Yy (H.set p x) π xs
 |H,_::_,[]=>H
theorem Qcm:∀(π:List Nat) (H:Qc) (xs:List Blk),π.length<=xs.length->(Yy H π xs).length=H.length+(xs.length-π.length)
 |[],H,xs,_=>by simp[Yy]
 |p::π,H,[],h=>by simp at h
 |p::π,H,x::xs,h=>by
  simp only[X3]at h;simp only[Yy,Qcm π (H.set p x) xs (by omega),X6,X3];omega
theorem Qcx:∀(π:List Nat) (H:Qc) (xs:List Blk) (i:Nat),i<H.length->i∉π->(Yy H π xs)[i]?=H[i]?
 |[],H,xs,i,hi,_=>by simp[Yy,XO hi]
 |p::π,H,[],i,hi,h=>by simp[Yy]
 |p::π,H,x::xs,i,hi,h=>by
  simp only[X8,not_or]at h;simp only[Yy];rw[Qcx π (H.set p x) xs i (by simpa using hi) h.2,XR (λe=>h.1 e.symm)]
theorem QeS:∀(π:List Nat) (H:Qc) (xs:List Blk) (j:Nat),π.length<=xs.length->(∀p∈π,p<H.length)->π.Nodup->
  (Yy H π xs)[rho π H.length j]?=xs[j]?
 |[],H,xs,j,_,_,_=>by
  simp only[Yy,rho,List.getElem?_nil,List.length_nil,Xw];rw[XP (by omega)];congr 1;omega
 |p::π,H,[],j,h,_,_=>by simp at h
 |p::π,H,x::xs,j,h,hp,hn=>by
  simp only[X3]at h;have hn':=List.nodup_cons.1 hn;simp only[Yy];cases j with
  |zero=>
   simp only[rho,XG];rw[Qcx π _ xs p (by simpa using hp p (by simp)) hn'.1];rw[Xa (hp p (by simp))]
  |succ j=>
   have ih:=QeS π (H.set p x) xs j (by omega) (λq hq=>by simpa using hp q (by simp[hq])) hn'.2;rw[X6]at ih;have e:rho (p::π) H.length (j+1)=rho π H.length j:=by
    simp only[rho,XH,X3];cases π[j]? with
    |none=>simp only[];congr 1;omega
    |some q=>rfl
   rw[e,ih];simp
theorem Qlh(π:List Nat)(n i:Nat)(hi:n<=i\/i∈π):∃j,i=rho π n j:=by
 rcases hi with hi|hi
 .refine⟨π.length+(i-n),?_⟩;have:π[π.length+(i-n)]?=none:=XQ (by omega);simp only[rho,this];omega
 .obtain⟨j,a,rfl⟩:=List.mem_iff_getElem.1 hi;exact⟨j,by simp[rho,XM a]⟩
def Yl(σ:Sig)(π:List Nat):Sig:=π.map λp=>(σ[p]?).getD none
theorem Qey{σ τ:Sig}{π:List Nat}{n:Nat}(b:σ.length=n)(d:∀p∈π,p<n)(j:Nat):(σ++τ)[rho π n j]?=(Yl σ π++τ)[j]? :=by
 rcases VE j π.length with h|h
 .have a:π[j]∈π:=Vf h;have f:=d _ a;have e:rho π n j=π[j]:=by simp[rho,XM h]
  rw[e,XO (by omega),XO (by simpa[Yl]using h)];simp[Yl,XM h,XM (show π[j]<σ.length by omega)]
 .have e:rho π n j=n+(j-π.length):=by
   simp[rho,XQ h]
  rw[e,XP (by omega),XP (by simpa[Yl]using h)];simp[Yl,b]
def OpC(P:Program)(o:Oper)(env:Env)(H:Qc)(f:FuncId)(args:List A):Prop:=
 ∀fr ro σ N a w,Rel fr ro σ H env N a w->∃vals:List Value,(execOp a.eval o).run P w=.ok (.enter f vals.toArray) w/\LR ro σ w args vals
theorem Jn{π:List Nat}{H:Qc}{Hc:List Blk}(hH:π.map (λp=>H[p]?)=Hc.map some){p:Nat}(b:p∈π):p<H.length:=by
 have:H[p]? ∈π.map (λp=>H[p]?):=VI b;rw[hH]at this;obtain⟨x,_,a⟩:=Xf.1 this;rcases VE p H.length with h|h
 .exact h
 .rw[XQ h]at a;simp at a
theorem WO.call{P:Program}{h0 N:Nat}{all:Array Oper}{o:Oper}{l:List Oper}{env:Env}{H:Qc}{Q:QA}{d:Option Nat}{f:FuncId}
  {args ab:List A}{Hc:Qc}{Qr:A->Qc->Prop}(π:List Nat)(hh:h0<=H.length)(hg:Qp all o env true)(hd:o.dst=d)(hN:∀x,d=some x->x<N)
  (ar:OpC P o env H f args)(hargs:args=Qaa (rho π H.length) ab)(hH:π.map (λp=>H[p]?)=(Hc.map (QW (rho π H.length))).map some)(hπ:π.Nodup)
  (hC:C P f ab Hc Qr)
  (k:∀r H1,Qr r H1->WO P h0 N all l (match d with|some d=>up env d (YI (rho π H.length) r)|none=>env) (Yy H π (H1.map (QW (rho π H.length)))) Q):
  WO P h0 N all (o::l) env H Q:=by
 intro rd fr ro σ a w r hrd;obtain⟨aj,h1,h2⟩:=ar fr ro σ N a w r;refine Qdt (YK hg r) h1 ?_;have hp:∀p∈π,p<H.length:=λp q=>Jn hH q;have hσl:=r.sim.len;have ac:∀(j p:Nat),π[j]?=some p->H[p]?=(Hc[j]?).map (QW (rho π H.length)):=by
  intro j p M;have:=congrArg (λl=>l[j]?) hH;simp only[Xq,M,Xk]at this;cases e:Hc[j]? with
  |none=>rw[e]at this;simp at this
  |some x=>rw[e]at this;simpa using this
 have am:π.length=Hc.length:=by simpa using congrArg List.length hH
 have hσc:∀j:Nat,σ[rho π H.length j]?=(Yl σ π)[j]? :=by
  intro j;have:=Qey (τ:=[]) hσl hp j;simpa using this
 let frc:Nat->Prop:=λb=>fr b\/(∃i x,σ[i]?=some (some b)/\H[i]?=some x/\x.live=true/\i∉π)\/ ∃i x d,σ[i]?=some (some d)/\H[i]?=some x/\Hid w x d b/\i∉π
 have hπj:∀(j b:Nat),(Yl σ π)[j]?=some (some b)->∃p,π[j]?=some p/\σ[p]?=some (some b):=by
  intro j b M;simp only[Yl,Xq]at M;cases e:π[j]? with
  |none=>rw[e]at M;simp at M
  |some p=>
   rw[e]at M;simp at M;refine⟨p,rfl,?_⟩;cases e2:σ[p]? with
   |none=>rw[e2]at M;simp at M
   |some s=>rw[e2]at M;simp at M;rw[M]
 have hπi:∀(i j p:Nat),π[i]?=some p->π[j]?=some p->i=j:=by
  intro i j p T R;have hi:i<π.length:=by
   rcases VE i π.length with q|q
   .exact q
   .rw[XQ q]at T;simp at T
  have M:j<π.length:=by
   rcases VE j π.length with q|q
   .exact q
   .rw[XQ q]at R;simp at R
  rw[XM hi]at T;rw[XM M]at R;have ae:=(X2 T).trans (X2 R).symm;rcases Nat.lt_trichotomy i j with q|q|q
  .exact(VG.1 hπ i j hi M q ae).elim
  .exact q
  .exact(VG.1 hπ j i M hi q ae.symm).elim
 have al:Sim frc ro (Yl σ π) Hc w:=by
  refine⟨by simp[Yl,am],r.sim.roOk,?_,?_,?_,?_,?_,?_⟩
  .rintro b (hb|⟨i,x,h,g,m,J⟩|⟨i,x,d,h,g,m,J⟩)
   .exact r.sim.frLt b hb
   .exact(r.sim.own i b x h g m).1
   .exact(r.sim.hid i d x b h g m).lt
  .rintro b hb (hf|⟨i,x,h,g,m,J⟩|⟨i,x,d,h,g,m,J⟩)
   .exact r.sim.roFr b hb hf
   .exact(r.sim.own i b x h g m).2.1 hb
   .exact(r.sim.hid i d x b h g m).ro hb
  .intro j b x h g m;obtain⟨p,T,e2⟩:=hπj j b h;have e3:H[p]?=some (QW (rho π H.length) x):=by rw[ac j p T,g];rfl
   obtain⟨o1,o2,o3⟩:=r.sim.own p b _ e2 e3 (by rw[QM];exact m);refine⟨o1,o2,?_⟩;rintro(hf|⟨i,y,y1,y2,y3,y4⟩|⟨i,y,d,y1,y2,y3,y4⟩)
   .exact o3 hf
   .have:=r.sim.inj i p b _ _ y1 e2 y2 e3 y3 (by rw[QM];exact m);subst this;exact y4 (VJ T)
   .exact(r.sim.hid i d y b y1 y2 y3).ne p b _ e2 e3 (by rw[QM];exact m) rfl
  .intro i j b x y h g m J X q6;obtain⟨p,T,e2⟩:=hπj i b h;obtain⟨p',R,aq⟩:=hπj j b g;have e3:H[p]?=some (QW (rho π H.length) x):=by rw[ac i p T,m];rfl
   have av:H[p']?=some (QW (rho π H.length) y):=by rw[ac j p' R,J];rfl
   have:=r.sim.inj p p' b _ _ e2 aq e3 av (by rw[QM];exact X) (by rw[QM];exact q6);subst this;have hi:i<π.length:=by
    rcases VE i π.length with q|q
    .exact q
    .rw[XQ q]at T;simp at T
   have M:j<π.length:=by
    rcases VE j π.length with q|q
    .exact q
    .rw[XQ q]at R;simp at R
   rw[XM hi]at T;rw[XM M]at R;have ae:=(X2 T).trans (X2 R).symm;rcases Nat.lt_trichotomy i j with q|q|q
   .exact(VG.1 hπ i j hi M q ae).elim
   .exact q
   .exact(VG.1 hπ j i M hi q ae.symm).elim
  .intro j s x h g;have M:j<π.length:=by
    rcases VE j π.length with q|q
    .exact q
    .rw[XQ (by simpa[Yl]using q)]at h;simp at h
   have T:π[j]?=some π[j]:=XM M;have e3:H[π[j]]?=some (QW (rho π H.length) x):=by rw[ac j _ T,g];rfl
   have e2:σ[π[j]]?=some s:=by
    have:=hσc j;rw[h]at this;simpa[rho,T]using this
   exact(Qh0 hσc).1 (r.sim.blk _ s _ e2 e3)
  .intro j b x c h g m;obtain⟨p,T,e2⟩:=hπj j b h;have e3:H[p]?=some (QW (rho π H.length) x):=by rw[ac j p T,g];rfl
   have k:=r.sim.hid p b _ c e2 e3 ((Qao _ _ _ _ _).2 m);refine⟨k.lt,k.ro,?_,?_,?_⟩
   .rintro(hf|⟨i,y,y1,y2,y3,y4⟩|⟨i,y,d,y1,y2,y3,y4⟩)
    .exact k.fr hf
    .exact k.ne i c y y1 y2 y3 rfl
    .obtain⟨rfl,rfl⟩:=k.one i d y y1 y2 y3;exact y4 (VJ T)
   .intro O b' y L n Y;obtain⟨p',f1,f2⟩:=hπj O b' L;exact k.ne p' b' _ f2 (show H[p']?=some (QW (rho π H.length) y)by rw[ac O p' f1,n];rfl) (by rw[QM];exact Y)
   .intro O b' y L n Y;obtain⟨p',f1,f2⟩:=hπj O b' L;obtain⟨z4,z5⟩:=k.one p' b' _ f2 (show H[p']?=some (QW (rho π H.length) y)by rw[ac O p' f1,n];rfl) ((Qao _ _ _ _ _).2 Y);subst z5;exact⟨z4,hπi O j p' f1 T⟩
 have ah:LR ro (Yl σ π) w ab aj:=(QbG hσc).1 (hargs▸h2);refine Calls.mono (hC frc ro (Yl σ π) aj w al ah) ?_;rintro e w' ⟨v,rr,H1,aa,τ,rfl,hq,sc,hv,ev⟩;have hσ':∀j:Nat,(σ++τ)[rho π H.length j]?=(Yl σ π++τ)[j]? :=λj=>Qey hσl hp j;have ao:H1.length=π.length+τ.length:=by rw[<- sc.len];simp[Yl]
 have ak:π.length<=(H1.map (QW (rho π H.length))).length:=by simp;omega
 have W:Qe fr ro w aa w':=⟨ev.sub,ev.keepRo,λb q=>ev.keepFr b (.inl q),ev.size,ev.shape,ev.os,ev.tape,ev.output,ev.drawn⟩;have G:∀j,(Yy H π (H1.map (QW (rho π H.length))))[rho π H.length j]?=(H1[j]?).map (QW (rho π H.length)):=by
  intro j;rw[QeS π H _ j ak hp hπ];simp
 have B:∀i,i<H.length->i∉π->(Yy H π (H1.map (QW (rho π H.length))))[i]?=H[i]? :=λi=>Qcx π H _ i;have t:∀i:Nat,(∃j,i=rho π H.length j)\/(i<H.length/\i∉π):=by
  intro i;by_cases q:H.length<=i\/i∈π
  .exact .inl (Qlh π H.length i q)
  .simp only[not_or]at q;exact .inr ⟨by omega,q.2⟩
 have F:∀i b x,i<H.length->i∉π->σ[i]?=some (some b)->H[i]?=some x->x.live=true->frc b:=λi b x h g m J X=>.inr (.inl ⟨i,x,m,J,X,g⟩);have ag:∀i b x c,i<H.length->i∉π->σ[i]?=some (some b)->H[i]?=some x->Hid w' x b c->Hid w x b c/\frc c:=λi b x c h g m J X=>
  have q6:=r.sim.hidKeep m J (λz=>ev.keepFr b (F i b x h g m J z)) ev.keepRo X
  ⟨q6,.inr (.inr ⟨i,x,b,m,J,q6,g⟩)⟩
 have ai:Sim fr aa (σ++τ) (Yy H π (H1.map (QW (rho π H.length)))) w':=by
  refine⟨?_,sc.roOk,λb q=>sc.frLt b (.inl q),λb q q'=>sc.roFr b q (.inl q'),?_,?_,?_,?_⟩
  .rw[Qcm _ _ _ ak];simp[hσl,ao]
  .intro i b x h g m;rcases t i with⟨j,rfl⟩|⟨c1,c2⟩
   .rw[hσ']at h;rw[G]at g;cases e:H1[j]? with
    |none=>rw[e]at g;simp at g
    |some y=>
     rw[e]at g;simp at g;subst g;obtain⟨o1,o2,o3⟩:=sc.own j b y h e (by rw[QM]at m;exact m);exact⟨o1,o2,λq=>o3 (.inl q)⟩
   .rw[B i c1 c2]at g;rw[XO (by omega)]at h;obtain⟨o1,o2,o3⟩:=r.sim.own i b x h g m;exact⟨Vh o1 ev.size,λq=>sc.roFr b q (F i b x c1 c2 h g m),o3⟩
  .intro i E b x y h g m J X q6;have af:∀(i E:Nat) (x y:Blk),(∃j,i=rho π H.length j)->(E<H.length/\E∉π)->(σ++τ)[i]?=some (some b)->(σ++τ)[E]?=some (some b)->
     (Yy H π (H1.map (QW (rho π H.length))))[i]?=some x->(Yy H π (H1.map (QW (rho π H.length))))[E]?=some y->x.live=true->y.live=true->False:=by
    rintro i E x y ⟨j,rfl⟩ ⟨c1,c2⟩ h g m J X q6;rw[hσ']at h;rw[G]at m;rw[B E c1 c2]at J;rw[XO (by omega)]at g;cases e:H1[j]? with
    |none=>rw[e]at m;simp at m
    |some z=>
     rw[e]at m;simp at m;subst m;exact(sc.own j b z h e (by rw[QM]at X;exact X)).2.2 (F E b y c1 c2 g J q6)
   rcases t i with ci|ci<;>rcases t E with ci'|ci'
   .obtain⟨j,rfl⟩:=ci;obtain⟨O,rfl⟩:=ci';rw[hσ']at h g;rw[G]at m J;cases e:H1[j]? with
    |none=>rw[e]at m;simp at m
    |some z=>
     cases V:H1[O]? with
     |none=>rw[V]at J;simp at J
     |some z'=>
      rw[e]at m;simp at m;subst m;rw[V]at J;simp at J;subst J;rw[sc.inj j O b z z' h g e V (by rw[QM]at X;exact X) (by rw[QM]at q6;exact q6)]
   .exact(af i E x y ci ci' h g m J X q6).elim
   .exact(af E i y x ci' ci g h J m q6 X).elim
   .rw[B i ci.1 ci.2]at m;rw[B E ci'.1 ci'.2]at J;rw[XO (by omega)]at h g;exact r.sim.inj i E b x y h g m J X q6
  .intro i s x h g;rcases t i with⟨j,rfl⟩|⟨c1,c2⟩
   .rw[hσ']at h;rw[G]at g;cases e:H1[j]? with
    |none=>rw[e]at g;simp at g
    |some y=>
     rw[e]at g;simp at g;subst g;exact(Qh0 hσ').2 (sc.blk j s y h e)
   .rw[B i c1 c2]at g;rw[XO (by omega)]at h;refine BR.keep (W.ext σ τ) ?_ (r.sim.blk i s x h g) ?_
    .rintro b rfl hl;exact ev.keepFr b (F i b x c1 c2 h g hl)
    .rintro b c rfl hl;exact ev.keepFr c (.inr (.inr ⟨i,x,b,h,g,hl,c2⟩))
  .intro i b x c h g m;rcases t i with⟨j,rfl⟩|⟨c1,c2⟩
   .rw[hσ']at h;rw[G]at g;cases e:H1[j]? with
    |none=>rw[e]at g;simp at g
    |some y=>
     rw[e]at g;simp at g;subst g;have k:=sc.hid j b y c h e ((Qao _ _ _ _ _).1 m);refine⟨k.lt,k.ro,λq=>k.fr (.inl q),?_,?_⟩
     .intro E b' y' L n Y;rcases t E with⟨O,rfl⟩|⟨d1,d2⟩
      .rw[hσ']at L;rw[G]at n;cases V:H1[O]? with
       |none=>rw[V]at n;simp at n
       |some u=>
        rw[V]at n;simp at n;subst n;exact k.ne O b' u L V (by rw[QM]at Y;exact Y)
      .rw[B E d1 d2]at n;rw[XO (by omega)]at L;rintro rfl;exact k.fr (F E c y' d1 d2 L n Y)
     .intro E b' y' L n Y;rcases t E with⟨O,rfl⟩|⟨d1,d2⟩
      .rw[hσ']at L;rw[G]at n;cases V:H1[O]? with
       |none=>rw[V]at n;simp at n
       |some u=>
        rw[V]at n;simp at n;subst n;obtain⟨z4,rfl⟩:=k.one O b' u L V ((Qao _ _ _ _ _).1 Y);exact⟨z4,rfl⟩
      .rw[B E d1 d2]at n;rw[XO (by omega)]at L;exact(k.fr (ag E b' y' c d1 d2 L n Y).2).elim
   .rw[B i c1 c2]at g;rw[XO (by omega)]at h;obtain⟨J,X⟩:=ag i b x c c1 c2 h g m;have k:=r.sim.hid i b x c h g J;refine⟨Vh k.lt ev.size,λq=>sc.roFr c q X,k.fr,?_,?_⟩
    .intro E b' y' L n Y;rcases t E with⟨O,rfl⟩|⟨d1,d2⟩
     .rw[hσ']at L;rw[G]at n;cases V:H1[O]? with
      |none=>rw[V]at n;simp at n
      |some u=>
       rw[V]at n;simp at n;subst n;rintro rfl;exact(sc.own O c u L V (by rw[QM]at Y;exact Y)).2.2 X
     .rw[B E d1 d2]at n;rw[XO (by omega)]at L;exact k.ne E b' y' L n Y
    .intro E b' y' L n Y;rcases t E with⟨O,rfl⟩|⟨d1,d2⟩
     .rw[hσ']at L;rw[G]at n;cases V:H1[O]? with
      |none=>rw[V]at n;simp at n
      |some u=>
       rw[V]at n;simp at n;subst n;exact((sc.hid O b' u c L V ((Qao _ _ _ _ _).1 Y)).fr X).elim
     .rw[B E d1 d2]at n;rw[XO (by omega)]at L;exact k.one E b' y' L n (ag E b' y' c d1 d2 L n Y).1
 have au:VR aa (σ++τ) w' (YI (rho π H.length) rr) v:=(QdO hσ').2 hv;have hk:=k rr H1 hq;cases d with
 |none=>
  simp only[hd,Act.put];have r':Rel fr aa (σ++τ) (Yy H π (H1.map (QW (rho π H.length)))) env N a w':=⟨ai,λs=>(r.env s).mono (W.ext σ τ),r.size,r.defers.keep W⟩;exact⟨_,rfl,Yq (λe a w q=>q.step W (Qy (by omega))) _ _ _ (hk rd fr aa (σ++τ) _ w' r' (hrd.to W λ_ q=>q))⟩
 |some d=>
  simp only[hd,Act.put];have an:=hN d rfl;have r':Rel fr aa (σ++τ) (Yy H π (H1.map (QW (rho π H.length)))) (up env d (YI (rho π H.length) rr)) N {a with tmps:=a.tmps.setIfInBounds d v} w':=
   ⟨ai,VR.up (fr:=fr) (λs=>(r.env s).mono (W.ext σ τ)) (by rw[r.size];exact an) au,by simpa using r.size,r.defers.keep W⟩
  exact⟨_,rfl,Yq (λe a w q=>q.step W (Qy (by omega))) _ _ _ (hk rd fr aa (σ++τ) _ w' r' (hrd.to W λ_ q=>q))⟩
end Go.Sw
namespace Go.Sw
section
variable {P:Program} {o:Oper} {env:Env} {H:Qc}
theorem QN{fr ro:Nat->Prop}{σ:Sig}{N:Nat}{a:Act}{w:World}(r:Rel fr ro σ H env N a w){x:Operand}{k:IntKind}{n:Int}(h:opA env x=.int k n):a.eval x=.int k n:=by
 have:=Qd r x;rw[h]at this;exact this
theorem QcW{fr ro:Nat->Prop}{σ:Sig}{N:Nat}{a:Act}{w:World}(r:Rel fr ro σ H env N a w){x:Operand}{b:Bool}(h:opA env x=.bool b):a.eval x=.bool b:=by
 have:=Qd r x;rw[h]at this;exact this
theorem QeA{fr ro:Nat->Prop}{σ:Sig}{N:Nat}{a:Act}{w:World}(r:Rel fr ro σ H env N a w){x:Operand}{s:List UInt8}(h:opA env x=.str s):a.eval x=.string ⟨s.toArray⟩:=by
 have:=Qd r x;rw[h]at this;exact this
theorem OpV.move{x:Operand}{v:A}(ho:o.op=.move x)(hx:opA env x=v):OpV P o env H v:=
 λfr ro σ N a w r=>⟨a.eval x,by simp[execOp,ho,go_sem],hx▸Qd r x⟩
theorem OpV.assign{x:Operand}{v:A}(ho:o.op=.assign x)(hx:opA env x=v):OpV P o env H v:=
 λfr ro σ N a w r=>⟨a.eval x,by simp[execOp,ho,go_sem],hx▸Qd r x⟩
theorem OpV.pick{c x y:Operand}{b:Bool}{v:A}(g:o.op=.pick c x y)(d:opA env c=.bool b)(e:(if b then opA env x else opA env y)=v):OpV P o env H v:=by
 intro i h σ N a w r;have f:=QcW r d;refine⟨if b then a.eval x else a.eval y,by generalize a.eval=ρ at*;simp[execOp,g,f,asBool,go_sem],?_⟩;subst e;cases b
 .exact Qd r y
 .exact Qd r x
theorem OpV.add{t u:TypeId}{x y:Operand}{k:IntKind}{m n:Int}(e:o.op=.binOp .add t x y u)(b:opA env x=.int k m)(g:opA env y=.int k n):OpV P o env H (.int k (k.wrap (m+n))):=by
 intro i h σ N a w r;have f:=QN r b;have d:=QN r g;refine⟨_,?_,rfl⟩;generalize a.eval=ρ at*;simp[execOp,e,f,d,Go.binOp,eqGuard,Op.intArith,go_sem]
theorem OpV.sub{t u:TypeId}{x y:Operand}{k:IntKind}{m n:Int}(e:o.op=.binOp .sub t x y u)(b:opA env x=.int k m)(g:opA env y=.int k n):OpV P o env H (.int k (k.wrap (m-n))):=by
 intro i h σ N a w r;have f:=QN r b;have d:=QN r g;refine⟨_,?_,rfl⟩;generalize a.eval=ρ at*;simp[execOp,e,f,d,Go.binOp,eqGuard,Op.intArith,go_sem]
theorem OpV.mul{t u:TypeId}{x y:Operand}{k:IntKind}{m n:Int}(e:o.op=.binOp .mul t x y u)(b:opA env x=.int k m)(g:opA env y=.int k n):OpV P o env H (.int k (k.wrap (m*n))):=by
 intro i h σ N a w r;have f:=QN r b;have d:=QN r g;refine⟨_,?_,rfl⟩;generalize a.eval=ρ at*;simp[execOp,e,f,d,Go.binOp,eqGuard,Op.intArith,go_sem]
theorem OpV.cmp{op:BinOp}{t u:TypeId}{x y:Operand}{k:IntKind}{m n:Int}{f:Int->Int->Bool}(h:o.op=.binOp op t x y u)(e:opA env x=.int k m)(j:opA env y=.int k n)
  (d:op=.eql/\f=(λa b=>a==b)\/op=.neq/\f=(λa b=>a != b)\/op=.lss/\f=(λa b=>decide (a<b))\/op=.leq/\f=(λa b=>decide (a<=b))\/
   op=.gtr/\f=(λa b=>decide (b<a))\/op=.geq/\f=(λa b=>decide (b<=a))):OpV P o env H (.bool (f m n)):=by
 intro l p σ N a w r;have i:=QN r e;have g:=QN r j;refine⟨_,?_,rfl⟩;generalize a.eval=ρ at*;rcases d with⟨rfl,rfl⟩|⟨rfl,rfl⟩|⟨rfl,rfl⟩|⟨rfl,rfl⟩|⟨rfl,rfl⟩|⟨rfl,rfl⟩<;>simp[execOp,h,i,g,Go.binOp,eqGuard,Op.intCmp,go_sem]
theorem OpV.eql{t u:TypeId}{x y:Operand}{k:IntKind}{m n:Int}(ho:o.op=.binOp .eql t x y u)(hx:opA env x=.int k m)(hy:opA env y=.int k n):OpV P o env H (.bool (m==n)):=
 OpV.cmp (f:=λa b=>a==b) ho hx hy (by simp)
theorem OpV.neq{t u:TypeId}{x y:Operand}{k:IntKind}{m n:Int}(ho:o.op=.binOp .neq t x y u)(hx:opA env x=.int k m)(hy:opA env y=.int k n):OpV P o env H (.bool (m != n)):=
 OpV.cmp (f:=λa b=>a != b) ho hx hy (by simp)
theorem OpV.lss{t u:TypeId}{x y:Operand}{k:IntKind}{m n:Int}(ho:o.op=.binOp .lss t x y u)(hx:opA env x=.int k m)(hy:opA env y=.int k n):OpV P o env H (.bool (decide (m<n))):=
 OpV.cmp (f:=λa b=>decide (a<b)) ho hx hy (by simp)
theorem OpV.leq{t u:TypeId}{x y:Operand}{k:IntKind}{m n:Int}(ho:o.op=.binOp .leq t x y u)(hx:opA env x=.int k m)(hy:opA env y=.int k n):OpV P o env H (.bool (decide (m<=n))):=
 OpV.cmp (f:=λa b=>decide (a<=b)) ho hx hy (by simp)
theorem OpV.gtr{t u:TypeId}{x y:Operand}{k:IntKind}{m n:Int}(ho:o.op=.binOp .gtr t x y u)(hx:opA env x=.int k m)(hy:opA env y=.int k n):OpV P o env H (.bool (decide (n<m))):=
 OpV.cmp (f:=λa b=>decide (b<a)) ho hx hy (by simp)
theorem OpV.geq{t u:TypeId}{x y:Operand}{k:IntKind}{m n:Int}(ho:o.op=.binOp .geq t x y u)(hx:opA env x=.int k m)(hy:opA env y=.int k n):OpV P o env H (.bool (decide (n<=m))):=
 OpV.cmp (f:=λa b=>decide (b<=a)) ho hx hy (by simp)
theorem OpV.rem{t u:TypeId}{x y:Operand}{k:IntKind}{m n:Int}(e:o.op=.binOp .rem t x y u)(b:opA env x=.int k m)(h:opA env y=.int k n)(f:n≠0):OpV P o env H (.int k (m.tmod n)):=by
 intro i j σ N a w r;have g:=QN r b;have d:=QN r h;exact⟨_,by generalize a.eval=ρ at*;simp[execOp,e,g,d,Go.binOp,eqGuard,Op.intDiv,f,go_sem],rfl⟩
theorem OpV.not{t:TypeId}{x:Operand}{b:Bool}(e:o.op=.unOp .not t x)(d:opA env x=.bool b):OpV P o env H (.bool !b):=by
 intro h g σ N a w r;have f:=QcW r d;exact⟨_,by generalize a.eval=ρ at*;simp[execOp,e,f,Op.unary,go_sem],rfl⟩
theorem OpV.neg{t:TypeId}{x:Operand}{k:IntKind}{n:Int}(d:o.op=.unOp .neg t x)(b:opA env x=.int k n):OpV P o env H (.int k (k.wrap (0-n))):=by
 intro g f σ N a w r;have e:=QN r b;exact⟨_,by generalize a.eval=ρ at*;simp[execOp,d,e,Op.unary,Op.intArith,go_sem],rfl⟩
theorem Qat{s t:TypeId}{x:Operand}{k i:IntKind}{n:Int}{b:TypeDesc}(g:o.op=.convert s t x)(e:∀w,(underlying s).run P w=.ok b w)(d:∀w,(underlying t).run P w=.ok (.int k) w)
  (f:opA env x=.int i n):OpV P o env H (.int k (k.wrap n)):=by
 intro j l σ N a w r;have h:=QN r f;refine⟨_,?_,rfl⟩;generalize a.eval=ρ at*;cases b<;>simp[execOp,g,h,convert,e,d,Conv.intToInt,go_sem]
theorem QdS{op:BinOp}{t u:TypeId}{x y:Operand}{p q:List UInt8}{f:List UInt8->List UInt8->Bool}(i:o.op=.binOp op t x y u)(g:opA env x=.str p)(l:opA env y=.str q)
  (d:op=.eql/\f=(λa b=>a==b)\/op=.neq/\f=(λa b=>a != b)\/op=.lss/\f=Op.bytesLess\/op=.geq/\f=(λa b=> !Op.bytesLess a b)\/
   op=.leq/\f=(λa b=>Op.bytesLess a b||a==b)\/op=.gtr/\f=(λa b=> !(Op.bytesLess a b||a==b))):OpV P o env H (.bool (f p q)):=by
 intro m n σ N a w r;have j:=QeA r g;have h:=QeA r l;refine⟨_,?_,rfl⟩;generalize a.eval=ρ at*;have e:(⟨p.toArray⟩:ByteArray).toList=p:=by rw[Go.ByteArray.toList_eq]
 have k:(⟨q.toArray⟩:ByteArray).toList=q:=by rw[Go.ByteArray.toList_eq]
 rcases d with⟨rfl,rfl⟩|⟨rfl,rfl⟩|⟨rfl,rfl⟩|⟨rfl,rfl⟩|⟨rfl,rfl⟩|⟨rfl,rfl⟩<;>simp[execOp,i,j,h,Go.binOp,eqGuard,Op.stringOp,e,k,go_sem,bne]
theorem QdT{t u:TypeId}{x y:Operand}{p q:List UInt8}(ho:o.op=.binOp .eql t x y u)(hx:opA env x=.str p)(hy:opA env y=.str q):OpV P o env H (.bool (p==q)):=
 QdS (f:=λa b=>a==b) ho hx hy (by simp)
theorem QlX{t u:TypeId}{x y:Operand}{p q:List UInt8}(ho:o.op=.binOp .neq t x y u)(hx:opA env x=.str p)(hy:opA env y=.str q):OpV P o env H (.bool (p != q)):=
 QdS (f:=λa b=>a != b) ho hx hy (by simp)
theorem QlY{t u:TypeId}{x y:Operand}{p q:List UInt8}(ho:o.op=.binOp .lss t x y u)(hx:opA env x=.str p)(hy:opA env y=.str q):OpV P o env H (.bool (Op.bytesLess p q)):=
 QdS ho hx hy (by simp)
theorem QlZ{t:TypeId}{x y:Operand}{s:List UInt8}{k:IntKind}{n:Int}{c:UInt8}(l:o.op=.index t x y)(h:∀w,(underlying t).run P w=.ok .string w)(i:opA env x=.str s)(p:opA env y=.int k n)
  (h0:0<=n)(g:s[n.toNat]?=some c):OpV P o env H (.int .u8 c.toNat):=by
 intro q u σ N a w r;have m:=QeA r i;have j:=QN r p;have e:(⟨s.toArray⟩:ByteArray)[n.toNat]?=some c:=by
  obtain⟨b,f⟩:=XN.1 g;have d:(⟨s.toArray⟩:ByteArray).size=s.length:=by simp[ByteArray.size]
  rw[getElem?_pos _ _ (by rw[d];exact b)];show some (s.toArray[n.toNat]'(by simpa using b))=some c;simp[f]
 refine⟨_,?_,rfl⟩;generalize a.eval=ρ at*;simp[execOp,l,m,j,Instr.index,asIntOf,h,h0,e,go_sem]
theorem YQ{c:Call}{t:TypeId}{x:Operand}{s:List UInt8}(e:o.op=.call c)(b:c={callee:=.builtin .len,args:= #[x],argTypes:= #[t]})(g:∀w,(underlying t).run P w=.ok .string w)
  (d:opA env x=.str s):OpV P o env H (.int .i64 s.length):=by
 intro i h σ N a w r;have f:=QeA r d;refine⟨_,?_,rfl⟩;generalize a.eval=ρ at*;subst b;simp[execOp,e,f,resolve,invoke,Go.builtin,Builtin.len_,g,goInt,go_sem]<;>rfl
theorem QnO{c:Call}{t e:TypeId}{x:Operand}{k:Nat}{es:List (List A)}(i:o.op=.call c)(d:c={callee:=.builtin .len,args:= #[x],argTypes:= #[t]})(f:∀w,(underlying t).run P w=.ok (.slice e) w)
  (g:opA env x=.rsl k es):OpV P o env H (.int .i64 es.length):=by
 intro j l σ N a w r;have b:=Qd r x;rw[g]at b;obtain⟨ad,h,b,_⟩:=b;refine⟨_,?_,rfl⟩;generalize a.eval=ρ at*;subst d;simp[execOp,i,b,resolve,invoke,Go.builtin,Builtin.len_,f,goInt,go_sem]
theorem Qjg{c:Call}{t e:TypeId}{x:Operand}{i s n k:Nat}(l:o.op=.call c)(f:c={callee:=.builtin .len,args:= #[x],argTypes:= #[t]})(g:∀w,(underlying t).run P w=.ok (.slice e) w)
  (h:opA env x=.osl i s n k):OpV P o env H (.int .i64 n):=by
 intro q y σ N a w r;have d:=Qd r x;rw[h]at d;refine⟨_,?_,rfl⟩;generalize a.eval=ρ at*;subst f;rcases d with⟨rfl,d⟩|⟨b,p,j,u,m,_,d,_⟩<;>
 simp[execOp,l,d,resolve,invoke,Go.builtin,Builtin.len_,g,goInt,go_sem]
structure Q1 (P:Program) (T f off n:Nat):Prop where
 h:∃fs fd,(∀w,(underlying T).run P w=.ok (.struct fs) w)/\fs[f]?=some fd/\fd.offset=off/\(∀w,(sizeOf fd.type).run P w=.ok n w)/\n≠0
theorem Jm(b off n:Nat):(⟨b,off,none⟩:Addr).add n=⟨b,off+n,none⟩:=by
 unfold Addr.add;split
 .rename_i h;simp[h]
 .rfl
theorem QdY{T f off n b p:Nat}(i:Q1 P T f off n)(w:World):(Instr.fieldAt T (.pointer (some ⟨b,p,none⟩)) f).run P w=.ok (.pointer (some ⟨b,p+off,none⟩)) w:=by
 obtain⟨k,j,g,e,rfl,d,a⟩:=i.h;simp[Instr.fieldAt,g,e,Instr.sureAddr,fieldPlace,d,a,Jm,go_sem]
theorem YB{T f off n i p:Nat}{x:Operand}(j:Q1 P T f off n)(h:o.op=.fieldAddr T x f)(e:opA env x=.ptr i p):OpV P o env H (.ptr i (p+off)):=by
 intro l k σ N a w r;have d:=Qd r x;rw[e]at d;obtain⟨b,d,g⟩:=d;refine⟨.pointer (some ⟨b,p+off,none⟩),?_,b,d,rfl⟩;generalize a.eval=ρ at*;simp only[execOp,h,g,Vp,QdY j];rfl
theorem CR.drop{ro:Nat->Prop}{σ:Sig}{w:World}{b:Nat}:∀(n:Nat) {cs:List A} {off:Nat},CR ro σ w b cs off->CR ro σ w b (cs.drop n) (off+n)
 |0,_,_,h=>h
 |n+1,[],_,h=>trivial
 |n+1,c::cs,off,h=>by
  have:=CR.drop n h.2;rw[List.drop_succ_cons];rw[show off+(n+1)=off+1+n from by omega];exact this
theorem CR.take{ro:Nat->Prop}{σ:Sig}{w:World}{b:Nat}:∀(n:Nat) {cs:List A} {off:Nat},CR ro σ w b cs off->CR ro σ w b (cs.take n) off
 |0,_,_,h=>trivial
 |n+1,[],_,h=>trivial
 |n+1,c::cs,off,h=>⟨h.1,CR.take n h.2⟩
theorem Qu{T f off n:Nat}{x:Operand}{cs cs':List A}(k:Q1 P T f off n)(j:o.op=.fieldAddr T x f)(h:opA env x=.rp cs)(e:cs.drop off=cs'):OpV P o env H (.rp cs'):=by
 intro l m σ N a w r;have d:=Qd r x;rw[h]at d;obtain⟨b,p,d,i,g⟩:=d;refine⟨.pointer (some ⟨b,p+off,none⟩),?_,b,p+off,rfl,i,e▸g.drop off⟩;generalize a.eval=ρ at*;simp only[execOp,j,d,Vp,QdY k];rfl
theorem RR.get{ro:Nat->Prop}{σ:Sig}{w:World}{b k:Nat}:∀(n:Nat) {es:List (List A)} {off:Nat} {c:List A},RR ro σ w b k es off->es[n]?=some c->c.length=k/\CR ro σ w b c (off+n*k)
 |n,[],_,_,h,hc=>by simp at hc
 |0,e::es,off,c,h,hc=>by
  simp at hc;subst hc;exact⟨h.1,by simpa using h.2.1⟩
 |n+1,e::es,off,c,h,hc=>by
  have:=RR.get n h.2.2 (by simpa using hc);refine⟨this.1,?_⟩;rw[show off+(n+1)*k=off+k+n*k from by rw[Xm];omega];exact this.2
theorem QoP{t e:TypeId}{x y:Operand}{k:Nat}{es:List (List A)}{i:IntKind}{n:Int}{c:List A}(q:o.op=.indexAddr t x y)(z:∀w,(underlying t).run P w=.ok (.slice e) w)
  (p:∀w,(sizeOf e).run P w=.ok k w)(B:opA env x=.rsl k es)(u:opA env y=.int i n)(h0:0<=n)(h:es[n.toNat]?=some c):OpV P o env H (.rp c):=by
 intro L J σ N a w r;have f:=Qd r x;rw[B]at f;have F:=QN r u;obtain⟨ad,E,f,G,l⟩:=f;have g:n.toNat<es.length:=(XN.1 h).1;rcases l with rfl|⟨b,d,rfl,j,m⟩
 .simp at g
 have s:n<es.length:=by omega
 refine⟨.pointer (some ⟨b,d+n.toNat*k,none⟩),?_,b,d+n.toNat*k,rfl,j,(m.get n.toNat h).2⟩;generalize a.eval=ρ at*;simp[execOp,q,f,F,Instr.indexAt,asIntOf,z,p,h0,s,Jm,go_sem]
theorem QhR{t e:TypeId}{x y:Operand}{i s m k:Nat}{g:IntKind}{n:Int}(E:o.op=.indexAddr t x y)(l:∀w,(underlying t).run P w=.ok (.slice e) w)
  (q:∀w,(sizeOf e).run P w=.ok k w)(u:opA env x=.osl i s m k)(F:opA env y=.int g n)(h0:0<=n)(f:n<m):OpV P o env H (.ptr i (s*k+n.toNat*k)):=by
 intro J M σ N a w r;have d:=Qd r x;rw[u]at d;have B:=QN r F;rcases d with⟨rfl,_⟩|⟨b,p,z,L,O,h,d,j,G,_⟩
 .omega
 obtain rfl:=j (by omega);refine⟨.pointer (some ⟨b,s*k+n.toNat*k,none⟩),?_,b,h,rfl⟩;generalize a.eval=ρ at*;simp[execOp,E,d,B,Instr.indexAt,asIntOf,l,q,h0,f,Jm,go_sem]
def Pts(H:Qc)(p:A)(cs:List A):Prop:=
 ∀fr ro σ w v,Sim fr ro σ H w->VR ro σ w p v->∃b off,v=.pointer (some ⟨b,off,none⟩)/\CR ro σ w b cs off
theorem VR.lift{ro:Nat->Prop}{σ:Sig}{w:World}{a:A}{v:Value}(h:VR ro [] w a v):VR ro σ w a v:=
 h.mono ⟨λ_ q=>q,λ_ _=>rfl,λ_ _ q=>q,λi b q=>by simp at q⟩
theorem CR.lift{ro:Nat->Prop}{σ:Sig}{w:World}{b:Nat}:∀{cs:List A} {off:Nat},CR ro [] w b cs off->CR ro σ w b cs off
 |[],_,_=>trivial
 |c::cs,off,⟨⟨v,h1,hp,h2⟩,h3⟩=>⟨⟨v,h1,hp,h2.lift⟩,CR.lift h3⟩
theorem LR.lift{ro:Nat->Prop}{σ:Sig}{w:World}:∀{cs:List A} {l:List Value},LR ro [] w cs l->LR ro σ w cs l
 |[],_,h=>h
 |c::cs,l,⟨v,l',h1,h2,h3⟩=>⟨v,l',h1,h2.lift,LR.lift h3⟩
theorem Pts.rp{cs:List A}:Pts H (.rp cs) cs:=λfr ro σ w v s ⟨b,off,h1,h2,h3⟩=>⟨b,off,h1,h3.lift⟩
theorem LR.cells{ro:Nat->Prop}{σ:Sig}{w:World}{b t:Nat}{fz:Nat×Nat}{pre l:List Value}(d:w.heap[b]?=some (.cells (pre++l).toArray t fz))(a:∀v∈l,Qn v):
  ∀{cs:List A},LR ro σ w cs l->CR ro σ w b cs pre.length:=by
 induction l generalizing pre with
 |nil=>
  intro cs h;cases cs with
  |nil=>trivial
  |cons c cs=>obtain⟨v,f,h,_⟩:=h;cases h
 |cons v l j=>
  intro cs h;cases cs with
  |nil=>trivial
  |cons c cs=>
   obtain⟨m,f,k,i,e⟩:=h;cases k;refine⟨⟨v,by simp[World.cell?,d],a v (by simp),i⟩,?_⟩;have:=j (pre:=pre++[v]) (by simpa using d) (λx g=>a x (by simp[g])) e;simpa using this
theorem Pts.cells{i off t:Nat}{cs cs':List A}(hH:H[i]?=some (.cells t cs))(a:cs.drop off=cs'):Pts H (.ptr i off) cs':=by
 intro k m σ w v s h;obtain⟨b,j,f⟩:=h;obtain⟨l,e,g,d⟩:=s.blk i _ _ j hH;have:=LR.cells (pre:=[]) (by simpa using e) d g;refine⟨b,off,f,a▸ ?_⟩;have:=this.drop off;simpa using this
theorem LR.get{ro:Nat->Prop}{σ:Sig}{w:World}:∀{az:List A} {l:List Value} (i:Nat) {a:A},LR ro σ w az l->az[i]?=some a->∃v,l[i]?=some v/\VR ro σ w a v
 |[],l,i,a,h,ha=>by simp at ha
 |x::az,l,0,a,⟨v,l',h1,h2,h3⟩,ha=>by
  simp at ha;subst ha h1;exact⟨v,rfl,h2⟩
 |x::az,l,i+1,a,⟨v,l',h1,h2,h3⟩,ha=>by
  subst h1;obtain⟨v',q1,q2⟩:=LR.get i h3 (by simpa using ha);exact⟨v',by simpa using q1,q2⟩
theorem LR.drop{ro:Nat->Prop}{σ:Sig}{w:World}:∀(n:Nat) {az:List A} {l:List Value},LR ro σ w az l->LR ro σ w (az.drop n) (l.drop n)
 |0,az,l,h=>h
 |n+1,[],l,h=>by cases(show l=[]from h);rfl
 |n+1,a::az,l,⟨v,l',h1,h2,h3⟩=>by subst h1;exact LR.drop n h3
theorem LR.take{ro:Nat->Prop}{σ:Sig}{w:World}:∀(n:Nat) {az:List A} {l:List Value},LR ro σ w az l->LR ro σ w (az.take n) (l.take n)
 |0,az,l,h=>rfl
 |n+1,[],l,h=>by cases(show l=[]from h);rfl
 |n+1,a::az,l,⟨v,l',h1,h2,h3⟩=>by subst h1;exact⟨v,l'.take n,rfl,h2,LR.take n h3⟩
theorem LR.append{ro:Nat->Prop}{σ:Sig}{w:World}:∀{az:List A} {l:List Value} {bs:List A} {m:List Value},LR ro σ w az l->LR ro σ w bs m->LR ro σ w (az++bs) (l++m)
 |[],l,bs,m,h,k=>by cases(show l=[]from h);exact k
 |a::az,l,bs,m,⟨v,l',h1,h2,h3⟩,k=>by subst h1;exact⟨v,l'++m,rfl,h2,LR.append h3 k⟩
theorem Qk6{ro:Nat->Prop}{σ:Sig}{w:World}{b t:Nat}{fz:Nat×Nat}:∀{cs:List A} {pre l post:List Value},w.heap[b]?=some (.cells (pre++(l++post)).toArray t fz)->(∀v∈l,Qn v)->
  LR ro σ w cs l->CR ro σ w b cs pre.length
 |[],_,_,_,_,_,_=>trivial
 |c::cs,pre,l,post,hb,hpl,⟨v,l',h1,h2,h3⟩=>by
  subst h1;refine⟨⟨v,by simp[World.cell?,hb],hpl v (by simp),h2⟩,?_⟩;have:=Qk6 (pre:=pre++[v]) (l:=l') (post:=post) (by simpa using hb) (λx hx=>hpl x (by simp[hx])) h3;simpa using this
theorem YS{ro:Nat->Prop}{σ:Sig}{w:World}{b t k:Nat}{fz:Nat×Nat}:∀{es:List (List A)} {pre l:List Value},w.heap[b]?=some (.cells (pre++l).toArray t fz)->
  RL ro σ w k es l->RR ro σ w b k es pre.length
 |[],_,_,_,_=>trivial
 |c::es,pre,l,hb,⟨l1,l2,h1,h2,h3,h4⟩=>by
  subst h1;refine⟨h2,Qk6 hb h3.2 h3.1,?_⟩;have hl:=h3.1.length;have:=YS (pre:=pre++l1) (l:=l2) (by simpa using hb) h4;simpa[hl,h2]using this
theorem Pts.row{i off t k e f:Nat}{es:List (List A)}{c cs':List A}(hH:H[i]?=some (.row t k es))(j:off=e*k+f)(he:es[e]?=some c)(a:c.drop f=cs'):Pts H (.ptr i off) cs':=by
 intro p q σ w v s h;obtain⟨b,n,g⟩:=h;obtain⟨l,m,d⟩:=s.blk i _ _ n hH;have:=((YS (pre:=[]) (by simpa using m) d).get e he).2.drop f;refine⟨b,off,g,?_⟩;subst j a;simpa using this.lift
theorem Pts.rowr{i off t k e f:Nat}{es:List (List A)}{c cs':List A}(hH:H[i]?=some (.rowr t k es))(j:off=e*k+f)(he:es[e]?=some c)(a:c.drop f=cs'):Pts H (.ptr i off) cs':=by
 intro p q σ w v s h;obtain⟨b,n,g⟩:=h;obtain⟨l,m,d⟩:=s.blk i _ _ n hH;have:=((YS (pre:=[]) (by simpa using m) d).get e he).2.drop f;refine⟨b,off,g,?_⟩;subst j a;simpa using this
theorem QlM{w w':World}(h:w'.heap=w.heap)(a:Addr):w'.cell? a=w.cell? a:=by unfold World.cell?;rw[h]
theorem YL{ro:Nat->Prop}{σ:Sig}{w:World}{b off:Nat}:∀{cs:List A} (i:Nat),CR ro σ w b cs (off+i)->
  ∃l,LR ro σ w cs l/\(∀v∈l,Qn v)/\ ∀(w':World) (a:Array Value),w'.heap=w.heap->(loadCellsFrom ⟨b,off,none⟩ i cs.length a).run P w'=.ok (a++l.toArray) w'
 |[],i,h=>⟨[],rfl,by simp,λw' a _=>by simp[loadCellsFrom,go_sem]⟩
 |c::cs,i,⟨⟨v,h1,hp,h2⟩,h3⟩=>by
  obtain⟨l,q1,qp,q2⟩:=YL (cs:=cs) (i+1) (by rw[<- Nat.add_assoc];exact h3);refine⟨v::l,⟨v,l,rfl,h2,q1⟩,by simpa using⟨hp,qp⟩,λw' a hw=>?_⟩;have h1':w'.cell? ⟨b,off+i,none⟩=some v:=by rw[QlM hw];exact h1
  have:=q2 w' (a.push v) hw;simp[loadCellsFrom,Go.load,Sem.run,Jm,h1',this,go_sem]
theorem Qi{t n:Nat}{x:Operand}{p:A}{cs vs:List A}(s:o.op=.load t x)(i:∀w,(isAgg t).run P w=.ok true w)(j:∀w,(sizeOf t).run P w=.ok n w)(q:opA env x=p)(y:Pts H p cs)
  (u:cs.take n=vs)(hl:vs.length=n):OpV P o env H (.agg vs):=by
 intro f k σ N a w r;have e:=Qd r x;rw[q]at e;obtain⟨b,off,m,g⟩:=y f k σ w _ r.sim e;subst u;obtain⟨l,h,_,d⟩:=YL (P:=P) (cs:=cs.take n) (off:=off) 0 (by simpa using g.take n);have d:=d w #[] rfl;rw[hl]at d;refine⟨.agg l.toArray,?_,l,rfl,h⟩;generalize a.eval=ρ at*;simp[execOp,s,m,Instr.loadAt,Instr.sureAddr,loadVar,i,j,loadCells,d,go_sem]
theorem OpV.load{t:Nat}{x:Operand}{p v:A}{cs:List A}(m:o.op=.load t x)(i:∀w,(isAgg t).run P w=.ok false w)(j:opA env x=p)(n:Pts H p (v::cs)):OpV P o env H v:=by
 intro e k σ N a w r;have d:=Qd r x;rw[j]at d;obtain⟨b,g,l,⟨y,f,_,h⟩,_⟩:=n e k σ w _ r.sim d;refine⟨y,?_,h⟩;generalize a.eval=ρ at*;simp[execOp,m,l,Instr.loadAt,Instr.sureAddr,loadVar,i,Go.load,Sem.run,f,go_sem]
theorem OpV.extract{x:Operand}{vs:List A}{i:Nat}{v:A}(j:o.op=.extract x i)(g:opA env x=.tup vs)(d:vs[i]?=some v):OpV P o env H v:=by
 intro k m σ N a w r;have b:=Qd r x;rw[g]at b;obtain⟨l,b,h⟩:=b;obtain⟨y,e,f⟩:=h.get i d;refine⟨y,?_,f⟩;generalize a.eval=ρ at*;simp[execOp,j,b,Instr.extract,e,go_sem]
theorem Qbl{fr ro:Nat->Prop}{σ:Sig}{N:Nat}{a:Act}{w:World}(r:Rel fr ro σ H env N a w):∀(l:List Operand),LR ro σ w (l.map (opA env)) (l.map a.eval)
 |[]=>rfl
 |x::l=>⟨_,_,rfl,Qd r x,Qbl r l⟩
theorem OpV.makeFunc{f:Fn}{first cap:List Operand}{vf vc:List A}(d:o.op=.makeFunc f first.toArray cap.toArray)(e:first.map (opA env)=vf)(b:cap.map (opA env)=vc):OpV P o env H (.fn f vf vc):=by
 intro h g σ N a w r;refine⟨.func f (first.map a.eval).toArray (cap.map a.eval).toArray,?_,_,_,rfl,e▸Qbl r first,b▸Qbl r cap⟩;generalize a.eval=ρ at*;simp[execOp,d,Instr.makeFunc,go_sem]
theorem Qas{t:TypeId}{x:Operand}{v:A}{d:TypeDesc}(g:o.op=.makeInterface t x)(h:∀w,(underlying t).run P w=.ok d w)(e:∀m,d≠ .interface m)(f:opA env x=v):OpV P o env H (.iface t v):=by
 intro j i σ N a w r;have b:=Qd r x;rw[f]at b;refine⟨.iface t (a.eval x),?_,_,rfl,b⟩;generalize a.eval=ρ at*;cases d<;>first|(simp[execOp,g,Instr.makeInterface,h,go_sem];done)|exact(e _ rfl).elim
end
end Go.Sw
namespace Go.Sw
mutual
def Yw:A->Bool
 |.ptr _ _=>false
 |.osl _ _ _ _=>false
 |.map _=>false
 |.agg cs=>Ym cs
 |.fn _ a c=>Ym a&&Ym c
 |.iface _ v=>Yw v
 |.tup vs=>Ym vs
 |_=>true
def Ym:List A->Bool
 |[]=>true
 |a::r=>Yw a&&Ym r
end
mutual
theorem VR.data{ro:Nat->Prop}{σ σ':Sig}{w:World}:∀{a:A} {v:Value},Yw a=true->VR ro σ w a v->VR ro σ' w a v
 |.any,_,_,_=>trivial
 |.bool b,v,_,q=>q
 |.int k n,v,_,q=>q
 |.str s,v,_,q=>q
 |.nilp,v,_,q=>q
 |.ptr i off,v,d,q=>by simp[Yw]at d
 |.rp cs,v,_,q=>q
 |.nils,v,_,q=>q
 |.rsl k es,v,_,q=>q
 |.osl i o n k,v,d,q=>by simp[Yw]at d
 |.agg cs,v,d,q=>by
  simp only[VR,Yw]at q d⊢;obtain⟨l,h1,h2⟩:=q;exact⟨l,h1,LR.data d h2⟩
 |.fn f a c,v,d,q=>by
  simp only[VR,Yw,XY]at q d⊢;obtain⟨l,l',h1,h2,h3⟩:=q;exact⟨l,l',h1,LR.data d.1 h2,LR.data d.2 h3⟩
 |.nilf,v,_,q=>q
 |.iface t a,v,d,q=>by
  simp only[VR,Yw]at q d⊢;obtain⟨x,h1,h2⟩:=q;exact⟨x,h1,VR.data d h2⟩
 |.nilif,v,_,q=>q
 |.map i,v,d,q=>by simp[Yw]at d
 |.nilm,v,_,q=>q
 |.tup vs,v,d,q=>by
  simp only[VR,Yw]at q d⊢;obtain⟨l,h1,h2⟩:=q;exact⟨l,h1,LR.data d h2⟩
theorem LR.data{ro:Nat->Prop}{σ σ':Sig}{w:World}:∀{az:List A} {l:List Value},Ym az=true->LR ro σ w az l->LR ro σ' w az l
 |[],_,_,q=>q
 |a::r,l,d,q=>by
  simp only[LR,Ym,XY]at q d⊢;obtain⟨v,l',h1,h2,h3⟩:=q;exact⟨v,l',h1,VR.data d.1 h2,LR.data d.2 h3⟩
end
def Yz:A->Bool
 |.any|.agg _|.tup _=>false
 |_=>true
def Yt:A->List A
 |.agg cs=>cs
 |a=>[a]
def Yh:A->Bool
 |.any=>false
 |_=>true
theorem VR.plain{ro:Nat->Prop}{σ:Sig}{w:World}{a:A}{v:Value}(b:Yz a=true)(h:VR ro σ w a v):Qn v:=by
 cases a<;>first|(simp[Yz]at b;done)|skip
 case rsl k es=>obtain⟨ad,c,rfl,_⟩:=h;trivial
 case osl=>rcases h with⟨_,rfl⟩|⟨_,_,_,_,_,_,rfl,_⟩<;>trivial
 case fn=>obtain⟨_,_,rfl,_⟩:=h;trivial
 case iface=>obtain⟨_,rfl,_⟩:=h;trivial
 case ptr=>obtain⟨_,_,rfl⟩:=h;trivial
 case rp=>obtain⟨_,_,rfl,_⟩:=h;trivial
 case map=>obtain⟨_,_,rfl⟩:=h;trivial
 all_goals (simp only[VR]at h;subst h;trivial)
theorem VR.cells{ro:Nat->Prop}{σ:Sig}{w:World}{a:A}{v:Value}(b:Yh a=true)(h:VR ro σ w a v):∃l:List Value,v.cells=l.toArray/\LR ro σ w (Yt a) l:=by
 cases a
 case any=>simp[Yh]at b
 case agg cs=>obtain⟨l,rfl,h⟩:=h;exact⟨l,rfl,h⟩
 case tup cs=>obtain⟨l,rfl,h⟩:=h;exact⟨[.tuple l.toArray],rfl,_,_,rfl,⟨l,rfl,h⟩,rfl⟩
 all_goals
  have d:=h.plain rfl;refine⟨[v],?_,v,[],rfl,h,rfl⟩;cases v<;>first|rfl|exact d.elim
theorem LR.plain{ro:Nat->Prop}{σ:Sig}{w:World}:∀{az:List A} {l:List Value},az.all Yz=true->LR ro σ w az l->∀v∈l,Qn v
 |[],l,_,h=>by cases(show l=[]from h);simp
 |a::az,l,hp,⟨v,l',h1,h2,h3⟩=>by
  subst h1;simp only[List.all_cons,XY]at hp;intro x hx;rcases X8.1 hx with rfl|hx
  .exact h2.plain hp.1
  .exact LR.plain hp.2 h3 x hx
theorem Yj(w:World)(obj:Obj)(b:Nat)(a:b<w.heap.size):(w.alloc obj).heap[b]?=w.heap[b]? :=by
 show(w.heap.push obj)[b]?=_;rw[Array.getElem?_push,Vu (by omega)]
theorem Yi(w:World)(obj:Obj):(w.alloc obj).heap[w.heap.size]?=some obj:=by
 show(w.heap.push obj)[w.heap.size]?=_;simp
theorem Ye(w:World)(obj:Obj):(w.alloc obj).heap.size=w.heap.size+1:=by
 show(w.heap.push obj).size=_;simp
theorem QbP{w:World}{b:Nat}{x:TypeId×Nat}(h:w.shape? b=some x):b<w.heap.size:=by
 unfold World.shape? at h;rcases VE b w.heap.size with q|q
 .exact q
 .rw[Array.getElem?_eq_none q]at h;simp at h
theorem Qe.alloc{fr ro:Nat->Prop}{w:World}(obj:Obj)(hro:∀b,ro b->b<w.heap.size)(hfr:∀b,fr b->b<w.heap.size):Qe fr ro w ro (w.alloc obj):=
 ⟨λ_ h=>h,λb h=>Yj w obj b (hro b h),λb h=>Yj w obj b (hfr b h),by rw[Ye];omega,
  λb x h=>by unfold World.shape? at h⊢;rw[Yj w obj b (QbP h)];exact h,rfl,rfl,rfl,XV _⟩
section
variable {P:Program} {o:Oper} {env:Env} {H:Qc} {fr ro:Nat->Prop} {σ:Sig} {w:World}
theorem Sim.alloc(s:Sim fr ro σ H w){obj:Obj}{x:Blk}(G:BR ro (σ++[some w.heap.size]) (w.alloc obj) x (some w.heap.size))
  (u:∀c,Hid (w.alloc obj) x w.heap.size c->False:=by exact λ_ h=>h.elim):
  Sim fr ro (σ++[some w.heap.size]) (H++[x]) (w.alloc obj):=by
 have ev:Qe fr ro w ro (w.alloc obj):=Qe.alloc obj s.roLt s.frLt;have n:=s.len;have e:∀(i:Nat) (y:Option Nat),(σ++[some w.heap.size])[i]?=some y->(i<σ.length/\σ[i]?=some y)\/(i=σ.length/\y=some w.heap.size):=by
  intro i y h;rcases Nat.lt_trichotomy i σ.length with q|q|q
  .rw[XO q]at h;exact .inl ⟨q,h⟩
  .subst q;simp at h;exact .inr ⟨rfl,h.symm⟩
  .rw[XQ (by simp;omega)]at h;simp at h
 have l:∀i:Nat,i<σ.length->(H++[x])[i]?=H[i]? :=λi J=>XO (by omega);have E:(H++[x])[σ.length]?=some x:=by rw[n];simp
 refine⟨by simp[n],s.roOk.to (λ_ q=>q) ev.keepRo (λb h=>?_),λb h=>?_,s.roFr,?_,?_,?_,?_⟩
 .rw[Ye];have:=s.roLt b h;omega
 .rw[Ye];have:=s.frLt b h;omega
 .intro i b y g f m;rw[Ye];rcases e i _ g with⟨q,g⟩|⟨rfl,k⟩
  .rw[l i q]at f;obtain⟨a,b,c⟩:=s.own i b y g f m;exact⟨by omega,b,c⟩
  .cases k;exact⟨by omega,λq=>by have:=s.roLt _ q;omega,λq=>by have:=s.frLt _ q;omega⟩
 .intro i j b y z g f m t B F;rcases e i _ g with⟨q,g⟩|⟨rfl,k⟩<;>rcases e j _ f with⟨q',f⟩|⟨rfl,e2⟩
  .rw[l i q]at m;rw[l j q']at t;exact s.inj i j b y z g f m t B F
  .cases e2;rw[l i q]at m;have:=(s.own i _ y g m B).1;omega
  .cases k;rw[l j q']at t;have:=(s.own j _ z f t F).1;omega
  .rfl
 .intro i y z g f;rcases e i _ g with⟨q,g⟩|⟨rfl,k⟩
  .rw[l i q]at f;refine(s.blk i y z g f).keep (ev.ext σ _) ?_ ?_
   .rintro b rfl n;exact Yj w obj b (s.own i b z g f n).1
   .rintro b c rfl n;exact Yj w obj c (s.hid i b z c g f n).lt
  .rw[E]at f;cases f;subst k;exact G
 .refine s.hidTo (· = ·) QY (by rw[Ye];omega) (λ_ _ _ _ _ _ _ q=>q) (λ_ _ _ _ _ _ _ q=>q) λj d y r p L=>?_;rcases e j _ r with⟨q,r⟩|⟨rfl,k⟩
  .rw[l j q]at p;exact .inl ⟨j,y,rfl,r,p,id,λc q=>s.hidKeep r p (λz=>Yj w obj d (s.own j d y r p z).1) ev.keepRo q⟩
  .rw[E]at p;cases p;cases k;exact .inr ⟨XV _,u⟩
theorem Sim.allocCells(s:Sim fr ro σ H w){t:Nat}{cs:List A}{l:List Value}(h:LR ro σ w cs l)(hp:∀v∈l,Qn v):
  Sim fr ro (σ++[some w.heap.size]) (H++[.cells t cs]) (w.alloc (.cells l.toArray t)):=
 s.alloc ⟨l,Yi _ _,h.mono ((Qe.alloc (fr:=fr) _ s.roLt s.frLt).ext σ _),hp⟩
theorem Qjp{ro:Nat->Prop}{σ:Sig}{w:World}:∀{az bs:List A} {l:List Value},LR ro σ w (az++bs) l->∃l1 l2,l=l1++l2/\LR ro σ w az l1/\LR ro σ w bs l2
 |[],bs,l,h=>⟨[],l,rfl,rfl,h⟩
 |a::az,bs,l,⟨v,l',h1,h2,h3⟩=>by
  obtain⟨l1,l2,e,q1,q2⟩:=Qjp h3;subst h1 e;exact⟨v::l1,l2,rfl,⟨v,l1,rfl,h2,q1⟩,q2⟩
def allK(k:Nat):List (List A)->Prop
 |[]=>True
 |c::es=>c.length=k/\allK k es
theorem Y9{k:Nat}:∀{es:List (List A)} {l rest:List Value},allK k es->LR ro σ w es.flatten l->(∀v∈l,Qn v)->RL ro σ w k es (l++rest)
 |[],_,_,_,_,_=>trivial
 |c::es,l,rest,⟨h1,h2⟩,h,hp=>by
  rw[Vn]at h;obtain⟨l1,l2,rfl,q1,q2⟩:=Qjp h;exact⟨l1,l2++rest,by simp,h1,⟨q1,λv hv=>hp v (by simp[hv])⟩,Y9 h2 q2 (λv hv=>hp v (by simp[hv]))⟩
theorem Sim.allocRow(s:Sim fr ro σ H w){t k:Nat}{es:List (List A)}{l rest:List Value}(hk:allK k es)(h:LR ro [] w es.flatten l)(hp:∀v∈l,Qn v):
  Sim fr ro (σ++[some w.heap.size]) (H++[.row t k es]) (w.alloc (.cells (l++rest).toArray t)):=
 s.alloc ⟨l++rest,Yi _ _,(Y9 hk h hp).mono ((Qe.alloc (fr:=fr) _ s.roLt s.frLt).ext0 [])⟩
theorem Sim.allocRowr(s:Sim fr ro σ H w){t k:Nat}{es:List (List A)}{l rest:List Value}(hk:allK k es)(h:LR ro σ w es.flatten l)(hp:∀v∈l,Qn v):
  Sim fr ro (σ++[some w.heap.size]) (H++[.rowr t k es]) (w.alloc (.cells (l++rest).toArray t)):=
 s.alloc ⟨l++rest,Yi _ _,(Y9 hk h hp).mono ((Qe.alloc (fr:=fr) _ s.roLt s.frLt).ext σ _)⟩
theorem OpH.box{t:Nat}{x:Operand}{v:A}{cs:List A}(m:o.op=.box t x)(h:opA env x=v)(k:Yh v=true)(d:Yt v=cs)(b:cs.all Yz=true):
  OpH P o env H (.ptr H.length 0) (H++[.cells t cs]):=by
 intro n i σ N a w r;have g:=Qd r x;rw[h]at g;obtain⟨l,j,f⟩:=g.cells k;subst d;refine⟨.pointer (some ⟨w.heap.size,0,none⟩),w.alloc (.cells l.toArray t),i,[some w.heap.size],?_,⟨w.heap.size,?_,rfl⟩,r.sim.allocCells f (f.plain b),Qe.alloc _ r.sim.roLt r.sim.frLt⟩
 .generalize a.eval=ρ at*;have e:(newVar t (ρ x)).run P w=.ok ⟨w.heap.size,0,none⟩ (w.alloc (.cells l.toArray t)):=by
   unfold newVar;rw[j];rfl
  simp only[execOp,m,Instr.box,Vp,e];rfl
 .rw[<- r.sim.len];simp
theorem Sim.set(s:Sim fr ro σ H w){i b:Nat}{x x':Blk}{obj:Obj}(hσ:σ[i]?=some (some b))(hH:H[i]?=some x)(hl:x.live=true)
  (O:∀y,w.shape? b=some y->({w with heap:=w.heap.setIfInBounds b obj}:World).shape? b=some y)
  (M:Ext ro σ w ro σ {w with heap:=w.heap.setIfInBounds b obj}->({w with heap:=w.heap.setIfInBounds b obj}:World).heap[b]?=some obj->BR ro σ {w with heap:=w.heap.setIfInBounds b obj} x' (some b))
  (N:∀c,Hid {w with heap:=w.heap.setIfInBounds b obj} x' b c->Hid w x b c:=by exact λ_ h=>h.elim):
  Sim fr ro σ (H.set i x') {w with heap:=w.heap.setIfInBounds b obj}/\Qe fr ro w ro {w with heap:=w.heap.setIfInBounds b obj}:=by
 obtain⟨P,n,m⟩:=s.own i b x hσ hH hl;have g:∀c,c≠b->({w with heap:=w.heap.setIfInBounds b obj}:World).heap[c]?=w.heap[c]? :=by
  intro c T;show(w.heap.setIfInBounds b obj)[c]?=_;rw[Vg,Vu (λq=>T q.symm)]
 have L:({w with heap:=w.heap.setIfInBounds b obj}:World).heap[b]?=some obj:=by
  show(w.heap.setIfInBounds b obj)[b]?=_;rw[Vg,Vv rfl,Vv P]
 have l:({w with heap:=w.heap.setIfInBounds b obj}:World).heap.size=w.heap.size:=by simp
 have ev:Qe fr ro w ro {w with heap:=w.heap.setIfInBounds b obj}:=
  ⟨λ_ h=>h,λc h=>g c (λq=>n (q▸h)),λc h=>g c (λq=>m (q▸h)),by rw[l];exact XV _,by
   intro c y h;by_cases q:c=b
   .subst q;exact O y h
   .unfold World.shape? at h⊢;rw[g c q];exact h,rfl,rfl,rfl,XV _⟩
 have X:i<H.length:=(XN.1 hH).1;have E:(H.set i x')[i]?=some x':=Xa X;have k:∀j,j≠i->(H.set i x')[j]?=H[j]? :=λj V=>XR (λq=>V q.symm);have u:=M (ev.ext0 σ) L;refine⟨⟨by rw[X6];exact s.len,s.roOk.to (λ_ q=>q) ev.keepRo (λc h=>by rw[l];exact s.roLt c h),λc h=>by rw[l];exact s.frLt c h,s.roFr,?_,?_,?_,?_⟩,ev⟩
 .intro j c y f a G;rw[l];by_cases q:j=i
  .subst q;rw[hσ]at f;cases f;exact⟨P,n,m⟩
  .rw[k j q]at a;exact s.own j c y f a G
 .intro j p c y z f a G J Q R;by_cases q:j=i
  .subst q;rw[hσ]at f;cases f;by_cases F:p=j
   .exact F.symm
   .rw[k p F]at J;exact s.inj j p _ x z hσ a hH J hl R
  .rw[k j q]at G;by_cases F:p=i
   .subst F;rw[hσ]at a;cases a;exact s.inj j p _ y x f hσ G hH Q hl
   .rw[k p F]at J;exact s.inj j p c y z f a G J Q R
 .intro j y z f a;by_cases q:j=i
  .subst q;rw[E]at a;cases a;rw[hσ]at f;cases f;exact u
  .rw[k j q]at a;refine(s.blk j y z f a).keep (ev.ext0 σ) ?_ ?_
   .rintro c rfl r;exact g c (λe=>q (s.inj j i b z x (e▸f) hσ a hH r hl))
   .rintro c d rfl W;exact g d ((s.hid j c z d f a W).ne i b x hσ hH hl)
 .refine s.hidTo (· = ·) QY (by rw[l];exact XV _) (λ_ _ _ _ _ _ _ q=>q) (λ_ _ _ _ _ _ _ q=>q) λj d y B t Y=>.inl ?_;by_cases q:j=i
  .subst q;rw[E]at t;cases t;rw[hσ]at B;cases B;exact⟨j,x,rfl,hσ,hH,λ_=>hl,N⟩
  .rw[k j q]at t;exact⟨j,y,rfl,B,t,id,λc z=>s.hidKeep B t (λr=>g d (λe=>q (s.inj j i b y x (e▸B) hσ t hH r hl))) ev.keepRo z⟩
def splice{α:Type}(l:List α)(o:Nat)(vs:List α):List α:=l.take o++vs++l.drop (o+vs.length)
theorem Yn{α:Type}{l:List α}{o:Nat}{vs:List α}(h:o+vs.length<=l.length):(splice l o vs).length=l.length:=by
 simp[splice];omega
theorem Qbg{h:Array Obj}{b:Nat}{f:Obj->Obj}{x:Obj}(d:h[b]?=some x):h.modify b f=h.setIfInBounds b (f x):=by
 apply Array.ext_getElem?;intro i;rw[Array.getElem?_modify,Vg];by_cases e:b=i
 .subst e;obtain⟨a,g⟩:=Ve.1 d;simp[g,a]
 .simp[e]
theorem Ys{b t:Nat}:∀{vs l:List Value} {w:World} (off i:Nat),w.heap[b]?=some (.cells l.toArray t (0,0))->off+i+vs.length<=l.length->(∀v∈vs,Qn v)->
  (storeCells ⟨b,off,none⟩ vs i).run P w=.ok () {w with heap:=w.heap.setIfInBounds b (.cells (splice l (off+i) vs).toArray t (0,0))}
 |[],l,w,off,i,hb,hl,hp=>by
  have e:w.heap.setIfInBounds b (.cells (splice l (off+i) []).toArray t (0,0))=w.heap:=by
   apply Array.ext_getElem?;intro j;rw[Vg];by_cases q:b=j
   .subst q;obtain⟨a,m⟩:=Ve.1 hb;simp[a,splice,m]
   .rw[Vu q]
  rw[e];simp[storeCells,go_sem]
 |v::vs,l,w,off,i,hb,hl,hp=>by
  simp only[X3]at hl;have s:=hp v (by simp);have n:w.cell? ⟨b,off+i,none⟩=some l[off+i]:=by
   simp[World.cell?,hb]
  have g:w.frozen? ⟨b,off+i,none⟩=false:=by
   simp[World.frozen?,hb]
  have d:w.setCell ⟨b,off+i,none⟩ v={w with heap:=w.heap.setIfInBounds b (.cells (splice l (off+i) [v]).toArray t (0,0))}:=by
   unfold World.setCell;rw[Qbg hb];simp only[Option.isSome_none,Xj,if_false];congr 3;have:l.toArray.setIfInBounds (off+i) v=(l.set (off+i) v).toArray:=by simp
   rw[this];congr 1;rw[List.set_eq_take_append_cons_drop,Vv (by omega)];simp[splice]
  have a:b<w.heap.size:=by
   rcases VE b w.heap.size with q|q
   .exact q
   .rw[Array.getElem?_eq_none q]at hb;simp at hb
  have k:=Ys (vs:=vs) (l:=splice l (off+i) [v]) (w:={w with heap:=w.heap.setIfInBounds b (.cells (splice l (off+i) [v]).toArray t (0,0))}) off (i+1)
   (by show(w.heap.setIfInBounds b _)[b]?=_;rw[Vg,Vv rfl,Vv a])
   (by rw[Yn (by simp;omega)];omega) (λx u=>hp x (by simp[u]))
  have B:splice (splice l (off+i) [v]) (off+(i+1)) vs=splice l (off+i) (v::vs):=by
   have h:(l.take (off+i)).length=off+i:=by simp;omega
   unfold splice;rw[Vk (l.take (off+i))];have z:off+(i+1)=(l.take (off+i)).length+1:=by omega
   have y:(l.take (off+i)++([v]++l.drop (off+i+[v].length))).take ((l.take (off+i)).length+1)=l.take (off+i)++[v]:=by
    rw[Vd];simp
   have p:(l.take (off+i)++([v]++l.drop (off+i+[v].length))).drop ((l.take (off+i)).length+1+vs.length)=l.drop (off+i+(v::vs).length):=by
    rw[show(l.take (off+i)).length+1+vs.length=(l.take (off+i)).length+(1+vs.length)from by omega,Vc];simp[Nat.add_comm 1];congr 1;omega
   rw[z,y,p];simp
  have r:(w.heap.setIfInBounds b (.cells (splice l (off+i) [v]).toArray t (0,0))).setIfInBounds b (.cells (splice (splice l (off+i) [v]) (off+(i+1)) vs).toArray t (0,0))=
    w.heap.setIfInBounds b (.cells (splice l (off+i) (v::vs)).toArray t (0,0)):=by
   rw[B,Array.setIfInBounds_setIfInBounds]
  rw[r]at k;have f:(Go.store ⟨b,off+i,none⟩ v).run P w=.ok () {w with heap:=w.heap.setIfInBounds b (.cells (splice l (off+i) [v]).toArray t (0,0))}:=by
   rw[<- d];cases v<;>first|exact s.elim|simp[Go.store,Sem.run,n,g,go_sem]
  simp only[storeCells,Jm,Vp,f];exact k
theorem QaI{w:World}{b t:Nat}{l l':List Value}(d:w.heap[b]?=some (.cells l.toArray t (0,0)))(hl:l'.length=l.length)(y:TypeId×Nat)(h:w.shape? b=some y):
  ({w with heap:=w.heap.setIfInBounds b (.cells l'.toArray t (0,0))}:World).shape? b=some y:=by
 have a:b<w.heap.size:=by
  rcases VE b w.heap.size with q|q
  .exact q
  .rw[Array.getElem?_eq_none q]at d;simp at d
 unfold World.shape? at h⊢;rw[d]at h;simp at h;subst h;show(match(w.heap.setIfInBounds b (.cells l'.toArray t (0,0)))[b]? with|some (.cells c elem _)=>some (elem,c.size)|_=>none)=_;rw[Vg,Vv rfl,Vv a];simp[hl]
theorem LR.splice{ro:Nat->Prop}{σ:Sig}{w:World}{az vs:List A}{l m:List Value}(off:Nat)(h:LR ro σ w az l)(k:LR ro σ w vs m):LR ro σ w (Sw.splice az off vs) (Sw.splice l off m):=by
 unfold Sw.splice;rw[k.length];exact((h.take off).append k).append (h.drop _)
theorem Qe7{l m:List Value}{off:Nat}(h:∀v∈l,Qn v)(k:∀v∈m,Qn v):∀v∈Sw.splice l off m,Qn v:=by
 intro v a;simp only[Sw.splice,VF]at a;rcases a with(a|a)|a
 .exact h v (List.mem_of_mem_take a)
 .exact k v a
 .exact h v (List.mem_of_mem_drop a)
theorem OpU.store{t n i off T:Nat}{x y:Operand}{cs vs cs':List A}{v:A}(Q:o.op=.store t x y)(X:opA env x=.ptr i off)(hH:H[i]?=some (.cells T cs))(M:∀w,(sizeOf t).run P w=.ok n w)
  (s:opA env y=v)(hk:Yh v=true)(L:Yt v=vs)(R:vs.length=n)(J:vs.all Yz=true)(h:Nat.ble (off+n) cs.length=true)(z:splice cs off vs=cs'):
  OpU P o env H (H.set i (.cells T cs')):=by
 intro fr O σ N a w r;have j:=Qd r x;rw[X]at j;obtain⟨b,j,Y⟩:=j;have E:=Qd r y;rw[s]at E;obtain⟨m,F,f⟩:=E.cells hk;rw[L]at f;obtain⟨l,G,B,W⟩:=r.sim.blk i _ _ j hH;have q:off+n<=cs.length:=by simpa using h
 have p:m.length=n:=by rw[f.length,R]
 have g:=Ys (P:=P) (vs:=m) off 0 G (by rw[B.length,p];omega) (f.plain J);have d:=r.sim.set (x':=.cells T cs') (obj:=.cells (splice l off m).toArray T (0,0)) j hH rfl
  (λy s=>QaI G (Yn (by rw[B.length,p];omega)) y s)
  (λe V=>⟨_,V,z▸(B.splice off f).mono e,Qe7 W (f.plain J)⟩)
 refine⟨_,O,[],?_,by simpa using d.1,d.2⟩;generalize a.eval=ρ at*;have k:(ρ y).cells.size=n:=by rw[F];simp[p]
 have u:(storeVar t ⟨b,off,none⟩ (ρ y)).run P w=.ok () {w with heap:=w.heap.setIfInBounds b (.cells (splice l off m).toArray T (0,0))}:=by
  unfold storeVar;rw[Vp,M];simp only[Result.andThen];rw[Vu (by simp[k]),F];simpa using g
 simp only[execOp,Q,Y,Instr.storeAt,Instr.sureAddr,pure_bind,Vp,u];rfl
theorem RL.splice{ro:Nat->Prop}{σ:Sig}{w:World}{k:Nat}:∀{e:Nat} {es:List (List A)} {l m:List Value} {c a:List A} {f:Nat},RL ro σ w k es l->es[e]?=some c->LR ro σ w a m->(∀v∈m,Qn v)->f+a.length<=k->
  RL ro σ w k (es.set e (Sw.splice c f a)) (Sw.splice l (e*k+f) m)
 |_,[],_,_,_,_,_,_,h,_,_,_=>by simp at h
 |0,c0::es,l,m,c,a,f,⟨l1,l2,h1,h2,h3,h4⟩,hc,hm,hp,hf=>by
  simp at hc;subst hc h1;have hl1:=h3.1.length;refine⟨Sw.splice l1 f m,l2,?_,?_,⟨h3.1.splice f hm,Qe7 h3.2 hp⟩,h4⟩
  .unfold Sw.splice;simp only[Nat.zero_mul,Xx,Vk];rw[X9 (by omega),Va (by rw[hm.length];omega)]
  .rw[Yn (by omega)];exact h2
 |e+1,c0::es,l,m,c,a,f,⟨l1,l2,h1,h2,h3,h4⟩,hc,hm,hp,hf=>by
  subst h1;have hl1:=h3.1.length;refine⟨l1,Sw.splice l2 (e*k+f) m,?_,h2,h3,RL.splice h4 (by simpa using hc) hm hp hf⟩;have e1:(e+1)*k+f=l1.length+(e*k+f):=by rw[Xm];omega
  unfold Sw.splice;rw[e1,Vd,show l1.length+(e*k+f)+m.length=l1.length+(e*k+f+m.length)from by omega,Vc];simp
theorem RL.length{ro:Nat->Prop}{σ:Sig}{w:World}{k:Nat}:∀{es:List (List A)} {l:List Value},RL ro σ w k es l->es.length*k<=l.length
 |[],l,_=>by simp
 |c::es,l,⟨l1,l2,h1,h2,h3,h4⟩=>by
  subst h1;have:=RL.length h4;have:=h3.1.length;simp only[X3,X5,Xm];omega
theorem QhS{t n i off T k e f:Nat}{x y:Operand}{es es':List (List A)}{c vs V:List A}{v:A}(ho:o.op=.store t x y)(hx:opA env x=.ptr i off)(hH:H[i]?=some (.row T k es))(Y:∀w,(sizeOf t).run P w=.ok n w)
  (h:off=e*k+f)(O:es[e]?=some c)(B:opA env y=v)(hk:Yh v=true)(hv:Yt v=vs)(J:vs.length=n)(M:vs.all Yz=true)(hd:Ym vs=true)(hf:Nat.ble (f+n) k=true)
  (F:splice c f vs=V)(s:es.set e V=es'):
  OpU P o env H (H.set i (.row T k es')):=by
 intro fr ro σ N a w r;have p:=Qd r x;rw[hx]at p;obtain⟨b,p,h2⟩:=p;have R:=Qd r y;rw[B]at R;obtain⟨m,G,j⟩:=R.cells hk;rw[hv]at j;obtain⟨l,L,W⟩:=r.sim.blk i _ _ p hH;have z:f+n<=k:=by simpa using hf
 have X:m.length=n:=by rw[j.length,J]
 have he:e<es.length:=(XN.1 O).1;have Q:off+n<=l.length:=by
  have:=W.length;have h6:(e+1)*k<=es.length*k:=XD k he;rw[Xm]at h6;omega
 have g:=Ys (P:=P) (vs:=m) off 0 L (by omega) (j.plain M);have d:=r.sim.set (x':=.row T k es') (obj:=.cells (splice l off m).toArray T (0,0)) p hH rfl
  (λy B=>QaI L (Yn (by omega)) y B)
  (λex q=>⟨_,q,by
   subst s F h;exact(W.splice O (j.data hd) (j.plain M) (by rw[J];exact z)).mono ex.nil⟩)
 refine⟨_,ro,[],?_,by simpa using d.1,d.2⟩;generalize a.eval=ρ at*;have u:(ρ y).cells.size=n:=by rw[G];simp[X]
 have E:(storeVar t ⟨b,off,none⟩ (ρ y)).run P w=.ok () {w with heap:=w.heap.setIfInBounds b (.cells (splice l off m).toArray T (0,0))}:=by
  unfold storeVar;rw[Vp,Y];simp only[Result.andThen];rw[Vu (by simp[u]),G];simpa using g
 simp only[execOp,ho,h2,Instr.storeAt,Instr.sureAddr,pure_bind,Vp,E];rfl
end
end Go.Sw
namespace Go.Sw
section
variable {P:Program} {o:Oper} {env:Env} {H:Qc} {fr ro:Nat->Prop} {σ:Sig} {w:World}
theorem Ext.heap{w':World}(h:w'.heap=w.heap):Ext ro σ w ro σ w':=
 ⟨λ_ q=>q,λb _=>by rw[h],λb x q=>by unfold World.shape? at q⊢;rw[h];exact q,λ_ _ q=>q⟩
theorem Sim.heap{w':World}(s:Sim fr ro σ H w)(h:w'.heap=w.heap):Sim fr ro σ H w':=
 ⟨s.len,s.roOk.to (λ_ q=>q) (λb _=>by rw[h]) (λb q=>by rw[h];exact s.roLt b q),λb q=>by rw[h];exact s.frLt b q,s.roFr,λi b x q1 q2 q3=>by rw[h];exact s.own i b x q1 q2 q3,s.inj,
  λi y x q1 q2=>(s.blk i y x q1 q2).keep (Ext.heap h) (λb _ _=>by rw[h]) (λb c _ _=>by rw[h]),
  s.hidTo (· = ·) QY (by rw[h];exact XV _) (λ_ _ _ _ _ _ _ q=>q) (λ_ _ _ _ _ _ _ q=>q) λj d y g1 g2 g3=>.inl ⟨j,y,rfl,g1,g2,id,λc q=>q.keep (by rw[h])⟩⟩
theorem Qe.heap{w':World}(h:w'.heap=w.heap)(ho:w'.os=w.os)(ht:w'.tape=w.tape)(hu:w'.output=w.output)(hd:w.drawn<=w'.drawn):Qe fr ro w ro w':=
 ⟨λ_ q=>q,λb _=>by rw[h],λb _=>by rw[h],by rw[h];exact XV _,λb x q=>by unfold World.shape? at q⊢;rw[h];exact q,ho,ht,hu,hd⟩
theorem Sim.moved(s:Sim fr ro σ H w){i:Nat}{x:Blk}{y:Option Nat}(hH:H[i]?=some x)(hσ:σ[i]?=some y):Sim fr ro (σ++[y]) (H.set i .dead++[x]) w:=by
 have F:=s.len;have R:i<H.length:=(XN.1 hH).1;have a:∀(j:Nat) (z:Option Nat) (v:Blk),(σ++[y])[j]?=some z->(H.set i .dead++[x])[j]?=some v->v≠ .dead->
   (j<σ.length/\j≠i/\σ[j]?=some z/\H[j]?=some v)\/(j=σ.length/\z=y/\v=x):=by
  intro j z v g f n;rcases Nat.lt_trichotomy j σ.length with q|q|q
  .rw[XO q]at g;rw[XO (by rw[X6];omega)]at f;by_cases e:j=i
   .subst e;rw[Xa R]at f;cases f;exact absurd rfl n
   .rw[XR (λq=>e q.symm)]at f;exact .inl ⟨q,e,g,f⟩
  .subst q;have m:(σ++[y])[σ.length]?=some y:=by simp
   have V:(H.set i .dead++[x])[σ.length]?=some x:=by rw[F,show H.length=(H.set i .dead).length from by simp];simp
   rw[m]at g;rw[V]at f;cases g;cases f;exact .inr ⟨rfl,rfl,rfl⟩
  .rw[XQ (by simp;omega)]at g;simp at g
 have hσ':∀(j:Nat) (b:Nat),σ[j]?=some (some b)->(σ++[y])[j]?=some (some b):=λj b h=>YO h;have ext:Ext ro σ w ro (σ++[y]) w:=⟨λ_ q=>q,λ_ _=>rfl,λ_ _ q=>q,hσ'⟩;refine⟨by simp[F],s.roOk,s.frLt,s.roFr,?_,?_,?_,s.hidTo (λj J=>(j<σ.length/\j≠i/\J=j)\/(j=σ.length/\J=i)) (by omega) (XV _) (λ_ _ _ _ _ _ _ q=>q) (λ_ _ _ _ _ _ _ q=>q) λj d y P N T=>.inl ?_⟩
 rotate_left 3
 .rcases a j _ y P N (QeK T)with⟨E,B,k,l⟩|⟨E,m,rfl⟩
  .exact⟨j,y,.inl ⟨E,B,rfl⟩,k,l,id,λ_ q=>q⟩
  .subst m;exact⟨i,y,.inr ⟨E,rfl⟩,hσ,hH,id,λ_ q=>q⟩
 .intro j b v g f n;rcases a j _ v g f (Qax n)with⟨_,_,k,l⟩|⟨_,m,rfl⟩
  .exact s.own j b v k l n
  .subst m;exact s.own i b v hσ hH n
 .intro j u b v p g f n M r t;rcases a j _ v g n (Qax r)with⟨_,Q,k,l⟩|⟨O,m,L⟩<;>rcases a u _ p f M (Qax t)with⟨_,n1',q1',q2'⟩|⟨r1',e1',r2'⟩
  .exact s.inj j u b v p k q1' l q2' r t
  .subst e1' r2';exact(Q (s.inj j i b v p k hσ l hH r t)).elim
  .subst m L;exact(n1' (s.inj u i b p v q1' hσ q2' hH t r)).elim
  .rw[O,r1']
 .intro j z v g f;by_cases G:v≠ .dead
  .rcases a j z v g f G with⟨_,_,k,l⟩|⟨_,rfl,rfl⟩
   .exact(s.blk j z v k l).keep ext (λ_ _ _=>rfl) (λ_ _ _ _=>rfl)
   .exact(s.blk i _ _ hσ hH).keep ext (λ_ _ _=>rfl) (λ_ _ _ _=>rfl)
  .obtain rfl:v=.dead:=Classical.not_not.1 G;trivial
def Src(P:Program)(H:Qc)(x:A)(k:Nat)(es:List (List A)):Prop:=
 ∀fr ro σ w v,Sim fr ro σ H w->VR ro σ w x v->(∃a c,v=.slice a es.length c)/\allK k es/\
  ∃l,(∀w':World,w'.heap=w.heap->(Builtin.firstCells k es.length v).run P w'=.ok l.toArray w')/\LR ro [] w es.flatten l/\ ∀v∈l,Qn v
theorem RR.flat{b k:Nat}:∀{es:List (List A)} {off:Nat},RR ro σ w b k es off->CR ro σ w b es.flatten off/\allK k es/\es.flatten.length=es.length*k
 |[],off,_=>⟨trivial,trivial,by simp⟩
 |c::es,off,⟨h1,h2,h3⟩=>by
  obtain⟨q1,q2,q3⟩:=RR.flat h3;refine⟨?_,⟨h1,q2⟩,by simp[q3,h1,Xm,Nat.add_comm]⟩;rw[Vn];have:∀(c:List A) (off:Nat) (d:List A),CR ro σ w b c off->CR ro σ w b d (off+c.length)->CR ro σ w b (c++d) off:=by
   intro c
   induction c with
   |nil=>intro off d _ h;simpa using h
   |cons x c a=>intro off d ⟨h1,h2⟩ h;exact⟨h1,a (off+1) d h2 (by rw[Nat.add_assoc,Nat.add_comm 1];simpa using h)⟩
  exact this c off _ h2 (by rw[h1];exact q1)
theorem Qb8{b off k n c:Nat}{cs:List A}(h:CR ro σ w b cs off)(d:cs.length=n*k):
  ∃l,(∀w':World,w'.heap=w.heap->(Builtin.firstCells k n (.slice (some ⟨b,off,none⟩) n c)).run P w'=.ok l.toArray w')/\LR ro σ w cs l/\ ∀v∈l,Qn v:=by
 obtain⟨l,e,g,a⟩:=YL (P:=P) (cs:=cs) (off:=off) 0 (by simpa using h);refine⟨l,λw' f=>?_,e,g⟩;rw[d]at a;simp only[Builtin.firstCells,loadCells];simpa using a w' #[] f
theorem YW{k c:Nat}{a:Option Addr}:(Builtin.firstCells k 0 (.slice a 0 c)).run P w=.ok #[] w:=by
 cases a<;>simp[Builtin.firstCells,loadCells,loadCellsFrom,go_sem]
theorem Src.rsl{k:Nat}{es:List (List A)}:Src P H (.rsl k es) k es:=by
 intro i l σ w v s ⟨a,c,h1,h2,h3⟩;subst h1;refine⟨⟨a,c,rfl⟩,?_⟩;rcases h3 with rfl|⟨b,f,rfl,j,d⟩
 .exact⟨trivial,[],λ_ _=>YW,rfl,by simp⟩
 .obtain⟨g,h,e⟩:=d.flat;exact⟨h,Qb8 g e⟩
theorem Src.nils{k:Nat}:Src P H .nils k []:=by
 intro a b σ w v s h;simp only[VR]at h;subst h;exact⟨⟨none,0,rfl⟩,trivial,[],λ_ _=>YW,rfl,by simp⟩
theorem RR.drop{b k:Nat}:∀(n:Nat) {es:List (List A)} {off:Nat},RR ro σ w b k es off->RR ro σ w b k (es.drop n) (off+n*k)
 |0,_,_,h=>by simpa using h
 |n+1,[],_,_=>trivial
 |n+1,c::es,off,⟨h1,h2,h3⟩=>by
  have:=RR.drop n h3;rw[show off+(n+1)*k=off+k+n*k from by rw[Xm];omega];exact this
theorem RR.take{b k:Nat}:∀(n:Nat) {es:List (List A)} {off:Nat},RR ro σ w b k es off->RR ro σ w b k (es.take n) off
 |0,_,_,h=>trivial
 |n+1,[],_,_=>trivial
 |n+1,c::es,off,⟨h1,h2,h3⟩=>⟨h1,h2,RR.take n h3⟩
theorem Src.osl{i s n k t:Nat}{es es':List (List A)}(hH:H[i]?=some (.row t k es))(he:(es.drop s).take n=es')(J:s+n<=es.length):Src P H (.osl i s n k) k es':=by
 intro z G σ w v sm h;have d:es'.length=n:=by rw[<- he];simp;omega
 rcases h with⟨rfl,rfl⟩|⟨b,p,a,E,m,x,rfl,u,B,F,y⟩
 .have e:es'=[]:=VL.1 d;subst e;exact⟨⟨none,0,rfl⟩,trivial,[],λ_ _=>YW,rfl,by simp⟩
 .rw[d];refine⟨⟨_,a,rfl⟩,?_⟩;obtain⟨l,g,f⟩:=sm.blk i _ _ x hH;have j:=((YS (pre:=[]) (by simpa using g) f).drop s).take n;rw[he]at j;by_cases q:0<a
  .obtain rfl:=u q;obtain⟨g,f,r⟩:=j.flat;refine⟨f,?_⟩;have:=Qb8 (P:=P) (n:=n) (c:=a) g (by rw[r,d]);simpa using this
  .obtain rfl:n=0:=by omega
   have e:es'=[]:=VL.1 d;subst e;exact⟨trivial,[],λ_ _=>YW,rfl,by simp⟩
def Qv:Nat:=4294967296
theorem Qep(n c:Nat)(h:c<n):Builtin.nextslicecap n c<=4*n+1000:=by
 unfold Builtin.nextslicecap;split
 .omega
 .split
  .omega
  .have a:∀(r c:Nat),c<=2*n+400->Builtin.growBy n r c<=4*n+1000:=by
    intro r
    induction r with
    |zero=>intro c b;simp[Builtin.growBy];omega
    |succ r d=>
     intro c b;simp only[Builtin.growBy];split
     .omega
     .exact d _ (by omega)
   exact a 4 c (by omega)
structure QO (P:Program) (T e k:Nat):Prop where
 sl:∀w,(underlying T).run P w=.ok (.slice e) w
 size:∀w,(sizeOf e).run P w=.ok k w
 zero:∃z,(∀w,(zeroValue e).run P w=.ok z w)/\z.cells.size=k
 bytes:∃i,(∀w,(typeInfo e).run P w=.ok i w)/\i.bytes<=4096
theorem Qjo{T k:Nat}{es:List (List A)}{l rest:List Value}(s:Sim fr ro σ H w)(hk:allK k es)(h:LR ro [] w es.flatten l)(hp:∀v∈l,Qn v):
  Sim fr ro (σ++[some w.heap.size]) (H++[.row T k es]) (w.alloc (.cells (l++rest).toArray T))/\Qe fr ro w ro (w.alloc (.cells (l++rest).toArray T)):=
 ⟨s.allocRow hk h hp,Qe.alloc _ s.roLt s.frLt⟩
theorem YD{k:Nat}:∀{es:List (List A)},allK k es->es.flatten.length=es.length*k
 |[],_=>by simp
 |c::es,⟨h1,h2⟩=>by simp[YD h2,h1,Xm,Nat.add_comm]
theorem Qeh{k:Nat}:∀{es fs:List (List A)},allK k es->allK k fs->allK k (es++fs)
 |[],_,_,h=>h
 |c::es,_,⟨h1,h2⟩,h=>⟨h1,Qeh h2 h⟩
theorem QgU{k:Nat}:∀{es:List (List A)} (n:Nat),allK k es->allK k (es.take n)
 |_,0,_=>trivial
 |[],n+1,_=>trivial
 |c::es,n+1,⟨h1,h2⟩=>⟨h1,QgU n h2⟩
theorem RL.allK{k:Nat}:∀{es:List (List A)} {l:List Value},RL ro σ w k es l->allK k es
 |[],_,_=>trivial
 |c::es,l,⟨l1,l2,h1,h2,h3,h4⟩=>⟨h2,RL.allK h4⟩
theorem RL.app{k:Nat}:∀{n:Nat} {es fs:List (List A)} {l m:List Value},RL ro σ w k es l->n<=es.length->Sw.allK k fs->LR ro σ w fs.flatten m->(∀v∈m,Qn v)->
  RL ro σ w k (es.take n++fs) (Sw.splice l (n*k) m)
 |0,es,fs,l,m,h,hn,hk,hm,hp=>by
  simp only[List.take_zero,Vj,Nat.zero_mul];unfold Sw.splice;simp only[List.take_zero,Vj];exact Y9 hk hm hp
 |n+1,[],fs,l,m,h,hn,hk,hm,hp=>by simp at hn
 |n+1,c::es,fs,l,m,⟨l1,l2,h1,h2,h3,h4⟩,hn,hk,hm,hp=>by
  subst h1;have hl1:=h3.1.length;refine⟨l1,Sw.splice l2 (n*k) m,?_,h2,h3,RL.app h4 (by simpa using hn) hk hm hp⟩;have e1:(n+1)*k=l1.length+n*k:=by rw[Xm];omega
  unfold Sw.splice;rw[e1,Vd,show l1.length+n*k+m.length=l1.length+(n*k+m.length)from by omega,Vc];simp
theorem Qie{T T' e e' k need cap:Nat}{t:TypeId}(E:QO P T e k)(G:∀w,(underlying T').run P w=.ok (.slice e') w){ad:Option Addr}{n m c:Nat}{ax:Option Addr}
  (d:need=n+m)(g:cap<need)(b:need<=Qv){old new:List Value}
  (u:∀w':World,w'.heap=w.heap->(Builtin.firstCells k m (.slice ax m c)).run P w'=.ok new.toArray w')(s:∀w':World,w'.heap=w.heap->(Builtin.firstCells k n (.slice ad n cap)).run P w'=.ok old.toArray w'):
  ∃(rest:List Value) (a:Nat),need<=a/\rest.length=(a-need)*k/\(Builtin.append_ #[T,T'] t #[.slice ad n cap,.slice ax m c]).run P w=
   .ok (.slice (some ⟨w.heap.size,0,none⟩) need a) (({w with drawn:=w.drawn+1}:World).alloc (.cells ((old++new)++rest).toArray e)):=by
 obtain⟨z,B,h⟩:=E.zero;obtain⟨i,H,N⟩:=E.bytes
 let a:=need+w.tape w.drawn (.appendCap need cap e)%(2^63-need)
 refine⟨(Builtin.zeroCells z.cells (a-need)).toList,a,Nat.le_add_right _ _,by simp[Builtin.zeroCells,h],?_⟩;have f:¬(need<=cap):=by omega
 have y:¬((need:Int)>IntKind.i64.max/\(False\/i.bytes=0)):=by
  rintro⟨q,_⟩;have:IntKind.i64.max=9223372036854775807:=by decide
  rw[this]at q;unfold Qv at b;omega
 have M:¬(Builtin.nextslicecap need cap*i.bytes>2^48):=by
  have:=Qep need cap g;have r:Builtin.nextslicecap need cap*i.bytes<=(4*need+1000)*4096:=Nat.mul_le_mul this N;unfold Qv at b;omega
 generalize hF:Builtin.firstCells=F at u s;unfold Builtin.append_;rw[hF];have l:∀W:World,(choose (.appendCap need cap e)).run P W=.ok (need+W.tape W.drawn (.appendCap need cap e)%(2^63-need)) {W with drawn:=W.drawn+1}:=by
  intro W;simp[choose,Sem.run,Question.forced,Question.cut]
 have p:∀(x:Nat) (W:World),(askRoom x).run P W=.ok () W:=by
  intro x W;unfold askRoom;split<;>rfl
 have j:∀(c:Array Value) (W:World),(newRow e c).run P W=.ok ⟨W.heap.size,0,none⟩ (W.alloc (.cells c e)):=λc W=>rfl;subst d;simp only[not_and,false_or]at y;have r:¬(((n+m:Nat):Int)>IntKind.i64.max/\(False\/i.bytes=0)):=by simpa using y
 simp only[XI,XG,XH,Vp,E.sl,E.size,G,H,B,Result.andThen,Builtin.lenOf,Vq,Xj,if_false,XJ,
  Xi,if_true,Vu f,Vu r,Vu M,l,p]
 have L:=s {w with drawn:=w.drawn+1} rfl;have J:=u {w with drawn:=w.drawn+1} rfl;simp only[L,J,j];have O:old.toArray++new.toArray++Builtin.zeroCells z.cells (a-(n+m))=((old++new)++(Builtin.zeroCells z.cells (a-(n+m))).toList).toArray:=by
  apply Array.toList_inj.1;simp
 rw[<- O]
theorem QcR{T T' e e' k cap:Nat}{t:TypeId}(E:QO P T e k)(f:∀w,(underlying T').run P w=.ok (.slice e') w){ad:Option Addr}{n m c:Nat}{ax:Option Addr}
  (b:n+m<=cap){new:List Value}(d:(Builtin.firstCells k m (.slice ax m c)).run P w=.ok new.toArray w):
  (Builtin.append_ #[T,T'] t #[.slice ad n cap,.slice ax m c]).run P w=
   match ad with
   |some a=>(do storeCells (a.add (n*k)) new;pure (Value.slice ad (n+m) cap):Sem Value).run P w
   |none=>.ok (.slice ad (n+m) cap) w:=by
 generalize hF:Builtin.firstCells=F at d;unfold Builtin.append_;rw[hF];simp only[XI,XG,XH,Vp,E.sl,E.size,f,Result.andThen,Builtin.lenOf,Vq,Xj,if_false,XJ,
  Xi,if_true,Vv b,d]
 cases ad with
 |none=>rfl
 |some a=>simp only[Vp,Result.andThen,Vq]
theorem Sim.weaken(s:Sim fr ro σ H w){i:Nat}{x x':Blk}(hH:H[i]?=some x)(hl:x.live=true)(m:∀y,BR ro σ w x y->BR ro σ w x' y)
  (p:∀b c,Hid w x' b c->Hid w x b c:=by exact λ_ _ h=>h.elim):Sim fr ro σ (H.set i x') w:=by
 have R:i<H.length:=(XN.1 hH).1;have t:(H.set i x')[i]?=some x':=Xa R;have E:∀j,j≠i->(H.set i x')[j]?=H[j]? :=λj N=>XR (λq=>N q.symm);have a:∀(j:Nat) (v:Blk),(H.set i x')[j]?=some v->(j=i/\v=x')\/(j≠i/\H[j]?=some v):=by
  intro j v h;by_cases e:j=i
  .subst e;rw[t]at h;cases h;exact .inl ⟨rfl,rfl⟩
  .rw[E j e]at h;exact .inr ⟨e,h⟩
 have r:∀(j:Nat) (v:Blk),(H.set i x')[j]?=some v->v.live=true->∃f,H[j]?=some f/\f.live=true:=by
  intro j v h P;rcases a j v h with⟨rfl,rfl⟩|⟨_,h⟩
  .exact⟨x,hH,hl⟩
  .exact⟨v,h,P⟩
 refine⟨by rw[X6];exact s.len,s.roOk,s.frLt,s.roFr,?_,?_,?_,s.hidTo (· = ·) QY (XV _) (λ_ _ _ _ _ _ _ q=>q) (λ_ _ _ _ _ _ _ q=>q) λj d y J M V=>.inl ?_⟩
 rotate_left 3
 .rcases a j y M with⟨rfl,rfl⟩|⟨_,h⟩
  .exact⟨j,x,rfl,J,hH,λ_=>hl,λc q=>p d c q⟩
  .exact⟨j,y,rfl,J,h,id,λ_ q=>q⟩
 .intro j b v g k z;obtain⟨f,n,F⟩:=r j v k z;exact s.own j b f g n F
 .intro j G b v f g k z L O Q;obtain⟨u,n,F⟩:=r j v z O;obtain⟨T,l,B⟩:=r G f L Q;exact s.inj j G b u T g k n l F B
 .intro j y v g k;rcases a j v k with⟨rfl,rfl⟩|⟨_,h⟩
  .exact m y (s.blk j y x g hH)
  .exact s.blk j y v g h
theorem RL.take{k:Nat}:∀(n:Nat) {es:List (List A)} {l:List Value},RL ro σ w k es l->RL ro σ w k (es.take n) l
 |0,_,_,_=>trivial
 |n+1,[],_,_=>trivial
 |n+1,c::es,l,⟨l1,l2,h1,h2,h3,h4⟩=>⟨l1,l2,h1,h2,h3,RL.take n h4⟩
theorem Y7{c:Call}{T T':TypeId}{x y:Operand}(b:o.op=.call c)(a:c={callee:=.builtin .append,args:= #[x,y],argTypes:= #[T,T']})(ρ:Operand->Value){v:Value}{w':World}
  (h:(Builtin.append_ #[T,T'] o.type #[ρ x,ρ y]).run P w=.ok v w'):(execOp ρ o).run P w=.ok (.value v) w':=by
 subst a;simp only[execOp,b,resolve,invoke,Go.builtin,Vp,Vq,Result.andThen];simp only[XK,Vl,Vm,h]
theorem Sim.phantom(s:Sim fr ro σ H w)(t k:Nat):Sim fr ro (σ++[none]) (H++[.row t k []]) w:=by
 have g:=s.len;have f:∀(i b:Nat),(σ++[none])[i]?=some (some b)->i<σ.length:=by
  intro i b a;rcases VE i σ.length with q|q
  .exact q
  .rw[XP q]at a;cases m:i-σ.length with
   |zero=>rw[m]at a;simp at a
   |succ j=>rw[m]at a;simp at a
 refine⟨by simp[g],s.roOk,s.frLt,s.roFr,?_,?_,?_,s.hidTo (· = ·) QY (XV _) (λ_ _ _ _ _ _ _ q=>q) (λ_ _ _ _ _ _ _ q=>q) λj d y a e l=>.inl ?_⟩
 rotate_left 3
 .have q:=f j d a;rw[XO q]at a;rw[XO (by omega)]at e;exact⟨j,y,rfl,a,e,id,λ_ q=>q⟩
 .intro i b z a e l;have q:=f i b a;rw[XO q]at a;rw[XO (by omega)]at e;exact s.own i b z a e l
 .intro i j b z p a e l n B r;have F:=f i b a;have E:=f j b e;rw[XO F]at a;rw[XO E]at e;rw[XO (by omega)]at l n;exact s.inj i j b z p a e l n B r
 .intro i y z a e;have ext:Ext ro σ w ro (σ++[none]) w:=⟨λ_ q=>q,λ_ _=>rfl,λ_ _ q=>q,λ_ _ h=>YO h⟩;rcases Nat.lt_trichotomy i σ.length with q|q|q
  .rw[XO q]at a;rw[XO (by omega)]at e;exact(s.blk i y z a e).keep ext (λ_ _ _=>rfl) (λ_ _ _ _=>rfl)
  .subst q;have u:(σ++[none])[σ.length]?=some none:=by simp
   have x:(H++[Blk.row t k []])[σ.length]?=some (.row t k []):=by rw[g];simp
   rw[u]at a;rw[x]at e;cases a;cases e;rfl
  .rw[XQ (by simp;omega)]at a;simp at a
theorem Sim.kill(s:Sim fr ro σ H w)(i:Nat):Sim fr ro σ (H.set i .dead) w:=by
 have a:∀(j:Nat) (v:Blk),(H.set i .dead)[j]?=some v->v≠ .dead->H[j]?=some v:=by
  intro j v h k;by_cases e:j=i
  .subst e;rw[Xb]at h;simp only[if_true]at h;split at h
   .cases h;exact absurd rfl k
   .simp at h
  .rw[XR (λq=>e q.symm)]at h;exact h
 refine⟨by rw[X6];exact s.len,s.roOk,s.frLt,s.roFr,?_,?_,?_,s.hidTo (· = ·) QY (XV _) (λ_ _ _ _ _ _ _ q=>q) (λ_ _ _ _ _ _ _ q=>q) λj d y t x z=>.inl ⟨j,y,rfl,t,a j y x (QeK z),id,λ_ q=>q⟩⟩
 .intro j b v g f l;exact s.own j b v g (a j v f (Qax l)) l
 .intro j p b v n g f l u m r;exact s.inj j p b v n g f (a j v l (Qax m)) (a p n u (Qax r)) m r
 .intro j y v g f;by_cases k:v≠ .dead
  .exact s.blk j y v g (a j v f k)
  .obtain rfl:v=.dead:=Classical.not_not.1 k;trivial
theorem grown{c:Call}{T T' e e' k n m cap cx:Nat}{x y:Operand}{es fs:List (List A)}{a:Act}{ad ax:Option Addr}{old new:List Value}(E:QO P T e k)(R:∀w,(underlying T').run P w=.ok (.slice e') w)(X:o.op=.call c)
  (Y:c={callee:=.builtin .append,args:= #[x,y],argTypes:= #[T,T']})(h1:a.eval x=.slice ad n cap)(h2:a.eval y=.slice ax m cx)(s:Sim fr ro σ H w)(h:cap<n+m)(r:n+m<=Qv)
  (g:∀w':World,w'.heap=w.heap->(Builtin.firstCells k n (.slice ad n cap)).run P w'=.ok old.toArray w')(l:∀w':World,w'.heap=w.heap->(Builtin.firstCells k m (.slice ax m cx)).run P w'=.ok new.toArray w')
  (j:LR ro [] w es.flatten old)(L:∀v∈old,Qn v)(p:allK k es)(i:LR ro [] w fs.flatten new)(u:∀v∈new,Qn v)(d:allK k fs)(G:es.length=n)(J:fs.length=m):
  ∃v w' ro' τ,(execOp a.eval o).run P w=.ok (.value v) w'/\VR ro' (σ++τ) w' (.osl H.length 0 (n+m) k) v/\Sim fr ro' (σ++τ) (H++[.row e k (es++fs)]) w'/\Qe fr ro w ro' w':=by
 obtain⟨rest,V,B,F,f⟩:=Qie (t:=o.type) E R rfl h r l g
 let w0:World:={w with drawn:=w.drawn+1}
 have W:Sim fr ro σ H w0:=s.heap rfl;have O:Qe fr ro w ro w0:=Qe.heap rfl rfl rfl rfl (Nat.le_succ _);have z:LR ro [] w0 (es++fs).flatten (old++new):=by
  rw[List.flatten_append];exact(j.append i).mono (Ext.heap (w:=w) (w':=w0) rfl)
 obtain⟨s1,e1⟩:=Qjo (T:=e) (rest:=rest) W (Qeh p d) z (λv Q=>by rcases VF.1 Q with q|q;exact L v q;exact u v q);have b:(execOp a.eval o).run P w=.ok (.value _) _:=Y7 X Y a.eval (by rw[h1,h2];exact f);refine⟨_,_,ro,[some w.heap.size],b,.inr ⟨w.heap.size,0,V,e,(old++new++rest).length,?_,rfl,λ_=>by simp,B,?_,?_⟩,s1,O.trans e1⟩
 .rw[<- s.len];simp
 .have:=Yi w0 (.cells ((old++new)++rest).toArray e);unfold World.shape?;rw[show w.heap.size=w0.heap.size from rfl,this];simp
 .have M:=j.length;have N:=i.length;rw[YD p]at M;rw[YD d]at N;simp only[X5,F,M,N,G,J,Xx];rw[<- XB, <- XB];exact XD k (by omega)
theorem Qgb{c:Call}{T T' e e' k:Nat}{x y:Operand}{ya:A}{fs:List (List A)}(E:QO P T e k)(h:∀w,(underlying T').run P w=.ok (.slice e') w)(j:o.op=.call c)
  (p:c={callee:=.builtin .append,args:= #[x,y],argTypes:= #[T,T']})(O:opA env x=.nils)(G:opA env y=ya)(z:Src P H ya k fs)(s:fs.length<=Qv):
  OpH P o env H (.osl H.length 0 fs.length k) (H++[.row e k fs]):=by
 intro L i σ N a w r;have b:=Qd r x;rw[O]at b;simp only[VR]at b;have q:=Qd r y;rw[G]at q;obtain⟨⟨F,B,f⟩,Q,l,g,J,M⟩:=z L i σ w _ r.sim q;rw[f]at g;by_cases u:fs.length=0
 .have d:fs=[]:=VL.1 u;subst d;refine⟨.slice none 0 0,w,i,[none],?_,.inl ⟨rfl,rfl⟩,r.sim.phantom e k,Qe.refl _ _ _⟩;refine Y7 j p _ ?_;rw[b,f];have:=QcR (t:=o.type) E h (ad:=none) (n:=0) (m:=0) (cap:=0) (c:=B) (ax:=F) (XV 0) (g w rfl);simpa using this
 .have:=grown (es:=[]) (old:=[]) E h j p b f r.sim (by omega) (by omega) (λ_ _=>YW) g rfl (by simp) trivial J M Q rfl rfl;simpa using this
theorem Qjj{c:Call}{T T' e e' k i n:Nat}{x y:Operand}{ya:A}{es fs gs:List (List A)}(E:QO P T e k)(hd:∀w,(underlying T').run P w=.ok (.slice e') w)(X:o.op=.call c)
  (O:c={callee:=.builtin .append,args:= #[x,y],argTypes:= #[T,T']})(hx:opA env x=.osl i 0 n k)(hH:H[i]?=some (.row e k es))(hn:n<=es.length)(B:opA env y=ya)(hs:Src P H ya k fs)(j:n+fs.length<=Qv)
  (hg:es.take n++fs=gs):OpH P o env H (.osl H.length 0 (n+fs.length) k) (H.set i .dead++[.row e k gs]):=by
 intro fr J σ N a w r;subst hg;have g:=Qd r x;rw[hx]at g;have h2:=Qd r y;rw[B]at h2;obtain⟨⟨ay,cy,G⟩,q2,l,q3,q4,q5⟩:=hs fr J σ w _ r.sim h2;rw[G]at q3;have q:i<H.length:=(XN.1 hH).1;have M:(H.set i .dead).length=H.length:=X6;obtain⟨s,hσ⟩:∃s,σ[i]?=some s:=⟨_,XM (by rw[r.sim.len];exact q)⟩;rcases g with⟨rfl,g⟩|⟨b,p,cap,t',mm,V,g,h4,h5,W,h7⟩
 ·
  by_cases hm:fs.length=0
  .have F:fs=[]:=VL.1 hm;subst F;refine⟨.slice none 0 0,w,J,[none],?_,.inl ⟨rfl,rfl⟩,(r.sim.kill i).phantom e k,Qe.refl _ _ _⟩;refine Y7 X O _ ?_;rw[g,G];have:=QcR (t:=o.type) E hd (ad:=none) (n:=0) (m:=0) (cap:=0) (c:=cy) (ax:=ay) (XV 0) (q3 w rfl);simpa using this
  .have:=grown (es:=[]) (old:=[]) E hd X O g G (r.sim.kill i) (by omega) j (λ_ _=>YW) q3 rfl (by simp) trivial q4 q5 q2 rfl rfl;rw[M]at this;simpa using this
 .have aa:=r.sim.blk i _ _ V hH;obtain⟨Y,R,g2⟩:=aa;have Q:(es.take n).length=n:=by simp;omega
  obtain⟨old,o1,o2,o3⟩:∃old:List Value,(∀w':World,w'.heap=w.heap->(Builtin.firstCells k n (.slice (some ⟨b,p,none⟩) n cap)).run P w'=.ok old.toArray w')/\LR J [] w (es.take n).flatten old/\ ∀v∈old,Qn v:=by
   have ab:Src P H (.osl i 0 n k) k (es.take n):=Src.osl hH (by simp) (by omega);obtain⟨_,_,l',z1,z2,z3⟩:=ab fr J σ w (.slice (some ⟨b,p,none⟩) n cap) r.sim (.inr ⟨b,p,cap,t',mm,V,rfl,h4,h5,W,h7⟩);rw[Q]at z1;exact⟨l',z1,z2,z3⟩
  by_cases f:n+fs.length<=cap
  .have h:=QcR (t:=o.type) E hd (ad:=some ⟨b,p,none⟩) (n:=n) (m:=fs.length) (cap:=cap) (c:=cy) (ax:=ay) f (q3 w rfl);have u:l.length=fs.length*k:=by rw[q4.length,YD q2]
   by_cases hm:fs.length=0
   .have F:fs=[]:=VL.1 hm;subst F;have el:l=[]:=VL.1 (by rw[u];simp);subst el;have sw:=(r.sim.weaken (x':=.row e k (es.take n)) hH rfl (by
     intro y B;cases y with
     |none=>simp only[BR]at B⊢;subst B;simp
     |some y=>obtain⟨Y,R,g2⟩:=B;exact⟨Y,R,g2.take n⟩))
    have L:=sw.moved (i:=i) (Xa q) V;rw[List.set_set]at L;refine⟨.slice (some ⟨b,p,none⟩) n cap,w,J,[some b],?_,.inr ⟨b,p,cap,t',mm,?_,by simp,h4,by simpa using h5,W,h7⟩,by simpa using L,Qe.refl _ _ _⟩
    .refine Y7 X O _ ?_;rw[g,G];simpa[storeCells,go_sem]using h
    .rw[<- r.sim.len];simp
   .obtain rfl:p=0*k:=h4 (by omega);have z:(n+fs.length)*k<=Y.length:=by
     have:w.shape? b=some (e,Y.length):=by unfold World.shape?;rw[R];simp
     rw[this]at W;cases W;exact XX (XD k f) (by simpa using h7)
    rw[XB]at z;have ae:=Ys (P:=P) (vs:=l) (n*k) 0 R (by rw[u];simpa using z) q5;have d:=r.sim.set (x':=.row e k (es.take n++fs)) (obj:=.cells (splice Y (n*k) l).toArray e (0,0)) V hH rfl
     (λy B=>QaI R (Yn (by rw[u];exact z)) y B)
     (λex ac=>⟨_,ac,(g2.app hn q2 q4 q5).mono ex.nil⟩)
    have L:=d.1.moved (i:=i) (Xa q) V;rw[List.set_set]at L;refine⟨.slice (some ⟨b,0*k,none⟩) (n+fs.length) cap,_,J,[some b],?_,.inr ⟨b,0*k,cap,t',mm,?_,rfl,h4,f,?_,h7⟩,L,d.2⟩
    .refine Y7 X O _ ?_;rw[g,G,h];simp only[Jm,Nat.zero_mul,Xx,Vp,ae,Result.andThen,Vq];simp
    .rw[<- r.sim.len];simp
    .exact d.2.shape _ _ W
  .have:=grown (es:=es.take n) (old:=old) (fs:=fs) E hd X O g G (r.sim.kill i) (by omega) j o1 q3 o2 o3 (QgU n g2.allK) q4 q5 q2 Q rfl;rw[M]at this;exact this
end
end Go.Sw
namespace Go.Sw
section
variable {P:Program} {o:Oper} {env:Env} {H:Qc}
theorem OpC.fn{c:Call}{f:FuncId}{xs:List Operand}{i:Array TypeId}{args:List A}(b:∀(a:Array Value) (w:World),(callFunc f a).run P w=.ok (.enter f a) w)(h:o.op=.call c)
  (d:c={callee:=.value (.func f),args:=xs.toArray,argTypes:=i})(g:xs.map (opA env)=args):OpC P o env H f args:=by
 intro k j σ N a w r;refine⟨xs.map a.eval,?_,g▸Qbl r xs⟩;subst d;have e:a.eval (.func f)=.func (.func f) #[] #[]:=rfl;generalize a.eval=ρ at*;simp only[execOp,h,resolve,e,Deferred.ofValue,invoke,Vp,Vq,Result.andThen,b];simp
theorem Qch{c:Call}{f:FuncId}{x:Operand}{xs:List Operand}{g:Array TypeId}{args vf vc:List A}(b:∀(a:Array Value) (w:World),(callFunc f a).run P w=.ok (.enter f a) w)(m:o.op=.call c)
  (e:c={callee:=.value x,args:=xs.toArray,argTypes:=g})(n:opA env x=.fn (.func f) vf vc)(j:vf++(xs.map (opA env)++vc)=args):OpC P o env H f args:=by
 intro p q σ N a w r;have d:=Qd r x;rw[n]at d;obtain⟨l,i,d,k,h⟩:=d;refine⟨l++(xs.map a.eval++i),?_,j▸k.append ((Qbl r xs).append h)⟩;subst e;generalize a.eval=ρ at*;simp only[execOp,m,resolve,d,Deferred.ofValue,invoke,Vp,Vq,Result.andThen,b];simp
def Qel(ρ:Nat->Nat)(env:Env):Env->Prop
 |[]=>True
 |(s,a)::r=>lk env s=YI ρ a/\Qel ρ env r
theorem Qel.ok{ro:Nat->Prop}{σ σ':Sig}{w:World}{ρ:Nat->Nat}(h:∀i:Nat,σ[ρ i]?=σ'[i]?){t:Array Value}(r:∀s,VR ro σ w (lk env s) (t.getD s undef)):
  ∀{env':Env},Qel ρ env env'->∀s,VR ro σ' w (lk env' s) (t.getD s undef)
 |[],_,s=>trivial
 |(d,a)::e,⟨h1,h2⟩,s=>by
  simp only[lk];by_cases q:s=d
  .subst q;rw[VH];have:=r s;rw[h1]at this;exact(QdO h).1 this
  .have:Nat.beq s d=false:=by
    rw[VO];intro b;exact q (XS b)
   rw[this];exact Qel.ok h r h2 s
theorem Sim.sub{fr ro:Nat->Prop}{σ:Sig}{w:World}{π:List Nat}{H':Qc}(s:Sim fr ro σ H w)(hH:π.map (λp=>H[p]?)=(H'.map (QW (rho π H.length))).map some)(hπ:π.Nodup):
  Sim fr ro (Yl σ π) H' w/\ ∀j:Nat,σ[rho π H.length j]?=(Yl σ π)[j]? :=by
 have M:∀p∈π,p<H.length:=λp q=>Jn hH q;have hσl:=s.len;have k:∀(j p:Nat),π[j]?=some p->H[p]?=(H'[j]?).map (QW (rho π H.length)):=by
  intro j p a;have:=congrArg (λl=>l[j]?) hH;simp only[Xq,a,Xk]at this;cases e:H'[j]? with
  |none=>rw[e]at this;simp at this
  |some x=>rw[e]at this;simpa using this
 have t:π.length=H'.length:=by simpa using congrArg List.length hH
 have hσc:∀j:Nat,σ[rho π H.length j]?=(Yl σ π)[j]? :=by
  intro j;have:=Qey (τ:=[]) hσl M j;simpa using this
 have hπj:∀(j b:Nat),(Yl σ π)[j]?=some (some b)->∃p,π[j]?=some p/\σ[p]?=some (some b):=by
  intro j b a;simp only[Yl,Xq]at a;cases e:π[j]? with
  |none=>rw[e]at a;simp at a
  |some p=>
   rw[e]at a;simp at a;refine⟨p,rfl,?_⟩;cases m:σ[p]? with
   |none=>rw[m]at a;simp at a
   |some s=>rw[m]at a;simp at a;rw[a]
 have hπi:∀(i j p:Nat),π[i]?=some p->π[j]?=some p->i=j:=by
  intro i j p g f;have r:i<π.length:=(XN.1 g).1;have a:j<π.length:=(XN.1 f).1;rw[XM r]at g;rw[XM a]at f;have h:=(X2 g).trans (X2 f).symm;rcases Nat.lt_trichotomy i j with q|q|q
  .exact(VG.1 hπ i j r a q h).elim
  .exact q
  .exact(VG.1 hπ j i a r q h.symm).elim
 refine⟨⟨by simp[Yl,t],s.roOk,s.frLt,s.roFr,?_,?_,?_,s.hidTo (λj p=>π[j]?=some p) hπi (XV _) (λ_ _ _ _ _ _ _ q=>q) (λ_ _ _ _ _ _ _ q=>q) λj d y N L Q=>.inl ?_⟩,hσc⟩
 rotate_left 3
 .obtain⟨p,g,m⟩:=hπj j d N;exact⟨p,QW (rho π H.length) y,g,m,by rw[k j p g,L];rfl,by rw[QM];exact id,λc q=>(Qao _ _ _ _ _).2 q⟩
 .intro j b x n z G;obtain⟨p,g,m⟩:=hπj j b n;have u:H[p]?=some (QW (rho π H.length) x):=by rw[k j p g,z];rfl
  exact s.own p b _ m u (by rw[QM];exact G)
 .intro i j b x y n z G P O J;obtain⟨p,g,m⟩:=hπj i b n;obtain⟨F,f,E⟩:=hπj j b z;have u:H[p]?=some (QW (rho π H.length) x):=by rw[k i p g,G];rfl
  have B:H[F]?=some (QW (rho π H.length) y):=by rw[k j F f,P];rfl
  have:=s.inj p F b _ _ m E u B (by rw[QM];exact O) (by rw[QM];exact J);subst this;have r:i<π.length:=(XN.1 g).1;have a:j<π.length:=(XN.1 f).1;rw[XM r]at g;rw[XM a]at f;have h:=(X2 g).trans (X2 f).symm;rcases Nat.lt_trichotomy i j with q|q|q
  .exact(VG.1 hπ i j r a q h).elim
  .exact q
  .exact(VG.1 hπ j i a r q h.symm).elim
 .intro j y x n z;have a:j<π.length:=by
   rcases VE j π.length with q|q
   .exact q
   .rw[XQ (by simpa[Yl]using q)]at n;simp at n
  have g:π[j]?=some π[j]:=XM a;have u:H[π[j]]?=some (QW (rho π H.length) x):=by rw[k j _ g,z];rfl
  have m:σ[π[j]]?=some y:=by
   have:=hσc j;rw[n]at this;simpa[rho,g]using this
  exact(Qh0 hσc).1 (s.blk _ y _ m u)
theorem QnV{h0:Nat}{env':Env}{H':Qc}(π:List Nat)(b:π.take h0=List.range h0)(hH:π.map (λp=>H[p]?)=(H'.map (QW (rho π H.length))).map some)(hπ:π.Nodup)
  (hE:Qel (rho π H.length) env env'):Le h0 env H env' H':=by
 intro k g σ N a w r;obtain⟨h,hσ⟩:=r.sim.sub hH hπ;refine⟨g,Yl σ π,⟨h,Qel.ok hσ r.env hE,r.size,r.defers⟩,λ_ q=>q,?_⟩;have e:=r.sim.len;have j:∀p∈π,p<H.length:=λp q=>Jn hH q;unfold Yl;rw[<- List.map_take,b];apply List.ext_getElem?;intro i;rcases VE i h0 with q|q
 .have f:i∈π:=List.mem_of_mem_take (i:=h0) (by rw[b];exact List.mem_range.2 q);have d:i<σ.length:=by rw[e];exact j i f
  rw[Xq,List.getElem?_take,Vv q,List.getElem?_range q];simp[XM d]
 .rw[XQ (by simpa using q),List.getElem?_take,Vu (by omega)]
theorem Le.phantom{h0 s k t:Nat}(g:h0<=H.length)(f:lk env s=.nils):Le h0 env H (up env s (.osl H.length 0 0 k)) (H++[.row t k []]):=by
 intro i d σ N a w r;refine⟨d,σ++[none],⟨r.sim.phantom t k,?_,r.size,r.defers⟩,λ_ q=>q,Qy (by rw[r.sim.len];exact g)⟩;have ext:Ext d σ w d (σ++[none]) w:=⟨λ_ q=>q,λ_ _=>rfl,λ_ _ q=>q,λ_ _ h=>YO h⟩;intro b;simp only[lk];by_cases q:b=s
 .subst q;rw[VH];have:=r.env b;rw[f]at this;exact .inl ⟨rfl,this⟩
 .have:Nat.beq b s=false:=by
   rw[VO];intro e;exact q (XS e)
  rw[this];exact(r.env b).mono ext
mutual
def Yv:A->Bool
 |.bool _=>true
 |.int _ _=>true
 |.str _=>true
 |.tup vs=>Qez vs
 |_=>false
def Qez:List A->Bool
 |[]=>true
 |a::r=>Yv a&&Qez r
end
mutual
theorem VR.scalar{ro ro':Nat->Prop}{σ σ':Sig}{w w':World}:∀{a:A} {v:Value},Yv a=true->VR ro σ w a v->VR ro' σ' w' a v
 |.bool _,_,_,h=>h
 |.int _ _,_,_,h=>h
 |.str _,_,_,h=>h
 |.tup vs,v,hs,h=>by
  simp only[VR,Yv]at h hs⊢;obtain⟨l,h1,h2⟩:=h;exact⟨l,h1,LR.scalar hs h2⟩
 |.any,_,hs,_=>by simp[Yv]at hs
 |.nilp,_,hs,_=>by simp[Yv]at hs
 |.ptr _ _,_,hs,_=>by simp[Yv]at hs
 |.rp _,_,hs,_=>by simp[Yv]at hs
 |.nils,_,hs,_=>by simp[Yv]at hs
 |.rsl _ _,_,hs,_=>by simp[Yv]at hs
 |.osl _ _ _ _,_,hs,_=>by simp[Yv]at hs
 |.agg _,_,hs,_=>by simp[Yv]at hs
 |.fn _ _ _,_,hs,_=>by simp[Yv]at hs
 |.nilf,_,hs,_=>by simp[Yv]at hs
 |.iface _ _,_,hs,_=>by simp[Yv]at hs
 |.nilif,_,hs,_=>by simp[Yv]at hs
 |.map _,_,hs,_=>by simp[Yv]at hs
 |.nilm,_,hs,_=>by simp[Yv]at hs
theorem LR.scalar{ro ro':Nat->Prop}{σ σ':Sig}{w w':World}:∀{az:List A} {l:List Value},Qez az=true->LR ro σ w az l->LR ro' σ' w' az l
 |[],_,_,h=>h
 |a::r,l,hs,h=>by
  simp only[LR,Qez,XY]at h hs⊢;obtain⟨v,l',h1,h2,h3⟩:=h;exact⟨v,l',h1,VR.scalar hs.1 h2,LR.scalar hs.2 h3⟩
end
def Look(H:Qc):A->A->Prop:=λa a'=>(a'=a/\Yw a=true)\/ ∃i n k t es,a=.osl i 0 n k/\H[i]?=some (.row t k es)/\es.length=n/\a'=.rsl k es
def Qbn(H:Qc):List A->List A->Prop
 |[],[]=>True
 |a::az,b::bs=>Look H a b/\Qbn H az bs
 |_,_=>False
theorem Qi7{h0 N:Nat}{Q:QA}{all:Array Oper}{l:List Oper}{d:Nat}{f:FuncId}{args B:List A}{Qr:A->Qc->Prop}(ab:OpC P o env H f args)(hv:Qbn H args B)(hC:C P f B [] Qr)
  (ae:∀r H1,Qr r H1->Yv r=true)(k:∀r H1,Qr r H1->WO P h0 N all l (up env d r) H Q)(hg:Qp all o env true:=by exact rfl)(hd:o.dst=some d:=by exact rfl)(hN:Nat.blt d N=true:=by exact rfl):WO P h0 N all (o::l) env H Q:=by
 intro rd fr ro σ a w r hrd;obtain⟨R,h1,h2⟩:=ab fr ro σ N a w r;refine Qdt (YK hg r) h1 ?_
 let roc:Nat->Prop:=λb=>ro b\/ ∃(i:Nat) (x:Blk),σ[i]?=some (some b)/\H[i]?=some x/\x.live=true
 let frc:Nat->Prop:=λb=>fr b\/ ∃(i:Nat) (x:Blk) (d:Nat),σ[i]?=some (some d)/\H[i]?=some x/\Hid w x d b
 have T:Sim frc roc [] [] w:=by
  refine⟨rfl,r.sim.roOk.to (λ_ q=>.inl q) (λ_ _=>rfl) ?_,?_,?_,by simp,by simp,by simp,by simp⟩
  .rintro b (q|⟨i,x,g,u,F⟩)
   .exact r.sim.roLt b q
   .exact(r.sim.own i b x g u F).1
  .rintro b (q|⟨i,x,d,g,u,F⟩)
   .exact r.sim.frLt b q
   .exact(r.sim.hid i d x b g u F).lt
  .rintro b (q|⟨i,x,g,u,F⟩) (q'|⟨i',x',d',M,Y,V⟩)
   .exact r.sim.roFr b q q'
   .exact(r.sim.hid i' d' x' b M Y V).ro q
   .exact(r.sim.own i b x g u F).2.2 q'
   .exact(r.sim.hid i' d' x' b M Y V).ne i b x g u F rfl
 have L:∀(az G:List A) (l:List Value),Qbn H az G->LR ro σ w az l->LR roc [] w G l:=by
  intro az
  induction az with
  |nil=>
   intro G l E h;cases G with
   |nil=>exact h
   |cons b G=>exact E.elim
  |cons x az ih=>
   intro G l E h;cases G with
   |nil=>exact E.elim
   |cons y G=>
    obtain⟨hx,E⟩:=E;obtain⟨v,l',rfl,hv,h⟩:=h;refine⟨v,l',rfl,?_,ih G l' E h⟩;rcases hx with⟨rfl,hx⟩|⟨i,n,k,t,es,rfl,hH,hn,rfl⟩
    .exact(hv.data (σ':=[]) hx).mono ⟨λ_ q=>.inl q,λ_ _=>rfl,λ_ _ q=>q,λ_ _ q=>q⟩
    .subst hn;rcases hv with⟨h0,h⟩|⟨b,p,X,t',m,h1,h,h2,h3,h4,h5⟩
     .have:es=[]:=VL.1 h0;subst this;exact⟨none,0,h,XV _,.inl rfl⟩
     .refine⟨_,X,h,h3,?_⟩;by_cases he:es=[]
      .exact .inl he
      .right;have hc:0<X:=Vh (List.length_pos_iff.2 he) h3;obtain rfl:=h2 hc;obtain⟨l,g,u⟩:=r.sim.blk i _ _ h1 hH;refine⟨b,0,by simp,.inr ⟨i,_,h1,hH,rfl⟩,?_⟩;have:=YS (pre:=[]) (by simpa using g) u;exact this.keep ⟨λ_ q=>.inl q,λ_ _=>rfl,λ_ _ q=>q,λ_ _ q=>q⟩ rfl
 refine Calls.mono (hC frc roc [] R w T (L _ _ _ hv h2)) ?_;rintro e W ⟨v,rr,H1,af,τ,rfl,hq,sc,ac,ev⟩;have J:∀(i b:Nat) (x:Blk),σ[i]?=some (some b)->H[i]?=some x->x.live=true->W.heap[b]?=w.heap[b]? :=λi b x g u F=>ev.keepRo b (.inr ⟨i,x,g,u,F⟩);have z:Qe fr ro w ro W:=⟨λ_ q=>q,λb q=>ev.keepRo b (.inl q),λb q=>ev.keepFr b (.inl q),ev.size,ev.shape,ev.os,ev.tape,ev.output,ev.drawn⟩;have O:Sim fr ro σ H W:=by
  refine⟨r.sim.len,r.sim.roOk.to (λ_ q=>q) z.keepRo (λb q=>Vh (r.sim.roLt b q) ev.size),λb q=>Vh (r.sim.frLt b q) ev.size,r.sim.roFr,?_,r.sim.inj,?_,r.sim.hidTo (· = ·) QY ev.size (λ_ _ _ _ _ _ _ q=>q) (λ_ _ _ _ _ _ _ q=>q) λj d y g1 g2 g3=>.inl ⟨j,y,rfl,g1,g2,id,λc q=>r.sim.hidKeep g1 g2 (J j d y g1 g2) z.keepRo q⟩⟩
  .intro i b x g u F;obtain⟨p1,p2,p3⟩:=r.sim.own i b x g u F;exact⟨Vh p1 ev.size,p2,p3⟩
  .intro i y x g u;refine(r.sim.blk i y x g u).keep (z.ext0 σ) ?_ ?_
   .rintro b rfl E;exact J i b x g u E
   .rintro b c rfl E;exact ev.keepFr c (.inr ⟨i,x,b,g,u,E⟩)
 have hk:=k rr H1 hq;have aa:d<N:=by simpa using hN
 simp only[hd,Act.put];have r':Rel fr ro σ H (up env d rr) N {a with tmps:=a.tmps.setIfInBounds d v} W:=
  ⟨O,VR.up (fr:=fr) (λs=>(r.env s).mono (z.ext0 σ)) (by rw[r.size];exact aa) (ac.scalar (ae _ _ hq)),by simpa using r.size,r.defers.keep z⟩
 exact⟨_,rfl,Yq (λe a w q=>q.step z rfl) _ _ _ (hk rd fr ro σ _ W r' (hrd.to z λ_ q=>q))⟩
end
end Go.Sw
namespace Go.Sw
section
variable {P:Program} {o:Oper} {env:Env} {H:Qc}
theorem Qgz{α:Type}:∀(vs:List α) (off i:Nat) (l:List α),off+i+vs.length<=l.length->
  (vs.zipIdx i).foldl (λ(cs:Array α) (x:α×Nat)=>cs.setIfInBounds (off+x.2) x.1) l.toArray=(splice l (off+i) vs).toArray
 |[],off,i,l,h=>by simp[splice]
 |v::vs,off,i,l,h=>by
  simp only[X3]at h;rw[List.zipIdx_cons,XF];have e1:l.toArray.setIfInBounds (off+i) v=(splice l (off+i) [v]).toArray:=by
   have:l.toArray.setIfInBounds (off+i) v=(l.set (off+i) v).toArray:=by simp
   rw[this];congr 1;rw[List.set_eq_take_append_cons_drop,Vv (by omega)];simp[splice]
  rw[e1,Qgz vs off (i+1) _ (by rw[Yn (by simp;omega)];omega)];congr 1;have a:(l.take (off+i)).length=off+i:=by simp;omega
  unfold splice;rw[Vk (l.take (off+i))];have d:off+(i+1)=(l.take (off+i)).length+1:=by omega
  have b:(l.take (off+i)++([v]++l.drop (off+i+[v].length))).take ((l.take (off+i)).length+1)=l.take (off+i)++[v]:=by
   rw[Vd];simp
  have e:(l.take (off+i)++([v]++l.drop (off+i+[v].length))).drop ((l.take (off+i)).length+1+vs.length)=l.drop (off+i+(v::vs).length):=by
   rw[show(l.take (off+i)).length+1+vs.length=(l.take (off+i)).length+(1+vs.length)from by omega,Vc];simp[Nat.add_comm 1];congr 1;omega
  rw[d,b,e];simp
theorem QgD{a:Nat->Option (Nat×Nat)}{l:List Value}{i off size:Nat}{v:Value}{m:List Value}{rest:List (Nat×Value)}(f:a i=some (off,size))(d:v.cells=m.toArray)(e:m.length=size)
  (hl:off+size<=l.length):Instr.fill a l.toArray ((i,v)::rest)=Instr.fill a (splice l off m).toArray rest:=by
 have b:v.cells.size=size:=by rw[d];simpa using e
 rw[Instr.fill];simp only[f];rw[Vu (by simp[b];omega),d];congr 1;have:=Qgz m off 0 l (by omega);rw[Xy]at this;rw[<- this];simp[Array.foldl_toList]
def Qak:Nat->List Operand->List (Nat×Operand)
 |_,[]=>[]
 |i,x::xs=>(i,x)::Qak (i+1) xs
def QG(env:Env)(xs:List Operand):List (List A):=xs.map λx=>Yt (opA env x)
theorem Qfk{fr ro:Nat->Prop}{σ:Sig}{N:Nat}{a:Act}{w:World}(r:Rel fr ro σ H env N a w){k:Nat}:∀(xs:List Operand) (j:Nat) (pre rest:List Value),pre.length=j*k->rest.length=xs.length*k->
  (xs.all λx=>Yh (opA env x))=true->allK k (QG env xs)->
  ∃l,Instr.fill (λi=>some (i*k,k)) (pre++rest).toArray ((Qak j xs).map λp=>(p.1,a.eval p.2))=some (pre++l).toArray/\LR ro σ w (QG env xs).flatten l
 |[],j,pre,rest,h1,h2,_,_=>by
  have:rest=[]:=VL.1 (by simpa using h2);subst this;exact⟨[],rfl,rfl⟩
 |x::xs,j,pre,rest,h1,h2,h3,h4=>by
  simp only[List.all_cons,XY]at h3;obtain⟨hk1,hk2⟩:=h4;obtain⟨m,q1,q2⟩:=(Qd r x).cells h3.1;have hm:m.length=k:=by rw[q2.length];exact hk1
  simp only[X3,Xm]at h2;simp only[Qak,Vl];rw[QgD (off:=j*k) (size:=k) rfl q1 hm (by simp;omega)];have e:splice (pre++rest) (j*k) m=(pre++m)++rest.drop k:=by
   unfold splice;rw[<- h1,List.take_left,Vc,hm]
  rw[e];obtain⟨l,d,b⟩:=Qfk r xs (j+1) (pre++m) (rest.drop k) (by simp[h1,hm,Xm]) (by simp;omega) h3.2 hk2;refine⟨m++l,?_,?_⟩
  .rw[d];simp
  .show LR ro σ w ((Yt (opA env x))++(QG env xs).flatten) (m++l);exact q2.append b
theorem JE{fr ro:Nat->Prop}{σ:Sig}{N:Nat}{a:Act}{w:World}(r:Rel fr ro σ H env N a w){T e k n:Nat}{xs:List Operand}(E:QO P T e k)(s:xs.length=n)(f:Nat.ble (n*k) 16777216=true)
  (j:(xs.all λx=>Yh (opA env x))=true)(m:allK k (QG env xs)):
  ∃l,(Instr.buildSlice T n (((Qak 0 xs).map λp=>(p.1,a.eval p.2)).toArray)).run P w=.ok (.slice (some ⟨w.heap.size,0,none⟩) n n) (w.alloc (.cells l.toArray e))/\LR ro σ w (QG env xs).flatten l:=by
 obtain⟨z,t,u⟩:=E.zero;have q:n*k<=16777216:=by simpa using f
 have d:∀(c:Array Value) (W:World),(newRow e c).run P W=.ok ⟨W.heap.size,0,none⟩ (W.alloc (.cells c e)):=λc W=>rfl;unfold Instr.buildSlice;by_cases h:n*k=0
 .obtain⟨l,b,g⟩:=Qfk r (k:=k) xs 0 [] [] (by simp) (by rw[s];simpa using h.symm) j m;refine⟨l,?_,g⟩;simp only[Vp,E.sl,Result.andThen,E.size,h];simp only[Xn,gt_iff_lt,if_false,if_true,Vq,XJ,Result.andThen];have y:Array.range 0= #[]:=rfl;simp at b;simp[y,b,d]
 .obtain⟨l,b,g⟩:=Qfk r (k:=k) xs 0 [] ((Array.range (n*k)).map (λi=>z.cells[i%z.cells.size]!)).toList (by simp) (by rw[s];simp) j m;refine⟨l,?_,g⟩;simp only[Vp,E.sl,Result.andThen,E.size,Vu h,XJ,t,Vq];rw[Vu (by omega)];simp only[Vj]at b;rw[Array.toArray_toList]at b;simp only[b,Vp,d,Result.andThen,Vq]
theorem Jo{T n:Nat}{xs:List Operand}(a:o.op=.buildSlice T n (Qak 0 xs).toArray)(ρ:Operand->Value){v:Value}{w w':World}
  (h:(Instr.buildSlice T n (((Qak 0 xs).map λp=>(p.1,ρ p.2)).toArray)).run P w=.ok v w'):(execOp ρ o).run P w=.ok (.value v) w':=by
 simp only[execOp,a,Vp,XK,h,Result.andThen,Vq]
theorem OpH.lit{T e k n:Nat}{xs:List Operand}{es:List (List A)}(E:QO P T e k)(t:o.op=.buildSlice T n (Qak 0 xs).toArray)(p:xs.length=n)(d:Nat.ble (n*k) 16777216=true)
  (u:(xs.all λx=>Yh (opA env x))=true)(b:QG env xs=es)(g:allK k es)(z:es.flatten.all Yz=true)(s:Ym es.flatten=true):
  OpH P o env H (.osl H.length 0 n k) (H++[.row e k es]):=by
 intro B j σ N a w r;subst b;obtain⟨l,y,h⟩:=JE r E p d u g;have f:LR j [] w (QG env xs).flatten l:=h.data s;obtain⟨m,i⟩:=Qjo (T:=e) (rest:=[]) r.sim g f (h.plain z);rw[Vi]at m i;have q:l.length=n*k:=by rw[h.length,YD g];simp[QG,p]
 refine⟨_,_,j,[some w.heap.size],Jo t a.eval y,.inr ⟨w.heap.size,0,n,e,l.length,?_,rfl,λ_=>by simp,XV _,?_,by rw[q,Xx];exact XV _⟩,m,i⟩
 .rw[<- r.sim.len];simp
 .unfold World.shape?;rw[Yi];simp
theorem YM{T e k n:Nat}{xs:List Operand}{es:List (List A)}(E:QO P T e k)(p:o.op=.buildSlice T n (Qak 0 xs).toArray)(i:xs.length=n)(d:Nat.ble (n*k) 16777216=true)
  (q:(xs.all λx=>Yh (opA env x))=true)(b:QG env xs=es)(f:allK k es)(u:es.flatten.all Yz=true):
  OpH P o env H (.osl H.length 0 n k) (H++[.rowr e k es]):=by
 intro y m σ N a w r;subst b;obtain⟨l,s,g⟩:=JE r E i d q f;have h:=r.sim.allocRowr (t:=e) (rest:=[]) f g (g.plain u);rw[Vi]at h;have j:l.length=n*k:=by rw[g.length,YD f];simp[QG,i]
 refine⟨_,_,m,[some w.heap.size],Jo p a.eval s,.inr ⟨w.heap.size,0,n,e,l.length,?_,rfl,λ_=>by simp,XV _,?_,by rw[j,Xx];exact XV _⟩,h,Qe.alloc _ r.sim.roLt r.sim.frLt⟩
 .rw[<- r.sim.len];simp
 .unfold World.shape?;rw[Yi];simp
theorem JD{n:Int}{y:Nat}{c:BoundsCode}{w:World}(h0:0<=n)(a:n<=y):(Instr.sliceBound (.int .i64 n) y c).run P w=.ok n.toNat w:=by
 simp[Instr.sliceBound,asIntOf,h0,a,go_sem]
theorem Qhc{T e:Nat}{k:Nat}{w:World}(E1:∀w,(underlying T).run P w=.ok (.slice e) w)(E2:∀w,(sizeOf e).run P w=.ok k w){ad:Option Addr}{n cap:Nat}{lo hi:Option Value}{l h:Nat}(f:n<=cap)
  (b:lo=none/\l=0\/ ∃z:Int,lo=some (.int .i64 z)/\0<=z/\z.toNat=l)(a:hi=none/\h=n\/ ∃z:Int,hi=some (.int .i64 z)/\0<=z/\z.toNat=h)(i:l<=h)(j:h<=n):
  (Instr.sliceAt T (.slice ad n cap) lo hi none).run P w=.ok (.slice (if cap=l then ad else ad.map (·.add (l*k))) (h-l) (cap-l)) w:=by
 have g:(Instr.sliceBounds true n cap lo hi none).run P w=.ok (l,h,cap) w:=by
  rcases b with⟨rfl,rfl⟩|⟨z,rfl,d,rfl⟩<;>rcases a with⟨rfl,rfl⟩|⟨y,rfl,y0,rfl⟩
  .simp[Instr.sliceBounds,go_sem]
  .simp only[Instr.sliceBounds,Vp,Vq,Result.andThen,JD y0 (show y<=(cap:Int)by omega)]
  .simp only[Instr.sliceBounds,Vp,Vq,Result.andThen,JD d (show z<=(h:Int)by omega)]
  .simp only[Instr.sliceBounds,Vp,Vq,Result.andThen,JD y0 (show y<=(cap:Int)by omega),JD d (show z<=(y.toNat:Int)by omega)]
 simp only[Instr.sliceAt,Vp,E1,Result.andThen,Instr.slice,g,E2,Vq]
theorem Qbd{fr ro:Nat->Prop}{σ:Sig}{N:Nat}{a:Act}{w:World}(r:Rel fr ro σ H env N a w){x:Option Operand}{l d:Nat}(h:x=none/\l=d\/ ∃y,∃z:Int,x=some y/\opA env y=.int .i64 z/\0<=z/\z.toNat=l):
  x.map a.eval=none/\l=d\/ ∃z:Int,x.map a.eval=some (.int .i64 z)/\0<=z/\z.toNat=l:=by
 rcases h with⟨rfl,rfl⟩|⟨y,z,rfl,f,e,b⟩
 .exact .inl ⟨rfl,rfl⟩
 .exact .inr ⟨z,by simp[QN r f],e,b⟩
theorem QnQ{T e k:Nat}{x:Operand}{lo hi:Option Operand}{es es':List (List A)}{l h:Nat}(E1:∀w,(underlying T).run P w=.ok (.slice e) w)(E2:∀w,(sizeOf e).run P w=.ok k w)(B:o.op=.slice T x lo hi none)
  (G:opA env x=.rsl k es)(q:lo=none/\l=0\/ ∃y,∃z:Int,lo=some y/\opA env y=.int .i64 z/\0<=z/\z.toNat=l)
  (p:hi=none/\h=es.length\/ ∃y,∃z:Int,hi=some y/\opA env y=.int .i64 z/\0<=z/\z.toNat=h)(m:l<=h)(F:h<=es.length)(n:(es.take h).drop l=es'):OpV P o env H (.rsl k es'):=by
 intro M L σ N a w r;subst n;have i:=Qd r x;rw[G]at i;obtain⟨ad,g,i,J,t⟩:=i;have f:=Qhc (P:=P) (w:=w) E1 E2 (ad:=ad) J (Qbd r q) (Qbd r p) m F;have d:((es.take h).drop l).length=h-l:=by simp;omega
 refine⟨_,by simp only[execOp,B,i,Vp,f,Result.andThen,Vq,Xl];rfl,?_⟩;refine⟨_,g-l,by rw[d],by rw[d];omega,?_⟩;rcases t with rfl|⟨b,j,rfl,u,s⟩
 .left;simp
 .by_cases E:g=l
  .left;apply VL.1;omega
  .right;refine⟨b,j+l*k,by rw[Vu E];simp[Jm],u,?_⟩;exact(s.take h).drop l
theorem QfW{T e k i s n:Nat}{x:Operand}{lo hi:Option Operand}{l h:Nat}(E1:∀w,(underlying T).run P w=.ok (.slice e) w)(E2:∀w,(sizeOf e).run P w=.ok k w)(L:o.op=.slice T x lo hi none)
  (Q:opA env x=.osl i s n k)(u:lo=none/\l=0\/ ∃y,∃z:Int,lo=some y/\opA env y=.int .i64 z/\0<=z/\z.toNat=l)
  (j:hi=none/\h=n\/ ∃y,∃z:Int,hi=some y/\opA env y=.int .i64 z/\0<=z/\z.toNat=h)(t:l<=h)(J:h<=n):OpV P o env H (.osl i (s+l) (h-l) k):=by
 intro V W σ N a w r;have g:=Qd r x;rw[Q]at g;rcases g with⟨rfl,g⟩|⟨b,p,f,F,m,g,R,M,O,E,G⟩
 .have d:=Qhc (P:=P) (w:=w) E1 E2 (ad:=none) (XV 0) (Qbd r u) (Qbd r j) t J;refine⟨_,by simp only[execOp,L,g,Vp,d,Result.andThen,Vq,Xl];rfl,?_⟩;left;obtain rfl:h=0:=by omega
  obtain rfl:l=0:=by omega
  simp
 .have d:=Qhc (P:=P) (w:=w) E1 E2 (ad:=some ⟨b,p,none⟩) O (Qbd r u) (Qbd r j) t J;refine⟨_,by simp only[execOp,L,R,Vp,d,Result.andThen,Vq,Xl];rfl,?_⟩;right;by_cases B:f=l
  .refine⟨b,p,0,F,m,g,by rw[Vv B];simp[B],λq=>by omega,by omega,E,?_⟩;subst B;exact XX (by simp) G
  .refine⟨b,p+l*k,f-l,F,m,g,by rw[Vu B];simp[Jm],λq=>by rw[M (by omega),XB],by omega,E,?_⟩;rw[show s+l+(f-l)=s+f from by omega];exact G
theorem OpV.max{c:Call}{x y:Operand}{k:IntKind}{m n:Int}(h:o.op=.call c)(e:c={callee:=.builtin .max,args:= #[x,y],argTypes:=c.argTypes})(f:opA env x=.int k m)(j:opA env y=.int k n):
  OpV P o env H (.int k (if m<n then n else m)):=by
 intro l p σ N a w r;have i:=QN r f;have g:=QN r j;refine⟨_,?_,rfl⟩;generalize a.eval=ρ at*;have d:c.callee=.builtin .max:=by rw[e]
 have b:c.args= #[x,y]:=by rw[e]
 simp only[execOp,h,resolve,d,b,invoke,Go.builtin,Vp,Vq,Result.andThen];simp[Builtin.max_,Builtin.max2,i,g,go_sem]
theorem OpV.min{c:Call}{x y:Operand}{k:IntKind}{m n:Int}(h:o.op=.call c)(e:c={callee:=.builtin .min,args:= #[x,y],argTypes:=c.argTypes})(f:opA env x=.int k m)(j:opA env y=.int k n):
  OpV P o env H (.int k (if n<m then n else m)):=by
 intro l p σ N a w r;have i:=QN r f;have g:=QN r j;refine⟨_,?_,rfl⟩;generalize a.eval=ρ at*;have d:c.callee=.builtin .min:=by rw[e]
 have b:c.args= #[x,y]:=by rw[e]
 simp only[execOp,h,resolve,d,b,invoke,Go.builtin,Vp,Vq,Result.andThen];simp[Builtin.min_,Builtin.min2,i,g,go_sem]
end
end Go.Sw
namespace Go.Sw
section
variable {P:Program} {h0 N:Nat} {env:Env} {H:Qc} {Q:QA} {c c':Code}
def CutP(h0:Nat)(Eb:Env)(Hb:Qc)(Q:QA):QA
 |.normal,env,H=>Le h0 env H Eb Hb
 |.exit id,env,H=>Q (.exit id) env H
 |.ret,env,H=>Q .ret env H
theorem TC.cut(Eb:Env)(Hb:Qc)(h:TC P h0 N c env H (CutP h0 Eb Hb Q))(k:∀env H,Le h0 env H Eb Hb->Q .normal env H):TC P h0 N c env H Q:=
 h.mono λx env' H' q=>by
  cases x with
  |normal=>exact k _ _ q
  |exit id=>exact q
  |ret=>exact q
theorem Qmw(h:TC P h0 N c env H Q):Seq P h0 N c Q .normal env H:=h
theorem seqX{id:Nat}(h:Q (.exit id) env H):Seq P h0 N c Q (.exit id) env H:=h
theorem seqR(h:Q .ret env H):Seq P h0 N c Q .ret env H:=h
theorem bloN{id:Nat}(h:Q .normal env H):Blo id Q .normal env H:=h
theorem bloE{id:Nat}(h:Q .normal env H):Blo id Q (.exit id) env H:=by simp only[Blo,VH,Vr];exact h
theorem bloX{id a:Nat}(e:Nat.beq a id=false)(h:Q (.exit a) env H):Blo id Q (.exit a) env H:=by simp only[Blo,e,Vs];exact h
theorem bloR{id:Nat}(h:Q .ret env H):Blo id Q .ret env H:=h
def Qg0{S B:Type}(h0:Nat)(b:Ctl S B)(Eb:S->Env)(Hb:S->Qc)(Q:QA):QA
 |.normal,env,H=>∃s,b=.cont s/\Le h0 env H (Eb s) (Hb s)
 |.exit id,env,H=>Q (.exit id) env H
 |.ret,env,H=>Q .ret env H
theorem QhP{S B:Type}{b:Ctl S B}(Eb:S->Env)(Hb:S->Qc)(h:TC P h0 N c env H (Qg0 h0 b Eb Hb Q))(k:∀s env H,b=.cont s->Le h0 env H (Eb s) (Hb s)->Q .normal env H):TC P h0 N c env H Q:=
 h.mono λx env' H' q=>by
  cases x with
  |normal=>obtain⟨s,e,q⟩:=q;exact k s _ _ e q
  |exit id=>exact q
  |ret=>exact q
section
variable {S B:Type} {b:Ctl S B} {Eb:S->Env} {Hb:S->Qc}
theorem Qo{s:S}(e:b=.cont s)(h:Le h0 env H (Eb s) (Hb s)):Qg0 h0 b Eb Hb Q .normal env H:=⟨s,e,h⟩
theorem Qs(h:Q .ret env H):Qg0 h0 b Eb Hb Q .ret env H:=h
end
theorem Qi9{x:Operand}{t:Bool}(hx:opA env x=.bool t)(h:t=true)(ht:TC P h0 N c env H Q):TC P h0 N (.cond x c c') env H Q:=TC.cond hx (λ_=>ht) (λq=>by rw[h]at q;cases q)
theorem Qja{x:Operand}{t:Bool}(hx:opA env x=.bool t)(h:t=false)(hf:TC P h0 N c' env H Q):TC P h0 N (.cond x c c') env H Q:=TC.cond hx (λq=>by rw[h]at q;cases q) (λ_=>hf)
section
variable {S B:Type} {I:S->Env->Qc->Prop}
theorem Qj{s:S}{d:Ctl S B}(e:some (Ctl.cont s)=some d)(h:I s env H):Qbm I d Q .normal env H:=⟨s,(X2 e).symm,h⟩
theorem Ql{id:Nat}{b:B}{d:Ctl S B}(e:some (Ctl.done b)=some d)(h:Q (.exit id) env H):Qbm I d Q (.exit id) env H:=⟨⟨b,(X2 e).symm⟩,h⟩
theorem QD{b:B}{d:Ctl S B}(e:some (Ctl.done b)=some d)(h:Q .ret env H):Qbm I d Q .ret env H:=⟨⟨b,(X2 e).symm⟩,h⟩
end
end
theorem bnd{α β:Type}{x:Option α}{f:α->Option β}{r:β}(h:x.bind f=some r):∃a,x=some a/\f a=some r:=Option.bind_eq_some_iff.1 h
theorem ifT{α:Type}{c:Bool}{x y:Option α}{r:α}(a:c=true)(h:(bif c then x else y)=some r):x=some r:=by subst a;exact h
theorem ifF{α:Type}{c:Bool}{x y:Option α}{r:α}(a:c=false)(h:(bif c then x else y)=some r):y=some r:=by subst a;exact h
def idx{α:Type}(l:List α)(i:Int):Option α:=bif decide (0<=i)then l[i.toNat]? else none
theorem Qav{α:Type}{l:List α}{i:Int}{x:α}(h:idx l i=some x):0<=i/\l[i.toNat]?=some x:=by
 unfold idx at h;by_cases q:0<=i
 .rw[Vw q]at h;exact⟨q,h⟩
 .rw[Vz q]at h;simp at h
def app{α:Type}(l m:List α):Option (List α):=bif Nat.ble (l.length+m.length) Qv then some (l++m)else none
theorem QhN{α:Type}{l m r:List α}(h:app l m=some r):l.length+m.length<=Qv/\l++m=r:=by
 unfold app at h;cases q:Nat.ble (l.length+m.length) Qv with
 |true=>rw[q]at h;exact⟨XT q,X2 h⟩
 |false=>rw[q]at h;simp at h
def slc{α:Type}(l:List α)(lo hi:Int):Option (List α):=bif decide (0<=lo)&&decide (lo<=hi)&&decide (hi<=(l.length:Int))then some ((l.take hi.toNat).drop lo.toNat)else none
theorem QjA{α:Type}{l r:List α}{lo hi:Int}(h:slc l lo hi=some r):0<=lo/\lo<=hi/\hi<=l.length/\(l.take hi.toNat).drop lo.toNat=r:=by
 unfold slc at h;cases q:(decide (0<=lo)&&decide (lo<=hi)&&decide (hi<=(l.length:Int)))with
 |true=>
  rw[q]at h;simp at q;exact⟨q.1.1,q.1.2,q.2,X2 h⟩
 |false=>rw[q]at h;simp at h
def Qdx{α:Type}(l:List α)(i:Int)(x:α):Option (List α):=bif decide (0<=i)&&decide (i<(l.length:Int))then some (l.set i.toNat x)else none
theorem Qhm{α:Type}{e:α->List A}{l:List α}{i:Nat}{x:α}(h:l[i]?=some x):(l.map e)[i]?=some (e x):=by simp[h]
end Go.Sw
namespace Go.Sw
section
variable {P:Program} {h0 N:Nat} {env:Env} {H H':Qc} {Q:QA} {all:Array Oper} {o:Oper} {l:List Oper} {d:Nat} {x:A}
theorem vV(a:OpV P o env H x)(k:WO P h0 N all l (up env d x) H Q)(hg:Qp all o env true:=by exact rfl)(hd:o.dst=some d:=by exact rfl)(hN:Nat.blt d N=true:=by exact rfl):WO P h0 N all (o::l) env H Q:=
 QK hg hd hN a k
theorem vH(a:OpH P o env H x H')(k:WO P h0 N all l (up env d x) H' Q)(hg:Qp all o env true:=by exact rfl)(hd:o.dst=some d:=by exact rfl)(hN:Nat.blt d N=true:=by exact rfl)(hh:Nat.ble h0 H.length=true:=by exact rfl):WO P h0 N all (o::l) env H Q:=
 Y8 (XT hh) hg hd hN a k
theorem vN(a:OpH P o env H x H')(k:WO P h0 N all l env H' Q)(hg:Qp all o env true:=by exact rfl)(hd:o.dst=none:=by exact rfl)(hh:Nat.ble h0 H.length=true:=by exact rfl):WO P h0 N all (o::l) env H Q:=
 Qp6 (XT hh) hg hd a k
theorem vU(a:OpU P o env H H')(k:WO P h0 N all l env H' Q)(hg:Qp all o env true:=by exact rfl)(hd:o.dst=none:=by exact rfl)(hh:Nat.ble h0 H.length=true:=by exact rfl):WO P h0 N all (o::l) env H Q:=
 QbC (XT hh) hg hd a k
theorem gT{j s:Nat}{c x:Bool}(a:x=c)(hg:o.guard=some (j,c):=by exact rfl)(hs:(all[j]?).bind (·.dst)=some s:=by exact rfl)(hl:lk env s=.bool x:=by exact rfl):Qp all o env true:=by
 unfold Qp;rw[hg];exact⟨s,hs,.inl ⟨x,hl,by subst a;cases x<;>rfl⟩⟩
theorem gF{j s:Nat}{c x:Bool}(a:x= !c)(hg:o.guard=some (j,c):=by exact rfl)(hs:(all[j]?).bind (·.dst)=some s:=by exact rfl)(hl:lk env s=.bool x:=by exact rfl):Qp all o env false:=by
 unfold Qp;rw[hg];exact⟨s,hs,.inl ⟨x,hl,by subst a;cases c<;>rfl⟩⟩
theorem QnG{x x':A}(a:x'=x)(hH:H'=H)(k:WO P h0 N all l (up env d x) H Q):WO P h0 N all l (up env d x') H' Q:=by subst a;subst hH;exact k
theorem QdN(hH:H'=H)(k:WO P h0 N all l env H Q):WO P h0 N all l env H' Q:=by subst hH;exact k
theorem QQ{f:FuncId}{args a:List A}{Hc:Qc}{Qr:A->Qc->Prop}(π:List Nat)(b:OpC P o env H f args)(e:C P f a Hc Qr)
  (k:∀r H1,Qr r H1->WO P h0 N all l (up env d (YI (rho π H.length) r)) (Yy H π (H1.map (QW (rho π H.length)))) Q)
  (hargs:args=Qaa (rho π H.length) a:=by exact rfl)(hH:π.map (λp=>H[p]?)=(Hc.map (QW (rho π H.length))).map some:=by exact rfl)(hπ:π.Nodup:=by decide)
  (hg:Qp all o env true:=by exact rfl)(hd:o.dst=some d:=by exact rfl)(hN:Nat.blt d N=true:=by exact rfl)(hh:Nat.ble h0 H.length=true:=by exact rfl):WO P h0 N all (o::l) env H Q:=
 WO.call (d:=some d) π (XT hh) hg hd (λx g=>by cases g;simpa using hN) b hargs hH hπ e k
end
section
variable {P:Program} {o:Oper} {env:Env} {H:Qc} {α:Type} {e:α->List A}
theorem QnP{c:Call}{t et k:Nat}{x:Operand}{l:List α}(b:∀w,(underlying t).run P w=.ok (.slice et) w)(a:o.op=.call c:=by exact rfl)(hc:c={callee:=.builtin .len,args:= #[x],argTypes:= #[t]}:=by exact rfl)
  (hx:opA env x=.rsl k (l.map e):=by exact rfl):OpV P o env H (.int .i64 l.length):=by
 have:=QnO (H:=H) a hc b hx
 rwa [X4]at this
theorem QeG{t et k:Nat}{x y:Operand}{l:List α}{b:IntKind}{i:Int}{v:α}(h:idx l i=some v)(f:∀w,(underlying t).run P w=.ok (.slice et) w)(a:∀w,(sizeOf et).run P w=.ok k w)
  (d:o.op=.indexAddr t x y:=by exact rfl)(hx:opA env x=.rsl k (l.map e):=by exact rfl)(hy:opA env y=.int b i:=by exact rfl):OpV P o env H (.rp (e v)):=
 QoP d f a hx hy (Qav h).1 (Qhm (Qav h).2)
theorem Yf{t et k b n:Nat}{x y:Operand}{l:List α}{d:IntKind}{i:Int}{v:α}(h:idx l i=some v)(m:l.length=n)(j:∀w,(underlying t).run P w=.ok (.slice et) w)(a:∀w,(sizeOf et).run P w=.ok k w)
  (f:o.op=.indexAddr t x y:=by exact rfl)(hx:opA env x=.osl b 0 n k:=by exact rfl)(hy:opA env y=.int d i:=by exact rfl):OpV P o env H (.ptr b (i.toNat*k)):=by
 have:=Qav h;have g:i.toNat<l.length:=(XN.1 this.2).1;have e:=QhR (H:=H) f j a hx hy this.1 (by omega)
 rwa [Nat.zero_mul,Xx]at e
theorem Qw{b t k:Nat}{l:List α}{i:Int}{v:α}{cs':List A}(h:idx l i=some v)(hH:H[b]?=some (.row t k (l.map e)):=by exact rfl)(hcs:e v=cs':=by exact rfl):Pts H (.ptr b (i.toNat*k)) cs':=
 Pts.row (f:=0) hH rfl (Qhm (Qav h).2) hcs
theorem Qjl{c:Call}{T T' et et' k:Nat}{x y:Operand}{ya:A}{m r:List α}(h:app [] m=some r)(E:QO P T et k)(a:∀w,(underlying T').run P w=.ok (.slice et') w)(b:Src P H ya k (m.map e))
  (f:o.op=.call c:=by exact rfl)(hc:c={callee:=.builtin .append,args:= #[x,y],argTypes:= #[T,T']}:=by exact rfl)(hx:opA env x=.nils:=by exact rfl)(hy:opA env y=ya:=by exact rfl):
  OpH P o env H (.osl H.length 0 r.length k) (H++[.row et k (r.map e)]):=by
 obtain⟨d,rfl⟩:=QhN h;have:=Qgb E a f hc hx hy b (by simpa using d);simpa using this
theorem QB{c:Call}{T T' et et' k i n:Nat}{x y:Operand}{ya:A}{l m r:List α}(h:app l m=some r)(E:QO P T et k)(a:∀w,(underlying T').run P w=.ok (.slice et') w)(b:Src P H ya k (m.map e))
  (d:l.length=n:=by exact rfl)(ho:o.op=.call c:=by exact rfl)(hc:c={callee:=.builtin .append,args:= #[x,y],argTypes:= #[T,T']}:=by exact rfl)(hx:opA env x=.osl i 0 n k:=by exact rfl)
  (hH:H[i]?=some (.row et k (l.map e)):=by exact rfl)(hy:opA env y=ya:=by exact rfl):
  OpH P o env H (.osl H.length 0 r.length k) (H.set i .dead++[.row et k (r.map e)]):=by
 obtain⟨f,rfl⟩:=QhN h;subst d;have:=Qjj E a ho hc hx hH (by simp) hy b (by simpa using f) (gs:=(l++m).map e) (by rw[VK (by simp)];simp);simpa using this
theorem Qai{k:Nat}{l:List α}:Src P H (.rsl k (l.map e)) k (l.map e):=Src.rsl
theorem YP{i n k t:Nat}{l:List α}(hH:H[i]?=some (.row t k (l.map e)):=by exact rfl)(hn:l.length=n:=by exact rfl):Src P H (.osl i 0 n k) k (l.map e):=
 Src.osl hH (by subst hn;rw[List.drop_zero,VK (by simp)]) (by simp[hn])
theorem QaR{t n b T k f:Nat}{x y:Operand}{l l':List α}{i:Int}{v j:α}{vs:List A}{a:A}{off:Nat}(h:idx l i=some v)(hl:Qdx l i j=some l')(m:∀w,(sizeOf t).run P w=.ok n w)(d:off=i.toNat*k+f)(g:splice (e v) f vs=e j)
  (p:o.op=.store t x y:=by exact rfl)(hx:opA env x=.ptr b off:=by exact rfl)(hH:H[b]?=some (.row T k (l.map e)):=by exact rfl)
  (hy:opA env y=a:=by exact rfl)(hk:Yh a=true:=by exact rfl)(hv:Yt a=vs:=by exact rfl)(hn:vs.length=n:=by exact rfl)(hp:vs.all Yz=true:=by exact rfl)(hd:Ym vs=true:=by exact rfl)(hf:Nat.ble (f+n) k=true:=by exact rfl):
  OpU P o env H (H.set b (.row T k (l'.map e))):=by
 refine QhS p hx hH m d (Qhm (Qav h).2) hy hk hv hn hp hd hf g ?_;unfold Qdx at hl;cases q:(decide (0<=i)&&decide (i<(l.length:Int)))with
 |false=>rw[q]at hl;simp at hl
 |true=>rw[q]at hl;rw[<- X2 hl,List.map_set]
end
def ZR(a:A)(v:Value):Prop:=∀ro σ w,VR ro σ w a v
def ZL(az:List A)(l:List Value):Prop:=∀ro σ w,LR ro σ w az l
theorem ZR.int{k:IntKind}{n:Int}:ZR (.int k n) (.int k n):=λ_ _ _=>rfl
theorem ZR.bool{b:Bool}:ZR (.bool b) (.bool b):=λ_ _ _=>rfl
theorem ZR.str:ZR (.str []) (.string ⟨#[]⟩):=λ_ _ _=>rfl
theorem ZR.rsl{α:Type}{k:Nat}{e:α->List A}:ZR (.rsl k (List.map e [])) (.slice none 0 0):=λ_ _ _=>⟨none,0,rfl,XV _,.inl rfl⟩
theorem ZR.nils:ZR .nils (.slice none 0 0):=λ_ _ _=>rfl
theorem ZR.nilp:ZR .nilp (.pointer none):=λ_ _ _=>rfl
theorem ZR.nilf:ZR .nilf .nilFunc:=λ_ _ _=>rfl
theorem ZR.nilm:ZR .nilm (.map none):=λ_ _ _=>rfl
theorem QoM:ZR .nilif .nilIface:=λ_ _ _=>rfl
theorem ZL.nil:ZL [] []:=λ_ _ _=>rfl
theorem ZL.cons{a:A}{v:Value}{az:List A}{l:List Value}(h:ZR a v)(k:ZL az l):ZL (a::az) (v::l):=λro σ w=>⟨v,l,rfl,h ro σ w,k ro σ w⟩
theorem ZR.agg{az:List A}{l:List Value}(h:ZL az l):ZR (.agg az) (.agg l.toArray):=λro σ w=>⟨l,rfl,h ro σ w⟩
section
variable {P:Program} {o:Oper} {env:Env} {H:Qc}
theorem QfZ{t:Nat}{z:Value}{v:A}{cs:List A}(f:∀w,(zeroValue t).run P w=.ok z w)(i:ZR v z)(h:o.op=.alloc t:=by exact rfl)(hk:Yh v=true:=by exact rfl)(hcs:Yt v=cs:=by exact rfl)(hpl:cs.all Yz=true:=by exact rfl):
  OpH P o env H (.ptr H.length 0) (H++[.cells t cs]):=by
 intro j b σ N a w r;obtain⟨l,g,d⟩:=(i b σ w).cells hk;subst hcs;refine⟨.pointer (some ⟨w.heap.size,0,none⟩),w.alloc (.cells l.toArray t),b,[some w.heap.size],?_,⟨w.heap.size,?_,rfl⟩,r.sim.allocCells d (d.plain hpl),Qe.alloc _ r.sim.roLt r.sim.frLt⟩
 .generalize a.eval=ρ at*;have e:(newVar t z).run P w=.ok ⟨w.heap.size,0,none⟩ (w.alloc (.cells l.toArray t)):=by
   unfold newVar;rw[g];rfl
  simp only[execOp,h,Instr.alloc,Vp,f,Result.andThen,e];rfl
 .rw[<- r.sim.len];simp
theorem Qj6{t:TypeId}{p q:Bool}{w:World}(a:∀w,(underlying t).run P w=.ok .bool w):(Op.equal t (.bool p) (.bool q)).run P w=.ok (p==q) w:=by
 have k:∀d,(Op.equalIn (d+1) t (.bool p) (.bool q)).run P w=.ok (p==q) w:=by
  intro d;simp[Op.equalIn,a,go_sem]
 exact k 9999
theorem QcN{t u:TypeId}{x y:Operand}{p q:Bool}(f:∀w,(underlying t).run P w=.ok .bool w)(d:o.op=.binOp .neq t x y u:=by exact rfl)(hx:opA env x=.bool p:=by exact rfl)(hy:opA env y=.bool q:=by exact rfl):OpV P o env H (.bool (p != q)):=by
 intro h g σ N a w r;have e:=QcW r hx;have b:=QcW r hy;refine⟨_,?_,rfl⟩;generalize a.eval=ρ at*;simp[execOp,d,e,b,Go.binOp,eqGuard,Qj6 f,go_sem,bne]
theorem QS{t:TypeId}{x y:Operand}{s:List UInt8}{k:IntKind}{i:Int}{c:UInt8}(h:idx s i=some c)(b:∀w,(underlying t).run P w=.ok .string w)(a:o.op=.index t x y:=by exact rfl)(hx:opA env x=.str s:=by exact rfl)(hy:opA env y=.int k i:=by exact rfl):
  OpV P o env H (.int .u8 c.toNat):=QlZ a b hx hy (Qav h).1 (Qav h).2
theorem Qjh{α:Type}{e:α->List A}{T et k:Nat}{x:Operand}{lo hi:Option Operand}{l r:List α}{a b:Int}(h:slc l a b=some r)(E1:∀w,(underlying T).run P w=.ok (.slice et) w)(E2:∀w,(sizeOf et).run P w=.ok k w)
  (i:lo=none/\a=0\/ ∃y,lo=some y/\opA env y=.int .i64 a)(g:hi=none/\b=l.length\/ ∃y,hi=some y/\opA env y=.int .i64 b)
  (j:o.op=.slice T x lo hi none:=by exact rfl)(hx:opA env x=.rsl k (l.map e):=by exact rfl):OpV P o env H (.rsl k (r.map e)):=by
 obtain⟨m,p,n,rfl⟩:=QjA h;refine QnQ (l:=a.toNat) (h:=b.toNat) E1 E2 j hx ?_ ?_ (by omega) (by simp;omega) (by simp)
 .rcases i with⟨f,d⟩|⟨y,f,d⟩
  .exact .inl ⟨f,by rw[d];rfl⟩
  .exact .inr ⟨y,a,f,d,m,rfl⟩
 .rcases g with⟨f,d⟩|⟨y,f,d⟩
  .exact .inl ⟨f,by rw[d];simp⟩
  .exact .inr ⟨y,b,f,d,by omega,rfl⟩
theorem Ql1{c:Call}{t et i n k:Nat}{x:Operand}(b:∀w,(underlying t).run P w=.ok (.slice et) w)(a:o.op=.call c:=by exact rfl)(hc:c={callee:=.builtin .len,args:= #[x],argTypes:= #[t]}:=by exact rfl)
  (hx:opA env x=.osl i 0 n k:=by exact rfl):OpV P o env H (.int .i64 n):=Qjg a hc b hx
end
def Qh(k:IntKind)(n:Int):List A:=[.int k n]
def Qa9(b:Bool):List A:=[.bool b]
def JA(s:List UInt8):List A:=[.str s]
def Qj7{α:Type}(k:Nat)(e:α->List A)(l:List α):List A:=[.rsl k (l.map e)]
end Go.Sw
namespace Go.Sw
theorem Qmk{P:Program}{rd:Option Nat}{o:Oper}{a:Act}{next:Act->World->Prop}{Q:Exit->Act->World->Prop}{g:Result Next}
  (p:∀a' w',next a' w'->a'.defers=a.defers)(h:o.uponIn (WF rd) 0 P a next Q g):
  o.uponIn (WF rd) 0 P a (λa' w'=>next a' w'/\ ∃v,a'=a.put o.dst v) Q g:=by
 cases g with
 |ok n w'=>
  cases n with
  |value v=>exact⟨h,_,rfl⟩
  |skip=>exact⟨h,_,rfl⟩
  |defer d=>
   have:=congrArg List.length (p _ _ h);exfalso
   revert this
   cases o.dst<;>simp[Act.put]
  |enter f i=>
   exact⟨h.1,CallsIn.mono h.2 (λe j b=>by cases e<;>first|exact⟨b,_,rfl⟩|exact b)⟩
  |row r i=>exact⟨h.1,RowsIn.mono h.2 (λ_ _ b=>⟨b,_,rfl⟩)⟩
  |round l f m assign k=>exact⟨h.1,RoundIn.mono h.2 (λe j b=>by cases e<;>first|exact⟨b,_,rfl⟩|exact b)⟩
  |_=>exact h.elim
 |halt x w'=>cases x<;>first|exact h|exact h.elim
def Ja(e:Env)(H:Qc):QA:=λx e' H'=>x=.normal/\e'=e/\H'=H
theorem Ja.mk{e:Env}{H:Qc}:Ja e H .normal e H:=⟨rfl,rfl,rfl⟩
inductive Sb (af bf ds:List Nat) (xs:List A) (env0:Env):Env->Prop
 |nil:Sb af bf ds xs env0 []
 |dep (j:Nat) {s:Nat} {a:A} {r:Env} (h1:af.contains j=true) (h2:ds[j]?=some s) (h3:xs[j]?=some a) (k:Sb af bf ds xs env0 r):Sb af bf ds xs env0 ((s,a)::r)
 |old {s:Nat} {a:A} {r:Env} (h1:ds.contains s=false) (h2:lk env0 s=a) (k:Sb af bf ds xs env0 r):Sb af bf ds xs env0 ((s,a)::r)
 |pre (j:Nat) {s:Nat} {a:A} {r:Env} (h1:bf.contains j=true) (h2:ds[j]?=some s) (h3:lk env0 s=a) (k:Sb af bf ds xs env0 r):Sb af bf ds xs env0 ((s,a)::r)
def Qg(o:Oper):List Nat:=(o.after.toList.filter (Region.binds .any)).map (·.on)
def Qka(l:List Oper)(i:Nat):List Nat:=(List.range l.length).filter λj=>((l[j]?).map Qg).getD [] |>.contains i
inductive Qf0 (P:Program) (N:Nat) (l:List Oper) (ds:List Nat) (xs:List A) (env0:Env) (i:Nat) (H H':Qc):Prop
 |mk (o:Oper) (e:Env) (d:Nat) (x:A) (ho:l[i]?=some o) (hd:o.dst=some d) (hx:xs[i]?=some x) (hs:Sb (Qg o) (Qka l i) ds xs env0 e)
   (h:WO P H.length N l.toArray [o] e H (Ja (up e d x) H')):Qf0 P N l ds xs env0 i H H'
theorem least{p:Nat->Prop}(d:∀i,p i\/ ¬p i):∀n,p n->∃i,i<=n/\p i/\ ∀j,j<i->¬p j:=by
 intro n
 induction n using Nat.strongRecOn with
 |ind n g=>
  intro h;by_cases q:∃j,j<n/\p j
  .obtain⟨j,a,b⟩:=q;obtain⟨i,k,f,e⟩:=g j a b;exact⟨i,by omega,f,e⟩
  .exact⟨n,XV _,h,λj a b=>q ⟨j,a,b⟩⟩
def onL(L:Array Bool)(i:Nat):Prop:=L[i]?=some true
theorem QkO{L:Array Bool}{i:Nat}(hi:i<L.size)(b:Bool):L.getD i b=true↔onL L i:=by
 unfold onL;rw[Array.getD_eq_getD_getElem?,Array.getElem?_eq_getElem hi];simp
theorem QaK{l:List Oper}{L:Array Bool}(n:L.size=l.length){i:Nat}:
  i∈Region.ready .any l.toArray L↔ ∃o,l[i]?=some o/\ ¬onL L i/\ ∀j∈Qg o,onL L j:=by
 unfold Region.ready;simp only[Xe,List.mem_range,List.size_toArray,XY,Bool.not_eq_true',XI];have f:∀j,L.getD j false=true↔onL L j:=by
  intro j;unfold onL;rw[Array.getD_eq_getD_getElem?];cases L[j]? <;>simp
 constructor
 .rintro⟨d,b,a⟩;refine⟨l[i],XM d,?_,?_⟩
  .intro q;rw[<- QkO (by omega) true]at q;rw[q]at b;cases b
  .rw[XM d]at a;simp only[Xk,Option.getD_some,Array.all_eq_true']at a;intro j h;unfold Qg at h;simp only[Xf,Xe,Array.mem_toList_iff]at h;obtain⟨e,⟨g,k⟩,rfl⟩:=h;have:=a e g;rw[k]at this;exact(f _).1 (by simpa using this)
 .rintro⟨o,d,b,a⟩;have m:i<l.length:=(XN.1 d).1;refine⟨m,?_,?_⟩
  .rw[<- QkO (by omega) true]at b;simpa using b
  .rw[d];simp only[Xk,Option.getD_some,Array.all_eq_true'];intro e g;cases k:Region.binds .any e with
   |false=>simp
   |true=>
    have:=(f _).2 (a e.on (by unfold Qg;simp only[Xf,Xe,Array.mem_toList_iff];exact⟨e,⟨g,k⟩,rfl⟩));simpa using this
theorem JF{L:Array Bool}{i j:Nat}(hi:i<L.size):onL (L.setIfInBounds i true) j↔j=i\/onL L j:=by
 unfold onL;rw[Vg];by_cases h:i=j
 .subst h;simp[hi]
 .have a:¬j=i:=λq=>h q.symm;simp[h,a]
def unl(L:Array Bool):Nat:=L.toList.countP (!·)
theorem Qha{L:Array Bool}{i:Nat}(hi:i<L.size)(h:¬onL L i):unl (L.setIfInBounds i true)+1=unl L:=by
 unfold unl;have a:i<L.toList.length:=by simpa using hi
 have b:L.toList[i]=false:=by
  unfold onL at h;rw[Array.getElem?_eq_getElem hi]at h;simpa using h
 rw[Array.toList_setIfInBounds,List.countP_set a];have:0<L.toList.countP (!·):=List.countP_pos_iff.2 ⟨L.toList[i],Vf a,by rw[b];rfl⟩;rw[b,Vv (by rfl),Vu (by decide)];omega
theorem Qkw{L:Array Bool}{i:Nat}(hi:i<L.size)(h:¬onL L i):0<unl L:=by have:=Qha hi h;omega
inductive Qcv (l:List Oper) (m:Nat):Nat->Prop
 |one {o:Oper} {j:Nat} (ho:l[m]?=some o) (hj:j∈Qg o):Qcv l m j
 |step {o:Oper} {i j:Nat} (h:Qcv l m i) (ho:l[i]?=some o) (hj:j∈Qg o):Qcv l m j
def Qe1(l:List Oper):Nat->List Nat->List Nat
 |0,S=>S
 |j+1,S=>Qe1 l j (bif S.contains j then S++(match l[j]? with|some o=>Qg o|none=>[])else S)
theorem Qb9{l:List Oper}{m:Nat}:∀(n:Nat) (S:List Nat),(∀j∈S,Qcv l m j)->∀j∈Qe1 l n S,Qcv l m j
 |0,S,h,j,hj=>h j hj
 |n+1,S,h,j,hj=>by
  refine Qb9 n _ ?_ j hj;intro i hi;cases q:S.contains n with
  |false=>rw[q]at hi;exact h i hi
  |true=>
   rw[q]at hi;rcases VF.1 hi with z|z
   .exact h i z
   .cases ho:l[n]? with
    |none=>rw[ho]at z;cases z
    |some o=>rw[ho]at z;exact .step (h n (by simpa using q)) ho z
def Qay(ds:List Nat)(xs:List A)(env0:Env):Env:=ds.zip xs++env0
theorem Qon{a:List Nat}{xs:List A}{env0:Env}(hl:a.length=xs.length)(s:Nat):
  (∃(j:Nat) (x:A),a[j]?=some s/\xs[j]?=some x/\lk (Qay a xs env0) s=x)\/(a.contains s=false/\lk (Qay a xs env0) s=lk env0 s):=by
 unfold Qay
 induction a generalizing xs with
 |nil=>right;simp
 |cons d a i=>
  cases xs with
  |nil=>simp at hl
  |cons x xs=>
   simp only[X3,Nat.add_right_cancel_iff]at hl;simp only[List.zip_cons_cons,VM,lk];cases h:Nat.beq s d with
   |true=>
    obtain rfl:=XS h;left;exact⟨0,x,rfl,rfl,by simp⟩
   |false=>
    have b:s≠d:=λq=>by subst q;simp[VH]at h
    rcases i hl with⟨j,y,f,e,g⟩|⟨f,e⟩
    .left;exact⟨j+1,y,by simpa using f,by simpa using e,by simpa using g⟩
    .right;refine⟨?_,by simpa using e⟩;simp only[List.contains_cons,f,Bool.or_false];simpa using b
def drawChk.nodupB:List Nat->Bool
 |[]=>true
 |x::r=> !r.contains x&&drawChk.nodupB r
def drawChk.goB(l:List Oper)(m:Nat):Nat->List Oper->Bool
 |_,[]=>true
 |i,o::r=>(Qg o).all (λj=>Nat.blt j i)&&(bif Nat.beq i m then(List.range m).all (λj=>(Qe1 l m (Qg o)).contains j)else bif Nat.blt m i then(Qg o).contains (i-1)else true)&&drawChk.goB l m (i+1) r
def drawChk.loB(m k:Nat)(los:List Nat)(hs:List Bool):Nat->List Oper->Bool
 |_,[]=>(List.range k).all λj=>(List.range m).any λi=>hs.getD i false&&Nat.beq (los.getD i 0) j
 |i,o::r=>(bif Nat.blt i m then
   (Nat.beq (los.getD i 0) 0||(Qg o).any (λj=>Nat.blt j m&&Nat.ble (los.getD i 0) (los.getD j 0+(if hs.getD j false then 1 else 0))))
   &&(!hs.getD i false||(Nat.blt (los.getD i 0) k&&(List.range m).all (λj=> !hs.getD j false|| !Nat.beq (los.getD i 0) (los.getD j 0)||Nat.beq i j)))
  else true)&&drawChk.loB m k los hs (i+1) r
def drawChk(l:List Oper)(m k N:Nat)(ds los:List Nat)(hs:List Bool):Bool:=
 Nat.ble m l.length&&(ds.length==m)&&(l.take m).map (·.dst)==ds.map some&&ds.all (λd=>Nat.blt d N)&&drawChk.nodupB ds
 &&drawChk.goB l m 0 l&&(drawChk.loB m k los hs 0 l)
theorem Qd3{e:List Nat}(h:drawChk.nodupB e=true):∀(i j d:Nat),e[i]?=some d->e[j]?=some d->i=j:=by
 induction e with
 |nil=>intro i j d a;simp at a
 |cons x r g=>
  simp only[drawChk.nodupB,XY,Bool.not_eq_true']at h;have f:∀(i:Nat),r[i]? ≠some x:=by
   intro i q;have:r.contains x=true:=by simpa using VJ q
   rw[this]at h;cases h.1
  intro i j d a b;cases i with
  |zero=>
   cases j with
   |zero=>rfl
   |succ j=>simp at a b;subst a;exact absurd b (f j)
  |succ i=>
   cases j with
   |zero=>simp at a b;subst b;exact absurd a (f i)
   |succ j=>simp at a b;rw[g h.2 i j d a b]
theorem Qiu{l:List Oper}{m:Nat}:∀(r:List Oper) (b:Nat),drawChk.goB l m b r=true->∀(i:Nat) (o:Oper),r[i]?=some o->
  (∀j∈Qg o,j<b+i)/\(b+i=m->∀j,j<m->j∈Qe1 l m (Qg o))/\(m<b+i->b+i-1∈Qg o):=by
 intro r
 induction r with
 |nil=>intro b h i o d;simp at d
 |cons x r p=>
  intro b h i o d;simp only[drawChk.goB,XY]at h;cases i with
  |zero=>
   simp at d;subst d;refine⟨λj f=>?_,λg j f=>?_,λg=>?_⟩
   .have:=Xu.1 h.1.1 j f;simpa using this
   .have a:=h.1.2;have k:Nat.beq b m=true:=by subst g;simp
    rw[k]at a;simp only[Vr]at a;have:=Xu.1 a j (List.mem_range.2 f);simpa using this
   .have a:=h.1.2;have k:Nat.beq b m=false:=by
     cases q:Nat.beq b m with
     |false=>rfl
     |true=>have:=XS q;omega
    have n:Nat.blt m b=true:=by simpa using g
    rw[k,n]at a;simpa using a
  |succ i=>
   have:=p (b+1) h.2 i o (by simpa using d);have e:b+1+i=b+(i+1):=by omega
   rw[e]at this;exact this
inductive Ob (P:Program) (N:Nat) (l:List Oper) (ds:List Nat) (xs:List A) (env0:Env):Nat->List (List (Qc×Qc))->Prop
 |nil {i:Nat}:Ob P N l ds xs env0 i []
 |cons {i:Nat} {s:List (Qc×Qc)} {r:List (List (Qc×Qc))} (h:∀p∈s,Qf0 P N l ds xs env0 i p.1 p.2) (k:Ob P N l ds xs env0 (i+1) r):Ob P N l ds xs env0 i (s::r)
theorem Ob.get{P:Program}{N:Nat}{l:List Oper}{d:List Nat}{xs:List A}{env0:Env}{b:Nat}{f:List (List (Qc×Qc))}(h:Ob P N l d xs env0 b f):
  ∀(i:Nat) (s:List (Qc×Qc)),f[i]?=some s->∀p∈s,Qf0 P N l d xs env0 (b+i) p.1 p.2:=by
 induction h with
 |nil=>intro i s h;simp at h
 | @cons b1 s1 r1 h _ ih=>
  intro i s a p e;cases i with
  |zero=>simp at a;subst a;exact h p e
  |succ i=>
   have:=ih i s (by simpa using a) p e
   rwa [show b1+1+i=b1+(i+1)by omega]at this
theorem Ob.st0{P:Program}{N:Nat}{l:List Oper}{a:List Nat}{xs:List A}{env0:Env}{i:Nat}:∀p∈([]:List (Qc×Qc)),Qf0 P N l a xs env0 i p.1 p.2:=by
 intro p b;cases b
theorem Ob.stC{P:Program}{N:Nat}{l:List Oper}{a:List Nat}{xs:List A}{env0:Env}{i:Nat}{H H':Qc}{r:List (Qc×Qc)}(h:Qf0 P N l a xs env0 i H H')
  (k:∀p∈r,Qf0 P N l a xs env0 i p.1 p.2):∀p∈(H,H')::r,Qf0 P N l a xs env0 i p.1 p.2:=by
 intro p b;rcases X8.1 b with rfl|q
 .exact h
 .exact k p q
theorem Qbn.nil{H:Qc}:Qbn H [] []:=trivial
theorem Qbn.cons{H:Qc}{az d f:List A}{a b:A}(e:az=a::d)(h:Look H a b)(k:Qbn H d f):Qbn H az (b::f):=by subst e;exact⟨h,k⟩
section
variable {P:Program} {o:Oper} {env:Env} {H:Qc} {α:Type} {e:α->List A}
theorem QfT{t et k:Nat}{x y:Operand}{l:List α}{b:IntKind}{i:Int}{v:α}{cs:List A}(h:idx l i=some v)(he:e v=cs)(f:∀w,(underlying t).run P w=.ok (.slice et) w)(a:∀w,(sizeOf et).run P w=.ok k w)
  (d:o.op=.indexAddr t x y:=by exact rfl)(hx:opA env x=.rsl k (l.map e):=by exact rfl)(hy:opA env y=.int b i:=by exact rfl):OpV P o env H (.rp cs):=
 he▸QeG h f a d hx hy
end
end Go.Sw
namespace Go.Sw
inductive PL (P:Program):List Field->List (Nat×Nat)->Prop
 |nil:PL P [] []
 |cons {f:Field} {n:Nat} {fs:List Field} {pl:List (Nat×Nat)} (h:∀w,(sizeOf f.type).run P w=.ok n w) (k:PL P fs pl):PL P (f::fs) ((f.offset,n)::pl)
theorem PL.run{P:Program}{fs:List Field}{a:List (Nat×Nat)}(h:PL P fs a):∀w,(fs.mapM λf=>(do pure (f.offset, <- sizeOf f.type):Sem (Nat×Nat))).run P w=.ok a w:=by
 induction h with
 |nil=>intro w;rfl
 |cons h _ ih=>
  intro w;rw[List.mapM_cons];simp only[Vp,h,Result.andThen,Vq,ih]
structure QI (P:Program) (t:TypeId) (pl:List (Nat×Nat)):Prop where
 un:∃fs:List Field,(∀w,(underlying t).run P w=.ok (.struct fs.toArray) w)/\PL P fs pl
section
variable {P:Program} {o:Oper} {env:Env} {H:Qc}
def Qd9(env:Env)(pl:List (Nat×Nat)):List A->List (Nat×Operand)->Option (List A)
 |cs,[]=>some cs
 |cs,(i,x)::r=>match pl[i]? with
  |none=>none
  |some (off,size)=>bif Yh (opA env x)&&Nat.beq (Yt (opA env x)).length size&&Nat.ble (off+size) cs.length then Qd9 env pl (splice cs off (Yt (opA env x))) r else none
theorem Qfm{fr ro:Nat->Prop}{σ:Sig}{N:Nat}{a:Act}{w:World}(r:Rel fr ro σ H env N a w){b:List (Nat×Nat)}:∀(parts:List (Nat×Operand)) (cs:List A) (l:List Value) (cs':List A),
  LR ro σ w cs l->Qd9 env b cs parts=some cs'->
  ∃l',Instr.fill (b.toArray[·]?) l.toArray (parts.map λp=>(p.1,a.eval p.2))=some l'.toArray/\LR ro σ w cs' l'
 |[],cs,l,cs',h,q=>by
  cases q;exact⟨l,rfl,h⟩
 |(i,x)::rest,cs,l,cs',h,q=>by
  unfold Qd9 at q;cases hp:b[i]? with
  |none=>rw[hp]at q;cases q
  |some p=>
   obtain⟨off,size⟩:=p;rw[hp]at q;simp only at q;cases hc:(Yh (opA env x)&&Nat.beq (Yt (opA env x)).length size&&Nat.ble (off+size) cs.length)with
   |false=>rw[hc]at q;cases q
   |true=>
    rw[hc]at q;simp only[XY]at hc;obtain⟨⟨c1,c2⟩,c3⟩:=hc;obtain⟨m,q1,q2⟩:=(Qd r x).cells c1;have hm:m.length=size:=by rw[q2.length];exact XS c2
    have f:l.length=cs.length:=h.length;obtain⟨l',d,e⟩:=Qfm r rest _ (splice l off m) cs' (h.splice off q2) q;refine⟨l',?_,e⟩;rw[Vl,QgD (off:=off) (size:=size) (by simpa using hp) q1 hm (by rw[f];exact XT c3)];exact d
theorem OpV.build{t:TypeId}{z:Value}{zs cs:List A}{b:List (Nat×Nat)}{parts:List (Nat×Operand)}(e:∀w,(zeroValue t).run P w=.ok z w)(g:ZR (.agg zs) z)(f:QI P t b)
  (n:o.op=.build t parts.toArray:=by exact rfl)(hf:Qd9 env b zs parts=some cs:=by exact rfl):OpV P o env H (.agg cs):=by
 intro s k σ N a w r;obtain⟨u,p,m⟩:=f.un;obtain⟨l,rfl,j⟩:=g k σ w;obtain⟨d,h,q⟩:=Qfm r parts zs l cs j hf;refine⟨.agg d.toArray,?_,d,rfl,q⟩;generalize hρ:a.eval=ρ at*;have i:=m.run w;simp only[execOp,n,Instr.build,Vp,e,Result.andThen,p,XK,List.mapM_toArray,Sem.run_map,i,Value.cells,h,Vq]
end
section
variable {P:Program} {o:Oper} {env:Env} {H:Qc}
theorem YF{x:Operand}{a:A}(g:o.op=.nilCheck x)(i:opA env x=a:=by exact rfl)(hk:(match a with|.ptr _ _=>true|.rp _=>true|_=>false)=true:=by exact rfl):OpV P o env H a:=by
 intro j k σ N ac w r;have h:=Qd r x;rw[i]at h;cases a<;>first|(cases hk;done)|skip
 .obtain⟨b,f,e⟩:=h;refine⟨_,?_,b,f,rfl⟩;generalize ac.eval=ρ at*;simp[execOp,g,e,go_sem]
 .obtain⟨b,d,f,e⟩:=h;refine⟨_,?_,b,d,rfl,e⟩;generalize ac.eval=ρ at*;simp[execOp,g,f,go_sem]
end
mutual
def FzA(i k:Nat)(es:List (List A)):A->A->Prop
 |.agg az,b=>∃bs,b=.agg bs/\FzL i k es az bs
 |.fn f x c,b=>∃x' c',b=.fn f x' c'/\FzL i k es x x'/\FzL i k es c c'
 |.iface t a,b=>∃a',b=.iface t a'/\FzA i k es a a'
 |.tup az,b=>∃bs,b=.tup bs/\FzL i k es az bs
 |.osl j o n k',b=>b=.osl j o n k'\/(j=i/\o=0/\k'=k/\n=es.length/\b=.rsl k es)
 |.nils,b=>b=.nils\/ ∃k',b=.rsl k' []
 |a,b=>b=a
def FzL(i k:Nat)(es:List (List A)):List A->List A->Prop
 |[],b=>b=[]
 |a::az,b=>∃a' as',b=a'::as'/\FzA i k es a a'/\FzL i k es az as'
end
mutual
theorem FzA.refl{i k:Nat}{es:List (List A)}:∀a:A,FzA i k es a a
 |.agg az=>⟨az,rfl,FzL.refl az⟩
 |.fn _ x c=>⟨x,c,rfl,FzL.refl x,FzL.refl c⟩
 |.iface _ a=>⟨a,rfl,FzA.refl a⟩
 |.tup az=>⟨az,rfl,FzL.refl az⟩
 |.osl _ _ _ _=>.inl rfl
 |.nils=>.inl rfl
 |.any=>rfl
 |.bool _=>rfl
 |.int _ _=>rfl
 |.str _=>rfl
 |.nilp=>rfl
 |.ptr _ _=>rfl
 |.rp _=>rfl
 |.rsl _ _=>rfl
 |.nilf=>rfl
 |.nilif=>rfl
 |.map _=>rfl
 |.nilm=>rfl
theorem FzL.refl{i k:Nat}{es:List (List A)}:∀az:List A,FzL i k es az az
 |[]=>rfl
 |a::az=>⟨a,az,rfl,FzA.refl a,FzL.refl az⟩
end
theorem FzA.agg{i k:Nat}{es:List (List A)}{az bs:List A}(h:FzL i k es az bs):FzA i k es (.agg az) (.agg bs):=⟨bs,rfl,h⟩
theorem FzA.tup{i k:Nat}{es:List (List A)}{az bs:List A}(h:FzL i k es az bs):FzA i k es (.tup az) (.tup bs):=⟨bs,rfl,h⟩
theorem FzA.iface{i k:Nat}{es:List (List A)}{t:Nat}{a b:A}(h:FzA i k es a b):FzA i k es (.iface t a) (.iface t b):=⟨b,rfl,h⟩
theorem FzA.own{i k n:Nat}{es:List (List A)}(hn:n=es.length):FzA i k es (.osl i 0 n k) (.rsl k es):=.inr ⟨rfl,rfl,rfl,hn,rfl⟩
theorem FzA.nil{i k k':Nat}{es:List (List A)}:FzA i k es .nils (.rsl k' []):=.inr ⟨k',rfl⟩
theorem FzL.cons{i k:Nat}{es:List (List A)}{a b:A}{az bs:List A}(h:FzA i k es a b)(q:FzL i k es az bs):FzL i k es (a::az) (b::bs):=⟨b,bs,rfl,h,q⟩
mutual
theorem Qkq{i k:Nat}{es:List (List A)}{ro ro':Nat->Prop}{σ:Sig}{w:World}(ext:Ext ro σ w ro' σ w)
  (hf:∀v,VR ro σ w (.osl i 0 es.length k) v->VR ro' σ w (.rsl k es) v):∀(a b:A) (v:Value),FzA i k es a b->VR ro σ w a v->VR ro' σ w b v
 |.agg az,b,v,h,q=>by
  obtain⟨bs,rfl,h⟩:=h;obtain⟨l,rfl,q⟩:=q;exact⟨l,rfl,QdV ext hf az bs l h q⟩
 |.fn f x c,b,v,h,q=>by
  obtain⟨x',c',rfl,h1,h2⟩:=h;obtain⟨l,l',rfl,q1,q2⟩:=q;exact⟨l,l',rfl,QdV ext hf x x' l h1 q1,QdV ext hf c c' l' h2 q2⟩
 |.iface t a,b,v,h,q=>by
  obtain⟨a',rfl,h⟩:=h;obtain⟨x,rfl,q⟩:=q;exact⟨x,rfl,Qkq ext hf a a' x h q⟩
 |.tup az,b,v,h,q=>by
  obtain⟨bs,rfl,h⟩:=h;obtain⟨l,rfl,q⟩:=q;exact⟨l,rfl,QdV ext hf az bs l h q⟩
 |.osl j o n k',b,v,h,q=>by
  rcases h with rfl|⟨rfl,rfl,rfl,rfl,rfl⟩
  .exact q.mono ext
  .exact hf v q
 |.nils,b,v,h,q=>by
  rcases h with rfl|⟨k',rfl⟩
  .exact q
  .obtain rfl:v=.slice none 0 0:=q;exact⟨none,0,rfl,XV _,.inl rfl⟩
 |.any,b,v,h,q=>by obtain rfl:b=_:=h;trivial
 |.bool _,b,v,h,q=>by obtain rfl:b=_:=h;exact q
 |.int _ _,b,v,h,q=>by obtain rfl:b=_:=h;exact q
 |.str _,b,v,h,q=>by obtain rfl:b=_:=h;exact q
 |.nilp,b,v,h,q=>by obtain rfl:b=_:=h;exact q
 |.ptr _ _,b,v,h,q=>by obtain rfl:b=_:=h;exact q.mono ext
 |.rp _,b,v,h,q=>by obtain rfl:b=_:=h;exact q.mono ext
 |.rsl _ _,b,v,h,q=>by obtain rfl:b=_:=h;exact q.mono ext
 |.nilf,b,v,h,q=>by obtain rfl:b=_:=h;exact q
 |.nilif,b,v,h,q=>by obtain rfl:b=_:=h;exact q
 |.map _,b,v,h,q=>by obtain rfl:b=_:=h;exact q.mono ext
 |.nilm,b,v,h,q=>by obtain rfl:b=_:=h;exact q
theorem QdV{i k:Nat}{es:List (List A)}{ro ro':Nat->Prop}{σ:Sig}{w:World}(ext:Ext ro σ w ro' σ w)
  (hf:∀v,VR ro σ w (.osl i 0 es.length k) v->VR ro' σ w (.rsl k es) v):∀(az bs:List A) (l:List Value),FzL i k es az bs->LR ro σ w az l->LR ro' σ w bs l
 |[],bs,l,h,q=>by obtain rfl:bs=[]:=h;exact q
 |a::az,bs,l,h,q=>by
  obtain⟨a',as',rfl,h1,h2⟩:=h;obtain⟨v,l',rfl,q1,q2⟩:=q;exact⟨v,l',rfl,Qkq ext hf a a' v h1 q1,QdV ext hf az as' l' h2 q2⟩
end
def FzB(i k:Nat)(es:List (List A))(x y:Blk):Prop:=y=x\/ ∃t cs cs',x=.cells t cs/\y=.cells t cs'/\FzL i k es cs cs'
def FzH(i k:Nat)(es:List (List A)):Qc->Qc->Prop
 |[],h=>h=[]
 |x::r,h=>∃y r',h=y::r'/\FzB i k es x y/\FzH i k es r r'
def QnY(i k:Nat)(es:List (List A))(env:Env):Env->Prop
 |[]=>True
 |(s,a)::r=>FzA i k es (lk env s) a/\QnY i k es env r
theorem FzH.nil{i k:Nat}{es:List (List A)}:FzH i k es [] []:=rfl
theorem FzH.keep{i k:Nat}{es:List (List A)}{x:Blk}{r r':Qc}(h:FzH i k es r r'):FzH i k es (x::r) (x::r'):=⟨x,r',rfl,.inl rfl,h⟩
theorem FzH.cells{i k t:Nat}{es:List (List A)}{cs cs':List A}{r r':Qc}(q:FzL i k es cs cs')(h:FzH i k es r r'):FzH i k es (.cells t cs::r) (.cells t cs'::r'):=⟨_,r',rfl,.inr ⟨t,cs,cs',rfl,rfl,q⟩,h⟩
theorem FzH.get{i k:Nat}{es:List (List A)}:∀{H H':Qc},FzH i k es H H'->∀(j:Nat) (y:Blk),H'[j]?=some y->∃x,H[j]?=some x/\FzB i k es x y
 |[],_,h,j,y,q=>by obtain rfl:_=[]:=h;simp at q
 |x::r,_,h,j,y,q=>by
  obtain⟨y',r',rfl,h1,h2⟩:=h;cases j with
  |zero=>simp at q;subst q;exact⟨x,rfl,h1⟩
  |succ j=>simp at q;obtain⟨x',p1,p2⟩:=h2.get j y q;exact⟨x',by simpa using p1,p2⟩
theorem FzH.len{i k:Nat}{es:List (List A)}:∀{H H':Qc},FzH i k es H H'->H'.length=H.length
 |[],_,h=>by obtain rfl:_=[]:=h;rfl
 |x::r,_,h=>by obtain⟨y',r',rfl,h1,h2⟩:=h;simp[h2.len]
theorem FzB.live{i k:Nat}{es:List (List A)}{x y:Blk}(h:FzB i k es x y):y.live=x.live:=by
 rcases h with rfl|⟨t,b,a,rfl,rfl,_⟩<;>rfl
theorem QaS{env:Env}{H H':Qc}{h0 i k t:Nat}{es:List (List A)}(ov:Env)(hi:Nat.ble h0 i=true)(hH:H[i]?=some (.row t k es))(T:QnY i k es env ov)(M:FzH i k es (H.set i .dead) H'):Le h0 env H (ov++env) H':=by
 intro fr P σ N a w r
 let ro':Nat->Prop:=λb=>P b\/σ[i]?=some (some b)
 have u:∀b,σ[i]?=some (some b)->b<w.heap.size/\ ¬P b/\ ¬fr b:=λb h=>r.sim.own i b _ h hH rfl;have ext:Ext P σ w ro' σ w:=⟨λ_ q=>.inl q,λ_ _=>rfl,λ_ _ q=>q,λ_ _ q=>q⟩;have hf:∀v,VR P σ w (.osl i 0 es.length k) v->VR ro' σ w (.rsl k es) v:=by
  intro v h;rcases h with⟨h0,h⟩|⟨b,p,F,t',m,g,h,n,B,h4,W⟩
  .have:es=[]:=VL.1 h0;subst this;exact⟨none,0,h,XV _,.inl rfl⟩
  .refine⟨_,F,h,B,?_⟩;by_cases he:es=[]
   .exact .inl he
   .right;have hc:0<F:=Vh (List.length_pos_iff.2 he) B;obtain rfl:=n hc;obtain⟨l,R,q2⟩:=r.sim.blk i _ _ g hH;refine⟨b,0,by simp,.inr g,?_⟩;have:=YS (pre:=[]) (by simpa using R) q2;exact this.keep ⟨λ_ q=>.inl q,λ_ _=>rfl,λ_ _ q=>q,λ_ _ q=>q⟩ rfl
 have f:∀(j:Nat) (y:Blk),H'[j]?=some y->y≠ .dead->j≠i/\ ∃x,H[j]?=some x/\FzB i k es x y:=by
  intro j y h O;obtain⟨x,g,n⟩:=M.get j y h;by_cases e:j=i
  .subst e;rw[Xb]at g;simp only[if_true]at g;split at g
   .cases g;rcases n with rfl|⟨_,_,_,q,_,_⟩
    .exact absurd rfl O
    .cases q
   .simp at g
  .rw[XR (λq=>e q.symm)]at g;exact⟨e,x,g,n⟩
 refine⟨ro',σ,⟨⟨by rw[M.len,X6];exact r.sim.len,r.sim.roOk.to (λ_ q=>.inl q) (λ_ _=>rfl) ?_,r.sim.frLt,?_,?_,?_,?_,r.sim.hidTo (· = ·) QY (XV _) (λj b x c R q2 q3 q4=>q4.elim id λq=>((r.sim.hid j b x c R q2 q3).ne i c _ q hH rfl rfl).elim) (λ_ _ _ _ _ _ _ q=>q) λj d y V Q g3=>.inl ?_⟩,?_,r.size,r.defers⟩,λ_ q=>.inl q,rfl⟩
 rotate_left 5
 .obtain⟨_,x,g4,g5⟩:=f j y Q (QeK g3);exact⟨j,x,rfl,V,g4,λz=>by rw[<- g5.live];exact z,λc q=>by rcases g5 with rfl|⟨t,cs,E,rfl,rfl,_⟩;exact q;exact q.elim⟩
 rotate_left 1
 .rintro b (q|q)
  .exact r.sim.roLt b q
  .exact(u b q).1
 .rintro b (q|q)
  .exact r.sim.roFr b q
  .exact(u b q).2.2
 .intro j b v g n B;obtain⟨e,x,n,G⟩:=f j v n (Qax B);have hx:x.live=true:=by rw[<- G.live];exact B
  obtain⟨L,J,p3⟩:=r.sim.own j b x g n hx;refine⟨L,?_,p3⟩;rintro(q|q)
  .exact J q
  .exact e (r.sim.inj j i b x _ g q n hH hx rfl)
 .intro j j' b v v' g n B h4 W h6;obtain⟨_,x,L,J⟩:=f j v B (Qax W);obtain⟨_,x',Y,X⟩:=f j' v' h4 (Qax h6);exact r.sim.inj j j' b x x' g n L Y (by rw[<- J.live];exact W) (by rw[<- X.live];exact h6)
 .intro j s v g n;by_cases O:v≠ .dead
  .obtain⟨_,x,L,J⟩:=f j v n O;have G:=r.sim.blk j s x g L;rcases J with rfl|⟨t,cs,E,rfl,rfl,q⟩
   .exact G.keep ext (λ_ _ _=>rfl) (λ_ _ _ _=>rfl)
   .cases s with
    |none=>exact G.elim
    |some b=>
     obtain⟨l,e1,e2,e3⟩:=G;exact⟨l,e1,QdV ext hf cs E l q e2,e3⟩
  .obtain rfl:v=.dead:=Classical.not_not.1 O;trivial
 .intro s
  induction ov with
  |nil=>exact(r.env s).mono ext
  |cons p ov ih=>
   obtain⟨s1,a1⟩:=p;obtain⟨V,Q⟩:=T;simp only[VM,lk];cases q:Nat.beq s s1 with
   |true=>
    obtain rfl:=XS q;exact Qkq ext hf _ _ _ V (r.env s)
   |false=>exact ih Q
theorem QnY.nil{i k:Nat}{es:List (List A)}{env:Env}:QnY i k es env []:=trivial
theorem QnY.cons{i k s:Nat}{es:List (List A)}{env:Env}{a b:A}{r:Env}(h:lk env s=a)(q:FzA i k es a b)(g:QnY i k es env r):QnY i k es env ((s,b)::r):=⟨h▸q,g⟩
def Qdm(P:Program)(env:Env)(H:Qc)(l:ResultVar)(x:A):Prop:=
 ∀fr ro σ N a w,Rel fr ro σ H env N a w->∃v,((match l with
  |.tmp t=>pure (a.tmps.getD t undef)
  |.cell b t=>do loadVar t (<- asAddr (a.tmps.getD b undef)):Sem Value)).run P w=.ok v w/\VR ro σ w x v
def Qkg(P:Program)(env:Env)(H:Qc):List ResultVar->List A->Prop
 |[],xs=>xs=[]
 |l::ls,xs=>∃x xs',xs=x::xs'/\Qdm P env H l x/\Qkg P env H ls xs'
section
variable {P:Program} {fn:Func} {env:Env} {H:Qc}
theorem Qdm.tmp{t:Nat}{x:A}(b:lk env t=x:=by exact rfl):Qdm P env H (.tmp t) x:=
 λfr ro σ N a w r=>⟨a.tmps.getD t undef,rfl,b▸r.env t⟩
theorem Qdm.cell{b t:Nat}{p x:A}{cs:List A}(i:∀w,(isAgg t).run P w=.ok false w)(m:Pts H p (x::cs))(j:lk env b=p:=by exact rfl):Qdm P env H (.cell b t) x:=by
 intro e k σ N a w r;have d:=r.env b;rw[j]at d;obtain⟨n,g,l,⟨y,f,_,h⟩,_⟩:=m e k σ w _ r.sim d;refine⟨y,?_,h⟩;simp only[l];simp[asAddr,loadVar,i,Go.load,Sem.run,f,go_sem]
theorem Qej{b t n:Nat}{p:A}{cs:List A}(i:∀w,(isAgg t).run P w=.ok true w)(j:∀w,(sizeOf t).run P w=.ok n w)(s:Pts H p cs)(q:lk env b=p:=by exact rfl)(hl:(cs.take n).length=n:=by exact rfl):
  Qdm P env H (.cell b t) (.agg (cs.take n)):=by
 intro f k σ N a w r;have e:=r.env b;rw[q]at e;obtain⟨u,off,m,g⟩:=s f k σ w _ r.sim e;obtain⟨l,h,_,d⟩:=YL (P:=P) (cs:=cs.take n) (off:=off) 0 (by simpa using g.take n);have d:=d w #[] rfl;rw[hl]at d;refine⟨.agg l.toArray,?_,l,rfl,h⟩;simp only[m];simp[asAddr,loadVar,i,j,loadCells,d,go_sem]
theorem QL{b t n i T:Nat}{cs:List A}(a:∀w,(isAgg t).run P w=.ok true w)(d:∀w,(sizeOf t).run P w=.ok n w)(e:lk env b=.ptr i 0)(hH:H[i]?=some (.cells T cs))(hl:cs.length=n):
  Qdm P env H (.cell b t) (.agg cs):=by
 have:=Qej (b:=b) (p:=.ptr i 0) a d (Pts.cells (off:=0) hH rfl) e (by subst hl;simp);subst hl;simpa using this
theorem Jz{b t i T:Nat}{x:A}(ha:∀w,(isAgg t).run P w=.ok false w)(hx:lk env b=.ptr i 0)(hH:H[i]?=some (.cells T [x])):Qdm P env H (.cell b t) x:=
 Qdm.cell (p:=.ptr i 0) (cs:=[]) ha (Pts.cells (off:=0) hH rfl) hx
theorem Qkg.nil:Qkg P env H [] []:=rfl
theorem Qkg.cons{l:ResultVar}{ls:List ResultVar}{x:A}{xs:List A}(h:Qdm P env H l x)(k:Qkg P env H ls xs):Qkg P env H (l::ls) (x::xs):=⟨x,xs,rfl,h,k⟩
theorem Qkg.run{fr ro:Nat->Prop}{σ:Sig}{N:Nat}{a:Act}{w:World}(r:Rel fr ro σ H env N a w):∀{ls:List ResultVar} {xs:List A},Qkg P env H ls xs->
  ∃vs:List Value,(ls.mapM λl=>(match l with
   |.tmp t=>pure (a.tmps.getD t undef)
   |.cell b t=>do loadVar t (<- asAddr (a.tmps.getD b undef)):Sem Value)).run P w=.ok vs w/\LR ro σ w xs vs
 |[],_,h=>by obtain rfl:_=[]:=h;exact⟨[],rfl,rfl⟩
 |l::ls,_,h=>by
  obtain⟨x,xs,rfl,h1,h2⟩:=h;obtain⟨v,e1,e2⟩:=h1 fr ro σ N a w r;obtain⟨vs,e3,e4⟩:=Qkg.run r h2;refine⟨v::vs,?_,v,vs,rfl,e2,e4⟩;rw[List.mapM_cons];simp only[Vp,e1,Result.andThen,e3,Vq]
theorem QR{ls:List ResultVar}{xs:List A}(h:fn.results=ls.toArray)(d:Nat.beq ls.length 1=false)(k:Qkg P env H ls xs):Qdl P fn env H (.tup xs):=by
 intro m n σ N a w r;obtain⟨vs,f,e⟩:=k.run r;have b:¬vs.length=1:=by
  have:∀{ls:List ResultVar} {xs:List A},Qkg P env H ls xs->xs.length=ls.length:=by
   intro ls
   induction ls with
   |nil=>intro xs h;obtain rfl:xs=[]:=h;rfl
   |cons l ls i=>intro xs h;obtain⟨x,j,rfl,_,g⟩:=h;simp[i g]
  rw[e.length,this k];intro q;rw[q]at d;cases d
 refine⟨.tuple vs.toArray,?_,vs,rfl,e⟩;unfold results;rw[h];rw[List.mapM_toArray,Vp,Sem.run_map]
 erw [f]
 simp[Result.andThen,b,Vq]
theorem QaE{l:ResultVar}{x:A}(h:fn.results= #[l])(k:Qdm P env H l x):Qdl P fn env H x:=by
 intro e f σ N a w r;obtain⟨vs,d,b⟩:=(Qkg.cons k Qkg.nil).run r;obtain⟨v,_,rfl,b,rfl⟩:=b;refine⟨v,?_,b⟩;unfold results;rw[h,show #[l]=[l].toArray from rfl];rw[List.mapM_toArray,Vp,Sem.run_map]
 erw [d]
 rfl
end
end Go.Sw
namespace Go.Sw
mutual
def QbR:A->Bool
 |.bool _=>true
 |.int _ _=>true
 |.str _=>true
 |.agg cs=>QeT cs
 |_=>false
def QeT:List A->Bool
 |[]=>true
 |a::r=>QbR a&&QeT r
end
mutual
def QF:A->Value
 |.bool b=>.bool b
 |.int k n=>.int k n
 |.str s=>.string ⟨s.toArray⟩
 |.agg cs=>.agg (Y5 cs).toArray
 |_=>.bool false
def Y5:List A->List Value
 |[]=>[]
 |a::r=>QF a::Y5 r
end
mutual
theorem VR.val{ro:Nat->Prop}{σ:Sig}{w:World}:∀{a:A} {v:Value},QbR a=true->VR ro σ w a v->v=QF a
 |.bool _,_,_,h=>h
 |.int _ _,_,_,h=>h
 |.str _,_,_,h=>h
 |.agg cs,v,hs,h=>by
  obtain⟨l,rfl,h⟩:=h;rw[QF,LR.val hs h]
theorem LR.val{ro:Nat->Prop}{σ:Sig}{w:World}:∀{az:List A} {l:List Value},QeT az=true->LR ro σ w az l->l=Y5 az
 |[],l,_,h=>h
 |a::r,l,hs,h=>by
  obtain⟨v,l',rfl,h1,h2⟩:=h;simp only[QeT,XY]at hs;rw[Y5,VR.val hs.1 h1,LR.val hs.2 h2]
end
mutual
theorem Qb3{ro:Nat->Prop}{σ:Sig}{w:World}:∀{a:A},QbR a=true->VR ro σ w a (QF a)
 |.bool _,_=>rfl
 |.int _ _,_=>rfl
 |.str _,_=>rfl
 |.agg cs,hs=>⟨Y5 cs,rfl,Qf2 hs⟩
theorem Qf2{ro:Nat->Prop}{σ:Sig}{w:World}:∀{az:List A},QeT az=true->LR ro σ w az (Y5 az)
 |[],_=>rfl
 |a::r,hs=>by
  simp only[QeT,XY]at hs;exact⟨_,_,rfl,Qb3 hs.1,Qf2 hs.2⟩
end
end Go.Sw
namespace Go.Sw
open Go.MapKept
structure Jj (P:Program) (kt:TypeId) {α:Type} (ek:α->A):Prop where
 scl:∀x,QbR (ek x)=true
 inj:∀x y,QF (ek x)=QF (ek y)->x=y
 check:∀(w:World) em x,(Instr.checkKey em 10000 kt (QF (ek x))).run P w=.ok () w
 find:∀(w:World) x (es:List MapEntry),(∀e∈es,∃y,e.key=QF (ek y))->
  ((Instr.findKey kt (QF (ek x)) es).run P w=.ok none w/\ ∀e∈es,e.key≠QF (ek x))\/ ∃j e,(Instr.findKey kt (QF (ek x)) es).run P w=.ok (some (j,e.val)) w/\es[j]?=some e/\e.key=QF (ek x)
 stays:∀(w:World) x,(Instr.keyThatStays (QF (ek x)) (QF (ek x))).run P w=.ok (QF (ek x)) w
section
variable {P:Program} {kt:TypeId}
theorem Jj.plain{α:Type}{ek:α->A}{d:TypeDesc}(g:P.underlying kt=some d)(a:∀x,IsKey d (QF (ek x)))(p:∀x,QbR (ek x)=true)(hi:∀x y,QF (ek x)=QF (ek y)->x=y):Jj P kt ek:=by
 refine⟨p,hi,λw q x=>run_checkKey g (a x) q 9999,λw x i b=>?_,λw x=>run_keyThatStays (a x)⟩
 .have e:∀y∈i,IsKey d y.key:=λy r=>by
   obtain⟨l,n⟩:=b y r;rw[n];exact a l
  rcases findNow_spec (a x) i 0 e with⟨h,f⟩|⟨j,k,h,f,m⟩
  .exact Or.inl ⟨run_findKey g h,f⟩
  .exact Or.inr ⟨j,k,by simpa using run_findKey g h,f,m⟩
theorem Jj.int{q:IntKind}(hk:P.underlying kt=some (.int q)):Jj P kt (λn=>A.int q n):=
 Jj.plain hk (λx=>by simp[IsKey,QF]) (λ_=>rfl) (λx y h=>by simpa[QF]using h)
theorem Jj.str(hk:P.underlying kt=some .string):Jj P kt A.str:=
 Jj.plain hk (λx=>by simp[IsKey,QF]) (λ_=>rfl) (λx y h=>by simpa[QF]using h)
theorem Jj.struct{α:Type}[DecidableEq α]{ek:α->A}{fs:Array Field}(r:P.underlying kt=some (.struct fs))(u:∀x,QbR (ek x)=true)(hi:∀x y,QF (ek x)=QF (ek y)->x=y)
  (F:∀(w:World) em x,(Instr.checkKey em 10000 kt (QF (ek x))).run P w=.ok () w)
  (he:∀(w:World) x y,(Op.equal kt (QF (ek x)) (QF (ek y))).run P w=.ok (decide (x=y)) w)(G:∀x,Instr.sameBits 10000 (QF (ek x)) (QF (ek x))=true):Jj P kt ek:=by
 refine⟨u,hi,F,λw x a k=>?_,λw x=>by simp[Instr.keyThatStays,G x]⟩
 .have b:∀(a:List MapEntry) (i:Nat),(∀e∈a,∃y,e.key=QF (ek y))->
    ((Instr.findAsking kt (QF (ek x)) a i).run P w=.ok none w/\ ∀e∈a,e.key≠QF (ek x))\/
    ∃j e,(Instr.findAsking kt (QF (ek x)) a i).run P w=.ok (some (i+j,e.val)) w/\a[j]?=some e/\e.key=QF (ek x):=by
   intro a
   induction a with
   |nil=>intro i _;exact .inl ⟨by simp[Instr.findAsking],by simp⟩
   |cons e a H=>
    intro i f;obtain⟨y,h⟩:=f e (by simp);have m:=he w x y;by_cases d:x=y
    .subst d;exact .inr ⟨0,e,by simp[Instr.findAsking,h,m],rfl,h⟩
    .rcases H (i+1) (λz g=>f z (by simp[g]))with⟨p,n⟩|⟨j,s,p,n,t⟩
     .refine .inl ⟨by simp[Instr.findAsking,h,m,d,p],λz g=>?_⟩;rcases X8.1 g with rfl|g
      .rw[h];intro q;exact d (hi _ _ q).symm
      .exact n z g
     .exact .inr ⟨j+1,s,by simp[Instr.findAsking,h,m,d,p,Nat.add_assoc,Nat.add_comm 1 j],by simpa using n,t⟩
  cases a with
  |nil=>exact .inl ⟨by simp[Instr.findKey,run_underlying r,Instr.findNow,Result.andThen],by simp⟩
  |cons e a=>
   have B:Instr.findNow (.struct fs) (QF (ek x)) (e::a) 0=none:=by
    simp only[Instr.findNow];have:∀v l,Instr.sameNow (.struct fs) v l=none:=by intro v l;cases v<;>cases l<;>rfl
    rw[this]
   have E:(Instr.findKey kt (QF (ek x)) (e::a)).run P w=(Instr.findAsking kt (QF (ek x)) (e::a) 0).run P w:=by
    simp only[Instr.findKey,Vp,run_underlying r,Result.andThen,B]
   rw[E];simpa using b (e::a) 0 k
def Y1{α β:Type}[DecidableEq α](l:List (α×β))(k:α):Option β:=(l.find? λp=>decide (p.1=k)).map (·.2)
def Q5{α β:Type}[DecidableEq α](l:List (α×β))(k:α)(v:β):List (α×β):=bif l.any λp=>decide (p.1=k)then l.map λp=>bif decide (p.1=k)then(p.1,v)else p else l++[(k,v)]
def Qx{α β:Type}[DecidableEq α](l:List (α×β))(k:α)(z:β):β:=(Y1 l k).getD z
def Qcl{α β:Type}[DecidableEq α](l:List (α×β))(k:α):Bool:=l.any λp=>decide (p.1=k)
def mdel{α β:Type}[DecidableEq α](l:List (α×β))(k:α):List (α×β):=l.filter λp=> !decide (p.1=k)
def Qm{α β:Type}(ek:α->A)(ev:β->A)(l:List (α×β)):List (A×A):=l.map λp=>(ek p.1,ev p.2)
section
variable {α β:Type} [DecidableEq α] {ek:α->A} {ev:β->A} {ro:Nat->Prop} {σ:Sig} {w:World} (K:Jj P kt ek)
include K
theorem QhX:∀{l:List (α×β)} {es:List MapEntry},ER ro σ w (Qm ek ev l) es->es.map (·.key)=l.map λp=>QF (ek p.1)
 |[],es,h=>by cases(show es=[]from h);rfl
 |p::l,es,h=>by
  obtain⟨e,l',rfl,h1,h2,h3⟩:=h;simp only[Vl];rw[VR.val (K.scl _) h1,QhX (l:=l) h3]
theorem Qbo{l:List (α×β)}{es:List MapEntry}(h:ER ro σ w (Qm ek ev l) es):∀e∈es,∃y,e.key=QF (ek y):=by
 intro e a;have:e.key∈es.map (·.key):=VI a;rw[QhX K h]at this;obtain⟨p,_,b⟩:=Xf.1 this;exact⟨p.1,b.symm⟩
theorem ER.find:∀{l:List (α×β)} {es:List MapEntry},ER ro σ w (Qm ek ev l) es->∀(x:α),(es.map (·.key)).Nodup->
  ((∀e:MapEntry,e∈es->e.key≠QF (ek x))->Y1 l x=none/\Qcl l x=false)/\
  (∀(j:Nat) (e:MapEntry),es[j]?=some e->e.key=QF (ek x)->Qcl l x=true/\ ∃v,Y1 l x=some v/\VR ro σ w (ev v) e.val)
 |[],es,h,x,_=>by
  cases(show es=[]from h);exact⟨λ_=>⟨rfl,rfl⟩,λj e he=>by simp at he⟩
 |p::l,es,h,x,hn=>by
  obtain⟨e0,l',rfl,h1,h2,h3⟩:=h;have hk:e0.key=QF (ek p.1):=VR.val (K.scl _) h1;simp only[Vl,List.nodup_cons]at hn;obtain⟨a1,a2⟩:=ER.find (l:=l) h3 x hn.2;by_cases hp:p.1=x
  .subst hp;constructor
   .intro q;exact absurd hk (q e0 (by simp))
   .intro j e he hx;cases j with
    |zero=>
     simp only[XG,Option.some.injEq]at he;subst he;exact⟨by simp[Qcl],p.2,by simp[Y1],h2⟩
    |succ j=>
     simp only[XH]at he;exact absurd (hk.trans hx.symm▸VI (f:=λe:MapEntry=>e.key) (VJ he)) hn.1
  .have e1:Y1 (p::l) x=Y1 l x:=by simp[Y1,hp]
   have a:Qcl (p::l) x=Qcl l x:=by simp[Qcl,hp]
   rw[e1,a];constructor
   .intro q;exact a1 λe he=>q e (by simp[he])
   .intro j e he hx;cases j with
    |zero=>
     simp only[XG,Option.some.injEq]at he;subst he;exact absurd (K.inj _ _ (hk.symm.trans hx)) hp
    |succ j=>exact a2 j e (by simpa using he) hx
end
end
end Go.Sw
namespace Go.Sw
open Go.MapKept
section
variable {P:Program} {o:Oper} {env:Env} {H:Qc}
theorem Yk{T:Nat}(d:o.op=.makeMap T none:=by exact rfl):OpH P o env H (.map H.length) (H++[.map []]):=by
 intro e b σ N a w r;refine⟨.map (some w.heap.size),w.alloc (.map #[] 0),b,[some w.heap.size],?_,⟨w.heap.size,?_,rfl⟩,r.sim.alloc ⟨#[],0,Yi _ _,rfl,by simp,by simp,by simp⟩,Qe.alloc _ r.sim.roLt r.sim.frLt⟩
 .generalize a.eval=ρ at*;simp only[execOp,d,Instr.makeMap,Xl,Vp];rfl
 .rw[<- r.sim.len];simp
section
variable {T kt et:Nat} {α β:Type} [DecidableEq α] {ek:α->A} {ev:β->A} {x y:Operand} {i:Nat} {l:List (α×β)} {k:α} {z0:β} {z:Value}
theorem Qcy(K:Jj P kt ek){ro:Nat->Prop}{w:World}(n:P.underlying T=some (.map kt et))(q:∀w,(zeroValue et).run P w=.ok z w)(f:ZR (ev z0) z){b a:Nat}{es:Array MapEntry}
  (m:w.heap[b]?=some (.map es a))(he:ER ro [] w (Qm ek ev l) es.toList)(u:(es.toList.map (·.key)).Nodup):
  ∃v,(∀ck,(Instr.lookup T (.map (some b)) (QF (ek k)) ck).run P w=.ok (if ck then .tuple #[v,.bool (Qcl l k)]else v) w)/\VR ro [] w (ev (Qx l k z0)) v:=by
 obtain⟨r,p⟩:=ER.find K he k u;rcases K.find w k es.toList (Qbo K he)with⟨i,g⟩|⟨j,e,i,g,s⟩
 .obtain⟨d,h⟩:=r g;refine⟨z,λck=>?_,?_⟩
  .simp only[Instr.lookup,Vp,run_underlying n,Result.andThen,MapKept.run_getObj_map m,Vq,K.check,i,q,h]
  .rw[Qx,d];exact f _ _ _
 .obtain⟨d,v,h,t⟩:=p j e g s;refine⟨e.val,λck=>?_,?_⟩
  .simp only[Instr.lookup,Vp,run_underlying n,Result.andThen,MapKept.run_getObj_map m,Vq,K.check,i,d]
  .rw[Qx,h];exact t
theorem YC{f:β}(K:Jj P kt ek)(p:some (Qx l k z0)=some f)(s:P.underlying T=some (.map kt et))(m:∀w,(zeroValue et).run P w=.ok z w)(e:ZR (ev z0) z)
  (t:o.op=.lookup T x y false:=by exact rfl)(hx:opA env x=.map i:=by exact rfl)(hH:H[i]?=some (.map (Qm ek ev l)):=by exact rfl)(hy:opA env y=ek k:=by exact rfl):OpV P o env H (ev f):=by
 obtain rfl:=X2 p;intro V O σ N a w r;have h:=Qd r x;rw[hx]at h;obtain⟨b,u,L⟩:=h;have g:=Qd r y;rw[hy]at g;have n:=VR.val (K.scl _) g;obtain⟨R,d,B,J,M,Q,G⟩:=r.sim.blk i _ _ u hH;obtain⟨v,F,E⟩:=Qcy (T:=T) (z0:=z0) (k:=k) K s m e B J G;refine⟨v,?_,E.mono ⟨λ_ q=>q,λ_ _=>rfl,λ_ _ q=>q,λj c q=>by simp at q⟩⟩;have:=F false;simp only[execOp,t,L,n,Vp,this,Result.andThen];rfl
theorem Qkk{f:β}(K:Jj P kt ek)(p:some (Qx l k z0)=some f)(s:P.underlying T=some (.map kt et))(m:∀w,(zeroValue et).run P w=.ok z w)(e:ZR (ev z0) z)
  (t:o.op=.lookup T x y true:=by exact rfl)(hx:opA env x=.map i:=by exact rfl)(hH:H[i]?=some (.map (Qm ek ev l)):=by exact rfl)(hy:opA env y=ek k:=by exact rfl):OpV P o env H (.tup [ev f,.bool (Qcl l k)]):=by
 obtain rfl:=X2 p;intro V O σ N a w r;have h:=Qd r x;rw[hx]at h;obtain⟨b,u,L⟩:=h;have g:=Qd r y;rw[hy]at g;have n:=VR.val (K.scl _) g;obtain⟨R,d,B,J,M,Q,G⟩:=r.sim.blk i _ _ u hH;obtain⟨v,F,E⟩:=Qcy (T:=T) (z0:=z0) (k:=k) K s m e B J G;refine⟨.tuple #[v,.bool (Qcl l k)],?_,[v,.bool (Qcl l k)],rfl,v,_,rfl,E.mono ⟨λ_ q=>q,λ_ _=>rfl,λ_ _ q=>q,λj c q=>by simp at q⟩,_,_,rfl,rfl,rfl⟩;have:=F true;simp only[execOp,t,L,n,Vp,this,Result.andThen];rfl
theorem Ql0{f:β}(K:Jj P kt ek)(p:some (Qx l k z0)=some f)(s:P.underlying T=some (.map kt et))(m:∀w,(zeroValue et).run P w=.ok z w)(e:ZR (ev z0) z)
  (t:o.op=.lookup T x y false:=by exact rfl)(hx:opA env x=.map i:=by exact rfl)(hH:H[i]?=some (.fmap (Qm ek ev l)):=by exact rfl)(hy:opA env y=ek k:=by exact rfl):OpV P o env H (ev f):=by
 obtain rfl:=X2 p;intro V O σ N a w r;have h:=Qd r x;rw[hx]at h;obtain⟨b,u,L⟩:=h;have g:=Qd r y;rw[hy]at g;have n:=VR.val (K.scl _) g;obtain⟨_,R,d,B,J,M,Q,G⟩:=r.sim.blk i _ _ u hH;obtain⟨v,F,E⟩:=Qcy (T:=T) (z0:=z0) (k:=k) K s m e B J G;refine⟨v,?_,E.mono ⟨λ_ q=>q,λ_ _=>rfl,λ_ _ q=>q,λj c q=>by simp at q⟩⟩;have:=F false;simp only[execOp,t,L,n,Vp,this,Result.andThen];rfl
theorem ER.append{ro:Nat->Prop}{σ:Sig}{w:World}:∀{l m:List (A×A)} {es fs:List MapEntry},ER ro σ w l es->ER ro σ w m fs->ER ro σ w (l++m) (es++fs)
 |[],m,es,fs,h,k=>by cases(show es=[]from h);exact k
 |p::l,m,es,fs,h,k=>by
  obtain⟨e,l',rfl,h1,h2,h3⟩:=h;exact⟨e,l'++fs,rfl,h1,h2,ER.append h3 k⟩
theorem ER.put(K:Jj P kt ek){ro:Nat->Prop}{w w':World}{v:β}{val:Value}(a:Ext ro [] w ro [] w')(b:VR ro [] w (ev v) val):∀{l:List (α×β)} {es:List MapEntry} {j:Nat} {e:MapEntry},ER ro [] w (Qm ek ev l) es->
  (es.map (·.key)).Nodup->es[j]?=some e->e.key=QF (ek k)->
  ER ro [] w' (Qm ek ev (l.map λp=>bif decide (p.1=k)then(p.1,v)else p)) (es.modify j λe=>{e with key:=QF (ek k),val:=val})
 |[],es,j,e,h,hn,he,hk=>by cases(show es=[]from h);simp at he
 |p::l,es,j,e,h,hn,he,hk=>by
  obtain⟨e0,l',rfl,h1,h2,h3⟩:=h;have hk0:e0.key=QF (ek p.1):=VR.val (K.scl _) h1;simp only[Vl,List.nodup_cons]at hn;cases j with
  |zero=>
   simp only[XG,Option.some.injEq]at he;subst he;have hp:p.1=k:=K.inj _ _ (hk0.symm.trans hk);simp only[List.modify_zero_cons];have e1:Qm ek ev ((p::l).map λp=>bif decide (p.1=k)then(p.1,v)else p)=(ek p.1,ev v)::Qm ek ev l:=by
    simp only[Qm,Vl,hp,decide_true,Vr,List.map_map,List.cons.injEq,true_and];apply List.map_congr_left;intro q d;have:q.1≠k:=by
     intro e;refine hn.1 ?_;rw[QhX K h3];exact Xf.2 ⟨q,d,by rw[e, <- hp,hk0]⟩
    simp[this]
   rw[e1];refine⟨_,l',rfl,?_,b.mono a,h3.mono a⟩;show VR ro [] w' (ek p.1) (QF (ek k));rw[<- hp];exact Qb3 (K.scl _)
  |succ j=>
   simp only[XH]at he;have hp:p.1≠k:=by
    intro q;refine hn.1 (Xf.2 ⟨e,VJ he,?_⟩);rw[hk,hk0,q]
   simp only[List.modify_succ_cons];have e1:Qm ek ev ((p::l).map λp=>bif decide (p.1=k)then(p.1,v)else p)=(ek p.1,ev p.2)::Qm ek ev (l.map λp=>bif decide (p.1=k)then(p.1,v)else p):=by
    simp[Qm,hp]
   rw[e1];exact⟨_,_,rfl,h1.mono a,h2.mono a,ER.put K a b h3 hn.2 he hk⟩
theorem YG{m:List (α×β)}(K:Jj P kt ek){v:β}{zz:Operand}(hm:some (Q5 l k v)=some m)(L:Yw (ev v)=true)(hT:P.underlying T=some (.map kt et))
  (ho:o.op=.mapUpdate T x y zz:=by exact rfl)(hx:opA env x=.map i:=by exact rfl)(hH:H[i]?=some (.map (Qm ek ev l)):=by exact rfl)(Q:opA env y=ek k:=by exact rfl)(hv:opA env zz=ev v:=by exact rfl):
  OpU P o env H (H.set i (.map (Qm ek ev m))):=by
 obtain rfl:=X2 hm;intro fr ro σ N a w r;have h1:=Qd r x;rw[hx]at h1;obtain⟨b,q1,q2⟩:=h1;have h2:=Qd r y;rw[Q]at h2;have h3:=VR.val (K.scl _) h2;have h4:=Qd r zz;rw[hv]at h4;have M:VR ro [] w (ev v) (a.eval zz):=VR.data L h4;obtain⟨u,s,O,W,p3,p4,V⟩:=r.sim.blk i _ _ q1 hH;obtain⟨f1,f2⟩:=ER.find K W k V;have R:∀(obj:Obj) y,w.shape? b=some y->({w with heap:=w.heap.setIfInBounds b obj}:World).shape? b=some y:=by
  intro obj y Q;unfold World.shape? at Q;rw[O]at Q;simp at Q
 rcases K.find w k u.toList (Qbo K W)with⟨g1,G⟩|⟨j,e,g1,G,X⟩
 .obtain⟨u1,u2⟩:=f1 G;have hl:Q5 l k v=l++[(k,v)]:=by
   unfold Q5;rw[show(l.any λp=>decide (p.1=k))=false from u2];rfl
  have g:=r.sim.set (x':=.map (Qm ek ev (Q5 l k v))) (obj:=.map (u.push {key:=QF (ek k),val:=a.eval zz,born:=s}) (s+1)) q1 hH rfl (R _)
   (λe E=>⟨_,_,E,by
    rw[hl,Qm,Xg,Array.toList_push];exact(W.mono ⟨e.sub,e.keep,e.shape,λ_ _ q=>q⟩).append ⟨_,_,rfl,Qb3 (K.scl _),M.mono ⟨e.sub,e.keep,e.shape,λ_ _ q=>q⟩,rfl⟩,by
    rw[Array.toList_push];intro e E;rcases VF.1 E with q|q
    .exact Nat.lt_succ_of_lt (p3 e q)
    .simp at q;subst q;exact Xo _,by
    rw[Array.toList_push,Xg];refine List.nodup_append.2 ⟨p4,by simp,?_⟩;intro c hc d L;simp at L;subst L;obtain⟨e,E,rfl⟩:=Xf.1 hc;exact Nat.ne_of_lt (p3 e E),by
    rw[Array.toList_push,Xg];refine List.nodup_append.2 ⟨V,by simp,?_⟩;intro c hc d L;simp at L;subst L;obtain⟨e,E,rfl⟩:=Xf.1 hc;exact G e E⟩)
  refine⟨_,ro,[],?_,by simpa using g.1,g.2⟩;simp only[execOp,ho,q2,h3,Vp,Instr.mapUpdate,run_underlying hT,Result.andThen,MapKept.run_getObj_map O,K.check,g1,MapKept.run_setObj_map _ O];rfl
 .obtain⟨u1,u2⟩:=f2 j e G X;have hl:Q5 l k v=l.map λp=>bif decide (p.1=k)then(p.1,v)else p:=by
   unfold Q5;rw[show(l.any λp=>decide (p.1=k))=true from u1];rfl
  have hj:u[j]?=some e:=by rw[<- G];simp
  have t:(u.modify j λe=>{e with key:=QF (ek k),val:=a.eval zz}).toList=u.toList.modify j λe=>{e with key:=QF (ek k),val:=a.eval zz}:=by simp
  have z:∀{γ:Type} (f:MapEntry->γ),(∀F,u.toList[j]?=some F->f {F with key:=QF (ek k),val:=a.eval zz}=f F)->(u.toList.modify j λe=>{e with key:=QF (ek k),val:=a.eval zz}).map f=u.toList.map f:=by
   intro γ f hf;apply List.ext_getElem?;intro n;rw[Xq,Xq,List.getElem?_modify];by_cases hn:j=n
   .subst hn;cases q:u.toList[j]? with
    |none=>rfl
    |some F=>simp[hf F q]
   .simp[hn]
  have g:=r.sim.set (x':=.map (Qm ek ev (Q5 l k v))) (obj:=.map (u.modify j λe=>{e with key:=QF (ek k),val:=a.eval zz}) s) q1 hH rfl (R _)
   (λY E=>⟨_,_,E,by
    rw[hl,t];exact ER.put K ⟨Y.sub,Y.keep,Y.shape,λ_ _ q=>q⟩ M W V G X,by
    rw[t];intro F B;have:F.born∈(u.toList.modify j λe=>{e with key:=QF (ek k),val:=a.eval zz}).map (·.born):=VI B;rw[z (·.born) (λ_ _=>rfl)]at this;obtain⟨e2,h,h'⟩:=Xf.1 this;rw[<- h'];exact p3 e2 h,by
    rw[t,z (·.born) (λ_ _=>rfl)];exact p4,by
    rw[t,z (·.key) (λF B=>by rw[G]at B;cases B;exact X.symm)];exact V⟩)
  refine⟨_,ro,[],?_,by simpa using g.1,g.2⟩;have J:=K.stays w k;simp only[execOp,ho,q2,h3,Vp,Instr.mapUpdate,run_underlying hT,Result.andThen,MapKept.run_getObj_map O,K.check,g1,hj,Xk,Option.getD_some,X,J,MapKept.run_setObj_map _ O];rfl
theorem ER.length{ro:Nat->Prop}{σ:Sig}{w:World}:∀{l:List (A×A)} {es:List MapEntry},ER ro σ w l es->es.length=l.length
 |[],es,h=>by cases(show es=[]from h);rfl
 |p::l,es,h=>by
  obtain⟨e,l',rfl,_,_,h3⟩:=h;simp[ER.length h3]
theorem QcM{c:Call}{n:Int}(m:P.underlying T=some (.map kt et))(t:(l.length:Int)=n)(p:o.op=.call c:=by exact rfl)(hc:c={callee:=.builtin .len,args:= #[x],argTypes:= #[T]}:=by exact rfl)
  (hx:opA env x=.map i:=by exact rfl)(hH:H[i]?=some (.map (Qm ek ev l)):=by exact rfl):OpV P o env H (.int .i64 n):=by
 intro z E σ N a w r;have h:=Qd r x;rw[hx]at h;obtain⟨b,k,g⟩:=h;obtain⟨f,d,u,s,y,F,B⟩:=r.sim.blk i _ _ k hH;have j:=s.length;refine⟨.int .i64 n,?_,rfl⟩;have e:goInt f.size=.int .i64 n:=by
  have:f.size=l.length:=by rw[<- Array.length_toList,j];simp[Qm]
  rw[this, <- t];rfl
 subst hc;have q:=g;generalize a.eval=ρ at*;rw[<- e];simp[execOp,p,g,resolve,invoke,Go.builtin,Builtin.len_,run_underlying m,MapKept.run_getObj_map u,go_sem]
end
end
end Go.Sw
namespace Go.Sw
open Go.ChangeMaps (setBlock)
section
variable {P:Program} {o:Oper} {env:Env} {H:Qc} {h0 N:Nat} {Q:QA}
def OpE(P:Program)(o:Oper)(env:Env)(H:Qc)(K:A->Qc->Prop):Prop:=
 ∀fr ro σ N a w,Rel fr ro σ H env N a w->∃x H' v w' ro' τ,K x H'/\(execOp a.eval o).run P w=.ok (.value v) w'/\VR ro' (σ++τ) w' x v/\
  Sim fr ro' (σ++τ) H' w'/\Qe fr ro w ro' w'
theorem Qkd{all:Array Oper}{l:List Oper}{d:Nat}{K:A->Qc->Prop}(u:h0<=H.length)(hg:Qp all o env true)(t:o.dst=some d)(m:Nat.blt d N=true)
  (h:OpE P o env H K)(k:∀x H',K x H'->WO P h0 N all l (up env d x) H' Q):WO P h0 N all (o::l) env H Q:=by
 intro p fr y σ a w r hrd;obtain⟨x,H',v,i,b,τ,j,B,z,n,f⟩:=h fr y σ N a w r;refine Qac (YK hg r) B ?_;simp only[t,Act.put];have g:d<N:=by simpa using m
 have E:Rel fr b (σ++τ) H' (up env d x) N {a with tmps:=a.tmps.setIfInBounds d v} i:=
  ⟨n,VR.up (fr:=fr) (λs=>(r.env s).mono (f.ext σ τ)) (by rw[r.size];exact g) z,by simpa using r.size,r.defers.keep f⟩
 refine Yq (λe a w q=>q.step f (Qy ?_)) _ _ _ (k x H' j p fr b (σ++τ) _ i E (hrd.to f λ_ q=>q));rw[r.sim.len];exact u
theorem Sim.shutMap{fr ro:Nat->Prop}{σ:Sig}{w:World}(s:Sim fr ro σ H w){i b:Nat}{es:List (A×A)}(hσ:σ[i]?=some (some b))(hH:H[i]?=some (.map es)):
  Sim fr (λc=>ro c\/c=b) σ (H.set i (.fmap es)) w:=by
 have k:b<w.heap.size/\ ¬ro b/\ ¬fr b:=s.own i b _ hσ hH rfl;have ext:Ext ro σ w (λc=>ro c\/c=b) σ w:=⟨λ_ q=>.inl q,λ_ _=>rfl,λ_ _ q=>q,λ_ _ q=>q⟩;have a:∀(j:Nat) (v:Blk),(H.set i (.fmap es))[j]?=some v->v.live=true->j≠i/\H[j]?=some v:=by
  intro j v h u;by_cases e:j=i
  .subst e;rw[Xb]at h;simp only[if_true]at h;split at h
   .cases h;simp[Blk.live]at u
   .simp at h
  .rw[XR (λq=>e q.symm)]at h;exact⟨e,h⟩
 have g:∀(j:Nat) (v:Blk),(H.set i (.fmap es))[j]?=some v->v.holds=true->H[j]?=some v:=by
  intro j v h u;by_cases e:j=i
  .subst e;rw[Xb]at h;simp only[if_true]at h;split at h
   .cases h;cases u
   .simp at h
  .rw[XR (λq=>e q.symm)]at h;exact h
 refine⟨by rw[X6];exact s.len,s.roOk.to (λ_ q=>.inl q) (λ_ _=>rfl) ?_,s.frLt,?_,?_,?_,?_,s.hidTo (· = ·) QY (XV _) (λj d x c M R Q P=>P.elim id λq=>((s.hid j d x c M R Q).ne i b _ hσ hH rfl q).elim) (λ_ _ _ _ _ _ _ q=>q) λj d y N L O=>.inl ⟨j,y,rfl,N,g j y L O,id,λ_ q=>q⟩⟩
 .rintro c (q|rfl)
  .exact s.roLt c q
  .exact k.1
 .rintro c (q|rfl)
  .exact s.roFr c q
  .exact k.2.2
 .intro j c v m f p;obtain⟨e,f⟩:=a j v f p;obtain⟨z,t,r⟩:=s.own j c v m f p;refine⟨z,?_,r⟩;rintro(q|rfl)
  .exact t q
  .exact e (s.inj j i c v _ m hσ f hH p rfl)
 .intro j B c v E m f p J F G;exact s.inj j B c v E m f (a j v p F).2 (a B E J G).2 F G
 .intro j y v m f;by_cases e:j=i
  .subst e;rw[hσ]at m;cases m;rw[Xb]at f;simp only[if_true]at f;split at f
   .cases f;obtain⟨l,n,z,t,r⟩:=s.blk j _ _ hσ hH;exact⟨.inr rfl,l,n,z,t.mono ext.nil,r⟩
   .simp at f
  .rw[XR (λq=>e q.symm)]at f;exact(s.blk j y v m f).keep ext (λ_ _ _=>rfl) (λ_ _ _ _=>rfl)
section
variable {T kt et i:Nat} {x:Operand} {es:List (A×A)}
theorem QfX(t:P.underlying T=some (.map kt et))(z:o.op=.range T x:=by exact rfl)(hx:opA env x=.map i:=by exact rfl)(hH:H[i]?=some (.fmap es):=by exact rfl):
  OpH P o env H (.ptr H.length 0) (H++[.iter none es]):=by
 intro p j σ N a w r;have k:=Qd r x;rw[hx]at k;obtain⟨b,q,B⟩:=k;obtain⟨f,l,d,m,y,n,u,E⟩:=r.sim.blk i _ _ q hH;have s:=r.sim.roLt b f;have g:Qe p j w j (w.alloc (.mapIter (some b) d #[] d)):=Qe.alloc _ r.sim.roLt r.sim.frLt;have ext0:Ext j [] w j [] (w.alloc (.mapIter (some b) d #[] d)):=g.ext0 [];refine⟨.pointer (some ⟨w.heap.size,0,none⟩),w.alloc (.mapIter (some b) d #[] d),_,[some w.heap.size],?_,⟨w.heap.size,?_,rfl⟩,
  r.sim.alloc (.inr ⟨b,l,d, #[],l.toList,Yi _ _,f,by rw[Yj _ _ _ s];exact m,n,u,?_,y.mono ext0,λ_ h=>by cases h⟩),g⟩
 .generalize a.eval=ρ at*;simp only[execOp,z,B,Instr.range,Vp,run_underlying t,Result.andThen,MapKept.run_getObj_map m];rfl
 .rw[<- r.sim.len];simp
 .have:l.toList.filter (λe=> !(#[]:Array Nat).contains e.born)=l.toList:=by rw[List.filter_eq_self];intro e _;simp
  rw[this]
theorem ER.mem{ro:Nat->Prop}{σ:Sig}{w:World}:∀{es:List (A×A)} {l:List MapEntry},ER ro σ w es l->∀e∈l,∃x es' l',(x::es').Perm es/\(e::l').Perm l/\VR ro σ w x.1 e.key/\VR ro σ w x.2 e.val/\ER ro σ w es' l'
 |[],l,h,e,he=>by cases(show l=[]from h);cases he
 |y::es,l,h,e,he=>by
  obtain⟨e0,l',rfl,h1,h2,h3⟩:=h;rcases X8.1 he with rfl|he
  .exact⟨y,es,l',.refl _,.refl _,h1,h2,h3⟩
  .obtain⟨x,es',l'',p1,p2,v1,v2,h4⟩:=ER.mem h3 e he;exact⟨x,y::es',e0::l'',(List.Perm.swap _ _ _).trans (p1.cons _),(List.Perm.swap _ _ _).trans (p2.cons _),v1,v2,⟨e0,l'',rfl,h1,h2,h4⟩⟩
theorem Qi3:∀{l:List MapEntry},(l.map (·.born)).Nodup->∀a∈l,∀b∈l,a.born=b.born->a=b
 |[],_,a,ha,_,_,_=>by cases ha
 |c::l,hn,a,ha,b,hb,hab=>by
  simp only[Vl,List.nodup_cons]at hn;rcases X8.1 ha with ea|ha'<;>rcases X8.1 hb with eb|hb'
  .rw[ea,eb]
  .subst ea;exact absurd (Xf.2 ⟨b,hb',hab.symm⟩) hn.1
  .subst eb;exact absurd (Xf.2 ⟨a,ha',hab⟩) hn.1
  .exact Qi3 hn.2 a ha' b hb' hab
def NextK(H:Qc)(i:Nat)(cur:Option (A×A))(es:List (A×A))(v:A)(H':Qc):Prop:=
 (es=[]/\v=.tup [.bool false]/\H'=H)\/ ∃e es',(e::es').Perm es/\v=.tup [.bool true,e.1,e.2]/\H'=H.set i (.iter (some e) es')
theorem OpE.next{Q:Option (A×A)}(ho:o.op=.next x false:=by exact rfl)(hx:opA env x=.ptr i 0:=by exact rfl)(hH:H[i]?=some (.iter Q es):=by exact rfl):
  OpE P o env H (NextK H i Q es):=by
 intro fr s σ N a w r;have h1:=Qd r x;rw[hx]at h1;obtain⟨b,q1,q2⟩:=h1;have k:∀(v:Value) (g:World),g.heap=w.heap->g.os=w.os->g.tape=w.tape->g.output=w.output->w.drawn<=g.drawn->Sim fr s (σ++[]) H g/\Qe fr s w s g:=by
  intro v g X e2 e3 e4 e5;exact⟨by simpa using r.sim.heap X,Qe.heap X e2 e3 e4 e5⟩
 rcases r.sim.blk i _ _ q1 hH with⟨rfl,rfl,p⟩|⟨m,l,f,d,left,p1,p2,W,p4,p5,p6,p7,p8⟩
 .refine⟨_,_,.tuple #[.bool false],w,s,[],.inl ⟨rfl,rfl,rfl⟩,?_,⟨_,rfl,_,_,rfl,rfl,rfl⟩,k (.bool false) w rfl rfl rfl rfl (XV _)⟩;generalize a.eval=ρ at*;simp only[execOp,ho,q2,Instr.next,Vp,getObj,Sem.run,p,Result.andThen];rfl
 .have u:(leftOf l d).toList=l.toList.filter λe=> !d.contains e.born:=by simp[leftOf]
  have t:left.Perm (leftOf l d).toList:=by rw[u];exact p6
  rcases run_next_at (P:=P) w o.type b m f f d l f p1 W p4 (XV _)with⟨T,g2⟩|⟨e,T,g,g2,g3⟩
  .have ab:left=[]:=by
    have:left.length=0:=by rw[t.length_eq];simpa using T
    exact VL.1 this
   subst ab;have ac:es=[]:=by
    have:=p7.length;simp only[List.length_nil]at this;exact VL.1 this.symm
   refine⟨_,_,.tuple #[.bool false],w,s,[],.inl ⟨ac,rfl,rfl⟩,?_,⟨_,rfl,_,_,rfl,rfl,rfl⟩,k (.bool false) w rfl rfl rfl rfl (XV _)⟩;generalize a.eval=ρ at*;simp only[execOp,ho,q2,Vp,g2,Result.andThen];rfl
  .have he:e∈left:=t.mem_iff.2 T;have L:e∈l.toList:=by rw[u]at T;exact(Xe.1 T).1
   obtain⟨y,O,V,k1,k2,v1,v2,k3⟩:=p7.mem e he;have n:g.heap=w.heap/\g.os=w.os/\g.tape=w.tape/\g.output=w.output/\w.drawn<=g.drawn:=by
    rcases g2 with rfl|rfl
    .exact⟨rfl,rfl,rfl,rfl,XV _⟩
    .exact⟨rfl,rfl,rfl,rfl,Nat.le_succ _⟩
   obtain⟨s1,J⟩:=k (.bool false) g n.1 n.2.1 n.2.2.1 n.2.2.2.1 n.2.2.2.2;rw[Vi]at s1;have ag:b≠m:=by
    rintro rfl;rw[p1]at W;cases W
   have E:=s1.set (x':=.iter (some y) O) (obj:=.mapIter (some m) f (d.push e.born) f) q1 hH rfl
    (λz F=>by
     unfold World.shape? at F;rw[n.1,p1]at F;simp at F)
    (λB ae=>.inr ⟨m,l,f,d.push e.born,V,ae,B.sub _ p2,by
      show(g.heap.setIfInBounds b _)[m]?=_;rw[Vg,Vu ag,n.1];exact W,p4,p5,by
      have aa:(l.toList.filter λe=> !d.contains e.born).Nodup:=by
       have:l.toList.Nodup:=List.Pairwise.of_map _ (λa b h q=>h (congrArg _ q)) p5;exact this.filter _
      have hp:(e::V).Perm (l.toList.filter λe=> !d.contains e.born):=k2.trans p6;have M:(e::V).Nodup:=hp.nodup_iff.2 aa;have X:(l.toList.filter λG=> !(d.push e.born).contains G.born)=(l.toList.filter λe=> !d.contains e.born).filter λG=> !decide (G.born=e.born):=by
       rw[List.filter_filter];apply List.filter_congr;intro z _;simp[Array.contains_push,Bool.and_comm]
      rw[X];have h2:=hp.filter (λG=> !decide (G.born=e.born));have e2:(e::V).filter (λG=> !decide (G.born=e.born))=V:=by
       rw[List.filter_cons_of_neg (by simp),List.filter_eq_self];intro z F;have af:z∈l.toList:=(Xe.1 (hp.mem_iff.1 (X7 _ F))).1;simp only[Bool.not_eq_true',decide_eq_false_iff_not];intro hb;have:z=e:=by
        exact Qi3 p5 z af e L hb
       subst this;exact(List.nodup_cons.1 M).1 F
      rw[e2]at h2;exact h2,by
      have Y:Ext s [] w s [] g:=J.ext0 [];exact(k3.mono Y).mono ⟨B.sub,B.keep,B.shape,λ_ _ q=>q⟩,by
      intro z F;cases F;have Y:Ext s [] w s [] g:=J.ext0 [];exact⟨e,L,by simp,(v1.mono Y).mono ⟨B.sub,B.keep,B.shape,λ_ _ q=>q⟩,(v2.mono Y).mono ⟨B.sub,B.keep,B.shape,λ_ _ q=>q⟩⟩⟩)
   have R:=J.trans E.2;have xt:Ext s [] w s [] {g with heap:=g.heap.setIfInBounds b (.mapIter (some m) f (d.push e.born) f)}:=R.ext0 [];refine⟨_,_,.tuple #[.bool true,e.key,e.val],_,s,[],.inr ⟨y,O,k1,rfl,rfl⟩,?_,
    ⟨[.bool true,e.key,e.val],rfl,_,_,rfl,rfl,_,_,rfl,(v1.mono xt).mono ⟨λ_ q=>q,λ_ _=>rfl,λ_ _ q=>q,λj c q=>by simp at q⟩,_,_,rfl,(v2.mono xt).mono ⟨λ_ q=>q,λ_ _=>rfl,λ_ _ q=>q,λj c q=>by simp at q⟩,rfl⟩,by simpa using E.1,R⟩
   generalize a.eval=ρ at*;simp only[execOp,ho,q2,Vp,g3,Result.andThen,setBlock];rfl
theorem OpV.entry{e:A×A}(F:o.op=.entry x:=by exact rfl)(hx:opA env x=.ptr i 0:=by exact rfl)(hH:H[i]?=some (.iter (some e) es):=by exact rfl):OpV P o env H (.tup [e.1,e.2]):=by
 intro O R σ N a w r;have n:=Qd r x;rw[hx]at n;obtain⟨b,y,J⟩:=n;rcases r.sim.blk i _ _ y hH with⟨_,h,_⟩|⟨m,l,d,k,left,G,Q,p,T,B,M,L,s⟩
 .cases h
 .obtain⟨f,z,u,E,t⟩:=s e rfl;refine⟨.tuple #[f.key,f.val],?_,[f.key,f.val],rfl,_,_,rfl,E.mono ⟨λ_ q=>q,λ_ _=>rfl,λ_ _ q=>q,λj c q=>by simp at q⟩,_,_,rfl,t.mono ⟨λ_ q=>q,λ_ _=>rfl,λ_ _ q=>q,λj c q=>by simp at q⟩,rfl⟩;have g:l.find? (·.born==f.born)=some f:=by rw[<- Array.find?_toList];exact find_born f l.toList B z
  generalize a.eval=ρ at*;simp only[execOp,F,J,Instr.entry,getObj,Vp,Sem.run,G,p,Result.andThen,u,bne_self_eq_false,Xj,if_false,g];rfl
end
end
end Go.Sw
namespace Go.Sw
def QeW{S E B:Type}(stepE:S->E->Option (Ctl S B))(stepN:S->Option B):S->List E->Option B
 |s,[]=>stepN s
 |s,e::p=>match stepE s e with
  |some (.cont s')=>QeW stepE stepN s' p
  |some (.done b)=>some b
  |none=>none
def Qbv{E:Type}(x:E):List E->List (List E)
 |[]=>[[x]]
 |y::l=>(x::y::l)::(Qbv x l).map (y:: ·)
def QbT{E:Type}:List E->List (List E)
 |[]=>[[]]
 |x::l=>(QbT l).flatMap (Qbv x)
theorem Qfd{E:Type}(x:E):∀(a b:List E),a++x::b∈Qbv x (a++b)
 |[],[]=>by simp[Qbv]
 |[],y::b=>by simp[Qbv]
 |y::a,b=>by
  simp only[VM,Qbv,X8,Xf];exact .inr ⟨a++x::b,Qfd x a b,rfl⟩
theorem Qdz{E:Type}:∀(l p:List E),p.Perm l->p∈QbT l
 |[],p,h=>by rw[List.perm_nil.1 h];simp[QbT]
 |x::l,p,h=>by
  have hx:x∈p:=h.mem_iff.2 (by simp);obtain⟨a,b,rfl⟩:=List.append_of_mem hx;have h2:(a++b).Perm l:=(List.perm_cons x).1 ((List.perm_middle.symm).trans h);simp only[QbT,List.mem_flatMap];exact⟨a++b,Qdz l _ h2,Qfd x a b⟩
def anyP{E R:Type}[DecidableEq R](k:List E->Option R)(l:List E):Option R:=bif (QbT l).all (λp=>decide (k p=k l))then k l else none
theorem QkY{E R:Type}[DecidableEq R]{k:List E->Option R}{l:List E}{r:R}(h:anyP k l=some r)(p:List E)(a:p.Perm l):k p=some r:=by
 unfold anyP at h;cases q:(QbT l).all (λp=>decide (k p=k l))with
 |true=>
  rw[q]at h;have:=Xu.1 q p (Qdz l p a);rw[Vx this];exact h
 |false=>rw[q]at h;cases h
theorem Qcz{E:Type}:∀(l p:List E),p∈QbT l->p.Perm l
 |[],p,h=>by simp[QbT]at h;rw[h]
 |x::l,p,h=>by
  simp only[QbT,List.mem_flatMap]at h;obtain⟨q,hq,hp⟩:=h;have ins:∀(q p:List E),p∈Qbv x q->p.Perm (x::q):=by
   intro q
   induction q with
   |nil=>intro p hp;simp[Qbv]at hp;rw[hp]
   |cons y q b=>
    intro p hp;simp only[Qbv,X8,Xf]at hp;rcases hp with rfl|⟨z,a,rfl⟩
    .exact .refl _
    .exact((b z a).cons y).trans (List.Perm.swap _ _ _)
  exact(ins q p hp).trans ((Qcz l q hq).cons x)
theorem QkZ{E R:Type}[DecidableEq R]{k:List E->Option R}{l:List E}{r:R}(h:∀p,p.Perm l->k p=some r):anyP k l=some r:=by
 unfold anyP;have:(QbT l).all (λp=>decide (k p=k l))=true:=Xu.2 λp a=>by
  rw[h p (Qcz l p a),h l (.refl _)];simp
 rw[this];exact h l (.refl _)
def Qjs{S E B:Type}(stepE:S->E->Option (Ctl S B))(stepN:S->Option B)(G:B->Prop)(s:S)(l:List E):Prop:=∀p,p.Perm l->∃b,QeW stepE stepN s p=some b/\G b
section
variable {P:Program} {o:Oper} {env:Env} {H:Qc} {h0 N:Nat} {Q:QA} {c:Code}
def Qci(I:Env->Qc->Prop)(Q:QA):QA
 |.normal,env,H=>I env H
 |.exit id,env,H=>Q (.exit id) env H
 |.ret,env,H=>Q .ret env H
theorem QnL{I:Nat->Env->Qc->Prop}(body:∀n env H,I n env H->TC P h0 N c env H (Qci (λenv H=>∃n',n'<n/\I n' env H) Q)){n:Nat}(E:I n env H):TC P h0 N (.loop c) env H Q:=by
 intro L p y σ a w r hrd b k cs hro hb hr;have z:∀m n env H fr1 ro1 σ1 a1 w1,n<m->I n env H->Rel fr1 ro1 σ1 H env N a1 w1->Qe p y w ro1 w1->σ1.take h0=σ.take h0->Grow p w a.defers fr1 a1.defers->
   ∃e h g,QaQ h0 p y σ w N a.defers Q e h g/\ArrivesIn (Machine.fenced P (WF L)) P (lone (b.atR a1 (.code c::.inLoop c::k)) cs w1) b k cs e h g:=by
  intro m
  induction m with
  |zero=>intro n env H fr1 ro1 σ1 a1 w1 hn;exact absurd hn (Xn _)
  |succ m ih=>
   intro n env H fr1 ro1 σ1 a1 w1 hn E r1 ev1 t1 g1;obtain⟨e,h,g,F,d⟩:=body n env H E L fr1 ro1 σ1 a1 w1 r1 (hrd.to ev1 g1.sub) b (.inLoop c::k) cs hro hb hr;obtain⟨x,f,H',j,σ',s,u,t,O,X,M,R⟩:=F;have l:=ev1.trans (X.frMono g1.sub);have G:=g1.trans ev1.size R;have J:∀x,Q x f H'->ExR e x->QaQ h0 p y σ w N a.defers Q e h g:=λx q V=>⟨x,f,H',j,σ',s,V,q,O,l,M.trans t1,G⟩;cases e with
   |normal=>
    obtain rfl:x=.normal:=u;obtain⟨n',aa,t⟩:=t;obtain⟨W,T,Y,B,i⟩:=ih n' f H' s j σ' h g (by omega) t O l (M.trans t1) G;exact⟨W,T,Y,B,.of_steps (StepsIn.trans d (.one (fenced_calm hb hr rfl) stepR_inLoop)) i⟩
   |exit id=>
    obtain rfl:x=.exit id:=u;exact⟨_,h,g,J _ t rfl,.pass (x:=.inLoop c) rfl (λ_ _=>.inl (by simp)) d⟩
   |ret=>
    obtain rfl:x=.ret:=u;exact⟨_,h,g,J _ t rfl,.pass (x:=.inLoop c) rfl (λ_ _=>.inl (by simp)) d⟩
   |_=>exact u.elim
 obtain⟨e,h,g,F,d⟩:=z (n+1) n env H p y σ a w (Xo _) E r (Qe.refl _ _ _) rfl (Grow.refl _ _ _);exact⟨e,h,g,F,.of_steps (.one (fenced_calm hb hr rfl) stepR_loop) d⟩
section
variable {S E B:Type} {stepE:S->E->Option (Ctl S B)} {stepN:S->Option B} {G:B->Prop} (Es:S->Env) (Hp:S->List (A×A)->Qc) {enc:E->A×A}
def AtP(stepE:S->E->Option (Ctl S B))(stepN:S->Option B)(G:B->Prop)(enc:E->A×A)(h0 n:Nat)(env:Env)(H:Qc):Prop:=
 ∃s l,l.length=n/\Qjs stepE stepN G s l/\Le h0 env H (Es s) (Hp s (l.map enc))
theorem QnK{s0:S}{l0:List E}(h:Qjs stepE stepN G s0 l0)(hI:Le h0 env H (Es s0) (Hp s0 (l0.map enc)))
  (body:∀s l,Qjs stepE stepN G s l->TC P h0 N c (Es s) (Hp s (l.map enc)) (Qci (λenv H=>∃n',n'<l.length/\AtP Es Hp stepE stepN G enc h0 n' env H) Q)):TC P h0 N (.loop c) env H Q:=
 QnL (I:=AtP Es Hp stepE stepN G enc h0) (λn env H ⟨s,l,hn,ha,hle⟩=>by subst hn;exact TC.le hle (body s l ha)) ⟨s0,l0,rfl,h,hI⟩
theorem Qgp{α β:Type}{f:α->β}:∀{m g:List β},m.Perm g->∀{l:List α},g=l.map f->∃l':List α,l'.Perm l/\l'.map f=m:=by
 intro m g h
 induction h with
 |nil=>intro l d;exact⟨[],by rw[List.map_eq_nil_iff.1 d.symm],rfl⟩
 |cons x _ ih=>
  intro l d;cases l with
  |nil=>cases d
  |cons a l=>
   simp only[Vl,List.cons.injEq]at d;obtain⟨l',i,e⟩:=ih d.2;exact⟨a::l',i.cons _,by simp[e,d.1]⟩
 |swap x y m=>
  intro l d
  match l,d with
  |a::b::l,d=>
   simp only[Vl,List.cons.injEq]at d;exact⟨b::a::l,List.Perm.swap _ _ _,by simp[d.1,d.2.1,d.2.2]⟩
 |trans _ _ ih1 ih2=>
  intro l d;obtain⟨p,i,e⟩:=ih2 d;obtain⟨j,k,n⟩:=ih1 e.symm;exact⟨j,k.trans i,n⟩
theorem QnF{all:Array Oper}{L:List Oper}{d i:Nat}{x:Operand}{t:Option (A×A)}{s:S}{l:List E}(hl:Qjs stepE stepN G s l)
  (z:∀b,stepN s=some b->G b->WO P h0 N all L (up env d (.tup [.bool false])) H Q)
  (w:∀e l' D,stepE s e=some D->(∀b,D=.done b->G b)->(l'.length<l.length/\ ∀s',D=.cont s'->Qjs stepE stepN G s' l')->
   WO P h0 N all L (up env d (.tup [.bool true,(enc e).1,(enc e).2])) (H.set i (.iter (some (enc e)) (l'.map enc))) Q)
  (B:o.op=.next x false:=by exact rfl)(hx:opA env x=.ptr i 0:=by exact rfl)(hH:H[i]?=some (.iter t (l.map enc)):=by exact rfl)
  (hg:Qp all o env true:=by exact rfl)(hd:o.dst=some d:=by exact rfl)(hN:Nat.blt d N=true:=by exact rfl)(hh:Nat.ble h0 H.length=true:=by exact rfl):WO P h0 N all (o::L) env H Q:=by
 refine Qkd (XT hh) hg hd hN (OpE.next B hx hH) ?_;rintro v H' (⟨q,rfl,rfl⟩|⟨e,F,q,rfl,rfl⟩)
 .have:l=[]:=List.map_eq_nil_iff.1 q;subst this;obtain⟨b,m,j⟩:=hl [] (.refl _);exact z b m j
 .obtain⟨y,m,j⟩:=Qgp q rfl;cases y with
  |nil=>cases j
  |cons a l'=>
   simp only[Vl,List.cons.injEq]at j;obtain⟨rfl,rfl⟩:=j;have h:l'.length<l.length:=by rw[<- m.length_eq];simp
   have f:∀p,p.Perm l'->∃b,QeW stepE stepN s (a::p)=some b/\G b:=λp r=>hl _ ((r.cons a).trans m);cases k:stepE s a with
   |none=>
    obtain⟨b,g,_⟩:=f l' (.refl _);simp[QeW,k]at g
   |some D=>
    refine w a l' D k ?_ ⟨h,?_⟩
    .rintro b rfl;obtain⟨u,g,n⟩:=f l' (.refl _);simp[QeW,k]at g;subst g;exact n
    .rintro s' rfl p r;obtain⟨u,g,n⟩:=f p r;simp[QeW,k]at g;exact⟨u,g,n⟩
theorem QpJ{s:S}{l l':List E}{D:Ctl S B}(e:some (Ctl.cont s)=some D)(hc:l'.length<l.length/\ ∀s',D=.cont s'->Qjs stepE stepN G s' l')(h:Le h0 env H (Es s) (Hp s (l'.map enc))):
  Qci (λenv H=>∃n',n'<l.length/\AtP Es Hp stepE stepN G enc h0 n' env H) Q .normal env H:=
 ⟨_,hc.1,s,l',rfl,hc.2 _ (X2 e).symm,h⟩
theorem QpI{I:Env->Qc->Prop}{id:Nat}(h:Q (.exit id) env H):Qci I Q (.exit id) env H:=h
end
def Qpf{B:Type}(h0:Nat)(G:B->Prop)(Eb:B->Env)(Hb:B->Qc)(Q:QA):QA
 |.normal,env,H=>∃b,G b/\Le h0 env H (Eb b) (Hb b)
 |.exit id,env,H=>Q (.exit id) env H
 |.ret,env,H=>Q .ret env H
theorem QoO{S E B:Type}{stepE:S->E->Option (Ctl S B)}{stepN:S->Option B}{G:B->Prop}{s0:S}{l0:List E}(hl:Qjs stepE stepN G s0 l0)(Eb:B->Env)(Hb:B->Qc)
  (h:TC P h0 N c env H (Qpf h0 G Eb Hb Q))(k:∀b env H,G b->Le h0 env H (Eb b) (Hb b)->Q .normal env H):TC P h0 N c env H Q:=
 h.mono λx env' H' q=>by
  cases x with
  |normal=>obtain⟨b,e,q⟩:=q;exact k b _ _ e q
  |exit id=>exact q
  |ret=>exact q
theorem cutGN{B:Type}{G:B->Prop}{Eb:B->Env}{Hb:B->Qc}{b:B}(hG:G b)(h:Le h0 env H (Eb b) (Hb b)):Qpf h0 G Eb Hb Q .normal env H:=⟨b,hG,h⟩
theorem QgY{i:Nat}{k:Option (A×A)}{es:List (A×A)}{H':Qc}(hH:H[i]?=some (.iter k es))(g:H.set i (.iter none es)=H'):Le h0 env H env H':=by
 subst g;intro F B σ N a w r;refine⟨B,σ,⟨r.sim.weaken (x':=.iter none es) hH rfl ?_,r.env,r.size,r.defers⟩,λ_ q=>q,rfl⟩;intro y h;cases y with
 |none=>exact h
 |some b=>
  rcases h with⟨j,n,f⟩|⟨m,l,d,e,left,j,n,f,t,s,u,p,E⟩
  .exact .inl ⟨j,rfl,f⟩
  .exact .inr ⟨m,l,d,e,left,j,n,f,t,s,u,p,λx z=>by cases z⟩
end
end Go.Sw
namespace Go.Sw
def mk{α:Type}(n:Int)(z:α):Option (List α):=bif decide (0<=n)&&decide (n<=4294967296)then some (List.replicate n.toNat z)else none
section
variable {P:Program} {o:Oper} {env:Env} {H:Qc} {ro:Nat->Prop} {σ:Sig} {w:World}
theorem LR.replicate{az:List A}{l:List Value}(h:LR ro σ w az l):∀n,LR ro σ w (List.replicate n az).flatten (List.replicate n l).flatten
 |0=>rfl
 |n+1=>by
  rw[List.replicate_succ,List.replicate_succ];exact h.append (LR.replicate h n)
end
end Go.Sw
