/- The rules by which the code is walked, with what they rest on (part 1). -/
import Derived.Calls
import Derived.Tactics
import Derived.Below
import Derived.TacticsIn
import Derived.OrdersIn
import Derived.RangeFuncLeaves
import Derived.RangeFuncRecord
import Derived.Laws.Strings
import Derived.Laws.World
import Derived.Orders
import Derived.Maps.Keyed
import Derived.Laws.StructEq
import Derived.Maps.RangeRun
set_option linter.unusedVariables false
set_option linter.unusedSimpArgs false
set_option linter.unusedSectionVars false
namespace Go.Sw
abbrev Xa:= @List.getElem?_set_self
abbrev Xb:= @List.getElem?_set
abbrev Xc:= @List.pairwise_cons
abbrev Xd:= @List.mem_filter
abbrev Xe:= @List.mem_map
abbrev Xf:= @List.map_append
abbrev Xg:= @Bool.not_true
abbrev Xh:= @Bool.not_false
abbrev Xi:= @Bool.false_eq_true
abbrev Xj:= @Option.map_some
abbrev Xk:= @Option.map_none
abbrev Xl:= @List.replicate_succ
abbrev Xm:= @Nat.succ_mul
abbrev Xn:= @Nat.not_lt_zero
abbrev Xo:= @Nat.lt_succ_self
abbrev Xp:= @Nat.lt_succ_iff_lt_or_eq
abbrev Xq:= @List.getElem?_map
abbrev Xr:= @List.drop_eq_getElem_cons
abbrev Xs:= @List.drop_eq_nil_iff
abbrev Xt:= @List.flatten_append
abbrev Xu:= @List.all_eq_true
abbrev Xv:= @List.any_eq_true
abbrev Xw:= @List.length_range
abbrev Xx:= @Nat.sub_zero
abbrev Xy:= @Nat.zero_add
abbrev Xz:= @Nat.add_zero
abbrev XA:= @List.length_take
abbrev XB:= @List.length_drop
abbrev XC:= @List.take_append_drop
abbrev XD:= @Nat.add_mul
abbrev XE:= @Nat.min_eq_left
abbrev XF:= @Nat.mul_le_mul_right
abbrev XG:= @List.foldl_append
abbrev XH:= @List.foldl_cons
abbrev XI:= @List.getElem?_cons_zero
abbrev XJ:= @List.getElem?_cons_succ
abbrev XK:= @List.getElem?_toArray
abbrev XL:= @Sem.run_ite
abbrev XM:= @List.map_toArray
abbrev XN:= @Option.bind_some
abbrev XO:= @List.getElem?_eq_getElem
abbrev XP:= @List.getElem?_eq_some_iff
abbrev XQ:= @List.getElem?_append_left
abbrev XR:= @List.getElem?_append_right
abbrev XS:= @List.getElem?_eq_none
abbrev XT:= @List.getElem?_set_ne
abbrev XU:= @Nat.eq_of_beq_eq_true
abbrev XV:= @Nat.le_of_ble_eq_true
abbrev XW:= @Nat.ble_eq_true_of_le
abbrev XX:= @Nat.le_refl
abbrev XY:= @Nat.zero_le
abbrev XZ:= @Nat.le_trans
abbrev X0:= @Bool.and_eq_true
abbrev X2:= @Bool.or_eq_false_iff
abbrev X3:= @Bool.eq_iff_iff
abbrev X4:= @Option.some.inj
abbrev X5:= @List.length_cons
abbrev X6:= @List.length_map
abbrev X7:= @List.length_append
abbrev X8:= @List.length_set
abbrev X9:= @List.mem_cons_of_mem
abbrev Va:= @List.mem_cons
abbrev Vb:= @List.take_append_of_le_length
abbrev Vc:= @List.drop_append_of_le_length
abbrev Vd:= @List.take_length
abbrev Ve:= @List.drop_length_add_append
abbrev Vf:= @List.take_length_add_append
abbrev Vg:= @Array.getElem?_eq_some_iff
abbrev Vh:= @List.getElem_mem
abbrev Vi:= @Array.getElem?_setIfInBounds
abbrev Vj:= @Nat.lt_of_lt_of_le
abbrev Vk:= @List.append_nil
abbrev Vl:= @List.nil_append
abbrev Vm:= @List.append_assoc
abbrev Vn:= @List.map_cons
abbrev Vp:= @List.map_nil
abbrev Vq:= @List.flatten_cons
abbrev Vr:= @Sem.run_bind
abbrev Vs:= @Sem.run_pure
abbrev Vt:= @cond_true
abbrev Vu:= @cond_false
abbrev Vv:= @decide_eq_true_eq
abbrev Vw:= @if_neg
abbrev Vx:= @if_pos
abbrev Vy:= @decide_eq_true
abbrev Vz:= @of_decide_eq_true
abbrev VA:= @of_decide_eq_false
abbrev VB:= @decide_eq_false
abbrev VC:= @beq_iff_eq
abbrev VD:= @beq_eq_false_iff_ne
abbrev VE:= @Bool.true_and
abbrev VF:= @List.mem_singleton
abbrev VG:= @Nat.lt_or_ge
abbrev VH:= @List.mem_append
abbrev VI:= @List.pairwise_iff_getElem
abbrev VJ:= @Nat.beq_refl
abbrev VK:= @List.mem_map_of_mem
abbrev VL:= @List.mem_of_getElem?
abbrev VM:= @List.take_of_length_le
abbrev VN:= @List.length_eq_zero_iff
abbrev VO:= @List.cons_append
abbrev VP:= @List.getD_eq_getElem?_getD
abbrev VQ:= @Bool.eq_false_iff
abbrev VS:= @List.length_filter_le
def QlA:Nat:=11
def nG:Nat:=12
def QjO:List (List Int):=[[1,9999],[-1099511627776,1099511627776],[0,1048576],[0,39],[0,255],[0,1099511627776],[0,255],[1,1048576],[0,1],[0,31],[1,1048576]]
theorem gOk:((List.range nG).all λb=>Nat.beq b QlA|| !(QjO.getD b []).isEmpty)=true:=by decide
theorem gLt:Nat.ble QjO.length nG=true:=by decide
theorem Qqo:Nat.blt QlA nG=true:=by decide
structure GP (w:World):Prop where
 max:∃m:Int,w.cell? ⟨QlA,0,none⟩=some (.int .i64 m)
 tab:∀(g:Nat) (zs:List Int),QjO[g]?=some zs->∀(i:Nat) (z:Int),zs[i]?=some z->w.cell? ⟨g,i,none⟩=some (.int .i64 z)
theorem GP.keep{w w':World}(h:∀b,b<nG->w'.heap[b]?=w.heap[b]?)(g:GP w):GP w':=by
 obtain⟨m,e⟩:=g.max;refine⟨⟨m,?_⟩,λd f a i z j=>?_⟩
 .rw[<- e];unfold World.cell?;rw[h QlA (by simpa using Qqo)]
 .rw[<- g.tab d f a i z j];unfold World.cell?;have l:=(XP.1 a).1;have k:QjO.length<=nG:=by simpa using gLt
  rw[h d (by omega)]
theorem QgR{w:World}{b i:Nat}{v:Value}(h:w.cell? ⟨b,i,none⟩=some v):b<w.heap.size:=by
 cases e:w.heap[b]? with
 |none=>simp[World.cell?,e]at h
 |some o=>exact(Vg.1 e).1
theorem GP.size{w:World}(g:GP w)(b:Nat)(d:b<nG):b<w.heap.size:=by
 have h:=Xu.1 gOk b (List.mem_range.2 d);rw[Bool.or_eq_true]at h;rcases h with h|h
 .obtain⟨m,f⟩:=g.max;rw[XU h];exact QgR f
 .cases e:QjO[b]? with
  |none=>rw[VP,e]at h;simp at h
  |some a=>
   cases a with
   |nil=>rw[VP,e]at h;simp at h
   |cons z a=>exact QgR (g.tab b _ e 0 z rfl)
end Go.Sw
namespace Go.Sw
inductive A where
 |any
 |bool (b:Bool)
 |int (k:IntKind) (n:Int)
 |str (s:List UInt8)
 |nilp
 |ptr (i off:Nat)
 |rp (cs:List A)
 |nils
 |rsl (k:Nat) (es:List (List A))
 |osl (i o n k:Nat)
 |agg (cs:List A)
 |fn (f:Fn) (first cap:List A)
 |nilf
 |iface (t:Nat) (v:A)
 |nilif
 |map (i:Nat)
 |nilm
 |tup (vs:List A)
abbrev Sig:=List (Option Nat)
def Qq:Value->Prop
 |.agg _|.tuple _=>False
 |_=>True
mutual
def VR(ro:Nat->Prop)(σ:Sig)(w:World):A->Value->Prop
 |.any,_=>True
 |.bool b,v=>v=.bool b
 |.int k n,v=>v=.int k n
 |.str s,v=>v=.string ⟨s.toArray⟩
 |.nilp,v=>v=.pointer none
 |.ptr i off,v=>∃b,σ[i]?=some (some b)/\v=.pointer (some ⟨b,off,none⟩)
 |.rp cs,v=>∃b off,v=.pointer (some ⟨b,off,none⟩)/\ro b/\CR ro [] w b cs off
 |.nils,v=>v=.slice none 0 0
 |.rsl k es,v=>∃a cap,v=.slice a es.length cap/\es.length<=cap/\
   (es=[]\/ ∃b off,a=some ⟨b,off,none⟩/\ro b/\RR ro [] w b k es off)
 |.osl i o n k,v=>(n=0/\v=.slice none 0 0)\/
   ∃b p cap t m,σ[i]?=some (some b)/\v=.slice (some ⟨b,p,none⟩) n cap/\(0<cap->p=o*k)/\n<=cap/\w.shape? b=some (t,m)/\(o+cap)*k<=m
 |.agg cs,v=>∃l:List Value,v=.agg l.toArray/\LR ro σ w cs l
 |.fn f first cap,v=>∃l l':List Value,v=.func f l.toArray l'.toArray/\LR ro σ w first l/\LR ro σ w cap l'
 |.nilf,v=>v=.nilFunc
 |.iface t a,v=>∃x,v=.iface t x/\VR ro σ w a x
 |.nilif,v=>v=.nilIface
 |.map i,v=>∃b,σ[i]?=some (some b)/\v=.map (some b)
 |.nilm,v=>v=.map none
 |.tup vs,v=>∃l:List Value,v=.tuple l.toArray/\LR ro σ w vs l
def CR(ro:Nat->Prop)(σ:Sig)(w:World)(b:Nat):List A->Nat->Prop
 |[],_=>True
 |a::r,off=>(∃v,w.cell? ⟨b,off,none⟩=some v/\Qq v/\VR ro σ w a v)/\CR ro σ w b r (off+1)
def RR(ro:Nat->Prop)(σ:Sig)(w:World)(b k:Nat):List (List A)->Nat->Prop
 |[],_=>True
 |cs::r,off=>cs.length=k/\CR ro σ w b cs off/\RR ro σ w b k r (off+k)
def LR(ro:Nat->Prop)(σ:Sig)(w:World):List A->List Value->Prop
 |[],l=>l=[]
 |a::r,l=>∃v l',l=v::l'/\VR ro σ w a v/\LR ro σ w r l'
end
structure Ext (ro:Nat->Prop) (σ:Sig) (w:World) (ro':Nat->Prop) (σ':Sig) (w':World):Prop where
 sub:∀b,ro b->ro' b
 keep:∀b,ro b->w'.heap[b]?=w.heap[b]?
 shape:∀b x,w.shape? b=some x->w'.shape? b=some x
 sig:∀(i b:Nat),σ[i]?=some (some b)->σ'[i]?=some (some b)
theorem QgS{w w':World}{b off:Nat}(h:w'.heap[b]?=w.heap[b]?):w'.cell? ⟨b,off,none⟩=w.cell? ⟨b,off,none⟩:=by
 simp only[World.cell?,h]
theorem Ext.nil{ro ro':Nat->Prop}{σ σ':Sig}{w w':World}(h:Ext ro σ w ro' σ' w'):Ext ro [] w ro' [] w':=
 ⟨h.sub,h.keep,h.shape,λ_ _ q=>q⟩
mutual
theorem VR.mono{ro ro':Nat->Prop}{w w':World}:∀{a:A} {σ σ':Sig} {v:Value},Ext ro σ w ro' σ' w'->VR ro σ w a v->VR ro' σ' w' a v
 |.any,_,_,_,h,_=>trivial
 |.bool b,_,_,v,h,q=>q
 |.int k n,_,_,v,h,q=>q
 |.str s,_,_,v,h,q=>q
 |.nilp,_,_,v,h,q=>q
 |.ptr i off,_,_,v,h,q=>by
  simp only[VR]at q⊢;obtain⟨b,h1,h2⟩:=q;exact⟨b,h.sig _ _ h1,h2⟩
 |.rp cs,_,_,v,h,q=>by
  simp only[VR]at q⊢;obtain⟨b,off,h1,h2,h3⟩:=q;exact⟨b,off,h1,h.sub _ h2,CR.mono h.nil h2 h3⟩
 |.nils,_,_,v,h,q=>q
 |.rsl k es,_,_,v,h,q=>by
  simp only[VR]at q⊢;obtain⟨a,cap,h1,h2,h3⟩:=q;refine⟨a,cap,h1,h2,?_⟩;rcases h3 with h3|⟨b,off,h4,h5,h6⟩
  .exact .inl h3
  .exact .inr ⟨b,off,h4,h.sub _ h5,RR.mono h.nil h5 h6⟩
 |.osl i o n k,_,_,v,h,q=>by
  simp only[VR]at q⊢;rcases q with q|⟨b,p,cap,t,m,h1,h2,h6,h3,h4,h5⟩
  .exact .inl q
  .exact .inr ⟨b,p,cap,t,m,h.sig _ _ h1,h2,h6,h3,h.shape _ _ h4,h5⟩
 |.agg cs,_,_,v,h,q=>by
  simp only[VR]at q⊢;obtain⟨l,h1,h2⟩:=q;exact⟨l,h1,LR.mono h h2⟩
 |.fn f a c,_,_,v,h,q=>by
  simp only[VR]at q⊢;obtain⟨l,l',h1,h2,h3⟩:=q;exact⟨l,l',h1,LR.mono h h2,LR.mono h h3⟩
 |.nilf,_,_,v,h,q=>q
 |.iface t a,_,_,v,h,q=>by
  simp only[VR]at q⊢;obtain⟨x,h1,h2⟩:=q;exact⟨x,h1,VR.mono h h2⟩
 |.nilif,_,_,v,h,q=>q
 |.map i,_,_,v,h,q=>by
  simp only[VR]at q⊢;obtain⟨b,h1,h2⟩:=q;exact⟨b,h.sig _ _ h1,h2⟩
 |.nilm,_,_,v,h,q=>q
 |.tup vs,_,_,v,h,q=>by
  simp only[VR]at q⊢;obtain⟨l,h1,h2⟩:=q;exact⟨l,h1,LR.mono h h2⟩
theorem CR.mono{ro ro':Nat->Prop}{w w':World}:∀{cs:List A} {σ σ':Sig} {b off:Nat},Ext ro σ w ro' σ' w'->ro b->CR ro σ w b cs off->CR ro' σ' w' b cs off
 |[],_,_,_,_,_,_,_=>trivial
 |a::r,_,_,b,off,h,hb,q=>by
  simp only[CR]at q⊢;obtain⟨⟨v,h1,hp,h2⟩,h3⟩:=q;exact⟨⟨v,by rw[QgS (h.keep _ hb)];exact h1,hp,VR.mono h h2⟩,CR.mono h hb h3⟩
theorem RR.mono{ro ro':Nat->Prop}{w w':World}:∀{es:List (List A)} {σ σ':Sig} {b k off:Nat},Ext ro σ w ro' σ' w'->ro b->RR ro σ w b k es off->RR ro' σ' w' b k es off
 |[],_,_,_,_,_,_,_,_=>trivial
 |cs::r,_,_,b,k,off,h,hb,q=>by
  simp only[RR]at q⊢;obtain⟨h1,h2,h3⟩:=q;exact⟨h1,CR.mono h hb h2,RR.mono h hb h3⟩
theorem LR.mono{ro ro':Nat->Prop}{w w':World}:∀{az:List A} {σ σ':Sig} {l:List Value},Ext ro σ w ro' σ' w'->LR ro σ w az l->LR ro' σ' w' az l
 |[],_,_,_,h,q=>q
 |a::r,_,_,l,h,q=>by
  simp only[LR]at q⊢;obtain⟨v,l',h1,h2,h3⟩:=q;exact⟨v,l',h1,VR.mono h h2,LR.mono h h3⟩
end
structure Ent where
 fl:Bool
 off:Nat
 lo:Int
 hi:Int
def eC(b1 b2:Nat)(e:Ent):List A:=[.ptr (bif e.fl then b2 else b1) e.off,.int .i64 e.lo,.int .i64 e.hi]
inductive Blk where
 |dead
 |cells (t:Nat) (cs:List A)
 |row (t k:Nat) (es:List (List A))
 |rowr (t k:Nat) (es:List (List A))
 |map (es:List (A×A))
 |iter (cur:Option (A×A)) (es:List (A×A))
 |fmap (es:List (A×A))
 |ents (t b1 b2:Nat) (es:List Ent)
 |mapO (fz:Bool) (t k:Nat) (es:List (A×Option (List (List A))))
 |mapP (es:List (A×A))
 |frow (t k:Nat) (es:List (List A))
def Blk.live:Blk->Bool
 |.dead=>false
 |.fmap _=>false
 |.frow _ _ _=>false
 |.mapO fz _ _ _=> !fz
 |_=>true
def Blk.held:Blk->Bool
 |.mapO fz _ _ _=>fz
 |_=>false
def Blk.holds(x:Blk):Bool:=x.live||x.held
theorem Qav{x:Blk}(h:x.live=true):x≠ .dead:=by rintro rfl;cases h
theorem QeI{x:Blk}(h:x.holds=true):x≠ .dead:=by rintro rfl;cases h
theorem QbJ{x:Blk}(h:x.live=true):x.holds=true:=by unfold Blk.holds;rw[h];rfl
abbrev Qd:=List Blk
def ER(ro:Nat->Prop)(σ:Sig)(w:World):List (A×A)->List MapEntry->Prop
 |[],l=>l=[]
 |x::r,l=>∃e l',l=e::l'/\VR ro σ w x.1 e.key/\VR ro σ w x.2 e.val/\ER ro σ w r l'
def ItR(ro:Nat->Prop)(w:World)(b:Nat)(cur:Option (A×A))(es:List (A×A)):Prop:=
 (es=[]/\cur=none/\w.heap[b]?=some (.mapIter none 0 #[] 0))\/
 ∃m l clock seen left,w.heap[b]?=some (.mapIter (some m) clock seen clock)/\ro m/\w.heap[m]?=some (.map l clock)/\(∀e∈l.toList,e.born<clock)/\(l.toList.map (·.born)).Nodup/\
  (left:List MapEntry).Perm (l.toList.filter λe=> !seen.contains e.born)/\ER ro [] w es left/\
  (∀x,cur=some x->∃e∈l.toList,seen.back? =some e.born/\VR ro [] w x.1 e.key/\VR ro [] w x.2 e.val)
def RL(ro:Nat->Prop)(σ:Sig)(w:World)(k:Nat):List (List A)->List Value->Prop
 |[],_=>True
 |c::es,l=>∃l1 l2,l=l1++l2/\c.length=k/\(LR ro σ w c l1/\ ∀v∈l1,Qq v)/\RL ro σ w k es l2
theorem RL.mono{ro ro':Nat->Prop}{σ σ':Sig}{w w':World}(h:Ext ro σ w ro' σ' w'){k:Nat}:∀{es:List (List A)} {l:List Value},RL ro σ w k es l->RL ro' σ' w' k es l
 |[],_,_=>trivial
 |c::es,l,⟨l1,l2,h1,h2,h3,h4⟩=>⟨l1,l2,h1,h2,⟨h3.1.mono h,h3.2⟩,RL.mono h h4⟩
def SO(ro:Nat->Prop)(w:World)(t k:Nat)(rows:List (List A))(v:Value):Prop:=
 (rows=[]/\v=.slice none 0 0)\/ ∃(c p cap:Nat) (vs:List Value),v=.slice (some ⟨c,p,none⟩) rows.length cap/\rows.length<=cap/\w.heap[c]?=some (.cells vs.toArray t (0,0))/\cap*k<=vs.length/\RL ro [] w k rows vs/\(0<cap->p=0)
def MO(ro:Nat->Prop)(w:World)(t k:Nat):List (A×Option (List (List A)))->List MapEntry->Prop
 |[],l=>l=[]
 |x::r,l=>∃e l',l=e::l'/\VR ro [] w x.1 e.key/\(∀rows,x.2=some rows->SO ro w t k rows e.val)/\MO ro w t k r l'
def Qeu:List (A×Option (List (List A)))->List MapEntry->Nat->Prop
 |x::r,e::l,c=>(x.2.isSome=true/\ ∃p n cap,e.val=.slice (some ⟨c,p,none⟩) n cap)\/Qeu r l c
 |_,_,_=>False
def Qkr:List (A×Option (List (List A)))->List MapEntry->Prop
 |x::r,e::l=>(∀c,x.2.isSome=true->(∃p n cap,e.val=.slice (some ⟨c,p,none⟩) n cap)->¬Qeu r l c)/\Qkr r l
 |_,_=>True
def Hid(w:World):Blk->Nat->Nat->Prop
 |.mapO _ _ _ es,b,c=>∃l clock,w.heap[b]?=some (.map l clock)/\Qeu es l.toList c
 |_,_,_=>False
theorem Hid.keep{w w':World}{x:Blk}{b c:Nat}(h:w'.heap[b]?=w.heap[b]?)(q:Hid w' x b c):Hid w x b c:=by
 cases x with
 |mapO fz t k f=>obtain⟨l,e,d,a⟩:=q;exact⟨l,e,by rw[<- h];exact d,a⟩
 |_=>exact q.elim
theorem Hid.holds{w:World}{x:Blk}{b c:Nat}(q:Hid w x b c):x.holds=true:=by
 cases x with
 |mapO fz t k a=>cases fz<;>rfl
 |_=>exact q.elim
theorem MO.mono{ro ro':Nat->Prop}{σ σ':Sig}{w w':World}(h:Ext ro σ w ro' σ' w'){t k:Nat}:∀{es:List (A×Option (List (List A)))} {l:List MapEntry},(∀c,Qeu es l c->w'.heap[c]?=w.heap[c]?)->MO ro w t k es l->MO ro' w' t k es l
 |[],_,_,q=>q
 |x::r,_,hh,⟨e,l',h1,h2,h3,h4⟩=>by
  subst h1;refine⟨e,l',rfl,h2.mono h.nil,λrows hr=>?_,MO.mono h (λc hc=>hh c (.inr hc)) h4⟩;rcases h3 rows hr with q|⟨c,p,cap,vs,q1,q2,q3,q4,q5,q6⟩
  .exact .inl q
  .exact .inr ⟨c,p,cap,vs,q1,q2,by rw[hh c (.inl ⟨by rw[hr];rfl,p,_,_,q1⟩)];exact q3,q4,q5.mono h.nil,q6⟩
theorem MO.cells{ro:Nat->Prop}{w:World}{t k:Nat}:∀{es:List (A×Option (List (List A)))} {l:List MapEntry} {c:Nat},MO ro w t k es l->Qeu es l c->∃vs:Array Value,w.heap[c]?=some (.cells vs t (0,0))
 |[],l,c,h,q=>by cases l<;>exact q.elim
 |x::r,_,c,⟨e,l',h1,h2,h3,h4⟩,q=>by
  subst h1;rcases q with⟨q1,p,n,cap,q2⟩|q
  .obtain⟨rows,hr⟩:=Option.isSome_iff_exists.1 q1;rcases h3 rows hr with⟨_,z⟩|⟨c',p',cap',vs,z1,z2,z3,z4,z5,z6⟩
   .rw[q2]at z;cases z
   .rw[q2]at z1;cases z1;exact⟨_,z3⟩
  .exact MO.cells h4 q
def Born(l:Array MapEntry)(clock:Nat):Prop:=clock=l.size/\ ∀(i:Nat) (e:MapEntry),l.toList[i]?=some e->e.born=i
theorem Born.modify{l:Array MapEntry}{a j:Nat}{f:MapEntry->MapEntry}(h:Born l a)(g:∀e,(f e).born=e.born):Born (l.modify j f) a:=by
 obtain⟨k,d⟩:=h;refine⟨by simp[k],λi m q=>?_⟩;rw[Array.toList_modify,List.getElem?_modify]at q;cases z:l.toList[i]? with
 |none=>rw[z]at q;simp at q
 |some e=>
  rw[z]at q;by_cases b:j=i
  .simp[b]at q;rw[<- q,g];exact d i e z
  .simp[b]at q;rw[<- q];exact d i e z
def BR(ro:Nat->Prop)(σ:Sig)(w:World):Blk->Option Nat->Prop
 |.dead,_=>True
 |.cells t cs,some b=>∃l:List Value,w.heap[b]?=some (.cells l.toArray t (0,0))/\LR ro σ w cs l/\ ∀v∈l,Qq v
 |.row t k es,some b=>∃l:List Value,w.heap[b]?=some (.cells l.toArray t (0,0))/\RL ro [] w k es l
 |.rowr t k es,some b=>∃l:List Value,w.heap[b]?=some (.cells l.toArray t (0,0))/\RL ro σ w k es l
 |.row _ _ es,none=>es=[]
 |.ents t b1 b2 es,some b=>∃l:List Value,w.heap[b]?=some (.cells l.toArray t (0,0))/\RL ro σ w 3 (es.map (eC b1 b2)) l
 |.ents _ _ _ es,none=>es=[]
 |.map es,some b=>∃l clock,w.heap[b]?=some (.map l clock)/\ER ro [] w es l.toList/\
   (∀e∈l.toList,e.born<clock)/\(l.toList.map (·.born)).Nodup/\(l.toList.map (·.key)).Nodup
 |.mapP es,some b=>∃l clock,w.heap[b]?=some (.map l clock)/\ER ro σ w es l.toList/\
   (∀e∈l.toList,e.born<clock)/\(l.toList.map (·.born)).Nodup/\(l.toList.map (·.key)).Nodup
 |.frow t k es,some b=>ro b/\ ∃l:List Value,w.heap[b]?=some (.cells l.toArray t (0,0))/\RL ro [] w k es l/\l.length=es.length*k
 |.iter cur es,some b=>ItR ro w b cur es
 |.mapO fz t k es,some b=>(fz=true->ro b)/\ ∃l clock,w.heap[b]?=some (.map l clock)/\MO ro w t k es l.toList/\Qkr es l.toList/\
   (∀e∈l.toList,e.born<clock)/\(l.toList.map (·.born)).Nodup/\(l.toList.map (·.key)).Nodup/\Born l clock
 |.fmap es,some b=>ro b/\ ∃l clock,w.heap[b]?=some (.map l clock)/\ER ro [] w es l.toList/\
   (∀e∈l.toList,e.born<clock)/\(l.toList.map (·.born)).Nodup/\(l.toList.map (·.key)).Nodup
 |_,none=>False
structure RoOk (ro:Nat->Prop) (w:World):Prop where
 lt:∀b,ro b->b<w.heap.size
 g:∀b,b<nG->ro b
 gp:GP w
theorem RoOk.to{ro ro':Nat->Prop}{w w':World}(h:RoOk ro w)(sub:∀b,ro b->ro' b)(keep:∀b,ro b->w'.heap[b]?=w.heap[b]?)(lt:∀b,ro' b->b<w'.heap.size):RoOk ro' w':=
 ⟨lt,λb hb=>sub b (h.g b hb),h.gp.keep λb hb=>keep b (h.g b hb)⟩
structure QpG (fr ro:Nat->Prop) (σ:Sig) (H:Qd) (w:World) (i0 b0 c:Nat):Prop where
 lt:c<w.heap.size
 ro:¬ro c
 fr:¬fr c
 ne:∀(j b:Nat) (y:Blk),σ[j]?=some (some b)->H[j]?=some y->y.live=true->c≠b
 one:∀(j b:Nat) (y:Blk),σ[j]?=some (some b)->H[j]?=some y->Hid w y b c->b=b0/\j=i0
structure Sim (fr ro:Nat->Prop) (σ:Sig) (H:Qd) (w:World):Prop where
 len:σ.length=H.length
 roOk:RoOk ro w
 frLt:∀b,fr b->b<w.heap.size
 roFr:∀b,ro b->¬fr b
 own:∀(i b:Nat) (blk:Blk),σ[i]?=some (some b)->H[i]?=some blk->blk.live=true->b<w.heap.size/\ ¬ro b/\ ¬fr b
 inj:∀(i j b:Nat) (x y:Blk),σ[i]?=some (some b)->σ[j]?=some (some b)->H[i]?=some x->H[j]?=some y->x.live=true->y.live=true->i=j
 blk:∀(i:Nat) (s:Option Nat) (x:Blk),σ[i]?=some s->H[i]?=some x->BR ro σ w x s
 hid:∀(i b:Nat) (x:Blk) (c:Nat),σ[i]?=some (some b)->H[i]?=some x->Hid w x b c->QpG fr ro σ H w i b c
theorem Sim.roHeld{fr ro:Nat->Prop}{σ:Sig}{H:Qd}{w:World}(s:Sim fr ro σ H w){i b:Nat}{x:Blk}(e:σ[i]?=some (some b))(d:H[i]?=some x)(a:x.held=true):ro b:=by
 have h:=s.blk i _ x e d;cases x with
 |mapO fz t k f=>exact h.1 a
 |_=>cases a
theorem Sim.hidKeep{fr ro:Nat->Prop}{σ:Sig}{H:Qd}{w w':World}(s:Sim fr ro σ H w){i b c:Nat}{x:Blk}(d:σ[i]?=some (some b))(e:H[i]?=some x)
  (hl:x.live=true->w'.heap[b]?=w.heap[b]?)(f:∀b,ro b->w'.heap[b]?=w.heap[b]?)(q:Hid w' x b c):Hid w x b c:=by
 refine q.keep ?_;have h:=q.holds;cases a:x.live with
 |true=>exact hl a
 |false=>unfold Blk.holds at h;rw[a]at h;exact f b (s.roHeld d e h)
theorem Sim.hidTo{fr n ro ro':Nat->Prop}{σ σ':Sig}{H H':Qd}{w w':World}(s:Sim fr ro σ H w)(R:Nat->Nat->Prop)(O:∀j j' a,R j a->R j' a->j=j')(E:w.heap.size<=w'.heap.size)
  (B:∀(i b:Nat) (x:Blk) (c:Nat),σ[i]?=some (some b)->H[i]?=some x->Hid w x b c->ro' c->ro c)
  (F:∀(i b:Nat) (x:Blk) (c:Nat),σ[i]?=some (some b)->H[i]?=some x->Hid w x b c->n c->fr c)
  (h:∀(j d:Nat) (y:Blk),σ'[j]?=some (some d)->H'[j]?=some y->y.holds=true->
   (∃(a:Nat) (l:Blk),R j a/\σ[a]?=some (some d)/\H[a]?=some l/\(y.live=true->l.live=true)/\ ∀c,Hid w' y d c->Hid w l d c)\/(w.heap.size<=d/\ ∀c,Hid w' y d c->False)):
  ∀(i b:Nat) (x:Blk) (c:Nat),σ'[i]?=some (some b)->H'[i]?=some x->Hid w' x b c->QpG n ro' σ' H' w' i b c:=by
 intro i b x c V X p;rcases h i b x V X p.holds with⟨a,l,W,M,u,g3,r⟩|⟨_,g⟩
 .have k:=s.hid a b l c M u (r c p);refine⟨Vj k.lt E,λq=>k.ro (B a b l c M u (r c p) q),λq=>k.fr (F a b l c M u (r c p) q),λj d y G t m=>?_,λj d y G t m=>?_⟩
  .rcases h j d y G t (QbJ m)with⟨L,y1,_,z,J,N,_⟩|⟨f,_⟩
   .exact k.ne L d y1 z J (N m)
   .exact λe=>by have:=k.lt;omega
  .rcases h j d y G t m.holds with⟨L,y1,P,z,J,N,T⟩|⟨_,f⟩
   .obtain⟨Q,Y⟩:=k.one L d y1 z J (T c m);subst Y;exact⟨Q,O _ _ _ P W⟩
   .exact(f c m).elim
 .exact(g c p).elim
theorem QZ(j j' j0:Nat)(h:j=j0)(h':j'=j0):j=j':=h.trans h'.symm
theorem Sim.roLt{fr ro:Nat->Prop}{σ:Sig}{H:Qd}{w:World}(s:Sim fr ro σ H w):∀b,ro b->b<w.heap.size:=s.roOk.lt
structure Qh (fr ro:Nat->Prop) (w:World) (ro':Nat->Prop) (w':World):Prop where
 sub:∀b,ro b->ro' b
 keepRo:∀b,ro b->w'.heap[b]?=w.heap[b]?
 keepFr:∀b,fr b->w'.heap[b]?=w.heap[b]?
 size:w.heap.size<=w'.heap.size
 shape:∀b x,w.shape? b=some x->w'.shape? b=some x
 os:w'.os=w.os
 tape:w'.tape=w.tape
 output:w'.output=w.output
 drawn:w.drawn<=w'.drawn
theorem Qh.refl(fr ro:Nat->Prop)(w:World):Qh fr ro w ro w:=
 ⟨λ_ h=>h,λ_ _=>rfl,λ_ _=>rfl,XX _,λ_ _ h=>h,rfl,rfl,rfl,XX _⟩
theorem Qh.trans{fr ro ro1 ro2:Nat->Prop}{w w1 w2:World}(h:Qh fr ro w ro1 w1)(k:Qh fr ro1 w1 ro2 w2):Qh fr ro w ro2 w2:=
 ⟨λb q=>k.sub _ (h.sub _ q),λb q=>(k.keepRo _ (h.sub _ q)).trans (h.keepRo _ q),λb q=>(k.keepFr _ q).trans (h.keepFr _ q),
  XZ h.size k.size,λb x q=>k.shape _ _ (h.shape _ _ q),k.os.trans h.os,k.tape.trans h.tape,k.output.trans h.output,XZ h.drawn k.drawn⟩
theorem YM{σ τ:Sig}{i b:Nat}(h:σ[i]?=some (some b)):(σ++τ)[i]?=some (some b):=by
 have a:i<σ.length:=by
  rcases VG i σ.length with q|q
  .exact q
  .simp[XS q]at h
 rw[XQ a];exact h
theorem Qh.ext{fr ro ro':Nat->Prop}{w w':World}(h:Qh fr ro w ro' w')(σ τ:Sig):Ext ro σ w ro' (σ++τ) w':=
 ⟨h.sub,h.keepRo,h.shape,λ_ _=>YM⟩
theorem Qh.ext0{fr ro ro':Nat->Prop}{w w':World}(h:Qh fr ro w ro' w')(σ:Sig):Ext ro σ w ro' σ w':=
 ⟨h.sub,h.keepRo,h.shape,λ_ _ q=>q⟩
theorem ER.mono{ro ro':Nat->Prop}{σ σ':Sig}{w w':World}(h:Ext ro σ w ro' σ' w'):∀{es:List (A×A)} {l:List MapEntry},ER ro σ w es l->ER ro' σ' w' es l
 |[],_,q=>q
 |x::r,l,q=>by
  simp only[ER]at q⊢;obtain⟨e,l',h1,h2,h3,h4⟩:=q;exact⟨e,l',h1,h2.mono h,h3.mono h,ER.mono h h4⟩
theorem ItR.keep{ro ro':Nat->Prop}{σ σ':Sig}{w w':World}(h:Ext ro σ w ro' σ' w'){b:Nat}(k:w'.heap[b]?=w.heap[b]?){f:Option (A×A)}{es:List (A×A)}
  (q:ItR ro w b f es):ItR ro' w' b f es:=by
 rcases q with⟨i,g,j⟩|⟨m,l,a,d,left,i,g,j,y,r,t,p,s⟩
 .exact .inl ⟨i,g,by rw[k];exact j⟩
 .refine .inr ⟨m,l,a,d,left,by rw[k];exact i,h.sub _ g,by rw[h.keep _ g];exact j,y,r,t,p.mono h.nil,λx z=>?_⟩;obtain⟨e,n,u,E,B⟩:=s x z;exact⟨e,n,u,E.mono h.nil,B.mono h.nil⟩
theorem CR.keep{ro ro':Nat->Prop}{σ σ':Sig}{w w':World}(h:Ext ro σ w ro' σ' w'){b:Nat}(hb:w'.heap[b]?=w.heap[b]?):
  ∀{cs:List A} {off:Nat},CR ro σ w b cs off->CR ro' σ' w' b cs off
 |[],_,_=>trivial
 |a::r,off,q=>by
  simp only[CR]at q⊢;obtain⟨⟨v,h1,hp,h2⟩,h3⟩:=q;exact⟨⟨v,by rw[QgS hb];exact h1,hp,h2.mono h⟩,CR.keep h hb h3⟩
theorem RR.keep{ro ro':Nat->Prop}{σ σ':Sig}{w w':World}(h:Ext ro σ w ro' σ' w'){b:Nat}(hb:w'.heap[b]?=w.heap[b]?){k:Nat}:
  ∀{es:List (List A)} {off:Nat},RR ro σ w b k es off->RR ro' σ' w' b k es off
 |[],_,_=>trivial
 |cs::r,off,q=>by
  simp only[RR]at q⊢;obtain⟨h1,h2,h3⟩:=q;exact⟨h1,CR.keep h hb h2,RR.keep h hb h3⟩
theorem BR.keep{ro ro':Nat->Prop}{σ σ':Sig}{w w':World}(h:Ext ro σ w ro' σ' w'){x:Blk}{s:Option Nat}
  (i:∀b,s=some b->x.live=true->w'.heap[b]?=w.heap[b]?)(q:BR ro σ w x s)(m:∀b c,s=some b->Hid w x b c->w'.heap[c]?=w.heap[c]?):BR ro' σ' w' x s:=by
 cases x with
 |mapO fz t k j=>
  cases s with
  |none=>exact q
  |some b=>
   obtain⟨g,l,c,a,e,f⟩:=q;refine⟨λz=>h.sub b (g z),l,c,?_,e.mono h (λd n=>m b d rfl ⟨l,c,a,n⟩),f⟩;cases fz with
   |false=>rw[i b rfl rfl];exact a
   |true=>rw[h.keep b (g rfl)];exact a
 |dead=>trivial
 |cells t y=>
  cases s with
  |none=>exact q
  |some b=>
   obtain⟨l,a,e,f⟩:=q;exact⟨l,by rw[i b rfl rfl];exact a,e.mono h,f⟩
 |row t k j=>
  cases s with
  |none=>exact q
  |some b=>
   obtain⟨l,a,e⟩:=q;exact⟨l,by rw[i b rfl rfl];exact a,e.mono h.nil⟩
 |rowr t k j=>
  cases s with
  |none=>exact q.elim
  |some b=>
   obtain⟨l,a,e⟩:=q;exact⟨l,by rw[i b rfl rfl];exact a,e.mono h⟩
 |ents t u r j=>
  cases s with
  |none=>exact q
  |some b=>
   obtain⟨l,a,e⟩:=q;exact⟨l,by rw[i b rfl rfl];exact a,e.mono h⟩
 |map j=>
  cases s with
  |none=>exact q
  |some b=>
   obtain⟨l,c,a,e,f⟩:=q;exact⟨l,c,by rw[i b rfl rfl];exact a,e.mono h.nil,f⟩
 |mapP j=>
  cases s with
  |none=>exact q
  |some b=>
   obtain⟨l,c,a,e,f⟩:=q;exact⟨l,c,by rw[i b rfl rfl];exact a,e.mono h,f⟩
 |frow t k j=>
  cases s with
  |none=>exact q
  |some b=>
   obtain⟨g,l,a,e,f⟩:=q;exact⟨h.sub b g,l,by rw[h.keep b g];exact a,e.mono h.nil,f⟩
 |iter p j=>
  cases s with
  |none=>exact q
  |some b=>exact ItR.keep h (i b rfl rfl) q
 |fmap j=>
  cases s with
  |none=>exact q
  |some b=>
   obtain⟨g,l,c,a,e,f⟩:=q;exact⟨h.sub b g,l,c,by rw[h.keep b g];exact a,e.mono h.nil,f⟩
end Go.Sw
namespace Go.Sw
abbrev Env:=List (Nat×A)
def lk:Env->Nat->A
 |[],_=>.any
 |(d,a)::r,s=>bif Nat.beq s d then a else lk r s
abbrev up(env:Env)(d:Nat)(a:A):Env:=(d,a)::env
inductive AEx where
 |normal|exit (id:Nat)|ret
abbrev QD:=AEx->Env->Qd->Prop
def Qdu(fr:Nat->Prop)(ds:List Deferred)(w:World):Prop:=ds.Nodup/\ ∀d∈ds,∃D,d={target:=.collected D,args:= #[]}/\fr D/\w.heap[D]?=some (.deferred (some []))
theorem Qdu.keep{fr ro ro':Nat->Prop}{b:List Deferred}{w w':World}(h:Qdu fr b w)(k:Qh fr ro w ro' w'):Qdu fr b w':=by
 refine⟨h.1,λd e=>?_⟩;obtain⟨D,g,a,f⟩:=h.2 d e;exact⟨D,g,a,(k.keepFr D a).trans f⟩
structure Grow (fr:Nat->Prop) (w:World) (ds:List Deferred) (fr':Nat->Prop) (ds':List Deferred):Prop where
 sub:∀b,fr b->fr' b
 new:∀b,fr' b->fr b\/w.heap.size<=b
 ds:∀d∈ds',d∈ds\/ ∃D,d={target:=.collected D,args:= #[]}/\w.heap.size<=D
theorem Grow.refl(fr:Nat->Prop)(w:World)(ds:List Deferred):Grow fr w ds fr ds:=⟨λ_ h=>h,λ_ h=>.inl h,λ_ h=>.inl h⟩
theorem Grow.trans{fr a f:Nat->Prop}{w w1:World}{ds e g:List Deferred}(h:Grow fr w ds a e)(i:w.heap.size<=w1.heap.size)(k:Grow a w1 e f g):Grow fr w ds f g:=by
 refine⟨λb q=>k.sub b (h.sub b q),λb q=>?_,λd q=>?_⟩
 .rcases k.new b q with q|q
  .exact h.new b q
  .exact .inr (XZ i q)
 .rcases k.ds d q with q|⟨D,j,l⟩
  .exact h.ds d q
  .exact .inr ⟨D,j,XZ i l⟩
theorem Qh.frMono{fr fr' ro ro':Nat->Prop}{w w':World}(h:Qh fr' ro w ro' w')(s:∀b,fr b->fr' b):Qh fr ro w ro' w':=
 ⟨h.sub,h.keepRo,λb q=>h.keepFr b (s b q),h.size,h.shape,h.os,h.tape,h.output,h.drawn⟩
theorem Sim.frMono{fr fr' ro:Nat->Prop}{σ:Sig}{H:Qd}{w:World}(h:Sim fr' ro σ H w)(s:∀b,fr b->fr' b):Sim fr ro σ H w:=
 ⟨h.len,h.roOk,λb q=>h.frLt b (s b q),λb q r=>h.roFr b q (s b r),λi b x q1 q2 q3=>let⟨a,b',c⟩:=h.own i b x q1 q2 q3;⟨a,b',λq=>c (s b q)⟩,h.inj,h.blk,λi b x c q1 q2 q3=>let k:=h.hid i b x c q1 q2 q3;⟨k.lt,k.ro,λq=>k.fr (s c q),k.ne,k.one⟩⟩
structure Rel (fr ro:Nat->Prop) (σ:Sig) (H:Qd) (env:Env) (N:Nat) (a:Act) (w:World):Prop where
 sim:Sim fr ro σ H w
 env:∀s,VR ro σ w (lk env s) (a.tmps.getD s undef)
 size:a.tmps.size=N
 defers:Qdu fr a.defers w
def Qet(rd:Option Nat)(fr:Nat->Prop)(w:World):Prop:=∀l,rd=some l->fr l/\ ∃r,w.heap[l]?=some (.loop r)
theorem Qet.none{fr:Nat->Prop}{w:World}:Qet none fr w:=λl e=>by cases e
theorem Qet.to{rd:Option Nat}{fr fr' ro ro':Nat->Prop}{w w':World}(h:Qet rd fr w)(k:Qh fr ro w ro' w')(s:∀b,fr b->fr' b):Qet rd fr' w':=λl e=>by
 obtain⟨h1,r,h2⟩:=h l e;exact⟨s l h1,r,(k.keepFr l h1).trans h2⟩
def ExR:Exit->AEx->Prop
 |.normal,x=>x=.normal
 |.exit id,x=>x=.exit id
 |.ret,x=>x=.ret
 |_,_=>False
def QaQ(h0:Nat)(fr ro:Nat->Prop)(σ:Sig)(w:World)(N:Nat)(ds:List Deferred)(Q:QD):Exit->Act->World->Prop:=
 λe a' w'=>∃x env' H' ro' σ' fr',ExR e x/\Q x env' H'/\Rel fr' ro' σ' H' env' N a' w'/\Qh fr ro w ro' w'/\σ'.take h0=σ.take h0/\Grow fr w ds fr' a'.defers
theorem QaQ.grow{h0:Nat}{fr d ro a:Nat->Prop}{σ σ1:Sig}{w w1:World}{N:Nat}{j b:List Deferred}{Q:QD}{e:Exit}{a':Act}{w':World}
  (h:QaQ h0 d a σ1 w1 N b Q e a' w')(he:Qh fr ro w a w1)(q:σ1.take h0=σ.take h0)(hg:Grow fr w j d b):QaQ h0 fr ro σ w N j Q e a' w':=by
 obtain⟨x,f,H',i,σ',g,p,n,r,m,k,l⟩:=h;exact⟨x,f,H',i,σ',g,p,n,r,he.trans (m.frMono hg.sub),k.trans q,hg.trans he.size l⟩
theorem QaQ.step{h0:Nat}{fr ro ro1:Nat->Prop}{σ σ1:Sig}{w w1:World}{N:Nat}{ds:List Deferred}{Q:QD}{e:Exit}{a':Act}{w':World}
  (h:QaQ h0 fr ro1 σ1 w1 N ds Q e a' w')(he:Qh fr ro w ro1 w1)(hs:σ1.take h0=σ.take h0):QaQ h0 fr ro σ w N ds Q e a' w':=h.grow he hs (Grow.refl _ _ _)
theorem QaQ.mono{h0:Nat}{fr ro:Nat->Prop}{σ:Sig}{w:World}{N:Nat}{f:List Deferred}{Q Q':QD}{e:Exit}{a':Act}{w':World}
  (h:QaQ h0 fr ro σ w N f Q e a' w')(g:∀x env H,Q x env H->Q' x env H):QaQ h0 fr ro σ w N f Q' e a' w':=by
 obtain⟨x,a,H',d,σ',b,j,i,k⟩:=h;exact⟨x,a,H',d,σ',b,j,g _ _ _ i,k⟩
def Qb7(h0:Nat)(fr ro:Nat->Prop)(σ:Sig)(w:World)(N:Nat)(ds:List Deferred)(Q:QD):Exit->Act->World->Prop:=
 λe a' w'=>∃x env' H' ro' σ' fr',ExR e x/\Q x env' H'/\Rel fr' ro' σ' H' env' N a' w'/\Qh fr ro w ro' w'/\σ'.take h0=σ.take h0/\a'.defers=ds/\Grow fr w ds fr' ds
theorem Qb7.grow{h0:Nat}{fr b ro a:Nat->Prop}{σ σ1:Sig}{w w1:World}{N:Nat}{f:List Deferred}{Q:QD}{e:Exit}{a':Act}{w':World}
  (h:Qb7 h0 b a σ1 w1 N f Q e a' w')(he:Qh fr ro w a w1)(q:σ1.take h0=σ.take h0)(hg:Grow fr w f b f):Qb7 h0 fr ro σ w N f Q e a' w':=by
 obtain⟨x,d,H',i,σ',g,p,n,r,m,k,l,j⟩:=h;exact⟨x,d,H',i,σ',g,p,n,r,he.trans (m.frMono hg.sub),k.trans q,l,hg.trans he.size j⟩
theorem Qb7.step{h0:Nat}{fr ro ro1:Nat->Prop}{σ σ1:Sig}{w w1:World}{N:Nat}{ds:List Deferred}{Q:QD}{e:Exit}{a':Act}{w':World}
  (h:Qb7 h0 fr ro1 σ1 w1 N ds Q e a' w')(he:Qh fr ro w ro1 w1)(hs:σ1.take h0=σ.take h0):Qb7 h0 fr ro σ w N ds Q e a' w':=h.grow he hs (Grow.refl _ _ _)
theorem Qb7.mono{h0:Nat}{fr ro:Nat->Prop}{σ:Sig}{w:World}{N:Nat}{f:List Deferred}{Q Q':QD}{e:Exit}{a':Act}{w':World}
  (h:Qb7 h0 fr ro σ w N f Q e a' w')(g:∀x env H,Q x env H->Q' x env H):Qb7 h0 fr ro σ w N f Q' e a' w':=by
 obtain⟨x,a,H',d,σ',b,j,i,k⟩:=h;exact⟨x,a,H',d,σ',b,j,g _ _ _ i,k⟩
theorem Qb7.postW{h0:Nat}{fr ro:Nat->Prop}{σ:Sig}{w:World}{N:Nat}{f:List Deferred}{Q:QD}{e:Exit}{a':Act}{w':World}
  (h:Qb7 h0 fr ro σ w N f Q e a' w'):QaQ h0 fr ro σ w N f Q e a' w':=by
 obtain⟨x,a,H',d,σ',b,m,l,n,k,i,j,g⟩:=h;exact⟨x,a,H',d,σ',b,m,l,n,k,i,by rw[j];exact g⟩
def WF(rd:Option Nat):Fence:={Fence.wide with round:=rd}
theorem WF.calls{rd:Option Nat}{P:Program}{f:FuncId}{args:Array Value}{w:World}{R:Ending->World->Prop}:CallsIn (WF rd) 0 P f args w R↔Calls P f args w R:=callsIn_wide
abbrev wpL(P:Program)(rd:Option Nat)(ops:Array Oper)(Q:Exit->Act->World->Prop):List Oper->Act->World->Prop:=wpListIn (WF rd) 0 P ops Q
def TC(P:Program)(h0 N:Nat)(c:Code)(env:Env)(H:Qd)(Q:QD):Prop:=
 ∀rd fr ro σ a w,Rel fr ro σ H env N a w->Qet rd fr w->c.wpIn (WF rd) 0 P (QaQ h0 fr ro σ w N a.defers Q) a w
def WO(P:Program)(h0 N:Nat)(all:Array Oper)(l:List Oper)(env:Env)(H:Qd)(Q:QD):Prop:=
 ∀rd fr ro σ a w,Rel fr ro σ H env N a w->Qet rd fr w->wpL P rd all (Qb7 h0 fr ro σ w N a.defers Q) l a w
def Le(h0:Nat)(env:Env)(H:Qd)(env':Env)(H':Qd):Prop:=
 ∀fr ro σ N a w,Rel fr ro σ H env N a w->∃ro' σ',Rel fr ro' σ' H' env' N a w/\(∀b,ro b->ro' b)/\σ'.take h0=σ.take h0
theorem Le.refl(h0:Nat)(env:Env)(H:Qd):Le h0 env H env H:=λfr ro σ N a w h=>⟨ro,σ,h,λ_ q=>q,rfl⟩
theorem Le.trans{h0:Nat}{j f i:Env}{H1 H2 H3:Qd}(h:Le h0 j H1 f H2)(k:Le h0 f H2 i H3):Le h0 j H1 i H3:=by
 intro g l σ N a w r;obtain⟨d,σ1,p,s,m⟩:=h g l σ N a w r;obtain⟨e,σ2,u,n,t⟩:=k g d σ1 N a w p;exact⟨e,σ2,u,λb q=>n _ (s _ q),t.trans m⟩
theorem YV{fr ro ro':Nat->Prop}{w:World}(h:∀b,ro b->ro' b):Qh fr ro w ro' w:=
 ⟨h,λ_ _=>rfl,λ_ _=>rfl,XX _,λ_ _ h=>h,rfl,rfl,rfl,XX _⟩
theorem Yk{P:Program}{rd:Option Nat}{ops:Array Oper}{Q Q':Exit->Act->World->Prop}(hq:∀e a w,Q e a w->Q' e a w):
  ∀(l:List Oper) (a:Act) (w:World),wpL P rd ops Q l a w->wpL P rd ops Q' l a w
 |[],a,w,h=>hq _ _ _ h
 |o::l,a,w,h=>by
  unfold wpL wpListIn at h⊢;split
  .rename_i hw;rw[Vx hw]at h;obtain⟨h1,h2⟩:=h;refine⟨h1,?_⟩
   revert h2
   generalize(o.semAt (WF rd).round a.eval).run P w=r;intro h2;have hk:=λa w=>Yk (P:=P) (rd:=rd) (ops:=ops) hq l a w;cases r with
   |ok x w=>
    cases x with
    |value v=>exact hk _ _ h2
    |skip=>exact hk _ _ h2
    |defer d=>exact hk _ _ h2
    |enter f args=>
     refine⟨h2.1,CallsIn.mono h2.2 ?_⟩;intro e w' q;cases e with
     |returned v=>exact hk _ _ q
     |panicked c=>exact hq _ _ _ q
     |outgrown=>obtain⟨a,w,q⟩:=q;exact⟨a,w,hq _ _ _ q⟩
    |row r args=>exact⟨h2.1,RowsIn.mono h2.2 λv w' q=>hk _ _ q⟩
    |round l f tmps assign body=>
     refine⟨h2.1,RoundIn.mono h2.2 ?_⟩;intro e w' q;cases e with
     |returned v=>exact hk _ _ q
     |panicked c=>exact hq _ _ _ q
     |outgrown=>obtain⟨a,w,q⟩:=q;exact⟨a,w,hq _ _ _ q⟩
    |_=>exact h2
   |halt x w=>
    cases x with
    |panic v=>exact hq _ _ _ h2
    |_=>exact h2
  .rename_i hw;rw[Vw hw]at h;exact⟨h.1,Yk hq l _ _ h.2⟩
theorem QcV{P:Program}{o:Oper}{a:Act}{w w':World}{x:Next}{rd:Option Nat}(h:(execOp a.eval o).run P w=.ok x w')(b:∀d,x≠ .defer d):(o.semAt (WF rd).round a.eval).run P w=.ok x w':=by
 cases e:o.op with
 |defer c=>
  exfalso;have:execOp a.eval o=(do pure (.defer (<- resolve a.eval c o.type))):=by simp[execOp,e]
  rw[this]at h;simp only[Vr]at h;generalize(resolve a.eval c o.type).run P w=r at h;cases r with
  |ok d w2=>simp[Result.andThen,go_sem]at h;exact b _ h.1.symm
  |halt x w2=>simp[Result.andThen]at h
 |_=>rw[Oper.semAt_eq _ _ _ (by rw[e];intro c q;cases q)];exact h
theorem Qab{P:Program}{rd:Option Nat}{ops:Array Oper}{Q:Exit->Act->World->Prop}{o:Oper}{l:List Oper}{a:Act}{w w':World}{v:Value}(b:Region.wanted o (yielded ops a.tmps)=true)
  (h:(execOp a.eval o).run P w=.ok (.value v) w')(k:wpL P rd ops Q l (a.put o.dst v) w'):wpL P rd ops Q (o::l) a w:=by
 unfold wpL wpListIn;rw[Vx b];exact⟨λ_ _=>trivial,by rw[QcV h (λd e=>by cases e)];exact k⟩
theorem Qh2{P:Program}{rd:Option Nat}{ops:Array Oper}{Q:Exit->Act->World->Prop}{o:Oper}{l:List Oper}{a:Act}{w w':World}(b:Region.wanted o (yielded ops a.tmps)=true)
  (h:(execOp a.eval o).run P w=.ok .skip w')(k:wpL P rd ops Q l (a.put o.dst undef) w'):wpL P rd ops Q (o::l) a w:=by
 unfold wpL wpListIn;rw[Vx b];exact⟨λ_ _=>trivial,by rw[QcV h (λd e=>by cases e)];exact k⟩
theorem Qdx{P:Program}{rd:Option Nat}{ops:Array Oper}{Q:Exit->Act->World->Prop}{o:Oper}{l:List Oper}{a:Act}{w w':World}{f:FuncId}{args:Array Value}(b:Region.wanted o (yielded ops a.tmps)=true)
  (h:(execOp a.eval o).run P w=.ok (.enter f args) w')(k:Calls P f args w' λe w''=>∃v,e=.returned v/\wpL P rd ops Q l (a.put o.dst v) w''):wpL P rd ops Q (o::l) a w:=by
 unfold wpL wpListIn;rw[Vx b];refine⟨λ_ _=>trivial,?_⟩;rw[QcV h (λd e=>by cases e)];refine⟨λh=>by simp[WF,Fence.wide]at h,WF.calls.2 (Calls.mono k ?_)⟩;rintro e w'' ⟨v,rfl,q⟩;exact q
section
variable {P:Program} {h0 N:Nat} {env env':Env} {H H':Qd} {Q Q':QD} {c c':Code}
theorem TC.mono(h:TC P h0 N c env H Q)(hq:∀x env H,Q x env H->Q' x env H):TC P h0 N c env H Q':=
 λrd fr ro σ a w r hrd=>Code.wpIn_mono (λe a w q=>q.mono hq) (h rd fr ro σ a w r hrd)
theorem TC.le(b:Le h0 env H env' H')(h:TC P h0 N c env' H' Q):TC P h0 N c env H Q:=by
 intro i f g σ a w r hrd;obtain⟨d,σ',j,s,t⟩:=b f g σ N a w r;exact Code.wpIn_mono (λe a w q=>q.step (YV s) t) (h i f d σ' a w j hrd)
theorem WO.le{all:Array Oper}{l:List Oper}(b:Le h0 env H env' H')(h:WO P h0 N all l env' H' Q):WO P h0 N all l env H Q:=by
 intro i f g σ a w r hrd;obtain⟨d,σ',j,s,t⟩:=b f g σ N a w r;exact Yk (λe a w q=>q.step (YV s) t) _ _ _ (h i f d σ' a w j hrd)
theorem WO.mono{all:Array Oper}{l:List Oper}(h:WO P h0 N all l env H Q)(hq:∀x env H,Q x env H->Q' x env H):WO P h0 N all l env H Q':=
 λrd fr ro σ a w r hrd=>Yk (λe a w q=>q.mono hq) _ _ _ (h rd fr ro σ a w r hrd)
def Seq(P:Program)(h0 N:Nat)(c:Code)(Q:QD):QD
 |.normal,env,H=>TC P h0 N c env H Q
 |.exit id,env,H=>Q (.exit id) env H
 |.ret,env,H=>Q .ret env H
def Blo(id:Nat)(Q:QD):QD
 |.normal,env,H=>Q .normal env H
 |.exit id',env,H=>bif Nat.beq id' id then Q .normal env H else Q (.exit id') env H
 |.ret,env,H=>Q .ret env H
theorem TC.seq(h:TC P h0 N c env H (Seq P h0 N c' Q)):TC P h0 N (.seq c c') env H Q:=by
 intro n u p σ a w r hrd;refine wpIn_seq (Code.wpIn_mono ?_ (h n u p σ a w r hrd));rintro e t s ⟨x,b,H',f,σ',d,j,l,m,i,k,g⟩;cases e with
 |normal=>
  obtain rfl:x=.normal:=j;exact Code.wpIn_mono (λe a w q=>q.grow i k g) (l n d f σ' t s m (hrd.to i g.sub))
 |exit id=>
  obtain rfl:x=.exit id:=j;exact⟨_,b,H',f,σ',d,rfl,l,m,i,k,g⟩
 |ret=>
  obtain rfl:x=.ret:=j;exact⟨_,b,H',f,σ',d,rfl,l,m,i,k,g⟩
 |_=>exact j.elim
theorem TC.skip(h:Q .normal env H):TC P h0 N .skip env H Q:=
 λrd fr ro σ a w r hrd=>wpIn_skip ⟨_,env,H,ro,σ,fr,rfl,h,r,Qh.refl _ _ _,rfl,Grow.refl _ _ _⟩
theorem TC.ret(h:Q .ret env H):TC P h0 N .ret env H Q:=
 λrd fr ro σ a w r hrd=>wpIn_ret ⟨_,env,H,ro,σ,fr,rfl,h,r,Qh.refl _ _ _,rfl,Grow.refl _ _ _⟩
theorem TC.exit{id:Nat}(h:Q (.exit id) env H):TC P h0 N (.exit id) env H Q:=
 λrd fr ro σ a w r hrd=>wpIn_exit ⟨_,env,H,ro,σ,fr,rfl,h,r,Qh.refl _ _ _,rfl,Grow.refl _ _ _⟩
theorem TC.block{id:Nat}(h:TC P h0 N c env H (Blo id Q)):TC P h0 N (.block id c) env H Q:=by
 intro s t p σ a w r hrd;refine wpIn_block (Code.wpIn_mono ?_ (h s t p σ a w r hrd));rintro e y u ⟨x,b,H',f,σ',d,m,g,n,l,j,k⟩;cases e with
 |normal=>
  obtain rfl:x=.normal:=m;exact⟨_,b,H',f,σ',d,rfl,g,n,l,j,k⟩
 |exit i=>
  obtain rfl:x=.exit i:=m;simp only[Exit.inBlock];simp only[Blo]at g;by_cases e:i=id
  .subst e;rw[Vx rfl];rw[VJ]at g;exact⟨_,b,H',f,σ',d,rfl,g,n,l,j,k⟩
  .rw[Vw e];have:Nat.beq i id=false:=by
    rw[VQ];intro q;exact e (XU q)
   rw[this]at g;exact⟨_,b,H',f,σ',d,rfl,g,n,l,j,k⟩
 |ret=>
  obtain rfl:x=.ret:=m;exact⟨_,b,H',f,σ',d,rfl,g,n,l,j,k⟩
 |_=>exact m.elim
def opA(env:Env):Operand->A
 |.tmp t=>lk env t
 |.const (.bool b)=>.bool b
 |.const (.int k n)=>.int k n
 |.const (.string s)=>.str s.data.toList
 |.const (.pointer none)=>.nilp
 |.const (.slice none 0 0)=>.nils
 |.const (.map none)=>.nilm
 |.const .nilFunc=>.nilf
 |.const .nilIface=>.nilif
 |.func f=>.fn (.func f) [] []
 |_=>.any
theorem Qg{fr ro:Nat->Prop}{σ:Sig}{a:Act}{w:World}(r:Rel fr ro σ H env N a w)(x:Operand):VR ro σ w (opA env x) (a.eval x):=by
 cases x with
 |tmp t=>exact r.env t
 |const v=>
  cases v with
  |slice a n k=>
   cases a with
   |none=>
    cases n with
    |zero=>cases k with
     |zero=>rfl
     |succ k=>trivial
    |succ n=>trivial
   |some a=>trivial
  |pointer p=>cases p with
   |none=>rfl
   |some p=>trivial
  |map p=>cases p with
   |none=>rfl
   |some p=>trivial
  |string s=>simp[opA,VR,Act.eval]
  |_=>first|trivial|rfl|simp[opA,VR,Act.eval]
 |global g=>trivial
 |func f=>exact⟨[],[],rfl,rfl,rfl⟩
theorem TC.cond{x:Operand}{t:Bool}(j:opA env x=.bool t)(h:t=true->TC P h0 N c env H Q)(i:t=false->TC P h0 N c' env H Q):
  TC P h0 N (.cond x c c') env H Q:=by
 intro d g b σ a w r hrd;have f:=Qg r x;rw[j]at f;exact wpIn_cond_split f (λe=>h e d g b σ a w r hrd) (λe=>i e d g b σ a w r hrd)
theorem Qix{t:Array Value}{d s:Nat}{v:Value}(a:d<t.size):(t.setIfInBounds d v).getD s undef=if s=d then v else t.getD s undef:=by
 simp only[Array.getD_eq_getD_getElem?,Vi];by_cases e:s=d
 .subst e;simp[a]
 .rw[Vw (λq=>e q.symm),Vw e]
theorem VR.up{fr ro:Nat->Prop}{σ:Sig}{a:Act}{w:World}(r:∀s,VR ro σ w (lk env s) (a.tmps.getD s undef)){d:Nat}(b:d<a.tmps.size){x:A}{v:Value}(f:VR ro σ w x v):
  ∀s,VR ro σ w (lk (up env d x) s) ((a.tmps.setIfInBounds d v).getD s undef):=by
 intro s;rw[Qix b];simp only[up,lk];by_cases e:s=d
 .subst e;rw[VJ,Vx rfl];exact f
 .have:Nat.beq s d=false:=by
   rw[VQ];intro q;exact e (XU q)
  rw[this,Vw e];exact r s
def Qp(all:Array Oper)(o:Oper)(env:Env)(b:Bool):Prop:=
 match o.guard with
 |none=>b=true
 |some (j,c)=>∃d,(all[j]?).bind (·.dst)=some d/\((∃x,lk env d=.bool x/\b=(x==c))\/(lk env d=.tup []/\b=false))
theorem YI{all:Array Oper}{o:Oper}{b:Bool}(h:Qp all o env b){fr ro:Nat->Prop}{σ:Sig}{a:Act}{w:World}(r:Rel fr ro σ H env N a w):
  Region.wanted o (yielded all a.tmps)=b:=by
 unfold Qp at h;unfold Region.wanted;cases n:o.guard with
 |none=>rw[n]at h;exact h.symm
 |some g=>
  obtain⟨j,c⟩:=g;rw[n]at h;obtain⟨d,m,⟨x,i,k⟩|⟨i,k⟩⟩:=h
  .have f:=r.env d;rw[i]at f;simp only[VR]at f;have p:a.tmps[d]?=some (.bool x):=by
    rw[Array.getD_eq_getD_getElem?]at f;cases e:a.tmps[d]? with
    |none=>rw[e]at f;simp[undef]at f
    |some y=>rw[e]at f;simp at f;rw[f]
   simp only[yielded,m,XN,p,k];cases x<;>cases c<;>rfl
  .have f:=r.env d;rw[i]at f;obtain⟨l,f,q⟩:=f;rw[Array.getD_eq_getD_getElem?]at f;subst k;simp only[yielded,m,XN];cases e:a.tmps[d]? with
   |none=>cases c<;>rfl
   |some y=>rw[e]at f;simp at f;subst f;cases c<;>rfl
def OpV(P:Program)(o:Oper)(env:Env)(H:Qd)(x:A):Prop:=
 ∀fr ro σ N a w,Rel fr ro σ H env N a w->∃v,(execOp a.eval o).run P w=.ok (.value v) w/\VR ro σ w x v
def OpH(P:Program)(o:Oper)(env:Env)(H:Qd)(x:A)(H':Qd):Prop:=
 ∀fr ro σ N a w,Rel fr ro σ H env N a w->∃v w' ro' τ,(execOp a.eval o).run P w=.ok (.value v) w'/\VR ro' (σ++τ) w' x v/\
  Sim fr ro' (σ++τ) H' w'/\Qh fr ro w ro' w'
def OpU(P:Program)(o:Oper)(env:Env)(H:Qd)(H':Qd):Prop:=
 ∀fr ro σ N a w,Rel fr ro σ H env N a w->∃w' ro' τ,(execOp a.eval o).run P w=.ok .skip w'/\
  Sim fr ro' (σ++τ) H' w'/\Qh fr ro w ro' w'
theorem WO.nil{all:Array Oper}(h:Q .normal env H):WO P h0 N all [] env H Q:=
 λrd fr ro σ a w r hrd=>⟨_,env,H,ro,σ,fr,rfl,h,r,Qh.refl _ _ _,rfl,rfl,Grow.refl _ _ _⟩
theorem Qt{σ τ:Sig}{h0:Nat}(h:h0<=σ.length):(σ++τ).take h0=σ.take h0:=by
 rw[Vb h]
theorem Y6{all:Array Oper}{o:Oper}{l:List Oper}{d:Nat}{x:A}(n:h0<=H.length)(hg:Qp all o env true)(y:o.dst=some d)(t:Nat.blt d N=true)
  (g:OpH P o env H x H')(k:WO P h0 N all l (up env d x) H' Q):WO P h0 N all (o::l) env H Q:=by
 intro u fr j σ a w r hrd;obtain⟨v,i,b,τ,p,m,B,f⟩:=g fr j σ N a w r;refine Qab (YI hg r) p ?_;simp only[y,Act.put];have h:d<N:=by simpa using t
 have z:Rel fr b (σ++τ) H' (up env d x) N {a with tmps:=a.tmps.setIfInBounds d v} i:=
  ⟨B,VR.up (fr:=fr) (λs=>(r.env s).mono (f.ext σ τ)) (by rw[r.size];exact h) m,by simpa using r.size,r.defers.keep f⟩
 refine Yk (λe a w q=>q.step f (Qt ?_)) _ _ _ (k u fr b (σ++τ) _ i z (hrd.to f λ_ q=>q));rw[r.sim.len];exact n
theorem QH{all:Array Oper}{o:Oper}{l:List Oper}{d:Nat}{x:A}(hg:Qp all o env true)(m:o.dst=some d)(i:Nat.blt d N=true)
  (b:OpV P o env H x)(k:WO P h0 N all l (up env d x) H Q):WO P h0 N all (o::l) env H Q:=by
 intro j fr f σ a w r hrd;obtain⟨v,h,g⟩:=b fr f σ N a w r;refine Qab (YI hg r) h ?_;simp only[m,Act.put];have e:d<N:=by simpa using i
 exact k j fr f σ {a with tmps:=a.tmps.setIfInBounds d v} w ⟨r.sim,VR.up (fr:=fr) r.env (by rw[r.size];exact e) g,by simpa using r.size,r.defers⟩ hrd
theorem QbA{all:Array Oper}{o:Oper}{l:List Oper}(j:h0<=H.length)(hg:Qp all o env true)(p:o.dst=none)
  (f:OpU P o env H H')(k:WO P h0 N all l env H' Q):WO P h0 N all (o::l) env H Q:=by
 intro n g i σ a w r hrd;obtain⟨h,b,τ,m,u,d⟩:=f g i σ N a w r;refine Qh2 (YI hg r) m ?_;simp only[p,Act.put];have t:Rel g b (σ++τ) H' env N a h:=⟨u,λs=>(r.env s).mono (d.ext σ τ),r.size,r.defers.keep d⟩;refine Yk (λe a w q=>q.step d (Qt ?_)) _ _ _ (k n g b (σ++τ) _ h t (hrd.to d λ_ q=>q));rw[r.sim.len];exact j
theorem QqF{all:Array Oper}{o:Oper}{l:List Oper}{x:A}(j:h0<=H.length)(hg:Qp all o env true)(p:o.dst=none)
  (f:OpH P o env H x H')(k:WO P h0 N all l env H' Q):WO P h0 N all (o::l) env H Q:=by
 intro n g i σ a w r hrd;obtain⟨v,h,b,τ,m,y,u,d⟩:=f g i σ N a w r;refine Qab (YI hg r) m ?_;simp only[p,Act.put];have t:Rel g b (σ++τ) H' env N a h:=⟨u,λs=>(r.env s).mono (d.ext σ τ),r.size,r.defers.keep d⟩;refine Yk (λe a w q=>q.step d (Qt ?_)) _ _ _ (k n g b (σ++τ) _ h t (hrd.to d λ_ q=>q));rw[r.sim.len];exact j
theorem WO.skip{all:Array Oper}{o:Oper}{l:List Oper}{d:Nat}(hg:Qp all o env false)(g:o.dst=some d)(h:Nat.blt d N=true)
  (k:WO P h0 N all l (up env d (.tup [])) H Q):WO P h0 N all (o::l) env H Q:=by
 intro f fr e σ a w r hrd;unfold wpL wpListIn;rw[YI hg r,Vw (by simp)];refine⟨λ_ _=>trivial,?_⟩;simp only[g,Act.put];have b:d<N:=by simpa using h
 exact k f fr e σ {a with tmps:=a.tmps.setIfInBounds d undef} w ⟨r.sim,VR.up (fr:=fr) r.env (by rw[r.size];exact b) ⟨[],rfl,rfl⟩,by simpa using r.size,r.defers⟩ hrd
theorem TC.region{id:Nat}{l:List Oper}(h:WO P h0 N l.toArray l env H Q):TC P h0 N (.region id l.toArray false) env H Q:=
 λrd fr ro σ a w r hrd=>Code.wpIn_mono (λe a w q=>q.postW) (wpIn_region_lit (h rd fr ro σ a w r hrd))
end
end Go.Sw
namespace Go.Sw
mutual
def YF(ρ:Nat->Nat):A->A
 |.ptr i off=>.ptr (ρ i) off
 |.osl i o n k=>.osl (ρ i) o n k
 |.agg cs=>.agg (Qaa ρ cs)
 |.fn f a c=>.fn f (Qaa ρ a) (Qaa ρ c)
 |.iface t v=>.iface t (YF ρ v)
 |.map i=>.map (ρ i)
 |.tup vs=>.tup (Qaa ρ vs)
 |a=>a
def Qaa(ρ:Nat->Nat):List A->List A
 |[]=>[]
 |a::r=>YF ρ a::Qaa ρ r
end
def Qhg(ρ:Nat->Nat):List (List A)->List (List A)
 |[]=>[]
 |a::r=>Qaa ρ a::Qhg ρ r
def QjC(ρ:Nat->Nat):List (A×A)->List (A×A)
 |[]=>[]
 |a::r=>(YF ρ a.1,YF ρ a.2)::QjC ρ r
def QW(ρ:Nat->Nat):Blk->Blk
 |.cells t cs=>.cells t (Qaa ρ cs)
 |.rowr t k es=>.rowr t k (Qhg ρ es)
 |.ents t b1 b2 es=>.ents t (ρ b1) (ρ b2) es
 |.mapP es=>.mapP (QjC ρ es)
 |b=>b
theorem Qgn(ρ:Nat->Nat)(b1 b2:Nat):∀(es:List Ent),Qhg ρ (es.map (eC b1 b2))=es.map (eC (ρ b1) (ρ b2))
 |[]=>rfl
 |e::es=>by
  have:=Qgn ρ b1 b2 es;simp only[Vn,Qhg,this];congr 1;cases h:e.fl<;>simp[eC,Qaa,YF,h]
theorem QO(ρ:Nat->Nat)(x:Blk):(QW ρ x).live=x.live:=by cases x<;>rfl
theorem Qam(ρ:Nat->Nat)(x:Blk)(w:World)(b c:Nat):Hid w (QW ρ x) b c↔Hid w x b c:=by cases x<;>exact Iff.rfl
section
variable {ro:Nat->Prop} {σ σ':Sig} {w:World} {ρ:Nat->Nat} (h:∀i:Nat,σ[ρ i]?=σ'[i]?)
include h
mutual
theorem QdR:∀{a:A} {v:Value},VR ro σ w (YF ρ a) v↔VR ro σ' w a v
 |.any,_=>by simp only[YF,VR]
 |.bool b,v=>by simp only[YF,VR]
 |.int k n,v=>by simp only[YF,VR]
 |.str s,v=>by simp only[YF,VR]
 |.nilp,v=>by simp only[YF,VR]
 |.ptr i off,v=>by simp only[YF,VR,h]
 |.rp cs,v=>by simp only[YF,VR]
 |.nils,v=>by simp only[YF,VR]
 |.rsl k es,v=>by simp only[YF,VR]
 |.osl i o n k,v=>by simp only[YF,VR,h]
 |.agg cs,v=>by simp only[YF,VR];exact exists_congr λl=>and_congr_right λ_=>QbF
 |.fn f a c,v=>by simp only[YF,VR];exact exists_congr λl=>exists_congr λl'=>and_congr_right λ_=>and_congr QbF QbF
 |.nilf,v=>by simp only[YF,VR]
 |.iface t a,v=>by simp only[YF,VR];exact exists_congr λl=>and_congr_right λ_=>QdR
 |.nilif,v=>by simp only[YF,VR]
 |.map i,v=>by simp only[YF,VR,h]
 |.nilm,v=>by simp only[YF,VR]
 |.tup vs,v=>by simp only[YF,VR];exact exists_congr λl=>and_congr_right λ_=>QbF
theorem QbF:∀{az:List A} {l:List Value},LR ro σ w (Qaa ρ az) l↔LR ro σ' w az l
 |[],l=>by simp only[Qaa,LR]
 |a::r,l=>by
  simp only[Qaa,LR];exact exists_congr λv=>exists_congr λl'=>and_congr_right λ_=>and_congr QdR QbF
end
theorem Qd5:∀(cs:List A),(Qaa ρ cs).length=cs.length
 |[]=>rfl
 |a::r=>by simp[Qaa,Qd5 r]
theorem Qkh{k:Nat}:∀{es:List (List A)} {l:List Value},RL ro σ w k (Qhg ρ es) l↔RL ro σ' w k es l
 |[],l=>by simp only[Qhg,RL]
 |a::r,l=>by
  simp only[Qhg,RL,Qd5 h];exact exists_congr λl1=>exists_congr λl2=>and_congr_right λ_=>and_congr_right λ_=>and_congr (and_congr_left λ_=>QbF h) Qkh
theorem Qon:∀{es:List (A×A)} {l:List MapEntry},ER ro σ w (QjC ρ es) l↔ER ro σ' w es l
 |[],l=>by simp only[QjC,ER]
 |a::r,l=>by
  simp only[QjC,ER];exact exists_congr λe=>exists_congr λl'=>and_congr_right λ_=>and_congr (QdR h) (and_congr (QdR h) Qon)
theorem Qh0{x:Blk}{s:Option Nat}:BR ro σ w (QW ρ x) s↔BR ro σ' w x s:=by
 cases x with
 |cells t f=>
  cases s with
  |none=>exact Iff.rfl
  |some b=>simp only[QW,BR];exact exists_congr λl=>and_congr_right λ_=>and_congr_left λ_=>QbF h
 |rowr t k a=>
  cases s with
  |none=>exact Iff.rfl
  |some b=>simp only[QW,BR];exact exists_congr λl=>and_congr_right λ_=>Qkh h
 |mapP a=>
  cases s with
  |none=>exact Iff.rfl
  |some b=>simp only[QW,BR];exact exists_congr λl=>exists_congr λc=>and_congr_right λ_=>and_congr_left λ_=>Qon h
 |ents t d e a=>
  cases s with
  |none=>exact Iff.rfl
  |some b=>
   simp only[QW,BR];refine exists_congr λl=>and_congr_right λ_=>?_;rw[<- Qgn];exact Qkh h
 |_=>cases s<;>exact Iff.rfl
end
def C(P:Program)(f:FuncId)(args:List A)(H:Qd)(Q:A->Qd->Prop):Prop:=
 ∀fr ro σ vals w,Sim fr ro σ H w->LR ro σ w args vals->Calls P f vals.toArray w λe w'=>
  ∃v r H' ro' τ,e=.returned v/\Q r H'/\Sim fr ro' (σ++τ) H' w'/\VR ro' (σ++τ) w' r v/\Qh fr ro w ro' w'
theorem C.mono{P:Program}{f:FuncId}{args:List A}{H:Qd}{Q Q':A->Qd->Prop}(h:C P f args H Q)(hq:∀r H,Q r H->Q' r H):C P f args H Q':=
 λfr ro σ vals w s l=>(h fr ro σ vals w s l).mono λe w' ⟨v,r,H',ro',τ,h1,h2,h3⟩=>⟨v,r,H',ro',τ,h1,hq _ _ h2,h3⟩
def QgO:Nat->List A->Env
 |_,[]=>[]
 |i,a::r=>(i,a)::QgO (i+1) r
theorem Qfc{ro:Nat->Prop}{σ:Sig}{w:World}:∀{args:List A} {vals:List Value} {i:Nat} (pre:List Value),pre.length=i->LR ro σ w args vals->∀rest:Array Value,
  ∀s,VR ro σ w (lk (QgO i args) s) (((pre++vals).toArray++rest).getD s undef)
 |[],vals,i,pre,hp,hl,rest,s=>trivial
 |a::r,vals,i,pre,hp,hl,rest,s=>by
  simp only[LR]at hl;obtain⟨v,l',rfl,h1,h2⟩:=hl;simp only[QgO,lk];by_cases e:s=i
  .subst e;rw[VJ];have:((pre++v::l').toArray++rest).getD s undef=v:=by
    subst hp;simp[Array.getD_eq_getD_getElem?,Array.getElem?_append]
   rw[this];exact h1
  .have:Nat.beq s i=false:=by
    rw[VQ];intro q;exact e (XU q)
   rw[this];have:=Qfc (i:=i+1) (pre++[v]) (by simp[hp]) h2 rest s;simpa using this
def Qcy(P:Program)(fn:Func)(env:Env)(H:Qd)(r:A):Prop:=
 ∀fr ro σ N a w,Rel fr ro σ H env N a w->∃v,(results fn a.tmps).run P w=.ok v w/\VR ro σ w r v
def Qdp(P:Program)(h0:Nat)(fn:Func)(Q:A->Qd->Prop):QD
 |.normal,env,H=>∃env' H' r,Le h0 env H env' H'/\Qcy P fn env' H' r/\Q r H'
 |.ret,env,H=>∃env' H' r,Le h0 env H env' H'/\Qcy P fn env' H' r/\Q r H'
 |.exit _,_,_=>False
theorem LR.length{ro:Nat->Prop}{σ:Sig}{w:World}:∀{az:List A} {l:List Value},LR ro σ w az l->l.length=az.length
 |[],l,h=>by simp only[LR]at h;simp[h]
 |a::r,l,h=>by
  simp only[LR]at h;obtain⟨v,l',rfl,_,h2⟩:=h;simp[h2.length]
theorem Sim.turn{fr ro:Nat->Prop}{σ:Sig}{H:Qd}{w:World}(s:Sim fr ro σ H w){b:Nat}{obj:Obj}(t:¬ro b)(m:¬fr b)(u:∀(i:Nat) (x:Blk),σ[i]?=some (some b)->H[i]?=some x->x.live=true->False)
  (h:∀(i d:Nat) (x:Blk),σ[i]?=some (some d)->H[i]?=some x->Hid w x d b->False)
  (p:∀y,w.shape? b=some y->(w.putObj b obj).shape? b=some y):Sim fr ro σ H (w.putObj b obj)/\Qh fr ro w ro (w.putObj b obj):=by
 have a:∀c,c≠b->(w.putObj b obj).heap[c]?=w.heap[c]? :=λc L=>World.putObj_heap_other L;have f:(w.putObj b obj).heap.size=w.heap.size:=by simp
 have ev:Qh fr ro w ro (w.putObj b obj):=by
  refine⟨λ_ q=>q,λc q=>a c (λe=>t (e▸q)),λc q=>a c (λe=>m (e▸q)),by rw[f];exact XX _,λc x q=>?_,rfl,rfl,rfl,XX _⟩;by_cases e:c=b
  .subst e;exact p x q
  .unfold World.shape? at q⊢;rw[a c e];exact q
 have k:Ext ro σ w ro σ (w.putObj b obj):=by have:=ev.ext σ [];simpa using this
 refine⟨⟨s.len,s.roOk.to (λ_ q=>q) ev.keepRo (λc q=>by rw[f];exact s.roLt c q),λc q=>by rw[f];exact s.frLt c q,s.roFr,λi c x g l E=>?_,s.inj,λi y x g l=>?_,
  s.hidTo (· = ·) QZ (by rw[f];exact XX _) (λ_ _ _ _ _ _ _ q=>q) (λ_ _ _ _ _ _ _ q=>q) λj d y r n M=>.inl ⟨j,y,rfl,r,n,id,λc q=>s.hidKeep r n (λz=>a d (λe=>u j y (e▸r) n z)) ev.keepRo q⟩⟩,ev⟩
 .obtain⟨J,F,B⟩:=s.own i c x g l E;exact⟨by rw[f];exact J,F,B⟩
 .refine(s.blk i y x g l).keep k ?_ ?_
  .rintro c rfl G;exact a c (λe=>u i x (e▸g) l G)
  .rintro d c rfl q;exact a c (λe=>h i d x g l (e▸q))
theorem Qbs{P:Program}{fn:Func}{tmps:Array Value}{R:Ending->World->Prop}{fr ro:Nat->Prop}{σ:Sig}{H:Qd}:
  ∀(ds:List Deferred) (w:World),ds.Nodup->(∀d∈ds,∃D,d={target:=.collected D,args:= #[]}/\ ¬ro D/\ ¬fr D/\(∀(i:Nat) (x:Blk),σ[i]?=some (some D)->H[i]?=some x->x.live=true->False)/\(∀(i d:Nat) (x:Blk),σ[i]?=some (some d)->H[i]?=some x->Hid w x d D->False)/\w.heap[D]?=some (.deferred (some [])))->
  Sim fr ro σ H w->(∀w',Sim fr ro σ H w'->Qh fr ro w ro w'->∃v,(results fn tmps).run P w'=.ok v w'/\R (.returned v) w')->LeavesInM Fence.wide 0 P fn tmps R ds .returning w
 |[],w,_,_,s,hk=>by
  obtain⟨v,h1,h2⟩:=hk w s (Qh.refl _ _ _);exact⟨v,h1,h2⟩
 |d::ds,w,hn,hd,s,hk=>by
  obtain⟨D,rfl,h1,h2,h3,h5,h4⟩:=hd d (by simp);obtain⟨n1,n2⟩:=List.nodup_cons.1 hn;obtain⟨s',ev⟩:=s.turn (obj:=.deferred none) h1 h2 h3 h5 (λy q=>by unfold World.shape? at q;rw[h4]at q;simp at q);refine⟨(by intro e;cases e),.inl ⟨D,_,rfl,run_takeDeferred h4,?_⟩⟩;refine Qbs ds _ n2 (λd' q=>?_) s' (λw' q1 q2=>hk w' q1 (ev.trans q2));obtain⟨D',rfl,g1,g2,g3,g5,g4⟩:=hd d' (by simp[q]);refine⟨D',rfl,g1,g2,g3,λi d x z1 z2 z3=>g5 i d x z1 z2 (s.hidKeep z1 z2 (λz=>World.putObj_heap_other (λe:d=D=>h3 i x (e▸z1) z2 z)) (λb q=>World.putObj_heap_other (λe:b=D=>h1 (e▸q))) z3),(World.putObj_heap_other (λe=>?_)).trans g4⟩;subst e;exact n1 q
theorem Qb{P:Program}{f:FuncId}{fn:Func}{c:Code}{N:Nat}{args:List A}{H:Qd}{Q:A->Qd->Prop}
  (hf:P.funcs[f]?=some fn)(hb:fn.body=some c)(hN:fn.ntmps=N)(hA:Nat.ble args.length N=true)
  (h:TC P H.length N c (QgO 0 args) H (Qdp P H.length fn Q)):C P f args H Q:=by
 intro fr ro σ vals w hs hl;have u:=hl.length;have aa:args.length<=N:=by simpa using hA
 refine(callsIn_wide (n:=0)).1 (callsIn_of_wp_marks hf hb trivial (Code.wpIn_mono ?_ (h none fr ro σ _ w ⟨hs,?_,?_,List.nodup_nil,λd k=>by cases k⟩ Qet.none)))
 .rintro e y j ⟨x,m,H1,G,σ1,E,z,M,h3,h4,Y,V⟩;have t:(∃g H' r,Le H.length m H1 g H'/\Qcy P fn g H' r/\Q r H')->LeavesInM Fence.wide 0 P fn y.tmps (λe j=>
    ∃v' r H' a τ,e=.returned v'/\Q r H'/\Sim fr a (σ++τ) H' j/\VR a (σ++τ) j r v'/\Qh fr ro w a j) y.defers .returning j:=by
   rintro⟨g,H',r,B,hr,hq⟩;obtain⟨a,σ',b,l,ht⟩:=B E G σ1 N y j h3;have hσ:σ'=σ++σ'.drop H.length:=by
    have F:σ'.take H.length=σ:=by rw[ht,Y,VM (by rw[hs.len];exact XX _)]
    conv=>lhs;rw[<- XC H.length σ',F]
   have s1:Sim fr a σ' H' j:=b.sim.frMono V.sub;refine Qbs (ro:=a) (fr:=fr) (σ:=σ') (H:=H') y.defers j b.defers.1 (λd k=>?_) s1 (λw2 W p=>?_)
   .obtain⟨D,rfl,R,g2⟩:=b.defers.2 d k;refine⟨D,rfl,λq=>b.sim.roFr D q R,λq=>?_,λi x J T L=>(b.sim.own i D x J T L).2.2 R,λi d x J T L=>(b.sim.hid i d x D J T L).fr R,g2⟩;rcases V.ds _ k with X|⟨D',e,X⟩
    .cases X
    .have:D=D':=by simpa using e
     subst this;have:=hs.frLt D q;omega
   .have O:Rel fr a σ' H' g N {y with defers:=[]} w2:=⟨W,λs=>(b.env s).mono (by have:=p.ext σ' [];simpa using this),b.size,List.nodup_nil,λd k=>by cases k⟩;obtain⟨v,F,e2⟩:=hr fr a σ' N _ w2 O;exact⟨v,F,v,r,H',a,σ'.drop H.length,rfl,hq,hσ▸W,hσ▸e2,(h4.trans (YV l)).trans p⟩
  cases e with
  |normal=>
   obtain rfl:x=.normal:=z;exact t M
  |ret=>
   obtain rfl:x=.ret:=z;exact t M
  |exit id=>
   obtain rfl:x=.exit id:=z;exact M.elim
  |_=>exact z.elim
 .intro s;have:=Qfc (i:=0) [] rfl hl (Array.replicate (fn.ntmps-vals.toArray.size) undef) s;simpa using this
 .simp[hN,u];omega
section
variable {P:Program} {fn:Func} {env:Env} {H:Qd}
theorem Qcy.nil(h:fn.results= #[]):Qcy P fn env H (.tup []):=
 λfr ro σ N a w r=>⟨.tuple #[],by simp[results,h,go_sem],[],rfl,rfl⟩
theorem Qcy.one{t:Nat}{x:A}(h:fn.results= #[.tmp t])(hx:lk env t=x):Qcy P fn env H x:=
 λfr ro σ N a w r=>⟨a.tmps.getD t undef,by simp[results,h,go_sem],hx▸r.env t⟩
theorem Ql1{t u:Nat}{x y:A}(h:fn.results= #[.tmp t,.tmp u])(hx:lk env t=x)(hy:lk env u=y):Qcy P fn env H (.tup [x,y]):=
 λfr ro σ N a w r=>⟨.tuple #[a.tmps.getD t undef,a.tmps.getD u undef],by simp[results,h,go_sem],
  [_,_],rfl,_,_,rfl,hx▸r.env t,_,_,rfl,hy▸r.env u,rfl⟩
theorem Qjd{t u v:Nat}{x y z:A}(h:fn.results= #[.tmp t,.tmp u,.tmp v])(hx:lk env t=x)(hy:lk env u=y)(hz:lk env v=z):
  Qcy P fn env H (.tup [x,y,z]):=
 λfr ro σ N a w r=>⟨.tuple #[a.tmps.getD t undef,a.tmps.getD u undef,a.tmps.getD v undef],by simp[results,h,go_sem],
  [_,_,_],rfl,_,_,rfl,hx▸r.env t,_,_,rfl,hy▸r.env u,_,_,rfl,hz▸r.env v,rfl⟩
end
inductive Ctl (S B:Type) where
 |cont (s:S)
 |done (b:B)
 deriving DecidableEq
def iter{S B:Type}(step:S->Option (Ctl S B)):Nat->S->Option B
 |0,_=>none
 |n+1,s=>match step s with
  |some (.cont s')=>iter step n s'
  |some (.done b)=>some b
  |none=>none
def Qbn{S B:Type}(I:S->Env->Qd->Prop)(d:Ctl S B)(Q:QD):QD
 |.normal,env,H=>∃s,d=.cont s/\I s env H
 |.exit id,env,H=>(∃b,d=.done b)/\Q (.exit id) env H
 |.ret,env,H=>(∃b,d=.done b)/\Q .ret env H
theorem Qjb{P:Program}{h0 N:Nat}{c:Code}{S B:Type}{step:S->Option (Ctl S B)}{I:S->Env->Qd->Prop}{Q:QD}{F:B}
  (body:∀s d env H,I s env H->step s=some d->(∀b,d=.done b->b=F)->TC P h0 N c env H (Qbn I d Q))
  {m:Nat}{s0:S}(h:iter step m s0=some F){env:Env}{H:Qd}(M:I s0 env H):TC P h0 N (.loop c) env H Q:=by
 intro V p z σ a w r hrd b k cs hro hb hr;have L:∀m s env H fr1 ro1 σ1 a1 w1,iter step m s=some F->I s env H->Rel fr1 ro1 σ1 H env N a1 w1->Qh p z w ro1 w1->σ1.take h0=σ.take h0->Grow p w a.defers fr1 a1.defers->
   ∃e j i,QaQ h0 p z σ w N a.defers Q e j i/\ArrivesIn (Machine.fenced P (WF V)) P (lone (b.atR a1 (.code c::.inLoop c::k)) cs w1) b k cs e j i:=by
  intro m
  induction m with
  |zero=>intro s env H fr1 ro1 σ1 a1 w1 hit;simp[iter]at hit
  |succ m ih=>
   intro s env H fr1 ro1 σ1 a1 w1 hit M r1 ev1 t1 g1;simp only[iter]at hit;cases J:step s with
   |none=>rw[J]at hit;simp at hit
   |some d=>
    rw[J]at hit;have hd:∀b,d=.done b->b=F:=by
     rintro b rfl;simpa using hit
    obtain⟨e,j,i,O,f⟩:=body s d env H M J hd V fr1 ro1 σ1 a1 w1 r1 (hrd.to ev1 g1.sub) b (.inLoop c::k) cs hro hb hr;obtain⟨x,g,H',y,σ',n,E,u,W,Y,T,q6⟩:=O;have t:=ev1.trans (Y.frMono g1.sub);have R:=g1.trans ev1.size q6;have X:∀x,Q x g H'->ExR e x->QaQ h0 p z σ w N a.defers Q e j i:=λx q q'=>⟨x,g,H',y,σ',n,q',q,W,t,T.trans t1,R⟩;cases e with
    |normal=>
     obtain rfl:x=.normal:=E;obtain⟨s',rfl,u⟩:=u;obtain⟨e2,a2,w2,G,l⟩:=ih s' g H' n y σ' j i hit u W t (T.trans t1) R;exact⟨e2,a2,w2,G,.of_steps (StepsIn.trans f (.one (fenced_calm hb hr rfl) stepR_inLoop)) l⟩
    |exit id=>
     obtain rfl:x=.exit id:=E;exact⟨_,j,i,X _ u.2 rfl,.pass (x:=.inLoop c) rfl (λ_ _=>.inl (by simp)) f⟩
    |ret=>
     obtain rfl:x=.ret:=E;exact⟨_,j,i,X _ u.2 rfl,.pass (x:=.inLoop c) rfl (λ_ _=>.inl (by simp)) f⟩
    |_=>exact E.elim
 obtain⟨e,j,i,O,f⟩:=L m s0 env H p z σ a w h M r (Qh.refl _ _ _) rfl (Grow.refl _ _ _);exact⟨e,j,i,O,.of_steps (.one (fenced_calm hb hr rfl) stepR_loop) f⟩
theorem TC.loop{P:Program}{h0 N:Nat}{c:Code}{S B:Type}{step:S->Option (Ctl S B)}(E:S->Env)(Hp:S->Qd){Q:QD}
  {m:Nat}{s0:S}{b0:B}(h:iter step m s0=some b0){env:Env}{H:Qd}(hI:Le h0 env H (E s0) (Hp s0))
  (body:∀s d,step s=some d->(∀b,d=.done b->b=b0)->TC P h0 N c (E s) (Hp s) (Qbn (λs env H=>Le h0 env H (E s) (Hp s)) d Q)):TC P h0 N (.loop c) env H Q:=
 Qjb (I:=λs env H=>Le h0 env H (E s) (Hp s)) (λs d env H hI hs hd=>TC.le hI (body s d hs hd)) h hI
end Go.Sw
namespace Go.Sw
def rho(π:List Nat)(n i:Nat):Nat:=
 match π[i]? with
 |some p=>p
 |none=>n+(i-π.length)
def Ys:Qd->List Nat->List Blk->Qd
 |H,[],xs=>H++xs
 |H,p::π,x::xs=>Ys (H.set p x) π xs
 |H,_::_,[]=>H
theorem Qcq:∀(π:List Nat) (H:Qd) (xs:List Blk),π.length<=xs.length->(Ys H π xs).length=H.length+(xs.length-π.length)
 |[],H,xs,_=>by simp[Ys]
 |p::π,H,[],h=>by simp at h
 |p::π,H,x::xs,h=>by
  simp only[X5]at h;simp only[Ys,Qcq π (H.set p x) xs (by omega),X8,X5];omega
theorem QcA:∀(π:List Nat) (H:Qd) (xs:List Blk) (i:Nat),i<H.length->i∉π->(Ys H π xs)[i]?=H[i]?
 |[],H,xs,i,hi,_=>by simp[Ys,XQ hi]
 |p::π,H,[],i,hi,h=>by simp[Ys]
 |p::π,H,x::xs,i,hi,h=>by
  simp only[Va,not_or]at h;simp only[Ys];rw[QcA π (H.set p x) xs i (by simpa using hi) h.2,XT (λe=>h.1 e.symm)]
theorem QeQ:∀(π:List Nat) (H:Qd) (xs:List Blk) (j:Nat),π.length<=xs.length->(∀p∈π,p<H.length)->π.Nodup->
  (Ys H π xs)[rho π H.length j]?=xs[j]?
 |[],H,xs,j,_,_,_=>by
  simp only[Ys,rho,List.getElem?_nil,List.length_nil,Xx];rw[XR (by omega)];congr 1;omega
 |p::π,H,[],j,h,_,_=>by simp at h
 |p::π,H,x::xs,j,h,hp,hn=>by
  simp only[X5]at h;have hn':=List.nodup_cons.1 hn;simp only[Ys];cases j with
  |zero=>
   simp only[rho,XI];rw[QcA π _ xs p (by simpa using hp p (by simp)) hn'.1];rw[Xa (hp p (by simp))]
  |succ j=>
   have ih:=QeQ π (H.set p x) xs j (by omega) (λq hq=>by simpa using hp q (by simp[hq])) hn'.2;rw[X8]at ih;have e:rho (p::π) H.length (j+1)=rho π H.length j:=by
    simp only[rho,XJ,X5];cases π[j]? with
    |none=>simp only[];congr 1;omega
    |some q=>rfl
   rw[e,ih];simp
theorem Qlo(π:List Nat)(n i:Nat)(hi:n<=i\/i∈π):∃j,i=rho π n j:=by
 rcases hi with hi|hi
 .refine⟨π.length+(i-n),?_⟩;have:π[π.length+(i-n)]?=none:=XS (by omega);simp only[rho,this];omega
 .obtain⟨j,a,rfl⟩:=List.mem_iff_getElem.1 hi;exact⟨j,by simp[rho,XO a]⟩
def Yh(σ:Sig)(π:List Nat):Sig:=π.map λp=>(σ[p]?).getD none
theorem Qev{σ τ:Sig}{π:List Nat}{n:Nat}(b:σ.length=n)(a:∀p∈π,p<n)(j:Nat):(σ++τ)[rho π n j]?=(Yh σ π++τ)[j]? :=by
 rcases VG j π.length with h|h
 .have f:π[j]∈π:=Vh h;have d:=a _ f;have e:rho π n j=π[j]:=by simp[rho,XO h]
  rw[e,XQ (by omega),XQ (by simpa[Yh]using h)];simp[Yh,XO h,XO (show π[j]<σ.length by omega)]
 .have e:rho π n j=n+(j-π.length):=by
   simp[rho,XS h]
  rw[e,XR (by omega),XR (by simpa[Yh]using h)];simp[Yh,b]
def OpC(P:Program)(o:Oper)(env:Env)(H:Qd)(f:FuncId)(args:List A):Prop:=
 ∀fr ro σ N a w,Rel fr ro σ H env N a w->∃vals:List Value,(execOp a.eval o).run P w=.ok (.enter f vals.toArray) w/\LR ro σ w args vals
theorem Jk{π:List Nat}{H:Qd}{Hc:List Blk}(hH:π.map (λp=>H[p]?)=Hc.map some){p:Nat}(b:p∈π):p<H.length:=by
 have:H[p]? ∈π.map (λp=>H[p]?):=VK b;rw[hH]at this;obtain⟨x,_,a⟩:=Xe.1 this;rcases VG p H.length with h|h
 .exact h
 .rw[XS h]at a;simp at a
theorem WO.call{P:Program}{h0 N:Nat}{all:Array Oper}{o:Oper}{l:List Oper}{env:Env}{H:Qd}{Q:QD}{d:Option Nat}{f:FuncId}
  {args aa:List A}{Hc:Qd}{Qr:A->Qd->Prop}(π:List Nat)(hh:h0<=H.length)(hg:Qp all o env true)(hd:o.dst=d)(hN:∀x,d=some x->x<N)
  (ar:OpC P o env H f args)(hargs:args=Qaa (rho π H.length) aa)(hH:π.map (λp=>H[p]?)=(Hc.map (QW (rho π H.length))).map some)(hπ:π.Nodup)
  (hC:C P f aa Hc Qr)
  (k:∀r H1,Qr r H1->WO P h0 N all l (match d with|some d=>up env d (YF (rho π H.length) r)|none=>env) (Ys H π (H1.map (QW (rho π H.length)))) Q):
  WO P h0 N all (o::l) env H Q:=by
 intro rd fr ro σ a w r hrd;obtain⟨ai,h1,h2⟩:=ar fr ro σ N a w r;refine Qdx (YI hg r) h1 ?_;have hp:∀p∈π,p<H.length:=λp q=>Jk hH q;have hσl:=r.sim.len;have ab:∀(j p:Nat),π[j]?=some p->H[p]?=(Hc[j]?).map (QW (rho π H.length)):=by
  intro j p M;have:=congrArg (λl=>l[j]?) hH;simp only[Xq,M,Xj]at this;cases e:Hc[j]? with
  |none=>rw[e]at this;simp at this
  |some x=>rw[e]at this;simpa using this
 have am:π.length=Hc.length:=by simpa using congrArg List.length hH
 have hσc:∀j:Nat,σ[rho π H.length j]?=(Yh σ π)[j]? :=by
  intro j;have:=Qev (τ:=[]) hσl hp j;simpa using this
 let frc:Nat->Prop:=λb=>fr b\/(∃i x,σ[i]?=some (some b)/\H[i]?=some x/\x.live=true/\i∉π)\/ ∃i x d,σ[i]?=some (some d)/\H[i]?=some x/\Hid w x d b/\i∉π
 have hπj:∀(j b:Nat),(Yh σ π)[j]?=some (some b)->∃p,π[j]?=some p/\σ[p]?=some (some b):=by
  intro j b M;simp only[Yh,Xq]at M;cases e:π[j]? with
  |none=>rw[e]at M;simp at M
  |some p=>
   rw[e]at M;simp at M;refine⟨p,rfl,?_⟩;cases e2:σ[p]? with
   |none=>rw[e2]at M;simp at M
   |some s=>rw[e2]at M;simp at M;rw[M]
 have hπi:∀(i j p:Nat),π[i]?=some p->π[j]?=some p->i=j:=by
  intro i j p T R;have hi:i<π.length:=by
   rcases VG i π.length with q|q
   .exact q
   .rw[XS q]at T;simp at T
  have M:j<π.length:=by
   rcases VG j π.length with q|q
   .exact q
   .rw[XS q]at R;simp at R
  rw[XO hi]at T;rw[XO M]at R;have ae:=(X4 T).trans (X4 R).symm;rcases Nat.lt_trichotomy i j with q|q|q
  .exact(VI.1 hπ i j hi M q ae).elim
  .exact q
  .exact(VI.1 hπ j i M hi q ae.symm).elim
 have al:Sim frc ro (Yh σ π) Hc w:=by
  refine⟨by simp[Yh,am],r.sim.roOk,?_,?_,?_,?_,?_,?_⟩
  .rintro b (hb|⟨i,x,h,g,m,J⟩|⟨i,x,d,h,g,m,J⟩)
   .exact r.sim.frLt b hb
   .exact(r.sim.own i b x h g m).1
   .exact(r.sim.hid i d x b h g m).lt
  .rintro b hb (hf|⟨i,x,h,g,m,J⟩|⟨i,x,d,h,g,m,J⟩)
   .exact r.sim.roFr b hb hf
   .exact(r.sim.own i b x h g m).2.1 hb
   .exact(r.sim.hid i d x b h g m).ro hb
  .intro j b x h g m;obtain⟨p,T,e2⟩:=hπj j b h;have e3:H[p]?=some (QW (rho π H.length) x):=by rw[ab j p T,g];rfl
   obtain⟨o1,o2,o3⟩:=r.sim.own p b _ e2 e3 (by rw[QO];exact m);refine⟨o1,o2,?_⟩;rintro(hf|⟨i,y,y1,y2,y3,y4⟩|⟨i,y,d,y1,y2,y3,y4⟩)
   .exact o3 hf
   .have:=r.sim.inj i p b _ _ y1 e2 y2 e3 y3 (by rw[QO];exact m);subst this;exact y4 (VL T)
   .exact(r.sim.hid i d y b y1 y2 y3).ne p b _ e2 e3 (by rw[QO];exact m) rfl
  .intro i j b x y h g m J X q6;obtain⟨p,T,e2⟩:=hπj i b h;obtain⟨p',R,an⟩:=hπj j b g;have e3:H[p]?=some (QW (rho π H.length) x):=by rw[ab i p T,m];rfl
   have av:H[p']?=some (QW (rho π H.length) y):=by rw[ab j p' R,J];rfl
   have:=r.sim.inj p p' b _ _ e2 an e3 av (by rw[QO];exact X) (by rw[QO];exact q6);subst this;have hi:i<π.length:=by
    rcases VG i π.length with q|q
    .exact q
    .rw[XS q]at T;simp at T
   have M:j<π.length:=by
    rcases VG j π.length with q|q
    .exact q
    .rw[XS q]at R;simp at R
   rw[XO hi]at T;rw[XO M]at R;have ae:=(X4 T).trans (X4 R).symm;rcases Nat.lt_trichotomy i j with q|q|q
   .exact(VI.1 hπ i j hi M q ae).elim
   .exact q
   .exact(VI.1 hπ j i M hi q ae.symm).elim
  .intro j s x h g;have M:j<π.length:=by
    rcases VG j π.length with q|q
    .exact q
    .rw[XS (by simpa[Yh]using q)]at h;simp at h
   have T:π[j]?=some π[j]:=XO M;have e3:H[π[j]]?=some (QW (rho π H.length) x):=by rw[ab j _ T,g];rfl
   have e2:σ[π[j]]?=some s:=by
    have:=hσc j;rw[h]at this;simpa[rho,T]using this
   exact(Qh0 hσc).1 (r.sim.blk _ s _ e2 e3)
  .intro j b x c h g m;obtain⟨p,T,e2⟩:=hπj j b h;have e3:H[p]?=some (QW (rho π H.length) x):=by rw[ab j p T,g];rfl
   have k:=r.sim.hid p b _ c e2 e3 ((Qam _ _ _ _ _).2 m);refine⟨k.lt,k.ro,?_,?_,?_⟩
   .rintro(hf|⟨i,y,y1,y2,y3,y4⟩|⟨i,y,d,y1,y2,y3,y4⟩)
    .exact k.fr hf
    .exact k.ne i c y y1 y2 y3 rfl
    .obtain⟨rfl,rfl⟩:=k.one i d y y1 y2 y3;exact y4 (VL T)
   .intro O b' y L n Y;obtain⟨p',f1,f2⟩:=hπj O b' L;exact k.ne p' b' _ f2 (show H[p']?=some (QW (rho π H.length) y)by rw[ab O p' f1,n];rfl) (by rw[QO];exact Y)
   .intro O b' y L n Y;obtain⟨p',f1,f2⟩:=hπj O b' L;obtain⟨z4,z5⟩:=k.one p' b' _ f2 (show H[p']?=some (QW (rho π H.length) y)by rw[ab O p' f1,n];rfl) ((Qam _ _ _ _ _).2 Y);subst z5;exact⟨z4,hπi O j p' f1 T⟩
 have ah:LR ro (Yh σ π) w aa ai:=(QbF hσc).1 (hargs▸h2);refine Calls.mono (hC frc ro (Yh σ π) ai w al ah) ?_;rintro e w' ⟨v,rr,H1,ac,τ,rfl,hq,sc,hv,ev⟩;have hσ':∀j:Nat,(σ++τ)[rho π H.length j]?=(Yh σ π++τ)[j]? :=λj=>Qev hσl hp j;have aq:H1.length=π.length+τ.length:=by rw[<- sc.len];simp[Yh]
 have ak:π.length<=(H1.map (QW (rho π H.length))).length:=by simp;omega
 have V:Qh fr ro w ac w':=⟨ev.sub,ev.keepRo,λb q=>ev.keepFr b (.inl q),ev.size,ev.shape,ev.os,ev.tape,ev.output,ev.drawn⟩;have F:∀j,(Ys H π (H1.map (QW (rho π H.length))))[rho π H.length j]?=(H1[j]?).map (QW (rho π H.length)):=by
  intro j;rw[QeQ π H _ j ak hp hπ];simp
 have B:∀i,i<H.length->i∉π->(Ys H π (H1.map (QW (rho π H.length))))[i]?=H[i]? :=λi=>QcA π H _ i;have t:∀i:Nat,(∃j,i=rho π H.length j)\/(i<H.length/\i∉π):=by
  intro i;by_cases q:H.length<=i\/i∈π
  .exact .inl (Qlo π H.length i q)
  .simp only[not_or]at q;exact .inr ⟨by omega,q.2⟩
 have G:∀i b x,i<H.length->i∉π->σ[i]?=some (some b)->H[i]?=some x->x.live=true->frc b:=λi b x h g m J X=>.inr (.inl ⟨i,x,m,J,X,g⟩);have af:∀i b x c,i<H.length->i∉π->σ[i]?=some (some b)->H[i]?=some x->Hid w' x b c->Hid w x b c/\frc c:=λi b x c h g m J X=>
  have q6:=r.sim.hidKeep m J (λz=>ev.keepFr b (G i b x h g m J z)) ev.keepRo X
  ⟨q6,.inr (.inr ⟨i,x,b,m,J,q6,g⟩)⟩
 have aj:Sim fr ac (σ++τ) (Ys H π (H1.map (QW (rho π H.length)))) w':=by
  refine⟨?_,sc.roOk,λb q=>sc.frLt b (.inl q),λb q q'=>sc.roFr b q (.inl q'),?_,?_,?_,?_⟩
  .rw[Qcq _ _ _ ak];simp[hσl,aq]
  .intro i b x h g m;rcases t i with⟨j,rfl⟩|⟨c1,c2⟩
   .rw[hσ']at h;rw[F]at g;cases e:H1[j]? with
    |none=>rw[e]at g;simp at g
    |some y=>
     rw[e]at g;simp at g;subst g;obtain⟨o1,o2,o3⟩:=sc.own j b y h e (by rw[QO]at m;exact m);exact⟨o1,o2,λq=>o3 (.inl q)⟩
   .rw[B i c1 c2]at g;rw[XQ (by omega)]at h;obtain⟨o1,o2,o3⟩:=r.sim.own i b x h g m;exact⟨Vj o1 ev.size,λq=>sc.roFr b q (G i b x c1 c2 h g m),o3⟩
  .intro i E b x y h g m J X q6;have ag:∀(i E:Nat) (x y:Blk),(∃j,i=rho π H.length j)->(E<H.length/\E∉π)->(σ++τ)[i]?=some (some b)->(σ++τ)[E]?=some (some b)->
     (Ys H π (H1.map (QW (rho π H.length))))[i]?=some x->(Ys H π (H1.map (QW (rho π H.length))))[E]?=some y->x.live=true->y.live=true->False:=by
    rintro i E x y ⟨j,rfl⟩ ⟨c1,c2⟩ h g m J X q6;rw[hσ']at h;rw[F]at m;rw[B E c1 c2]at J;rw[XQ (by omega)]at g;cases e:H1[j]? with
    |none=>rw[e]at m;simp at m
    |some z=>
     rw[e]at m;simp at m;subst m;exact(sc.own j b z h e (by rw[QO]at X;exact X)).2.2 (G E b y c1 c2 g J q6)
   rcases t i with ci|ci<;>rcases t E with ci'|ci'
   .obtain⟨j,rfl⟩:=ci;obtain⟨O,rfl⟩:=ci';rw[hσ']at h g;rw[F]at m J;cases e:H1[j]? with
    |none=>rw[e]at m;simp at m
    |some z=>
     cases W:H1[O]? with
     |none=>rw[W]at J;simp at J
     |some z'=>
      rw[e]at m;simp at m;subst m;rw[W]at J;simp at J;subst J;rw[sc.inj j O b z z' h g e W (by rw[QO]at X;exact X) (by rw[QO]at q6;exact q6)]
   .exact(ag i E x y ci ci' h g m J X q6).elim
   .exact(ag E i y x ci' ci g h J m q6 X).elim
   .rw[B i ci.1 ci.2]at m;rw[B E ci'.1 ci'.2]at J;rw[XQ (by omega)]at h g;exact r.sim.inj i E b x y h g m J X q6
  .intro i s x h g;rcases t i with⟨j,rfl⟩|⟨c1,c2⟩
   .rw[hσ']at h;rw[F]at g;cases e:H1[j]? with
    |none=>rw[e]at g;simp at g
    |some y=>
     rw[e]at g;simp at g;subst g;exact(Qh0 hσ').2 (sc.blk j s y h e)
   .rw[B i c1 c2]at g;rw[XQ (by omega)]at h;refine BR.keep (V.ext σ τ) ?_ (r.sim.blk i s x h g) ?_
    .rintro b rfl hl;exact ev.keepFr b (G i b x c1 c2 h g hl)
    .rintro b c rfl hl;exact ev.keepFr c (.inr (.inr ⟨i,x,b,h,g,hl,c2⟩))
  .intro i b x c h g m;rcases t i with⟨j,rfl⟩|⟨c1,c2⟩
   .rw[hσ']at h;rw[F]at g;cases e:H1[j]? with
    |none=>rw[e]at g;simp at g
    |some y=>
     rw[e]at g;simp at g;subst g;have k:=sc.hid j b y c h e ((Qam _ _ _ _ _).1 m);refine⟨k.lt,k.ro,λq=>k.fr (.inl q),?_,?_⟩
     .intro E b' y' L n Y;rcases t E with⟨O,rfl⟩|⟨d1,d2⟩
      .rw[hσ']at L;rw[F]at n;cases W:H1[O]? with
       |none=>rw[W]at n;simp at n
       |some u=>
        rw[W]at n;simp at n;subst n;exact k.ne O b' u L W (by rw[QO]at Y;exact Y)
      .rw[B E d1 d2]at n;rw[XQ (by omega)]at L;rintro rfl;exact k.fr (G E c y' d1 d2 L n Y)
     .intro E b' y' L n Y;rcases t E with⟨O,rfl⟩|⟨d1,d2⟩
      .rw[hσ']at L;rw[F]at n;cases W:H1[O]? with
       |none=>rw[W]at n;simp at n
       |some u=>
        rw[W]at n;simp at n;subst n;obtain⟨z4,rfl⟩:=k.one O b' u L W ((Qam _ _ _ _ _).1 Y);exact⟨z4,rfl⟩
      .rw[B E d1 d2]at n;rw[XQ (by omega)]at L;exact(k.fr (af E b' y' c d1 d2 L n Y).2).elim
   .rw[B i c1 c2]at g;rw[XQ (by omega)]at h;obtain⟨J,X⟩:=af i b x c c1 c2 h g m;have k:=r.sim.hid i b x c h g J;refine⟨Vj k.lt ev.size,λq=>sc.roFr c q X,k.fr,?_,?_⟩
    .intro E b' y' L n Y;rcases t E with⟨O,rfl⟩|⟨d1,d2⟩
     .rw[hσ']at L;rw[F]at n;cases W:H1[O]? with
      |none=>rw[W]at n;simp at n
      |some u=>
       rw[W]at n;simp at n;subst n;rintro rfl;exact(sc.own O c u L W (by rw[QO]at Y;exact Y)).2.2 X
     .rw[B E d1 d2]at n;rw[XQ (by omega)]at L;exact k.ne E b' y' L n Y
    .intro E b' y' L n Y;rcases t E with⟨O,rfl⟩|⟨d1,d2⟩
     .rw[hσ']at L;rw[F]at n;cases W:H1[O]? with
      |none=>rw[W]at n;simp at n
      |some u=>
       rw[W]at n;simp at n;subst n;exact((sc.hid O b' u c L W ((Qam _ _ _ _ _).1 Y)).fr X).elim
     .rw[B E d1 d2]at n;rw[XQ (by omega)]at L;exact k.one E b' y' L n (af E b' y' c d1 d2 L n Y).1
 have au:VR ac (σ++τ) w' (YF (rho π H.length) rr) v:=(QdR hσ').2 hv;have hk:=k rr H1 hq;cases d with
 |none=>
  simp only[hd,Act.put];have r':Rel fr ac (σ++τ) (Ys H π (H1.map (QW (rho π H.length)))) env N a w':=⟨aj,λs=>(r.env s).mono (V.ext σ τ),r.size,r.defers.keep V⟩;exact⟨_,rfl,Yk (λe a w q=>q.step V (Qt (by omega))) _ _ _ (hk rd fr ac (σ++τ) _ w' r' (hrd.to V λ_ q=>q))⟩
 |some d=>
  simp only[hd,Act.put];have ao:=hN d rfl;have r':Rel fr ac (σ++τ) (Ys H π (H1.map (QW (rho π H.length)))) (up env d (YF (rho π H.length) rr)) N {a with tmps:=a.tmps.setIfInBounds d v} w':=
   ⟨aj,VR.up (fr:=fr) (λs=>(r.env s).mono (V.ext σ τ)) (by rw[r.size];exact ao) au,by simpa using r.size,r.defers.keep V⟩
  exact⟨_,rfl,Yk (λe a w q=>q.step V (Qt (by omega))) _ _ _ (hk rd fr ac (σ++τ) _ w' r' (hrd.to V λ_ q=>q))⟩
end Go.Sw
namespace Go.Sw
section
variable {P:Program} {o:Oper} {env:Env} {H:Qd}
theorem QS{fr ro:Nat->Prop}{σ:Sig}{N:Nat}{a:Act}{w:World}(r:Rel fr ro σ H env N a w){x:Operand}{k:IntKind}{n:Int}(h:opA env x=.int k n):a.eval x=.int k n:=by
 have:=Qg r x;rw[h]at this;exact this
theorem Qc1{fr ro:Nat->Prop}{σ:Sig}{N:Nat}{a:Act}{w:World}(r:Rel fr ro σ H env N a w){x:Operand}{b:Bool}(h:opA env x=.bool b):a.eval x=.bool b:=by
 have:=Qg r x;rw[h]at this;exact this
theorem Qex{fr ro:Nat->Prop}{σ:Sig}{N:Nat}{a:Act}{w:World}(r:Rel fr ro σ H env N a w){x:Operand}{s:List UInt8}(h:opA env x=.str s):a.eval x=.string ⟨s.toArray⟩:=by
 have:=Qg r x;rw[h]at this;exact this
theorem OpV.move{x:Operand}{v:A}(ho:o.op=.move x)(hx:opA env x=v):OpV P o env H v:=
 λfr ro σ N a w r=>⟨a.eval x,by simp[execOp,ho,go_sem],hx▸Qg r x⟩
theorem OpV.assign{x:Operand}{v:A}(ho:o.op=.assign x)(hx:opA env x=v):OpV P o env H v:=
 λfr ro σ N a w r=>⟨a.eval x,by simp[execOp,ho,go_sem],hx▸Qg r x⟩
theorem OpV.pick{c x y:Operand}{b:Bool}{v:A}(e:o.op=.pick c x y)(g:opA env c=.bool b)(f:(if b then opA env x else opA env y)=v):OpV P o env H v:=by
 intro i h σ N a w r;have d:=Qc1 r g;refine⟨if b then a.eval x else a.eval y,by generalize a.eval=ρ at*;simp[execOp,e,d,asBool,go_sem],?_⟩;subst f;cases b
 .exact Qg r y
 .exact Qg r x
theorem OpV.add{t u:TypeId}{x y:Operand}{k:IntKind}{m n:Int}(e:o.op=.binOp .add t x y u)(d:opA env x=.int k m)(b:opA env y=.int k n):OpV P o env H (.int k (k.wrap (m+n))):=by
 intro i h σ N a w r;have g:=QS r d;have f:=QS r b;refine⟨_,?_,rfl⟩;generalize a.eval=ρ at*;simp[execOp,e,g,f,Go.binOp,eqGuard,Op.intArith,go_sem]
theorem OpV.sub{t u:TypeId}{x y:Operand}{k:IntKind}{m n:Int}(e:o.op=.binOp .sub t x y u)(d:opA env x=.int k m)(b:opA env y=.int k n):OpV P o env H (.int k (k.wrap (m-n))):=by
 intro i h σ N a w r;have g:=QS r d;have f:=QS r b;refine⟨_,?_,rfl⟩;generalize a.eval=ρ at*;simp[execOp,e,g,f,Go.binOp,eqGuard,Op.intArith,go_sem]
theorem OpV.mul{t u:TypeId}{x y:Operand}{k:IntKind}{m n:Int}(e:o.op=.binOp .mul t x y u)(d:opA env x=.int k m)(b:opA env y=.int k n):OpV P o env H (.int k (k.wrap (m*n))):=by
 intro i h σ N a w r;have g:=QS r d;have f:=QS r b;refine⟨_,?_,rfl⟩;generalize a.eval=ρ at*;simp[execOp,e,g,f,Go.binOp,eqGuard,Op.intArith,go_sem]
theorem OpV.cmp{op:BinOp}{t u:TypeId}{x y:Operand}{k:IntKind}{m n:Int}{f:Int->Int->Bool}(e:o.op=.binOp op t x y u)(h:opA env x=.int k m)(j:opA env y=.int k n)
  (d:op=.eql/\f=(λa b=>a==b)\/op=.neq/\f=(λa b=>a != b)\/op=.lss/\f=(λa b=>decide (a<b))\/op=.leq/\f=(λa b=>decide (a<=b))\/
   op=.gtr/\f=(λa b=>decide (b<a))\/op=.geq/\f=(λa b=>decide (b<=a))):OpV P o env H (.bool (f m n)):=by
 intro p l σ N a w r;have i:=QS r h;have g:=QS r j;refine⟨_,?_,rfl⟩;generalize a.eval=ρ at*;rcases d with⟨rfl,rfl⟩|⟨rfl,rfl⟩|⟨rfl,rfl⟩|⟨rfl,rfl⟩|⟨rfl,rfl⟩|⟨rfl,rfl⟩<;>simp[execOp,e,i,g,Go.binOp,eqGuard,Op.intCmp,go_sem]
theorem OpV.eql{t u:TypeId}{x y:Operand}{k:IntKind}{m n:Int}(ho:o.op=.binOp .eql t x y u)(hx:opA env x=.int k m)(hy:opA env y=.int k n):OpV P o env H (.bool (m==n)):=
 OpV.cmp (f:=λa b=>a==b) ho hx hy (by simp)
theorem OpV.neq{t u:TypeId}{x y:Operand}{k:IntKind}{m n:Int}(ho:o.op=.binOp .neq t x y u)(hx:opA env x=.int k m)(hy:opA env y=.int k n):OpV P o env H (.bool (m != n)):=
 OpV.cmp (f:=λa b=>a != b) ho hx hy (by simp)
theorem OpV.lss{t u:TypeId}{x y:Operand}{k:IntKind}{m n:Int}(ho:o.op=.binOp .lss t x y u)(hx:opA env x=.int k m)(hy:opA env y=.int k n):OpV P o env H (.bool (decide (m<n))):=
 OpV.cmp (f:=λa b=>decide (a<b)) ho hx hy (by simp)
theorem OpV.leq{t u:TypeId}{x y:Operand}{k:IntKind}{m n:Int}(ho:o.op=.binOp .leq t x y u)(hx:opA env x=.int k m)(hy:opA env y=.int k n):OpV P o env H (.bool (decide (m<=n))):=
 OpV.cmp (f:=λa b=>decide (a<=b)) ho hx hy (by simp)
theorem OpV.gtr{t u:TypeId}{x y:Operand}{k:IntKind}{m n:Int}(ho:o.op=.binOp .gtr t x y u)(hx:opA env x=.int k m)(hy:opA env y=.int k n):OpV P o env H (.bool (decide (n<m))):=
 OpV.cmp (f:=λa b=>decide (b<a)) ho hx hy (by simp)
theorem OpV.geq{t u:TypeId}{x y:Operand}{k:IntKind}{m n:Int}(ho:o.op=.binOp .geq t x y u)(hx:opA env x=.int k m)(hy:opA env y=.int k n):OpV P o env H (.bool (decide (n<=m))):=
 OpV.cmp (f:=λa b=>decide (b<=a)) ho hx hy (by simp)
theorem OpV.rem{t u:TypeId}{x y:Operand}{k:IntKind}{m n:Int}(b:o.op=.binOp .rem t x y u)(e:opA env x=.int k m)(g:opA env y=.int k n)(h:n≠0):OpV P o env H (.int k (m.tmod n)):=by
 intro j i σ N a w r;have f:=QS r e;have d:=QS r g;exact⟨_,by generalize a.eval=ρ at*;simp[execOp,b,f,d,Go.binOp,eqGuard,Op.intDiv,h,go_sem],rfl⟩
theorem OpV.not{t:TypeId}{x:Operand}{b:Bool}(d:o.op=.unOp .not t x)(e:opA env x=.bool b):OpV P o env H (.bool !b):=by
 intro h g σ N a w r;have f:=Qc1 r e;exact⟨_,by generalize a.eval=ρ at*;simp[execOp,d,f,Op.unary,go_sem],rfl⟩
theorem OpV.neg{t:TypeId}{x:Operand}{k:IntKind}{n:Int}(b:o.op=.unOp .neg t x)(d:opA env x=.int k n):OpV P o env H (.int k (k.wrap (0-n))):=by
 intro g f σ N a w r;have e:=QS r d;exact⟨_,by generalize a.eval=ρ at*;simp[execOp,b,e,Op.unary,Op.intArith,go_sem],rfl⟩
theorem YO{s t:TypeId}{x:Operand}{k e:IntKind}{n:Int}{b:TypeDesc}(f:o.op=.convert s t x)(i:∀w,(underlying s).run P w=.ok b w)(d:∀w,(underlying t).run P w=.ok (.int k) w)
  (g:opA env x=.int e n):OpV P o env H (.int k (k.wrap n)):=by
 intro l j σ N a w r;have h:=QS r g;refine⟨_,?_,rfl⟩;generalize a.eval=ρ at*;cases b<;>simp[execOp,f,h,convert,i,d,Conv.intToInt,go_sem]
theorem QdU{op:BinOp}{t u:TypeId}{x y:Operand}{p q:List UInt8}{f:List UInt8->List UInt8->Bool}(e:o.op=.binOp op t x y u)(h:opA env x=.str p)(j:opA env y=.str q)
  (d:op=.eql/\f=(λa b=>a==b)\/op=.neq/\f=(λa b=>a != b)\/op=.lss/\f=Op.bytesLess\/op=.geq/\f=(λa b=> !Op.bytesLess a b)\/
   op=.leq/\f=(λa b=>Op.bytesLess a b||a==b)\/op=.gtr/\f=(λa b=> !(Op.bytesLess a b||a==b))):OpV P o env H (.bool (f p q)):=by
 intro n m σ N a w r;have i:=Qex r h;have g:=Qex r j;refine⟨_,?_,rfl⟩;generalize a.eval=ρ at*;have l:(⟨p.toArray⟩:ByteArray).toList=p:=by rw[Go.ByteArray.toList_eq]
 have k:(⟨q.toArray⟩:ByteArray).toList=q:=by rw[Go.ByteArray.toList_eq]
 rcases d with⟨rfl,rfl⟩|⟨rfl,rfl⟩|⟨rfl,rfl⟩|⟨rfl,rfl⟩|⟨rfl,rfl⟩|⟨rfl,rfl⟩<;>simp[execOp,e,i,g,Go.binOp,eqGuard,Op.stringOp,l,k,go_sem,bne]
theorem QdV{t u:TypeId}{x y:Operand}{p q:List UInt8}(ho:o.op=.binOp .eql t x y u)(hx:opA env x=.str p)(hy:opA env y=.str q):OpV P o env H (.bool (p==q)):=
 QdU (f:=λa b=>a==b) ho hx hy (by simp)
theorem Ql4{t u:TypeId}{x y:Operand}{p q:List UInt8}(ho:o.op=.binOp .neq t x y u)(hx:opA env x=.str p)(hy:opA env y=.str q):OpV P o env H (.bool (p != q)):=
 QdU (f:=λa b=>a != b) ho hx hy (by simp)
theorem Ql5{t u:TypeId}{x y:Operand}{p q:List UInt8}(ho:o.op=.binOp .lss t x y u)(hx:opA env x=.str p)(hy:opA env y=.str q):OpV P o env H (.bool (Op.bytesLess p q)):=
 QdU ho hx hy (by simp)
theorem Ql6{t:TypeId}{x y:Operand}{s:List UInt8}{k:IntKind}{n:Int}{c:UInt8}(h:o.op=.index t x y)(g:∀w,(underlying t).run P w=.ok .string w)(j:opA env x=.str s)(m:opA env y=.int k n)
  (h0:0<=n)(p:s[n.toNat]?=some c):OpV P o env H (.int .u8 c.toNat):=by
 intro u q σ N a w r;have l:=Qex r j;have i:=QS r m;have e:(⟨s.toArray⟩:ByteArray)[n.toNat]?=some c:=by
  obtain⟨b,f⟩:=XP.1 p;have d:(⟨s.toArray⟩:ByteArray).size=s.length:=by simp[ByteArray.size]
  rw[getElem?_pos _ _ (by rw[d];exact b)];show some (s.toArray[n.toNat]'(by simpa using b))=some c;simp[f]
 refine⟨_,?_,rfl⟩;generalize a.eval=ρ at*;simp[execOp,h,l,i,Instr.index,asIntOf,g,h0,e,go_sem]
theorem QaS{c:Call}{t:TypeId}{x:Operand}{s:List UInt8}(d:o.op=.call c)(f:c={callee:=.builtin .len,args:= #[x],argTypes:= #[t]})(b:∀w,(underlying t).run P w=.ok .string w)
  (e:opA env x=.str s):OpV P o env H (.int .i64 s.length):=by
 intro i h σ N a w r;have g:=Qex r e;refine⟨_,?_,rfl⟩;generalize a.eval=ρ at*;subst f;simp[execOp,d,g,resolve,invoke,Go.builtin,Builtin.len_,b,goInt,go_sem]<;>rfl
theorem Qn8{c:Call}{t e:TypeId}{x:Operand}{k:Nat}{es:List (List A)}(g:o.op=.call c)(i:c={callee:=.builtin .len,args:= #[x],argTypes:= #[t]})(f:∀w,(underlying t).run P w=.ok (.slice e) w)
  (h:opA env x=.rsl k es):OpV P o env H (.int .i64 es.length):=by
 intro l j σ N a w r;have b:=Qg r x;rw[h]at b;obtain⟨ad,d,b,_⟩:=b;refine⟨_,?_,rfl⟩;generalize a.eval=ρ at*;subst i;simp[execOp,g,b,resolve,invoke,Go.builtin,Builtin.len_,f,goInt,go_sem]
theorem Qjh{c:Call}{t e:TypeId}{x:Operand}{i s n k:Nat}(h:o.op=.call c)(l:c={callee:=.builtin .len,args:= #[x],argTypes:= #[t]})(g:∀w,(underlying t).run P w=.ok (.slice e) w)
  (j:opA env x=.osl i s n k):OpV P o env H (.int .i64 n):=by
 intro y q σ N a w r;have d:=Qg r x;rw[j]at d;refine⟨_,?_,rfl⟩;generalize a.eval=ρ at*;subst l;rcases d with⟨rfl,d⟩|⟨b,p,f,u,m,_,d,_⟩<;>
 simp[execOp,h,d,resolve,invoke,Go.builtin,Builtin.len_,g,goInt,go_sem]
structure QM (P:Program) (T f off n:Nat):Prop where
 h:∃fs fd,(∀w,(underlying T).run P w=.ok (.struct fs) w)/\fs[f]?=some fd/\fd.offset=off/\(∀w,(sizeOf fd.type).run P w=.ok n w)/\n≠0
theorem Ji(b off n:Nat):(⟨b,off,none⟩:Addr).add n=⟨b,off+n,none⟩:=by
 unfold Addr.add;split
 .rename_i h;simp[h]
 .rfl
theorem Qd2{T f off n b p:Nat}(e:QM P T f off n)(w:World):(Instr.fieldAt T (.pointer (some ⟨b,p,none⟩)) f).run P w=.ok (.pointer (some ⟨b,p+off,none⟩)) w:=by
 obtain⟨j,k,i,g,rfl,d,a⟩:=e.h;simp[Instr.fieldAt,i,g,Instr.sureAddr,fieldPlace,d,a,Ji,go_sem]
theorem Yw{T f off n i p:Nat}{x:Operand}(h:QM P T f off n)(g:o.op=.fieldAddr T x f)(e:opA env x=.ptr i p):OpV P o env H (.ptr i (p+off)):=by
 intro l k σ N a w r;have d:=Qg r x;rw[e]at d;obtain⟨b,d,j⟩:=d;refine⟨.pointer (some ⟨b,p+off,none⟩),?_,b,d,rfl⟩;generalize a.eval=ρ at*;simp only[execOp,g,j,Vr,Qd2 h];rfl
theorem CR.drop{ro:Nat->Prop}{σ:Sig}{w:World}{b:Nat}:∀(n:Nat) {cs:List A} {off:Nat},CR ro σ w b cs off->CR ro σ w b (cs.drop n) (off+n)
 |0,_,_,h=>h
 |n+1,[],_,h=>trivial
 |n+1,c::cs,off,h=>by
  have:=CR.drop n h.2;rw[List.drop_succ_cons];rw[show off+(n+1)=off+1+n from by omega];exact this
theorem CR.take{ro:Nat->Prop}{σ:Sig}{w:World}{b:Nat}:∀(n:Nat) {cs:List A} {off:Nat},CR ro σ w b cs off->CR ro σ w b (cs.take n) off
 |0,_,_,h=>trivial
 |n+1,[],_,h=>trivial
 |n+1,c::cs,off,h=>⟨h.1,CR.take n h.2⟩
theorem Qv{T f off n:Nat}{x:Operand}{cs cs':List A}(g:QM P T f off n)(h:o.op=.fieldAddr T x f)(j:opA env x=.rp cs)(e:cs.drop off=cs'):OpV P o env H (.rp cs'):=by
 intro m l σ N a w r;have d:=Qg r x;rw[j]at d;obtain⟨b,p,d,i,k⟩:=d;refine⟨.pointer (some ⟨b,p+off,none⟩),?_,b,p+off,rfl,i,e▸k.drop off⟩;generalize a.eval=ρ at*;simp only[execOp,h,d,Vr,Qd2 g];rfl
theorem RR.get{ro:Nat->Prop}{σ:Sig}{w:World}{b k:Nat}:∀(n:Nat) {es:List (List A)} {off:Nat} {c:List A},RR ro σ w b k es off->es[n]?=some c->c.length=k/\CR ro σ w b c (off+n*k)
 |n,[],_,_,h,hc=>by simp at hc
 |0,e::es,off,c,h,hc=>by
  simp at hc;subst hc;exact⟨h.1,by simpa using h.2.1⟩
 |n+1,e::es,off,c,h,hc=>by
  have:=RR.get n h.2.2 (by simpa using hc);refine⟨this.1,?_⟩;rw[show off+(n+1)*k=off+k+n*k from by rw[Xm];omega];exact this.2
theorem Qph{t e:TypeId}{x y:Operand}{k:Nat}{es:List (List A)}{i:IntKind}{n:Int}{c:List A}(l:o.op=.indexAddr t x y)(s:∀w,(underlying t).run P w=.ok (.slice e) w)
  (E:∀w,(sizeOf e).run P w=.ok k w)(m:opA env x=.rsl k es)(p:opA env y=.int i n)(h0:0<=n)(h:es[n.toNat]?=some c):OpV P o env H (.rp c):=by
 intro G L σ N a w r;have f:=Qg r x;rw[m]at f;have B:=QS r p;obtain⟨ad,q,f,J,z⟩:=f;have g:n.toNat<es.length:=(XP.1 h).1;rcases z with rfl|⟨b,d,rfl,j,u⟩
 .simp at g
 have F:n<es.length:=by omega
 refine⟨.pointer (some ⟨b,d+n.toNat*k,none⟩),?_,b,d+n.toNat*k,rfl,j,(u.get n.toNat h).2⟩;generalize a.eval=ρ at*;simp[execOp,l,f,B,Instr.indexAt,asIntOf,s,E,h0,F,Ji,go_sem]
theorem QhP{t e:TypeId}{x y:Operand}{i s m k:Nat}{g:IntKind}{n:Int}(l:o.op=.indexAddr t x y)(j:∀w,(underlying t).run P w=.ok (.slice e) w)
  (z:∀w,(sizeOf e).run P w=.ok k w)(u:opA env x=.osl i s m k)(B:opA env y=.int g n)(h0:0<=n)(F:n<m):OpV P o env H (.ptr i (s*k+n.toNat*k)):=by
 intro O G σ N a w r;have d:=Qg r x;rw[u]at d;have q:=QS r B;rcases d with⟨rfl,_⟩|⟨b,p,f,J,M,E,d,h,L,_⟩
 .omega
 obtain rfl:=h (by omega);refine⟨.pointer (some ⟨b,s*k+n.toNat*k,none⟩),?_,b,E,rfl⟩;generalize a.eval=ρ at*;simp[execOp,l,d,q,Instr.indexAt,asIntOf,j,z,h0,F,Ji,go_sem]
def Pts(H:Qd)(p:A)(cs:List A):Prop:=
 ∀fr ro σ w v,Sim fr ro σ H w->VR ro σ w p v->∃b off,v=.pointer (some ⟨b,off,none⟩)/\CR ro σ w b cs off
theorem VR.lift{ro:Nat->Prop}{σ:Sig}{w:World}{a:A}{v:Value}(h:VR ro [] w a v):VR ro σ w a v:=
 h.mono ⟨λ_ q=>q,λ_ _=>rfl,λ_ _ q=>q,λi b q=>by simp at q⟩
theorem CR.lift{ro:Nat->Prop}{σ:Sig}{w:World}{b:Nat}:∀{cs:List A} {off:Nat},CR ro [] w b cs off->CR ro σ w b cs off
 |[],_,_=>trivial
 |c::cs,off,⟨⟨v,h1,hp,h2⟩,h3⟩=>⟨⟨v,h1,hp,h2.lift⟩,CR.lift h3⟩
theorem LR.lift{ro:Nat->Prop}{σ:Sig}{w:World}:∀{cs:List A} {l:List Value},LR ro [] w cs l->LR ro σ w cs l
 |[],_,h=>h
 |c::cs,l,⟨v,l',h1,h2,h3⟩=>⟨v,l',h1,h2.lift,LR.lift h3⟩
theorem Pts.rp{cs:List A}:Pts H (.rp cs) cs:=λfr ro σ w v s ⟨b,off,h1,h2,h3⟩=>⟨b,off,h1,h3.lift⟩
theorem LR.cells{ro:Nat->Prop}{σ:Sig}{w:World}{b t:Nat}{fz:Nat×Nat}{pre l:List Value}(d:w.heap[b]?=some (.cells (pre++l).toArray t fz))(a:∀v∈l,Qq v):
  ∀{cs:List A},LR ro σ w cs l->CR ro σ w b cs pre.length:=by
 induction l generalizing pre with
 |nil=>
  intro cs h;cases cs with
  |nil=>trivial
  |cons c cs=>obtain⟨v,e,h,_⟩:=h;cases h
 |cons v l j=>
  intro cs h;cases cs with
  |nil=>trivial
  |cons c cs=>
   obtain⟨m,e,g,f,k⟩:=h;cases g;refine⟨⟨v,by simp[World.cell?,d],a v (by simp),f⟩,?_⟩;have:=j (pre:=pre++[v]) (by simpa using d) (λx i=>a x (by simp[i])) k;simpa using this
theorem Pts.cells{i off t:Nat}{cs cs':List A}(hH:H[i]?=some (.cells t cs))(a:cs.drop off=cs'):Pts H (.ptr i off) cs':=by
 intro m k σ w v s h;obtain⟨b,f,e⟩:=h;obtain⟨l,d,j,g⟩:=s.blk i _ _ f hH;have:=LR.cells (pre:=[]) (by simpa using d) g j;refine⟨b,off,e,a▸ ?_⟩;have:=this.drop off;simpa using this
theorem LR.get{ro:Nat->Prop}{σ:Sig}{w:World}:∀{az:List A} {l:List Value} (i:Nat) {a:A},LR ro σ w az l->az[i]?=some a->∃v,l[i]?=some v/\VR ro σ w a v
 |[],l,i,a,h,ha=>by simp at ha
 |x::az,l,0,a,⟨v,l',h1,h2,h3⟩,ha=>by
  simp at ha;subst ha h1;exact⟨v,rfl,h2⟩
 |x::az,l,i+1,a,⟨v,l',h1,h2,h3⟩,ha=>by
  subst h1;obtain⟨v',q1,q2⟩:=LR.get i h3 (by simpa using ha);exact⟨v',by simpa using q1,q2⟩
theorem LR.drop{ro:Nat->Prop}{σ:Sig}{w:World}:∀(n:Nat) {az:List A} {l:List Value},LR ro σ w az l->LR ro σ w (az.drop n) (l.drop n)
 |0,az,l,h=>h
 |n+1,[],l,h=>by cases(show l=[]from h);rfl
 |n+1,a::az,l,⟨v,l',h1,h2,h3⟩=>by subst h1;exact LR.drop n h3
theorem LR.take{ro:Nat->Prop}{σ:Sig}{w:World}:∀(n:Nat) {az:List A} {l:List Value},LR ro σ w az l->LR ro σ w (az.take n) (l.take n)
 |0,az,l,h=>rfl
 |n+1,[],l,h=>by cases(show l=[]from h);rfl
 |n+1,a::az,l,⟨v,l',h1,h2,h3⟩=>by subst h1;exact⟨v,l'.take n,rfl,h2,LR.take n h3⟩
theorem LR.append{ro:Nat->Prop}{σ:Sig}{w:World}:∀{az:List A} {l:List Value} {bs:List A} {m:List Value},LR ro σ w az l->LR ro σ w bs m->LR ro σ w (az++bs) (l++m)
 |[],l,bs,m,h,k=>by cases(show l=[]from h);exact k
 |a::az,l,bs,m,⟨v,l',h1,h2,h3⟩,k=>by subst h1;exact⟨v,l'++m,rfl,h2,LR.append h3 k⟩
theorem Qle{ro:Nat->Prop}{σ:Sig}{w:World}{b t:Nat}{fz:Nat×Nat}:∀{cs:List A} {pre l post:List Value},w.heap[b]?=some (.cells (pre++(l++post)).toArray t fz)->(∀v∈l,Qq v)->
  LR ro σ w cs l->CR ro σ w b cs pre.length
 |[],_,_,_,_,_,_=>trivial
 |c::cs,pre,l,post,hb,hpl,⟨v,l',h1,h2,h3⟩=>by
  subst h1;refine⟨⟨v,by simp[World.cell?,hb],hpl v (by simp),h2⟩,?_⟩;have:=Qle (pre:=pre++[v]) (l:=l') (post:=post) (by simpa using hb) (λx hx=>hpl x (by simp[hx])) h3;simpa using this
theorem YX{ro:Nat->Prop}{σ:Sig}{w:World}{b t k:Nat}{fz:Nat×Nat}:∀{es:List (List A)} {pre l:List Value},w.heap[b]?=some (.cells (pre++l).toArray t fz)->
  RL ro σ w k es l->RR ro σ w b k es pre.length
 |[],_,_,_,_=>trivial
 |c::es,pre,l,hb,⟨l1,l2,h1,h2,h3,h4⟩=>by
  subst h1;refine⟨h2,Qle hb h3.2 h3.1,?_⟩;have hl:=h3.1.length;have:=YX (pre:=pre++l1) (l:=l2) (by simpa using hb) h4;simpa[hl,h2]using this
theorem Pts.row{i off t k e f:Nat}{es:List (List A)}{c cs':List A}(hH:H[i]?=some (.row t k es))(g:off=e*k+f)(he:es[e]?=some c)(a:c.drop f=cs'):Pts H (.ptr i off) cs':=by
 intro q p σ w v s h;obtain⟨b,m,j⟩:=h;obtain⟨l,d,n⟩:=s.blk i _ _ m hH;have:=((YX (pre:=[]) (by simpa using d) n).get e he).2.drop f;refine⟨b,off,j,?_⟩;subst g a;simpa using this.lift
theorem Pts.rowr{i off t k e f:Nat}{es:List (List A)}{c cs':List A}(hH:H[i]?=some (.rowr t k es))(g:off=e*k+f)(he:es[e]?=some c)(a:c.drop f=cs'):Pts H (.ptr i off) cs':=by
 intro q p σ w v s h;obtain⟨b,m,j⟩:=h;obtain⟨l,d,n⟩:=s.blk i _ _ m hH;have:=((YX (pre:=[]) (by simpa using d) n).get e he).2.drop f;refine⟨b,off,j,?_⟩;subst g a;simpa using this
theorem QlS{w w':World}(h:w'.heap=w.heap)(a:Addr):w'.cell? a=w.cell? a:=by unfold World.cell?;rw[h]
theorem YJ{ro:Nat->Prop}{σ:Sig}{w:World}{b off:Nat}:∀{cs:List A} (i:Nat),CR ro σ w b cs (off+i)->
  ∃l,LR ro σ w cs l/\(∀v∈l,Qq v)/\ ∀(w':World) (a:Array Value),w'.heap=w.heap->(loadCellsFrom ⟨b,off,none⟩ i cs.length a).run P w'=.ok (a++l.toArray) w'
 |[],i,h=>⟨[],rfl,by simp,λw' a _=>by simp[loadCellsFrom,go_sem]⟩
 |c::cs,i,⟨⟨v,h1,hp,h2⟩,h3⟩=>by
  obtain⟨l,q1,qp,q2⟩:=YJ (cs:=cs) (i+1) (by rw[<- Nat.add_assoc];exact h3);refine⟨v::l,⟨v,l,rfl,h2,q1⟩,by simpa using⟨hp,qp⟩,λw' a hw=>?_⟩;have h1':w'.cell? ⟨b,off+i,none⟩=some v:=by rw[QlS hw];exact h1
  have:=q2 w' (a.push v) hw;simp[loadCellsFrom,Go.load,Sem.run,Ji,h1',this,go_sem]
theorem Qm{t n:Nat}{x:Operand}{p:A}{cs vs:List A}(i:o.op=.load t x)(q:∀w,(isAgg t).run P w=.ok true w)(m:∀w,(sizeOf t).run P w=.ok n w)(k:opA env x=p)(g:Pts H p cs)
  (u:cs.take n=vs)(hl:vs.length=n):OpV P o env H (.agg vs):=by
 intro s f σ N a w r;have e:=Qg r x;rw[k]at e;obtain⟨b,off,j,y⟩:=g s f σ w _ r.sim e;subst u;obtain⟨l,h,_,d⟩:=YJ (P:=P) (cs:=cs.take n) (off:=off) 0 (by simpa using y.take n);have d:=d w #[] rfl;rw[hl]at d;refine⟨.agg l.toArray,?_,l,rfl,h⟩;generalize a.eval=ρ at*;simp[execOp,i,j,Instr.loadAt,Instr.sureAddr,loadVar,q,m,loadCells,d,go_sem]
theorem OpV.load{t:Nat}{x:Operand}{p v:A}{cs:List A}(h:o.op=.load t x)(l:∀w,(isAgg t).run P w=.ok false w)(j:opA env x=p)(f:Pts H p (v::cs)):OpV P o env H v:=by
 intro m e σ N a w r;have d:=Qg r x;rw[j]at d;obtain⟨b,k,i,⟨y,n,_,g⟩,_⟩:=f m e σ w _ r.sim d;refine⟨y,?_,g⟩;generalize a.eval=ρ at*;simp[execOp,h,i,Instr.loadAt,Instr.sureAddr,loadVar,l,Go.load,Sem.run,n,go_sem]
theorem OpV.extract{x:Operand}{vs:List A}{i:Nat}{v:A}(f:o.op=.extract x i)(h:opA env x=.tup vs)(e:vs[i]?=some v):OpV P o env H v:=by
 intro m k σ N a w r;have b:=Qg r x;rw[h]at b;obtain⟨l,b,g⟩:=b;obtain⟨y,j,d⟩:=g.get i e;refine⟨y,?_,d⟩;generalize a.eval=ρ at*;simp[execOp,f,b,Instr.extract,j,go_sem]
theorem Qbl{fr ro:Nat->Prop}{σ:Sig}{N:Nat}{a:Act}{w:World}(r:Rel fr ro σ H env N a w):∀(l:List Operand),LR ro σ w (l.map (opA env)) (l.map a.eval)
 |[]=>rfl
 |x::l=>⟨_,_,rfl,Qg r x,Qbl r l⟩
theorem OpV.makeFunc{f:Fn}{first cap:List Operand}{vf vc:List A}(b:o.op=.makeFunc f first.toArray cap.toArray)(e:first.map (opA env)=vf)(d:cap.map (opA env)=vc):OpV P o env H (.fn f vf vc):=by
 intro h g σ N a w r;refine⟨.func f (first.map a.eval).toArray (cap.map a.eval).toArray,?_,_,_,rfl,e▸Qbl r first,d▸Qbl r cap⟩;generalize a.eval=ρ at*;simp[execOp,b,Instr.makeFunc,go_sem]
theorem Qaq{t:TypeId}{x:Operand}{v:A}{d:TypeDesc}(g:o.op=.makeInterface t x)(e:∀w,(underlying t).run P w=.ok d w)(f:∀m,d≠ .interface m)(h:opA env x=v):OpV P o env H (.iface t v):=by
 intro j i σ N a w r;have b:=Qg r x;rw[h]at b;refine⟨.iface t (a.eval x),?_,_,rfl,b⟩;generalize a.eval=ρ at*;cases d<;>first|(simp[execOp,g,Instr.makeInterface,e,go_sem];done)|exact(f _ rfl).elim
end
end Go.Sw
namespace Go.Sw
mutual
def Yr:A->Bool
 |.ptr _ _=>false
 |.osl _ _ _ _=>false
 |.map _=>false
 |.agg cs=>Yn cs
 |.fn _ a c=>Yn a&&Yn c
 |.iface _ v=>Yr v
 |.tup vs=>Yn vs
 |_=>true
def Yn:List A->Bool
 |[]=>true
 |a::r=>Yr a&&Yn r
end
mutual
theorem VR.data{ro:Nat->Prop}{σ σ':Sig}{w:World}:∀{a:A} {v:Value},Yr a=true->VR ro σ w a v->VR ro σ' w a v
 |.any,_,_,_=>trivial
 |.bool b,v,_,q=>q
 |.int k n,v,_,q=>q
 |.str s,v,_,q=>q
 |.nilp,v,_,q=>q
 |.ptr i off,v,d,q=>by simp[Yr]at d
 |.rp cs,v,_,q=>q
 |.nils,v,_,q=>q
 |.rsl k es,v,_,q=>q
 |.osl i o n k,v,d,q=>by simp[Yr]at d
 |.agg cs,v,d,q=>by
  simp only[VR,Yr]at q d⊢;obtain⟨l,h1,h2⟩:=q;exact⟨l,h1,LR.data d h2⟩
 |.fn f a c,v,d,q=>by
  simp only[VR,Yr,X0]at q d⊢;obtain⟨l,l',h1,h2,h3⟩:=q;exact⟨l,l',h1,LR.data d.1 h2,LR.data d.2 h3⟩
 |.nilf,v,_,q=>q
 |.iface t a,v,d,q=>by
  simp only[VR,Yr]at q d⊢;obtain⟨x,h1,h2⟩:=q;exact⟨x,h1,VR.data d h2⟩
 |.nilif,v,_,q=>q
 |.map i,v,d,q=>by simp[Yr]at d
 |.nilm,v,_,q=>q
 |.tup vs,v,d,q=>by
  simp only[VR,Yr]at q d⊢;obtain⟨l,h1,h2⟩:=q;exact⟨l,h1,LR.data d h2⟩
theorem LR.data{ro:Nat->Prop}{σ σ':Sig}{w:World}:∀{az:List A} {l:List Value},Yn az=true->LR ro σ w az l->LR ro σ' w az l
 |[],_,_,q=>q
 |a::r,l,d,q=>by
  simp only[LR,Yn,X0]at q d⊢;obtain⟨v,l',h1,h2,h3⟩:=q;exact⟨v,l',h1,VR.data d.1 h2,LR.data d.2 h3⟩
end
def Yt:A->Bool
 |.any|.agg _|.tup _=>false
 |_=>true
def Q9:A->List A
 |.agg cs=>cs
 |a=>[a]
def Yf:A->Bool
 |.any=>false
 |_=>true
theorem VR.plain{ro:Nat->Prop}{σ:Sig}{w:World}{a:A}{v:Value}(b:Yt a=true)(h:VR ro σ w a v):Qq v:=by
 cases a<;>first|(simp[Yt]at b;done)|skip
 case rsl k es=>obtain⟨ad,c,rfl,_⟩:=h;trivial
 case osl=>rcases h with⟨_,rfl⟩|⟨_,_,_,_,_,_,rfl,_⟩<;>trivial
 case fn=>obtain⟨_,_,rfl,_⟩:=h;trivial
 case iface=>obtain⟨_,rfl,_⟩:=h;trivial
 case ptr=>obtain⟨_,_,rfl⟩:=h;trivial
 case rp=>obtain⟨_,_,rfl,_⟩:=h;trivial
 case map=>obtain⟨_,_,rfl⟩:=h;trivial
 all_goals (simp only[VR]at h;subst h;trivial)
theorem VR.cells{ro:Nat->Prop}{σ:Sig}{w:World}{a:A}{v:Value}(b:Yf a=true)(h:VR ro σ w a v):∃l:List Value,v.cells=l.toArray/\LR ro σ w (Q9 a) l:=by
 cases a
 case any=>simp[Yf]at b
 case agg cs=>obtain⟨l,rfl,h⟩:=h;exact⟨l,rfl,h⟩
 case tup cs=>obtain⟨l,rfl,h⟩:=h;exact⟨[.tuple l.toArray],rfl,_,_,rfl,⟨l,rfl,h⟩,rfl⟩
 all_goals
  have d:=h.plain rfl;refine⟨[v],?_,v,[],rfl,h,rfl⟩;cases v<;>first|rfl|exact d.elim
theorem LR.plain{ro:Nat->Prop}{σ:Sig}{w:World}:∀{az:List A} {l:List Value},az.all Yt=true->LR ro σ w az l->∀v∈l,Qq v
 |[],l,_,h=>by cases(show l=[]from h);simp
 |a::az,l,hp,⟨v,l',h1,h2,h3⟩=>by
  subst h1;simp only[List.all_cons,X0]at hp;intro x hx;rcases Va.1 hx with rfl|hx
  .exact h2.plain hp.1
  .exact LR.plain hp.2 h3 x hx
theorem Yv(w:World)(obj:Obj)(b:Nat)(a:b<w.heap.size):(w.alloc obj).heap[b]?=w.heap[b]? :=by
 show(w.heap.push obj)[b]?=_;rw[Array.getElem?_push,Vw (by omega)]
theorem Yg(w:World)(obj:Obj):(w.alloc obj).heap[w.heap.size]?=some obj:=by
 show(w.heap.push obj)[w.heap.size]?=_;simp
theorem Yu(w:World)(obj:Obj):(w.alloc obj).heap.size=w.heap.size+1:=by
 show(w.heap.push obj).size=_;simp
theorem QbP{w:World}{b:Nat}{x:TypeId×Nat}(h:w.shape? b=some x):b<w.heap.size:=by
 unfold World.shape? at h;rcases VG b w.heap.size with q|q
 .exact q
 .rw[Array.getElem?_eq_none q]at h;simp at h
theorem Qh.alloc{fr ro:Nat->Prop}{w:World}(obj:Obj)(hro:∀b,ro b->b<w.heap.size)(hfr:∀b,fr b->b<w.heap.size):Qh fr ro w ro (w.alloc obj):=
 ⟨λ_ h=>h,λb h=>Yv w obj b (hro b h),λb h=>Yv w obj b (hfr b h),by rw[Yu];omega,
  λb x h=>by unfold World.shape? at h⊢;rw[Yv w obj b (QbP h)];exact h,rfl,rfl,rfl,XX _⟩
section
variable {P:Program} {o:Oper} {env:Env} {H:Qd} {fr ro:Nat->Prop} {σ:Sig} {w:World}
theorem Sim.alloc(s:Sim fr ro σ H w){obj:Obj}{x:Blk}(G:BR ro (σ++[some w.heap.size]) (w.alloc obj) x (some w.heap.size))
  (u:∀c,Hid (w.alloc obj) x w.heap.size c->False:=by exact λ_ h=>h.elim):
  Sim fr ro (σ++[some w.heap.size]) (H++[x]) (w.alloc obj):=by
 have ev:Qh fr ro w ro (w.alloc obj):=Qh.alloc obj s.roLt s.frLt;have n:=s.len;have e:∀(i:Nat) (y:Option Nat),(σ++[some w.heap.size])[i]?=some y->(i<σ.length/\σ[i]?=some y)\/(i=σ.length/\y=some w.heap.size):=by
  intro i y h;rcases Nat.lt_trichotomy i σ.length with q|q|q
  .rw[XQ q]at h;exact .inl ⟨q,h⟩
  .subst q;simp at h;exact .inr ⟨rfl,h.symm⟩
  .rw[XS (by simp;omega)]at h;simp at h
 have k:∀i:Nat,i<σ.length->(H++[x])[i]?=H[i]? :=λi L=>XQ (by omega);have F:(H++[x])[σ.length]?=some x:=by rw[n];simp
 refine⟨by simp[n],s.roOk.to (λ_ q=>q) ev.keepRo (λb h=>?_),λb h=>?_,s.roFr,?_,?_,?_,?_⟩
 .rw[Yu];have:=s.roLt b h;omega
 .rw[Yu];have:=s.frLt b h;omega
 .intro i b y g f p;rw[Yu];rcases e i _ g with⟨q,g⟩|⟨rfl,l⟩
  .rw[k i q]at f;obtain⟨a,b,c⟩:=s.own i b y g f p;exact⟨by omega,b,c⟩
  .cases l;exact⟨by omega,λq=>by have:=s.roLt _ q;omega,λq=>by have:=s.frLt _ q;omega⟩
 .intro i j b y z g f p t B E;rcases e i _ g with⟨q,g⟩|⟨rfl,l⟩<;>rcases e j _ f with⟨q',f⟩|⟨rfl,e2⟩
  .rw[k i q]at p;rw[k j q']at t;exact s.inj i j b y z g f p t B E
  .cases e2;rw[k i q]at p;have:=(s.own i _ y g p B).1;omega
  .cases l;rw[k j q']at t;have:=(s.own j _ z f t E).1;omega
  .rfl
 .intro i y z g f;rcases e i _ g with⟨q,g⟩|⟨rfl,l⟩
  .rw[k i q]at f;refine(s.blk i y z g f).keep (ev.ext σ _) ?_ ?_
   .rintro b rfl n;exact Yv w obj b (s.own i b z g f n).1
   .rintro b c rfl n;exact Yv w obj c (s.hid i b z c g f n).lt
  .rw[F]at f;cases f;subst l;exact G
 .refine s.hidTo (· = ·) QZ (by rw[Yu];omega) (λ_ _ _ _ _ _ _ q=>q) (λ_ _ _ _ _ _ _ q=>q) λj d y r m J=>?_;rcases e j _ r with⟨q,r⟩|⟨rfl,l⟩
  .rw[k j q]at m;exact .inl ⟨j,y,rfl,r,m,id,λc q=>s.hidKeep r m (λz=>Yv w obj d (s.own j d y r m z).1) ev.keepRo q⟩
  .rw[F]at m;cases m;cases l;exact .inr ⟨XX _,u⟩
theorem Sim.allocCells(s:Sim fr ro σ H w){t:Nat}{cs:List A}{l:List Value}(h:LR ro σ w cs l)(hp:∀v∈l,Qq v):
  Sim fr ro (σ++[some w.heap.size]) (H++[.cells t cs]) (w.alloc (.cells l.toArray t)):=
 s.alloc ⟨l,Yg _ _,h.mono ((Qh.alloc (fr:=fr) _ s.roLt s.frLt).ext σ _),hp⟩
theorem Qjm{ro:Nat->Prop}{σ:Sig}{w:World}:∀{az bs:List A} {l:List Value},LR ro σ w (az++bs) l->∃l1 l2,l=l1++l2/\LR ro σ w az l1/\LR ro σ w bs l2
 |[],bs,l,h=>⟨[],l,rfl,rfl,h⟩
 |a::az,bs,l,⟨v,l',h1,h2,h3⟩=>by
  obtain⟨l1,l2,e,q1,q2⟩:=Qjm h3;subst h1 e;exact⟨v::l1,l2,rfl,⟨v,l1,rfl,h2,q1⟩,q2⟩
def allK(k:Nat):List (List A)->Prop
 |[]=>True
 |c::es=>c.length=k/\allK k es
theorem Jt{k:Nat}:∀{es:List (List A)} {l rest:List Value},allK k es->LR ro σ w es.flatten l->(∀v∈l,Qq v)->RL ro σ w k es (l++rest)
 |[],_,_,_,_,_=>trivial
 |c::es,l,rest,⟨h1,h2⟩,h,hp=>by
  rw[Vq]at h;obtain⟨l1,l2,rfl,q1,q2⟩:=Qjm h;exact⟨l1,l2++rest,by simp,h1,⟨q1,λv hv=>hp v (by simp[hv])⟩,Jt h2 q2 (λv hv=>hp v (by simp[hv]))⟩
theorem Sim.allocRow(s:Sim fr ro σ H w){t k:Nat}{es:List (List A)}{l rest:List Value}(hk:allK k es)(h:LR ro [] w es.flatten l)(hp:∀v∈l,Qq v):
  Sim fr ro (σ++[some w.heap.size]) (H++[.row t k es]) (w.alloc (.cells (l++rest).toArray t)):=
 s.alloc ⟨l++rest,Yg _ _,(Jt hk h hp).mono ((Qh.alloc (fr:=fr) _ s.roLt s.frLt).ext0 [])⟩
theorem Sim.allocRowr(s:Sim fr ro σ H w){t k:Nat}{es:List (List A)}{l rest:List Value}(hk:allK k es)(h:LR ro σ w es.flatten l)(hp:∀v∈l,Qq v):
  Sim fr ro (σ++[some w.heap.size]) (H++[.rowr t k es]) (w.alloc (.cells (l++rest).toArray t)):=
 s.alloc ⟨l++rest,Yg _ _,(Jt hk h hp).mono ((Qh.alloc (fr:=fr) _ s.roLt s.frLt).ext σ _)⟩
theorem OpH.box{t:Nat}{x:Operand}{v:A}{cs:List A}(j:o.op=.box t x)(m:opA env x=v)(i:Yf v=true)(b:Q9 v=cs)(d:cs.all Yt=true):
  OpH P o env H (.ptr H.length 0) (H++[.cells t cs]):=by
 intro n h σ N a w r;have f:=Qg r x;rw[m]at f;obtain⟨l,k,g⟩:=f.cells i;subst b;refine⟨.pointer (some ⟨w.heap.size,0,none⟩),w.alloc (.cells l.toArray t),h,[some w.heap.size],?_,⟨w.heap.size,?_,rfl⟩,r.sim.allocCells g (g.plain d),Qh.alloc _ r.sim.roLt r.sim.frLt⟩
 .generalize a.eval=ρ at*;have e:(newVar t (ρ x)).run P w=.ok ⟨w.heap.size,0,none⟩ (w.alloc (.cells l.toArray t)):=by
   unfold newVar;rw[k];rfl
  simp only[execOp,j,Instr.box,Vr,e];rfl
 .rw[<- r.sim.len];simp
theorem Sim.set(s:Sim fr ro σ H w){i b:Nat}{x x':Blk}{obj:Obj}(hσ:σ[i]?=some (some b))(hH:H[i]?=some x)(hl:x.live=true)
  (O:∀y,w.shape? b=some y->({w with heap:=w.heap.setIfInBounds b obj}:World).shape? b=some y)
  (M:Ext ro σ w ro σ {w with heap:=w.heap.setIfInBounds b obj}->({w with heap:=w.heap.setIfInBounds b obj}:World).heap[b]?=some obj->BR ro σ {w with heap:=w.heap.setIfInBounds b obj} x' (some b))
  (N:∀c,Hid {w with heap:=w.heap.setIfInBounds b obj} x' b c->Hid w x b c:=by exact λ_ h=>h.elim):
  Sim fr ro σ (H.set i x') {w with heap:=w.heap.setIfInBounds b obj}/\Qh fr ro w ro {w with heap:=w.heap.setIfInBounds b obj}:=by
 obtain⟨R,n,m⟩:=s.own i b x hσ hH hl;have k:∀c,c≠b->({w with heap:=w.heap.setIfInBounds b obj}:World).heap[c]?=w.heap[c]? :=by
  intro c X;show(w.heap.setIfInBounds b obj)[c]?=_;rw[Vi,Vw (λq=>X q.symm)]
 have L:({w with heap:=w.heap.setIfInBounds b obj}:World).heap[b]?=some obj:=by
  show(w.heap.setIfInBounds b obj)[b]?=_;rw[Vi,Vx rfl,Vx R]
 have l:({w with heap:=w.heap.setIfInBounds b obj}:World).heap.size=w.heap.size:=by simp
 have ev:Qh fr ro w ro {w with heap:=w.heap.setIfInBounds b obj}:=
  ⟨λ_ h=>h,λc h=>k c (λq=>n (q▸h)),λc h=>k c (λq=>m (q▸h)),by rw[l];exact XX _,by
   intro c y h;by_cases q:c=b
   .subst q;exact O y h
   .unfold World.shape? at h⊢;rw[k c q];exact h,rfl,rfl,rfl,XX _⟩
 have T:i<H.length:=(XP.1 hH).1;have F:(H.set i x')[i]?=some x':=Xa T;have g:∀j,j≠i->(H.set i x')[j]?=H[j]? :=λj V=>XT (λq=>V q.symm);have u:=M (ev.ext0 σ) L;refine⟨⟨by rw[X8];exact s.len,s.roOk.to (λ_ q=>q) ev.keepRo (λc h=>by rw[l];exact s.roLt c h),λc h=>by rw[l];exact s.frLt c h,s.roFr,?_,?_,?_,?_⟩,ev⟩
 .intro j c y a f B;rw[l];by_cases q:j=i
  .subst q;rw[hσ]at a;cases a;exact⟨R,n,m⟩
  .rw[g j q]at f;exact s.own j c y a f B
 .intro j r c y z a f B J P Q;by_cases q:j=i
  .subst q;rw[hσ]at a;cases a;by_cases E:r=j
   .exact E.symm
   .rw[g r E]at J;exact s.inj j r _ x z hσ f hH J hl Q
  .rw[g j q]at B;by_cases E:r=i
   .subst E;rw[hσ]at f;cases f;exact s.inj j r _ y x a hσ B hH P hl
   .rw[g r E]at J;exact s.inj j r c y z a f B J P Q
 .intro j y z a f;by_cases q:j=i
  .subst q;rw[F]at f;cases f;rw[hσ]at a;cases a;exact u
  .rw[g j q]at f;refine(s.blk j y z a f).keep (ev.ext0 σ) ?_ ?_
   .rintro c rfl p;exact k c (λe=>q (s.inj j i b z x (e▸a) hσ f hH p hl))
   .rintro c d rfl W;exact k d ((s.hid j c z d a f W).ne i b x hσ hH hl)
 .refine s.hidTo (· = ·) QZ (by rw[l];exact XX _) (λ_ _ _ _ _ _ _ q=>q) (λ_ _ _ _ _ _ _ q=>q) λj d y G t Y=>.inl ?_;by_cases q:j=i
  .subst q;rw[F]at t;cases t;rw[hσ]at G;cases G;exact⟨j,x,rfl,hσ,hH,λ_=>hl,N⟩
  .rw[g j q]at t;exact⟨j,y,rfl,G,t,id,λc z=>s.hidKeep G t (λp=>k d (λe=>q (s.inj j i b y x (e▸G) hσ t hH p hl))) ev.keepRo z⟩
def splice{α:Type}(l:List α)(o:Nat)(vs:List α):List α:=l.take o++vs++l.drop (o+vs.length)
theorem Q2{α:Type}{l:List α}{o:Nat}{vs:List α}(h:o+vs.length<=l.length):(splice l o vs).length=l.length:=by
 simp[splice];omega
theorem Qbf{h:Array Obj}{b:Nat}{f:Obj->Obj}{x:Obj}(g:h[b]?=some x):h.modify b f=h.setIfInBounds b (f x):=by
 apply Array.ext_getElem?;intro i;rw[Array.getElem?_modify,Vi];by_cases e:b=i
 .subst e;obtain⟨a,d⟩:=Vg.1 g;simp[d,a]
 .simp[e]
theorem Q3{b t:Nat}:∀{vs l:List Value} {w:World} (off i:Nat),w.heap[b]?=some (.cells l.toArray t (0,0))->off+i+vs.length<=l.length->(∀v∈vs,Qq v)->
  (storeCells ⟨b,off,none⟩ vs i).run P w=.ok () {w with heap:=w.heap.setIfInBounds b (.cells (splice l (off+i) vs).toArray t (0,0))}
 |[],l,w,off,i,hb,hl,hp=>by
  have e:w.heap.setIfInBounds b (.cells (splice l (off+i) []).toArray t (0,0))=w.heap:=by
   apply Array.ext_getElem?;intro j;rw[Vi];by_cases q:b=j
   .subst q;obtain⟨a,m⟩:=Vg.1 hb;simp[a,splice,m]
   .rw[Vw q]
  rw[e];simp[storeCells,go_sem]
 |v::vs,l,w,off,i,hb,hl,hp=>by
  simp only[X5]at hl;have p:=hp v (by simp);have z:w.cell? ⟨b,off+i,none⟩=some l[off+i]:=by
   simp[World.cell?,hb]
  have g:w.frozen? ⟨b,off+i,none⟩=false:=by
   simp[World.frozen?,hb]
  have d:w.setCell ⟨b,off+i,none⟩ v={w with heap:=w.heap.setIfInBounds b (.cells (splice l (off+i) [v]).toArray t (0,0))}:=by
   unfold World.setCell;rw[Qbf hb];simp only[Option.isSome_none,Xi,if_false];congr 3;have:l.toArray.setIfInBounds (off+i) v=(l.set (off+i) v).toArray:=by simp
   rw[this];congr 1;rw[List.set_eq_take_append_cons_drop,Vx (by omega)];simp[splice]
  have a:b<w.heap.size:=by
   rcases VG b w.heap.size with q|q
   .exact q
   .rw[Array.getElem?_eq_none q]at hb;simp at hb
  have h:=Q3 (vs:=vs) (l:=splice l (off+i) [v]) (w:={w with heap:=w.heap.setIfInBounds b (.cells (splice l (off+i) [v]).toArray t (0,0))}) off (i+1)
   (by show(w.heap.setIfInBounds b _)[b]?=_;rw[Vi,Vx rfl,Vx a])
   (by rw[Q2 (by simp;omega)];omega) (λx r=>hp x (by simp[r]))
  have y:splice (splice l (off+i) [v]) (off+(i+1)) vs=splice l (off+i) (v::vs):=by
   have k:(l.take (off+i)).length=off+i:=by simp;omega
   unfold splice;rw[Vm (l.take (off+i))];have B:off+(i+1)=(l.take (off+i)).length+1:=by omega
   have n:(l.take (off+i)++([v]++l.drop (off+i+[v].length))).take ((l.take (off+i)).length+1)=l.take (off+i)++[v]:=by
    rw[Vf];simp
   have u:(l.take (off+i)++([v]++l.drop (off+i+[v].length))).drop ((l.take (off+i)).length+1+vs.length)=l.drop (off+i+(v::vs).length):=by
    rw[show(l.take (off+i)).length+1+vs.length=(l.take (off+i)).length+(1+vs.length)from by omega,Ve];simp[Nat.add_comm 1];congr 1;omega
   rw[B,n,u];simp
  have s:(w.heap.setIfInBounds b (.cells (splice l (off+i) [v]).toArray t (0,0))).setIfInBounds b (.cells (splice (splice l (off+i) [v]) (off+(i+1)) vs).toArray t (0,0))=
    w.heap.setIfInBounds b (.cells (splice l (off+i) (v::vs)).toArray t (0,0)):=by
   rw[y,Array.setIfInBounds_setIfInBounds]
  rw[s]at h;have f:(Go.store ⟨b,off+i,none⟩ v).run P w=.ok () {w with heap:=w.heap.setIfInBounds b (.cells (splice l (off+i) [v]).toArray t (0,0))}:=by
   rw[<- d];cases v<;>first|exact p.elim|simp[Go.store,Sem.run,z,g,go_sem]
  simp only[storeCells,Ji,Vr,f];exact h
theorem Qae{w:World}{b t:Nat}{l l':List Value}(d:w.heap[b]?=some (.cells l.toArray t (0,0)))(hl:l'.length=l.length)(y:TypeId×Nat)(h:w.shape? b=some y):
  ({w with heap:=w.heap.setIfInBounds b (.cells l'.toArray t (0,0))}:World).shape? b=some y:=by
 have a:b<w.heap.size:=by
  rcases VG b w.heap.size with q|q
  .exact q
  .rw[Array.getElem?_eq_none q]at d;simp at d
 unfold World.shape? at h⊢;rw[d]at h;simp at h;subst h;show(match(w.heap.setIfInBounds b (.cells l'.toArray t (0,0)))[b]? with|some (.cells c elem _)=>some (elem,c.size)|_=>none)=_;rw[Vi,Vx rfl,Vx a];simp[hl]
theorem LR.splice{ro:Nat->Prop}{σ:Sig}{w:World}{az vs:List A}{l m:List Value}(off:Nat)(h:LR ro σ w az l)(k:LR ro σ w vs m):LR ro σ w (Sw.splice az off vs) (Sw.splice l off m):=by
 unfold Sw.splice;rw[k.length];exact((h.take off).append k).append (h.drop _)
theorem Qe8{l m:List Value}{off:Nat}(h:∀v∈l,Qq v)(k:∀v∈m,Qq v):∀v∈Sw.splice l off m,Qq v:=by
 intro v a;simp only[Sw.splice,VH]at a;rcases a with(a|a)|a
 .exact h v (List.mem_of_mem_take a)
 .exact k v a
 .exact h v (List.mem_of_mem_drop a)
theorem OpU.store{t n i off T:Nat}{x y:Operand}{cs vs cs':List A}{v:A}(L:o.op=.store t x y)(M:opA env x=.ptr i off)(hH:H[i]?=some (.cells T cs))(Y:∀w,(sizeOf t).run P w=.ok n w)
  (q:opA env y=v)(X:Yf v=true)(V:Q9 v=vs)(hn:vs.length=n)(G:vs.all Yt=true)(h:Nat.ble (off+n) cs.length=true)(p:splice cs off vs=cs'):
  OpU P o env H (H.set i (.cells T cs')):=by
 intro fr Q σ N a w r;have g:=Qg r x;rw[M]at g;obtain⟨b,g,W⟩:=g;have F:=Qg r y;rw[q]at F;obtain⟨m,J,f⟩:=F.cells X;rw[V]at f;obtain⟨l,E,B,O⟩:=r.sim.blk i _ _ g hH;have s:off+n<=cs.length:=by simpa using h
 have z:m.length=n:=by rw[f.length,hn]
 have j:=Q3 (P:=P) (vs:=m) off 0 E (by rw[B.length,z];omega) (f.plain G);have d:=r.sim.set (x':=.cells T cs') (obj:=.cells (splice l off m).toArray T (0,0)) g hH rfl
  (λy q=>Qae E (Q2 (by rw[B.length,z];omega)) y q)
  (λe R=>⟨_,R,p▸(B.splice off f).mono e,Qe8 O (f.plain G)⟩)
 refine⟨_,Q,[],?_,by simpa using d.1,d.2⟩;generalize a.eval=ρ at*;have k:(ρ y).cells.size=n:=by rw[J];simp[z]
 have u:(storeVar t ⟨b,off,none⟩ (ρ y)).run P w=.ok () {w with heap:=w.heap.setIfInBounds b (.cells (splice l off m).toArray T (0,0))}:=by
  unfold storeVar;rw[Vr,Y];simp only[Result.andThen];rw[Vw (by simp[k]),J];simpa using j
 simp only[execOp,L,W,Instr.storeAt,Instr.sureAddr,pure_bind,Vr,u];rfl
theorem RL.splice{ro:Nat->Prop}{σ:Sig}{w:World}{k:Nat}:∀{e:Nat} {es:List (List A)} {l m:List Value} {c a:List A} {f:Nat},RL ro σ w k es l->es[e]?=some c->LR ro σ w a m->(∀v∈m,Qq v)->f+a.length<=k->
  RL ro σ w k (es.set e (Sw.splice c f a)) (Sw.splice l (e*k+f) m)
 |_,[],_,_,_,_,_,_,h,_,_,_=>by simp at h
 |0,c0::es,l,m,c,a,f,⟨l1,l2,h1,h2,h3,h4⟩,hc,hm,hp,hf=>by
  simp at hc;subst hc h1;have hl1:=h3.1.length;refine⟨Sw.splice l1 f m,l2,?_,?_,⟨h3.1.splice f hm,Qe8 h3.2 hp⟩,h4⟩
  .unfold Sw.splice;simp only[Nat.zero_mul,Xy,Vm];rw[Vb (by omega),Vc (by rw[hm.length];omega)]
  .rw[Q2 (by omega)];exact h2
 |e+1,c0::es,l,m,c,a,f,⟨l1,l2,h1,h2,h3,h4⟩,hc,hm,hp,hf=>by
  subst h1;have hl1:=h3.1.length;refine⟨l1,Sw.splice l2 (e*k+f) m,?_,h2,h3,RL.splice h4 (by simpa using hc) hm hp hf⟩;have e1:(e+1)*k+f=l1.length+(e*k+f):=by rw[Xm];omega
  unfold Sw.splice;rw[e1,Vf,show l1.length+(e*k+f)+m.length=l1.length+(e*k+f+m.length)from by omega,Ve];simp
theorem RL.length{ro:Nat->Prop}{σ:Sig}{w:World}{k:Nat}:∀{es:List (List A)} {l:List Value},RL ro σ w k es l->es.length*k<=l.length
 |[],l,_=>by simp
 |c::es,l,⟨l1,l2,h1,h2,h3,h4⟩=>by
  subst h1;have:=RL.length h4;have:=h3.1.length;simp only[X5,X7,Xm];omega
theorem QhQ{t n i off T k e f:Nat}{x y:Operand}{es es':List (List A)}{c vs Q:List A}{v:A}(Y:o.op=.store t x y)(hx:opA env x=.ptr i off)(hH:H[i]?=some (.row T k es))(hs:∀w,(sizeOf t).run P w=.ok n w)
  (h:off=e*k+f)(V:es[e]?=some c)(E:opA env y=v)(hk:Yf v=true)(hv:Q9 v=vs)(R:vs.length=n)(M:vs.all Yt=true)(hd:Yn vs=true)(X:Nat.ble (f+n) k=true)
  (B:splice c f vs=Q)(F:es.set e Q=es'):
  OpU P o env H (H.set i (.row T k es')):=by
 intro fr ro σ N a w r;have j:=Qg r x;rw[hx]at j;obtain⟨b,j,h2⟩:=j;have L:=Qg r y;rw[E]at L;obtain⟨m,O,g⟩:=L.cells hk;rw[hv]at g;obtain⟨l,J,W⟩:=r.sim.blk i _ _ j hH;have z:f+n<=k:=by simpa using X
 have hm:m.length=n:=by rw[g.length,R]
 have he:e<es.length:=(XP.1 V).1;have G:off+n<=l.length:=by
  have:=W.length;have h6:(e+1)*k<=es.length*k:=XF k he;rw[Xm]at h6;omega
 have p:=Q3 (P:=P) (vs:=m) off 0 J (by omega) (g.plain M);have d:=r.sim.set (x':=.row T k es') (obj:=.cells (splice l off m).toArray T (0,0)) j hH rfl
  (λy E=>Qae J (Q2 (by omega)) y E)
  (λex u=>⟨_,u,by
   subst F B h;exact(W.splice V (g.data hd) (g.plain M) (by rw[R];exact z)).mono ex.nil⟩)
 refine⟨_,ro,[],?_,by simpa using d.1,d.2⟩;generalize a.eval=ρ at*;have s:(ρ y).cells.size=n:=by rw[O];simp[hm]
 have q:(storeVar t ⟨b,off,none⟩ (ρ y)).run P w=.ok () {w with heap:=w.heap.setIfInBounds b (.cells (splice l off m).toArray T (0,0))}:=by
  unfold storeVar;rw[Vr,hs];simp only[Result.andThen];rw[Vw (by simp[s]),O];simpa using p
 simp only[execOp,Y,h2,Instr.storeAt,Instr.sureAddr,pure_bind,Vr,q];rfl
end
end Go.Sw
namespace Go.Sw
section
variable {P:Program} {o:Oper} {env:Env} {H:Qd} {fr ro:Nat->Prop} {σ:Sig} {w:World}
theorem Ext.heap{w':World}(h:w'.heap=w.heap):Ext ro σ w ro σ w':=
 ⟨λ_ q=>q,λb _=>by rw[h],λb x q=>by unfold World.shape? at q⊢;rw[h];exact q,λ_ _ q=>q⟩
theorem Sim.heap{w':World}(s:Sim fr ro σ H w)(h:w'.heap=w.heap):Sim fr ro σ H w':=
 ⟨s.len,s.roOk.to (λ_ q=>q) (λb _=>by rw[h]) (λb q=>by rw[h];exact s.roLt b q),λb q=>by rw[h];exact s.frLt b q,s.roFr,λi b x q1 q2 q3=>by rw[h];exact s.own i b x q1 q2 q3,s.inj,
  λi y x q1 q2=>(s.blk i y x q1 q2).keep (Ext.heap h) (λb _ _=>by rw[h]) (λb c _ _=>by rw[h]),
  s.hidTo (· = ·) QZ (by rw[h];exact XX _) (λ_ _ _ _ _ _ _ q=>q) (λ_ _ _ _ _ _ _ q=>q) λj d y g1 g2 g3=>.inl ⟨j,y,rfl,g1,g2,id,λc q=>q.keep (by rw[h])⟩⟩
theorem Qh.heap{w':World}(h:w'.heap=w.heap)(ho:w'.os=w.os)(ht:w'.tape=w.tape)(hu:w'.output=w.output)(hd:w.drawn<=w'.drawn):Qh fr ro w ro w':=
 ⟨λ_ q=>q,λb _=>by rw[h],λb _=>by rw[h],by rw[h];exact XX _,λb x q=>by unfold World.shape? at q⊢;rw[h];exact q,ho,ht,hu,hd⟩
theorem Sim.moved(s:Sim fr ro σ H w){i:Nat}{x:Blk}{y:Option Nat}(hH:H[i]?=some x)(hσ:σ[i]?=some y):Sim fr ro (σ++[y]) (H.set i .dead++[x]) w:=by
 have J:=s.len;have P:i<H.length:=(XP.1 hH).1;have a:∀(j:Nat) (z:Option Nat) (v:Blk),(σ++[y])[j]?=some z->(H.set i .dead++[x])[j]?=some v->v≠ .dead->
   (j<σ.length/\j≠i/\σ[j]?=some z/\H[j]?=some v)\/(j=σ.length/\z=y/\v=x):=by
  intro j z v g f n;rcases Nat.lt_trichotomy j σ.length with q|q|q
  .rw[XQ q]at g;rw[XQ (by rw[X8];omega)]at f;by_cases e:j=i
   .subst e;rw[Xa P]at f;cases f;exact absurd rfl n
   .rw[XT (λq=>e q.symm)]at f;exact .inl ⟨q,e,g,f⟩
  .subst q;have m:(σ++[y])[σ.length]?=some y:=by simp
   have T:(H.set i .dead++[x])[σ.length]?=some x:=by rw[J,show H.length=(H.set i .dead).length from by simp];simp
   rw[m]at g;rw[T]at f;cases g;cases f;exact .inr ⟨rfl,rfl,rfl⟩
  .rw[XS (by simp;omega)]at g;simp at g
 have hσ':∀(j:Nat) (b:Nat),σ[j]?=some (some b)->(σ++[y])[j]?=some (some b):=λj b h=>YM h;have ext:Ext ro σ w ro (σ++[y]) w:=⟨λ_ q=>q,λ_ _=>rfl,λ_ _ q=>q,hσ'⟩;refine⟨by simp[J],s.roOk,s.frLt,s.roFr,?_,?_,?_,s.hidTo (λj G=>(j<σ.length/\j≠i/\G=j)\/(j=σ.length/\G=i)) (by omega) (XX _) (λ_ _ _ _ _ _ _ q=>q) (λ_ _ _ _ _ _ _ q=>q) λj d y V N Q=>.inl ?_⟩
 rotate_left 3
 .rcases a j _ y V N (QeI Q)with⟨u,B,k,l⟩|⟨u,m,rfl⟩
  .exact⟨j,y,.inl ⟨u,B,rfl⟩,k,l,id,λ_ q=>q⟩
  .subst m;exact⟨i,y,.inr ⟨u,rfl⟩,hσ,hH,id,λ_ q=>q⟩
 .intro j b v g f n;rcases a j _ v g f (Qav n)with⟨_,_,k,l⟩|⟨_,m,rfl⟩
  .exact s.own j b v k l n
  .subst m;exact s.own i b v hσ hH n
 .intro j E b v t g f n R p r;rcases a j _ v g n (Qav p)with⟨_,L,k,l⟩|⟨M,m,O⟩<;>rcases a E _ t f R (Qav r)with⟨_,n1',q1',q2'⟩|⟨r1',e1',r2'⟩
  .exact s.inj j E b v t k q1' l q2' p r
  .subst e1' r2';exact(L (s.inj j i b v t k hσ l hH p r)).elim
  .subst m O;exact(n1' (s.inj E i b t v q1' hσ q2' hH r p)).elim
  .rw[M,r1']
 .intro j z v g f;by_cases F:v≠ .dead
  .rcases a j z v g f F with⟨_,_,k,l⟩|⟨_,rfl,rfl⟩
   .exact(s.blk j z v k l).keep ext (λ_ _ _=>rfl) (λ_ _ _ _=>rfl)
   .exact(s.blk i _ _ hσ hH).keep ext (λ_ _ _=>rfl) (λ_ _ _ _=>rfl)
  .obtain rfl:v=.dead:=Classical.not_not.1 F;trivial
def Src(P:Program)(H:Qd)(x:A)(k:Nat)(es:List (List A)):Prop:=
 ∀fr ro σ w v,Sim fr ro σ H w->VR ro σ w x v->(∃a c,v=.slice a es.length c)/\allK k es/\
  ∃l,(∀w':World,w'.heap=w.heap->(Builtin.firstCells k es.length v).run P w'=.ok l.toArray w')/\LR ro [] w es.flatten l/\ ∀v∈l,Qq v
theorem RR.flat{b k:Nat}:∀{es:List (List A)} {off:Nat},RR ro σ w b k es off->CR ro σ w b es.flatten off/\allK k es/\es.flatten.length=es.length*k
 |[],off,_=>⟨trivial,trivial,by simp⟩
 |c::es,off,⟨h1,h2,h3⟩=>by
  obtain⟨q1,q2,q3⟩:=RR.flat h3;refine⟨?_,⟨h1,q2⟩,by simp[q3,h1,Xm,Nat.add_comm]⟩;rw[Vq];have:∀(c:List A) (off:Nat) (d:List A),CR ro σ w b c off->CR ro σ w b d (off+c.length)->CR ro σ w b (c++d) off:=by
   intro c
   induction c with
   |nil=>intro off d _ h;simpa using h
   |cons x c a=>intro off d ⟨h1,h2⟩ h;exact⟨h1,a (off+1) d h2 (by rw[Nat.add_assoc,Nat.add_comm 1];simpa using h)⟩
  exact this c off _ h2 (by rw[h1];exact q1)
theorem Qb9{b off k n c:Nat}{cs:List A}(h:CR ro σ w b cs off)(f:cs.length=n*k):
  ∃l,(∀w':World,w'.heap=w.heap->(Builtin.firstCells k n (.slice (some ⟨b,off,none⟩) n c)).run P w'=.ok l.toArray w')/\LR ro σ w cs l/\ ∀v∈l,Qq v:=by
 obtain⟨l,e,g,a⟩:=YJ (P:=P) (cs:=cs) (off:=off) 0 (by simpa using h);refine⟨l,λw' d=>?_,e,g⟩;rw[f]at a;simp only[Builtin.firstCells,loadCells];simpa using a w' #[] d
theorem Y4{k c:Nat}{a:Option Addr}:(Builtin.firstCells k 0 (.slice a 0 c)).run P w=.ok #[] w:=by
 cases a<;>simp[Builtin.firstCells,loadCells,loadCellsFrom,go_sem]
theorem Src.rsl{k:Nat}{es:List (List A)}:Src P H (.rsl k es) k es:=by
 intro l i σ w v s ⟨a,c,h1,h2,h3⟩;subst h1;refine⟨⟨a,c,rfl⟩,?_⟩;rcases h3 with rfl|⟨b,f,rfl,j,d⟩
 .exact⟨trivial,[],λ_ _=>Y4,rfl,by simp⟩
 .obtain⟨e,h,g⟩:=d.flat;exact⟨h,Qb9 e g⟩
theorem Src.nils{k:Nat}:Src P H .nils k []:=by
 intro b a σ w v s h;simp only[VR]at h;subst h;exact⟨⟨none,0,rfl⟩,trivial,[],λ_ _=>Y4,rfl,by simp⟩
theorem RR.drop{b k:Nat}:∀(n:Nat) {es:List (List A)} {off:Nat},RR ro σ w b k es off->RR ro σ w b k (es.drop n) (off+n*k)
 |0,_,_,h=>by simpa using h
 |n+1,[],_,_=>trivial
 |n+1,c::es,off,⟨h1,h2,h3⟩=>by
  have:=RR.drop n h3;rw[show off+(n+1)*k=off+k+n*k from by rw[Xm];omega];exact this
theorem RR.take{b k:Nat}:∀(n:Nat) {es:List (List A)} {off:Nat},RR ro σ w b k es off->RR ro σ w b k (es.take n) off
 |0,_,_,h=>trivial
 |n+1,[],_,_=>trivial
 |n+1,c::es,off,⟨h1,h2,h3⟩=>⟨h1,h2,RR.take n h3⟩
theorem Src.osl{i s n k t:Nat}{es es':List (List A)}(hH:H[i]?=some (.row t k es))(he:(es.drop s).take n=es')(G:s+n<=es.length):Src P H (.osl i s n k) k es':=by
 intro F y σ w v sm h;have d:es'.length=n:=by rw[<- he];simp;omega
 rcases h with⟨rfl,rfl⟩|⟨b,p,a,B,m,r,rfl,q,J,E,z⟩
 .have e:es'=[]:=VN.1 d;subst e;exact⟨⟨none,0,rfl⟩,trivial,[],λ_ _=>Y4,rfl,by simp⟩
 .rw[d];refine⟨⟨_,a,rfl⟩,?_⟩;obtain⟨l,f,g⟩:=sm.blk i _ _ r hH;have j:=((YX (pre:=[]) (by simpa using f) g).drop s).take n;rw[he]at j;by_cases x:0<a
  .obtain rfl:=q x;obtain⟨f,g,u⟩:=j.flat;refine⟨g,?_⟩;have:=Qb9 (P:=P) (n:=n) (c:=a) f (by rw[u,d]);simpa using this
  .obtain rfl:n=0:=by omega
   have e:es'=[]:=VN.1 d;subst e;exact⟨trivial,[],λ_ _=>Y4,rfl,by simp⟩
def Qy:Nat:=4294967296
theorem Qep(n c:Nat)(h:c<n):Builtin.nextslicecap n c<=4*n+1000:=by
 unfold Builtin.nextslicecap;split
 .omega
 .split
  .omega
  .have a:∀(r c:Nat),c<=2*n+400->Builtin.growBy n r c<=4*n+1000:=by
    intro r
    induction r with
    |zero=>intro c b;simp[Builtin.growBy];omega
    |succ r d=>
     intro c b;simp only[Builtin.growBy];split
     .omega
     .exact d _ (by omega)
   exact a 4 c (by omega)
structure QV (P:Program) (T e k:Nat):Prop where
 sl:∀w,(underlying T).run P w=.ok (.slice e) w
 size:∀w,(sizeOf e).run P w=.ok k w
 zero:∃z,(∀w,(zeroValue e).run P w=.ok z w)/\z.cells.size=k
 bytes:∃i,(∀w,(typeInfo e).run P w=.ok i w)/\i.bytes<=4096
theorem Qjl{T k:Nat}{es:List (List A)}{l rest:List Value}(s:Sim fr ro σ H w)(hk:allK k es)(h:LR ro [] w es.flatten l)(hp:∀v∈l,Qq v):
  Sim fr ro (σ++[some w.heap.size]) (H++[.row T k es]) (w.alloc (.cells (l++rest).toArray T))/\Qh fr ro w ro (w.alloc (.cells (l++rest).toArray T)):=
 ⟨s.allocRow hk h hp,Qh.alloc _ s.roLt s.frLt⟩
theorem Yy{k:Nat}:∀{es:List (List A)},allK k es->es.flatten.length=es.length*k
 |[],_=>by simp
 |c::es,⟨h1,h2⟩=>by simp[Yy h2,h1,Xm,Nat.add_comm]
theorem Qeh{k:Nat}:∀{es fs:List (List A)},allK k es->allK k fs->allK k (es++fs)
 |[],_,_,h=>h
 |c::es,_,⟨h1,h2⟩,h=>⟨h1,Qeh h2 h⟩
theorem QgV{k:Nat}:∀{es:List (List A)} (n:Nat),allK k es->allK k (es.take n)
 |_,0,_=>trivial
 |[],n+1,_=>trivial
 |c::es,n+1,⟨h1,h2⟩=>⟨h1,QgV n h2⟩
theorem RL.allK{k:Nat}:∀{es:List (List A)} {l:List Value},RL ro σ w k es l->allK k es
 |[],_,_=>trivial
 |c::es,l,⟨l1,l2,h1,h2,h3,h4⟩=>⟨h2,RL.allK h4⟩
theorem RL.app{k:Nat}:∀{n:Nat} {es fs:List (List A)} {l m:List Value},RL ro σ w k es l->n<=es.length->Sw.allK k fs->LR ro σ w fs.flatten m->(∀v∈m,Qq v)->
  RL ro σ w k (es.take n++fs) (Sw.splice l (n*k) m)
 |0,es,fs,l,m,h,hn,hk,hm,hp=>by
  simp only[List.take_zero,Vl,Nat.zero_mul];unfold Sw.splice;simp only[List.take_zero,Vl];exact Jt hk hm hp
 |n+1,[],fs,l,m,h,hn,hk,hm,hp=>by simp at hn
 |n+1,c::es,fs,l,m,⟨l1,l2,h1,h2,h3,h4⟩,hn,hk,hm,hp=>by
  subst h1;have hl1:=h3.1.length;refine⟨l1,Sw.splice l2 (n*k) m,?_,h2,h3,RL.app h4 (by simpa using hn) hk hm hp⟩;have e1:(n+1)*k=l1.length+n*k:=by rw[Xm];omega
  unfold Sw.splice;rw[e1,Vf,show l1.length+n*k+m.length=l1.length+(n*k+m.length)from by omega,Ve];simp
theorem Qib{T T' e e' k need cap:Nat}{t:TypeId}(E:QV P T e k)(N:∀w,(underlying T').run P w=.ok (.slice e') w){ad:Option Addr}{n m c:Nat}{ax:Option Addr}
  (d:need=n+m)(g:cap<need)(b:need<=Qy){old new:List Value}
  (y:∀w':World,w'.heap=w.heap->(Builtin.firstCells k m (.slice ax m c)).run P w'=.ok new.toArray w')(r:∀w':World,w'.heap=w.heap->(Builtin.firstCells k n (.slice ad n cap)).run P w'=.ok old.toArray w'):
  ∃(rest:List Value) (a:Nat),need<=a/\rest.length=(a-need)*k/\(Builtin.append_ #[T,T'] t #[.slice ad n cap,.slice ax m c]).run P w=
   .ok (.slice (some ⟨w.heap.size,0,none⟩) need a) (({w with drawn:=w.drawn+1}:World).alloc (.cells ((old++new)++rest).toArray e)):=by
 obtain⟨z,G,p⟩:=E.zero;obtain⟨i,O,B⟩:=E.bytes
 let a:=need+w.tape w.drawn (.appendCap need cap e)%(2^63-need)
 refine⟨(Builtin.zeroCells z.cells (a-need)).toList,a,Nat.le_add_right _ _,by simp[Builtin.zeroCells,p],?_⟩;have f:¬(need<=cap):=by omega
 have s:¬((need:Int)>IntKind.i64.max/\(False\/i.bytes=0)):=by
  rintro⟨q,_⟩;have:IntKind.i64.max=9223372036854775807:=by decide
  rw[this]at q;unfold Qy at b;omega
 have L:¬(Builtin.nextslicecap need cap*i.bytes>2^48):=by
  have:=Qep need cap g;have u:Builtin.nextslicecap need cap*i.bytes<=(4*need+1000)*4096:=Nat.mul_le_mul this B;unfold Qy at b;omega
 generalize hF:Builtin.firstCells=F at y r;unfold Builtin.append_;rw[hF];have l:∀W:World,(choose (.appendCap need cap e)).run P W=.ok (need+W.tape W.drawn (.appendCap need cap e)%(2^63-need)) {W with drawn:=W.drawn+1}:=by
  intro W;simp[choose,Sem.run,Question.forced,Question.cut]
 have j:∀(x:Nat) (W:World),(askRoom x).run P W=.ok () W:=by
  intro x W;unfold askRoom;split<;>rfl
 have h:∀(c:Array Value) (W:World),(newRow e c).run P W=.ok ⟨W.heap.size,0,none⟩ (W.alloc (.cells c e)):=λc W=>rfl;subst d;simp only[not_and,false_or]at s;have u:¬(((n+m:Nat):Int)>IntKind.i64.max/\(False\/i.bytes=0)):=by simpa using s
 simp only[XK,XI,XJ,Vr,E.sl,E.size,N,O,G,Result.andThen,Builtin.lenOf,Vs,Xi,if_false,XL,
  Xh,if_true,Vw f,Vw u,Vw L,l,j]
 have H:=r {w with drawn:=w.drawn+1} rfl;have M:=y {w with drawn:=w.drawn+1} rfl;simp only[H,M,h];have J:old.toArray++new.toArray++Builtin.zeroCells z.cells (a-(n+m))=((old++new)++(Builtin.zeroCells z.cells (a-(n+m))).toList).toArray:=by
  apply Array.toList_inj.1;simp
 rw[<- J]
theorem QcW{T T' e e' k cap:Nat}{t:TypeId}(E:QV P T e k)(f:∀w,(underlying T').run P w=.ok (.slice e') w){ad:Option Addr}{n m c:Nat}{ax:Option Addr}
  (b:n+m<=cap){new:List Value}(d:(Builtin.firstCells k m (.slice ax m c)).run P w=.ok new.toArray w):
  (Builtin.append_ #[T,T'] t #[.slice ad n cap,.slice ax m c]).run P w=
   match ad with
   |some a=>(do storeCells (a.add (n*k)) new;pure (Value.slice ad (n+m) cap):Sem Value).run P w
   |none=>.ok (.slice ad (n+m) cap) w:=by
 generalize hF:Builtin.firstCells=F at d;unfold Builtin.append_;rw[hF];simp only[XK,XI,XJ,Vr,E.sl,E.size,f,Result.andThen,Builtin.lenOf,Vs,Xi,if_false,XL,
  Xh,if_true,Vx b,d]
 cases ad with
 |none=>rfl
 |some a=>simp only[Vr,Result.andThen,Vs]
theorem Sim.weaken(s:Sim fr ro σ H w){i:Nat}{x x':Blk}(hH:H[i]?=some x)(hl:x.live=true)(n:∀y,BR ro σ w x y->BR ro σ w x' y)
  (r:∀b c,Hid w x' b c->Hid w x b c:=by exact λ_ _ h=>h.elim):Sim fr ro σ (H.set i x') w:=by
 have P:i<H.length:=(XP.1 hH).1;have B:(H.set i x')[i]?=some x':=Xa P;have l:∀j,j≠i->(H.set i x')[j]?=H[j]? :=λj Q=>XT (λq=>Q q.symm);have a:∀(j:Nat) (v:Blk),(H.set i x')[j]?=some v->(j=i/\v=x')\/(j≠i/\H[j]?=some v):=by
  intro j v h;by_cases e:j=i
  .subst e;rw[B]at h;cases h;exact .inl ⟨rfl,rfl⟩
  .rw[l j e]at h;exact .inr ⟨e,h⟩
 have m:∀(j:Nat) (v:Blk),(H.set i x')[j]?=some v->v.live=true->∃f,H[j]?=some f/\f.live=true:=by
  intro j v h N;rcases a j v h with⟨rfl,rfl⟩|⟨_,h⟩
  .exact⟨x,hH,hl⟩
  .exact⟨v,h,N⟩
 refine⟨by rw[X8];exact s.len,s.roOk,s.frLt,s.roFr,?_,?_,?_,s.hidTo (· = ·) QZ (XX _) (λ_ _ _ _ _ _ _ q=>q) (λ_ _ _ _ _ _ _ q=>q) λj d y J O V=>.inl ?_⟩
 rotate_left 3
 .rcases a j y O with⟨rfl,rfl⟩|⟨_,h⟩
  .exact⟨j,x,rfl,J,hH,λ_=>hl,λc q=>r d c q⟩
  .exact⟨j,y,rfl,J,h,id,λ_ q=>q⟩
 .intro j b v g k z;obtain⟨f,t,F⟩:=m j v k z;exact s.own j b f g t F
 .intro j G b v f g k z T L M;obtain⟨u,t,F⟩:=m j v z L;obtain⟨R,p,E⟩:=m G f T M;exact s.inj j G b u R g k t p F E
 .intro j y v g k;rcases a j v k with⟨rfl,rfl⟩|⟨_,h⟩
  .exact n y (s.blk j y x g hH)
  .exact s.blk j y v g h
theorem RL.take{k:Nat}:∀(n:Nat) {es:List (List A)} {l:List Value},RL ro σ w k es l->RL ro σ w k (es.take n) l
 |0,_,_,_=>trivial
 |n+1,[],_,_=>trivial
 |n+1,c::es,l,⟨l1,l2,h1,h2,h3,h4⟩=>⟨l1,l2,h1,h2,h3,RL.take n h4⟩
theorem Y5{c:Call}{T T':TypeId}{x y:Operand}(a:o.op=.call c)(b:c={callee:=.builtin .append,args:= #[x,y],argTypes:= #[T,T']})(ρ:Operand->Value){v:Value}{w':World}
  (h:(Builtin.append_ #[T,T'] o.type #[ρ x,ρ y]).run P w=.ok v w'):(execOp ρ o).run P w=.ok (.value v) w':=by
 subst b;simp only[execOp,a,resolve,invoke,Go.builtin,Vr,Vs,Result.andThen];simp only[XM,Vn,Vp,h]
theorem Sim.phantom(s:Sim fr ro σ H w)(t k:Nat):Sim fr ro (σ++[none]) (H++[.row t k []]) w:=by
 have g:=s.len;have f:∀(i b:Nat),(σ++[none])[i]?=some (some b)->i<σ.length:=by
  intro i b a;rcases VG i σ.length with q|q
  .exact q
  .rw[XR q]at a;cases n:i-σ.length with
   |zero=>rw[n]at a;simp at a
   |succ j=>rw[n]at a;simp at a
 refine⟨by simp[g],s.roOk,s.frLt,s.roFr,?_,?_,?_,s.hidTo (· = ·) QZ (XX _) (λ_ _ _ _ _ _ _ q=>q) (λ_ _ _ _ _ _ _ q=>q) λj d y a e l=>.inl ?_⟩
 rotate_left 3
 .have q:=f j d a;rw[XQ q]at a;rw[XQ (by omega)]at e;exact⟨j,y,rfl,a,e,id,λ_ q=>q⟩
 .intro i b z a e l;have q:=f i b a;rw[XQ q]at a;rw[XQ (by omega)]at e;exact s.own i b z a e l
 .intro i j b z r a e l m u B;have p:=f i b a;have x:=f j b e;rw[XQ p]at a;rw[XQ x]at e;rw[XQ (by omega)]at l m;exact s.inj i j b z r a e l m u B
 .intro i y z a e;have ext:Ext ro σ w ro (σ++[none]) w:=⟨λ_ q=>q,λ_ _=>rfl,λ_ _ q=>q,λ_ _ h=>YM h⟩;rcases Nat.lt_trichotomy i σ.length with q|q|q
  .rw[XQ q]at a;rw[XQ (by omega)]at e;exact(s.blk i y z a e).keep ext (λ_ _ _=>rfl) (λ_ _ _ _=>rfl)
  .subst q;have F:(σ++[none])[σ.length]?=some none:=by simp
   have E:(H++[Blk.row t k []])[σ.length]?=some (.row t k []):=by rw[g];simp
   rw[F]at a;rw[E]at e;cases a;cases e;rfl
  .rw[XS (by simp;omega)]at a;simp at a
theorem Sim.kill(s:Sim fr ro σ H w)(i:Nat):Sim fr ro σ (H.set i .dead) w:=by
 have a:∀(j:Nat) (v:Blk),(H.set i .dead)[j]?=some v->v≠ .dead->H[j]?=some v:=by
  intro j v h k;by_cases e:j=i
  .subst e;rw[Xb]at h;simp only[if_true]at h;split at h
   .cases h;exact absurd rfl k
   .simp at h
  .rw[XT (λq=>e q.symm)]at h;exact h
 refine⟨by rw[X8];exact s.len,s.roOk,s.frLt,s.roFr,?_,?_,?_,s.hidTo (· = ·) QZ (XX _) (λ_ _ _ _ _ _ _ q=>q) (λ_ _ _ _ _ _ _ q=>q) λj d y z t u=>.inl ⟨j,y,rfl,z,a j y t (QeI u),id,λ_ q=>q⟩⟩
 .intro j b v g f l;exact s.own j b v g (a j v f (Qav l)) l
 .intro j r b v p g f l x m n;exact s.inj j r b v p g f (a j v l (Qav m)) (a r p x (Qav n)) m n
 .intro j y v g f;by_cases k:v≠ .dead
  .exact s.blk j y v g (a j v f k)
  .obtain rfl:v=.dead:=Classical.not_not.1 k;trivial
theorem grown{c:Call}{T T' e e' k n m cap cx:Nat}{x y:Operand}{es fs:List (List A)}{a:Act}{ad ax:Option Addr}{old new:List Value}(E:QV P T e k)(hd:∀w,(underlying T').run P w=.ok (.slice e') w)(O:o.op=.call c)
  (hc:c={callee:=.builtin .append,args:= #[x,y],argTypes:= #[T,T']})(R:a.eval x=.slice ad n cap)(h2:a.eval y=.slice ax m cx)(s:Sim fr ro σ H w)(h:cap<n+m)(i:n+m<=Qy)
  (f:∀w':World,w'.heap=w.heap->(Builtin.firstCells k n (.slice ad n cap)).run P w'=.ok old.toArray w')(l:∀w':World,w'.heap=w.heap->(Builtin.firstCells k m (.slice ax m cx)).run P w'=.ok new.toArray w')
  (r:LR ro [] w es.flatten old)(B:∀v∈old,Qq v)(g:allK k es)(d:LR ro [] w fs.flatten new)(z:∀v∈new,Qq v)(p:allK k fs)(G:es.length=n)(u:fs.length=m):
  ∃v w' ro' τ,(execOp a.eval o).run P w=.ok (.value v) w'/\VR ro' (σ++τ) w' (.osl H.length 0 (n+m) k) v/\Sim fr ro' (σ++τ) (H++[.row e k (es++fs)]) w'/\Qh fr ro w ro' w':=by
 obtain⟨rest,Q,L,J,j⟩:=Qib (t:=o.type) E hd rfl h i l f
 let w0:World:={w with drawn:=w.drawn+1}
 have Y:Sim fr ro σ H w0:=s.heap rfl;have W:Qh fr ro w ro w0:=Qh.heap rfl rfl rfl rfl (Nat.le_succ _);have F:LR ro [] w0 (es++fs).flatten (old++new):=by
  rw[Xt];exact(r.append d).mono (Ext.heap (w:=w) (w':=w0) rfl)
 obtain⟨V,X⟩:=Qjl (T:=e) (rest:=rest) Y (Qeh g p) F (λv hv=>by rcases VH.1 hv with q|q;exact B v q;exact z v q);have b:(execOp a.eval o).run P w=.ok (.value _) _:=Y5 O hc a.eval (by rw[R,h2];exact j);refine⟨_,_,ro,[some w.heap.size],b,.inr ⟨w.heap.size,0,Q,e,(old++new++rest).length,?_,rfl,λ_=>by simp,L,?_,?_⟩,V,W.trans X⟩
 .rw[<- s.len];simp
 .have:=Yg w0 (.cells ((old++new)++rest).toArray e);unfold World.shape?;rw[show w.heap.size=w0.heap.size from rfl,this];simp
 .have M:=r.length;have N:=d.length;rw[Yy g]at M;rw[Yy p]at N;simp only[X7,J,M,N,G,u,Xy];rw[<- XD, <- XD];exact XF k (by omega)
theorem Qgc{c:Call}{T T' e e' k:Nat}{x y:Operand}{ya:A}{fs:List (List A)}(E:QV P T e k)(q:∀w,(underlying T').run P w=.ok (.slice e') w)(h:o.op=.call c)
  (s:c={callee:=.builtin .append,args:= #[x,y],argTypes:= #[T,T']})(B:opA env x=.nils)(F:opA env y=ya)(M:Src P H ya k fs)(i:fs.length<=Qy):
  OpH P o env H (.osl H.length 0 fs.length k) (H++[.row e k fs]):=by
 intro G j σ N a w r;have b:=Qg r x;rw[B]at b;simp only[VR]at b;have p:=Qg r y;rw[F]at p;obtain⟨⟨L,z,g⟩,Q,l,f,u,O⟩:=M G j σ w _ r.sim p;rw[g]at f;by_cases J:fs.length=0
 .have d:fs=[]:=VN.1 J;subst d;refine⟨.slice none 0 0,w,j,[none],?_,.inl ⟨rfl,rfl⟩,r.sim.phantom e k,Qh.refl _ _ _⟩;refine Y5 h s _ ?_;rw[b,g];have:=QcW (t:=o.type) E q (ad:=none) (n:=0) (m:=0) (cap:=0) (c:=z) (ax:=L) (XX 0) (f w rfl);simpa using this
 .have:=grown (es:=[]) (old:=[]) E q h s b g r.sim (by omega) (by omega) (λ_ _=>Y4) f rfl (by simp) trivial u O Q rfl rfl;simpa using this
theorem Qji{c:Call}{T T' e e' k i n:Nat}{x y:Operand}{ya:A}{es fs gs:List (List A)}(E:QV P T e k)(hd:∀w,(underlying T').run P w=.ok (.slice e') w)(L:o.op=.call c)
  (hc:c={callee:=.builtin .append,args:= #[x,y],argTypes:= #[T,T']})(hx:opA env x=.osl i 0 n k)(hH:H[i]?=some (.row e k es))(hn:n<=es.length)(B:opA env y=ya)(hs:Src P H ya k fs)(h:n+fs.length<=Qy)
  (hg:es.take n++fs=gs):OpH P o env H (.osl H.length 0 (n+fs.length) k) (H.set i .dead++[.row e k gs]):=by
 intro fr J σ N a w r;subst hg;have g:=Qg r x;rw[hx]at g;have h2:=Qg r y;rw[B]at h2;obtain⟨⟨ay,cy,G⟩,q2,l,W,q4,q5⟩:=hs fr J σ w _ r.sim h2;rw[G]at W;have q:i<H.length:=(XP.1 hH).1;have aa:(H.set i .dead).length=H.length:=X8;obtain⟨s,hσ⟩:∃s,σ[i]?=some s:=⟨_,XO (by rw[r.sim.len];exact q)⟩;rcases g with⟨rfl,g⟩|⟨b,p,cap,t',mm,X,g,h4,h5,Q,h7⟩
 ·
  by_cases hm:fs.length=0
  .have z:fs=[]:=VN.1 hm;subst z;refine⟨.slice none 0 0,w,J,[none],?_,.inl ⟨rfl,rfl⟩,(r.sim.kill i).phantom e k,Qh.refl _ _ _⟩;refine Y5 L hc _ ?_;rw[g,G];have:=QcW (t:=o.type) E hd (ad:=none) (n:=0) (m:=0) (cap:=0) (c:=cy) (ax:=ay) (XX 0) (W w rfl);simpa using this
  .have:=grown (es:=[]) (old:=[]) E hd L hc g G (r.sim.kill i) (by omega) h (λ_ _=>Y4) W rfl (by simp) trivial q4 q5 q2 rfl rfl;rw[aa]at this;simpa using this
 .have M:=r.sim.blk i _ _ X hH;obtain⟨V,g1,g2⟩:=M;have O:(es.take n).length=n:=by simp;omega
  obtain⟨old,o1,o2,o3⟩:∃old:List Value,(∀w':World,w'.heap=w.heap->(Builtin.firstCells k n (.slice (some ⟨b,p,none⟩) n cap)).run P w'=.ok old.toArray w')/\LR J [] w (es.take n).flatten old/\ ∀v∈old,Qq v:=by
   have R:Src P H (.osl i 0 n k) k (es.take n):=Src.osl hH (by simp) (by omega);obtain⟨_,_,l',z1,z2,z3⟩:=R fr J σ w (.slice (some ⟨b,p,none⟩) n cap) r.sim (.inr ⟨b,p,cap,t',mm,X,rfl,h4,h5,Q,h7⟩);rw[O]at z1;exact⟨l',z1,z2,z3⟩
  by_cases d:n+fs.length<=cap
  .have j:=QcW (t:=o.type) E hd (ad:=some ⟨b,p,none⟩) (n:=n) (m:=fs.length) (cap:=cap) (c:=cy) (ax:=ay) d (W w rfl);have F:l.length=fs.length*k:=by rw[q4.length,Yy q2]
   by_cases hm:fs.length=0
   .have z:fs=[]:=VN.1 hm;subst z;have el:l=[]:=VN.1 (by rw[F];simp);subst el;have sw:=(r.sim.weaken (x':=.row e k (es.take n)) hH rfl (by
     intro y B;cases y with
     |none=>simp only[BR]at B⊢;subst B;simp
     |some y=>obtain⟨V,g1,g2⟩:=B;exact⟨V,g1,g2.take n⟩))
    have Y:=sw.moved (i:=i) (Xa q) X;rw[List.set_set]at Y;refine⟨.slice (some ⟨b,p,none⟩) n cap,w,J,[some b],?_,.inr ⟨b,p,cap,t',mm,?_,by simp,h4,by simpa using h5,Q,h7⟩,by simpa using Y,Qh.refl _ _ _⟩
    .refine Y5 L hc _ ?_;rw[g,G];simpa[storeCells,go_sem]using j
    .rw[<- r.sim.len];simp
   .obtain rfl:p=0*k:=h4 (by omega);have u:(n+fs.length)*k<=V.length:=by
     have:w.shape? b=some (e,V.length):=by unfold World.shape?;rw[g1];simp
     rw[this]at Q;cases Q;exact XZ (XF k d) (by simpa using h7)
    rw[XD]at u;have ab:=Q3 (P:=P) (vs:=l) (n*k) 0 g1 (by rw[F];simpa using u) q5;have f:=r.sim.set (x':=.row e k (es.take n++fs)) (obj:=.cells (splice V (n*k) l).toArray e (0,0)) X hH rfl
     (λy B=>Qae g1 (Q2 (by rw[F];exact u)) y B)
     (λex ac=>⟨_,ac,(g2.app hn q2 q4 q5).mono ex.nil⟩)
    have Y:=f.1.moved (i:=i) (Xa q) X;rw[List.set_set]at Y;refine⟨.slice (some ⟨b,0*k,none⟩) (n+fs.length) cap,_,J,[some b],?_,.inr ⟨b,0*k,cap,t',mm,?_,rfl,h4,d,?_,h7⟩,Y,f.2⟩
    .refine Y5 L hc _ ?_;rw[g,G,j];simp only[Ji,Nat.zero_mul,Xy,Vr,ab,Result.andThen,Vs];simp
    .rw[<- r.sim.len];simp
    .exact f.2.shape _ _ Q
  .have:=grown (es:=es.take n) (old:=old) (fs:=fs) E hd L hc g G (r.sim.kill i) (by omega) h o1 W o2 o3 (QgV n g2.allK) q4 q5 q2 O rfl;rw[aa]at this;exact this
end
end Go.Sw
namespace Go.Sw
section
variable {P:Program} {o:Oper} {env:Env} {H:Qd}
theorem OpC.fn{c:Call}{f:FuncId}{xs:List Operand}{d:Array TypeId}{args:List A}(b:∀(a:Array Value) (w:World),(callFunc f a).run P w=.ok (.enter f a) w)(g:o.op=.call c)
  (i:c={callee:=.value (.func f),args:=xs.toArray,argTypes:=d})(h:xs.map (opA env)=args):OpC P o env H f args:=by
 intro k j σ N a w r;refine⟨xs.map a.eval,?_,h▸Qbl r xs⟩;subst i;have e:a.eval (.func f)=.func (.func f) #[] #[]:=rfl;generalize a.eval=ρ at*;simp only[execOp,g,resolve,e,Deferred.ofValue,invoke,Vr,Vs,Result.andThen,b];simp
theorem QaF{c:Call}{f:FuncId}{x:Operand}{xs:List Operand}{k:Array TypeId}{args vf vc:List A}(b:∀(a:Array Value) (w:World),(callFunc f a).run P w=.ok (.enter f a) w)(h:o.op=.call c)
  (n:c={callee:=.value x,args:=xs.toArray,argTypes:=k})(g:opA env x=.fn (.func f) vf vc)(j:vf++(xs.map (opA env)++vc)=args):OpC P o env H f args:=by
 intro q p σ N a w r;have d:=Qg r x;rw[g]at d;obtain⟨l,e,d,i,m⟩:=d;refine⟨l++(xs.map a.eval++e),?_,j▸i.append ((Qbl r xs).append m)⟩;subst n;generalize a.eval=ρ at*;simp only[execOp,h,resolve,d,Deferred.ofValue,invoke,Vr,Vs,Result.andThen,b];simp
def Qel(ρ:Nat->Nat)(env:Env):Env->Prop
 |[]=>True
 |(s,a)::r=>lk env s=YF ρ a/\Qel ρ env r
theorem Qel.ok{ro:Nat->Prop}{σ σ':Sig}{w:World}{ρ:Nat->Nat}(h:∀i:Nat,σ[ρ i]?=σ'[i]?){t:Array Value}(r:∀s,VR ro σ w (lk env s) (t.getD s undef)):
  ∀{env':Env},Qel ρ env env'->∀s,VR ro σ' w (lk env' s) (t.getD s undef)
 |[],_,s=>trivial
 |(d,a)::e,⟨h1,h2⟩,s=>by
  simp only[lk];by_cases q:s=d
  .subst q;rw[VJ];have:=r s;rw[h1]at this;exact(QdR h).1 this
  .have:Nat.beq s d=false:=by
    rw[VQ];intro b;exact q (XU b)
   rw[this];exact Qel.ok h r h2 s
theorem Sim.sub{fr ro:Nat->Prop}{σ:Sig}{w:World}{π:List Nat}{H':Qd}(s:Sim fr ro σ H w)(hH:π.map (λp=>H[p]?)=(H'.map (QW (rho π H.length))).map some)(hπ:π.Nodup):
  Sim fr ro (Yh σ π) H' w/\ ∀j:Nat,σ[rho π H.length j]?=(Yh σ π)[j]? :=by
 have O:∀p∈π,p<H.length:=λp q=>Jk hH q;have hσl:=s.len;have k:∀(j p:Nat),π[j]?=some p->H[p]?=(H'[j]?).map (QW (rho π H.length)):=by
  intro j p a;have:=congrArg (λl=>l[j]?) hH;simp only[Xq,a,Xj]at this;cases e:H'[j]? with
  |none=>rw[e]at this;simp at this
  |some x=>rw[e]at this;simpa using this
 have t:π.length=H'.length:=by simpa using congrArg List.length hH
 have hσc:∀j:Nat,σ[rho π H.length j]?=(Yh σ π)[j]? :=by
  intro j;have:=Qev (τ:=[]) hσl O j;simpa using this
 have hπj:∀(j b:Nat),(Yh σ π)[j]?=some (some b)->∃p,π[j]?=some p/\σ[p]?=some (some b):=by
  intro j b a;simp only[Yh,Xq]at a;cases e:π[j]? with
  |none=>rw[e]at a;simp at a
  |some p=>
   rw[e]at a;simp at a;refine⟨p,rfl,?_⟩;cases m:σ[p]? with
   |none=>rw[m]at a;simp at a
   |some s=>rw[m]at a;simp at a;rw[a]
 have hπi:∀(i j p:Nat),π[i]?=some p->π[j]?=some p->i=j:=by
  intro i j p g f;have n:i<π.length:=(XP.1 g).1;have a:j<π.length:=(XP.1 f).1;rw[XO n]at g;rw[XO a]at f;have h:=(X4 g).trans (X4 f).symm;rcases Nat.lt_trichotomy i j with q|q|q
  .exact(VI.1 hπ i j n a q h).elim
  .exact q
  .exact(VI.1 hπ j i a n q h.symm).elim
 refine⟨⟨by simp[Yh,t],s.roOk,s.frLt,s.roFr,?_,?_,?_,s.hidTo (λj p=>π[j]?=some p) hπi (XX _) (λ_ _ _ _ _ _ _ q=>q) (λ_ _ _ _ _ _ _ q=>q) λj d y P M Q=>.inl ?_⟩,hσc⟩
 rotate_left 3
 .obtain⟨p,g,m⟩:=hπj j d P;exact⟨p,QW (rho π H.length) y,g,m,by rw[k j p g,M];rfl,by rw[QO];exact id,λc q=>(Qam _ _ _ _ _).2 q⟩
 .intro j b x r z G;obtain⟨p,g,m⟩:=hπj j b r;have u:H[p]?=some (QW (rho π H.length) x):=by rw[k j p g,z];rfl
  exact s.own p b _ m u (by rw[QO];exact G)
 .intro i j b x y r z G J N L;obtain⟨p,g,m⟩:=hπj i b r;obtain⟨F,f,E⟩:=hπj j b z;have u:H[p]?=some (QW (rho π H.length) x):=by rw[k i p g,G];rfl
  have B:H[F]?=some (QW (rho π H.length) y):=by rw[k j F f,J];rfl
  have:=s.inj p F b _ _ m E u B (by rw[QO];exact N) (by rw[QO];exact L);subst this;have n:i<π.length:=(XP.1 g).1;have a:j<π.length:=(XP.1 f).1;rw[XO n]at g;rw[XO a]at f;have h:=(X4 g).trans (X4 f).symm;rcases Nat.lt_trichotomy i j with q|q|q
  .exact(VI.1 hπ i j n a q h).elim
  .exact q
  .exact(VI.1 hπ j i a n q h.symm).elim
 .intro j y x r z;have a:j<π.length:=by
   rcases VG j π.length with q|q
   .exact q
   .rw[XS (by simpa[Yh]using q)]at r;simp at r
  have g:π[j]?=some π[j]:=XO a;have u:H[π[j]]?=some (QW (rho π H.length) x):=by rw[k j _ g,z];rfl
  have m:σ[π[j]]?=some y:=by
   have:=hσc j;rw[r]at this;simpa[rho,g]using this
  exact(Qh0 hσc).1 (s.blk _ y _ m u)
theorem Qof{h0:Nat}{env':Env}{H':Qd}(π:List Nat)(b:π.take h0=List.range h0)(hH:π.map (λp=>H[p]?)=(H'.map (QW (rho π H.length))).map some)(hπ:π.Nodup)
  (hE:Qel (rho π H.length) env env'):Le h0 env H env' H':=by
 intro k e σ N a w r;obtain⟨h,hσ⟩:=r.sim.sub hH hπ;refine⟨e,Yh σ π,⟨h,Qel.ok hσ r.env hE,r.size,r.defers⟩,λ_ q=>q,?_⟩;have g:=r.sim.len;have j:∀p∈π,p<H.length:=λp q=>Jk hH q;unfold Yh;rw[<- List.map_take,b];apply List.ext_getElem?;intro i;rcases VG i h0 with q|q
 .have f:i∈π:=List.mem_of_mem_take (i:=h0) (by rw[b];exact List.mem_range.2 q);have d:i<σ.length:=by rw[g];exact j i f
  rw[Xq,List.getElem?_take,Vx q,List.getElem?_range q];simp[XO d]
 .rw[XS (by simpa using q),List.getElem?_take,Vw (by omega)]
theorem Le.phantom{h0 s k t:Nat}(f:h0<=H.length)(e:lk env s=.nils):Le h0 env H (up env s (.osl H.length 0 0 k)) (H++[.row t k []]):=by
 intro i d σ N a w r;refine⟨d,σ++[none],⟨r.sim.phantom t k,?_,r.size,r.defers⟩,λ_ q=>q,Qt (by rw[r.sim.len];exact f)⟩;have ext:Ext d σ w d (σ++[none]) w:=⟨λ_ q=>q,λ_ _=>rfl,λ_ _ q=>q,λ_ _ h=>YM h⟩;intro b;simp only[lk];by_cases q:b=s
 .subst q;rw[VJ];have:=r.env b;rw[e]at this;exact .inl ⟨rfl,this⟩
 .have:Nat.beq b s=false:=by
   rw[VQ];intro g;exact q (XU g)
  rw[this];exact(r.env b).mono ext
theorem Qpk{h0 s k:Nat}(e:lk env s=.nils):Le h0 env H (up env s (.rsl k [])) H:=by
 intro g d σ N a w r;refine⟨d,σ,⟨r.sim,?_,r.size,r.defers⟩,λ_ q=>q,rfl⟩;intro b;simp only[lk];by_cases q:b=s
 .subst q;rw[VJ];have:=r.env b;rw[e]at this;exact⟨none,0,this,XX _,.inl rfl⟩
 .have:Nat.beq b s=false:=by
   rw[VQ];intro f;exact q (XU f)
  rw[this];exact r.env b
mutual
def Yq:A->Bool
 |.bool _=>true
 |.int _ _=>true
 |.str _=>true
 |.tup vs=>Qew vs
 |_=>false
def Qew:List A->Bool
 |[]=>true
 |a::r=>Yq a&&Qew r
end
mutual
theorem VR.scalar{ro ro':Nat->Prop}{σ σ':Sig}{w w':World}:∀{a:A} {v:Value},Yq a=true->VR ro σ w a v->VR ro' σ' w' a v
 |.bool _,_,_,h=>h
 |.int _ _,_,_,h=>h
 |.str _,_,_,h=>h
 |.tup vs,v,hs,h=>by
  simp only[VR,Yq]at h hs⊢;obtain⟨l,h1,h2⟩:=h;exact⟨l,h1,LR.scalar hs h2⟩
 |.any,_,hs,_=>by simp[Yq]at hs
 |.nilp,_,hs,_=>by simp[Yq]at hs
 |.ptr _ _,_,hs,_=>by simp[Yq]at hs
 |.rp _,_,hs,_=>by simp[Yq]at hs
 |.nils,_,hs,_=>by simp[Yq]at hs
 |.rsl _ _,_,hs,_=>by simp[Yq]at hs
 |.osl _ _ _ _,_,hs,_=>by simp[Yq]at hs
 |.agg _,_,hs,_=>by simp[Yq]at hs
 |.fn _ _ _,_,hs,_=>by simp[Yq]at hs
 |.nilf,_,hs,_=>by simp[Yq]at hs
 |.iface _ _,_,hs,_=>by simp[Yq]at hs
 |.nilif,_,hs,_=>by simp[Yq]at hs
 |.map _,_,hs,_=>by simp[Yq]at hs
 |.nilm,_,hs,_=>by simp[Yq]at hs
theorem LR.scalar{ro ro':Nat->Prop}{σ σ':Sig}{w w':World}:∀{az:List A} {l:List Value},Qew az=true->LR ro σ w az l->LR ro' σ' w' az l
 |[],_,_,h=>h
 |a::r,l,hs,h=>by
  simp only[LR,Qew,X0]at h hs⊢;obtain⟨v,l',h1,h2,h3⟩:=h;exact⟨v,l',h1,VR.scalar hs.1 h2,LR.scalar hs.2 h3⟩
end
def Look(H:Qd):A->A->Prop:=λa a'=>(a'=a/\Yr a=true)\/ ∃i n k t es,a=.osl i 0 n k/\H[i]?=some (.row t k es)/\es.length=n/\a'=.rsl k es
def Qbo(H:Qd):List A->List A->Prop
 |[],[]=>True
 |a::az,b::bs=>Look H a b/\Qbo H az bs
 |_,_=>False
theorem Qdk{h0 N:Nat}{Q:QD}{all:Array Oper}{l:List Oper}{d:Nat}{f:FuncId}{args B:List A}{Qr:A->Qd->Prop}(ac:OpC P o env H f args)(hv:Qbo H args B)(hC:C P f B [] Qr)
  (aa:∀r H1,Qr r H1->Yq r=true)(k:∀r H1,Qr r H1->WO P h0 N all l (up env d r) H Q)(hg:Qp all o env true:=by exact rfl)(hd:o.dst=some d:=by exact rfl)(hN:Nat.blt d N=true:=by exact rfl):WO P h0 N all (o::l) env H Q:=by
 intro rd fr ro σ a w r hrd;obtain⟨R,h1,h2⟩:=ac fr ro σ N a w r;refine Qdx (YI hg r) h1 ?_
 let roc:Nat->Prop:=λb=>ro b\/ ∃(i:Nat) (x:Blk),σ[i]?=some (some b)/\H[i]?=some x/\x.live=true
 let frc:Nat->Prop:=λb=>fr b\/ ∃(i:Nat) (x:Blk) (d:Nat),σ[i]?=some (some d)/\H[i]?=some x/\Hid w x d b
 have O:Sim frc roc [] [] w:=by
  refine⟨rfl,r.sim.roOk.to (λ_ q=>.inl q) (λ_ _=>rfl) ?_,?_,?_,by simp,by simp,by simp,by simp⟩
  .rintro b (q|⟨i,x,u,g,E⟩)
   .exact r.sim.roLt b q
   .exact(r.sim.own i b x u g E).1
  .rintro b (q|⟨i,x,d,u,g,E⟩)
   .exact r.sim.frLt b q
   .exact(r.sim.hid i d x b u g E).lt
  .rintro b (q|⟨i,x,u,g,E⟩) (q'|⟨i',x',d',V,Y,W⟩)
   .exact r.sim.roFr b q q'
   .exact(r.sim.hid i' d' x' b V Y W).ro q
   .exact(r.sim.own i b x u g E).2.2 q'
   .exact(r.sim.hid i' d' x' b V Y W).ne i b x u g E rfl
 have L:∀(az G:List A) (l:List Value),Qbo H az G->LR ro σ w az l->LR roc [] w G l:=by
  intro az
  induction az with
  |nil=>
   intro G l F h;cases G with
   |nil=>exact h
   |cons b G=>exact F.elim
  |cons x az ih=>
   intro G l F h;cases G with
   |nil=>exact F.elim
   |cons y G=>
    obtain⟨hx,F⟩:=F;obtain⟨v,l',rfl,hv,h⟩:=h;refine⟨v,l',rfl,?_,ih G l' F h⟩;rcases hx with⟨rfl,hx⟩|⟨i,n,k,t,es,rfl,hH,hn,rfl⟩
    .exact(hv.data (σ':=[]) hx).mono ⟨λ_ q=>.inl q,λ_ _=>rfl,λ_ _ q=>q,λ_ _ q=>q⟩
    .subst hn;rcases hv with⟨h0,h⟩|⟨b,p,X,t',m,h1,h,h2,h3,h4,h5⟩
     .have:es=[]:=VN.1 h0;subst this;exact⟨none,0,h,XX _,.inl rfl⟩
     .refine⟨_,X,h,h3,?_⟩;by_cases he:es=[]
      .exact .inl he
      .right;have hc:0<X:=Vj (List.length_pos_iff.2 he) h3;obtain rfl:=h2 hc;obtain⟨l,u,g⟩:=r.sim.blk i _ _ h1 hH;refine⟨b,0,by simp,.inr ⟨i,_,h1,hH,rfl⟩,?_⟩;have:=YX (pre:=[]) (by simpa using u) g;exact this.keep ⟨λ_ q=>.inl q,λ_ _=>rfl,λ_ _ q=>q,λ_ _ q=>q⟩ rfl
 refine Calls.mono (hC frc roc [] R w O (L _ _ _ hv h2)) ?_;rintro e M ⟨v,rr,H1,af,τ,rfl,hq,sc,ae,ev⟩;have J:∀(i b:Nat) (x:Blk),σ[i]?=some (some b)->H[i]?=some x->x.live=true->M.heap[b]?=w.heap[b]? :=λi b x u g E=>ev.keepRo b (.inr ⟨i,x,u,g,E⟩);have z:Qh fr ro w ro M:=⟨λ_ q=>q,λb q=>ev.keepRo b (.inl q),λb q=>ev.keepFr b (.inl q),ev.size,ev.shape,ev.os,ev.tape,ev.output,ev.drawn⟩;have T:Sim fr ro σ H M:=by
  refine⟨r.sim.len,r.sim.roOk.to (λ_ q=>q) z.keepRo (λb q=>Vj (r.sim.roLt b q) ev.size),λb q=>Vj (r.sim.frLt b q) ev.size,r.sim.roFr,?_,r.sim.inj,?_,r.sim.hidTo (· = ·) QZ ev.size (λ_ _ _ _ _ _ _ q=>q) (λ_ _ _ _ _ _ _ q=>q) λj d y g1 g2 g3=>.inl ⟨j,y,rfl,g1,g2,id,λc q=>r.sim.hidKeep g1 g2 (J j d y g1 g2) z.keepRo q⟩⟩
  .intro i b x u g E;obtain⟨p1,p2,p3⟩:=r.sim.own i b x u g E;exact⟨Vj p1 ev.size,p2,p3⟩
  .intro i y x u g;refine(r.sim.blk i y x u g).keep (z.ext0 σ) ?_ ?_
   .rintro b rfl F;exact J i b x u g F
   .rintro b c rfl F;exact ev.keepFr c (.inr ⟨i,x,b,u,g,F⟩)
 have hk:=k rr H1 hq;have ab:d<N:=by simpa using hN
 simp only[hd,Act.put];have r':Rel fr ro σ H (up env d rr) N {a with tmps:=a.tmps.setIfInBounds d v} M:=
  ⟨T,VR.up (fr:=fr) (λs=>(r.env s).mono (z.ext0 σ)) (by rw[r.size];exact ab) (ae.scalar (aa _ _ hq)),by simpa using r.size,r.defers.keep z⟩
 exact⟨_,rfl,Yk (λe a w q=>q.step z rfl) _ _ _ (hk rd fr ro σ _ M r' (hrd.to z λ_ q=>q))⟩
end
end Go.Sw
namespace Go.Sw
section
variable {P:Program} {o:Oper} {env:Env} {H:Qd}
theorem Qgy{α:Type}:∀(vs:List α) (off i:Nat) (l:List α),off+i+vs.length<=l.length->
  (vs.zipIdx i).foldl (λ(cs:Array α) (x:α×Nat)=>cs.setIfInBounds (off+x.2) x.1) l.toArray=(splice l (off+i) vs).toArray
 |[],off,i,l,h=>by simp[splice]
 |v::vs,off,i,l,h=>by
  simp only[X5]at h;rw[List.zipIdx_cons,XH];have e1:l.toArray.setIfInBounds (off+i) v=(splice l (off+i) [v]).toArray:=by
   have:l.toArray.setIfInBounds (off+i) v=(l.set (off+i) v).toArray:=by simp
   rw[this];congr 1;rw[List.set_eq_take_append_cons_drop,Vx (by omega)];simp[splice]
  rw[e1,Qgy vs off (i+1) _ (by rw[Q2 (by simp;omega)];omega)];congr 1;have a:(l.take (off+i)).length=off+i:=by simp;omega
  unfold splice;rw[Vm (l.take (off+i))];have d:off+(i+1)=(l.take (off+i)).length+1:=by omega
  have e:(l.take (off+i)++([v]++l.drop (off+i+[v].length))).take ((l.take (off+i)).length+1)=l.take (off+i)++[v]:=by
   rw[Vf];simp
  have b:(l.take (off+i)++([v]++l.drop (off+i+[v].length))).drop ((l.take (off+i)).length+1+vs.length)=l.drop (off+i+(v::vs).length):=by
   rw[show(l.take (off+i)).length+1+vs.length=(l.take (off+i)).length+(1+vs.length)from by omega,Ve];simp[Nat.add_comm 1];congr 1;omega
  rw[d,e,b];simp
theorem QgB{a:Nat->Option (Nat×Nat)}{l:List Value}{i off size:Nat}{v:Value}{m:List Value}{rest:List (Nat×Value)}(f:a i=some (off,size))(d:v.cells=m.toArray)(e:m.length=size)
  (hl:off+size<=l.length):Instr.fill a l.toArray ((i,v)::rest)=Instr.fill a (splice l off m).toArray rest:=by
 have b:v.cells.size=size:=by rw[d];simpa using e
 rw[Instr.fill];simp only[f];rw[Vw (by simp[b];omega),d];congr 1;have:=Qgy m off 0 l (by omega);rw[Xz]at this;rw[<- this];simp[Array.foldl_toList]
def QaC:Nat->List Operand->List (Nat×Operand)
 |_,[]=>[]
 |i,x::xs=>(i,x)::QaC (i+1) xs
def Q6(env:Env)(xs:List Operand):List (List A):=xs.map λx=>Q9 (opA env x)
theorem Qfo{fr ro:Nat->Prop}{σ:Sig}{N:Nat}{a:Act}{w:World}(r:Rel fr ro σ H env N a w){k:Nat}:∀(xs:List Operand) (j:Nat) (pre rest:List Value),pre.length=j*k->rest.length=xs.length*k->
  (xs.all λx=>Yf (opA env x))=true->allK k (Q6 env xs)->
  ∃l,Instr.fill (λi=>some (i*k,k)) (pre++rest).toArray ((QaC j xs).map λp=>(p.1,a.eval p.2))=some (pre++l).toArray/\LR ro σ w (Q6 env xs).flatten l
 |[],j,pre,rest,h1,h2,_,_=>by
  have:rest=[]:=VN.1 (by simpa using h2);subst this;exact⟨[],rfl,rfl⟩
 |x::xs,j,pre,rest,h1,h2,h3,h4=>by
  simp only[List.all_cons,X0]at h3;obtain⟨hk1,hk2⟩:=h4;obtain⟨m,q1,q2⟩:=(Qg r x).cells h3.1;have hm:m.length=k:=by rw[q2.length];exact hk1
  simp only[X5,Xm]at h2;simp only[QaC,Vn];rw[QgB (off:=j*k) (size:=k) rfl q1 hm (by simp;omega)];have e:splice (pre++rest) (j*k) m=(pre++m)++rest.drop k:=by
   unfold splice;rw[<- h1,List.take_left,Ve,hm]
  rw[e];obtain⟨l,b,d⟩:=Qfo r xs (j+1) (pre++m) (rest.drop k) (by simp[h1,hm,Xm]) (by simp;omega) h3.2 hk2;refine⟨m++l,?_,?_⟩
  .rw[b];simp
  .show LR ro σ w ((Q9 (opA env x))++(Q6 env xs).flatten) (m++l);exact q2.append d
theorem QaK{fr ro:Nat->Prop}{σ:Sig}{N:Nat}{a:Act}{w:World}(r:Rel fr ro σ H env N a w){T e k n:Nat}{xs:List Operand}(E:QV P T e k)(m:xs.length=n)(f:Nat.ble (n*k) 16777216=true)
  (s:(xs.all λx=>Yf (opA env x))=true)(j:allK k (Q6 env xs)):
  ∃l,(Instr.buildSlice T n (((QaC 0 xs).map λp=>(p.1,a.eval p.2)).toArray)).run P w=.ok (.slice (some ⟨w.heap.size,0,none⟩) n n) (w.alloc (.cells l.toArray e))/\LR ro σ w (Q6 env xs).flatten l:=by
 obtain⟨z,t,y⟩:=E.zero;have q:n*k<=16777216:=by simpa using f
 have d:∀(c:Array Value) (W:World),(newRow e c).run P W=.ok ⟨W.heap.size,0,none⟩ (W.alloc (.cells c e)):=λc W=>rfl;unfold Instr.buildSlice;by_cases g:n*k=0
 .obtain⟨l,b,h⟩:=Qfo r (k:=k) xs 0 [] [] (by simp) (by rw[m];simpa using g.symm) s j;refine⟨l,?_,h⟩;simp only[Vr,E.sl,Result.andThen,E.size,g];simp only[Xn,gt_iff_lt,if_false,if_true,Vs,XL,Result.andThen];have u:Array.range 0= #[]:=rfl;simp at b;simp[u,b,d]
 .obtain⟨l,b,h⟩:=Qfo r (k:=k) xs 0 [] ((Array.range (n*k)).map (λi=>z.cells[i%z.cells.size]!)).toList (by simp) (by rw[m];simp) s j;refine⟨l,?_,h⟩;simp only[Vr,E.sl,Result.andThen,E.size,Vw g,XL,t,Vs];rw[Vw (by omega)];simp only[Vl]at b;rw[Array.toArray_toList]at b;simp only[b,Vr,d,Result.andThen,Vs]
theorem Qat{T n:Nat}{xs:List Operand}(a:o.op=.buildSlice T n (QaC 0 xs).toArray)(ρ:Operand->Value){v:Value}{w w':World}
  (h:(Instr.buildSlice T n (((QaC 0 xs).map λp=>(p.1,ρ p.2)).toArray)).run P w=.ok v w'):(execOp ρ o).run P w=.ok (.value v) w':=by
 simp only[execOp,a,Vr,XM,h,Result.andThen,Vs]
theorem OpH.lit{T e k n:Nat}{xs:List Operand}{es:List (List A)}(E:QV P T e k)(t:o.op=.buildSlice T n (QaC 0 xs).toArray)(m:xs.length=n)(b:Nat.ble (n*k) 16777216=true)
  (s:(xs.all λx=>Yf (opA env x))=true)(g:Q6 env xs=es)(d:allK k es)(z:es.flatten.all Yt=true)(y:Yn es.flatten=true):
  OpH P o env H (.osl H.length 0 n k) (H++[.row e k es]):=by
 intro B i σ N a w r;subst g;obtain⟨l,u,f⟩:=QaK r E m b s d;have h:LR i [] w (Q6 env xs).flatten l:=f.data y;obtain⟨j,p⟩:=Qjl (T:=e) (rest:=[]) r.sim d h (f.plain z);rw[Vk]at j p;have q:l.length=n*k:=by rw[f.length,Yy d];simp[Q6,m]
 refine⟨_,_,i,[some w.heap.size],Qat t a.eval u,.inr ⟨w.heap.size,0,n,e,l.length,?_,rfl,λ_=>by simp,XX _,?_,by rw[q,Xy];exact XX _⟩,j,p⟩
 .rw[<- r.sim.len];simp
 .unfold World.shape?;rw[Yg];simp
theorem YP{T e k n:Nat}{xs:List Operand}{es:List (List A)}(E:QV P T e k)(q:o.op=.buildSlice T n (QaC 0 xs).toArray)(i:xs.length=n)(b:Nat.ble (n*k) 16777216=true)
  (p:(xs.all λx=>Yf (opA env x))=true)(g:Q6 env xs=es)(d:allK k es)(u:es.flatten.all Yt=true):
  OpH P o env H (.osl H.length 0 n k) (H++[.rowr e k es]):=by
 intro y j σ N a w r;subst g;obtain⟨l,s,f⟩:=QaK r E i b p d;have h:=r.sim.allocRowr (t:=e) (rest:=[]) d f (f.plain u);rw[Vk]at h;have m:l.length=n*k:=by rw[f.length,Yy d];simp[Q6,i]
 refine⟨_,_,j,[some w.heap.size],Qat q a.eval s,.inr ⟨w.heap.size,0,n,e,l.length,?_,rfl,λ_=>by simp,XX _,?_,by rw[m,Xy];exact XX _⟩,h,Qh.alloc _ r.sim.roLt r.sim.frLt⟩
 .rw[<- r.sim.len];simp
 .unfold World.shape?;rw[Yg];simp
theorem JB{n:Int}{y:Nat}{c:BoundsCode}{w:World}(h0:0<=n)(a:n<=y):(Instr.sliceBound (.int .i64 n) y c).run P w=.ok n.toNat w:=by
 simp[Instr.sliceBound,asIntOf,h0,a,go_sem]
theorem Qhf{T e:Nat}{k:Nat}{w:World}(E1:∀w,(underlying T).run P w=.ok (.slice e) w)(E2:∀w,(sizeOf e).run P w=.ok k w){ad:Option Addr}{n cap:Nat}{lo hi:Option Value}{l h:Nat}(d:n<=cap)
  (a:lo=none/\l=0\/ ∃z:Int,lo=some (.int .i64 z)/\0<=z/\z.toNat=l)(b:hi=none/\h=n\/ ∃z:Int,hi=some (.int .i64 z)/\0<=z/\z.toNat=h)(g:l<=h)(j:h<=n):
  (Instr.sliceAt T (.slice ad n cap) lo hi none).run P w=.ok (.slice (if cap=l then ad else ad.map (·.add (l*k))) (h-l) (cap-l)) w:=by
 have i:(Instr.sliceBounds true n cap lo hi none).run P w=.ok (l,h,cap) w:=by
  rcases a with⟨rfl,rfl⟩|⟨z,rfl,f,rfl⟩<;>rcases b with⟨rfl,rfl⟩|⟨y,rfl,y0,rfl⟩
  .simp[Instr.sliceBounds,go_sem]
  .simp only[Instr.sliceBounds,Vr,Vs,Result.andThen,JB y0 (show y<=(cap:Int)by omega)]
  .simp only[Instr.sliceBounds,Vr,Vs,Result.andThen,JB f (show z<=(h:Int)by omega)]
  .simp only[Instr.sliceBounds,Vr,Vs,Result.andThen,JB y0 (show y<=(cap:Int)by omega),JB f (show z<=(y.toNat:Int)by omega)]
 simp only[Instr.sliceAt,Vr,E1,Result.andThen,Instr.slice,i,E2,Vs]
theorem Qbc{fr ro:Nat->Prop}{σ:Sig}{N:Nat}{a:Act}{w:World}(r:Rel fr ro σ H env N a w){x:Option Operand}{l d:Nat}(h:x=none/\l=d\/ ∃y,∃z:Int,x=some y/\opA env y=.int .i64 z/\0<=z/\z.toNat=l):
  x.map a.eval=none/\l=d\/ ∃z:Int,x.map a.eval=some (.int .i64 z)/\0<=z/\z.toNat=l:=by
 rcases h with⟨rfl,rfl⟩|⟨y,z,rfl,f,b,e⟩
 .exact .inl ⟨rfl,rfl⟩
 .exact .inr ⟨z,by simp[QS r f],b,e⟩
theorem Qoa{T e k:Nat}{x:Operand}{lo hi:Option Operand}{es es':List (List A)}{l h:Nat}(E1:∀w,(underlying T).run P w=.ok (.slice e) w)(E2:∀w,(sizeOf e).run P w=.ok k w)(t:o.op=.slice T x lo hi none)
  (u:opA env x=.rsl k es)(m:lo=none/\l=0\/ ∃y,∃z:Int,lo=some y/\opA env y=.int .i64 z/\0<=z/\z.toNat=l)
  (n:hi=none/\h=es.length\/ ∃y,∃z:Int,hi=some y/\opA env y=.int .i64 z/\0<=z/\z.toNat=h)(q:l<=h)(B:h<=es.length)(p:(es.take h).drop l=es'):OpV P o env H (.rsl k es'):=by
 intro L M σ N a w r;subst p;have i:=Qg r x;rw[u]at i;obtain⟨ad,f,i,G,E⟩:=i;have g:=Qhf (P:=P) (w:=w) E1 E2 (ad:=ad) G (Qbc r m) (Qbc r n) q B;have d:((es.take h).drop l).length=h-l:=by simp;omega
 refine⟨_,by simp only[execOp,t,i,Vr,g,Result.andThen,Vs,Xk];rfl,?_⟩;refine⟨_,f-l,by rw[d],by rw[d];omega,?_⟩;rcases E with rfl|⟨b,j,rfl,F,s⟩
 .left;simp
 .by_cases J:f=l
  .left;apply VN.1;omega
  .right;refine⟨b,j+l*k,by rw[Vw J];simp[Ji],F,?_⟩;exact(s.take h).drop l
theorem QfT{T e k i s n:Nat}{x:Operand}{lo hi:Option Operand}{l h:Nat}(E1:∀w,(underlying T).run P w=.ok (.slice e) w)(E2:∀w,(sizeOf e).run P w=.ok k w)(J:o.op=.slice T x lo hi none)
  (Q:opA env x=.osl i s n k)(t:lo=none/\l=0\/ ∃y,∃z:Int,lo=some y/\opA env y=.int .i64 z/\0<=z/\z.toNat=l)
  (j:hi=none/\h=n\/ ∃y,∃z:Int,hi=some y/\opA env y=.int .i64 z/\0<=z/\z.toNat=h)(u:l<=h)(L:h<=n):OpV P o env H (.osl i (s+l) (h-l) k):=by
 intro W V σ N a w r;have g:=Qg r x;rw[Q]at g;rcases g with⟨rfl,g⟩|⟨b,p,f,G,m,g,O,R,M,E,F⟩
 .have d:=Qhf (P:=P) (w:=w) E1 E2 (ad:=none) (XX 0) (Qbc r t) (Qbc r j) u L;refine⟨_,by simp only[execOp,J,g,Vr,d,Result.andThen,Vs,Xk];rfl,?_⟩;left;obtain rfl:h=0:=by omega
  obtain rfl:l=0:=by omega
  simp
 .have d:=Qhf (P:=P) (w:=w) E1 E2 (ad:=some ⟨b,p,none⟩) M (Qbc r t) (Qbc r j) u L;refine⟨_,by simp only[execOp,J,O,Vr,d,Result.andThen,Vs,Xk];rfl,?_⟩;right;by_cases B:f=l
  .refine⟨b,p,0,G,m,g,by rw[Vx B];simp[B],λq=>by omega,by omega,E,?_⟩;subst B;exact XZ (by simp) F
  .refine⟨b,p+l*k,f-l,G,m,g,by rw[Vw B];simp[Ji],λq=>by rw[R (by omega),XD],by omega,E,?_⟩;rw[show s+l+(f-l)=s+f from by omega];exact F
theorem OpV.max{c:Call}{x y:Operand}{k:IntKind}{m n:Int}(f:o.op=.call c)(e:c={callee:=.builtin .max,args:= #[x,y],argTypes:=c.argTypes})(h:opA env x=.int k m)(j:opA env y=.int k n):
  OpV P o env H (.int k (if m<n then n else m)):=by
 intro p l σ N a w r;have i:=QS r h;have g:=QS r j;refine⟨_,?_,rfl⟩;generalize a.eval=ρ at*;have b:c.callee=.builtin .max:=by rw[e]
 have d:c.args= #[x,y]:=by rw[e]
 simp only[execOp,f,resolve,b,d,invoke,Go.builtin,Vr,Vs,Result.andThen];simp[Builtin.max_,Builtin.max2,i,g,go_sem]
theorem OpV.min{c:Call}{x y:Operand}{k:IntKind}{m n:Int}(f:o.op=.call c)(e:c={callee:=.builtin .min,args:= #[x,y],argTypes:=c.argTypes})(h:opA env x=.int k m)(j:opA env y=.int k n):
  OpV P o env H (.int k (if n<m then n else m)):=by
 intro p l σ N a w r;have i:=QS r h;have g:=QS r j;refine⟨_,?_,rfl⟩;generalize a.eval=ρ at*;have b:c.callee=.builtin .min:=by rw[e]
 have d:c.args= #[x,y]:=by rw[e]
 simp only[execOp,f,resolve,b,d,invoke,Go.builtin,Vr,Vs,Result.andThen];simp[Builtin.min_,Builtin.min2,i,g,go_sem]
end
end Go.Sw
namespace Go.Sw
section
variable {P:Program} {h0 N:Nat} {env:Env} {H:Qd} {Q:QD} {c c':Code}
def CutP(h0:Nat)(Eb:Env)(Hb:Qd)(Q:QD):QD
 |.normal,env,H=>Le h0 env H Eb Hb
 |.exit id,env,H=>Q (.exit id) env H
 |.ret,env,H=>Q .ret env H
theorem TC.cut(Eb:Env)(Hb:Qd)(h:TC P h0 N c env H (CutP h0 Eb Hb Q))(k:∀env H,Le h0 env H Eb Hb->Q .normal env H):TC P h0 N c env H Q:=
 h.mono λx env' H' q=>by
  cases x with
  |normal=>exact k _ _ q
  |exit id=>exact q
  |ret=>exact q
theorem QmE(h:TC P h0 N c env H Q):Seq P h0 N c Q .normal env H:=h
theorem seqX{id:Nat}(h:Q (.exit id) env H):Seq P h0 N c Q (.exit id) env H:=h
theorem seqR(h:Q .ret env H):Seq P h0 N c Q .ret env H:=h
theorem bloN{id:Nat}(h:Q .normal env H):Blo id Q .normal env H:=h
theorem bloE{id:Nat}(h:Q .normal env H):Blo id Q (.exit id) env H:=by simp only[Blo,VJ,Vt];exact h
theorem bloX{id a:Nat}(e:Nat.beq a id=false)(h:Q (.exit a) env H):Blo id Q (.exit a) env H:=by simp only[Blo,e,Vu];exact h
theorem bloR{id:Nat}(h:Q .ret env H):Blo id Q .ret env H:=h
def Qf2{S B:Type}(h0:Nat)(b:Ctl S B)(Eb:S->Env)(Hb:S->Qd)(Q:QD):QD
 |.normal,env,H=>∃s,b=.cont s/\Le h0 env H (Eb s) (Hb s)
 |.exit id,env,H=>Q (.exit id) env H
 |.ret,env,H=>Q .ret env H
theorem QhM{S B:Type}{b:Ctl S B}(Eb:S->Env)(Hb:S->Qd)(h:TC P h0 N c env H (Qf2 h0 b Eb Hb Q))(k:∀s env H,b=.cont s->Le h0 env H (Eb s) (Hb s)->Q .normal env H):TC P h0 N c env H Q:=
 h.mono λx env' H' q=>by
  cases x with
  |normal=>obtain⟨s,e,q⟩:=q;exact k s _ _ e q
  |exit id=>exact q
  |ret=>exact q
section
variable {S B:Type} {b:Ctl S B} {Eb:S->Env} {Hb:S->Qd}
theorem QN{s:S}(e:b=.cont s)(h:Le h0 env H (Eb s) (Hb s)):Qf2 h0 b Eb Hb Q .normal env H:=⟨s,e,h⟩
theorem QpD{id:Nat}(h:Q (.exit id) env H):Qf2 h0 b Eb Hb Q (.exit id) env H:=h
theorem Q8(h:Q .ret env H):Qf2 h0 b Eb Hb Q .ret env H:=h
end
theorem Qjc{x:Operand}{t:Bool}(hx:opA env x=.bool t)(h:t=true)(ht:TC P h0 N c env H Q):TC P h0 N (.cond x c c') env H Q:=TC.cond hx (λ_=>ht) (λq=>by rw[h]at q;cases q)
theorem QfL{x:Operand}{t:Bool}(hx:opA env x=.bool t)(h:t=false)(hf:TC P h0 N c' env H Q):TC P h0 N (.cond x c c') env H Q:=TC.cond hx (λq=>by rw[h]at q;cases q) (λ_=>hf)
section
variable {S B:Type} {I:S->Env->Qd->Prop}
theorem Qw{s:S}{d:Ctl S B}(e:some (Ctl.cont s)=some d)(h:I s env H):Qbn I d Q .normal env H:=⟨s,(X4 e).symm,h⟩
theorem Qz{id:Nat}{b:B}{d:Ctl S B}(e:some (Ctl.done b)=some d)(h:Q (.exit id) env H):Qbn I d Q (.exit id) env H:=⟨⟨b,(X4 e).symm⟩,h⟩
theorem YD{b:B}{d:Ctl S B}(e:some (Ctl.done b)=some d)(h:Q .ret env H):Qbn I d Q .ret env H:=⟨⟨b,(X4 e).symm⟩,h⟩
end
end
theorem Jh{α β:Type}{x:Option α}{f:α->Option β}{r:β}(h:x.bind f=some r):∃a,x=some a/\f a=some r:=Option.bind_eq_some_iff.1 h
theorem ifT{α:Type}{c:Bool}{x y:Option α}{r:α}(a:c=true)(h:(bif c then x else y)=some r):x=some r:=by subst a;exact h
theorem ifF{α:Type}{c:Bool}{x y:Option α}{r:α}(a:c=false)(h:(bif c then x else y)=some r):y=some r:=by subst a;exact h
def idx{α:Type}(l:List α)(i:Int):Option α:=bif decide (0<=i)then l[i.toNat]? else none
theorem Qas{α:Type}{l:List α}{i:Int}{x:α}(h:idx l i=some x):0<=i/\l[i.toNat]?=some x:=by
 unfold idx at h;by_cases q:0<=i
 .rw[Vy q]at h;exact⟨q,h⟩
 .rw[VB q]at h;simp at h
def app{α:Type}(l m:List α):Option (List α):=bif Nat.ble (l.length+m.length) Qy then some (l++m)else none
theorem Qka{α:Type}{l m r:List α}(h:app l m=some r):l.length+m.length<=Qy/\l++m=r:=by
 unfold app at h;cases q:Nat.ble (l.length+m.length) Qy with
 |true=>rw[q]at h;exact⟨XV q,X4 h⟩
 |false=>rw[q]at h;simp at h
def slc{α:Type}(l:List α)(lo hi:Int):Option (List α):=bif decide (0<=lo)&&decide (lo<=hi)&&decide (hi<=(l.length:Int))then some ((l.take hi.toNat).drop lo.toNat)else none
theorem QdA{α:Type}{l r:List α}{lo hi:Int}(h:slc l lo hi=some r):0<=lo/\lo<=hi/\hi<=l.length/\(l.take hi.toNat).drop lo.toNat=r:=by
 unfold slc at h;cases q:(decide (0<=lo)&&decide (lo<=hi)&&decide (hi<=(l.length:Int)))with
 |true=>
  rw[q]at h;simp at q;exact⟨q.1.1,q.1.2,q.2,X4 h⟩
 |false=>rw[q]at h;simp at h
def QbL{α:Type}(l:List α)(i:Int)(x:α):Option (List α):=bif decide (0<=i)&&decide (i<(l.length:Int))then some (l.set i.toNat x)else none
theorem Qey{α:Type}{e:α->List A}{l:List α}{i:Nat}{x:α}(h:l[i]?=some x):(l.map e)[i]?=some (e x):=by simp[h]
end Go.Sw
namespace Go.Sw
section
variable {P:Program} {h0 N:Nat} {env:Env} {H H':Qd} {Q:QD} {all:Array Oper} {o:Oper} {l:List Oper} {d:Nat} {x:A}
theorem vV(a:OpV P o env H x)(k:WO P h0 N all l (up env d x) H Q)(hg:Qp all o env true:=by exact rfl)(hd:o.dst=some d:=by exact rfl)(hN:Nat.blt d N=true:=by exact rfl):WO P h0 N all (o::l) env H Q:=
 QH hg hd hN a k
theorem vH(a:OpH P o env H x H')(k:WO P h0 N all l (up env d x) H' Q)(hg:Qp all o env true:=by exact rfl)(hd:o.dst=some d:=by exact rfl)(hN:Nat.blt d N=true:=by exact rfl)(hh:Nat.ble h0 H.length=true:=by exact rfl):WO P h0 N all (o::l) env H Q:=
 Y6 (XV hh) hg hd hN a k
theorem vN(a:OpH P o env H x H')(k:WO P h0 N all l env H' Q)(hg:Qp all o env true:=by exact rfl)(hd:o.dst=none:=by exact rfl)(hh:Nat.ble h0 H.length=true:=by exact rfl):WO P h0 N all (o::l) env H Q:=
 QqF (XV hh) hg hd a k
theorem vU(a:OpU P o env H H')(k:WO P h0 N all l env H' Q)(hg:Qp all o env true:=by exact rfl)(hd:o.dst=none:=by exact rfl)(hh:Nat.ble h0 H.length=true:=by exact rfl):WO P h0 N all (o::l) env H Q:=
 QbA (XV hh) hg hd a k
theorem gT{j s:Nat}{c x:Bool}(a:x=c)(hg:o.guard=some (j,c):=by exact rfl)(hs:(all[j]?).bind (·.dst)=some s:=by exact rfl)(hl:lk env s=.bool x:=by exact rfl):Qp all o env true:=by
 unfold Qp;rw[hg];exact⟨s,hs,.inl ⟨x,hl,by subst a;cases x<;>rfl⟩⟩
theorem gF{j s:Nat}{c x:Bool}(a:x= !c)(hg:o.guard=some (j,c):=by exact rfl)(hs:(all[j]?).bind (·.dst)=some s:=by exact rfl)(hl:lk env s=.bool x:=by exact rfl):Qp all o env false:=by
 unfold Qp;rw[hg];exact⟨s,hs,.inl ⟨x,hl,by subst a;cases c<;>rfl⟩⟩
theorem QqG{x x':A}(a:x'=x)(hH:H'=H)(k:WO P h0 N all l (up env d x) H Q):WO P h0 N all l (up env d x') H' Q:=by subst a;subst hH;exact k
theorem QfK(hH:H'=H)(k:WO P h0 N all l env H Q):WO P h0 N all l env H' Q:=by subst hH;exact k
theorem QA{f:FuncId}{args a:List A}{Hc:Qd}{Qr:A->Qd->Prop}(π:List Nat)(b:OpC P o env H f args)(g:C P f a Hc Qr)
  (k:∀r H1,Qr r H1->WO P h0 N all l (up env d (YF (rho π H.length) r)) (Ys H π (H1.map (QW (rho π H.length)))) Q)
  (hargs:args=Qaa (rho π H.length) a:=by exact rfl)(hH:π.map (λp=>H[p]?)=(Hc.map (QW (rho π H.length))).map some:=by exact rfl)(hπ:π.Nodup:=by decide)
  (hg:Qp all o env true:=by exact rfl)(hd:o.dst=some d:=by exact rfl)(hN:Nat.blt d N=true:=by exact rfl)(hh:Nat.ble h0 H.length=true:=by exact rfl):WO P h0 N all (o::l) env H Q:=
 WO.call (d:=some d) π (XV hh) hg hd (λx e=>by cases e;simpa using hN) b hargs hH hπ g k
end
section
variable {P:Program} {o:Oper} {env:Env} {H:Qd} {α:Type} {e:α->List A}
theorem Qn9{c:Call}{t et k:Nat}{x:Operand}{l:List α}(b:∀w,(underlying t).run P w=.ok (.slice et) w)(a:o.op=.call c:=by exact rfl)(hc:c={callee:=.builtin .len,args:= #[x],argTypes:= #[t]}:=by exact rfl)
  (hx:opA env x=.rsl k (l.map e):=by exact rfl):OpV P o env H (.int .i64 l.length):=by
 have:=Qn8 (H:=H) a hc b hx
 rwa [X6]at this
theorem Qlb{t et k:Nat}{x y:Operand}{l:List α}{b:IntKind}{i:Int}{v:α}(h:idx l i=some v)(f:∀w,(underlying t).run P w=.ok (.slice et) w)(d:∀w,(sizeOf et).run P w=.ok k w)
  (a:o.op=.indexAddr t x y:=by exact rfl)(hx:opA env x=.rsl k (l.map e):=by exact rfl)(hy:opA env y=.int b i:=by exact rfl):OpV P o env H (.rp (e v)):=
 Qph a f d hx hy (Qas h).1 (Qey (Qas h).2)
theorem QU{t et k b n:Nat}{x y:Operand}{l:List α}{e:IntKind}{i:Int}{v:α}(h:idx l i=some v)(m:l.length=n)(f:∀w,(underlying t).run P w=.ok (.slice et) w)(a:∀w,(sizeOf et).run P w=.ok k w)
  (g:o.op=.indexAddr t x y:=by exact rfl)(hx:opA env x=.osl b 0 n k:=by exact rfl)(hy:opA env y=.int e i:=by exact rfl):OpV P o env H (.ptr b (i.toNat*k)):=by
 have:=Qas h;have d:i.toNat<l.length:=(XP.1 this.2).1;have j:=QhP (H:=H) g f a hx hy this.1 (by omega)
 rwa [Nat.zero_mul,Xy]at j
theorem QgY{b t k f:Nat}{l:List α}{i:Int}{v:α}{cs':List A}(h:idx l i=some v)(hH:H[b]?=some (.row t k (l.map e)):=by exact rfl)(hcs:(e v).drop f=cs':=by exact rfl):Pts H (.ptr b (i.toNat*k+f)) cs':=
 Pts.row hH rfl (Qey (Qas h).2) hcs
theorem Qu{b t k:Nat}{l:List α}{i:Int}{v:α}{cs':List A}(h:idx l i=some v)(hH:H[b]?=some (.row t k (l.map e)):=by exact rfl)(hcs:e v=cs':=by exact rfl):Pts H (.ptr b (i.toNat*k)) cs':=
 Pts.row (f:=0) hH rfl (Qey (Qas h).2) hcs
theorem Qjj{c:Call}{T T' et et' k:Nat}{x y:Operand}{ya:A}{m r:List α}(h:app [] m=some r)(E:QV P T et k)(b:∀w,(underlying T').run P w=.ok (.slice et') w)(f:Src P H ya k (m.map e))
  (a:o.op=.call c:=by exact rfl)(hc:c={callee:=.builtin .append,args:= #[x,y],argTypes:= #[T,T']}:=by exact rfl)(hx:opA env x=.nils:=by exact rfl)(hy:opA env y=ya:=by exact rfl):
  OpH P o env H (.osl H.length 0 r.length k) (H++[.row et k (r.map e)]):=by
 obtain⟨d,rfl⟩:=Qka h;have:=Qgc E b a hc hx hy f (by simpa using d);simpa using this
theorem QB{c:Call}{T T' et et' k i n:Nat}{x y:Operand}{ya:A}{l m r:List α}(h:app l m=some r)(E:QV P T et k)(d:∀w,(underlying T').run P w=.ok (.slice et') w)(a:Src P H ya k (m.map e))
  (b:l.length=n:=by exact rfl)(ho:o.op=.call c:=by exact rfl)(hc:c={callee:=.builtin .append,args:= #[x,y],argTypes:= #[T,T']}:=by exact rfl)(hx:opA env x=.osl i 0 n k:=by exact rfl)
  (hH:H[i]?=some (.row et k (l.map e)):=by exact rfl)(hy:opA env y=ya:=by exact rfl):
  OpH P o env H (.osl H.length 0 r.length k) (H.set i .dead++[.row et k (r.map e)]):=by
 obtain⟨f,rfl⟩:=Qka h;subst b;have:=Qji E d ho hc hx hH (by simp) hy a (by simpa using f) (gs:=(l++m).map e) (by rw[VM (by simp)];simp);simpa using this
theorem Jg{k:Nat}{l:List α}:Src P H (.rsl k (l.map e)) k (l.map e):=Src.rsl
theorem Y7{i n k t:Nat}{l:List α}(hH:H[i]?=some (.row t k (l.map e)):=by exact rfl)(hn:l.length=n:=by exact rfl):Src P H (.osl i 0 n k) k (l.map e):=
 Src.osl hH (by subst hn;rw[List.drop_zero,VM (by simp)]) (by simp[hn])
theorem JG{t n b T k f:Nat}{x y:Operand}{l l':List α}{i:Int}{v j:α}{vs:List A}{a:A}{off:Nat}(h:idx l i=some v)(hl:QbL l i j=some l')(m:∀w,(sizeOf t).run P w=.ok n w)(d:off=i.toNat*k+f)(g:splice (e v) f vs=e j)
  (p:o.op=.store t x y:=by exact rfl)(hx:opA env x=.ptr b off:=by exact rfl)(hH:H[b]?=some (.row T k (l.map e)):=by exact rfl)
  (hy:opA env y=a:=by exact rfl)(hk:Yf a=true:=by exact rfl)(hv:Q9 a=vs:=by exact rfl)(hn:vs.length=n:=by exact rfl)(hp:vs.all Yt=true:=by exact rfl)(hd:Yn vs=true:=by exact rfl)(hf:Nat.ble (f+n) k=true:=by exact rfl):
  OpU P o env H (H.set b (.row T k (l'.map e))):=by
 refine QhQ p hx hH m d (Qey (Qas h).2) hy hk hv hn hp hd hf g ?_;unfold QbL at hl;cases q:(decide (0<=i)&&decide (i<(l.length:Int)))with
 |false=>rw[q]at hl;simp at hl
 |true=>rw[q]at hl;rw[<- X4 hl,List.map_set]
end
def ZR(a:A)(v:Value):Prop:=∀ro σ w,VR ro σ w a v
def ZL(az:List A)(l:List Value):Prop:=∀ro σ w,LR ro σ w az l
theorem ZR.int{k:IntKind}{n:Int}:ZR (.int k n) (.int k n):=λ_ _ _=>rfl
theorem ZR.bool{b:Bool}:ZR (.bool b) (.bool b):=λ_ _ _=>rfl
theorem ZR.str:ZR (.str []) (.string ⟨#[]⟩):=λ_ _ _=>rfl
theorem ZR.rsl{α:Type}{k:Nat}{e:α->List A}:ZR (.rsl k (List.map e [])) (.slice none 0 0):=λ_ _ _=>⟨none,0,rfl,XX _,.inl rfl⟩
theorem ZR.nils:ZR .nils (.slice none 0 0):=λ_ _ _=>rfl
theorem ZR.nilp:ZR .nilp (.pointer none):=λ_ _ _=>rfl
theorem ZR.nilf:ZR .nilf .nilFunc:=λ_ _ _=>rfl
theorem ZR.nilm:ZR .nilm (.map none):=λ_ _ _=>rfl
theorem Qpc:ZR .nilif .nilIface:=λ_ _ _=>rfl
theorem ZL.nil:ZL [] []:=λ_ _ _=>rfl
theorem ZL.cons{a:A}{v:Value}{az:List A}{l:List Value}(h:ZR a v)(k:ZL az l):ZL (a::az) (v::l):=λro σ w=>⟨v,l,rfl,h ro σ w,k ro σ w⟩
theorem ZR.agg{az:List A}{l:List Value}(h:ZL az l):ZR (.agg az) (.agg l.toArray):=λro σ w=>⟨l,rfl,h ro σ w⟩
section
variable {P:Program} {o:Oper} {env:Env} {H:Qd}
theorem QfW{t:Nat}{z:Value}{v:A}{cs:List A}(f:∀w,(zeroValue t).run P w=.ok z w)(g:ZR v z)(h:o.op=.alloc t:=by exact rfl)(hk:Yf v=true:=by exact rfl)(hcs:Q9 v=cs:=by exact rfl)(hpl:cs.all Yt=true:=by exact rfl):
  OpH P o env H (.ptr H.length 0) (H++[.cells t cs]):=by
 intro j b σ N a w r;obtain⟨l,i,d⟩:=(g b σ w).cells hk;subst hcs;refine⟨.pointer (some ⟨w.heap.size,0,none⟩),w.alloc (.cells l.toArray t),b,[some w.heap.size],?_,⟨w.heap.size,?_,rfl⟩,r.sim.allocCells d (d.plain hpl),Qh.alloc _ r.sim.roLt r.sim.frLt⟩
 .generalize a.eval=ρ at*;have e:(newVar t z).run P w=.ok ⟨w.heap.size,0,none⟩ (w.alloc (.cells l.toArray t)):=by
   unfold newVar;rw[i];rfl
  simp only[execOp,h,Instr.alloc,Vr,f,Result.andThen,e];rfl
 .rw[<- r.sim.len];simp
theorem Qj3{t:TypeId}{p q:Bool}{w:World}(a:∀w,(underlying t).run P w=.ok .bool w):(Op.equal t (.bool p) (.bool q)).run P w=.ok (p==q) w:=by
 have k:∀d,(Op.equalIn (d+1) t (.bool p) (.bool q)).run P w=.ok (p==q) w:=by
  intro d;simp[Op.equalIn,a,go_sem]
 exact k 9999
theorem QfU{t u:TypeId}{x y:Operand}{p q:Bool}(b:∀w,(underlying t).run P w=.ok .bool w)(d:o.op=.binOp .neq t x y u:=by exact rfl)(hx:opA env x=.bool p:=by exact rfl)(hy:opA env y=.bool q:=by exact rfl):OpV P o env H (.bool (p != q)):=by
 intro h g σ N a w r;have f:=Qc1 r hx;have e:=Qc1 r hy;refine⟨_,?_,rfl⟩;generalize a.eval=ρ at*;simp[execOp,d,f,e,Go.binOp,eqGuard,Qj3 b,go_sem,bne]
theorem QaR{t:TypeId}{x y:Operand}{s:List UInt8}{k:IntKind}{i:Int}{c:UInt8}(h:idx s i=some c)(b:∀w,(underlying t).run P w=.ok .string w)(a:o.op=.index t x y:=by exact rfl)(hx:opA env x=.str s:=by exact rfl)(hy:opA env y=.int k i:=by exact rfl):
  OpV P o env H (.int .u8 c.toNat):=Ql6 a b hx hy (Qas h).1 (Qas h).2
theorem Qbm{α:Type}{e:α->List A}{T et k:Nat}{x:Operand}{lo hi:Option Operand}{l r:List α}{a b:Int}(h:slc l a b=some r)(E1:∀w,(underlying T).run P w=.ok (.slice et) w)(E2:∀w,(sizeOf et).run P w=.ok k w)
  (i:lo=none/\a=0\/ ∃y,lo=some y/\opA env y=.int .i64 a)(g:hi=none/\b=l.length\/ ∃y,hi=some y/\opA env y=.int .i64 b)
  (m:o.op=.slice T x lo hi none:=by exact rfl)(hx:opA env x=.rsl k (l.map e):=by exact rfl):OpV P o env H (.rsl k (r.map e)):=by
 obtain⟨j,p,n,rfl⟩:=QdA h;refine Qoa (l:=a.toNat) (h:=b.toNat) E1 E2 m hx ?_ ?_ (by omega) (by simp;omega) (by simp)
 .rcases i with⟨d,f⟩|⟨y,d,f⟩
  .exact .inl ⟨d,by rw[f];rfl⟩
  .exact .inr ⟨y,a,d,f,j,rfl⟩
 .rcases g with⟨d,f⟩|⟨y,d,f⟩
  .exact .inl ⟨d,by rw[f];simp⟩
  .exact .inr ⟨y,b,d,f,by omega,rfl⟩
theorem Qma{c:Call}{t et i n k:Nat}{x:Operand}(b:∀w,(underlying t).run P w=.ok (.slice et) w)(a:o.op=.call c:=by exact rfl)(hc:c={callee:=.builtin .len,args:= #[x],argTypes:= #[t]}:=by exact rfl)
  (hx:opA env x=.osl i 0 n k:=by exact rfl):OpV P o env H (.int .i64 n):=Qjh a hc b hx
end
def Qf(k:IntKind)(n:Int):List A:=[.int k n]
def Qa6(b:Bool):List A:=[.bool b]
def encS(s:List UInt8):List A:=[.str s]
def QnH{α:Type}(k:Nat)(e:α->List A)(l:List α):List A:=[.rsl k (l.map e)]
end Go.Sw
namespace Go.Sw
theorem Qms{P:Program}{rd:Option Nat}{o:Oper}{a:Act}{next:Act->World->Prop}{Q:Exit->Act->World->Prop}{g:Result Next}
  (p:∀a' w',next a' w'->a'.defers=a.defers)(h:o.uponIn (WF rd) 0 P a next Q g):
  o.uponIn (WF rd) 0 P a (λa' w'=>next a' w'/\ ∃v,a'=a.put o.dst v) Q g:=by
 cases g with
 |ok n w'=>
  cases n with
  |value v=>exact⟨h,_,rfl⟩
  |skip=>exact⟨h,_,rfl⟩
  |defer d=>
   have:=congrArg List.length (p _ _ h);exfalso
   revert this
   cases o.dst<;>simp[Act.put]
  |enter f i=>
   exact⟨h.1,CallsIn.mono h.2 (λe j b=>by cases e<;>first|exact⟨b,_,rfl⟩|exact b)⟩
  |row r i=>exact⟨h.1,RowsIn.mono h.2 (λ_ _ b=>⟨b,_,rfl⟩)⟩
  |round l f m assign k=>exact⟨h.1,RoundIn.mono h.2 (λe j b=>by cases e<;>first|exact⟨b,_,rfl⟩|exact b)⟩
  |_=>exact h.elim
 |halt x w'=>cases x<;>first|exact h|exact h.elim
def Y8(e:Env)(H:Qd):QD:=λx e' H'=>x=.normal/\e'=e/\H'=H
theorem Y8.mk{e:Env}{H:Qd}:Y8 e H .normal e H:=⟨rfl,rfl,rfl⟩
inductive Sb (af bf ds:List Nat) (xs:List A) (env0:Env):Env->Prop
 |nil:Sb af bf ds xs env0 []
 |dep (j:Nat) {s:Nat} {a:A} {r:Env} (h1:af.contains j=true) (h2:ds[j]?=some s) (h3:xs[j]?=some a) (k:Sb af bf ds xs env0 r):Sb af bf ds xs env0 ((s,a)::r)
 |old {s:Nat} {a:A} {r:Env} (h1:ds.contains s=false) (h2:lk env0 s=a) (k:Sb af bf ds xs env0 r):Sb af bf ds xs env0 ((s,a)::r)
 |pre (j:Nat) {s:Nat} {a:A} {r:Env} (h1:bf.contains j=true) (h2:ds[j]?=some s) (h3:lk env0 s=a) (k:Sb af bf ds xs env0 r):Sb af bf ds xs env0 ((s,a)::r)
def Qi(o:Oper):List Nat:=(o.after.toList.filter (Region.binds .any)).map (·.on)
def Qj9(l:List Oper)(i:Nat):List Nat:=(List.range l.length).filter λj=>((l[j]?).map Qi).getD [] |>.contains i
inductive QfX (P:Program) (N:Nat) (l:List Oper) (ds:List Nat) (xs:List A) (env0:Env) (i:Nat) (H H':Qd):Prop
 |mk (o:Oper) (e:Env) (d:Nat) (x:A) (ho:l[i]?=some o) (hd:o.dst=some d) (hx:xs[i]?=some x) (hs:Sb (Qi o) (Qj9 l i) ds xs env0 e)
   (h:WO P H.length N l.toArray [o] e H (Y8 (up e d x) H')):QfX P N l ds xs env0 i H H'
theorem least{p:Nat->Prop}(d:∀i,p i\/ ¬p i):∀n,p n->∃i,i<=n/\p i/\ ∀j,j<i->¬p j:=by
 intro n
 induction n using Nat.strongRecOn with
 |ind n f=>
  intro h;by_cases q:∃j,j<n/\p j
  .obtain⟨j,b,a⟩:=q;obtain⟨i,k,e,g⟩:=f j b a;exact⟨i,by omega,e,g⟩
  .exact⟨n,XX _,h,λj b a=>q ⟨j,b,a⟩⟩
def onL(L:Array Bool)(i:Nat):Prop:=L[i]?=some true
theorem QkV{L:Array Bool}{i:Nat}(hi:i<L.size)(b:Bool):L.getD i b=true↔onL L i:=by
 unfold onL;rw[Array.getD_eq_getD_getElem?,Array.getElem?_eq_getElem hi];simp
theorem QaJ{l:List Oper}{L:Array Bool}(n:L.size=l.length){i:Nat}:
  i∈Region.ready .any l.toArray L↔ ∃o,l[i]?=some o/\ ¬onL L i/\ ∀j∈Qi o,onL L j:=by
 unfold Region.ready;simp only[Xd,List.mem_range,List.size_toArray,X0,Bool.not_eq_true',XK];have d:∀j,L.getD j false=true↔onL L j:=by
  intro j;unfold onL;rw[Array.getD_eq_getD_getElem?];cases L[j]? <;>simp
 constructor
 .rintro⟨b,a,f⟩;refine⟨l[i],XO b,?_,?_⟩
  .intro q;rw[<- QkV (by omega) true]at q;rw[q]at a;cases a
  .rw[XO b]at f;simp only[Xj,Option.getD_some,Array.all_eq_true']at f;intro j h;unfold Qi at h;simp only[Xe,Xd,Array.mem_toList_iff]at h;obtain⟨e,⟨g,k⟩,rfl⟩:=h;have:=f e g;rw[k]at this;exact(d _).1 (by simpa using this)
 .rintro⟨o,b,a,f⟩;have m:i<l.length:=(XP.1 b).1;refine⟨m,?_,?_⟩
  .rw[<- QkV (by omega) true]at a;simpa using a
  .rw[b];simp only[Xj,Option.getD_some,Array.all_eq_true'];intro e g;cases k:Region.binds .any e with
   |false=>simp
   |true=>
    have:=(d _).2 (f e.on (by unfold Qi;simp only[Xe,Xd,Array.mem_toList_iff];exact⟨e,⟨g,k⟩,rfl⟩));simpa using this
theorem JC{L:Array Bool}{i j:Nat}(hi:i<L.size):onL (L.setIfInBounds i true) j↔j=i\/onL L j:=by
 unfold onL;rw[Vi];by_cases h:i=j
 .subst h;simp[hi]
 .have a:¬j=i:=λq=>h q.symm;simp[h,a]
def unl(L:Array Bool):Nat:=L.toList.countP (!·)
theorem Qhc{L:Array Bool}{i:Nat}(hi:i<L.size)(h:¬onL L i):unl (L.setIfInBounds i true)+1=unl L:=by
 unfold unl;have a:i<L.toList.length:=by simpa using hi
 have b:L.toList[i]=false:=by
  unfold onL at h;rw[Array.getElem?_eq_getElem hi]at h;simpa using h
 rw[Array.toList_setIfInBounds,List.countP_set a];have:0<L.toList.countP (!·):=List.countP_pos_iff.2 ⟨L.toList[i],Vh a,by rw[b];rfl⟩;rw[b,Vx (by rfl),Vw (by decide)];omega
theorem Qkz{L:Array Bool}{i:Nat}(hi:i<L.size)(h:¬onL L i):0<unl L:=by have:=Qhc hi h;omega
inductive Qcz (l:List Oper) (m:Nat):Nat->Prop
 |one {o:Oper} {j:Nat} (ho:l[m]?=some o) (hj:j∈Qi o):Qcz l m j
 |step {o:Oper} {i j:Nat} (h:Qcz l m i) (ho:l[i]?=some o) (hj:j∈Qi o):Qcz l m j
def Qe0(l:List Oper):Nat->List Nat->List Nat
 |0,S=>S
 |j+1,S=>Qe0 l j (bif S.contains j then S++(match l[j]? with|some o=>Qi o|none=>[])else S)
theorem Qcb{l:List Oper}{m:Nat}:∀(n:Nat) (S:List Nat),(∀j∈S,Qcz l m j)->∀j∈Qe0 l n S,Qcz l m j
 |0,S,h,j,hj=>h j hj
 |n+1,S,h,j,hj=>by
  refine Qcb n _ ?_ j hj;intro i hi;cases q:S.contains n with
  |false=>rw[q]at hi;exact h i hi
  |true=>
   rw[q]at hi;rcases VH.1 hi with z|z
   .exact h i z
   .cases ho:l[n]? with
    |none=>rw[ho]at z;cases z
    |some o=>rw[ho]at z;exact .step (h n (by simpa using q)) ho z
def Qaw(ds:List Nat)(xs:List A)(env0:Env):Env:=ds.zip xs++env0
theorem QoI{a:List Nat}{xs:List A}{env0:Env}(hl:a.length=xs.length)(s:Nat):
  (∃(j:Nat) (x:A),a[j]?=some s/\xs[j]?=some x/\lk (Qaw a xs env0) s=x)\/(a.contains s=false/\lk (Qaw a xs env0) s=lk env0 s):=by
 unfold Qaw
 induction a generalizing xs with
 |nil=>right;simp
 |cons d a g=>
  cases xs with
  |nil=>simp at hl
  |cons x xs=>
   simp only[X5,Nat.add_right_cancel_iff]at hl;simp only[List.zip_cons_cons,VO,lk];cases h:Nat.beq s d with
   |true=>
    obtain rfl:=XU h;left;exact⟨0,x,rfl,rfl,by simp⟩
   |false=>
    have f:s≠d:=λq=>by subst q;simp[VJ]at h
    rcases g hl with⟨j,y,e,b,i⟩|⟨e,b⟩
    .left;exact⟨j+1,y,by simpa using e,by simpa using b,by simpa using i⟩
    .right;refine⟨?_,by simpa using b⟩;simp only[List.contains_cons,e,Bool.or_false];simpa using f
def drawChk.nodupB:List Nat->Bool
 |[]=>true
 |x::r=> !r.contains x&&drawChk.nodupB r
def drawChk.goB(l:List Oper)(m:Nat):Nat->List Oper->Bool
 |_,[]=>true
 |i,o::r=>(Qi o).all (λj=>Nat.blt j i)&&(bif Nat.beq i m then(List.range m).all (λj=>(Qe0 l m (Qi o)).contains j)else bif Nat.blt m i then(Qi o).contains (i-1)else true)&&drawChk.goB l m (i+1) r
def drawChk.loB(m k:Nat)(los:List Nat)(hs:List Bool):Nat->List Oper->Bool
 |_,[]=>(List.range k).all λj=>(List.range m).any λi=>hs.getD i false&&Nat.beq (los.getD i 0) j
 |i,o::r=>(bif Nat.blt i m then
   (Nat.beq (los.getD i 0) 0||(Qi o).any (λj=>Nat.blt j m&&Nat.ble (los.getD i 0) (los.getD j 0+(if hs.getD j false then 1 else 0))))
   &&(!hs.getD i false||(Nat.blt (los.getD i 0) k&&(List.range m).all (λj=> !hs.getD j false|| !Nat.beq (los.getD i 0) (los.getD j 0)||Nat.beq i j)))
  else true)&&drawChk.loB m k los hs (i+1) r
def drawChk(l:List Oper)(m k N:Nat)(ds los:List Nat)(hs:List Bool):Bool:=
 Nat.ble m l.length&&(ds.length==m)&&(l.take m).map (·.dst)==ds.map some&&ds.all (λd=>Nat.blt d N)&&drawChk.nodupB ds
 &&drawChk.goB l m 0 l&&(drawChk.loB m k los hs 0 l)
theorem Qd7{e:List Nat}(h:drawChk.nodupB e=true):∀(i j d:Nat),e[i]?=some d->e[j]?=some d->i=j:=by
 induction e with
 |nil=>intro i j d a;simp at a
 |cons x r g=>
  simp only[drawChk.nodupB,X0,Bool.not_eq_true']at h;have f:∀(i:Nat),r[i]? ≠some x:=by
   intro i q;have:r.contains x=true:=by simpa using VL q
   rw[this]at h;cases h.1
  intro i j d a b;cases i with
  |zero=>
   cases j with
   |zero=>rfl
   |succ j=>simp at a b;subst a;exact absurd b (f j)
  |succ i=>
   cases j with
   |zero=>simp at a b;subst b;exact absurd a (f i)
   |succ j=>simp at a b;rw[g h.2 i j d a b]
theorem Qiw{l:List Oper}{m:Nat}:∀(r:List Oper) (b:Nat),drawChk.goB l m b r=true->∀(i:Nat) (o:Oper),r[i]?=some o->
  (∀j∈Qi o,j<b+i)/\(b+i=m->∀j,j<m->j∈Qe0 l m (Qi o))/\(m<b+i->b+i-1∈Qi o):=by
 intro r
 induction r with
 |nil=>intro b h i o d;simp at d
 |cons x r n=>
  intro b h i o d;simp only[drawChk.goB,X0]at h;cases i with
  |zero=>
   simp at d;subst d;refine⟨λj f=>?_,λk j f=>?_,λk=>?_⟩
   .have:=Xu.1 h.1.1 j f;simpa using this
   .have a:=h.1.2;have g:Nat.beq b m=true:=by subst k;simp
    rw[g]at a;simp only[Vt]at a;have:=Xu.1 a j (List.mem_range.2 f);simpa using this
   .have a:=h.1.2;have g:Nat.beq b m=false:=by
     cases q:Nat.beq b m with
     |false=>rfl
     |true=>have:=XU q;omega
    have p:Nat.blt m b=true:=by simpa using k
    rw[g,p]at a;simpa using a
  |succ i=>
   have:=n (b+1) h.2 i o (by simpa using d);have e:b+1+i=b+(i+1):=by omega
   rw[e]at this;exact this
inductive Ob (P:Program) (N:Nat) (l:List Oper) (ds:List Nat) (xs:List A) (env0:Env):Nat->List (List (Qd×Qd))->Prop
 |nil {i:Nat}:Ob P N l ds xs env0 i []
 |cons {i:Nat} {s:List (Qd×Qd)} {r:List (List (Qd×Qd))} (h:∀p∈s,QfX P N l ds xs env0 i p.1 p.2) (k:Ob P N l ds xs env0 (i+1) r):Ob P N l ds xs env0 i (s::r)
theorem Ob.get{P:Program}{N:Nat}{l:List Oper}{e:List Nat}{xs:List A}{env0:Env}{b:Nat}{f:List (List (Qd×Qd))}(h:Ob P N l e xs env0 b f):
  ∀(i:Nat) (s:List (Qd×Qd)),f[i]?=some s->∀p∈s,QfX P N l e xs env0 (b+i) p.1 p.2:=by
 induction h with
 |nil=>intro i s h;simp at h
 | @cons b1 s1 r1 h _ ih=>
  intro i s a p d;cases i with
  |zero=>simp at a;subst a;exact h p d
  |succ i=>
   have:=ih i s (by simpa using a) p d
   rwa [show b1+1+i=b1+(i+1)by omega]at this
theorem Ob.st0{P:Program}{N:Nat}{l:List Oper}{b:List Nat}{xs:List A}{env0:Env}{i:Nat}:∀p∈([]:List (Qd×Qd)),QfX P N l b xs env0 i p.1 p.2:=by
 intro p a;cases a
theorem Ob.stC{P:Program}{N:Nat}{l:List Oper}{a:List Nat}{xs:List A}{env0:Env}{i:Nat}{H H':Qd}{r:List (Qd×Qd)}(h:QfX P N l a xs env0 i H H')
  (k:∀p∈r,QfX P N l a xs env0 i p.1 p.2):∀p∈(H,H')::r,QfX P N l a xs env0 i p.1 p.2:=by
 intro p b;rcases Va.1 b with rfl|q
 .exact h
 .exact k p q
theorem Qbo.nil{H:Qd}:Qbo H [] []:=trivial
theorem Qbo.cons{H:Qd}{az d f:List A}{a b:A}(e:az=a::d)(h:Look H a b)(k:Qbo H d f):Qbo H az (b::f):=by subst e;exact⟨h,k⟩
section
variable {P:Program} {o:Oper} {env:Env} {H:Qd} {α:Type} {e:α->List A}
end
end Go.Sw
namespace Go.Sw
inductive PL (P:Program):List Field->List (Nat×Nat)->Prop
 |nil:PL P [] []
 |cons {f:Field} {n:Nat} {fs:List Field} {pl:List (Nat×Nat)} (h:∀w,(sizeOf f.type).run P w=.ok n w) (k:PL P fs pl):PL P (f::fs) ((f.offset,n)::pl)
theorem PL.run{P:Program}{fs:List Field}{a:List (Nat×Nat)}(h:PL P fs a):∀w,(fs.mapM λf=>(do pure (f.offset, <- sizeOf f.type):Sem (Nat×Nat))).run P w=.ok a w:=by
 induction h with
 |nil=>intro w;rfl
 |cons h _ ih=>
  intro w;rw[List.mapM_cons];simp only[Vr,h,Result.andThen,Vs,ih]
structure QE (P:Program) (t:TypeId) (pl:List (Nat×Nat)):Prop where
 un:∃fs:List Field,(∀w,(underlying t).run P w=.ok (.struct fs.toArray) w)/\PL P fs pl
section
variable {P:Program} {o:Oper} {env:Env} {H:Qd}
def Qec(env:Env)(pl:List (Nat×Nat)):List A->List (Nat×Operand)->Option (List A)
 |cs,[]=>some cs
 |cs,(i,x)::r=>match pl[i]? with
  |none=>none
  |some (off,size)=>bif Yf (opA env x)&&Nat.beq (Q9 (opA env x)).length size&&Nat.ble (off+size) cs.length then Qec env pl (splice cs off (Q9 (opA env x))) r else none
theorem Qfq{fr ro:Nat->Prop}{σ:Sig}{N:Nat}{a:Act}{w:World}(r:Rel fr ro σ H env N a w){b:List (Nat×Nat)}:∀(parts:List (Nat×Operand)) (cs:List A) (l:List Value) (cs':List A),
  LR ro σ w cs l->Qec env b cs parts=some cs'->
  ∃l',Instr.fill (b.toArray[·]?) l.toArray (parts.map λp=>(p.1,a.eval p.2))=some l'.toArray/\LR ro σ w cs' l'
 |[],cs,l,cs',h,q=>by
  cases q;exact⟨l,rfl,h⟩
 |(i,x)::rest,cs,l,cs',h,q=>by
  unfold Qec at q;cases hp:b[i]? with
  |none=>rw[hp]at q;cases q
  |some p=>
   obtain⟨off,size⟩:=p;rw[hp]at q;simp only at q;cases hc:(Yf (opA env x)&&Nat.beq (Q9 (opA env x)).length size&&Nat.ble (off+size) cs.length)with
   |false=>rw[hc]at q;cases q
   |true=>
    rw[hc]at q;simp only[X0]at hc;obtain⟨⟨c1,c2⟩,c3⟩:=hc;obtain⟨m,q1,q2⟩:=(Qg r x).cells c1;have hm:m.length=size:=by rw[q2.length];exact XU c2
    have f:l.length=cs.length:=h.length;obtain⟨l',e,d⟩:=Qfq r rest _ (splice l off m) cs' (h.splice off q2) q;refine⟨l',?_,d⟩;rw[Vn,QgB (off:=off) (size:=size) (by simpa using hp) q1 hm (by rw[f];exact XV c3)];exact e
theorem OpV.build{t:TypeId}{z:Value}{zs cs:List A}{d:List (Nat×Nat)}{parts:List (Nat×Operand)}(m:∀w,(zeroValue t).run P w=.ok z w)(h:ZR (.agg zs) z)(f:QE P t d)
  (j:o.op=.build t parts.toArray:=by exact rfl)(hf:Qec env d zs parts=some cs:=by exact rfl):OpV P o env H (.agg cs):=by
 intro s e σ N a w r;obtain⟨u,k,i⟩:=f.un;obtain⟨l,rfl,g⟩:=h e σ w;obtain⟨b,q,n⟩:=Qfq r parts zs l cs g hf;refine⟨.agg b.toArray,?_,b,rfl,n⟩;generalize hρ:a.eval=ρ at*;have p:=i.run w;simp only[execOp,j,Instr.build,Vr,m,Result.andThen,k,XM,List.mapM_toArray,Sem.run_map,p,Value.cells,q,Vs]
end
def nz(n:Int):Option Unit:=bif n==0 then none else some ()
theorem nz_ok{n:Int}{u:Unit}(h:nz n=some u):n≠0:=by
 rintro rfl;simp[nz]at h
section
variable {P:Program} {o:Oper} {env:Env} {H:Qd}
theorem YE{x:Operand}{a:A}(g:o.op=.nilCheck x)(i:opA env x=a:=by exact rfl)(hk:(match a with|.ptr _ _=>true|.rp _=>true|_=>false)=true:=by exact rfl):OpV P o env H a:=by
 intro k j σ N ac w r;have h:=Qg r x;rw[i]at h;cases a<;>first|(cases hk;done)|skip
 .obtain⟨b,e,d⟩:=h;refine⟨_,?_,b,e,rfl⟩;generalize ac.eval=ρ at*;simp[execOp,g,d,go_sem]
 .obtain⟨b,f,e,d⟩:=h;refine⟨_,?_,b,f,rfl,d⟩;generalize ac.eval=ρ at*;simp[execOp,g,e,go_sem]
end
mutual
def FzA(i k:Nat)(es:List (List A)):A->A->Prop
 |.agg az,b=>∃bs,b=.agg bs/\FzL i k es az bs
 |.fn f x c,b=>∃x' c',b=.fn f x' c'/\FzL i k es x x'/\FzL i k es c c'
 |.iface t a,b=>∃a',b=.iface t a'/\FzA i k es a a'
 |.tup az,b=>∃bs,b=.tup bs/\FzL i k es az bs
 |.osl j o n k',b=>b=.osl j o n k'\/(j=i/\o=0/\k'=k/\n=es.length/\b=.rsl k es)
 |.nils,b=>b=.nils\/ ∃k',b=.rsl k' []
 |a,b=>b=a
def FzL(i k:Nat)(es:List (List A)):List A->List A->Prop
 |[],b=>b=[]
 |a::az,b=>∃a' as',b=a'::as'/\FzA i k es a a'/\FzL i k es az as'
end
mutual
theorem FzA.refl{i k:Nat}{es:List (List A)}:∀a:A,FzA i k es a a
 |.agg az=>⟨az,rfl,FzL.refl az⟩
 |.fn _ x c=>⟨x,c,rfl,FzL.refl x,FzL.refl c⟩
 |.iface _ a=>⟨a,rfl,FzA.refl a⟩
 |.tup az=>⟨az,rfl,FzL.refl az⟩
 |.osl _ _ _ _=>.inl rfl
 |.nils=>.inl rfl
 |.any=>rfl
 |.bool _=>rfl
 |.int _ _=>rfl
 |.str _=>rfl
 |.nilp=>rfl
 |.ptr _ _=>rfl
 |.rp _=>rfl
 |.rsl _ _=>rfl
 |.nilf=>rfl
 |.nilif=>rfl
 |.map _=>rfl
 |.nilm=>rfl
theorem FzL.refl{i k:Nat}{es:List (List A)}:∀az:List A,FzL i k es az az
 |[]=>rfl
 |a::az=>⟨a,az,rfl,FzA.refl a,FzL.refl az⟩
end
theorem FzA.agg{i k:Nat}{es:List (List A)}{az bs:List A}(h:FzL i k es az bs):FzA i k es (.agg az) (.agg bs):=⟨bs,rfl,h⟩
theorem FzA.tup{i k:Nat}{es:List (List A)}{az bs:List A}(h:FzL i k es az bs):FzA i k es (.tup az) (.tup bs):=⟨bs,rfl,h⟩
theorem FzA.iface{i k:Nat}{es:List (List A)}{t:Nat}{a b:A}(h:FzA i k es a b):FzA i k es (.iface t a) (.iface t b):=⟨b,rfl,h⟩
theorem FzA.own{i k n:Nat}{es:List (List A)}(hn:n=es.length):FzA i k es (.osl i 0 n k) (.rsl k es):=.inr ⟨rfl,rfl,rfl,hn,rfl⟩
theorem FzA.nil{i k k':Nat}{es:List (List A)}:FzA i k es .nils (.rsl k' []):=.inr ⟨k',rfl⟩
theorem FzL.cons{i k:Nat}{es:List (List A)}{a b:A}{az bs:List A}(h:FzA i k es a b)(q:FzL i k es az bs):FzL i k es (a::az) (b::bs):=⟨b,bs,rfl,h,q⟩
mutual
theorem Qks{i k:Nat}{es:List (List A)}{ro ro':Nat->Prop}{σ:Sig}{w:World}(ext:Ext ro σ w ro' σ w)
  (hf:∀v,VR ro σ w (.osl i 0 es.length k) v->VR ro' σ w (.rsl k es) v):∀(a b:A) (v:Value),FzA i k es a b->VR ro σ w a v->VR ro' σ w b v
 |.agg az,b,v,h,q=>by
  obtain⟨bs,rfl,h⟩:=h;obtain⟨l,rfl,q⟩:=q;exact⟨l,rfl,QdX ext hf az bs l h q⟩
 |.fn f x c,b,v,h,q=>by
  obtain⟨x',c',rfl,h1,h2⟩:=h;obtain⟨l,l',rfl,q1,q2⟩:=q;exact⟨l,l',rfl,QdX ext hf x x' l h1 q1,QdX ext hf c c' l' h2 q2⟩
 |.iface t a,b,v,h,q=>by
  obtain⟨a',rfl,h⟩:=h;obtain⟨x,rfl,q⟩:=q;exact⟨x,rfl,Qks ext hf a a' x h q⟩
 |.tup az,b,v,h,q=>by
  obtain⟨bs,rfl,h⟩:=h;obtain⟨l,rfl,q⟩:=q;exact⟨l,rfl,QdX ext hf az bs l h q⟩
 |.osl j o n k',b,v,h,q=>by
  rcases h with rfl|⟨rfl,rfl,rfl,rfl,rfl⟩
  .exact q.mono ext
  .exact hf v q
 |.nils,b,v,h,q=>by
  rcases h with rfl|⟨k',rfl⟩
  .exact q
  .obtain rfl:v=.slice none 0 0:=q;exact⟨none,0,rfl,XX _,.inl rfl⟩
 |.any,b,v,h,q=>by obtain rfl:b=_:=h;trivial
 |.bool _,b,v,h,q=>by obtain rfl:b=_:=h;exact q
 |.int _ _,b,v,h,q=>by obtain rfl:b=_:=h;exact q
 |.str _,b,v,h,q=>by obtain rfl:b=_:=h;exact q
 |.nilp,b,v,h,q=>by obtain rfl:b=_:=h;exact q
 |.ptr _ _,b,v,h,q=>by obtain rfl:b=_:=h;exact q.mono ext
 |.rp _,b,v,h,q=>by obtain rfl:b=_:=h;exact q.mono ext
 |.rsl _ _,b,v,h,q=>by obtain rfl:b=_:=h;exact q.mono ext
 |.nilf,b,v,h,q=>by obtain rfl:b=_:=h;exact q
 |.nilif,b,v,h,q=>by obtain rfl:b=_:=h;exact q
 |.map _,b,v,h,q=>by obtain rfl:b=_:=h;exact q.mono ext
 |.nilm,b,v,h,q=>by obtain rfl:b=_:=h;exact q
theorem QdX{i k:Nat}{es:List (List A)}{ro ro':Nat->Prop}{σ:Sig}{w:World}(ext:Ext ro σ w ro' σ w)
  (hf:∀v,VR ro σ w (.osl i 0 es.length k) v->VR ro' σ w (.rsl k es) v):∀(az bs:List A) (l:List Value),FzL i k es az bs->LR ro σ w az l->LR ro' σ w bs l
 |[],bs,l,h,q=>by obtain rfl:bs=[]:=h;exact q
 |a::az,bs,l,h,q=>by
  obtain⟨a',as',rfl,h1,h2⟩:=h;obtain⟨v,l',rfl,q1,q2⟩:=q;exact⟨v,l',rfl,Qks ext hf a a' v h1 q1,QdX ext hf az as' l' h2 q2⟩
end
def FzB(i k:Nat)(es:List (List A))(x y:Blk):Prop:=y=x\/ ∃t cs cs',x=.cells t cs/\y=.cells t cs'/\FzL i k es cs cs'
def FzH(i k:Nat)(es:List (List A)):Qd->Qd->Prop
 |[],h=>h=[]
 |x::r,h=>∃y r',h=y::r'/\FzB i k es x y/\FzH i k es r r'
def Qoh(i k:Nat)(es:List (List A))(env:Env):Env->Prop
 |[]=>True
 |(s,a)::r=>FzA i k es (lk env s) a/\Qoh i k es env r
theorem FzH.nil{i k:Nat}{es:List (List A)}:FzH i k es [] []:=rfl
theorem FzH.keep{i k:Nat}{es:List (List A)}{x:Blk}{r r':Qd}(h:FzH i k es r r'):FzH i k es (x::r) (x::r'):=⟨x,r',rfl,.inl rfl,h⟩
theorem FzH.cells{i k t:Nat}{es:List (List A)}{cs cs':List A}{r r':Qd}(q:FzL i k es cs cs')(h:FzH i k es r r'):FzH i k es (.cells t cs::r) (.cells t cs'::r'):=⟨_,r',rfl,.inr ⟨t,cs,cs',rfl,rfl,q⟩,h⟩
theorem FzH.get{i k:Nat}{es:List (List A)}:∀{H H':Qd},FzH i k es H H'->∀(j:Nat) (y:Blk),H'[j]?=some y->∃x,H[j]?=some x/\FzB i k es x y
 |[],_,h,j,y,q=>by obtain rfl:_=[]:=h;simp at q
 |x::r,_,h,j,y,q=>by
  obtain⟨y',r',rfl,h1,h2⟩:=h;cases j with
  |zero=>simp at q;subst q;exact⟨x,rfl,h1⟩
  |succ j=>simp at q;obtain⟨x',p1,p2⟩:=h2.get j y q;exact⟨x',by simpa using p1,p2⟩
theorem FzH.len{i k:Nat}{es:List (List A)}:∀{H H':Qd},FzH i k es H H'->H'.length=H.length
 |[],_,h=>by obtain rfl:_=[]:=h;rfl
 |x::r,_,h=>by obtain⟨y',r',rfl,h1,h2⟩:=h;simp[h2.len]
theorem FzB.live{i k:Nat}{es:List (List A)}{x y:Blk}(h:FzB i k es x y):y.live=x.live:=by
 rcases h with rfl|⟨t,b,a,rfl,rfl,_⟩<;>rfl
theorem Jj{env:Env}{H H':Qd}{h0 i k t:Nat}{es:List (List A)}(ov:Env)(hi:Nat.ble h0 i=true)(hH:H[i]?=some (.row t k es))(R:Qoh i k es env ov)(L:FzH i k es (H.set i .dead) H'):Le h0 env H (ov++env) H':=by
 intro fr O σ N a w r
 let ro':Nat->Prop:=λb=>O b\/σ[i]?=some (some b)
 have u:∀b,σ[i]?=some (some b)->b<w.heap.size/\ ¬O b/\ ¬fr b:=λb h=>r.sim.own i b _ h hH rfl;have ext:Ext O σ w ro' σ w:=⟨λ_ q=>.inl q,λ_ _=>rfl,λ_ _ q=>q,λ_ _ q=>q⟩;have hf:∀v,VR O σ w (.osl i 0 es.length k) v->VR ro' σ w (.rsl k es) v:=by
  intro v h;rcases h with⟨h0,h⟩|⟨b,p,J,t',m,g,h,n,B,h4,Q⟩
  .have:es=[]:=VN.1 h0;subst this;exact⟨none,0,h,XX _,.inl rfl⟩
  .refine⟨_,J,h,B,?_⟩;by_cases he:es=[]
   .exact .inl he
   .right;have hc:0<J:=Vj (List.length_pos_iff.2 he) B;obtain rfl:=n hc;obtain⟨l,X,V⟩:=r.sim.blk i _ _ g hH;refine⟨b,0,by simp,.inr g,?_⟩;have:=YX (pre:=[]) (by simpa using X) V;exact this.keep ⟨λ_ q=>.inl q,λ_ _=>rfl,λ_ _ q=>q,λ_ _ q=>q⟩ rfl
 have f:∀(j:Nat) (y:Blk),H'[j]?=some y->y≠ .dead->j≠i/\ ∃x,H[j]?=some x/\FzB i k es x y:=by
  intro j y h P;obtain⟨x,g,n⟩:=L.get j y h;by_cases e:j=i
  .subst e;rw[Xb]at g;simp only[if_true]at g;split at g
   .cases g;rcases n with rfl|⟨_,_,_,q,_,_⟩
    .exact absurd rfl P
    .cases q
   .simp at g
  .rw[XT (λq=>e q.symm)]at g;exact⟨e,x,g,n⟩
 refine⟨ro',σ,⟨⟨by rw[L.len,X8];exact r.sim.len,r.sim.roOk.to (λ_ q=>.inl q) (λ_ _=>rfl) ?_,r.sim.frLt,?_,?_,?_,?_,r.sim.hidTo (· = ·) QZ (XX _) (λj b x c X V q3 q4=>q4.elim id λq=>((r.sim.hid j b x c X V q3).ne i c _ q hH rfl rfl).elim) (λ_ _ _ _ _ _ _ q=>q) λj d y g1 T g3=>.inl ?_⟩,?_,r.size,r.defers⟩,λ_ q=>.inl q,rfl⟩
 rotate_left 5
 .obtain⟨_,x,g4,g5⟩:=f j y T (QeI g3);exact⟨j,x,rfl,g1,g4,λz=>by rw[<- g5.live];exact z,λc q=>by rcases g5 with rfl|⟨t,cs,F,rfl,rfl,_⟩;exact q;exact q.elim⟩
 rotate_left 1
 .rintro b (q|q)
  .exact r.sim.roLt b q
  .exact(u b q).1
 .rintro b (q|q)
  .exact r.sim.roFr b q
  .exact(u b q).2.2
 .intro j b v g n B;obtain⟨e,x,n,G⟩:=f j v n (Qav B);have hx:x.live=true:=by rw[<- G.live];exact B
  obtain⟨E,M,p3⟩:=r.sim.own j b x g n hx;refine⟨E,?_,p3⟩;rintro(q|q)
  .exact M q
  .exact e (r.sim.inj j i b x _ g q n hH hx rfl)
 .intro j j' b v v' g n B h4 Q h6;obtain⟨_,x,E,M⟩:=f j v B (Qav Q);obtain⟨_,x',W,Y⟩:=f j' v' h4 (Qav h6);exact r.sim.inj j j' b x x' g n E W (by rw[<- M.live];exact Q) (by rw[<- Y.live];exact h6)
 .intro j s v g n;by_cases P:v≠ .dead
  .obtain⟨_,x,E,M⟩:=f j v n P;have G:=r.sim.blk j s x g E;rcases M with rfl|⟨t,cs,F,rfl,rfl,q⟩
   .exact G.keep ext (λ_ _ _=>rfl) (λ_ _ _ _=>rfl)
   .cases s with
    |none=>exact G.elim
    |some b=>
     obtain⟨l,e1,e2,e3⟩:=G;exact⟨l,e1,QdX ext hf cs F l q e2,e3⟩
  .obtain rfl:v=.dead:=Classical.not_not.1 P;trivial
 .intro s
  induction ov with
  |nil=>exact(r.env s).mono ext
  |cons p ov ih=>
   obtain⟨s1,a1⟩:=p;obtain⟨g1,T⟩:=R;simp only[VO,lk];cases q:Nat.beq s s1 with
   |true=>
    obtain rfl:=XU q;exact Qks ext hf _ _ _ g1 (r.env s)
   |false=>exact ih T
theorem Qoh.nil{i k:Nat}{es:List (List A)}{env:Env}:Qoh i k es env []:=trivial
theorem Qoh.cons{i k s:Nat}{es:List (List A)}{env:Env}{a b:A}{r:Env}(h:lk env s=a)(q:FzA i k es a b)(g:Qoh i k es env r):Qoh i k es env ((s,b)::r):=⟨h▸q,g⟩
def Qdq(P:Program)(env:Env)(H:Qd)(l:ResultVar)(x:A):Prop:=
 ∀fr ro σ N a w,Rel fr ro σ H env N a w->∃v,((match l with
  |.tmp t=>pure (a.tmps.getD t undef)
  |.cell b t=>do loadVar t (<- asAddr (a.tmps.getD b undef)):Sem Value)).run P w=.ok v w/\VR ro σ w x v
def Qkg(P:Program)(env:Env)(H:Qd):List ResultVar->List A->Prop
 |[],xs=>xs=[]
 |l::ls,xs=>∃x xs',xs=x::xs'/\Qdq P env H l x/\Qkg P env H ls xs'
section
variable {P:Program} {fn:Func} {env:Env} {H:Qd}
theorem Qdq.tmp{t:Nat}{x:A}(b:lk env t=x:=by exact rfl):Qdq P env H (.tmp t) x:=
 λfr ro σ N a w r=>⟨a.tmps.getD t undef,rfl,b▸r.env t⟩
theorem Qdq.cell{b t:Nat}{p x:A}{cs:List A}(k:∀w,(isAgg t).run P w=.ok false w)(f:Pts H p (x::cs))(i:lk env b=p:=by exact rfl):Qdq P env H (.cell b t) x:=by
 intro l e σ N a w r;have d:=r.env b;rw[i]at d;obtain⟨n,j,h,⟨y,m,_,g⟩,_⟩:=f l e σ w _ r.sim d;refine⟨y,?_,g⟩;simp only[h];simp[asAddr,loadVar,k,Go.load,Sem.run,m,go_sem]
theorem Qek{b t n:Nat}{p:A}{cs:List A}(k:∀w,(isAgg t).run P w=.ok true w)(m:∀w,(sizeOf t).run P w=.ok n w)(g:Pts H p cs)(j:lk env b=p:=by exact rfl)(hl:(cs.take n).length=n:=by exact rfl):
  Qdq P env H (.cell b t) (.agg (cs.take n)):=by
 intro q f σ N a w r;have e:=r.env b;rw[j]at e;obtain⟨u,off,i,s⟩:=g q f σ w _ r.sim e;obtain⟨l,h,_,d⟩:=YJ (P:=P) (cs:=cs.take n) (off:=off) 0 (by simpa using s.take n);have d:=d w #[] rfl;rw[hl]at d;refine⟨.agg l.toArray,?_,l,rfl,h⟩;simp only[i];simp[asAddr,loadVar,k,m,loadCells,d,go_sem]
theorem Qn{b t n i T:Nat}{cs:List A}(a:∀w,(isAgg t).run P w=.ok true w)(e:∀w,(sizeOf t).run P w=.ok n w)(d:lk env b=.ptr i 0)(hH:H[i]?=some (.cells T cs))(hl:cs.length=n):
  Qdq P env H (.cell b t) (.agg cs):=by
 have:=Qek (b:=b) (p:=.ptr i 0) a e (Pts.cells (off:=0) hH rfl) d (by subst hl;simp);subst hl;simpa using this
theorem Qap{b t i T:Nat}{x:A}(ha:∀w,(isAgg t).run P w=.ok false w)(hx:lk env b=.ptr i 0)(hH:H[i]?=some (.cells T [x])):Qdq P env H (.cell b t) x:=
 Qdq.cell (p:=.ptr i 0) (cs:=[]) ha (Pts.cells (off:=0) hH rfl) hx
theorem Qkg.nil:Qkg P env H [] []:=rfl
theorem Qkg.cons{l:ResultVar}{ls:List ResultVar}{x:A}{xs:List A}(h:Qdq P env H l x)(k:Qkg P env H ls xs):Qkg P env H (l::ls) (x::xs):=⟨x,xs,rfl,h,k⟩
theorem Qkg.run{fr ro:Nat->Prop}{σ:Sig}{N:Nat}{a:Act}{w:World}(r:Rel fr ro σ H env N a w):∀{ls:List ResultVar} {xs:List A},Qkg P env H ls xs->
  ∃vs:List Value,(ls.mapM λl=>(match l with
   |.tmp t=>pure (a.tmps.getD t undef)
   |.cell b t=>do loadVar t (<- asAddr (a.tmps.getD b undef)):Sem Value)).run P w=.ok vs w/\LR ro σ w xs vs
 |[],_,h=>by obtain rfl:_=[]:=h;exact⟨[],rfl,rfl⟩
 |l::ls,_,h=>by
  obtain⟨x,xs,rfl,h1,h2⟩:=h;obtain⟨v,e1,e2⟩:=h1 fr ro σ N a w r;obtain⟨vs,e3,e4⟩:=Qkg.run r h2;refine⟨v::vs,?_,v,vs,rfl,e2,e4⟩;rw[List.mapM_cons];simp only[Vr,e1,Result.andThen,e3,Vs]
theorem Qs{ls:List ResultVar}{xs:List A}(h:fn.results=ls.toArray)(e:Nat.beq ls.length 1=false)(k:Qkg P env H ls xs):Qcy P fn env H (.tup xs):=by
 intro n m σ N a w r;obtain⟨vs,j,d⟩:=k.run r;have b:¬vs.length=1:=by
  have:∀{ls:List ResultVar} {xs:List A},Qkg P env H ls xs->xs.length=ls.length:=by
   intro ls
   induction ls with
   |nil=>intro xs h;obtain rfl:xs=[]:=h;rfl
   |cons l ls i=>intro xs h;obtain⟨x,g,rfl,_,f⟩:=h;simp[i f]
  rw[d.length,this k];intro q;rw[q]at e;cases e
 refine⟨.tuple vs.toArray,?_,vs,rfl,d⟩;unfold results;rw[h];rw[List.mapM_toArray,Vr,Sem.run_map]
 erw [j]
 simp[Result.andThen,b,Vs]
theorem YK{l:ResultVar}{x:A}(h:fn.results= #[l])(k:Qdq P env H l x):Qcy P fn env H x:=by
 intro f e σ N a w r;obtain⟨vs,d,b⟩:=(Qkg.cons k Qkg.nil).run r;obtain⟨v,_,rfl,b,rfl⟩:=b;refine⟨v,?_,b⟩;unfold results;rw[h,show #[l]=[l].toArray from rfl];rw[List.mapM_toArray,Vr,Sem.run_map]
 erw [d]
 rfl
end
end Go.Sw
namespace Go.Sw
mutual
def QbR:A->Bool
 |.bool _=>true
 |.int _ _=>true
 |.str _=>true
 |.agg cs=>QeR cs
 |_=>false
def QeR:List A->Bool
 |[]=>true
 |a::r=>QbR a&&QeR r
end
mutual
def QL:A->Value
 |.bool b=>.bool b
 |.int k n=>.int k n
 |.str s=>.string ⟨s.toArray⟩
 |.agg cs=>.agg (YZ cs).toArray
 |_=>.bool false
def YZ:List A->List Value
 |[]=>[]
 |a::r=>QL a::YZ r
end
mutual
theorem VR.val{ro:Nat->Prop}{σ:Sig}{w:World}:∀{a:A} {v:Value},QbR a=true->VR ro σ w a v->v=QL a
 |.bool _,_,_,h=>h
 |.int _ _,_,_,h=>h
 |.str _,_,_,h=>h
 |.agg cs,v,hs,h=>by
  obtain⟨l,rfl,h⟩:=h;rw[QL,LR.val hs h]
theorem LR.val{ro:Nat->Prop}{σ:Sig}{w:World}:∀{az:List A} {l:List Value},QeR az=true->LR ro σ w az l->l=YZ az
 |[],l,_,h=>h
 |a::r,l,hs,h=>by
  obtain⟨v,l',rfl,h1,h2⟩:=h;simp only[QeR,X0]at hs;rw[YZ,VR.val hs.1 h1,LR.val hs.2 h2]
end
mutual
theorem Qb5{ro:Nat->Prop}{σ:Sig}{w:World}:∀{a:A},QbR a=true->VR ro σ w a (QL a)
 |.bool _,_=>rfl
 |.int _ _,_=>rfl
 |.str _,_=>rfl
 |.agg cs,hs=>⟨YZ cs,rfl,QfZ hs⟩
theorem QfZ{ro:Nat->Prop}{σ:Sig}{w:World}:∀{az:List A},QeR az=true->LR ro σ w az (YZ az)
 |[],_=>rfl
 |a::r,hs=>by
  simp only[QeR,X0]at hs;exact⟨_,_,rfl,Qb5 hs.1,QfZ hs.2⟩
end
end Go.Sw
namespace Go.Sw
open Go.MapKept
structure Y3 (P:Program) (kt:TypeId) {α:Type} (ek:α->A):Prop where
 scl:∀x,QbR (ek x)=true
 inj:∀x y,QL (ek x)=QL (ek y)->x=y
 check:∀(w:World) em x,(Instr.checkKey em 10000 kt (QL (ek x))).run P w=.ok () w
 find:∀(w:World) x (es:List MapEntry),(∀e∈es,∃y,e.key=QL (ek y))->
  ((Instr.findKey kt (QL (ek x)) es).run P w=.ok none w/\ ∀e∈es,e.key≠QL (ek x))\/ ∃j e,(Instr.findKey kt (QL (ek x)) es).run P w=.ok (some (j,e.val)) w/\es[j]?=some e/\e.key=QL (ek x)
 stays:∀(w:World) x,(Instr.keyThatStays (QL (ek x)) (QL (ek x))).run P w=.ok (QL (ek x)) w
section
variable {P:Program} {kt:TypeId}
theorem Y3.plain{α:Type}{ek:α->A}{d:TypeDesc}(b:P.underlying kt=some d)(a:∀x,IsKey d (QL (ek x)))(n:∀x,QbR (ek x)=true)(hi:∀x y,QL (ek x)=QL (ek y)->x=y):Y3 P kt ek:=by
 refine⟨n,hi,λw r x=>run_checkKey b (a x) r 9999,λw x i g=>?_,λw x=>run_keyThatStays (a x)⟩
 .have h:∀y∈i,IsKey d y.key:=λy m=>by
   obtain⟨l,k⟩:=g y m;rw[k];exact a l
  rcases findNow_spec (a x) i 0 h with⟨f,e⟩|⟨j,p,f,e,q⟩
  .exact Or.inl ⟨run_findKey b f,e⟩
  .exact Or.inr ⟨j,p,by simpa using run_findKey b f,e,q⟩
theorem Y3.int{q:IntKind}(hk:P.underlying kt=some (.int q)):Y3 P kt (λn=>A.int q n):=
 Y3.plain hk (λx=>by simp[IsKey,QL]) (λ_=>rfl) (λx y h=>by simpa[QL]using h)
theorem Y3.str(hk:P.underlying kt=some .string):Y3 P kt A.str:=
 Y3.plain hk (λx=>by simp[IsKey,QL]) (λ_=>rfl) (λx y h=>by simpa[QL]using h)
theorem Y3.struct{α:Type}[DecidableEq α]{ek:α->A}{fs:Array Field}(r:P.underlying kt=some (.struct fs))(E:∀x,QbR (ek x)=true)(hi:∀x y,QL (ek x)=QL (ek y)->x=y)
  (H:∀(w:World) em x,(Instr.checkKey em 10000 kt (QL (ek x))).run P w=.ok () w)
  (he:∀(w:World) x y,(Op.equal kt (QL (ek x)) (QL (ek y))).run P w=.ok (decide (x=y)) w)(s:∀x,Instr.sameBits 10000 (QL (ek x)) (QL (ek x))=true):Y3 P kt ek:=by
 refine⟨E,hi,H,λw x a n=>?_,λw x=>by simp[Instr.keyThatStays,s x]⟩
 .have b:∀(a:List MapEntry) (i:Nat),(∀e∈a,∃y,e.key=QL (ek y))->
    ((Instr.findAsking kt (QL (ek x)) a i).run P w=.ok none w/\ ∀e∈a,e.key≠QL (ek x))\/
    ∃j e,(Instr.findAsking kt (QL (ek x)) a i).run P w=.ok (some (i+j,e.val)) w/\a[j]?=some e/\e.key=QL (ek x):=by
   intro a
   induction a with
   |nil=>intro i _;exact .inl ⟨by simp[Instr.findAsking],by simp⟩
   |cons e a F=>
    intro i f;obtain⟨y,h⟩:=f e (by simp);have p:=he w x y;by_cases d:x=y
    .subst d;exact .inr ⟨0,e,by simp[Instr.findAsking,h,p],rfl,h⟩
    .rcases F (i+1) (λz g=>f z (by simp[g]))with⟨k,m⟩|⟨j,u,k,m,B⟩
     .refine .inl ⟨by simp[Instr.findAsking,h,p,d,k],λz g=>?_⟩;rcases Va.1 g with rfl|g
      .rw[h];intro q;exact d (hi _ _ q).symm
      .exact m z g
     .exact .inr ⟨j+1,u,by simp[Instr.findAsking,h,p,d,k,Nat.add_assoc,Nat.add_comm 1 j],by simpa using m,B⟩
  cases a with
  |nil=>exact .inl ⟨by simp[Instr.findKey,run_underlying r,Instr.findNow,Result.andThen],by simp⟩
  |cons e a=>
   have G:Instr.findNow (.struct fs) (QL (ek x)) (e::a) 0=none:=by
    simp only[Instr.findNow];have:∀v l,Instr.sameNow (.struct fs) v l=none:=by intro v l;cases v<;>cases l<;>rfl
    rw[this]
   have t:(Instr.findKey kt (QL (ek x)) (e::a)).run P w=(Instr.findAsking kt (QL (ek x)) (e::a) 0).run P w:=by
    simp only[Instr.findKey,Vr,run_underlying r,Result.andThen,G]
   rw[t];simpa using b (e::a) 0 n
def Ye{α β:Type}[DecidableEq α](l:List (α×β))(k:α):Option β:=(l.find? λp=>decide (p.1=k)).map (·.2)
def QG{α β:Type}[DecidableEq α](l:List (α×β))(k:α)(v:β):List (α×β):=bif l.any λp=>decide (p.1=k)then l.map λp=>bif decide (p.1=k)then(p.1,v)else p else l++[(k,v)]
def Qx{α β:Type}[DecidableEq α](l:List (α×β))(k:α)(z:β):β:=(Ye l k).getD z
def Jq{α β:Type}[DecidableEq α](l:List (α×β))(k:α):Bool:=l.any λp=>decide (p.1=k)
def Qj{α β:Type}(ek:α->A)(ev:β->A)(l:List (α×β)):List (A×A):=l.map λp=>(ek p.1,ev p.2)
section
variable {α β:Type} [DecidableEq α] {ek:α->A} {ev:β->A} {ro:Nat->Prop} {σ:Sig} {w:World} (K:Y3 P kt ek)
include K
theorem QhX:∀{l:List (α×β)} {es:List MapEntry},ER ro σ w (Qj ek ev l) es->es.map (·.key)=l.map λp=>QL (ek p.1)
 |[],es,h=>by cases(show es=[]from h);rfl
 |p::l,es,h=>by
  obtain⟨e,l',rfl,h1,h2,h3⟩:=h;simp only[Vn];rw[VR.val (K.scl _) h1,QhX (l:=l) h3]
theorem QaV{l:List (α×β)}{es:List MapEntry}(h:ER ro σ w (Qj ek ev l) es):∀e∈es,∃y,e.key=QL (ek y):=by
 intro e a;have:e.key∈es.map (·.key):=VK a;rw[QhX K h]at this;obtain⟨p,_,b⟩:=Xe.1 this;exact⟨p.1,b.symm⟩
theorem ER.find:∀{l:List (α×β)} {es:List MapEntry},ER ro σ w (Qj ek ev l) es->∀(x:α),(es.map (·.key)).Nodup->
  ((∀e:MapEntry,e∈es->e.key≠QL (ek x))->Ye l x=none/\Jq l x=false)/\
  (∀(j:Nat) (e:MapEntry),es[j]?=some e->e.key=QL (ek x)->Jq l x=true/\ ∃v,Ye l x=some v/\VR ro σ w (ev v) e.val)
 |[],es,h,x,_=>by
  cases(show es=[]from h);exact⟨λ_=>⟨rfl,rfl⟩,λj e he=>by simp at he⟩
 |p::l,es,h,x,hn=>by
  obtain⟨e0,l',rfl,h1,h2,h3⟩:=h;have hk:e0.key=QL (ek p.1):=VR.val (K.scl _) h1;simp only[Vn,List.nodup_cons]at hn;obtain⟨a1,a2⟩:=ER.find (l:=l) h3 x hn.2;by_cases hp:p.1=x
  .subst hp;constructor
   .intro q;exact absurd hk (q e0 (by simp))
   .intro j e he hx;cases j with
    |zero=>
     simp only[XI,Option.some.injEq]at he;subst he;exact⟨by simp[Jq],p.2,by simp[Ye],h2⟩
    |succ j=>
     simp only[XJ]at he;exact absurd (hk.trans hx.symm▸VK (f:=λe:MapEntry=>e.key) (VL he)) hn.1
  .have e1:Ye (p::l) x=Ye l x:=by simp[Ye,hp]
   have a:Jq (p::l) x=Jq l x:=by simp[Jq,hp]
   rw[e1,a];constructor
   .intro q;exact a1 λe he=>q e (by simp[he])
   .intro j e he hx;cases j with
    |zero=>
     simp only[XI,Option.some.injEq]at he;subst he;exact absurd (K.inj _ _ (hk.symm.trans hx)) hp
    |succ j=>exact a2 j e (by simpa using he) hx
end
end
end Go.Sw
namespace Go.Sw
open Go.MapKept
section
variable {P:Program} {o:Oper} {env:Env} {H:Qd}
theorem Q7{T:Nat}(d:o.op=.makeMap T none:=by exact rfl):OpH P o env H (.map H.length) (H++[.map []]):=by
 intro e b σ N a w r;refine⟨.map (some w.heap.size),w.alloc (.map #[] 0),b,[some w.heap.size],?_,⟨w.heap.size,?_,rfl⟩,r.sim.alloc ⟨#[],0,Yg _ _,rfl,by simp,by simp,by simp⟩,Qh.alloc _ r.sim.roLt r.sim.frLt⟩
 .generalize a.eval=ρ at*;simp only[execOp,d,Instr.makeMap,Xk,Vr];rfl
 .rw[<- r.sim.len];simp
section
variable {T kt et:Nat} {α β:Type} [DecidableEq α] {ek:α->A} {ev:β->A} {x y:Operand} {i:Nat} {l:List (α×β)} {k:α} {z0:β} {z:Value}
theorem QcB(K:Y3 P kt ek){ro:Nat->Prop}{w:World}(n:P.underlying T=some (.map kt et))(q:∀w,(zeroValue et).run P w=.ok z w)(f:ZR (ev z0) z){b a:Nat}{es:Array MapEntry}
  (m:w.heap[b]?=some (.map es a))(he:ER ro [] w (Qj ek ev l) es.toList)(s:(es.toList.map (·.key)).Nodup):
  ∃v,(∀ck,(Instr.lookup T (.map (some b)) (QL (ek k)) ck).run P w=.ok (if ck then .tuple #[v,.bool (Jq l k)]else v) w)/\VR ro [] w (ev (Qx l k z0)) v:=by
 obtain⟨r,u⟩:=ER.find K he k s;rcases K.find w k es.toList (QaV K he)with⟨h,g⟩|⟨j,e,h,g,t⟩
 .obtain⟨i,d⟩:=r g;refine⟨z,λck=>?_,?_⟩
  .simp only[Instr.lookup,Vr,run_underlying n,Result.andThen,MapKept.run_getObj_map m,Vs,K.check,h,q,d]
  .rw[Qx,i];exact f _ _ _
 .obtain⟨i,v,d,p⟩:=u j e g t;refine⟨e.val,λck=>?_,?_⟩
  .simp only[Instr.lookup,Vr,run_underlying n,Result.andThen,MapKept.run_getObj_map m,Vs,K.check,h,i]
  .rw[Qx,d];exact p
theorem Y9{zv:β}(K:Y3 P kt ek)(E:some (Qx l k z0)=some zv)(F:P.underlying T=some (.map kt et))(n:∀w,(zeroValue et).run P w=.ok z w)(e:ZR (ev z0) z)
  (m:o.op=.lookup T x y false:=by exact rfl)(hx:opA env x=.map i:=by exact rfl)(hH:H[i]?=some (.map (Qj ek ev l)):=by exact rfl)(hy:opA env y=ek k:=by exact rfl):OpV P o env H (ev zv):=by
 obtain rfl:=X4 E;intro L O σ N a w r;have f:=Qg r x;rw[hx]at f;obtain⟨b,h,u⟩:=f;have g:=Qg r y;rw[hy]at g;have s:=VR.val (K.scl _) g;obtain⟨M,d,J,B,R,Q,p⟩:=r.sim.blk i _ _ h hH;obtain⟨v,t,G⟩:=QcB (T:=T) (z0:=z0) (k:=k) K F n e J B p;refine⟨v,?_,G.mono ⟨λ_ q=>q,λ_ _=>rfl,λ_ _ q=>q,λj c q=>by simp at q⟩⟩;have:=t false;simp only[execOp,m,u,s,Vr,this,Result.andThen];rfl
theorem QbD{zv:β}(K:Y3 P kt ek)(E:some (Qx l k z0)=some zv)(F:P.underlying T=some (.map kt et))(n:∀w,(zeroValue et).run P w=.ok z w)(e:ZR (ev z0) z)
  (m:o.op=.lookup T x y true:=by exact rfl)(hx:opA env x=.map i:=by exact rfl)(hH:H[i]?=some (.map (Qj ek ev l)):=by exact rfl)(hy:opA env y=ek k:=by exact rfl):OpV P o env H (.tup [ev zv,.bool (Jq l k)]):=by
 obtain rfl:=X4 E;intro L O σ N a w r;have f:=Qg r x;rw[hx]at f;obtain⟨b,h,u⟩:=f;have g:=Qg r y;rw[hy]at g;have s:=VR.val (K.scl _) g;obtain⟨M,d,J,B,R,Q,p⟩:=r.sim.blk i _ _ h hH;obtain⟨v,t,G⟩:=QcB (T:=T) (z0:=z0) (k:=k) K F n e J B p;refine⟨.tuple #[v,.bool (Jq l k)],?_,[v,.bool (Jq l k)],rfl,v,_,rfl,G.mono ⟨λ_ q=>q,λ_ _=>rfl,λ_ _ q=>q,λj c q=>by simp at q⟩,_,_,rfl,rfl,rfl⟩;have:=t true;simp only[execOp,m,u,s,Vr,this,Result.andThen];rfl
theorem Ql9{zv:β}(K:Y3 P kt ek)(E:some (Qx l k z0)=some zv)(F:P.underlying T=some (.map kt et))(n:∀w,(zeroValue et).run P w=.ok z w)(e:ZR (ev z0) z)
  (m:o.op=.lookup T x y false:=by exact rfl)(hx:opA env x=.map i:=by exact rfl)(hH:H[i]?=some (.fmap (Qj ek ev l)):=by exact rfl)(hy:opA env y=ek k:=by exact rfl):OpV P o env H (ev zv):=by
 obtain rfl:=X4 E;intro L O σ N a w r;have f:=Qg r x;rw[hx]at f;obtain⟨b,h,u⟩:=f;have g:=Qg r y;rw[hy]at g;have s:=VR.val (K.scl _) g;obtain⟨_,M,d,J,B,R,Q,p⟩:=r.sim.blk i _ _ h hH;obtain⟨v,t,G⟩:=QcB (T:=T) (z0:=z0) (k:=k) K F n e J B p;refine⟨v,?_,G.mono ⟨λ_ q=>q,λ_ _=>rfl,λ_ _ q=>q,λj c q=>by simp at q⟩⟩;have:=t false;simp only[execOp,m,u,s,Vr,this,Result.andThen];rfl
theorem ER.append{ro:Nat->Prop}{σ:Sig}{w:World}:∀{l m:List (A×A)} {es fs:List MapEntry},ER ro σ w l es->ER ro σ w m fs->ER ro σ w (l++m) (es++fs)
 |[],m,es,fs,h,k=>by cases(show es=[]from h);exact k
 |p::l,m,es,fs,h,k=>by
  obtain⟨e,l',rfl,h1,h2,h3⟩:=h;exact⟨e,l'++fs,rfl,h1,h2,ER.append h3 k⟩
theorem ER.put(K:Y3 P kt ek){ro:Nat->Prop}{w w':World}{v:β}{val:Value}(a:Ext ro [] w ro [] w')(b:VR ro [] w (ev v) val):∀{l:List (α×β)} {es:List MapEntry} {j:Nat} {e:MapEntry},ER ro [] w (Qj ek ev l) es->
  (es.map (·.key)).Nodup->es[j]?=some e->e.key=QL (ek k)->
  ER ro [] w' (Qj ek ev (l.map λp=>bif decide (p.1=k)then(p.1,v)else p)) (es.modify j λe=>{e with key:=QL (ek k),val:=val})
 |[],es,j,e,h,hn,he,hk=>by cases(show es=[]from h);simp at he
 |p::l,es,j,e,h,hn,he,hk=>by
  obtain⟨e0,l',rfl,h1,h2,h3⟩:=h;have hk0:e0.key=QL (ek p.1):=VR.val (K.scl _) h1;simp only[Vn,List.nodup_cons]at hn;cases j with
  |zero=>
   simp only[XI,Option.some.injEq]at he;subst he;have hp:p.1=k:=K.inj _ _ (hk0.symm.trans hk);simp only[List.modify_zero_cons];have e1:Qj ek ev ((p::l).map λp=>bif decide (p.1=k)then(p.1,v)else p)=(ek p.1,ev v)::Qj ek ev l:=by
    simp only[Qj,Vn,hp,decide_true,Vt,List.map_map,List.cons.injEq,true_and];apply List.map_congr_left;intro q d;have:q.1≠k:=by
     intro e;refine hn.1 ?_;rw[QhX K h3];exact Xe.2 ⟨q,d,by rw[e, <- hp,hk0]⟩
    simp[this]
   rw[e1];refine⟨_,l',rfl,?_,b.mono a,h3.mono a⟩;show VR ro [] w' (ek p.1) (QL (ek k));rw[<- hp];exact Qb5 (K.scl _)
  |succ j=>
   simp only[XJ]at he;have hp:p.1≠k:=by
    intro q;refine hn.1 (Xe.2 ⟨e,VL he,?_⟩);rw[hk,hk0,q]
   simp only[List.modify_succ_cons];have e1:Qj ek ev ((p::l).map λp=>bif decide (p.1=k)then(p.1,v)else p)=(ek p.1,ev p.2)::Qj ek ev (l.map λp=>bif decide (p.1=k)then(p.1,v)else p):=by
    simp[Qj,hp]
   rw[e1];exact⟨_,_,rfl,h1.mono a,h2.mono a,ER.put K a b h3 hn.2 he hk⟩
theorem Q4{m:List (α×β)}(K:Y3 P kt ek){v:β}{zz:Operand}(hm:some (QG l k v)=some m)(L:Yr (ev v)=true)(hT:P.underlying T=some (.map kt et))
  (ho:o.op=.mapUpdate T x y zz:=by exact rfl)(hx:opA env x=.map i:=by exact rfl)(hH:H[i]?=some (.map (Qj ek ev l)):=by exact rfl)(Q:opA env y=ek k:=by exact rfl)(hv:opA env zz=ev v:=by exact rfl):
  OpU P o env H (H.set i (.map (Qj ek ev m))):=by
 obtain rfl:=X4 hm;intro fr Y σ N a w r;have h1:=Qg r x;rw[hx]at h1;obtain⟨b,q1,q2⟩:=h1;have h2:=Qg r y;rw[Q]at h2;have h3:=VR.val (K.scl _) h2;have h4:=Qg r zz;rw[hv]at h4;have O:VR Y [] w (ev v) (a.eval zz):=VR.data L h4;obtain⟨u,s,M,X,p3,p4,V⟩:=r.sim.blk i _ _ q1 hH;obtain⟨f1,f2⟩:=ER.find K X k V;have R:∀(obj:Obj) y,w.shape? b=some y->({w with heap:=w.heap.setIfInBounds b obj}:World).shape? b=some y:=by
  intro obj y Q;unfold World.shape? at Q;rw[M]at Q;simp at Q
 rcases K.find w k u.toList (QaV K X)with⟨g1,J⟩|⟨j,e,g1,J,W⟩
 .obtain⟨u1,u2⟩:=f1 J;have hl:QG l k v=l++[(k,v)]:=by
   unfold QG;rw[show(l.any λp=>decide (p.1=k))=false from u2];rfl
  have g:=r.sim.set (x':=.map (Qj ek ev (QG l k v))) (obj:=.map (u.push {key:=QL (ek k),val:=a.eval zz,born:=s}) (s+1)) q1 hH rfl (R _)
   (λe B=>⟨_,_,B,by
    rw[hl,Qj,Xf,Array.toList_push];exact(X.mono ⟨e.sub,e.keep,e.shape,λ_ _ q=>q⟩).append ⟨_,_,rfl,Qb5 (K.scl _),O.mono ⟨e.sub,e.keep,e.shape,λ_ _ q=>q⟩,rfl⟩,by
    rw[Array.toList_push];intro e B;rcases VH.1 B with q|q
    .exact Nat.lt_succ_of_lt (p3 e q)
    .simp at q;subst q;exact Xo _,by
    rw[Array.toList_push,Xf];refine List.nodup_append.2 ⟨p4,by simp,?_⟩;intro c hc d L;simp at L;subst L;obtain⟨e,B,rfl⟩:=Xe.1 hc;exact Nat.ne_of_lt (p3 e B),by
    rw[Array.toList_push,Xf];refine List.nodup_append.2 ⟨V,by simp,?_⟩;intro c hc d L;simp at L;subst L;obtain⟨e,B,rfl⟩:=Xe.1 hc;exact J e B⟩)
  refine⟨_,Y,[],?_,by simpa using g.1,g.2⟩;simp only[execOp,ho,q2,h3,Vr,Instr.mapUpdate,run_underlying hT,Result.andThen,MapKept.run_getObj_map M,K.check,g1,MapKept.run_setObj_map _ M];rfl
 .obtain⟨u1,u2⟩:=f2 j e J W;have hl:QG l k v=l.map λp=>bif decide (p.1=k)then(p.1,v)else p:=by
   unfold QG;rw[show(l.any λp=>decide (p.1=k))=true from u1];rfl
  have hj:u[j]?=some e:=by rw[<- J];simp
  have t:(u.modify j λe=>{e with key:=QL (ek k),val:=a.eval zz}).toList=u.toList.modify j λe=>{e with key:=QL (ek k),val:=a.eval zz}:=by simp
  have z:∀{γ:Type} (f:MapEntry->γ),(∀F,u.toList[j]?=some F->f {F with key:=QL (ek k),val:=a.eval zz}=f F)->(u.toList.modify j λe=>{e with key:=QL (ek k),val:=a.eval zz}).map f=u.toList.map f:=by
   intro γ f hf;apply List.ext_getElem?;intro n;rw[Xq,Xq,List.getElem?_modify];by_cases hn:j=n
   .subst hn;cases q:u.toList[j]? with
    |none=>rfl
    |some F=>simp[hf F q]
   .simp[hn]
  have g:=r.sim.set (x':=.map (Qj ek ev (QG l k v))) (obj:=.map (u.modify j λe=>{e with key:=QL (ek k),val:=a.eval zz}) s) q1 hH rfl (R _)
   (λe0 B=>⟨_,_,B,by
    rw[hl,t];exact ER.put K ⟨e0.sub,e0.keep,e0.shape,λ_ _ q=>q⟩ O X V J W,by
    rw[t];intro F E;have:F.born∈(u.toList.modify j λe=>{e with key:=QL (ek k),val:=a.eval zz}).map (·.born):=VK E;rw[z (·.born) (λ_ _=>rfl)]at this;obtain⟨e2,h,h'⟩:=Xe.1 this;rw[<- h'];exact p3 e2 h,by
    rw[t,z (·.born) (λ_ _=>rfl)];exact p4,by
    rw[t,z (·.key) (λF E=>by rw[J]at E;cases E;exact W.symm)];exact V⟩)
  refine⟨_,Y,[],?_,by simpa using g.1,g.2⟩;have G:=K.stays w k;simp only[execOp,ho,q2,h3,Vr,Instr.mapUpdate,run_underlying hT,Result.andThen,MapKept.run_getObj_map M,K.check,g1,hj,Xj,Option.getD_some,W,G,MapKept.run_setObj_map _ M];rfl
theorem ER.length{ro:Nat->Prop}{σ:Sig}{w:World}:∀{l:List (A×A)} {es:List MapEntry},ER ro σ w l es->es.length=l.length
 |[],es,h=>by cases(show es=[]from h);rfl
 |p::l,es,h=>by
  obtain⟨e,l',rfl,_,_,h3⟩:=h;simp[ER.length h3]
theorem QcQ{c:Call}{n:Int}(s:P.underlying T=some (.map kt et))(t:(l.length:Int)=n)(q:o.op=.call c:=by exact rfl)(hc:c={callee:=.builtin .len,args:= #[x],argTypes:= #[T]}:=by exact rfl)
  (hx:opA env x=.map i:=by exact rfl)(hH:H[i]?=some (.map (Qj ek ev l)):=by exact rfl):OpV P o env H (.int .i64 n):=by
 intro B y σ N a w r;have g:=Qg r x;rw[hx]at g;obtain⟨b,m,f⟩:=g;obtain⟨h,e,u,k,F,E,z⟩:=r.sim.blk i _ _ m hH;have p:=k.length;refine⟨.int .i64 n,?_,rfl⟩;have d:goInt h.size=.int .i64 n:=by
  have:h.size=l.length:=by rw[<- Array.length_toList,p];simp[Qj]
  rw[this, <- t];rfl
 subst hc;have j:=f;generalize a.eval=ρ at*;rw[<- d];simp[execOp,q,f,resolve,invoke,Go.builtin,Builtin.len_,run_underlying s,MapKept.run_getObj_map u,go_sem]
end
end
end Go.Sw
namespace Go.Sw
open Go.ChangeMaps (setBlock)
section
variable {P:Program} {o:Oper} {env:Env} {H:Qd} {h0 N:Nat} {Q:QD}
def OpE(P:Program)(o:Oper)(env:Env)(H:Qd)(K:A->Qd->Prop):Prop:=
 ∀fr ro σ N a w,Rel fr ro σ H env N a w->∃x H' v w' ro' τ,K x H'/\(execOp a.eval o).run P w=.ok (.value v) w'/\VR ro' (σ++τ) w' x v/\
  Sim fr ro' (σ++τ) H' w'/\Qh fr ro w ro' w'
theorem Qkd{all:Array Oper}{l:List Oper}{d:Nat}{K:A->Qd->Prop}(n:h0<=H.length)(hg:Qp all o env true)(z:o.dst=some d)(u:Nat.blt d N=true)
  (g:OpE P o env H K)(k:∀x H',K x H'->WO P h0 N all l (up env d x) H' Q):WO P h0 N all (o::l) env H Q:=by
 intro y fr j σ a w r hrd;obtain⟨x,H',v,i,b,τ,B,p,m,E,f⟩:=g fr j σ N a w r;refine Qab (YI hg r) p ?_;simp only[z,Act.put];have h:d<N:=by simpa using u
 have t:Rel fr b (σ++τ) H' (up env d x) N {a with tmps:=a.tmps.setIfInBounds d v} i:=
  ⟨E,VR.up (fr:=fr) (λs=>(r.env s).mono (f.ext σ τ)) (by rw[r.size];exact h) m,by simpa using r.size,r.defers.keep f⟩
 refine Yk (λe a w q=>q.step f (Qt ?_)) _ _ _ (k x H' B y fr b (σ++τ) _ i t (hrd.to f λ_ q=>q));rw[r.sim.len];exact n
theorem Sim.shutMap{fr ro:Nat->Prop}{σ:Sig}{w:World}(s:Sim fr ro σ H w){i b:Nat}{es:List (A×A)}(hσ:σ[i]?=some (some b))(hH:H[i]?=some (.map es)):
  Sim fr (λc=>ro c\/c=b) σ (H.set i (.fmap es)) w:=by
 have k:b<w.heap.size/\ ¬ro b/\ ¬fr b:=s.own i b _ hσ hH rfl;have ext:Ext ro σ w (λc=>ro c\/c=b) σ w:=⟨λ_ q=>.inl q,λ_ _=>rfl,λ_ _ q=>q,λ_ _ q=>q⟩;have a:∀(j:Nat) (v:Blk),(H.set i (.fmap es))[j]?=some v->v.live=true->j≠i/\H[j]?=some v:=by
  intro j v h t;by_cases e:j=i
  .subst e;rw[Xb]at h;simp only[if_true]at h;split at h
   .cases h;simp[Blk.live]at t
   .simp at h
  .rw[XT (λq=>e q.symm)]at h;exact⟨e,h⟩
 have g:∀(j:Nat) (v:Blk),(H.set i (.fmap es))[j]?=some v->v.holds=true->H[j]?=some v:=by
  intro j v h t;by_cases e:j=i
  .subst e;rw[Xb]at h;simp only[if_true]at h;split at h
   .cases h;cases t
   .simp at h
  .rw[XT (λq=>e q.symm)]at h;exact h
 refine⟨by rw[X8];exact s.len,s.roOk.to (λ_ q=>.inl q) (λ_ _=>rfl) ?_,s.frLt,?_,?_,?_,?_,s.hidTo (· = ·) QZ (XX _) (λj d x c M R O J=>J.elim id λq=>((s.hid j d x c M R O).ne i b _ hσ hH rfl q).elim) (λ_ _ _ _ _ _ _ q=>q) λj d y Q L N=>.inl ⟨j,y,rfl,Q,g j y L N,id,λ_ q=>q⟩⟩
 .rintro c (q|rfl)
  .exact s.roLt c q
  .exact k.1
 .rintro c (q|rfl)
  .exact s.roFr c q
  .exact k.2.2
 .intro j c v m f p;obtain⟨e,f⟩:=a j v f p;obtain⟨r,z,u⟩:=s.own j c v m f p;refine⟨r,?_,u⟩;rintro(q|rfl)
  .exact z q
  .exact e (s.inj j i c v _ m hσ f hH p rfl)
 .intro j G c v F m f p P B E;exact s.inj j G c v F m f (a j v p B).2 (a G F P E).2 B E
 .intro j y v m f;by_cases e:j=i
  .subst e;rw[hσ]at m;cases m;rw[Xb]at f;simp only[if_true]at f;split at f
   .cases f;obtain⟨l,n,r,z,u⟩:=s.blk j _ _ hσ hH;exact⟨.inr rfl,l,n,r,z.mono ext.nil,u⟩
   .simp at f
  .rw[XT (λq=>e q.symm)]at f;exact(s.blk j y v m f).keep ext (λ_ _ _=>rfl) (λ_ _ _ _=>rfl)
section
variable {T kt et i:Nat} {x:Operand} {es:List (A×A)}
theorem QfV(u:P.underlying T=some (.map kt et))(t:o.op=.range T x:=by exact rfl)(hx:opA env x=.map i:=by exact rfl)(hH:H[i]?=some (.fmap es):=by exact rfl):
  OpH P o env H (.ptr H.length 0) (H++[.iter none es]):=by
 intro y j σ N a w r;have k:=Qg r x;rw[hx]at k;obtain⟨b,s,n⟩:=k;obtain⟨g,l,d,m,p,B,z,E⟩:=r.sim.blk i _ _ s hH;have q:=r.sim.roLt b g;have f:Qh y j w j (w.alloc (.mapIter (some b) d #[] d)):=Qh.alloc _ r.sim.roLt r.sim.frLt;have ext0:Ext j [] w j [] (w.alloc (.mapIter (some b) d #[] d)):=f.ext0 [];refine⟨.pointer (some ⟨w.heap.size,0,none⟩),w.alloc (.mapIter (some b) d #[] d),_,[some w.heap.size],?_,⟨w.heap.size,?_,rfl⟩,
  r.sim.alloc (.inr ⟨b,l,d, #[],l.toList,Yg _ _,g,by rw[Yv _ _ _ q];exact m,B,z,?_,p.mono ext0,λ_ h=>by cases h⟩),f⟩
 .generalize a.eval=ρ at*;simp only[execOp,t,n,Instr.range,Vr,run_underlying u,Result.andThen,MapKept.run_getObj_map m];rfl
 .rw[<- r.sim.len];simp
 .have:l.toList.filter (λe=> !(#[]:Array Nat).contains e.born)=l.toList:=by rw[List.filter_eq_self];intro e _;simp
  rw[this]
theorem ER.mem{ro:Nat->Prop}{σ:Sig}{w:World}:∀{es:List (A×A)} {l:List MapEntry},ER ro σ w es l->∀e∈l,∃x es' l',(x::es').Perm es/\(e::l').Perm l/\VR ro σ w x.1 e.key/\VR ro σ w x.2 e.val/\ER ro σ w es' l'
 |[],l,h,e,he=>by cases(show l=[]from h);cases he
 |y::es,l,h,e,he=>by
  obtain⟨e0,l',rfl,h1,h2,h3⟩:=h;rcases Va.1 he with rfl|he
  .exact⟨y,es,l',.refl _,.refl _,h1,h2,h3⟩
  .obtain⟨x,es',l'',p1,p2,v1,v2,h4⟩:=ER.mem h3 e he;exact⟨x,y::es',e0::l'',(List.Perm.swap _ _ _).trans (p1.cons _),(List.Perm.swap _ _ _).trans (p2.cons _),v1,v2,⟨e0,l'',rfl,h1,h2,h4⟩⟩
theorem Qi5:∀{l:List MapEntry},(l.map (·.born)).Nodup->∀a∈l,∀b∈l,a.born=b.born->a=b
 |[],_,a,ha,_,_,_=>by cases ha
 |c::l,hn,a,ha,b,hb,hab=>by
  simp only[Vn,List.nodup_cons]at hn;rcases Va.1 ha with ea|ha'<;>rcases Va.1 hb with eb|hb'
  .rw[ea,eb]
  .subst ea;exact absurd (Xe.2 ⟨b,hb',hab.symm⟩) hn.1
  .subst eb;exact absurd (Xe.2 ⟨a,ha',hab⟩) hn.1
  .exact Qi5 hn.2 a ha' b hb' hab
def NextK(H:Qd)(i:Nat)(cur:Option (A×A))(es:List (A×A))(v:A)(H':Qd):Prop:=
 (es=[]/\v=.tup [.bool false]/\H'=H)\/ ∃e es',(e::es').Perm es/\v=.tup [.bool true,e.1,e.2]/\H'=H.set i (.iter (some e) es')
theorem OpE.next{L:Option (A×A)}(ho:o.op=.next x false:=by exact rfl)(hx:opA env x=.ptr i 0:=by exact rfl)(hH:H[i]?=some (.iter L es):=by exact rfl):
  OpE P o env H (NextK H i L es):=by
 intro fr n σ N a w r;have h1:=Qg r x;rw[hx]at h1;obtain⟨b,q1,q2⟩:=h1;have g:∀(v:Value) (w1:World),w1.heap=w.heap->w1.os=w.os->w1.tape=w.tape->w1.output=w.output->w.drawn<=w1.drawn->Sim fr n (σ++[]) H w1/\Qh fr n w n w1:=by
  intro v w1 W e2 e3 e4 e5;exact⟨by simpa using r.sim.heap W,Qh.heap W e2 e3 e4 e5⟩
 rcases r.sim.blk i _ _ q1 hH with⟨rfl,rfl,p⟩|⟨m,l,d,f,left,Y,p2,X,p4,p5,p6,p7,p8⟩
 .refine⟨_,_,.tuple #[.bool false],w,n,[],.inl ⟨rfl,rfl,rfl⟩,?_,⟨_,rfl,_,_,rfl,rfl,rfl⟩,g (.bool false) w rfl rfl rfl rfl (XX _)⟩;generalize a.eval=ρ at*;simp only[execOp,ho,q2,Instr.next,Vr,getObj,Sem.run,p,Result.andThen];rfl
 .have s:(leftOf l f).toList=l.toList.filter λe=> !f.contains e.born:=by simp[leftOf]
  have t:left.Perm (leftOf l f).toList:=by rw[s];exact p6
  rcases run_next_at (P:=P) w o.type b m d d f l d Y X p4 (XX _)with⟨T,g2⟩|⟨e,T,w1,g2,g3⟩
  .have ag:left=[]:=by
    have:left.length=0:=by rw[t.length_eq];simpa using T
    exact VN.1 this
   subst ag;have af:es=[]:=by
    have:=p7.length;simp only[List.length_nil]at this;exact VN.1 this.symm
   refine⟨_,_,.tuple #[.bool false],w,n,[],.inl ⟨af,rfl,rfl⟩,?_,⟨_,rfl,_,_,rfl,rfl,rfl⟩,g (.bool false) w rfl rfl rfl rfl (XX _)⟩;generalize a.eval=ρ at*;simp only[execOp,ho,q2,Vr,g2,Result.andThen];rfl
  .have he:e∈left:=t.mem_iff.2 T;have J:e∈l.toList:=by rw[s]at T;exact(Xd.1 T).1
   obtain⟨y,R,O,k1,k2,v1,v2,k3⟩:=p7.mem e he;have k:w1.heap=w.heap/\w1.os=w.os/\w1.tape=w.tape/\w1.output=w.output/\w.drawn<=w1.drawn:=by
    rcases g2 with rfl|rfl
    .exact⟨rfl,rfl,rfl,rfl,XX _⟩
    .exact⟨rfl,rfl,rfl,rfl,Nat.le_succ _⟩
   obtain⟨s1,F⟩:=g (.bool false) w1 k.1 k.2.1 k.2.2.1 k.2.2.2.1 k.2.2.2.2;rw[Vk]at s1;have ae:b≠m:=by
    rintro rfl;rw[Y]at X;cases X
   have E:=s1.set (x':=.iter (some y) R) (obj:=.mapIter (some m) d (f.push e.born) d) q1 hH rfl
    (λz B=>by
     unfold World.shape? at B;rw[k.1,Y]at B;simp at B)
    (λu ac=>.inr ⟨m,l,d,f.push e.born,O,ac,u.sub _ p2,by
      show(w1.heap.setIfInBounds b _)[m]?=_;rw[Vi,Vw ae,k.1];exact X,p4,p5,by
      have aa:(l.toList.filter λe=> !f.contains e.born).Nodup:=by
       have:l.toList.Nodup:=List.Pairwise.of_map _ (λa b h q=>h (congrArg _ q)) p5;exact this.filter _
      have hp:(e::O).Perm (l.toList.filter λe=> !f.contains e.born):=k2.trans p6;have M:(e::O).Nodup:=hp.nodup_iff.2 aa;have W:(l.toList.filter λG=> !(f.push e.born).contains G.born)=(l.toList.filter λe=> !f.contains e.born).filter λG=> !decide (G.born=e.born):=by
       rw[List.filter_filter];apply List.filter_congr;intro z _;simp[Array.contains_push,Bool.and_comm]
      rw[W];have h2:=hp.filter (λG=> !decide (G.born=e.born));have e2:(e::O).filter (λG=> !decide (G.born=e.born))=O:=by
       rw[List.filter_cons_of_neg (by simp),List.filter_eq_self];intro z B;have ab:z∈l.toList:=(Xd.1 (hp.mem_iff.1 (X9 _ B))).1;simp only[Bool.not_eq_true',decide_eq_false_iff_not];intro hb;have:z=e:=by
        exact Qi5 p5 z ab e J hb
       subst this;exact(List.nodup_cons.1 M).1 B
      rw[e2]at h2;exact h2,by
      have V:Ext n [] w n [] w1:=F.ext0 [];exact(k3.mono V).mono ⟨u.sub,u.keep,u.shape,λ_ _ q=>q⟩,by
      intro z B;cases B;have V:Ext n [] w n [] w1:=F.ext0 [];exact⟨e,J,by simp,(v1.mono V).mono ⟨u.sub,u.keep,u.shape,λ_ _ q=>q⟩,(v2.mono V).mono ⟨u.sub,u.keep,u.shape,λ_ _ q=>q⟩⟩⟩)
   have Q:=F.trans E.2;have xt:Ext n [] w n [] {w1 with heap:=w1.heap.setIfInBounds b (.mapIter (some m) d (f.push e.born) d)}:=Q.ext0 [];refine⟨_,_,.tuple #[.bool true,e.key,e.val],_,n,[],.inr ⟨y,R,k1,rfl,rfl⟩,?_,
    ⟨[.bool true,e.key,e.val],rfl,_,_,rfl,rfl,_,_,rfl,(v1.mono xt).mono ⟨λ_ q=>q,λ_ _=>rfl,λ_ _ q=>q,λj c q=>by simp at q⟩,_,_,rfl,(v2.mono xt).mono ⟨λ_ q=>q,λ_ _=>rfl,λ_ _ q=>q,λj c q=>by simp at q⟩,rfl⟩,by simpa using E.1,Q⟩
   generalize a.eval=ρ at*;simp only[execOp,ho,q2,Vr,g3,Result.andThen,setBlock];rfl
theorem OpV.entry{e:A×A}(s:o.op=.entry x:=by exact rfl)(hx:opA env x=.ptr i 0:=by exact rfl)(hH:H[i]?=some (.iter (some e) es):=by exact rfl):OpV P o env H (.tup [e.1,e.2]):=by
 intro L M σ N a w r;have k:=Qg r x;rw[hx]at k;obtain⟨b,z,J⟩:=k;rcases r.sim.blk i _ _ z hH with⟨_,h,_⟩|⟨m,l,d,n,left,G,O,B,T,u,R,Q,t⟩
 .cases h
 .obtain⟨f,p,y,F,E⟩:=t e rfl;refine⟨.tuple #[f.key,f.val],?_,[f.key,f.val],rfl,_,_,rfl,F.mono ⟨λ_ q=>q,λ_ _=>rfl,λ_ _ q=>q,λj c q=>by simp at q⟩,_,_,rfl,E.mono ⟨λ_ q=>q,λ_ _=>rfl,λ_ _ q=>q,λj c q=>by simp at q⟩,rfl⟩;have g:l.find? (·.born==f.born)=some f:=by rw[<- Array.find?_toList];exact find_born f l.toList u p
  generalize a.eval=ρ at*;simp only[execOp,s,J,Instr.entry,getObj,Vr,Sem.run,G,B,Result.andThen,y,bne_self_eq_false,Xi,if_false,g];rfl
end
end
end Go.Sw
namespace Go.Sw
def QeT{S E B:Type}(stepE:S->E->Option (Ctl S B))(stepN:S->Option B):S->List E->Option B
 |s,[]=>stepN s
 |s,e::p=>match stepE s e with
  |some (.cont s')=>QeT stepE stepN s' p
  |some (.done b)=>some b
  |none=>none
def Qbu{E:Type}(x:E):List E->List (List E)
 |[]=>[[x]]
 |y::l=>(x::y::l)::(Qbu x l).map (y:: ·)
def QbV{E:Type}:List E->List (List E)
 |[]=>[[]]
 |x::l=>(QbV l).flatMap (Qbu x)
theorem Qfh{E:Type}(x:E):∀(a b:List E),a++x::b∈Qbu x (a++b)
 |[],[]=>by simp[Qbu]
 |[],y::b=>by simp[Qbu]
 |y::a,b=>by
  simp only[VO,Qbu,Va,Xe];exact .inr ⟨a++x::b,Qfh x a b,rfl⟩
theorem QdC{E:Type}:∀(l p:List E),p.Perm l->p∈QbV l
 |[],p,h=>by rw[List.perm_nil.1 h];simp[QbV]
 |x::l,p,h=>by
  have hx:x∈p:=h.mem_iff.2 (by simp);obtain⟨a,b,rfl⟩:=List.append_of_mem hx;have h2:(a++b).Perm l:=(List.perm_cons x).1 ((List.perm_middle.symm).trans h);simp only[QbV,List.mem_flatMap];exact⟨a++b,QdC l _ h2,Qfh x a b⟩
def anyP{E R:Type}[DecidableEq R](k:List E->Option R)(l:List E):Option R:=bif (QbV l).all (λp=>decide (k p=k l))then k l else none
theorem Qk6{E R:Type}[DecidableEq R]{k:List E->Option R}{l:List E}{r:R}(h:anyP k l=some r)(p:List E)(a:p.Perm l):k p=some r:=by
 unfold anyP at h;cases q:(QbV l).all (λp=>decide (k p=k l))with
 |true=>
  rw[q]at h;have:=Xu.1 q p (QdC l p a);rw[Vz this];exact h
 |false=>rw[q]at h;cases h
theorem QcD{E:Type}:∀(l p:List E),p∈QbV l->p.Perm l
 |[],p,h=>by simp[QbV]at h;rw[h]
 |x::l,p,h=>by
  simp only[QbV,List.mem_flatMap]at h;obtain⟨q,hq,hp⟩:=h;have ins:∀(q p:List E),p∈Qbu x q->p.Perm (x::q):=by
   intro q
   induction q with
   |nil=>intro p hp;simp[Qbu]at hp;rw[hp]
   |cons y q b=>
    intro p hp;simp only[Qbu,Va,Xe]at hp;rcases hp with rfl|⟨z,a,rfl⟩
    .exact .refl _
    .exact((b z a).cons y).trans (List.Perm.swap _ _ _)
  exact(ins q p hp).trans ((QcD l q hq).cons x)
theorem QhL{E R:Type}[DecidableEq R]{k:List E->Option R}{l:List E}{r:R}(h:∀p,p.Perm l->k p=some r):anyP k l=some r:=by
 unfold anyP;have:(QbV l).all (λp=>decide (k p=k l))=true:=Xu.2 λp a=>by
  rw[h p (QcD l p a),h l (.refl _)];simp
 rw[this];exact h l (.refl _)
def Qjo{S E B:Type}(stepE:S->E->Option (Ctl S B))(stepN:S->Option B)(G:B->Prop)(s:S)(l:List E):Prop:=∀p,p.Perm l->∃b,QeT stepE stepN s p=some b/\G b
section
variable {P:Program} {o:Oper} {env:Env} {H:Qd} {h0 N:Nat} {Q:QD} {c:Code}
def Qcn(I:Env->Qd->Prop)(Q:QD):QD
 |.normal,env,H=>I env H
 |.exit id,env,H=>Q (.exit id) env H
 |.ret,env,H=>Q .ret env H
theorem Qn5{I:Nat->Env->Qd->Prop}(body:∀n env H,I n env H->TC P h0 N c env H (Qcn (λenv H=>∃n',n'<n/\I n' env H) Q)){n:Nat}(E:I n env H):TC P h0 N (.loop c) env H Q:=by
 intro L l u σ a w r hrd b k cs hro hb hr;have B:∀m n env H fr1 ro1 σ1 a1 w1,n<m->I n env H->Rel fr1 ro1 σ1 H env N a1 w1->Qh l u w ro1 w1->σ1.take h0=σ.take h0->Grow l w a.defers fr1 a1.defers->
   ∃e h g,QaQ h0 l u σ w N a.defers Q e h g/\ArrivesIn (Machine.fenced P (WF L)) P (lone (b.atR a1 (.code c::.inLoop c::k)) cs w1) b k cs e h g:=by
  intro m
  induction m with
  |zero=>intro n env H fr1 ro1 σ1 a1 w1 hn;exact absurd hn (Xn _)
  |succ m ih=>
   intro n env H fr1 ro1 σ1 a1 w1 hn E r1 ev1 t1 g1;obtain⟨e,h,g,F,d⟩:=body n env H E L fr1 ro1 σ1 a1 w1 r1 (hrd.to ev1 g1.sub) b (.inLoop c::k) cs hro hb hr;obtain⟨x,f,H',t,σ',j,y,s,M,R,J,T⟩:=F;have p:=ev1.trans (R.frMono g1.sub);have G:=g1.trans ev1.size T;have O:∀x,Q x f H'->ExR e x->QaQ h0 l u σ w N a.defers Q e h g:=λx q W=>⟨x,f,H',t,σ',j,W,q,M,p,J.trans t1,G⟩;cases e with
   |normal=>
    obtain rfl:x=.normal:=y;obtain⟨n',V,s⟩:=s;obtain⟨Y,X,w2,z,i⟩:=ih n' f H' j t σ' h g (by omega) s M p (J.trans t1) G;exact⟨Y,X,w2,z,.of_steps (StepsIn.trans d (.one (fenced_calm hb hr rfl) stepR_inLoop)) i⟩
   |exit id=>
    obtain rfl:x=.exit id:=y;exact⟨_,h,g,O _ s rfl,.pass (x:=.inLoop c) rfl (λ_ _=>.inl (by simp)) d⟩
   |ret=>
    obtain rfl:x=.ret:=y;exact⟨_,h,g,O _ s rfl,.pass (x:=.inLoop c) rfl (λ_ _=>.inl (by simp)) d⟩
   |_=>exact y.elim
 obtain⟨e,h,g,F,d⟩:=B (n+1) n env H l u σ a w (Xo _) E r (Qh.refl _ _ _) rfl (Grow.refl _ _ _);exact⟨e,h,g,F,.of_steps (.one (fenced_calm hb hr rfl) stepR_loop) d⟩
section
variable {S E B:Type} {stepE:S->E->Option (Ctl S B)} {stepN:S->Option B} {G:B->Prop} (Es:S->Env) (Hp:S->List (A×A)->Qd) {enc:E->A×A}
def AtP(stepE:S->E->Option (Ctl S B))(stepN:S->Option B)(G:B->Prop)(enc:E->A×A)(h0 n:Nat)(env:Env)(H:Qd):Prop:=
 ∃s l,l.length=n/\Qjo stepE stepN G s l/\Le h0 env H (Es s) (Hp s (l.map enc))
theorem Qn4{s0:S}{l0:List E}(h:Qjo stepE stepN G s0 l0)(hI:Le h0 env H (Es s0) (Hp s0 (l0.map enc)))
  (body:∀s l,Qjo stepE stepN G s l->TC P h0 N c (Es s) (Hp s (l.map enc)) (Qcn (λenv H=>∃n',n'<l.length/\AtP Es Hp stepE stepN G enc h0 n' env H) Q)):TC P h0 N (.loop c) env H Q:=
 Qn5 (I:=AtP Es Hp stepE stepN G enc h0) (λn env H ⟨s,l,hn,ha,hle⟩=>by subst hn;exact TC.le hle (body s l ha)) ⟨s0,l0,rfl,h,hI⟩
theorem Qgq{α β:Type}{f:α->β}:∀{m e:List β},m.Perm e->∀{l:List α},e=l.map f->∃l':List α,l'.Perm l/\l'.map f=m:=by
 intro m e h
 induction h with
 |nil=>intro l d;exact⟨[],by rw[List.map_eq_nil_iff.1 d.symm],rfl⟩
 |cons x _ ih=>
  intro l d;cases l with
  |nil=>cases d
  |cons a l=>
   simp only[Vn,List.cons.injEq]at d;obtain⟨l',i,g⟩:=ih d.2;exact⟨a::l',i.cons _,by simp[g,d.1]⟩
 |swap x y m=>
  intro l d
  match l,d with
  |a::b::l,d=>
   simp only[Vn,List.cons.injEq]at d;exact⟨b::a::l,List.Perm.swap _ _ _,by simp[d.1,d.2.1,d.2.2]⟩
 |trans _ _ ih1 ih2=>
  intro l d;obtain⟨p,i,g⟩:=ih2 d;obtain⟨j,n,k⟩:=ih1 g.symm;exact⟨j,n.trans i,k⟩
theorem Qn0{all:Array Oper}{L:List Oper}{d i:Nat}{x:Operand}{t:Option (A×A)}{s:S}{l:List E}(hl:Qjo stepE stepN G s l)
  (B:∀b,stepN s=some b->G b->WO P h0 N all L (up env d (.tup [.bool false])) H Q)
  (z:∀e l' D,stepE s e=some D->(∀b,D=.done b->G b)->(l'.length<l.length/\ ∀s',D=.cont s'->Qjo stepE stepN G s' l')->
   WO P h0 N all L (up env d (.tup [.bool true,(enc e).1,(enc e).2])) (H.set i (.iter (some (enc e)) (l'.map enc))) Q)
  (w:o.op=.next x false:=by exact rfl)(hx:opA env x=.ptr i 0:=by exact rfl)(hH:H[i]?=some (.iter t (l.map enc)):=by exact rfl)
  (hg:Qp all o env true:=by exact rfl)(hd:o.dst=some d:=by exact rfl)(hN:Nat.blt d N=true:=by exact rfl)(hh:Nat.ble h0 H.length=true:=by exact rfl):WO P h0 N all (o::L) env H Q:=by
 refine Qkd (XV hh) hg hd hN (OpE.next w hx hH) ?_;rintro v H' (⟨n,rfl,rfl⟩|⟨e,y,n,rfl,rfl⟩)
 .have:l=[]:=List.map_eq_nil_iff.1 n;subst this;obtain⟨b,k,j⟩:=hl [] (.refl _);exact B b k j
 .obtain⟨F,k,j⟩:=Qgq n rfl;cases F with
  |nil=>cases j
  |cons a l'=>
   simp only[Vn,List.cons.injEq]at j;obtain⟨rfl,rfl⟩:=j;have h:l'.length<l.length:=by rw[<- k.length_eq];simp
   have f:∀p,p.Perm l'->∃b,QeT stepE stepN s (a::p)=some b/\G b:=λp r=>hl _ ((r.cons a).trans k);cases m:stepE s a with
   |none=>
    obtain⟨b,g,_⟩:=f l' (.refl _);simp[QeT,m]at g
   |some D=>
    refine z a l' D m ?_ ⟨h,?_⟩
    .rintro b rfl;obtain⟨u,g,q⟩:=f l' (.refl _);simp[QeT,m]at g;subst g;exact q
    .rintro s' rfl p r;obtain⟨u,g,q⟩:=f p r;simp[QeT,m]at g;exact⟨u,g,q⟩
theorem Qqh{s:S}{l l':List E}{D:Ctl S B}(e:some (Ctl.cont s)=some D)(hc:l'.length<l.length/\ ∀s',D=.cont s'->Qjo stepE stepN G s' l')(h:Le h0 env H (Es s) (Hp s (l'.map enc))):
  Qcn (λenv H=>∃n',n'<l.length/\AtP Es Hp stepE stepN G enc h0 n' env H) Q .normal env H:=
 ⟨_,hc.1,s,l',rfl,hc.2 _ (X4 e).symm,h⟩
theorem Qqg{I:Env->Qd->Prop}{id:Nat}(h:Q (.exit id) env H):Qcn I Q (.exit id) env H:=h
end
def QpI{B:Type}(h0:Nat)(G:B->Prop)(Eb:B->Env)(Hb:B->Qd)(Q:QD):QD
 |.normal,env,H=>∃b,G b/\Le h0 env H (Eb b) (Hb b)
 |.exit id,env,H=>Q (.exit id) env H
 |.ret,env,H=>Q .ret env H
theorem Qpe{S E B:Type}{stepE:S->E->Option (Ctl S B)}{stepN:S->Option B}{G:B->Prop}{s0:S}{l0:List E}(hl:Qjo stepE stepN G s0 l0)(Eb:B->Env)(Hb:B->Qd)
  (h:TC P h0 N c env H (QpI h0 G Eb Hb Q))(k:∀b env H,G b->Le h0 env H (Eb b) (Hb b)->Q .normal env H):TC P h0 N c env H Q:=
 h.mono λx env' H' q=>by
  cases x with
  |normal=>obtain⟨b,e,q⟩:=q;exact k b _ _ e q
  |exit id=>exact q
  |ret=>exact q
theorem cutGN{B:Type}{G:B->Prop}{Eb:B->Env}{Hb:B->Qd}{b:B}(hG:G b)(h:Le h0 env H (Eb b) (Hb b)):QpI h0 G Eb Hb Q .normal env H:=⟨b,hG,h⟩
theorem Qg3{i:Nat}{j:Option (A×A)}{es:List (A×A)}{H':Qd}(hH:H[i]?=some (.iter j es))(g:H.set i (.iter none es)=H'):Le h0 env H env H':=by
 subst g;intro F p σ N a w r;refine⟨p,σ,⟨r.sim.weaken (x':=.iter none es) hH rfl ?_,r.env,r.size,r.defers⟩,λ_ q=>q,rfl⟩;intro y h;cases y with
 |none=>exact h
 |some b=>
  rcases h with⟨f,n,k⟩|⟨m,l,d,e,left,f,n,k,z,t,u,s,E⟩
  .exact .inl ⟨f,rfl,k⟩
  .exact .inr ⟨m,l,d,e,left,f,n,k,z,t,u,s,λx B=>by cases B⟩
end
end Go.Sw
