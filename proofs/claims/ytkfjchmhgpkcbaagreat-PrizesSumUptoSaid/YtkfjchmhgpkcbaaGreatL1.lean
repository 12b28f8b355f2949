/- The rules by which the code is walked, with what they rest on (part 1). -/
import Derived.Calls
import Derived.Tactics
import Derived.Below
import Derived.TacticsIn
import Derived.OrdersIn
import Derived.RangeFuncLeaves
import Derived.RangeFuncRecord
import Derived.Laws.Strings
import Derived.Laws.World
import Derived.Orders
import Derived.Maps.Keyed
import Derived.Laws.StructEq
import Derived.Maps.RangeRun
set_option linter.unusedVariables false
set_option linter.unusedSimpArgs false
set_option linter.unusedSectionVars false
namespace Go.Sw
abbrev Xa:= @List.getElem?_set_self
abbrev Xb:= @List.getElem?_set
abbrev Xc:= @List.pairwise_cons
abbrev Xd:= @List.filter_cons
abbrev Xe:= @List.mem_filter
abbrev Xf:= @List.mem_map
abbrev Xg:= @List.map_append
abbrev Xh:= @Bool.not_true
abbrev Xi:= @Bool.not_false
abbrev Xj:= @Bool.false_eq_true
abbrev Xk:= @Option.map_some
abbrev Xl:= @Option.map_none
abbrev Xm:= @List.replicate_succ
abbrev Xn:= @Nat.succ_mul
abbrev Xo:= @Nat.not_lt_zero
abbrev Xp:= @Nat.lt_succ_self
abbrev Xq:= @Nat.lt_succ_iff_lt_or_eq
abbrev Xr:= @List.getElem?_map
abbrev Xs:= @List.drop_eq_getElem_cons
abbrev Xt:= @List.drop_of_length_le
abbrev Xu:= @List.drop_eq_nil_iff
abbrev Xv:= @List.flatten_append
abbrev Xw:= @List.all_eq_true
abbrev Xx:= @List.any_eq_true
abbrev Xy:= @List.length_range
abbrev Xz:= @List.range_succ
abbrev XA:= @Nat.sub_zero
abbrev XB:= @Nat.zero_add
abbrev XC:= @Nat.add_zero
abbrev XD:= @List.length_take
abbrev XE:= @List.length_drop
abbrev XF:= @List.take_append_drop
abbrev XG:= @Nat.add_mul
abbrev XH:= @Nat.min_eq_left
abbrev XI:= @Nat.mul_le_mul_right
abbrev XJ:= @List.foldl_append
abbrev XK:= @List.foldl_cons
abbrev XL:= @List.getElem?_cons_zero
abbrev XM:= @List.getElem?_cons_succ
abbrev XN:= @List.getElem?_toArray
abbrev XO:= @Sem.run_ite
abbrev XP:= @List.map_toArray
abbrev XQ:= @Option.bind_some
abbrev XR:= @List.getElem?_eq_getElem
abbrev XS:= @List.getElem?_eq_some_iff
abbrev XT:= @List.getElem?_append_left
abbrev XU:= @List.getElem?_append_right
abbrev XV:= @List.getElem?_eq_none
abbrev XW:= @List.getElem?_set_ne
abbrev XX:= @Nat.eq_of_beq_eq_true
abbrev XY:= @Nat.le_of_ble_eq_true
abbrev XZ:= @Nat.ble_eq_true_of_le
abbrev X0:= @Nat.le_refl
abbrev X2:= @Nat.zero_le
abbrev X3:= @Nat.le_trans
abbrev X4:= @Bool.and_eq_true
abbrev X5:= @Bool.or_eq_false_iff
abbrev X6:= @Bool.eq_iff_iff
abbrev X7:= @Option.some.inj
abbrev X8:= @List.length_cons
abbrev X9:= @List.length_map
abbrev Va:= @List.length_append
abbrev Vb:= @List.length_set
abbrev Vc:= @List.mem_cons_self
abbrev Vd:= @List.mem_cons_of_mem
abbrev Ve:= @List.mem_cons
abbrev Vf:= @List.take_append_of_le_length
abbrev Vg:= @List.drop_append_of_le_length
abbrev Vh:= @List.take_length
abbrev Vi:= @List.drop_length_add_append
abbrev Vj:= @List.take_length_add_append
abbrev Vk:= @Array.getElem?_eq_some_iff
abbrev Vl:= @List.getElem_mem
abbrev Vm:= @Array.getElem?_setIfInBounds
abbrev Vn:= @Nat.lt_of_lt_of_le
abbrev Vo:= @List.append_nil
abbrev Vp:= @List.nil_append
abbrev Vq:= @List.append_assoc
abbrev Vr:= @List.map_cons
abbrev Vs:= @List.map_nil
abbrev Vt:= @List.flatten_cons
abbrev Vu:= @Sem.run_bind
abbrev Vv:= @Sem.run_pure
def QjY:Nat:=0
def nG:Nat:=1
def Qib:List (List Int):=[]
theorem gOk:((List.range nG).all λb=>Nat.beq b QjY|| !(Qib.getD b []).isEmpty)=true:=by decide
theorem gLt:Nat.ble Qib.length nG=true:=by decide
theorem QoM:Nat.blt QjY nG=true:=by decide
structure GP (w:World):Prop where
 max:∃m:Int,w.cell? ⟨QjY,0,none⟩=some (.int .i64 m)
 tab:∀(g:Nat) (zs:List Int),Qib[g]?=some zs->∀(i:Nat) (z:Int),zs[i]?=some z->w.cell? ⟨g,i,none⟩=some (.int .i64 z)
theorem GP.keep{w w':World}(h:∀b,b<nG->w'.heap[b]?=w.heap[b]?)(g:GP w):GP w':=by
 obtain⟨m,e⟩:=g.max;refine⟨⟨m,?_⟩,λa j d i z f=>?_⟩
 .rw[<- e];unfold World.cell?;rw[h QjY (by simpa using QoM)]
 .rw[<- g.tab a j d i z f];unfold World.cell?;have l:=(XS.1 d).1;have k:Qib.length<=nG:=by simpa using gLt
  rw[h a (by omega)]
theorem QfJ{w:World}{b i:Nat}{v:Value}(h:w.cell? ⟨b,i,none⟩=some v):b<w.heap.size:=by
 cases e:w.heap[b]? with
 |none=>simp[World.cell?,e]at h
 |some o=>exact(Vk.1 e).1
theorem GP.size{w:World}(g:GP w)(b:Nat)(f:b<nG):b<w.heap.size:=by
 have h:=Xw.1 gOk b (List.mem_range.2 f);rw[Bool.or_eq_true]at h;rcases h with h|h
 .obtain⟨m,d⟩:=g.max;rw[XX h];exact QfJ d
 .cases e:Qib[b]? with
  |none=>rw[List.getD_eq_getElem?_getD,e]at h;simp at h
  |some a=>
   cases a with
   |nil=>rw[List.getD_eq_getElem?_getD,e]at h;simp at h
   |cons z a=>exact QfJ (g.tab b _ e 0 z rfl)
end Go.Sw
namespace Go.Sw
inductive A where
 |any
 |bool (b:Bool)
 |int (k:IntKind) (n:Int)
 |str (s:List UInt8)
 |nilp
 |ptr (i off:Nat)
 |rp (cs:List A)
 |nils
 |rsl (k:Nat) (es:List (List A))
 |osl (i o n k:Nat)
 |agg (cs:List A)
 |fn (f:Fn) (first cap:List A)
 |nilf
 |iface (t:Nat) (v:A)
 |nilif
 |map (i:Nat)
 |nilm
 |tup (vs:List A)
abbrev Sig:=List (Option Nat)
def QA:Value->Prop
 |.agg _|.tuple _=>False
 |_=>True
mutual
def VR(ro:Nat->Prop)(σ:Sig)(w:World):A->Value->Prop
 |.any,_=>True
 |.bool b,v=>v=.bool b
 |.int k n,v=>v=.int k n
 |.str s,v=>v=.string ⟨s.toArray⟩
 |.nilp,v=>v=.pointer none
 |.ptr i off,v=>∃b,σ[i]?=some (some b)/\v=.pointer (some ⟨b,off,none⟩)
 |.rp cs,v=>∃b off,v=.pointer (some ⟨b,off,none⟩)/\ro b/\CR ro [] w b cs off
 |.nils,v=>v=.slice none 0 0
 |.rsl k es,v=>∃a cap,v=.slice a es.length cap/\es.length<=cap/\
   (es=[]\/ ∃b off,a=some ⟨b,off,none⟩/\ro b/\RR ro [] w b k es off)
 |.osl i o n k,v=>(n=0/\v=.slice none 0 0)\/
   ∃b p cap t m,σ[i]?=some (some b)/\v=.slice (some ⟨b,p,none⟩) n cap/\(0<cap->p=o*k)/\n<=cap/\w.shape? b=some (t,m)/\(o+cap)*k<=m
 |.agg cs,v=>∃l:List Value,v=.agg l.toArray/\LR ro σ w cs l
 |.fn f first cap,v=>∃l l':List Value,v=.func f l.toArray l'.toArray/\LR ro σ w first l/\LR ro σ w cap l'
 |.nilf,v=>v=.nilFunc
 |.iface t a,v=>∃x,v=.iface t x/\VR ro σ w a x
 |.nilif,v=>v=.nilIface
 |.map i,v=>∃b,σ[i]?=some (some b)/\v=.map (some b)
 |.nilm,v=>v=.map none
 |.tup vs,v=>∃l:List Value,v=.tuple l.toArray/\LR ro σ w vs l
def CR(ro:Nat->Prop)(σ:Sig)(w:World)(b:Nat):List A->Nat->Prop
 |[],_=>True
 |a::r,off=>(∃v,w.cell? ⟨b,off,none⟩=some v/\QA v/\VR ro σ w a v)/\CR ro σ w b r (off+1)
def RR(ro:Nat->Prop)(σ:Sig)(w:World)(b k:Nat):List (List A)->Nat->Prop
 |[],_=>True
 |cs::r,off=>cs.length=k/\CR ro σ w b cs off/\RR ro σ w b k r (off+k)
def LR(ro:Nat->Prop)(σ:Sig)(w:World):List A->List Value->Prop
 |[],l=>l=[]
 |a::r,l=>∃v l',l=v::l'/\VR ro σ w a v/\LR ro σ w r l'
end
structure Ext (ro:Nat->Prop) (σ:Sig) (w:World) (ro':Nat->Prop) (σ':Sig) (w':World):Prop where
 sub:∀b,ro b->ro' b
 keep:∀b,ro b->w'.heap[b]?=w.heap[b]?
 shape:∀b x,w.shape? b=some x->w'.shape? b=some x
 sig:∀(i b:Nat),σ[i]?=some (some b)->σ'[i]?=some (some b)
theorem QfK{w w':World}{b off:Nat}(h:w'.heap[b]?=w.heap[b]?):w'.cell? ⟨b,off,none⟩=w.cell? ⟨b,off,none⟩:=by
 simp only[World.cell?,h]
theorem Ext.nil{ro ro':Nat->Prop}{σ σ':Sig}{w w':World}(h:Ext ro σ w ro' σ' w'):Ext ro [] w ro' [] w':=
 ⟨h.sub,h.keep,h.shape,λ_ _ q=>q⟩
mutual
theorem VR.mono{ro ro':Nat->Prop}{w w':World}:∀{a:A}{σ σ':Sig}{v:Value},Ext ro σ w ro' σ' w'->VR ro σ w a v->VR ro' σ' w' a v
 |.any,_,_,_,h,_=>trivial
 |.bool b,_,_,v,h,q=>q
 |.int k n,_,_,v,h,q=>q
 |.str s,_,_,v,h,q=>q
 |.nilp,_,_,v,h,q=>q
 |.ptr i off,_,_,v,h,q=>by
  simp only[VR]at q⊢;obtain⟨b,h1,h2⟩:=q;exact⟨b,h.sig _ _ h1,h2⟩
 |.rp cs,_,_,v,h,q=>by
  simp only[VR]at q⊢;obtain⟨b,off,h1,h2,h3⟩:=q;exact⟨b,off,h1,h.sub _ h2,CR.mono h.nil h2 h3⟩
 |.nils,_,_,v,h,q=>q
 |.rsl k es,_,_,v,h,q=>by
  simp only[VR]at q⊢;obtain⟨a,cap,h1,h2,h3⟩:=q;refine⟨a,cap,h1,h2,?_⟩;rcases h3 with h3|⟨b,off,h4,h5,h6⟩
  .exact .inl h3
  .exact .inr ⟨b,off,h4,h.sub _ h5,RR.mono h.nil h5 h6⟩
 |.osl i o n k,_,_,v,h,q=>by
  simp only[VR]at q⊢;rcases q with q|⟨b,p,cap,t,m,h1,h2,h6,h3,h4,h5⟩
  .exact .inl q
  .exact .inr ⟨b,p,cap,t,m,h.sig _ _ h1,h2,h6,h3,h.shape _ _ h4,h5⟩
 |.agg cs,_,_,v,h,q=>by
  simp only[VR]at q⊢;obtain⟨l,h1,h2⟩:=q;exact⟨l,h1,LR.mono h h2⟩
 |.fn f a c,_,_,v,h,q=>by
  simp only[VR]at q⊢;obtain⟨l,l',h1,h2,h3⟩:=q;exact⟨l,l',h1,LR.mono h h2,LR.mono h h3⟩
 |.nilf,_,_,v,h,q=>q
 |.iface t a,_,_,v,h,q=>by
  simp only[VR]at q⊢;obtain⟨x,h1,h2⟩:=q;exact⟨x,h1,VR.mono h h2⟩
 |.nilif,_,_,v,h,q=>q
 |.map i,_,_,v,h,q=>by
  simp only[VR]at q⊢;obtain⟨b,h1,h2⟩:=q;exact⟨b,h.sig _ _ h1,h2⟩
 |.nilm,_,_,v,h,q=>q
 |.tup vs,_,_,v,h,q=>by
  simp only[VR]at q⊢;obtain⟨l,h1,h2⟩:=q;exact⟨l,h1,LR.mono h h2⟩
theorem CR.mono{ro ro':Nat->Prop}{w w':World}:∀{cs:List A}{σ σ':Sig}{b off:Nat},Ext ro σ w ro' σ' w'->ro b->CR ro σ w b cs off->CR ro' σ' w' b cs off
 |[],_,_,_,_,_,_,_=>trivial
 |a::r,_,_,b,off,h,hb,q=>by
  simp only[CR]at q⊢;obtain⟨⟨v,h1,hp,h2⟩,h3⟩:=q;exact⟨⟨v,by rw[QfK (h.keep _ hb)];exact h1,hp,VR.mono h h2⟩,CR.mono h hb h3⟩
theorem RR.mono{ro ro':Nat->Prop}{w w':World}:∀{es:List (List A)}{σ σ':Sig}{b k off:Nat},Ext ro σ w ro' σ' w'->ro b->RR ro σ w b k es off->RR ro' σ' w' b k es off
 |[],_,_,_,_,_,_,_,_=>trivial
 |cs::r,_,_,b,k,off,h,hb,q=>by
  simp only[RR]at q⊢;obtain⟨h1,h2,h3⟩:=q;exact⟨h1,CR.mono h hb h2,RR.mono h hb h3⟩
theorem LR.mono{ro ro':Nat->Prop}{w w':World}:∀{az:List A}{σ σ':Sig}{l:List Value},Ext ro σ w ro' σ' w'->LR ro σ w az l->LR ro' σ' w' az l
 |[],_,_,_,h,q=>q
 |a::r,_,_,l,h,q=>by
  simp only[LR]at q⊢;obtain⟨v,l',h1,h2,h3⟩:=q;exact⟨v,l',h1,VR.mono h h2,LR.mono h h3⟩
end
structure Ent where
 fl:Bool
 off:Nat
 lo:Int
 hi:Int
def eC(b1 b2:Nat)(e:Ent):List A:=[.ptr (bif e.fl then b2 else b1) e.off,.int .i64 e.lo,.int .i64 e.hi]
inductive Blk where
 |dead
 |cells (t:Nat) (cs:List A)
 |row (t k:Nat) (es:List (List A))
 |rowr (t k:Nat) (es:List (List A))
 |map (es:List (A×A))
 |iter (cur:Option (A×A)) (es:List (A×A))
 |fmap (es:List (A×A))
 |ents (t b1 b2:Nat) (es:List Ent)
 |mapO (fz:Bool) (t k:Nat) (es:List (A×Option (List (List A))))
def Blk.live:Blk->Bool
 |.dead=>false
 |.fmap _=>false
 |.mapO fz _ _ _=> !fz
 |_=>true
def Blk.held:Blk->Bool
 |.mapO fz _ _ _=>fz
 |_=>false
def Blk.holds(x:Blk):Bool:=x.live||x.held
theorem Blk.nd{x:Blk}(h:x.live=true):x≠ .dead:=by rintro rfl;cases h
theorem QdP{x:Blk}(h:x.holds=true):x≠ .dead:=by rintro rfl;cases h
theorem Qbj{x:Blk}(h:x.live=true):x.holds=true:=by unfold Blk.holds;rw[h];rfl
abbrev Qc:=List Blk
def ER(ro:Nat->Prop)(σ:Sig)(w:World):List (A×A)->List MapEntry->Prop
 |[],l=>l=[]
 |x::r,l=>∃e l',l=e::l'/\VR ro σ w x.1 e.key/\VR ro σ w x.2 e.val/\ER ro σ w r l'
def ItR(ro:Nat->Prop)(w:World)(b:Nat)(cur:Option (A×A))(es:List (A×A)):Prop:=
 (es=[]/\cur=none/\w.heap[b]?=some (.mapIter none 0 #[] 0))\/
 ∃m l clock seen left,w.heap[b]?=some (.mapIter (some m) clock seen clock)/\ro m/\w.heap[m]?=some (.map l clock)/\(∀e∈l.toList,e.born<clock)/\(l.toList.map (·.born)).Nodup/\
  (left:List MapEntry).Perm (l.toList.filter λe=> !seen.contains e.born)/\ER ro [] w es left/\
  (∀x,cur=some x->∃e∈l.toList,seen.back? =some e.born/\VR ro [] w x.1 e.key/\VR ro [] w x.2 e.val)
def RL(ro:Nat->Prop)(σ:Sig)(w:World)(k:Nat):List (List A)->List Value->Prop
 |[],_=>True
 |c::es,l=>∃l1 l2,l=l1++l2/\c.length=k/\(LR ro σ w c l1/\ ∀v∈l1,QA v)/\RL ro σ w k es l2
theorem RL.mono{ro ro':Nat->Prop}{σ σ':Sig}{w w':World}(h:Ext ro σ w ro' σ' w'){k:Nat}:∀{es:List (List A)}{l:List Value},RL ro σ w k es l->RL ro' σ' w' k es l
 |[],_,_=>trivial
 |c::es,l,⟨l1,l2,h1,h2,h3,h4⟩=>⟨l1,l2,h1,h2,⟨h3.1.mono h,h3.2⟩,RL.mono h h4⟩
def SO(ro:Nat->Prop)(w:World)(t k:Nat)(rows:List (List A))(v:Value):Prop:=
 (rows=[]/\v=.slice none 0 0)\/ ∃(c p cap:Nat) (vs:List Value),v=.slice (some ⟨c,p,none⟩) rows.length cap/\rows.length<=cap/\w.heap[c]?=some (.cells vs.toArray t (0,0))/\cap*k<=vs.length/\RL ro [] w k rows vs/\(0<cap->p=0)
def MO(ro:Nat->Prop)(w:World)(t k:Nat):List (A×Option (List (List A)))->List MapEntry->Prop
 |[],l=>l=[]
 |x::r,l=>∃e l',l=e::l'/\VR ro [] w x.1 e.key/\(∀rows,x.2=some rows->SO ro w t k rows e.val)/\MO ro w t k r l'
def Jf:List (A×Option (List (List A)))->List MapEntry->Nat->Prop
 |x::r,e::l,c=>(x.2.isSome=true/\ ∃p n cap,e.val=.slice (some ⟨c,p,none⟩) n cap)\/Jf r l c
 |_,_,_=>False
def Qcd:List (A×Option (List (List A)))->List MapEntry->Prop
 |x::r,e::l=>(∀c,x.2.isSome=true->(∃p n cap,e.val=.slice (some ⟨c,p,none⟩) n cap)->¬Jf r l c)/\Qcd r l
 |_,_=>True
def Hid(w:World):Blk->Nat->Nat->Prop
 |.mapO _ _ _ es,b,c=>∃l clock,w.heap[b]?=some (.map l clock)/\Jf es l.toList c
 |_,_,_=>False
theorem Hid.keep{w w':World}{x:Blk}{b c:Nat}(h:w'.heap[b]?=w.heap[b]?)(q:Hid w' x b c):Hid w x b c:=by
 cases x with
 |mapO fz t k f=>obtain⟨l,d,e,a⟩:=q;exact⟨l,d,by rw[<- h];exact e,a⟩
 |_=>exact q.elim
theorem Hid.holds{w:World}{x:Blk}{b c:Nat}(q:Hid w x b c):x.holds=true:=by
 cases x with
 |mapO fz t k a=>cases fz<;>rfl
 |_=>exact q.elim
theorem MO.mono{ro ro':Nat->Prop}{σ σ':Sig}{w w':World}(h:Ext ro σ w ro' σ' w'){t k:Nat}:∀{es:List (A×Option (List (List A)))}{l:List MapEntry},(∀c,Jf es l c->w'.heap[c]?=w.heap[c]?)->MO ro w t k es l->MO ro' w' t k es l
 |[],_,_,q=>q
 |x::r,_,hh,⟨e,l',h1,h2,h3,h4⟩=>by
  subst h1;refine⟨e,l',rfl,h2.mono h.nil,λrows hr=>?_,MO.mono h (λc hc=>hh c (.inr hc)) h4⟩;rcases h3 rows hr with q|⟨c,p,cap,vs,q1,q2,q3,q4,q5,q6⟩
  .exact .inl q
  .exact .inr ⟨c,p,cap,vs,q1,q2,by rw[hh c (.inl ⟨by rw[hr];rfl,p,_,_,q1⟩)];exact q3,q4,q5.mono h.nil,q6⟩
theorem MO.cells{ro:Nat->Prop}{w:World}{t k:Nat}:∀{es:List (A×Option (List (List A)))}{l:List MapEntry}{c:Nat},MO ro w t k es l->Jf es l c->∃vs:Array Value,w.heap[c]?=some (.cells vs t (0,0))
 |[],l,c,h,q=>by cases l<;>exact q.elim
 |x::r,_,c,⟨e,l',h1,h2,h3,h4⟩,q=>by
  subst h1;rcases q with⟨q1,p,n,cap,q2⟩|q
  .obtain⟨rows,hr⟩:=Option.isSome_iff_exists.1 q1;rcases h3 rows hr with⟨_,z⟩|⟨c',p',cap',vs,z1,z2,z3,z4,z5,z6⟩
   .rw[q2]at z;cases z
   .rw[q2]at z1;cases z1;exact⟨_,z3⟩
  .exact MO.cells h4 q
def Qe5(l:Array MapEntry)(clock:Nat):Prop:=clock=l.size/\ ∀(i:Nat) (e:MapEntry),l.toList[i]?=some e->e.born=i
theorem Qe5.push{l:Array MapEntry}{a:Nat}{e:MapEntry}(h:Qe5 l a)(he:e.born=a):Qe5 (l.push e) (a+1):=by
 obtain⟨f,d⟩:=h;refine⟨by simp[f],λi j q=>?_⟩;rw[Array.toList_push]at q;by_cases b:i<l.toList.length
 .rw[XT b]at q;exact d i j q
 .rw[XU (by omega)]at q;have:=(XS.1 q).1;simp at this;have g:i-l.toList.length=0:=by simpa using this
  rw[g]at q;simp at q;subst q;simp at b this;omega
theorem Qe5.modify{l:Array MapEntry}{a j:Nat}{f:MapEntry->MapEntry}(h:Qe5 l a)(g:∀e,(f e).born=e.born):Qe5 (l.modify j f) a:=by
 obtain⟨k,d⟩:=h;refine⟨by simp[k],λi m q=>?_⟩;rw[Array.toList_modify,List.getElem?_modify]at q;cases z:l.toList[i]? with
 |none=>rw[z]at q;simp at q
 |some e=>
  rw[z]at q;by_cases b:j=i
  .simp[b]at q;rw[<- q,g];exact d i e z
  .simp[b]at q;rw[<- q];exact d i e z
def BR(ro:Nat->Prop)(σ:Sig)(w:World):Blk->Option Nat->Prop
 |.dead,_=>True
 |.cells t cs,some b=>∃l:List Value,w.heap[b]?=some (.cells l.toArray t (0,0))/\LR ro σ w cs l/\ ∀v∈l,QA v
 |.row t k es,some b=>∃l:List Value,w.heap[b]?=some (.cells l.toArray t (0,0))/\RL ro [] w k es l
 |.rowr t k es,some b=>∃l:List Value,w.heap[b]?=some (.cells l.toArray t (0,0))/\RL ro σ w k es l
 |.row _ _ es,none=>es=[]
 |.ents t b1 b2 es,some b=>∃l:List Value,w.heap[b]?=some (.cells l.toArray t (0,0))/\RL ro σ w 3 (es.map (eC b1 b2)) l
 |.ents _ _ _ es,none=>es=[]
 |.map es,some b=>∃l clock,w.heap[b]?=some (.map l clock)/\ER ro [] w es l.toList/\
   (∀e∈l.toList,e.born<clock)/\(l.toList.map (·.born)).Nodup/\(l.toList.map (·.key)).Nodup
 |.iter cur es,some b=>ItR ro w b cur es
 |.mapO fz t k es,some b=>(fz=true->ro b)/\ ∃l clock,w.heap[b]?=some (.map l clock)/\MO ro w t k es l.toList/\Qcd es l.toList/\
   (∀e∈l.toList,e.born<clock)/\(l.toList.map (·.born)).Nodup/\(l.toList.map (·.key)).Nodup/\Qe5 l clock
 |.fmap es,some b=>ro b/\ ∃l clock,w.heap[b]?=some (.map l clock)/\ER ro [] w es l.toList/\
   (∀e∈l.toList,e.born<clock)/\(l.toList.map (·.born)).Nodup/\(l.toList.map (·.key)).Nodup
 |_,none=>False
structure RoOk (ro:Nat->Prop) (w:World):Prop where
 lt:∀b,ro b->b<w.heap.size
 g:∀b,b<nG->ro b
 gp:GP w
theorem RoOk.to{ro ro':Nat->Prop}{w w':World}(h:RoOk ro w)(sub:∀b,ro b->ro' b)(keep:∀b,ro b->w'.heap[b]?=w.heap[b]?)(lt:∀b,ro' b->b<w'.heap.size):RoOk ro' w':=
 ⟨lt,λb hb=>sub b (h.g b hb),h.gp.keep λb hb=>keep b (h.g b hb)⟩
structure Qoa (fr ro:Nat->Prop) (σ:Sig) (H:Qc) (w:World) (i0 b0 c:Nat):Prop where
 lt:c<w.heap.size
 ro:¬ro c
 fr:¬fr c
 ne:∀(j b:Nat) (y:Blk),σ[j]?=some (some b)->H[j]?=some y->y.live=true->c≠b
 one:∀(j b:Nat) (y:Blk),σ[j]?=some (some b)->H[j]?=some y->Hid w y b c->b=b0/\j=i0
structure Sim (fr ro:Nat->Prop) (σ:Sig) (H:Qc) (w:World):Prop where
 len:σ.length=H.length
 roOk:RoOk ro w
 frLt:∀b,fr b->b<w.heap.size
 roFr:∀b,ro b->¬fr b
 own:∀(i b:Nat) (blk:Blk),σ[i]?=some (some b)->H[i]?=some blk->blk.live=true->b<w.heap.size/\ ¬ro b/\ ¬fr b
 inj:∀(i j b:Nat) (x y:Blk),σ[i]?=some (some b)->σ[j]?=some (some b)->H[i]?=some x->H[j]?=some y->x.live=true->y.live=true->i=j
 blk:∀(i:Nat) (s:Option Nat) (x:Blk),σ[i]?=some s->H[i]?=some x->BR ro σ w x s
 hid:∀(i b:Nat) (x:Blk) (c:Nat),σ[i]?=some (some b)->H[i]?=some x->Hid w x b c->Qoa fr ro σ H w i b c
theorem Sim.roHeld{fr ro:Nat->Prop}{σ:Sig}{H:Qc}{w:World}(s:Sim fr ro σ H w){i b:Nat}{x:Blk}(e:σ[i]?=some (some b))(d:H[i]?=some x)(a:x.held=true):ro b:=by
 have h:=s.blk i _ x e d;cases x with
 |mapO fz t k f=>exact h.1 a
 |_=>cases a
theorem Sim.hidKeep{fr ro:Nat->Prop}{σ:Sig}{H:Qc}{w w':World}(s:Sim fr ro σ H w){i b c:Nat}{x:Blk}(g:σ[i]?=some (some b))(f:H[i]?=some x)
  (d:x.live=true->w'.heap[b]?=w.heap[b]?)(e:∀b,ro b->w'.heap[b]?=w.heap[b]?)(q:Hid w' x b c):Hid w x b c:=by
 refine q.keep ?_;have h:=q.holds;cases a:x.live with
 |true=>exact d a
 |false=>unfold Blk.holds at h;rw[a]at h;exact e b (s.roHeld g f h)
theorem Sim.hidTo{fr p ro ro':Nat->Prop}{σ σ':Sig}{H H':Qc}{w w':World}(s:Sim fr ro σ H w)(R:Nat->Nat->Prop)(V:∀j j' a,R j a->R j' a->j=j')(J:w.heap.size<=w'.heap.size)
  (B:∀(i b:Nat) (x:Blk) (c:Nat),σ[i]?=some (some b)->H[i]?=some x->Hid w x b c->ro' c->ro c)
  (t:∀(i b:Nat) (x:Blk) (c:Nat),σ[i]?=some (some b)->H[i]?=some x->Hid w x b c->p c->fr c)
  (h:∀(j d:Nat) (y:Blk),σ'[j]?=some (some d)->H'[j]?=some y->y.holds=true->
   (∃(a:Nat) (l:Blk),R j a/\σ[a]?=some (some d)/\H[a]?=some l/\(y.live=true->l.live=true)/\ ∀c,Hid w' y d c->Hid w l d c)\/(w.heap.size<=d/\ ∀c,Hid w' y d c->False)):
  ∀(i b:Nat) (x:Blk) (c:Nat),σ'[i]?=some (some b)->H'[i]?=some x->Hid w' x b c->Qoa p ro' σ' H' w' i b c:=by
 intro i b x c X P n;rcases h i b x X P n.holds with⟨a,l,W,L,F,g3,M⟩|⟨_,g⟩
 .have k:=s.hid a b l c L F (M c n);refine⟨Vn k.lt J,λq=>k.ro (B a b l c L F (M c n) q),λq=>k.fr (t a b l c L F (M c n) q),λj d y r G m=>?_,λj d y r G m=>?_⟩
  .rcases h j d y r G (Qbj m)with⟨z,y1,_,u,E,N,_⟩|⟨f,_⟩
   .exact k.ne z d y1 u E (N m)
   .exact λe=>by have:=k.lt;omega
  .rcases h j d y r G m.holds with⟨z,y1,O,u,E,N,T⟩|⟨_,f⟩
   .obtain⟨Q,Y⟩:=k.one z d y1 u E (T c m);subst Y;exact⟨Q,V _ _ _ O W⟩
   .exact(f c m).elim
 .exact(g c n).elim
theorem Q2(j j' j0:Nat)(h:j=j0)(h':j'=j0):j=j':=h.trans h'.symm
theorem Sim.roLt{fr ro:Nat->Prop}{σ:Sig}{H:Qc}{w:World}(s:Sim fr ro σ H w):∀b,ro b->b<w.heap.size:=s.roOk.lt
structure Qf (fr ro:Nat->Prop) (w:World) (ro':Nat->Prop) (w':World):Prop where
 sub:∀b,ro b->ro' b
 keepRo:∀b,ro b->w'.heap[b]?=w.heap[b]?
 keepFr:∀b,fr b->w'.heap[b]?=w.heap[b]?
 size:w.heap.size<=w'.heap.size
 shape:∀b x,w.shape? b=some x->w'.shape? b=some x
 os:w'.os=w.os
 tape:w'.tape=w.tape
 output:w'.output=w.output
 drawn:w.drawn<=w'.drawn
theorem Qf.refl(fr ro:Nat->Prop)(w:World):Qf fr ro w ro w:=
 ⟨λ_ h=>h,λ_ _=>rfl,λ_ _=>rfl,X0 _,λ_ _ h=>h,rfl,rfl,rfl,X0 _⟩
theorem Qf.trans{fr ro ro1 ro2:Nat->Prop}{w w1 w2:World}(h:Qf fr ro w ro1 w1)(k:Qf fr ro1 w1 ro2 w2):Qf fr ro w ro2 w2:=
 ⟨λb q=>k.sub _ (h.sub _ q),λb q=>(k.keepRo _ (h.sub _ q)).trans (h.keepRo _ q),λb q=>(k.keepFr _ q).trans (h.keepFr _ q),
  X3 h.size k.size,λb x q=>k.shape _ _ (h.shape _ _ q),k.os.trans h.os,k.tape.trans h.tape,k.output.trans h.output,X3 h.drawn k.drawn⟩
theorem Jd{σ τ:Sig}{i b:Nat}(h:σ[i]?=some (some b)):(σ++τ)[i]?=some (some b):=by
 have a:i<σ.length:=by
  rcases Nat.lt_or_ge i σ.length with q|q
  .exact q
  .simp[XV q]at h
 rw[XT a];exact h
theorem Qf.ext{fr ro ro':Nat->Prop}{w w':World}(h:Qf fr ro w ro' w')(σ τ:Sig):Ext ro σ w ro' (σ++τ) w':=
 ⟨h.sub,h.keepRo,h.shape,λ_ _=>Jd⟩
theorem Qf.ext0{fr ro ro':Nat->Prop}{w w':World}(h:Qf fr ro w ro' w')(σ:Sig):Ext ro σ w ro' σ w':=
 ⟨h.sub,h.keepRo,h.shape,λ_ _ q=>q⟩
theorem ER.mono{ro ro':Nat->Prop}{σ σ':Sig}{w w':World}(h:Ext ro σ w ro' σ' w'):∀{es:List (A×A)}{l:List MapEntry},ER ro σ w es l->ER ro' σ' w' es l
 |[],_,q=>q
 |x::r,l,q=>by
  simp only[ER]at q⊢;obtain⟨e,l',h1,h2,h3,h4⟩:=q;exact⟨e,l',h1,h2.mono h,h3.mono h,ER.mono h h4⟩
theorem ItR.keep{ro ro':Nat->Prop}{σ σ':Sig}{w w':World}(h:Ext ro σ w ro' σ' w'){b:Nat}(k:w'.heap[b]?=w.heap[b]?){f:Option (A×A)}{es:List (A×A)}
  (q:ItR ro w b f es):ItR ro' w' b f es:=by
 rcases q with⟨i,g,j⟩|⟨m,l,a,d,left,i,g,j,n,r,E,t,p⟩
 .exact .inl ⟨i,g,by rw[k];exact j⟩
 .refine .inr ⟨m,l,a,d,left,by rw[k];exact i,h.sub _ g,by rw[h.keep _ g];exact j,n,r,E,t.mono h.nil,λx y=>?_⟩;obtain⟨e,s,u,B,z⟩:=p x y;exact⟨e,s,u,B.mono h.nil,z.mono h.nil⟩
theorem CR.keep{ro ro':Nat->Prop}{σ σ':Sig}{w w':World}(h:Ext ro σ w ro' σ' w'){b:Nat}(hb:w'.heap[b]?=w.heap[b]?):
  ∀{cs:List A}{off:Nat},CR ro σ w b cs off->CR ro' σ' w' b cs off
 |[],_,_=>trivial
 |a::r,off,q=>by
  simp only[CR]at q⊢;obtain⟨⟨v,h1,hp,h2⟩,h3⟩:=q;exact⟨⟨v,by rw[QfK hb];exact h1,hp,h2.mono h⟩,CR.keep h hb h3⟩
theorem RR.keep{ro ro':Nat->Prop}{σ σ':Sig}{w w':World}(h:Ext ro σ w ro' σ' w'){b:Nat}(hb:w'.heap[b]?=w.heap[b]?){k:Nat}:
  ∀{es:List (List A)}{off:Nat},RR ro σ w b k es off->RR ro' σ' w' b k es off
 |[],_,_=>trivial
 |cs::r,off,q=>by
  simp only[RR]at q⊢;obtain⟨h1,h2,h3⟩:=q;exact⟨h1,CR.keep h hb h2,RR.keep h hb h3⟩
theorem BR.keep{ro ro':Nat->Prop}{σ σ':Sig}{w w':World}(h:Ext ro σ w ro' σ' w'){x:Blk}{s:Option Nat}
  (f:∀b,s=some b->x.live=true->w'.heap[b]?=w.heap[b]?)(q:BR ro σ w x s)(m:∀b c,s=some b->Hid w x b c->w'.heap[c]?=w.heap[c]?):BR ro' σ' w' x s:=by
 cases x with
 |mapO fz t k i=>
  cases s with
  |none=>exact q
  |some b=>
   obtain⟨j,l,c,a,e,g⟩:=q;refine⟨λz=>h.sub b (j z),l,c,?_,e.mono h (λd n=>m b d rfl ⟨l,c,a,n⟩),g⟩;cases fz with
   |false=>rw[f b rfl rfl];exact a
   |true=>rw[h.keep b (j rfl)];exact a
 |dead=>trivial
 |cells t u=>
  cases s with
  |none=>exact q
  |some b=>
   obtain⟨l,a,e,g⟩:=q;exact⟨l,by rw[f b rfl rfl];exact a,e.mono h,g⟩
 |row t k i=>
  cases s with
  |none=>exact q
  |some b=>
   obtain⟨l,a,e⟩:=q;exact⟨l,by rw[f b rfl rfl];exact a,e.mono h.nil⟩
 |rowr t k i=>
  cases s with
  |none=>exact q.elim
  |some b=>
   obtain⟨l,a,e⟩:=q;exact⟨l,by rw[f b rfl rfl];exact a,e.mono h⟩
 |ents t y r i=>
  cases s with
  |none=>exact q
  |some b=>
   obtain⟨l,a,e⟩:=q;exact⟨l,by rw[f b rfl rfl];exact a,e.mono h⟩
 |map i=>
  cases s with
  |none=>exact q
  |some b=>
   obtain⟨l,c,a,e,g⟩:=q;exact⟨l,c,by rw[f b rfl rfl];exact a,e.mono h.nil,g⟩
 |iter p i=>
  cases s with
  |none=>exact q
  |some b=>exact ItR.keep h (f b rfl rfl) q
 |fmap i=>
  cases s with
  |none=>exact q
  |some b=>
   obtain⟨j,l,c,a,e,g⟩:=q;exact⟨h.sub b j,l,c,by rw[h.keep b j];exact a,e.mono h.nil,g⟩
end Go.Sw
namespace Go.Sw
abbrev Env:=List (Nat×A)
def lk:Env->Nat->A
 |[],_=>.any
 |(d,a)::r,s=>bif Nat.beq s d then a else lk r s
abbrev up(env:Env)(d:Nat)(a:A):Env:=(d,a)::env
inductive AEx where
 |normal|exit (id:Nat)|ret
abbrev QC:=AEx->Env->Qc->Prop
def QcO(fr:Nat->Prop)(ds:List Deferred)(w:World):Prop:=ds.Nodup/\ ∀d∈ds,∃D,d={target:=.collected D,args:= #[]}/\fr D/\w.heap[D]?=some (.deferred (some []))
theorem QcO.keep{fr ro ro':Nat->Prop}{a:List Deferred}{w w':World}(h:QcO fr a w)(k:Qf fr ro w ro' w'):QcO fr a w':=by
 refine⟨h.1,λd e=>?_⟩;obtain⟨D,g,b,f⟩:=h.2 d e;exact⟨D,g,b,(k.keepFr D b).trans f⟩
structure Grow (fr:Nat->Prop) (w:World) (ds:List Deferred) (fr':Nat->Prop) (ds':List Deferred):Prop where
 sub:∀b,fr b->fr' b
 new:∀b,fr' b->fr b\/w.heap.size<=b
 ds:∀d∈ds',d∈ds\/ ∃D,d={target:=.collected D,args:= #[]}/\w.heap.size<=D
theorem Grow.refl(fr:Nat->Prop)(w:World)(ds:List Deferred):Grow fr w ds fr ds:=⟨λ_ h=>h,λ_ h=>.inl h,λ_ h=>.inl h⟩
theorem Grow.trans{fr g f:Nat->Prop}{w i:World}{ds e a:List Deferred}(h:Grow fr w ds g e)(j:w.heap.size<=i.heap.size)(k:Grow g i e f a):Grow fr w ds f a:=by
 refine⟨λb q=>k.sub b (h.sub b q),λb q=>?_,λd q=>?_⟩
 .rcases k.new b q with q|q
  .exact h.new b q
  .exact .inr (X3 j q)
 .rcases k.ds d q with q|⟨D,l,m⟩
  .exact h.ds d q
  .exact .inr ⟨D,l,X3 j m⟩
theorem Qf.frMono{fr fr' ro ro':Nat->Prop}{w w':World}(h:Qf fr' ro w ro' w')(s:∀b,fr b->fr' b):Qf fr ro w ro' w':=
 ⟨h.sub,h.keepRo,λb q=>h.keepFr b (s b q),h.size,h.shape,h.os,h.tape,h.output,h.drawn⟩
theorem Sim.frMono{fr fr' ro:Nat->Prop}{σ:Sig}{H:Qc}{w:World}(h:Sim fr' ro σ H w)(s:∀b,fr b->fr' b):Sim fr ro σ H w:=
 ⟨h.len,h.roOk,λb q=>h.frLt b (s b q),λb q r=>h.roFr b q (s b r),λi b x q1 q2 q3=>let⟨a,b',c⟩:=h.own i b x q1 q2 q3;⟨a,b',λq=>c (s b q)⟩,h.inj,h.blk,λi b x c q1 q2 q3=>let k:=h.hid i b x c q1 q2 q3;⟨k.lt,k.ro,λq=>k.fr (s c q),k.ne,k.one⟩⟩
structure Rel (fr ro:Nat->Prop) (σ:Sig) (H:Qc) (env:Env) (N:Nat) (a:Act) (w:World):Prop where
 sim:Sim fr ro σ H w
 env:∀s,VR ro σ w (lk env s) (a.tmps.getD s undef)
 size:a.tmps.size=N
 defers:QcO fr a.defers w
def Qdy(rd:Option Nat)(fr:Nat->Prop)(w:World):Prop:=∀l,rd=some l->fr l/\ ∃r,w.heap[l]?=some (.loop r)
theorem QbM{fr:Nat->Prop}{w:World}:Qdy none fr w:=λl e=>by cases e
theorem Qdy.to{rd:Option Nat}{fr fr' ro ro':Nat->Prop}{w w':World}(h:Qdy rd fr w)(k:Qf fr ro w ro' w')(s:∀b,fr b->fr' b):Qdy rd fr' w':=λl e=>by
 obtain⟨h1,r,h2⟩:=h l e;exact⟨s l h1,r,(k.keepFr l h1).trans h2⟩
def ExR:Exit->AEx->Prop
 |.normal,x=>x=.normal
 |.exit id,x=>x=.exit id
 |.ret,x=>x=.ret
 |_,_=>False
def Qa1(h0:Nat)(fr ro:Nat->Prop)(σ:Sig)(w:World)(N:Nat)(ds:List Deferred)(Q:QC):Exit->Act->World->Prop:=
 λe a' w'=>∃x env' H' ro' σ' fr',ExR e x/\Q x env' H'/\Rel fr' ro' σ' H' env' N a' w'/\Qf fr ro w ro' w'/\σ'.take h0=σ.take h0/\Grow fr w ds fr' a'.defers
theorem Qa1.grow{h0:Nat}{fr f ro a:Nat->Prop}{σ σ1:Sig}{w k:World}{N:Nat}{j b:List Deferred}{Q:QC}{e:Exit}{a':Act}{w':World}
  (h:Qa1 h0 f a σ1 k N b Q e a' w')(he:Qf fr ro w a k)(q:σ1.take h0=σ.take h0)(hg:Grow fr w j f b):Qa1 h0 fr ro σ w N j Q e a' w':=by
 obtain⟨x,d,H',i,σ',g,p,n,r,l,m,s⟩:=h;exact⟨x,d,H',i,σ',g,p,n,r,he.trans (l.frMono hg.sub),m.trans q,hg.trans he.size s⟩
theorem Qa1.step{h0:Nat}{fr ro ro1:Nat->Prop}{σ σ1:Sig}{w w1:World}{N:Nat}{ds:List Deferred}{Q:QC}{e:Exit}{a':Act}{w':World}
  (h:Qa1 h0 fr ro1 σ1 w1 N ds Q e a' w')(he:Qf fr ro w ro1 w1)(hs:σ1.take h0=σ.take h0):Qa1 h0 fr ro σ w N ds Q e a' w':=h.grow he hs (Grow.refl _ _ _)
theorem Qa1.mono{h0:Nat}{fr ro:Nat->Prop}{σ:Sig}{w:World}{N:Nat}{f:List Deferred}{Q Q':QC}{e:Exit}{a':Act}{w':World}
  (h:Qa1 h0 fr ro σ w N f Q e a' w')(j:∀x env H,Q x env H->Q' x env H):Qa1 h0 fr ro σ w N f Q' e a' w':=by
 obtain⟨x,a,H',b,σ',d,i,g,k⟩:=h;exact⟨x,a,H',b,σ',d,i,j _ _ _ g,k⟩
def QbF(h0:Nat)(fr ro:Nat->Prop)(σ:Sig)(w:World)(N:Nat)(ds:List Deferred)(Q:QC):Exit->Act->World->Prop:=
 λe a' w'=>∃x env' H' ro' σ' fr',ExR e x/\Q x env' H'/\Rel fr' ro' σ' H' env' N a' w'/\Qf fr ro w ro' w'/\σ'.take h0=σ.take h0/\a'.defers=ds/\Grow fr w ds fr' ds
theorem QbF.grow{h0:Nat}{fr d ro a:Nat->Prop}{σ σ1:Sig}{w j:World}{N:Nat}{f:List Deferred}{Q:QC}{e:Exit}{a':Act}{w':World}
  (h:QbF h0 d a σ1 j N f Q e a' w')(he:Qf fr ro w a j)(q:σ1.take h0=σ.take h0)(hg:Grow fr w f d f):QbF h0 fr ro σ w N f Q e a' w':=by
 obtain⟨x,b,H',i,σ',g,p,n,r,k,l,s,m⟩:=h;exact⟨x,b,H',i,σ',g,p,n,r,he.trans (k.frMono hg.sub),l.trans q,s,hg.trans he.size m⟩
theorem QbF.step{h0:Nat}{fr ro ro1:Nat->Prop}{σ σ1:Sig}{w w1:World}{N:Nat}{ds:List Deferred}{Q:QC}{e:Exit}{a':Act}{w':World}
  (h:QbF h0 fr ro1 σ1 w1 N ds Q e a' w')(he:Qf fr ro w ro1 w1)(hs:σ1.take h0=σ.take h0):QbF h0 fr ro σ w N ds Q e a' w':=h.grow he hs (Grow.refl _ _ _)
theorem QbF.mono{h0:Nat}{fr ro:Nat->Prop}{σ:Sig}{w:World}{N:Nat}{f:List Deferred}{Q Q':QC}{e:Exit}{a':Act}{w':World}
  (h:QbF h0 fr ro σ w N f Q e a' w')(j:∀x env H,Q x env H->Q' x env H):QbF h0 fr ro σ w N f Q' e a' w':=by
 obtain⟨x,a,H',b,σ',d,i,g,k⟩:=h;exact⟨x,a,H',b,σ',d,i,j _ _ _ g,k⟩
theorem QbF.postW{h0:Nat}{fr ro:Nat->Prop}{σ:Sig}{w:World}{N:Nat}{f:List Deferred}{Q:QC}{e:Exit}{a':Act}{w':World}
  (h:QbF h0 fr ro σ w N f Q e a' w'):Qa1 h0 fr ro σ w N f Q e a' w':=by
 obtain⟨x,a,H',d,σ',b,l,k,m,g,i,n,j⟩:=h;exact⟨x,a,H',d,σ',b,l,k,m,g,i,by rw[n];exact j⟩
def WF(rd:Option Nat):Fence:={Fence.wide with round:=rd}
theorem WF.calls{rd:Option Nat}{P:Program}{f:FuncId}{args:Array Value}{w:World}{R:Ending->World->Prop}:CallsIn (WF rd) 0 P f args w R↔Calls P f args w R:=callsIn_wide
abbrev wpL(P:Program)(rd:Option Nat)(ops:Array Oper)(Q:Exit->Act->World->Prop):List Oper->Act->World->Prop:=wpListIn (WF rd) 0 P ops Q
def TC(P:Program)(h0 N:Nat)(c:Code)(env:Env)(H:Qc)(Q:QC):Prop:=
 ∀rd fr ro σ a w,Rel fr ro σ H env N a w->Qdy rd fr w->c.wpIn (WF rd) 0 P (Qa1 h0 fr ro σ w N a.defers Q) a w
def WO(P:Program)(h0 N:Nat)(all:Array Oper)(l:List Oper)(env:Env)(H:Qc)(Q:QC):Prop:=
 ∀rd fr ro σ a w,Rel fr ro σ H env N a w->Qdy rd fr w->wpL P rd all (QbF h0 fr ro σ w N a.defers Q) l a w
def Le(h0:Nat)(env:Env)(H:Qc)(env':Env)(H':Qc):Prop:=
 ∀fr ro σ N a w,Rel fr ro σ H env N a w->∃ro' σ',Rel fr ro' σ' H' env' N a w/\(∀b,ro b->ro' b)/\σ'.take h0=σ.take h0
theorem Le.refl(h0:Nat)(env:Env)(H:Qc):Le h0 env H env H:=λfr ro σ N a w h=>⟨ro,σ,h,λ_ q=>q,rfl⟩
theorem Le.trans{h0:Nat}{e1 e2 f:Env}{H1 H2 H3:Qc}(h:Le h0 e1 H1 e2 H2)(k:Le h0 e2 H2 f H3):Le h0 e1 H1 f H3:=by
 intro g n σ N a w r;obtain⟨d,σ1,j,m,i⟩:=h g n σ N a w r;obtain⟨e,σ2,l,s,p⟩:=k g d σ1 N a w j;exact⟨e,σ2,l,λb q=>s _ (m _ q),p.trans i⟩
theorem YB{fr ro ro':Nat->Prop}{w:World}(h:∀b,ro b->ro' b):Qf fr ro w ro' w:=
 ⟨h,λ_ _=>rfl,λ_ _=>rfl,X0 _,λ_ _ h=>h,rfl,rfl,rfl,X0 _⟩
theorem Yn{P:Program}{rd:Option Nat}{ops:Array Oper}{Q Q':Exit->Act->World->Prop}(hq:∀e a w,Q e a w->Q' e a w):
  ∀(l:List Oper) (a:Act) (w:World),wpL P rd ops Q l a w->wpL P rd ops Q' l a w
 |[],a,w,h=>hq _ _ _ h
 |o::l,a,w,h=>by
  unfold wpL wpListIn at h⊢;split
  .rename_i hw;rw[if_pos hw]at h;obtain⟨h1,h2⟩:=h;refine⟨h1,?_⟩
   revert h2
   generalize(o.semAt (WF rd).round a.eval).run P w=r;intro h2;have hk:=λa w=>Yn (P:=P) (rd:=rd) (ops:=ops) hq l a w;cases r with
   |ok x w=>
    cases x with
    |value v=>exact hk _ _ h2
    |skip=>exact hk _ _ h2
    |defer d=>exact hk _ _ h2
    |enter f args=>
     refine⟨h2.1,CallsIn.mono h2.2 ?_⟩;intro e w' q;cases e with
     |returned v=>exact hk _ _ q
     |panicked c=>exact hq _ _ _ q
     |outgrown=>obtain⟨a,w,q⟩:=q;exact⟨a,w,hq _ _ _ q⟩
    |row r args=>exact⟨h2.1,RowsIn.mono h2.2 λv w' q=>hk _ _ q⟩
    |round l f tmps assign body=>
     refine⟨h2.1,RoundIn.mono h2.2 ?_⟩;intro e w' q;cases e with
     |returned v=>exact hk _ _ q
     |panicked c=>exact hq _ _ _ q
     |outgrown=>obtain⟨a,w,q⟩:=q;exact⟨a,w,hq _ _ _ q⟩
    |_=>exact h2
   |halt x w=>
    cases x with
    |panic v=>exact hq _ _ _ h2
    |_=>exact h2
  .rename_i hw;rw[if_neg hw]at h;exact⟨h.1,Yn hq l _ _ h.2⟩
theorem Qch{P:Program}{o:Oper}{a:Act}{w w':World}{x:Next}{rd:Option Nat}(h:(execOp a.eval o).run P w=.ok x w')(f:∀d,x≠ .defer d):(o.semAt (WF rd).round a.eval).run P w=.ok x w':=by
 cases e:o.op with
 |defer c=>
  exfalso;have:execOp a.eval o=(do pure (.defer (<- resolve a.eval c o.type))):=by simp[execOp,e]
  rw[this]at h;simp only[Vu]at h;generalize(resolve a.eval c o.type).run P w=r at h;cases r with
  |ok d b=>simp[Result.andThen,go_sem]at h;exact f _ h.1.symm
  |halt x b=>simp[Result.andThen]at h
 |_=>rw[Oper.semAt_eq _ _ _ (by rw[e];intro c q;cases q)];exact h
theorem QaO{P:Program}{rd:Option Nat}{ops:Array Oper}{Q:Exit->Act->World->Prop}{o:Oper}{l:List Oper}{a:Act}{w w':World}{v:Value}(b:Region.wanted o (yielded ops a.tmps)=true)
  (h:(execOp a.eval o).run P w=.ok (.value v) w')(k:wpL P rd ops Q l (a.put o.dst v) w'):wpL P rd ops Q (o::l) a w:=by
 unfold wpL wpListIn;rw[if_pos b];exact⟨λ_ _=>trivial,by rw[Qch h (λd e=>by cases e)];exact k⟩
theorem QkN{P:Program}{rd:Option Nat}{ops:Array Oper}{Q:Exit->Act->World->Prop}{o:Oper}{l:List Oper}{a:Act}{w w':World}(b:Region.wanted o (yielded ops a.tmps)=true)
  (h:(execOp a.eval o).run P w=.ok .skip w')(k:wpL P rd ops Q l (a.put o.dst undef) w'):wpL P rd ops Q (o::l) a w:=by
 unfold wpL wpListIn;rw[if_pos b];exact⟨λ_ _=>trivial,by rw[Qch h (λd e=>by cases e)];exact k⟩
theorem Qfa{P:Program}{rd:Option Nat}{ops:Array Oper}{Q:Exit->Act->World->Prop}{o:Oper}{l:List Oper}{a:Act}{w w':World}{f:FuncId}{args:Array Value}(b:Region.wanted o (yielded ops a.tmps)=true)
  (h:(execOp a.eval o).run P w=.ok (.enter f args) w')(k:Calls P f args w' λe w''=>∃v,e=.returned v/\wpL P rd ops Q l (a.put o.dst v) w''):wpL P rd ops Q (o::l) a w:=by
 unfold wpL wpListIn;rw[if_pos b];refine⟨λ_ _=>trivial,?_⟩;rw[Qch h (λd e=>by cases e)];refine⟨λh=>by simp[WF,Fence.wide]at h,WF.calls.2 (Calls.mono k ?_)⟩;rintro e w'' ⟨v,rfl,q⟩;exact q
section
variable {P:Program}{h0 N:Nat}{env env':Env}{H H':Qc}{Q Q':QC}{c c':Code}
theorem TC.mono(h:TC P h0 N c env H Q)(hq:∀x env H,Q x env H->Q' x env H):TC P h0 N c env H Q':=
 λrd fr ro σ a w r hrd=>Code.wpIn_mono (λe a w q=>q.mono hq) (h rd fr ro σ a w r hrd)
theorem TC.le(b:Le h0 env H env' H')(h:TC P h0 N c env' H' Q):TC P h0 N c env H Q:=by
 intro i f j σ a w r hrd;obtain⟨d,σ',g,s,t⟩:=b f j σ N a w r;exact Code.wpIn_mono (λe a w q=>q.step (YB s) t) (h i f d σ' a w g hrd)
theorem WO.le{all:Array Oper}{l:List Oper}(b:Le h0 env H env' H')(h:WO P h0 N all l env' H' Q):WO P h0 N all l env H Q:=by
 intro i f j σ a w r hrd;obtain⟨d,σ',g,s,t⟩:=b f j σ N a w r;exact Yn (λe a w q=>q.step (YB s) t) _ _ _ (h i f d σ' a w g hrd)
theorem WO.mono{all:Array Oper}{l:List Oper}(h:WO P h0 N all l env H Q)(hq:∀x env H,Q x env H->Q' x env H):WO P h0 N all l env H Q':=
 λrd fr ro σ a w r hrd=>Yn (λe a w q=>q.mono hq) _ _ _ (h rd fr ro σ a w r hrd)
def Seq(P:Program)(h0 N:Nat)(c:Code)(Q:QC):QC
 |.normal,env,H=>TC P h0 N c env H Q
 |.exit id,env,H=>Q (.exit id) env H
 |.ret,env,H=>Q .ret env H
def Blo(id:Nat)(Q:QC):QC
 |.normal,env,H=>Q .normal env H
 |.exit id',env,H=>bif Nat.beq id' id then Q .normal env H else Q (.exit id') env H
 |.ret,env,H=>Q .ret env H
theorem TC.seq(h:TC P h0 N c env H (Seq P h0 N c' Q)):TC P h0 N (.seq c c') env H Q:=by
 intro n u t σ a w r hrd;refine wpIn_seq (Code.wpIn_mono ?_ (h n u t σ a w r hrd));rintro e s p ⟨x,b,H',d,σ',f,i,l,m,g,k,j⟩;cases e with
 |normal=>
  obtain rfl:x=.normal:=i;exact Code.wpIn_mono (λe a w q=>q.grow g k j) (l n f d σ' s p m (hrd.to g j.sub))
 |exit id=>
  obtain rfl:x=.exit id:=i;exact⟨_,b,H',d,σ',f,rfl,l,m,g,k,j⟩
 |ret=>
  obtain rfl:x=.ret:=i;exact⟨_,b,H',d,σ',f,rfl,l,m,g,k,j⟩
 |_=>exact i.elim
theorem TC.skip(h:Q .normal env H):TC P h0 N .skip env H Q:=
 λrd fr ro σ a w r hrd=>wpIn_skip ⟨_,env,H,ro,σ,fr,rfl,h,r,Qf.refl _ _ _,rfl,Grow.refl _ _ _⟩
theorem TC.ret(h:Q .ret env H):TC P h0 N .ret env H Q:=
 λrd fr ro σ a w r hrd=>wpIn_ret ⟨_,env,H,ro,σ,fr,rfl,h,r,Qf.refl _ _ _,rfl,Grow.refl _ _ _⟩
theorem TC.exit{id:Nat}(h:Q (.exit id) env H):TC P h0 N (.exit id) env H Q:=
 λrd fr ro σ a w r hrd=>wpIn_exit ⟨_,env,H,ro,σ,fr,rfl,h,r,Qf.refl _ _ _,rfl,Grow.refl _ _ _⟩
theorem TC.block{id:Nat}(h:TC P h0 N c env H (Blo id Q)):TC P h0 N (.block id c) env H Q:=by
 intro p t s σ a w r hrd;refine wpIn_block (Code.wpIn_mono ?_ (h p t s σ a w r hrd));rintro e y u ⟨x,b,H',d,σ',f,l,g,m,j,k,n⟩;cases e with
 |normal=>
  obtain rfl:x=.normal:=l;exact⟨_,b,H',d,σ',f,rfl,g,m,j,k,n⟩
 |exit i=>
  obtain rfl:x=.exit i:=l;simp only[Exit.inBlock];simp only[Blo]at g;by_cases e:i=id
  .subst e;rw[if_pos rfl];rw[Nat.beq_refl]at g;exact⟨_,b,H',d,σ',f,rfl,g,m,j,k,n⟩
  .rw[if_neg e];have:Nat.beq i id=false:=by
    rw[Bool.eq_false_iff];intro q;exact e (XX q)
   rw[this]at g;exact⟨_,b,H',d,σ',f,rfl,g,m,j,k,n⟩
 |ret=>
  obtain rfl:x=.ret:=l;exact⟨_,b,H',d,σ',f,rfl,g,m,j,k,n⟩
 |_=>exact l.elim
def opA(env:Env):Operand->A
 |.tmp t=>lk env t
 |.const (.bool b)=>.bool b
 |.const (.int k n)=>.int k n
 |.const (.string s)=>.str s.data.toList
 |.const (.pointer none)=>.nilp
 |.const (.slice none 0 0)=>.nils
 |.const (.map none)=>.nilm
 |.const .nilFunc=>.nilf
 |.const .nilIface=>.nilif
 |.func f=>.fn (.func f) [] []
 |_=>.any
theorem Qg{fr ro:Nat->Prop}{σ:Sig}{a:Act}{w:World}(r:Rel fr ro σ H env N a w)(x:Operand):VR ro σ w (opA env x) (a.eval x):=by
 cases x with
 |tmp t=>exact r.env t
 |const v=>
  cases v with
  |slice a n k=>
   cases a with
   |none=>
    cases n with
    |zero=>cases k with
     |zero=>rfl
     |succ k=>trivial
    |succ n=>trivial
   |some a=>trivial
  |pointer p=>cases p with
   |none=>rfl
   |some p=>trivial
  |map p=>cases p with
   |none=>rfl
   |some p=>trivial
  |string s=>simp[opA,VR,Act.eval]
  |_=>first|trivial|rfl|simp[opA,VR,Act.eval]
 |global g=>trivial
 |func f=>exact⟨[],[],rfl,rfl,rfl⟩
theorem TC.cond{x:Operand}{t:Bool}(j:opA env x=.bool t)(h:t=true->TC P h0 N c env H Q)(i:t=false->TC P h0 N c' env H Q):
  TC P h0 N (.cond x c c') env H Q:=by
 intro b d f σ a w r hrd;have g:=Qg r x;rw[j]at g;exact wpIn_cond_split g (λe=>h e b d f σ a w r hrd) (λe=>i e b d f σ a w r hrd)
theorem QlP{t:Array Value}{d s:Nat}{v:Value}(a:d<t.size):(t.setIfInBounds d v).getD s undef=if s=d then v else t.getD s undef:=by
 simp only[Array.getD_eq_getD_getElem?,Vm];by_cases e:s=d
 .subst e;simp[a]
 .rw[if_neg (λq=>e q.symm),if_neg e]
theorem VR.up{fr ro:Nat->Prop}{σ:Sig}{a:Act}{w:World}(r:∀s,VR ro σ w (lk env s) (a.tmps.getD s undef)){d:Nat}(b:d<a.tmps.size){x:A}{v:Value}(f:VR ro σ w x v):
  ∀s,VR ro σ w (lk (up env d x) s) ((a.tmps.setIfInBounds d v).getD s undef):=by
 intro s;rw[QlP b];simp only[up,lk];by_cases e:s=d
 .subst e;rw[Nat.beq_refl,if_pos rfl];exact f
 .have:Nat.beq s d=false:=by
   rw[Bool.eq_false_iff];intro q;exact e (XX q)
  rw[this,if_neg e];exact r s
def Qx(all:Array Oper)(o:Oper)(env:Env)(b:Bool):Prop:=
 match o.guard with
 |none=>b=true
 |some (j,c)=>∃d,(all[j]?).bind (·.dst)=some d/\((∃x,lk env d=.bool x/\b=(x==c))\/(lk env d=.tup []/\b=false))
theorem Jg{all:Array Oper}{o:Oper}{b:Bool}(h:Qx all o env b){fr ro:Nat->Prop}{σ:Sig}{a:Act}{w:World}(r:Rel fr ro σ H env N a w):
  Region.wanted o (yielded all a.tmps)=b:=by
 unfold Qx at h;unfold Region.wanted;cases n:o.guard with
 |none=>rw[n]at h;exact h.symm
 |some g=>
  obtain⟨j,c⟩:=g;rw[n]at h;obtain⟨d,m,⟨x,i,k⟩|⟨i,k⟩⟩:=h
  .have f:=r.env d;rw[i]at f;simp only[VR]at f;have p:a.tmps[d]?=some (.bool x):=by
    rw[Array.getD_eq_getD_getElem?]at f;cases e:a.tmps[d]? with
    |none=>rw[e]at f;simp[undef]at f
    |some y=>rw[e]at f;simp at f;rw[f]
   simp only[yielded,m,XQ,p,k];cases x<;>cases c<;>rfl
  .have f:=r.env d;rw[i]at f;obtain⟨l,f,q⟩:=f;rw[Array.getD_eq_getD_getElem?]at f;subst k;simp only[yielded,m,XQ];cases e:a.tmps[d]? with
   |none=>cases c<;>rfl
   |some y=>rw[e]at f;simp at f;subst f;cases c<;>rfl
def OpV(P:Program)(o:Oper)(env:Env)(H:Qc)(x:A):Prop:=
 ∀fr ro σ N a w,Rel fr ro σ H env N a w->∃v,(execOp a.eval o).run P w=.ok (.value v) w/\VR ro σ w x v
def OpH(P:Program)(o:Oper)(env:Env)(H:Qc)(x:A)(H':Qc):Prop:=
 ∀fr ro σ N a w,Rel fr ro σ H env N a w->∃v w' ro' τ,(execOp a.eval o).run P w=.ok (.value v) w'/\VR ro' (σ++τ) w' x v/\
  Sim fr ro' (σ++τ) H' w'/\Qf fr ro w ro' w'
def OpU(P:Program)(o:Oper)(env:Env)(H:Qc)(H':Qc):Prop:=
 ∀fr ro σ N a w,Rel fr ro σ H env N a w->∃w' ro' τ,(execOp a.eval o).run P w=.ok .skip w'/\
  Sim fr ro' (σ++τ) H' w'/\Qf fr ro w ro' w'
theorem WO.nil{all:Array Oper}(h:Q .normal env H):WO P h0 N all [] env H Q:=
 λrd fr ro σ a w r hrd=>⟨_,env,H,ro,σ,fr,rfl,h,r,Qf.refl _ _ _,rfl,rfl,Grow.refl _ _ _⟩
theorem QU{σ τ:Sig}{h0:Nat}(h:h0<=σ.length):(σ++τ).take h0=σ.take h0:=by
 rw[Vf h]
theorem Qca{all:Array Oper}{o:Oper}{l:List Oper}{d:Nat}{x:A}(m:h0<=H.length)(hg:Qx all o env true)(p:o.dst=some d)(n:Nat.blt d N=true)
  (g:OpH P o env H x H')(k:WO P h0 N all l (up env d x) H' Q):WO P h0 N all (o::l) env H Q:=by
 intro y fr z σ a w r hrd;obtain⟨v,i,b,τ,u,t,B,f⟩:=g fr z σ N a w r;refine QaO (Jg hg r) u ?_;simp only[p,Act.put];have h:d<N:=by simpa using n
 have j:Rel fr b (σ++τ) H' (up env d x) N {a with tmps:=a.tmps.setIfInBounds d v} i:=
  ⟨B,VR.up (fr:=fr) (λs=>(r.env s).mono (f.ext σ τ)) (by rw[r.size];exact h) t,by simpa using r.size,r.defers.keep f⟩
 refine Yn (λe a w q=>q.step f (QU ?_)) _ _ _ (k y fr b (σ++τ) _ i j (hrd.to f λ_ q=>q));rw[r.sim.len];exact m
theorem QH{all:Array Oper}{o:Oper}{l:List Oper}{d:Nat}{x:A}(hg:Qx all o env true)(h:o.dst=some d)(g:Nat.blt d N=true)
  (e:OpV P o env H x)(k:WO P h0 N all l (up env d x) H Q):WO P h0 N all (o::l) env H Q:=by
 intro m fr f σ a w r hrd;obtain⟨v,j,i⟩:=e fr f σ N a w r;refine QaO (Jg hg r) j ?_;simp only[h,Act.put];have b:d<N:=by simpa using g
 exact k m fr f σ {a with tmps:=a.tmps.setIfInBounds d v} w ⟨r.sim,VR.up (fr:=fr) r.env (by rw[r.size];exact b) i,by simpa using r.size,r.defers⟩ hrd
theorem Qiw{all:Array Oper}{o:Oper}{l:List Oper}(j:h0<=H.length)(hg:Qx all o env true)(m:o.dst=none)
  (f:OpU P o env H H')(k:WO P h0 N all l env H' Q):WO P h0 N all (o::l) env H Q:=by
 intro p g t σ a w r hrd;obtain⟨h,b,τ,n,u,d⟩:=f g t σ N a w r;refine QkN (Jg hg r) n ?_;simp only[m,Act.put];have i:Rel g b (σ++τ) H' env N a h:=⟨u,λs=>(r.env s).mono (d.ext σ τ),r.size,r.defers.keep d⟩;refine Yn (λe a w q=>q.step d (QU ?_)) _ _ _ (k p g b (σ++τ) _ h i (hrd.to d λ_ q=>q));rw[r.sim.len];exact j
theorem WO.skip{all:Array Oper}{o:Oper}{l:List Oper}{d:Nat}(hg:Qx all o env false)(f:o.dst=some d)(h:Nat.blt d N=true)
  (k:WO P h0 N all l (up env d (.tup [])) H Q):WO P h0 N all (o::l) env H Q:=by
 intro e fr g σ a w r hrd;unfold wpL wpListIn;rw[Jg hg r,if_neg (by simp)];refine⟨λ_ _=>trivial,?_⟩;simp only[f,Act.put];have b:d<N:=by simpa using h
 exact k e fr g σ {a with tmps:=a.tmps.setIfInBounds d undef} w ⟨r.sim,VR.up (fr:=fr) r.env (by rw[r.size];exact b) ⟨[],rfl,rfl⟩,by simpa using r.size,r.defers⟩ hrd
theorem TC.region{id:Nat}{l:List Oper}(h:WO P h0 N l.toArray l env H Q):TC P h0 N (.region id l.toArray false) env H Q:=
 λrd fr ro σ a w r hrd=>Code.wpIn_mono (λe a w q=>q.postW) (wpIn_region_lit (h rd fr ro σ a w r hrd))
end
end Go.Sw
namespace Go.Sw
mutual
def Yx(ρ:Nat->Nat):A->A
 |.ptr i off=>.ptr (ρ i) off
 |.osl i o n k=>.osl (ρ i) o n k
 |.agg cs=>.agg (Qaa ρ cs)
 |.fn f a c=>.fn f (Qaa ρ a) (Qaa ρ c)
 |.iface t v=>.iface t (Yx ρ v)
 |.map i=>.map (ρ i)
 |.tup vs=>.tup (Qaa ρ vs)
 |a=>a
def Qaa(ρ:Nat->Nat):List A->List A
 |[]=>[]
 |a::r=>Yx ρ a::Qaa ρ r
end
def Qf0(ρ:Nat->Nat):List (List A)->List (List A)
 |[]=>[]
 |a::r=>Qaa ρ a::Qf0 ρ r
def QZ(ρ:Nat->Nat):Blk->Blk
 |.cells t cs=>.cells t (Qaa ρ cs)
 |.rowr t k es=>.rowr t k (Qf0 ρ es)
 |.ents t b1 b2 es=>.ents t (ρ b1) (ρ b2) es
 |b=>b
theorem Qfj(ρ:Nat->Nat)(b1 b2:Nat):∀(es:List Ent),Qf0 ρ (es.map (eC b1 b2))=es.map (eC (ρ b1) (ρ b2))
 |[]=>rfl
 |e::es=>by
  have:=Qfj ρ b1 b2 es;simp only[Vr,Qf0,this];congr 1;cases h:e.fl<;>simp[eC,Qaa,Yx,h]
theorem QI(ρ:Nat->Nat)(x:Blk):(QZ ρ x).live=x.live:=by cases x<;>rfl
theorem Qaj(ρ:Nat->Nat)(x:Blk)(w:World)(b c:Nat):Hid w (QZ ρ x) b c↔Hid w x b c:=by cases x<;>exact Iff.rfl
section
variable {ro:Nat->Prop}{σ σ':Sig}{w:World}{ρ:Nat->Nat} (h:∀i:Nat,σ[ρ i]?=σ'[i]?)
include h
mutual
theorem Qgs:∀{a:A}{v:Value},VR ro σ w (Yx ρ a) v↔VR ro σ' w a v
 |.any,_=>by simp only[Yx,VR]
 |.bool b,v=>by simp only[Yx,VR]
 |.int k n,v=>by simp only[Yx,VR]
 |.str s,v=>by simp only[Yx,VR]
 |.nilp,v=>by simp only[Yx,VR]
 |.ptr i off,v=>by simp only[Yx,VR,h]
 |.rp cs,v=>by simp only[Yx,VR]
 |.nils,v=>by simp only[Yx,VR]
 |.rsl k es,v=>by simp only[Yx,VR]
 |.osl i o n k,v=>by simp only[Yx,VR,h]
 |.agg cs,v=>by simp only[Yx,VR];exact exists_congr λl=>and_congr_right λ_=>Qbg
 |.fn f a c,v=>by simp only[Yx,VR];exact exists_congr λl=>exists_congr λl'=>and_congr_right λ_=>and_congr Qbg Qbg
 |.nilf,v=>by simp only[Yx,VR]
 |.iface t a,v=>by simp only[Yx,VR];exact exists_congr λl=>and_congr_right λ_=>Qgs
 |.nilif,v=>by simp only[Yx,VR]
 |.map i,v=>by simp only[Yx,VR,h]
 |.nilm,v=>by simp only[Yx,VR]
 |.tup vs,v=>by simp only[Yx,VR];exact exists_congr λl=>and_congr_right λ_=>Qbg
theorem Qbg:∀{az:List A}{l:List Value},LR ro σ w (Qaa ρ az) l↔LR ro σ' w az l
 |[],l=>by simp only[Qaa,LR]
 |a::r,l=>by
  simp only[Qaa,LR];exact exists_congr λv=>exists_congr λl'=>and_congr_right λ_=>and_congr Qgs Qbg
end
theorem Qdg:∀(cs:List A),(Qaa ρ cs).length=cs.length
 |[]=>rfl
 |a::r=>by simp[Qaa,Qdg r]
theorem QiB{k:Nat}:∀{es:List (List A)}{l:List Value},RL ro σ w k (Qf0 ρ es) l↔RL ro σ' w k es l
 |[],l=>by simp only[Qf0,RL]
 |a::r,l=>by
  simp only[Qf0,RL,Qdg h];exact exists_congr λl1=>exists_congr λl2=>and_congr_right λ_=>and_congr_right λ_=>and_congr (and_congr_left λ_=>Qbg h) QiB
theorem QgF{x:Blk}{s:Option Nat}:BR ro σ w (QZ ρ x) s↔BR ro σ' w x s:=by
 cases x with
 |cells t e=>
  cases s with
  |none=>exact Iff.rfl
  |some b=>simp only[QZ,BR];exact exists_congr λl=>and_congr_right λ_=>and_congr_left λ_=>Qbg h
 |rowr t k a=>
  cases s with
  |none=>exact Iff.rfl
  |some b=>simp only[QZ,BR];exact exists_congr λl=>and_congr_right λ_=>QiB h
 |ents t f d a=>
  cases s with
  |none=>exact Iff.rfl
  |some b=>
   simp only[QZ,BR];refine exists_congr λl=>and_congr_right λ_=>?_;rw[<- Qfj];exact QiB h
 |_=>cases s<;>exact Iff.rfl
end
def C(P:Program)(f:FuncId)(args:List A)(H:Qc)(Q:A->Qc->Prop):Prop:=
 ∀fr ro σ vals w,Sim fr ro σ H w->LR ro σ w args vals->Calls P f vals.toArray w λe w'=>
  ∃v r H' ro' τ,e=.returned v/\Q r H'/\Sim fr ro' (σ++τ) H' w'/\VR ro' (σ++τ) w' r v/\Qf fr ro w ro' w'
theorem C.mono{P:Program}{f:FuncId}{args:List A}{H:Qc}{Q Q':A->Qc->Prop}(h:C P f args H Q)(hq:∀r H,Q r H->Q' r H):C P f args H Q':=
 λfr ro σ vals w s l=>(h fr ro σ vals w s l).mono λe w' ⟨v,r,H',ro',τ,h1,h2,h3⟩=>⟨v,r,H',ro',τ,h1,hq _ _ h2,h3⟩
def QfF:Nat->List A->Env
 |_,[]=>[]
 |i,a::r=>(i,a)::QfF (i+1) r
theorem Qei{ro:Nat->Prop}{σ:Sig}{w:World}:∀{args:List A}{vals:List Value}{i:Nat} (pre:List Value),pre.length=i->LR ro σ w args vals->∀rest:Array Value,
  ∀s,VR ro σ w (lk (QfF i args) s) (((pre++vals).toArray++rest).getD s undef)
 |[],vals,i,pre,hp,hl,rest,s=>trivial
 |a::r,vals,i,pre,hp,hl,rest,s=>by
  simp only[LR]at hl;obtain⟨v,l',rfl,h1,h2⟩:=hl;simp only[QfF,lk];by_cases e:s=i
  .subst e;rw[Nat.beq_refl];have:((pre++v::l').toArray++rest).getD s undef=v:=by
    subst hp;simp[Array.getD_eq_getD_getElem?,Array.getElem?_append]
   rw[this];exact h1
  .have:Nat.beq s i=false:=by
    rw[Bool.eq_false_iff];intro q;exact e (XX q)
   rw[this];have:=Qei (i:=i+1) (pre++[v]) (by simp[hp]) h2 rest s;simpa using this
def QcH(P:Program)(fn:Func)(env:Env)(H:Qc)(r:A):Prop:=
 ∀fr ro σ N a w,Rel fr ro σ H env N a w->∃v,(results fn a.tmps).run P w=.ok v w/\VR ro σ w r v
def QcG(P:Program)(h0:Nat)(fn:Func)(Q:A->Qc->Prop):QC
 |.normal,env,H=>∃env' H' r,Le h0 env H env' H'/\QcH P fn env' H' r/\Q r H'
 |.ret,env,H=>∃env' H' r,Le h0 env H env' H'/\QcH P fn env' H' r/\Q r H'
 |.exit _,_,_=>False
theorem LR.length{ro:Nat->Prop}{σ:Sig}{w:World}:∀{az:List A}{l:List Value},LR ro σ w az l->l.length=az.length
 |[],l,h=>by simp only[LR]at h;simp[h]
 |a::r,l,h=>by
  simp only[LR]at h;obtain⟨v,l',rfl,_,h2⟩:=h;simp[h2.length]
theorem Sim.turn{fr ro:Nat->Prop}{σ:Sig}{H:Qc}{w:World}(s:Sim fr ro σ H w){b:Nat}{obj:Obj}(n:¬ro b)(m:¬fr b)(u:∀(i:Nat) (x:Blk),σ[i]?=some (some b)->H[i]?=some x->x.live=true->False)
  (h:∀(i d:Nat) (x:Blk),σ[i]?=some (some d)->H[i]?=some x->Hid w x d b->False)
  (r:∀y,w.shape? b=some y->(w.putObj b obj).shape? b=some y):Sim fr ro σ H (w.putObj b obj)/\Qf fr ro w ro (w.putObj b obj):=by
 have a:∀c,c≠b->(w.putObj b obj).heap[c]?=w.heap[c]? :=λc B=>World.putObj_heap_other B;have f:(w.putObj b obj).heap.size=w.heap.size:=by simp
 have ev:Qf fr ro w ro (w.putObj b obj):=by
  refine⟨λ_ q=>q,λc q=>a c (λe=>n (e▸q)),λc q=>a c (λe=>m (e▸q)),by rw[f];exact X0 _,λc x q=>?_,rfl,rfl,rfl,X0 _⟩;by_cases e:c=b
  .subst e;exact r x q
  .unfold World.shape? at q⊢;rw[a c e];exact q
 have l:Ext ro σ w ro σ (w.putObj b obj):=by have:=ev.ext σ [];simpa using this
 refine⟨⟨s.len,s.roOk.to (λ_ q=>q) ev.keepRo (λc q=>by rw[f];exact s.roLt c q),λc q=>by rw[f];exact s.frLt c q,s.roFr,λi c x g k F=>?_,s.inj,λi y x g k=>?_,
  s.hidTo (· = ·) Q2 (by rw[f];exact X0 _) (λ_ _ _ _ _ _ _ q=>q) (λ_ _ _ _ _ _ _ q=>q) λj d y p t M=>.inl ⟨j,y,rfl,p,t,id,λc q=>s.hidKeep p t (λz=>a d (λe=>u j y (e▸p) t z)) ev.keepRo q⟩⟩,ev⟩
 .obtain⟨G,J,E⟩:=s.own i c x g k F;exact⟨by rw[f];exact G,J,E⟩
 .refine(s.blk i y x g k).keep l ?_ ?_
  .rintro c rfl L;exact a c (λe=>u i x (e▸g) k L)
  .rintro d c rfl q;exact a c (λe=>h i d x g k (e▸q))
theorem Qa7{P:Program}{fn:Func}{tmps:Array Value}{R:Ending->World->Prop}{fr ro:Nat->Prop}{σ:Sig}{H:Qc}:
  ∀(ds:List Deferred) (w:World),ds.Nodup->(∀d∈ds,∃D,d={target:=.collected D,args:= #[]}/\ ¬ro D/\ ¬fr D/\(∀(i:Nat) (x:Blk),σ[i]?=some (some D)->H[i]?=some x->x.live=true->False)/\(∀(i d:Nat) (x:Blk),σ[i]?=some (some d)->H[i]?=some x->Hid w x d D->False)/\w.heap[D]?=some (.deferred (some [])))->
  Sim fr ro σ H w->(∀w',Sim fr ro σ H w'->Qf fr ro w ro w'->∃v,(results fn tmps).run P w'=.ok v w'/\R (.returned v) w')->LeavesInM Fence.wide 0 P fn tmps R ds .returning w
 |[],w,_,_,s,hk=>by
  obtain⟨v,h1,h2⟩:=hk w s (Qf.refl _ _ _);exact⟨v,h1,h2⟩
 |d::ds,w,hn,hd,s,hk=>by
  obtain⟨D,rfl,h1,h2,h3,h5,h4⟩:=hd d (by simp);obtain⟨n1,n2⟩:=List.nodup_cons.1 hn;obtain⟨s',ev⟩:=s.turn (obj:=.deferred none) h1 h2 h3 h5 (λy q=>by unfold World.shape? at q;rw[h4]at q;simp at q);refine⟨(by intro e;cases e),.inl ⟨D,_,rfl,run_takeDeferred h4,?_⟩⟩;refine Qa7 ds _ n2 (λd' q=>?_) s' (λw' q1 q2=>hk w' q1 (ev.trans q2));obtain⟨D',rfl,g1,g2,g3,g5,g4⟩:=hd d' (by simp[q]);refine⟨D',rfl,g1,g2,g3,λi d x z1 z2 z3=>g5 i d x z1 z2 (s.hidKeep z1 z2 (λz=>World.putObj_heap_other (λe:d=D=>h3 i x (e▸z1) z2 z)) (λb q=>World.putObj_heap_other (λe:b=D=>h1 (e▸q))) z3),(World.putObj_heap_other (λe=>?_)).trans g4⟩;subst e;exact n1 q
theorem Qb{P:Program}{f:FuncId}{fn:Func}{c:Code}{N:Nat}{args:List A}{H:Qc}{Q:A->Qc->Prop}
  (hf:P.funcs[f]?=some fn)(hb:fn.body=some c)(hN:fn.ntmps=N)(hA:Nat.ble args.length N=true)
  (h:TC P H.length N c (QfF 0 args) H (QcG P H.length fn Q)):C P f args H Q:=by
 intro fr ro σ vals w hs hl;have y:=hl.length;have aa:args.length<=N:=by simpa using hA
 refine(callsIn_wide (n:=0)).1 (callsIn_of_wp_marks hf hb trivial (Code.wpIn_mono ?_ (h none fr ro σ _ w ⟨hs,?_,?_,List.nodup_nil,λd k=>by cases k⟩ QbM)))
 .rintro e t j ⟨x,p,H1,M,σ1,F,z,B,h3,h4,h5,W⟩;have u:(∃g H' r,Le H.length p H1 g H'/\QcH P fn g H' r/\Q r H')->LeavesInM Fence.wide 0 P fn t.tmps (λe j=>
    ∃v' r H' a τ,e=.returned v'/\Q r H'/\Sim fr a (σ++τ) H' j/\VR a (σ++τ) j r v'/\Qf fr ro w a j) t.defers .returning j:=by
   rintro⟨g,H',r,O,hr,hq⟩;obtain⟨a,σ',b,l,ht⟩:=O F M σ1 N t j h3;have hσ:σ'=σ++σ'.drop H.length:=by
    have L:σ'.take H.length=σ:=by rw[ht,h5,List.take_of_length_le (by rw[hs.len];exact X0 _)]
    conv=>lhs;rw[<- XF H.length σ',L]
   have s1:Sim fr a σ' H' j:=b.sim.frMono W.sub;refine Qa7 (ro:=a) (fr:=fr) (σ:=σ') (H:=H') t.defers j b.defers.1 (λd k=>?_) s1 (λV Y m=>?_)
   .obtain⟨D,rfl,R,g2⟩:=b.defers.2 d k;refine⟨D,rfl,λq=>b.sim.roFr D q R,λq=>?_,λi x J T E=>(b.sim.own i D x J T E).2.2 R,λi d x J T E=>(b.sim.hid i d x D J T E).fr R,g2⟩;rcases W.ds _ k with X|⟨D',e,X⟩
    .cases X
    .have:D=D':=by simpa using e
     subst this;have:=hs.frLt D q;omega
   .have G:Rel fr a σ' H' g N {t with defers:=[]} V:=⟨Y,λs=>(b.env s).mono (by have:=m.ext σ' [];simpa using this),b.size,List.nodup_nil,λd k=>by cases k⟩;obtain⟨v,L,e2⟩:=hr fr a σ' N _ V G;exact⟨v,L,v,r,H',a,σ'.drop H.length,rfl,hq,hσ▸Y,hσ▸e2,(h4.trans (YB l)).trans m⟩
  cases e with
  |normal=>
   obtain rfl:x=.normal:=z;exact u B
  |ret=>
   obtain rfl:x=.ret:=z;exact u B
  |exit id=>
   obtain rfl:x=.exit id:=z;exact B.elim
  |_=>exact z.elim
 .intro s;have:=Qei (i:=0) [] rfl hl (Array.replicate (fn.ntmps-vals.toArray.size) undef) s;simpa using this
 .simp[hN,y];omega
section
variable {P:Program}{fn:Func}{env:Env}{H:Qc}
theorem QcH.nil(h:fn.results= #[]):QcH P fn env H (.tup []):=
 λfr ro σ N a w r=>⟨.tuple #[],by simp[results,h,go_sem],[],rfl,rfl⟩
theorem QcH.one{t:Nat}{x:A}(h:fn.results= #[.tmp t])(hx:lk env t=x):QcH P fn env H x:=
 λfr ro σ N a w r=>⟨a.tmps.getD t undef,by simp[results,h,go_sem],hx▸r.env t⟩
theorem Qkp{t u:Nat}{x y:A}(h:fn.results= #[.tmp t,.tmp u])(hx:lk env t=x)(hy:lk env u=y):QcH P fn env H (.tup [x,y]):=
 λfr ro σ N a w r=>⟨.tuple #[a.tmps.getD t undef,a.tmps.getD u undef],by simp[results,h,go_sem],
  [_,_],rfl,_,_,rfl,hx▸r.env t,_,_,rfl,hy▸r.env u,rfl⟩
end
inductive Ctl (S B:Type) where
 |cont (s:S)
 |done (b:B)
 deriving DecidableEq
def iter{S B:Type}(step:S->Option (Ctl S B)):Nat->S->Option B
 |0,_=>none
 |n+1,s=>match step s with
  |some (.cont s')=>iter step n s'
  |some (.done b)=>some b
  |none=>none
def Qa2{S B:Type}(I:S->Env->Qc->Prop)(d:Ctl S B)(Q:QC):QC
 |.normal,env,H=>∃s,d=.cont s/\I s env H
 |.exit id,env,H=>(∃b,d=.done b)/\Q (.exit id) env H
 |.ret,env,H=>(∃b,d=.done b)/\Q .ret env H
theorem Qmy{P:Program}{h0 N:Nat}{c:Code}{S B:Type}{step:S->Option (Ctl S B)}{I:S->Env->Qc->Prop}{Q:QC}{E:B}
  (body:∀s d env H,I s env H->step s=some d->(∀b,d=.done b->b=E)->TC P h0 N c env H (Qa2 I d Q))
  {m:Nat}{s0:S}(h:iter step m s0=some E){env:Env}{H:Qc}(J:I s0 env H):TC P h0 N (.loop c) env H Q:=by
 intro W t F σ a w r hrd b k cs hro hb hr;have O:∀m s env H fr1 ro1 σ1 a1 w1,iter step m s=some E->I s env H->Rel fr1 ro1 σ1 H env N a1 w1->Qf t F w ro1 w1->σ1.take h0=σ.take h0->Grow t w a.defers fr1 a1.defers->
   ∃e j i,Qa1 h0 t F σ w N a.defers Q e j i/\ArrivesIn (Machine.fenced P (WF W)) P (lone (b.atR a1 (.code c::.inLoop c::k)) cs w1) b k cs e j i:=by
  intro m
  induction m with
  |zero=>intro s env H fr1 ro1 σ1 a1 w1 hit;simp[iter]at hit
  |succ m ih=>
   intro s env H fr1 ro1 σ1 a1 w1 hit J r1 ev1 t1 g1;simp only[iter]at hit;cases M:step s with
   |none=>rw[M]at hit;simp at hit
   |some d=>
    rw[M]at hit;have hd:∀b,d=.done b->b=E:=by
     rintro b rfl;simpa using hit
    obtain⟨e,j,i,L,f⟩:=body s d env H J M hd W fr1 ro1 σ1 a1 w1 r1 (hrd.to ev1 g1.sub) b (.inLoop c::k) cs hro hb hr;obtain⟨x,g,H',n,σ',u,z,y,R,q4,X,Y⟩:=L;have p:=ev1.trans (q4.frMono g1.sub);have V:=g1.trans ev1.size Y;have T:∀x,Q x g H'->ExR e x->Qa1 h0 t F σ w N a.defers Q e j i:=λx q q'=>⟨x,g,H',n,σ',u,q',q,R,p,X.trans t1,V⟩;cases e with
    |normal=>
     obtain rfl:x=.normal:=z;obtain⟨s',rfl,y⟩:=y;obtain⟨e2,a2,w2,G,l⟩:=ih s' g H' u n σ' j i hit y R p (X.trans t1) V;exact⟨e2,a2,w2,G,.of_steps (StepsIn.trans f (.one (fenced_calm hb hr rfl) stepR_inLoop)) l⟩
    |exit id=>
     obtain rfl:x=.exit id:=z;exact⟨_,j,i,T _ y.2 rfl,.pass (x:=.inLoop c) rfl (λ_ _=>.inl (by simp)) f⟩
    |ret=>
     obtain rfl:x=.ret:=z;exact⟨_,j,i,T _ y.2 rfl,.pass (x:=.inLoop c) rfl (λ_ _=>.inl (by simp)) f⟩
    |_=>exact z.elim
 obtain⟨e,j,i,L,f⟩:=O m s0 env H t F σ a w h J r (Qf.refl _ _ _) rfl (Grow.refl _ _ _);exact⟨e,j,i,L,.of_steps (.one (fenced_calm hb hr rfl) stepR_loop) f⟩
theorem TC.loop{P:Program}{h0 N:Nat}{c:Code}{S B:Type}{step:S->Option (Ctl S B)}(E:S->Env)(Hp:S->Qc){Q:QC}
  {m:Nat}{s0:S}{b0:B}(h:iter step m s0=some b0){env:Env}{H:Qc}(hI:Le h0 env H (E s0) (Hp s0))
  (body:∀s d,step s=some d->(∀b,d=.done b->b=b0)->TC P h0 N c (E s) (Hp s) (Qa2 (λs env H=>Le h0 env H (E s) (Hp s)) d Q)):TC P h0 N (.loop c) env H Q:=
 Qmy (I:=λs env H=>Le h0 env H (E s) (Hp s)) (λs d env H hI hs hd=>TC.le hI (body s d hs hd)) h hI
end Go.Sw
namespace Go.Sw
def rho(π:List Nat)(n i:Nat):Nat:=
 match π[i]? with
 |some p=>p
 |none=>n+(i-π.length)
def Yg:Qc->List Nat->List Blk->Qc
 |H,[],xs=>H++xs
 |H,p::π,x::xs=>Yg (H.set p x) π xs
 |H,_::_,[]=>H
theorem QbQ:∀(π:List Nat) (H:Qc) (xs:List Blk),π.length<=xs.length->(Yg H π xs).length=H.length+(xs.length-π.length)
 |[],H,xs,_=>by simp[Yg]
 |p::π,H,[],h=>by simp at h
 |p::π,H,x::xs,h=>by
  simp only[X8]at h;simp only[Yg,QbQ π (H.set p x) xs (by omega),Vb,X8];omega
theorem QbW:∀(π:List Nat) (H:Qc) (xs:List Blk) (i:Nat),i<H.length->i∉π->(Yg H π xs)[i]?=H[i]?
 |[],H,xs,i,hi,_=>by simp[Yg,XT hi]
 |p::π,H,[],i,hi,h=>by simp[Yg]
 |p::π,H,x::xs,i,hi,h=>by
  simp only[Ve,not_or]at h;simp only[Yg];rw[QbW π (H.set p x) xs i (by simpa using hi) h.2,XW (λe=>h.1 e.symm)]
theorem QdY:∀(π:List Nat) (H:Qc) (xs:List Blk) (j:Nat),π.length<=xs.length->(∀p∈π,p<H.length)->π.Nodup->
  (Yg H π xs)[rho π H.length j]?=xs[j]?
 |[],H,xs,j,_,_,_=>by
  simp only[Yg,rho,List.getElem?_nil,List.length_nil,XA];rw[XU (by omega)];congr 1;omega
 |p::π,H,[],j,h,_,_=>by simp at h
 |p::π,H,x::xs,j,h,hp,hn=>by
  simp only[X8]at h;have hn':=List.nodup_cons.1 hn;simp only[Yg];cases j with
  |zero=>
   simp only[rho,XL];rw[QbW π _ xs p (by simpa using hp p (by simp)) hn'.1];rw[Xa (hp p (by simp))]
  |succ j=>
   have ih:=QdY π (H.set p x) xs j (by omega) (λq hq=>by simpa using hp q (by simp[hq])) hn'.2;rw[Vb]at ih;have e:rho (p::π) H.length (j+1)=rho π H.length j:=by
    simp only[rho,XM,X8];cases π[j]? with
    |none=>simp only[];congr 1;omega
    |some q=>rfl
   rw[e,ih];simp
theorem QjI(π:List Nat)(n i:Nat)(a:n<=i\/i∈π):∃j,i=rho π n j:=by
 rcases a with a|a
 .refine⟨π.length+(i-n),?_⟩;have:π[π.length+(i-n)]?=none:=XV (by omega);simp only[rho,this];omega
 .obtain⟨j,b,rfl⟩:=List.mem_iff_getElem.1 a;exact⟨j,by simp[rho,XR b]⟩
def Q6(σ:Sig)(π:List Nat):Sig:=π.map λp=>(σ[p]?).getD none
theorem Qdz{σ τ:Sig}{π:List Nat}{n:Nat}(b:σ.length=n)(f:∀p∈π,p<n)(j:Nat):(σ++τ)[rho π n j]?=(Q6 σ π++τ)[j]? :=by
 rcases Nat.lt_or_ge j π.length with h|h
 .have d:π[j]∈π:=Vl h;have a:=f _ d;have e:rho π n j=π[j]:=by simp[rho,XR h]
  rw[e,XT (by omega),XT (by simpa[Q6]using h)];simp[Q6,XR h,XR (show π[j]<σ.length by omega)]
 .have e:rho π n j=n+(j-π.length):=by
   simp[rho,XV h]
  rw[e,XU (by omega),XU (by simpa[Q6]using h)];simp[Q6,b]
def OpC(P:Program)(o:Oper)(env:Env)(H:Qc)(f:FuncId)(args:List A):Prop:=
 ∀fr ro σ N a w,Rel fr ro σ H env N a w->∃vals:List Value,(execOp a.eval o).run P w=.ok (.enter f vals.toArray) w/\LR ro σ w args vals
theorem Y6{π:List Nat}{H:Qc}{Hc:List Blk}(b:π.map (λp=>H[p]?)=Hc.map some){p:Nat}(d:p∈π):p<H.length:=by
 have:H[p]? ∈π.map (λp=>H[p]?):=List.mem_map_of_mem d;rw[b]at this;obtain⟨x,_,a⟩:=Xf.1 this;rcases Nat.lt_or_ge p H.length with h|h
 .exact h
 .rw[XV h]at a;simp at a
theorem WO.call{P:Program}{h0 N:Nat}{all:Array Oper}{o:Oper}{l:List Oper}{env:Env}{H:Qc}{Q:QC}{d:Option Nat}{f:FuncId}
  {args ab:List A}{Hc:Qc}{Qr:A->Qc->Prop}(π:List Nat)(hh:h0<=H.length)(hg:Qx all o env true)(hd:o.dst=d)(hN:∀x,d=some x->x<N)
  (ao:OpC P o env H f args)(hargs:args=Qaa (rho π H.length) ab)(hH:π.map (λp=>H[p]?)=(Hc.map (QZ (rho π H.length))).map some)(hπ:π.Nodup)
  (hC:C P f ab Hc Qr)
  (k:∀r H1,Qr r H1->WO P h0 N all l (match d with|some d=>up env d (Yx (rho π H.length) r)|none=>env) (Yg H π (H1.map (QZ (rho π H.length)))) Q):
  WO P h0 N all (o::l) env H Q:=by
 intro rd fr ro σ a w r hrd;obtain⟨ai,h1,h2⟩:=ao fr ro σ N a w r;refine Qfa (Jg hg r) h1 ?_;have hp:∀p∈π,p<H.length:=λp q=>Y6 hH q;have hσl:=r.sim.len;have ac:∀(j p:Nat),π[j]?=some p->H[p]?=(Hc[j]?).map (QZ (rho π H.length)):=by
  intro j p M;have:=congrArg (λl=>l[j]?) hH;simp only[Xr,M,Xk]at this;cases e:Hc[j]? with
  |none=>rw[e]at this;simp at this
  |some x=>rw[e]at this;simpa using this
 have al:π.length=Hc.length:=by simpa using congrArg List.length hH
 have hσc:∀j:Nat,σ[rho π H.length j]?=(Q6 σ π)[j]? :=by
  intro j;have:=Qdz (τ:=[]) hσl hp j;simpa using this
 let frc:Nat->Prop:=λb=>fr b\/(∃i x,σ[i]?=some (some b)/\H[i]?=some x/\x.live=true/\i∉π)\/ ∃i x d,σ[i]?=some (some d)/\H[i]?=some x/\Hid w x d b/\i∉π
 have hπj:∀(j b:Nat),(Q6 σ π)[j]?=some (some b)->∃p,π[j]?=some p/\σ[p]?=some (some b):=by
  intro j b M;simp only[Q6,Xr]at M;cases e:π[j]? with
  |none=>rw[e]at M;simp at M
  |some p=>
   rw[e]at M;simp at M;refine⟨p,rfl,?_⟩;cases e2:σ[p]? with
   |none=>rw[e2]at M;simp at M
   |some s=>rw[e2]at M;simp at M;rw[M]
 have hπi:∀(i j p:Nat),π[i]?=some p->π[j]?=some p->i=j:=by
  intro i j p T O;have hi:i<π.length:=by
   rcases Nat.lt_or_ge i π.length with q|q
   .exact q
   .rw[XV q]at T;simp at T
  have M:j<π.length:=by
   rcases Nat.lt_or_ge j π.length with q|q
   .exact q
   .rw[XV q]at O;simp at O
  rw[XR hi]at T;rw[XR M]at O;have ae:=(X7 T).trans (X7 O).symm;rcases Nat.lt_trichotomy i j with q|q|q
  .exact(List.pairwise_iff_getElem.1 hπ i j hi M q ae).elim
  .exact q
  .exact(List.pairwise_iff_getElem.1 hπ j i M hi q ae.symm).elim
 have aj:Sim frc ro (Q6 σ π) Hc w:=by
  refine⟨by simp[Q6,al],r.sim.roOk,?_,?_,?_,?_,?_,?_⟩
  .rintro b (hb|⟨i,x,h,g,m,J⟩|⟨i,x,d,h,g,m,J⟩)
   .exact r.sim.frLt b hb
   .exact(r.sim.own i b x h g m).1
   .exact(r.sim.hid i d x b h g m).lt
  .rintro b hb (hf|⟨i,x,h,g,m,J⟩|⟨i,x,d,h,g,m,J⟩)
   .exact r.sim.roFr b hb hf
   .exact(r.sim.own i b x h g m).2.1 hb
   .exact(r.sim.hid i d x b h g m).ro hb
  .intro j b x h g m;obtain⟨p,T,e2⟩:=hπj j b h;have e3:H[p]?=some (QZ (rho π H.length) x):=by rw[ac j p T,g];rfl
   obtain⟨o1,o2,o3⟩:=r.sim.own p b _ e2 e3 (by rw[QI];exact m);refine⟨o1,o2,?_⟩;rintro(hf|⟨i,y,y1,y2,y3,y4⟩|⟨i,y,d,y1,y2,y3,y4⟩)
   .exact o3 hf
   .have:=r.sim.inj i p b _ _ y1 e2 y2 e3 y3 (by rw[QI];exact m);subst this;exact y4 (List.mem_of_getElem? T)
   .exact(r.sim.hid i d y b y1 y2 y3).ne p b _ e2 e3 (by rw[QI];exact m) rfl
  .intro i j b x y h g m J X q6;obtain⟨p,T,e2⟩:=hπj i b h;obtain⟨p',O,am⟩:=hπj j b g;have e3:H[p]?=some (QZ (rho π H.length) x):=by rw[ac i p T,m];rfl
   have aq:H[p']?=some (QZ (rho π H.length) y):=by rw[ac j p' O,J];rfl
   have:=r.sim.inj p p' b _ _ e2 am e3 aq (by rw[QI];exact X) (by rw[QI];exact q6);subst this;have hi:i<π.length:=by
    rcases Nat.lt_or_ge i π.length with q|q
    .exact q
    .rw[XV q]at T;simp at T
   have M:j<π.length:=by
    rcases Nat.lt_or_ge j π.length with q|q
    .exact q
    .rw[XV q]at O;simp at O
   rw[XR hi]at T;rw[XR M]at O;have ae:=(X7 T).trans (X7 O).symm;rcases Nat.lt_trichotomy i j with q|q|q
   .exact(List.pairwise_iff_getElem.1 hπ i j hi M q ae).elim
   .exact q
   .exact(List.pairwise_iff_getElem.1 hπ j i M hi q ae.symm).elim
  .intro j s x h g;have M:j<π.length:=by
    rcases Nat.lt_or_ge j π.length with q|q
    .exact q
    .rw[XV (by simpa[Q6]using q)]at h;simp at h
   have T:π[j]?=some π[j]:=XR M;have e3:H[π[j]]?=some (QZ (rho π H.length) x):=by rw[ac j _ T,g];rfl
   have e2:σ[π[j]]?=some s:=by
    have:=hσc j;rw[h]at this;simpa[rho,T]using this
   exact(QgF hσc).1 (r.sim.blk _ s _ e2 e3)
  .intro j b x c h g m;obtain⟨p,T,e2⟩:=hπj j b h;have e3:H[p]?=some (QZ (rho π H.length) x):=by rw[ac j p T,g];rfl
   have k:=r.sim.hid p b _ c e2 e3 ((Qaj _ _ _ _ _).2 m);refine⟨k.lt,k.ro,?_,?_,?_⟩
   .rintro(hf|⟨i,y,y1,y2,y3,y4⟩|⟨i,y,d,y1,y2,y3,y4⟩)
    .exact k.fr hf
    .exact k.ne i c y y1 y2 y3 rfl
    .obtain⟨rfl,rfl⟩:=k.one i d y y1 y2 y3;exact y4 (List.mem_of_getElem? T)
   .intro R b' y L n Y;obtain⟨p',f1,f2⟩:=hπj R b' L;exact k.ne p' b' _ f2 (show H[p']?=some (QZ (rho π H.length) y)by rw[ac R p' f1,n];rfl) (by rw[QI];exact Y)
   .intro R b' y L n Y;obtain⟨p',f1,f2⟩:=hπj R b' L;obtain⟨z4,z5⟩:=k.one p' b' _ f2 (show H[p']?=some (QZ (rho π H.length) y)by rw[ac R p' f1,n];rfl) ((Qaj _ _ _ _ _).2 Y);subst z5;exact⟨z4,hπi R j p' f1 T⟩
 have ag:LR ro (Q6 σ π) w ab ai:=(Qbg hσc).1 (hargs▸h2);refine Calls.mono (hC frc ro (Q6 σ π) ai w aj ag) ?_;rintro e w' ⟨v,rr,H1,aa,τ,rfl,hq,sc,hv,ev⟩;have hσ':∀j:Nat,(σ++τ)[rho π H.length j]?=(Q6 σ π++τ)[j]? :=λj=>Qdz hσl hp j;have an:H1.length=π.length+τ.length:=by rw[<- sc.len];simp[Q6]
 have ak:π.length<=(H1.map (QZ (rho π H.length))).length:=by simp;omega
 have W:Qf fr ro w aa w':=⟨ev.sub,ev.keepRo,λb q=>ev.keepFr b (.inl q),ev.size,ev.shape,ev.os,ev.tape,ev.output,ev.drawn⟩;have G:∀j,(Yg H π (H1.map (QZ (rho π H.length))))[rho π H.length j]?=(H1[j]?).map (QZ (rho π H.length)):=by
  intro j;rw[QdY π H _ j ak hp hπ];simp
 have B:∀i,i<H.length->i∉π->(Yg H π (H1.map (QZ (rho π H.length))))[i]?=H[i]? :=λi=>QbW π H _ i;have t:∀i:Nat,(∃j,i=rho π H.length j)\/(i<H.length/\i∉π):=by
  intro i;by_cases q:H.length<=i\/i∈π
  .exact .inl (QjI π H.length i q)
  .simp only[not_or]at q;exact .inr ⟨by omega,q.2⟩
 have F:∀i b x,i<H.length->i∉π->σ[i]?=some (some b)->H[i]?=some x->x.live=true->frc b:=λi b x h g m J X=>.inr (.inl ⟨i,x,m,J,X,g⟩);have ad:∀i b x c,i<H.length->i∉π->σ[i]?=some (some b)->H[i]?=some x->Hid w' x b c->Hid w x b c/\frc c:=λi b x c h g m J X=>
  have q6:=r.sim.hidKeep m J (λz=>ev.keepFr b (F i b x h g m J z)) ev.keepRo X
  ⟨q6,.inr (.inr ⟨i,x,b,m,J,q6,g⟩)⟩
 have ah:Sim fr aa (σ++τ) (Yg H π (H1.map (QZ (rho π H.length)))) w':=by
  refine⟨?_,sc.roOk,λb q=>sc.frLt b (.inl q),λb q q'=>sc.roFr b q (.inl q'),?_,?_,?_,?_⟩
  .rw[QbQ _ _ _ ak];simp[hσl,an]
  .intro i b x h g m;rcases t i with⟨j,rfl⟩|⟨c1,c2⟩
   .rw[hσ']at h;rw[G]at g;cases e:H1[j]? with
    |none=>rw[e]at g;simp at g
    |some y=>
     rw[e]at g;simp at g;subst g;obtain⟨o1,o2,o3⟩:=sc.own j b y h e (by rw[QI]at m;exact m);exact⟨o1,o2,λq=>o3 (.inl q)⟩
   .rw[B i c1 c2]at g;rw[XT (by omega)]at h;obtain⟨o1,o2,o3⟩:=r.sim.own i b x h g m;exact⟨Vn o1 ev.size,λq=>sc.roFr b q (F i b x c1 c2 h g m),o3⟩
  .intro i E b x y h g m J X q6;have af:∀(i E:Nat) (x y:Blk),(∃j,i=rho π H.length j)->(E<H.length/\E∉π)->(σ++τ)[i]?=some (some b)->(σ++τ)[E]?=some (some b)->
     (Yg H π (H1.map (QZ (rho π H.length))))[i]?=some x->(Yg H π (H1.map (QZ (rho π H.length))))[E]?=some y->x.live=true->y.live=true->False:=by
    rintro i E x y ⟨j,rfl⟩ ⟨c1,c2⟩ h g m J X q6;rw[hσ']at h;rw[G]at m;rw[B E c1 c2]at J;rw[XT (by omega)]at g;cases e:H1[j]? with
    |none=>rw[e]at m;simp at m
    |some z=>
     rw[e]at m;simp at m;subst m;exact(sc.own j b z h e (by rw[QI]at X;exact X)).2.2 (F E b y c1 c2 g J q6)
   rcases t i with ci|ci<;>rcases t E with ci'|ci'
   .obtain⟨j,rfl⟩:=ci;obtain⟨R,rfl⟩:=ci';rw[hσ']at h g;rw[G]at m J;cases e:H1[j]? with
    |none=>rw[e]at m;simp at m
    |some z=>
     cases V:H1[R]? with
     |none=>rw[V]at J;simp at J
     |some z'=>
      rw[e]at m;simp at m;subst m;rw[V]at J;simp at J;subst J;rw[sc.inj j R b z z' h g e V (by rw[QI]at X;exact X) (by rw[QI]at q6;exact q6)]
   .exact(af i E x y ci ci' h g m J X q6).elim
   .exact(af E i y x ci' ci g h J m q6 X).elim
   .rw[B i ci.1 ci.2]at m;rw[B E ci'.1 ci'.2]at J;rw[XT (by omega)]at h g;exact r.sim.inj i E b x y h g m J X q6
  .intro i s x h g;rcases t i with⟨j,rfl⟩|⟨c1,c2⟩
   .rw[hσ']at h;rw[G]at g;cases e:H1[j]? with
    |none=>rw[e]at g;simp at g
    |some y=>
     rw[e]at g;simp at g;subst g;exact(QgF hσ').2 (sc.blk j s y h e)
   .rw[B i c1 c2]at g;rw[XT (by omega)]at h;refine BR.keep (W.ext σ τ) ?_ (r.sim.blk i s x h g) ?_
    .rintro b rfl hl;exact ev.keepFr b (F i b x c1 c2 h g hl)
    .rintro b c rfl hl;exact ev.keepFr c (.inr (.inr ⟨i,x,b,h,g,hl,c2⟩))
  .intro i b x c h g m;rcases t i with⟨j,rfl⟩|⟨c1,c2⟩
   .rw[hσ']at h;rw[G]at g;cases e:H1[j]? with
    |none=>rw[e]at g;simp at g
    |some y=>
     rw[e]at g;simp at g;subst g;have k:=sc.hid j b y c h e ((Qaj _ _ _ _ _).1 m);refine⟨k.lt,k.ro,λq=>k.fr (.inl q),?_,?_⟩
     .intro E b' y' L n Y;rcases t E with⟨R,rfl⟩|⟨d1,d2⟩
      .rw[hσ']at L;rw[G]at n;cases V:H1[R]? with
       |none=>rw[V]at n;simp at n
       |some u=>
        rw[V]at n;simp at n;subst n;exact k.ne R b' u L V (by rw[QI]at Y;exact Y)
      .rw[B E d1 d2]at n;rw[XT (by omega)]at L;rintro rfl;exact k.fr (F E c y' d1 d2 L n Y)
     .intro E b' y' L n Y;rcases t E with⟨R,rfl⟩|⟨d1,d2⟩
      .rw[hσ']at L;rw[G]at n;cases V:H1[R]? with
       |none=>rw[V]at n;simp at n
       |some u=>
        rw[V]at n;simp at n;subst n;obtain⟨z4,rfl⟩:=k.one R b' u L V ((Qaj _ _ _ _ _).1 Y);exact⟨z4,rfl⟩
      .rw[B E d1 d2]at n;rw[XT (by omega)]at L;exact(k.fr (ad E b' y' c d1 d2 L n Y).2).elim
   .rw[B i c1 c2]at g;rw[XT (by omega)]at h;obtain⟨J,X⟩:=ad i b x c c1 c2 h g m;have k:=r.sim.hid i b x c h g J;refine⟨Vn k.lt ev.size,λq=>sc.roFr c q X,k.fr,?_,?_⟩
    .intro E b' y' L n Y;rcases t E with⟨R,rfl⟩|⟨d1,d2⟩
     .rw[hσ']at L;rw[G]at n;cases V:H1[R]? with
      |none=>rw[V]at n;simp at n
      |some u=>
       rw[V]at n;simp at n;subst n;rintro rfl;exact(sc.own R c u L V (by rw[QI]at Y;exact Y)).2.2 X
     .rw[B E d1 d2]at n;rw[XT (by omega)]at L;exact k.ne E b' y' L n Y
    .intro E b' y' L n Y;rcases t E with⟨R,rfl⟩|⟨d1,d2⟩
     .rw[hσ']at L;rw[G]at n;cases V:H1[R]? with
      |none=>rw[V]at n;simp at n
      |some u=>
       rw[V]at n;simp at n;subst n;exact((sc.hid R b' u c L V ((Qaj _ _ _ _ _).1 Y)).fr X).elim
     .rw[B E d1 d2]at n;rw[XT (by omega)]at L;exact k.one E b' y' L n (ad E b' y' c d1 d2 L n Y).1
 have au:VR aa (σ++τ) w' (Yx (rho π H.length) rr) v:=(Qgs hσ').2 hv;have hk:=k rr H1 hq;cases d with
 |none=>
  simp only[hd,Act.put];have r':Rel fr aa (σ++τ) (Yg H π (H1.map (QZ (rho π H.length)))) env N a w':=⟨ah,λs=>(r.env s).mono (W.ext σ τ),r.size,r.defers.keep W⟩;exact⟨_,rfl,Yn (λe a w q=>q.step W (QU (by omega))) _ _ _ (hk rd fr aa (σ++τ) _ w' r' (hrd.to W λ_ q=>q))⟩
 |some d=>
  simp only[hd,Act.put];have ar:=hN d rfl;have r':Rel fr aa (σ++τ) (Yg H π (H1.map (QZ (rho π H.length)))) (up env d (Yx (rho π H.length) rr)) N {a with tmps:=a.tmps.setIfInBounds d v} w':=
   ⟨ah,VR.up (fr:=fr) (λs=>(r.env s).mono (W.ext σ τ)) (by rw[r.size];exact ar) au,by simpa using r.size,r.defers.keep W⟩
  exact⟨_,rfl,Yn (λe a w q=>q.step W (QU (by omega))) _ _ _ (hk rd fr aa (σ++τ) _ w' r' (hrd.to W λ_ q=>q))⟩
end Go.Sw
namespace Go.Sw
section
variable {P:Program}{o:Oper}{env:Env}{H:Qc}
theorem QX{fr ro:Nat->Prop}{σ:Sig}{N:Nat}{a:Act}{w:World}(r:Rel fr ro σ H env N a w){x:Operand}{k:IntKind}{n:Int}(h:opA env x=.int k n):a.eval x=.int k n:=by
 have:=Qg r x;rw[h]at this;exact this
theorem QaT{fr ro:Nat->Prop}{σ:Sig}{N:Nat}{a:Act}{w:World}(r:Rel fr ro σ H env N a w){x:Operand}{b:Bool}(h:opA env x=.bool b):a.eval x=.bool b:=by
 have:=Qg r x;rw[h]at this;exact this
theorem QdD{fr ro:Nat->Prop}{σ:Sig}{N:Nat}{a:Act}{w:World}(r:Rel fr ro σ H env N a w){x:Operand}{s:List UInt8}(h:opA env x=.str s):a.eval x=.string ⟨s.toArray⟩:=by
 have:=Qg r x;rw[h]at this;exact this
theorem OpV.move{x:Operand}{v:A}(ho:o.op=.move x)(hx:opA env x=v):OpV P o env H v:=
 λfr ro σ N a w r=>⟨a.eval x,by simp[execOp,ho,go_sem],hx▸Qg r x⟩
theorem OpV.assign{x:Operand}{v:A}(ho:o.op=.assign x)(hx:opA env x=v):OpV P o env H v:=
 λfr ro σ N a w r=>⟨a.eval x,by simp[execOp,ho,go_sem],hx▸Qg r x⟩
theorem OpV.pick{c x y:Operand}{b:Bool}{v:A}(d:o.op=.pick c x y)(g:opA env c=.bool b)(f:(if b then opA env x else opA env y)=v):OpV P o env H v:=by
 intro i h σ N a w r;have e:=QaT r g;refine⟨if b then a.eval x else a.eval y,by generalize a.eval=ρ at*;simp[execOp,d,e,asBool,go_sem],?_⟩;subst f;cases b
 .exact Qg r y
 .exact Qg r x
theorem OpV.add{t u:TypeId}{x y:Operand}{k:IntKind}{m n:Int}(b:o.op=.binOp .add t x y u)(e:opA env x=.int k m)(d:opA env y=.int k n):OpV P o env H (.int k (k.wrap (m+n))):=by
 intro i h σ N a w r;have f:=QX r e;have g:=QX r d;refine⟨_,?_,rfl⟩;generalize a.eval=ρ at*;simp[execOp,b,f,g,Go.binOp,eqGuard,Op.intArith,go_sem]
theorem OpV.sub{t u:TypeId}{x y:Operand}{k:IntKind}{m n:Int}(b:o.op=.binOp .sub t x y u)(e:opA env x=.int k m)(d:opA env y=.int k n):OpV P o env H (.int k (k.wrap (m-n))):=by
 intro i h σ N a w r;have f:=QX r e;have g:=QX r d;refine⟨_,?_,rfl⟩;generalize a.eval=ρ at*;simp[execOp,b,f,g,Go.binOp,eqGuard,Op.intArith,go_sem]
theorem OpV.mul{t u:TypeId}{x y:Operand}{k:IntKind}{m n:Int}(b:o.op=.binOp .mul t x y u)(e:opA env x=.int k m)(d:opA env y=.int k n):OpV P o env H (.int k (k.wrap (m*n))):=by
 intro i h σ N a w r;have f:=QX r e;have g:=QX r d;refine⟨_,?_,rfl⟩;generalize a.eval=ρ at*;simp[execOp,b,f,g,Go.binOp,eqGuard,Op.intArith,go_sem]
theorem QbN{op:BinOp}{t u:TypeId}{x y:Operand}{k:IntKind}{m n:Int}{f:Int->Int->Bool}(j:o.op=.binOp op t x y u)(g:opA env x=.int k m)(i:opA env y=.int k n)
  (d:op=.eql/\f=(λa b=>a==b)\/op=.neq/\f=(λa b=>a != b)\/op=.lss/\f=(λa b=>decide (a<b))\/op=.leq/\f=(λa b=>decide (a<=b))\/
   op=.gtr/\f=(λa b=>decide (b<a))\/op=.geq/\f=(λa b=>decide (b<=a))):OpV P o env H (.bool (f m n)):=by
 intro p l σ N a w r;have h:=QX r g;have e:=QX r i;refine⟨_,?_,rfl⟩;generalize a.eval=ρ at*;rcases d with⟨rfl,rfl⟩|⟨rfl,rfl⟩|⟨rfl,rfl⟩|⟨rfl,rfl⟩|⟨rfl,rfl⟩|⟨rfl,rfl⟩<;>simp[execOp,j,h,e,Go.binOp,eqGuard,Op.intCmp,go_sem]
theorem OpV.eql{t u:TypeId}{x y:Operand}{k:IntKind}{m n:Int}(ho:o.op=.binOp .eql t x y u)(hx:opA env x=.int k m)(hy:opA env y=.int k n):OpV P o env H (.bool (m==n)):=
 QbN (f:=λa b=>a==b) ho hx hy (by simp)
theorem OpV.neq{t u:TypeId}{x y:Operand}{k:IntKind}{m n:Int}(ho:o.op=.binOp .neq t x y u)(hx:opA env x=.int k m)(hy:opA env y=.int k n):OpV P o env H (.bool (m != n)):=
 QbN (f:=λa b=>a != b) ho hx hy (by simp)
theorem OpV.lss{t u:TypeId}{x y:Operand}{k:IntKind}{m n:Int}(ho:o.op=.binOp .lss t x y u)(hx:opA env x=.int k m)(hy:opA env y=.int k n):OpV P o env H (.bool (decide (m<n))):=
 QbN (f:=λa b=>decide (a<b)) ho hx hy (by simp)
theorem OpV.leq{t u:TypeId}{x y:Operand}{k:IntKind}{m n:Int}(ho:o.op=.binOp .leq t x y u)(hx:opA env x=.int k m)(hy:opA env y=.int k n):OpV P o env H (.bool (decide (m<=n))):=
 QbN (f:=λa b=>decide (a<=b)) ho hx hy (by simp)
theorem OpV.gtr{t u:TypeId}{x y:Operand}{k:IntKind}{m n:Int}(ho:o.op=.binOp .gtr t x y u)(hx:opA env x=.int k m)(hy:opA env y=.int k n):OpV P o env H (.bool (decide (n<m))):=
 QbN (f:=λa b=>decide (b<a)) ho hx hy (by simp)
theorem OpV.geq{t u:TypeId}{x y:Operand}{k:IntKind}{m n:Int}(ho:o.op=.binOp .geq t x y u)(hx:opA env x=.int k m)(hy:opA env y=.int k n):OpV P o env H (.bool (decide (n<=m))):=
 QbN (f:=λa b=>decide (b<=a)) ho hx hy (by simp)
theorem OpV.rem{t u:TypeId}{x y:Operand}{k:IntKind}{m n:Int}(h:o.op=.binOp .rem t x y u)(e:opA env x=.int k m)(g:opA env y=.int k n)(b:n≠0):OpV P o env H (.int k (m.tmod n)):=by
 intro j i σ N a w r;have f:=QX r e;have d:=QX r g;exact⟨_,by generalize a.eval=ρ at*;simp[execOp,h,f,d,Go.binOp,eqGuard,Op.intDiv,b,go_sem],rfl⟩
theorem OpV.quo{t u:TypeId}{x y:Operand}{k:IntKind}{m n:Int}(h:o.op=.binOp .quo t x y u)(e:opA env x=.int k m)(g:opA env y=.int k n)(b:n≠0):OpV P o env H (.int k (k.wrap (m.tdiv n))):=by
 intro j i σ N a w r;have f:=QX r e;have d:=QX r g;exact⟨_,by generalize a.eval=ρ at*;simp[execOp,h,f,d,Go.binOp,eqGuard,Op.intDiv,b,go_sem],rfl⟩
theorem OpV.not{t:TypeId}{x:Operand}{b:Bool}(d:o.op=.unOp .not t x)(f:opA env x=.bool b):OpV P o env H (.bool !b):=by
 intro h g σ N a w r;have e:=QaT r f;exact⟨_,by generalize a.eval=ρ at*;simp[execOp,d,e,Op.unary,go_sem],rfl⟩
theorem OpV.neg{t:TypeId}{x:Operand}{k:IntKind}{n:Int}(b:o.op=.unOp .neg t x)(e:opA env x=.int k n):OpV P o env H (.int k (k.wrap (0-n))):=by
 intro g f σ N a w r;have d:=QX r e;exact⟨_,by generalize a.eval=ρ at*;simp[execOp,b,d,Op.unary,Op.intArith,go_sem],rfl⟩
theorem QeW{s t:TypeId}{x:Operand}{k g:IntKind}{n:Int}{b:TypeDesc}(h:o.op=.convert s t x)(i:∀w,(underlying s).run P w=.ok b w)(f:∀w,(underlying t).run P w=.ok (.int k) w)
  (d:opA env x=.int g n):OpV P o env H (.int k (k.wrap n)):=by
 intro l j σ N a w r;have e:=QX r d;refine⟨_,?_,rfl⟩;generalize a.eval=ρ at*;cases b<;>simp[execOp,h,e,convert,i,f,Conv.intToInt,go_sem]
theorem Qdb{op:BinOp}{t u:TypeId}{x y:Operand}{p q:List UInt8}{f:List UInt8->List UInt8->Bool}(i:o.op=.binOp op t x y u)(g:opA env x=.str p)(k:opA env y=.str q)
  (d:op=.eql/\f=(λa b=>a==b)\/op=.neq/\f=(λa b=>a != b)\/op=.lss/\f=Op.bytesLess\/op=.geq/\f=(λa b=> !Op.bytesLess a b)\/
   op=.leq/\f=(λa b=>Op.bytesLess a b||a==b)\/op=.gtr/\f=(λa b=> !(Op.bytesLess a b||a==b))):OpV P o env H (.bool (f p q)):=by
 intro n m σ N a w r;have h:=QdD r g;have e:=QdD r k;refine⟨_,?_,rfl⟩;generalize a.eval=ρ at*;have j:(⟨p.toArray⟩:ByteArray).toList=p:=by rw[Go.ByteArray.toList_eq]
 have l:(⟨q.toArray⟩:ByteArray).toList=q:=by rw[Go.ByteArray.toList_eq]
 rcases d with⟨rfl,rfl⟩|⟨rfl,rfl⟩|⟨rfl,rfl⟩|⟨rfl,rfl⟩|⟨rfl,rfl⟩|⟨rfl,rfl⟩<;>simp[execOp,i,h,e,Go.binOp,eqGuard,Op.stringOp,j,l,go_sem,bne]
theorem Qkw{t u:TypeId}{x y:Operand}{p q:List UInt8}(ho:o.op=.binOp .eql t x y u)(hx:opA env x=.str p)(hy:opA env y=.str q):OpV P o env H (.bool (p==q)):=
 Qdb (f:=λa b=>a==b) ho hx hy (by simp)
theorem Qkt{t u:TypeId}{x y:Operand}{p q:List UInt8}(ho:o.op=.binOp .neq t x y u)(hx:opA env x=.str p)(hy:opA env y=.str q):OpV P o env H (.bool (p != q)):=
 Qdb (f:=λa b=>a != b) ho hx hy (by simp)
theorem Qku{t u:TypeId}{x y:Operand}{p q:List UInt8}(ho:o.op=.binOp .lss t x y u)(hx:opA env x=.str p)(hy:opA env y=.str q):OpV P o env H (.bool (Op.bytesLess p q)):=
 Qdb ho hx hy (by simp)
theorem Qkv{t:TypeId}{x y:Operand}{s:List UInt8}{k:IntKind}{n:Int}{c:UInt8}(l:o.op=.index t x y)(j:∀w,(underlying t).run P w=.ok .string w)(h:opA env x=.str s)(m:opA env y=.int k n)
  (h0:0<=n)(f:s[n.toNat]?=some c):OpV P o env H (.int .u8 c.toNat):=by
 intro u q σ N a w r;have i:=QdD r h;have g:=QX r m;have d:(⟨s.toArray⟩:ByteArray)[n.toNat]?=some c:=by
  obtain⟨b,p⟩:=XS.1 f;have e:(⟨s.toArray⟩:ByteArray).size=s.length:=by simp[ByteArray.size]
  rw[getElem?_pos _ _ (by rw[e];exact b)];show some (s.toArray[n.toNat]'(by simpa using b))=some c;simp[p]
 refine⟨_,?_,rfl⟩;generalize a.eval=ρ at*;simp[execOp,l,i,g,Instr.index,asIntOf,j,h0,d,go_sem]
theorem Je{c:Call}{t:TypeId}{x:Operand}{s:List UInt8}(d:o.op=.call c)(g:c={callee:=.builtin .len,args:= #[x],argTypes:= #[t]})(b:∀w,(underlying t).run P w=.ok .string w)
  (f:opA env x=.str s):OpV P o env H (.int .i64 s.length):=by
 intro i h σ N a w r;have e:=QdD r f;refine⟨_,?_,rfl⟩;generalize a.eval=ρ at*;subst g;simp[execOp,d,e,resolve,invoke,Go.builtin,Builtin.len_,b,goInt,go_sem]<;>rfl
theorem QmA{c:Call}{t e:TypeId}{x:Operand}{k:Nat}{es:List (List A)}(i:o.op=.call c)(d:c={callee:=.builtin .len,args:= #[x],argTypes:= #[t]})(g:∀w,(underlying t).run P w=.ok (.slice e) w)
  (f:opA env x=.rsl k es):OpV P o env H (.int .i64 es.length):=by
 intro m l σ N a w r;have b:=Qg r x;rw[f]at b;obtain⟨j,h,b,_⟩:=b;refine⟨_,?_,rfl⟩;generalize a.eval=ρ at*;subst d;simp[execOp,i,b,resolve,invoke,Go.builtin,Builtin.len_,g,goInt,go_sem]
theorem QmB{c:Call}{t e:TypeId}{x:Operand}{i s n k:Nat}(l:o.op=.call c)(f:c={callee:=.builtin .len,args:= #[x],argTypes:= #[t]})(h:∀w,(underlying t).run P w=.ok (.slice e) w)
  (g:opA env x=.osl i s n k):OpV P o env H (.int .i64 n):=by
 intro y q σ N a w r;have d:=Qg r x;rw[g]at d;refine⟨_,?_,rfl⟩;generalize a.eval=ρ at*;subst f;rcases d with⟨rfl,d⟩|⟨b,p,j,u,m,_,d,_⟩<;>
 simp[execOp,l,d,resolve,invoke,Go.builtin,Builtin.len_,h,goInt,go_sem]
theorem QhN{c:Call}{t e:TypeId}{x:Operand}(f:o.op=.call c)(h:c={callee:=.builtin .len,args:= #[x],argTypes:= #[t]})(d:∀w,(underlying t).run P w=.ok (.slice e) w)
  (g:opA env x=.nils):OpV P o env H (.int .i64 0):=by
 intro j i σ N a w r;have b:=Qg r x;rw[g]at b;simp only[VR]at b;refine⟨_,?_,rfl⟩;generalize a.eval=ρ at*;subst h;simp[execOp,f,b,resolve,invoke,Go.builtin,Builtin.len_,d,goInt,go_sem]
structure Y8 (P:Program) (T f off n:Nat):Prop where
 h:∃fs fd,(∀w,(underlying T).run P w=.ok (.struct fs) w)/\fs[f]?=some fd/\fd.offset=off/\(∀w,(sizeOf fd.type).run P w=.ok n w)/\n≠0
theorem QaD(b off n:Nat):(⟨b,off,none⟩:Addr).add n=⟨b,off+n,none⟩:=by
 unfold Addr.add;split
 .rename_i h;simp[h]
 .rfl
theorem Qdf{T f off n b p:Nat}(e:Y8 P T f off n)(w:World):(Instr.fieldAt T (.pointer (some ⟨b,p,none⟩)) f).run P w=.ok (.pointer (some ⟨b,p+off,none⟩)) w:=by
 obtain⟨k,j,i,g,rfl,a,d⟩:=e.h;simp[Instr.fieldAt,i,g,Instr.sureAddr,fieldPlace,a,d,QaD,go_sem]
theorem Qcb{T f off n i p:Nat}{x:Operand}(g:Y8 P T f off n)(e:o.op=.fieldAddr T x f)(h:opA env x=.ptr i p):OpV P o env H (.ptr i (p+off)):=by
 intro l k σ N a w r;have d:=Qg r x;rw[h]at d;obtain⟨b,d,j⟩:=d;refine⟨.pointer (some ⟨b,p+off,none⟩),?_,b,d,rfl⟩;generalize a.eval=ρ at*;simp only[execOp,e,j,Vu,Qdf g];rfl
theorem CR.drop{ro:Nat->Prop}{σ:Sig}{w:World}{b:Nat}:∀(n:Nat) {cs:List A}{off:Nat},CR ro σ w b cs off->CR ro σ w b (cs.drop n) (off+n)
 |0,_,_,h=>h
 |n+1,[],_,h=>trivial
 |n+1,c::cs,off,h=>by
  have:=CR.drop n h.2;rw[List.drop_succ_cons];rw[show off+(n+1)=off+1+n from by omega];exact this
theorem CR.take{ro:Nat->Prop}{σ:Sig}{w:World}{b:Nat}:∀(n:Nat) {cs:List A}{off:Nat},CR ro σ w b cs off->CR ro σ w b (cs.take n) off
 |0,_,_,h=>trivial
 |n+1,[],_,h=>trivial
 |n+1,c::cs,off,h=>⟨h.1,CR.take n h.2⟩
theorem QeV{T f off n:Nat}{x:Operand}{cs cs':List A}(g:Y8 P T f off n)(j:o.op=.fieldAddr T x f)(i:opA env x=.rp cs)(e:cs.drop off=cs'):OpV P o env H (.rp cs'):=by
 intro m l σ N a w r;have d:=Qg r x;rw[i]at d;obtain⟨b,p,d,h,k⟩:=d;refine⟨.pointer (some ⟨b,p+off,none⟩),?_,b,p+off,rfl,h,e▸k.drop off⟩;generalize a.eval=ρ at*;simp only[execOp,j,d,Vu,Qdf g];rfl
theorem RR.get{ro:Nat->Prop}{σ:Sig}{w:World}{b k:Nat}:∀(n:Nat) {es:List (List A)}{off:Nat}{c:List A},RR ro σ w b k es off->es[n]?=some c->c.length=k/\CR ro σ w b c (off+n*k)
 |n,[],_,_,h,hc=>by simp at hc
 |0,e::es,off,c,h,hc=>by
  simp at hc;subst hc;exact⟨h.1,by simpa using h.2.1⟩
 |n+1,e::es,off,c,h,hc=>by
  have:=RR.get n h.2.2 (by simpa using hc);refine⟨this.1,?_⟩;rw[show off+(n+1)*k=off+k+n*k from by rw[Xn];omega];exact this.2
theorem QnM{t e:TypeId}{x y:Operand}{k:Nat}{es:List (List A)}{l:IntKind}{n:Int}{c:List A}(p:o.op=.indexAddr t x y)(z:∀w,(underlying t).run P w=.ok (.slice e) w)
  (E:∀w,(sizeOf e).run P w=.ok k w)(u:opA env x=.rsl k es)(B:opA env y=.int l n)(h0:0<=n)(h:es[n.toNat]?=some c):OpV P o env H (.rp c):=by
 intro M L σ N a w r;have f:=Qg r x;rw[u]at f;have j:=QX r B;obtain⟨J,m,f,G,q⟩:=f;have g:n.toNat<es.length:=(XS.1 h).1;rcases q with rfl|⟨b,d,rfl,i,F⟩
 .simp at g
 have s:n<es.length:=by omega
 refine⟨.pointer (some ⟨b,d+n.toNat*k,none⟩),?_,b,d+n.toNat*k,rfl,i,(F.get n.toNat h).2⟩;generalize a.eval=ρ at*;simp[execOp,p,f,j,Instr.indexAt,asIntOf,z,E,h0,s,QaD,go_sem]
theorem QnN{t e:TypeId}{x y:Operand}{i s m k:Nat}{q:IntKind}{n:Int}(B:o.op=.indexAddr t x y)(l:∀w,(underlying t).run P w=.ok (.slice e) w)
  (E:∀w,(sizeOf e).run P w=.ok k w)(j:opA env x=.osl i s m k)(z:opA env y=.int q n)(h0:0<=n)(g:n<m):OpV P o env H (.ptr i (s*k+n.toNat*k)):=by
 intro O L σ N a w r;have d:=Qg r x;rw[j]at d;have h:=QX r z;rcases d with⟨rfl,_⟩|⟨b,p,u,M,J,F,d,f,G,_⟩
 .omega
 obtain rfl:=f (by omega);refine⟨.pointer (some ⟨b,s*k+n.toNat*k,none⟩),?_,b,F,rfl⟩;generalize a.eval=ρ at*;simp[execOp,B,d,h,Instr.indexAt,asIntOf,l,E,h0,g,QaD,go_sem]
def Pts(H:Qc)(p:A)(cs:List A):Prop:=
 ∀fr ro σ w v,Sim fr ro σ H w->VR ro σ w p v->∃b off,v=.pointer (some ⟨b,off,none⟩)/\CR ro σ w b cs off
theorem VR.lift{ro:Nat->Prop}{σ:Sig}{w:World}{a:A}{v:Value}(h:VR ro [] w a v):VR ro σ w a v:=
 h.mono ⟨λ_ q=>q,λ_ _=>rfl,λ_ _ q=>q,λi b q=>by simp at q⟩
theorem CR.lift{ro:Nat->Prop}{σ:Sig}{w:World}{b:Nat}:∀{cs:List A}{off:Nat},CR ro [] w b cs off->CR ro σ w b cs off
 |[],_,_=>trivial
 |c::cs,off,⟨⟨v,h1,hp,h2⟩,h3⟩=>⟨⟨v,h1,hp,h2.lift⟩,CR.lift h3⟩
theorem LR.lift{ro:Nat->Prop}{σ:Sig}{w:World}:∀{cs:List A}{l:List Value},LR ro [] w cs l->LR ro σ w cs l
 |[],_,h=>h
 |c::cs,l,⟨v,l',h1,h2,h3⟩=>⟨v,l',h1,h2.lift,LR.lift h3⟩
theorem Pts.rp{cs:List A}:Pts H (.rp cs) cs:=λfr ro σ w v s ⟨b,off,h1,h2,h3⟩=>⟨b,off,h1,h3.lift⟩
theorem LR.cells{ro:Nat->Prop}{σ:Sig}{w:World}{b t:Nat}{fz:Nat×Nat}{pre l:List Value}(d:w.heap[b]?=some (.cells (pre++l).toArray t fz))(a:∀v∈l,QA v):
  ∀{cs:List A},LR ro σ w cs l->CR ro σ w b cs pre.length:=by
 induction l generalizing pre with
 |nil=>
  intro cs h;cases cs with
  |nil=>trivial
  |cons c cs=>obtain⟨v,i,h,_⟩:=h;cases h
 |cons v l j=>
  intro cs h;cases cs with
  |nil=>trivial
  |cons c cs=>
   obtain⟨m,i,g,e,k⟩:=h;cases g;refine⟨⟨v,by simp[World.cell?,d],a v (by simp),e⟩,?_⟩;have:=j (pre:=pre++[v]) (by simpa using d) (λx f=>a x (by simp[f])) k;simpa using this
theorem Pts.cells{i off t:Nat}{cs cs':List A}(d:H[i]?=some (.cells t cs))(a:cs.drop off=cs'):Pts H (.ptr i off) cs':=by
 intro n m σ w v s h;obtain⟨b,f,e⟩:=h;obtain⟨l,g,k,j⟩:=s.blk i _ _ f d;have:=LR.cells (pre:=[]) (by simpa using g) j k;refine⟨b,off,e,a▸ ?_⟩;have:=this.drop off;simpa using this
theorem LR.get{ro:Nat->Prop}{σ:Sig}{w:World}:∀{az:List A}{l:List Value} (i:Nat) {a:A},LR ro σ w az l->az[i]?=some a->∃v,l[i]?=some v/\VR ro σ w a v
 |[],l,i,a,h,ha=>by simp at ha
 |x::az,l,0,a,⟨v,l',h1,h2,h3⟩,ha=>by
  simp at ha;subst ha h1;exact⟨v,rfl,h2⟩
 |x::az,l,i+1,a,⟨v,l',h1,h2,h3⟩,ha=>by
  subst h1;obtain⟨v',q1,q2⟩:=LR.get i h3 (by simpa using ha);exact⟨v',by simpa using q1,q2⟩
theorem LR.drop{ro:Nat->Prop}{σ:Sig}{w:World}:∀(n:Nat) {az:List A}{l:List Value},LR ro σ w az l->LR ro σ w (az.drop n) (l.drop n)
 |0,az,l,h=>h
 |n+1,[],l,h=>by cases(show l=[]from h);rfl
 |n+1,a::az,l,⟨v,l',h1,h2,h3⟩=>by subst h1;exact LR.drop n h3
theorem LR.take{ro:Nat->Prop}{σ:Sig}{w:World}:∀(n:Nat) {az:List A}{l:List Value},LR ro σ w az l->LR ro σ w (az.take n) (l.take n)
 |0,az,l,h=>rfl
 |n+1,[],l,h=>by cases(show l=[]from h);rfl
 |n+1,a::az,l,⟨v,l',h1,h2,h3⟩=>by subst h1;exact⟨v,l'.take n,rfl,h2,LR.take n h3⟩
theorem LR.append{ro:Nat->Prop}{σ:Sig}{w:World}:∀{az:List A}{l:List Value}{bs:List A}{m:List Value},LR ro σ w az l->LR ro σ w bs m->LR ro σ w (az++bs) (l++m)
 |[],l,bs,m,h,k=>by cases(show l=[]from h);exact k
 |a::az,l,bs,m,⟨v,l',h1,h2,h3⟩,k=>by subst h1;exact⟨v,l'++m,rfl,h2,LR.append h3 k⟩
theorem QjA{ro:Nat->Prop}{σ:Sig}{w:World}{b t:Nat}{fz:Nat×Nat}:∀{cs:List A}{pre l post:List Value},w.heap[b]?=some (.cells (pre++(l++post)).toArray t fz)->(∀v∈l,QA v)->
  LR ro σ w cs l->CR ro σ w b cs pre.length
 |[],_,_,_,_,_,_=>trivial
 |c::cs,pre,l,post,hb,hpl,⟨v,l',h1,h2,h3⟩=>by
  subst h1;refine⟨⟨v,by simp[World.cell?,hb],hpl v (by simp),h2⟩,?_⟩;have:=QjA (pre:=pre++[v]) (l:=l') (post:=post) (by simpa using hb) (λx hx=>hpl x (by simp[hx])) h3;simpa using this
theorem Jm{ro:Nat->Prop}{σ:Sig}{w:World}{b t k:Nat}{fz:Nat×Nat}:∀{es:List (List A)}{pre l:List Value},w.heap[b]?=some (.cells (pre++l).toArray t fz)->
  RL ro σ w k es l->RR ro σ w b k es pre.length
 |[],_,_,_,_=>trivial
 |c::es,pre,l,hb,⟨l1,l2,h1,h2,h3,h4⟩=>by
  subst h1;refine⟨h2,QjA hb h3.2 h3.1,?_⟩;have hl:=h3.1.length;have:=Jm (pre:=pre++l1) (l:=l2) (by simpa using hb) h4;simpa[hl,h2]using this
theorem Pts.row{i off t k e f:Nat}{es:List (List A)}{c cs':List A}(d:H[i]?=some (.row t k es))(p:off=e*k+f)(he:es[e]?=some c)(a:c.drop f=cs'):Pts H (.ptr i off) cs':=by
 intro r q σ w v s h;obtain⟨b,j,g⟩:=h;obtain⟨l,m,n⟩:=s.blk i _ _ j d;have:=((Jm (pre:=[]) (by simpa using m) n).get e he).2.drop f;refine⟨b,off,g,?_⟩;subst p a;simpa using this.lift
theorem Qkj{w w':World}(h:w'.heap=w.heap)(a:Addr):w'.cell? a=w.cell? a:=by unfold World.cell?;rw[h]
theorem Yw{ro:Nat->Prop}{σ:Sig}{w:World}{b off:Nat}:∀{cs:List A} (i:Nat),CR ro σ w b cs (off+i)->
  ∃l,LR ro σ w cs l/\(∀v∈l,QA v)/\ ∀(w':World) (a:Array Value),w'.heap=w.heap->(loadCellsFrom ⟨b,off,none⟩ i cs.length a).run P w'=.ok (a++l.toArray) w'
 |[],i,h=>⟨[],rfl,by simp,λw' a _=>by simp[loadCellsFrom,go_sem]⟩
 |c::cs,i,⟨⟨v,h1,hp,h2⟩,h3⟩=>by
  obtain⟨l,q1,qp,q2⟩:=Yw (cs:=cs) (i+1) (by rw[<- Nat.add_assoc];exact h3);refine⟨v::l,⟨v,l,rfl,h2,q1⟩,by simpa using⟨hp,qp⟩,λw' a hw=>?_⟩;have h1':w'.cell? ⟨b,off+i,none⟩=some v:=by rw[Qkj hw];exact h1
  have:=q2 w' (a.push v) hw;simp[loadCellsFrom,Go.load,Sem.run,QaD,h1',this,go_sem]
theorem Qy{t n:Nat}{x:Operand}{p:A}{cs vs:List A}(q:o.op=.load t x)(g:∀w,(isAgg t).run P w=.ok true w)(u:∀w,(sizeOf t).run P w=.ok n w)(j:opA env x=p)(m:Pts H p cs)
  (f:cs.take n=vs)(h:vs.length=n):OpV P o env H (.agg vs):=by
 intro z s σ N a w r;have e:=Qg r x;rw[j]at e;obtain⟨b,off,i,y⟩:=m z s σ w _ r.sim e;subst f;obtain⟨l,k,_,d⟩:=Yw (P:=P) (cs:=cs.take n) (off:=off) 0 (by simpa using y.take n);have d:=d w #[] rfl;rw[h]at d;refine⟨.agg l.toArray,?_,l,rfl,k⟩;generalize a.eval=ρ at*;simp[execOp,q,i,Instr.loadAt,Instr.sureAddr,loadVar,g,u,loadCells,d,go_sem]
theorem OpV.load{t:Nat}{x:Operand}{p v:A}{cs:List A}(k:o.op=.load t x)(g:∀w,(isAgg t).run P w=.ok false w)(i:opA env x=p)(j:Pts H p (v::cs)):OpV P o env H v:=by
 intro n f σ N a w r;have d:=Qg r x;rw[i]at d;obtain⟨b,l,h,⟨y,m,_,e⟩,_⟩:=j n f σ w _ r.sim d;refine⟨y,?_,e⟩;generalize a.eval=ρ at*;simp[execOp,k,h,Instr.loadAt,Instr.sureAddr,loadVar,g,Go.load,Sem.run,m,go_sem]
theorem OpV.extract{x:Operand}{vs:List A}{i:Nat}{v:A}(h:o.op=.extract x i)(g:opA env x=.tup vs)(e:vs[i]?=some v):OpV P o env H v:=by
 intro m k σ N a w r;have b:=Qg r x;rw[g]at b;obtain⟨l,b,f⟩:=b;obtain⟨y,j,d⟩:=f.get i e;refine⟨y,?_,d⟩;generalize a.eval=ρ at*;simp[execOp,h,b,Instr.extract,j,go_sem]
theorem Qa0{fr ro:Nat->Prop}{σ:Sig}{N:Nat}{a:Act}{w:World}(r:Rel fr ro σ H env N a w):∀(l:List Operand),LR ro σ w (l.map (opA env)) (l.map a.eval)
 |[]=>rfl
 |x::l=>⟨_,_,rfl,Qg r x,Qa0 r l⟩
theorem OpV.makeFunc{f:Fn}{first cap:List Operand}{vf vc:List A}(b:o.op=.makeFunc f first.toArray cap.toArray)(e:first.map (opA env)=vf)(d:cap.map (opA env)=vc):OpV P o env H (.fn f vf vc):=by
 intro h g σ N a w r;refine⟨.func f (first.map a.eval).toArray (cap.map a.eval).toArray,?_,_,_,rfl,e▸Qa0 r first,d▸Qa0 r cap⟩;generalize a.eval=ρ at*;simp[execOp,b,Instr.makeFunc,go_sem]
theorem Qan{t:TypeId}{x:Operand}{v:A}{d:TypeDesc}(f:o.op=.makeInterface t x)(e:∀w,(underlying t).run P w=.ok d w)(g:∀m,d≠ .interface m)(h:opA env x=v):OpV P o env H (.iface t v):=by
 intro j i σ N a w r;have b:=Qg r x;rw[h]at b;refine⟨.iface t (a.eval x),?_,_,rfl,b⟩;generalize a.eval=ρ at*;cases d<;>first|(simp[execOp,f,Instr.makeInterface,e,go_sem];done)|exact(g _ rfl).elim
end
end Go.Sw
namespace Go.Sw
mutual
def Ye:A->Bool
 |.ptr _ _=>false
 |.osl _ _ _ _=>false
 |.map _=>false
 |.agg cs=>Yj cs
 |.fn _ a c=>Yj a&&Yj c
 |.iface _ v=>Ye v
 |.tup vs=>Yj vs
 |_=>true
def Yj:List A->Bool
 |[]=>true
 |a::r=>Ye a&&Yj r
end
mutual
theorem VR.data{ro:Nat->Prop}{σ σ':Sig}{w:World}:∀{a:A}{v:Value},Ye a=true->VR ro σ w a v->VR ro σ' w a v
 |.any,_,_,_=>trivial
 |.bool b,v,_,q=>q
 |.int k n,v,_,q=>q
 |.str s,v,_,q=>q
 |.nilp,v,_,q=>q
 |.ptr i off,v,d,q=>by simp[Ye]at d
 |.rp cs,v,_,q=>q
 |.nils,v,_,q=>q
 |.rsl k es,v,_,q=>q
 |.osl i o n k,v,d,q=>by simp[Ye]at d
 |.agg cs,v,d,q=>by
  simp only[VR,Ye]at q d⊢;obtain⟨l,h1,h2⟩:=q;exact⟨l,h1,LR.data d h2⟩
 |.fn f a c,v,d,q=>by
  simp only[VR,Ye,X4]at q d⊢;obtain⟨l,l',h1,h2,h3⟩:=q;exact⟨l,l',h1,LR.data d.1 h2,LR.data d.2 h3⟩
 |.nilf,v,_,q=>q
 |.iface t a,v,d,q=>by
  simp only[VR,Ye]at q d⊢;obtain⟨x,h1,h2⟩:=q;exact⟨x,h1,VR.data d h2⟩
 |.nilif,v,_,q=>q
 |.map i,v,d,q=>by simp[Ye]at d
 |.nilm,v,_,q=>q
 |.tup vs,v,d,q=>by
  simp only[VR,Ye]at q d⊢;obtain⟨l,h1,h2⟩:=q;exact⟨l,h1,LR.data d h2⟩
theorem LR.data{ro:Nat->Prop}{σ σ':Sig}{w:World}:∀{az:List A}{l:List Value},Yj az=true->LR ro σ w az l->LR ro σ' w az l
 |[],_,_,q=>q
 |a::r,l,d,q=>by
  simp only[LR,Yj,X4]at q d⊢;obtain⟨v,l',h1,h2,h3⟩:=q;exact⟨v,l',h1,VR.data d.1 h2,LR.data d.2 h3⟩
end
def Ys:A->Bool
 |.any|.agg _|.tup _=>false
 |_=>true
def Q8:A->List A
 |.agg cs=>cs
 |a=>[a]
def Yk:A->Bool
 |.any=>false
 |_=>true
theorem VR.plain{ro:Nat->Prop}{σ:Sig}{w:World}{a:A}{v:Value}(b:Ys a=true)(h:VR ro σ w a v):QA v:=by
 cases a<;>first|(simp[Ys]at b;done)|skip
 case rsl k es=>obtain⟨d,c,rfl,_⟩:=h;trivial
 case osl=>rcases h with⟨_,rfl⟩|⟨_,_,_,_,_,_,rfl,_⟩<;>trivial
 case fn=>obtain⟨_,_,rfl,_⟩:=h;trivial
 case iface=>obtain⟨_,rfl,_⟩:=h;trivial
 case ptr=>obtain⟨_,_,rfl⟩:=h;trivial
 case rp=>obtain⟨_,_,rfl,_⟩:=h;trivial
 case map=>obtain⟨_,_,rfl⟩:=h;trivial
 all_goals (simp only[VR]at h;subst h;trivial)
theorem VR.cells{ro:Nat->Prop}{σ:Sig}{w:World}{a:A}{v:Value}(b:Yk a=true)(h:VR ro σ w a v):∃l:List Value,v.cells=l.toArray/\LR ro σ w (Q8 a) l:=by
 cases a
 case any=>simp[Yk]at b
 case agg cs=>obtain⟨l,rfl,h⟩:=h;exact⟨l,rfl,h⟩
 case tup cs=>obtain⟨l,rfl,h⟩:=h;exact⟨[.tuple l.toArray],rfl,_,_,rfl,⟨l,rfl,h⟩,rfl⟩
 all_goals
  have d:=h.plain rfl;refine⟨[v],?_,v,[],rfl,h,rfl⟩;cases v<;>first|rfl|exact d.elim
theorem LR.plain{ro:Nat->Prop}{σ:Sig}{w:World}:∀{az:List A}{l:List Value},az.all Ys=true->LR ro σ w az l->∀v∈l,QA v
 |[],l,_,h=>by cases(show l=[]from h);simp
 |a::az,l,hp,⟨v,l',h1,h2,h3⟩=>by
  subst h1;simp only[List.all_cons,X4]at hp;intro x hx;rcases Ve.1 hx with rfl|hx
  .exact h2.plain hp.1
  .exact LR.plain hp.2 h3 x hx
theorem Yp(w:World)(obj:Obj)(b:Nat)(a:b<w.heap.size):(w.alloc obj).heap[b]?=w.heap[b]? :=by
 show(w.heap.push obj)[b]?=_;rw[Array.getElem?_push,if_neg (by omega)]
theorem YH(w:World)(obj:Obj):(w.alloc obj).heap[w.heap.size]?=some obj:=by
 show(w.heap.push obj)[w.heap.size]?=_;simp
theorem Yo(w:World)(obj:Obj):(w.alloc obj).heap.size=w.heap.size+1:=by
 show(w.heap.push obj).size=_;simp
theorem Qcg{w:World}{b:Nat}{x:TypeId×Nat}(h:w.shape? b=some x):b<w.heap.size:=by
 unfold World.shape? at h;rcases Nat.lt_or_ge b w.heap.size with q|q
 .exact q
 .rw[Array.getElem?_eq_none q]at h;simp at h
theorem Qf.alloc{fr ro:Nat->Prop}{w:World}(obj:Obj)(hro:∀b,ro b->b<w.heap.size)(hfr:∀b,fr b->b<w.heap.size):Qf fr ro w ro (w.alloc obj):=
 ⟨λ_ h=>h,λb h=>Yp w obj b (hro b h),λb h=>Yp w obj b (hfr b h),by rw[Yo];omega,
  λb x h=>by unfold World.shape? at h⊢;rw[Yp w obj b (Qcg h)];exact h,rfl,rfl,rfl,X0 _⟩
section
variable {P:Program}{o:Oper}{env:Env}{H:Qc}{fr ro:Nat->Prop}{σ:Sig}{w:World}
theorem Sim.alloc(s:Sim fr ro σ H w){obj:Obj}{x:Blk}(G:BR ro (σ++[some w.heap.size]) (w.alloc obj) x (some w.heap.size))
  (u:∀c,Hid (w.alloc obj) x w.heap.size c->False:=by exact λ_ h=>h.elim):
  Sim fr ro (σ++[some w.heap.size]) (H++[x]) (w.alloc obj):=by
 have ev:Qf fr ro w ro (w.alloc obj):=Qf.alloc obj s.roLt s.frLt;have m:=s.len;have e:∀(i:Nat) (y:Option Nat),(σ++[some w.heap.size])[i]?=some y->(i<σ.length/\σ[i]?=some y)\/(i=σ.length/\y=some w.heap.size):=by
  intro i y h;rcases Nat.lt_trichotomy i σ.length with q|q|q
  .rw[XT q]at h;exact .inl ⟨q,h⟩
  .subst q;simp at h;exact .inr ⟨rfl,h.symm⟩
  .rw[XV (by simp;omega)]at h;simp at h
 have k:∀i:Nat,i<σ.length->(H++[x])[i]?=H[i]? :=λi L=>XT (by omega);have E:(H++[x])[σ.length]?=some x:=by rw[m];simp
 refine⟨by simp[m],s.roOk.to (λ_ q=>q) ev.keepRo (λb h=>?_),λb h=>?_,s.roFr,?_,?_,?_,?_⟩
 .rw[Yo];have:=s.roLt b h;omega
 .rw[Yo];have:=s.frLt b h;omega
 .intro i b y g f n;rw[Yo];rcases e i _ g with⟨q,g⟩|⟨rfl,l⟩
  .rw[k i q]at f;obtain⟨a,b,c⟩:=s.own i b y g f n;exact⟨by omega,b,c⟩
  .cases l;exact⟨by omega,λq=>by have:=s.roLt _ q;omega,λq=>by have:=s.frLt _ q;omega⟩
 .intro i j b y z g f n t B F;rcases e i _ g with⟨q,g⟩|⟨rfl,l⟩<;>rcases e j _ f with⟨q',f⟩|⟨rfl,e2⟩
  .rw[k i q]at n;rw[k j q']at t;exact s.inj i j b y z g f n t B F
  .cases e2;rw[k i q]at n;have:=(s.own i _ y g n B).1;omega
  .cases l;rw[k j q']at t;have:=(s.own j _ z f t F).1;omega
  .rfl
 .intro i y z g f;rcases e i _ g with⟨q,g⟩|⟨rfl,l⟩
  .rw[k i q]at f;refine(s.blk i y z g f).keep (ev.ext σ _) ?_ ?_
   .rintro b rfl m;exact Yp w obj b (s.own i b z g f m).1
   .rintro b c rfl m;exact Yp w obj c (s.hid i b z c g f m).lt
  .rw[E]at f;cases f;subst l;exact G
 .refine s.hidTo (· = ·) Q2 (by rw[Yo];omega) (λ_ _ _ _ _ _ _ q=>q) (λ_ _ _ _ _ _ _ q=>q) λj d y r p J=>?_;rcases e j _ r with⟨q,r⟩|⟨rfl,l⟩
  .rw[k j q]at p;exact .inl ⟨j,y,rfl,r,p,id,λc q=>s.hidKeep r p (λz=>Yp w obj d (s.own j d y r p z).1) ev.keepRo q⟩
  .rw[E]at p;cases p;cases l;exact .inr ⟨X0 _,u⟩
theorem Sim.allocCells(s:Sim fr ro σ H w){t:Nat}{cs:List A}{l:List Value}(h:LR ro σ w cs l)(hp:∀v∈l,QA v):
  Sim fr ro (σ++[some w.heap.size]) (H++[.cells t cs]) (w.alloc (.cells l.toArray t)):=
 s.alloc ⟨l,YH _ _,h.mono ((Qf.alloc (fr:=fr) _ s.roLt s.frLt).ext σ _),hp⟩
theorem QhT{ro:Nat->Prop}{σ:Sig}{w:World}:∀{az bs:List A}{l:List Value},LR ro σ w (az++bs) l->∃l1 l2,l=l1++l2/\LR ro σ w az l1/\LR ro σ w bs l2
 |[],bs,l,h=>⟨[],l,rfl,rfl,h⟩
 |a::az,bs,l,⟨v,l',h1,h2,h3⟩=>by
  obtain⟨l1,l2,e,q1,q2⟩:=QhT h3;subst h1 e;exact⟨v::l1,l2,rfl,⟨v,l1,rfl,h2,q1⟩,q2⟩
def allK(k:Nat):List (List A)->Prop
 |[]=>True
 |c::es=>c.length=k/\allK k es
theorem QaF{k:Nat}:∀{es:List (List A)}{l rest:List Value},allK k es->LR ro σ w es.flatten l->(∀v∈l,QA v)->RL ro σ w k es (l++rest)
 |[],_,_,_,_,_=>trivial
 |c::es,l,rest,⟨h1,h2⟩,h,hp=>by
  rw[Vt]at h;obtain⟨l1,l2,rfl,q1,q2⟩:=QhT h;exact⟨l1,l2++rest,by simp,h1,⟨q1,λv hv=>hp v (by simp[hv])⟩,QaF h2 q2 (λv hv=>hp v (by simp[hv]))⟩
theorem Sim.allocRow(s:Sim fr ro σ H w){t k:Nat}{es:List (List A)}{l rest:List Value}(hk:allK k es)(h:LR ro [] w es.flatten l)(hp:∀v∈l,QA v):
  Sim fr ro (σ++[some w.heap.size]) (H++[.row t k es]) (w.alloc (.cells (l++rest).toArray t)):=
 s.alloc ⟨l++rest,YH _ _,(QaF hk h hp).mono ((Qf.alloc (fr:=fr) _ s.roLt s.frLt).ext0 [])⟩
theorem OpH.box{t:Nat}{x:Operand}{v:A}{cs:List A}(k:o.op=.box t x)(j:opA env x=v)(h:Yk v=true)(b:Q8 v=cs)(d:cs.all Ys=true):
  OpH P o env H (.ptr H.length 0) (H++[.cells t cs]):=by
 intro n m σ N a w r;have f:=Qg r x;rw[j]at f;obtain⟨l,i,g⟩:=f.cells h;subst b;refine⟨.pointer (some ⟨w.heap.size,0,none⟩),w.alloc (.cells l.toArray t),m,[some w.heap.size],?_,⟨w.heap.size,?_,rfl⟩,r.sim.allocCells g (g.plain d),Qf.alloc _ r.sim.roLt r.sim.frLt⟩
 .generalize a.eval=ρ at*;have e:(newVar t (ρ x)).run P w=.ok ⟨w.heap.size,0,none⟩ (w.alloc (.cells l.toArray t)):=by
   unfold newVar;rw[i];rfl
  simp only[execOp,k,Instr.box,Vu,e];rfl
 .rw[<- r.sim.len];simp
theorem Sim.set(s:Sim fr ro σ H w){i b:Nat}{x x':Blk}{obj:Obj}(hσ:σ[i]?=some (some b))(m:H[i]?=some x)(t:x.live=true)
  (P:∀y,w.shape? b=some y->({w with heap:=w.heap.setIfInBounds b obj}:World).shape? b=some y)
  (Q:Ext ro σ w ro σ {w with heap:=w.heap.setIfInBounds b obj}->({w with heap:=w.heap.setIfInBounds b obj}:World).heap[b]?=some obj->BR ro σ {w with heap:=w.heap.setIfInBounds b obj} x' (some b))
  (O:∀c,Hid {w with heap:=w.heap.setIfInBounds b obj} x' b c->Hid w x b c:=by exact λ_ h=>h.elim):
  Sim fr ro σ (H.set i x') {w with heap:=w.heap.setIfInBounds b obj}/\Qf fr ro w ro {w with heap:=w.heap.setIfInBounds b obj}:=by
 obtain⟨T,n,p⟩:=s.own i b x hσ m t;have k:∀c,c≠b->({w with heap:=w.heap.setIfInBounds b obj}:World).heap[c]?=w.heap[c]? :=by
  intro c X;show(w.heap.setIfInBounds b obj)[c]?=_;rw[Vm,if_neg (λq=>X q.symm)]
 have N:({w with heap:=w.heap.setIfInBounds b obj}:World).heap[b]?=some obj:=by
  show(w.heap.setIfInBounds b obj)[b]?=_;rw[Vm,if_pos rfl,if_pos T]
 have l:({w with heap:=w.heap.setIfInBounds b obj}:World).heap.size=w.heap.size:=by simp
 have ev:Qf fr ro w ro {w with heap:=w.heap.setIfInBounds b obj}:=
  ⟨λ_ h=>h,λc h=>k c (λq=>n (q▸h)),λc h=>k c (λq=>p (q▸h)),by rw[l];exact X0 _,by
   intro c y h;by_cases q:c=b
   .subst q;exact P y h
   .unfold World.shape? at h⊢;rw[k c q];exact h,rfl,rfl,rfl,X0 _⟩
 have W:i<H.length:=(XS.1 m).1;have E:(H.set i x')[i]?=some x':=Xa W;have g:∀j,j≠i->(H.set i x')[j]?=H[j]? :=λj hj=>XW (λq=>hj q.symm);have J:=Q (ev.ext0 σ) N;refine⟨⟨by rw[Vb];exact s.len,s.roOk.to (λ_ q=>q) ev.keepRo (λc h=>by rw[l];exact s.roLt c h),λc h=>by rw[l];exact s.frLt c h,s.roFr,?_,?_,?_,?_⟩,ev⟩
 .intro j c y f a F;rw[l];by_cases q:j=i
  .subst q;rw[hσ]at f;cases f;exact⟨T,n,p⟩
  .rw[g j q]at a;exact s.own j c y f a F
 .intro j r c y z f a F M V R;by_cases q:j=i
  .subst q;rw[hσ]at f;cases f;by_cases G:r=j
   .exact G.symm
   .rw[g r G]at M;exact s.inj j r _ x z hσ a m M t R
  .rw[g j q]at F;by_cases G:r=i
   .subst G;rw[hσ]at a;cases a;exact s.inj j r _ y x f hσ F m V t
   .rw[g r G]at M;exact s.inj j r c y z f a F M V R
 .intro j y z f a;by_cases q:j=i
  .subst q;rw[E]at a;cases a;rw[hσ]at f;cases f;exact J
  .rw[g j q]at a;refine(s.blk j y z f a).keep (ev.ext0 σ) ?_ ?_
   .rintro c rfl u;exact k c (λe=>q (s.inj j i b z x (e▸f) hσ a m u t))
   .rintro c d rfl Y;exact k d ((s.hid j c z d f a Y).ne i b x hσ m t)
 .refine s.hidTo (· = ·) Q2 (by rw[l];exact X0 _) (λ_ _ _ _ _ _ _ q=>q) (λ_ _ _ _ _ _ _ q=>q) λj d y L B g3=>.inl ?_;by_cases q:j=i
  .subst q;rw[E]at B;cases B;rw[hσ]at L;cases L;exact⟨j,x,rfl,hσ,m,λ_=>t,O⟩
  .rw[g j q]at B;exact⟨j,y,rfl,L,B,id,λc z=>s.hidKeep L B (λu=>k d (λe=>q (s.inj j i b y x (e▸L) hσ B m u t))) ev.keepRo z⟩
def splice{α:Type}(l:List α)(o:Nat)(vs:List α):List α:=l.take o++vs++l.drop (o+vs.length)
theorem Yl{α:Type}{l:List α}{o:Nat}{vs:List α}(h:o+vs.length<=l.length):(splice l o vs).length=l.length:=by
 simp[splice];omega
theorem QbK{h:Array Obj}{b:Nat}{f:Obj->Obj}{x:Obj}(d:h[b]?=some x):h.modify b f=h.setIfInBounds b (f x):=by
 apply Array.ext_getElem?;intro i;rw[Array.getElem?_modify,Vm];by_cases e:b=i
 .subst e;obtain⟨a,g⟩:=Vk.1 d;simp[g,a]
 .simp[e]
theorem YF{b t:Nat}:∀{vs l:List Value}{w:World} (off i:Nat),w.heap[b]?=some (.cells l.toArray t (0,0))->off+i+vs.length<=l.length->(∀v∈vs,QA v)->
  (storeCells ⟨b,off,none⟩ vs i).run P w=.ok () {w with heap:=w.heap.setIfInBounds b (.cells (splice l (off+i) vs).toArray t (0,0))}
 |[],l,w,off,i,hb,hl,hp=>by
  have e:w.heap.setIfInBounds b (.cells (splice l (off+i) []).toArray t (0,0))=w.heap:=by
   apply Array.ext_getElem?;intro j;rw[Vm];by_cases q:b=j
   .subst q;obtain⟨a,s⟩:=Vk.1 hb;simp[a,splice,s]
   .rw[if_neg q]
  rw[e];simp[storeCells,go_sem]
 |v::vs,l,w,off,i,hb,hl,hp=>by
  simp only[X8]at hl;have B:=hp v (by simp);have m:w.cell? ⟨b,off+i,none⟩=some l[off+i]:=by
   simp[World.cell?,hb]
  have f:w.frozen? ⟨b,off+i,none⟩=false:=by
   simp[World.frozen?,hb]
  have d:w.setCell ⟨b,off+i,none⟩ v={w with heap:=w.heap.setIfInBounds b (.cells (splice l (off+i) [v]).toArray t (0,0))}:=by
   unfold World.setCell;rw[QbK hb];simp only[Option.isSome_none,Xj,if_false];congr 3;have:l.toArray.setIfInBounds (off+i) v=(l.set (off+i) v).toArray:=by simp
   rw[this];congr 1;rw[List.set_eq_take_append_cons_drop,if_pos (by omega)];simp[splice]
  have a:b<w.heap.size:=by
   rcases Nat.lt_or_ge b w.heap.size with q|q
   .exact q
   .rw[Array.getElem?_eq_none q]at hb;simp at hb
  have h:=YF (vs:=vs) (l:=splice l (off+i) [v]) (w:={w with heap:=w.heap.setIfInBounds b (.cells (splice l (off+i) [v]).toArray t (0,0))}) off (i+1)
   (by show(w.heap.setIfInBounds b _)[b]?=_;rw[Vm,if_pos rfl,if_pos a])
   (by rw[Yl (by simp;omega)];omega) (λx p=>hp x (by simp[p]))
  have z:splice (splice l (off+i) [v]) (off+(i+1)) vs=splice l (off+i) (v::vs):=by
   have k:(l.take (off+i)).length=off+i:=by simp;omega
   unfold splice;rw[Vq (l.take (off+i))];have u:off+(i+1)=(l.take (off+i)).length+1:=by omega
   have y:(l.take (off+i)++([v]++l.drop (off+i+[v].length))).take ((l.take (off+i)).length+1)=l.take (off+i)++[v]:=by
    rw[Vj];simp
   have r:(l.take (off+i)++([v]++l.drop (off+i+[v].length))).drop ((l.take (off+i)).length+1+vs.length)=l.drop (off+i+(v::vs).length):=by
    rw[show(l.take (off+i)).length+1+vs.length=(l.take (off+i)).length+(1+vs.length)from by omega,Vi];simp[Nat.add_comm 1];congr 1;omega
   rw[u,y,r];simp
  have n:(w.heap.setIfInBounds b (.cells (splice l (off+i) [v]).toArray t (0,0))).setIfInBounds b (.cells (splice (splice l (off+i) [v]) (off+(i+1)) vs).toArray t (0,0))=
    w.heap.setIfInBounds b (.cells (splice l (off+i) (v::vs)).toArray t (0,0)):=by
   rw[z,Array.setIfInBounds_setIfInBounds]
  rw[n]at h;have g:(Go.store ⟨b,off+i,none⟩ v).run P w=.ok () {w with heap:=w.heap.setIfInBounds b (.cells (splice l (off+i) [v]).toArray t (0,0))}:=by
   rw[<- d];cases v<;>first|exact B.elim|simp[Go.store,Sem.run,m,f,go_sem]
  simp only[storeCells,QaD,Vu,g];exact h
theorem QaR{w:World}{b t:Nat}{l l':List Value}(d:w.heap[b]?=some (.cells l.toArray t (0,0)))(e:l'.length=l.length)(y:TypeId×Nat)(h:w.shape? b=some y):
  ({w with heap:=w.heap.setIfInBounds b (.cells l'.toArray t (0,0))}:World).shape? b=some y:=by
 have a:b<w.heap.size:=by
  rcases Nat.lt_or_ge b w.heap.size with q|q
  .exact q
  .rw[Array.getElem?_eq_none q]at d;simp at d
 unfold World.shape? at h⊢;rw[d]at h;simp at h;subst h;show(match(w.heap.setIfInBounds b (.cells l'.toArray t (0,0)))[b]? with|some (.cells c elem _)=>some (elem,c.size)|_=>none)=_;rw[Vm,if_pos rfl,if_pos a];simp[e]
theorem LR.splice{ro:Nat->Prop}{σ:Sig}{w:World}{az vs:List A}{l m:List Value}(off:Nat)(h:LR ro σ w az l)(k:LR ro σ w vs m):LR ro σ w (Sw.splice az off vs) (Sw.splice l off m):=by
 unfold Sw.splice;rw[k.length];exact((h.take off).append k).append (h.drop _)
theorem Qeg{l m:List Value}{off:Nat}(h:∀v∈l,QA v)(k:∀v∈m,QA v):∀v∈Sw.splice l off m,QA v:=by
 intro v a;simp only[Sw.splice,List.mem_append]at a;rcases a with(a|a)|a
 .exact h v (List.mem_of_mem_take a)
 .exact k v a
 .exact h v (List.mem_of_mem_drop a)
theorem OpU.store{t n i off T:Nat}{x y:Operand}{cs vs cs':List A}{v:A}(Q:o.op=.store t x y)(Y:opA env x=.ptr i off)(E:H[i]?=some (.cells T cs))(hs:∀w,(sizeOf t).run P w=.ok n w)
  (z:opA env y=v)(R:Yk v=true)(V:Q8 v=vs)(W:vs.length=n)(L:vs.all Ys=true)(g:Nat.ble (off+n) cs.length=true)(p:splice cs off vs=cs'):
  OpU P o env H (H.set i (.cells T cs')):=by
 intro fr X σ N a w r;have j:=Qg r x;rw[Y]at j;obtain⟨b,j,M⟩:=j;have F:=Qg r y;rw[z]at F;obtain⟨m,G,f⟩:=F.cells R;rw[V]at f;obtain⟨l,J,B,O⟩:=r.sim.blk i _ _ j E;have s:off+n<=cs.length:=by simpa using g
 have k:m.length=n:=by rw[f.length,W]
 have h:=YF (P:=P) (vs:=m) off 0 J (by rw[B.length,k];omega) (f.plain L);have d:=r.sim.set (x':=.cells T cs') (obj:=.cells (splice l off m).toArray T (0,0)) j E rfl
  (λy z=>QaR J (Yl (by rw[B.length,k];omega)) y z)
  (λe he=>⟨_,he,p▸(B.splice off f).mono e,Qeg O (f.plain L)⟩)
 refine⟨_,X,[],?_,by simpa using d.1,d.2⟩;generalize a.eval=ρ at*;have u:(ρ y).cells.size=n:=by rw[G];simp[k]
 have q:(storeVar t ⟨b,off,none⟩ (ρ y)).run P w=.ok () {w with heap:=w.heap.setIfInBounds b (.cells (splice l off m).toArray T (0,0))}:=by
  unfold storeVar;rw[Vu,hs];simp only[Result.andThen];rw[if_neg (by simp[u]),G];simpa using h
 simp only[execOp,Q,M,Instr.storeAt,Instr.sureAddr,pure_bind,Vu,q];rfl
theorem RL.splice{ro:Nat->Prop}{σ:Sig}{w:World}{k:Nat}:∀{e:Nat}{es:List (List A)}{l m:List Value}{c a:List A}{f:Nat},RL ro σ w k es l->es[e]?=some c->LR ro σ w a m->(∀v∈m,QA v)->f+a.length<=k->
  RL ro σ w k (es.set e (Sw.splice c f a)) (Sw.splice l (e*k+f) m)
 |_,[],_,_,_,_,_,_,h,_,_,_=>by simp at h
 |0,c0::es,l,m,c,a,f,⟨l1,l2,h1,h2,h3,h4⟩,hc,hm,hp,hf=>by
  simp at hc;subst hc h1;have hl1:=h3.1.length;refine⟨Sw.splice l1 f m,l2,?_,?_,⟨h3.1.splice f hm,Qeg h3.2 hp⟩,h4⟩
  .unfold Sw.splice;simp only[Nat.zero_mul,XB,Vq];rw[Vf (by omega),Vg (by rw[hm.length];omega)]
  .rw[Yl (by omega)];exact h2
 |e+1,c0::es,l,m,c,a,f,⟨l1,l2,h1,h2,h3,h4⟩,hc,hm,hp,hf=>by
  subst h1;have hl1:=h3.1.length;refine⟨l1,Sw.splice l2 (e*k+f) m,?_,h2,h3,RL.splice h4 (by simpa using hc) hm hp hf⟩;have e1:(e+1)*k+f=l1.length+(e*k+f):=by rw[Xn];omega
  unfold Sw.splice;rw[e1,Vj,show l1.length+(e*k+f)+m.length=l1.length+(e*k+f+m.length)from by omega,Vi];simp
theorem RL.length{ro:Nat->Prop}{σ:Sig}{w:World}{k:Nat}:∀{es:List (List A)}{l:List Value},RL ro σ w k es l->es.length*k<=l.length
 |[],l,_=>by simp
 |c::es,l,⟨l1,l2,h1,h2,h3,h4⟩=>by
  subst h1;have:=RL.length h4;have:=h3.1.length;simp only[X8,Va,Xn];omega
theorem Qgw{t n i off T k e f:Nat}{x y:Operand}{es g:List (List A)}{c vs J:List A}{v:A}(ho:o.op=.store t x y)(hx:opA env x=.ptr i off)(R:H[i]?=some (.row T k es))(hs:∀w,(sizeOf t).run P w=.ok n w)
  (h:off=e*k+f)(V:es[e]?=some c)(z:opA env y=v)(hk:Yk v=true)(hv:Q8 v=vs)(W:vs.length=n)(Q:vs.all Ys=true)(hd:Yj vs=true)(hf:Nat.ble (f+n) k=true)
  (s:splice c f vs=J)(G:es.set e J=g):
  OpU P o env H (H.set i (.row T k g)):=by
 intro fr ro σ N a w r;have q:=Qg r x;rw[hx]at q;obtain⟨b,q,h2⟩:=q;have L:=Qg r y;rw[z]at L;obtain⟨m,M,j⟩:=L.cells hk;rw[hv]at j;obtain⟨l,O,X⟩:=r.sim.blk i _ _ q R;have B:f+n<=k:=by simpa using hf
 have hm:m.length=n:=by rw[j.length,W]
 have he:e<es.length:=(XS.1 V).1;have Y:off+n<=l.length:=by
  have:=X.length;have h6:(e+1)*k<=es.length*k:=XI k he;rw[Xn]at h6;omega
 have p:=YF (P:=P) (vs:=m) off 0 O (by omega) (j.plain Q);have d:=r.sim.set (x':=.row T k g) (obj:=.cells (splice l off m).toArray T (0,0)) q R rfl
  (λy z=>QaR O (Yl (by omega)) y z)
  (λex u=>⟨_,u,by
   subst G s h;exact(X.splice V (j.data hd) (j.plain Q) (by rw[W];exact B)).mono ex.nil⟩)
 refine⟨_,ro,[],?_,by simpa using d.1,d.2⟩;generalize a.eval=ρ at*;have F:(ρ y).cells.size=n:=by rw[M];simp[hm]
 have E:(storeVar t ⟨b,off,none⟩ (ρ y)).run P w=.ok () {w with heap:=w.heap.setIfInBounds b (.cells (splice l off m).toArray T (0,0))}:=by
  unfold storeVar;rw[Vu,hs];simp only[Result.andThen];rw[if_neg (by simp[F]),M];simpa using p
 simp only[execOp,ho,h2,Instr.storeAt,Instr.sureAddr,pure_bind,Vu,E];rfl
end
end Go.Sw
namespace Go.Sw
section
variable {P:Program}{o:Oper}{env:Env}{H:Qc}{fr ro:Nat->Prop}{σ:Sig}{w:World}
theorem Ext.heap{w':World}(h:w'.heap=w.heap):Ext ro σ w ro σ w':=
 ⟨λ_ q=>q,λb _=>by rw[h],λb x q=>by unfold World.shape? at q⊢;rw[h];exact q,λ_ _ q=>q⟩
theorem Sim.heap{w':World}(s:Sim fr ro σ H w)(h:w'.heap=w.heap):Sim fr ro σ H w':=
 ⟨s.len,s.roOk.to (λ_ q=>q) (λb _=>by rw[h]) (λb q=>by rw[h];exact s.roLt b q),λb q=>by rw[h];exact s.frLt b q,s.roFr,λi b x q1 q2 q3=>by rw[h];exact s.own i b x q1 q2 q3,s.inj,
  λi y x q1 q2=>(s.blk i y x q1 q2).keep (Ext.heap h) (λb _ _=>by rw[h]) (λb c _ _=>by rw[h]),
  s.hidTo (· = ·) Q2 (by rw[h];exact X0 _) (λ_ _ _ _ _ _ _ q=>q) (λ_ _ _ _ _ _ _ q=>q) λj d y g1 g2 g3=>.inl ⟨j,y,rfl,g1,g2,id,λc q=>q.keep (by rw[h])⟩⟩
theorem Qf.heap{w':World}(h:w'.heap=w.heap)(ho:w'.os=w.os)(ht:w'.tape=w.tape)(hu:w'.output=w.output)(hd:w.drawn<=w'.drawn):Qf fr ro w ro w':=
 ⟨λ_ q=>q,λb _=>by rw[h],λb _=>by rw[h],by rw[h];exact X0 _,λb x q=>by unfold World.shape? at q⊢;rw[h];exact q,ho,ht,hu,hd⟩
theorem Sim.moved(s:Sim fr ro σ H w){i:Nat}{x:Blk}{y:Option Nat}(p:H[i]?=some x)(hσ:σ[i]?=some y):Sim fr ro (σ++[y]) (H.set i .dead++[x]) w:=by
 have G:=s.len;have Q:i<H.length:=(XS.1 p).1;have a:∀(j:Nat) (z:Option Nat) (v:Blk),(σ++[y])[j]?=some z->(H.set i .dead++[x])[j]?=some v->v≠ .dead->
   (j<σ.length/\j≠i/\σ[j]?=some z/\H[j]?=some v)\/(j=σ.length/\z=y/\v=x):=by
  intro j z v g f m;rcases Nat.lt_trichotomy j σ.length with q|q|q
  .rw[XT q]at g;rw[XT (by rw[Vb];omega)]at f;by_cases e:j=i
   .subst e;rw[Xa Q]at f;cases f;exact absurd rfl m
   .rw[XW (λq=>e q.symm)]at f;exact .inl ⟨q,e,g,f⟩
  .subst q;have n:(σ++[y])[σ.length]?=some y:=by simp
   have W:(H.set i .dead++[x])[σ.length]?=some x:=by rw[G,show H.length=(H.set i .dead).length from by simp];simp
   rw[n]at g;rw[W]at f;cases g;cases f;exact .inr ⟨rfl,rfl,rfl⟩
  .rw[XV (by simp;omega)]at g;simp at g
 have hσ':∀(j:Nat) (b:Nat),σ[j]?=some (some b)->(σ++[y])[j]?=some (some b):=λj b h=>Jd h;have ext:Ext ro σ w ro (σ++[y]) w:=⟨λ_ q=>q,λ_ _=>rfl,λ_ _ q=>q,hσ'⟩;refine⟨by simp[G],s.roOk,s.frLt,s.roFr,?_,?_,?_,s.hidTo (λj J=>(j<σ.length/\j≠i/\J=j)\/(j=σ.length/\J=i)) (by omega) (X0 _) (λ_ _ _ _ _ _ _ q=>q) (λ_ _ _ _ _ _ _ q=>q) λj d y V R T=>.inl ?_⟩
 rotate_left 3
 .rcases a j _ y V R (QdP T)with⟨E,F,k,l⟩|⟨E,n,rfl⟩
  .exact⟨j,y,.inl ⟨E,F,rfl⟩,k,l,id,λ_ q=>q⟩
  .subst n;exact⟨i,y,.inr ⟨E,rfl⟩,hσ,p,id,λ_ q=>q⟩
 .intro j b v g f m;rcases a j _ v g f (Blk.nd m)with⟨_,_,k,l⟩|⟨_,n,rfl⟩
  .exact s.own j b v k l m
  .subst n;exact s.own i b v hσ p m
 .intro j B b v u g f m N t r;rcases a j _ v g m (Blk.nd t)with⟨_,P,k,l⟩|⟨M,n,O⟩<;>rcases a B _ u f N (Blk.nd r)with⟨_,n1',q1',q2'⟩|⟨r1',e1',r2'⟩
  .exact s.inj j B b v u k q1' l q2' t r
  .subst e1' r2';exact(P (s.inj j i b v u k hσ l p t r)).elim
  .subst n O;exact(n1' (s.inj B i b u v q1' hσ q2' p r t)).elim
  .rw[M,r1']
 .intro j z v g f;by_cases L:v≠ .dead
  .rcases a j z v g f L with⟨_,_,k,l⟩|⟨_,rfl,rfl⟩
   .exact(s.blk j z v k l).keep ext (λ_ _ _=>rfl) (λ_ _ _ _=>rfl)
   .exact(s.blk i _ _ hσ p).keep ext (λ_ _ _=>rfl) (λ_ _ _ _=>rfl)
  .obtain rfl:v=.dead:=Classical.not_not.1 L;trivial
def Src(P:Program)(H:Qc)(x:A)(k:Nat)(es:List (List A)):Prop:=
 ∀fr ro σ w v,Sim fr ro σ H w->VR ro σ w x v->(∃a c,v=.slice a es.length c)/\allK k es/\
  ∃l,(∀w':World,w'.heap=w.heap->(Builtin.firstCells k es.length v).run P w'=.ok l.toArray w')/\LR ro [] w es.flatten l/\ ∀v∈l,QA v
theorem RR.flat{b k:Nat}:∀{es:List (List A)}{off:Nat},RR ro σ w b k es off->CR ro σ w b es.flatten off/\allK k es/\es.flatten.length=es.length*k
 |[],off,_=>⟨trivial,trivial,by simp⟩
 |c::es,off,⟨h1,h2,h3⟩=>by
  obtain⟨q1,q2,q3⟩:=RR.flat h3;refine⟨?_,⟨h1,q2⟩,by simp[q3,h1,Xn,Nat.add_comm]⟩;rw[Vt];have:∀(c:List A) (off:Nat) (d:List A),CR ro σ w b c off->CR ro σ w b d (off+c.length)->CR ro σ w b (c++d) off:=by
   intro c
   induction c with
   |nil=>intro off d _ h;simpa using h
   |cons x c a=>intro off d ⟨h1,h2⟩ h;exact⟨h1,a (off+1) d h2 (by rw[Nat.add_assoc,Nat.add_comm 1];simpa using h)⟩
  exact this c off _ h2 (by rw[h1];exact q1)
theorem QcV{b off k n c:Nat}{cs:List A}(h:CR ro σ w b cs off)(e:cs.length=n*k):
  ∃l,(∀w':World,w'.heap=w.heap->(Builtin.firstCells k n (.slice (some ⟨b,off,none⟩) n c)).run P w'=.ok l.toArray w')/\LR ro σ w cs l/\ ∀v∈l,QA v:=by
 obtain⟨l,d,f,a⟩:=Yw (P:=P) (cs:=cs) (off:=off) 0 (by simpa using h);refine⟨l,λw' g=>?_,d,f⟩;rw[e]at a;simp only[Builtin.firstCells,loadCells];simpa using a w' #[] g
theorem Qad{k c:Nat}{a:Option Addr}:(Builtin.firstCells k 0 (.slice a 0 c)).run P w=.ok #[] w:=by
 cases a<;>simp[Builtin.firstCells,loadCells,loadCellsFrom,go_sem]
theorem Src.rsl{k:Nat}{es:List (List A)}:Src P H (.rsl k es) k es:=by
 intro l j σ w v s ⟨a,c,h1,h2,h3⟩;subst h1;refine⟨⟨a,c,rfl⟩,?_⟩;rcases h3 with rfl|⟨b,e,rfl,i,d⟩
 .exact⟨trivial,[],λ_ _=>Qad,rfl,by simp⟩
 .obtain⟨f,h,g⟩:=d.flat;exact⟨h,QcV f g⟩
theorem Src.nils{k:Nat}:Src P H .nils k []:=by
 intro b a σ w v s h;simp only[VR]at h;subst h;exact⟨⟨none,0,rfl⟩,trivial,[],λ_ _=>Qad,rfl,by simp⟩
theorem RR.drop{b k:Nat}:∀(n:Nat) {es:List (List A)}{off:Nat},RR ro σ w b k es off->RR ro σ w b k (es.drop n) (off+n*k)
 |0,_,_,h=>by simpa using h
 |n+1,[],_,_=>trivial
 |n+1,c::es,off,⟨h1,h2,h3⟩=>by
  have:=RR.drop n h3;rw[show off+(n+1)*k=off+k+n*k from by rw[Xn];omega];exact this
theorem RR.take{b k:Nat}:∀(n:Nat) {es:List (List A)}{off:Nat},RR ro σ w b k es off->RR ro σ w b k (es.take n) off
 |0,_,_,h=>trivial
 |n+1,[],_,_=>trivial
 |n+1,c::es,off,⟨h1,h2,h3⟩=>⟨h1,h2,RR.take n h3⟩
theorem Src.osl{i s n k t:Nat}{es a:List (List A)}(r:H[i]?=some (.row t k es))(he:(es.drop s).take n=a)(E:s+n<=es.length):Src P H (.osl i s n k) k a:=by
 intro M G σ w v sm h;have f:a.length=n:=by rw[<- he];simp;omega
 rcases h with⟨rfl,rfl⟩|⟨b,p,d,L,m,y,rfl,x,J,B,F⟩
 .have e:a=[]:=List.length_eq_zero_iff.1 f;subst e;exact⟨⟨none,0,rfl⟩,trivial,[],λ_ _=>Qad,rfl,by simp⟩
 .rw[f];refine⟨⟨_,d,rfl⟩,?_⟩;obtain⟨l,g,j⟩:=sm.blk i _ _ y r;have q:=((Jm (pre:=[]) (by simpa using g) j).drop s).take n;rw[he]at q;by_cases u:0<d
  .obtain rfl:=x u;obtain⟨g,j,z⟩:=q.flat;refine⟨j,?_⟩;have:=QcV (P:=P) (n:=n) (c:=d) g (by rw[z,f]);simpa using this
  .obtain rfl:n=0:=by omega
   have e:a=[]:=List.length_eq_zero_iff.1 f;subst e;exact⟨trivial,[],λ_ _=>Qad,rfl,by simp⟩
def QR:Nat:=4294967296
theorem Qbk(n c:Nat)(h:c<n):Builtin.nextslicecap n c<=4*n+1000:=by
 unfold Builtin.nextslicecap;split
 .omega
 .split
  .omega
  .have a:∀(r c:Nat),c<=2*n+400->Builtin.growBy n r c<=4*n+1000:=by
    intro r
    induction r with
    |zero=>intro c d;simp[Builtin.growBy];omega
    |succ r b=>
     intro c d;simp only[Builtin.growBy];split
     .omega
     .exact b _ (by omega)
   exact a 4 c (by omega)
structure Q0 (P:Program) (T e k:Nat):Prop where
 sl:∀w,(underlying T).run P w=.ok (.slice e) w
 size:∀w,(sizeOf e).run P w=.ok k w
 zero:∃z,(∀w,(zeroValue e).run P w=.ok z w)/\z.cells.size=k
 bytes:∃i,(∀w,(typeInfo e).run P w=.ok i w)/\i.bytes<=4096
theorem Qe1{T k:Nat}{es:List (List A)}{l rest:List Value}(s:Sim fr ro σ H w)(hk:allK k es)(h:LR ro [] w es.flatten l)(hp:∀v∈l,QA v):
  Sim fr ro (σ++[some w.heap.size]) (H++[.row T k es]) (w.alloc (.cells (l++rest).toArray T))/\Qf fr ro w ro (w.alloc (.cells (l++rest).toArray T)):=
 ⟨s.allocRow hk h hp,Qf.alloc _ s.roLt s.frLt⟩
theorem YS{k:Nat}:∀{es:List (List A)},allK k es->es.flatten.length=es.length*k
 |[],_=>by simp
 |c::es,⟨h1,h2⟩=>by simp[YS h2,h1,Xn,Nat.add_comm]
theorem Qds{k:Nat}:∀{es fs:List (List A)},allK k es->allK k fs->allK k (es++fs)
 |[],_,_,h=>h
 |c::es,_,⟨h1,h2⟩,h=>⟨h1,Qds h2 h⟩
theorem QfM{k:Nat}:∀{es:List (List A)} (n:Nat),allK k es->allK k (es.take n)
 |_,0,_=>trivial
 |[],n+1,_=>trivial
 |c::es,n+1,⟨h1,h2⟩=>⟨h1,QfM n h2⟩
theorem RL.allK{k:Nat}:∀{es:List (List A)}{l:List Value},RL ro σ w k es l->allK k es
 |[],_,_=>trivial
 |c::es,l,⟨l1,l2,h1,h2,h3,h4⟩=>⟨h2,RL.allK h4⟩
theorem RL.app{k:Nat}:∀{n:Nat}{es fs:List (List A)}{l m:List Value},RL ro σ w k es l->n<=es.length->Sw.allK k fs->LR ro σ w fs.flatten m->(∀v∈m,QA v)->
  RL ro σ w k (es.take n++fs) (Sw.splice l (n*k) m)
 |0,es,fs,l,m,h,hn,hk,hm,hp=>by
  simp only[List.take_zero,Vp,Nat.zero_mul];unfold Sw.splice;simp only[List.take_zero,Vp];exact QaF hk hm hp
 |n+1,[],fs,l,m,h,hn,hk,hm,hp=>by simp at hn
 |n+1,c::es,fs,l,m,⟨l1,l2,h1,h2,h3,h4⟩,hn,hk,hm,hp=>by
  subst h1;have hl1:=h3.1.length;refine⟨l1,Sw.splice l2 (n*k) m,?_,h2,h3,RL.app h4 (by simpa using hn) hk hm hp⟩;have e1:(n+1)*k=l1.length+n*k:=by rw[Xn];omega
  unfold Sw.splice;rw[e1,Vj,show l1.length+n*k+m.length=l1.length+(n*k+m.length)from by omega,Vi];simp
theorem Qk6{T T' e e' k need cap:Nat}{t:TypeId}(E:Q0 P T e k)(L:∀w,(underlying T').run P w=.ok (.slice e') w){ad:Option Addr}{n m c:Nat}{ax:Option Addr}
  (f:need=n+m)(h:cap<need)(d:need<=QR){old a:List Value}
  (y:∀w':World,w'.heap=w.heap->(Builtin.firstCells k m (.slice ax m c)).run P w'=.ok a.toArray w')(s:∀w':World,w'.heap=w.heap->(Builtin.firstCells k n (.slice ad n cap)).run P w'=.ok old.toArray w'):
  ∃(rest:List Value) (b:Nat),need<=b/\rest.length=(b-need)*k/\(Builtin.append_ #[T,T'] t #[.slice ad n cap,.slice ax m c]).run P w=
   .ok (.slice (some ⟨w.heap.size,0,none⟩) need b) (({w with drawn:=w.drawn+1}:World).alloc (.cells ((old++a)++rest).toArray e)):=by
 obtain⟨z,J,r⟩:=E.zero;obtain⟨i,O,G⟩:=E.bytes
 let b:=need+w.tape w.drawn (.appendCap need cap e)%(2^63-need)
 refine⟨(Builtin.zeroCells z.cells (b-need)).toList,b,Nat.le_add_right _ _,by simp[Builtin.zeroCells,r],?_⟩;have g:¬(need<=cap):=by omega
 have B:¬((need:Int)>IntKind.i64.max/\(False\/i.bytes=0)):=by
  rintro⟨q,_⟩;have:IntKind.i64.max=9223372036854775807:=by decide
  rw[this]at q;unfold QR at d;omega
 have H:¬(Builtin.nextslicecap need cap*i.bytes>2^48):=by
  have:=Qbk need cap h;have u:Builtin.nextslicecap need cap*i.bytes<=(4*need+1000)*4096:=Nat.mul_le_mul this G;unfold QR at d;omega
 generalize hF:Builtin.firstCells=F at y s;unfold Builtin.append_;rw[hF];have l:∀W:World,(choose (.appendCap need cap e)).run P W=.ok (need+W.tape W.drawn (.appendCap need cap e)%(2^63-need)) {W with drawn:=W.drawn+1}:=by
  intro W;simp[choose,Sem.run,Question.forced,Question.cut]
 have j:∀(x:Nat) (W:World),(askRoom x).run P W=.ok () W:=by
  intro x W;unfold askRoom;split<;>rfl
 have p:∀(c:Array Value) (W:World),(newRow e c).run P W=.ok ⟨W.heap.size,0,none⟩ (W.alloc (.cells c e)):=λc W=>rfl;subst f;simp only[not_and,false_or]at B;have u:¬(((n+m:Nat):Int)>IntKind.i64.max/\(False\/i.bytes=0)):=by simpa using B
 simp only[XN,XL,XM,Vu,E.sl,E.size,L,O,J,Result.andThen,Builtin.lenOf,Vv,Xj,if_false,XO,
  Xi,if_true,if_neg g,if_neg u,if_neg H,l,j]
 have N:=s {w with drawn:=w.drawn+1} rfl;have Q:=y {w with drawn:=w.drawn+1} rfl;simp only[N,Q,p];have M:old.toArray++a.toArray++Builtin.zeroCells z.cells (b-(n+m))=((old++a)++(Builtin.zeroCells z.cells (b-(n+m))).toList).toArray:=by
  apply Array.toList_inj.1;simp
 rw[<- M]
theorem QgQ{T T' e e' k cap:Nat}{t:TypeId}(E:Q0 P T e k)(g:∀w,(underlying T').run P w=.ok (.slice e') w){ad:Option Addr}{n m c:Nat}{ax:Option Addr}
  (d:n+m<=cap){b:List Value}(f:(Builtin.firstCells k m (.slice ax m c)).run P w=.ok b.toArray w):
  (Builtin.append_ #[T,T'] t #[.slice ad n cap,.slice ax m c]).run P w=
   match ad with
   |some a=>(do storeCells (a.add (n*k)) b;pure (Value.slice ad (n+m) cap):Sem Value).run P w
   |none=>.ok (.slice ad (n+m) cap) w:=by
 generalize hF:Builtin.firstCells=F at f;unfold Builtin.append_;rw[hF];simp only[XN,XL,XM,Vu,E.sl,E.size,g,Result.andThen,Builtin.lenOf,Vv,Xj,if_false,XO,
  Xi,if_true,if_pos d,f]
 cases ad with
 |none=>rfl
 |some a=>simp only[Vu,Result.andThen,Vv]
theorem Sim.weaken(s:Sim fr ro σ H w){i:Nat}{x x':Blk}(l:H[i]?=some x)(L:x.live=true)(G:∀y,BR ro σ w x y->BR ro σ w x' y)
  (z:∀b c,Hid w x' b c->Hid w x b c:=by exact λ_ _ h=>h.elim):Sim fr ro σ (H.set i x') w:=by
 have O:i<H.length:=(XS.1 l).1;have m:(H.set i x')[i]?=some x':=Xa O;have p:∀j,j≠i->(H.set i x')[j]?=H[j]? :=λj V=>XW (λq=>V q.symm);have a:∀(j:Nat) (v:Blk),(H.set i x')[j]?=some v->(j=i/\v=x')\/(j≠i/\H[j]?=some v):=by
  intro j v h;by_cases e:j=i
  .subst e;rw[m]at h;cases h;exact .inl ⟨rfl,rfl⟩
  .rw[p j e]at h;exact .inr ⟨e,h⟩
 have B:∀(j:Nat) (v:Blk),(H.set i x')[j]?=some v->v.live=true->∃f,H[j]?=some f/\f.live=true:=by
  intro j v h W;rcases a j v h with⟨rfl,rfl⟩|⟨_,h⟩
  .exact⟨x,l,L⟩
  .exact⟨v,h,W⟩
 refine⟨by rw[Vb];exact s.len,s.roOk,s.frLt,s.roFr,?_,?_,?_,s.hidTo (· = ·) Q2 (X0 _) (λ_ _ _ _ _ _ _ q=>q) (λ_ _ _ _ _ _ _ q=>q) λj d y M R X=>.inl ?_⟩
 rotate_left 3
 .rcases a j y R with⟨rfl,rfl⟩|⟨_,h⟩
  .exact⟨j,x,rfl,M,l,λ_=>L,λc q=>z d c q⟩
  .exact⟨j,y,rfl,M,h,id,λ_ q=>q⟩
 .intro j b v g k n;obtain⟨f,r,t⟩:=B j v k n;exact s.own j b f g r t
 .intro j J b v f g k n N T Q;obtain⟨u,r,t⟩:=B j v n T;obtain⟨P,E,F⟩:=B J f N Q;exact s.inj j J b u P g k r E t F
 .intro j y v g k;rcases a j v k with⟨rfl,rfl⟩|⟨_,h⟩
  .exact G y (s.blk j y x g l)
  .exact s.blk j y v g h
theorem RL.take{k:Nat}:∀(n:Nat) {es:List (List A)}{l:List Value},RL ro σ w k es l->RL ro σ w k (es.take n) l
 |0,_,_,_=>trivial
 |n+1,[],_,_=>trivial
 |n+1,c::es,l,⟨l1,l2,h1,h2,h3,h4⟩=>⟨l1,l2,h1,h2,h3,RL.take n h4⟩
theorem QaL{c:Call}{T T':TypeId}{x y:Operand}(a:o.op=.call c)(b:c={callee:=.builtin .append,args:= #[x,y],argTypes:= #[T,T']})(ρ:Operand->Value){v:Value}{w':World}
  (h:(Builtin.append_ #[T,T'] o.type #[ρ x,ρ y]).run P w=.ok v w'):(execOp ρ o).run P w=.ok (.value v) w':=by
 subst b;simp only[execOp,a,resolve,invoke,Go.builtin,Vu,Vv,Result.andThen];simp only[XP,Vr,Vs,h]
theorem Sim.phantom(s:Sim fr ro σ H w)(t k:Nat):Sim fr ro (σ++[none]) (H++[.row t k []]) w:=by
 have g:=s.len;have f:∀(i b:Nat),(σ++[none])[i]?=some (some b)->i<σ.length:=by
  intro i b a;rcases Nat.lt_or_ge i σ.length with q|q
  .exact q
  .rw[XU q]at a;cases m:i-σ.length with
   |zero=>rw[m]at a;simp at a
   |succ j=>rw[m]at a;simp at a
 refine⟨by simp[g],s.roOk,s.frLt,s.roFr,?_,?_,?_,s.hidTo (· = ·) Q2 (X0 _) (λ_ _ _ _ _ _ _ q=>q) (λ_ _ _ _ _ _ _ q=>q) λj d y a e l=>.inl ?_⟩
 rotate_left 3
 .have q:=f j d a;rw[XT q]at a;rw[XT (by omega)]at e;exact⟨j,y,rfl,a,e,id,λ_ q=>q⟩
 .intro i b z a e l;have q:=f i b a;rw[XT q]at a;rw[XT (by omega)]at e;exact s.own i b z a e l
 .intro i j b z B a e l n u p;have E:=f i b a;have F:=f j b e;rw[XT E]at a;rw[XT F]at e;rw[XT (by omega)]at l n;exact s.inj i j b z B a e l n u p
 .intro i y z a e;have ext:Ext ro σ w ro (σ++[none]) w:=⟨λ_ q=>q,λ_ _=>rfl,λ_ _ q=>q,λ_ _ h=>Jd h⟩;rcases Nat.lt_trichotomy i σ.length with q|q|q
  .rw[XT q]at a;rw[XT (by omega)]at e;exact(s.blk i y z a e).keep ext (λ_ _ _=>rfl) (λ_ _ _ _=>rfl)
  .subst q;have x:(σ++[none])[σ.length]?=some none:=by simp
   have r:(H++[Blk.row t k []])[σ.length]?=some (.row t k []):=by rw[g];simp
   rw[x]at a;rw[r]at e;cases a;cases e;rfl
  .rw[XV (by simp;omega)]at a;simp at a
theorem Sim.kill(s:Sim fr ro σ H w)(i:Nat):Sim fr ro σ (H.set i .dead) w:=by
 have a:∀(j:Nat) (v:Blk),(H.set i .dead)[j]?=some v->v≠ .dead->H[j]?=some v:=by
  intro j v h k;by_cases e:j=i
  .subst e;rw[Xb]at h;simp only[if_true]at h;split at h
   .cases h;exact absurd rfl k
   .simp at h
  .rw[XW (λq=>e q.symm)]at h;exact h
 refine⟨by rw[Vb];exact s.len,s.roOk,s.frLt,s.roFr,?_,?_,?_,s.hidTo (· = ·) Q2 (X0 _) (λ_ _ _ _ _ _ _ q=>q) (λ_ _ _ _ _ _ _ q=>q) λj d y x z u=>.inl ⟨j,y,rfl,x,a j y z (QdP u),id,λ_ q=>q⟩⟩
 .intro j b v g f l;exact s.own j b v g (a j v f (Blk.nd l)) l
 .intro j r b v n g f l t m p;exact s.inj j r b v n g f (a j v l (Blk.nd m)) (a r n t (Blk.nd p)) m p
 .intro j y v g f;by_cases k:v≠ .dead
  .exact s.blk j y v g (a j v f k)
  .obtain rfl:v=.dead:=Classical.not_not.1 k;trivial
theorem grown{c:Call}{T T' e e' k n m cap cx:Nat}{x y:Operand}{es fs:List (List A)}{a:Act}{ad ax:Option Addr}{old b:List Value}(E:Q0 P T e k)(Y:∀w,(underlying T').run P w=.ok (.slice e') w)(X:o.op=.call c)
  (R:c={callee:=.builtin .append,args:= #[x,y],argTypes:= #[T,T']})(h1:a.eval x=.slice ad n cap)(V:a.eval y=.slice ax m cx)(s:Sim fr ro σ H w)(l:cap<n+m)(g:n+m<=QR)
  (h:∀w':World,w'.heap=w.heap->(Builtin.firstCells k n (.slice ad n cap)).run P w'=.ok old.toArray w')(r:∀w':World,w'.heap=w.heap->(Builtin.firstCells k m (.slice ax m cx)).run P w'=.ok b.toArray w')
  (i:LR ro [] w es.flatten old)(J:∀v∈old,QA v)(u:allK k es)(f:LR ro [] w fs.flatten b)(B:∀v∈b,QA v)(j:allK k fs)(L:es.length=n)(F:fs.length=m):
  ∃v w' ro' τ,(execOp a.eval o).run P w=.ok (.value v) w'/\VR ro' (σ++τ) w' (.osl H.length 0 (n+m) k) v/\Sim fr ro' (σ++τ) (H++[.row e k (es++fs)]) w'/\Qf fr ro w ro' w':=by
 obtain⟨rest,Q,M,G,p⟩:=Qk6 (t:=o.type) E Y rfl l g r h
 let w0:World:={w with drawn:=w.drawn+1}
 have s0:Sim fr ro σ H w0:=s.heap rfl;have e0:Qf fr ro w ro w0:=Qf.heap rfl rfl rfl rfl (Nat.le_succ _);have z:LR ro [] w0 (es++fs).flatten (old++b):=by
  rw[Xv];exact(i.append f).mono (Ext.heap (w:=w) (w':=w0) rfl)
 obtain⟨W,e1⟩:=Qe1 (T:=e) (rest:=rest) s0 (Qds u j) z (λv hv=>by rcases List.mem_append.1 hv with q|q;exact J v q;exact B v q);have d:(execOp a.eval o).run P w=.ok (.value _) _:=QaL X R a.eval (by rw[h1,V];exact p);refine⟨_,_,ro,[some w.heap.size],d,.inr ⟨w.heap.size,0,Q,e,(old++b++rest).length,?_,rfl,λ_=>by simp,M,?_,?_⟩,W,e0.trans e1⟩
 .rw[<- s.len];simp
 .have:=YH w0 (.cells ((old++b)++rest).toArray e);unfold World.shape?;rw[show w.heap.size=w0.heap.size from rfl,this];simp
 .have N:=i.length;have O:=f.length;rw[YS u]at N;rw[YS j]at O;simp only[Va,G,N,O,L,F,XB];rw[<- XG, <- XG];exact XI k (by omega)
theorem QhQ{c:Call}{T T' e e' k i n:Nat}{x y:Operand}{ya:A}{es fs gs:List (List A)}(E:Q0 P T e k)(hd:∀w,(underlying T').run P w=.ok (.slice e') w)(ho:o.op=.call c)
  (W:c={callee:=.builtin .append,args:= #[x,y],argTypes:= #[T,T']})(hx:opA env x=.osl i 0 n k)(V:H[i]?=some (.row e k es))(hn:n<=es.length)(q:opA env y=ya)(hs:Src P H ya k fs)(h:n+fs.length<=QR)
  (hg:es.take n++fs=gs):OpH P o env H (.osl H.length 0 (n+fs.length) k) (H.set i .dead++[.row e k gs]):=by
 intro fr J σ N a w r;subst hg;have g:=Qg r x;rw[hx]at g;have h2:=Qg r y;rw[q]at h2;obtain⟨⟨ay,cy,G⟩,q2,l,L,q4,q5⟩:=hs fr J σ w _ r.sim h2;rw[G]at L;have u:i<H.length:=(XS.1 V).1;have X:(H.set i .dead).length=H.length:=Vb;obtain⟨s,hσ⟩:∃s,σ[i]?=some s:=⟨_,XR (by rw[r.sim.len];exact u)⟩;rcases g with⟨rfl,g⟩|⟨b,p,cap,t',mm,O,g,h4,h5,R,h7⟩
 ·
  by_cases hm:fs.length=0
  .have z:fs=[]:=List.length_eq_zero_iff.1 hm;subst z;refine⟨.slice none 0 0,w,J,[none],?_,.inl ⟨rfl,rfl⟩,(r.sim.kill i).phantom e k,Qf.refl _ _ _⟩;refine QaL ho W _ ?_;rw[g,G];have:=QgQ (t:=o.type) E hd (ad:=none) (n:=0) (m:=0) (cap:=0) (c:=cy) (ax:=ay) (X0 0) (L w rfl);simpa using this
  .have:=grown (es:=[]) (old:=[]) E hd ho W g G (r.sim.kill i) (by omega) h (λ_ _=>Qad) L rfl (by simp) trivial q4 q5 q2 rfl rfl;rw[X]at this;simpa using this
 .have Y:=r.sim.blk i _ _ O V;obtain⟨lb,g1,g2⟩:=Y;have aa:(es.take n).length=n:=by simp;omega
  obtain⟨old,o1,o2,o3⟩:∃old:List Value,(∀w':World,w'.heap=w.heap->(Builtin.firstCells k n (.slice (some ⟨b,p,none⟩) n cap)).run P w'=.ok old.toArray w')/\LR J [] w (es.take n).flatten old/\ ∀v∈old,QA v:=by
   have Q:Src P H (.osl i 0 n k) k (es.take n):=Src.osl V (by simp) (by omega);obtain⟨_,_,l',z1,z2,z3⟩:=Q fr J σ w (.slice (some ⟨b,p,none⟩) n cap) r.sim (.inr ⟨b,p,cap,t',mm,O,rfl,h4,h5,R,h7⟩);rw[aa]at z1;exact⟨l',z1,z2,z3⟩
  by_cases d:n+fs.length<=cap
  .have j:=QgQ (t:=o.type) E hd (ad:=some ⟨b,p,none⟩) (n:=n) (m:=fs.length) (cap:=cap) (c:=cy) (ax:=ay) d (L w rfl);have F:l.length=fs.length*k:=by rw[q4.length,YS q2]
   by_cases hm:fs.length=0
   .have z:fs=[]:=List.length_eq_zero_iff.1 hm;subst z;have el:l=[]:=List.length_eq_zero_iff.1 (by rw[F];simp);subst el;have sw:=(r.sim.weaken (x':=.row e k (es.take n)) V rfl (by
     intro y q;cases y with
     |none=>simp only[BR]at q⊢;subst q;simp
     |some y=>obtain⟨lb,g1,g2⟩:=q;exact⟨lb,g1,g2.take n⟩))
    have M:=sw.moved (i:=i) (Xa u) O;rw[List.set_set]at M;refine⟨.slice (some ⟨b,p,none⟩) n cap,w,J,[some b],?_,.inr ⟨b,p,cap,t',mm,?_,by simp,h4,by simpa using h5,R,h7⟩,by simpa using M,Qf.refl _ _ _⟩
    .refine QaL ho W _ ?_;rw[g,G];simpa[storeCells,go_sem]using j
    .rw[<- r.sim.len];simp
   .obtain rfl:p=0*k:=h4 (by omega);have B:(n+fs.length)*k<=lb.length:=by
     have:w.shape? b=some (e,lb.length):=by unfold World.shape?;rw[g1];simp
     rw[this]at R;cases R;exact X3 (XI k d) (by simpa using h7)
    rw[XG]at B;have ac:=YF (P:=P) (vs:=l) (n*k) 0 g1 (by rw[F];simpa using B) q5;have f:=r.sim.set (x':=.row e k (es.take n++fs)) (obj:=.cells (splice lb (n*k) l).toArray e (0,0)) O V rfl
     (λy q=>QaR g1 (Yl (by rw[F];exact B)) y q)
     (λex ab=>⟨_,ab,(g2.app hn q2 q4 q5).mono ex.nil⟩)
    have M:=f.1.moved (i:=i) (Xa u) O;rw[List.set_set]at M;refine⟨.slice (some ⟨b,0*k,none⟩) (n+fs.length) cap,_,J,[some b],?_,.inr ⟨b,0*k,cap,t',mm,?_,rfl,h4,d,?_,h7⟩,M,f.2⟩
    .refine QaL ho W _ ?_;rw[g,G,j];simp only[QaD,Nat.zero_mul,XB,Vu,ac,Result.andThen,Vv];simp
    .rw[<- r.sim.len];simp
    .exact f.2.shape _ _ R
  .have:=grown (es:=es.take n) (old:=old) (fs:=fs) E hd ho W g G (r.sim.kill i) (by omega) h o1 L o2 o3 (QfM n g2.allK) q4 q5 q2 aa rfl;rw[X]at this;exact this
end
end Go.Sw
namespace Go.Sw
section
variable {P:Program}{o:Oper}{env:Env}{H:Qc}
theorem OpC.fn{c:Call}{f:FuncId}{xs:List Operand}{h:Array TypeId}{args:List A}(b:∀(a:Array Value) (w:World),(callFunc f a).run P w=.ok (.enter f a) w)(d:o.op=.call c)
  (g:c={callee:=.value (.func f),args:=xs.toArray,argTypes:=h})(i:xs.map (opA env)=args):OpC P o env H f args:=by
 intro k j σ N a w r;refine⟨xs.map a.eval,?_,i▸Qa0 r xs⟩;subst g;have e:a.eval (.func f)=.func (.func f) #[] #[]:=rfl;generalize a.eval=ρ at*;simp only[execOp,d,resolve,e,Deferred.ofValue,invoke,Vu,Vv,Result.andThen,b];simp
theorem Qgx{c:Call}{f:FuncId}{x:Operand}{xs:List Operand}{e:Array TypeId}{args vf vc:List A}(b:∀(a:Array Value) (w:World),(callFunc f a).run P w=.ok (.enter f a) w)(m:o.op=.call c)
  (g:c={callee:=.value x,args:=xs.toArray,argTypes:=e})(h:opA env x=.fn (.func f) vf vc)(j:vf++(xs.map (opA env)++vc)=args):OpC P o env H f args:=by
 intro q p σ N a w r;have d:=Qg r x;rw[h]at d;obtain⟨l,k,d,i,n⟩:=d;refine⟨l++(xs.map a.eval++k),?_,j▸i.append ((Qa0 r xs).append n)⟩;subst g;generalize a.eval=ρ at*;simp only[execOp,m,resolve,d,Deferred.ofValue,invoke,Vu,Vv,Result.andThen,b];simp
def Qe4(ρ:Nat->Nat)(env:Env):Env->Prop
 |[]=>True
 |(s,a)::r=>lk env s=Yx ρ a/\Qe4 ρ env r
theorem Qe4.ok{ro:Nat->Prop}{σ σ':Sig}{w:World}{ρ:Nat->Nat}(h:∀i:Nat,σ[ρ i]?=σ'[i]?){t:Array Value}(r:∀s,VR ro σ w (lk env s) (t.getD s undef)):
  ∀{env':Env},Qe4 ρ env env'->∀s,VR ro σ' w (lk env' s) (t.getD s undef)
 |[],_,s=>trivial
 |(d,a)::e,⟨h1,h2⟩,s=>by
  simp only[lk];by_cases q:s=d
  .subst q;rw[Nat.beq_refl];have:=r s;rw[h1]at this;exact(Qgs h).1 this
  .have:Nat.beq s d=false:=by
    rw[Bool.eq_false_iff];intro b;exact q (XX b)
   rw[this];exact Qe4.ok h r h2 s
theorem Sim.sub{fr ro:Nat->Prop}{σ:Sig}{w:World}{π:List Nat}{H':Qc}(s:Sim fr ro σ H w)(J:π.map (λp=>H[p]?)=(H'.map (QZ (rho π H.length))).map some)(hπ:π.Nodup):
  Sim fr ro (Q6 σ π) H' w/\ ∀j:Nat,σ[rho π H.length j]?=(Q6 σ π)[j]? :=by
 have M:∀p∈π,p<H.length:=λp q=>Y6 J q;have hσl:=s.len;have h:∀(j p:Nat),π[j]?=some p->H[p]?=(H'[j]?).map (QZ (rho π H.length)):=by
  intro j p a;have:=congrArg (λl=>l[j]?) J;simp only[Xr,a,Xk]at this;cases e:H'[j]? with
  |none=>rw[e]at this;simp at this
  |some x=>rw[e]at this;simpa using this
 have z:π.length=H'.length:=by simpa using congrArg List.length J
 have hσc:∀j:Nat,σ[rho π H.length j]?=(Q6 σ π)[j]? :=by
  intro j;have:=Qdz (τ:=[]) hσl M j;simpa using this
 have hπj:∀(j b:Nat),(Q6 σ π)[j]?=some (some b)->∃p,π[j]?=some p/\σ[p]?=some (some b):=by
  intro j b a;simp only[Q6,Xr]at a;cases e:π[j]? with
  |none=>rw[e]at a;simp at a
  |some p=>
   rw[e]at a;simp at a;refine⟨p,rfl,?_⟩;cases m:σ[p]? with
   |none=>rw[m]at a;simp at a
   |some s=>rw[m]at a;simp at a;rw[a]
 have hπi:∀(i j p:Nat),π[i]?=some p->π[j]?=some p->i=j:=by
  intro i j p g f;have r:i<π.length:=(XS.1 g).1;have a:j<π.length:=(XS.1 f).1;rw[XR r]at g;rw[XR a]at f;have k:=(X7 g).trans (X7 f).symm;rcases Nat.lt_trichotomy i j with q|q|q
  .exact(List.pairwise_iff_getElem.1 hπ i j r a q k).elim
  .exact q
  .exact(List.pairwise_iff_getElem.1 hπ j i a r q k.symm).elim
 refine⟨⟨by simp[Q6,z],s.roOk,s.frLt,s.roFr,?_,?_,?_,s.hidTo (λj p=>π[j]?=some p) hπi (X0 _) (λ_ _ _ _ _ _ _ q=>q) (λ_ _ _ _ _ _ _ q=>q) λj d y Q N R=>.inl ?_⟩,hσc⟩
 rotate_left 3
 .obtain⟨p,g,m⟩:=hπj j d Q;exact⟨p,QZ (rho π H.length) y,g,m,by rw[h j p g,N];rfl,by rw[QI];exact id,λc q=>(Qaj _ _ _ _ _).2 q⟩
 .intro j b x n u B;obtain⟨p,g,m⟩:=hπj j b n;have t:H[p]?=some (QZ (rho π H.length) x):=by rw[h j p g,u];rfl
  exact s.own p b _ m t (by rw[QI];exact B)
 .intro i j b x y n u B P O L;obtain⟨p,g,m⟩:=hπj i b n;obtain⟨F,f,G⟩:=hπj j b u;have t:H[p]?=some (QZ (rho π H.length) x):=by rw[h i p g,B];rfl
  have E:H[F]?=some (QZ (rho π H.length) y):=by rw[h j F f,P];rfl
  have:=s.inj p F b _ _ m G t E (by rw[QI];exact O) (by rw[QI];exact L);subst this;have r:i<π.length:=(XS.1 g).1;have a:j<π.length:=(XS.1 f).1;rw[XR r]at g;rw[XR a]at f;have k:=(X7 g).trans (X7 f).symm;rcases Nat.lt_trichotomy i j with q|q|q
  .exact(List.pairwise_iff_getElem.1 hπ i j r a q k).elim
  .exact q
  .exact(List.pairwise_iff_getElem.1 hπ j i a r q k.symm).elim
 .intro j y x n u;have a:j<π.length:=by
   rcases Nat.lt_or_ge j π.length with q|q
   .exact q
   .rw[XV (by simpa[Q6]using q)]at n;simp at n
  have g:π[j]?=some π[j]:=XR a;have t:H[π[j]]?=some (QZ (rho π H.length) x):=by rw[h j _ g,u];rfl
  have m:σ[π[j]]?=some y:=by
   have:=hσc j;rw[n]at this;simpa[rho,g]using this
  exact(QgF hσc).1 (s.blk _ y _ m t)
theorem Qo5{h0:Nat}{env':Env}{H':Qc}(π:List Nat)(b:π.take h0=List.range h0)(e:π.map (λp=>H[p]?)=(H'.map (QZ (rho π H.length))).map some)(hπ:π.Nodup)
  (hE:Qe4 (rho π H.length) env env'):Le h0 env H env' H':=by
 intro l k σ N a w r;obtain⟨h,hσ⟩:=r.sim.sub e hπ;refine⟨k,Q6 σ π,⟨h,Qe4.ok hσ r.env hE,r.size,r.defers⟩,λ_ q=>q,?_⟩;have g:=r.sim.len;have j:∀p∈π,p<H.length:=λp q=>Y6 e q;unfold Q6;rw[<- List.map_take,b];apply List.ext_getElem?;intro i;rcases Nat.lt_or_ge i h0 with q|q
 .have f:i∈π:=List.mem_of_mem_take (i:=h0) (by rw[b];exact List.mem_range.2 q);have d:i<σ.length:=by rw[g];exact j i f
  rw[Xr,List.getElem?_take,if_pos q,List.getElem?_range q];simp[XR d]
 .rw[XV (by simpa using q),List.getElem?_take,if_neg (by omega)]
theorem Le.phantom{h0 s k t:Nat}(f:h0<=H.length)(g:lk env s=.nils):Le h0 env H (up env s (.osl H.length 0 0 k)) (H++[.row t k []]):=by
 intro i d σ N a w r;refine⟨d,σ++[none],⟨r.sim.phantom t k,?_,r.size,r.defers⟩,λ_ q=>q,QU (by rw[r.sim.len];exact f)⟩;have ext:Ext d σ w d (σ++[none]) w:=⟨λ_ q=>q,λ_ _=>rfl,λ_ _ q=>q,λ_ _ h=>Jd h⟩;intro b;simp only[lk];by_cases q:b=s
 .subst q;rw[Nat.beq_refl];have:=r.env b;rw[g]at this;exact .inl ⟨rfl,this⟩
 .have:Nat.beq b s=false:=by
   rw[Bool.eq_false_iff];intro e;exact q (XX e)
  rw[this];exact(r.env b).mono ext
mutual
def Yb:A->Bool
 |.bool _=>true
 |.int _ _=>true
 |.str _=>true
 |.tup vs=>QdA vs
 |_=>false
def QdA:List A->Bool
 |[]=>true
 |a::r=>Yb a&&QdA r
end
mutual
theorem VR.scalar{ro ro':Nat->Prop}{σ σ':Sig}{w w':World}:∀{a:A}{v:Value},Yb a=true->VR ro σ w a v->VR ro' σ' w' a v
 |.bool _,_,_,h=>h
 |.int _ _,_,_,h=>h
 |.str _,_,_,h=>h
 |.tup vs,v,hs,h=>by
  simp only[VR,Yb]at h hs⊢;obtain⟨l,h1,h2⟩:=h;exact⟨l,h1,LR.scalar hs h2⟩
 |.any,_,hs,_=>by simp[Yb]at hs
 |.nilp,_,hs,_=>by simp[Yb]at hs
 |.ptr _ _,_,hs,_=>by simp[Yb]at hs
 |.rp _,_,hs,_=>by simp[Yb]at hs
 |.nils,_,hs,_=>by simp[Yb]at hs
 |.rsl _ _,_,hs,_=>by simp[Yb]at hs
 |.osl _ _ _ _,_,hs,_=>by simp[Yb]at hs
 |.agg _,_,hs,_=>by simp[Yb]at hs
 |.fn _ _ _,_,hs,_=>by simp[Yb]at hs
 |.nilf,_,hs,_=>by simp[Yb]at hs
 |.iface _ _,_,hs,_=>by simp[Yb]at hs
 |.nilif,_,hs,_=>by simp[Yb]at hs
 |.map _,_,hs,_=>by simp[Yb]at hs
 |.nilm,_,hs,_=>by simp[Yb]at hs
theorem LR.scalar{ro ro':Nat->Prop}{σ σ':Sig}{w w':World}:∀{az:List A}{l:List Value},QdA az=true->LR ro σ w az l->LR ro' σ' w' az l
 |[],_,_,h=>h
 |a::r,l,hs,h=>by
  simp only[LR,QdA,X4]at h hs⊢;obtain⟨v,l',h1,h2,h3⟩:=h;exact⟨v,l',h1,VR.scalar hs.1 h2,LR.scalar hs.2 h3⟩
end
def Look(H:Qc):A->A->Prop:=λa a'=>(a'=a/\Ye a=true)\/ ∃i n k t es,a=.osl i 0 n k/\H[i]?=some (.row t k es)/\es.length=n/\a'=.rsl k es
def Qa3(H:Qc):List A->List A->Prop
 |[],[]=>True
 |a::az,b::bs=>Look H a b/\Qa3 H az bs
 |_,_=>False
theorem QcA{h0 N:Nat}{Q:QC}{all:Array Oper}{l:List Oper}{d:Nat}{f:FuncId}{args B:List A}{Qr:A->Qc->Prop}(ad:OpC P o env H f args)(hv:Qa3 H args B)(hC:C P f B [] Qr)
  (ab:∀r H1,Qr r H1->Yb r=true)(k:∀r H1,Qr r H1->WO P h0 N all l (up env d r) H Q)(hg:Qx all o env true:=by exact rfl)(hd:o.dst=some d:=by exact rfl)(hN:Nat.blt d N=true:=by exact rfl):WO P h0 N all (o::l) env H Q:=by
 intro rd fr ro σ a w r hrd;obtain⟨M,h1,h2⟩:=ad fr ro σ N a w r;refine Qfa (Jg hg r) h1 ?_
 let roc:Nat->Prop:=λb=>ro b\/ ∃(i:Nat) (x:Blk),σ[i]?=some (some b)/\H[i]?=some x/\x.live=true
 let frc:Nat->Prop:=λb=>fr b\/ ∃(i:Nat) (x:Blk) (d:Nat),σ[i]?=some (some d)/\H[i]?=some x/\Hid w x d b
 have W:Sim frc roc [] [] w:=by
  refine⟨rfl,r.sim.roOk.to (λ_ q=>.inl q) (λ_ _=>rfl) ?_,?_,?_,by simp,by simp,by simp,by simp⟩
  .rintro b (q|⟨i,x,g,u,E⟩)
   .exact r.sim.roLt b q
   .exact(r.sim.own i b x g u E).1
  .rintro b (q|⟨i,x,d,g,u,E⟩)
   .exact r.sim.frLt b q
   .exact(r.sim.hid i d x b g u E).lt
  .rintro b (q|⟨i,x,g,u,E⟩) (q'|⟨i',x',d',Y,X,T⟩)
   .exact r.sim.roFr b q q'
   .exact(r.sim.hid i' d' x' b Y X T).ro q
   .exact(r.sim.own i b x g u E).2.2 q'
   .exact(r.sim.hid i' d' x' b Y X T).ne i b x g u E rfl
 have L:∀(az G:List A) (l:List Value),Qa3 H az G->LR ro σ w az l->LR roc [] w G l:=by
  intro az
  induction az with
  |nil=>
   intro G l F h;cases G with
   |nil=>exact h
   |cons b G=>exact F.elim
  |cons x az ih=>
   intro G l F h;cases G with
   |nil=>exact F.elim
   |cons y G=>
    obtain⟨hx,F⟩:=F;obtain⟨v,l',rfl,hv,h⟩:=h;refine⟨v,l',rfl,?_,ih G l' F h⟩;rcases hx with⟨rfl,hx⟩|⟨i,n,k,t,es,rfl,hH,hn,rfl⟩
    .exact(hv.data (σ':=[]) hx).mono ⟨λ_ q=>.inl q,λ_ _=>rfl,λ_ _ q=>q,λ_ _ q=>q⟩
    .subst hn;rcases hv with⟨h0,h⟩|⟨b,p,R,t',m,h1,h,h2,h3,h4,h5⟩
     .have:es=[]:=List.length_eq_zero_iff.1 h0;subst this;exact⟨none,0,h,X0 _,.inl rfl⟩
     .refine⟨_,R,h,h3,?_⟩;by_cases he:es=[]
      .exact .inl he
      .right;have hc:0<R:=Vn (List.length_pos_iff.2 he) h3;obtain rfl:=h2 hc;obtain⟨l,g,u⟩:=r.sim.blk i _ _ h1 hH;refine⟨b,0,by simp,.inr ⟨i,_,h1,hH,rfl⟩,?_⟩;have:=Jm (pre:=[]) (by simpa using g) u;exact this.keep ⟨λ_ q=>.inl q,λ_ _=>rfl,λ_ _ q=>q,λ_ _ q=>q⟩ rfl
 refine Calls.mono (hC frc roc [] M w W (L _ _ _ hv h2)) ?_;rintro e O ⟨v,rr,H1,ae,τ,rfl,hq,sc,ac,ev⟩;have J:∀(i b:Nat) (x:Blk),σ[i]?=some (some b)->H[i]?=some x->x.live=true->O.heap[b]?=w.heap[b]? :=λi b x g u E=>ev.keepRo b (.inr ⟨i,x,g,u,E⟩);have z:Qf fr ro w ro O:=⟨λ_ q=>q,λb q=>ev.keepRo b (.inl q),λb q=>ev.keepFr b (.inl q),ev.size,ev.shape,ev.os,ev.tape,ev.output,ev.drawn⟩;have V:Sim fr ro σ H O:=by
  refine⟨r.sim.len,r.sim.roOk.to (λ_ q=>q) z.keepRo (λb q=>Vn (r.sim.roLt b q) ev.size),λb q=>Vn (r.sim.frLt b q) ev.size,r.sim.roFr,?_,r.sim.inj,?_,r.sim.hidTo (· = ·) Q2 ev.size (λ_ _ _ _ _ _ _ q=>q) (λ_ _ _ _ _ _ _ q=>q) λj d y g1 g2 g3=>.inl ⟨j,y,rfl,g1,g2,id,λc q=>r.sim.hidKeep g1 g2 (J j d y g1 g2) z.keepRo q⟩⟩
  .intro i b x g u E;obtain⟨p1,p2,p3⟩:=r.sim.own i b x g u E;exact⟨Vn p1 ev.size,p2,p3⟩
  .intro i y x g u;refine(r.sim.blk i y x g u).keep (z.ext0 σ) ?_ ?_
   .rintro b rfl F;exact J i b x g u F
   .rintro b c rfl F;exact ev.keepFr c (.inr ⟨i,x,b,g,u,F⟩)
 have hk:=k rr H1 hq;have aa:d<N:=by simpa using hN
 simp only[hd,Act.put];have r':Rel fr ro σ H (up env d rr) N {a with tmps:=a.tmps.setIfInBounds d v} O:=
  ⟨V,VR.up (fr:=fr) (λs=>(r.env s).mono (z.ext0 σ)) (by rw[r.size];exact aa) (ac.scalar (ab _ _ hq)),by simpa using r.size,r.defers.keep z⟩
 exact⟨_,rfl,Yn (λe a w q=>q.step z rfl) _ _ _ (hk rd fr ro σ _ O r' (hrd.to z λ_ q=>q))⟩
end
end Go.Sw
namespace Go.Sw
section
variable {P:Program}{o:Oper}{env:Env}{H:Qc}
theorem Qfu{α:Type}:∀(vs:List α) (off i:Nat) (l:List α),off+i+vs.length<=l.length->
  (vs.zipIdx i).foldl (λ(cs:Array α) (x:α×Nat)=>cs.setIfInBounds (off+x.2) x.1) l.toArray=(splice l (off+i) vs).toArray
 |[],off,i,l,h=>by simp[splice]
 |v::vs,off,i,l,h=>by
  simp only[X8]at h;rw[List.zipIdx_cons,XK];have e1:l.toArray.setIfInBounds (off+i) v=(splice l (off+i) [v]).toArray:=by
   have:l.toArray.setIfInBounds (off+i) v=(l.set (off+i) v).toArray:=by simp
   rw[this];congr 1;rw[List.set_eq_take_append_cons_drop,if_pos (by omega)];simp[splice]
  rw[e1,Qfu vs off (i+1) _ (by rw[Yl (by simp;omega)];omega)];congr 1;have a:(l.take (off+i)).length=off+i:=by simp;omega
  unfold splice;rw[Vq (l.take (off+i))];have d:off+(i+1)=(l.take (off+i)).length+1:=by omega
  have b:(l.take (off+i)++([v]++l.drop (off+i+[v].length))).take ((l.take (off+i)).length+1)=l.take (off+i)++[v]:=by
   rw[Vj];simp
  have e:(l.take (off+i)++([v]++l.drop (off+i+[v].length))).drop ((l.take (off+i)).length+1+vs.length)=l.drop (off+i+(v::vs).length):=by
   rw[show(l.take (off+i)).length+1+vs.length=(l.take (off+i)).length+(1+vs.length)from by omega,Vi];simp[Nat.add_comm 1];congr 1;omega
  rw[d,b,e];simp
theorem Qfw{a:Nat->Option (Nat×Nat)}{l:List Value}{i off size:Nat}{v:Value}{m:List Value}{rest:List (Nat×Value)}(e:a i=some (off,size))(d:v.cells=m.toArray)(f:m.length=size)
  (g:off+size<=l.length):Instr.fill a l.toArray ((i,v)::rest)=Instr.fill a (splice l off m).toArray rest:=by
 have b:v.cells.size=size:=by rw[d];simpa using f
 rw[Instr.fill];simp only[e];rw[if_neg (by simp[b];omega),d];congr 1;have:=Qfu m off 0 l (by omega);rw[XC]at this;rw[<- this];simp[Array.foldl_toList]
def QaK:Nat->List Operand->List (Nat×Operand)
 |_,[]=>[]
 |i,x::xs=>(i,x)::QaK (i+1) xs
def Yc(env:Env)(xs:List Operand):List (List A):=xs.map λx=>Q8 (opA env x)
theorem Qes{fr ro:Nat->Prop}{σ:Sig}{N:Nat}{a:Act}{w:World}(r:Rel fr ro σ H env N a w){k:Nat}:∀(xs:List Operand) (j:Nat) (pre rest:List Value),pre.length=j*k->rest.length=xs.length*k->
  (xs.all λx=>Yk (opA env x))=true->allK k (Yc env xs)->
  ∃l,Instr.fill (λi=>some (i*k,k)) (pre++rest).toArray ((QaK j xs).map λp=>(p.1,a.eval p.2))=some (pre++l).toArray/\LR ro σ w (Yc env xs).flatten l
 |[],j,pre,rest,h1,h2,_,_=>by
  have:rest=[]:=List.length_eq_zero_iff.1 (by simpa using h2);subst this;exact⟨[],rfl,rfl⟩
 |x::xs,j,pre,rest,h1,h2,h3,h4=>by
  simp only[List.all_cons,X4]at h3;obtain⟨hk1,hk2⟩:=h4;obtain⟨m,q1,q2⟩:=(Qg r x).cells h3.1;have hm:m.length=k:=by rw[q2.length];exact hk1
  simp only[X8,Xn]at h2;simp only[QaK,Vr];rw[Qfw (off:=j*k) (size:=k) rfl q1 hm (by simp;omega)];have e:splice (pre++rest) (j*k) m=(pre++m)++rest.drop k:=by
   unfold splice;rw[<- h1,List.take_left,Vi,hm]
  rw[e];obtain⟨l,b,d⟩:=Qes r xs (j+1) (pre++m) (rest.drop k) (by simp[h1,hm,Xn]) (by simp;omega) h3.2 hk2;refine⟨m++l,?_,?_⟩
  .rw[b];simp
  .show LR ro σ w ((Q8 (opA env x))++(Yc env xs).flatten) (m++l);exact q2.append d
theorem Qbv{fr ro:Nat->Prop}{σ:Sig}{N:Nat}{a:Act}{w:World}(r:Rel fr ro σ H env N a w){T e k n:Nat}{xs:List Operand}(E:Q0 P T e k)(m:xs.length=n)(f:Nat.ble (n*k) 16777216=true)
  (s:(xs.all λx=>Yk (opA env x))=true)(j:allK k (Yc env xs)):
  ∃l,(Instr.buildSlice T n (((QaK 0 xs).map λp=>(p.1,a.eval p.2)).toArray)).run P w=.ok (.slice (some ⟨w.heap.size,0,none⟩) n n) (w.alloc (.cells l.toArray e))/\LR ro σ w (Yc env xs).flatten l:=by
 obtain⟨z,y,u⟩:=E.zero;have q:n*k<=16777216:=by simpa using f
 have d:∀(c:Array Value) (W:World),(newRow e c).run P W=.ok ⟨W.heap.size,0,none⟩ (W.alloc (.cells c e)):=λc W=>rfl;unfold Instr.buildSlice;by_cases g:n*k=0
 .obtain⟨l,b,h⟩:=Qes r (k:=k) xs 0 [] [] (by simp) (by rw[m];simpa using g.symm) s j;refine⟨l,?_,h⟩;simp only[Vu,E.sl,Result.andThen,E.size,g];simp only[Xo,gt_iff_lt,if_false,if_true,Vv,XO,Result.andThen];have t:Array.range 0= #[]:=rfl;simp at b;simp[t,b,d]
 .obtain⟨l,b,h⟩:=Qes r (k:=k) xs 0 [] ((Array.range (n*k)).map (λi=>z.cells[i%z.cells.size]!)).toList (by simp) (by rw[m];simp) s j;refine⟨l,?_,h⟩;simp only[Vu,E.sl,Result.andThen,E.size,if_neg g,XO,y,Vv];rw[if_neg (by omega)];simp only[Vp]at b;rw[Array.toArray_toList]at b;simp only[b,Vu,d,Result.andThen,Vv]
theorem Qbn{T n:Nat}{xs:List Operand}(a:o.op=.buildSlice T n (QaK 0 xs).toArray)(ρ:Operand->Value){v:Value}{w w':World}
  (h:(Instr.buildSlice T n (((QaK 0 xs).map λp=>(p.1,ρ p.2)).toArray)).run P w=.ok v w'):(execOp ρ o).run P w=.ok (.value v) w':=by
 simp only[execOp,a,Vu,XP,h,Result.andThen,Vv]
theorem OpH.lit{T e k n:Nat}{xs:List Operand}{es:List (List A)}(E:Q0 P T e k)(u:o.op=.buildSlice T n (QaK 0 xs).toArray)(i:xs.length=n)(g:Nat.ble (n*k) 16777216=true)
  (z:(xs.all λx=>Yk (opA env x))=true)(h:Yc env xs=es)(b:allK k es)(y:es.flatten.all Ys=true)(s:Yj es.flatten=true):
  OpH P o env H (.osl H.length 0 n k) (H++[.row e k es]):=by
 intro B p σ N a w r;subst h;obtain⟨l,t,f⟩:=Qbv r E i g z b;have d:LR p [] w (Yc env xs).flatten l:=f.data s;obtain⟨m,j⟩:=Qe1 (T:=e) (rest:=[]) r.sim b d (f.plain y);rw[Vo]at m j;have q:l.length=n*k:=by rw[f.length,YS b];simp[Yc,i]
 refine⟨_,_,p,[some w.heap.size],Qbn u a.eval t,.inr ⟨w.heap.size,0,n,e,l.length,?_,rfl,λ_=>by simp,X0 _,?_,by rw[q,XB];exact X0 _⟩,m,j⟩
 .rw[<- r.sim.len];simp
 .unfold World.shape?;rw[YH];simp
theorem YQ{n:Int}{y:Nat}{c:BoundsCode}{w:World}(h0:0<=n)(a:n<=y):(Instr.sliceBound (.int .i64 n) y c).run P w=.ok n.toNat w:=by
 simp[Instr.sliceBound,asIntOf,h0,a,go_sem]
theorem QfZ{T e:Nat}{k:Nat}{w:World}(E1:∀w,(underlying T).run P w=.ok (.slice e) w)(E2:∀w,(sizeOf e).run P w=.ok k w){ad:Option Addr}{n cap:Nat}{lo a:Option Value}{l h:Nat}(g:n<=cap)
  (d:lo=none/\l=0\/ ∃z:Int,lo=some (.int .i64 z)/\0<=z/\z.toNat=l)(b:a=none/\h=n\/ ∃z:Int,a=some (.int .i64 z)/\0<=z/\z.toNat=h)(j:l<=h)(m:h<=n):
  (Instr.sliceAt T (.slice ad n cap) lo a none).run P w=.ok (.slice (if cap=l then ad else ad.map (·.add (l*k))) (h-l) (cap-l)) w:=by
 have i:(Instr.sliceBounds true n cap lo a none).run P w=.ok (l,h,cap) w:=by
  rcases d with⟨rfl,rfl⟩|⟨z,rfl,f,rfl⟩<;>rcases b with⟨rfl,rfl⟩|⟨y,rfl,y0,rfl⟩
  .simp[Instr.sliceBounds,go_sem]
  .simp only[Instr.sliceBounds,Vu,Vv,Result.andThen,YQ y0 (show y<=(cap:Int)by omega)]
  .simp only[Instr.sliceBounds,Vu,Vv,Result.andThen,YQ f (show z<=(h:Int)by omega)]
  .simp only[Instr.sliceBounds,Vu,Vv,Result.andThen,YQ y0 (show y<=(cap:Int)by omega),YQ f (show z<=(y.toNat:Int)by omega)]
 simp only[Instr.sliceAt,Vu,E1,Result.andThen,Instr.slice,i,E2,Vv]
theorem QaS{fr ro:Nat->Prop}{σ:Sig}{N:Nat}{a:Act}{w:World}(r:Rel fr ro σ H env N a w){x:Option Operand}{l d:Nat}(h:x=none/\l=d\/ ∃y,∃z:Int,x=some y/\opA env y=.int .i64 z/\0<=z/\z.toNat=l):
  x.map a.eval=none/\l=d\/ ∃z:Int,x.map a.eval=some (.int .i64 z)/\0<=z/\z.toNat=l:=by
 rcases h with⟨rfl,rfl⟩|⟨y,z,rfl,f,e,b⟩
 .exact .inl ⟨rfl,rfl⟩
 .exact .inr ⟨z,by simp[QX r f],e,b⟩
theorem QhO{T e k i s n:Nat}{x:Operand}{lo E:Option Operand}{l h:Nat}(E1:∀w,(underlying T).run P w=.ok (.slice e) w)(E2:∀w,(sizeOf e).run P w=.ok k w)(G:o.op=.slice T x lo E none)
  (V:opA env x=.osl i s n k)(j:lo=none/\l=0\/ ∃y,∃z:Int,lo=some y/\opA env y=.int .i64 z/\0<=z/\z.toNat=l)
  (u:E=none/\h=n\/ ∃y,∃z:Int,E=some y/\opA env y=.int .i64 z/\0<=z/\z.toNat=h)(t:l<=h)(J:h<=n):OpV P o env H (.osl i (s+l) (h-l) k):=by
 intro X W σ N a w r;have g:=Qg r x;rw[V]at g;rcases g with⟨rfl,g⟩|⟨b,p,f,M,m,g,O,Q,R,F,L⟩
 .have d:=QfZ (P:=P) (w:=w) E1 E2 (ad:=none) (X0 0) (QaS r j) (QaS r u) t J;refine⟨_,by simp only[execOp,G,g,Vu,d,Result.andThen,Vv,Xl];rfl,?_⟩;left;obtain rfl:h=0:=by omega
  obtain rfl:l=0:=by omega
  simp
 .have d:=QfZ (P:=P) (w:=w) E1 E2 (ad:=some ⟨b,p,none⟩) R (QaS r j) (QaS r u) t J;refine⟨_,by simp only[execOp,G,O,Vu,d,Result.andThen,Vv,Xl];rfl,?_⟩;right;by_cases B:f=l
  .refine⟨b,p,0,M,m,g,by rw[if_pos B];simp[B],λq=>by omega,by omega,F,?_⟩;subst B;exact X3 (by simp) L
  .refine⟨b,p+l*k,f-l,M,m,g,by rw[if_neg B];simp[QaD],λq=>by rw[Q (by omega),XG],by omega,F,?_⟩;rw[show s+l+(f-l)=s+f from by omega];exact L
theorem QmD{T e k:Nat}{x:Operand}{lo g:Option Operand}{l h:Nat}(E1:∀w,(underlying T).run P w=.ok (.slice e) w)(E2:∀w,(sizeOf e).run P w=.ok k w)(p:o.op=.slice T x lo g none)
  (n:opA env x=.nils)(i:lo=none/\l=0\/ ∃y,∃z:Int,lo=some y/\opA env y=.int .i64 z/\0<=z/\z.toNat=l)
  (f:g=none/\h=0\/ ∃y,∃z:Int,g=some y/\opA env y=.int .i64 z/\0<=z/\z.toNat=h)(j:l<=h)(m:h<=0):OpV P o env H .nils:=by
 intro s q σ N a w r;have d:=Qg r x;rw[n]at d;simp only[VR]at d;have b:=QfZ (P:=P) (w:=w) E1 E2 (ad:=none) (X0 0) (QaS r i) (QaS r f) j m;refine⟨_,by simp only[execOp,p,d,Vu,b,Result.andThen,Vv,Xl];rfl,?_⟩;obtain rfl:h=0:=by omega
 obtain rfl:l=0:=by omega
 simp[VR]
theorem OpV.max{c:Call}{x y:Operand}{k:IntKind}{m n:Int}(j:o.op=.call c)(e:c={callee:=.builtin .max,args:= #[x,y],argTypes:=c.argTypes})(g:opA env x=.int k m)(i:opA env y=.int k n):
  OpV P o env H (.int k (if m<n then n else m)):=by
 intro p l σ N a w r;have h:=QX r g;have f:=QX r i;refine⟨_,?_,rfl⟩;generalize a.eval=ρ at*;have b:c.callee=.builtin .max:=by rw[e]
 have d:c.args= #[x,y]:=by rw[e]
 simp only[execOp,j,resolve,b,d,invoke,Go.builtin,Vu,Vv,Result.andThen];simp[Builtin.max_,Builtin.max2,h,f,go_sem]
theorem OpV.min{c:Call}{x y:Operand}{k:IntKind}{m n:Int}(j:o.op=.call c)(e:c={callee:=.builtin .min,args:= #[x,y],argTypes:=c.argTypes})(g:opA env x=.int k m)(i:opA env y=.int k n):
  OpV P o env H (.int k (if n<m then n else m)):=by
 intro p l σ N a w r;have h:=QX r g;have f:=QX r i;refine⟨_,?_,rfl⟩;generalize a.eval=ρ at*;have b:c.callee=.builtin .min:=by rw[e]
 have d:c.args= #[x,y]:=by rw[e]
 simp only[execOp,j,resolve,b,d,invoke,Go.builtin,Vu,Vv,Result.andThen];simp[Builtin.min_,Builtin.min2,h,f,go_sem]
end
end Go.Sw
namespace Go.Sw
section
variable {P:Program}{h0 N:Nat}{env:Env}{H:Qc}{Q:QC}{c c':Code}
def CutP(h0:Nat)(Eb:Env)(Hb:Qc)(Q:QC):QC
 |.normal,env,H=>Le h0 env H Eb Hb
 |.exit id,env,H=>Q (.exit id) env H
 |.ret,env,H=>Q .ret env H
theorem TC.cut(Eb:Env)(Hb:Qc)(h:TC P h0 N c env H (CutP h0 Eb Hb Q))(k:∀env H,Le h0 env H Eb Hb->Q .normal env H):TC P h0 N c env H Q:=
 h.mono λx env' H' q=>by
  cases x with
  |normal=>exact k _ _ q
  |exit id=>exact q
  |ret=>exact q
theorem Qk3(h:TC P h0 N c env H Q):Seq P h0 N c Q .normal env H:=h
theorem seqX{id:Nat}(h:Q (.exit id) env H):Seq P h0 N c Q (.exit id) env H:=h
theorem seqR(h:Q .ret env H):Seq P h0 N c Q .ret env H:=h
theorem bloN{id:Nat}(h:Q .normal env H):Blo id Q .normal env H:=h
theorem bloE{id:Nat}(h:Q .normal env H):Blo id Q (.exit id) env H:=by simp only[Blo,Nat.beq_refl,cond_true];exact h
theorem bloX{id a:Nat}(e:Nat.beq a id=false)(h:Q (.exit a) env H):Blo id Q (.exit a) env H:=by simp only[Blo,e,cond_false];exact h
theorem bloR{id:Nat}(h:Q .ret env H):Blo id Q .ret env H:=h
def QjD{S B:Type}(h0:Nat)(b:Ctl S B)(Eb:S->Env)(Hb:S->Qc)(Q:QC):QC
 |.normal,env,H=>∃s,b=.cont s/\Le h0 env H (Eb s) (Hb s)
 |.exit id,env,H=>Q (.exit id) env H
 |.ret,env,H=>Q .ret env H
theorem Qjw{S B:Type}{b:Ctl S B}(Eb:S->Env)(Hb:S->Qc)(h:TC P h0 N c env H (QjD h0 b Eb Hb Q))(k:∀s env H,b=.cont s->Le h0 env H (Eb s) (Hb s)->Q .normal env H):TC P h0 N c env H Q:=
 h.mono λx env' H' q=>by
  cases x with
  |normal=>obtain⟨s,e,q⟩:=q;exact k s _ _ e q
  |exit id=>exact q
  |ret=>exact q
section
variable {S B:Type}{b:Ctl S B}{Eb:S->Env}{Hb:S->Qc}
theorem Qp{s:S}(e:b=.cont s)(h:Le h0 env H (Eb s) (Hb s)):QjD h0 b Eb Hb Q .normal env H:=⟨s,e,h⟩
theorem Qm(h:Q .ret env H):QjD h0 b Eb Hb Q .ret env H:=h
end
theorem Qmz{x:Operand}{t:Bool}(hx:opA env x=.bool t)(h:t=true)(ht:TC P h0 N c env H Q):TC P h0 N (.cond x c c') env H Q:=TC.cond hx (λ_=>ht) (λq=>by rw[h]at q;cases q)
theorem QhJ{x:Operand}{t:Bool}(hx:opA env x=.bool t)(h:t=false)(hf:TC P h0 N c' env H Q):TC P h0 N (.cond x c c') env H Q:=TC.cond hx (λq=>by rw[h]at q;cases q) (λ_=>hf)
section
variable {S B:Type}{I:S->Env->Qc->Prop}
theorem Qj{s:S}{d:Ctl S B}(e:some (Ctl.cont s)=some d)(h:I s env H):Qa2 I d Q .normal env H:=⟨s,(X7 e).symm,h⟩
theorem Qk{id:Nat}{b:B}{d:Ctl S B}(e:some (Ctl.done b)=some d)(h:Q (.exit id) env H):Qa2 I d Q (.exit id) env H:=⟨⟨b,(X7 e).symm⟩,h⟩
theorem Qn{b:B}{d:Ctl S B}(e:some (Ctl.done b)=some d)(h:Q .ret env H):Qa2 I d Q .ret env H:=⟨⟨b,(X7 e).symm⟩,h⟩
end
end
theorem YP{α β:Type}{x:Option α}{f:α->Option β}{r:β}(h:x.bind f=some r):∃a,x=some a/\f a=some r:=Option.bind_eq_some_iff.1 h
theorem ifT{α:Type}{c:Bool}{x y:Option α}{r:α}(a:c=true)(h:(bif c then x else y)=some r):x=some r:=by subst a;exact h
theorem ifF{α:Type}{c:Bool}{x y:Option α}{r:α}(a:c=false)(h:(bif c then x else y)=some r):y=some r:=by subst a;exact h
def idx{α:Type}(l:List α)(i:Int):Option α:=bif decide (0<=i)then l[i.toNat]? else none
theorem Qa9{α:Type}{l:List α}{i:Int}{x:α}(h:idx l i=some x):0<=i/\l[i.toNat]?=some x:=by
 unfold idx at h;by_cases q:0<=i
 .rw[decide_eq_true q]at h;exact⟨q,h⟩
 .rw[decide_eq_false q]at h;simp at h
def app{α:Type}(l m:List α):Option (List α):=bif Nat.ble (l.length+m.length) QR then some (l++m)else none
theorem QoZ{α:Type}{l m r:List α}(h:app l m=some r):l.length+m.length<=QR/\l++m=r:=by
 unfold app at h;cases q:Nat.ble (l.length+m.length) QR with
 |true=>rw[q]at h;exact⟨XY q,X7 h⟩
 |false=>rw[q]at h;simp at h
def slc{α:Type}(l:List α)(lo hi:Int):Option (List α):=bif decide (0<=lo)&&decide (lo<=hi)&&decide (hi<=(l.length:Int))then some ((l.take hi.toNat).drop lo.toNat)else none
theorem QdX{α:Type}{l r:List α}{lo a:Int}(h:slc l lo a=some r):0<=lo/\lo<=a/\a<=l.length/\(l.take a.toNat).drop lo.toNat=r:=by
 unfold slc at h;cases q:(decide (0<=lo)&&decide (lo<=a)&&decide (a<=(l.length:Int)))with
 |true=>
  rw[q]at h;simp at q;exact⟨q.1.1,q.1.2,q.2,X7 h⟩
 |false=>rw[q]at h;simp at h
def Qbs{α:Type}(l:List α)(i:Int)(x:α):Option (List α):=bif decide (0<=i)&&decide (i<(l.length:Int))then some (l.set i.toNat x)else none
theorem QdE{α:Type}{e:α->List A}{l:List α}{i:Nat}{x:α}(h:l[i]?=some x):(l.map e)[i]?=some (e x):=by simp[h]
end Go.Sw
namespace Go.Sw
section
variable {P:Program}{h0 N:Nat}{env:Env}{H H':Qc}{Q:QC}{all:Array Oper}{o:Oper}{l:List Oper}{d:Nat}{x:A}
theorem vV(a:OpV P o env H x)(k:WO P h0 N all l (up env d x) H Q)(hg:Qx all o env true:=by exact rfl)(hd:o.dst=some d:=by exact rfl)(hN:Nat.blt d N=true:=by exact rfl):WO P h0 N all (o::l) env H Q:=
 QH hg hd hN a k
theorem vH(a:OpH P o env H x H')(k:WO P h0 N all l (up env d x) H' Q)(hg:Qx all o env true:=by exact rfl)(hd:o.dst=some d:=by exact rfl)(hN:Nat.blt d N=true:=by exact rfl)(hh:Nat.ble h0 H.length=true:=by exact rfl):WO P h0 N all (o::l) env H Q:=
 Qca (XY hh) hg hd hN a k
theorem vU(a:OpU P o env H H')(k:WO P h0 N all l env H' Q)(hg:Qx all o env true:=by exact rfl)(hd:o.dst=none:=by exact rfl)(hh:Nat.ble h0 H.length=true:=by exact rfl):WO P h0 N all (o::l) env H Q:=
 Qiw (XY hh) hg hd a k
theorem gT{j s:Nat}{c x:Bool}(a:x=c)(hg:o.guard=some (j,c):=by exact rfl)(hs:(all[j]?).bind (·.dst)=some s:=by exact rfl)(hl:lk env s=.bool x:=by exact rfl):Qx all o env true:=by
 unfold Qx;rw[hg];exact⟨s,hs,.inl ⟨x,hl,by subst a;cases x<;>rfl⟩⟩
theorem gF{j s:Nat}{c x:Bool}(a:x= !c)(hg:o.guard=some (j,c):=by exact rfl)(hs:(all[j]?).bind (·.dst)=some s:=by exact rfl)(hl:lk env s=.bool x:=by exact rfl):Qx all o env false:=by
 unfold Qx;rw[hg];exact⟨s,hs,.inl ⟨x,hl,by subst a;cases c<;>rfl⟩⟩
theorem Qmw{x x':A}(b:x'=x)(a:H'=H)(k:WO P h0 N all l (up env d x) H Q):WO P h0 N all l (up env d x') H' Q:=by subst b;subst a;exact k
theorem Qo3(a:H'=H)(k:WO P h0 N all l env H Q):WO P h0 N all l env H' Q:=by subst a;exact k
theorem Qt{f:FuncId}{args a:List A}{Hc:Qc}{Qr:A->Qc->Prop}(π:List Nat)(b:OpC P o env H f args)(g:C P f a Hc Qr)
  (k:∀r H1,Qr r H1->WO P h0 N all l (up env d (Yx (rho π H.length) r)) (Yg H π (H1.map (QZ (rho π H.length)))) Q)
  (hargs:args=Qaa (rho π H.length) a:=by exact rfl)(hH:π.map (λp=>H[p]?)=(Hc.map (QZ (rho π H.length))).map some:=by exact rfl)(hπ:π.Nodup:=by decide)
  (hg:Qx all o env true:=by exact rfl)(hd:o.dst=some d:=by exact rfl)(hN:Nat.blt d N=true:=by exact rfl)(hh:Nat.ble h0 H.length=true:=by exact rfl):WO P h0 N all (o::l) env H Q:=
 WO.call (d:=some d) π (XY hh) hg hd (λx e=>by cases e;simpa using hN) b hargs hH hπ g k
end
section
variable {P:Program}{o:Oper}{env:Env}{H:Qc}{α:Type}{e:α->List A}
theorem Yz{c:Call}{t et k:Nat}{x:Operand}{l:List α}(a:∀w,(underlying t).run P w=.ok (.slice et) w)(b:o.op=.call c:=by exact rfl)(hc:c={callee:=.builtin .len,args:= #[x],argTypes:= #[t]}:=by exact rfl)
  (hx:opA env x=.rsl k (l.map e):=by exact rfl):OpV P o env H (.int .i64 l.length):=by
 have:=QmA (H:=H) b hc a hx
 rwa [X9]at this
theorem YJ{t et k:Nat}{x y:Operand}{l:List α}{a:IntKind}{i:Int}{v:α}(h:idx l i=some v)(f:∀w,(underlying t).run P w=.ok (.slice et) w)(b:∀w,(sizeOf et).run P w=.ok k w)
  (d:o.op=.indexAddr t x y:=by exact rfl)(hx:opA env x=.rsl k (l.map e):=by exact rfl)(hy:opA env y=.int a i:=by exact rfl):OpV P o env H (.rp (e v)):=
 QnM d f b hx hy (Qa9 h).1 (QdE (Qa9 h).2)
theorem QN{t et k b n:Nat}{x y:Operand}{l:List α}{f:IntKind}{i:Int}{v:α}(h:idx l i=some v)(m:l.length=n)(a:∀w,(underlying t).run P w=.ok (.slice et) w)(g:∀w,(sizeOf et).run P w=.ok k w)
  (d:o.op=.indexAddr t x y:=by exact rfl)(hx:opA env x=.osl b 0 n k:=by exact rfl)(hy:opA env y=.int f i:=by exact rfl):OpV P o env H (.ptr b (i.toNat*k)):=by
 have:=Qa9 h;have e:i.toNat<l.length:=(XS.1 this.2).1;have j:=QnN (H:=H) d a g hx hy this.1 (by omega)
 rwa [Nat.zero_mul,XB]at j
theorem Qkr{b t k f:Nat}{l:List α}{i:Int}{v:α}{cs':List A}(h:idx l i=some v)(a:H[b]?=some (.row t k (l.map e)):=by exact rfl)(hcs:(e v).drop f=cs':=by exact rfl):Pts H (.ptr b (i.toNat*k+f)) cs':=
 Pts.row a rfl (QdE (Qa9 h).2) hcs
theorem Qo{b t k:Nat}{l:List α}{i:Int}{v:α}{cs':List A}(h:idx l i=some v)(a:H[b]?=some (.row t k (l.map e)):=by exact rfl)(hcs:e v=cs':=by exact rfl):Pts H (.ptr b (i.toNat*k)) cs':=
 Pts.row (f:=0) a rfl (QdE (Qa9 h).2) hcs
theorem QM{c:Call}{T T' et et' k i n:Nat}{x y:Operand}{ya:A}{l m r:List α}(h:app l m=some r)(E:Q0 P T et k)(d:∀w,(underlying T').run P w=.ok (.slice et') w)(b:Src P H ya k (m.map e))
  (a:l.length=n:=by exact rfl)(ho:o.op=.call c:=by exact rfl)(hc:c={callee:=.builtin .append,args:= #[x,y],argTypes:= #[T,T']}:=by exact rfl)(hx:opA env x=.osl i 0 n k:=by exact rfl)
  (hH:H[i]?=some (.row et k (l.map e)):=by exact rfl)(hy:opA env y=ya:=by exact rfl):
  OpH P o env H (.osl H.length 0 r.length k) (H.set i .dead++[.row et k (r.map e)]):=by
 obtain⟨f,rfl⟩:=QoZ h;subst a;have:=QhQ E d ho hc hx hH (by simp) hy b (by simpa using f) (gs:=(l++m).map e) (by rw[List.take_of_length_le (by simp)];simp);simpa using this
theorem Qgu{k:Nat}{l:List α}:Src P H (.rsl k (l.map e)) k (l.map e):=Src.rsl
theorem YI{i n k t:Nat}{l:List α}(a:H[i]?=some (.row t k (l.map e)):=by exact rfl)(hn:l.length=n:=by exact rfl):Src P H (.osl i 0 n k) k (l.map e):=
 Src.osl a (by subst hn;rw[List.drop_zero,List.take_of_length_le (by simp)]) (by simp[hn])
theorem Jn{t n b T k f:Nat}{x y:Operand}{l l':List α}{i:Int}{v m:α}{vs:List A}{a:A}{off:Nat}(h:idx l i=some v)(g:Qbs l i m=some l')(r:∀w,(sizeOf t).run P w=.ok n w)(d:off=i.toNat*k+f)(j:splice (e v) f vs=e m)
  (p:o.op=.store t x y:=by exact rfl)(hx:opA env x=.ptr b off:=by exact rfl)(hH:H[b]?=some (.row T k (l.map e)):=by exact rfl)
  (hy:opA env y=a:=by exact rfl)(hk:Yk a=true:=by exact rfl)(hv:Q8 a=vs:=by exact rfl)(hn:vs.length=n:=by exact rfl)(hp:vs.all Ys=true:=by exact rfl)(hd:Yj vs=true:=by exact rfl)(hf:Nat.ble (f+n) k=true:=by exact rfl):
  OpU P o env H (H.set b (.row T k (l'.map e))):=by
 refine Qgw p hx hH r d (QdE (Qa9 h).2) hy hk hv hn hp hd hf j ?_;unfold Qbs at g;cases q:(decide (0<=i)&&decide (i<(l.length:Int)))with
 |false=>rw[q]at g;simp at g
 |true=>rw[q]at g;rw[<- X7 g,List.map_set]
end
def ZR(a:A)(v:Value):Prop:=∀ro σ w,VR ro σ w a v
def ZL(az:List A)(l:List Value):Prop:=∀ro σ w,LR ro σ w az l
theorem ZR.int{k:IntKind}{n:Int}:ZR (.int k n) (.int k n):=λ_ _ _=>rfl
theorem ZR.bool{b:Bool}:ZR (.bool b) (.bool b):=λ_ _ _=>rfl
theorem ZR.str:ZR (.str []) (.string ⟨#[]⟩):=λ_ _ _=>rfl
theorem ZR.rsl{α:Type}{k:Nat}{e:α->List A}:ZR (.rsl k (List.map e [])) (.slice none 0 0):=λ_ _ _=>⟨none,0,rfl,X0 _,.inl rfl⟩
theorem ZR.nils:ZR .nils (.slice none 0 0):=λ_ _ _=>rfl
theorem ZR.nilp:ZR .nilp (.pointer none):=λ_ _ _=>rfl
theorem ZR.nilf:ZR .nilf .nilFunc:=λ_ _ _=>rfl
theorem ZR.nilm:ZR .nilm (.map none):=λ_ _ _=>rfl
theorem QnJ:ZR .nilif .nilIface:=λ_ _ _=>rfl
theorem ZL.nil:ZL [] []:=λ_ _ _=>rfl
theorem ZL.cons{a:A}{v:Value}{az:List A}{l:List Value}(h:ZR a v)(k:ZL az l):ZL (a::az) (v::l):=λro σ w=>⟨v,l,rfl,h ro σ w,k ro σ w⟩
theorem ZR.agg{az:List A}{l:List Value}(h:ZL az l):ZR (.agg az) (.agg l.toArray):=λro σ w=>⟨l,rfl,h ro σ w⟩
section
variable {P:Program}{o:Oper}{env:Env}{H:Qc}
theorem Qcc{t:Nat}{z:Value}{v:A}{cs:List A}(h:∀w,(zeroValue t).run P w=.ok z w)(g:ZR v z)(f:o.op=.alloc t:=by exact rfl)(hk:Yk v=true:=by exact rfl)(hcs:Q8 v=cs:=by exact rfl)(hpl:cs.all Ys=true:=by exact rfl):
  OpH P o env H (.ptr H.length 0) (H++[.cells t cs]):=by
 intro j b σ N a w r;obtain⟨l,i,d⟩:=(g b σ w).cells hk;subst hcs;refine⟨.pointer (some ⟨w.heap.size,0,none⟩),w.alloc (.cells l.toArray t),b,[some w.heap.size],?_,⟨w.heap.size,?_,rfl⟩,r.sim.allocCells d (d.plain hpl),Qf.alloc _ r.sim.roLt r.sim.frLt⟩
 .generalize a.eval=ρ at*;have e:(newVar t z).run P w=.ok ⟨w.heap.size,0,none⟩ (w.alloc (.cells l.toArray t)):=by
   unfold newVar;rw[i];rfl
  simp only[execOp,f,Instr.alloc,Vu,h,Result.andThen,e];rfl
 .rw[<- r.sim.len];simp
theorem QeE{t:TypeId}{p q:Bool}{w:World}(a:∀w,(underlying t).run P w=.ok .bool w):(Op.equal t (.bool p) (.bool q)).run P w=.ok (p==q) w:=by
 have k:∀d,(Op.equalIn (d+1) t (.bool p) (.bool q)).run P w=.ok (p==q) w:=by
  intro d;simp[Op.equalIn,a,go_sem]
 exact k 9999
theorem QeY{t u:TypeId}{x y:Operand}{p q:Bool}(b:∀w,(underlying t).run P w=.ok .bool w)(d:o.op=.binOp .eql t x y u:=by exact rfl)(hx:opA env x=.bool p:=by exact rfl)(hy:opA env y=.bool q:=by exact rfl):OpV P o env H (.bool (p==q)):=by
 intro h g σ N a w r;have e:=QaT r hx;have f:=QaT r hy;refine⟨_,?_,rfl⟩;generalize a.eval=ρ at*;simp[execOp,d,e,f,Go.binOp,eqGuard,QeE b,go_sem]
theorem QeX{t u:TypeId}{x y:Operand}{p q:Bool}(b:∀w,(underlying t).run P w=.ok .bool w)(d:o.op=.binOp .neq t x y u:=by exact rfl)(hx:opA env x=.bool p:=by exact rfl)(hy:opA env y=.bool q:=by exact rfl):OpV P o env H (.bool (p != q)):=by
 intro h g σ N a w r;have e:=QaT r hx;have f:=QaT r hy;refine⟨_,?_,rfl⟩;generalize a.eval=ρ at*;simp[execOp,d,e,f,Go.binOp,eqGuard,QeE b,go_sem,bne]
theorem QaG{t:TypeId}{x y:Operand}{s:List UInt8}{k:IntKind}{i:Int}{c:UInt8}(h:idx s i=some c)(a:∀w,(underlying t).run P w=.ok .string w)(b:o.op=.index t x y:=by exact rfl)(hx:opA env x=.str s:=by exact rfl)(hy:opA env y=.int k i:=by exact rfl):
  OpV P o env H (.int .u8 c.toNat):=Qkv b a hx hy (Qa9 h).1 (Qa9 h).2
theorem Qkx{c:Call}{t et i n k:Nat}{x:Operand}(a:∀w,(underlying t).run P w=.ok (.slice et) w)(b:o.op=.call c:=by exact rfl)(hc:c={callee:=.builtin .len,args:= #[x],argTypes:= #[t]}:=by exact rfl)
  (hx:opA env x=.osl i 0 n k:=by exact rfl):OpV P o env H (.int .i64 n):=QmB b hc a hx
end
def Qd(k:IntKind)(n:Int):List A:=[.int k n]
def encB(b:Bool):List A:=[.bool b]
def encS(s:List UInt8):List A:=[.str s]
def YC{α:Type}(k:Nat)(e:α->List A)(l:List α):List A:=[.rsl k (l.map e)]
end Go.Sw
namespace Go.Sw
theorem QkP{P:Program}{rd:Option Nat}{o:Oper}{a:Act}{next:Act->World->Prop}{Q:Exit->Act->World->Prop}{g:Result Next}
  (p:∀a' w',next a' w'->a'.defers=a.defers)(h:o.uponIn (WF rd) 0 P a next Q g):
  o.uponIn (WF rd) 0 P a (λa' w'=>next a' w'/\ ∃v,a'=a.put o.dst v) Q g:=by
 cases g with
 |ok n w'=>
  cases n with
  |value v=>exact⟨h,_,rfl⟩
  |skip=>exact⟨h,_,rfl⟩
  |defer d=>
   have:=congrArg List.length (p _ _ h);exfalso
   revert this
   cases o.dst<;>simp[Act.put]
  |enter f i=>
   exact⟨h.1,CallsIn.mono h.2 (λe j b=>by cases e<;>first|exact⟨b,_,rfl⟩|exact b)⟩
  |row r i=>exact⟨h.1,RowsIn.mono h.2 (λ_ _ b=>⟨b,_,rfl⟩)⟩
  |round l f m assign k=>exact⟨h.1,RoundIn.mono h.2 (λe j b=>by cases e<;>first|exact⟨b,_,rfl⟩|exact b)⟩
  |_=>exact h.elim
 |halt x w'=>cases x<;>first|exact h|exact h.elim
def YU(e:Env)(H:Qc):QC:=λx e' H'=>x=.normal/\e'=e/\H'=H
theorem YU.mk{e:Env}{H:Qc}:YU e H .normal e H:=⟨rfl,rfl,rfl⟩
inductive Sb (af bf ds:List Nat) (xs:List A) (env0:Env):Env->Prop
 |nil:Sb af bf ds xs env0 []
 |dep (j:Nat) {s:Nat}{a:A}{r:Env} (h1:af.contains j=true) (h2:ds[j]?=some s) (h3:xs[j]?=some a) (k:Sb af bf ds xs env0 r):Sb af bf ds xs env0 ((s,a)::r)
 |old {s:Nat}{a:A}{r:Env} (h1:ds.contains s=false) (h2:lk env0 s=a) (k:Sb af bf ds xs env0 r):Sb af bf ds xs env0 ((s,a)::r)
 |pre (j:Nat) {s:Nat}{a:A}{r:Env} (h1:bf.contains j=true) (h2:ds[j]?=some s) (h3:lk env0 s=a) (k:Sb af bf ds xs env0 r):Sb af bf ds xs env0 ((s,a)::r)
def Qh(o:Oper):List Nat:=(o.after.toList.filter (Region.binds .any)).map (·.on)
def Qis(l:List Oper)(i:Nat):List Nat:=(List.range l.length).filter λj=>((l[j]?).map Qh).getD [] |>.contains i
inductive QeZ (P:Program) (N:Nat) (l:List Oper) (ds:List Nat) (xs:List A) (env0:Env) (i:Nat) (H H':Qc):Prop
 |mk (o:Oper) (e:Env) (d:Nat) (x:A) (ho:l[i]?=some o) (hd:o.dst=some d) (hx:xs[i]?=some x) (hs:Sb (Qh o) (Qis l i) ds xs env0 e)
   (h:WO P H.length N l.toArray [o] e H (YU (up e d x) H')):QeZ P N l ds xs env0 i H H'
theorem least{p:Nat->Prop}(d:∀i,p i\/ ¬p i):∀n,p n->∃i,i<=n/\p i/\ ∀j,j<i->¬p j:=by
 intro n
 induction n using Nat.strongRecOn with
 |ind n f=>
  intro h;by_cases q:∃j,j<n/\p j
  .obtain⟨j,a,b⟩:=q;obtain⟨i,k,e,g⟩:=f j a b;exact⟨i,by omega,e,g⟩
  .exact⟨n,X0 _,h,λj a b=>q ⟨j,a,b⟩⟩
def onL(L:Array Bool)(i:Nat):Prop:=L[i]?=some true
theorem Qjb{L:Array Bool}{i:Nat}(a:i<L.size)(b:Bool):L.getD i b=true↔onL L i:=by
 unfold onL;rw[Array.getD_eq_getD_getElem?,Array.getElem?_eq_getElem a];simp
theorem Qaz{l:List Oper}{L:Array Bool}(n:L.size=l.length){i:Nat}:
  i∈Region.ready .any l.toArray L↔ ∃o,l[i]?=some o/\ ¬onL L i/\ ∀j∈Qh o,onL L j:=by
 unfold Region.ready;simp only[Xe,List.mem_range,List.size_toArray,X4,Bool.not_eq_true',XN];have d:∀j,L.getD j false=true↔onL L j:=by
  intro j;unfold onL;rw[Array.getD_eq_getD_getElem?];cases L[j]? <;>simp
 constructor
 .rintro⟨b,a,f⟩;refine⟨l[i],XR b,?_,?_⟩
  .intro q;rw[<- Qjb (by omega) true]at q;rw[q]at a;cases a
  .rw[XR b]at f;simp only[Xk,Option.getD_some,Array.all_eq_true']at f;intro j h;unfold Qh at h;simp only[Xf,Xe,Array.mem_toList_iff]at h;obtain⟨e,⟨k,g⟩,rfl⟩:=h;have:=f e k;rw[g]at this;exact(d _).1 (by simpa using this)
 .rintro⟨o,b,a,f⟩;have m:i<l.length:=(XS.1 b).1;refine⟨m,?_,?_⟩
  .rw[<- Qjb (by omega) true]at a;simpa using a
  .rw[b];simp only[Xk,Option.getD_some,Array.all_eq_true'];intro e k;cases g:Region.binds .any e with
   |false=>simp
   |true=>
    have:=(d _).2 (f e.on (by unfold Qh;simp only[Xf,Xe,Array.mem_toList_iff];exact⟨e,⟨k,g⟩,rfl⟩));simpa using this
theorem Jl{L:Array Bool}{i j:Nat}(b:i<L.size):onL (L.setIfInBounds i true) j↔j=i\/onL L j:=by
 unfold onL;rw[Vm];by_cases h:i=j
 .subst h;simp[b]
 .have a:¬j=i:=λq=>h q.symm;simp[h,a]
def unl(L:Array Bool):Nat:=L.toList.countP (!·)
theorem QfX{L:Array Bool}{i:Nat}(b:i<L.size)(h:¬onL L i):unl (L.setIfInBounds i true)+1=unl L:=by
 unfold unl;have a:i<L.toList.length:=by simpa using b
 have d:L.toList[i]=false:=by
  unfold onL at h;rw[Array.getElem?_eq_getElem b]at h;simpa using h
 rw[Array.toList_setIfInBounds,List.countP_set a];have:0<L.toList.countP (!·):=List.countP_pos_iff.2 ⟨L.toList[i],Vl a,by rw[d];rfl⟩;rw[d,if_pos (by rfl),if_neg (by decide)];omega
theorem QiQ{L:Array Bool}{i:Nat}(a:i<L.size)(h:¬onL L i):0<unl L:=by have:=QfX a h;omega
inductive QbV (l:List Oper) (m:Nat):Nat->Prop
 |one {o:Oper}{j:Nat} (ho:l[m]?=some o) (hj:j∈Qh o):QbV l m j
 |step {o:Oper}{i j:Nat} (h:QbV l m i) (ho:l[i]?=some o) (hj:j∈Qh o):QbV l m j
def Qea(l:List Oper):Nat->List Nat->List Nat
 |0,S=>S
 |j+1,S=>Qea l j (bif S.contains j then S++(match l[j]? with|some o=>Qh o|none=>[])else S)
theorem QbI{l:List Oper}{m:Nat}:∀(n:Nat) (S:List Nat),(∀j∈S,QbV l m j)->∀j∈Qea l n S,QbV l m j
 |0,S,h,j,hj=>h j hj
 |n+1,S,h,j,hj=>by
  refine QbI n _ ?_ j hj;intro i hi;cases q:S.contains n with
  |false=>rw[q]at hi;exact h i hi
  |true=>
   rw[q]at hi;rcases List.mem_append.1 hi with z|z
   .exact h i z
   .cases ho:l[n]? with
    |none=>rw[ho]at z;cases z
    |some o=>rw[ho]at z;exact .step (h n (by simpa using q)) ho z
def Qar(ds:List Nat)(xs:List A)(env0:Env):Env:=ds.zip xs++env0
theorem Qm8{a:List Nat}{xs:List A}{env0:Env}(b:a.length=xs.length)(s:Nat):
  (∃(j:Nat) (x:A),a[j]?=some s/\xs[j]?=some x/\lk (Qar a xs env0) s=x)\/(a.contains s=false/\lk (Qar a xs env0) s=lk env0 s):=by
 unfold Qar
 induction a generalizing xs with
 |nil=>right;simp
 |cons d a i=>
  cases xs with
  |nil=>simp at b
  |cons x xs=>
   simp only[X8,Nat.add_right_cancel_iff]at b;simp only[List.zip_cons_cons,List.cons_append,lk];cases h:Nat.beq s d with
   |true=>
    obtain rfl:=XX h;left;exact⟨0,x,rfl,rfl,by simp⟩
   |false=>
    have g:s≠d:=λq=>by subst q;simp[Nat.beq_refl]at h
    rcases i b with⟨j,y,f,e,k⟩|⟨f,e⟩
    .left;exact⟨j+1,y,by simpa using f,by simpa using e,by simpa using k⟩
    .right;refine⟨?_,by simpa using e⟩;simp only[List.contains_cons,f,Bool.or_false];simpa using g
def drawChk.nodupB:List Nat->Bool
 |[]=>true
 |x::r=> !r.contains x&&drawChk.nodupB r
def drawChk.goB(l:List Oper)(m:Nat):Nat->List Oper->Bool
 |_,[]=>true
 |i,o::r=>(Qh o).all (λj=>Nat.blt j i)&&(bif Nat.beq i m then(List.range m).all (λj=>(Qea l m (Qh o)).contains j)else bif Nat.blt m i then(Qh o).contains (i-1)else true)&&drawChk.goB l m (i+1) r
def drawChk.loB(m k:Nat)(los:List Nat)(hs:List Bool):Nat->List Oper->Bool
 |_,[]=>(List.range k).all λj=>(List.range m).any λi=>hs.getD i false&&Nat.beq (los.getD i 0) j
 |i,o::r=>(bif Nat.blt i m then
   (Nat.beq (los.getD i 0) 0||(Qh o).any (λj=>Nat.blt j m&&Nat.ble (los.getD i 0) (los.getD j 0+(if hs.getD j false then 1 else 0))))
   &&(!hs.getD i false||(Nat.blt (los.getD i 0) k&&(List.range m).all (λj=> !hs.getD j false|| !Nat.beq (los.getD i 0) (los.getD j 0)||Nat.beq i j)))
  else true)&&drawChk.loB m k los hs (i+1) r
def drawChk(l:List Oper)(m k N:Nat)(ds los:List Nat)(hs:List Bool):Bool:=
 Nat.ble m l.length&&(ds.length==m)&&(l.take m).map (·.dst)==ds.map some&&ds.all (λd=>Nat.blt d N)&&drawChk.nodupB ds
 &&drawChk.goB l m 0 l&&(drawChk.loB m k los hs 0 l)
theorem Qdi{e:List Nat}(h:drawChk.nodupB e=true):∀(i j d:Nat),e[i]?=some d->e[j]?=some d->i=j:=by
 induction e with
 |nil=>intro i j d a;simp at a
 |cons x r g=>
  simp only[drawChk.nodupB,X4,Bool.not_eq_true']at h;have f:∀(i:Nat),r[i]? ≠some x:=by
   intro i q;have:r.contains x=true:=by simpa using List.mem_of_getElem? q
   rw[this]at h;cases h.1
  intro i j d a b;cases i with
  |zero=>
   cases j with
   |zero=>rfl
   |succ j=>simp at a b;subst a;exact absurd b (f j)
  |succ i=>
   cases j with
   |zero=>simp at a b;subst b;exact absurd a (f i)
   |succ j=>simp at a b;rw[g h.2 i j d a b]
theorem Qg9{l:List Oper}{m:Nat}:∀(r:List Oper) (b:Nat),drawChk.goB l m b r=true->∀(i:Nat) (o:Oper),r[i]?=some o->
  (∀j∈Qh o,j<b+i)/\(b+i=m->∀j,j<m->j∈Qea l m (Qh o))/\(m<b+i->b+i-1∈Qh o):=by
 intro r
 induction r with
 |nil=>intro b h i o d;simp at d
 |cons x r p=>
  intro b h i o d;simp only[drawChk.goB,X4]at h;cases i with
  |zero=>
   simp at d;subst d;refine⟨λj k=>?_,λf j k=>?_,λf=>?_⟩
   .have:=Xw.1 h.1.1 j k;simpa using this
   .have a:=h.1.2;have g:Nat.beq b m=true:=by subst f;simp
    rw[g]at a;simp only[cond_true]at a;have:=Xw.1 a j (List.mem_range.2 k);simpa using this
   .have a:=h.1.2;have g:Nat.beq b m=false:=by
     cases q:Nat.beq b m with
     |false=>rfl
     |true=>have:=XX q;omega
    have n:Nat.blt m b=true:=by simpa using f
    rw[g,n]at a;simpa using a
  |succ i=>
   have:=p (b+1) h.2 i o (by simpa using d);have e:b+1+i=b+(i+1):=by omega
   rw[e]at this;exact this
inductive Ob (P:Program) (N:Nat) (l:List Oper) (ds:List Nat) (xs:List A) (env0:Env):Nat->List (List (Qc×Qc))->Prop
 |nil {i:Nat}:Ob P N l ds xs env0 i []
 |cons {i:Nat}{s:List (Qc×Qc)}{r:List (List (Qc×Qc))} (h:∀p∈s,QeZ P N l ds xs env0 i p.1 p.2) (k:Ob P N l ds xs env0 (i+1) r):Ob P N l ds xs env0 i (s::r)
theorem Ob.get{P:Program}{N:Nat}{l:List Oper}{f:List Nat}{xs:List A}{env0:Env}{b:Nat}{d:List (List (Qc×Qc))}(h:Ob P N l f xs env0 b d):
  ∀(i:Nat) (s:List (Qc×Qc)),d[i]?=some s->∀p∈s,QeZ P N l f xs env0 (b+i) p.1 p.2:=by
 induction h with
 |nil=>intro i s h;simp at h
 | @cons b1 s1 r1 h _ ih=>
  intro i s a p e;cases i with
  |zero=>simp at a;subst a;exact h p e
  |succ i=>
   have:=ih i s (by simpa using a) p e
   rwa [show b1+1+i=b1+(i+1)by omega]at this
theorem Ob.st0{P:Program}{N:Nat}{l:List Oper}{b:List Nat}{xs:List A}{env0:Env}{i:Nat}:∀p∈([]:List (Qc×Qc)),QeZ P N l b xs env0 i p.1 p.2:=by
 intro p a;cases a
theorem Ob.stC{P:Program}{N:Nat}{l:List Oper}{a:List Nat}{xs:List A}{env0:Env}{i:Nat}{H H':Qc}{r:List (Qc×Qc)}(h:QeZ P N l a xs env0 i H H')
  (k:∀p∈r,QeZ P N l a xs env0 i p.1 p.2):∀p∈(H,H')::r,QeZ P N l a xs env0 i p.1 p.2:=by
 intro p b;rcases Ve.1 b with rfl|q
 .exact h
 .exact k p q
theorem Qa3.nil{H:Qc}:Qa3 H [] []:=trivial
theorem Qa3.cons{H:Qc}{az d f:List A}{a b:A}(e:az=a::d)(h:Look H a b)(k:Qa3 H d f):Qa3 H az (b::f):=by subst e;exact⟨h,k⟩
section
variable {P:Program}{o:Oper}{env:Env}{H:Qc}{α:Type}{e:α->List A}
theorem QeU{t et k:Nat}{x y:Operand}{l:List α}{a:IntKind}{i:Int}{v:α}{cs:List A}(h:idx l i=some v)(he:e v=cs)(f:∀w,(underlying t).run P w=.ok (.slice et) w)(b:∀w,(sizeOf et).run P w=.ok k w)
  (d:o.op=.indexAddr t x y:=by exact rfl)(hx:opA env x=.rsl k (l.map e):=by exact rfl)(hy:opA env y=.int a i:=by exact rfl):OpV P o env H (.rp cs):=
 he▸YJ h f b d hx hy
end
end Go.Sw
namespace Go.Sw
inductive PL (P:Program):List Field->List (Nat×Nat)->Prop
 |nil:PL P [] []
 |cons {f:Field}{n:Nat}{fs:List Field}{pl:List (Nat×Nat)} (h:∀w,(sizeOf f.type).run P w=.ok n w) (k:PL P fs pl):PL P (f::fs) ((f.offset,n)::pl)
theorem PL.run{P:Program}{fs:List Field}{a:List (Nat×Nat)}(h:PL P fs a):∀w,(fs.mapM λf=>(do pure (f.offset, <- sizeOf f.type):Sem (Nat×Nat))).run P w=.ok a w:=by
 induction h with
 |nil=>intro w;rfl
 |cons h _ ih=>
  intro w;rw[List.mapM_cons];simp only[Vu,h,Result.andThen,Vv,ih]
structure QL (P:Program) (t:TypeId) (pl:List (Nat×Nat)):Prop where
 un:∃fs:List Field,(∀w,(underlying t).run P w=.ok (.struct fs.toArray) w)/\PL P fs pl
section
variable {P:Program}{o:Oper}{env:Env}{H:Qc}
def Qet(env:Env)(pl:List (Nat×Nat)):List A->List (Nat×Operand)->Option (List A)
 |cs,[]=>some cs
 |cs,(i,x)::r=>match pl[i]? with
  |none=>none
  |some (off,size)=>bif Yk (opA env x)&&Nat.beq (Q8 (opA env x)).length size&&Nat.ble (off+size) cs.length then Qet env pl (splice cs off (Q8 (opA env x))) r else none
theorem Qhh{fr ro:Nat->Prop}{σ:Sig}{N:Nat}{a:Act}{w:World}(r:Rel fr ro σ H env N a w){b:List (Nat×Nat)}:∀(parts:List (Nat×Operand)) (cs:List A) (l:List Value) (cs':List A),
  LR ro σ w cs l->Qet env b cs parts=some cs'->
  ∃l',Instr.fill (b.toArray[·]?) l.toArray (parts.map λp=>(p.1,a.eval p.2))=some l'.toArray/\LR ro σ w cs' l'
 |[],cs,l,cs',h,q=>by
  cases q;exact⟨l,rfl,h⟩
 |(i,x)::rest,cs,l,cs',h,q=>by
  unfold Qet at q;cases hp:b[i]? with
  |none=>rw[hp]at q;cases q
  |some p=>
   obtain⟨off,size⟩:=p;rw[hp]at q;simp only at q;cases hc:(Yk (opA env x)&&Nat.beq (Q8 (opA env x)).length size&&Nat.ble (off+size) cs.length)with
   |false=>rw[hc]at q;cases q
   |true=>
    rw[hc]at q;simp only[X4]at hc;obtain⟨⟨c1,c2⟩,c3⟩:=hc;obtain⟨m,q1,q2⟩:=(Qg r x).cells c1;have hm:m.length=size:=by rw[q2.length];exact XX c2
    have e:l.length=cs.length:=h.length;obtain⟨l',d,f⟩:=Qhh r rest _ (splice l off m) cs' (h.splice off q2) q;refine⟨l',?_,f⟩;rw[Vr,Qfw (off:=off) (size:=size) (by simpa using hp) q1 hm (by rw[e];exact XY c3)];exact d
theorem OpV.build{t:TypeId}{z:Value}{zs cs:List A}{b:List (Nat×Nat)}{parts:List (Nat×Operand)}(q:∀w,(zeroValue t).run P w=.ok z w)(f:ZR (.agg zs) z)(k:QL P t b)
  (i:o.op=.build t parts.toArray:=by exact rfl)(hf:Qet env b zs parts=some cs:=by exact rfl):OpV P o env H (.agg cs):=by
 intro u n σ N a w r;obtain⟨s,h,g⟩:=k.un;obtain⟨l,rfl,e⟩:=f n σ w;obtain⟨d,j,m⟩:=Qhh r parts zs l cs e hf;refine⟨.agg d.toArray,?_,d,rfl,m⟩;generalize hρ:a.eval=ρ at*;have p:=g.run w;simp only[execOp,i,Instr.build,Vu,q,Result.andThen,h,XP,List.mapM_toArray,Sem.run_map,p,Value.cells,j,Vv]
end
def nz(n:Int):Option Unit:=bif n==0 then none else some ()
theorem Qn3{n:Int}{u:Unit}(h:nz n=some u):n≠0:=by
 rintro rfl;simp[nz]at h
section
variable {P:Program}{o:Oper}{env:Env}{H:Qc}
theorem QeS{x:Operand}{a:A}(g:o.op=.nilCheck x)(i:opA env x=a:=by exact rfl)(hk:(match a with|.ptr _ _=>true|.rp _=>true|_=>false)=true:=by exact rfl):OpV P o env H a:=by
 intro k j σ N ac w r;have h:=Qg r x;rw[i]at h;cases a<;>first|(cases hk;done)|skip
 .obtain⟨b,e,d⟩:=h;refine⟨_,?_,b,e,rfl⟩;generalize ac.eval=ρ at*;simp[execOp,g,d,go_sem]
 .obtain⟨b,f,e,d⟩:=h;refine⟨_,?_,b,f,rfl,d⟩;generalize ac.eval=ρ at*;simp[execOp,g,e,go_sem]
end
mutual
def FzA(i k:Nat)(es:List (List A)):A->A->Prop
 |.agg az,b=>∃bs,b=.agg bs/\FzL i k es az bs
 |.fn f x c,b=>∃x' c',b=.fn f x' c'/\FzL i k es x x'/\FzL i k es c c'
 |.iface t a,b=>∃a',b=.iface t a'/\FzA i k es a a'
 |.tup az,b=>∃bs,b=.tup bs/\FzL i k es az bs
 |.osl j o n k',b=>b=.osl j o n k'\/(j=i/\o=0/\k'=k/\n=es.length/\b=.rsl k es)
 |.nils,b=>b=.nils\/ ∃k',b=.rsl k' []
 |a,b=>b=a
def FzL(i k:Nat)(es:List (List A)):List A->List A->Prop
 |[],b=>b=[]
 |a::az,b=>∃a' as',b=a'::as'/\FzA i k es a a'/\FzL i k es az as'
end
mutual
theorem FzA.refl{i k:Nat}{es:List (List A)}:∀a:A,FzA i k es a a
 |.agg az=>⟨az,rfl,FzL.refl az⟩
 |.fn _ x c=>⟨x,c,rfl,FzL.refl x,FzL.refl c⟩
 |.iface _ a=>⟨a,rfl,FzA.refl a⟩
 |.tup az=>⟨az,rfl,FzL.refl az⟩
 |.osl _ _ _ _=>.inl rfl
 |.nils=>.inl rfl
 |.any=>rfl
 |.bool _=>rfl
 |.int _ _=>rfl
 |.str _=>rfl
 |.nilp=>rfl
 |.ptr _ _=>rfl
 |.rp _=>rfl
 |.rsl _ _=>rfl
 |.nilf=>rfl
 |.nilif=>rfl
 |.map _=>rfl
 |.nilm=>rfl
theorem FzL.refl{i k:Nat}{es:List (List A)}:∀az:List A,FzL i k es az az
 |[]=>rfl
 |a::az=>⟨a,az,rfl,FzA.refl a,FzL.refl az⟩
end
theorem FzA.agg{i k:Nat}{es:List (List A)}{az bs:List A}(h:FzL i k es az bs):FzA i k es (.agg az) (.agg bs):=⟨bs,rfl,h⟩
theorem FzA.tup{i k:Nat}{es:List (List A)}{az bs:List A}(h:FzL i k es az bs):FzA i k es (.tup az) (.tup bs):=⟨bs,rfl,h⟩
theorem FzA.iface{i k:Nat}{es:List (List A)}{t:Nat}{a b:A}(h:FzA i k es a b):FzA i k es (.iface t a) (.iface t b):=⟨b,rfl,h⟩
theorem FzA.own{i k n:Nat}{es:List (List A)}(hn:n=es.length):FzA i k es (.osl i 0 n k) (.rsl k es):=.inr ⟨rfl,rfl,rfl,hn,rfl⟩
theorem FzA.nil{i k k':Nat}{es:List (List A)}:FzA i k es .nils (.rsl k' []):=.inr ⟨k',rfl⟩
theorem FzL.cons{i k:Nat}{es:List (List A)}{a b:A}{az bs:List A}(h:FzA i k es a b)(q:FzL i k es az bs):FzL i k es (a::az) (b::bs):=⟨b,bs,rfl,h,q⟩
mutual
theorem QiG{i k:Nat}{es:List (List A)}{ro ro':Nat->Prop}{σ:Sig}{w:World}(ext:Ext ro σ w ro' σ w)
  (hf:∀v,VR ro σ w (.osl i 0 es.length k) v->VR ro' σ w (.rsl k es) v):∀(a b:A) (v:Value),FzA i k es a b->VR ro σ w a v->VR ro' σ w b v
 |.agg az,b,v,h,q=>by
  obtain⟨bs,rfl,h⟩:=h;obtain⟨l,rfl,q⟩:=q;exact⟨l,rfl,Qdc ext hf az bs l h q⟩
 |.fn f x c,b,v,h,q=>by
  obtain⟨x',c',rfl,h1,h2⟩:=h;obtain⟨l,l',rfl,q1,q2⟩:=q;exact⟨l,l',rfl,Qdc ext hf x x' l h1 q1,Qdc ext hf c c' l' h2 q2⟩
 |.iface t a,b,v,h,q=>by
  obtain⟨a',rfl,h⟩:=h;obtain⟨x,rfl,q⟩:=q;exact⟨x,rfl,QiG ext hf a a' x h q⟩
 |.tup az,b,v,h,q=>by
  obtain⟨bs,rfl,h⟩:=h;obtain⟨l,rfl,q⟩:=q;exact⟨l,rfl,Qdc ext hf az bs l h q⟩
 |.osl j o n k',b,v,h,q=>by
  rcases h with rfl|⟨rfl,rfl,rfl,rfl,rfl⟩
  .exact q.mono ext
  .exact hf v q
 |.nils,b,v,h,q=>by
  rcases h with rfl|⟨k',rfl⟩
  .exact q
  .obtain rfl:v=.slice none 0 0:=q;exact⟨none,0,rfl,X0 _,.inl rfl⟩
 |.any,b,v,h,q=>by obtain rfl:b=_:=h;trivial
 |.bool _,b,v,h,q=>by obtain rfl:b=_:=h;exact q
 |.int _ _,b,v,h,q=>by obtain rfl:b=_:=h;exact q
 |.str _,b,v,h,q=>by obtain rfl:b=_:=h;exact q
 |.nilp,b,v,h,q=>by obtain rfl:b=_:=h;exact q
 |.ptr _ _,b,v,h,q=>by obtain rfl:b=_:=h;exact q.mono ext
 |.rp _,b,v,h,q=>by obtain rfl:b=_:=h;exact q.mono ext
 |.rsl _ _,b,v,h,q=>by obtain rfl:b=_:=h;exact q.mono ext
 |.nilf,b,v,h,q=>by obtain rfl:b=_:=h;exact q
 |.nilif,b,v,h,q=>by obtain rfl:b=_:=h;exact q
 |.map _,b,v,h,q=>by obtain rfl:b=_:=h;exact q.mono ext
 |.nilm,b,v,h,q=>by obtain rfl:b=_:=h;exact q
theorem Qdc{i k:Nat}{es:List (List A)}{ro ro':Nat->Prop}{σ:Sig}{w:World}(ext:Ext ro σ w ro' σ w)
  (hf:∀v,VR ro σ w (.osl i 0 es.length k) v->VR ro' σ w (.rsl k es) v):∀(az bs:List A) (l:List Value),FzL i k es az bs->LR ro σ w az l->LR ro' σ w bs l
 |[],bs,l,h,q=>by obtain rfl:bs=[]:=h;exact q
 |a::az,bs,l,h,q=>by
  obtain⟨a',as',rfl,h1,h2⟩:=h;obtain⟨v,l',rfl,q1,q2⟩:=q;exact⟨v,l',rfl,QiG ext hf a a' v h1 q1,Qdc ext hf az as' l' h2 q2⟩
end
def FzB(i k:Nat)(es:List (List A))(x y:Blk):Prop:=y=x\/ ∃t cs cs',x=.cells t cs/\y=.cells t cs'/\FzL i k es cs cs'
def FzH(i k:Nat)(es:List (List A)):Qc->Qc->Prop
 |[],h=>h=[]
 |x::r,h=>∃y r',h=y::r'/\FzB i k es x y/\FzH i k es r r'
def QmL(i k:Nat)(es:List (List A))(env:Env):Env->Prop
 |[]=>True
 |(s,a)::r=>FzA i k es (lk env s) a/\QmL i k es env r
theorem FzH.nil{i k:Nat}{es:List (List A)}:FzH i k es [] []:=rfl
theorem FzH.keep{i k:Nat}{es:List (List A)}{x:Blk}{r r':Qc}(h:FzH i k es r r'):FzH i k es (x::r) (x::r'):=⟨x,r',rfl,.inl rfl,h⟩
theorem FzH.cells{i k t:Nat}{es:List (List A)}{cs cs':List A}{r r':Qc}(q:FzL i k es cs cs')(h:FzH i k es r r'):FzH i k es (.cells t cs::r) (.cells t cs'::r'):=⟨_,r',rfl,.inr ⟨t,cs,cs',rfl,rfl,q⟩,h⟩
theorem FzH.get{i k:Nat}{es:List (List A)}:∀{H H':Qc},FzH i k es H H'->∀(j:Nat) (y:Blk),H'[j]?=some y->∃x,H[j]?=some x/\FzB i k es x y
 |[],_,h,j,y,q=>by obtain rfl:_=[]:=h;simp at q
 |x::r,_,h,j,y,q=>by
  obtain⟨y',r',rfl,h1,h2⟩:=h;cases j with
  |zero=>simp at q;subst q;exact⟨x,rfl,h1⟩
  |succ j=>simp at q;obtain⟨x',p1,p2⟩:=h2.get j y q;exact⟨x',by simpa using p1,p2⟩
theorem FzH.len{i k:Nat}{es:List (List A)}:∀{H H':Qc},FzH i k es H H'->H'.length=H.length
 |[],_,h=>by obtain rfl:_=[]:=h;rfl
 |x::r,_,h=>by obtain⟨y',r',rfl,h1,h2⟩:=h;simp[h2.len]
theorem FzB.live{i k:Nat}{es:List (List A)}{x y:Blk}(h:FzB i k es x y):y.live=x.live:=by
 rcases h with rfl|⟨t,b,a,rfl,rfl,_⟩<;>rfl
theorem YA{env:Env}{H H':Qc}{h0 i k t:Nat}{es:List (List A)}(ov:Env)(hi:Nat.ble h0 i=true)(O:H[i]?=some (.row t k es))(R:QmL i k es env ov)(G:FzH i k es (H.set i .dead) H'):Le h0 env H (ov++env) H':=by
 intro fr P σ N a w r
 let ro':Nat->Prop:=λb=>P b\/σ[i]?=some (some b)
 have u:∀b,σ[i]?=some (some b)->b<w.heap.size/\ ¬P b/\ ¬fr b:=λb h=>r.sim.own i b _ h O rfl;have ext:Ext P σ w ro' σ w:=⟨λ_ q=>.inl q,λ_ _=>rfl,λ_ _ q=>q,λ_ _ q=>q⟩;have hf:∀v,VR P σ w (.osl i 0 es.length k) v->VR ro' σ w (.rsl k es) v:=by
  intro v h;rcases h with⟨h0,h⟩|⟨b,p,E,t',m,g,h,n,B,h4,Y⟩
  .have:es=[]:=List.length_eq_zero_iff.1 h0;subst this;exact⟨none,0,h,X0 _,.inl rfl⟩
  .refine⟨_,E,h,B,?_⟩;by_cases he:es=[]
   .exact .inl he
   .right;have hc:0<E:=Vn (List.length_pos_iff.2 he) B;obtain rfl:=n hc;obtain⟨l,V,q2⟩:=r.sim.blk i _ _ g O;refine⟨b,0,by simp,.inr g,?_⟩;have:=Jm (pre:=[]) (by simpa using V) q2;exact this.keep ⟨λ_ q=>.inl q,λ_ _=>rfl,λ_ _ q=>q,λ_ _ q=>q⟩ rfl
 have f:∀(j:Nat) (y:Blk),H'[j]?=some y->y≠ .dead->j≠i/\ ∃x,H[j]?=some x/\FzB i k es x y:=by
  intro j y h Q;obtain⟨x,g,n⟩:=G.get j y h;by_cases e:j=i
  .subst e;rw[Xb]at g;simp only[if_true]at g;split at g
   .cases g;rcases n with rfl|⟨_,_,_,q,_,_⟩
    .exact absurd rfl Q
    .cases q
   .simp at g
  .rw[XW (λq=>e q.symm)]at g;exact⟨e,x,g,n⟩
 refine⟨ro',σ,⟨⟨by rw[G.len,Vb];exact r.sim.len,r.sim.roOk.to (λ_ q=>.inl q) (λ_ _=>rfl) ?_,r.sim.frLt,?_,?_,?_,?_,r.sim.hidTo (· = ·) Q2 (X0 _) (λj b x c V q2 q3 q4=>q4.elim id λq=>((r.sim.hid j b x c V q2 q3).ne i c _ q O rfl rfl).elim) (λ_ _ _ _ _ _ _ q=>q) λj d y g1 X g3=>.inl ?_⟩,?_,r.size,r.defers⟩,λ_ q=>.inl q,rfl⟩
 rotate_left 5
 .obtain⟨_,x,g4,g5⟩:=f j y X (QdP g3);exact⟨j,x,rfl,g1,g4,λz=>by rw[<- g5.live];exact z,λc q=>by rcases g5 with rfl|⟨t,cs,M,rfl,rfl,_⟩;exact q;exact q.elim⟩
 rotate_left 1
 .rintro b (q|q)
  .exact r.sim.roLt b q
  .exact(u b q).1
 .rintro b (q|q)
  .exact r.sim.roFr b q
  .exact(u b q).2.2
 .intro j b v g n B;obtain⟨e,x,n,L⟩:=f j v n (Blk.nd B);have hx:x.live=true:=by rw[<- L.live];exact B
  obtain⟨F,J,p3⟩:=r.sim.own j b x g n hx;refine⟨F,?_,p3⟩;rintro(q|q)
  .exact J q
  .exact e (r.sim.inj j i b x _ g q n O hx rfl)
 .intro j j' b v v' g n B h4 Y h6;obtain⟨_,x,F,J⟩:=f j v B (Blk.nd Y);obtain⟨_,x',W,T⟩:=f j' v' h4 (Blk.nd h6);exact r.sim.inj j j' b x x' g n F W (by rw[<- J.live];exact Y) (by rw[<- T.live];exact h6)
 .intro j s v g n;by_cases Q:v≠ .dead
  .obtain⟨_,x,F,J⟩:=f j v n Q;have L:=r.sim.blk j s x g F;rcases J with rfl|⟨t,cs,M,rfl,rfl,q⟩
   .exact L.keep ext (λ_ _ _=>rfl) (λ_ _ _ _=>rfl)
   .cases s with
    |none=>exact L.elim
    |some b=>
     obtain⟨l,e1,e2,e3⟩:=L;exact⟨l,e1,Qdc ext hf cs M l q e2,e3⟩
  .obtain rfl:v=.dead:=Classical.not_not.1 Q;trivial
 .intro s
  induction ov with
  |nil=>exact(r.env s).mono ext
  |cons p ov ih=>
   obtain⟨s1,a1⟩:=p;obtain⟨g1,X⟩:=R;simp only[List.cons_append,lk];cases q:Nat.beq s s1 with
   |true=>
    obtain rfl:=XX q;exact QiG ext hf _ _ _ g1 (r.env s)
   |false=>exact ih X
theorem QmL.nil{i k:Nat}{es:List (List A)}{env:Env}:QmL i k es env []:=trivial
theorem QmL.cons{i k s:Nat}{es:List (List A)}{env:Env}{a b:A}{r:Env}(h:lk env s=a)(q:FzA i k es a b)(g:QmL i k es env r):QmL i k es env ((s,b)::r):=⟨h▸q,g⟩
def QcI(P:Program)(env:Env)(H:Qc)(l:ResultVar)(x:A):Prop:=
 ∀fr ro σ N a w,Rel fr ro σ H env N a w->∃v,((match l with
  |.tmp t=>pure (a.tmps.getD t undef)
  |.cell b t=>do loadVar t (<- asAddr (a.tmps.getD b undef)):Sem Value)).run P w=.ok v w/\VR ro σ w x v
def QiA(P:Program)(env:Env)(H:Qc):List ResultVar->List A->Prop
 |[],xs=>xs=[]
 |l::ls,xs=>∃x xs',xs=x::xs'/\QcI P env H l x/\QiA P env H ls xs'
section
variable {P:Program}{fn:Func}{env:Env}{H:Qc}
theorem QcI.tmp{t:Nat}{x:A}(b:lk env t=x:=by exact rfl):QcI P env H (.tmp t) x:=
 λfr ro σ N a w r=>⟨a.tmps.getD t undef,rfl,b▸r.env t⟩
theorem QcI.cell{b t:Nat}{p x:A}{cs:List A}(g:∀w,(isAgg t).run P w=.ok false w)(j:Pts H p (x::cs))(i:lk env b=p:=by exact rfl):QcI P env H (.cell b t) x:=by
 intro m f σ N a w r;have d:=r.env b;rw[i]at d;obtain⟨n,k,h,⟨y,l,_,e⟩,_⟩:=j m f σ w _ r.sim d;refine⟨y,?_,e⟩;simp only[h];simp[asAddr,loadVar,g,Go.load,Sem.run,l,go_sem]
theorem Qdt{b t n:Nat}{p:A}{cs:List A}(g:∀w,(isAgg t).run P w=.ok true w)(m:∀w,(sizeOf t).run P w=.ok n w)(k:Pts H p cs)(i:lk env b=p:=by exact rfl)(hl:(cs.take n).length=n:=by exact rfl):
  QcI P env H (.cell b t) (.agg (cs.take n)):=by
 intro s f σ N a w r;have e:=r.env b;rw[i]at e;obtain⟨u,off,h,q⟩:=k s f σ w _ r.sim e;obtain⟨l,j,_,d⟩:=Yw (P:=P) (cs:=cs.take n) (off:=off) 0 (by simpa using q.take n);have d:=d w #[] rfl;rw[hl]at d;refine⟨.agg l.toArray,?_,l,rfl,j⟩;simp only[h];simp[asAddr,loadVar,g,m,loadCells,d,go_sem]
theorem QD{b t n i T:Nat}{cs:List A}(e:∀w,(isAgg t).run P w=.ok true w)(f:∀w,(sizeOf t).run P w=.ok n w)(g:lk env b=.ptr i 0)(d:H[i]?=some (.cells T cs))(a:cs.length=n):
  QcI P env H (.cell b t) (.agg cs):=by
 have:=Qdt (b:=b) (p:=.ptr i 0) e f (Pts.cells (off:=0) d rfl) g (by subst a;simp);subst a;simpa using this
theorem Qs{b t i T:Nat}{x:A}(ha:∀w,(isAgg t).run P w=.ok false w)(hx:lk env b=.ptr i 0)(hH:H[i]?=some (.cells T [x])):QcI P env H (.cell b t) x:=
 QcI.cell (p:=.ptr i 0) (cs:=[]) ha (Pts.cells (off:=0) hH rfl) hx
theorem QiA.nil:QiA P env H [] []:=rfl
theorem QiA.cons{l:ResultVar}{ls:List ResultVar}{x:A}{xs:List A}(h:QcI P env H l x)(k:QiA P env H ls xs):QiA P env H (l::ls) (x::xs):=⟨x,xs,rfl,h,k⟩
theorem QiA.run{fr ro:Nat->Prop}{σ:Sig}{N:Nat}{a:Act}{w:World}(r:Rel fr ro σ H env N a w):∀{ls:List ResultVar}{xs:List A},QiA P env H ls xs->
  ∃vs:List Value,(ls.mapM λl=>(match l with
   |.tmp t=>pure (a.tmps.getD t undef)
   |.cell b t=>do loadVar t (<- asAddr (a.tmps.getD b undef)):Sem Value)).run P w=.ok vs w/\LR ro σ w xs vs
 |[],_,h=>by obtain rfl:_=[]:=h;exact⟨[],rfl,rfl⟩
 |l::ls,_,h=>by
  obtain⟨x,xs,rfl,h1,h2⟩:=h;obtain⟨v,e1,e2⟩:=h1 fr ro σ N a w r;obtain⟨vs,e3,e4⟩:=QiA.run r h2;refine⟨v::vs,?_,v,vs,rfl,e2,e4⟩;rw[List.mapM_cons];simp only[Vu,e1,Result.andThen,e3,Vv]
theorem QS{ls:List ResultVar}{xs:List A}(h:fn.results=ls.toArray)(d:Nat.beq ls.length 1=false)(k:QiA P env H ls xs):QcH P fn env H (.tup xs):=by
 intro n m σ N a w r;obtain⟨vs,g,e⟩:=k.run r;have b:¬vs.length=1:=by
  have:∀{ls:List ResultVar}{xs:List A},QiA P env H ls xs->xs.length=ls.length:=by
   intro ls
   induction ls with
   |nil=>intro xs h;obtain rfl:xs=[]:=h;rfl
   |cons l ls i=>intro xs h;obtain⟨x,j,rfl,_,f⟩:=h;simp[i f]
  rw[e.length,this k];intro q;rw[q]at d;cases d
 refine⟨.tuple vs.toArray,?_,vs,rfl,e⟩;unfold results;rw[h];rw[List.mapM_toArray,Vu,Sem.run_map]
 erw [g]
 simp[Result.andThen,b,Vv]
theorem QV{l:ResultVar}{x:A}(h:fn.results= #[l])(k:QcI P env H l x):QcH P fn env H x:=by
 intro f e σ N a w r;obtain⟨vs,d,b⟩:=(QiA.cons k QiA.nil).run r;obtain⟨v,_,rfl,b,rfl⟩:=b;refine⟨v,?_,b⟩;unfold results;rw[h,show #[l]=[l].toArray from rfl];rw[List.mapM_toArray,Vu,Sem.run_map]
 erw [d]
 rfl
end
end Go.Sw
namespace Go.Sw
mutual
def Qbu:A->Bool
 |.bool _=>true
 |.int _ _=>true
 |.str _=>true
 |.agg cs=>QdZ cs
 |_=>false
def QdZ:List A->Bool
 |[]=>true
 |a::r=>Qbu a&&QdZ r
end
mutual
def Qw:A->Value
 |.bool b=>.bool b
 |.int k n=>.int k n
 |.str s=>.string ⟨s.toArray⟩
 |.agg cs=>.agg (YW cs).toArray
 |_=>.bool false
def YW:List A->List Value
 |[]=>[]
 |a::r=>Qw a::YW r
end
mutual
theorem VR.val{ro:Nat->Prop}{σ:Sig}{w:World}:∀{a:A}{v:Value},Qbu a=true->VR ro σ w a v->v=Qw a
 |.bool _,_,_,h=>h
 |.int _ _,_,_,h=>h
 |.str _,_,_,h=>h
 |.agg cs,v,hs,h=>by
  obtain⟨l,rfl,h⟩:=h;rw[Qw,LR.val hs h]
theorem LR.val{ro:Nat->Prop}{σ:Sig}{w:World}:∀{az:List A}{l:List Value},QdZ az=true->LR ro σ w az l->l=YW az
 |[],l,_,h=>h
 |a::r,l,hs,h=>by
  obtain⟨v,l',rfl,h1,h2⟩:=h;simp only[QdZ,X4]at hs;rw[YW,VR.val hs.1 h1,LR.val hs.2 h2]
end
mutual
theorem QbE{ro:Nat->Prop}{σ:Sig}{w:World}:∀{a:A},Qbu a=true->VR ro σ w a (Qw a)
 |.bool _,_=>rfl
 |.int _ _,_=>rfl
 |.str _,_=>rfl
 |.agg cs,hs=>⟨YW cs,rfl,Qe2 hs⟩
theorem Qe2{ro:Nat->Prop}{σ:Sig}{w:World}:∀{az:List A},QdZ az=true->LR ro σ w az (YW az)
 |[],_=>rfl
 |a::r,hs=>by
  simp only[QdZ,X4]at hs;exact⟨_,_,rfl,QbE hs.1,Qe2 hs.2⟩
end
end Go.Sw
namespace Go.Sw
open Go.MapKept
structure Y5 (P:Program) (kt:TypeId) {α:Type} (ek:α->A):Prop where
 scl:∀x,Qbu (ek x)=true
 inj:∀x y,Qw (ek x)=Qw (ek y)->x=y
 check:∀(w:World) em x,(Instr.checkKey em 10000 kt (Qw (ek x))).run P w=.ok () w
 find:∀(w:World) x (es:List MapEntry),(∀e∈es,∃y,e.key=Qw (ek y))->
  ((Instr.findKey kt (Qw (ek x)) es).run P w=.ok none w/\ ∀e∈es,e.key≠Qw (ek x))\/ ∃j e,(Instr.findKey kt (Qw (ek x)) es).run P w=.ok (some (j,e.val)) w/\es[j]?=some e/\e.key=Qw (ek x)
 stays:∀(w:World) x,(Instr.keyThatStays (Qw (ek x)) (Qw (ek x))).run P w=.ok (Qw (ek x)) w
section
variable {P:Program}{kt:TypeId}
theorem Y5.plain{α:Type}{ek:α->A}{d:TypeDesc}(e:P.underlying kt=some d)(a:∀x,IsKey d (Qw (ek x)))(r:∀x,Qbu (ek x)=true)(q:∀x y,Qw (ek x)=Qw (ek y)->x=y):Y5 P kt ek:=by
 refine⟨r,q,λw m x=>run_checkKey e (a x) m 9999,λw x i h=>?_,λw x=>run_keyThatStays (a x)⟩
 .have b:∀y∈i,IsKey d y.key:=λy p=>by
   obtain⟨l,k⟩:=h y p;rw[k];exact a l
  rcases findNow_spec (a x) i 0 b with⟨g,f⟩|⟨j,n,g,f,s⟩
  .exact Or.inl ⟨run_findKey e g,f⟩
  .exact Or.inr ⟨j,n,by simpa using run_findKey e g,f,s⟩
theorem Y5.int{q:IntKind}(hk:P.underlying kt=some (.int q)):Y5 P kt (λn=>A.int q n):=
 Y5.plain hk (λx=>by simp[IsKey,Qw]) (λ_=>rfl) (λx y h=>by simpa[Qw]using h)
theorem Y5.str(hk:P.underlying kt=some .string):Y5 P kt A.str:=
 Y5.plain hk (λx=>by simp[IsKey,Qw]) (λ_=>rfl) (λx y h=>by simpa[Qw]using h)
theorem Y5.struct{α:Type}[DecidableEq α]{ek:α->A}{fs:Array Field}(r:P.underlying kt=some (.struct fs))(J:∀x,Qbu (ek x)=true)(s:∀x y,Qw (ek x)=Qw (ek y)->x=y)
  (u:∀(w:World) em x,(Instr.checkKey em 10000 kt (Qw (ek x))).run P w=.ok () w)
  (he:∀(w:World) x y,(Op.equal kt (Qw (ek x)) (Qw (ek y))).run P w=.ok (decide (x=y)) w)(t:∀x,Instr.sameBits 10000 (Qw (ek x)) (Qw (ek x))=true):Y5 P kt ek:=by
 refine⟨J,s,u,λw x a p=>?_,λw x=>by simp[Instr.keyThatStays,t x]⟩
 .have d:∀(a:List MapEntry) (i:Nat),(∀e∈a,∃y,e.key=Qw (ek y))->
    ((Instr.findAsking kt (Qw (ek x)) a i).run P w=.ok none w/\ ∀e∈a,e.key≠Qw (ek x))\/
    ∃j e,(Instr.findAsking kt (Qw (ek x)) a i).run P w=.ok (some (i+j,e.val)) w/\a[j]?=some e/\e.key=Qw (ek x):=by
   intro a
   induction a with
   |nil=>intro i _;exact .inl ⟨by simp[Instr.findAsking],by simp⟩
   |cons e a H=>
    intro i f;obtain⟨y,h⟩:=f e (by simp);have k:=he w x y;by_cases b:x=y
    .subst b;exact .inr ⟨0,e,by simp[Instr.findAsking,h,k],rfl,h⟩
    .rcases H (i+1) (λz g=>f z (by simp[g]))with⟨n,l⟩|⟨j,F,n,l,E⟩
     .refine .inl ⟨by simp[Instr.findAsking,h,k,b,n],λz g=>?_⟩;rcases Ve.1 g with rfl|g
      .rw[h];intro q;exact b (s _ _ q).symm
      .exact l z g
     .exact .inr ⟨j+1,F,by simp[Instr.findAsking,h,k,b,n,Nat.add_assoc,Nat.add_comm 1 j],by simpa using l,E⟩
  cases a with
  |nil=>exact .inl ⟨by simp[Instr.findKey,run_underlying r,Instr.findNow,Result.andThen],by simp⟩
  |cons e a=>
   have G:Instr.findNow (.struct fs) (Qw (ek x)) (e::a) 0=none:=by
    simp only[Instr.findNow];have:∀v m,Instr.sameNow (.struct fs) v m=none:=by intro v m;cases v<;>cases m<;>rfl
    rw[this]
   have B:(Instr.findKey kt (Qw (ek x)) (e::a)).run P w=(Instr.findAsking kt (Qw (ek x)) (e::a) 0).run P w:=by
    simp only[Instr.findKey,Vu,run_underlying r,Result.andThen,G]
   rw[B];simpa using d (e::a) 0 p
def YK{α β:Type}[DecidableEq α](l:List (α×β))(k:α):Option β:=(l.find? λp=>decide (p.1=k)).map (·.2)
def QW{α β:Type}[DecidableEq α](l:List (α×β))(k:α)(v:β):List (α×β):=bif l.any λp=>decide (p.1=k)then l.map λp=>bif decide (p.1=k)then(p.1,v)else p else l++[(k,v)]
def QF{α β:Type}[DecidableEq α](l:List (α×β))(k:α)(z:β):β:=(YK l k).getD z
def Qe6{α β:Type}[DecidableEq α](l:List (α×β))(k:α):Bool:=l.any λp=>decide (p.1=k)
def Qz{α β:Type}(ek:α->A)(ev:β->A)(l:List (α×β)):List (A×A):=l.map λp=>(ek p.1,ev p.2)
section
variable {α β:Type} [DecidableEq α] {ek:α->A}{ev:β->A}{ro:Nat->Prop}{w:World} (K:Y5 P kt ek)
include K
theorem ER.keys:∀{l:List (α×β)}{es:List MapEntry},ER ro [] w (Qz ek ev l) es->es.map (·.key)=l.map λp=>Qw (ek p.1)
 |[],es,h=>by cases(show es=[]from h);rfl
 |p::l,es,h=>by
  obtain⟨e,l',rfl,h1,h2,h3⟩:=h;simp only[Vr];rw[VR.val (K.scl _) h1,ER.keys (l:=l) h3]
theorem QhX{l:List (α×β)}{es:List MapEntry}(h:ER ro [] w (Qz ek ev l) es):∀e∈es,∃y,e.key=Qw (ek y):=by
 intro e b;have:e.key∈es.map (·.key):=List.mem_map_of_mem b;rw[ER.keys K h]at this;obtain⟨p,_,a⟩:=Xf.1 this;exact⟨p.1,a.symm⟩
theorem ER.find:∀{l:List (α×β)}{es:List MapEntry},ER ro [] w (Qz ek ev l) es->∀(x:α),(es.map (·.key)).Nodup->
  ((∀e:MapEntry,e∈es->e.key≠Qw (ek x))->YK l x=none/\Qe6 l x=false)/\
  (∀(j:Nat) (e:MapEntry),es[j]?=some e->e.key=Qw (ek x)->Qe6 l x=true/\ ∃v,YK l x=some v/\VR ro [] w (ev v) e.val)
 |[],es,h,x,_=>by
  cases(show es=[]from h);exact⟨λ_=>⟨rfl,rfl⟩,λj e he=>by simp at he⟩
 |p::l,es,h,x,hn=>by
  obtain⟨e0,l',rfl,h1,h2,h3⟩:=h;have hk:e0.key=Qw (ek p.1):=VR.val (K.scl _) h1;simp only[Vr,List.nodup_cons]at hn;obtain⟨a1,a2⟩:=ER.find (l:=l) h3 x hn.2;by_cases hp:p.1=x
  .subst hp;constructor
   .intro q;exact absurd hk (q e0 (by simp))
   .intro j e he hx;cases j with
    |zero=>
     simp only[XL,Option.some.injEq]at he;subst he;exact⟨by simp[Qe6],p.2,by simp[YK],h2⟩
    |succ j=>
     simp only[XM]at he;exact absurd (hk.trans hx.symm▸List.mem_map_of_mem (f:=λe:MapEntry=>e.key) (List.mem_of_getElem? he)) hn.1
  .have e1:YK (p::l) x=YK l x:=by simp[YK,hp]
   have a:Qe6 (p::l) x=Qe6 l x:=by simp[Qe6,hp]
   rw[e1,a];constructor
   .intro q;exact a1 λe he=>q e (by simp[he])
   .intro j e he hx;cases j with
    |zero=>
     simp only[XL,Option.some.injEq]at he;subst he;exact absurd (K.inj _ _ (hk.symm.trans hx)) hp
    |succ j=>exact a2 j e (by simpa using he) hx
end
end
end Go.Sw
namespace Go.Sw
open Go.MapKept
section
variable {P:Program}{o:Oper}{env:Env}{H:Qc}
theorem Yu{T:Nat}(d:o.op=.makeMap T none:=by exact rfl):OpH P o env H (.map H.length) (H++[.map []]):=by
 intro e b σ N a w r;refine⟨.map (some w.heap.size),w.alloc (.map #[] 0),b,[some w.heap.size],?_,⟨w.heap.size,?_,rfl⟩,r.sim.alloc ⟨#[],0,YH _ _,rfl,by simp,by simp,by simp⟩,Qf.alloc _ r.sim.roLt r.sim.frLt⟩
 .generalize a.eval=ρ at*;simp only[execOp,d,Instr.makeMap,Xl,Vu];rfl
 .rw[<- r.sim.len];simp
section
variable {T kt et:Nat}{α β:Type} [DecidableEq α] {ek:α->A}{ev:β->A}{x y:Operand}{i:Nat}{l:List (α×β)}{k:α}{z0:β}{z:Value}
theorem Qd2(K:Y5 P kt ek){ro:Nat->Prop}{w:World}(n:P.underlying T=some (.map kt et))(s:∀w,(zeroValue et).run P w=.ok z w)(i:ZR (ev z0) z){b a:Nat}{es:Array MapEntry}
  (m:w.heap[b]?=some (.map es a))(he:ER ro [] w (Qz ek ev l) es.toList)(p:(es.toList.map (·.key)).Nodup):
  ∃v,(∀ck,(Instr.lookup T (.map (some b)) (Qw (ek k)) ck).run P w=.ok (if ck then .tuple #[v,.bool (Qe6 l k)]else v) w)/\VR ro [] w (ev (QF l k z0)) v:=by
 obtain⟨u,t⟩:=ER.find K he k p;rcases K.find w k es.toList (QhX K he)with⟨f,d⟩|⟨j,e,f,d,r⟩
 .obtain⟨h,g⟩:=u d;refine⟨z,λck=>?_,?_⟩
  .simp only[Instr.lookup,Vu,run_underlying n,Result.andThen,MapKept.run_getObj_map m,Vv,K.check,f,s,g]
  .rw[QF,h];exact i _ _ _
 .obtain⟨h,v,g,q⟩:=t j e d r;refine⟨e.val,λck=>?_,?_⟩
  .simp only[Instr.lookup,Vu,run_underlying n,Result.andThen,MapKept.run_getObj_map m,Vv,K.check,f,h]
  .rw[QF,g];exact q
theorem YV{zv:β}(K:Y5 P kt ek)(h:some (QF l k z0)=some zv)(m:P.underlying T=some (.map kt et))(t:∀w,(zeroValue et).run P w=.ok z w)(d:ZR (ev z0) z)
  (n:o.op=.lookup T x y false:=by exact rfl)(hx:opA env x=.map i:=by exact rfl)(hH:H[i]?=some (.map (Qz ek ev l)):=by exact rfl)(hy:opA env y=ek k:=by exact rfl):OpV P o env H (ev zv):=by
 obtain rfl:=X7 h;intro R O σ N a w r;have g:=Qg r x;rw[hx]at g;obtain⟨b,B,G⟩:=g;have f:=Qg r y;rw[hy]at f;have s:=VR.val (K.scl _) f;obtain⟨M,e,p,u,L,Q,J⟩:=r.sim.blk i _ _ B hH;obtain⟨v,E,F⟩:=Qd2 (T:=T) (z0:=z0) (k:=k) K m t d p u J;refine⟨v,?_,F.mono ⟨λ_ q=>q,λ_ _=>rfl,λ_ _ q=>q,λj c q=>by simp at q⟩⟩;have:=E false;simp only[execOp,n,G,s,Vu,this,Result.andThen];rfl
theorem QfO{zv:β}(K:Y5 P kt ek)(h:some (QF l k z0)=some zv)(m:P.underlying T=some (.map kt et))(t:∀w,(zeroValue et).run P w=.ok z w)(d:ZR (ev z0) z)
  (n:o.op=.lookup T x y false:=by exact rfl)(hx:opA env x=.map i:=by exact rfl)(hH:H[i]?=some (.fmap (Qz ek ev l)):=by exact rfl)(hy:opA env y=ek k:=by exact rfl):OpV P o env H (ev zv):=by
 obtain rfl:=X7 h;intro R O σ N a w r;have g:=Qg r x;rw[hx]at g;obtain⟨b,B,G⟩:=g;have f:=Qg r y;rw[hy]at f;have s:=VR.val (K.scl _) f;obtain⟨_,M,e,p,u,L,Q,J⟩:=r.sim.blk i _ _ B hH;obtain⟨v,E,F⟩:=Qd2 (T:=T) (z0:=z0) (k:=k) K m t d p u J;refine⟨v,?_,F.mono ⟨λ_ q=>q,λ_ _=>rfl,λ_ _ q=>q,λj c q=>by simp at q⟩⟩;have:=E false;simp only[execOp,n,G,s,Vu,this,Result.andThen];rfl
theorem ER.append{ro:Nat->Prop}{σ:Sig}{w:World}:∀{l m:List (A×A)}{es fs:List MapEntry},ER ro σ w l es->ER ro σ w m fs->ER ro σ w (l++m) (es++fs)
 |[],m,es,fs,h,k=>by cases(show es=[]from h);exact k
 |p::l,m,es,fs,h,k=>by
  obtain⟨e,l',rfl,h1,h2,h3⟩:=h;exact⟨e,l'++fs,rfl,h1,h2,ER.append h3 k⟩
theorem ER.put(K:Y5 P kt ek){ro:Nat->Prop}{w w':World}{v:β}{val:Value}(a:Ext ro [] w ro [] w')(b:VR ro [] w (ev v) val):∀{l:List (α×β)}{es:List MapEntry}{j:Nat}{e:MapEntry},ER ro [] w (Qz ek ev l) es->
  (es.map (·.key)).Nodup->es[j]?=some e->e.key=Qw (ek k)->
  ER ro [] w' (Qz ek ev (l.map λp=>bif decide (p.1=k)then(p.1,v)else p)) (es.modify j λe=>{e with key:=Qw (ek k),val:=val})
 |[],es,j,e,h,hn,he,hk=>by cases(show es=[]from h);simp at he
 |p::l,es,j,e,h,hn,he,hk=>by
  obtain⟨e0,l',rfl,h1,h2,h3⟩:=h;have hk0:e0.key=Qw (ek p.1):=VR.val (K.scl _) h1;simp only[Vr,List.nodup_cons]at hn;cases j with
  |zero=>
   simp only[XL,Option.some.injEq]at he;subst he;have hp:p.1=k:=K.inj _ _ (hk0.symm.trans hk);simp only[List.modify_zero_cons];have e1:Qz ek ev ((p::l).map λp=>bif decide (p.1=k)then(p.1,v)else p)=(ek p.1,ev v)::Qz ek ev l:=by
    simp only[Qz,Vr,hp,decide_true,cond_true,List.map_map,List.cons.injEq,true_and];apply List.map_congr_left;intro q d;have:q.1≠k:=by
     intro e;refine hn.1 ?_;rw[ER.keys K h3];exact Xf.2 ⟨q,d,by rw[e, <- hp,hk0]⟩
    simp[this]
   rw[e1];refine⟨_,l',rfl,?_,b.mono a,h3.mono a⟩;show VR ro [] w' (ek p.1) (Qw (ek k));rw[<- hp];exact QbE (K.scl _)
  |succ j=>
   simp only[XM]at he;have hp:p.1≠k:=by
    intro q;refine hn.1 (Xf.2 ⟨e,List.mem_of_getElem? he,?_⟩);rw[hk,hk0,q]
   simp only[List.modify_succ_cons];have e1:Qz ek ev ((p::l).map λp=>bif decide (p.1=k)then(p.1,v)else p)=(ek p.1,ev p.2)::Qz ek ev (l.map λp=>bif decide (p.1=k)then(p.1,v)else p):=by
    simp[Qz,hp]
   rw[e1];exact⟨_,_,rfl,h1.mono a,h2.mono a,ER.put K a b h3 hn.2 he hk⟩
theorem YL{m:List (α×β)}(K:Y5 P kt ek){v:β}{z:Operand}(hm:some (QW l k v)=some m)(M:Ye (ev v)=true)(hT:P.underlying T=some (.map kt et))
  (ho:o.op=.mapUpdate T x y z:=by exact rfl)(hx:opA env x=.map i:=by exact rfl)(hH:H[i]?=some (.map (Qz ek ev l)):=by exact rfl)(Q:opA env y=ek k:=by exact rfl)(hv:opA env z=ev v:=by exact rfl):
  OpU P o env H (H.set i (.map (Qz ek ev m))):=by
 obtain rfl:=X7 hm;intro fr ro σ N a w r;have h1:=Qg r x;rw[hx]at h1;obtain⟨b,q1,q2⟩:=h1;have h2:=Qg r y;rw[Q]at h2;have h3:=VR.val (K.scl _) h2;have h4:=Qg r z;rw[hv]at h4;have R:VR ro [] w (ev v) (a.eval z):=VR.data M h4;obtain⟨B,s,O,W,p3,p4,X⟩:=r.sim.blk i _ _ q1 hH;obtain⟨f1,f2⟩:=ER.find K W k X;have V:∀(obj:Obj) y,w.shape? b=some y->({w with heap:=w.heap.setIfInBounds b obj}:World).shape? b=some y:=by
  intro obj y Q;unfold World.shape? at Q;rw[O]at Q;simp at Q
 rcases K.find w k B.toList (QhX K W)with⟨g1,J⟩|⟨j,e,g1,J,Y⟩
 .obtain⟨u1,u2⟩:=f1 J;have hl:QW l k v=l++[(k,v)]:=by
   unfold QW;rw[show(l.any λp=>decide (p.1=k))=false from u2];rfl
  have g:=r.sim.set (x':=.map (Qz ek ev (QW l k v))) (obj:=.map (B.push {key:=Qw (ek k),val:=a.eval z,born:=s}) (s+1)) q1 hH rfl (V _)
   (λe F=>⟨_,_,F,by
    rw[hl,Qz,Xg,Array.toList_push];exact(W.mono ⟨e.sub,e.keep,e.shape,λ_ _ q=>q⟩).append ⟨_,_,rfl,QbE (K.scl _),R.mono ⟨e.sub,e.keep,e.shape,λ_ _ q=>q⟩,rfl⟩,by
    rw[Array.toList_push];intro e F;rcases List.mem_append.1 F with q|q
    .exact Nat.lt_succ_of_lt (p3 e q)
    .simp at q;subst q;exact Xp _,by
    rw[Array.toList_push,Xg];refine List.nodup_append.2 ⟨p4,by simp,?_⟩;intro c hc d M;simp at M;subst M;obtain⟨e,F,rfl⟩:=Xf.1 hc;exact Nat.ne_of_lt (p3 e F),by
    rw[Array.toList_push,Xg];refine List.nodup_append.2 ⟨X,by simp,?_⟩;intro c hc d M;simp at M;subst M;obtain⟨e,F,rfl⟩:=Xf.1 hc;exact J e F⟩)
  refine⟨_,ro,[],?_,by simpa using g.1,g.2⟩;simp only[execOp,ho,q2,h3,Vu,Instr.mapUpdate,run_underlying hT,Result.andThen,MapKept.run_getObj_map O,K.check,g1,MapKept.run_setObj_map _ O];rfl
 .obtain⟨u1,u2⟩:=f2 j e J Y;have hl:QW l k v=l.map λp=>bif decide (p.1=k)then(p.1,v)else p:=by
   unfold QW;rw[show(l.any λp=>decide (p.1=k))=true from u1];rfl
  have hj:B[j]?=some e:=by rw[<- J];simp
  have t:(B.modify j λe=>{e with key:=Qw (ek k),val:=a.eval z}).toList=B.toList.modify j λe=>{e with key:=Qw (ek k),val:=a.eval z}:=by simp
  have u:∀{γ:Type} (f:MapEntry->γ),(∀G,B.toList[j]?=some G->f {G with key:=Qw (ek k),val:=a.eval z}=f G)->(B.toList.modify j λe=>{e with key:=Qw (ek k),val:=a.eval z}).map f=B.toList.map f:=by
   intro γ f hf;apply List.ext_getElem?;intro n;rw[Xr,Xr,List.getElem?_modify];by_cases hn:j=n
   .subst hn;cases q:B.toList[j]? with
    |none=>rfl
    |some G=>simp[hf G q]
   .simp[hn]
  have g:=r.sim.set (x':=.map (Qz ek ev (QW l k v))) (obj:=.map (B.modify j λe=>{e with key:=Qw (ek k),val:=a.eval z}) s) q1 hH rfl (V _)
   (λe0 F=>⟨_,_,F,by
    rw[hl,t];exact ER.put K ⟨e0.sub,e0.keep,e0.shape,λ_ _ q=>q⟩ R W X J Y,by
    rw[t];intro G E;have:G.born∈(B.toList.modify j λe=>{e with key:=Qw (ek k),val:=a.eval z}).map (·.born):=List.mem_map_of_mem E;rw[u (·.born) (λ_ _=>rfl)]at this;obtain⟨e2,h,h'⟩:=Xf.1 this;rw[<- h'];exact p3 e2 h,by
    rw[t,u (·.born) (λ_ _=>rfl)];exact p4,by
    rw[t,u (·.key) (λG E=>by rw[J]at E;cases E;exact Y.symm)];exact X⟩)
  refine⟨_,ro,[],?_,by simpa using g.1,g.2⟩;have L:=K.stays w k;simp only[execOp,ho,q2,h3,Vu,Instr.mapUpdate,run_underlying hT,Result.andThen,MapKept.run_getObj_map O,K.check,g1,hj,Xk,Option.getD_some,Y,L,MapKept.run_setObj_map _ O];rfl
theorem ER.length{ro:Nat->Prop}{σ:Sig}{w:World}:∀{l:List (A×A)}{es:List MapEntry},ER ro σ w l es->es.length=l.length
 |[],es,h=>by cases(show es=[]from h);rfl
 |p::l,es,h=>by
  obtain⟨e,l',rfl,_,_,h3⟩:=h;simp[ER.length h3]
theorem QeT{c:Call}{n:Int}(p:P.underlying T=some (.map kt et))(j:(l.length:Int)=n)(q:o.op=.call c:=by exact rfl)(hc:c={callee:=.builtin .len,args:= #[x],argTypes:= #[T]}:=by exact rfl)
  (hx:opA env x=.map i:=by exact rfl)(hH:H[i]?=some (.map (Qz ek ev l)):=by exact rfl):OpV P o env H (.int .i64 n):=by
 intro y z σ N a w r;have g:=Qg r x;rw[hx]at g;obtain⟨b,m,h⟩:=g;obtain⟨f,d,s,u,B,E,F⟩:=r.sim.blk i _ _ m hH;have k:=u.length;refine⟨.int .i64 n,?_,rfl⟩;have e:goInt f.size=.int .i64 n:=by
  have:f.size=l.length:=by rw[<- Array.length_toList,k];simp[Qz]
  rw[this, <- j];rfl
 subst hc;have t:=h;generalize a.eval=ρ at*;rw[<- e];simp[execOp,q,h,resolve,invoke,Go.builtin,Builtin.len_,run_underlying p,MapKept.run_getObj_map s,go_sem]
end
end
end Go.Sw
namespace Go.Sw
open Go.ChangeMaps (setBlock)
section
variable {P:Program}{o:Oper}{env:Env}{H:Qc}{h0 N:Nat}{Q:QC}
def OpE(P:Program)(o:Oper)(env:Env)(H:Qc)(K:A->Qc->Prop):Prop:=
 ∀fr ro σ N a w,Rel fr ro σ H env N a w->∃x H' v w' ro' τ,K x H'/\(execOp a.eval o).run P w=.ok (.value v) w'/\VR ro' (σ++τ) w' x v/\
  Sim fr ro' (σ++τ) H' w'/\Qf fr ro w ro' w'
theorem Qmu{all:Array Oper}{l:List Oper}{d:Nat}{K:A->Qc->Prop}(m:h0<=H.length)(hg:Qx all o env true)(p:o.dst=some d)(n:Nat.blt d N=true)
  (g:OpE P o env H K)(k:∀x H',K x H'->WO P h0 N all l (up env d x) H' Q):WO P h0 N all (o::l) env H Q:=by
 intro z fr B σ a w r hrd;obtain⟨x,H',v,i,b,τ,u,y,t,E,f⟩:=g fr B σ N a w r;refine QaO (Jg hg r) y ?_;simp only[p,Act.put];have h:d<N:=by simpa using n
 have j:Rel fr b (σ++τ) H' (up env d x) N {a with tmps:=a.tmps.setIfInBounds d v} i:=
  ⟨E,VR.up (fr:=fr) (λs=>(r.env s).mono (f.ext σ τ)) (by rw[r.size];exact h) t,by simpa using r.size,r.defers.keep f⟩
 refine Yn (λe a w q=>q.step f (QU ?_)) _ _ _ (k x H' u z fr b (σ++τ) _ i j (hrd.to f λ_ q=>q));rw[r.sim.len];exact m
theorem Sim.shutMap{fr ro:Nat->Prop}{σ:Sig}{w:World}(s:Sim fr ro σ H w){i b:Nat}{es:List (A×A)}(hσ:σ[i]?=some (some b))(r:H[i]?=some (.map es)):
  Sim fr (λc=>ro c\/c=b) σ (H.set i (.fmap es)) w:=by
 have k:b<w.heap.size/\ ¬ro b/\ ¬fr b:=s.own i b _ hσ r rfl;have ext:Ext ro σ w (λc=>ro c\/c=b) σ w:=⟨λ_ q=>.inl q,λ_ _=>rfl,λ_ _ q=>q,λ_ _ q=>q⟩;have a:∀(j:Nat) (v:Blk),(H.set i (.fmap es))[j]?=some v->v.live=true->j≠i/\H[j]?=some v:=by
  intro j v h B;by_cases e:j=i
  .subst e;rw[Xb]at h;simp only[if_true]at h;split at h
   .cases h;simp[Blk.live]at B
   .simp at h
  .rw[XW (λq=>e q.symm)]at h;exact⟨e,h⟩
 have g:∀(j:Nat) (v:Blk),(H.set i (.fmap es))[j]?=some v->v.holds=true->H[j]?=some v:=by
  intro j v h B;by_cases e:j=i
  .subst e;rw[Xb]at h;simp only[if_true]at h;split at h
   .cases h;cases B
   .simp at h
  .rw[XW (λq=>e q.symm)]at h;exact h
 refine⟨by rw[Vb];exact s.len,s.roOk.to (λ_ q=>.inl q) (λ_ _=>rfl) ?_,s.frLt,?_,?_,?_,?_,s.hidTo (· = ·) Q2 (X0 _) (λj d x c N T L Q=>Q.elim id λq=>((s.hid j d x c N T L).ne i b _ hσ r rfl q).elim) (λ_ _ _ _ _ _ _ q=>q) λj d y R O P=>.inl ⟨j,y,rfl,R,g j y O P,id,λ_ q=>q⟩⟩
 .rintro c (q|rfl)
  .exact s.roLt c q
  .exact k.1
 .rintro c (q|rfl)
  .exact s.roFr c q
  .exact k.2.2
 .intro j c v m f p;obtain⟨e,f⟩:=a j v f p;obtain⟨t,u,z⟩:=s.own j c v m f p;refine⟨t,?_,z⟩;rintro(q|rfl)
  .exact u q
  .exact e (s.inj j i c v _ m hσ f r p rfl)
 .intro j E c v J m f p M G F;exact s.inj j E c v J m f (a j v p G).2 (a E J M F).2 G F
 .intro j y v m f;by_cases e:j=i
  .subst e;rw[hσ]at m;cases m;rw[Xb]at f;simp only[if_true]at f;split at f
   .cases f;obtain⟨l,n,t,u,z⟩:=s.blk j _ _ hσ r;exact⟨.inr rfl,l,n,t,u.mono ext.nil,z⟩
   .simp at f
  .rw[XW (λq=>e q.symm)]at f;exact(s.blk j y v m f).keep ext (λ_ _ _=>rfl) (λ_ _ _ _=>rfl)
section
variable {T kt et i:Nat}{x:Operand}{es:List (A×A)}
theorem QiD(u:P.underlying T=some (.map kt et))(y:o.op=.range T x:=by exact rfl)(hx:opA env x=.map i:=by exact rfl)(hH:H[i]?=some (.fmap es):=by exact rfl):
  OpH P o env H (.ptr H.length 0) (H++[.iter none es]):=by
 intro n j σ N a w r;have k:=Qg r x;rw[hx]at k;obtain⟨b,t,z⟩:=k;obtain⟨g,l,d,m,B,q,s,E⟩:=r.sim.blk i _ _ t hH;have p:=r.sim.roLt b g;have f:Qf n j w j (w.alloc (.mapIter (some b) d #[] d)):=Qf.alloc _ r.sim.roLt r.sim.frLt;have ext0:Ext j [] w j [] (w.alloc (.mapIter (some b) d #[] d)):=f.ext0 [];refine⟨.pointer (some ⟨w.heap.size,0,none⟩),w.alloc (.mapIter (some b) d #[] d),_,[some w.heap.size],?_,⟨w.heap.size,?_,rfl⟩,
  r.sim.alloc (.inr ⟨b,l,d, #[],l.toList,YH _ _,g,by rw[Yp _ _ _ p];exact m,q,s,?_,B.mono ext0,λ_ h=>by cases h⟩),f⟩
 .generalize a.eval=ρ at*;simp only[execOp,y,z,Instr.range,Vu,run_underlying u,Result.andThen,MapKept.run_getObj_map m];rfl
 .rw[<- r.sim.len];simp
 .have:l.toList.filter (λe=> !(#[]:Array Nat).contains e.born)=l.toList:=by rw[List.filter_eq_self];intro e _;simp
  rw[this]
theorem ER.mem{ro:Nat->Prop}{σ:Sig}{w:World}:∀{es:List (A×A)}{l:List MapEntry},ER ro σ w es l->∀e∈l,∃x es' l',(x::es').Perm es/\(e::l').Perm l/\VR ro σ w x.1 e.key/\VR ro σ w x.2 e.val/\ER ro σ w es' l'
 |[],l,h,e,he=>by cases(show l=[]from h);cases he
 |y::es,l,h,e,he=>by
  obtain⟨e0,l',rfl,h1,h2,h3⟩:=h;rcases Ve.1 he with rfl|he
  .exact⟨y,es,l',.refl _,.refl _,h1,h2,h3⟩
  .obtain⟨x,es',l'',p1,p2,v1,v2,h4⟩:=ER.mem h3 e he;exact⟨x,y::es',e0::l'',(List.Perm.swap _ _ _).trans (p1.cons _),(List.Perm.swap _ _ _).trans (p2.cons _),v1,v2,⟨e0,l'',rfl,h1,h2,h4⟩⟩
theorem QhF:∀{l:List MapEntry},(l.map (·.born)).Nodup->∀a∈l,∀b∈l,a.born=b.born->a=b
 |[],_,a,ha,_,_,_=>by cases ha
 |c::l,hn,a,ha,b,hb,hab=>by
  simp only[Vr,List.nodup_cons]at hn;rcases Ve.1 ha with ea|ha'<;>rcases Ve.1 hb with eb|hb'
  .rw[ea,eb]
  .subst ea;exact absurd (Xf.2 ⟨b,hb',hab.symm⟩) hn.1
  .subst eb;exact absurd (Xf.2 ⟨a,ha',hab⟩) hn.1
  .exact QhF hn.2 a ha' b hb' hab
def NextK(H:Qc)(i:Nat)(cur:Option (A×A))(es:List (A×A))(v:A)(H':Qc):Prop:=
 (es=[]/\v=.tup [.bool false]/\H'=H)\/ ∃e es',(e::es').Perm es/\v=.tup [.bool true,e.1,e.2]/\H'=H.set i (.iter (some e) es')
theorem OpE.next{L:Option (A×A)}(ho:o.op=.next x false:=by exact rfl)(hx:opA env x=.ptr i 0:=by exact rfl)(hH:H[i]?=some (.iter L es):=by exact rfl):
  OpE P o env H (NextK H i L es):=by
 intro fr s σ N a w r;have h1:=Qg r x;rw[hx]at h1;obtain⟨b,q1,q2⟩:=h1;have n:∀(v:Value) (g:World),g.heap=w.heap->g.os=w.os->g.tape=w.tape->g.output=w.output->w.drawn<=g.drawn->Sim fr s (σ++[]) H g/\Qf fr s w s g:=by
  intro v g X e2 e3 e4 e5;exact⟨by simpa using r.sim.heap X,Qf.heap X e2 e3 e4 e5⟩
 rcases r.sim.blk i _ _ q1 hH with⟨rfl,rfl,p⟩|⟨m,l,d,f,left,p1,p2,Y,p4,p5,p6,p7,p8⟩
 .refine⟨_,_,.tuple #[.bool false],w,s,[],.inl ⟨rfl,rfl,rfl⟩,?_,⟨_,rfl,_,_,rfl,rfl,rfl⟩,n (.bool false) w rfl rfl rfl rfl (X0 _)⟩;generalize a.eval=ρ at*;simp only[execOp,ho,q2,Instr.next,Vu,getObj,Sem.run,p,Result.andThen];rfl
 .have t:(leftOf l f).toList=l.toList.filter λe=> !f.contains e.born:=by simp[leftOf]
  have u:left.Perm (leftOf l f).toList:=by rw[t];exact p6
  rcases run_next_at (P:=P) w o.type b m d d f l d p1 Y p4 (X0 _)with⟨T,g2⟩|⟨e,T,g,g2,g3⟩
  .have af:left=[]:=by
    have:left.length=0:=by rw[u.length_eq];simpa using T
    exact List.length_eq_zero_iff.1 this
   subst af;have ad:es=[]:=by
    have:=p7.length;simp only[List.length_nil]at this;exact List.length_eq_zero_iff.1 this.symm
   refine⟨_,_,.tuple #[.bool false],w,s,[],.inl ⟨ad,rfl,rfl⟩,?_,⟨_,rfl,_,_,rfl,rfl,rfl⟩,n (.bool false) w rfl rfl rfl rfl (X0 _)⟩;generalize a.eval=ρ at*;simp only[execOp,ho,q2,Vu,g2,Result.andThen];rfl
  .have he:e∈left:=u.mem_iff.2 T;have O:e∈l.toList:=by rw[t]at T;exact(Xe.1 T).1
   obtain⟨y,Q,M,k1,k2,v1,v2,k3⟩:=p7.mem e he;have k:g.heap=w.heap/\g.os=w.os/\g.tape=w.tape/\g.output=w.output/\w.drawn<=g.drawn:=by
    rcases g2 with rfl|rfl
    .exact⟨rfl,rfl,rfl,rfl,X0 _⟩
    .exact⟨rfl,rfl,rfl,rfl,Nat.le_succ _⟩
   obtain⟨s1,J⟩:=n (.bool false) g k.1 k.2.1 k.2.2.1 k.2.2.2.1 k.2.2.2.2;rw[Vo]at s1;have ab:b≠m:=by
    rintro rfl;rw[p1]at Y;cases Y
   have F:=s1.set (x':=.iter (some y) Q) (obj:=.mapIter (some m) d (f.push e.born) d) q1 hH rfl
    (λz E=>by
     unfold World.shape? at E;rw[k.1,p1]at E;simp at E)
    (λB aa=>.inr ⟨m,l,d,f.push e.born,M,aa,B.sub _ p2,by
      show(g.heap.setIfInBounds b _)[m]?=_;rw[Vm,if_neg ab,k.1];exact Y,p4,p5,by
      have ae:(l.toList.filter λe=> !f.contains e.born).Nodup:=by
       have:l.toList.Nodup:=List.Pairwise.of_map _ (λa b h q=>h (congrArg _ q)) p5;exact this.filter _
      have hp:(e::M).Perm (l.toList.filter λe=> !f.contains e.born):=k2.trans p6;have R:(e::M).Nodup:=hp.nodup_iff.2 ae;have X:(l.toList.filter λG=> !(f.push e.born).contains G.born)=(l.toList.filter λe=> !f.contains e.born).filter λG=> !decide (G.born=e.born):=by
       rw[List.filter_filter];apply List.filter_congr;intro z _;simp[Array.contains_push,Bool.and_comm]
      rw[X];have h2:=hp.filter (λG=> !decide (G.born=e.born));have e2:(e::M).filter (λG=> !decide (G.born=e.born))=M:=by
       rw[List.filter_cons_of_neg (by simp),List.filter_eq_self];intro z E;have ac:z∈l.toList:=(Xe.1 (hp.mem_iff.1 (Vd _ E))).1;simp only[Bool.not_eq_true',decide_eq_false_iff_not];intro hb;have:z=e:=by
        exact QhF p5 z ac e O hb
       subst this;exact(List.nodup_cons.1 R).1 E
      rw[e2]at h2;exact h2,by
      have W:Ext s [] w s [] g:=J.ext0 [];exact(k3.mono W).mono ⟨B.sub,B.keep,B.shape,λ_ _ q=>q⟩,by
      intro z E;cases E;have W:Ext s [] w s [] g:=J.ext0 [];exact⟨e,O,by simp,(v1.mono W).mono ⟨B.sub,B.keep,B.shape,λ_ _ q=>q⟩,(v2.mono W).mono ⟨B.sub,B.keep,B.shape,λ_ _ q=>q⟩⟩⟩)
   have V:=J.trans F.2;have xt:Ext s [] w s [] {g with heap:=g.heap.setIfInBounds b (.mapIter (some m) d (f.push e.born) d)}:=V.ext0 [];refine⟨_,_,.tuple #[.bool true,e.key,e.val],_,s,[],.inr ⟨y,Q,k1,rfl,rfl⟩,?_,
    ⟨[.bool true,e.key,e.val],rfl,_,_,rfl,rfl,_,_,rfl,(v1.mono xt).mono ⟨λ_ q=>q,λ_ _=>rfl,λ_ _ q=>q,λj c q=>by simp at q⟩,_,_,rfl,(v2.mono xt).mono ⟨λ_ q=>q,λ_ _=>rfl,λ_ _ q=>q,λj c q=>by simp at q⟩,rfl⟩,by simpa using F.1,V⟩
   generalize a.eval=ρ at*;simp only[execOp,ho,q2,Vu,g3,Result.andThen,setBlock];rfl
theorem OpV.entry{e:A×A}(G:o.op=.entry x:=by exact rfl)(hx:opA env x=.ptr i 0:=by exact rfl)(hH:H[i]?=some (.iter (some e) es):=by exact rfl):OpV P o env H (.tup [e.1,e.2]):=by
 intro Q T σ N a w r;have n:=Qg r x;rw[hx]at n;obtain⟨b,u,F⟩:=n;rcases r.sim.blk i _ _ u hH with⟨_,h,_⟩|⟨m,l,d,k,left,t,M,E,R,z,O,L,s⟩
 .cases h
 .obtain⟨f,p,y,B,J⟩:=s e rfl;refine⟨.tuple #[f.key,f.val],?_,[f.key,f.val],rfl,_,_,rfl,B.mono ⟨λ_ q=>q,λ_ _=>rfl,λ_ _ q=>q,λj c q=>by simp at q⟩,_,_,rfl,J.mono ⟨λ_ q=>q,λ_ _=>rfl,λ_ _ q=>q,λj c q=>by simp at q⟩,rfl⟩;have g:l.find? (·.born==f.born)=some f:=by rw[<- Array.find?_toList];exact find_born f l.toList z p
  generalize a.eval=ρ at*;simp only[execOp,G,F,Instr.entry,getObj,Vu,Sem.run,t,E,Result.andThen,y,bne_self_eq_false,Xj,if_false,g];rfl
end
end
end Go.Sw
namespace Go.Sw
def Qa8{E:Type}(x:E):List E->List (List E)
 |[]=>[[x]]
 |y::l=>(x::y::l)::(Qa8 x l).map (y:: ·)
def Qby{E:Type}:List E->List (List E)
 |[]=>[[]]
 |x::l=>(Qby l).flatMap (Qa8 x)
theorem Qen{E:Type}(x:E):∀(a b:List E),a++x::b∈Qa8 x (a++b)
 |[],[]=>by simp[Qa8]
 |[],y::b=>by simp[Qa8]
 |y::a,b=>by
  simp only[List.cons_append,Qa8,Ve,Xf];exact .inr ⟨a++x::b,Qen x a b,rfl⟩
theorem QcX{E:Type}:∀(l p:List E),p.Perm l->p∈Qby l
 |[],p,h=>by rw[List.perm_nil.1 h];simp[Qby]
 |x::l,p,h=>by
  have hx:x∈p:=h.mem_iff.2 (by simp);obtain⟨a,b,rfl⟩:=List.append_of_mem hx;have h2:(a++b).Perm l:=(List.perm_cons x).1 ((List.perm_middle.symm).trans h);simp only[Qby,List.mem_flatMap];exact⟨a++b,QcX l _ h2,Qen x a b⟩
def anyP{E R:Type}[DecidableEq R](k:List E->Option R)(l:List E):Option R:=bif (Qby l).all (λp=>decide (k p=k l))then k l else none
theorem QnF{E R:Type}[DecidableEq R]{k:List E->Option R}{l:List E}{r:R}(h:anyP k l=some r)(p:List E)(a:p.Perm l):k p=some r:=by
 unfold anyP at h;cases q:(Qby l).all (λp=>decide (k p=k l))with
 |true=>
  rw[q]at h;have:=Xw.1 q p (QcX l p a);rw[of_decide_eq_true this];exact h
 |false=>rw[q]at h;cases h
theorem QbZ{E:Type}:∀(l p:List E),p∈Qby l->p.Perm l
 |[],p,h=>by simp[Qby]at h;rw[h]
 |x::l,p,h=>by
  simp only[Qby,List.mem_flatMap]at h;obtain⟨q,hq,hp⟩:=h;have ins:∀(q p:List E),p∈Qa8 x q->p.Perm (x::q):=by
   intro q
   induction q with
   |nil=>intro p hp;simp[Qa8]at hp;rw[hp]
   |cons y q b=>
    intro p hp;simp only[Qa8,Ve,Xf]at hp;rcases hp with rfl|⟨z,a,rfl⟩
    .exact .refl _
    .exact((b z a).cons y).trans (List.Perm.swap _ _ _)
  exact(ins q p hp).trans ((QbZ l q hq).cons x)
theorem QnG{E R:Type}[DecidableEq R]{k:List E->Option R}{l:List E}{r:R}(h:∀p,p.Perm l->k p=some r):anyP k l=some r:=by
 unfold anyP;have:(Qby l).all (λp=>decide (k p=k l))=true:=Xw.2 λp a=>by
  rw[h p (QbZ l p a),h l (.refl _)];simp
 rw[this];exact h l (.refl _)
section
variable {P:Program}{o:Oper}{env:Env}{H:Qc}{h0 N:Nat}{Q:QC}{c:Code}
section
variable {S E B:Type}{stepE:S->E->Option (Ctl S B)}{stepN:S->Option B}{G:B->Prop} (Es:S->Env) (Hp:S->List (A×A)->Qc) {enc:E->A×A}
theorem QjN{α β:Type}{f:α->β}:∀{m i:List β},m.Perm i->∀{l:List α},i=l.map f->∃l':List α,l'.Perm l/\l'.map f=m:=by
 intro m i h
 induction h with
 |nil=>intro l d;exact⟨[],by rw[List.map_eq_nil_iff.1 d.symm],rfl⟩
 |cons x _ ih=>
  intro l d;cases l with
  |nil=>cases d
  |cons a l=>
   simp only[Vr,List.cons.injEq]at d;obtain⟨l',g,e⟩:=ih d.2;exact⟨a::l',g.cons _,by simp[e,d.1]⟩
 |swap x y m=>
  intro l d
  match l,d with
  |a::b::l,d=>
   simp only[Vr,List.cons.injEq]at d;exact⟨b::a::l,List.Perm.swap _ _ _,by simp[d.1,d.2.1,d.2.2]⟩
 |trans _ _ ih1 ih2=>
  intro l d;obtain⟨p,g,e⟩:=ih2 d;obtain⟨k,n,j⟩:=ih1 e.symm;exact⟨k,n.trans g,j⟩
end
theorem QkI{i:Nat}{k:Option (A×A)}{es:List (A×A)}{H':Qc}(s:H[i]?=some (.iter k es))(f:H.set i (.iter none es)=H'):Le h0 env H env H':=by
 subst f;intro G B σ N a w r;refine⟨B,σ,⟨r.sim.weaken (x':=.iter none es) s rfl ?_,r.env,r.size,r.defers⟩,λ_ q=>q,rfl⟩;intro y h;cases y with
 |none=>exact h
 |some b=>
  rcases h with⟨g,n,j⟩|⟨m,l,d,e,left,g,n,j,p,t,E,u,F⟩
  .exact .inl ⟨g,rfl,j⟩
  .exact .inr ⟨m,l,d,e,left,g,n,j,p,t,E,u,λx z=>by cases z⟩
end
end Go.Sw
namespace Go.Sw
def mk{α:Type}(n:Int)(z:α):Option (List α):=bif decide (0<=n)&&decide (n<=4294967296)then some (List.replicate n.toNat z)else none
theorem mk_ok{α:Type}{n:Int}{z:α}{l:List α}(h:mk n z=some l):0<=n/\n<=4294967296/\List.replicate n.toNat z=l:=by
 unfold mk at h;cases q:(decide (0<=n)&&decide (n<=4294967296))with
 |true=>rw[q]at h;simp at q;exact⟨q.1,q.2,X7 h⟩
 |false=>rw[q]at h;cases h
theorem Qfk{α:Type}[Inhabited α](zl:List α)(k:Nat)(hk:zl.length=k)(h0:0<k):∀n,(List.range (n*k)).map (λi=>zl.toArray[i%zl.toArray.size]!)=(List.replicate n zl).flatten
 |0=>by simp
 |n+1=>by
  rw[Xn,List.range_add,Xg,Qfk zl k hk h0 n,List.replicate_succ',Xv];congr 1;simp only[Vt,List.flatten_nil,Vo,List.map_map];apply List.ext_getElem
  .simp[hk]
  .intro i h1 h2;simp only[X9,Xy]at h1;simp only[List.getElem_map,List.getElem_range,Function.comp,List.size_toArray,hk];rw[Nat.mul_comm,Nat.mul_add_mod,Nat.mod_eq_of_lt h1];simp[hk,h1]
section
variable {P:Program}{o:Oper}{env:Env}{H:Qc}{ro:Nat->Prop}{σ:Sig}{w:World}
theorem LR.replicate{az:List A}{l:List Value}(h:LR ro σ w az l):∀n,LR ro σ w (List.replicate n az).flatten (List.replicate n l).flatten
 |0=>rfl
 |n+1=>by
  rw[Xm,Xm];exact h.append (LR.replicate h n)
theorem QnO{α:Type}{e:α->List A}{T et k:Nat}{x y:Operand}{kx ky:IntKind}{n:Int}{zv:α}{l:List α}{z:Value}{a:A}(Y:mk n zv=some l)(E:Q0 P T et k)(hz:∀w,(zeroValue et).run P w=.ok z w)(M:ZR a z)
  (hk:Yk a=true)(hc:Q8 a=e zv)(hp:(Q8 a).all Ys=true)(g:Nat.beq (e zv).length k=true)
  (ho:o.op=.makeSlice T x y:=by exact rfl)(hx:opA env x=.int kx n:=by exact rfl)(hy:opA env y=.int ky n:=by exact rfl):
  OpH P o env H (.osl H.length 0 l.length k) (H++[.row et k (l.map e)]):=by
 intro fr ro σ N act w r;obtain⟨n0,n1,hl⟩:=mk_ok Y;have h1:=Qg r x;rw[hx]at h1;have h2:=Qg r y;rw[hy]at h2;have ad:act.eval x=.int kx n:=h1;have R:act.eval y=.int ky n:=h2;obtain⟨i,hi,ag⟩:=E.bytes;obtain⟨d,c1,V⟩:=(M ro [] w).cells hk;have p:d.length=k:=by
  rw[V.length,hc];exact XX g
 have ae:(if n.toNat*k=0 then(#[]:Array Value)else d.toArray)=d.toArray\/n.toNat*k=0:=by
  by_cases q:n.toNat*k=0
  .exact .inr q
  .exact .inl (if_neg q)
 have b:∀(ZZ:Array Value),(ZZ=d.toArray\/n.toNat*k=0)->(Array.range (n.toNat*k)).map (λj=>ZZ[j%ZZ.size]!)=((List.replicate n.toNat d).flatten).toArray:=by
  intro ZZ hZ;by_cases q:n.toNat*k=0
  .rw[q];have:(List.replicate n.toNat d).flatten=[]:=by
    apply List.length_eq_zero_iff.1;simp[p,q]
   rw[this];simp
  .obtain rfl:ZZ=d.toArray:=hZ.resolve_right q;have L:0<k:=by
    rcases Nat.eq_zero_or_pos k with h|h
    .rw[h,Nat.mul_zero]at q;exact absurd rfl q
    .exact h
   rw[<- Qfk d k p L n.toNat];simp[XP, <- List.toArray_range]
 have s:=V.replicate n.toNat;have aa:allK k (List.replicate n.toNat (e zv)):=by
  have:∀m,allK k (List.replicate m (e zv)):=by
   intro m
   induction m with
   |zero=>trivial
   |succ m ih=>exact⟨XX g,ih⟩
  exact this _
 have f:∀v∈(List.replicate n.toNat d).flatten,QA v:=by
  intro v J;obtain⟨m,Y,J⟩:=List.mem_flatten.1 J;rw[List.eq_of_mem_replicate Y]at J;exact V.plain hp v J
 rw[hc]at s;have hs:=r.sim.allocRow (t:=et) (rest:=[]) aa s f;rw[Vo]at hs;have u:l.map e=List.replicate n.toNat (e zv):=by rw[<- hl,List.map_replicate]
 have G:l.length=n.toNat:=by rw[<- hl];simp
 have ac:(w.alloc (.cells ((List.replicate n.toNat d).flatten).toArray et)).shape? w.heap.size=some (et,n.toNat*k):=by
  unfold World.shape?;rw[YH];simp[p]
 refine⟨.slice (some ⟨w.heap.size,0,none⟩) n.toNat n.toNat,w.alloc (.cells ((List.replicate n.toNat d).flatten).toArray et),ro,[some w.heap.size],?_,?_,u▸hs,Qf.alloc _ r.sim.roLt r.sim.frLt⟩
 .have hw:IntKind.i64.wrap n=n:=by
   unfold IntKind.wrap;simp[IntKind.bits,IntKind.signed];omega
  have O:∀(x:Nat) (W:World),(askRoom x).run P W=.ok () W:=by
   intro x W;unfold askRoom;split<;>rfl
  have F:∀(c:Array Value) (W:World),(newRow et c).run P W=.ok ⟨W.heap.size,0,none⟩ (W.alloc (.cells c et)):=λc W=>rfl;have ab:¬(n<0):=by omega
  have X:¬((i.bytes:Int)*n>2^48):=by
   have h1:(i.bytes:Int)*n<=4096*4294967296:=Int.mul_le_mul (by omega) n1 n0 (by omega);omega
  have B:(Instr.makeSlice T (.int kx n) (.int ky n)).run P w=.ok (.slice (some ⟨w.heap.size,0,none⟩) n.toNat n.toNat) (w.alloc (.cells ((List.replicate n.toNat d).flatten).toArray et)):=by
   have af:¬(n>n):=by omega
   have Q:∀(k:IntKind) (m:Int) (W:World),(asInt (.int k m)).run P W=.ok m W:=λk m W=>rfl;unfold Instr.makeSlice;simp only[Vu,E.sl,E.size,hi,Result.andThen,Q,Vv,hw,O,XO];rw[if_neg (by simp[ab,X];omega)];by_cases q:n.toNat*k=0
   .simp only[q,if_true,Vv];have:=b #[] (.inr q);rw[q]at this;simp only[this,F]
   .simp only[q,if_false,hz,Vv,c1,b d.toArray (.inl rfl),F]
  generalize act.eval=ρ at*;simp only[execOp,ho,ad,R,Vu,B,Result.andThen];rfl
 .right;refine⟨w.heap.size,0,n.toNat,et,n.toNat*k,?_,by rw[G],λ_=>by simp,by rw[G];exact X0 _,ac,by simp⟩;rw[<- r.sim.len];simp
end
end Go.Sw
