/- The rules by which the code is walked, with what they rest on (part 1). -/
import Derived.Calls
import Derived.Tactics
import Derived.Below
import Derived.TacticsIn
import Derived.OrdersIn
import Derived.RangeFuncLeaves
import Derived.RangeFuncRecord
import Derived.Laws.Strings
import Derived.Laws.World
import Derived.Orders
import Derived.Maps.Keyed
import Derived.Laws.StructEq
import Derived.Maps.RangeRun
set_option linter.unusedVariables false
set_option linter.unusedSimpArgs false
set_option linter.unusedSectionVars false
namespace Go.Sw
abbrev Xa:= @List.getElem?_set_self
abbrev Xb:= @List.getElem?_set
abbrev Xc:= @List.pairwise_cons
abbrev Xd:= @List.filter_cons
abbrev Xe:= @List.mem_filter
abbrev Xf:= @List.mem_map
abbrev Xg:= @List.map_append
abbrev Xh:= @Bool.not_true
abbrev Xi:= @Bool.not_false
abbrev Xj:= @Bool.false_eq_true
abbrev Xk:= @Option.map_some
abbrev Xl:= @Option.map_none
abbrev Xm:= @Nat.succ_mul
abbrev Xn:= @Nat.not_lt_zero
abbrev Xo:= @Nat.lt_succ_self
abbrev Xp:= @Nat.lt_succ_iff_lt_or_eq
abbrev Xq:= @List.getElem?_map
abbrev Xr:= @List.drop_eq_getElem_cons
abbrev Xs:= @List.drop_of_length_le
abbrev Xt:= @List.drop_eq_nil_iff
abbrev Xu:= @List.drop_length
abbrev Xv:= @List.flatten_append
abbrev Xw:= @List.all_eq_true
abbrev Xx:= @List.any_eq_true
abbrev Xy:= @List.length_range
abbrev Xz:= @List.range_succ
abbrev XA:= @Nat.sub_zero
abbrev XB:= @Nat.zero_add
abbrev XC:= @Nat.add_zero
abbrev XD:= @List.length_take
abbrev XE:= @List.length_drop
abbrev XF:= @List.take_append_drop
abbrev XG:= @Nat.add_mul
abbrev XH:= @Nat.min_eq_left
abbrev XI:= @Nat.mul_le_mul_right
abbrev XJ:= @List.foldl_append
abbrev XK:= @List.foldl_cons
abbrev XL:= @List.getElem?_cons_zero
abbrev XM:= @List.getElem?_cons_succ
abbrev XN:= @List.getElem?_toArray
abbrev XO:= @Sem.run_ite
abbrev XP:= @List.map_toArray
abbrev XQ:= @Option.bind_some
abbrev XR:= @List.getElem?_eq_getElem
abbrev XS:= @List.getElem?_eq_some_iff
abbrev XT:= @List.getElem?_append_left
abbrev XU:= @List.getElem?_append_right
abbrev XV:= @List.getElem?_eq_none
abbrev XW:= @List.getElem?_set_ne
abbrev XX:= @Nat.eq_of_beq_eq_true
abbrev XY:= @Nat.le_of_ble_eq_true
abbrev XZ:= @Nat.ble_eq_true_of_le
abbrev X0:= @Nat.le_refl
abbrev X2:= @Nat.zero_le
abbrev X3:= @Nat.le_trans
abbrev X4:= @Bool.and_eq_true
abbrev X5:= @Bool.or_eq_false_iff
abbrev X6:= @Bool.eq_iff_iff
abbrev X7:= @Option.some.inj
abbrev X8:= @List.length_cons
abbrev X9:= @List.length_map
abbrev Va:= @List.length_append
abbrev Vb:= @List.length_set
abbrev Vc:= @List.mem_cons_self
abbrev Vd:= @List.mem_cons_of_mem
abbrev Ve:= @List.mem_cons
abbrev Vf:= @List.take_append_of_le_length
abbrev Vg:= @List.drop_append_of_le_length
abbrev Vh:= @List.take_length
abbrev Vi:= @List.drop_length_add_append
abbrev Vj:= @List.take_length_add_append
abbrev Vk:= @Array.getElem?_eq_some_iff
abbrev Vl:= @List.getElem_mem
abbrev Vm:= @Array.getElem?_setIfInBounds
abbrev Vn:= @Nat.lt_of_lt_of_le
abbrev Vo:= @List.append_nil
abbrev Vp:= @List.nil_append
abbrev Vq:= @List.append_assoc
abbrev Vr:= @List.map_cons
abbrev Vs:= @List.map_nil
abbrev Vt:= @List.flatten_cons
abbrev Vu:= @Sem.run_bind
abbrev Vv:= @Sem.run_pure
def QjY:Nat:=0
def nG:Nat:=1
def Qij:List (List Int):=[]
theorem gOk:((List.range nG).all λb=>Nat.beq b QjY|| !(Qij.getD b []).isEmpty)=true:=by decide
theorem gLt:Nat.ble Qij.length nG=true:=by decide
theorem Qow:Nat.blt QjY nG=true:=by decide
structure GP (w:World):Prop where
 max:∃m:Int,w.cell? ⟨QjY,0,none⟩=some (.int .i64 m)
 tab:∀(g:Nat) (zs:List Int),Qij[g]?=some zs->∀(i:Nat) (z:Int),zs[i]?=some z->w.cell? ⟨g,i,none⟩=some (.int .i64 z)
theorem GP.keep{w w':World}(h:∀b,b<nG->w'.heap[b]?=w.heap[b]?)(g:GP w):GP w':=by
 obtain⟨m,f⟩:=g.max;refine⟨⟨m,?_⟩,λd j a i z e=>?_⟩
 .rw[<- f];unfold World.cell?;rw[h QjY (by simpa using Qow)]
 .rw[<- g.tab d j a i z e];unfold World.cell?;have k:=(XS.1 a).1;have l:Qij.length<=nG:=by simpa using gLt
  rw[h d (by omega)]
theorem QfW{w:World}{b i:Nat}{v:Value}(h:w.cell? ⟨b,i,none⟩=some v):b<w.heap.size:=by
 cases e:w.heap[b]? with
 |none=>simp[World.cell?,e]at h
 |some o=>exact(Vk.1 e).1
theorem GP.size{w:World}(g:GP w)(b:Nat)(f:b<nG):b<w.heap.size:=by
 have h:=Xw.1 gOk b (List.mem_range.2 f);rw[Bool.or_eq_true]at h;rcases h with h|h
 .obtain⟨m,d⟩:=g.max;rw[XX h];exact QfW d
 .cases e:Qij[b]? with
  |none=>rw[List.getD_eq_getElem?_getD,e]at h;simp at h
  |some a=>
   cases a with
   |nil=>rw[List.getD_eq_getElem?_getD,e]at h;simp at h
   |cons z a=>exact QfW (g.tab b _ e 0 z rfl)
end Go.Sw
namespace Go.Sw
inductive A where
 |any
 |bool (b:Bool)
 |int (k:IntKind) (n:Int)
 |str (s:List UInt8)
 |nilp
 |ptr (i off:Nat)
 |rp (cs:List A)
 |nils
 |rsl (k:Nat) (es:List (List A))
 |osl (i o n k:Nat)
 |agg (cs:List A)
 |fn (f:Fn) (first cap:List A)
 |nilf
 |iface (t:Nat) (v:A)
 |nilif
 |map (i:Nat)
 |nilm
 |tup (vs:List A)
abbrev Sig:=List (Option Nat)
def Qz:Value->Prop
 |.agg _|.tuple _=>False
 |_=>True
mutual
def VR(ro:Nat->Prop)(σ:Sig)(w:World):A->Value->Prop
 |.any,_=>True
 |.bool b,v=>v=.bool b
 |.int k n,v=>v=.int k n
 |.str s,v=>v=.string ⟨s.toArray⟩
 |.nilp,v=>v=.pointer none
 |.ptr i off,v=>∃b,σ[i]?=some (some b)/\v=.pointer (some ⟨b,off,none⟩)
 |.rp cs,v=>∃b off,v=.pointer (some ⟨b,off,none⟩)/\ro b/\CR ro [] w b cs off
 |.nils,v=>v=.slice none 0 0
 |.rsl k es,v=>∃a cap,v=.slice a es.length cap/\es.length<=cap/\
   (es=[]\/ ∃b off,a=some ⟨b,off,none⟩/\ro b/\RR ro [] w b k es off)
 |.osl i o n k,v=>(n=0/\v=.slice none 0 0)\/
   ∃b p cap t m,σ[i]?=some (some b)/\v=.slice (some ⟨b,p,none⟩) n cap/\(0<cap->p=o*k)/\n<=cap/\w.shape? b=some (t,m)/\(o+cap)*k<=m
 |.agg cs,v=>∃l:List Value,v=.agg l.toArray/\LR ro σ w cs l
 |.fn f first cap,v=>∃l l':List Value,v=.func f l.toArray l'.toArray/\LR ro σ w first l/\LR ro σ w cap l'
 |.nilf,v=>v=.nilFunc
 |.iface t a,v=>∃x,v=.iface t x/\VR ro σ w a x
 |.nilif,v=>v=.nilIface
 |.map i,v=>∃b,σ[i]?=some (some b)/\v=.map (some b)
 |.nilm,v=>v=.map none
 |.tup vs,v=>∃l:List Value,v=.tuple l.toArray/\LR ro σ w vs l
def CR(ro:Nat->Prop)(σ:Sig)(w:World)(b:Nat):List A->Nat->Prop
 |[],_=>True
 |a::r,off=>(∃v,w.cell? ⟨b,off,none⟩=some v/\Qz v/\VR ro σ w a v)/\CR ro σ w b r (off+1)
def RR(ro:Nat->Prop)(σ:Sig)(w:World)(b k:Nat):List (List A)->Nat->Prop
 |[],_=>True
 |cs::r,off=>cs.length=k/\CR ro σ w b cs off/\RR ro σ w b k r (off+k)
def LR(ro:Nat->Prop)(σ:Sig)(w:World):List A->List Value->Prop
 |[],l=>l=[]
 |a::r,l=>∃v l',l=v::l'/\VR ro σ w a v/\LR ro σ w r l'
end
structure Ext (ro:Nat->Prop) (σ:Sig) (w:World) (ro':Nat->Prop) (σ':Sig) (w':World):Prop where
 sub:∀b,ro b->ro' b
 keep:∀b,ro b->w'.heap[b]?=w.heap[b]?
 shape:∀b x,w.shape? b=some x->w'.shape? b=some x
 sig:∀(i b:Nat),σ[i]?=some (some b)->σ'[i]?=some (some b)
theorem QfX{w w':World}{b off:Nat}(h:w'.heap[b]?=w.heap[b]?):w'.cell? ⟨b,off,none⟩=w.cell? ⟨b,off,none⟩:=by
 simp only[World.cell?,h]
theorem Ext.nil{ro ro':Nat->Prop}{σ σ':Sig}{w w':World}(h:Ext ro σ w ro' σ' w'):Ext ro [] w ro' [] w':=
 ⟨h.sub,h.keep,h.shape,λ_ _ q=>q⟩
mutual
theorem VR.mono{ro ro':Nat->Prop}{w w':World}:∀{a:A}{σ σ':Sig}{v:Value},Ext ro σ w ro' σ' w'->VR ro σ w a v->VR ro' σ' w' a v
 |.any,_,_,_,h,_=>trivial
 |.bool b,_,_,v,h,q=>q
 |.int k n,_,_,v,h,q=>q
 |.str s,_,_,v,h,q=>q
 |.nilp,_,_,v,h,q=>q
 |.ptr i off,_,_,v,h,q=>by
  simp only[VR]at q⊢;obtain⟨b,h1,h2⟩:=q;exact⟨b,h.sig _ _ h1,h2⟩
 |.rp cs,_,_,v,h,q=>by
  simp only[VR]at q⊢;obtain⟨b,off,h1,h2,h3⟩:=q;exact⟨b,off,h1,h.sub _ h2,CR.mono h.nil h2 h3⟩
 |.nils,_,_,v,h,q=>q
 |.rsl k es,_,_,v,h,q=>by
  simp only[VR]at q⊢;obtain⟨a,cap,h1,h2,h3⟩:=q;refine⟨a,cap,h1,h2,?_⟩;rcases h3 with h3|⟨b,off,h4,h5,h6⟩
  .exact .inl h3
  .exact .inr ⟨b,off,h4,h.sub _ h5,RR.mono h.nil h5 h6⟩
 |.osl i o n k,_,_,v,h,q=>by
  simp only[VR]at q⊢;rcases q with q|⟨b,p,cap,t,m,h1,h2,h6,h3,h4,h5⟩
  .exact .inl q
  .exact .inr ⟨b,p,cap,t,m,h.sig _ _ h1,h2,h6,h3,h.shape _ _ h4,h5⟩
 |.agg cs,_,_,v,h,q=>by
  simp only[VR]at q⊢;obtain⟨l,h1,h2⟩:=q;exact⟨l,h1,LR.mono h h2⟩
 |.fn f a c,_,_,v,h,q=>by
  simp only[VR]at q⊢;obtain⟨l,l',h1,h2,h3⟩:=q;exact⟨l,l',h1,LR.mono h h2,LR.mono h h3⟩
 |.nilf,_,_,v,h,q=>q
 |.iface t a,_,_,v,h,q=>by
  simp only[VR]at q⊢;obtain⟨x,h1,h2⟩:=q;exact⟨x,h1,VR.mono h h2⟩
 |.nilif,_,_,v,h,q=>q
 |.map i,_,_,v,h,q=>by
  simp only[VR]at q⊢;obtain⟨b,h1,h2⟩:=q;exact⟨b,h.sig _ _ h1,h2⟩
 |.nilm,_,_,v,h,q=>q
 |.tup vs,_,_,v,h,q=>by
  simp only[VR]at q⊢;obtain⟨l,h1,h2⟩:=q;exact⟨l,h1,LR.mono h h2⟩
theorem CR.mono{ro ro':Nat->Prop}{w w':World}:∀{cs:List A}{σ σ':Sig}{b off:Nat},Ext ro σ w ro' σ' w'->ro b->CR ro σ w b cs off->CR ro' σ' w' b cs off
 |[],_,_,_,_,_,_,_=>trivial
 |a::r,_,_,b,off,h,hb,q=>by
  simp only[CR]at q⊢;obtain⟨⟨v,h1,hp,h2⟩,h3⟩:=q;exact⟨⟨v,by rw[QfX (h.keep _ hb)];exact h1,hp,VR.mono h h2⟩,CR.mono h hb h3⟩
theorem RR.mono{ro ro':Nat->Prop}{w w':World}:∀{es:List (List A)}{σ σ':Sig}{b k off:Nat},Ext ro σ w ro' σ' w'->ro b->RR ro σ w b k es off->RR ro' σ' w' b k es off
 |[],_,_,_,_,_,_,_,_=>trivial
 |cs::r,_,_,b,k,off,h,hb,q=>by
  simp only[RR]at q⊢;obtain⟨h1,h2,h3⟩:=q;exact⟨h1,CR.mono h hb h2,RR.mono h hb h3⟩
theorem LR.mono{ro ro':Nat->Prop}{w w':World}:∀{az:List A}{σ σ':Sig}{l:List Value},Ext ro σ w ro' σ' w'->LR ro σ w az l->LR ro' σ' w' az l
 |[],_,_,_,h,q=>q
 |a::r,_,_,l,h,q=>by
  simp only[LR]at q⊢;obtain⟨v,l',h1,h2,h3⟩:=q;exact⟨v,l',h1,VR.mono h h2,LR.mono h h3⟩
end
structure Ent where
 fl:Bool
 off:Nat
 lo:Int
 hi:Int
def eC(b1 b2:Nat)(e:Ent):List A:=[.ptr (bif e.fl then b2 else b1) e.off,.int .i64 e.lo,.int .i64 e.hi]
inductive Blk where
 |dead
 |cells (t:Nat) (cs:List A)
 |row (t k:Nat) (es:List (List A))
 |rowr (t k:Nat) (es:List (List A))
 |map (es:List (A×A))
 |iter (cur:Option (A×A)) (es:List (A×A))
 |fmap (es:List (A×A))
 |ents (t b1 b2:Nat) (es:List Ent)
 |mapO (fz:Bool) (t k:Nat) (es:List (A×Option (List (List A))))
def Blk.live:Blk->Bool
 |.dead=>false
 |.fmap _=>false
 |.mapO fz _ _ _=> !fz
 |_=>true
def Blk.held:Blk->Bool
 |.mapO fz _ _ _=>fz
 |_=>false
def Blk.holds(x:Blk):Bool:=x.live||x.held
theorem Qas{x:Blk}(h:x.live=true):x≠ .dead:=by rintro rfl;cases h
theorem Qd0{x:Blk}(h:x.holds=true):x≠ .dead:=by rintro rfl;cases h
theorem Qbv{x:Blk}(h:x.live=true):x.holds=true:=by unfold Blk.holds;rw[h];rfl
abbrev Qc:=List Blk
def ER(ro:Nat->Prop)(σ:Sig)(w:World):List (A×A)->List MapEntry->Prop
 |[],l=>l=[]
 |x::r,l=>∃e l',l=e::l'/\VR ro σ w x.1 e.key/\VR ro σ w x.2 e.val/\ER ro σ w r l'
def ItR(ro:Nat->Prop)(w:World)(b:Nat)(cur:Option (A×A))(es:List (A×A)):Prop:=
 (es=[]/\cur=none/\w.heap[b]?=some (.mapIter none 0 #[] 0))\/
 ∃m l clock seen left,w.heap[b]?=some (.mapIter (some m) clock seen clock)/\ro m/\w.heap[m]?=some (.map l clock)/\(∀e∈l.toList,e.born<clock)/\(l.toList.map (·.born)).Nodup/\
  (left:List MapEntry).Perm (l.toList.filter λe=> !seen.contains e.born)/\ER ro [] w es left/\
  (∀x,cur=some x->∃e∈l.toList,seen.back? =some e.born/\VR ro [] w x.1 e.key/\VR ro [] w x.2 e.val)
def RL(ro:Nat->Prop)(σ:Sig)(w:World)(k:Nat):List (List A)->List Value->Prop
 |[],_=>True
 |c::es,l=>∃l1 l2,l=l1++l2/\c.length=k/\(LR ro σ w c l1/\ ∀v∈l1,Qz v)/\RL ro σ w k es l2
theorem RL.mono{ro ro':Nat->Prop}{σ σ':Sig}{w w':World}(h:Ext ro σ w ro' σ' w'){k:Nat}:∀{es:List (List A)}{l:List Value},RL ro σ w k es l->RL ro' σ' w' k es l
 |[],_,_=>trivial
 |c::es,l,⟨l1,l2,h1,h2,h3,h4⟩=>⟨l1,l2,h1,h2,⟨h3.1.mono h,h3.2⟩,RL.mono h h4⟩
def SO(ro:Nat->Prop)(w:World)(t k:Nat)(rows:List (List A))(v:Value):Prop:=
 (rows=[]/\v=.slice none 0 0)\/ ∃(c p cap:Nat) (vs:List Value),v=.slice (some ⟨c,p,none⟩) rows.length cap/\rows.length<=cap/\w.heap[c]?=some (.cells vs.toArray t (0,0))/\cap*k<=vs.length/\RL ro [] w k rows vs/\(0<cap->p=0)
def MO(ro:Nat->Prop)(w:World)(t k:Nat):List (A×Option (List (List A)))->List MapEntry->Prop
 |[],l=>l=[]
 |x::r,l=>∃e l',l=e::l'/\VR ro [] w x.1 e.key/\(∀rows,x.2=some rows->SO ro w t k rows e.val)/\MO ro w t k r l'
def Jl:List (A×Option (List (List A)))->List MapEntry->Nat->Prop
 |x::r,e::l,c=>(x.2.isSome=true/\ ∃p n cap,e.val=.slice (some ⟨c,p,none⟩) n cap)\/Jl r l c
 |_,_,_=>False
def Qco:List (A×Option (List (List A)))->List MapEntry->Prop
 |x::r,e::l=>(∀c,x.2.isSome=true->(∃p n cap,e.val=.slice (some ⟨c,p,none⟩) n cap)->¬Jl r l c)/\Qco r l
 |_,_=>True
def Hid(w:World):Blk->Nat->Nat->Prop
 |.mapO _ _ _ es,b,c=>∃l clock,w.heap[b]?=some (.map l clock)/\Jl es l.toList c
 |_,_,_=>False
theorem Hid.keep{w w':World}{x:Blk}{b c:Nat}(h:w'.heap[b]?=w.heap[b]?)(q:Hid w' x b c):Hid w x b c:=by
 cases x with
 |mapO fz t k f=>obtain⟨l,e,a,d⟩:=q;exact⟨l,e,by rw[<- h];exact a,d⟩
 |_=>exact q.elim
theorem Hid.holds{w:World}{x:Blk}{b c:Nat}(q:Hid w x b c):x.holds=true:=by
 cases x with
 |mapO fz t k a=>cases fz<;>rfl
 |_=>exact q.elim
theorem MO.mono{ro ro':Nat->Prop}{σ σ':Sig}{w w':World}(h:Ext ro σ w ro' σ' w'){t k:Nat}:∀{es:List (A×Option (List (List A)))}{l:List MapEntry},(∀c,Jl es l c->w'.heap[c]?=w.heap[c]?)->MO ro w t k es l->MO ro' w' t k es l
 |[],_,_,q=>q
 |x::r,_,hh,⟨e,l',h1,h2,h3,h4⟩=>by
  subst h1;refine⟨e,l',rfl,h2.mono h.nil,λrows hr=>?_,MO.mono h (λc hc=>hh c (.inr hc)) h4⟩;rcases h3 rows hr with q|⟨c,p,cap,vs,q1,q2,q3,q4,q5,q6⟩
  .exact .inl q
  .exact .inr ⟨c,p,cap,vs,q1,q2,by rw[hh c (.inl ⟨by rw[hr];rfl,p,_,_,q1⟩)];exact q3,q4,q5.mono h.nil,q6⟩
theorem MO.cells{ro:Nat->Prop}{w:World}{t k:Nat}:∀{es:List (A×Option (List (List A)))}{l:List MapEntry}{c:Nat},MO ro w t k es l->Jl es l c->∃vs:Array Value,w.heap[c]?=some (.cells vs t (0,0))
 |[],l,c,h,q=>by cases l<;>exact q.elim
 |x::r,_,c,⟨e,l',h1,h2,h3,h4⟩,q=>by
  subst h1;rcases q with⟨q1,p,n,cap,q2⟩|q
  .obtain⟨rows,hr⟩:=Option.isSome_iff_exists.1 q1;rcases h3 rows hr with⟨_,z⟩|⟨c',p',cap',vs,z1,z2,z3,z4,z5,z6⟩
   .rw[q2]at z;cases z
   .rw[q2]at z1;cases z1;exact⟨_,z3⟩
  .exact MO.cells h4 q
def Qfj(l:Array MapEntry)(clock:Nat):Prop:=clock=l.size/\ ∀(i:Nat) (e:MapEntry),l.toList[i]?=some e->e.born=i
theorem Qfj.push{l:Array MapEntry}{a:Nat}{e:MapEntry}(h:Qfj l a)(he:e.born=a):Qfj (l.push e) (a+1):=by
 obtain⟨f,g⟩:=h;refine⟨by simp[f],λi d q=>?_⟩;rw[Array.toList_push]at q;by_cases b:i<l.toList.length
 .rw[XT b]at q;exact g i d q
 .rw[XU (by omega)]at q;have:=(XS.1 q).1;simp at this;have j:i-l.toList.length=0:=by simpa using this
  rw[j]at q;simp at q;subst q;simp at b this;omega
theorem Qfj.modify{l:Array MapEntry}{a j:Nat}{f:MapEntry->MapEntry}(h:Qfj l a)(g:∀e,(f e).born=e.born):Qfj (l.modify j f) a:=by
 obtain⟨k,b⟩:=h;refine⟨by simp[k],λi m q=>?_⟩;rw[Array.toList_modify,List.getElem?_modify]at q;cases z:l.toList[i]? with
 |none=>rw[z]at q;simp at q
 |some e=>
  rw[z]at q;by_cases d:j=i
  .simp[d]at q;rw[<- q,g];exact b i e z
  .simp[d]at q;rw[<- q];exact b i e z
def BR(ro:Nat->Prop)(σ:Sig)(w:World):Blk->Option Nat->Prop
 |.dead,_=>True
 |.cells t cs,some b=>∃l:List Value,w.heap[b]?=some (.cells l.toArray t (0,0))/\LR ro σ w cs l/\ ∀v∈l,Qz v
 |.row t k es,some b=>∃l:List Value,w.heap[b]?=some (.cells l.toArray t (0,0))/\RL ro [] w k es l
 |.rowr t k es,some b=>∃l:List Value,w.heap[b]?=some (.cells l.toArray t (0,0))/\RL ro σ w k es l
 |.row _ _ es,none=>es=[]
 |.ents t b1 b2 es,some b=>∃l:List Value,w.heap[b]?=some (.cells l.toArray t (0,0))/\RL ro σ w 3 (es.map (eC b1 b2)) l
 |.ents _ _ _ es,none=>es=[]
 |.map es,some b=>∃l clock,w.heap[b]?=some (.map l clock)/\ER ro [] w es l.toList/\
   (∀e∈l.toList,e.born<clock)/\(l.toList.map (·.born)).Nodup/\(l.toList.map (·.key)).Nodup
 |.iter cur es,some b=>ItR ro w b cur es
 |.mapO fz t k es,some b=>(fz=true->ro b)/\ ∃l clock,w.heap[b]?=some (.map l clock)/\MO ro w t k es l.toList/\Qco es l.toList/\
   (∀e∈l.toList,e.born<clock)/\(l.toList.map (·.born)).Nodup/\(l.toList.map (·.key)).Nodup/\Qfj l clock
 |.fmap es,some b=>ro b/\ ∃l clock,w.heap[b]?=some (.map l clock)/\ER ro [] w es l.toList/\
   (∀e∈l.toList,e.born<clock)/\(l.toList.map (·.born)).Nodup/\(l.toList.map (·.key)).Nodup
 |_,none=>False
structure RoOk (ro:Nat->Prop) (w:World):Prop where
 lt:∀b,ro b->b<w.heap.size
 g:∀b,b<nG->ro b
 gp:GP w
theorem RoOk.to{ro ro':Nat->Prop}{w w':World}(h:RoOk ro w)(sub:∀b,ro b->ro' b)(keep:∀b,ro b->w'.heap[b]?=w.heap[b]?)(lt:∀b,ro' b->b<w'.heap.size):RoOk ro' w':=
 ⟨lt,λb hb=>sub b (h.g b hb),h.gp.keep λb hb=>keep b (h.g b hb)⟩
structure QnW (fr ro:Nat->Prop) (σ:Sig) (H:Qc) (w:World) (i0 b0 c:Nat):Prop where
 lt:c<w.heap.size
 ro:¬ro c
 fr:¬fr c
 ne:∀(j b:Nat) (y:Blk),σ[j]?=some (some b)->H[j]?=some y->y.live=true->c≠b
 one:∀(j b:Nat) (y:Blk),σ[j]?=some (some b)->H[j]?=some y->Hid w y b c->b=b0/\j=i0
structure Sim (fr ro:Nat->Prop) (σ:Sig) (H:Qc) (w:World):Prop where
 len:σ.length=H.length
 roOk:RoOk ro w
 frLt:∀b,fr b->b<w.heap.size
 roFr:∀b,ro b->¬fr b
 own:∀(i b:Nat) (blk:Blk),σ[i]?=some (some b)->H[i]?=some blk->blk.live=true->b<w.heap.size/\ ¬ro b/\ ¬fr b
 inj:∀(i j b:Nat) (x y:Blk),σ[i]?=some (some b)->σ[j]?=some (some b)->H[i]?=some x->H[j]?=some y->x.live=true->y.live=true->i=j
 blk:∀(i:Nat) (s:Option Nat) (x:Blk),σ[i]?=some s->H[i]?=some x->BR ro σ w x s
 hid:∀(i b:Nat) (x:Blk) (c:Nat),σ[i]?=some (some b)->H[i]?=some x->Hid w x b c->QnW fr ro σ H w i b c
theorem Sim.roHeld{fr ro:Nat->Prop}{σ:Sig}{H:Qc}{w:World}(s:Sim fr ro σ H w){i b:Nat}{x:Blk}(d:σ[i]?=some (some b))(e:H[i]?=some x)(a:x.held=true):ro b:=by
 have h:=s.blk i _ x d e;cases x with
 |mapO fz t k f=>exact h.1 a
 |_=>cases a
theorem Sim.hidKeep{fr ro:Nat->Prop}{σ:Sig}{H:Qc}{w w':World}(s:Sim fr ro σ H w){i b c:Nat}{x:Blk}(e:σ[i]?=some (some b))(f:H[i]?=some x)
  (d:x.live=true->w'.heap[b]?=w.heap[b]?)(g:∀b,ro b->w'.heap[b]?=w.heap[b]?)(q:Hid w' x b c):Hid w x b c:=by
 refine q.keep ?_;have h:=q.holds;cases a:x.live with
 |true=>exact d a
 |false=>unfold Blk.holds at h;rw[a]at h;exact g b (s.roHeld e f h)
theorem Sim.hidTo{fr p ro ro':Nat->Prop}{σ σ':Sig}{H H':Qc}{w w':World}(s:Sim fr ro σ H w)(R:Nat->Nat->Prop)(P:∀j j' a,R j a->R j' a->j=j')(E:w.heap.size<=w'.heap.size)
  (J:∀(i b:Nat) (x:Blk) (c:Nat),σ[i]?=some (some b)->H[i]?=some x->Hid w x b c->ro' c->ro c)
  (M:∀(i b:Nat) (x:Blk) (c:Nat),σ[i]?=some (some b)->H[i]?=some x->Hid w x b c->p c->fr c)
  (h:∀(j d:Nat) (y:Blk),σ'[j]?=some (some d)->H'[j]?=some y->y.holds=true->
   (∃(a:Nat) (l:Blk),R j a/\σ[a]?=some (some d)/\H[a]?=some l/\(y.live=true->l.live=true)/\ ∀c,Hid w' y d c->Hid w l d c)\/(w.heap.size<=d/\ ∀c,Hid w' y d c->False)):
  ∀(i b:Nat) (x:Blk) (c:Nat),σ'[i]?=some (some b)->H'[i]?=some x->Hid w' x b c->QnW p ro' σ' H' w' i b c:=by
 intro i b x c T O n;rcases h i b x T O n.holds with⟨a,l,W,t,L,g3,G⟩|⟨_,g⟩
 .have k:=s.hid a b l c t L (G c n);refine⟨Vn k.lt E,λq=>k.ro (J a b l c t L (G c n) q),λq=>k.fr (M a b l c t L (G c n) q),λj d y B r m=>?_,λj d y B r m=>?_⟩
  .rcases h j d y B r (Qbv m)with⟨F,y1,_,z,u,N,_⟩|⟨f,_⟩
   .exact k.ne F d y1 z u (N m)
   .exact λe=>by have:=k.lt;omega
  .rcases h j d y B r m.holds with⟨F,y1,X,z,u,N,Y⟩|⟨_,f⟩
   .obtain⟨V,Q⟩:=k.one F d y1 z u (Y c m);subst Q;exact⟨V,P _ _ _ X W⟩
   .exact(f c m).elim
 .exact(g c n).elim
theorem Q8(j j' j0:Nat)(h:j=j0)(h':j'=j0):j=j':=h.trans h'.symm
theorem Sim.roLt{fr ro:Nat->Prop}{σ:Sig}{H:Qc}{w:World}(s:Sim fr ro σ H w):∀b,ro b->b<w.heap.size:=s.roOk.lt
structure Qi (fr ro:Nat->Prop) (w:World) (ro':Nat->Prop) (w':World):Prop where
 sub:∀b,ro b->ro' b
 keepRo:∀b,ro b->w'.heap[b]?=w.heap[b]?
 keepFr:∀b,fr b->w'.heap[b]?=w.heap[b]?
 size:w.heap.size<=w'.heap.size
 shape:∀b x,w.shape? b=some x->w'.shape? b=some x
 os:w'.os=w.os
 tape:w'.tape=w.tape
 output:w'.output=w.output
 drawn:w.drawn<=w'.drawn
theorem Qi.refl(fr ro:Nat->Prop)(w:World):Qi fr ro w ro w:=
 ⟨λ_ h=>h,λ_ _=>rfl,λ_ _=>rfl,X0 _,λ_ _ h=>h,rfl,rfl,rfl,X0 _⟩
theorem Qi.trans{fr ro ro1 ro2:Nat->Prop}{w w1 w2:World}(h:Qi fr ro w ro1 w1)(k:Qi fr ro1 w1 ro2 w2):Qi fr ro w ro2 w2:=
 ⟨λb q=>k.sub _ (h.sub _ q),λb q=>(k.keepRo _ (h.sub _ q)).trans (h.keepRo _ q),λb q=>(k.keepFr _ q).trans (h.keepFr _ q),
  X3 h.size k.size,λb x q=>k.shape _ _ (h.shape _ _ q),k.os.trans h.os,k.tape.trans h.tape,k.output.trans h.output,X3 h.drawn k.drawn⟩
theorem Jj{σ τ:Sig}{i b:Nat}(h:σ[i]?=some (some b)):(σ++τ)[i]?=some (some b):=by
 have a:i<σ.length:=by
  rcases Nat.lt_or_ge i σ.length with q|q
  .exact q
  .simp[XV q]at h
 rw[XT a];exact h
theorem Qi.ext{fr ro ro':Nat->Prop}{w w':World}(h:Qi fr ro w ro' w')(σ τ:Sig):Ext ro σ w ro' (σ++τ) w':=
 ⟨h.sub,h.keepRo,h.shape,λ_ _=>Jj⟩
theorem Qi.ext0{fr ro ro':Nat->Prop}{w w':World}(h:Qi fr ro w ro' w')(σ:Sig):Ext ro σ w ro' σ w':=
 ⟨h.sub,h.keepRo,h.shape,λ_ _ q=>q⟩
theorem ER.mono{ro ro':Nat->Prop}{σ σ':Sig}{w w':World}(h:Ext ro σ w ro' σ' w'):∀{es:List (A×A)}{l:List MapEntry},ER ro σ w es l->ER ro' σ' w' es l
 |[],_,q=>q
 |x::r,l,q=>by
  simp only[ER]at q⊢;obtain⟨e,l',h1,h2,h3,h4⟩:=q;exact⟨e,l',h1,h2.mono h,h3.mono h,ER.mono h h4⟩
theorem ItR.keep{ro ro':Nat->Prop}{σ σ':Sig}{w w':World}(h:Ext ro σ w ro' σ' w'){b:Nat}(k:w'.heap[b]?=w.heap[b]?){f:Option (A×A)}{es:List (A×A)}
  (q:ItR ro w b f es):ItR ro' w' b f es:=by
 rcases q with⟨i,g,j⟩|⟨m,l,a,d,left,i,g,j,t,B,p,n,z⟩
 .exact .inl ⟨i,g,by rw[k];exact j⟩
 .refine .inr ⟨m,l,a,d,left,by rw[k];exact i,h.sub _ g,by rw[h.keep _ g];exact j,t,B,p,n.mono h.nil,λx E=>?_⟩;obtain⟨e,u,y,r,s⟩:=z x E;exact⟨e,u,y,r.mono h.nil,s.mono h.nil⟩
theorem CR.keep{ro ro':Nat->Prop}{σ σ':Sig}{w w':World}(h:Ext ro σ w ro' σ' w'){b:Nat}(hb:w'.heap[b]?=w.heap[b]?):
  ∀{cs:List A}{off:Nat},CR ro σ w b cs off->CR ro' σ' w' b cs off
 |[],_,_=>trivial
 |a::r,off,q=>by
  simp only[CR]at q⊢;obtain⟨⟨v,h1,hp,h2⟩,h3⟩:=q;exact⟨⟨v,by rw[QfX hb];exact h1,hp,h2.mono h⟩,CR.keep h hb h3⟩
theorem RR.keep{ro ro':Nat->Prop}{σ σ':Sig}{w w':World}(h:Ext ro σ w ro' σ' w'){b:Nat}(hb:w'.heap[b]?=w.heap[b]?){k:Nat}:
  ∀{es:List (List A)}{off:Nat},RR ro σ w b k es off->RR ro' σ' w' b k es off
 |[],_,_=>trivial
 |cs::r,off,q=>by
  simp only[RR]at q⊢;obtain⟨h1,h2,h3⟩:=q;exact⟨h1,CR.keep h hb h2,RR.keep h hb h3⟩
theorem BR.keep{ro ro':Nat->Prop}{σ σ':Sig}{w w':World}(h:Ext ro σ w ro' σ' w'){x:Blk}{s:Option Nat}
  (g:∀b,s=some b->x.live=true->w'.heap[b]?=w.heap[b]?)(q:BR ro σ w x s)(p:∀b c,s=some b->Hid w x b c->w'.heap[c]?=w.heap[c]?):BR ro' σ' w' x s:=by
 cases x with
 |mapO fz t k i=>
  cases s with
  |none=>exact q
  |some b=>
   obtain⟨j,l,c,a,e,f⟩:=q;refine⟨λz=>h.sub b (j z),l,c,?_,e.mono h (λd n=>p b d rfl ⟨l,c,a,n⟩),f⟩;cases fz with
   |false=>rw[g b rfl rfl];exact a
   |true=>rw[h.keep b (j rfl)];exact a
 |dead=>trivial
 |cells t y=>
  cases s with
  |none=>exact q
  |some b=>
   obtain⟨l,a,e,f⟩:=q;exact⟨l,by rw[g b rfl rfl];exact a,e.mono h,f⟩
 |row t k i=>
  cases s with
  |none=>exact q
  |some b=>
   obtain⟨l,a,e⟩:=q;exact⟨l,by rw[g b rfl rfl];exact a,e.mono h.nil⟩
 |rowr t k i=>
  cases s with
  |none=>exact q.elim
  |some b=>
   obtain⟨l,a,e⟩:=q;exact⟨l,by rw[g b rfl rfl];exact a,e.mono h⟩
 |ents t r u i=>
  cases s with
  |none=>exact q
  |some b=>
   obtain⟨l,a,e⟩:=q;exact⟨l,by rw[g b rfl rfl];exact a,e.mono h⟩
 |map i=>
  cases s with
  |none=>exact q
  |some b=>
   obtain⟨l,c,a,e,f⟩:=q;exact⟨l,c,by rw[g b rfl rfl];exact a,e.mono h.nil,f⟩
 |iter m i=>
  cases s with
  |none=>exact q
  |some b=>exact ItR.keep h (g b rfl rfl) q
 |fmap i=>
  cases s with
  |none=>exact q
  |some b=>
   obtain⟨j,l,c,a,e,f⟩:=q;exact⟨h.sub b j,l,c,by rw[h.keep b j];exact a,e.mono h.nil,f⟩
end Go.Sw
namespace Go.Sw
abbrev Env:=List (Nat×A)
def lk:Env->Nat->A
 |[],_=>.any
 |(d,a)::r,s=>bif Nat.beq s d then a else lk r s
abbrev up(env:Env)(d:Nat)(a:A):Env:=(d,a)::env
inductive AEx where
 |normal|exit (id:Nat)|ret
abbrev QC:=AEx->Env->Qc->Prop
def QcY(fr:Nat->Prop)(ds:List Deferred)(w:World):Prop:=ds.Nodup/\ ∀d∈ds,∃D,d={target:=.collected D,args:= #[]}/\fr D/\w.heap[D]?=some (.deferred (some []))
theorem QcY.keep{fr ro ro':Nat->Prop}{b:List Deferred}{w w':World}(h:QcY fr b w)(k:Qi fr ro w ro' w'):QcY fr b w':=by
 refine⟨h.1,λd g=>?_⟩;obtain⟨D,e,a,f⟩:=h.2 d g;exact⟨D,e,a,(k.keepFr D a).trans f⟩
structure Grow (fr:Nat->Prop) (w:World) (ds:List Deferred) (fr':Nat->Prop) (ds':List Deferred):Prop where
 sub:∀b,fr b->fr' b
 new:∀b,fr' b->fr b\/w.heap.size<=b
 ds:∀d∈ds',d∈ds\/ ∃D,d={target:=.collected D,args:= #[]}/\w.heap.size<=D
theorem Grow.refl(fr:Nat->Prop)(w:World)(ds:List Deferred):Grow fr w ds fr ds:=⟨λ_ h=>h,λ_ h=>.inl h,λ_ h=>.inl h⟩
theorem Grow.trans{fr a g:Nat->Prop}{w j:World}{ds e f:List Deferred}(h:Grow fr w ds a e)(i:w.heap.size<=j.heap.size)(k:Grow a j e g f):Grow fr w ds g f:=by
 refine⟨λb q=>k.sub b (h.sub b q),λb q=>?_,λd q=>?_⟩
 .rcases k.new b q with q|q
  .exact h.new b q
  .exact .inr (X3 i q)
 .rcases k.ds d q with q|⟨D,m,l⟩
  .exact h.ds d q
  .exact .inr ⟨D,m,X3 i l⟩
theorem Qi.frMono{fr fr' ro ro':Nat->Prop}{w w':World}(h:Qi fr' ro w ro' w')(s:∀b,fr b->fr' b):Qi fr ro w ro' w':=
 ⟨h.sub,h.keepRo,λb q=>h.keepFr b (s b q),h.size,h.shape,h.os,h.tape,h.output,h.drawn⟩
theorem Sim.frMono{fr fr' ro:Nat->Prop}{σ:Sig}{H:Qc}{w:World}(h:Sim fr' ro σ H w)(s:∀b,fr b->fr' b):Sim fr ro σ H w:=
 ⟨h.len,h.roOk,λb q=>h.frLt b (s b q),λb q r=>h.roFr b q (s b r),λi b x q1 q2 q3=>let⟨a,b',c⟩:=h.own i b x q1 q2 q3;⟨a,b',λq=>c (s b q)⟩,h.inj,h.blk,λi b x c q1 q2 q3=>let k:=h.hid i b x c q1 q2 q3;⟨k.lt,k.ro,λq=>k.fr (s c q),k.ne,k.one⟩⟩
structure Rel (fr ro:Nat->Prop) (σ:Sig) (H:Qc) (env:Env) (N:Nat) (a:Act) (w:World):Prop where
 sim:Sim fr ro σ H w
 env:∀s,VR ro σ w (lk env s) (a.tmps.getD s undef)
 size:a.tmps.size=N
 defers:QcY fr a.defers w
def QdJ(rd:Option Nat)(fr:Nat->Prop)(w:World):Prop:=∀l,rd=some l->fr l/\ ∃r,w.heap[l]?=some (.loop r)
theorem QbZ{fr:Nat->Prop}{w:World}:QdJ none fr w:=λl e=>by cases e
theorem QdJ.to{rd:Option Nat}{fr fr' ro ro':Nat->Prop}{w w':World}(h:QdJ rd fr w)(k:Qi fr ro w ro' w')(s:∀b,fr b->fr' b):QdJ rd fr' w':=λl e=>by
 obtain⟨h1,r,h2⟩:=h l e;exact⟨s l h1,r,(k.keepFr l h1).trans h2⟩
def ExR:Exit->AEx->Prop
 |.normal,x=>x=.normal
 |.exit id,x=>x=.exit id
 |.ret,x=>x=.ret
 |_,_=>False
def Qbe(h0:Nat)(fr ro:Nat->Prop)(σ:Sig)(w:World)(N:Nat)(ds:List Deferred)(Q:QC):Exit->Act->World->Prop:=
 λe a' w'=>∃x env' H' ro' σ' fr',ExR e x/\Q x env' H'/\Rel fr' ro' σ' H' env' N a' w'/\Qi fr ro w ro' w'/\σ'.take h0=σ.take h0/\Grow fr w ds fr' a'.defers
theorem Qbe.grow{h0:Nat}{fr a ro d:Nat->Prop}{σ σ1:Sig}{w j:World}{N:Nat}{k b:List Deferred}{Q:QC}{e:Exit}{a':Act}{w':World}
  (h:Qbe h0 a d σ1 j N b Q e a' w')(he:Qi fr ro w d j)(p:σ1.take h0=σ.take h0)(hg:Grow fr w k a b):Qbe h0 fr ro σ w N k Q e a' w':=by
 obtain⟨x,f,H',g,σ',i,m,q,r,n,s,l⟩:=h;exact⟨x,f,H',g,σ',i,m,q,r,he.trans (n.frMono hg.sub),s.trans p,hg.trans he.size l⟩
theorem Qbe.step{h0:Nat}{fr ro ro1:Nat->Prop}{σ σ1:Sig}{w w1:World}{N:Nat}{ds:List Deferred}{Q:QC}{e:Exit}{a':Act}{w':World}
  (h:Qbe h0 fr ro1 σ1 w1 N ds Q e a' w')(he:Qi fr ro w ro1 w1)(hs:σ1.take h0=σ.take h0):Qbe h0 fr ro σ w N ds Q e a' w':=h.grow he hs (Grow.refl _ _ _)
theorem Qbe.mono{h0:Nat}{fr ro:Nat->Prop}{σ:Sig}{w:World}{N:Nat}{f:List Deferred}{Q Q':QC}{e:Exit}{a':Act}{w':World}
  (h:Qbe h0 fr ro σ w N f Q e a' w')(i:∀x env H,Q x env H->Q' x env H):Qbe h0 fr ro σ w N f Q' e a' w':=by
 obtain⟨x,a,H',b,σ',d,g,j,k⟩:=h;exact⟨x,a,H',b,σ',d,g,i _ _ _ j,k⟩
def QbT(h0:Nat)(fr ro:Nat->Prop)(σ:Sig)(w:World)(N:Nat)(ds:List Deferred)(Q:QC):Exit->Act->World->Prop:=
 λe a' w'=>∃x env' H' ro' σ' fr',ExR e x/\Q x env' H'/\Rel fr' ro' σ' H' env' N a' w'/\Qi fr ro w ro' w'/\σ'.take h0=σ.take h0/\a'.defers=ds/\Grow fr w ds fr' ds
theorem QbT.grow{h0:Nat}{fr a ro b:Nat->Prop}{σ σ1:Sig}{w j:World}{N:Nat}{f:List Deferred}{Q:QC}{e:Exit}{a':Act}{w':World}
  (h:QbT h0 a b σ1 j N f Q e a' w')(he:Qi fr ro w b j)(p:σ1.take h0=σ.take h0)(hg:Grow fr w f a f):QbT h0 fr ro σ w N f Q e a' w':=by
 obtain⟨x,d,H',g,σ',i,m,q,r,n,s,l,k⟩:=h;exact⟨x,d,H',g,σ',i,m,q,r,he.trans (n.frMono hg.sub),s.trans p,l,hg.trans he.size k⟩
theorem QbT.step{h0:Nat}{fr ro ro1:Nat->Prop}{σ σ1:Sig}{w w1:World}{N:Nat}{ds:List Deferred}{Q:QC}{e:Exit}{a':Act}{w':World}
  (h:QbT h0 fr ro1 σ1 w1 N ds Q e a' w')(he:Qi fr ro w ro1 w1)(hs:σ1.take h0=σ.take h0):QbT h0 fr ro σ w N ds Q e a' w':=h.grow he hs (Grow.refl _ _ _)
theorem QbT.mono{h0:Nat}{fr ro:Nat->Prop}{σ:Sig}{w:World}{N:Nat}{f:List Deferred}{Q Q':QC}{e:Exit}{a':Act}{w':World}
  (h:QbT h0 fr ro σ w N f Q e a' w')(i:∀x env H,Q x env H->Q' x env H):QbT h0 fr ro σ w N f Q' e a' w':=by
 obtain⟨x,a,H',b,σ',d,g,j,k⟩:=h;exact⟨x,a,H',b,σ',d,g,i _ _ _ j,k⟩
theorem QbT.postW{h0:Nat}{fr ro:Nat->Prop}{σ:Sig}{w:World}{N:Nat}{f:List Deferred}{Q:QC}{e:Exit}{a':Act}{w':World}
  (h:QbT h0 fr ro σ w N f Q e a' w'):Qbe h0 fr ro σ w N f Q e a' w':=by
 obtain⟨x,a,H',b,σ',d,j,l,m,k,n,i,g⟩:=h;exact⟨x,a,H',b,σ',d,j,l,m,k,n,by rw[i];exact g⟩
def WF(rd:Option Nat):Fence:={Fence.wide with round:=rd}
theorem WF.calls{rd:Option Nat}{P:Program}{f:FuncId}{args:Array Value}{w:World}{R:Ending->World->Prop}:CallsIn (WF rd) 0 P f args w R↔Calls P f args w R:=callsIn_wide
abbrev wpL(P:Program)(rd:Option Nat)(ops:Array Oper)(Q:Exit->Act->World->Prop):List Oper->Act->World->Prop:=wpListIn (WF rd) 0 P ops Q
def TC(P:Program)(h0 N:Nat)(c:Code)(env:Env)(H:Qc)(Q:QC):Prop:=
 ∀rd fr ro σ a w,Rel fr ro σ H env N a w->QdJ rd fr w->c.wpIn (WF rd) 0 P (Qbe h0 fr ro σ w N a.defers Q) a w
def WO(P:Program)(h0 N:Nat)(all:Array Oper)(l:List Oper)(env:Env)(H:Qc)(Q:QC):Prop:=
 ∀rd fr ro σ a w,Rel fr ro σ H env N a w->QdJ rd fr w->wpL P rd all (QbT h0 fr ro σ w N a.defers Q) l a w
def Le(h0:Nat)(env:Env)(H:Qc)(env':Env)(H':Qc):Prop:=
 ∀fr ro σ N a w,Rel fr ro σ H env N a w->∃ro' σ',Rel fr ro' σ' H' env' N a w/\(∀b,ro b->ro' b)/\σ'.take h0=σ.take h0
theorem Le.refl(h0:Nat)(env:Env)(H:Qc):Le h0 env H env H:=λfr ro σ N a w h=>⟨ro,σ,h,λ_ q=>q,rfl⟩
theorem Le.trans{h0:Nat}{e1 e2 g:Env}{H1 H2 H3:Qc}(h:Le h0 e1 H1 e2 H2)(k:Le h0 e2 H2 g H3):Le h0 e1 H1 g H3:=by
 intro f l σ N a w r;obtain⟨e,σ1,i,n,p⟩:=h f l σ N a w r;obtain⟨d,σ2,m,s,j⟩:=k f e σ1 N a w i;exact⟨d,σ2,m,λb q=>s _ (n _ q),j.trans p⟩
theorem YK{fr ro ro':Nat->Prop}{w:World}(h:∀b,ro b->ro' b):Qi fr ro w ro' w:=
 ⟨h,λ_ _=>rfl,λ_ _=>rfl,X0 _,λ_ _ h=>h,rfl,rfl,rfl,X0 _⟩
theorem Yx{P:Program}{rd:Option Nat}{ops:Array Oper}{Q Q':Exit->Act->World->Prop}(hq:∀e a w,Q e a w->Q' e a w):
  ∀(l:List Oper) (a:Act) (w:World),wpL P rd ops Q l a w->wpL P rd ops Q' l a w
 |[],a,w,h=>hq _ _ _ h
 |o::l,a,w,h=>by
  unfold wpL wpListIn at h⊢;split
  .rename_i hw;rw[if_pos hw]at h;obtain⟨h1,h2⟩:=h;refine⟨h1,?_⟩
   revert h2
   generalize(o.semAt (WF rd).round a.eval).run P w=r;intro h2;have hk:=λa w=>Yx (P:=P) (rd:=rd) (ops:=ops) hq l a w;cases r with
   |ok x w=>
    cases x with
    |value v=>exact hk _ _ h2
    |skip=>exact hk _ _ h2
    |defer d=>exact hk _ _ h2
    |enter f args=>
     refine⟨h2.1,CallsIn.mono h2.2 ?_⟩;intro e w' q;cases e with
     |returned v=>exact hk _ _ q
     |panicked c=>exact hq _ _ _ q
     |outgrown=>obtain⟨a,w,q⟩:=q;exact⟨a,w,hq _ _ _ q⟩
    |row r args=>exact⟨h2.1,RowsIn.mono h2.2 λv w' q=>hk _ _ q⟩
    |round l f tmps assign body=>
     refine⟨h2.1,RoundIn.mono h2.2 ?_⟩;intro e w' q;cases e with
     |returned v=>exact hk _ _ q
     |panicked c=>exact hq _ _ _ q
     |outgrown=>obtain⟨a,w,q⟩:=q;exact⟨a,w,hq _ _ _ q⟩
    |_=>exact h2
   |halt x w=>
    cases x with
    |panic v=>exact hq _ _ _ h2
    |_=>exact h2
  .rename_i hw;rw[if_neg hw]at h;exact⟨h.1,Yx hq l _ _ h.2⟩
theorem Qcs{P:Program}{o:Oper}{a:Act}{w w':World}{x:Next}{rd:Option Nat}(h:(execOp a.eval o).run P w=.ok x w')(f:∀d,x≠ .defer d):(o.semAt (WF rd).round a.eval).run P w=.ok x w':=by
 cases e:o.op with
 |defer c=>
  exfalso;have:execOp a.eval o=(do pure (.defer (<- resolve a.eval c o.type))):=by simp[execOp,e]
  rw[this]at h;simp only[Vu]at h;generalize(resolve a.eval c o.type).run P w=r at h;cases r with
  |ok d b=>simp[Result.andThen,go_sem]at h;exact f _ h.1.symm
  |halt x b=>simp[Result.andThen]at h
 |_=>rw[Oper.semAt_eq _ _ _ (by rw[e];intro c q;cases q)];exact h
theorem Qa0{P:Program}{rd:Option Nat}{ops:Array Oper}{Q:Exit->Act->World->Prop}{o:Oper}{l:List Oper}{a:Act}{w w':World}{v:Value}(b:Region.wanted o (yielded ops a.tmps)=true)
  (h:(execOp a.eval o).run P w=.ok (.value v) w')(k:wpL P rd ops Q l (a.put o.dst v) w'):wpL P rd ops Q (o::l) a w:=by
 unfold wpL wpListIn;rw[if_pos b];exact⟨λ_ _=>trivial,by rw[Qcs h (λd e=>by cases e)];exact k⟩
theorem QkT{P:Program}{rd:Option Nat}{ops:Array Oper}{Q:Exit->Act->World->Prop}{o:Oper}{l:List Oper}{a:Act}{w w':World}(b:Region.wanted o (yielded ops a.tmps)=true)
  (h:(execOp a.eval o).run P w=.ok .skip w')(k:wpL P rd ops Q l (a.put o.dst undef) w'):wpL P rd ops Q (o::l) a w:=by
 unfold wpL wpListIn;rw[if_pos b];exact⟨λ_ _=>trivial,by rw[Qcs h (λd e=>by cases e)];exact k⟩
theorem Qfq{P:Program}{rd:Option Nat}{ops:Array Oper}{Q:Exit->Act->World->Prop}{o:Oper}{l:List Oper}{a:Act}{w w':World}{f:FuncId}{args:Array Value}(b:Region.wanted o (yielded ops a.tmps)=true)
  (h:(execOp a.eval o).run P w=.ok (.enter f args) w')(k:Calls P f args w' λe w''=>∃v,e=.returned v/\wpL P rd ops Q l (a.put o.dst v) w''):wpL P rd ops Q (o::l) a w:=by
 unfold wpL wpListIn;rw[if_pos b];refine⟨λ_ _=>trivial,?_⟩;rw[Qcs h (λd e=>by cases e)];refine⟨λh=>by simp[WF,Fence.wide]at h,WF.calls.2 (Calls.mono k ?_)⟩;rintro e w'' ⟨v,rfl,q⟩;exact q
section
variable {P:Program}{h0 N:Nat}{env env':Env}{H H':Qc}{Q Q':QC}{c c':Code}
theorem TC.mono(h:TC P h0 N c env H Q)(hq:∀x env H,Q x env H->Q' x env H):TC P h0 N c env H Q':=
 λrd fr ro σ a w r hrd=>Code.wpIn_mono (λe a w q=>q.mono hq) (h rd fr ro σ a w r hrd)
theorem TC.le(d:Le h0 env H env' H')(h:TC P h0 N c env' H' Q):TC P h0 N c env H Q:=by
 intro i f j σ a w r hrd;obtain⟨b,σ',g,s,t⟩:=d f j σ N a w r;exact Code.wpIn_mono (λe a w q=>q.step (YK s) t) (h i f b σ' a w g hrd)
theorem WO.le{all:Array Oper}{l:List Oper}(d:Le h0 env H env' H')(h:WO P h0 N all l env' H' Q):WO P h0 N all l env H Q:=by
 intro i f j σ a w r hrd;obtain⟨b,σ',g,s,t⟩:=d f j σ N a w r;exact Yx (λe a w q=>q.step (YK s) t) _ _ _ (h i f b σ' a w g hrd)
theorem WO.mono{all:Array Oper}{l:List Oper}(h:WO P h0 N all l env H Q)(hq:∀x env H,Q x env H->Q' x env H):WO P h0 N all l env H Q':=
 λrd fr ro σ a w r hrd=>Yx (λe a w q=>q.mono hq) _ _ _ (h rd fr ro σ a w r hrd)
def Seq(P:Program)(h0 N:Nat)(c:Code)(Q:QC):QC
 |.normal,env,H=>TC P h0 N c env H Q
 |.exit id,env,H=>Q (.exit id) env H
 |.ret,env,H=>Q .ret env H
def Blo(id:Nat)(Q:QC):QC
 |.normal,env,H=>Q .normal env H
 |.exit id',env,H=>bif Nat.beq id' id then Q .normal env H else Q (.exit id') env H
 |.ret,env,H=>Q .ret env H
theorem TC.seq(h:TC P h0 N c env H (Seq P h0 N c' Q)):TC P h0 N (.seq c c') env H Q:=by
 intro n s p σ a w r hrd;refine wpIn_seq (Code.wpIn_mono ?_ (h n s p σ a w r hrd));rintro e u t ⟨x,b,H',d,σ',f,j,k,l,i,m,g⟩;cases e with
 |normal=>
  obtain rfl:x=.normal:=j;exact Code.wpIn_mono (λe a w q=>q.grow i m g) (k n f d σ' u t l (hrd.to i g.sub))
 |exit id=>
  obtain rfl:x=.exit id:=j;exact⟨_,b,H',d,σ',f,rfl,k,l,i,m,g⟩
 |ret=>
  obtain rfl:x=.ret:=j;exact⟨_,b,H',d,σ',f,rfl,k,l,i,m,g⟩
 |_=>exact j.elim
theorem TC.skip(h:Q .normal env H):TC P h0 N .skip env H Q:=
 λrd fr ro σ a w r hrd=>wpIn_skip ⟨_,env,H,ro,σ,fr,rfl,h,r,Qi.refl _ _ _,rfl,Grow.refl _ _ _⟩
theorem TC.ret(h:Q .ret env H):TC P h0 N .ret env H Q:=
 λrd fr ro σ a w r hrd=>wpIn_ret ⟨_,env,H,ro,σ,fr,rfl,h,r,Qi.refl _ _ _,rfl,Grow.refl _ _ _⟩
theorem TC.exit{id:Nat}(h:Q (.exit id) env H):TC P h0 N (.exit id) env H Q:=
 λrd fr ro σ a w r hrd=>wpIn_exit ⟨_,env,H,ro,σ,fr,rfl,h,r,Qi.refl _ _ _,rfl,Grow.refl _ _ _⟩
theorem TC.block{id:Nat}(h:TC P h0 N c env H (Blo id Q)):TC P h0 N (.block id c) env H Q:=by
 intro p t s σ a w r hrd;refine wpIn_block (Code.wpIn_mono ?_ (h p t s σ a w r hrd));rintro e y u ⟨x,b,H',d,σ',f,l,i,m,k,n,j⟩;cases e with
 |normal=>
  obtain rfl:x=.normal:=l;exact⟨_,b,H',d,σ',f,rfl,i,m,k,n,j⟩
 |exit g=>
  obtain rfl:x=.exit g:=l;simp only[Exit.inBlock];simp only[Blo]at i;by_cases e:g=id
  .subst e;rw[if_pos rfl];rw[Nat.beq_refl]at i;exact⟨_,b,H',d,σ',f,rfl,i,m,k,n,j⟩
  .rw[if_neg e];have:Nat.beq g id=false:=by
    rw[Bool.eq_false_iff];intro q;exact e (XX q)
   rw[this]at i;exact⟨_,b,H',d,σ',f,rfl,i,m,k,n,j⟩
 |ret=>
  obtain rfl:x=.ret:=l;exact⟨_,b,H',d,σ',f,rfl,i,m,k,n,j⟩
 |_=>exact l.elim
def opA(env:Env):Operand->A
 |.tmp t=>lk env t
 |.const (.bool b)=>.bool b
 |.const (.int k n)=>.int k n
 |.const (.string s)=>.str s.data.toList
 |.const (.pointer none)=>.nilp
 |.const (.slice none 0 0)=>.nils
 |.const (.map none)=>.nilm
 |.const .nilFunc=>.nilf
 |.const .nilIface=>.nilif
 |.func f=>.fn (.func f) [] []
 |_=>.any
theorem Qj{fr ro:Nat->Prop}{σ:Sig}{a:Act}{w:World}(r:Rel fr ro σ H env N a w)(x:Operand):VR ro σ w (opA env x) (a.eval x):=by
 cases x with
 |tmp t=>exact r.env t
 |const v=>
  cases v with
  |slice a n k=>
   cases a with
   |none=>
    cases n with
    |zero=>cases k with
     |zero=>rfl
     |succ k=>trivial
    |succ n=>trivial
   |some a=>trivial
  |pointer p=>cases p with
   |none=>rfl
   |some p=>trivial
  |map p=>cases p with
   |none=>rfl
   |some p=>trivial
  |string s=>simp[opA,VR,Act.eval]
  |_=>first|trivial|rfl|simp[opA,VR,Act.eval]
 |global g=>trivial
 |func f=>exact⟨[],[],rfl,rfl,rfl⟩
theorem TC.cond{x:Operand}{t:Bool}(j:opA env x=.bool t)(h:t=true->TC P h0 N c env H Q)(i:t=false->TC P h0 N c' env H Q):
  TC P h0 N (.cond x c c') env H Q:=by
 intro f b g σ a w r hrd;have d:=Qj r x;rw[j]at d;exact wpIn_cond_split d (λe=>h e f b g σ a w r hrd) (λe=>i e f b g σ a w r hrd)
theorem QlL{t:Array Value}{d s:Nat}{v:Value}(a:d<t.size):(t.setIfInBounds d v).getD s undef=if s=d then v else t.getD s undef:=by
 simp only[Array.getD_eq_getD_getElem?,Vm];by_cases e:s=d
 .subst e;simp[a]
 .rw[if_neg (λq=>e q.symm),if_neg e]
theorem VR.up{fr ro:Nat->Prop}{σ:Sig}{a:Act}{w:World}(r:∀s,VR ro σ w (lk env s) (a.tmps.getD s undef)){d:Nat}(b:d<a.tmps.size){x:A}{v:Value}(f:VR ro σ w x v):
  ∀s,VR ro σ w (lk (up env d x) s) ((a.tmps.setIfInBounds d v).getD s undef):=by
 intro s;rw[QlL b];simp only[up,lk];by_cases e:s=d
 .subst e;rw[Nat.beq_refl,if_pos rfl];exact f
 .have:Nat.beq s d=false:=by
   rw[Bool.eq_false_iff];intro q;exact e (XX q)
  rw[this,if_neg e];exact r s
def Qv(all:Array Oper)(o:Oper)(env:Env)(b:Bool):Prop:=
 match o.guard with
 |none=>b=true
 |some (j,c)=>∃d,(all[j]?).bind (·.dst)=some d/\((∃x,lk env d=.bool x/\b=(x==c))\/(lk env d=.tup []/\b=false))
theorem Jm{all:Array Oper}{o:Oper}{b:Bool}(h:Qv all o env b){fr ro:Nat->Prop}{σ:Sig}{a:Act}{w:World}(r:Rel fr ro σ H env N a w):
  Region.wanted o (yielded all a.tmps)=b:=by
 unfold Qv at h;unfold Region.wanted;cases n:o.guard with
 |none=>rw[n]at h;exact h.symm
 |some g=>
  obtain⟨j,c⟩:=g;rw[n]at h;obtain⟨d,m,⟨x,i,k⟩|⟨i,k⟩⟩:=h
  .have f:=r.env d;rw[i]at f;simp only[VR]at f;have p:a.tmps[d]?=some (.bool x):=by
    rw[Array.getD_eq_getD_getElem?]at f;cases e:a.tmps[d]? with
    |none=>rw[e]at f;simp[undef]at f
    |some y=>rw[e]at f;simp at f;rw[f]
   simp only[yielded,m,XQ,p,k];cases x<;>cases c<;>rfl
  .have f:=r.env d;rw[i]at f;obtain⟨l,f,q⟩:=f;rw[Array.getD_eq_getD_getElem?]at f;subst k;simp only[yielded,m,XQ];cases e:a.tmps[d]? with
   |none=>cases c<;>rfl
   |some y=>rw[e]at f;simp at f;subst f;cases c<;>rfl
def OpV(P:Program)(o:Oper)(env:Env)(H:Qc)(x:A):Prop:=
 ∀fr ro σ N a w,Rel fr ro σ H env N a w->∃v,(execOp a.eval o).run P w=.ok (.value v) w/\VR ro σ w x v
def OpH(P:Program)(o:Oper)(env:Env)(H:Qc)(x:A)(H':Qc):Prop:=
 ∀fr ro σ N a w,Rel fr ro σ H env N a w->∃v w' ro' τ,(execOp a.eval o).run P w=.ok (.value v) w'/\VR ro' (σ++τ) w' x v/\
  Sim fr ro' (σ++τ) H' w'/\Qi fr ro w ro' w'
def OpU(P:Program)(o:Oper)(env:Env)(H:Qc)(H':Qc):Prop:=
 ∀fr ro σ N a w,Rel fr ro σ H env N a w->∃w' ro' τ,(execOp a.eval o).run P w=.ok .skip w'/\
  Sim fr ro' (σ++τ) H' w'/\Qi fr ro w ro' w'
theorem WO.nil{all:Array Oper}(h:Q .normal env H):WO P h0 N all [] env H Q:=
 λrd fr ro σ a w r hrd=>⟨_,env,H,ro,σ,fr,rfl,h,r,Qi.refl _ _ _,rfl,rfl,Grow.refl _ _ _⟩
theorem QW{σ τ:Sig}{h0:Nat}(h:h0<=σ.length):(σ++τ).take h0=σ.take h0:=by
 rw[Vf h]
theorem Qcl{all:Array Oper}{o:Oper}{l:List Oper}{d:Nat}{x:A}(u:h0<=H.length)(hg:Qv all o env true)(p:o.dst=some d)(B:Nat.blt d N=true)
  (h:OpH P o env H x H')(k:WO P h0 N all l (up env d x) H' Q):WO P h0 N all (o::l) env H Q:=by
 intro n fr t σ a w r hrd;obtain⟨v,i,b,τ,m,y,z,f⟩:=h fr t σ N a w r;refine Qa0 (Jm hg r) m ?_;simp only[p,Act.put];have g:d<N:=by simpa using B
 have j:Rel fr b (σ++τ) H' (up env d x) N {a with tmps:=a.tmps.setIfInBounds d v} i:=
  ⟨z,VR.up (fr:=fr) (λs=>(r.env s).mono (f.ext σ τ)) (by rw[r.size];exact g) y,by simpa using r.size,r.defers.keep f⟩
 refine Yx (λe a w q=>q.step f (QW ?_)) _ _ _ (k n fr b (σ++τ) _ i j (hrd.to f λ_ q=>q));rw[r.sim.len];exact u
theorem QG{all:Array Oper}{o:Oper}{l:List Oper}{d:Nat}{x:A}(hg:Qv all o env true)(i:o.dst=some d)(m:Nat.blt d N=true)
  (e:OpV P o env H x)(k:WO P h0 N all l (up env d x) H Q):WO P h0 N all (o::l) env H Q:=by
 intro h fr f σ a w r hrd;obtain⟨v,g,j⟩:=e fr f σ N a w r;refine Qa0 (Jm hg r) g ?_;simp only[i,Act.put];have b:d<N:=by simpa using m
 exact k h fr f σ {a with tmps:=a.tmps.setIfInBounds d v} w ⟨r.sim,VR.up (fr:=fr) r.env (by rw[r.size];exact b) j,by simpa using r.size,r.defers⟩ hrd
theorem QiG{all:Array Oper}{o:Oper}{l:List Oper}(t:h0<=H.length)(hg:Qv all o env true)(n:o.dst=none)
  (g:OpU P o env H H')(k:WO P h0 N all l env H' Q):WO P h0 N all (o::l) env H Q:=by
 intro m f p σ a w r hrd;obtain⟨h,b,τ,j,u,d⟩:=g f p σ N a w r;refine QkT (Jm hg r) j ?_;simp only[n,Act.put];have i:Rel f b (σ++τ) H' env N a h:=⟨u,λs=>(r.env s).mono (d.ext σ τ),r.size,r.defers.keep d⟩;refine Yx (λe a w q=>q.step d (QW ?_)) _ _ _ (k m f b (σ++τ) _ h i (hrd.to d λ_ q=>q));rw[r.sim.len];exact t
theorem WO.skip{all:Array Oper}{o:Oper}{l:List Oper}{d:Nat}(hg:Qv all o env false)(f:o.dst=some d)(g:Nat.blt d N=true)
  (k:WO P h0 N all l (up env d (.tup [])) H Q):WO P h0 N all (o::l) env H Q:=by
 intro e fr h σ a w r hrd;unfold wpL wpListIn;rw[Jm hg r,if_neg (by simp)];refine⟨λ_ _=>trivial,?_⟩;simp only[f,Act.put];have b:d<N:=by simpa using g
 exact k e fr h σ {a with tmps:=a.tmps.setIfInBounds d undef} w ⟨r.sim,VR.up (fr:=fr) r.env (by rw[r.size];exact b) ⟨[],rfl,rfl⟩,by simpa using r.size,r.defers⟩ hrd
theorem TC.region{id:Nat}{l:List Oper}(h:WO P h0 N l.toArray l env H Q):TC P h0 N (.region id l.toArray false) env H Q:=
 λrd fr ro σ a w r hrd=>Code.wpIn_mono (λe a w q=>q.postW) (wpIn_region_lit (h rd fr ro σ a w r hrd))
end
end Go.Sw
namespace Go.Sw
mutual
def YI(ρ:Nat->Nat):A->A
 |.ptr i off=>.ptr (ρ i) off
 |.osl i o n k=>.osl (ρ i) o n k
 |.agg cs=>.agg (Qaa ρ cs)
 |.fn f a c=>.fn f (Qaa ρ a) (Qaa ρ c)
 |.iface t v=>.iface t (YI ρ v)
 |.map i=>.map (ρ i)
 |.tup vs=>.tup (Qaa ρ vs)
 |a=>a
def Qaa(ρ:Nat->Nat):List A->List A
 |[]=>[]
 |a::r=>YI ρ a::Qaa ρ r
end
def Qge(ρ:Nat->Nat):List (List A)->List (List A)
 |[]=>[]
 |a::r=>Qaa ρ a::Qge ρ r
def Q4(ρ:Nat->Nat):Blk->Blk
 |.cells t cs=>.cells t (Qaa ρ cs)
 |.rowr t k es=>.rowr t k (Qge ρ es)
 |.ents t b1 b2 es=>.ents t (ρ b1) (ρ b2) es
 |b=>b
theorem QfA(ρ:Nat->Nat)(b1 b2:Nat):∀(es:List Ent),Qge ρ (es.map (eC b1 b2))=es.map (eC (ρ b1) (ρ b2))
 |[]=>rfl
 |e::es=>by
  have:=QfA ρ b1 b2 es;simp only[Vr,Qge,this];congr 1;cases h:e.fl<;>simp[eC,Qaa,YI,h]
theorem QI(ρ:Nat->Nat)(x:Blk):(Q4 ρ x).live=x.live:=by cases x<;>rfl
theorem Qai(ρ:Nat->Nat)(x:Blk)(w:World)(b c:Nat):Hid w (Q4 ρ x) b c↔Hid w x b c:=by cases x<;>exact Iff.rfl
section
variable {ro:Nat->Prop}{σ σ':Sig}{w:World}{ρ:Nat->Nat} (h:∀i:Nat,σ[ρ i]?=σ'[i]?)
include h
mutual
theorem QgE:∀{a:A}{v:Value},VR ro σ w (YI ρ a) v↔VR ro σ' w a v
 |.any,_=>by simp only[YI,VR]
 |.bool b,v=>by simp only[YI,VR]
 |.int k n,v=>by simp only[YI,VR]
 |.str s,v=>by simp only[YI,VR]
 |.nilp,v=>by simp only[YI,VR]
 |.ptr i off,v=>by simp only[YI,VR,h]
 |.rp cs,v=>by simp only[YI,VR]
 |.nils,v=>by simp only[YI,VR]
 |.rsl k es,v=>by simp only[YI,VR]
 |.osl i o n k,v=>by simp only[YI,VR,h]
 |.agg cs,v=>by simp only[YI,VR];exact exists_congr λl=>and_congr_right λ_=>Qbr
 |.fn f a c,v=>by simp only[YI,VR];exact exists_congr λl=>exists_congr λl'=>and_congr_right λ_=>and_congr Qbr Qbr
 |.nilf,v=>by simp only[YI,VR]
 |.iface t a,v=>by simp only[YI,VR];exact exists_congr λl=>and_congr_right λ_=>QgE
 |.nilif,v=>by simp only[YI,VR]
 |.map i,v=>by simp only[YI,VR,h]
 |.nilm,v=>by simp only[YI,VR]
 |.tup vs,v=>by simp only[YI,VR];exact exists_congr λl=>and_congr_right λ_=>Qbr
theorem Qbr:∀{az:List A}{l:List Value},LR ro σ w (Qaa ρ az) l↔LR ro σ' w az l
 |[],l=>by simp only[Qaa,LR]
 |a::r,l=>by
  simp only[Qaa,LR];exact exists_congr λv=>exists_congr λl'=>and_congr_right λ_=>and_congr QgE Qbr
end
theorem Qdp:∀(cs:List A),(Qaa ρ cs).length=cs.length
 |[]=>rfl
 |a::r=>by simp[Qaa,Qdp r]
theorem QiL{k:Nat}:∀{es:List (List A)}{l:List Value},RL ro σ w k (Qge ρ es) l↔RL ro σ' w k es l
 |[],l=>by simp only[Qge,RL]
 |a::r,l=>by
  simp only[Qge,RL,Qdp h];exact exists_congr λl1=>exists_congr λl2=>and_congr_right λ_=>and_congr_right λ_=>and_congr (and_congr_left λ_=>Qbr h) QiL
theorem QgP{x:Blk}{s:Option Nat}:BR ro σ w (Q4 ρ x) s↔BR ro σ' w x s:=by
 cases x with
 |cells t f=>
  cases s with
  |none=>exact Iff.rfl
  |some b=>simp only[Q4,BR];exact exists_congr λl=>and_congr_right λ_=>and_congr_left λ_=>Qbr h
 |rowr t k a=>
  cases s with
  |none=>exact Iff.rfl
  |some b=>simp only[Q4,BR];exact exists_congr λl=>and_congr_right λ_=>QiL h
 |ents t d e a=>
  cases s with
  |none=>exact Iff.rfl
  |some b=>
   simp only[Q4,BR];refine exists_congr λl=>and_congr_right λ_=>?_;rw[<- QfA];exact QiL h
 |_=>cases s<;>exact Iff.rfl
end
def C(P:Program)(f:FuncId)(args:List A)(H:Qc)(Q:A->Qc->Prop):Prop:=
 ∀fr ro σ vals w,Sim fr ro σ H w->LR ro σ w args vals->Calls P f vals.toArray w λe w'=>
  ∃v r H' ro' τ,e=.returned v/\Q r H'/\Sim fr ro' (σ++τ) H' w'/\VR ro' (σ++τ) w' r v/\Qi fr ro w ro' w'
theorem C.mono{P:Program}{f:FuncId}{args:List A}{H:Qc}{Q Q':A->Qc->Prop}(h:C P f args H Q)(hq:∀r H,Q r H->Q' r H):C P f args H Q':=
 λfr ro σ vals w s l=>(h fr ro σ vals w s l).mono λe w' ⟨v,r,H',ro',τ,h1,h2,h3⟩=>⟨v,r,H',ro',τ,h1,hq _ _ h2,h3⟩
def QfU:Nat->List A->Env
 |_,[]=>[]
 |i,a::r=>(i,a)::QfU (i+1) r
theorem Qep{ro:Nat->Prop}{σ:Sig}{w:World}:∀{args:List A}{vals:List Value}{i:Nat} (pre:List Value),pre.length=i->LR ro σ w args vals->∀rest:Array Value,
  ∀s,VR ro σ w (lk (QfU i args) s) (((pre++vals).toArray++rest).getD s undef)
 |[],vals,i,pre,hp,hl,rest,s=>trivial
 |a::r,vals,i,pre,hp,hl,rest,s=>by
  simp only[LR]at hl;obtain⟨v,l',rfl,h1,h2⟩:=hl;simp only[QfU,lk];by_cases e:s=i
  .subst e;rw[Nat.beq_refl];have:((pre++v::l').toArray++rest).getD s undef=v:=by
    subst hp;simp[Array.getD_eq_getD_getElem?,Array.getElem?_append]
   rw[this];exact h1
  .have:Nat.beq s i=false:=by
    rw[Bool.eq_false_iff];intro q;exact e (XX q)
   rw[this];have:=Qep (i:=i+1) (pre++[v]) (by simp[hp]) h2 rest s;simpa using this
def QcS(P:Program)(fn:Func)(env:Env)(H:Qc)(r:A):Prop:=
 ∀fr ro σ N a w,Rel fr ro σ H env N a w->∃v,(results fn a.tmps).run P w=.ok v w/\VR ro σ w r v
def QcR(P:Program)(h0:Nat)(fn:Func)(Q:A->Qc->Prop):QC
 |.normal,env,H=>∃env' H' r,Le h0 env H env' H'/\QcS P fn env' H' r/\Q r H'
 |.ret,env,H=>∃env' H' r,Le h0 env H env' H'/\QcS P fn env' H' r/\Q r H'
 |.exit _,_,_=>False
theorem LR.length{ro:Nat->Prop}{σ:Sig}{w:World}:∀{az:List A}{l:List Value},LR ro σ w az l->l.length=az.length
 |[],l,h=>by simp only[LR]at h;simp[h]
 |a::r,l,h=>by
  simp only[LR]at h;obtain⟨v,l',rfl,_,h2⟩:=h;simp[h2.length]
theorem Sim.turn{fr ro:Nat->Prop}{σ:Sig}{H:Qc}{w:World}(s:Sim fr ro σ H w){b:Nat}{obj:Obj}(m:¬ro b)(r:¬fr b)(u:∀(i:Nat) (x:Blk),σ[i]?=some (some b)->H[i]?=some x->x.live=true->False)
  (l:∀(i d:Nat) (x:Blk),σ[i]?=some (some d)->H[i]?=some x->Hid w x d b->False)
  (t:∀y,w.shape? b=some y->(w.putObj b obj).shape? b=some y):Sim fr ro σ H (w.putObj b obj)/\Qi fr ro w ro (w.putObj b obj):=by
 have a:∀c,c≠b->(w.putObj b obj).heap[c]?=w.heap[c]? :=λc L=>World.putObj_heap_other L;have f:(w.putObj b obj).heap.size=w.heap.size:=by simp
 have ev:Qi fr ro w ro (w.putObj b obj):=by
  refine⟨λ_ q=>q,λc q=>a c (λe=>m (e▸q)),λc q=>a c (λe=>r (e▸q)),by rw[f];exact X0 _,λc x q=>?_,rfl,rfl,rfl,X0 _⟩;by_cases e:c=b
  .subst e;exact t x q
  .unfold World.shape? at q⊢;rw[a c e];exact q
 have h:Ext ro σ w ro σ (w.putObj b obj):=by have:=ev.ext σ [];simpa using this
 refine⟨⟨s.len,s.roOk.to (λ_ q=>q) ev.keepRo (λc q=>by rw[f];exact s.roLt c q),λc q=>by rw[f];exact s.frLt c q,s.roFr,λi c x k g E=>?_,s.inj,λi y x k g=>?_,
  s.hidTo (· = ·) Q8 (by rw[f];exact X0 _) (λ_ _ _ _ _ _ _ q=>q) (λ_ _ _ _ _ _ _ q=>q) λj d y p n M=>.inl ⟨j,y,rfl,p,n,id,λc q=>s.hidKeep p n (λz=>a d (λe=>u j y (e▸p) n z)) ev.keepRo q⟩⟩,ev⟩
 .obtain⟨B,J,G⟩:=s.own i c x k g E;exact⟨by rw[f];exact B,J,G⟩
 .refine(s.blk i y x k g).keep h ?_ ?_
  .rintro c rfl F;exact a c (λe=>u i x (e▸k) g F)
  .rintro d c rfl q;exact a c (λe=>l i d x k g (e▸q))
theorem Qbl{P:Program}{fn:Func}{tmps:Array Value}{R:Ending->World->Prop}{fr ro:Nat->Prop}{σ:Sig}{H:Qc}:
  ∀(ds:List Deferred) (w:World),ds.Nodup->(∀d∈ds,∃D,d={target:=.collected D,args:= #[]}/\ ¬ro D/\ ¬fr D/\(∀(i:Nat) (x:Blk),σ[i]?=some (some D)->H[i]?=some x->x.live=true->False)/\(∀(i d:Nat) (x:Blk),σ[i]?=some (some d)->H[i]?=some x->Hid w x d D->False)/\w.heap[D]?=some (.deferred (some [])))->
  Sim fr ro σ H w->(∀w',Sim fr ro σ H w'->Qi fr ro w ro w'->∃v,(results fn tmps).run P w'=.ok v w'/\R (.returned v) w')->LeavesInM Fence.wide 0 P fn tmps R ds .returning w
 |[],w,_,_,s,hk=>by
  obtain⟨v,h1,h2⟩:=hk w s (Qi.refl _ _ _);exact⟨v,h1,h2⟩
 |d::ds,w,hn,hd,s,hk=>by
  obtain⟨D,rfl,h1,h2,h3,h5,h4⟩:=hd d (by simp);obtain⟨n1,n2⟩:=List.nodup_cons.1 hn;obtain⟨s',ev⟩:=s.turn (obj:=.deferred none) h1 h2 h3 h5 (λy q=>by unfold World.shape? at q;rw[h4]at q;simp at q);refine⟨(by intro e;cases e),.inl ⟨D,_,rfl,run_takeDeferred h4,?_⟩⟩;refine Qbl ds _ n2 (λd' q=>?_) s' (λw' q1 q2=>hk w' q1 (ev.trans q2));obtain⟨D',rfl,g1,g2,g3,g5,g4⟩:=hd d' (by simp[q]);refine⟨D',rfl,g1,g2,g3,λi d x z1 z2 z3=>g5 i d x z1 z2 (s.hidKeep z1 z2 (λz=>World.putObj_heap_other (λe:d=D=>h3 i x (e▸z1) z2 z)) (λb q=>World.putObj_heap_other (λe:b=D=>h1 (e▸q))) z3),(World.putObj_heap_other (λe=>?_)).trans g4⟩;subst e;exact n1 q
theorem Qb{P:Program}{f:FuncId}{fn:Func}{c:Code}{N:Nat}{args:List A}{H:Qc}{Q:A->Qc->Prop}
  (hf:P.funcs[f]?=some fn)(hb:fn.body=some c)(hN:fn.ntmps=N)(hA:Nat.ble args.length N=true)
  (h:TC P H.length N c (QfU 0 args) H (QcR P H.length fn Q)):C P f args H Q:=by
 intro fr ro σ vals w hs hl;have l:=hl.length;have aa:args.length<=N:=by simpa using hA
 refine(callsIn_wide (n:=0)).1 (callsIn_of_wp_marks hf hb trivial (Code.wpIn_mono ?_ (h none fr ro σ _ w ⟨hs,?_,?_,List.nodup_nil,λd k=>by cases k⟩ QbZ)))
 .rintro e p j ⟨x,u,H1,O,σ1,L,z,F,h3,h4,h5,W⟩;have y:(∃g H' r,Le H.length u H1 g H'/\QcS P fn g H' r/\Q r H')->LeavesInM Fence.wide 0 P fn p.tmps (λe j=>
    ∃v' r H' a τ,e=.returned v'/\Q r H'/\Sim fr a (σ++τ) H' j/\VR a (σ++τ) j r v'/\Qi fr ro w a j) p.defers .returning j:=by
   rintro⟨g,H',r,T,hr,hq⟩;obtain⟨a,σ',b,m,ht⟩:=T L O σ1 N p j h3;have hσ:σ'=σ++σ'.drop H.length:=by
    have R:σ'.take H.length=σ:=by rw[ht,h5,List.take_of_length_le (by rw[hs.len];exact X0 _)]
    conv=>lhs;rw[<- XF H.length σ',R]
   have s1:Sim fr a σ' H' j:=b.sim.frMono W.sub;refine Qbl (ro:=a) (fr:=fr) (σ:=σ') (H:=H') p.defers j b.defers.1 (λd k=>?_) s1 (λV Y t=>?_)
   .obtain⟨D,rfl,E,g2⟩:=b.defers.2 d k;refine⟨D,rfl,λq=>b.sim.roFr D q E,λq=>?_,λi x J B M=>(b.sim.own i D x J B M).2.2 E,λi d x J B M=>(b.sim.hid i d x D J B M).fr E,g2⟩;rcases W.ds _ k with X|⟨D',e,X⟩
    .cases X
    .have:D=D':=by simpa using e
     subst this;have:=hs.frLt D q;omega
   .have G:Rel fr a σ' H' g N {p with defers:=[]} V:=⟨Y,λs=>(b.env s).mono (by have:=t.ext σ' [];simpa using this),b.size,List.nodup_nil,λd k=>by cases k⟩;obtain⟨v,R,e2⟩:=hr fr a σ' N _ V G;exact⟨v,R,v,r,H',a,σ'.drop H.length,rfl,hq,hσ▸Y,hσ▸e2,(h4.trans (YK m)).trans t⟩
  cases e with
  |normal=>
   obtain rfl:x=.normal:=z;exact y F
  |ret=>
   obtain rfl:x=.ret:=z;exact y F
  |exit id=>
   obtain rfl:x=.exit id:=z;exact F.elim
  |_=>exact z.elim
 .intro s;have:=Qep (i:=0) [] rfl hl (Array.replicate (fn.ntmps-vals.toArray.size) undef) s;simpa using this
 .simp[hN,l];omega
section
variable {P:Program}{fn:Func}{env:Env}{H:Qc}
theorem QcS.nil(h:fn.results= #[]):QcS P fn env H (.tup []):=
 λfr ro σ N a w r=>⟨.tuple #[],by simp[results,h,go_sem],[],rfl,rfl⟩
theorem QcS.one{t:Nat}{x:A}(h:fn.results= #[.tmp t])(hx:lk env t=x):QcS P fn env H x:=
 λfr ro σ N a w r=>⟨a.tmps.getD t undef,by simp[results,h,go_sem],hx▸r.env t⟩
theorem Qkv{t u:Nat}{x y:A}(h:fn.results= #[.tmp t,.tmp u])(hx:lk env t=x)(hy:lk env u=y):QcS P fn env H (.tup [x,y]):=
 λfr ro σ N a w r=>⟨.tuple #[a.tmps.getD t undef,a.tmps.getD u undef],by simp[results,h,go_sem],
  [_,_],rfl,_,_,rfl,hx▸r.env t,_,_,rfl,hy▸r.env u,rfl⟩
end
inductive Ctl (S B:Type) where
 |cont (s:S)
 |done (b:B)
 deriving DecidableEq
def iter{S B:Type}(step:S->Option (Ctl S B)):Nat->S->Option B
 |0,_=>none
 |n+1,s=>match step s with
  |some (.cont s')=>iter step n s'
  |some (.done b)=>some b
  |none=>none
def Qbg{S B:Type}(I:S->Env->Qc->Prop)(d:Ctl S B)(Q:QC):QC
 |.normal,env,H=>∃s,d=.cont s/\I s env H
 |.exit id,env,H=>(∃b,d=.done b)/\Q (.exit id) env H
 |.ret,env,H=>(∃b,d=.done b)/\Q .ret env H
theorem Qmw{P:Program}{h0 N:Nat}{c:Code}{S B:Type}{step:S->Option (Ctl S B)}{I:S->Env->Qc->Prop}{Q:QC}{E:B}
  (body:∀s d env H,I s env H->step s=some d->(∀b,d=.done b->b=E)->TC P h0 N c env H (Qbg I d Q))
  {m:Nat}{s0:S}(h:iter step m s0=some E){env:Env}{H:Qc}(J:I s0 env H):TC P h0 N (.loop c) env H Q:=by
 intro X u z σ a w r hrd b k cs hro hb hr;have O:∀m s env H fr1 ro1 σ1 a1 w1,iter step m s=some E->I s env H->Rel fr1 ro1 σ1 H env N a1 w1->Qi u z w ro1 w1->σ1.take h0=σ.take h0->Grow u w a.defers fr1 a1.defers->
   ∃e i j,Qbe h0 u z σ w N a.defers Q e i j/\ArrivesIn (Machine.fenced P (WF X)) P (lone (b.atR a1 (.code c::.inLoop c::k)) cs w1) b k cs e i j:=by
  intro m
  induction m with
  |zero=>intro s env H fr1 ro1 σ1 a1 w1 hit;simp[iter]at hit
  |succ m ih=>
   intro s env H fr1 ro1 σ1 a1 w1 hit J r1 ev1 t1 g1;simp only[iter]at hit;cases L:step s with
   |none=>rw[L]at hit;simp at hit
   |some d=>
    rw[L]at hit;have Y:∀b,d=.done b->b=E:=by
     rintro b rfl;simpa using hit
    obtain⟨e,i,j,M,f⟩:=body s d env H J L Y X fr1 ro1 σ1 a1 w1 r1 (hrd.to ev1 g1.sub) b (.inLoop c::k) cs hro hb hr;obtain⟨x,g,H',p,σ',t,F,n,T,q4,W,q6⟩:=M;have y:=ev1.trans (q4.frMono g1.sub);have V:=g1.trans ev1.size q6;have R:∀x,Q x g H'->ExR e x->Qbe h0 u z σ w N a.defers Q e i j:=λx q q'=>⟨x,g,H',p,σ',t,q',q,T,y,W.trans t1,V⟩;cases e with
    |normal=>
     obtain rfl:x=.normal:=F;obtain⟨s',rfl,n⟩:=n;obtain⟨e2,a2,w2,G,l⟩:=ih s' g H' t p σ' i j hit n T y (W.trans t1) V;exact⟨e2,a2,w2,G,.of_steps (StepsIn.trans f (.one (fenced_calm hb hr rfl) stepR_inLoop)) l⟩
    |exit id=>
     obtain rfl:x=.exit id:=F;exact⟨_,i,j,R _ n.2 rfl,.pass (x:=.inLoop c) rfl (λ_ _=>.inl (by simp)) f⟩
    |ret=>
     obtain rfl:x=.ret:=F;exact⟨_,i,j,R _ n.2 rfl,.pass (x:=.inLoop c) rfl (λ_ _=>.inl (by simp)) f⟩
    |_=>exact F.elim
 obtain⟨e,i,j,M,f⟩:=O m s0 env H u z σ a w h J r (Qi.refl _ _ _) rfl (Grow.refl _ _ _);exact⟨e,i,j,M,.of_steps (.one (fenced_calm hb hr rfl) stepR_loop) f⟩
theorem TC.loop{P:Program}{h0 N:Nat}{c:Code}{S B:Type}{step:S->Option (Ctl S B)}(E:S->Env)(Hp:S->Qc){Q:QC}
  {m:Nat}{s0:S}{b0:B}(h:iter step m s0=some b0){env:Env}{H:Qc}(hI:Le h0 env H (E s0) (Hp s0))
  (body:∀s d,step s=some d->(∀b,d=.done b->b=b0)->TC P h0 N c (E s) (Hp s) (Qbg (λs env H=>Le h0 env H (E s) (Hp s)) d Q)):TC P h0 N (.loop c) env H Q:=
 Qmw (I:=λs env H=>Le h0 env H (E s) (Hp s)) (λs d env H hI hs hd=>TC.le hI (body s d hs hd)) h hI
end Go.Sw
namespace Go.Sw
def rho(π:List Nat)(n i:Nat):Nat:=
 match π[i]? with
 |some p=>p
 |none=>n+(i-π.length)
def Yr:Qc->List Nat->List Blk->Qc
 |H,[],xs=>H++xs
 |H,p::π,x::xs=>Yr (H.set p x) π xs
 |H,_::_,[]=>H
theorem Qb3:∀(π:List Nat) (H:Qc) (xs:List Blk),π.length<=xs.length->(Yr H π xs).length=H.length+(xs.length-π.length)
 |[],H,xs,_=>by simp[Yr]
 |p::π,H,[],h=>by simp at h
 |p::π,H,x::xs,h=>by
  simp only[X8]at h;simp only[Yr,Qb3 π (H.set p x) xs (by omega),Vb,X8];omega
theorem Qcb:∀(π:List Nat) (H:Qc) (xs:List Blk) (i:Nat),i<H.length->i∉π->(Yr H π xs)[i]?=H[i]?
 |[],H,xs,i,hi,_=>by simp[Yr,XT hi]
 |p::π,H,[],i,hi,h=>by simp[Yr]
 |p::π,H,x::xs,i,hi,h=>by
  simp only[Ve,not_or]at h;simp only[Yr];rw[Qcb π (H.set p x) xs i (by simpa using hi) h.2,XW (λe=>h.1 e.symm)]
theorem Qd5:∀(π:List Nat) (H:Qc) (xs:List Blk) (j:Nat),π.length<=xs.length->(∀p∈π,p<H.length)->π.Nodup->
  (Yr H π xs)[rho π H.length j]?=xs[j]?
 |[],H,xs,j,_,_,_=>by
  simp only[Yr,rho,List.getElem?_nil,List.length_nil,XA];rw[XU (by omega)];congr 1;omega
 |p::π,H,[],j,h,_,_=>by simp at h
 |p::π,H,x::xs,j,h,hp,hn=>by
  simp only[X8]at h;have hn':=List.nodup_cons.1 hn;simp only[Yr];cases j with
  |zero=>
   simp only[rho,XL];rw[Qcb π _ xs p (by simpa using hp p (by simp)) hn'.1];rw[Xa (hp p (by simp))]
  |succ j=>
   have ih:=Qd5 π (H.set p x) xs j (by omega) (λq hq=>by simpa using hp q (by simp[hq])) hn'.2;rw[Vb]at ih;have e:rho (p::π) H.length (j+1)=rho π H.length j:=by
    simp only[rho,XM,X8];cases π[j]? with
    |none=>simp only[];congr 1;omega
    |some q=>rfl
   rw[e,ih];simp
theorem QjL(π:List Nat)(n i:Nat)(hi:n<=i\/i∈π):∃j,i=rho π n j:=by
 rcases hi with hi|hi
 .refine⟨π.length+(i-n),?_⟩;have:π[π.length+(i-n)]?=none:=XV (by omega);simp only[rho,this];omega
 .obtain⟨j,a,rfl⟩:=List.mem_iff_getElem.1 hi;exact⟨j,by simp[rho,XR a]⟩
def Yf(σ:Sig)(π:List Nat):Sig:=π.map λp=>(σ[p]?).getD none
theorem QdK{σ τ:Sig}{π:List Nat}{n:Nat}(d:σ.length=n)(f:∀p∈π,p<n)(j:Nat):(σ++τ)[rho π n j]?=(Yf σ π++τ)[j]? :=by
 rcases Nat.lt_or_ge j π.length with h|h
 .have a:π[j]∈π:=Vl h;have b:=f _ a;have e:rho π n j=π[j]:=by simp[rho,XR h]
  rw[e,XT (by omega),XT (by simpa[Yf]using h)];simp[Yf,XR h,XR (show π[j]<σ.length by omega)]
 .have e:rho π n j=n+(j-π.length):=by
   simp[rho,XV h]
  rw[e,XU (by omega),XU (by simpa[Yf]using h)];simp[Yf,d]
def OpC(P:Program)(o:Oper)(env:Env)(H:Qc)(f:FuncId)(args:List A):Prop:=
 ∀fr ro σ N a w,Rel fr ro σ H env N a w->∃vals:List Value,(execOp a.eval o).run P w=.ok (.enter f vals.toArray) w/\LR ro σ w args vals
theorem Je{π:List Nat}{H:Qc}{Hc:List Blk}(b:π.map (λp=>H[p]?)=Hc.map some){p:Nat}(d:p∈π):p<H.length:=by
 have:H[p]? ∈π.map (λp=>H[p]?):=List.mem_map_of_mem d;rw[b]at this;obtain⟨x,_,a⟩:=Xf.1 this;rcases Nat.lt_or_ge p H.length with h|h
 .exact h
 .rw[XV h]at a;simp at a
theorem WO.call{P:Program}{h0 N:Nat}{all:Array Oper}{o:Oper}{l:List Oper}{env:Env}{H:Qc}{Q:QC}{d:Option Nat}{f:FuncId}
  {args ab:List A}{Hc:Qc}{Qr:A->Qc->Prop}(π:List Nat)(hh:h0<=H.length)(hg:Qv all o env true)(hd:o.dst=d)(hN:∀x,d=some x->x<N)
  (au:OpC P o env H f args)(hargs:args=Qaa (rho π H.length) ab)(hH:π.map (λp=>H[p]?)=(Hc.map (Q4 (rho π H.length))).map some)(hπ:π.Nodup)
  (hC:C P f ab Hc Qr)
  (k:∀r H1,Qr r H1->WO P h0 N all l (match d with|some d=>up env d (YI (rho π H.length) r)|none=>env) (Yr H π (H1.map (Q4 (rho π H.length)))) Q):
  WO P h0 N all (o::l) env H Q:=by
 intro rd fr ro σ a w r hrd;obtain⟨ah,h1,h2⟩:=au fr ro σ N a w r;refine Qfq (Jm hg r) h1 ?_;have hp:∀p∈π,p<H.length:=λp q=>Je hH q;have hσl:=r.sim.len;have ac:∀(j p:Nat),π[j]?=some p->H[p]?=(Hc[j]?).map (Q4 (rho π H.length)):=by
  intro j p M;have:=congrArg (λl=>l[j]?) hH;simp only[Xq,M,Xk]at this;cases e:Hc[j]? with
  |none=>rw[e]at this;simp at this
  |some x=>rw[e]at this;simpa using this
 have ak:π.length=Hc.length:=by simpa using congrArg List.length hH
 have hσc:∀j:Nat,σ[rho π H.length j]?=(Yf σ π)[j]? :=by
  intro j;have:=QdK (τ:=[]) hσl hp j;simpa using this
 let frc:Nat->Prop:=λb=>fr b\/(∃i x,σ[i]?=some (some b)/\H[i]?=some x/\x.live=true/\i∉π)\/ ∃i x d,σ[i]?=some (some d)/\H[i]?=some x/\Hid w x d b/\i∉π
 have hπj:∀(j b:Nat),(Yf σ π)[j]?=some (some b)->∃p,π[j]?=some p/\σ[p]?=some (some b):=by
  intro j b M;simp only[Yf,Xq]at M;cases e:π[j]? with
  |none=>rw[e]at M;simp at M
  |some p=>
   rw[e]at M;simp at M;refine⟨p,rfl,?_⟩;cases e2:σ[p]? with
   |none=>rw[e2]at M;simp at M
   |some s=>rw[e2]at M;simp at M;rw[M]
 have hπi:∀(i j p:Nat),π[i]?=some p->π[j]?=some p->i=j:=by
  intro i j p T O;have hi:i<π.length:=by
   rcases Nat.lt_or_ge i π.length with q|q
   .exact q
   .rw[XV q]at T;simp at T
  have M:j<π.length:=by
   rcases Nat.lt_or_ge j π.length with q|q
   .exact q
   .rw[XV q]at O;simp at O
  rw[XR hi]at T;rw[XR M]at O;have ae:=(X7 T).trans (X7 O).symm;rcases Nat.lt_trichotomy i j with q|q|q
  .exact(List.pairwise_iff_getElem.1 hπ i j hi M q ae).elim
  .exact q
  .exact(List.pairwise_iff_getElem.1 hπ j i M hi q ae.symm).elim
 have al:Sim frc ro (Yf σ π) Hc w:=by
  refine⟨by simp[Yf,ak],r.sim.roOk,?_,?_,?_,?_,?_,?_⟩
  .rintro b (hb|⟨i,x,h,g,m,J⟩|⟨i,x,d,h,g,m,J⟩)
   .exact r.sim.frLt b hb
   .exact(r.sim.own i b x h g m).1
   .exact(r.sim.hid i d x b h g m).lt
  .rintro b hb (hf|⟨i,x,h,g,m,J⟩|⟨i,x,d,h,g,m,J⟩)
   .exact r.sim.roFr b hb hf
   .exact(r.sim.own i b x h g m).2.1 hb
   .exact(r.sim.hid i d x b h g m).ro hb
  .intro j b x h g m;obtain⟨p,T,e2⟩:=hπj j b h;have e3:H[p]?=some (Q4 (rho π H.length) x):=by rw[ac j p T,g];rfl
   obtain⟨o1,o2,o3⟩:=r.sim.own p b _ e2 e3 (by rw[QI];exact m);refine⟨o1,o2,?_⟩;rintro(hf|⟨i,y,y1,y2,y3,y4⟩|⟨i,y,d,y1,y2,y3,y4⟩)
   .exact o3 hf
   .have:=r.sim.inj i p b _ _ y1 e2 y2 e3 y3 (by rw[QI];exact m);subst this;exact y4 (List.mem_of_getElem? T)
   .exact(r.sim.hid i d y b y1 y2 y3).ne p b _ e2 e3 (by rw[QI];exact m) rfl
  .intro i j b x y h g m J X q6;obtain⟨p,T,e2⟩:=hπj i b h;obtain⟨p',O,ao⟩:=hπj j b g;have e3:H[p]?=some (Q4 (rho π H.length) x):=by rw[ac i p T,m];rfl
   have aq:H[p']?=some (Q4 (rho π H.length) y):=by rw[ac j p' O,J];rfl
   have:=r.sim.inj p p' b _ _ e2 ao e3 aq (by rw[QI];exact X) (by rw[QI];exact q6);subst this;have hi:i<π.length:=by
    rcases Nat.lt_or_ge i π.length with q|q
    .exact q
    .rw[XV q]at T;simp at T
   have M:j<π.length:=by
    rcases Nat.lt_or_ge j π.length with q|q
    .exact q
    .rw[XV q]at O;simp at O
   rw[XR hi]at T;rw[XR M]at O;have ae:=(X7 T).trans (X7 O).symm;rcases Nat.lt_trichotomy i j with q|q|q
   .exact(List.pairwise_iff_getElem.1 hπ i j hi M q ae).elim
   .exact q
   .exact(List.pairwise_iff_getElem.1 hπ j i M hi q ae.symm).elim
  .intro j s x h g;have M:j<π.length:=by
    rcases Nat.lt_or_ge j π.length with q|q
    .exact q
    .rw[XV (by simpa[Yf]using q)]at h;simp at h
   have T:π[j]?=some π[j]:=XR M;have e3:H[π[j]]?=some (Q4 (rho π H.length) x):=by rw[ac j _ T,g];rfl
   have e2:σ[π[j]]?=some s:=by
    have:=hσc j;rw[h]at this;simpa[rho,T]using this
   exact(QgP hσc).1 (r.sim.blk _ s _ e2 e3)
  .intro j b x c h g m;obtain⟨p,T,e2⟩:=hπj j b h;have e3:H[p]?=some (Q4 (rho π H.length) x):=by rw[ac j p T,g];rfl
   have k:=r.sim.hid p b _ c e2 e3 ((Qai _ _ _ _ _).2 m);refine⟨k.lt,k.ro,?_,?_,?_⟩
   .rintro(hf|⟨i,y,y1,y2,y3,y4⟩|⟨i,y,d,y1,y2,y3,y4⟩)
    .exact k.fr hf
    .exact k.ne i c y y1 y2 y3 rfl
    .obtain⟨rfl,rfl⟩:=k.one i d y y1 y2 y3;exact y4 (List.mem_of_getElem? T)
   .intro R b' y L n Y;obtain⟨p',f1,f2⟩:=hπj R b' L;exact k.ne p' b' _ f2 (show H[p']?=some (Q4 (rho π H.length) y)by rw[ac R p' f1,n];rfl) (by rw[QI];exact Y)
   .intro R b' y L n Y;obtain⟨p',f1,f2⟩:=hπj R b' L;obtain⟨z4,z5⟩:=k.one p' b' _ f2 (show H[p']?=some (Q4 (rho π H.length) y)by rw[ac R p' f1,n];rfl) ((Qai _ _ _ _ _).2 Y);subst z5;exact⟨z4,hπi R j p' f1 T⟩
 have ag:LR ro (Yf σ π) w ab ah:=(Qbr hσc).1 (hargs▸h2);refine Calls.mono (hC frc ro (Yf σ π) ah w al ag) ?_;rintro e w' ⟨v,rr,H1,aa,τ,rfl,hq,sc,hv,ev⟩;have hσ':∀j:Nat,(σ++τ)[rho π H.length j]?=(Yf σ π++τ)[j]? :=λj=>QdK hσl hp j;have am:H1.length=π.length+τ.length:=by rw[<- sc.len];simp[Yf]
 have aj:π.length<=(H1.map (Q4 (rho π H.length))).length:=by simp;omega
 have W:Qi fr ro w aa w':=⟨ev.sub,ev.keepRo,λb q=>ev.keepFr b (.inl q),ev.size,ev.shape,ev.os,ev.tape,ev.output,ev.drawn⟩;have F:∀j,(Yr H π (H1.map (Q4 (rho π H.length))))[rho π H.length j]?=(H1[j]?).map (Q4 (rho π H.length)):=by
  intro j;rw[Qd5 π H _ j aj hp hπ];simp
 have B:∀i,i<H.length->i∉π->(Yr H π (H1.map (Q4 (rho π H.length))))[i]?=H[i]? :=λi=>Qcb π H _ i;have t:∀i:Nat,(∃j,i=rho π H.length j)\/(i<H.length/\i∉π):=by
  intro i;by_cases q:H.length<=i\/i∈π
  .exact .inl (QjL π H.length i q)
  .simp only[not_or]at q;exact .inr ⟨by omega,q.2⟩
 have G:∀i b x,i<H.length->i∉π->σ[i]?=some (some b)->H[i]?=some x->x.live=true->frc b:=λi b x h g m J X=>.inr (.inl ⟨i,x,m,J,X,g⟩);have af:∀i b x c,i<H.length->i∉π->σ[i]?=some (some b)->H[i]?=some x->Hid w' x b c->Hid w x b c/\frc c:=λi b x c h g m J X=>
  have q6:=r.sim.hidKeep m J (λz=>ev.keepFr b (G i b x h g m J z)) ev.keepRo X
  ⟨q6,.inr (.inr ⟨i,x,b,m,J,q6,g⟩)⟩
 have ai:Sim fr aa (σ++τ) (Yr H π (H1.map (Q4 (rho π H.length)))) w':=by
  refine⟨?_,sc.roOk,λb q=>sc.frLt b (.inl q),λb q q'=>sc.roFr b q (.inl q'),?_,?_,?_,?_⟩
  .rw[Qb3 _ _ _ aj];simp[hσl,am]
  .intro i b x h g m;rcases t i with⟨j,rfl⟩|⟨c1,c2⟩
   .rw[hσ']at h;rw[F]at g;cases e:H1[j]? with
    |none=>rw[e]at g;simp at g
    |some y=>
     rw[e]at g;simp at g;subst g;obtain⟨o1,o2,o3⟩:=sc.own j b y h e (by rw[QI]at m;exact m);exact⟨o1,o2,λq=>o3 (.inl q)⟩
   .rw[B i c1 c2]at g;rw[XT (by omega)]at h;obtain⟨o1,o2,o3⟩:=r.sim.own i b x h g m;exact⟨Vn o1 ev.size,λq=>sc.roFr b q (G i b x c1 c2 h g m),o3⟩
  .intro i E b x y h g m J X q6;have ad:∀(i E:Nat) (x y:Blk),(∃j,i=rho π H.length j)->(E<H.length/\E∉π)->(σ++τ)[i]?=some (some b)->(σ++τ)[E]?=some (some b)->
     (Yr H π (H1.map (Q4 (rho π H.length))))[i]?=some x->(Yr H π (H1.map (Q4 (rho π H.length))))[E]?=some y->x.live=true->y.live=true->False:=by
    rintro i E x y ⟨j,rfl⟩ ⟨c1,c2⟩ h g m J X q6;rw[hσ']at h;rw[F]at m;rw[B E c1 c2]at J;rw[XT (by omega)]at g;cases e:H1[j]? with
    |none=>rw[e]at m;simp at m
    |some z=>
     rw[e]at m;simp at m;subst m;exact(sc.own j b z h e (by rw[QI]at X;exact X)).2.2 (G E b y c1 c2 g J q6)
   rcases t i with ci|ci<;>rcases t E with ci'|ci'
   .obtain⟨j,rfl⟩:=ci;obtain⟨R,rfl⟩:=ci';rw[hσ']at h g;rw[F]at m J;cases e:H1[j]? with
    |none=>rw[e]at m;simp at m
    |some z=>
     cases V:H1[R]? with
     |none=>rw[V]at J;simp at J
     |some z'=>
      rw[e]at m;simp at m;subst m;rw[V]at J;simp at J;subst J;rw[sc.inj j R b z z' h g e V (by rw[QI]at X;exact X) (by rw[QI]at q6;exact q6)]
   .exact(ad i E x y ci ci' h g m J X q6).elim
   .exact(ad E i y x ci' ci g h J m q6 X).elim
   .rw[B i ci.1 ci.2]at m;rw[B E ci'.1 ci'.2]at J;rw[XT (by omega)]at h g;exact r.sim.inj i E b x y h g m J X q6
  .intro i s x h g;rcases t i with⟨j,rfl⟩|⟨c1,c2⟩
   .rw[hσ']at h;rw[F]at g;cases e:H1[j]? with
    |none=>rw[e]at g;simp at g
    |some y=>
     rw[e]at g;simp at g;subst g;exact(QgP hσ').2 (sc.blk j s y h e)
   .rw[B i c1 c2]at g;rw[XT (by omega)]at h;refine BR.keep (W.ext σ τ) ?_ (r.sim.blk i s x h g) ?_
    .rintro b rfl hl;exact ev.keepFr b (G i b x c1 c2 h g hl)
    .rintro b c rfl hl;exact ev.keepFr c (.inr (.inr ⟨i,x,b,h,g,hl,c2⟩))
  .intro i b x c h g m;rcases t i with⟨j,rfl⟩|⟨c1,c2⟩
   .rw[hσ']at h;rw[F]at g;cases e:H1[j]? with
    |none=>rw[e]at g;simp at g
    |some y=>
     rw[e]at g;simp at g;subst g;have k:=sc.hid j b y c h e ((Qai _ _ _ _ _).1 m);refine⟨k.lt,k.ro,λq=>k.fr (.inl q),?_,?_⟩
     .intro E b' y' L n Y;rcases t E with⟨R,rfl⟩|⟨d1,d2⟩
      .rw[hσ']at L;rw[F]at n;cases V:H1[R]? with
       |none=>rw[V]at n;simp at n
       |some u=>
        rw[V]at n;simp at n;subst n;exact k.ne R b' u L V (by rw[QI]at Y;exact Y)
      .rw[B E d1 d2]at n;rw[XT (by omega)]at L;rintro rfl;exact k.fr (G E c y' d1 d2 L n Y)
     .intro E b' y' L n Y;rcases t E with⟨R,rfl⟩|⟨d1,d2⟩
      .rw[hσ']at L;rw[F]at n;cases V:H1[R]? with
       |none=>rw[V]at n;simp at n
       |some u=>
        rw[V]at n;simp at n;subst n;obtain⟨z4,rfl⟩:=k.one R b' u L V ((Qai _ _ _ _ _).1 Y);exact⟨z4,rfl⟩
      .rw[B E d1 d2]at n;rw[XT (by omega)]at L;exact(k.fr (af E b' y' c d1 d2 L n Y).2).elim
   .rw[B i c1 c2]at g;rw[XT (by omega)]at h;obtain⟨J,X⟩:=af i b x c c1 c2 h g m;have k:=r.sim.hid i b x c h g J;refine⟨Vn k.lt ev.size,λq=>sc.roFr c q X,k.fr,?_,?_⟩
    .intro E b' y' L n Y;rcases t E with⟨R,rfl⟩|⟨d1,d2⟩
     .rw[hσ']at L;rw[F]at n;cases V:H1[R]? with
      |none=>rw[V]at n;simp at n
      |some u=>
       rw[V]at n;simp at n;subst n;rintro rfl;exact(sc.own R c u L V (by rw[QI]at Y;exact Y)).2.2 X
     .rw[B E d1 d2]at n;rw[XT (by omega)]at L;exact k.ne E b' y' L n Y
    .intro E b' y' L n Y;rcases t E with⟨R,rfl⟩|⟨d1,d2⟩
     .rw[hσ']at L;rw[F]at n;cases V:H1[R]? with
      |none=>rw[V]at n;simp at n
      |some u=>
       rw[V]at n;simp at n;subst n;exact((sc.hid R b' u c L V ((Qai _ _ _ _ _).1 Y)).fr X).elim
     .rw[B E d1 d2]at n;rw[XT (by omega)]at L;exact k.one E b' y' L n (af E b' y' c d1 d2 L n Y).1
 have ar:VR aa (σ++τ) w' (YI (rho π H.length) rr) v:=(QgE hσ').2 hv;have hk:=k rr H1 hq;cases d with
 |none=>
  simp only[hd,Act.put];have r':Rel fr aa (σ++τ) (Yr H π (H1.map (Q4 (rho π H.length)))) env N a w':=⟨ai,λs=>(r.env s).mono (W.ext σ τ),r.size,r.defers.keep W⟩;exact⟨_,rfl,Yx (λe a w q=>q.step W (QW (by omega))) _ _ _ (hk rd fr aa (σ++τ) _ w' r' (hrd.to W λ_ q=>q))⟩
 |some d=>
  simp only[hd,Act.put];have an:=hN d rfl;have r':Rel fr aa (σ++τ) (Yr H π (H1.map (Q4 (rho π H.length)))) (up env d (YI (rho π H.length) rr)) N {a with tmps:=a.tmps.setIfInBounds d v} w':=
   ⟨ai,VR.up (fr:=fr) (λs=>(r.env s).mono (W.ext σ τ)) (by rw[r.size];exact an) ar,by simpa using r.size,r.defers.keep W⟩
  exact⟨_,rfl,Yx (λe a w q=>q.step W (QW (by omega))) _ _ _ (hk rd fr aa (σ++τ) _ w' r' (hrd.to W λ_ q=>q))⟩
end Go.Sw
namespace Go.Sw
section
variable {P:Program}{o:Oper}{env:Env}{H:Qc}
theorem Q2{fr ro:Nat->Prop}{σ:Sig}{N:Nat}{a:Act}{w:World}(r:Rel fr ro σ H env N a w){x:Operand}{k:IntKind}{n:Int}(h:opA env x=.int k n):a.eval x=.int k n:=by
 have:=Qj r x;rw[h]at this;exact this
theorem Qa4{fr ro:Nat->Prop}{σ:Sig}{N:Nat}{a:Act}{w:World}(r:Rel fr ro σ H env N a w){x:Operand}{b:Bool}(h:opA env x=.bool b):a.eval x=.bool b:=by
 have:=Qj r x;rw[h]at this;exact this
theorem QdO{fr ro:Nat->Prop}{σ:Sig}{N:Nat}{a:Act}{w:World}(r:Rel fr ro σ H env N a w){x:Operand}{s:List UInt8}(h:opA env x=.str s):a.eval x=.string ⟨s.toArray⟩:=by
 have:=Qj r x;rw[h]at this;exact this
theorem OpV.move{x:Operand}{v:A}(ho:o.op=.move x)(hx:opA env x=v):OpV P o env H v:=
 λfr ro σ N a w r=>⟨a.eval x,by simp[execOp,ho,go_sem],hx▸Qj r x⟩
theorem OpV.assign{x:Operand}{v:A}(ho:o.op=.assign x)(hx:opA env x=v):OpV P o env H v:=
 λfr ro σ N a w r=>⟨a.eval x,by simp[execOp,ho,go_sem],hx▸Qj r x⟩
theorem OpV.pick{c x y:Operand}{b:Bool}{v:A}(f:o.op=.pick c x y)(d:opA env c=.bool b)(g:(if b then opA env x else opA env y)=v):OpV P o env H v:=by
 intro h i σ N a w r;have e:=Qa4 r d;refine⟨if b then a.eval x else a.eval y,by generalize a.eval=ρ at*;simp[execOp,f,e,asBool,go_sem],?_⟩;subst g;cases b
 .exact Qj r y
 .exact Qj r x
theorem OpV.add{t u:TypeId}{x y:Operand}{k:IntKind}{m n:Int}(e:o.op=.binOp .add t x y u)(g:opA env x=.int k m)(f:opA env y=.int k n):OpV P o env H (.int k (k.wrap (m+n))):=by
 intro h i σ N a w r;have b:=Q2 r g;have d:=Q2 r f;refine⟨_,?_,rfl⟩;generalize a.eval=ρ at*;simp[execOp,e,b,d,Go.binOp,eqGuard,Op.intArith,go_sem]
theorem OpV.sub{t u:TypeId}{x y:Operand}{k:IntKind}{m n:Int}(e:o.op=.binOp .sub t x y u)(g:opA env x=.int k m)(f:opA env y=.int k n):OpV P o env H (.int k (k.wrap (m-n))):=by
 intro h i σ N a w r;have b:=Q2 r g;have d:=Q2 r f;refine⟨_,?_,rfl⟩;generalize a.eval=ρ at*;simp[execOp,e,b,d,Go.binOp,eqGuard,Op.intArith,go_sem]
theorem OpV.mul{t u:TypeId}{x y:Operand}{k:IntKind}{m n:Int}(e:o.op=.binOp .mul t x y u)(g:opA env x=.int k m)(f:opA env y=.int k n):OpV P o env H (.int k (k.wrap (m*n))):=by
 intro h i σ N a w r;have b:=Q2 r g;have d:=Q2 r f;refine⟨_,?_,rfl⟩;generalize a.eval=ρ at*;simp[execOp,e,b,d,Go.binOp,eqGuard,Op.intArith,go_sem]
theorem Qb0{op:BinOp}{t u:TypeId}{x y:Operand}{k:IntKind}{m n:Int}{f:Int->Int->Bool}(h:o.op=.binOp op t x y u)(j:opA env x=.int k m)(i:opA env y=.int k n)
  (d:op=.eql/\f=(λa b=>a==b)\/op=.neq/\f=(λa b=>a != b)\/op=.lss/\f=(λa b=>decide (a<b))\/op=.leq/\f=(λa b=>decide (a<=b))\/
   op=.gtr/\f=(λa b=>decide (b<a))\/op=.geq/\f=(λa b=>decide (b<=a))):OpV P o env H (.bool (f m n)):=by
 intro p l σ N a w r;have e:=Q2 r j;have g:=Q2 r i;refine⟨_,?_,rfl⟩;generalize a.eval=ρ at*;rcases d with⟨rfl,rfl⟩|⟨rfl,rfl⟩|⟨rfl,rfl⟩|⟨rfl,rfl⟩|⟨rfl,rfl⟩|⟨rfl,rfl⟩<;>simp[execOp,h,e,g,Go.binOp,eqGuard,Op.intCmp,go_sem]
theorem OpV.eql{t u:TypeId}{x y:Operand}{k:IntKind}{m n:Int}(ho:o.op=.binOp .eql t x y u)(hx:opA env x=.int k m)(hy:opA env y=.int k n):OpV P o env H (.bool (m==n)):=
 Qb0 (f:=λa b=>a==b) ho hx hy (by simp)
theorem OpV.neq{t u:TypeId}{x y:Operand}{k:IntKind}{m n:Int}(ho:o.op=.binOp .neq t x y u)(hx:opA env x=.int k m)(hy:opA env y=.int k n):OpV P o env H (.bool (m != n)):=
 Qb0 (f:=λa b=>a != b) ho hx hy (by simp)
theorem OpV.lss{t u:TypeId}{x y:Operand}{k:IntKind}{m n:Int}(ho:o.op=.binOp .lss t x y u)(hx:opA env x=.int k m)(hy:opA env y=.int k n):OpV P o env H (.bool (decide (m<n))):=
 Qb0 (f:=λa b=>decide (a<b)) ho hx hy (by simp)
theorem OpV.leq{t u:TypeId}{x y:Operand}{k:IntKind}{m n:Int}(ho:o.op=.binOp .leq t x y u)(hx:opA env x=.int k m)(hy:opA env y=.int k n):OpV P o env H (.bool (decide (m<=n))):=
 Qb0 (f:=λa b=>decide (a<=b)) ho hx hy (by simp)
theorem OpV.gtr{t u:TypeId}{x y:Operand}{k:IntKind}{m n:Int}(ho:o.op=.binOp .gtr t x y u)(hx:opA env x=.int k m)(hy:opA env y=.int k n):OpV P o env H (.bool (decide (n<m))):=
 Qb0 (f:=λa b=>decide (b<a)) ho hx hy (by simp)
theorem OpV.geq{t u:TypeId}{x y:Operand}{k:IntKind}{m n:Int}(ho:o.op=.binOp .geq t x y u)(hx:opA env x=.int k m)(hy:opA env y=.int k n):OpV P o env H (.bool (decide (n<=m))):=
 Qb0 (f:=λa b=>decide (b<=a)) ho hx hy (by simp)
theorem OpV.rem{t u:TypeId}{x y:Operand}{k:IntKind}{m n:Int}(f:o.op=.binOp .rem t x y u)(h:opA env x=.int k m)(g:opA env y=.int k n)(d:n≠0):OpV P o env H (.int k (m.tmod n)):=by
 intro j i σ N a w r;have b:=Q2 r h;have e:=Q2 r g;exact⟨_,by generalize a.eval=ρ at*;simp[execOp,f,b,e,Go.binOp,eqGuard,Op.intDiv,d,go_sem],rfl⟩
theorem OpV.quo{t u:TypeId}{x y:Operand}{k:IntKind}{m n:Int}(f:o.op=.binOp .quo t x y u)(h:opA env x=.int k m)(g:opA env y=.int k n)(d:n≠0):OpV P o env H (.int k (k.wrap (m.tdiv n))):=by
 intro j i σ N a w r;have b:=Q2 r h;have e:=Q2 r g;exact⟨_,by generalize a.eval=ρ at*;simp[execOp,f,b,e,Go.binOp,eqGuard,Op.intDiv,d,go_sem],rfl⟩
theorem OpV.not{t:TypeId}{x:Operand}{b:Bool}(e:o.op=.unOp .not t x)(f:opA env x=.bool b):OpV P o env H (.bool !b):=by
 intro g h σ N a w r;have d:=Qa4 r f;exact⟨_,by generalize a.eval=ρ at*;simp[execOp,e,d,Op.unary,go_sem],rfl⟩
theorem OpV.neg{t:TypeId}{x:Operand}{k:IntKind}{n:Int}(d:o.op=.unOp .neg t x)(e:opA env x=.int k n):OpV P o env H (.int k (k.wrap (0-n))):=by
 intro f g σ N a w r;have b:=Q2 r e;exact⟨_,by generalize a.eval=ρ at*;simp[execOp,d,b,Op.unary,Op.intArith,go_sem],rfl⟩
theorem Qfa{s t:TypeId}{x:Operand}{k f:IntKind}{n:Int}{b:TypeDesc}(h:o.op=.convert s t x)(e:∀w,(underlying s).run P w=.ok b w)(g:∀w,(underlying t).run P w=.ok (.int k) w)
  (i:opA env x=.int f n):OpV P o env H (.int k (k.wrap n)):=by
 intro l j σ N a w r;have d:=Q2 r i;refine⟨_,?_,rfl⟩;generalize a.eval=ρ at*;cases b<;>simp[execOp,h,d,convert,e,g,Conv.intToInt,go_sem]
theorem Qdk{op:BinOp}{t u:TypeId}{x y:Operand}{p q:List UInt8}{f:List UInt8->List UInt8->Bool}(j:o.op=.binOp op t x y u)(h:opA env x=.str p)(k:opA env y=.str q)
  (d:op=.eql/\f=(λa b=>a==b)\/op=.neq/\f=(λa b=>a != b)\/op=.lss/\f=Op.bytesLess\/op=.geq/\f=(λa b=> !Op.bytesLess a b)\/
   op=.leq/\f=(λa b=>Op.bytesLess a b||a==b)\/op=.gtr/\f=(λa b=> !(Op.bytesLess a b||a==b))):OpV P o env H (.bool (f p q)):=by
 intro n m σ N a w r;have e:=QdO r h;have i:=QdO r k;refine⟨_,?_,rfl⟩;generalize a.eval=ρ at*;have g:(⟨p.toArray⟩:ByteArray).toList=p:=by rw[Go.ByteArray.toList_eq]
 have l:(⟨q.toArray⟩:ByteArray).toList=q:=by rw[Go.ByteArray.toList_eq]
 rcases d with⟨rfl,rfl⟩|⟨rfl,rfl⟩|⟨rfl,rfl⟩|⟨rfl,rfl⟩|⟨rfl,rfl⟩|⟨rfl,rfl⟩<;>simp[execOp,j,e,i,Go.binOp,eqGuard,Op.stringOp,g,l,go_sem,bne]
theorem QkC{t u:TypeId}{x y:Operand}{p q:List UInt8}(ho:o.op=.binOp .eql t x y u)(hx:opA env x=.str p)(hy:opA env y=.str q):OpV P o env H (.bool (p==q)):=
 Qdk (f:=λa b=>a==b) ho hx hy (by simp)
theorem Qkz{t u:TypeId}{x y:Operand}{p q:List UInt8}(ho:o.op=.binOp .neq t x y u)(hx:opA env x=.str p)(hy:opA env y=.str q):OpV P o env H (.bool (p != q)):=
 Qdk (f:=λa b=>a != b) ho hx hy (by simp)
theorem QkA{t u:TypeId}{x y:Operand}{p q:List UInt8}(ho:o.op=.binOp .lss t x y u)(hx:opA env x=.str p)(hy:opA env y=.str q):OpV P o env H (.bool (Op.bytesLess p q)):=
 Qdk ho hx hy (by simp)
theorem QkB{t:TypeId}{x y:Operand}{s:List UInt8}{k:IntKind}{n:Int}{c:UInt8}(l:o.op=.index t x y)(j:∀w,(underlying t).run P w=.ok .string w)(p:opA env x=.str s)(m:opA env y=.int k n)
  (h0:0<=n)(i:s[n.toNat]?=some c):OpV P o env H (.int .u8 c.toNat):=by
 intro u q σ N a w r;have f:=QdO r p;have h:=Q2 r m;have e:(⟨s.toArray⟩:ByteArray)[n.toNat]?=some c:=by
  obtain⟨b,g⟩:=XS.1 i;have d:(⟨s.toArray⟩:ByteArray).size=s.length:=by simp[ByteArray.size]
  rw[getElem?_pos _ _ (by rw[d];exact b)];show some (s.toArray[n.toNat]'(by simpa using b))=some c;simp[g]
 refine⟨_,?_,rfl⟩;generalize a.eval=ρ at*;simp[execOp,l,f,h,Instr.index,asIntOf,j,h0,e,go_sem]
theorem YL{c:Call}{t:TypeId}{x:Operand}{s:List UInt8}(f:o.op=.call c)(e:c={callee:=.builtin .len,args:= #[x],argTypes:= #[t]})(b:∀w,(underlying t).run P w=.ok .string w)
  (g:opA env x=.str s):OpV P o env H (.int .i64 s.length):=by
 intro h i σ N a w r;have d:=QdO r g;refine⟨_,?_,rfl⟩;generalize a.eval=ρ at*;subst e;simp[execOp,f,d,resolve,invoke,Go.builtin,Builtin.len_,b,goInt,go_sem]<;>rfl
theorem Qmz{c:Call}{t e:TypeId}{x:Operand}{k:Nat}{es:List (List A)}(h:o.op=.call c)(d:c={callee:=.builtin .len,args:= #[x],argTypes:= #[t]})(g:∀w,(underlying t).run P w=.ok (.slice e) w)
  (i:opA env x=.rsl k es):OpV P o env H (.int .i64 es.length):=by
 intro m l σ N a w r;have b:=Qj r x;rw[i]at b;obtain⟨j,f,b,_⟩:=b;refine⟨_,?_,rfl⟩;generalize a.eval=ρ at*;subst d;simp[execOp,h,b,resolve,invoke,Go.builtin,Builtin.len_,g,goInt,go_sem]
theorem QmA{c:Call}{t e:TypeId}{x:Operand}{i s n k:Nat}(j:o.op=.call c)(f:c={callee:=.builtin .len,args:= #[x],argTypes:= #[t]})(h:∀w,(underlying t).run P w=.ok (.slice e) w)
  (l:opA env x=.osl i s n k):OpV P o env H (.int .i64 n):=by
 intro u q σ N a w r;have d:=Qj r x;rw[l]at d;refine⟨_,?_,rfl⟩;generalize a.eval=ρ at*;subst f;rcases d with⟨rfl,d⟩|⟨b,p,g,y,m,_,d,_⟩<;>
 simp[execOp,j,d,resolve,invoke,Go.builtin,Builtin.len_,h,goInt,go_sem]
theorem QhU{c:Call}{t e:TypeId}{x:Operand}(g:o.op=.call c)(f:c={callee:=.builtin .len,args:= #[x],argTypes:= #[t]})(d:∀w,(underlying t).run P w=.ok (.slice e) w)
  (h:opA env x=.nils):OpV P o env H (.int .i64 0):=by
 intro i j σ N a w r;have b:=Qj r x;rw[h]at b;simp only[VR]at b;refine⟨_,?_,rfl⟩;generalize a.eval=ρ at*;subst f;simp[execOp,g,b,resolve,invoke,Go.builtin,Builtin.len_,d,goInt,go_sem]
structure Jt (P:Program) (T f off n:Nat):Prop where
 h:∃fs fd,(∀w,(underlying T).run P w=.ok (.struct fs) w)/\fs[f]?=some fd/\fd.offset=off/\(∀w,(sizeOf fd.type).run P w=.ok n w)/\n≠0
theorem Qao(b off n:Nat):(⟨b,off,none⟩:Addr).add n=⟨b,off+n,none⟩:=by
 unfold Addr.add;split
 .rename_i h;simp[h]
 .rfl
theorem Qdo{T f off n b p:Nat}(e:Jt P T f off n)(w:World):(Instr.fieldAt T (.pointer (some ⟨b,p,none⟩)) f).run P w=.ok (.pointer (some ⟨b,p+off,none⟩)) w:=by
 obtain⟨k,j,a,g,rfl,d,i⟩:=e.h;simp[Instr.fieldAt,a,g,Instr.sureAddr,fieldPlace,d,i,Qao,go_sem]
theorem Qcm{T f off n i p:Nat}{x:Operand}(e:Jt P T f off n)(h:o.op=.fieldAddr T x f)(j:opA env x=.ptr i p):OpV P o env H (.ptr i (p+off)):=by
 intro k l σ N a w r;have d:=Qj r x;rw[j]at d;obtain⟨b,d,g⟩:=d;refine⟨.pointer (some ⟨b,p+off,none⟩),?_,b,d,rfl⟩;generalize a.eval=ρ at*;simp only[execOp,h,g,Vu,Qdo e];rfl
theorem CR.drop{ro:Nat->Prop}{σ:Sig}{w:World}{b:Nat}:∀(n:Nat) {cs:List A}{off:Nat},CR ro σ w b cs off->CR ro σ w b (cs.drop n) (off+n)
 |0,_,_,h=>h
 |n+1,[],_,h=>trivial
 |n+1,c::cs,off,h=>by
  have:=CR.drop n h.2;rw[List.drop_succ_cons];rw[show off+(n+1)=off+1+n from by omega];exact this
theorem CR.take{ro:Nat->Prop}{σ:Sig}{w:World}{b:Nat}:∀(n:Nat) {cs:List A}{off:Nat},CR ro σ w b cs off->CR ro σ w b (cs.take n) off
 |0,_,_,h=>trivial
 |n+1,[],_,h=>trivial
 |n+1,c::cs,off,h=>⟨h.1,CR.take n h.2⟩
theorem Qe9{T f off n:Nat}{x:Operand}{cs cs':List A}(g:Jt P T f off n)(j:o.op=.fieldAddr T x f)(k:opA env x=.rp cs)(e:cs.drop off=cs'):OpV P o env H (.rp cs'):=by
 intro m l σ N a w r;have d:=Qj r x;rw[k]at d;obtain⟨b,p,d,h,i⟩:=d;refine⟨.pointer (some ⟨b,p+off,none⟩),?_,b,p+off,rfl,h,e▸i.drop off⟩;generalize a.eval=ρ at*;simp only[execOp,j,d,Vu,Qdo g];rfl
theorem RR.get{ro:Nat->Prop}{σ:Sig}{w:World}{b k:Nat}:∀(n:Nat) {es:List (List A)}{off:Nat}{c:List A},RR ro σ w b k es off->es[n]?=some c->c.length=k/\CR ro σ w b c (off+n*k)
 |n,[],_,_,h,hc=>by simp at hc
 |0,e::es,off,c,h,hc=>by
  simp at hc;subst hc;exact⟨h.1,by simpa using h.2.1⟩
 |n+1,e::es,off,c,h,hc=>by
  have:=RR.get n h.2.2 (by simpa using hc);refine⟨this.1,?_⟩;rw[show off+(n+1)*k=off+k+n*k from by rw[Xm];omega];exact this.2
theorem QnE{t e:TypeId}{x y:Operand}{k:Nat}{es:List (List A)}{u:IntKind}{n:Int}{c:List A}(B:o.op=.indexAddr t x y)(q:∀w,(underlying t).run P w=.ok (.slice e) w)
  (l:∀w,(sizeOf e).run P w=.ok k w)(F:opA env x=.rsl k es)(E:opA env y=.int u n)(h0:0<=n)(h:es[n.toNat]?=some c):OpV P o env H (.rp c):=by
 intro L M σ N a w r;have f:=Qj r x;rw[F]at f;have m:=Q2 r E;obtain⟨G,p,f,J,j⟩:=f;have g:n.toNat<es.length:=(XS.1 h).1;rcases j with rfl|⟨b,d,rfl,s,i⟩
 .simp at g
 have z:n<es.length:=by omega
 refine⟨.pointer (some ⟨b,d+n.toNat*k,none⟩),?_,b,d+n.toNat*k,rfl,s,(i.get n.toNat h).2⟩;generalize a.eval=ρ at*;simp[execOp,B,f,m,Instr.indexAt,asIntOf,q,l,h0,z,Qao,go_sem]
theorem QnF{t e:TypeId}{x y:Operand}{i s m k:Nat}{f:IntKind}{n:Int}(E:o.op=.indexAddr t x y)(B:∀w,(underlying t).run P w=.ok (.slice e) w)
  (h:∀w,(sizeOf e).run P w=.ok k w)(F:opA env x=.osl i s m k)(j:opA env y=.int f n)(h0:0<=n)(u:n<m):OpV P o env H (.ptr i (s*k+n.toNat*k)):=by
 intro M L σ N a w r;have d:=Qj r x;rw[F]at d;have l:=Q2 r j;rcases d with⟨rfl,_⟩|⟨b,p,z,J,G,q,d,g,O,_⟩
 .omega
 obtain rfl:=g (by omega);refine⟨.pointer (some ⟨b,s*k+n.toNat*k,none⟩),?_,b,q,rfl⟩;generalize a.eval=ρ at*;simp[execOp,E,d,l,Instr.indexAt,asIntOf,B,h,h0,u,Qao,go_sem]
def Pts(H:Qc)(p:A)(cs:List A):Prop:=
 ∀fr ro σ w v,Sim fr ro σ H w->VR ro σ w p v->∃b off,v=.pointer (some ⟨b,off,none⟩)/\CR ro σ w b cs off
theorem VR.lift{ro:Nat->Prop}{σ:Sig}{w:World}{a:A}{v:Value}(h:VR ro [] w a v):VR ro σ w a v:=
 h.mono ⟨λ_ q=>q,λ_ _=>rfl,λ_ _ q=>q,λi b q=>by simp at q⟩
theorem CR.lift{ro:Nat->Prop}{σ:Sig}{w:World}{b:Nat}:∀{cs:List A}{off:Nat},CR ro [] w b cs off->CR ro σ w b cs off
 |[],_,_=>trivial
 |c::cs,off,⟨⟨v,h1,hp,h2⟩,h3⟩=>⟨⟨v,h1,hp,h2.lift⟩,CR.lift h3⟩
theorem LR.lift{ro:Nat->Prop}{σ:Sig}{w:World}:∀{cs:List A}{l:List Value},LR ro [] w cs l->LR ro σ w cs l
 |[],_,h=>h
 |c::cs,l,⟨v,l',h1,h2,h3⟩=>⟨v,l',h1,h2.lift,LR.lift h3⟩
theorem Pts.rp{cs:List A}:Pts H (.rp cs) cs:=λfr ro σ w v s ⟨b,off,h1,h2,h3⟩=>⟨b,off,h1,h3.lift⟩
theorem LR.cells{ro:Nat->Prop}{σ:Sig}{w:World}{b t:Nat}{fz:Nat×Nat}{pre l:List Value}(d:w.heap[b]?=some (.cells (pre++l).toArray t fz))(a:∀v∈l,Qz v):
  ∀{cs:List A},LR ro σ w cs l->CR ro σ w b cs pre.length:=by
 induction l generalizing pre with
 |nil=>
  intro cs h;cases cs with
  |nil=>trivial
  |cons c cs=>obtain⟨v,f,h,_⟩:=h;cases h
 |cons v l g=>
  intro cs h;cases cs with
  |nil=>trivial
  |cons c cs=>
   obtain⟨m,f,e,i,j⟩:=h;cases e;refine⟨⟨v,by simp[World.cell?,d],a v (by simp),i⟩,?_⟩;have:=g (pre:=pre++[v]) (by simpa using d) (λx k=>a x (by simp[k])) j;simpa using this
theorem Pts.cells{i off t:Nat}{cs cs':List A}(k:H[i]?=some (.cells t cs))(a:cs.drop off=cs'):Pts H (.ptr i off) cs':=by
 intro n m σ w v s h;obtain⟨b,e,j⟩:=h;obtain⟨l,g,d,f⟩:=s.blk i _ _ e k;have:=LR.cells (pre:=[]) (by simpa using g) f d;refine⟨b,off,j,a▸ ?_⟩;have:=this.drop off;simpa using this
theorem LR.get{ro:Nat->Prop}{σ:Sig}{w:World}:∀{az:List A}{l:List Value} (i:Nat) {a:A},LR ro σ w az l->az[i]?=some a->∃v,l[i]?=some v/\VR ro σ w a v
 |[],l,i,a,h,ha=>by simp at ha
 |x::az,l,0,a,⟨v,l',h1,h2,h3⟩,ha=>by
  simp at ha;subst ha h1;exact⟨v,rfl,h2⟩
 |x::az,l,i+1,a,⟨v,l',h1,h2,h3⟩,ha=>by
  subst h1;obtain⟨v',q1,q2⟩:=LR.get i h3 (by simpa using ha);exact⟨v',by simpa using q1,q2⟩
theorem LR.drop{ro:Nat->Prop}{σ:Sig}{w:World}:∀(n:Nat) {az:List A}{l:List Value},LR ro σ w az l->LR ro σ w (az.drop n) (l.drop n)
 |0,az,l,h=>h
 |n+1,[],l,h=>by cases(show l=[]from h);rfl
 |n+1,a::az,l,⟨v,l',h1,h2,h3⟩=>by subst h1;exact LR.drop n h3
theorem LR.take{ro:Nat->Prop}{σ:Sig}{w:World}:∀(n:Nat) {az:List A}{l:List Value},LR ro σ w az l->LR ro σ w (az.take n) (l.take n)
 |0,az,l,h=>rfl
 |n+1,[],l,h=>by cases(show l=[]from h);rfl
 |n+1,a::az,l,⟨v,l',h1,h2,h3⟩=>by subst h1;exact⟨v,l'.take n,rfl,h2,LR.take n h3⟩
theorem LR.append{ro:Nat->Prop}{σ:Sig}{w:World}:∀{az:List A}{l:List Value}{bs:List A}{m:List Value},LR ro σ w az l->LR ro σ w bs m->LR ro σ w (az++bs) (l++m)
 |[],l,bs,m,h,k=>by cases(show l=[]from h);exact k
 |a::az,l,bs,m,⟨v,l',h1,h2,h3⟩,k=>by subst h1;exact⟨v,l'++m,rfl,h2,LR.append h3 k⟩
theorem QjB{ro:Nat->Prop}{σ:Sig}{w:World}{b t:Nat}{fz:Nat×Nat}:∀{cs:List A}{pre l post:List Value},w.heap[b]?=some (.cells (pre++(l++post)).toArray t fz)->(∀v∈l,Qz v)->
  LR ro σ w cs l->CR ro σ w b cs pre.length
 |[],_,_,_,_,_,_=>trivial
 |c::cs,pre,l,post,hb,hpl,⟨v,l',h1,h2,h3⟩=>by
  subst h1;refine⟨⟨v,by simp[World.cell?,hb],hpl v (by simp),h2⟩,?_⟩;have:=QjB (pre:=pre++[v]) (l:=l') (post:=post) (by simpa using hb) (λx hx=>hpl x (by simp[hx])) h3;simpa using this
theorem Js{ro:Nat->Prop}{σ:Sig}{w:World}{b t k:Nat}{fz:Nat×Nat}:∀{es:List (List A)}{pre l:List Value},w.heap[b]?=some (.cells (pre++l).toArray t fz)->
  RL ro σ w k es l->RR ro σ w b k es pre.length
 |[],_,_,_,_=>trivial
 |c::es,pre,l,hb,⟨l1,l2,h1,h2,h3,h4⟩=>by
  subst h1;refine⟨h2,QjB hb h3.2 h3.1,?_⟩;have hl:=h3.1.length;have:=Js (pre:=pre++l1) (l:=l2) (by simpa using hb) h4;simpa[hl,h2]using this
theorem Pts.row{i off t k e f:Nat}{es:List (List A)}{c cs':List A}(n:H[i]?=some (.row t k es))(p:off=e*k+f)(he:es[e]?=some c)(a:c.drop f=cs'):Pts H (.ptr i off) cs':=by
 intro r q σ w v s h;obtain⟨b,g,m⟩:=h;obtain⟨l,j,d⟩:=s.blk i _ _ g n;have:=((Js (pre:=[]) (by simpa using j) d).get e he).2.drop f;refine⟨b,off,m,?_⟩;subst p a;simpa using this.lift
theorem Qkn{w w':World}(h:w'.heap=w.heap)(a:Addr):w'.cell? a=w.cell? a:=by unfold World.cell?;rw[h]
theorem YH{ro:Nat->Prop}{σ:Sig}{w:World}{b off:Nat}:∀{cs:List A} (i:Nat),CR ro σ w b cs (off+i)->
  ∃l,LR ro σ w cs l/\(∀v∈l,Qz v)/\ ∀(w':World) (a:Array Value),w'.heap=w.heap->(loadCellsFrom ⟨b,off,none⟩ i cs.length a).run P w'=.ok (a++l.toArray) w'
 |[],i,h=>⟨[],rfl,by simp,λw' a _=>by simp[loadCellsFrom,go_sem]⟩
 |c::cs,i,⟨⟨v,h1,hp,h2⟩,h3⟩=>by
  obtain⟨l,q1,qp,q2⟩:=YH (cs:=cs) (i+1) (by rw[<- Nat.add_assoc];exact h3);refine⟨v::l,⟨v,l,rfl,h2,q1⟩,by simpa using⟨hp,qp⟩,λw' a hw=>?_⟩;have h1':w'.cell? ⟨b,off+i,none⟩=some v:=by rw[Qkn hw];exact h1
  have:=q2 w' (a.push v) hw;simp[loadCellsFrom,Go.load,Sem.run,Qao,h1',this,go_sem]
theorem QR{t n:Nat}{x:Operand}{p:A}{cs vs:List A}(u:o.op=.load t x)(y:∀w,(isAgg t).run P w=.ok true w)(g:∀w,(sizeOf t).run P w=.ok n w)(z:opA env x=p)(q:Pts H p cs)
  (f:cs.take n=vs)(j:vs.length=n):OpV P o env H (.agg vs):=by
 intro s h σ N a w r;have e:=Qj r x;rw[z]at e;obtain⟨b,off,k,m⟩:=q s h σ w _ r.sim e;subst f;obtain⟨l,i,_,d⟩:=YH (P:=P) (cs:=cs.take n) (off:=off) 0 (by simpa using m.take n);have d:=d w #[] rfl;rw[j]at d;refine⟨.agg l.toArray,?_,l,rfl,i⟩;generalize a.eval=ρ at*;simp[execOp,u,k,Instr.loadAt,Instr.sureAddr,loadVar,y,g,loadCells,d,go_sem]
theorem OpV.load{t:Nat}{x:Operand}{p v:A}{cs:List A}(l:o.op=.load t x)(m:∀w,(isAgg t).run P w=.ok false w)(n:opA env x=p)(j:Pts H p (v::cs)):OpV P o env H v:=by
 intro k g σ N a w r;have d:=Qj r x;rw[n]at d;obtain⟨b,e,h,⟨y,i,_,f⟩,_⟩:=j k g σ w _ r.sim d;refine⟨y,?_,f⟩;generalize a.eval=ρ at*;simp[execOp,l,h,Instr.loadAt,Instr.sureAddr,loadVar,m,Go.load,Sem.run,i,go_sem]
theorem OpV.extract{x:Operand}{vs:List A}{i:Nat}{v:A}(h:o.op=.extract x i)(j:opA env x=.tup vs)(e:vs[i]?=some v):OpV P o env H v:=by
 intro m k σ N a w r;have b:=Qj r x;rw[j]at b;obtain⟨l,b,f⟩:=b;obtain⟨y,g,d⟩:=f.get i e;refine⟨y,?_,d⟩;generalize a.eval=ρ at*;simp[execOp,h,b,Instr.extract,g,go_sem]
theorem Qbc{fr ro:Nat->Prop}{σ:Sig}{N:Nat}{a:Act}{w:World}(r:Rel fr ro σ H env N a w):∀(l:List Operand),LR ro σ w (l.map (opA env)) (l.map a.eval)
 |[]=>rfl
 |x::l=>⟨_,_,rfl,Qj r x,Qbc r l⟩
theorem OpV.makeFunc{f:Fn}{first cap:List Operand}{vf vc:List A}(e:o.op=.makeFunc f first.toArray cap.toArray)(b:first.map (opA env)=vf)(d:cap.map (opA env)=vc):OpV P o env H (.fn f vf vc):=by
 intro g h σ N a w r;refine⟨.func f (first.map a.eval).toArray (cap.map a.eval).toArray,?_,_,_,rfl,b▸Qbc r first,d▸Qbc r cap⟩;generalize a.eval=ρ at*;simp[execOp,e,Instr.makeFunc,go_sem]
theorem Qaq{t:TypeId}{x:Operand}{v:A}{d:TypeDesc}(g:o.op=.makeInterface t x)(e:∀w,(underlying t).run P w=.ok d w)(f:∀m,d≠ .interface m)(h:opA env x=v):OpV P o env H (.iface t v):=by
 intro i j σ N a w r;have b:=Qj r x;rw[h]at b;refine⟨.iface t (a.eval x),?_,_,rfl,b⟩;generalize a.eval=ρ at*;cases d<;>first|(simp[execOp,g,Instr.makeInterface,e,go_sem];done)|exact(f _ rfl).elim
end
end Go.Sw
namespace Go.Sw
mutual
def Yq:A->Bool
 |.ptr _ _=>false
 |.osl _ _ _ _=>false
 |.map _=>false
 |.agg cs=>Yt cs
 |.fn _ a c=>Yt a&&Yt c
 |.iface _ v=>Yq v
 |.tup vs=>Yt vs
 |_=>true
def Yt:List A->Bool
 |[]=>true
 |a::r=>Yq a&&Yt r
end
mutual
theorem VR.data{ro:Nat->Prop}{σ σ':Sig}{w:World}:∀{a:A}{v:Value},Yq a=true->VR ro σ w a v->VR ro σ' w a v
 |.any,_,_,_=>trivial
 |.bool b,v,_,q=>q
 |.int k n,v,_,q=>q
 |.str s,v,_,q=>q
 |.nilp,v,_,q=>q
 |.ptr i off,v,d,q=>by simp[Yq]at d
 |.rp cs,v,_,q=>q
 |.nils,v,_,q=>q
 |.rsl k es,v,_,q=>q
 |.osl i o n k,v,d,q=>by simp[Yq]at d
 |.agg cs,v,d,q=>by
  simp only[VR,Yq]at q d⊢;obtain⟨l,h1,h2⟩:=q;exact⟨l,h1,LR.data d h2⟩
 |.fn f a c,v,d,q=>by
  simp only[VR,Yq,X4]at q d⊢;obtain⟨l,l',h1,h2,h3⟩:=q;exact⟨l,l',h1,LR.data d.1 h2,LR.data d.2 h3⟩
 |.nilf,v,_,q=>q
 |.iface t a,v,d,q=>by
  simp only[VR,Yq]at q d⊢;obtain⟨x,h1,h2⟩:=q;exact⟨x,h1,VR.data d h2⟩
 |.nilif,v,_,q=>q
 |.map i,v,d,q=>by simp[Yq]at d
 |.nilm,v,_,q=>q
 |.tup vs,v,d,q=>by
  simp only[VR,Yq]at q d⊢;obtain⟨l,h1,h2⟩:=q;exact⟨l,h1,LR.data d h2⟩
theorem LR.data{ro:Nat->Prop}{σ σ':Sig}{w:World}:∀{az:List A}{l:List Value},Yt az=true->LR ro σ w az l->LR ro σ' w az l
 |[],_,_,q=>q
 |a::r,l,d,q=>by
  simp only[LR,Yt,X4]at q d⊢;obtain⟨v,l',h1,h2,h3⟩:=q;exact⟨v,l',h1,VR.data d.1 h2,LR.data d.2 h3⟩
end
def YF:A->Bool
 |.any|.agg _|.tup _=>false
 |_=>true
def Yj:A->List A
 |.agg cs=>cs
 |a=>[a]
def Yu:A->Bool
 |.any=>false
 |_=>true
theorem VR.plain{ro:Nat->Prop}{σ:Sig}{w:World}{a:A}{v:Value}(b:YF a=true)(h:VR ro σ w a v):Qz v:=by
 cases a<;>first|(simp[YF]at b;done)|skip
 case rsl k es=>obtain⟨d,c,rfl,_⟩:=h;trivial
 case osl=>rcases h with⟨_,rfl⟩|⟨_,_,_,_,_,_,rfl,_⟩<;>trivial
 case fn=>obtain⟨_,_,rfl,_⟩:=h;trivial
 case iface=>obtain⟨_,rfl,_⟩:=h;trivial
 case ptr=>obtain⟨_,_,rfl⟩:=h;trivial
 case rp=>obtain⟨_,_,rfl,_⟩:=h;trivial
 case map=>obtain⟨_,_,rfl⟩:=h;trivial
 all_goals (simp only[VR]at h;subst h;trivial)
theorem VR.cells{ro:Nat->Prop}{σ:Sig}{w:World}{a:A}{v:Value}(b:Yu a=true)(h:VR ro σ w a v):∃l:List Value,v.cells=l.toArray/\LR ro σ w (Yj a) l:=by
 cases a
 case any=>simp[Yu]at b
 case agg cs=>obtain⟨l,rfl,h⟩:=h;exact⟨l,rfl,h⟩
 case tup cs=>obtain⟨l,rfl,h⟩:=h;exact⟨[.tuple l.toArray],rfl,_,_,rfl,⟨l,rfl,h⟩,rfl⟩
 all_goals
  have d:=h.plain rfl;refine⟨[v],?_,v,[],rfl,h,rfl⟩;cases v<;>first|rfl|exact d.elim
theorem LR.plain{ro:Nat->Prop}{σ:Sig}{w:World}:∀{az:List A}{l:List Value},az.all YF=true->LR ro σ w az l->∀v∈l,Qz v
 |[],l,_,h=>by cases(show l=[]from h);simp
 |a::az,l,hp,⟨v,l',h1,h2,h3⟩=>by
  subst h1;simp only[List.all_cons,X4]at hp;intro x hx;rcases Ve.1 hx with rfl|hx
  .exact h2.plain hp.1
  .exact LR.plain hp.2 h3 x hx
theorem Yz(w:World)(obj:Obj)(b:Nat)(a:b<w.heap.size):(w.alloc obj).heap[b]?=w.heap[b]? :=by
 show(w.heap.push obj)[b]?=_;rw[Array.getElem?_push,if_neg (by omega)]
theorem YU(w:World)(obj:Obj):(w.alloc obj).heap[w.heap.size]?=some obj:=by
 show(w.heap.push obj)[w.heap.size]?=_;simp
theorem Yy(w:World)(obj:Obj):(w.alloc obj).heap.size=w.heap.size+1:=by
 show(w.heap.push obj).size=_;simp
theorem Qcr{w:World}{b:Nat}{x:TypeId×Nat}(h:w.shape? b=some x):b<w.heap.size:=by
 unfold World.shape? at h;rcases Nat.lt_or_ge b w.heap.size with q|q
 .exact q
 .rw[Array.getElem?_eq_none q]at h;simp at h
theorem Qi.alloc{fr ro:Nat->Prop}{w:World}(obj:Obj)(hro:∀b,ro b->b<w.heap.size)(hfr:∀b,fr b->b<w.heap.size):Qi fr ro w ro (w.alloc obj):=
 ⟨λ_ h=>h,λb h=>Yz w obj b (hro b h),λb h=>Yz w obj b (hfr b h),by rw[Yy];omega,
  λb x h=>by unfold World.shape? at h⊢;rw[Yz w obj b (Qcr h)];exact h,rfl,rfl,rfl,X0 _⟩
section
variable {P:Program}{o:Oper}{env:Env}{H:Qc}{fr ro:Nat->Prop}{σ:Sig}{w:World}
theorem Sim.alloc(s:Sim fr ro σ H w){obj:Obj}{x:Blk}(G:BR ro (σ++[some w.heap.size]) (w.alloc obj) x (some w.heap.size))
  (u:∀c,Hid (w.alloc obj) x w.heap.size c->False:=by exact λ_ h=>h.elim):
  Sim fr ro (σ++[some w.heap.size]) (H++[x]) (w.alloc obj):=by
 have ev:Qi fr ro w ro (w.alloc obj):=Qi.alloc obj s.roLt s.frLt;have n:=s.len;have e:∀(i:Nat) (y:Option Nat),(σ++[some w.heap.size])[i]?=some y->(i<σ.length/\σ[i]?=some y)\/(i=σ.length/\y=some w.heap.size):=by
  intro i y h;rcases Nat.lt_trichotomy i σ.length with q|q|q
  .rw[XT q]at h;exact .inl ⟨q,h⟩
  .subst q;simp at h;exact .inr ⟨rfl,h.symm⟩
  .rw[XV (by simp;omega)]at h;simp at h
 have l:∀i:Nat,i<σ.length->(H++[x])[i]?=H[i]? :=λi L=>XT (by omega);have F:(H++[x])[σ.length]?=some x:=by rw[n];simp
 refine⟨by simp[n],s.roOk.to (λ_ q=>q) ev.keepRo (λb h=>?_),λb h=>?_,s.roFr,?_,?_,?_,?_⟩
 .rw[Yy];have:=s.roLt b h;omega
 .rw[Yy];have:=s.frLt b h;omega
 .intro i b y f g p;rw[Yy];rcases e i _ f with⟨q,f⟩|⟨rfl,k⟩
  .rw[l i q]at g;obtain⟨a,b,c⟩:=s.own i b y f g p;exact⟨by omega,b,c⟩
  .cases k;exact⟨by omega,λq=>by have:=s.roLt _ q;omega,λq=>by have:=s.frLt _ q;omega⟩
 .intro i j b y z f g p t E B;rcases e i _ f with⟨q,f⟩|⟨rfl,k⟩<;>rcases e j _ g with⟨q',g⟩|⟨rfl,e2⟩
  .rw[l i q]at p;rw[l j q']at t;exact s.inj i j b y z f g p t E B
  .cases e2;rw[l i q]at p;have:=(s.own i _ y f p E).1;omega
  .cases k;rw[l j q']at t;have:=(s.own j _ z g t B).1;omega
  .rfl
 .intro i y z f g;rcases e i _ f with⟨q,f⟩|⟨rfl,k⟩
  .rw[l i q]at g;refine(s.blk i y z f g).keep (ev.ext σ _) ?_ ?_
   .rintro b rfl n;exact Yz w obj b (s.own i b z f g n).1
   .rintro b c rfl n;exact Yz w obj c (s.hid i b z c f g n).lt
  .rw[F]at g;cases g;subst k;exact G
 .refine s.hidTo (· = ·) Q8 (by rw[Yy];omega) (λ_ _ _ _ _ _ _ q=>q) (λ_ _ _ _ _ _ _ q=>q) λj d y r m J=>?_;rcases e j _ r with⟨q,r⟩|⟨rfl,k⟩
  .rw[l j q]at m;exact .inl ⟨j,y,rfl,r,m,id,λc q=>s.hidKeep r m (λz=>Yz w obj d (s.own j d y r m z).1) ev.keepRo q⟩
  .rw[F]at m;cases m;cases k;exact .inr ⟨X0 _,u⟩
theorem Sim.allocCells(s:Sim fr ro σ H w){t:Nat}{cs:List A}{l:List Value}(h:LR ro σ w cs l)(hp:∀v∈l,Qz v):
  Sim fr ro (σ++[some w.heap.size]) (H++[.cells t cs]) (w.alloc (.cells l.toArray t)):=
 s.alloc ⟨l,YU _ _,h.mono ((Qi.alloc (fr:=fr) _ s.roLt s.frLt).ext σ _),hp⟩
theorem Qh1{ro:Nat->Prop}{σ:Sig}{w:World}:∀{az bs:List A}{l:List Value},LR ro σ w (az++bs) l->∃l1 l2,l=l1++l2/\LR ro σ w az l1/\LR ro σ w bs l2
 |[],bs,l,h=>⟨[],l,rfl,rfl,h⟩
 |a::az,bs,l,⟨v,l',h1,h2,h3⟩=>by
  obtain⟨l1,l2,e,q1,q2⟩:=Qh1 h3;subst h1 e;exact⟨v::l1,l2,rfl,⟨v,l1,rfl,h2,q1⟩,q2⟩
def allK(k:Nat):List (List A)->Prop
 |[]=>True
 |c::es=>c.length=k/\allK k es
theorem QaF{k:Nat}:∀{es:List (List A)}{l rest:List Value},allK k es->LR ro σ w es.flatten l->(∀v∈l,Qz v)->RL ro σ w k es (l++rest)
 |[],_,_,_,_,_=>trivial
 |c::es,l,rest,⟨h1,h2⟩,h,hp=>by
  rw[Vt]at h;obtain⟨l1,l2,rfl,q1,q2⟩:=Qh1 h;exact⟨l1,l2++rest,by simp,h1,⟨q1,λv hv=>hp v (by simp[hv])⟩,QaF h2 q2 (λv hv=>hp v (by simp[hv]))⟩
theorem Sim.allocRow(s:Sim fr ro σ H w){t k:Nat}{es:List (List A)}{l rest:List Value}(hk:allK k es)(h:LR ro [] w es.flatten l)(hp:∀v∈l,Qz v):
  Sim fr ro (σ++[some w.heap.size]) (H++[.row t k es]) (w.alloc (.cells (l++rest).toArray t)):=
 s.alloc ⟨l++rest,YU _ _,(QaF hk h hp).mono ((Qi.alloc (fr:=fr) _ s.roLt s.frLt).ext0 [])⟩
theorem OpH.box{t:Nat}{x:Operand}{v:A}{cs:List A}(k:o.op=.box t x)(m:opA env x=v)(h:Yu v=true)(d:Yj v=cs)(b:cs.all YF=true):
  OpH P o env H (.ptr H.length 0) (H++[.cells t cs]):=by
 intro n i σ N a w r;have f:=Qj r x;rw[m]at f;obtain⟨l,j,g⟩:=f.cells h;subst d;refine⟨.pointer (some ⟨w.heap.size,0,none⟩),w.alloc (.cells l.toArray t),i,[some w.heap.size],?_,⟨w.heap.size,?_,rfl⟩,r.sim.allocCells g (g.plain b),Qi.alloc _ r.sim.roLt r.sim.frLt⟩
 .generalize a.eval=ρ at*;have e:(newVar t (ρ x)).run P w=.ok ⟨w.heap.size,0,none⟩ (w.alloc (.cells l.toArray t)):=by
   unfold newVar;rw[j];rfl
  simp only[execOp,k,Instr.box,Vu,e];rfl
 .rw[<- r.sim.len];simp
theorem Sim.set(s:Sim fr ro σ H w){i b:Nat}{x x':Blk}{obj:Obj}(hσ:σ[i]?=some (some b))(m:H[i]?=some x)(r:x.live=true)
  (P:∀y,w.shape? b=some y->({w with heap:=w.heap.setIfInBounds b obj}:World).shape? b=some y)
  (N:Ext ro σ w ro σ {w with heap:=w.heap.setIfInBounds b obj}->({w with heap:=w.heap.setIfInBounds b obj}:World).heap[b]?=some obj->BR ro σ {w with heap:=w.heap.setIfInBounds b obj} x' (some b))
  (Q:∀c,Hid {w with heap:=w.heap.setIfInBounds b obj} x' b c->Hid w x b c:=by exact λ_ h=>h.elim):
  Sim fr ro σ (H.set i x') {w with heap:=w.heap.setIfInBounds b obj}/\Qi fr ro w ro {w with heap:=w.heap.setIfInBounds b obj}:=by
 obtain⟨T,p,n⟩:=s.own i b x hσ m r;have g:∀c,c≠b->({w with heap:=w.heap.setIfInBounds b obj}:World).heap[c]?=w.heap[c]? :=by
  intro c Y;show(w.heap.setIfInBounds b obj)[c]?=_;rw[Vm,if_neg (λq=>Y q.symm)]
 have O:({w with heap:=w.heap.setIfInBounds b obj}:World).heap[b]?=some obj:=by
  show(w.heap.setIfInBounds b obj)[b]?=_;rw[Vm,if_pos rfl,if_pos T]
 have l:({w with heap:=w.heap.setIfInBounds b obj}:World).heap.size=w.heap.size:=by simp
 have ev:Qi fr ro w ro {w with heap:=w.heap.setIfInBounds b obj}:=
  ⟨λ_ h=>h,λc h=>g c (λq=>p (q▸h)),λc h=>g c (λq=>n (q▸h)),by rw[l];exact X0 _,by
   intro c y h;by_cases q:c=b
   .subst q;exact P y h
   .unfold World.shape? at h⊢;rw[g c q];exact h,rfl,rfl,rfl,X0 _⟩
 have X:i<H.length:=(XS.1 m).1;have G:(H.set i x')[i]?=some x':=Xa X;have k:∀j,j≠i->(H.set i x')[j]?=H[j]? :=λj hj=>XW (λq=>hj q.symm);have J:=N (ev.ext0 σ) O;refine⟨⟨by rw[Vb];exact s.len,s.roOk.to (λ_ q=>q) ev.keepRo (λc h=>by rw[l];exact s.roLt c h),λc h=>by rw[l];exact s.frLt c h,s.roFr,?_,?_,?_,?_⟩,ev⟩
 .intro j c y f a F;rw[l];by_cases q:j=i
  .subst q;rw[hσ]at f;cases f;exact⟨T,p,n⟩
  .rw[k j q]at a;exact s.own j c y f a F
 .intro j t c y z f a F M V R;by_cases q:j=i
  .subst q;rw[hσ]at f;cases f;by_cases L:t=j
   .exact L.symm
   .rw[k t L]at M;exact s.inj j t _ x z hσ a m M r R
  .rw[k j q]at F;by_cases L:t=i
   .subst L;rw[hσ]at a;cases a;exact s.inj j t _ y x f hσ F m V r
   .rw[k t L]at M;exact s.inj j t c y z f a F M V R
 .intro j y z f a;by_cases q:j=i
  .subst q;rw[G]at a;cases a;rw[hσ]at f;cases f;exact J
  .rw[k j q]at a;refine(s.blk j y z f a).keep (ev.ext0 σ) ?_ ?_
   .rintro c rfl u;exact g c (λe=>q (s.inj j i b z x (e▸f) hσ a m u r))
   .rintro c d rfl W;exact g d ((s.hid j c z d f a W).ne i b x hσ m r)
 .refine s.hidTo (· = ·) Q8 (by rw[l];exact X0 _) (λ_ _ _ _ _ _ _ q=>q) (λ_ _ _ _ _ _ _ q=>q) λj d y E B g3=>.inl ?_;by_cases q:j=i
  .subst q;rw[G]at B;cases B;rw[hσ]at E;cases E;exact⟨j,x,rfl,hσ,m,λ_=>r,Q⟩
  .rw[k j q]at B;exact⟨j,y,rfl,E,B,id,λc z=>s.hidKeep E B (λu=>g d (λe=>q (s.inj j i b y x (e▸E) hσ B m u r))) ev.keepRo z⟩
def splice{α:Type}(l:List α)(o:Nat)(vs:List α):List α:=l.take o++vs++l.drop (o+vs.length)
theorem Yw{α:Type}{l:List α}{o:Nat}{vs:List α}(h:o+vs.length<=l.length):(splice l o vs).length=l.length:=by
 simp[splice];omega
theorem QbW{h:Array Obj}{b:Nat}{f:Obj->Obj}{x:Obj}(d:h[b]?=some x):h.modify b f=h.setIfInBounds b (f x):=by
 apply Array.ext_getElem?;intro i;rw[Array.getElem?_modify,Vm];by_cases e:b=i
 .subst e;obtain⟨a,g⟩:=Vk.1 d;simp[g,a]
 .simp[e]
theorem YS{b t:Nat}:∀{vs l:List Value}{w:World} (off i:Nat),w.heap[b]?=some (.cells l.toArray t (0,0))->off+i+vs.length<=l.length->(∀v∈vs,Qz v)->
  (storeCells ⟨b,off,none⟩ vs i).run P w=.ok () {w with heap:=w.heap.setIfInBounds b (.cells (splice l (off+i) vs).toArray t (0,0))}
 |[],l,w,off,i,hb,hl,hp=>by
  have e:w.heap.setIfInBounds b (.cells (splice l (off+i) []).toArray t (0,0))=w.heap:=by
   apply Array.ext_getElem?;intro j;rw[Vm];by_cases q:b=j
   .subst q;obtain⟨a,s⟩:=Vk.1 hb;simp[a,splice,s]
   .rw[if_neg q]
  rw[e];simp[storeCells,go_sem]
 |v::vs,l,w,off,i,hb,hl,hp=>by
  simp only[X8]at hl;have n:=hp v (by simp);have y:w.cell? ⟨b,off+i,none⟩=some l[off+i]:=by
   simp[World.cell?,hb]
  have f:w.frozen? ⟨b,off+i,none⟩=false:=by
   simp[World.frozen?,hb]
  have d:w.setCell ⟨b,off+i,none⟩ v={w with heap:=w.heap.setIfInBounds b (.cells (splice l (off+i) [v]).toArray t (0,0))}:=by
   unfold World.setCell;rw[QbW hb];simp only[Option.isSome_none,Xj,if_false];congr 3;have:l.toArray.setIfInBounds (off+i) v=(l.set (off+i) v).toArray:=by simp
   rw[this];congr 1;rw[List.set_eq_take_append_cons_drop,if_pos (by omega)];simp[splice]
  have a:b<w.heap.size:=by
   rcases Nat.lt_or_ge b w.heap.size with q|q
   .exact q
   .rw[Array.getElem?_eq_none q]at hb;simp at hb
  have k:=YS (vs:=vs) (l:=splice l (off+i) [v]) (w:={w with heap:=w.heap.setIfInBounds b (.cells (splice l (off+i) [v]).toArray t (0,0))}) off (i+1)
   (by show(w.heap.setIfInBounds b _)[b]?=_;rw[Vm,if_pos rfl,if_pos a])
   (by rw[Yw (by simp;omega)];omega) (λx B=>hp x (by simp[B]))
  have r:splice (splice l (off+i) [v]) (off+(i+1)) vs=splice l (off+i) (v::vs):=by
   have h:(l.take (off+i)).length=off+i:=by simp;omega
   unfold splice;rw[Vq (l.take (off+i))];have z:off+(i+1)=(l.take (off+i)).length+1:=by omega
   have m:(l.take (off+i)++([v]++l.drop (off+i+[v].length))).take ((l.take (off+i)).length+1)=l.take (off+i)++[v]:=by
    rw[Vj];simp
   have u:(l.take (off+i)++([v]++l.drop (off+i+[v].length))).drop ((l.take (off+i)).length+1+vs.length)=l.drop (off+i+(v::vs).length):=by
    rw[show(l.take (off+i)).length+1+vs.length=(l.take (off+i)).length+(1+vs.length)from by omega,Vi];simp[Nat.add_comm 1];congr 1;omega
   rw[z,m,u];simp
  have p:(w.heap.setIfInBounds b (.cells (splice l (off+i) [v]).toArray t (0,0))).setIfInBounds b (.cells (splice (splice l (off+i) [v]) (off+(i+1)) vs).toArray t (0,0))=
    w.heap.setIfInBounds b (.cells (splice l (off+i) (v::vs)).toArray t (0,0)):=by
   rw[r,Array.setIfInBounds_setIfInBounds]
  rw[p]at k;have g:(Go.store ⟨b,off+i,none⟩ v).run P w=.ok () {w with heap:=w.heap.setIfInBounds b (.cells (splice l (off+i) [v]).toArray t (0,0))}:=by
   rw[<- d];cases v<;>first|exact n.elim|simp[Go.store,Sem.run,y,f,go_sem]
  simp only[storeCells,Qao,Vu,g];exact k
theorem Qa2{w:World}{b t:Nat}{l l':List Value}(d:w.heap[b]?=some (.cells l.toArray t (0,0)))(e:l'.length=l.length)(y:TypeId×Nat)(h:w.shape? b=some y):
  ({w with heap:=w.heap.setIfInBounds b (.cells l'.toArray t (0,0))}:World).shape? b=some y:=by
 have a:b<w.heap.size:=by
  rcases Nat.lt_or_ge b w.heap.size with q|q
  .exact q
  .rw[Array.getElem?_eq_none q]at d;simp at d
 unfold World.shape? at h⊢;rw[d]at h;simp at h;subst h;show(match(w.heap.setIfInBounds b (.cells l'.toArray t (0,0)))[b]? with|some (.cells c elem _)=>some (elem,c.size)|_=>none)=_;rw[Vm,if_pos rfl,if_pos a];simp[e]
theorem LR.splice{ro:Nat->Prop}{σ:Sig}{w:World}{az vs:List A}{l m:List Value}(off:Nat)(h:LR ro σ w az l)(k:LR ro σ w vs m):LR ro σ w (Sw.splice az off vs) (Sw.splice l off m):=by
 unfold Sw.splice;rw[k.length];exact((h.take off).append k).append (h.drop _)
theorem Qem{l m:List Value}{off:Nat}(h:∀v∈l,Qz v)(k:∀v∈m,Qz v):∀v∈Sw.splice l off m,Qz v:=by
 intro v a;simp only[Sw.splice,List.mem_append]at a;rcases a with(a|a)|a
 .exact h v (List.mem_of_mem_take a)
 .exact k v a
 .exact h v (List.mem_of_mem_drop a)
theorem OpU.store{t n i off T:Nat}{x y:Operand}{cs vs cs':List A}{v:A}(ho:o.op=.store t x y)(hx:opA env x=.ptr i off)(G:H[i]?=some (.cells T cs))(Q:∀w,(sizeOf t).run P w=.ok n w)
  (B:opA env y=v)(O:Yu v=true)(R:Yj v=vs)(W:vs.length=n)(L:vs.all YF=true)(f:Nat.ble (off+n) cs.length=true)(q:splice cs off vs=cs'):
  OpU P o env H (H.set i (.cells T cs')):=by
 intro fr X σ N a w r;have j:=Qj r x;rw[hx]at j;obtain⟨b,j,V⟩:=j;have F:=Qj r y;rw[B]at F;obtain⟨m,E,h⟩:=F.cells O;rw[R]at h;obtain⟨l,J,k,M⟩:=r.sim.blk i _ _ j G;have u:off+n<=cs.length:=by simpa using f
 have p:m.length=n:=by rw[h.length,W]
 have g:=YS (P:=P) (vs:=m) off 0 J (by rw[k.length,p];omega) (h.plain L);have d:=r.sim.set (x':=.cells T cs') (obj:=.cells (splice l off m).toArray T (0,0)) j G rfl
  (λy B=>Qa2 J (Yw (by rw[k.length,p];omega)) y B)
  (λe Y=>⟨_,Y,q▸(k.splice off h).mono e,Qem M (h.plain L)⟩)
 refine⟨_,X,[],?_,by simpa using d.1,d.2⟩;generalize a.eval=ρ at*;have z:(ρ y).cells.size=n:=by rw[E];simp[p]
 have s:(storeVar t ⟨b,off,none⟩ (ρ y)).run P w=.ok () {w with heap:=w.heap.setIfInBounds b (.cells (splice l off m).toArray T (0,0))}:=by
  unfold storeVar;rw[Vu,Q];simp only[Result.andThen];rw[if_neg (by simp[z]),E];simpa using g
 simp only[execOp,ho,V,Instr.storeAt,Instr.sureAddr,pure_bind,Vu,s];rfl
theorem RL.splice{ro:Nat->Prop}{σ:Sig}{w:World}{k:Nat}:∀{e:Nat}{es:List (List A)}{l m:List Value}{c a:List A}{f:Nat},RL ro σ w k es l->es[e]?=some c->LR ro σ w a m->(∀v∈m,Qz v)->f+a.length<=k->
  RL ro σ w k (es.set e (Sw.splice c f a)) (Sw.splice l (e*k+f) m)
 |_,[],_,_,_,_,_,_,h,_,_,_=>by simp at h
 |0,c0::es,l,m,c,a,f,⟨l1,l2,h1,h2,h3,h4⟩,hc,hm,hp,hf=>by
  simp at hc;subst hc h1;have hl1:=h3.1.length;refine⟨Sw.splice l1 f m,l2,?_,?_,⟨h3.1.splice f hm,Qem h3.2 hp⟩,h4⟩
  .unfold Sw.splice;simp only[Nat.zero_mul,XB,Vq];rw[Vf (by omega),Vg (by rw[hm.length];omega)]
  .rw[Yw (by omega)];exact h2
 |e+1,c0::es,l,m,c,a,f,⟨l1,l2,h1,h2,h3,h4⟩,hc,hm,hp,hf=>by
  subst h1;have hl1:=h3.1.length;refine⟨l1,Sw.splice l2 (e*k+f) m,?_,h2,h3,RL.splice h4 (by simpa using hc) hm hp hf⟩;have e1:(e+1)*k+f=l1.length+(e*k+f):=by rw[Xm];omega
  unfold Sw.splice;rw[e1,Vj,show l1.length+(e*k+f)+m.length=l1.length+(e*k+f+m.length)from by omega,Vi];simp
theorem RL.length{ro:Nat->Prop}{σ:Sig}{w:World}{k:Nat}:∀{es:List (List A)}{l:List Value},RL ro σ w k es l->es.length*k<=l.length
 |[],l,_=>by simp
 |c::es,l,⟨l1,l2,h1,h2,h3,h4⟩=>by
  subst h1;have:=RL.length h4;have:=h3.1.length;simp only[X8,Va,Xm];omega
theorem QgH{t n i off T k e f:Nat}{x y:Operand}{es g:List (List A)}{c vs W:List A}{v:A}(ho:o.op=.store t x y)(hx:opA env x=.ptr i off)(O:H[i]?=some (.row T k es))(hs:∀w,(sizeOf t).run P w=.ok n w)
  (j:off=e*k+f)(R:es[e]?=some c)(G:opA env y=v)(hk:Yu v=true)(hv:Yj v=vs)(Y:vs.length=n)(V:vs.all YF=true)(hd:Yt vs=true)(hf:Nat.ble (f+n) k=true)
  (u:splice c f vs=W)(s:es.set e W=g):
  OpU P o env H (H.set i (.row T k g)):=by
 intro fr ro σ N a w r;have q:=Qj r x;rw[hx]at q;obtain⟨b,q,h2⟩:=q;have M:=Qj r y;rw[G]at M;obtain⟨m,X,p⟩:=M.cells hk;rw[hv]at p;obtain⟨l,Q,J⟩:=r.sim.blk i _ _ q O;have B:f+n<=k:=by simpa using hf
 have hm:m.length=n:=by rw[p.length,Y]
 have he:e<es.length:=(XS.1 R).1;have L:off+n<=l.length:=by
  have:=J.length;have h6:(e+1)*k<=es.length*k:=XI k he;rw[Xm]at h6;omega
 have h:=YS (P:=P) (vs:=m) off 0 Q (by omega) (p.plain V);have d:=r.sim.set (x':=.row T k g) (obj:=.cells (splice l off m).toArray T (0,0)) q O rfl
  (λy G=>Qa2 Q (Yw (by omega)) y G)
  (λex F=>⟨_,F,by
   subst s u j;exact(J.splice R (p.data hd) (p.plain V) (by rw[Y];exact B)).mono ex.nil⟩)
 refine⟨_,ro,[],?_,by simpa using d.1,d.2⟩;generalize a.eval=ρ at*;have E:(ρ y).cells.size=n:=by rw[X];simp[hm]
 have z:(storeVar t ⟨b,off,none⟩ (ρ y)).run P w=.ok () {w with heap:=w.heap.setIfInBounds b (.cells (splice l off m).toArray T (0,0))}:=by
  unfold storeVar;rw[Vu,hs];simp only[Result.andThen];rw[if_neg (by simp[E]),X];simpa using h
 simp only[execOp,ho,h2,Instr.storeAt,Instr.sureAddr,pure_bind,Vu,z];rfl
end
end Go.Sw
namespace Go.Sw
section
variable {P:Program}{o:Oper}{env:Env}{H:Qc}{fr ro:Nat->Prop}{σ:Sig}{w:World}
theorem Ext.heap{w':World}(h:w'.heap=w.heap):Ext ro σ w ro σ w':=
 ⟨λ_ q=>q,λb _=>by rw[h],λb x q=>by unfold World.shape? at q⊢;rw[h];exact q,λ_ _ q=>q⟩
theorem Sim.heap{w':World}(s:Sim fr ro σ H w)(h:w'.heap=w.heap):Sim fr ro σ H w':=
 ⟨s.len,s.roOk.to (λ_ q=>q) (λb _=>by rw[h]) (λb q=>by rw[h];exact s.roLt b q),λb q=>by rw[h];exact s.frLt b q,s.roFr,λi b x q1 q2 q3=>by rw[h];exact s.own i b x q1 q2 q3,s.inj,
  λi y x q1 q2=>(s.blk i y x q1 q2).keep (Ext.heap h) (λb _ _=>by rw[h]) (λb c _ _=>by rw[h]),
  s.hidTo (· = ·) Q8 (by rw[h];exact X0 _) (λ_ _ _ _ _ _ _ q=>q) (λ_ _ _ _ _ _ _ q=>q) λj d y g1 g2 g3=>.inl ⟨j,y,rfl,g1,g2,id,λc q=>q.keep (by rw[h])⟩⟩
theorem Qi.heap{w':World}(h:w'.heap=w.heap)(ho:w'.os=w.os)(ht:w'.tape=w.tape)(hu:w'.output=w.output)(hd:w.drawn<=w'.drawn):Qi fr ro w ro w':=
 ⟨λ_ q=>q,λb _=>by rw[h],λb _=>by rw[h],by rw[h];exact X0 _,λb x q=>by unfold World.shape? at q⊢;rw[h];exact q,ho,ht,hu,hd⟩
theorem Sim.moved(s:Sim fr ro σ H w){i:Nat}{x:Blk}{y:Option Nat}(p:H[i]?=some x)(hσ:σ[i]?=some y):Sim fr ro (σ++[y]) (H.set i .dead++[x]) w:=by
 have J:=s.len;have P:i<H.length:=(XS.1 p).1;have a:∀(j:Nat) (z:Option Nat) (v:Blk),(σ++[y])[j]?=some z->(H.set i .dead++[x])[j]?=some v->v≠ .dead->
   (j<σ.length/\j≠i/\σ[j]?=some z/\H[j]?=some v)\/(j=σ.length/\z=y/\v=x):=by
  intro j z v g f m;rcases Nat.lt_trichotomy j σ.length with q|q|q
  .rw[XT q]at g;rw[XT (by rw[Vb];omega)]at f;by_cases e:j=i
   .subst e;rw[Xa P]at f;cases f;exact absurd rfl m
   .rw[XW (λq=>e q.symm)]at f;exact .inl ⟨q,e,g,f⟩
  .subst q;have n:(σ++[y])[σ.length]?=some y:=by simp
   have V:(H.set i .dead++[x])[σ.length]?=some x:=by rw[J,show H.length=(H.set i .dead).length from by simp];simp
   rw[n]at g;rw[V]at f;cases g;cases f;exact .inr ⟨rfl,rfl,rfl⟩
  .rw[XV (by simp;omega)]at g;simp at g
 have hσ':∀(j:Nat) (b:Nat),σ[j]?=some (some b)->(σ++[y])[j]?=some (some b):=λj b h=>Jj h;have ext:Ext ro σ w ro (σ++[y]) w:=⟨λ_ q=>q,λ_ _=>rfl,λ_ _ q=>q,hσ'⟩;refine⟨by simp[J],s.roOk,s.frLt,s.roFr,?_,?_,?_,s.hidTo (λj L=>(j<σ.length/\j≠i/\L=j)\/(j=σ.length/\L=i)) (by omega) (X0 _) (λ_ _ _ _ _ _ _ q=>q) (λ_ _ _ _ _ _ _ q=>q) λj d y O T M=>.inl ?_⟩
 rotate_left 3
 .rcases a j _ y O T (Qd0 M)with⟨F,E,l,k⟩|⟨F,n,rfl⟩
  .exact⟨j,y,.inl ⟨F,E,rfl⟩,l,k,id,λ_ q=>q⟩
  .subst n;exact⟨i,y,.inr ⟨F,rfl⟩,hσ,p,id,λ_ q=>q⟩
 .intro j b v g f m;rcases a j _ v g f (Qas m)with⟨_,_,l,k⟩|⟨_,n,rfl⟩
  .exact s.own j b v l k m
  .subst n;exact s.own i b v hσ p m
 .intro j B b v r g f m R u t;rcases a j _ v g m (Qas u)with⟨_,Q,l,k⟩|⟨W,n,N⟩<;>rcases a B _ r f R (Qas t)with⟨_,n1',q1',q2'⟩|⟨r1',e1',r2'⟩
  .exact s.inj j B b v r l q1' k q2' u t
  .subst e1' r2';exact(Q (s.inj j i b v r l hσ k p u t)).elim
  .subst n N;exact(n1' (s.inj B i b r v q1' hσ q2' p t u)).elim
  .rw[W,r1']
 .intro j z v g f;by_cases G:v≠ .dead
  .rcases a j z v g f G with⟨_,_,l,k⟩|⟨_,rfl,rfl⟩
   .exact(s.blk j z v l k).keep ext (λ_ _ _=>rfl) (λ_ _ _ _=>rfl)
   .exact(s.blk i _ _ hσ p).keep ext (λ_ _ _=>rfl) (λ_ _ _ _=>rfl)
  .obtain rfl:v=.dead:=Classical.not_not.1 G;trivial
def Src(P:Program)(H:Qc)(x:A)(k:Nat)(es:List (List A)):Prop:=
 ∀fr ro σ w v,Sim fr ro σ H w->VR ro σ w x v->(∃a c,v=.slice a es.length c)/\allK k es/\
  ∃l,(∀w':World,w'.heap=w.heap->(Builtin.firstCells k es.length v).run P w'=.ok l.toArray w')/\LR ro [] w es.flatten l/\ ∀v∈l,Qz v
theorem RR.flat{b k:Nat}:∀{es:List (List A)}{off:Nat},RR ro σ w b k es off->CR ro σ w b es.flatten off/\allK k es/\es.flatten.length=es.length*k
 |[],off,_=>⟨trivial,trivial,by simp⟩
 |c::es,off,⟨h1,h2,h3⟩=>by
  obtain⟨q1,q2,q3⟩:=RR.flat h3;refine⟨?_,⟨h1,q2⟩,by simp[q3,h1,Xm,Nat.add_comm]⟩;rw[Vt];have:∀(c:List A) (off:Nat) (d:List A),CR ro σ w b c off->CR ro σ w b d (off+c.length)->CR ro σ w b (c++d) off:=by
   intro c
   induction c with
   |nil=>intro off d _ h;simpa using h
   |cons x c a=>intro off d ⟨h1,h2⟩ h;exact⟨h1,a (off+1) d h2 (by rw[Nat.add_assoc,Nat.add_comm 1];simpa using h)⟩
  exact this c off _ h2 (by rw[h1];exact q1)
theorem Qc5{b off k n c:Nat}{cs:List A}(h:CR ro σ w b cs off)(e:cs.length=n*k):
  ∃l,(∀w':World,w'.heap=w.heap->(Builtin.firstCells k n (.slice (some ⟨b,off,none⟩) n c)).run P w'=.ok l.toArray w')/\LR ro σ w cs l/\ ∀v∈l,Qz v:=by
 obtain⟨l,g,d,a⟩:=YH (P:=P) (cs:=cs) (off:=off) 0 (by simpa using h);refine⟨l,λw' f=>?_,g,d⟩;rw[e]at a;simp only[Builtin.firstCells,loadCells];simpa using a w' #[] f
theorem Qad{k c:Nat}{a:Option Addr}:(Builtin.firstCells k 0 (.slice a 0 c)).run P w=.ok #[] w:=by
 cases a<;>simp[Builtin.firstCells,loadCells,loadCellsFrom,go_sem]
theorem Src.rsl{k:Nat}{es:List (List A)}:Src P H (.rsl k es) k es:=by
 intro l j σ w v s ⟨a,c,h1,h2,h3⟩;subst h1;refine⟨⟨a,c,rfl⟩,?_⟩;rcases h3 with rfl|⟨b,f,rfl,i,h⟩
 .exact⟨trivial,[],λ_ _=>Qad,rfl,by simp⟩
 .obtain⟨g,d,e⟩:=h.flat;exact⟨d,Qc5 g e⟩
theorem Src.nils{k:Nat}:Src P H .nils k []:=by
 intro a b σ w v s h;simp only[VR]at h;subst h;exact⟨⟨none,0,rfl⟩,trivial,[],λ_ _=>Qad,rfl,by simp⟩
theorem RR.drop{b k:Nat}:∀(n:Nat) {es:List (List A)}{off:Nat},RR ro σ w b k es off->RR ro σ w b k (es.drop n) (off+n*k)
 |0,_,_,h=>by simpa using h
 |n+1,[],_,_=>trivial
 |n+1,c::es,off,⟨h1,h2,h3⟩=>by
  have:=RR.drop n h3;rw[show off+(n+1)*k=off+k+n*k from by rw[Xm];omega];exact this
theorem RR.take{b k:Nat}:∀(n:Nat) {es:List (List A)}{off:Nat},RR ro σ w b k es off->RR ro σ w b k (es.take n) off
 |0,_,_,h=>trivial
 |n+1,[],_,_=>trivial
 |n+1,c::es,off,⟨h1,h2,h3⟩=>⟨h1,h2,RR.take n h3⟩
theorem Src.osl{i s n k t:Nat}{es a:List (List A)}(z:H[i]?=some (.row t k es))(he:(es.drop s).take n=a)(F:s+n<=es.length):Src P H (.osl i s n k) k a:=by
 intro J G σ w v sm h;have f:a.length=n:=by rw[<- he];simp;omega
 rcases h with⟨rfl,rfl⟩|⟨b,p,d,E,m,u,rfl,x,L,B,M⟩
 .have e:a=[]:=List.length_eq_zero_iff.1 f;subst e;exact⟨⟨none,0,rfl⟩,trivial,[],λ_ _=>Qad,rfl,by simp⟩
 .rw[f];refine⟨⟨_,d,rfl⟩,?_⟩;obtain⟨l,j,g⟩:=sm.blk i _ _ u z;have q:=((Js (pre:=[]) (by simpa using j) g).drop s).take n;rw[he]at q;by_cases y:0<d
  .obtain rfl:=x y;obtain⟨j,g,r⟩:=q.flat;refine⟨g,?_⟩;have:=Qc5 (P:=P) (n:=n) (c:=d) j (by rw[r,f]);simpa using this
  .obtain rfl:n=0:=by omega
   have e:a=[]:=List.length_eq_zero_iff.1 f;subst e;exact⟨trivial,[],λ_ _=>Qad,rfl,by simp⟩
def Q5:Nat:=4294967296
theorem Qbx(n c:Nat)(h:c<n):Builtin.nextslicecap n c<=4*n+1000:=by
 unfold Builtin.nextslicecap;split
 .omega
 .split
  .omega
  .have a:∀(r c:Nat),c<=2*n+400->Builtin.growBy n r c<=4*n+1000:=by
    intro r
    induction r with
    |zero=>intro c b;simp[Builtin.growBy];omega
    |succ r d=>
     intro c b;simp only[Builtin.growBy];split
     .omega
     .exact d _ (by omega)
   exact a 4 c (by omega)
structure Q1 (P:Program) (T e k:Nat):Prop where
 sl:∀w,(underlying T).run P w=.ok (.slice e) w
 size:∀w,(sizeOf e).run P w=.ok k w
 zero:∃z,(∀w,(zeroValue e).run P w=.ok z w)/\z.cells.size=k
 bytes:∃i,(∀w,(typeInfo e).run P w=.ok i w)/\i.bytes<=4096
theorem Qff{T k:Nat}{es:List (List A)}{l rest:List Value}(s:Sim fr ro σ H w)(hk:allK k es)(h:LR ro [] w es.flatten l)(hp:∀v∈l,Qz v):
  Sim fr ro (σ++[some w.heap.size]) (H++[.row T k es]) (w.alloc (.cells (l++rest).toArray T))/\Qi fr ro w ro (w.alloc (.cells (l++rest).toArray T)):=
 ⟨s.allocRow hk h hp,Qi.alloc _ s.roLt s.frLt⟩
theorem Y3{k:Nat}:∀{es:List (List A)},allK k es->es.flatten.length=es.length*k
 |[],_=>by simp
 |c::es,⟨h1,h2⟩=>by simp[Y3 h2,h1,Xm,Nat.add_comm]
theorem QdC{k:Nat}:∀{es fs:List (List A)},allK k es->allK k fs->allK k (es++fs)
 |[],_,_,h=>h
 |c::es,_,⟨h1,h2⟩,h=>⟨h1,QdC h2 h⟩
theorem QfZ{k:Nat}:∀{es:List (List A)} (n:Nat),allK k es->allK k (es.take n)
 |_,0,_=>trivial
 |[],n+1,_=>trivial
 |c::es,n+1,⟨h1,h2⟩=>⟨h1,QfZ n h2⟩
theorem RL.allK{k:Nat}:∀{es:List (List A)}{l:List Value},RL ro σ w k es l->allK k es
 |[],_,_=>trivial
 |c::es,l,⟨l1,l2,h1,h2,h3,h4⟩=>⟨h2,RL.allK h4⟩
theorem RL.app{k:Nat}:∀{n:Nat}{es fs:List (List A)}{l m:List Value},RL ro σ w k es l->n<=es.length->Sw.allK k fs->LR ro σ w fs.flatten m->(∀v∈m,Qz v)->
  RL ro σ w k (es.take n++fs) (Sw.splice l (n*k) m)
 |0,es,fs,l,m,h,hn,hk,hm,hp=>by
  simp only[List.take_zero,Vp,Nat.zero_mul];unfold Sw.splice;simp only[List.take_zero,Vp];exact QaF hk hm hp
 |n+1,[],fs,l,m,h,hn,hk,hm,hp=>by simp at hn
 |n+1,c::es,fs,l,m,⟨l1,l2,h1,h2,h3,h4⟩,hn,hk,hm,hp=>by
  subst h1;have hl1:=h3.1.length;refine⟨l1,Sw.splice l2 (n*k) m,?_,h2,h3,RL.app h4 (by simpa using hn) hk hm hp⟩;have e1:(n+1)*k=l1.length+n*k:=by rw[Xm];omega
  unfold Sw.splice;rw[e1,Vj,show l1.length+n*k+m.length=l1.length+(n*k+m.length)from by omega,Vi];simp
theorem Qlb{T T' e e' k need cap:Nat}{t:TypeId}(E:Q1 P T e k)(G:∀w,(underlying T').run P w=.ok (.slice e') w){ad:Option Addr}{n m c:Nat}{ax:Option Addr}
  (g:need=n+m)(h:cap<need)(d:need<=Q5){old a:List Value}
  (y:∀w':World,w'.heap=w.heap->(Builtin.firstCells k m (.slice ax m c)).run P w'=.ok a.toArray w')(B:∀w':World,w'.heap=w.heap->(Builtin.firstCells k n (.slice ad n cap)).run P w'=.ok old.toArray w'):
  ∃(rest:List Value) (b:Nat),need<=b/\rest.length=(b-need)*k/\(Builtin.append_ #[T,T'] t #[.slice ad n cap,.slice ax m c]).run P w=
   .ok (.slice (some ⟨w.heap.size,0,none⟩) need b) (({w with drawn:=w.drawn+1}:World).alloc (.cells ((old++a)++rest).toArray e)):=by
 obtain⟨z,Q,j⟩:=E.zero;obtain⟨i,N,H⟩:=E.bytes
 let b:=need+w.tape w.drawn (.appendCap need cap e)%(2^63-need)
 refine⟨(Builtin.zeroCells z.cells (b-need)).toList,b,Nat.le_add_right _ _,by simp[Builtin.zeroCells,j],?_⟩;have f:¬(need<=cap):=by omega
 have u:¬((need:Int)>IntKind.i64.max/\(False\/i.bytes=0)):=by
  rintro⟨q,_⟩;have:IntKind.i64.max=9223372036854775807:=by decide
  rw[this]at q;unfold Q5 at d;omega
 have J:¬(Builtin.nextslicecap need cap*i.bytes>2^48):=by
  have:=Qbx need cap h;have s:Builtin.nextslicecap need cap*i.bytes<=(4*need+1000)*4096:=Nat.mul_le_mul this H;unfold Q5 at d;omega
 generalize hF:Builtin.firstCells=F at y B;unfold Builtin.append_;rw[hF];have r:∀W:World,(choose (.appendCap need cap e)).run P W=.ok (need+W.tape W.drawn (.appendCap need cap e)%(2^63-need)) {W with drawn:=W.drawn+1}:=by
  intro W;simp[choose,Sem.run,Question.forced,Question.cut]
 have p:∀(x:Nat) (W:World),(askRoom x).run P W=.ok () W:=by
  intro x W;unfold askRoom;split<;>rfl
 have l:∀(c:Array Value) (W:World),(newRow e c).run P W=.ok ⟨W.heap.size,0,none⟩ (W.alloc (.cells c e)):=λc W=>rfl;subst g;simp only[not_and,false_or]at u;have s:¬(((n+m:Nat):Int)>IntKind.i64.max/\(False\/i.bytes=0)):=by simpa using u
 simp only[XN,XL,XM,Vu,E.sl,E.size,G,N,Q,Result.andThen,Builtin.lenOf,Vv,Xj,if_false,XO,
  Xi,if_true,if_neg f,if_neg s,if_neg J,r,p]
 have O:=B {w with drawn:=w.drawn+1} rfl;have M:=y {w with drawn:=w.drawn+1} rfl;simp only[O,M,l];have L:old.toArray++a.toArray++Builtin.zeroCells z.cells (b-(n+m))=((old++a)++(Builtin.zeroCells z.cells (b-(n+m))).toList).toArray:=by
  apply Array.toList_inj.1;simp
 rw[<- L]
theorem QgX{T T' e e' k cap:Nat}{t:TypeId}(E:Q1 P T e k)(g:∀w,(underlying T').run P w=.ok (.slice e') w){ad:Option Addr}{n m c:Nat}{ax:Option Addr}
  (b:n+m<=cap){d:List Value}(f:(Builtin.firstCells k m (.slice ax m c)).run P w=.ok d.toArray w):
  (Builtin.append_ #[T,T'] t #[.slice ad n cap,.slice ax m c]).run P w=
   match ad with
   |some a=>(do storeCells (a.add (n*k)) d;pure (Value.slice ad (n+m) cap):Sem Value).run P w
   |none=>.ok (.slice ad (n+m) cap) w:=by
 generalize hF:Builtin.firstCells=F at f;unfold Builtin.append_;rw[hF];simp only[XN,XL,XM,Vu,E.sl,E.size,g,Result.andThen,Builtin.lenOf,Vv,Xj,if_false,XO,
  Xi,if_true,if_pos b,f]
 cases ad with
 |none=>rfl
 |some a=>simp only[Vu,Result.andThen,Vv]
theorem Sim.weaken(s:Sim fr ro σ H w){i:Nat}{x x':Blk}(l:H[i]?=some x)(L:x.live=true)(r:∀y,BR ro σ w x y->BR ro σ w x' y)
  (F:∀b c,Hid w x' b c->Hid w x b c:=by exact λ_ _ h=>h.elim):Sim fr ro σ (H.set i x') w:=by
 have O:i<H.length:=(XS.1 l).1;have p:(H.set i x')[i]?=some x':=Xa O;have E:∀j,j≠i->(H.set i x')[j]?=H[j]? :=λj V=>XW (λq=>V q.symm);have a:∀(j:Nat) (v:Blk),(H.set i x')[j]?=some v->(j=i/\v=x')\/(j≠i/\H[j]?=some v):=by
  intro j v h;by_cases e:j=i
  .subst e;rw[p]at h;cases h;exact .inl ⟨rfl,rfl⟩
  .rw[E j e]at h;exact .inr ⟨e,h⟩
 have G:∀(j:Nat) (v:Blk),(H.set i x')[j]?=some v->v.live=true->∃f,H[j]?=some f/\f.live=true:=by
  intro j v h N;rcases a j v h with⟨rfl,rfl⟩|⟨_,h⟩
  .exact⟨x,l,L⟩
  .exact⟨v,h,N⟩
 refine⟨by rw[Vb];exact s.len,s.roOk,s.frLt,s.roFr,?_,?_,?_,s.hidTo (· = ·) Q8 (X0 _) (λ_ _ _ _ _ _ _ q=>q) (λ_ _ _ _ _ _ _ q=>q) λj d y J R X=>.inl ?_⟩
 rotate_left 3
 .rcases a j y R with⟨rfl,rfl⟩|⟨_,h⟩
  .exact⟨j,x,rfl,J,l,λ_=>L,λc q=>F d c q⟩
  .exact⟨j,y,rfl,J,h,id,λ_ q=>q⟩
 .intro j b v g k n;obtain⟨f,t,m⟩:=G j v k n;exact s.own j b f g t m
 .intro j M b v f g k n Q T P;obtain⟨u,t,m⟩:=G j v n T;obtain⟨W,B,z⟩:=G M f Q P;exact s.inj j M b u W g k t B m z
 .intro j y v g k;rcases a j v k with⟨rfl,rfl⟩|⟨_,h⟩
  .exact r y (s.blk j y x g l)
  .exact s.blk j y v g h
theorem RL.take{k:Nat}:∀(n:Nat) {es:List (List A)}{l:List Value},RL ro σ w k es l->RL ro σ w k (es.take n) l
 |0,_,_,_=>trivial
 |n+1,[],_,_=>trivial
 |n+1,c::es,l,⟨l1,l2,h1,h2,h3,h4⟩=>⟨l1,l2,h1,h2,h3,RL.take n h4⟩
theorem QaQ{c:Call}{T T':TypeId}{x y:Operand}(a:o.op=.call c)(b:c={callee:=.builtin .append,args:= #[x,y],argTypes:= #[T,T']})(ρ:Operand->Value){v:Value}{w':World}
  (h:(Builtin.append_ #[T,T'] o.type #[ρ x,ρ y]).run P w=.ok v w'):(execOp ρ o).run P w=.ok (.value v) w':=by
 subst b;simp only[execOp,a,resolve,invoke,Go.builtin,Vu,Vv,Result.andThen];simp only[XP,Vr,Vs,h]
theorem Sim.phantom(s:Sim fr ro σ H w)(t k:Nat):Sim fr ro (σ++[none]) (H++[.row t k []]) w:=by
 have g:=s.len;have f:∀(i b:Nat),(σ++[none])[i]?=some (some b)->i<σ.length:=by
  intro i b a;rcases Nat.lt_or_ge i σ.length with q|q
  .exact q
  .rw[XU q]at a;cases m:i-σ.length with
   |zero=>rw[m]at a;simp at a
   |succ j=>rw[m]at a;simp at a
 refine⟨by simp[g],s.roOk,s.frLt,s.roFr,?_,?_,?_,s.hidTo (· = ·) Q8 (X0 _) (λ_ _ _ _ _ _ _ q=>q) (λ_ _ _ _ _ _ _ q=>q) λj d y a e l=>.inl ?_⟩
 rotate_left 3
 .have q:=f j d a;rw[XT q]at a;rw[XT (by omega)]at e;exact⟨j,y,rfl,a,e,id,λ_ q=>q⟩
 .intro i b z a e l;have q:=f i b a;rw[XT q]at a;rw[XT (by omega)]at e;exact s.own i b z a e l
 .intro i j b z x a e l n r B;have p:=f i b a;have E:=f j b e;rw[XT p]at a;rw[XT E]at e;rw[XT (by omega)]at l n;exact s.inj i j b z x a e l n r B
 .intro i y z a e;have ext:Ext ro σ w ro (σ++[none]) w:=⟨λ_ q=>q,λ_ _=>rfl,λ_ _ q=>q,λ_ _ h=>Jj h⟩;rcases Nat.lt_trichotomy i σ.length with q|q|q
  .rw[XT q]at a;rw[XT (by omega)]at e;exact(s.blk i y z a e).keep ext (λ_ _ _=>rfl) (λ_ _ _ _=>rfl)
  .subst q;have u:(σ++[none])[σ.length]?=some none:=by simp
   have F:(H++[Blk.row t k []])[σ.length]?=some (.row t k []):=by rw[g];simp
   rw[u]at a;rw[F]at e;cases a;cases e;rfl
  .rw[XV (by simp;omega)]at a;simp at a
theorem Sim.kill(s:Sim fr ro σ H w)(i:Nat):Sim fr ro σ (H.set i .dead) w:=by
 have a:∀(j:Nat) (v:Blk),(H.set i .dead)[j]?=some v->v≠ .dead->H[j]?=some v:=by
  intro j v h k;by_cases e:j=i
  .subst e;rw[Xb]at h;simp only[if_true]at h;split at h
   .cases h;exact absurd rfl k
   .simp at h
  .rw[XW (λq=>e q.symm)]at h;exact h
 refine⟨by rw[Vb];exact s.len,s.roOk,s.frLt,s.roFr,?_,?_,?_,s.hidTo (· = ·) Q8 (X0 _) (λ_ _ _ _ _ _ _ q=>q) (λ_ _ _ _ _ _ _ q=>q) λj d y z x t=>.inl ⟨j,y,rfl,z,a j y x (Qd0 t),id,λ_ q=>q⟩⟩
 .intro j b v f g l;exact s.own j b v f (a j v g (Qas l)) l
 .intro j p b v n f g l u r m;exact s.inj j p b v n f g (a j v l (Qas r)) (a p n u (Qas m)) r m
 .intro j y v f g;by_cases k:v≠ .dead
  .exact s.blk j y v f (a j v g k)
  .obtain rfl:v=.dead:=Classical.not_not.1 k;trivial
theorem grown{c:Call}{T T' e e' k n m cap cx:Nat}{x y:Operand}{es fs:List (List A)}{a:Act}{ad ax:Option Addr}{old b:List Value}(E:Q1 P T e k)(V:∀w,(underlying T').run P w=.ok (.slice e') w)(ho:o.op=.call c)
  (hc:c={callee:=.builtin .append,args:= #[x,y],argTypes:= #[T,T']})(h1:a.eval x=.slice ad n cap)(W:a.eval y=.slice ax m cx)(s:Sim fr ro σ H w)(l:cap<n+m)(j:n+m<=Q5)
  (p:∀w':World,w'.heap=w.heap->(Builtin.firstCells k n (.slice ad n cap)).run P w'=.ok old.toArray w')(f:∀w':World,w'.heap=w.heap->(Builtin.firstCells k m (.slice ax m cx)).run P w'=.ok b.toArray w')
  (r:LR ro [] w es.flatten old)(B:∀v∈old,Qz v)(g:allK k es)(i:LR ro [] w fs.flatten b)(M:∀v∈b,Qz v)(u:allK k fs)(z:es.length=n)(J:fs.length=m):
  ∃v w' ro' τ,(execOp a.eval o).run P w=.ok (.value v) w'/\VR ro' (σ++τ) w' (.osl H.length 0 (n+m) k) v/\Sim fr ro' (σ++τ) (H++[.row e k (es++fs)]) w'/\Qi fr ro w ro' w':=by
 obtain⟨rest,R,F,L,h⟩:=Qlb (t:=o.type) E V rfl l j f p
 let w0:World:={w with drawn:=w.drawn+1}
 have s0:Sim fr ro σ H w0:=s.heap rfl;have Y:Qi fr ro w ro w0:=Qi.heap rfl rfl rfl rfl (Nat.le_succ _);have G:LR ro [] w0 (es++fs).flatten (old++b):=by
  rw[Xv];exact(r.append i).mono (Ext.heap (w:=w) (w':=w0) rfl)
 obtain⟨X,e1⟩:=Qff (T:=e) (rest:=rest) s0 (QdC g u) G (λv Q=>by rcases List.mem_append.1 Q with q|q;exact B v q;exact M v q);have d:(execOp a.eval o).run P w=.ok (.value _) _:=QaQ ho hc a.eval (by rw[h1,W];exact h);refine⟨_,_,ro,[some w.heap.size],d,.inr ⟨w.heap.size,0,R,e,(old++b++rest).length,?_,rfl,λ_=>by simp,F,?_,?_⟩,X,Y.trans e1⟩
 .rw[<- s.len];simp
 .have:=YU w0 (.cells ((old++b)++rest).toArray e);unfold World.shape?;rw[show w.heap.size=w0.heap.size from rfl,this];simp
 .have O:=r.length;have N:=i.length;rw[Y3 g]at O;rw[Y3 u]at N;simp only[Va,L,O,N,z,J,XB];rw[<- XG, <- XG];exact XI k (by omega)
theorem QhX{c:Call}{T T' e e' k i n:Nat}{x y:Operand}{ya:A}{es fs gs:List (List A)}(E:Q1 P T e k)(hd:∀w,(underlying T').run P w=.ok (.slice e') w)(ho:o.op=.call c)
  (X:c={callee:=.builtin .append,args:= #[x,y],argTypes:= #[T,T']})(hx:opA env x=.osl i 0 n k)(R:H[i]?=some (.row e k es))(hn:n<=es.length)(F:opA env y=ya)(hs:Src P H ya k fs)(j:n+fs.length<=Q5)
  (hg:es.take n++fs=gs):OpH P o env H (.osl H.length 0 (n+fs.length) k) (H.set i .dead++[.row e k gs]):=by
 intro fr G σ N a w r;subst hg;have g:=Qj r x;rw[hx]at g;have h2:=Qj r y;rw[F]at h2;obtain⟨⟨ay,cy,J⟩,q2,l,q3,q4,q5⟩:=hs fr G σ w _ r.sim h2;rw[J]at q3;have q:i<H.length:=(XS.1 R).1;have Y:(H.set i .dead).length=H.length:=Vb;obtain⟨s,hσ⟩:∃s,σ[i]?=some s:=⟨_,XR (by rw[r.sim.len];exact q)⟩;rcases g with⟨rfl,g⟩|⟨b,p,cap,t',mm,Q,g,h4,h5,h6,h7⟩
 ·
  by_cases hm:fs.length=0
  .have z:fs=[]:=List.length_eq_zero_iff.1 hm;subst z;refine⟨.slice none 0 0,w,G,[none],?_,.inl ⟨rfl,rfl⟩,(r.sim.kill i).phantom e k,Qi.refl _ _ _⟩;refine QaQ ho X _ ?_;rw[g,J];have:=QgX (t:=o.type) E hd (ad:=none) (n:=0) (m:=0) (cap:=0) (c:=cy) (ax:=ay) (X0 0) (q3 w rfl);simpa using this
  .have:=grown (es:=[]) (old:=[]) E hd ho X g J (r.sim.kill i) (by omega) j (λ_ _=>Qad) q3 rfl (by simp) trivial q4 q5 q2 rfl rfl;rw[Y]at this;simpa using this
 .have V:=r.sim.blk i _ _ Q R;obtain⟨W,O,g2⟩:=V;have aa:(es.take n).length=n:=by simp;omega
  obtain⟨old,o1,o2,o3⟩:∃old:List Value,(∀w':World,w'.heap=w.heap->(Builtin.firstCells k n (.slice (some ⟨b,p,none⟩) n cap)).run P w'=.ok old.toArray w')/\LR G [] w (es.take n).flatten old/\ ∀v∈old,Qz v:=by
   have L:Src P H (.osl i 0 n k) k (es.take n):=Src.osl R (by simp) (by omega);obtain⟨_,_,l',z1,z2,z3⟩:=L fr G σ w (.slice (some ⟨b,p,none⟩) n cap) r.sim (.inr ⟨b,p,cap,t',mm,Q,rfl,h4,h5,h6,h7⟩);rw[aa]at z1;exact⟨l',z1,z2,z3⟩
  by_cases f:n+fs.length<=cap
  .have h:=QgX (t:=o.type) E hd (ad:=some ⟨b,p,none⟩) (n:=n) (m:=fs.length) (cap:=cap) (c:=cy) (ax:=ay) f (q3 w rfl);have B:l.length=fs.length*k:=by rw[q4.length,Y3 q2]
   by_cases hm:fs.length=0
   .have z:fs=[]:=List.length_eq_zero_iff.1 hm;subst z;have el:l=[]:=List.length_eq_zero_iff.1 (by rw[B];simp);subst el;have sw:=(r.sim.weaken (x':=.row e k (es.take n)) R rfl (by
     intro y F;cases y with
     |none=>simp only[BR]at F⊢;subst F;simp
     |some y=>obtain⟨W,O,g2⟩:=F;exact⟨W,O,g2.take n⟩))
    have M:=sw.moved (i:=i) (Xa q) Q;rw[List.set_set]at M;refine⟨.slice (some ⟨b,p,none⟩) n cap,w,G,[some b],?_,.inr ⟨b,p,cap,t',mm,?_,by simp,h4,by simpa using h5,h6,h7⟩,by simpa using M,Qi.refl _ _ _⟩
    .refine QaQ ho X _ ?_;rw[g,J];simpa[storeCells,go_sem]using h
    .rw[<- r.sim.len];simp
   .obtain rfl:p=0*k:=h4 (by omega);have u:(n+fs.length)*k<=W.length:=by
     have:w.shape? b=some (e,W.length):=by unfold World.shape?;rw[O];simp
     rw[this]at h6;cases h6;exact X3 (XI k f) (by simpa using h7)
    rw[XG]at u;have ab:=YS (P:=P) (vs:=l) (n*k) 0 O (by rw[B];simpa using u) q5;have d:=r.sim.set (x':=.row e k (es.take n++fs)) (obj:=.cells (splice W (n*k) l).toArray e (0,0)) Q R rfl
     (λy F=>Qa2 O (Yw (by rw[B];exact u)) y F)
     (λex ac=>⟨_,ac,(g2.app hn q2 q4 q5).mono ex.nil⟩)
    have M:=d.1.moved (i:=i) (Xa q) Q;rw[List.set_set]at M;refine⟨.slice (some ⟨b,0*k,none⟩) (n+fs.length) cap,_,G,[some b],?_,.inr ⟨b,0*k,cap,t',mm,?_,rfl,h4,f,?_,h7⟩,M,d.2⟩
    .refine QaQ ho X _ ?_;rw[g,J,h];simp only[Qao,Nat.zero_mul,XB,Vu,ab,Result.andThen,Vv];simp
    .rw[<- r.sim.len];simp
    .exact d.2.shape _ _ h6
  .have:=grown (es:=es.take n) (old:=old) (fs:=fs) E hd ho X g J (r.sim.kill i) (by omega) j o1 q3 o2 o3 (QfZ n g2.allK) q4 q5 q2 aa rfl;rw[Y]at this;exact this
end
end Go.Sw
namespace Go.Sw
section
variable {P:Program}{o:Oper}{env:Env}{H:Qc}
theorem OpC.fn{c:Call}{f:FuncId}{xs:List Operand}{d:Array TypeId}{args:List A}(b:∀(a:Array Value) (w:World),(callFunc f a).run P w=.ok (.enter f a) w)(h:o.op=.call c)
  (g:c={callee:=.value (.func f),args:=xs.toArray,argTypes:=d})(i:xs.map (opA env)=args):OpC P o env H f args:=by
 intro j k σ N a w r;refine⟨xs.map a.eval,?_,i▸Qbc r xs⟩;subst g;have e:a.eval (.func f)=.func (.func f) #[] #[]:=rfl;generalize a.eval=ρ at*;simp only[execOp,h,resolve,e,Deferred.ofValue,invoke,Vu,Vv,Result.andThen,b];simp
theorem QgI{c:Call}{f:FuncId}{x:Operand}{xs:List Operand}{h:Array TypeId}{args vf vc:List A}(b:∀(a:Array Value) (w:World),(callFunc f a).run P w=.ok (.enter f a) w)(m:o.op=.call c)
  (k:c={callee:=.value x,args:=xs.toArray,argTypes:=h})(g:opA env x=.fn (.func f) vf vc)(n:vf++(xs.map (opA env)++vc)=args):OpC P o env H f args:=by
 intro q p σ N a w r;have d:=Qj r x;rw[g]at d;obtain⟨l,e,d,i,j⟩:=d;refine⟨l++(xs.map a.eval++e),?_,n▸i.append ((Qbc r xs).append j)⟩;subst k;generalize a.eval=ρ at*;simp only[execOp,m,resolve,d,Deferred.ofValue,invoke,Vu,Vv,Result.andThen,b];simp
def Qfi(ρ:Nat->Nat)(env:Env):Env->Prop
 |[]=>True
 |(s,a)::r=>lk env s=YI ρ a/\Qfi ρ env r
theorem Qfi.ok{ro:Nat->Prop}{σ σ':Sig}{w:World}{ρ:Nat->Nat}(h:∀i:Nat,σ[ρ i]?=σ'[i]?){t:Array Value}(r:∀s,VR ro σ w (lk env s) (t.getD s undef)):
  ∀{env':Env},Qfi ρ env env'->∀s,VR ro σ' w (lk env' s) (t.getD s undef)
 |[],_,s=>trivial
 |(d,a)::e,⟨h1,h2⟩,s=>by
  simp only[lk];by_cases q:s=d
  .subst q;rw[Nat.beq_refl];have:=r s;rw[h1]at this;exact(QgE h).1 this
  .have:Nat.beq s d=false:=by
    rw[Bool.eq_false_iff];intro b;exact q (XX b)
   rw[this];exact Qfi.ok h r h2 s
theorem Sim.sub{fr ro:Nat->Prop}{σ:Sig}{w:World}{π:List Nat}{H':Qc}(s:Sim fr ro σ H w)(B:π.map (λp=>H[p]?)=(H'.map (Q4 (rho π H.length))).map some)(hπ:π.Nodup):
  Sim fr ro (Yf σ π) H' w/\ ∀j:Nat,σ[rho π H.length j]?=(Yf σ π)[j]? :=by
 have N:∀p∈π,p<H.length:=λp q=>Je B q;have hσl:=s.len;have k:∀(j p:Nat),π[j]?=some p->H[p]?=(H'[j]?).map (Q4 (rho π H.length)):=by
  intro j p a;have:=congrArg (λl=>l[j]?) B;simp only[Xq,a,Xk]at this;cases e:H'[j]? with
  |none=>rw[e]at this;simp at this
  |some x=>rw[e]at this;simpa using this
 have u:π.length=H'.length:=by simpa using congrArg List.length B
 have hσc:∀j:Nat,σ[rho π H.length j]?=(Yf σ π)[j]? :=by
  intro j;have:=QdK (τ:=[]) hσl N j;simpa using this
 have hπj:∀(j b:Nat),(Yf σ π)[j]?=some (some b)->∃p,π[j]?=some p/\σ[p]?=some (some b):=by
  intro j b a;simp only[Yf,Xq]at a;cases e:π[j]? with
  |none=>rw[e]at a;simp at a
  |some p=>
   rw[e]at a;simp at a;refine⟨p,rfl,?_⟩;cases m:σ[p]? with
   |none=>rw[m]at a;simp at a
   |some s=>rw[m]at a;simp at a;rw[a]
 have hπi:∀(i j p:Nat),π[i]?=some p->π[j]?=some p->i=j:=by
  intro i j p g f;have n:i<π.length:=(XS.1 g).1;have a:j<π.length:=(XS.1 f).1;rw[XR n]at g;rw[XR a]at f;have h:=(X7 g).trans (X7 f).symm;rcases Nat.lt_trichotomy i j with q|q|q
  .exact(List.pairwise_iff_getElem.1 hπ i j n a q h).elim
  .exact q
  .exact(List.pairwise_iff_getElem.1 hπ j i a n q h.symm).elim
 refine⟨⟨by simp[Yf,u],s.roOk,s.frLt,s.roFr,?_,?_,?_,s.hidTo (λj p=>π[j]?=some p) hπi (X0 _) (λ_ _ _ _ _ _ _ q=>q) (λ_ _ _ _ _ _ _ q=>q) λj d y L O R=>.inl ?_⟩,hσc⟩
 rotate_left 3
 .obtain⟨p,g,m⟩:=hπj j d L;exact⟨p,Q4 (rho π H.length) y,g,m,by rw[k j p g,O];rfl,by rw[QI];exact id,λc q=>(Qai _ _ _ _ _).2 q⟩
 .intro j b x r t F;obtain⟨p,g,m⟩:=hπj j b r;have z:H[p]?=some (Q4 (rho π H.length) x):=by rw[k j p g,t];rfl
  exact s.own p b _ m z (by rw[QI];exact F)
 .intro i j b x y r t F M P Q;obtain⟨p,g,m⟩:=hπj i b r;obtain⟨J,f,E⟩:=hπj j b t;have z:H[p]?=some (Q4 (rho π H.length) x):=by rw[k i p g,F];rfl
  have G:H[J]?=some (Q4 (rho π H.length) y):=by rw[k j J f,M];rfl
  have:=s.inj p J b _ _ m E z G (by rw[QI];exact P) (by rw[QI];exact Q);subst this;have n:i<π.length:=(XS.1 g).1;have a:j<π.length:=(XS.1 f).1;rw[XR n]at g;rw[XR a]at f;have h:=(X7 g).trans (X7 f).symm;rcases Nat.lt_trichotomy i j with q|q|q
  .exact(List.pairwise_iff_getElem.1 hπ i j n a q h).elim
  .exact q
  .exact(List.pairwise_iff_getElem.1 hπ j i a n q h.symm).elim
 .intro j y x r t;have a:j<π.length:=by
   rcases Nat.lt_or_ge j π.length with q|q
   .exact q
   .rw[XV (by simpa[Yf]using q)]at r;simp at r
  have g:π[j]?=some π[j]:=XR a;have z:H[π[j]]?=some (Q4 (rho π H.length) x):=by rw[k j _ g,t];rfl
  have m:σ[π[j]]?=some y:=by
   have:=hσc j;rw[r]at this;simpa[rho,g]using this
  exact(QgP hσc).1 (s.blk _ y _ m z)
theorem QoM{h0:Nat}{env':Env}{H':Qc}(π:List Nat)(b:π.take h0=List.range h0)(e:π.map (λp=>H[p]?)=(H'.map (Q4 (rho π H.length))).map some)(hπ:π.Nodup)
  (hE:Qfi (rho π H.length) env env'):Le h0 env H env' H':=by
 intro l g σ N a w r;obtain⟨k,hσ⟩:=r.sim.sub e hπ;refine⟨g,Yf σ π,⟨k,Qfi.ok hσ r.env hE,r.size,r.defers⟩,λ_ q=>q,?_⟩;have h:=r.sim.len;have j:∀p∈π,p<H.length:=λp q=>Je e q;unfold Yf;rw[<- List.map_take,b];apply List.ext_getElem?;intro i;rcases Nat.lt_or_ge i h0 with q|q
 .have f:i∈π:=List.mem_of_mem_take (i:=h0) (by rw[b];exact List.mem_range.2 q);have d:i<σ.length:=by rw[h];exact j i f
  rw[Xq,List.getElem?_take,if_pos q,List.getElem?_range q];simp[XR d]
 .rw[XV (by simpa using q),List.getElem?_take,if_neg (by omega)]
theorem Le.phantom{h0 s k t:Nat}(f:h0<=H.length)(g:lk env s=.nils):Le h0 env H (up env s (.osl H.length 0 0 k)) (H++[.row t k []]):=by
 intro i d σ N a w r;refine⟨d,σ++[none],⟨r.sim.phantom t k,?_,r.size,r.defers⟩,λ_ q=>q,QW (by rw[r.sim.len];exact f)⟩;have ext:Ext d σ w d (σ++[none]) w:=⟨λ_ q=>q,λ_ _=>rfl,λ_ _ q=>q,λ_ _ h=>Jj h⟩;intro b;simp only[lk];by_cases q:b=s
 .subst q;rw[Nat.beq_refl];have:=r.env b;rw[g]at this;exact .inl ⟨rfl,this⟩
 .have:Nat.beq b s=false:=by
   rw[Bool.eq_false_iff];intro e;exact q (XX e)
  rw[this];exact(r.env b).mono ext
mutual
def Yn:A->Bool
 |.bool _=>true
 |.int _ _=>true
 |.str _=>true
 |.tup vs=>QdL vs
 |_=>false
def QdL:List A->Bool
 |[]=>true
 |a::r=>Yn a&&QdL r
end
mutual
theorem VR.scalar{ro ro':Nat->Prop}{σ σ':Sig}{w w':World}:∀{a:A}{v:Value},Yn a=true->VR ro σ w a v->VR ro' σ' w' a v
 |.bool _,_,_,h=>h
 |.int _ _,_,_,h=>h
 |.str _,_,_,h=>h
 |.tup vs,v,hs,h=>by
  simp only[VR,Yn]at h hs⊢;obtain⟨l,h1,h2⟩:=h;exact⟨l,h1,LR.scalar hs h2⟩
 |.any,_,hs,_=>by simp[Yn]at hs
 |.nilp,_,hs,_=>by simp[Yn]at hs
 |.ptr _ _,_,hs,_=>by simp[Yn]at hs
 |.rp _,_,hs,_=>by simp[Yn]at hs
 |.nils,_,hs,_=>by simp[Yn]at hs
 |.rsl _ _,_,hs,_=>by simp[Yn]at hs
 |.osl _ _ _ _,_,hs,_=>by simp[Yn]at hs
 |.agg _,_,hs,_=>by simp[Yn]at hs
 |.fn _ _ _,_,hs,_=>by simp[Yn]at hs
 |.nilf,_,hs,_=>by simp[Yn]at hs
 |.iface _ _,_,hs,_=>by simp[Yn]at hs
 |.nilif,_,hs,_=>by simp[Yn]at hs
 |.map _,_,hs,_=>by simp[Yn]at hs
 |.nilm,_,hs,_=>by simp[Yn]at hs
theorem LR.scalar{ro ro':Nat->Prop}{σ σ':Sig}{w w':World}:∀{az:List A}{l:List Value},QdL az=true->LR ro σ w az l->LR ro' σ' w' az l
 |[],_,_,h=>h
 |a::r,l,hs,h=>by
  simp only[LR,QdL,X4]at h hs⊢;obtain⟨v,l',h1,h2,h3⟩:=h;exact⟨v,l',h1,VR.scalar hs.1 h2,LR.scalar hs.2 h3⟩
end
def Look(H:Qc):A->A->Prop:=λa a'=>(a'=a/\Yq a=true)\/ ∃i n k t es,a=.osl i 0 n k/\H[i]?=some (.row t k es)/\es.length=n/\a'=.rsl k es
def Qbh(H:Qc):List A->List A->Prop
 |[],[]=>True
 |a::az,b::bs=>Look H a b/\Qbh H az bs
 |_,_=>False
theorem Qe0{h0 N:Nat}{Q:QC}{all:Array Oper}{l:List Oper}{d:Nat}{f:FuncId}{args B:List A}{Qr:A->Qc->Prop}(ab:OpC P o env H f args)(hv:Qbh H args B)(hC:C P f B [] Qr)
  (aa:∀r H1,Qr r H1->Yn r=true)(k:∀r H1,Qr r H1->WO P h0 N all l (up env d r) H Q)(hg:Qv all o env true:=by exact rfl)(hd:o.dst=some d:=by exact rfl)(hN:Nat.blt d N=true:=by exact rfl):WO P h0 N all (o::l) env H Q:=by
 intro rd fr ro σ a w r hrd;obtain⟨O,h1,h2⟩:=ab fr ro σ N a w r;refine Qfq (Jm hg r) h1 ?_
 let roc:Nat->Prop:=λb=>ro b\/ ∃(i:Nat) (x:Blk),σ[i]?=some (some b)/\H[i]?=some x/\x.live=true
 let frc:Nat->Prop:=λb=>fr b\/ ∃(i:Nat) (x:Blk) (d:Nat),σ[i]?=some (some d)/\H[i]?=some x/\Hid w x d b
 have X:Sim frc roc [] [] w:=by
  refine⟨rfl,r.sim.roOk.to (λ_ q=>.inl q) (λ_ _=>rfl) ?_,?_,?_,by simp,by simp,by simp,by simp⟩
  .rintro b (q|⟨i,x,u,g,F⟩)
   .exact r.sim.roLt b q
   .exact(r.sim.own i b x u g F).1
  .rintro b (q|⟨i,x,d,u,g,F⟩)
   .exact r.sim.frLt b q
   .exact(r.sim.hid i d x b u g F).lt
  .rintro b (q|⟨i,x,u,g,F⟩) (q'|⟨i',x',d',W,V,R⟩)
   .exact r.sim.roFr b q q'
   .exact(r.sim.hid i' d' x' b W V R).ro q
   .exact(r.sim.own i b x u g F).2.2 q'
   .exact(r.sim.hid i' d' x' b W V R).ne i b x u g F rfl
 have L:∀(az G:List A) (l:List Value),Qbh H az G->LR ro σ w az l->LR roc [] w G l:=by
  intro az
  induction az with
  |nil=>
   intro G l E h;cases G with
   |nil=>exact h
   |cons b G=>exact E.elim
  |cons x az ih=>
   intro G l E h;cases G with
   |nil=>exact E.elim
   |cons y G=>
    obtain⟨hx,E⟩:=E;obtain⟨v,l',rfl,hv,h⟩:=h;refine⟨v,l',rfl,?_,ih G l' E h⟩;rcases hx with⟨rfl,hx⟩|⟨i,n,k,t,es,rfl,hH,hn,rfl⟩
    .exact(hv.data (σ':=[]) hx).mono ⟨λ_ q=>.inl q,λ_ _=>rfl,λ_ _ q=>q,λ_ _ q=>q⟩
    .subst hn;rcases hv with⟨h0,h⟩|⟨b,p,M,t',m,h1,h,h2,h3,h4,h5⟩
     .have:es=[]:=List.length_eq_zero_iff.1 h0;subst this;exact⟨none,0,h,X0 _,.inl rfl⟩
     .refine⟨_,M,h,h3,?_⟩;by_cases he:es=[]
      .exact .inl he
      .right;have hc:0<M:=Vn (List.length_pos_iff.2 he) h3;obtain rfl:=h2 hc;obtain⟨l,u,g⟩:=r.sim.blk i _ _ h1 hH;refine⟨b,0,by simp,.inr ⟨i,_,h1,hH,rfl⟩,?_⟩;have:=Js (pre:=[]) (by simpa using u) g;exact this.keep ⟨λ_ q=>.inl q,λ_ _=>rfl,λ_ _ q=>q,λ_ _ q=>q⟩ rfl
 refine Calls.mono (hC frc roc [] O w X (L _ _ _ hv h2)) ?_;rintro e T ⟨v,rr,H1,ae,τ,rfl,hq,sc,ad,ev⟩;have J:∀(i b:Nat) (x:Blk),σ[i]?=some (some b)->H[i]?=some x->x.live=true->T.heap[b]?=w.heap[b]? :=λi b x u g F=>ev.keepRo b (.inr ⟨i,x,u,g,F⟩);have z:Qi fr ro w ro T:=⟨λ_ q=>q,λb q=>ev.keepRo b (.inl q),λb q=>ev.keepFr b (.inl q),ev.size,ev.shape,ev.os,ev.tape,ev.output,ev.drawn⟩;have Y:Sim fr ro σ H T:=by
  refine⟨r.sim.len,r.sim.roOk.to (λ_ q=>q) z.keepRo (λb q=>Vn (r.sim.roLt b q) ev.size),λb q=>Vn (r.sim.frLt b q) ev.size,r.sim.roFr,?_,r.sim.inj,?_,r.sim.hidTo (· = ·) Q8 ev.size (λ_ _ _ _ _ _ _ q=>q) (λ_ _ _ _ _ _ _ q=>q) λj d y g1 g2 g3=>.inl ⟨j,y,rfl,g1,g2,id,λc q=>r.sim.hidKeep g1 g2 (J j d y g1 g2) z.keepRo q⟩⟩
  .intro i b x u g F;obtain⟨p1,p2,p3⟩:=r.sim.own i b x u g F;exact⟨Vn p1 ev.size,p2,p3⟩
  .intro i y x u g;refine(r.sim.blk i y x u g).keep (z.ext0 σ) ?_ ?_
   .rintro b rfl E;exact J i b x u g E
   .rintro b c rfl E;exact ev.keepFr c (.inr ⟨i,x,b,u,g,E⟩)
 have hk:=k rr H1 hq;have ac:d<N:=by simpa using hN
 simp only[hd,Act.put];have r':Rel fr ro σ H (up env d rr) N {a with tmps:=a.tmps.setIfInBounds d v} T:=
  ⟨Y,VR.up (fr:=fr) (λs=>(r.env s).mono (z.ext0 σ)) (by rw[r.size];exact ac) (ad.scalar (aa _ _ hq)),by simpa using r.size,r.defers.keep z⟩
 exact⟨_,rfl,Yx (λe a w q=>q.step z rfl) _ _ _ (hk rd fr ro σ _ T r' (hrd.to z λ_ q=>q))⟩
end
end Go.Sw
namespace Go.Sw
section
variable {P:Program}{o:Oper}{env:Env}{H:Qc}
theorem QfH{α:Type}:∀(vs:List α) (off i:Nat) (l:List α),off+i+vs.length<=l.length->
  (vs.zipIdx i).foldl (λ(cs:Array α) (x:α×Nat)=>cs.setIfInBounds (off+x.2) x.1) l.toArray=(splice l (off+i) vs).toArray
 |[],off,i,l,h=>by simp[splice]
 |v::vs,off,i,l,h=>by
  simp only[X8]at h;rw[List.zipIdx_cons,XK];have e1:l.toArray.setIfInBounds (off+i) v=(splice l (off+i) [v]).toArray:=by
   have:l.toArray.setIfInBounds (off+i) v=(l.set (off+i) v).toArray:=by simp
   rw[this];congr 1;rw[List.set_eq_take_append_cons_drop,if_pos (by omega)];simp[splice]
  rw[e1,QfH vs off (i+1) _ (by rw[Yw (by simp;omega)];omega)];congr 1;have a:(l.take (off+i)).length=off+i:=by simp;omega
  unfold splice;rw[Vq (l.take (off+i))];have e:off+(i+1)=(l.take (off+i)).length+1:=by omega
  have b:(l.take (off+i)++([v]++l.drop (off+i+[v].length))).take ((l.take (off+i)).length+1)=l.take (off+i)++[v]:=by
   rw[Vj];simp
  have d:(l.take (off+i)++([v]++l.drop (off+i+[v].length))).drop ((l.take (off+i)).length+1+vs.length)=l.drop (off+i+(v::vs).length):=by
   rw[show(l.take (off+i)).length+1+vs.length=(l.take (off+i)).length+(1+vs.length)from by omega,Vi];simp[Nat.add_comm 1];congr 1;omega
  rw[e,b,d];simp
theorem QfJ{a:Nat->Option (Nat×Nat)}{l:List Value}{i off size:Nat}{v:Value}{m:List Value}{rest:List (Nat×Value)}(f:a i=some (off,size))(d:v.cells=m.toArray)(e:m.length=size)
  (g:off+size<=l.length):Instr.fill a l.toArray ((i,v)::rest)=Instr.fill a (splice l off m).toArray rest:=by
 have b:v.cells.size=size:=by rw[d];simpa using e
 rw[Instr.fill];simp only[f];rw[if_neg (by simp[b];omega),d];congr 1;have:=QfH m off 0 l (by omega);rw[XC]at this;rw[<- this];simp[Array.foldl_toList]
def QaO:Nat->List Operand->List (Nat×Operand)
 |_,[]=>[]
 |i,x::xs=>(i,x)::QaO (i+1) xs
def Yo(env:Env)(xs:List Operand):List (List A):=xs.map λx=>Yj (opA env x)
theorem Qez{fr ro:Nat->Prop}{σ:Sig}{N:Nat}{a:Act}{w:World}(r:Rel fr ro σ H env N a w){k:Nat}:∀(xs:List Operand) (j:Nat) (pre rest:List Value),pre.length=j*k->rest.length=xs.length*k->
  (xs.all λx=>Yu (opA env x))=true->allK k (Yo env xs)->
  ∃l,Instr.fill (λi=>some (i*k,k)) (pre++rest).toArray ((QaO j xs).map λp=>(p.1,a.eval p.2))=some (pre++l).toArray/\LR ro σ w (Yo env xs).flatten l
 |[],j,pre,rest,h1,h2,_,_=>by
  have:rest=[]:=List.length_eq_zero_iff.1 (by simpa using h2);subst this;exact⟨[],rfl,rfl⟩
 |x::xs,j,pre,rest,h1,h2,h3,h4=>by
  simp only[List.all_cons,X4]at h3;obtain⟨hk1,hk2⟩:=h4;obtain⟨m,q1,q2⟩:=(Qj r x).cells h3.1;have hm:m.length=k:=by rw[q2.length];exact hk1
  simp only[X8,Xm]at h2;simp only[QaO,Vr];rw[QfJ (off:=j*k) (size:=k) rfl q1 hm (by simp;omega)];have e:splice (pre++rest) (j*k) m=(pre++m)++rest.drop k:=by
   unfold splice;rw[<- h1,List.take_left,Vi,hm]
  rw[e];obtain⟨l,b,d⟩:=Qez r xs (j+1) (pre++m) (rest.drop k) (by simp[h1,hm,Xm]) (by simp;omega) h3.2 hk2;refine⟨m++l,?_,?_⟩
  .rw[b];simp
  .show LR ro σ w ((Yj (opA env x))++(Yo env xs).flatten) (m++l);exact q2.append d
theorem QbH{fr ro:Nat->Prop}{σ:Sig}{N:Nat}{a:Act}{w:World}(r:Rel fr ro σ H env N a w){T e k n:Nat}{xs:List Operand}(E:Q1 P T e k)(m:xs.length=n)(f:Nat.ble (n*k) 16777216=true)
  (s:(xs.all λx=>Yu (opA env x))=true)(q:allK k (Yo env xs)):
  ∃l,(Instr.buildSlice T n (((QaO 0 xs).map λp=>(p.1,a.eval p.2)).toArray)).run P w=.ok (.slice (some ⟨w.heap.size,0,none⟩) n n) (w.alloc (.cells l.toArray e))/\LR ro σ w (Yo env xs).flatten l:=by
 obtain⟨z,u,t⟩:=E.zero;have j:n*k<=16777216:=by simpa using f
 have d:∀(c:Array Value) (W:World),(newRow e c).run P W=.ok ⟨W.heap.size,0,none⟩ (W.alloc (.cells c e)):=λc W=>rfl;unfold Instr.buildSlice;by_cases h:n*k=0
 .obtain⟨l,b,g⟩:=Qez r (k:=k) xs 0 [] [] (by simp) (by rw[m];simpa using h.symm) s q;refine⟨l,?_,g⟩;simp only[Vu,E.sl,Result.andThen,E.size,h];simp only[Xn,gt_iff_lt,if_false,if_true,Vv,XO,Result.andThen];have y:Array.range 0= #[]:=rfl;simp at b;simp[y,b,d]
 .obtain⟨l,b,g⟩:=Qez r (k:=k) xs 0 [] ((Array.range (n*k)).map (λi=>z.cells[i%z.cells.size]!)).toList (by simp) (by rw[m];simp) s q;refine⟨l,?_,g⟩;simp only[Vu,E.sl,Result.andThen,E.size,if_neg h,XO,u,Vv];rw[if_neg (by omega)];simp only[Vp]at b;rw[Array.toArray_toList]at b;simp only[b,Vu,d,Result.andThen,Vv]
theorem QbA{T n:Nat}{xs:List Operand}(a:o.op=.buildSlice T n (QaO 0 xs).toArray)(ρ:Operand->Value){v:Value}{w w':World}
  (h:(Instr.buildSlice T n (((QaO 0 xs).map λp=>(p.1,ρ p.2)).toArray)).run P w=.ok v w'):(execOp ρ o).run P w=.ok (.value v) w':=by
 simp only[execOp,a,Vu,XP,h,Result.andThen,Vv]
theorem OpH.lit{T e k n:Nat}{xs:List Operand}{es:List (List A)}(E:Q1 P T e k)(z:o.op=.buildSlice T n (QaO 0 xs).toArray)(j:xs.length=n)(f:Nat.ble (n*k) 16777216=true)
  (s:(xs.all λx=>Yu (opA env x))=true)(b:Yo env xs=es)(d:allK k es)(y:es.flatten.all YF=true)(t:Yt es.flatten=true):
  OpH P o env H (.osl H.length 0 n k) (H++[.row e k es]):=by
 intro B m σ N a w r;subst b;obtain⟨l,q,g⟩:=QbH r E j f s d;have h:LR m [] w (Yo env xs).flatten l:=g.data t;obtain⟨p,i⟩:=Qff (T:=e) (rest:=[]) r.sim d h (g.plain y);rw[Vo]at p i;have u:l.length=n*k:=by rw[g.length,Y3 d];simp[Yo,j]
 refine⟨_,_,m,[some w.heap.size],QbA z a.eval q,.inr ⟨w.heap.size,0,n,e,l.length,?_,rfl,λ_=>by simp,X0 _,?_,by rw[u,XB];exact X0 _⟩,p,i⟩
 .rw[<- r.sim.len];simp
 .unfold World.shape?;rw[YU];simp
theorem Y2{n:Int}{y:Nat}{c:BoundsCode}{w:World}(h0:0<=n)(a:n<=y):(Instr.sliceBound (.int .i64 n) y c).run P w=.ok n.toNat w:=by
 simp[Instr.sliceBound,asIntOf,h0,a,go_sem]
theorem QdM{T e:Nat}{k:Nat}{w:World}(E1:∀w,(underlying T).run P w=.ok (.slice e) w)(E2:∀w,(sizeOf e).run P w=.ok k w){ad:Option Addr}{n cap:Nat}{lo hi:Option Value}{l h:Nat}(d:n<=cap)
  (b:lo=none/\l=0\/ ∃z:Int,lo=some (.int .i64 z)/\0<=z/\z.toNat=l)(a:hi=none/\h=n\/ ∃z:Int,hi=some (.int .i64 z)/\0<=z/\z.toNat=h)(i:l<=h)(j:h<=n):
  (Instr.sliceAt T (.slice ad n cap) lo hi none).run P w=.ok (.slice (if cap=l then ad else ad.map (·.add (l*k))) (h-l) (cap-l)) w:=by
 have g:(Instr.sliceBounds true n cap lo hi none).run P w=.ok (l,h,cap) w:=by
  rcases b with⟨rfl,rfl⟩|⟨z,rfl,f,rfl⟩<;>rcases a with⟨rfl,rfl⟩|⟨y,rfl,y0,rfl⟩
  .simp[Instr.sliceBounds,go_sem]
  .simp only[Instr.sliceBounds,Vu,Vv,Result.andThen,Y2 y0 (show y<=(cap:Int)by omega)]
  .simp only[Instr.sliceBounds,Vu,Vv,Result.andThen,Y2 f (show z<=(h:Int)by omega)]
  .simp only[Instr.sliceBounds,Vu,Vv,Result.andThen,Y2 y0 (show y<=(cap:Int)by omega),Y2 f (show z<=(y.toNat:Int)by omega)]
 simp only[Instr.sliceAt,Vu,E1,Result.andThen,Instr.slice,g,E2,Vv]
theorem Qaj{fr ro:Nat->Prop}{σ:Sig}{N:Nat}{a:Act}{w:World}(r:Rel fr ro σ H env N a w){x:Option Operand}{l d:Nat}(h:x=none/\l=d\/ ∃y,∃z:Int,x=some y/\opA env y=.int .i64 z/\0<=z/\z.toNat=l):
  x.map a.eval=none/\l=d\/ ∃z:Int,x.map a.eval=some (.int .i64 z)/\0<=z/\z.toNat=l:=by
 rcases h with⟨rfl,rfl⟩|⟨y,z,rfl,b,e,f⟩
 .exact .inl ⟨rfl,rfl⟩
 .exact .inr ⟨z,by simp[Q2 r b],e,f⟩
theorem QmC{T e k:Nat}{x:Operand}{lo hi:Option Operand}{es f:List (List A)}{l h:Nat}(E1:∀w,(underlying T).run P w=.ok (.slice e) w)(E2:∀w,(sizeOf e).run P w=.ok k w)(J:o.op=.slice T x lo hi none)
  (L:opA env x=.rsl k es)(n:lo=none/\l=0\/ ∃y,∃z:Int,lo=some y/\opA env y=.int .i64 z/\0<=z/\z.toNat=l)
  (s:hi=none/\h=es.length\/ ∃y,∃z:Int,hi=some y/\opA env y=.int .i64 z/\0<=z/\z.toNat=h)(q:l<=h)(F:h<=es.length)(m:(es.take h).drop l=f):OpV P o env H (.rsl k f):=by
 intro M O σ N a w r;subst m;have j:=Qj r x;rw[L]at j;obtain⟨ad,i,j,u,B⟩:=j;have g:=QdM (P:=P) (w:=w) E1 E2 (ad:=ad) u (Qaj r n) (Qaj r s) q F;have d:((es.take h).drop l).length=h-l:=by simp;omega
 refine⟨_,by simp only[execOp,J,j,Vu,g,Result.andThen,Vv,Xl];rfl,?_⟩;refine⟨_,i-l,by rw[d],by rw[d];omega,?_⟩;rcases B with rfl|⟨b,p,rfl,t,E⟩
 .left;simp
 .by_cases G:i=l
  .left;apply List.length_eq_zero_iff.1;omega
  .right;refine⟨b,p+l*k,by rw[if_neg G];simp[Qao],t,?_⟩;exact(E.take h).drop l
theorem QhV{T e k i s n:Nat}{x:Operand}{lo hi:Option Operand}{l h:Nat}(E1:∀w,(underlying T).run P w=.ok (.slice e) w)(E2:∀w,(sizeOf e).run P w=.ok k w)(J:o.op=.slice T x lo hi none)
  (R:opA env x=.osl i s n k)(j:lo=none/\l=0\/ ∃y,∃z:Int,lo=some y/\opA env y=.int .i64 z/\0<=z/\z.toNat=l)
  (u:hi=none/\h=n\/ ∃y,∃z:Int,hi=some y/\opA env y=.int .i64 z/\0<=z/\z.toNat=h)(t:l<=h)(G:h<=n):OpV P o env H (.osl i (s+l) (h-l) k):=by
 intro W V σ N a w r;have g:=Qj r x;rw[R]at g;rcases g with⟨rfl,g⟩|⟨b,p,f,F,m,g,O,Q,M,L,E⟩
 .have d:=QdM (P:=P) (w:=w) E1 E2 (ad:=none) (X0 0) (Qaj r j) (Qaj r u) t G;refine⟨_,by simp only[execOp,J,g,Vu,d,Result.andThen,Vv,Xl];rfl,?_⟩;left;obtain rfl:h=0:=by omega
  obtain rfl:l=0:=by omega
  simp
 .have d:=QdM (P:=P) (w:=w) E1 E2 (ad:=some ⟨b,p,none⟩) M (Qaj r j) (Qaj r u) t G;refine⟨_,by simp only[execOp,J,O,Vu,d,Result.andThen,Vv,Xl];rfl,?_⟩;right;by_cases B:f=l
  .refine⟨b,p,0,F,m,g,by rw[if_pos B];simp[B],λq=>by omega,by omega,L,?_⟩;subst B;exact X3 (by simp) E
  .refine⟨b,p+l*k,f-l,F,m,g,by rw[if_neg B];simp[Qao],λq=>by rw[Q (by omega),XG],by omega,L,?_⟩;rw[show s+l+(f-l)=s+f from by omega];exact E
theorem QmD{T e k:Nat}{x:Operand}{lo hi:Option Operand}{l h:Nat}(E1:∀w,(underlying T).run P w=.ok (.slice e) w)(E2:∀w,(sizeOf e).run P w=.ok k w)(m:o.op=.slice T x lo hi none)
  (n:opA env x=.nils)(f:lo=none/\l=0\/ ∃y,∃z:Int,lo=some y/\opA env y=.int .i64 z/\0<=z/\z.toNat=l)
  (i:hi=none/\h=0\/ ∃y,∃z:Int,hi=some y/\opA env y=.int .i64 z/\0<=z/\z.toNat=h)(g:l<=h)(j:h<=0):OpV P o env H .nils:=by
 intro q p σ N a w r;have d:=Qj r x;rw[n]at d;simp only[VR]at d;have b:=QdM (P:=P) (w:=w) E1 E2 (ad:=none) (X0 0) (Qaj r f) (Qaj r i) g j;refine⟨_,by simp only[execOp,m,d,Vu,b,Result.andThen,Vv,Xl];rfl,?_⟩;obtain rfl:h=0:=by omega
 obtain rfl:l=0:=by omega
 simp[VR]
theorem OpV.max{c:Call}{x y:Operand}{k:IntKind}{m n:Int}(h:o.op=.call c)(e:c={callee:=.builtin .max,args:= #[x,y],argTypes:=c.argTypes})(j:opA env x=.int k m)(i:opA env y=.int k n):
  OpV P o env H (.int k (if m<n then n else m)):=by
 intro p l σ N a w r;have f:=Q2 r j;have g:=Q2 r i;refine⟨_,?_,rfl⟩;generalize a.eval=ρ at*;have b:c.callee=.builtin .max:=by rw[e]
 have d:c.args= #[x,y]:=by rw[e]
 simp only[execOp,h,resolve,b,d,invoke,Go.builtin,Vu,Vv,Result.andThen];simp[Builtin.max_,Builtin.max2,f,g,go_sem]
theorem OpV.min{c:Call}{x y:Operand}{k:IntKind}{m n:Int}(h:o.op=.call c)(e:c={callee:=.builtin .min,args:= #[x,y],argTypes:=c.argTypes})(j:opA env x=.int k m)(i:opA env y=.int k n):
  OpV P o env H (.int k (if n<m then n else m)):=by
 intro p l σ N a w r;have f:=Q2 r j;have g:=Q2 r i;refine⟨_,?_,rfl⟩;generalize a.eval=ρ at*;have b:c.callee=.builtin .min:=by rw[e]
 have d:c.args= #[x,y]:=by rw[e]
 simp only[execOp,h,resolve,b,d,invoke,Go.builtin,Vu,Vv,Result.andThen];simp[Builtin.min_,Builtin.min2,f,g,go_sem]
end
end Go.Sw
namespace Go.Sw
section
variable {P:Program}{h0 N:Nat}{env:Env}{H:Qc}{Q:QC}{c c':Code}
def CutP(h0:Nat)(Eb:Env)(Hb:Qc)(Q:QC):QC
 |.normal,env,H=>Le h0 env H Eb Hb
 |.exit id,env,H=>Q (.exit id) env H
 |.ret,env,H=>Q .ret env H
theorem TC.cut(Eb:Env)(Hb:Qc)(h:TC P h0 N c env H (CutP h0 Eb Hb Q))(k:∀env H,Le h0 env H Eb Hb->Q .normal env H):TC P h0 N c env H Q:=
 h.mono λx env' H' q=>by
  cases x with
  |normal=>exact k _ _ q
  |exit id=>exact q
  |ret=>exact q
theorem Qk9(h:TC P h0 N c env H Q):Seq P h0 N c Q .normal env H:=h
theorem seqX{id:Nat}(h:Q (.exit id) env H):Seq P h0 N c Q (.exit id) env H:=h
theorem seqR(h:Q .ret env H):Seq P h0 N c Q .ret env H:=h
theorem bloN{id:Nat}(h:Q .normal env H):Blo id Q .normal env H:=h
theorem bloE{id:Nat}(h:Q .normal env H):Blo id Q (.exit id) env H:=by simp only[Blo,Nat.beq_refl,cond_true];exact h
theorem bloX{id a:Nat}(e:Nat.beq a id=false)(h:Q (.exit a) env H):Blo id Q (.exit a) env H:=by simp only[Blo,e,cond_false];exact h
theorem bloR{id:Nat}(h:Q .ret env H):Blo id Q .ret env H:=h
def QjF{S B:Type}(h0:Nat)(b:Ctl S B)(Eb:S->Env)(Hb:S->Qc)(Q:QC):QC
 |.normal,env,H=>∃s,b=.cont s/\Le h0 env H (Eb s) (Hb s)
 |.exit id,env,H=>Q (.exit id) env H
 |.ret,env,H=>Q .ret env H
theorem Qjx{S B:Type}{b:Ctl S B}(Eb:S->Env)(Hb:S->Qc)(h:TC P h0 N c env H (QjF h0 b Eb Hb Q))(k:∀s env H,b=.cont s->Le h0 env H (Eb s) (Hb s)->Q .normal env H):TC P h0 N c env H Q:=
 h.mono λx env' H' q=>by
  cases x with
  |normal=>obtain⟨s,e,q⟩:=q;exact k s _ _ e q
  |exit id=>exact q
  |ret=>exact q
section
variable {S B:Type}{b:Ctl S B}{Eb:S->Env}{Hb:S->Qc}
theorem Qn{s:S}(e:b=.cont s)(h:Le h0 env H (Eb s) (Hb s)):QjF h0 b Eb Hb Q .normal env H:=⟨s,e,h⟩
theorem Ql(h:Q .ret env H):QjF h0 b Eb Hb Q .ret env H:=h
end
theorem Qmx{x:Operand}{t:Bool}(hx:opA env x=.bool t)(h:t=true)(ht:TC P h0 N c env H Q):TC P h0 N (.cond x c c') env H Q:=TC.cond hx (λ_=>ht) (λq=>by rw[h]at q;cases q)
theorem Qmy{x:Operand}{t:Bool}(hx:opA env x=.bool t)(h:t=false)(hf:TC P h0 N c' env H Q):TC P h0 N (.cond x c c') env H Q:=TC.cond hx (λq=>by rw[h]at q;cases q) (λ_=>hf)
section
variable {S B:Type}{I:S->Env->Qc->Prop}
theorem Qg{s:S}{d:Ctl S B}(e:some (Ctl.cont s)=some d)(h:I s env H):Qbg I d Q .normal env H:=⟨s,(X7 e).symm,h⟩
theorem Qh{id:Nat}{b:B}{d:Ctl S B}(e:some (Ctl.done b)=some d)(h:Q (.exit id) env H):Qbg I d Q (.exit id) env H:=⟨⟨b,(X7 e).symm⟩,h⟩
theorem Qm{b:B}{d:Ctl S B}(e:some (Ctl.done b)=some d)(h:Q .ret env H):Qbg I d Q .ret env H:=⟨⟨b,(X7 e).symm⟩,h⟩
end
end
theorem YB{α β:Type}{x:Option α}{f:α->Option β}{r:β}(h:x.bind f=some r):∃a,x=some a/\f a=some r:=Option.bind_eq_some_iff.1 h
theorem ifT{α:Type}{c:Bool}{x y:Option α}{r:α}(a:c=true)(h:(bif c then x else y)=some r):x=some r:=by subst a;exact h
theorem ifF{α:Type}{c:Bool}{x y:Option α}{r:α}(a:c=false)(h:(bif c then x else y)=some r):y=some r:=by subst a;exact h
def idx{α:Type}(l:List α)(i:Int):Option α:=bif decide (0<=i)then l[i.toNat]? else none
theorem QaZ{α:Type}{l:List α}{i:Int}{x:α}(h:idx l i=some x):0<=i/\l[i.toNat]?=some x:=by
 unfold idx at h;by_cases q:0<=i
 .rw[decide_eq_true q]at h;exact⟨q,h⟩
 .rw[decide_eq_false q]at h;simp at h
def app{α:Type}(l m:List α):Option (List α):=bif Nat.ble (l.length+m.length) Q5 then some (l++m)else none
theorem QoH{α:Type}{l m r:List α}(h:app l m=some r):l.length+m.length<=Q5/\l++m=r:=by
 unfold app at h;cases q:Nat.ble (l.length+m.length) Q5 with
 |true=>rw[q]at h;exact⟨XY q,X7 h⟩
 |false=>rw[q]at h;simp at h
def slc{α:Type}(l:List α)(lo hi:Int):Option (List α):=bif decide (0<=lo)&&decide (lo<=hi)&&decide (hi<=(l.length:Int))then some ((l.take hi.toNat).drop lo.toNat)else none
theorem Qc3{α:Type}{l r:List α}{lo hi:Int}(h:slc l lo hi=some r):0<=lo/\lo<=hi/\hi<=l.length/\(l.take hi.toNat).drop lo.toNat=r:=by
 unfold slc at h;cases q:(decide (0<=lo)&&decide (lo<=hi)&&decide (hi<=(l.length:Int)))with
 |true=>
  rw[q]at h;simp at q;exact⟨q.1.1,q.1.2,q.2,X7 h⟩
 |false=>rw[q]at h;simp at h
def Qgd{α:Type}(l:List α)(i:Int)(x:α):Option (List α):=bif decide (0<=i)&&decide (i<(l.length:Int))then some (l.set i.toNat x)else none
theorem QdQ{α:Type}{e:α->List A}{l:List α}{i:Nat}{x:α}(h:l[i]?=some x):(l.map e)[i]?=some (e x):=by simp[h]
end Go.Sw
namespace Go.Sw
section
variable {P:Program}{h0 N:Nat}{env:Env}{H H':Qc}{Q:QC}{all:Array Oper}{o:Oper}{l:List Oper}{d:Nat}{x:A}
theorem vV(a:OpV P o env H x)(k:WO P h0 N all l (up env d x) H Q)(hg:Qv all o env true:=by exact rfl)(hd:o.dst=some d:=by exact rfl)(hN:Nat.blt d N=true:=by exact rfl):WO P h0 N all (o::l) env H Q:=
 QG hg hd hN a k
theorem vH(a:OpH P o env H x H')(k:WO P h0 N all l (up env d x) H' Q)(hg:Qv all o env true:=by exact rfl)(hd:o.dst=some d:=by exact rfl)(hN:Nat.blt d N=true:=by exact rfl)(hh:Nat.ble h0 H.length=true:=by exact rfl):WO P h0 N all (o::l) env H Q:=
 Qcl (XY hh) hg hd hN a k
theorem vU(a:OpU P o env H H')(k:WO P h0 N all l env H' Q)(hg:Qv all o env true:=by exact rfl)(hd:o.dst=none:=by exact rfl)(hh:Nat.ble h0 H.length=true:=by exact rfl):WO P h0 N all (o::l) env H Q:=
 QiG (XY hh) hg hd a k
theorem gT{j s:Nat}{c x:Bool}(a:x=c)(hg:o.guard=some (j,c):=by exact rfl)(hs:(all[j]?).bind (·.dst)=some s:=by exact rfl)(hl:lk env s=.bool x:=by exact rfl):Qv all o env true:=by
 unfold Qv;rw[hg];exact⟨s,hs,.inl ⟨x,hl,by subst a;cases x<;>rfl⟩⟩
theorem gF{j s:Nat}{c x:Bool}(a:x= !c)(hg:o.guard=some (j,c):=by exact rfl)(hs:(all[j]?).bind (·.dst)=some s:=by exact rfl)(hl:lk env s=.bool x:=by exact rfl):Qv all o env false:=by
 unfold Qv;rw[hg];exact⟨s,hs,.inl ⟨x,hl,by subst a;cases c<;>rfl⟩⟩
theorem Qmu{x x':A}(b:x'=x)(a:H'=H)(k:WO P h0 N all l (up env d x) H Q):WO P h0 N all l (up env d x') H' Q:=by subst b;subst a;exact k
theorem QoK(a:H'=H)(k:WO P h0 N all l env H Q):WO P h0 N all l env H' Q:=by subst a;exact k
theorem Qy{f:FuncId}{args a:List A}{Hc:Qc}{Qr:A->Qc->Prop}(π:List Nat)(b:OpC P o env H f args)(e:C P f a Hc Qr)
  (k:∀r H1,Qr r H1->WO P h0 N all l (up env d (YI (rho π H.length) r)) (Yr H π (H1.map (Q4 (rho π H.length)))) Q)
  (hargs:args=Qaa (rho π H.length) a:=by exact rfl)(hH:π.map (λp=>H[p]?)=(Hc.map (Q4 (rho π H.length))).map some:=by exact rfl)(hπ:π.Nodup:=by decide)
  (hg:Qv all o env true:=by exact rfl)(hd:o.dst=some d:=by exact rfl)(hN:Nat.blt d N=true:=by exact rfl)(hh:Nat.ble h0 H.length=true:=by exact rfl):WO P h0 N all (o::l) env H Q:=
 WO.call (d:=some d) π (XY hh) hg hd (λx g=>by cases g;simpa using hN) b hargs hH hπ e k
end
section
variable {P:Program}{o:Oper}{env:Env}{H:Qc}{α:Type}{e:α->List A}
theorem YJ{c:Call}{t et k:Nat}{x:Operand}{l:List α}(a:∀w,(underlying t).run P w=.ok (.slice et) w)(b:o.op=.call c:=by exact rfl)(hc:c={callee:=.builtin .len,args:= #[x],argTypes:= #[t]}:=by exact rfl)
  (hx:opA env x=.rsl k (l.map e):=by exact rfl):OpV P o env H (.int .i64 l.length):=by
 have:=Qmz (H:=H) b hc a hx
 rwa [X9]at this
theorem Yi{t et k:Nat}{x y:Operand}{l:List α}{b:IntKind}{i:Int}{v:α}(h:idx l i=some v)(a:∀w,(underlying t).run P w=.ok (.slice et) w)(f:∀w,(sizeOf et).run P w=.ok k w)
  (d:o.op=.indexAddr t x y:=by exact rfl)(hx:opA env x=.rsl k (l.map e):=by exact rfl)(hy:opA env y=.int b i:=by exact rfl):OpV P o env H (.rp (e v)):=
 QnE d a f hx hy (QaZ h).1 (QdQ (QaZ h).2)
theorem YC{t et k b n:Nat}{x y:Operand}{l:List α}{a:IntKind}{i:Int}{v:α}(h:idx l i=some v)(m:l.length=n)(f:∀w,(underlying t).run P w=.ok (.slice et) w)(e:∀w,(sizeOf et).run P w=.ok k w)
  (j:o.op=.indexAddr t x y:=by exact rfl)(hx:opA env x=.osl b 0 n k:=by exact rfl)(hy:opA env y=.int a i:=by exact rfl):OpV P o env H (.ptr b (i.toNat*k)):=by
 have:=QaZ h;have g:i.toNat<l.length:=(XS.1 this.2).1;have d:=QnF (H:=H) j f e hx hy this.1 (by omega)
 rwa [Nat.zero_mul,XB]at d
theorem Qkx{b t k f:Nat}{l:List α}{i:Int}{v:α}{cs':List A}(h:idx l i=some v)(a:H[b]?=some (.row t k (l.map e)):=by exact rfl)(hcs:(e v).drop f=cs':=by exact rfl):Pts H (.ptr b (i.toNat*k+f)) cs':=
 Pts.row a rfl (QdQ (QaZ h).2) hcs
theorem QL{b t k:Nat}{l:List α}{i:Int}{v:α}{cs':List A}(h:idx l i=some v)(a:H[b]?=some (.row t k (l.map e)):=by exact rfl)(hcs:e v=cs':=by exact rfl):Pts H (.ptr b (i.toNat*k)) cs':=
 Pts.row (f:=0) a rfl (QdQ (QaZ h).2) hcs
theorem Qs{c:Call}{T T' et et' k i n:Nat}{x y:Operand}{ya:A}{l m r:List α}(h:app l m=some r)(E:Q1 P T et k)(a:∀w,(underlying T').run P w=.ok (.slice et') w)(d:Src P H ya k (m.map e))
  (f:l.length=n:=by exact rfl)(ho:o.op=.call c:=by exact rfl)(hc:c={callee:=.builtin .append,args:= #[x,y],argTypes:= #[T,T']}:=by exact rfl)(hx:opA env x=.osl i 0 n k:=by exact rfl)
  (hH:H[i]?=some (.row et k (l.map e)):=by exact rfl)(hy:opA env y=ya:=by exact rfl):
  OpH P o env H (.osl H.length 0 r.length k) (H.set i .dead++[.row et k (r.map e)]):=by
 obtain⟨b,rfl⟩:=QoH h;subst f;have:=QhX E a ho hc hx hH (by simp) hy d (by simpa using b) (gs:=(l++m).map e) (by rw[List.take_of_length_le (by simp)];simp);simpa using this
theorem Qdi{k:Nat}{l:List α}:Src P H (.rsl k (l.map e)) k (l.map e):=Src.rsl
theorem Yk{i n k t:Nat}{l:List α}(a:H[i]?=some (.row t k (l.map e)):=by exact rfl)(hn:l.length=n:=by exact rfl):Src P H (.osl i 0 n k) k (l.map e):=
 Src.osl a (by subst hn;rw[List.drop_zero,List.take_of_length_le (by simp)]) (by simp[hn])
theorem QaG{t n b T k f:Nat}{x y:Operand}{l l':List α}{i:Int}{v m:α}{vs:List A}{a:A}{off:Nat}(h:idx l i=some v)(d:Qgd l i m=some l')(p:∀w,(sizeOf t).run P w=.ok n w)(g:off=i.toNat*k+f)(j:splice (e v) f vs=e m)
  (r:o.op=.store t x y:=by exact rfl)(hx:opA env x=.ptr b off:=by exact rfl)(hH:H[b]?=some (.row T k (l.map e)):=by exact rfl)
  (hy:opA env y=a:=by exact rfl)(hk:Yu a=true:=by exact rfl)(hv:Yj a=vs:=by exact rfl)(hn:vs.length=n:=by exact rfl)(hp:vs.all YF=true:=by exact rfl)(hd:Yt vs=true:=by exact rfl)(hf:Nat.ble (f+n) k=true:=by exact rfl):
  OpU P o env H (H.set b (.row T k (l'.map e))):=by
 refine QgH r hx hH p g (QdQ (QaZ h).2) hy hk hv hn hp hd hf j ?_;unfold Qgd at d;cases q:(decide (0<=i)&&decide (i<(l.length:Int)))with
 |false=>rw[q]at d;simp at d
 |true=>rw[q]at d;rw[<- X7 d,List.map_set]
end
def ZR(a:A)(v:Value):Prop:=∀ro σ w,VR ro σ w a v
def ZL(az:List A)(l:List Value):Prop:=∀ro σ w,LR ro σ w az l
theorem ZR.int{k:IntKind}{n:Int}:ZR (.int k n) (.int k n):=λ_ _ _=>rfl
theorem ZR.bool{b:Bool}:ZR (.bool b) (.bool b):=λ_ _ _=>rfl
theorem ZR.str:ZR (.str []) (.string ⟨#[]⟩):=λ_ _ _=>rfl
theorem ZR.rsl{α:Type}{k:Nat}{e:α->List A}:ZR (.rsl k (List.map e [])) (.slice none 0 0):=λ_ _ _=>⟨none,0,rfl,X0 _,.inl rfl⟩
theorem ZR.nils:ZR .nils (.slice none 0 0):=λ_ _ _=>rfl
theorem ZR.nilp:ZR .nilp (.pointer none):=λ_ _ _=>rfl
theorem ZR.nilf:ZR .nilf .nilFunc:=λ_ _ _=>rfl
theorem ZR.nilm:ZR .nilm (.map none):=λ_ _ _=>rfl
theorem QnB:ZR .nilif .nilIface:=λ_ _ _=>rfl
theorem ZL.nil:ZL [] []:=λ_ _ _=>rfl
theorem ZL.cons{a:A}{v:Value}{az:List A}{l:List Value}(h:ZR a v)(k:ZL az l):ZL (a::az) (v::l):=λro σ w=>⟨v,l,rfl,h ro σ w,k ro σ w⟩
theorem ZR.agg{az:List A}{l:List Value}(h:ZL az l):ZR (.agg az) (.agg l.toArray):=λro σ w=>⟨l,rfl,h ro σ w⟩
section
variable {P:Program}{o:Oper}{env:Env}{H:Qc}
theorem Qcn{t:Nat}{z:Value}{v:A}{cs:List A}(h:∀w,(zeroValue t).run P w=.ok z w)(g:ZR v z)(i:o.op=.alloc t:=by exact rfl)(hk:Yu v=true:=by exact rfl)(hcs:Yj v=cs:=by exact rfl)(hpl:cs.all YF=true:=by exact rfl):
  OpH P o env H (.ptr H.length 0) (H++[.cells t cs]):=by
 intro j d σ N a w r;obtain⟨l,f,b⟩:=(g d σ w).cells hk;subst hcs;refine⟨.pointer (some ⟨w.heap.size,0,none⟩),w.alloc (.cells l.toArray t),d,[some w.heap.size],?_,⟨w.heap.size,?_,rfl⟩,r.sim.allocCells b (b.plain hpl),Qi.alloc _ r.sim.roLt r.sim.frLt⟩
 .generalize a.eval=ρ at*;have e:(newVar t z).run P w=.ok ⟨w.heap.size,0,none⟩ (w.alloc (.cells l.toArray t)):=by
   unfold newVar;rw[f];rfl
  simp only[execOp,i,Instr.alloc,Vu,h,Result.andThen,e];rfl
 .rw[<- r.sim.len];simp
theorem QeS{t:TypeId}{p q:Bool}{w:World}(a:∀w,(underlying t).run P w=.ok .bool w):(Op.equal t (.bool p) (.bool q)).run P w=.ok (p==q) w:=by
 have k:∀d,(Op.equalIn (d+1) t (.bool p) (.bool q)).run P w=.ok (p==q) w:=by
  intro d;simp[Op.equalIn,a,go_sem]
 exact k 9999
theorem Qfc{t u:TypeId}{x y:Operand}{p q:Bool}(b:∀w,(underlying t).run P w=.ok .bool w)(f:o.op=.binOp .eql t x y u:=by exact rfl)(hx:opA env x=.bool p:=by exact rfl)(hy:opA env y=.bool q:=by exact rfl):OpV P o env H (.bool (p==q)):=by
 intro g h σ N a w r;have d:=Qa4 r hx;have e:=Qa4 r hy;refine⟨_,?_,rfl⟩;generalize a.eval=ρ at*;simp[execOp,f,d,e,Go.binOp,eqGuard,QeS b,go_sem]
theorem Qfb{t u:TypeId}{x y:Operand}{p q:Bool}(b:∀w,(underlying t).run P w=.ok .bool w)(f:o.op=.binOp .neq t x y u:=by exact rfl)(hx:opA env x=.bool p:=by exact rfl)(hy:opA env y=.bool q:=by exact rfl):OpV P o env H (.bool (p != q)):=by
 intro g h σ N a w r;have d:=Qa4 r hx;have e:=Qa4 r hy;refine⟨_,?_,rfl⟩;generalize a.eval=ρ at*;simp[execOp,f,d,e,Go.binOp,eqGuard,QeS b,go_sem,bne]
theorem QV{t:TypeId}{x y:Operand}{s:List UInt8}{k:IntKind}{i:Int}{c:UInt8}(h:idx s i=some c)(a:∀w,(underlying t).run P w=.ok .string w)(b:o.op=.index t x y:=by exact rfl)(hx:opA env x=.str s:=by exact rfl)(hy:opA env y=.int k i:=by exact rfl):
  OpV P o env H (.int .u8 c.toNat):=QkB b a hx hy (QaZ h).1 (QaZ h).2
theorem Qbf{α:Type}{e:α->List A}{T et k:Nat}{x:Operand}{lo hi:Option Operand}{l r:List α}{a b:Int}(h:slc l a b=some r)(E1:∀w,(underlying T).run P w=.ok (.slice et) w)(E2:∀w,(sizeOf et).run P w=.ok k w)
  (g:lo=none/\a=0\/ ∃y,lo=some y/\opA env y=.int .i64 a)(i:hi=none/\b=l.length\/ ∃y,hi=some y/\opA env y=.int .i64 b)
  (j:o.op=.slice T x lo hi none:=by exact rfl)(hx:opA env x=.rsl k (l.map e):=by exact rfl):OpV P o env H (.rsl k (r.map e)):=by
 obtain⟨m,n,p,rfl⟩:=Qc3 h;refine QmC (l:=a.toNat) (h:=b.toNat) E1 E2 j hx ?_ ?_ (by omega) (by simp;omega) (by simp)
 .rcases g with⟨f,d⟩|⟨y,f,d⟩
  .exact .inl ⟨f,by rw[d];rfl⟩
  .exact .inr ⟨y,a,f,d,m,rfl⟩
 .rcases i with⟨f,d⟩|⟨y,f,d⟩
  .exact .inl ⟨f,by rw[d];simp⟩
  .exact .inr ⟨y,b,f,d,by omega,rfl⟩
theorem QkD{c:Call}{t et i n k:Nat}{x:Operand}(a:∀w,(underlying t).run P w=.ok (.slice et) w)(b:o.op=.call c:=by exact rfl)(hc:c={callee:=.builtin .len,args:= #[x],argTypes:= #[t]}:=by exact rfl)
  (hx:opA env x=.osl i 0 n k:=by exact rfl):OpV P o env H (.int .i64 n):=QmA b hc a hx
end
def Qd(k:IntKind)(n:Int):List A:=[.int k n]
def encB(b:Bool):List A:=[.bool b]
def Jo(s:List UInt8):List A:=[.str s]
def YD{α:Type}(k:Nat)(e:α->List A)(l:List α):List A:=[.rsl k (l.map e)]
end Go.Sw
namespace Go.Sw
theorem QkW{P:Program}{rd:Option Nat}{o:Oper}{a:Act}{next:Act->World->Prop}{Q:Exit->Act->World->Prop}{b:Result Next}
  (p:∀a' w',next a' w'->a'.defers=a.defers)(h:o.uponIn (WF rd) 0 P a next Q b):
  o.uponIn (WF rd) 0 P a (λa' w'=>next a' w'/\ ∃v,a'=a.put o.dst v) Q b:=by
 cases b with
 |ok n w'=>
  cases n with
  |value v=>exact⟨h,_,rfl⟩
  |skip=>exact⟨h,_,rfl⟩
  |defer d=>
   have:=congrArg List.length (p _ _ h);exfalso
   revert this
   cases o.dst<;>simp[Act.put]
  |enter f i=>
   exact⟨h.1,CallsIn.mono h.2 (λe j g=>by cases e<;>first|exact⟨g,_,rfl⟩|exact g)⟩
  |row r i=>exact⟨h.1,RowsIn.mono h.2 (λ_ _ g=>⟨g,_,rfl⟩)⟩
  |round l f m assign k=>exact⟨h.1,RoundIn.mono h.2 (λe j g=>by cases e<;>first|exact⟨g,_,rfl⟩|exact g)⟩
  |_=>exact h.elim
 |halt x w'=>cases x<;>first|exact h|exact h.elim
def Jb(e:Env)(H:Qc):QC:=λx e' H'=>x=.normal/\e'=e/\H'=H
theorem Jb.mk{e:Env}{H:Qc}:Jb e H .normal e H:=⟨rfl,rfl,rfl⟩
inductive Sb (af bf ds:List Nat) (xs:List A) (env0:Env):Env->Prop
 |nil:Sb af bf ds xs env0 []
 |dep (j:Nat) {s:Nat}{a:A}{r:Env} (h1:af.contains j=true) (h2:ds[j]?=some s) (h3:xs[j]?=some a) (k:Sb af bf ds xs env0 r):Sb af bf ds xs env0 ((s,a)::r)
 |old {s:Nat}{a:A}{r:Env} (h1:ds.contains s=false) (h2:lk env0 s=a) (k:Sb af bf ds xs env0 r):Sb af bf ds xs env0 ((s,a)::r)
 |pre (j:Nat) {s:Nat}{a:A}{r:Env} (h1:bf.contains j=true) (h2:ds[j]?=some s) (h3:lk env0 s=a) (k:Sb af bf ds xs env0 r):Sb af bf ds xs env0 ((s,a)::r)
def Qk(o:Oper):List Nat:=(o.after.toList.filter (Region.binds .any)).map (·.on)
def Qkp(l:List Oper)(i:Nat):List Nat:=(List.range l.length).filter λj=>((l[j]?).map Qk).getD [] |>.contains i
inductive Qfd (P:Program) (N:Nat) (l:List Oper) (ds:List Nat) (xs:List A) (env0:Env) (i:Nat) (H H':Qc):Prop
 |mk (o:Oper) (e:Env) (d:Nat) (x:A) (ho:l[i]?=some o) (hd:o.dst=some d) (hx:xs[i]?=some x) (hs:Sb (Qk o) (Qkp l i) ds xs env0 e)
   (h:WO P H.length N l.toArray [o] e H (Jb (up e d x) H')):Qfd P N l ds xs env0 i H H'
theorem least{p:Nat->Prop}(d:∀i,p i\/ ¬p i):∀n,p n->∃i,i<=n/\p i/\ ∀j,j<i->¬p j:=by
 intro n
 induction n using Nat.strongRecOn with
 |ind n e=>
  intro h;by_cases q:∃j,j<n/\p j
  .obtain⟨j,a,b⟩:=q;obtain⟨i,k,f,g⟩:=e j a b;exact⟨i,by omega,f,g⟩
  .exact⟨n,X0 _,h,λj a b=>q ⟨j,a,b⟩⟩
def onL(L:Array Bool)(i:Nat):Prop:=L[i]?=some true
theorem Qjc{L:Array Bool}{i:Nat}(hi:i<L.size)(b:Bool):L.getD i b=true↔onL L i:=by
 unfold onL;rw[Array.getD_eq_getD_getElem?,Array.getElem?_eq_getElem hi];simp
theorem QaB{l:List Oper}{L:Array Bool}(n:L.size=l.length){i:Nat}:
  i∈Region.ready .any l.toArray L↔ ∃o,l[i]?=some o/\ ¬onL L i/\ ∀j∈Qk o,onL L j:=by
 unfold Region.ready;simp only[Xe,List.mem_range,List.size_toArray,X4,Bool.not_eq_true',XN];have f:∀j,L.getD j false=true↔onL L j:=by
  intro j;unfold onL;rw[Array.getD_eq_getD_getElem?];cases L[j]? <;>simp
 constructor
 .rintro⟨a,b,d⟩;refine⟨l[i],XR a,?_,?_⟩
  .intro q;rw[<- Qjc (by omega) true]at q;rw[q]at b;cases b
  .rw[XR a]at d;simp only[Xk,Option.getD_some,Array.all_eq_true']at d;intro j h;unfold Qk at h;simp only[Xf,Xe,Array.mem_toList_iff]at h;obtain⟨e,⟨g,k⟩,rfl⟩:=h;have:=d e g;rw[k]at this;exact(f _).1 (by simpa using this)
 .rintro⟨o,a,b,d⟩;have m:i<l.length:=(XS.1 a).1;refine⟨m,?_,?_⟩
  .rw[<- Qjc (by omega) true]at b;simpa using b
  .rw[a];simp only[Xk,Option.getD_some,Array.all_eq_true'];intro e g;cases k:Region.binds .any e with
   |false=>simp
   |true=>
    have:=(f _).2 (d e.on (by unfold Qk;simp only[Xf,Xe,Array.mem_toList_iff];exact⟨e,⟨g,k⟩,rfl⟩));simpa using this
theorem Jq{L:Array Bool}{i j:Nat}(hi:i<L.size):onL (L.setIfInBounds i true) j↔j=i\/onL L j:=by
 unfold onL;rw[Vm];by_cases h:i=j
 .subst h;simp[hi]
 .have a:¬j=i:=λq=>h q.symm;simp[h,a]
def unl(L:Array Bool):Nat:=L.toList.countP (!·)
theorem Qgb{L:Array Bool}{i:Nat}(hi:i<L.size)(h:¬onL L i):unl (L.setIfInBounds i true)+1=unl L:=by
 unfold unl;have a:i<L.toList.length:=by simpa using hi
 have b:L.toList[i]=false:=by
  unfold onL at h;rw[Array.getElem?_eq_getElem hi]at h;simpa using h
 rw[Array.toList_setIfInBounds,List.countP_set a];have:0<L.toList.countP (!·):=List.countP_pos_iff.2 ⟨L.toList[i],Vl a,by rw[b];rfl⟩;rw[b,if_pos (by rfl),if_neg (by decide)];omega
theorem QiW{L:Array Bool}{i:Nat}(hi:i<L.size)(h:¬onL L i):0<unl L:=by have:=Qgb hi h;omega
inductive Qb9 (l:List Oper) (m:Nat):Nat->Prop
 |one {o:Oper}{j:Nat} (ho:l[m]?=some o) (hj:j∈Qk o):Qb9 l m j
 |step {o:Oper}{i j:Nat} (h:Qb9 l m i) (ho:l[i]?=some o) (hj:j∈Qk o):Qb9 l m j
def Qeh(l:List Oper):Nat->List Nat->List Nat
 |0,S=>S
 |j+1,S=>Qeh l j (bif S.contains j then S++(match l[j]? with|some o=>Qk o|none=>[])else S)
theorem QbV{l:List Oper}{m:Nat}:∀(n:Nat) (S:List Nat),(∀j∈S,Qb9 l m j)->∀j∈Qeh l n S,Qb9 l m j
 |0,S,h,j,hj=>h j hj
 |n+1,S,h,j,hj=>by
  refine QbV n _ ?_ j hj;intro i hi;cases q:S.contains n with
  |false=>rw[q]at hi;exact h i hi
  |true=>
   rw[q]at hi;rcases List.mem_append.1 hi with z|z
   .exact h i z
   .cases ho:l[n]? with
    |none=>rw[ho]at z;cases z
    |some o=>rw[ho]at z;exact .step (h n (by simpa using q)) ho z
def Qat(ds:List Nat)(xs:List A)(env0:Env):Env:=ds.zip xs++env0
theorem Qm7{a:List Nat}{xs:List A}{env0:Env}(f:a.length=xs.length)(s:Nat):
  (∃(j:Nat) (x:A),a[j]?=some s/\xs[j]?=some x/\lk (Qat a xs env0) s=x)\/(a.contains s=false/\lk (Qat a xs env0) s=lk env0 s):=by
 unfold Qat
 induction a generalizing xs with
 |nil=>right;simp
 |cons d a i=>
  cases xs with
  |nil=>simp at f
  |cons x xs=>
   simp only[X8,Nat.add_right_cancel_iff]at f;simp only[List.zip_cons_cons,List.cons_append,lk];cases h:Nat.beq s d with
   |true=>
    obtain rfl:=XX h;left;exact⟨0,x,rfl,rfl,by simp⟩
   |false=>
    have b:s≠d:=λq=>by subst q;simp[Nat.beq_refl]at h
    rcases i f with⟨j,y,e,g,k⟩|⟨e,g⟩
    .left;exact⟨j+1,y,by simpa using e,by simpa using g,by simpa using k⟩
    .right;refine⟨?_,by simpa using g⟩;simp only[List.contains_cons,e,Bool.or_false];simpa using b
def drawChk.nodupB:List Nat->Bool
 |[]=>true
 |x::r=> !r.contains x&&drawChk.nodupB r
def drawChk.goB(l:List Oper)(m:Nat):Nat->List Oper->Bool
 |_,[]=>true
 |i,o::r=>(Qk o).all (λj=>Nat.blt j i)&&(bif Nat.beq i m then(List.range m).all (λj=>(Qeh l m (Qk o)).contains j)else bif Nat.blt m i then(Qk o).contains (i-1)else true)&&drawChk.goB l m (i+1) r
def drawChk.loB(m k:Nat)(los:List Nat)(hs:List Bool):Nat->List Oper->Bool
 |_,[]=>(List.range k).all λj=>(List.range m).any λi=>hs.getD i false&&Nat.beq (los.getD i 0) j
 |i,o::r=>(bif Nat.blt i m then
   (Nat.beq (los.getD i 0) 0||(Qk o).any (λj=>Nat.blt j m&&Nat.ble (los.getD i 0) (los.getD j 0+(if hs.getD j false then 1 else 0))))
   &&(!hs.getD i false||(Nat.blt (los.getD i 0) k&&(List.range m).all (λj=> !hs.getD j false|| !Nat.beq (los.getD i 0) (los.getD j 0)||Nat.beq i j)))
  else true)&&drawChk.loB m k los hs (i+1) r
def drawChk(l:List Oper)(m k N:Nat)(ds los:List Nat)(hs:List Bool):Bool:=
 Nat.ble m l.length&&(ds.length==m)&&(l.take m).map (·.dst)==ds.map some&&ds.all (λd=>Nat.blt d N)&&drawChk.nodupB ds
 &&drawChk.goB l m 0 l&&(drawChk.loB m k los hs 0 l)
theorem Qdr{e:List Nat}(h:drawChk.nodupB e=true):∀(i j d:Nat),e[i]?=some d->e[j]?=some d->i=j:=by
 induction e with
 |nil=>intro i j d a;simp at a
 |cons x r g=>
  simp only[drawChk.nodupB,X4,Bool.not_eq_true']at h;have f:∀(i:Nat),r[i]? ≠some x:=by
   intro i q;have:r.contains x=true:=by simpa using List.mem_of_getElem? q
   rw[this]at h;cases h.1
  intro i j d a b;cases i with
  |zero=>
   cases j with
   |zero=>rfl
   |succ j=>simp at a b;subst a;exact absurd b (f j)
  |succ i=>
   cases j with
   |zero=>simp at a b;subst b;exact absurd a (f i)
   |succ j=>simp at a b;rw[g h.2 i j d a b]
theorem Qhb{l:List Oper}{m:Nat}:∀(r:List Oper) (b:Nat),drawChk.goB l m b r=true->∀(i:Nat) (o:Oper),r[i]?=some o->
  (∀j∈Qk o,j<b+i)/\(b+i=m->∀j,j<m->j∈Qeh l m (Qk o))/\(m<b+i->b+i-1∈Qk o):=by
 intro r
 induction r with
 |nil=>intro b h i o d;simp at d
 |cons x r n=>
  intro b h i o d;simp only[drawChk.goB,X4]at h;cases i with
  |zero=>
   simp at d;subst d;refine⟨λj g=>?_,λf j g=>?_,λf=>?_⟩
   .have:=Xw.1 h.1.1 j g;simpa using this
   .have a:=h.1.2;have k:Nat.beq b m=true:=by subst f;simp
    rw[k]at a;simp only[cond_true]at a;have:=Xw.1 a j (List.mem_range.2 g);simpa using this
   .have a:=h.1.2;have k:Nat.beq b m=false:=by
     cases q:Nat.beq b m with
     |false=>rfl
     |true=>have:=XX q;omega
    have p:Nat.blt m b=true:=by simpa using f
    rw[k,p]at a;simpa using a
  |succ i=>
   have:=n (b+1) h.2 i o (by simpa using d);have e:b+1+i=b+(i+1):=by omega
   rw[e]at this;exact this
inductive Ob (P:Program) (N:Nat) (l:List Oper) (ds:List Nat) (xs:List A) (env0:Env):Nat->List (List (Qc×Qc))->Prop
 |nil {i:Nat}:Ob P N l ds xs env0 i []
 |cons {i:Nat}{s:List (Qc×Qc)}{r:List (List (Qc×Qc))} (h:∀p∈s,Qfd P N l ds xs env0 i p.1 p.2) (k:Ob P N l ds xs env0 (i+1) r):Ob P N l ds xs env0 i (s::r)
theorem Ob.get{P:Program}{N:Nat}{l:List Oper}{e:List Nat}{xs:List A}{env0:Env}{b:Nat}{d:List (List (Qc×Qc))}(h:Ob P N l e xs env0 b d):
  ∀(i:Nat) (s:List (Qc×Qc)),d[i]?=some s->∀p∈s,Qfd P N l e xs env0 (b+i) p.1 p.2:=by
 induction h with
 |nil=>intro i s h;simp at h
 | @cons b1 s1 r1 h _ ih=>
  intro i s a p f;cases i with
  |zero=>simp at a;subst a;exact h p f
  |succ i=>
   have:=ih i s (by simpa using a) p f
   rwa [show b1+1+i=b1+(i+1)by omega]at this
theorem Ob.st0{P:Program}{N:Nat}{l:List Oper}{a:List Nat}{xs:List A}{env0:Env}{i:Nat}:∀p∈([]:List (Qc×Qc)),Qfd P N l a xs env0 i p.1 p.2:=by
 intro p b;cases b
theorem Ob.stC{P:Program}{N:Nat}{l:List Oper}{a:List Nat}{xs:List A}{env0:Env}{i:Nat}{H H':Qc}{r:List (Qc×Qc)}(h:Qfd P N l a xs env0 i H H')
  (k:∀p∈r,Qfd P N l a xs env0 i p.1 p.2):∀p∈(H,H')::r,Qfd P N l a xs env0 i p.1 p.2:=by
 intro p b;rcases Ve.1 b with rfl|q
 .exact h
 .exact k p q
theorem Qbh.nil{H:Qc}:Qbh H [] []:=trivial
theorem Qbh.cons{H:Qc}{az d f:List A}{a b:A}(e:az=a::d)(h:Look H a b)(k:Qbh H d f):Qbh H az (b::f):=by subst e;exact⟨h,k⟩
section
variable {P:Program}{o:Oper}{env:Env}{H:Qc}{α:Type}{e:α->List A}
theorem Qe8{t et k:Nat}{x y:Operand}{l:List α}{b:IntKind}{i:Int}{v:α}{cs:List A}(h:idx l i=some v)(he:e v=cs)(a:∀w,(underlying t).run P w=.ok (.slice et) w)(f:∀w,(sizeOf et).run P w=.ok k w)
  (d:o.op=.indexAddr t x y:=by exact rfl)(hx:opA env x=.rsl k (l.map e):=by exact rfl)(hy:opA env y=.int b i:=by exact rfl):OpV P o env H (.rp cs):=
 he▸Yi h a f d hx hy
end
end Go.Sw
namespace Go.Sw
inductive PL (P:Program):List Field->List (Nat×Nat)->Prop
 |nil:PL P [] []
 |cons {f:Field}{n:Nat}{fs:List Field}{pl:List (Nat×Nat)} (h:∀w,(sizeOf f.type).run P w=.ok n w) (k:PL P fs pl):PL P (f::fs) ((f.offset,n)::pl)
theorem PL.run{P:Program}{fs:List Field}{a:List (Nat×Nat)}(h:PL P fs a):∀w,(fs.mapM λf=>(do pure (f.offset, <- sizeOf f.type):Sem (Nat×Nat))).run P w=.ok a w:=by
 induction h with
 |nil=>intro w;rfl
 |cons h _ ih=>
  intro w;rw[List.mapM_cons];simp only[Vu,h,Result.andThen,Vv,ih]
structure QP (P:Program) (t:TypeId) (pl:List (Nat×Nat)):Prop where
 un:∃fs:List Field,(∀w,(underlying t).run P w=.ok (.struct fs.toArray) w)/\PL P fs pl
section
variable {P:Program}{o:Oper}{env:Env}{H:Qc}
def QeA(env:Env)(pl:List (Nat×Nat)):List A->List (Nat×Operand)->Option (List A)
 |cs,[]=>some cs
 |cs,(i,x)::r=>match pl[i]? with
  |none=>none
  |some (off,size)=>bif Yu (opA env x)&&Nat.beq (Yj (opA env x)).length size&&Nat.ble (off+size) cs.length then QeA env pl (splice cs off (Yj (opA env x))) r else none
theorem Qhj{fr ro:Nat->Prop}{σ:Sig}{N:Nat}{a:Act}{w:World}(r:Rel fr ro σ H env N a w){b:List (Nat×Nat)}:∀(parts:List (Nat×Operand)) (cs:List A) (l:List Value) (cs':List A),
  LR ro σ w cs l->QeA env b cs parts=some cs'->
  ∃l',Instr.fill (b.toArray[·]?) l.toArray (parts.map λp=>(p.1,a.eval p.2))=some l'.toArray/\LR ro σ w cs' l'
 |[],cs,l,cs',h,q=>by
  cases q;exact⟨l,rfl,h⟩
 |(i,x)::rest,cs,l,cs',h,q=>by
  unfold QeA at q;cases hp:b[i]? with
  |none=>rw[hp]at q;cases q
  |some p=>
   obtain⟨off,size⟩:=p;rw[hp]at q;simp only at q;cases hc:(Yu (opA env x)&&Nat.beq (Yj (opA env x)).length size&&Nat.ble (off+size) cs.length)with
   |false=>rw[hc]at q;cases q
   |true=>
    rw[hc]at q;simp only[X4]at hc;obtain⟨⟨c1,c2⟩,c3⟩:=hc;obtain⟨m,q1,q2⟩:=(Qj r x).cells c1;have hm:m.length=size:=by rw[q2.length];exact XX c2
    have d:l.length=cs.length:=h.length;obtain⟨l',e,f⟩:=Qhj r rest _ (splice l off m) cs' (h.splice off q2) q;refine⟨l',?_,f⟩;rw[Vr,QfJ (off:=off) (size:=size) (by simpa using hp) q1 hm (by rw[d];exact XY c3)];exact e
theorem OpV.build{t:TypeId}{z:Value}{zs cs:List A}{d:List (Nat×Nat)}{parts:List (Nat×Operand)}(i:∀w,(zeroValue t).run P w=.ok z w)(h:ZR (.agg zs) z)(n:QP P t d)
  (p:o.op=.build t parts.toArray:=by exact rfl)(hf:QeA env d zs parts=some cs:=by exact rfl):OpV P o env H (.agg cs):=by
 intro s j σ N a w r;obtain⟨u,e,k⟩:=n.un;obtain⟨l,rfl,g⟩:=h j σ w;obtain⟨b,f,q⟩:=Qhj r parts zs l cs g hf;refine⟨.agg b.toArray,?_,b,rfl,q⟩;generalize hρ:a.eval=ρ at*;have m:=k.run w;simp only[execOp,p,Instr.build,Vu,i,Result.andThen,e,XP,List.mapM_toArray,Sem.run_map,m,Value.cells,f,Vv]
end
def nz(n:Int):Option Unit:=bif n==0 then none else some ()
theorem QnS{n:Int}{u:Unit}(h:nz n=some u):n≠0:=by
 rintro rfl;simp[nz]at h
section
variable {P:Program}{o:Oper}{env:Env}{H:Qc}
theorem Qe6{x:Operand}{a:A}(g:o.op=.nilCheck x)(i:opA env x=a:=by exact rfl)(hk:(match a with|.ptr _ _=>true|.rp _=>true|_=>false)=true:=by exact rfl):OpV P o env H a:=by
 intro k j σ N ac w r;have h:=Qj r x;rw[i]at h;cases a<;>first|(cases hk;done)|skip
 .obtain⟨b,d,f⟩:=h;refine⟨_,?_,b,d,rfl⟩;generalize ac.eval=ρ at*;simp[execOp,g,f,go_sem]
 .obtain⟨b,e,d,f⟩:=h;refine⟨_,?_,b,e,rfl,f⟩;generalize ac.eval=ρ at*;simp[execOp,g,d,go_sem]
end
mutual
def FzA(i k:Nat)(es:List (List A)):A->A->Prop
 |.agg az,b=>∃bs,b=.agg bs/\FzL i k es az bs
 |.fn f x c,b=>∃x' c',b=.fn f x' c'/\FzL i k es x x'/\FzL i k es c c'
 |.iface t a,b=>∃a',b=.iface t a'/\FzA i k es a a'
 |.tup az,b=>∃bs,b=.tup bs/\FzL i k es az bs
 |.osl j o n k',b=>b=.osl j o n k'\/(j=i/\o=0/\k'=k/\n=es.length/\b=.rsl k es)
 |.nils,b=>b=.nils\/ ∃k',b=.rsl k' []
 |a,b=>b=a
def FzL(i k:Nat)(es:List (List A)):List A->List A->Prop
 |[],b=>b=[]
 |a::az,b=>∃a' as',b=a'::as'/\FzA i k es a a'/\FzL i k es az as'
end
mutual
theorem FzA.refl{i k:Nat}{es:List (List A)}:∀a:A,FzA i k es a a
 |.agg az=>⟨az,rfl,FzL.refl az⟩
 |.fn _ x c=>⟨x,c,rfl,FzL.refl x,FzL.refl c⟩
 |.iface _ a=>⟨a,rfl,FzA.refl a⟩
 |.tup az=>⟨az,rfl,FzL.refl az⟩
 |.osl _ _ _ _=>.inl rfl
 |.nils=>.inl rfl
 |.any=>rfl
 |.bool _=>rfl
 |.int _ _=>rfl
 |.str _=>rfl
 |.nilp=>rfl
 |.ptr _ _=>rfl
 |.rp _=>rfl
 |.rsl _ _=>rfl
 |.nilf=>rfl
 |.nilif=>rfl
 |.map _=>rfl
 |.nilm=>rfl
theorem FzL.refl{i k:Nat}{es:List (List A)}:∀az:List A,FzL i k es az az
 |[]=>rfl
 |a::az=>⟨a,az,rfl,FzA.refl a,FzL.refl az⟩
end
theorem FzA.agg{i k:Nat}{es:List (List A)}{az bs:List A}(h:FzL i k es az bs):FzA i k es (.agg az) (.agg bs):=⟨bs,rfl,h⟩
theorem FzA.tup{i k:Nat}{es:List (List A)}{az bs:List A}(h:FzL i k es az bs):FzA i k es (.tup az) (.tup bs):=⟨bs,rfl,h⟩
theorem FzA.iface{i k:Nat}{es:List (List A)}{t:Nat}{a b:A}(h:FzA i k es a b):FzA i k es (.iface t a) (.iface t b):=⟨b,rfl,h⟩
theorem FzA.own{i k n:Nat}{es:List (List A)}(hn:n=es.length):FzA i k es (.osl i 0 n k) (.rsl k es):=.inr ⟨rfl,rfl,rfl,hn,rfl⟩
theorem FzA.nil{i k k':Nat}{es:List (List A)}:FzA i k es .nils (.rsl k' []):=.inr ⟨k',rfl⟩
theorem FzL.cons{i k:Nat}{es:List (List A)}{a b:A}{az bs:List A}(h:FzA i k es a b)(q:FzL i k es az bs):FzL i k es (a::az) (b::bs):=⟨b,bs,rfl,h,q⟩
mutual
theorem QiQ{i k:Nat}{es:List (List A)}{ro ro':Nat->Prop}{σ:Sig}{w:World}(ext:Ext ro σ w ro' σ w)
  (hf:∀v,VR ro σ w (.osl i 0 es.length k) v->VR ro' σ w (.rsl k es) v):∀(a b:A) (v:Value),FzA i k es a b->VR ro σ w a v->VR ro' σ w b v
 |.agg az,b,v,h,q=>by
  obtain⟨bs,rfl,h⟩:=h;obtain⟨l,rfl,q⟩:=q;exact⟨l,rfl,Qdl ext hf az bs l h q⟩
 |.fn f x c,b,v,h,q=>by
  obtain⟨x',c',rfl,h1,h2⟩:=h;obtain⟨l,l',rfl,q1,q2⟩:=q;exact⟨l,l',rfl,Qdl ext hf x x' l h1 q1,Qdl ext hf c c' l' h2 q2⟩
 |.iface t a,b,v,h,q=>by
  obtain⟨a',rfl,h⟩:=h;obtain⟨x,rfl,q⟩:=q;exact⟨x,rfl,QiQ ext hf a a' x h q⟩
 |.tup az,b,v,h,q=>by
  obtain⟨bs,rfl,h⟩:=h;obtain⟨l,rfl,q⟩:=q;exact⟨l,rfl,Qdl ext hf az bs l h q⟩
 |.osl j o n k',b,v,h,q=>by
  rcases h with rfl|⟨rfl,rfl,rfl,rfl,rfl⟩
  .exact q.mono ext
  .exact hf v q
 |.nils,b,v,h,q=>by
  rcases h with rfl|⟨k',rfl⟩
  .exact q
  .obtain rfl:v=.slice none 0 0:=q;exact⟨none,0,rfl,X0 _,.inl rfl⟩
 |.any,b,v,h,q=>by obtain rfl:b=_:=h;trivial
 |.bool _,b,v,h,q=>by obtain rfl:b=_:=h;exact q
 |.int _ _,b,v,h,q=>by obtain rfl:b=_:=h;exact q
 |.str _,b,v,h,q=>by obtain rfl:b=_:=h;exact q
 |.nilp,b,v,h,q=>by obtain rfl:b=_:=h;exact q
 |.ptr _ _,b,v,h,q=>by obtain rfl:b=_:=h;exact q.mono ext
 |.rp _,b,v,h,q=>by obtain rfl:b=_:=h;exact q.mono ext
 |.rsl _ _,b,v,h,q=>by obtain rfl:b=_:=h;exact q.mono ext
 |.nilf,b,v,h,q=>by obtain rfl:b=_:=h;exact q
 |.nilif,b,v,h,q=>by obtain rfl:b=_:=h;exact q
 |.map _,b,v,h,q=>by obtain rfl:b=_:=h;exact q.mono ext
 |.nilm,b,v,h,q=>by obtain rfl:b=_:=h;exact q
theorem Qdl{i k:Nat}{es:List (List A)}{ro ro':Nat->Prop}{σ:Sig}{w:World}(ext:Ext ro σ w ro' σ w)
  (hf:∀v,VR ro σ w (.osl i 0 es.length k) v->VR ro' σ w (.rsl k es) v):∀(az bs:List A) (l:List Value),FzL i k es az bs->LR ro σ w az l->LR ro' σ w bs l
 |[],bs,l,h,q=>by obtain rfl:bs=[]:=h;exact q
 |a::az,bs,l,h,q=>by
  obtain⟨a',as',rfl,h1,h2⟩:=h;obtain⟨v,l',rfl,q1,q2⟩:=q;exact⟨v,l',rfl,QiQ ext hf a a' v h1 q1,Qdl ext hf az as' l' h2 q2⟩
end
def FzB(i k:Nat)(es:List (List A))(x y:Blk):Prop:=y=x\/ ∃t cs cs',x=.cells t cs/\y=.cells t cs'/\FzL i k es cs cs'
def FzH(i k:Nat)(es:List (List A)):Qc->Qc->Prop
 |[],h=>h=[]
 |x::r,h=>∃y r',h=y::r'/\FzB i k es x y/\FzH i k es r r'
def QmK(i k:Nat)(es:List (List A))(env:Env):Env->Prop
 |[]=>True
 |(s,a)::r=>FzA i k es (lk env s) a/\QmK i k es env r
theorem FzH.nil{i k:Nat}{es:List (List A)}:FzH i k es [] []:=rfl
theorem FzH.keep{i k:Nat}{es:List (List A)}{x:Blk}{r r':Qc}(h:FzH i k es r r'):FzH i k es (x::r) (x::r'):=⟨x,r',rfl,.inl rfl,h⟩
theorem FzH.cells{i k t:Nat}{es:List (List A)}{cs cs':List A}{r r':Qc}(q:FzL i k es cs cs')(h:FzH i k es r r'):FzH i k es (.cells t cs::r) (.cells t cs'::r'):=⟨_,r',rfl,.inr ⟨t,cs,cs',rfl,rfl,q⟩,h⟩
theorem FzH.get{i k:Nat}{es:List (List A)}:∀{H H':Qc},FzH i k es H H'->∀(j:Nat) (y:Blk),H'[j]?=some y->∃x,H[j]?=some x/\FzB i k es x y
 |[],_,h,j,y,q=>by obtain rfl:_=[]:=h;simp at q
 |x::r,_,h,j,y,q=>by
  obtain⟨y',r',rfl,h1,h2⟩:=h;cases j with
  |zero=>simp at q;subst q;exact⟨x,rfl,h1⟩
  |succ j=>simp at q;obtain⟨x',p1,p2⟩:=h2.get j y q;exact⟨x',by simpa using p1,p2⟩
theorem FzH.len{i k:Nat}{es:List (List A)}:∀{H H':Qc},FzH i k es H H'->H'.length=H.length
 |[],_,h=>by obtain rfl:_=[]:=h;rfl
 |x::r,_,h=>by obtain⟨y',r',rfl,h1,h2⟩:=h;simp[h2.len]
theorem FzB.live{i k:Nat}{es:List (List A)}{x y:Blk}(h:FzB i k es x y):y.live=x.live:=by
 rcases h with rfl|⟨t,b,a,rfl,rfl,_⟩<;>rfl
theorem YE{env:Env}{H H':Qc}{h0 i k t:Nat}{es:List (List A)}(ov:Env)(hi:Nat.ble h0 i=true)(P:H[i]?=some (.row t k es))(aa:QmK i k es env ov)(G:FzH i k es (H.set i .dead) H'):Le h0 env H (ov++env) H':=by
 intro fr Q σ N a w r
 let ro':Nat->Prop:=λb=>Q b\/σ[i]?=some (some b)
 have u:∀b,σ[i]?=some (some b)->b<w.heap.size/\ ¬Q b/\ ¬fr b:=λb h=>r.sim.own i b _ h P rfl;have ext:Ext Q σ w ro' σ w:=⟨λ_ q=>.inl q,λ_ _=>rfl,λ_ _ q=>q,λ_ _ q=>q⟩;have hf:∀v,VR Q σ w (.osl i 0 es.length k) v->VR ro' σ w (.rsl k es) v:=by
  intro v h;rcases h with⟨h0,h⟩|⟨b,p,F,t',m,g,h,n,B,h4,Y⟩
  .have:es=[]:=List.length_eq_zero_iff.1 h0;subst this;exact⟨none,0,h,X0 _,.inl rfl⟩
  .refine⟨_,F,h,B,?_⟩;by_cases he:es=[]
   .exact .inl he
   .right;have hc:0<F:=Vn (List.length_pos_iff.2 he) B;obtain rfl:=n hc;obtain⟨l,W,R⟩:=r.sim.blk i _ _ g P;refine⟨b,0,by simp,.inr g,?_⟩;have:=Js (pre:=[]) (by simpa using W) R;exact this.keep ⟨λ_ q=>.inl q,λ_ _=>rfl,λ_ _ q=>q,λ_ _ q=>q⟩ rfl
 have f:∀(j:Nat) (y:Blk),H'[j]?=some y->y≠ .dead->j≠i/\ ∃x,H[j]?=some x/\FzB i k es x y:=by
  intro j y h O;obtain⟨x,g,n⟩:=G.get j y h;by_cases e:j=i
  .subst e;rw[Xb]at g;simp only[if_true]at g;split at g
   .cases g;rcases n with rfl|⟨_,_,_,q,_,_⟩
    .exact absurd rfl O
    .cases q
   .simp at g
  .rw[XW (λq=>e q.symm)]at g;exact⟨e,x,g,n⟩
 refine⟨ro',σ,⟨⟨by rw[G.len,Vb];exact r.sim.len,r.sim.roOk.to (λ_ q=>.inl q) (λ_ _=>rfl) ?_,r.sim.frLt,?_,?_,?_,?_,r.sim.hidTo (· = ·) Q8 (X0 _) (λj b x c W R q3 q4=>q4.elim id λq=>((r.sim.hid j b x c W R q3).ne i c _ q P rfl rfl).elim) (λ_ _ _ _ _ _ _ q=>q) λj d y V X g3=>.inl ?_⟩,?_,r.size,r.defers⟩,λ_ q=>.inl q,rfl⟩
 rotate_left 5
 .obtain⟨_,x,g4,g5⟩:=f j y X (Qd0 g3);exact⟨j,x,rfl,V,g4,λz=>by rw[<- g5.live];exact z,λc q=>by rcases g5 with rfl|⟨t,cs,E,rfl,rfl,_⟩;exact q;exact q.elim⟩
 rotate_left 1
 .rintro b (q|q)
  .exact r.sim.roLt b q
  .exact(u b q).1
 .rintro b (q|q)
  .exact r.sim.roFr b q
  .exact(u b q).2.2
 .intro j b v g n B;obtain⟨e,x,n,M⟩:=f j v n (Qas B);have hx:x.live=true:=by rw[<- M.live];exact B
  obtain⟨L,J,p3⟩:=r.sim.own j b x g n hx;refine⟨L,?_,p3⟩;rintro(q|q)
  .exact J q
  .exact e (r.sim.inj j i b x _ g q n P hx rfl)
 .intro j j' b v v' g n B h4 Y h6;obtain⟨_,x,L,J⟩:=f j v B (Qas Y);obtain⟨_,x',T,ab⟩:=f j' v' h4 (Qas h6);exact r.sim.inj j j' b x x' g n L T (by rw[<- J.live];exact Y) (by rw[<- ab.live];exact h6)
 .intro j s v g n;by_cases O:v≠ .dead
  .obtain⟨_,x,L,J⟩:=f j v n O;have M:=r.sim.blk j s x g L;rcases J with rfl|⟨t,cs,E,rfl,rfl,q⟩
   .exact M.keep ext (λ_ _ _=>rfl) (λ_ _ _ _=>rfl)
   .cases s with
    |none=>exact M.elim
    |some b=>
     obtain⟨l,e1,e2,e3⟩:=M;exact⟨l,e1,Qdl ext hf cs E l q e2,e3⟩
  .obtain rfl:v=.dead:=Classical.not_not.1 O;trivial
 .intro s
  induction ov with
  |nil=>exact(r.env s).mono ext
  |cons p ov ih=>
   obtain⟨s1,a1⟩:=p;obtain⟨V,X⟩:=aa;simp only[List.cons_append,lk];cases q:Nat.beq s s1 with
   |true=>
    obtain rfl:=XX q;exact QiQ ext hf _ _ _ V (r.env s)
   |false=>exact ih X
theorem QmK.nil{i k:Nat}{es:List (List A)}{env:Env}:QmK i k es env []:=trivial
theorem QmK.cons{i k s:Nat}{es:List (List A)}{env:Env}{a b:A}{r:Env}(h:lk env s=a)(q:FzA i k es a b)(g:QmK i k es env r):QmK i k es env ((s,b)::r):=⟨h▸q,g⟩
def QcT(P:Program)(env:Env)(H:Qc)(l:ResultVar)(x:A):Prop:=
 ∀fr ro σ N a w,Rel fr ro σ H env N a w->∃v,((match l with
  |.tmp t=>pure (a.tmps.getD t undef)
  |.cell b t=>do loadVar t (<- asAddr (a.tmps.getD b undef)):Sem Value)).run P w=.ok v w/\VR ro σ w x v
def QiK(P:Program)(env:Env)(H:Qc):List ResultVar->List A->Prop
 |[],xs=>xs=[]
 |l::ls,xs=>∃x xs',xs=x::xs'/\QcT P env H l x/\QiK P env H ls xs'
section
variable {P:Program}{fn:Func}{env:Env}{H:Qc}
theorem QcT.tmp{t:Nat}{x:A}(b:lk env t=x:=by exact rfl):QcT P env H (.tmp t) x:=
 λfr ro σ N a w r=>⟨a.tmps.getD t undef,rfl,b▸r.env t⟩
theorem QcT.cell{b t:Nat}{p x:A}{cs:List A}(l:∀w,(isAgg t).run P w=.ok false w)(j:Pts H p (x::cs))(m:lk env b=p:=by exact rfl):QcT P env H (.cell b t) x:=by
 intro k g σ N a w r;have d:=r.env b;rw[m]at d;obtain⟨n,e,h,⟨y,i,_,f⟩,_⟩:=j k g σ w _ r.sim d;refine⟨y,?_,f⟩;simp only[h];simp[asAddr,loadVar,l,Go.load,Sem.run,i,go_sem]
theorem QdD{b t n:Nat}{p:A}{cs:List A}(q:∀w,(isAgg t).run P w=.ok true w)(f:∀w,(sizeOf t).run P w=.ok n w)(k:Pts H p cs)(s:lk env b=p:=by exact rfl)(hl:(cs.take n).length=n:=by exact rfl):
  QcT P env H (.cell b t) (.agg (cs.take n)):=by
 intro m g σ N a w r;have e:=r.env b;rw[s]at e;obtain⟨u,off,i,j⟩:=k m g σ w _ r.sim e;obtain⟨l,h,_,d⟩:=YH (P:=P) (cs:=cs.take n) (off:=off) 0 (by simpa using j.take n);have d:=d w #[] rfl;rw[hl]at d;refine⟨.agg l.toArray,?_,l,rfl,h⟩;simp only[i];simp[asAddr,loadVar,q,f,loadCells,d,go_sem]
theorem Qw{b t n i T:Nat}{cs:List A}(f:∀w,(isAgg t).run P w=.ok true w)(e:∀w,(sizeOf t).run P w=.ok n w)(g:lk env b=.ptr i 0)(d:H[i]?=some (.cells T cs))(a:cs.length=n):
  QcT P env H (.cell b t) (.agg cs):=by
 have:=QdD (b:=b) (p:=.ptr i 0) f e (Pts.cells (off:=0) d rfl) g (by subst a;simp);subst a;simpa using this
theorem Qp{b t i T:Nat}{x:A}(ha:∀w,(isAgg t).run P w=.ok false w)(hx:lk env b=.ptr i 0)(hH:H[i]?=some (.cells T [x])):QcT P env H (.cell b t) x:=
 QcT.cell (p:=.ptr i 0) (cs:=[]) ha (Pts.cells (off:=0) hH rfl) hx
theorem QiK.nil:QiK P env H [] []:=rfl
theorem QiK.cons{l:ResultVar}{ls:List ResultVar}{x:A}{xs:List A}(h:QcT P env H l x)(k:QiK P env H ls xs):QiK P env H (l::ls) (x::xs):=⟨x,xs,rfl,h,k⟩
theorem QiK.run{fr ro:Nat->Prop}{σ:Sig}{N:Nat}{a:Act}{w:World}(r:Rel fr ro σ H env N a w):∀{ls:List ResultVar}{xs:List A},QiK P env H ls xs->
  ∃vs:List Value,(ls.mapM λl=>(match l with
   |.tmp t=>pure (a.tmps.getD t undef)
   |.cell b t=>do loadVar t (<- asAddr (a.tmps.getD b undef)):Sem Value)).run P w=.ok vs w/\LR ro σ w xs vs
 |[],_,h=>by obtain rfl:_=[]:=h;exact⟨[],rfl,rfl⟩
 |l::ls,_,h=>by
  obtain⟨x,xs,rfl,h1,h2⟩:=h;obtain⟨v,e1,e2⟩:=h1 fr ro σ N a w r;obtain⟨vs,e3,e4⟩:=QiK.run r h2;refine⟨v::vs,?_,v,vs,rfl,e2,e4⟩;rw[List.mapM_cons];simp only[Vu,e1,Result.andThen,e3,Vv]
theorem QK{ls:List ResultVar}{xs:List A}(h:fn.results=ls.toArray)(d:Nat.beq ls.length 1=false)(k:QiK P env H ls xs):QcS P fn env H (.tup xs):=by
 intro n m σ N a w r;obtain⟨vs,f,e⟩:=k.run r;have b:¬vs.length=1:=by
  have:∀{ls:List ResultVar}{xs:List A},QiK P env H ls xs->xs.length=ls.length:=by
   intro ls
   induction ls with
   |nil=>intro xs h;obtain rfl:xs=[]:=h;rfl
   |cons l ls i=>intro xs h;obtain⟨x,g,rfl,_,j⟩:=h;simp[i j]
  rw[e.length,this k];intro q;rw[q]at d;cases d
 refine⟨.tuple vs.toArray,?_,vs,rfl,e⟩;unfold results;rw[h];rw[List.mapM_toArray,Vu,Sem.run_map]
 erw [f]
 simp[Result.andThen,b,Vv]
theorem QZ{l:ResultVar}{x:A}(h:fn.results= #[l])(k:QcT P env H l x):QcS P fn env H x:=by
 intro e f σ N a w r;obtain⟨vs,d,b⟩:=(QiK.cons k QiK.nil).run r;obtain⟨v,_,rfl,b,rfl⟩:=b;refine⟨v,?_,b⟩;unfold results;rw[h,show #[l]=[l].toArray from rfl];rw[List.mapM_toArray,Vu,Sem.run_map]
 erw [d]
 rfl
end
end Go.Sw
namespace Go.Sw
mutual
def QbF:A->Bool
 |.bool _=>true
 |.int _ _=>true
 |.str _=>true
 |.agg cs=>Qd6 cs
 |_=>false
def Qd6:List A->Bool
 |[]=>true
 |a::r=>QbF a&&Qd6 r
end
mutual
def Qu:A->Value
 |.bool b=>.bool b
 |.int k n=>.int k n
 |.str s=>.string ⟨s.toArray⟩
 |.agg cs=>.agg (Y7 cs).toArray
 |_=>.bool false
def Y7:List A->List Value
 |[]=>[]
 |a::r=>Qu a::Y7 r
end
mutual
theorem VR.val{ro:Nat->Prop}{σ:Sig}{w:World}:∀{a:A}{v:Value},QbF a=true->VR ro σ w a v->v=Qu a
 |.bool _,_,_,h=>h
 |.int _ _,_,_,h=>h
 |.str _,_,_,h=>h
 |.agg cs,v,hs,h=>by
  obtain⟨l,rfl,h⟩:=h;rw[Qu,LR.val hs h]
theorem LR.val{ro:Nat->Prop}{σ:Sig}{w:World}:∀{az:List A}{l:List Value},Qd6 az=true->LR ro σ w az l->l=Y7 az
 |[],l,_,h=>h
 |a::r,l,hs,h=>by
  obtain⟨v,l',rfl,h1,h2⟩:=h;simp only[Qd6,X4]at hs;rw[Y7,VR.val hs.1 h1,LR.val hs.2 h2]
end
mutual
theorem QbS{ro:Nat->Prop}{σ:Sig}{w:World}:∀{a:A},QbF a=true->VR ro σ w a (Qu a)
 |.bool _,_=>rfl
 |.int _ _,_=>rfl
 |.str _,_=>rfl
 |.agg cs,hs=>⟨Y7 cs,rfl,Qfg hs⟩
theorem Qfg{ro:Nat->Prop}{σ:Sig}{w:World}:∀{az:List A},Qd6 az=true->LR ro σ w az (Y7 az)
 |[],_=>rfl
 |a::r,hs=>by
  simp only[Qd6,X4]at hs;exact⟨_,_,rfl,QbS hs.1,Qfg hs.2⟩
end
end Go.Sw
namespace Go.Sw
open Go.MapKept
structure Jd (P:Program) (kt:TypeId) {α:Type} (ek:α->A):Prop where
 scl:∀x,QbF (ek x)=true
 inj:∀x y,Qu (ek x)=Qu (ek y)->x=y
 check:∀(w:World) em x,(Instr.checkKey em 10000 kt (Qu (ek x))).run P w=.ok () w
 find:∀(w:World) x (es:List MapEntry),(∀e∈es,∃y,e.key=Qu (ek y))->
  ((Instr.findKey kt (Qu (ek x)) es).run P w=.ok none w/\ ∀e∈es,e.key≠Qu (ek x))\/ ∃j e,(Instr.findKey kt (Qu (ek x)) es).run P w=.ok (some (j,e.val)) w/\es[j]?=some e/\e.key=Qu (ek x)
 stays:∀(w:World) x,(Instr.keyThatStays (Qu (ek x)) (Qu (ek x))).run P w=.ok (Qu (ek x)) w
section
variable {P:Program}{kt:TypeId}
theorem Jd.plain{α:Type}{ek:α->A}{d:TypeDesc}(f:P.underlying kt=some d)(a:∀x,IsKey d (Qu (ek x)))(k:∀x,QbF (ek x)=true)(hi:∀x y,Qu (ek x)=Qu (ek y)->x=y):Jd P kt ek:=by
 refine⟨k,hi,λw p x=>run_checkKey f (a x) p 9999,λw x i e=>?_,λw x=>run_keyThatStays (a x)⟩
 .have h:∀y∈i,IsKey d y.key:=λy q=>by
   obtain⟨l,m⟩:=e y q;rw[m];exact a l
  rcases findNow_spec (a x) i 0 h with⟨b,g⟩|⟨j,r,b,g,n⟩
  .exact Or.inl ⟨run_findKey f b,g⟩
  .exact Or.inr ⟨j,r,by simpa using run_findKey f b,g,n⟩
theorem Jd.int{q:IntKind}(hk:P.underlying kt=some (.int q)):Jd P kt (λn=>A.int q n):=
 Jd.plain hk (λx=>by simp[IsKey,Qu]) (λ_=>rfl) (λx y h=>by simpa[Qu]using h)
theorem Jd.str(hk:P.underlying kt=some .string):Jd P kt A.str:=
 Jd.plain hk (λx=>by simp[IsKey,Qu]) (λ_=>rfl) (λx y h=>by simpa[Qu]using h)
theorem Jd.struct{α:Type}[DecidableEq α]{ek:α->A}{fs:Array Field}(r:P.underlying kt=some (.struct fs))(t:∀x,QbF (ek x)=true)(hi:∀x y,Qu (ek x)=Qu (ek y)->x=y)
  (H:∀(w:World) em x,(Instr.checkKey em 10000 kt (Qu (ek x))).run P w=.ok () w)
  (he:∀(w:World) x y,(Op.equal kt (Qu (ek x)) (Qu (ek y))).run P w=.ok (decide (x=y)) w)(B:∀x,Instr.sameBits 10000 (Qu (ek x)) (Qu (ek x))=true):Jd P kt ek:=by
 refine⟨t,hi,H,λw x a k=>?_,λw x=>by simp[Instr.keyThatStays,B x]⟩
 .have d:∀(a:List MapEntry) (i:Nat),(∀e∈a,∃y,e.key=Qu (ek y))->
    ((Instr.findAsking kt (Qu (ek x)) a i).run P w=.ok none w/\ ∀e∈a,e.key≠Qu (ek x))\/
    ∃j e,(Instr.findAsking kt (Qu (ek x)) a i).run P w=.ok (some (i+j,e.val)) w/\a[j]?=some e/\e.key=Qu (ek x):=by
   intro a
   induction a with
   |nil=>intro i _;exact .inl ⟨by simp[Instr.findAsking],by simp⟩
   |cons e a F=>
    intro i f;obtain⟨y,h⟩:=f e (by simp);have p:=he w x y;by_cases b:x=y
    .subst b;exact .inr ⟨0,e,by simp[Instr.findAsking,h,p],rfl,h⟩
    .rcases F (i+1) (λz g=>f z (by simp[g]))with⟨m,l⟩|⟨j,s,m,l,u⟩
     .refine .inl ⟨by simp[Instr.findAsking,h,p,b,m],λz g=>?_⟩;rcases Ve.1 g with rfl|g
      .rw[h];intro q;exact b (hi _ _ q).symm
      .exact l z g
     .exact .inr ⟨j+1,s,by simp[Instr.findAsking,h,p,b,m,Nat.add_assoc,Nat.add_comm 1 j],by simpa using l,u⟩
  cases a with
  |nil=>exact .inl ⟨by simp[Instr.findKey,run_underlying r,Instr.findNow,Result.andThen],by simp⟩
  |cons e a=>
   have E:Instr.findNow (.struct fs) (Qu (ek x)) (e::a) 0=none:=by
    simp only[Instr.findNow];have:∀v n,Instr.sameNow (.struct fs) v n=none:=by intro v n;cases v<;>cases n<;>rfl
    rw[this]
   have G:(Instr.findKey kt (Qu (ek x)) (e::a)).run P w=(Instr.findAsking kt (Qu (ek x)) (e::a) 0).run P w:=by
    simp only[Instr.findKey,Vu,run_underlying r,Result.andThen,E]
   rw[G];simpa using d (e::a) 0 k
def YN{α β:Type}[DecidableEq α](l:List (α×β))(k:α):Option β:=(l.find? λp=>decide (p.1=k)).map (·.2)
def Q7{α β:Type}[DecidableEq α](l:List (α×β))(k:α)(v:β):List (α×β):=bif l.any λp=>decide (p.1=k)then l.map λp=>bif decide (p.1=k)then(p.1,v)else p else l++[(k,v)]
def QU{α β:Type}[DecidableEq α](l:List (α×β))(k:α)(z:β):β:=(YN l k).getD z
def Qfl{α β:Type}[DecidableEq α](l:List (α×β))(k:α):Bool:=l.any λp=>decide (p.1=k)
def Qx{α β:Type}(ek:α->A)(ev:β->A)(l:List (α×β)):List (A×A):=l.map λp=>(ek p.1,ev p.2)
section
variable {α β:Type} [DecidableEq α] {ek:α->A}{ev:β->A}{ro:Nat->Prop}{w:World} (K:Jd P kt ek)
include K
theorem ER.keys:∀{l:List (α×β)}{es:List MapEntry},ER ro [] w (Qx ek ev l) es->es.map (·.key)=l.map λp=>Qu (ek p.1)
 |[],es,h=>by cases(show es=[]from h);rfl
 |p::l,es,h=>by
  obtain⟨e,l',rfl,h1,h2,h3⟩:=h;simp only[Vr];rw[VR.val (K.scl _) h1,ER.keys (l:=l) h3]
theorem Qh4{l:List (α×β)}{es:List MapEntry}(h:ER ro [] w (Qx ek ev l) es):∀e∈es,∃y,e.key=Qu (ek y):=by
 intro e a;have:e.key∈es.map (·.key):=List.mem_map_of_mem a;rw[ER.keys K h]at this;obtain⟨p,_,b⟩:=Xf.1 this;exact⟨p.1,b.symm⟩
theorem ER.find:∀{l:List (α×β)}{es:List MapEntry},ER ro [] w (Qx ek ev l) es->∀(x:α),(es.map (·.key)).Nodup->
  ((∀e:MapEntry,e∈es->e.key≠Qu (ek x))->YN l x=none/\Qfl l x=false)/\
  (∀(j:Nat) (e:MapEntry),es[j]?=some e->e.key=Qu (ek x)->Qfl l x=true/\ ∃v,YN l x=some v/\VR ro [] w (ev v) e.val)
 |[],es,h,x,_=>by
  cases(show es=[]from h);exact⟨λ_=>⟨rfl,rfl⟩,λj e he=>by simp at he⟩
 |p::l,es,h,x,hn=>by
  obtain⟨e0,l',rfl,h1,h2,h3⟩:=h;have hk:e0.key=Qu (ek p.1):=VR.val (K.scl _) h1;simp only[Vr,List.nodup_cons]at hn;obtain⟨a1,a2⟩:=ER.find (l:=l) h3 x hn.2;by_cases hp:p.1=x
  .subst hp;constructor
   .intro q;exact absurd hk (q e0 (by simp))
   .intro j e he hx;cases j with
    |zero=>
     simp only[XL,Option.some.injEq]at he;subst he;exact⟨by simp[Qfl],p.2,by simp[YN],h2⟩
    |succ j=>
     simp only[XM]at he;exact absurd (hk.trans hx.symm▸List.mem_map_of_mem (f:=λe:MapEntry=>e.key) (List.mem_of_getElem? he)) hn.1
  .have e1:YN (p::l) x=YN l x:=by simp[YN,hp]
   have a:Qfl (p::l) x=Qfl l x:=by simp[Qfl,hp]
   rw[e1,a];constructor
   .intro q;exact a1 λe he=>q e (by simp[he])
   .intro j e he hx;cases j with
    |zero=>
     simp only[XL,Option.some.injEq]at he;subst he;exact absurd (K.inj _ _ (hk.symm.trans hx)) hp
    |succ j=>exact a2 j e (by simpa using he) hx
end
end
end Go.Sw
namespace Go.Sw
open Go.MapKept
section
variable {P:Program}{o:Oper}{env:Env}{H:Qc}
theorem YG{T:Nat}(d:o.op=.makeMap T none:=by exact rfl):OpH P o env H (.map H.length) (H++[.map []]):=by
 intro e b σ N a w r;refine⟨.map (some w.heap.size),w.alloc (.map #[] 0),b,[some w.heap.size],?_,⟨w.heap.size,?_,rfl⟩,r.sim.alloc ⟨#[],0,YU _ _,rfl,by simp,by simp,by simp⟩,Qi.alloc _ r.sim.roLt r.sim.frLt⟩
 .generalize a.eval=ρ at*;simp only[execOp,d,Instr.makeMap,Xl,Vu];rfl
 .rw[<- r.sim.len];simp
section
variable {T kt et:Nat}{α β:Type} [DecidableEq α] {ek:α->A}{ev:β->A}{x y:Operand}{i:Nat}{l:List (α×β)}{k:α}{z0:β}{z:Value}
theorem Qd9(K:Jd P kt ek){ro:Nat->Prop}{w:World}(m:P.underlying T=some (.map kt et))(s:∀w,(zeroValue et).run P w=.ok z w)(g:ZR (ev z0) z){b a:Nat}{es:Array MapEntry}
  (n:w.heap[b]?=some (.map es a))(he:ER ro [] w (Qx ek ev l) es.toList)(q:(es.toList.map (·.key)).Nodup):
  ∃v,(∀ck,(Instr.lookup T (.map (some b)) (Qu (ek k)) ck).run P w=.ok (if ck then .tuple #[v,.bool (Qfl l k)]else v) w)/\VR ro [] w (ev (QU l k z0)) v:=by
 obtain⟨r,u⟩:=ER.find K he k q;rcases K.find w k es.toList (Qh4 K he)with⟨d,i⟩|⟨j,e,d,i,t⟩
 .obtain⟨h,f⟩:=r i;refine⟨z,λck=>?_,?_⟩
  .simp only[Instr.lookup,Vu,run_underlying m,Result.andThen,MapKept.run_getObj_map n,Vv,K.check,d,s,f]
  .rw[QU,h];exact g _ _ _
 .obtain⟨h,v,f,p⟩:=u j e i t;refine⟨e.val,λck=>?_,?_⟩
  .simp only[Instr.lookup,Vu,run_underlying m,Result.andThen,MapKept.run_getObj_map n,Vv,K.check,d,h]
  .rw[QU,f];exact p
theorem Y4{zv:β}(K:Jd P kt ek)(n:some (QU l k z0)=some zv)(E:P.underlying T=some (.map kt et))(u:∀w,(zeroValue et).run P w=.ok z w)(d:ZR (ev z0) z)
  (J:o.op=.lookup T x y false:=by exact rfl)(hx:opA env x=.map i:=by exact rfl)(hH:H[i]?=some (.map (Qx ek ev l)):=by exact rfl)(hy:opA env y=ek k:=by exact rfl):OpV P o env H (ev zv):=by
 obtain rfl:=X7 n;intro O Q σ N a w r;have g:=Qj r x;rw[hx]at g;obtain⟨b,B,m⟩:=g;have f:=Qj r y;rw[hy]at f;have p:=VR.val (K.scl _) f;obtain⟨L,e,h,F,R,M,G⟩:=r.sim.blk i _ _ B hH;obtain⟨v,t,s⟩:=Qd9 (T:=T) (z0:=z0) (k:=k) K E u d h F G;refine⟨v,?_,s.mono ⟨λ_ q=>q,λ_ _=>rfl,λ_ _ q=>q,λj c q=>by simp at q⟩⟩;have:=t false;simp only[execOp,J,m,p,Vu,this,Result.andThen];rfl
theorem Qf1{zv:β}(K:Jd P kt ek)(n:some (QU l k z0)=some zv)(E:P.underlying T=some (.map kt et))(u:∀w,(zeroValue et).run P w=.ok z w)(d:ZR (ev z0) z)
  (J:o.op=.lookup T x y false:=by exact rfl)(hx:opA env x=.map i:=by exact rfl)(hH:H[i]?=some (.fmap (Qx ek ev l)):=by exact rfl)(hy:opA env y=ek k:=by exact rfl):OpV P o env H (ev zv):=by
 obtain rfl:=X7 n;intro O Q σ N a w r;have g:=Qj r x;rw[hx]at g;obtain⟨b,B,m⟩:=g;have f:=Qj r y;rw[hy]at f;have p:=VR.val (K.scl _) f;obtain⟨_,L,e,h,F,R,M,G⟩:=r.sim.blk i _ _ B hH;obtain⟨v,t,s⟩:=Qd9 (T:=T) (z0:=z0) (k:=k) K E u d h F G;refine⟨v,?_,s.mono ⟨λ_ q=>q,λ_ _=>rfl,λ_ _ q=>q,λj c q=>by simp at q⟩⟩;have:=t false;simp only[execOp,J,m,p,Vu,this,Result.andThen];rfl
theorem ER.append{ro:Nat->Prop}{σ:Sig}{w:World}:∀{l m:List (A×A)}{es fs:List MapEntry},ER ro σ w l es->ER ro σ w m fs->ER ro σ w (l++m) (es++fs)
 |[],m,es,fs,h,k=>by cases(show es=[]from h);exact k
 |p::l,m,es,fs,h,k=>by
  obtain⟨e,l',rfl,h1,h2,h3⟩:=h;exact⟨e,l'++fs,rfl,h1,h2,ER.append h3 k⟩
theorem ER.put(K:Jd P kt ek){ro:Nat->Prop}{w w':World}{v:β}{val:Value}(a:Ext ro [] w ro [] w')(b:VR ro [] w (ev v) val):∀{l:List (α×β)}{es:List MapEntry}{j:Nat}{e:MapEntry},ER ro [] w (Qx ek ev l) es->
  (es.map (·.key)).Nodup->es[j]?=some e->e.key=Qu (ek k)->
  ER ro [] w' (Qx ek ev (l.map λp=>bif decide (p.1=k)then(p.1,v)else p)) (es.modify j λe=>{e with key:=Qu (ek k),val:=val})
 |[],es,j,e,h,hn,he,hk=>by cases(show es=[]from h);simp at he
 |p::l,es,j,e,h,hn,he,hk=>by
  obtain⟨e0,l',rfl,h1,h2,h3⟩:=h;have hk0:e0.key=Qu (ek p.1):=VR.val (K.scl _) h1;simp only[Vr,List.nodup_cons]at hn;cases j with
  |zero=>
   simp only[XL,Option.some.injEq]at he;subst he;have hp:p.1=k:=K.inj _ _ (hk0.symm.trans hk);simp only[List.modify_zero_cons];have e1:Qx ek ev ((p::l).map λp=>bif decide (p.1=k)then(p.1,v)else p)=(ek p.1,ev v)::Qx ek ev l:=by
    simp only[Qx,Vr,hp,decide_true,cond_true,List.map_map,List.cons.injEq,true_and];apply List.map_congr_left;intro q d;have:q.1≠k:=by
     intro e;refine hn.1 ?_;rw[ER.keys K h3];exact Xf.2 ⟨q,d,by rw[e, <- hp,hk0]⟩
    simp[this]
   rw[e1];refine⟨_,l',rfl,?_,b.mono a,h3.mono a⟩;show VR ro [] w' (ek p.1) (Qu (ek k));rw[<- hp];exact QbS (K.scl _)
  |succ j=>
   simp only[XM]at he;have hp:p.1≠k:=by
    intro q;refine hn.1 (Xf.2 ⟨e,List.mem_of_getElem? he,?_⟩);rw[hk,hk0,q]
   simp only[List.modify_succ_cons];have e1:Qx ek ev ((p::l).map λp=>bif decide (p.1=k)then(p.1,v)else p)=(ek p.1,ev p.2)::Qx ek ev (l.map λp=>bif decide (p.1=k)then(p.1,v)else p):=by
    simp[Qx,hp]
   rw[e1];exact⟨_,_,rfl,h1.mono a,h2.mono a,ER.put K a b h3 hn.2 he hk⟩
theorem YV{m:List (α×β)}(K:Jd P kt ek){v:β}{B:Operand}(hm:some (Q7 l k v)=some m)(J:Yq (ev v)=true)(hT:P.underlying T=some (.map kt et))
  (ho:o.op=.mapUpdate T x y B:=by exact rfl)(hx:opA env x=.map i:=by exact rfl)(hH:H[i]?=some (.map (Qx ek ev l)):=by exact rfl)(V:opA env y=ek k:=by exact rfl)(hv:opA env B=ev v:=by exact rfl):
  OpU P o env H (H.set i (.map (Qx ek ev m))):=by
 obtain rfl:=X7 hm;intro fr ro σ N a w r;have h1:=Qj r x;rw[hx]at h1;obtain⟨b,q1,q2⟩:=h1;have h2:=Qj r y;rw[V]at h2;have h3:=VR.val (K.scl _) h2;have h4:=Qj r B;rw[hv]at h4;have Q:VR ro [] w (ev v) (a.eval B):=VR.data J h4;obtain⟨z,s,O,X,p3,p4,Y⟩:=r.sim.blk i _ _ q1 hH;obtain⟨f1,f2⟩:=ER.find K X k Y;have R:∀(obj:Obj) y,w.shape? b=some y->({w with heap:=w.heap.setIfInBounds b obj}:World).shape? b=some y:=by
  intro obj y V;unfold World.shape? at V;rw[O]at V;simp at V
 rcases K.find w k z.toList (Qh4 K X)with⟨g1,M⟩|⟨j,e,g1,M,W⟩
 .obtain⟨u1,u2⟩:=f1 M;have hl:Q7 l k v=l++[(k,v)]:=by
   unfold Q7;rw[show(l.any λp=>decide (p.1=k))=false from u2];rfl
  have g:=r.sim.set (x':=.map (Qx ek ev (Q7 l k v))) (obj:=.map (z.push {key:=Qu (ek k),val:=a.eval B,born:=s}) (s+1)) q1 hH rfl (R _)
   (λe F=>⟨_,_,F,by
    rw[hl,Qx,Xg,Array.toList_push];exact(X.mono ⟨e.sub,e.keep,e.shape,λ_ _ q=>q⟩).append ⟨_,_,rfl,QbS (K.scl _),Q.mono ⟨e.sub,e.keep,e.shape,λ_ _ q=>q⟩,rfl⟩,by
    rw[Array.toList_push];intro e F;rcases List.mem_append.1 F with q|q
    .exact Nat.lt_succ_of_lt (p3 e q)
    .simp at q;subst q;exact Xo _,by
    rw[Array.toList_push,Xg];refine List.nodup_append.2 ⟨p4,by simp,?_⟩;intro c hc d J;simp at J;subst J;obtain⟨e,F,rfl⟩:=Xf.1 hc;exact Nat.ne_of_lt (p3 e F),by
    rw[Array.toList_push,Xg];refine List.nodup_append.2 ⟨Y,by simp,?_⟩;intro c hc d J;simp at J;subst J;obtain⟨e,F,rfl⟩:=Xf.1 hc;exact M e F⟩)
  refine⟨_,ro,[],?_,by simpa using g.1,g.2⟩;simp only[execOp,ho,q2,h3,Vu,Instr.mapUpdate,run_underlying hT,Result.andThen,MapKept.run_getObj_map O,K.check,g1,MapKept.run_setObj_map _ O];rfl
 .obtain⟨u1,u2⟩:=f2 j e M W;have hl:Q7 l k v=l.map λp=>bif decide (p.1=k)then(p.1,v)else p:=by
   unfold Q7;rw[show(l.any λp=>decide (p.1=k))=true from u1];rfl
  have hj:z[j]?=some e:=by rw[<- M];simp
  have t:(z.modify j λe=>{e with key:=Qu (ek k),val:=a.eval B}).toList=z.toList.modify j λe=>{e with key:=Qu (ek k),val:=a.eval B}:=by simp
  have u:∀{γ:Type} (f:MapEntry->γ),(∀G,z.toList[j]?=some G->f {G with key:=Qu (ek k),val:=a.eval B}=f G)->(z.toList.modify j λe=>{e with key:=Qu (ek k),val:=a.eval B}).map f=z.toList.map f:=by
   intro γ f hf;apply List.ext_getElem?;intro n;rw[Xq,Xq,List.getElem?_modify];by_cases hn:j=n
   .subst hn;cases q:z.toList[j]? with
    |none=>rfl
    |some G=>simp[hf G q]
   .simp[hn]
  have g:=r.sim.set (x':=.map (Qx ek ev (Q7 l k v))) (obj:=.map (z.modify j λe=>{e with key:=Qu (ek k),val:=a.eval B}) s) q1 hH rfl (R _)
   (λe0 F=>⟨_,_,F,by
    rw[hl,t];exact ER.put K ⟨e0.sub,e0.keep,e0.shape,λ_ _ q=>q⟩ Q X Y M W,by
    rw[t];intro G E;have:G.born∈(z.toList.modify j λe=>{e with key:=Qu (ek k),val:=a.eval B}).map (·.born):=List.mem_map_of_mem E;rw[u (·.born) (λ_ _=>rfl)]at this;obtain⟨e2,h,h'⟩:=Xf.1 this;rw[<- h'];exact p3 e2 h,by
    rw[t,u (·.born) (λ_ _=>rfl)];exact p4,by
    rw[t,u (·.key) (λG E=>by rw[M]at E;cases E;exact W.symm)];exact Y⟩)
  refine⟨_,ro,[],?_,by simpa using g.1,g.2⟩;have L:=K.stays w k;simp only[execOp,ho,q2,h3,Vu,Instr.mapUpdate,run_underlying hT,Result.andThen,MapKept.run_getObj_map O,K.check,g1,hj,Xk,Option.getD_some,W,L,MapKept.run_setObj_map _ O];rfl
theorem ER.length{ro:Nat->Prop}{σ:Sig}{w:World}:∀{l:List (A×A)}{es:List MapEntry},ER ro σ w l es->es.length=l.length
 |[],es,h=>by cases(show es=[]from h);rfl
 |p::l,es,h=>by
  obtain⟨e,l',rfl,_,_,h3⟩:=h;simp[ER.length h3]
theorem Qe7{c:Call}{n:Int}(q:P.underlying T=some (.map kt et))(m:(l.length:Int)=n)(u:o.op=.call c:=by exact rfl)(hc:c={callee:=.builtin .len,args:= #[x],argTypes:= #[T]}:=by exact rfl)
  (hx:opA env x=.map i:=by exact rfl)(hH:H[i]?=some (.map (Qx ek ev l)):=by exact rfl):OpV P o env H (.int .i64 n):=by
 intro F y σ N a w r;have g:=Qj r x;rw[hx]at g;obtain⟨b,p,f⟩:=g;obtain⟨h,e,j,s,z,B,E⟩:=r.sim.blk i _ _ p hH;have t:=s.length;refine⟨.int .i64 n,?_,rfl⟩;have d:goInt h.size=.int .i64 n:=by
  have:h.size=l.length:=by rw[<- Array.length_toList,t];simp[Qx]
  rw[this, <- m];rfl
 subst hc;have k:=f;generalize a.eval=ρ at*;rw[<- d];simp[execOp,u,f,resolve,invoke,Go.builtin,Builtin.len_,run_underlying q,MapKept.run_getObj_map j,go_sem]
end
end
end Go.Sw
namespace Go.Sw
open Go.ChangeMaps (setBlock)
section
variable {P:Program}{o:Oper}{env:Env}{H:Qc}{h0 N:Nat}{Q:QC}
def OpE(P:Program)(o:Oper)(env:Env)(H:Qc)(K:A->Qc->Prop):Prop:=
 ∀fr ro σ N a w,Rel fr ro σ H env N a w->∃x H' v w' ro' τ,K x H'/\(execOp a.eval o).run P w=.ok (.value v) w'/\VR ro' (σ++τ) w' x v/\
  Sim fr ro' (σ++τ) H' w'/\Qi fr ro w ro' w'
theorem Qms{all:Array Oper}{l:List Oper}{d:Nat}{K:A->Qc->Prop}(y:h0<=H.length)(hg:Qv all o env true)(t:o.dst=some d)(E:Nat.blt d N=true)
  (h:OpE P o env H K)(k:∀x H',K x H'->WO P h0 N all l (up env d x) H' Q):WO P h0 N all (o::l) env H Q:=by
 intro p fr u σ a w r hrd;obtain⟨x,H',v,i,b,τ,m,n,z,B,f⟩:=h fr u σ N a w r;refine Qa0 (Jm hg r) n ?_;simp only[t,Act.put];have g:d<N:=by simpa using E
 have j:Rel fr b (σ++τ) H' (up env d x) N {a with tmps:=a.tmps.setIfInBounds d v} i:=
  ⟨B,VR.up (fr:=fr) (λs=>(r.env s).mono (f.ext σ τ)) (by rw[r.size];exact g) z,by simpa using r.size,r.defers.keep f⟩
 refine Yx (λe a w q=>q.step f (QW ?_)) _ _ _ (k x H' m p fr b (σ++τ) _ i j (hrd.to f λ_ q=>q));rw[r.sim.len];exact y
theorem Sim.shutMap{fr ro:Nat->Prop}{σ:Sig}{w:World}(s:Sim fr ro σ H w){i b:Nat}{es:List (A×A)}(hσ:σ[i]?=some (some b))(r:H[i]?=some (.map es)):
  Sim fr (λc=>ro c\/c=b) σ (H.set i (.fmap es)) w:=by
 have m:b<w.heap.size/\ ¬ro b/\ ¬fr b:=s.own i b _ hσ r rfl;have ext:Ext ro σ w (λc=>ro c\/c=b) σ w:=⟨λ_ q=>.inl q,λ_ _=>rfl,λ_ _ q=>q,λ_ _ q=>q⟩;have a:∀(j:Nat) (v:Blk),(H.set i (.fmap es))[j]?=some v->v.live=true->j≠i/\H[j]?=some v:=by
  intro j v h t;by_cases e:j=i
  .subst e;rw[Xb]at h;simp only[if_true]at h;split at h
   .cases h;simp[Blk.live]at t
   .simp at h
  .rw[XW (λq=>e q.symm)]at h;exact⟨e,h⟩
 have g:∀(j:Nat) (v:Blk),(H.set i (.fmap es))[j]?=some v->v.holds=true->H[j]?=some v:=by
  intro j v h t;by_cases e:j=i
  .subst e;rw[Xb]at h;simp only[if_true]at h;split at h
   .cases h;cases t
   .simp at h
  .rw[XW (λq=>e q.symm)]at h;exact h
 refine⟨by rw[Vb];exact s.len,s.roOk.to (λ_ q=>.inl q) (λ_ _=>rfl) ?_,s.frLt,?_,?_,?_,?_,s.hidTo (· = ·) Q8 (X0 _) (λj d x c P L R O=>O.elim id λq=>((s.hid j d x c P L R).ne i b _ hσ r rfl q).elim) (λ_ _ _ _ _ _ _ q=>q) λj d y N T M=>.inl ⟨j,y,rfl,N,g j y T M,id,λ_ q=>q⟩⟩
 .rintro c (q|rfl)
  .exact s.roLt c q
  .exact m.1
 .rintro c (q|rfl)
  .exact s.roFr c q
  .exact m.2.2
 .intro j c v k f p;obtain⟨e,f⟩:=a j v f p;obtain⟨z,u,B⟩:=s.own j c v k f p;refine⟨z,?_,B⟩;rintro(q|rfl)
  .exact u q
  .exact e (s.inj j i c v _ k hσ f r p rfl)
 .intro j F c v E k f p Q J G;exact s.inj j F c v E k f (a j v p J).2 (a F E Q G).2 J G
 .intro j y v k f;by_cases e:j=i
  .subst e;rw[hσ]at k;cases k;rw[Xb]at f;simp only[if_true]at f;split at f
   .cases f;obtain⟨l,n,z,u,B⟩:=s.blk j _ _ hσ r;exact⟨.inr rfl,l,n,z,u.mono ext.nil,B⟩
   .simp at f
  .rw[XW (λq=>e q.symm)]at f;exact(s.blk j y v k f).keep ext (λ_ _ _=>rfl) (λ_ _ _ _=>rfl)
section
variable {T kt et i:Nat}{x:Operand}{es:List (A×A)}
theorem QiN(s:P.underlying T=some (.map kt et))(B:o.op=.range T x:=by exact rfl)(hx:opA env x=.map i:=by exact rfl)(hH:H[i]?=some (.fmap es):=by exact rfl):
  OpH P o env H (.ptr H.length 0) (H++[.iter none es]):=by
 intro z j σ N a w r;have m:=Qj r x;rw[hx]at m;obtain⟨b,q,n⟩:=m;obtain⟨f,l,d,k,t,p,y,E⟩:=r.sim.blk i _ _ q hH;have u:=r.sim.roLt b f;have g:Qi z j w j (w.alloc (.mapIter (some b) d #[] d)):=Qi.alloc _ r.sim.roLt r.sim.frLt;have ext0:Ext j [] w j [] (w.alloc (.mapIter (some b) d #[] d)):=g.ext0 [];refine⟨.pointer (some ⟨w.heap.size,0,none⟩),w.alloc (.mapIter (some b) d #[] d),_,[some w.heap.size],?_,⟨w.heap.size,?_,rfl⟩,
  r.sim.alloc (.inr ⟨b,l,d, #[],l.toList,YU _ _,f,by rw[Yz _ _ _ u];exact k,p,y,?_,t.mono ext0,λ_ h=>by cases h⟩),g⟩
 .generalize a.eval=ρ at*;simp only[execOp,B,n,Instr.range,Vu,run_underlying s,Result.andThen,MapKept.run_getObj_map k];rfl
 .rw[<- r.sim.len];simp
 .have:l.toList.filter (λe=> !(#[]:Array Nat).contains e.born)=l.toList:=by rw[List.filter_eq_self];intro e _;simp
  rw[this]
theorem ER.mem{ro:Nat->Prop}{σ:Sig}{w:World}:∀{es:List (A×A)}{l:List MapEntry},ER ro σ w es l->∀e∈l,∃x es' l',(x::es').Perm es/\(e::l').Perm l/\VR ro σ w x.1 e.key/\VR ro σ w x.2 e.val/\ER ro σ w es' l'
 |[],l,h,e,he=>by cases(show l=[]from h);cases he
 |y::es,l,h,e,he=>by
  obtain⟨e0,l',rfl,h1,h2,h3⟩:=h;rcases Ve.1 he with rfl|he
  .exact⟨y,es,l',.refl _,.refl _,h1,h2,h3⟩
  .obtain⟨x,es',l'',p1,p2,v1,v2,h4⟩:=ER.mem h3 e he;exact⟨x,y::es',e0::l'',(List.Perm.swap _ _ _).trans (p1.cons _),(List.Perm.swap _ _ _).trans (p2.cons _),v1,v2,⟨e0,l'',rfl,h1,h2,h4⟩⟩
theorem QhP:∀{l:List MapEntry},(l.map (·.born)).Nodup->∀a∈l,∀b∈l,a.born=b.born->a=b
 |[],_,a,ha,_,_,_=>by cases ha
 |c::l,hn,a,ha,b,hb,hab=>by
  simp only[Vr,List.nodup_cons]at hn;rcases Ve.1 ha with ea|ha'<;>rcases Ve.1 hb with eb|hb'
  .rw[ea,eb]
  .subst ea;exact absurd (Xf.2 ⟨b,hb',hab.symm⟩) hn.1
  .subst eb;exact absurd (Xf.2 ⟨a,ha',hab⟩) hn.1
  .exact QhP hn.2 a ha' b hb' hab
def NextK(H:Qc)(i:Nat)(cur:Option (A×A))(es:List (A×A))(v:A)(H':Qc):Prop:=
 (es=[]/\v=.tup [.bool false]/\H'=H)\/ ∃e es',(e::es').Perm es/\v=.tup [.bool true,e.1,e.2]/\H'=H.set i (.iter (some e) es')
theorem OpE.next{V:Option (A×A)}(ho:o.op=.next x false:=by exact rfl)(hx:opA env x=.ptr i 0:=by exact rfl)(hH:H[i]?=some (.iter V es):=by exact rfl):
  OpE P o env H (NextK H i V es):=by
 intro fr s σ N a w r;have h1:=Qj r x;rw[hx]at h1;obtain⟨b,q1,q2⟩:=h1;have k:∀(v:Value) (g:World),g.heap=w.heap->g.os=w.os->g.tape=w.tape->g.output=w.output->w.drawn<=g.drawn->Sim fr s (σ++[]) H g/\Qi fr s w s g:=by
  intro v g X e2 e3 e4 e5;exact⟨by simpa using r.sim.heap X,Qi.heap X e2 e3 e4 e5⟩
 rcases r.sim.blk i _ _ q1 hH with⟨rfl,rfl,p⟩|⟨m,l,d,f,left,p1,p2,Y,p4,p5,p6,p7,p8⟩
 .refine⟨_,_,.tuple #[.bool false],w,s,[],.inl ⟨rfl,rfl,rfl⟩,?_,⟨_,rfl,_,_,rfl,rfl,rfl⟩,k (.bool false) w rfl rfl rfl rfl (X0 _)⟩;generalize a.eval=ρ at*;simp only[execOp,ho,q2,Instr.next,Vu,getObj,Sem.run,p,Result.andThen];rfl
 .have t:(leftOf l f).toList=l.toList.filter λe=> !f.contains e.born:=by simp[leftOf]
  have u:left.Perm (leftOf l f).toList:=by rw[t];exact p6
  rcases run_next_at (P:=P) w o.type b m d d f l d p1 Y p4 (X0 _)with⟨O,g2⟩|⟨e,O,g,g2,g3⟩
  .have ab:left=[]:=by
    have:left.length=0:=by rw[u.length_eq];simpa using O
    exact List.length_eq_zero_iff.1 this
   subst ab;have aa:es=[]:=by
    have:=p7.length;simp only[List.length_nil]at this;exact List.length_eq_zero_iff.1 this.symm
   refine⟨_,_,.tuple #[.bool false],w,s,[],.inl ⟨aa,rfl,rfl⟩,?_,⟨_,rfl,_,_,rfl,rfl,rfl⟩,k (.bool false) w rfl rfl rfl rfl (X0 _)⟩;generalize a.eval=ρ at*;simp only[execOp,ho,q2,Vu,g2,Result.andThen];rfl
  .have he:e∈left:=u.mem_iff.2 O;have M:e∈l.toList:=by rw[t]at O;exact(Xe.1 O).1
   obtain⟨y,L,Q,k1,k2,v1,v2,k3⟩:=p7.mem e he;have n:g.heap=w.heap/\g.os=w.os/\g.tape=w.tape/\g.output=w.output/\w.drawn<=g.drawn:=by
    rcases g2 with rfl|rfl
    .exact⟨rfl,rfl,rfl,rfl,X0 _⟩
    .exact⟨rfl,rfl,rfl,rfl,Nat.le_succ _⟩
   obtain⟨s1,J⟩:=k (.bool false) g n.1 n.2.1 n.2.2.1 n.2.2.2.1 n.2.2.2.2;rw[Vo]at s1;have ac:b≠m:=by
    rintro rfl;rw[p1]at Y;cases Y
   have F:=s1.set (x':=.iter (some y) L) (obj:=.mapIter (some m) d (f.push e.born) d) q1 hH rfl
    (λz E=>by
     unfold World.shape? at E;rw[n.1,p1]at E;simp at E)
    (λB ad=>.inr ⟨m,l,d,f.push e.born,Q,ad,B.sub _ p2,by
      show(g.heap.setIfInBounds b _)[m]?=_;rw[Vm,if_neg ac,n.1];exact Y,p4,p5,by
      have ae:(l.toList.filter λe=> !f.contains e.born).Nodup:=by
       have:l.toList.Nodup:=List.Pairwise.of_map _ (λa b h q=>h (congrArg _ q)) p5;exact this.filter _
      have hp:(e::Q).Perm (l.toList.filter λe=> !f.contains e.born):=k2.trans p6;have R:(e::Q).Nodup:=hp.nodup_iff.2 ae;have X:(l.toList.filter λG=> !(f.push e.born).contains G.born)=(l.toList.filter λe=> !f.contains e.born).filter λG=> !decide (G.born=e.born):=by
       rw[List.filter_filter];apply List.filter_congr;intro z _;simp[Array.contains_push,Bool.and_comm]
      rw[X];have h2:=hp.filter (λG=> !decide (G.born=e.born));have e2:(e::Q).filter (λG=> !decide (G.born=e.born))=Q:=by
       rw[List.filter_cons_of_neg (by simp),List.filter_eq_self];intro z E;have af:z∈l.toList:=(Xe.1 (hp.mem_iff.1 (Vd _ E))).1;simp only[Bool.not_eq_true',decide_eq_false_iff_not];intro hb;have:z=e:=by
        exact QhP p5 z af e M hb
       subst this;exact(List.nodup_cons.1 R).1 E
      rw[e2]at h2;exact h2,by
      have W:Ext s [] w s [] g:=J.ext0 [];exact(k3.mono W).mono ⟨B.sub,B.keep,B.shape,λ_ _ q=>q⟩,by
      intro z E;cases E;have W:Ext s [] w s [] g:=J.ext0 [];exact⟨e,M,by simp,(v1.mono W).mono ⟨B.sub,B.keep,B.shape,λ_ _ q=>q⟩,(v2.mono W).mono ⟨B.sub,B.keep,B.shape,λ_ _ q=>q⟩⟩⟩)
   have T:=J.trans F.2;have xt:Ext s [] w s [] {g with heap:=g.heap.setIfInBounds b (.mapIter (some m) d (f.push e.born) d)}:=T.ext0 [];refine⟨_,_,.tuple #[.bool true,e.key,e.val],_,s,[],.inr ⟨y,L,k1,rfl,rfl⟩,?_,
    ⟨[.bool true,e.key,e.val],rfl,_,_,rfl,rfl,_,_,rfl,(v1.mono xt).mono ⟨λ_ q=>q,λ_ _=>rfl,λ_ _ q=>q,λj c q=>by simp at q⟩,_,_,rfl,(v2.mono xt).mono ⟨λ_ q=>q,λ_ _=>rfl,λ_ _ q=>q,λj c q=>by simp at q⟩,rfl⟩,by simpa using F.1,T⟩
   generalize a.eval=ρ at*;simp only[execOp,ho,q2,Vu,g3,Result.andThen,setBlock];rfl
theorem OpV.entry{e:A×A}(J:o.op=.entry x:=by exact rfl)(hx:opA env x=.ptr i 0:=by exact rfl)(hH:H[i]?=some (.iter (some e) es):=by exact rfl):OpV P o env H (.tup [e.1,e.2]):=by
 intro R M σ N a w r;have n:=Qj r x;rw[hx]at n;obtain⟨b,u,p⟩:=n;rcases r.sim.blk i _ _ u hH with⟨_,h,_⟩|⟨m,l,d,k,left,y,O,E,Q,G,L,T,s⟩
 .cases h
 .obtain⟨f,F,z,B,t⟩:=s e rfl;refine⟨.tuple #[f.key,f.val],?_,[f.key,f.val],rfl,_,_,rfl,B.mono ⟨λ_ q=>q,λ_ _=>rfl,λ_ _ q=>q,λj c q=>by simp at q⟩,_,_,rfl,t.mono ⟨λ_ q=>q,λ_ _=>rfl,λ_ _ q=>q,λj c q=>by simp at q⟩,rfl⟩;have g:l.find? (·.born==f.born)=some f:=by rw[<- Array.find?_toList];exact find_born f l.toList G F
  generalize a.eval=ρ at*;simp only[execOp,J,p,Instr.entry,getObj,Vu,Sem.run,y,E,Result.andThen,z,bne_self_eq_false,Xj,if_false,g];rfl
end
end
end Go.Sw
namespace Go.Sw
def Qbm{E:Type}(x:E):List E->List (List E)
 |[]=>[[x]]
 |y::l=>(x::y::l)::(Qbm x l).map (y:: ·)
def QbL{E:Type}:List E->List (List E)
 |[]=>[[]]
 |x::l=>(QbL l).flatMap (Qbm x)
theorem Qev{E:Type}(x:E):∀(a b:List E),a++x::b∈Qbm x (a++b)
 |[],[]=>by simp[Qbm]
 |[],y::b=>by simp[Qbm]
 |y::a,b=>by
  simp only[List.cons_append,Qbm,Ve,Xf];exact .inr ⟨a++x::b,Qev x a b,rfl⟩
theorem Qc9{E:Type}:∀(l p:List E),p.Perm l->p∈QbL l
 |[],p,h=>by rw[List.perm_nil.1 h];simp[QbL]
 |x::l,p,h=>by
  have hx:x∈p:=h.mem_iff.2 (by simp);obtain⟨a,b,rfl⟩:=List.append_of_mem hx;have h2:(a++b).Perm l:=(List.perm_cons x).1 ((List.perm_middle.symm).trans h);simp only[QbL,List.mem_flatMap];exact⟨a++b,Qc9 l _ h2,Qev x a b⟩
def anyP{E R:Type}[DecidableEq R](k:List E->Option R)(l:List E):Option R:=bif (QbL l).all (λp=>decide (k p=k l))then k l else none
theorem Qnx{E R:Type}[DecidableEq R]{k:List E->Option R}{l:List E}{r:R}(h:anyP k l=some r)(p:List E)(a:p.Perm l):k p=some r:=by
 unfold anyP at h;cases q:(QbL l).all (λp=>decide (k p=k l))with
 |true=>
  rw[q]at h;have:=Xw.1 q p (Qc9 l p a);rw[of_decide_eq_true this];exact h
 |false=>rw[q]at h;cases h
theorem Qcd{E:Type}:∀(l p:List E),p∈QbL l->p.Perm l
 |[],p,h=>by simp[QbL]at h;rw[h]
 |x::l,p,h=>by
  simp only[QbL,List.mem_flatMap]at h;obtain⟨q,hq,hp⟩:=h;have ins:∀(q p:List E),p∈Qbm x q->p.Perm (x::q):=by
   intro q
   induction q with
   |nil=>intro p hp;simp[Qbm]at hp;rw[hp]
   |cons y q b=>
    intro p hp;simp only[Qbm,Ve,Xf]at hp;rcases hp with rfl|⟨z,a,rfl⟩
    .exact .refl _
    .exact((b z a).cons y).trans (List.Perm.swap _ _ _)
  exact(ins q p hp).trans ((Qcd l q hq).cons x)
theorem Qny{E R:Type}[DecidableEq R]{k:List E->Option R}{l:List E}{r:R}(h:∀p,p.Perm l->k p=some r):anyP k l=some r:=by
 unfold anyP;have:(QbL l).all (λp=>decide (k p=k l))=true:=Xw.2 λp a=>by
  rw[h p (Qcd l p a),h l (.refl _)];simp
 rw[this];exact h l (.refl _)
section
variable {P:Program}{o:Oper}{env:Env}{H:Qc}{h0 N:Nat}{Q:QC}{c:Code}
section
variable {S E B:Type}{stepE:S->E->Option (Ctl S B)}{stepN:S->Option B}{G:B->Prop} (Es:S->Env) (Hp:S->List (A×A)->Qc) {enc:E->A×A}
theorem QjQ{α β:Type}{f:α->β}:∀{m g:List β},m.Perm g->∀{l:List α},g=l.map f->∃l':List α,l'.Perm l/\l'.map f=m:=by
 intro m g h
 induction h with
 |nil=>intro l d;exact⟨[],by rw[List.map_eq_nil_iff.1 d.symm],rfl⟩
 |cons x _ ih=>
  intro l d;cases l with
  |nil=>cases d
  |cons a l=>
   simp only[Vr,List.cons.injEq]at d;obtain⟨l',e,i⟩:=ih d.2;exact⟨a::l',e.cons _,by simp[i,d.1]⟩
 |swap x y m=>
  intro l d
  match l,d with
  |a::b::l,d=>
   simp only[Vr,List.cons.injEq]at d;exact⟨b::a::l,List.Perm.swap _ _ _,by simp[d.1,d.2.1,d.2.2]⟩
 |trans _ _ ih1 ih2=>
  intro l d;obtain⟨p,e,i⟩:=ih2 d;obtain⟨k,n,j⟩:=ih1 i.symm;exact⟨k,n.trans e,j⟩
end
theorem QkO{i:Nat}{g:Option (A×A)}{es:List (A×A)}{H':Qc}(z:H[i]?=some (.iter g es))(j:H.set i (.iter none es)=H'):Le h0 env H env H':=by
 subst j;intro F u σ N a w r;refine⟨u,σ,⟨r.sim.weaken (x':=.iter none es) z rfl ?_,r.env,r.size,r.defers⟩,λ_ q=>q,rfl⟩;intro y h;cases y with
 |none=>exact h
 |some b=>
  rcases h with⟨f,n,k⟩|⟨m,l,d,e,left,f,n,k,t,B,s,p,G⟩
  .exact .inl ⟨f,rfl,k⟩
  .exact .inr ⟨m,l,d,e,left,f,n,k,t,B,s,p,λx E=>by cases E⟩
end
end Go.Sw
namespace Go.Sw
def mk{α:Type}(n:Int)(z:α):Option (List α):=bif decide (0<=n)&&decide (n<=4294967296)then some (List.replicate n.toNat z)else none
theorem mk_ok{α:Type}{n:Int}{z:α}{l:List α}(h:mk n z=some l):0<=n/\n<=4294967296/\List.replicate n.toNat z=l:=by
 unfold mk at h;cases q:(decide (0<=n)&&decide (n<=4294967296))with
 |true=>rw[q]at h;simp at q;exact⟨q.1,q.2,X7 h⟩
 |false=>rw[q]at h;cases h
theorem QfB{α:Type}[Inhabited α](zl:List α)(k:Nat)(hk:zl.length=k)(h0:0<k):∀n,(List.range (n*k)).map (λi=>zl.toArray[i%zl.toArray.size]!)=(List.replicate n zl).flatten
 |0=>by simp
 |n+1=>by
  rw[Xm,List.range_add,Xg,QfB zl k hk h0 n,List.replicate_succ',Xv];congr 1;simp only[Vt,List.flatten_nil,Vo,List.map_map];apply List.ext_getElem
  .simp[hk]
  .intro i h1 h2;simp only[X9,Xy]at h1;simp only[List.getElem_map,List.getElem_range,Function.comp,List.size_toArray,hk];rw[Nat.mul_comm,Nat.mul_add_mod,Nat.mod_eq_of_lt h1];simp[hk,h1]
section
variable {P:Program}{o:Oper}{env:Env}{H:Qc}{ro:Nat->Prop}{σ:Sig}{w:World}
theorem LR.replicate{az:List A}{l:List Value}(h:LR ro σ w az l):∀n,LR ro σ w (List.replicate n az).flatten (List.replicate n l).flatten
 |0=>rfl
 |n+1=>by
  rw[List.replicate_succ,List.replicate_succ];exact h.append (LR.replicate h n)
theorem QnG{α:Type}{e:α->List A}{T et k:Nat}{x y:Operand}{kx V:IntKind}{n:Int}{zv:α}{l:List α}{z:Value}{a:A}(hm:mk n zv=some l)(E:Q1 P T et k)(hz:∀w,(zeroValue et).run P w=.ok z w)(Q:ZR a z)
  (hk:Yu a=true)(hc:Yj a=e zv)(hp:(Yj a).all YF=true)(g:Nat.beq (e zv).length k=true)
  (ho:o.op=.makeSlice T x y:=by exact rfl)(hx:opA env x=.int kx n:=by exact rfl)(hy:opA env y=.int V n:=by exact rfl):
  OpH P o env H (.osl H.length 0 l.length k) (H++[.row et k (l.map e)]):=by
 intro fr ro σ N act w r;obtain⟨n0,n1,hl⟩:=mk_ok hm;have h1:=Qj r x;rw[hx]at h1;have h2:=Qj r y;rw[hy]at h2;have aa:act.eval x=.int kx n:=h1;have ad:act.eval y=.int V n:=h2;obtain⟨i,hi,af⟩:=E.bytes;obtain⟨d,c1,L⟩:=(Q ro [] w).cells hk;have p:d.length=k:=by
  rw[L.length,hc];exact XX g
 have ae:(if n.toNat*k=0 then(#[]:Array Value)else d.toArray)=d.toArray\/n.toNat*k=0:=by
  by_cases q:n.toNat*k=0
  .exact .inr q
  .exact .inl (if_neg q)
 have b:∀(ZZ:Array Value),(ZZ=d.toArray\/n.toNat*k=0)->(Array.range (n.toNat*k)).map (λj=>ZZ[j%ZZ.size]!)=((List.replicate n.toNat d).flatten).toArray:=by
  intro ZZ hZ;by_cases q:n.toNat*k=0
  .rw[q];have:(List.replicate n.toNat d).flatten=[]:=by
    apply List.length_eq_zero_iff.1;simp[p,q]
   rw[this];simp
  .obtain rfl:ZZ=d.toArray:=hZ.resolve_right q;have ac:0<k:=by
    rcases Nat.eq_zero_or_pos k with h|h
    .rw[h,Nat.mul_zero]at q;exact absurd rfl q
    .exact h
   rw[<- QfB d k p ac n.toNat];simp[XP, <- List.toArray_range]
 have u:=L.replicate n.toNat;have Y:allK k (List.replicate n.toNat (e zv)):=by
  have:∀m,allK k (List.replicate m (e zv)):=by
   intro m
   induction m with
   |zero=>trivial
   |succ m ih=>exact⟨XX g,ih⟩
  exact this _
 have f:∀v∈(List.replicate n.toNat d).flatten,Qz v:=by
  intro v J;obtain⟨m,hm,J⟩:=List.mem_flatten.1 J;rw[List.eq_of_mem_replicate hm]at J;exact L.plain hp v J
 rw[hc]at u;have hs:=r.sim.allocRow (t:=et) (rest:=[]) Y u f;rw[Vo]at hs;have B:l.map e=List.replicate n.toNat (e zv):=by rw[<- hl,List.map_replicate]
 have F:l.length=n.toNat:=by rw[<- hl];simp
 have ab:(w.alloc (.cells ((List.replicate n.toNat d).flatten).toArray et)).shape? w.heap.size=some (et,n.toNat*k):=by
  unfold World.shape?;rw[YU];simp[p]
 refine⟨.slice (some ⟨w.heap.size,0,none⟩) n.toNat n.toNat,w.alloc (.cells ((List.replicate n.toNat d).flatten).toArray et),ro,[some w.heap.size],?_,?_,B▸hs,Qi.alloc _ r.sim.roLt r.sim.frLt⟩
 .have hw:IntKind.i64.wrap n=n:=by
   unfold IntKind.wrap;simp[IntKind.bits,IntKind.signed];omega
  have R:∀(x:Nat) (W:World),(askRoom x).run P W=.ok () W:=by
   intro x W;unfold askRoom;split<;>rfl
  have G:∀(c:Array Value) (W:World),(newRow et c).run P W=.ok ⟨W.heap.size,0,none⟩ (W.alloc (.cells c et)):=λc W=>rfl;have X:¬(n<0):=by omega
  have O:¬((i.bytes:Int)*n>2^48):=by
   have h1:(i.bytes:Int)*n<=4096*4294967296:=Int.mul_le_mul (by omega) n1 n0 (by omega);omega
  have s:(Instr.makeSlice T (.int kx n) (.int V n)).run P w=.ok (.slice (some ⟨w.heap.size,0,none⟩) n.toNat n.toNat) (w.alloc (.cells ((List.replicate n.toNat d).flatten).toArray et)):=by
   have ag:¬(n>n):=by omega
   have M:∀(k:IntKind) (m:Int) (W:World),(asInt (.int k m)).run P W=.ok m W:=λk m W=>rfl;unfold Instr.makeSlice;simp only[Vu,E.sl,E.size,hi,Result.andThen,M,Vv,hw,R,XO];rw[if_neg (by simp[X,O];omega)];by_cases q:n.toNat*k=0
   .simp only[q,if_true,Vv];have:=b #[] (.inr q);rw[q]at this;simp only[this,G]
   .simp only[q,if_false,hz,Vv,c1,b d.toArray (.inl rfl),G]
  generalize act.eval=ρ at*;simp only[execOp,ho,aa,ad,Vu,s,Result.andThen];rfl
 .right;refine⟨w.heap.size,0,n.toNat,et,n.toNat*k,?_,by rw[F],λ_=>by simp,by rw[F];exact X0 _,ab,by simp⟩;rw[<- r.sim.len];simp
end
end Go.Sw
