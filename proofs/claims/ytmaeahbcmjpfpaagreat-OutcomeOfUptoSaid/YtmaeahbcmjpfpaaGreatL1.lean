/- The rules by which the code is walked, with what they rest on (part 1). -/
import Derived.Calls
import Derived.Tactics
import Derived.Below
import Derived.TacticsIn
import Derived.OrdersIn
import Derived.RangeFuncLeaves
import Derived.RangeFuncRecord
import Derived.Laws.Strings
import Derived.Laws.World
import Derived.Orders
import Derived.Maps.Keyed
import Derived.Laws.StructEq
import Derived.Maps.RangeRun
import Derived.Shelf.SlSortCmp.NoneTotal
set_option linter.unusedVariables false
set_option linter.unusedSimpArgs false
set_option linter.unusedSectionVars false
namespace Go.Sw
open Option renaming none→AF,some→AC
open Bool renaming false→AD,true→AE
open Decidable renaming decide→AG
open Go renaming Oper→AM,Program→AK,Value→AL,World→AJ
section
abbrev AB:=@Option
abbrev AA:=@List
abbrev Xa:= @List.getElem?_set_self
abbrev Xb:= @List.getElem?_set
abbrev Xc:= @List.pairwise_cons
abbrev Xd:= @List.mem_filter
abbrev Xe:= @List.mem_map
abbrev Xf:= @List.map_append
abbrev Xg:= @Bool.not_true
abbrev Xh:= @Bool.not_false
abbrev Xi:= @Bool.false_eq_true
abbrev Xj:= @Option.map_some
abbrev Xk:= @Option.map_none
abbrev Xl:= @List.replicate_succ
abbrev Xm:= @Nat.succ_mul
abbrev Xn:= @Nat.lt_succ_self
abbrev Xo:= @List.getElem?_map
abbrev Xp:= @List.drop_eq_getElem_cons
abbrev Xq:= @List.drop_eq_nil_iff
abbrev Xr:= @List.drop_length
abbrev Xs:= @List.all_eq_true
abbrev Xt:= @List.any_eq_true
abbrev Xu:= @List.range_succ
abbrev Xw:= @Array.toList_inj
abbrev Xx:= @Nat.zero_add
abbrev Xy:= @Nat.add_zero
abbrev Xz:= @List.length_take
abbrev XA:= @List.take_append_drop
abbrev XB:= @Nat.add_mul
abbrev XC:= @Nat.min_eq_left
abbrev XD:= @Nat.mul_le_mul_right
abbrev XE:= @List.foldl_cons
abbrev XF:= @List.getElem?_cons_zero
abbrev XG:= @List.getElem?_cons_succ
abbrev XH:= @List.getElem?_toArray
abbrev XI:= @Sem.run_ite
abbrev XJ:= @List.map_toArray
abbrev XK:= @Option.bind_some
abbrev XL:= @List.getElem?_eq_getElem
abbrev XM:= @List.getElem?_eq_some_iff
abbrev XN:= @List.getElem?_append_left
abbrev XO:= @List.getElem?_append_right
abbrev XP:= @List.getElem?_eq_none
abbrev XQ:= @List.getElem?_set_ne
abbrev XR:= @Nat.eq_of_beq_eq_true
abbrev XS:= @Nat.le_of_ble_eq_true
abbrev XT:= @Nat.ble_eq_true_of_le
abbrev XU:= @Nat.le_refl
abbrev XV:= @Nat.zero_le
abbrev XW:= @Nat.le_trans
abbrev XX:= @Bool.and_eq_true
abbrev XY:= @Bool.or_eq_false_iff
abbrev XZ:= @Bool.eq_iff_iff
abbrev X0:= @Option.some.inj
abbrev X3:= @List.length_cons
abbrev X4:= @List.length_map
abbrev X5:= @List.length_append
abbrev X6:= @List.length_set
abbrev X7:= @List.mem_cons_self
abbrev X8:= @List.mem_cons_of_mem
abbrev X9:= @List.mem_cons
abbrev Va:= @List.take_append_of_le_length
abbrev Vb:= @List.drop_append_of_le_length
abbrev Vc:= @List.take_length
abbrev Vd:= @List.drop_length_add_append
abbrev Ve:= @List.take_length_add_append
abbrev Vf:= @Array.getElem?_eq_some_iff
abbrev Vg:= @List.getElem_mem
abbrev Vh:= @Array.getElem?_setIfInBounds
abbrev Vi:= @Nat.lt_of_lt_of_le
abbrev Vj:= @List.append_nil
abbrev Vk:= @List.nil_append
abbrev Vl:= @List.append_assoc
abbrev Vm:= @List.map_cons
abbrev Vn:= @List.map_nil
abbrev Vo:= @List.flatten_cons
abbrev Vp:= @Sem.run_bind
abbrev Vq:= @Sem.run_pure
abbrev Vr:= @cond_true
abbrev Vs:= @cond_false
abbrev Vt:= @decide_eq_true_eq
abbrev Vu:= @if_neg
abbrev Vv:= @if_pos
abbrev Vw:= @decide_eq_true
abbrev Vx:= @of_decide_eq_true
abbrev Vy:= @of_decide_eq_false
abbrev Vz:= @decide_eq_false
abbrev VA:= @beq_iff_eq
abbrev VB:= @beq_eq_false_iff_ne
abbrev VC:= @Bool.true_and
abbrev VD:= @List.mem_singleton
abbrev VE:= @Nat.lt_or_ge
abbrev VG:= @List.mem_append
abbrev VH:= @List.pairwise_iff_getElem
abbrev VI:= @Nat.beq_refl
abbrev VJ:= @List.mem_map_of_mem
abbrev VK:= @List.mem_of_getElem?
abbrev VL:= @List.take_of_length_le
abbrev VM:= @List.length_eq_zero_iff
abbrev VN:= @List.cons_append
abbrev VO:= @List.getD_eq_getElem?_getD
abbrev VP:= @Bool.eq_false_iff
theorem om{p:Prop}(h:p:=by omega):p:=h
theorem gq{p:Prop}(h:p:=by grind):p:=h
theorem sq{p:Prop}(h:p:=by simp):p:=h
def Zv:Nat:=0
def nG:Nat:=1
def NV:AA (AA Int):=[]
theorem gOk:((List.range nG).all λb=>Nat.beq b Zv|| !(NV.getD b []).isEmpty)=true:=by decide
theorem gLt:Nat.ble NV.length nG=true:=by decide
theorem Qr8:Nat.blt Zv nG=true:=by decide
structure GP (w:AJ):Prop where
 max:∃m:Int,w.cell? ⟨Zv,0,AF⟩=AC (.int .i64 m)
 tab:∀(g:Nat) (zs:List Int),NV[g]?=AC zs->∀(i:Nat) (z:Int),zs[i]?=AC z->w.cell? ⟨g,i,AF⟩=AC (.int .i64 z)
variable {w w':AJ}
theorem GP.keep(h:∀b,b<nG->w'.heap[b]?=w.heap[b]?)(g:GP w):GP w':=by
 obtain⟨m,j⟩:=g.max;refine⟨⟨m,?_⟩,λd q f i z t=>?_⟩
 .rw[<- j];unfold World.cell?;rw[h Zv (by simpa using Qr8)]
 .rw[<- g.tab d q f i z t];unfold World.cell?;have y:=(XM.1 f).1;have x:NV.length<=nG:=by simpa using gLt
  rw[h d (by omega)]
theorem v9{b i:Nat}{v:AL}(h:w.cell? ⟨b,i,AF⟩=AC v):b<w.heap.size:=by
 cases e:w.heap[b]? with
 |none=>simp[World.cell?,e]at h
 |some o=>exact(Vf.1 e).1
theorem GP.size{w:AJ}(g:GP w)(b:Nat)(j:b<nG):b<w.heap.size:=by
 have h:=Xs.1 gOk b (List.mem_range.2 j);rw[Bool.or_eq_true]at h;rcases h with h|h
 .obtain⟨m,f⟩:=g.max;rw[XR h];exact v9 f
 .cases e:NV[b]? with
  |none=>rw[VO,e]at h;simp at h
  |some d=>
   cases d with
   |nil=>rw[VO,e]at h;simp at h
   |cons z d=>exact v9 (g.tab b _ e 0 z rfl)
inductive A where
 |any
 |bool (b:Bool)
 |int (k:IntKind) (n:Int)
 |str (s:List UInt8)
 |nilp
 |ptr (i off:Nat)
 |rp (cs:List A)
 |nils
 |rsl (k:Nat) (es:List (List A))
 |osl (i o n k:Nat)
 |agg (cs:List A)
 |fn (f:Fn) (first cap:List A)
 |nilf
 |iface (t:Nat) (v:A)
 |nilif
 |map (i:Nat)
 |nilm
 |tup (vs:List A)
abbrev Cp:=AA (AB Nat)
def QA:AL->Prop
 |.agg _|.tuple _=>False
 |_=>True
mutual
def VR(ro:Nat->Prop)(σ:Cp)(w:AJ):A->AL->Prop
 |.any,_=>True
 |.bool b,v=>v=.bool b
 |.int k n,v=>v=.int k n
 |.str s,v=>v=.string ⟨s.toArray⟩
 |.nilp,v=>v=.pointer AF
 |.ptr i off,v=>∃b,σ[i]?=AC (AC b)/\v=.pointer (AC ⟨b,off,AF⟩)
 |.rp cs,v=>∃b off,v=.pointer (AC ⟨b,off,AF⟩)/\ro b/\CR ro [] w b cs off
 |.nils,v=>v=.slice AF 0 0
 |.rsl k es,v=>∃a cap,v=.slice a es.length cap/\es.length<=cap/\
   (es=[]\/ ∃b off,a=AC ⟨b,off,AF⟩/\ro b/\RR ro [] w b k es off)
 |.osl i o n k,v=>(n=0/\v=.slice AF 0 0)\/
   ∃b p cap t m,σ[i]?=AC (AC b)/\v=.slice (AC ⟨b,p,AF⟩) n cap/\(0<cap->p=o*k)/\(n<=cap/\cap<=9223372036854775807)/\w.shape? b=AC (t,m)/\(o+cap)*k<=m
 |.agg cs,v=>∃l:AA AL,v=.agg l.toArray/\LR ro σ w cs l
 |.fn f first cap,v=>∃l l':AA AL,v=.func f l.toArray l'.toArray/\LR ro σ w first l/\LR ro σ w cap l'
 |.nilf,v=>v=.nilFunc
 |.iface t a,v=>∃x,v=.iface t x/\VR ro σ w a x
 |.nilif,v=>v=.nilIface
 |.map i,v=>∃b,σ[i]?=AC (AC b)/\v=.map (AC b)
 |.nilm,v=>v=.map AF
 |.tup vs,v=>∃l:AA AL,v=.tuple l.toArray/\LR ro σ w vs l
def CR(ro:Nat->Prop)(σ:Cp)(w:AJ)(b:Nat):AA A->Nat->Prop
 |[],_=>True
 |a::r,off=>(∃v,w.cell? ⟨b,off,AF⟩=AC v/\QA v/\VR ro σ w a v)/\CR ro σ w b r (off+1)
def RR(ro:Nat->Prop)(σ:Cp)(w:AJ)(b k:Nat):AA (AA A)->Nat->Prop
 |[],_=>True
 |cs::r,off=>cs.length=k/\CR ro σ w b cs off/\RR ro σ w b k r (off+k)
def LR(ro:Nat->Prop)(σ:Cp)(w:AJ):AA A->AA AL->Prop
 |[],l=>l=[]
 |a::r,l=>∃v l',l=v::l'/\VR ro σ w a v/\LR ro σ w r l'
end
structure Dh (ro:Nat->Prop) (σ:Cp) (w:AJ) (ro':Nat->Prop) (σ':Cp) (w':AJ):Prop where
 sub:∀b,ro b->ro' b
 keep:∀b,ro b->w'.heap[b]?=w.heap[b]?
 shape:∀b x,w.shape? b=AC x->w'.shape? b=AC x
 sig:∀(i b:Nat),σ[i]?=AC (AC b)->σ'[i]?=AC (AC b)
theorem v8{b d:Nat}(h:w'.heap[b]?=w.heap[b]?):w'.cell? ⟨b,d,AF⟩=w.cell? ⟨b,d,AF⟩:=by
 simp only[World.cell?,h]
variable {ro ro':Nat->Prop}{σ:Cp}
theorem Dh.nil{σ':Cp}(h:Dh ro σ w ro' σ' w'):Dh ro [] w ro' [] w':=
 ⟨h.sub,h.keep,h.shape,λ_ _ q=>q⟩
mutual
theorem VR.mono{ro ro':Nat->Prop}{w w':AJ}:∀{a:A} {σ σ':Cp} {v:AL},Dh ro σ w ro' σ' w'->VR ro σ w a v->VR ro' σ' w' a v
 |.any,_,_,_,h,_=>trivial
 |.bool b,_,_,v,h,q=>q
 |.int k n,_,_,v,h,q=>q
 |.str s,_,_,v,h,q=>q
 |.nilp,_,_,v,h,q=>q
 |.ptr i off,_,_,v,h,q=>by
  simp only[VR]at q⊢;obtain⟨b,h1,h2⟩:=q;exact⟨b,h.sig _ _ h1,h2⟩
 |.rp cs,_,_,v,h,q=>by
  simp only[VR]at q⊢;obtain⟨b,off,h1,h2,h3⟩:=q;exact⟨b,off,h1,h.sub _ h2,CR.mono h.nil h2 h3⟩
 |.nils,_,_,v,h,q=>q
 |.rsl k es,_,_,v,h,q=>by
  simp only[VR]at q⊢;obtain⟨a,cap,h1,h2,h3⟩:=q;refine⟨a,cap,h1,h2,?_⟩;rcases h3 with h3|⟨b,off,h4,h5,h6⟩
  .exact .inl h3
  .exact .inr ⟨b,off,h4,h.sub _ h5,RR.mono h.nil h5 h6⟩
 |.osl i o n k,_,_,v,h,q=>by
  simp only[VR]at q⊢;rcases q with q|⟨b,p,cap,t,m,h1,h2,h6,h3,h4,h5⟩
  .exact .inl q
  .exact .inr ⟨b,p,cap,t,m,h.sig _ _ h1,h2,h6,h3,h.shape _ _ h4,h5⟩
 |.agg cs,_,_,v,h,q=>by
  simp only[VR]at q⊢;obtain⟨l,h1,h2⟩:=q;exact⟨l,h1,LR.mono h h2⟩
 |.fn f a c,_,_,v,h,q=>by
  simp only[VR]at q⊢;obtain⟨l,l',h1,h2,h3⟩:=q;exact⟨l,l',h1,LR.mono h h2,LR.mono h h3⟩
 |.nilf,_,_,v,h,q=>q
 |.iface t a,_,_,v,h,q=>by
  simp only[VR]at q⊢;obtain⟨x,h1,h2⟩:=q;exact⟨x,h1,VR.mono h h2⟩
 |.nilif,_,_,v,h,q=>q
 |.map i,_,_,v,h,q=>by
  simp only[VR]at q⊢;obtain⟨b,h1,h2⟩:=q;exact⟨b,h.sig _ _ h1,h2⟩
 |.nilm,_,_,v,h,q=>q
 |.tup vs,_,_,v,h,q=>by
  simp only[VR]at q⊢;obtain⟨l,h1,h2⟩:=q;exact⟨l,h1,LR.mono h h2⟩
theorem CR.mono{ro ro':Nat->Prop}{w w':AJ}:∀{cs:AA A} {σ σ':Cp} {b off:Nat},Dh ro σ w ro' σ' w'->ro b->CR ro σ w b cs off->CR ro' σ' w' b cs off
 |[],_,_,_,_,_,_,_=>trivial
 |a::r,_,_,b,off,h,hb,q=>by
  simp only[CR]at q⊢;obtain⟨⟨v,h1,hp,h2⟩,h3⟩:=q;exact⟨⟨v,by rw[v8 (h.keep _ hb)];exact h1,hp,VR.mono h h2⟩,CR.mono h hb h3⟩
theorem RR.mono{ro ro':Nat->Prop}{w w':AJ}:∀{es:AA (AA A)} {σ σ':Cp} {b k off:Nat},Dh ro σ w ro' σ' w'->ro b->RR ro σ w b k es off->RR ro' σ' w' b k es off
 |[],_,_,_,_,_,_,_,_=>trivial
 |cs::r,_,_,b,k,off,h,hb,q=>by
  simp only[RR]at q⊢;obtain⟨h1,h2,h3⟩:=q;exact⟨h1,CR.mono h hb h2,RR.mono h hb h3⟩
theorem LR.mono{ro ro':Nat->Prop}{w w':AJ}:∀{az:AA A} {σ σ':Cp} {l:AA AL},Dh ro σ w ro' σ' w'->LR ro σ w az l->LR ro' σ' w' az l
 |[],_,_,_,h,q=>q
 |a::r,_,_,l,h,q=>by
  simp only[LR]at q⊢;obtain⟨v,l',h1,h2,h3⟩:=q;exact⟨v,l',h1,VR.mono h h2,LR.mono h h3⟩
end
structure g_ where
 fl:Bool
 off:Nat
 lo:Int
 hi:Int
def eC(b1 b2:Nat)(e:g_):AA A:=[.ptr (bif e.fl then b2 else b1) e.off,.int .i64 e.lo,.int .i64 e.hi]
inductive Ci where
 |dead
 |cells (t:Nat) (cs:List A)
 |row (t k:Nat) (es:List (List A))
 |rowr (t k:Nat) (es:List (List A))
 |map (es:List (A×A))
 |iter (cur:Option (A×A)) (es:List (A×A))
 |fmap (es:List (A×A))
 |ents (t b1 b2:Nat) (es:List g_)
def Ci.live:Ci->Bool
 |.dead=>AD
 |.fmap _=>AD
 |_=>AE
theorem Ci.nd{x:Ci}(h:x.live=AE):x≠ .dead:=by rintro rfl;cases h
abbrev Qb:=AA Ci
def ER(ro:Nat->Prop)(σ:Cp)(w:AJ):AA (A×A)->AA MapEntry->Prop
 |[],l=>l=[]
 |x::r,l=>∃e l',l=e::l'/\VR ro σ w x.1 e.key/\VR ro σ w x.2 e.val/\ER ro σ w r l'
def fu(ro:Nat->Prop)(w:AJ)(b:Nat)(cur:AB (A×A))(es:AA (A×A)):Prop:=
 (es=[]/\cur=AF/\w.heap[b]?=AC (.mapIter AF 0 #[] 0))\/
 ∃m l clock seen left,w.heap[b]?=AC (.mapIter (AC m) clock seen clock)/\ro m/\w.heap[m]?=AC (.map l clock)/\(∀e∈l.toList,e.born<clock)/\(l.toList.map (·.born)).Nodup/\
  (left:AA MapEntry).Perm (l.toList.filter λe=> !seen.contains e.born)/\ER ro [] w es left/\
  (∀x,cur=AC x->∃e∈l.toList,seen.back? =AC e.born/\VR ro [] w x.1 e.key/\VR ro [] w x.2 e.val)
def RL(ro:Nat->Prop)(σ:Cp)(w:AJ)(k:Nat):AA (AA A)->AA AL->Prop
 |[],_=>True
 |c::es,l=>∃l1 l2,l=l1++l2/\c.length=k/\(LR ro σ w c l1/\ ∀v∈l1,QA v)/\RL ro σ w k es l2
theorem RL.mono{ro ro':Nat->Prop}{σ σ':Cp}{w w':AJ}(h:Dh ro σ w ro' σ' w'){k:Nat}:∀{es:AA (AA A)} {l:AA AL},RL ro σ w k es l->RL ro' σ' w' k es l
 |[],_,_=>trivial
 |c::es,l,⟨l1,l2,h1,h2,h3,h4⟩=>⟨l1,l2,h1,h2,⟨h3.1.mono h,h3.2⟩,RL.mono h h4⟩
def BR(ro:Nat->Prop)(σ:Cp)(w:AJ):Ci->AB Nat->Prop
 |.dead,_=>True
 |.cells t cs,AC b=>∃l:AA AL,w.heap[b]?=AC (.cells l.toArray t (0,0))/\LR ro σ w cs l/\ ∀v∈l,QA v
 |.row t k es,AC b=>∃l:AA AL,w.heap[b]?=AC (.cells l.toArray t (0,0))/\RL ro [] w k es l
 |.rowr t k es,AC b=>∃l:AA AL,w.heap[b]?=AC (.cells l.toArray t (0,0))/\RL ro σ w k es l
 |.row _ _ es,AF=>es=[]
 |.ents t b1 b2 es,AC b=>∃l:AA AL,w.heap[b]?=AC (.cells l.toArray t (0,0))/\RL ro σ w 3 (es.map (eC b1 b2)) l
 |.ents _ _ _ es,AF=>es=[]
 |.map es,AC b=>∃l clock,w.heap[b]?=AC (.map l clock)/\ER ro [] w es l.toList/\
   (∀e∈l.toList,e.born<clock)/\(l.toList.map (·.born)).Nodup/\(l.toList.map (·.key)).Nodup
 |.iter cur es,AC b=>fu ro w b cur es
 |.fmap es,AC b=>ro b/\ ∃l clock,w.heap[b]?=AC (.map l clock)/\ER ro [] w es l.toList/\
   (∀e∈l.toList,e.born<clock)/\(l.toList.map (·.born)).Nodup/\(l.toList.map (·.key)).Nodup
 |_,AF=>False
structure OF (ro:Nat->Prop) (w:AJ):Prop where
 lt:∀b,ro b->b<w.heap.size
 g:∀b,b<nG->ro b
 gp:GP w
theorem OF.to(h:OF ro w)(sub:∀b,ro b->ro' b)(keep:∀b,ro b->w'.heap[b]?=w.heap[b]?)(lt:∀b,ro' b->b<w'.heap.size):OF ro' w':=
 ⟨lt,λb hb=>sub b (h.g b hb),h.gp.keep λb hb=>keep b (h.g b hb)⟩
structure Cm (fr ro:Nat->Prop) (σ:Cp) (H:Qb) (w:AJ):Prop where
 len:σ.length=H.length
 roOk:OF ro w
 frLt:∀b,fr b->b<w.heap.size
 roFr:∀b,ro b->¬fr b
 own:∀(i b:Nat) (blk:Ci),σ[i]?=AC (AC b)->H[i]?=AC blk->blk.live=AE->b<w.heap.size/\ ¬ro b/\ ¬fr b
 inj:∀(i j b:Nat) (x y:Ci),σ[i]?=AC (AC b)->σ[j]?=AC (AC b)->H[i]?=AC x->H[j]?=AC y->x.live=AE->y.live=AE->i=j
 blk:∀(i:Nat) (s:Option Nat) (x:Ci),σ[i]?=AC s->H[i]?=AC x->BR ro σ w x s
variable {fr:Nat->Prop}
theorem Cm.roLt{H:Qb}(s:Cm fr ro σ H w):∀b,ro b->b<w.heap.size:=s.roOk.lt
structure Qe (fr ro:Nat->Prop) (w:AJ) (ro':Nat->Prop) (w':AJ):Prop where
 sub:∀b,ro b->ro' b
 keepRo:∀b,ro b->w'.heap[b]?=w.heap[b]?
 keepFr:∀b,fr b->w'.heap[b]?=w.heap[b]?
 size:w.heap.size<=w'.heap.size
 shape:∀b x,w.shape? b=AC x->w'.shape? b=AC x
 os:w'.os=w.os
 tape:w'.tape=w.tape
 output:w'.output=w.output
 drawn:w.drawn<=w'.drawn
theorem Qe.refl(fr ro:Nat->Prop)(w:AJ):Qe fr ro w ro w:=
 ⟨λ_ h=>h,λ_ _=>rfl,λ_ _=>rfl,XU _,λ_ _ h=>h,rfl,rfl,rfl,XU _⟩
theorem Qe.trans{fr ro ro1 ro2:Nat->Prop}{w w1 w2:AJ}(h:Qe fr ro w ro1 w1)(k:Qe fr ro1 w1 ro2 w2):Qe fr ro w ro2 w2:=
 ⟨λb q=>k.sub _ (h.sub _ q),λb q=>(k.keepRo _ (h.sub _ q)).trans (h.keepRo _ q),λb q=>(k.keepFr _ q).trans (h.keepFr _ q),
  XW h.size k.size,λb x q=>k.shape _ _ (h.shape _ _ q),k.os.trans h.os,k.tape.trans h.tape,k.output.trans h.output,XW h.drawn k.drawn⟩
variable {τ:Cp}
theorem jq{i b:Nat}(h:σ[i]?=AC (AC b)):(σ++τ)[i]?=AC (AC b):=by
 grind
theorem Qe.ext(h:Qe fr ro w ro' w')(σ τ:Cp):Dh ro σ w ro' (σ++τ) w':=
 ⟨h.sub,h.keepRo,h.shape,λ_ _=>jq⟩
theorem Qe.ext0(h:Qe fr ro w ro' w')(σ:Cp):Dh ro σ w ro' σ w':=
 ⟨h.sub,h.keepRo,h.shape,λ_ _ q=>q⟩
theorem ER.mono{ro ro':Nat->Prop}{σ σ':Cp}{w w':AJ}(h:Dh ro σ w ro' σ' w'):∀{es:AA (A×A)} {l:AA MapEntry},ER ro σ w es l->ER ro' σ' w' es l
 |[],_,q=>q
 |x::r,l,q=>by
  simp only[ER]at q⊢;obtain⟨e,l',h1,h2,h3,h4⟩:=q;exact⟨e,l',h1,h2.mono h,h3.mono h,ER.mono h h4⟩
theorem fu.keep{ro ro':Nat->Prop}{σ σ':Cp}{w w':AJ}(h:Dh ro σ w ro' σ' w'){b:Nat}(O:w'.heap[b]?=w.heap[b]?){f:AB (A×A)}{es:AA (A×A)}
  (q:fu ro w b f es):fu ro' w' b f es:=by
 rcases q with⟨t,j,y⟩|⟨m,l,d,g,left,t,j,y,G,L,B,J,E⟩
 .exact .inl ⟨t,j,gq⟩
 .refine .inr ⟨m,l,d,g,left,gq,h.sub _ j,by rw[h.keep _ j];exact y,G,L,B,J.mono h.nil,λx hx=>?_⟩;obtain⟨e,F,H,N,M⟩:=E x hx;exact⟨e,F,H,N.mono h.nil,M.mono h.nil⟩
theorem CR.keep{ro ro':Nat->Prop}{σ σ':Cp}{w w':AJ}(h:Dh ro σ w ro' σ' w'){b:Nat}(hb:w'.heap[b]?=w.heap[b]?):
  ∀{cs:AA A} {off:Nat},CR ro σ w b cs off->CR ro' σ' w' b cs off
 |[],_,_=>trivial
 |a::r,off,q=>by
  simp only[CR]at q⊢;obtain⟨⟨v,h1,hp,h2⟩,h3⟩:=q;exact⟨⟨v,by rw[v8 hb];exact h1,hp,h2.mono h⟩,CR.keep h hb h3⟩
theorem RR.keep{ro ro':Nat->Prop}{σ σ':Cp}{w w':AJ}(h:Dh ro σ w ro' σ' w'){b:Nat}(hb:w'.heap[b]?=w.heap[b]?){k:Nat}:
  ∀{es:AA (AA A)} {off:Nat},RR ro σ w b k es off->RR ro' σ' w' b k es off
 |[],_,_=>trivial
 |cs::r,off,q=>by
  simp only[RR]at q⊢;obtain⟨h1,h2,h3⟩:=q;exact⟨h1,CR.keep h hb h2,RR.keep h hb h3⟩
theorem BR.keep{ro ro':Nat->Prop}{σ σ':Cp}{w w':AJ}(h:Dh ro σ w ro' σ' w'){x:Ci}{s:AB Nat}
  (g:∀b,s=AC b->x.live=AE->w'.heap[b]?=w.heap[b]?)(q:BR ro σ w x s):BR ro' σ' w' x s:=by
 cases x with
 |dead=>trivial
 |cells t F=>
  cases s with
  |none=>exact q
  |some b=>
   obtain⟨l,f,d,m⟩:=q;exact⟨l,by rw[g b rfl rfl];exact f,d.mono h,m⟩
 |row t k j=>
  cases s with
  |none=>exact q
  |some b=>
   obtain⟨l,f,d⟩:=q;exact⟨l,by rw[g b rfl rfl];exact f,d.mono h.nil⟩
 |rowr t k j=>
  cases s with
  |none=>exact q.elim
  |some b=>
   obtain⟨l,f,d⟩:=q;exact⟨l,by rw[g b rfl rfl];exact f,d.mono h⟩
 |ents t E G j=>
  cases s with
  |none=>exact q
  |some b=>
   obtain⟨l,f,d⟩:=q;exact⟨l,by rw[g b rfl rfl];exact f,d.mono h⟩
 |map j=>
  cases s with
  |none=>exact q
  |some b=>
   obtain⟨l,c,f,d,m⟩:=q;exact⟨l,c,by rw[g b rfl rfl];exact f,d.mono h.nil,m⟩
 |iter B j=>
  cases s with
  |none=>exact q
  |some b=>exact fu.keep h (g b rfl rfl) q
 |fmap j=>
  cases s with
  |none=>exact q
  |some b=>
   obtain⟨y,l,c,f,d,m⟩:=q;exact⟨h.sub b y,l,c,by rw[h.keep b y];exact f,d.mono h.nil,m⟩
abbrev Env:=AA (Nat×A)
def lk:Env->Nat->A
 |[],_=>.any
 |(d,a)::r,s=>bif Nat.beq s d then a else lk r s
abbrev up(env:Env)(d:Nat)(a:A):Env:=(d,a)::env
inductive Ln where
 |normal|exit (id:Nat)|ret
abbrev Qx:=Ln->Env->Qb->Prop
def Qst(fr:Nat->Prop)(w:AJ)(d:Deferred):Prop:=∃D,d={target:=.collected D,args:= #[]}/\fr D/\w.heap[D]?=AC (.deferred (AC []))
def iX(d:Deferred):Prop:=∃fv cap,d={target:=.fn fv cap,args:= #[]}
def I2(fr:Nat->Prop)(ds:AA Deferred)(w:AJ):Prop:=ds.Nodup/\ ∀d∈ds,Qst fr w d\/iX d
theorem I2.mark{d:AA Deferred}(h:I2 fr d w){D:Nat}(m:({target:=.collected D,args:= #[]}:Deferred)∈d):fr D/\w.heap[D]?=AC (.deferred (AC [])):=by
 rcases h.2 _ m with⟨D',e,g,j⟩|⟨f,c,e⟩
 .have:D=D':=by simpa using e
  subst this;exact⟨g,j⟩
 .simp at e
variable {fr':Nat->Prop}
theorem I2.to{f:AA Deferred}(h:I2 fr f w)(k:∀D,({target:=.collected D,args:= #[]}:Deferred)∈f->fr D->w.heap[D]?=AC (.deferred (AC []))->fr' D/\w'.heap[D]?=AC (.deferred (AC []))):I2 fr' f w':=by
 refine⟨h.1,λd g=>?_⟩;rcases h.2 d g with⟨D,j,x,y⟩|q
 .obtain⟨m,t⟩:=k D (j▸g) x y;exact .inl ⟨D,j,m,t⟩
 .exact .inr q
variable {ds:AA Deferred}
theorem I2.keep(h:I2 fr ds w)(k:Qe fr ro w ro' w'):I2 fr ds w':=
 h.to λD _ h2 h3=>⟨h2,(k.keepFr D h2).trans h3⟩
structure DJ (fr:Nat->Prop) (w:AJ) (ds:List Deferred) (fr':Nat->Prop) (ds':List Deferred):Prop where
 sub:∀b,fr b->fr' b
 new:∀b,fr' b->fr b\/w.heap.size<=b
 kd:∀d∈ds,d∈ds'
 ds:∀d∈ds',d∈ds\/ ∃D,d={target:=.collected D,args:= #[]}/\w.heap.size<=D
theorem DJ.refl(fr:Nat->Prop)(w:AJ)(ds:AA Deferred):DJ fr w ds fr ds:=⟨λ_ h=>h,λ_ h=>.inl h,λ_ h=>h,λ_ h=>.inl h⟩
theorem DJ.trans{f m:Nat->Prop}{t:AJ}{g j:AA Deferred}(h:DJ fr w ds f g)(hs:w.heap.size<=t.heap.size)(k:DJ f t g m j):DJ fr w ds m j:=by
 refine⟨λb q=>k.sub b (h.sub b q),λb q=>?_,λd q=>k.kd d (h.kd d q),λd q=>?_⟩
 .rcases k.new b q with q|q
  .exact h.new b q
  omega
 .rcases k.ds d q with q|⟨D,y,x⟩
  .exact h.ds d q
  grind
theorem Qe.frMono(h:Qe fr' ro w ro' w')(s:∀b,fr b->fr' b):Qe fr ro w ro' w':=
 ⟨h.sub,h.keepRo,λb q=>h.keepFr b (s b q),h.size,h.shape,h.os,h.tape,h.output,h.drawn⟩
theorem Cm.frMono{H:Qb}(h:Cm fr' ro σ H w)(s:∀b,fr b->fr' b):Cm fr ro σ H w:=
 ⟨h.len,h.roOk,λb q=>h.frLt b (s b q),λb q r=>h.roFr b q (s b r),λi b x q1 q2 q3=>let⟨a,b',c⟩:=h.own i b x q1 q2 q3;gq,h.inj,h.blk⟩
structure DT (fr ro:Nat->Prop) (σ:Cp) (H:Qb) (env:Env) (N:Nat) (a:Act) (w:AJ):Prop where
 sim:Cm fr ro σ H w
 env:∀s,VR ro σ w (lk env s) (a.tmps.getD s undef)
 size:a.tmps.size=N
 defers:I2 fr a.defers w
def HU(rd:AB Nat)(fr:Nat->Prop)(w:AJ):Prop:=∀l,rd=AC l->fr l/\ ∃r,w.heap[l]?=AC (.loop r)
theorem HU.none{fr:Nat->Prop}{w:AJ}:HU AF fr w:=λl e=>by cases e
variable {rd:AB Nat}
theorem HU.to(h:HU rd fr w)(k:Qe fr ro w ro' w')(s:∀b,fr b->fr' b):HU rd fr' w':=λl e=>by
 obtain⟨h1,r,h2⟩:=h l e;exact⟨s l h1,r,(k.keepFr l h1).trans h2⟩
def Sx:Exit->Ln->Prop
 |.normal,x=>x=.normal
 |.exit id,x=>x=.exit id
 |.ret,x=>x=.ret
 |_,_=>False
def IB(h0:Nat)(fr ro:Nat->Prop)(σ:Cp)(w:AJ)(N:Nat)(ds:AA Deferred)(Q:Qx):Exit->Act->AJ->Prop:=
 λe a' w'=>∃x env' H' ro' σ' fr',Sx e x/\Q x env' H'/\DT fr' ro' σ' H' env' N a' w'/\Qe fr ro w ro' w'/\σ'.take h0=σ.take h0/\DJ fr w ds fr' a'.defers
variable {N m:Nat}{a':Act}{σ1:Cp}
theorem IB.grow{d j:Nat->Prop}{y:AJ}{B f:AA Deferred}{Q:Qx}{e:Exit}
  (h:IB m d j σ1 y N f Q e a' w')(he:Qe fr ro w j y)(hs:σ1.take m=σ.take m)(hg:DJ fr w B d f):IB m fr ro σ w N B Q e a' w':=by
 obtain⟨x,g,H',q,σ',t,H,F,L,G,J,E⟩:=h;exact⟨x,g,H',q,σ',t,H,F,L,he.trans (G.frMono hg.sub),J.trans hs,hg.trans he.size E⟩
variable {h0:Nat}
theorem IB.step{ro1:Nat->Prop}{w1:AJ}{Q:Qx}{e:Exit}
  (h:IB h0 fr ro1 σ1 w1 N ds Q e a' w')(he:Qe fr ro w ro1 w1)(hs:σ1.take h0=σ.take h0):IB h0 fr ro σ w N ds Q e a' w':=h.grow he hs (DJ.refl _ _ _)
theorem IB.mono{j:AA Deferred}{Q Q':Qx}{e:Exit}
  (h:IB m fr ro σ w N j Q e a' w')(q:∀x env H,Q x env H->Q' x env H):IB m fr ro σ w N j Q' e a' w':=by
 obtain⟨x,d,H',f,σ',g,y,t,B⟩:=h;exact⟨x,d,H',f,σ',g,y,q _ _ _ t,B⟩
def IS(h0:Nat)(fr ro:Nat->Prop)(σ:Cp)(w:AJ)(N:Nat)(ds:AA Deferred)(Q:Qx):Exit->Act->AJ->Prop:=
 λe a' w'=>∃x env' H' ro' σ' fr',Sx e x/\Q x env' H'/\DT fr' ro' σ' H' env' N a' w'/\Qe fr ro w ro' w'/\σ'.take h0=σ.take h0/\a'.defers=ds/\DJ fr w ds fr' ds
theorem IS.grow{d g:Nat->Prop}{y:AJ}{j:AA Deferred}{Q:Qx}{e:Exit}
  (h:IS m d g σ1 y N j Q e a' w')(he:Qe fr ro w g y)(hs:σ1.take m=σ.take m)(hg:DJ fr w j d j):IS m fr ro σ w N j Q e a' w':=by
 obtain⟨x,f,H',q,σ',t,G,E,L,F,H,B,J⟩:=h;exact⟨x,f,H',q,σ',t,G,E,L,he.trans (F.frMono hg.sub),H.trans hs,B,hg.trans he.size J⟩
theorem IS.step{ro1:Nat->Prop}{w1:AJ}{Q:Qx}{e:Exit}
  (h:IS h0 fr ro1 σ1 w1 N ds Q e a' w')(he:Qe fr ro w ro1 w1)(hs:σ1.take h0=σ.take h0):IS h0 fr ro σ w N ds Q e a' w':=h.grow he hs (DJ.refl _ _ _)
theorem IS.mono{j:AA Deferred}{Q Q':Qx}{e:Exit}
  (h:IS m fr ro σ w N j Q e a' w')(q:∀x env H,Q x env H->Q' x env H):IS m fr ro σ w N j Q' e a' w':=by
 obtain⟨x,d,H',f,σ',g,y,t,B⟩:=h;exact⟨x,d,H',f,σ',g,y,q _ _ _ t,B⟩
theorem IS.postW{j:AA Deferred}{Q:Qx}{e:Exit}
  (h:IS m fr ro σ w N j Q e a' w'):IB m fr ro σ w N j Q e a' w':=by
 obtain⟨x,d,H',f,σ',g,y,q,E,t,B,F,G⟩:=h;exact⟨x,d,H',f,σ',g,y,q,E,t,B,gq⟩
def WF(rd:AB Nat):Fence:={Fence.wide with round:=rd}
variable {P:AK}{f:FuncId}
theorem WF.calls{args:Array AL}{R:Ending->AJ->Prop}:CallsIn (WF rd) 0 P f args w R↔Calls P f args w R:=callsIn_wide
abbrev Fc(P:AK)(rd:AB Nat)(ops:Array AM)(Q:Exit->Act->AJ->Prop):AA AM->Act->AJ->Prop:=wpListIn (WF rd) 0 P ops Q
def TC(P:AK)(h0 N:Nat)(c:Code)(env:Env)(H:Qb)(Q:Qx):Prop:=
 ∀rd fr ro σ a w,DT fr ro σ H env N a w->HU rd fr w->c.wpIn (WF rd) 0 P (IB h0 fr ro σ w N a.defers Q) a w
def WO(P:AK)(h0 N:Nat)(all:Array AM)(l:AA AM)(env:Env)(H:Qb)(Q:Qx):Prop:=
 ∀rd fr ro σ a w,DT fr ro σ H env N a w->HU rd fr w->Fc P rd all (IS h0 fr ro σ w N a.defers Q) l a w
def Le(h0:Nat)(env:Env)(H:Qb)(env':Env)(H':Qb):Prop:=
 ∀fr ro σ N a w,DT fr ro σ H env N a w->∃ro' σ',DT fr ro' σ' H' env' N a w/\(∀b,ro b->ro' b)/\σ'.take h0=σ.take h0
theorem Le.refl(h0:Nat)(env:Env)(H:Qb):Le h0 env H env H:=λfr ro σ N a w h=>gq
theorem Le.trans{d:Nat}{j m g:Env}{H1 H2 H3:Qb}(h:Le d j H1 m H2)(k:Le d m H2 g H3):Le d j H1 g H3:=by
 intro q t σ N a w r;obtain⟨f,σ1,x,H,F⟩:=h q t σ N a w r;obtain⟨y,σ2,B,G,E⟩:=k q f σ1 N a w x
 grind
theorem Q6(h:∀b,ro b->ro' b):Qe fr ro w ro' w:=
 ⟨h,λ_ _=>rfl,λ_ _=>rfl,XU _,λ_ _ h=>h,rfl,rfl,rfl,XU _⟩
theorem Yq{P:AK}{rd:AB Nat}{ops:Array AM}{Q Q':Exit->Act->AJ->Prop}(hq:∀e a w,Q e a w->Q' e a w):
  ∀(l:AA AM) (a:Act) (w:AJ),Fc P rd ops Q l a w->Fc P rd ops Q' l a w
 |[],a,w,h=>hq _ _ _ h
 |o::l,a,w,h=>by
  unfold Fc wpListIn at h⊢;split
  .rename_i hw;rw[Vv hw]at h;obtain⟨h1,h2⟩:=h;refine⟨h1,?_⟩
   revert h2
   generalize(o.semAt (WF rd).round a.eval).run P w=r;intro h2;have hk:=λa w=>Yq (P:=P) (rd:=rd) (ops:=ops) hq l a w;cases r with
   |ok x w=>
    cases x with
    |value v=>exact hk _ _ h2
    |skip=>exact hk _ _ h2
    |defer d=>exact hk _ _ h2
    |enter f args=>
     refine⟨h2.1,CallsIn.mono h2.2 ?_⟩;intro e w' q;cases e with
     |returned v=>grind
     |panicked c=>grind
     |outgrown=>obtain⟨a,w,q⟩:=q;exact⟨a,w,hq _ _ _ q⟩
    |row r args=>exact⟨h2.1,RowsIn.mono h2.2 λv w' q=>hk _ _ q⟩
    |round l f tmps assign body=>
     refine⟨h2.1,RoundIn.mono h2.2 ?_⟩;intro e w' q;cases e with
     |returned v=>grind
     |panicked c=>grind
     |outgrown=>obtain⟨a,w,q⟩:=q;exact⟨a,w,hq _ _ _ q⟩
    |_=>exact h2
   |halt x w=>
    cases x with
    |panic v=>exact hq _ _ _ h2
    |_=>exact h2
  .rename_i hw;rw[Vu hw]at h;exact⟨h.1,Yq hq l _ _ h.2⟩
theorem jV{o:AM}{a:Act}{x:Next}(h:(execOp a.eval o).run P w=.ok x w')(hx:∀d,x≠ .defer d):(o.semAt (WF rd).round a.eval).run P w=.ok x w':=by
 cases e:o.op with
 |defer c=>
  have:execOp a.eval o=(do pure (.defer (<- resolve a.eval c o.type))):=by simp[execOp,e]
  rw[this]at h;simp[Vp]at h;generalize(resolve a.eval c o.type).run P w=r at h;cases r with
  |ok d f=>simp[go_sem]at h;grind
  |halt x f=>simp_all
 |_=>grind[Oper.semAt_eq]
variable {Q:Exit->Act->AJ->Prop}{ops:Array AM}
theorem Jt{o:AM}{l:AA AM}{a:Act}{v:AL}(f:Region.wanted o (yielded ops a.tmps)=AE)
  (h:(execOp a.eval o).run P w=.ok (.value v) w')(k:Fc P rd ops Q l (a.put o.dst v) w'):Fc P rd ops Q (o::l) a w:=by
 unfold Fc wpListIn;rw[Vv f];exact⟨λ_ _=>trivial,by rw[jV h (λd e=>by cases e)];exact k⟩
theorem Qm6{o:AM}{l:AA AM}{a:Act}(f:Region.wanted o (yielded ops a.tmps)=AE)
  (h:(execOp a.eval o).run P w=.ok .skip w')(k:Fc P rd ops Q l (a.put o.dst undef) w'):Fc P rd ops Q (o::l) a w:=by
 unfold Fc wpListIn;rw[Vv f];exact⟨λ_ _=>trivial,by rw[jV h (λd e=>by cases e)];exact k⟩
theorem vL{o:AM}{l:AA AM}{a:Act}{args:Array AL}(g:Region.wanted o (yielded ops a.tmps)=AE)
  (h:(execOp a.eval o).run P w=.ok (.enter f args) w')(k:Calls P f args w' λe w''=>∃v,e=.returned v/\Fc P rd ops Q l (a.put o.dst v) w''):Fc P rd ops Q (o::l) a w:=by
 unfold Fc wpListIn;rw[Vv g];refine⟨λ_ _=>trivial,?_⟩;rw[jV h (λd e=>by cases e)];refine⟨λh=>by simp[WF,Fence.wide]at h,WF.calls.2 (Calls.mono k ?_)⟩
 grind
variable {all:Array AM}
section
variable {P:AK} {h0 N:Nat} {env env':Env} {H H':Qb} {Q Q':Qx} {c c':Code}
theorem TC.mono(h:TC P h0 N c env H Q)(hq:∀x env H,Q x env H->Q' x env H):TC P h0 N c env H Q':=
 λrd fr ro σ a w r hrd=>Code.wpIn_mono (λe a w q=>q.mono hq) (h rd fr ro σ a w r hrd)
theorem TC.le(f:Le h0 env H env' H')(h:TC P h0 N c env' H' Q):TC P h0 N c env H Q:=by
 intro x g m σ a w r hrd;obtain⟨d,σ',j,s,t⟩:=f g m σ N a w r;exact Code.wpIn_mono (λe a w q=>q.step (Q6 s) t) (h x g d σ' a w j hrd)
theorem WO.le{l:AA AM}(f:Le h0 env H env' H')(h:WO P h0 N all l env' H' Q):WO P h0 N all l env H Q:=by
 intro x g m σ a w r hrd;obtain⟨d,σ',j,s,t⟩:=f g m σ N a w r;exact Yq (λe a w q=>q.step (Q6 s) t) _ _ _ (h x g d σ' a w j hrd)
theorem WO.mono{all:Array AM}{l:AA AM}(h:WO P h0 N all l env H Q)(hq:∀x env H,Q x env H->Q' x env H):WO P h0 N all l env H Q':=
 λrd fr ro σ a w r hrd=>Yq (λe a w q=>q.mono hq) _ _ _ (h rd fr ro σ a w r hrd)
def d8(P:AK)(h0 N:Nat)(c:Code)(Q:Qx):Qx
 |.normal,env,H=>TC P h0 N c env H Q
 |.exit id,env,H=>Q (.exit id) env H
 |.ret,env,H=>Q .ret env H
def R6(id:Nat)(Q:Qx):Qx
 |.normal,env,H=>Q .normal env H
 |.exit id',env,H=>bif Nat.beq id' id then Q .normal env H else Q (.exit id') env H
 |.ret,env,H=>Q .ret env H
theorem TC.seq(h:TC P h0 N c env H (d8 P h0 N c' Q)):TC P h0 N (.seq c c') env H Q:=by
 intro F M L σ a w r hrd;refine wpIn_seq (Code.wpIn_mono ?_ (h F M L σ a w r hrd));rintro e J G ⟨x,d,H',f,σ',g,t,y,E,m,B,j⟩;cases e with
 |normal=>
  obtain rfl:x=.normal:=t;exact Code.wpIn_mono (λe a w q=>q.grow m B j) (y F g f σ' J G E (hrd.to m j.sub))
 |exit id=>
  obtain rfl:x=.exit id:=t;exact⟨_,d,H',f,σ',g,rfl,y,E,m,B,j⟩
 |ret=>
  obtain rfl:x=.ret:=t;exact⟨_,d,H',f,σ',g,rfl,y,E,m,B,j⟩
 |_=>exact t.elim
theorem TC.skip(h:Q .normal env H):TC P h0 N .skip env H Q:=
 λrd fr ro σ a w r hrd=>wpIn_skip ⟨_,env,H,ro,σ,fr,rfl,h,r,Qe.refl _ _ _,rfl,DJ.refl _ _ _⟩
theorem TC.ret(h:Q .ret env H):TC P h0 N .ret env H Q:=
 λrd fr ro σ a w r hrd=>wpIn_ret ⟨_,env,H,ro,σ,fr,rfl,h,r,Qe.refl _ _ _,rfl,DJ.refl _ _ _⟩
theorem TC.exit{id:Nat}(h:Q (.exit id) env H):TC P h0 N (.exit id) env H Q:=
 λrd fr ro σ a w r hrd=>wpIn_exit ⟨_,env,H,ro,σ,fr,rfl,h,r,Qe.refl _ _ _,rfl,DJ.refl _ _ _⟩
theorem TC.block{id:Nat}(h:TC P h0 N c env H (R6 id Q)):TC P h0 N (.block id c) env H Q:=by
 intro G J F σ a w r hrd;refine wpIn_block (Code.wpIn_mono ?_ (h G J F σ a w r hrd));rintro e M L ⟨x,d,H',f,σ',g,y,j,E,t,B,q⟩;cases e with
 |normal=>
  obtain rfl:x=.normal:=y;exact⟨_,d,H',f,σ',g,rfl,j,E,t,B,q⟩
 |exit m=>
  obtain rfl:x=.exit m:=y;simp[Exit.inBlock];simp only[R6]at j;by_cases e:m=id
  .subst e;rw[Vv rfl];rw[VI]at j;exact⟨_,d,H',f,σ',g,rfl,j,E,t,B,q⟩
  .rw[Vu e];have:Nat.beq m id=false:=by
    simp_all[VP]
   rw[this]at j;exact⟨_,d,H',f,σ',g,rfl,j,E,t,B,q⟩
 |ret=>
  obtain rfl:x=.ret:=y;exact⟨_,d,H',f,σ',g,rfl,j,E,t,B,q⟩
 |_=>exact y.elim
def CS(env:Env):Operand->A
 |.tmp t=>lk env t
 |.const (.bool b)=>.bool b
 |.const (.int k n)=>.int k n
 |.const (.string s)=>.str s.data.toList
 |.const (.pointer AF)=>.nilp
 |.const (.slice AF 0 0)=>.nils
 |.const (.map AF)=>.nilm
 |.const .nilFunc=>.nilf
 |.const .nilIface=>.nilif
 |.func f=>.fn (.func f) [] []
 |_=>.any
theorem Qm{a:Act}(r:DT fr ro σ H env N a w)(x:Operand):VR ro σ w (CS env x) (a.eval x):=by
 cases x with
 |tmp t=>exact r.env t
 |const v=>
  cases v with
  |slice a n k=>
   cases a with
   |none=>
    cases n with
    |zero=>cases k with
     |zero=>rfl
     |succ k=>trivial
    |succ n=>trivial
   |some a=>trivial
  |pointer p=>cases p with
   |none=>rfl
   |some p=>trivial
  |map p=>cases p with
   |none=>rfl
   |some p=>trivial
  |string s=>rfl
  |_=>simp_all[CS,VR,Act.eval]
 |global g=>trivial
 |func f=>exact⟨[],[],rfl,rfl,rfl⟩
theorem TC.cond{x:Operand}{t:Bool}(hx:CS env x=.bool t)(m:t=AE->TC P h0 N c env H Q)(j:t=AD->TC P h0 N c' env H Q):
  TC P h0 N (.cond x c c') env H Q:=by
 intro d h g σ a w r hrd;have f:=Qm r x;rw[hx]at f;exact wpIn_cond_split f (λe=>m e d h g σ a w r hrd) (λe=>j e d h g σ a w r hrd)
theorem Qn3{t:Array AL}{d s:Nat}{v:AL}(f:d<t.size):(t.setIfInBounds d v).getD s undef=if s=d then v else t.getD s undef:=by
 simp[Array.getD_eq_getD_getElem?]
 grind
theorem VR.up{fr ro:Nat->Prop}{σ:Cp}{a:Act}{w:AJ}(r:∀s,VR ro σ w (lk env s) (a.tmps.getD s undef)){d:Nat}(f:d<a.tmps.size){x:A}{v:AL}(g:VR ro σ w x v):
  ∀s,VR ro σ w (lk (up env d x) s) ((a.tmps.setIfInBounds d v).getD s undef):=by
 intro s;rw[Qn3 f];simp only[lk];by_cases e:s=d
 .simp_all
 .have:Nat.beq s d=false:=by
   simp_all[VP]
  grind
def QB(all:Array AM)(o:AM)(env:Env)(b:Bool):Prop:=
 match o.guard with
 |none=>b=AE
 |some (j,c)=>∃d,(all[j]?).bind (·.dst)=AC d/\((∃x,lk env d=.bool x/\b=(x==c))\/(lk env d=.tup []/\b=AD))
theorem YJ{o:AM}{b:Bool}(h:QB all o env b){a:Act}(r:DT fr ro σ H env N a w):
  Region.wanted o (yielded all a.tmps)=b:=by
 unfold QB at h;unfold Region.wanted;cases t:o.guard with
 |none=>grind
 |some g=>
  rw[t]at h;obtain⟨d,m,⟨x,j,q⟩|⟨j,q⟩⟩:=h
  .have f:=r.env d;rw[j]at f;simp only[VR]at f;have y:a.tmps[d]?=AC (.bool x):=by
    rw[Array.getD_eq_getD_getElem?]at f
    grind[undef]
   simp_all[yielded]
  .have f:=r.env d;rw[j]at f;obtain⟨l,f,hl⟩:=f;rw[Array.getD_eq_getD_getElem?]at f;simp[yielded,m]
   grind
def CY(P:AK)(o:AM)(env:Env)(H:Qb)(x:A):Prop:=
 ∀fr ro σ N a w,DT fr ro σ H env N a w->∃v,(execOp a.eval o).run P w=.ok (.value v) w/\VR ro σ w x v
def Fb(P:AK)(o:AM)(env:Env)(H:Qb)(x:A)(H':Qb):Prop:=
 ∀fr ro σ N a w,DT fr ro σ H env N a w->∃v w' ro' τ,(execOp a.eval o).run P w=.ok (.value v) w'/\VR ro' (σ++τ) w' x v/\
  Cm fr ro' (σ++τ) H' w'/\Qe fr ro w ro' w'
def J1(P:AK)(o:AM)(env:Env)(H:Qb)(H':Qb):Prop:=
 ∀fr ro σ N a w,DT fr ro σ H env N a w->∃w' ro' τ,(execOp a.eval o).run P w=.ok .skip w'/\
  Cm fr ro' (σ++τ) H' w'/\Qe fr ro w ro' w'
theorem WO.nil(h:Q .normal env H):WO P h0 N all [] env H Q:=
 λrd fr ro σ a w r hrd=>⟨_,env,H,ro,σ,fr,rfl,h,r,Qe.refl _ _ _,rfl,rfl,DJ.refl _ _ _⟩
theorem QJ{d:Nat}(h:d<=σ.length):(σ++τ).take d=σ.take d:=by
 grind
theorem aD{o:AM}{l:AA AM}{d:Nat}{x:A}(F:h0<=H.length)(hg:QB all o env AE)(t:o.dst=AC d)(M:Nat.blt d N=AE)
  (j:Fb P o env H x H')(k:WO P h0 N all l (up env d x) H' Q):WO P h0 N all (o::l) env H Q:=by
 intro L fr E σ a w r hrd;obtain⟨v,m,f,τ,G,B,J,g⟩:=j fr E σ N a w r;refine Jt (YJ hg r) G ?_;simp[t];have h:d<N:=by simp_all
 have y:DT fr f (σ++τ) H' (up env d x) N {a with tmps:=a.tmps.setIfInBounds d v} m:=
  ⟨J,VR.up (fr:=fr) (λs=>(r.env s).mono (g.ext σ τ)) (by rw[r.size];exact h) B,by simpa using r.size,r.defers.keep g⟩
 refine Yq (λe a w q=>q.step g (QJ ?_)) _ _ _ (k L fr f (σ++τ) _ m y (hrd.to g λ_ q=>q));rw[r.sim.len];exact F
theorem Ya{o:AM}{l:AA AM}{d:Nat}{x:A}(hg:QB all o env AE)(j:o.dst=AC d)(y:Nat.blt d N=AE)
  (g:CY P o env H x)(k:WO P h0 N all l (up env d x) H Q):WO P h0 N all (o::l) env H Q:=by
 intro t fr h σ a w r hrd;obtain⟨v,q,m⟩:=g fr h σ N a w r;refine Jt (YJ hg r) q ?_;simp[j];have f:d<N:=by simp_all
 exact k t fr h σ {a with tmps:=a.tmps.setIfInBounds d v} w ⟨r.sim,VR.up (fr:=fr) r.env (by rw[r.size];exact f) m,by simpa using r.size,r.defers⟩ hrd
theorem mj{o:AM}{l:AA AM}(y:h0<=H.length)(hg:QB all o env AE)(m:o.dst=AF)
  (g:J1 P o env H H')(k:WO P h0 N all l env H' Q):WO P h0 N all (o::l) env H Q:=by
 intro F h x σ a w r hrd;obtain⟨j,d,τ,B,E,f⟩:=g h x σ N a w r;refine Qm6 (YJ hg r) B ?_;simp[m];have t:DT h d (σ++τ) H' env N a j:=⟨E,λs=>(r.env s).mono (f.ext σ τ),r.size,r.defers.keep f⟩;refine Yq (λe a w q=>q.step f (QJ ?_)) _ _ _ (k F h d (σ++τ) _ j t (hrd.to f λ_ q=>q));rw[r.sim.len];exact y
theorem Qsq{o:AM}{l:AA AM}{x:A}(B:h0<=H.length)(hg:QB all o env AE)(m:o.dst=AF)
  (g:Fb P o env H x H')(k:WO P h0 N all l env H' Q):WO P h0 N all (o::l) env H Q:=by
 intro G h y σ a w r hrd;obtain⟨v,j,d,τ,E,J,F,f⟩:=g h y σ N a w r;refine Jt (YJ hg r) E ?_;simp[m];have t:DT h d (σ++τ) H' env N a j:=⟨F,λs=>(r.env s).mono (f.ext σ τ),r.size,r.defers.keep f⟩;refine Yq (λe a w q=>q.step f (QJ ?_)) _ _ _ (k G h d (σ++τ) _ j t (hrd.to f λ_ q=>q));rw[r.sim.len];exact B
theorem WO.skip{o:AM}{l:AA AM}{d:Nat}(hg:QB all o env AD)(g:o.dst=AC d)(m:Nat.blt d N=AE)
  (k:WO P h0 N all l (up env d (.tup [])) H Q):WO P h0 N all (o::l) env H Q:=by
 intro h fr j σ a w r hrd;unfold Fc wpListIn;rw[YJ hg r,Vu sq];refine⟨λ_ _=>trivial,?_⟩;simp[g];have f:d<N:=by simp_all
 exact k h fr j σ {a with tmps:=a.tmps.setIfInBounds d undef} w ⟨r.sim,VR.up (fr:=fr) r.env (by rw[r.size];exact f) ⟨[],rfl,rfl⟩,by simpa using r.size,r.defers⟩ hrd
theorem TC.region{id:Nat}{l:AA AM}(h:WO P h0 N l.toArray l env H Q):TC P h0 N (.region id l.toArray AD) env H Q:=
 λrd fr ro σ a w r hrd=>Code.wpIn_mono (λe a w q=>q.postW) (wpIn_region_lit (h rd fr ro σ a w r hrd))
end
mutual
def YM(ρ:Nat->Nat):A->A
 |.ptr i off=>.ptr (ρ i) off
 |.osl i o n k=>.osl (ρ i) o n k
 |.agg cs=>.agg (Jg ρ cs)
 |.fn f a c=>.fn f (Jg ρ a) (Jg ρ c)
 |.iface t v=>.iface t (YM ρ v)
 |.map i=>.map (ρ i)
 |.tup vs=>.tup (Jg ρ vs)
 |a=>a
def Jg(ρ:Nat->Nat):AA A->AA A
 |[]=>[]
 |a::r=>YM ρ a::Jg ρ r
end
def NW(ρ:Nat->Nat):AA (AA A)->AA (AA A)
 |[]=>[]
 |a::r=>Jg ρ a::NW ρ r
def Q4(ρ:Nat->Nat):Ci->Ci
 |.cells t cs=>.cells t (Jg ρ cs)
 |.rowr t k es=>.rowr t k (NW ρ es)
 |.ents t b1 b2 es=>.ents t (ρ b1) (ρ b2) es
 |b=>b
theorem vk(ρ:Nat->Nat)(b1 b2:Nat):∀(es:AA g_),NW ρ (es.map (eC b1 b2))=es.map (eC (ρ b1) (ρ b2))
 |[]=>rfl
 |e::es=>by
  have:=vk ρ b1 b2 es;simp only[Vm,NW,this];congr 1;cases h:e.fl<;>simp[eC,Jg,YM,h]
theorem Jz(ρ:Nat->Nat)(x:Ci):(Q4 ρ x).live=x.live:=by cases x<;>rfl
section
variable {ro:Nat->Prop} {σ σ':Cp} {w:AJ} {ρ:Nat->Nat} (h:∀i:Nat,σ[ρ i]?=σ'[i]?)
include h
mutual
theorem iy:∀{a:A} {v:AL},VR ro σ w (YM ρ a) v↔VR ro σ' w a v
 |.any,_=>by simp only[YM,VR]
 |.bool b,v=>by simp only[YM,VR]
 |.int k n,v=>by simp only[YM,VR]
 |.str s,v=>by simp only[YM,VR]
 |.nilp,v=>by simp only[YM,VR]
 |.ptr i off,v=>by simp only[YM,VR,h]
 |.rp cs,v=>by simp only[YM,VR]
 |.nils,v=>by simp only[YM,VR]
 |.rsl k es,v=>by simp only[YM,VR]
 |.osl i o n k,v=>by simp only[YM,VR,h]
 |.agg cs,v=>by simp only[YM,VR];exact exists_congr λl=>and_congr_right λ_=>OQ
 |.fn f a c,v=>by simp only[YM,VR];exact exists_congr λl=>exists_congr λl'=>and_congr_right λ_=>and_congr OQ OQ
 |.nilf,v=>by simp only[YM,VR]
 |.iface t a,v=>by simp only[YM,VR];exact exists_congr λl=>and_congr_right λ_=>iy
 |.nilif,v=>by simp only[YM,VR]
 |.map i,v=>by simp only[YM,VR,h]
 |.nilm,v=>by simp only[YM,VR]
 |.tup vs,v=>by simp only[YM,VR];exact exists_congr λl=>and_congr_right λ_=>OQ
theorem OQ:∀{az:AA A} {l:AA AL},LR ro σ w (Jg ρ az) l↔LR ro σ' w az l
 |[],l=>by simp only[Jg,LR]
 |a::r,l=>by
  simp only[Jg,LR];exact exists_congr λv=>exists_congr λl'=>and_congr_right λ_=>and_congr iy OQ
end
theorem wt:∀(cs:AA A),(Jg ρ cs).length=cs.length
 |[]=>rfl
 |a::r=>by simp[Jg,wt r]
theorem mg{k:Nat}:∀{es:AA (AA A)} {l:AA AL},RL ro σ w k (NW ρ es) l↔RL ro σ' w k es l
 |[],l=>by rfl
 |a::r,l=>by
  simp only[NW,RL,wt h];exact exists_congr λl1=>exists_congr λl2=>and_congr_right λ_=>and_congr_right λ_=>and_congr (and_congr_left λ_=>OQ h) mg
theorem ru{x:Ci}{s:AB Nat}:BR ro σ w (Q4 ρ x) s↔BR ro σ' w x s:=by
 cases x with
 |cells t j=>
  cases s with
  |none=>exact Iff.rfl
  |some b=>simp only[Q4,BR];exact exists_congr λl=>and_congr_right λ_=>and_congr_left λ_=>OQ h
 |rowr t k d=>
  cases s with
  |none=>exact Iff.rfl
  |some b=>simp only[Q4,BR];exact exists_congr λl=>and_congr_right λ_=>mg h
 |ents t g f d=>
  cases s with
  |none=>exact Iff.rfl
  |some b=>
   simp only[Q4,BR];refine exists_congr λl=>and_congr_right λ_=>?_;rw[<- vk];exact mg h
 |_=>cases s<;>exact Iff.rfl
end
def C(P:AK)(f:FuncId)(args:AA A)(H:Qb)(Q:A->Qb->Prop):Prop:=
 ∀fr ro σ vals w,Cm fr ro σ H w->LR ro σ w args vals->Calls P f vals.toArray w λe w'=>
  ∃v r H' ro' τ,e=.returned v/\Q r H'/\Cm fr ro' (σ++τ) H' w'/\VR ro' (σ++τ) w' r v/\Qe fr ro w ro' w'
theorem C.mono{P:AK}{f:FuncId}{args:AA A}{H:Qb}{Q Q':A->Qb->Prop}(h:C P f args H Q)(hq:∀r H,Q r H->Q' r H):C P f args H Q':=
 λfr ro σ vals w s l=>(h fr ro σ vals w s l).mono gq
def Kv:Nat->AA A->Env
 |_,[]=>[]
 |i,a::r=>(i,a)::Kv (i+1) r
theorem e_{ro:Nat->Prop}{σ:Cp}{w:AJ}:∀{args:AA A} {vals:AA AL} {i:Nat} (pre:AA AL),pre.length=i->LR ro σ w args vals->∀rest:Array AL,
  ∀s,VR ro σ w (lk (Kv i args) s) (((pre++vals).toArray++rest).getD s undef)
 |[],vals,i,pre,hp,hl,rest,s=>trivial
 |a::r,vals,i,pre,hp,hl,rest,s=>by
  simp only[LR]at hl;obtain⟨v,l',rfl,h1,h2⟩:=hl;simp only[Kv,lk];by_cases e:s=i
  .simp_all[Array.getElem?_append]
  .have:Nat.beq s i=false:=by
    simp_all[VP]
   rw[this];have:=e_ (i:=i+1) (pre++[v]) (by simp[hp]) h2 rest s
   grind
def IA(P:AK)(fn:Func)(env:Env)(H:Qb)(r:A):Prop:=
 ∀fr ro σ N a w,DT fr ro σ H env N a w->∃v,(results fn a.tmps).run P w=.ok v w/\VR ro σ w r v
def YI(P:AK)(h0:Nat)(fn:Func)(Q:A->Qb->Prop):Qx
 |.normal,env,H=>∃env' H' r,Le h0 env H env' H'/\IA P fn env' H' r/\Q r H'
 |.ret,env,H=>∃env' H' r,Le h0 env H env' H'/\IA P fn env' H' r/\Q r H'
 |.exit _,_,_=>False
theorem LR.length{ro:Nat->Prop}{σ:Cp}{w:AJ}:∀{az:AA A} {l:AA AL},LR ro σ w az l->l.length=az.length
 |[],l,h=>by simp only[LR]at h;simp[h]
 |a::r,l,h=>by
  simp only[LR]at h;obtain⟨v,l',rfl,_,h2⟩:=h;simp[h2.length]
theorem Cm.turn{H:Qb}(s:Cm fr ro σ H w){b:Nat}{obj:Obj}(F:¬ro b)(t:¬fr b)(L:∀(i:Nat) (x:Ci),σ[i]?=AC (AC b)->H[i]?=AC x->x.live=AE->False)
  (j:∀y,w.shape? b=AC y->(w.putObj b obj).shape? b=AC y):Cm fr ro σ H (w.putObj b obj)/\Qe fr ro w ro (w.putObj b obj):=by
 have m:∀c,c≠b->(w.putObj b obj).heap[c]?=w.heap[c]? :=λc E=>World.putObj_heap_other E;have f:(w.putObj b obj).heap.size=w.heap.size:=sq;have ev:Qe fr ro w ro (w.putObj b obj):=by
  refine⟨λ_ q=>q,gq,gq,om,λc x q=>?_,rfl,rfl,rfl,XU _⟩
  grind[World.shape?]
 have d:Dh ro σ w ro σ (w.putObj b obj):=by have:=ev.ext σ [];grind
 refine⟨⟨s.len,s.roOk.to (λ_ q=>q) ev.keepRo (λc q=>by rw[f];exact s.roLt c q),λc q=>by rw[f];exact s.frLt c q,s.roFr,λi c x g h B=>?_,s.inj,λi y x g h=>?_⟩,ev⟩
 .obtain⟨J,M,G⟩:=s.own i c x g h B
  grind
 .refine(s.blk i y x g h).keep d ?_
  grind
theorem JK{P:AK}{fn:Func}{tmps:Array AL}{R:Ending->AJ->Prop}{fr ro:Nat->Prop}{σ:Cp}{H:Qb}:
  ∀(ds:AA Deferred) (w:AJ),ds.Nodup->(∀d∈ds,∃D,d={target:=.collected D,args:= #[]}/\ ¬ro D/\ ¬fr D/\(∀(i:Nat) (x:Ci),σ[i]?=AC (AC D)->H[i]?=AC x->x.live=AE->False)/\w.heap[D]?=AC (.deferred (AC [])))->
  Cm fr ro σ H w->(∀w',Cm fr ro σ H w'->Qe fr ro w ro w'->∃v,(results fn tmps).run P w'=.ok v w'/\R (.returned v) w')->LeavesInM Fence.wide 0 P fn tmps R ds .returning w
 |[],w,_,_,s,hk=>by
  obtain⟨v,h1,h2⟩:=hk w s (Qe.refl _ _ _);exact⟨v,h1,h2⟩
 |d::ds,w,hn,hd,s,hk=>by
  obtain⟨D,rfl,h1,h2,h3,h4⟩:=hd d sq;obtain⟨n1,n2⟩:=List.nodup_cons.1 hn;obtain⟨s',ev⟩:=s.turn (obj:=.deferred AF) h1 h2 h3 (λy q=>by grind[World.shape?]);refine⟨sq,.inl ⟨D,_,rfl,run_takeDeferred h4,?_⟩⟩;refine JK ds _ n2 (λd' q=>?_) s' (λw' q1 q2=>hk w' q1 (ev.trans q2));obtain⟨D',rfl,g1,g2,g3,g4⟩:=hd d' (by simp[q]);refine⟨D',rfl,g1,g2,g3,(World.putObj_heap_other (λe=>?_)).trans g4⟩
  grind
variable {args:AA A}
theorem jZ{fn:Func}{c:Code}{H:Qb}{Q:A->Qb->Prop}
  (hf:P.funcs[f]?=AC fn)(hb:fn.body=AC c)(hN:fn.ntmps=N)(hA:Nat.ble args.length N=AE)
  (h:TC P H.length N c (Kv 0 args) H (YI P H.length fn Q)):C P f args H Q:=by
 intro fr ro σ vals w hs hl;have Y:=hl.length;have aa:args.length<=N:=by simp_all
 refine(callsIn_wide (n:=0)).1 (callsIn_of_wp_marks hf hb trivial (Code.wpIn_mono ?_ (h AF fr ro σ _ w ⟨hs,?_,?_,List.nodup_nil,λd y=>by cases y⟩ HU.none)))
 .rintro e E t ⟨x,J,H1,T,σ1,M,L,O,h3,h4,h5,V⟩;have F:(∃m H' r,Le H.length J H1 m H'/\IA P fn m H' r/\Q r H')->LeavesInM Fence.wide 0 P fn E.tmps (λe t=>
    ∃v' r H' g τ,e=.returned v'/\Q r H'/\Cm fr g (σ++τ) H' t/\VR g (σ++τ) t r v'/\Qe fr ro w g t) E.defers .returning t:=by
   rintro⟨m,H',r,W,hr,hq⟩;obtain⟨g,σ',j,G,ht⟩:=W M T σ1 N E t h3;have hσ:σ'=σ++σ'.drop H.length:=by
    have e1:σ'.take H.length=σ:=by rw[ht,h5,VL (by rw[hs.len];omega)]
    grind[List.take_append_drop]
   have s1:Cm fr g σ' H' t:=j.sim.frMono V.sub;refine JK (ro:=g) (fr:=fr) (σ:=σ') (H:=H') E.defers t j.defers.1 (λd y=>?_) s1 (λw2 X B=>?_)
   .obtain⟨D,rfl,_⟩:=(V.ds d y).resolve_left sq;obtain⟨g1,g2⟩:=j.defers.mark y;refine⟨D,rfl,λq=>j.sim.roFr D q g1,λq=>?_,λi x q1 q2 q3=>(j.sim.own i D x q1 q2 q3).2.2 g1,g2⟩;rcases V.ds _ y with q'|⟨D',e,q'⟩
    .cases q'
    .have:D=D':=by simpa using e
     subst this;have:=hs.frLt D q;omega
   .have R:DT fr g σ' H' m N {E with defers:=[]} w2:=⟨X,λs=>(j.env s).mono (by have:=B.ext σ' [];grind),j.size,List.nodup_nil,λd y=>by cases y⟩;obtain⟨v,e1,e2⟩:=hr fr g σ' N _ w2 R;exact⟨v,e1,v,r,H',g,σ'.drop H.length,rfl,hq,hσ▸X,hσ▸e2,(h4.trans (Q6 G)).trans B⟩
  cases e with
  |normal=>
   obtain rfl:x=.normal:=L;exact F O
  |ret=>
   obtain rfl:x=.ret:=L;exact F O
  |exit id=>
   obtain rfl:x=.exit id:=L;exact O.elim
  |_=>exact L.elim
 .intro s;have:=e_ (i:=0) [] rfl hl (Array.replicate (fn.ntmps-vals.toArray.size) undef) s
  grind
 grind
section
variable {P:AK} {fn:Func} {env:Env} {H:Qb}
theorem IA.nil(h:fn.results= #[]):IA P fn env H (.tup []):=
 λfr ro σ N a w r=>⟨.tuple #[],by simp[results,h,go_sem],[],rfl,rfl⟩
theorem IA.one{t:Nat}{x:A}(h:fn.results= #[.tmp t])(hx:lk env t=x):IA P fn env H x:=
 λfr ro σ N a w r=>⟨a.tmps.getD t undef,by simp[results,h,go_sem],hx▸r.env t⟩
theorem QmK{t u:Nat}{x y:A}(h:fn.results= #[.tmp t,.tmp u])(hx:lk env t=x)(hy:lk env u=y):IA P fn env H (.tup [x,y]):=
 λfr ro σ N a w r=>⟨.tuple #[a.tmps.getD t undef,a.tmps.getD u undef],by simp[results,h,go_sem],
  [_,_],rfl,_,_,rfl,hx▸r.env t,_,_,rfl,hy▸r.env u,rfl⟩
end
inductive CJ (S B:Type) where
 |k (s:S)
 |d (b:B)
 deriving DecidableEq
def iter{S B:Type}(step:S->AB (CJ S B)):Nat->S->AB B
 |0,_=>AF
 |n+1,s=>match step s with
  |some (.k s')=>iter step n s'
  |some (.d b)=>AC b
  |none=>AF
variable {B S:Type}
def Y9(I:S->Env->Qb->Prop)(d:CJ S B)(Q:Qx):Qx
 |.normal,env,H=>∃s,d=.k s/\I s env H
 |.exit id,env,H=>(∃b,d=.d b)/\Q (.exit id) env H
 |.ret,env,H=>(∃b,d=.d b)/\Q .ret env H
variable {env:Env}
theorem QoZ{c:Code}{S B:Type}{step:S->AB (CJ S B)}{I:S->Env->Qb->Prop}{Q:Qx}{O:B}
  (body:∀s d env H,I s env H->step s=AC d->(∀b,d=.d b->b=O)->TC P h0 N c env H (Y9 I d Q)){s0:S}(h:iter step m s0=AC O){H:Qb}(W:I s0 env H):TC P h0 N (.loop c) env H Q:=by
 intro Y F M σ a w r hrd b k cs hro hb hr;have V:∀m s env H fr1 ro1 σ1 a1 w1,iter step m s=AC O->I s env H->DT fr1 ro1 σ1 H env N a1 w1->Qe F M w ro1 w1->σ1.take h0=σ.take h0->DJ F w a.defers fr1 a1.defers->
   ∃e t j,IB h0 F M σ w N a.defers Q e t j/\ArrivesIn (Machine.fenced P (WF Y)) P (lone (b.atR a1 (.code c::.inLoop c::k)) cs w1) b k cs e t j:=by
  intro m
  induction m with
  |zero=>grind[iter]
  |succ m ih=>
   intro s env H fr1 ro1 σ1 a1 w1 hit W r1 ev1 t1 g1;simp only[iter]at hit;cases hs:step s with
   |none=>grind
   |some d=>
    rw[hs]at hit;have hd:∀b,d=.d b->b=O:=by
     grind
    obtain⟨e,t,j,T,f⟩:=body s d env H W hs hd Y fr1 ro1 σ1 a1 w1 r1 (hrd.to ev1 g1.sub) b (.inLoop c::k) cs hro hb hr;obtain⟨x,g,H',G,σ',J,R,L,q3,q4,q5,q6⟩:=T;have E:=ev1.trans (q4.frMono g1.sub);have g2:=g1.trans ev1.size q6;have hp:∀x,Q x g H'->Sx e x->IB h0 F M σ w N a.defers Q e t j:=λx q q'=>⟨x,g,H',G,σ',J,q',q,q3,E,q5.trans t1,g2⟩;cases e with
    |normal=>
     obtain rfl:x=.normal:=R;obtain⟨s',rfl,L⟩:=L;obtain⟨e2,a2,w2,X,y⟩:=ih s' g H' J G σ' t j hit L q3 E (q5.trans t1) g2;exact⟨e2,a2,w2,X,.of_steps (StepsIn.trans f (.one (fenced_calm hb hr rfl) stepR_inLoop)) y⟩
    |exit id=>
     obtain rfl:x=.exit id:=R;exact⟨_,t,j,hp _ L.2 rfl,.pass (x:=.inLoop c) rfl sq f⟩
    |ret=>
     obtain rfl:x=.ret:=R;exact⟨_,t,j,hp _ L.2 rfl,.pass (x:=.inLoop c) rfl sq f⟩
    |_=>exact R.elim
 obtain⟨e,t,j,T,f⟩:=V m s0 env H F M σ a w h W r (Qe.refl _ _ _) rfl (DJ.refl _ _ _);exact⟨e,t,j,T,.of_steps (.one (fenced_calm hb hr rfl) stepR_loop) f⟩
theorem TC.loop{P:AK}{h0 N:Nat}{c:Code}{S B:Type}{step:S->AB (CJ S B)}(E:S->Env)(Hp:S->Qb){Q:Qx}
  {m:Nat}{s0:S}{b0:B}(h:iter step m s0=AC b0){env:Env}{H:Qb}(hI:Le h0 env H (E s0) (Hp s0))
  (body:∀s d,step s=AC d->(∀b,d=.d b->b=b0)->TC P h0 N c (E s) (Hp s) (Y9 (λs env H=>Le h0 env H (E s) (Hp s)) d Q)):TC P h0 N (.loop c) env H Q:=
 QoZ (I:=λs env H=>Le h0 env H (E s) (Hp s)) (λs d env H hI hs hd=>TC.le hI (body s d hs hd)) h hI
def Cu(π:AA Nat)(n i:Nat):Nat:=
 match π[i]? with
 |some p=>p
 |none=>n+(i-π.length)
def QQ:Qb->AA Nat->AA Ci->Qb
 |H,[],xs=>H++xs
 |H,p::π,x::xs=>QQ (H.set p x) π xs
 |H,_::_,[]=>H
theorem xQ:∀(π:AA Nat) (H:Qb) (xs:AA Ci),π.length<=xs.length->(QQ H π xs).length=H.length+(xs.length-π.length)
 |[],H,xs,_=>by simp[QQ]
 |p::π,H,[],h=>by simp at h
 |p::π,H,x::xs,h=>by
  simp[X3]at h;simp only[QQ,xQ π (H.set p x) xs om,X6,X3];omega
theorem o_:∀(π:AA Nat) (H:Qb) (xs:AA Ci) (i:Nat),i<H.length->i∉π->(QQ H π xs)[i]?=H[i]?
 |[],H,xs,i,hi,_=>by simp[QQ,XN hi]
 |p::π,H,[],i,hi,h=>by simp[QQ]
 |p::π,H,x::xs,i,hi,h=>by
  simp[X9,not_or]at h;simp[QQ];rw[o_ π (H.set p x) xs i gq h.2,XQ (λe=>h.1 e.symm)]
theorem wJ:∀(π:AA Nat) (H:Qb) (xs:AA Ci) (j:Nat),π.length<=xs.length->(∀p∈π,p<H.length)->π.Nodup->
  (QQ H π xs)[Cu π H.length j]?=xs[j]?
 |[],H,xs,j,_,_,_=>by
  simp_all[QQ,Cu,XO]
 |p::π,H,[],j,h,_,_=>by simp at h
 |p::π,H,x::xs,j,h,hp,hn=>by
  simp[X3]at h;have hn':=List.nodup_cons.1 hn;simp[QQ];cases j with
  |zero=>
   grind[Cu,o_]
  |succ j=>
   have ih:=wJ π (H.set p x) xs j om (λq hq=>gq) hn'.2;have e:Cu (p::π) H.length (j+1)=Cu π H.length j:=by
    simp only[Cu,X3];simp
   grind
theorem QlU(π:AA Nat)(n i:Nat)(hi:n<=i\/i∈π):∃j,i=Cu π n j:=by
 rcases hi with hi|hi
 .refine⟨π.length+(i-n),?_⟩
  grind[Cu]
 .obtain⟨j,d,rfl⟩:=List.mem_iff_getElem.1 hi;exact⟨j,by simp[Cu,XL d]⟩
def Y6(σ:Cp)(π:AA Nat):Cp:=π.map λp=>(σ[p]?).getD AF
variable {π:AA Nat}
theorem ta{n:Nat}(hn:σ.length=n)(d:∀p∈π,p<n)(j:Nat):(σ++τ)[Cu π n j]?=(Y6 σ π++τ)[j]? :=by
 rcases(by omega)with h|h
 .grind[Cu,Y6]
 grind[Cu,Y6]
def Dc(P:AK)(o:AM)(env:Env)(H:Qb)(f:FuncId)(args:AA A):Prop:=
 ∀fr ro σ N a w,DT fr ro σ H env N a w->∃vals:AA AL,(execOp a.eval o).run P w=.ok (.enter f vals.toArray) w/\LR ro σ w args vals
theorem pJ{H:Qb}{Hc:AA Ci}(hH:π.map (λp=>H[p]?)=Hc.map AC){p:Nat}(d:p∈π):p<H.length:=by
 grind[List.mem_map_of_mem]
variable {Hc:Qb}
theorem Cm.part{H:Qb}(s0:Cm fr ro σ H w)(hH:π.map (λp=>H[p]?)=(Hc.map (Q4 (Cu π H.length))).map AC)(hπ:π.Nodup):
  Cm (λb=>fr b\/(∃i x,σ[i]?=AC (AC b)/\H[i]?=AC x/\x.live=AE/\i∉π)) ro (Y6 σ π) Hc w/\ ∀j:Nat,σ[Cu π H.length j]?=(Y6 σ π)[j]? :=by
 have hp:∀p∈π,p<H.length:=λp q=>pJ hH q;have hσl:=s0.len;have B:∀(j p:Nat),π[j]?=AC p->H[p]?=(Hc[j]?).map (Q4 (Cu π H.length)):=by
  intro j p m;have:=congrArg (λl=>l[j]?) hH
  grind
 have J:π.length=Hc.length:=by simpa using congrArg List.length hH
 have hσc:∀j:Nat,σ[Cu π H.length j]?=(Y6 σ π)[j]? :=by
  intro j;have:=ta (τ:=[]) hσl hp j
  grind
 have hπj:∀(j b:Nat),(Y6 σ π)[j]?=AC (AC b)->∃p,π[j]?=AC p/\σ[p]?=AC (AC b):=by
  intro j b m;simp only[Y6,Xo]at m
  grind
 refine⟨?_,hσc⟩
 .refine⟨by simp[Y6,J],s0.roOk,?_,?_,?_,?_,?_⟩
  .rintro b (L|⟨i,x,d,t,g,O⟩)
   .exact s0.frLt b L
   .exact(s0.own i b x d t g).1
  .rintro b L (N|⟨i,x,d,t,g,O⟩)
   .exact s0.roFr b L N
   .exact(s0.own i b x d t g).2.1 L
  .intro j b x d t g;obtain⟨p,h,E⟩:=hπj j b d;have F:H[p]?=AC (Q4 (Cu π H.length) x):=gq;obtain⟨Y,W,o3⟩:=s0.own p b _ E F (by rw[Jz];exact g);refine⟨Y,W,?_⟩;rintro(N|⟨i,y,y1,y2,V,y4⟩)
   .exact o3 N
   .have:=s0.inj i p b _ _ y1 E y2 F V (by rw[Jz];exact g)
    grind
  .intro i j b x y d t g O X T;obtain⟨p,h,E⟩:=hπj i b d;obtain⟨Q,f,M⟩:=hπj j b t;have F:H[p]?=AC (Q4 (Cu π H.length) x):=by rw[B i p h,g];rfl
   have R:H[Q]?=AC (Q4 (Cu π H.length) y):=by rw[B j Q f,O];rfl
   have:=s0.inj p Q b _ _ E M F R (by rw[Jz];exact X) (by rw[Jz];exact T);subst this;have P:=(XM.1 h).1;have m:=(XM.1 f).1;rw[XL P]at h;rw[XL m]at f;have G:=(X0 h).trans (X0 f).symm;rcases Nat.lt_trichotomy i j with q|q|q
   .exact(VH.1 hπ i j P m q G).elim
   .exact q
   .exact(VH.1 hπ j i m P q G.symm).elim
  .intro j s x d t;have m:j<π.length:=by simpa[Y6]using(XM.1 d).1
   have h:π[j]?=AC π[j]:=XL m;have F:H[π[j]]?=AC (Q4 (Cu π H.length) x):=by rw[B j _ h,t];rfl
   have E:σ[π[j]]?=AC s:=by
    have:=hσc j;rw[d]at this;simpa[Cu,h]using this
   exact(ru hσc).1 (s0.blk _ s _ E F)
variable {Qr:A->Qb->Prop}
theorem WO.call{o:AM}{l:AA AM}{H:Qb}{Q:Qx}{d:AB Nat}
  {J:AA A}(π:AA Nat)(hh:h0<=H.length)(hg:QB all o env AE)(hd:o.dst=d)(hN:∀x,d=AC x->x<N)
  (ad:Dc P o env H f args)(hargs:args=Jg (Cu π H.length) J)(hH:π.map (λp=>H[p]?)=(Hc.map (Q4 (Cu π H.length))).map AC)(hπ:π.Nodup)
  (hC:C P f J Hc Qr)
  (k:∀r H1,Qr r H1->WO P h0 N all l (match d with|some d=>up env d (YM (Cu π H.length) r)|none=>env) (QQ H π (H1.map (Q4 (Cu π H.length)))) Q):
  WO P h0 N all (o::l) env H Q:=by
 intro rd fr ro σ a w r hrd;obtain⟨X,h1,h2⟩:=ad fr ro σ N a w r;refine vL (YJ hg r) h1 ?_;have hp:∀p∈π,p<H.length:=λp q=>pJ hH q;have hσl:=r.sim.len
 let aa:Nat->Prop:=λb=>fr b\/(∃i x,σ[i]?=AC (AC b)/\H[i]?=AC x/\x.live=AE/\i∉π)
 obtain⟨ab,hσc⟩:Cm aa ro (Y6 σ π) Hc w/\_:=r.sim.part hH hπ;have V:LR ro (Y6 σ π) w J X:=(OQ hσc).1 (hargs▸h2);refine Calls.mono (hC aa ro (Y6 σ π) X w ab V) ?_;rintro e w' ⟨v,rr,H1,L,τ,rfl,hq,W,hv,ev⟩;have hσ':∀j:Nat,(σ++τ)[Cu π H.length j]?=(Y6 σ π++τ)[j]? :=λj=>ta hσl hp j;have af:H1.length=π.length+τ.length:=by rw[<- W.len];simp[Y6]
 have ac:π.length<=(H1.map (Q4 (Cu π H.length))).length:=by simp;omega
 have B:Qe fr ro w L w':=⟨ev.sub,ev.keepRo,λb q=>ev.keepFr b (.inl q),ev.size,ev.shape,ev.os,ev.tape,ev.output,ev.drawn⟩;have M:∀j,(QQ H π (H1.map (Q4 (Cu π H.length))))[Cu π H.length j]?=(H1[j]?).map (Q4 (Cu π H.length)):=by
  intro j;rw[wJ π H _ j ac hp hπ];simp
 have F:∀i,i<H.length->i∉π->(QQ H π (H1.map (Q4 (Cu π H.length))))[i]?=H[i]? :=λi=>o_ π H _ i;have t:∀i:Nat,(∃j,i=Cu π H.length j)\/(i<H.length/\i∉π):=by
  intro i;by_cases q:H.length<=i\/i∈π
  .exact .inl (QlU π H.length i q)
  .simp only[not_or]at q;exact .inr ⟨om,q.2⟩
 have E:∀i b x,i<H.length->i∉π->σ[i]?=AC (AC b)->H[i]?=AC x->x.live=AE->aa b:=λi b x m g h G T=>.inr ⟨i,x,h,G,T,g⟩;have Y:Cm fr L (σ++τ) (QQ H π (H1.map (Q4 (Cu π H.length)))) w':=by
  refine⟨?_,W.roOk,λb q=>W.frLt b (.inl q),λb q q'=>W.roFr b q (.inl q'),?_,?_,?_⟩
  .rw[xQ _ _ _ ac];simp[hσl,af]
  .intro i b x m g h;rcases t i with⟨j,rfl⟩|⟨c1,c2⟩
   .rw[hσ']at m;rw[M]at g;cases e:H1[j]? with
    |none=>rw[e]at g;simp at g
    |some y=>
     rw[e]at g;simp at g;subst g;obtain⟨o1,o2,o3⟩:=W.own j b y m e (by rw[Jz]at h;exact h);exact⟨o1,o2,λq=>o3 (.inl q)⟩
   .rw[F i c1 c2]at g;rw[XN om]at m;obtain⟨o1,o2,o3⟩:=r.sim.own i b x m g h;exact⟨Vi o1 ev.size,λq=>W.roFr b q (E i b x c1 c2 m g h),o3⟩
  .intro i O b x y m g h G T q6;have R:∀(i O:Nat) (x y:Ci),(∃j,i=Cu π H.length j)->(O<H.length/\O∉π)->(σ++τ)[i]?=AC (AC b)->(σ++τ)[O]?=AC (AC b)->
     (QQ H π (H1.map (Q4 (Cu π H.length))))[i]?=AC x->(QQ H π (H1.map (Q4 (Cu π H.length))))[O]?=AC y->x.live=AE->y.live=AE->False:=by
    rintro i O x y ⟨j,rfl⟩ ⟨c1,c2⟩ m g h G T q6;rw[hσ']at m;rw[M]at h;rw[F O c1 c2]at G;rw[XN om]at g;cases e:H1[j]? with
    |none=>rw[e]at h;simp at h
    |some z=>
     rw[e]at h;simp at h;subst h;exact(W.own j b z m e (by rw[Jz]at T;exact T)).2.2 (E O b y c1 c2 g G q6)
   rcases t i with ci|ci<;>rcases t O with ci'|ci'
   .obtain⟨j,rfl⟩:=ci;obtain⟨j',rfl⟩:=ci';rw[hσ']at m g;rw[M]at h G;cases e:H1[j]? with
    |none=>rw[e]at h;simp at h
    |some z=>
     cases e':H1[j']? with
     |none=>rw[e']at G;simp at G
     |some z'=>
      rw[e]at h;simp at h;subst h;rw[e']at G;simp at G;subst G;rw[W.inj j j' b z z' m g e e' (by rw[Jz]at T;exact T) (by rw[Jz]at q6;exact q6)]
   .exact(R i O x y ci ci' m g h G T q6).elim
   .exact(R O i y x ci' ci g m G h q6 T).elim
   .rw[F i ci.1 ci.2]at h;rw[F O ci'.1 ci'.2]at G;rw[XN om]at m g;exact r.sim.inj i O b x y m g h G T q6
  .intro i s x m g;rcases t i with⟨j,rfl⟩|⟨c1,c2⟩
   .rw[hσ']at m;rw[M]at g;cases e:H1[j]? with
    |none=>rw[e]at g;simp at g
    |some y=>
     rw[e]at g;simp at g;subst g;exact(ru hσ').2 (W.blk j s y m e)
   .rw[F i c1 c2]at g;rw[XN om]at m;refine BR.keep (B.ext σ τ) ?_ (r.sim.blk i s x m g);rintro b rfl hl;exact ev.keepFr b (E i b x c1 c2 m g hl)
 have ae:VR L (σ++τ) w' (YM (Cu π H.length) rr) v:=(iy hσ').2 hv;have hk:=k rr H1 hq;cases d with
 |none=>
  simp only[hd,Act.put];have r':DT fr L (σ++τ) (QQ H π (H1.map (Q4 (Cu π H.length)))) env N a w':=⟨Y,λs=>(r.env s).mono (B.ext σ τ),r.size,r.defers.keep B⟩;exact⟨_,rfl,Yq (λe a w q=>q.step B (QJ om)) _ _ _ (hk rd fr L (σ++τ) _ w' r' (hrd.to B λ_ q=>q))⟩
 |some d=>
  simp only[hd,Act.put];have ag:=hN d rfl;have r':DT fr L (σ++τ) (QQ H π (H1.map (Q4 (Cu π H.length)))) (up env d (YM (Cu π H.length) rr)) N {a with tmps:=a.tmps.setIfInBounds d v} w':=
   ⟨Y,VR.up (fr:=fr) (λs=>(r.env s).mono (B.ext σ τ)) (by rw[r.size];exact ag) ae,by simpa using r.size,r.defers.keep B⟩
  exact⟨_,rfl,Yq (λe a w q=>q.step B (QJ om)) _ _ _ (hk rd fr L (σ++τ) _ w' r' (hrd.to B λ_ q=>q))⟩
variable {T k off:Nat}{cs' vs:AA A}{es:AA (AA A)}{kk:IntKind}{q:AA UInt8}{t u:TypeId}
section
variable {P:AK} {o:AM} {env:Env} {H:Qb}
theorem QM{a:Act}(r:DT fr ro σ H env N a w){x:Operand}{k:IntKind}{n:Int}(h:CS env x=.int k n):a.eval x=.int k n:=by
 have:=Qm r x;rw[h]at this;exact this
theorem jS{a:Act}(r:DT fr ro σ H env N a w){x:Operand}{b:Bool}(h:CS env x=.bool b):a.eval x=.bool b:=by
 have:=Qm r x;rw[h]at this;exact this
theorem jI{a:Act}(r:DT fr ro σ H env N a w){x:Operand}{s:AA UInt8}(h:CS env x=.str s):a.eval x=.string ⟨s.toArray⟩:=by
 have:=Qm r x;rw[h]at this;exact this
theorem CY.move{x:Operand}{v:A}(ho:o.op=.move x)(hx:CS env x=v):CY P o env H v:=
 λfr ro σ N a w r=>⟨a.eval x,by simp[execOp,ho],hx▸Qm r x⟩
theorem CY.assign{x:Operand}{v:A}(ho:o.op=.assign x)(hx:CS env x=v):CY P o env H v:=
 λfr ro σ N a w r=>⟨a.eval x,by simp[execOp,ho],hx▸Qm r x⟩
theorem CY.pick{c x y:Operand}{b:Bool}{v:A}(f:o.op=.pick c x y)(d:CS env c=.bool b)(hx:(if b then CS env x else CS env y)=v):CY P o env H v:=by
 intro j h σ N a w r;have g:=jS r d;refine⟨if b then a.eval x else a.eval y,by simp_all[execOp,asBool],?_⟩
 grind[Qm]
theorem CY.add{t u:TypeId}{x y:Operand}{k:IntKind}{m n:Int}(g:o.op=.binOp .add t x y u)(hx:CS env x=.int k m)(d:CS env y=.int k n):CY P o env H (.int k (k.wrap (m+n))):=by
 intro q j σ N a w r;have f:=QM r hx;have h:=QM r d;refine⟨_,?_,rfl⟩
 simp_all[execOp,Go.binOp,eqGuard,Op.intArith]
theorem CY.sub{t u:TypeId}{x y:Operand}{k:IntKind}{m n:Int}(g:o.op=.binOp .sub t x y u)(hx:CS env x=.int k m)(d:CS env y=.int k n):CY P o env H (.int k (k.wrap (m-n))):=by
 intro q j σ N a w r;have f:=QM r hx;have h:=QM r d;refine⟨_,?_,rfl⟩
 simp_all[execOp,Go.binOp,eqGuard,Op.intArith]
theorem CY.mul{t u:TypeId}{x y:Operand}{k:IntKind}{m n:Int}(g:o.op=.binOp .mul t x y u)(hx:CS env x=.int k m)(d:CS env y=.int k n):CY P o env H (.int k (k.wrap (m*n))):=by
 intro q j σ N a w r;have f:=QM r hx;have h:=QM r d;refine⟨_,?_,rfl⟩
 simp_all[execOp,Go.binOp,eqGuard,Op.intArith]
theorem aI{op:BinOp}{x y:Operand}{k:IntKind}{m n:Int}{f:Int->Int->Bool}(h:o.op=.binOp op t x y u)(hx:CS env x=.int k m)(q:CS env y=.int k n)
  (d:op=.eql/\f=(λa b=>a==b)\/op=.neq/\f=(λa b=>a != b)\/op=.lss/\f=(λa b=>AG (a<b))\/op=.leq/\f=(λa b=>AG (a<=b))\/
   op=.gtr/\f=(λa b=>AG (b<a))\/op=.geq/\f=(λa b=>AG (b<=a))):CY P o env H (.bool (f m n)):=by
 intro E B σ N a w r;have g:=QM r hx;have j:=QM r q;refine⟨_,?_,rfl⟩;generalize a.eval=ρ at*;rcases d with⟨rfl,rfl⟩|⟨rfl,rfl⟩|⟨rfl,rfl⟩|⟨rfl,rfl⟩|⟨rfl,rfl⟩|⟨rfl,rfl⟩<;>simp[h,g,j,go_sem]
theorem CY.eql{t u:TypeId}{x y:Operand}{k:IntKind}{m n:Int}(ho:o.op=.binOp .eql t x y u)(hx:CS env x=.int k m)(hy:CS env y=.int k n):CY P o env H (.bool (m==n)):=
 aI ho hx hy sq
theorem CY.neq{t u:TypeId}{x y:Operand}{k:IntKind}{m n:Int}(ho:o.op=.binOp .neq t x y u)(hx:CS env x=.int k m)(hy:CS env y=.int k n):CY P o env H (.bool (m != n)):=
 aI ho hx hy sq
theorem CY.lss{t u:TypeId}{x y:Operand}{k:IntKind}{m n:Int}(ho:o.op=.binOp .lss t x y u)(hx:CS env x=.int k m)(hy:CS env y=.int k n):CY P o env H (.bool (AG (m<n))):=
 aI (f:=λa b=>AG (a<b)) ho hx hy sq
theorem CY.leq{t u:TypeId}{x y:Operand}{k:IntKind}{m n:Int}(ho:o.op=.binOp .leq t x y u)(hx:CS env x=.int k m)(hy:CS env y=.int k n):CY P o env H (.bool (AG (m<=n))):=
 aI (f:=λa b=>AG (a<=b)) ho hx hy sq
theorem CY.gtr{t u:TypeId}{x y:Operand}{k:IntKind}{m n:Int}(ho:o.op=.binOp .gtr t x y u)(hx:CS env x=.int k m)(hy:CS env y=.int k n):CY P o env H (.bool (AG (n<m))):=
 aI (f:=λa b=>AG (b<a)) ho hx hy sq
theorem CY.geq{t u:TypeId}{x y:Operand}{k:IntKind}{m n:Int}(ho:o.op=.binOp .geq t x y u)(hx:CS env x=.int k m)(hy:CS env y=.int k n):CY P o env H (.bool (AG (n<=m))):=
 aI (f:=λa b=>AG (b<=a)) ho hx hy sq
theorem CY.rem{t u:TypeId}{x y:Operand}{k:IntKind}{m n:Int}(g:o.op=.binOp .rem t x y u)(hx:CS env x=.int k m)(d:CS env y=.int k n)(hn:n≠0):CY P o env H (.int k (m.tmod n)):=by
 intro q j σ N a w r;have f:=QM r hx;have h:=QM r d;exact⟨_,by simp_all[execOp,Go.binOp,eqGuard,Op.intDiv],rfl⟩
theorem CY.quo{t u:TypeId}{x y:Operand}{k:IntKind}{m n:Int}(g:o.op=.binOp .quo t x y u)(hx:CS env x=.int k m)(d:CS env y=.int k n)(hn:n≠0):CY P o env H (.int k (k.wrap (m.tdiv n))):=by
 intro q j σ N a w r;have f:=QM r hx;have h:=QM r d;exact⟨_,by simp_all[execOp,Go.binOp,eqGuard,Op.intDiv],rfl⟩
theorem CY.not{t:TypeId}{x:Operand}{b:Bool}(g:o.op=.unOp .not t x)(hx:CS env x=.bool b):CY P o env H (.bool !b):=by
 intro h f σ N a w r;have d:=jS r hx;exact⟨_,by simp_all[execOp,Op.unary],rfl⟩
theorem CY.neg{t:TypeId}{x:Operand}{k:IntKind}{n:Int}(g:o.op=.unOp .neg t x)(hx:CS env x=.int k n):CY P o env H (.int k (k.wrap (0-n))):=by
 intro h f σ N a w r;have d:=QM r hx;exact⟨_,by simp_all[execOp,Op.unary,Op.intArith],rfl⟩
theorem Sj{s:TypeId}{x:Operand}{k f:IntKind}{n:Int}{d:TypeDesc}(j:o.op=.convert s t x)(hs:∀w,(underlying s).run P w=.ok d w)(h:∀w,(underlying t).run P w=.ok (.int k) w)
  (hx:CS env x=.int f n):CY P o env H (.int k (k.wrap n)):=by
 intro q m σ N a w r;have g:=QM r hx;refine⟨_,?_,rfl⟩
 simp_all[execOp,convert,Conv.intToInt]
theorem jh{op:BinOp}{x y:Operand}{p:AA UInt8}{f:AA UInt8->AA UInt8->Bool}(g:o.op=.binOp op t x y u)(hx:CS env x=.str p)(m:CS env y=.str q)
  (d:op=.eql/\f=(λa b=>a==b)\/op=.neq/\f=(λa b=>a != b)\/op=.lss/\f=Op.bytesLess\/op=.geq/\f=(λa b=> !Op.bytesLess a b)\/
   op=.leq/\f=(λa b=>Op.bytesLess a b||a==b)\/op=.gtr/\f=(λa b=> !(Op.bytesLess a b||a==b))):CY P o env H (.bool (f p q)):=by
 intro G F σ N a w r;have B:=jI r hx;have j:=jI r m;refine⟨_,?_,rfl⟩;generalize a.eval=ρ at*;have h:(⟨p.toArray⟩:ByteArray).toList=p:=sq;have E:(⟨q.toArray⟩:ByteArray).toList=q:=sq;rcases d with⟨rfl,rfl⟩|⟨rfl,rfl⟩|⟨rfl,rfl⟩|⟨rfl,rfl⟩|⟨rfl,rfl⟩|⟨rfl,rfl⟩<;>simp[g,B,j,Go.binOp,Op.stringOp,h,E,go_sem,bne]
theorem QmR{x y:Operand}{p:AA UInt8}(ho:o.op=.binOp .eql t x y u)(hx:CS env x=.str p)(hy:CS env y=.str q):CY P o env H (.bool (p==q)):=
 jh ho hx hy sq
theorem QmN{x y:Operand}{p:AA UInt8}(ho:o.op=.binOp .neq t x y u)(hx:CS env x=.str p)(hy:CS env y=.str q):CY P o env H (.bool (p != q)):=
 jh ho hx hy sq
theorem QmO{x y:Operand}{p:AA UInt8}(ho:o.op=.binOp .lss t x y u)(hx:CS env x=.str p)(hy:CS env y=.str q):CY P o env H (.bool (Op.bytesLess p q)):=
 jh ho hx hy sq
theorem QmP{x y:Operand}{s:AA UInt8}{k:IntKind}{n:Int}{c:UInt8}(q:o.op=.index t x y)(L:∀w,(underlying t).run P w=.ok .string w)(hx:CS env x=.str s)(h:CS env y=.int k n)
  (J:0<=n)(j:s[n.toNat]?=AC c):CY P o env H (.int .u8 c.toNat):=by
 intro G E σ N a w r;have F:=jI r hx;have B:=QM r h;have g:(⟨s.toArray⟩:ByteArray)[n.toNat]?=AC c:=by
  obtain⟨d,f⟩:=XM.1 j;have m:(⟨s.toArray⟩:ByteArray).size=s.length:=by rfl
  rw[getElem?_pos _ _ (by exact d)];show AC (s.toArray[n.toNat]'om)=AC c;simp[f]
 refine⟨_,?_,rfl⟩
 simp_all[execOp,Instr.index,asIntOf]
theorem vS{c:Call}{x:Operand}{s:AA UInt8}(g:o.op=.call c)(h:c={callee:=.builtin .len,args:= #[x],argTypes:= #[t]})(f:∀w,(underlying t).run P w=.ok .string w)
  (hx:CS env x=.str s):CY P o env H (.int .i64 s.length):=by
 intro m j σ N a w r;have d:=jI r hx;generalize a.eval=ρ at*;subst h;simp[execOp,g,d,resolve,invoke,Builtin.len_,f,goInt,go_sem]<;>rfl
theorem Qo4{c:Call}{e:TypeId}{x:Operand}(f:o.op=.call c)(j:c={callee:=.builtin .len,args:= #[x],argTypes:= #[t]})(h:∀w,(underlying t).run P w=.ok (.slice e) w)
  (hx:CS env x=.rsl k es):CY P o env H (.int .i64 es.length):=by
 intro q m σ N a w r;have d:=Qm r x;rw[hx]at d;obtain⟨y,g,d,_⟩:=d;refine⟨_,?_,rfl⟩;generalize a.eval=ρ at*;subst j;simp[execOp,f,d,resolve,invoke,Builtin.len_,h,goInt,go_sem]
theorem Qo5{c:Call}{e:TypeId}{x:Operand}{i s n:Nat}(f:o.op=.call c)(j:c={callee:=.builtin .len,args:= #[x],argTypes:= #[t]})(h:∀w,(underlying t).run P w=.ok (.slice e) w)
  (hx:CS env x=.osl i s n k):CY P o env H (.int .i64 n):=by
 intro B q σ N a w r;have d:=Qm r x;rw[hx]at d;refine⟨_,?_,rfl⟩;generalize a.eval=ρ at*;subst j;rcases d with⟨rfl,d⟩|⟨b,p,g,y,m,_,d,_⟩<;>
 simp[execOp,f,d,resolve,invoke,Builtin.len_,h,goInt,go_sem]
structure Yc (P:AK) (T f off n:Nat):Prop where
 h:∃fs fd,(∀w,(underlying T).run P w=.ok (.struct fs) w)/\fs[f]?=AC fd/\fd.offset=off/\(∀w,(sizeOf fd.type).run P w=.ok n w)/\n≠0
theorem UJ(b d n:Nat):(⟨b,d,AF⟩:Addr).add n=⟨b,d+n,AF⟩:=by
 simp_all[Addr.add]
theorem wu{f n b p:Nat}(d:Yc P T f off n)(w:AJ):(Instr.fieldAt T (.pointer (AC ⟨b,p,AF⟩)) f).run P w=.ok (.pointer (AC ⟨b,p+off,AF⟩)) w:=by
 obtain⟨x,g,q,j,rfl,m,t⟩:=d.h
 simp_all[Instr.fieldAt,Instr.sureAddr,fieldPlace,UJ]
theorem oZ{f n i p:Nat}{x:Operand}(g:Yc P T f off n)(h:o.op=.fieldAddr T x f)(hx:CS env x=.ptr i p):CY P o env H (.ptr i (p+off)):=by
 intro q m σ N a w r;have d:=Qm r x;rw[hx]at d;obtain⟨b,d,j⟩:=d;refine⟨.pointer (AC ⟨b,p+off,AF⟩),?_,b,d,rfl⟩;simp only[execOp,h,j,Vp,wu g];rfl
theorem CR.drop{ro:Nat->Prop}{σ:Cp}{w:AJ}{b:Nat}:∀(n:Nat) {cs:AA A} {off:Nat},CR ro σ w b cs off->CR ro σ w b (cs.drop n) (off+n)
 |0,_,_,h=>h
 |n+1,[],_,h=>trivial
 |n+1,c::cs,off,h=>by
  have:=CR.drop n h.2
  grind
theorem CR.take{ro:Nat->Prop}{σ:Cp}{w:AJ}{b:Nat}:∀(n:Nat) {cs:AA A} {off:Nat},CR ro σ w b cs off->CR ro σ w b (cs.take n) off
 |0,_,_,h=>trivial
 |n+1,[],_,h=>trivial
 |n+1,c::cs,off,h=>⟨h.1,CR.take n h.2⟩
theorem vP{f n:Nat}{x:Operand}{h:AA A}(j:Yc P T f off n)(m:o.op=.fieldAddr T x f)(hx:CS env x=.rp h)(g:h.drop off=cs'):CY P o env H (.rp cs'):=by
 intro B y σ N a w r;have d:=Qm r x;rw[hx]at d;obtain⟨b,p,d,q,t⟩:=d;refine⟨.pointer (AC ⟨b,p+off,AF⟩),?_,b,p+off,rfl,q,g▸t.drop off⟩;simp only[execOp,m,d,Vp,wu j];rfl
theorem RR.get{ro:Nat->Prop}{σ:Cp}{w:AJ}{b k:Nat}:∀(n:Nat) {es:AA (AA A)} {off:Nat} {c:AA A},RR ro σ w b k es off->es[n]?=AC c->c.length=k/\CR ro σ w b c (off+n*k)
 |n,[],_,_,h,hc=>by simp at hc
 |0,e::es,off,c,h,hc=>by
  simp at hc;subst hc;exact⟨h.1,by simpa using h.2.1⟩
 |n+1,e::es,off,c,h,hc=>by
  have:=RR.get n h.2.2 (by simpa using hc)
  grind
theorem QqJ{e:TypeId}{x y:Operand}{n:Int}{c:AA A}(j:o.op=.indexAddr t x y)(J:∀w,(underlying t).run P w=.ok (.slice e) w)
  (hs:∀w,(sizeOf e).run P w=.ok k w)(hx:CS env x=.rsl k es)(B:CS env y=.int kk n)(G:0<=n)(L:es[n.toNat]?=AC c):CY P o env H (.rp c):=by
 intro R M σ N a w r;have f:=Qm r x;rw[hx]at f;have m:=QM r B;obtain⟨Q,E,f,O,q⟩:=f;have g:n.toNat<es.length:=gq;rcases q with rfl|⟨b,d,rfl,F,h⟩
 .simp at g
 have hn:n<es.length:=om;refine⟨.pointer (AC ⟨b,d+n.toNat*k,AF⟩),?_,b,d+n.toNat*k,rfl,F,(h.get n.toNat L).2⟩;generalize a.eval=ρ at*;simp[j,f,m,Instr.indexAt,J,hs,G,hn,go_sem]
theorem s6{e:TypeId}{x y:Operand}{i s:Nat}{n:Int}(f:o.op=.indexAddr t x y)(F:∀w,(underlying t).run P w=.ok (.slice e) w)
  (hs:∀w,(sizeOf e).run P w=.ok k w)(hx:CS env x=.osl i s m k)(j:CS env y=.int kk n)(B:0<=n)(G:n<m):CY P o env H (.ptr i (s*k+n.toNat*k)):=by
 intro Q J σ N a w r;have d:=Qm r x;rw[hx]at d;have g:=QM r j;rcases d with⟨rfl,_⟩|⟨b,p,q,L,O,E,d,h,M,_⟩
 .omega
 obtain rfl:=h om;refine⟨.pointer (AC ⟨b,s*k+n.toNat*k,AF⟩),?_,b,E,rfl⟩;generalize a.eval=ρ at*;simp[f,d,g,Instr.indexAt,F,hs,B,G,go_sem]
def Dn(H:Qb)(p:A)(cs:AA A):Prop:=
 ∀fr ro σ w v,Cm fr ro σ H w->VR ro σ w p v->∃b off,v=.pointer (AC ⟨b,off,AF⟩)/\CR ro σ w b cs off
theorem VR.lift{a:A}{v:AL}(h:VR ro [] w a v):VR ro σ w a v:=
 h.mono ⟨λ_ q=>q,λ_ _=>rfl,λ_ _ q=>q,sq⟩
theorem CR.lift{ro:Nat->Prop}{σ:Cp}{w:AJ}{b:Nat}:∀{cs:AA A} {off:Nat},CR ro [] w b cs off->CR ro σ w b cs off
 |[],_,_=>trivial
 |c::cs,off,⟨⟨v,h1,hp,h2⟩,h3⟩=>⟨⟨v,h1,hp,h2.lift⟩,CR.lift h3⟩
theorem LR.lift{ro:Nat->Prop}{σ:Cp}{w:AJ}:∀{cs:AA A} {l:AA AL},LR ro [] w cs l->LR ro σ w cs l
 |[],_,h=>h
 |c::cs,l,⟨v,l',h1,h2,h3⟩=>⟨v,l',h1,h2.lift,LR.lift h3⟩
theorem Dn.rp{cs:AA A}:Dn H (.rp cs) cs:=λfr ro σ w v s ⟨b,off,h1,h2,h3⟩=>⟨b,off,h1,h3.lift⟩
theorem LR.cells{ro:Nat->Prop}{σ:Cp}{w:AJ}{b t:Nat}{fz:Nat×Nat}{pre l:AA AL}(g:w.heap[b]?=AC (.cells (pre++l).toArray t fz))(f:∀v∈l,QA v):
  ∀{d:AA A},LR ro σ w d l->CR ro σ w b d pre.length:=by
 induction l generalizing pre with
 |nil=>
  intro d h;cases d with
  |nil=>trivial
  |cons c d=>obtain⟨v,q,h,_⟩:=h;cases h
 |cons v l j=>
  intro d h;cases d with
  |nil=>trivial
  |cons c d=>
   obtain⟨E,q,y,m,B⟩:=h;cases y;refine⟨⟨v,by simp[World.cell?,g],f v sq,m⟩,?_⟩;have:=j (pre:=pre++[v]) (by simpa using g) (λx hx=>f x (by simp[hx])) B
   grind
theorem Dn.cells{i d t:Nat}{f cs':AA A}(hH:H[i]?=AC (.cells t f))(m:f.drop d=cs'):Dn H (.ptr i d) cs':=by
 intro E B σ w v s h;obtain⟨b,j,y⟩:=h;obtain⟨l,g,x,q⟩:=s.blk i _ _ j hH;have:=LR.cells (pre:=[]) (by simpa using g) q x;have:=this.drop d
 grind
theorem LR.get{ro:Nat->Prop}{σ:Cp}{w:AJ}:∀{az:AA A} {l:AA AL} (i:Nat) {a:A},LR ro σ w az l->az[i]?=AC a->∃v,l[i]?=AC v/\VR ro σ w a v
 |[],l,i,a,h,ha=>by simp at ha
 |x::az,l,0,a,⟨v,l',h1,h2,h3⟩,ha=>by
  grind
 |x::az,l,i+1,a,⟨v,l',h1,h2,h3⟩,ha=>by
  obtain⟨v',q1,q2⟩:=LR.get i h3 (by simpa using ha)
  grind
theorem LR.drop{ro:Nat->Prop}{σ:Cp}{w:AJ}:∀(n:Nat) {az:AA A} {l:AA AL},LR ro σ w az l->LR ro σ w (az.drop n) (l.drop n)
 |0,az,l,h=>h
 |n+1,[],l,h=>by cases(show l=[]from h);rfl
 |n+1,a::az,l,⟨v,l',h1,h2,h3⟩=>by subst h1;exact LR.drop n h3
theorem LR.take{ro:Nat->Prop}{σ:Cp}{w:AJ}:∀(n:Nat) {az:AA A} {l:AA AL},LR ro σ w az l->LR ro σ w (az.take n) (l.take n)
 |0,az,l,h=>rfl
 |n+1,[],l,h=>by cases(show l=[]from h);rfl
 |n+1,a::az,l,⟨v,l',h1,h2,h3⟩=>by subst h1;exact⟨v,l'.take n,rfl,h2,LR.take n h3⟩
theorem LR.append{ro:Nat->Prop}{σ:Cp}{w:AJ}:∀{az:AA A} {l:AA AL} {bs:AA A} {m:AA AL},LR ro σ w az l->LR ro σ w bs m->LR ro σ w (az++bs) (l++m)
 |[],l,bs,m,h,k=>by cases(show l=[]from h);exact k
 |a::az,l,bs,m,⟨v,l',h1,h2,h3⟩,k=>by subst h1;exact⟨v,l'++m,rfl,h2,LR.append h3 k⟩
theorem sz{ro:Nat->Prop}{σ:Cp}{w:AJ}{b t:Nat}{fz:Nat×Nat}:∀{cs:AA A} {pre l post:AA AL},w.heap[b]?=AC (.cells (pre++(l++post)).toArray t fz)->(∀v∈l,QA v)->
  LR ro σ w cs l->CR ro σ w b cs pre.length
 |[],_,_,_,_,_,_=>trivial
 |c::cs,pre,l,post,hb,hpl,⟨v,l',h1,h2,h3⟩=>by
  subst h1;refine⟨⟨v,by simp[World.cell?,hb],hpl v sq,h2⟩,?_⟩;have:=sz (pre:=pre++[v]) (by simpa using hb) gq h3
  grind
theorem YV{ro:Nat->Prop}{σ:Cp}{w:AJ}{b t k:Nat}{fz:Nat×Nat}:∀{es:AA (AA A)} {pre l:AA AL},w.heap[b]?=AC (.cells (pre++l).toArray t fz)->
  RL ro σ w k es l->RR ro σ w b k es pre.length
 |[],_,_,_,_=>trivial
 |c::es,pre,l,hb,⟨l1,l2,h1,h2,h3,h4⟩=>by
  subst h1;refine⟨h2,sz hb h3.2 h3.1,?_⟩;have hl:=h3.1.length;have:=YV (pre:=pre++l1) (by simpa using hb) h4
  grind
theorem Dn.row{i d t k e f:Nat}{es:AA (AA A)}{c cs':AA A}(hH:H[i]?=AC (.row t k es))(j:d=e*k+f)(he:es[e]?=AC c)(g:c.drop f=cs'):Dn H (.ptr i d) cs':=by
 intro E B σ w v s h;obtain⟨b,x,m⟩:=h;obtain⟨l,q,y⟩:=s.blk i _ _ x hH;have:=((YV (pre:=[]) (by simpa using q) y).get e he).2.drop f;refine⟨b,d,m,?_⟩;subst j g;simpa using this.lift
theorem Dn.rowr{i d t k e f:Nat}{es:AA (AA A)}{c cs':AA A}(hH:H[i]?=AC (.rowr t k es))(x:d=e*k+f)(he:es[e]?=AC c)(m:c.drop f=cs'):Dn H (.ptr i d) cs':=by
 intro E B σ w v s h;obtain⟨b,j,y⟩:=h;obtain⟨l,g,q⟩:=s.blk i _ _ j hH;have:=((YV (pre:=[]) (by simpa using g) q).get e he).2.drop f
 grind
theorem QmC(h:w'.heap=w.heap)(a:Addr):w'.cell? a=w.cell? a:=by unfold World.cell?;rw[h]
theorem Yl{ro:Nat->Prop}{σ:Cp}{w:AJ}{b f:Nat}:∀{g:AA A} (i:Nat),CR ro σ w b g (f+i)->
  ∃l,LR ro σ w g l/\(∀v∈l,QA v)/\ ∀(w':AJ) (d:Array AL),w'.heap=w.heap->(loadCellsFrom ⟨b,f,AF⟩ i g.length d).run P w'=.ok (d++l.toArray) w'
 |[],i,h=>⟨[],rfl,sq,λw' d _=>by rfl⟩
 |c::g,i,⟨⟨v,h1,hp,h2⟩,h3⟩=>by
  obtain⟨l,q1,qp,q2⟩:=Yl (i+1) om;refine⟨v::l,⟨v,l,rfl,h2,q1⟩,gq,λw' d hw=>?_⟩;have h1':w'.cell? ⟨b,f+i,AF⟩=AC v:=by rw[QmC hw];exact h1
  simp_all[loadCellsFrom,UJ]
theorem Yd{t n:Nat}{x:Operand}{p:A}{f:AA A}(B:o.op=.load t x)(E:∀w,(isAgg t).run P w=.ok AE w)(hs:∀w,(sizeOf t).run P w=.ok n w)(hx:CS env x=p)(g:Dn H p f)
  (hn:f.take n=vs)(hl:vs.length=n):CY P o env H (.agg vs):=by
 intro y j σ N a w r;have d:=Qm r x;rw[hx]at d;obtain⟨b,h,F,q⟩:=g y j σ w _ r.sim d;subst hn;obtain⟨l,m,_,G⟩:=Yl (P:=P) 0 (by simpa using q.take n);refine⟨.agg l.toArray,?_,l,rfl,m⟩
 simp_all[execOp,Instr.loadAt,Instr.sureAddr,loadVar,loadCells]
theorem CY.load{t:Nat}{x:Operand}{p v:A}{j:AA A}(q:o.op=.load t x)(B:∀w,(isAgg t).run P w=.ok AD w)(hx:CS env x=p)(f:Dn H p (v::j)):CY P o env H v:=by
 intro m h σ N a w r;have d:=Qm r x;rw[hx]at d;obtain⟨b,g,E,⟨y,G,_,F⟩,_⟩:=f m h σ w _ r.sim d
 simp_all[execOp,Instr.loadAt,Instr.sureAddr,loadVar]
theorem CY.extract{x:Operand}{vs:AA A}{i:Nat}{v:A}(h:o.op=.extract x i)(hx:CS env x=.tup vs)(f:vs[i]?=AC v):CY P o env H v:=by
 intro t m σ N a w r;have d:=Qm r x;rw[hx]at d;obtain⟨l,d,g⟩:=d;obtain⟨y,q,j⟩:=g.get i f
 simp_all[execOp,Instr.extract]
theorem CY.field{T f off n:Nat}{x:Operand}{g:AA A}{v:A}(j:Yc P T f off n)(t:∀fs fd,(∀w,(underlying T).run P w=.ok (.struct fs) w)->fs[f]?=AC fd->∀w,(isAgg fd.type).run P w=.ok AD w)
  (G:o.op=.field T x f)(hx:CS env x=.agg g)(m:g[off]?=AC v):CY P o env H v:=by
 intro Q M σ N a w r;have d:=Qm r x;rw[hx]at d;obtain⟨l,d,q⟩:=d;obtain⟨y,O,L⟩:=q.get off m;obtain⟨fs,fd,J,E,rfl,B,F⟩:=j.h
 simp_all[execOp,Instr.field,asAgg,part]
theorem aN{fr ro:Nat->Prop}{σ:Cp}{N:Nat}{a:Act}{w:AJ}(r:DT fr ro σ H env N a w):∀(l:AA Operand),LR ro σ w (l.map (CS env)) (l.map a.eval)
 |[]=>rfl
 |x::l=>⟨_,_,rfl,Qm r x,aN r l⟩
theorem CY.makeFunc{f:Fn}{first cap:AA Operand}{d g:AA A}(m:o.op=.makeFunc f first.toArray cap.toArray)(h:first.map (CS env)=d)(j:cap.map (CS env)=g):CY P o env H (.fn f d g):=by
 intro t q σ N a w r;refine⟨.func f (first.map a.eval).toArray (cap.map a.eval).toArray,?_,_,_,rfl,h▸aN r first,j▸aN r cap⟩
 simp_all[execOp,Instr.makeFunc]
theorem jm{x:Operand}{v:A}{d:TypeDesc}(j:o.op=.makeInterface t x)(h:∀w,(underlying t).run P w=.ok d w)(g:∀m,d≠ .interface m)(hx:CS env x=v):CY P o env H (.iface t v):=by
 intro y q σ N a w r;have f:=Qm r x;rw[hx]at f;refine⟨.iface t (a.eval x),?_,_,rfl,f⟩
 simp_all[execOp,Instr.makeInterface]
end
mutual
def Yn:A->Bool
 |.ptr _ _=>AD
 |.osl _ _ _ _=>AD
 |.map _=>AD
 |.agg cs=>Q8 cs
 |.fn _ a c=>Q8 a&&Q8 c
 |.iface _ v=>Yn v
 |.tup vs=>Q8 vs
 |_=>AE
def Q8:AA A->Bool
 |[]=>AE
 |a::r=>Yn a&&Q8 r
end
mutual
theorem VR.data{ro:Nat->Prop}{σ σ':Cp}{w:AJ}:∀{a:A} {v:AL},Yn a=AE->VR ro σ w a v->VR ro σ' w a v
 |.any,_,_,_=>trivial
 |.bool b,v,_,q=>q
 |.int k n,v,_,q=>q
 |.str s,v,_,q=>q
 |.nilp,v,_,q=>q
 |.ptr i off,v,d,q=>by simp[Yn]at d
 |.rp cs,v,_,q=>q
 |.nils,v,_,q=>q
 |.rsl k es,v,_,q=>q
 |.osl i o n k,v,d,q=>by simp[Yn]at d
 |.agg cs,v,d,q=>by
  simp only[VR,Yn]at q d⊢;obtain⟨l,h1,h2⟩:=q;exact⟨l,h1,LR.data d h2⟩
 |.fn f a c,v,d,q=>by
  simp only[VR,Yn,XX]at q d⊢;obtain⟨l,l',h1,h2,h3⟩:=q;exact⟨l,l',h1,LR.data d.1 h2,LR.data d.2 h3⟩
 |.nilf,v,_,q=>q
 |.iface t a,v,d,q=>by
  simp only[VR,Yn]at q d⊢;obtain⟨x,h1,h2⟩:=q;exact⟨x,h1,VR.data d h2⟩
 |.nilif,v,_,q=>q
 |.map i,v,d,q=>by simp[Yn]at d
 |.nilm,v,_,q=>q
 |.tup vs,v,d,q=>by
  simp only[VR,Yn]at q d⊢;obtain⟨l,h1,h2⟩:=q;exact⟨l,h1,LR.data d h2⟩
theorem LR.data{ro:Nat->Prop}{σ σ':Cp}{w:AJ}:∀{az:AA A} {l:AA AL},Q8 az=AE->LR ro σ w az l->LR ro σ' w az l
 |[],_,_,q=>q
 |a::r,l,d,q=>by
  simp only[LR,Q8,XX]at q d⊢;obtain⟨v,l',h1,h2,h3⟩:=q;exact⟨v,l',h1,VR.data d.1 h2,LR.data d.2 h3⟩
end
def Q1:A->Bool
 |.any|.agg _|.tup _=>AD
 |_=>AE
def QU:A->AA A
 |.agg cs=>cs
 |a=>[a]
def QT:A->Bool
 |.any=>AD
 |_=>AE
theorem VR.plain{a:A}{v:AL}(d:Q1 a=AE)(h:VR ro σ w a v):QA v:=by
 cases a<;>first|(simp[Q1]at d)|skip
 case rsl k es=>obtain⟨f,c,rfl,_⟩:=h;trivial
 case osl=>rcases h with⟨_,rfl⟩|⟨_,_,_,_,_,_,rfl,_⟩<;>trivial
 case fn=>obtain⟨_,_,rfl,_⟩:=h;trivial
 case iface=>obtain⟨_,rfl,_⟩:=h;trivial
 case ptr=>obtain⟨_,_,rfl⟩:=h;trivial
 case rp=>obtain⟨_,_,rfl,_⟩:=h;trivial
 case map=>obtain⟨_,_,rfl⟩:=h;trivial
 all_goals (subst h;trivial)
theorem VR.cells{ro:Nat->Prop}{σ:Cp}{w:AJ}{a:A}{v:AL}(f:QT a=AE)(h:VR ro σ w a v):∃l:AA AL,v.cells=l.toArray/\LR ro σ w (QU a) l:=by
 cases a
 case any=>simp[QT]at f
 case agg cs=>obtain⟨l,rfl,h⟩:=h;exact⟨l,rfl,h⟩
 case tup cs=>obtain⟨l,rfl,h⟩:=h;exact⟨[.tuple l.toArray],rfl,_,_,rfl,⟨l,rfl,h⟩,rfl⟩
 all_goals
  have d:=h.plain rfl;refine⟨[v],?_,v,[],rfl,h,rfl⟩;cases v<;>first|rfl|exact d.elim
theorem LR.plain{ro:Nat->Prop}{σ:Cp}{w:AJ}:∀{az:AA A} {l:AA AL},az.all Q1=AE->LR ro σ w az l->∀v∈l,QA v
 |[],l,_,h=>by cases(show l=[]from h);simp
 |a::az,l,hp,⟨v,l',h1,h2,h3⟩=>by
  subst h1;simp only[List.all_cons,XX]at hp;intro x hx;rcases X9.1 hx with rfl|hx
  .exact h2.plain hp.1
  .exact LR.plain hp.2 h3 x hx
theorem Y7(w:AJ)(obj:Obj)(b:Nat)(d:b<w.heap.size):(w.alloc obj).heap[b]?=w.heap[b]? :=by
 show(w.heap.push obj)[b]?=_
 grind
theorem Yo(w:AJ)(obj:Obj):(w.alloc obj).heap[w.heap.size]?=AC obj:=by
 show(w.heap.push obj)[w.heap.size]?=_;simp
theorem aO(w:AJ)(obj:Obj):(w.alloc obj).heap.size=w.heap.size+1:=by
 simp
theorem QnC{b:Nat}{x:TypeId×Nat}(h:w.shape? b=AC x):b<w.heap.size:=by
 grind[World.shape?]
theorem Qe.alloc{fr ro:Nat->Prop}{w:AJ}(obj:Obj)(hro:∀b,ro b->b<w.heap.size)(hfr:∀b,fr b->b<w.heap.size):Qe fr ro w ro (w.alloc obj):=
 ⟨λ_ h=>h,λb h=>Y7 w obj b (hro b h),λb h=>Y7 w obj b (hfr b h),sq,
  λb x h=>by grind[World.shape?,Y7],rfl,rfl,rfl,XU _⟩
variable {rest:AA AL}{α:Type}
section
variable {P:AK} {o:AM} {env:Env} {H:Qb} {fr ro:Nat->Prop} {σ:Cp} {w:AJ}
theorem Cm.alloc(s:Cm fr ro σ H w){obj:Obj}{x:Ci}(J:BR ro (σ++[AC w.heap.size]) (w.alloc obj) x (AC w.heap.size)):
  Cm fr ro (σ++[AC w.heap.size]) (H++[x]) (w.alloc obj):=by
 have ev:Qe fr ro w ro (w.alloc obj):=Qe.alloc obj s.roLt s.frLt;have hl:=s.len;have d:∀(i:Nat) (y:AB Nat),(σ++[AC w.heap.size])[i]?=AC y->(i<σ.length/\σ[i]?=AC y)\/(i=σ.length/\y=AC w.heap.size):=by
  grind
 have m:∀i:Nat,i<σ.length->(H++[x])[i]?=H[i]? :=λi L=>XN om;have hx:(H++[x])[σ.length]?=AC x:=by rw[hl];simp
 refine⟨by simp[hl],s.roOk.to (λ_ q=>q) ev.keepRo (λb h=>?_),λb h=>?_,s.roFr,?_,?_,?_⟩
 .rw[aO];have:=s.roLt b h;omega
 .rw[aO];have:=s.frLt b h;omega
 .intro i b y f g t;rw[aO];rcases d i _ f with⟨q,f⟩|⟨rfl,B⟩
  .rw[m i q]at g;obtain⟨a,b,c⟩:=s.own i b y f g t
   grind
  .cases B;exact⟨om,λq=>by have:=s.roLt _ q;omega,λq=>by have:=s.frLt _ q;omega⟩
 .intro i j b y z f g t E G F;rcases d i _ f with⟨q,f⟩|⟨rfl,B⟩<;>rcases d j _ g with⟨q',g⟩|⟨rfl,e2⟩
  .rw[m i q]at t;rw[m j q']at E;exact s.inj i j b y z f g t E G F
  .cases e2;rw[m i q]at t;have:=(s.own i _ y f t G).1;omega
  .cases B;rw[m j q']at E;have:=(s.own j _ z g E F).1;omega
  .rfl
 .intro i y z f g;rcases d i _ f with⟨q,f⟩|⟨rfl,B⟩
  .rw[m i q]at g;refine(s.blk i y z f g).keep (ev.ext σ _) ?_;rintro b rfl hl;exact Y7 w obj b (s.own i b z f g hl).1
  grind
theorem Cm.allocCells(s:Cm fr ro σ H w){t:Nat}{cs:AA A}{l:AA AL}(h:LR ro σ w cs l)(hp:∀v∈l,QA v):
  Cm fr ro (σ++[AC w.heap.size]) (H++[.cells t cs]) (w.alloc (.cells l.toArray t)):=
 s.alloc ⟨l,Yo _ _,h.mono ((Qe.alloc _ s.roLt s.frLt).ext σ _),hp⟩
theorem t3{ro:Nat->Prop}{σ:Cp}{w:AJ}:∀{az bs:AA A} {l:AA AL},LR ro σ w (az++bs) l->∃l1 l2,l=l1++l2/\LR ro σ w az l1/\LR ro σ w bs l2
 |[],bs,l,h=>⟨[],l,rfl,rfl,h⟩
 |a::az,bs,l,⟨v,l',h1,h2,h3⟩=>by
  obtain⟨l1,l2,e,q1,q2⟩:=t3 h3;subst h1 e;exact⟨v::l1,l2,rfl,⟨v,l1,rfl,h2,q1⟩,q2⟩
def allK(k:Nat):AA (AA A)->Prop
 |[]=>True
 |c::es=>c.length=k/\allK k es
theorem Js{k:Nat}:∀{es:AA (AA A)} {l rest:AA AL},allK k es->LR ro σ w es.flatten l->(∀v∈l,QA v)->RL ro σ w k es (l++rest)
 |[],_,_,_,_,_=>trivial
 |c::es,l,rest,⟨h1,h2⟩,h,hp=>by
  obtain⟨l1,l2,rfl,q1,q2⟩:=t3 h;exact⟨l1,l2++rest,sq,h1,gq,Js h2 q2 gq⟩
theorem Cm.allocRow(s:Cm fr ro σ H w){t:Nat}{l:AA AL}(hk:allK k es)(h:LR ro [] w es.flatten l)(hp:∀v∈l,QA v):
  Cm fr ro (σ++[AC w.heap.size]) (H++[.row t k es]) (w.alloc (.cells (l++rest).toArray t)):=
 s.alloc ⟨l++rest,Yo _ _,(Js hk h hp).mono ((Qe.alloc _ s.roLt s.frLt).ext0 [])⟩
theorem Cm.allocRowr(s:Cm fr ro σ H w){t:Nat}{l:AA AL}(hk:allK k es)(h:LR ro σ w es.flatten l)(hp:∀v∈l,QA v):
  Cm fr ro (σ++[AC w.heap.size]) (H++[.rowr t k es]) (w.alloc (.cells (l++rest).toArray t)):=
 s.alloc ⟨l++rest,Yo _ _,(Js hk h hp).mono ((Qe.alloc _ s.roLt s.frLt).ext σ _)⟩
theorem Fb.box{t:Nat}{x:Operand}{v:A}{d:AA A}(y:o.op=.box t x)(hx:CS env x=v)(hk:QT v=AE)(g:QU v=d)(f:d.all Q1=AE):
  Fb P o env H (.ptr H.length 0) (H++[.cells t d]):=by
 intro B q σ N a w r;have h:=Qm r x;rw[hx]at h;obtain⟨l,m,j⟩:=h.cells hk;subst g;refine⟨.pointer (AC ⟨w.heap.size,0,AF⟩),w.alloc (.cells l.toArray t),q,[AC w.heap.size],?_,⟨w.heap.size,?_,rfl⟩,r.sim.allocCells j (j.plain f),Qe.alloc _ r.sim.roLt r.sim.frLt⟩
 .generalize a.eval=ρ at*;have e:(newVar t (ρ x)).run P w=.ok ⟨w.heap.size,0,AF⟩ (w.alloc (.cells l.toArray t)):=by
   unfold newVar;rw[m];rfl
  simp_all[execOp,Instr.box]
 .rw[<- r.sim.len];simp
theorem Cm.set(s:Cm fr ro σ H w){i b:Nat}{x x':Ci}{obj:Obj}(hσ:σ[i]?=AC (AC b))(hH:H[i]?=AC x)(hl:x.live=AE)
  (V:∀y,w.shape? b=AC y->({w with heap:=w.heap.setIfInBounds b obj}:AJ).shape? b=AC y)
  (M:Dh ro σ w ro σ {w with heap:=w.heap.setIfInBounds b obj}->({w with heap:=w.heap.setIfInBounds b obj}:AJ).heap[b]?=AC obj->BR ro σ {w with heap:=w.heap.setIfInBounds b obj} x' (AC b)):
  Cm fr ro σ (H.set i x') {w with heap:=w.heap.setIfInBounds b obj}/\Qe fr ro w ro {w with heap:=w.heap.setIfInBounds b obj}:=by
 obtain⟨W,N,P⟩:=s.own i b x hσ hH hl;have G:∀c,c≠b->({w with heap:=w.heap.setIfInBounds b obj}:AJ).heap[c]?=w.heap[c]? :=by
  grind
 have J:({w with heap:=w.heap.setIfInBounds b obj}:AJ).heap[b]?=AC obj:=by
  grind
 have t:({w with heap:=w.heap.setIfInBounds b obj}:AJ).heap.size=w.heap.size:=sq;have ev:Qe fr ro w ro {w with heap:=w.heap.setIfInBounds b obj}:=
  ⟨λ_ h=>h,gq,gq,om,by
   grind[World.shape?],rfl,rfl,rfl,XU _⟩
 have X:i<H.length:=gq;have T:(H.set i x')[i]?=AC x':=gq;have f:∀j,j≠i->(H.set i x')[j]?=H[j]? :=gq;have R:=M (ev.ext0 σ) J;refine⟨⟨by rw[X6];exact s.len,s.roOk.to (λ_ q=>q) ev.keepRo (λc h=>by rw[t];exact s.roLt c h),λc h=>by rw[t];exact s.frLt c h,s.roFr,?_,?_,?_⟩,ev⟩
 .intro j c y g d B;rw[t];by_cases q:j=i
  .grind
  .rw[f j q]at d;exact s.own j c y g d B
 .intro j m c y z g d B F O Q;by_cases q:j=i
  .subst q;rw[hσ]at g;cases g;by_cases E:m=j
   .exact E.symm
   .rw[f m E]at F;exact s.inj j m _ x z hσ d hH F hl Q
  .rw[f j q]at B;by_cases E:m=i
   .subst E;rw[hσ]at d;cases d;exact s.inj j m _ y x g hσ B hH O hl
   .rw[f m E]at F;exact s.inj j m c y z g d B F O Q
 .intro j y z g d;by_cases q:j=i
  .grind
  .rw[f j q]at d;refine(s.blk j y z g d).keep (ev.ext0 σ) ?_;rintro c rfl L;exact G c (λe=>q (s.inj j i b z x (e▸g) hσ d hH L hl))
def splice(l:AA α)(o:Nat)(vs:AA α):AA α:=l.take o++vs++l.drop (o+vs.length)
theorem Yg{α:Type}{l:AA α}{o:Nat}{vs:AA α}(h:o+vs.length<=l.length):(splice l o vs).length=l.length:=by
 simp[splice];omega
theorem og{h:Array Obj}{b:Nat}{f:Obj->Obj}{x:Obj}(d:h[b]?=AC x):h.modify b f=h.setIfInBounds b (f x):=by
 grind
theorem Yi{b t:Nat}:∀{vs l:AA AL} {w:AJ} (d i:Nat),w.heap[b]?=AC (.cells l.toArray t (0,0))->d+i+vs.length<=l.length->(∀v∈vs,QA v)->
  (storeCells ⟨b,d,AF⟩ vs i).run P w=.ok () {w with heap:=w.heap.setIfInBounds b (.cells (splice l (d+i) vs).toArray t (0,0))}
 |[],l,w,d,i,hb,hl,hp=>by
  have e:w.heap.setIfInBounds b (.cells (splice l (d+i) []).toArray t (0,0))=w.heap:=by
   apply Array.ext_getElem?;intro j;rw[Vh];by_cases q:b=j
   .subst q;obtain⟨f,y⟩:=Vf.1 hb;simp[f,splice,y]
   grind
  rw[e];rfl
 |v::vs,l,w,d,i,hb,hl,hp=>by
  simp only[X3]at hl;have B:=hp v sq;have G:w.cell? ⟨b,d+i,AF⟩=AC l[d+i]:=by
   simp[World.cell?,hb]
  have h:w.frozen? ⟨b,d+i,AF⟩=false:=by
   simp[World.frozen?,hb]
  have g:w.setCell ⟨b,d+i,AF⟩ v={w with heap:=w.heap.setIfInBounds b (.cells (splice l (d+i) [v]).toArray t (0,0))}:=by
   unfold World.setCell;rw[og hb];simp only[Option.isSome_none,Xi,if_false];congr 3;have:l.toArray.setIfInBounds (d+i) v=(l.set (d+i) v).toArray:=sq;rw[this];congr 1;rw[List.set_eq_take_append_cons_drop,Vv om];simp[splice]
  have f:b<w.heap.size:=by
   grind
  have E:=Yi (vs:=vs) (l:=splice l (d+i) [v]) (w:={w with heap:=w.heap.setIfInBounds b (.cells (splice l (d+i) [v]).toArray t (0,0))}) d (i+1)
   (by show(w.heap.setIfInBounds b _)[b]?=_;rw[Vh,Vv rfl,Vv f])
   (by rw[Yg (by simp;omega)];omega) gq
  have M:splice (splice l (d+i) [v]) (d+(i+1)) vs=splice l (d+i) (v::vs):=by
   have m:(l.take (d+i)).length=d+i:=by simp;omega
   unfold splice;rw[Vl (l.take (d+i))];have J:d+(i+1)=(l.take (d+i)).length+1:=om;have H:(l.take (d+i)++([v]++l.drop (d+i+[v].length))).take ((l.take (d+i)).length+1)=l.take (d+i)++[v]:=by
    grind
   have L:(l.take (d+i)++([v]++l.drop (d+i+[v].length))).drop ((l.take (d+i)).length+1+vs.length)=l.drop (d+i+(v::vs).length):=by
    rw[show(l.take (d+i)).length+1+vs.length=(l.take (d+i)).length+(1+vs.length)from om,Vd];simp[Nat.add_comm 1];omega
   simp_all
  have F:(w.heap.setIfInBounds b (.cells (splice l (d+i) [v]).toArray t (0,0))).setIfInBounds b (.cells (splice (splice l (d+i) [v]) (d+(i+1)) vs).toArray t (0,0))=
    w.heap.setIfInBounds b (.cells (splice l (d+i) (v::vs)).toArray t (0,0)):=by
   grind
  rw[F]at E;have x:(Go.store ⟨b,d+i,AF⟩ v).run P w=.ok () {w with heap:=w.heap.setIfInBounds b (.cells (splice l (d+i) [v]).toArray t (0,0))}:=by
   rw[<- g];cases v<;>first|exact B.elim|simp[Go.store,Sem.run,G,h,go_sem]
  simp_all[storeCells,UJ]
theorem Ju{b t:Nat}{l l':AA AL}(f:w.heap[b]?=AC (.cells l.toArray t (0,0)))(hl:l'.length=l.length)(y:TypeId×Nat)(h:w.shape? b=AC y):
  {w with heap:=w.heap.setIfInBounds b (.cells l'.toArray t (0,0))}.shape? b=AC y:=by
 have d:b<w.heap.size:=by
  grind
 simp_all[World.shape?]
theorem LR.splice{ro:Nat->Prop}{σ:Cp}{w:AJ}{az vs:AA A}{l m:AA AL}(d:Nat)(h:LR ro σ w az l)(k:LR ro σ w vs m):LR ro σ w (Sw.splice az d vs) (Sw.splice l d m):=by
 unfold Sw.splice;rw[k.length];exact((h.take d).append k).append (h.drop _)
theorem wH{l m:AA AL}{d:Nat}(h:∀v∈l,QA v)(k:∀v∈m,QA v):∀v∈Sw.splice l d m,QA v:=by
 grind[Sw.splice]
theorem J1.store{t n i off T:Nat}{x y:Operand}{h vs cs':AA A}{v:A}(X:o.op=.store t x y)(hx:CS env x=.ptr i off)(hH:H[i]?=AC (.cells T h))(hs:∀w,(sizeOf t).run P w=.ok n w)
  (j:CS env y=v)(hk:QT v=AE)(V:QU v=vs)(hn:vs.length=n)(F:vs.all Q1=AE)(O:Nat.ble (off+n) h.length=AE)(B:splice h off vs=cs'):
  J1 P o env H (H.set i (.cells T cs')):=by
 intro fr Q σ N a w r;have f:=Qm r x;rw[hx]at f;obtain⟨b,f,Y⟩:=f;have J:=Qm r y;rw[j]at J;obtain⟨m,h4,g⟩:=J.cells hk;rw[V]at g;obtain⟨l,M,E,W⟩:=r.sim.blk i _ _ f hH;have q:off+n<=h.length:=by simp_all
 have L:m.length=n:=by rw[g.length,hn]
 have G:=Yi (P:=P) off 0 M (by rw[E.length,L];omega) (g.plain F);have d:=r.sim.set (x':=.cells T cs') f hH rfl
  (λy j=>Ju M (Yg (by rw[E.length,L];omega)) y j)
  (λe R=>⟨_,R,B▸(E.splice off g).mono e,wH W (g.plain F)⟩)
 refine⟨_,Q,[],?_,gq,d.2⟩
 simp_all[storeVar,execOp,Instr.storeAt,Instr.sureAddr]
theorem RL.splice{ro:Nat->Prop}{σ:Cp}{w:AJ}{k:Nat}:∀{e:Nat} {es:AA (AA A)} {l m:AA AL} {c c':AA A} {f:Nat},RL ro σ w k es l->es[e]?=AC c->LR ro σ w c' m->(∀v∈m,QA v)->f+c'.length<=k->
  RL ro σ w k (es.set e (Sw.splice c f c')) (Sw.splice l (e*k+f) m)
 |_,[],_,_,_,_,_,_,h,_,_,_=>by simp at h
 |0,c0::es,l,m,c,c',f,⟨l1,l2,h1,h2,h3,h4⟩,hc,hm,hp,hf=>by
  simp at hc;subst hc h1;have hl1:=h3.1.length;refine⟨Sw.splice l1 f m,l2,?_,?_,⟨h3.1.splice f hm,wH h3.2 hp⟩,h4⟩
  .unfold Sw.splice;simp[Nat.zero_mul,Xx,Vl];rw[Va om,Vb (by rw[hm.length];omega)]
  .rw[Yg om];exact h2
 |e+1,c0::es,l,m,c,c',f,⟨l1,l2,h1,h2,h3,h4⟩,hc,hm,hp,hf=>by
  subst h1;have hl1:=h3.1.length;refine⟨l1,Sw.splice l2 (e*k+f) m,?_,h2,h3,RL.splice h4 gq hm hp hf⟩;have e1:(e+1)*k+f=l1.length+(e*k+f):=gq;unfold Sw.splice;rw[e1,Ve,show l1.length+(e*k+f)+m.length=l1.length+(e*k+f+m.length)from om,Vd];simp
theorem RL.length{ro:Nat->Prop}{σ:Cp}{w:AJ}{k:Nat}:∀{es:AA (AA A)} {l:AA AL},RL ro σ w k es l->es.length*k<=l.length
 |[],l,_=>sq
 |c::es,l,⟨l1,l2,h1,h2,h3,h4⟩=>by
  have:=RL.length h4;have:=h3.1.length
  grind[Nat.succ_mul]
theorem Qh5{t n i e f:Nat}{x y:Operand}{d:AA (AA A)}{c M:AA A}{v:A}(ho:o.op=.store t x y)(hx:CS env x=.ptr i off)(hH:H[i]?=AC (.row T k es))(hs:∀w,(sizeOf t).run P w=.ok n w)
  (q:off=e*k+f)(hc:es[e]?=AC c)(B:CS env y=v)(hk:QT v=AE)(hv:QU v=vs)(hn:vs.length=n)(J:vs.all Q1=AE)(W:Q8 vs=AE)(hf:Nat.ble (f+n) k=AE)
  (E:splice c f vs=M)(G:es.set e M=d):
  J1 P o env H (H.set i (.row T k d)):=by
 intro fr X σ N a w r;have h:=Qm r x;rw[hx]at h;obtain⟨b,h,h2⟩:=h;have O:=Qm r y;rw[B]at O;obtain⟨m,h4,j⟩:=O.cells hk;rw[hv]at j;obtain⟨l,Q,V⟩:=r.sim.blk i _ _ h hH;have aa:f+n<=k:=by simp_all
 have hm:m.length=n:=by rw[j.length,hn]
 have Y:e<es.length:=gq;have R:off+n<=l.length:=by
  have:=V.length;have h6:=XD k Y
  grind
 have L:=Yi (P:=P) off 0 Q om (j.plain J);have g:=r.sim.set (x':=.row T k d) (obj:=.cells (splice l off m).toArray T (0,0)) h hH rfl
  (λy B=>Ju Q (Yg om) y B)
  (λex F=>⟨_,F,by
   subst G E q;exact(V.splice hc (j.data W) (j.plain J) om).mono ex.nil⟩)
 refine⟨_,X,[],?_,gq,g.2⟩
 simp_all[storeVar,execOp,Instr.storeAt,Instr.sureAddr]
end
variable {T' cap e':Nat}{ad ax:AB Addr}{fs:AA (AA A)}{new:AA AL}
section
variable {P:AK} {o:AM} {env:Env} {H:Qb} {fr ro:Nat->Prop} {σ:Cp} {w:AJ}
theorem Dh.heap{w':AJ}(h:w'.heap=w.heap):Dh ro σ w ro σ w':=
 ⟨λ_ q=>q,λb _=>by rw[h],λb x q=>by unfold World.shape? at q⊢;grind,λ_ _ q=>q⟩
theorem Cm.heap{w':AJ}(s:Cm fr ro σ H w)(h:w'.heap=w.heap):Cm fr ro σ H w':=
 ⟨s.len,s.roOk.to (λ_ q=>q) (λb _=>by rw[h]) (λb q=>by rw[h];exact s.roLt b q),λb q=>by rw[h];exact s.frLt b q,s.roFr,λi b x q1 q2 q3=>by rw[h];exact s.own i b x q1 q2 q3,s.inj,
  λi y x q1 q2=>(s.blk i y x q1 q2).keep (Dh.heap h) gq⟩
theorem Qe.heap{w':AJ}(h:w'.heap=w.heap)(ho:w'.os=w.os)(ht:w'.tape=w.tape)(hu:w'.output=w.output)(hd:w.drawn<=w'.drawn):Qe fr ro w ro w':=
 ⟨λ_ q=>q,λb _=>by rw[h],λb _=>by rw[h],gq,λb x q=>by unfold World.shape? at q⊢;grind,ho,ht,hu,hd⟩
theorem Cm.moved(s:Cm fr ro σ H w){i:Nat}{x:Ci}{y:AB Nat}(hH:H[i]?=AC x)(hσ:σ[i]?=AC y):Cm fr ro (σ++[y]) (H.set i .dead++[x]) w:=by
 have hl:=s.len;have Q:i<H.length:=gq;have d:∀(j:Nat) (z:AB Nat) (v:Ci),(σ++[y])[j]?=AC z->(H.set i .dead++[x])[j]?=AC v->v≠ .dead->
   (j<σ.length/\j≠i/\σ[j]?=AC z/\H[j]?=AC v)\/(j=σ.length/\z=y/\v=x):=by
  grind
 have hσ':∀(j:Nat) (b:Nat),σ[j]?=AC (AC b)->(σ++[y])[j]?=AC (AC b):=gq;have ext:Dh ro σ w ro (σ++[y]) w:=⟨λ_ q=>q,λ_ _=>rfl,λ_ _ q=>q,hσ'⟩;refine⟨by simp[hl],s.roOk,s.frLt,s.roFr,?_,?_,?_⟩
 .intro j b v m h t;rcases d j _ v m h (Ci.nd t)with⟨_,_,f,g⟩|⟨_,J,rfl⟩
  .exact s.own j b v f g t
  .subst J;exact s.own i b v hσ hH t
 .intro j G b v E m h t N F B;rcases d j _ v m t (Ci.nd F)with⟨_,O,f,g⟩|⟨P,J,M⟩<;>rcases d G _ E h N (Ci.nd B)with⟨_,n1',q1',q2'⟩|⟨r1',e1',r2'⟩
  .exact s.inj j G b v E f q1' g q2' F B
  .subst e1' r2';exact(O (s.inj j i b v E f hσ g hH F B)).elim
  .subst J M;exact(n1' (s.inj G i b E v q1' hσ q2' hH B F)).elim
  omega
 .intro j z v m h;by_cases L:v≠ .dead
  .rcases d j z v m h L with⟨_,_,f,g⟩|⟨_,rfl,rfl⟩
   .exact(s.blk j z v f g).keep ext (λ_ _ _=>rfl)
   .exact(s.blk i _ _ hσ hH).keep ext (λ_ _ _=>rfl)
  .obtain rfl:v=.dead:=Classical.not_not.1 L;trivial
def G6(P:AK)(H:Qb)(x:A)(k:Nat)(es:AA (AA A)):Prop:=
 ∀fr ro σ w v,Cm fr ro σ H w->VR ro σ w x v->(∃a c,v=.slice a es.length c)/\allK k es/\
  ∃l,(∀w':AJ,w'.heap=w.heap->(Builtin.firstCells k es.length v).run P w'=.ok l.toArray w')/\LR ro [] w es.flatten l/\ ∀v∈l,QA v
theorem RR.flat{b k:Nat}:∀{es:AA (AA A)} {f:Nat},RR ro σ w b k es f->CR ro σ w b es.flatten f/\allK k es/\es.flatten.length=es.length*k
 |[],f,_=>⟨trivial,trivial,sq⟩
 |c::es,f,⟨h1,h2,h3⟩=>by
  obtain⟨q1,q2,q3⟩:=RR.flat h3;refine⟨?_,⟨h1,q2⟩,gq⟩;have:∀(c:AA A) (f:Nat) (d:AA A),CR ro σ w b c f->CR ro σ w b d (f+c.length)->CR ro σ w b (c++d) f:=by
   intro c
   induction c with
   |nil=>simp
   |cons x c g=>intro f d ⟨h1,h2⟩ h;exact⟨h1,g (f+1) d h2 gq⟩
  grind
theorem oq{b d n c:Nat}{f:AA A}(h:CR ro σ w b f d)(hn:f.length=n*k):
  ∃l,(∀w',w'.heap=w.heap->(Builtin.firstCells k n (.slice (AC ⟨b,d,AF⟩) n c)).run P w'=.ok l.toArray w')/\LR ro σ w f l/\ ∀v∈l,QA v:=by
 obtain⟨l,m,j,g⟩:=Yl (P:=P) 0 (by simpa using h)
 grind[Builtin.firstCells,loadCells]
theorem aP{c:Nat}{a:AB Addr}:(Builtin.firstCells k 0 (.slice a 0 c)).run P w=.ok #[] w:=by
 cases a<;>simp[go_sem]
theorem G6.rsl{k:Nat}{es:AA (AA A)}:G6 P H (.rsl k es) k es:=by
 intro t q σ w v s ⟨a,c,h1,h2,h3⟩;subst h1;refine⟨⟨a,c,rfl⟩,?_⟩;rcases h3 with rfl|⟨b,d,rfl,m,g⟩
 .exact⟨trivial,[],λ_ _=>aP,rfl,sq⟩
 .obtain⟨f,j,h⟩:=g.flat;exact⟨j,oq f h⟩
theorem G6.nils{k:Nat}:G6 P H .nils k []:=by
 intro f d σ w v s h;subst h;exact⟨⟨AF,0,rfl⟩,trivial,[],λ_ _=>aP,rfl,sq⟩
theorem RR.drop{b k:Nat}:∀(n:Nat) {es:AA (AA A)} {off:Nat},RR ro σ w b k es off->RR ro σ w b k (es.drop n) (off+n*k)
 |0,_,_,h=>by simpa using h
 |n+1,[],_,_=>trivial
 |n+1,c::es,off,⟨h1,h2,h3⟩=>by
  have:=RR.drop n h3
  grind
theorem RR.take{b k:Nat}:∀(n:Nat) {es:AA (AA A)} {off:Nat},RR ro σ w b k es off->RR ro σ w b k (es.take n) off
 |0,_,_,h=>trivial
 |n+1,[],_,_=>trivial
 |n+1,c::es,off,⟨h1,h2,h3⟩=>⟨h1,h2,RR.take n h3⟩
theorem G6.osl{i s n k t:Nat}{es d:AA (AA A)}(hH:H[i]?=AC (.row t k es))(he:(es.drop s).take n=d)(hn:s+n<=es.length):G6 P H (.osl i s n k) k d:=by
 intro N E σ w v sm h;have hl:d.length=n:=gq;rcases h with⟨rfl,rfl⟩|⟨b,p,f,F,m,q,rfl,y,J,B,G⟩
 .have e:d=[]:=gq;subst e;exact⟨⟨AF,0,rfl⟩,trivial,[],λ_ _=>aP,rfl,sq⟩
 .rw[hl];refine⟨⟨_,f,rfl⟩,?_⟩;obtain⟨l,g,j⟩:=sm.blk i _ _ q hH;have x:=((YV (pre:=[]) (by simpa using g) j).drop s).take n;by_cases M:0<f
  .obtain⟨g,j,L⟩:=x.flat
   simp_all[oq]
  .obtain rfl:n=0:=by omega
   have e:d=[]:=gq;subst e;exact⟨trivial,[],λ_ _=>aP,rfl,sq⟩
def Yp:Nat:=4294967296
theorem QeB(n c:Nat)(h:c<n):Builtin.nextslicecap n c<=4*n+1000:=by
 grind[Builtin.nextslicecap,Builtin.growBy]
class ElemTy (P:AK) (T:Nat) (e k:outParam Nat):Prop where
 sl:∀w,(underlying T).run P w=.ok (.slice e) w
 size:∀w,(sizeOf e).run P w=.ok k w
 zero:∃z,(∀w,(zeroValue e).run P w=.ok z w)/\z.cells.size=k
 bytes:∃i,(∀w,(typeInfo e).run P w=.ok i w)/\i.bytes<=4096
theorem t5{l:AA AL}(s:Cm fr ro σ H w)(hk:allK k es)(h:LR ro [] w es.flatten l)(hp:∀v∈l,QA v):
  Cm fr ro (σ++[AC w.heap.size]) (H++[.row T k es]) (w.alloc (.cells (l++rest).toArray T))/\Qe fr ro w ro (w.alloc (.cells (l++rest).toArray T)):=
 ⟨s.allocRow hk h hp,Qe.alloc _ s.roLt s.frLt⟩
theorem Y8{k:Nat}:∀{es:AA (AA A)},allK k es->es.flatten.length=es.length*k
 |[],_=>sq
 |c::es,⟨h1,h2⟩=>by simp[Y8 h2,h1,Xm,Nat.add_comm]
theorem wd{k:Nat}:∀{es fs:AA (AA A)},allK k es->allK k fs->allK k (es++fs)
 |[],_,_,h=>h
 |c::es,_,⟨h1,h2⟩,h=>⟨h1,wd h2 h⟩
theorem v7{k:Nat}:∀{es:AA (AA A)} (n:Nat),allK k es->allK k (es.take n)
 |_,0,_=>trivial
 |[],n+1,_=>trivial
 |c::es,n+1,⟨h1,h2⟩=>⟨h1,v7 n h2⟩
theorem RL.allK{k:Nat}:∀{es:AA (AA A)} {l:AA AL},RL ro σ w k es l->allK k es
 |[],_,_=>trivial
 |c::es,l,⟨l1,l2,h1,h2,h3,h4⟩=>⟨h2,RL.allK h4⟩
theorem RL.app{k:Nat}:∀{n:Nat} {es fs:AA (AA A)} {l m:AA AL},RL ro σ w k es l->n<=es.length->Sw.allK k fs->LR ro σ w fs.flatten m->(∀v∈m,QA v)->
  RL ro σ w k (es.take n++fs) (Sw.splice l (n*k) m)
 |0,es,fs,l,m,h,hn,hk,hm,hp=>by
  simp_all[Sw.splice,Js]
 |n+1,[],fs,l,m,h,hn,hk,hm,hp=>by simp at hn
 |n+1,c::es,fs,l,m,⟨l1,l2,h1,h2,h3,h4⟩,hn,hk,hm,hp=>by
  subst h1;have hl1:=h3.1.length;refine⟨l1,Sw.splice l2 (n*k) m,?_,h2,h3,RL.app h4 gq hk hm hp⟩;have e1:(n+1)*k=l1.length+n*k:=gq;unfold Sw.splice;rw[e1,Ve,show l1.length+n*k+m.length=l1.length+(n*k+m.length)from om,Vd];simp
theorem QnD{e need:Nat}(E:ElemTy P T e k)(N:∀w,(underlying T').run P w=.ok (.slice e') w){n c:Nat}
  (g:need=n+m)(j:cap<need)(d:need<=Yp){old:AA AL}
  (hn:∀w':AJ,w'.heap=w.heap->(Builtin.firstCells k m (.slice ax m c)).run P w'=.ok new.toArray w')(J:∀w':AJ,w'.heap=w.heap->(Builtin.firstCells k n (.slice ad n cap)).run P w'=.ok old.toArray w'):
  ∃(rest:AA AL) (f:Nat),(need<=f/\f<=9223372036854775807)/\rest.length=(f-need)*k/\(Builtin.append_ #[T,T'] t #[.slice ad n cap,.slice ax m c]).run P w=
   .ok (.slice (AC ⟨w.heap.size,0,AF⟩) need f) (({w with drawn:=w.drawn+1}:AJ).alloc (.cells ((old++new)++rest).toArray e)):=by
 obtain⟨z,hz,y⟩:=E.zero;obtain⟨i,R,Q⟩:=E.bytes
 let f:=need+w.tape w.drawn (.appendCap need cap e)%(2^63-need)
 refine⟨(Builtin.zeroCells z.cells (f-need)).toList,f,⟨Nat.le_add_right _ _,by
  have:=Nat.mod_lt (w.tape w.drawn (.appendCap need cap e)) (show 0<2^63-need by unfold Yp at d;omega);show need+_%(2^63-need)<=_;omega⟩,by simp[Builtin.zeroCells,y],?_⟩
 have h:¬(need<=cap):=om;have M:¬((need:Int)>IntKind.i64.max/\(False\/i.bytes=0)):=by
  rintro⟨q,_⟩;have:IntKind.i64.max=9223372036854775807:=by decide
  rw[this]at q;unfold Yp at d;omega
 have O:¬(Builtin.nextslicecap need cap*i.bytes>2^48):=by
  have:=QeB need cap j;have L:=Nat.mul_le_mul this Q;unfold Yp at d;omega
 generalize hF:Builtin.firstCells=F at hn J;unfold Builtin.append_;rw[hF];have H:∀W:AJ,(choose (.appendCap need cap e)).run P W=.ok (need+W.tape W.drawn (.appendCap need cap e)%(2^63-need)) {W with drawn:=W.drawn+1}:=by
  intro W;simp[choose,Sem.run,Question.forced,Question.cut]
 have B:∀(x:Nat) (W:AJ),(askRoom x).run P W=.ok () W:=by
  intro x W;unfold askRoom;split<;>rfl
 have G:∀(c:Array AL) (W:AJ),(newRow e c).run P W=.ok ⟨W.heap.size,0,AF⟩ (W.alloc (.cells c e)):=λc W=>rfl;subst g;simp only[not_and,false_or]at M;have L:¬(((n+m:Nat):Int)>IntKind.i64.max/\(False\/i.bytes=0)):=by simpa using M
 simp only[XH,XF,XG,Vp,E.sl,E.size,N,R,hz,Result.andThen,Builtin.lenOf,Vq,Xi,if_false,XI,
  Xh,if_true,Vu h,Vu L,Vu O,H,B]
 have V:=J {w with drawn:=w.drawn+1} rfl;have Y:=hn {w with drawn:=w.drawn+1} rfl;simp only[V,Y,G];have X:old.toArray++new.toArray++Builtin.zeroCells z.cells (f-(n+m))=((old++new)++(Builtin.zeroCells z.cells (f-(n+m))).toList).toArray:=by
  apply Xw.1;simp
 rw[<- X]
theorem oD{e:Nat}(E:ElemTy P T e k)(f:∀w,(underlying T').run P w=.ok (.slice e') w){n c:Nat}
  (d:n+m<=cap)(hn:(Builtin.firstCells k m (.slice ax m c)).run P w=.ok new.toArray w):
  (Builtin.append_ #[T,T'] t #[.slice ad n cap,.slice ax m c]).run P w=
   match ad with
   |some a=>(do storeCells (a.add (n*k)) new;pure (Value.slice ad (n+m) cap):Sem AL).run P w
   |none=>.ok (.slice ad (n+m) cap) w:=by
 generalize hF:Builtin.firstCells=F at hn;unfold Builtin.append_;rw[hF];simp only[XH,XF,XG,Vp,E.sl,E.size,f,Result.andThen,Builtin.lenOf,Vq,Xi,if_false,XI,
  Xh,if_true,Vv d,hn]
 cases ad with
 |none=>rfl
 |some a=>simp only[Vp,Result.andThen,Vq]
theorem Cm.weaken(s:Cm fr ro σ H w){i:Nat}{x x':Ci}(hH:H[i]?=AC x)(hl:x.live=AE)(G:∀y,BR ro σ w x y->BR ro σ w x' y):Cm fr ro σ (H.set i x') w:=by
 have d:∀(j:Nat) (v:Ci),(H.set i x')[j]?=AC v->(j=i/\v=x')\/(j≠i/\H[j]?=AC v):=by
  grind
 have hx:∀(j:Nat) (v:Ci),(H.set i x')[j]?=AC v->v.live=AE->∃f,H[j]?=AC f/\f.live=true:=by
  grind
 refine⟨by rw[X6];exact s.len,s.roOk,s.frLt,s.roFr,?_,?_,?_⟩
 .intro j b v g m B;obtain⟨f,t,E⟩:=hx j v m B;exact s.own j b f g t E
 .intro j J b v f g m B M N L;obtain⟨u,t,E⟩:=hx j v B N;obtain⟨O,q,F⟩:=hx J f M L;exact s.inj j J b u O g m t q E F
 .intro j y v g m;rcases d j v m with⟨rfl,rfl⟩|⟨_,h⟩
  .exact G y (s.blk j y x g hH)
  .exact s.blk j y v g h
theorem RL.take{k:Nat}:∀(n:Nat) {es:AA (AA A)} {l:AA AL},RL ro σ w k es l->RL ro σ w k (es.take n) l
 |0,_,_,_=>trivial
 |n+1,[],_,_=>trivial
 |n+1,c::es,l,⟨l1,l2,h1,h2,h3,h4⟩=>⟨l1,l2,h1,h2,h3,RL.take n h4⟩
theorem fU{c:Call}{T T':TypeId}{x y:Operand}(f:o.op=.call c)(d:c={callee:=.builtin .append,args:= #[x,y],argTypes:= #[T,T']})(ρ:Operand->AL){v:AL}
  (h:(Builtin.append_ #[T,T'] o.type #[ρ x,ρ y]).run P w=.ok v w'):(execOp ρ o).run P w=.ok (.value v) w':=by
 simp_all[execOp,resolve,invoke,Go.builtin]
theorem Cm.phantom(s:Cm fr ro σ H w)(t k:Nat):Cm fr ro (σ++[AF]) (H++[.row t k []]) w:=by
 have h:=s.len;have g:∀(i b:Nat),(σ++[AF])[i]?=AC (AC b)->i<σ.length:=by
  grind
 refine⟨by simp[h],s.roOk,s.frLt,s.roFr,?_,?_,?_⟩
 .intro i b z d f m;have q:=g i b d;rw[XN q]at d;rw[XN om]at f;exact s.own i b z d f m
 .intro i j b z L d f m x F B;have E:=g i b d;have J:=g j b f;rw[XN E]at d;rw[XN J]at f;rw[XN om]at m x;exact s.inj i j b z L d f m x F B
 .intro i y z d f;have ext:Dh ro σ w ro (σ++[AF]) w:=⟨λ_ q=>q,λ_ _=>rfl,λ_ _ q=>q,gq⟩;rcases Nat.lt_trichotomy i σ.length with q|q|q
  .rw[XN q]at d;rw[XN om]at f;exact(s.blk i y z d f).keep ext (λ_ _ _=>rfl)
  .subst q;have G:(σ++[AF])[σ.length]?=AC none:=sq;have M:(H++[Ci.row t k []])[σ.length]?=AC (.row t k []):=gq;rw[G]at d;rw[M]at f;cases d;cases f;rfl
  grind
theorem Cm.kill(s:Cm fr ro σ H w)(i:Nat):Cm fr ro σ (H.set i .dead) w:=by
 have d:∀(j:Nat) (v:Ci),(H.set i .dead)[j]?=AC v->v≠ .dead->H[j]?=AC v:=by
  grind
 refine⟨by rw[X6];exact s.len,s.roOk,s.frLt,s.roFr,?_,?_,?_⟩
 .intro j b v g f h;exact s.own j b v g (d j v f (Ci.nd h)) h
 .intro j m b v x g f h E B q;exact s.inj j m b v x g f (d j v h (Ci.nd B)) (d m x E (Ci.nd q)) B q
 .intro j y v g f;by_cases t:v≠ .dead
  .exact s.blk j y v g (d j v f t)
  .obtain rfl:v=.dead:=Classical.not_not.1 t;trivial
theorem grown{c:Call}{e n cx:Nat}{x y:Operand}{a:Act}{old:AA AL}(E:ElemTy P T e k)(R:∀w,(underlying T').run P w=.ok (.slice e') w)(W:o.op=.call c)
  (hc:c={callee:=.builtin .append,args:= #[x,y],argTypes:= #[T,T']})(h1:a.eval x=.slice ad n cap)(X:a.eval y=.slice ax m cx)(s:Cm fr ro σ H w)(B:cap<n+m)(q:n+m<=Yp)
  (t:∀w',w'.heap=w.heap->(Builtin.firstCells k n (.slice ad n cap)).run P w'=.ok old.toArray w')(F:∀w',w'.heap=w.heap->(Builtin.firstCells k m (.slice ax m cx)).run P w'=.ok new.toArray w')
  (g:LR ro [] w es.flatten old)(ac:∀v∈old,QA v)(j:allK k es)(h:LR ro [] w fs.flatten new)(aa:∀v∈new,QA v)(G:allK k fs)(ab:es.length=n)(N:fs.length=m):
  ∃v w' ro' τ,(execOp a.eval o).run P w=.ok (.value v) w'/\VR ro' (σ++τ) w' (.osl H.length 0 (n+m) k) v/\Cm fr ro' (σ++τ) (H++[.row e k (es++fs)]) w'/\Qe fr ro w ro' w':=by
 obtain⟨d,nc,L,M,f⟩:=QnD E R rfl B q F t
 let w0:={w with drawn:=w.drawn+1}
 have s0:Cm fr ro σ H w0:=s.heap rfl;have V:Qe fr ro w ro w0:=Qe.heap rfl rfl rfl rfl (Nat.le_succ _);have J:LR ro [] w0 (es++fs).flatten (old++new):=by
  rw[List.flatten_append];exact(g.append h).mono (Dh.heap (w:=w) rfl)
 obtain⟨Y,e1⟩:=t5 s0 (wd j G) J (λv hv=>gq);have hexec:=fU W hc a.eval (by rw[h1,X];exact f);refine⟨_,_,ro,[AC w.heap.size],hexec,.inr ⟨w.heap.size,0,nc,e,(old++new++d).length,?_,rfl,λ_=>sq,L,?_,?_⟩,Y,V.trans e1⟩
 .rw[<- s.len];simp
 .have:=Yo w0 (.cells ((old++new)++d).toArray e);unfold World.shape?
  grind
 .have O:=g.length;have Q:=h.length;rw[Y8 j]at O;rw[Y8 G]at Q;simp[X5,M,O,Q,N];rw[<- XB, <- XB]
  grind
theorem Qgt{c:Call}{e:Nat}{x y:Operand}{F:A}(E:ElemTy P T e k)(j:∀w,(underlying T').run P w=.ok (.slice e') w)(m:o.op=.call c)
  (J:c={callee:=.builtin .append,args:= #[x,y],argTypes:= #[T,T']})(hx:CS env x=.nils)(M:CS env y=F)(hs:G6 P H F k fs)(G:fs.length<=Yp):
  Fb P o env H (.osl H.length 0 fs.length k) (H++[.row e k fs]):=by
 intro R B σ N a w r;have g:=Qm r x;rw[hx]at g;have q:=Qm r y;rw[M]at q;obtain⟨⟨W,V,f⟩,O,l,h,L,Q⟩:=hs R B σ w _ r.sim q;rw[f]at h;by_cases X:fs.length=0
 .have d:fs=[]:=gq;subst d;refine⟨.slice AF 0 0,w,B,[AF],(fU m J _ ?_),.inl ⟨rfl,rfl⟩,r.sim.phantom e k,Qe.refl _ _ _⟩;rw[g,f];have:=oD (t:=o.type) E j (ad:=AF) (XU 0) (h w rfl);omega
 .have:=grown (es:=[]) E j m J g f r.sim om om (λ_ _=>aP) h rfl sq trivial L Q O rfl rfl
  grind
theorem wW{c:Call}{e i n:Nat}{x y:Operand}{ya:A}{gs:AA (AA A)}(E:ElemTy P T e k)(X:∀w,(underlying T').run P w=.ok (.slice e') w)(L:o.op=.call c)
  (G:c={callee:=.builtin .append,args:= #[x,y],argTypes:= #[T,T']})(hx:CS env x=.osl i 0 n k)(hH:H[i]?=AC (.row e k es))(hn:n<=es.length)(F:CS env y=ya)(hs:G6 P H ya k fs)(g:n+fs.length<=Yp)
  (hg:es.take n++fs=gs):Fb P o env H (.osl H.length 0 (n+fs.length) k) (H.set i .dead++[.row e k gs]):=by
 intro fr B σ N a w r;subst hg;have j:=Qm r x;rw[hx]at j;have h2:=Qm r y;rw[F]at h2;obtain⟨⟨ay,cy,e1⟩,q2,l,J,q4,q5⟩:=hs fr B σ w _ r.sim h2;rw[e1]at J;have h:i<H.length:=gq;have ag:(H.set i .dead).length=H.length:=X6;obtain⟨s,hσ⟩:∃s,σ[i]?=AC s:=⟨_,XL (by rw[r.sim.len];exact h)⟩;rcases j with⟨rfl,j⟩|⟨b,p,cap,t',mm,O,j,h4,h5,R,h7⟩
 ·
  by_cases hm:fs.length=0
  .have q:fs=[]:=gq;subst q;refine⟨.slice AF 0 0,w,B,[AF],?_,.inl ⟨rfl,rfl⟩,(r.sim.kill i).phantom e k,Qe.refl _ _ _⟩;refine fU L G _ ?_;rw[j,e1];have:=oD (t:=o.type) E X (ad:=AF) (n:=0) (m:=0) (cap:=0) (c:=cy) (ax:=ay) (XU 0) (J w rfl);omega
  .have:=grown (es:=[]) (old:=[]) E X L G j e1 (r.sim.kill i) om g (λ_ _=>aP) J rfl sq trivial q4 q5 q2 rfl rfl
   grind
 .have V:=r.sim.blk i _ _ O hH;obtain⟨Q,M,g2⟩:=V;have aa:(es.take n).length=n:=by simp;omega
  obtain⟨old,o1,o2,o3⟩:∃old:AA AL,(∀w':AJ,w'.heap=w.heap->(Builtin.firstCells k n (.slice (AC ⟨b,p,AF⟩) n cap)).run P w'=.ok old.toArray w')/\LR B [] w (es.take n).flatten old/\ ∀v∈old,QA v:=by
   have W:G6 P H (.osl i 0 n k) k (es.take n):=G6.osl hH sq om;obtain⟨_,_,l',z1,z2,z3⟩:=W fr B σ w (.slice (AC ⟨b,p,AF⟩) n cap) r.sim (.inr ⟨b,p,cap,t',mm,O,rfl,h4,h5,R,h7⟩)
   grind
  by_cases d:n+fs.length<=cap
  .have ae:=oD (t:=o.type) E X (ad:=AC ⟨b,p,AF⟩) (n:=n) (m:=fs.length) (cap:=cap) (c:=cy) (ax:=ay) d (J w rfl);have af:l.length=fs.length*k:=by rw[q4.length,Y8 q2]
   by_cases hm:fs.length=0
   .have q:fs=[]:=gq;subst q;have el:l=[]:=(by simp_all);subst el;have sw:=(r.sim.weaken (x':=.row e k (es.take n)) hH rfl (by
     intro y F;cases y with
     |none=>simp only[BR]at F⊢;grind
     |some y=>obtain⟨Q,M,g2⟩:=F;exact⟨Q,M,g2.take n⟩))
    have Y:=sw.moved (i:=i) (Xa h) O;rw[List.set_set]at Y;refine⟨.slice (AC ⟨b,p,AF⟩) n cap,w,B,[AC b],?_,.inr ⟨b,p,cap,t',mm,?_,sq,h4,om,R,h7⟩,gq,Qe.refl _ _ _⟩
    .refine fU L G _ ?_
     simp_all[storeCells]
    .rw[<- r.sim.len];simp
   .obtain rfl:p=0*k:=h4 om;have ab:(n+fs.length)*k<=Q.length:=by
     have:w.shape? b=AC (e,Q.length):=by unfold World.shape?;rw[M];simp
     rw[this]at R;cases R;exact XW (XD k d) gq
    rw[XB]at ab;have ah:=Yi (P:=P) (vs:=l) (n*k) 0 M om q5;have f:=r.sim.set (x':=.row e k (es.take n++fs)) (obj:=.cells (splice Q (n*k) l).toArray e (0,0)) O hH rfl
     (λy F=>Ju M (Yg om) y F)
     (λex ac=>⟨_,ac,(g2.app hn q2 q4 q5).mono ex.nil⟩)
    have Y:=f.1.moved (i:=i) (Xa h) O;rw[List.set_set]at Y;refine⟨.slice (AC ⟨b,0*k,AF⟩) (n+fs.length) cap,_,B,[AC b],?_,.inr ⟨b,0*k,cap,t',mm,?_,rfl,h4,⟨d,h5.2⟩,?_,h7⟩,Y,f.2⟩
    .refine fU L G _ ?_
     simp_all[UJ]
    .rw[<- r.sim.len];simp
    .exact f.2.shape _ _ R
  .have:=grown (es:=es.take n) (old:=old) (fs:=fs) E X L G j e1 (r.sim.kill i) om g o1 J o2 o3 (v7 n g2.allK) q4 q5 q2 aa rfl
   grind
end
variable {H':Qb}{xs:AA Operand}
section
variable {P:AK} {o:AM} {env:Env} {H:Qb}
theorem Dc.fn{c:Call}{g:Array TypeId}(d:∀(a:Array AL) (w:AJ),(callFunc f a).run P w=.ok (.enter f a) w)(h:o.op=.call c)
  (j:c={callee:=.value (.func f),args:=xs.toArray,argTypes:=g})(hx:xs.map (CS env)=args):Dc P o env H f args:=by
 intro q m σ N a w r;refine⟨xs.map a.eval,?_,hx▸aN r xs⟩;have e:a.eval (.func f)=.func (.func f) #[] #[]:=rfl
 grind[execOp,resolve,Deferred.ofValue,invoke]
theorem aH{c:Call}{x:Operand}{q:Array TypeId}{h j:AA A}(g:∀(a:Array AL) (w:AJ),(callFunc f a).run P w=.ok (.enter f a) w)(E:o.op=.call c)
  (G:c={callee:=.value x,args:=xs.toArray,argTypes:=q})(m:CS env x=.fn (.func f) h j)(hx:h++(xs.map (CS env)++j)=args):Dc P o env H f args:=by
 intro J F σ N a w r;have d:=Qm r x;rw[m]at d;obtain⟨l,y,d,t,B⟩:=d;refine⟨l++(xs.map a.eval++y),?_,hx▸t.append ((aN r xs).append B)⟩
 grind[execOp,resolve,Deferred.ofValue,invoke]
def IU(ρ:Nat->Nat)(env:Env):Env->Prop
 |[]=>True
 |(s,a)::r=>lk env s=YM ρ a/\IU ρ env r
theorem IU.ok{ro:Nat->Prop}{σ σ':Cp}{w:AJ}{ρ:Nat->Nat}(h:∀i,σ[ρ i]?=σ'[i]?){t:Array AL}(r:∀s,VR ro σ w (lk env s) (t.getD s undef)):
  ∀{env':Env},IU ρ env env'->∀s,VR ro σ' w (lk env' s) (t.getD s undef)
 |[],_,s=>trivial
 |(d,a)::e,⟨h1,h2⟩,s=>by
  simp only[lk];by_cases q:s=d
  .grind[Nat.beq_refl,iy]
  .have:Nat.beq s d=false:=by
    simp_all[VP]
   rw[this];exact IU.ok h r h2 s
theorem Cm.sub(s:Cm fr ro σ H w)(hH:π.map (λp=>H[p]?)=(H'.map (Q4 (Cu π H.length))).map AC)(hπ:π.Nodup):
  Cm fr ro (Y6 σ π) H' w/\ ∀j:Nat,σ[Cu π H.length j]?=(Y6 σ π)[j]? :=
 ⟨(s.part hH hπ).1.frMono λ_=>.inl,(s.part hH hπ).2⟩
theorem mf{f:Nat}{env':Env}(π:AA Nat)(d:π.take f=List.range f)(hH:π.map (λp=>H[p]?)=(H'.map (Q4 (Cu π H.length))).map AC)(hπ:π.Nodup)
  (hE:IU (Cu π H.length) env env'):Le f env H env' H':=by
 intro m h σ N a w r;obtain⟨g,hσ⟩:=r.sim.sub hH hπ;refine⟨h,Y6 σ π,⟨g,IU.ok hσ r.env hE,r.size,r.defers⟩,λ_ q=>q,?_⟩;have hl:=r.sim.len;have j:∀p∈π,p<H.length:=λp q=>pJ hH q;unfold Y6;rw[<- List.map_take,d];apply List.ext_getElem?
 grind
theorem Le.phantom{g s k t:Nat}(h:g<=H.length)(hs:lk env s=.nils):Le g env H (up env s (.osl H.length 0 0 k)) (H++[.row t k []]):=by
 intro j f σ N a w r;refine⟨f,σ++[AF],⟨r.sim.phantom t k,?_,r.size,r.defers⟩,λ_ q=>q,QJ (by rw[r.sim.len];exact h)⟩;have ext:Dh f σ w f (σ++[AF]) w:=⟨λ_ q=>q,λ_ _=>rfl,λ_ _ q=>q,gq⟩;intro d;simp only[lk];by_cases q:d=s
 .subst q;rw[VI];have:=r.env d;rw[hs]at this;exact .inl ⟨rfl,this⟩
 .have:Nat.beq d s=false:=by
   simp_all[VP]
  rw[this];exact(r.env d).mono ext
theorem i6{f s:Nat}(hs:lk env s=.nils):Le f env H (up env s (.rsl k [])) H:=by
 intro h g σ N a w r;refine⟨g,σ,⟨r.sim,?_,r.size,r.defers⟩,λ_ q=>q,rfl⟩;intro d;simp only[lk];by_cases q:d=s
 .subst q;rw[VI];have:=r.env d;rw[hs]at this;exact⟨AF,0,this,XU _,.inl rfl⟩
 .have:Nat.beq d s=false:=by
   simp_all[VP]
  rw[this];exact r.env d
mutual
def Yb:A->Bool
 |.bool _=>AE
 |.int _ _=>AE
 |.str _=>AE
 |.tup vs=>jL vs
 |_=>AD
def jL:AA A->Bool
 |[]=>AE
 |a::r=>Yb a&&jL r
end
mutual
theorem VR.scalar{ro ro':Nat->Prop}{σ σ':Cp}{w w':AJ}:∀{a:A} {v:AL},Yb a=AE->VR ro σ w a v->VR ro' σ' w' a v
 |.bool _,_,_,h=>h
 |.int _ _,_,_,h=>h
 |.str _,_,_,h=>h
 |.tup vs,v,hs,h=>by
  simp only[VR,Yb]at h hs⊢;obtain⟨l,h1,h2⟩:=h;exact⟨l,h1,LR.scalar hs h2⟩
 |.any,_,hs,_=>by simp[Yb]at hs
 |.nilp,_,hs,_=>by simp[Yb]at hs
 |.ptr _ _,_,hs,_=>by simp[Yb]at hs
 |.rp _,_,hs,_=>by simp[Yb]at hs
 |.nils,_,hs,_=>by simp[Yb]at hs
 |.rsl _ _,_,hs,_=>by simp[Yb]at hs
 |.osl _ _ _ _,_,hs,_=>by simp[Yb]at hs
 |.agg _,_,hs,_=>by simp[Yb]at hs
 |.fn _ _ _,_,hs,_=>by simp[Yb]at hs
 |.nilf,_,hs,_=>by simp[Yb]at hs
 |.iface _ _,_,hs,_=>by simp[Yb]at hs
 |.nilif,_,hs,_=>by simp[Yb]at hs
 |.map _,_,hs,_=>by simp[Yb]at hs
 |.nilm,_,hs,_=>by simp[Yb]at hs
theorem LR.scalar{ro ro':Nat->Prop}{σ σ':Cp}{w w':AJ}:∀{az:AA A} {l:AA AL},jL az=AE->LR ro σ w az l->LR ro' σ' w' az l
 |[],_,_,h=>h
 |a::r,l,hs,h=>by
  simp only[LR,jL,XX]at h hs⊢;obtain⟨v,l',h1,h2,h3⟩:=h;exact⟨v,l',h1,VR.scalar hs.1 h2,LR.scalar hs.2 h3⟩
end
def fp(H:Qb):A->A->Prop:=λa a'=>(a'=a/\Yn a=AE)\/ ∃i n k t es,a=.osl i 0 n k/\H[i]?=AC (.row t k es)/\es.length=n/\a'=.rsl k es
def E_(H:Qb):AA A->AA A->Prop
 |[],[]=>True
 |a::az,b::bs=>fp H a b/\E_ H az bs
 |_,_=>False
theorem aM{Q:Qx}{l:AA AM}{d:Nat}{j:AA A}(aa:Dc P o env H f args)(X:E_ H args j)(hC:C P f j [] Qr)
  (ad:∀r H1,Qr r H1->Yb r=AE)(k:∀r H1,Qr r H1->WO P h0 N all l (up env d r) H Q)(hg:QB all o env true:=by rfl)(hd:o.dst=AC d:=by rfl)(hN:Nat.blt d N=true:=by rfl):WO P h0 N all (o::l) env H Q:=by
 intro rd fr G σ a w r hrd;obtain⟨O,W,Y⟩:=aa fr G σ N a w r;refine vL (YJ hg r) W ?_
 let roc:Nat->Prop:=λb=>G b\/ ∃(i:Nat) (x:Ci),σ[i]?=AC (AC b)/\H[i]?=AC x/\x.live=AE
 have V:Cm fr roc [] [] w:=by
  refine⟨rfl,r.sim.roOk.to (λ_ q=>.inl q) (λ_ _=>rfl) ?_,r.sim.frLt,?_,sq,sq,sq⟩
  .rintro b (q|⟨i,x,B,E,L⟩)
   .exact r.sim.roLt b q
   .exact(r.sim.own i b x B E L).1
  .rintro b (q|⟨i,x,B,E,L⟩) q'
   .exact r.sim.roFr b q q'
   .exact(r.sim.own i b x B E L).2.2 q'
 have J:∀(az F:AA A) (l:AA AL),E_ H az F->LR G σ w az l->LR roc [] w F l:=by
  intro az
  induction az with
  |nil=>
   intro F l hl h;cases F with
   |nil=>exact h
   |cons b F=>exact hl.elim
  |cons x az ih=>
   intro F l hl h;cases F with
   |nil=>exact hl.elim
   |cons y F=>
    obtain⟨hx,hl⟩:=hl;obtain⟨v,l',rfl,X,h⟩:=h;refine⟨v,l',rfl,?_,ih F l' hl h⟩;rcases hx with⟨rfl,hx⟩|⟨i,n,k,t,es,rfl,hH,hn,rfl⟩
    .exact(X.data (σ':=[]) hx).mono ⟨λ_ q=>.inl q,λ_ _=>rfl,λ_ _ q=>q,λ_ _ q=>q⟩
    .subst hn;rcases X with⟨h0,h⟩|⟨b,p,R,t',m,W,h,Y,⟨h3,ag⟩,h4,h5⟩
     .have:es=[]:=gq;subst this;exact⟨AF,0,h,XU _,.inl rfl⟩
     .refine⟨_,R,h,h3,?_⟩;by_cases he:es=[]
      .exact .inl he
      .right;have hc:0<R:=Vi gq h3;obtain rfl:=Y hc;obtain⟨l,B,E⟩:=r.sim.blk i _ _ W hH;refine⟨b,0,sq,.inr ⟨i,_,W,hH,rfl⟩,?_⟩;have:=YV (pre:=[]) (by simpa using B) E;exact this.keep ⟨λ_ q=>.inl q,λ_ _=>rfl,λ_ _ q=>q,λ_ _ q=>q⟩ rfl
 refine Calls.mono (hC fr roc [] O w V (J _ _ _ X Y)) ?_;rintro e M ⟨v,rr,H1,af,τ,rfl,hq,sc,ab,ev⟩;have ae:∀(i b:Nat) (x:Ci),σ[i]?=AC (AC b)->H[i]?=AC x->x.live=AE->M.heap[b]?=w.heap[b]? :=λi b x B E L=>ev.keepRo b gq;have g:Qe fr G w G M:=⟨λ_ q=>q,λb q=>ev.keepRo b (.inl q),ev.keepFr,ev.size,ev.shape,ev.os,ev.tape,ev.output,ev.drawn⟩;have T:Cm fr G σ H M:=by
  refine⟨r.sim.len,r.sim.roOk.to (λ_ q=>q) g.keepRo (λb q=>Vi (r.sim.roLt b q) ev.size),λb q=>Vi (r.sim.frLt b q) ev.size,r.sim.roFr,?_,r.sim.inj,?_⟩
  .intro i b x B E L;obtain⟨p1,p2,p3⟩:=r.sim.own i b x B E L
   grind
  .intro i y x B E;refine(r.sim.blk i y x B E).keep (g.ext0 σ) ?_
   grind
 have hk:=k rr H1 hq;have ac:d<N:=by simp_all
 simp only[hd,Act.put];have r':DT fr G σ H (up env d rr) N {a with tmps:=a.tmps.setIfInBounds d v} M:=
  ⟨T,VR.up (fr:=fr) (λs=>(r.env s).mono (g.ext0 σ)) (by rw[r.size];exact ac) (ab.scalar (ad _ _ hq)),by simpa using r.size,r.defers.keep g⟩
 exact⟨_,rfl,Yq (λe a w q=>q.step g rfl) _ _ _ (hk rd fr G σ _ M r' (hrd.to g λ_ q=>q))⟩
end
section
variable {P:AK} {o:AM} {env:Env} {H:Qb}
theorem ve{α:Type}:∀(vs:AA α) (d i:Nat) (l:AA α),d+i+vs.length<=l.length->
  (vs.zipIdx i).foldl (λcs x=>cs.setIfInBounds (d+x.2) x.1) l.toArray=(splice l (d+i) vs).toArray
 |[],d,i,l,h=>by simp[splice]
 |v::vs,d,i,l,h=>by
  simp[X3]at h;rw[List.zipIdx_cons,XE];have e1:l.toArray.setIfInBounds (d+i) v=(splice l (d+i) [v]).toArray:=by
   have:l.toArray.setIfInBounds (d+i) v=(l.set (d+i) v).toArray:=sq;rw[this];rw[List.set_eq_take_append_cons_drop,Vv om];simp[splice]
  rw[e1,ve vs d (i+1) _ gq];have f:(l.take (d+i)).length=d+i:=by simp;omega
  unfold splice;have j:d+(i+1)=(l.take (d+i)).length+1:=om;have g:(l.take (d+i)++([v]++l.drop (d+i+[v].length))).take ((l.take (d+i)).length+1)=l.take (d+i)++[v]:=by
   grind
  have m:(l.take (d+i)++([v]++l.drop (d+i+[v].length))).drop ((l.take (d+i)).length+1+vs.length)=l.drop (d+i+(v::vs).length):=by
   rw[show(l.take (d+i)).length+1+vs.length=(l.take (d+i)).length+(1+vs.length)from om,Vd];simp[Nat.add_comm 1];omega
  simp_all
theorem vb{d:Nat->AB (Nat×Nat)}{l:AA AL}{i f size:Nat}{v:AL}{m:AA AL}{rest:AA (Nat×AL)}(g:d i=AC (f,size))(h:v.cells=m.toArray)(hs:m.length=size)
  (hl:f+size<=l.length):Instr.fill d l.toArray ((i,v)::rest)=Instr.fill d (splice l f m).toArray rest:=by
 rw[Instr.fill];simp[g];rw[Vu gq,h]
 simp_all[ve]
def Jl:Nat->AA Operand->AA (Nat×Operand)
 |_,[]=>[]
 |i,x::xs=>(i,x)::Jl (i+1) xs
def Q7(env:Env)(xs:AA Operand):AA (AA A):=xs.map λx=>QU (CS env x)
theorem ny{fr ro:Nat->Prop}{σ:Cp}{N:Nat}{a:Act}{w:AJ}(r:DT fr ro σ H env N a w){k:Nat}:∀(xs:AA Operand) (j:Nat) (pre rest:AA AL),pre.length=j*k->rest.length=xs.length*k->
  (xs.all λx=>QT (CS env x))=AE->allK k (Q7 env xs)->
  ∃l,Instr.fill (λi=>AC (i*k,k)) (pre++rest).toArray ((Jl j xs).map λp=>(p.1,a.eval p.2))=AC (pre++l).toArray/\LR ro σ w (Q7 env xs).flatten l
 |[],j,pre,rest,h1,h2,_,_=>by
  have:rest=[]:=(by simp_all);subst this;exact⟨[],rfl,rfl⟩
 |x::xs,j,pre,rest,h1,h2,h3,h4=>by
  simp only[List.all_cons,XX]at h3;obtain⟨hk1,hk2⟩:=h4;obtain⟨m,q1,q2⟩:=(Qm r x).cells h3.1;have hm:m.length=k:=by rw[q2.length];exact hk1
  simp[X3,Xm]at h2;simp[Jl,Vm];rw[vb rfl q1 hm (by simp;omega)];have e:splice (pre++rest) (j*k) m=(pre++m)++rest.drop k:=by
   unfold splice
   grind[List.drop_length_add_append]
  rw[e];obtain⟨l,d,f⟩:=ny r xs (j+1) (pre++m) (rest.drop k) gq (by simp;omega) h3.2 hk2;refine⟨m++l,?_,?_⟩
  .rw[d];simp
  .exact q2.append f
theorem xM{a:Act}(r:DT fr ro σ H env N a w){e n:Nat}(E:ElemTy P T e k)(hn:xs.length=n)(y:Nat.ble (n*k) 16777216=AE)
  (j:(xs.all λx=>QT (CS env x))=AE)(g:allK k (Q7 env xs)):
  ∃l,(Instr.buildSlice T n (((Jl 0 xs).map λp=>(p.1,a.eval p.2)).toArray)).run P w=.ok (.slice (AC ⟨w.heap.size,0,AF⟩) n n) (w.alloc (.cells l.toArray e))/\LR ro σ w (Q7 env xs).flatten l:=by
 obtain⟨z,B,t⟩:=E.zero;have m:n*k<=16777216:=by simp_all
 have q:∀(c:Array AL) (W:AJ),(newRow e c).run P W=.ok ⟨W.heap.size,0,AF⟩ (W.alloc (.cells c e)):=λc W=>rfl;unfold Instr.buildSlice;by_cases h:n*k=0
 .obtain⟨l,d,f⟩:=ny r (k:=k) xs 0 [] [] sq gq j g;refine⟨l,?_,f⟩;simp only[Vp,E.sl,Result.andThen,E.size,h]
  simp_all[Array.range]
 .obtain⟨l,d,f⟩:=ny r (k:=k) xs 0 [] ((Array.range (n*k)).map (λi=>z.cells[i%z.cells.size]!)).toList sq (by rw[hn];simp) j g;refine⟨l,?_,f⟩;simp only[Vp,E.sl,Result.andThen,E.size,Vu h,XI,B];simp only[Vk]at d;rw[Array.toArray_toList]at d
  simp_all
theorem xR{n:Nat}(d:o.op=.buildSlice T n (Jl 0 xs).toArray)(ρ:Operand->AL){v:AL}
  (h:(Instr.buildSlice T n (((Jl 0 xs).map λp=>(p.1,ρ p.2)).toArray)).run P w=.ok v w'):(execOp ρ o).run P w=.ok (.value v) w':=by
 grind[execOp,Sem.run_bind,Result.andThen,Sem.run_pure]
theorem Fb.lit{e n:Nat}(E:ElemTy P T e k)(G:o.op=.buildSlice T n (Jl 0 xs).toArray)(hn:xs.length=n)(j:Nat.ble (n*(k+1)) 16777216=AE)
  (hk:(xs.all λx=>QT (CS env x))=AE)(f:Q7 env xs=es)(h:allK k es)(F:es.flatten.all Q1=AE)(B:Q8 es.flatten=AE):
  Fb P o env H (.osl H.length 0 n k) (H++[.row e k es]):=by
 intro L t σ N a w r;subst f;have m:=XS j;rw[Nat.mul_add]at m;obtain⟨l,J,g⟩:=xM r E hn (XT om) hk h;have d:LR t [] w (Q7 env xs).flatten l:=g.data B;obtain⟨y,q⟩:=t5 r.sim h d (g.plain F);rw[Vj]at y q;have hl:l.length=n*k:=by rw[g.length,Y8 h];simp[Q7,hn]
 refine⟨_,_,t,[AC w.heap.size],xR G a.eval J,.inr ⟨w.heap.size,0,n,e,l.length,?_,rfl,λ_=>sq,om,?_,gq⟩,y,q⟩
 .rw[<- r.sim.len];simp
 .unfold World.shape?;rw[Yo];simp
theorem YL{n:Int}{y:Nat}{c:BoundsCode}(f:0<=n)(d:n<=y):(Instr.sliceBound (.int .i64 n) y c).run P w=.ok n.toNat w:=by
 simp_all[Instr.sliceBound,asIntOf]
theorem tY{e:Nat}(E1:∀w,(underlying T).run P w=.ok (.slice e) w)(E2:∀w,(sizeOf e).run P w=.ok k w){n:Nat}{lo hi:AB AL}{l h:Nat}(g:n<=cap)
  (d:lo=AF/\l=0\/ ∃z:Int,lo=AC (.int .i64 z)/\0<=z/\z.toNat=l)(f:hi=AF/\h=n\/ ∃z:Int,hi=AC (.int .i64 z)/\0<=z/\z.toNat=h)(j:l<=h)(t:h<=n):
  (Instr.sliceAt T (.slice ad n cap) lo hi AF).run P w=.ok (.slice (if cap=l then ad else ad.map (·.add (l*k))) (h-l) (cap-l)) w:=by
 have q:(Instr.sliceBounds AE n cap lo hi AF).run P w=.ok (l,h,cap) w:=by
  rcases d with⟨rfl,rfl⟩|⟨z,rfl,m,rfl⟩<;>rcases f with⟨rfl,rfl⟩|⟨y,rfl,y0,rfl⟩
  .rfl
  .grind[Instr.sliceBounds,Sem.run_bind,Sem.run_pure,Result.andThen,YL]
  .grind[Instr.sliceBounds,Sem.run_bind,Sem.run_pure,Result.andThen,YL]
  .simp[Instr.sliceBounds,Vp,Vq,Result.andThen,YL y0 (show y<=cap by omega),YL m (show z<=y.toNat by omega)]
 simp_all[Instr.sliceAt,Instr.slice]
theorem jT{a:Act}(r:DT fr ro σ H env N a w){x:AB Operand}{l d:Nat}(h:x=AF/\l=d\/ ∃y,∃z:Int,x=AC y/\CS env y=.int .i64 z/\0<=z/\z.toNat=l):
  x.map a.eval=AF/\l=d\/ ∃z:Int,x.map a.eval=AC (.int .i64 z)/\0<=z/\z.toNat=l:=by
 rcases h with⟨rfl,rfl⟩|⟨y,z,rfl,f,g,j⟩
 .simp
 grind[QM]
theorem nt{e i s n:Nat}{x:Operand}{lo hi:AB Operand}{l h:Nat}(E1:∀w,(underlying T).run P w=.ok (.slice e) w)(E2:∀w,(sizeOf e).run P w=.ok k w)(E:o.op=.slice T x lo hi AF)
  (hx:CS env x=.osl i s n k)(t:lo=AF/\l=0\/ ∃y,∃z:Int,lo=AC y/\CS env y=.int .i64 z/\0<=z/\z.toNat=l)
  (j:hi=AF/\h=n\/ ∃y,∃z:Int,hi=AC y/\CS env y=.int .i64 z/\0<=z/\z.toNat=h)(g:l<=h)(F:h<=n):CY P o env H (.osl i (s+l) (h-l) k):=by
 intro X V σ N a w r;have f:=Qm r x;rw[hx]at f;rcases f with⟨rfl,f⟩|⟨b,p,B,G,m,f,L,W,⟨M,O⟩,J,R⟩
 .have d:=tY (P:=P) (w:=w) E1 E2 (ad:=AF) (XU 0) (jT r t) (jT r j) g F;refine⟨_,by simp only[execOp,E,f,Vp,d,Xk];rfl,?_⟩;left
  grind
 .have d:=tY (w:=w) E1 E2 (ad:=AC ⟨b,p,AF⟩) M (jT r t) (jT r j) g F;refine⟨_,by simp only[execOp,E,L,Vp,d,Xk];rfl,?_⟩;right;by_cases Q:B=l
  .refine⟨b,p,0,G,m,f,gq,λq=>om,om,J,?_⟩
   grind
  .refine⟨b,p+l*k,B-l,G,m,f,by rw[Vu Q];simp[UJ],λq=>gq,om,J,?_⟩
   grind
theorem CY.max{c:Call}{x y:Operand}{k:IntKind}{m n:Int}(h:o.op=.call c)(g:c={callee:=.builtin .max,args:= #[x,y],argTypes:=c.argTypes})(hx:CS env x=.int k m)(q:CS env y=.int k n):
  CY P o env H (.int k (if m<n then n else m)):=by
 intro E B σ N a w r;have t:=QM r hx;have j:=QM r q;refine⟨_,?_,rfl⟩;generalize a.eval=ρ at*;have f:c.callee=.builtin .max:=by rw[g]
 have d:c.args= #[x,y]:=by rw[g]
 simp only[execOp,h,resolve,f,d,invoke,Vp,Result.andThen];simp[Builtin.max_,Builtin.max2,t,j,go_sem]
theorem CY.min{c:Call}{x y:Operand}{k:IntKind}{m n:Int}(h:o.op=.call c)(g:c={callee:=.builtin .min,args:= #[x,y],argTypes:=c.argTypes})(hx:CS env x=.int k m)(q:CS env y=.int k n):
  CY P o env H (.int k (if n<m then n else m)):=by
 intro E B σ N a w r;have t:=QM r hx;have j:=QM r q;refine⟨_,?_,rfl⟩;generalize a.eval=ρ at*;have f:c.callee=.builtin .min:=by rw[g]
 have d:c.args= #[x,y]:=by rw[g]
 simp only[execOp,h,resolve,f,d,invoke,Result.andThen];simp[Builtin.min_,Builtin.min2,t,j,go_sem]
end
variable {id:Nat}
section
variable {P:AK} {h0 N:Nat} {env:Env} {H:Qb} {Q:Qx} {c c':Code}
def qg(h0:Nat)(Eb:Env)(Hb:Qb)(Q:Qx):Qx
 |.normal,env,H=>Le h0 env H Eb Hb
 |.exit id,env,H=>Q (.exit id) env H
 |.ret,env,H=>Q .ret env H
theorem TC.cut(Eb:Env)(Hb:Qb)(h:TC P h0 N c env H (qg h0 Eb Hb Q))(k:∀env H,Le h0 env H Eb Hb->Q .normal env H):TC P h0 N c env H Q:=
 h.mono λx env' H' q=>by
  cases x with
  |normal=>exact k _ _ q
  |exit id=>exact q
  |ret=>exact q
theorem bO(h:TC P h0 N c env H Q):d8 P h0 N c Q .normal env H:=h
theorem bL(h:Q (.exit id) env H):d8 P h0 N c Q (.exit id) env H:=h
theorem bN(h:Q .ret env H):d8 P h0 N c Q .ret env H:=h
theorem dw(h:Q .normal env H):R6 id Q .normal env H:=h
theorem dx(h:Q .normal env H):R6 id Q (.exit id) env H:=by simp_all[R6]
theorem du{d:Nat}(e:Nat.beq d id=AD)(h:Q (.exit d) env H):R6 id Q (.exit d) env H:=by simp[R6,e];exact h
theorem dv(h:Q .ret env H):R6 id Q .ret env H:=h
def Ku(h0:Nat)(b:CJ S B)(Eb:S->Env)(Hb:S->Qb)(Q:Qx):Qx
 |.normal,env,H=>∃s,b=.k s/\Le h0 env H (Eb s) (Hb s)
 |.exit id,env,H=>Q (.exit id) env H
 |.ret,env,H=>Q .ret env H
theorem np{B:Type}{b:CJ S B}(Eb:S->Env)(Hb:S->Qb)(h:TC P h0 N c env H (Ku h0 b Eb Hb Q))(k:∀s env H,b=.k s->Le h0 env H (Eb s) (Hb s)->Q .normal env H):TC P h0 N c env H Q:=
 h.mono λx env' H' q=>by
  cases x with
  |normal=>obtain⟨s,e,q⟩:=q;grind
  |exit id=>exact q
  |ret=>exact q
section
variable {S B:Type} {b:CJ S B} {Eb:S->Env} {Hb:S->Qb}
theorem JZ{s:S}(e:b=.k s)(h:Le h0 env H (Eb s) (Hb s)):Ku h0 b Eb Hb Q .normal env H:=⟨s,e,h⟩
theorem JA(h:Q .ret env H):Ku h0 b Eb Hb Q .ret env H:=h
end
theorem Qo0{x:Operand}{t:Bool}(hx:CS env x=.bool t)(h:t=AE)(ht:TC P h0 N c env H Q):TC P h0 N (.cond x c c') env H Q:=TC.cond hx (λ_=>ht) (λq=>gq)
theorem Qo1{x:Operand}{t:Bool}(hx:CS env x=.bool t)(h:t=AD)(hf:TC P h0 N c' env H Q):TC P h0 N (.cond x c c') env H Q:=TC.cond hx (λq=>gq) (λ_=>hf)
section
variable {S B:Type} {I:S->Env->Qb->Prop}
theorem JJ{s:S}{d:CJ S B}(e:AC (CJ.k s)=AC d)(h:I s env H):Y9 I d Q .normal env H:=⟨s,gq,h⟩
theorem Jf{b:B}{d:CJ S B}(e:AC (CJ.d b)=AC d)(h:Q (.exit id) env H):Y9 I d Q (.exit id) env H:=⟨gq,h⟩
theorem Kt{b:B}{d:CJ S B}(e:AC (CJ.d b)=AC d)(h:Q .ret env H):Y9 I d Q .ret env H:=⟨gq,h⟩
end
end
theorem Yf{α β:Type}{x:AB α}{f:α->AB β}{r:β}(h:x.bind f=AC r):∃a,x=AC a/\f a=AC r:=Option.bind_eq_some_iff.1 h
def CN(l:AA α)(i:Int):AB α:=bif 0<=i then l[i.toNat]? else AF
theorem JL{α:Type}{l:AA α}{i:Int}{x:α}(h:CN l i=AC x):0<=i/\l[i.toNat]?=AC x:=by
 grind[CN]
def app(l m:AA α):AB (AA α):=bif Nat.ble (l.length+m.length) Yp then AC (l++m)else AF
variable {r:AA α}
theorem ml{l m:AA α}(h:app l m=AC r):l.length+m.length<=Yp/\l++m=r:=by
 unfold app at h;cases q:Nat.ble (l.length+m.length) Yp with
 |true=>simp_all
 |false=>grind
def Do(l:AA α)(lo hi:Int):AB (AA α):=bif AG (0<=lo)&&AG (lo<=hi)&&AG (hi<=(l.length:Int))then AC ((l.take hi.toNat).drop lo.toNat)else AF
theorem T4{l:AA α}{lo hi:Int}(h:Do l lo hi=AC r):0<=lo/\lo<=hi/\hi<=l.length/\(l.take hi.toNat).drop lo.toNat=r:=by
 grind[Do]
def JF(l:AA α)(i:Int)(x:α):AB (AA α):=bif AG (0<=i)&&AG (i<(l.length:Int))then AC (l.set i.toNat x)else AF
theorem jG{α:Type}{e:α->AA A}{l:AA α}{i:Nat}{x:α}(h:l[i]?=AC x):(l.map e)[i]?=AC (e x):=by simp[h]
section
variable {P:AK} {h0 N:Nat} {env:Env} {H H':Qb} {Q:Qx} {all:Array AM} {o:AM} {l:AA AM} {d:Nat} {x:A}
theorem vV(f:CY P o env H x)(k:WO P h0 N all l (up env d x) H Q)(hg:QB all o env true:=by rfl)(hd:o.dst=AC d:=by rfl)(hN:Nat.blt d N=true:=by rfl):WO P h0 N all (o::l) env H Q:=
 Ya hg hd hN f k
theorem vH(f:Fb P o env H x H')(k:WO P h0 N all l (up env d x) H' Q)(hg:QB all o env true:=by rfl)(hd:o.dst=AC d:=by rfl)(hN:Nat.blt d N=true:=by rfl)(hh:Nat.ble h0 H.length=true:=by rfl):WO P h0 N all (o::l) env H Q:=
 aD (by simp_all) hg hd hN f k
theorem vN(d:Fb P o env H x H')(k:WO P h0 N all l env H' Q)(hg:QB all o env true:=by rfl)(hd:o.dst=none:=by rfl)(hh:Nat.ble h0 H.length=true:=by rfl):WO P h0 N all (o::l) env H Q:=
 Qsq (by simp_all) hg hd d k
theorem vU(d:J1 P o env H H')(k:WO P h0 N all l env H' Q)(hg:QB all o env true:=by rfl)(hd:o.dst=none:=by rfl)(hh:Nat.ble h0 H.length=true:=by rfl):WO P h0 N all (o::l) env H Q:=
 mj (by simp_all) hg hd d k
theorem gT{j s:Nat}{c x:Bool}(hx:x=c)(hg:o.guard=AC (j,c):=by rfl)(hs:(all[j]?).bind (·.dst)=AC s:=by rfl)(hl:lk env s=.bool x:=by rfl):QB all o env true:=by
 simp_all[QB]
theorem gF{j s:Nat}{c x:Bool}(hx:x= !c)(hg:o.guard=AC (j,c):=by rfl)(hs:(all[j]?).bind (·.dst)=AC s:=by rfl)(hl:lk env s=.bool x:=by rfl):QB all o env false:=by
 simp_all[QB]
theorem OS{x x':A}(hx:x'=x)(hH:H'=H)(k:WO P h0 N all l (up env d x) H Q):WO P h0 N all l (up env d x') H' Q:=gq
theorem ei(hH:H'=H)(k:WO P h0 N all l env H Q):WO P h0 N all l env H' Q:=gq
theorem Qt{g:AA A}(π:AA Nat)(h:Dc P o env H f args)(j:C P f g Hc Qr)
  (k:∀r H1,Qr r H1->WO P h0 N all l (up env d (YM (Cu π H.length) r)) (QQ H π (H1.map (Q4 (Cu π H.length)))) Q)
  (hargs:args=Jg (Cu π H.length) g:=by rfl)(hH:π.map (λp=>H[p]?)=(Hc.map (Q4 (Cu π H.length))).map some:=by rfl)(hπ:π.Nodup:=by decide)
  (hg:QB all o env true:=by rfl)(hd:o.dst=AC d:=by rfl)(hN:Nat.blt d N=true:=by rfl)(hh:Nat.ble h0 H.length=true:=by rfl):WO P h0 N all (o::l) env H Q:=
 WO.call π (by simp_all) hg hd (λx hx=>by simp_all) h hargs hH hπ j k
end
section
variable {P:AK} {o:AM} {env:Env} {H:Qb} {α:Type} {e:α->AA A}
theorem nu{c:Call}{t d:Nat}{x:Operand}{l:AA α}(f:∀w,(underlying t).run P w=.ok (.slice d) w)(g:o.op=.call c:=by rfl)(hc:c={callee:=.builtin .len,args:= #[x],argTypes:= #[t]}:=by rfl)
  (hx:CS env x=.rsl k (l.map e):=by rfl):CY P o env H (.int .i64 l.length):=by
 have:=Qo4 (H:=H) g hc f hx
 grind
theorem T5{t d:Nat}{x y:Operand}{l:AA α}{i:Int}{v:α}(h:CN l i=AC v)(f:∀w,(underlying t).run P w=.ok (.slice d) w)(hs:∀w,(sizeOf d).run P w=.ok k w)
  (g:o.op=.indexAddr t x y:=by rfl)(hx:CS env x=.rsl k (l.map e):=by rfl)(hy:CS env y=.int kk i:=by rfl):CY P o env H (.rp (e v)):=
 QqJ g f hs hx hy (JL h).1 (jG (JL h).2)
theorem Qw{t d b n:Nat}{x y:Operand}{l:AA α}{i:Int}{v:α}(h:CN l i=AC v)(hn:l.length=n)(f:∀w,(underlying t).run P w=.ok (.slice d) w)(hs:∀w,(sizeOf d).run P w=.ok k w)
  (j:o.op=.indexAddr t x y:=by rfl)(hx:CS env x=.osl b 0 n k:=by rfl)(hy:CS env y=.int kk i:=by rfl):CY P o env H (.ptr b (i.toNat*k)):=by
 have:=JL h;have g:i.toNat<l.length:=gq;have m:=s6 (H:=H) j f hs hx hy this.1 om
 grind
theorem Qu{b t f:Nat}{l:AA α}{i:Int}{v:α}(h:CN l i=AC v)(hH:H[b]?=AC (.row t k (l.map e)):=by rfl)(hcs:(e v).drop f=cs':=by rfl):Dn H (.ptr b (i.toNat*k+f)) cs':=
 Dn.row hH rfl (jG (JL h).2) hcs
theorem Qy{b t:Nat}{l:AA α}{i:Int}{v:α}(h:CN l i=AC v)(hH:H[b]?=AC (.row t k (l.map e)):=by rfl)(hcs:e v=cs':=by rfl):Dn H (.ptr b (i.toNat*k)) cs':=
 Dn.row (f:=0) hH rfl (jG (JL h).2) hcs
theorem Qo9{c:Call}{et et':Nat}{x y:Operand}{d:A}{m r:AA α}(h:app [] m=AC r)(E:ElemTy P T et k)(f:∀w,(underlying T').run P w=.ok (.slice et') w)(hs:G6 P H d k (m.map e))
  (g:o.op=.call c:=by rfl)(hc:c={callee:=.builtin .append,args:= #[x,y],argTypes:= #[T,T']}:=by rfl)(hx:CS env x=.nils:=by rfl)(hy:CS env y=d:=by rfl):
  Fb P o env H (.osl H.length 0 r.length k) (H++[.row et k (r.map e)]):=by
 obtain⟨j,rfl⟩:=ml h;have:=Qgt E f g hc hx hy hs gq
 grind
theorem YP{c:Call}{et et' i n:Nat}{x y:Operand}{d:A}{l m r:AA α}(h:app l m=AC r)(E:ElemTy P T et k)(f:∀w,(underlying T').run P w=.ok (.slice et') w)(hs:G6 P H d k (m.map e))
  (hn:l.length=n:=by rfl)(ho:o.op=.call c:=by rfl)(hc:c={callee:=.builtin .append,args:= #[x,y],argTypes:= #[T,T']}:=by rfl)(hx:CS env x=.osl i 0 n k:=by rfl)
  (hH:H[i]?=AC (.row et k (l.map e)):=by rfl)(hy:CS env y=d:=by rfl):
  Fb P o env H (.osl H.length 0 r.length k) (H.set i .dead++[.row et k (r.map e)]):=by
 obtain⟨g,rfl⟩:=ml h;subst hn;have:=wW E f ho hc hx hH sq hy hs gq (gs:=(l++m).map e) (by rw[VL sq];simp)
 grind
theorem Sd{l:AA α}:G6 P H (.rsl k (l.map e)) k (l.map e):=G6.rsl
theorem Lj{i n t:Nat}{l:AA α}(hH:H[i]?=AC (.row t k (l.map e)):=by rfl)(hn:l.length=n:=by rfl):G6 P H (.osl i 0 n k) k (l.map e):=
 G6.osl hH (by grind[List.take_of_length_le]) (by simp[hn])
theorem Ys{t n b f:Nat}{x y:Operand}{l l':AA α}{i:Int}{v m:α}{a:A}{d:Nat}(h:CN l i=AC v)(hl:JF l i m=AC l')(hs:∀w,(sizeOf t).run P w=.ok n w)(g:d=i.toNat*k+f)(j:splice (e v) f vs=e m)
  (q:o.op=.store t x y:=by rfl)(hx:CS env x=.ptr b d:=by rfl)(hH:H[b]?=AC (.row T k (l.map e)):=by rfl)
  (hy:CS env y=a:=by rfl)(hk:QT a=true:=by rfl)(hv:QU a=vs:=by rfl)(hn:vs.length=n:=by rfl)(hp:vs.all Q1=true:=by rfl)(hd:Q8 vs=true:=by rfl)(hf:Nat.ble (f+n) k=true:=by rfl):
  J1 P o env H (H.set b (.row T k (l'.map e))):=by
 refine Qh5 q hx hH hs g (jG (JL h).2) hy hk hv hn hp hd hf j ?_
 grind[JF,List.map_set]
end
def ZR(a:A)(v:AL):Prop:=∀ro σ w,VR ro σ w a v
def ZL(az:AA A)(l:AA AL):Prop:=∀ro σ w,LR ro σ w az l
theorem ZR.int{k:IntKind}{n:Int}:ZR (.int k n) (.int k n):=λ_ _ _=>rfl
theorem ZR.bool{b:Bool}:ZR (.bool b) (.bool b):=λ_ _ _=>rfl
theorem ZR.str:ZR (.str []) (.string ⟨#[]⟩):=λ_ _ _=>rfl
theorem ZR.rsl{α:Type}{k:Nat}{e:α->AA A}:ZR (.rsl k (List.map e [])) (.slice AF 0 0):=λ_ _ _=>⟨AF,0,rfl,XU _,.inl rfl⟩
theorem ZR.nils:ZR .nils (.slice AF 0 0):=λ_ _ _=>rfl
theorem ZR.nilp:ZR .nilp (.pointer AF):=λ_ _ _=>rfl
theorem ZR.nilf:ZR .nilf .nilFunc:=λ_ _ _=>rfl
theorem ZR.nilm:ZR .nilm (.map AF):=λ_ _ _=>rfl
theorem QqE:ZR .nilif .nilIface:=λ_ _ _=>rfl
theorem ZL.nil:ZL [] []:=λ_ _ _=>rfl
variable {az:AA A}
theorem ZL.cons{a:A}{v:AL}{l:AA AL}(h:ZR a v)(k:ZL az l):ZL (a::az) (v::l):=λro σ w=>⟨v,l,rfl,h ro σ w,k ro σ w⟩
theorem ZR.agg{az:AA A}{l:AA AL}(h:ZL az l):ZR (.agg az) (.agg l.toArray):=λro σ w=>⟨l,rfl,h ro σ w⟩
section
variable {P:AK} {o:AM} {env:Env} {H:Qb}
theorem fX{t:Nat}{z:AL}{v:A}{d:AA A}(q:∀w,(zeroValue t).run P w=.ok z w)(h:ZR v z)(m:o.op=.alloc t:=by rfl)(hk:QT v=true:=by rfl)(hcs:QU v=d:=by rfl)(hpl:d.all Q1=true:=by rfl):
  Fb P o env H (.ptr H.length 0) (H++[.cells t d]):=by
 intro x f σ N a w r;obtain⟨l,j,g⟩:=(h f σ w).cells hk;subst hcs;refine⟨.pointer (AC ⟨w.heap.size,0,AF⟩),w.alloc (.cells l.toArray t),f,[AC w.heap.size],?_,⟨w.heap.size,?_,rfl⟩,r.sim.allocCells g (g.plain hpl),Qe.alloc _ r.sim.roLt r.sim.frLt⟩
 .have e:(newVar t z).run P w=.ok ⟨w.heap.size,0,AF⟩ (w.alloc (.cells l.toArray t)):=by
   unfold newVar;rw[j];rfl
  simp_all[execOp,Instr.alloc]
 .rw[<- r.sim.len];simp
theorem Qj9{p q:Bool}(f:∀w,(underlying t).run P w=.ok .bool w):(Op.equal t (.bool p) (.bool q)).run P w=.ok (p==q) w:=by
 have k:∀d,(Op.equalIn (d+1) t (.bool p) (.bool q)).run P w=.ok (p==q) w:=by
  simp[Op.equalIn,f]
 exact k 9999
theorem Qkq{x y:Operand}{p q:Bool}(f:∀w,(underlying t).run P w=.ok .bool w)(g:o.op=.binOp .neq t x y u:=by rfl)(hx:CS env x=.bool p:=by rfl)(hy:CS env y=.bool q:=by rfl):CY P o env H (.bool (p != q)):=by
 intro m j σ N a w r;have d:=jS r hx;have h:=jS r hy;refine⟨_,?_,rfl⟩
 simp_all[execOp,Go.binOp,eqGuard,Qj9,bne]
theorem wU{x y:Operand}{s:AA UInt8}{k:IntKind}{i:Int}{c:UInt8}(h:CN s i=AC c)(d:∀w,(underlying t).run P w=.ok .string w)(f:o.op=.index t x y:=by rfl)(hx:CS env x=.str s:=by rfl)(hy:CS env y=.int k i:=by rfl):
  CY P o env H (.int .u8 c.toNat):=QmP f d hx hy (JL h).1 (JL h).2
theorem QmT{c:Call}{t d i n:Nat}{x:Operand}(f:∀w,(underlying t).run P w=.ok (.slice d) w)(g:o.op=.call c:=by rfl)(hc:c={callee:=.builtin .len,args:= #[x],argTypes:= #[t]}:=by rfl)
  (hx:CS env x=.osl i 0 n k:=by rfl):CY P o env H (.int .i64 n):=Qo5 g hc f hx
end
def Q9(k:IntKind)(n:Int):AA A:=[.int k n]
def JG(b:Bool):AA A:=[.bool b]
def JY(s:AA UInt8):AA A:=[.str s]
def QC(k:Nat)(e:α->AA A)(l:AA α):AA A:=[.rsl k (l.map e)]
theorem uX{o:AM}{a:Act}{next:Act->AJ->Prop}{g:Result Next}
  (hn:∀a' w',next a' w'->a'.defers=a.defers)(h:o.uponIn (WF rd) 0 P a next Q g):
  o.uponIn (WF rd) 0 P a (λa' w'=>next a' w'/\ ∃v,a'=a.put o.dst v) Q g:=by
 cases g with
 |ok n w'=>
  cases n with
  |value v=>exact⟨h,_,rfl⟩
  |skip=>exact⟨h,_,rfl⟩
  |defer d=>
   have:=congrArg List.length (hn _ _ h)
   revert this
   cases o.dst<;>simp[Act.put]
  |enter f j=>
   exact⟨h.1,CallsIn.mono h.2 gq⟩
  |row r j=>exact⟨h.1,RowsIn.mono h.2 gq⟩
  |round l f q assign m=>exact⟨h.1,RoundIn.mono h.2 gq⟩
  |_=>exact h.elim
 |halt x w'=>cases x<;>first|exact h|exact h.elim
def YE(e:Env)(H:Qb):Qx:=λx e' H'=>x=.normal/\e'=e/\H'=H
theorem YE.mk{e:Env}{H:Qb}:YE e H .normal e H:=⟨rfl,rfl,rfl⟩
inductive Sb (af bf ds:List Nat) (xs:List A) (env0:Env):Env->Prop
 |nil:Sb af bf ds xs env0 []
 |dep (j:Nat) {s:Nat} {a:A} {r:Env} (h1:af.contains j=AE) (h2:ds[j]?=AC s) (h3:xs[j]?=AC a) (k:Sb af bf ds xs env0 r):Sb af bf ds xs env0 ((s,a)::r)
 |old {s:Nat} {a:A} {r:Env} (h1:ds.contains s=AD) (h2:lk env0 s=a) (k:Sb af bf ds xs env0 r):Sb af bf ds xs env0 ((s,a)::r)
 |pre (j:Nat) {s:Nat} {a:A} {r:Env} (h1:bf.contains j=AE) (h2:ds[j]?=AC s) (h3:lk env0 s=a) (k:Sb af bf ds xs env0 r):Sb af bf ds xs env0 ((s,a)::r)
def Qc(o:AM):AA Nat:=(o.after.toList.filter (Region.binds .any)).map (·.on)
def OJ(l:AA AM)(i:Nat):AA Nat:=(List.range l.length).filter λj=>((l[j]?).map Qc).getD [] |>.contains i
inductive OL (P:AK) (N:Nat) (l:List AM) (ds:List Nat) (xs:List A) (env0:Env) (i:Nat) (H H':Qb):Prop
 |mk (o:AM) (e:Env) (d:Nat) (x:A) (ho:l[i]?=AC o) (hd:o.dst=AC d) (hx:xs[i]?=AC x) (hs:Sb (Qc o) (OJ l i) ds xs env0 e)
   (h:WO P H.length N l.toArray [o] e H (YE (up e d x) H')):OL P N l ds xs env0 i H H'
variable {env0:Env}
theorem OL.use{l:AA AM}{O:AA Nat}{xs:AA A}{i:Nat}{H:Qb}(B:OL P N l O xs env0 i H H'){K:Act->AJ->Prop}{a:Act}{o:AM}(ho:l[i]?=AC o)
  (y:Cm fr ro σ H w)(hN:a.tmps.size=N)(M:I2 fr a.defers w)(aa:HU rd fr w)
  (hD:∀j∈Qc o,∀s x,O[j]?=AC s->xs[j]?=AC x->VR ro σ w x (a.tmps.getD s undef))
  (hE:∀s,O.contains s=AD->VR ro σ w (lk env0 s) (a.tmps.getD s undef))(hP:∀j s,(OJ l i).contains j=AE->O[j]?=AC s->VR ro σ w (lk env0 s) (a.tmps.getD s undef))
  (hK:∀v w' ro' τ d x,o.dst=AC d->xs[i]?=AC x->VR ro' (σ++τ) w' x ((a.put o.dst v).tmps.getD d undef)->Cm fr ro' (σ++τ) H' w'->Qe fr ro w ro' w'->K (a.put o.dst v) w'):
  wpOpIn (WF rd) 0 P l.toArray Q i K a w:=by
 obtain⟨F,e,d,x,W,hd,hx,hs,h⟩:=B;obtain rfl:F=o:=X0 (W.symm.trans ho);have L:DT fr ro σ H e N a w:=by
  refine⟨y,?_,hN,M⟩;intro s;clear h
  induction hs with
  |nil=>exact trivial
  | @dep j s1 E r m g h3 _ ih=>
   unfold lk;cases B:Nat.beq s s1 with
   |false=>exact ih
   |true=>
    obtain rfl:=XR B
    grind
  | @old s1 E r m g _ ih=>
   unfold lk;cases B:Nat.beq s s1 with
   |false=>exact ih
   |true=>
    obtain rfl:=XR B
    grind
  | @pre j s1 E r m g h3 _ ih=>
   unfold lk;cases B:Nat.beq s s1 with
   |false=>exact ih
   |true=>
    obtain rfl:=XR B
    grind
 have J:=h rd fr ro σ a w L aa;have fin:∀v w',IS H.length fr ro σ w N a.defers (YE (up e d x) H') .normal (a.put F.dst v) w'->K (a.put F.dst v) w':=by
  rintro v w' ⟨_,ab,H2,ro',σ',ad,_,⟨_,rfl,rfl⟩,r',t,ht,_,V⟩;have hσ:σ'=σ++σ'.drop H.length:=by
   conv=>lhs;rw[<- XA H.length σ']
   rw[ht, <- y.len,Vc]
  have R:=r'.env d;unfold lk at R;rw[VI]at R;rw[hσ]at R;refine hK v w' ro' (σ'.drop H.length) d x hd hx R ?_ t;rw[<- hσ];exact r'.sim.frMono V.sub
 unfold wpOpIn;have Y:l.toArray[i]?=AC F:=by simpa using ho
 rw[Y];simp only;unfold Fc wpListIn at J;split at J
 .rename_i hw;rw[Vv hw];obtain⟨T,J⟩:=J;refine⟨T,?_⟩;have g:=uX (by
   intro a' w' q;unfold wpListIn at q;obtain⟨_,_,_,_,_,_,_,_,_,_,_,q,_⟩:=q;exact q) J
  generalize(F.semAt (WF rd).round a.eval).run P w=res at*;cases res with
  |ok n w'=>
   cases n with
   |value v=>exact fin _ _ g.1
   |skip=>exact fin _ _ g.1
   |defer df=>
    exfalso;obtain⟨⟨_,_,_,_,_,_,_,_,_,_,_,q,_⟩,_⟩:=g;have:=congrArg List.length q
    revert this
    cases F.dst<;>simp[Act.put]
   |enter f G=>
    refine⟨g.1,CallsIn.mono g.2 (λe X t=>?_)⟩;cases e with
    |returned v=>exact fin _ _ t.1
    |panicked c=>obtain⟨E,_,_,_,_,_,m,⟨rfl,_⟩,_⟩:=t;exact m.elim
    |outgrown=>obtain⟨a1,w1,E,_,_,_,_,_,m,⟨rfl,_⟩,_⟩:=t;exact m.elim
   |row r G=>
    exact⟨g.1,RowsIn.mono g.2 (λ_ _ t=>fin _ _ t.1)⟩
   |round l f tmps assign ac=>
    refine⟨g.1,RoundIn.mono g.2 (λe X t=>?_)⟩;cases e with
    |returned v=>exact fin _ _ t.1
    |panicked c=>obtain⟨E,_,_,_,_,_,m,⟨rfl,_⟩,_⟩:=t;exact m.elim
    |outgrown=>obtain⟨a1,w1,E,_,_,_,_,_,m,⟨rfl,_⟩,_⟩:=t;exact m.elim
   |_=>exact g.elim
  |halt x w'=>
   cases x with
   |panic v=>obtain⟨E,_,_,_,_,_,m,⟨rfl,_⟩,_⟩:=g;exact m.elim
   |_=>exact g.elim
 simp_all[wpListIn]
theorem cU{p:Nat->Prop}(d:∀i,p i\/ ¬p i):∀n,p n->∃i,i<=n/\p i/\ ∀j,j<i->¬p j:=by
 intro n
 induction n using Nat.strongRecOn with
 |ind n f=>
  grind
def FF(L:Array Bool)(i:Nat):Prop:=L[i]?=AC AE
variable {L:Array Bool}
theorem aU{l:AA AM}(hs:L.size=l.length){i:Nat}:
  i∈Region.ready .any l.toArray L↔ ∃o,l[i]?=AC o/\ ¬FF L i/\ ∀j∈Qc o,FF L j:=by
 unfold Region.ready;simp only[Xd,List.mem_range,XX,XH];have g:∀j,L.getD j AD=AE↔FF L j:=by
  intro j;unfold FF;rw[Array.getD_eq_getD_getElem?]
  grind
 constructor
 .rintro⟨f,m,d⟩;refine⟨l[i],sq,?_,?_⟩
  .grind
  .rw[XL f]at d;simp only[Xj,Option.getD_some,Array.all_eq_true']at d;intro j h;unfold Qc at h
   grind
 .rintro⟨o,f,m,d⟩;have q:i<l.length:=gq;refine⟨q,?_,?_⟩
  .grind
  .rw[f];simp only[Xj,Option.getD_some,Array.all_eq_true'];intro e t;cases x:Region.binds .any e with
   |false=>simp
   |true=>
    have:=(g _).2 (d e.on (by unfold Qc;grind))
    grind
theorem JI{i j:Nat}(hi:i<L.size):FF (L.setIfInBounds i AE) j↔j=i\/FF L j:=by
 grind[FF]
def Nl(L:Array Bool):Nat:=L.toList.countP (!·)
theorem nI{i:Nat}(hi:i<L.size)(h:¬FF L i):Nl (L.setIfInBounds i AE)+1=Nl L:=by
 unfold Nl;have d:L.toList[i]=false:=by
  grind[FF]
 grind
theorem tn{i:Nat}(hi:i<L.size)(h:¬FF L i):0<Nl L:=by have:=nI hi h;omega
inductive NY (l:List AM) (m:Nat):Nat->Prop
 |one {o:AM} {j:Nat} (ho:l[m]?=AC o) (hj:j∈Qc o):NY l m j
 |step {o:AM} {i j:Nat} (h:NY l m i) (ho:l[i]?=AC o) (hj:j∈Qc o):NY l m j
def eZ(l:AA AM):Nat->AA Nat->AA Nat
 |0,S=>S
 |j+1,S=>eZ l j (bif S.contains j then S++(match l[j]? with|some o=>Qc o|none=>[])else S)
theorem jY{l:AA AM}{m:Nat}:∀(n:Nat) (S:AA Nat),(∀j∈S,NY l m j)->∀j∈eZ l n S,NY l m j
 |0,S,h,j,hj=>h j hj
 |n+1,S,h,j,hj=>by
  refine jY n _ ?_ j hj;intro i hi;cases q:S.contains n with
  |false=>grind
  |true=>
   rw[q]at hi;rcases VG.1 hi with z|z
   .exact h i z
   .cases ho:l[n]? with
    |none=>grind
    |some o=>rw[ho]at z;exact .step gq ho z
def IT(ds:AA Nat)(xs:AA A)(env0:Env):Env:=ds.zip xs++env0
theorem QpS{f:AA Nat}{xs:AA A}(hl:f.length=xs.length)(s:Nat):
  (∃(j:Nat) (x:A),f[j]?=AC s/\xs[j]?=AC x/\lk (IT f xs env0) s=x)\/(f.contains s=AD/\lk (IT f xs env0) s=lk env0 s):=by
 unfold IT
 induction f generalizing xs with
 |nil=>simp
 |cons d f m=>
  cases xs with
  |nil=>simp at hl
  |cons x xs=>
   simp[X3,Nat.add_right_cancel_iff]at hl;simp only[List.zip_cons_cons,VN,lk];cases h:Nat.beq s d with
   |true=>
    obtain rfl:=XR h;left;exact⟨0,x,rfl,rfl,sq⟩
   |false=>
    have g:s≠d:=λq=>by simp_all
    rcases m hl with⟨j,y,B,t,E⟩|⟨B,t⟩
    .left;exact⟨j+1,y,gq,gq,gq⟩
    grind
def C6.nodupB:AA Nat->Bool
 |[]=>AE
 |x::r=> !r.contains x&&C6.nodupB r
def C6.goB(l:AA AM)(m:Nat):Nat->AA AM->Bool
 |_,[]=>AE
 |i,o::r=>(Qc o).all (λj=>Nat.blt j i)&&(bif Nat.beq i m then(List.range m).all (λj=>(eZ l m (Qc o)).contains j)else bif Nat.blt m i then(Qc o).contains (i-1)else AE)&&C6.goB l m (i+1) r
def C6.loB(m k:Nat)(los:AA Nat)(hs:AA Bool):Nat->AA AM->Bool
 |_,[]=>(List.range k).all λj=>(List.range m).any λi=>hs.getD i AD&&Nat.beq (los.getD i 0) j
 |i,o::r=>(bif Nat.blt i m then
   (Nat.beq (los.getD i 0) 0||(Qc o).any (λj=>Nat.blt j m&&Nat.ble (los.getD i 0) (los.getD j 0+(if hs.getD j AD then 1 else 0))))
   &&(!hs.getD i AD||(Nat.blt (los.getD i 0) k&&(List.range m).all (λj=> !hs.getD j AD|| !Nat.beq (los.getD i 0) (los.getD j 0)||Nat.beq i j)))
  else AE)&&C6.loB m k los hs (i+1) r
def C6(l:AA AM)(m k N:Nat)(ds los:AA Nat)(hs:AA Bool):Bool:=
 Nat.ble m l.length&&(ds.length==m)&&(l.take m).map (·.dst)==ds.map AC&&ds.all (λd=>Nat.blt d N)&&C6.nodupB ds
 &&C6.goB l m 0 l&&(C6.loB m k los hs 0 l)
theorem wr{f:AA Nat}(h:C6.nodupB f=AE):∀(i j d:Nat),f[i]?=AC d->f[j]?=AC d->i=j:=by
 induction f with
 |nil=>simp
 |cons x r g=>
  simp[C6.nodupB,XX]at h
  grind
theorem ug{l:AA AM}:∀(r:AA AM) (b:Nat),C6.goB l m b r=AE->∀(i:Nat) (o:AM),r[i]?=AC o->
  (∀j∈Qc o,j<b+i)/\(b+i=m->∀j,j<m->j∈eZ l m (Qc o))/\(m<b+i->b+i-1∈Qc o):=by
 intro r
 induction r with
 |nil=>simp
 |cons x r t=>
  intro b h i o g;simp only[C6.goB]at h;cases i with
  |zero=>
   simp at g;refine⟨λj f=>?_,λd j f=>?_,λd=>?_⟩
   .simp_all
   .simp_all
   .have y:Nat.beq b m=false:=by
     cases q:Nat.beq b m with
     |false=>rfl
     |true=>simp_all
    have B:Nat.blt m b=true:=by simp_all
    grind
  |succ i=>
   grind
inductive Ob (P:AK) (N:Nat) (l:List AM) (ds:List Nat) (xs:List A) (env0:Env):Nat->List (List (Qb×Qb))->Prop
 |nil {i:Nat}:Ob P N l ds xs env0 i []
 |cons {i:Nat} {s:List (Qb×Qb)} {r:List (List (Qb×Qb))} (h:∀p∈s,OL P N l ds xs env0 i p.1 p.2) (k:Ob P N l ds xs env0 (i+1) r):Ob P N l ds xs env0 i (s::r)
theorem Ob.get{l:AA AM}{d:AA Nat}{xs:AA A}{b:Nat}{f:AA (AA (Qb×Qb))}(h:Ob P N l d xs env0 b f):
  ∀(i:Nat) (s:AA (Qb×Qb)),f[i]?=AC s->∀p∈s,OL P N l d xs env0 (b+i) p.1 p.2:=by
 induction h with
 |nil=>simp
 | @cons b1 s1 r1 h _ ih=>
  grind
theorem Ob.st0{l:AA AM}{d:AA Nat}{xs:AA A}{i:Nat}:∀p∈([]:AA (Qb×Qb)),OL P N l d xs env0 i p.1 p.2:=by
 simp
theorem Ob.stC{l:AA AM}{d:AA Nat}{xs:AA A}{i:Nat}{H:Qb}{r:AA (Qb×Qb)}(h:OL P N l d xs env0 i H H')
  (k:∀p∈r,OL P N l d xs env0 i p.1 p.2):∀p∈(H,H')::r,OL P N l d xs env0 i p.1 p.2:=by
 grind
theorem E_.nil{H:Qb}:E_ H [] []:=trivial
theorem E_.cons{H:Qb}{d f:AA A}{a b:A}(e:az=a::d)(h:fp H a b)(k:E_ H d f):E_ H az (b::f):=by subst e;exact⟨h,k⟩
section
variable {P:AK} {o:AM} {env:Env} {H:Qb} {α:Type} {e:α->AA A}
theorem Qo6{t d:Nat}{x y:Operand}{l:AA α}{i:Int}{v:α}{f:AA A}(h:CN l i=AC v)(he:e v=f)(g:∀w,(underlying t).run P w=.ok (.slice d) w)(hs:∀w,(sizeOf d).run P w=.ok k w)
  (j:o.op=.indexAddr t x y:=by rfl)(hx:CS env x=.rsl k (l.map e):=by rfl)(hy:CS env y=.int kk i:=by rfl):CY P o env H (.rp f):=
 he▸T5 h g hs j hx hy
end
inductive PL (P:AK):List Field->List (Nat×Nat)->Prop
 |nil:PL P [] []
 |cons {f:Field} {n:Nat} {fs:List Field} {pl:List (Nat×Nat)} (h:∀w,(sizeOf f.type).run P w=.ok n w) (k:PL P fs pl):PL P (f::fs) ((f.offset,n)::pl)
theorem PL.run{P:AK}{fs:AA Field}{pl:AA (Nat×Nat)}(h:PL P fs pl):∀w,(fs.mapM λf=>(do pure (f.offset, <- sizeOf f.type):Sem (Nat×Nat))).run P w=.ok pl w:=by
 induction h with
 |nil=>intro w;rfl
 |cons h _ ih=>
  simp_all
structure Sc (P:AK) (t:TypeId) (pl:List (Nat×Nat)):Prop where
 un:∃fs:List Field,(∀w,(underlying t).run P w=.ok (.struct fs.toArray) w)/\PL P fs pl
section
variable {P:AK} {o:AM} {env:Env} {H:Qb}
def SW(env:Env)(pl:AA (Nat×Nat)):AA A->AA (Nat×Operand)->AB (AA A)
 |cs,[]=>AC cs
 |cs,(i,x)::r=>match pl[i]? with
  |none=>AF
  |some (off,size)=>bif QT (CS env x)&&Nat.beq (QU (CS env x)).length size&&Nat.ble (off+size) cs.length then SW env pl (splice cs off (QU (CS env x))) r else AF
theorem nw{fr ro:Nat->Prop}{σ:Cp}{N:Nat}{a:Act}{w:AJ}(r:DT fr ro σ H env N a w){pl:AA (Nat×Nat)}:∀(parts:AA (Nat×Operand)) (d:AA A) (l:AA AL) (cs':AA A),
  LR ro σ w d l->SW env pl d parts=AC cs'->
  ∃l',Instr.fill (pl.toArray[·]?) l.toArray (parts.map λp=>(p.1,a.eval p.2))=AC l'.toArray/\LR ro σ w cs' l'
 |[],d,l,cs',h,q=>by
  cases q;exact⟨l,rfl,h⟩
 |(i,x)::rest,d,l,cs',h,q=>by
  unfold SW at q;cases hp:pl[i]? with
  |none=>grind
  |some p=>
   obtain⟨off,size⟩:=p;rw[hp]at q;simp at q;cases hc:(QT (CS env x)&&Nat.beq (QU (CS env x)).length size&&Nat.ble (off+size) d.length)with
   |false=>grind
   |true=>
    rw[hc]at q;simp[XX]at hc;obtain⟨⟨c1,c2⟩,c3⟩:=hc;obtain⟨m,q1,q2⟩:=(Qm r x).cells c1;have hm:m.length=size:=by rw[q2.length];simp_all
    have hl:=h.length;obtain⟨l',g,f⟩:=nw r rest _ (splice l off m) cs' (h.splice off q2) q
    grind[vb,Nat.le_of_ble_eq_true]
theorem CY.build{t:TypeId}{z:AL}{zs d:AA A}{pl:AA (Nat×Nat)}{parts:AA (Nat×Operand)}(E:∀w,(zeroValue t).run P w=.ok z w)(m:ZR (.agg zs) z)(g:Sc P t pl)
  (h:o.op=.build t parts.toArray:=by rfl)(hf:SW env pl zs parts=AC d:=by rfl):CY P o env H (.agg d):=by
 intro L y σ N a w r;obtain⟨J,B,q⟩:=g.un;obtain⟨l,rfl,x⟩:=m y σ w;obtain⟨f,j,G⟩:=nw r parts zs l d x hf;refine⟨.agg f.toArray,?_,f,rfl,G⟩;have F:=q.run w;simp only[execOp,h,Instr.build,Vp,E,Result.andThen,B,XJ,List.mapM_toArray,Sem.run_map,F,Value.cells,j,Vq]
end
def nz(n:Int):AB Unit:=bif n==0 then AF else AC ()
section
variable {P:AK} {o:AM} {env:Env} {H:Qb}
theorem wS{x:Operand}{a:A}(j:o.op=.nilCheck x)(hx:CS env x=a:=by rfl)(hk:(match a with|.ptr _ _=>AE|.rp _=>AE|_=>AD)=true:=by rfl):CY P o env H a:=by
 intro q m σ N ac w r;have h:=Qm r x;rw[hx]at h;cases a<;>first|(cases hk)|skip
 .obtain⟨b,g,f⟩:=h;refine⟨_,?_,b,g,rfl⟩
  simp_all[execOp]
 .obtain⟨b,d,g,f⟩:=h;refine⟨_,?_,b,d,rfl,f⟩
  simp_all[execOp]
end
mutual
def FC(i k:Nat)(es:AA (AA A)):A->A->Prop
 |.agg az,b=>∃bs,b=.agg bs/\GV i k es az bs
 |.fn f x c,b=>∃x' c',b=.fn f x' c'/\GV i k es x x'/\GV i k es c c'
 |.iface t a,b=>∃a',b=.iface t a'/\FC i k es a a'
 |.tup az,b=>∃bs,b=.tup bs/\GV i k es az bs
 |.osl j o n k',b=>b=.osl j o n k'\/(j=i/\o=0/\k'=k/\n=es.length/\b=.rsl k es)
 |.nils,b=>b=.nils\/ ∃k',b=.rsl k' []
 |a,b=>b=a
def GV(i k:Nat)(es:AA (AA A)):AA A->AA A->Prop
 |[],b=>b=[]
 |a::az,b=>∃a' as',b=a'::as'/\FC i k es a a'/\GV i k es az as'
end
mutual
theorem FC.refl{i k:Nat}{es:AA (AA A)}:∀a:A,FC i k es a a
 |.agg az=>⟨az,rfl,GV.refl az⟩
 |.fn _ x c=>⟨x,c,rfl,GV.refl x,GV.refl c⟩
 |.iface _ a=>⟨a,rfl,FC.refl a⟩
 |.tup az=>⟨az,rfl,GV.refl az⟩
 |.osl _ _ _ _=>.inl rfl
 |.nils=>.inl rfl
 |.any=>rfl
 |.bool _=>rfl
 |.int _ _=>rfl
 |.str _=>rfl
 |.nilp=>rfl
 |.ptr _ _=>rfl
 |.rp _=>rfl
 |.rsl _ _=>rfl
 |.nilf=>rfl
 |.nilif=>rfl
 |.map _=>rfl
 |.nilm=>rfl
theorem GV.refl{i k:Nat}{es:AA (AA A)}:∀az:AA A,GV i k es az az
 |[]=>rfl
 |a::az=>⟨a,az,rfl,FC.refl a,GV.refl az⟩
end
theorem FC.agg{i k:Nat}{es:AA (AA A)}{az bs:AA A}(h:GV i k es az bs):FC i k es (.agg az) (.agg bs):=⟨bs,rfl,h⟩
theorem FC.tup{i k:Nat}{es:AA (AA A)}{az bs:AA A}(h:GV i k es az bs):FC i k es (.tup az) (.tup bs):=⟨bs,rfl,h⟩
theorem FC.iface{i k:Nat}{es:AA (AA A)}{t:Nat}{a b:A}(h:FC i k es a b):FC i k es (.iface t a) (.iface t b):=⟨b,rfl,h⟩
theorem FC.own{i n:Nat}(hn:n=es.length):FC i k es (.osl i 0 n k) (.rsl k es):=.inr gq
theorem FC.nil{i k':Nat}:FC i k es .nils (.rsl k' []):=.inr ⟨k',rfl⟩
theorem GV.cons{i:Nat}{a b:A}{bs:AA A}(h:FC i k es a b)(q:GV i k es az bs):GV i k es (a::az) (b::bs):=⟨b,bs,rfl,h,q⟩
mutual
theorem me{i k:Nat}{es:AA (AA A)}{ro ro':Nat->Prop}{σ:Cp}{w:AJ}(ext:Dh ro σ w ro' σ w)
  (hf:∀v,VR ro σ w (.osl i 0 es.length k) v->VR ro' σ w (.rsl k es) v):∀(a b:A) (v:AL),FC i k es a b->VR ro σ w a v->VR ro' σ w b v
 |.agg az,b,v,h,q=>by
  obtain⟨bs,rfl,h⟩:=h;obtain⟨l,rfl,q⟩:=q;exact⟨l,rfl,aB ext hf az bs l h q⟩
 |.fn f x c,b,v,h,q=>by
  obtain⟨x',c',rfl,h1,h2⟩:=h;obtain⟨l,l',rfl,q1,q2⟩:=q;exact⟨l,l',rfl,aB ext hf x x' l h1 q1,aB ext hf c c' l' h2 q2⟩
 |.iface t a,b,v,h,q=>by
  obtain⟨a',rfl,h⟩:=h;obtain⟨x,rfl,q⟩:=q;exact⟨x,rfl,me ext hf a a' x h q⟩
 |.tup az,b,v,h,q=>by
  obtain⟨bs,rfl,h⟩:=h;obtain⟨l,rfl,q⟩:=q;exact⟨l,rfl,aB ext hf az bs l h q⟩
 |.osl j o n k',b,v,h,q=>by
  rcases h with rfl|⟨rfl,rfl,rfl,rfl,rfl⟩
  .exact q.mono ext
  .exact hf v q
 |.nils,b,v,h,q=>by
  rcases h with rfl|⟨k',rfl⟩
  .exact q
  .obtain rfl:v=.slice AF 0 0:=q;exact⟨AF,0,rfl,XU _,.inl rfl⟩
 |.any,b,v,h,q=>by obtain rfl:b=_:=h;trivial
 |.bool _,b,v,h,q=>by obtain rfl:b=_:=h;exact q
 |.int _ _,b,v,h,q=>by obtain rfl:b=_:=h;exact q
 |.str _,b,v,h,q=>by obtain rfl:b=_:=h;exact q
 |.nilp,b,v,h,q=>by obtain rfl:b=_:=h;exact q
 |.ptr _ _,b,v,h,q=>by obtain rfl:b=_:=h;exact q.mono ext
 |.rp _,b,v,h,q=>by obtain rfl:b=_:=h;exact q.mono ext
 |.rsl _ _,b,v,h,q=>by obtain rfl:b=_:=h;exact q.mono ext
 |.nilf,b,v,h,q=>by obtain rfl:b=_:=h;exact q
 |.nilif,b,v,h,q=>by obtain rfl:b=_:=h;exact q
 |.map _,b,v,h,q=>by obtain rfl:b=_:=h;exact q.mono ext
 |.nilm,b,v,h,q=>by obtain rfl:b=_:=h;exact q
theorem aB{i k:Nat}{es:AA (AA A)}{ro ro':Nat->Prop}{σ:Cp}{w:AJ}(ext:Dh ro σ w ro' σ w)
  (hf:∀v,VR ro σ w (.osl i 0 es.length k) v->VR ro' σ w (.rsl k es) v):∀(az bs:AA A) (l:AA AL),GV i k es az bs->LR ro σ w az l->LR ro' σ w bs l
 |[],bs,l,h,q=>by obtain rfl:bs=[]:=h;exact q
 |a::az,bs,l,h,q=>by
  obtain⟨a',as',rfl,h1,h2⟩:=h;obtain⟨v,l',rfl,q1,q2⟩:=q;exact⟨v,l',rfl,me ext hf a a' v h1 q1,aB ext hf az as' l' h2 q2⟩
end
def fy(i k:Nat)(es:AA (AA A))(x y:Ci):Prop:=y=x\/ ∃t cs cs',x=.cells t cs/\y=.cells t cs'/\GV i k es cs cs'
def GO(i k:Nat)(es:AA (AA A)):Qb->Qb->Prop
 |[],h=>h=[]
 |x::r,h=>∃y r',h=y::r'/\fy i k es x y/\GO i k es r r'
def Iy(i k:Nat)(es:AA (AA A))(env:Env):Env->Prop
 |[]=>True
 |(s,a)::r=>FC i k es (lk env s) a/\Iy i k es env r
theorem GO.nil{i:Nat}:GO i k es [] []:=rfl
theorem GO.keep{i:Nat}{x:Ci}{r r':Qb}(h:GO i k es r r'):GO i k es (x::r) (x::r'):=⟨x,r',rfl,.inl rfl,h⟩
theorem GO.cells{i k t:Nat}{es:AA (AA A)}{cs cs':AA A}{r r':Qb}(q:GV i k es cs cs')(h:GO i k es r r'):GO i k es (.cells t cs::r) (.cells t cs'::r'):=⟨_,r',rfl,.inr gq,h⟩
theorem GO.get{i k:Nat}{es:AA (AA A)}:∀{H H':Qb},GO i k es H H'->∀(j:Nat) (y:Ci),H'[j]?=AC y->∃x,H[j]?=AC x/\fy i k es x y
 |[],_,h,j,y,q=>by obtain rfl:_=[]:=h;simp at q
 |x::r,_,h,j,y,q=>by
  obtain⟨y',r',rfl,h1,h2⟩:=h;cases j with
  |zero=>grind
  |succ j=>obtain⟨x',p1,p2⟩:=h2.get j y q;grind
theorem GO.len{i k:Nat}{es:AA (AA A)}:∀{H H':Qb},GO i k es H H'->H'.length=H.length
 |[],_,h=>by obtain rfl:_=[]:=h;rfl
 |x::r,_,h=>by obtain⟨y',r',rfl,h1,h2⟩:=h;simp[h2.len]
theorem fy.live{i k:Nat}{es:AA (AA A)}{x y:Ci}(h:fy i k es x y):y.live=x.live:=by
 rcases h with rfl|⟨t,f,d,rfl,rfl,_⟩<;>rfl
theorem mY{H:Qb}{O i t:Nat}(ov:Env)(hi:Nat.ble O i=AE)(hH:H[i]?=AC (.row t k es))(P:Iy i k es env ov)(F:GO i k es (H.set i .dead) H'):Le O env H (ov++env) H':=by
 intro fr M σ N a w r
 let ro':Nat->Prop:=λb=>M b\/σ[i]?=AC (AC b)
 have hown:=λb h=>r.sim.own i b _ h hH rfl;have ext:Dh M σ w ro' σ w:=⟨λ_ q=>.inl q,λ_ _=>rfl,λ_ _ q=>q,λ_ _ q=>q⟩;have hf:∀v,VR M σ w (.osl i 0 es.length k) v->VR ro' σ w (.rsl k es) v:=by
  intro v h;rcases h with⟨O,h⟩|⟨b,p,J,t',m,f,h,g,⟨B,aa⟩,Y,R⟩
  .have:es=[]:=gq;subst this;exact⟨AF,0,h,XU _,.inl rfl⟩
  .refine⟨_,J,h,B,?_⟩;by_cases he:es=[]
   .exact .inl he
   .right;have hc:0<J:=Vi gq B;obtain rfl:=g hc;obtain⟨l,q1,q2⟩:=r.sim.blk i _ _ f hH;refine⟨b,0,sq,.inr f,?_⟩;have:=YV (pre:=[]) (by simpa using q1) q2;exact this.keep ⟨λ_ q=>.inl q,λ_ _=>rfl,λ_ _ q=>q,λ_ _ q=>q⟩ rfl
 have d:∀(j:Nat) (y:Ci),H'[j]?=AC y->y≠ .dead->j≠i/\ ∃x,H[j]?=AC x/\fy i k es x y:=by
  intro j y h W;obtain⟨x,f,g⟩:=F.get j y h;by_cases e:j=i
  .subst e;rw[Xb]at f;simp only[if_true]at f;split at f
   .cases f;rcases g with rfl|⟨_,_,_,q,_,_⟩
    .grind
    .cases q
   .simp at f
  grind
 refine⟨ro',σ,⟨⟨by rw[F.len,X6];exact r.sim.len,r.sim.roOk.to (λ_ q=>.inl q) (λ_ _=>rfl) ?_,r.sim.frLt,?_,?_,?_,?_⟩,?_,r.size,r.defers⟩,λ_ q=>.inl q,rfl⟩
 .rintro b (q|q)
  .exact r.sim.roLt b q
  grind
 .rintro b (q|q)
  .exact r.sim.roFr b q
  grind
 .intro j b v f g B;obtain⟨e,x,g,G⟩:=d j v g (Ci.nd B);have hx:x.live=true:=by rw[<- G.live];exact B
  obtain⟨L,E,p3⟩:=r.sim.own j b x f g hx;refine⟨L,?_,p3⟩;rintro(q|q)
  .exact E q
  .exact e (r.sim.inj j i b x _ f q g hH hx rfl)
 .intro j X b v v' f g B Y R h6;obtain⟨_,x,L,E⟩:=d j v B (Ci.nd R);obtain⟨_,x',V,Q⟩:=d X v' Y (Ci.nd h6);exact r.sim.inj j X b x x' f g L V (by rw[<- E.live];exact R) (by rw[<- Q.live];exact h6)
 .intro j s v f g;by_cases W:v≠ .dead
  .obtain⟨_,x,L,E⟩:=d j v g W;have G:=r.sim.blk j s x f L;rcases E with rfl|⟨t,cs,T,rfl,rfl,q⟩
   .exact G.keep ext (λ_ _ _=>rfl)
   .cases s with
    |none=>exact G.elim
    |some b=>
     obtain⟨l,e1,e2,e3⟩:=G;exact⟨l,e1,aB ext hf cs T l q e2,e3⟩
  .obtain rfl:v=.dead:=Classical.not_not.1 W;trivial
 .intro s
  induction ov with
  |nil=>exact(r.env s).mono ext
  |cons p ov ih=>
   obtain⟨s1,a1⟩:=p;obtain⟨g1,g2⟩:=P;simp only[VN,lk];cases q:Nat.beq s s1 with
   |true=>
    obtain rfl:=XR q;exact me ext hf _ _ _ g1 (r.env s)
   |false=>exact ih g2
theorem Iy.nil{i:Nat}:Iy i k es env []:=trivial
theorem Iy.cons{i s:Nat}{a b:A}{r:Env}(h:lk env s=a)(q:FC i k es a b)(g:Iy i k es env r):Iy i k es env ((s,b)::r):=⟨h▸q,g⟩
def FM(P:AK)(env:Env)(H:Qb)(l:ResultVar)(x:A):Prop:=
 ∀fr ro σ N a w,DT fr ro σ H env N a w->∃v,((match l with
  |.tmp t=>pure (a.tmps.getD t undef)
  |.cell b t=>do loadVar t (<- asAddr (a.tmps.getD b undef)):Sem AL)).run P w=.ok v w/\VR ro σ w x v
def C'(P:AK)(env:Env)(H:Qb):AA ResultVar->AA A->Prop
 |[],xs=>xs=[]
 |l::ls,xs=>∃x xs',xs=x::xs'/\FM P env H l x/\C' P env H ls xs'
section
variable {P:AK} {fn:Func} {env:Env} {H:Qb}
theorem FM.tmp{t:Nat}{x:A}(hx:lk env t=x:=by rfl):FM P env H (.tmp t) x:=
 λfr ro σ N a w r=>⟨a.tmps.getD t undef,rfl,hx▸r.env t⟩
theorem FM.cell{b t:Nat}{p x:A}{j:AA A}(q:∀w,(isAgg t).run P w=.ok AD w)(f:Dn H p (x::j))(hx:lk env b=p:=by rfl):FM P env H (.cell b t) x:=by
 intro m h σ N a w r;have d:=r.env b;rw[hx]at d;obtain⟨F,g,B,⟨y,G,_,E⟩,_⟩:=f m h σ w _ r.sim d
 simp_all[asAddr,loadVar]
theorem wZ{b t n:Nat}{p:A}{d:AA A}(y:∀w,(isAgg t).run P w=.ok AE w)(hs:∀w,(sizeOf t).run P w=.ok n w)(g:Dn H p d)(hx:lk env b=p:=by rfl)(hl:(d.take n).length=n:=by rfl):
  FM P env H (.cell b t) (.agg (d.take n)):=by
 intro x j σ N a w r;have f:=r.env b;rw[hx]at f;obtain⟨E,h,B,q⟩:=g x j σ w _ r.sim f;obtain⟨l,m,_,F⟩:=Yl (P:=P) 0 (by simpa using q.take n);refine⟨.agg l.toArray,?_,l,rfl,m⟩
 simp_all[asAddr,loadVar,loadCells]
theorem QP{b t n i:Nat}{d:AA A}(f:∀w,(isAgg t).run P w=.ok AE w)(hs:∀w,(sizeOf t).run P w=.ok n w)(hx:lk env b=.ptr i 0)(hH:H[i]?=AC (.cells T d))(hl:d.length=n):
  FM P env H (.cell b t) (.agg d):=by
 have:=wZ f hs (Dn.cells hH rfl) hx gq
 grind
theorem Yj{b t i:Nat}{x:A}(ha:∀w,(isAgg t).run P w=.ok AD w)(hx:lk env b=.ptr i 0)(hH:H[i]?=AC (.cells T [x])):FM P env H (.cell b t) x:=
 FM.cell ha (Dn.cells hH rfl) hx
theorem C'.nil:C' P env H [] []:=rfl
theorem C'.cons{l:ResultVar}{ls:AA ResultVar}{x:A}{xs:AA A}(h:FM P env H l x)(k:C' P env H ls xs):C' P env H (l::ls) (x::xs):=⟨x,xs,rfl,h,k⟩
theorem C'.run{fr ro:Nat->Prop}{σ:Cp}{N:Nat}{a:Act}{w:AJ}(r:DT fr ro σ H env N a w):∀{ls:AA ResultVar} {xs:AA A},C' P env H ls xs->
  ∃vs:AA AL,(ls.mapM λl=>(match l with
   |.tmp t=>pure (a.tmps.getD t undef)
   |.cell b t=>do loadVar t (<- asAddr (a.tmps.getD b undef)):Sem AL)).run P w=.ok vs w/\LR ro σ w xs vs
 |[],_,h=>by obtain rfl:_=[]:=h;exact⟨[],rfl,rfl⟩
 |l::ls,_,h=>by
  obtain⟨x,xs,rfl,h1,h2⟩:=h;obtain⟨v,e1,e2⟩:=h1 fr ro σ N a w r;obtain⟨vs,e3,e4⟩:=C'.run r h2;refine⟨v::vs,?_,v,vs,rfl,e2,e4⟩
  simp_all
theorem QF{ls:AA ResultVar}{xs:AA A}(h:fn.results=ls.toArray)(hn:Nat.beq ls.length 1=AD)(k:C' P env H ls xs):IA P fn env H (.tup xs):=by
 intro B y σ N a w r;obtain⟨vs,t,f⟩:=k.run r;have d:¬vs.length=1:=by
  have:∀{ls:AA ResultVar} {xs:AA A},C' P env H ls xs->xs.length=ls.length:=by
   intro ls
   induction ls with
   |nil=>intro xs h;obtain rfl:xs=[]:=h;rfl
   |cons l ls j=>intro xs h;obtain⟨x,g,rfl,_,m⟩:=h;simp[j m]
  rw[f.length,this k];intro q;simp_all
 refine⟨.tuple vs.toArray,?_,vs,rfl,f⟩;unfold results;rw[List.mapM_toArray,Vp,Sem.run_map]
 grind[Result.andThen,Sem.run_pure]
theorem YC{l:ResultVar}{x:A}(h:fn.results= #[l])(k:FM P env H l x):IA P fn env H x:=by
 intro g j σ N a w r;obtain⟨vs,f,d⟩:=(C'.cons k C'.nil).run r;obtain⟨v,_,rfl,d,rfl⟩:=d;refine⟨v,?_,d⟩;unfold results;rw[h,show #[l]=[l].toArray from rfl];rw[List.mapM_toArray,Vp,Sem.run_map]
 erw [f]
 rfl
end
mutual
def I1:A->Bool
 |.bool _=>AE
 |.int _ _=>AE
 |.str _=>AE
 |.agg cs=>L8 cs
 |_=>AD
def L8:AA A->Bool
 |[]=>AE
 |a::r=>I1 a&&L8 r
end
mutual
def QZ:A->AL
 |.bool b=>.bool b
 |.int k n=>.int k n
 |.str s=>.string ⟨s.toArray⟩
 |.agg cs=>.agg (YR cs).toArray
 |_=>.bool AD
def YR:AA A->AA AL
 |[]=>[]
 |a::r=>QZ a::YR r
end
mutual
theorem VR.val{ro:Nat->Prop}{σ:Cp}{w:AJ}:∀{a:A} {v:AL},I1 a=AE->VR ro σ w a v->v=QZ a
 |.bool _,_,_,h=>h
 |.int _ _,_,_,h=>h
 |.str _,_,_,h=>h
 |.agg cs,v,hs,h=>by
  obtain⟨l,rfl,h⟩:=h;rw[QZ,LR.val hs h]
theorem LR.val{ro:Nat->Prop}{σ:Cp}{w:AJ}:∀{az:AA A} {l:AA AL},L8 az=AE->LR ro σ w az l->l=YR az
 |[],l,_,h=>h
 |a::r,l,hs,h=>by
  obtain⟨v,l',rfl,h1,h2⟩:=h;simp only[L8,XX]at hs;rw[YR,VR.val hs.1 h1,LR.val hs.2 h2]
end
mutual
theorem oT{ro:Nat->Prop}{σ:Cp}{w:AJ}:∀{a:A},I1 a=AE->VR ro σ w a (QZ a)
 |.bool _,_=>rfl
 |.int _ _,_=>rfl
 |.str _,_=>rfl
 |.agg cs,hs=>⟨YR cs,rfl,nr hs⟩
theorem nr{ro:Nat->Prop}{σ:Cp}{w:AJ}:∀{az:AA A},L8 az=AE->LR ro σ w az (YR az)
 |[],_=>rfl
 |a::r,hs=>by
  simp only[L8,XX]at hs;exact⟨_,_,rfl,oT hs.1,nr hs.2⟩
end
open Go.MapKept
structure JC (P:AK) (kt:TypeId) {α:Type} (ek:α->A):Prop where
 scl:∀x,I1 (ek x)=AE
 inj:∀x y,QZ (ek x)=QZ (ek y)->x=y
 check:∀(w:AJ) em x,(Instr.checkKey em 10000 kt (QZ (ek x))).run P w=.ok () w
 find:∀(w:AJ) x (es:List MapEntry),(∀e∈es,∃y,e.key=QZ (ek y))->
  ((Instr.findKey kt (QZ (ek x)) es).run P w=.ok AF w/\ ∀e∈es,e.key≠QZ (ek x))\/ ∃j e,(Instr.findKey kt (QZ (ek x)) es).run P w=.ok (AC (j,e.val)) w/\es[j]?=AC e/\e.key=QZ (ek x)
 stays:∀(w:AJ) x,(Instr.keyThatStays (QZ (ek x)) (QZ (ek x))).run P w=.ok (QZ (ek x)) w
variable {β:Type}
section
variable {P:AK} {kt:TypeId}
theorem JC.plain{α:Type}{f:α->A}{d:TypeDesc}(hk:P.underlying kt=AC d)(g:∀x,IsKey d (QZ (f x)))(hs:∀x,I1 (f x)=AE)(hi:∀x y,QZ (f x)=QZ (f y)->x=y):JC P kt f:=by
 refine⟨hs,hi,λw h x=>run_checkKey hk (g x) h 9999,λw x m j=>?_,λw x=>run_keyThatStays (g x)⟩
 grind[findNow_spec,run_findKey]
theorem JC.int{q:IntKind}(hk:P.underlying kt=AC (.int q)):JC P kt (λn=>A.int q n):=
 JC.plain hk (λx=>by rfl) (λ_=>rfl) (λx y h=>by simpa[QZ]using h)
theorem JC.str(hk:P.underlying kt=AC .string):JC P kt A.str:=
 JC.plain hk (λx=>by simp[IsKey,QZ]) (λ_=>rfl) (λx y h=>by simpa[QZ]using h)
theorem JC.struct{α:Type}[DecidableEq α]{d:α->A}{fs:Array Field}(hk:P.underlying kt=AC (.struct fs))(hs:∀x,I1 (d x)=AE)(hi:∀x y,QZ (d x)=QZ (d y)->x=y)
  (N:∀(w:AJ) em x,(Instr.checkKey em 10000 kt (QZ (d x))).run P w=.ok () w)
  (he:∀(w:AJ) x y,(Op.equal kt (QZ (d x)) (QZ (d y))).run P w=.ok (AG (x=y)) w)(M:∀x,Instr.sameBits 10000 (QZ (d x)) (QZ (d x))=AE):JC P kt d:=by
 refine⟨hs,hi,N,λw x f F=>?_,λw x=>by simp[Instr.keyThatStays,M x]⟩
 .have q:∀(f:AA MapEntry) (i:Nat),(∀e∈f,∃y,e.key=QZ (d y))->
    ((Instr.findAsking kt (QZ (d x)) f i).run P w=.ok AF w/\ ∀e∈f,e.key≠QZ (d x))\/
    ∃j e,(Instr.findAsking kt (QZ (d x)) f i).run P w=.ok (AC (i+j,e.val)) w/\f[j]?=AC e/\e.key=QZ (d x):=by
   intro f
   induction f with
   |nil=>simp_all[Instr.findAsking]
   |cons e f G=>
    intro i g;obtain⟨y,m⟩:=g e sq;have t:=he w x y;by_cases h:x=y
    .subst h;exact .inr ⟨0,e,by simp[Instr.findAsking,m,t],rfl,m⟩
    .rcases G (i+1) (λz E=>g z (by simp[E]))with⟨B,H⟩|⟨j,L,B,H,J⟩
     .refine .inl ⟨by simp[Instr.findAsking,m,t,h,B],λz E=>?_⟩
      grind
     .exact .inr ⟨j+1,L,by simp[Instr.findAsking,m,t,h,B,Nat.add_assoc,Nat.add_comm 1 j],gq,J⟩
  cases f with
  |nil=>simp_all[Instr.findKey,run_underlying,Instr.findNow]
  |cons e f=>
   have hn:Instr.findNow (.struct fs) (QZ (d x)) (e::f) 0=none:=by
    rfl
   have O:(Instr.findKey kt (QZ (d x)) (e::f)).run P w=(Instr.findAsking kt (QZ (d x)) (e::f) 0).run P w:=by
    simp_all[Instr.findKey,run_underlying]
   grind
def GM{α:Type}[DecidableEq α](l:AA (α×β))(k:α):AB β:=(l.find? λp=>AG (p.1=k)).map (·.2)
def QE{α:Type}[DecidableEq α](l:AA (α×β))(k:α)(v:β):AA (α×β):=bif l.any λp=>AG (p.1=k)then l.map λp=>bif p.1=k then(p.1,v)else p else l++[(k,v)]
def Qd{α:Type}[DecidableEq α](l:AA (α×β))(k:α)(z:β):β:=(GM l k).getD z
def GN{α:Type}[DecidableEq α](l:AA (α×β))(k:α):Bool:=l.any λp=>AG (p.1=k)
def Qi(ek:α->A)(ev:β->A)(l:AA (α×β)):AA (A×A):=l.map λp=>(ek p.1,ev p.2)
section
variable {α β:Type} [DecidableEq α] {ek:α->A} {ev:β->A} {ro:Nat->Prop} {σ:Cp} {w:AJ} (K:JC P kt ek)
include K
theorem nf:∀{l:AA (α×β)} {es:AA MapEntry},ER ro σ w (Qi ek ev l) es->es.map (·.key)=l.map λp=>QZ (ek p.1)
 |[],es,h=>by cases(show es=[]from h);rfl
 |p::l,es,h=>by
  obtain⟨e,l',rfl,h1,h2,h3⟩:=h;simp only[Vm];rw[VR.val (K.scl _) h1,nf h3]
theorem uG{l:AA (α×β)}{es:AA MapEntry}(h:ER ro σ w (Qi ek ev l) es):∀e∈es,∃y,e.key=QZ (ek y):=by
 intro e d;have:e.key∈es.map (·.key):=VJ d;rw[nf K h]at this
 grind
theorem ER.find:∀{l:AA (α×β)} {es:AA MapEntry},ER ro σ w (Qi ek ev l) es->∀(x:α),(es.map (·.key)).Nodup->
  ((∀e,e∈es->e.key≠QZ (ek x))->GM l x=AF/\GN l x=AD)/\
  (∀(j:Nat) (e:MapEntry),es[j]?=AC e->e.key=QZ (ek x)->GN l x=AE/\ ∃v,GM l x=AC v/\VR ro σ w (ev v) e.val)
 |[],es,h,x,_=>by
  cases(show es=[]from h);exact⟨λ_=>⟨rfl,rfl⟩,sq⟩
 |p::l,es,h,x,hn=>by
  obtain⟨e0,l',rfl,h1,h2,h3⟩:=h;have hk:=VR.val (K.scl _) h1;simp[Vm,List.nodup_cons]at hn;obtain⟨a1,a2⟩:=ER.find h3 x hn.2;by_cases hp:p.1=x
  .grind[GN,GM]
  .have e1:GM (p::l) x=GM l x:=by simp[GM,hp]
   have f:GN (p::l) x=GN l x:=by simp[GN,hp]
   constructor
   .grind
   .intro j e d hx;cases j with
    |zero=>
     simp[XF,Option.some.injEq]at d;subst d;exact absurd (K.inj _ _ (hk.symm.trans hx)) hp
    |succ j=>grind
end
end
end
section
open Go.MapKept
section
variable {P:AK} {o:AM} {env:Env} {H:Qb}
theorem JB{T:Nat}(f:o.op=.makeMap T none:=by rfl):Fb P o env H (.map H.length) (H++[.map []]):=by
 intro g d σ N a w r;refine⟨.map (AC w.heap.size),w.alloc (.map #[] 0),d,[AC w.heap.size],?_,⟨w.heap.size,?_,rfl⟩,r.sim.alloc ⟨#[],0,Yo _ _,rfl,sq,sq,sq⟩,Qe.alloc _ r.sim.roLt r.sim.frLt⟩
 .simp_all[execOp,Instr.makeMap]
 .rw[<- r.sim.len];simp
section
variable {T kt et:Nat} {α β:Type} [DecidableEq α] {ek:α->A} {ev:β->A} {x y:Operand} {i:Nat} {l:AA (α×β)} {k:α} {z0:β} {z:AL}
theorem o9(K:JC P kt ek){ro:Nat->Prop}{w:AJ}(t:P.underlying T=AC (.map kt et))(G:∀w,(zeroValue et).run P w=.ok z w)(m:ZR (ev z0) z){b d:Nat}{es:Array MapEntry}
  (x:w.heap[b]?=AC (.map es d))(he:ER ro [] w (Qi ek ev l) es.toList)(hn:(es.toList.map (·.key)).Nodup):
  ∃v,(∀ck,(Instr.lookup T (.map (AC b)) (QZ (ek k)) ck).run P w=.ok (if ck then .tuple #[v,.bool (GN l k)]else v) w)/\VR ro [] w (ev (Qd l k z0)) v:=by
 obtain⟨B,y⟩:=ER.find K he k hn;rcases K.find w k es.toList (uG K he)with⟨q,h⟩|⟨j,e,q,h,E⟩
 .obtain⟨g,f⟩:=B h;refine⟨z,λck=>?_,?_⟩
  .simp[Instr.lookup,Vp,run_underlying t,Result.andThen,MapKept.run_getObj_map x,Vq,K.check,q,G,f]
  .rw[Qd,g];exact m _ _ _
 .obtain⟨g,v,f,F⟩:=y j e h E;refine⟨e.val,λck=>?_,?_⟩
  .simp[Instr.lookup,Vp,run_underlying t,Result.andThen,MapKept.run_getObj_map x,Vq,K.check,q,g]
  .rw[Qd,f];exact F
theorem YO{zv:β}(K:JC P kt ek)(B:AC (Qd l k z0)=AC zv)(E:P.underlying T=AC (.map kt et))(F:∀w,(zeroValue et).run P w=.ok z w)(d:ZR (ev z0) z)
  (O:o.op=.lookup T x y false:=by rfl)(hx:CS env x=.map i:=by rfl)(hH:H[i]?=AC (.map (Qi ek ev l)):=by rfl)(hy:CS env y=ek k:=by rfl):CY P o env H (ev zv):=by
 obtain rfl:=X0 B;intro Y Q σ N a w r;have h:=Qm r x;rw[hx]at h;obtain⟨b,G,X⟩:=h;have g:=Qm r y;rw[hy]at g;have V:=VR.val (K.scl _) g;obtain⟨R,f,m,t,L,M,j⟩:=r.sim.blk i _ _ G hH;obtain⟨v,W,J⟩:=o9 K E F d m t j;refine⟨v,?_,J.mono ⟨λ_ q=>q,λ_ _=>rfl,λ_ _ q=>q,sq⟩⟩
 simp_all[execOp]
theorem wR{zv:β}(K:JC P kt ek)(B:AC (Qd l k z0)=AC zv)(E:P.underlying T=AC (.map kt et))(F:∀w,(zeroValue et).run P w=.ok z w)(d:ZR (ev z0) z)
  (O:o.op=.lookup T x y true:=by rfl)(hx:CS env x=.map i:=by rfl)(hH:H[i]?=AC (.map (Qi ek ev l)):=by rfl)(hy:CS env y=ek k:=by rfl):CY P o env H (.tup [ev zv,.bool (GN l k)]):=by
 obtain rfl:=X0 B;intro Y Q σ N a w r;have h:=Qm r x;rw[hx]at h;obtain⟨b,G,X⟩:=h;have g:=Qm r y;rw[hy]at g;have V:=VR.val (K.scl _) g;obtain⟨R,f,m,t,L,M,j⟩:=r.sim.blk i _ _ G hH;obtain⟨v,W,J⟩:=o9 K E F d m t j;refine⟨.tuple #[v,.bool (GN l k)],?_,[v,.bool (GN l k)],rfl,v,_,rfl,J.mono ⟨λ_ q=>q,λ_ _=>rfl,λ_ _ q=>q,sq⟩,_,_,rfl,rfl,rfl⟩
 simp_all[execOp]
theorem QmS{zv:β}(K:JC P kt ek)(B:AC (Qd l k z0)=AC zv)(E:P.underlying T=AC (.map kt et))(F:∀w,(zeroValue et).run P w=.ok z w)(d:ZR (ev z0) z)
  (O:o.op=.lookup T x y false:=by rfl)(hx:CS env x=.map i:=by rfl)(hH:H[i]?=AC (.fmap (Qi ek ev l)):=by rfl)(hy:CS env y=ek k:=by rfl):CY P o env H (ev zv):=by
 obtain rfl:=X0 B;intro Y Q σ N a w r;have h:=Qm r x;rw[hx]at h;obtain⟨b,G,X⟩:=h;have g:=Qm r y;rw[hy]at g;have V:=VR.val (K.scl _) g;obtain⟨_,R,f,m,t,L,M,j⟩:=r.sim.blk i _ _ G hH;obtain⟨v,W,J⟩:=o9 K E F d m t j;refine⟨v,?_,J.mono ⟨λ_ q=>q,λ_ _=>rfl,λ_ _ q=>q,sq⟩⟩
 simp_all[execOp]
theorem ER.append{ro:Nat->Prop}{σ:Cp}{w:AJ}:∀{l m:AA (A×A)} {es fs:AA MapEntry},ER ro σ w l es->ER ro σ w m fs->ER ro σ w (l++m) (es++fs)
 |[],m,es,fs,h,k=>by cases(show es=[]from h);exact k
 |p::l,m,es,fs,h,k=>by
  obtain⟨e,l',rfl,h1,h2,h3⟩:=h;exact⟨e,l'++fs,rfl,h1,h2,ER.append h3 k⟩
theorem ER.put(K:JC P kt ek){ro:Nat->Prop}{w w':AJ}{v:β}{val:AL}(hx:Dh ro [] w ro [] w')(d:VR ro [] w (ev v) val):∀{l:AA (α×β)} {es:AA MapEntry} {j:Nat} {e:MapEntry},ER ro [] w (Qi ek ev l) es->
  (es.map (·.key)).Nodup->es[j]?=AC e->e.key=QZ (ek k)->
  ER ro [] w' (Qi ek ev (l.map λp=>bif p.1=k then(p.1,v)else p)) (es.modify j λe=>{e with key:=QZ (ek k),val:=val})
 |[],es,j,e,h,hn,he,hk=>by cases(show es=[]from h);simp at he
 |p::l,es,j,e,h,hn,he,hk=>by
  obtain⟨e0,l',rfl,h1,h2,h3⟩:=h;have hk0:=VR.val (K.scl _) h1;simp only[Vm,List.nodup_cons]at hn;cases j with
  |zero=>
   simp[XF,Option.some.injEq]at he;subst he;have hp:=K.inj _ _ (hk0.symm.trans hk);have e1:Qi ek ev ((p::l).map λp=>bif p.1=k then(p.1,v)else p)=(ek p.1,ev v)::Qi ek ev l:=by
    simp only[Qi,Vm,hp,decide_true,Vr,List.map_map,List.cons.injEq,true_and];apply List.map_congr_left;intro q f;have:q.1≠k:=by
     intro e;refine hn.1 ?_;rw[nf K h3];exact Xe.2 ⟨q,f,by rw[e, <- hp,hk0]⟩
    simp[this]
   rw[e1];refine⟨_,l',rfl,?_,d.mono hx,h3.mono hx⟩;rw[<- hp];exact oT (K.scl _)
  |succ j=>
   have hp:p.1≠k:=by
    intro q;refine hn.1 (Xe.2 ⟨e,VK he,?_⟩);rw[hk,hk0,q]
   have e1:Qi ek ev ((p::l).map λp=>bif p.1=k then(p.1,v)else p)=(ek p.1,ev p.2)::Qi ek ev (l.map λp=>bif p.1=k then(p.1,v)else p):=by
    simp[Qi,hp]
   rw[e1];exact⟨_,_,rfl,h1.mono hx,h2.mono hx,ER.put K hx d h3 hn.2 he hk⟩
theorem Jj{m:AA (α×β)}(K:JC P kt ek){v:β}{B:Operand}(hm:AC (QE l k v)=AC m)(hd:Yn (ev v)=AE)(hT:P.underlying T=AC (.map kt et))
  (ho:o.op=.mapUpdate T x y B:=by rfl)(hx:CS env x=.map i:=by rfl)(hH:H[i]?=AC (.map (Qi ek ev l)):=by rfl)(hy:CS env y=ek k:=by rfl)(hv:CS env B=ev v:=by rfl):
  J1 P o env H (H.set i (.map (Qi ek ev m))):=by
 obtain rfl:=X0 hm;intro fr ro σ N a w r;have h1:=Qm r x;rw[hx]at h1;obtain⟨b,q1,q2⟩:=h1;have h2:=Qm r y;rw[hy]at h2;have h3:=VR.val (K.scl _) h2;have h4:=Qm r B;rw[hv]at h4;have M:VR ro [] w (ev v) (a.eval B):=VR.data hd h4;obtain⟨F,d,V,R,p3,p4,X⟩:=r.sim.blk i _ _ q1 hH;obtain⟨f1,f2⟩:=ER.find K R k X;have Q:∀(obj:Obj) y,w.shape? b=AC y->({w with heap:=w.heap.setIfInBounds b obj}:AJ).shape? b=AC y:=by
  grind[World.shape?]
 rcases K.find w k F.toList (uG K R)with⟨g1,O⟩|⟨j,e,g1,O,W⟩
 .obtain⟨u1,u2⟩:=f1 O;have hl:QE l k v=l++[(k,v)]:=by
   unfold QE;rw[show(l.any λp=>AG (p.1=k))=AD from u2];rfl
  have t:=r.sim.set (x':=.map (Qi ek ev (QE l k v))) (obj:=.map (F.push {key:=QZ (ek k),val:=a.eval B,born:=d}) (d+1)) q1 hH rfl (Q _)
   (λe he=>⟨_,_,he,by
    rw[hl,Qi,Xf,Array.toList_push];exact(R.mono ⟨e.sub,e.keep,e.shape,λ_ _ q=>q⟩).append ⟨_,_,rfl,oT (K.scl _),M.mono ⟨e.sub,e.keep,e.shape,λ_ _ q=>q⟩,rfl⟩,by
    grind,by
    grind,by
    grind⟩)
  refine⟨_,ro,[],?_,gq,t.2⟩;simp only[execOp,ho,q2,h3,Vp,Instr.mapUpdate,run_underlying hT,Result.andThen,MapKept.run_getObj_map V,K.check,g1,MapKept.run_setObj_map _ V];rfl
 .obtain⟨u1,u2⟩:=f2 j e O W;have hl:QE l k v=l.map λp=>bif p.1=k then(p.1,v)else p:=by
   unfold QE;rw[show(l.any λp=>AG (p.1=k))=AE from u1];rfl
  have hj:F[j]?=AC e:=gq;have g:(F.modify j λe=>{e with key:=QZ (ek k),val:=a.eval B}).toList=F.toList.modify j λe=>{e with key:=QZ (ek k),val:=a.eval B}:=sq;have E:∀{γ:Type} (f:MapEntry->γ),(∀L,F.toList[j]?=AC L->f {L with key:=QZ (ek k),val:=a.eval B}=f L)->(F.toList.modify j λe=>{e with key:=QZ (ek k),val:=a.eval B}).map f=F.toList.map f:=by
   intro γ f hf;apply List.ext_getElem?
   grind
  have t:=r.sim.set (x':=.map (Qi ek ev (QE l k v))) (obj:=.map (F.modify j λe=>{e with key:=QZ (ek k),val:=a.eval B}) d) q1 hH rfl (Q _)
   (λY he=>⟨_,_,he,by
    rw[hl,g];exact ER.put K ⟨Y.sub,Y.keep,Y.shape,λ_ _ q=>q⟩ M R X O W,by
    rw[g];intro L G;have:L.born∈(F.toList.modify j λe=>{e with key:=QZ (ek k),val:=a.eval B}).map (·.born):=VJ G;rw[E (·.born) (λ_ _=>rfl)]at this;obtain⟨e2,h,h'⟩:=Xe.1 this;rw[<- h'];exact p3 e2 h,by
    rw[g,E (·.born) (λ_ _=>rfl)];exact p4,by
    rw[g,E (·.key) (λL G=>by rw[O]at G;cases G;exact W.symm)];exact X⟩)
  refine⟨_,ro,[],?_,by simpa using t.1,t.2⟩;have J:=K.stays w k;simp only[execOp,ho,q2,h3,Vp,Instr.mapUpdate,run_underlying hT,Result.andThen,MapKept.run_getObj_map V,K.check,g1,hj,Xj,Option.getD_some,W,J,MapKept.run_setObj_map _ V];rfl
theorem ER.length{ro:Nat->Prop}{σ:Cp}{w:AJ}:∀{l:AA (A×A)} {es:AA MapEntry},ER ro σ w l es->es.length=l.length
 |[],es,h=>by cases(show es=[]from h);rfl
 |p::l,es,h=>by
  obtain⟨e,l',rfl,_,_,h3⟩:=h;simp[ER.length h3]
theorem Qkn{c:Call}{n:Int}(B:P.underlying T=AC (.map kt et))(hn:(l.length:Int)=n)(q:o.op=.call c:=by rfl)(hc:c={callee:=.builtin .len,args:= #[x],argTypes:= #[T]}:=by rfl)
  (hx:CS env x=.map i:=by rfl)(hH:H[i]?=AC (.map (Qi ek ev l)):=by rfl):CY P o env H (.int .i64 n):=by
 intro M L σ N a w r;have g:=Qm r x;rw[hx]at g;obtain⟨b,y,j⟩:=g;obtain⟨h,f,m,t,F,J,G⟩:=r.sim.blk i _ _ y hH;have hl:=t.length;refine⟨.int .i64 n,?_,rfl⟩;have d:goInt h.size=.int .i64 n:=by
  have:h.size=l.length:=by rw[<- Array.length_toList,hl];simp[Qi]
  rw[this, <- hn];rfl
 subst hc;have E:=j;generalize a.eval=ρ at*;rw[<- d];simp[execOp,q,j,resolve,invoke,Go.builtin,Builtin.len_,run_underlying B,MapKept.run_getObj_map m,go_sem]
end
end
end
section
open Go.ChangeMaps (setBlock)
section
variable {P:AK} {o:AM} {env:Env} {H:Qb} {h0 N:Nat} {Q:Qx}
def UP(P:AK)(o:AM)(env:Env)(H:Qb)(K:A->Qb->Prop):Prop:=
 ∀fr ro σ N a w,DT fr ro σ H env N a w->∃x H' v w' ro' τ,K x H'/\(execOp a.eval o).run P w=.ok (.value v) w'/\VR ro' (σ++τ) w' x v/\
  Cm fr ro' (σ++τ) H' w'/\Qe fr ro w ro' w'
theorem ip{all:Array AM}{l:AA AM}{d:Nat}{K:A->Qb->Prop}(F:h0<=H.length)(hg:QB all o env AE)(t:o.dst=AC d)(O:Nat.blt d N=AE)
  (j:UP P o env H K)(k:∀x H',K x H'->WO P h0 N all l (up env d x) H' Q):WO P h0 N all (o::l) env H Q:=by
 intro M fr E σ a w r hrd;obtain⟨x,H',v,m,f,τ,G,J,B,L,g⟩:=j fr E σ N a w r;refine Jt (YJ hg r) J ?_;simp[t];have h:d<N:=by simp_all
 have y:DT fr f (σ++τ) H' (up env d x) N {a with tmps:=a.tmps.setIfInBounds d v} m:=
  ⟨L,VR.up (fr:=fr) (λs=>(r.env s).mono (g.ext σ τ)) (by rw[r.size];exact h) B,by simpa using r.size,r.defers.keep g⟩
 refine Yq (λe a w q=>q.step g (QJ ?_)) _ _ _ (k x H' G M fr f (σ++τ) _ m y (hrd.to g λ_ q=>q));rw[r.sim.len];exact F
theorem Cm.shutMap{fr ro:Nat->Prop}{σ:Cp}{w:AJ}(s:Cm fr ro σ H w){i b:Nat}{es:AA (A×A)}(hσ:σ[i]?=AC (AC b))(hH:H[i]?=AC (.map es)):
  Cm fr (λc=>ro c\/c=b) σ (H.set i (.fmap es)) w:=by
 have hown:=s.own i b _ hσ hH rfl;have ext:Dh ro σ w (λc=>ro c\/c=b) σ w:=⟨λ_ q=>.inl q,λ_ _=>rfl,λ_ _ q=>q,λ_ _ q=>q⟩;have d:∀(j:Nat) (v:Ci),(H.set i (.fmap es))[j]?=AC v->v.live=AE->j≠i/\H[j]?=AC v:=by
  intro j v h N;by_cases e:j=i
  .subst e;rw[Xb]at h
   grind[Ci.live]
  grind
 refine⟨by rw[X6];exact s.len,s.roOk.to (λ_ q=>.inl q) (λ_ _=>rfl) ?_,s.frLt,?_,?_,?_,?_⟩
 .rintro c (q|rfl)
  .exact s.roLt c q
  omega
 .rintro c (q|rfl)
  .exact s.roFr c q
  grind
 .intro j c v g f t;obtain⟨e,f⟩:=d j v f t;obtain⟨B,E,x⟩:=s.own j c v g f t;refine⟨B,?_,x⟩;rintro(q|rfl)
  .exact E q
  .exact e (s.inj j i c v _ g hσ f hH t rfl)
 .intro j F c v J g f t M L G;exact s.inj j F c v J g f (d j v t L).2 (d F J M G).2 L G
 .intro j y v g f;by_cases e:j=i
  .subst e;rw[hσ]at g;cases g;rw[Xb]at f;simp only[if_true]at f;split at f
   .cases f;obtain⟨l,m,B,E,x⟩:=s.blk j _ _ hσ hH;exact⟨.inr rfl,l,m,B,E.mono ext.nil,x⟩
   .simp at f
  .rw[XQ (λq=>e q.symm)]at f;exact(s.blk j y v g f).keep ext (λ_ _ _=>rfl)
section
variable {T kt et i:Nat} {x:Operand} {es:AA (A×A)}
theorem Fb.range(M:P.underlying T=AC (.map kt et))(J:o.op=.range T x:=by rfl)(hx:CS env x=.map i:=by rfl)(hH:H[i]?=AC (.map es):=by rfl):
  Fb P o env H (.ptr H.length 0) (H.set i (.fmap es)++[.iter AF es]):=by
 intro E j σ N a w r;have B:=Qm r x;rw[hx]at B;obtain⟨b,m,Q⟩:=B;obtain⟨l,d,y,L,F,G,R⟩:=r.sim.blk i _ _ m hH;have O:=(r.sim.own i b _ m hH rfl).1;have t:=r.sim.shutMap m hH;have f:Qe E j w (λc=>j c\/c=b) w:=Q6 (λ_ q=>.inl q);have g:Qe E (λc=>j c\/c=b) w (λc=>j c\/c=b) (w.alloc (.mapIter (AC b) d #[] d)):=Qe.alloc _ t.roLt t.frLt;have ext0:=(f.trans g).ext0 [];refine⟨.pointer (AC ⟨w.heap.size,0,AF⟩),w.alloc (.mapIter (AC b) d #[] d),_,[AC w.heap.size],?_,⟨w.heap.size,?_,rfl⟩,
  t.alloc (.inr ⟨b,l,d, #[],l.toList,Yo _ _,.inr rfl,by rw[Y7 _ _ _ O];exact y,F,G,?_,L.mono ext0,λ_ h=>by cases h⟩),f.trans g⟩
 .simp only[execOp,J,Q,Instr.range,Vp,run_underlying M,Result.andThen,MapKept.run_getObj_map y];rfl
 .rw[<- r.sim.len];simp
 .have:l.toList.filter (λe=> !#[].contains e.born)=l.toList:=by simp
  rw[this]
theorem vO(G:P.underlying T=AC (.map kt et))(B:o.op=.range T x:=by rfl)(hx:CS env x=.map i:=by rfl)(hH:H[i]?=AC (.fmap es):=by rfl):
  Fb P o env H (.ptr H.length 0) (H++[.iter AF es]):=by
 intro M m σ N a w r;have q:=Qm r x;rw[hx]at q;obtain⟨b,F,L⟩:=q;obtain⟨f,l,d,j,E,t,y,O⟩:=r.sim.blk i _ _ F hH;have J:=r.sim.roLt b f;have g:Qe M m w m (w.alloc (.mapIter (AC b) d #[] d)):=Qe.alloc _ r.sim.roLt r.sim.frLt;have ext0:=g.ext0 [];refine⟨.pointer (AC ⟨w.heap.size,0,AF⟩),w.alloc (.mapIter (AC b) d #[] d),_,[AC w.heap.size],?_,⟨w.heap.size,?_,rfl⟩,
  r.sim.alloc (.inr ⟨b,l,d, #[],l.toList,Yo _ _,f,by rw[Y7 _ _ _ J];exact j,t,y,?_,E.mono ext0,λ_ h=>by cases h⟩),g⟩
 .simp only[execOp,B,L,Instr.range,Vp,run_underlying G,Result.andThen,MapKept.run_getObj_map j];rfl
 .rw[<- r.sim.len];simp
 .have:l.toList.filter (λe=> !#[].contains e.born)=l.toList:=by simp
  rw[this]
theorem ER.mem{ro:Nat->Prop}{σ:Cp}{w:AJ}:∀{es:AA (A×A)} {l:AA MapEntry},ER ro σ w es l->∀e∈l,∃x es' l',(x::es').Perm es/\(e::l').Perm l/\VR ro σ w x.1 e.key/\VR ro σ w x.2 e.val/\ER ro σ w es' l'
 |[],l,h,e,he=>by cases(show l=[]from h);cases he
 |y::es,l,h,e,he=>by
  obtain⟨e0,l',rfl,h1,h2,h3⟩:=h;rcases X9.1 he with rfl|he
  .exact⟨y,es,l',.refl _,.refl _,h1,h2,h3⟩
  .obtain⟨x,es',l'',p1,p2,v1,v2,h4⟩:=ER.mem h3 e he;exact⟨x,y::es',e0::l'',(List.Perm.swap _ _ _).trans (p1.cons _),(List.Perm.swap _ _ _).trans (p2.cons _),v1,v2,⟨e0,l'',rfl,h1,h2,h4⟩⟩
theorem t_:∀{l:AA MapEntry},(l.map (·.born)).Nodup->∀a∈l,∀b∈l,a.born=b.born->a=b
 |[],_,a,ha,_,_,_=>by cases ha
 |c::l,hn,a,ha,b,hb,hab=>by
  simp[Vm,List.nodup_cons]at hn;rcases X9.1 ha with ea|ha'<;>rcases X9.1 hb with eb|hb'
  .rw[ea,eb]
  .grind
  .grind
  .exact t_ hn.2 a ha' b hb' hab
def fc(H:Qb)(i:Nat)(cur:AB (A×A))(es:AA (A×A))(v:A)(H':Qb):Prop:=
 (es=[]/\v=.tup [.bool AD]/\H'=H)\/ ∃e es',(e::es').Perm es/\v=.tup [.bool AE,e.1,e.2]/\H'=H.set i (.iter (AC e) es')
theorem UP.next{V:AB (A×A)}(ho:o.op=.next x false:=by rfl)(hx:CS env x=.ptr i 0:=by rfl)(hH:H[i]?=AC (.iter V es):=by rfl):
  UP P o env H (fc H i V es):=by
 intro fr G σ N a w r;have h1:=Qm r x;rw[hx]at h1;obtain⟨b,q1,q2⟩:=h1;have t:∀(v:AL) (g:AJ),g.heap=w.heap->g.os=w.os->g.tape=w.tape->g.output=w.output->w.drawn<=g.drawn->Cm fr G (σ++[]) H g/\Qe fr G w G g:=by
  intro v g Y e2 e3 e4 e5;exact⟨by simpa using r.sim.heap Y,Qe.heap Y e2 e3 e4 e5⟩
 rcases r.sim.blk i _ _ q1 hH with⟨rfl,rfl,p⟩|⟨m,l,f,d,left,p1,p2,p3,p4,p5,p6,p7,p8⟩
 .refine⟨_,_,.tuple #[.bool AD],w,G,[],.inl ⟨rfl,rfl,rfl⟩,?_,⟨_,rfl,_,_,rfl,rfl,rfl⟩,t (.bool AD) w rfl rfl rfl rfl (XU _)⟩;generalize a.eval=ρ at*;simp only[execOp,ho,q2,Instr.next,Vp,getObj,Sem.run,p,Result.andThen];rfl
 .have af:(leftOf l d).toList=l.toList.filter λe=> !d.contains e.born:=by simp[leftOf]
  have B:left.Perm (leftOf l d).toList:=gq;rcases run_next_at (P:=P) w o.type b m f f d l f p1 p3 p4 (XU _)with⟨g1,g2⟩|⟨e,g1,g,g2,g3⟩
  .have aa:left=[]:=by
    have:left.length=0:=by rw[B.length_eq];omega
    grind
   subst aa;have ae:es=[]:=by
    have:=p7.length
    grind
   refine⟨_,_,.tuple #[.bool AD],w,G,[],.inl ⟨ae,rfl,rfl⟩,?_,⟨_,rfl,_,_,rfl,rfl,rfl⟩,t (.bool AD) w rfl rfl rfl rfl (XU _)⟩
   simp_all[execOp]
  .have he:e∈left:=B.mem_iff.2 g1;have Q:e∈l.toList:=gq;obtain⟨y,R,X,k1,k2,v1,v2,k3⟩:=p7.mem e he;have E:g.heap=w.heap/\g.os=w.os/\g.tape=w.tape/\g.output=w.output/\w.drawn<=g.drawn:=by
    rcases g2 with rfl|rfl
    .simp
    .exact⟨rfl,rfl,rfl,rfl,Nat.le_succ _⟩
   obtain⟨s1,L⟩:=t (.bool AD) g E.1 E.2.1 E.2.2.1 E.2.2.2.1 E.2.2.2.2;rw[Vj]at s1;have ag:b≠m:=by
    grind
   have J:=s1.set (x':=.iter (AC y) R) (obj:=.mapIter (AC m) f (d.push e.born) f) q1 hH rfl
    (λz T=>by
     grind[World.shape?])
    (λF ab=>.inr ⟨m,l,f,d.push e.born,X,ab,F.sub _ p2,by
      grind,p4,p5,by
      have ad:(l.toList.filter λe=> !d.contains e.born).Nodup:=by
       have:l.toList.Nodup:=List.Pairwise.of_map _ (λa b h q=>h (congrArg _ q)) p5;exact this.filter _
      have hp:(e::X).Perm (l.toList.filter λe=> !d.contains e.born):=k2.trans p6;have O:(e::X).Nodup:=hp.nodup_iff.2 ad;have Y:(l.toList.filter λM=> !(d.push e.born).contains M.born)=(l.toList.filter λe=> !d.contains e.born).filter λM=> !decide (M.born=e.born):=by
       rw[List.filter_filter];apply List.filter_congr;intro z _;simp[Array.contains_push,Bool.and_comm]
      rw[Y];have h2:=hp.filter (λM=> !decide (M.born=e.born));have e2:(e::X).filter (λM=> !decide (M.born=e.born))=X:=by
       rw[List.filter_cons_of_neg sq,List.filter_eq_self];intro z T;have ac:z∈l.toList:=(Xd.1 (hp.mem_iff.1 (X8 _ T))).1;simp only[Bool.not_eq_true',decide_eq_false_iff_not];intro hb;have:z=e:=by
        exact t_ p5 z ac e Q hb
       subst this;exact(List.nodup_cons.1 O).1 T
      rw[e2]at h2;exact h2,by
      have x1:Dh G [] w G [] g:=L.ext0 [];exact(k3.mono x1).mono ⟨F.sub,F.keep,F.shape,λ_ _ q=>q⟩,by
      intro z T;cases T;have x1:Dh G [] w G [] g:=L.ext0 [];exact⟨e,Q,sq,(v1.mono x1).mono ⟨F.sub,F.keep,F.shape,λ_ _ q=>q⟩,(v2.mono x1).mono ⟨F.sub,F.keep,F.shape,λ_ _ q=>q⟩⟩⟩)
   have W:=L.trans J.2;have xt:=W.ext0 [];refine⟨_,_,.tuple #[.bool AE,e.key,e.val],_,G,[],.inr ⟨y,R,k1,rfl,rfl⟩,?_,
    ⟨[.bool AE,e.key,e.val],rfl,_,_,rfl,rfl,_,_,rfl,(v1.mono xt).mono ⟨λ_ q=>q,λ_ _=>rfl,λ_ _ q=>q,λj c q=>by simp at q⟩,_,_,rfl,(v2.mono xt).mono ⟨λ_ q=>q,λ_ _=>rfl,λ_ _ q=>q,λj c q=>by simp at q⟩,rfl⟩,by simpa using J.1,W⟩
   generalize a.eval=ρ at*;simp only[execOp,ho,q2,Vp,g3,Result.andThen,setBlock];rfl
theorem CY.entry{e:A×A}(X:o.op=.entry x:=by rfl)(hx:CS env x=.ptr i 0:=by rfl)(hH:H[i]?=AC (.iter (AC e) es):=by rfl):CY P o env H (.tup [e.1,e.2]):=by
 intro V O σ N a w r;have j:=Qm r x;rw[hx]at j;obtain⟨b,y,Y⟩:=j;rcases r.sim.blk i _ _ y hH with⟨_,h,_⟩|⟨m,l,d,g,left,W,Q,L,M,t,R,T,E⟩
 .cases h
 .obtain⟨f,F,hs,B,G⟩:=E e rfl;refine⟨.tuple #[f.key,f.val],?_,[f.key,f.val],rfl,_,_,rfl,B.mono ⟨λ_ q=>q,λ_ _=>rfl,λ_ _ q=>q,sq⟩,_,_,rfl,G.mono ⟨λ_ q=>q,λ_ _=>rfl,λ_ _ q=>q,sq⟩,rfl⟩;have J:l.find? (·.born==f.born)=AC f:=by rw[<- Array.find?_toList];exact find_born f l.toList t F
  simp_all[execOp,Instr.entry,getObj,Sem.run]
end
end
end
section
def L7{S E B:Type}(stepE:S->E->AB (CJ S B))(stepN:S->AB B):S->AA E->AB B
 |s,[]=>stepN s
 |s,e::p=>match stepE s e with
  |some (.k s')=>L7 stepE stepN s' p
  |some (.d b)=>AC b
  |none=>AF
def OT{E:Type}(x:E):AA E->AA (AA E)
 |[]=>[[x]]
 |y::l=>(x::y::l)::(OT x l).map (y:: ·)
def Li{E:Type}:AA E->AA (AA E)
 |[]=>[[]]
 |x::l=>(Li l).flatMap (OT x)
theorem wD{E:Type}(x:E):∀(a b:AA E),a++x::b∈OT x (a++b)
 |[],[]=>by simp[OT]
 |[],y::b=>by simp[OT]
 |y::a,b=>by
  simp only[VN,OT,X9,Xe];exact .inr ⟨a++x::b,wD x a b,rfl⟩
theorem oi{E:Type}:∀(l p:AA E),p.Perm l->p∈Li l
 |[],p,h=>by rw[List.perm_nil.1 h];simp[Li]
 |x::l,p,h=>by
  have hx:x∈p:=h.mem_iff.2 sq;obtain⟨a,b,rfl⟩:=List.append_of_mem hx;have h2:=(List.perm_cons x).1 ((List.perm_middle.symm).trans h);simp[Li,List.mem_flatMap];exact⟨a++b,oi l _ h2,wD x a b⟩
variable {E:Type}
def anyP{R:Type}[DecidableEq R](k:AA E->AB R)(l:AA E):AB R:=bif (Li l).all (λp=>AG (k p=k l))then k l else AF
theorem QqC{R:Type}[DecidableEq R]{k:AA E->AB R}{l:AA E}{r:R}(h:anyP k l=AC r)(p:AA E)(d:p.Perm l):k p=AC r:=by
 unfold anyP at h;cases q:(Li l).all (λp=>AG (k p=k l))with
 |true=>
  simp_all[oi]
 |false=>grind
theorem jp{E:Type}:∀(l p:AA E),p∈Li l->p.Perm l
 |[],p,h=>by simp[Li]at h;rw[h]
 |x::l,p,h=>by
  simp[Li,List.mem_flatMap]at h;obtain⟨q,hq,hp⟩:=h;have ins:∀(q p:AA E),p∈OT x q->p.Perm (x::q):=by
   intro q
   induction q with
   |nil=>intro p hp;simp[OT]at hp;rw[hp]
   |cons y q d=>
    intro p hp;simp[OT,X9,Xe]at hp;rcases hp with rfl|⟨z,f,rfl⟩
    .exact .refl _
    .exact((d z f).cons y).trans (List.Perm.swap _ _ _)
  exact(ins q p hp).trans ((jp l q hq).cons x)
theorem QqD{E R:Type}[DecidableEq R]{k:AA E->AB R}{l:AA E}{r:R}(h:∀p,p.Perm l->k p=AC r):anyP k l=AC r:=by
 unfold anyP;have:(Li l).all (λp=>AG (k p=k l))=true:=Xs.2 λp d=>by
  simp_all[jp]
 rw[this];simp_all
variable {B:Type}
def Tq{S:Type}(stepE:S->E->AB (CJ S B))(stepN:S->AB B)(G:B->Prop)(s:S)(l:AA E):Prop:=∀p,p.Perm l->∃b,L7 stepE stepN s p=AC b/\G b
variable {α:Type}
section
variable {P:AK} {o:AM} {env:Env} {H:Qb} {h0 N:Nat} {Q:Qx} {c:Code}
def jd(I:Env->Qb->Prop)(Q:Qx):Qx
 |.normal,env,H=>I env H
 |.exit id,env,H=>Q (.exit id) env H
 |.ret,env,H=>Q .ret env H
theorem QoY{I:Nat->Env->Qb->Prop}(body:∀n env H,I n env H->TC P h0 N c env H (jd (λenv H=>∃n',n'<n/\I n' env H) Q)){n:Nat}(O:I n env H):TC P h0 N (.loop c) env H Q:=by
 intro T y G σ a w r hrd b k cs hro hb hr;have M:∀m n env H fr1 ro1 σ1 a1 w1,n<m->I n env H->DT fr1 ro1 σ1 H env N a1 w1->Qe y G w ro1 w1->σ1.take h0=σ.take h0->DJ y w a.defers fr1 a1.defers->
   ∃e h g,IB h0 y G σ w N a.defers Q e h g/\ArrivesIn (Machine.fenced P (WF T)) P (lone (b.atR a1 (.code c::.inLoop c::k)) cs w1) b k cs e h g:=by
  intro m
  induction m with
  |zero=>omega
  |succ m ih=>
   intro n env H fr1 ro1 σ1 a1 w1 hn O r1 ev1 t1 g1;obtain⟨e,h,g,L,d⟩:=body n env H O T fr1 ro1 σ1 a1 w1 r1 (hrd.to ev1 g1.sub) b (.inLoop c::k) cs hro hb hr;obtain⟨x,f,H',B,σ',E,J,F,W,q4,X,q6⟩:=L;have t:=ev1.trans (q4.frMono g1.sub);have V:=g1.trans ev1.size q6;have Y:∀x,Q x f H'->Sx e x->IB h0 y G σ w N a.defers Q e h g:=λx q q'=>⟨x,f,H',B,σ',E,q',q,W,t,X.trans t1,V⟩;cases e with
   |normal=>
    obtain rfl:x=.normal:=J;obtain⟨n',aa,F⟩:=F;obtain⟨e2,a2,w2,R,j⟩:=ih n' f H' E B σ' h g om F W t (X.trans t1) V;exact⟨e2,a2,w2,R,.of_steps (StepsIn.trans d (.one (fenced_calm hb hr rfl) stepR_inLoop)) j⟩
   |exit id=>
    obtain rfl:x=.exit id:=J;exact⟨_,h,g,Y _ F rfl,.pass rfl sq d⟩
   |ret=>
    obtain rfl:x=.ret:=J;exact⟨_,h,g,Y _ F rfl,.pass rfl sq d⟩
   |_=>exact J.elim
 obtain⟨e,h,g,L,d⟩:=M (n+1) n env H y G σ a w (Xn _) O r (Qe.refl _ _ _) rfl (DJ.refl _ _ _);exact⟨e,h,g,L,.of_steps (.one (fenced_calm hb hr rfl) stepR_loop) d⟩
section
variable {S E B:Type} {stepE:S->E->AB (CJ S B)} {stepN:S->AB B} {G:B->Prop} (Es:S->Env) (Hp:S->AA (A×A)->Qb) {enc:E->A×A}
def qk(stepE:S->E->AB (CJ S B))(stepN:S->AB B)(G:B->Prop)(enc:E->A×A)(h0 n:Nat)(env:Env)(H:Qb):Prop:=
 ∃s l,l.length=n/\Tq stepE stepN G s l/\Le h0 env H (Es s) (Hp s (l.map enc))
theorem QoX{s0:S}{l0:AA E}(h:Tq stepE stepN G s0 l0)(hI:Le h0 env H (Es s0) (Hp s0 (l0.map enc)))
  (body:∀s l,Tq stepE stepN G s l->TC P h0 N c (Es s) (Hp s (l.map enc)) (jd (λenv H=>∃n',n'<l.length/\qk Es Hp stepE stepN G enc h0 n' env H) Q)):TC P h0 N (.loop c) env H Q:=
 QoY (I:=qk Es Hp stepE stepN G enc h0) (λn env H ⟨s,l,hn,ha,hle⟩=>by subst hn;exact TC.le hle (body s l ha)) ⟨s0,l0,rfl,h,hI⟩
theorem vi{β:Type}{f:α->β}:∀{m g:AA β},m.Perm g->∀{l:AA α},g=l.map f->∃l':AA α,l'.Perm l/\l'.map f=m:=by
 intro m g h
 induction h with
 |nil=>simp
 |cons x _ ih=>
  intro l hl;cases l with
  |nil=>cases hl
  |cons a l=>
   simp[Vm,List.cons.injEq]at hl;obtain⟨l',d,j⟩:=ih hl.2;exact⟨a::l',d.cons _,gq⟩
 |swap x y m=>
  intro l hl
  match l,hl with
  |a::b::l,hl=>
   exact⟨b::a::l,List.Perm.swap _ _ _,gq⟩
 |trans _ _ ih1 ih2=>
  intro l hl;obtain⟨E,d,j⟩:=ih2 hl;obtain⟨q,B,t⟩:=ih1 j.symm;exact⟨q,B.trans d,t⟩
theorem QoT{all:Array AM}{L:AA AM}{d i:Nat}{x:Operand}{q:AB (A×A)}{s:S}{l:AA E}(hl:Tq stepE stepN G s l)
  (T:∀b,stepN s=AC b->G b->WO P h0 N all L (up env d (.tup [.bool AD])) H Q)
  (M:∀e l' D,stepE s e=AC D->(∀b,D=.d b->G b)->(l'.length<l.length/\ ∀s',D=.k s'->Tq stepE stepN G s' l')->
   WO P h0 N all L (up env d (.tup [.bool AE,(enc e).1,(enc e).2])) (H.set i (.iter (AC (enc e)) (l'.map enc))) Q)
  (O:o.op=.next x false:=by rfl)(hx:CS env x=.ptr i 0:=by rfl)(hH:H[i]?=AC (.iter q (l.map enc)):=by rfl)
  (hg:QB all o env true:=by rfl)(hd:o.dst=AC d:=by rfl)(hN:Nat.blt d N=true:=by rfl)(hh:Nat.ble h0 H.length=true:=by rfl):WO P h0 N all (o::L) env H Q:=by
 refine ip (XS hh) hg hd hN (UP.next O hx hH) ?_;rintro v H' (⟨y,rfl,rfl⟩|⟨e,V,y,rfl,rfl⟩)
 .have:=List.map_eq_nil_iff.1 y;subst this;obtain⟨b,m,j⟩:=hl [] (.refl _);exact T b m j
 .obtain⟨R,m,j⟩:=vi y rfl;cases R with
  |nil=>cases j
  |cons a l'=>
   obtain⟨rfl,rfl⟩:=j;have h:l'.length<l.length:=by rw[<- m.length_eq];simp
   have f:∀p,p.Perm l'->∃b,L7 stepE stepN s (a::p)=AC b/\G b:=λp t=>hl _ ((t.cons a).trans m);cases B:stepE s a with
   |none=>
    obtain⟨b,g,_⟩:=f l' (.refl _);simp[L7,B]at g
   |some D=>
    refine M a l' D B ?_ ⟨h,?_⟩
    .obtain⟨F,g,J⟩:=f l' (.refl _)
     grind[L7]
    .rintro s' rfl p t;obtain⟨F,g,J⟩:=f p t;simp[L7,B]at g;exact⟨F,g,J⟩
theorem Qr4{s:S}{l l':AA E}{D:CJ S B}(e:AC (CJ.k s)=AC D)(hc:l'.length<l.length/\ ∀s',D=.k s'->Tq stepE stepN G s' l')(h:Le h0 env H (Es s) (Hp s (l'.map enc))):
  jd (λenv H=>∃n',n'<l.length/\qk Es Hp stepE stepN G enc h0 n' env H) Q .normal env H:=
 ⟨_,hc.1,s,l',rfl,gq,h⟩
theorem Qr3{I:Env->Qb->Prop}{id:Nat}(h:Q (.exit id) env H):jd I Q (.exit id) env H:=h
end
def rZ(h0:Nat)(G:B->Prop)(Eb:B->Env)(Hb:B->Qb)(Q:Qx):Qx
 |.normal,env,H=>∃b,G b/\Le h0 env H (Eb b) (Hb b)
 |.exit id,env,H=>Q (.exit id) env H
 |.ret,env,H=>Q .ret env H
theorem QqG{S E:Type}{stepE:S->E->AB (CJ S B)}{stepN:S->AB B}{G:B->Prop}{s0:S}{l0:AA E}(hl:Tq stepE stepN G s0 l0)(Eb:B->Env)(Hb:B->Qb)
  (h:TC P h0 N c env H (rZ h0 G Eb Hb Q))(k:∀b env H,G b->Le h0 env H (Eb b) (Hb b)->Q .normal env H):TC P h0 N c env H Q:=
 h.mono λx env' H' q=>by
  cases x with
  |normal=>obtain⟨b,e,q⟩:=q;grind
  |exit id=>exact q
  |ret=>exact q
theorem di{B:Type}{G:B->Prop}{Eb:B->Env}{Hb:B->Qb}{b:B}(hG:G b)(h:Le h0 env H (Eb b) (Hb b)):rZ h0 G Eb Hb Q .normal env H:=⟨b,hG,h⟩
theorem vB{i:Nat}{d:AB (A×A)}{es:AA (A×A)}{H':Qb}(hH:H[i]?=AC (.iter d es))(g:H.set i (.iter AF es)=H'):Le h0 env H env H':=by
 subst g;intro O E σ N a w r;refine⟨E,σ,⟨r.sim.weaken hH rfl ?_,r.env,r.size,r.defers⟩,λ_ q=>q,rfl⟩;intro y h;cases y with
 |none=>exact h
 |some b=>
  rcases h with⟨j,B,x⟩|⟨m,l,f,t,left,j,B,x,J,M,F,L,G⟩
  .exact .inl ⟨j,rfl,x⟩
  .exact .inr gq
end
def mk(n:Int)(z:α):AB (AA α):=bif AG (0<=n)&&AG (n<=4294967296)then AC (List.replicate n.toNat z)else AF
theorem rR{α:Type}{n:Int}{z:α}{l:AA α}(h:mk n z=AC l):0<=n/\n<=4294967296/\List.replicate n.toNat z=l:=by
 unfold mk at h;cases q:(AG (0<=n)&&AG (n<=4294967296))with
 |true=>rw[q]at h;simp at q;exact⟨q.1,q.2,X0 h⟩
 |false=>rw[q]at h;cases h
theorem vj{α:Type}[Inhabited α](zl:AA α)(k:Nat)(hk:zl.length=k)(h0:0<k):∀n,(List.range (n*k)).map (λi=>zl.toArray[i%zl.toArray.size]!)=(List.replicate n zl).flatten
 |0=>sq
 |n+1=>by
  rw[Xm,List.range_add,Xf,vj zl k hk h0 n,List.replicate_succ',List.flatten_append];congr 1;simp only[Vo,List.flatten_nil,Vj,List.map_map];apply List.ext_getElem
  .simp[hk]
  .intro i h1 h2;simp only[X4,List.length_range]at h1;simp only[List.getElem_map,List.getElem_range,Function.comp,List.size_toArray,hk];rw[Nat.mul_comm,Nat.mul_add_mod,Nat.mod_eq_of_lt h1];simp[hk,h1]
section
variable {P:AK} {o:AM} {env:Env} {H:Qb} {ro:Nat->Prop} {σ:Cp} {w:AJ}
theorem LR.replicate{az:AA A}{l:AA AL}(h:LR ro σ w az l):∀n,LR ro σ w (List.replicate n az).flatten (List.replicate n l).flatten
 |0=>rfl
 |n+1=>by
  rw[Xl,Xl];exact h.append (LR.replicate h n)
theorem tN{α:Type}{e:α->AA A}{T et k:Nat}{x y:Operand}{Q V:IntKind}{n:Int}{zv:α}{l:AA α}{z:AL}{a:A}(hm:mk n zv=AC l)(E:ElemTy P T et k)(hz:∀w,(zeroValue et).run P w=.ok z w)(ab:ZR a z)
  (hk:QT a=AE)(hc:QU a=e zv)(hp:(QU a).all Q1=AE)(t:Nat.beq (e zv).length k=AE)
  (ho:o.op=.makeSlice T x y:=by rfl)(hx:CS env x=.int Q n:=by rfl)(hy:CS env y=.int V n:=by rfl)
  {fr ro:Nat->Prop}{σ:Cp}{N:Nat}{act:Act}{w:AJ}(r:DT fr ro σ H env N act w):∃lv:AA AL,(execOp act.eval o).run P w=.ok (.value (.slice (AC ⟨w.heap.size,0,AF⟩) l.length l.length)) (w.alloc (.cells lv.toArray et))/\
   LR ro [] w (l.map e).flatten lv/\(∀v∈lv,QA v)/\allK k (l.map e)/\lv.length=l.length*k/\l.length<=4294967296:=by
 obtain⟨n0,n1,hl⟩:=rR hm;have Y:=Qm r x;rw[hx]at Y;have h2:=Qm r y;rw[hy]at h2;have ac:act.eval x=.int Q n:=Y;have aa:act.eval y=.int V n:=h2;obtain⟨i,hi,aj⟩:=E.bytes;obtain⟨f,c1,c2⟩:=(ab ro [] w).cells hk;have F:f.length=k:=by
  rw[c2.length,hc];exact XR t
 have ah:(if n.toNat*k=0 then(#[]:Array AL)else f.toArray)=f.toArray\/n.toNat*k=0:=by
  by_cases q:n.toNat*k=0
  .exact .inr q
  .exact .inl (Vu q)
 have d:∀(ZZ:Array AL),(ZZ=f.toArray\/n.toNat*k=0)->(Array.range (n.toNat*k)).map (λj=>ZZ[j%ZZ.size]!)=((List.replicate n.toNat f).flatten).toArray:=by
  intro ZZ hZ;by_cases q:n.toNat*k=0
  .rw[q];have:(List.replicate n.toNat f).flatten=[]:=by
    apply VM.1;simp[F,q]
   rw[this];simp
  .obtain rfl:ZZ=f.toArray:=hZ.resolve_right q;have X:0<k:=by
    rcases Nat.eq_zero_or_pos k with h|h
    .rw[h,Nat.mul_zero]at q;exact absurd rfl q
    .exact h
   rw[<- vj f k F X n.toNat];simp[XJ, <- List.toArray_range]
 have M:=c2.replicate n.toNat;have af:allK k (List.replicate n.toNat (e zv)):=by
  have:∀m,allK k (List.replicate m (e zv)):=by
   intro m
   induction m with
   |zero=>trivial
   |succ m ih=>exact⟨XR t,ih⟩
  exact this _
 have g:∀v∈(List.replicate n.toNat f).flatten,QA v:=by
  intro v O;obtain⟨m,hm,O⟩:=List.mem_flatten.1 O;rw[List.eq_of_mem_replicate hm]at O;exact c2.plain hp v O
 rw[hc]at M;have B:l.map e=List.replicate n.toNat (e zv):=by rw[<- hl,List.map_replicate]
 have G:l.length=n.toNat:=by rw[<- hl];simp
 refine⟨(List.replicate n.toNat f).flatten,?_,by rw[B];exact M,g,by rw[B];exact af,by rw[G];simp[F],om⟩;rw[G]
 .have hw:IntKind.i64.wrap n=n:=by
   unfold IntKind.wrap;simp[IntKind.bits,IntKind.signed];omega
  have R:∀(x:Nat) (W:AJ),(askRoom x).run P W=.ok () W:=by
   intro x W;unfold askRoom;split<;>rfl
  have J:∀(c:Array AL) (W:AJ),(newRow et c).run P W=.ok ⟨W.heap.size,0,AF⟩ (W.alloc (.cells c et)):=λc W=>rfl;have ag:¬(n<0):=om;have ad:¬((i.bytes:Int)*n>2^48):=by
   have Y:(i.bytes:Int)*n<=4096*4294967296:=Int.mul_le_mul om n1 n0 om;omega
  have L:(Instr.makeSlice T (.int Q n) (.int V n)).run P w=.ok (.slice (AC ⟨w.heap.size,0,AF⟩) n.toNat n.toNat) (w.alloc (.cells ((List.replicate n.toNat f).flatten).toArray et)):=by
   have ai:¬(n>n):=om;have ae:∀(k:IntKind) (m:Int) (W:AJ),(asInt (.int k m)).run P W=.ok m W:=λk m W=>rfl;unfold Instr.makeSlice;simp only[Vp,E.sl,E.size,hi,Result.andThen,ae,Vq,hw,R,XI];rw[Vu (by simp[ag,ad];omega)];by_cases q:n.toNat*k=0
   .simp only[q,if_true,Vq];have:=d #[] (.inr q);rw[q]at this;simp only[this,J]
   .simp only[q,if_false,hz,Vq,c1,d f.toArray (.inl rfl),J]
  generalize act.eval=ρ at*;simp only[execOp,ho,ac,aa,Vp,L,Result.andThen];rfl
theorem nh{α:Type}{e:α->AA A}{T et k:Nat}{x y:Operand}{F M:IntKind}{n:Int}{zv:α}{l:AA α}{z:AL}{a:A}(h:mk n zv=AC l)(E:ElemTy P T et k)(Q:∀w,(zeroValue et).run P w=.ok z w)(f:ZR a z)
  (hk:QT a=AE)(R:QU a=e zv)(g:(QU a).all Q1=AE)(d:Nat.beq (e zv).length k=AE)
  (j:o.op=.makeSlice T x y:=by rfl)(hx:CS env x=.int F n:=by rfl)(hy:CS env y=.int M n:=by rfl):
  Fb P o env H (.osl H.length 0 l.length k) (H++[.row et k (l.map e)]):=by
 intro W B σ N act w r;obtain⟨J,G,m,O,q,L,V⟩:=tN h E Q f hk R g d j hx hy r;have hs:=r.sim.allocRow (t:=et) (rest:=[]) q m O;rw[Vj]at hs;refine⟨_,_,B,[AC w.heap.size],G,.inr ⟨w.heap.size,0,l.length,et,J.length,?_,rfl,λ_=>sq,⟨XU _,om⟩,?_,by rw[L,Xx];exact XU _⟩,hs,Qe.alloc _ r.sim.roLt r.sim.frLt⟩
 .rw[<- r.sim.len];simp
 .unfold World.shape?;rw[Yo];simp
end
open Go.Sort Go.Proofs Go.Shelf
section
variable {α:Type}
def ins(lt:α->α->Bool)(x:α):AA α->AA α
 |[]=>[x]
 |y::l=>bif lt y x then y::ins lt x l else x::y::l
def MA(lt:α->α->Bool):AA α->AA α
 |[]=>[]
 |x::l=>ins lt x (MA lt l)
theorem n8(lt:α->α->Bool)(x:α):∀l,(ins lt x l).Perm (x::l)
 |[]=>.refl _
 |y::l=>by
  unfold ins;cases lt y x
  .exact .refl _
  .exact((n8 lt x l).cons y).trans (List.Perm.swap _ _ _)
theorem YT(lt:α->α->Bool):∀l,(MA lt l).Perm l
 |[]=>.refl _
 |x::l=>(n8 lt x _).trans ((YT lt l).cons x)
structure OK (lt:α->α->Bool) (l:List α):Prop where
 irrefl:∀x∈l,lt x x=AD
 trans:∀x∈l,∀y∈l,∀z∈l,lt x y=AE->lt y z=AE->lt x z=AE
 ntrans:∀x∈l,∀y∈l,∀z∈l,lt x y=AD->lt y z=AD->lt x z=AD
theorem OK.mono{lt:α->α->Bool}{l m:AA α}(h:OK lt l)(hm:∀x∈m,x∈l):OK lt m:=
 ⟨λx hx=>h.irrefl x (hm x hx),λx hx y hy z hz=>h.trans x (hm x hx) y (hm y hy) z (hm z hz),λx hx y hy z hz=>h.ntrans x (hm x hx) y (hm y hy) z (hm z hz)⟩
theorem OK.asymm{lt:α->α->Bool}{l:AA α}(h:OK lt l){x y:α}(hx:x∈l)(f:y∈l)(d:lt x y=AE):lt y x=false:=by
 cases q:lt y x
 .rfl
 .rw[<- h.irrefl x hx,h.trans x hx y f x hx d q]
theorem wE{lt:α->α->Bool}{x:α}:∀{l:AA α},OK lt (x::l)->l.Pairwise (λa b=>lt b a=AD)->(ins lt x l).Pairwise (λa b=>lt b a=AD)
 |[],_,_=>by simp[ins]
 |y::l,h,hp=>by
  obtain⟨h1,h2⟩:=Xc.1 hp;unfold ins;cases q:lt y x
  .refine Xc.2 ⟨λz hz=>?_,hp⟩;rcases X9.1 hz with rfl|hz
   .exact q
   .exact h.ntrans z (by simp[hz]) y sq x sq (h1 z hz) q
  .refine Xc.2 ⟨λz hz=>?_,wE (h.mono gq) h2⟩;rcases X9.1 ((n8 lt x l).mem_iff.1 hz)with rfl|hz
   .exact h.asymm sq sq q
   grind
theorem js{lt:α->α->Bool}:∀{l:AA α},OK lt l->(MA lt l).Pairwise (λa b=>lt b a=AD)
 |[],_=>by simp[MA]
 |x::l,h=>wE (h.mono (by
   intro z hz;rcases X9.1 hz with rfl|hz
   .simp
   grind[YT])) (js (h.mono gq))
theorem pB{lt:α->α->Bool}:∀{l m:AA α},l.Perm m->(∀x∈l,∀y∈l,lt x y=AD->lt y x=AD->x=y)->l.Pairwise (λa b=>lt b a=AD)->m.Pairwise (λa b=>lt b a=AD)->l=m
 |[],m,h,_,_,_=>by simp_all
 |x::l,[],h,_,_,_=>by simp_all
 |x::l,y::m,h,ha,hl,hm=>by
  obtain⟨l1,l2⟩:=Xc.1 hl;obtain⟨m1,m2⟩:=Xc.1 hm;have hy:y∈x::l:=h.mem_iff.2 sq;have hxy:x=y:=by
   grind
  subst hxy;rw[pB (by simp_all) gq l2 m2]
def HL(cf:α->α->AB Int)(x y:α):Bool:=match cf x y with
 |some c=>AG (c<0)
 |none=>AD
def eM[DecidableEq α](cf:α->α->AB Int)(l:AA α):Bool:=
 l.all λx=> !HL cf x x&&l.all λy=>(cf x y).isSome&&(HL cf x y||HL cf y x||AG (x=y))&&l.all λz=>(!HL cf x y|| !HL cf y z||HL cf x z)&&(HL cf x y||HL cf y z|| !HL cf x z)
def MB[DecidableEq α](cf:α->α->AB Int)(l:AA α):AB (AA α):=bif Nat.ble l.length Yp&&eM cf l then AC (MA (HL cf) l)else AF
theorem oV[DecidableEq α]{d:α->α->AB Int}{l l':AA α}(h:MB d l=AC l'):
  l.length<=Yp/\(∀x∈l,∀y∈l,∃c,d x y=AC c)/\OK (HL d) l/\(∀x∈l,∀y∈l,HL d x y=AD->HL d y x=AD->x=y)/\MA (HL d) l=l':=by
 unfold MB at h;cases m:Nat.ble l.length Yp with
 |false=>grind
 |true=>
 rw[m,VC]at h;cases q:eM d l with
 |false=>grind
 |true=>
  rw[q]at h;refine⟨(by simp_all),?_⟩;unfold eM at q;simp[Xs,XX,Bool.not_eq_true',Bool.or_eq_true]at q;refine⟨λx hx y f=>Option.isSome_iff_exists.1 ((q x hx).2 y f).1.1,⟨λx hx=>(q x hx).1,λx hx y f z t j g=>?_,λx hx y f z t j g=>?_⟩,λx hx y f j g=>?_,X0 h⟩
  .grind
  .grind
  grind
theorem Qnz[DecidableEq α]{d:α->α->AB Int}{l:AA α}(f:l.length<=Yp)(c:α->α->Int)(h:∀x∈l,∀y∈l,d x y=AC (c x y))(hi:∀x∈l,¬c x x<0)
  (g:∀x∈l,∀y∈l,∀z∈l,c x y<0->c y z<0->c x z<0)(hn:∀x∈l,∀y∈l,∀z∈l,¬c x y<0->¬c y z<0->¬c x z<0)(j:∀x∈l,∀y∈l,¬c x y<0->¬c y x<0->x=y):
  MB d l=AC (MA (HL d) l):=by
 have hl:∀x∈l,∀y∈l,HL d x y=AG (c x y<0):=λx hx y m=>by unfold HL;grind
 have q:eM d l=true:=by
  unfold eM
  grind
 simp_all[MB,XT]
theorem fN[DecidableEq α]{d:α->α->AB Int}{l l':AA α}(h:MB d l=AC l'):l.length=l'.length:=by
 rw[<- (oV h).2.2.2.2];exact(YT _ _).length_eq.symm
theorem Yh{l l':AA α}{i:Int}{x:α}(h:JF l i x=AC l'):l.length=l'.length:=by
 grind[JF]
theorem Q3{f:Nat}{env:Env}{H:Qb}{s:Nat}{a a':A}(h:lk env s=a)(e:a=a'):Le f env H (up env s a') H:=by
 intro j g σ N act w r;refine⟨g,σ,⟨r.sim,λd=>?_,r.size,r.defers⟩,λ_ q=>q,rfl⟩;subst e;have:lk (up env s a) d=lk env d:=by
  simp[lk];cases q:Nat.beq d s with
  |true=>simp_all
  |false=>rfl
 rw[this];exact r.env d
end
section
variable {fr ro:Nat->Prop} {σ:Cp} {H:Qb} {w w':AJ}
theorem wj(hh:∀b,b<w.heap.size->w'.heap[b]?=w.heap[b]?)(hro:∀b,ro b->b<w.heap.size)(σ:Cp):Dh ro σ w ro σ w':=
 ⟨λ_ q=>q,gq,λb x hx=>by grind[World.shape?],λ_ _ q=>q⟩
theorem Cm.grown(s:Cm fr ro σ H w)(g:∀b,b<w.heap.size->w'.heap[b]?=w.heap[b]?)(hs:w.heap.size<=w'.heap.size):Cm fr ro σ H w':=by
 refine⟨s.len,s.roOk.to (λ_ q=>q) (λb q=>g b (s.roLt b q)) (λb h=>Vi (s.roLt b h) hs),λb h=>Vi (s.frLt b h) hs,s.roFr,λi b x d f j=>?_,s.inj,λi y x d f=>?_⟩
 .obtain⟨p,q⟩:=s.own i b x d f j
  grind
 .refine(s.blk i y x d f).keep (wj g s.roLt σ) ?_;rintro b rfl hl;exact g b (s.own i b x d f hl).1
theorem Qe.grown(hh:∀b,b<w.heap.size->w'.heap[b]?=w.heap[b]?)(hs:w.heap.size<=w'.heap.size)(s:Cm fr ro σ H w)(ho:w'.os=w.os)(ht:w'.tape=w.tape)(hu:w'.output=w.output)(hd:w.drawn<=w'.drawn):Qe fr ro w ro w':=
 ⟨λ_ q=>q,λb h=>hh b (s.roLt b h),λb h=>hh b (s.frLt b h),hs,(wj hh s.roLt σ).shape,ho,ht,hu,hd⟩
theorem Qp0(t:∀b,b<w.heap.size->w'.heap[b]?=w.heap[b]?)(hs:w.heap.size<=w'.heap.size)(f:w'.os=w.os)(j:w'.tape=w.tape)(h:w'.output=w.output)(m:w.drawn<=w'.drawn):
  ∃q os',w'=grow (w.drewN q) os':=by
 refine⟨w'.drawn-w.drawn,w'.heap.extract w.heap.size w'.heap.size,?_⟩;obtain⟨d,B,g,y,F⟩:=w';simp only at t hs f j h m;subst f j h;unfold grow World.drewN;have x:d=w.heap++d.extract w.heap.size d.size:=by
  grind
 have E:g=w.drawn+(g-w.drawn):=om
 grind
end
end
section
open Go.Sort Go.Proofs Go.Shelf
theorem wk{α:Type}{k:Nat}:∀(vs:AA (AA α)) (j:Nat),(∀v∈vs,v.length=k)->j<vs.length*k->vs.flatten[j]?=(vs[j/k]?).bind λv=>v[j%k]?
 |[],j,_,h=>by simp at h
 |v::vs,j,hk,h=>by
  have hv:=hk v sq;have k0:0<k:=by
   rcases Nat.eq_zero_or_pos k with q|q
   .subst q;simp at h
   .exact q
  rw[Vo];by_cases q:j<k
  .rw[XN om,Nat.div_eq_of_lt q,Nat.mod_eq_of_lt q];simp
  .rw[XO om,hv,wk vs (j-k) (λv hv=>hk v (by simp[hv])) (by simp[Xm]at h;omega)];have f:j/k=(j-k)/k+1:=by rw[Nat.div_eq_sub_div k0 om]
   have d:j%k=(j-k)%k:=Nat.mod_eq_sub_mod om;rw[f,d,XG]
theorem fW{α:Type}{k:Nat}:∀(vs:AA (AA α)),(∀v∈vs,v.length=k)->vs.flatten.length=vs.length*k
 |[],_=>sq
 |v::vs,h=>by rw[Vo,X5,fW vs (λv hv=>h v (by simp[hv])),h v sq,X3,Xm];omega
theorem fO{α:Type}(F:AA α)(j:Nat):F.toArray[j]?=F[j]? :=sq
theorem uf{α:Type}[Inhabited α](F:AA α)(j:Nat)(h:j<F.length):F[j]?=AC (F.toArray[j]!):=by simp[h]
theorem uc{β:Type}[Inhabited β]{enc:β->AA AL}{k:Nat}(hk:∀x,(enc x).length=k)(d:Array β):flatK enc k d=((d.toList.map enc).flatten).toArray:=by
 have hl:∀v∈d.toList.map enc,v.length=k:=by
  intro v g;obtain⟨x,_,rfl⟩:=Xe.1 g;exact hk x
 apply Array.ext_getElem?;intro t;rw[fO ((d.toList.map enc).flatten) t];by_cases h:t<d.size*k
 .rw[wk _ t hl (by simpa using h)];have m:0<k:=by
   rcases Nat.eq_zero_or_pos k with q|q
   .subst q;simp at h
   .exact q
  have h1:=Nat.div_lt_of_lt_mul (by rw[Nat.mul_comm];exact h);have j:t%k<k:=Nat.mod_lt _ m;have f:t<(flatK enc k d).size:=by simpa using h
  have e:=get_flatK enc k d t h;rw[getElem!_pos (flatK enc k d) t f]at e;rw[Array.getElem?_eq_getElem f,e];simp[h1];rw[XL (by rw[hk];exact j)];rfl
 .have e:(d.toList.map enc).flatten.length=d.size*k:=by rw[fW _ hl];simp
  rw[Array.getElem?_eq_none (by simpa using h),XP om]
section
variable {ro:Nat->Prop} {σ:Cp} {w:AJ} {T:Type} {enc:T->AA A} {k:Nat}
theorem RL.parts:∀{l:AA T} {lv:AA AL},RL ro σ w k (l.map enc) lv->
  ∃(ps:AA (T×AA AL)) (rest:AA AL),ps.map (·.1)=l/\lv=(ps.map (·.2)).flatten++rest/\ ∀p∈ps,p.2.length=k/\LR ro σ w (enc p.1) p.2/\ ∀v∈p.2,QA v
 |[],lv,_=>⟨[],lv,rfl,rfl,sq⟩
 |x::l,lv,h=>by
  obtain⟨l1,l2,rfl,h1,⟨h2,h3⟩,h4⟩:=h;obtain⟨ps,rest,e1,rfl,h5⟩:=RL.parts h4;refine⟨(x,l1)::ps,rest,by simp[e1],sq,?_⟩;intro p hp;rcases X9.1 hp with rfl|hp
  .exact⟨by rw[h2.length];exact h1,h2,h3⟩
  .exact h5 p hp
theorem wY(hk:∀x,(enc x).length=k):∀{ps:AA (T×AA AL)} {rest:AA AL},(∀p∈ps,LR ro σ w (enc p.1) p.2/\ ∀v∈p.2,QA v)->RL ro σ w k ((ps.map (·.1)).map enc) ((ps.map (·.2)).flatten++rest)
 |[],_,_=>trivial
 |p::ps,rest,h=>by
  refine⟨p.2,(ps.map (·.2)).flatten++rest,sq,hk _,h p sq,wY hk λq hq=>h q (by simp[hq])⟩
end
structure Elt (ro:Nat->Prop) (w:AJ) {T:Type} (enc:T->List A) (k:Nat) (l:List T) where
 x:T
 vs:List AL
 mem:x∈l
 len:vs.length=k
 rel:LR ro [] w (enc x) vs
 plain:∀v∈vs,QA v
theorem QlZ{v:AL}(h:QA v):v.oneCell'=true:=by cases v<;>first|rfl|exact h.elim
theorem sy{P:AK}{ρ:Ren}(L:SlLaysF0.n6 P ρ){T:Type}[DecidableEq T]{enc:T->AA A}{k t g:Nat}{cap:AA A}{l l':AA T}{cf:T->T->AB Int}(hs:MB cf l=AC l')
  (a9:∀x y c,cf x y=AC c->C P g ([.agg (enc x),.agg (enc y)]++cap) [] (λa H=>a=.int .i64 c/\H=[]))
  (aE:∀w,(isAgg (ρ.t 24)).run P w=.ok AE w)(zE:∀w,(Go.sizeOf (ρ.t 24)).run P w=.ok k w)(eg:∀args w,(callFunc g args).run P w=.ok (.enter g args) w)
  (hk:∀x,(enc x).length=k)(hd:Q8 cap=AE):
  C P (ρ.f 6) [.osl 0 0 l.length k,.fn (.func g) [] cap] [.row t k (l.map enc)] (λa H=>a=.tup []/\H=[.row t k (l'.map enc)]):=by
 intro fr M σ vals w s hv;obtain⟨vs,r1,rfl,bk,vf,r2,rfl,bj,hr⟩:=hv;cases(show r2=[]from hr);obtain⟨lf,lc,rfl,h1,a2⟩:=bj;cases(show lf=[]from h1);have az:LR M [] w cap lc:=LR.data hd a2;obtain⟨be,am,O,a1,bg⟩:=oV hs;have F:∀(ad:AB Addr) (c:Nat),vs=.slice ad 0 c->l=[]->
   Calls P (ρ.f 6) [vs,.func (.func g) #[] lc.toArray].toArray w λe w'=>∃v r H' ag τ,e=.returned v/\(r=.tup []/\H'=[.row t k (l'.map enc)])/\Cm fr ag (σ++τ) H' w'/\VR ag (σ++τ) w' r v/\Qe fr M w ag w':=by
  rintro ad c rfl rfl;have ae:l'=[]:=by rw[<- bg];rfl
  subst ae;refine(AnyF.slices_SortFunc_none L ad c (.func (.func g) #[] lc.toArray) w).mono ?_;rintro e w' ⟨rfl,rfl⟩;exact⟨_,_,_,M,[],rfl,⟨rfl,rfl⟩,by simpa using s,⟨[],rfl,rfl⟩,Qe.refl _ _ _⟩
 rcases bk with⟨h0,rfl⟩|⟨b,p,cp,t',m,q1,rfl,q2,⟨q3,bx⟩,q4,q5⟩
 .exact F AF 0 rfl (VM.1 h0)
 .by_cases ae:l=[]
  .subst ae;exact F _ cp rfl rfl
  .have bw:0<l.length:=List.length_pos_iff.2 ae;obtain rfl:=q2 (Vi bw q3);obtain⟨lv,e1,e2⟩:=s.blk 0 _ _ q1 rfl;obtain⟨hb,ao,a3⟩:=s.own 0 b _ q1 rfl rfl;obtain⟨X,J,a7,rfl,ai⟩:=RL.parts e2
   let α:=Elt M w enc k l
   have a8:∀p∈X,p.1∈l:=λp hp=>by rw[<- a7];exact VJ hp
   let ds:AA α:=X.attach.map λp=>⟨p.1.1,p.1.2,a8 _ p.2,(ai _ p.2).1,(ai _ p.2).2.1,(ai _ p.2).2.2⟩
   have bc:∀{γ:Type} (f:T×AA AL->γ),X.attach.map (λp=>f p.1)=X.map f:=λf=>sq;have N:ds.map (·.x)=l:=by
    show(X.attach.map _).map _=_;rw[List.map_map];exact(bc (·.1)).trans a7
   have ak:ds.map (·.vs)=X.map (·.2):=by
    show(X.attach.map _).map _=_;rw[List.map_map];exact bc (·.2)
   have ay:ds.length=l.length:=by rw[<- N];simp
   have a6:ds≠[]:=by intro q;rw[q]at ay;simp at ay;omega
   let inh:Inhabited α:=⟨ds.head a6⟩
   let enc':α->AA AL:=λa=>a.vs
   let cf':α->α->Int:=λx y=>(cf x.x y.x).getD 0
   have af:∀x y:α,ltOf cf' x y=HL cf x.x y.x:=by
    intro x y;obtain⟨c,E⟩:=am x.x x.mem y.x y.mem;simp only[ltOf,HL,cf',E,Option.getD_some]
   have hO:SWO (ltOf cf'):=⟨λx=>by rw[af];exact O.irrefl _ x.mem,λx y z a b=>by rw[af]at*;exact O.trans _ x.mem _ y.mem _ z.mem a b,
    λx y z a b=>by rw[af]at*;exact O.ntrans _ x.mem _ y.mem _ z.mem a b⟩
   have aa:∀x:α,(enc' x).length=k:=λx=>x.len;have a0:flatK enc' k ds.toArray=((X.map (·.2)).flatten).toArray:=by
    rw[uc aa];show((ds.map λa=>a.vs).flatten).toArray=_;rw[ak]
   have bo:∀v∈X.map (·.2),v.length=k:=by
    intro v hv;obtain⟨p,hp,rfl⟩:=Xe.1 hv;exact(ai p hp).1
   have ac:(X.map (·.2)).flatten.length=ds.length*k:=by rw[fW _ bo, <- ak];simp
   have hH:HoldsK enc' k w b (0*k) ds.toArray:=by
    intro j hj;rw[a0]at hj⊢;simp only[List.size_toArray]at hj;constructor
    .unfold World.cell?;simp only[e1,Option.isSome_none,Xi,if_false,Nat.zero_mul,Xx];rw[fO,XN hj];exact uf _ _ hj
    .unfold World.frozen?;simp only[e1];simp
   have aw:∀(d:Array α),d.size=ds.toArray.size->(putRowK enc' k w b (0*k) d).heap=w.heap.setIfInBounds b (.cells (((d.toList.map enc').flatten++J)).toArray t (0,0)):=by
    intro d B;have ah:(d.toList.map enc').flatten.length=(X.map (·.2)).flatten.length:=by
     rw[fW _ (k:=k) (by intro v hv;obtain⟨x,_,rfl⟩:=Xe.1 hv;exact aa x),ac];simp at B⊢;rw[B]
    unfold putRowK putRow mapBlock;show w.heap.modify b _=_;rw[og e1];simp only[onCells];congr 2;rw[uc aa];unfold putCells;apply Array.ext_getElem?;intro i;simp only[Array.getElem?_mapIdx,fO,Nat.zero_mul,XV,true_and,Xx,Nat.sub_zero,List.size_toArray,id_eq];by_cases hi:i<(d.toList.map enc').flatten.length
    .rw[XN hi,XN (by rw[<- ah];exact hi),XL (by rw[<- ah];exact hi),uf _ _ hi];exact congrArg AC (Vv hi)
    .rw[XO om,XO om,ah];cases(J[i-(X.map (·.2)).flatten.length]?)with
     |none=>rfl
     |some v=>
      rw[<- ah];exact congrArg AC (Vu hi)
   have V:∀(m:Nat) (os:Array Obj) (d:Array α),d.size=ds.toArray.size->
     (∀c,c<w.heap.size->c≠b->(sortWorldK enc' k w b (0*k) m d os).heap[c]?=w.heap[c]?)/\(sortWorldK enc' k w b (0*k) m d os).heap[b]?=AC (.cells (((d.toList.map enc').flatten++J)).toArray t (0,0))/\
     w.heap.size<=(sortWorldK enc' k w b (0*k) m d os).heap.size:=by
    intro m os d B;have e:(sortWorldK enc' k w b (0*k) m d os).heap=w.heap.setIfInBounds b (.cells (((d.toList.map enc').flatten++J)).toArray t (0,0))++os:=by
     rw[<- aw d B];rfl
    rw[e];refine⟨λc E bp=>?_,?_,sq⟩
    .rw[Array.getElem?_append_left (by simpa using E),Vh,Vu (λq=>bp q.symm)]
    .rw[Array.getElem?_append_left (by simpa using hb),Vh,Vv rfl,Vv hb]
   have R:∀(m:Nat) (os:Array Obj) (d:Array α),d.size=ds.toArray.size->∀c y,w.shape? c=AC y->(sortWorldK enc' k w b (0*k) m d os).shape? c=AC y:=by
    intro m os d B c y hy;obtain⟨g1,g2,g3⟩:=V m os d B;by_cases E:c=b
    .subst E;unfold World.shape? at hy⊢;rw[e1]at hy;rw[g2];simp only[Option.some.injEq]at hy⊢;rw[<- hy];congr 1;simp only[List.size_toArray,X5];rw[fW _ (k:=k) (by intro v hv;obtain⟨x,_,rfl⟩:=Xe.1 hv;exact aa x),ac];simp at B⊢;rw[B]
    .unfold World.shape? at hy⊢;rw[g1 c (QnC hy) E];exact hy
   have an:∀(m:Nat) (os:Array Obj) (d:Array α),d.size=ds.toArray.size->∀τ,Dh M τ w M τ (sortWorldK enc' k w b (0*k) m d os):=by
    intro m os d B τ;obtain⟨g1,g2,g3⟩:=V m os d B;exact⟨λ_ q=>q,λc E=>g1 c (s.roLt c E) (λq=>ao (q▸E)),R m os d B,λ_ _ q=>q⟩
   have bv:CmpLays P g lc.toArray enc' k cf' b (0*k) ds.toArray.size w:=by
    intro m os dk a4 x y;obtain⟨c,E⟩:=am x.x x.mem y.x y.mem;have G:=an m os dk a4 [];have br:=a9 _ _ _ E;generalize hW:sortWorldK enc' k w b (0*k) m dk os=W at*;have bq:w.heap.size<=W.heap.size:=by rw[<- hW];exact(V m os dk a4).2.2
    have sW:Cm (λc=>c<W.heap.size/\ ¬M c) M [] [] W:=
     ⟨rfl,s.roOk.to (λ_ q=>q) G.keep (λc E=>Vi (s.roLt c E) bq),λc E=>E.1,λc E hf=>hf.2 E,λi b x h=>by simp at h,λi j b x y h=>by simp at h,λi y x h=>by simp at h⟩
    have ax:LR M [] W ([.agg (enc x.x),.agg (enc y.x)]++cap) ([.agg x.vs.toArray,.agg y.vs.toArray]++lc):=
     LR.append (show LR M [] W [A.agg (enc x.x),A.agg (enc y.x)] [Value.agg x.vs.toArray,Value.agg y.vs.toArray]from⟨_,_,rfl,⟨x.vs,rfl,x.rel.mono G⟩,_,_,rfl,⟨y.vs,rfl,y.rel.mono G⟩,rfl⟩) (az.mono G)
    have Q:=br _ M [] _ W sW ax;have bi:(([Value.agg x.vs.toArray,Value.agg y.vs.toArray]++lc).toArray:Array AL)= #[Value.agg (enc' x).toArray,Value.agg (enc' y).toArray]++lc.toArray:=by simp[enc']
    rw[bi]at Q;refine Q.mono ?_;rintro e w' ⟨v,r,H',ag,τ,rfl,⟨rfl,rfl⟩,s',bh,ev⟩;refine⟨?_,?_⟩
    .rw[show v=.int .i64 c from bh];simp only[cf',E,Option.getD_some]
    .refine Qp0 (λc E=>?_) ev.size ev.os ev.tape ev.output ev.drawn;by_cases a5:M c
     .exact ev.keepRo c a5
     .exact ev.keepFr c ⟨E,a5⟩
   have ab:ds.toArray.size=l.length:=by simpa using ay
   have aj:=AnyQ.slices_SortFunc L k aE zE enc' aa (λx v hv=>QlZ (x.plain v hv)) cf' hO g lc.toArray b (0*k) cp ds.toArray w eg bv hH hb (by rw[ab];unfold Yp at be;omega);rw[ab]at aj;refine aj.mono ?_;rintro e w' ⟨rfl,d,n,os,Y,av,rfl⟩;have B:d.size=ds.toArray.size:=Y.1;obtain⟨g1,g2,g3⟩:=V n os d B;have aq:d.toList.Perm ds:=by
    have h:=Y.2.2;have x1:d.extract 0 l.length=d:=by rw[<- ab, <- B];exact Array.extract_size
    have x2:ds.toArray.extract 0 l.length=ds.toArray:=by rw[<- ab];exact Array.extract_size
    rw[x1,x2]at h;simpa using h
   have bb:d.toList.map (·.x)=l':=by
    rw[<- bg];refine pB (lt:=HL cf) ?_ ?_ ?_ (js O)
    .exact((aq.map (·.x)).trans (by rw[N])).trans (YT _ _).symm
    .intro x hx y hy;have bn:x∈l:=by rw[<- N];exact(aq.map (·.x)).mem_iff.1 hx
     have bs:y∈l:=by rw[<- N];exact(aq.map (·.x)).mem_iff.1 hy
     exact a1 x bn y bs
    .rw[VH];intro i j hi hj bl;simp only[X4]at hi hj;simp only[List.getElem_map];rw[<- af];have:=av i j (XV _) bl (by rw[<- ab, <- B];simpa using hj);rw[getElem!_pos d j (by simpa using hj),getElem!_pos d i (by simpa using hi)]at this;simpa using this
   have bm:RL M [] (sortWorldK enc' k w b (0*k) n d os) k (l'.map enc) ((d.toList.map enc').flatten++J):=by
    have e3:d.toList.map enc'=(d.toList.map λa=>(a.x,a.vs)).map (·.2):=by simp[enc']
    have e4:l'=(d.toList.map λa=>(a.x,a.vs)).map (·.1):=by rw[<- bb];simp
    rw[e3,e4];refine wY hk ?_;intro p hp;obtain⟨a,_,rfl⟩:=Xe.1 hp;exact⟨a.rel.mono (an n os d B []),a.plain⟩
   have bd:Qe fr M w M (sortWorldK enc' k w b (0*k) n d os):=
    ⟨λ_ q=>q,λc E=>g1 c (s.roLt c E) (λq=>ao (q▸E)),λc E=>g1 c (s.frLt c E) (λq=>a3 (q▸E)),g3,R n os d B,rfl,rfl,rfl,Nat.le_add_right _ _⟩
   have ar:σ.length=1:=s.len;have ba:Cm fr M σ [.row t k (l'.map enc)] (sortWorldK enc' k w b (0*k) n d os):=by
    have i0:∀{i:Nat} {x:Ci},([.row t k (l'.map enc)]:Qb)[i]?=AC x->i=0/\x=.row t k (l'.map enc):=by
     intro i x h;cases i with
     |zero=>simp at h;exact⟨rfl,h.symm⟩
     |succ i=>simp at h
    refine⟨ar,s.roOk.to (λ_ q=>q) bd.keepRo (λc E=>Vi (s.roLt c E) g3),λc E=>Vi (s.frLt c E) g3,s.roFr,λi c x h1 h2 h3=>?_,λi j c x y h1 h2 h3 h4 _ _=>?_,λi y x h1 h2=>?_⟩
    .obtain⟨rfl,rfl⟩:=i0 h2;obtain⟨p1,p2⟩:=s.own 0 c _ h1 rfl rfl;exact⟨Vi p1 g3,p2⟩
    .rw[(i0 h3).1,(i0 h4).1]
    .obtain⟨rfl,rfl⟩:=i0 h2;rw[q1]at h1;cases h1;exact⟨_,g2,bm⟩
   exact⟨_,_,_,M,[],rfl,⟨rfl,rfl⟩,by simpa using ba,⟨[],rfl,rfl⟩,bd⟩
end
section
section
variable {P:AK} {o:AM} {env:Env} {H:Qb} {fr ro:Nat->Prop} {σ:Cp} {w:AJ}
theorem Cm.addRo(s:Cm fr ro σ H w){b:Nat}(j:b<w.heap.size)(g:¬fr b)(B:∀(i:Nat) (x:Ci),σ[i]?=AC (AC b)->H[i]?=AC x->x.live=AE->False):Cm fr (λc=>ro c\/c=b) σ H w:=by
 refine⟨s.len,s.roOk.to (λ_ q=>.inl q) (λ_ _=>rfl) ?_,s.frLt,?_,?_,s.inj,?_⟩
 .rintro c (q|rfl)
  .exact s.roLt c q
  .exact j
 .rintro c (q|rfl)
  .exact s.roFr c q
  .exact g
 .intro i c x f d h;obtain⟨t,E,m⟩:=s.own i c x f d h
  grind
 .intro i y x f d;exact(s.blk i y x f d).keep ⟨λ_ q=>.inl q,λ_ _=>rfl,λ_ _ q=>q,λ_ _ q=>q⟩ (λ_ _ _=>rfl)
theorem YZ{T e k n:Nat}{xs:AA Operand}{es:AA (AA A)}(E:ElemTy P T e k)(R:o.op=.buildSlice T n (Jl 0 xs).toArray)(hn:xs.length=n)(F:Nat.ble (n*k) 16777216=AE)
  (hk:(xs.all λx=>QT (CS env x))=AE)(B:Q7 env xs=es)(J:allK k es)(O:es.flatten.all Q1=AE)(L:Q8 es.flatten=AE):
  Fb P o env H (.rsl k es) H:=by
 intro fr d σ N a w r;subst B;obtain⟨l,Y,G⟩:=xM r E hn F hk J;have t:LR d [] w (Q7 env xs).flatten l:=G.data L;have h:∀b,b<w.heap.size->(w.alloc (.cells l.toArray e)).heap[b]?=w.heap[b]? :=λb X=>Y7 _ _ b X;have f:w.heap.size<=(w.alloc (.cells l.toArray e)).heap.size:=sq;have W:=r.sim.grown h f;have g:Qe fr d w d (w.alloc (.cells l.toArray e)):=Qe.alloc _ r.sim.roLt r.sim.frLt;have s2:=W.addRo sq (λq=>Nat.lt_irrefl _ (r.sim.frLt _ q)) (λi x Q V M=>Nat.lt_irrefl _ (r.sim.own i _ x Q V M).1);have y:RL d [] (w.alloc (.cells l.toArray e)) k (Q7 env xs) l:=by
  have:=Js (rest:=[]) J (t.mono (g.ext0 [])) (G.plain O)
  grind
 have j:(Q7 env xs).length=n:=by simp[Q7,hn]
 refine⟨_,_,λc=>d c\/c=w.heap.size,[],xR R a.eval Y,(⟨AC ⟨w.heap.size,0,AF⟩,n,by rw[j],om,.inr ⟨w.heap.size,0,rfl,.inr rfl,?_⟩⟩),gq,g.trans (Q6 λ_ q=>.inl q)⟩;have m:(w.alloc (.cells l.toArray e)).heap[w.heap.size]?=AC (.cells ([]++l).toArray e (0,0)):=Yo _ _;have:=YV m y;exact this.keep ⟨λ_ q=>.inl q,λ_ _=>rfl,λ_ _ q=>q,λ_ _ q=>q⟩ rfl
end
inductive Fx:List A->List A->Prop
 |nil:Fx [] []
 |eq {a:A} {l m:List A} (h:Fx l m):Fx (a::l) (a::m)
 |nl {k:Nat} {l m:List A} (h:Fx l m):Fx (.nils::l) (.rsl k []::m)
theorem LR.nils{ro:Nat->Prop}{σ:Cp}{w:AJ}{j m:AA A}(h:Fx j m):∀{l:AA AL},LR ro σ w j l->LR ro σ w m l:=by
 induction h with
 |nil=>simp
 |eq _ ih=>rintro l ⟨v,g,e,d,f⟩;exact⟨v,g,e,d,ih f⟩
 |nl _ ih=>rintro l ⟨v,g,e,d,f⟩;exact⟨v,g,e,⟨AF,0,d,XU _,.inl rfl⟩,ih f⟩
theorem C.nils{P:AK}{f:FuncId}{l1 bs:AA A}{H:Qb}{Q:A->Qb->Prop}(hl:Fx l1 bs)(h:C P f bs H Q):C P f l1 H Q:=
 λfr ro σ vals w s l=>h fr ro σ vals w s (LR.nils hl l)
abbrev A.p:=A.ptr
abbrev A.b:=A.bool
abbrev A.a:=A.agg
abbrev A.s:=A.osl
abbrev A.t:=A.tup
abbrev A.q:=A.rsl
abbrev A.i:=A.int
abbrev A.n:=A.nils
abbrev Ci.c:=Ci.cells
abbrev Ci.r:=Ci.row
abbrev Ci.R:=Ci.rowr
abbrev Ci.e:=Ci.ents
abbrev A.o(i n k:Nat):=A.osl i 0 n k
abbrev A.f(n:Nat):=A.fn (.func n) [] []
abbrev qr(b k:Nat)(l h:Int):List A:=[.ptr b k,.int .i64 l,.int .i64 h]
end
end Go.Sw
