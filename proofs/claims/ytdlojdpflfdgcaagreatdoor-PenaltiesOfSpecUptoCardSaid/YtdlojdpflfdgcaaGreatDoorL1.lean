/- The rules by which the code is walked, with what they rest on (part 1). -/
import Derived.Calls
import Derived.Tactics
import Derived.Below
import Derived.TacticsIn
import Derived.OrdersIn
import Derived.RangeFuncLeaves
import Derived.RangeFuncRecord
import Derived.Laws.Strings
import Derived.Laws.World
import Derived.Orders
import Derived.Maps.Keyed
import Derived.Laws.StructEq
import Derived.Maps.RangeRun
import Derived.Shelf.SlSortCmp.NoneTotal
set_option linter.unusedVariables false
set_option linter.unusedSimpArgs false
set_option linter.unusedSectionVars false
namespace Go.Sw
abbrev AB:=@Option
abbrev AA:=@List
abbrev Xa:= @List.getElem?_set_self
abbrev Xb:= @List.getElem?_set
abbrev Xc:= @List.pairwise_cons
abbrev Xd:= @List.filter_cons
abbrev Xe:= @List.mem_filter
abbrev Xf:= @List.mem_map
abbrev Xg:= @List.map_append
abbrev Xh:= @Bool.not_true
abbrev Xi:= @Bool.not_false
abbrev Xj:= @Bool.false_eq_true
abbrev Xk:= @Option.map_some
abbrev Xl:= @Option.map_none
abbrev Xm:= @List.replicate_succ
abbrev Xn:= @Nat.succ_mul
abbrev Xo:= @Nat.lt_succ_self
abbrev Xp:= @List.getElem?_map
abbrev Xq:= @List.drop_eq_getElem_cons
abbrev Xr:= @List.drop_eq_nil_iff
abbrev Xs:= @List.drop_length
abbrev Xt:= @List.all_eq_true
abbrev Xu:= @List.any_eq_true
abbrev Xv:= @Nat.zero_add
abbrev Xw:= @Nat.add_zero
abbrev Xx:= @List.length_take
abbrev Xy:= @List.take_append_drop
abbrev Xz:= @Nat.add_mul
abbrev XA:= @Nat.min_eq_left
abbrev XB:= @Nat.mul_le_mul_right
abbrev XC:= @List.foldl_cons
abbrev XD:= @List.getElem?_cons_zero
abbrev XE:= @List.getElem?_cons_succ
abbrev XF:= @List.getElem?_toArray
abbrev XG:= @List.map_toArray
abbrev XH:= @Option.bind_some
abbrev XI:= @List.getElem?_eq_getElem
abbrev XJ:= @List.getElem?_eq_some_iff
abbrev XK:= @List.getElem?_append_left
abbrev XL:= @List.getElem?_append_right
abbrev XM:= @List.getElem?_eq_none
abbrev XN:= @List.getElem?_set_ne
abbrev XO:= @Nat.eq_of_beq_eq_true
abbrev XP:= @Nat.le_of_ble_eq_true
abbrev XQ:= @Nat.ble_eq_true_of_le
abbrev XR:= @Nat.le_refl
abbrev XS:= @Nat.zero_le
abbrev XT:= @Nat.le_trans
abbrev XU:= @Bool.and_eq_true
abbrev XV:= @Bool.or_eq_false_iff
abbrev XW:= @Bool.eq_iff_iff
abbrev XX:= @Option.some.inj
abbrev XY:= @List.length_cons
abbrev XZ:= @List.length_map
abbrev X0:= @List.length_append
abbrev X2:= @List.length_set
abbrev X3:= @List.mem_cons
abbrev X4:= @List.take_append_of_le_length
abbrev X5:= @List.drop_append_of_le_length
abbrev X6:= @List.take_length
abbrev X7:= @List.drop_length_add_append
abbrev X8:= @List.take_length_add_append
abbrev X9:= @Array.getElem?_eq_some_iff
abbrev Va:= @Array.getElem?_setIfInBounds
abbrev Vb:= @Nat.lt_of_lt_of_le
abbrev Vc:= @List.append_nil
abbrev Vd:= @List.nil_append
abbrev Ve:= @List.append_assoc
abbrev Vf:= @List.map_cons
abbrev Vg:= @List.map_nil
abbrev Vh:= @List.flatten_cons
abbrev Vi:= @Sem.run_bind
abbrev Vj:= @Sem.run_pure
abbrev Vk:= @cond_true
abbrev Vl:= @cond_false
abbrev Vm:= @decide_eq_true_eq
abbrev Vn:= @if_neg
abbrev Vp:= @if_pos
abbrev Vq:= @decide_eq_true
abbrev Vr:= @of_decide_eq_true
abbrev Vs:= @of_decide_eq_false
abbrev Vt:= @decide_eq_false
abbrev Vu:= @beq_iff_eq
abbrev Vv:= @beq_eq_false_iff_ne
abbrev Vw:= @Bool.true_and
abbrev Vx:= @List.mem_singleton
abbrev Vy:= @Nat.lt_or_ge
abbrev Vz:= @List.mem_append
abbrev VA:= @List.pairwise_iff_getElem
abbrev VB:= @Nat.beq_refl
abbrev VC:= @List.mem_map_of_mem
abbrev VD:= @List.mem_of_getElem?
abbrev VE:= @List.take_of_length_le
abbrev VF:= @List.length_eq_zero_iff
abbrev VG:= @List.cons_append
abbrev VH:= @List.getD_eq_getElem?_getD
abbrev VI:= @Bool.eq_false_iff
def SZ:Nat:=11
def nG:Nat:=12
def KC:AA (AA Int):=[[1,9999],[-1099511627776,1099511627776],[0,1048576],[0,39],[0,255],[0,1099511627776],[0,255],[1,1048576],[0,1],[0,31],[1,1048576]]
theorem tj:((List.range nG).all λb=>Nat.beq b SZ|| !(KC.getD b []).isEmpty)=true:=by decide
theorem tl:Nat.ble KC.length nG=true:=by decide
theorem ur:Nat.blt SZ nG=true:=by decide
structure GP (w:World):Prop where
 max:∃m:Int,w.cell? ⟨SZ,0,none⟩=some (.int .i64 m)
 tab:∀(g:Nat) (zs:List Int),KC[g]?=some zs->∀(i:Nat) (z:Int),zs[i]?=some z->w.cell? ⟨g,i,none⟩=some (.int .i64 z)
variable {w w':World}
theorem GP.keep(h:∀b,b<nG->w'.heap[b]?=w.heap[b]?)(g:GP w):GP w':=by
 obtain⟨m,f⟩:=g.max;refine⟨⟨m,?_⟩,λa e d i z j=>?_⟩
 .rw[<- f];unfold World.cell?;rw[h SZ (by simpa using ur)]
 .rw[<- g.tab a e d i z j];unfold World.cell?;have k:=(XJ.1 d).1;have l:KC.length<=nG:=by simpa using tl
  rw[h a (by omega)]
theorem qm{b i:Nat}{v:Value}(h:w.cell? ⟨b,i,none⟩=some v):b<w.heap.size:=by
 cases e:w.heap[b]? with
 |none=>simp[World.cell?,e]at h
 |some o=>exact(X9.1 e).1
theorem GP.size{w:World}(g:GP w)(b:Nat)(f:b<nG):b<w.heap.size:=by
 have h:=Xt.1 tj b (List.mem_range.2 f);rw[Bool.or_eq_true]at h;rcases h with h|h
 .obtain⟨m,d⟩:=g.max;rw[XO h];exact qm d
 .cases e:KC[b]? with
  |none=>rw[VH,e]at h;simp at h
  |some a=>
   cases a with
   |nil=>rw[VH,e]at h;simp at h
   |cons z a=>exact qm (g.tab b _ e 0 z rfl)
inductive A where
 |any
 |bool (b:Bool)
 |int (k:IntKind) (n:Int)
 |str (s:List UInt8)
 |nilp
 |ptr (i off:Nat)
 |rp (cs:List A)
 |nils
 |rsl (k:Nat) (es:List (List A))
 |osl (i o n k:Nat)
 |agg (cs:List A)
 |fn (f:Fn) (first cap:List A)
 |nilf
 |iface (t:Nat) (v:A)
 |nilif
 |map (i:Nat)
 |nilm
 |tup (vs:List A)
abbrev AZ:=AA (AB Nat)
def Qz:Value->Prop
 |.agg _|.tuple _=>False
 |_=>True
mutual
def VR(ro:Nat->Prop)(U:AZ)(w:World):A->Value->Prop
 |.any,_=>True
 |.bool b,v=>v=.bool b
 |.int k n,v=>v=.int k n
 |.str s,v=>v=.string ⟨s.toArray⟩
 |.nilp,v=>v=.pointer none
 |.ptr i off,v=>∃b,U[i]?=some (some b)/\v=.pointer (some ⟨b,off,none⟩)
 |.rp cs,v=>∃b off,v=.pointer (some ⟨b,off,none⟩)/\ro b/\CR ro [] w b cs off
 |.nils,v=>v=.slice none 0 0
 |.rsl k es,v=>∃a cap,v=.slice a es.length cap/\es.length<=cap/\
   (es=[]\/ ∃b off,a=some ⟨b,off,none⟩/\ro b/\RR ro [] w b k es off)
 |.osl i o n k,v=>(n=0/\v=.slice none 0 0)\/
   ∃b p cap t m,U[i]?=some (some b)/\v=.slice (some ⟨b,p,none⟩) n cap/\(0<cap->p=o*k)/\(n<=cap/\cap<=9223372036854775807)/\w.shape? b=some (t,m)/\(o+cap)*k<=m
 |.agg cs,v=>∃l:AA Value,v=.agg l.toArray/\LR ro U w cs l
 |.fn f first cap,v=>∃l l':AA Value,v=.func f l.toArray l'.toArray/\LR ro U w first l/\LR ro U w cap l'
 |.nilf,v=>v=.nilFunc
 |.iface t a,v=>∃x,v=.iface t x/\VR ro U w a x
 |.nilif,v=>v=.nilIface
 |.map i,v=>∃b,U[i]?=some (some b)/\v=.map (some b)
 |.nilm,v=>v=.map none
 |.tup vs,v=>∃l:AA Value,v=.tuple l.toArray/\LR ro U w vs l
def CR(ro:Nat->Prop)(U:AZ)(w:World)(b:Nat):AA A->Nat->Prop
 |[],_=>True
 |a::r,off=>(∃v,w.cell? ⟨b,off,none⟩=some v/\Qz v/\VR ro U w a v)/\CR ro U w b r (off+1)
def RR(ro:Nat->Prop)(U:AZ)(w:World)(b k:Nat):AA (AA A)->Nat->Prop
 |[],_=>True
 |cs::r,off=>cs.length=k/\CR ro U w b cs off/\RR ro U w b k r (off+k)
def LR(ro:Nat->Prop)(U:AZ)(w:World):AA A->AA Value->Prop
 |[],l=>l=[]
 |a::r,l=>∃v l',l=v::l'/\VR ro U w a v/\LR ro U w r l'
end
structure BI (ro:Nat->Prop) (U:AZ) (w:World) (ro':Nat->Prop) (σ':AZ) (w':World):Prop where
 sub:∀b,ro b->ro' b
 keep:∀b,ro b->w'.heap[b]?=w.heap[b]?
 shape:∀b x,w.shape? b=some x->w'.shape? b=some x
 sig:∀(i b:Nat),U[i]?=some (some b)->σ'[i]?=some (some b)
variable {off:Nat}
theorem ql{b:Nat}(h:w'.heap[b]?=w.heap[b]?):w'.cell? ⟨b,off,none⟩=w.cell? ⟨b,off,none⟩:=by
 simp only[World.cell?,h]
variable {ro ro':Nat->Prop}{U:AZ}
theorem BI.nil{σ':AZ}(h:BI ro U w ro' σ' w'):BI ro [] w ro' [] w':=
 ⟨h.sub,h.keep,h.shape,λ_ _ q=>q⟩
mutual
theorem VR.mono{ro ro':Nat->Prop}{w w':World}:∀{a:A} {U σ':AZ} {v:Value},BI ro U w ro' σ' w'->VR ro U w a v->VR ro' σ' w' a v
 |.any,_,_,_,h,_=>trivial
 |.bool b,_,_,v,h,q=>q
 |.int k n,_,_,v,h,q=>q
 |.str s,_,_,v,h,q=>q
 |.nilp,_,_,v,h,q=>q
 |.ptr i off,_,_,v,h,q=>by
  simp only[VR]at q⊢;obtain⟨b,h1,h2⟩:=q;exact⟨b,h.sig _ _ h1,h2⟩
 |.rp cs,_,_,v,h,q=>by
  simp only[VR]at q⊢;obtain⟨b,off,h1,h2,h3⟩:=q;exact⟨b,off,h1,h.sub _ h2,CR.mono h.nil h2 h3⟩
 |.nils,_,_,v,h,q=>q
 |.rsl k es,_,_,v,h,q=>by
  simp only[VR]at q⊢;obtain⟨a,cap,h1,h2,h3⟩:=q;refine⟨a,cap,h1,h2,?_⟩;rcases h3 with h3|⟨b,off,h4,h5,h6⟩
  .exact .inl h3
  .exact .inr ⟨b,off,h4,h.sub _ h5,RR.mono h.nil h5 h6⟩
 |.osl i o n k,_,_,v,h,q=>by
  simp only[VR]at q⊢;rcases q with q|⟨b,p,cap,t,m,h1,h2,h6,h3,h4,h5⟩
  .exact .inl q
  .exact .inr ⟨b,p,cap,t,m,h.sig _ _ h1,h2,h6,h3,h.shape _ _ h4,h5⟩
 |.agg cs,_,_,v,h,q=>by
  simp only[VR]at q⊢;obtain⟨l,h1,h2⟩:=q;exact⟨l,h1,LR.mono h h2⟩
 |.fn f a c,_,_,v,h,q=>by
  simp only[VR]at q⊢;obtain⟨l,l',h1,h2,h3⟩:=q;exact⟨l,l',h1,LR.mono h h2,LR.mono h h3⟩
 |.nilf,_,_,v,h,q=>q
 |.iface t a,_,_,v,h,q=>by
  simp only[VR]at q⊢;obtain⟨x,h1,h2⟩:=q;exact⟨x,h1,VR.mono h h2⟩
 |.nilif,_,_,v,h,q=>q
 |.map i,_,_,v,h,q=>by
  simp only[VR]at q⊢;obtain⟨b,h1,h2⟩:=q;exact⟨b,h.sig _ _ h1,h2⟩
 |.nilm,_,_,v,h,q=>q
 |.tup vs,_,_,v,h,q=>by
  simp only[VR]at q⊢;obtain⟨l,h1,h2⟩:=q;exact⟨l,h1,LR.mono h h2⟩
theorem CR.mono{ro ro':Nat->Prop}{w w':World}:∀{cs:AA A} {U σ':AZ} {b off:Nat},BI ro U w ro' σ' w'->ro b->CR ro U w b cs off->CR ro' σ' w' b cs off
 |[],_,_,_,_,_,_,_=>trivial
 |a::r,_,_,b,off,h,hb,q=>by
  simp only[CR]at q⊢;obtain⟨⟨v,h1,hp,h2⟩,h3⟩:=q;exact⟨⟨v,by rw[ql (h.keep _ hb)];exact h1,hp,VR.mono h h2⟩,CR.mono h hb h3⟩
theorem RR.mono{ro ro':Nat->Prop}{w w':World}:∀{es:AA (AA A)} {U σ':AZ} {b k off:Nat},BI ro U w ro' σ' w'->ro b->RR ro U w b k es off->RR ro' σ' w' b k es off
 |[],_,_,_,_,_,_,_,_=>trivial
 |cs::r,_,_,b,k,off,h,hb,q=>by
  simp only[RR]at q⊢;obtain⟨h1,h2,h3⟩:=q;exact⟨h1,CR.mono h hb h2,RR.mono h hb h3⟩
theorem LR.mono{ro ro':Nat->Prop}{w w':World}:∀{az:AA A} {U σ':AZ} {l:AA Value},BI ro U w ro' σ' w'->LR ro U w az l->LR ro' σ' w' az l
 |[],_,_,_,h,q=>q
 |a::r,_,_,l,h,q=>by
  simp only[LR]at q⊢;obtain⟨v,l',h1,h2,h3⟩:=q;exact⟨v,l',h1,VR.mono h h2,LR.mono h h3⟩
end
structure A6 where
 fl:Bool
 off:Nat
 lo:Int
 hi:Int
def KX(i n c:Nat):AA (AA A):=(List.range c).map λj=>[.osl i (j*n) n 1]
def eC(b1 b2:Nat)(e:A6):AA A:=[.ptr (bif e.fl then b2 else b1) e.off,.int .i64 e.lo,.int .i64 e.hi]
inductive AR where
 |dead
 |cells (t:Nat) (cs:List A)
 |row (t k:Nat) (es:List (List A))
 |rowr (t k:Nat) (es:List (List A))
 |map (es:List (A×A))
 |iter (cur:Option (A×A)) (es:List (A×A))
 |fmap (es:List (A×A))
 |ents (t b1 b2:Nat) (es:List A6)
 |wins (t b n c:Nat)
 |mapO (fz:Bool) (t k:Nat) (es:List (A×Option (List (List A))))
 |mapP (es:List (A×A))
 |frow (t k:Nat) (es:List (List A))
def AR.live:AR->Bool
 |.dead=>false
 |.fmap _=>false
 |.frow _ _ _=>false
 |.mapO fz _ _ _=> !fz
 |_=>true
def AR.held:AR->Bool
 |.mapO fz _ _ _=>fz
 |_=>false
def AR.holds(x:AR):Bool:=x.live||x.held
theorem Hq{x:AR}(h:x.live=true):x≠ .dead:=by rintro rfl;cases h
theorem bF{x:AR}(h:x.holds=true):x≠ .dead:=by rintro rfl;cases h
theorem li{x:AR}(h:x.live=true):x.holds=true:=by unfold AR.holds;rw[h];rfl
abbrev Qb:=AA AR
def ER(ro:Nat->Prop)(U:AZ)(w:World):AA (A×A)->AA MapEntry->Prop
 |[],l=>l=[]
 |x::r,l=>∃e l',l=e::l'/\VR ro U w x.1 e.key/\VR ro U w x.2 e.val/\ER ro U w r l'
def X_(ro:Nat->Prop)(w:World)(b:Nat)(cur:AB (A×A))(es:AA (A×A)):Prop:=
 (es=[]/\cur=none/\w.heap[b]?=some (.mapIter none 0 #[] 0))\/
 ∃m l clock seen left,w.heap[b]?=some (.mapIter (some m) clock seen clock)/\ro m/\w.heap[m]?=some (.map l clock)/\(∀e∈l.toList,e.born<clock)/\(l.toList.map (·.born)).Nodup/\
  (left:AA MapEntry).Perm (l.toList.filter λe=> !seen.contains e.born)/\ER ro [] w es left/\
  (∀x,cur=some x->∃e∈l.toList,seen.back? =some e.born/\VR ro [] w x.1 e.key/\VR ro [] w x.2 e.val)
def RL(ro:Nat->Prop)(U:AZ)(w:World)(k:Nat):AA (AA A)->AA Value->Prop
 |[],_=>True
 |c::es,l=>∃l1 l2,l=l1++l2/\c.length=k/\(LR ro U w c l1/\ ∀v∈l1,Qz v)/\RL ro U w k es l2
theorem RL.mono{ro ro':Nat->Prop}{U σ':AZ}{w w':World}(h:BI ro U w ro' σ' w'){k:Nat}:∀{es:AA (AA A)} {l:AA Value},RL ro U w k es l->RL ro' σ' w' k es l
 |[],_,_=>trivial
 |c::es,l,⟨l1,l2,h1,h2,h3,h4⟩=>⟨l1,l2,h1,h2,⟨h3.1.mono h,h3.2⟩,RL.mono h h4⟩
def SO(ro:Nat->Prop)(w:World)(t k:Nat)(rows:AA (AA A))(v:Value):Prop:=
 (rows=[]/\v=.slice none 0 0)\/ ∃(c p cap:Nat) (vs:AA Value),v=.slice (some ⟨c,p,none⟩) rows.length cap/\(rows.length<=cap/\cap<=9223372036854775807)/\w.heap[c]?=some (.cells vs.toArray t (0,0))/\cap*k<=vs.length/\RL ro [] w k rows vs/\(0<cap->p=0)
def MO(ro:Nat->Prop)(w:World)(t k:Nat):AA (A×AB (AA (AA A)))->AA MapEntry->Prop
 |[],l=>l=[]
 |x::r,l=>∃e l',l=e::l'/\VR ro [] w x.1 e.key/\(∀rows,x.2=some rows->SO ro w t k rows e.val)/\MO ro w t k r l'
def Hj:AA (A×AB (AA (AA A)))->AA MapEntry->Nat->Prop
 |x::r,e::l,c=>(x.2.isSome=true/\ ∃p n cap,e.val=.slice (some ⟨c,p,none⟩) n cap)\/Hj r l c
 |_,_,_=>False
def Oa:AA (A×AB (AA (AA A)))->AA MapEntry->Prop
 |x::r,e::l=>(∀c,x.2.isSome=true->(∃p n cap,e.val=.slice (some ⟨c,p,none⟩) n cap)->¬Hj r l c)/\Oa r l
 |_,_=>True
def Bw(w:World):AR->Nat->Nat->Prop
 |.mapO _ _ _ es,b,c=>∃l clock,w.heap[b]?=some (.map l clock)/\Hj es l.toList c
 |_,_,_=>False
theorem Bw.keep{x:AR}{b c:Nat}(h:w'.heap[b]?=w.heap[b]?)(q:Bw w' x b c):Bw w x b c:=by
 cases x with
 |mapO fz t k e=>obtain⟨l,d,f,a⟩:=q;exact⟨l,d,by grind,a⟩
 |_=>exact q.elim
theorem Bw.holds{w:World}{x:AR}{b c:Nat}(q:Bw w x b c):x.holds=true:=by
 cases x with
 |mapO fz t k a=>cases fz<;>rfl
 |_=>exact q.elim
theorem MO.mono{ro ro':Nat->Prop}{U σ':AZ}{w w':World}(h:BI ro U w ro' σ' w'){t k:Nat}:∀{es:AA (A×AB (AA (AA A)))} {l:AA MapEntry},(∀c,Hj es l c->w'.heap[c]?=w.heap[c]?)->MO ro w t k es l->MO ro' w' t k es l
 |[],_,_,q=>q
 |x::r,_,hh,⟨e,l',h1,h2,h3,h4⟩=>by
  subst h1;refine⟨e,l',rfl,h2.mono h.nil,λrows hr=>?_,MO.mono h (λc hc=>hh c (.inr hc)) h4⟩;rcases h3 rows hr with q|⟨c,p,cap,vs,q1,q2,q3,q4,q5,q6⟩
  .exact .inl q
  .exact .inr ⟨c,p,cap,vs,q1,q2,by rw[hh c (.inl (by grind))];exact q3,q4,q5.mono h.nil,q6⟩
theorem MO.cells{ro:Nat->Prop}{w:World}{t k:Nat}:∀{es:AA (A×AB (AA (AA A)))} {l:AA MapEntry} {c:Nat},MO ro w t k es l->Hj es l c->∃vs:Array Value,w.heap[c]?=some (.cells vs t (0,0))
 |[],l,c,h,q=>by cases l<;>exact q.elim
 |x::r,_,c,⟨e,l',h1,h2,h3,h4⟩,q=>by
  subst h1;rcases q with⟨q1,p,n,cap,q2⟩|q
  .obtain⟨rows,hr⟩:=Option.isSome_iff_exists.1 q1;rcases h3 rows hr with⟨_,z⟩|⟨c',p',cap',vs,z1,z2,z3,z4,z5,z6⟩
   .grind
   grind
  .exact MO.cells h4 q
def M6(l:Array MapEntry)(clock:Nat):Prop:=clock=l.size/\ ∀(i:Nat) (e:MapEntry),l.toList[i]?=some e->e.born=i
theorem M6.modify{l:Array MapEntry}{a j:Nat}{f:MapEntry->MapEntry}(h:M6 l a)(g:∀e,(f e).born=e.born):M6 (l.modify j f) a:=by
 obtain⟨d,k⟩:=h;refine⟨by simp[d],λi m q=>?_⟩
 grind
def BR(ro:Nat->Prop)(U:AZ)(w:World):AR->AB Nat->Prop
 |.dead,_=>True
 |.cells t cs,some b=>∃l:AA Value,w.heap[b]?=some (.cells l.toArray t (0,0))/\LR ro U w cs l/\ ∀v∈l,Qz v
 |.row t k es,some b=>∃l:AA Value,w.heap[b]?=some (.cells l.toArray t (0,0))/\RL ro [] w k es l
 |.rowr t k es,some b=>∃l:AA Value,w.heap[b]?=some (.cells l.toArray t (0,0))/\RL ro U w k es l
 |.row _ _ es,none=>es=[]
 |.ents t b1 b2 es,some b=>∃l:AA Value,w.heap[b]?=some (.cells l.toArray t (0,0))/\RL ro U w 3 (es.map (eC b1 b2)) l
 |.ents _ _ _ es,none=>es=[]
 |.wins t b n c,some d=>∃l:AA Value,w.heap[d]?=some (.cells l.toArray t (0,0))/\RL ro U w 1 (KX b n c) l
 |.wins _ _ _ c,none=>c=0
 |.map es,some b=>∃l clock,w.heap[b]?=some (.map l clock)/\ER ro [] w es l.toList/\
   (∀e∈l.toList,e.born<clock)/\(l.toList.map (·.born)).Nodup/\(l.toList.map (·.key)).Nodup
 |.mapP es,some b=>∃l clock,w.heap[b]?=some (.map l clock)/\ER ro U w es l.toList/\
   (∀e∈l.toList,e.born<clock)/\(l.toList.map (·.born)).Nodup/\(l.toList.map (·.key)).Nodup
 |.frow t k es,some b=>ro b/\ ∃l:AA Value,w.heap[b]?=some (.cells l.toArray t (0,0))/\RL ro [] w k es l/\l.length=es.length*k
 |.iter cur es,some b=>X_ ro w b cur es
 |.mapO fz t k es,some b=>(fz=true->ro b)/\ ∃l clock,w.heap[b]?=some (.map l clock)/\MO ro w t k es l.toList/\Oa es l.toList/\
   (∀e∈l.toList,e.born<clock)/\(l.toList.map (·.born)).Nodup/\(l.toList.map (·.key)).Nodup/\M6 l clock
 |.fmap es,some b=>ro b/\ ∃l clock,w.heap[b]?=some (.map l clock)/\ER ro [] w es l.toList/\
   (∀e∈l.toList,e.born<clock)/\(l.toList.map (·.born)).Nodup/\(l.toList.map (·.key)).Nodup
 |_,none=>False
structure K3 (ro:Nat->Prop) (w:World):Prop where
 lt:∀b,ro b->b<w.heap.size
 g:∀b,b<nG->ro b
 gp:GP w
theorem K3.to(h:K3 ro w)(sub:∀b,ro b->ro' b)(keep:∀b,ro b->w'.heap[b]?=w.heap[b]?)(lt:∀b,ro' b->b<w'.heap.size):K3 ro' w':=
 ⟨lt,λb hb=>sub b (h.g b hb),h.gp.keep λb hb=>keep b (h.g b hb)⟩
structure nA (fr ro:Nat->Prop) (U:AZ) (H:Qb) (w:World) (i0 b0 c:Nat):Prop where
 lt:c<w.heap.size
 ro:¬ro c
 fr:¬fr c
 ne:∀(j b:Nat) (y:AR),U[j]?=some (some b)->H[j]?=some y->y.live=true->c≠b
 one:∀(j b:Nat) (y:AR),U[j]?=some (some b)->H[j]?=some y->Bw w y b c->b=b0/\j=i0
structure AU (fr ro:Nat->Prop) (U:AZ) (H:Qb) (w:World):Prop where
 len:U.length=H.length
 roOk:K3 ro w
 frLt:∀b,fr b->b<w.heap.size
 roFr:∀b,ro b->¬fr b
 own:∀(i b:Nat) (blk:AR),U[i]?=some (some b)->H[i]?=some blk->blk.live=true->b<w.heap.size/\ ¬ro b/\ ¬fr b
 inj:∀(i j b:Nat) (x y:AR),U[i]?=some (some b)->U[j]?=some (some b)->H[i]?=some x->H[j]?=some y->x.live=true->y.live=true->i=j
 blk:∀(i:Nat) (s:Option Nat) (x:AR),U[i]?=some s->H[i]?=some x->BR ro U w x s
 hid:∀(i b:Nat) (x:AR) (c:Nat),U[i]?=some (some b)->H[i]?=some x->Bw w x b c->nA fr ro U H w i b c
variable {fr:Nat->Prop}
theorem AU.roHeld{H:Qb}(s:AU fr ro U H w){i b:Nat}{x:AR}(e:U[i]?=some (some b))(d:H[i]?=some x)(a:x.held=true):ro b:=by
 have h:=s.blk i _ x e d;cases x with
 |mapO fz t k f=>exact h.1 a
 |_=>cases a
theorem AU.hidKeep{H:Qb}(s:AU fr ro U H w){i b c:Nat}{x:AR}(f:U[i]?=some (some b))(d:H[i]?=some x)
  (hl:x.live=true->w'.heap[b]?=w.heap[b]?)(e:∀b,ro b->w'.heap[b]?=w.heap[b]?)(q:Bw w' x b c):Bw w x b c:=by
 refine q.keep ?_;have h:=q.holds;cases a:x.live with
 |true=>exact hl a
 |false=>unfold AR.holds at h;rw[a]at h;exact e b (s.roHeld f d h)
variable {H':Qb}
theorem AU.hidTo{l:Nat->Prop}{σ':AZ}{H:Qb}(s:AU fr ro U H w)(R:Nat->Nat->Prop)(X:∀j j' a,R j a->R j' a->j=j')(p:w.heap.size<=w'.heap.size)
  (L:∀(i b:Nat) (x:AR) (c:Nat),U[i]?=some (some b)->H[i]?=some x->Bw w x b c->ro' c->ro c)
  (M:∀(i b:Nat) (x:AR) (c:Nat),U[i]?=some (some b)->H[i]?=some x->Bw w x b c->l c->fr c)
  (h:∀(j d:Nat) (y:AR),σ'[j]?=some (some d)->H'[j]?=some y->y.holds=true->
   (∃(a:Nat) (m:AR),R j a/\U[a]?=some (some d)/\H[a]?=some m/\(y.live=true->m.live=true)/\ ∀c,Bw w' y d c->Bw w m d c)\/(w.heap.size<=d/\ ∀c,Bw w' y d c->False)):
  ∀(i b:Nat) (x:AR) (c:Nat),σ'[i]?=some (some b)->H'[i]?=some x->Bw w' x b c->nA l ro' σ' H' w' i b c:=by
 intro i b x c N J F;rcases h i b x N J F.holds with⟨a,m,T,P,Q,g3,G⟩|⟨_,g⟩
 .have k:=s.hid a b m c P Q (G c F);refine⟨Vb k.lt p,λq=>k.ro (by grind),λq=>k.fr (by grind),λj d y z u n=>?_,λj d y z u n=>?_⟩
  .rcases h j d y z u (li n)with⟨B,y1,_,r,t,E,_⟩|⟨f,_⟩
   .exact k.ne B d y1 r t (E n)
   .exact λe=>by have:=k.lt;omega
  .rcases h j d y z u n.holds with⟨B,y1,Y,r,t,E,O⟩|⟨_,f⟩
   .obtain⟨V,W⟩:=k.one B d y1 r t (O c n)
    grind
   grind
 grind
theorem Yd(j j' j0:Nat)(h:j=j0)(h':j'=j0):j=j':=h.trans h'.symm
theorem AU.roLt{H:Qb}(s:AU fr ro U H w):∀b,ro b->b<w.heap.size:=s.roOk.lt
structure Qm (fr ro:Nat->Prop) (w:World) (ro':Nat->Prop) (w':World):Prop where
 sub:∀b,ro b->ro' b
 keepRo:∀b,ro b->w'.heap[b]?=w.heap[b]?
 keepFr:∀b,fr b->w'.heap[b]?=w.heap[b]?
 size:w.heap.size<=w'.heap.size
 shape:∀b x,w.shape? b=some x->w'.shape? b=some x
 os:w'.os=w.os
 tape:w'.tape=w.tape
 output:w'.output=w.output
 drawn:w.drawn<=w'.drawn
theorem Qm.refl(fr ro:Nat->Prop)(w:World):Qm fr ro w ro w:=
 ⟨λ_ h=>h,λ_ _=>rfl,λ_ _=>rfl,XR _,λ_ _ h=>h,rfl,rfl,rfl,XR _⟩
theorem Qm.trans{fr ro ro1 ro2:Nat->Prop}{w w1 w2:World}(h:Qm fr ro w ro1 w1)(k:Qm fr ro1 w1 ro2 w2):Qm fr ro w ro2 w2:=
 ⟨λb q=>k.sub _ (h.sub _ q),λb q=>(k.keepRo _ (h.sub _ q)).trans (h.keepRo _ q),λb q=>(k.keepFr _ q).trans (h.keepFr _ q),
  XT h.size k.size,λb x q=>k.shape _ _ (h.shape _ _ q),k.os.trans h.os,k.tape.trans h.tape,k.output.trans h.output,XT h.drawn k.drawn⟩
variable {τ:AZ}
theorem S4{i b:Nat}(h:U[i]?=some (some b)):(U++τ)[i]?=some (some b):=by
 grind
theorem Qm.ext(h:Qm fr ro w ro' w')(U τ:AZ):BI ro U w ro' (U++τ) w':=
 ⟨h.sub,h.keepRo,h.shape,λ_ _=>S4⟩
theorem Qm.ext0(h:Qm fr ro w ro' w')(U:AZ):BI ro U w ro' U w':=
 ⟨h.sub,h.keepRo,h.shape,λ_ _ q=>q⟩
theorem ER.mono{ro ro':Nat->Prop}{U σ':AZ}{w w':World}(h:BI ro U w ro' σ' w'):∀{es:AA (A×A)} {l:AA MapEntry},ER ro U w es l->ER ro' σ' w' es l
 |[],_,q=>q
 |x::r,l,q=>by
  simp only[ER]at q⊢;obtain⟨e,l',h1,h2,h3,h4⟩:=q;exact⟨e,l',h1,h2.mono h,h3.mono h,ER.mono h h4⟩
theorem X_.keep{ro ro':Nat->Prop}{U σ':AZ}{w w':World}(h:BI ro U w ro' σ' w'){b:Nat}(E:w'.heap[b]?=w.heap[b]?){f:AB (A×A)}{es:AA (A×A)}
  (q:X_ ro w b f es):X_ ro' w' b f es:=by
 rcases q with⟨j,g,i⟩|⟨m,l,a,d,left,j,g,i,z,u,r,t,y⟩
 .exact .inl ⟨j,g,by grind⟩
 .refine .inr ⟨m,l,a,d,left,by grind,h.sub _ g,by rw[h.keep _ g];exact i,z,u,r,t.mono h.nil,λx B=>?_⟩;obtain⟨e,k,s,n,p⟩:=y x B;exact⟨e,k,s,n.mono h.nil,p.mono h.nil⟩
theorem CR.keep{ro ro':Nat->Prop}{U σ':AZ}{w w':World}(h:BI ro U w ro' σ' w'){b:Nat}(hb:w'.heap[b]?=w.heap[b]?):
  ∀{cs:AA A} {off:Nat},CR ro U w b cs off->CR ro' σ' w' b cs off
 |[],_,_=>trivial
 |a::r,off,q=>by
  simp only[CR]at q⊢;obtain⟨⟨v,h1,hp,h2⟩,h3⟩:=q;exact⟨⟨v,by rw[ql hb];exact h1,hp,h2.mono h⟩,CR.keep h hb h3⟩
theorem RR.keep{ro ro':Nat->Prop}{U σ':AZ}{w w':World}(h:BI ro U w ro' σ' w'){b:Nat}(hb:w'.heap[b]?=w.heap[b]?){k:Nat}:
  ∀{es:AA (AA A)} {off:Nat},RR ro U w b k es off->RR ro' σ' w' b k es off
 |[],_,_=>trivial
 |cs::r,off,q=>by
  simp only[RR]at q⊢;obtain⟨h1,h2,h3⟩:=q;exact⟨h1,CR.keep h hb h2,RR.keep h hb h3⟩
theorem BR.keep{ro ro':Nat->Prop}{U σ':AZ}{w w':World}(h:BI ro U w ro' σ' w'){x:AR}{s:AB Nat}
  (g:∀b,s=some b->x.live=true->w'.heap[b]?=w.heap[b]?)(q:BR ro U w x s)(m:∀b c,s=some b->Bw w x b c->w'.heap[c]?=w.heap[c]?):BR ro' σ' w' x s:=by
 cases x with
 |mapO fz t k j=>
  cases s with
  |none=>exact q
  |some b=>
   obtain⟨i,l,c,a,e,f⟩:=q;refine⟨λz=>h.sub b (i z),l,c,?_,e.mono h (λd r=>m b d rfl ⟨l,c,a,r⟩),f⟩;cases fz with
   |false=>rw[g b rfl rfl];exact a
   |true=>rw[h.keep b (i rfl)];exact a
 |dead=>trivial
 |cells t B=>
  cases s with
  |none=>exact q
  |some b=>
   obtain⟨l,a,e,f⟩:=q;exact⟨l,by rw[g b rfl rfl];exact a,e.mono h,f⟩
 |row t k j=>
  cases s with
  |none=>exact q
  |some b=>
   obtain⟨l,a,e⟩:=q;exact⟨l,by rw[g b rfl rfl];exact a,e.mono h.nil⟩
 |rowr t k j=>
  cases s with
  |none=>exact q.elim
  |some b=>
   obtain⟨l,a,e⟩:=q;exact⟨l,by rw[g b rfl rfl];exact a,e.mono h⟩
 |wins t b n c=>
  cases s with
  |none=>exact q
  |some d=>
   obtain⟨l,a,e⟩:=q;exact⟨l,by rw[g d rfl rfl];exact a,e.mono h⟩
 |ents t u y j=>
  cases s with
  |none=>exact q
  |some b=>
   obtain⟨l,a,e⟩:=q;exact⟨l,by rw[g b rfl rfl];exact a,e.mono h⟩
 |map j=>
  cases s with
  |none=>exact q
  |some b=>
   obtain⟨l,c,a,e,f⟩:=q;exact⟨l,c,by rw[g b rfl rfl];exact a,e.mono h.nil,f⟩
 |mapP j=>
  cases s with
  |none=>exact q
  |some b=>
   obtain⟨l,c,a,e,f⟩:=q;exact⟨l,c,by rw[g b rfl rfl];exact a,e.mono h,f⟩
 |frow t k j=>
  cases s with
  |none=>exact q
  |some b=>
   obtain⟨i,l,a,e,f⟩:=q;exact⟨h.sub b i,l,by rw[h.keep b i];exact a,e.mono h.nil,f⟩
 |iter p j=>
  cases s with
  |none=>exact q
  |some b=>exact X_.keep h (g b rfl rfl) q
 |fmap j=>
  cases s with
  |none=>exact q
  |some b=>
   obtain⟨i,l,c,a,e,f⟩:=q;exact⟨h.sub b i,l,c,by rw[h.keep b i];exact a,e.mono h.nil,f⟩
abbrev Env:=AA (Nat×A)
def lk:Env->Nat->A
 |[],_=>.any
 |(d,a)::r,s=>bif Nat.beq s d then a else lk r s
abbrev up(env:Env)(d:Nat)(a:A):Env:=(d,a)::env
inductive TJ where
 |normal|exit (id:Nat)|ret
abbrev QW:=TJ->Env->Qb->Prop
def ID(fr:Nat->Prop)(ds:AA Deferred)(w:World):Prop:=ds.Nodup/\ ∀d∈ds,∃D,d={target:=.collected D,args:= #[]}/\fr D/\w.heap[D]?=some (.deferred (some []))
theorem ID.keep{e:AA Deferred}(h:ID fr e w)(k:Qm fr ro w ro' w'):ID fr e w':=by
 refine⟨h.1,λd i=>?_⟩;obtain⟨D,f,a,g⟩:=h.2 d i;exact⟨D,f,a,(k.keepFr D a).trans g⟩
structure BN (fr:Nat->Prop) (w:World) (ds:List Deferred) (fr':Nat->Prop) (ds':List Deferred):Prop where
 sub:∀b,fr b->fr' b
 new:∀b,fr' b->fr b\/w.heap.size<=b
 ds:∀d∈ds',d∈ds\/ ∃D,d={target:=.collected D,args:= #[]}/\w.heap.size<=D
theorem BN.refl(fr:Nat->Prop)(w:World)(ds:AA Deferred):BN fr w ds fr ds:=⟨λ_ h=>h,λ_ h=>.inl h,λ_ h=>.inl h⟩
variable {ds:AA Deferred}{w1:World}
theorem BN.trans{a g:Nat->Prop}{f e:AA Deferred}(h:BN fr w ds a f)(l:w.heap.size<=w1.heap.size)(k:BN a w1 f g e):BN fr w ds g e:=by
 refine⟨λb q=>k.sub b (h.sub b q),λb q=>?_,λd q=>?_⟩
 .rcases k.new b q with q|q
  .exact h.new b q
  omega
 .rcases k.ds d q with q|⟨D,j,i⟩
  .exact h.ds d q
  grind
variable {fr':Nat->Prop}
theorem Qm.frMono(h:Qm fr' ro w ro' w')(s:∀b,fr b->fr' b):Qm fr ro w ro' w':=
 ⟨h.sub,h.keepRo,λb q=>h.keepFr b (s b q),h.size,h.shape,h.os,h.tape,h.output,h.drawn⟩
theorem AU.frMono{H:Qb}(h:AU fr' ro U H w)(s:∀b,fr b->fr' b):AU fr ro U H w:=
 ⟨h.len,h.roOk,λb q=>h.frLt b (s b q),λb q r=>h.roFr b q (s b r),λi b x q1 q2 q3=>let⟨a,b',c⟩:=h.own i b x q1 q2 q3;(by grind),h.inj,h.blk,λi b x c q1 q2 q3=>let k:=h.hid i b x c q1 q2 q3;⟨k.lt,k.ro,λq=>k.fr (s c q),k.ne,k.one⟩⟩
structure BL (fr ro:Nat->Prop) (U:AZ) (H:Qb) (env:Env) (N:Nat) (a:Act) (w:World):Prop where
 sim:AU fr ro U H w
 env:∀s,VR ro U w (lk env s) (a.tmps.getD s undef)
 size:a.tmps.size=N
 defers:ID fr a.defers w
def D5(rd:AB Nat)(fr:Nat->Prop)(w:World):Prop:=∀l,rd=some l->fr l/\ ∃r,w.heap[l]?=some (.loop r)
theorem D5.none{fr:Nat->Prop}{w:World}:D5 none fr w:=λl e=>by cases e
variable {rd:AB Nat}
theorem D5.to(h:D5 rd fr w)(k:Qm fr ro w ro' w')(s:∀b,fr b->fr' b):D5 rd fr' w':=λl e=>by
 obtain⟨h1,r,h2⟩:=h l e;exact⟨s l h1,r,(k.keepFr l h1).trans h2⟩
def SJ:Exit->TJ->Prop
 |.normal,x=>x=.normal
 |.exit id,x=>x=.exit id
 |.ret,x=>x=.ret
 |_,_=>False
def E_(h0:Nat)(fr ro:Nat->Prop)(U:AZ)(w:World)(N:Nat)(ds:AA Deferred)(Q:QW):Exit->Act->World->Prop:=
 λe a' w'=>∃x env' H' ro' σ' fr',SJ e x/\Q x env' H'/\BL fr' ro' σ' H' env' N a' w'/\Qm fr ro w ro' w'/\σ'.take h0=U.take h0/\BN fr w ds fr' a'.defers
variable {N h0:Nat}{a':Act}{σ1:AZ}
theorem E_.grow{g d:Nat->Prop}{k f:AA Deferred}{Q:QW}{e:Exit}
  (h:E_ h0 g d σ1 w1 N f Q e a' w')(he:Qm fr ro w d w1)(s:σ1.take h0=U.take h0)(hg:BN fr w k g f):E_ h0 fr ro U w N k Q e a' w':=by
 obtain⟨x,a,H',j,σ',i,n,p,m,r,q,l⟩:=h;exact⟨x,a,H',j,σ',i,n,p,m,he.trans (r.frMono hg.sub),q.trans s,hg.trans he.size l⟩
theorem E_.step{ro1:Nat->Prop}{Q:QW}{e:Exit}
  (h:E_ h0 fr ro1 σ1 w1 N ds Q e a' w')(he:Qm fr ro w ro1 w1)(hs:σ1.take h0=U.take h0):E_ h0 fr ro U w N ds Q e a' w':=h.grow he hs (BN.refl _ _ _)
variable {g:AA Deferred}
theorem E_.mono{Q Q':QW}{e:Exit}
  (h:E_ h0 fr ro U w N g Q e a' w')(l:∀x env H,Q x env H->Q' x env H):E_ h0 fr ro U w N g Q' e a' w':=by
 obtain⟨x,a,H',f,σ',d,j,k,i⟩:=h;exact⟨x,a,H',f,σ',d,j,l _ _ _ k,i⟩
def D9(h0:Nat)(fr ro:Nat->Prop)(U:AZ)(w:World)(N:Nat)(ds:AA Deferred)(Q:QW):Exit->Act->World->Prop:=
 λe a' w'=>∃x env' H' ro' σ' fr',SJ e x/\Q x env' H'/\BL fr' ro' σ' H' env' N a' w'/\Qm fr ro w ro' w'/\σ'.take h0=U.take h0/\a'.defers=ds/\BN fr w ds fr' ds
theorem D9.grow{f d:Nat->Prop}{Q:QW}{e:Exit}
  (h:D9 h0 f d σ1 w1 N g Q e a' w')(he:Qm fr ro w d w1)(s:σ1.take h0=U.take h0)(hg:BN fr w g f g):D9 h0 fr ro U w N g Q e a' w':=by
 obtain⟨x,a,H',j,σ',i,m,p,l,r,q,k,n⟩:=h;exact⟨x,a,H',j,σ',i,m,p,l,he.trans (r.frMono hg.sub),q.trans s,k,hg.trans he.size n⟩
theorem D9.step{ro1:Nat->Prop}{Q:QW}{e:Exit}
  (h:D9 h0 fr ro1 σ1 w1 N ds Q e a' w')(he:Qm fr ro w ro1 w1)(hs:σ1.take h0=U.take h0):D9 h0 fr ro U w N ds Q e a' w':=h.grow he hs (BN.refl _ _ _)
theorem D9.mono{Q Q':QW}{e:Exit}
  (h:D9 h0 fr ro U w N g Q e a' w')(l:∀x env H,Q x env H->Q' x env H):D9 h0 fr ro U w N g Q' e a' w':=by
 obtain⟨x,a,H',f,σ',d,j,k,i⟩:=h;exact⟨x,a,H',f,σ',d,j,l _ _ _ k,i⟩
theorem D9.postW{Q:QW}{e:Exit}
  (h:D9 h0 fr ro U w N g Q e a' w'):E_ h0 fr ro U w N g Q e a' w':=by
 obtain⟨x,a,H',f,σ',d,j,k,i,m,l,n,p⟩:=h;exact⟨x,a,H',f,σ',d,j,k,i,m,l,by grind⟩
def WF(rd:AB Nat):Fence:={Fence.wide with round:=rd}
variable {P:Program}{f:FuncId}
theorem WF.calls{args:Array Value}{R:Ending->World->Prop}:CallsIn (WF rd) 0 P f args w R↔Calls P f args w R:=callsIn_wide
abbrev CK(P:Program)(rd:AB Nat)(ops:Array Oper)(Q:Exit->Act->World->Prop):AA Oper->Act->World->Prop:=wpListIn (WF rd) 0 P ops Q
def TC(P:Program)(h0 N:Nat)(c:Code)(env:Env)(H:Qb)(Q:QW):Prop:=
 ∀rd fr ro U a w,BL fr ro U H env N a w->D5 rd fr w->c.wpIn (WF rd) 0 P (E_ h0 fr ro U w N a.defers Q) a w
def WO(P:Program)(h0 N:Nat)(all:Array Oper)(l:AA Oper)(env:Env)(H:Qb)(Q:QW):Prop:=
 ∀rd fr ro U a w,BL fr ro U H env N a w->D5 rd fr w->CK P rd all (D9 h0 fr ro U w N a.defers Q) l a w
def Le(h0:Nat)(env:Env)(H:Qb)(env':Env)(H':Qb):Prop:=
 ∀fr ro U N a w,BL fr ro U H env N a w->∃ro' σ',BL fr ro' σ' H' env' N a w/\(∀b,ro b->ro' b)/\σ'.take h0=U.take h0
theorem Le.refl(h0:Nat)(env:Env)(H:Qb):Le h0 env H env H:=λfr ro U N a w h=>(by grind)
theorem Le.trans{f g i:Env}{H1 H2 H3:Qb}(h:Le h0 f H1 g H2)(k:Le h0 g H2 i H3):Le h0 f H1 i H3:=by
 intro e l U N a w r;obtain⟨d,σ1,m,s,q⟩:=h e l U N a w r;obtain⟨j,σ2,n,t,p⟩:=k e d σ1 N a w m
 grind
theorem YZ(h:∀b,ro b->ro' b):Qm fr ro w ro' w:=
 ⟨h,λ_ _=>rfl,λ_ _=>rfl,XR _,λ_ _ h=>h,rfl,rfl,rfl,XR _⟩
theorem Yx{P:Program}{rd:AB Nat}{ops:Array Oper}{Q Q':Exit->Act->World->Prop}(hq:∀e a w,Q e a w->Q' e a w):
  ∀(l:AA Oper) (a:Act) (w:World),CK P rd ops Q l a w->CK P rd ops Q' l a w
 |[],a,w,h=>hq _ _ _ h
 |o::l,a,w,h=>by
  unfold CK wpListIn at h⊢;split
  .rename_i hw;rw[Vp hw]at h;obtain⟨h1,h2⟩:=h;refine⟨h1,?_⟩
   revert h2
   generalize(o.semAt (WF rd).round a.eval).run P w=r;intro h2;have hk:=λa w=>Yx (P:=P) (rd:=rd) (ops:=ops) hq l a w;cases r with
   |ok x w=>
    cases x with
    |value v=>exact hk _ _ h2
    |skip=>exact hk _ _ h2
    |defer d=>exact hk _ _ h2
    |enter f args=>
     refine⟨h2.1,CallsIn.mono h2.2 ?_⟩;intro e w' q;cases e with
     |returned v=>grind
     |panicked c=>grind
     |outgrown=>obtain⟨a,w,q⟩:=q;exact⟨a,w,hq _ _ _ q⟩
    |row r args=>exact⟨h2.1,RowsIn.mono h2.2 λv w' q=>hk _ _ q⟩
    |round l f tmps assign body=>
     refine⟨h2.1,RoundIn.mono h2.2 ?_⟩;intro e w' q;cases e with
     |returned v=>grind
     |panicked c=>grind
     |outgrown=>obtain⟨a,w,q⟩:=q;exact⟨a,w,hq _ _ _ q⟩
    |_=>exact h2
   |halt x w=>
    cases x with
    |panic v=>exact hq _ _ _ h2
    |_=>exact h2
  .rename_i hw;rw[Vn hw]at h;exact⟨h.1,Yx hq l _ _ h.2⟩
theorem bX{o:Oper}{a:Act}{x:Next}(h:(execOp a.eval o).run P w=.ok x w')(f:∀d,x≠ .defer d):(o.semAt (WF rd).round a.eval).run P w=.ok x w':=by
 cases e:o.op with
 |defer c=>
  have:execOp a.eval o=(do pure (.defer (<- resolve a.eval c o.type))):=by simp[execOp,e]
  rw[this]at h;simp[Vi]at h;generalize(resolve a.eval c o.type).run P w=r at h;cases r with
  |ok d w2=>simp[go_sem]at h;grind
  |halt x w2=>simp_all
 |_=>grind[Oper.semAt_eq]
variable {Q:Exit->Act->World->Prop}{ops:Array Oper}
theorem JT{o:Oper}{l:AA Oper}{a:Act}{v:Value}(f:Region.wanted o (yielded ops a.tmps)=true)
  (h:(execOp a.eval o).run P w=.ok (.value v) w')(k:CK P rd ops Q l (a.put o.dst v) w'):CK P rd ops Q (o::l) a w:=by
 unfold CK wpListIn;rw[Vp f];exact⟨λ_ _=>trivial,by rw[bX h (λd e=>by cases e)];exact k⟩
theorem po{o:Oper}{l:AA Oper}{a:Act}(f:Region.wanted o (yielded ops a.tmps)=true)
  (h:(execOp a.eval o).run P w=.ok .skip w')(k:CK P rd ops Q l (a.put o.dst undef) w'):CK P rd ops Q (o::l) a w:=by
 unfold CK wpListIn;rw[Vp f];exact⟨λ_ _=>trivial,by rw[bX h (λd e=>by cases e)];exact k⟩
theorem lT{o:Oper}{l:AA Oper}{a:Act}{args:Array Value}(g:Region.wanted o (yielded ops a.tmps)=true)
  (h:(execOp a.eval o).run P w=.ok (.enter f args) w')(k:Calls P f args w' λe w''=>∃v,e=.returned v/\CK P rd ops Q l (a.put o.dst v) w''):CK P rd ops Q (o::l) a w:=by
 unfold CK wpListIn;rw[Vp g];refine⟨λ_ _=>trivial,?_⟩;rw[bX h (λd e=>by cases e)];refine⟨λh=>by simp[WF,Fence.wide]at h,WF.calls.2 (Calls.mono k ?_)⟩
 grind
variable {all:Array Oper}
section
variable {P:Program} {h0 N:Nat} {env env':Env} {H H':Qb} {Q Q':QW} {c c':Code}
theorem TC.mono(h:TC P h0 N c env H Q)(hq:∀x env H,Q x env H->Q' x env H):TC P h0 N c env H Q':=
 λrd fr ro U a w r hrd=>Code.wpIn_mono (λe a w q=>q.mono hq) (h rd fr ro U a w r hrd)
theorem Qd(d:Le h0 env H env' H')(h:TC P h0 N c env' H' Q):TC P h0 N c env H Q:=by
 intro k g i U a w r hrd;obtain⟨f,σ',j,s,t⟩:=d g i U N a w r;exact Code.wpIn_mono (λe a w q=>q.step (YZ s) t) (h k g f σ' a w j hrd)
theorem QB{l:AA Oper}(d:Le h0 env H env' H')(h:WO P h0 N all l env' H' Q):WO P h0 N all l env H Q:=by
 intro k g i U a w r hrd;obtain⟨f,σ',j,s,t⟩:=d g i U N a w r;exact Yx (λe a w q=>q.step (YZ s) t) _ _ _ (h k g f σ' a w j hrd)
theorem WO.mono{all:Array Oper}{l:AA Oper}(h:WO P h0 N all l env H Q)(hq:∀x env H,Q x env H->Q' x env H):WO P h0 N all l env H Q':=
 λrd fr ro U a w r hrd=>Yx (λe a w q=>q.mono hq) _ _ _ (h rd fr ro U a w r hrd)
def NT(P:Program)(h0 N:Nat)(c:Code)(Q:QW):QW
 |.normal,env,H=>TC P h0 N c env H Q
 |.exit id,env,H=>Q (.exit id) env H
 |.ret,env,H=>Q .ret env H
def M7(id:Nat)(Q:QW):QW
 |.normal,env,H=>Q .normal env H
 |.exit id',env,H=>bif Nat.beq id' id then Q .normal env H else Q (.exit id') env H
 |.ret,env,H=>Q .ret env H
theorem TC.seq(h:TC P h0 N c env H (NT P h0 N c' Q)):TC P h0 N (.seq c c') env H Q:=by
 intro p s t U a w r hrd;refine wpIn_seq (Code.wpIn_mono ?_ (h p s t U a w r hrd));rintro e u y ⟨x,d,H',g,σ',f,j,m,l,k,n,i⟩;cases e with
 |normal=>
  obtain rfl:x=.normal:=j;exact Code.wpIn_mono (λe a w q=>q.grow k n i) (m p f g σ' u y l (hrd.to k i.sub))
 |exit id=>
  obtain rfl:x=.exit id:=j;exact⟨_,d,H',g,σ',f,rfl,m,l,k,n,i⟩
 |ret=>
  obtain rfl:x=.ret:=j;exact⟨_,d,H',g,σ',f,rfl,m,l,k,n,i⟩
 |_=>exact j.elim
theorem TC.skip(h:Q .normal env H):TC P h0 N .skip env H Q:=
 λrd fr ro U a w r hrd=>wpIn_skip ⟨_,env,H,ro,U,fr,rfl,h,r,Qm.refl _ _ _,rfl,BN.refl _ _ _⟩
theorem TC.ret(h:Q .ret env H):TC P h0 N .ret env H Q:=
 λrd fr ro U a w r hrd=>wpIn_ret ⟨_,env,H,ro,U,fr,rfl,h,r,Qm.refl _ _ _,rfl,BN.refl _ _ _⟩
theorem TC.exit{id:Nat}(h:Q (.exit id) env H):TC P h0 N (.exit id) env H Q:=
 λrd fr ro U a w r hrd=>wpIn_exit ⟨_,env,H,ro,U,fr,rfl,h,r,Qm.refl _ _ _,rfl,BN.refl _ _ _⟩
theorem TC.block{id:Nat}(h:TC P h0 N c env H (M7 id Q)):TC P h0 N (.block id c) env H Q:=by
 intro t q s U a w r hrd;refine wpIn_block (Code.wpIn_mono ?_ (h t q s U a w r hrd));rintro e u y ⟨x,d,H',g,σ',f,m,j,l,p,n,k⟩;cases e with
 |normal=>
  obtain rfl:x=.normal:=m;exact⟨_,d,H',g,σ',f,rfl,j,l,p,n,k⟩
 |exit i=>
  obtain rfl:x=.exit i:=m;simp[Exit.inBlock];simp only[M7]at j;by_cases e:i=id
  .subst e;rw[Vp rfl];rw[VB]at j;exact⟨_,d,H',g,σ',f,rfl,j,l,p,n,k⟩
  .rw[Vn e];have:Nat.beq i id=false:=by
    simp_all[VI]
   rw[this]at j;exact⟨_,d,H',g,σ',f,rfl,j,l,p,n,k⟩
 |ret=>
  obtain rfl:x=.ret:=m;exact⟨_,d,H',g,σ',f,rfl,j,l,p,n,k⟩
 |_=>exact m.elim
def AM(env:Env):Operand->A
 |.tmp t=>lk env t
 |.const (.bool b)=>.bool b
 |.const (.int k n)=>.int k n
 |.const (.string s)=>.str s.data.toList
 |.const (.pointer none)=>.nilp
 |.const (.slice none 0 0)=>.nils
 |.const (.map none)=>.nilm
 |.const .nilFunc=>.nilf
 |.const .nilIface=>.nilif
 |.func f=>.fn (.func f) [] []
 |_=>.any
theorem Ql{a:Act}(r:BL fr ro U H env N a w)(x:Operand):VR ro U w (AM env x) (a.eval x):=by
 cases x with
 |tmp t=>exact r.env t
 |const v=>
  cases v with
  |slice a n k=>
   cases a with
   |none=>
    cases n with
    |zero=>cases k with
     |zero=>rfl
     |succ k=>trivial
    |succ n=>trivial
   |some a=>trivial
  |pointer p=>cases p with
   |none=>rfl
   |some p=>trivial
  |map p=>cases p with
   |none=>rfl
   |some p=>trivial
  |string s=>rfl
  |_=>simp_all[AM,VR,Act.eval]
 |global g=>trivial
 |func f=>exact⟨[],[],rfl,rfl,rfl⟩
theorem TC.cond{x:Operand}{t:Bool}(k:AM env x=.bool t)(j:t=true->TC P h0 N c env H Q)(i:t=false->TC P h0 N c' env H Q):
  TC P h0 N (.cond x c c') env H Q:=by
 intro h g d U a w r hrd;have f:=Ql r x;rw[k]at f;exact wpIn_cond_split f (λe=>j e h g d U a w r hrd) (λe=>i e h g d U a w r hrd)
theorem wH{t:Array Value}{d s:Nat}{v:Value}(a:d<t.size):(t.setIfInBounds d v).getD s undef=if s=d then v else t.getD s undef:=by
 simp[Array.getD_eq_getD_getElem?]
 grind
theorem VR.up{fr ro:Nat->Prop}{U:AZ}{a:Act}{w:World}(r:∀s,VR ro U w (lk env s) (a.tmps.getD s undef)){d:Nat}(f:d<a.tmps.size){x:A}{v:Value}(g:VR ro U w x v):
  ∀s,VR ro U w (lk (up env d x) s) ((a.tmps.setIfInBounds d v).getD s undef):=by
 intro s;rw[wH f];simp only[lk];by_cases e:s=d
 .simp_all
 .have:Nat.beq s d=false:=by
   simp_all[VI]
  grind
def Qy(all:Array Oper)(o:Oper)(env:Env)(b:Bool):Prop:=
 match o.guard with
 |none=>b=true
 |some (j,c)=>∃d,(all[j]?).bind (·.dst)=some d/\((∃x,lk env d=.bool x/\b=(x==c))\/(lk env d=.tup []/\b=false))
theorem YV{o:Oper}{b:Bool}(h:Qy all o env b){a:Act}(r:BL fr ro U H env N a w):
  Region.wanted o (yielded all a.tmps)=b:=by
 unfold Qy at h;unfold Region.wanted;cases k:o.guard with
 |none=>grind
 |some g=>
  rw[k]at h;obtain⟨d,j,⟨x,f,i⟩|⟨f,i⟩⟩:=h
  .have e:=r.env d;rw[f]at e;simp only[VR]at e;have n:a.tmps[d]?=some (.bool x):=by
    rw[Array.getD_eq_getD_getElem?]at e
    grind[undef]
   simp_all[yielded]
  .have e:=r.env d;rw[f]at e;obtain⟨l,e,m⟩:=e;rw[Array.getD_eq_getD_getElem?]at e;simp[yielded,j]
   grind
def AK(P:Program)(o:Oper)(env:Env)(H:Qb)(x:A):Prop:=
 ∀fr ro U N a w,BL fr ro U H env N a w->∃v,(execOp a.eval o).run P w=.ok (.value v) w/\VR ro U w x v
def CD(P:Program)(o:Oper)(env:Env)(H:Qb)(x:A)(H':Qb):Prop:=
 ∀fr ro U N a w,BL fr ro U H env N a w->∃v w' ro' τ,(execOp a.eval o).run P w=.ok (.value v) w'/\VR ro' (U++τ) w' x v/\
  AU fr ro' (U++τ) H' w'/\Qm fr ro w ro' w'
def FS(P:Program)(o:Oper)(env:Env)(H:Qb)(H':Qb):Prop:=
 ∀fr ro U N a w,BL fr ro U H env N a w->∃w' ro' τ,(execOp a.eval o).run P w=.ok .skip w'/\
  AU fr ro' (U++τ) H' w'/\Qm fr ro w ro' w'
theorem WO.nil(h:Q .normal env H):WO P h0 N all [] env H Q:=
 λrd fr ro U a w r hrd=>⟨_,env,H,ro,U,fr,rfl,h,r,Qm.refl _ _ _,rfl,rfl,BN.refl _ _ _⟩
theorem QI(h:h0<=U.length):(U++τ).take h0=U.take h0:=by
 grind
theorem Jq{o:Oper}{l:AA Oper}{d:Nat}{x:A}(m:h0<=H.length)(hg:Qy all o env true)(B:o.dst=some d)(E:Nat.blt d N=true)
  (i:CD P o env H x H')(k:WO P h0 N all l (up env d x) H' Q):WO P h0 N all (o::l) env H Q:=by
 intro z fr t U a w r hrd;obtain⟨v,j,f,τ,p,u,n,g⟩:=i fr t U N a w r;refine JT (YV hg r) p ?_;simp[B];have h:d<N:=by simp_all
 have y:BL fr f (U++τ) H' (up env d x) N {a with tmps:=a.tmps.setIfInBounds d v} j:=
  ⟨n,VR.up (fr:=fr) (λs=>(r.env s).mono (g.ext U τ)) (by rw[r.size];exact h) u,by simpa using r.size,r.defers.keep g⟩
 refine Yx (λe a w q=>q.step g (QI ?_)) _ _ _ (k z fr f (U++τ) _ j y (hrd.to g λ_ q=>q));rw[r.sim.len];exact m
theorem QM{o:Oper}{l:AA Oper}{d:Nat}{x:A}(hg:Qy all o env true)(m:o.dst=some d)(n:Nat.blt d N=true)
  (f:AK P o env H x)(k:WO P h0 N all l (up env d x) H Q):WO P h0 N all (o::l) env H Q:=by
 intro j fr g U a w r hrd;obtain⟨v,h,i⟩:=f fr g U N a w r;refine JT (YV hg r) h ?_;simp[m];have e:d<N:=by simp_all
 exact k j fr g U {a with tmps:=a.tmps.setIfInBounds d v} w ⟨r.sim,VR.up (fr:=fr) r.env (by rw[r.size];exact e) i,by simpa using r.size,r.defers⟩ hrd
theorem LE{o:Oper}{l:AA Oper}(j:h0<=H.length)(hg:Qy all o env true)(x:o.dst=none)
  (g:FS P o env H H')(k:WO P h0 N all l env H' Q):WO P h0 N all (o::l) env H Q:=by
 intro u h p U a w r hrd;obtain⟨i,d,τ,n,m,f⟩:=g h p U N a w r;refine po (YV hg r) n ?_;simp[x];have t:BL h d (U++τ) H' env N a i:=⟨m,λs=>(r.env s).mono (f.ext U τ),r.size,r.defers.keep f⟩;refine Yx (λe a w q=>q.step f (QI ?_)) _ _ _ (k u h d (U++τ) _ i t (hrd.to f λ_ q=>q));rw[r.sim.len];exact j
theorem tu{o:Oper}{l:AA Oper}{x:A}(j:h0<=H.length)(hg:Qy all o env true)(y:o.dst=none)
  (g:CD P o env H x H')(k:WO P h0 N all l env H' Q):WO P h0 N all (o::l) env H Q:=by
 intro u h p U a w r hrd;obtain⟨v,i,d,τ,n,z,m,f⟩:=g h p U N a w r;refine JT (YV hg r) n ?_;simp[y];have t:BL h d (U++τ) H' env N a i:=⟨m,λs=>(r.env s).mono (f.ext U τ),r.size,r.defers.keep f⟩;refine Yx (λe a w q=>q.step f (QI ?_)) _ _ _ (k u h d (U++τ) _ i t (hrd.to f λ_ q=>q));rw[r.sim.len];exact j
theorem WO.skip{o:Oper}{l:AA Oper}{d:Nat}(hg:Qy all o env false)(h:o.dst=some d)(i:Nat.blt d N=true)
  (k:WO P h0 N all l (up env d (.tup [])) H Q):WO P h0 N all (o::l) env H Q:=by
 intro g fr f U a w r hrd;unfold CK wpListIn;rw[YV hg r,Vn (by simp)];refine⟨λ_ _=>trivial,?_⟩;simp[h];have e:d<N:=by simp_all
 exact k g fr f U {a with tmps:=a.tmps.setIfInBounds d undef} w ⟨r.sim,VR.up (fr:=fr) r.env (by rw[r.size];exact e) ⟨[],rfl,rfl⟩,by simpa using r.size,r.defers⟩ hrd
theorem TC.region{id:Nat}{l:AA Oper}(h:WO P h0 N l.toArray l env H Q):TC P h0 N (.region id l.toArray false) env H Q:=
 λrd fr ro U a w r hrd=>Code.wpIn_mono (λe a w q=>q.postW) (wpIn_region_lit (h rd fr ro U a w r hrd))
end
mutual
def Je(ρ:Nat->Nat):A->A
 |.ptr i off=>.ptr (ρ i) off
 |.osl i o n k=>.osl (ρ i) o n k
 |.agg cs=>.agg (C3 ρ cs)
 |.fn f a c=>.fn f (C3 ρ a) (C3 ρ c)
 |.iface t v=>.iface t (Je ρ v)
 |.map i=>.map (ρ i)
 |.tup vs=>.tup (C3 ρ vs)
 |a=>a
def C3(ρ:Nat->Nat):AA A->AA A
 |[]=>[]
 |a::r=>Je ρ a::C3 ρ r
end
def NY(ρ:Nat->Nat):AA (AA A)->AA (AA A)
 |[]=>[]
 |a::r=>C3 ρ a::NY ρ r
def Kb(ρ:Nat->Nat):AA (A×A)->AA (A×A)
 |[]=>[]
 |a::r=>(Je ρ a.1,Je ρ a.2)::Kb ρ r
def Q9(ρ:Nat->Nat):AR->AR
 |.cells t cs=>.cells t (C3 ρ cs)
 |.rowr t k es=>.rowr t k (NY ρ es)
 |.ents t b1 b2 es=>.ents t (ρ b1) (ρ b2) es
 |.wins t b n c=>.wins t (ρ b) n c
 |.mapP es=>.mapP (Kb ρ es)
 |b=>b
theorem qd(ρ:Nat->Nat)(b1 b2:Nat):∀(es:AA A6),NY ρ (es.map (eC b1 b2))=es.map (eC (ρ b1) (ρ b2))
 |[]=>rfl
 |e::es=>by
  have:=qd ρ b1 b2 es;simp only[Vf,NY,this];congr 1;cases h:e.fl<;>simp[eC,C3,Je,h]
theorem xg(ρ:Nat->Nat)(b n c:Nat):NY ρ (KX b n c)=KX (ρ b) n c:=by
 unfold KX
 induction List.range c with
 |nil=>rfl
 |cons j l a=>simp only[Vf,NY,a];rfl
theorem QT(ρ:Nat->Nat)(x:AR):(Q9 ρ x).live=x.live:=by cases x<;>rfl
theorem Nm(ρ:Nat->Nat)(x:AR)(w:World)(b c:Nat):Bw w (Q9 ρ x) b c↔Bw w x b c:=by cases x<;>exact Iff.rfl
section
variable {ro:Nat->Prop} {U σ':AZ} {w:World} {ρ:Nat->Nat} (h:∀i:Nat,U[ρ i]?=σ'[i]?)
include h
mutual
theorem Sh:∀{a:A} {v:Value},VR ro U w (Je ρ a) v↔VR ro σ' w a v
 |.any,_=>by simp only[Je,VR]
 |.bool b,v=>by simp only[Je,VR]
 |.int k n,v=>by simp only[Je,VR]
 |.str s,v=>by simp only[Je,VR]
 |.nilp,v=>by simp only[Je,VR]
 |.ptr i off,v=>by simp only[Je,VR,h]
 |.rp cs,v=>by simp only[Je,VR]
 |.nils,v=>by simp only[Je,VR]
 |.rsl k es,v=>by simp only[Je,VR]
 |.osl i o n k,v=>by simp only[Je,VR,h]
 |.agg cs,v=>by simp only[Je,VR];exact exists_congr λl=>and_congr_right λ_=>LD
 |.fn f a c,v=>by simp only[Je,VR];exact exists_congr λl=>exists_congr λl'=>and_congr_right λ_=>and_congr LD LD
 |.nilf,v=>by simp only[Je,VR]
 |.iface t a,v=>by simp only[Je,VR];exact exists_congr λl=>and_congr_right λ_=>Sh
 |.nilif,v=>by simp only[Je,VR]
 |.map i,v=>by simp only[Je,VR,h]
 |.nilm,v=>by simp only[Je,VR]
 |.tup vs,v=>by simp only[Je,VR];exact exists_congr λl=>and_congr_right λ_=>LD
theorem LD:∀{az:AA A} {l:AA Value},LR ro U w (C3 ρ az) l↔LR ro σ' w az l
 |[],l=>by simp only[C3,LR]
 |a::r,l=>by
  simp only[C3,LR];exact exists_congr λv=>exists_congr λl'=>and_congr_right λ_=>and_congr Sh LD
end
theorem sf:∀(cs:AA A),(C3 ρ cs).length=cs.length
 |[]=>rfl
 |a::r=>by simp[C3,sf r]
theorem aQ{k:Nat}:∀{es:AA (AA A)} {l:AA Value},RL ro U w k (NY ρ es) l↔RL ro σ' w k es l
 |[],l=>by rfl
 |a::r,l=>by
  simp only[NY,RL,sf h];exact exists_congr λl1=>exists_congr λl2=>and_congr_right λ_=>and_congr_right λ_=>and_congr (and_congr_left λ_=>LD h) aQ
theorem nJ:∀{es:AA (A×A)} {l:AA MapEntry},ER ro U w (Kb ρ es) l↔ER ro σ' w es l
 |[],l=>by rfl
 |a::r,l=>by
  simp only[Kb,ER];exact exists_congr λe=>exists_congr λl'=>and_congr_right λ_=>and_congr (Sh h) (and_congr (Sh h) nJ)
theorem aM{x:AR}{s:AB Nat}:BR ro U w (Q9 ρ x) s↔BR ro σ' w x s:=by
 cases x with
 |cells t f=>
  cases s with
  |none=>exact Iff.rfl
  |some b=>simp only[Q9,BR];exact exists_congr λl=>and_congr_right λ_=>and_congr_left λ_=>LD h
 |rowr t k a=>
  cases s with
  |none=>exact Iff.rfl
  |some b=>simp only[Q9,BR];exact exists_congr λl=>and_congr_right λ_=>aQ h
 |mapP a=>
  cases s with
  |none=>exact Iff.rfl
  |some b=>simp only[Q9,BR];exact exists_congr λl=>exists_congr λc=>and_congr_right λ_=>and_congr_left λ_=>nJ h
 |wins t b n c=>
  cases s with
  |none=>exact Iff.rfl
  |some d=>
   simp only[Q9,BR];refine exists_congr λl=>and_congr_right λ_=>?_;rw[<- xg];exact aQ h
 |ents t g e a=>
  cases s with
  |none=>exact Iff.rfl
  |some b=>
   simp only[Q9,BR];refine exists_congr λl=>and_congr_right λ_=>?_;rw[<- qd];exact aQ h
 |_=>cases s<;>exact Iff.rfl
end
def C(P:Program)(f:FuncId)(args:AA A)(H:Qb)(Q:A->Qb->Prop):Prop:=
 ∀fr ro U vals w,AU fr ro U H w->LR ro U w args vals->Calls P f vals.toArray w λe w'=>
  ∃v r H' ro' τ,e=.returned v/\Q r H'/\AU fr ro' (U++τ) H' w'/\VR ro' (U++τ) w' r v/\Qm fr ro w ro' w'
theorem C.mono{P:Program}{f:FuncId}{args:AA A}{H:Qb}{Q Q':A->Qb->Prop}(h:C P f args H Q)(hq:∀r H,Q r H->Q' r H):C P f args H Q':=
 λfr ro U vals w s l=>(h fr ro U vals w s l).mono (by grind)
def NZ:Nat->AA A->Env
 |_,[]=>[]
 |i,a::r=>(i,a)::NZ (i+1) r
theorem kv{ro:Nat->Prop}{U:AZ}{w:World}:∀{args:AA A} {vals:AA Value} {i:Nat} (pre:AA Value),pre.length=i->LR ro U w args vals->∀rest:Array Value,
  ∀s,VR ro U w (lk (NZ i args) s) (((pre++vals).toArray++rest).getD s undef)
 |[],vals,i,pre,hp,hl,rest,s=>trivial
 |a::r,vals,i,pre,hp,hl,rest,s=>by
  simp only[LR]at hl;obtain⟨v,l',rfl,h1,h2⟩:=hl;simp only[NZ,lk];by_cases e:s=i
  .simp_all[Array.getElem?_append]
  .have:Nat.beq s i=false:=by
    simp_all[VI]
   rw[this];have:=kv (i:=i+1) (pre++[v]) (by simp[hp]) h2 rest s
   grind
def Df(P:Program)(fn:Func)(env:Env)(H:Qb)(r:A):Prop:=
 ∀fr ro U N a w,BL fr ro U H env N a w->∃v,(results fn a.tmps).run P w=.ok v w/\VR ro U w r v
def LJ(P:Program)(h0:Nat)(fn:Func)(Q:A->Qb->Prop):QW
 |.normal,env,H=>∃env' H' r,Le h0 env H env' H'/\Df P fn env' H' r/\Q r H'
 |.ret,env,H=>∃env' H' r,Le h0 env H env' H'/\Df P fn env' H' r/\Q r H'
 |.exit _,_,_=>False
theorem LR.length{ro:Nat->Prop}{U:AZ}{w:World}:∀{az:AA A} {l:AA Value},LR ro U w az l->l.length=az.length
 |[],l,h=>by simp only[LR]at h;simp[h]
 |a::r,l,h=>by
  simp only[LR]at h;obtain⟨v,l',rfl,_,h2⟩:=h;simp[h2.length]
theorem AU.turn{H:Qb}(s:AU fr ro U H w){b:Nat}{obj:Obj}(u:¬ro b)(n:¬fr b)(z:∀(i:Nat) (x:AR),U[i]?=some (some b)->H[i]?=some x->x.live=true->False)
  (k:∀(i d:Nat) (x:AR),U[i]?=some (some d)->H[i]?=some x->Bw w x d b->False)
  (m:∀y,w.shape? b=some y->(w.putObj b obj).shape? b=some y):AU fr ro U H (w.putObj b obj)/\Qm fr ro w ro (w.putObj b obj):=by
 have p:∀c,c≠b->(w.putObj b obj).heap[c]?=w.heap[c]? :=λc r=>World.putObj_heap_other r;have a:(w.putObj b obj).heap.size=w.heap.size:=by simp
 have ev:Qm fr ro w ro (w.putObj b obj):=by
  refine⟨λ_ q=>q,(by grind),(by grind),by omega,λc x q=>?_,rfl,rfl,rfl,XR _⟩
  grind[World.shape?]
 have e:BI ro U w ro U (w.putObj b obj):=by have:=ev.ext U [];grind
 refine⟨⟨s.len,s.roOk.to (λ_ q=>q) ev.keepRo (λc q=>by rw[a];exact s.roLt c q),λc q=>by rw[a];exact s.frLt c q,s.roFr,λi c x g f t=>?_,s.inj,λi y x g f=>?_,
  s.hidTo (· = ·) Yd (by omega) (by simp) (by simp) λj d y h l E=>.inl ⟨j,y,rfl,h,l,id,λc q=>s.hidKeep h l (by grind) ev.keepRo q⟩⟩,ev⟩
 .obtain⟨B,F,G⟩:=s.own i c x g f t
  grind
 .refine(s.blk i y x g f).keep e ?_ ?_
  .grind
  grind
theorem lq{P:Program}{fn:Func}{tmps:Array Value}{R:Ending->World->Prop}{fr ro:Nat->Prop}{U:AZ}{H:Qb}:
  ∀(ds:AA Deferred) (w:World),ds.Nodup->(∀d∈ds,∃D,d={target:=.collected D,args:= #[]}/\ ¬ro D/\ ¬fr D/\(∀(i:Nat) (x:AR),U[i]?=some (some D)->H[i]?=some x->x.live=true->False)/\(∀(i d:Nat) (x:AR),U[i]?=some (some d)->H[i]?=some x->Bw w x d D->False)/\w.heap[D]?=some (.deferred (some [])))->
  AU fr ro U H w->(∀w',AU fr ro U H w'->Qm fr ro w ro w'->∃v,(results fn tmps).run P w'=.ok v w'/\R (.returned v) w')->LeavesInM Fence.wide 0 P fn tmps R ds .returning w
 |[],w,_,_,s,hk=>by
  obtain⟨v,h1,h2⟩:=hk w s (Qm.refl _ _ _);exact⟨v,h1,h2⟩
 |d::ds,w,hn,hd,s,hk=>by
  obtain⟨D,rfl,h1,h2,h3,h5,h4⟩:=hd d (by simp);obtain⟨n1,n2⟩:=List.nodup_cons.1 hn;obtain⟨s',ev⟩:=s.turn (obj:=.deferred none) h1 h2 h3 h5 (λy q=>by grind[World.shape?]);refine⟨(by simp),.inl ⟨D,_,rfl,run_takeDeferred h4,?_⟩⟩;refine lq ds _ n2 (λd' q=>?_) s' (λw' q1 q2=>hk w' q1 (ev.trans q2));obtain⟨D',rfl,g1,g2,g3,g5,g4⟩:=hd d' (by simp[q]);refine⟨D',rfl,g1,g2,g3,λi d x z1 z2 z3=>g5 i d x z1 z2 (s.hidKeep z1 z2 (λz=>World.putObj_heap_other (by grind)) (λb q=>World.putObj_heap_other (λe:b=D=>h1 (e▸q))) z3),(World.putObj_heap_other (λe=>?_)).trans g4⟩
  grind
variable {args:AA A}
theorem QG{fn:Func}{c:Code}{H:Qb}{Q:A->Qb->Prop}
  (hf:P.funcs[f]?=some fn)(hb:fn.body=some c)(hN:fn.ntmps=N)(hA:Nat.ble args.length N=true)
  (h:TC P H.length N c (NZ 0 args) H (LJ P H.length fn Q)):C P f args H Q:=by
 intro fr ro U vals w hs hl;have Y:=hl.length;have aa:args.length<=N:=by simp_all
 refine(callsIn_wide (n:=0)).1 (callsIn_of_wp_marks hf hb trivial (Code.wpIn_mono ?_ (h none fr ro U _ w ⟨hs,?_,?_,List.nodup_nil,λd l=>by cases l⟩ D5.none)))
 .rintro e y k ⟨x,p,H1,E,σ1,F,z,G,h3,h4,h5,T⟩;have m:(∃j H' r,Le H.length p H1 j H'/\Df P fn j H' r/\Q r H')->LeavesInM Fence.wide 0 P fn y.tmps (λe k=>
    ∃v' r H' a τ,e=.returned v'/\Q r H'/\AU fr a (U++τ) H' k/\VR a (U++τ) k r v'/\Qm fr ro w a k) y.defers .returning k:=by
   rintro⟨j,H',r,M,hr,hq⟩;obtain⟨a,σ',g,u,ht⟩:=M F E σ1 N y k h3;have hσ:σ'=U++σ'.drop H.length:=by
    have V:σ'.take H.length=U:=by rw[ht,h5,VE (by rw[hs.len];omega)]
    grind[List.take_append_drop]
   have s1:AU fr a σ' H' k:=g.sim.frMono T.sub;refine lq (ro:=a) (fr:=fr) (U:=σ') (H:=H') y.defers k g.defers.1 (λd l=>?_) s1 (λw2 X t=>?_)
   .obtain⟨D,rfl,R,g2⟩:=g.defers.2 d l;refine⟨D,rfl,λq=>g.sim.roFr D q R,λq=>?_,λi x L B J=>(g.sim.own i D x L B J).2.2 R,λi d x L B J=>(g.sim.hid i d x D L B J).fr R,g2⟩;rcases T.ds _ l with W|⟨D',e,W⟩
    .cases W
    .have:D=D':=by simpa using e
     subst this;have:=hs.frLt D q;omega
   .have O:BL fr a σ' H' j N {y with defers:=[]} w2:=⟨X,λs=>(g.env s).mono (by have:=t.ext σ' [];grind),g.size,List.nodup_nil,λd l=>by cases l⟩;obtain⟨v,V,e2⟩:=hr fr a σ' N _ w2 O;exact⟨v,V,v,r,H',a,σ'.drop H.length,rfl,hq,hσ▸X,hσ▸e2,(h4.trans (YZ u)).trans t⟩
  cases e with
  |normal=>
   obtain rfl:x=.normal:=z;exact m G
  |ret=>
   obtain rfl:x=.ret:=z;exact m G
  |exit id=>
   obtain rfl:x=.exit id:=z;exact G.elim
  |_=>exact z.elim
 .intro s;have:=kv (i:=0) [] rfl hl (Array.replicate (fn.ntmps-vals.toArray.size) undef) s
  grind
 grind
section
variable {P:Program} {fn:Func} {env:Env} {H:Qb}
theorem Df.nil(h:fn.results= #[]):Df P fn env H (.tup []):=
 λfr ro U N a w r=>⟨.tuple #[],by simp[results,h,go_sem],[],rfl,rfl⟩
theorem Df.one{t:Nat}{x:A}(h:fn.results= #[.tmp t])(hx:lk env t=x):Df P fn env H x:=
 λfr ro U N a w r=>⟨a.tmps.getD t undef,by simp[results,h,go_sem],hx▸r.env t⟩
theorem w9{t u:Nat}{x y:A}(h:fn.results= #[.tmp t,.tmp u])(hx:lk env t=x)(hy:lk env u=y):Df P fn env H (.tup [x,y]):=
 λfr ro U N a w r=>⟨.tuple #[a.tmps.getD t undef,a.tmps.getD u undef],by simp[results,h,go_sem],
  [_,_],rfl,_,_,rfl,hx▸r.env t,_,_,rfl,hy▸r.env u,rfl⟩
theorem zd{t u v:Nat}{x y z:A}(h:fn.results= #[.tmp t,.tmp u,.tmp v])(hx:lk env t=x)(hy:lk env u=y)(hz:lk env v=z):
  Df P fn env H (.tup [x,y,z]):=
 λfr ro U N a w r=>⟨.tuple #[a.tmps.getD t undef,a.tmps.getD u undef,a.tmps.getD v undef],by simp[results,h,go_sem],
  [_,_,_],rfl,_,_,rfl,hx▸r.env t,_,_,rfl,hy▸r.env u,_,_,rfl,hz▸r.env v,rfl⟩
end
inductive AG (S B:Type) where
 |k (s:S)
 |d (b:B)
 deriving DecidableEq
def iter{S B:Type}(step:S->AB (AG S B)):Nat->S->AB B
 |0,_=>none
 |n+1,s=>match step s with
  |some (.k s')=>iter step n s'
  |some (.d b)=>some b
  |none=>none
variable {B S:Type}
def Ss(I:S->Env->Qb->Prop)(d:AG S B)(Q:QW):QW
 |.normal,env,H=>∃s,d=.k s/\I s env H
 |.exit id,env,H=>(∃b,d=.d b)/\Q (.exit id) env H
 |.ret,env,H=>(∃b,d=.d b)/\Q .ret env H
variable {env:Env}{m:Nat}
theorem pO{c:Code}{S B:Type}{step:S->AB (AG S B)}{I:S->Env->Qb->Prop}{Q:QW}{F:B}
  (body:∀s d env H,I s env H->step s=some d->(∀b,d=.d b->b=F)->TC P h0 N c env H (Ss I d Q)){J:S}(h:iter step m J=some F){H:Qb}(G:I J env H):TC P h0 N (.loop c) env H Q:=by
 intro V y z U a w r hrd b k cs hro hb hr;have L:∀m s env H fr1 ro1 σ1 a1 w1,iter step m s=some F->I s env H->BL fr1 ro1 σ1 H env N a1 w1->Qm y z w ro1 w1->σ1.take h0=U.take h0->BN y w a.defers fr1 a1.defers->
   ∃e j i,E_ h0 y z U w N a.defers Q e j i/\ArrivesIn (Machine.fenced P (WF V)) P (lone (b.atR a1 (.code c::.inLoop c::k)) cs w1) b k cs e j i:=by
  intro m
  induction m with
  |zero=>grind[iter]
  |succ m ih=>
   intro s env H fr1 ro1 σ1 a1 w1 hit G r1 ev1 t1 g1;simp only[iter]at hit;cases X:step s with
   |none=>grind
   |some d=>
    rw[X]at hit;have hd:∀b,d=.d b->b=F:=by
     grind
    obtain⟨e,j,i,O,f⟩:=body s d env H G X hd V fr1 ro1 σ1 a1 w1 r1 (hrd.to ev1 g1.sub) b (.inLoop c::k) cs hro hb hr;obtain⟨x,g,H',t,σ',p,E,n,T,q4,W,q6⟩:=O;have u:=ev1.trans (q4.frMono g1.sub);have Y:=g1.trans ev1.size q6;have R:∀x,Q x g H'->SJ e x->E_ h0 y z U w N a.defers Q e j i:=λx q q'=>⟨x,g,H',t,σ',p,q',q,T,u,W.trans t1,Y⟩;cases e with
    |normal=>
     obtain rfl:x=.normal:=E;obtain⟨s',rfl,n⟩:=n;obtain⟨e2,a2,w2,M,l⟩:=ih s' g H' p t σ' j i hit n T u (W.trans t1) Y;exact⟨e2,a2,w2,M,.of_steps (StepsIn.trans f (.one (fenced_calm hb hr rfl) stepR_inLoop)) l⟩
    |exit id=>
     obtain rfl:x=.exit id:=E;exact⟨_,j,i,R _ n.2 rfl,.pass (x:=.inLoop c) rfl (by simp) f⟩
    |ret=>
     obtain rfl:x=.ret:=E;exact⟨_,j,i,R _ n.2 rfl,.pass (x:=.inLoop c) rfl (by simp) f⟩
    |_=>exact E.elim
 obtain⟨e,j,i,O,f⟩:=L m J env H y z U a w h G r (Qm.refl _ _ _) rfl (BN.refl _ _ _);exact⟨e,j,i,O,.of_steps (.one (fenced_calm hb hr rfl) stepR_loop) f⟩
theorem TC.loop{P:Program}{h0 N:Nat}{c:Code}{S B:Type}{step:S->AB (AG S B)}(E:S->Env)(Hp:S->Qb){Q:QW}
  {m:Nat}{s0:S}{b0:B}(h:iter step m s0=some b0){env:Env}{H:Qb}(hI:Le h0 env H (E s0) (Hp s0))
  (body:∀s d,step s=some d->(∀b,d=.d b->b=b0)->TC P h0 N c (E s) (Hp s) (Ss (λs env H=>Le h0 env H (E s) (Hp s)) d Q)):TC P h0 N (.loop c) env H Q:=
 pO (I:=λs env H=>Le h0 env H (E s) (Hp s)) (λs d env H hI hs hd=>Qd hI (body s d hs hd)) h hI
def Af(π:AA Nat)(n i:Nat):Nat:=
 match π[i]? with
 |some p=>p
 |none=>n+(i-π.length)
def YI:Qb->AA Nat->AA AR->Qb
 |H,[],xs=>H++xs
 |H,p::π,x::xs=>YI (H.set p x) π xs
 |H,_::_,[]=>H
theorem tQ:∀(π:AA Nat) (H:Qb) (xs:AA AR),π.length<=xs.length->(YI H π xs).length=H.length+(xs.length-π.length)
 |[],H,xs,_=>by simp[YI]
 |p::π,H,[],h=>by simp at h
 |p::π,H,x::xs,h=>by
  simp[XY]at h;simp only[YI,tQ π (H.set p x) xs (by omega),X2,XY];omega
theorem lg:∀(π:AA Nat) (H:Qb) (xs:AA AR) (i:Nat),i<H.length->i∉π->(YI H π xs)[i]?=H[i]?
 |[],H,xs,i,hi,_=>by simp[YI,XK hi]
 |p::π,H,[],i,hi,h=>by simp[YI]
 |p::π,H,x::xs,i,hi,h=>by
  simp[X3,not_or]at h;simp[YI];rw[lg π (H.set p x) xs i (by grind) h.2,XN (λe=>h.1 e.symm)]
theorem sA:∀(π:AA Nat) (H:Qb) (xs:AA AR) (j:Nat),π.length<=xs.length->(∀p∈π,p<H.length)->π.Nodup->
  (YI H π xs)[Af π H.length j]?=xs[j]?
 |[],H,xs,j,_,_,_=>by
  simp_all[YI,Af,XL]
 |p::π,H,[],j,h,_,_=>by simp at h
 |p::π,H,x::xs,j,h,hp,hn=>by
  simp[XY]at h;have hn':=List.nodup_cons.1 hn;simp[YI];cases j with
  |zero=>
   grind[Af,lg]
  |succ j=>
   have ih:=sA π (H.set p x) xs j (by omega) (λq hq=>by grind) hn'.2;have e:Af (p::π) H.length (j+1)=Af π H.length j:=by
    simp only[Af,XY];simp
   grind
theorem xh(π:AA Nat)(n i:Nat)(hi:n<=i\/i∈π):∃j,i=Af π n j:=by
 rcases hi with hi|hi
 .refine⟨π.length+(i-n),?_⟩
  grind[Af]
 .obtain⟨j,a,rfl⟩:=List.mem_iff_getElem.1 hi;exact⟨j,by simp[Af,XI a]⟩
def YN(U:AZ)(π:AA Nat):AZ:=π.map λp=>(U[p]?).getD none
variable {π:AA Nat}
theorem bQ{n:Nat}(a:U.length=n)(d:∀p∈π,p<n)(j:Nat):(U++τ)[Af π n j]?=(YN U π++τ)[j]? :=by
 rcases(by omega)with h|h
 .grind[Af,YN]
 grind[Af,YN]
def Bh(P:Program)(o:Oper)(env:Env)(H:Qb)(f:FuncId)(args:AA A):Prop:=
 ∀fr ro U N a w,BL fr ro U H env N a w->∃vals:AA Value,(execOp a.eval o).run P w=.ok (.enter f vals.toArray) w/\LR ro U w args vals
theorem JJ{H:Qb}{Hc:AA AR}(hH:π.map (λp=>H[p]?)=Hc.map some){p:Nat}(a:p∈π):p<H.length:=by
 grind[List.mem_map_of_mem]
variable {Qr:A->Qb->Prop}
theorem WO.call{o:Oper}{l:AA Oper}{H:Qb}{Q:QW}{d:AB Nat}
  {aa:AA A}{Hc:Qb}(π:AA Nat)(hh:h0<=H.length)(hg:Qy all o env true)(hd:o.dst=d)(hN:∀x,d=some x->x<N)
  (ao:Bh P o env H f args)(hargs:args=C3 (Af π H.length) aa)(hH:π.map (λp=>H[p]?)=(Hc.map (Q9 (Af π H.length))).map some)(hπ:π.Nodup)
  (hC:C P f aa Hc Qr)
  (k:∀r H1,Qr r H1->WO P h0 N all l (match d with|some d=>up env d (Je (Af π H.length) r)|none=>env) (YI H π (H1.map (Q9 (Af π H.length)))) Q):
  WO P h0 N all (o::l) env H Q:=by
 intro rd fr ro U a w r hrd;obtain⟨ai,h1,h2⟩:=ao fr ro U N a w r;refine lT (YV hg r) h1 ?_;have hp:∀p∈π,p<H.length:=λp q=>JJ hH q;have hσl:=r.sim.len;have ac:∀(j p:Nat),π[j]?=some p->H[p]?=(Hc[j]?).map (Q9 (Af π H.length)):=by
  intro j p M;have:=congrArg (λl=>l[j]?) hH;simp only[Xp,M,Xk]at this;cases e:Hc[j]? with
  |none=>rw[e]at this;simp at this
  |some x=>rw[e]at this;simpa using this
 have am:π.length=Hc.length:=by simpa using congrArg List.length hH
 have hσc:∀j:Nat,U[Af π H.length j]?=(YN U π)[j]? :=by
  intro j;have:=bQ (τ:=[]) hσl hp j;simpa using this
 let frc:Nat->Prop:=λb=>fr b\/(∃i x,U[i]?=some (some b)/\H[i]?=some x/\x.live=true/\i∉π)\/ ∃i x d,U[i]?=some (some d)/\H[i]?=some x/\Bw w x d b/\i∉π
 have hπj:∀(j b:Nat),(YN U π)[j]?=some (some b)->∃p,π[j]?=some p/\U[p]?=some (some b):=by
  intro j b M;simp only[YN,Xp]at M;cases e:π[j]? with
  |none=>rw[e]at M;simp at M
  |some p=>
   rw[e]at M;simp at M;refine⟨p,rfl,?_⟩;cases e2:U[p]? with
   |none=>rw[e2]at M;simp at M
   |some s=>rw[e2]at M;simp at M;rw[M]
 have hπi:∀(i j p:Nat),π[i]?=some p->π[j]?=some p->i=j:=by
  intro i j p T O;have hi:i<π.length:=by
   rcases Vy i π.length with q|q
   .exact q
   .rw[XM q]at T;simp at T
  have M:j<π.length:=by
   rcases Vy j π.length with q|q
   .exact q
   .rw[XM q]at O;simp at O
  rw[XI hi]at T;rw[XI M]at O;have ag:=(XX T).trans (XX O).symm;rcases Nat.lt_trichotomy i j with q|q|q
  .exact(VA.1 hπ i j hi M q ag).elim
  .exact q
  .exact(VA.1 hπ j i M hi q ag.symm).elim
 have ak:AU frc ro (YN U π) Hc w:=by
  refine⟨by simp[YN,am],r.sim.roOk,?_,?_,?_,?_,?_,?_⟩
  .rintro b (hb|⟨i,x,h,g,m,J⟩|⟨i,x,d,h,g,m,J⟩)
   .exact r.sim.frLt b hb
   .exact(r.sim.own i b x h g m).1
   .exact(r.sim.hid i d x b h g m).lt
  .rintro b hb (hf|⟨i,x,h,g,m,J⟩|⟨i,x,d,h,g,m,J⟩)
   .exact r.sim.roFr b hb hf
   .exact(r.sim.own i b x h g m).2.1 hb
   .exact(r.sim.hid i d x b h g m).ro hb
  .intro j b x h g m;obtain⟨p,T,e2⟩:=hπj j b h;have e3:H[p]?=some (Q9 (Af π H.length) x):=by rw[ac j p T,g];rfl
   obtain⟨o1,o2,o3⟩:=r.sim.own p b _ e2 e3 (by rw[QT];exact m);refine⟨o1,o2,?_⟩;rintro(hf|⟨i,y,y1,y2,y3,y4⟩|⟨i,y,d,y1,y2,y3,y4⟩)
   .exact o3 hf
   .have:=r.sim.inj i p b _ _ y1 e2 y2 e3 y3 (by rw[QT];exact m);subst this;exact y4 (VD T)
   .exact(r.sim.hid i d y b y1 y2 y3).ne p b _ e2 e3 (by rw[QT];exact m) rfl
  .intro i j b x y h g m J X q6;obtain⟨p,T,e2⟩:=hπj i b h;obtain⟨p',O,au⟩:=hπj j b g;have e3:H[p]?=some (Q9 (Af π H.length) x):=by rw[ac i p T,m];rfl
   have an:H[p']?=some (Q9 (Af π H.length) y):=by rw[ac j p' O,J];rfl
   have:=r.sim.inj p p' b _ _ e2 au e3 an (by rw[QT];exact X) (by rw[QT];exact q6);subst this;have hi:i<π.length:=by
    rcases Vy i π.length with q|q
    .exact q
    .rw[XM q]at T;simp at T
   have M:j<π.length:=by
    rcases Vy j π.length with q|q
    .exact q
    .rw[XM q]at O;simp at O
   rw[XI hi]at T;rw[XI M]at O;have ag:=(XX T).trans (XX O).symm;rcases Nat.lt_trichotomy i j with q|q|q
   .exact(VA.1 hπ i j hi M q ag).elim
   .exact q
   .exact(VA.1 hπ j i M hi q ag.symm).elim
  .intro j s x h g;have M:j<π.length:=by
    rcases Vy j π.length with q|q
    .exact q
    .rw[XM (by simpa[YN]using q)]at h;simp at h
   have T:π[j]?=some π[j]:=XI M;have e3:H[π[j]]?=some (Q9 (Af π H.length) x):=by rw[ac j _ T,g];rfl
   have e2:U[π[j]]?=some s:=by
    have:=hσc j;rw[h]at this;simpa[Af,T]using this
   exact(aM hσc).1 (r.sim.blk _ s _ e2 e3)
  .intro j b x c h g m;obtain⟨p,T,e2⟩:=hπj j b h;have e3:H[p]?=some (Q9 (Af π H.length) x):=by rw[ac j p T,g];rfl
   have k:=r.sim.hid p b _ c e2 e3 ((Nm _ _ _ _ _).2 m);refine⟨k.lt,k.ro,?_,?_,?_⟩
   .rintro(hf|⟨i,y,y1,y2,y3,y4⟩|⟨i,y,d,y1,y2,y3,y4⟩)
    .exact k.fr hf
    .exact k.ne i c y y1 y2 y3 rfl
    .obtain⟨rfl,rfl⟩:=k.one i d y y1 y2 y3;exact y4 (VD T)
   .intro R b' y L n Y;obtain⟨p',f1,f2⟩:=hπj R b' L;exact k.ne p' b' _ f2 (show H[p']?=some (Q9 (Af π H.length) y)by rw[ac R p' f1,n];rfl) (by rw[QT];exact Y)
   .intro R b' y L n Y;obtain⟨p',f1,f2⟩:=hπj R b' L;obtain⟨z4,z5⟩:=k.one p' b' _ f2 (show H[p']?=some (Q9 (Af π H.length) y)by rw[ac R p' f1,n];rfl) ((Nm _ _ _ _ _).2 Y);subst z5;exact⟨z4,hπi R j p' f1 T⟩
 have ah:LR ro (YN U π) w aa ai:=(LD hσc).1 (hargs▸h2);refine Calls.mono (hC frc ro (YN U π) ai w ak ah) ?_;rintro e w' ⟨v,rr,H1,ab,τ,rfl,hq,sc,hv,ev⟩;have hσ':∀j:Nat,(U++τ)[Af π H.length j]?=(YN U π++τ)[j]? :=λj=>bQ hσl hp j;have av:H1.length=π.length+τ.length:=by rw[<- sc.len];simp[YN]
 have al:π.length<=(H1.map (Q9 (Af π H.length))).length:=by simp;omega
 have W:Qm fr ro w ab w':=⟨ev.sub,ev.keepRo,λb q=>ev.keepFr b (.inl q),ev.size,ev.shape,ev.os,ev.tape,ev.output,ev.drawn⟩;have G:∀j,(YI H π (H1.map (Q9 (Af π H.length))))[Af π H.length j]?=(H1[j]?).map (Q9 (Af π H.length)):=by
  intro j;rw[sA π H _ j al hp hπ];simp
 have B:∀i,i<H.length->i∉π->(YI H π (H1.map (Q9 (Af π H.length))))[i]?=H[i]? :=λi=>lg π H _ i;have t:∀i:Nat,(∃j,i=Af π H.length j)\/(i<H.length/\i∉π):=by
  intro i;by_cases q:H.length<=i\/i∈π
  .exact .inl (xh π H.length i q)
  .simp only[not_or]at q;exact .inr ⟨by omega,q.2⟩
 have F:∀i b x,i<H.length->i∉π->U[i]?=some (some b)->H[i]?=some x->x.live=true->frc b:=λi b x h g m J X=>.inr (.inl ⟨i,x,m,J,X,g⟩);have ae:∀i b x c,i<H.length->i∉π->U[i]?=some (some b)->H[i]?=some x->Bw w' x b c->Bw w x b c/\frc c:=λi b x c h g m J X=>
  have q6:=r.sim.hidKeep m J (λz=>ev.keepFr b (F i b x h g m J z)) ev.keepRo X
  ⟨q6,.inr (.inr ⟨i,x,b,m,J,q6,g⟩)⟩
 have aj:AU fr ab (U++τ) (YI H π (H1.map (Q9 (Af π H.length)))) w':=by
  refine⟨?_,sc.roOk,λb q=>sc.frLt b (.inl q),λb q q'=>sc.roFr b q (.inl q'),?_,?_,?_,?_⟩
  .rw[tQ _ _ _ al];simp[hσl,av]
  .intro i b x h g m;rcases t i with⟨j,rfl⟩|⟨c1,c2⟩
   .rw[hσ']at h;rw[G]at g;cases e:H1[j]? with
    |none=>rw[e]at g;simp at g
    |some y=>
     rw[e]at g;simp at g;subst g;obtain⟨o1,o2,o3⟩:=sc.own j b y h e (by rw[QT]at m;exact m);exact⟨o1,o2,λq=>o3 (.inl q)⟩
   .rw[B i c1 c2]at g;rw[XK (by omega)]at h;obtain⟨o1,o2,o3⟩:=r.sim.own i b x h g m;exact⟨Vb o1 ev.size,λq=>sc.roFr b q (F i b x c1 c2 h g m),o3⟩
  .intro i E b x y h g m J X q6;have af:∀(i E:Nat) (x y:AR),(∃j,i=Af π H.length j)->(E<H.length/\E∉π)->(U++τ)[i]?=some (some b)->(U++τ)[E]?=some (some b)->
     (YI H π (H1.map (Q9 (Af π H.length))))[i]?=some x->(YI H π (H1.map (Q9 (Af π H.length))))[E]?=some y->x.live=true->y.live=true->False:=by
    rintro i E x y ⟨j,rfl⟩ ⟨c1,c2⟩ h g m J X q6;rw[hσ']at h;rw[G]at m;rw[B E c1 c2]at J;rw[XK (by omega)]at g;cases e:H1[j]? with
    |none=>rw[e]at m;simp at m
    |some z=>
     rw[e]at m;simp at m;subst m;exact(sc.own j b z h e (by rw[QT]at X;exact X)).2.2 (F E b y c1 c2 g J q6)
   rcases t i with ci|ci<;>rcases t E with ci'|ci'
   .obtain⟨j,rfl⟩:=ci;obtain⟨R,rfl⟩:=ci';rw[hσ']at h g;rw[G]at m J;cases e:H1[j]? with
    |none=>rw[e]at m;simp at m
    |some z=>
     cases V:H1[R]? with
     |none=>rw[V]at J;simp at J
     |some z'=>
      rw[e]at m;simp at m;subst m;rw[V]at J;simp at J;subst J;rw[sc.inj j R b z z' h g e V (by rw[QT]at X;exact X) (by rw[QT]at q6;exact q6)]
   .exact(af i E x y ci ci' h g m J X q6).elim
   .exact(af E i y x ci' ci g h J m q6 X).elim
   .rw[B i ci.1 ci.2]at m;rw[B E ci'.1 ci'.2]at J;rw[XK (by omega)]at h g;exact r.sim.inj i E b x y h g m J X q6
  .intro i s x h g;rcases t i with⟨j,rfl⟩|⟨c1,c2⟩
   .rw[hσ']at h;rw[G]at g;cases e:H1[j]? with
    |none=>rw[e]at g;simp at g
    |some y=>
     rw[e]at g;simp at g;subst g;exact(aM hσ').2 (sc.blk j s y h e)
   .rw[B i c1 c2]at g;rw[XK (by omega)]at h;refine BR.keep (W.ext U τ) ?_ (r.sim.blk i s x h g) ?_
    .rintro b rfl hl;exact ev.keepFr b (F i b x c1 c2 h g hl)
    .rintro b c rfl hl;exact ev.keepFr c (.inr (.inr ⟨i,x,b,h,g,hl,c2⟩))
  .intro i b x c h g m;rcases t i with⟨j,rfl⟩|⟨c1,c2⟩
   .rw[hσ']at h;rw[G]at g;cases e:H1[j]? with
    |none=>rw[e]at g;simp at g
    |some y=>
     rw[e]at g;simp at g;subst g;have k:=sc.hid j b y c h e ((Nm _ _ _ _ _).1 m);refine⟨k.lt,k.ro,λq=>k.fr (.inl q),?_,?_⟩
     .intro E b' y' L n Y;rcases t E with⟨R,rfl⟩|⟨d1,d2⟩
      .rw[hσ']at L;rw[G]at n;cases V:H1[R]? with
       |none=>rw[V]at n;simp at n
       |some u=>
        rw[V]at n;simp at n;subst n;exact k.ne R b' u L V (by rw[QT]at Y;exact Y)
      .rw[B E d1 d2]at n;rw[XK (by omega)]at L;rintro rfl;exact k.fr (F E c y' d1 d2 L n Y)
     .intro E b' y' L n Y;rcases t E with⟨R,rfl⟩|⟨d1,d2⟩
      .rw[hσ']at L;rw[G]at n;cases V:H1[R]? with
       |none=>rw[V]at n;simp at n
       |some u=>
        rw[V]at n;simp at n;subst n;obtain⟨z4,rfl⟩:=k.one R b' u L V ((Nm _ _ _ _ _).1 Y);exact⟨z4,rfl⟩
      .rw[B E d1 d2]at n;rw[XK (by omega)]at L;exact(k.fr (ae E b' y' c d1 d2 L n Y).2).elim
   .rw[B i c1 c2]at g;rw[XK (by omega)]at h;obtain⟨J,X⟩:=ae i b x c c1 c2 h g m;have k:=r.sim.hid i b x c h g J;refine⟨Vb k.lt ev.size,λq=>sc.roFr c q X,k.fr,?_,?_⟩
    .intro E b' y' L n Y;rcases t E with⟨R,rfl⟩|⟨d1,d2⟩
     .rw[hσ']at L;rw[G]at n;cases V:H1[R]? with
      |none=>rw[V]at n;simp at n
      |some u=>
       rw[V]at n;simp at n;subst n;rintro rfl;exact(sc.own R c u L V (by rw[QT]at Y;exact Y)).2.2 X
     .rw[B E d1 d2]at n;rw[XK (by omega)]at L;exact k.ne E b' y' L n Y
    .intro E b' y' L n Y;rcases t E with⟨R,rfl⟩|⟨d1,d2⟩
     .rw[hσ']at L;rw[G]at n;cases V:H1[R]? with
      |none=>rw[V]at n;simp at n
      |some u=>
       rw[V]at n;simp at n;subst n;exact((sc.hid R b' u c L V ((Nm _ _ _ _ _).1 Y)).fr X).elim
     .rw[B E d1 d2]at n;rw[XK (by omega)]at L;exact k.one E b' y' L n (ae E b' y' c d1 d2 L n Y).1
 have aq:VR ab (U++τ) w' (Je (Af π H.length) rr) v:=(Sh hσ').2 hv;have hk:=k rr H1 hq;cases d with
 |none=>
  simp only[hd,Act.put];have r':BL fr ab (U++τ) (YI H π (H1.map (Q9 (Af π H.length)))) env N a w':=⟨aj,λs=>(r.env s).mono (W.ext U τ),r.size,r.defers.keep W⟩;exact⟨_,rfl,Yx (λe a w q=>q.step W (QI (by omega))) _ _ _ (hk rd fr ab (U++τ) _ w' r' (hrd.to W λ_ q=>q))⟩
 |some d=>
  simp only[hd,Act.put];have ar:=hN d rfl;have r':BL fr ab (U++τ) (YI H π (H1.map (Q9 (Af π H.length)))) (up env d (Je (Af π H.length) rr)) N {a with tmps:=a.tmps.setIfInBounds d v} w':=
   ⟨aj,VR.up (fr:=fr) (λs=>(r.env s).mono (W.ext U τ)) (by rw[r.size];exact ar) aq,by simpa using r.size,r.defers.keep W⟩
  exact⟨_,rfl,Yx (λe a w q=>q.step W (QI (by omega))) _ _ _ (hk rd fr ab (U++τ) _ w' r' (hrd.to W λ_ q=>q))⟩
variable {T k:Nat}{cs' vs:AA A}{es:AA (AA A)}{q:AA UInt8}{t u:TypeId}
section
variable {P:Program} {o:Oper} {env:Env} {H:Qb}
theorem QN{a:Act}(r:BL fr ro U H env N a w){x:Operand}{k:IntKind}{n:Int}(h:AM env x=.int k n):a.eval x=.int k n:=by
 have:=Ql r x;rw[h]at this;exact this
theorem cB{a:Act}(r:BL fr ro U H env N a w){x:Operand}{b:Bool}(h:AM env x=.bool b):a.eval x=.bool b:=by
 have:=Ql r x;rw[h]at this;exact this
theorem bM{a:Act}(r:BL fr ro U H env N a w){x:Operand}{s:AA UInt8}(h:AM env x=.str s):a.eval x=.string ⟨s.toArray⟩:=by
 have:=Ql r x;rw[h]at this;exact this
theorem AK.move{x:Operand}{v:A}(ho:o.op=.move x)(hx:AM env x=v):AK P o env H v:=
 λfr ro U N a w r=>⟨a.eval x,by simp[execOp,ho],hx▸Ql r x⟩
theorem AK.assign{x:Operand}{v:A}(ho:o.op=.assign x)(hx:AM env x=v):AK P o env H v:=
 λfr ro U N a w r=>⟨a.eval x,by simp[execOp,ho],hx▸Ql r x⟩
theorem AK.pick{c x y:Operand}{b:Bool}{v:A}(f:o.op=.pick c x y)(d:AM env c=.bool b)(i:(if b then AM env x else AM env y)=v):AK P o env H v:=by
 intro h e U N a w r;have g:=cB r d;refine⟨if b then a.eval x else a.eval y,by simp_all[execOp,asBool],?_⟩
 grind[Ql]
theorem AK.add{t u:TypeId}{x y:Operand}{k:IntKind}{m n:Int}(g:o.op=.binOp .add t x y u)(e:AM env x=.int k m)(d:AM env y=.int k n):AK P o env H (.int k (k.wrap (m+n))):=by
 intro i f U N a w r;have j:=QN r e;have h:=QN r d;refine⟨_,?_,rfl⟩
 simp_all[execOp,Go.binOp,eqGuard,Op.intArith]
theorem AK.sub{t u:TypeId}{x y:Operand}{k:IntKind}{m n:Int}(g:o.op=.binOp .sub t x y u)(e:AM env x=.int k m)(d:AM env y=.int k n):AK P o env H (.int k (k.wrap (m-n))):=by
 intro i f U N a w r;have j:=QN r e;have h:=QN r d;refine⟨_,?_,rfl⟩
 simp_all[execOp,Go.binOp,eqGuard,Op.intArith]
theorem AK.mul{t u:TypeId}{x y:Operand}{k:IntKind}{m n:Int}(g:o.op=.binOp .mul t x y u)(e:AM env x=.int k m)(d:AM env y=.int k n):AK P o env H (.int k (k.wrap (m*n))):=by
 intro i f U N a w r;have j:=QN r e;have h:=QN r d;refine⟨_,?_,rfl⟩
 simp_all[execOp,Go.binOp,eqGuard,Op.intArith]
theorem AK.cmp{op:BinOp}{x y:Operand}{k:IntKind}{m n:Int}{f:Int->Int->Bool}(e:o.op=.binOp op t x y u)(j:AM env x=.int k m)(i:AM env y=.int k n)
  (d:op=.eql/\f=(λa b=>a==b)\/op=.neq/\f=(λa b=>a != b)\/op=.lss/\f=(λa b=>decide (a<b))\/op=.leq/\f=(λa b=>decide (a<=b))\/
   op=.gtr/\f=(λa b=>decide (b<a))\/op=.geq/\f=(λa b=>decide (b<=a))):AK P o env H (.bool (f m n)):=by
 intro l p U N a w r;have g:=QN r j;have h:=QN r i;refine⟨_,?_,rfl⟩;generalize a.eval=ρ at*;rcases d with⟨rfl,rfl⟩|⟨rfl,rfl⟩|⟨rfl,rfl⟩|⟨rfl,rfl⟩|⟨rfl,rfl⟩|⟨rfl,rfl⟩<;>simp[e,g,h,go_sem]
theorem AK.eql{t u:TypeId}{x y:Operand}{k:IntKind}{m n:Int}(ho:o.op=.binOp .eql t x y u)(hx:AM env x=.int k m)(hy:AM env y=.int k n):AK P o env H (.bool (m==n)):=
 AK.cmp ho hx hy (by simp)
theorem AK.neq{t u:TypeId}{x y:Operand}{k:IntKind}{m n:Int}(ho:o.op=.binOp .neq t x y u)(hx:AM env x=.int k m)(hy:AM env y=.int k n):AK P o env H (.bool (m != n)):=
 AK.cmp ho hx hy (by simp)
theorem AK.lss{t u:TypeId}{x y:Operand}{k:IntKind}{m n:Int}(ho:o.op=.binOp .lss t x y u)(hx:AM env x=.int k m)(hy:AM env y=.int k n):AK P o env H (.bool (decide (m<n))):=
 AK.cmp (f:=λa b=>decide (a<b)) ho hx hy (by simp)
theorem AK.leq{t u:TypeId}{x y:Operand}{k:IntKind}{m n:Int}(ho:o.op=.binOp .leq t x y u)(hx:AM env x=.int k m)(hy:AM env y=.int k n):AK P o env H (.bool (decide (m<=n))):=
 AK.cmp (f:=λa b=>decide (a<=b)) ho hx hy (by simp)
theorem AK.gtr{t u:TypeId}{x y:Operand}{k:IntKind}{m n:Int}(ho:o.op=.binOp .gtr t x y u)(hx:AM env x=.int k m)(hy:AM env y=.int k n):AK P o env H (.bool (decide (n<m))):=
 AK.cmp (f:=λa b=>decide (b<a)) ho hx hy (by simp)
theorem AK.geq{t u:TypeId}{x y:Operand}{k:IntKind}{m n:Int}(ho:o.op=.binOp .geq t x y u)(hx:AM env x=.int k m)(hy:AM env y=.int k n):AK P o env H (.bool (decide (n<=m))):=
 AK.cmp (f:=λa b=>decide (b<=a)) ho hx hy (by simp)
theorem AK.rem{t u:TypeId}{x y:Operand}{k:IntKind}{m n:Int}(f:o.op=.binOp .rem t x y u)(e:AM env x=.int k m)(d:AM env y=.int k n)(l:n≠0):AK P o env H (.int k (m.tmod n)):=by
 intro g i U N a w r;have h:=QN r e;have j:=QN r d;exact⟨_,by simp_all[execOp,Go.binOp,eqGuard,Op.intDiv],rfl⟩
theorem AK.quo{t u:TypeId}{x y:Operand}{k:IntKind}{m n:Int}(f:o.op=.binOp .quo t x y u)(e:AM env x=.int k m)(d:AM env y=.int k n)(l:n≠0):AK P o env H (.int k (k.wrap (m.tdiv n))):=by
 intro g i U N a w r;have h:=QN r e;have j:=QN r d;exact⟨_,by simp_all[execOp,Go.binOp,eqGuard,Op.intDiv],rfl⟩
theorem AK.not{t:TypeId}{x:Operand}{b:Bool}(f:o.op=.unOp .not t x)(d:AM env x=.bool b):AK P o env H (.bool !b):=by
 intro g e U N a w r;have h:=cB r d;exact⟨_,by simp_all[execOp,Op.unary],rfl⟩
theorem AK.neg{t:TypeId}{x:Operand}{k:IntKind}{n:Int}(f:o.op=.unOp .neg t x)(d:AM env x=.int k n):AK P o env H (.int k (k.wrap (0-n))):=by
 intro g e U N a w r;have h:=QN r d;exact⟨_,by simp_all[execOp,Op.unary,Op.intArith],rfl⟩
theorem Y7{s:TypeId}{x:Operand}{k d:IntKind}{n:Int}{e:TypeDesc}(g:o.op=.convert s t x)(m:∀w,(underlying s).run P w=.ok e w)(l:∀w,(underlying t).run P w=.ok (.int k) w)
  (f:AM env x=.int d n):AK P o env H (.int k (k.wrap n)):=by
 intro h j U N a w r;have i:=QN r f;refine⟨_,?_,rfl⟩
 simp_all[execOp,convert,Conv.intToInt]
theorem cP{op:BinOp}{x y:Operand}{p:AA UInt8}{f:AA UInt8->AA UInt8->Bool}(e:o.op=.binOp op t x y u)(l:AM env x=.str p)(k:AM env y=.str q)
  (d:op=.eql/\f=(λa b=>a==b)\/op=.neq/\f=(λa b=>a != b)\/op=.lss/\f=Op.bytesLess\/op=.geq/\f=(λa b=> !Op.bytesLess a b)\/
   op=.leq/\f=(λa b=>Op.bytesLess a b||a==b)\/op=.gtr/\f=(λa b=> !(Op.bytesLess a b||a==b))):AK P o env H (.bool (f p q)):=by
 intro m n U N a w r;have g:=bM r l;have i:=bM r k;refine⟨_,?_,rfl⟩;generalize a.eval=ρ at*;have h:(⟨p.toArray⟩:ByteArray).toList=p:=by simp
 have j:(⟨q.toArray⟩:ByteArray).toList=q:=by simp
 rcases d with⟨rfl,rfl⟩|⟨rfl,rfl⟩|⟨rfl,rfl⟩|⟨rfl,rfl⟩|⟨rfl,rfl⟩|⟨rfl,rfl⟩<;>simp[e,g,i,Go.binOp,Op.stringOp,h,j,go_sem,bne]
theorem kx{x y:Operand}{p:AA UInt8}(ho:o.op=.binOp .eql t x y u)(hx:AM env x=.str p)(hy:AM env y=.str q):AK P o env H (.bool (p==q)):=
 cP ho hx hy (by simp)
theorem w6{x y:Operand}{p:AA UInt8}(ho:o.op=.binOp .neq t x y u)(hx:AM env x=.str p)(hy:AM env y=.str q):AK P o env H (.bool (p != q)):=
 cP ho hx hy (by simp)
theorem w5{x y:Operand}{p:AA UInt8}(ho:o.op=.binOp .lss t x y u)(hx:AM env x=.str p)(hy:AM env y=.str q):AK P o env H (.bool (Op.bytesLess p q)):=
 cP ho hx hy (by simp)
theorem wz{x y:Operand}{s:AA UInt8}{k:IntKind}{n:Int}{c:UInt8}(l:o.op=.index t x y)(z:∀w,(underlying t).run P w=.ok .string w)(j:AM env x=.str s)(g:AM env y=.int k n)
  (h0:0<=n)(i:s[n.toNat]?=some c):AK P o env H (.int .u8 c.toNat):=by
 intro m q U N a w r;have p:=bM r j;have u:=QN r g;have h:(⟨s.toArray⟩:ByteArray)[n.toNat]?=some c:=by
  obtain⟨d,e⟩:=XJ.1 i;have f:(⟨s.toArray⟩:ByteArray).size=s.length:=by rfl
  rw[getElem?_pos _ _ (by exact d)];show some (s.toArray[n.toNat]'(by omega))=some c;simp[e]
 refine⟨_,?_,rfl⟩
 simp_all[execOp,Instr.index,asIntOf]
theorem Js{c:Call}{x:Operand}{s:AA UInt8}(e:o.op=.call c)(d:c={callee:=.builtin .len,args:= #[x],argTypes:= #[t]})(f:∀w,(underlying t).run P w=.ok .string w)
  (g:AM env x=.str s):AK P o env H (.int .i64 s.length):=by
 intro j i U N a w r;have h:=bM r g;generalize a.eval=ρ at*;subst d;simp[execOp,e,h,resolve,invoke,Builtin.len_,f,goInt,go_sem]<;>rfl
theorem vF{c:Call}{e:TypeId}{x:Operand}(f:o.op=.call c)(h:c={callee:=.builtin .len,args:= #[x],argTypes:= #[t]})(i:∀w,(underlying t).run P w=.ok (.slice e) w)
  (j:AM env x=.rsl k es):AK P o env H (.int .i64 es.length):=by
 intro l m U N a w r;have d:=Ql r x;rw[j]at d;obtain⟨ad,g,d,_⟩:=d;refine⟨_,?_,rfl⟩;generalize a.eval=ρ at*;subst h;simp[execOp,f,d,resolve,invoke,Builtin.len_,i,goInt,go_sem]
theorem pf{c:Call}{e:TypeId}{x:Operand}{i s n:Nat}(f:o.op=.call c)(h:c={callee:=.builtin .len,args:= #[x],argTypes:= #[t]})(j:∀w,(underlying t).run P w=.ok (.slice e) w)
  (l:AM env x=.osl i s n k):AK P o env H (.int .i64 n):=by
 intro u y U N a w r;have d:=Ql r x;rw[l]at d;refine⟨_,?_,rfl⟩;generalize a.eval=ρ at*;subst h;rcases d with⟨rfl,d⟩|⟨b,p,g,q,m,_,d,_⟩<;>
 simp[execOp,f,d,resolve,invoke,Builtin.len_,j,goInt,go_sem]
structure QK (P:Program) (T f off n:Nat):Prop where
 h:∃fs fd,(∀w,(underlying T).run P w=.ok (.struct fs) w)/\fs[f]?=some fd/\fd.offset=off/\(∀w,(sizeOf fd.type).run P w=.ok n w)/\n≠0
theorem J6(b off n:Nat):(⟨b,off,none⟩:Addr).add n=⟨b,off+n,none⟩:=by
 simp_all[Addr.add]
theorem sh{f n b p:Nat}(a:QK P T f off n)(w:World):(Instr.fieldAt T (.pointer (some ⟨b,p,none⟩)) f).run P w=.ok (.pointer (some ⟨b,p+off,none⟩)) w:=by
 obtain⟨d,j,e,i,rfl,k,g⟩:=a.h
 simp_all[Instr.fieldAt,Instr.sureAddr,fieldPlace,J6]
theorem YK{f n i p:Nat}{x:Operand}(e:QK P T f off n)(g:o.op=.fieldAddr T x f)(j:AM env x=.ptr i p):AK P o env H (.ptr i (p+off)):=by
 intro l k U N a w r;have d:=Ql r x;rw[j]at d;obtain⟨b,d,h⟩:=d;refine⟨.pointer (some ⟨b,p+off,none⟩),?_,b,d,rfl⟩;simp only[execOp,g,h,Vi,sh e];rfl
theorem CR.drop{ro:Nat->Prop}{U:AZ}{w:World}{b:Nat}:∀(n:Nat) {cs:AA A} {off:Nat},CR ro U w b cs off->CR ro U w b (cs.drop n) (off+n)
 |0,_,_,h=>h
 |n+1,[],_,h=>trivial
 |n+1,c::cs,off,h=>by
  have:=CR.drop n h.2
  grind
theorem CR.take{ro:Nat->Prop}{U:AZ}{w:World}{b:Nat}:∀(n:Nat) {cs:AA A} {off:Nat},CR ro U w b cs off->CR ro U w b (cs.take n) off
 |0,_,_,h=>trivial
 |n+1,[],_,h=>trivial
 |n+1,c::cs,off,h=>⟨h.1,CR.take n h.2⟩
theorem QD{f n:Nat}{x:Operand}{cs:AA A}(g:QK P T f off n)(h:o.op=.fieldAddr T x f)(k:AM env x=.rp cs)(e:cs.drop off=cs'):AK P o env H (.rp cs'):=by
 intro l m U N a w r;have d:=Ql r x;rw[k]at d;obtain⟨b,p,d,j,i⟩:=d;refine⟨.pointer (some ⟨b,p+off,none⟩),?_,b,p+off,rfl,j,e▸i.drop off⟩;simp only[execOp,h,d,Vi,sh g];rfl
theorem RR.get{ro:Nat->Prop}{U:AZ}{w:World}{b k:Nat}:∀(n:Nat) {es:AA (AA A)} {off:Nat} {c:AA A},RR ro U w b k es off->es[n]?=some c->c.length=k/\CR ro U w b c (off+n*k)
 |n,[],_,_,h,hc=>by simp at hc
 |0,e::es,off,c,h,hc=>by
  simp at hc;subst hc;exact⟨h.1,by simpa using h.2.1⟩
 |n+1,e::es,off,c,h,hc=>by
  have:=RR.get n h.2.2 (by simpa using hc)
  grind
theorem uI{e:TypeId}{x y:Operand}{E:IntKind}{n:Int}{c:AA A}(h:o.op=.indexAddr t x y)(F:∀w,(underlying t).run P w=.ok (.slice e) w)
  (z:∀w,(sizeOf e).run P w=.ok k w)(B:AM env x=.rsl k es)(s:AM env y=.int E n)(h0:0<=n)(l:es[n.toNat]?=some c):AK P o env H (.rp c):=by
 intro G L U N a w r;have f:=Ql r x;rw[B]at f;have p:=QN r s;obtain⟨ad,j,f,J,u⟩:=f;have g:n.toNat<es.length:=(by grind);rcases u with rfl|⟨b,d,rfl,m,i⟩
 .simp at g
 have q:n<es.length:=by omega
 refine⟨.pointer (some ⟨b,d+n.toNat*k,none⟩),?_,b,d+n.toNat*k,rfl,m,(i.get n.toNat l).2⟩;generalize a.eval=ρ at*;simp[h,f,p,Instr.indexAt,F,z,h0,q,go_sem]
theorem jn{e:TypeId}{x y:Operand}{i s:Nat}{h:IntKind}{n:Int}(f:o.op=.indexAddr t x y)(z:∀w,(underlying t).run P w=.ok (.slice e) w)
  (E:∀w,(sizeOf e).run P w=.ok k w)(F:AM env x=.osl i s m k)(j:AM env y=.int h n)(h0:0<=n)(q:n<m):AK P o env H (.ptr i (s*k+n.toNat*k)):=by
 intro L M U N a w r;have d:=Ql r x;rw[F]at d;have u:=QN r j;rcases d with⟨rfl,_⟩|⟨b,p,g,G,J,l,d,B,O,_⟩
 .omega
 obtain rfl:=B (by omega);refine⟨.pointer (some ⟨b,s*k+n.toNat*k,none⟩),?_,b,l,rfl⟩;generalize a.eval=ρ at*;simp[f,d,u,Instr.indexAt,z,E,h0,q,go_sem]
def BD(H:Qb)(p:A)(cs:AA A):Prop:=
 ∀fr ro U w v,AU fr ro U H w->VR ro U w p v->∃b off,v=.pointer (some ⟨b,off,none⟩)/\CR ro U w b cs off
theorem VR.lift{a:A}{v:Value}(h:VR ro [] w a v):VR ro U w a v:=
 h.mono ⟨λ_ q=>q,λ_ _=>rfl,λ_ _ q=>q,(by simp)⟩
theorem CR.lift{ro:Nat->Prop}{U:AZ}{w:World}{b:Nat}:∀{cs:AA A} {off:Nat},CR ro [] w b cs off->CR ro U w b cs off
 |[],_,_=>trivial
 |c::cs,off,⟨⟨v,h1,hp,h2⟩,h3⟩=>⟨⟨v,h1,hp,h2.lift⟩,CR.lift h3⟩
theorem BD.rp{cs:AA A}:BD H (.rp cs) cs:=λfr ro U w v s ⟨b,off,h1,h2,h3⟩=>⟨b,off,h1,h3.lift⟩
theorem LR.cells{ro:Nat->Prop}{U:AZ}{w:World}{b t:Nat}{fz:Nat×Nat}{pre l:AA Value}(d:w.heap[b]?=some (.cells (pre++l).toArray t fz))(a:∀v∈l,Qz v):
  ∀{cs:AA A},LR ro U w cs l->CR ro U w b cs pre.length:=by
 induction l generalizing pre with
 |nil=>
  intro cs h;cases cs with
  |nil=>trivial
  |cons c cs=>obtain⟨v,j,h,_⟩:=h;cases h
 |cons v l e=>
  intro cs h;cases cs with
  |nil=>trivial
  |cons c cs=>
   obtain⟨m,j,g,i,f⟩:=h;cases g;refine⟨⟨v,by simp[World.cell?,d],a v (by simp),i⟩,?_⟩;have:=e (pre:=pre++[v]) (by simpa using d) (λx k=>a x (by simp[k])) f
   grind
theorem BD.cells{i off t:Nat}{cs cs':AA A}(hH:H[i]?=some (.cells t cs))(d:cs.drop off=cs'):BD H (.ptr i off) cs':=by
 intro j k U w v s h;obtain⟨b,f,m⟩:=h;obtain⟨l,e,a,g⟩:=s.blk i _ _ f hH;have:=LR.cells (pre:=[]) (by simpa using e) g a;have:=this.drop off
 grind
theorem LR.get{ro:Nat->Prop}{U:AZ}{w:World}:∀{az:AA A} {l:AA Value} (i:Nat) {a:A},LR ro U w az l->az[i]?=some a->∃v,l[i]?=some v/\VR ro U w a v
 |[],l,i,a,h,ha=>by simp at ha
 |x::az,l,0,a,⟨v,l',h1,h2,h3⟩,ha=>by
  grind
 |x::az,l,i+1,a,⟨v,l',h1,h2,h3⟩,ha=>by
  obtain⟨v',q1,q2⟩:=LR.get i h3 (by simpa using ha)
  grind
theorem LR.drop{ro:Nat->Prop}{U:AZ}{w:World}:∀(n:Nat) {az:AA A} {l:AA Value},LR ro U w az l->LR ro U w (az.drop n) (l.drop n)
 |0,az,l,h=>h
 |n+1,[],l,h=>by cases(show l=[]from h);rfl
 |n+1,a::az,l,⟨v,l',h1,h2,h3⟩=>by subst h1;exact LR.drop n h3
theorem LR.take{ro:Nat->Prop}{U:AZ}{w:World}:∀(n:Nat) {az:AA A} {l:AA Value},LR ro U w az l->LR ro U w (az.take n) (l.take n)
 |0,az,l,h=>rfl
 |n+1,[],l,h=>by cases(show l=[]from h);rfl
 |n+1,a::az,l,⟨v,l',h1,h2,h3⟩=>by subst h1;exact⟨v,l'.take n,rfl,h2,LR.take n h3⟩
theorem LR.append{ro:Nat->Prop}{U:AZ}{w:World}:∀{az:AA A} {l:AA Value} {bs:AA A} {m:AA Value},LR ro U w az l->LR ro U w bs m->LR ro U w (az++bs) (l++m)
 |[],l,bs,m,h,k=>by cases(show l=[]from h);exact k
 |a::az,l,bs,m,⟨v,l',h1,h2,h3⟩,k=>by subst h1;exact⟨v,l'++m,rfl,h2,LR.append h3 k⟩
theorem n5{ro:Nat->Prop}{U:AZ}{w:World}{b t:Nat}{fz:Nat×Nat}:∀{cs:AA A} {pre l post:AA Value},w.heap[b]?=some (.cells (pre++(l++post)).toArray t fz)->(∀v∈l,Qz v)->
  LR ro U w cs l->CR ro U w b cs pre.length
 |[],_,_,_,_,_,_=>trivial
 |c::cs,pre,l,post,hb,hpl,⟨v,l',h1,h2,h3⟩=>by
  subst h1;refine⟨⟨v,by simp[World.cell?,hb],hpl v (by simp),h2⟩,?_⟩;have:=n5 (pre:=pre++[v]) (by simpa using hb) (by grind) h3
  grind
theorem Jc{ro:Nat->Prop}{U:AZ}{w:World}{b t k:Nat}{fz:Nat×Nat}:∀{es:AA (AA A)} {pre l:AA Value},w.heap[b]?=some (.cells (pre++l).toArray t fz)->
  RL ro U w k es l->RR ro U w b k es pre.length
 |[],_,_,_,_=>trivial
 |c::es,pre,l,hb,⟨l1,l2,h1,h2,h3,h4⟩=>by
  subst h1;refine⟨h2,n5 hb h3.2 h3.1,?_⟩;have hl:=h3.1.length;have:=Jc (pre:=pre++l1) (by simpa using hb) h4
  grind
theorem BD.row{i off t k e f:Nat}{es:AA (AA A)}{c cs':AA A}(hH:H[i]?=some (.row t k es))(d:off=e*k+f)(he:es[e]?=some c)(a:c.drop f=cs'):BD H (.ptr i off) cs':=by
 intro p q U w v s h;obtain⟨b,m,n⟩:=h;obtain⟨l,j,g⟩:=s.blk i _ _ m hH;have:=((Jc (pre:=[]) (by simpa using j) g).get e he).2.drop f;refine⟨b,off,n,?_⟩;subst d a;simpa using this.lift
theorem BD.rowr{i off t k e f:Nat}{es:AA (AA A)}{c cs':AA A}(hH:H[i]?=some (.rowr t k es))(m:off=e*k+f)(he:es[e]?=some c)(d:c.drop f=cs'):BD H (.ptr i off) cs':=by
 intro n p U w v s h;obtain⟨b,j,q⟩:=h;obtain⟨l,g,a⟩:=s.blk i _ _ j hH;have:=((Jc (pre:=[]) (by simpa using g) a).get e he).2.drop f
 grind
theorem xE(h:w'.heap=w.heap)(a:Addr):w'.cell? a=w.cell? a:=by unfold World.cell?;rw[h]
theorem YG{ro:Nat->Prop}{U:AZ}{w:World}{b off:Nat}:∀{cs:AA A} (i:Nat),CR ro U w b cs (off+i)->
  ∃l,LR ro U w cs l/\(∀v∈l,Qz v)/\ ∀(w':World) (a:Array Value),w'.heap=w.heap->(loadCellsFrom ⟨b,off,none⟩ i cs.length a).run P w'=.ok (a++l.toArray) w'
 |[],i,h=>⟨[],rfl,by simp,λw' a _=>by rfl⟩
 |c::cs,i,⟨⟨v,h1,hp,h2⟩,h3⟩=>by
  obtain⟨l,q1,qp,q2⟩:=YG (i+1) (by omega);refine⟨v::l,⟨v,l,rfl,h2,q1⟩,by grind,λw' a hw=>?_⟩;have h1':w'.cell? ⟨b,off+i,none⟩=some v:=by rw[xE hw];exact h1
  simp_all[loadCellsFrom,J6]
theorem Qv{t n:Nat}{x:Operand}{p:A}{cs:AA A}(q:o.op=.load t x)(u:∀w,(isAgg t).run P w=.ok true w)(z:∀w,(sizeOf t).run P w=.ok n w)(m:AM env x=p)(f:BD H p cs)
  (k:cs.take n=vs)(hl:vs.length=n):AK P o env H (.agg vs):=by
 intro g j U N a w r;have d:=Ql r x;rw[m]at d;obtain⟨b,i,y,h⟩:=f g j U w _ r.sim d;subst k;obtain⟨l,e,_,s⟩:=YG (P:=P) 0 (by simpa using h.take n);refine⟨.agg l.toArray,?_,l,rfl,e⟩
 simp_all[execOp,Instr.loadAt,Instr.sureAddr,loadVar,loadCells]
theorem AK.load{t:Nat}{x:Operand}{p v:A}{cs:AA A}(j:o.op=.load t x)(k:∀w,(isAgg t).run P w=.ok false w)(i:AM env x=p)(e:BD H p (v::cs)):AK P o env H v:=by
 intro f h U N a w r;have d:=Ql r x;rw[i]at d;obtain⟨b,g,m,⟨y,l,_,n⟩,_⟩:=e f h U w _ r.sim d
 simp_all[execOp,Instr.loadAt,Instr.sureAddr,loadVar]
theorem AK.extract{x:Operand}{vs:AA A}{i:Nat}{v:A}(h:o.op=.extract x i)(g:AM env x=.tup vs)(e:vs[i]?=some v):AK P o env H v:=by
 intro j m U N a w r;have d:=Ql r x;rw[g]at d;obtain⟨l,d,f⟩:=d;obtain⟨y,k,n⟩:=f.get i e
 simp_all[execOp,Instr.extract]
theorem St{fr ro:Nat->Prop}{U:AZ}{N:Nat}{a:Act}{w:World}(r:BL fr ro U H env N a w):∀(l:AA Operand),LR ro U w (l.map (AM env)) (l.map a.eval)
 |[]=>rfl
 |x::l=>⟨_,_,rfl,Ql r x,St r l⟩
theorem AK.makeFunc{f:Fn}{first cap:AA Operand}{d e:AA A}(j:o.op=.makeFunc f first.toArray cap.toArray)(h:first.map (AM env)=d)(g:cap.map (AM env)=e):AK P o env H (.fn f d e):=by
 intro k i U N a w r;refine⟨.func f (first.map a.eval).toArray (cap.map a.eval).toArray,?_,_,_,rfl,h▸St r first,g▸St r cap⟩
 simp_all[execOp,Instr.makeFunc]
theorem W4{x:Operand}{v:A}{d:TypeDesc}(i:o.op=.makeInterface t x)(j:∀w,(underlying t).run P w=.ok d w)(h:∀m,d≠ .interface m)(f:AM env x=v):AK P o env H (.iface t v):=by
 intro k g U N a w r;have e:=Ql r x;rw[f]at e;refine⟨.iface t (a.eval x),?_,_,rfl,e⟩
 simp_all[execOp,Instr.makeInterface]
end
mutual
def YR:A->Bool
 |.ptr _ _=>false
 |.osl _ _ _ _=>false
 |.map _=>false
 |.agg cs=>YB cs
 |.fn _ a c=>YB a&&YB c
 |.iface _ v=>YR v
 |.tup vs=>YB vs
 |_=>true
def YB:AA A->Bool
 |[]=>true
 |a::r=>YR a&&YB r
end
mutual
theorem VR.data{ro:Nat->Prop}{U σ':AZ}{w:World}:∀{a:A} {v:Value},YR a=true->VR ro U w a v->VR ro σ' w a v
 |.any,_,_,_=>trivial
 |.bool b,v,_,q=>q
 |.int k n,v,_,q=>q
 |.str s,v,_,q=>q
 |.nilp,v,_,q=>q
 |.ptr i off,v,d,q=>by simp[YR]at d
 |.rp cs,v,_,q=>q
 |.nils,v,_,q=>q
 |.rsl k es,v,_,q=>q
 |.osl i o n k,v,d,q=>by simp[YR]at d
 |.agg cs,v,d,q=>by
  simp only[VR,YR]at q d⊢;obtain⟨l,h1,h2⟩:=q;exact⟨l,h1,LR.data d h2⟩
 |.fn f a c,v,d,q=>by
  simp only[VR,YR,XU]at q d⊢;obtain⟨l,l',h1,h2,h3⟩:=q;exact⟨l,l',h1,LR.data d.1 h2,LR.data d.2 h3⟩
 |.nilf,v,_,q=>q
 |.iface t a,v,d,q=>by
  simp only[VR,YR]at q d⊢;obtain⟨x,h1,h2⟩:=q;exact⟨x,h1,VR.data d h2⟩
 |.nilif,v,_,q=>q
 |.map i,v,d,q=>by simp[YR]at d
 |.nilm,v,_,q=>q
 |.tup vs,v,d,q=>by
  simp only[VR,YR]at q d⊢;obtain⟨l,h1,h2⟩:=q;exact⟨l,h1,LR.data d h2⟩
theorem LR.data{ro:Nat->Prop}{U σ':AZ}{w:World}:∀{az:AA A} {l:AA Value},YB az=true->LR ro U w az l->LR ro σ' w az l
 |[],_,_,q=>q
 |a::r,l,d,q=>by
  simp only[LR,YB,XU]at q d⊢;obtain⟨v,l',h1,h2,h3⟩:=q;exact⟨v,l',h1,VR.data d.1 h2,LR.data d.2 h3⟩
end
def YJ:A->Bool
 |.any|.agg _|.tup _=>false
 |_=>true
def YD:A->AA A
 |.agg cs=>cs
 |a=>[a]
def Yr:A->Bool
 |.any=>false
 |_=>true
theorem VR.plain{a:A}{v:Value}(d:YJ a=true)(h:VR ro U w a v):Qz v:=by
 cases a<;>first|(simp[YJ]at d)|skip
 case rsl k es=>obtain⟨ad,c,rfl,_⟩:=h;trivial
 case osl=>rcases h with⟨_,rfl⟩|⟨_,_,_,_,_,_,rfl,_⟩<;>trivial
 case fn=>obtain⟨_,_,rfl,_⟩:=h;trivial
 case iface=>obtain⟨_,rfl,_⟩:=h;trivial
 case ptr=>obtain⟨_,_,rfl⟩:=h;trivial
 case rp=>obtain⟨_,_,rfl,_⟩:=h;trivial
 case map=>obtain⟨_,_,rfl⟩:=h;trivial
 all_goals (subst h;trivial)
theorem VR.cells{ro:Nat->Prop}{U:AZ}{w:World}{a:A}{v:Value}(d:Yr a=true)(h:VR ro U w a v):∃l:AA Value,v.cells=l.toArray/\LR ro U w (YD a) l:=by
 cases a
 case any=>simp[Yr]at d
 case agg cs=>obtain⟨l,rfl,h⟩:=h;exact⟨l,rfl,h⟩
 case tup cs=>obtain⟨l,rfl,h⟩:=h;exact⟨[.tuple l.toArray],rfl,_,_,rfl,⟨l,rfl,h⟩,rfl⟩
 all_goals
  have e:=h.plain rfl;refine⟨[v],?_,v,[],rfl,h,rfl⟩;cases v<;>first|rfl|exact e.elim
theorem LR.plain{ro:Nat->Prop}{U:AZ}{w:World}:∀{az:AA A} {l:AA Value},az.all YJ=true->LR ro U w az l->∀v∈l,Qz v
 |[],l,_,h=>by cases(show l=[]from h);simp
 |a::az,l,hp,⟨v,l',h1,h2,h3⟩=>by
  subst h1;simp only[List.all_cons,XU]at hp;intro x hx;rcases X3.1 hx with rfl|hx
  .exact h2.plain hp.1
  .exact LR.plain hp.2 h3 x hx
theorem Yt(w:World)(obj:Obj)(b:Nat)(a:b<w.heap.size):(w.alloc obj).heap[b]?=w.heap[b]? :=by
 show(w.heap.push obj)[b]?=_
 grind
theorem Ys(w:World)(obj:Obj):(w.alloc obj).heap[w.heap.size]?=some obj:=by
 show(w.heap.push obj)[w.heap.size]?=_;simp
theorem Jp(w:World)(obj:Obj):(w.alloc obj).heap.size=w.heap.size+1:=by
 simp
theorem pi{b:Nat}{x:TypeId×Nat}(h:w.shape? b=some x):b<w.heap.size:=by
 grind[World.shape?]
theorem Qm.alloc{fr ro:Nat->Prop}{w:World}(obj:Obj)(hro:∀b,ro b->b<w.heap.size)(hfr:∀b,fr b->b<w.heap.size):Qm fr ro w ro (w.alloc obj):=
 ⟨λ_ h=>h,λb h=>Yt w obj b (hro b h),λb h=>Yt w obj b (hfr b h),by simp,
  λb x h=>by grind[World.shape?,Yt],rfl,rfl,rfl,XR _⟩
variable {rest:AA Value}{α:Type}
section
variable {P:Program} {o:Oper} {env:Env} {H:Qb} {fr ro:Nat->Prop} {U:AZ} {w:World}
theorem AU.alloc(s:AU fr ro U H w){obj:Obj}{x:AR}(L:BR ro (U++[some w.heap.size]) (w.alloc obj) x (some w.heap.size))
  (u:∀c,Bw (w.alloc obj) x w.heap.size c->False:=by exact λ_ h=>h.elim):
  AU fr ro (U++[some w.heap.size]) (H++[x]) (w.alloc obj):=by
 have ev:Qm fr ro w ro (w.alloc obj):=Qm.alloc obj s.roLt s.frLt;have l:=s.len;have e:∀(i:Nat) (y:AB Nat),(U++[some w.heap.size])[i]?=some y->(i<U.length/\U[i]?=some y)\/(i=U.length/\y=some w.heap.size):=by
  grind
 have k:∀i:Nat,i<U.length->(H++[x])[i]?=H[i]? :=λi J=>XK (by omega);have F:(H++[x])[U.length]?=some x:=by rw[l];simp
 refine⟨by simp[l],s.roOk.to (λ_ q=>q) ev.keepRo (λb h=>?_),λb h=>?_,s.roFr,?_,?_,?_,?_⟩
 .rw[Jp];have:=s.roLt b h;omega
 .rw[Jp];have:=s.frLt b h;omega
 .intro i b y f g m;rw[Jp];rcases e i _ f with⟨q,f⟩|⟨rfl,n⟩
  .rw[k i q]at g;obtain⟨a,b,c⟩:=s.own i b y f g m
   grind
  .cases n;exact⟨by omega,λq=>by have:=s.roLt _ q;omega,λq=>by have:=s.frLt _ q;omega⟩
 .intro i j b y z f g m t E B;rcases e i _ f with⟨q,f⟩|⟨rfl,n⟩<;>rcases e j _ g with⟨q',g⟩|⟨rfl,e2⟩
  .rw[k i q]at m;rw[k j q']at t;exact s.inj i j b y z f g m t E B
  .cases e2;rw[k i q]at m;have:=(s.own i _ y f m E).1;omega
  .cases n;rw[k j q']at t;have:=(s.own j _ z g t B).1;omega
  .rfl
 .intro i y z f g;rcases e i _ f with⟨q,f⟩|⟨rfl,n⟩
  .rw[k i q]at g;refine(s.blk i y z f g).keep (ev.ext U _) ?_ ?_
   .rintro b rfl l;exact Yt w obj b (s.own i b z f g l).1
   .rintro b c rfl l;exact Yt w obj c (s.hid i b z c f g l).lt
  grind
 .refine s.hidTo (· = ·) Yd (by rw[Jp];omega) (λ_ _ _ _ _ _ _ q=>q) (λ_ _ _ _ _ _ _ q=>q) λj d y r p G=>?_;rcases e j _ r with⟨q,r⟩|⟨rfl,n⟩
  .rw[k j q]at p;exact .inl ⟨j,y,rfl,r,p,id,λc q=>s.hidKeep r p (λz=>Yt w obj d (s.own j d y r p z).1) ev.keepRo q⟩
  .rw[F]at p;cases p;cases n;exact .inr ⟨XR _,u⟩
theorem AU.allocCells(s:AU fr ro U H w){t:Nat}{cs:AA A}{l:AA Value}(h:LR ro U w cs l)(hp:∀v∈l,Qz v):
  AU fr ro (U++[some w.heap.size]) (H++[.cells t cs]) (w.alloc (.cells l.toArray t)):=
 s.alloc ⟨l,Ys _ _,h.mono ((Qm.alloc _ s.roLt s.frLt).ext U _),hp⟩
theorem pa{ro:Nat->Prop}{U:AZ}{w:World}:∀{az bs:AA A} {l:AA Value},LR ro U w (az++bs) l->∃l1 l2,l=l1++l2/\LR ro U w az l1/\LR ro U w bs l2
 |[],bs,l,h=>⟨[],l,rfl,rfl,h⟩
 |a::az,bs,l,⟨v,l',h1,h2,h3⟩=>by
  obtain⟨l1,l2,e,q1,q2⟩:=pa h3;subst h1 e;exact⟨v::l1,l2,rfl,⟨v,l1,rfl,h2,q1⟩,q2⟩
def allK(k:Nat):AA (AA A)->Prop
 |[]=>True
 |c::es=>c.length=k/\allK k es
theorem JS{k:Nat}:∀{es:AA (AA A)} {l rest:AA Value},allK k es->LR ro U w es.flatten l->(∀v∈l,Qz v)->RL ro U w k es (l++rest)
 |[],_,_,_,_,_=>trivial
 |c::es,l,rest,⟨h1,h2⟩,h,hp=>by
  obtain⟨l1,l2,rfl,q1,q2⟩:=pa h;exact⟨l1,l2++rest,by simp,h1,(by grind),JS h2 q2 (by grind)⟩
theorem AU.allocRow(s:AU fr ro U H w){t:Nat}{l:AA Value}(hk:allK k es)(h:LR ro [] w es.flatten l)(hp:∀v∈l,Qz v):
  AU fr ro (U++[some w.heap.size]) (H++[.row t k es]) (w.alloc (.cells (l++rest).toArray t)):=
 s.alloc ⟨l++rest,Ys _ _,(JS hk h hp).mono ((Qm.alloc _ s.roLt s.frLt).ext0 [])⟩
theorem AU.allocRowr(s:AU fr ro U H w){t:Nat}{l:AA Value}(hk:allK k es)(h:LR ro U w es.flatten l)(hp:∀v∈l,Qz v):
  AU fr ro (U++[some w.heap.size]) (H++[.rowr t k es]) (w.alloc (.cells (l++rest).toArray t)):=
 s.alloc ⟨l++rest,Ys _ _,(JS hk h hp).mono ((Qm.alloc _ s.roLt s.frLt).ext U _)⟩
theorem CD.box{t:Nat}{x:Operand}{v:A}{cs:AA A}(n:o.op=.box t x)(m:AM env x=v)(i:Yr v=true)(d:YD v=cs)(f:cs.all YJ=true):
  CD P o env H (.ptr H.length 0) (H++[.cells t cs]):=by
 intro p j U N a w r;have h:=Ql r x;rw[m]at h;obtain⟨l,k,g⟩:=h.cells i;subst d;refine⟨.pointer (some ⟨w.heap.size,0,none⟩),w.alloc (.cells l.toArray t),j,[some w.heap.size],?_,⟨w.heap.size,?_,rfl⟩,r.sim.allocCells g (g.plain f),Qm.alloc _ r.sim.roLt r.sim.frLt⟩
 .generalize a.eval=ρ at*;have e:(newVar t (ρ x)).run P w=.ok ⟨w.heap.size,0,none⟩ (w.alloc (.cells l.toArray t)):=by
   unfold newVar;rw[k];rfl
  simp_all[execOp,Instr.box]
 .rw[<- r.sim.len];simp
theorem AU.set(s:AU fr ro U H w){i b:Nat}{x x':AR}{obj:Obj}(hσ:U[i]?=some (some b))(hH:H[i]?=some x)(hl:x.live=true)
  (Q:∀y,w.shape? b=some y->({w with heap:=w.heap.setIfInBounds b obj}:World).shape? b=some y)
  (F:BI ro U w ro U {w with heap:=w.heap.setIfInBounds b obj}->({w with heap:=w.heap.setIfInBounds b obj}:World).heap[b]?=some obj->BR ro U {w with heap:=w.heap.setIfInBounds b obj} x' (some b))
  (P:∀c,Bw {w with heap:=w.heap.setIfInBounds b obj} x' b c->Bw w x b c:=by exact λ_ h=>h.elim):
  AU fr ro U (H.set i x') {w with heap:=w.heap.setIfInBounds b obj}/\Qm fr ro w ro {w with heap:=w.heap.setIfInBounds b obj}:=by
 obtain⟨V,M,J⟩:=s.own i b x hσ hH hl;have m:∀c,c≠b->({w with heap:=w.heap.setIfInBounds b obj}:World).heap[c]?=w.heap[c]? :=by
  grind
 have B:({w with heap:=w.heap.setIfInBounds b obj}:World).heap[b]?=some obj:=by
  grind
 have k:({w with heap:=w.heap.setIfInBounds b obj}:World).heap.size=w.heap.size:=by simp
 have ev:Qm fr ro w ro {w with heap:=w.heap.setIfInBounds b obj}:=
  ⟨λ_ h=>h,(by grind),(by grind),by omega,by
   grind[World.shape?],rfl,rfl,rfl,XR _⟩
 have T:i<H.length:=(by grind);have R:(H.set i x')[i]?=some x':=(by grind);have a:∀j,j≠i->(H.set i x')[j]?=H[j]? :=(by grind);have N:=F (ev.ext0 U) B;refine⟨⟨by rw[X2];exact s.len,s.roOk.to (λ_ q=>q) ev.keepRo (λc h=>by rw[k];exact s.roLt c h),λc h=>by rw[k];exact s.frLt c h,s.roFr,?_,?_,?_,?_⟩,ev⟩
 .intro j c y g f p;rw[k];by_cases q:j=i
  .grind
  .rw[a j q]at f;exact s.own j c y g f p
 .intro j l c y z g f p t L G;by_cases q:j=i
  .subst q;rw[hσ]at g;cases g;by_cases r:l=j
   .exact r.symm
   .rw[a l r]at t;exact s.inj j l _ x z hσ f hH t hl G
  .rw[a j q]at p;by_cases r:l=i
   .subst r;rw[hσ]at f;cases f;exact s.inj j l _ y x g hσ p hH L hl
   .rw[a l r]at t;exact s.inj j l c y z g f p t L G
 .intro j y z g f;by_cases q:j=i
  .grind
  .rw[a j q]at f;refine(s.blk j y z g f).keep (ev.ext0 U) ?_ ?_
   .rintro c rfl n;exact m c (λe=>q (s.inj j i b z x (e▸g) hσ f hH n hl))
   .rintro c d rfl O;exact m d ((s.hid j c z d g f O).ne i b x hσ hH hl)
 .refine s.hidTo (· = ·) Yd (by omega) (λ_ _ _ _ _ _ _ q=>q) (λ_ _ _ _ _ _ _ q=>q) λj d y E u W=>.inl ?_;by_cases q:j=i
  .grind
  .rw[a j q]at u;exact⟨j,y,rfl,E,u,id,λc z=>s.hidKeep E u (λn=>m d (λe=>q (s.inj j i b y x (e▸E) hσ u hH n hl))) ev.keepRo z⟩
def splice(l:AA α)(o:Nat)(vs:AA α):AA α:=l.take o++vs++l.drop (o+vs.length)
theorem YO{α:Type}{l:AA α}{o:Nat}{vs:AA α}(h:o+vs.length<=l.length):(splice l o vs).length=l.length:=by
 simp[splice];omega
theorem Ww{h:Array Obj}{b:Nat}{f:Obj->Obj}{x:Obj}(a:h[b]?=some x):h.modify b f=h.setIfInBounds b (f x):=by
 grind
theorem Yz{b t:Nat}:∀{vs l:AA Value} {w:World} (off i:Nat),w.heap[b]?=some (.cells l.toArray t (0,0))->off+i+vs.length<=l.length->(∀v∈vs,Qz v)->
  (storeCells ⟨b,off,none⟩ vs i).run P w=.ok () {w with heap:=w.heap.setIfInBounds b (.cells (splice l (off+i) vs).toArray t (0,0))}
 |[],l,w,off,i,hb,hl,hp=>by
  have e:w.heap.setIfInBounds b (.cells (splice l (off+i) []).toArray t (0,0))=w.heap:=by
   apply Array.ext_getElem?;intro j;rw[Va];by_cases q:b=j
   .subst q;obtain⟨a,h⟩:=X9.1 hb;simp[a,splice,h]
   grind
  rw[e];rfl
 |v::vs,l,w,off,i,hb,hl,hp=>by
  simp only[XY]at hl;have k:=hp v (by simp);have p:w.cell? ⟨b,off+i,none⟩=some l[off+i]:=by
   simp[World.cell?,hb]
  have f:w.frozen? ⟨b,off+i,none⟩=false:=by
   simp[World.frozen?,hb]
  have d:w.setCell ⟨b,off+i,none⟩ v={w with heap:=w.heap.setIfInBounds b (.cells (splice l (off+i) [v]).toArray t (0,0))}:=by
   unfold World.setCell;rw[Ww hb];simp only[Option.isSome_none,Xj,if_false];congr 3;have:l.toArray.setIfInBounds (off+i) v=(l.set (off+i) v).toArray:=by simp
   rw[this];congr 1;rw[List.set_eq_take_append_cons_drop,Vp (by omega)];simp[splice]
  have a:b<w.heap.size:=by
   grind
  have m:=Yz (vs:=vs) (l:=splice l (off+i) [v]) (w:={w with heap:=w.heap.setIfInBounds b (.cells (splice l (off+i) [v]).toArray t (0,0))}) off (i+1)
   (by show(w.heap.setIfInBounds b _)[b]?=_;rw[Va,Vp rfl,Vp a])
   (by rw[YO (by simp;omega)];omega) (by grind)
  have x:splice (splice l (off+i) [v]) (off+(i+1)) vs=splice l (off+i) (v::vs):=by
   have g:(l.take (off+i)).length=off+i:=by simp;omega
   unfold splice;rw[Ve (l.take (off+i))];have y:off+(i+1)=(l.take (off+i)).length+1:=by omega
   have s:(l.take (off+i)++([v]++l.drop (off+i+[v].length))).take ((l.take (off+i)).length+1)=l.take (off+i)++[v]:=by
    grind
   have u:(l.take (off+i)++([v]++l.drop (off+i+[v].length))).drop ((l.take (off+i)).length+1+vs.length)=l.drop (off+i+(v::vs).length):=by
    rw[show(l.take (off+i)).length+1+vs.length=(l.take (off+i)).length+(1+vs.length)from by omega,X7];simp[Nat.add_comm 1];omega
   simp_all
  have r:(w.heap.setIfInBounds b (.cells (splice l (off+i) [v]).toArray t (0,0))).setIfInBounds b (.cells (splice (splice l (off+i) [v]) (off+(i+1)) vs).toArray t (0,0))=
    w.heap.setIfInBounds b (.cells (splice l (off+i) (v::vs)).toArray t (0,0)):=by
   grind
  rw[r]at m;have n:(Go.store ⟨b,off+i,none⟩ v).run P w=.ok () {w with heap:=w.heap.setIfInBounds b (.cells (splice l (off+i) [v]).toArray t (0,0))}:=by
   rw[<- d];cases v<;>first|exact k.elim|simp[Go.store,Sem.run,p,f,go_sem]
  simp_all[storeCells,J6]
theorem S9{b t:Nat}{l l':AA Value}(d:w.heap[b]?=some (.cells l.toArray t (0,0)))(hl:l'.length=l.length)(y:TypeId×Nat)(h:w.shape? b=some y):
  {w with heap:=w.heap.setIfInBounds b (.cells l'.toArray t (0,0))}.shape? b=some y:=by
 have a:b<w.heap.size:=by
  grind
 simp_all[World.shape?]
theorem LR.splice{ro:Nat->Prop}{U:AZ}{w:World}{az vs:AA A}{l m:AA Value}(off:Nat)(h:LR ro U w az l)(k:LR ro U w vs m):LR ro U w (Sw.splice az off vs) (Sw.splice l off m):=by
 unfold Sw.splice;rw[k.length];exact((h.take off).append k).append (h.drop _)
theorem sJ{l m:AA Value}(h:∀v∈l,Qz v)(k:∀v∈m,Qz v):∀v∈Sw.splice l off m,Qz v:=by
 grind[Sw.splice]
theorem FS.store{t n i off T:Nat}{x y:Operand}{cs vs cs':AA A}{v:A}(R:o.op=.store t x y)(J:AM env x=.ptr i off)(hH:H[i]?=some (.cells T cs))(Y:∀w,(sizeOf t).run P w=.ok n w)
  (j:AM env y=v)(L:Yr v=true)(M:YD v=vs)(G:vs.length=n)(s:vs.all YJ=true)(B:Nat.ble (off+n) cs.length=true)(k:splice cs off vs=cs'):
  FS P o env H (H.set i (.cells T cs')):=by
 intro V O U N a w r;have d:=Ql r x;rw[J]at d;obtain⟨b,d,W⟩:=d;have z:=Ql r y;rw[j]at z;obtain⟨m,X,f⟩:=z.cells L;rw[M]at f;obtain⟨l,q,h,Q⟩:=r.sim.blk i _ _ d hH;have p:off+n<=cs.length:=by simp_all
 have E:m.length=n:=by rw[f.length,G]
 have u:=Yz (P:=P) off 0 q (by rw[h.length,E];omega) (f.plain s);have g:=r.sim.set (x':=.cells T cs') d hH rfl
  (λy j=>S9 q (YO (by rw[h.length,E];omega)) y j)
  (λe F=>⟨_,F,k▸(h.splice off f).mono e,sJ Q (f.plain s)⟩)
 refine⟨_,O,[],?_,by grind,g.2⟩
 simp_all[storeVar,execOp,Instr.storeAt,Instr.sureAddr]
theorem RL.splice{ro:Nat->Prop}{U:AZ}{w:World}{k:Nat}:∀{e:Nat} {es:AA (AA A)} {l m:AA Value} {c a:AA A} {f:Nat},RL ro U w k es l->es[e]?=some c->LR ro U w a m->(∀v∈m,Qz v)->f+a.length<=k->
  RL ro U w k (es.set e (Sw.splice c f a)) (Sw.splice l (e*k+f) m)
 |_,[],_,_,_,_,_,_,h,_,_,_=>by simp at h
 |0,c0::es,l,m,c,a,f,⟨l1,l2,h1,h2,h3,h4⟩,hc,hm,hp,hf=>by
  simp at hc;subst hc h1;have hl1:=h3.1.length;refine⟨Sw.splice l1 f m,l2,?_,?_,⟨h3.1.splice f hm,sJ h3.2 hp⟩,h4⟩
  .unfold Sw.splice;simp[Nat.zero_mul,Xv,Ve];rw[X4 (by omega),X5 (by rw[hm.length];omega)]
  .rw[YO (by omega)];exact h2
 |e+1,c0::es,l,m,c,a,f,⟨l1,l2,h1,h2,h3,h4⟩,hc,hm,hp,hf=>by
  subst h1;have hl1:=h3.1.length;refine⟨l1,Sw.splice l2 (e*k+f) m,?_,h2,h3,RL.splice h4 (by grind) hm hp hf⟩;have e1:(e+1)*k+f=l1.length+(e*k+f):=by grind
  unfold Sw.splice;rw[e1,X8,show l1.length+(e*k+f)+m.length=l1.length+(e*k+f+m.length)from by omega,X7];simp
theorem RL.length{ro:Nat->Prop}{U:AZ}{w:World}{k:Nat}:∀{es:AA (AA A)} {l:AA Value},RL ro U w k es l->es.length*k<=l.length
 |[],l,_=>by simp
 |c::es,l,⟨l1,l2,h1,h2,h3,h4⟩=>by
  have:=RL.length h4;have:=h3.1.length
  grind[Nat.succ_mul]
theorem zo{t n i e f:Nat}{x y:Operand}{es':AA (AA A)}{c G:AA A}{v:A}(ho:o.op=.store t x y)(W:AM env x=.ptr i off)(hH:H[i]?=some (.row T k es))(hs:∀w,(sizeOf t).run P w=.ok n w)
  (h:off=e*k+f)(Q:es[e]?=some c)(q:AM env y=v)(X:Yr v=true)(Y:YD v=vs)(V:vs.length=n)(E:vs.all YJ=true)(M:YB vs=true)(hf:Nat.ble (f+n) k=true)
  (s:splice c f vs=G)(u:es.set e G=es'):
  FS P o env H (H.set i (.row T k es')):=by
 intro fr ro U N a w r;have d:=Ql r x;rw[W]at d;obtain⟨b,d,h2⟩:=d;have J:=Ql r y;rw[q]at J;obtain⟨m,h4,g⟩:=J.cells X;rw[Y]at g;obtain⟨l,B,z⟩:=r.sim.blk i _ _ d hH;have R:f+n<=k:=by simp_all
 have hm:m.length=n:=by rw[g.length,V]
 have O:e<es.length:=(by grind);have L:off+n<=l.length:=by
  have:=z.length;have h6:=XB k O
  grind
 have F:=Yz (P:=P) off 0 B (by omega) (g.plain E);have j:=r.sim.set (x':=.row T k es') (obj:=.cells (splice l off m).toArray T (0,0)) d hH rfl
  (λy q=>S9 B (YO (by omega)) y q)
  (λex p=>⟨_,p,by
   subst u s h;exact(z.splice Q (g.data M) (g.plain E) (by omega)).mono ex.nil⟩)
 refine⟨_,ro,[],?_,by grind,j.2⟩
 simp_all[storeVar,execOp,Instr.storeAt,Instr.sureAddr]
end
variable {T' cap e':Nat}{ad ax:AB Addr}{fs:AA (AA A)}{new:AA Value}{ya:A}
section
variable {P:Program} {o:Oper} {env:Env} {H:Qb} {fr ro:Nat->Prop} {U:AZ} {w:World}
theorem BI.heap{w':World}(h:w'.heap=w.heap):BI ro U w ro U w':=
 ⟨λ_ q=>q,λb _=>by rw[h],λb x q=>by unfold World.shape? at q⊢;grind,λ_ _ q=>q⟩
theorem AU.heap{w':World}(s:AU fr ro U H w)(h:w'.heap=w.heap):AU fr ro U H w':=
 ⟨s.len,s.roOk.to (λ_ q=>q) (λb _=>by rw[h]) (λb q=>by rw[h];exact s.roLt b q),λb q=>by rw[h];exact s.frLt b q,s.roFr,λi b x q1 q2 q3=>by rw[h];exact s.own i b x q1 q2 q3,s.inj,
  λi y x q1 q2=>(s.blk i y x q1 q2).keep (BI.heap h) (by grind) (by grind),
  s.hidTo (· = ·) Yd (by grind) (by simp) (by simp) λj d y g1 g2 g3=>.inl ⟨j,y,rfl,g1,g2,id,λc q=>q.keep (by rw[h])⟩⟩
theorem Qm.heap{w':World}(h:w'.heap=w.heap)(ho:w'.os=w.os)(ht:w'.tape=w.tape)(hu:w'.output=w.output)(hd:w.drawn<=w'.drawn):Qm fr ro w ro w':=
 ⟨λ_ q=>q,λb _=>by rw[h],λb _=>by rw[h],by grind,λb x q=>by unfold World.shape? at q⊢;grind,ho,ht,hu,hd⟩
theorem AU.moved(s:AU fr ro U H w){i:Nat}{x:AR}{y:AB Nat}(hH:H[i]?=some x)(hσ:U[i]?=some y):AU fr ro (U++[y]) (H.set i .dead++[x]) w:=by
 have B:=s.len;have P:i<H.length:=(by grind);have a:∀(j:Nat) (z:AB Nat) (v:AR),(U++[y])[j]?=some z->(H.set i .dead++[x])[j]?=some v->v≠ .dead->
   (j<U.length/\j≠i/\U[j]?=some z/\H[j]?=some v)\/(j=U.length/\z=y/\v=x):=by
  grind
 have hσ':∀(j:Nat) (b:Nat),U[j]?=some (some b)->(U++[y])[j]?=some (some b):=(by grind);have ext:BI ro U w ro (U++[y]) w:=⟨λ_ q=>q,λ_ _=>rfl,λ_ _ q=>q,hσ'⟩;refine⟨by simp[B],s.roOk,s.frLt,s.roFr,?_,?_,?_,s.hidTo (λj t=>(j<U.length/\j≠i/\t=j)\/(j=U.length/\t=i)) (by omega) (XR _) (by simp) (by simp) λj d y M O L=>.inl ?_⟩
 rotate_left 3
 .rcases a j _ y M O (bF L)with⟨J,F,f,e⟩|⟨J,m,rfl⟩
  .grind
  grind
 .intro j b v k g h;rcases a j _ v k g (Hq h)with⟨_,_,f,e⟩|⟨_,m,rfl⟩
  .exact s.own j b v f e h
  .subst m;exact s.own i b v hσ hH h
 .intro j r b v n k g h E p l;rcases a j _ v k h (Hq p)with⟨_,G,f,e⟩|⟨Q,m,N⟩<;>rcases a r _ n g E (Hq l)with⟨_,n1',q1',q2'⟩|⟨r1',e1',r2'⟩
  .exact s.inj j r b v n f q1' e q2' p l
  .subst e1' r2';exact(G (s.inj j i b v n f hσ e hH p l)).elim
  .subst m N;exact(n1' (s.inj r i b n v q1' hσ q2' hH l p)).elim
  omega
 .intro j z v k g;by_cases u:v≠ .dead
  .rcases a j z v k g u with⟨_,_,f,e⟩|⟨_,rfl,rfl⟩
   .exact(s.blk j z v f e).keep ext (λ_ _ _=>rfl) (λ_ _ _ _=>rfl)
   .exact(s.blk i _ _ hσ hH).keep ext (λ_ _ _=>rfl) (λ_ _ _ _=>rfl)
  .obtain rfl:v=.dead:=Classical.not_not.1 u;trivial
def D0(P:Program)(H:Qb)(x:A)(k:Nat)(es:AA (AA A)):Prop:=
 ∀fr ro U w v,AU fr ro U H w->VR ro U w x v->(∃a c,v=.slice a es.length c)/\allK k es/\
  ∃l,(∀w':World,w'.heap=w.heap->(Builtin.firstCells k es.length v).run P w'=.ok l.toArray w')/\LR ro [] w es.flatten l/\ ∀v∈l,Qz v
theorem RR.flat{b k:Nat}:∀{es:AA (AA A)} {off:Nat},RR ro U w b k es off->CR ro U w b es.flatten off/\allK k es/\es.flatten.length=es.length*k
 |[],off,_=>⟨trivial,trivial,by simp⟩
 |c::es,off,⟨h1,h2,h3⟩=>by
  obtain⟨q1,q2,q3⟩:=RR.flat h3;refine⟨?_,⟨h1,q2⟩,by grind⟩;have:∀(c:AA A) (off:Nat) (d:AA A),CR ro U w b c off->CR ro U w b d (off+c.length)->CR ro U w b (c++d) off:=by
   intro c
   induction c with
   |nil=>simp
   |cons x c a=>intro off d ⟨h1,h2⟩ h;exact⟨h1,a (off+1) d h2 (by grind)⟩
  grind
theorem cH{b n c:Nat}{cs:AA A}(h:CR ro U w b cs off)(a:cs.length=n*k):
  ∃l,(∀w',w'.heap=w.heap->(Builtin.firstCells k n (.slice (some ⟨b,off,none⟩) n c)).run P w'=.ok l.toArray w')/\LR ro U w cs l/\ ∀v∈l,Qz v:=by
 obtain⟨l,f,e,d⟩:=YG (P:=P) 0 (by simpa using h)
 grind[Builtin.firstCells,loadCells]
theorem Jl{c:Nat}{a:AB Addr}:(Builtin.firstCells k 0 (.slice a 0 c)).run P w=.ok #[] w:=by
 cases a<;>simp[go_sem]
theorem D0.rsl{k:Nat}{es:AA (AA A)}:D0 P H (.rsl k es) k es:=by
 intro i j U w v s ⟨a,c,h1,h2,h3⟩;subst h1;refine⟨⟨a,c,rfl⟩,?_⟩;rcases h3 with rfl|⟨b,g,rfl,l,h⟩
 .exact⟨trivial,[],λ_ _=>Jl,rfl,by simp⟩
 .obtain⟨f,d,e⟩:=h.flat;exact⟨d,cH f e⟩
theorem D0.nils{k:Nat}:D0 P H .nils k []:=by
 intro d a U w v s h;subst h;exact⟨⟨none,0,rfl⟩,trivial,[],λ_ _=>Jl,rfl,by simp⟩
theorem RR.drop{b k:Nat}:∀(n:Nat) {es:AA (AA A)} {off:Nat},RR ro U w b k es off->RR ro U w b k (es.drop n) (off+n*k)
 |0,_,_,h=>by simpa using h
 |n+1,[],_,_=>trivial
 |n+1,c::es,off,⟨h1,h2,h3⟩=>by
  have:=RR.drop n h3
  grind
theorem RR.take{b k:Nat}:∀(n:Nat) {es:AA (AA A)} {off:Nat},RR ro U w b k es off->RR ro U w b k (es.take n) off
 |0,_,_,h=>trivial
 |n+1,[],_,_=>trivial
 |n+1,c::es,off,⟨h1,h2,h3⟩=>⟨h1,h2,RR.take n h3⟩
theorem D0.osl{i s n k t:Nat}{es es':AA (AA A)}(hH:H[i]?=some (.row t k es))(he:(es.drop s).take n=es')(G:s+n<=es.length):D0 P H (.osl i s n k) k es':=by
 intro x z U w v sm h;have g:es'.length=n:=by grind
 rcases h with⟨rfl,rfl⟩|⟨b,p,a,u,m,q,rfl,E,y,J,F⟩
 .have e:es'=[]:=(by grind);subst e;exact⟨⟨none,0,rfl⟩,trivial,[],λ_ _=>Jl,rfl,by simp⟩
 .rw[g];refine⟨⟨_,a,rfl⟩,?_⟩;obtain⟨l,f,d⟩:=sm.blk i _ _ q hH;have j:=((Jc (pre:=[]) (by simpa using f) d).drop s).take n;by_cases B:0<a
  .obtain⟨f,d,r⟩:=j.flat
   simp_all[cH]
  .obtain rfl:n=0:=by omega
   have e:es'=[]:=(by grind);subst e;exact⟨trivial,[],λ_ _=>Jl,rfl,by simp⟩
def QE:Nat:=4294967296
theorem Qfa(n c:Nat)(h:c<n):Builtin.nextslicecap n c<=4*n+1000:=by
 grind[Builtin.nextslicecap,Builtin.growBy]
structure Q2 (P:Program) (T e k:Nat):Prop where
 sl:∀w,(underlying T).run P w=.ok (.slice e) w
 size:∀w,(sizeOf e).run P w=.ok k w
 zero:∃z,(∀w,(zeroValue e).run P w=.ok z w)/\z.cells.size=k
 bytes:∃i,(∀w,(typeInfo e).run P w=.ok i w)/\i.bytes<=4096
theorem pb{l:AA Value}(s:AU fr ro U H w)(hk:allK k es)(h:LR ro [] w es.flatten l)(hp:∀v∈l,Qz v):
  AU fr ro (U++[some w.heap.size]) (H++[.row T k es]) (w.alloc (.cells (l++rest).toArray T))/\Qm fr ro w ro (w.alloc (.cells (l++rest).toArray T)):=
 ⟨s.allocRow hk h hp,Qm.alloc _ s.roLt s.frLt⟩
theorem YW{k:Nat}:∀{es:AA (AA A)},allK k es->es.flatten.length=es.length*k
 |[],_=>by simp
 |c::es,⟨h1,h2⟩=>by simp[YW h2,h1,Xn,Nat.add_comm]
theorem sv{k:Nat}:∀{es fs:AA (AA A)},allK k es->allK k fs->allK k (es++fs)
 |[],_,_,h=>h
 |c::es,_,⟨h1,h2⟩,h=>⟨h1,sv h2 h⟩
theorem rU{k:Nat}:∀{es:AA (AA A)} (n:Nat),allK k es->allK k (es.take n)
 |_,0,_=>trivial
 |[],n+1,_=>trivial
 |c::es,n+1,⟨h1,h2⟩=>⟨h1,rU n h2⟩
theorem RL.allK{k:Nat}:∀{es:AA (AA A)} {l:AA Value},RL ro U w k es l->allK k es
 |[],_,_=>trivial
 |c::es,l,⟨l1,l2,h1,h2,h3,h4⟩=>⟨h2,RL.allK h4⟩
theorem RL.app{k:Nat}:∀{n:Nat} {es fs:AA (AA A)} {l m:AA Value},RL ro U w k es l->n<=es.length->Sw.allK k fs->LR ro U w fs.flatten m->(∀v∈m,Qz v)->
  RL ro U w k (es.take n++fs) (Sw.splice l (n*k) m)
 |0,es,fs,l,m,h,hn,hk,hm,hp=>by
  simp_all[Sw.splice,JS]
 |n+1,[],fs,l,m,h,hn,hk,hm,hp=>by simp at hn
 |n+1,c::es,fs,l,m,⟨l1,l2,h1,h2,h3,h4⟩,hn,hk,hm,hp=>by
  subst h1;have hl1:=h3.1.length;refine⟨l1,Sw.splice l2 (n*k) m,?_,h2,h3,RL.app h4 (by grind) hk hm hp⟩;have e1:(n+1)*k=l1.length+n*k:=by grind
  unfold Sw.splice;rw[e1,X8,show l1.length+n*k+m.length=l1.length+(n*k+m.length)from by omega,X7];simp
theorem qE{e need:Nat}(E:Q2 P T e k)(Q:∀w,(underlying T').run P w=.ok (.slice e') w){n c:Nat}
  (g:need=n+m)(h:cap<need)(a:need<=QE){old:AA Value}
  (y:∀w':World,w'.heap=w.heap->(Builtin.firstCells k m (.slice ax m c)).run P w'=.ok new.toArray w')(s:∀w':World,w'.heap=w.heap->(Builtin.firstCells k n (.slice ad n cap)).run P w'=.ok old.toArray w'):
  ∃(rest:AA Value) (d:Nat),(need<=d/\d<=9223372036854775807)/\rest.length=(d-need)*k/\(Builtin.append_ #[T,T'] t #[.slice ad n cap,.slice ax m c]).run P w=
   .ok (.slice (some ⟨w.heap.size,0,none⟩) need d) (({w with drawn:=w.drawn+1}:World).alloc (.cells ((old++new)++rest).toArray e)):=by
 obtain⟨z,G,l⟩:=E.zero;obtain⟨i,M,N⟩:=E.bytes
 let d:=need+w.tape w.drawn (.appendCap need cap e)%(2^63-need)
 refine⟨(Builtin.zeroCells z.cells (d-need)).toList,d,⟨Nat.le_add_right _ _,by
  have:=Nat.mod_lt (w.tape w.drawn (.appendCap need cap e)) (show 0<2^63-need by unfold QE at a;omega);show need+_%(2^63-need)<=_;omega⟩,by simp[Builtin.zeroCells,l],?_⟩
 have f:¬(need<=cap):=by omega
 have u:¬((need:Int)>IntKind.i64.max/\(False\/i.bytes=0)):=by
  rintro⟨q,_⟩;have:IntKind.i64.max=9223372036854775807:=by decide
  rw[this]at q;unfold QE at a;omega
 have J:¬(Builtin.nextslicecap need cap*i.bytes>2^48):=by
  have:=Qfa need cap h;have B:=Nat.mul_le_mul this N;unfold QE at a;omega
 generalize hF:Builtin.firstCells=F at y s;unfold Builtin.append_;rw[hF];have r:∀W:World,(choose (.appendCap need cap e)).run P W=.ok (need+W.tape W.drawn (.appendCap need cap e)%(2^63-need)) {W with drawn:=W.drawn+1}:=by
  intro W;simp[choose,Sem.run,Question.forced,Question.cut]
 have p:∀(x:Nat) (W:World),(askRoom x).run P W=.ok () W:=by
  intro x W;unfold askRoom;split<;>rfl
 have j:∀(c:Array Value) (W:World),(newRow e c).run P W=.ok ⟨W.heap.size,0,none⟩ (W.alloc (.cells c e)):=λc W=>rfl;subst g;simp only[not_and,false_or]at u;have B:¬(((n+m:Nat):Int)>IntKind.i64.max/\(False\/i.bytes=0)):=by simpa using u
 simp only[XF,XD,XE,Vi,E.sl,E.size,Q,M,G,Result.andThen,Builtin.lenOf,Vj,Xj,if_false,Sem.run_ite,
  Xi,if_true,Vn f,Vn B,Vn J,r,p]
 have H:=s {w with drawn:=w.drawn+1} rfl;have L:=y {w with drawn:=w.drawn+1} rfl;simp only[H,L,j];have O:old.toArray++new.toArray++Builtin.zeroCells z.cells (d-(n+m))=((old++new)++(Builtin.zeroCells z.cells (d-(n+m))).toList).toArray:=by
  apply Array.toList_inj.1;simp
 rw[<- O]
theorem bW{e:Nat}(E:Q2 P T e k)(g:∀w,(underlying T').run P w=.ok (.slice e') w){n c:Nat}
  (d:n+m<=cap)(f:(Builtin.firstCells k m (.slice ax m c)).run P w=.ok new.toArray w):
  (Builtin.append_ #[T,T'] t #[.slice ad n cap,.slice ax m c]).run P w=
   match ad with
   |some a=>(do storeCells (a.add (n*k)) new;pure (Value.slice ad (n+m) cap):Sem Value).run P w
   |none=>.ok (.slice ad (n+m) cap) w:=by
 generalize hF:Builtin.firstCells=F at f;unfold Builtin.append_;rw[hF];simp only[XF,XD,XE,Vi,E.sl,E.size,g,Result.andThen,Builtin.lenOf,Vj,Xj,if_false,Sem.run_ite,
  Xi,if_true,Vp d,f]
 cases ad with
 |none=>rfl
 |some a=>simp only[Vi,Result.andThen,Vj]
theorem AU.weaken(s:AU fr ro U H w){i:Nat}{x x':AR}(hH:H[i]?=some x)(hl:x.live=true)(r:∀y,BR ro U w x y->BR ro U w x' y)
  (z:∀b c,Bw w x' b c->Bw w x b c:=by exact λ_ _ h=>h.elim):AU fr ro U (H.set i x') w:=by
 have a:∀(j:Nat) (v:AR),(H.set i x')[j]?=some v->(j=i/\v=x')\/(j≠i/\H[j]?=some v):=by
  grind
 have n:∀(j:Nat) (v:AR),(H.set i x')[j]?=some v->v.live=true->∃e,H[j]?=some e/\e.live=true:=by
  grind
 refine⟨by rw[X2];exact s.len,s.roOk,s.frLt,s.roFr,?_,?_,?_,s.hidTo (· = ·) Yd (XR _) (by simp) (by simp) λj d y L M J=>.inl ?_⟩
 rotate_left 3
 .grind
 .intro j b v f g q;obtain⟨e,l,k⟩:=n j v g q;exact s.own j b e f l k
 .intro j t b v e f g q F E B;obtain⟨u,l,k⟩:=n j v q E;obtain⟨G,m,p⟩:=n t e F B;exact s.inj j t b u G f g l m k p
 .intro j y v f g;rcases a j v g with⟨rfl,rfl⟩|⟨_,h⟩
  .exact r y (s.blk j y x f hH)
  .exact s.blk j y v f h
theorem RL.take{k:Nat}:∀(n:Nat) {es:AA (AA A)} {l:AA Value},RL ro U w k es l->RL ro U w k (es.take n) l
 |0,_,_,_=>trivial
 |n+1,[],_,_=>trivial
 |n+1,c::es,l,⟨l1,l2,h1,h2,h3,h4⟩=>⟨l1,l2,h1,h2,h3,RL.take n h4⟩
theorem Jn{c:Call}{T T':TypeId}{x y:Operand}(a:o.op=.call c)(d:c={callee:=.builtin .append,args:= #[x,y],argTypes:= #[T,T']})(ρ:Operand->Value){v:Value}
  (h:(Builtin.append_ #[T,T'] o.type #[ρ x,ρ y]).run P w=.ok v w'):(execOp ρ o).run P w=.ok (.value v) w':=by
 simp_all[execOp,resolve,invoke,Go.builtin]
theorem AU.phantom(s:AU fr ro U H w)(t k:Nat):AU fr ro (U++[none]) (H++[.row t k []]) w:=by
 have h:=s.len;have f:∀(i b:Nat),(U++[none])[i]?=some (some b)->i<U.length:=by
  grind
 refine⟨by simp[h],s.roOk,s.frLt,s.roFr,?_,?_,?_,s.hidTo (· = ·) Yd (XR _) (by simp) (by simp) λj d y a e g=>.inl ?_⟩
 rotate_left 3
 .grind
 .intro i b z a e g;have q:=f i b a;rw[XK q]at a;rw[XK (by omega)]at e;exact s.own i b z a e g
 .intro i j b z B a e g l m r;have n:=f i b a;have x:=f j b e;rw[XK n]at a;rw[XK x]at e;rw[XK (by omega)]at g l;exact s.inj i j b z B a e g l m r
 .intro i y z a e;have ext:BI ro U w ro (U++[none]) w:=⟨λ_ q=>q,λ_ _=>rfl,λ_ _ q=>q,(by grind)⟩;rcases Nat.lt_trichotomy i U.length with q|q|q
  .rw[XK q]at a;rw[XK (by omega)]at e;exact(s.blk i y z a e).keep ext (λ_ _ _=>rfl) (λ_ _ _ _=>rfl)
  .subst q;have p:(U++[none])[U.length]?=some none:=by simp
   have u:(H++[AR.row t k []])[U.length]?=some (.row t k []):=by grind
   rw[p]at a;rw[u]at e;cases a;cases e;rfl
  grind
theorem AU.kill(s:AU fr ro U H w)(i:Nat):AU fr ro U (H.set i .dead) w:=by
 have a:∀(j:Nat) (v:AR),(H.set i .dead)[j]?=some v->v≠ .dead->H[j]?=some v:=by
  grind
 refine⟨by rw[X2];exact s.len,s.roOk,s.frLt,s.roFr,?_,?_,?_,s.hidTo (· = ·) Yd (XR _) (by simp) (by simp) λj d y r u p=>.inl ⟨j,y,rfl,r,a j y u (bF p),id,λ_ q=>q⟩⟩
 .intro j b v e f g;exact s.own j b v e (a j v f (Hq g)) g
 .intro j h b v m e f g t n l;exact s.inj j h b v m e f (a j v g (Hq n)) (a h m t (Hq l)) n l
 .intro j y v e f;by_cases k:v≠ .dead
  .exact s.blk j y v e (a j v f k)
  .obtain rfl:v=.dead:=Classical.not_not.1 k;trivial
theorem grown{c:Call}{e n cx:Nat}{x y:Operand}{a:Act}{old:AA Value}(E:Q2 P T e k)(L:∀w,(underlying T').run P w=.ok (.slice e') w)(J:o.op=.call c)
  (Q:c={callee:=.builtin .append,args:= #[x,y],argTypes:= #[T,T']})(N:a.eval x=.slice ad n cap)(R:a.eval y=.slice ax m cx)(s:AU fr ro U H w)(g:cap<n+m)(i:n+m<=QE)
  (p:∀w',w'.heap=w.heap->(Builtin.firstCells k n (.slice ad n cap)).run P w'=.ok old.toArray w')(j:∀w',w'.heap=w.heap->(Builtin.firstCells k m (.slice ax m cx)).run P w'=.ok new.toArray w')
  (l:LR ro [] w es.flatten old)(Y:∀v∈old,Qz v)(q:allK k es)(r:LR ro [] w fs.flatten new)(M:∀v∈new,Qz v)(f:allK k fs)(X:es.length=n)(z:fs.length=m):
  ∃v w' ro' τ,(execOp a.eval o).run P w=.ok (.value v) w'/\VR ro' (U++τ) w' (.osl H.length 0 (n+m) k) v/\AU fr ro' (U++τ) (H++[.row e k (es++fs)]) w'/\Qm fr ro w ro' w':=by
 obtain⟨d,V,u,B,h⟩:=qE E L rfl g i j p
 let w0:={w with drawn:=w.drawn+1}
 have s0:AU fr ro U H w0:=s.heap rfl;have W:Qm fr ro w ro w0:=Qm.heap rfl rfl rfl rfl (Nat.le_succ _);have t:LR ro [] w0 (es++fs).flatten (old++new):=by
  rw[List.flatten_append];exact(l.append r).mono (BI.heap (w:=w) rfl)
 obtain⟨s1,O⟩:=pb s0 (sv q f) t (λv hv=>by grind);have hexec:=Jn J Q a.eval (by rw[N,R];exact h);refine⟨_,_,ro,[some w.heap.size],hexec,.inr ⟨w.heap.size,0,V,e,(old++new++d).length,?_,rfl,λ_=>by simp,u,?_,?_⟩,s1,W.trans O⟩
 .rw[<- s.len];simp
 .have:=Ys w0 (.cells ((old++new)++d).toArray e);unfold World.shape?
  grind
 .have G:=l.length;have F:=r.length;rw[YW q]at G;rw[YW f]at F;simp[X0,B,G,F,z];rw[<- Xz, <- Xz]
  grind
theorem Qhf{c:Call}{e:Nat}{x y:Operand}(E:Q2 P T e k)(j:∀w,(underlying T').run P w=.ok (.slice e') w)(i:o.op=.call c)
  (m:c={callee:=.builtin .append,args:= #[x,y],argTypes:= #[T,T']})(G:AM env x=.nils)(B:AM env y=ya)(F:D0 P H ya k fs)(p:fs.length<=QE):
  CD P o env H (.osl H.length 0 fs.length k) (H++[.row e k fs]):=by
 intro z q U N a w r;have d:=Ql r x;rw[G]at d;have n:=Ql r y;rw[B]at n;obtain⟨⟨L,M,f⟩,s,l,h,u,J⟩:=F z q U w _ r.sim n;rw[f]at h;by_cases O:fs.length=0
 .have g:fs=[]:=(by grind);subst g;refine⟨.slice none 0 0,w,q,[none],(Jn i m _ ?_),.inl ⟨rfl,rfl⟩,r.sim.phantom e k,Qm.refl _ _ _⟩;rw[d,f];have:=bW (t:=o.type) E j (ad:=none) (XR 0) (h w rfl);omega
 .have:=grown (es:=[]) E j i m d f r.sim (by omega) (by omega) (λ_ _=>Jl) h rfl (by simp) trivial u J s rfl rfl
  grind
theorem sq{c:Call}{e i n:Nat}{x y:Operand}{gs:AA (AA A)}(E:Q2 P T e k)(hd:∀w,(underlying T').run P w=.ok (.slice e') w)(F:o.op=.call c)
  (Q:c={callee:=.builtin .append,args:= #[x,y],argTypes:= #[T,T']})(hx:AM env x=.osl i 0 n k)(hH:H[i]?=some (.row e k es))(hn:n<=es.length)(z:AM env y=ya)(hs:D0 P H ya k fs)(g:n+fs.length<=QE)
  (hg:es.take n++fs=gs):CD P o env H (.osl H.length 0 (n+fs.length) k) (H.set i .dead++[.row e k gs]):=by
 intro fr u U N a w r;subst hg;have q:=Ql r x;rw[hx]at q;have h2:=Ql r y;rw[z]at h2;obtain⟨⟨ay,cy,W⟩,V,l,M,q4,q5⟩:=hs fr u U w _ r.sim h2;rw[W]at M;have h:i<H.length:=(by grind);have ah:(H.set i .dead).length=H.length:=X2;obtain⟨s,hσ⟩:∃s,U[i]?=some s:=⟨_,XI (by rw[r.sim.len];exact h)⟩;rcases q with⟨rfl,q⟩|⟨b,p,cap,t',mm,L,q,Y,h5,G,h7⟩
 ·
  by_cases hm:fs.length=0
  .have j:fs=[]:=(by grind);subst j;refine⟨.slice none 0 0,w,u,[none],?_,.inl ⟨rfl,rfl⟩,(r.sim.kill i).phantom e k,Qm.refl _ _ _⟩;refine Jn F Q _ ?_;rw[q,W];have:=bW (t:=o.type) E hd (ad:=none) (n:=0) (m:=0) (cap:=0) (c:=cy) (ax:=ay) (XR 0) (M w rfl);omega
  .have:=grown (es:=[]) (old:=[]) E hd F Q q W (r.sim.kill i) (by omega) g (λ_ _=>Jl) M rfl (by simp) trivial q4 q5 V rfl rfl
   grind
 .have J:=r.sim.blk i _ _ L hH;obtain⟨B,R,X⟩:=J;have ab:(es.take n).length=n:=by simp;omega
  obtain⟨old,o1,o2,o3⟩:∃old:AA Value,(∀w':World,w'.heap=w.heap->(Builtin.firstCells k n (.slice (some ⟨b,p,none⟩) n cap)).run P w'=.ok old.toArray w')/\LR u [] w (es.take n).flatten old/\ ∀v∈old,Qz v:=by
   have O:D0 P H (.osl i 0 n k) k (es.take n):=D0.osl hH (by simp) (by omega);obtain⟨_,_,l',z1,z2,z3⟩:=O fr u U w (.slice (some ⟨b,p,none⟩) n cap) r.sim (.inr ⟨b,p,cap,t',mm,L,rfl,Y,h5,G,h7⟩)
   grind
  by_cases f:n+fs.length<=cap
  .have ae:=bW (t:=o.type) E hd (ad:=some ⟨b,p,none⟩) (n:=n) (m:=fs.length) (cap:=cap) (c:=cy) (ax:=ay) f (M w rfl);have ag:l.length=fs.length*k:=by rw[q4.length,YW V]
   by_cases hm:fs.length=0
   .have j:fs=[]:=(by grind);subst j;have el:l=[]:=(by simp_all);subst el;have sw:=(r.sim.weaken (x':=.row e k (es.take n)) hH rfl (by
     intro y z;cases y with
     |none=>simp only[BR]at z⊢;grind
     |some y=>obtain⟨B,R,X⟩:=z;exact⟨B,R,X.take n⟩))
    have sm:=sw.moved (i:=i) (Xa h) L;rw[List.set_set]at sm;refine⟨.slice (some ⟨b,p,none⟩) n cap,w,u,[some b],?_,.inr ⟨b,p,cap,t',mm,?_,by simp,Y,by omega,G,h7⟩,by grind,Qm.refl _ _ _⟩
    .refine Jn F Q _ ?_
     simp_all[storeCells]
    .rw[<- r.sim.len];simp
   .obtain rfl:p=0*k:=Y (by omega);have aa:(n+fs.length)*k<=B.length:=by
     have:w.shape? b=some (e,B.length):=by unfold World.shape?;rw[R];simp
     rw[this]at G;cases G;exact XT (XB k f) (by grind)
    rw[Xz]at aa;have af:=Yz (P:=P) (vs:=l) (n*k) 0 R (by omega) q5;have d:=r.sim.set (x':=.row e k (es.take n++fs)) (obj:=.cells (splice B (n*k) l).toArray e (0,0)) L hH rfl
     (λy z=>S9 R (YO (by omega)) y z)
     (λex ac=>⟨_,ac,(X.app hn V q4 q5).mono ex.nil⟩)
    have sm:=d.1.moved (i:=i) (Xa h) L;rw[List.set_set]at sm;refine⟨.slice (some ⟨b,0*k,none⟩) (n+fs.length) cap,_,u,[some b],?_,.inr ⟨b,0*k,cap,t',mm,?_,rfl,Y,⟨f,h5.2⟩,?_,h7⟩,sm,d.2⟩
    .refine Jn F Q _ ?_
     simp_all[J6]
    .rw[<- r.sim.len];simp
    .exact d.2.shape _ _ G
  .have:=grown (es:=es.take n) (old:=old) (fs:=fs) E hd F Q q W (r.sim.kill i) (by omega) g o1 M o2 o3 (rU n X.allK) q4 q5 V ab rfl
   grind
end
variable {xs:AA Operand}
section
variable {P:Program} {o:Oper} {env:Env} {H:Qb}
theorem Bh.fn{c:Call}{h:Array TypeId}(d:∀(a:Array Value) (w:World),(callFunc f a).run P w=.ok (.enter f a) w)(j:o.op=.call c)
  (k:c={callee:=.value (.func f),args:=xs.toArray,argTypes:=h})(g:xs.map (AM env)=args):Bh P o env H f args:=by
 intro l i U N a w r;refine⟨xs.map a.eval,?_,g▸St r xs⟩;have e:a.eval (.func f)=.func (.func f) #[] #[]:=rfl
 grind[execOp,resolve,Deferred.ofValue,invoke]
theorem Nn{c:Call}{x:Operand}{p:Array TypeId}{h g:AA A}(d:∀(a:Array Value) (w:World),(callFunc f a).run P w=.ok (.enter f a) w)(q:o.op=.call c)
  (u:c={callee:=.value x,args:=xs.toArray,argTypes:=p})(i:AM env x=.fn (.func f) h g)(n:h++(xs.map (AM env)++g)=args):Bh P o env H f args:=by
 intro s t U N a w r;have e:=Ql r x;rw[i]at e;obtain⟨l,m,e,k,j⟩:=e;refine⟨l++(xs.map a.eval++m),?_,n▸k.append ((St r xs).append j)⟩
 grind[execOp,resolve,Deferred.ofValue,invoke]
def Fk(ρ:Nat->Nat)(env:Env):Env->Prop
 |[]=>True
 |(s,a)::r=>lk env s=Je ρ a/\Fk ρ env r
theorem Fk.ok{ro:Nat->Prop}{U σ':AZ}{w:World}{ρ:Nat->Nat}(h:∀i,U[ρ i]?=σ'[i]?){t:Array Value}(r:∀s,VR ro U w (lk env s) (t.getD s undef)):
  ∀{env':Env},Fk ρ env env'->∀s,VR ro σ' w (lk env' s) (t.getD s undef)
 |[],_,s=>trivial
 |(d,a)::e,⟨h1,h2⟩,s=>by
  simp only[lk];by_cases q:s=d
  .grind[Nat.beq_refl,Sh]
  .have:Nat.beq s d=false:=by
    simp_all[VI]
   rw[this];exact Fk.ok h r h2 s
theorem AU.sub(s:AU fr ro U H w)(hH:π.map (λp=>H[p]?)=(H'.map (Q9 (Af π H.length))).map some)(hπ:π.Nodup):
  AU fr ro (YN U π) H' w/\ ∀j:Nat,U[Af π H.length j]?=(YN U π)[j]? :=by
 have F:∀p∈π,p<H.length:=λp q=>JJ hH q;have hσl:=s.len;have M:∀(j p:Nat),π[j]?=some p->H[p]?=(H'[j]?).map (Q9 (Af π H.length)):=by
  intro j p e;have:=congrArg (λl=>l[j]?) hH
  grind
 have k:π.length=H'.length:=by simpa using congrArg List.length hH
 have hσc:∀j:Nat,U[Af π H.length j]?=(YN U π)[j]? :=by
  intro j;have:=bQ (τ:=[]) hσl F j
  grind
 have hπj:∀(j b:Nat),(YN U π)[j]?=some (some b)->∃p,π[j]?=some p/\U[p]?=some (some b):=by
  intro j b e;simp only[YN,Xp]at e
  grind
 have hπi:∀(i j p:Nat),π[i]?=some p->π[j]?=some p->i=j:=by
  intro i j p f a;have u:i<π.length:=(by grind);have e:j<π.length:=(XJ.1 a).1;rw[XI u]at f;rw[XI e]at a;have m:=(XX f).trans (XX a).symm;rcases Nat.lt_trichotomy i j with q|q|q
  .exact(VA.1 hπ i j u e q m).elim
  .exact q
  .exact(VA.1 hπ j i e u q m.symm).elim
 refine⟨⟨by simp[YN,k],s.roOk,s.frLt,s.roFr,?_,?_,?_,s.hidTo (λj p=>π[j]?=some p) hπi (XR _) (λ_ _ _ _ _ _ _ q=>q) (λ_ _ _ _ _ _ _ q=>q) λj d y L P O=>.inl ?_⟩,hσc⟩
 rotate_left 3
 .obtain⟨p,f,g⟩:=hπj j d L;exact⟨p,Q9 (Af π H.length) y,f,g,by grind,by rw[QT];exact id,λc q=>(Nm _ _ _ _ _).2 q⟩
 .intro j b x n t E;obtain⟨p,f,g⟩:=hπj j b n;have h:H[p]?=some (Q9 (Af π H.length) x):=by grind
  exact s.own p b _ g h (by rw[QT];exact E)
 .intro i j b x y n t E N G J;obtain⟨p,f,g⟩:=hπj i b n;obtain⟨B,a,z⟩:=hπj j b t;have h:H[p]?=some (Q9 (Af π H.length) x):=by grind
  have r:H[B]?=some (Q9 (Af π H.length) y):=by grind
  have:=s.inj p B b _ _ g z h r (by rw[QT];exact G) (by rw[QT];exact J)
  grind
 .intro j y x n t;have e:j<π.length:=by
   grind
  have f:π[j]?=some π[j]:=XI e;have h:H[π[j]]?=some (Q9 (Af π H.length) x):=by grind
  have g:U[π[j]]?=some y:=by
   grind[Af]
  exact(aM hσc).1 (s.blk _ y _ g h)
theorem nK{env':Env}(π:AA Nat)(d:π.take h0=List.range h0)(hH:π.map (λp=>H[p]?)=(H'.map (Q9 (Af π H.length))).map some)(hπ:π.Nodup)
  (hE:Fk (Af π H.length) env env'):Le h0 env H env' H':=by
 intro i e U N a w r;obtain⟨f,hσ⟩:=r.sim.sub hH hπ;refine⟨e,YN U π,⟨f,Fk.ok hσ r.env hE,r.size,r.defers⟩,λ_ q=>q,?_⟩;have g:=r.sim.len;have h:∀p∈π,p<H.length:=λp q=>JJ hH q;unfold YN;rw[<- List.map_take,d];apply List.ext_getElem?
 grind
theorem Le.phantom{h0 s k t:Nat}(f:h0<=H.length)(g:lk env s=.nils):Le h0 env H (up env s (.osl H.length 0 0 k)) (H++[.row t k []]):=by
 intro h e U N a w r;refine⟨e,U++[none],⟨r.sim.phantom t k,?_,r.size,r.defers⟩,λ_ q=>q,QI (by rw[r.sim.len];exact f)⟩;have ext:BI e U w e (U++[none]) w:=⟨λ_ q=>q,λ_ _=>rfl,λ_ _ q=>q,(by grind)⟩;intro d;simp only[lk];by_cases q:d=s
 .subst q;rw[VB];have:=r.env d;rw[g]at this;exact .inl ⟨rfl,this⟩
 .have:Nat.beq d s=false:=by
   simp_all[VI]
  rw[this];exact(r.env d).mono ext
theorem uG{s:Nat}(f:lk env s=.nils):Le h0 env H (up env s (.rsl k [])) H:=by
 intro g e U N a w r;refine⟨e,U,⟨r.sim,?_,r.size,r.defers⟩,λ_ q=>q,rfl⟩;intro d;simp only[lk];by_cases q:d=s
 .subst q;rw[VB];have:=r.env d;rw[f]at this;exact⟨none,0,this,XR _,.inl rfl⟩
 .have:Nat.beq d s=false:=by
   simp_all[VI]
  rw[this];exact r.env d
mutual
def YF:A->Bool
 |.bool _=>true
 |.int _ _=>true
 |.str _=>true
 |.tup vs=>bO vs
 |_=>false
def bO:AA A->Bool
 |[]=>true
 |a::r=>YF a&&bO r
end
mutual
theorem VR.scalar{ro ro':Nat->Prop}{U σ':AZ}{w w':World}:∀{a:A} {v:Value},YF a=true->VR ro U w a v->VR ro' σ' w' a v
 |.bool _,_,_,h=>h
 |.int _ _,_,_,h=>h
 |.str _,_,_,h=>h
 |.tup vs,v,hs,h=>by
  simp only[VR,YF]at h hs⊢;obtain⟨l,h1,h2⟩:=h;exact⟨l,h1,LR.scalar hs h2⟩
 |.any,_,hs,_=>by simp[YF]at hs
 |.nilp,_,hs,_=>by simp[YF]at hs
 |.ptr _ _,_,hs,_=>by simp[YF]at hs
 |.rp _,_,hs,_=>by simp[YF]at hs
 |.nils,_,hs,_=>by simp[YF]at hs
 |.rsl _ _,_,hs,_=>by simp[YF]at hs
 |.osl _ _ _ _,_,hs,_=>by simp[YF]at hs
 |.agg _,_,hs,_=>by simp[YF]at hs
 |.fn _ _ _,_,hs,_=>by simp[YF]at hs
 |.nilf,_,hs,_=>by simp[YF]at hs
 |.iface _ _,_,hs,_=>by simp[YF]at hs
 |.nilif,_,hs,_=>by simp[YF]at hs
 |.map _,_,hs,_=>by simp[YF]at hs
 |.nilm,_,hs,_=>by simp[YF]at hs
theorem LR.scalar{ro ro':Nat->Prop}{U σ':AZ}{w w':World}:∀{az:AA A} {l:AA Value},bO az=true->LR ro U w az l->LR ro' σ' w' az l
 |[],_,_,h=>h
 |a::r,l,hs,h=>by
  simp only[LR,bO,XU]at h hs⊢;obtain⟨v,l',h1,h2,h3⟩:=h;exact⟨v,l',h1,VR.scalar hs.1 h2,LR.scalar hs.2 h3⟩
end
def W9(H:Qb):A->A->Prop:=λa a'=>(a'=a/\YR a=true)\/ ∃i n k t es,a=.osl i 0 n k/\H[i]?=some (.row t k es)/\es.length=n/\a'=.rsl k es
def DI(H:Qb):AA A->AA A->Prop
 |[],[]=>True
 |a::az,b::bs=>W9 H a b/\DI H az bs
 |_,_=>False
theorem b7{Q:QW}{l:AA Oper}{d:Nat}{B:AA A}(aa:Bh P o env H f args)(hv:DI H args B)(hC:C P f B [] Qr)
  (ab:∀r H1,Qr r H1->YF r=true)(k:∀r H1,Qr r H1->WO P h0 N all l (up env d r) H Q)(hg:Qy all o env true:=by exact rfl)(hd:o.dst=some d:=by exact rfl)(hN:Nat.blt d N=true:=by exact rfl):WO P h0 N all (o::l) env H Q:=by
 intro rd fr ro U a w r hrd;obtain⟨V,h1,h2⟩:=aa fr ro U N a w r;refine lT (YV hg r) h1 ?_
 let roc:Nat->Prop:=λb=>ro b\/ ∃(i:Nat) (x:AR),U[i]?=some (some b)/\H[i]?=some x/\x.live=true
 let frc:Nat->Prop:=λb=>fr b\/ ∃(i:Nat) (x:AR) (d:Nat),U[i]?=some (some d)/\H[i]?=some x/\Bw w x d b
 have L:AU frc roc [] [] w:=by
  refine⟨rfl,r.sim.roOk.to (λ_ q=>.inl q) (λ_ _=>rfl) ?_,?_,?_,by simp,by simp,by simp,by simp⟩
  .rintro b (q|⟨i,x,z,u,F⟩)
   .exact r.sim.roLt b q
   .exact(r.sim.own i b x z u F).1
  .rintro b (q|⟨i,x,d,z,u,F⟩)
   .exact r.sim.frLt b q
   .exact(r.sim.hid i d x b z u F).lt
  .rintro b (q|⟨i,x,z,u,F⟩) (q'|⟨i',x',d',M,R,W⟩)
   .exact r.sim.roFr b q q'
   .exact(r.sim.hid i' d' x' b M R W).ro q
   .exact(r.sim.own i b x z u F).2.2 q'
   .exact(r.sim.hid i' d' x' b M R W).ne i b x z u F rfl
 have J:∀(az E:AA A) (l:AA Value),DI H az E->LR ro U w az l->LR roc [] w E l:=by
  intro az
  induction az with
  |nil=>
   intro E l G h;cases E with
   |nil=>exact h
   |cons b E=>exact G.elim
  |cons x az ih=>
   intro E l G h;cases E with
   |nil=>exact G.elim
   |cons y E=>
    obtain⟨hx,G⟩:=G;obtain⟨v,l',rfl,hv,h⟩:=h;refine⟨v,l',rfl,?_,ih E l' G h⟩;rcases hx with⟨rfl,hx⟩|⟨i,n,k,t,es,rfl,hH,hn,rfl⟩
    .exact(hv.data (σ':=[]) hx).mono ⟨λ_ q=>.inl q,λ_ _=>rfl,λ_ _ q=>q,λ_ _ q=>q⟩
    .subst hn;rcases hv with⟨h0,h⟩|⟨b,p,X,t',m,h1,h,h2,⟨h3,af⟩,h4,h5⟩
     .have:es=[]:=(by grind);subst this;exact⟨none,0,h,XR _,.inl rfl⟩
     .refine⟨_,X,h,h3,?_⟩;by_cases he:es=[]
      .exact .inl he
      .right;have hc:0<X:=Vb (by grind) h3;obtain rfl:=h2 hc;obtain⟨l,z,u⟩:=r.sim.blk i _ _ h1 hH;refine⟨b,0,by simp,.inr ⟨i,_,h1,hH,rfl⟩,?_⟩;have:=Jc (pre:=[]) (by simpa using z) u;exact this.keep ⟨λ_ q=>.inl q,λ_ _=>rfl,λ_ _ q=>q,λ_ _ q=>q⟩ rfl
 refine Calls.mono (hC frc roc [] V w L (J _ _ _ hv h2)) ?_;rintro e Y ⟨v,rr,H1,ag,τ,rfl,hq,sc,ac,ev⟩;have O:∀(i b:Nat) (x:AR),U[i]?=some (some b)->H[i]?=some x->x.live=true->Y.heap[b]?=w.heap[b]? :=λi b x z u F=>ev.keepRo b (by grind);have g:Qm fr ro w ro Y:=⟨λ_ q=>q,λb q=>ev.keepRo b (.inl q),λb q=>ev.keepFr b (.inl q),ev.size,ev.shape,ev.os,ev.tape,ev.output,ev.drawn⟩;have T:AU fr ro U H Y:=by
  refine⟨r.sim.len,r.sim.roOk.to (λ_ q=>q) g.keepRo (λb q=>Vb (r.sim.roLt b q) ev.size),λb q=>Vb (r.sim.frLt b q) ev.size,r.sim.roFr,?_,r.sim.inj,?_,r.sim.hidTo (· = ·) Yd ev.size (by simp) (by simp) λj d y g1 g2 g3=>.inl ⟨j,y,rfl,g1,g2,id,λc q=>r.sim.hidKeep g1 g2 (O j d y g1 g2) g.keepRo q⟩⟩
  .intro i b x z u F;obtain⟨p1,p2,p3⟩:=r.sim.own i b x z u F
   grind
  .intro i y x z u;refine(r.sim.blk i y x z u).keep (g.ext0 U) ?_ ?_
   .grind
   .rintro b c rfl G;exact ev.keepFr c (by grind)
 have hk:=k rr H1 hq;have ae:d<N:=by simp_all
 simp only[hd,Act.put];have r':BL fr ro U H (up env d rr) N {a with tmps:=a.tmps.setIfInBounds d v} Y:=
  ⟨T,VR.up (fr:=fr) (λs=>(r.env s).mono (g.ext0 U)) (by rw[r.size];exact ae) (ac.scalar (ab _ _ hq)),by simpa using r.size,r.defers.keep g⟩
 exact⟨_,rfl,Yx (λe a w q=>q.step g rfl) _ _ _ (hk rd fr ro U _ Y r' (hrd.to g λ_ q=>q))⟩
end
variable {h:Nat}{hi lo:AB Operand}
section
variable {P:Program} {o:Oper} {env:Env} {H:Qb}
theorem rF{α:Type}:∀(vs:AA α) (off i:Nat) (l:AA α),off+i+vs.length<=l.length->
  (vs.zipIdx i).foldl (λcs x=>cs.setIfInBounds (off+x.2) x.1) l.toArray=(splice l (off+i) vs).toArray
 |[],off,i,l,h=>by simp[splice]
 |v::vs,off,i,l,h=>by
  simp[XY]at h;rw[List.zipIdx_cons,XC];have e1:l.toArray.setIfInBounds (off+i) v=(splice l (off+i) [v]).toArray:=by
   have:l.toArray.setIfInBounds (off+i) v=(l.set (off+i) v).toArray:=by simp
   rw[this];rw[List.set_eq_take_append_cons_drop,Vp (by omega)];simp[splice]
  rw[e1,rF vs off (i+1) _ (by grind)];have a:(l.take (off+i)).length=off+i:=by simp;omega
  unfold splice;have e:off+(i+1)=(l.take (off+i)).length+1:=by omega
  have f:(l.take (off+i)++([v]++l.drop (off+i+[v].length))).take ((l.take (off+i)).length+1)=l.take (off+i)++[v]:=by
   grind
  have d:(l.take (off+i)++([v]++l.drop (off+i+[v].length))).drop ((l.take (off+i)).length+1+vs.length)=l.drop (off+i+(v::vs).length):=by
   rw[show(l.take (off+i)).length+1+vs.length=(l.take (off+i)).length+(1+vs.length)from by omega,X7];simp[Nat.add_comm 1];omega
  simp_all
theorem rB{a:Nat->AB (Nat×Nat)}{l:AA Value}{i size:Nat}{v:Value}{m:AA Value}{rest:AA (Nat×Value)}(e:a i=some (off,size))(d:v.cells=m.toArray)(f:m.length=size)
  (hl:off+size<=l.length):Instr.fill a l.toArray ((i,v)::rest)=Instr.fill a (splice l off m).toArray rest:=by
 rw[Instr.fill];simp[e];rw[Vn (by grind),d]
 simp_all[rF]
def LL:Nat->AA Operand->AA (Nat×Operand)
 |_,[]=>[]
 |i,x::xs=>(i,x)::LL (i+1) xs
def Yq(env:Env)(xs:AA Operand):AA (AA A):=xs.map λx=>YD (AM env x)
theorem kJ{fr ro:Nat->Prop}{U:AZ}{N:Nat}{a:Act}{w:World}(r:BL fr ro U H env N a w){k:Nat}:∀(xs:AA Operand) (j:Nat) (pre rest:AA Value),pre.length=j*k->rest.length=xs.length*k->
  (xs.all λx=>Yr (AM env x))=true->allK k (Yq env xs)->
  ∃l,Instr.fill (λi=>some (i*k,k)) (pre++rest).toArray ((LL j xs).map λp=>(p.1,a.eval p.2))=some (pre++l).toArray/\LR ro U w (Yq env xs).flatten l
 |[],j,pre,rest,h1,h2,_,_=>by
  have:rest=[]:=(by simp_all);subst this;exact⟨[],rfl,rfl⟩
 |x::xs,j,pre,rest,h1,h2,h3,h4=>by
  simp only[List.all_cons,XU]at h3;obtain⟨hk1,hk2⟩:=h4;obtain⟨m,q1,q2⟩:=(Ql r x).cells h3.1;have hm:m.length=k:=by rw[q2.length];exact hk1
  simp[XY,Xn]at h2;simp[LL,Vf];rw[rB rfl q1 hm (by simp;omega)];have e:splice (pre++rest) (j*k) m=(pre++m)++rest.drop k:=by
   unfold splice
   grind[List.drop_length_add_append]
  rw[e];obtain⟨l,f,d⟩:=kJ r xs (j+1) (pre++m) (rest.drop k) (by grind) (by simp;omega) h3.2 hk2;refine⟨m++l,?_,?_⟩
  .rw[f];simp
  .exact q2.append d
theorem lx{a:Act}(r:BL fr ro U H env N a w){e n:Nat}(E:Q2 P T e k)(y:xs.length=n)(q:Nat.ble (n*k) 16777216=true)
  (j:(xs.all λx=>Yr (AM env x))=true)(m:allK k (Yq env xs)):
  ∃l,(Instr.buildSlice T n (((LL 0 xs).map λp=>(p.1,a.eval p.2)).toArray)).run P w=.ok (.slice (some ⟨w.heap.size,0,none⟩) n n) (w.alloc (.cells l.toArray e))/\LR ro U w (Yq env xs).flatten l:=by
 obtain⟨z,t,u⟩:=E.zero;have g:n*k<=16777216:=by simp_all
 have s:∀(c:Array Value) (W:World),(newRow e c).run P W=.ok ⟨W.heap.size,0,none⟩ (W.alloc (.cells c e)):=λc W=>rfl;unfold Instr.buildSlice;by_cases h:n*k=0
 .obtain⟨l,d,f⟩:=kJ r (k:=k) xs 0 [] [] (by simp) (by grind) j m;refine⟨l,?_,f⟩;simp only[Vi,E.sl,Result.andThen,E.size,h]
  simp_all[Array.range]
 .obtain⟨l,d,f⟩:=kJ r (k:=k) xs 0 [] ((Array.range (n*k)).map (λi=>z.cells[i%z.cells.size]!)).toList (by simp) (by rw[y];simp) j m;refine⟨l,?_,f⟩;simp only[Vi,E.sl,Result.andThen,E.size,Vn h,Sem.run_ite,t];simp only[Vd]at d;rw[Array.toArray_toList]at d
  simp_all
theorem lu{n:Nat}(a:o.op=.buildSlice T n (LL 0 xs).toArray)(ρ:Operand->Value){v:Value}
  (h:(Instr.buildSlice T n (((LL 0 xs).map λp=>(p.1,ρ p.2)).toArray)).run P w=.ok v w'):(execOp ρ o).run P w=.ok (.value v) w':=by
 grind[execOp,Sem.run_bind,Result.andThen,Sem.run_pure]
theorem CD.lit{e n:Nat}(E:Q2 P T e k)(u:o.op=.buildSlice T n (LL 0 xs).toArray)(q:xs.length=n)(d:Nat.ble (n*(k+1)) 16777216=true)
  (t:(xs.all λx=>Yr (AM env x))=true)(g:Yq env xs=es)(j:allK k es)(y:es.flatten.all YJ=true)(B:YB es.flatten=true):
  CD P o env H (.osl H.length 0 n k) (H++[.row e k es]):=by
 intro G p U N a w r;subst g;have i:=XP d;rw[Nat.mul_add]at i;obtain⟨l,z,h⟩:=lx r E q (XQ (by omega)) t j;have f:LR p [] w (Yq env xs).flatten l:=h.data B;obtain⟨s,m⟩:=pb r.sim j f (h.plain y);rw[Vc]at s m;have F:l.length=n*k:=by rw[h.length,YW j];simp[Yq,q]
 refine⟨_,_,p,[some w.heap.size],lu u a.eval z,.inr ⟨w.heap.size,0,n,e,l.length,?_,rfl,λ_=>by simp,(by omega),?_,by grind⟩,s,m⟩
 .rw[<- r.sim.len];simp
 .unfold World.shape?;rw[Ys];simp
theorem Y8{e n:Nat}(E:Q2 P T e k)(q:o.op=.buildSlice T n (LL 0 xs).toArray)(j:xs.length=n)(d:Nat.ble (n*(k+1)) 16777216=true)
  (p:(xs.all λx=>Yr (AM env x))=true)(f:Yq env xs=es)(i:allK k es)(s:es.flatten.all YJ=true):
  CD P o env H (.osl H.length 0 n k) (H++[.rowr e k es]):=by
 intro B y U N a w r;subst f;have h:=XP d;rw[Nat.mul_add]at h;obtain⟨l,u,g⟩:=lx r E j (XQ (by omega)) p i;have m:=r.sim.allocRowr (t:=e) (rest:=[]) i g (g.plain s);rw[Vc]at m;have z:l.length=n*k:=by rw[g.length,YW i];simp[Yq,j]
 refine⟨_,_,y,[some w.heap.size],lu q a.eval u,.inr ⟨w.heap.size,0,n,e,l.length,?_,rfl,λ_=>by simp,(by omega),?_,by grind⟩,m,Qm.alloc _ r.sim.roLt r.sim.frLt⟩
 .rw[<- r.sim.len];simp
 .unfold World.shape?;rw[Ys];simp
theorem Y3{n:Int}{y:Nat}{c:BoundsCode}(h0:0<=n)(a:n<=y):(Instr.sliceBound (.int .i64 n) y c).run P w=.ok n.toNat w:=by
 simp_all[Instr.sliceBound,asIntOf]
theorem jw{e:Nat}(E1:∀w,(underlying T).run P w=.ok (.slice e) w)(E2:∀w,(sizeOf e).run P w=.ok k w){n:Nat}{lo hi:AB Value}{l:Nat}(f:n<=cap)
  (d:lo=none/\l=0\/ ∃z:Int,lo=some (.int .i64 z)/\0<=z/\z.toNat=l)(a:hi=none/\h=n\/ ∃z:Int,hi=some (.int .i64 z)/\0<=z/\z.toNat=h)(g:l<=h)(j:h<=n):
  (Instr.sliceAt T (.slice ad n cap) lo hi none).run P w=.ok (.slice (if cap=l then ad else ad.map (·.add (l*k))) (h-l) (cap-l)) w:=by
 have m:(Instr.sliceBounds true n cap lo hi none).run P w=.ok (l,h,cap) w:=by
  rcases d with⟨rfl,rfl⟩|⟨z,rfl,i,rfl⟩<;>rcases a with⟨rfl,rfl⟩|⟨y,rfl,y0,rfl⟩
  .rfl
  .grind[Instr.sliceBounds,Sem.run_bind,Sem.run_pure,Result.andThen,Y3]
  .grind[Instr.sliceBounds,Sem.run_bind,Sem.run_pure,Result.andThen,Y3]
  .simp[Instr.sliceBounds,Vi,Vj,Result.andThen,Y3 y0 (show y<=cap by omega),Y3 i (show z<=y.toNat by omega)]
 simp_all[Instr.sliceAt,Instr.slice]
theorem S1{a:Act}(r:BL fr ro U H env N a w){x:AB Operand}{l d:Nat}(h:x=none/\l=d\/ ∃y,∃z:Int,x=some y/\AM env y=.int .i64 z/\0<=z/\z.toNat=l):
  x.map a.eval=none/\l=d\/ ∃z:Int,x.map a.eval=some (.int .i64 z)/\0<=z/\z.toNat=l:=by
 rcases h with⟨rfl,rfl⟩|⟨y,z,rfl,g,e,f⟩
 .simp
 grind[QN]
theorem vD{e:Nat}{x:Operand}{es':AA (AA A)}{l:Nat}(E1:∀w,(underlying T).run P w=.ok (.slice e) w)(E2:∀w,(sizeOf e).run P w=.ok k w)(s:o.op=.slice T x lo hi none)
  (F:AM env x=.rsl k es)(n:lo=none/\l=0\/ ∃y,∃z:Int,lo=some y/\AM env y=.int .i64 z/\0<=z/\z.toNat=l)
  (j:hi=none/\h=es.length\/ ∃y,∃z:Int,hi=some y/\AM env y=.int .i64 z/\0<=z/\z.toNat=h)(m:l<=h)(G:h<=es.length)(p:(es.take h).drop l=es'):AK P o env H (.rsl k es'):=by
 intro L M U N a w r;subst p;have i:=Ql r x;rw[F]at i;obtain⟨ad,d,i,u,J⟩:=i;have f:=jw (w:=w) E1 E2 (ad:=ad) u (S1 r n) (S1 r j) m G;have g:((es.take h).drop l).length=h-l:=by simp;omega
 refine⟨_,by simp[execOp,s,i,Vi,f,Xl];rfl,(⟨_,d-l,by rw[g],by omega,?_⟩)⟩;rcases J with rfl|⟨b,q,rfl,E,B⟩
 .simp
 .by_cases t:d=l
  .grind
  .right;exact⟨b,q+l*k,by rw[Vn t];simp[J6],E,((B.take h).drop l)⟩
theorem kW{e i s n:Nat}{x:Operand}{l:Nat}(E1:∀w,(underlying T).run P w=.ok (.slice e) w)(E2:∀w,(sizeOf e).run P w=.ok k w)(B:o.op=.slice T x lo hi none)
  (O:AM env x=.osl i s n k)(u:lo=none/\l=0\/ ∃y,∃z:Int,lo=some y/\AM env y=.int .i64 z/\0<=z/\z.toNat=l)
  (j:hi=none/\h=n\/ ∃y,∃z:Int,hi=some y/\AM env y=.int .i64 z/\0<=z/\z.toNat=h)(t:l<=h)(F:h<=n):AK P o env H (.osl i (s+l) (h-l) k):=by
 intro V X U N a w r;have f:=Ql r x;rw[O]at f;rcases f with⟨rfl,f⟩|⟨b,p,g,G,m,f,L,W,⟨M,Q⟩,E,R⟩
 .have d:=jw (P:=P) (w:=w) E1 E2 (ad:=none) (XR 0) (S1 r u) (S1 r j) t F;refine⟨_,by simp only[execOp,B,f,Vi,d,Xl];rfl,?_⟩;left
  grind
 .have d:=jw (w:=w) E1 E2 (ad:=some ⟨b,p,none⟩) M (S1 r u) (S1 r j) t F;refine⟨_,by simp only[execOp,B,L,Vi,d,Xl];rfl,?_⟩;right;by_cases J:g=l
  .refine⟨b,p,0,G,m,f,by grind,λq=>by omega,by omega,E,?_⟩
   grind
  .refine⟨b,p+l*k,g-l,G,m,f,by rw[Vn J];simp[J6],λq=>by grind,by omega,E,?_⟩
   grind
theorem AK.max{c:Call}{x y:Operand}{k:IntKind}{m n:Int}(g:o.op=.call c)(f:c={callee:=.builtin .max,args:= #[x,y],argTypes:=c.argTypes})(l:AM env x=.int k m)(j:AM env y=.int k n):
  AK P o env H (.int k (if m<n then n else m)):=by
 intro p q U N a w r;have h:=QN r l;have i:=QN r j;refine⟨_,?_,rfl⟩;generalize a.eval=ρ at*;have d:c.callee=.builtin .max:=by rw[f]
 have e:c.args= #[x,y]:=by rw[f]
 simp only[execOp,g,resolve,d,e,invoke,Vi,Result.andThen];simp[Builtin.max_,Builtin.max2,h,i,go_sem]
theorem AK.min{c:Call}{x y:Operand}{k:IntKind}{m n:Int}(g:o.op=.call c)(f:c={callee:=.builtin .min,args:= #[x,y],argTypes:=c.argTypes})(l:AM env x=.int k m)(j:AM env y=.int k n):
  AK P o env H (.int k (if n<m then n else m)):=by
 intro p q U N a w r;have h:=QN r l;have i:=QN r j;refine⟨_,?_,rfl⟩;generalize a.eval=ρ at*;have d:c.callee=.builtin .min:=by rw[f]
 have e:c.args= #[x,y]:=by rw[f]
 simp only[execOp,g,resolve,d,e,invoke,Result.andThen];simp[Builtin.min_,Builtin.min2,h,i,go_sem]
end
variable {id:Nat}
section
variable {P:Program} {h0 N:Nat} {env:Env} {H:Qb} {Q:QW} {c c':Code}
def mc(h0:Nat)(Eb:Env)(Hb:Qb)(Q:QW):QW
 |.normal,env,H=>Le h0 env H Eb Hb
 |.exit id,env,H=>Q (.exit id) env H
 |.ret,env,H=>Q .ret env H
theorem TC.cut(Eb:Env)(Hb:Qb)(h:TC P h0 N c env H (mc h0 Eb Hb Q))(k:∀env H,Le h0 env H Eb Hb->Q .normal env H):TC P h0 N c env H Q:=
 h.mono λx env' H' q=>by
  cases x with
  |normal=>exact k _ _ q
  |exit id=>exact q
  |ret=>exact q
theorem dR(h:TC P h0 N c env H Q):NT P h0 N c Q .normal env H:=h
theorem dP(h:Q (.exit id) env H):NT P h0 N c Q (.exit id) env H:=h
theorem dQ(h:Q .ret env H):NT P h0 N c Q .ret env H:=h
theorem jK(h:Q .normal env H):M7 id Q .normal env H:=h
theorem jL(h:Q .normal env H):M7 id Q (.exit id) env H:=by simp_all[M7]
theorem jI{a:Nat}(e:Nat.beq a id=false)(h:Q (.exit a) env H):M7 id Q (.exit a) env H:=by simp[M7,e];exact h
theorem jJ(h:Q .ret env H):M7 id Q .ret env H:=h
def LC(h0:Nat)(b:AG S B)(Eb:S->Env)(Hb:S->Qb)(Q:QW):QW
 |.normal,env,H=>∃s,b=.k s/\Le h0 env H (Eb s) (Hb s)
 |.exit id,env,H=>Q (.exit id) env H
 |.ret,env,H=>Q .ret env H
theorem oA{B:Type}{b:AG S B}(Eb:S->Env)(Hb:S->Qb)(h:TC P h0 N c env H (LC h0 b Eb Hb Q))(k:∀s env H,b=.k s->Le h0 env H (Eb s) (Hb s)->Q .normal env H):TC P h0 N c env H Q:=
 h.mono λx env' H' q=>by
  cases x with
  |normal=>obtain⟨s,e,q⟩:=q;grind
  |exit id=>exact q
  |ret=>exact q
section
variable {S B:Type} {b:AG S B} {Eb:S->Env} {Hb:S->Qb}
theorem YC{s:S}(e:b=.k s)(h:Le h0 env H (Eb s) (Hb s)):LC h0 b Eb Hb Q .normal env H:=⟨s,e,h⟩
theorem nD(h:Q (.exit id) env H):LC h0 b Eb Hb Q (.exit id) env H:=h
theorem Qq(h:Q .ret env H):LC h0 b Eb Hb Q .ret env H:=h
end
theorem pN{x:Operand}{t:Bool}(hx:AM env x=.bool t)(h:t=true)(ht:TC P h0 N c env H Q):TC P h0 N (.cond x c c') env H Q:=TC.cond hx (λ_=>ht) (λq=>by grind)
theorem kY{x:Operand}{t:Bool}(hx:AM env x=.bool t)(h:t=false)(hf:TC P h0 N c' env H Q):TC P h0 N (.cond x c c') env H Q:=TC.cond hx (λq=>by grind) (λ_=>hf)
section
variable {S B:Type} {I:S->Env->Qb->Prop}
theorem Qg{s:S}{d:AG S B}(e:some (AG.k s)=some d)(h:I s env H):Ss I d Q .normal env H:=⟨s,(by grind),h⟩
theorem Qi{b:B}{d:AG S B}(e:some (AG.d b)=some d)(h:Q (.exit id) env H):Ss I d Q (.exit id) env H:=⟨(by grind),h⟩
theorem Qx{b:B}{d:AG S B}(e:some (AG.d b)=some d)(h:Q .ret env H):Ss I d Q .ret env H:=⟨(by grind),h⟩
end
end
theorem YE{α β:Type}{x:AB α}{f:α->AB β}{r:β}(h:x.bind f=some r):∃a,x=some a/\f a=some r:=Option.bind_eq_some_iff.1 h
def AJ(l:AA α)(i:Int):AB α:=bif 0<=i then l[i.toNat]? else none
theorem G8{α:Type}{l:AA α}{i:Int}{x:α}(h:AJ l i=some x):0<=i/\l[i.toNat]?=some x:=by
 grind[AJ]
def app(l m:AA α):AB (AA α):=bif Nat.ble (l.length+m.length) QE then some (l++m)else none
variable {r:AA α}
theorem bD{l m:AA α}(h:app l m=some r):l.length+m.length<=QE/\l++m=r:=by
 unfold app at h;cases q:Nat.ble (l.length+m.length) QE with
 |true=>simp_all
 |false=>grind
def CU(l:AA α)(lo hi:Int):AB (AA α):=bif decide (0<=lo)&&decide (lo<=hi)&&decide (hi<=(l.length:Int))then some ((l.take hi.toNat).drop lo.toNat)else none
theorem WX{l:AA α}{lo hi:Int}(h:CU l lo hi=some r):0<=lo/\lo<=hi/\hi<=l.length/\(l.take hi.toNat).drop lo.toNat=r:=by
 grind[CU]
def D1(l:AA α)(i:Int)(x:α):AB (AA α):=bif decide (0<=i)&&decide (i<(l.length:Int))then some (l.set i.toNat x)else none
theorem bL{α:Type}{e:α->AA A}{l:AA α}{i:Nat}{x:α}(h:l[i]?=some x):(l.map e)[i]?=some (e x):=by simp[h]
section
variable {P:Program} {h0 N:Nat} {env:Env} {H H':Qb} {Q:QW} {all:Array Oper} {o:Oper} {l:AA Oper} {d:Nat} {x:A}
theorem vV(a:AK P o env H x)(k:WO P h0 N all l (up env d x) H Q)(hg:Qy all o env true:=by exact rfl)(hd:o.dst=some d:=by exact rfl)(hN:Nat.blt d N=true:=by exact rfl):WO P h0 N all (o::l) env H Q:=
 QM hg hd hN a k
theorem vH(a:CD P o env H x H')(k:WO P h0 N all l (up env d x) H' Q)(hg:Qy all o env true:=by exact rfl)(hd:o.dst=some d:=by exact rfl)(hN:Nat.blt d N=true:=by exact rfl)(hh:Nat.ble h0 H.length=true:=by exact rfl):WO P h0 N all (o::l) env H Q:=
 Jq (by simp_all) hg hd hN a k
theorem vN(a:CD P o env H x H')(k:WO P h0 N all l env H' Q)(hg:Qy all o env true:=by exact rfl)(hd:o.dst=none:=by exact rfl)(hh:Nat.ble h0 H.length=true:=by exact rfl):WO P h0 N all (o::l) env H Q:=
 tu (by simp_all) hg hd a k
theorem vU(a:FS P o env H H')(k:WO P h0 N all l env H' Q)(hg:Qy all o env true:=by exact rfl)(hd:o.dst=none:=by exact rfl)(hh:Nat.ble h0 H.length=true:=by exact rfl):WO P h0 N all (o::l) env H Q:=
 LE (by simp_all) hg hd a k
theorem gT{j s:Nat}{c x:Bool}(a:x=c)(hg:o.guard=some (j,c):=by exact rfl)(hs:(all[j]?).bind (·.dst)=some s:=by exact rfl)(hl:lk env s=.bool x:=by exact rfl):Qy all o env true:=by
 simp_all[Qy]
theorem gF{j s:Nat}{c x:Bool}(a:x= !c)(hg:o.guard=some (j,c):=by exact rfl)(hs:(all[j]?).bind (·.dst)=some s:=by exact rfl)(hl:lk env s=.bool x:=by exact rfl):Qy all o env false:=by
 simp_all[Qy]
theorem nN{x x':A}(a:x'=x)(hH:H'=H)(k:WO P h0 N all l (up env d x) H Q):WO P h0 N all l (up env d x') H' Q:=by grind
theorem Ng(hH:H'=H)(k:WO P h0 N all l env H Q):WO P h0 N all l env H' Q:=by grind
theorem QC{a:AA A}{Hc:Qb}(π:AA Nat)(e:Bh P o env H f args)(g:C P f a Hc Qr)
  (k:∀r H1,Qr r H1->WO P h0 N all l (up env d (Je (Af π H.length) r)) (YI H π (H1.map (Q9 (Af π H.length)))) Q)
  (hargs:args=C3 (Af π H.length) a:=by exact rfl)(hH:π.map (λp=>H[p]?)=(Hc.map (Q9 (Af π H.length))).map some:=by exact rfl)(hπ:π.Nodup:=by decide)
  (hg:Qy all o env true:=by exact rfl)(hd:o.dst=some d:=by exact rfl)(hN:Nat.blt d N=true:=by exact rfl)(hh:Nat.ble h0 H.length=true:=by exact rfl):WO P h0 N all (o::l) env H Q:=
 WO.call π (by simp_all) hg hd (λx h=>by simp_all) e hargs hH hπ g k
end
variable {et:Nat}
section
variable {P:Program} {o:Oper} {env:Env} {H:Qb} {α:Type} {e:α->AA A}
theorem vE{c:Call}{t d:Nat}{x:Operand}{l:AA α}(a:∀w,(underlying t).run P w=.ok (.slice d) w)(f:o.op=.call c:=by exact rfl)(hc:c={callee:=.builtin .len,args:= #[x],argTypes:= #[t]}:=by exact rfl)
  (hx:AM env x=.rsl k (l.map e):=by exact rfl):AK P o env H (.int .i64 l.length):=by
 have:=vF (H:=H) f hc a hx
 grind
theorem O5{t a:Nat}{x y:Operand}{l:AA α}{f:IntKind}{i:Int}{v:α}(h:AJ l i=some v)(g:∀w,(underlying t).run P w=.ok (.slice a) w)(j:∀w,(sizeOf a).run P w=.ok k w)
  (d:o.op=.indexAddr t x y:=by exact rfl)(hx:AM env x=.rsl k (l.map e):=by exact rfl)(hy:AM env y=.int f i:=by exact rfl):AK P o env H (.rp (e v)):=
 uI d g j hx hy (G8 h).1 (bL (G8 h).2)
theorem Qn{t a b n:Nat}{x y:Operand}{l:AA α}{f:IntKind}{i:Int}{v:α}(h:AJ l i=some v)(p:l.length=n)(g:∀w,(underlying t).run P w=.ok (.slice a) w)(j:∀w,(sizeOf a).run P w=.ok k w)
  (d:o.op=.indexAddr t x y:=by exact rfl)(hx:AM env x=.osl b 0 n k:=by exact rfl)(hy:AM env y=.int f i:=by exact rfl):AK P o env H (.ptr b (i.toNat*k)):=by
 have:=G8 h;have e:i.toNat<l.length:=(by grind);have m:=jn (H:=H) d g j hx hy this.1 (by omega)
 grind
theorem Y5{b t f:Nat}{l:AA α}{i:Int}{v:α}(h:AJ l i=some v)(hH:H[b]?=some (.row t k (l.map e)):=by exact rfl)(hcs:(e v).drop f=cs':=by exact rfl):BD H (.ptr b (i.toNat*k+f)) cs':=
 BD.row hH rfl (bL (G8 h).2) hcs
theorem Qj{b t:Nat}{l:AA α}{i:Int}{v:α}(h:AJ l i=some v)(hH:H[b]?=some (.row t k (l.map e)):=by exact rfl)(hcs:e v=cs':=by exact rfl):BD H (.ptr b (i.toNat*k)) cs':=
 BD.row (f:=0) hH rfl (bL (G8 h).2) hcs
theorem pd{c:Call}{et':Nat}{x y:Operand}{m r:AA α}(h:app [] m=some r)(E:Q2 P T et k)(d:∀w,(underlying T').run P w=.ok (.slice et') w)(f:D0 P H ya k (m.map e))
  (a:o.op=.call c:=by exact rfl)(hc:c={callee:=.builtin .append,args:= #[x,y],argTypes:= #[T,T']}:=by exact rfl)(hx:AM env x=.nils:=by exact rfl)(hy:AM env y=ya:=by exact rfl):
  CD P o env H (.osl H.length 0 r.length k) (H++[.row et k (r.map e)]):=by
 obtain⟨g,rfl⟩:=bD h;have:=Qhf E d a hc hx hy f (by grind)
 grind
theorem Qh{c:Call}{et' i n:Nat}{x y:Operand}{l m r:AA α}(h:app l m=some r)(E:Q2 P T et k)(d:∀w,(underlying T').run P w=.ok (.slice et') w)(f:D0 P H ya k (m.map e))
  (a:l.length=n:=by exact rfl)(ho:o.op=.call c:=by exact rfl)(hc:c={callee:=.builtin .append,args:= #[x,y],argTypes:= #[T,T']}:=by exact rfl)(hx:AM env x=.osl i 0 n k:=by exact rfl)
  (hH:H[i]?=some (.row et k (l.map e)):=by exact rfl)(hy:AM env y=ya:=by exact rfl):
  CD P o env H (.osl H.length 0 r.length k) (H.set i .dead++[.row et k (r.map e)]):=by
 obtain⟨g,rfl⟩:=bD h;subst a;have:=sq E d ho hc hx hH (by simp) hy f (by grind) (gs:=(l++m).map e) (by rw[VE (by simp)];simp)
 grind
theorem JR{l:AA α}:D0 P H (.rsl k (l.map e)) k (l.map e):=D0.rsl
theorem QF{i n t:Nat}{l:AA α}(hH:H[i]?=some (.row t k (l.map e)):=by exact rfl)(hn:l.length=n:=by exact rfl):D0 P H (.osl i 0 n k) k (l.map e):=
 D0.osl hH (by grind[List.take_of_length_le]) (by simp[hn])
theorem JG{t n b f:Nat}{x y:Operand}{l l':AA α}{i:Int}{v j:α}{a:A}(h:AJ l i=some v)(hl:D1 l i j=some l')(p:∀w,(sizeOf t).run P w=.ok n w)(d:off=i.toNat*k+f)(g:splice (e v) f vs=e j)
  (m:o.op=.store t x y:=by exact rfl)(hx:AM env x=.ptr b off:=by exact rfl)(hH:H[b]?=some (.row T k (l.map e)):=by exact rfl)
  (hy:AM env y=a:=by exact rfl)(hk:Yr a=true:=by exact rfl)(hv:YD a=vs:=by exact rfl)(hn:vs.length=n:=by exact rfl)(hp:vs.all YJ=true:=by exact rfl)(hd:YB vs=true:=by exact rfl)(hf:Nat.ble (f+n) k=true:=by exact rfl):
  FS P o env H (H.set b (.row T k (l'.map e))):=by
 refine zo m hx hH p d (bL (G8 h).2) hy hk hv hn hp hd hf g ?_
 grind[D1,List.map_set]
end
def ZR(a:A)(v:Value):Prop:=∀ro U w,VR ro U w a v
def ZL(az:AA A)(l:AA Value):Prop:=∀ro U w,LR ro U w az l
theorem ZR.int{k:IntKind}{n:Int}:ZR (.int k n) (.int k n):=λ_ _ _=>rfl
theorem ZR.bool{b:Bool}:ZR (.bool b) (.bool b):=λ_ _ _=>rfl
theorem ZR.str:ZR (.str []) (.string ⟨#[]⟩):=λ_ _ _=>rfl
theorem ZR.rsl{α:Type}{k:Nat}{e:α->AA A}:ZR (.rsl k (List.map e [])) (.slice none 0 0):=λ_ _ _=>⟨none,0,rfl,XR _,.inl rfl⟩
theorem ZR.nils:ZR .nils (.slice none 0 0):=λ_ _ _=>rfl
theorem ZR.nilp:ZR .nilp (.pointer none):=λ_ _ _=>rfl
theorem ZR.nilf:ZR .nilf .nilFunc:=λ_ _ _=>rfl
theorem ZR.nilm:ZR .nilm (.map none):=λ_ _ _=>rfl
theorem uL:ZR .nilif .nilIface:=λ_ _ _=>rfl
theorem ZL.nil:ZL [] []:=λ_ _ _=>rfl
variable {az:AA A}
theorem ZL.cons{a:A}{v:Value}{l:AA Value}(h:ZR a v)(k:ZL az l):ZL (a::az) (v::l):=λro U w=>⟨v,l,rfl,h ro U w,k ro U w⟩
theorem ZR.agg{az:AA A}{l:AA Value}(h:ZL az l):ZR (.agg az) (.agg l.toArray):=λro U w=>⟨l,rfl,h ro U w⟩
section
variable {P:Program} {o:Oper} {env:Env} {H:Qb}
theorem rh{t:Nat}{z:Value}{v:A}{cs:AA A}(j:∀w,(zeroValue t).run P w=.ok z w)(h:ZR v z)(i:o.op=.alloc t:=by exact rfl)(hk:Yr v=true:=by exact rfl)(hcs:YD v=cs:=by exact rfl)(hpl:cs.all YJ=true:=by exact rfl):
  CD P o env H (.ptr H.length 0) (H++[.cells t cs]):=by
 intro k d U N a w r;obtain⟨l,g,f⟩:=(h d U w).cells hk;subst hcs;refine⟨.pointer (some ⟨w.heap.size,0,none⟩),w.alloc (.cells l.toArray t),d,[some w.heap.size],?_,⟨w.heap.size,?_,rfl⟩,r.sim.allocCells f (f.plain hpl),Qm.alloc _ r.sim.roLt r.sim.frLt⟩
 .have e:(newVar t z).run P w=.ok ⟨w.heap.size,0,none⟩ (w.alloc (.cells l.toArray t)):=by
   unfold newVar;rw[g];rfl
  simp_all[execOp,Instr.alloc]
 .rw[<- r.sim.len];simp
theorem yv{p q:Bool}(a:∀w,(underlying t).run P w=.ok .bool w):(Op.equal t (.bool p) (.bool q)).run P w=.ok (p==q) w:=by
 have k:∀d,(Op.equalIn (d+1) t (.bool p) (.bool q)).run P w=.ok (p==q) w:=by
  simp[Op.equalIn,a]
 exact k 9999
theorem rk{x y:Operand}{p q:Bool}(g:∀w,(underlying t).run P w=.ok .bool w)(e:o.op=.binOp .neq t x y u:=by exact rfl)(hx:AM env x=.bool p:=by exact rfl)(hy:AM env y=.bool q:=by exact rfl):AK P o env H (.bool (p != q)):=by
 intro h d U N a w r;have i:=cB r hx;have f:=cB r hy;refine⟨_,?_,rfl⟩
 simp_all[execOp,Go.binOp,eqGuard,yv,bne]
theorem Q3{x y:Operand}{s:AA UInt8}{k:IntKind}{i:Int}{c:UInt8}(h:AJ s i=some c)(a:∀w,(underlying t).run P w=.ok .string w)(d:o.op=.index t x y:=by exact rfl)(hx:AM env x=.str s:=by exact rfl)(hy:AM env y=.int k i:=by exact rfl):
  AK P o env H (.int .u8 c.toNat):=wz d a hx hy (G8 h).1 (G8 h).2
theorem vC{e:α->AA A}{x:Operand}{l:AA α}{a b:Int}(h:CU l a b=some r)(E1:∀w,(underlying T).run P w=.ok (.slice et) w)(E2:∀w,(sizeOf et).run P w=.ok k w)
  (g:lo=none/\a=0\/ ∃y,lo=some y/\AM env y=.int .i64 a)(f:hi=none/\b=l.length\/ ∃y,hi=some y/\AM env y=.int .i64 b)
  (d:o.op=.slice T x lo hi none:=by exact rfl)(hx:AM env x=.rsl k (l.map e):=by exact rfl):AK P o env H (.rsl k (r.map e)):=by
 obtain⟨j,m,i,rfl⟩:=WX h;refine vD (l:=a.toNat) (h:=b.toNat) E1 E2 d hx ?_ ?_ (by omega) (by simp;omega) (by simp)
 .grind
 grind
theorem wu{c:Call}{t d i n:Nat}{x:Operand}(a:∀w,(underlying t).run P w=.ok (.slice d) w)(e:o.op=.call c:=by exact rfl)(hc:c={callee:=.builtin .len,args:= #[x],argTypes:= #[t]}:=by exact rfl)
  (hx:AM env x=.osl i 0 n k:=by exact rfl):AK P o env H (.int .i64 n):=pf e hc a hx
end
def Qc(k:IntKind)(n:Int):AA A:=[.int k n]
def Dg(b:Bool):AA A:=[.bool b]
def JZ(s:AA UInt8):AA A:=[.str s]
def V_(k:Nat)(e:α->AA A)(l:AA α):AA A:=[.rsl k (l.map e)]
theorem pn{o:Oper}{a:Act}{next:Act->World->Prop}{e:Result Next}
  (k:∀a' w',next a' w'->a'.defers=a.defers)(h:o.uponIn (WF rd) 0 P a next Q e):
  o.uponIn (WF rd) 0 P a (λa' w'=>next a' w'/\ ∃v,a'=a.put o.dst v) Q e:=by
 cases e with
 |ok n w'=>
  cases n with
  |value v=>exact⟨h,_,rfl⟩
  |skip=>exact⟨h,_,rfl⟩
  |defer d=>
   have:=congrArg List.length (k _ _ h)
   revert this
   cases o.dst<;>simp[Act.put]
  |enter f g=>
   exact⟨h.1,CallsIn.mono h.2 (by grind)⟩
  |row r g=>exact⟨h.1,RowsIn.mono h.2 (by grind)⟩
  |round l f j assign i=>exact⟨h.1,RoundIn.mono h.2 (by grind)⟩
  |_=>exact h.elim
 |halt x w'=>cases x<;>first|exact h|exact h.elim
def Y6(e:Env)(H:Qb):QW:=λx e' H'=>x=.normal/\e'=e/\H'=H
theorem Y6.mk{e:Env}{H:Qb}:Y6 e H .normal e H:=⟨rfl,rfl,rfl⟩
inductive Sb (af bf ds:List Nat) (xs:List A) (env0:Env):Env->Prop
 |nil:Sb af bf ds xs env0 []
 |dep (j:Nat) {s:Nat} {a:A} {r:Env} (h1:af.contains j=true) (h2:ds[j]?=some s) (h3:xs[j]?=some a) (k:Sb af bf ds xs env0 r):Sb af bf ds xs env0 ((s,a)::r)
 |old {s:Nat} {a:A} {r:Env} (h1:ds.contains s=false) (h2:lk env0 s=a) (k:Sb af bf ds xs env0 r):Sb af bf ds xs env0 ((s,a)::r)
 |pre (j:Nat) {s:Nat} {a:A} {r:Env} (h1:bf.contains j=true) (h2:ds[j]?=some s) (h3:lk env0 s=a) (k:Sb af bf ds xs env0 r):Sb af bf ds xs env0 ((s,a)::r)
def Qf(o:Oper):AA Nat:=(o.after.toList.filter (Region.binds .any)).map (·.on)
def K8(l:AA Oper)(i:Nat):AA Nat:=(List.range l.length).filter λj=>((l[j]?).map Qf).getD [] |>.contains i
inductive K_ (P:Program) (N:Nat) (l:List Oper) (ds:List Nat) (xs:List A) (env0:Env) (i:Nat) (H H':Qb):Prop
 |mk (o:Oper) (e:Env) (d:Nat) (x:A) (ho:l[i]?=some o) (hd:o.dst=some d) (hx:xs[i]?=some x) (hs:Sb (Qf o) (K8 l i) ds xs env0 e)
   (h:WO P H.length N l.toArray [o] e H (Y6 (up e d x) H')):K_ P N l ds xs env0 i H H'
variable {env0:Env}
theorem K_.use{l:AA Oper}{G:AA Nat}{xs:AA A}{i:Nat}{H:Qb}(t:K_ P N l G xs env0 i H H'){K:Act->World->Prop}{a:Act}{o:Oper}(X:l[i]?=some o)
  (p:AU fr ro U H w)(hN:a.tmps.size=N)(B:ID fr a.defers w)(R:D5 rd fr w)
  (hD:∀j∈Qf o,∀s x,G[j]?=some s->xs[j]?=some x->VR ro U w x (a.tmps.getD s undef))
  (hE:∀s,G.contains s=false->VR ro U w (lk env0 s) (a.tmps.getD s undef))(hP:∀j s,(K8 l i).contains j=true->G[j]?=some s->VR ro U w (lk env0 s) (a.tmps.getD s undef))
  (hK:∀v w' ro' τ d x,o.dst=some d->xs[i]?=some x->VR ro' (U++τ) w' x ((a.put o.dst v).tmps.getD d undef)->AU fr ro' (U++τ) H' w'->Qm fr ro w ro' w'->K (a.put o.dst v) w'):
  wpOpIn (WF rd) 0 P l.toArray Q i K a w:=by
 obtain⟨y,e,d,x,O,hd,hx,hs,h⟩:=t;obtain rfl:y=o:=XX (O.symm.trans X);have z:BL fr ro U H e N a w:=by
  refine⟨p,?_,hN,B⟩;intro s;clear h
  induction hs with
  |nil=>exact trivial
  | @dep j s1 u r k g h3 _ ih=>
   unfold lk;cases t:Nat.beq s s1 with
   |false=>exact ih
   |true=>
    obtain rfl:=XO t
    grind
  | @old s1 u r k g _ ih=>
   unfold lk;cases t:Nat.beq s s1 with
   |false=>exact ih
   |true=>
    obtain rfl:=XO t
    grind
  | @pre j s1 u r k g h3 _ ih=>
   unfold lk;cases t:Nat.beq s s1 with
   |false=>exact ih
   |true=>
    obtain rfl:=XO t
    grind
 have E:=h rd fr ro U a w z R;have fin:∀v w',D9 H.length fr ro U w N a.defers (Y6 (up e d x) H') .normal (a.put y.dst v) w'->K (a.put y.dst v) w':=by
  rintro v w' ⟨_,W,H2,ro',σ',aa,_,⟨_,rfl,rfl⟩,r',m,ht,_,L⟩;have hσ:σ'=U++σ'.drop H.length:=by
   conv=>lhs;rw[<- Xy H.length σ']
   rw[ht, <- p.len,X6]
  have J:=r'.env d;unfold lk at J;rw[VB]at J;rw[hσ]at J;refine hK v w' ro' (σ'.drop H.length) d x hd hx J ?_ m;rw[<- hσ];exact r'.sim.frMono L.sub
 unfold wpOpIn;have V:l.toArray[i]?=some y:=by simpa using X
 rw[V];simp only;unfold CK wpListIn at E;split at E
 .rename_i hw;rw[Vp hw];obtain⟨T,E⟩:=E;refine⟨T,?_⟩;have g:=pn (by
   intro a' w' q;unfold wpListIn at q;obtain⟨_,_,_,_,_,_,_,_,_,_,_,q,_⟩:=q;exact q) E
  generalize(y.semAt (WF rd).round a.eval).run P w=res at*;cases res with
  |ok n w'=>
   cases n with
   |value v=>exact fin _ _ g.1
   |skip=>exact fin _ _ g.1
   |defer df=>
    exfalso;obtain⟨⟨_,_,_,_,_,_,_,_,_,_,_,q,_⟩,_⟩:=g;have:=congrArg List.length q
    revert this
    cases y.dst<;>simp[Act.put]
   |enter f F=>
    refine⟨g.1,CallsIn.mono g.2 (λe M m=>?_)⟩;cases e with
    |returned v=>exact fin _ _ m.1
    |panicked c=>obtain⟨u,_,_,_,_,_,k,⟨rfl,_⟩,_⟩:=m;exact k.elim
    |outgrown=>obtain⟨a1,w1,u,_,_,_,_,_,k,⟨rfl,_⟩,_⟩:=m;exact k.elim
   |row r F=>
    exact⟨g.1,RowsIn.mono g.2 (λ_ _ m=>fin _ _ m.1)⟩
   |round l f tmps assign Y=>
    refine⟨g.1,RoundIn.mono g.2 (λe M m=>?_)⟩;cases e with
    |returned v=>exact fin _ _ m.1
    |panicked c=>obtain⟨u,_,_,_,_,_,k,⟨rfl,_⟩,_⟩:=m;exact k.elim
    |outgrown=>obtain⟨a1,w1,u,_,_,_,_,_,k,⟨rfl,_⟩,_⟩:=m;exact k.elim
   |_=>exact g.elim
  |halt x w'=>
   cases x with
   |panic v=>obtain⟨u,_,_,_,_,_,k,⟨rfl,_⟩,_⟩:=g;exact k.elim
   |_=>exact g.elim
 simp_all[wpListIn]
theorem least{p:Nat->Prop}(a:∀i,p i\/ ¬p i):∀n,p n->∃i,i<=n/\p i/\ ∀j,j<i->¬p j:=by
 intro n
 induction n using Nat.strongRecOn with
 |ind n d=>
  grind
def Bz(L:Array Bool)(i:Nat):Prop:=L[i]?=some true
variable {L:Array Bool}
theorem S6{l:AA Oper}(p:L.size=l.length){i:Nat}:
  i∈Region.ready .any l.toArray L↔ ∃o,l[i]?=some o/\ ¬Bz L i/\ ∀j∈Qf o,Bz L j:=by
 unfold Region.ready;simp only[Xe,List.mem_range,XU,XF];have d:∀j,L.getD j false=true↔Bz L j:=by
  intro j;unfold Bz;rw[Array.getD_eq_getD_getElem?]
  grind
 constructor
 .rintro⟨f,h,a⟩;refine⟨l[i],(by simp),?_,?_⟩
  .grind
  .rw[XI f]at a;simp only[Xk,Option.getD_some,Array.all_eq_true']at a;intro j g;unfold Qf at g
   grind
 .rintro⟨o,f,h,a⟩;have k:i<l.length:=(by grind);refine⟨k,?_,?_⟩
  .grind
  .rw[f];simp only[Xk,Option.getD_some,Array.all_eq_true'];intro e m;cases n:Region.binds .any e with
   |false=>simp
   |true=>
    have:=(d _).2 (a e.on (by unfold Qf;grind))
    grind
theorem J2{i j:Nat}(hi:i<L.size):Bz (L.setIfInBounds i true) j↔j=i\/Bz L j:=by
 grind[Bz]
def KY(L:Array Bool):Nat:=L.toList.countP (!·)
theorem jy{i:Nat}(hi:i<L.size)(h:¬Bz L i):KY (L.setIfInBounds i true)+1=KY L:=by
 unfold KY;have a:L.toList[i]=false:=by
  grind[Bz]
 grind
theorem oM{i:Nat}(hi:i<L.size)(h:¬Bz L i):0<KY L:=by have:=jy hi h;omega
inductive KJ (l:List Oper) (m:Nat):Nat->Prop
 |one {o:Oper} {j:Nat} (ho:l[m]?=some o) (hj:j∈Qf o):KJ l m j
 |step {o:Oper} {i j:Nat} (h:KJ l m i) (ho:l[i]?=some o) (hj:j∈Qf o):KJ l m j
def WW(l:AA Oper):Nat->AA Nat->AA Nat
 |0,S=>S
 |j+1,S=>WW l j (bif S.contains j then S++(match l[j]? with|some o=>Qf o|none=>[])else S)
theorem cF{l:AA Oper}{m:Nat}:∀(n:Nat) (S:AA Nat),(∀j∈S,KJ l m j)->∀j∈WW l n S,KJ l m j
 |0,S,h,j,hj=>h j hj
 |n+1,S,h,j,hj=>by
  refine cF n _ ?_ j hj;intro i hi;cases q:S.contains n with
  |false=>grind
  |true=>
   rw[q]at hi;rcases Vz.1 hi with z|z
   .exact h i z
   .cases ho:l[n]? with
    |none=>grind
    |some o=>rw[ho]at z;exact .step (by grind) ho z
def FZ(ds:AA Nat)(xs:AA A)(env0:Env):Env:=ds.zip xs++env0
theorem vd{a:AA Nat}{xs:AA A}(hl:a.length=xs.length)(s:Nat):
  (∃(j:Nat) (x:A),a[j]?=some s/\xs[j]?=some x/\lk (FZ a xs env0) s=x)\/(a.contains s=false/\lk (FZ a xs env0) s=lk env0 s):=by
 unfold FZ
 induction a generalizing xs with
 |nil=>simp
 |cons d a e=>
  cases xs with
  |nil=>simp at hl
  |cons x xs=>
   simp[XY,Nat.add_right_cancel_iff]at hl;simp only[List.zip_cons_cons,VG,lk];cases h:Nat.beq s d with
   |true=>
    obtain rfl:=XO h;left;exact⟨0,x,rfl,rfl,by simp⟩
   |false=>
    have g:s≠d:=λq=>by simp_all
    rcases e hl with⟨j,y,f,i,k⟩|⟨f,i⟩
    .left;exact⟨j+1,y,by grind,by grind,by grind⟩
    grind
def Ar.nodupB:AA Nat->Bool
 |[]=>true
 |x::r=> !r.contains x&&Ar.nodupB r
def Ar.goB(l:AA Oper)(m:Nat):Nat->AA Oper->Bool
 |_,[]=>true
 |i,o::r=>(Qf o).all (λj=>Nat.blt j i)&&(bif Nat.beq i m then(List.range m).all (λj=>(WW l m (Qf o)).contains j)else bif Nat.blt m i then(Qf o).contains (i-1)else true)&&Ar.goB l m (i+1) r
def Ar.loB(m k:Nat)(los:AA Nat)(hs:AA Bool):Nat->AA Oper->Bool
 |_,[]=>(List.range k).all λj=>(List.range m).any λi=>hs.getD i false&&Nat.beq (los.getD i 0) j
 |i,o::r=>(bif Nat.blt i m then
   (Nat.beq (los.getD i 0) 0||(Qf o).any (λj=>Nat.blt j m&&Nat.ble (los.getD i 0) (los.getD j 0+(if hs.getD j false then 1 else 0))))
   &&(!hs.getD i false||(Nat.blt (los.getD i 0) k&&(List.range m).all (λj=> !hs.getD j false|| !Nat.beq (los.getD i 0) (los.getD j 0)||Nat.beq i j)))
  else true)&&Ar.loB m k los hs (i+1) r
def Ar(l:AA Oper)(m k N:Nat)(ds los:AA Nat)(hs:AA Bool):Bool:=
 Nat.ble m l.length&&(ds.length==m)&&(l.take m).map (·.dst)==ds.map some&&ds.all (λd=>Nat.blt d N)&&Ar.nodupB ds
 &&Ar.goB l m 0 l&&(Ar.loB m k los hs 0 l)
theorem sb{a:AA Nat}(h:Ar.nodupB a=true):∀(i j d:Nat),a[i]?=some d->a[j]?=some d->i=j:=by
 induction a with
 |nil=>simp
 |cons x r e=>
  simp[Ar.nodupB,XU]at h
  grind
theorem pJ{l:AA Oper}:∀(r:AA Oper) (b:Nat),Ar.goB l m b r=true->∀(i:Nat) (o:Oper),r[i]?=some o->
  (∀j∈Qf o,j<b+i)/\(b+i=m->∀j,j<m->j∈WW l m (Qf o))/\(m<b+i->b+i-1∈Qf o):=by
 intro r
 induction r with
 |nil=>simp
 |cons x r f=>
  intro b h i o d;simp only[Ar.goB]at h;cases i with
  |zero=>
   simp at d;refine⟨λj a=>?_,λe j a=>?_,λe=>?_⟩
   .simp_all
   .simp_all
   .have k:Nat.beq b m=false:=by
     cases q:Nat.beq b m with
     |false=>rfl
     |true=>simp_all
    have g:Nat.blt m b=true:=by simp_all
    grind
  |succ i=>
   grind
inductive Ob (P:Program) (N:Nat) (l:List Oper) (ds:List Nat) (xs:List A) (env0:Env):Nat->List (List (Qb×Qb))->Prop
 |nil {i:Nat}:Ob P N l ds xs env0 i []
 |cons {i:Nat} {s:List (Qb×Qb)} {r:List (List (Qb×Qb))} (h:∀p∈s,K_ P N l ds xs env0 i p.1 p.2) (k:Ob P N l ds xs env0 (i+1) r):Ob P N l ds xs env0 i (s::r)
theorem Ob.get{l:AA Oper}{d:AA Nat}{xs:AA A}{b:Nat}{a:AA (AA (Qb×Qb))}(h:Ob P N l d xs env0 b a):
  ∀(i:Nat) (s:AA (Qb×Qb)),a[i]?=some s->∀p∈s,K_ P N l d xs env0 (b+i) p.1 p.2:=by
 induction h with
 |nil=>simp
 | @cons b1 s1 r1 h _ ih=>
  grind
theorem Ob.st0{l:AA Oper}{a:AA Nat}{xs:AA A}{i:Nat}:∀p∈([]:AA (Qb×Qb)),K_ P N l a xs env0 i p.1 p.2:=by
 simp
theorem Ob.stC{l:AA Oper}{a:AA Nat}{xs:AA A}{i:Nat}{H:Qb}{r:AA (Qb×Qb)}(h:K_ P N l a xs env0 i H H')
  (k:∀p∈r,K_ P N l a xs env0 i p.1 p.2):∀p∈(H,H')::r,K_ P N l a xs env0 i p.1 p.2:=by
 grind
theorem DI.nil{H:Qb}:DI H [] []:=trivial
theorem DI.cons{H:Qb}{d f:AA A}{a b:A}(e:az=a::d)(h:W9 H a b)(k:DI H d f):DI H az (b::f):=by subst e;exact⟨h,k⟩
section
variable {P:Program} {o:Oper} {env:Env} {H:Qb} {α:Type} {e:α->AA A}
end
inductive PL (P:Program):List Field->List (Nat×Nat)->Prop
 |nil:PL P [] []
 |cons {f:Field} {n:Nat} {fs:List Field} {pl:List (Nat×Nat)} (h:∀w,(sizeOf f.type).run P w=.ok n w) (k:PL P fs pl):PL P (f::fs) ((f.offset,n)::pl)
theorem PL.run{P:Program}{fs:AA Field}{a:AA (Nat×Nat)}(h:PL P fs a):∀w,(fs.mapM λf=>(do pure (f.offset, <- sizeOf f.type):Sem (Nat×Nat))).run P w=.ok a w:=by
 induction h with
 |nil=>intro w;rfl
 |cons h _ ih=>
  simp_all
structure Sf (P:Program) (t:TypeId) (pl:List (Nat×Nat)):Prop where
 un:∃fs:List Field,(∀w,(underlying t).run P w=.ok (.struct fs.toArray) w)/\PL P fs pl
section
variable {P:Program} {o:Oper} {env:Env} {H:Qb}
def Na(env:Env)(pl:AA (Nat×Nat)):AA A->AA (Nat×Operand)->AB (AA A)
 |cs,[]=>some cs
 |cs,(i,x)::r=>match pl[i]? with
  |none=>none
  |some (off,size)=>bif Yr (AM env x)&&Nat.beq (YD (AM env x)).length size&&Nat.ble (off+size) cs.length then Na env pl (splice cs off (YD (AM env x))) r else none
theorem kI{fr ro:Nat->Prop}{U:AZ}{N:Nat}{a:Act}{w:World}(r:BL fr ro U H env N a w){d:AA (Nat×Nat)}:∀(parts:AA (Nat×Operand)) (cs:AA A) (l:AA Value) (cs':AA A),
  LR ro U w cs l->Na env d cs parts=some cs'->
  ∃l',Instr.fill (d.toArray[·]?) l.toArray (parts.map λp=>(p.1,a.eval p.2))=some l'.toArray/\LR ro U w cs' l'
 |[],cs,l,cs',h,q=>by
  cases q;exact⟨l,rfl,h⟩
 |(i,x)::rest,cs,l,cs',h,q=>by
  unfold Na at q;cases hp:d[i]? with
  |none=>grind
  |some p=>
   obtain⟨off,size⟩:=p;rw[hp]at q;simp at q;cases hc:(Yr (AM env x)&&Nat.beq (YD (AM env x)).length size&&Nat.ble (off+size) cs.length)with
   |false=>grind
   |true=>
    rw[hc]at q;simp[XU]at hc;obtain⟨⟨c1,c2⟩,c3⟩:=hc;obtain⟨m,q1,q2⟩:=(Ql r x).cells c1;have hm:m.length=size:=by rw[q2.length];simp_all
    have hl:=h.length;obtain⟨l',e,f⟩:=kI r rest _ (splice l off m) cs' (h.splice off q2) q
    grind[rB,Nat.le_of_ble_eq_true]
theorem AK.build{t:TypeId}{z:Value}{zs cs:AA A}{d:AA (Nat×Nat)}{parts:AA (Nat×Operand)}(h:∀w,(zeroValue t).run P w=.ok z w)(g:ZR (.agg zs) z)(i:Sf P t d)
  (f:o.op=.build t parts.toArray:=by exact rfl)(hf:Na env d zs parts=some cs:=by exact rfl):AK P o env H (.agg cs):=by
 intro x n U N a w r;obtain⟨u,k,p⟩:=i.un;obtain⟨l,rfl,s⟩:=g n U w;obtain⟨e,m,q⟩:=kI r parts zs l cs s hf;refine⟨.agg e.toArray,?_,e,rfl,q⟩;have j:=p.run w;simp only[execOp,f,Instr.build,Vi,h,Result.andThen,k,XG,List.mapM_toArray,Sem.run_map,j,Value.cells,m,Vj]
end
section
variable {P:Program} {o:Oper} {env:Env} {H:Qb}
theorem YS{x:Operand}{a:A}(i:o.op=.nilCheck x)(g:AM env x=a:=by exact rfl)(hk:(match a with|.ptr _ _=>true|.rp _=>true|_=>false)=true:=by exact rfl):AK P o env H a:=by
 intro j k U N ac w r;have h:=Ql r x;rw[g]at h;cases a<;>first|(cases hk)|skip
 .obtain⟨b,e,f⟩:=h;refine⟨_,?_,b,e,rfl⟩
  simp_all[execOp]
 .obtain⟨b,d,e,f⟩:=h;refine⟨_,?_,b,d,rfl,f⟩
  simp_all[execOp]
end
mutual
def BP(i k:Nat)(es:AA (AA A)):A->A->Prop
 |.agg az,b=>∃bs,b=.agg bs/\DY i k es az bs
 |.fn f x c,b=>∃x' c',b=.fn f x' c'/\DY i k es x x'/\DY i k es c c'
 |.iface t a,b=>∃a',b=.iface t a'/\BP i k es a a'
 |.tup az,b=>∃bs,b=.tup bs/\DY i k es az bs
 |.osl j o n k',b=>b=.osl j o n k'\/(j=i/\o=0/\k'=k/\n=es.length/\b=.rsl k es)
 |.nils,b=>b=.nils\/ ∃k',b=.rsl k' []
 |a,b=>b=a
def DY(i k:Nat)(es:AA (AA A)):AA A->AA A->Prop
 |[],b=>b=[]
 |a::az,b=>∃a' as',b=a'::as'/\BP i k es a a'/\DY i k es az as'
end
mutual
theorem BP.refl{i k:Nat}{es:AA (AA A)}:∀a:A,BP i k es a a
 |.agg az=>⟨az,rfl,DY.refl az⟩
 |.fn _ x c=>⟨x,c,rfl,DY.refl x,DY.refl c⟩
 |.iface _ a=>⟨a,rfl,BP.refl a⟩
 |.tup az=>⟨az,rfl,DY.refl az⟩
 |.osl _ _ _ _=>.inl rfl
 |.nils=>.inl rfl
 |.any=>rfl
 |.bool _=>rfl
 |.int _ _=>rfl
 |.str _=>rfl
 |.nilp=>rfl
 |.ptr _ _=>rfl
 |.rp _=>rfl
 |.rsl _ _=>rfl
 |.nilf=>rfl
 |.nilif=>rfl
 |.map _=>rfl
 |.nilm=>rfl
theorem DY.refl{i k:Nat}{es:AA (AA A)}:∀az:AA A,DY i k es az az
 |[]=>rfl
 |a::az=>⟨a,az,rfl,BP.refl a,DY.refl az⟩
end
theorem BP.agg{i k:Nat}{es:AA (AA A)}{az bs:AA A}(h:DY i k es az bs):BP i k es (.agg az) (.agg bs):=⟨bs,rfl,h⟩
theorem BP.tup{i k:Nat}{es:AA (AA A)}{az bs:AA A}(h:DY i k es az bs):BP i k es (.tup az) (.tup bs):=⟨bs,rfl,h⟩
theorem BP.iface{i k:Nat}{es:AA (AA A)}{t:Nat}{a b:A}(h:BP i k es a b):BP i k es (.iface t a) (.iface t b):=⟨b,rfl,h⟩
theorem BP.own{i n:Nat}(hn:n=es.length):BP i k es (.osl i 0 n k) (.rsl k es):=.inr (by grind)
theorem BP.nil{i k':Nat}:BP i k es .nils (.rsl k' []):=.inr ⟨k',rfl⟩
theorem DY.cons{i:Nat}{a b:A}{bs:AA A}(h:BP i k es a b)(q:DY i k es az bs):DY i k es (a::az) (b::bs):=⟨b,bs,rfl,h,q⟩
mutual
theorem jY{i k:Nat}{es:AA (AA A)}{ro ro':Nat->Prop}{U:AZ}{w:World}(ext:BI ro U w ro' U w)
  (hf:∀v,VR ro U w (.osl i 0 es.length k) v->VR ro' U w (.rsl k es) v):∀(a b:A) (v:Value),BP i k es a b->VR ro U w a v->VR ro' U w b v
 |.agg az,b,v,h,q=>by
  obtain⟨bs,rfl,h⟩:=h;obtain⟨l,rfl,q⟩:=q;exact⟨l,rfl,Se ext hf az bs l h q⟩
 |.fn f x c,b,v,h,q=>by
  obtain⟨x',c',rfl,h1,h2⟩:=h;obtain⟨l,l',rfl,q1,q2⟩:=q;exact⟨l,l',rfl,Se ext hf x x' l h1 q1,Se ext hf c c' l' h2 q2⟩
 |.iface t a,b,v,h,q=>by
  obtain⟨a',rfl,h⟩:=h;obtain⟨x,rfl,q⟩:=q;exact⟨x,rfl,jY ext hf a a' x h q⟩
 |.tup az,b,v,h,q=>by
  obtain⟨bs,rfl,h⟩:=h;obtain⟨l,rfl,q⟩:=q;exact⟨l,rfl,Se ext hf az bs l h q⟩
 |.osl j o n k',b,v,h,q=>by
  rcases h with rfl|⟨rfl,rfl,rfl,rfl,rfl⟩
  .exact q.mono ext
  .exact hf v q
 |.nils,b,v,h,q=>by
  rcases h with rfl|⟨k',rfl⟩
  .exact q
  .obtain rfl:v=.slice none 0 0:=q;exact⟨none,0,rfl,XR _,.inl rfl⟩
 |.any,b,v,h,q=>by obtain rfl:b=_:=h;trivial
 |.bool _,b,v,h,q=>by obtain rfl:b=_:=h;exact q
 |.int _ _,b,v,h,q=>by obtain rfl:b=_:=h;exact q
 |.str _,b,v,h,q=>by obtain rfl:b=_:=h;exact q
 |.nilp,b,v,h,q=>by obtain rfl:b=_:=h;exact q
 |.ptr _ _,b,v,h,q=>by obtain rfl:b=_:=h;exact q.mono ext
 |.rp _,b,v,h,q=>by obtain rfl:b=_:=h;exact q.mono ext
 |.rsl _ _,b,v,h,q=>by obtain rfl:b=_:=h;exact q.mono ext
 |.nilf,b,v,h,q=>by obtain rfl:b=_:=h;exact q
 |.nilif,b,v,h,q=>by obtain rfl:b=_:=h;exact q
 |.map _,b,v,h,q=>by obtain rfl:b=_:=h;exact q.mono ext
 |.nilm,b,v,h,q=>by obtain rfl:b=_:=h;exact q
theorem Se{i k:Nat}{es:AA (AA A)}{ro ro':Nat->Prop}{U:AZ}{w:World}(ext:BI ro U w ro' U w)
  (hf:∀v,VR ro U w (.osl i 0 es.length k) v->VR ro' U w (.rsl k es) v):∀(az bs:AA A) (l:AA Value),DY i k es az bs->LR ro U w az l->LR ro' U w bs l
 |[],bs,l,h,q=>by obtain rfl:bs=[]:=h;exact q
 |a::az,bs,l,h,q=>by
  obtain⟨a',as',rfl,h1,h2⟩:=h;obtain⟨v,l',rfl,q1,q2⟩:=q;exact⟨v,l',rfl,jY ext hf a a' v h1 q1,Se ext hf az as' l' h2 q2⟩
end
def Y_(i k:Nat)(es:AA (AA A))(x y:AR):Prop:=y=x\/ ∃t cs cs',x=.cells t cs/\y=.cells t cs'/\DY i k es cs cs'
def CE(i k:Nat)(es:AA (AA A)):Qb->Qb->Prop
 |[],h=>h=[]
 |x::r,h=>∃y r',h=y::r'/\Y_ i k es x y/\CE i k es r r'
def Aw(i k:Nat)(es:AA (AA A))(env:Env):Env->Prop
 |[]=>True
 |(s,a)::r=>BP i k es (lk env s) a/\Aw i k es env r
theorem CE.nil{i:Nat}:CE i k es [] []:=rfl
theorem CE.keep{i:Nat}{x:AR}{r r':Qb}(h:CE i k es r r'):CE i k es (x::r) (x::r'):=⟨x,r',rfl,.inl rfl,h⟩
theorem CE.cells{i k t:Nat}{es:AA (AA A)}{cs cs':AA A}{r r':Qb}(q:DY i k es cs cs')(h:CE i k es r r'):CE i k es (.cells t cs::r) (.cells t cs'::r'):=⟨_,r',rfl,.inr (by grind),h⟩
theorem CE.get{i k:Nat}{es:AA (AA A)}:∀{H H':Qb},CE i k es H H'->∀(j:Nat) (y:AR),H'[j]?=some y->∃x,H[j]?=some x/\Y_ i k es x y
 |[],_,h,j,y,q=>by obtain rfl:_=[]:=h;simp at q
 |x::r,_,h,j,y,q=>by
  obtain⟨y',r',rfl,h1,h2⟩:=h;cases j with
  |zero=>grind
  |succ j=>obtain⟨x',p1,p2⟩:=h2.get j y q;grind
theorem CE.len{i k:Nat}{es:AA (AA A)}:∀{H H':Qb},CE i k es H H'->H'.length=H.length
 |[],_,h=>by obtain rfl:_=[]:=h;rfl
 |x::r,_,h=>by obtain⟨y',r',rfl,h1,h2⟩:=h;simp[h2.len]
theorem Y_.live{i k:Nat}{es:AA (AA A)}{x y:AR}(h:Y_ i k es x y):y.live=x.live:=by
 rcases h with rfl|⟨t,d,a,rfl,rfl,_⟩<;>rfl
theorem Ji{H:Qb}{i t:Nat}(ov:Env)(hi:Nat.ble h0 i=true)(hH:H[i]?=some (.row t k es))(T:Aw i k es env ov)(E:CE i k es (H.set i .dead) H'):Le h0 env H (ov++env) H':=by
 intro fr P U N a w r
 let ro':Nat->Prop:=λb=>P b\/U[i]?=some (some b)
 have hown:=λb h=>r.sim.own i b _ h hH rfl;have ext:BI P U w ro' U w:=⟨λ_ q=>.inl q,λ_ _=>rfl,λ_ _ q=>q,λ_ _ q=>q⟩;have hf:∀v,VR P U w (.osl i 0 es.length k) v->VR ro' U w (.rsl k es) v:=by
  intro v h;rcases h with⟨h0,h⟩|⟨b,p,G,t',m,g,h,n,⟨u,aa⟩,h4,R⟩
  .have:es=[]:=(by grind);subst this;exact⟨none,0,h,XR _,.inl rfl⟩
  .refine⟨_,G,h,u,?_⟩;by_cases he:es=[]
   .exact .inl he
   .right;have hc:0<G:=Vb (by grind) u;obtain rfl:=n hc;obtain⟨l,Q,M⟩:=r.sim.blk i _ _ g hH;refine⟨b,0,by simp,.inr g,?_⟩;have:=Jc (pre:=[]) (by simpa using Q) M;exact this.keep ⟨λ_ q=>.inl q,λ_ _=>rfl,λ_ _ q=>q,λ_ _ q=>q⟩ rfl
 have f:∀(j:Nat) (y:AR),H'[j]?=some y->y≠ .dead->j≠i/\ ∃x,H[j]?=some x/\Y_ i k es x y:=by
  intro j y h V;obtain⟨x,g,n⟩:=E.get j y h;by_cases e:j=i
  .subst e;rw[Xb]at g;simp only[if_true]at g;split at g
   .cases g;rcases n with rfl|⟨_,_,_,q,_,_⟩
    .grind
    .cases q
   .simp at g
  grind
 refine⟨ro',U,⟨⟨by rw[E.len,X2];exact r.sim.len,r.sim.roOk.to (λ_ q=>.inl q) (λ_ _=>rfl) ?_,r.sim.frLt,?_,?_,?_,?_,r.sim.hidTo (· = ·) Yd (XR _) (λj b x c Q M q3 q4=>q4.elim id λq=>((r.sim.hid j b x c Q M q3).ne i c _ q hH rfl rfl).elim) (by simp) λj d y X Y g3=>.inl ?_⟩,?_,r.size,r.defers⟩,λ_ q=>.inl q,rfl⟩
 rotate_left 5
 .obtain⟨_,x,g4,g5⟩:=f j y Y (bF g3);exact⟨j,x,rfl,X,g4,λz=>by rw[<- g5.live];exact z,λc q=>by rcases g5 with rfl|⟨t,cs,J,rfl,rfl,_⟩;exact q;exact q.elim⟩
 rotate_left 1
 .rintro b (q|q)
  .exact r.sim.roLt b q
  grind
 .rintro b (q|q)
  .exact r.sim.roFr b q
  grind
 .intro j b v g n u;obtain⟨e,x,n,B⟩:=f j v n (Hq u);have hx:x.live=true:=by rw[<- B.live];exact u
  obtain⟨F,L,p3⟩:=r.sim.own j b x g n hx;refine⟨F,?_,p3⟩;rintro(q|q)
  .exact L q
  .exact e (r.sim.inj j i b x _ g q n hH hx rfl)
 .intro j j' b v v' g n u h4 R h6;obtain⟨_,x,F,L⟩:=f j v u (Hq R);obtain⟨_,x',W,O⟩:=f j' v' h4 (Hq h6);exact r.sim.inj j j' b x x' g n F W (by rw[<- L.live];exact R) (by rw[<- O.live];exact h6)
 .intro j s v g n;by_cases V:v≠ .dead
  .obtain⟨_,x,F,L⟩:=f j v n V;have B:=r.sim.blk j s x g F;rcases L with rfl|⟨t,cs,J,rfl,rfl,q⟩
   .exact B.keep ext (λ_ _ _=>rfl) (λ_ _ _ _=>rfl)
   .cases s with
    |none=>exact B.elim
    |some b=>
     obtain⟨l,e1,e2,e3⟩:=B;exact⟨l,e1,Se ext hf cs J l q e2,e3⟩
  .obtain rfl:v=.dead:=Classical.not_not.1 V;trivial
 .intro s
  induction ov with
  |nil=>exact(r.env s).mono ext
  |cons p ov ih=>
   obtain⟨s1,a1⟩:=p;obtain⟨X,Y⟩:=T;simp only[VG,lk];cases q:Nat.beq s s1 with
   |true=>
    obtain rfl:=XO q;exact jY ext hf _ _ _ X (r.env s)
   |false=>exact ih Y
theorem Aw.nil{i:Nat}:Aw i k es env []:=trivial
theorem Aw.cons{i s:Nat}{a b:A}{r:Env}(h:lk env s=a)(q:BP i k es a b)(g:Aw i k es env r):Aw i k es env ((s,b)::r):=⟨h▸q,g⟩
def BT(P:Program)(env:Env)(H:Qb)(l:ResultVar)(x:A):Prop:=
 ∀fr ro U N a w,BL fr ro U H env N a w->∃v,((match l with
  |.tmp t=>pure (a.tmps.getD t undef)
  |.cell b t=>do loadVar t (<- asAddr (a.tmps.getD b undef)):Sem Value)).run P w=.ok v w/\VR ro U w x v
def Aa(P:Program)(env:Env)(H:Qb):AA ResultVar->AA A->Prop
 |[],xs=>xs=[]
 |l::ls,xs=>∃x xs',xs=x::xs'/\BT P env H l x/\Aa P env H ls xs'
section
variable {P:Program} {fn:Func} {env:Env} {H:Qb}
theorem BT.tmp{t:Nat}{x:A}(d:lk env t=x:=by exact rfl):BT P env H (.tmp t) x:=
 λfr ro U N a w r=>⟨a.tmps.getD t undef,rfl,d▸r.env t⟩
theorem BT.cell{b t:Nat}{p x:A}{cs:AA A}(j:∀w,(isAgg t).run P w=.ok false w)(e:BD H p (x::cs))(i:lk env b=p:=by exact rfl):BT P env H (.cell b t) x:=by
 intro f h U N a w r;have d:=r.env b;rw[i]at d;obtain⟨m,g,l,⟨y,k,_,n⟩,_⟩:=e f h U w _ r.sim d
 simp_all[asAddr,loadVar]
theorem sr{b t n:Nat}{p:A}{cs:AA A}(q:∀w,(isAgg t).run P w=.ok true w)(x:∀w,(sizeOf t).run P w=.ok n w)(f:BD H p cs)(k:lk env b=p:=by exact rfl)(hl:(cs.take n).length=n:=by exact rfl):
  BT P env H (.cell b t) (.agg (cs.take n)):=by
 intro g j U N a w r;have d:=r.env b;rw[k]at d;obtain⟨u,i,s,h⟩:=f g j U w _ r.sim d;obtain⟨l,e,_,m⟩:=YG (P:=P) 0 (by simpa using h.take n);refine⟨.agg l.toArray,?_,l,rfl,e⟩
 simp_all[asAddr,loadVar,loadCells]
theorem Qk{b t n i:Nat}{cs:AA A}(a:∀w,(isAgg t).run P w=.ok true w)(d:∀w,(sizeOf t).run P w=.ok n w)(e:lk env b=.ptr i 0)(hH:H[i]?=some (.cells T cs))(hl:cs.length=n):
  BT P env H (.cell b t) (.agg cs):=by
 have:=sr a d (BD.cells hH rfl) e (by grind)
 grind
theorem W5{b t i:Nat}{x:A}(ha:∀w,(isAgg t).run P w=.ok false w)(hx:lk env b=.ptr i 0)(hH:H[i]?=some (.cells T [x])):BT P env H (.cell b t) x:=
 BT.cell ha (BD.cells hH rfl) hx
theorem Aa.nil:Aa P env H [] []:=rfl
theorem Aa.cons{l:ResultVar}{ls:AA ResultVar}{x:A}{xs:AA A}(h:BT P env H l x)(k:Aa P env H ls xs):Aa P env H (l::ls) (x::xs):=⟨x,xs,rfl,h,k⟩
theorem Aa.run{fr ro:Nat->Prop}{U:AZ}{N:Nat}{a:Act}{w:World}(r:BL fr ro U H env N a w):∀{ls:AA ResultVar} {xs:AA A},Aa P env H ls xs->
  ∃vs:AA Value,(ls.mapM λl=>(match l with
   |.tmp t=>pure (a.tmps.getD t undef)
   |.cell b t=>do loadVar t (<- asAddr (a.tmps.getD b undef)):Sem Value)).run P w=.ok vs w/\LR ro U w xs vs
 |[],_,h=>by obtain rfl:_=[]:=h;exact⟨[],rfl,rfl⟩
 |l::ls,_,h=>by
  obtain⟨x,xs,rfl,h1,h2⟩:=h;obtain⟨v,e1,e2⟩:=h1 fr ro U N a w r;obtain⟨vs,e3,e4⟩:=Aa.run r h2;refine⟨v::vs,?_,v,vs,rfl,e2,e4⟩
  simp_all
theorem Qo{ls:AA ResultVar}{xs:AA A}(h:fn.results=ls.toArray)(p:Nat.beq ls.length 1=false)(k:Aa P env H ls xs):Df P fn env H (.tup xs):=by
 intro j n U N a w r;obtain⟨vs,m,d⟩:=k.run r;have e:¬vs.length=1:=by
  have:∀{ls:AA ResultVar} {xs:AA A},Aa P env H ls xs->xs.length=ls.length:=by
   intro ls
   induction ls with
   |nil=>intro xs h;obtain rfl:xs=[]:=h;rfl
   |cons l ls f=>intro xs h;obtain⟨x,i,rfl,_,g⟩:=h;simp[f g]
  rw[d.length,this k];intro q;simp_all
 refine⟨.tuple vs.toArray,?_,vs,rfl,d⟩;unfold results;rw[List.mapM_toArray,Vi,Sem.run_map]
 grind[Result.andThen,Sem.run_pure]
theorem Yk{l:ResultVar}{x:A}(h:fn.results= #[l])(k:BT P env H l x):Df P fn env H x:=by
 intro g f U N a w r;obtain⟨vs,e,d⟩:=(Aa.cons k Aa.nil).run r;obtain⟨v,_,rfl,d,rfl⟩:=d;refine⟨v,?_,d⟩;unfold results;rw[h,show #[l]=[l].toArray from rfl];rw[List.mapM_toArray,Vi,Sem.run_map]
 erw [e]
 rfl
end
mutual
def FP:A->Bool
 |.bool _=>true
 |.int _ _=>true
 |.str _=>true
 |.agg cs=>H8 cs
 |_=>false
def H8:AA A->Bool
 |[]=>true
 |a::r=>FP a&&H8 r
end
mutual
def Q0:A->Value
 |.bool b=>.bool b
 |.int k n=>.int k n
 |.str s=>.string ⟨s.toArray⟩
 |.agg cs=>.agg (Jd cs).toArray
 |_=>.bool false
def Jd:AA A->AA Value
 |[]=>[]
 |a::r=>Q0 a::Jd r
end
mutual
theorem VR.val{ro:Nat->Prop}{U:AZ}{w:World}:∀{a:A} {v:Value},FP a=true->VR ro U w a v->v=Q0 a
 |.bool _,_,_,h=>h
 |.int _ _,_,_,h=>h
 |.str _,_,_,h=>h
 |.agg cs,v,hs,h=>by
  obtain⟨l,rfl,h⟩:=h;rw[Q0,LR.val hs h]
theorem LR.val{ro:Nat->Prop}{U:AZ}{w:World}:∀{az:AA A} {l:AA Value},H8 az=true->LR ro U w az l->l=Jd az
 |[],l,_,h=>h
 |a::r,l,hs,h=>by
  obtain⟨v,l',rfl,h1,h2⟩:=h;simp only[H8,XU]at hs;rw[Jd,VR.val hs.1 h1,LR.val hs.2 h2]
end
mutual
theorem Wl{ro:Nat->Prop}{U:AZ}{w:World}:∀{a:A},FP a=true->VR ro U w a (Q0 a)
 |.bool _,_=>rfl
 |.int _ _,_=>rfl
 |.str _,_=>rfl
 |.agg cs,hs=>⟨Jd cs,rfl,kd hs⟩
theorem kd{ro:Nat->Prop}{U:AZ}{w:World}:∀{az:AA A},H8 az=true->LR ro U w az (Jd az)
 |[],_=>rfl
 |a::r,hs=>by
  simp only[H8,XU]at hs;exact⟨_,_,rfl,Wl hs.1,kd hs.2⟩
end
open Go.MapKept
structure Jj (P:Program) (kt:TypeId) {α:Type} (ek:α->A):Prop where
 scl:∀x,FP (ek x)=true
 inj:∀x y,Q0 (ek x)=Q0 (ek y)->x=y
 check:∀(w:World) em x,(Instr.checkKey em 10000 kt (Q0 (ek x))).run P w=.ok () w
 find:∀(w:World) x (es:List MapEntry),(∀e∈es,∃y,e.key=Q0 (ek y))->
  ((Instr.findKey kt (Q0 (ek x)) es).run P w=.ok none w/\ ∀e∈es,e.key≠Q0 (ek x))\/ ∃j e,(Instr.findKey kt (Q0 (ek x)) es).run P w=.ok (some (j,e.val)) w/\es[j]?=some e/\e.key=Q0 (ek x)
 stays:∀(w:World) x,(Instr.keyThatStays (Q0 (ek x)) (Q0 (ek x))).run P w=.ok (Q0 (ek x)) w
variable {β:Type}
section
variable {P:Program} {kt:TypeId}
theorem Jj.plain{α:Type}{ek:α->A}{d:TypeDesc}(e:P.underlying kt=some d)(a:∀x,IsKey d (Q0 (ek x)))(f:∀x,FP (ek x)=true)(hi:∀x y,Q0 (ek x)=Q0 (ek y)->x=y):Jj P kt ek:=by
 refine⟨f,hi,λw g x=>run_checkKey e (a x) g 9999,λw x i h=>?_,λw x=>run_keyThatStays (a x)⟩
 grind[findNow_spec,run_findKey]
theorem Jj.int{q:IntKind}(hk:P.underlying kt=some (.int q)):Jj P kt (λn=>A.int q n):=
 Jj.plain hk (λx=>by rfl) (λ_=>rfl) (λx y h=>by simpa[Q0]using h)
theorem Jj.str(hk:P.underlying kt=some .string):Jj P kt A.str:=
 Jj.plain hk (λx=>by simp[IsKey,Q0]) (λ_=>rfl) (λx y h=>by simpa[Q0]using h)
theorem Jj.struct{α:Type}[DecidableEq α]{ek:α->A}{fs:Array Field}(G:P.underlying kt=some (.struct fs))(t:∀x,FP (ek x)=true)(hi:∀x y,Q0 (ek x)=Q0 (ek y)->x=y)
  (r:∀(w:World) em x,(Instr.checkKey em 10000 kt (Q0 (ek x))).run P w=.ok () w)
  (he:∀(w:World) x y,(Op.equal kt (Q0 (ek x)) (Q0 (ek y))).run P w=.ok (decide (x=y)) w)(s:∀x,Instr.sameBits 10000 (Q0 (ek x)) (Q0 (ek x))=true):Jj P kt ek:=by
 refine⟨t,hi,r,λw x a B=>?_,λw x=>by simp[Instr.keyThatStays,s x]⟩
 .have g:∀(a:AA MapEntry) (i:Nat),(∀e∈a,∃y,e.key=Q0 (ek y))->
    ((Instr.findAsking kt (Q0 (ek x)) a i).run P w=.ok none w/\ ∀e∈a,e.key≠Q0 (ek x))\/
    ∃j e,(Instr.findAsking kt (Q0 (ek x)) a i).run P w=.ok (some (i+j,e.val)) w/\a[j]?=some e/\e.key=Q0 (ek x):=by
   intro a
   induction a with
   |nil=>simp_all[Instr.findAsking]
   |cons e a p=>
    intro i d;obtain⟨y,h⟩:=d e (by simp);have l:=he w x y;by_cases f:x=y
    .subst f;exact .inr ⟨0,e,by simp[Instr.findAsking,h,l],rfl,h⟩
    .rcases p (i+1) (λz m=>d z (by simp[m]))with⟨k,q⟩|⟨j,n,k,q,u⟩
     .refine .inl ⟨by simp[Instr.findAsking,h,l,f,k],λz m=>?_⟩
      grind
     .exact .inr ⟨j+1,n,by simp[Instr.findAsking,h,l,f,k,Nat.add_assoc,Nat.add_comm 1 j],by grind,u⟩
  cases a with
  |nil=>simp_all[Instr.findKey,run_underlying,Instr.findNow]
  |cons e a=>
   have E:Instr.findNow (.struct fs) (Q0 (ek x)) (e::a) 0=none:=by
    rfl
   have F:(Instr.findKey kt (Q0 (ek x)) (e::a)).run P w=(Instr.findAsking kt (Q0 (ek x)) (e::a) 0).run P w:=by
    simp_all[Instr.findKey,run_underlying]
   grind
def Yv{α:Type}[DecidableEq α](l:AA (α×β))(k:α):AB β:=(l.find? λp=>decide (p.1=k)).map (·.2)
def QR{α:Type}[DecidableEq α](l:AA (α×β))(k:α)(v:β):AA (α×β):=bif l.any λp=>decide (p.1=k)then l.map λp=>bif p.1=k then(p.1,v)else p else l++[(k,v)]
def QH{α:Type}[DecidableEq α](l:AA (α×β))(k:α)(z:β):β:=(Yv l k).getD z
def JY{α:Type}[DecidableEq α](l:AA (α×β))(k:α):Bool:=l.any λp=>decide (p.1=k)
def Qt(ek:α->A)(ev:β->A)(l:AA (α×β)):AA (A×A):=l.map λp=>(ek p.1,ev p.2)
section
variable {α β:Type} [DecidableEq α] {ek:α->A} {ev:β->A} {ro:Nat->Prop} {U:AZ} {w:World} (K:Jj P kt ek)
include K
theorem jk:∀{l:AA (α×β)} {es:AA MapEntry},ER ro U w (Qt ek ev l) es->es.map (·.key)=l.map λp=>Q0 (ek p.1)
 |[],es,h=>by cases(show es=[]from h);rfl
 |p::l,es,h=>by
  obtain⟨e,l',rfl,h1,h2,h3⟩:=h;simp only[Vf];rw[VR.val (K.scl _) h1,jk h3]
theorem PC{l:AA (α×β)}{es:AA MapEntry}(h:ER ro U w (Qt ek ev l) es):∀e∈es,∃y,e.key=Q0 (ek y):=by
 intro e a;have:e.key∈es.map (·.key):=VC a;rw[jk K h]at this
 grind
theorem ER.find:∀{l:AA (α×β)} {es:AA MapEntry},ER ro U w (Qt ek ev l) es->∀(x:α),(es.map (·.key)).Nodup->
  ((∀e,e∈es->e.key≠Q0 (ek x))->Yv l x=none/\JY l x=false)/\
  (∀(j:Nat) (e:MapEntry),es[j]?=some e->e.key=Q0 (ek x)->JY l x=true/\ ∃v,Yv l x=some v/\VR ro U w (ev v) e.val)
 |[],es,h,x,_=>by
  cases(show es=[]from h);exact⟨λ_=>⟨rfl,rfl⟩,(by simp)⟩
 |p::l,es,h,x,hn=>by
  obtain⟨e0,l',rfl,h1,h2,h3⟩:=h;have hk:=VR.val (K.scl _) h1;simp[Vf,List.nodup_cons]at hn;obtain⟨a1,a2⟩:=ER.find h3 x hn.2;by_cases hp:p.1=x
  .grind[JY,Yv]
  .have e1:Yv (p::l) x=Yv l x:=by simp[Yv,hp]
   have f:JY (p::l) x=JY l x:=by simp[JY,hp]
   constructor
   .grind
   .intro j e a d;cases j with
    |zero=>
     simp[XD,Option.some.injEq]at a;subst a;exact absurd (K.inj _ _ (hk.symm.trans d)) hp
    |succ j=>grind
end
end
end Go.Sw
namespace Go.Sw
open Go.MapKept
section
variable {P:Program} {o:Oper} {env:Env} {H:Qb}
theorem Yn{T:Nat}(f:o.op=.makeMap T none:=by exact rfl):CD P o env H (.map H.length) (H++[.map []]):=by
 intro e d U N a w r;refine⟨.map (some w.heap.size),w.alloc (.map #[] 0),d,[some w.heap.size],?_,⟨w.heap.size,?_,rfl⟩,r.sim.alloc ⟨#[],0,Ys _ _,rfl,by simp,by simp,by simp⟩,Qm.alloc _ r.sim.roLt r.sim.frLt⟩
 .simp_all[execOp,Instr.makeMap]
 .rw[<- r.sim.len];simp
section
variable {T kt et:Nat} {α β:Type} [DecidableEq α] {ek:α->A} {ev:β->A} {x y:Operand} {i:Nat} {l:AA (α×β)} {k:α} {z0:β} {z:Value}
theorem le(K:Jj P kt ek){ro:Nat->Prop}{w:World}(m:P.underlying T=some (.map kt et))(s:∀w,(zeroValue et).run P w=.ok z w)(i:ZR (ev z0) z){b a:Nat}{es:Array MapEntry}
  (n:w.heap[b]?=some (.map es a))(he:ER ro [] w (Qt ek ev l) es.toList)(u:(es.toList.map (·.key)).Nodup):
  ∃v,(∀ck,(Instr.lookup T (.map (some b)) (Q0 (ek k)) ck).run P w=.ok (if ck then .tuple #[v,.bool (JY l k)]else v) w)/\VR ro [] w (ev (QH l k z0)) v:=by
 obtain⟨p,r⟩:=ER.find K he k u;rcases K.find w k es.toList (PC K he)with⟨f,g⟩|⟨j,e,f,g,t⟩
 .obtain⟨d,h⟩:=p g;refine⟨z,λck=>?_,?_⟩
  .simp[Instr.lookup,Vi,run_underlying m,Result.andThen,MapKept.run_getObj_map n,Vj,K.check,f,s,h]
  .rw[QH,d];exact i _ _ _
 .obtain⟨d,v,h,q⟩:=r j e g t;refine⟨e.val,λck=>?_,?_⟩
  .simp[Instr.lookup,Vi,run_underlying m,Result.andThen,MapKept.run_getObj_map n,Vj,K.check,f,d]
  .rw[QH,h];exact q
theorem Jr{h:β}(K:Jj P kt ek)(B:some (QH l k z0)=some h)(p:P.underlying T=some (.map kt et))(m:∀w,(zeroValue et).run P w=.ok z w)(e:ZR (ev z0) z)
  (E:o.op=.lookup T x y false:=by exact rfl)(hx:AM env x=.map i:=by exact rfl)(hH:H[i]?=some (.map (Qt ek ev l)):=by exact rfl)(hy:AM env y=ek k:=by exact rfl):AK P o env H (ev h):=by
 obtain rfl:=XX B;intro G R U N a w r;have f:=Ql r x;rw[hx]at f;obtain⟨b,j,F⟩:=f;have g:=Ql r y;rw[hy]at g;have Q:=VR.val (K.scl _) g;obtain⟨L,d,s,t,O,M,u⟩:=r.sim.blk i _ _ j hH;obtain⟨v,J,n⟩:=le K p m e s t u;refine⟨v,?_,n.mono ⟨λ_ q=>q,λ_ _=>rfl,λ_ _ q=>q,(by simp)⟩⟩
 simp_all[execOp]
theorem cR{h:β}(K:Jj P kt ek)(B:some (QH l k z0)=some h)(p:P.underlying T=some (.map kt et))(m:∀w,(zeroValue et).run P w=.ok z w)(e:ZR (ev z0) z)
  (E:o.op=.lookup T x y true:=by exact rfl)(hx:AM env x=.map i:=by exact rfl)(hH:H[i]?=some (.map (Qt ek ev l)):=by exact rfl)(hy:AM env y=ek k:=by exact rfl):AK P o env H (.tup [ev h,.bool (JY l k)]):=by
 obtain rfl:=XX B;intro G R U N a w r;have f:=Ql r x;rw[hx]at f;obtain⟨b,j,F⟩:=f;have g:=Ql r y;rw[hy]at g;have Q:=VR.val (K.scl _) g;obtain⟨L,d,s,t,O,M,u⟩:=r.sim.blk i _ _ j hH;obtain⟨v,J,n⟩:=le K p m e s t u;refine⟨.tuple #[v,.bool (JY l k)],?_,[v,.bool (JY l k)],rfl,v,_,rfl,n.mono ⟨λ_ q=>q,λ_ _=>rfl,λ_ _ q=>q,(by simp)⟩,_,_,rfl,rfl,rfl⟩
 simp_all[execOp]
theorem wv{h:β}(K:Jj P kt ek)(B:some (QH l k z0)=some h)(p:P.underlying T=some (.map kt et))(m:∀w,(zeroValue et).run P w=.ok z w)(e:ZR (ev z0) z)
  (E:o.op=.lookup T x y false:=by exact rfl)(hx:AM env x=.map i:=by exact rfl)(hH:H[i]?=some (.fmap (Qt ek ev l)):=by exact rfl)(hy:AM env y=ek k:=by exact rfl):AK P o env H (ev h):=by
 obtain rfl:=XX B;intro G R U N a w r;have f:=Ql r x;rw[hx]at f;obtain⟨b,j,F⟩:=f;have g:=Ql r y;rw[hy]at g;have Q:=VR.val (K.scl _) g;obtain⟨_,L,d,s,t,O,M,u⟩:=r.sim.blk i _ _ j hH;obtain⟨v,J,n⟩:=le K p m e s t u;refine⟨v,?_,n.mono ⟨λ_ q=>q,λ_ _=>rfl,λ_ _ q=>q,(by simp)⟩⟩
 simp_all[execOp]
theorem ER.append{ro:Nat->Prop}{U:AZ}{w:World}:∀{l m:AA (A×A)} {es fs:AA MapEntry},ER ro U w l es->ER ro U w m fs->ER ro U w (l++m) (es++fs)
 |[],m,es,fs,h,k=>by cases(show es=[]from h);exact k
 |p::l,m,es,fs,h,k=>by
  obtain⟨e,l',rfl,h1,h2,h3⟩:=h;exact⟨e,l'++fs,rfl,h1,h2,ER.append h3 k⟩
theorem ER.put(K:Jj P kt ek){ro:Nat->Prop}{w w':World}{v:β}{val:Value}(a:BI ro [] w ro [] w')(d:VR ro [] w (ev v) val):∀{l:AA (α×β)} {es:AA MapEntry} {j:Nat} {e:MapEntry},ER ro [] w (Qt ek ev l) es->
  (es.map (·.key)).Nodup->es[j]?=some e->e.key=Q0 (ek k)->
  ER ro [] w' (Qt ek ev (l.map λp=>bif p.1=k then(p.1,v)else p)) (es.modify j λe=>{e with key:=Q0 (ek k),val:=val})
 |[],es,j,e,h,hn,he,hk=>by cases(show es=[]from h);simp at he
 |p::l,es,j,e,h,hn,he,hk=>by
  obtain⟨e0,l',rfl,h1,h2,h3⟩:=h;have hk0:=VR.val (K.scl _) h1;simp only[Vf,List.nodup_cons]at hn;cases j with
  |zero=>
   simp[XD,Option.some.injEq]at he;subst he;have hp:=K.inj _ _ (hk0.symm.trans hk);have e1:Qt ek ev ((p::l).map λp=>bif p.1=k then(p.1,v)else p)=(ek p.1,ev v)::Qt ek ev l:=by
    simp only[Qt,Vf,hp,decide_true,Vk,List.map_map,List.cons.injEq,true_and];apply List.map_congr_left;intro q f;have:q.1≠k:=by
     intro e;refine hn.1 ?_;rw[jk K h3];exact Xf.2 ⟨q,f,by rw[e, <- hp,hk0]⟩
    simp[this]
   rw[e1];refine⟨_,l',rfl,?_,d.mono a,h3.mono a⟩;rw[<- hp];exact Wl (K.scl _)
  |succ j=>
   have hp:p.1≠k:=by
    intro q;refine hn.1 (Xf.2 ⟨e,VD he,?_⟩);rw[hk,hk0,q]
   have e1:Qt ek ev ((p::l).map λp=>bif p.1=k then(p.1,v)else p)=(ek p.1,ev p.2)::Qt ek ev (l.map λp=>bif p.1=k then(p.1,v)else p):=by
    simp[Qt,hp]
   rw[e1];exact⟨_,_,rfl,h1.mono a,h2.mono a,ER.put K a d h3 hn.2 he hk⟩
theorem Yl{m:AA (α×β)}(K:Jj P kt ek){v:β}{zz:Operand}(hm:some (QR l k v)=some m)(hd:YR (ev v)=true)(hT:P.underlying T=some (.map kt et))
  (ho:o.op=.mapUpdate T x y zz:=by exact rfl)(hx:AM env x=.map i:=by exact rfl)(hH:H[i]?=some (.map (Qt ek ev l)):=by exact rfl)(hy:AM env y=ek k:=by exact rfl)(hv:AM env zz=ev v:=by exact rfl):
  FS P o env H (H.set i (.map (Qt ek ev m))):=by
 obtain rfl:=XX hm;intro fr R U N a w r;have h1:=Ql r x;rw[hx]at h1;obtain⟨b,V,q2⟩:=h1;have h2:=Ql r y;rw[hy]at h2;have h3:=VR.val (K.scl _) h2;have h4:=Ql r zz;rw[hv]at h4;have E:VR R [] w (ev v) (a.eval zz):=VR.data hd h4;obtain⟨t,d,J,M,p3,p4,Y⟩:=r.sim.blk i _ _ V hH;obtain⟨f1,f2⟩:=ER.find K M k Y;have F:∀(obj:Obj) y,w.shape? b=some y->({w with heap:=w.heap.setIfInBounds b obj}:World).shape? b=some y:=by
  grind[World.shape?]
 rcases K.find w k t.toList (PC K M)with⟨W,G⟩|⟨j,e,W,G,L⟩
 .obtain⟨u1,u2⟩:=f1 G;have Q:QR l k v=l++[(k,v)]:=by
   unfold QR;rw[show(l.any λp=>decide (p.1=k))=false from u2];rfl
  have g:=r.sim.set (x':=.map (Qt ek ev (QR l k v))) (obj:=.map (t.push {key:=Q0 (ek k),val:=a.eval zz,born:=d}) (d+1)) V hH rfl (F _)
   (λe O=>⟨_,_,O,by
    rw[Q,Qt,Xg,Array.toList_push];exact(M.mono ⟨e.sub,e.keep,e.shape,λ_ _ q=>q⟩).append ⟨_,_,rfl,Wl (K.scl _),E.mono ⟨e.sub,e.keep,e.shape,λ_ _ q=>q⟩,rfl⟩,by
    grind,by
    grind,by
    grind⟩)
  refine⟨_,R,[],?_,by grind,g.2⟩;simp only[execOp,ho,q2,h3,Vi,Instr.mapUpdate,run_underlying hT,Result.andThen,MapKept.run_getObj_map J,K.check,W,MapKept.run_setObj_map _ J];rfl
 .obtain⟨u1,u2⟩:=f2 j e G L;have Q:QR l k v=l.map λp=>bif p.1=k then(p.1,v)else p:=by
   unfold QR;rw[show(l.any λp=>decide (p.1=k))=true from u1];rfl
  have hj:t[j]?=some e:=by grind
  have n:(t.modify j λe=>{e with key:=Q0 (ek k),val:=a.eval zz}).toList=t.toList.modify j λe=>{e with key:=Q0 (ek k),val:=a.eval zz}:=by simp
  have s:∀{γ:Type} (f:MapEntry->γ),(∀B,t.toList[j]?=some B->f {B with key:=Q0 (ek k),val:=a.eval zz}=f B)->(t.toList.modify j λe=>{e with key:=Q0 (ek k),val:=a.eval zz}).map f=t.toList.map f:=by
   intro γ f hf;apply List.ext_getElem?
   grind
  have g:=r.sim.set (x':=.map (Qt ek ev (QR l k v))) (obj:=.map (t.modify j λe=>{e with key:=Q0 (ek k),val:=a.eval zz}) d) V hH rfl (F _)
   (λX O=>⟨_,_,O,by
    rw[Q,n];exact ER.put K ⟨X.sub,X.keep,X.shape,λ_ _ q=>q⟩ E M Y G L,by
    rw[n];intro B u;have:B.born∈(t.toList.modify j λe=>{e with key:=Q0 (ek k),val:=a.eval zz}).map (·.born):=VC u;rw[s (·.born) (λ_ _=>rfl)]at this;obtain⟨e2,h,h'⟩:=Xf.1 this;rw[<- h'];exact p3 e2 h,by
    rw[n,s (·.born) (λ_ _=>rfl)];exact p4,by
    rw[n,s (·.key) (λB u=>by rw[G]at u;cases u;exact L.symm)];exact Y⟩)
  refine⟨_,R,[],?_,by simpa using g.1,g.2⟩;have z:=K.stays w k;simp only[execOp,ho,q2,h3,Vi,Instr.mapUpdate,run_underlying hT,Result.andThen,MapKept.run_getObj_map J,K.check,W,hj,Xk,Option.getD_some,L,z,MapKept.run_setObj_map _ J];rfl
theorem ER.length{ro:Nat->Prop}{U:AZ}{w:World}:∀{l:AA (A×A)} {es:AA MapEntry},ER ro U w l es->es.length=l.length
 |[],es,h=>by cases(show es=[]from h);rfl
 |p::l,es,h=>by
  obtain⟨e,l',rfl,_,_,h3⟩:=h;simp[ER.length h3]
theorem lL{c:Call}{n:Int}(t:P.underlying T=some (.map kt et))(u:(l.length:Int)=n)(k:o.op=.call c:=by exact rfl)(hc:c={callee:=.builtin .len,args:= #[x],argTypes:= #[T]}:=by exact rfl)
  (hx:AM env x=.map i:=by exact rfl)(hH:H[i]?=some (.map (Qt ek ev l)):=by exact rfl):AK P o env H (.int .i64 n):=by
 intro y z U N a w r;have g:=Ql r x;rw[hx]at g;obtain⟨b,p,f⟩:=g;obtain⟨h,d,q,s,F,E,B⟩:=r.sim.blk i _ _ p hH;have m:=s.length;refine⟨.int .i64 n,?_,rfl⟩;have e:goInt h.size=.int .i64 n:=by
  have:h.size=l.length:=by rw[<- Array.length_toList,m];simp[Qt]
  rw[this, <- u];rfl
 subst hc;have j:=f;generalize a.eval=ρ at*;rw[<- e];simp[execOp,k,f,resolve,invoke,Go.builtin,Builtin.len_,run_underlying t,MapKept.run_getObj_map q,go_sem]
end
end
end Go.Sw
namespace Go.Sw
open Go.ChangeMaps (setBlock)
section
variable {P:Program} {o:Oper} {env:Env} {H:Qb} {h0 N:Nat} {Q:QW}
def TA(P:Program)(o:Oper)(env:Env)(H:Qb)(K:A->Qb->Prop):Prop:=
 ∀fr ro U N a w,BL fr ro U H env N a w->∃x H' v w' ro' τ,K x H'/\(execOp a.eval o).run P w=.ok (.value v) w'/\VR ro' (U++τ) w' x v/\
  AU fr ro' (U++τ) H' w'/\Qm fr ro w ro' w'
theorem jh{all:Array Oper}{l:AA Oper}{d:Nat}{K:A->Qb->Prop}(m:h0<=H.length)(hg:Qy all o env true)(E:o.dst=some d)(F:Nat.blt d N=true)
  (i:TA P o env H K)(k:∀x H',K x H'->WO P h0 N all l (up env d x) H' Q):WO P h0 N all (o::l) env H Q:=by
 intro B fr u U a w r hrd;obtain⟨x,H',v,j,f,τ,t,p,y,n,g⟩:=i fr u U N a w r;refine JT (YV hg r) p ?_;simp[E];have h:d<N:=by simp_all
 have z:BL fr f (U++τ) H' (up env d x) N {a with tmps:=a.tmps.setIfInBounds d v} j:=
  ⟨n,VR.up (fr:=fr) (λs=>(r.env s).mono (g.ext U τ)) (by rw[r.size];exact h) y,by simpa using r.size,r.defers.keep g⟩
 refine Yx (λe a w q=>q.step g (QI ?_)) _ _ _ (k x H' t B fr f (U++τ) _ j z (hrd.to g λ_ q=>q));rw[r.sim.len];exact m
theorem AU.shutMap{fr ro:Nat->Prop}{U:AZ}{w:World}(s:AU fr ro U H w){i b:Nat}{es:AA (A×A)}(hσ:U[i]?=some (some b))(hH:H[i]?=some (.map es)):
  AU fr (λc=>ro c\/c=b) U (H.set i (.fmap es)) w:=by
 have hown:=s.own i b _ hσ hH rfl;have ext:BI ro U w (λc=>ro c\/c=b) U w:=⟨λ_ q=>.inl q,λ_ _=>rfl,λ_ _ q=>q,λ_ _ q=>q⟩;have a:∀(j:Nat) (v:AR),(H.set i (.fmap es))[j]?=some v->v.live=true->j≠i/\H[j]?=some v:=by
  intro j v h F;by_cases e:j=i
  .subst e;rw[Xb]at h
   grind[AR.live]
  grind
 have n:∀(j:Nat) (v:AR),(H.set i (.fmap es))[j]?=some v->v.holds=true->H[j]?=some v:=by
  intro j v h F;by_cases e:j=i
  .subst e;rw[Xb]at h;simp only[if_true]at h;split at h
   .cases h;cases F
   .simp at h
  grind
 refine⟨by rw[X2];exact s.len,s.roOk.to (λ_ q=>.inl q) (λ_ _=>rfl) ?_,s.frLt,?_,?_,?_,?_,s.hidTo (· = ·) Yd (XR _) (λj d x c N G L M=>M.elim id λq=>((s.hid j d x c N G L).ne i b _ hσ hH rfl q).elim) (by simp) (by grind)⟩
 .rintro c (q|rfl)
  .exact s.roLt c q
  omega
 .rintro c (q|rfl)
  .exact s.roFr c q
  grind
 .intro j c v g f m;obtain⟨e,f⟩:=a j v f m;obtain⟨p,t,r⟩:=s.own j c v g f m;refine⟨p,?_,r⟩;rintro(q|rfl)
  .exact t q
  .exact e (s.inj j i c v _ g hσ f hH m rfl)
 .intro j z c v B g f m J E u;exact s.inj j z c v B g f (a j v m E).2 (a z B J u).2 E u
 .intro j y v g f;by_cases e:j=i
  .subst e;rw[hσ]at g;cases g;rw[Xb]at f;simp only[if_true]at f;split at f
   .cases f;obtain⟨l,k,p,t,r⟩:=s.blk j _ _ hσ hH;exact⟨.inr rfl,l,k,p,t.mono ext.nil,r⟩
   .simp at f
  .rw[XN (λq=>e q.symm)]at f;exact(s.blk j y v g f).keep ext (λ_ _ _=>rfl) (λ_ _ _ _=>rfl)
section
variable {T kt et i:Nat} {x:Operand} {es:AA (A×A)}
theorem CD.range(B:P.underlying T=some (.map kt et))(t:o.op=.range T x:=by exact rfl)(hx:AM env x=.map i:=by exact rfl)(hH:H[i]?=some (.map es):=by exact rfl):
  CD P o env H (.ptr H.length 0) (H.set i (.fmap es)++[.iter none es]):=by
 intro p j U N a w r;have s:=Ql r x;rw[hx]at s;obtain⟨b,k,u⟩:=s;obtain⟨l,d,n,y,F,z,G⟩:=r.sim.blk i _ _ k hH;have E:=(r.sim.own i b _ k hH rfl).1;have m:=r.sim.shutMap k hH;have g:Qm p j w (λc=>j c\/c=b) w:=YZ (λ_ q=>.inl q);have f:Qm p (λc=>j c\/c=b) w (λc=>j c\/c=b) (w.alloc (.mapIter (some b) d #[] d)):=Qm.alloc _ m.roLt m.frLt;have ext0:=(g.trans f).ext0 [];refine⟨.pointer (some ⟨w.heap.size,0,none⟩),w.alloc (.mapIter (some b) d #[] d),_,[some w.heap.size],?_,⟨w.heap.size,?_,rfl⟩,
  m.alloc (.inr ⟨b,l,d, #[],l.toList,Ys _ _,.inr rfl,by rw[Yt _ _ _ E];exact n,F,z,?_,y.mono ext0,λ_ h=>by cases h⟩),g.trans f⟩
 .simp only[execOp,t,u,Instr.range,Vi,run_underlying B,Result.andThen,MapKept.run_getObj_map n];rfl
 .rw[<- r.sim.len];simp
 .have:l.toList.filter (λe=> !#[].contains e.born)=l.toList:=by simp
  rw[this]
theorem rj(y:P.underlying T=some (.map kt et))(n:o.op=.range T x:=by exact rfl)(hx:AM env x=.map i:=by exact rfl)(hH:H[i]?=some (.fmap es):=by exact rfl):
  CD P o env H (.ptr H.length 0) (H++[.iter none es]):=by
 intro s m U N a w r;have k:=Ql r x;rw[hx]at k;obtain⟨b,q,p⟩:=k;obtain⟨g,l,d,j,t,B,u,E⟩:=r.sim.blk i _ _ q hH;have z:=r.sim.roLt b g;have f:Qm s m w m (w.alloc (.mapIter (some b) d #[] d)):=Qm.alloc _ r.sim.roLt r.sim.frLt;have ext0:=f.ext0 [];refine⟨.pointer (some ⟨w.heap.size,0,none⟩),w.alloc (.mapIter (some b) d #[] d),_,[some w.heap.size],?_,⟨w.heap.size,?_,rfl⟩,
  r.sim.alloc (.inr ⟨b,l,d, #[],l.toList,Ys _ _,g,by rw[Yt _ _ _ z];exact j,B,u,?_,t.mono ext0,λ_ h=>by cases h⟩),f⟩
 .simp only[execOp,n,p,Instr.range,Vi,run_underlying y,Result.andThen,MapKept.run_getObj_map j];rfl
 .rw[<- r.sim.len];simp
 .have:l.toList.filter (λe=> !#[].contains e.born)=l.toList:=by simp
  rw[this]
theorem ER.mem{ro:Nat->Prop}{U:AZ}{w:World}:∀{es:AA (A×A)} {l:AA MapEntry},ER ro U w es l->∀e∈l,∃x es' l',(x::es').Perm es/\(e::l').Perm l/\VR ro U w x.1 e.key/\VR ro U w x.2 e.val/\ER ro U w es' l'
 |[],l,h,e,he=>by cases(show l=[]from h);cases he
 |y::es,l,h,e,he=>by
  obtain⟨e0,l',rfl,h1,h2,h3⟩:=h;rcases X3.1 he with rfl|he
  .exact⟨y,es,l',.refl _,.refl _,h1,h2,h3⟩
  .obtain⟨x,es',l'',p1,p2,v1,v2,h4⟩:=ER.mem h3 e he;exact⟨x,y::es',e0::l'',(List.Perm.swap _ _ _).trans (p1.cons _),(List.Perm.swap _ _ _).trans (p2.cons _),v1,v2,⟨e0,l'',rfl,h1,h2,h4⟩⟩
theorem pT:∀{l:AA MapEntry},(l.map (·.born)).Nodup->∀a∈l,∀b∈l,a.born=b.born->a=b
 |[],_,a,ha,_,_,_=>by cases ha
 |c::l,hn,a,ha,b,hb,hab=>by
  simp[Vf,List.nodup_cons]at hn;rcases X3.1 ha with ea|ha'<;>rcases X3.1 hb with eb|hb'
  .rw[ea,eb]
  .grind
  .grind
  .exact pT hn.2 a ha' b hb' hab
def W8(H:Qb)(i:Nat)(cur:AB (A×A))(es:AA (A×A))(v:A)(H':Qb):Prop:=
 (es=[]/\v=.tup [.bool false]/\H'=H)\/ ∃e es',(e::es').Perm es/\v=.tup [.bool true,e.1,e.2]/\H'=H.set i (.iter (some e) es')
theorem TA.next{F:AB (A×A)}(ho:o.op=.next x false:=by exact rfl)(hx:AM env x=.ptr i 0:=by exact rfl)(hH:H[i]?=some (.iter F es):=by exact rfl):
  TA P o env H (W8 H i F es):=by
 intro fr s U N a w r;have h1:=Ql r x;rw[hx]at h1;obtain⟨b,q1,q2⟩:=h1;have g:∀(v:Value) (w1:World),w1.heap=w.heap->w1.os=w.os->w1.tape=w.tape->w1.output=w.output->w.drawn<=w1.drawn->AU fr s (U++[]) H w1/\Qm fr s w s w1:=by
  intro v w1 R X e3 e4 e5;exact⟨by simpa using r.sim.heap R,Qm.heap R X e3 e4 e5⟩
 rcases r.sim.blk i _ _ q1 hH with⟨rfl,rfl,p⟩|⟨m,l,f,d,left,p1,p2,p3,p4,p5,p6,p7,p8⟩
 .refine⟨_,_,.tuple #[.bool false],w,s,[],.inl ⟨rfl,rfl,rfl⟩,?_,⟨_,rfl,_,_,rfl,rfl,rfl⟩,g (.bool false) w rfl rfl rfl rfl (XR _)⟩;generalize a.eval=ρ at*;simp only[execOp,ho,q2,Instr.next,Vi,getObj,Sem.run,p,Result.andThen];rfl
 .have ab:(leftOf l d).toList=l.toList.filter λe=> !d.contains e.born:=by simp[leftOf]
  have k:left.Perm (leftOf l d).toList:=by grind
  rcases run_next_at (P:=P) w o.type b m f f d l f p1 p3 p4 (XR _)with⟨g1,g2⟩|⟨e,g1,w1,g2,g3⟩
  .have ac:left=[]:=by
    have:left.length=0:=by rw[k.length_eq];omega
    grind
   subst ac;have Y:es=[]:=by
    have:=p7.length
    grind
   refine⟨_,_,.tuple #[.bool false],w,s,[],.inl ⟨Y,rfl,rfl⟩,?_,⟨_,rfl,_,_,rfl,rfl,rfl⟩,g (.bool false) w rfl rfl rfl rfl (XR _)⟩
   simp_all[execOp]
  .have he:e∈left:=k.mem_iff.2 g1;have G:e∈l.toList:=by grind
   obtain⟨y,J,M,k1,k2,v1,v2,k3⟩:=p7.mem e he;have n:w1.heap=w.heap/\w1.os=w.os/\w1.tape=w.tape/\w1.output=w.output/\w.drawn<=w1.drawn:=by
    rcases g2 with rfl|rfl
    .simp
    .exact⟨rfl,rfl,rfl,rfl,Nat.le_succ _⟩
   obtain⟨s1,B⟩:=g (.bool false) w1 n.1 n.2.1 n.2.2.1 n.2.2.2.1 n.2.2.2.2;rw[Vc]at s1;have af:b≠m:=by
    grind
   have u:=s1.set (x':=.iter (some y) J) (obj:=.mapIter (some m) f (d.push e.born) f) q1 hH rfl
    (λz O=>by
     grind[World.shape?])
    (λt aa=>.inr ⟨m,l,f,d.push e.born,M,aa,t.sub _ p2,by
      grind,p4,p5,by
      have V:(l.toList.filter λe=> !d.contains e.born).Nodup:=by
       have:l.toList.Nodup:=List.Pairwise.of_map _ (λa b h q=>h (congrArg _ q)) p5;exact this.filter _
      have W:(e::M).Perm (l.toList.filter λe=> !d.contains e.born):=k2.trans p6;have Q:(e::M).Nodup:=W.nodup_iff.2 V;have R:(l.toList.filter λE=> !(d.push e.born).contains E.born)=(l.toList.filter λe=> !d.contains e.born).filter λE=> !decide (E.born=e.born):=by
       rw[List.filter_filter];apply List.filter_congr;intro z _;simp[Array.contains_push,Bool.and_comm]
      rw[R];have h2:=W.filter (λE=> !decide (E.born=e.born));have X:(e::M).filter (λE=> !decide (E.born=e.born))=M:=by
       rw[List.filter_cons_of_neg (by simp),List.filter_eq_self];intro z O;have ae:z∈l.toList:=(Xe.1 (W.mem_iff.1 (List.mem_cons_of_mem _ O))).1;simp only[Bool.not_eq_true',decide_eq_false_iff_not];intro hb;have:z=e:=by
        exact pT p5 z ae e G hb
       subst this;exact(List.nodup_cons.1 Q).1 O
      rw[X]at h2;exact h2,by
      have T:BI s [] w s [] w1:=B.ext0 [];exact(k3.mono T).mono ⟨t.sub,t.keep,t.shape,λ_ _ q=>q⟩,by
      intro z O;cases O;have T:BI s [] w s [] w1:=B.ext0 [];exact⟨e,G,by simp,(v1.mono T).mono ⟨t.sub,t.keep,t.shape,λ_ _ q=>q⟩,(v2.mono T).mono ⟨t.sub,t.keep,t.shape,λ_ _ q=>q⟩⟩⟩)
   have L:=B.trans u.2;have xt:=L.ext0 [];refine⟨_,_,.tuple #[.bool true,e.key,e.val],_,s,[],.inr ⟨y,J,k1,rfl,rfl⟩,?_,
    ⟨[.bool true,e.key,e.val],rfl,_,_,rfl,rfl,_,_,rfl,(v1.mono xt).mono ⟨λ_ q=>q,λ_ _=>rfl,λ_ _ q=>q,λj c q=>by simp at q⟩,_,_,rfl,(v2.mono xt).mono ⟨λ_ q=>q,λ_ _=>rfl,λ_ _ q=>q,λj c q=>by simp at q⟩,rfl⟩,by simpa using u.1,L⟩
   generalize a.eval=ρ at*;simp only[execOp,ho,q2,Vi,g3,Result.andThen,setBlock];rfl
theorem AK.entry{e:A×A}(z:o.op=.entry x:=by exact rfl)(hx:AM env x=.ptr i 0:=by exact rfl)(hH:H[i]?=some (.iter (some e) es):=by exact rfl):AK P o env H (.tup [e.1,e.2]):=by
 intro L J U N a w r;have j:=Ql r x;rw[hx]at j;obtain⟨b,n,B⟩:=j;rcases r.sim.blk i _ _ n hH with⟨_,h,_⟩|⟨m,l,d,g,left,G,Q,O,F,t,E,R,y⟩
 .cases h
 .obtain⟨f,s,M,p,u⟩:=y e rfl;refine⟨.tuple #[f.key,f.val],?_,[f.key,f.val],rfl,_,_,rfl,p.mono ⟨λ_ q=>q,λ_ _=>rfl,λ_ _ q=>q,(by simp)⟩,_,_,rfl,u.mono ⟨λ_ q=>q,λ_ _=>rfl,λ_ _ q=>q,(by simp)⟩,rfl⟩;have k:l.find? (·.born==f.born)=some f:=by rw[<- Array.find?_toList];exact find_born f l.toList t s
  simp_all[execOp,Instr.entry,getObj,Sem.run]
end
end
end Go.Sw
namespace Go.Sw
def H7{S E B:Type}(stepE:S->E->AB (AG S B))(stepN:S->AB B):S->AA E->AB B
 |s,[]=>stepN s
 |s,e::p=>match stepE s e with
  |some (.k s')=>H7 stepE stepN s' p
  |some (.d b)=>some b
  |none=>none
def LG{E:Type}(x:E):AA E->AA (AA E)
 |[]=>[[x]]
 |y::l=>(x::y::l)::(LG x l).map (y:: ·)
def IB{E:Type}:AA E->AA (AA E)
 |[]=>[[]]
 |x::l=>(IB l).flatMap (LG x)
theorem rg{E:Type}(x:E):∀(a b:AA E),a++x::b∈LG x (a++b)
 |[],[]=>by simp[LG]
 |[],y::b=>by simp[LG]
 |y::a,b=>by
  simp only[VG,LG,X3,Xf];exact .inr ⟨a++x::b,rg x a b,rfl⟩
theorem lD{E:Type}:∀(l p:AA E),p.Perm l->p∈IB l
 |[],p,h=>by rw[List.perm_nil.1 h];simp[IB]
 |x::l,p,h=>by
  have hx:x∈p:=h.mem_iff.2 (by simp);obtain⟨a,b,rfl⟩:=List.append_of_mem hx;have h2:=(List.perm_cons x).1 ((List.perm_middle.symm).trans h);simp[IB,List.mem_flatMap];exact⟨a++b,lD l _ h2,rg x a b⟩
variable {E:Type}
def anyP{R:Type}[DecidableEq R](k:AA E->AB R)(l:AA E):AB R:=bif (IB l).all (λp=>decide (k p=k l))then k l else none
theorem oD{R:Type}[DecidableEq R]{k:AA E->AB R}{l:AA E}{r:R}(h:anyP k l=some r)(p:AA E)(a:p.Perm l):k p=some r:=by
 unfold anyP at h;cases q:(IB l).all (λp=>decide (k p=k l))with
 |true=>
  simp_all[lD]
 |false=>grind
theorem la{E:Type}:∀(l p:AA E),p∈IB l->p.Perm l
 |[],p,h=>by simp[IB]at h;rw[h]
 |x::l,p,h=>by
  simp[IB,List.mem_flatMap]at h;obtain⟨q,hq,hp⟩:=h;have Kv:∀(q p:AA E),p∈LG x q->p.Perm (x::q):=by
   intro q
   induction q with
   |nil=>intro p hp;simp[LG]at hp;rw[hp]
   |cons y q d=>
    intro p hp;simp[LG,X3,Xf]at hp;rcases hp with rfl|⟨z,a,rfl⟩
    .exact .refl _
    .exact((d z a).cons y).trans (List.Perm.swap _ _ _)
  exact(Kv q p hp).trans ((la l q hq).cons x)
theorem j8{E R:Type}[DecidableEq R]{k:AA E->AB R}{l:AA E}{r:R}(h:∀p,p.Perm l->k p=some r):anyP k l=some r:=by
 unfold anyP;have:(IB l).all (λp=>decide (k p=k l))=true:=Xt.2 λp a=>by
  simp_all[la]
 rw[this];simp_all
variable {B:Type}
def NV{S:Type}(stepE:S->E->AB (AG S B))(stepN:S->AB B)(G:B->Prop)(s:S)(l:AA E):Prop:=∀p,p.Perm l->∃b,H7 stepE stepN s p=some b/\G b
section
variable {P:Program} {o:Oper} {env:Env} {H:Qb} {h0 N:Nat} {Q:QW} {c:Code}
def cL(I:Env->Qb->Prop)(Q:QW):QW
 |.normal,env,H=>I env H
 |.exit id,env,H=>Q (.exit id) env H
 |.ret,env,H=>Q .ret env H
theorem vI{I:Nat->Env->Qb->Prop}(body:∀n env H,I n env H->TC P h0 N c env H (cL (λenv H=>∃n',n'<n/\I n' env H) Q)){n:Nat}(z:I n env H):TC P h0 N (.loop c) env H Q:=by
 intro L t u U a w r hrd b k cs hro hb hr;have B:∀m n env H fr1 ro1 σ1 a1 w1,n<m->I n env H->BL fr1 ro1 σ1 H env N a1 w1->Qm t u w ro1 w1->σ1.take h0=U.take h0->BN t w a.defers fr1 a1.defers->
   ∃e h g,E_ h0 t u U w N a.defers Q e h g/\ArrivesIn (Machine.fenced P (WF L)) P (lone (b.atR a1 (.code c::.inLoop c::k)) cs w1) b k cs e h g:=by
  intro m
  induction m with
  |zero=>omega
  |succ m R=>
   intro n env H fr1 ro1 σ1 a1 w1 hn z r1 ev1 t1 g1;obtain⟨e,h,g,F,d⟩:=body n env H z L fr1 ro1 σ1 a1 w1 r1 (hrd.to ev1 g1.sub) b (.inLoop c::k) cs hro hb hr;obtain⟨x,f,H',p,σ',l,y,j,J,Y,M,q6⟩:=F;have s:=ev1.trans (Y.frMono g1.sub);have O:=g1.trans ev1.size q6;have G:∀x,Q x f H'->SJ e x->E_ h0 t u U w N a.defers Q e h g:=λx q W=>⟨x,f,H',p,σ',l,W,q,J,s,M.trans t1,O⟩;cases e with
   |normal=>
    obtain rfl:x=.normal:=y;obtain⟨n',V,j⟩:=j;obtain⟨T,X,w2,E,i⟩:=R n' f H' l p σ' h g (by omega) j J s (M.trans t1) O;exact⟨T,X,w2,E,.of_steps (StepsIn.trans d (.one (fenced_calm hb hr rfl) stepR_inLoop)) i⟩
   |exit id=>
    obtain rfl:x=.exit id:=y;exact⟨_,h,g,G _ j rfl,.pass rfl (by simp) d⟩
   |ret=>
    obtain rfl:x=.ret:=y;exact⟨_,h,g,G _ j rfl,.pass rfl (by simp) d⟩
   |_=>exact y.elim
 obtain⟨e,h,g,F,d⟩:=B (n+1) n env H t u U a w (Xo _) z r (Qm.refl _ _ _) rfl (BN.refl _ _ _);exact⟨e,h,g,F,.of_steps (.one (fenced_calm hb hr rfl) stepR_loop) d⟩
section
variable {S E B:Type} {stepE:S->E->AB (AG S B)} {stepN:S->AB B} {G:B->Prop} (Es:S->Env) (Hp:S->AA (A×A)->Qb) {enc:E->A×A}
def mf(stepE:S->E->AB (AG S B))(stepN:S->AB B)(G:B->Prop)(enc:E->A×A)(h0 n:Nat)(env:Env)(H:Qb):Prop:=
 ∃s l,l.length=n/\NV stepE stepN G s l/\Le h0 env H (Es s) (Hp s (l.map enc))
theorem vJ{s0:S}{l0:AA E}(h:NV stepE stepN G s0 l0)(hI:Le h0 env H (Es s0) (Hp s0 (l0.map enc)))
  (body:∀s l,NV stepE stepN G s l->TC P h0 N c (Es s) (Hp s (l.map enc)) (cL (λenv H=>∃n',n'<l.length/\mf Es Hp stepE stepN G enc h0 n' env H) Q)):TC P h0 N (.loop c) env H Q:=
 vI (I:=mf Es Hp stepE stepN G enc h0) (λn env H ⟨s,l,hn,ha,hle⟩=>by subst hn;exact Qd hle (body s l ha)) ⟨s0,l0,rfl,h,hI⟩
theorem qa{α β:Type}{f:α->β}:∀{m e:AA β},m.Perm e->∀{l:AA α},e=l.map f->∃l':AA α,l'.Perm l/\l'.map f=m:=by
 intro m e h
 induction h with
 |nil=>simp
 |cons x _ ih=>
  intro l d;cases l with
  |nil=>cases d
  |cons a l=>
   simp[Vf,List.cons.injEq]at d;obtain⟨l',g,i⟩:=ih d.2;exact⟨a::l',g.cons _,by grind⟩
 |swap x y m=>
  intro l d
  match l,d with
  |a::b::l,d=>
   exact⟨b::a::l,List.Perm.swap _ _ _,by grind⟩
 |trans _ _ ih1 ih2=>
  intro l d;obtain⟨p,g,i⟩:=ih2 d;obtain⟨j,k,n⟩:=ih1 i.symm;exact⟨j,k.trans g,n⟩
theorem wk{all:Array Oper}{L:AA Oper}{d i:Nat}{x:Operand}{m:AB (A×A)}{s:S}{l:AA E}(hl:NV stepE stepN G s l)
  (F:∀b,stepN s=some b->G b->WO P h0 N all L (up env d (.tup [.bool false])) H Q)
  (y:∀e l' D,stepE s e=some D->(∀b,D=.d b->G b)->(l'.length<l.length/\ ∀s',D=.k s'->NV stepE stepN G s' l')->
   WO P h0 N all L (up env d (.tup [.bool true,(enc e).1,(enc e).2])) (H.set i (.iter (some (enc e)) (l'.map enc))) Q)
  (w:o.op=.next x false:=by exact rfl)(hx:AM env x=.ptr i 0:=by exact rfl)(hH:H[i]?=some (.iter m (l.map enc)):=by exact rfl)
  (hg:Qy all o env true:=by exact rfl)(hd:o.dst=some d:=by exact rfl)(hN:Nat.blt d N=true:=by exact rfl)(hh:Nat.ble h0 H.length=true:=by exact rfl):WO P h0 N all (o::L) env H Q:=by
 refine jh (XP hh) hg hd hN (TA.next w hx hH) ?_;rintro v H' (⟨q,rfl,rfl⟩|⟨e,B,q,rfl,rfl⟩)
 .have:=List.map_eq_nil_iff.1 q;subst this;obtain⟨b,k,j⟩:=hl [] (.refl _);exact F b k j
 .obtain⟨z,k,j⟩:=qa q rfl;cases z with
  |nil=>cases j
  |cons a l'=>
   obtain⟨rfl,rfl⟩:=j;have h:l'.length<l.length:=by rw[<- k.length_eq];simp
   have f:∀p,p.Perm l'->∃b,H7 stepE stepN s (a::p)=some b/\G b:=λp n=>hl _ ((n.cons a).trans k);cases r:stepE s a with
   |none=>
    obtain⟨b,g,_⟩:=f l' (.refl _);simp[H7,r]at g
   |some D=>
    refine y a l' D r ?_ ⟨h,?_⟩
    .obtain⟨u,g,t⟩:=f l' (.refl _)
     grind[H7]
    .rintro s' rfl p n;obtain⟨u,g,t⟩:=f p n;simp[H7,r]at g;exact⟨u,g,t⟩
theorem uw{s:S}{l l':AA E}{D:AG S B}(e:some (AG.k s)=some D)(hc:l'.length<l.length/\ ∀s',D=.k s'->NV stepE stepN G s' l')(h:Le h0 env H (Es s) (Hp s (l'.map enc))):
  cL (λenv H=>∃n',n'<l.length/\mf Es Hp stepE stepN G enc h0 n' env H) Q .normal env H:=
 ⟨_,hc.1,s,l',rfl,(by grind),h⟩
theorem ux{I:Env->Qb->Prop}{id:Nat}(h:Q (.exit id) env H):cL I Q (.exit id) env H:=h
end
def m'(h0:Nat)(G:B->Prop)(Eb:B->Env)(Hb:B->Qb)(Q:QW):QW
 |.normal,env,H=>∃b,G b/\Le h0 env H (Eb b) (Hb b)
 |.exit id,env,H=>Q (.exit id) env H
 |.ret,env,H=>Q .ret env H
theorem uJ{S E:Type}{stepE:S->E->AB (AG S B)}{stepN:S->AB B}{G:B->Prop}{s0:S}{l0:AA E}(hl:NV stepE stepN G s0 l0)(Eb:B->Env)(Hb:B->Qb)
  (h:TC P h0 N c env H (m' h0 G Eb Hb Q))(k:∀b env H,G b->Le h0 env H (Eb b) (Hb b)->Q .normal env H):TC P h0 N c env H Q:=
 h.mono λx env' H' q=>by
  cases x with
  |normal=>obtain⟨b,e,q⟩:=q;grind
  |exit id=>exact q
  |ret=>exact q
theorem V1{B:Type}{G:B->Prop}{Eb:B->Env}{Hb:B->Qb}{b:B}(hG:G b)(h:Le h0 env H (Eb b) (Hb b)):m' h0 G Eb Hb Q .normal env H:=⟨b,hG,h⟩
theorem rM{i:Nat}{d:AB (A×A)}{es:AA (A×A)}{H':Qb}(hH:H[i]?=some (.iter d es))(f:H.set i (.iter none es)=H'):Le h0 env H env H':=by
 subst f;intro t n U N a w r;refine⟨n,U,⟨r.sim.weaken hH rfl ?_,r.env,r.size,r.defers⟩,λ_ q=>q,rfl⟩;intro y h;cases y with
 |none=>exact h
 |some b=>
  rcases h with⟨k,p,j⟩|⟨m,l,e,g,left,k,p,j,B,x,s,u,z⟩
  .exact .inl ⟨k,rfl,j⟩
  .exact .inr (by grind)
end
def mk{α:Type}(n:Int)(z:α):AB (AA α):=bif decide (0<=n)&&decide (n<=4294967296)then some (List.replicate n.toNat z)else none
section
variable {P:Program} {o:Oper} {env:Env} {H:Qb} {ro:Nat->Prop} {U:AZ} {w:World}
theorem LR.replicate{az:AA A}{l:AA Value}(h:LR ro U w az l):∀n,LR ro U w (List.replicate n az).flatten (List.replicate n l).flatten
 |0=>rfl
 |n+1=>by
  rw[Xm,Xm];exact h.append (LR.replicate h n)
end
open Go.Sort Go.Proofs Go.Shelf
section
variable {α:Type}
def Kv(lt:α->α->Bool)(x:α):AA α->AA α
 |[]=>[x]
 |y::l=>bif lt y x then y::Kv lt x l else x::y::l
def YH(lt:α->α->Bool):AA α->AA α
 |[]=>[]
 |x::l=>Kv lt x (YH lt l)
theorem kp(lt:α->α->Bool)(x:α):∀l,(Kv lt x l).Perm (x::l)
 |[]=>.refl _
 |y::l=>by
  unfold Kv;cases lt y x
  .exact .refl _
  .exact((kp lt x l).cons y).trans (List.Perm.swap _ _ _)
theorem Qu(lt:α->α->Bool):∀l,(YH lt l).Perm l
 |[]=>.refl _
 |x::l=>(kp lt x _).trans ((Qu lt l).cons x)
structure KH (lt:α->α->Bool) (l:List α):Prop where
 irrefl:∀x∈l,lt x x=false
 trans:∀x∈l,∀y∈l,∀z∈l,lt x y=true->lt y z=true->lt x z=true
 ntrans:∀x∈l,∀y∈l,∀z∈l,lt x y=false->lt y z=false->lt x z=false
theorem KH.mono{lt:α->α->Bool}{l m:AA α}(h:KH lt l)(hm:∀x∈m,x∈l):KH lt m:=
 ⟨λx hx=>h.irrefl x (hm x hx),λx hx y hy z hz=>h.trans x (hm x hx) y (hm y hy) z (hm z hz),λx hx y hy z hz=>h.ntrans x (hm x hx) y (hm y hy) z (hm z hz)⟩
theorem KH.asymm{lt:α->α->Bool}{l:AA α}(h:KH lt l){x y:α}(d:x∈l)(e:y∈l)(a:lt x y=true):lt y x=false:=by
 cases q:lt y x
 .rfl
 .rw[<- h.irrefl x d,h.trans x d y e x d a q]
theorem sF{lt:α->α->Bool}{x:α}:∀{l:AA α},KH lt (x::l)->l.Pairwise (λa b=>lt b a=false)->(Kv lt x l).Pairwise (λa b=>lt b a=false)
 |[],_,_=>by simp[Kv]
 |y::l,h,hp=>by
  obtain⟨h1,h2⟩:=Xc.1 hp;unfold Kv;cases q:lt y x
  .refine Xc.2 ⟨λz hz=>?_,hp⟩;rcases X3.1 hz with rfl|hz
   .exact q
   .exact h.ntrans z (by simp[hz]) y (by simp) x (by simp) (h1 z hz) q
  .refine Xc.2 ⟨λz hz=>?_,sF (h.mono (by grind)) h2⟩;rcases X3.1 ((kp lt x l).mem_iff.1 hz)with rfl|hz
   .exact h.asymm (by simp) (by simp) q
   grind
theorem QV{lt:α->α->Bool}:∀{l:AA α},KH lt l->(YH lt l).Pairwise (λa b=>lt b a=false)
 |[],_=>by simp[YH]
 |x::l,h=>sF (h.mono (by
   intro z hz;rcases X3.1 hz with rfl|hz
   .simp
   grind[Qu])) (QV (h.mono (by grind)))
theorem JN{lt:α->α->Bool}:∀{l m:AA α},l.Perm m->(∀x∈l,∀y∈l,lt x y=false->lt y x=false->x=y)->l.Pairwise (λa b=>lt b a=false)->m.Pairwise (λa b=>lt b a=false)->l=m
 |[],m,h,_,_,_=>by simp_all
 |x::l,[],h,_,_,_=>by simp_all
 |x::l,y::m,h,ha,hl,hm=>by
  obtain⟨l1,l2⟩:=Xc.1 hl;obtain⟨m1,m2⟩:=Xc.1 hm;have hy:y∈x::l:=h.mem_iff.2 (by simp);have hxy:x=y:=by
   grind
  subst hxy;rw[JN (by simp_all) (by grind) l2 m2]
def C9(cf:α->α->AB Int)(x y:α):Bool:=match cf x y with
 |some c=>decide (c<0)
 |none=>false
def WC[DecidableEq α](cf:α->α->AB Int)(l:AA α):Bool:=
 l.all λx=> !C9 cf x x&&l.all λy=>(cf x y).isSome&&(C9 cf x y||C9 cf y x||decide (x=y))&&l.all λz=>(!C9 cf x y|| !C9 cf y z||C9 cf x z)&&(C9 cf x y||C9 cf y z|| !C9 cf x z)
def IE[DecidableEq α](cf:α->α->AB Int)(l:AA α):AB (AA α):=bif Nat.ble l.length QE&&WC cf l then some (YH (C9 cf) l)else none
theorem bZ[DecidableEq α]{a:α->α->AB Int}{l l':AA α}(h:IE a l=some l'):
  l.length<=QE/\(∀x∈l,∀y∈l,∃c,a x y=some c)/\KH (C9 a) l/\(∀x∈l,∀y∈l,C9 a x y=false->C9 a y x=false->x=y)/\YH (C9 a) l=l':=by
 unfold IE at h;cases j:Nat.ble l.length QE with
 |false=>grind
 |true=>
 rw[j,Vw]at h;cases q:WC a l with
 |false=>grind
 |true=>
  rw[q]at h;refine⟨(by simp_all),?_⟩;unfold WC at q;simp[Xt,XU,Bool.not_eq_true',Bool.or_eq_true]at q;refine⟨λx d y e=>Option.isSome_iff_exists.1 ((q x d).2 y e).1.1,⟨λx d=>(q x d).1,λx d y e z i f g=>?_,λx d y e z i f g=>?_⟩,λx d y e f g=>?_,XX h⟩
  .grind
  .grind
  grind
theorem xO[DecidableEq α]{a:α->α->AB Int}{l:AA α}(d:l.length<=QE)(c:α->α->Int)(h:∀x∈l,∀y∈l,a x y=some (c x y))(hi:∀x∈l,¬c x x<0)
  (e:∀x∈l,∀y∈l,∀z∈l,c x y<0->c y z<0->c x z<0)(i:∀x∈l,∀y∈l,∀z∈l,¬c x y<0->¬c y z<0->¬c x z<0)(g:∀x∈l,∀y∈l,¬c x y<0->¬c y x<0->x=y):
  IE a l=some (YH (C9 a) l):=by
 have f:∀x∈l,∀y∈l,C9 a x y=decide (c x y<0):=λx k y j=>by unfold C9;grind
 have q:WC a l=true:=by
  unfold WC
  grind
 simp_all[IE,XQ]
theorem cI[DecidableEq α]{a:α->α->AB Int}{l l':AA α}(h:IE a l=some l'):l.length=l'.length:=by
 rw[<- (bZ h).2.2.2.2];exact(Qu _ _).length_eq.symm
theorem Yh{l l':AA α}{i:Int}{x:α}(h:D1 l i x=some l'):l.length=l'.length:=by
 grind[D1]
theorem QO{h0:Nat}{env:Env}{H:Qb}{s:Nat}{a a':A}(h:lk env s=a)(e:a=a'):Le h0 env H (up env s a') H:=by
 intro g f U N act w r;refine⟨f,U,⟨r.sim,λd=>?_,r.size,r.defers⟩,λ_ q=>q,rfl⟩;subst e;have:lk (up env s a) d=lk env d:=by
  simp[lk];cases q:Nat.beq d s with
  |true=>simp_all
  |false=>rfl
 rw[this];exact r.env d
end
section
variable {fr ro:Nat->Prop} {U:AZ} {H:Qb} {w w':World}
theorem sS(hh:∀b,b<w.heap.size->w'.heap[b]?=w.heap[b]?)(hro:∀b,ro b->b<w.heap.size)(U:AZ):BI ro U w ro U w':=
 ⟨λ_ q=>q,(by grind),λb x hx=>by grind[World.shape?],λ_ _ q=>q⟩
theorem AU.grown(s:AU fr ro U H w)(a:∀b,b<w.heap.size->w'.heap[b]?=w.heap[b]?)(l:w.heap.size<=w'.heap.size):AU fr ro U H w':=by
 refine⟨s.len,s.roOk.to (λ_ q=>q) (λb q=>a b (s.roLt b q)) (λb h=>Vb (s.roLt b h) l),λb h=>Vb (s.frLt b h) l,s.roFr,λi b x e f n=>?_,s.inj,λi y x e f=>?_,s.hidTo (· = ·) Yd l (by simp) (by simp) λj d y k m r=>.inl ⟨j,y,rfl,k,m,id,λc q=>s.hidKeep k m (λz=>a d (s.own j d y k m z).1) (λb q=>a b (s.roLt b q)) q⟩⟩
 .obtain⟨p,q⟩:=s.own i b x e f n
  grind
 .refine(s.blk i y x e f).keep (sS a s.roLt U) ?_ ?_
  .rintro b rfl g;exact a b (s.own i b x e f g).1
  .rintro b c rfl g;exact a c (s.hid i b x c e f g).lt
theorem Qm.grown(hh:∀b,b<w.heap.size->w'.heap[b]?=w.heap[b]?)(hs:w.heap.size<=w'.heap.size)(s:AU fr ro U H w)(ho:w'.os=w.os)(ht:w'.tape=w.tape)(hu:w'.output=w.output)(hd:w.drawn<=w'.drawn):Qm fr ro w ro w':=
 ⟨λ_ q=>q,λb h=>hh b (s.roLt b h),λb h=>hh b (s.frLt b h),hs,(sS hh s.roLt U).shape,ho,ht,hu,hd⟩
theorem oZ(h:∀b,b<w.heap.size->w'.heap[b]?=w.heap[b]?)(i:w.heap.size<=w'.heap.size)(d:w'.os=w.os)(f:w'.tape=w.tape)(e:w'.output=w.output)(j:w.drawn<=w'.drawn):
  ∃q os',w'=grow (w.drewN q) os':=by
 refine⟨w'.drawn-w.drawn,w'.heap.extract w.heap.size w'.heap.size,?_⟩;obtain⟨a,k,g,p,l⟩:=w';simp only at h i d f e j;subst d f e;unfold grow World.drewN;have m:a=w.heap++a.extract w.heap.size a.size:=by
  grind
 have n:g=w.drawn+(g-w.drawn):=by omega
 grind
end
end Go.Sw
