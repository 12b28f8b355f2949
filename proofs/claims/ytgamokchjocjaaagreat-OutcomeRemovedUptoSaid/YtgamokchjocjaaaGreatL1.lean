/- The rules by which the code is walked, with what they rest on (part 1). -/
import Derived.Calls
import Derived.Tactics
import Derived.Below
import Derived.TacticsIn
import Derived.OrdersIn
import Derived.RangeFuncLeaves
import Derived.RangeFuncRecord
import Derived.Laws.Strings
import Derived.Laws.World
import Derived.Orders
import Derived.Maps.Keyed
import Derived.Laws.StructEq
import Derived.Maps.RangeRun
import Derived.Shelf.SlSortCmp.NoneTotal
set_option linter.unusedVariables false
set_option linter.unusedSimpArgs false
set_option linter.unusedSectionVars false
namespace Go.Sw
open Option renaming some→AC,none→AF
open Bool renaming false→AD,true→AE
open Decidable renaming decide→AG
open Go renaming World→AJ,Program→AK,Value→AL,Oper→AM
abbrev AB:=@Option
abbrev AA:=@List
abbrev Xa:= @List.getElem?_set_self
abbrev Xb:= @List.getElem?_set
abbrev Xc:= @List.pairwise_cons
abbrev Xd:= @List.mem_filter
abbrev Xe:= @List.mem_map
abbrev Xf:= @List.map_append
abbrev Xg:= @Bool.not_true
abbrev Xh:= @Bool.not_false
abbrev Xi:= @Bool.false_eq_true
abbrev Xj:= @Option.map_some
abbrev Xk:= @Option.map_none
abbrev Xl:= @List.replicate_succ
abbrev Xm:= @Nat.succ_mul
abbrev Xn:= @Nat.lt_succ_self
abbrev Xo:= @List.getElem?_map
abbrev Xp:= @List.drop_eq_getElem_cons
abbrev Xq:= @List.drop_eq_nil_iff
abbrev Xr:= @List.drop_length
abbrev Xs:= @List.all_eq_true
abbrev Xt:= @List.any_eq_true
abbrev Xu:= @Array.toList_inj
abbrev Xv:= @Nat.zero_add
abbrev Xw:= @Nat.add_zero
abbrev Xx:= @List.length_take
abbrev Xy:= @List.take_append_drop
abbrev Xz:= @Nat.add_mul
abbrev XA:= @Nat.min_eq_left
abbrev XB:= @Nat.mul_le_mul_right
abbrev XC:= @List.foldl_append
abbrev XD:= @List.foldl_cons
abbrev XE:= @List.getElem?_cons_zero
abbrev XF:= @List.getElem?_cons_succ
abbrev XG:= @List.getElem?_toArray
abbrev XH:= @Sem.run_ite
abbrev XI:= @List.map_toArray
abbrev XJ:= @Option.bind_some
abbrev XK:= @List.getElem?_eq_getElem
abbrev XL:= @List.getElem?_eq_some_iff
abbrev XM:= @List.getElem?_append_left
abbrev XN:= @List.getElem?_append_right
abbrev XO:= @List.getElem?_eq_none
abbrev XP:= @List.getElem?_set_ne
abbrev XQ:= @Nat.eq_of_beq_eq_true
abbrev XR:= @Nat.le_of_ble_eq_true
abbrev XS:= @Nat.ble_eq_true_of_le
abbrev XT:= @Nat.le_refl
abbrev XU:= @Nat.zero_le
abbrev XV:= @Nat.le_trans
abbrev XW:= @Bool.and_eq_true
abbrev XX:= @Bool.or_eq_false_iff
abbrev XY:= @Bool.eq_iff_iff
abbrev XZ:= @Option.some.inj
abbrev X0:= @List.length_cons
abbrev X2:= @List.length_map
abbrev X3:= @List.length_append
abbrev X4:= @List.length_set
abbrev X5:= @List.mem_cons_self
abbrev X6:= @List.mem_cons_of_mem
abbrev X7:= @List.mem_cons
abbrev X8:= @List.take_append_of_le_length
abbrev X9:= @List.drop_append_of_le_length
abbrev Va:= @List.take_length
abbrev Vb:= @List.drop_length_add_append
abbrev Vc:= @List.take_length_add_append
abbrev Vd:= @Array.getElem?_eq_some_iff
abbrev Ve:= @List.getElem_mem
abbrev Vf:= @Array.getElem?_setIfInBounds
abbrev Vg:= @Nat.lt_of_lt_of_le
abbrev Vh:= @List.append_nil
abbrev Vi:= @List.nil_append
abbrev Vj:= @List.append_assoc
abbrev Vk:= @List.map_cons
abbrev Vl:= @List.map_nil
abbrev Vm:= @List.flatten_cons
abbrev Vn:= @Sem.run_bind
abbrev Vo:= @Sem.run_pure
abbrev Vp:= @cond_true
abbrev Vq:= @cond_false
abbrev Vr:= @decide_eq_true_eq
abbrev Vs:= @if_neg
abbrev Vt:= @if_pos
abbrev Vu:= @decide_eq_true
abbrev Vv:= @of_decide_eq_true
abbrev Vw:= @of_decide_eq_false
abbrev Vx:= @decide_eq_false
abbrev Vy:= @beq_iff_eq
abbrev Vz:= @Bool.true_and
abbrev VA:= @List.mem_singleton
abbrev VB:= @Nat.lt_or_ge
abbrev VC:= @List.mem_append
abbrev VD:= @List.pairwise_iff_getElem
abbrev VE:= @Nat.beq_refl
abbrev VG:= @List.mem_map_of_mem
abbrev VH:= @List.mem_of_getElem?
abbrev VI:= @List.take_of_length_le
abbrev VJ:= @List.length_eq_zero_iff
abbrev VK:= @List.cons_append
abbrev VL:= @List.getD_eq_getElem?_getD
abbrev VM:= @Bool.eq_false_iff
def Wu:Nat:=0
def nG:Nat:=1
def Mb:AA (AA Int):=[]
theorem ym:((List.range nG).all λb=>Nat.beq b Wu|| !(Mb.getD b []).isEmpty)=true:=by decide
theorem yn:Nat.ble Mb.length nG=true:=by decide
theorem zZ:Nat.blt Wu nG=true:=by decide
structure GP (w:AJ):Prop where
 max:∃m:Int,w.cell? ⟨Wu,0,AF⟩=AC (.int .i64 m)
 tab:∀(g:Nat) (zs:List Int),Mb[g]?=AC zs->∀(i:Nat) (z:Int),zs[i]?=AC z->w.cell? ⟨g,i,AF⟩=AC (.int .i64 z)
variable {w w':AJ}
theorem GP.keep(h:∀b,b<nG->w'.heap[b]?=w.heap[b]?)(g:GP w):GP w':=by
 obtain⟨m,j⟩:=g.max;refine⟨⟨m,?_⟩,λd k f i z n=>?_⟩
 .rw[<- j];unfold World.cell?;rw[h Wu (by simpa using zZ)]
 .rw[<- g.tab d k f i z n];unfold World.cell?;have t:=(XL.1 f).1;have q:Mb.length<=nG:=by simpa using yn
  rw[h d (by omega)]
theorem rQ{b i:Nat}{v:AL}(h:w.cell? ⟨b,i,AF⟩=AC v):b<w.heap.size:=by
 cases e:w.heap[b]? with
 |none=>simp[World.cell?,e]at h
 |some o=>exact(Vd.1 e).1
theorem GP.size{w:AJ}(g:GP w)(b:Nat)(j:b<nG):b<w.heap.size:=by
 have h:=Xs.1 ym b (List.mem_range.2 j);rw[Bool.or_eq_true]at h;rcases h with h|h
 .obtain⟨m,f⟩:=g.max;rw[XQ h];exact rQ f
 .cases e:Mb[b]? with
  |none=>rw[VL,e]at h;simp at h
  |some d=>
   cases d with
   |nil=>rw[VL,e]at h;simp at h
   |cons z d=>exact rQ (g.tab b _ e 0 z rfl)
inductive A where
 |any
 |bool (b:Bool)
 |int (k:IntKind) (n:Int)
 |str (s:List UInt8)
 |nilp
 |ptr (i off:Nat)
 |rp (cs:List A)
 |nils
 |rsl (k:Nat) (es:List (List A))
 |osl (i o n k:Nat)
 |agg (cs:List A)
 |fn (f:Fn) (first cap:List A)
 |nilf
 |iface (t:Nat) (v:A)
 |nilif
 |map (i:Nat)
 |nilm
 |tup (vs:List A)
abbrev Ch:=AA (AB Nat)
def QC:AL->Prop
 |.agg _|.tuple _=>False
 |_=>True
mutual
def VR(ro:Nat->Prop)(σ:Ch)(w:AJ):A->AL->Prop
 |.any,_=>True
 |.bool b,v=>v=.bool b
 |.int k n,v=>v=.int k n
 |.str s,v=>v=.string ⟨s.toArray⟩
 |.nilp,v=>v=.pointer AF
 |.ptr i off,v=>∃b,σ[i]?=AC (AC b)/\v=.pointer (AC ⟨b,off,AF⟩)
 |.rp cs,v=>∃b off,v=.pointer (AC ⟨b,off,AF⟩)/\ro b/\CR ro [] w b cs off
 |.nils,v=>v=.slice AF 0 0
 |.rsl k es,v=>∃a cap,v=.slice a es.length cap/\es.length<=cap/\
   (es=[]\/ ∃b off,a=AC ⟨b,off,AF⟩/\ro b/\RR ro [] w b k es off)
 |.osl i o n k,v=>(n=0/\v=.slice AF 0 0)\/
   ∃b p cap t m,σ[i]?=AC (AC b)/\v=.slice (AC ⟨b,p,AF⟩) n cap/\(0<cap->p=o*k)/\(n<=cap/\cap<=9223372036854775807)/\w.shape? b=AC (t,m)/\(o+cap)*k<=m
 |.agg cs,v=>∃l:AA AL,v=.agg l.toArray/\LR ro σ w cs l
 |.fn f first cap,v=>∃l l':AA AL,v=.func f l.toArray l'.toArray/\LR ro σ w first l/\LR ro σ w cap l'
 |.nilf,v=>v=.nilFunc
 |.iface t a,v=>∃x,v=.iface t x/\VR ro σ w a x
 |.nilif,v=>v=.nilIface
 |.map i,v=>∃b,σ[i]?=AC (AC b)/\v=.map (AC b)
 |.nilm,v=>v=.map AF
 |.tup vs,v=>∃l:AA AL,v=.tuple l.toArray/\LR ro σ w vs l
def CR(ro:Nat->Prop)(σ:Ch)(w:AJ)(b:Nat):AA A->Nat->Prop
 |[],_=>True
 |a::r,off=>(∃v,w.cell? ⟨b,off,AF⟩=AC v/\QC v/\VR ro σ w a v)/\CR ro σ w b r (off+1)
def RR(ro:Nat->Prop)(σ:Ch)(w:AJ)(b k:Nat):AA (AA A)->Nat->Prop
 |[],_=>True
 |cs::r,off=>cs.length=k/\CR ro σ w b cs off/\RR ro σ w b k r (off+k)
def LR(ro:Nat->Prop)(σ:Ch)(w:AJ):AA A->AA AL->Prop
 |[],l=>l=[]
 |a::r,l=>∃v l',l=v::l'/\VR ro σ w a v/\LR ro σ w r l'
end
structure DL (ro:Nat->Prop) (σ:Ch) (w:AJ) (ro':Nat->Prop) (σ':Ch) (w':AJ):Prop where
 sub:∀b,ro b->ro' b
 keep:∀b,ro b->w'.heap[b]?=w.heap[b]?
 shape:∀b x,w.shape? b=AC x->w'.shape? b=AC x
 sig:∀(i b:Nat),σ[i]?=AC (AC b)->σ'[i]?=AC (AC b)
theorem rP{b d:Nat}(h:w'.heap[b]?=w.heap[b]?):w'.cell? ⟨b,d,AF⟩=w.cell? ⟨b,d,AF⟩:=by
 simp only[World.cell?,h]
variable {ro ro':Nat->Prop}{σ:Ch}
theorem DL.nil{σ':Ch}(h:DL ro σ w ro' σ' w'):DL ro [] w ro' [] w':=
 ⟨h.sub,h.keep,h.shape,λ_ _ q=>q⟩
mutual
theorem VR.mono{ro ro':Nat->Prop}{w w':AJ}:∀{a:A} {σ σ':Ch} {v:AL},DL ro σ w ro' σ' w'->VR ro σ w a v->VR ro' σ' w' a v
 |.any,_,_,_,h,_=>trivial
 |.bool b,_,_,v,h,q=>q
 |.int k n,_,_,v,h,q=>q
 |.str s,_,_,v,h,q=>q
 |.nilp,_,_,v,h,q=>q
 |.ptr i off,_,_,v,h,q=>by
  simp only[VR]at q⊢;obtain⟨b,h1,h2⟩:=q;exact⟨b,h.sig _ _ h1,h2⟩
 |.rp cs,_,_,v,h,q=>by
  simp only[VR]at q⊢;obtain⟨b,off,h1,h2,h3⟩:=q;exact⟨b,off,h1,h.sub _ h2,CR.mono h.nil h2 h3⟩
 |.nils,_,_,v,h,q=>q
 |.rsl k es,_,_,v,h,q=>by
  simp only[VR]at q⊢;obtain⟨a,cap,h1,h2,h3⟩:=q;refine⟨a,cap,h1,h2,?_⟩;rcases h3 with h3|⟨b,off,h4,h5,h6⟩
  .exact .inl h3
  .exact .inr ⟨b,off,h4,h.sub _ h5,RR.mono h.nil h5 h6⟩
 |.osl i o n k,_,_,v,h,q=>by
  simp only[VR]at q⊢;rcases q with q|⟨b,p,cap,t,m,h1,h2,h6,h3,h4,h5⟩
  .exact .inl q
  .exact .inr ⟨b,p,cap,t,m,h.sig _ _ h1,h2,h6,h3,h.shape _ _ h4,h5⟩
 |.agg cs,_,_,v,h,q=>by
  simp only[VR]at q⊢;obtain⟨l,h1,h2⟩:=q;exact⟨l,h1,LR.mono h h2⟩
 |.fn f a c,_,_,v,h,q=>by
  simp only[VR]at q⊢;obtain⟨l,l',h1,h2,h3⟩:=q;exact⟨l,l',h1,LR.mono h h2,LR.mono h h3⟩
 |.nilf,_,_,v,h,q=>q
 |.iface t a,_,_,v,h,q=>by
  simp only[VR]at q⊢;obtain⟨x,h1,h2⟩:=q;exact⟨x,h1,VR.mono h h2⟩
 |.nilif,_,_,v,h,q=>q
 |.map i,_,_,v,h,q=>by
  simp only[VR]at q⊢;obtain⟨b,h1,h2⟩:=q;exact⟨b,h.sig _ _ h1,h2⟩
 |.nilm,_,_,v,h,q=>q
 |.tup vs,_,_,v,h,q=>by
  simp only[VR]at q⊢;obtain⟨l,h1,h2⟩:=q;exact⟨l,h1,LR.mono h h2⟩
theorem CR.mono{ro ro':Nat->Prop}{w w':AJ}:∀{cs:AA A} {σ σ':Ch} {b off:Nat},DL ro σ w ro' σ' w'->ro b->CR ro σ w b cs off->CR ro' σ' w' b cs off
 |[],_,_,_,_,_,_,_=>trivial
 |a::r,_,_,b,off,h,hb,q=>by
  simp only[CR]at q⊢;obtain⟨⟨v,h1,hp,h2⟩,h3⟩:=q;exact⟨⟨v,by rw[rP (h.keep _ hb)];exact h1,hp,VR.mono h h2⟩,CR.mono h hb h3⟩
theorem RR.mono{ro ro':Nat->Prop}{w w':AJ}:∀{es:AA (AA A)} {σ σ':Ch} {b k off:Nat},DL ro σ w ro' σ' w'->ro b->RR ro σ w b k es off->RR ro' σ' w' b k es off
 |[],_,_,_,_,_,_,_,_=>trivial
 |cs::r,_,_,b,k,off,h,hb,q=>by
  simp only[RR]at q⊢;obtain⟨h1,h2,h3⟩:=q;exact⟨h1,CR.mono h hb h2,RR.mono h hb h3⟩
theorem LR.mono{ro ro':Nat->Prop}{w w':AJ}:∀{az:AA A} {σ σ':Ch} {l:AA AL},DL ro σ w ro' σ' w'->LR ro σ w az l->LR ro' σ' w' az l
 |[],_,_,_,h,q=>q
 |a::r,_,_,l,h,q=>by
  simp only[LR]at q⊢;obtain⟨v,l',h1,h2,h3⟩:=q;exact⟨v,l',h1,VR.mono h h2,LR.mono h h3⟩
end
structure e_ where
 fl:Bool
 off:Nat
 lo:Int
 hi:Int
def Ms(i n c:Nat):AA (AA A):=(List.range c).map λj=>[.osl i (j*n) n 1]
def eC(b1 b2:Nat)(e:e_):AA A:=[.ptr (bif e.fl then b2 else b1) e.off,.int .i64 e.lo,.int .i64 e.hi]
inductive CW where
 |dead
 |cells (t:Nat) (cs:List A)
 |row (t k:Nat) (es:List (List A))
 |rowr (t k:Nat) (es:List (List A))
 |map (es:List (A×A))
 |iter (cur:Option (A×A)) (es:List (A×A))
 |fmap (es:List (A×A))
 |ents (t b1 b2:Nat) (es:List e_)
 |wins (t b n c:Nat)
 |mapO (fz:Bool) (t k:Nat) (es:List (A×Option (List (List A))))
 |mapP (es:List (A×A))
 |frow (t k:Nat) (es:List (List A))
def CW.live:CW->Bool
 |.dead=>AD
 |.fmap _=>AD
 |.frow _ _ _=>AD
 |.mapO fz _ _ _=> !fz
 |_=>AE
def CW.held:CW->Bool
 |.mapO fz _ _ _=>fz
 |_=>AD
def CW.holds(x:CW):Bool:=x.live||x.held
theorem CW.nd{x:CW}(h:x.live=AE):x≠ .dead:=by rintro rfl;cases h
theorem gK{x:CW}(h:x.holds=AE):x≠ .dead:=by rintro rfl;cases h
theorem hY{x:CW}(h:x.live=AE):x.holds=true:=by unfold CW.holds;rw[h];rfl
abbrev Qd:=AA CW
def ER(ro:Nat->Prop)(σ:Ch)(w:AJ):AA (A×A)->AA MapEntry->Prop
 |[],l=>l=[]
 |x::r,l=>∃e l',l=e::l'/\VR ro σ w x.1 e.key/\VR ro σ w x.2 e.val/\ER ro σ w r l'
def du(ro:Nat->Prop)(w:AJ)(b:Nat)(cur:AB (A×A))(es:AA (A×A)):Prop:=
 (es=[]/\cur=AF/\w.heap[b]?=AC (.mapIter AF 0 #[] 0))\/
 ∃m l clock seen left,w.heap[b]?=AC (.mapIter (AC m) clock seen clock)/\ro m/\w.heap[m]?=AC (.map l clock)/\(∀e∈l.toList,e.born<clock)/\(l.toList.map (·.born)).Nodup/\
  (left:AA MapEntry).Perm (l.toList.filter λe=> !seen.contains e.born)/\ER ro [] w es left/\
  (∀x,cur=AC x->∃e∈l.toList,seen.back? =AC e.born/\VR ro [] w x.1 e.key/\VR ro [] w x.2 e.val)
def RL(ro:Nat->Prop)(σ:Ch)(w:AJ)(k:Nat):AA (AA A)->AA AL->Prop
 |[],_=>True
 |c::es,l=>∃l1 l2,l=l1++l2/\c.length=k/\(LR ro σ w c l1/\ ∀v∈l1,QC v)/\RL ro σ w k es l2
theorem RL.mono{ro ro':Nat->Prop}{σ σ':Ch}{w w':AJ}(h:DL ro σ w ro' σ' w'){k:Nat}:∀{es:AA (AA A)} {l:AA AL},RL ro σ w k es l->RL ro' σ' w' k es l
 |[],_,_=>trivial
 |c::es,l,⟨l1,l2,h1,h2,h3,h4⟩=>⟨l1,l2,h1,h2,⟨h3.1.mono h,h3.2⟩,RL.mono h h4⟩
def SO(ro:Nat->Prop)(w:AJ)(t k:Nat)(rows:AA (AA A))(v:AL):Prop:=
 (rows=[]/\v=.slice AF 0 0)\/ ∃(c p cap:Nat) (vs:AA AL),v=.slice (AC ⟨c,p,AF⟩) rows.length cap/\(rows.length<=cap/\cap<=9223372036854775807)/\w.heap[c]?=AC (.cells vs.toArray t (0,0))/\cap*k<=vs.length/\RL ro [] w k rows vs/\(0<cap->p=0)
def MO(ro:Nat->Prop)(w:AJ)(t k:Nat):AA (A×AB (AA (AA A)))->AA MapEntry->Prop
 |[],l=>l=[]
 |x::r,l=>∃e l',l=e::l'/\VR ro [] w x.1 e.key/\(∀rows,x.2=AC rows->SO ro w t k rows e.val)/\MO ro w t k r l'
def NL:AA (A×AB (AA (AA A)))->AA MapEntry->Nat->Prop
 |x::r,e::l,c=>(x.2.isSome=AE/\ ∃p n cap,e.val=.slice (AC ⟨c,p,AF⟩) n cap)\/NL r l c
 |_,_,_=>False
def cR:AA (A×AB (AA (AA A)))->AA MapEntry->Prop
 |x::r,e::l=>(∀c,x.2.isSome=AE->(∃p n cap,e.val=.slice (AC ⟨c,p,AF⟩) n cap)->¬NL r l c)/\cR r l
 |_,_=>True
def Di(w:AJ):CW->Nat->Nat->Prop
 |.mapO _ _ _ es,b,c=>∃l clock,w.heap[b]?=AC (.map l clock)/\NL es l.toList c
 |_,_,_=>False
theorem Di.keep{x:CW}{b c:Nat}(h:w'.heap[b]?=w.heap[b]?)(q:Di w' x b c):Di w x b c:=by
 cases x with
 |mapO fz t k g=>obtain⟨l,d,j,f⟩:=q;exact⟨l,d,by grind,f⟩
 |_=>exact q.elim
theorem Di.holds{w:AJ}{x:CW}{b c:Nat}(q:Di w x b c):x.holds=true:=by
 cases x with
 |mapO fz t k d=>cases fz<;>rfl
 |_=>exact q.elim
theorem MO.mono{ro ro':Nat->Prop}{σ σ':Ch}{w w':AJ}(h:DL ro σ w ro' σ' w'){t k:Nat}:∀{es:AA (A×AB (AA (AA A)))} {l:AA MapEntry},(∀c,NL es l c->w'.heap[c]?=w.heap[c]?)->MO ro w t k es l->MO ro' w' t k es l
 |[],_,_,q=>q
 |x::r,_,hh,⟨e,l',h1,h2,h3,h4⟩=>by
  subst h1;refine⟨e,l',rfl,h2.mono h.nil,λrows hr=>?_,MO.mono h (λc hc=>hh c (.inr hc)) h4⟩;rcases h3 rows hr with q|⟨c,p,cap,vs,q1,q2,q3,q4,q5,q6⟩
  .exact .inl q
  .exact .inr ⟨c,p,cap,vs,q1,q2,by rw[hh c (.inl (by grind))];exact q3,q4,q5.mono h.nil,q6⟩
theorem MO.cells{ro:Nat->Prop}{w:AJ}{t k:Nat}:∀{es:AA (A×AB (AA (AA A)))} {l:AA MapEntry} {c:Nat},MO ro w t k es l->NL es l c->∃vs:Array AL,w.heap[c]?=AC (.cells vs t (0,0))
 |[],l,c,h,q=>by cases l<;>exact q.elim
 |x::r,_,c,⟨e,l',h1,h2,h3,h4⟩,q=>by
  subst h1;rcases q with⟨q1,p,n,cap,q2⟩|q
  .obtain⟨rows,hr⟩:=Option.isSome_iff_exists.1 q1;rcases h3 rows hr with⟨_,z⟩|⟨c',p',cap',vs,z1,z2,z3,z4,z5,z6⟩
   .grind
   grind
  .exact MO.cells h4 q
def m7(l:Array MapEntry)(clock:Nat):Prop:=clock=l.size/\ ∀(i:Nat) (e:MapEntry),l.toList[i]?=AC e->e.born=i
def BR(ro:Nat->Prop)(σ:Ch)(w:AJ):CW->AB Nat->Prop
 |.dead,_=>True
 |.cells t cs,AC b=>∃l:AA AL,w.heap[b]?=AC (.cells l.toArray t (0,0))/\LR ro σ w cs l/\ ∀v∈l,QC v
 |.row t k es,AC b=>∃l:AA AL,w.heap[b]?=AC (.cells l.toArray t (0,0))/\RL ro [] w k es l
 |.rowr t k es,AC b=>∃l:AA AL,w.heap[b]?=AC (.cells l.toArray t (0,0))/\RL ro σ w k es l
 |.row _ _ es,AF=>es=[]
 |.ents t b1 b2 es,AC b=>∃l:AA AL,w.heap[b]?=AC (.cells l.toArray t (0,0))/\RL ro σ w 3 (es.map (eC b1 b2)) l
 |.ents _ _ _ es,AF=>es=[]
 |.wins t b n c,AC d=>∃l:AA AL,w.heap[d]?=AC (.cells l.toArray t (0,0))/\RL ro σ w 1 (Ms b n c) l
 |.wins _ _ _ c,AF=>c=0
 |.map es,AC b=>∃l clock,w.heap[b]?=AC (.map l clock)/\ER ro [] w es l.toList/\
   (∀e∈l.toList,e.born<clock)/\(l.toList.map (·.born)).Nodup/\(l.toList.map (·.key)).Nodup
 |.mapP es,AC b=>∃l clock,w.heap[b]?=AC (.map l clock)/\ER ro σ w es l.toList/\
   (∀e∈l.toList,e.born<clock)/\(l.toList.map (·.born)).Nodup/\(l.toList.map (·.key)).Nodup
 |.frow t k es,AC b=>ro b/\ ∃l:AA AL,w.heap[b]?=AC (.cells l.toArray t (0,0))/\RL ro [] w k es l/\l.length=es.length*k
 |.iter cur es,AC b=>du ro w b cur es
 |.mapO fz t k es,AC b=>(fz=AE->ro b)/\ ∃l clock,w.heap[b]?=AC (.map l clock)/\MO ro w t k es l.toList/\cR es l.toList/\
   (∀e∈l.toList,e.born<clock)/\(l.toList.map (·.born)).Nodup/\(l.toList.map (·.key)).Nodup/\m7 l clock
 |.fmap es,AC b=>ro b/\ ∃l clock,w.heap[b]?=AC (.map l clock)/\ER ro [] w es l.toList/\
   (∀e∈l.toList,e.born<clock)/\(l.toList.map (·.born)).Nodup/\(l.toList.map (·.key)).Nodup
 |_,AF=>False
structure NI (ro:Nat->Prop) (w:AJ):Prop where
 lt:∀b,ro b->b<w.heap.size
 g:∀b,b<nG->ro b
 gp:GP w
theorem NI.to(h:NI ro w)(sub:∀b,ro b->ro' b)(keep:∀b,ro b->w'.heap[b]?=w.heap[b]?)(lt:∀b,ro' b->b<w'.heap.size):NI ro' w':=
 ⟨lt,λb hb=>sub b (h.g b hb),h.gp.keep λb hb=>keep b (h.g b hb)⟩
structure nj (fr ro:Nat->Prop) (σ:Ch) (H:Qd) (w:AJ) (i0 b0 c:Nat):Prop where
 lt:c<w.heap.size
 ro:¬ro c
 fr:¬fr c
 ne:∀(j b:Nat) (y:CW),σ[j]?=AC (AC b)->H[j]?=AC y->y.live=AE->c≠b
 one:∀(j b:Nat) (y:CW),σ[j]?=AC (AC b)->H[j]?=AC y->Di w y b c->b=b0/\j=i0
structure Ca (fr ro:Nat->Prop) (σ:Ch) (H:Qd) (w:AJ):Prop where
 len:σ.length=H.length
 roOk:NI ro w
 frLt:∀b,fr b->b<w.heap.size
 roFr:∀b,ro b->¬fr b
 own:∀(i b:Nat) (blk:CW),σ[i]?=AC (AC b)->H[i]?=AC blk->blk.live=AE->b<w.heap.size/\ ¬ro b/\ ¬fr b
 inj:∀(i j b:Nat) (x y:CW),σ[i]?=AC (AC b)->σ[j]?=AC (AC b)->H[i]?=AC x->H[j]?=AC y->x.live=AE->y.live=AE->i=j
 blk:∀(i:Nat) (s:Option Nat) (x:CW),σ[i]?=AC s->H[i]?=AC x->BR ro σ w x s
 hid:∀(i b:Nat) (x:CW) (c:Nat),σ[i]?=AC (AC b)->H[i]?=AC x->Di w x b c->nj fr ro σ H w i b c
variable {fr:Nat->Prop}
theorem Ca.roHeld{H:Qd}(s:Ca fr ro σ H w){i b:Nat}{x:CW}(g:σ[i]?=AC (AC b))(f:H[i]?=AC x)(d:x.held=AE):ro b:=by
 have h:=s.blk i _ x g f;cases x with
 |mapO fz t k j=>exact h.1 d
 |_=>cases d
theorem Ca.hidKeep{H:Qd}(s:Ca fr ro σ H w){i b c:Nat}{x:CW}(j:σ[i]?=AC (AC b))(f:H[i]?=AC x)
  (k:x.live=AE->w'.heap[b]?=w.heap[b]?)(g:∀b,ro b->w'.heap[b]?=w.heap[b]?)(q:Di w' x b c):Di w x b c:=by
 refine q.keep ?_;have h:=q.holds;cases d:x.live with
 |true=>exact k d
 |false=>unfold CW.holds at h;rw[d]at h;exact g b (s.roHeld j f h)
variable {H':Qd}{fr':Nat->Prop}
theorem Ca.hidTo{σ':Ch}{H:Qd}(s:Ca fr ro σ H w)(R:Nat->Nat->Prop)(hR:∀j j' m,R j m->R j' m->j=j')(B:w.heap.size<=w'.heap.size)
  (Q:∀(i b:Nat) (x:CW) (c:Nat),σ[i]?=AC (AC b)->H[i]?=AC x->Di w x b c->ro' c->ro c)
  (W:∀(i b:Nat) (x:CW) (c:Nat),σ[i]?=AC (AC b)->H[i]?=AC x->Di w x b c->fr' c->fr c)
  (h:∀(j d:Nat) (y:CW),σ'[j]?=AC (AC d)->H'[j]?=AC y->y.holds=AE->
   (∃(m:Nat) (n:CW),R j m/\σ[m]?=AC (AC d)/\H[m]?=AC n/\(y.live=AE->n.live=AE)/\ ∀c,Di w' y d c->Di w n d c)\/(w.heap.size<=d/\ ∀c,Di w' y d c->False)):
  ∀(i b:Nat) (x:CW) (c:Nat),σ'[i]?=AC (AC b)->H'[i]?=AC x->Di w' x b c->nj fr' ro' σ' H' w' i b c:=by
 intro i b x c T O L;rcases h i b x T O L.holds with⟨m,n,r0,N,V,g3,X⟩|⟨_,g⟩
 .have k:=s.hid m b n c N V (X c L);refine⟨Vg k.lt B,λq=>k.ro (by grind),λq=>k.fr (by grind),λj d y F J t=>?_,λj d y F J t=>?_⟩
  .rcases h j d y F J (hY t)with⟨G,y1,_,z,E,M,_⟩|⟨f,_⟩
   .exact k.ne G d y1 z E (M t)
   .exact λe=>by have:=k.lt;omega
  .rcases h j d y F J t.holds with⟨G,y1,Y,z,E,M,P⟩|⟨_,f⟩
   .obtain⟨e1,e2⟩:=k.one G d y1 z E (P c t)
    grind
   grind
 grind
theorem Ym(j j' j0:Nat)(h:j=j0)(h':j'=j0):j=j':=h.trans h'.symm
theorem Ca.roLt{H:Qd}(s:Ca fr ro σ H w):∀b,ro b->b<w.heap.size:=s.roOk.lt
structure Qm (fr ro:Nat->Prop) (w:AJ) (ro':Nat->Prop) (w':AJ):Prop where
 sub:∀b,ro b->ro' b
 keepRo:∀b,ro b->w'.heap[b]?=w.heap[b]?
 keepFr:∀b,fr b->w'.heap[b]?=w.heap[b]?
 size:w.heap.size<=w'.heap.size
 shape:∀b x,w.shape? b=AC x->w'.shape? b=AC x
 os:w'.os=w.os
 tape:w'.tape=w.tape
 output:w'.output=w.output
 drawn:w.drawn<=w'.drawn
theorem Qm.refl(fr ro:Nat->Prop)(w:AJ):Qm fr ro w ro w:=
 ⟨λ_ h=>h,λ_ _=>rfl,λ_ _=>rfl,XT _,λ_ _ h=>h,rfl,rfl,rfl,XT _⟩
theorem Qm.trans{fr ro ro1 ro2:Nat->Prop}{w w1 w2:AJ}(h:Qm fr ro w ro1 w1)(k:Qm fr ro1 w1 ro2 w2):Qm fr ro w ro2 w2:=
 ⟨λb q=>k.sub _ (h.sub _ q),λb q=>(k.keepRo _ (h.sub _ q)).trans (h.keepRo _ q),λb q=>(k.keepFr _ q).trans (h.keepFr _ q),
  XV h.size k.size,λb x q=>k.shape _ _ (h.shape _ _ q),k.os.trans h.os,k.tape.trans h.tape,k.output.trans h.output,XV h.drawn k.drawn⟩
variable {τ:Ch}
theorem hJ{i b:Nat}(h:σ[i]?=AC (AC b)):(σ++τ)[i]?=AC (AC b):=by
 grind
theorem Qm.ext(h:Qm fr ro w ro' w')(σ τ:Ch):DL ro σ w ro' (σ++τ) w':=
 ⟨h.sub,h.keepRo,h.shape,λ_ _=>hJ⟩
theorem Qm.ext0(h:Qm fr ro w ro' w')(σ:Ch):DL ro σ w ro' σ w':=
 ⟨h.sub,h.keepRo,h.shape,λ_ _ q=>q⟩
theorem ER.mono{ro ro':Nat->Prop}{σ σ':Ch}{w w':AJ}(h:DL ro σ w ro' σ' w'):∀{es:AA (A×A)} {l:AA MapEntry},ER ro σ w es l->ER ro' σ' w' es l
 |[],_,q=>q
 |x::r,l,q=>by
  simp only[ER]at q⊢;obtain⟨e,l',h1,h2,h3,h4⟩:=q;exact⟨e,l',h1,h2.mono h,h3.mono h,ER.mono h h4⟩
theorem du.keep{ro ro':Nat->Prop}{σ σ':Ch}{w w':AJ}(h:DL ro σ w ro' σ' w'){b:Nat}(M:w'.heap[b]?=w.heap[b]?){g:AB (A×A)}{es:AA (A×A)}
  (q:du ro w b g es):du ro' w' b g es:=by
 rcases q with⟨n,j,k⟩|⟨m,l,d,f,left,n,j,k,y,t,H,z,E⟩
 .exact .inl ⟨n,j,by grind⟩
 .refine .inr ⟨m,l,d,f,left,by grind,h.sub _ j,by rw[h.keep _ j];exact k,y,t,H,z.mono h.nil,λx G=>?_⟩;obtain⟨e,J,B,F,L⟩:=E x G;exact⟨e,J,B,F.mono h.nil,L.mono h.nil⟩
theorem CR.keep{ro ro':Nat->Prop}{σ σ':Ch}{w w':AJ}(h:DL ro σ w ro' σ' w'){b:Nat}(hb:w'.heap[b]?=w.heap[b]?):
  ∀{cs:AA A} {off:Nat},CR ro σ w b cs off->CR ro' σ' w' b cs off
 |[],_,_=>trivial
 |a::r,off,q=>by
  simp only[CR]at q⊢;obtain⟨⟨v,h1,hp,h2⟩,h3⟩:=q;exact⟨⟨v,by rw[rP hb];exact h1,hp,h2.mono h⟩,CR.keep h hb h3⟩
theorem RR.keep{ro ro':Nat->Prop}{σ σ':Ch}{w w':AJ}(h:DL ro σ w ro' σ' w'){b:Nat}(hb:w'.heap[b]?=w.heap[b]?){k:Nat}:
  ∀{es:AA (AA A)} {off:Nat},RR ro σ w b k es off->RR ro' σ' w' b k es off
 |[],_,_=>trivial
 |cs::r,off,q=>by
  simp only[RR]at q⊢;obtain⟨h1,h2,h3⟩:=q;exact⟨h1,CR.keep h hb h2,RR.keep h hb h3⟩
theorem BR.keep{ro ro':Nat->Prop}{σ σ':Ch}{w w':AJ}(h:DL ro σ w ro' σ' w'){x:CW}{s:AB Nat}
  (m:∀b,s=AC b->x.live=AE->w'.heap[b]?=w.heap[b]?)(q:BR ro σ w x s)(F:∀b c,s=AC b->Di w x b c->w'.heap[c]?=w.heap[c]?):BR ro' σ' w' x s:=by
 cases x with
 |mapO fz t k y=>
  cases s with
  |none=>exact q
  |some b=>
   obtain⟨B,l,c,f,g,j⟩:=q;refine⟨λz=>h.sub b (B z),l,c,?_,g.mono h (λd G=>F b d rfl ⟨l,c,f,G⟩),j⟩;cases fz with
   |false=>rw[m b rfl rfl];exact f
   |true=>rw[h.keep b (B rfl)];exact f
 |dead=>trivial
 |cells t L=>
  cases s with
  |none=>exact q
  |some b=>
   obtain⟨l,f,g,j⟩:=q;exact⟨l,by rw[m b rfl rfl];exact f,g.mono h,j⟩
 |row t k y=>
  cases s with
  |none=>exact q
  |some b=>
   obtain⟨l,f,g⟩:=q;exact⟨l,by rw[m b rfl rfl];exact f,g.mono h.nil⟩
 |rowr t k y=>
  cases s with
  |none=>exact q.elim
  |some b=>
   obtain⟨l,f,g⟩:=q;exact⟨l,by rw[m b rfl rfl];exact f,g.mono h⟩
 |wins t b n c=>
  cases s with
  |none=>exact q
  |some d=>
   obtain⟨l,f,g⟩:=q;exact⟨l,by rw[m d rfl rfl];exact f,g.mono h⟩
 |ents t J H y=>
  cases s with
  |none=>exact q
  |some b=>
   obtain⟨l,f,g⟩:=q;exact⟨l,by rw[m b rfl rfl];exact f,g.mono h⟩
 |map y=>
  cases s with
  |none=>exact q
  |some b=>
   obtain⟨l,c,f,g,j⟩:=q;exact⟨l,c,by rw[m b rfl rfl];exact f,g.mono h.nil,j⟩
 |mapP y=>
  cases s with
  |none=>exact q
  |some b=>
   obtain⟨l,c,f,g,j⟩:=q;exact⟨l,c,by rw[m b rfl rfl];exact f,g.mono h,j⟩
 |frow t k y=>
  cases s with
  |none=>exact q
  |some b=>
   obtain⟨B,l,f,g,j⟩:=q;exact⟨h.sub b B,l,by rw[h.keep b B];exact f,g.mono h.nil,j⟩
 |iter E y=>
  cases s with
  |none=>exact q
  |some b=>exact du.keep h (m b rfl rfl) q
 |fmap y=>
  cases s with
  |none=>exact q
  |some b=>
   obtain⟨B,l,c,f,g,j⟩:=q;exact⟨h.sub b B,l,c,by rw[h.keep b B];exact f,g.mono h.nil,j⟩
abbrev Env:=AA (Nat×A)
def lk:Env->Nat->A
 |[],_=>.any
 |(d,a)::r,s=>bif Nat.beq s d then a else lk r s
abbrev up(env:Env)(d:Nat)(a:A):Env:=(d,a)::env
inductive K7 where
 |normal|exit (id:Nat)|ret
abbrev Qz:=K7->Env->Qd->Prop
def yr(fr:Nat->Prop)(w:AJ)(d:Deferred):Prop:=∃D,d={target:=.collected D,args:= #[]}/\fr D/\w.heap[D]?=AC (.deferred (AC []))
def fw(d:Deferred):Prop:=∃fv cap,d={target:=.fn fv cap,args:= #[]}
def IT(fr:Nat->Prop)(ds:AA Deferred)(w:AJ):Prop:=ds.Nodup/\ ∀d∈ds,yr fr w d\/fw d
theorem IT.mark{d:AA Deferred}(h:IT fr d w){D:Nat}(j:({target:=.collected D,args:= #[]}:Deferred)∈d):fr D/\w.heap[D]?=AC (.deferred (AC [])):=by
 rcases h.2 _ j with⟨D',e,g,k⟩|⟨f,c,e⟩
 .have:D=D':=by simpa using e
  subst this;exact⟨g,k⟩
 .simp at e
theorem IT.to{f:AA Deferred}(h:IT fr f w)(k:∀D,({target:=.collected D,args:= #[]}:Deferred)∈f->fr D->w.heap[D]?=AC (.deferred (AC []))->fr' D/\w'.heap[D]?=AC (.deferred (AC []))):IT fr' f w':=by
 refine⟨h.1,λd g=>?_⟩;rcases h.2 d g with⟨D,j,x,n⟩|q
 .obtain⟨t,m⟩:=k D (j▸g) x n;exact .inl ⟨D,j,t,m⟩
 .exact .inr q
variable {ds:AA Deferred}
theorem IT.keep(h:IT fr ds w)(k:Qm fr ro w ro' w'):IT fr ds w':=
 h.to λD _ h2 h3=>⟨h2,(k.keepFr D h2).trans h3⟩
structure C8 (fr:Nat->Prop) (w:AJ) (ds:List Deferred) (fr':Nat->Prop) (ds':List Deferred):Prop where
 sub:∀b,fr b->fr' b
 new:∀b,fr' b->fr b\/w.heap.size<=b
 kd:∀d∈ds,d∈ds'
 ds:∀d∈ds',d∈ds\/ ∃D,d={target:=.collected D,args:= #[]}/\w.heap.size<=D
theorem C8.refl(fr:Nat->Prop)(w:AJ)(ds:AA Deferred):C8 fr w ds fr ds:=⟨λ_ h=>h,λ_ h=>.inl h,λ_ h=>h,λ_ h=>.inl h⟩
variable {g:Nat->Prop}
theorem C8.trans{j:Nat->Prop}{n:AJ}{f m:AA Deferred}(h:C8 fr w ds g f)(t:w.heap.size<=n.heap.size)(k:C8 g n f j m):C8 fr w ds j m:=by
 refine⟨λb q=>k.sub b (h.sub b q),λb q=>?_,λd q=>k.kd d (h.kd d q),λd q=>?_⟩
 .rcases k.new b q with q|q
  .exact h.new b q
  omega
 .rcases k.ds d q with q|⟨D,x,y⟩
  .exact h.ds d q
  grind
theorem Qm.frMono(h:Qm fr' ro w ro' w')(s:∀b,fr b->fr' b):Qm fr ro w ro' w':=
 ⟨h.sub,h.keepRo,λb q=>h.keepFr b (s b q),h.size,h.shape,h.os,h.tape,h.output,h.drawn⟩
theorem Ca.frMono{H:Qd}(h:Ca fr' ro σ H w)(s:∀b,fr b->fr' b):Ca fr ro σ H w:=
 ⟨h.len,h.roOk,λb q=>h.frLt b (s b q),λb q r=>h.roFr b q (s b r),λi b x q1 q2 q3=>let⟨a,b',c⟩:=h.own i b x q1 q2 q3;(by grind),h.inj,h.blk,λi b x c q1 q2 q3=>let k:=h.hid i b x c q1 q2 q3;⟨k.lt,k.ro,λq=>k.fr (s c q),k.ne,k.one⟩⟩
structure DH (fr ro:Nat->Prop) (σ:Ch) (H:Qd) (env:Env) (N:Nat) (a:Act) (w:AJ):Prop where
 sim:Ca fr ro σ H w
 env:∀s,VR ro σ w (lk env s) (a.tmps.getD s undef)
 size:a.tmps.size=N
 defers:IT fr a.defers w
def J2(rd:AB Nat)(fr:Nat->Prop)(w:AJ):Prop:=∀l,rd=AC l->fr l/\ ∃r,w.heap[l]?=AC (.loop r)
theorem ZN:J2 AF fr w:=λl e=>by cases e
variable {rd:AB Nat}
theorem J2.to(h:J2 rd fr w)(k:Qm fr ro w ro' w')(s:∀b,fr b->fr' b):J2 rd fr' w':=λl e=>by
 obtain⟨h1,r,h2⟩:=h l e;exact⟨s l h1,r,(k.keepFr l h1).trans h2⟩
def RV:Exit->K7->Prop
 |.normal,x=>x=.normal
 |.exit id,x=>x=.exit id
 |.ret,x=>x=.ret
 |_,_=>False
def Hj(h0:Nat)(fr ro:Nat->Prop)(σ:Ch)(w:AJ)(N:Nat)(ds:AA Deferred)(Q:Qz):Exit->Act->AJ->Prop:=
 λe a' w'=>∃x env' H' ro' σ' fr',RV e x/\Q x env' H'/\DH fr' ro' σ' H' env' N a' w'/\Qm fr ro w ro' w'/\σ'.take h0=σ.take h0/\C8 fr w ds fr' a'.defers
variable {N k:Nat}{a':Act}{σ1:Ch}
theorem Hj.grow{j:Nat->Prop}{q:AJ}{t d:AA Deferred}{Q:Qz}{e:Exit}
  (h:Hj k g j σ1 q N d Q e a' w')(he:Qm fr ro w j q)(z:σ1.take k=σ.take k)(hg:C8 fr w t g d):Hj k fr ro σ w N t Q e a' w':=by
 obtain⟨x,f,H',m,σ',n,H,F,E,B,y,G⟩:=h;exact⟨x,f,H',m,σ',n,H,F,E,he.trans (B.frMono hg.sub),y.trans z,hg.trans he.size G⟩
variable {h0:Nat}
theorem Hj.step{ro1:Nat->Prop}{w1:AJ}{Q:Qz}{e:Exit}
  (h:Hj h0 fr ro1 σ1 w1 N ds Q e a' w')(he:Qm fr ro w ro1 w1)(hs:σ1.take h0=σ.take h0):Hj h0 fr ro σ w N ds Q e a' w':=h.grow he hs (C8.refl _ _ _)
theorem Hj.mono{j:Nat}{k:AA Deferred}{Q Q':Qz}{e:Exit}
  (h:Hj j fr ro σ w N k Q e a' w')(m:∀x env H,Q x env H->Q' x env H):Hj j fr ro σ w N k Q' e a' w':=by
 obtain⟨x,d,H',f,σ',g,t,q,n⟩:=h;exact⟨x,d,H',f,σ',g,t,m _ _ _ q,n⟩
def Hu(h0:Nat)(fr ro:Nat->Prop)(σ:Ch)(w:AJ)(N:Nat)(ds:AA Deferred)(Q:Qz):Exit->Act->AJ->Prop:=
 λe a' w'=>∃x env' H' ro' σ' fr',RV e x/\Q x env' H'/\DH fr' ro' σ' H' env' N a' w'/\Qm fr ro w ro' w'/\σ'.take h0=σ.take h0/\a'.defers=ds/\C8 fr w ds fr' ds
theorem Hu.grow{j:Nat}{f:Nat->Prop}{q:AJ}{k:AA Deferred}{Q:Qz}{e:Exit}
  (h:Hu j f g σ1 q N k Q e a' w')(he:Qm fr ro w g q)(y:σ1.take j=σ.take j)(hg:C8 fr w k f k):Hu j fr ro σ w N k Q e a' w':=by
 obtain⟨x,d,H',m,σ',n,H,E,B,z,t,G,F⟩:=h;exact⟨x,d,H',m,σ',n,H,E,B,he.trans (z.frMono hg.sub),t.trans y,G,hg.trans he.size F⟩
theorem Hu.step{ro1:Nat->Prop}{w1:AJ}{Q:Qz}{e:Exit}
  (h:Hu h0 fr ro1 σ1 w1 N ds Q e a' w')(he:Qm fr ro w ro1 w1)(hs:σ1.take h0=σ.take h0):Hu h0 fr ro σ w N ds Q e a' w':=h.grow he hs (C8.refl _ _ _)
theorem Hu.mono{j:Nat}{k:AA Deferred}{Q Q':Qz}{e:Exit}
  (h:Hu j fr ro σ w N k Q e a' w')(m:∀x env H,Q x env H->Q' x env H):Hu j fr ro σ w N k Q' e a' w':=by
 obtain⟨x,d,H',f,σ',g,t,q,n⟩:=h;exact⟨x,d,H',f,σ',g,t,m _ _ _ q,n⟩
theorem Hu.postW{j:Nat}{k:AA Deferred}{Q:Qz}{e:Exit}
  (h:Hu j fr ro σ w N k Q e a' w'):Hj j fr ro σ w N k Q e a' w':=by
 obtain⟨x,d,H',f,σ',g,y,t,q,n,m,B,z⟩:=h;exact⟨x,d,H',f,σ',g,y,t,q,n,m,by grind⟩
def WF(rd:AB Nat):Fence:={Fence.wide with round:=rd}
variable {P:AK}{f:FuncId}
theorem WF.calls{args:Array AL}{R:Ending->AJ->Prop}:CallsIn (WF rd) 0 P f args w R↔Calls P f args w R:=callsIn_wide
abbrev D6(P:AK)(rd:AB Nat)(ops:Array AM)(Q:Exit->Act->AJ->Prop):AA AM->Act->AJ->Prop:=wpListIn (WF rd) 0 P ops Q
def TC(P:AK)(h0 N:Nat)(c:Code)(env:Env)(H:Qd)(Q:Qz):Prop:=
 ∀rd fr ro σ a w,DH fr ro σ H env N a w->J2 rd fr w->c.wpIn (WF rd) 0 P (Hj h0 fr ro σ w N a.defers Q) a w
def WO(P:AK)(h0 N:Nat)(all:Array AM)(l:AA AM)(env:Env)(H:Qd)(Q:Qz):Prop:=
 ∀rd fr ro σ a w,DH fr ro σ H env N a w->J2 rd fr w->D6 P rd all (Hu h0 fr ro σ w N a.defers Q) l a w
def Le(h0:Nat)(env:Env)(H:Qd)(env':Env)(H':Qd):Prop:=
 ∀fr ro σ N a w,DH fr ro σ H env N a w->∃ro' σ',DH fr ro' σ' H' env' N a w/\(∀b,ro b->ro' b)/\σ'.take h0=σ.take h0
theorem Le.refl(h0:Nat)(env:Env)(H:Qd):Le h0 env H env H:=λfr ro σ N a w h=>(by grind)
theorem Le.trans{d:Nat}{j n g:Env}{H1 H2 H3:Qd}(h:Le d j H1 n H2)(k:Le d n H2 g H3):Le d j H1 g H3:=by
 intro m t σ N a w r;obtain⟨f,σ1,x,E,B⟩:=h m t σ N a w r;obtain⟨q,σ2,z,y,F⟩:=k m f σ1 N a w x
 grind
theorem Yb(h:∀b,ro b->ro' b):Qm fr ro w ro' w:=
 ⟨h,λ_ _=>rfl,λ_ _=>rfl,XT _,λ_ _ h=>h,rfl,rfl,rfl,XT _⟩
theorem YF{P:AK}{rd:AB Nat}{ops:Array AM}{Q Q':Exit->Act->AJ->Prop}(hq:∀e a w,Q e a w->Q' e a w):
  ∀(l:AA AM) (a:Act) (w:AJ),D6 P rd ops Q l a w->D6 P rd ops Q' l a w
 |[],a,w,h=>hq _ _ _ h
 |o::l,a,w,h=>by
  unfold D6 wpListIn at h⊢;split
  .rename_i hw;rw[Vt hw]at h;obtain⟨h1,h2⟩:=h;refine⟨h1,?_⟩
   revert h2
   generalize(o.semAt (WF rd).round a.eval).run P w=r;intro h2;have hk:=λa w=>YF (P:=P) (rd:=rd) (ops:=ops) hq l a w;cases r with
   |ok x w=>
    cases x with
    |value v=>exact hk _ _ h2
    |skip=>exact hk _ _ h2
    |defer d=>exact hk _ _ h2
    |enter f args=>
     refine⟨h2.1,CallsIn.mono h2.2 ?_⟩;intro e w' q;cases e with
     |returned v=>grind
     |panicked c=>grind
     |outgrown=>obtain⟨a,w,q⟩:=q;exact⟨a,w,hq _ _ _ q⟩
    |row r args=>exact⟨h2.1,RowsIn.mono h2.2 λv w' q=>hk _ _ q⟩
    |round l f tmps assign body=>
     refine⟨h2.1,RoundIn.mono h2.2 ?_⟩;intro e w' q;cases e with
     |returned v=>grind
     |panicked c=>grind
     |outgrown=>obtain⟨a,w,q⟩:=q;exact⟨a,w,hq _ _ _ q⟩
    |_=>exact h2
   |halt x w=>
    cases x with
    |panic v=>exact hq _ _ _ h2
    |_=>exact h2
  .rename_i hw;rw[Vs hw]at h;exact⟨h.1,YF hq l _ _ h.2⟩
theorem g7{o:AM}{a:Act}{x:Next}(h:(execOp a.eval o).run P w=.ok x w')(g:∀d,x≠ .defer d):(o.semAt (WF rd).round a.eval).run P w=.ok x w':=by
 cases e:o.op with
 |defer c=>
  have:execOp a.eval o=(do pure (.defer (<- resolve a.eval c o.type))):=by simp[execOp,e]
  rw[this]at h;simp[Vn]at h;generalize(resolve a.eval c o.type).run P w=r at h;cases r with
  |ok d f=>simp[go_sem]at h;grind
  |halt x f=>simp_all
 |_=>grind[Oper.semAt_eq]
variable {Q:Exit->Act->AJ->Prop}{ops:Array AM}
theorem Ju{o:AM}{l:AA AM}{a:Act}{v:AL}(f:Region.wanted o (yielded ops a.tmps)=AE)
  (h:(execOp a.eval o).run P w=.ok (.value v) w')(k:D6 P rd ops Q l (a.put o.dst v) w'):D6 P rd ops Q (o::l) a w:=by
 unfold D6 wpListIn;rw[Vt f];exact⟨λ_ _=>trivial,by rw[g7 h (λd e=>by cases e)];exact k⟩
theorem QmS{o:AM}{l:AA AM}{a:Act}(f:Region.wanted o (yielded ops a.tmps)=AE)
  (h:(execOp a.eval o).run P w=.ok .skip w')(k:D6 P rd ops Q l (a.put o.dst undef) w'):D6 P rd ops Q (o::l) a w:=by
 unfold D6 wpListIn;rw[Vt f];exact⟨λ_ _=>trivial,by rw[g7 h (λd e=>by cases e)];exact k⟩
theorem rG{o:AM}{l:AA AM}{a:Act}{args:Array AL}(g:Region.wanted o (yielded ops a.tmps)=AE)
  (h:(execOp a.eval o).run P w=.ok (.enter f args) w')(k:Calls P f args w' λe w''=>∃v,e=.returned v/\D6 P rd ops Q l (a.put o.dst v) w''):D6 P rd ops Q (o::l) a w:=by
 unfold D6 wpListIn;rw[Vt g];refine⟨λ_ _=>trivial,?_⟩;rw[g7 h (λd e=>by cases e)];refine⟨λh=>by simp[WF,Fence.wide]at h,WF.calls.2 (Calls.mono k ?_)⟩
 grind
variable {all:Array AM}
section
variable {P:AK} {h0 N:Nat} {env env':Env} {H H':Qd} {Q Q':Qz} {c c':Code}
theorem TC.mono(h:TC P h0 N c env H Q)(hq:∀x env H,Q x env H->Q' x env H):TC P h0 N c env H Q':=
 λrd fr ro σ a w r hrd=>Code.wpIn_mono (λe a w q=>q.mono hq) (h rd fr ro σ a w r hrd)
theorem TC.le(f:Le h0 env H env' H')(h:TC P h0 N c env' H' Q):TC P h0 N c env H Q:=by
 intro m g j σ a w r hrd;obtain⟨d,σ',k,s,t⟩:=f g j σ N a w r;exact Code.wpIn_mono (λe a w q=>q.step (Yb s) t) (h m g d σ' a w k hrd)
theorem WO.le{l:AA AM}(f:Le h0 env H env' H')(h:WO P h0 N all l env' H' Q):WO P h0 N all l env H Q:=by
 intro m g j σ a w r hrd;obtain⟨d,σ',k,s,t⟩:=f g j σ N a w r;exact YF (λe a w q=>q.step (Yb s) t) _ _ _ (h m g d σ' a w k hrd)
theorem WO.mono{all:Array AM}{l:AA AM}(h:WO P h0 N all l env H Q)(hq:∀x env H,Q x env H->Q' x env H):WO P h0 N all l env H Q':=
 λrd fr ro σ a w r hrd=>YF (λe a w q=>q.mono hq) _ _ _ (h rd fr ro σ a w r hrd)
def cO(P:AK)(h0 N:Nat)(c:Code)(Q:Qz):Qz
 |.normal,env,H=>TC P h0 N c env H Q
 |.exit id,env,H=>Q (.exit id) env H
 |.ret,env,H=>Q .ret env H
def Pa(id:Nat)(Q:Qz):Qz
 |.normal,env,H=>Q .normal env H
 |.exit id',env,H=>bif Nat.beq id' id then Q .normal env H else Q (.exit id') env H
 |.ret,env,H=>Q .ret env H
theorem TC.seq(h:TC P h0 N c env H (cO P h0 N c' Q)):TC P h0 N (.seq c c') env H Q:=by
 intro z G F σ a w r hrd;refine wpIn_seq (Code.wpIn_mono ?_ (h z G F σ a w r hrd));rintro e E B ⟨x,d,H',f,σ',g,m,y,t,j,n,k⟩;cases e with
 |normal=>
  obtain rfl:x=.normal:=m;exact Code.wpIn_mono (λe a w q=>q.grow j n k) (y z g f σ' E B t (hrd.to j k.sub))
 |exit id=>
  obtain rfl:x=.exit id:=m;exact⟨_,d,H',f,σ',g,rfl,y,t,j,n,k⟩
 |ret=>
  obtain rfl:x=.ret:=m;exact⟨_,d,H',f,σ',g,rfl,y,t,j,n,k⟩
 |_=>exact m.elim
theorem TC.skip(h:Q .normal env H):TC P h0 N .skip env H Q:=
 λrd fr ro σ a w r hrd=>wpIn_skip ⟨_,env,H,ro,σ,fr,rfl,h,r,Qm.refl _ _ _,rfl,C8.refl _ _ _⟩
theorem TC.ret(h:Q .ret env H):TC P h0 N .ret env H Q:=
 λrd fr ro σ a w r hrd=>wpIn_ret ⟨_,env,H,ro,σ,fr,rfl,h,r,Qm.refl _ _ _,rfl,C8.refl _ _ _⟩
theorem TC.exit{id:Nat}(h:Q (.exit id) env H):TC P h0 N (.exit id) env H Q:=
 λrd fr ro σ a w r hrd=>wpIn_exit ⟨_,env,H,ro,σ,fr,rfl,h,r,Qm.refl _ _ _,rfl,C8.refl _ _ _⟩
theorem TC.block{id:Nat}(h:TC P h0 N c env H (Pa id Q)):TC P h0 N (.block id c) env H Q:=by
 intro B E z σ a w r hrd;refine wpIn_block (Code.wpIn_mono ?_ (h B E z σ a w r hrd));rintro e G F ⟨x,d,H',f,σ',g,y,j,n,q,m,t⟩;cases e with
 |normal=>
  obtain rfl:x=.normal:=y;exact⟨_,d,H',f,σ',g,rfl,j,n,q,m,t⟩
 |exit k=>
  obtain rfl:x=.exit k:=y;simp[Exit.inBlock];simp only[Pa]at j;by_cases e:k=id
  .subst e;rw[Vt rfl];rw[VE]at j;exact⟨_,d,H',f,σ',g,rfl,j,n,q,m,t⟩
  .rw[Vs e];have:Nat.beq k id=false:=by
    simp_all[VM]
   rw[this]at j;exact⟨_,d,H',f,σ',g,rfl,j,n,q,m,t⟩
 |ret=>
  obtain rfl:x=.ret:=y;exact⟨_,d,H',f,σ',g,rfl,j,n,q,m,t⟩
 |_=>exact y.elim
def CQ(env:Env):Operand->A
 |.tmp t=>lk env t
 |.const (.bool b)=>.bool b
 |.const (.int k n)=>.int k n
 |.const (.string s)=>.str s.data.toList
 |.const (.pointer AF)=>.nilp
 |.const (.slice AF 0 0)=>.nils
 |.const (.map AF)=>.nilm
 |.const .nilFunc=>.nilf
 |.const .nilIface=>.nilif
 |.func f=>.fn (.func f) [] []
 |_=>.any
theorem Qq{a:Act}(r:DH fr ro σ H env N a w)(x:Operand):VR ro σ w (CQ env x) (a.eval x):=by
 cases x with
 |tmp t=>exact r.env t
 |const v=>
  cases v with
  |slice a n k=>
   cases a with
   |none=>
    cases n with
    |zero=>cases k with
     |zero=>rfl
     |succ k=>trivial
    |succ n=>trivial
   |some a=>trivial
  |pointer p=>cases p with
   |none=>rfl
   |some p=>trivial
  |map p=>cases p with
   |none=>rfl
   |some p=>trivial
  |string s=>rfl
  |_=>simp_all[CQ,VR,Act.eval]
 |global g=>trivial
 |func f=>exact⟨[],[],rfl,rfl,rfl⟩
theorem TC.cond{x:Operand}{t:Bool}(j:CQ env x=.bool t)(m:t=AE->TC P h0 N c env H Q)(k:t=AD->TC P h0 N c' env H Q):
  TC P h0 N (.cond x c c') env H Q:=by
 intro f h g σ a w r hrd;have d:=Qq r x;rw[j]at d;exact wpIn_cond_split d (λe=>m e f h g σ a w r hrd) (λe=>k e f h g σ a w r hrd)
theorem QnV{t:Array AL}{d s:Nat}{v:AL}(f:d<t.size):(t.setIfInBounds d v).getD s undef=if s=d then v else t.getD s undef:=by
 simp[Array.getD_eq_getD_getElem?]
 grind
theorem VR.up{fr ro:Nat->Prop}{σ:Ch}{a:Act}{w:AJ}(r:∀s,VR ro σ w (lk env s) (a.tmps.getD s undef)){d:Nat}(f:d<a.tmps.size){x:A}{v:AL}(g:VR ro σ w x v):
  ∀s,VR ro σ w (lk (up env d x) s) ((a.tmps.setIfInBounds d v).getD s undef):=by
 intro s;rw[QnV f];simp only[lk];by_cases e:s=d
 .simp_all
 .have:Nat.beq s d=false:=by
   simp_all[VM]
  grind
def QA(all:Array AM)(o:AM)(env:Env)(b:Bool):Prop:=
 match o.guard with
 |none=>b=AE
 |some (j,c)=>∃d,(all[j]?).bind (·.dst)=AC d/\((∃x,lk env d=.bool x/\b=(x==c))\/(lk env d=.tup []/\b=AD))
theorem YT{o:AM}{b:Bool}(h:QA all o env b){a:Act}(r:DH fr ro σ H env N a w):
  Region.wanted o (yielded all a.tmps)=b:=by
 unfold QA at h;unfold Region.wanted;cases m:o.guard with
 |none=>grind
 |some g=>
  rw[m]at h;obtain⟨d,n,⟨x,j,k⟩|⟨j,k⟩⟩:=h
  .have f:=r.env d;rw[j]at f;simp only[VR]at f;have q:a.tmps[d]?=AC (.bool x):=by
    rw[Array.getD_eq_getD_getElem?]at f
    grind[undef]
   simp_all[yielded]
  .have f:=r.env d;rw[j]at f;obtain⟨l,f,t⟩:=f;rw[Array.getD_eq_getD_getElem?]at f;simp[yielded,n]
   grind
def CU(P:AK)(o:AM)(env:Env)(H:Qd)(x:A):Prop:=
 ∀fr ro σ N a w,DH fr ro σ H env N a w->∃v,(execOp a.eval o).run P w=.ok (.value v) w/\VR ro σ w x v
def D3(P:AK)(o:AM)(env:Env)(H:Qd)(x:A)(H':Qd):Prop:=
 ∀fr ro σ N a w,DH fr ro σ H env N a w->∃v w' ro' τ,(execOp a.eval o).run P w=.ok (.value v) w'/\VR ro' (σ++τ) w' x v/\
  Ca fr ro' (σ++τ) H' w'/\Qm fr ro w ro' w'
def Io(P:AK)(o:AM)(env:Env)(H:Qd)(H':Qd):Prop:=
 ∀fr ro σ N a w,DH fr ro σ H env N a w->∃w' ro' τ,(execOp a.eval o).run P w=.ok .skip w'/\
  Ca fr ro' (σ++τ) H' w'/\Qm fr ro w ro' w'
theorem WO.nil(h:Q .normal env H):WO P h0 N all [] env H Q:=
 λrd fr ro σ a w r hrd=>⟨_,env,H,ro,σ,fr,rfl,h,r,Qm.refl _ _ _,rfl,rfl,C8.refl _ _ _⟩
theorem QR{d:Nat}(h:d<=σ.length):(σ++τ).take d=σ.take d:=by
 grind
theorem W_{o:AM}{l:AA AM}{d:Nat}{x:A}(z:h0<=H.length)(hg:QA all o env AE)(F:o.dst=AC d)(J:Nat.blt d N=AE)
  (h:D3 P o env H x H')(k:WO P h0 N all l (up env d x) H' Q):WO P h0 N all (o::l) env H Q:=by
 intro E fr y σ a w r hrd;obtain⟨v,m,f,τ,G,t,n,g⟩:=h fr y σ N a w r;refine Ju (YT hg r) G ?_;simp[F];have j:d<N:=by simp_all
 have B:DH fr f (σ++τ) H' (up env d x) N {a with tmps:=a.tmps.setIfInBounds d v} m:=
  ⟨n,VR.up (fr:=fr) (λs=>(r.env s).mono (g.ext σ τ)) (by rw[r.size];exact j) t,by simpa using r.size,r.defers.keep g⟩
 refine YF (λe a w q=>q.step g (QR ?_)) _ _ _ (k E fr f (σ++τ) _ m B (hrd.to g λ_ q=>q));rw[r.sim.len];exact z
theorem Yn{o:AM}{l:AA AM}{d:Nat}{x:A}(hg:QA all o env AE)(n:o.dst=AC d)(t:Nat.blt d N=AE)
  (f:CU P o env H x)(k:WO P h0 N all l (up env d x) H Q):WO P h0 N all (o::l) env H Q:=by
 intro m fr h σ a w r hrd;obtain⟨v,q,j⟩:=f fr h σ N a w r;refine Ju (YT hg r) q ?_;simp[n];have g:d<N:=by simp_all
 exact k m fr h σ {a with tmps:=a.tmps.setIfInBounds d v} w ⟨r.sim,VR.up (fr:=fr) r.env (by rw[r.size];exact g) j,by simpa using r.size,r.defers⟩ hrd
theorem j6{o:AM}{l:AA AM}(t:h0<=H.length)(hg:QA all o env AE)(z:o.dst=AF)
  (g:Io P o env H H')(k:WO P h0 N all l env H' Q):WO P h0 N all (o::l) env H Q:=by
 intro y h n σ a w r hrd;obtain⟨j,d,τ,B,m,f⟩:=g h n σ N a w r;refine QmS (YT hg r) B ?_;simp[z];have x:DH h d (σ++τ) H' env N a j:=⟨m,λs=>(r.env s).mono (f.ext σ τ),r.size,r.defers.keep f⟩;refine YF (λe a w q=>q.step f (QR ?_)) _ _ _ (k y h d (σ++τ) _ j x (hrd.to f λ_ q=>q));rw[r.sim.len];exact t
theorem yu{o:AM}{l:AA AM}{x:A}(t:h0<=H.length)(hg:QA all o env AE)(B:o.dst=AF)
  (g:D3 P o env H x H')(k:WO P h0 N all l env H' Q):WO P h0 N all (o::l) env H Q:=by
 intro z h n σ a w r hrd;obtain⟨v,j,d,τ,E,F,m,f⟩:=g h n σ N a w r;refine Ju (YT hg r) E ?_;simp[B];have y:DH h d (σ++τ) H' env N a j:=⟨m,λs=>(r.env s).mono (f.ext σ τ),r.size,r.defers.keep f⟩;refine YF (λe a w q=>q.step f (QR ?_)) _ _ _ (k z h d (σ++τ) _ j y (hrd.to f λ_ q=>q));rw[r.sim.len];exact t
theorem WO.skip{o:AM}{l:AA AM}{d:Nat}(hg:QA all o env AD)(j:o.dst=AC d)(m:Nat.blt d N=AE)
  (k:WO P h0 N all l (up env d (.tup [])) H Q):WO P h0 N all (o::l) env H Q:=by
 intro g fr h σ a w r hrd;unfold D6 wpListIn;rw[YT hg r,Vs (by simp)];refine⟨λ_ _=>trivial,?_⟩;simp[j];have f:d<N:=by simp_all
 exact k g fr h σ {a with tmps:=a.tmps.setIfInBounds d undef} w ⟨r.sim,VR.up (fr:=fr) r.env (by rw[r.size];exact f) ⟨[],rfl,rfl⟩,by simpa using r.size,r.defers⟩ hrd
theorem TC.region{id:Nat}{l:AA AM}(h:WO P h0 N l.toArray l env H Q):TC P h0 N (.region id l.toArray AD) env H Q:=
 λrd fr ro σ a w r hrd=>Code.wpIn_mono (λe a w q=>q.postW) (wpIn_region_lit (h rd fr ro σ a w r hrd))
end
mutual
def YY(ρ:Nat->Nat):A->A
 |.ptr i off=>.ptr (ρ i) off
 |.osl i o n k=>.osl (ρ i) o n k
 |.agg cs=>.agg (JB ρ cs)
 |.fn f a c=>.fn f (JB ρ a) (JB ρ c)
 |.iface t v=>.iface t (YY ρ v)
 |.map i=>.map (ρ i)
 |.tup vs=>.tup (JB ρ vs)
 |a=>a
def JB(ρ:Nat->Nat):AA A->AA A
 |[]=>[]
 |a::r=>YY ρ a::JB ρ r
end
def Kv(ρ:Nat->Nat):AA (AA A)->AA (AA A)
 |[]=>[]
 |a::r=>JB ρ a::Kv ρ r
def M0(ρ:Nat->Nat):AA (A×A)->AA (A×A)
 |[]=>[]
 |a::r=>(YY ρ a.1,YY ρ a.2)::M0 ρ r
def QW(ρ:Nat->Nat):CW->CW
 |.cells t cs=>.cells t (JB ρ cs)
 |.rowr t k es=>.rowr t k (Kv ρ es)
 |.ents t b1 b2 es=>.ents t (ρ b1) (ρ b2) es
 |.wins t b n c=>.wins t (ρ b) n c
 |.mapP es=>.mapP (M0 ρ es)
 |b=>b
theorem qt(ρ:Nat->Nat)(b1 b2:Nat):∀(es:AA e_),Kv ρ (es.map (eC b1 b2))=es.map (eC (ρ b1) (ρ b2))
 |[]=>rfl
 |e::es=>by
  have:=qt ρ b1 b2 es;simp only[Vk,Kv,this];congr 1;cases h:e.fl<;>simp[eC,JB,YY,h]
theorem QlM(ρ:Nat->Nat)(b n c:Nat):Kv ρ (Ms b n c)=Ms (ρ b) n c:=by
 unfold Ms
 induction List.range c with
 |nil=>rfl
 |cons j l d=>simp only[Vk,Kv,d];rfl
theorem QU(ρ:Nat->Nat)(x:CW):(QW ρ x).live=x.live:=by cases x<;>rfl
theorem RI(ρ:Nat->Nat)(x:CW)(w:AJ)(b c:Nat):Di w (QW ρ x) b c↔Di w x b c:=by cases x<;>exact Iff.rfl
section
variable {ro:Nat->Prop} {σ σ':Ch} {w:AJ} {ρ:Nat->Nat} (h:∀i:Nat,σ[ρ i]?=σ'[i]?)
include h
mutual
theorem W9:∀{a:A} {v:AL},VR ro σ w (YY ρ a) v↔VR ro σ' w a v
 |.any,_=>by simp only[YY,VR]
 |.bool b,v=>by simp only[YY,VR]
 |.int k n,v=>by simp only[YY,VR]
 |.str s,v=>by simp only[YY,VR]
 |.nilp,v=>by simp only[YY,VR]
 |.ptr i off,v=>by simp only[YY,VR,h]
 |.rp cs,v=>by simp only[YY,VR]
 |.nils,v=>by simp only[YY,VR]
 |.rsl k es,v=>by simp only[YY,VR]
 |.osl i o n k,v=>by simp only[YY,VR,h]
 |.agg cs,v=>by simp only[YY,VR];exact exists_congr λl=>and_congr_right λ_=>NT
 |.fn f a c,v=>by simp only[YY,VR];exact exists_congr λl=>exists_congr λl'=>and_congr_right λ_=>and_congr NT NT
 |.nilf,v=>by simp only[YY,VR]
 |.iface t a,v=>by simp only[YY,VR];exact exists_congr λl=>and_congr_right λ_=>W9
 |.nilif,v=>by simp only[YY,VR]
 |.map i,v=>by simp only[YY,VR,h]
 |.nilm,v=>by simp only[YY,VR]
 |.tup vs,v=>by simp only[YY,VR];exact exists_congr λl=>and_congr_right λ_=>NT
theorem NT:∀{az:AA A} {l:AA AL},LR ro σ w (JB ρ az) l↔LR ro σ' w az l
 |[],l=>by simp only[JB,LR]
 |a::r,l=>by
  simp only[JB,LR];exact exists_congr λv=>exists_congr λl'=>and_congr_right λ_=>and_congr W9 NT
end
theorem tP:∀(cs:AA A),(JB ρ cs).length=cs.length
 |[]=>rfl
 |a::r=>by simp[JB,tP r]
theorem gD{k:Nat}:∀{es:AA (AA A)} {l:AA AL},RL ro σ w k (Kv ρ es) l↔RL ro σ' w k es l
 |[],l=>by rfl
 |a::r,l=>by
  simp only[Kv,RL,tP h];exact exists_congr λl1=>exists_congr λl2=>and_congr_right λ_=>and_congr_right λ_=>and_congr (and_congr_left λ_=>NT h) gD
theorem oI:∀{es:AA (A×A)} {l:AA MapEntry},ER ro σ w (M0 ρ es) l↔ER ro σ' w es l
 |[],l=>by rfl
 |a::r,l=>by
  simp only[M0,ER];exact exists_congr λe=>exists_congr λl'=>and_congr_right λ_=>and_congr (W9 h) (and_congr (W9 h) oI)
theorem gB{x:CW}{s:AB Nat}:BR ro σ w (QW ρ x) s↔BR ro σ' w x s:=by
 cases x with
 |cells t m=>
  cases s with
  |none=>exact Iff.rfl
  |some b=>simp only[QW,BR];exact exists_congr λl=>and_congr_right λ_=>and_congr_left λ_=>NT h
 |rowr t k f=>
  cases s with
  |none=>exact Iff.rfl
  |some b=>simp only[QW,BR];exact exists_congr λl=>and_congr_right λ_=>gD h
 |mapP f=>
  cases s with
  |none=>exact Iff.rfl
  |some b=>simp only[QW,BR];exact exists_congr λl=>exists_congr λc=>and_congr_right λ_=>and_congr_left λ_=>oI h
 |wins t b n c=>
  cases s with
  |none=>exact Iff.rfl
  |some d=>
   simp only[QW,BR];refine exists_congr λl=>and_congr_right λ_=>?_;rw[<- QlM];exact gD h
 |ents t j g f=>
  cases s with
  |none=>exact Iff.rfl
  |some b=>
   simp only[QW,BR];refine exists_congr λl=>and_congr_right λ_=>?_;rw[<- qt];exact gD h
 |_=>cases s<;>exact Iff.rfl
end
def C(P:AK)(f:FuncId)(args:AA A)(H:Qd)(Q:A->Qd->Prop):Prop:=
 ∀fr ro σ vals w,Ca fr ro σ H w->LR ro σ w args vals->Calls P f vals.toArray w λe w'=>
  ∃v r H' ro' τ,e=.returned v/\Q r H'/\Ca fr ro' (σ++τ) H' w'/\VR ro' (σ++τ) w' r v/\Qm fr ro w ro' w'
theorem C.mono{P:AK}{f:FuncId}{args:AA A}{H:Qd}{Q Q':A->Qd->Prop}(h:C P f args H Q)(hq:∀r H,Q r H->Q' r H):C P f args H Q':=
 λfr ro σ vals w s l=>(h fr ro σ vals w s l).mono (by grind)
def KJ:Nat->AA A->Env
 |_,[]=>[]
 |i,a::r=>(i,a)::KJ (i+1) r
theorem dS{ro:Nat->Prop}{σ:Ch}{w:AJ}:∀{args:AA A} {vals:AA AL} {i:Nat} (pre:AA AL),pre.length=i->LR ro σ w args vals->∀rest:Array AL,
  ∀s,VR ro σ w (lk (KJ i args) s) (((pre++vals).toArray++rest).getD s undef)
 |[],vals,i,pre,hp,hl,rest,s=>trivial
 |a::r,vals,i,pre,hp,hl,rest,s=>by
  simp only[LR]at hl;obtain⟨v,l',rfl,h1,h2⟩:=hl;simp only[KJ,lk];by_cases e:s=i
  .simp_all[Array.getElem?_append]
  .have:Nat.beq s i=false:=by
    simp_all[VM]
   rw[this];have:=dS (i:=i+1) (pre++[v]) (by simp[hp]) h2 rest s
   grind
def Hg(P:AK)(fn:Func)(env:Env)(H:Qd)(r:A):Prop:=
 ∀fr ro σ N a w,DH fr ro σ H env N a w->∃v,(results fn a.tmps).run P w=.ok v w/\VR ro σ w r v
def Ja(P:AK)(h0:Nat)(fn:Func)(Q:A->Qd->Prop):Qz
 |.normal,env,H=>∃env' H' r,Le h0 env H env' H'/\Hg P fn env' H' r/\Q r H'
 |.ret,env,H=>∃env' H' r,Le h0 env H env' H'/\Hg P fn env' H' r/\Q r H'
 |.exit _,_,_=>False
theorem LR.length{ro:Nat->Prop}{σ:Ch}{w:AJ}:∀{az:AA A} {l:AA AL},LR ro σ w az l->l.length=az.length
 |[],l,h=>by simp only[LR]at h;simp[h]
 |a::r,l,h=>by
  simp only[LR]at h;obtain⟨v,l',rfl,_,h2⟩:=h;simp[h2.length]
theorem Ca.turn{H:Qd}(s:Ca fr ro σ H w){b:Nat}{obj:Obj}(G:¬ro b)(E:¬fr b)(M:∀(i:Nat) (x:CW),σ[i]?=AC (AC b)->H[i]?=AC x->x.live=AE->False)
  (n:∀(i d:Nat) (x:CW),σ[i]?=AC (AC d)->H[i]?=AC x->Di w x d b->False)
  (z:∀y,w.shape? b=AC y->(w.putObj b obj).shape? b=AC y):Ca fr ro σ H (w.putObj b obj)/\Qm fr ro w ro (w.putObj b obj):=by
 have F:∀c,c≠b->(w.putObj b obj).heap[c]?=w.heap[c]? :=λc B=>World.putObj_heap_other B;have f:(w.putObj b obj).heap.size=w.heap.size:=by simp
 have ev:Qm fr ro w ro (w.putObj b obj):=by
  refine⟨λ_ q=>q,(by grind),(by grind),by omega,λc x q=>?_,rfl,rfl,rfl,XT _⟩
  grind[World.shape?]
 have g:DL ro σ w ro σ (w.putObj b obj):=by have:=ev.ext σ [];grind
 refine⟨⟨s.len,s.roOk.to (λ_ q=>q) ev.keepRo (λc q=>by rw[f];exact s.roLt c q),λc q=>by rw[f];exact s.frLt c q,s.roFr,λi c x h k J=>?_,s.inj,λi y x h k=>?_,
  s.hidTo (· = ·) Ym (by omega) (by simp) (by simp) λj d y m t O=>.inl ⟨j,y,rfl,m,t,id,λc q=>s.hidKeep m t (by grind) ev.keepRo q⟩⟩,ev⟩
 .obtain⟨N,P,L⟩:=s.own i c x h k J
  grind
 .refine(s.blk i y x h k).keep g ?_ ?_
  .grind
  grind
theorem JI{P:AK}{fn:Func}{tmps:Array AL}{R:Ending->AJ->Prop}{fr ro:Nat->Prop}{σ:Ch}{H:Qd}:
  ∀(ds:AA Deferred) (w:AJ),ds.Nodup->(∀d∈ds,∃D,d={target:=.collected D,args:= #[]}/\ ¬ro D/\ ¬fr D/\(∀(i:Nat) (x:CW),σ[i]?=AC (AC D)->H[i]?=AC x->x.live=AE->False)/\(∀(i d:Nat) (x:CW),σ[i]?=AC (AC d)->H[i]?=AC x->Di w x d D->False)/\w.heap[D]?=AC (.deferred (AC [])))->
  Ca fr ro σ H w->(∀w',Ca fr ro σ H w'->Qm fr ro w ro w'->∃v,(results fn tmps).run P w'=.ok v w'/\R (.returned v) w')->LeavesInM Fence.wide 0 P fn tmps R ds .returning w
 |[],w,_,_,s,hk=>by
  obtain⟨v,h1,h2⟩:=hk w s (Qm.refl _ _ _);exact⟨v,h1,h2⟩
 |d::ds,w,hn,hd,s,hk=>by
  obtain⟨D,rfl,h1,h2,h3,h5,h4⟩:=hd d (by simp);obtain⟨n1,n2⟩:=List.nodup_cons.1 hn;obtain⟨s',ev⟩:=s.turn (obj:=.deferred AF) h1 h2 h3 h5 (λy q=>by grind[World.shape?]);refine⟨(by simp),.inl ⟨D,_,rfl,run_takeDeferred h4,?_⟩⟩;refine JI ds _ n2 (λd' q=>?_) s' (λw' q1 q2=>hk w' q1 (ev.trans q2));obtain⟨D',rfl,g1,g2,g3,g5,g4⟩:=hd d' (by simp[q]);refine⟨D',rfl,g1,g2,g3,λi d x z1 z2 z3=>g5 i d x z1 z2 (s.hidKeep z1 z2 (λz=>World.putObj_heap_other (by grind)) (λb q=>World.putObj_heap_other (λe:b=D=>h1 (e▸q))) z3),(World.putObj_heap_other (λe=>?_)).trans g4⟩
  grind
variable {args:AA A}
theorem gj{fn:Func}{c:Code}{H:Qd}{Q:A->Qd->Prop}
  (hf:P.funcs[f]?=AC fn)(hb:fn.body=AC c)(hN:fn.ntmps=N)(hA:Nat.ble args.length N=AE)
  (h:TC P H.length N c (KJ 0 args) H (Ja P H.length fn Q)):C P f args H Q:=by
 intro fr ro σ vals w hs hl;have aa:=hl.length;have ab:args.length<=N:=by simp_all
 refine(callsIn_wide (n:=0)).1 (callsIn_of_wp_marks hf hb trivial (Code.wpIn_mono ?_ (h AF fr ro σ _ w ⟨hs,?_,?_,List.nodup_nil,λd t=>by cases t⟩ ZN)))
 .rintro e E m ⟨x,y,H1,Y,σ1,X,G,J,h3,h4,h5,T⟩;have F:(∃k H' r,Le H.length y H1 k H'/\Hg P fn k H' r/\Q r H')->LeavesInM Fence.wide 0 P fn E.tmps (λe m=>
    ∃v' r H' g τ,e=.returned v'/\Q r H'/\Ca fr g (σ++τ) H' m/\VR g (σ++τ) m r v'/\Qm fr ro w g m) E.defers .returning m:=by
   rintro⟨k,H',r,R,hr,hq⟩;obtain⟨g,σ',j,B,ht⟩:=R X Y σ1 N E m h3;have hσ:σ'=σ++σ'.drop H.length:=by
    have e1:σ'.take H.length=σ:=by rw[ht,h5,VI (by rw[hs.len];omega)]
    grind[List.take_append_drop]
   have s1:Ca fr g σ' H' m:=j.sim.frMono T.sub;refine JI (ro:=g) (fr:=fr) (σ:=σ') (H:=H') E.defers m j.defers.1 (λd t=>?_) s1 (λw2 s2 z=>?_)
   .obtain⟨D,rfl,_⟩:=(T.ds d t).resolve_left (by simp);obtain⟨L,g2⟩:=j.defers.mark t;refine⟨D,rfl,λq=>j.sim.roFr D q L,λq=>?_,λi x W O V=>(j.sim.own i D x W O V).2.2 L,λi d x W O V=>(j.sim.hid i d x D W O V).fr L,g2⟩;rcases T.ds _ t with q'|⟨D',e,q'⟩
    .cases q'
    .have:D=D':=by simpa using e
     subst this;have:=hs.frLt D q;omega
   .have M:DH fr g σ' H' k N {E with defers:=[]} w2:=⟨s2,λs=>(j.env s).mono (by have:=z.ext σ' [];grind),j.size,List.nodup_nil,λd t=>by cases t⟩;obtain⟨v,e1,e2⟩:=hr fr g σ' N _ w2 M;exact⟨v,e1,v,r,H',g,σ'.drop H.length,rfl,hq,hσ▸s2,hσ▸e2,(h4.trans (Yb B)).trans z⟩
  cases e with
  |normal=>
   obtain rfl:x=.normal:=G;exact F J
  |ret=>
   obtain rfl:x=.ret:=G;exact F J
  |exit id=>
   obtain rfl:x=.exit id:=G;exact J.elim
  |_=>exact G.elim
 .intro s;have:=dS (i:=0) [] rfl hl (Array.replicate (fn.ntmps-vals.toArray.size) undef) s
  grind
 grind
section
variable {P:AK} {fn:Func} {env:Env} {H:Qd}
theorem Hg.nil(h:fn.results= #[]):Hg P fn env H (.tup []):=
 λfr ro σ N a w r=>⟨.tuple #[],by simp[results,h,go_sem],[],rfl,rfl⟩
theorem Hg.one{t:Nat}{x:A}(h:fn.results= #[.tmp t])(hx:lk env t=x):Hg P fn env H x:=
 λfr ro σ N a w r=>⟨a.tmps.getD t undef,by simp[results,h,go_sem],hx▸r.env t⟩
theorem Qmv{t u:Nat}{x y:A}(h:fn.results= #[.tmp t,.tmp u])(hx:lk env t=x)(hy:lk env u=y):Hg P fn env H (.tup [x,y]):=
 λfr ro σ N a w r=>⟨.tuple #[a.tmps.getD t undef,a.tmps.getD u undef],by simp[results,h,go_sem],
  [_,_],rfl,_,_,rfl,hx▸r.env t,_,_,rfl,hy▸r.env u,rfl⟩
end
inductive CG (S B:Type) where
 |k (s:S)
 |d (b:B)
 deriving DecidableEq
def iter{S B:Type}(step:S->AB (CG S B)):Nat->S->AB B
 |0,_=>AF
 |n+1,s=>match step s with
  |some (.k s')=>iter step n s'
  |some (.d b)=>AC b
  |none=>AF
variable {B S:Type}
def JM(I:S->Env->Qd->Prop)(d:CG S B)(Q:Qz):Qz
 |.normal,env,H=>∃s,d=.k s/\I s env H
 |.exit id,env,H=>(∃b,d=.d b)/\Q (.exit id) env H
 |.ret,env,H=>(∃b,d=.d b)/\Q .ret env H
variable {env:Env}{m:Nat}
theorem QoH{c:Code}{S B:Type}{step:S->AB (CG S B)}{I:S->Env->Qd->Prop}{Q:Qz}{L:B}
  (body:∀s d env H,I s env H->step s=AC d->(∀b,d=.d b->b=L)->TC P h0 N c env H (JM I d Q)){s0:S}(h:iter step m s0=AC L){H:Qd}(R:I s0 env H):TC P h0 N (.loop c) env H Q:=by
 intro rd F J σ a w r hrd b k cs hro hb hr;have V:∀m s env H fr1 ro1 σ1 a1 w1,iter step m s=AC L->I s env H->DH fr1 ro1 σ1 H env N a1 w1->Qm F J w ro1 w1->σ1.take h0=σ.take h0->C8 F w a.defers fr1 a1.defers->
   ∃e n j,Hj h0 F J σ w N a.defers Q e n j/\ArrivesIn (Machine.fenced P (WF rd)) P (lone (b.atR a1 (.code c::.inLoop c::k)) cs w1) b k cs e n j:=by
  intro m
  induction m with
  |zero=>grind[iter]
  |succ m ih=>
   intro s env H fr1 ro1 σ1 a1 w1 hit R r1 ev1 t1 g1;simp only[iter]at hit;cases X:step s with
   |none=>grind
   |some d=>
    rw[X]at hit;have hd:∀b,d=.d b->b=L:=by
     grind
    obtain⟨e,n,j,O,f⟩:=body s d env H R X hd rd fr1 ro1 σ1 a1 w1 r1 (hrd.to ev1 g1.sub) b (.inLoop c::k) cs hro hb hr;obtain⟨x,g,H',G,σ',E,M,y,Y,q4,W,q6⟩:=O;have z:=ev1.trans (q4.frMono g1.sub);have g2:=g1.trans ev1.size q6;have hp:∀x,Q x g H'->RV e x->Hj h0 F J σ w N a.defers Q e n j:=λx q q'=>⟨x,g,H',G,σ',E,q',q,Y,z,W.trans t1,g2⟩;cases e with
    |normal=>
     obtain rfl:x=.normal:=M;obtain⟨s',rfl,y⟩:=y;obtain⟨e2,a2,w2,T,t⟩:=ih s' g H' E G σ' n j hit y Y z (W.trans t1) g2;exact⟨e2,a2,w2,T,.of_steps (StepsIn.trans f (.one (fenced_calm hb hr rfl) stepR_inLoop)) t⟩
    |exit id=>
     obtain rfl:x=.exit id:=M;exact⟨_,n,j,hp _ y.2 rfl,.pass (x:=.inLoop c) rfl (by simp) f⟩
    |ret=>
     obtain rfl:x=.ret:=M;exact⟨_,n,j,hp _ y.2 rfl,.pass (x:=.inLoop c) rfl (by simp) f⟩
    |_=>exact M.elim
 obtain⟨e,n,j,O,f⟩:=V m s0 env H F J σ a w h R r (Qm.refl _ _ _) rfl (C8.refl _ _ _);exact⟨e,n,j,O,.of_steps (.one (fenced_calm hb hr rfl) stepR_loop) f⟩
theorem TC.loop{P:AK}{h0 N:Nat}{c:Code}{S B:Type}{step:S->AB (CG S B)}(E:S->Env)(Hp:S->Qd){Q:Qz}
  {m:Nat}{s0:S}{b0:B}(h:iter step m s0=AC b0){env:Env}{H:Qd}(hI:Le h0 env H (E s0) (Hp s0))
  (body:∀s d,step s=AC d->(∀b,d=.d b->b=b0)->TC P h0 N c (E s) (Hp s) (JM (λs env H=>Le h0 env H (E s) (Hp s)) d Q)):TC P h0 N (.loop c) env H Q:=
 QoH (I:=λs env H=>Le h0 env H (E s) (Hp s)) (λs d env H hI hs hd=>TC.le hI (body s d hs hd)) h hI
def Ci(π:AA Nat)(n i:Nat):Nat:=
 match π[i]? with
 |some p=>p
 |none=>n+(i-π.length)
def Q8:Qd->AA Nat->AA CW->Qd
 |H,[],xs=>H++xs
 |H,p::π,x::xs=>Q8 (H.set p x) π xs
 |H,_::_,[]=>H
theorem tf:∀(π:AA Nat) (H:Qd) (xs:AA CW),π.length<=xs.length->(Q8 H π xs).length=H.length+(xs.length-π.length)
 |[],H,xs,_=>by simp[Q8]
 |p::π,H,[],h=>by simp at h
 |p::π,H,x::xs,h=>by
  simp[X0]at h;simp only[Q8,tf π (H.set p x) xs (by omega),X4,X0];omega
theorem l9:∀(π:AA Nat) (H:Qd) (xs:AA CW) (i:Nat),i<H.length->i∉π->(Q8 H π xs)[i]?=H[i]?
 |[],H,xs,i,hi,_=>by simp[Q8,XM hi]
 |p::π,H,[],i,hi,h=>by simp[Q8]
 |p::π,H,x::xs,i,hi,h=>by
  simp[X7,not_or]at h;simp[Q8];rw[l9 π (H.set p x) xs i (by grind) h.2,XP (λe=>h.1 e.symm)]
theorem s_:∀(π:AA Nat) (H:Qd) (xs:AA CW) (j:Nat),π.length<=xs.length->(∀p∈π,p<H.length)->π.Nodup->
  (Q8 H π xs)[Ci π H.length j]?=xs[j]?
 |[],H,xs,j,_,_,_=>by
  simp_all[Q8,Ci,XN]
 |p::π,H,[],j,h,_,_=>by simp at h
 |p::π,H,x::xs,j,h,hp,hn=>by
  simp[X0]at h;have hn':=List.nodup_cons.1 hn;simp[Q8];cases j with
  |zero=>
   grind[Ci,l9]
  |succ j=>
   have ih:=s_ π (H.set p x) xs j (by omega) (λq hq=>by grind) hn'.2;have e:Ci (p::π) H.length (j+1)=Ci π H.length j:=by
    simp only[Ci,X0];simp
   grind
theorem QlL(π:AA Nat)(n i:Nat)(hi:n<=i\/i∈π):∃j,i=Ci π n j:=by
 rcases hi with hi|hi
 .refine⟨π.length+(i-n),?_⟩
  grind[Ci]
 .obtain⟨j,d,rfl⟩:=List.mem_iff_getElem.1 hi;exact⟨j,by simp[Ci,XK d]⟩
def YG(σ:Ch)(π:AA Nat):Ch:=π.map λp=>(σ[p]?).getD AF
variable {π:AA Nat}
theorem ge{n:Nat}(d:σ.length=n)(f:∀p∈π,p<n)(j:Nat):(σ++τ)[Ci π n j]?=(YG σ π++τ)[j]? :=by
 rcases(by omega)with h|h
 .grind[Ci,YG]
 grind[Ci,YG]
def C6(P:AK)(o:AM)(env:Env)(H:Qd)(f:FuncId)(args:AA A):Prop:=
 ∀fr ro σ N a w,DH fr ro σ H env N a w->∃vals:AA AL,(execOp a.eval o).run P w=.ok (.enter f vals.toArray) w/\LR ro σ w args vals
theorem Jl{H:Qd}{Hc:AA CW}(hH:π.map (λp=>H[p]?)=Hc.map AC){p:Nat}(d:p∈π):p<H.length:=by
 grind[List.mem_map_of_mem]
variable {Qr:A->Qd->Prop}
theorem WO.call{o:AM}{l:AA AM}{H:Qd}{Q:Qz}{d:AB Nat}
  {aa:AA A}{Hc:Qd}(π:AA Nat)(hh:h0<=H.length)(hg:QA all o env AE)(hd:o.dst=d)(hN:∀x,d=AC x->x<N)
  (av:C6 P o env H f args)(hargs:args=JB (Ci π H.length) aa)(hH:π.map (λp=>H[p]?)=(Hc.map (QW (Ci π H.length))).map AC)(hπ:π.Nodup)
  (hC:C P f aa Hc Qr)
  (k:∀r H1,Qr r H1->WO P h0 N all l (match d with|some d=>up env d (YY (Ci π H.length) r)|none=>env) (Q8 H π (H1.map (QW (Ci π H.length)))) Q):
  WO P h0 N all (o::l) env H Q:=by
 intro rd fr ro σ a w r hrd;obtain⟨ai,h1,h2⟩:=av fr ro σ N a w r;refine rG (YT hg r) h1 ?_;have hp:∀p∈π,p<H.length:=λp q=>Jl hH q;have hσl:=r.sim.len;have ac:∀(j p:Nat),π[j]?=AC p->H[p]?=(Hc[j]?).map (QW (Ci π H.length)):=by
  intro j p M;have:=congrArg (λl=>l[j]?) hH;simp only[Xo,M,Xj]at this;cases e:Hc[j]? with
  |none=>rw[e]at this;simp at this
  |some x=>rw[e]at this;simpa using this
 have aj:π.length=Hc.length:=by simpa using congrArg List.length hH
 have hσc:∀j:Nat,σ[Ci π H.length j]?=(YG σ π)[j]? :=by
  intro j;have:=ge (τ:=[]) hσl hp j;simpa using this
 let frc:Nat->Prop:=λb=>fr b\/(∃i x,σ[i]?=AC (AC b)/\H[i]?=AC x/\x.live=AE/\i∉π)\/ ∃i x d,σ[i]?=AC (AC d)/\H[i]?=AC x/\Di w x d b/\i∉π
 have hπj:∀(j b:Nat),(YG σ π)[j]?=AC (AC b)->∃p,π[j]?=AC p/\σ[p]?=AC (AC b):=by
  intro j b M;simp only[YG,Xo]at M;cases e:π[j]? with
  |none=>rw[e]at M;simp at M
  |some p=>
   rw[e]at M;simp at M;refine⟨p,rfl,?_⟩;cases e2:σ[p]? with
   |none=>rw[e2]at M;simp at M
   |some s=>rw[e2]at M;simp at M;rw[M]
 have hπi:∀(i j p:Nat),π[i]?=AC p->π[j]?=AC p->i=j:=by
  intro i j p T O;have hi:i<π.length:=by
   rcases VB i π.length with q|q
   .exact q
   .rw[XO q]at T;simp at T
  have M:j<π.length:=by
   rcases VB j π.length with q|q
   .exact q
   .rw[XO q]at O;simp at O
  rw[XK hi]at T;rw[XK M]at O;have ad:=(XZ T).trans (XZ O).symm;rcases Nat.lt_trichotomy i j with q|q|q
  .exact(VD.1 hπ i j hi M q ad).elim
  .exact q
  .exact(VD.1 hπ j i M hi q ad.symm).elim
 have ak:Ca frc ro (YG σ π) Hc w:=by
  refine⟨by simp[YG,aj],r.sim.roOk,?_,?_,?_,?_,?_,?_⟩
  .rintro b (hb|⟨i,x,h,g,m,J⟩|⟨i,x,d,h,g,m,J⟩)
   .exact r.sim.frLt b hb
   .exact(r.sim.own i b x h g m).1
   .exact(r.sim.hid i d x b h g m).lt
  .rintro b hb (hf|⟨i,x,h,g,m,J⟩|⟨i,x,d,h,g,m,J⟩)
   .exact r.sim.roFr b hb hf
   .exact(r.sim.own i b x h g m).2.1 hb
   .exact(r.sim.hid i d x b h g m).ro hb
  .intro j b x h g m;obtain⟨p,T,e2⟩:=hπj j b h;have e3:H[p]?=AC (QW (Ci π H.length) x):=by rw[ac j p T,g];rfl
   obtain⟨o1,o2,o3⟩:=r.sim.own p b _ e2 e3 (by rw[QU];exact m);refine⟨o1,o2,?_⟩;rintro(hf|⟨i,y,y1,y2,y3,y4⟩|⟨i,y,d,y1,y2,y3,y4⟩)
   .exact o3 hf
   .have:=r.sim.inj i p b _ _ y1 e2 y2 e3 y3 (by rw[QU];exact m);subst this;exact y4 (VH T)
   .exact(r.sim.hid i d y b y1 y2 y3).ne p b _ e2 e3 (by rw[QU];exact m) rfl
  .intro i j b x y h g m J X q6;obtain⟨p,T,e2⟩:=hπj i b h;obtain⟨p',O,aq⟩:=hπj j b g;have e3:H[p]?=AC (QW (Ci π H.length) x):=by rw[ac i p T,m];rfl
   have an:H[p']?=AC (QW (Ci π H.length) y):=by rw[ac j p' O,J];rfl
   have:=r.sim.inj p p' b _ _ e2 aq e3 an (by rw[QU];exact X) (by rw[QU];exact q6);subst this;have hi:i<π.length:=by
    rcases VB i π.length with q|q
    .exact q
    .rw[XO q]at T;simp at T
   have M:j<π.length:=by
    rcases VB j π.length with q|q
    .exact q
    .rw[XO q]at O;simp at O
   rw[XK hi]at T;rw[XK M]at O;have ad:=(XZ T).trans (XZ O).symm;rcases Nat.lt_trichotomy i j with q|q|q
   .exact(VD.1 hπ i j hi M q ad).elim
   .exact q
   .exact(VD.1 hπ j i M hi q ad.symm).elim
  .intro j s x h g;have M:j<π.length:=by
    rcases VB j π.length with q|q
    .exact q
    .rw[XO (by simpa[YG]using q)]at h;simp at h
   have T:π[j]?=AC π[j]:=XK M;have e3:H[π[j]]?=AC (QW (Ci π H.length) x):=by rw[ac j _ T,g];rfl
   have e2:σ[π[j]]?=AC s:=by
    have:=hσc j;rw[h]at this;simpa[Ci,T]using this
   exact(gB hσc).1 (r.sim.blk _ s _ e2 e3)
  .intro j b x c h g m;obtain⟨p,T,e2⟩:=hπj j b h;have e3:H[p]?=AC (QW (Ci π H.length) x):=by rw[ac j p T,g];rfl
   have k:=r.sim.hid p b _ c e2 e3 ((RI _ _ _ _ _).2 m);refine⟨k.lt,k.ro,?_,?_,?_⟩
   .rintro(hf|⟨i,y,y1,y2,y3,y4⟩|⟨i,y,d,y1,y2,y3,y4⟩)
    .exact k.fr hf
    .exact k.ne i c y y1 y2 y3 rfl
    .obtain⟨rfl,rfl⟩:=k.one i d y y1 y2 y3;exact y4 (VH T)
   .intro R b' y L n Y;obtain⟨p',f1,f2⟩:=hπj R b' L;exact k.ne p' b' _ f2 (show H[p']?=AC (QW (Ci π H.length) y)by rw[ac R p' f1,n];rfl) (by rw[QU];exact Y)
   .intro R b' y L n Y;obtain⟨p',f1,f2⟩:=hπj R b' L;obtain⟨z4,z5⟩:=k.one p' b' _ f2 (show H[p']?=AC (QW (Ci π H.length) y)by rw[ac R p' f1,n];rfl) ((RI _ _ _ _ _).2 Y);subst z5;exact⟨z4,hπi R j p' f1 T⟩
 have ag:LR ro (YG σ π) w aa ai:=(NT hσc).1 (hargs▸h2);refine Calls.mono (hC frc ro (YG σ π) ai w ak ag) ?_;rintro e w' ⟨v,rr,H1,ab,τ,rfl,hq,sc,hv,ev⟩;have hσ':∀j:Nat,(σ++τ)[Ci π H.length j]?=(YG σ π++τ)[j]? :=λj=>ge hσl hp j;have ar:H1.length=π.length+τ.length:=by rw[<- sc.len];simp[YG]
 have al:π.length<=(H1.map (QW (Ci π H.length))).length:=by simp;omega
 have V:Qm fr ro w ab w':=⟨ev.sub,ev.keepRo,λb q=>ev.keepFr b (.inl q),ev.size,ev.shape,ev.os,ev.tape,ev.output,ev.drawn⟩;have G:∀j,(Q8 H π (H1.map (QW (Ci π H.length))))[Ci π H.length j]?=(H1[j]?).map (QW (Ci π H.length)):=by
  intro j;rw[s_ π H _ j al hp hπ];simp
 have B:∀i,i<H.length->i∉π->(Q8 H π (H1.map (QW (Ci π H.length))))[i]?=H[i]? :=λi=>l9 π H _ i;have t:∀i:Nat,(∃j,i=Ci π H.length j)\/(i<H.length/\i∉π):=by
  intro i;by_cases q:H.length<=i\/i∈π
  .exact .inl (QlL π H.length i q)
  .simp only[not_or]at q;exact .inr ⟨by omega,q.2⟩
 have F:∀i b x,i<H.length->i∉π->σ[i]?=AC (AC b)->H[i]?=AC x->x.live=AE->frc b:=λi b x h g m J X=>.inr (.inl ⟨i,x,m,J,X,g⟩);have af:∀i b x c,i<H.length->i∉π->σ[i]?=AC (AC b)->H[i]?=AC x->Di w' x b c->Di w x b c/\frc c:=λi b x c h g m J X=>
  have q6:=r.sim.hidKeep m J (λz=>ev.keepFr b (F i b x h g m J z)) ev.keepRo X
  ⟨q6,.inr (.inr ⟨i,x,b,m,J,q6,g⟩)⟩
 have ah:Ca fr ab (σ++τ) (Q8 H π (H1.map (QW (Ci π H.length)))) w':=by
  refine⟨?_,sc.roOk,λb q=>sc.frLt b (.inl q),λb q q'=>sc.roFr b q (.inl q'),?_,?_,?_,?_⟩
  .rw[tf _ _ _ al];simp[hσl,ar]
  .intro i b x h g m;rcases t i with⟨j,rfl⟩|⟨c1,c2⟩
   .rw[hσ']at h;rw[G]at g;cases e:H1[j]? with
    |none=>rw[e]at g;simp at g
    |some y=>
     rw[e]at g;simp at g;subst g;obtain⟨o1,o2,o3⟩:=sc.own j b y h e (by rw[QU]at m;exact m);exact⟨o1,o2,λq=>o3 (.inl q)⟩
   .rw[B i c1 c2]at g;rw[XM (by omega)]at h;obtain⟨o1,o2,o3⟩:=r.sim.own i b x h g m;exact⟨Vg o1 ev.size,λq=>sc.roFr b q (F i b x c1 c2 h g m),o3⟩
  .intro i E b x y h g m J X q6;have ae:∀(i E:Nat) (x y:CW),(∃j,i=Ci π H.length j)->(E<H.length/\E∉π)->(σ++τ)[i]?=AC (AC b)->(σ++τ)[E]?=AC (AC b)->
     (Q8 H π (H1.map (QW (Ci π H.length))))[i]?=AC x->(Q8 H π (H1.map (QW (Ci π H.length))))[E]?=AC y->x.live=AE->y.live=AE->False:=by
    rintro i E x y ⟨j,rfl⟩ ⟨c1,c2⟩ h g m J X q6;rw[hσ']at h;rw[G]at m;rw[B E c1 c2]at J;rw[XM (by omega)]at g;cases e:H1[j]? with
    |none=>rw[e]at m;simp at m
    |some z=>
     rw[e]at m;simp at m;subst m;exact(sc.own j b z h e (by rw[QU]at X;exact X)).2.2 (F E b y c1 c2 g J q6)
   rcases t i with ci|ci<;>rcases t E with ci'|ci'
   .obtain⟨j,rfl⟩:=ci;obtain⟨R,rfl⟩:=ci';rw[hσ']at h g;rw[G]at m J;cases e:H1[j]? with
    |none=>rw[e]at m;simp at m
    |some z=>
     cases W:H1[R]? with
     |none=>rw[W]at J;simp at J
     |some z'=>
      rw[e]at m;simp at m;subst m;rw[W]at J;simp at J;subst J;rw[sc.inj j R b z z' h g e W (by rw[QU]at X;exact X) (by rw[QU]at q6;exact q6)]
   .exact(ae i E x y ci ci' h g m J X q6).elim
   .exact(ae E i y x ci' ci g h J m q6 X).elim
   .rw[B i ci.1 ci.2]at m;rw[B E ci'.1 ci'.2]at J;rw[XM (by omega)]at h g;exact r.sim.inj i E b x y h g m J X q6
  .intro i s x h g;rcases t i with⟨j,rfl⟩|⟨c1,c2⟩
   .rw[hσ']at h;rw[G]at g;cases e:H1[j]? with
    |none=>rw[e]at g;simp at g
    |some y=>
     rw[e]at g;simp at g;subst g;exact(gB hσ').2 (sc.blk j s y h e)
   .rw[B i c1 c2]at g;rw[XM (by omega)]at h;refine BR.keep (V.ext σ τ) ?_ (r.sim.blk i s x h g) ?_
    .rintro b rfl hl;exact ev.keepFr b (F i b x c1 c2 h g hl)
    .rintro b c rfl hl;exact ev.keepFr c (.inr (.inr ⟨i,x,b,h,g,hl,c2⟩))
  .intro i b x c h g m;rcases t i with⟨j,rfl⟩|⟨c1,c2⟩
   .rw[hσ']at h;rw[G]at g;cases e:H1[j]? with
    |none=>rw[e]at g;simp at g
    |some y=>
     rw[e]at g;simp at g;subst g;have k:=sc.hid j b y c h e ((RI _ _ _ _ _).1 m);refine⟨k.lt,k.ro,λq=>k.fr (.inl q),?_,?_⟩
     .intro E b' y' L n Y;rcases t E with⟨R,rfl⟩|⟨d1,d2⟩
      .rw[hσ']at L;rw[G]at n;cases W:H1[R]? with
       |none=>rw[W]at n;simp at n
       |some u=>
        rw[W]at n;simp at n;subst n;exact k.ne R b' u L W (by rw[QU]at Y;exact Y)
      .rw[B E d1 d2]at n;rw[XM (by omega)]at L;rintro rfl;exact k.fr (F E c y' d1 d2 L n Y)
     .intro E b' y' L n Y;rcases t E with⟨R,rfl⟩|⟨d1,d2⟩
      .rw[hσ']at L;rw[G]at n;cases W:H1[R]? with
       |none=>rw[W]at n;simp at n
       |some u=>
        rw[W]at n;simp at n;subst n;obtain⟨z4,rfl⟩:=k.one R b' u L W ((RI _ _ _ _ _).1 Y);exact⟨z4,rfl⟩
      .rw[B E d1 d2]at n;rw[XM (by omega)]at L;exact(k.fr (af E b' y' c d1 d2 L n Y).2).elim
   .rw[B i c1 c2]at g;rw[XM (by omega)]at h;obtain⟨J,X⟩:=af i b x c c1 c2 h g m;have k:=r.sim.hid i b x c h g J;refine⟨Vg k.lt ev.size,λq=>sc.roFr c q X,k.fr,?_,?_⟩
    .intro E b' y' L n Y;rcases t E with⟨R,rfl⟩|⟨d1,d2⟩
     .rw[hσ']at L;rw[G]at n;cases W:H1[R]? with
      |none=>rw[W]at n;simp at n
      |some u=>
       rw[W]at n;simp at n;subst n;rintro rfl;exact(sc.own R c u L W (by rw[QU]at Y;exact Y)).2.2 X
     .rw[B E d1 d2]at n;rw[XM (by omega)]at L;exact k.ne E b' y' L n Y
    .intro E b' y' L n Y;rcases t E with⟨R,rfl⟩|⟨d1,d2⟩
     .rw[hσ']at L;rw[G]at n;cases W:H1[R]? with
      |none=>rw[W]at n;simp at n
      |some u=>
       rw[W]at n;simp at n;subst n;exact((sc.hid R b' u c L W ((RI _ _ _ _ _).1 Y)).fr X).elim
     .rw[B E d1 d2]at n;rw[XM (by omega)]at L;exact k.one E b' y' L n (af E b' y' c d1 d2 L n Y).1
 have ao:VR ab (σ++τ) w' (YY (Ci π H.length) rr) v:=(W9 hσ').2 hv;have hk:=k rr H1 hq;cases d with
 |none=>
  simp only[hd,Act.put];have r':DH fr ab (σ++τ) (Q8 H π (H1.map (QW (Ci π H.length)))) env N a w':=⟨ah,λs=>(r.env s).mono (V.ext σ τ),r.size,r.defers.keep V⟩;exact⟨_,rfl,YF (λe a w q=>q.step V (QR (by omega))) _ _ _ (hk rd fr ab (σ++τ) _ w' r' (hrd.to V λ_ q=>q))⟩
 |some d=>
  simp only[hd,Act.put];have am:=hN d rfl;have r':DH fr ab (σ++τ) (Q8 H π (H1.map (QW (Ci π H.length)))) (up env d (YY (Ci π H.length) rr)) N {a with tmps:=a.tmps.setIfInBounds d v} w':=
   ⟨ah,VR.up (fr:=fr) (λs=>(r.env s).mono (V.ext σ τ)) (by rw[r.size];exact am) ao,by simpa using r.size,r.defers.keep V⟩
  exact⟨_,rfl,YF (λe a w q=>q.step V (QR (by omega))) _ _ _ (hk rd fr ab (σ++τ) _ w' r' (hrd.to V λ_ q=>q))⟩
variable {T off:Nat}{cs' vs:AA A}{es:AA (AA A)}{q:AA UInt8}{t u:TypeId}
section
variable {P:AK} {o:AM} {env:Env} {H:Qd}
theorem QV{a:Act}(r:DH fr ro σ H env N a w){x:Operand}{k:IntKind}{n:Int}(h:CQ env x=.int k n):a.eval x=.int k n:=by
 have:=Qq r x;rw[h]at this;exact this
theorem gx{a:Act}(r:DH fr ro σ H env N a w){x:Operand}{b:Bool}(h:CQ env x=.bool b):a.eval x=.bool b:=by
 have:=Qq r x;rw[h]at this;exact this
theorem gZ{a:Act}(r:DH fr ro σ H env N a w){x:Operand}{s:AA UInt8}(h:CQ env x=.str s):a.eval x=.string ⟨s.toArray⟩:=by
 have:=Qq r x;rw[h]at this;exact this
theorem CU.move{x:Operand}{v:A}(ho:o.op=.move x)(hx:CQ env x=v):CU P o env H v:=
 λfr ro σ N a w r=>⟨a.eval x,by simp[execOp,ho],hx▸Qq r x⟩
theorem CU.assign{x:Operand}{v:A}(ho:o.op=.assign x)(hx:CQ env x=v):CU P o env H v:=
 λfr ro σ N a w r=>⟨a.eval x,by simp[execOp,ho],hx▸Qq r x⟩
theorem CU.pick{c x y:Operand}{b:Bool}{v:A}(g:o.op=.pick c x y)(d:CQ env c=.bool b)(f:(if b then CQ env x else CQ env y)=v):CU P o env H v:=by
 intro k j σ N a w r;have h:=gx r d;refine⟨if b then a.eval x else a.eval y,by simp_all[execOp,asBool],?_⟩
 grind[Qq]
theorem CU.add{t u:TypeId}{x y:Operand}{k:IntKind}{m n:Int}(g:o.op=.binOp .add t x y u)(d:CQ env x=.int k m)(f:CQ env y=.int k n):CU P o env H (.int k (k.wrap (m+n))):=by
 intro q j σ N a w r;have z:=QV r d;have h:=QV r f;refine⟨_,?_,rfl⟩
 simp_all[execOp,Go.binOp,eqGuard,Op.intArith]
theorem CU.sub{t u:TypeId}{x y:Operand}{k:IntKind}{m n:Int}(g:o.op=.binOp .sub t x y u)(d:CQ env x=.int k m)(f:CQ env y=.int k n):CU P o env H (.int k (k.wrap (m-n))):=by
 intro q j σ N a w r;have z:=QV r d;have h:=QV r f;refine⟨_,?_,rfl⟩
 simp_all[execOp,Go.binOp,eqGuard,Op.intArith]
theorem CU.mul{t u:TypeId}{x y:Operand}{k:IntKind}{m n:Int}(g:o.op=.binOp .mul t x y u)(d:CQ env x=.int k m)(f:CQ env y=.int k n):CU P o env H (.int k (k.wrap (m*n))):=by
 intro q j σ N a w r;have z:=QV r d;have h:=QV r f;refine⟨_,?_,rfl⟩
 simp_all[execOp,Go.binOp,eqGuard,Op.intArith]
theorem Y'{op:BinOp}{x y:Operand}{k:IntKind}{m n:Int}{f:Int->Int->Bool}(g:o.op=.binOp op t x y u)(q:CQ env x=.int k m)(j:CQ env y=.int k n)
  (d:op=.eql/\f=(λa b=>a==b)\/op=.neq/\f=(λa b=>a != b)\/op=.lss/\f=(λa b=>AG (a<b))\/op=.leq/\f=(λa b=>AG (a<=b))\/
   op=.gtr/\f=(λa b=>AG (b<a))\/op=.geq/\f=(λa b=>AG (b<=a))):CU P o env H (.bool (f m n)):=by
 intro E B σ N a w r;have z:=QV r q;have h:=QV r j;refine⟨_,?_,rfl⟩;generalize a.eval=ρ at*;rcases d with⟨rfl,rfl⟩|⟨rfl,rfl⟩|⟨rfl,rfl⟩|⟨rfl,rfl⟩|⟨rfl,rfl⟩|⟨rfl,rfl⟩<;>simp[g,z,h,go_sem]
theorem CU.eql{t u:TypeId}{x y:Operand}{k:IntKind}{m n:Int}(ho:o.op=.binOp .eql t x y u)(hx:CQ env x=.int k m)(hy:CQ env y=.int k n):CU P o env H (.bool (m==n)):=
 Y' ho hx hy (by simp)
theorem CU.neq{t u:TypeId}{x y:Operand}{k:IntKind}{m n:Int}(ho:o.op=.binOp .neq t x y u)(hx:CQ env x=.int k m)(hy:CQ env y=.int k n):CU P o env H (.bool (m != n)):=
 Y' ho hx hy (by simp)
theorem CU.lss{t u:TypeId}{x y:Operand}{k:IntKind}{m n:Int}(ho:o.op=.binOp .lss t x y u)(hx:CQ env x=.int k m)(hy:CQ env y=.int k n):CU P o env H (.bool (AG (m<n))):=
 Y' (f:=λa b=>AG (a<b)) ho hx hy (by simp)
theorem CU.leq{t u:TypeId}{x y:Operand}{k:IntKind}{m n:Int}(ho:o.op=.binOp .leq t x y u)(hx:CQ env x=.int k m)(hy:CQ env y=.int k n):CU P o env H (.bool (AG (m<=n))):=
 Y' (f:=λa b=>AG (a<=b)) ho hx hy (by simp)
theorem CU.gtr{t u:TypeId}{x y:Operand}{k:IntKind}{m n:Int}(ho:o.op=.binOp .gtr t x y u)(hx:CQ env x=.int k m)(hy:CQ env y=.int k n):CU P o env H (.bool (AG (n<m))):=
 Y' (f:=λa b=>AG (b<a)) ho hx hy (by simp)
theorem CU.geq{t u:TypeId}{x y:Operand}{k:IntKind}{m n:Int}(ho:o.op=.binOp .geq t x y u)(hx:CQ env x=.int k m)(hy:CQ env y=.int k n):CU P o env H (.bool (AG (n<=m))):=
 Y' (f:=λa b=>AG (b<=a)) ho hx hy (by simp)
theorem CU.rem{t u:TypeId}{x y:Operand}{k:IntKind}{m n:Int}(g:o.op=.binOp .rem t x y u)(f:CQ env x=.int k m)(d:CQ env y=.int k n)(h:n≠0):CU P o env H (.int k (m.tmod n)):=by
 intro z q σ N a w r;have B:=QV r f;have j:=QV r d;exact⟨_,by simp_all[execOp,Go.binOp,eqGuard,Op.intDiv],rfl⟩
theorem CU.quo{t u:TypeId}{x y:Operand}{k:IntKind}{m n:Int}(g:o.op=.binOp .quo t x y u)(f:CQ env x=.int k m)(d:CQ env y=.int k n)(h:n≠0):CU P o env H (.int k (k.wrap (m.tdiv n))):=by
 intro z q σ N a w r;have B:=QV r f;have j:=QV r d;exact⟨_,by simp_all[execOp,Go.binOp,eqGuard,Op.intDiv],rfl⟩
theorem CU.not{t:TypeId}{x:Operand}{b:Bool}(f:o.op=.unOp .not t x)(d:CQ env x=.bool b):CU P o env H (.bool !b):=by
 intro h g σ N a w r;have j:=gx r d;exact⟨_,by simp_all[execOp,Op.unary],rfl⟩
theorem CU.neg{t:TypeId}{x:Operand}{k:IntKind}{n:Int}(f:o.op=.unOp .neg t x)(d:CQ env x=.int k n):CU P o env H (.int k (k.wrap (0-n))):=by
 intro h g σ N a w r;have j:=QV r d;exact⟨_,by simp_all[execOp,Op.unary,Op.intArith],rfl⟩
theorem RH{s:TypeId}{x:Operand}{k f:IntKind}{n:Int}{g:TypeDesc}(j:o.op=.convert s t x)(h:∀w,(underlying s).run P w=.ok g w)(q:∀w,(underlying t).run P w=.ok (.int k) w)
  (d:CQ env x=.int f n):CU P o env H (.int k (k.wrap n)):=by
 intro y m σ N a w r;have z:=QV r d;refine⟨_,?_,rfl⟩
 simp_all[execOp,convert,Conv.intToInt]
theorem gq{op:BinOp}{x y:Operand}{p:AA UInt8}{f:AA UInt8->AA UInt8->Bool}(g:o.op=.binOp op t x y u)(m:CQ env x=.str p)(k:CQ env y=.str q)
  (d:op=.eql/\f=(λa b=>a==b)\/op=.neq/\f=(λa b=>a != b)\/op=.lss/\f=Op.bytesLess\/op=.geq/\f=(λa b=> !Op.bytesLess a b)\/
   op=.leq/\f=(λa b=>Op.bytesLess a b||a==b)\/op=.gtr/\f=(λa b=> !(Op.bytesLess a b||a==b))):CU P o env H (.bool (f p q)):=by
 intro E B σ N a w r;have z:=gZ r m;have j:=gZ r k;refine⟨_,?_,rfl⟩;generalize a.eval=ρ at*;have h:(⟨p.toArray⟩:ByteArray).toList=p:=by simp
 have n:(⟨q.toArray⟩:ByteArray).toList=q:=by simp
 rcases d with⟨rfl,rfl⟩|⟨rfl,rfl⟩|⟨rfl,rfl⟩|⟨rfl,rfl⟩|⟨rfl,rfl⟩|⟨rfl,rfl⟩<;>simp[g,z,j,Go.binOp,Op.stringOp,h,n,go_sem,bne]
theorem QmC{x y:Operand}{p:AA UInt8}(ho:o.op=.binOp .eql t x y u)(hx:CQ env x=.str p)(hy:CQ env y=.str q):CU P o env H (.bool (p==q)):=
 gq ho hx hy (by simp)
theorem Qmy{x y:Operand}{p:AA UInt8}(ho:o.op=.binOp .neq t x y u)(hx:CQ env x=.str p)(hy:CQ env y=.str q):CU P o env H (.bool (p != q)):=
 gq ho hx hy (by simp)
theorem Qmz{x y:Operand}{p:AA UInt8}(ho:o.op=.binOp .lss t x y u)(hx:CQ env x=.str p)(hy:CQ env y=.str q):CU P o env H (.bool (Op.bytesLess p q)):=
 gq ho hx hy (by simp)
theorem QmA{x y:Operand}{s:AA UInt8}{k:IntKind}{n:Int}{c:UInt8}(z:o.op=.index t x y)(F:∀w,(underlying t).run P w=.ok .string w)(q:CQ env x=.str s)(j:CQ env y=.int k n)
  (J:0<=n)(g:s[n.toNat]?=AC c):CU P o env H (.int .u8 c.toNat):=by
 intro G E σ N a w r;have L:=gZ r q;have B:=QV r j;have f:(⟨s.toArray⟩:ByteArray)[n.toNat]?=AC c:=by
  obtain⟨d,m⟩:=XL.1 g;have h:(⟨s.toArray⟩:ByteArray).size=s.length:=by rfl
  rw[getElem?_pos _ _ (by exact d)];show AC (s.toArray[n.toNat]'(by omega))=AC c;simp[m]
 refine⟨_,?_,rfl⟩
 simp_all[execOp,Instr.index,asIntOf]
theorem sA{c:Call}{x:Operand}{s:AA UInt8}(f:o.op=.call c)(g:c={callee:=.builtin .len,args:= #[x],argTypes:= #[t]})(h:∀w,(underlying t).run P w=.ok .string w)
  (d:CQ env x=.str s):CU P o env H (.int .i64 s.length):=by
 intro m k σ N a w r;have j:=gZ r d;generalize a.eval=ρ at*;subst g;simp[execOp,f,j,resolve,invoke,Builtin.len_,h,goInt,go_sem]<;>rfl
theorem QoM{c:Call}{e:TypeId}{x:Operand}(f:o.op=.call c)(g:c={callee:=.builtin .len,args:= #[x],argTypes:= #[t]})(m:∀w,(underlying t).run P w=.ok (.slice e) w)
  (j:CQ env x=.rsl k es):CU P o env H (.int .i64 es.length):=by
 intro y q σ N a w r;have d:=Qq r x;rw[j]at d;obtain⟨n,h,d,_⟩:=d;refine⟨_,?_,rfl⟩;generalize a.eval=ρ at*;subst g;simp[execOp,f,d,resolve,invoke,Builtin.len_,m,goInt,go_sem]
theorem QoN{c:Call}{e:TypeId}{x:Operand}{i s n:Nat}(f:o.op=.call c)(g:c={callee:=.builtin .len,args:= #[x],argTypes:= #[t]})(q:∀w,(underlying t).run P w=.ok (.slice e) w)
  (j:CQ env x=.osl i s n k):CU P o env H (.int .i64 n):=by
 intro B y σ N a w r;have d:=Qq r x;rw[j]at d;refine⟨_,?_,rfl⟩;generalize a.eval=ρ at*;subst g;rcases d with⟨rfl,d⟩|⟨b,p,h,z,m,_,d,_⟩<;>
 simp[execOp,f,d,resolve,invoke,Builtin.len_,q,goInt,go_sem]
structure Qw (P:AK) (T f off n:Nat):Prop where
 h:∃fs fd,(∀w,(underlying T).run P w=.ok (.struct fs) w)/\fs[f]?=AC fd/\fd.offset=off/\(∀w,(sizeOf fd.type).run P w=.ok n w)/\n≠0
theorem Se(b d n:Nat):(⟨b,d,AF⟩:Addr).add n=⟨b,d+n,AF⟩:=by
 simp_all[Addr.add]
theorem tQ{f n b p:Nat}(d:Qw P T f off n)(w:AJ):(Instr.fieldAt T (.pointer (AC ⟨b,p,AF⟩)) f).run P w=.ok (.pointer (AC ⟨b,p+off,AF⟩)) w:=by
 obtain⟨q,m,t,k,rfl,j,g⟩:=d.h
 simp_all[Instr.fieldAt,Instr.sureAddr,fieldPlace,Se]
theorem lz{f n i p:Nat}{x:Operand}(h:Qw P T f off n)(j:o.op=.fieldAddr T x f)(g:CQ env x=.ptr i p):CU P o env H (.ptr i (p+off)):=by
 intro q m σ N a w r;have d:=Qq r x;rw[g]at d;obtain⟨b,d,k⟩:=d;refine⟨.pointer (AC ⟨b,p+off,AF⟩),?_,b,d,rfl⟩;simp only[execOp,j,k,Vn,tQ h];rfl
theorem CR.drop{ro:Nat->Prop}{σ:Ch}{w:AJ}{b:Nat}:∀(n:Nat) {cs:AA A} {off:Nat},CR ro σ w b cs off->CR ro σ w b (cs.drop n) (off+n)
 |0,_,_,h=>h
 |n+1,[],_,h=>trivial
 |n+1,c::cs,off,h=>by
  have:=CR.drop n h.2
  grind
theorem CR.take{ro:Nat->Prop}{σ:Ch}{w:AJ}{b:Nat}:∀(n:Nat) {cs:AA A} {off:Nat},CR ro σ w b cs off->CR ro σ w b (cs.take n) off
 |0,_,_,h=>trivial
 |n+1,[],_,h=>trivial
 |n+1,c::cs,off,h=>⟨h.1,CR.take n h.2⟩
theorem sU{f n:Nat}{x:Operand}{h:AA A}(t:Qw P T f off n)(j:o.op=.fieldAddr T x f)(q:CQ env x=.rp h)(g:h.drop off=cs'):CU P o env H (.rp cs'):=by
 intro z y σ N a w r;have d:=Qq r x;rw[q]at d;obtain⟨b,p,d,m,k⟩:=d;refine⟨.pointer (AC ⟨b,p+off,AF⟩),?_,b,p+off,rfl,m,g▸k.drop off⟩;simp only[execOp,j,d,Vn,tQ t];rfl
theorem RR.get{ro:Nat->Prop}{σ:Ch}{w:AJ}{b k:Nat}:∀(n:Nat) {es:AA (AA A)} {off:Nat} {c:AA A},RR ro σ w b k es off->es[n]?=AC c->c.length=k/\CR ro σ w b c (off+n*k)
 |n,[],_,_,h,hc=>by simp at hc
 |0,e::es,off,c,h,hc=>by
  simp at hc;subst hc;exact⟨h.1,by simpa using h.2.1⟩
 |n+1,e::es,off,c,h,hc=>by
  have:=RR.get n h.2.2 (by simpa using hc)
  grind
theorem _M{e:TypeId}{x y:Operand}{B:IntKind}{n:Int}{c:AA A}(G:o.op=.indexAddr t x y)(F:∀w,(underlying t).run P w=.ok (.slice e) w)
  (j:∀w,(sizeOf e).run P w=.ok k w)(E:CQ env x=.rsl k es)(M:CQ env y=.int B n)(Q:0<=n)(z:es[n.toNat]?=AC c):CU P o env H (.rp c):=by
 intro W T σ N a w r;have f:=Qq r x;rw[E]at f;have m:=QV r M;obtain⟨R,q,f,V,J⟩:=f;have g:n.toNat<es.length:=(by grind);rcases J with rfl|⟨b,d,rfl,h,O⟩
 .simp at g
 have L:n<es.length:=by omega
 refine⟨.pointer (AC ⟨b,d+n.toNat*k,AF⟩),?_,b,d+n.toNat*k,rfl,h,(O.get n.toNat z).2⟩;generalize a.eval=ρ at*;simp[G,f,m,Instr.indexAt,F,j,Q,L,go_sem]
theorem pU{e:TypeId}{x y:Operand}{i s:Nat}{E:IntKind}{n:Int}(g:o.op=.indexAddr t x y)(J:∀w,(underlying t).run P w=.ok (.slice e) w)
  (f:∀w,(sizeOf e).run P w=.ok k w)(G:CQ env x=.osl i s m k)(F:CQ env y=.int E n)(L:0<=n)(B:n<m):CU P o env H (.ptr i (s*k+n.toNat*k)):=by
 intro R O σ N a w r;have d:=Qq r x;rw[G]at d;have q:=QV r F;rcases d with⟨rfl,_⟩|⟨b,p,z,Q,T,j,d,h,M,_⟩
 .omega
 obtain rfl:=h (by omega);refine⟨.pointer (AC ⟨b,s*k+n.toNat*k,AF⟩),?_,b,j,rfl⟩;generalize a.eval=ρ at*;simp[g,d,q,Instr.indexAt,J,f,L,B,go_sem]
def DZ(H:Qd)(p:A)(cs:AA A):Prop:=
 ∀fr ro σ w v,Ca fr ro σ H w->VR ro σ w p v->∃b off,v=.pointer (AC ⟨b,off,AF⟩)/\CR ro σ w b cs off
theorem VR.lift{a:A}{v:AL}(h:VR ro [] w a v):VR ro σ w a v:=
 h.mono ⟨λ_ q=>q,λ_ _=>rfl,λ_ _ q=>q,(by simp)⟩
theorem CR.lift{ro:Nat->Prop}{σ:Ch}{w:AJ}{b:Nat}:∀{cs:AA A} {off:Nat},CR ro [] w b cs off->CR ro σ w b cs off
 |[],_,_=>trivial
 |c::cs,off,⟨⟨v,h1,hp,h2⟩,h3⟩=>⟨⟨v,h1,hp,h2.lift⟩,CR.lift h3⟩
theorem LR.lift{ro:Nat->Prop}{σ:Ch}{w:AJ}:∀{cs:AA A} {l:AA AL},LR ro [] w cs l->LR ro σ w cs l
 |[],_,h=>h
 |c::cs,l,⟨v,l',h1,h2,h3⟩=>⟨v,l',h1,h2.lift,LR.lift h3⟩
theorem DZ.rp{cs:AA A}:DZ H (.rp cs) cs:=λfr ro σ w v s ⟨b,off,h1,h2,h3⟩=>⟨b,off,h1,h3.lift⟩
theorem LR.cells{ro:Nat->Prop}{σ:Ch}{w:AJ}{b t:Nat}{fz:Nat×Nat}{pre l:AA AL}(g:w.heap[b]?=AC (.cells (pre++l).toArray t fz))(f:∀v∈l,QC v):
  ∀{d:AA A},LR ro σ w d l->CR ro σ w b d pre.length:=by
 induction l generalizing pre with
 |nil=>
  intro d h;cases d with
  |nil=>trivial
  |cons c d=>obtain⟨v,n,h,_⟩:=h;cases h
 |cons v l q=>
  intro d h;cases d with
  |nil=>trivial
  |cons c d=>
   obtain⟨z,n,y,k,j⟩:=h;cases y;refine⟨⟨v,by simp[World.cell?,g],f v (by simp),k⟩,?_⟩;have:=q (pre:=pre++[v]) (by simpa using g) (λx m=>f x (by simp[m])) j
   grind
theorem DZ.cells{i d t:Nat}{f cs':AA A}(hH:H[i]?=AC (.cells t f))(j:f.drop d=cs'):DZ H (.ptr i d) cs':=by
 intro y x σ w v s h;obtain⟨b,n,q⟩:=h;obtain⟨l,g,k,m⟩:=s.blk i _ _ n hH;have:=LR.cells (pre:=[]) (by simpa using g) m k;have:=this.drop d
 grind
theorem LR.get{ro:Nat->Prop}{σ:Ch}{w:AJ}:∀{az:AA A} {l:AA AL} (i:Nat) {a:A},LR ro σ w az l->az[i]?=AC a->∃v,l[i]?=AC v/\VR ro σ w a v
 |[],l,i,a,h,ha=>by simp at ha
 |x::az,l,0,a,⟨v,l',h1,h2,h3⟩,ha=>by
  grind
 |x::az,l,i+1,a,⟨v,l',h1,h2,h3⟩,ha=>by
  obtain⟨v',q1,q2⟩:=LR.get i h3 (by simpa using ha)
  grind
theorem LR.drop{ro:Nat->Prop}{σ:Ch}{w:AJ}:∀(n:Nat) {az:AA A} {l:AA AL},LR ro σ w az l->LR ro σ w (az.drop n) (l.drop n)
 |0,az,l,h=>h
 |n+1,[],l,h=>by cases(show l=[]from h);rfl
 |n+1,a::az,l,⟨v,l',h1,h2,h3⟩=>by subst h1;exact LR.drop n h3
theorem LR.take{ro:Nat->Prop}{σ:Ch}{w:AJ}:∀(n:Nat) {az:AA A} {l:AA AL},LR ro σ w az l->LR ro σ w (az.take n) (l.take n)
 |0,az,l,h=>rfl
 |n+1,[],l,h=>by cases(show l=[]from h);rfl
 |n+1,a::az,l,⟨v,l',h1,h2,h3⟩=>by subst h1;exact⟨v,l'.take n,rfl,h2,LR.take n h3⟩
theorem LR.append{ro:Nat->Prop}{σ:Ch}{w:AJ}:∀{az:AA A} {l:AA AL} {bs:AA A} {m:AA AL},LR ro σ w az l->LR ro σ w bs m->LR ro σ w (az++bs) (l++m)
 |[],l,bs,m,h,k=>by cases(show l=[]from h);exact k
 |a::az,l,bs,m,⟨v,l',h1,h2,h3⟩,k=>by subst h1;exact⟨v,l'++m,rfl,h2,LR.append h3 k⟩
theorem ol{ro:Nat->Prop}{σ:Ch}{w:AJ}{b t:Nat}{fz:Nat×Nat}:∀{cs:AA A} {pre l post:AA AL},w.heap[b]?=AC (.cells (pre++(l++post)).toArray t fz)->(∀v∈l,QC v)->
  LR ro σ w cs l->CR ro σ w b cs pre.length
 |[],_,_,_,_,_,_=>trivial
 |c::cs,pre,l,post,hb,hpl,⟨v,l',h1,h2,h3⟩=>by
  subst h1;refine⟨⟨v,by simp[World.cell?,hb],hpl v (by simp),h2⟩,?_⟩;have:=ol (pre:=pre++[v]) (by simpa using hb) (by grind) h3
  grind
theorem YR{ro:Nat->Prop}{σ:Ch}{w:AJ}{b t k:Nat}{fz:Nat×Nat}:∀{es:AA (AA A)} {pre l:AA AL},w.heap[b]?=AC (.cells (pre++l).toArray t fz)->
  RL ro σ w k es l->RR ro σ w b k es pre.length
 |[],_,_,_,_=>trivial
 |c::es,pre,l,hb,⟨l1,l2,h1,h2,h3,h4⟩=>by
  subst h1;refine⟨h2,ol hb h3.2 h3.1,?_⟩;have hl:=h3.1.length;have:=YR (pre:=pre++l1) (by simpa using hb) h4
  grind
theorem DZ.row{i d t k e f:Nat}{es:AA (AA A)}{c cs':AA A}(hH:H[i]?=AC (.row t k es))(j:d=e*k+f)(he:es[e]?=AC c)(g:c.drop f=cs'):DZ H (.ptr i d) cs':=by
 intro z y σ w v s h;obtain⟨b,x,m⟩:=h;obtain⟨l,n,q⟩:=s.blk i _ _ x hH;have:=((YR (pre:=[]) (by simpa using n) q).get e he).2.drop f;refine⟨b,d,m,?_⟩;subst j g;simpa using this.lift
theorem DZ.rowr{i d t k e f:Nat}{es:AA (AA A)}{c cs':AA A}(hH:H[i]?=AC (.rowr t k es))(q:d=e*k+f)(he:es[e]?=AC c)(j:c.drop f=cs'):DZ H (.ptr i d) cs':=by
 intro z y σ w v s h;obtain⟨b,n,x⟩:=h;obtain⟨l,g,m⟩:=s.blk i _ _ n hH;have:=((YR (pre:=[]) (by simpa using g) m).get e he).2.drop f
 grind
theorem Qmn(h:w'.heap=w.heap)(a:Addr):w'.cell? a=w.cell? a:=by unfold World.cell?;rw[h]
theorem YC{ro:Nat->Prop}{σ:Ch}{w:AJ}{b f:Nat}:∀{g:AA A} (i:Nat),CR ro σ w b g (f+i)->
  ∃l,LR ro σ w g l/\(∀v∈l,QC v)/\ ∀(w':AJ) (d:Array AL),w'.heap=w.heap->(loadCellsFrom ⟨b,f,AF⟩ i g.length d).run P w'=.ok (d++l.toArray) w'
 |[],i,h=>⟨[],rfl,by simp,λw' d _=>by rfl⟩
 |c::g,i,⟨⟨v,h1,hp,h2⟩,h3⟩=>by
  obtain⟨l,q1,qp,q2⟩:=YC (i+1) (by omega);refine⟨v::l,⟨v,l,rfl,h2,q1⟩,by grind,λw' d hw=>?_⟩;have h1':w'.cell? ⟨b,f+i,AF⟩=AC v:=by rw[Qmn hw];exact h1
  simp_all[loadCellsFrom,Se]
theorem Qv{t n:Nat}{x:Operand}{p:A}{d:AA A}(F:o.op=.load t x)(E:∀w,(isAgg t).run P w=.ok AE w)(B:∀w,(sizeOf t).run P w=.ok n w)(y:CQ env x=p)(m:DZ H p d)
  (h:d.take n=vs)(L:vs.length=n):CU P o env H (.agg vs):=by
 intro z k σ N a w r;have f:=Qq r x;rw[y]at f;obtain⟨b,q,G,g⟩:=m z k σ w _ r.sim f;subst h;obtain⟨l,j,_,J⟩:=YC (P:=P) 0 (by simpa using g.take n);refine⟨.agg l.toArray,?_,l,rfl,j⟩
 simp_all[execOp,Instr.loadAt,Instr.sureAddr,loadVar,loadCells]
theorem CU.load{t:Nat}{x:Operand}{p v:A}{k:AA A}(q:o.op=.load t x)(n:∀w,(isAgg t).run P w=.ok AD w)(j:CQ env x=p)(g:DZ H p (v::k)):CU P o env H v:=by
 intro m f σ N a w r;have d:=Qq r x;rw[j]at d;obtain⟨b,h,E,⟨y,B,_,z⟩,_⟩:=g m f σ w _ r.sim d
 simp_all[execOp,Instr.loadAt,Instr.sureAddr,loadVar]
theorem CU.extract{x:Operand}{vs:AA A}{i:Nat}{v:A}(j:o.op=.extract x i)(h:CQ env x=.tup vs)(g:vs[i]?=AC v):CU P o env H v:=by
 intro q n σ N a w r;have d:=Qq r x;rw[h]at d;obtain⟨l,d,f⟩:=d;obtain⟨y,m,k⟩:=f.get i g
 simp_all[execOp,Instr.extract]
theorem CU.field{T f off n:Nat}{x:Operand}{g:AA A}{v:A}(t:Qw P T f off n)(q:∀fs fd,(∀w,(underlying T).run P w=.ok (.struct fs) w)->fs[f]?=AC fd->∀w,(isAgg fd.type).run P w=.ok AD w)
  (z:o.op=.field T x f)(m:CQ env x=.agg g)(k:g[off]?=AC v):CU P o env H v:=by
 intro L G σ N a w r;have d:=Qq r x;rw[m]at d;obtain⟨l,d,j⟩:=d;obtain⟨y,E,B⟩:=j.get off k;obtain⟨fs,fd,F,O,rfl,M,J⟩:=t.h
 simp_all[execOp,Instr.field,asAgg,part]
theorem ZC{fr ro:Nat->Prop}{σ:Ch}{N:Nat}{a:Act}{w:AJ}(r:DH fr ro σ H env N a w):∀(l:AA Operand),LR ro σ w (l.map (CQ env)) (l.map a.eval)
 |[]=>rfl
 |x::l=>⟨_,_,rfl,Qq r x,ZC r l⟩
theorem CU.makeFunc{f:Fn}{first cap:AA Operand}{g d:AA A}(k:o.op=.makeFunc f first.toArray cap.toArray)(j:first.map (CQ env)=g)(h:cap.map (CQ env)=d):CU P o env H (.fn f g d):=by
 intro n m σ N a w r;refine⟨.func f (first.map a.eval).toArray (cap.map a.eval).toArray,?_,_,_,rfl,j▸ZC r first,h▸ZC r cap⟩
 simp_all[execOp,Instr.makeFunc]
theorem dV{x:Operand}{v:A}{d:TypeDesc}(h:o.op=.makeInterface t x)(j:∀w,(underlying t).run P w=.ok d w)(q:∀m,d≠ .interface m)(g:CQ env x=v):CU P o env H (.iface t v):=by
 intro n k σ N a w r;have f:=Qq r x;rw[g]at f;refine⟨.iface t (a.eval x),?_,_,rfl,f⟩
 simp_all[execOp,Instr.makeInterface]
end
mutual
def YJ:A->Bool
 |.ptr _ _=>AD
 |.osl _ _ _ _=>AD
 |.map _=>AD
 |.agg cs=>YI cs
 |.fn _ a c=>YI a&&YI c
 |.iface _ v=>YJ v
 |.tup vs=>YI vs
 |_=>AE
def YI:AA A->Bool
 |[]=>AE
 |a::r=>YJ a&&YI r
end
mutual
theorem VR.data{ro:Nat->Prop}{σ σ':Ch}{w:AJ}:∀{a:A} {v:AL},YJ a=AE->VR ro σ w a v->VR ro σ' w a v
 |.any,_,_,_=>trivial
 |.bool b,v,_,q=>q
 |.int k n,v,_,q=>q
 |.str s,v,_,q=>q
 |.nilp,v,_,q=>q
 |.ptr i off,v,d,q=>by simp[YJ]at d
 |.rp cs,v,_,q=>q
 |.nils,v,_,q=>q
 |.rsl k es,v,_,q=>q
 |.osl i o n k,v,d,q=>by simp[YJ]at d
 |.agg cs,v,d,q=>by
  simp only[VR,YJ]at q d⊢;obtain⟨l,h1,h2⟩:=q;exact⟨l,h1,LR.data d h2⟩
 |.fn f a c,v,d,q=>by
  simp only[VR,YJ,XW]at q d⊢;obtain⟨l,l',h1,h2,h3⟩:=q;exact⟨l,l',h1,LR.data d.1 h2,LR.data d.2 h3⟩
 |.nilf,v,_,q=>q
 |.iface t a,v,d,q=>by
  simp only[VR,YJ]at q d⊢;obtain⟨x,h1,h2⟩:=q;exact⟨x,h1,VR.data d h2⟩
 |.nilif,v,_,q=>q
 |.map i,v,d,q=>by simp[YJ]at d
 |.nilm,v,_,q=>q
 |.tup vs,v,d,q=>by
  simp only[VR,YJ]at q d⊢;obtain⟨l,h1,h2⟩:=q;exact⟨l,h1,LR.data d h2⟩
theorem LR.data{ro:Nat->Prop}{σ σ':Ch}{w:AJ}:∀{az:AA A} {l:AA AL},YI az=AE->LR ro σ w az l->LR ro σ' w az l
 |[],_,_,q=>q
 |a::r,l,d,q=>by
  simp only[LR,YI,XW]at q d⊢;obtain⟨v,l',h1,h2,h3⟩:=q;exact⟨v,l',h1,VR.data d.1 h2,LR.data d.2 h3⟩
end
def Yr:A->Bool
 |.any|.agg _|.tup _=>AD
 |_=>AE
def Yf:A->AA A
 |.agg cs=>cs
 |a=>[a]
def Yi:A->Bool
 |.any=>AD
 |_=>AE
theorem VR.plain{a:A}{v:AL}(d:Yr a=AE)(h:VR ro σ w a v):QC v:=by
 cases a<;>first|(simp[Yr]at d)|skip
 case rsl k es=>obtain⟨f,c,rfl,_⟩:=h;trivial
 case osl=>rcases h with⟨_,rfl⟩|⟨_,_,_,_,_,_,rfl,_⟩<;>trivial
 case fn=>obtain⟨_,_,rfl,_⟩:=h;trivial
 case iface=>obtain⟨_,rfl,_⟩:=h;trivial
 case ptr=>obtain⟨_,_,rfl⟩:=h;trivial
 case rp=>obtain⟨_,_,rfl,_⟩:=h;trivial
 case map=>obtain⟨_,_,rfl⟩:=h;trivial
 all_goals (subst h;trivial)
theorem VR.cells{ro:Nat->Prop}{σ:Ch}{w:AJ}{a:A}{v:AL}(d:Yi a=AE)(h:VR ro σ w a v):∃l:AA AL,v.cells=l.toArray/\LR ro σ w (Yf a) l:=by
 cases a
 case any=>simp[Yi]at d
 case agg cs=>obtain⟨l,rfl,h⟩:=h;exact⟨l,rfl,h⟩
 case tup cs=>obtain⟨l,rfl,h⟩:=h;exact⟨[.tuple l.toArray],rfl,_,_,rfl,⟨l,rfl,h⟩,rfl⟩
 all_goals
  have f:=h.plain rfl;refine⟨[v],?_,v,[],rfl,h,rfl⟩;cases v<;>first|rfl|exact f.elim
theorem LR.plain{ro:Nat->Prop}{σ:Ch}{w:AJ}:∀{az:AA A} {l:AA AL},az.all Yr=AE->LR ro σ w az l->∀v∈l,QC v
 |[],l,_,h=>by cases(show l=[]from h);simp
 |a::az,l,hp,⟨v,l',h1,h2,h3⟩=>by
  subst h1;simp only[List.all_cons,XW]at hp;intro x hx;rcases X7.1 hx with rfl|hx
  .exact h2.plain hp.1
  .exact LR.plain hp.2 h3 x hx
theorem Yx(w:AJ)(obj:Obj)(b:Nat)(d:b<w.heap.size):(w.alloc obj).heap[b]?=w.heap[b]? :=by
 show(w.heap.push obj)[b]?=_
 grind
theorem Yw(w:AJ)(obj:Obj):(w.alloc obj).heap[w.heap.size]?=AC obj:=by
 show(w.heap.push obj)[w.heap.size]?=_;simp
theorem Jd(w:AJ)(obj:Obj):(w.alloc obj).heap.size=w.heap.size+1:=by
 simp
theorem Qnv{b:Nat}{x:TypeId×Nat}(h:w.shape? b=AC x):b<w.heap.size:=by
 grind[World.shape?]
theorem Qm.alloc{fr ro:Nat->Prop}{w:AJ}(obj:Obj)(hro:∀b,ro b->b<w.heap.size)(hfr:∀b,fr b->b<w.heap.size):Qm fr ro w ro (w.alloc obj):=
 ⟨λ_ h=>h,λb h=>Yx w obj b (hro b h),λb h=>Yx w obj b (hfr b h),by simp,
  λb x h=>by grind[World.shape?,Yx],rfl,rfl,rfl,XT _⟩
variable {rest:AA AL}{α:Type}
section
variable {P:AK} {o:AM} {env:Env} {H:Qd} {fr ro:Nat->Prop} {σ:Ch} {w:AJ}
theorem Ca.alloc(s:Ca fr ro σ H w){obj:Obj}{x:CW}(O:BR ro (σ++[AC w.heap.size]) (w.alloc obj) x (AC w.heap.size))
  (J:∀c,Di (w.alloc obj) x w.heap.size c->False:=by exact λ_ h=>h.elim):
  Ca fr ro (σ++[AC w.heap.size]) (H++[x]) (w.alloc obj):=by
 have ev:Qm fr ro w ro (w.alloc obj):=Qm.alloc obj s.roLt s.frLt;have E:=s.len;have f:∀(i:Nat) (y:AB Nat),(σ++[AC w.heap.size])[i]?=AC y->(i<σ.length/\σ[i]?=AC y)\/(i=σ.length/\y=AC w.heap.size):=by
  grind
 have m:∀i:Nat,i<σ.length->(H++[x])[i]?=H[i]? :=λi Q=>XM (by omega);have N:(H++[x])[σ.length]?=AC x:=by rw[E];simp
 refine⟨by simp[E],s.roOk.to (λ_ q=>q) ev.keepRo (λb h=>?_),λb h=>?_,s.roFr,?_,?_,?_,?_⟩
 .rw[Jd];have:=s.roLt b h;omega
 .rw[Jd];have:=s.frLt b h;omega
 .intro i b y g k t;rw[Jd];rcases f i _ g with⟨q,g⟩|⟨rfl,B⟩
  .rw[m i q]at k;obtain⟨a,b,c⟩:=s.own i b y g k t
   grind
  .cases B;exact⟨by omega,λq=>by have:=s.roLt _ q;omega,λq=>by have:=s.frLt _ q;omega⟩
 .intro i j b y z g k t G L M;rcases f i _ g with⟨q,g⟩|⟨rfl,B⟩<;>rcases f j _ k with⟨q',k⟩|⟨rfl,e2⟩
  .rw[m i q]at t;rw[m j q']at G;exact s.inj i j b y z g k t G L M
  .cases e2;rw[m i q]at t;have:=(s.own i _ y g t L).1;omega
  .cases B;rw[m j q']at G;have:=(s.own j _ z k G M).1;omega
  .rfl
 .intro i y z g k;rcases f i _ g with⟨q,g⟩|⟨rfl,B⟩
  .rw[m i q]at k;refine(s.blk i y z g k).keep (ev.ext σ _) ?_ ?_
   .rintro b rfl E;exact Yx w obj b (s.own i b z g k E).1
   .rintro b c rfl E;exact Yx w obj c (s.hid i b z c g k E).lt
  grind
 .refine s.hidTo (· = ·) Ym (by rw[Jd];omega) (λ_ _ _ _ _ _ _ q=>q) (λ_ _ _ _ _ _ _ q=>q) λj d y F n P=>?_;rcases f j _ F with⟨q,F⟩|⟨rfl,B⟩
  .rw[m j q]at n;exact .inl ⟨j,y,rfl,F,n,id,λc q=>s.hidKeep F n (λz=>Yx w obj d (s.own j d y F n z).1) ev.keepRo q⟩
  .rw[N]at n;cases n;cases B;exact .inr ⟨XT _,J⟩
theorem Ca.allocCells(s:Ca fr ro σ H w){t:Nat}{cs:AA A}{l:AA AL}(h:LR ro σ w cs l)(hp:∀v∈l,QC v):
  Ca fr ro (σ++[AC w.heap.size]) (H++[.cells t cs]) (w.alloc (.cells l.toArray t)):=
 s.alloc ⟨l,Yw _ _,h.mono ((Qm.alloc _ s.roLt s.frLt).ext σ _),hp⟩
theorem pc{ro:Nat->Prop}{σ:Ch}{w:AJ}:∀{az bs:AA A} {l:AA AL},LR ro σ w (az++bs) l->∃l1 l2,l=l1++l2/\LR ro σ w az l1/\LR ro σ w bs l2
 |[],bs,l,h=>⟨[],l,rfl,rfl,h⟩
 |a::az,bs,l,⟨v,l',h1,h2,h3⟩=>by
  obtain⟨l1,l2,e,q1,q2⟩:=pc h3;subst h1 e;exact⟨v::l1,l2,rfl,⟨v,l1,rfl,h2,q1⟩,q2⟩
def allK(k:Nat):AA (AA A)->Prop
 |[]=>True
 |c::es=>c.length=k/\allK k es
theorem Je{k:Nat}:∀{es:AA (AA A)} {l rest:AA AL},allK k es->LR ro σ w es.flatten l->(∀v∈l,QC v)->RL ro σ w k es (l++rest)
 |[],_,_,_,_,_=>trivial
 |c::es,l,rest,⟨h1,h2⟩,h,hp=>by
  obtain⟨l1,l2,rfl,q1,q2⟩:=pc h;exact⟨l1,l2++rest,by simp,h1,(by grind),Je h2 q2 (by grind)⟩
theorem Ca.allocRow(s:Ca fr ro σ H w){t:Nat}{l:AA AL}(hk:allK k es)(h:LR ro [] w es.flatten l)(hp:∀v∈l,QC v):
  Ca fr ro (σ++[AC w.heap.size]) (H++[.row t k es]) (w.alloc (.cells (l++rest).toArray t)):=
 s.alloc ⟨l++rest,Yw _ _,(Je hk h hp).mono ((Qm.alloc _ s.roLt s.frLt).ext0 [])⟩
theorem Ca.allocRowr(s:Ca fr ro σ H w){t:Nat}{l:AA AL}(hk:allK k es)(h:LR ro σ w es.flatten l)(hp:∀v∈l,QC v):
  Ca fr ro (σ++[AC w.heap.size]) (H++[.rowr t k es]) (w.alloc (.cells (l++rest).toArray t)):=
 s.alloc ⟨l++rest,Yw _ _,(Je hk h hp).mono ((Qm.alloc _ s.roLt s.frLt).ext σ _)⟩
theorem D3.box{t:Nat}{x:Operand}{v:A}{g:AA A}(y:o.op=.box t x)(q:CQ env x=v)(m:Yi v=AE)(f:Yf v=g)(d:g.all Yr=AE):
  D3 P o env H (.ptr H.length 0) (H++[.cells t g]):=by
 intro z n σ N a w r;have j:=Qq r x;rw[q]at j;obtain⟨l,k,h⟩:=j.cells m;subst f;refine⟨.pointer (AC ⟨w.heap.size,0,AF⟩),w.alloc (.cells l.toArray t),n,[AC w.heap.size],?_,⟨w.heap.size,?_,rfl⟩,r.sim.allocCells h (h.plain d),Qm.alloc _ r.sim.roLt r.sim.frLt⟩
 .generalize a.eval=ρ at*;have e:(newVar t (ρ x)).run P w=.ok ⟨w.heap.size,0,AF⟩ (w.alloc (.cells l.toArray t)):=by
   unfold newVar;rw[k];rfl
  simp_all[execOp,Instr.box]
 .rw[<- r.sim.len];simp
theorem Ca.set(s:Ca fr ro σ H w){i b:Nat}{x x':CW}{obj:Obj}(hσ:σ[i]?=AC (AC b))(hH:H[i]?=AC x)(E:x.live=AE)
  (aa:∀y,w.shape? b=AC y->({w with heap:=w.heap.setIfInBounds b obj}:AJ).shape? b=AC y)
  (O:DL ro σ w ro σ {w with heap:=w.heap.setIfInBounds b obj}->({w with heap:=w.heap.setIfInBounds b obj}:AJ).heap[b]?=AC obj->BR ro σ {w with heap:=w.heap.setIfInBounds b obj} x' (AC b))
  (W:∀c,Di {w with heap:=w.heap.setIfInBounds b obj} x' b c->Di w x b c:=by exact λ_ h=>h.elim):
  Ca fr ro σ (H.set i x') {w with heap:=w.heap.setIfInBounds b obj}/\Qm fr ro w ro {w with heap:=w.heap.setIfInBounds b obj}:=by
 obtain⟨hb,T,V⟩:=s.own i b x hσ hH E;have t:∀c,c≠b->({w with heap:=w.heap.setIfInBounds b obj}:AJ).heap[c]?=w.heap[c]? :=by
  grind
 have N:({w with heap:=w.heap.setIfInBounds b obj}:AJ).heap[b]?=AC obj:=by
  grind
 have m:({w with heap:=w.heap.setIfInBounds b obj}:AJ).heap.size=w.heap.size:=by simp
 have ev:Qm fr ro w ro {w with heap:=w.heap.setIfInBounds b obj}:=
  ⟨λ_ h=>h,(by grind),(by grind),by omega,by
   grind[World.shape?],rfl,rfl,rfl,XT _⟩
 have hi:i<H.length:=(by grind);have X:(H.set i x')[i]?=AC x':=(by grind);have f:∀j,j≠i->(H.set i x')[j]?=H[j]? :=(by grind);have Q:=O (ev.ext0 σ) N;refine⟨⟨by rw[X4];exact s.len,s.roOk.to (λ_ q=>q) ev.keepRo (λc h=>by rw[m];exact s.roLt c h),λc h=>by rw[m];exact s.frLt c h,s.roFr,?_,?_,?_,?_⟩,ev⟩
 .intro j c y k g G;rw[m];by_cases q:j=i
  .grind
  .rw[f j q]at g;exact s.own j c y k g G
 .intro j n c y z k g G J P R;by_cases q:j=i
  .subst q;rw[hσ]at k;cases k;by_cases F:n=j
   .exact F.symm
   .rw[f n F]at J;exact s.inj j n _ x z hσ g hH J E R
  .rw[f j q]at G;by_cases F:n=i
   .subst F;rw[hσ]at g;cases g;exact s.inj j n _ y x k hσ G hH P E
   .rw[f n F]at J;exact s.inj j n c y z k g G J P R
 .intro j y z k g;by_cases q:j=i
  .grind
  .rw[f j q]at g;refine(s.blk j y z k g).keep (ev.ext0 σ) ?_ ?_
   .rintro c rfl B;exact t c (λe=>q (s.inj j i b z x (e▸k) hσ g hH B E))
   .rintro c d rfl Y;exact t d ((s.hid j c z d k g Y).ne i b x hσ hH E)
 .refine s.hidTo (· = ·) Ym (by omega) (λ_ _ _ _ _ _ _ q=>q) (λ_ _ _ _ _ _ _ q=>q) λj d y M L g3=>.inl ?_;by_cases q:j=i
  .grind
  .rw[f j q]at L;exact⟨j,y,rfl,M,L,id,λc z=>s.hidKeep M L (λB=>t d (λe=>q (s.inj j i b y x (e▸M) hσ L hH B E))) ev.keepRo z⟩
def splice(l:AA α)(o:Nat)(vs:AA α):AA α:=l.take o++vs++l.drop (o+vs.length)
theorem Yy{α:Type}{l:AA α}{o:Nat}{vs:AA α}(h:o+vs.length<=l.length):(splice l o vs).length=l.length:=by
 simp[splice];omega
theorem lq{h:Array Obj}{b:Nat}{f:Obj->Obj}{x:Obj}(d:h[b]?=AC x):h.modify b f=h.setIfInBounds b (f x):=by
 grind
theorem Yz{b t:Nat}:∀{vs l:AA AL} {w:AJ} (d i:Nat),w.heap[b]?=AC (.cells l.toArray t (0,0))->d+i+vs.length<=l.length->(∀v∈vs,QC v)->
  (storeCells ⟨b,d,AF⟩ vs i).run P w=.ok () {w with heap:=w.heap.setIfInBounds b (.cells (splice l (d+i) vs).toArray t (0,0))}
 |[],l,w,d,i,hb,hl,hp=>by
  have e:w.heap.setIfInBounds b (.cells (splice l (d+i) []).toArray t (0,0))=w.heap:=by
   apply Array.ext_getElem?;intro j;rw[Vf];by_cases q:b=j
   .subst q;obtain⟨f,z⟩:=Vd.1 hb;simp[f,splice,z]
   grind
  rw[e];rfl
 |v::vs,l,w,d,i,hb,hl,hp=>by
  simp only[X0]at hl;have x:=hp v (by simp);have n:w.cell? ⟨b,d+i,AF⟩=AC l[d+i]:=by
   simp[World.cell?,hb]
  have h:w.frozen? ⟨b,d+i,AF⟩=false:=by
   simp[World.frozen?,hb]
  have g:w.setCell ⟨b,d+i,AF⟩ v={w with heap:=w.heap.setIfInBounds b (.cells (splice l (d+i) [v]).toArray t (0,0))}:=by
   unfold World.setCell;rw[lq hb];simp only[Option.isSome_none,Xi,if_false];congr 3;have:l.toArray.setIfInBounds (d+i) v=(l.set (d+i) v).toArray:=by simp
   rw[this];congr 1;rw[List.set_eq_take_append_cons_drop,Vt (by omega)];simp[splice]
  have f:b<w.heap.size:=by
   grind
  have B:=Yz (vs:=vs) (l:=splice l (d+i) [v]) (w:={w with heap:=w.heap.setIfInBounds b (.cells (splice l (d+i) [v]).toArray t (0,0))}) d (i+1)
   (by show(w.heap.setIfInBounds b _)[b]?=_;rw[Vf,Vt rfl,Vt f])
   (by rw[Yy (by simp;omega)];omega) (by grind)
  have F:splice (splice l (d+i) [v]) (d+(i+1)) vs=splice l (d+i) (v::vs):=by
   have k:(l.take (d+i)).length=d+i:=by simp;omega
   unfold splice;rw[Vj (l.take (d+i))];have E:d+(i+1)=(l.take (d+i)).length+1:=by omega
   have H:(l.take (d+i)++([v]++l.drop (d+i+[v].length))).take ((l.take (d+i)).length+1)=l.take (d+i)++[v]:=by
    grind
   have G:(l.take (d+i)++([v]++l.drop (d+i+[v].length))).drop ((l.take (d+i)).length+1+vs.length)=l.drop (d+i+(v::vs).length):=by
    rw[show(l.take (d+i)).length+1+vs.length=(l.take (d+i)).length+(1+vs.length)from by omega,Vb];simp[Nat.add_comm 1];omega
   simp_all
  have y:(w.heap.setIfInBounds b (.cells (splice l (d+i) [v]).toArray t (0,0))).setIfInBounds b (.cells (splice (splice l (d+i) [v]) (d+(i+1)) vs).toArray t (0,0))=
    w.heap.setIfInBounds b (.cells (splice l (d+i) (v::vs)).toArray t (0,0)):=by
   grind
  rw[y]at B;have m:(Go.store ⟨b,d+i,AF⟩ v).run P w=.ok () {w with heap:=w.heap.setIfInBounds b (.cells (splice l (d+i) [v]).toArray t (0,0))}:=by
   rw[<- g];cases v<;>first|exact x.elim|simp[Go.store,Sem.run,n,h,go_sem]
  simp_all[storeCells,Se]
theorem Jw{b t:Nat}{l l':AA AL}(f:w.heap[b]?=AC (.cells l.toArray t (0,0)))(g:l'.length=l.length)(y:TypeId×Nat)(h:w.shape? b=AC y):
  {w with heap:=w.heap.setIfInBounds b (.cells l'.toArray t (0,0))}.shape? b=AC y:=by
 have d:b<w.heap.size:=by
  grind
 simp_all[World.shape?]
theorem LR.splice{ro:Nat->Prop}{σ:Ch}{w:AJ}{az vs:AA A}{l m:AA AL}(d:Nat)(h:LR ro σ w az l)(k:LR ro σ w vs m):LR ro σ w (Sw.splice az d vs) (Sw.splice l d m):=by
 unfold Sw.splice;rw[k.length];exact((h.take d).append k).append (h.drop _)
theorem r9{l m:AA AL}{d:Nat}(h:∀v∈l,QC v)(k:∀v∈m,QC v):∀v∈Sw.splice l d m,QC v:=by
 grind[Sw.splice]
theorem Io.store{t n i off T:Nat}{x y:Operand}{h vs cs':AA A}{v:A}(ho:o.op=.store t x y)(O:CQ env x=.ptr i off)(hH:H[i]?=AC (.cells T h))(Y:∀w,(sizeOf t).run P w=.ok n w)
  (q:CQ env y=v)(X:Yi v=AE)(W:Yf v=vs)(V:vs.length=n)(L:vs.all Yr=AE)(B:Nat.ble (off+n) h.length=AE)(z:splice h off vs=cs'):
  Io P o env H (H.set i (.cells T cs')):=by
 intro fr M σ N a w r;have g:=Qq r x;rw[O]at g;obtain⟨b,g,h2⟩:=g;have F:=Qq r y;rw[q]at F;obtain⟨m,h4,d⟩:=F.cells X;rw[W]at d;obtain⟨l,J,j,R⟩:=r.sim.blk i _ _ g hH;have k:off+n<=h.length:=by simp_all
 have G:m.length=n:=by rw[d.length,V]
 have E:=Yz (P:=P) off 0 J (by rw[j.length,G];omega) (d.plain L);have f:=r.sim.set (x':=.cells T cs') g hH rfl
  (λy q=>Jw J (Yy (by rw[j.length,G];omega)) y q)
  (λe Q=>⟨_,Q,z▸(j.splice off d).mono e,r9 R (d.plain L)⟩)
 refine⟨_,M,[],?_,by grind,f.2⟩
 simp_all[storeVar,execOp,Instr.storeAt,Instr.sureAddr]
theorem RL.splice{ro:Nat->Prop}{σ:Ch}{w:AJ}{k:Nat}:∀{e:Nat} {es:AA (AA A)} {l m:AA AL} {c d:AA A} {f:Nat},RL ro σ w k es l->es[e]?=AC c->LR ro σ w d m->(∀v∈m,QC v)->f+d.length<=k->
  RL ro σ w k (es.set e (Sw.splice c f d)) (Sw.splice l (e*k+f) m)
 |_,[],_,_,_,_,_,_,h,_,_,_=>by simp at h
 |0,c0::es,l,m,c,d,f,⟨l1,l2,h1,h2,h3,h4⟩,hc,hm,hp,hf=>by
  simp at hc;subst hc h1;have hl1:=h3.1.length;refine⟨Sw.splice l1 f m,l2,?_,?_,⟨h3.1.splice f hm,r9 h3.2 hp⟩,h4⟩
  .unfold Sw.splice;simp[Nat.zero_mul,Xv,Vj];rw[X8 (by omega),X9 (by rw[hm.length];omega)]
  .rw[Yy (by omega)];exact h2
 |e+1,c0::es,l,m,c,d,f,⟨l1,l2,h1,h2,h3,h4⟩,hc,hm,hp,hf=>by
  subst h1;have hl1:=h3.1.length;refine⟨l1,Sw.splice l2 (e*k+f) m,?_,h2,h3,RL.splice h4 (by grind) hm hp hf⟩;have e1:(e+1)*k+f=l1.length+(e*k+f):=by grind
  unfold Sw.splice;rw[e1,Vc,show l1.length+(e*k+f)+m.length=l1.length+(e*k+f+m.length)from by omega,Vb];simp
theorem RL.length{ro:Nat->Prop}{σ:Ch}{w:AJ}{k:Nat}:∀{es:AA (AA A)} {l:AA AL},RL ro σ w k es l->es.length*k<=l.length
 |[],l,_=>by simp
 |c::es,l,⟨l1,l2,h1,h2,h3,h4⟩=>by
  have:=RL.length h4;have:=h3.1.length
  grind[Nat.succ_mul]
theorem QhP{t n i e f:Nat}{x y:Operand}{d:AA (AA A)}{c M:AA A}{v:A}(ho:o.op=.store t x y)(hx:CQ env x=.ptr i off)(hH:H[i]?=AC (.row T k es))(hs:∀w,(sizeOf t).run P w=.ok n w)
  (j:off=e*k+f)(hc:es[e]?=AC c)(E:CQ env y=v)(hk:Yi v=AE)(hv:Yf v=vs)(Y:vs.length=n)(R:vs.all Yr=AE)(hd:YI vs=AE)(hf:Nat.ble (f+n) k=AE)
  (F:splice c f vs=M)(z:es.set e M=d):
  Io P o env H (H.set i (.row T k d)):=by
 intro fr V σ N a w r;have q:=Qq r x;rw[hx]at q;obtain⟨b,q,h2⟩:=q;have L:=Qq r y;rw[E]at L;obtain⟨m,h4,g⟩:=L.cells hk;rw[hv]at g;obtain⟨l,Q,G⟩:=r.sim.blk i _ _ q hH;have W:f+n<=k:=by simp_all
 have hm:m.length=n:=by rw[g.length,Y]
 have X:e<es.length:=(by grind);have J:off+n<=l.length:=by
  have:=G.length;have h6:=XB k X
  grind
 have O:=Yz (P:=P) off 0 Q (by omega) (g.plain R);have h:=r.sim.set (x':=.row T k d) (obj:=.cells (splice l off m).toArray T (0,0)) q hH rfl
  (λy E=>Jw Q (Yy (by omega)) y E)
  (λex B=>⟨_,B,by
   subst z F j;exact(G.splice hc (g.data hd) (g.plain R) (by omega)).mono ex.nil⟩)
 refine⟨_,V,[],?_,by grind,h.2⟩
 simp_all[storeVar,execOp,Instr.storeAt,Instr.sureAddr]
end
variable {T' cap e':Nat}{ad ax:AB Addr}{fs:AA (AA A)}{new:AA AL}
section
variable {P:AK} {o:AM} {env:Env} {H:Qd} {fr ro:Nat->Prop} {σ:Ch} {w:AJ}
theorem DL.heap{w':AJ}(h:w'.heap=w.heap):DL ro σ w ro σ w':=
 ⟨λ_ q=>q,λb _=>by rw[h],λb x q=>by unfold World.shape? at q⊢;grind,λ_ _ q=>q⟩
theorem Ca.heap{w':AJ}(s:Ca fr ro σ H w)(h:w'.heap=w.heap):Ca fr ro σ H w':=
 ⟨s.len,s.roOk.to (λ_ q=>q) (λb _=>by rw[h]) (λb q=>by rw[h];exact s.roLt b q),λb q=>by rw[h];exact s.frLt b q,s.roFr,λi b x q1 q2 q3=>by rw[h];exact s.own i b x q1 q2 q3,s.inj,
  λi y x q1 q2=>(s.blk i y x q1 q2).keep (DL.heap h) (by grind) (by grind),
  s.hidTo (· = ·) Ym (by grind) (by simp) (by simp) λj d y g1 g2 g3=>.inl ⟨j,y,rfl,g1,g2,id,λc q=>q.keep (by rw[h])⟩⟩
theorem Qm.heap{w':AJ}(h:w'.heap=w.heap)(ho:w'.os=w.os)(ht:w'.tape=w.tape)(hu:w'.output=w.output)(hd:w.drawn<=w'.drawn):Qm fr ro w ro w':=
 ⟨λ_ q=>q,λb _=>by rw[h],λb _=>by rw[h],by grind,λb x q=>by unfold World.shape? at q⊢;grind,ho,ht,hu,hd⟩
theorem Ca.moved(s:Ca fr ro σ H w){i:Nat}{x:CW}{y:AB Nat}(hH:H[i]?=AC x)(hσ:σ[i]?=AC y):Ca fr ro (σ++[y]) (H.set i .dead++[x]) w:=by
 have V:=s.len;have Y:i<H.length:=(by grind);have f:∀(j:Nat) (z:AB Nat) (v:CW),(σ++[y])[j]?=AC z->(H.set i .dead++[x])[j]?=AC v->v≠ .dead->
   (j<σ.length/\j≠i/\σ[j]?=AC z/\H[j]?=AC v)\/(j=σ.length/\z=y/\v=x):=by
  grind
 have hσ':∀(j:Nat) (b:Nat),σ[j]?=AC (AC b)->(σ++[y])[j]?=AC (AC b):=(by grind);have ext:DL ro σ w ro (σ++[y]) w:=⟨λ_ q=>q,λ_ _=>rfl,λ_ _ q=>q,hσ'⟩;refine⟨by simp[V],s.roOk,s.frLt,s.roFr,?_,?_,?_,s.hidTo (λj L=>(j<σ.length/\j≠i/\L=j)\/(j=σ.length/\L=i)) (by omega) (XT _) (by simp) (by simp) λj d y N W T=>.inl ?_⟩
 rotate_left 3
 .rcases f j _ y N W (gK T)with⟨O,M,h,g⟩|⟨O,B,rfl⟩
  .grind
  grind
 .intro j b v n k m;rcases f j _ v n k (CW.nd m)with⟨_,_,h,g⟩|⟨_,B,rfl⟩
  .exact s.own j b v h g m
  .subst B;exact s.own i b v hσ hH m
 .intro j G b v F n k m R t E;rcases f j _ v n m (CW.nd t)with⟨_,P,h,g⟩|⟨X,B,Q⟩<;>rcases f G _ F k R (CW.nd E)with⟨_,n1',q1',q2'⟩|⟨r1',e1',r2'⟩
  .exact s.inj j G b v F h q1' g q2' t E
  .subst e1' r2';exact(P (s.inj j i b v F h hσ g hH t E)).elim
  .subst B Q;exact(n1' (s.inj G i b F v q1' hσ q2' hH E t)).elim
  omega
 .intro j z v n k;by_cases J:v≠ .dead
  .rcases f j z v n k J with⟨_,_,h,g⟩|⟨_,rfl,rfl⟩
   .exact(s.blk j z v h g).keep ext (λ_ _ _=>rfl) (λ_ _ _ _=>rfl)
   .exact(s.blk i _ _ hσ hH).keep ext (λ_ _ _=>rfl) (λ_ _ _ _=>rfl)
  .obtain rfl:v=.dead:=Classical.not_not.1 J;trivial
def HP(P:AK)(H:Qd)(x:A)(k:Nat)(es:AA (AA A)):Prop:=
 ∀fr ro σ w v,Ca fr ro σ H w->VR ro σ w x v->(∃a c,v=.slice a es.length c)/\allK k es/\
  ∃l,(∀w':AJ,w'.heap=w.heap->(Builtin.firstCells k es.length v).run P w'=.ok l.toArray w')/\LR ro [] w es.flatten l/\ ∀v∈l,QC v
theorem RR.flat{b k:Nat}:∀{es:AA (AA A)} {f:Nat},RR ro σ w b k es f->CR ro σ w b es.flatten f/\allK k es/\es.flatten.length=es.length*k
 |[],f,_=>⟨trivial,trivial,by simp⟩
 |c::es,f,⟨h1,h2,h3⟩=>by
  obtain⟨q1,q2,q3⟩:=RR.flat h3;refine⟨?_,⟨h1,q2⟩,by grind⟩;have:∀(c:AA A) (f:Nat) (d:AA A),CR ro σ w b c f->CR ro σ w b d (f+c.length)->CR ro σ w b (c++d) f:=by
   intro c
   induction c with
   |nil=>simp
   |cons x c g=>intro f d ⟨h1,h2⟩ h;exact⟨h1,g (f+1) d h2 (by grind)⟩
  grind
theorem lT{b d n c:Nat}{f:AA A}(h:CR ro σ w b f d)(j:f.length=n*k):
  ∃l,(∀w',w'.heap=w.heap->(Builtin.firstCells k n (.slice (AC ⟨b,d,AF⟩) n c)).run P w'=.ok l.toArray w')/\LR ro σ w f l/\ ∀v∈l,QC v:=by
 obtain⟨l,m,g,q⟩:=YC (P:=P) 0 (by simpa using h)
 grind[Builtin.firstCells,loadCells]
theorem ZJ{c:Nat}{a:AB Addr}:(Builtin.firstCells k 0 (.slice a 0 c)).run P w=.ok #[] w:=by
 cases a<;>simp[go_sem]
theorem HP.rsl{k:Nat}{es:AA (AA A)}:HP P H (.rsl k es) k es:=by
 intro q n σ w v s ⟨a,c,h1,h2,h3⟩;subst h1;refine⟨⟨a,c,rfl⟩,?_⟩;rcases h3 with rfl|⟨b,h,rfl,m,d⟩
 .exact⟨trivial,[],λ_ _=>ZJ,rfl,by simp⟩
 .obtain⟨f,g,j⟩:=d.flat;exact⟨g,lT f j⟩
theorem HP.nils{k:Nat}:HP P H .nils k []:=by
 intro f d σ w v s h;subst h;exact⟨⟨AF,0,rfl⟩,trivial,[],λ_ _=>ZJ,rfl,by simp⟩
theorem RR.drop{b k:Nat}:∀(n:Nat) {es:AA (AA A)} {off:Nat},RR ro σ w b k es off->RR ro σ w b k (es.drop n) (off+n*k)
 |0,_,_,h=>by simpa using h
 |n+1,[],_,_=>trivial
 |n+1,c::es,off,⟨h1,h2,h3⟩=>by
  have:=RR.drop n h3
  grind
theorem RR.take{b k:Nat}:∀(n:Nat) {es:AA (AA A)} {off:Nat},RR ro σ w b k es off->RR ro σ w b k (es.take n) off
 |0,_,_,h=>trivial
 |n+1,[],_,_=>trivial
 |n+1,c::es,off,⟨h1,h2,h3⟩=>⟨h1,h2,RR.take n h3⟩
theorem HP.osl{i s n k t:Nat}{es d:AA (AA A)}(hH:H[i]?=AC (.row t k es))(he:(es.drop s).take n=d)(L:s+n<=es.length):HP P H (.osl i s n k) k d:=by
 intro N J σ w v sm h;have y:d.length=n:=by grind
 rcases h with⟨rfl,rfl⟩|⟨b,p,f,M,m,x,rfl,F,B,E,z⟩
 .have e:d=[]:=(by grind);subst e;exact⟨⟨AF,0,rfl⟩,trivial,[],λ_ _=>ZJ,rfl,by simp⟩
 .rw[y];refine⟨⟨_,f,rfl⟩,?_⟩;obtain⟨l,g,j⟩:=sm.blk i _ _ x hH;have q:=((YR (pre:=[]) (by simpa using g) j).drop s).take n;by_cases G:0<f
  .obtain⟨g,j,O⟩:=q.flat
   simp_all[lT]
  .obtain rfl:n=0:=by omega
   have e:d=[]:=(by grind);subst e;exact⟨trivial,[],λ_ _=>ZJ,rfl,by simp⟩
def YE:Nat:=4294967296
theorem Qey(n c:Nat)(h:c<n):Builtin.nextslicecap n c<=4*n+1000:=by
 grind[Builtin.nextslicecap,Builtin.growBy]
class ElemTy (P:AK) (T:Nat) (e k:outParam Nat):Prop where
 sl:∀w,(underlying T).run P w=.ok (.slice e) w
 size:∀w,(sizeOf e).run P w=.ok k w
 zero:∃z,(∀w,(zeroValue e).run P w=.ok z w)/\z.cells.size=k
 bytes:∃i,(∀w,(typeInfo e).run P w=.ok i w)/\i.bytes<=4096
theorem pd{l:AA AL}(s:Ca fr ro σ H w)(hk:allK k es)(h:LR ro [] w es.flatten l)(hp:∀v∈l,QC v):
  Ca fr ro (σ++[AC w.heap.size]) (H++[.row T k es]) (w.alloc (.cells (l++rest).toArray T))/\Qm fr ro w ro (w.alloc (.cells (l++rest).toArray T)):=
 ⟨s.allocRow hk h hp,Qm.alloc _ s.roLt s.frLt⟩
theorem YZ{k:Nat}:∀{es:AA (AA A)},allK k es->es.flatten.length=es.length*k
 |[],_=>by simp
 |c::es,⟨h1,h2⟩=>by simp[YZ h2,h1,Xm,Nat.add_comm]
theorem sf{k:Nat}:∀{es fs:AA (AA A)},allK k es->allK k fs->allK k (es++fs)
 |[],_,_,h=>h
 |c::es,_,⟨h1,h2⟩,h=>⟨h1,sf h2 h⟩
theorem rO{k:Nat}:∀{es:AA (AA A)} (n:Nat),allK k es->allK k (es.take n)
 |_,0,_=>trivial
 |[],n+1,_=>trivial
 |c::es,n+1,⟨h1,h2⟩=>⟨h1,rO n h2⟩
theorem RL.allK{k:Nat}:∀{es:AA (AA A)} {l:AA AL},RL ro σ w k es l->allK k es
 |[],_,_=>trivial
 |c::es,l,⟨l1,l2,h1,h2,h3,h4⟩=>⟨h2,RL.allK h4⟩
theorem RL.app{k:Nat}:∀{n:Nat} {es fs:AA (AA A)} {l m:AA AL},RL ro σ w k es l->n<=es.length->Sw.allK k fs->LR ro σ w fs.flatten m->(∀v∈m,QC v)->
  RL ro σ w k (es.take n++fs) (Sw.splice l (n*k) m)
 |0,es,fs,l,m,h,hn,hk,hm,hp=>by
  simp_all[Sw.splice,Je]
 |n+1,[],fs,l,m,h,hn,hk,hm,hp=>by simp at hn
 |n+1,c::es,fs,l,m,⟨l1,l2,h1,h2,h3,h4⟩,hn,hk,hm,hp=>by
  subst h1;have hl1:=h3.1.length;refine⟨l1,Sw.splice l2 (n*k) m,?_,h2,h3,RL.app h4 (by grind) hk hm hp⟩;have e1:(n+1)*k=l1.length+n*k:=by grind
  unfold Sw.splice;rw[e1,Vc,show l1.length+n*k+m.length=l1.length+(n*k+m.length)from by omega,Vb];simp
theorem Qnw{e need:Nat}(E:ElemTy P T e k)(X:∀w,(underlying T').run P w=.ok (.slice e') w){n c:Nat}
  (g:need=n+m)(j:cap<need)(d:need<=YE){old:AA AL}
  (M:∀w':AJ,w'.heap=w.heap->(Builtin.firstCells k m (.slice ax m c)).run P w'=.ok new.toArray w')(J:∀w':AJ,w'.heap=w.heap->(Builtin.firstCells k n (.slice ad n cap)).run P w'=.ok old.toArray w'):
  ∃(rest:AA AL) (f:Nat),(need<=f/\f<=9223372036854775807)/\rest.length=(f-need)*k/\(Builtin.append_ #[T,T'] t #[.slice ad n cap,.slice ax m c]).run P w=
   .ok (.slice (AC ⟨w.heap.size,0,AF⟩) need f) (({w with drawn:=w.drawn+1}:AJ).alloc (.cells ((old++new)++rest).toArray e)):=by
 obtain⟨z,hz,G⟩:=E.zero;obtain⟨i,V,Q⟩:=E.bytes
 let f:=need+w.tape w.drawn (.appendCap need cap e)%(2^63-need)
 refine⟨(Builtin.zeroCells z.cells (f-need)).toList,f,⟨Nat.le_add_right _ _,by
  have:=Nat.mod_lt (w.tape w.drawn (.appendCap need cap e)) (show 0<2^63-need by unfold YE at d;omega);show need+_%(2^63-need)<=_;omega⟩,by simp[Builtin.zeroCells,G],?_⟩
 have h:¬(need<=cap):=by omega
 have N:¬((need:Int)>IntKind.i64.max/\(False\/i.bytes=0)):=by
  rintro⟨q,_⟩;have:IntKind.i64.max=9223372036854775807:=by decide
  rw[this]at q;unfold YE at d;omega
 have R:¬(Builtin.nextslicecap need cap*i.bytes>2^48):=by
  have:=Qey need cap j;have L:=Nat.mul_le_mul this Q;unfold YE at d;omega
 generalize hF:Builtin.firstCells=F at M J;unfold Builtin.append_;rw[hF];have B:∀W:AJ,(choose (.appendCap need cap e)).run P W=.ok (need+W.tape W.drawn (.appendCap need cap e)%(2^63-need)) {W with drawn:=W.drawn+1}:=by
  intro W;simp[choose,Sem.run,Question.forced,Question.cut]
 have H:∀(x:Nat) (W:AJ),(askRoom x).run P W=.ok () W:=by
  intro x W;unfold askRoom;split<;>rfl
 have y:∀(c:Array AL) (W:AJ),(newRow e c).run P W=.ok ⟨W.heap.size,0,AF⟩ (W.alloc (.cells c e)):=λc W=>rfl;subst g;simp only[not_and,false_or]at N;have L:¬(((n+m:Nat):Int)>IntKind.i64.max/\(False\/i.bytes=0)):=by simpa using N
 simp only[XG,XE,XF,Vn,E.sl,E.size,X,V,hz,Result.andThen,Builtin.lenOf,Vo,Xi,if_false,XH,
  Xh,if_true,Vs h,Vs L,Vs R,B,H]
 have Y:=J {w with drawn:=w.drawn+1} rfl;have e2:=M {w with drawn:=w.drawn+1} rfl;simp only[Y,e2,y];have O:old.toArray++new.toArray++Builtin.zeroCells z.cells (f-(n+m))=((old++new)++(Builtin.zeroCells z.cells (f-(n+m))).toList).toArray:=by
  apply Xu.1;simp
 rw[<- O]
theorem lP{e:Nat}(E:ElemTy P T e k)(g:∀w,(underlying T').run P w=.ok (.slice e') w){n c:Nat}
  (d:n+m<=cap)(f:(Builtin.firstCells k m (.slice ax m c)).run P w=.ok new.toArray w):
  (Builtin.append_ #[T,T'] t #[.slice ad n cap,.slice ax m c]).run P w=
   match ad with
   |some a=>(do storeCells (a.add (n*k)) new;pure (Value.slice ad (n+m) cap):Sem AL).run P w
   |none=>.ok (.slice ad (n+m) cap) w:=by
 generalize hF:Builtin.firstCells=F at f;unfold Builtin.append_;rw[hF];simp only[XG,XE,XF,Vn,E.sl,E.size,g,Result.andThen,Builtin.lenOf,Vo,Xi,if_false,XH,
  Xh,if_true,Vt d,f]
 cases ad with
 |none=>rfl
 |some a=>simp only[Vn,Result.andThen,Vo]
theorem Ca.weaken(s:Ca fr ro σ H w){i:Nat}{x x':CW}(hH:H[i]?=AC x)(T:x.live=AE)(n:∀y,BR ro σ w x y->BR ro σ w x' y)
  (M:∀b c,Di w x' b c->Di w x b c:=by exact λ_ _ h=>h.elim):Ca fr ro σ (H.set i x') w:=by
 have f:∀(j:Nat) (v:CW),(H.set i x')[j]?=AC v->(j=i/\v=x')\/(j≠i/\H[j]?=AC v):=by
  grind
 have t:∀(j:Nat) (v:CW),(H.set i x')[j]?=AC v->v.live=AE->∃g,H[j]?=AC g/\g.live=true:=by
  grind
 refine⟨by rw[X4];exact s.len,s.roOk,s.frLt,s.roFr,?_,?_,?_,s.hidTo (· = ·) Ym (XT _) (by simp) (by simp) λj d y P Q R=>.inl ?_⟩
 rotate_left 3
 .grind
 .intro j b v k m z;obtain⟨g,B,q⟩:=t j v m z;exact s.own j b g k B q
 .intro j G b v g k m z N J O;obtain⟨u,B,q⟩:=t j v z J;obtain⟨L,F,E⟩:=t G g N O;exact s.inj j G b u L k m B F q E
 .intro j y v k m;rcases f j v m with⟨rfl,rfl⟩|⟨_,h⟩
  .exact n y (s.blk j y x k hH)
  .exact s.blk j y v k h
theorem RL.take{k:Nat}:∀(n:Nat) {es:AA (AA A)} {l:AA AL},RL ro σ w k es l->RL ro σ w k (es.take n) l
 |0,_,_,_=>trivial
 |n+1,[],_,_=>trivial
 |n+1,c::es,l,⟨l1,l2,h1,h2,h3,h4⟩=>⟨l1,l2,h1,h2,h3,RL.take n h4⟩
theorem dW{c:Call}{T T':TypeId}{x y:Operand}(d:o.op=.call c)(f:c={callee:=.builtin .append,args:= #[x,y],argTypes:= #[T,T']})(ρ:Operand->AL){v:AL}
  (h:(Builtin.append_ #[T,T'] o.type #[ρ x,ρ y]).run P w=.ok v w'):(execOp ρ o).run P w=.ok (.value v) w':=by
 simp_all[execOp,resolve,invoke,Go.builtin]
theorem Ca.phantom(s:Ca fr ro σ H w)(t k:Nat):Ca fr ro (σ++[AF]) (H++[.row t k []]) w:=by
 have m:=s.len;have h:∀(i b:Nat),(σ++[AF])[i]?=AC (AC b)->i<σ.length:=by
  grind
 refine⟨by simp[m],s.roOk,s.frLt,s.roFr,?_,?_,?_,s.hidTo (· = ·) Ym (XT _) (by simp) (by simp) λj d y f g n=>.inl ?_⟩
 rotate_left 3
 .grind
 .intro i b z f g n;have q:=h i b f;rw[XM q]at f;rw[XM (by omega)]at g;exact s.own i b z f g n
 .intro i j b z M f g n x E G;have F:=h i b f;have L:=h j b g;rw[XM F]at f;rw[XM L]at g;rw[XM (by omega)]at n x;exact s.inj i j b z M f g n x E G
 .intro i y z f g;have ext:DL ro σ w ro (σ++[AF]) w:=⟨λ_ q=>q,λ_ _=>rfl,λ_ _ q=>q,(by grind)⟩;rcases Nat.lt_trichotomy i σ.length with q|q|q
  .rw[XM q]at f;rw[XM (by omega)]at g;exact(s.blk i y z f g).keep ext (λ_ _ _=>rfl) (λ_ _ _ _=>rfl)
  .subst q;have B:(σ++[AF])[σ.length]?=AC none:=by simp
   have J:(H++[CW.row t k []])[σ.length]?=AC (.row t k []):=by grind
   rw[B]at f;rw[J]at g;cases f;cases g;rfl
  grind
theorem Ca.kill(s:Ca fr ro σ H w)(i:Nat):Ca fr ro σ (H.set i .dead) w:=by
 have f:∀(j:Nat) (v:CW),(H.set i .dead)[j]?=AC v->v≠ .dead->H[j]?=AC v:=by
  grind
 refine⟨by rw[X4];exact s.len,s.roOk,s.frLt,s.roFr,?_,?_,?_,s.hidTo (· = ·) Ym (XT _) (by simp) (by simp) λj d y E G F=>.inl ⟨j,y,rfl,E,f j y G (gK F),id,λ_ q=>q⟩⟩
 .intro j b v h g k;exact s.own j b v h (f j v g (CW.nd k)) k
 .intro j x b v t h g k B m z;exact s.inj j x b v t h g (f j v k (CW.nd m)) (f x t B (CW.nd z)) m z
 .intro j y v h g;by_cases n:v≠ .dead
  .exact s.blk j y v h (f j v g n)
  .obtain rfl:v=.dead:=Classical.not_not.1 n;trivial
theorem grown{c:Call}{e n cx:Nat}{x y:Operand}{a:Act}{old:AA AL}(E:ElemTy P T e k)(Y:∀w,(underlying T').run P w=.ok (.slice e') w)(ho:o.op=.call c)
  (R:c={callee:=.builtin .append,args:= #[x,y],argTypes:= #[T,T']})(h1:a.eval x=.slice ad n cap)(Q:a.eval y=.slice ax m cx)(s:Ca fr ro σ H w)(B:cap<n+m)(F:n+m<=YE)
  (t:∀w',w'.heap=w.heap->(Builtin.firstCells k n (.slice ad n cap)).run P w'=.ok old.toArray w')(z:∀w',w'.heap=w.heap->(Builtin.firstCells k m (.slice ax m cx)).run P w'=.ok new.toArray w')
  (j:LR ro [] w es.flatten old)(V:∀v∈old,QC v)(g:allK k es)(q:LR ro [] w fs.flatten new)(aa:∀v∈new,QC v)(f:allK k fs)(X:es.length=n)(L:fs.length=m):
  ∃v w' ro' τ,(execOp a.eval o).run P w=.ok (.value v) w'/\VR ro' (σ++τ) w' (.osl H.length 0 (n+m) k) v/\Ca fr ro' (σ++τ) (H++[.row e k (es++fs)]) w'/\Qm fr ro w ro' w':=by
 obtain⟨d,nc,M,G,h⟩:=Qnw E Y rfl B F z t
 let w0:={w with drawn:=w.drawn+1}
 have s0:Ca fr ro σ H w0:=s.heap rfl;have W:Qm fr ro w ro w0:=Qm.heap rfl rfl rfl rfl (Nat.le_succ _);have J:LR ro [] w0 (es++fs).flatten (old++new):=by
  rw[List.flatten_append];exact(j.append q).mono (DL.heap (w:=w) rfl)
 obtain⟨s1,e1⟩:=pd s0 (sf g f) J (λv hv=>by grind);have hexec:=dW ho R a.eval (by rw[h1,Q];exact h);refine⟨_,_,ro,[AC w.heap.size],hexec,.inr ⟨w.heap.size,0,nc,e,(old++new++d).length,?_,rfl,λ_=>by simp,M,?_,?_⟩,s1,W.trans e1⟩
 .rw[<- s.len];simp
 .have:=Yw w0 (.cells ((old++new)++d).toArray e);unfold World.shape?
  grind
 .have O:=j.length;have N:=q.length;rw[YZ g]at O;rw[YZ f]at N;simp[X3,G,O,N,L];rw[<- Xz, <- Xz]
  grind
theorem Qgg{c:Call}{e:Nat}{x y:Operand}{q:A}(E:ElemTy P T e k)(z:∀w,(underlying T').run P w=.ok (.slice e') w)(B:o.op=.call c)
  (m:c={callee:=.builtin .append,args:= #[x,y],argTypes:= #[T,T']})(L:CQ env x=.nils)(O:CQ env y=q)(G:HP P H q k fs)(F:fs.length<=YE):
  D3 P o env H (.osl H.length 0 fs.length k) (H++[.row e k fs]):=by
 intro R n σ N a w r;have h:=Qq r x;rw[L]at h;have j:=Qq r y;rw[O]at j;obtain⟨⟨X,W,g⟩,J,l,d,Q,M⟩:=G R n σ w _ r.sim j;rw[g]at d;by_cases V:fs.length=0
 .have f:fs=[]:=(by grind);subst f;refine⟨.slice AF 0 0,w,n,[AF],(dW B m _ ?_),.inl ⟨rfl,rfl⟩,r.sim.phantom e k,Qm.refl _ _ _⟩;rw[h,g];have:=lP (t:=o.type) E z (ad:=AF) (XT 0) (d w rfl);omega
 .have:=grown (es:=[]) E z B m h g r.sim (by omega) (by omega) (λ_ _=>ZJ) d rfl (by simp) trivial Q M J rfl rfl
  grind
theorem sY{c:Call}{e i n:Nat}{x y:Operand}{ya:A}{gs:AA (AA A)}(E:ElemTy P T e k)(hd:∀w,(underlying T').run P w=.ok (.slice e') w)(J:o.op=.call c)
  (Q:c={callee:=.builtin .append,args:= #[x,y],argTypes:= #[T,T']})(hx:CQ env x=.osl i 0 n k)(hH:H[i]?=AC (.row e k es))(hn:n<=es.length)(B:CQ env y=ya)(hs:HP P H ya k fs)(g:n+fs.length<=YE)
  (hg:es.take n++fs=gs):D3 P o env H (.osl H.length 0 (n+fs.length) k) (H.set i .dead++[.row e k gs]):=by
 intro fr z σ N a w r;subst hg;have h:=Qq r x;rw[hx]at h;have h2:=Qq r y;rw[B]at h2;obtain⟨⟨ay,cy,Y⟩,W,l,R,q4,X⟩:=hs fr z σ w _ r.sim h2;rw[Y]at R;have q:i<H.length:=(by grind);have ah:(H.set i .dead).length=H.length:=X4;obtain⟨s,hσ⟩:∃s,σ[i]?=AC s:=⟨_,XK (by rw[r.sim.len];exact q)⟩;rcases h with⟨rfl,h⟩|⟨b,p,cap,t',mm,L,h,h4,h5,M,h7⟩
 ·
  by_cases hm:fs.length=0
  .have j:fs=[]:=(by grind);subst j;refine⟨.slice AF 0 0,w,z,[AF],?_,.inl ⟨rfl,rfl⟩,(r.sim.kill i).phantom e k,Qm.refl _ _ _⟩;refine dW J Q _ ?_;rw[h,Y];have:=lP (t:=o.type) E hd (ad:=AF) (n:=0) (m:=0) (cap:=0) (c:=cy) (ax:=ay) (XT 0) (R w rfl);omega
  .have:=grown (es:=[]) (old:=[]) E hd J Q h Y (r.sim.kill i) (by omega) g (λ_ _=>ZJ) R rfl (by simp) trivial q4 X W rfl rfl
   grind
 .have G:=r.sim.blk i _ _ L hH;obtain⟨V,F,g2⟩:=G;have ac:(es.take n).length=n:=by simp;omega
  obtain⟨old,o1,o2,o3⟩:∃old:AA AL,(∀w':AJ,w'.heap=w.heap->(Builtin.firstCells k n (.slice (AC ⟨b,p,AF⟩) n cap)).run P w'=.ok old.toArray w')/\LR z [] w (es.take n).flatten old/\ ∀v∈old,QC v:=by
   have O:HP P H (.osl i 0 n k) k (es.take n):=HP.osl hH (by simp) (by omega);obtain⟨_,_,l',z1,z2,z3⟩:=O fr z σ w (.slice (AC ⟨b,p,AF⟩) n cap) r.sim (.inr ⟨b,p,cap,t',mm,L,rfl,h4,h5,M,h7⟩)
   grind
  by_cases f:n+fs.length<=cap
  .have ae:=lP (t:=o.type) E hd (ad:=AC ⟨b,p,AF⟩) (n:=n) (m:=fs.length) (cap:=cap) (c:=cy) (ax:=ay) f (R w rfl);have af:l.length=fs.length*k:=by rw[q4.length,YZ W]
   by_cases hm:fs.length=0
   .have j:fs=[]:=(by grind);subst j;have el:l=[]:=(by simp_all);subst el;have sw:=(r.sim.weaken (x':=.row e k (es.take n)) hH rfl (by
     intro y B;cases y with
     |none=>simp only[BR]at B⊢;grind
     |some y=>obtain⟨V,F,g2⟩:=B;exact⟨V,F,g2.take n⟩))
    have sm:=sw.moved (i:=i) (Xa q) L;rw[List.set_set]at sm;refine⟨.slice (AC ⟨b,p,AF⟩) n cap,w,z,[AC b],?_,.inr ⟨b,p,cap,t',mm,?_,by simp,h4,by omega,M,h7⟩,by grind,Qm.refl _ _ _⟩
    .refine dW J Q _ ?_
     simp_all[storeCells]
    .rw[<- r.sim.len];simp
   .obtain rfl:p=0*k:=h4 (by omega);have aa:(n+fs.length)*k<=V.length:=by
     have:w.shape? b=AC (e,V.length):=by unfold World.shape?;rw[F];simp
     rw[this]at M;cases M;exact XV (XB k f) (by grind)
    rw[Xz]at aa;have ag:=Yz (P:=P) (vs:=l) (n*k) 0 F (by omega) X;have d:=r.sim.set (x':=.row e k (es.take n++fs)) (obj:=.cells (splice V (n*k) l).toArray e (0,0)) L hH rfl
     (λy B=>Jw F (Yy (by omega)) y B)
     (λex ab=>⟨_,ab,(g2.app hn W q4 X).mono ex.nil⟩)
    have sm:=d.1.moved (i:=i) (Xa q) L;rw[List.set_set]at sm;refine⟨.slice (AC ⟨b,0*k,AF⟩) (n+fs.length) cap,_,z,[AC b],?_,.inr ⟨b,0*k,cap,t',mm,?_,rfl,h4,⟨f,h5.2⟩,?_,h7⟩,sm,d.2⟩
    .refine dW J Q _ ?_
     simp_all[Se]
    .rw[<- r.sim.len];simp
    .exact d.2.shape _ _ M
  .have:=grown (es:=es.take n) (old:=old) (fs:=fs) E hd J Q h Y (r.sim.kill i) (by omega) g o1 R o2 o3 (rO n g2.allK) q4 X W ac rfl
   grind
end
variable {h:Nat}{xs:AA Operand}
section
variable {P:AK} {o:AM} {env:Env} {H:Qd}
theorem C6.fn{c:Call}{h:Array TypeId}(d:∀(a:Array AL) (w:AJ),(callFunc f a).run P w=.ok (.enter f a) w)(j:o.op=.call c)
  (k:c={callee:=.value (.func f),args:=xs.toArray,argTypes:=h})(g:xs.map (CQ env)=args):C6 P o env H f args:=by
 intro n m σ N a w r;refine⟨xs.map a.eval,?_,g▸ZC r xs⟩;have e:a.eval (.func f)=.func (.func f) #[] #[]:=rfl
 grind[execOp,resolve,Deferred.ofValue,invoke]
theorem JL{c:Call}{x:Operand}{n:Array TypeId}{j h:AA A}(d:∀(a:Array AL) (w:AJ),(callFunc f a).run P w=.ok (.enter f a) w)(z:o.op=.call c)
  (B:c={callee:=.value x,args:=xs.toArray,argTypes:=n})(y:CQ env x=.fn (.func f) j h)(q:j++(xs.map (CQ env)++h)=args):C6 P o env H f args:=by
 intro F E σ N a w r;have g:=Qq r x;rw[y]at g;obtain⟨l,t,g,m,k⟩:=g;refine⟨l++(xs.map a.eval++t),?_,q▸m.append ((ZC r xs).append k)⟩
 grind[execOp,resolve,Deferred.ofValue,invoke]
def Hw(ρ:Nat->Nat)(env:Env):Env->Prop
 |[]=>True
 |(s,a)::r=>lk env s=YY ρ a/\Hw ρ env r
theorem Hw.ok{ro:Nat->Prop}{σ σ':Ch}{w:AJ}{ρ:Nat->Nat}(h:∀i,σ[ρ i]?=σ'[i]?){t:Array AL}(r:∀s,VR ro σ w (lk env s) (t.getD s undef)):
  ∀{env':Env},Hw ρ env env'->∀s,VR ro σ' w (lk env' s) (t.getD s undef)
 |[],_,s=>trivial
 |(d,a)::e,⟨h1,h2⟩,s=>by
  simp only[lk];by_cases q:s=d
  .grind[Nat.beq_refl,W9]
  .have:Nat.beq s d=false:=by
    simp_all[VM]
   rw[this];exact Hw.ok h r h2 s
theorem Ca.sub(s:Ca fr ro σ H w)(hH:π.map (λp=>H[p]?)=(H'.map (QW (Ci π H.length))).map AC)(hπ:π.Nodup):
  Ca fr ro (YG σ π) H' w/\ ∀j:Nat,σ[Ci π H.length j]?=(YG σ π)[j]? :=by
 have P:∀p∈π,p<H.length:=λp q=>Jl hH q;have hσl:=s.len;have Q:∀(j p:Nat),π[j]?=AC p->H[p]?=(H'[j]?).map (QW (Ci π H.length)):=by
  intro j p g;have:=congrArg (λl=>l[j]?) hH
  grind
 have n:π.length=H'.length:=by simpa using congrArg List.length hH
 have hσc:∀j:Nat,σ[Ci π H.length j]?=(YG σ π)[j]? :=by
  intro j;have:=ge (τ:=[]) hσl P j
  grind
 have hπj:∀(j b:Nat),(YG σ π)[j]?=AC (AC b)->∃p,π[j]?=AC p/\σ[p]?=AC (AC b):=by
  intro j b g;simp only[YG,Xo]at g
  grind
 have hπi:∀(i j p:Nat),π[i]?=AC p->π[j]?=AC p->i=j:=by
  intro i j p h f;have E:i<π.length:=(by grind);have g:j<π.length:=(XL.1 f).1;rw[XK E]at h;rw[XK g]at f;have m:=(XZ h).trans (XZ f).symm;rcases Nat.lt_trichotomy i j with q|q|q
  .exact(VD.1 hπ i j E g q m).elim
  .exact q
  .exact(VD.1 hπ j i g E q m.symm).elim
 refine⟨⟨by simp[YG,n],s.roOk,s.frLt,s.roFr,?_,?_,?_,s.hidTo (λj p=>π[j]?=AC p) hπi (XT _) (λ_ _ _ _ _ _ _ q=>q) (λ_ _ _ _ _ _ _ q=>q) λj d y M V T=>.inl ?_⟩,hσc⟩
 rotate_left 3
 .obtain⟨p,h,k⟩:=hπj j d M;exact⟨p,QW (Ci π H.length) y,h,k,by grind,by rw[QU];exact id,λc q=>(RI _ _ _ _ _).2 q⟩
 .intro j b x z B L;obtain⟨p,h,k⟩:=hπj j b z;have t:H[p]?=AC (QW (Ci π H.length) x):=by grind
  exact s.own p b _ k t (by rw[QU];exact L)
 .intro i j b x y z B L R N O;obtain⟨p,h,k⟩:=hπj i b z;obtain⟨J,f,G⟩:=hπj j b B;have t:H[p]?=AC (QW (Ci π H.length) x):=by grind
  have F:H[J]?=AC (QW (Ci π H.length) y):=by grind
  have:=s.inj p J b _ _ k G t F (by rw[QU];exact N) (by rw[QU];exact O)
  grind
 .intro j y x z B;have g:j<π.length:=by
   grind
  have h:π[j]?=AC π[j]:=XK g;have t:H[π[j]]?=AC (QW (Ci π H.length) x):=by grind
  have k:σ[π[j]]?=AC y:=by
   grind[Ci]
  exact(gB hσc).1 (s.blk _ y _ k t)
theorem j4{f:Nat}{env':Env}(π:AA Nat)(d:π.take f=List.range f)(hH:π.map (λp=>H[p]?)=(H'.map (QW (Ci π H.length))).map AC)(hπ:π.Nodup)
  (hE:Hw (Ci π H.length) env env'):Le f env H env' H':=by
 intro k g σ N a w r;obtain⟨h,hσ⟩:=r.sim.sub hH hπ;refine⟨g,YG σ π,⟨h,Hw.ok hσ r.env hE,r.size,r.defers⟩,λ_ q=>q,?_⟩;have m:=r.sim.len;have j:∀p∈π,p<H.length:=λp q=>Jl hH q;unfold YG;rw[<- List.map_take,d];apply List.ext_getElem?
 grind
theorem Le.phantom{g s k t:Nat}(j:g<=H.length)(h:lk env s=.nils):Le g env H (up env s (.osl H.length 0 0 k)) (H++[.row t k []]):=by
 intro m f σ N a w r;refine⟨f,σ++[AF],⟨r.sim.phantom t k,?_,r.size,r.defers⟩,λ_ q=>q,QR (by rw[r.sim.len];exact j)⟩;have ext:DL f σ w f (σ++[AF]) w:=⟨λ_ q=>q,λ_ _=>rfl,λ_ _ q=>q,(by grind)⟩;intro d;simp only[lk];by_cases q:d=s
 .subst q;rw[VE];have:=r.env d;rw[h]at this;exact .inl ⟨rfl,this⟩
 .have:Nat.beq d s=false:=by
   simp_all[VM]
  rw[this];exact(r.env d).mono ext
theorem gO{s:Nat}(f:lk env s=.nils):Le h env H (up env s (.rsl k [])) H:=by
 intro j g σ N a w r;refine⟨g,σ,⟨r.sim,?_,r.size,r.defers⟩,λ_ q=>q,rfl⟩;intro d;simp only[lk];by_cases q:d=s
 .subst q;rw[VE];have:=r.env d;rw[f]at this;exact⟨AF,0,this,XT _,.inl rfl⟩
 .have:Nat.beq d s=false:=by
   simp_all[VM]
  rw[this];exact r.env d
mutual
def Ys:A->Bool
 |.bool _=>AE
 |.int _ _=>AE
 |.str _=>AE
 |.tup vs=>gd vs
 |_=>AD
def gd:AA A->Bool
 |[]=>AE
 |a::r=>Ys a&&gd r
end
mutual
theorem VR.scalar{ro ro':Nat->Prop}{σ σ':Ch}{w w':AJ}:∀{a:A} {v:AL},Ys a=AE->VR ro σ w a v->VR ro' σ' w' a v
 |.bool _,_,_,h=>h
 |.int _ _,_,_,h=>h
 |.str _,_,_,h=>h
 |.tup vs,v,hs,h=>by
  simp only[VR,Ys]at h hs⊢;obtain⟨l,h1,h2⟩:=h;exact⟨l,h1,LR.scalar hs h2⟩
 |.any,_,hs,_=>by simp[Ys]at hs
 |.nilp,_,hs,_=>by simp[Ys]at hs
 |.ptr _ _,_,hs,_=>by simp[Ys]at hs
 |.rp _,_,hs,_=>by simp[Ys]at hs
 |.nils,_,hs,_=>by simp[Ys]at hs
 |.rsl _ _,_,hs,_=>by simp[Ys]at hs
 |.osl _ _ _ _,_,hs,_=>by simp[Ys]at hs
 |.agg _,_,hs,_=>by simp[Ys]at hs
 |.fn _ _ _,_,hs,_=>by simp[Ys]at hs
 |.nilf,_,hs,_=>by simp[Ys]at hs
 |.iface _ _,_,hs,_=>by simp[Ys]at hs
 |.nilif,_,hs,_=>by simp[Ys]at hs
 |.map _,_,hs,_=>by simp[Ys]at hs
 |.nilm,_,hs,_=>by simp[Ys]at hs
theorem LR.scalar{ro ro':Nat->Prop}{σ σ':Ch}{w w':AJ}:∀{az:AA A} {l:AA AL},gd az=AE->LR ro σ w az l->LR ro' σ' w' az l
 |[],_,_,h=>h
 |a::r,l,hs,h=>by
  simp only[LR,gd,XW]at h hs⊢;obtain⟨v,l',h1,h2,h3⟩:=h;exact⟨v,l',h1,VR.scalar hs.1 h2,LR.scalar hs.2 h3⟩
end
def dr(H:Qd):A->A->Prop:=λa a'=>(a'=a/\YJ a=AE)\/ ∃i n k t es,a=.osl i 0 n k/\H[i]?=AC (.row t k es)/\es.length=n/\a'=.rsl k es
def Dn(H:Qd):AA A->AA A->Prop
 |[],[]=>True
 |a::az,b::bs=>dr H a b/\Dn H az bs
 |_,_=>False
theorem ZI{Q:Qz}{l:AA AM}{d:Nat}{E:AA A}(ae:C6 P o env H f args)(hv:Dn H args E)(hC:C P f E [] Qr)
  (ac:∀r H1,Qr r H1->Ys r=AE)(k:∀r H1,Qr r H1->WO P h0 N all l (up env d r) H Q)(hg:QA all o env true:=by rfl)(hd:o.dst=AC d:=by rfl)(hN:Nat.blt d N=true:=by rfl):WO P h0 N all (o::l) env H Q:=by
 intro rd fr ro σ a w r hrd;obtain⟨V,h1,h2⟩:=ae fr ro σ N a w r;refine rG (YT hg r) h1 ?_
 let roc:Nat->Prop:=λb=>ro b\/ ∃(i:Nat) (x:CW),σ[i]?=AC (AC b)/\H[i]?=AC x/\x.live=AE
 let frc:Nat->Prop:=λb=>fr b\/ ∃(i:Nat) (x:CW) (d:Nat),σ[i]?=AC (AC d)/\H[i]?=AC x/\Di w x d b
 have W:Ca frc roc [] [] w:=by
  refine⟨rfl,r.sim.roOk.to (λ_ q=>.inl q) (λ_ _=>rfl) ?_,?_,?_,by simp,by simp,by simp,by simp⟩
  .rintro b (q|⟨i,x,B,z,G⟩)
   .exact r.sim.roLt b q
   .exact(r.sim.own i b x B z G).1
  .rintro b (q|⟨i,x,d,B,z,G⟩)
   .exact r.sim.frLt b q
   .exact(r.sim.hid i d x b B z G).lt
  .rintro b (q|⟨i,x,B,z,G⟩) (q'|⟨i',x',d',aa,X,M⟩)
   .exact r.sim.roFr b q q'
   .exact(r.sim.hid i' d' x' b aa X M).ro q
   .exact(r.sim.own i b x B z G).2.2 q'
   .exact(r.sim.hid i' d' x' b aa X M).ne i b x B z G rfl
 have J:∀(az F:AA A) (l:AA AL),Dn H az F->LR ro σ w az l->LR roc [] w F l:=by
  intro az
  induction az with
  |nil=>
   intro F l L h;cases F with
   |nil=>exact h
   |cons b F=>exact L.elim
  |cons x az ih=>
   intro F l L h;cases F with
   |nil=>exact L.elim
   |cons y F=>
    obtain⟨hx,L⟩:=L;obtain⟨v,l',rfl,hv,h⟩:=h;refine⟨v,l',rfl,?_,ih F l' L h⟩;rcases hx with⟨rfl,hx⟩|⟨i,n,k,t,es,rfl,hH,hn,rfl⟩
    .exact(hv.data (σ':=[]) hx).mono ⟨λ_ q=>.inl q,λ_ _=>rfl,λ_ _ q=>q,λ_ _ q=>q⟩
    .subst hn;rcases hv with⟨h0,h⟩|⟨b,p,Y,t',m,h1,h,h2,⟨h3,ag⟩,h4,h5⟩
     .have:es=[]:=(by grind);subst this;exact⟨AF,0,h,XT _,.inl rfl⟩
     .refine⟨_,Y,h,h3,?_⟩;by_cases he:es=[]
      .exact .inl he
      .right;have hc:0<Y:=Vg (by grind) h3;obtain rfl:=h2 hc;obtain⟨l,B,z⟩:=r.sim.blk i _ _ h1 hH;refine⟨b,0,by simp,.inr ⟨i,_,h1,hH,rfl⟩,?_⟩;have:=YR (pre:=[]) (by simpa using B) z;exact this.keep ⟨λ_ q=>.inl q,λ_ _=>rfl,λ_ _ q=>q,λ_ _ q=>q⟩ rfl
 refine Calls.mono (hC frc roc [] V w W (J _ _ _ hv h2)) ?_;rintro e T ⟨v,rr,H1,af,τ,rfl,hq,sc,ad,ev⟩;have R:∀(i b:Nat) (x:CW),σ[i]?=AC (AC b)->H[i]?=AC x->x.live=AE->T.heap[b]?=w.heap[b]? :=λi b x B z G=>ev.keepRo b (by grind);have g:Qm fr ro w ro T:=⟨λ_ q=>q,λb q=>ev.keepRo b (.inl q),λb q=>ev.keepFr b (.inl q),ev.size,ev.shape,ev.os,ev.tape,ev.output,ev.drawn⟩;have O:Ca fr ro σ H T:=by
  refine⟨r.sim.len,r.sim.roOk.to (λ_ q=>q) g.keepRo (λb q=>Vg (r.sim.roLt b q) ev.size),λb q=>Vg (r.sim.frLt b q) ev.size,r.sim.roFr,?_,r.sim.inj,?_,r.sim.hidTo (· = ·) Ym ev.size (by simp) (by simp) λj d y g1 g2 g3=>.inl ⟨j,y,rfl,g1,g2,id,λc q=>r.sim.hidKeep g1 g2 (R j d y g1 g2) g.keepRo q⟩⟩
  .intro i b x B z G;obtain⟨p1,p2,p3⟩:=r.sim.own i b x B z G
   grind
  .intro i y x B z;refine(r.sim.blk i y x B z).keep (g.ext0 σ) ?_ ?_
   .grind
   .rintro b c rfl L;exact ev.keepFr c (by grind)
 have hk:=k rr H1 hq;have ab:d<N:=by simp_all
 simp only[hd,Act.put];have r':DH fr ro σ H (up env d rr) N {a with tmps:=a.tmps.setIfInBounds d v} T:=
  ⟨O,VR.up (fr:=fr) (λs=>(r.env s).mono (g.ext0 σ)) (by rw[r.size];exact ab) (ad.scalar (ac _ _ hq)),by simpa using r.size,r.defers.keep g⟩
 exact⟨_,rfl,YF (λe a w q=>q.step g rfl) _ _ _ (hk rd fr ro σ _ T r' (hrd.to g λ_ q=>q))⟩
end
section
variable {P:AK} {o:AM} {env:Env} {H:Qd}
theorem rg{α:Type}:∀(vs:AA α) (d i:Nat) (l:AA α),d+i+vs.length<=l.length->
  (vs.zipIdx i).foldl (λcs x=>cs.setIfInBounds (d+x.2) x.1) l.toArray=(splice l (d+i) vs).toArray
 |[],d,i,l,h=>by simp[splice]
 |v::vs,d,i,l,h=>by
  simp[X0]at h;rw[List.zipIdx_cons,XD];have e1:l.toArray.setIfInBounds (d+i) v=(splice l (d+i) [v]).toArray:=by
   have:l.toArray.setIfInBounds (d+i) v=(l.set (d+i) v).toArray:=by simp
   rw[this];rw[List.set_eq_take_append_cons_drop,Vt (by omega)];simp[splice]
  rw[e1,rg vs d (i+1) _ (by grind)];have f:(l.take (d+i)).length=d+i:=by simp;omega
  unfold splice;have g:d+(i+1)=(l.take (d+i)).length+1:=by omega
  have k:(l.take (d+i)++([v]++l.drop (d+i+[v].length))).take ((l.take (d+i)).length+1)=l.take (d+i)++[v]:=by
   grind
  have j:(l.take (d+i)++([v]++l.drop (d+i+[v].length))).drop ((l.take (d+i)).length+1+vs.length)=l.drop (d+i+(v::vs).length):=by
   rw[show(l.take (d+i)).length+1+vs.length=(l.take (d+i)).length+(1+vs.length)from by omega,Vb];simp[Nat.add_comm 1];omega
  simp_all
theorem re{d:Nat->AB (Nat×Nat)}{l:AA AL}{i f size:Nat}{v:AL}{m:AA AL}{rest:AA (Nat×AL)}(h:d i=AC (f,size))(g:v.cells=m.toArray)(j:m.length=size)
  (k:f+size<=l.length):Instr.fill d l.toArray ((i,v)::rest)=Instr.fill d (splice l f m).toArray rest:=by
 rw[Instr.fill];simp[h];rw[Vs (by grind),g]
 simp_all[rg]
def Mi:Nat->AA Operand->AA (Nat×Operand)
 |_,[]=>[]
 |i,x::xs=>(i,x)::Mi (i+1) xs
def Q2(env:Env)(xs:AA Operand):AA (AA A):=xs.map λx=>Yf (CQ env x)
theorem kj{fr ro:Nat->Prop}{σ:Ch}{N:Nat}{a:Act}{w:AJ}(r:DH fr ro σ H env N a w){k:Nat}:∀(xs:AA Operand) (j:Nat) (pre rest:AA AL),pre.length=j*k->rest.length=xs.length*k->
  (xs.all λx=>Yi (CQ env x))=AE->allK k (Q2 env xs)->
  ∃l,Instr.fill (λi=>AC (i*k,k)) (pre++rest).toArray ((Mi j xs).map λp=>(p.1,a.eval p.2))=AC (pre++l).toArray/\LR ro σ w (Q2 env xs).flatten l
 |[],j,pre,rest,h1,h2,_,_=>by
  have:rest=[]:=(by simp_all);subst this;exact⟨[],rfl,rfl⟩
 |x::xs,j,pre,rest,h1,h2,h3,h4=>by
  simp only[List.all_cons,XW]at h3;obtain⟨hk1,hk2⟩:=h4;obtain⟨m,q1,q2⟩:=(Qq r x).cells h3.1;have hm:m.length=k:=by rw[q2.length];exact hk1
  simp[X0,Xm]at h2;simp[Mi,Vk];rw[re rfl q1 hm (by simp;omega)];have e:splice (pre++rest) (j*k) m=(pre++m)++rest.drop k:=by
   unfold splice
   grind[List.drop_length_add_append]
  rw[e];obtain⟨l,f,d⟩:=kj r xs (j+1) (pre++m) (rest.drop k) (by grind) (by simp;omega) h3.2 hk2;refine⟨m++l,?_,?_⟩
  .rw[f];simp
  .exact q2.append d
theorem mJ{a:Act}(r:DH fr ro σ H env N a w){e n:Nat}(E:ElemTy P T e k)(y:xs.length=n)(t:Nat.ble (n*k) 16777216=AE)
  (h:(xs.all λx=>Yi (CQ env x))=AE)(g:allK k (Q2 env xs)):
  ∃l,(Instr.buildSlice T n (((Mi 0 xs).map λp=>(p.1,a.eval p.2)).toArray)).run P w=.ok (.slice (AC ⟨w.heap.size,0,AF⟩) n n) (w.alloc (.cells l.toArray e))/\LR ro σ w (Q2 env xs).flatten l:=by
 obtain⟨z,F,B⟩:=E.zero;have j:n*k<=16777216:=by simp_all
 have q:∀(c:Array AL) (W:AJ),(newRow e c).run P W=.ok ⟨W.heap.size,0,AF⟩ (W.alloc (.cells c e)):=λc W=>rfl;unfold Instr.buildSlice;by_cases m:n*k=0
 .obtain⟨l,f,d⟩:=kj r (k:=k) xs 0 [] [] (by simp) (by grind) h g;refine⟨l,?_,d⟩;simp only[Vn,E.sl,Result.andThen,E.size,m]
  simp_all[Array.range]
 .obtain⟨l,f,d⟩:=kj r (k:=k) xs 0 [] ((Array.range (n*k)).map (λi=>z.cells[i%z.cells.size]!)).toList (by simp) (by rw[y];simp) h g;refine⟨l,?_,d⟩;simp only[Vn,E.sl,Result.andThen,E.size,Vs m,XH,F];simp only[Vi]at f;rw[Array.toArray_toList]at f
  simp_all
theorem mH{n:Nat}(d:o.op=.buildSlice T n (Mi 0 xs).toArray)(ρ:Operand->AL){v:AL}
  (h:(Instr.buildSlice T n (((Mi 0 xs).map λp=>(p.1,ρ p.2)).toArray)).run P w=.ok v w'):(execOp ρ o).run P w=.ok (.value v) w':=by
 grind[execOp,Sem.run_bind,Result.andThen,Sem.run_pure]
theorem D3.lit{e n:Nat}(E:ElemTy P T e k)(B:o.op=.buildSlice T n (Mi 0 xs).toArray)(t:xs.length=n)(h:Nat.ble (n*(k+1)) 16777216=AE)
  (F:(xs.all λx=>Yi (CQ env x))=AE)(j:Q2 env xs=es)(g:allK k es)(G:es.flatten.all Yr=AE)(J:YI es.flatten=AE):
  D3 P o env H (.osl H.length 0 n k) (H++[.row e k es]):=by
 intro M y σ N a w r;subst j;have m:=XR h;rw[Nat.mul_add]at m;obtain⟨l,L,f⟩:=mJ r E t (XS (by omega)) F g;have d:LR y [] w (Q2 env xs).flatten l:=f.data J;obtain⟨z,q⟩:=pd r.sim g d (f.plain G);rw[Vh]at z q;have O:l.length=n*k:=by rw[f.length,YZ g];simp[Q2,t]
 refine⟨_,_,y,[AC w.heap.size],mH B a.eval L,.inr ⟨w.heap.size,0,n,e,l.length,?_,rfl,λ_=>by simp,(by omega),?_,by grind⟩,z,q⟩
 .rw[<- r.sim.len];simp
 .unfold World.shape?;rw[Yw];simp
theorem YU{n:Int}{y:Nat}{c:BoundsCode}(d:0<=n)(f:n<=y):(Instr.sliceBound (.int .i64 n) y c).run P w=.ok n.toNat w:=by
 simp_all[Instr.sliceBound,asIntOf]
theorem ow{e:Nat}(E1:∀w,(underlying T).run P w=.ok (.slice e) w)(E2:∀w,(sizeOf e).run P w=.ok k w){n:Nat}{lo hi:AB AL}{l:Nat}(g:n<=cap)
  (f:lo=AF/\l=0\/ ∃z:Int,lo=AC (.int .i64 z)/\0<=z/\z.toNat=l)(d:hi=AF/\h=n\/ ∃z:Int,hi=AC (.int .i64 z)/\0<=z/\z.toNat=h)(m:l<=h)(t:h<=n):
  (Instr.sliceAt T (.slice ad n cap) lo hi AF).run P w=.ok (.slice (if cap=l then ad else ad.map (·.add (l*k))) (h-l) (cap-l)) w:=by
 have q:(Instr.sliceBounds AE n cap lo hi AF).run P w=.ok (l,h,cap) w:=by
  rcases f with⟨rfl,rfl⟩|⟨z,rfl,j,rfl⟩<;>rcases d with⟨rfl,rfl⟩|⟨y,rfl,y0,rfl⟩
  .rfl
  .grind[Instr.sliceBounds,Sem.run_bind,Sem.run_pure,Result.andThen,YU]
  .grind[Instr.sliceBounds,Sem.run_bind,Sem.run_pure,Result.andThen,YU]
  .simp[Instr.sliceBounds,Vn,Vo,Result.andThen,YU y0 (show y<=cap by omega),YU j (show z<=y.toNat by omega)]
 simp_all[Instr.sliceAt,Instr.slice]
theorem gy{a:Act}(r:DH fr ro σ H env N a w){x:AB Operand}{l d:Nat}(h:x=AF/\l=d\/ ∃y,∃z:Int,x=AC y/\CQ env y=.int .i64 z/\0<=z/\z.toNat=l):
  x.map a.eval=AF/\l=d\/ ∃z:Int,x.map a.eval=AC (.int .i64 z)/\0<=z/\z.toNat=l:=by
 rcases h with⟨rfl,rfl⟩|⟨y,z,rfl,f,j,g⟩
 .simp
 grind[QV]
theorem lJ{e i s n:Nat}{x:Operand}{lo hi:AB Operand}{l:Nat}(E1:∀w,(underlying T).run P w=.ok (.slice e) w)(E2:∀w,(sizeOf e).run P w=.ok k w)(G:o.op=.slice T x lo hi AF)
  (O:CQ env x=.osl i s n k)(t:lo=AF/\l=0\/ ∃y,∃z:Int,lo=AC y/\CQ env y=.int .i64 z/\0<=z/\z.toNat=l)
  (j:hi=AF/\h=n\/ ∃y,∃z:Int,hi=AC y/\CQ env y=.int .i64 z/\0<=z/\z.toNat=h)(B:l<=h)(F:h<=n):CU P o env H (.osl i (s+l) (h-l) k):=by
 intro Y V σ N a w r;have f:=Qq r x;rw[O]at f;rcases f with⟨rfl,f⟩|⟨b,p,g,J,m,f,L,W,⟨Q,R⟩,E,X⟩
 .have d:=ow (P:=P) (w:=w) E1 E2 (ad:=AF) (XT 0) (gy r t) (gy r j) B F;refine⟨_,by simp only[execOp,G,f,Vn,d,Xk];rfl,?_⟩;left
  grind
 .have d:=ow (w:=w) E1 E2 (ad:=AC ⟨b,p,AF⟩) Q (gy r t) (gy r j) B F;refine⟨_,by simp only[execOp,G,L,Vn,d,Xk];rfl,?_⟩;right;by_cases M:g=l
  .refine⟨b,p,0,J,m,f,by grind,λq=>by omega,by omega,E,?_⟩
   grind
  .refine⟨b,p+l*k,g-l,J,m,f,by rw[Vs M];simp[Se],λq=>by grind,by omega,E,?_⟩
   grind
theorem CU.max{c:Call}{x y:Operand}{k:IntKind}{m n:Int}(h:o.op=.call c)(g:c={callee:=.builtin .max,args:= #[x,y],argTypes:=c.argTypes})(t:CQ env x=.int k m)(q:CQ env y=.int k n):
  CU P o env H (.int k (if m<n then n else m)):=by
 intro E B σ N a w r;have z:=QV r t;have j:=QV r q;refine⟨_,?_,rfl⟩;generalize a.eval=ρ at*;have d:c.callee=.builtin .max:=by rw[g]
 have f:c.args= #[x,y]:=by rw[g]
 simp only[execOp,h,resolve,d,f,invoke,Vn,Result.andThen];simp[Builtin.max_,Builtin.max2,z,j,go_sem]
theorem CU.min{c:Call}{x y:Operand}{k:IntKind}{m n:Int}(h:o.op=.call c)(g:c={callee:=.builtin .min,args:= #[x,y],argTypes:=c.argTypes})(t:CQ env x=.int k m)(q:CQ env y=.int k n):
  CU P o env H (.int k (if n<m then n else m)):=by
 intro E B σ N a w r;have z:=QV r t;have j:=QV r q;refine⟨_,?_,rfl⟩;generalize a.eval=ρ at*;have d:c.callee=.builtin .min:=by rw[g]
 have f:c.args= #[x,y]:=by rw[g]
 simp only[execOp,h,resolve,d,f,invoke,Result.andThen];simp[Builtin.min_,Builtin.min2,z,j,go_sem]
end
variable {id:Nat}
section
variable {P:AK} {h0 N:Nat} {env:Env} {H:Qd} {Q:Qz} {c c':Code}
def m4(h0:Nat)(Eb:Env)(Hb:Qd)(Q:Qz):Qz
 |.normal,env,H=>Le h0 env H Eb Hb
 |.exit id,env,H=>Q (.exit id) env H
 |.ret,env,H=>Q .ret env H
theorem TC.cut(Eb:Env)(Hb:Qd)(h:TC P h0 N c env H (m4 h0 Eb Hb Q))(k:∀env H,Le h0 env H Eb Hb->Q .normal env H):TC P h0 N c env H Q:=
 h.mono λx env' H' q=>by
  cases x with
  |normal=>exact k _ _ q
  |exit id=>exact q
  |ret=>exact q
theorem Zl(h:TC P h0 N c env H Q):cO P h0 N c Q .normal env H:=h
theorem Zj(h:Q (.exit id) env H):cO P h0 N c Q (.exit id) env H:=h
theorem Zk(h:Q .ret env H):cO P h0 N c Q .ret env H:=h
theorem cG(h:Q .normal env H):Pa id Q .normal env H:=h
theorem cH(h:Q .normal env H):Pa id Q (.exit id) env H:=by simp_all[Pa]
theorem cC{d:Nat}(e:Nat.beq d id=AD)(h:Q (.exit d) env H):Pa id Q (.exit d) env H:=by simp[Pa,e];exact h
theorem cF(h:Q .ret env H):Pa id Q .ret env H:=h
def LQ(h0:Nat)(b:CG S B)(Eb:S->Env)(Hb:S->Qd)(Q:Qz):Qz
 |.normal,env,H=>∃s,b=.k s/\Le h0 env H (Eb s) (Hb s)
 |.exit id,env,H=>Q (.exit id) env H
 |.ret,env,H=>Q .ret env H
theorem _P{B:Type}{b:CG S B}(Eb:S->Env)(Hb:S->Qd)(h:TC P h0 N c env H (LQ h0 b Eb Hb Q))(k:∀s env H,b=.k s->Le h0 env H (Eb s) (Hb s)->Q .normal env H):TC P h0 N c env H Q:=
 h.mono λx env' H' q=>by
  cases x with
  |normal=>obtain⟨s,e,q⟩:=q;grind
  |exit id=>exact q
  |ret=>exact q
section
variable {S B:Type} {b:CG S B} {Eb:S->Env} {Hb:S->Qd}
theorem J7{s:S}(e:b=.k s)(h:Le h0 env H (Eb s) (Hb s)):LQ h0 b Eb Hb Q .normal env H:=⟨s,e,h⟩
theorem NR(h:Q .ret env H):LQ h0 b Eb Hb Q .ret env H:=h
end
theorem QoI{x:Operand}{t:Bool}(hx:CQ env x=.bool t)(h:t=AE)(ht:TC P h0 N c env H Q):TC P h0 N (.cond x c c') env H Q:=TC.cond hx (λ_=>ht) (λq=>by grind)
theorem QoJ{x:Operand}{t:Bool}(hx:CQ env x=.bool t)(h:t=AD)(hf:TC P h0 N c' env H Q):TC P h0 N (.cond x c c') env H Q:=TC.cond hx (λq=>by grind) (λ_=>hf)
section
variable {S B:Type} {I:S->Env->Qd->Prop}
theorem Q1{s:S}{d:CG S B}(e:AC (CG.k s)=AC d)(h:I s env H):JM I d Q .normal env H:=⟨s,(by grind),h⟩
theorem QI{b:B}{d:CG S B}(e:AC (CG.d b)=AC d)(h:Q (.exit id) env H):JM I d Q (.exit id) env H:=⟨(by grind),h⟩
theorem Il{b:B}{d:CG S B}(e:AC (CG.d b)=AC d)(h:Q .ret env H):JM I d Q .ret env H:=⟨(by grind),h⟩
end
end
theorem QF{α β:Type}{x:AB α}{f:α->AB β}{r:β}(h:x.bind f=AC r):∃a,x=AC a/\f a=AC r:=Option.bind_eq_some_iff.1 h
def CJ(l:AA α)(i:Int):AB α:=bif 0<=i then l[i.toNat]? else AF
theorem KK{α:Type}{l:AA α}{i:Int}{x:α}(h:CJ l i=AC x):0<=i/\l[i.toNat]?=AC x:=by
 grind[CJ]
def app(l m:AA α):AB (AA α):=bif Nat.ble (l.length+m.length) YE then AC (l++m)else AF
variable {r:AA α}
theorem jr{l m:AA α}(h:app l m=AC r):l.length+m.length<=YE/\l++m=r:=by
 unfold app at h;cases q:Nat.ble (l.length+m.length) YE with
 |true=>simp_all
 |false=>grind
def Dd(l:AA α)(lo hi:Int):AB (AA α):=bif AG (0<=lo)&&AG (lo<=hi)&&AG (hi<=(l.length:Int))then AC ((l.take hi.toNat).drop lo.toNat)else AF
theorem SV{l:AA α}{lo hi:Int}(h:Dd l lo hi=AC r):0<=lo/\lo<=hi/\hi<=l.length/\(l.take hi.toNat).drop lo.toNat=r:=by
 grind[Dd]
def JG(l:AA α)(i:Int)(x:α):AB (AA α):=bif AG (0<=i)&&AG (i<(l.length:Int))then AC (l.set i.toNat x)else AF
theorem gX{α:Type}{e:α->AA A}{l:AA α}{i:Nat}{x:α}(h:l[i]?=AC x):(l.map e)[i]?=AC (e x):=by simp[h]
section
variable {P:AK} {h0 N:Nat} {env:Env} {H H':Qd} {Q:Qz} {all:Array AM} {o:AM} {l:AA AM} {d:Nat} {x:A}
theorem vV(f:CU P o env H x)(k:WO P h0 N all l (up env d x) H Q)(hg:QA all o env true:=by rfl)(hd:o.dst=AC d:=by rfl)(hN:Nat.blt d N=true:=by rfl):WO P h0 N all (o::l) env H Q:=
 Yn hg hd hN f k
theorem vH(f:D3 P o env H x H')(k:WO P h0 N all l (up env d x) H' Q)(hg:QA all o env true:=by rfl)(hd:o.dst=AC d:=by rfl)(hN:Nat.blt d N=true:=by rfl)(hh:Nat.ble h0 H.length=true:=by rfl):WO P h0 N all (o::l) env H Q:=
 W_ (by simp_all) hg hd hN f k
theorem vN(d:D3 P o env H x H')(k:WO P h0 N all l env H' Q)(hg:QA all o env true:=by rfl)(hd:o.dst=none:=by rfl)(hh:Nat.ble h0 H.length=true:=by rfl):WO P h0 N all (o::l) env H Q:=
 yu (by simp_all) hg hd d k
theorem vU(d:Io P o env H H')(k:WO P h0 N all l env H' Q)(hg:QA all o env true:=by rfl)(hd:o.dst=none:=by rfl)(hh:Nat.ble h0 H.length=true:=by rfl):WO P h0 N all (o::l) env H Q:=
 j6 (by simp_all) hg hd d k
theorem gT{j s:Nat}{c x:Bool}(d:x=c)(hg:o.guard=AC (j,c):=by rfl)(hs:(all[j]?).bind (·.dst)=AC s:=by rfl)(hl:lk env s=.bool x:=by rfl):QA all o env true:=by
 simp_all[QA]
theorem gF{j s:Nat}{c x:Bool}(d:x= !c)(hg:o.guard=AC (j,c):=by rfl)(hs:(all[j]?).bind (·.dst)=AC s:=by rfl)(hl:lk env s=.bool x:=by rfl):QA all o env false:=by
 simp_all[QA]
theorem NV{x x':A}(f:x'=x)(hH:H'=H)(k:WO P h0 N all l (up env d x) H Q):WO P h0 N all l (up env d x') H' Q:=by grind
theorem NU(hH:H'=H)(k:WO P h0 N all l env H Q):WO P h0 N all l env H' Q:=by grind
theorem Qh{g:AA A}{Hc:Qd}(π:AA Nat)(h:C6 P o env H f args)(j:C P f g Hc Qr)
  (k:∀r H1,Qr r H1->WO P h0 N all l (up env d (YY (Ci π H.length) r)) (Q8 H π (H1.map (QW (Ci π H.length)))) Q)
  (hargs:args=JB (Ci π H.length) g:=by rfl)(hH:π.map (λp=>H[p]?)=(Hc.map (QW (Ci π H.length))).map some:=by rfl)(hπ:π.Nodup:=by decide)
  (hg:QA all o env true:=by rfl)(hd:o.dst=AC d:=by rfl)(hN:Nat.blt d N=true:=by rfl)(hh:Nat.ble h0 H.length=true:=by rfl):WO P h0 N all (o::l) env H Q:=
 WO.call π (by simp_all) hg hd (λx m=>by simp_all) h hargs hH hπ j k
end
section
variable {P:AK} {o:AM} {env:Env} {H:Qd} {α:Type} {e:α->AA A}
theorem pf{c:Call}{t g:Nat}{x:Operand}{l:AA α}(d:∀w,(underlying t).run P w=.ok (.slice g) w)(f:o.op=.call c:=by rfl)(hc:c={callee:=.builtin .len,args:= #[x],argTypes:= #[t]}:=by rfl)
  (hx:CQ env x=.rsl k (l.map e):=by rfl):CU P o env H (.int .i64 l.length):=by
 have:=QoM (H:=H) f hc d hx
 grind
theorem Mg{t d:Nat}{x y:Operand}{l:AA α}{j:IntKind}{i:Int}{v:α}(h:CJ l i=AC v)(m:∀w,(underlying t).run P w=.ok (.slice d) w)(f:∀w,(sizeOf d).run P w=.ok k w)
  (g:o.op=.indexAddr t x y:=by rfl)(hx:CQ env x=.rsl k (l.map e):=by rfl)(hy:CQ env y=.int j i:=by rfl):CU P o env H (.rp (e v)):=
 _M g m f hx hy (KK h).1 (gX (KK h).2)
theorem Qf{t d b n:Nat}{x y:Operand}{l:AA α}{j:IntKind}{i:Int}{v:α}(h:CJ l i=AC v)(z:l.length=n)(m:∀w,(underlying t).run P w=.ok (.slice d) w)(f:∀w,(sizeOf d).run P w=.ok k w)
  (g:o.op=.indexAddr t x y:=by rfl)(hx:CQ env x=.osl b 0 n k:=by rfl)(hy:CQ env y=.int j i:=by rfl):CU P o env H (.ptr b (i.toNat*k)):=by
 have:=KK h;have q:i.toNat<l.length:=(by grind);have B:=pU (H:=H) g m f hx hy this.1 (by omega)
 grind
theorem Qp{b t f:Nat}{l:AA α}{i:Int}{v:α}(h:CJ l i=AC v)(hH:H[b]?=AC (.row t k (l.map e)):=by rfl)(hcs:(e v).drop f=cs':=by rfl):DZ H (.ptr b (i.toNat*k+f)) cs':=
 DZ.row hH rfl (gX (KK h).2) hcs
theorem Qi{b t:Nat}{l:AA α}{i:Int}{v:α}(h:CJ l i=AC v)(hH:H[b]?=AC (.row t k (l.map e)):=by rfl)(hcs:e v=cs':=by rfl):DZ H (.ptr b (i.toNat*k)) cs':=
 DZ.row (f:=0) hH rfl (gX (KK h).2) hcs
theorem QoO{c:Call}{et et':Nat}{x y:Operand}{d:A}{m r:AA α}(h:app [] m=AC r)(E:ElemTy P T et k)(j:∀w,(underlying T').run P w=.ok (.slice et') w)(f:HP P H d k (m.map e))
  (g:o.op=.call c:=by rfl)(hc:c={callee:=.builtin .append,args:= #[x,y],argTypes:= #[T,T']}:=by rfl)(hx:CQ env x=.nils:=by rfl)(hy:CQ env y=d:=by rfl):
  D3 P o env H (.osl H.length 0 r.length k) (H++[.row et k (r.map e)]):=by
 obtain⟨n,rfl⟩:=jr h;have:=Qgg E j g hc hx hy f (by grind)
 grind
theorem Ql{c:Call}{et et' i n:Nat}{x y:Operand}{d:A}{l m r:AA α}(h:app l m=AC r)(E:ElemTy P T et k)(j:∀w,(underlying T').run P w=.ok (.slice et') w)(f:HP P H d k (m.map e))
  (g:l.length=n:=by rfl)(ho:o.op=.call c:=by rfl)(hc:c={callee:=.builtin .append,args:= #[x,y],argTypes:= #[T,T']}:=by rfl)(hx:CQ env x=.osl i 0 n k:=by rfl)
  (hH:H[i]?=AC (.row et k (l.map e)):=by rfl)(hy:CQ env y=d:=by rfl):
  D3 P o env H (.osl H.length 0 r.length k) (H.set i .dead++[.row et k (r.map e)]):=by
 obtain⟨q,rfl⟩:=jr h;subst g;have:=sY E j ho hc hx hH (by simp) hy f (by grind) (gs:=(l++m).map e) (by rw[VI (by simp)];simp)
 grind
theorem K3{l:AA α}:HP P H (.rsl k (l.map e)) k (l.map e):=HP.rsl
theorem QE{i n t:Nat}{l:AA α}(hH:H[i]?=AC (.row t k (l.map e)):=by rfl)(hn:l.length=n:=by rfl):HP P H (.osl i 0 n k) k (l.map e):=
 HP.osl hH (by grind[List.take_of_length_le]) (by simp[hn])
theorem Yv{t n b f:Nat}{x y:Operand}{l l':AA α}{i:Int}{v m:α}{a:A}{d:Nat}(h:CJ l i=AC v)(B:JG l i m=AC l')(q:∀w,(sizeOf t).run P w=.ok n w)(g:d=i.toNat*k+f)(j:splice (e v) f vs=e m)
  (z:o.op=.store t x y:=by rfl)(hx:CQ env x=.ptr b d:=by rfl)(hH:H[b]?=AC (.row T k (l.map e)):=by rfl)
  (hy:CQ env y=a:=by rfl)(hk:Yi a=true:=by rfl)(hv:Yf a=vs:=by rfl)(hn:vs.length=n:=by rfl)(hp:vs.all Yr=true:=by rfl)(hd:YI vs=true:=by rfl)(hf:Nat.ble (f+n) k=true:=by rfl):
  Io P o env H (H.set b (.row T k (l'.map e))):=by
 refine QhP z hx hH q g (gX (KK h).2) hy hk hv hn hp hd hf j ?_
 grind[JG,List.map_set]
end
def ZR(a:A)(v:AL):Prop:=∀ro σ w,VR ro σ w a v
def ZL(az:AA A)(l:AA AL):Prop:=∀ro σ w,LR ro σ w az l
theorem ZR.int{k:IntKind}{n:Int}:ZR (.int k n) (.int k n):=λ_ _ _=>rfl
theorem ZR.bool{b:Bool}:ZR (.bool b) (.bool b):=λ_ _ _=>rfl
theorem ZR.str:ZR (.str []) (.string ⟨#[]⟩):=λ_ _ _=>rfl
theorem ZR.rsl{α:Type}{k:Nat}{e:α->AA A}:ZR (.rsl k (List.map e [])) (.slice AF 0 0):=λ_ _ _=>⟨AF,0,rfl,XT _,.inl rfl⟩
theorem ZR.nils:ZR .nils (.slice AF 0 0):=λ_ _ _=>rfl
theorem ZR.nilp:ZR .nilp (.pointer AF):=λ_ _ _=>rfl
theorem ZR.nilf:ZR .nilf .nilFunc:=λ_ _ _=>rfl
theorem ZR.nilm:ZR .nilm (.map AF):=λ_ _ _=>rfl
theorem _S:ZR .nilif .nilIface:=λ_ _ _=>rfl
theorem ZL.nil:ZL [] []:=λ_ _ _=>rfl
variable {az:AA A}
theorem ZL.cons{a:A}{v:AL}{l:AA AL}(h:ZR a v)(k:ZL az l):ZL (a::az) (v::l):=λro σ w=>⟨v,l,rfl,h ro σ w,k ro σ w⟩
theorem ZR.agg{az:AA A}{l:AA AL}(h:ZL az l):ZR (.agg az) (.agg l.toArray):=λro σ w=>⟨l,rfl,h ro σ w⟩
section
variable {P:AK} {o:AM} {env:Env} {H:Qd}
theorem da{t:Nat}{z:AL}{v:A}{d:AA A}(m:∀w,(zeroValue t).run P w=.ok z w)(j:ZR v z)(k:o.op=.alloc t:=by rfl)(hk:Yi v=true:=by rfl)(hcs:Yf v=d:=by rfl)(hpl:d.all Yr=true:=by rfl):
  D3 P o env H (.ptr H.length 0) (H++[.cells t d]):=by
 intro n g σ N a w r;obtain⟨l,h,f⟩:=(j g σ w).cells hk;subst hcs;refine⟨.pointer (AC ⟨w.heap.size,0,AF⟩),w.alloc (.cells l.toArray t),g,[AC w.heap.size],?_,⟨w.heap.size,?_,rfl⟩,r.sim.allocCells f (f.plain hpl),Qm.alloc _ r.sim.roLt r.sim.frLt⟩
 .have e:(newVar t z).run P w=.ok ⟨w.heap.size,0,AF⟩ (w.alloc (.cells l.toArray t)):=by
   unfold newVar;rw[h];rfl
  simp_all[execOp,Instr.alloc]
 .rw[<- r.sim.len];simp
theorem QjQ{p q:Bool}(f:∀w,(underlying t).run P w=.ok .bool w):(Op.equal t (.bool p) (.bool q)).run P w=.ok (p==q) w:=by
 have k:∀d,(Op.equalIn (d+1) t (.bool p) (.bool q)).run P w=.ok (p==q) w:=by
  simp[Op.equalIn,f]
 exact k 9999
theorem sT{x y:Operand}{p q:Bool}(g:∀w,(underlying t).run P w=.ok .bool w)(d:o.op=.binOp .neq t x y u:=by rfl)(hx:CQ env x=.bool p:=by rfl)(hy:CQ env y=.bool q:=by rfl):CU P o env H (.bool (p != q)):=by
 intro j h σ N a w r;have k:=gx r hx;have f:=gx r hy;refine⟨_,?_,rfl⟩
 simp_all[execOp,Go.binOp,eqGuard,QjQ,bne]
theorem sG{x y:Operand}{s:AA UInt8}{k:IntKind}{i:Int}{c:UInt8}(h:CJ s i=AC c)(d:∀w,(underlying t).run P w=.ok .string w)(f:o.op=.index t x y:=by rfl)(hx:CQ env x=.str s:=by rfl)(hy:CQ env y=.int k i:=by rfl):
  CU P o env H (.int .u8 c.toNat):=QmA f d hx hy (KK h).1 (KK h).2
theorem QmE{c:Call}{t g i n:Nat}{x:Operand}(d:∀w,(underlying t).run P w=.ok (.slice g) w)(f:o.op=.call c:=by rfl)(hc:c={callee:=.builtin .len,args:= #[x],argTypes:= #[t]}:=by rfl)
  (hx:CQ env x=.osl i 0 n k:=by rfl):CU P o env H (.int .i64 n):=QoN f hc d hx
end
def Qe(k:IntKind)(n:Int):AA A:=[.int k n]
def JE(b:Bool):AA A:=[.bool b]
def JD(s:AA UInt8):AA A:=[.str s]
def Qx(k:Nat)(e:α->AA A)(l:AA α):AA A:=[.rsl k (l.map e)]
theorem qq{o:AM}{a:Act}{next:Act->AJ->Prop}{g:Result Next}
  (q:∀a' w',next a' w'->a'.defers=a.defers)(h:o.uponIn (WF rd) 0 P a next Q g):
  o.uponIn (WF rd) 0 P a (λa' w'=>next a' w'/\ ∃v,a'=a.put o.dst v) Q g:=by
 cases g with
 |ok n w'=>
  cases n with
  |value v=>exact⟨h,_,rfl⟩
  |skip=>exact⟨h,_,rfl⟩
  |defer d=>
   have:=congrArg List.length (q _ _ h)
   revert this
   cases o.dst<;>simp[Act.put]
  |enter f j=>
   exact⟨h.1,CallsIn.mono h.2 (by grind)⟩
  |row r j=>exact⟨h.1,RowsIn.mono h.2 (by grind)⟩
  |round l f m assign k=>exact⟨h.1,RoundIn.mono h.2 (by grind)⟩
  |_=>exact h.elim
 |halt x w'=>cases x<;>first|exact h|exact h.elim
def YW(e:Env)(H:Qd):Qz:=λx e' H'=>x=.normal/\e'=e/\H'=H
theorem YW.mk{e:Env}{H:Qd}:YW e H .normal e H:=⟨rfl,rfl,rfl⟩
inductive Sb (af bf ds:List Nat) (xs:List A) (env0:Env):Env->Prop
 |nil:Sb af bf ds xs env0 []
 |dep (j:Nat) {s:Nat} {a:A} {r:Env} (h1:af.contains j=AE) (h2:ds[j]?=AC s) (h3:xs[j]?=AC a) (k:Sb af bf ds xs env0 r):Sb af bf ds xs env0 ((s,a)::r)
 |old {s:Nat} {a:A} {r:Env} (h1:ds.contains s=AD) (h2:lk env0 s=a) (k:Sb af bf ds xs env0 r):Sb af bf ds xs env0 ((s,a)::r)
 |pre (j:Nat) {s:Nat} {a:A} {r:Env} (h1:bf.contains j=AE) (h2:ds[j]?=AC s) (h3:lk env0 s=a) (k:Sb af bf ds xs env0 r):Sb af bf ds xs env0 ((s,a)::r)
def Qj(o:AM):AA Nat:=(o.after.toList.filter (Region.binds .any)).map (·.on)
def NM(l:AA AM)(i:Nat):AA Nat:=(List.range l.length).filter λj=>((l[j]?).map Qj).getD [] |>.contains i
inductive NP (P:AK) (N:Nat) (l:List AM) (ds:List Nat) (xs:List A) (env0:Env) (i:Nat) (H H':Qd):Prop
 |mk (o:AM) (e:Env) (d:Nat) (x:A) (ho:l[i]?=AC o) (hd:o.dst=AC d) (hx:xs[i]?=AC x) (hs:Sb (Qj o) (NM l i) ds xs env0 e)
   (h:WO P H.length N l.toArray [o] e H (YW (up e d x) H')):NP P N l ds xs env0 i H H'
variable {env0:Env}
theorem NP.use{l:AA AM}{M:AA Nat}{xs:AA A}{i:Nat}{H:Qd}(z:NP P N l M xs env0 i H H'){K:Act->AJ->Prop}{a:Act}{o:AM}(Y:l[i]?=AC o)
  (t:Ca fr ro σ H w)(hN:a.tmps.size=N)(E:IT fr a.defers w)(T:J2 rd fr w)
  (hD:∀j∈Qj o,∀s x,M[j]?=AC s->xs[j]?=AC x->VR ro σ w x (a.tmps.getD s undef))
  (hE:∀s,M.contains s=AD->VR ro σ w (lk env0 s) (a.tmps.getD s undef))(hP:∀j s,(NM l i).contains j=AE->M[j]?=AC s->VR ro σ w (lk env0 s) (a.tmps.getD s undef))
  (hK:∀v w' ro' τ d x,o.dst=AC d->xs[i]?=AC x->VR ro' (σ++τ) w' x ((a.put o.dst v).tmps.getD d undef)->Ca fr ro' (σ++τ) H' w'->Qm fr ro w ro' w'->K (a.put o.dst v) w'):
  wpOpIn (WF rd) 0 P l.toArray Q i K a w:=by
 obtain⟨B,e,d,x,R,hd,hx,hs,h⟩:=z;obtain rfl:B=o:=XZ (R.symm.trans Y);have J:DH fr ro σ H e N a w:=by
  refine⟨t,?_,hN,E⟩;intro s;clear h
  induction hs with
  |nil=>exact trivial
  | @dep j s1 y r k g h3 _ ih=>
   unfold lk;cases z:Nat.beq s s1 with
   |false=>exact ih
   |true=>
    obtain rfl:=XQ z
    grind
  | @old s1 y r k g _ ih=>
   unfold lk;cases z:Nat.beq s s1 with
   |false=>exact ih
   |true=>
    obtain rfl:=XQ z
    grind
  | @pre j s1 y r k g h3 _ ih=>
   unfold lk;cases z:Nat.beq s s1 with
   |false=>exact ih
   |true=>
    obtain rfl:=XQ z
    grind
 have G:=h rd fr ro σ a w J T;have fin:∀v w',Hu H.length fr ro σ w N a.defers (YW (up e d x) H') .normal (a.put B.dst v) w'->K (a.put B.dst v) w':=by
  rintro v w' ⟨_,ab,H2,ro',σ',ac,_,⟨_,rfl,rfl⟩,r',m,ht,_,O⟩;have hσ:σ'=σ++σ'.drop H.length:=by
   conv=>lhs;rw[<- Xy H.length σ']
   rw[ht, <- t.len,Va]
  have L:=r'.env d;unfold lk at L;rw[VE]at L;rw[hσ]at L;refine hK v w' ro' (σ'.drop H.length) d x hd hx L ?_ m;rw[<- hσ];exact r'.sim.frMono O.sub
 unfold wpOpIn;have V:l.toArray[i]?=AC B:=by simpa using Y
 rw[V];simp only;unfold D6 wpListIn at G;split at G
 .rename_i hw;rw[Vt hw];obtain⟨W,G⟩:=G;refine⟨W,?_⟩;have g:=qq (by
   intro a' w' q;unfold wpListIn at q;obtain⟨_,_,_,_,_,_,_,_,_,_,_,q,_⟩:=q;exact q) G
  generalize(B.semAt (WF rd).round a.eval).run P w=res at*;cases res with
  |ok n w'=>
   cases n with
   |value v=>exact fin _ _ g.1
   |skip=>exact fin _ _ g.1
   |defer df=>
    exfalso;obtain⟨⟨_,_,_,_,_,_,_,_,_,_,_,q,_⟩,_⟩:=g;have:=congrArg List.length q
    revert this
    cases B.dst<;>simp[Act.put]
   |enter f F=>
    refine⟨g.1,CallsIn.mono g.2 (λe X m=>?_)⟩;cases e with
    |returned v=>exact fin _ _ m.1
    |panicked c=>obtain⟨y,_,_,_,_,_,k,⟨rfl,_⟩,_⟩:=m;exact k.elim
    |outgrown=>obtain⟨a1,w1,y,_,_,_,_,_,k,⟨rfl,_⟩,_⟩:=m;exact k.elim
   |row r F=>
    exact⟨g.1,RowsIn.mono g.2 (λ_ _ m=>fin _ _ m.1)⟩
   |round l f tmps assign aa=>
    refine⟨g.1,RoundIn.mono g.2 (λe X m=>?_)⟩;cases e with
    |returned v=>exact fin _ _ m.1
    |panicked c=>obtain⟨y,_,_,_,_,_,k,⟨rfl,_⟩,_⟩:=m;exact k.elim
    |outgrown=>obtain⟨a1,w1,y,_,_,_,_,_,k,⟨rfl,_⟩,_⟩:=m;exact k.elim
   |_=>exact g.elim
  |halt x w'=>
   cases x with
   |panic v=>obtain⟨y,_,_,_,_,_,k,⟨rfl,_⟩,_⟩:=g;exact k.elim
   |_=>exact g.elim
 simp_all[wpListIn]
theorem aG{p:Nat->Prop}(d:∀i,p i\/ ¬p i):∀n,p n->∃i,i<=n/\p i/\ ∀j,j<i->¬p j:=by
 intro n
 induction n using Nat.strongRecOn with
 |ind n f=>
  grind
def Do(L:Array Bool)(i:Nat):Prop:=L[i]?=AC AE
variable {L:Array Bool}
theorem ZP{l:AA AM}(n:L.size=l.length){i:Nat}:
  i∈Region.ready .any l.toArray L↔ ∃o,l[i]?=AC o/\ ¬Do L i/\ ∀j∈Qj o,Do L j:=by
 unfold Region.ready;simp only[Xd,List.mem_range,XW,XG];have f:∀j,L.getD j AD=AE↔Do L j:=by
  intro j;unfold Do;rw[Array.getD_eq_getD_getElem?]
  grind
 constructor
 .rintro⟨g,h,d⟩;refine⟨l[i],(by simp),?_,?_⟩
  .grind
  .rw[XK g]at d;simp only[Xj,Option.getD_some,Array.all_eq_true']at d;intro j k;unfold Qj at k
   grind
 .rintro⟨o,g,h,d⟩;have m:i<l.length:=(by grind);refine⟨m,?_,?_⟩
  .grind
  .rw[g];simp only[Xj,Option.getD_some,Array.all_eq_true'];intro e t;cases q:Region.binds .any e with
   |false=>simp
   |true=>
    have:=(f _).2 (d e.on (by unfold Qj;grind))
    grind
theorem JH{i j:Nat}(hi:i<L.size):Do (L.setIfInBounds i AE) j↔j=i\/Do L j:=by
 grind[Do]
def Mt(L:Array Bool):Nat:=L.toList.countP (!·)
theorem kb{i:Nat}(hi:i<L.size)(h:¬Do L i):Mt (L.setIfInBounds i AE)+1=Mt L:=by
 unfold Mt;have d:L.toList[i]=false:=by
  grind[Do]
 grind
theorem o7{i:Nat}(hi:i<L.size)(h:¬Do L i):0<Mt L:=by have:=kb hi h;omega
inductive Me (l:List AM) (m:Nat):Nat->Prop
 |one {o:AM} {j:Nat} (ho:l[m]?=AC o) (hj:j∈Qj o):Me l m j
 |step {o:AM} {i j:Nat} (h:Me l m i) (ho:l[i]?=AC o) (hj:j∈Qj o):Me l m j
def c8(l:AA AM):Nat->AA Nat->AA Nat
 |0,S=>S
 |j+1,S=>c8 l j (bif S.contains j then S++(match l[j]? with|some o=>Qj o|none=>[])else S)
theorem gu{l:AA AM}{m:Nat}:∀(n:Nat) (S:AA Nat),(∀j∈S,Me l m j)->∀j∈c8 l n S,Me l m j
 |0,S,h,j,hj=>h j hj
 |n+1,S,h,j,hj=>by
  refine gu n _ ?_ j hj;intro i hi;cases q:S.contains n with
  |false=>grind
  |true=>
   rw[q]at hi;rcases VC.1 hi with z|z
   .exact h i z
   .cases ho:l[n]? with
    |none=>grind
    |some o=>rw[ho]at z;exact .step (by grind) ho z
def IU(ds:AA Nat)(xs:AA A)(env0:Env):Env:=ds.zip xs++env0
theorem t?{f:AA Nat}{xs:AA A}(g:f.length=xs.length)(s:Nat):
  (∃(j:Nat) (x:A),f[j]?=AC s/\xs[j]?=AC x/\lk (IU f xs env0) s=x)\/(f.contains s=AD/\lk (IU f xs env0) s=lk env0 s):=by
 unfold IU
 induction f generalizing xs with
 |nil=>simp
 |cons d f n=>
  cases xs with
  |nil=>simp at g
  |cons x xs=>
   simp[X0,Nat.add_right_cancel_iff]at g;simp only[List.zip_cons_cons,VK,lk];cases h:Nat.beq s d with
   |true=>
    obtain rfl:=XQ h;left;exact⟨0,x,rfl,rfl,by simp⟩
   |false=>
    have m:s≠d:=λq=>by simp_all
    rcases n g with⟨j,y,t,k,z⟩|⟨t,k⟩
    .left;exact⟨j+1,y,by grind,by grind,by grind⟩
    grind
def Cx.nodupB:AA Nat->Bool
 |[]=>AE
 |x::r=> !r.contains x&&Cx.nodupB r
def Cx.goB(l:AA AM)(m:Nat):Nat->AA AM->Bool
 |_,[]=>AE
 |i,o::r=>(Qj o).all (λj=>Nat.blt j i)&&(bif Nat.beq i m then(List.range m).all (λj=>(c8 l m (Qj o)).contains j)else bif Nat.blt m i then(Qj o).contains (i-1)else AE)&&Cx.goB l m (i+1) r
def Cx.loB(m k:Nat)(los:AA Nat)(hs:AA Bool):Nat->AA AM->Bool
 |_,[]=>(List.range k).all λj=>(List.range m).any λi=>hs.getD i AD&&Nat.beq (los.getD i 0) j
 |i,o::r=>(bif Nat.blt i m then
   (Nat.beq (los.getD i 0) 0||(Qj o).any (λj=>Nat.blt j m&&Nat.ble (los.getD i 0) (los.getD j 0+(if hs.getD j AD then 1 else 0))))
   &&(!hs.getD i AD||(Nat.blt (los.getD i 0) k&&(List.range m).all (λj=> !hs.getD j AD|| !Nat.beq (los.getD i 0) (los.getD j 0)||Nat.beq i j)))
  else AE)&&Cx.loB m k los hs (i+1) r
def Cx(l:AA AM)(m k N:Nat)(ds los:AA Nat)(hs:AA Bool):Bool:=
 Nat.ble m l.length&&(ds.length==m)&&(l.take m).map (·.dst)==ds.map AC&&ds.all (λd=>Nat.blt d N)&&Cx.nodupB ds
 &&Cx.goB l m 0 l&&(Cx.loB m k los hs 0 l)
theorem sx{f:AA Nat}(h:Cx.nodupB f=AE):∀(i j d:Nat),f[i]?=AC d->f[j]?=AC d->i=j:=by
 induction f with
 |nil=>simp
 |cons x r g=>
  simp[Cx.nodupB,XW]at h
  grind
theorem qV{l:AA AM}:∀(r:AA AM) (b:Nat),Cx.goB l m b r=AE->∀(i:Nat) (o:AM),r[i]?=AC o->
  (∀j∈Qj o,j<b+i)/\(b+i=m->∀j,j<m->j∈c8 l m (Qj o))/\(m<b+i->b+i-1∈Qj o):=by
 intro r
 induction r with
 |nil=>simp
 |cons x r t=>
  intro b h i o g;simp only[Cx.goB]at h;cases i with
  |zero=>
   simp at g;refine⟨λj f=>?_,λd j f=>?_,λd=>?_⟩
   .simp_all
   .simp_all
   .have k:Nat.beq b m=false:=by
     cases q:Nat.beq b m with
     |false=>rfl
     |true=>simp_all
    have n:Nat.blt m b=true:=by simp_all
    grind
  |succ i=>
   grind
inductive Ob (P:AK) (N:Nat) (l:List AM) (ds:List Nat) (xs:List A) (env0:Env):Nat->List (List (Qd×Qd))->Prop
 |nil {i:Nat}:Ob P N l ds xs env0 i []
 |cons {i:Nat} {s:List (Qd×Qd)} {r:List (List (Qd×Qd))} (h:∀p∈s,NP P N l ds xs env0 i p.1 p.2) (k:Ob P N l ds xs env0 (i+1) r):Ob P N l ds xs env0 i (s::r)
theorem Ob.get{l:AA AM}{d:AA Nat}{xs:AA A}{b:Nat}{f:AA (AA (Qd×Qd))}(h:Ob P N l d xs env0 b f):
  ∀(i:Nat) (s:AA (Qd×Qd)),f[i]?=AC s->∀p∈s,NP P N l d xs env0 (b+i) p.1 p.2:=by
 induction h with
 |nil=>simp
 | @cons b1 s1 r1 h _ ih=>
  grind
theorem Ob.st0{l:AA AM}{d:AA Nat}{xs:AA A}{i:Nat}:∀p∈([]:AA (Qd×Qd)),NP P N l d xs env0 i p.1 p.2:=by
 simp
theorem Ob.stC{l:AA AM}{d:AA Nat}{xs:AA A}{i:Nat}{H:Qd}{r:AA (Qd×Qd)}(h:NP P N l d xs env0 i H H')
  (k:∀p∈r,NP P N l d xs env0 i p.1 p.2):∀p∈(H,H')::r,NP P N l d xs env0 i p.1 p.2:=by
 grind
theorem Dn.nil{H:Qd}:Dn H [] []:=trivial
theorem Dn.cons{H:Qd}{d f:AA A}{a b:A}(e:az=a::d)(h:dr H a b)(k:Dn H d f):Dn H az (b::f):=by subst e;exact⟨h,k⟩
section
variable {P:AK} {o:AM} {env:Env} {H:Qd} {α:Type} {e:α->AA A}
theorem lK{t d:Nat}{x y:Operand}{l:AA α}{m:IntKind}{i:Int}{v:α}{f:AA A}(h:CJ l i=AC v)(he:e v=f)(n:∀w,(underlying t).run P w=.ok (.slice d) w)(g:∀w,(sizeOf d).run P w=.ok k w)
  (j:o.op=.indexAddr t x y:=by rfl)(hx:CQ env x=.rsl k (l.map e):=by rfl)(hy:CQ env y=.int m i:=by rfl):CU P o env H (.rp f):=
 he▸Mg h n g j hx hy
end
inductive PL (P:AK):List Field->List (Nat×Nat)->Prop
 |nil:PL P [] []
 |cons {f:Field} {n:Nat} {fs:List Field} {pl:List (Nat×Nat)} (h:∀w,(sizeOf f.type).run P w=.ok n w) (k:PL P fs pl):PL P (f::fs) ((f.offset,n)::pl)
theorem PL.run{P:AK}{fs:AA Field}{d:AA (Nat×Nat)}(h:PL P fs d):∀w,(fs.mapM λf=>(do pure (f.offset, <- sizeOf f.type):Sem (Nat×Nat))).run P w=.ok d w:=by
 induction h with
 |nil=>intro w;rfl
 |cons h _ ih=>
  simp_all
structure SQ (P:AK) (t:TypeId) (pl:List (Nat×Nat)):Prop where
 un:∃fs:List Field,(∀w,(underlying t).run P w=.ok (.struct fs.toArray) w)/\PL P fs pl
section
variable {P:AK} {o:AM} {env:Env} {H:Qd}
def P8(env:Env)(pl:AA (Nat×Nat)):AA A->AA (Nat×Operand)->AB (AA A)
 |cs,[]=>AC cs
 |cs,(i,x)::r=>match pl[i]? with
  |none=>AF
  |some (off,size)=>bif Yi (CQ env x)&&Nat.beq (Yf (CQ env x)).length size&&Nat.ble (off+size) cs.length then P8 env pl (splice cs off (Yf (CQ env x))) r else AF
theorem ki{fr ro:Nat->Prop}{σ:Ch}{N:Nat}{a:Act}{w:AJ}(r:DH fr ro σ H env N a w){f:AA (Nat×Nat)}:∀(parts:AA (Nat×Operand)) (d:AA A) (l:AA AL) (cs':AA A),
  LR ro σ w d l->P8 env f d parts=AC cs'->
  ∃l',Instr.fill (f.toArray[·]?) l.toArray (parts.map λp=>(p.1,a.eval p.2))=AC l'.toArray/\LR ro σ w cs' l'
 |[],d,l,cs',h,q=>by
  cases q;exact⟨l,rfl,h⟩
 |(i,x)::rest,d,l,cs',h,q=>by
  unfold P8 at q;cases hp:f[i]? with
  |none=>grind
  |some p=>
   obtain⟨off,size⟩:=p;rw[hp]at q;simp at q;cases hc:(Yi (CQ env x)&&Nat.beq (Yf (CQ env x)).length size&&Nat.ble (off+size) d.length)with
   |false=>grind
   |true=>
    rw[hc]at q;simp[XW]at hc;obtain⟨⟨c1,c2⟩,c3⟩:=hc;obtain⟨m,q1,q2⟩:=(Qq r x).cells c1;have hm:m.length=size:=by rw[q2.length];simp_all
    have hl:=h.length;obtain⟨l',g,j⟩:=ki r rest _ (splice l off m) cs' (h.splice off q2) q
    grind[re,Nat.le_of_ble_eq_true]
theorem CU.build{t:TypeId}{z:AL}{zs d:AA A}{f:AA (Nat×Nat)}{parts:AA (Nat×Operand)}(B:∀w,(zeroValue t).run P w=.ok z w)(q:ZR (.agg zs) z)(y:SQ P t f)
  (h:o.op=.build t parts.toArray:=by rfl)(hf:P8 env f zs parts=AC d:=by rfl):CU P o env H (.agg d):=by
 intro J x σ N a w r;obtain⟨G,F,n⟩:=y.un;obtain⟨l,rfl,k⟩:=q x σ w;obtain⟨g,m,E⟩:=ki r parts zs l d k hf;refine⟨.agg g.toArray,?_,g,rfl,E⟩;have j:=n.run w;simp only[execOp,h,Instr.build,Vn,B,Result.andThen,F,XI,List.mapM_toArray,Sem.run_map,j,Value.cells,m,Vo]
end
def nz(n:Int):AB Unit:=bif n==0 then AF else AC ()
section
variable {P:AK} {o:AM} {env:Env} {H:Qd}
theorem sB{x:Operand}{a:A}(k:o.op=.nilCheck x)(j:CQ env x=a:=by rfl)(hk:(match a with|.ptr _ _=>AE|.rp _=>AE|_=>AD)=true:=by rfl):CU P o env H a:=by
 intro n m σ N ac w r;have h:=Qq r x;rw[j]at h;cases a<;>first|(cases hk)|skip
 .obtain⟨b,g,f⟩:=h;refine⟨_,?_,b,g,rfl⟩
  simp_all[execOp]
 .obtain⟨b,d,g,f⟩:=h;refine⟨_,?_,b,d,rfl,f⟩
  simp_all[execOp]
end
mutual
def DM(i k:Nat)(es:AA (AA A)):A->A->Prop
 |.agg az,b=>∃bs,b=.agg bs/\G8 i k es az bs
 |.fn f x c,b=>∃x' c',b=.fn f x' c'/\G8 i k es x x'/\G8 i k es c c'
 |.iface t a,b=>∃a',b=.iface t a'/\DM i k es a a'
 |.tup az,b=>∃bs,b=.tup bs/\G8 i k es az bs
 |.osl j o n k',b=>b=.osl j o n k'\/(j=i/\o=0/\k'=k/\n=es.length/\b=.rsl k es)
 |.nils,b=>b=.nils\/ ∃k',b=.rsl k' []
 |a,b=>b=a
def G8(i k:Nat)(es:AA (AA A)):AA A->AA A->Prop
 |[],b=>b=[]
 |a::az,b=>∃a' as',b=a'::as'/\DM i k es a a'/\G8 i k es az as'
end
mutual
theorem DM.refl{i k:Nat}{es:AA (AA A)}:∀a:A,DM i k es a a
 |.agg az=>⟨az,rfl,G8.refl az⟩
 |.fn _ x c=>⟨x,c,rfl,G8.refl x,G8.refl c⟩
 |.iface _ a=>⟨a,rfl,DM.refl a⟩
 |.tup az=>⟨az,rfl,G8.refl az⟩
 |.osl _ _ _ _=>.inl rfl
 |.nils=>.inl rfl
 |.any=>rfl
 |.bool _=>rfl
 |.int _ _=>rfl
 |.str _=>rfl
 |.nilp=>rfl
 |.ptr _ _=>rfl
 |.rp _=>rfl
 |.rsl _ _=>rfl
 |.nilf=>rfl
 |.nilif=>rfl
 |.map _=>rfl
 |.nilm=>rfl
theorem G8.refl{i k:Nat}{es:AA (AA A)}:∀az:AA A,G8 i k es az az
 |[]=>rfl
 |a::az=>⟨a,az,rfl,DM.refl a,G8.refl az⟩
end
theorem DM.agg{i k:Nat}{es:AA (AA A)}{az bs:AA A}(h:G8 i k es az bs):DM i k es (.agg az) (.agg bs):=⟨bs,rfl,h⟩
theorem DM.tup{i k:Nat}{es:AA (AA A)}{az bs:AA A}(h:G8 i k es az bs):DM i k es (.tup az) (.tup bs):=⟨bs,rfl,h⟩
theorem DM.iface{i k:Nat}{es:AA (AA A)}{t:Nat}{a b:A}(h:DM i k es a b):DM i k es (.iface t a) (.iface t b):=⟨b,rfl,h⟩
theorem DM.own{i n:Nat}(hn:n=es.length):DM i k es (.osl i 0 n k) (.rsl k es):=.inr (by grind)
theorem DM.nil{i k':Nat}:DM i k es .nils (.rsl k' []):=.inr ⟨k',rfl⟩
theorem G8.cons{i:Nat}{a b:A}{bs:AA A}(h:DM i k es a b)(q:G8 i k es az bs):G8 i k es (a::az) (b::bs):=⟨b,bs,rfl,h,q⟩
mutual
theorem jm{i k:Nat}{es:AA (AA A)}{ro ro':Nat->Prop}{σ:Ch}{w:AJ}(ext:DL ro σ w ro' σ w)
  (hf:∀v,VR ro σ w (.osl i 0 es.length k) v->VR ro' σ w (.rsl k es) v):∀(a b:A) (v:AL),DM i k es a b->VR ro σ w a v->VR ro' σ w b v
 |.agg az,b,v,h,q=>by
  obtain⟨bs,rfl,h⟩:=h;obtain⟨l,rfl,q⟩:=q;exact⟨l,rfl,W7 ext hf az bs l h q⟩
 |.fn f x c,b,v,h,q=>by
  obtain⟨x',c',rfl,h1,h2⟩:=h;obtain⟨l,l',rfl,q1,q2⟩:=q;exact⟨l,l',rfl,W7 ext hf x x' l h1 q1,W7 ext hf c c' l' h2 q2⟩
 |.iface t a,b,v,h,q=>by
  obtain⟨a',rfl,h⟩:=h;obtain⟨x,rfl,q⟩:=q;exact⟨x,rfl,jm ext hf a a' x h q⟩
 |.tup az,b,v,h,q=>by
  obtain⟨bs,rfl,h⟩:=h;obtain⟨l,rfl,q⟩:=q;exact⟨l,rfl,W7 ext hf az bs l h q⟩
 |.osl j o n k',b,v,h,q=>by
  rcases h with rfl|⟨rfl,rfl,rfl,rfl,rfl⟩
  .exact q.mono ext
  .exact hf v q
 |.nils,b,v,h,q=>by
  rcases h with rfl|⟨k',rfl⟩
  .exact q
  .obtain rfl:v=.slice AF 0 0:=q;exact⟨AF,0,rfl,XT _,.inl rfl⟩
 |.any,b,v,h,q=>by obtain rfl:b=_:=h;trivial
 |.bool _,b,v,h,q=>by obtain rfl:b=_:=h;exact q
 |.int _ _,b,v,h,q=>by obtain rfl:b=_:=h;exact q
 |.str _,b,v,h,q=>by obtain rfl:b=_:=h;exact q
 |.nilp,b,v,h,q=>by obtain rfl:b=_:=h;exact q
 |.ptr _ _,b,v,h,q=>by obtain rfl:b=_:=h;exact q.mono ext
 |.rp _,b,v,h,q=>by obtain rfl:b=_:=h;exact q.mono ext
 |.rsl _ _,b,v,h,q=>by obtain rfl:b=_:=h;exact q.mono ext
 |.nilf,b,v,h,q=>by obtain rfl:b=_:=h;exact q
 |.nilif,b,v,h,q=>by obtain rfl:b=_:=h;exact q
 |.map _,b,v,h,q=>by obtain rfl:b=_:=h;exact q.mono ext
 |.nilm,b,v,h,q=>by obtain rfl:b=_:=h;exact q
theorem W7{i k:Nat}{es:AA (AA A)}{ro ro':Nat->Prop}{σ:Ch}{w:AJ}(ext:DL ro σ w ro' σ w)
  (hf:∀v,VR ro σ w (.osl i 0 es.length k) v->VR ro' σ w (.rsl k es) v):∀(az bs:AA A) (l:AA AL),G8 i k es az bs->LR ro σ w az l->LR ro' σ w bs l
 |[],bs,l,h,q=>by obtain rfl:bs=[]:=h;exact q
 |a::az,bs,l,h,q=>by
  obtain⟨a',as',rfl,h1,h2⟩:=h;obtain⟨v,l',rfl,q1,q2⟩:=q;exact⟨v,l',rfl,jm ext hf a a' v h1 q1,W7 ext hf az as' l' h2 q2⟩
end
def dv(i k:Nat)(es:AA (AA A))(x y:CW):Prop:=y=x\/ ∃t cs cs',x=.cells t cs/\y=.cells t cs'/\G8 i k es cs cs'
def Dh(i k:Nat)(es:AA (AA A)):Qd->Qd->Prop
 |[],h=>h=[]
 |x::r,h=>∃y r',h=y::r'/\dv i k es x y/\Dh i k es r r'
def Cy(i k:Nat)(es:AA (AA A))(env:Env):Env->Prop
 |[]=>True
 |(s,a)::r=>DM i k es (lk env s) a/\Cy i k es env r
theorem Dh.nil{i:Nat}:Dh i k es [] []:=rfl
theorem Dh.keep{i:Nat}{x:CW}{r r':Qd}(h:Dh i k es r r'):Dh i k es (x::r) (x::r'):=⟨x,r',rfl,.inl rfl,h⟩
theorem Dh.cells{i k t:Nat}{es:AA (AA A)}{cs cs':AA A}{r r':Qd}(q:G8 i k es cs cs')(h:Dh i k es r r'):Dh i k es (.cells t cs::r) (.cells t cs'::r'):=⟨_,r',rfl,.inr (by grind),h⟩
theorem Dh.get{i k:Nat}{es:AA (AA A)}:∀{H H':Qd},Dh i k es H H'->∀(j:Nat) (y:CW),H'[j]?=AC y->∃x,H[j]?=AC x/\dv i k es x y
 |[],_,h,j,y,q=>by obtain rfl:_=[]:=h;simp at q
 |x::r,_,h,j,y,q=>by
  obtain⟨y',r',rfl,h1,h2⟩:=h;cases j with
  |zero=>grind
  |succ j=>obtain⟨x',p1,p2⟩:=h2.get j y q;grind
theorem Dh.len{i k:Nat}{es:AA (AA A)}:∀{H H':Qd},Dh i k es H H'->H'.length=H.length
 |[],_,h=>by obtain rfl:_=[]:=h;rfl
 |x::r,_,h=>by obtain⟨y',r',rfl,h1,h2⟩:=h;simp[h2.len]
theorem dv.live{i k:Nat}{es:AA (AA A)}{x y:CW}(h:dv i k es x y):y.live=x.live:=by
 rcases h with rfl|⟨t,f,d,rfl,rfl,_⟩<;>rfl
theorem Yo{H:Qd}{X i t:Nat}(ov:Env)(hi:Nat.ble X i=AE)(hH:H[i]?=AC (.row t k es))(V:Cy i k es env ov)(L:Dh i k es (H.set i .dead) H'):Le X env H (ov++env) H':=by
 intro fr Q σ N a w r
 let ro':Nat->Prop:=λb=>Q b\/σ[i]?=AC (AC b)
 have hown:=λb h=>r.sim.own i b _ h hH rfl;have ext:DL Q σ w ro' σ w:=⟨λ_ q=>.inl q,λ_ _=>rfl,λ_ _ q=>q,λ_ _ q=>q⟩;have hf:∀v,VR Q σ w (.osl i 0 es.length k) v->VR ro' σ w (.rsl k es) v:=by
  intro v h;rcases h with⟨X,h⟩|⟨b,p,G,t',m,g,h,n,⟨B,ab⟩,h4,O⟩
  .have:es=[]:=(by grind);subst this;exact⟨AF,0,h,XT _,.inl rfl⟩
  .refine⟨_,G,h,B,?_⟩;by_cases he:es=[]
   .exact .inl he
   .right;have hc:0<G:=Vg (by grind) B;obtain rfl:=n hc;obtain⟨l,q1,R⟩:=r.sim.blk i _ _ g hH;refine⟨b,0,by simp,.inr g,?_⟩;have:=YR (pre:=[]) (by simpa using q1) R;exact this.keep ⟨λ_ q=>.inl q,λ_ _=>rfl,λ_ _ q=>q,λ_ _ q=>q⟩ rfl
 have f:∀(j:Nat) (y:CW),H'[j]?=AC y->y≠ .dead->j≠i/\ ∃x,H[j]?=AC x/\dv i k es x y:=by
  intro j y h T;obtain⟨x,g,n⟩:=L.get j y h;by_cases e:j=i
  .subst e;rw[Xb]at g;simp only[if_true]at g;split at g
   .cases g;rcases n with rfl|⟨_,_,_,q,_,_⟩
    .grind
    .cases q
   .simp at g
  grind
 refine⟨ro',σ,⟨⟨by rw[L.len,X4];exact r.sim.len,r.sim.roOk.to (λ_ q=>.inl q) (λ_ _=>rfl) ?_,r.sim.frLt,?_,?_,?_,?_,r.sim.hidTo (· = ·) Ym (XT _) (λj b x c q1 R q3 q4=>q4.elim id λq=>((r.sim.hid j b x c q1 R q3).ne i c _ q hH rfl rfl).elim) (by simp) λj d y P Y g3=>.inl ?_⟩,?_,r.size,r.defers⟩,λ_ q=>.inl q,rfl⟩
 rotate_left 5
 .obtain⟨_,x,g4,g5⟩:=f j y Y (gK g3);exact⟨j,x,rfl,P,g4,λz=>by rw[<- g5.live];exact z,λc q=>by rcases g5 with rfl|⟨t,cs,J,rfl,rfl,_⟩;exact q;exact q.elim⟩
 rotate_left 1
 .rintro b (q|q)
  .exact r.sim.roLt b q
  grind
 .rintro b (q|q)
  .exact r.sim.roFr b q
  grind
 .intro j b v g n B;obtain⟨e,x,n,F⟩:=f j v n (CW.nd B);have hx:x.live=true:=by rw[<- F.live];exact B
  obtain⟨E,M,p3⟩:=r.sim.own j b x g n hx;refine⟨E,?_,p3⟩;rintro(q|q)
  .exact M q
  .exact e (r.sim.inj j i b x _ g q n hH hx rfl)
 .intro j j' b v v' g n B h4 O h6;obtain⟨_,x,E,M⟩:=f j v B (CW.nd O);obtain⟨_,x',aa,W⟩:=f j' v' h4 (CW.nd h6);exact r.sim.inj j j' b x x' g n E aa (by rw[<- M.live];exact O) (by rw[<- W.live];exact h6)
 .intro j s v g n;by_cases T:v≠ .dead
  .obtain⟨_,x,E,M⟩:=f j v n T;have F:=r.sim.blk j s x g E;rcases M with rfl|⟨t,cs,J,rfl,rfl,q⟩
   .exact F.keep ext (λ_ _ _=>rfl) (λ_ _ _ _=>rfl)
   .cases s with
    |none=>exact F.elim
    |some b=>
     obtain⟨l,e1,e2,e3⟩:=F;exact⟨l,e1,W7 ext hf cs J l q e2,e3⟩
  .obtain rfl:v=.dead:=Classical.not_not.1 T;trivial
 .intro s
  induction ov with
  |nil=>exact(r.env s).mono ext
  |cons p ov ih=>
   obtain⟨s1,a1⟩:=p;obtain⟨P,Y⟩:=V;simp only[VK,lk];cases q:Nat.beq s s1 with
   |true=>
    obtain rfl:=XQ q;exact jm ext hf _ _ _ P (r.env s)
   |false=>exact ih Y
theorem Cy.nil{i:Nat}:Cy i k es env []:=trivial
theorem Cy.cons{i s:Nat}{a b:A}{r:Env}(h:lk env s=a)(q:DM i k es a b)(g:Cy i k es env r):Cy i k es env ((s,b)::r):=⟨h▸q,g⟩
def Dq(P:AK)(env:Env)(H:Qd)(l:ResultVar)(x:A):Prop:=
 ∀fr ro σ N a w,DH fr ro σ H env N a w->∃v,((match l with
  |.tmp t=>pure (a.tmps.getD t undef)
  |.cell b t=>do loadVar t (<- asAddr (a.tmps.getD b undef)):Sem AL)).run P w=.ok v w/\VR ro σ w x v
def C4(P:AK)(env:Env)(H:Qd):AA ResultVar->AA A->Prop
 |[],xs=>xs=[]
 |l::ls,xs=>∃x xs',xs=x::xs'/\Dq P env H l x/\C4 P env H ls xs'
section
variable {P:AK} {fn:Func} {env:Env} {H:Qd}
theorem Dq.tmp{t:Nat}{x:A}(d:lk env t=x:=by rfl):Dq P env H (.tmp t) x:=
 λfr ro σ N a w r=>⟨a.tmps.getD t undef,rfl,d▸r.env t⟩
theorem Dq.cell{b t:Nat}{p x:A}{k:AA A}(n:∀w,(isAgg t).run P w=.ok AD w)(g:DZ H p (x::k))(j:lk env b=p:=by rfl):Dq P env H (.cell b t) x:=by
 intro m f σ N a w r;have d:=r.env b;rw[j]at d;obtain⟨E,h,B,⟨y,z,_,q⟩,_⟩:=g m f σ w _ r.sim d
 simp_all[asAddr,loadVar]
theorem sb{b t n:Nat}{p:A}{d:AA A}(z:∀w,(isAgg t).run P w=.ok AE w)(y:∀w,(sizeOf t).run P w=.ok n w)(k:DZ H p d)(q:lk env b=p:=by rfl)(hl:(d.take n).length=n:=by rfl):
  Dq P env H (.cell b t) (.agg (d.take n)):=by
 intro x j σ N a w r;have f:=r.env b;rw[q]at f;obtain⟨E,m,B,g⟩:=k x j σ w _ r.sim f;obtain⟨l,h,_,F⟩:=YC (P:=P) 0 (by simpa using g.take n);refine⟨.agg l.toArray,?_,l,rfl,h⟩
 simp_all[asAddr,loadVar,loadCells]
theorem Yg{b t n i:Nat}{d:AA A}(h:∀w,(isAgg t).run P w=.ok AE w)(f:∀w,(sizeOf t).run P w=.ok n w)(g:lk env b=.ptr i 0)(hH:H[i]?=AC (.cells T d))(j:d.length=n):
  Dq P env H (.cell b t) (.agg d):=by
 have:=sb h f (DZ.cells hH rfl) g (by grind)
 grind
theorem YA{b t i:Nat}{x:A}(ha:∀w,(isAgg t).run P w=.ok AD w)(hx:lk env b=.ptr i 0)(hH:H[i]?=AC (.cells T [x])):Dq P env H (.cell b t) x:=
 Dq.cell ha (DZ.cells hH rfl) hx
theorem C4.nil:C4 P env H [] []:=rfl
theorem C4.cons{l:ResultVar}{ls:AA ResultVar}{x:A}{xs:AA A}(h:Dq P env H l x)(k:C4 P env H ls xs):C4 P env H (l::ls) (x::xs):=⟨x,xs,rfl,h,k⟩
theorem C4.run{fr ro:Nat->Prop}{σ:Ch}{N:Nat}{a:Act}{w:AJ}(r:DH fr ro σ H env N a w):∀{ls:AA ResultVar} {xs:AA A},C4 P env H ls xs->
  ∃vs:AA AL,(ls.mapM λl=>(match l with
   |.tmp t=>pure (a.tmps.getD t undef)
   |.cell b t=>do loadVar t (<- asAddr (a.tmps.getD b undef)):Sem AL)).run P w=.ok vs w/\LR ro σ w xs vs
 |[],_,h=>by obtain rfl:_=[]:=h;exact⟨[],rfl,rfl⟩
 |l::ls,_,h=>by
  obtain⟨x,xs,rfl,h1,h2⟩:=h;obtain⟨v,e1,e2⟩:=h1 fr ro σ N a w r;obtain⟨vs,e3,e4⟩:=C4.run r h2;refine⟨v::vs,?_,v,vs,rfl,e2,e4⟩
  simp_all
theorem QH{ls:AA ResultVar}{xs:AA A}(h:fn.results=ls.toArray)(t:Nat.beq ls.length 1=AD)(k:C4 P env H ls xs):Hg P fn env H (.tup xs):=by
 intro z y σ N a w r;obtain⟨vs,n,f⟩:=k.run r;have d:¬vs.length=1:=by
  have:∀{ls:AA ResultVar} {xs:AA A},C4 P env H ls xs->xs.length=ls.length:=by
   intro ls
   induction ls with
   |nil=>intro xs h;obtain rfl:xs=[]:=h;rfl
   |cons l ls m=>intro xs h;obtain⟨x,j,rfl,_,g⟩:=h;simp[m g]
  rw[f.length,this k];intro q;simp_all
 refine⟨.tuple vs.toArray,?_,vs,rfl,f⟩;unfold results;rw[List.mapM_toArray,Vn,Sem.run_map]
 grind[Result.andThen,Sem.run_pure]
theorem JK{l:ResultVar}{x:A}(h:fn.results= #[l])(k:Dq P env H l x):Hg P fn env H x:=by
 intro j g σ N a w r;obtain⟨vs,f,d⟩:=(C4.cons k C4.nil).run r;obtain⟨v,_,rfl,d,rfl⟩:=d;refine⟨v,?_,d⟩;unfold results;rw[h,show #[l]=[l].toArray from rfl];rw[List.mapM_toArray,Vn,Sem.run_map]
 erw [f]
 rfl
end
mutual
def IS:A->Bool
 |.bool _=>AE
 |.int _ _=>AE
 |.str _=>AE
 |.agg cs=>LP cs
 |_=>AD
def LP:AA A->Bool
 |[]=>AE
 |a::r=>IS a&&LP r
end
mutual
def Q5:A->AL
 |.bool b=>.bool b
 |.int k n=>.int k n
 |.str s=>.string ⟨s.toArray⟩
 |.agg cs=>.agg (YX cs).toArray
 |_=>.bool AD
def YX:AA A->AA AL
 |[]=>[]
 |a::r=>Q5 a::YX r
end
mutual
theorem VR.val{ro:Nat->Prop}{σ:Ch}{w:AJ}:∀{a:A} {v:AL},IS a=AE->VR ro σ w a v->v=Q5 a
 |.bool _,_,_,h=>h
 |.int _ _,_,_,h=>h
 |.str _,_,_,h=>h
 |.agg cs,v,hs,h=>by
  obtain⟨l,rfl,h⟩:=h;rw[Q5,LR.val hs h]
theorem LR.val{ro:Nat->Prop}{σ:Ch}{w:AJ}:∀{az:AA A} {l:AA AL},LP az=AE->LR ro σ w az l->l=YX az
 |[],l,_,h=>h
 |a::r,l,hs,h=>by
  obtain⟨v,l',rfl,h1,h2⟩:=h;simp only[LP,XW]at hs;rw[YX,VR.val hs.1 h1,LR.val hs.2 h2]
end
mutual
theorem kx{ro:Nat->Prop}{σ:Ch}{w:AJ}:∀{a:A},IS a=AE->VR ro σ w a (Q5 a)
 |.bool _,_=>rfl
 |.int _ _,_=>rfl
 |.str _,_=>rfl
 |.agg cs,hs=>⟨YX cs,rfl,lI hs⟩
theorem lI{ro:Nat->Prop}{σ:Ch}{w:AJ}:∀{az:AA A},LP az=AE->LR ro σ w az (YX az)
 |[],_=>rfl
 |a::r,hs=>by
  simp only[LP,XW]at hs;exact⟨_,_,rfl,kx hs.1,lI hs.2⟩
end
open Go.MapKept
structure JA (P:AK) (kt:TypeId) {α:Type} (ek:α->A):Prop where
 scl:∀x,IS (ek x)=AE
 inj:∀x y,Q5 (ek x)=Q5 (ek y)->x=y
 check:∀(w:AJ) em x,(Instr.checkKey em 10000 kt (Q5 (ek x))).run P w=.ok () w
 find:∀(w:AJ) x (es:List MapEntry),(∀e∈es,∃y,e.key=Q5 (ek y))->
  ((Instr.findKey kt (Q5 (ek x)) es).run P w=.ok AF w/\ ∀e∈es,e.key≠Q5 (ek x))\/ ∃j e,(Instr.findKey kt (Q5 (ek x)) es).run P w=.ok (AC (j,e.val)) w/\es[j]?=AC e/\e.key=Q5 (ek x)
 stays:∀(w:AJ) x,(Instr.keyThatStays (Q5 (ek x)) (Q5 (ek x))).run P w=.ok (Q5 (ek x)) w
variable {β:Type}
section
variable {P:AK} {kt:TypeId}
theorem JA.plain{α:Type}{f:α->A}{d:TypeDesc}(m:P.underlying kt=AC d)(g:∀x,IsKey d (Q5 (f x)))(j:∀x,IS (f x)=AE)(hi:∀x y,Q5 (f x)=Q5 (f y)->x=y):JA P kt f:=by
 refine⟨j,hi,λw h x=>run_checkKey m (g x) h 9999,λw x n k=>?_,λw x=>run_keyThatStays (g x)⟩
 grind[findNow_spec,run_findKey]
theorem JA.int{q:IntKind}(hk:P.underlying kt=AC (.int q)):JA P kt (λn=>A.int q n):=
 JA.plain hk (λx=>by rfl) (λ_=>rfl) (λx y h=>by simpa[Q5]using h)
theorem JA.str(hk:P.underlying kt=AC .string):JA P kt A.str:=
 JA.plain hk (λx=>by simp[IsKey,Q5]) (λ_=>rfl) (λx y h=>by simpa[Q5]using h)
theorem JA.struct{α:Type}[DecidableEq α]{d:α->A}{fs:Array Field}(Q:P.underlying kt=AC (.struct fs))(B:∀x,IS (d x)=AE)(hi:∀x y,Q5 (d x)=Q5 (d y)->x=y)
  (G:∀(w:AJ) em x,(Instr.checkKey em 10000 kt (Q5 (d x))).run P w=.ok () w)
  (he:∀(w:AJ) x y,(Op.equal kt (Q5 (d x)) (Q5 (d y))).run P w=.ok (AG (x=y)) w)(E:∀x,Instr.sameBits 10000 (Q5 (d x)) (Q5 (d x))=AE):JA P kt d:=by
 refine⟨B,hi,G,λw x f H=>?_,λw x=>by simp[Instr.keyThatStays,E x]⟩
 .have m:∀(f:AA MapEntry) (i:Nat),(∀e∈f,∃y,e.key=Q5 (d y))->
    ((Instr.findAsking kt (Q5 (d x)) f i).run P w=.ok AF w/\ ∀e∈f,e.key≠Q5 (d x))\/
    ∃j e,(Instr.findAsking kt (Q5 (d x)) f i).run P w=.ok (AC (i+j,e.val)) w/\f[j]?=AC e/\e.key=Q5 (d x):=by
   intro f
   induction f with
   |nil=>simp_all[Instr.findAsking]
   |cons e f J=>
    intro i g;obtain⟨y,k⟩:=g e (by simp);have n:=he w x y;by_cases h:x=y
    .subst h;exact .inr ⟨0,e,by simp[Instr.findAsking,k,n],rfl,k⟩
    .rcases J (i+1) (λz t=>g z (by simp[t]))with⟨q,F⟩|⟨j,M,q,F,L⟩
     .refine .inl ⟨by simp[Instr.findAsking,k,n,h,q],λz t=>?_⟩
      grind
     .exact .inr ⟨j+1,M,by simp[Instr.findAsking,k,n,h,q,Nat.add_assoc,Nat.add_comm 1 j],by grind,L⟩
  cases f with
  |nil=>simp_all[Instr.findKey,run_underlying,Instr.findNow]
  |cons e f=>
   have O:Instr.findNow (.struct fs) (Q5 (d x)) (e::f) 0=none:=by
    rfl
   have N:(Instr.findKey kt (Q5 (d x)) (e::f)).run P w=(Instr.findAsking kt (Q5 (d x)) (e::f) 0).run P w:=by
    simp_all[Instr.findKey,run_underlying]
   grind
def JC{α:Type}[DecidableEq α](l:AA (α×β))(k:α):AB β:=(l.find? λp=>AG (p.1=k)).map (·.2)
def QJ{α:Type}[DecidableEq α](l:AA (α×β))(k:α)(v:β):AA (α×β):=bif l.any λp=>AG (p.1=k)then l.map λp=>bif p.1=k then(p.1,v)else p else l++[(k,v)]
def Qo{α:Type}[DecidableEq α](l:AA (α×β))(k:α)(z:β):β:=(JC l k).getD z
def Fc{α:Type}[DecidableEq α](l:AA (α×β))(k:α):Bool:=l.any λp=>AG (p.1=k)
def Qn(ek:α->A)(ev:β->A)(l:AA (α×β)):AA (A×A):=l.map λp=>(ek p.1,ev p.2)
section
variable {α β:Type} [DecidableEq α] {ek:α->A} {ev:β->A} {ro:Nat->Prop} {σ:Ch} {w:AJ} (K:JA P kt ek)
include K
theorem kK:∀{l:AA (α×β)} {es:AA MapEntry},ER ro σ w (Qn ek ev l) es->es.map (·.key)=l.map λp=>Q5 (ek p.1)
 |[],es,h=>by cases(show es=[]from h);rfl
 |p::l,es,h=>by
  obtain⟨e,l',rfl,h1,h2,h3⟩:=h;simp only[Vk];rw[VR.val (K.scl _) h1,kK h3]
theorem pb{l:AA (α×β)}{es:AA MapEntry}(h:ER ro σ w (Qn ek ev l) es):∀e∈es,∃y,e.key=Q5 (ek y):=by
 intro e d;have:e.key∈es.map (·.key):=VG d;rw[kK K h]at this
 grind
theorem ER.find:∀{l:AA (α×β)} {es:AA MapEntry},ER ro σ w (Qn ek ev l) es->∀(x:α),(es.map (·.key)).Nodup->
  ((∀e,e∈es->e.key≠Q5 (ek x))->JC l x=AF/\Fc l x=AD)/\
  (∀(j:Nat) (e:MapEntry),es[j]?=AC e->e.key=Q5 (ek x)->Fc l x=AE/\ ∃v,JC l x=AC v/\VR ro σ w (ev v) e.val)
 |[],es,h,x,_=>by
  cases(show es=[]from h);exact⟨λ_=>⟨rfl,rfl⟩,(by simp)⟩
 |p::l,es,h,x,hn=>by
  obtain⟨e0,l',rfl,h1,h2,h3⟩:=h;have hk:=VR.val (K.scl _) h1;simp[Vk,List.nodup_cons]at hn;obtain⟨a1,a2⟩:=ER.find h3 x hn.2;by_cases hp:p.1=x
  .grind[Fc,JC]
  .have e1:JC (p::l) x=JC l x:=by simp[JC,hp]
   have g:Fc (p::l) x=Fc l x:=by simp[Fc,hp]
   constructor
   .grind
   .intro j e d f;cases j with
    |zero=>
     simp[XE,Option.some.injEq]at d;subst d;exact absurd (K.inj _ _ (hk.symm.trans f)) hp
    |succ j=>grind
end
end
end Go.Sw
namespace Go.Sw
open Option renaming some→AC,none→AF
open Bool renaming false→AD,true→AE
open Decidable renaming decide→AG
open Go renaming World→AJ,Program→AK,Value→AL,Oper→AM
open Go.MapKept
section
variable {P:AK} {o:AM} {env:Env} {H:Qd}
theorem Yh{T:Nat}(f:o.op=.makeMap T none:=by rfl):D3 P o env H (.map H.length) (H++[.map []]):=by
 intro g d σ N a w r;refine⟨.map (AC w.heap.size),w.alloc (.map #[] 0),d,[AC w.heap.size],?_,⟨w.heap.size,?_,rfl⟩,r.sim.alloc ⟨#[],0,Yw _ _,rfl,by simp,by simp,by simp⟩,Qm.alloc _ r.sim.roLt r.sim.frLt⟩
 .simp_all[execOp,Instr.makeMap]
 .rw[<- r.sim.len];simp
section
variable {T kt et:Nat} {α β:Type} [DecidableEq α] {ek:α->A} {ev:β->A} {x y:Operand} {i:Nat} {l:AA (α×β)} {k:α} {z0:β} {z:AL}
theorem l8(K:JA P kt ek){ro:Nat->Prop}{w:AJ}(t:P.underlying T=AC (.map kt et))(E:∀w,(zeroValue et).run P w=.ok z w)(h:ZR (ev z0) z){b d:Nat}{es:Array MapEntry}
  (q:w.heap[b]?=AC (.map es d))(he:ER ro [] w (Qn ek ev l) es.toList)(B:(es.toList.map (·.key)).Nodup):
  ∃v,(∀ck,(Instr.lookup T (.map (AC b)) (Q5 (ek k)) ck).run P w=.ok (if ck then .tuple #[v,.bool (Fc l k)]else v) w)/\VR ro [] w (ev (Qo l k z0)) v:=by
 obtain⟨y,G⟩:=ER.find K he k B;rcases K.find w k es.toList (pb K he)with⟨m,f⟩|⟨j,e,m,f,x⟩
 .obtain⟨g,n⟩:=y f;refine⟨z,λck=>?_,?_⟩
  .simp[Instr.lookup,Vn,run_underlying t,Result.andThen,MapKept.run_getObj_map q,Vo,K.check,m,E,n]
  .rw[Qo,g];exact h _ _ _
 .obtain⟨g,v,n,F⟩:=G j e f x;refine⟨e.val,λck=>?_,?_⟩
  .simp[Instr.lookup,Vn,run_underlying t,Result.andThen,MapKept.run_getObj_map q,Vo,K.check,m,g]
  .rw[Qo,n];exact F
theorem Q6{zv:β}(K:JA P kt ek)(m:AC (Qo l k z0)=AC zv)(F:P.underlying T=AC (.map kt et))(B:∀w,(zeroValue et).run P w=.ok z w)(f:ZR (ev z0) z)
  (R:o.op=.lookup T x y false:=by rfl)(hx:CQ env x=.map i:=by rfl)(hH:H[i]?=AC (.map (Qn ek ev l)):=by rfl)(hy:CQ env y=ek k:=by rfl):CU P o env H (ev zv):=by
 obtain rfl:=XZ m;intro X L σ N a w r;have h:=Qq r x;rw[hx]at h;obtain⟨b,n,M⟩:=h;have g:=Qq r y;rw[hy]at g;have V:=VR.val (K.scl _) g;obtain⟨O,d,t,G,Q,J,j⟩:=r.sim.blk i _ _ n hH;obtain⟨v,W,E⟩:=l8 K F B f t G j;refine⟨v,?_,E.mono ⟨λ_ q=>q,λ_ _=>rfl,λ_ _ q=>q,(by simp)⟩⟩
 simp_all[execOp]
theorem mD{zv:β}(K:JA P kt ek)(m:AC (Qo l k z0)=AC zv)(F:P.underlying T=AC (.map kt et))(B:∀w,(zeroValue et).run P w=.ok z w)(f:ZR (ev z0) z)
  (R:o.op=.lookup T x y true:=by rfl)(hx:CQ env x=.map i:=by rfl)(hH:H[i]?=AC (.map (Qn ek ev l)):=by rfl)(hy:CQ env y=ek k:=by rfl):CU P o env H (.tup [ev zv,.bool (Fc l k)]):=by
 obtain rfl:=XZ m;intro X L σ N a w r;have h:=Qq r x;rw[hx]at h;obtain⟨b,n,M⟩:=h;have g:=Qq r y;rw[hy]at g;have V:=VR.val (K.scl _) g;obtain⟨O,d,t,G,Q,J,j⟩:=r.sim.blk i _ _ n hH;obtain⟨v,W,E⟩:=l8 K F B f t G j;refine⟨.tuple #[v,.bool (Fc l k)],?_,[v,.bool (Fc l k)],rfl,v,_,rfl,E.mono ⟨λ_ q=>q,λ_ _=>rfl,λ_ _ q=>q,(by simp)⟩,_,_,rfl,rfl,rfl⟩
 simp_all[execOp]
theorem QmD{zv:β}(K:JA P kt ek)(m:AC (Qo l k z0)=AC zv)(F:P.underlying T=AC (.map kt et))(B:∀w,(zeroValue et).run P w=.ok z w)(f:ZR (ev z0) z)
  (R:o.op=.lookup T x y false:=by rfl)(hx:CQ env x=.map i:=by rfl)(hH:H[i]?=AC (.fmap (Qn ek ev l)):=by rfl)(hy:CQ env y=ek k:=by rfl):CU P o env H (ev zv):=by
 obtain rfl:=XZ m;intro X L σ N a w r;have h:=Qq r x;rw[hx]at h;obtain⟨b,n,M⟩:=h;have g:=Qq r y;rw[hy]at g;have V:=VR.val (K.scl _) g;obtain⟨_,O,d,t,G,Q,J,j⟩:=r.sim.blk i _ _ n hH;obtain⟨v,W,E⟩:=l8 K F B f t G j;refine⟨v,?_,E.mono ⟨λ_ q=>q,λ_ _=>rfl,λ_ _ q=>q,(by simp)⟩⟩
 simp_all[execOp]
theorem ER.append{ro:Nat->Prop}{σ:Ch}{w:AJ}:∀{l m:AA (A×A)} {es fs:AA MapEntry},ER ro σ w l es->ER ro σ w m fs->ER ro σ w (l++m) (es++fs)
 |[],m,es,fs,h,k=>by cases(show es=[]from h);exact k
 |p::l,m,es,fs,h,k=>by
  obtain⟨e,l',rfl,h1,h2,h3⟩:=h;exact⟨e,l'++fs,rfl,h1,h2,ER.append h3 k⟩
theorem ER.put(K:JA P kt ek){ro:Nat->Prop}{w w':AJ}{v:β}{val:AL}(d:DL ro [] w ro [] w')(f:VR ro [] w (ev v) val):∀{l:AA (α×β)} {es:AA MapEntry} {j:Nat} {e:MapEntry},ER ro [] w (Qn ek ev l) es->
  (es.map (·.key)).Nodup->es[j]?=AC e->e.key=Q5 (ek k)->
  ER ro [] w' (Qn ek ev (l.map λp=>bif p.1=k then(p.1,v)else p)) (es.modify j λe=>{e with key:=Q5 (ek k),val:=val})
 |[],es,j,e,h,hn,he,hk=>by cases(show es=[]from h);simp at he
 |p::l,es,j,e,h,hn,he,hk=>by
  obtain⟨e0,l',rfl,h1,h2,h3⟩:=h;have hk0:=VR.val (K.scl _) h1;simp only[Vk,List.nodup_cons]at hn;cases j with
  |zero=>
   simp[XE,Option.some.injEq]at he;subst he;have hp:=K.inj _ _ (hk0.symm.trans hk);have e1:Qn ek ev ((p::l).map λp=>bif p.1=k then(p.1,v)else p)=(ek p.1,ev v)::Qn ek ev l:=by
    simp only[Qn,Vk,hp,decide_true,Vp,List.map_map,List.cons.injEq,true_and];apply List.map_congr_left;intro q g;have:q.1≠k:=by
     intro e;refine hn.1 ?_;rw[kK K h3];exact Xe.2 ⟨q,g,by rw[e, <- hp,hk0]⟩
    simp[this]
   rw[e1];refine⟨_,l',rfl,?_,f.mono d,h3.mono d⟩;rw[<- hp];exact kx (K.scl _)
  |succ j=>
   have hp:p.1≠k:=by
    intro q;refine hn.1 (Xe.2 ⟨e,VH he,?_⟩);rw[hk,hk0,q]
   have e1:Qn ek ev ((p::l).map λp=>bif p.1=k then(p.1,v)else p)=(ek p.1,ev p.2)::Qn ek ev (l.map λp=>bif p.1=k then(p.1,v)else p):=by
    simp[Qn,hp]
   rw[e1];exact⟨_,_,rfl,h1.mono d,h2.mono d,ER.put K d f h3 hn.2 he hk⟩
theorem Yd{m:AA (α×β)}(K:JA P kt ek){v:β}{t:Operand}(hm:AC (QJ l k v)=AC m)(hd:YJ (ev v)=AE)(hT:P.underlying T=AC (.map kt et))
  (ho:o.op=.mapUpdate T x y t:=by rfl)(hx:CQ env x=.map i:=by rfl)(hH:H[i]?=AC (.map (Qn ek ev l)):=by rfl)(hy:CQ env y=ek k:=by rfl)(hv:CQ env t=ev v:=by rfl):
  Io P o env H (H.set i (.map (Qn ek ev m))):=by
 obtain rfl:=XZ hm;intro fr W σ N a w r;have h1:=Qq r x;rw[hx]at h1;obtain⟨b,q1,q2⟩:=h1;have h2:=Qq r y;rw[hy]at h2;have h3:=VR.val (K.scl _) h2;have h4:=Qq r t;rw[hv]at h4;have J:VR W [] w (ev v) (a.eval t):=VR.data hd h4;obtain⟨B,d,O,R,p3,p4,p5⟩:=r.sim.blk i _ _ q1 hH;obtain⟨f1,f2⟩:=ER.find K R k p5;have M:∀(obj:Obj) y,w.shape? b=AC y->({w with heap:=w.heap.setIfInBounds b obj}:AJ).shape? b=AC y:=by
  grind[World.shape?]
 rcases K.find w k B.toList (pb K R)with⟨V,L⟩|⟨j,e,V,L,Q⟩
 .obtain⟨u1,u2⟩:=f1 L;have Y:QJ l k v=l++[(k,v)]:=by
   unfold QJ;rw[show(l.any λp=>AG (p.1=k))=AD from u2];rfl
  have g:=r.sim.set (x':=.map (Qn ek ev (QJ l k v))) (obj:=.map (B.push {key:=Q5 (ek k),val:=a.eval t,born:=d}) (d+1)) q1 hH rfl (M _)
   (λe X=>⟨_,_,X,by
    rw[Y,Qn,Xf,Array.toList_push];exact(R.mono ⟨e.sub,e.keep,e.shape,λ_ _ q=>q⟩).append ⟨_,_,rfl,kx (K.scl _),J.mono ⟨e.sub,e.keep,e.shape,λ_ _ q=>q⟩,rfl⟩,by
    grind,by
    grind,by
    grind⟩)
  refine⟨_,W,[],?_,by grind,g.2⟩;simp only[execOp,ho,q2,h3,Vn,Instr.mapUpdate,run_underlying hT,Result.andThen,MapKept.run_getObj_map O,K.check,V,MapKept.run_setObj_map _ O];rfl
 .obtain⟨u1,u2⟩:=f2 j e L Q;have Y:QJ l k v=l.map λp=>bif p.1=k then(p.1,v)else p:=by
   unfold QJ;rw[show(l.any λp=>AG (p.1=k))=AE from u1];rfl
  have hj:B[j]?=AC e:=by grind
  have n:(B.modify j λe=>{e with key:=Q5 (ek k),val:=a.eval t}).toList=B.toList.modify j λe=>{e with key:=Q5 (ek k),val:=a.eval t}:=by simp
  have z:∀{γ:Type} (f:MapEntry->γ),(∀G,B.toList[j]?=AC G->f {G with key:=Q5 (ek k),val:=a.eval t}=f G)->(B.toList.modify j λe=>{e with key:=Q5 (ek k),val:=a.eval t}).map f=B.toList.map f:=by
   intro γ f hf;apply List.ext_getElem?
   grind
  have g:=r.sim.set (x':=.map (Qn ek ev (QJ l k v))) (obj:=.map (B.modify j λe=>{e with key:=Q5 (ek k),val:=a.eval t}) d) q1 hH rfl (M _)
   (λe0 X=>⟨_,_,X,by
    rw[Y,n];exact ER.put K ⟨e0.sub,e0.keep,e0.shape,λ_ _ q=>q⟩ J R p5 L Q,by
    rw[n];intro G E;have:G.born∈(B.toList.modify j λe=>{e with key:=Q5 (ek k),val:=a.eval t}).map (·.born):=VG E;rw[z (·.born) (λ_ _=>rfl)]at this;obtain⟨e2,h,h'⟩:=Xe.1 this;rw[<- h'];exact p3 e2 h,by
    rw[n,z (·.born) (λ_ _=>rfl)];exact p4,by
    rw[n,z (·.key) (λG E=>by rw[L]at E;cases E;exact Q.symm)];exact p5⟩)
  refine⟨_,W,[],?_,by simpa using g.1,g.2⟩;have F:=K.stays w k;simp only[execOp,ho,q2,h3,Vn,Instr.mapUpdate,run_underlying hT,Result.andThen,MapKept.run_getObj_map O,K.check,V,hj,Xj,Option.getD_some,Q,F,MapKept.run_setObj_map _ O];rfl
theorem ER.length{ro:Nat->Prop}{σ:Ch}{w:AJ}:∀{l:AA (A×A)} {es:AA MapEntry},ER ro σ w l es->es.length=l.length
 |[],es,h=>by cases(show es=[]from h);rfl
 |p::l,es,h=>by
  obtain⟨e,l',rfl,_,_,h3⟩:=h;simp[ER.length h3]
theorem r_{c:Call}{n:Int}(y:P.underlying T=AC (.map kt et))(m:(l.length:Int)=n)(k:o.op=.call c:=by rfl)(hc:c={callee:=.builtin .len,args:= #[x],argTypes:= #[T]}:=by rfl)
  (hx:CQ env x=.map i:=by rfl)(hH:H[i]?=AC (.map (Qn ek ev l)):=by rfl):CU P o env H (.int .i64 n):=by
 intro M J σ N a w r;have j:=Qq r x;rw[hx]at j;obtain⟨b,q,g⟩:=j;obtain⟨h,d,t,B,F,G,L⟩:=r.sim.blk i _ _ q hH;have E:=B.length;refine⟨.int .i64 n,?_,rfl⟩;have f:goInt h.size=.int .i64 n:=by
  have:h.size=l.length:=by rw[<- Array.length_toList,E];simp[Qn]
  rw[this, <- m];rfl
 subst hc;have z:=g;generalize a.eval=ρ at*;rw[<- f];simp[execOp,k,g,resolve,invoke,Go.builtin,Builtin.len_,run_underlying y,MapKept.run_getObj_map t,go_sem]
end
end
end Go.Sw
namespace Go.Sw
open Option renaming some→AC,none→AF
open Bool renaming false→AD,true→AE
open Decidable renaming decide→AG
open Go renaming World→AJ,Program→AK,Value→AL,Oper→AM
open Go.ChangeMaps (setBlock)
section
variable {P:AK} {o:AM} {env:Env} {H:Qd} {h0 N:Nat} {Q:Qz}
def Sg(P:AK)(o:AM)(env:Env)(H:Qd)(K:A->Qd->Prop):Prop:=
 ∀fr ro σ N a w,DH fr ro σ H env N a w->∃x H' v w' ro' τ,K x H'/\(execOp a.eval o).run P w=.ok (.value v) w'/\VR ro' (σ++τ) w' x v/\
  Ca fr ro' (σ++τ) H' w'/\Qm fr ro w ro' w'
theorem gE{all:Array AM}{l:AA AM}{d:Nat}{K:A->Qd->Prop}(z:h0<=H.length)(hg:QA all o env AE)(G:o.dst=AC d)(L:Nat.blt d N=AE)
  (h:Sg P o env H K)(k:∀x H',K x H'->WO P h0 N all l (up env d x) H' Q):WO P h0 N all (o::l) env H Q:=by
 intro F fr y σ a w r hrd;obtain⟨x,H',v,m,f,τ,E,J,t,n,g⟩:=h fr y σ N a w r;refine Ju (YT hg r) J ?_;simp[G];have j:d<N:=by simp_all
 have B:DH fr f (σ++τ) H' (up env d x) N {a with tmps:=a.tmps.setIfInBounds d v} m:=
  ⟨n,VR.up (fr:=fr) (λs=>(r.env s).mono (g.ext σ τ)) (by rw[r.size];exact j) t,by simpa using r.size,r.defers.keep g⟩
 refine YF (λe a w q=>q.step g (QR ?_)) _ _ _ (k x H' E F fr f (σ++τ) _ m B (hrd.to g λ_ q=>q));rw[r.sim.len];exact z
theorem Ca.shutMap{fr ro:Nat->Prop}{σ:Ch}{w:AJ}(s:Ca fr ro σ H w){i b:Nat}{es:AA (A×A)}(hσ:σ[i]?=AC (AC b))(hH:H[i]?=AC (.map es)):
  Ca fr (λc=>ro c\/c=b) σ (H.set i (.fmap es)) w:=by
 have hown:=s.own i b _ hσ hH rfl;have ext:DL ro σ w (λc=>ro c\/c=b) σ w:=⟨λ_ q=>.inl q,λ_ _=>rfl,λ_ _ q=>q,λ_ _ q=>q⟩;have f:∀(j:Nat) (v:CW),(H.set i (.fmap es))[j]?=AC v->v.live=AE->j≠i/\H[j]?=AC v:=by
  intro j v h J;by_cases e:j=i
  .subst e;rw[Xb]at h
   grind[CW.live]
  grind
 have t:∀(j:Nat) (v:CW),(H.set i (.fmap es))[j]?=AC v->v.holds=AE->H[j]?=AC v:=by
  intro j v h J;by_cases e:j=i
  .subst e;rw[Xb]at h;simp only[if_true]at h;split at h
   .cases h;cases J
   .simp at h
  grind
 refine⟨by rw[X4];exact s.len,s.roOk.to (λ_ q=>.inl q) (λ_ _=>rfl) ?_,s.frLt,?_,?_,?_,?_,s.hidTo (· = ·) Ym (XT _) (λj d x c R N Q P=>P.elim id λq=>((s.hid j d x c R N Q).ne i b _ hσ hH rfl q).elim) (by simp) (by grind)⟩
 .rintro c (q|rfl)
  .exact s.roLt c q
  omega
 .rintro c (q|rfl)
  .exact s.roFr c q
  grind
 .intro j c v k g n;obtain⟨e,g⟩:=f j v g n;obtain⟨B,E,z⟩:=s.own j c v k g n;refine⟨B,?_,z⟩;rintro(q|rfl)
  .exact E q
  .exact e (s.inj j i c v _ k hσ g hH n rfl)
 .intro j G c v M k g n O F L;exact s.inj j G c v M k g (f j v n F).2 (f G M O L).2 F L
 .intro j y v k g;by_cases e:j=i
  .subst e;rw[hσ]at k;cases k;rw[Xb]at g;simp only[if_true]at g;split at g
   .cases g;obtain⟨l,m,B,E,z⟩:=s.blk j _ _ hσ hH;exact⟨.inr rfl,l,m,B,E.mono ext.nil,z⟩
   .simp at g
  .rw[XP (λq=>e q.symm)]at g;exact(s.blk j y v k g).keep ext (λ_ _ _=>rfl) (λ_ _ _ _=>rfl)
section
variable {T kt et i:Nat} {x:Operand} {es:AA (A×A)}
theorem D3.range(J:P.underlying T=AC (.map kt et))(F:o.op=.range T x:=by rfl)(hx:CQ env x=.map i:=by rfl)(hH:H[i]?=AC (.map es):=by rfl):
  D3 P o env H (.ptr H.length 0) (H.set i (.fmap es)++[.iter AF es]):=by
 intro t j σ N a w r;have y:=Qq r x;rw[hx]at y;obtain⟨b,k,G⟩:=y;obtain⟨l,d,n,L,z,E,M⟩:=r.sim.blk i _ _ k hH;have B:=(r.sim.own i b _ k hH rfl).1;have m:=r.sim.shutMap k hH;have g:Qm t j w (λc=>j c\/c=b) w:=Yb (λ_ q=>.inl q);have f:Qm t (λc=>j c\/c=b) w (λc=>j c\/c=b) (w.alloc (.mapIter (AC b) d #[] d)):=Qm.alloc _ m.roLt m.frLt;have ext0:=(g.trans f).ext0 [];refine⟨.pointer (AC ⟨w.heap.size,0,AF⟩),w.alloc (.mapIter (AC b) d #[] d),_,[AC w.heap.size],?_,⟨w.heap.size,?_,rfl⟩,
  m.alloc (.inr ⟨b,l,d, #[],l.toList,Yw _ _,.inr rfl,by rw[Yx _ _ _ B];exact n,z,E,?_,L.mono ext0,λ_ h=>by cases h⟩),g.trans f⟩
 .simp only[execOp,F,G,Instr.range,Vn,run_underlying J,Result.andThen,MapKept.run_getObj_map n];rfl
 .rw[<- r.sim.len];simp
 .have:l.toList.filter (λe=> !#[].contains e.born)=l.toList:=by simp
  rw[this]
theorem sS(E:P.underlying T=AC (.map kt et))(y:o.op=.range T x:=by rfl)(hx:CQ env x=.map i:=by rfl)(hH:H[i]?=AC (.fmap es):=by rfl):
  D3 P o env H (.ptr H.length 0) (H++[.iter AF es]):=by
 intro F j σ N a w r;have m:=Qq r x;rw[hx]at m;obtain⟨b,z,B⟩:=m;obtain⟨g,l,d,k,G,n,t,J⟩:=r.sim.blk i _ _ z hH;have q:=r.sim.roLt b g;have f:Qm F j w j (w.alloc (.mapIter (AC b) d #[] d)):=Qm.alloc _ r.sim.roLt r.sim.frLt;have ext0:=f.ext0 [];refine⟨.pointer (AC ⟨w.heap.size,0,AF⟩),w.alloc (.mapIter (AC b) d #[] d),_,[AC w.heap.size],?_,⟨w.heap.size,?_,rfl⟩,
  r.sim.alloc (.inr ⟨b,l,d, #[],l.toList,Yw _ _,g,by rw[Yx _ _ _ q];exact k,n,t,?_,G.mono ext0,λ_ h=>by cases h⟩),f⟩
 .simp only[execOp,y,B,Instr.range,Vn,run_underlying E,Result.andThen,MapKept.run_getObj_map k];rfl
 .rw[<- r.sim.len];simp
 .have:l.toList.filter (λe=> !#[].contains e.born)=l.toList:=by simp
  rw[this]
theorem ER.mem{ro:Nat->Prop}{σ:Ch}{w:AJ}:∀{es:AA (A×A)} {l:AA MapEntry},ER ro σ w es l->∀e∈l,∃x es' l',(x::es').Perm es/\(e::l').Perm l/\VR ro σ w x.1 e.key/\VR ro σ w x.2 e.val/\ER ro σ w es' l'
 |[],l,h,e,he=>by cases(show l=[]from h);cases he
 |y::es,l,h,e,he=>by
  obtain⟨e0,l',rfl,h1,h2,h3⟩:=h;rcases X7.1 he with rfl|he
  .exact⟨y,es,l',.refl _,.refl _,h1,h2,h3⟩
  .obtain⟨x,es',l'',p1,p2,v1,v2,h4⟩:=ER.mem h3 e he;exact⟨x,y::es',e0::l'',(List.Perm.swap _ _ _).trans (p1.cons _),(List.Perm.swap _ _ _).trans (p2.cons _),v1,v2,⟨e0,l'',rfl,h1,h2,h4⟩⟩
theorem qY:∀{l:AA MapEntry},(l.map (·.born)).Nodup->∀a∈l,∀b∈l,a.born=b.born->a=b
 |[],_,a,ha,_,_,_=>by cases ha
 |c::l,hn,a,ha,b,hb,hab=>by
  simp[Vk,List.nodup_cons]at hn;rcases X7.1 ha with ea|ha'<;>rcases X7.1 hb with eb|hb'
  .rw[ea,eb]
  .grind
  .grind
  .exact qY hn.2 a ha' b hb' hab
def dm(H:Qd)(i:Nat)(cur:AB (A×A))(es:AA (A×A))(v:A)(H':Qd):Prop:=
 (es=[]/\v=.tup [.bool AD]/\H'=H)\/ ∃e es',(e::es').Perm es/\v=.tup [.bool AE,e.1,e.2]/\H'=H.set i (.iter (AC e) es')
theorem Sg.next{L:AB (A×A)}(ho:o.op=.next x false:=by rfl)(hx:CQ env x=.ptr i 0:=by rfl)(hH:H[i]?=AC (.iter L es):=by rfl):
  Sg P o env H (dm H i L es):=by
 intro fr B σ N a w r;have h1:=Qq r x;rw[hx]at h1;obtain⟨b,q1,q2⟩:=h1;have k:∀(v:AL) (g:AJ),g.heap=w.heap->g.os=w.os->g.tape=w.tape->g.output=w.output->w.drawn<=g.drawn->Ca fr B (σ++[]) H g/\Qm fr B w B g:=by
  intro v g X e2 e3 e4 e5;exact⟨by simpa using r.sim.heap X,Qm.heap X e2 e3 e4 e5⟩
 rcases r.sim.blk i _ _ q1 hH with⟨rfl,rfl,p⟩|⟨m,l,f,d,left,p1,p2,p3,p4,p5,p6,p7,p8⟩
 .refine⟨_,_,.tuple #[.bool AD],w,B,[],.inl ⟨rfl,rfl,rfl⟩,?_,⟨_,rfl,_,_,rfl,rfl,rfl⟩,k (.bool AD) w rfl rfl rfl rfl (XT _)⟩;generalize a.eval=ρ at*;simp only[execOp,ho,q2,Instr.next,Vn,getObj,Sem.run,p,Result.andThen];rfl
 .have ac:(leftOf l d).toList=l.toList.filter λe=> !d.contains e.born:=by simp[leftOf]
  have n:left.Perm (leftOf l d).toList:=by grind
  rcases run_next_at (P:=P) w o.type b m f f d l f p1 p3 p4 (XT _)with⟨g1,g2⟩|⟨e,g1,g,g2,g3⟩
  .have Y:left=[]:=by
    have:left.length=0:=by rw[n.length_eq];omega
    grind
   subst Y;have aa:es=[]:=by
    have:=p7.length
    grind
   refine⟨_,_,.tuple #[.bool AD],w,B,[],.inl ⟨aa,rfl,rfl⟩,?_,⟨_,rfl,_,_,rfl,rfl,rfl⟩,k (.bool AD) w rfl rfl rfl rfl (XT _)⟩
   simp_all[execOp]
  .have he:e∈left:=n.mem_iff.2 g1;have R:e∈l.toList:=by grind
   obtain⟨y,Q,T,k1,k2,v1,v2,k3⟩:=p7.mem e he;have t:g.heap=w.heap/\g.os=w.os/\g.tape=w.tape/\g.output=w.output/\w.drawn<=g.drawn:=by
    rcases g2 with rfl|rfl
    .simp
    .exact⟨rfl,rfl,rfl,rfl,Nat.le_succ _⟩
   obtain⟨s1,G⟩:=k (.bool AD) g t.1 t.2.1 t.2.2.1 t.2.2.2.1 t.2.2.2.2;rw[Vh]at s1;have af:b≠m:=by
    grind
   have F:=s1.set (x':=.iter (AC y) Q) (obj:=.mapIter (AC m) f (d.push e.born) f) q1 hH rfl
    (λz O=>by
     grind[World.shape?])
    (λE ad=>.inr ⟨m,l,f,d.push e.born,T,ad,E.sub _ p2,by
      grind,p4,p5,by
      have ae:(l.toList.filter λe=> !d.contains e.born).Nodup:=by
       have:l.toList.Nodup:=List.Pairwise.of_map _ (λa b h q=>h (congrArg _ q)) p5;exact this.filter _
      have hp:(e::T).Perm (l.toList.filter λe=> !d.contains e.born):=k2.trans p6;have V:(e::T).Nodup:=hp.nodup_iff.2 ae;have X:(l.toList.filter λJ=> !(d.push e.born).contains J.born)=(l.toList.filter λe=> !d.contains e.born).filter λJ=> !decide (J.born=e.born):=by
       rw[List.filter_filter];apply List.filter_congr;intro z _;simp[Array.contains_push,Bool.and_comm]
      rw[X];have h2:=hp.filter (λJ=> !decide (J.born=e.born));have e2:(e::T).filter (λJ=> !decide (J.born=e.born))=T:=by
       rw[List.filter_cons_of_neg (by simp),List.filter_eq_self];intro z O;have ab:z∈l.toList:=(Xd.1 (hp.mem_iff.1 (X6 _ O))).1;simp only[Bool.not_eq_true',decide_eq_false_iff_not];intro hb;have:z=e:=by
        exact qY p5 z ab e R hb
       subst this;exact(List.nodup_cons.1 V).1 O
      rw[e2]at h2;exact h2,by
      have W:DL B [] w B [] g:=G.ext0 [];exact(k3.mono W).mono ⟨E.sub,E.keep,E.shape,λ_ _ q=>q⟩,by
      intro z O;cases O;have W:DL B [] w B [] g:=G.ext0 [];exact⟨e,R,by simp,(v1.mono W).mono ⟨E.sub,E.keep,E.shape,λ_ _ q=>q⟩,(v2.mono W).mono ⟨E.sub,E.keep,E.shape,λ_ _ q=>q⟩⟩⟩)
   have M:=G.trans F.2;have xt:=M.ext0 [];refine⟨_,_,.tuple #[.bool AE,e.key,e.val],_,B,[],.inr ⟨y,Q,k1,rfl,rfl⟩,?_,
    ⟨[.bool AE,e.key,e.val],rfl,_,_,rfl,rfl,_,_,rfl,(v1.mono xt).mono ⟨λ_ q=>q,λ_ _=>rfl,λ_ _ q=>q,λj c q=>by simp at q⟩,_,_,rfl,(v2.mono xt).mono ⟨λ_ q=>q,λ_ _=>rfl,λ_ _ q=>q,λj c q=>by simp at q⟩,rfl⟩,by simpa using F.1,M⟩
   generalize a.eval=ρ at*;simp only[execOp,ho,q2,Vn,g3,Result.andThen,setBlock];rfl
theorem CU.entry{e:A×A}(O:o.op=.entry x:=by rfl)(hx:CQ env x=.ptr i 0:=by rfl)(hH:H[i]?=AC (.iter (AC e) es):=by rfl):CU P o env H (.tup [e.1,e.2]):=by
 intro R J σ N a w r;have g:=Qq r x;rw[hx]at g;obtain⟨b,z,L⟩:=g;rcases r.sim.blk i _ _ z hH with⟨_,h,_⟩|⟨m,l,d,j,left,Q,W,M,F,y,V,G,B⟩
 .cases h
 .obtain⟨f,k,T,t,E⟩:=B e rfl;refine⟨.tuple #[f.key,f.val],?_,[f.key,f.val],rfl,_,_,rfl,t.mono ⟨λ_ q=>q,λ_ _=>rfl,λ_ _ q=>q,(by simp)⟩,_,_,rfl,E.mono ⟨λ_ q=>q,λ_ _=>rfl,λ_ _ q=>q,(by simp)⟩,rfl⟩;have n:l.find? (·.born==f.born)=AC f:=by rw[<- Array.find?_toList];exact find_born f l.toList y k
  simp_all[execOp,Instr.entry,getObj,Sem.run]
end
end
end Go.Sw
namespace Go.Sw
open Option renaming some→AC,none→AF
open Bool renaming false→AD,true→AE
open Decidable renaming decide→AG
open Go renaming World→AJ,Program→AK,Value→AL,Oper→AM
def LO{S E B:Type}(stepE:S->E->AB (CG S B))(stepN:S->AB B):S->AA E->AB B
 |s,[]=>stepN s
 |s,e::p=>match stepE s e with
  |some (.k s')=>LO stepE stepN s' p
  |some (.d b)=>AC b
  |none=>AF
def NX{E:Type}(x:E):AA E->AA (AA E)
 |[]=>[[x]]
 |y::l=>(x::y::l)::(NX x l).map (y:: ·)
def Kz{E:Type}:AA E->AA (AA E)
 |[]=>[[]]
 |x::l=>(Kz l).flatMap (NX x)
theorem ry{E:Type}(x:E):∀(a b:AA E),a++x::b∈NX x (a++b)
 |[],[]=>by simp[NX]
 |[],y::b=>by simp[NX]
 |y::a,b=>by
  simp only[VK,NX,X7,Xe];exact .inr ⟨a++x::b,ry x a b,rfl⟩
theorem lw{E:Type}:∀(l p:AA E),p.Perm l->p∈Kz l
 |[],p,h=>by rw[List.perm_nil.1 h];simp[Kz]
 |x::l,p,h=>by
  have hx:x∈p:=h.mem_iff.2 (by simp);obtain⟨a,b,rfl⟩:=List.append_of_mem hx;have h2:=(List.perm_cons x).1 ((List.perm_middle.symm).trans h);simp[Kz,List.mem_flatMap];exact⟨a++b,lw l _ h2,ry x a b⟩
variable {E:Type}
def anyP{R:Type}[DecidableEq R](k:AA E->AB R)(l:AA E):AB R:=bif (Kz l).all (λp=>AG (k p=k l))then k l else AF
theorem _U{R:Type}[DecidableEq R]{k:AA E->AB R}{l:AA E}{r:R}(h:anyP k l=AC r)(p:AA E)(d:p.Perm l):k p=AC r:=by
 unfold anyP at h;cases q:(Kz l).all (λp=>AG (k p=k l))with
 |true=>
  simp_all[lw]
 |false=>grind
theorem g_{E:Type}:∀(l p:AA E),p∈Kz l->p.Perm l
 |[],p,h=>by simp[Kz]at h;rw[h]
 |x::l,p,h=>by
  simp[Kz,List.mem_flatMap]at h;obtain⟨q,hq,hp⟩:=h;have ins:∀(q p:AA E),p∈NX x q->p.Perm (x::q):=by
   intro q
   induction q with
   |nil=>intro p hp;simp[NX]at hp;rw[hp]
   |cons y q f=>
    intro p hp;simp[NX,X7,Xe]at hp;rcases hp with rfl|⟨z,d,rfl⟩
    .exact .refl _
    .exact((f z d).cons y).trans (List.Perm.swap _ _ _)
  exact(ins q p hp).trans ((g_ l q hq).cons x)
theorem _T{E R:Type}[DecidableEq R]{k:AA E->AB R}{l:AA E}{r:R}(h:∀p,p.Perm l->k p=AC r):anyP k l=AC r:=by
 unfold anyP;have:(Kz l).all (λp=>AG (k p=k l))=true:=Xs.2 λp d=>by
  simp_all[g_]
 rw[this];simp_all
variable {B:Type}
def SI{S:Type}(stepE:S->E->AB (CG S B))(stepN:S->AB B)(G:B->Prop)(s:S)(l:AA E):Prop:=∀p,p.Perm l->∃b,LO stepE stepN s p=AC b/\G b
variable {α:Type}
section
variable {P:AK} {o:AM} {env:Env} {H:Qd} {h0 N:Nat} {Q:Qz} {c:Code}
def gl(I:Env->Qd->Prop)(Q:Qz):Qz
 |.normal,env,H=>I env H
 |.exit id,env,H=>Q (.exit id) env H
 |.ret,env,H=>Q .ret env H
theorem QoG{I:Nat->Env->Qd->Prop}(body:∀n env H,I n env H->TC P h0 N c env H (gl (λenv H=>∃n',n'<n/\I n' env H) Q)){n:Nat}(L:I n env H):TC P h0 N (.loop c) env H Q:=by
 intro X B F σ a w r hrd b k cs hro hb hr;have O:∀m n env H fr1 ro1 σ1 a1 w1,n<m->I n env H->DH fr1 ro1 σ1 H env N a1 w1->Qm B F w ro1 w1->σ1.take h0=σ.take h0->C8 B w a.defers fr1 a1.defers->
   ∃e h g,Hj h0 B F σ w N a.defers Q e h g/\ArrivesIn (Machine.fenced P (WF X)) P (lone (b.atR a1 (.code c::.inLoop c::k)) cs w1) b k cs e h g:=by
  intro m
  induction m with
  |zero=>omega
  |succ m ih=>
   intro n env H fr1 ro1 σ1 a1 w1 hn L r1 ev1 t1 g1;obtain⟨e,h,g,J,d⟩:=body n env H L X fr1 ro1 σ1 a1 w1 r1 (hrd.to ev1 g1.sub) b (.inLoop c::k) cs hro hb hr;obtain⟨x,f,H',E,σ',z,G,t,T,q4,R,q6⟩:=J;have y:=ev1.trans (q4.frMono g1.sub);have V:=g1.trans ev1.size q6;have W:∀x,Q x f H'->RV e x->Hj h0 B F σ w N a.defers Q e h g:=λx q q'=>⟨x,f,H',E,σ',z,q',q,T,y,R.trans t1,V⟩;cases e with
   |normal=>
    obtain rfl:x=.normal:=G;obtain⟨n',Y,t⟩:=t;obtain⟨e2,a2,w2,M,j⟩:=ih n' f H' z E σ' h g (by omega) t T y (R.trans t1) V;exact⟨e2,a2,w2,M,.of_steps (StepsIn.trans d (.one (fenced_calm hb hr rfl) stepR_inLoop)) j⟩
   |exit id=>
    obtain rfl:x=.exit id:=G;exact⟨_,h,g,W _ t rfl,.pass rfl (by simp) d⟩
   |ret=>
    obtain rfl:x=.ret:=G;exact⟨_,h,g,W _ t rfl,.pass rfl (by simp) d⟩
   |_=>exact G.elim
 obtain⟨e,h,g,J,d⟩:=O (n+1) n env H B F σ a w (Xn _) L r (Qm.refl _ _ _) rfl (C8.refl _ _ _);exact⟨e,h,g,J,.of_steps (.one (fenced_calm hb hr rfl) stepR_loop) d⟩
section
variable {S E B:Type} {stepE:S->E->AB (CG S B)} {stepN:S->AB B} {G:B->Prop} (Es:S->Env) (Hp:S->AA (A×A)->Qd) {enc:E->A×A}
def m8(stepE:S->E->AB (CG S B))(stepN:S->AB B)(G:B->Prop)(enc:E->A×A)(h0 n:Nat)(env:Env)(H:Qd):Prop:=
 ∃s l,l.length=n/\SI stepE stepN G s l/\Le h0 env H (Es s) (Hp s (l.map enc))
theorem QoF{s0:S}{l0:AA E}(h:SI stepE stepN G s0 l0)(hI:Le h0 env H (Es s0) (Hp s0 (l0.map enc)))
  (body:∀s l,SI stepE stepN G s l->TC P h0 N c (Es s) (Hp s (l.map enc)) (gl (λenv H=>∃n',n'<l.length/\m8 Es Hp stepE stepN G enc h0 n' env H) Q)):TC P h0 N (.loop c) env H Q:=
 QoG (I:=m8 Es Hp stepE stepN G enc h0) (λn env H ⟨s,l,hn,ha,hle⟩=>by subst hn;exact TC.le hle (body s l ha)) ⟨s0,l0,rfl,h,hI⟩
theorem qr{β:Type}{f:α->β}:∀{m g:AA β},m.Perm g->∀{l:AA α},g=l.map f->∃l':AA α,l'.Perm l/\l'.map f=m:=by
 intro m g h
 induction h with
 |nil=>simp
 |cons x _ ih=>
  intro l d;cases l with
  |nil=>cases d
  |cons a l=>
   simp[Vk,List.cons.injEq]at d;obtain⟨l',j,k⟩:=ih d.2;exact⟨a::l',j.cons _,by grind⟩
 |swap x y m=>
  intro l d
  match l,d with
  |a::b::l,d=>
   exact⟨b::a::l,List.Perm.swap _ _ _,by grind⟩
 |trans _ _ ih1 ih2=>
  intro l d;obtain⟨z,j,k⟩:=ih2 d;obtain⟨t,q,n⟩:=ih1 k.symm;exact⟨t,q.trans j,n⟩
theorem QoC{all:Array AM}{L:AA AM}{d i:Nat}{x:Operand}{n:AB (A×A)}{s:S}{l:AA E}(B:SI stepE stepN G s l)
  (R:∀b,stepN s=AC b->G b->WO P h0 N all L (up env d (.tup [.bool AD])) H Q)
  (J:∀e l' D,stepE s e=AC D->(∀b,D=.d b->G b)->(l'.length<l.length/\ ∀s',D=.k s'->SI stepE stepN G s' l')->
   WO P h0 N all L (up env d (.tup [.bool AE,(enc e).1,(enc e).2])) (H.set i (.iter (AC (enc e)) (l'.map enc))) Q)
  (F:o.op=.next x false:=by rfl)(hx:CQ env x=.ptr i 0:=by rfl)(hH:H[i]?=AC (.iter n (l.map enc)):=by rfl)
  (hg:QA all o env true:=by rfl)(hd:o.dst=AC d:=by rfl)(hN:Nat.blt d N=true:=by rfl)(hh:Nat.ble h0 H.length=true:=by rfl):WO P h0 N all (o::L) env H Q:=by
 refine gE (XR hh) hg hd hN (Sg.next F hx hH) ?_;rintro v H' (⟨t,rfl,rfl⟩|⟨e,O,t,rfl,rfl⟩)
 .have:=List.map_eq_nil_iff.1 t;subst this;obtain⟨b,j,k⟩:=B [] (.refl _);exact R b j k
 .obtain⟨M,j,k⟩:=qr t rfl;cases M with
  |nil=>cases k
  |cons a l'=>
   obtain⟨rfl,rfl⟩:=k;have g:l'.length<l.length:=by rw[<- j.length_eq];simp
   have f:∀p,p.Perm l'->∃b,LO stepE stepN s (a::p)=AC b/\G b:=λp q=>B _ ((q.cons a).trans j);cases m:stepE s a with
   |none=>
    obtain⟨b,h,_⟩:=f l' (.refl _);simp[LO,m]at h
   |some D=>
    refine J a l' D m ?_ ⟨g,?_⟩
    .obtain⟨z,h,y⟩:=f l' (.refl _)
     grind[LO]
    .rintro s' rfl p q;obtain⟨z,h,y⟩:=f p q;simp[LO,m]at h;exact⟨z,h,y⟩
theorem zf{s:S}{l l':AA E}{D:CG S B}(e:AC (CG.k s)=AC D)(hc:l'.length<l.length/\ ∀s',D=.k s'->SI stepE stepN G s' l')(h:Le h0 env H (Es s) (Hp s (l'.map enc))):
  gl (λenv H=>∃n',n'<l.length/\m8 Es Hp stepE stepN G enc h0 n' env H) Q .normal env H:=
 ⟨_,hc.1,s,l',rfl,(by grind),h⟩
theorem zg{I:Env->Qd->Prop}{id:Nat}(h:Q (.exit id) env H):gl I Q (.exit id) env H:=h
end
def ni(h0:Nat)(G:B->Prop)(Eb:B->Env)(Hb:B->Qd)(Q:Qz):Qz
 |.normal,env,H=>∃b,G b/\Le h0 env H (Eb b) (Hb b)
 |.exit id,env,H=>Q (.exit id) env H
 |.ret,env,H=>Q .ret env H
theorem _Q{S E:Type}{stepE:S->E->AB (CG S B)}{stepN:S->AB B}{G:B->Prop}{s0:S}{l0:AA E}(hl:SI stepE stepN G s0 l0)(Eb:B->Env)(Hb:B->Qd)
  (h:TC P h0 N c env H (ni h0 G Eb Hb Q))(k:∀b env H,G b->Le h0 env H (Eb b) (Hb b)->Q .normal env H):TC P h0 N c env H Q:=
 h.mono λx env' H' q=>by
  cases x with
  |normal=>obtain⟨b,e,q⟩:=q;grind
  |exit id=>exact q
  |ret=>exact q
theorem bZ{B:Type}{G:B->Prop}{Eb:B->Env}{Hb:B->Qd}{b:B}(hG:G b)(h:Le h0 env H (Eb b) (Hb b)):ni h0 G Eb Hb Q .normal env H:=⟨b,hG,h⟩
theorem rI{i:Nat}{f:AB (A×A)}{es:AA (A×A)}{H':Qd}(hH:H[i]?=AC (.iter f es))(g:H.set i (.iter AF es)=H'):Le h0 env H env H':=by
 subst g;intro J x σ N a w r;refine⟨x,σ,⟨r.sim.weaken hH rfl ?_,r.env,r.size,r.defers⟩,λ_ q=>q,rfl⟩;intro y h;cases y with
 |none=>exact h
 |some b=>
  rcases h with⟨n,t,k⟩|⟨m,l,d,j,left,n,t,k,B,z,G,E,F⟩
  .exact .inl ⟨n,rfl,k⟩
  .exact .inr (by grind)
end
def mk(n:Int)(z:α):AB (AA α):=bif AG (0<=n)&&AG (n<=4294967296)then AC (List.replicate n.toNat z)else AF
theorem n7{α:Type}{n:Int}{z:α}{l:AA α}(h:mk n z=AC l):0<=n/\n<=4294967296/\List.replicate n.toNat z=l:=by
 unfold mk at h;cases q:(AG (0<=n)&&AG (n<=4294967296))with
 |true=>rw[q]at h;simp at q;exact⟨q.1,q.2,XZ h⟩
 |false=>rw[q]at h;cases h
theorem qs{α:Type}[Inhabited α](zl:AA α)(k:Nat)(hk:zl.length=k)(h0:0<k):∀n,(List.range (n*k)).map (λi=>zl.toArray[i%zl.toArray.size]!)=(List.replicate n zl).flatten
 |0=>by simp
 |n+1=>by
  rw[Xm,List.range_add,Xf,qs zl k hk h0 n,List.replicate_succ',List.flatten_append];congr 1;simp only[Vm,List.flatten_nil,Vh,List.map_map];apply List.ext_getElem
  .simp[hk]
  .intro i h1 h2;simp only[X2,List.length_range]at h1;simp only[List.getElem_map,List.getElem_range,Function.comp,List.size_toArray,hk];rw[Nat.mul_comm,Nat.mul_add_mod,Nat.mod_eq_of_lt h1];simp[hk,h1]
section
variable {P:AK} {o:AM} {env:Env} {H:Qd} {ro:Nat->Prop} {σ:Ch} {w:AJ}
theorem LR.replicate{az:AA A}{l:AA AL}(h:LR ro σ w az l):∀n,LR ro σ w (List.replicate n az).flatten (List.replicate n l).flatten
 |0=>rfl
 |n+1=>by
  rw[Xl,Xl];exact h.append (LR.replicate h n)
theorem pR{α:Type}{e:α->AA A}{T et k:Nat}{x y:Operand}{V ky:IntKind}{n:Int}{zv:α}{l:AA α}{z:AL}{a:A}(hm:mk n zv=AC l)(E:ElemTy P T et k)(hz:∀w,(zeroValue et).run P w=.ok z w)(ab:ZR a z)
  (hk:Yi a=AE)(hc:Yf a=e zv)(hp:(Yf a).all Yr=AE)(t:Nat.beq (e zv).length k=AE)
  (ho:o.op=.makeSlice T x y:=by rfl)(hx:CQ env x=.int V n:=by rfl)(hy:CQ env y=.int ky n:=by rfl)
  {fr ro:Nat->Prop}{σ:Ch}{N:Nat}{act:Act}{w:AJ}(r:DH fr ro σ H env N act w):∃lv:AA AL,(execOp act.eval o).run P w=.ok (.value (.slice (AC ⟨w.heap.size,0,AF⟩) l.length l.length)) (w.alloc (.cells lv.toArray et))/\
   LR ro [] w (l.map e).flatten lv/\(∀v∈lv,QC v)/\allK k (l.map e)/\lv.length=l.length*k/\l.length<=4294967296:=by
 obtain⟨n0,n1,hl⟩:=n7 hm;have h1:=Qq r x;rw[hx]at h1;have h2:=Qq r y;rw[hy]at h2;have aa:act.eval x=.int V n:=h1;have Q:act.eval y=.int ky n:=h2;obtain⟨i,hi,ah⟩:=E.bytes;obtain⟨f,c1,c2⟩:=(ab ro [] w).cells hk;have F:f.length=k:=by
  rw[c2.length,hc];exact XQ t
 have af:(if n.toNat*k=0 then(#[]:Array AL)else f.toArray)=f.toArray\/n.toNat*k=0:=by
  by_cases q:n.toNat*k=0
  .exact .inr q
  .exact .inl (Vs q)
 have d:∀(ZZ:Array AL),(ZZ=f.toArray\/n.toNat*k=0)->(Array.range (n.toNat*k)).map (λj=>ZZ[j%ZZ.size]!)=((List.replicate n.toNat f).flatten).toArray:=by
  intro ZZ hZ;by_cases q:n.toNat*k=0
  .rw[q];have:(List.replicate n.toNat f).flatten=[]:=by
    apply VJ.1;simp[F,q]
   rw[this];simp
  .obtain rfl:ZZ=f.toArray:=hZ.resolve_right q;have ad:0<k:=by
    rcases Nat.eq_zero_or_pos k with h|h
    .rw[h,Nat.mul_zero]at q;exact absurd rfl q
    .exact h
   rw[<- qs f k F ad n.toNat];simp[XI, <- List.toArray_range]
 have G:=c2.replicate n.toNat;have R:allK k (List.replicate n.toNat (e zv)):=by
  have:∀m,allK k (List.replicate m (e zv)):=by
   intro m
   induction m with
   |zero=>trivial
   |succ m ih=>exact⟨XQ t,ih⟩
  exact this _
 have g:∀v∈(List.replicate n.toNat f).flatten,QC v:=by
  intro v O;obtain⟨m,hm,O⟩:=List.mem_flatten.1 O;rw[List.eq_of_mem_replicate hm]at O;exact c2.plain hp v O
 rw[hc]at G;have B:l.map e=List.replicate n.toNat (e zv):=by rw[<- hl,List.map_replicate]
 have J:l.length=n.toNat:=by rw[<- hl];simp
 refine⟨(List.replicate n.toNat f).flatten,?_,by rw[B];exact G,g,by rw[B];exact R,by rw[J];simp[F],by omega⟩;rw[J]
 .have hw:IntKind.i64.wrap n=n:=by
   unfold IntKind.wrap;simp[IntKind.bits,IntKind.signed];omega
  have ae:∀(x:Nat) (W:AJ),(askRoom x).run P W=.ok () W:=by
   intro x W;unfold askRoom;split<;>rfl
  have L:∀(c:Array AL) (W:AJ),(newRow et c).run P W=.ok ⟨W.heap.size,0,AF⟩ (W.alloc (.cells c et)):=λc W=>rfl;have ac:¬(n<0):=by omega
  have X:¬((i.bytes:Int)*n>2^48):=by
   have h1:(i.bytes:Int)*n<=4096*4294967296:=Int.mul_le_mul (by omega) n1 n0 (by omega);omega
  have M:(Instr.makeSlice T (.int V n) (.int ky n)).run P w=.ok (.slice (AC ⟨w.heap.size,0,AF⟩) n.toNat n.toNat) (w.alloc (.cells ((List.replicate n.toNat f).flatten).toArray et)):=by
   have ag:¬(n>n):=by omega
   have Y:∀(k:IntKind) (m:Int) (W:AJ),(asInt (.int k m)).run P W=.ok m W:=λk m W=>rfl;unfold Instr.makeSlice;simp only[Vn,E.sl,E.size,hi,Result.andThen,Y,Vo,hw,ae,XH];rw[Vs (by simp[ac,X];omega)];by_cases q:n.toNat*k=0
   .simp only[q,if_true,Vo];have:=d #[] (.inr q);rw[q]at this;simp only[this,L]
   .simp only[q,if_false,hz,Vo,c1,d f.toArray (.inl rfl),L]
  generalize act.eval=ρ at*;simp only[execOp,ho,aa,Q,Vn,M,Result.andThen];rfl
theorem kN{α:Type}{e:α->AA A}{T et k:Nat}{x y:Operand}{q G:IntKind}{n:Int}{zv:α}{l:AA α}{z:AL}{a:A}(O:mk n zv=AC l)(E:ElemTy P T et k)(V:∀w,(zeroValue et).run P w=.ok z w)(f:ZR a z)
  (Q:Yi a=AE)(m:Yf a=e zv)(R:(Yf a).all Yr=AE)(d:Nat.beq (e zv).length k=AE)
  (J:o.op=.makeSlice T x y:=by rfl)(hx:CQ env x=.int q n:=by rfl)(hy:CQ env y=.int G n:=by rfl):
  D3 P o env H (.osl H.length 0 l.length k) (H++[.row et k (l.map e)]):=by
 intro Y B σ N act w r;obtain⟨F,W,j,M,L,h,X⟩:=pR O E V f Q m R d J hx hy r;have g:=r.sim.allocRow (t:=et) (rest:=[]) L j M;rw[Vh]at g;refine⟨_,_,B,[AC w.heap.size],W,.inr ⟨w.heap.size,0,l.length,et,F.length,?_,rfl,λ_=>by simp,⟨XT _,by omega⟩,?_,by rw[h,Xv];exact XT _⟩,g,Qm.alloc _ r.sim.roLt r.sim.frLt⟩
 .rw[<- r.sim.len];simp
 .unfold World.shape?;rw[Yw];simp
end
open Go.Sort Go.Proofs Go.Shelf
section
variable {α:Type}
def ins(lt:α->α->Bool)(x:α):AA α->AA α
 |[]=>[x]
 |y::l=>bif lt y x then y::ins lt x l else x::y::l
def Ky(lt:α->α->Bool):AA α->AA α
 |[]=>[]
 |x::l=>ins lt x (Ky lt l)
theorem km(lt:α->α->Bool)(x:α):∀l,(ins lt x l).Perm (x::l)
 |[]=>.refl _
 |y::l=>by
  unfold ins;cases lt y x
  .exact .refl _
  .exact((km lt x l).cons y).trans (List.Perm.swap _ _ _)
theorem YN(lt:α->α->Bool):∀l,(Ky lt l).Perm l
 |[]=>.refl _
 |x::l=>(km lt x _).trans ((YN lt l).cons x)
structure NO (lt:α->α->Bool) (l:List α):Prop where
 irrefl:∀x∈l,lt x x=AD
 trans:∀x∈l,∀y∈l,∀z∈l,lt x y=AE->lt y z=AE->lt x z=AE
 ntrans:∀x∈l,∀y∈l,∀z∈l,lt x y=AD->lt y z=AD->lt x z=AD
theorem NO.mono{lt:α->α->Bool}{l m:AA α}(h:NO lt l)(hm:∀x∈m,x∈l):NO lt m:=
 ⟨λx hx=>h.irrefl x (hm x hx),λx hx y hy z hz=>h.trans x (hm x hx) y (hm y hy) z (hm z hz),λx hx y hy z hz=>h.ntrans x (hm x hx) y (hm y hy) z (hm z hz)⟩
theorem NO.asymm{lt:α->α->Bool}{l:AA α}(h:NO lt l){x y:α}(d:x∈l)(g:y∈l)(f:lt x y=AE):lt y x=false:=by
 cases q:lt y x
 .rfl
 .rw[<- h.irrefl x d,h.trans x d y g x d f q]
theorem rz{lt:α->α->Bool}{x:α}:∀{l:AA α},NO lt (x::l)->l.Pairwise (λa b=>lt b a=AD)->(ins lt x l).Pairwise (λa b=>lt b a=AD)
 |[],_,_=>by simp[ins]
 |y::l,h,hp=>by
  obtain⟨h1,h2⟩:=Xc.1 hp;unfold ins;cases q:lt y x
  .refine Xc.2 ⟨λz hz=>?_,hp⟩;rcases X7.1 hz with rfl|hz
   .exact q
   .exact h.ntrans z (by simp[hz]) y (by simp) x (by simp) (h1 z hz) q
  .refine Xc.2 ⟨λz hz=>?_,rz (h.mono (by grind)) h2⟩;rcases X7.1 ((km lt x l).mem_iff.1 hz)with rfl|hz
   .exact h.asymm (by simp) (by simp) q
   grind
theorem iA{lt:α->α->Bool}:∀{l:AA α},NO lt l->(Ky lt l).Pairwise (λa b=>lt b a=AD)
 |[],_=>by simp[Ky]
 |x::l,h=>rz (h.mono (by
   intro z hz;rcases X7.1 hz with rfl|hz
   .simp
   grind[YN])) (iA (h.mono (by grind)))
theorem mA{lt:α->α->Bool}:∀{l m:AA α},l.Perm m->(∀x∈l,∀y∈l,lt x y=AD->lt y x=AD->x=y)->l.Pairwise (λa b=>lt b a=AD)->m.Pairwise (λa b=>lt b a=AD)->l=m
 |[],m,h,_,_,_=>by simp_all
 |x::l,[],h,_,_,_=>by simp_all
 |x::l,y::m,h,ha,hl,hm=>by
  obtain⟨l1,l2⟩:=Xc.1 hl;obtain⟨m1,m2⟩:=Xc.1 hm;have hy:y∈x::l:=h.mem_iff.2 (by simp);have hxy:x=y:=by
   grind
  subst hxy;rw[mA (by simp_all) (by grind) l2 m2]
def G5(cf:α->α->AB Int)(x y:α):Bool:=match cf x y with
 |some c=>AG (c<0)
 |none=>AD
def cv[DecidableEq α](cf:α->α->AB Int)(l:AA α):Bool:=
 l.all λx=> !G5 cf x x&&l.all λy=>(cf x y).isSome&&(G5 cf x y||G5 cf y x||AG (x=y))&&l.all λz=>(!G5 cf x y|| !G5 cf y z||G5 cf x z)&&(G5 cf x y||G5 cf y z|| !G5 cf x z)
def LV[DecidableEq α](cf:α->α->AB Int)(l:AA α):AB (AA α):=bif Nat.ble l.length YE&&cv cf l then AC (Ky (G5 cf) l)else AF
theorem lQ[DecidableEq α]{d:α->α->AB Int}{l l':AA α}(h:LV d l=AC l'):
  l.length<=YE/\(∀x∈l,∀y∈l,∃c,d x y=AC c)/\NO (G5 d) l/\(∀x∈l,∀y∈l,G5 d x y=AD->G5 d y x=AD->x=y)/\Ky (G5 d) l=l':=by
 unfold LV at h;cases m:Nat.ble l.length YE with
 |false=>grind
 |true=>
 rw[m,Vz]at h;cases q:cv d l with
 |false=>grind
 |true=>
  rw[q]at h;refine⟨(by simp_all),?_⟩;unfold cv at q;simp[Xs,XW,Bool.not_eq_true',Bool.or_eq_true]at q;refine⟨λx f y g=>Option.isSome_iff_exists.1 ((q x f).2 y g).1.1,⟨λx f=>(q x f).1,λx f y g z n k j=>?_,λx f y g z n k j=>?_⟩,λx f y g k j=>?_,XZ h⟩
  .grind
  .grind
  grind
theorem Qnr[DecidableEq α]{d:α->α->AB Int}{l:AA α}(f:l.length<=YE)(c:α->α->Int)(j:∀x∈l,∀y∈l,d x y=AC (c x y))(hi:∀x∈l,¬c x x<0)
  (n:∀x∈l,∀y∈l,∀z∈l,c x y<0->c y z<0->c x z<0)(h:∀x∈l,∀y∈l,∀z∈l,¬c x y<0->¬c y z<0->¬c x z<0)(g:∀x∈l,∀y∈l,¬c x y<0->¬c y x<0->x=y):
  LV d l=AC (Ky (G5 d) l):=by
 have t:∀x∈l,∀y∈l,G5 d x y=AG (c x y<0):=λx m y k=>by unfold G5;grind
 have q:cv d l=true:=by
  unfold cv
  grind
 simp_all[LV,XS]
theorem dQ[DecidableEq α]{d:α->α->AB Int}{l l':AA α}(h:LV d l=AC l'):l.length=l'.length:=by
 rw[<- (lQ h).2.2.2.2];exact(YN _ _).length_eq.symm
theorem Yl{l l':AA α}{i:Int}{x:α}(h:JG l i x=AC l'):l.length=l'.length:=by
 grind[JG]
theorem Q4{g:Nat}{env:Env}{H:Qd}{s:Nat}{a a':A}(h:lk env s=a)(e:a=a'):Le g env H (up env s a') H:=by
 intro j f σ N act w r;refine⟨f,σ,⟨r.sim,λd=>?_,r.size,r.defers⟩,λ_ q=>q,rfl⟩;subst e;have:lk (up env s a) d=lk env d:=by
  simp[lk];cases q:Nat.beq d s with
  |true=>simp_all
  |false=>rfl
 rw[this];exact r.env d
end
section
variable {fr ro:Nat->Prop} {σ:Ch} {H:Qd} {w w':AJ}
theorem sk(hh:∀b,b<w.heap.size->w'.heap[b]?=w.heap[b]?)(hro:∀b,ro b->b<w.heap.size)(σ:Ch):DL ro σ w ro σ w':=
 ⟨λ_ q=>q,(by grind),λb x hx=>by grind[World.shape?],λ_ _ q=>q⟩
theorem Ca.grown(s:Ca fr ro σ H w)(f:∀b,b<w.heap.size->w'.heap[b]?=w.heap[b]?)(m:w.heap.size<=w'.heap.size):Ca fr ro σ H w':=by
 refine⟨s.len,s.roOk.to (λ_ q=>q) (λb q=>f b (s.roLt b q)) (λb h=>Vg (s.roLt b h) m),λb h=>Vg (s.frLt b h) m,s.roFr,λi b x k g E=>?_,s.inj,λi y x k g=>?_,s.hidTo (· = ·) Ym m (by simp) (by simp) λj d y t n F=>.inl ⟨j,y,rfl,t,n,id,λc q=>s.hidKeep t n (λz=>f d (s.own j d y t n z).1) (λb q=>f b (s.roLt b q)) q⟩⟩
 .obtain⟨p,q⟩:=s.own i b x k g E
  grind
 .refine(s.blk i y x k g).keep (sk f s.roLt σ) ?_ ?_
  .rintro b rfl B;exact f b (s.own i b x k g B).1
  .rintro b c rfl B;exact f c (s.hid i b x c k g B).lt
theorem Qm.grown(hh:∀b,b<w.heap.size->w'.heap[b]?=w.heap[b]?)(hs:w.heap.size<=w'.heap.size)(s:Ca fr ro σ H w)(ho:w'.os=w.os)(ht:w'.tape=w.tape)(hu:w'.output=w.output)(hd:w.drawn<=w'.drawn):Qm fr ro w ro w':=
 ⟨λ_ q=>q,λb h=>hh b (s.roLt b h),λb h=>hh b (s.frLt b h),hs,(sk hh s.roLt σ).shape,ho,ht,hu,hd⟩
theorem m?(m:∀b,b<w.heap.size->w'.heap[b]?=w.heap[b]?)(k:w.heap.size<=w'.heap.size)(f:w'.os=w.os)(g:w'.tape=w.tape)(h:w'.output=w.output)(n:w.drawn<=w'.drawn):
  ∃q os',w'=grow (w.drewN q) os':=by
 refine⟨w'.drawn-w.drawn,w'.heap.extract w.heap.size w'.heap.size,?_⟩;obtain⟨d,z,j,t,B⟩:=w';simp only at m k f g h n;subst f g h;unfold grow World.drewN;have x:d=w.heap++d.extract w.heap.size d.size:=by
  grind
 have y:j=w.drawn+(j-w.drawn):=by omega
 grind
end
abbrev A.p:=A.ptr
abbrev A.b:=A.bool
abbrev A.a:=A.agg
abbrev A.s:=A.osl
abbrev A.t:=A.tup
abbrev A.q:=A.rsl
abbrev A.i:=A.int
abbrev A.n:=A.nils
abbrev CW.c:=CW.cells
abbrev CW.r:=CW.row
abbrev CW.R:=CW.rowr
abbrev CW.e:=CW.ents
abbrev A.o(i n k:Nat):=A.osl i 0 n k
abbrev A.f(n:Nat):=A.fn (.func n) [] []
abbrev nD(b k:Nat)(l h:Int):List A:=[.ptr b k,.int .i64 l,.int .i64 h]
end Go.Sw
