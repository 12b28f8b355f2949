/- The rules by which the code is walked, with what they rest on (part 1). -/
import Derived.Calls
import Derived.Tactics
import Derived.Below
import Derived.TacticsIn
import Derived.OrdersIn
import Derived.RangeFuncLeaves
import Derived.RangeFuncRecord
import Derived.Laws.Strings
import Derived.Laws.World
import Derived.Orders
import Derived.Maps.Keyed
import Derived.Laws.StructEq
import Derived.Maps.RangeRun
set_option linter.unusedVariables false
set_option linter.unusedSimpArgs false
set_option linter.unusedSectionVars false
namespace Go.Sw
def Qg4:Nat:=0
def nG:Nat:=1
def QfZ:List (List Int):=[]
theorem gOk:((List.range nG).all fun b=>Nat.beq b Qg4|| !(QfZ.getD b []).isEmpty)=true:=by decide
theorem gLt:Nat.ble QfZ.length nG=true:=by decide
theorem QkI:Nat.blt Qg4 nG=true:=by decide
structure GP (w:World):Prop where
 max:∃m:Int,w.cell? ⟨Qg4,0,none⟩=some (.int .i64 m)
 tab:∀(g:Nat) (zs:List Int),QfZ[g]?=some zs->∀(i:Nat) (z:Int),zs[i]?=some z->w.cell? ⟨g,i,none⟩=some (.int .i64 z)
theorem GP.keep{w w':World}(h:∀b,b<nG->w'.heap[b]?=w.heap[b]?)(g:GP w):GP w':=by
 obtain⟨m,hm⟩:=g.max
 refine⟨⟨m,?_⟩,fun g' zs hz i z hi=>?_⟩
 ·rw[<- hm]
  unfold World.cell?
  rw[h Qg4 (by simpa using QkI)]
 ·rw[<- g.tab g' zs hz i z hi]
  unfold World.cell?
  have h1:=(List.getElem?_eq_some_iff.1 hz).1
  have h2:QfZ.length<=nG:=by simpa using gLt
  rw[h g' (by omega)]
theorem Qef{w:World}{b i:Nat}{v:Value}(h:w.cell? ⟨b,i,none⟩=some v):b<w.heap.size:=by
 cases e:w.heap[b]? with
 |none=>simp[World.cell?,e]at h
 |some o=>exact(Array.getElem?_eq_some_iff.1 e).1
theorem GP.size{w:World}(g:GP w)(b:Nat)(hb:b<nG):b<w.heap.size:=by
 have h:=List.all_eq_true.1 gOk b (List.mem_range.2 hb)
 rw[Bool.or_eq_true]at h
 rcases h with h|h
 ·obtain⟨m,hm⟩:=g.max
  rw[Nat.eq_of_beq_eq_true h]
  exact Qef hm
 ·cases e:QfZ[b]? with
  |none=>rw[List.getD_eq_getElem?_getD,e]at h;simp at h
  |some zs=>
   cases zs with
   |nil=>rw[List.getD_eq_getElem?_getD,e]at h;simp at h
   |cons z zs=>exact Qef (g.tab b _ e 0 z rfl)
end Go.Sw
namespace Go.Sw
inductive A where
 |any
 |bool (b:Bool)
 |int (k:IntKind) (n:Int)
 |str (s:List UInt8)
 |nilp
 |ptr (i off:Nat)
 |rp (cs:List A)
 |nils
 |rsl (k:Nat) (es:List (List A))
 |osl (i o n k:Nat)
 |agg (cs:List A)
 |fn (f:Fn) (first cap:List A)
 |nilf
 |iface (t:Nat) (v:A)
 |nilif
 |map (i:Nat)
 |nilm
 |tup (vs:List A)
abbrev Sig:=List (Option Nat)
def Qv:Value->Prop
 |.agg _|.tuple _=>False
 |_=>True
mutual
def VR(ro:Nat->Prop)(σ:Sig)(w:World):A->Value->Prop
 |.any,_=>True
 |.bool b,v=>v=.bool b
 |.int k n,v=>v=.int k n
 |.str s,v=>v=.string ⟨s.toArray⟩
 |.nilp,v=>v=.pointer none
 |.ptr i off,v=>∃b,σ[i]?=some (some b)/\v=.pointer (some ⟨b,off,none⟩)
 |.rp cs,v=>∃b off,v=.pointer (some ⟨b,off,none⟩)/\ro b/\CR ro [] w b cs off
 |.nils,v=>v=.slice none 0 0
 |.rsl k es,v=>∃a cap,v=.slice a es.length cap/\es.length<=cap/\
   (es=[]\/ ∃b off,a=some ⟨b,off,none⟩/\ro b/\RR ro [] w b k es off)
 |.osl i o n k,v=>(n=0/\v=.slice none 0 0)\/
   ∃b p cap t m,σ[i]?=some (some b)/\v=.slice (some ⟨b,p,none⟩) n cap/\(0<cap->p=o*k)/\n<=cap/\w.shape? b=some (t,m)/\(o+cap)*k<=m
 |.agg cs,v=>∃l:List Value,v=.agg l.toArray/\LR ro σ w cs l
 |.fn f first cap,v=>∃l l':List Value,v=.func f l.toArray l'.toArray/\LR ro σ w first l/\LR ro σ w cap l'
 |.nilf,v=>v=.nilFunc
 |.iface t a,v=>∃x,v=.iface t x/\VR ro σ w a x
 |.nilif,v=>v=.nilIface
 |.map i,v=>∃b,σ[i]?=some (some b)/\v=.map (some b)
 |.nilm,v=>v=.map none
 |.tup vs,v=>∃l:List Value,v=.tuple l.toArray/\LR ro σ w vs l
def CR(ro:Nat->Prop)(σ:Sig)(w:World)(b:Nat):List A->Nat->Prop
 |[],_=>True
 |a::r,off=>(∃v,w.cell? ⟨b,off,none⟩=some v/\Qv v/\VR ro σ w a v)/\CR ro σ w b r (off+1)
def RR(ro:Nat->Prop)(σ:Sig)(w:World)(b k:Nat):List (List A)->Nat->Prop
 |[],_=>True
 |cs::r,off=>cs.length=k/\CR ro σ w b cs off/\RR ro σ w b k r (off+k)
def LR(ro:Nat->Prop)(σ:Sig)(w:World):List A->List Value->Prop
 |[],l=>l=[]
 |a::r,l=>∃v l',l=v::l'/\VR ro σ w a v/\LR ro σ w r l'
end
structure Ext (ro:Nat->Prop) (σ:Sig) (w:World) (ro':Nat->Prop) (σ':Sig) (w':World):Prop where
 sub:∀b,ro b->ro' b
 keep:∀b,ro b->w'.heap[b]?=w.heap[b]?
 shape:∀b x,w.shape? b=some x->w'.shape? b=some x
 sig:∀(i b:Nat),σ[i]?=some (some b)->σ'[i]?=some (some b)
theorem Qeg{w w':World}{b off:Nat}(h:w'.heap[b]?=w.heap[b]?):w'.cell? ⟨b,off,none⟩=w.cell? ⟨b,off,none⟩:=by
 simp only[World.cell?,h]
theorem Ext.nil{ro ro':Nat->Prop}{σ σ':Sig}{w w':World}(h:Ext ro σ w ro' σ' w'):Ext ro [] w ro' [] w':=
 ⟨h.sub,h.keep,h.shape,fun _ _ q=>q⟩
mutual
theorem VR.mono{ro ro':Nat->Prop}{w w':World}:∀{a:A}{σ σ':Sig}{v:Value},Ext ro σ w ro' σ' w'->VR ro σ w a v->VR ro' σ' w' a v
 |.any,_,_,_,h,_=>trivial
 |.bool b,_,_,v,h,q=>q
 |.int k n,_,_,v,h,q=>q
 |.str s,_,_,v,h,q=>q
 |.nilp,_,_,v,h,q=>q
 |.ptr i off,_,_,v,h,q=>by
  simp only[VR]at q⊢
  obtain⟨b,h1,h2⟩:=q
  exact⟨b,h.sig _ _ h1,h2⟩
 |.rp cs,_,_,v,h,q=>by
  simp only[VR]at q⊢
  obtain⟨b,off,h1,h2,h3⟩:=q
  exact⟨b,off,h1,h.sub _ h2,CR.mono h.nil h2 h3⟩
 |.nils,_,_,v,h,q=>q
 |.rsl k es,_,_,v,h,q=>by
  simp only[VR]at q⊢
  obtain⟨a,cap,h1,h2,h3⟩:=q
  refine⟨a,cap,h1,h2,?_⟩
  rcases h3 with h3|⟨b,off,h4,h5,h6⟩
  ·exact .inl h3
  ·exact .inr ⟨b,off,h4,h.sub _ h5,RR.mono h.nil h5 h6⟩
 |.osl i o n k,_,_,v,h,q=>by
  simp only[VR]at q⊢
  rcases q with q|⟨b,p,cap,t,m,h1,h2,h6,h3,h4,h5⟩
  ·exact .inl q
  ·exact .inr ⟨b,p,cap,t,m,h.sig _ _ h1,h2,h6,h3,h.shape _ _ h4,h5⟩
 |.agg cs,_,_,v,h,q=>by
  simp only[VR]at q⊢
  obtain⟨l,h1,h2⟩:=q
  exact⟨l,h1,LR.mono h h2⟩
 |.fn f a c,_,_,v,h,q=>by
  simp only[VR]at q⊢
  obtain⟨l,l',h1,h2,h3⟩:=q
  exact⟨l,l',h1,LR.mono h h2,LR.mono h h3⟩
 |.nilf,_,_,v,h,q=>q
 |.iface t a,_,_,v,h,q=>by
  simp only[VR]at q⊢
  obtain⟨x,h1,h2⟩:=q
  exact⟨x,h1,VR.mono h h2⟩
 |.nilif,_,_,v,h,q=>q
 |.map i,_,_,v,h,q=>by
  simp only[VR]at q⊢
  obtain⟨b,h1,h2⟩:=q
  exact⟨b,h.sig _ _ h1,h2⟩
 |.nilm,_,_,v,h,q=>q
 |.tup vs,_,_,v,h,q=>by
  simp only[VR]at q⊢
  obtain⟨l,h1,h2⟩:=q
  exact⟨l,h1,LR.mono h h2⟩
theorem CR.mono{ro ro':Nat->Prop}{w w':World}:∀{cs:List A}{σ σ':Sig}{b off:Nat},Ext ro σ w ro' σ' w'->ro b->CR ro σ w b cs off->CR ro' σ' w' b cs off
 |[],_,_,_,_,_,_,_=>trivial
 |a::r,_,_,b,off,h,hb,q=>by
  simp only[CR]at q⊢
  obtain⟨⟨v,h1,hp,h2⟩,h3⟩:=q
  exact⟨⟨v,by rw[Qeg (h.keep _ hb)];exact h1,hp,VR.mono h h2⟩,CR.mono h hb h3⟩
theorem RR.mono{ro ro':Nat->Prop}{w w':World}:∀{es:List (List A)}{σ σ':Sig}{b k off:Nat},Ext ro σ w ro' σ' w'->ro b->RR ro σ w b k es off->RR ro' σ' w' b k es off
 |[],_,_,_,_,_,_,_,_=>trivial
 |cs::r,_,_,b,k,off,h,hb,q=>by
  simp only[RR]at q⊢
  obtain⟨h1,h2,h3⟩:=q
  exact⟨h1,CR.mono h hb h2,RR.mono h hb h3⟩
theorem LR.mono{ro ro':Nat->Prop}{w w':World}:∀{az:List A}{σ σ':Sig}{l:List Value},Ext ro σ w ro' σ' w'->LR ro σ w az l->LR ro' σ' w' az l
 |[],_,_,_,h,q=>q
 |a::r,_,_,l,h,q=>by
  simp only[LR]at q⊢
  obtain⟨v,l',h1,h2,h3⟩:=q
  exact⟨v,l',h1,VR.mono h h2,LR.mono h h3⟩
end
structure Ent where
 fl:Bool
 off:Nat
 lo:Int
 hi:Int
def eC(b1 b2:Nat)(e:Ent):List A:=[.ptr (bif e.fl then b2 else b1) e.off,.int .i64 e.lo,.int .i64 e.hi]
inductive Blk where
 |dead
 |cells (t:Nat) (cs:List A)
 |row (t k:Nat) (es:List (List A))
 |rowr (t k:Nat) (es:List (List A))
 |map (es:List (A×A))
 |iter (cur:Option (A×A)) (es:List (A×A))
 |fmap (es:List (A×A))
 |ents (t b1 b2:Nat) (es:List Ent)
 |mapO (fz:Bool) (t k:Nat) (es:List (A×Option (List (List A))))
def Blk.live:Blk->Bool
 |.dead=>false
 |.fmap _=>false
 |.mapO fz _ _ _=> !fz
 |_=>true
def Blk.held:Blk->Bool
 |.mapO fz _ _ _=>fz
 |_=>false
def Blk.holds(x:Blk):Bool:=x.live||x.held
theorem YP{x:Blk}(h:x.live=true):x≠ .dead:=by rintro rfl;cases h
theorem Qch{x:Blk}(h:x.holds=true):x≠ .dead:=by rintro rfl;cases h
theorem Qa6{x:Blk}(h:x.live=true):x.holds=true:=by unfold Blk.holds;rw[h];rfl
abbrev Qc:=List Blk
def ER(ro:Nat->Prop)(σ:Sig)(w:World):List (A×A)->List MapEntry->Prop
 |[],l=>l=[]
 |x::r,l=>∃e l',l=e::l'/\VR ro σ w x.1 e.key/\VR ro σ w x.2 e.val/\ER ro σ w r l'
def ItR(ro:Nat->Prop)(w:World)(b:Nat)(cur:Option (A×A))(es:List (A×A)):Prop:=
 (es=[]/\cur=none/\w.heap[b]?=some (.mapIter none 0 #[] 0))\/
 ∃m l clock seen left,w.heap[b]?=some (.mapIter (some m) clock seen clock)/\ro m/\w.heap[m]?=some (.map l clock)/\(∀e∈l.toList,e.born<clock)/\(l.toList.map (·.born)).Nodup/\
  (left:List MapEntry).Perm (l.toList.filter fun e=> !seen.contains e.born)/\ER ro [] w es left/\
  (∀x,cur=some x->∃e∈l.toList,seen.back? =some e.born/\VR ro [] w x.1 e.key/\VR ro [] w x.2 e.val)
def RL(ro:Nat->Prop)(σ:Sig)(w:World)(k:Nat):List (List A)->List Value->Prop
 |[],_=>True
 |c::es,l=>∃l1 l2,l=l1++l2/\c.length=k/\(LR ro σ w c l1/\ ∀v∈l1,Qv v)/\RL ro σ w k es l2
theorem RL.mono{ro ro':Nat->Prop}{σ σ':Sig}{w w':World}(h:Ext ro σ w ro' σ' w'){k:Nat}:∀{es:List (List A)}{l:List Value},RL ro σ w k es l->RL ro' σ' w' k es l
 |[],_,_=>trivial
 |c::es,l,⟨l1,l2,h1,h2,h3,h4⟩=>⟨l1,l2,h1,h2,⟨h3.1.mono h,h3.2⟩,RL.mono h h4⟩
def SO(ro:Nat->Prop)(w:World)(t k:Nat)(rows:List (List A))(v:Value):Prop:=
 (rows=[]/\v=.slice none 0 0)\/ ∃(c p cap:Nat) (vs:List Value),v=.slice (some ⟨c,p,none⟩) rows.length cap/\rows.length<=cap/\w.heap[c]?=some (.cells vs.toArray t (0,0))/\cap*k<=vs.length/\RL ro [] w k rows vs/\(0<cap->p=0)
def MO(ro:Nat->Prop)(w:World)(t k:Nat):List (A×Option (List (List A)))->List MapEntry->Prop
 |[],l=>l=[]
 |x::r,l=>∃e l',l=e::l'/\VR ro [] w x.1 e.key/\(∀rows,x.2=some rows->SO ro w t k rows e.val)/\MO ro w t k r l'
def YO:List (A×Option (List (List A)))->List MapEntry->Nat->Prop
 |x::r,e::l,c=>(x.2.isSome=true/\ ∃p n cap,e.val=.slice (some ⟨c,p,none⟩) n cap)\/YO r l c
 |_,_,_=>False
def QbT:List (A×Option (List (List A)))->List MapEntry->Prop
 |x::r,e::l=>(∀c,x.2.isSome=true->(∃p n cap,e.val=.slice (some ⟨c,p,none⟩) n cap)->¬YO r l c)/\QbT r l
 |_,_=>True
def Hid(w:World):Blk->Nat->Nat->Prop
 |.mapO _ _ _ es,b,c=>∃l clock,w.heap[b]?=some (.map l clock)/\YO es l.toList c
 |_,_,_=>False
theorem Hid.keep{w w':World}{x:Blk}{b c:Nat}(h:w'.heap[b]?=w.heap[b]?)(q:Hid w' x b c):Hid w x b c:=by
 cases x with
 |mapO fz t k es=>obtain⟨l,cl,h1,h2⟩:=q;exact⟨l,cl,by rw[<- h];exact h1,h2⟩
 |_=>exact q.elim
theorem Hid.holds{w:World}{x:Blk}{b c:Nat}(q:Hid w x b c):x.holds=true:=by
 cases x with
 |mapO fz t k es=>cases fz<;>rfl
 |_=>exact q.elim
theorem MO.mono{ro ro':Nat->Prop}{σ σ':Sig}{w w':World}(h:Ext ro σ w ro' σ' w'){t k:Nat}:∀{es:List (A×Option (List (List A)))}{l:List MapEntry},(∀c,YO es l c->w'.heap[c]?=w.heap[c]?)->MO ro w t k es l->MO ro' w' t k es l
 |[],_,_,q=>q
 |x::r,_,hh,⟨e,l',h1,h2,h3,h4⟩=>by
  subst h1
  refine⟨e,l',rfl,h2.mono h.nil,fun rows hr=>?_,MO.mono h (fun c hc=>hh c (.inr hc)) h4⟩
  rcases h3 rows hr with q|⟨c,p,cap,vs,q1,q2,q3,q4,q5,q6⟩
  ·exact .inl q
  ·exact .inr ⟨c,p,cap,vs,q1,q2,by rw[hh c (.inl ⟨by rw[hr];rfl,p,_,_,q1⟩)];exact q3,q4,q5.mono h.nil,q6⟩
theorem MO.cells{ro:Nat->Prop}{w:World}{t k:Nat}:∀{es:List (A×Option (List (List A)))}{l:List MapEntry}{c:Nat},MO ro w t k es l->YO es l c->∃vs:Array Value,w.heap[c]?=some (.cells vs t (0,0))
 |[],l,c,h,q=>by cases l<;>exact q.elim
 |x::r,_,c,⟨e,l',h1,h2,h3,h4⟩,q=>by
  subst h1
  rcases q with⟨q1,p,n,cap,q2⟩|q
  ·obtain⟨rows,hr⟩:=Option.isSome_iff_exists.1 q1
   rcases h3 rows hr with⟨_,z⟩|⟨c',p',cap',vs,z1,z2,z3,z4,z5,z6⟩
   ·rw[q2]at z;cases z
   ·rw[q2]at z1;cases z1;exact⟨_,z3⟩
  ·exact MO.cells h4 q
def QdP(l:Array MapEntry)(clock:Nat):Prop:=clock=l.size/\ ∀(i:Nat) (e:MapEntry),l.toList[i]?=some e->e.born=i
theorem QdP.push{l:Array MapEntry}{clock:Nat}{e:MapEntry}(h:QdP l clock)(he:e.born=clock):QdP (l.push e) (clock+1):=by
 obtain⟨h1,h2⟩:=h
 refine⟨by simp[h1],fun i e' q=>?_⟩
 rw[Array.toList_push]at q
 by_cases hi:i<l.toList.length
 ·rw[List.getElem?_append_left hi]at q;exact h2 i e' q
 ·rw[List.getElem?_append_right (by omega)]at q
  have:=(List.getElem?_eq_some_iff.1 q).1
  simp at this
  have e0:i-l.toList.length=0:=by simpa using this
  rw[e0]at q
  simp at q
  subst q
  simp at hi this
  omega
theorem QdP.modify{l:Array MapEntry}{clock j:Nat}{f:MapEntry->MapEntry}(h:QdP l clock)(hf:∀e,(f e).born=e.born):QdP (l.modify j f) clock:=by
 obtain⟨h1,h2⟩:=h
 refine⟨by simp[h1],fun i e' q=>?_⟩
 rw[Array.toList_modify,List.getElem?_modify]at q
 cases z:l.toList[i]? with
 |none=>rw[z]at q;simp at q
 |some e=>
  rw[z]at q
  by_cases hj:j=i
  ·simp[hj]at q;rw[<- q,hf];exact h2 i e z
  ·simp[hj]at q;rw[<- q];exact h2 i e z
def BR(ro:Nat->Prop)(σ:Sig)(w:World):Blk->Option Nat->Prop
 |.dead,_=>True
 |.cells t cs,some b=>∃l:List Value,w.heap[b]?=some (.cells l.toArray t (0,0))/\LR ro σ w cs l/\ ∀v∈l,Qv v
 |.row t k es,some b=>∃l:List Value,w.heap[b]?=some (.cells l.toArray t (0,0))/\RL ro [] w k es l
 |.rowr t k es,some b=>∃l:List Value,w.heap[b]?=some (.cells l.toArray t (0,0))/\RL ro σ w k es l
 |.row _ _ es,none=>es=[]
 |.ents t b1 b2 es,some b=>∃l:List Value,w.heap[b]?=some (.cells l.toArray t (0,0))/\RL ro σ w 3 (es.map (eC b1 b2)) l
 |.ents _ _ _ es,none=>es=[]
 |.map es,some b=>∃l clock,w.heap[b]?=some (.map l clock)/\ER ro [] w es l.toList/\
   (∀e∈l.toList,e.born<clock)/\(l.toList.map (·.born)).Nodup/\(l.toList.map (·.key)).Nodup
 |.iter cur es,some b=>ItR ro w b cur es
 |.mapO fz t k es,some b=>(fz=true->ro b)/\ ∃l clock,w.heap[b]?=some (.map l clock)/\MO ro w t k es l.toList/\QbT es l.toList/\
   (∀e∈l.toList,e.born<clock)/\(l.toList.map (·.born)).Nodup/\(l.toList.map (·.key)).Nodup/\QdP l clock
 |.fmap es,some b=>ro b/\ ∃l clock,w.heap[b]?=some (.map l clock)/\ER ro [] w es l.toList/\
   (∀e∈l.toList,e.born<clock)/\(l.toList.map (·.born)).Nodup/\(l.toList.map (·.key)).Nodup
 |_,none=>False
structure RoOk (ro:Nat->Prop) (w:World):Prop where
 lt:∀b,ro b->b<w.heap.size
 g:∀b,b<nG->ro b
 gp:GP w
theorem RoOk.to{ro ro':Nat->Prop}{w w':World}(h:RoOk ro w)(sub:∀b,ro b->ro' b)(keep:∀b,ro b->w'.heap[b]?=w.heap[b]?)(lt:∀b,ro' b->b<w'.heap.size):RoOk ro' w':=
 ⟨lt,fun b hb=>sub b (h.g b hb),h.gp.keep fun b hb=>keep b (h.g b hb)⟩
structure Qkk (fr ro:Nat->Prop) (σ:Sig) (H:Qc) (w:World) (i0 b0 c:Nat):Prop where
 lt:c<w.heap.size
 ro:¬ro c
 fr:¬fr c
 ne:∀(j b:Nat) (y:Blk),σ[j]?=some (some b)->H[j]?=some y->y.live=true->c≠b
 one:∀(j b:Nat) (y:Blk),σ[j]?=some (some b)->H[j]?=some y->Hid w y b c->b=b0/\j=i0
structure Sim (fr ro:Nat->Prop) (σ:Sig) (H:Qc) (w:World):Prop where
 len:σ.length=H.length
 roOk:RoOk ro w
 frLt:∀b,fr b->b<w.heap.size
 roFr:∀b,ro b->¬fr b
 own:∀(i b:Nat) (blk:Blk),σ[i]?=some (some b)->H[i]?=some blk->blk.live=true->b<w.heap.size/\ ¬ro b/\ ¬fr b
 inj:∀(i j b:Nat) (x y:Blk),σ[i]?=some (some b)->σ[j]?=some (some b)->H[i]?=some x->H[j]?=some y->x.live=true->y.live=true->i=j
 blk:∀(i:Nat) (s:Option Nat) (x:Blk),σ[i]?=some s->H[i]?=some x->BR ro σ w x s
 hid:∀(i b:Nat) (x:Blk) (c:Nat),σ[i]?=some (some b)->H[i]?=some x->Hid w x b c->Qkk fr ro σ H w i b c
theorem Sim.roHeld{fr ro:Nat->Prop}{σ:Sig}{H:Qc}{w:World}(s:Sim fr ro σ H w){i b:Nat}{x:Blk}(h1:σ[i]?=some (some b))(h2:H[i]?=some x)(hx:x.held=true):ro b:=by
 have h:=s.blk i _ x h1 h2
 cases x with
 |mapO fz t k es=>exact h.1 hx
 |_=>cases hx
theorem Sim.hidKeep{fr ro:Nat->Prop}{σ:Sig}{H:Qc}{w w':World}(s:Sim fr ro σ H w){i b c:Nat}{x:Blk}(h1:σ[i]?=some (some b))(h2:H[i]?=some x)
  (hl:x.live=true->w'.heap[b]?=w.heap[b]?)(hr:∀b,ro b->w'.heap[b]?=w.heap[b]?)(q:Hid w' x b c):Hid w x b c:=by
 refine q.keep ?_
 have h:=q.holds
 cases hx:x.live with
 |true=>exact hl hx
 |false=>unfold Blk.holds at h;rw[hx]at h;exact hr b (s.roHeld h1 h2 h)
theorem Sim.hidTo{fr fr' ro ro':Nat->Prop}{σ σ':Sig}{H H':Qc}{w w':World}(s:Sim fr ro σ H w)(R:Nat->Nat->Prop)(hR:∀j j' j0,R j j0->R j' j0->j=j')(hsz:w.heap.size<=w'.heap.size)
  (hro:∀(i b:Nat) (x:Blk) (c:Nat),σ[i]?=some (some b)->H[i]?=some x->Hid w x b c->ro' c->ro c)
  (hfr:∀(i b:Nat) (x:Blk) (c:Nat),σ[i]?=some (some b)->H[i]?=some x->Hid w x b c->fr' c->fr c)
  (h:∀(j d:Nat) (y:Blk),σ'[j]?=some (some d)->H'[j]?=some y->y.holds=true->
   (∃(j0:Nat) (y0:Blk),R j j0/\σ[j0]?=some (some d)/\H[j0]?=some y0/\(y.live=true->y0.live=true)/\ ∀c,Hid w' y d c->Hid w y0 d c)\/(w.heap.size<=d/\ ∀c,Hid w' y d c->False)):
  ∀(i b:Nat) (x:Blk) (c:Nat),σ'[i]?=some (some b)->H'[i]?=some x->Hid w' x b c->Qkk fr' ro' σ' H' w' i b c:=by
 intro i b x c h1 h2 h3
 rcases h i b x h1 h2 h3.holds with⟨j0,y0,r0,g1,g2,g3,g4⟩|⟨_,g⟩
 ·have k:=s.hid j0 b y0 c g1 g2 (g4 c h3)
  refine⟨Nat.lt_of_lt_of_le k.lt hsz,fun q=>k.ro (hro j0 b y0 c g1 g2 (g4 c h3) q),fun q=>k.fr (hfr j0 b y0 c g1 g2 (g4 c h3) q),fun j d y z1 z2 z3=>?_,fun j d y z1 z2 z3=>?_⟩
  ·rcases h j d y z1 z2 (Qa6 z3)with⟨j1,y1,_,f1,f2,f3,_⟩|⟨f,_⟩
   ·exact k.ne j1 d y1 f1 f2 (f3 z3)
   ·exact fun e=>by have:=k.lt;omega
  ·rcases h j d y z1 z2 z3.holds with⟨j1,y1,r1,f1,f2,f3,f4⟩|⟨_,f⟩
   ·obtain⟨e1,e2⟩:=k.one j1 d y1 f1 f2 (f4 c z3)
    subst e2
    exact⟨e1,hR _ _ _ r1 r0⟩
   ·exact(f c z3).elim
 ·exact(g c h3).elim
theorem QP(j j' j0:Nat)(h:j=j0)(h':j'=j0):j=j':=h.trans h'.symm
theorem Sim.roLt{fr ro:Nat->Prop}{σ:Sig}{H:Qc}{w:World}(s:Sim fr ro σ H w):∀b,ro b->b<w.heap.size:=s.roOk.lt
structure Qf (fr ro:Nat->Prop) (w:World) (ro':Nat->Prop) (w':World):Prop where
 sub:∀b,ro b->ro' b
 keepRo:∀b,ro b->w'.heap[b]?=w.heap[b]?
 keepFr:∀b,fr b->w'.heap[b]?=w.heap[b]?
 size:w.heap.size<=w'.heap.size
 shape:∀b x,w.shape? b=some x->w'.shape? b=some x
 os:w'.os=w.os
 tape:w'.tape=w.tape
 output:w'.output=w.output
 drawn:w.drawn<=w'.drawn
theorem Qf.refl(fr ro:Nat->Prop)(w:World):Qf fr ro w ro w:=
 ⟨fun _ h=>h,fun _ _=>rfl,fun _ _=>rfl,Nat.le_refl _,fun _ _ h=>h,rfl,rfl,rfl,Nat.le_refl _⟩
theorem Qf.trans{fr ro ro1 ro2:Nat->Prop}{w w1 w2:World}(h:Qf fr ro w ro1 w1)(k:Qf fr ro1 w1 ro2 w2):Qf fr ro w ro2 w2:=
 ⟨fun b q=>k.sub _ (h.sub _ q),fun b q=>(k.keepRo _ (h.sub _ q)).trans (h.keepRo _ q),fun b q=>(k.keepFr _ q).trans (h.keepFr _ q),
  Nat.le_trans h.size k.size,fun b x q=>k.shape _ _ (h.shape _ _ q),k.os.trans h.os,k.tape.trans h.tape,k.output.trans h.output,Nat.le_trans h.drawn k.drawn⟩
theorem YN{σ τ:Sig}{i b:Nat}(h:σ[i]?=some (some b)):(σ++τ)[i]?=some (some b):=by
 have hi:i<σ.length:=by
  rcases Nat.lt_or_ge i σ.length with q|q
  ·exact q
  ·simp[List.getElem?_eq_none q]at h
 rw[List.getElem?_append_left hi];exact h
theorem Qf.ext{fr ro ro':Nat->Prop}{w w':World}(h:Qf fr ro w ro' w')(σ τ:Sig):Ext ro σ w ro' (σ++τ) w':=
 ⟨h.sub,h.keepRo,h.shape,fun _ _=>YN⟩
theorem Qf.ext0{fr ro ro':Nat->Prop}{w w':World}(h:Qf fr ro w ro' w')(σ:Sig):Ext ro σ w ro' σ w':=
 ⟨h.sub,h.keepRo,h.shape,fun _ _ q=>q⟩
theorem ER.mono{ro ro':Nat->Prop}{σ σ':Sig}{w w':World}(h:Ext ro σ w ro' σ' w'):∀{es:List (A×A)}{l:List MapEntry},ER ro σ w es l->ER ro' σ' w' es l
 |[],_,q=>q
 |x::r,l,q=>by
  simp only[ER]at q⊢
  obtain⟨e,l',h1,h2,h3,h4⟩:=q
  exact⟨e,l',h1,h2.mono h,h3.mono h,ER.mono h h4⟩
theorem ItR.keep{ro ro':Nat->Prop}{σ σ':Sig}{w w':World}(h:Ext ro σ w ro' σ' w'){b:Nat}(hb:w'.heap[b]?=w.heap[b]?){cur:Option (A×A)}{es:List (A×A)}
  (q:ItR ro w b cur es):ItR ro' w' b cur es:=by
 rcases q with⟨h1,h2,h3⟩|⟨m,l,clock,seen,left,h1,h2,h3,h4,h5,h6,h7,h8⟩
 ·exact .inl ⟨h1,h2,by rw[hb];exact h3⟩
 ·refine .inr ⟨m,l,clock,seen,left,by rw[hb];exact h1,h.sub _ h2,by rw[h.keep _ h2];exact h3,h4,h5,h6,h7.mono h.nil,fun x hx=>?_⟩
  obtain⟨e,he,q1,q2,q3⟩:=h8 x hx
  exact⟨e,he,q1,q2.mono h.nil,q3.mono h.nil⟩
theorem CR.keep{ro ro':Nat->Prop}{σ σ':Sig}{w w':World}(h:Ext ro σ w ro' σ' w'){b:Nat}(hb:w'.heap[b]?=w.heap[b]?):
  ∀{cs:List A}{off:Nat},CR ro σ w b cs off->CR ro' σ' w' b cs off
 |[],_,_=>trivial
 |a::r,off,q=>by
  simp only[CR]at q⊢
  obtain⟨⟨v,h1,hp,h2⟩,h3⟩:=q
  exact⟨⟨v,by rw[Qeg hb];exact h1,hp,h2.mono h⟩,CR.keep h hb h3⟩
theorem RR.keep{ro ro':Nat->Prop}{σ σ':Sig}{w w':World}(h:Ext ro σ w ro' σ' w'){b:Nat}(hb:w'.heap[b]?=w.heap[b]?){k:Nat}:
  ∀{es:List (List A)}{off:Nat},RR ro σ w b k es off->RR ro' σ' w' b k es off
 |[],_,_=>trivial
 |cs::r,off,q=>by
  simp only[RR]at q⊢
  obtain⟨h1,h2,h3⟩:=q
  exact⟨h1,CR.keep h hb h2,RR.keep h hb h3⟩
theorem BR.keep{ro ro':Nat->Prop}{σ σ':Sig}{w w':World}(h:Ext ro σ w ro' σ' w'){x:Blk}{s:Option Nat}
  (hb:∀b,s=some b->x.live=true->w'.heap[b]?=w.heap[b]?)(q:BR ro σ w x s)(hh:∀b c,s=some b->Hid w x b c->w'.heap[c]?=w.heap[c]?):BR ro' σ' w' x s:=by
 cases x with
 |mapO fz t k es=>
  cases s with
  |none=>exact q
  |some b=>
   obtain⟨h0,l,c,h1,h2,h3⟩:=q
   refine⟨fun z=>h.sub b (h0 z),l,c,?_,h2.mono h (fun d hd=>hh b d rfl ⟨l,c,h1,hd⟩),h3⟩
   cases fz with
   |false=>rw[hb b rfl rfl];exact h1
   |true=>rw[h.keep b (h0 rfl)];exact h1
 |dead=>trivial
 |cells t cs=>
  cases s with
  |none=>exact q
  |some b=>
   obtain⟨l,h1,h2,h3⟩:=q
   exact⟨l,by rw[hb b rfl rfl];exact h1,h2.mono h,h3⟩
 |row t k es=>
  cases s with
  |none=>exact q
  |some b=>
   obtain⟨l,h1,h2⟩:=q
   exact⟨l,by rw[hb b rfl rfl];exact h1,h2.mono h.nil⟩
 |rowr t k es=>
  cases s with
  |none=>exact q.elim
  |some b=>
   obtain⟨l,h1,h2⟩:=q
   exact⟨l,by rw[hb b rfl rfl];exact h1,h2.mono h⟩
 |ents t b1 b2 es=>
  cases s with
  |none=>exact q
  |some b=>
   obtain⟨l,h1,h2⟩:=q
   exact⟨l,by rw[hb b rfl rfl];exact h1,h2.mono h⟩
 |map es=>
  cases s with
  |none=>exact q
  |some b=>
   obtain⟨l,c,h1,h2,h3⟩:=q
   exact⟨l,c,by rw[hb b rfl rfl];exact h1,h2.mono h.nil,h3⟩
 |iter cur es=>
  cases s with
  |none=>exact q
  |some b=>exact ItR.keep h (hb b rfl rfl) q
 |fmap es=>
  cases s with
  |none=>exact q
  |some b=>
   obtain⟨h0,l,c,h1,h2,h3⟩:=q
   exact⟨h.sub b h0,l,c,by rw[h.keep b h0];exact h1,h2.mono h.nil,h3⟩
end Go.Sw
namespace Go.Sw
abbrev Env:=List (Nat×A)
def lk:Env->Nat->A
 |[],_=>.any
 |(d,a)::r,s=>bif Nat.beq s d then a else lk r s
abbrev up(env:Env)(d:Nat)(a:A):Env:=(d,a)::env
inductive AEx where
 |normal|exit (id:Nat)|ret
abbrev Qz:=AEx->Env->Qc->Prop
def Qcf(fr:Nat->Prop)(ds:List Deferred)(w:World):Prop:=ds.Nodup/\ ∀d∈ds,∃D,d={target:=.collected D,args:= #[]}/\fr D/\w.heap[D]?=some (.deferred (some []))
theorem Qcf.keep{fr ro ro':Nat->Prop}{ds:List Deferred}{w w':World}(h:Qcf fr ds w)(k:Qf fr ro w ro' w'):Qcf fr ds w':=by
 refine⟨h.1,fun d hd=>?_⟩
 obtain⟨D,h1,h2,h3⟩:=h.2 d hd
 exact⟨D,h1,h2,(k.keepFr D h2).trans h3⟩
structure Grow (fr:Nat->Prop) (w:World) (ds:List Deferred) (fr':Nat->Prop) (ds':List Deferred):Prop where
 sub:∀b,fr b->fr' b
 new:∀b,fr' b->fr b\/w.heap.size<=b
 ds:∀d∈ds',d∈ds\/ ∃D,d={target:=.collected D,args:= #[]}/\w.heap.size<=D
theorem Grow.refl(fr:Nat->Prop)(w:World)(ds:List Deferred):Grow fr w ds fr ds:=⟨fun _ h=>h,fun _ h=>.inl h,fun _ h=>.inl h⟩
theorem Grow.trans{fr fr1 fr2:Nat->Prop}{w w1:World}{ds ds1 ds2:List Deferred}(h:Grow fr w ds fr1 ds1)(hs:w.heap.size<=w1.heap.size)(k:Grow fr1 w1 ds1 fr2 ds2):Grow fr w ds fr2 ds2:=by
 refine⟨fun b q=>k.sub b (h.sub b q),fun b q=>?_,fun d q=>?_⟩
 ·rcases k.new b q with q|q
  ·exact h.new b q
  ·exact .inr (Nat.le_trans hs q)
 ·rcases k.ds d q with q|⟨D,q1,q2⟩
  ·exact h.ds d q
  ·exact .inr ⟨D,q1,Nat.le_trans hs q2⟩
theorem Qf.frMono{fr fr' ro ro':Nat->Prop}{w w':World}(h:Qf fr' ro w ro' w')(s:∀b,fr b->fr' b):Qf fr ro w ro' w':=
 ⟨h.sub,h.keepRo,fun b q=>h.keepFr b (s b q),h.size,h.shape,h.os,h.tape,h.output,h.drawn⟩
theorem Sim.frMono{fr fr' ro:Nat->Prop}{σ:Sig}{H:Qc}{w:World}(h:Sim fr' ro σ H w)(s:∀b,fr b->fr' b):Sim fr ro σ H w:=
 ⟨h.len,h.roOk,fun b q=>h.frLt b (s b q),fun b q r=>h.roFr b q (s b r),fun i b x q1 q2 q3=>let⟨a,b',c⟩:=h.own i b x q1 q2 q3;⟨a,b',fun q=>c (s b q)⟩,h.inj,h.blk,fun i b x c q1 q2 q3=>let k:=h.hid i b x c q1 q2 q3;⟨k.lt,k.ro,fun q=>k.fr (s c q),k.ne,k.one⟩⟩
structure Rel (fr ro:Nat->Prop) (σ:Sig) (H:Qc) (env:Env) (N:Nat) (a:Act) (w:World):Prop where
 sim:Sim fr ro σ H w
 env:∀s,VR ro σ w (lk env s) (a.tmps.getD s undef)
 size:a.tmps.size=N
 defers:Qcf fr a.defers w
def QcN(rd:Option Nat)(fr:Nat->Prop)(w:World):Prop:=∀l,rd=some l->fr l/\ ∃r,w.heap[l]?=some (.loop r)
theorem Qbu{fr:Nat->Prop}{w:World}:QcN none fr w:=fun l e=>by cases e
theorem QcN.to{rd:Option Nat}{fr fr' ro ro':Nat->Prop}{w w':World}(h:QcN rd fr w)(k:Qf fr ro w ro' w')(s:∀b,fr b->fr' b):QcN rd fr' w':=fun l e=>by
 obtain⟨h1,r,h2⟩:=h l e
 exact⟨s l h1,r,(k.keepFr l h1).trans h2⟩
def ExR:Exit->AEx->Prop
 |.normal,x=>x=.normal
 |.exit id,x=>x=.exit id
 |.ret,x=>x=.ret
 |_,_=>False
def QaV(h0:Nat)(fr ro:Nat->Prop)(σ:Sig)(w:World)(N:Nat)(ds:List Deferred)(Q:Qz):Exit->Act->World->Prop:=
 fun e a' w'=>∃x env' H' ro' σ' fr',ExR e x/\Q x env' H'/\Rel fr' ro' σ' H' env' N a' w'/\Qf fr ro w ro' w'/\σ'.take h0=σ.take h0/\Grow fr w ds fr' a'.defers
theorem QaV.grow{h0:Nat}{fr fr1 ro ro1:Nat->Prop}{σ σ1:Sig}{w w1:World}{N:Nat}{ds ds1:List Deferred}{Q:Qz}{e:Exit}{a':Act}{w':World}
  (h:QaV h0 fr1 ro1 σ1 w1 N ds1 Q e a' w')(he:Qf fr ro w ro1 w1)(hs:σ1.take h0=σ.take h0)(hg:Grow fr w ds fr1 ds1):QaV h0 fr ro σ w N ds Q e a' w':=by
 obtain⟨x,env',H',ro',σ',fr',h1,h2,h3,h4,h5,h6⟩:=h
 exact⟨x,env',H',ro',σ',fr',h1,h2,h3,he.trans (h4.frMono hg.sub),h5.trans hs,hg.trans he.size h6⟩
theorem QaV.step{h0:Nat}{fr ro ro1:Nat->Prop}{σ σ1:Sig}{w w1:World}{N:Nat}{ds:List Deferred}{Q:Qz}{e:Exit}{a':Act}{w':World}
  (h:QaV h0 fr ro1 σ1 w1 N ds Q e a' w')(he:Qf fr ro w ro1 w1)(hs:σ1.take h0=σ.take h0):QaV h0 fr ro σ w N ds Q e a' w':=h.grow he hs (Grow.refl _ _ _)
theorem QaV.mono{h0:Nat}{fr ro:Nat->Prop}{σ:Sig}{w:World}{N:Nat}{ds:List Deferred}{Q Q':Qz}{e:Exit}{a':Act}{w':World}
  (h:QaV h0 fr ro σ w N ds Q e a' w')(hq:∀x env H,Q x env H->Q' x env H):QaV h0 fr ro σ w N ds Q' e a' w':=by
 obtain⟨x,env',H',ro',σ',fr',h1,h2,h3⟩:=h
 exact⟨x,env',H',ro',σ',fr',h1,hq _ _ _ h2,h3⟩
def Qbo(h0:Nat)(fr ro:Nat->Prop)(σ:Sig)(w:World)(N:Nat)(ds:List Deferred)(Q:Qz):Exit->Act->World->Prop:=
 fun e a' w'=>∃x env' H' ro' σ' fr',ExR e x/\Q x env' H'/\Rel fr' ro' σ' H' env' N a' w'/\Qf fr ro w ro' w'/\σ'.take h0=σ.take h0/\a'.defers=ds/\Grow fr w ds fr' ds
theorem Qbo.grow{h0:Nat}{fr fr1 ro ro1:Nat->Prop}{σ σ1:Sig}{w w1:World}{N:Nat}{ds:List Deferred}{Q:Qz}{e:Exit}{a':Act}{w':World}
  (h:Qbo h0 fr1 ro1 σ1 w1 N ds Q e a' w')(he:Qf fr ro w ro1 w1)(hs:σ1.take h0=σ.take h0)(hg:Grow fr w ds fr1 ds):Qbo h0 fr ro σ w N ds Q e a' w':=by
 obtain⟨x,env',H',ro',σ',fr',h1,h2,h3,h4,h5,h6,h7⟩:=h
 exact⟨x,env',H',ro',σ',fr',h1,h2,h3,he.trans (h4.frMono hg.sub),h5.trans hs,h6,hg.trans he.size h7⟩
theorem Qbo.step{h0:Nat}{fr ro ro1:Nat->Prop}{σ σ1:Sig}{w w1:World}{N:Nat}{ds:List Deferred}{Q:Qz}{e:Exit}{a':Act}{w':World}
  (h:Qbo h0 fr ro1 σ1 w1 N ds Q e a' w')(he:Qf fr ro w ro1 w1)(hs:σ1.take h0=σ.take h0):Qbo h0 fr ro σ w N ds Q e a' w':=h.grow he hs (Grow.refl _ _ _)
theorem Qbo.mono{h0:Nat}{fr ro:Nat->Prop}{σ:Sig}{w:World}{N:Nat}{ds:List Deferred}{Q Q':Qz}{e:Exit}{a':Act}{w':World}
  (h:Qbo h0 fr ro σ w N ds Q e a' w')(hq:∀x env H,Q x env H->Q' x env H):Qbo h0 fr ro σ w N ds Q' e a' w':=by
 obtain⟨x,env',H',ro',σ',fr',h1,h2,h3⟩:=h
 exact⟨x,env',H',ro',σ',fr',h1,hq _ _ _ h2,h3⟩
theorem Qbo.postW{h0:Nat}{fr ro:Nat->Prop}{σ:Sig}{w:World}{N:Nat}{ds:List Deferred}{Q:Qz}{e:Exit}{a':Act}{w':World}
  (h:Qbo h0 fr ro σ w N ds Q e a' w'):QaV h0 fr ro σ w N ds Q e a' w':=by
 obtain⟨x,env',H',ro',σ',fr',h1,h2,h3,h4,h5,h6,h7⟩:=h
 exact⟨x,env',H',ro',σ',fr',h1,h2,h3,h4,h5,by rw[h6];exact h7⟩
def WF(rd:Option Nat):Fence:={Fence.wide with round:=rd}
theorem WF.calls{rd:Option Nat}{P:Program}{f:FuncId}{args:Array Value}{w:World}{R:Ending->World->Prop}:CallsIn (WF rd) 0 P f args w R↔Calls P f args w R:=callsIn_wide
abbrev wpL(P:Program)(rd:Option Nat)(ops:Array Oper)(Q:Exit->Act->World->Prop):List Oper->Act->World->Prop:=wpListIn (WF rd) 0 P ops Q
def TC(P:Program)(h0 N:Nat)(c:Code)(env:Env)(H:Qc)(Q:Qz):Prop:=
 ∀rd fr ro σ a w,Rel fr ro σ H env N a w->QcN rd fr w->c.wpIn (WF rd) 0 P (QaV h0 fr ro σ w N a.defers Q) a w
def WO(P:Program)(h0 N:Nat)(all:Array Oper)(l:List Oper)(env:Env)(H:Qc)(Q:Qz):Prop:=
 ∀rd fr ro σ a w,Rel fr ro σ H env N a w->QcN rd fr w->wpL P rd all (Qbo h0 fr ro σ w N a.defers Q) l a w
def Le(h0:Nat)(env:Env)(H:Qc)(env':Env)(H':Qc):Prop:=
 ∀fr ro σ N a w,Rel fr ro σ H env N a w->∃ro' σ',Rel fr ro' σ' H' env' N a w/\(∀b,ro b->ro' b)/\σ'.take h0=σ.take h0
theorem Le.refl(h0:Nat)(env:Env)(H:Qc):Le h0 env H env H:=fun fr ro σ N a w h=>⟨ro,σ,h,fun _ q=>q,rfl⟩
theorem Le.trans{h0:Nat}{e1 e2 e3:Env}{H1 H2 H3:Qc}(h:Le h0 e1 H1 e2 H2)(k:Le h0 e2 H2 e3 H3):Le h0 e1 H1 e3 H3:=by
 intro fr ro σ N a w r
 obtain⟨ro1,σ1,r1,s1,t1⟩:=h fr ro σ N a w r
 obtain⟨ro2,σ2,r2,s2,t2⟩:=k fr ro1 σ1 N a w r1
 exact⟨ro2,σ2,r2,fun b q=>s2 _ (s1 _ q),t2.trans t1⟩
theorem Ya{fr ro ro':Nat->Prop}{w:World}(h:∀b,ro b->ro' b):Qf fr ro w ro' w:=
 ⟨h,fun _ _=>rfl,fun _ _=>rfl,Nat.le_refl _,fun _ _ h=>h,rfl,rfl,rfl,Nat.le_refl _⟩
theorem Yd{P:Program}{rd:Option Nat}{ops:Array Oper}{Q Q':Exit->Act->World->Prop}(hq:∀e a w,Q e a w->Q' e a w):
  ∀(l:List Oper) (a:Act) (w:World),wpL P rd ops Q l a w->wpL P rd ops Q' l a w
 |[],a,w,h=>hq _ _ _ h
 |o::l,a,w,h=>by
  unfold wpL wpListIn at h⊢
  split
  ·rename_i hw
   rw[if_pos hw]at h
   obtain⟨h1,h2⟩:=h
   refine⟨h1,?_⟩
   revert h2
   generalize(o.semAt (WF rd).round a.eval).run P w=r
   intro h2
   have hk:=fun a w=>Yd (P:=P) (rd:=rd) (ops:=ops) hq l a w
   cases r with
   |ok x w=>
    cases x with
    |value v=>exact hk _ _ h2
    |skip=>exact hk _ _ h2
    |defer d=>exact hk _ _ h2
    |enter f args=>
     refine⟨h2.1,CallsIn.mono h2.2 ?_⟩
     intro e w' q
     cases e with
     |returned v=>exact hk _ _ q
     |panicked c=>exact hq _ _ _ q
     |outgrown=>obtain⟨a,w,q⟩:=q;exact⟨a,w,hq _ _ _ q⟩
    |row r args=>exact⟨h2.1,RowsIn.mono h2.2 fun v w' q=>hk _ _ q⟩
    |round l f tmps assign body=>
     refine⟨h2.1,RoundIn.mono h2.2 ?_⟩
     intro e w' q
     cases e with
     |returned v=>exact hk _ _ q
     |panicked c=>exact hq _ _ _ q
     |outgrown=>obtain⟨a,w,q⟩:=q;exact⟨a,w,hq _ _ _ q⟩
    |_=>exact h2
   |halt x w=>
    cases x with
    |panic v=>exact hq _ _ _ h2
    |_=>exact h2
  ·rename_i hw
   rw[if_neg hw]at h
   exact⟨h.1,Yd hq l _ _ h.2⟩
theorem QbW{P:Program}{o:Oper}{a:Act}{w w':World}{x:Next}{rd:Option Nat}(h:(execOp a.eval o).run P w=.ok x w')(hx:∀d,x≠ .defer d):(o.semAt (WF rd).round a.eval).run P w=.ok x w':=by
 cases e:o.op with
 |defer c=>
  exfalso
  have:execOp a.eval o=(do pure (.defer (<- resolve a.eval c o.type))):=by simp[execOp,e]
  rw[this]at h
  simp only[Sem.run_bind]at h
  generalize(resolve a.eval c o.type).run P w=r at h
  cases r with
  |ok d w2=>simp[Result.andThen,go_sem]at h;exact hx _ h.1.symm
  |halt x w2=>simp[Result.andThen]at h
 |_=>rw[Oper.semAt_eq _ _ _ (by rw[e];intro c q;cases q)];exact h
theorem QaN{P:Program}{rd:Option Nat}{ops:Array Oper}{Q:Exit->Act->World->Prop}{o:Oper}{l:List Oper}{a:Act}{w w':World}{v:Value}(hw:Region.wanted o (yielded ops a.tmps)=true)
  (h:(execOp a.eval o).run P w=.ok (.value v) w')(k:wpL P rd ops Q l (a.put o.dst v) w'):wpL P rd ops Q (o::l) a w:=by
 unfold wpL wpListIn
 rw[if_pos hw]
 exact⟨fun _ _=>trivial,by rw[QbW h (fun d e=>by cases e)];exact k⟩
theorem QhR{P:Program}{rd:Option Nat}{ops:Array Oper}{Q:Exit->Act->World->Prop}{o:Oper}{l:List Oper}{a:Act}{w w':World}(hw:Region.wanted o (yielded ops a.tmps)=true)
  (h:(execOp a.eval o).run P w=.ok .skip w')(k:wpL P rd ops Q l (a.put o.dst undef) w'):wpL P rd ops Q (o::l) a w:=by
 unfold wpL wpListIn
 rw[if_pos hw]
 exact⟨fun _ _=>trivial,by rw[QbW h (fun d e=>by cases e)];exact k⟩
theorem QdT{P:Program}{rd:Option Nat}{ops:Array Oper}{Q:Exit->Act->World->Prop}{o:Oper}{l:List Oper}{a:Act}{w w':World}{f:FuncId}{args:Array Value}(hw:Region.wanted o (yielded ops a.tmps)=true)
  (h:(execOp a.eval o).run P w=.ok (.enter f args) w')(k:Calls P f args w' fun e w''=>∃v,e=.returned v/\wpL P rd ops Q l (a.put o.dst v) w''):wpL P rd ops Q (o::l) a w:=by
 unfold wpL wpListIn
 rw[if_pos hw]
 refine⟨fun _ _=>trivial,?_⟩
 rw[QbW h (fun d e=>by cases e)]
 refine⟨fun h=>by simp[WF,Fence.wide]at h,WF.calls.2 (Calls.mono k ?_)⟩
 rintro e w'' ⟨v,rfl,q⟩
 exact q
section
variable {P:Program}{h0 N:Nat}{env env':Env}{H H':Qc}{Q Q':Qz}{c c':Code}
theorem TC.mono(h:TC P h0 N c env H Q)(hq:∀x env H,Q x env H->Q' x env H):TC P h0 N c env H Q':=
 fun rd fr ro σ a w r hrd=>Code.wpIn_mono (fun e a w q=>q.mono hq) (h rd fr ro σ a w r hrd)
theorem TC.le(hle:Le h0 env H env' H')(h:TC P h0 N c env' H' Q):TC P h0 N c env H Q:=by
 intro rd fr ro σ a w r hrd
 obtain⟨ro',σ',r',s,t⟩:=hle fr ro σ N a w r
 exact Code.wpIn_mono (fun e a w q=>q.step (Ya s) t) (h rd fr ro' σ' a w r' hrd)
theorem WO.le{all:Array Oper}{l:List Oper}(hle:Le h0 env H env' H')(h:WO P h0 N all l env' H' Q):WO P h0 N all l env H Q:=by
 intro rd fr ro σ a w r hrd
 obtain⟨ro',σ',r',s,t⟩:=hle fr ro σ N a w r
 exact Yd (fun e a w q=>q.step (Ya s) t) _ _ _ (h rd fr ro' σ' a w r' hrd)
theorem WO.mono{all:Array Oper}{l:List Oper}(h:WO P h0 N all l env H Q)(hq:∀x env H,Q x env H->Q' x env H):WO P h0 N all l env H Q':=
 fun rd fr ro σ a w r hrd=>Yd (fun e a w q=>q.mono hq) _ _ _ (h rd fr ro σ a w r hrd)
def Seq(P:Program)(h0 N:Nat)(c:Code)(Q:Qz):Qz
 |.normal,env,H=>TC P h0 N c env H Q
 |.exit id,env,H=>Q (.exit id) env H
 |.ret,env,H=>Q .ret env H
def Blo(id:Nat)(Q:Qz):Qz
 |.normal,env,H=>Q .normal env H
 |.exit id',env,H=>bif Nat.beq id' id then Q .normal env H else Q (.exit id') env H
 |.ret,env,H=>Q .ret env H
theorem TC.seq(h:TC P h0 N c env H (Seq P h0 N c' Q)):TC P h0 N (.seq c c') env H Q:=by
 intro rd fr ro σ a w r hrd
 refine wpIn_seq (Code.wpIn_mono ?_ (h rd fr ro σ a w r hrd))
 rintro e a' w' ⟨x,env',H',ro',σ',fr',h1,h2,h3,h4,h5,h6⟩
 cases e with
 |normal=>
  obtain rfl:x=.normal:=h1
  exact Code.wpIn_mono (fun e a w q=>q.grow h4 h5 h6) (h2 rd fr' ro' σ' a' w' h3 (hrd.to h4 h6.sub))
 |exit id=>
  obtain rfl:x=.exit id:=h1
  exact⟨_,env',H',ro',σ',fr',rfl,h2,h3,h4,h5,h6⟩
 |ret=>
  obtain rfl:x=.ret:=h1
  exact⟨_,env',H',ro',σ',fr',rfl,h2,h3,h4,h5,h6⟩
 |_=>exact h1.elim
theorem TC.skip(h:Q .normal env H):TC P h0 N .skip env H Q:=
 fun rd fr ro σ a w r hrd=>wpIn_skip ⟨_,env,H,ro,σ,fr,rfl,h,r,Qf.refl _ _ _,rfl,Grow.refl _ _ _⟩
theorem TC.ret(h:Q .ret env H):TC P h0 N .ret env H Q:=
 fun rd fr ro σ a w r hrd=>wpIn_ret ⟨_,env,H,ro,σ,fr,rfl,h,r,Qf.refl _ _ _,rfl,Grow.refl _ _ _⟩
theorem TC.exit{id:Nat}(h:Q (.exit id) env H):TC P h0 N (.exit id) env H Q:=
 fun rd fr ro σ a w r hrd=>wpIn_exit ⟨_,env,H,ro,σ,fr,rfl,h,r,Qf.refl _ _ _,rfl,Grow.refl _ _ _⟩
theorem TC.block{id:Nat}(h:TC P h0 N c env H (Blo id Q)):TC P h0 N (.block id c) env H Q:=by
 intro rd fr ro σ a w r hrd
 refine wpIn_block (Code.wpIn_mono ?_ (h rd fr ro σ a w r hrd))
 rintro e a' w' ⟨x,env',H',ro',σ',fr',h1,h2,h3,h4,h5,h6⟩
 cases e with
 |normal=>
  obtain rfl:x=.normal:=h1
  exact⟨_,env',H',ro',σ',fr',rfl,h2,h3,h4,h5,h6⟩
 |exit id'=>
  obtain rfl:x=.exit id':=h1
  simp only[Exit.inBlock]
  simp only[Blo]at h2
  by_cases e:id'=id
  ·subst e
   rw[if_pos rfl]
   rw[Nat.beq_refl]at h2
   exact⟨_,env',H',ro',σ',fr',rfl,h2,h3,h4,h5,h6⟩
  ·rw[if_neg e]
   have:Nat.beq id' id=false:=by
    rw[Bool.eq_false_iff];intro q;exact e (Nat.eq_of_beq_eq_true q)
   rw[this]at h2
   exact⟨_,env',H',ro',σ',fr',rfl,h2,h3,h4,h5,h6⟩
 |ret=>
  obtain rfl:x=.ret:=h1
  exact⟨_,env',H',ro',σ',fr',rfl,h2,h3,h4,h5,h6⟩
 |_=>exact h1.elim
def opA(env:Env):Operand->A
 |.tmp t=>lk env t
 |.const (.bool b)=>.bool b
 |.const (.int k n)=>.int k n
 |.const (.string s)=>.str s.data.toList
 |.const (.pointer none)=>.nilp
 |.const (.slice none 0 0)=>.nils
 |.const (.map none)=>.nilm
 |.const .nilFunc=>.nilf
 |.const .nilIface=>.nilif
 |.func f=>.fn (.func f) [] []
 |_=>.any
theorem Qg{fr ro:Nat->Prop}{σ:Sig}{a:Act}{w:World}(r:Rel fr ro σ H env N a w)(x:Operand):VR ro σ w (opA env x) (a.eval x):=by
 cases x with
 |tmp t=>exact r.env t
 |const v=>
  cases v with
  |slice a n k=>
   cases a with
   |none=>
    cases n with
    |zero=>cases k with
     |zero=>rfl
     |succ k=>trivial
    |succ n=>trivial
   |some a=>trivial
  |pointer p=>cases p with
   |none=>rfl
   |some p=>trivial
  |map p=>cases p with
   |none=>rfl
   |some p=>trivial
  |string s=>simp[opA,VR,Act.eval]
  |_=>first|trivial|rfl|simp[opA,VR,Act.eval]
 |global g=>trivial
 |func f=>exact⟨[],[],rfl,rfl,rfl⟩
theorem TC.cond{x:Operand}{t:Bool}(hx:opA env x=.bool t)(ht:t=true->TC P h0 N c env H Q)(hf:t=false->TC P h0 N c' env H Q):
  TC P h0 N (.cond x c c') env H Q:=by
 intro rd fr ro σ a w r hrd
 have hv:=Qg r x
 rw[hx]at hv
 exact wpIn_cond_split hv (fun e=>ht e rd fr ro σ a w r hrd) (fun e=>hf e rd fr ro σ a w r hrd)
theorem Qiv{t:Array Value}{d s:Nat}{v:Value}(hd:d<t.size):(t.setIfInBounds d v).getD s undef=if s=d then v else t.getD s undef:=by
 simp only[Array.getD_eq_getD_getElem?,Array.getElem?_setIfInBounds]
 by_cases e:s=d
 ·subst e;simp[hd]
 ·rw[if_neg (fun q=>e q.symm),if_neg e]
theorem VR.up{fr ro:Nat->Prop}{σ:Sig}{a:Act}{w:World}(r:∀s,VR ro σ w (lk env s) (a.tmps.getD s undef)){d:Nat}(hd:d<a.tmps.size){x:A}{v:Value}(hv:VR ro σ w x v):
  ∀s,VR ro σ w (lk (up env d x) s) ((a.tmps.setIfInBounds d v).getD s undef):=by
 intro s
 rw[Qiv hd]
 simp only[up,lk]
 by_cases e:s=d
 ·subst e;rw[Nat.beq_refl,if_pos rfl];exact hv
 ·have:Nat.beq s d=false:=by
   rw[Bool.eq_false_iff];intro q;exact e (Nat.eq_of_beq_eq_true q)
  rw[this,if_neg e];exact r s
def Qq(all:Array Oper)(o:Oper)(env:Env)(b:Bool):Prop:=
 match o.guard with
 |none=>b=true
 |some (j,c)=>∃d,(all[j]?).bind (·.dst)=some d/\((∃x,lk env d=.bool x/\b=(x==c))\/(lk env d=.tup []/\b=false))
theorem YQ{all:Array Oper}{o:Oper}{b:Bool}(h:Qq all o env b){fr ro:Nat->Prop}{σ:Sig}{a:Act}{w:World}(r:Rel fr ro σ H env N a w):
  Region.wanted o (yielded all a.tmps)=b:=by
 unfold Qq at h
 unfold Region.wanted
 cases hg:o.guard with
 |none=>rw[hg]at h;exact h.symm
 |some g=>
  obtain⟨j,c⟩:=g
  rw[hg]at h
  obtain⟨d,h1,⟨x,h2,h3⟩|⟨h2,h3⟩⟩:=h
  ·have hv:=r.env d
   rw[h2]at hv
   simp only[VR]at hv
   have hd:a.tmps[d]?=some (.bool x):=by
    rw[Array.getD_eq_getD_getElem?]at hv
    cases e:a.tmps[d]? with
    |none=>rw[e]at hv;simp[undef]at hv
    |some y=>rw[e]at hv;simp at hv;rw[hv]
   simp only[yielded,h1,Option.bind_some,hd,h3]
   cases x<;>cases c<;>rfl
  ·have hv:=r.env d
   rw[h2]at hv
   obtain⟨l,hv,hl⟩:=hv
   rw[Array.getD_eq_getD_getElem?]at hv
   subst h3
   simp only[yielded,h1,Option.bind_some]
   cases e:a.tmps[d]? with
   |none=>cases c<;>rfl
   |some y=>rw[e]at hv;simp at hv;subst hv;cases c<;>rfl
def OpV(P:Program)(o:Oper)(env:Env)(H:Qc)(x:A):Prop:=
 ∀fr ro σ N a w,Rel fr ro σ H env N a w->∃v,(execOp a.eval o).run P w=.ok (.value v) w/\VR ro σ w x v
def OpH(P:Program)(o:Oper)(env:Env)(H:Qc)(x:A)(H':Qc):Prop:=
 ∀fr ro σ N a w,Rel fr ro σ H env N a w->∃v w' ro' τ,(execOp a.eval o).run P w=.ok (.value v) w'/\VR ro' (σ++τ) w' x v/\
  Sim fr ro' (σ++τ) H' w'/\Qf fr ro w ro' w'
def OpU(P:Program)(o:Oper)(env:Env)(H:Qc)(H':Qc):Prop:=
 ∀fr ro σ N a w,Rel fr ro σ H env N a w->∃w' ro' τ,(execOp a.eval o).run P w=.ok .skip w'/\
  Sim fr ro' (σ++τ) H' w'/\Qf fr ro w ro' w'
theorem WO.nil{all:Array Oper}(h:Q .normal env H):WO P h0 N all [] env H Q:=
 fun rd fr ro σ a w r hrd=>⟨_,env,H,ro,σ,fr,rfl,h,r,Qf.refl _ _ _,rfl,rfl,Grow.refl _ _ _⟩
theorem QK{σ τ:Sig}{h0:Nat}(h:h0<=σ.length):(σ++τ).take h0=σ.take h0:=by
 rw[List.take_append_of_le_length h]
theorem QbQ{all:Array Oper}{o:Oper}{l:List Oper}{d:Nat}{x:A}(hh:h0<=H.length)(hg:Qq all o env true)(hd:o.dst=some d)(hN:Nat.blt d N=true)
  (hop:OpH P o env H x H')(k:WO P h0 N all l (up env d x) H' Q):WO P h0 N all (o::l) env H Q:=by
 intro rd fr ro σ a w r hrd
 obtain⟨v,w',ro',τ,h1,h2,h3,h4⟩:=hop fr ro σ N a w r
 refine QaN (YQ hg r) h1 ?_
 simp only[hd,Act.put]
 have hdN:d<N:=by simpa using hN
 have r':Rel fr ro' (σ++τ) H' (up env d x) N {a with tmps:=a.tmps.setIfInBounds d v} w':=
  ⟨h3,VR.up (fr:=fr) (fun s=>(r.env s).mono (h4.ext σ τ)) (by rw[r.size];exact hdN) h2,by simpa using r.size,r.defers.keep h4⟩
 refine Yd (fun e a w q=>q.step h4 (QK ?_)) _ _ _ (k rd fr ro' (σ++τ) _ w' r' (hrd.to h4 fun _ q=>q))
 rw[r.sim.len];exact hh
theorem Qy{all:Array Oper}{o:Oper}{l:List Oper}{d:Nat}{x:A}(hg:Qq all o env true)(hd:o.dst=some d)(hN:Nat.blt d N=true)
  (hop:OpV P o env H x)(k:WO P h0 N all l (up env d x) H Q):WO P h0 N all (o::l) env H Q:=by
 intro rd fr ro σ a w r hrd
 obtain⟨v,h1,h2⟩:=hop fr ro σ N a w r
 refine QaN (YQ hg r) h1 ?_
 simp only[hd,Act.put]
 have hdN:d<N:=by simpa using hN
 exact k rd fr ro σ {a with tmps:=a.tmps.setIfInBounds d v} w ⟨r.sim,VR.up (fr:=fr) r.env (by rw[r.size];exact hdN) h2,by simpa using r.size,r.defers⟩ hrd
theorem Qf7{all:Array Oper}{o:Oper}{l:List Oper}(hh:h0<=H.length)(hg:Qq all o env true)(hd:o.dst=none)
  (hop:OpU P o env H H')(k:WO P h0 N all l env H' Q):WO P h0 N all (o::l) env H Q:=by
 intro rd fr ro σ a w r hrd
 obtain⟨w',ro',τ,h1,h3,h4⟩:=hop fr ro σ N a w r
 refine QhR (YQ hg r) h1 ?_
 simp only[hd,Act.put]
 have r':Rel fr ro' (σ++τ) H' env N a w':=⟨h3,fun s=>(r.env s).mono (h4.ext σ τ),r.size,r.defers.keep h4⟩
 refine Yd (fun e a w q=>q.step h4 (QK ?_)) _ _ _ (k rd fr ro' (σ++τ) _ w' r' (hrd.to h4 fun _ q=>q))
 rw[r.sim.len];exact hh
theorem WO.skip{all:Array Oper}{o:Oper}{l:List Oper}{d:Nat}(hg:Qq all o env false)(hd:o.dst=some d)(hN:Nat.blt d N=true)
  (k:WO P h0 N all l (up env d (.tup [])) H Q):WO P h0 N all (o::l) env H Q:=by
 intro rd fr ro σ a w r hrd
 unfold wpL wpListIn
 rw[YQ hg r,if_neg (by simp)]
 refine⟨fun _ _=>trivial,?_⟩
 simp only[hd,Act.put]
 have hdN:d<N:=by simpa using hN
 exact k rd fr ro σ {a with tmps:=a.tmps.setIfInBounds d undef} w ⟨r.sim,VR.up (fr:=fr) r.env (by rw[r.size];exact hdN) ⟨[],rfl,rfl⟩,by simpa using r.size,r.defers⟩ hrd
theorem TC.region{id:Nat}{l:List Oper}(h:WO P h0 N l.toArray l env H Q):TC P h0 N (.region id l.toArray false) env H Q:=
 fun rd fr ro σ a w r hrd=>Code.wpIn_mono (fun e a w q=>q.postW) (wpIn_region_lit (h rd fr ro σ a w r hrd))
end
end Go.Sw
namespace Go.Sw
mutual
def Yl(ρ:Nat->Nat):A->A
 |.ptr i off=>.ptr (ρ i) off
 |.osl i o n k=>.osl (ρ i) o n k
 |.agg cs=>.agg (Qaa ρ cs)
 |.fn f a c=>.fn f (Qaa ρ a) (Qaa ρ c)
 |.iface t v=>.iface t (Yl ρ v)
 |.map i=>.map (ρ i)
 |.tup vs=>.tup (Qaa ρ vs)
 |a=>a
def Qaa(ρ:Nat->Nat):List A->List A
 |[]=>[]
 |a::r=>Yl ρ a::Qaa ρ r
end
def Qev(ρ:Nat->Nat):List (List A)->List (List A)
 |[]=>[]
 |a::r=>Qaa ρ a::Qev ρ r
def QN(ρ:Nat->Nat):Blk->Blk
 |.cells t cs=>.cells t (Qaa ρ cs)
 |.rowr t k es=>.rowr t k (Qev ρ es)
 |.ents t b1 b2 es=>.ents t (ρ b1) (ρ b2) es
 |b=>b
theorem Qd0(ρ:Nat->Nat)(b1 b2:Nat):∀(es:List Ent),Qev ρ (es.map (eC b1 b2))=es.map (eC (ρ b1) (ρ b2))
 |[]=>rfl
 |e::es=>by
  have:=Qd0 ρ b1 b2 es
  simp only[List.map_cons,Qev,this]
  congr 1
  cases h:e.fl<;>simp[eC,Qaa,Yl,h]
theorem QB(ρ:Nat->Nat)(x:Blk):(QN ρ x).live=x.live:=by cases x<;>rfl
theorem Qak(ρ:Nat->Nat)(x:Blk)(w:World)(b c:Nat):Hid w (QN ρ x) b c↔Hid w x b c:=by cases x<;>exact Iff.rfl
section
variable {ro:Nat->Prop}{σ σ':Sig}{w:World}{ρ:Nat->Nat} (h:∀i:Nat,σ[ρ i]?=σ'[i]?)
include h
mutual
theorem QeN:∀{a:A}{v:Value},VR ro σ w (Yl ρ a) v↔VR ro σ' w a v
 |.any,_=>by simp only[Yl,VR]
 |.bool b,v=>by simp only[Yl,VR]
 |.int k n,v=>by simp only[Yl,VR]
 |.str s,v=>by simp only[Yl,VR]
 |.nilp,v=>by simp only[Yl,VR]
 |.ptr i off,v=>by simp only[Yl,VR,h]
 |.rp cs,v=>by simp only[Yl,VR]
 |.nils,v=>by simp only[Yl,VR]
 |.rsl k es,v=>by simp only[Yl,VR]
 |.osl i o n k,v=>by simp only[Yl,VR,h]
 |.agg cs,v=>by simp only[Yl,VR];exact exists_congr fun l=>and_congr_right fun _=>Qa5
 |.fn f a c,v=>by simp only[Yl,VR];exact exists_congr fun l=>exists_congr fun l'=>and_congr_right fun _=>and_congr Qa5 Qa5
 |.nilf,v=>by simp only[Yl,VR]
 |.iface t a,v=>by simp only[Yl,VR];exact exists_congr fun l=>and_congr_right fun _=>QeN
 |.nilif,v=>by simp only[Yl,VR]
 |.map i,v=>by simp only[Yl,VR,h]
 |.nilm,v=>by simp only[Yl,VR]
 |.tup vs,v=>by simp only[Yl,VR];exact exists_congr fun l=>and_congr_right fun _=>Qa5
theorem Qa5:∀{az:List A}{l:List Value},LR ro σ w (Qaa ρ az) l↔LR ro σ' w az l
 |[],l=>by simp only[Qaa,LR]
 |a::r,l=>by
  simp only[Qaa,LR]
  exact exists_congr fun v=>exists_congr fun l'=>and_congr_right fun _=>and_congr QeN Qa5
end
theorem Qcz:∀(cs:List A),(Qaa ρ cs).length=cs.length
 |[]=>rfl
 |a::r=>by simp[Qaa,Qcz r]
theorem Qgd{k:Nat}:∀{es:List (List A)}{l:List Value},RL ro σ w k (Qev ρ es) l↔RL ro σ' w k es l
 |[],l=>by simp only[Qev,RL]
 |a::r,l=>by
  simp only[Qev,RL,Qcz h]
  exact exists_congr fun l1=>exists_congr fun l2=>and_congr_right fun _=>and_congr_right fun _=>and_congr (and_congr_left fun _=>Qa5 h) Qgd
theorem Qe0{x:Blk}{s:Option Nat}:BR ro σ w (QN ρ x) s↔BR ro σ' w x s:=by
 cases x with
 |cells t cs=>
  cases s with
  |none=>exact Iff.rfl
  |some b=>simp only[QN,BR];exact exists_congr fun l=>and_congr_right fun _=>and_congr_left fun _=>Qa5 h
 |rowr t k es=>
  cases s with
  |none=>exact Iff.rfl
  |some b=>simp only[QN,BR];exact exists_congr fun l=>and_congr_right fun _=>Qgd h
 |ents t b1 b2 es=>
  cases s with
  |none=>exact Iff.rfl
  |some b=>
   simp only[QN,BR]
   refine exists_congr fun l=>and_congr_right fun _=>?_
   rw[<- Qd0]
   exact Qgd h
 |_=>cases s<;>exact Iff.rfl
end
def C(P:Program)(f:FuncId)(args:List A)(H:Qc)(Q:A->Qc->Prop):Prop:=
 ∀fr ro σ vals w,Sim fr ro σ H w->LR ro σ w args vals->Calls P f vals.toArray w fun e w'=>
  ∃v r H' ro' τ,e=.returned v/\Q r H'/\Sim fr ro' (σ++τ) H' w'/\VR ro' (σ++τ) w' r v/\Qf fr ro w ro' w'
theorem C.mono{P:Program}{f:FuncId}{args:List A}{H:Qc}{Q Q':A->Qc->Prop}(h:C P f args H Q)(hq:∀r H,Q r H->Q' r H):C P f args H Q':=
 fun fr ro σ vals w s l=>(h fr ro σ vals w s l).mono fun e w' ⟨v,r,H',ro',τ,h1,h2,h3⟩=>⟨v,r,H',ro',τ,h1,hq _ _ h2,h3⟩
def Qec:Nat->List A->Env
 |_,[]=>[]
 |i,a::r=>(i,a)::Qec (i+1) r
theorem Qdg{ro:Nat->Prop}{σ:Sig}{w:World}:∀{args:List A}{vals:List Value}{i:Nat} (pre:List Value),pre.length=i->LR ro σ w args vals->∀rest:Array Value,
  ∀s,VR ro σ w (lk (Qec i args) s) (((pre++vals).toArray++rest).getD s undef)
 |[],vals,i,pre,hp,hl,rest,s=>trivial
 |a::r,vals,i,pre,hp,hl,rest,s=>by
  simp only[LR]at hl
  obtain⟨v,l',rfl,h1,h2⟩:=hl
  simp only[Qec,lk]
  by_cases e:s=i
  ·subst e
   rw[Nat.beq_refl]
   have:((pre++v::l').toArray++rest).getD s undef=v:=by
    subst hp
    simp[Array.getD_eq_getD_getElem?,Array.getElem?_append]
   rw[this];exact h1
  ·have:Nat.beq s i=false:=by
    rw[Bool.eq_false_iff];intro q;exact e (Nat.eq_of_beq_eq_true q)
   rw[this]
   have:=Qdg (i:=i+1) (pre++[v]) (by simp[hp]) h2 rest s
   simpa using this
def Qcb(P:Program)(fn:Func)(env:Env)(H:Qc)(r:A):Prop:=
 ∀fr ro σ N a w,Rel fr ro σ H env N a w->∃v,(results fn a.tmps).run P w=.ok v w/\VR ro σ w r v
def Qca(P:Program)(h0:Nat)(fn:Func)(Q:A->Qc->Prop):Qz
 |.normal,env,H=>∃env' H' r,Le h0 env H env' H'/\Qcb P fn env' H' r/\Q r H'
 |.ret,env,H=>∃env' H' r,Le h0 env H env' H'/\Qcb P fn env' H' r/\Q r H'
 |.exit _,_,_=>False
theorem LR.length{ro:Nat->Prop}{σ:Sig}{w:World}:∀{az:List A}{l:List Value},LR ro σ w az l->l.length=az.length
 |[],l,h=>by simp only[LR]at h;simp[h]
 |a::r,l,h=>by
  simp only[LR]at h
  obtain⟨v,l',rfl,_,h2⟩:=h
  simp[h2.length]
theorem Sim.turn{fr ro:Nat->Prop}{σ:Sig}{H:Qc}{w:World}(s:Sim fr ro σ H w){b:Nat}{obj:Obj}(hro:¬ro b)(hfr:¬fr b)(ho:∀(i:Nat) (x:Blk),σ[i]?=some (some b)->H[i]?=some x->x.live=true->False)
  (hhid:∀(i d:Nat) (x:Blk),σ[i]?=some (some d)->H[i]?=some x->Hid w x d b->False)
  (hsh:∀y,w.shape? b=some y->(w.putObj b obj).shape? b=some y):Sim fr ro σ H (w.putObj b obj)/\Qf fr ro w ro (w.putObj b obj):=by
 have hne:∀c,c≠b->(w.putObj b obj).heap[c]?=w.heap[c]? :=fun c hc=>World.putObj_heap_other hc
 have hsz:(w.putObj b obj).heap.size=w.heap.size:=by simp
 have ev:Qf fr ro w ro (w.putObj b obj):=by
  refine⟨fun _ q=>q,fun c q=>hne c (fun e=>hro (e▸q)),fun c q=>hne c (fun e=>hfr (e▸q)),by rw[hsz];exact Nat.le_refl _,fun c x q=>?_,rfl,rfl,rfl,Nat.le_refl _⟩
  by_cases e:c=b
  ·subst e;exact hsh x q
  ·unfold World.shape? at q⊢;rw[hne c e];exact q
 have hext:Ext ro σ w ro σ (w.putObj b obj):=by have:=ev.ext σ [];simpa using this
 refine⟨⟨s.len,s.roOk.to (fun _ q=>q) ev.keepRo (fun c q=>by rw[hsz];exact s.roLt c q),fun c q=>by rw[hsz];exact s.frLt c q,s.roFr,fun i c x q1 q2 q3=>?_,s.inj,fun i y x q1 q2=>?_,
  s.hidTo (· = ·) QP (by rw[hsz];exact Nat.le_refl _) (fun _ _ _ _ _ _ _ q=>q) (fun _ _ _ _ _ _ _ q=>q) fun j d y g1 g2 g3=>.inl ⟨j,y,rfl,g1,g2,id,fun c q=>s.hidKeep g1 g2 (fun z=>hne d (fun e=>ho j y (e▸g1) g2 z)) ev.keepRo q⟩⟩,ev⟩
 ·obtain⟨p1,p2,p3⟩:=s.own i c x q1 q2 q3
  exact⟨by rw[hsz];exact p1,p2,p3⟩
 ·refine(s.blk i y x q1 q2).keep hext ?_ ?_
  ·rintro c rfl hl
   exact hne c (fun e=>ho i x (e▸q1) q2 hl)
  ·rintro d c rfl q
   exact hne c (fun e=>hhid i d x q1 q2 (e▸q))
theorem QaZ{P:Program}{fn:Func}{tmps:Array Value}{R:Ending->World->Prop}{fr ro:Nat->Prop}{σ:Sig}{H:Qc}:
  ∀(ds:List Deferred) (w:World),ds.Nodup->(∀d∈ds,∃D,d={target:=.collected D,args:= #[]}/\ ¬ro D/\ ¬fr D/\(∀(i:Nat) (x:Blk),σ[i]?=some (some D)->H[i]?=some x->x.live=true->False)/\(∀(i d:Nat) (x:Blk),σ[i]?=some (some d)->H[i]?=some x->Hid w x d D->False)/\w.heap[D]?=some (.deferred (some [])))->
  Sim fr ro σ H w->(∀w',Sim fr ro σ H w'->Qf fr ro w ro w'->∃v,(results fn tmps).run P w'=.ok v w'/\R (.returned v) w')->LeavesInM Fence.wide 0 P fn tmps R ds .returning w
 |[],w,_,_,s,hk=>by
  obtain⟨v,h1,h2⟩:=hk w s (Qf.refl _ _ _)
  exact⟨v,h1,h2⟩
 |d::ds,w,hn,hd,s,hk=>by
  obtain⟨D,rfl,h1,h2,h3,h5,h4⟩:=hd d (by simp)
  obtain⟨n1,n2⟩:=List.nodup_cons.1 hn
  obtain⟨s',ev⟩:=s.turn (obj:=.deferred none) h1 h2 h3 h5 (fun y q=>by unfold World.shape? at q;rw[h4]at q;simp at q)
  refine⟨(by intro e;cases e),.inl ⟨D,_,rfl,run_takeDeferred h4,?_⟩⟩
  refine QaZ ds _ n2 (fun d' q=>?_) s' (fun w' q1 q2=>hk w' q1 (ev.trans q2))
  obtain⟨D',rfl,g1,g2,g3,g5,g4⟩:=hd d' (by simp[q])
  refine⟨D',rfl,g1,g2,g3,fun i d x z1 z2 z3=>g5 i d x z1 z2 (s.hidKeep z1 z2 (fun z=>World.putObj_heap_other (fun e:d=D=>h3 i x (e▸z1) z2 z)) (fun b q=>World.putObj_heap_other (fun e:b=D=>h1 (e▸q))) z3),(World.putObj_heap_other (fun e=>?_)).trans g4⟩
  subst e
  exact n1 q
theorem Qa{P:Program}{f:FuncId}{fn:Func}{c:Code}{N:Nat}{args:List A}{H:Qc}{Q:A->Qc->Prop}
  (hf:P.funcs[f]?=some fn)(hb:fn.body=some c)(hN:fn.ntmps=N)(hA:Nat.ble args.length N=true)
  (h:TC P H.length N c (Qec 0 args) H (Qca P H.length fn Q)):C P f args H Q:=by
 intro fr ro σ vals w hs hl
 have hlen:=hl.length
 have hA':args.length<=N:=by simpa using hA
 refine(callsIn_wide (n:=0)).1 (callsIn_of_wp_marks hf hb trivial (Code.wpIn_mono ?_ (h none fr ro σ _ w ⟨hs,?_,?_,List.nodup_nil,fun d hd=>by cases hd⟩ Qbu)))
 ·rintro e a' w' ⟨x,env1,H1,ro1,σ1,fr1,h1,h2,h3,h4,h5,h6⟩
  have key:(∃env' H' r,Le H.length env1 H1 env' H'/\Qcb P fn env' H' r/\Q r H')->LeavesInM Fence.wide 0 P fn a'.tmps (fun e w'=>
    ∃v' r H' ro' τ,e=.returned v'/\Q r H'/\Sim fr ro' (σ++τ) H' w'/\VR ro' (σ++τ) w' r v'/\Qf fr ro w ro' w') a'.defers .returning w':=by
   rintro⟨env',H',r,hle,hr,hq⟩
   obtain⟨ro',σ',h3',hsub,ht⟩:=hle fr1 ro1 σ1 N a' w' h3
   have hσ:σ'=σ++σ'.drop H.length:=by
    have e1:σ'.take H.length=σ:=by rw[ht,h5,List.take_of_length_le (by rw[hs.len];exact Nat.le_refl _)]
    conv=>lhs;rw[<- List.take_append_drop H.length σ',e1]
   have s1:Sim fr ro' σ' H' w':=h3'.sim.frMono h6.sub
   refine QaZ (ro:=ro') (fr:=fr) (σ:=σ') (H:=H') a'.defers w' h3'.defers.1 (fun d hd=>?_) s1 (fun w2 s2 ev2=>?_)
   ·obtain⟨D,rfl,g1,g2⟩:=h3'.defers.2 d hd
    refine⟨D,rfl,fun q=>h3'.sim.roFr D q g1,fun q=>?_,fun i x q1 q2 q3=>(h3'.sim.own i D x q1 q2 q3).2.2 g1,fun i d x q1 q2 q3=>(h3'.sim.hid i d x D q1 q2 q3).fr g1,g2⟩
    rcases h6.ds _ hd with q'|⟨D',e,q'⟩
    ·cases q'
    ·have:D=D':=by simpa using e
     subst this
     have:=hs.frLt D q
     omega
   ·have hr2:Rel fr ro' σ' H' env' N {a' with defers:=[]} w2:=⟨s2,fun s=>(h3'.env s).mono (by have:=ev2.ext σ' [];simpa using this),h3'.size,List.nodup_nil,fun d hd=>by cases hd⟩
    obtain⟨v,e1,e2⟩:=hr fr ro' σ' N _ w2 hr2
    exact⟨v,e1,v,r,H',ro',σ'.drop H.length,rfl,hq,hσ▸s2,hσ▸e2,(h4.trans (Ya hsub)).trans ev2⟩
  cases e with
  |normal=>
   obtain rfl:x=.normal:=h1
   exact key h2
  |ret=>
   obtain rfl:x=.ret:=h1
   exact key h2
  |exit id=>
   obtain rfl:x=.exit id:=h1
   exact h2.elim
  |_=>exact h1.elim
 ·intro s
  have:=Qdg (i:=0) [] rfl hl (Array.replicate (fn.ntmps-vals.toArray.size) undef) s
  simpa using this
 ·simp[hN,hlen];omega
section
variable {P:Program}{fn:Func}{env:Env}{H:Qc}
theorem Qcb.nil(h:fn.results= #[]):Qcb P fn env H (.tup []):=
 fun fr ro σ N a w r=>⟨.tuple #[],by simp[results,h,go_sem],[],rfl,rfl⟩
theorem Qcb.one{t:Nat}{x:A}(h:fn.results= #[.tmp t])(hx:lk env t=x):Qcb P fn env H x:=
 fun fr ro σ N a w r=>⟨a.tmps.getD t undef,by simp[results,h,go_sem],hx▸r.env t⟩
theorem Qht{t u:Nat}{x y:A}(h:fn.results= #[.tmp t,.tmp u])(hx:lk env t=x)(hy:lk env u=y):Qcb P fn env H (.tup [x,y]):=
 fun fr ro σ N a w r=>⟨.tuple #[a.tmps.getD t undef,a.tmps.getD u undef],by simp[results,h,go_sem],
  [_,_],rfl,_,_,rfl,hx▸r.env t,_,_,rfl,hy▸r.env u,rfl⟩
end
inductive Ctl (S B:Type) where
 |cont (s:S)
 |done (b:B)
 deriving DecidableEq
def iter{S B:Type}(step:S->Option (Ctl S B)):Nat->S->Option B
 |0,_=>none
 |n+1,s=>match step s with
  |some (.cont s')=>iter step n s'
  |some (.done b)=>some b
  |none=>none
def QaW{S B:Type}(I:S->Env->Qc->Prop)(d:Ctl S B)(Q:Qz):Qz
 |.normal,env,H=>∃s,d=.cont s/\I s env H
 |.exit id,env,H=>(∃b,d=.done b)/\Q (.exit id) env H
 |.ret,env,H=>(∃b,d=.done b)/\Q .ret env H
theorem Qi6{P:Program}{h0 N:Nat}{c:Code}{S B:Type}{step:S->Option (Ctl S B)}{I:S->Env->Qc->Prop}{Q:Qz}{b0:B}
  (body:∀s d env H,I s env H->step s=some d->(∀b,d=.done b->b=b0)->TC P h0 N c env H (QaW I d Q))
  {m:Nat}{s0:S}(h:iter step m s0=some b0){env:Env}{H:Qc}(hI:I s0 env H):TC P h0 N (.loop c) env H Q:=by
 intro rd fr ro σ a w r hrd b k cs hro hb hr
 have key:∀m s env H fr1 ro1 σ1 a1 w1,iter step m s=some b0->I s env H->Rel fr1 ro1 σ1 H env N a1 w1->Qf fr ro w ro1 w1->σ1.take h0=σ.take h0->Grow fr w a.defers fr1 a1.defers->
   ∃e a' w',QaV h0 fr ro σ w N a.defers Q e a' w'/\ArrivesIn (Machine.fenced P (WF rd)) P (lone (b.atR a1 (.code c::.inLoop c::k)) cs w1) b k cs e a' w':=by
  intro m
  induction m with
  |zero=>intro s env H fr1 ro1 σ1 a1 w1 hit;simp[iter]at hit
  |succ m ih=>
   intro s env H fr1 ro1 σ1 a1 w1 hit hI r1 ev1 t1 g1
   simp only[iter]at hit
   cases hs:step s with
   |none=>rw[hs]at hit;simp at hit
   |some d=>
    rw[hs]at hit
    have hd:∀b,d=.done b->b=b0:=by
     rintro b rfl;simpa using hit
    obtain⟨e,a',w',hq,harr⟩:=body s d env H hI hs hd rd fr1 ro1 σ1 a1 w1 r1 (hrd.to ev1 g1.sub) b (.inLoop c::k) cs hro hb hr
    obtain⟨x,env',H',ro',σ',fr',q1,q2,q3,q4,q5,q6⟩:=hq
    have ev2:=ev1.trans (q4.frMono g1.sub)
    have g2:=g1.trans ev1.size q6
    have hp:∀x,Q x env' H'->ExR e x->QaV h0 fr ro σ w N a.defers Q e a' w':=fun x q q'=>⟨x,env',H',ro',σ',fr',q',q,q3,ev2,q5.trans t1,g2⟩
    cases e with
    |normal=>
     obtain rfl:x=.normal:=q1
     obtain⟨s',rfl,q2⟩:=q2
     obtain⟨e2,a2,w2,hq2,harr2⟩:=ih s' env' H' fr' ro' σ' a' w' hit q2 q3 ev2 (q5.trans t1) g2
     exact⟨e2,a2,w2,hq2,.of_steps (StepsIn.trans harr (.one (fenced_calm hb hr rfl) stepR_inLoop)) harr2⟩
    |exit id=>
     obtain rfl:x=.exit id:=q1
     exact⟨_,a',w',hp _ q2.2 rfl,.pass (x:=.inLoop c) rfl (fun _ _=>.inl (by simp)) harr⟩
    |ret=>
     obtain rfl:x=.ret:=q1
     exact⟨_,a',w',hp _ q2.2 rfl,.pass (x:=.inLoop c) rfl (fun _ _=>.inl (by simp)) harr⟩
    |_=>exact q1.elim
 obtain⟨e,a',w',hq,harr⟩:=key m s0 env H fr ro σ a w h hI r (Qf.refl _ _ _) rfl (Grow.refl _ _ _)
 exact⟨e,a',w',hq,.of_steps (.one (fenced_calm hb hr rfl) stepR_loop) harr⟩
theorem TC.loop{P:Program}{h0 N:Nat}{c:Code}{S B:Type}{step:S->Option (Ctl S B)}(E:S->Env)(Hp:S->Qc){Q:Qz}
  {m:Nat}{s0:S}{b0:B}(h:iter step m s0=some b0){env:Env}{H:Qc}(hI:Le h0 env H (E s0) (Hp s0))
  (body:∀s d,step s=some d->(∀b,d=.done b->b=b0)->TC P h0 N c (E s) (Hp s) (QaW (fun s env H=>Le h0 env H (E s) (Hp s)) d Q)):TC P h0 N (.loop c) env H Q:=
 Qi6 (I:=fun s env H=>Le h0 env H (E s) (Hp s)) (fun s d env H hI hs hd=>TC.le hI (body s d hs hd)) h hI
end Go.Sw
namespace Go.Sw
def rho(π:List Nat)(n i:Nat):Nat:=
 match π[i]? with
 |some p=>p
 |none=>n+(i-π.length)
def Q3:Qc->List Nat->List Blk->Qc
 |H,[],xs=>H++xs
 |H,p::π,x::xs=>Q3 (H.set p x) π xs
 |H,_::_,[]=>H
theorem Qbz:∀(π:List Nat) (H:Qc) (xs:List Blk),π.length<=xs.length->(Q3 H π xs).length=H.length+(xs.length-π.length)
 |[],H,xs,_=>by simp[Q3]
 |p::π,H,[],h=>by simp at h
 |p::π,H,x::xs,h=>by
  simp only[List.length_cons]at h
  simp only[Q3,Qbz π (H.set p x) xs (by omega),List.length_set,List.length_cons]
  omega
theorem QbG:∀(π:List Nat) (H:Qc) (xs:List Blk) (i:Nat),i<H.length->i∉π->(Q3 H π xs)[i]?=H[i]?
 |[],H,xs,i,hi,_=>by simp[Q3,List.getElem?_append_left hi]
 |p::π,H,[],i,hi,h=>by simp[Q3]
 |p::π,H,x::xs,i,hi,h=>by
  simp only[List.mem_cons,not_or]at h
  simp only[Q3]
  rw[QbG π (H.set p x) xs i (by simpa using hi) h.2,List.getElem?_set_ne (fun e=>h.1 e.symm)]
theorem Qc3:∀(π:List Nat) (H:Qc) (xs:List Blk) (j:Nat),π.length<=xs.length->(∀p∈π,p<H.length)->π.Nodup->
  (Q3 H π xs)[rho π H.length j]?=xs[j]?
 |[],H,xs,j,_,_,_=>by
  simp only[Q3,rho,List.getElem?_nil,List.length_nil,Nat.sub_zero]
  rw[List.getElem?_append_right (by omega)]
  congr 1;omega
 |p::π,H,[],j,h,_,_=>by simp at h
 |p::π,H,x::xs,j,h,hp,hn=>by
  simp only[List.length_cons]at h
  have hn':=List.nodup_cons.1 hn
  simp only[Q3]
  cases j with
  |zero=>
   simp only[rho,List.getElem?_cons_zero]
   rw[QbG π _ xs p (by simpa using hp p (by simp)) hn'.1]
   rw[List.getElem?_set_self (hp p (by simp))]
  |succ j=>
   have ih:=Qc3 π (H.set p x) xs j (by omega) (fun q hq=>by simpa using hp q (by simp[hq])) hn'.2
   rw[List.length_set]at ih
   have e:rho (p::π) H.length (j+1)=rho π H.length j:=by
    simp only[rho,List.getElem?_cons_succ,List.length_cons]
    cases π[j]? with
    |none=>simp only[];congr 1;omega
    |some q=>rfl
   rw[e,ih];simp
theorem QgX(π:List Nat)(n i:Nat)(hi:n<=i\/i∈π):∃j,i=rho π n j:=by
 rcases hi with hi|hi
 ·refine⟨π.length+(i-n),?_⟩
  have:π[π.length+(i-n)]?=none:=List.getElem?_eq_none (by omega)
  simp only[rho,this];omega
 ·obtain⟨j,hj,rfl⟩:=List.mem_iff_getElem.1 hi
  exact⟨j,by simp[rho,List.getElem?_eq_getElem hj]⟩
def QW(σ:Sig)(π:List Nat):Sig:=π.map fun p=>(σ[p]?).getD none
theorem QcO{σ τ:Sig}{π:List Nat}{n:Nat}(hn:σ.length=n)(hp:∀p∈π,p<n)(j:Nat):(σ++τ)[rho π n j]?=(QW σ π++τ)[j]? :=by
 rcases Nat.lt_or_ge j π.length with h|h
 ·have hm:π[j]∈π:=List.getElem_mem h
  have hlt:=hp _ hm
  have e:rho π n j=π[j]:=by simp[rho,List.getElem?_eq_getElem h]
  rw[e,List.getElem?_append_left (by omega),List.getElem?_append_left (by simpa[QW]using h)]
  simp[QW,List.getElem?_eq_getElem h,List.getElem?_eq_getElem (show π[j]<σ.length by omega)]
 ·have e:rho π n j=n+(j-π.length):=by
   simp[rho,List.getElem?_eq_none h]
  rw[e,List.getElem?_append_right (by omega),List.getElem?_append_right (by simpa[QW]using h)]
  simp[QW,hn]
def OpC(P:Program)(o:Oper)(env:Env)(H:Qc)(f:FuncId)(args:List A):Prop:=
 ∀fr ro σ N a w,Rel fr ro σ H env N a w->∃vals:List Value,(execOp a.eval o).run P w=.ok (.enter f vals.toArray) w/\LR ro σ w args vals
theorem YJ{π:List Nat}{H:Qc}{Hc:List Blk}(hH:π.map (fun p=>H[p]?)=Hc.map some){p:Nat}(hp:p∈π):p<H.length:=by
 have:H[p]? ∈π.map (fun p=>H[p]?):=List.mem_map_of_mem hp
 rw[hH]at this
 obtain⟨x,_,hx⟩:=List.mem_map.1 this
 rcases Nat.lt_or_ge p H.length with h|h
 ·exact h
 ·rw[List.getElem?_eq_none h]at hx;simp at hx
theorem WO.call{P:Program}{h0 N:Nat}{all:Array Oper}{o:Oper}{l:List Oper}{env:Env}{H:Qc}{Q:Qz}{d:Option Nat}{f:FuncId}
  {args argsc:List A}{Hc:Qc}{Qr:A->Qc->Prop}(π:List Nat)(hh:h0<=H.length)(hg:Qq all o env true)(hd:o.dst=d)(hN:∀x,d=some x->x<N)
  (hop:OpC P o env H f args)(hargs:args=Qaa (rho π H.length) argsc)(hH:π.map (fun p=>H[p]?)=(Hc.map (QN (rho π H.length))).map some)(hπ:π.Nodup)
  (hC:C P f argsc Hc Qr)
  (k:∀r H1,Qr r H1->WO P h0 N all l (match d with|some d=>up env d (Yl (rho π H.length) r)|none=>env) (Q3 H π (H1.map (QN (rho π H.length)))) Q):
  WO P h0 N all (o::l) env H Q:=by
 intro rd fr ro σ a w r hrd
 obtain⟨vals,h1,h2⟩:=hop fr ro σ N a w r
 refine QdT (YQ hg r) h1 ?_
 have hp:∀p∈π,p<H.length:=fun p q=>YJ hH q
 have hσl:=r.sim.len
 have hHc:∀(j p:Nat),π[j]?=some p->H[p]?=(Hc[j]?).map (QN (rho π H.length)):=by
  intro j p hj
  have:=congrArg (fun l=>l[j]?) hH
  simp only[List.getElem?_map,hj,Option.map_some]at this
  cases e:Hc[j]? with
  |none=>rw[e]at this;simp at this
  |some x=>rw[e]at this;simpa using this
 have hlen:π.length=Hc.length:=by simpa using congrArg List.length hH
 have hσc:∀j:Nat,σ[rho π H.length j]?=(QW σ π)[j]? :=by
  intro j
  have:=QcO (τ:=[]) hσl hp j
  simpa using this
 let frc:Nat->Prop:=fun b=>fr b\/(∃i x,σ[i]?=some (some b)/\H[i]?=some x/\x.live=true/\i∉π)\/ ∃i x d,σ[i]?=some (some d)/\H[i]?=some x/\Hid w x d b/\i∉π
 have hπj:∀(j b:Nat),(QW σ π)[j]?=some (some b)->∃p,π[j]?=some p/\σ[p]?=some (some b):=by
  intro j b hj
  simp only[QW,List.getElem?_map]at hj
  cases e:π[j]? with
  |none=>rw[e]at hj;simp at hj
  |some p=>
   rw[e]at hj
   simp at hj
   refine⟨p,rfl,?_⟩
   cases e2:σ[p]? with
   |none=>rw[e2]at hj;simp at hj
   |some s=>rw[e2]at hj;simp at hj;rw[hj]
 have hπi:∀(i j p:Nat),π[i]?=some p->π[j]?=some p->i=j:=by
  intro i j p e1 e1'
  have hi:i<π.length:=by
   rcases Nat.lt_or_ge i π.length with q|q
   ·exact q
   ·rw[List.getElem?_eq_none q]at e1;simp at e1
  have hj:j<π.length:=by
   rcases Nat.lt_or_ge j π.length with q|q
   ·exact q
   ·rw[List.getElem?_eq_none q]at e1';simp at e1'
  rw[List.getElem?_eq_getElem hi]at e1
  rw[List.getElem?_eq_getElem hj]at e1'
  have heq:=(Option.some.inj e1).trans (Option.some.inj e1').symm
  rcases Nat.lt_trichotomy i j with q|q|q
  ·exact(List.pairwise_iff_getElem.1 hπ i j hi hj q heq).elim
  ·exact q
  ·exact(List.pairwise_iff_getElem.1 hπ j i hj hi q heq.symm).elim
 have hsim:Sim frc ro (QW σ π) Hc w:=by
  refine⟨by simp[QW,hlen],r.sim.roOk,?_,?_,?_,?_,?_,?_⟩
  ·rintro b (hb|⟨i,x,q1,q2,q3,q4⟩|⟨i,x,d,q1,q2,q3,q4⟩)
   ·exact r.sim.frLt b hb
   ·exact(r.sim.own i b x q1 q2 q3).1
   ·exact(r.sim.hid i d x b q1 q2 q3).lt
  ·rintro b hb (hf|⟨i,x,q1,q2,q3,q4⟩|⟨i,x,d,q1,q2,q3,q4⟩)
   ·exact r.sim.roFr b hb hf
   ·exact(r.sim.own i b x q1 q2 q3).2.1 hb
   ·exact(r.sim.hid i d x b q1 q2 q3).ro hb
  ·intro j b x q1 q2 q3
   obtain⟨p,e1,e2⟩:=hπj j b q1
   have e3:H[p]?=some (QN (rho π H.length) x):=by rw[hHc j p e1,q2];rfl
   obtain⟨o1,o2,o3⟩:=r.sim.own p b _ e2 e3 (by rw[QB];exact q3)
   refine⟨o1,o2,?_⟩
   rintro(hf|⟨i,y,y1,y2,y3,y4⟩|⟨i,y,d,y1,y2,y3,y4⟩)
   ·exact o3 hf
   ·have:=r.sim.inj i p b _ _ y1 e2 y2 e3 y3 (by rw[QB];exact q3)
    subst this
    exact y4 (List.mem_of_getElem? e1)
   ·exact(r.sim.hid i d y b y1 y2 y3).ne p b _ e2 e3 (by rw[QB];exact q3) rfl
  ·intro i j b x y q1 q2 q3 q4 q5 q6
   obtain⟨p,e1,e2⟩:=hπj i b q1
   obtain⟨p',e1',e2'⟩:=hπj j b q2
   have e3:H[p]?=some (QN (rho π H.length) x):=by rw[hHc i p e1,q3];rfl
   have e3':H[p']?=some (QN (rho π H.length) y):=by rw[hHc j p' e1',q4];rfl
   have:=r.sim.inj p p' b _ _ e2 e2' e3 e3' (by rw[QB];exact q5) (by rw[QB];exact q6)
   subst this
   have hi:i<π.length:=by
    rcases Nat.lt_or_ge i π.length with q|q
    ·exact q
    ·rw[List.getElem?_eq_none q]at e1;simp at e1
   have hj:j<π.length:=by
    rcases Nat.lt_or_ge j π.length with q|q
    ·exact q
    ·rw[List.getElem?_eq_none q]at e1';simp at e1'
   rw[List.getElem?_eq_getElem hi]at e1
   rw[List.getElem?_eq_getElem hj]at e1'
   have heq:=(Option.some.inj e1).trans (Option.some.inj e1').symm
   rcases Nat.lt_trichotomy i j with q|q|q
   ·exact(List.pairwise_iff_getElem.1 hπ i j hi hj q heq).elim
   ·exact q
   ·exact(List.pairwise_iff_getElem.1 hπ j i hj hi q heq.symm).elim
  ·intro j s x q1 q2
   have hj:j<π.length:=by
    rcases Nat.lt_or_ge j π.length with q|q
    ·exact q
    ·rw[List.getElem?_eq_none (by simpa[QW]using q)]at q1;simp at q1
   have e1:π[j]?=some π[j]:=List.getElem?_eq_getElem hj
   have e3:H[π[j]]?=some (QN (rho π H.length) x):=by rw[hHc j _ e1,q2];rfl
   have e2:σ[π[j]]?=some s:=by
    have:=hσc j
    rw[q1]at this
    simpa[rho,e1]using this
   exact(Qe0 hσc).1 (r.sim.blk _ s _ e2 e3)
  ·intro j b x c q1 q2 q3
   obtain⟨p,e1,e2⟩:=hπj j b q1
   have e3:H[p]?=some (QN (rho π H.length) x):=by rw[hHc j p e1,q2];rfl
   have k:=r.sim.hid p b _ c e2 e3 ((Qak _ _ _ _ _).2 q3)
   refine⟨k.lt,k.ro,?_,?_,?_⟩
   ·rintro(hf|⟨i,y,y1,y2,y3,y4⟩|⟨i,y,d,y1,y2,y3,y4⟩)
    ·exact k.fr hf
    ·exact k.ne i c y y1 y2 y3 rfl
    ·obtain⟨rfl,rfl⟩:=k.one i d y y1 y2 y3
     exact y4 (List.mem_of_getElem? e1)
   ·intro j' b' y z1 z2 z3
    obtain⟨p',f1,f2⟩:=hπj j' b' z1
    exact k.ne p' b' _ f2 (show H[p']?=some (QN (rho π H.length) y)by rw[hHc j' p' f1,z2];rfl) (by rw[QB];exact z3)
   ·intro j' b' y z1 z2 z3
    obtain⟨p',f1,f2⟩:=hπj j' b' z1
    obtain⟨z4,z5⟩:=k.one p' b' _ f2 (show H[p']?=some (QN (rho π H.length) y)by rw[hHc j' p' f1,z2];rfl) ((Qak _ _ _ _ _).2 z3)
    subst z5
    exact⟨z4,hπi j' j p' f1 e1⟩
 have hargs':LR ro (QW σ π) w argsc vals:=(Qa5 hσc).1 (hargs▸h2)
 refine Calls.mono (hC frc ro (QW σ π) vals w hsim hargs') ?_
 rintro e w' ⟨v,rr,H1,ro',τ,rfl,hq,sc,hv,ev⟩
 have hσ':∀j:Nat,(σ++τ)[rho π H.length j]?=(QW σ π++τ)[j]? :=fun j=>QcO hσl hp j
 have hH1:H1.length=π.length+τ.length:=by rw[<- sc.len];simp[QW]
 have hle:π.length<=(H1.map (QN (rho π H.length))).length:=by simp;omega
 have evf:Qf fr ro w ro' w':=⟨ev.sub,ev.keepRo,fun b q=>ev.keepFr b (.inl q),ev.size,ev.shape,ev.os,ev.tape,ev.output,ev.drawn⟩
 have hnew:∀j,(Q3 H π (H1.map (QN (rho π H.length))))[rho π H.length j]?=(H1[j]?).map (QN (rho π H.length)):=by
  intro j
  rw[Qc3 π H _ j hle hp hπ];simp
 have hold:∀i,i<H.length->i∉π->(Q3 H π (H1.map (QN (rho π H.length))))[i]?=H[i]? :=fun i=>QbG π H _ i
 have hcase:∀i:Nat,(∃j,i=rho π H.length j)\/(i<H.length/\i∉π):=by
  intro i
  by_cases q:H.length<=i\/i∈π
  ·exact .inl (QgX π H.length i q)
  ·simp only[not_or]at q;exact .inr ⟨by omega,q.2⟩
 have hfrold:∀i b x,i<H.length->i∉π->σ[i]?=some (some b)->H[i]?=some x->x.live=true->frc b:=fun i b x q1 q2 q3 q4 q5=>.inr (.inl ⟨i,x,q3,q4,q5,q2⟩)
 have hhid:∀i b x c,i<H.length->i∉π->σ[i]?=some (some b)->H[i]?=some x->Hid w' x b c->Hid w x b c/\frc c:=fun i b x c q1 q2 q3 q4 q5=>
  have q6:=r.sim.hidKeep q3 q4 (fun z=>ev.keepFr b (hfrold i b x q1 q2 q3 q4 z)) ev.keepRo q5
  ⟨q6,.inr (.inr ⟨i,x,b,q3,q4,q6,q2⟩)⟩
 have simF:Sim fr ro' (σ++τ) (Q3 H π (H1.map (QN (rho π H.length)))) w':=by
  refine⟨?_,sc.roOk,fun b q=>sc.frLt b (.inl q),fun b q q'=>sc.roFr b q (.inl q'),?_,?_,?_,?_⟩
  ·rw[Qbz _ _ _ hle];simp[hσl,hH1]
  ·intro i b x q1 q2 q3
   rcases hcase i with⟨j,rfl⟩|⟨c1,c2⟩
   ·rw[hσ']at q1
    rw[hnew]at q2
    cases e:H1[j]? with
    |none=>rw[e]at q2;simp at q2
    |some y=>
     rw[e]at q2;simp at q2;subst q2
     obtain⟨o1,o2,o3⟩:=sc.own j b y q1 e (by rw[QB]at q3;exact q3)
     exact⟨o1,o2,fun q=>o3 (.inl q)⟩
   ·rw[hold i c1 c2]at q2
    rw[List.getElem?_append_left (by omega)]at q1
    obtain⟨o1,o2,o3⟩:=r.sim.own i b x q1 q2 q3
    exact⟨Nat.lt_of_lt_of_le o1 ev.size,fun q=>sc.roFr b q (hfrold i b x c1 c2 q1 q2 q3),o3⟩
  ·intro i i' b x y q1 q2 q3 q4 q5 q6
   have mixed:∀(i i':Nat) (x y:Blk),(∃j,i=rho π H.length j)->(i'<H.length/\i'∉π)->(σ++τ)[i]?=some (some b)->(σ++τ)[i']?=some (some b)->
     (Q3 H π (H1.map (QN (rho π H.length))))[i]?=some x->(Q3 H π (H1.map (QN (rho π H.length))))[i']?=some y->x.live=true->y.live=true->False:=by
    rintro i i' x y ⟨j,rfl⟩ ⟨c1,c2⟩ q1 q2 q3 q4 q5 q6
    rw[hσ']at q1
    rw[hnew]at q3
    rw[hold i' c1 c2]at q4
    rw[List.getElem?_append_left (by omega)]at q2
    cases e:H1[j]? with
    |none=>rw[e]at q3;simp at q3
    |some z=>
     rw[e]at q3;simp at q3;subst q3
     exact(sc.own j b z q1 e (by rw[QB]at q5;exact q5)).2.2 (hfrold i' b y c1 c2 q2 q4 q6)
   rcases hcase i with ci|ci<;>rcases hcase i' with ci'|ci'
   ·obtain⟨j,rfl⟩:=ci
    obtain⟨j',rfl⟩:=ci'
    rw[hσ']at q1 q2
    rw[hnew]at q3 q4
    cases e:H1[j]? with
    |none=>rw[e]at q3;simp at q3
    |some z=>
     cases e':H1[j']? with
     |none=>rw[e']at q4;simp at q4
     |some z'=>
      rw[e]at q3;simp at q3;subst q3
      rw[e']at q4;simp at q4;subst q4
      rw[sc.inj j j' b z z' q1 q2 e e' (by rw[QB]at q5;exact q5) (by rw[QB]at q6;exact q6)]
   ·exact(mixed i i' x y ci ci' q1 q2 q3 q4 q5 q6).elim
   ·exact(mixed i' i y x ci' ci q2 q1 q4 q3 q6 q5).elim
   ·rw[hold i ci.1 ci.2]at q3
    rw[hold i' ci'.1 ci'.2]at q4
    rw[List.getElem?_append_left (by omega)]at q1 q2
    exact r.sim.inj i i' b x y q1 q2 q3 q4 q5 q6
  ·intro i s x q1 q2
   rcases hcase i with⟨j,rfl⟩|⟨c1,c2⟩
   ·rw[hσ']at q1
    rw[hnew]at q2
    cases e:H1[j]? with
    |none=>rw[e]at q2;simp at q2
    |some y=>
     rw[e]at q2;simp at q2;subst q2
     exact(Qe0 hσ').2 (sc.blk j s y q1 e)
   ·rw[hold i c1 c2]at q2
    rw[List.getElem?_append_left (by omega)]at q1
    refine BR.keep (evf.ext σ τ) ?_ (r.sim.blk i s x q1 q2) ?_
    ·rintro b rfl hl
     exact ev.keepFr b (hfrold i b x c1 c2 q1 q2 hl)
    ·rintro b c rfl hl
     exact ev.keepFr c (.inr (.inr ⟨i,x,b,q1,q2,hl,c2⟩))
  ·intro i b x c q1 q2 q3
   rcases hcase i with⟨j,rfl⟩|⟨c1,c2⟩
   ·rw[hσ']at q1
    rw[hnew]at q2
    cases e:H1[j]? with
    |none=>rw[e]at q2;simp at q2
    |some y=>
     rw[e]at q2;simp at q2;subst q2
     have k:=sc.hid j b y c q1 e ((Qak _ _ _ _ _).1 q3)
     refine⟨k.lt,k.ro,fun q=>k.fr (.inl q),?_,?_⟩
     ·intro i' b' y' z1 z2 z3
      rcases hcase i' with⟨j',rfl⟩|⟨d1,d2⟩
      ·rw[hσ']at z1
       rw[hnew]at z2
       cases e':H1[j']? with
       |none=>rw[e']at z2;simp at z2
       |some u=>
        rw[e']at z2;simp at z2;subst z2
        exact k.ne j' b' u z1 e' (by rw[QB]at z3;exact z3)
      ·rw[hold i' d1 d2]at z2
       rw[List.getElem?_append_left (by omega)]at z1
       rintro rfl
       exact k.fr (hfrold i' c y' d1 d2 z1 z2 z3)
     ·intro i' b' y' z1 z2 z3
      rcases hcase i' with⟨j',rfl⟩|⟨d1,d2⟩
      ·rw[hσ']at z1
       rw[hnew]at z2
       cases e':H1[j']? with
       |none=>rw[e']at z2;simp at z2
       |some u=>
        rw[e']at z2;simp at z2;subst z2
        obtain⟨z4,rfl⟩:=k.one j' b' u z1 e' ((Qak _ _ _ _ _).1 z3)
        exact⟨z4,rfl⟩
      ·rw[hold i' d1 d2]at z2
       rw[List.getElem?_append_left (by omega)]at z1
       exact(k.fr (hhid i' b' y' c d1 d2 z1 z2 z3).2).elim
   ·rw[hold i c1 c2]at q2
    rw[List.getElem?_append_left (by omega)]at q1
    obtain⟨q4,q5⟩:=hhid i b x c c1 c2 q1 q2 q3
    have k:=r.sim.hid i b x c q1 q2 q4
    refine⟨Nat.lt_of_lt_of_le k.lt ev.size,fun q=>sc.roFr c q q5,k.fr,?_,?_⟩
    ·intro i' b' y' z1 z2 z3
     rcases hcase i' with⟨j',rfl⟩|⟨d1,d2⟩
     ·rw[hσ']at z1
      rw[hnew]at z2
      cases e':H1[j']? with
      |none=>rw[e']at z2;simp at z2
      |some u=>
       rw[e']at z2;simp at z2;subst z2
       rintro rfl
       exact(sc.own j' c u z1 e' (by rw[QB]at z3;exact z3)).2.2 q5
     ·rw[hold i' d1 d2]at z2
      rw[List.getElem?_append_left (by omega)]at z1
      exact k.ne i' b' y' z1 z2 z3
    ·intro i' b' y' z1 z2 z3
     rcases hcase i' with⟨j',rfl⟩|⟨d1,d2⟩
     ·rw[hσ']at z1
      rw[hnew]at z2
      cases e':H1[j']? with
      |none=>rw[e']at z2;simp at z2
      |some u=>
       rw[e']at z2;simp at z2;subst z2
       exact((sc.hid j' b' u c z1 e' ((Qak _ _ _ _ _).1 z3)).fr q5).elim
     ·rw[hold i' d1 d2]at z2
      rw[List.getElem?_append_left (by omega)]at z1
      exact k.one i' b' y' z1 z2 (hhid i' b' y' c d1 d2 z1 z2 z3).1
 have hvr:VR ro' (σ++τ) w' (Yl (rho π H.length) rr) v:=(QeN hσ').2 hv
 have hk:=k rr H1 hq
 cases d with
 |none=>
  simp only[hd,Act.put]
  have r':Rel fr ro' (σ++τ) (Q3 H π (H1.map (QN (rho π H.length)))) env N a w':=⟨simF,fun s=>(r.env s).mono (evf.ext σ τ),r.size,r.defers.keep evf⟩
  exact⟨_,rfl,Yd (fun e a w q=>q.step evf (QK (by omega))) _ _ _ (hk rd fr ro' (σ++τ) _ w' r' (hrd.to evf fun _ q=>q))⟩
 |some d=>
  simp only[hd,Act.put]
  have hdN:=hN d rfl
  have r':Rel fr ro' (σ++τ) (Q3 H π (H1.map (QN (rho π H.length)))) (up env d (Yl (rho π H.length) rr)) N {a with tmps:=a.tmps.setIfInBounds d v} w':=
   ⟨simF,VR.up (fr:=fr) (fun s=>(r.env s).mono (evf.ext σ τ)) (by rw[r.size];exact hdN) hvr,by simpa using r.size,r.defers.keep evf⟩
  exact⟨_,rfl,Yd (fun e a w q=>q.step evf (QK (by omega))) _ _ _ (hk rd fr ro' (σ++τ) _ w' r' (hrd.to evf fun _ q=>q))⟩
end Go.Sw
namespace Go.Sw
section
variable {P:Program}{o:Oper}{env:Env}{H:Qc}
theorem QM{fr ro:Nat->Prop}{σ:Sig}{N:Nat}{a:Act}{w:World}(r:Rel fr ro σ H env N a w){x:Operand}{k:IntKind}{n:Int}(h:opA env x=.int k n):a.eval x=.int k n:=by
 have:=Qg r x
 rw[h]at this;exact this
theorem QaR{fr ro:Nat->Prop}{σ:Sig}{N:Nat}{a:Act}{w:World}(r:Rel fr ro σ H env N a w){x:Operand}{b:Bool}(h:opA env x=.bool b):a.eval x=.bool b:=by
 have:=Qg r x
 rw[h]at this;exact this
theorem QcR{fr ro:Nat->Prop}{σ:Sig}{N:Nat}{a:Act}{w:World}(r:Rel fr ro σ H env N a w){x:Operand}{s:List UInt8}(h:opA env x=.str s):a.eval x=.string ⟨s.toArray⟩:=by
 have:=Qg r x
 rw[h]at this;exact this
theorem OpV.move{x:Operand}{v:A}(ho:o.op=.move x)(hx:opA env x=v):OpV P o env H v:=
 fun fr ro σ N a w r=>⟨a.eval x,by simp[execOp,ho,go_sem],hx▸Qg r x⟩
theorem OpV.assign{x:Operand}{v:A}(ho:o.op=.assign x)(hx:opA env x=v):OpV P o env H v:=
 fun fr ro σ N a w r=>⟨a.eval x,by simp[execOp,ho,go_sem],hx▸Qg r x⟩
theorem OpV.pick{c x y:Operand}{b:Bool}{v:A}(ho:o.op=.pick c x y)(hc:opA env c=.bool b)(hx:(if b then opA env x else opA env y)=v):OpV P o env H v:=by
 intro fr ro σ N a w r
 have hv:=QaR r hc
 refine⟨if b then a.eval x else a.eval y,by generalize a.eval=ρ at*;simp[execOp,ho,hv,asBool,go_sem],?_⟩
 subst hx
 cases b
 ·exact Qg r y
 ·exact Qg r x
theorem OpV.add{t u:TypeId}{x y:Operand}{k:IntKind}{m n:Int}(ho:o.op=.binOp .add t x y u)(hx:opA env x=.int k m)(hy:opA env y=.int k n):OpV P o env H (.int k (k.wrap (m+n))):=by
 intro fr ro σ N a w r
 have h1:=QM r hx
 have h2:=QM r hy
 refine⟨_,?_,rfl⟩
 generalize a.eval=ρ at*
 simp[execOp,ho,h1,h2,Go.binOp,eqGuard,Op.intArith,go_sem]
theorem OpV.sub{t u:TypeId}{x y:Operand}{k:IntKind}{m n:Int}(ho:o.op=.binOp .sub t x y u)(hx:opA env x=.int k m)(hy:opA env y=.int k n):OpV P o env H (.int k (k.wrap (m-n))):=by
 intro fr ro σ N a w r
 have h1:=QM r hx
 have h2:=QM r hy
 refine⟨_,?_,rfl⟩
 generalize a.eval=ρ at*
 simp[execOp,ho,h1,h2,Go.binOp,eqGuard,Op.intArith,go_sem]
theorem OpV.mul{t u:TypeId}{x y:Operand}{k:IntKind}{m n:Int}(ho:o.op=.binOp .mul t x y u)(hx:opA env x=.int k m)(hy:opA env y=.int k n):OpV P o env H (.int k (k.wrap (m*n))):=by
 intro fr ro σ N a w r
 have h1:=QM r hx
 have h2:=QM r hy
 refine⟨_,?_,rfl⟩
 generalize a.eval=ρ at*
 simp[execOp,ho,h1,h2,Go.binOp,eqGuard,Op.intArith,go_sem]
theorem Qbw{op:BinOp}{t u:TypeId}{x y:Operand}{k:IntKind}{m n:Int}{f:Int->Int->Bool}(ho:o.op=.binOp op t x y u)(hx:opA env x=.int k m)(hy:opA env y=.int k n)
  (hop:op=.eql/\f=(fun a b=>a==b)\/op=.neq/\f=(fun a b=>a != b)\/op=.lss/\f=(fun a b=>decide (a<b))\/op=.leq/\f=(fun a b=>decide (a<=b))\/
   op=.gtr/\f=(fun a b=>decide (b<a))\/op=.geq/\f=(fun a b=>decide (b<=a))):OpV P o env H (.bool (f m n)):=by
 intro fr ro σ N a w r
 have h1:=QM r hx
 have h2:=QM r hy
 refine⟨_,?_,rfl⟩
 generalize a.eval=ρ at*
 rcases hop with⟨rfl,rfl⟩|⟨rfl,rfl⟩|⟨rfl,rfl⟩|⟨rfl,rfl⟩|⟨rfl,rfl⟩|⟨rfl,rfl⟩<;>simp[execOp,ho,h1,h2,Go.binOp,eqGuard,Op.intCmp,go_sem]
theorem OpV.eql{t u:TypeId}{x y:Operand}{k:IntKind}{m n:Int}(ho:o.op=.binOp .eql t x y u)(hx:opA env x=.int k m)(hy:opA env y=.int k n):OpV P o env H (.bool (m==n)):=
 Qbw (f:=fun a b=>a==b) ho hx hy (by simp)
theorem OpV.neq{t u:TypeId}{x y:Operand}{k:IntKind}{m n:Int}(ho:o.op=.binOp .neq t x y u)(hx:opA env x=.int k m)(hy:opA env y=.int k n):OpV P o env H (.bool (m != n)):=
 Qbw (f:=fun a b=>a != b) ho hx hy (by simp)
theorem OpV.lss{t u:TypeId}{x y:Operand}{k:IntKind}{m n:Int}(ho:o.op=.binOp .lss t x y u)(hx:opA env x=.int k m)(hy:opA env y=.int k n):OpV P o env H (.bool (decide (m<n))):=
 Qbw (f:=fun a b=>decide (a<b)) ho hx hy (by simp)
theorem OpV.leq{t u:TypeId}{x y:Operand}{k:IntKind}{m n:Int}(ho:o.op=.binOp .leq t x y u)(hx:opA env x=.int k m)(hy:opA env y=.int k n):OpV P o env H (.bool (decide (m<=n))):=
 Qbw (f:=fun a b=>decide (a<=b)) ho hx hy (by simp)
theorem OpV.gtr{t u:TypeId}{x y:Operand}{k:IntKind}{m n:Int}(ho:o.op=.binOp .gtr t x y u)(hx:opA env x=.int k m)(hy:opA env y=.int k n):OpV P o env H (.bool (decide (n<m))):=
 Qbw (f:=fun a b=>decide (b<a)) ho hx hy (by simp)
theorem OpV.geq{t u:TypeId}{x y:Operand}{k:IntKind}{m n:Int}(ho:o.op=.binOp .geq t x y u)(hx:opA env x=.int k m)(hy:opA env y=.int k n):OpV P o env H (.bool (decide (n<=m))):=
 Qbw (f:=fun a b=>decide (b<=a)) ho hx hy (by simp)
theorem OpV.rem{t u:TypeId}{x y:Operand}{k:IntKind}{m n:Int}(ho:o.op=.binOp .rem t x y u)(hx:opA env x=.int k m)(hy:opA env y=.int k n)(hn:n≠0):OpV P o env H (.int k (m.tmod n)):=by
 intro fr ro σ N a w r
 have h1:=QM r hx
 have h2:=QM r hy
 exact⟨_,by generalize a.eval=ρ at*;simp[execOp,ho,h1,h2,Go.binOp,eqGuard,Op.intDiv,hn,go_sem],rfl⟩
theorem OpV.quo{t u:TypeId}{x y:Operand}{k:IntKind}{m n:Int}(ho:o.op=.binOp .quo t x y u)(hx:opA env x=.int k m)(hy:opA env y=.int k n)(hn:n≠0):OpV P o env H (.int k (k.wrap (m.tdiv n))):=by
 intro fr ro σ N a w r
 have h1:=QM r hx
 have h2:=QM r hy
 exact⟨_,by generalize a.eval=ρ at*;simp[execOp,ho,h1,h2,Go.binOp,eqGuard,Op.intDiv,hn,go_sem],rfl⟩
theorem OpV.not{t:TypeId}{x:Operand}{b:Bool}(ho:o.op=.unOp .not t x)(hx:opA env x=.bool b):OpV P o env H (.bool !b):=by
 intro fr ro σ N a w r
 have h1:=QaR r hx
 exact⟨_,by generalize a.eval=ρ at*;simp[execOp,ho,h1,Op.unary,go_sem],rfl⟩
theorem OpV.neg{t:TypeId}{x:Operand}{k:IntKind}{n:Int}(ho:o.op=.unOp .neg t x)(hx:opA env x=.int k n):OpV P o env H (.int k (k.wrap (0-n))):=by
 intro fr ro σ N a w r
 have h1:=QM r hx
 exact⟨_,by generalize a.eval=ρ at*;simp[execOp,ho,h1,Op.unary,Op.intArith,go_sem],rfl⟩
theorem QdE{s t:TypeId}{x:Operand}{k k':IntKind}{n:Int}{ds:TypeDesc}(ho:o.op=.convert s t x)(hs:∀w,(underlying s).run P w=.ok ds w)(ht:∀w,(underlying t).run P w=.ok (.int k) w)
  (hx:opA env x=.int k' n):OpV P o env H (.int k (k.wrap n)):=by
 intro fr ro σ N a w r
 have h1:=QM r hx
 refine⟨_,?_,rfl⟩
 generalize a.eval=ρ at*
 cases ds<;>simp[execOp,ho,h1,convert,hs,ht,Conv.intToInt,go_sem]
theorem Qcu{op:BinOp}{t u:TypeId}{x y:Operand}{p q:List UInt8}{f:List UInt8->List UInt8->Bool}(ho:o.op=.binOp op t x y u)(hx:opA env x=.str p)(hy:opA env y=.str q)
  (hop:op=.eql/\f=(fun a b=>a==b)\/op=.neq/\f=(fun a b=>a != b)\/op=.lss/\f=Op.bytesLess\/op=.geq/\f=(fun a b=> !Op.bytesLess a b)\/
   op=.leq/\f=(fun a b=>Op.bytesLess a b||a==b)\/op=.gtr/\f=(fun a b=> !(Op.bytesLess a b||a==b))):OpV P o env H (.bool (f p q)):=by
 intro fr ro σ N a w r
 have h1:=QcR r hx
 have h2:=QcR r hy
 refine⟨_,?_,rfl⟩
 generalize a.eval=ρ at*
 have e1:(⟨p.toArray⟩:ByteArray).toList=p:=by rw[Go.ByteArray.toList_eq]
 have e2:(⟨q.toArray⟩:ByteArray).toList=q:=by rw[Go.ByteArray.toList_eq]
 rcases hop with⟨rfl,rfl⟩|⟨rfl,rfl⟩|⟨rfl,rfl⟩|⟨rfl,rfl⟩|⟨rfl,rfl⟩|⟨rfl,rfl⟩<;>simp[execOp,ho,h1,h2,Go.binOp,eqGuard,Op.stringOp,e1,e2,go_sem,bne]
theorem QhA{t u:TypeId}{x y:Operand}{p q:List UInt8}(ho:o.op=.binOp .eql t x y u)(hx:opA env x=.str p)(hy:opA env y=.str q):OpV P o env H (.bool (p==q)):=
 Qcu (f:=fun a b=>a==b) ho hx hy (by simp)
theorem Qhx{t u:TypeId}{x y:Operand}{p q:List UInt8}(ho:o.op=.binOp .neq t x y u)(hx:opA env x=.str p)(hy:opA env y=.str q):OpV P o env H (.bool (p != q)):=
 Qcu (f:=fun a b=>a != b) ho hx hy (by simp)
theorem Qhy{t u:TypeId}{x y:Operand}{p q:List UInt8}(ho:o.op=.binOp .lss t x y u)(hx:opA env x=.str p)(hy:opA env y=.str q):OpV P o env H (.bool (Op.bytesLess p q)):=
 Qcu ho hx hy (by simp)
theorem Qhz{t:TypeId}{x y:Operand}{s:List UInt8}{k:IntKind}{n:Int}{c:UInt8}(ho:o.op=.index t x y)(ht:∀w,(underlying t).run P w=.ok .string w)(hx:opA env x=.str s)(hy:opA env y=.int k n)
  (h0:0<=n)(hc:s[n.toNat]?=some c):OpV P o env H (.int .u8 c.toNat):=by
 intro fr ro σ N a w r
 have h1:=QcR r hx
 have h2:=QM r hy
 have hc':(⟨s.toArray⟩:ByteArray)[n.toNat]?=some c:=by
  obtain⟨hlt,he⟩:=List.getElem?_eq_some_iff.1 hc
  have hsz:(⟨s.toArray⟩:ByteArray).size=s.length:=by simp[ByteArray.size]
  rw[getElem?_pos _ _ (by rw[hsz];exact hlt)]
  show some (s.toArray[n.toNat]'(by simpa using hlt))=some c
  simp[he]
 refine⟨_,?_,rfl⟩
 generalize a.eval=ρ at*
 simp[execOp,ho,h1,h2,Instr.index,asIntOf,ht,h0,hc',go_sem]
theorem Qa3{c:Call}{t:TypeId}{x:Operand}{s:List UInt8}(ho:o.op=.call c)(hc:c={callee:=.builtin .len,args:= #[x],argTypes:= #[t]})(ht:∀w,(underlying t).run P w=.ok .string w)
  (hx:opA env x=.str s):OpV P o env H (.int .i64 s.length):=by
 intro fr ro σ N a w r
 have h1:=QcR r hx
 refine⟨_,?_,rfl⟩
 generalize a.eval=ρ at*
 subst hc
 simp[execOp,ho,h1,resolve,invoke,Go.builtin,Builtin.len_,ht,goInt,go_sem]<;>rfl
theorem Qi9{c:Call}{t e:TypeId}{x:Operand}{k:Nat}{es:List (List A)}(ho:o.op=.call c)(hc:c={callee:=.builtin .len,args:= #[x],argTypes:= #[t]})(ht:∀w,(underlying t).run P w=.ok (.slice e) w)
  (hx:opA env x=.rsl k es):OpV P o env H (.int .i64 es.length):=by
 intro fr ro σ N a w r
 have h1:=Qg r x
 rw[hx]at h1
 obtain⟨ad,cap,h1,_⟩:=h1
 refine⟨_,?_,rfl⟩
 generalize a.eval=ρ at*
 subst hc
 simp[execOp,ho,h1,resolve,invoke,Go.builtin,Builtin.len_,ht,goInt,go_sem]
theorem Qja{c:Call}{t e:TypeId}{x:Operand}{i s n k:Nat}(ho:o.op=.call c)(hc:c={callee:=.builtin .len,args:= #[x],argTypes:= #[t]})(ht:∀w,(underlying t).run P w=.ok (.slice e) w)
  (hx:opA env x=.osl i s n k):OpV P o env H (.int .i64 n):=by
 intro fr ro σ N a w r
 have h1:=Qg r x
 rw[hx]at h1
 refine⟨_,?_,rfl⟩
 generalize a.eval=ρ at*
 subst hc
 rcases h1 with⟨rfl,h1⟩|⟨b,p,cap,t',m,_,h1,_⟩<;>
 simp[execOp,ho,h1,resolve,invoke,Go.builtin,Builtin.len_,ht,goInt,go_sem]
theorem QfD{c:Call}{t e:TypeId}{x:Operand}(ho:o.op=.call c)(hc:c={callee:=.builtin .len,args:= #[x],argTypes:= #[t]})(ht:∀w,(underlying t).run P w=.ok (.slice e) w)
  (hx:opA env x=.nils):OpV P o env H (.int .i64 0):=by
 intro fr ro σ N a w r
 have h1:=Qg r x
 rw[hx]at h1
 simp only[VR]at h1
 refine⟨_,?_,rfl⟩
 generalize a.eval=ρ at*
 subst hc
 simp[execOp,ho,h1,resolve,invoke,Go.builtin,Builtin.len_,ht,goInt,go_sem]
structure YV (P:Program) (T f off n:Nat):Prop where
 h:∃fs fd,(∀w,(underlying T).run P w=.ok (.struct fs) w)/\fs[f]?=some fd/\fd.offset=off/\(∀w,(sizeOf fd.type).run P w=.ok n w)/\n≠0
theorem QaC(b off n:Nat):(⟨b,off,none⟩:Addr).add n=⟨b,off+n,none⟩:=by
 unfold Addr.add
 split
 ·rename_i h;simp[h]
 ·rfl
theorem Qcy{T f off n b p:Nat}(hf:YV P T f off n)(w:World):(Instr.fieldAt T (.pointer (some ⟨b,p,none⟩)) f).run P w=.ok (.pointer (some ⟨b,p+off,none⟩)) w:=by
 obtain⟨fs,fd,h1,h2,rfl,h4,h5⟩:=hf.h
 simp[Instr.fieldAt,h1,h2,Instr.sureAddr,fieldPlace,h4,h5,QaC,go_sem]
theorem QbR{T f off n i p:Nat}{x:Operand}(hf:YV P T f off n)(ho:o.op=.fieldAddr T x f)(hx:opA env x=.ptr i p):OpV P o env H (.ptr i (p+off)):=by
 intro fr ro σ N a w r
 have h1:=Qg r x
 rw[hx]at h1
 obtain⟨b,h1,h2⟩:=h1
 refine⟨.pointer (some ⟨b,p+off,none⟩),?_,b,h1,rfl⟩
 generalize a.eval=ρ at*
 simp only[execOp,ho,h2,Sem.run_bind,Qcy hf]
 rfl
theorem CR.drop{ro:Nat->Prop}{σ:Sig}{w:World}{b:Nat}:∀(n:Nat) {cs:List A}{off:Nat},CR ro σ w b cs off->CR ro σ w b (cs.drop n) (off+n)
 |0,_,_,h=>h
 |n+1,[],_,h=>trivial
 |n+1,c::cs,off,h=>by
  have:=CR.drop n h.2
  rw[List.drop_succ_cons]
  rw[show off+(n+1)=off+1+n from by omega];exact this
theorem CR.take{ro:Nat->Prop}{σ:Sig}{w:World}{b:Nat}:∀(n:Nat) {cs:List A}{off:Nat},CR ro σ w b cs off->CR ro σ w b (cs.take n) off
 |0,_,_,h=>trivial
 |n+1,[],_,h=>trivial
 |n+1,c::cs,off,h=>⟨h.1,CR.take n h.2⟩
theorem QdD{T f off n:Nat}{x:Operand}{cs cs':List A}(hf:YV P T f off n)(ho:o.op=.fieldAddr T x f)(hx:opA env x=.rp cs)(hcs:cs.drop off=cs'):OpV P o env H (.rp cs'):=by
 intro fr ro σ N a w r
 have h1:=Qg r x
 rw[hx]at h1
 obtain⟨b,p,h1,h2,h3⟩:=h1
 refine⟨.pointer (some ⟨b,p+off,none⟩),?_,b,p+off,rfl,h2,hcs▸h3.drop off⟩
 generalize a.eval=ρ at*
 simp only[execOp,ho,h1,Sem.run_bind,Qcy hf]
 rfl
theorem RR.get{ro:Nat->Prop}{σ:Sig}{w:World}{b k:Nat}:∀(n:Nat) {es:List (List A)}{off:Nat}{c:List A},RR ro σ w b k es off->es[n]?=some c->c.length=k/\CR ro σ w b c (off+n*k)
 |n,[],_,_,h,hc=>by simp at hc
 |0,e::es,off,c,h,hc=>by
  simp at hc;subst hc
  exact⟨h.1,by simpa using h.2.1⟩
 |n+1,e::es,off,c,h,hc=>by
  have:=RR.get n h.2.2 (by simpa using hc)
  refine⟨this.1,?_⟩
  rw[show off+(n+1)*k=off+k+n*k from by rw[Nat.succ_mul];omega];exact this.2
theorem Qj2{t e:TypeId}{x y:Operand}{k:Nat}{es:List (List A)}{kk:IntKind}{n:Int}{c:List A}(ho:o.op=.indexAddr t x y)(ht:∀w,(underlying t).run P w=.ok (.slice e) w)
  (hs:∀w,(sizeOf e).run P w=.ok k w)(hx:opA env x=.rsl k es)(hy:opA env y=.int kk n)(h0:0<=n)(hc:es[n.toNat]?=some c):OpV P o env H (.rp c):=by
 intro fr ro σ N a w r
 have h1:=Qg r x
 rw[hx]at h1
 have h2:=QM r hy
 obtain⟨ad,cap,h1,h3,h4⟩:=h1
 have hlt:n.toNat<es.length:=(List.getElem?_eq_some_iff.1 hc).1
 rcases h4 with rfl|⟨b,off,rfl,h5,h6⟩
 ·simp at hlt
 have hn:n<es.length:=by omega
 refine⟨.pointer (some ⟨b,off+n.toNat*k,none⟩),?_,b,off+n.toNat*k,rfl,h5,(h6.get n.toNat hc).2⟩
 generalize a.eval=ρ at*
 simp[execOp,ho,h1,h2,Instr.indexAt,asIntOf,ht,hs,h0,hn,QaC,go_sem]
theorem QgN{t e:TypeId}{x y:Operand}{i s m k:Nat}{kk:IntKind}{n:Int}(ho:o.op=.indexAddr t x y)(ht:∀w,(underlying t).run P w=.ok (.slice e) w)
  (hs:∀w,(sizeOf e).run P w=.ok k w)(hx:opA env x=.osl i s m k)(hy:opA env y=.int kk n)(h0:0<=n)(hc:n<m):OpV P o env H (.ptr i (s*k+n.toNat*k)):=by
 intro fr ro σ N a w r
 have h1:=Qg r x
 rw[hx]at h1
 have h2:=QM r hy
 rcases h1 with⟨rfl,_⟩|⟨b,p,cap,t',m',h3,h1,h4,h5,_⟩
 ·omega
 obtain rfl:=h4 (by omega)
 refine⟨.pointer (some ⟨b,s*k+n.toNat*k,none⟩),?_,b,h3,rfl⟩
 generalize a.eval=ρ at*
 simp[execOp,ho,h1,h2,Instr.indexAt,asIntOf,ht,hs,h0,hc,QaC,go_sem]
def Pts(H:Qc)(p:A)(cs:List A):Prop:=
 ∀fr ro σ w v,Sim fr ro σ H w->VR ro σ w p v->∃b off,v=.pointer (some ⟨b,off,none⟩)/\CR ro σ w b cs off
theorem VR.lift{ro:Nat->Prop}{σ:Sig}{w:World}{a:A}{v:Value}(h:VR ro [] w a v):VR ro σ w a v:=
 h.mono ⟨fun _ q=>q,fun _ _=>rfl,fun _ _ q=>q,fun i b q=>by simp at q⟩
theorem CR.lift{ro:Nat->Prop}{σ:Sig}{w:World}{b:Nat}:∀{cs:List A}{off:Nat},CR ro [] w b cs off->CR ro σ w b cs off
 |[],_,_=>trivial
 |c::cs,off,⟨⟨v,h1,hp,h2⟩,h3⟩=>⟨⟨v,h1,hp,h2.lift⟩,CR.lift h3⟩
theorem LR.lift{ro:Nat->Prop}{σ:Sig}{w:World}:∀{cs:List A}{l:List Value},LR ro [] w cs l->LR ro σ w cs l
 |[],_,h=>h
 |c::cs,l,⟨v,l',h1,h2,h3⟩=>⟨v,l',h1,h2.lift,LR.lift h3⟩
theorem Pts.rp{cs:List A}:Pts H (.rp cs) cs:=fun fr ro σ w v s ⟨b,off,h1,h2,h3⟩=>⟨b,off,h1,h3.lift⟩
theorem LR.cells{ro:Nat->Prop}{σ:Sig}{w:World}{b t:Nat}{fz:Nat×Nat}{pre l:List Value}(hb:w.heap[b]?=some (.cells (pre++l).toArray t fz))(hpl:∀v∈l,Qv v):
  ∀{cs:List A},LR ro σ w cs l->CR ro σ w b cs pre.length:=by
 induction l generalizing pre with
 |nil=>
  intro cs h
  cases cs with
  |nil=>trivial
  |cons c cs=>obtain⟨v,l',h,_⟩:=h;cases h
 |cons v l ih=>
  intro cs h
  cases cs with
  |nil=>trivial
  |cons c cs=>
   obtain⟨v',l',h1,h2,h3⟩:=h
   cases h1
   refine⟨⟨v,by simp[World.cell?,hb],hpl v (by simp),h2⟩,?_⟩
   have:=ih (pre:=pre++[v]) (by simpa using hb) (fun x hx=>hpl x (by simp[hx])) h3
   simpa using this
theorem Pts.cells{i off t:Nat}{cs cs':List A}(hH:H[i]?=some (.cells t cs))(hcs:cs.drop off=cs'):Pts H (.ptr i off) cs':=by
 intro fr ro σ w v s h
 obtain⟨b,h1,h2⟩:=h
 obtain⟨l,q1,q2,q3⟩:=s.blk i _ _ h1 hH
 have:=LR.cells (pre:=[]) (by simpa using q1) q3 q2
 refine⟨b,off,h2,hcs▸ ?_⟩
 have:=this.drop off
 simpa using this
theorem LR.get{ro:Nat->Prop}{σ:Sig}{w:World}:∀{az:List A}{l:List Value} (i:Nat) {a:A},LR ro σ w az l->az[i]?=some a->∃v,l[i]?=some v/\VR ro σ w a v
 |[],l,i,a,h,ha=>by simp at ha
 |x::az,l,0,a,⟨v,l',h1,h2,h3⟩,ha=>by
  simp at ha;subst ha h1
  exact⟨v,rfl,h2⟩
 |x::az,l,i+1,a,⟨v,l',h1,h2,h3⟩,ha=>by
  subst h1
  obtain⟨v',q1,q2⟩:=LR.get i h3 (by simpa using ha)
  exact⟨v',by simpa using q1,q2⟩
theorem LR.drop{ro:Nat->Prop}{σ:Sig}{w:World}:∀(n:Nat) {az:List A}{l:List Value},LR ro σ w az l->LR ro σ w (az.drop n) (l.drop n)
 |0,az,l,h=>h
 |n+1,[],l,h=>by cases(show l=[]from h);rfl
 |n+1,a::az,l,⟨v,l',h1,h2,h3⟩=>by subst h1;exact LR.drop n h3
theorem LR.take{ro:Nat->Prop}{σ:Sig}{w:World}:∀(n:Nat) {az:List A}{l:List Value},LR ro σ w az l->LR ro σ w (az.take n) (l.take n)
 |0,az,l,h=>rfl
 |n+1,[],l,h=>by cases(show l=[]from h);rfl
 |n+1,a::az,l,⟨v,l',h1,h2,h3⟩=>by subst h1;exact⟨v,l'.take n,rfl,h2,LR.take n h3⟩
theorem LR.append{ro:Nat->Prop}{σ:Sig}{w:World}:∀{az:List A}{l:List Value}{bs:List A}{m:List Value},LR ro σ w az l->LR ro σ w bs m->LR ro σ w (az++bs) (l++m)
 |[],l,bs,m,h,k=>by cases(show l=[]from h);exact k
 |a::az,l,bs,m,⟨v,l',h1,h2,h3⟩,k=>by subst h1;exact⟨v,l'++m,rfl,h2,LR.append h3 k⟩
theorem QgP{ro:Nat->Prop}{σ:Sig}{w:World}{b t:Nat}{fz:Nat×Nat}:∀{cs:List A}{pre l post:List Value},w.heap[b]?=some (.cells (pre++(l++post)).toArray t fz)->(∀v∈l,Qv v)->
  LR ro σ w cs l->CR ro σ w b cs pre.length
 |[],_,_,_,_,_,_=>trivial
 |c::cs,pre,l,post,hb,hpl,⟨v,l',h1,h2,h3⟩=>by
  subst h1
  refine⟨⟨v,by simp[World.cell?,hb],hpl v (by simp),h2⟩,?_⟩
  have:=QgP (pre:=pre++[v]) (l:=l') (post:=post) (by simpa using hb) (fun x hx=>hpl x (by simp[hx])) h3
  simpa using this
theorem Ys{ro:Nat->Prop}{σ:Sig}{w:World}{b t k:Nat}{fz:Nat×Nat}:∀{es:List (List A)}{pre l:List Value},w.heap[b]?=some (.cells (pre++l).toArray t fz)->
  RL ro σ w k es l->RR ro σ w b k es pre.length
 |[],_,_,_,_=>trivial
 |c::es,pre,l,hb,⟨l1,l2,h1,h2,h3,h4⟩=>by
  subst h1
  refine⟨h2,QgP hb h3.2 h3.1,?_⟩
  have hl:=h3.1.length
  have:=Ys (pre:=pre++l1) (l:=l2) (by simpa using hb) h4
  simpa[hl,h2]using this
theorem Pts.row{i off t k e f:Nat}{es:List (List A)}{c cs':List A}(hH:H[i]?=some (.row t k es))(ho:off=e*k+f)(he:es[e]?=some c)(hcs:c.drop f=cs'):Pts H (.ptr i off) cs':=by
 intro fr ro σ w v s h
 obtain⟨b,h1,h2⟩:=h
 obtain⟨l,q1,q2⟩:=s.blk i _ _ h1 hH
 have:=((Ys (pre:=[]) (by simpa using q1) q2).get e he).2.drop f
 refine⟨b,off,h2,?_⟩
 subst ho hcs
 simpa using this.lift
theorem Pts.rowr{i off t k e f:Nat}{es:List (List A)}{c cs':List A}(hH:H[i]?=some (.rowr t k es))(ho:off=e*k+f)(he:es[e]?=some c)(hcs:c.drop f=cs'):Pts H (.ptr i off) cs':=by
 intro fr ro σ w v s h
 obtain⟨b,h1,h2⟩:=h
 obtain⟨l,q1,q2⟩:=s.blk i _ _ h1 hH
 have:=((Ys (pre:=[]) (by simpa using q1) q2).get e he).2.drop f
 refine⟨b,off,h2,?_⟩
 subst ho hcs
 simpa using this
theorem Qhl{w w':World}(h:w'.heap=w.heap)(a:Addr):w'.cell? a=w.cell? a:=by unfold World.cell?;rw[h]
theorem Yk{ro:Nat->Prop}{σ:Sig}{w:World}{b off:Nat}:∀{cs:List A} (i:Nat),CR ro σ w b cs (off+i)->
  ∃l,LR ro σ w cs l/\(∀v∈l,Qv v)/\ ∀(w':World) (acc:Array Value),w'.heap=w.heap->(loadCellsFrom ⟨b,off,none⟩ i cs.length acc).run P w'=.ok (acc++l.toArray) w'
 |[],i,h=>⟨[],rfl,by simp,fun w' acc _=>by simp[loadCellsFrom,go_sem]⟩
 |c::cs,i,⟨⟨v,h1,hp,h2⟩,h3⟩=>by
  obtain⟨l,q1,qp,q2⟩:=Yk (cs:=cs) (i+1) (by rw[<- Nat.add_assoc];exact h3)
  refine⟨v::l,⟨v,l,rfl,h2,q1⟩,by simpa using⟨hp,qp⟩,fun w' acc hw=>?_⟩
  have h1':w'.cell? ⟨b,off+i,none⟩=some v:=by rw[Qhl hw];exact h1
  have:=q2 w' (acc.push v) hw
  simp[loadCellsFrom,Go.load,Sem.run,QaC,h1',this,go_sem]
theorem QH{t n:Nat}{x:Operand}{p:A}{cs vs:List A}(ho:o.op=.load t x)(ha:∀w,(isAgg t).run P w=.ok true w)(hs:∀w,(sizeOf t).run P w=.ok n w)(hx:opA env x=p)(hp:Pts H p cs)
  (hn:cs.take n=vs)(hl:vs.length=n):OpV P o env H (.agg vs):=by
 intro fr ro σ N a w r
 have h1:=Qg r x
 rw[hx]at h1
 obtain⟨b,off,h2,h3⟩:=hp fr ro σ w _ r.sim h1
 subst hn
 obtain⟨l,q1,_,q2⟩:=Yk (P:=P) (cs:=cs.take n) (off:=off) 0 (by simpa using h3.take n)
 have q2:=q2 w #[] rfl
 rw[hl]at q2
 refine⟨.agg l.toArray,?_,l,rfl,q1⟩
 generalize a.eval=ρ at*
 simp[execOp,ho,h2,Instr.loadAt,Instr.sureAddr,loadVar,ha,hs,loadCells,q2,go_sem]
theorem OpV.load{t:Nat}{x:Operand}{p v:A}{cs:List A}(ho:o.op=.load t x)(ha:∀w,(isAgg t).run P w=.ok false w)(hx:opA env x=p)(hp:Pts H p (v::cs)):OpV P o env H v:=by
 intro fr ro σ N a w r
 have h1:=Qg r x
 rw[hx]at h1
 obtain⟨b,off,h2,⟨y,h3,_,h4⟩,_⟩:=hp fr ro σ w _ r.sim h1
 refine⟨y,?_,h4⟩
 generalize a.eval=ρ at*
 simp[execOp,ho,h2,Instr.loadAt,Instr.sureAddr,loadVar,ha,Go.load,Sem.run,h3,go_sem]
theorem OpV.extract{x:Operand}{vs:List A}{i:Nat}{v:A}(ho:o.op=.extract x i)(hx:opA env x=.tup vs)(hv:vs[i]?=some v):OpV P o env H v:=by
 intro fr ro σ N a w r
 have h1:=Qg r x
 rw[hx]at h1
 obtain⟨l,h1,h2⟩:=h1
 obtain⟨y,h3,h4⟩:=h2.get i hv
 refine⟨y,?_,h4⟩
 generalize a.eval=ρ at*
 simp[execOp,ho,h1,Instr.extract,h3,go_sem]
theorem QaT{fr ro:Nat->Prop}{σ:Sig}{N:Nat}{a:Act}{w:World}(r:Rel fr ro σ H env N a w):∀(l:List Operand),LR ro σ w (l.map (opA env)) (l.map a.eval)
 |[]=>rfl
 |x::l=>⟨_,_,rfl,Qg r x,QaT r l⟩
theorem OpV.makeFunc{f:Fn}{first cap:List Operand}{vf vc:List A}(ho:o.op=.makeFunc f first.toArray cap.toArray)(h1:first.map (opA env)=vf)(h2:cap.map (opA env)=vc):OpV P o env H (.fn f vf vc):=by
 intro fr ro σ N a w r
 refine⟨.func f (first.map a.eval).toArray (cap.map a.eval).toArray,?_,_,_,rfl,h1▸QaT r first,h2▸QaT r cap⟩
 generalize a.eval=ρ at*
 simp[execOp,ho,Instr.makeFunc,go_sem]
theorem Qap{t:TypeId}{x:Operand}{v:A}{d:TypeDesc}(ho:o.op=.makeInterface t x)(ht:∀w,(underlying t).run P w=.ok d w)(hd:∀m,d≠ .interface m)(hx:opA env x=v):OpV P o env H (.iface t v):=by
 intro fr ro σ N a w r
 have h1:=Qg r x
 rw[hx]at h1
 refine⟨.iface t (a.eval x),?_,_,rfl,h1⟩
 generalize a.eval=ρ at*
 cases d<;>first|(simp[execOp,ho,Instr.makeInterface,ht,go_sem];done)|exact(hd _ rfl).elim
end
end Go.Sw
namespace Go.Sw
mutual
def Q2:A->Bool
 |.ptr _ _=>false
 |.osl _ _ _ _=>false
 |.map _=>false
 |.agg cs=>Q6 cs
 |.fn _ a c=>Q6 a&&Q6 c
 |.iface _ v=>Q2 v
 |.tup vs=>Q6 vs
 |_=>true
def Q6:List A->Bool
 |[]=>true
 |a::r=>Q2 a&&Q6 r
end
mutual
theorem VR.data{ro:Nat->Prop}{σ σ':Sig}{w:World}:∀{a:A}{v:Value},Q2 a=true->VR ro σ w a v->VR ro σ' w a v
 |.any,_,_,_=>trivial
 |.bool b,v,_,q=>q
 |.int k n,v,_,q=>q
 |.str s,v,_,q=>q
 |.nilp,v,_,q=>q
 |.ptr i off,v,d,q=>by simp[Q2]at d
 |.rp cs,v,_,q=>q
 |.nils,v,_,q=>q
 |.rsl k es,v,_,q=>q
 |.osl i o n k,v,d,q=>by simp[Q2]at d
 |.agg cs,v,d,q=>by
  simp only[VR,Q2]at q d⊢
  obtain⟨l,h1,h2⟩:=q
  exact⟨l,h1,LR.data d h2⟩
 |.fn f a c,v,d,q=>by
  simp only[VR,Q2,Bool.and_eq_true]at q d⊢
  obtain⟨l,l',h1,h2,h3⟩:=q
  exact⟨l,l',h1,LR.data d.1 h2,LR.data d.2 h3⟩
 |.nilf,v,_,q=>q
 |.iface t a,v,d,q=>by
  simp only[VR,Q2]at q d⊢
  obtain⟨x,h1,h2⟩:=q
  exact⟨x,h1,VR.data d h2⟩
 |.nilif,v,_,q=>q
 |.map i,v,d,q=>by simp[Q2]at d
 |.nilm,v,_,q=>q
 |.tup vs,v,d,q=>by
  simp only[VR,Q2]at q d⊢
  obtain⟨l,h1,h2⟩:=q
  exact⟨l,h1,LR.data d h2⟩
theorem LR.data{ro:Nat->Prop}{σ σ':Sig}{w:World}:∀{az:List A}{l:List Value},Q6 az=true->LR ro σ w az l->LR ro σ' w az l
 |[],_,_,q=>q
 |a::r,l,d,q=>by
  simp only[LR,Q6,Bool.and_eq_true]at q d⊢
  obtain⟨v,l',h1,h2,h3⟩:=q
  exact⟨v,l',h1,VR.data d.1 h2,LR.data d.2 h3⟩
end
def Ye:A->Bool
 |.any|.agg _|.tup _=>false
 |_=>true
def QU:A->List A
 |.agg cs=>cs
 |a=>[a]
def Q4:A->Bool
 |.any=>false
 |_=>true
theorem VR.plain{ro:Nat->Prop}{σ:Sig}{w:World}{a:A}{v:Value}(hp:Ye a=true)(h:VR ro σ w a v):Qv v:=by
 cases a<;>first|(simp[Ye]at hp;done)|skip
 case rsl k es=>obtain⟨ad,c,rfl,_⟩:=h;trivial
 case osl=>rcases h with⟨_,rfl⟩|⟨_,_,_,_,_,_,rfl,_⟩<;>trivial
 case fn=>obtain⟨_,_,rfl,_⟩:=h;trivial
 case iface=>obtain⟨_,rfl,_⟩:=h;trivial
 case ptr=>obtain⟨_,_,rfl⟩:=h;trivial
 case rp=>obtain⟨_,_,rfl,_⟩:=h;trivial
 case map=>obtain⟨_,_,rfl⟩:=h;trivial
 all_goals (simp only[VR]at h;subst h;trivial)
theorem VR.cells{ro:Nat->Prop}{σ:Sig}{w:World}{a:A}{v:Value}(hp:Q4 a=true)(h:VR ro σ w a v):∃l:List Value,v.cells=l.toArray/\LR ro σ w (QU a) l:=by
 cases a
 case any=>simp[Q4]at hp
 case agg cs=>obtain⟨l,rfl,h⟩:=h;exact⟨l,rfl,h⟩
 case tup cs=>obtain⟨l,rfl,h⟩:=h;exact⟨[.tuple l.toArray],rfl,_,_,rfl,⟨l,rfl,h⟩,rfl⟩
 all_goals
  have hv:=h.plain rfl
  refine⟨[v],?_,v,[],rfl,h,rfl⟩
  cases v<;>first|rfl|exact hv.elim
theorem LR.plain{ro:Nat->Prop}{σ:Sig}{w:World}:∀{az:List A}{l:List Value},az.all Ye=true->LR ro σ w az l->∀v∈l,Qv v
 |[],l,_,h=>by cases(show l=[]from h);simp
 |a::az,l,hp,⟨v,l',h1,h2,h3⟩=>by
  subst h1
  simp only[List.all_cons,Bool.and_eq_true]at hp
  intro x hx
  rcases List.mem_cons.1 hx with rfl|hx
  ·exact h2.plain hp.1
  ·exact LR.plain hp.2 h3 x hx
theorem Q5(w:World)(obj:Obj)(b:Nat)(hb:b<w.heap.size):(w.alloc obj).heap[b]?=w.heap[b]? :=by
 show(w.heap.push obj)[b]?=_
 rw[Array.getElem?_push,if_neg (by omega)]
theorem Yi(w:World)(obj:Obj):(w.alloc obj).heap[w.heap.size]?=some obj:=by
 show(w.heap.push obj)[w.heap.size]?=_
 simp
theorem Yf(w:World)(obj:Obj):(w.alloc obj).heap.size=w.heap.size+1:=by
 show(w.heap.push obj).size=_
 simp
theorem QbV{w:World}{b:Nat}{x:TypeId×Nat}(h:w.shape? b=some x):b<w.heap.size:=by
 unfold World.shape? at h
 rcases Nat.lt_or_ge b w.heap.size with q|q
 ·exact q
 ·rw[Array.getElem?_eq_none q]at h;simp at h
theorem Qf.alloc{fr ro:Nat->Prop}{w:World}(obj:Obj)(hro:∀b,ro b->b<w.heap.size)(hfr:∀b,fr b->b<w.heap.size):Qf fr ro w ro (w.alloc obj):=
 ⟨fun _ h=>h,fun b h=>Q5 w obj b (hro b h),fun b h=>Q5 w obj b (hfr b h),by rw[Yf];omega,
  fun b x h=>by unfold World.shape? at h⊢;rw[Q5 w obj b (QbV h)];exact h,rfl,rfl,rfl,Nat.le_refl _⟩
section
variable {P:Program}{o:Oper}{env:Env}{H:Qc}{fr ro:Nat->Prop}{σ:Sig}{w:World}
theorem Sim.alloc(s:Sim fr ro σ H w){obj:Obj}{x:Blk}(hb:BR ro (σ++[some w.heap.size]) (w.alloc obj) x (some w.heap.size))
  (hhd:∀c,Hid (w.alloc obj) x w.heap.size c->False:=by exact fun _ h=>h.elim):
  Sim fr ro (σ++[some w.heap.size]) (H++[x]) (w.alloc obj):=by
 have ev:Qf fr ro w ro (w.alloc obj):=Qf.alloc obj s.roLt s.frLt
 have hl:=s.len
 have hcase:∀(i:Nat) (y:Option Nat),(σ++[some w.heap.size])[i]?=some y->(i<σ.length/\σ[i]?=some y)\/(i=σ.length/\y=some w.heap.size):=by
  intro i y h
  rcases Nat.lt_trichotomy i σ.length with q|q|q
  ·rw[List.getElem?_append_left q]at h;exact .inl ⟨q,h⟩
  ·subst q;simp at h;exact .inr ⟨rfl,h.symm⟩
  ·rw[List.getElem?_eq_none (by simp;omega)]at h;simp at h
 have hH:∀i:Nat,i<σ.length->(H++[x])[i]?=H[i]? :=fun i hi=>List.getElem?_append_left (by omega)
 have hx:(H++[x])[σ.length]?=some x:=by rw[hl];simp
 refine⟨by simp[hl],s.roOk.to (fun _ q=>q) ev.keepRo (fun b h=>?_),fun b h=>?_,s.roFr,?_,?_,?_,?_⟩
 ·rw[Yf];have:=s.roLt b h;omega
 ·rw[Yf];have:=s.frLt b h;omega
 ·intro i b y h1 h2 h3
  rw[Yf]
  rcases hcase i _ h1 with⟨q,h1⟩|⟨rfl,e1⟩
  ·rw[hH i q]at h2
   obtain⟨a,b,c⟩:=s.own i b y h1 h2 h3
   exact⟨by omega,b,c⟩
  ·cases e1
   exact⟨by omega,fun q=>by have:=s.roLt _ q;omega,fun q=>by have:=s.frLt _ q;omega⟩
 ·intro i j b y z h1 h2 h3 h4 h5 h6
  rcases hcase i _ h1 with⟨q,h1⟩|⟨rfl,e1⟩<;>rcases hcase j _ h2 with⟨q',h2⟩|⟨rfl,e2⟩
  ·rw[hH i q]at h3
   rw[hH j q']at h4
   exact s.inj i j b y z h1 h2 h3 h4 h5 h6
  ·cases e2
   rw[hH i q]at h3
   have:=(s.own i _ y h1 h3 h5).1
   omega
  ·cases e1
   rw[hH j q']at h4
   have:=(s.own j _ z h2 h4 h6).1
   omega
  ·rfl
 ·intro i y z h1 h2
  rcases hcase i _ h1 with⟨q,h1⟩|⟨rfl,e1⟩
  ·rw[hH i q]at h2
   refine(s.blk i y z h1 h2).keep (ev.ext σ _) ?_ ?_
   ·rintro b rfl hl
    exact Q5 w obj b (s.own i b z h1 h2 hl).1
   ·rintro b c rfl hl
    exact Q5 w obj c (s.hid i b z c h1 h2 hl).lt
  ·rw[hx]at h2;cases h2;subst e1;exact hb
 ·refine s.hidTo (· = ·) QP (by rw[Yf];omega) (fun _ _ _ _ _ _ _ q=>q) (fun _ _ _ _ _ _ _ q=>q) fun j d y g1 g2 g3=>?_
  rcases hcase j _ g1 with⟨q,g1⟩|⟨rfl,e1⟩
  ·rw[hH j q]at g2
   exact .inl ⟨j,y,rfl,g1,g2,id,fun c q=>s.hidKeep g1 g2 (fun z=>Q5 w obj d (s.own j d y g1 g2 z).1) ev.keepRo q⟩
  ·rw[hx]at g2;cases g2;cases e1
   exact .inr ⟨Nat.le_refl _,hhd⟩
theorem Sim.allocCells(s:Sim fr ro σ H w){t:Nat}{cs:List A}{l:List Value}(h:LR ro σ w cs l)(hp:∀v∈l,Qv v):
  Sim fr ro (σ++[some w.heap.size]) (H++[.cells t cs]) (w.alloc (.cells l.toArray t)):=
 s.alloc ⟨l,Yi _ _,h.mono ((Qf.alloc (fr:=fr) _ s.roLt s.frLt).ext σ _),hp⟩
theorem QfJ{ro:Nat->Prop}{σ:Sig}{w:World}:∀{az bs:List A}{l:List Value},LR ro σ w (az++bs) l->∃l1 l2,l=l1++l2/\LR ro σ w az l1/\LR ro σ w bs l2
 |[],bs,l,h=>⟨[],l,rfl,rfl,h⟩
 |a::az,bs,l,⟨v,l',h1,h2,h3⟩=>by
  obtain⟨l1,l2,e,q1,q2⟩:=QfJ h3
  subst h1 e
  exact⟨v::l1,l2,rfl,⟨v,l1,rfl,h2,q1⟩,q2⟩
def allK(k:Nat):List (List A)->Prop
 |[]=>True
 |c::es=>c.length=k/\allK k es
theorem QaD{k:Nat}:∀{es:List (List A)}{l rest:List Value},allK k es->LR ro σ w es.flatten l->(∀v∈l,Qv v)->RL ro σ w k es (l++rest)
 |[],_,_,_,_,_=>trivial
 |c::es,l,rest,⟨h1,h2⟩,h,hp=>by
  rw[List.flatten_cons]at h
  obtain⟨l1,l2,rfl,q1,q2⟩:=QfJ h
  exact⟨l1,l2++rest,by simp,h1,⟨q1,fun v hv=>hp v (by simp[hv])⟩,QaD h2 q2 (fun v hv=>hp v (by simp[hv]))⟩
theorem Sim.allocRow(s:Sim fr ro σ H w){t k:Nat}{es:List (List A)}{l rest:List Value}(hk:allK k es)(h:LR ro [] w es.flatten l)(hp:∀v∈l,Qv v):
  Sim fr ro (σ++[some w.heap.size]) (H++[.row t k es]) (w.alloc (.cells (l++rest).toArray t)):=
 s.alloc ⟨l++rest,Yi _ _,(QaD hk h hp).mono ((Qf.alloc (fr:=fr) _ s.roLt s.frLt).ext0 [])⟩
theorem OpH.box{t:Nat}{x:Operand}{v:A}{cs:List A}(ho:o.op=.box t x)(hx:opA env x=v)(hk:Q4 v=true)(hcs:QU v=cs)(hpl:cs.all Ye=true):
  OpH P o env H (.ptr H.length 0) (H++[.cells t cs]):=by
 intro fr ro σ N a w r
 have h1:=Qg r x
 rw[hx]at h1
 obtain⟨l,h2,h3⟩:=h1.cells hk
 subst hcs
 refine⟨.pointer (some ⟨w.heap.size,0,none⟩),w.alloc (.cells l.toArray t),ro,[some w.heap.size],?_,⟨w.heap.size,?_,rfl⟩,r.sim.allocCells h3 (h3.plain hpl),Qf.alloc _ r.sim.roLt r.sim.frLt⟩
 ·generalize a.eval=ρ at*
  have e:(newVar t (ρ x)).run P w=.ok ⟨w.heap.size,0,none⟩ (w.alloc (.cells l.toArray t)):=by
   unfold newVar;rw[h2];rfl
  simp only[execOp,ho,Instr.box,Sem.run_bind,e]
  rfl
 ·rw[<- r.sim.len];simp
theorem OpH.alloc{t:Nat}{z:Value}{v:A}{cs:List A}(ho:o.op=.alloc t)(hz:∀w,(zeroValue t).run P w=.ok z w)(hv:opA [] (.const z)=v\/ ∃l:List Value,z=.agg l.toArray/\l.map (fun x=>opA [] (.const x))=QU v/\ ∃c,v=.agg c)(hk:Q4 v=true)(hcs:QU v=cs)(hpl:cs.all Ye=true):
  OpH P o env H (.ptr H.length 0) (H++[.cells t cs]):=by
 intro fr ro σ N a w r
 have hz':VR ro σ w v z:=by
  rcases hv with rfl|⟨l,rfl,h,c,rfl⟩
  ·exact Qg (env:=[]) (a:={a with}) (N:=N) (H:=H) ⟨r.sim,fun s=>trivial,r.size,r.defers⟩ (.const z)
  ·refine⟨l,rfl,?_⟩
   have:∀l:List Value,LR ro σ w (l.map fun x=>opA [] (.const x)) l:=by
    intro l
    induction l with
    |nil=>rfl
    |cons y l ih=>exact⟨y,l,rfl,Qg (env:=[]) (a:={a with}) (N:=N) (H:=H) ⟨r.sim,fun s=>trivial,r.size,r.defers⟩ (.const y),ih⟩
   have:=this l
   rw[h]at this;exact this
 obtain⟨l,h2,h3⟩:=hz'.cells hk
 subst hcs
 refine⟨.pointer (some ⟨w.heap.size,0,none⟩),w.alloc (.cells l.toArray t),ro,[some w.heap.size],?_,⟨w.heap.size,?_,rfl⟩,r.sim.allocCells h3 (h3.plain hpl),Qf.alloc _ r.sim.roLt r.sim.frLt⟩
 ·generalize a.eval=ρ at*
  have e:(newVar t z).run P w=.ok ⟨w.heap.size,0,none⟩ (w.alloc (.cells l.toArray t)):=by
   unfold newVar;rw[h2];rfl
  simp only[execOp,ho,Instr.alloc,Sem.run_bind,hz,Result.andThen,e]
  rfl
 ·rw[<- r.sim.len];simp
theorem Sim.set(s:Sim fr ro σ H w){i b:Nat}{x x':Blk}{obj:Obj}(hσ:σ[i]?=some (some b))(hH:H[i]?=some x)(hl:x.live=true)
  (hsh:∀y,w.shape? b=some y->({w with heap:=w.heap.setIfInBounds b obj}:World).shape? b=some y)
  (hbr:Ext ro σ w ro σ {w with heap:=w.heap.setIfInBounds b obj}->({w with heap:=w.heap.setIfInBounds b obj}:World).heap[b]?=some obj->BR ro σ {w with heap:=w.heap.setIfInBounds b obj} x' (some b))
  (hhd:∀c,Hid {w with heap:=w.heap.setIfInBounds b obj} x' b c->Hid w x b c:=by exact fun _ h=>h.elim):
  Sim fr ro σ (H.set i x') {w with heap:=w.heap.setIfInBounds b obj}/\Qf fr ro w ro {w with heap:=w.heap.setIfInBounds b obj}:=by
 obtain⟨hb,hbro,hbfr⟩:=s.own i b x hσ hH hl
 have hne:∀c,c≠b->({w with heap:=w.heap.setIfInBounds b obj}:World).heap[c]?=w.heap[c]? :=by
  intro c hc
  show(w.heap.setIfInBounds b obj)[c]?=_
  rw[Array.getElem?_setIfInBounds,if_neg (fun q=>hc q.symm)]
 have heq:({w with heap:=w.heap.setIfInBounds b obj}:World).heap[b]?=some obj:=by
  show(w.heap.setIfInBounds b obj)[b]?=_
  rw[Array.getElem?_setIfInBounds,if_pos rfl,if_pos hb]
 have hsz:({w with heap:=w.heap.setIfInBounds b obj}:World).heap.size=w.heap.size:=by simp
 have ev:Qf fr ro w ro {w with heap:=w.heap.setIfInBounds b obj}:=
  ⟨fun _ h=>h,fun c h=>hne c (fun q=>hbro (q▸h)),fun c h=>hne c (fun q=>hbfr (q▸h)),by rw[hsz];exact Nat.le_refl _,by
   intro c y h
   by_cases q:c=b
   ·subst q;exact hsh y h
   ·unfold World.shape? at h⊢;rw[hne c q];exact h,rfl,rfl,rfl,Nat.le_refl _⟩
 have hi:i<H.length:=(List.getElem?_eq_some_iff.1 hH).1
 have hHi:(H.set i x')[i]?=some x':=List.getElem?_set_self hi
 have hHj:∀j,j≠i->(H.set i x')[j]?=H[j]? :=fun j hj=>List.getElem?_set_ne (fun q=>hj q.symm)
 have hbr':=hbr (ev.ext0 σ) heq
 refine⟨⟨by rw[List.length_set];exact s.len,s.roOk.to (fun _ q=>q) ev.keepRo (fun c h=>by rw[hsz];exact s.roLt c h),fun c h=>by rw[hsz];exact s.frLt c h,s.roFr,?_,?_,?_,?_⟩,ev⟩
 ·intro j c y h1 h2 h3
  rw[hsz]
  by_cases q:j=i
  ·subst q
   rw[hσ]at h1;cases h1
   exact⟨hb,hbro,hbfr⟩
  ·rw[hHj j q]at h2;exact s.own j c y h1 h2 h3
 ·intro j j' c y z h1 h2 h3 h4 h5 h6
  by_cases q:j=i
  ·subst q
   rw[hσ]at h1;cases h1
   by_cases q':j'=j
   ·exact q'.symm
   ·rw[hHj j' q']at h4
    exact s.inj j j' _ x z hσ h2 hH h4 hl h6
  ·rw[hHj j q]at h3
   by_cases q':j'=i
   ·subst q'
    rw[hσ]at h2;cases h2
    exact s.inj j j' _ y x h1 hσ h3 hH h5 hl
   ·rw[hHj j' q']at h4
    exact s.inj j j' c y z h1 h2 h3 h4 h5 h6
 ·intro j y z h1 h2
  by_cases q:j=i
  ·subst q
   rw[hHi]at h2;cases h2
   rw[hσ]at h1;cases h1
   exact hbr'
  ·rw[hHj j q]at h2
   refine(s.blk j y z h1 h2).keep (ev.ext0 σ) ?_ ?_
   ·rintro c rfl hlz
    exact hne c (fun e=>q (s.inj j i b z x (e▸h1) hσ h2 hH hlz hl))
   ·rintro c d rfl hd
    exact hne d ((s.hid j c z d h1 h2 hd).ne i b x hσ hH hl)
 ·refine s.hidTo (· = ·) QP (by rw[hsz];exact Nat.le_refl _) (fun _ _ _ _ _ _ _ q=>q) (fun _ _ _ _ _ _ _ q=>q) fun j d y g1 g2 g3=>.inl ?_
  by_cases q:j=i
  ·subst q
   rw[hHi]at g2;cases g2
   rw[hσ]at g1;cases g1
   exact⟨j,x,rfl,hσ,hH,fun _=>hl,hhd⟩
  ·rw[hHj j q]at g2
   exact⟨j,y,rfl,g1,g2,id,fun c z=>s.hidKeep g1 g2 (fun hlz=>hne d (fun e=>q (s.inj j i b y x (e▸g1) hσ g2 hH hlz hl))) ev.keepRo z⟩
def splice{α:Type}(l:List α)(o:Nat)(vs:List α):List α:=l.take o++vs++l.drop (o+vs.length)
theorem Q9{α:Type}{l:List α}{o:Nat}{vs:List α}(h:o+vs.length<=l.length):(splice l o vs).length=l.length:=by
 simp[splice];omega
theorem Qbs{h:Array Obj}{b:Nat}{f:Obj->Obj}{x:Obj}(hb:h[b]?=some x):h.modify b f=h.setIfInBounds b (f x):=by
 apply Array.ext_getElem?
 intro i
 rw[Array.getElem?_modify,Array.getElem?_setIfInBounds]
 by_cases e:b=i
 ·subst e
  obtain⟨hlt,he⟩:=Array.getElem?_eq_some_iff.1 hb
  simp[he,hlt]
 ·simp[e]
theorem Yr{b t:Nat}:∀{vs l:List Value}{w:World} (off i:Nat),w.heap[b]?=some (.cells l.toArray t (0,0))->off+i+vs.length<=l.length->(∀v∈vs,Qv v)->
  (storeCells ⟨b,off,none⟩ vs i).run P w=.ok () {w with heap:=w.heap.setIfInBounds b (.cells (splice l (off+i) vs).toArray t (0,0))}
 |[],l,w,off,i,hb,hl,hp=>by
  have e:w.heap.setIfInBounds b (.cells (splice l (off+i) []).toArray t (0,0))=w.heap:=by
   apply Array.ext_getElem?
   intro j
   rw[Array.getElem?_setIfInBounds]
   by_cases q:b=j
   ·subst q
    obtain⟨hlt,he⟩:=Array.getElem?_eq_some_iff.1 hb
    simp[hlt,splice,he]
   ·rw[if_neg q]
  rw[e]
  simp[storeCells,go_sem]
 |v::vs,l,w,off,i,hb,hl,hp=>by
  simp only[List.length_cons]at hl
  have hv:=hp v (by simp)
  have hc:w.cell? ⟨b,off+i,none⟩=some l[off+i]:=by
   simp[World.cell?,hb]
  have hfz:w.frozen? ⟨b,off+i,none⟩=false:=by
   simp[World.frozen?,hb]
  have hset:w.setCell ⟨b,off+i,none⟩ v={w with heap:=w.heap.setIfInBounds b (.cells (splice l (off+i) [v]).toArray t (0,0))}:=by
   unfold World.setCell
   rw[Qbs hb]
   simp only[Option.isSome_none,Bool.false_eq_true,if_false]
   congr 3
   have:l.toArray.setIfInBounds (off+i) v=(l.set (off+i) v).toArray:=by simp
   rw[this]
   congr 1
   rw[List.set_eq_take_append_cons_drop,if_pos (by omega)]
   simp[splice]
  have hlt:b<w.heap.size:=by
   rcases Nat.lt_or_ge b w.heap.size with q|q
   ·exact q
   ·rw[Array.getElem?_eq_none q]at hb;simp at hb
  have ih:=Yr (vs:=vs) (l:=splice l (off+i) [v]) (w:={w with heap:=w.heap.setIfInBounds b (.cells (splice l (off+i) [v]).toArray t (0,0))}) off (i+1)
   (by show(w.heap.setIfInBounds b _)[b]?=_;rw[Array.getElem?_setIfInBounds,if_pos rfl,if_pos hlt])
   (by rw[Q9 (by simp;omega)];omega) (fun x hx=>hp x (by simp[hx]))
  have e2:splice (splice l (off+i) [v]) (off+(i+1)) vs=splice l (off+i) (v::vs):=by
   have hlen:(l.take (off+i)).length=off+i:=by simp;omega
   unfold splice
   rw[List.append_assoc (l.take (off+i))]
   have e3:off+(i+1)=(l.take (off+i)).length+1:=by omega
   have e5:(l.take (off+i)++([v]++l.drop (off+i+[v].length))).take ((l.take (off+i)).length+1)=l.take (off+i)++[v]:=by
    rw[List.take_length_add_append];simp
   have e6:(l.take (off+i)++([v]++l.drop (off+i+[v].length))).drop ((l.take (off+i)).length+1+vs.length)=l.drop (off+i+(v::vs).length):=by
    rw[show(l.take (off+i)).length+1+vs.length=(l.take (off+i)).length+(1+vs.length)from by omega,List.drop_length_add_append]
    simp[Nat.add_comm 1]
    congr 1;omega
   rw[e3,e5,e6];simp
  have e4:(w.heap.setIfInBounds b (.cells (splice l (off+i) [v]).toArray t (0,0))).setIfInBounds b (.cells (splice (splice l (off+i) [v]) (off+(i+1)) vs).toArray t (0,0))=
    w.heap.setIfInBounds b (.cells (splice l (off+i) (v::vs)).toArray t (0,0)):=by
   rw[e2,Array.setIfInBounds_setIfInBounds]
  rw[e4]at ih
  have hst:(Go.store ⟨b,off+i,none⟩ v).run P w=.ok () {w with heap:=w.heap.setIfInBounds b (.cells (splice l (off+i) [v]).toArray t (0,0))}:=by
   rw[<- hset]
   cases v<;>first|exact hv.elim|simp[Go.store,Sem.run,hc,hfz,go_sem]
  simp only[storeCells,QaC,Sem.run_bind,hst]
  exact ih
theorem QaP{w:World}{b t:Nat}{l l':List Value}(hb:w.heap[b]?=some (.cells l.toArray t (0,0)))(hl:l'.length=l.length)(y:TypeId×Nat)(h:w.shape? b=some y):
  ({w with heap:=w.heap.setIfInBounds b (.cells l'.toArray t (0,0))}:World).shape? b=some y:=by
 have hlt:b<w.heap.size:=by
  rcases Nat.lt_or_ge b w.heap.size with q|q
  ·exact q
  ·rw[Array.getElem?_eq_none q]at hb;simp at hb
 unfold World.shape? at h⊢
 rw[hb]at h
 simp at h
 subst h
 show(match(w.heap.setIfInBounds b (.cells l'.toArray t (0,0)))[b]? with|some (.cells c elem _)=>some (elem,c.size)|_=>none)=_
 rw[Array.getElem?_setIfInBounds,if_pos rfl,if_pos hlt]
 simp[hl]
theorem LR.splice{ro:Nat->Prop}{σ:Sig}{w:World}{az vs:List A}{l m:List Value}(off:Nat)(h:LR ro σ w az l)(k:LR ro σ w vs m):LR ro σ w (Sw.splice az off vs) (Sw.splice l off m):=by
 unfold Sw.splice
 rw[k.length]
 exact((h.take off).append k).append (h.drop _)
theorem Qde{l m:List Value}{off:Nat}(h:∀v∈l,Qv v)(k:∀v∈m,Qv v):∀v∈Sw.splice l off m,Qv v:=by
 intro v hv
 simp only[Sw.splice,List.mem_append]at hv
 rcases hv with(hv|hv)|hv
 ·exact h v (List.mem_of_mem_take hv)
 ·exact k v hv
 ·exact h v (List.mem_of_mem_drop hv)
theorem OpU.store{t n i off T:Nat}{x y:Operand}{cs vs cs':List A}{v:A}(ho:o.op=.store t x y)(hx:opA env x=.ptr i off)(hH:H[i]?=some (.cells T cs))(hs:∀w,(sizeOf t).run P w=.ok n w)
  (hy:opA env y=v)(hk:Q4 v=true)(hv:QU v=vs)(hn:vs.length=n)(hp:vs.all Ye=true)(hoff:Nat.ble (off+n) cs.length=true)(hcs:splice cs off vs=cs'):
  OpU P o env H (H.set i (.cells T cs')):=by
 intro fr ro σ N a w r
 have h1:=Qg r x
 rw[hx]at h1
 obtain⟨b,h1,h2⟩:=h1
 have h3:=Qg r y
 rw[hy]at h3
 obtain⟨m,h4,h5⟩:=h3.cells hk
 rw[hv]at h5
 obtain⟨l,q1,q2,q3⟩:=r.sim.blk i _ _ h1 hH
 have hoff':off+n<=cs.length:=by simpa using hoff
 have hm:m.length=n:=by rw[h5.length,hn]
 have hrun:=Yr (P:=P) (vs:=m) off 0 q1 (by rw[q2.length,hm];omega) (h5.plain hp)
 have hset:=r.sim.set (x':=.cells T cs') (obj:=.cells (splice l off m).toArray T (0,0)) h1 hH rfl
  (fun y hy=>QaP q1 (Q9 (by rw[q2.length,hm];omega)) y hy)
  (fun e he=>⟨_,he,hcs▸(q2.splice off h5).mono e,Qde q3 (h5.plain hp)⟩)
 refine⟨_,ro,[],?_,by simpa using hset.1,hset.2⟩
 generalize a.eval=ρ at*
 have hsz:(ρ y).cells.size=n:=by rw[h4];simp[hm]
 have hst:(storeVar t ⟨b,off,none⟩ (ρ y)).run P w=.ok () {w with heap:=w.heap.setIfInBounds b (.cells (splice l off m).toArray T (0,0))}:=by
  unfold storeVar
  rw[Sem.run_bind,hs]
  simp only[Result.andThen]
  rw[if_neg (by simp[hsz]),h4]
  simpa using hrun
 simp only[execOp,ho,h2,Instr.storeAt,Instr.sureAddr,pure_bind,Sem.run_bind,hst]
 rfl
theorem RL.splice{ro:Nat->Prop}{σ:Sig}{w:World}{k:Nat}:∀{e:Nat}{es:List (List A)}{l m:List Value}{c c':List A}{f:Nat},RL ro σ w k es l->es[e]?=some c->LR ro σ w c' m->(∀v∈m,Qv v)->f+c'.length<=k->
  RL ro σ w k (es.set e (Sw.splice c f c')) (Sw.splice l (e*k+f) m)
 |_,[],_,_,_,_,_,_,h,_,_,_=>by simp at h
 |0,c0::es,l,m,c,c',f,⟨l1,l2,h1,h2,h3,h4⟩,hc,hm,hp,hf=>by
  simp at hc;subst hc h1
  have hl1:=h3.1.length
  refine⟨Sw.splice l1 f m,l2,?_,?_,⟨h3.1.splice f hm,Qde h3.2 hp⟩,h4⟩
  ·unfold Sw.splice
   simp only[Nat.zero_mul,Nat.zero_add,List.append_assoc]
   rw[List.take_append_of_le_length (by omega),List.drop_append_of_le_length (by rw[hm.length];omega)]
  ·rw[Q9 (by omega)];exact h2
 |e+1,c0::es,l,m,c,c',f,⟨l1,l2,h1,h2,h3,h4⟩,hc,hm,hp,hf=>by
  subst h1
  have hl1:=h3.1.length
  refine⟨l1,Sw.splice l2 (e*k+f) m,?_,h2,h3,RL.splice h4 (by simpa using hc) hm hp hf⟩
  have e1:(e+1)*k+f=l1.length+(e*k+f):=by rw[Nat.succ_mul];omega
  unfold Sw.splice
  rw[e1,List.take_length_add_append,show l1.length+(e*k+f)+m.length=l1.length+(e*k+f+m.length)from by omega,List.drop_length_add_append]
  simp
theorem RL.length{ro:Nat->Prop}{σ:Sig}{w:World}{k:Nat}:∀{es:List (List A)}{l:List Value},RL ro σ w k es l->es.length*k<=l.length
 |[],l,_=>by simp
 |c::es,l,⟨l1,l2,h1,h2,h3,h4⟩=>by
  subst h1
  have:=RL.length h4
  have:=h3.1.length
  simp only[List.length_cons,List.length_append,Nat.succ_mul];omega
theorem QeS{t n i off T k e f:Nat}{x y:Operand}{es es':List (List A)}{c vs c':List A}{v:A}(ho:o.op=.store t x y)(hx:opA env x=.ptr i off)(hH:H[i]?=some (.row T k es))(hs:∀w,(sizeOf t).run P w=.ok n w)
  (hoff:off=e*k+f)(hc:es[e]?=some c)(hy:opA env y=v)(hk:Q4 v=true)(hv:QU v=vs)(hn:vs.length=n)(hp:vs.all Ye=true)(hd:Q6 vs=true)(hf:Nat.ble (f+n) k=true)
  (hcs:splice c f vs=c')(hes:es.set e c'=es'):
  OpU P o env H (H.set i (.row T k es')):=by
 intro fr ro σ N a w r
 have h1:=Qg r x
 rw[hx]at h1
 obtain⟨b,h1,h2⟩:=h1
 have h3:=Qg r y
 rw[hy]at h3
 obtain⟨m,h4,h5⟩:=h3.cells hk
 rw[hv]at h5
 obtain⟨l,q1,q2⟩:=r.sim.blk i _ _ h1 hH
 have hf':f+n<=k:=by simpa using hf
 have hm:m.length=n:=by rw[h5.length,hn]
 have he:e<es.length:=(List.getElem?_eq_some_iff.1 hc).1
 have hlen:off+n<=l.length:=by
  have:=q2.length
  have h6:(e+1)*k<=es.length*k:=Nat.mul_le_mul_right k he
  rw[Nat.succ_mul]at h6
  omega
 have hrun:=Yr (P:=P) (vs:=m) off 0 q1 (by omega) (h5.plain hp)
 have hset:=r.sim.set (x':=.row T k es') (obj:=.cells (splice l off m).toArray T (0,0)) h1 hH rfl
  (fun y hy=>QaP q1 (Q9 (by omega)) y hy)
  (fun ex hex=>⟨_,hex,by
   subst hes hcs hoff
   exact(q2.splice hc (h5.data hd) (h5.plain hp) (by rw[hn];exact hf')).mono ex.nil⟩)
 refine⟨_,ro,[],?_,by simpa using hset.1,hset.2⟩
 generalize a.eval=ρ at*
 have hsz:(ρ y).cells.size=n:=by rw[h4];simp[hm]
 have hst:(storeVar t ⟨b,off,none⟩ (ρ y)).run P w=.ok () {w with heap:=w.heap.setIfInBounds b (.cells (splice l off m).toArray T (0,0))}:=by
  unfold storeVar
  rw[Sem.run_bind,hs]
  simp only[Result.andThen]
  rw[if_neg (by simp[hsz]),h4]
  simpa using hrun
 simp only[execOp,ho,h2,Instr.storeAt,Instr.sureAddr,pure_bind,Sem.run_bind,hst]
 rfl
end
end Go.Sw
namespace Go.Sw
section
variable {P:Program}{o:Oper}{env:Env}{H:Qc}{fr ro:Nat->Prop}{σ:Sig}{w:World}
theorem Ext.heap{w':World}(h:w'.heap=w.heap):Ext ro σ w ro σ w':=
 ⟨fun _ q=>q,fun b _=>by rw[h],fun b x q=>by unfold World.shape? at q⊢;rw[h];exact q,fun _ _ q=>q⟩
theorem Sim.heap{w':World}(s:Sim fr ro σ H w)(h:w'.heap=w.heap):Sim fr ro σ H w':=
 ⟨s.len,s.roOk.to (fun _ q=>q) (fun b _=>by rw[h]) (fun b q=>by rw[h];exact s.roLt b q),fun b q=>by rw[h];exact s.frLt b q,s.roFr,fun i b x q1 q2 q3=>by rw[h];exact s.own i b x q1 q2 q3,s.inj,
  fun i y x q1 q2=>(s.blk i y x q1 q2).keep (Ext.heap h) (fun b _ _=>by rw[h]) (fun b c _ _=>by rw[h]),
  s.hidTo (· = ·) QP (by rw[h];exact Nat.le_refl _) (fun _ _ _ _ _ _ _ q=>q) (fun _ _ _ _ _ _ _ q=>q) fun j d y g1 g2 g3=>.inl ⟨j,y,rfl,g1,g2,id,fun c q=>q.keep (by rw[h])⟩⟩
theorem Qf.heap{w':World}(h:w'.heap=w.heap)(ho:w'.os=w.os)(ht:w'.tape=w.tape)(hu:w'.output=w.output)(hd:w.drawn<=w'.drawn):Qf fr ro w ro w':=
 ⟨fun _ q=>q,fun b _=>by rw[h],fun b _=>by rw[h],by rw[h];exact Nat.le_refl _,fun b x q=>by unfold World.shape? at q⊢;rw[h];exact q,ho,ht,hu,hd⟩
theorem Sim.moved(s:Sim fr ro σ H w){i:Nat}{x:Blk}{y:Option Nat}(hH:H[i]?=some x)(hσ:σ[i]?=some y):Sim fr ro (σ++[y]) (H.set i .dead++[x]) w:=by
 have hl:=s.len
 have hi:i<H.length:=(List.getElem?_eq_some_iff.1 hH).1
 have hcase:∀(j:Nat) (z:Option Nat) (v:Blk),(σ++[y])[j]?=some z->(H.set i .dead++[x])[j]?=some v->v≠ .dead->
   (j<σ.length/\j≠i/\σ[j]?=some z/\H[j]?=some v)\/(j=σ.length/\z=y/\v=x):=by
  intro j z v h1 h2 h3
  rcases Nat.lt_trichotomy j σ.length with q|q|q
  ·rw[List.getElem?_append_left q]at h1
   rw[List.getElem?_append_left (by rw[List.length_set];omega)]at h2
   by_cases e:j=i
   ·subst e;rw[List.getElem?_set_self hi]at h2;cases h2;exact absurd rfl h3
   ·rw[List.getElem?_set_ne (fun q=>e q.symm)]at h2;exact .inl ⟨q,e,h1,h2⟩
  ·subst q
   have e1:(σ++[y])[σ.length]?=some y:=by simp
   have e2:(H.set i .dead++[x])[σ.length]?=some x:=by rw[hl,show H.length=(H.set i .dead).length from by simp];simp
   rw[e1]at h1;rw[e2]at h2;cases h1;cases h2
   exact .inr ⟨rfl,rfl,rfl⟩
  ·rw[List.getElem?_eq_none (by simp;omega)]at h1;simp at h1
 have hσ':∀(j:Nat) (b:Nat),σ[j]?=some (some b)->(σ++[y])[j]?=some (some b):=fun j b h=>YN h
 have ext:Ext ro σ w ro (σ++[y]) w:=⟨fun _ q=>q,fun _ _=>rfl,fun _ _ q=>q,hσ'⟩
 refine⟨by simp[hl],s.roOk,s.frLt,s.roFr,?_,?_,?_,s.hidTo (fun j j0=>(j<σ.length/\j≠i/\j0=j)\/(j=σ.length/\j0=i)) (by omega) (Nat.le_refl _) (fun _ _ _ _ _ _ _ q=>q) (fun _ _ _ _ _ _ _ q=>q) fun j d y g1 g2 g3=>.inl ?_⟩
 rotate_left 3
 ·rcases hcase j _ y g1 g2 (Qch g3)with⟨q0,q0',q1,q2⟩|⟨q0,e1,rfl⟩
  ·exact⟨j,y,.inl ⟨q0,q0',rfl⟩,q1,q2,id,fun _ q=>q⟩
  ·subst e1;exact⟨i,y,.inr ⟨q0,rfl⟩,hσ,hH,id,fun _ q=>q⟩
 ·intro j b v h1 h2 h3
  rcases hcase j _ v h1 h2 (YP h3)with⟨_,_,q1,q2⟩|⟨_,e1,rfl⟩
  ·exact s.own j b v q1 q2 h3
  ·subst e1;exact s.own i b v hσ hH h3
 ·intro j j' b v v' h1 h2 h3 h4 h5 h6
  rcases hcase j _ v h1 h3 (YP h5)with⟨_,n1,q1,q2⟩|⟨r1,e1,r2⟩<;>rcases hcase j' _ v' h2 h4 (YP h6)with⟨_,n1',q1',q2'⟩|⟨r1',e1',r2'⟩
  ·exact s.inj j j' b v v' q1 q1' q2 q2' h5 h6
  ·subst e1' r2';exact(n1 (s.inj j i b v v' q1 hσ q2 hH h5 h6)).elim
  ·subst e1 r2;exact(n1' (s.inj j' i b v' v q1' hσ q2' hH h6 h5)).elim
  ·rw[r1,r1']
 ·intro j z v h1 h2
  by_cases hv:v≠ .dead
  ·rcases hcase j z v h1 h2 hv with⟨_,_,q1,q2⟩|⟨_,rfl,rfl⟩
   ·exact(s.blk j z v q1 q2).keep ext (fun _ _ _=>rfl) (fun _ _ _ _=>rfl)
   ·exact(s.blk i _ _ hσ hH).keep ext (fun _ _ _=>rfl) (fun _ _ _ _=>rfl)
  ·obtain rfl:v=.dead:=Classical.not_not.1 hv
   trivial
def Src(P:Program)(H:Qc)(x:A)(k:Nat)(es:List (List A)):Prop:=
 ∀fr ro σ w v,Sim fr ro σ H w->VR ro σ w x v->(∃a c,v=.slice a es.length c)/\allK k es/\
  ∃l,(∀w':World,w'.heap=w.heap->(Builtin.firstCells k es.length v).run P w'=.ok l.toArray w')/\LR ro [] w es.flatten l/\ ∀v∈l,Qv v
theorem RR.flat{b k:Nat}:∀{es:List (List A)}{off:Nat},RR ro σ w b k es off->CR ro σ w b es.flatten off/\allK k es/\es.flatten.length=es.length*k
 |[],off,_=>⟨trivial,trivial,by simp⟩
 |c::es,off,⟨h1,h2,h3⟩=>by
  obtain⟨q1,q2,q3⟩:=RR.flat h3
  refine⟨?_,⟨h1,q2⟩,by simp[q3,h1,Nat.succ_mul,Nat.add_comm]⟩
  rw[List.flatten_cons]
  have:∀(c:List A) (off:Nat) (d:List A),CR ro σ w b c off->CR ro σ w b d (off+c.length)->CR ro σ w b (c++d) off:=by
   intro c
   induction c with
   |nil=>intro off d _ h;simpa using h
   |cons x c ih=>intro off d ⟨h1,h2⟩ h;exact⟨h1,ih (off+1) d h2 (by rw[Nat.add_assoc,Nat.add_comm 1];simpa using h)⟩
  exact this c off _ h2 (by rw[h1];exact q1)
theorem Qcl{b off k n c:Nat}{cs:List A}(h:CR ro σ w b cs off)(hn:cs.length=n*k):
  ∃l,(∀w':World,w'.heap=w.heap->(Builtin.firstCells k n (.slice (some ⟨b,off,none⟩) n c)).run P w'=.ok l.toArray w')/\LR ro σ w cs l/\ ∀v∈l,Qv v:=by
 obtain⟨l,q1,q2,q3⟩:=Yk (P:=P) (cs:=cs) (off:=off) 0 (by simpa using h)
 refine⟨l,fun w' hw=>?_,q1,q2⟩
 rw[hn]at q3
 simp only[Builtin.firstCells,loadCells]
 simpa using q3 w' #[] hw
theorem Qag{k c:Nat}{a:Option Addr}:(Builtin.firstCells k 0 (.slice a 0 c)).run P w=.ok #[] w:=by
 cases a<;>simp[Builtin.firstCells,loadCells,loadCellsFrom,go_sem]
theorem Src.rsl{k:Nat}{es:List (List A)}:Src P H (.rsl k es) k es:=by
 intro fr ro σ w v s ⟨a,c,h1,h2,h3⟩
 subst h1
 refine⟨⟨a,c,rfl⟩,?_⟩
 rcases h3 with rfl|⟨b,off,rfl,h4,h5⟩
 ·exact⟨trivial,[],fun _ _=>Qag,rfl,by simp⟩
 ·obtain⟨q1,q2,q3⟩:=h5.flat
  exact⟨q2,Qcl q1 q3⟩
theorem Src.nils{k:Nat}:Src P H .nils k []:=by
 intro fr ro σ w v s h
 simp only[VR]at h
 subst h
 exact⟨⟨none,0,rfl⟩,trivial,[],fun _ _=>Qag,rfl,by simp⟩
theorem RR.drop{b k:Nat}:∀(n:Nat) {es:List (List A)}{off:Nat},RR ro σ w b k es off->RR ro σ w b k (es.drop n) (off+n*k)
 |0,_,_,h=>by simpa using h
 |n+1,[],_,_=>trivial
 |n+1,c::es,off,⟨h1,h2,h3⟩=>by
  have:=RR.drop n h3
  rw[show off+(n+1)*k=off+k+n*k from by rw[Nat.succ_mul];omega];exact this
theorem RR.take{b k:Nat}:∀(n:Nat) {es:List (List A)}{off:Nat},RR ro σ w b k es off->RR ro σ w b k (es.take n) off
 |0,_,_,h=>trivial
 |n+1,[],_,_=>trivial
 |n+1,c::es,off,⟨h1,h2,h3⟩=>⟨h1,h2,RR.take n h3⟩
theorem Src.osl{i s n k t:Nat}{es es':List (List A)}(hH:H[i]?=some (.row t k es))(he:(es.drop s).take n=es')(hn:s+n<=es.length):Src P H (.osl i s n k) k es':=by
 intro fr ro σ w v sm h
 have hl:es'.length=n:=by rw[<- he];simp;omega
 rcases h with⟨rfl,rfl⟩|⟨b,p,cap,t',m,h1,rfl,h2,h3,h4,h5⟩
 ·have e:es'=[]:=List.length_eq_zero_iff.1 hl
  subst e
  exact⟨⟨none,0,rfl⟩,trivial,[],fun _ _=>Qag,rfl,by simp⟩
 ·rw[hl]
  refine⟨⟨_,cap,rfl⟩,?_⟩
  obtain⟨l,q1,q2⟩:=sm.blk i _ _ h1 hH
  have hr:=((Ys (pre:=[]) (by simpa using q1) q2).drop s).take n
  rw[he]at hr
  by_cases hc:0<cap
  ·obtain rfl:=h2 hc
   obtain⟨q1,q2,q3⟩:=hr.flat
   refine⟨q2,?_⟩
   have:=Qcl (P:=P) (n:=n) (c:=cap) q1 (by rw[q3,hl])
   simpa using this
  ·obtain rfl:n=0:=by omega
   have e:es'=[]:=List.length_eq_zero_iff.1 hl
   subst e
   exact⟨trivial,[],fun _ _=>Qag,rfl,by simp⟩
def QV:Nat:=4294967296
theorem Qa8(n c:Nat)(h:c<n):Builtin.nextslicecap n c<=4*n+1000:=by
 unfold Builtin.nextslicecap
 split
 ·omega
 ·split
  ·omega
  ·have key:∀(r c:Nat),c<=2*n+400->Builtin.growBy n r c<=4*n+1000:=by
    intro r
    induction r with
    |zero=>intro c hc;simp[Builtin.growBy];omega
    |succ r ih=>
     intro c hc
     simp only[Builtin.growBy]
     split
     ·omega
     ·exact ih _ (by omega)
   exact key 4 c (by omega)
structure QQ (P:Program) (T e k:Nat):Prop where
 sl:∀w,(underlying T).run P w=.ok (.slice e) w
 size:∀w,(sizeOf e).run P w=.ok k w
 zero:∃z,(∀w,(zeroValue e).run P w=.ok z w)/\z.cells.size=k
 bytes:∃i,(∀w,(typeInfo e).run P w=.ok i w)/\i.bytes<=4096
theorem QdK{T k:Nat}{es:List (List A)}{l rest:List Value}(s:Sim fr ro σ H w)(hk:allK k es)(h:LR ro [] w es.flatten l)(hp:∀v∈l,Qv v):
  Sim fr ro (σ++[some w.heap.size]) (H++[.row T k es]) (w.alloc (.cells (l++rest).toArray T))/\Qf fr ro w ro (w.alloc (.cells (l++rest).toArray T)):=
 ⟨s.allocRow hk h hp,Qf.alloc _ s.roLt s.frLt⟩
theorem YB{k:Nat}:∀{es:List (List A)},allK k es->es.flatten.length=es.length*k
 |[],_=>by simp
 |c::es,⟨h1,h2⟩=>by simp[YB h2,h1,Nat.succ_mul,Nat.add_comm]
theorem QcG{k:Nat}:∀{es fs:List (List A)},allK k es->allK k fs->allK k (es++fs)
 |[],_,_,h=>h
 |c::es,_,⟨h1,h2⟩,h=>⟨h1,QcG h2 h⟩
theorem Qeh{k:Nat}:∀{es:List (List A)} (n:Nat),allK k es->allK k (es.take n)
 |_,0,_=>trivial
 |[],n+1,_=>trivial
 |c::es,n+1,⟨h1,h2⟩=>⟨h1,Qeh n h2⟩
theorem RL.allK{k:Nat}:∀{es:List (List A)}{l:List Value},RL ro σ w k es l->allK k es
 |[],_,_=>trivial
 |c::es,l,⟨l1,l2,h1,h2,h3,h4⟩=>⟨h2,RL.allK h4⟩
theorem RL.app{k:Nat}:∀{n:Nat}{es fs:List (List A)}{l m:List Value},RL ro σ w k es l->n<=es.length->Sw.allK k fs->LR ro σ w fs.flatten m->(∀v∈m,Qv v)->
  RL ro σ w k (es.take n++fs) (Sw.splice l (n*k) m)
 |0,es,fs,l,m,h,hn,hk,hm,hp=>by
  simp only[List.take_zero,List.nil_append,Nat.zero_mul]
  unfold Sw.splice
  simp only[List.take_zero,List.nil_append]
  exact QaD hk hm hp
 |n+1,[],fs,l,m,h,hn,hk,hm,hp=>by simp at hn
 |n+1,c::es,fs,l,m,⟨l1,l2,h1,h2,h3,h4⟩,hn,hk,hm,hp=>by
  subst h1
  have hl1:=h3.1.length
  refine⟨l1,Sw.splice l2 (n*k) m,?_,h2,h3,RL.app h4 (by simpa using hn) hk hm hp⟩
  have e1:(n+1)*k=l1.length+n*k:=by rw[Nat.succ_mul];omega
  unfold Sw.splice
  rw[e1,List.take_length_add_append,show l1.length+n*k+m.length=l1.length+(n*k+m.length)from by omega,List.drop_length_add_append]
  simp
theorem Qh3{T T' e e' k need cap:Nat}{t:TypeId}(E:QQ P T e k)(hd:∀w,(underlying T').run P w=.ok (.slice e') w){ad:Option Addr}{n m c:Nat}{ax:Option Addr}
  (hneed:need=n+m)(hcap:cap<need)(hmax:need<=QV){old new:List Value}
  (hn:∀w':World,w'.heap=w.heap->(Builtin.firstCells k m (.slice ax m c)).run P w'=.ok new.toArray w')(ho:∀w':World,w'.heap=w.heap->(Builtin.firstCells k n (.slice ad n cap)).run P w'=.ok old.toArray w'):
  ∃(rest:List Value) (nc:Nat),need<=nc/\rest.length=(nc-need)*k/\(Builtin.append_ #[T,T'] t #[.slice ad n cap,.slice ax m c]).run P w=
   .ok (.slice (some ⟨w.heap.size,0,none⟩) need nc) (({w with drawn:=w.drawn+1}:World).alloc (.cells ((old++new)++rest).toArray e)):=by
 obtain⟨z,hz,hzk⟩:=E.zero
 obtain⟨i,hi,hb⟩:=E.bytes
 let nc:=need+w.tape w.drawn (.appendCap need cap e)%(2^63-need)
 refine⟨(Builtin.zeroCells z.cells (nc-need)).toList,nc,Nat.le_add_right _ _,by simp[Builtin.zeroCells,hzk],?_⟩
 have hcapn:¬(need<=cap):=by omega
 have h1:¬((need:Int)>IntKind.i64.max/\(False\/i.bytes=0)):=by
  rintro⟨q,_⟩
  have:IntKind.i64.max=9223372036854775807:=by decide
  rw[this]at q;unfold QV at hmax;omega
 have h2:¬(Builtin.nextslicecap need cap*i.bytes>2^48):=by
  have:=Qa8 need cap hcap
  have h3:Builtin.nextslicecap need cap*i.bytes<=(4*need+1000)*4096:=Nat.mul_le_mul this hb
  unfold QV at hmax
  omega
 generalize hF:Builtin.firstCells=F at hn ho
 unfold Builtin.append_
 rw[hF]
 have hch:∀W:World,(choose (.appendCap need cap e)).run P W=.ok (need+W.tape W.drawn (.appendCap need cap e)%(2^63-need)) {W with drawn:=W.drawn+1}:=by
  intro W;simp[choose,Sem.run,Question.forced,Question.cut]
 have har:∀(x:Nat) (W:World),(askRoom x).run P W=.ok () W:=by
  intro x W;unfold askRoom;split<;>rfl
 have hnr:∀(c:Array Value) (W:World),(newRow e c).run P W=.ok ⟨W.heap.size,0,none⟩ (W.alloc (.cells c e)):=fun c W=>rfl
 subst hneed
 simp only[not_and,false_or]at h1
 have h3:¬(((n+m:Nat):Int)>IntKind.i64.max/\(False\/i.bytes=0)):=by simpa using h1
 simp only[List.getElem?_toArray,List.getElem?_cons_zero,List.getElem?_cons_succ,Sem.run_bind,E.sl,E.size,hd,hi,hz,Result.andThen,Builtin.lenOf,Sem.run_pure,Bool.false_eq_true,if_false,Sem.run_ite,
  Bool.not_false,if_true,if_neg hcapn,if_neg h3,if_neg h2,hch,har]
 have e1:=ho {w with drawn:=w.drawn+1} rfl
 have e2:=hn {w with drawn:=w.drawn+1} rfl
 simp only[e1,e2,hnr]
 have e3:old.toArray++new.toArray++Builtin.zeroCells z.cells (nc-(n+m))=((old++new)++(Builtin.zeroCells z.cells (nc-(n+m))).toList).toArray:=by
  apply Array.toList_inj.1;simp
 rw[<- e3]
theorem Qe6{T T' e e' k cap:Nat}{t:TypeId}(E:QQ P T e k)(hd:∀w,(underlying T').run P w=.ok (.slice e') w){ad:Option Addr}{n m c:Nat}{ax:Option Addr}
  (hcap:n+m<=cap){new:List Value}(hn:(Builtin.firstCells k m (.slice ax m c)).run P w=.ok new.toArray w):
  (Builtin.append_ #[T,T'] t #[.slice ad n cap,.slice ax m c]).run P w=
   match ad with
   |some a=>(do storeCells (a.add (n*k)) new;pure (Value.slice ad (n+m) cap):Sem Value).run P w
   |none=>.ok (.slice ad (n+m) cap) w:=by
 generalize hF:Builtin.firstCells=F at hn
 unfold Builtin.append_
 rw[hF]
 simp only[List.getElem?_toArray,List.getElem?_cons_zero,List.getElem?_cons_succ,Sem.run_bind,E.sl,E.size,hd,Result.andThen,Builtin.lenOf,Sem.run_pure,Bool.false_eq_true,if_false,Sem.run_ite,
  Bool.not_false,if_true,if_pos hcap,hn]
 cases ad with
 |none=>rfl
 |some a=>simp only[Sem.run_bind,Result.andThen,Sem.run_pure]
theorem Sim.weaken(s:Sim fr ro σ H w){i:Nat}{x x':Blk}(hH:H[i]?=some x)(hl:x.live=true)(hbr:∀y,BR ro σ w x y->BR ro σ w x' y)
  (hhd:∀b c,Hid w x' b c->Hid w x b c:=by exact fun _ _ h=>h.elim):Sim fr ro σ (H.set i x') w:=by
 have hi:i<H.length:=(List.getElem?_eq_some_iff.1 hH).1
 have hHi:(H.set i x')[i]?=some x':=List.getElem?_set_self hi
 have hHj:∀j,j≠i->(H.set i x')[j]?=H[j]? :=fun j hj=>List.getElem?_set_ne (fun q=>hj q.symm)
 have hcase:∀(j:Nat) (v:Blk),(H.set i x')[j]?=some v->(j=i/\v=x')\/(j≠i/\H[j]?=some v):=by
  intro j v h
  by_cases e:j=i
  ·subst e;rw[hHi]at h;cases h;exact .inl ⟨rfl,rfl⟩
  ·rw[hHj j e]at h;exact .inr ⟨e,h⟩
 have hx:∀(j:Nat) (v:Blk),(H.set i x')[j]?=some v->v.live=true->∃v',H[j]?=some v'/\v'.live=true:=by
  intro j v h hv
  rcases hcase j v h with⟨rfl,rfl⟩|⟨_,h⟩
  ·exact⟨x,hH,hl⟩
  ·exact⟨v,h,hv⟩
 refine⟨by rw[List.length_set];exact s.len,s.roOk,s.frLt,s.roFr,?_,?_,?_,s.hidTo (· = ·) QP (Nat.le_refl _) (fun _ _ _ _ _ _ _ q=>q) (fun _ _ _ _ _ _ _ q=>q) fun j d y g1 g2 g3=>.inl ?_⟩
 rotate_left 3
 ·rcases hcase j y g2 with⟨rfl,rfl⟩|⟨_,h⟩
  ·exact⟨j,x,rfl,g1,hH,fun _=>hl,fun c q=>hhd d c q⟩
  ·exact⟨j,y,rfl,g1,h,id,fun _ q=>q⟩
 ·intro j b v h1 h2 h3
  obtain⟨v',q1,q2⟩:=hx j v h2 h3
  exact s.own j b v' h1 q1 q2
 ·intro j j' b v v' h1 h2 h3 h4 h5 h6
  obtain⟨u,q1,q2⟩:=hx j v h3 h5
  obtain⟨u',q1',q2'⟩:=hx j' v' h4 h6
  exact s.inj j j' b u u' h1 h2 q1 q1' q2 q2'
 ·intro j y v h1 h2
  rcases hcase j v h2 with⟨rfl,rfl⟩|⟨_,h⟩
  ·exact hbr y (s.blk j y x h1 hH)
  ·exact s.blk j y v h1 h
theorem RL.take{k:Nat}:∀(n:Nat) {es:List (List A)}{l:List Value},RL ro σ w k es l->RL ro σ w k (es.take n) l
 |0,_,_,_=>trivial
 |n+1,[],_,_=>trivial
 |n+1,c::es,l,⟨l1,l2,h1,h2,h3,h4⟩=>⟨l1,l2,h1,h2,h3,RL.take n h4⟩
theorem QaL{c:Call}{T T':TypeId}{x y:Operand}(ho:o.op=.call c)(hc:c={callee:=.builtin .append,args:= #[x,y],argTypes:= #[T,T']})(ρ:Operand->Value){v:Value}{w':World}
  (h:(Builtin.append_ #[T,T'] o.type #[ρ x,ρ y]).run P w=.ok v w'):(execOp ρ o).run P w=.ok (.value v) w':=by
 subst hc
 simp only[execOp,ho,resolve,invoke,Go.builtin,Sem.run_bind,Sem.run_pure,Result.andThen]
 simp only[List.map_toArray,List.map_cons,List.map_nil,h]
theorem Sim.phantom(s:Sim fr ro σ H w)(t k:Nat):Sim fr ro (σ++[none]) (H++[.row t k []]) w:=by
 have hlen:=s.len
 have hlt:∀(i b:Nat),(σ++[none])[i]?=some (some b)->i<σ.length:=by
  intro i b g1
  rcases Nat.lt_or_ge i σ.length with q|q
  ·exact q
  ·rw[List.getElem?_append_right q]at g1
   cases hi:i-σ.length with
   |zero=>rw[hi]at g1;simp at g1
   |succ j=>rw[hi]at g1;simp at g1
 refine⟨by simp[hlen],s.roOk,s.frLt,s.roFr,?_,?_,?_,s.hidTo (· = ·) QP (Nat.le_refl _) (fun _ _ _ _ _ _ _ q=>q) (fun _ _ _ _ _ _ _ q=>q) fun j d y g1 g2 g3=>.inl ?_⟩
 rotate_left 3
 ·have q:=hlt j d g1
  rw[List.getElem?_append_left q]at g1
  rw[List.getElem?_append_left (by omega)]at g2
  exact⟨j,y,rfl,g1,g2,id,fun _ q=>q⟩
 ·intro i b z g1 g2 g3
  have q:=hlt i b g1
  rw[List.getElem?_append_left q]at g1
  rw[List.getElem?_append_left (by omega)]at g2
  exact s.own i b z g1 g2 g3
 ·intro i j b z z' g1 g2 g3 g4 g5 g6
  have p1:=hlt i b g1
  have p2:=hlt j b g2
  rw[List.getElem?_append_left p1]at g1
  rw[List.getElem?_append_left p2]at g2
  rw[List.getElem?_append_left (by omega)]at g3 g4
  exact s.inj i j b z z' g1 g2 g3 g4 g5 g6
 ·intro i y z g1 g2
  have ext:Ext ro σ w ro (σ++[none]) w:=⟨fun _ q=>q,fun _ _=>rfl,fun _ _ q=>q,fun _ _ h=>YN h⟩
  rcases Nat.lt_trichotomy i σ.length with q|q|q
  ·rw[List.getElem?_append_left q]at g1
   rw[List.getElem?_append_left (by omega)]at g2
   exact(s.blk i y z g1 g2).keep ext (fun _ _ _=>rfl) (fun _ _ _ _=>rfl)
  ·subst q
   have e1:(σ++[none])[σ.length]?=some none:=by simp
   have e2:(H++[Blk.row t k []])[σ.length]?=some (.row t k []):=by rw[hlen];simp
   rw[e1]at g1;rw[e2]at g2;cases g1;cases g2;rfl
  ·rw[List.getElem?_eq_none (by simp;omega)]at g1;simp at g1
theorem Sim.kill(s:Sim fr ro σ H w)(i:Nat):Sim fr ro σ (H.set i .dead) w:=by
 have hcase:∀(j:Nat) (v:Blk),(H.set i .dead)[j]?=some v->v≠ .dead->H[j]?=some v:=by
  intro j v h hv
  by_cases e:j=i
  ·subst e
   rw[List.getElem?_set]at h
   simp only[if_true]at h
   split at h
   ·cases h;exact absurd rfl hv
   ·simp at h
  ·rw[List.getElem?_set_ne (fun q=>e q.symm)]at h;exact h
 refine⟨by rw[List.length_set];exact s.len,s.roOk,s.frLt,s.roFr,?_,?_,?_,s.hidTo (· = ·) QP (Nat.le_refl _) (fun _ _ _ _ _ _ _ q=>q) (fun _ _ _ _ _ _ _ q=>q) fun j d y g1 g2 g3=>.inl ⟨j,y,rfl,g1,hcase j y g2 (Qch g3),id,fun _ q=>q⟩⟩
 ·intro j b v h1 h2 h3;exact s.own j b v h1 (hcase j v h2 (YP h3)) h3
 ·intro j j' b v v' h1 h2 h3 h4 h5 h6;exact s.inj j j' b v v' h1 h2 (hcase j v h3 (YP h5)) (hcase j' v' h4 (YP h6)) h5 h6
 ·intro j y v h1 h2
  by_cases hv:v≠ .dead
  ·exact s.blk j y v h1 (hcase j v h2 hv)
  ·obtain rfl:v=.dead:=Classical.not_not.1 hv
   trivial
theorem grown{c:Call}{T T' e e' k n m cap cx:Nat}{x y:Operand}{es fs:List (List A)}{a:Act}{ad ax:Option Addr}{old new:List Value}(E:QQ P T e k)(hd:∀w,(underlying T').run P w=.ok (.slice e') w)(ho:o.op=.call c)
  (hc:c={callee:=.builtin .append,args:= #[x,y],argTypes:= #[T,T']})(h1:a.eval x=.slice ad n cap)(h2:a.eval y=.slice ax m cx)(s:Sim fr ro σ H w)(hcap:cap<n+m)(hmax:n+m<=QV)
  (hold:∀w':World,w'.heap=w.heap->(Builtin.firstCells k n (.slice ad n cap)).run P w'=.ok old.toArray w')(hnew:∀w':World,w'.heap=w.heap->(Builtin.firstCells k m (.slice ax m cx)).run P w'=.ok new.toArray w')
  (ho1:LR ro [] w es.flatten old)(ho2:∀v∈old,Qv v)(ho3:allK k es)(hn1:LR ro [] w fs.flatten new)(hn2:∀v∈new,Qv v)(hn3:allK k fs)(hes:es.length=n)(hfs:fs.length=m):
  ∃v w' ro' τ,(execOp a.eval o).run P w=.ok (.value v) w'/\VR ro' (σ++τ) w' (.osl H.length 0 (n+m) k) v/\Sim fr ro' (σ++τ) (H++[.row e k (es++fs)]) w'/\Qf fr ro w ro' w':=by
 obtain⟨rest,nc,hnc,hrl,hrun⟩:=Qh3 (t:=o.type) E hd rfl hcap hmax hnew hold
 let w0:World:={w with drawn:=w.drawn+1}
 have s0:Sim fr ro σ H w0:=s.heap rfl
 have e0:Qf fr ro w ro w0:=Qf.heap rfl rfl rfl rfl (Nat.le_succ _)
 have hfl:LR ro [] w0 (es++fs).flatten (old++new):=by
  rw[List.flatten_append]
  exact(ho1.append hn1).mono (Ext.heap (w:=w) (w':=w0) rfl)
 obtain⟨s1,e1⟩:=QdK (T:=e) (rest:=rest) s0 (QcG ho3 hn3) hfl (fun v hv=>by rcases List.mem_append.1 hv with q|q;exact ho2 v q;exact hn2 v q)
 have hexec:(execOp a.eval o).run P w=.ok (.value _) _:=QaL ho hc a.eval (by rw[h1,h2];exact hrun)
 refine⟨_,_,ro,[some w.heap.size],hexec,.inr ⟨w.heap.size,0,nc,e,(old++new++rest).length,?_,rfl,fun _=>by simp,hnc,?_,?_⟩,s1,e0.trans e1⟩
 ·rw[<- s.len];simp
 ·have:=Yi w0 (.cells ((old++new)++rest).toArray e)
  unfold World.shape?
  rw[show w.heap.size=w0.heap.size from rfl,this];simp
 ·have q1:=ho1.length
  have q2:=hn1.length
  rw[YB ho3]at q1
  rw[YB hn3]at q2
  simp only[List.length_append,hrl,q1,q2,hes,hfs,Nat.zero_add]
  rw[<- Nat.add_mul, <- Nat.add_mul]
  exact Nat.mul_le_mul_right k (by omega)
theorem QfG{c:Call}{T T' e e' k i n:Nat}{x y:Operand}{ya:A}{es fs gs:List (List A)}(E:QQ P T e k)(hd:∀w,(underlying T').run P w=.ok (.slice e') w)(ho:o.op=.call c)
  (hc:c={callee:=.builtin .append,args:= #[x,y],argTypes:= #[T,T']})(hx:opA env x=.osl i 0 n k)(hH:H[i]?=some (.row e k es))(hn:n<=es.length)(hy:opA env y=ya)(hs:Src P H ya k fs)(hmax:n+fs.length<=QV)
  (hg:es.take n++fs=gs):OpH P o env H (.osl H.length 0 (n+fs.length) k) (H.set i .dead++[.row e k gs]):=by
 intro fr ro σ N a w r
 subst hg
 have h1:=Qg r x
 rw[hx]at h1
 have h2:=Qg r y
 rw[hy]at h2
 obtain⟨⟨ay,cy,e1⟩,q2,l,q3,q4,q5⟩:=hs fr ro σ w _ r.sim h2
 rw[e1]at q3
 have hlt:i<H.length:=(List.getElem?_eq_some_iff.1 hH).1
 have hkl:(H.set i .dead).length=H.length:=List.length_set
 obtain⟨s,hσ⟩:∃s,σ[i]?=some s:=⟨_,List.getElem?_eq_getElem (by rw[r.sim.len];exact hlt)⟩
 rcases h1 with⟨rfl,h1⟩|⟨b,p,cap,t',mm,h3,h1,h4,h5,h6,h7⟩
 ·
  by_cases hm:fs.length=0
  ·have efs:fs=[]:=List.length_eq_zero_iff.1 hm
   subst efs
   refine⟨.slice none 0 0,w,ro,[none],?_,.inl ⟨rfl,rfl⟩,(r.sim.kill i).phantom e k,Qf.refl _ _ _⟩
   refine QaL ho hc _ ?_
   rw[h1,e1]
   have:=Qe6 (t:=o.type) E hd (ad:=none) (n:=0) (m:=0) (cap:=0) (c:=cy) (ax:=ay) (Nat.le_refl 0) (q3 w rfl)
   simpa using this
  ·have:=grown (es:=[]) (old:=[]) E hd ho hc h1 e1 (r.sim.kill i) (by omega) hmax (fun _ _=>Qag) q3 rfl (by simp) trivial q4 q5 q2 rfl rfl
   rw[hkl]at this
   simpa using this
 ·have hblk:=r.sim.blk i _ _ h3 hH
  obtain⟨lb,g1,g2⟩:=hblk
  have htk:(es.take n).length=n:=by simp;omega
  obtain⟨old,o1,o2,o3⟩:∃old:List Value,(∀w':World,w'.heap=w.heap->(Builtin.firstCells k n (.slice (some ⟨b,p,none⟩) n cap)).run P w'=.ok old.toArray w')/\LR ro [] w (es.take n).flatten old/\ ∀v∈old,Qv v:=by
   have hsrc:Src P H (.osl i 0 n k) k (es.take n):=Src.osl hH (by simp) (by omega)
   obtain⟨_,_,l',z1,z2,z3⟩:=hsrc fr ro σ w (.slice (some ⟨b,p,none⟩) n cap) r.sim (.inr ⟨b,p,cap,t',mm,h3,rfl,h4,h5,h6,h7⟩)
   rw[htk]at z1
   exact⟨l',z1,z2,z3⟩
  by_cases hcap:n+fs.length<=cap
  ·have hrun:=Qe6 (t:=o.type) E hd (ad:=some ⟨b,p,none⟩) (n:=n) (m:=fs.length) (cap:=cap) (c:=cy) (ax:=ay) hcap (q3 w rfl)
   have hll:l.length=fs.length*k:=by rw[q4.length,YB q2]
   by_cases hm:fs.length=0
   ·have efs:fs=[]:=List.length_eq_zero_iff.1 hm
    subst efs
    have el:l=[]:=List.length_eq_zero_iff.1 (by rw[hll];simp)
    subst el
    have sw:=(r.sim.weaken (x':=.row e k (es.take n)) hH rfl (by
     intro y hy
     cases y with
     |none=>simp only[BR]at hy⊢;subst hy;simp
     |some y=>obtain⟨lb,g1,g2⟩:=hy;exact⟨lb,g1,g2.take n⟩))
    have sm:=sw.moved (i:=i) (List.getElem?_set_self hlt) h3
    rw[List.set_set]at sm
    refine⟨.slice (some ⟨b,p,none⟩) n cap,w,ro,[some b],?_,.inr ⟨b,p,cap,t',mm,?_,by simp,h4,by simpa using h5,h6,h7⟩,by simpa using sm,Qf.refl _ _ _⟩
    ·refine QaL ho hc _ ?_
     rw[h1,e1]
     simpa[storeCells,go_sem]using hrun
    ·rw[<- r.sim.len];simp
   ·obtain rfl:p=0*k:=h4 (by omega)
    have hsz:(n+fs.length)*k<=lb.length:=by
     have:w.shape? b=some (e,lb.length):=by unfold World.shape?;rw[g1];simp
     rw[this]at h6
     cases h6
     exact Nat.le_trans (Nat.mul_le_mul_right k hcap) (by simpa using h7)
    rw[Nat.add_mul]at hsz
    have hst:=Yr (P:=P) (vs:=l) (n*k) 0 g1 (by rw[hll];simpa using hsz) q5
    have hset:=r.sim.set (x':=.row e k (es.take n++fs)) (obj:=.cells (splice lb (n*k) l).toArray e (0,0)) h3 hH rfl
     (fun y hy=>QaP g1 (Q9 (by rw[hll];exact hsz)) y hy)
     (fun ex hex=>⟨_,hex,(g2.app hn q2 q4 q5).mono ex.nil⟩)
    have sm:=hset.1.moved (i:=i) (List.getElem?_set_self hlt) h3
    rw[List.set_set]at sm
    refine⟨.slice (some ⟨b,0*k,none⟩) (n+fs.length) cap,_,ro,[some b],?_,.inr ⟨b,0*k,cap,t',mm,?_,rfl,h4,hcap,?_,h7⟩,sm,hset.2⟩
    ·refine QaL ho hc _ ?_
     rw[h1,e1,hrun]
     simp only[QaC,Nat.zero_mul,Nat.zero_add,Sem.run_bind,hst,Result.andThen,Sem.run_pure]
     simp
    ·rw[<- r.sim.len];simp
    ·exact hset.2.shape _ _ h6
  ·have:=grown (es:=es.take n) (old:=old) (fs:=fs) E hd ho hc h1 e1 (r.sim.kill i) (by omega) hmax o1 q3 o2 o3 (Qeh n g2.allK) q4 q5 q2 htk rfl
   rw[hkl]at this
   exact this
end
end Go.Sw
namespace Go.Sw
section
variable {P:Program}{o:Oper}{env:Env}{H:Qc}
theorem OpC.fn{c:Call}{f:FuncId}{xs:List Operand}{ts:Array TypeId}{args:List A}(hcall:∀(a:Array Value) (w:World),(callFunc f a).run P w=.ok (.enter f a) w)(ho:o.op=.call c)
  (hc:c={callee:=.value (.func f),args:=xs.toArray,argTypes:=ts})(hx:xs.map (opA env)=args):OpC P o env H f args:=by
 intro fr ro σ N a w r
 refine⟨xs.map a.eval,?_,hx▸QaT r xs⟩
 subst hc
 have e:a.eval (.func f)=.func (.func f) #[] #[]:=rfl
 generalize a.eval=ρ at*
 simp only[execOp,ho,resolve,e,Deferred.ofValue,invoke,Sem.run_bind,Sem.run_pure,Result.andThen,hcall]
 simp
theorem QeT{c:Call}{f:FuncId}{x:Operand}{xs:List Operand}{ts:Array TypeId}{args vf vc:List A}(hcall:∀(a:Array Value) (w:World),(callFunc f a).run P w=.ok (.enter f a) w)(ho:o.op=.call c)
  (hc:c={callee:=.value x,args:=xs.toArray,argTypes:=ts})(hf:opA env x=.fn (.func f) vf vc)(hx:vf++(xs.map (opA env)++vc)=args):OpC P o env H f args:=by
 intro fr ro σ N a w r
 have h1:=Qg r x
 rw[hf]at h1
 obtain⟨l,l',h1,h2,h3⟩:=h1
 refine⟨l++(xs.map a.eval++l'),?_,hx▸h2.append ((QaT r xs).append h3)⟩
 subst hc
 generalize a.eval=ρ at*
 simp only[execOp,ho,resolve,h1,Deferred.ofValue,invoke,Sem.run_bind,Sem.run_pure,Result.andThen,hcall]
 simp
def QdO(ρ:Nat->Nat)(env:Env):Env->Prop
 |[]=>True
 |(s,a)::r=>lk env s=Yl ρ a/\QdO ρ env r
theorem QdO.ok{ro:Nat->Prop}{σ σ':Sig}{w:World}{ρ:Nat->Nat}(h:∀i:Nat,σ[ρ i]?=σ'[i]?){t:Array Value}(r:∀s,VR ro σ w (lk env s) (t.getD s undef)):
  ∀{env':Env},QdO ρ env env'->∀s,VR ro σ' w (lk env' s) (t.getD s undef)
 |[],_,s=>trivial
 |(d,a)::e,⟨h1,h2⟩,s=>by
  simp only[lk]
  by_cases q:s=d
  ·subst q
   rw[Nat.beq_refl]
   have:=r s
   rw[h1]at this
   exact(QeN h).1 this
  ·have:Nat.beq s d=false:=by
    rw[Bool.eq_false_iff];intro q';exact q (Nat.eq_of_beq_eq_true q')
   rw[this]
   exact QdO.ok h r h2 s
theorem Sim.sub{fr ro:Nat->Prop}{σ:Sig}{w:World}{π:List Nat}{H':Qc}(s:Sim fr ro σ H w)(hH:π.map (fun p=>H[p]?)=(H'.map (QN (rho π H.length))).map some)(hπ:π.Nodup):
  Sim fr ro (QW σ π) H' w/\ ∀j:Nat,σ[rho π H.length j]?=(QW σ π)[j]? :=by
 have hp:∀p∈π,p<H.length:=fun p q=>YJ hH q
 have hσl:=s.len
 have hHc:∀(j p:Nat),π[j]?=some p->H[p]?=(H'[j]?).map (QN (rho π H.length)):=by
  intro j p hj
  have:=congrArg (fun l=>l[j]?) hH
  simp only[List.getElem?_map,hj,Option.map_some]at this
  cases e:H'[j]? with
  |none=>rw[e]at this;simp at this
  |some x=>rw[e]at this;simpa using this
 have hlen:π.length=H'.length:=by simpa using congrArg List.length hH
 have hσc:∀j:Nat,σ[rho π H.length j]?=(QW σ π)[j]? :=by
  intro j
  have:=QcO (τ:=[]) hσl hp j
  simpa using this
 have hπj:∀(j b:Nat),(QW σ π)[j]?=some (some b)->∃p,π[j]?=some p/\σ[p]?=some (some b):=by
  intro j b hj
  simp only[QW,List.getElem?_map]at hj
  cases e:π[j]? with
  |none=>rw[e]at hj;simp at hj
  |some p=>
   rw[e]at hj
   simp at hj
   refine⟨p,rfl,?_⟩
   cases e2:σ[p]? with
   |none=>rw[e2]at hj;simp at hj
   |some s=>rw[e2]at hj;simp at hj;rw[hj]
 have hπi:∀(i j p:Nat),π[i]?=some p->π[j]?=some p->i=j:=by
  intro i j p e1 e1'
  have hi:i<π.length:=(List.getElem?_eq_some_iff.1 e1).1
  have hj:j<π.length:=(List.getElem?_eq_some_iff.1 e1').1
  rw[List.getElem?_eq_getElem hi]at e1
  rw[List.getElem?_eq_getElem hj]at e1'
  have heq:=(Option.some.inj e1).trans (Option.some.inj e1').symm
  rcases Nat.lt_trichotomy i j with q|q|q
  ·exact(List.pairwise_iff_getElem.1 hπ i j hi hj q heq).elim
  ·exact q
  ·exact(List.pairwise_iff_getElem.1 hπ j i hj hi q heq.symm).elim
 refine⟨⟨by simp[QW,hlen],s.roOk,s.frLt,s.roFr,?_,?_,?_,s.hidTo (fun j p=>π[j]?=some p) hπi (Nat.le_refl _) (fun _ _ _ _ _ _ _ q=>q) (fun _ _ _ _ _ _ _ q=>q) fun j d y g1 g2 g3=>.inl ?_⟩,hσc⟩
 rotate_left 3
 ·obtain⟨p,e1,e2⟩:=hπj j d g1
  exact⟨p,QN (rho π H.length) y,e1,e2,by rw[hHc j p e1,g2];rfl,by rw[QB];exact id,fun c q=>(Qak _ _ _ _ _).2 q⟩
 ·intro j b x q1 q2 q3
  obtain⟨p,e1,e2⟩:=hπj j b q1
  have e3:H[p]?=some (QN (rho π H.length) x):=by rw[hHc j p e1,q2];rfl
  exact s.own p b _ e2 e3 (by rw[QB];exact q3)
 ·intro i j b x y q1 q2 q3 q4 q5 q6
  obtain⟨p,e1,e2⟩:=hπj i b q1
  obtain⟨p',e1',e2'⟩:=hπj j b q2
  have e3:H[p]?=some (QN (rho π H.length) x):=by rw[hHc i p e1,q3];rfl
  have e3':H[p']?=some (QN (rho π H.length) y):=by rw[hHc j p' e1',q4];rfl
  have:=s.inj p p' b _ _ e2 e2' e3 e3' (by rw[QB];exact q5) (by rw[QB];exact q6)
  subst this
  have hi:i<π.length:=(List.getElem?_eq_some_iff.1 e1).1
  have hj:j<π.length:=(List.getElem?_eq_some_iff.1 e1').1
  rw[List.getElem?_eq_getElem hi]at e1
  rw[List.getElem?_eq_getElem hj]at e1'
  have heq:=(Option.some.inj e1).trans (Option.some.inj e1').symm
  rcases Nat.lt_trichotomy i j with q|q|q
  ·exact(List.pairwise_iff_getElem.1 hπ i j hi hj q heq).elim
  ·exact q
  ·exact(List.pairwise_iff_getElem.1 hπ j i hj hi q heq.symm).elim
 ·intro j y x q1 q2
  have hj:j<π.length:=by
   rcases Nat.lt_or_ge j π.length with q|q
   ·exact q
   ·rw[List.getElem?_eq_none (by simpa[QW]using q)]at q1;simp at q1
  have e1:π[j]?=some π[j]:=List.getElem?_eq_getElem hj
  have e3:H[π[j]]?=some (QN (rho π H.length) x):=by rw[hHc j _ e1,q2];rfl
  have e2:σ[π[j]]?=some y:=by
   have:=hσc j
   rw[q1]at this
   simpa[rho,e1]using this
  exact(Qe0 hσc).1 (s.blk _ y _ e2 e3)
theorem QkY{h0:Nat}{env':Env}{H':Qc}(π:List Nat)(hpre:π.take h0=List.range h0)(hH:π.map (fun p=>H[p]?)=(H'.map (QN (rho π H.length))).map some)(hπ:π.Nodup)
  (hE:QdO (rho π H.length) env env'):Le h0 env H env' H':=by
 intro fr ro σ N a w r
 obtain⟨s1,hσ⟩:=r.sim.sub hH hπ
 refine⟨ro,QW σ π,⟨s1,QdO.ok hσ r.env hE,r.size,r.defers⟩,fun _ q=>q,?_⟩
 have hl:=r.sim.len
 have hp:∀p∈π,p<H.length:=fun p q=>YJ hH q
 unfold QW
 rw[<- List.map_take,hpre]
 apply List.ext_getElem?
 intro i
 rcases Nat.lt_or_ge i h0 with q|q
 ·have hm:i∈π:=List.mem_of_mem_take (i:=h0) (by rw[hpre];exact List.mem_range.2 q)
  have hlt:i<σ.length:=by rw[hl];exact hp i hm
  rw[List.getElem?_map,List.getElem?_take,if_pos q,List.getElem?_range q]
  simp[List.getElem?_eq_getElem hlt]
 ·rw[List.getElem?_eq_none (by simpa using q),List.getElem?_take,if_neg (by omega)]
theorem Le.phantom{h0 s k t:Nat}(hh:h0<=H.length)(hs:lk env s=.nils):Le h0 env H (up env s (.osl H.length 0 0 k)) (H++[.row t k []]):=by
 intro fr ro σ N a w r
 refine⟨ro,σ++[none],⟨r.sim.phantom t k,?_,r.size,r.defers⟩,fun _ q=>q,QK (by rw[r.sim.len];exact hh)⟩
 have ext:Ext ro σ w ro (σ++[none]) w:=⟨fun _ q=>q,fun _ _=>rfl,fun _ _ q=>q,fun _ _ h=>YN h⟩
 intro s'
 simp only[lk]
 by_cases q:s'=s
 ·subst q
  rw[Nat.beq_refl]
  have:=r.env s'
  rw[hs]at this
  exact .inl ⟨rfl,this⟩
 ·have:Nat.beq s' s=false:=by
   rw[Bool.eq_false_iff];intro q';exact q (Nat.eq_of_beq_eq_true q')
  rw[this]
  exact(r.env s').mono ext
theorem Le.freeze{h0 s i n k t:Nat}{es:List (List A)}(hi:h0<=i)(hs:lk env s=.osl i 0 n k)(hH:H[i]?=some (.row t k es))(hn:es.length=n):Le h0 env H (up env s (.rsl k es)) (H.set i .dead):=by
 intro fr ro σ N a w r
 subst hn
 let ro':Nat->Prop:=fun b=>ro b\/σ[i]?=some (some b)
 have hown:∀b,σ[i]?=some (some b)->b<w.heap.size/\ ¬ro b/\ ¬fr b:=fun b h=>r.sim.own i b _ h hH rfl
 have ext:Ext ro σ w ro' σ w:=⟨fun _ q=>.inl q,fun _ _=>rfl,fun _ _ q=>q,fun _ _ q=>q⟩
 have hcase:∀(j:Nat) (v:Blk),(H.set i .dead)[j]?=some v->v≠ .dead->j≠i/\H[j]?=some v:=by
  intro j v h hv
  by_cases e:j=i
  ·subst e
   rw[List.getElem?_set]at h
   simp only[if_true]at h
   split at h
   ·cases h;exact absurd rfl hv
   ·simp at h
  ·rw[List.getElem?_set_ne (fun q=>e q.symm)]at h;exact⟨e,h⟩
 refine⟨ro',σ,⟨⟨by rw[List.length_set];exact r.sim.len,r.sim.roOk.to (fun _ q=>.inl q) (fun _ _=>rfl) ?_,r.sim.frLt,?_,?_,?_,?_,r.sim.hidTo (· = ·) QP (Nat.le_refl _) (fun j b x c q1 q2 q3 q4=>q4.elim id fun q=>((r.sim.hid j b x c q1 q2 q3).ne i c _ q hH rfl rfl).elim) (fun _ _ _ _ _ _ _ q=>q) fun j d y g1 g2 g3=>.inl ⟨j,y,rfl,g1,(hcase j y g2 (Qch g3)).2,id,fun _ q=>q⟩⟩,?_,r.size,r.defers⟩,fun _ q=>.inl q,rfl⟩
 ·rintro b (q|q)
  ·exact r.sim.roLt b q
  ·exact(hown b q).1
 ·rintro b (q|q)
  ·exact r.sim.roFr b q
  ·exact(hown b q).2.2
 ·intro j b v h1 h2 h3
  obtain⟨e,h2⟩:=hcase j v h2 (YP h3)
  obtain⟨p1,p2,p3⟩:=r.sim.own j b v h1 h2 h3
  refine⟨p1,?_,p3⟩
  rintro(q|q)
  ·exact p2 q
  ·exact e (r.sim.inj j i b v _ h1 q h2 hH h3 rfl)
 ·intro j j' b v v' h1 h2 h3 h4 h5 h6
  exact r.sim.inj j j' b v v' h1 h2 (hcase j v h3 (YP h5)).2 (hcase j' v' h4 (YP h6)).2 h5 h6
 ·intro j y v h1 h2
  by_cases hv:v≠ .dead
  ·exact(r.sim.blk j y v h1 (hcase j v h2 hv).2).keep ext (fun _ _ _=>rfl) (fun _ _ _ _=>rfl)
  ·obtain rfl:v=.dead:=Classical.not_not.1 hv
   trivial
 ·intro s'
  simp only[lk]
  by_cases q:s'=s
  ·subst q
   rw[Nat.beq_refl]
   have h:=r.env s'
   rw[hs]at h
   rcases h with⟨h0,h⟩|⟨b,p,cap,t',m,h1,h,h2,h3,h4,h5⟩
   ·have:es=[]:=List.length_eq_zero_iff.1 h0
    subst this
    exact⟨none,0,h,Nat.le_refl _,.inl rfl⟩
   ·refine⟨_,cap,h,h3,?_⟩
    by_cases he:es=[]
    ·exact .inl he
    ·right
     have hc:0<cap:=Nat.lt_of_lt_of_le (List.length_pos_iff.2 he) h3
     obtain rfl:=h2 hc
     obtain⟨l,q1,q2⟩:=r.sim.blk i _ _ h1 hH
     refine⟨b,0,by simp,.inr h1,?_⟩
     have:=Ys (pre:=[]) (by simpa using q1) q2
     exact this.keep ⟨fun _ q=>.inl q,fun _ _=>rfl,fun _ _ q=>q,fun _ _ q=>q⟩ rfl
  ·have:Nat.beq s' s=false:=by
    rw[Bool.eq_false_iff];intro q';exact q (Nat.eq_of_beq_eq_true q')
   rw[this]
   exact(r.env s').mono ext
mutual
def Q0:A->Bool
 |.bool _=>true
 |.int _ _=>true
 |.str _=>true
 |.tup vs=>QcP vs
 |_=>false
def QcP:List A->Bool
 |[]=>true
 |a::r=>Q0 a&&QcP r
end
mutual
theorem VR.scalar{ro ro':Nat->Prop}{σ σ':Sig}{w w':World}:∀{a:A}{v:Value},Q0 a=true->VR ro σ w a v->VR ro' σ' w' a v
 |.bool _,_,_,h=>h
 |.int _ _,_,_,h=>h
 |.str _,_,_,h=>h
 |.tup vs,v,hs,h=>by
  simp only[VR,Q0]at h hs⊢
  obtain⟨l,h1,h2⟩:=h
  exact⟨l,h1,LR.scalar hs h2⟩
 |.any,_,hs,_=>by simp[Q0]at hs
 |.nilp,_,hs,_=>by simp[Q0]at hs
 |.ptr _ _,_,hs,_=>by simp[Q0]at hs
 |.rp _,_,hs,_=>by simp[Q0]at hs
 |.nils,_,hs,_=>by simp[Q0]at hs
 |.rsl _ _,_,hs,_=>by simp[Q0]at hs
 |.osl _ _ _ _,_,hs,_=>by simp[Q0]at hs
 |.agg _,_,hs,_=>by simp[Q0]at hs
 |.fn _ _ _,_,hs,_=>by simp[Q0]at hs
 |.nilf,_,hs,_=>by simp[Q0]at hs
 |.iface _ _,_,hs,_=>by simp[Q0]at hs
 |.nilif,_,hs,_=>by simp[Q0]at hs
 |.map _,_,hs,_=>by simp[Q0]at hs
 |.nilm,_,hs,_=>by simp[Q0]at hs
theorem LR.scalar{ro ro':Nat->Prop}{σ σ':Sig}{w w':World}:∀{az:List A}{l:List Value},QcP az=true->LR ro σ w az l->LR ro' σ' w' az l
 |[],_,_,h=>h
 |a::r,l,hs,h=>by
  simp only[LR,QcP,Bool.and_eq_true]at h hs⊢
  obtain⟨v,l',h1,h2,h3⟩:=h
  exact⟨v,l',h1,VR.scalar hs.1 h2,LR.scalar hs.2 h3⟩
end
def Look(H:Qc):A->A->Prop:=fun a a'=>(a'=a/\Q2 a=true)\/ ∃i n k t es,a=.osl i 0 n k/\H[i]?=some (.row t k es)/\es.length=n/\a'=.rsl k es
def QaX(H:Qc):List A->List A->Prop
 |[],[]=>True
 |a::az,b::bs=>Look H a b/\QaX H az bs
 |_,_=>False
theorem Qfz{h0 N:Nat}{Q:Qz}{all:Array Oper}{l:List Oper}{d:Nat}{f:FuncId}{args argsc:List A}{Qr:A->Qc->Prop}(hop:OpC P o env H f args)(hv:QaX H args argsc)(hC:C P f argsc [] Qr)
  (hsc:∀r H1,Qr r H1->Q0 r=true)(k:∀r H1,Qr r H1->WO P h0 N all l (up env d r) H Q)(hg:Qq all o env true:=by exact rfl)(hd:o.dst=some d:=by exact rfl)(hN:Nat.blt d N=true:=by exact rfl):WO P h0 N all (o::l) env H Q:=by
 intro rd fr ro σ a w r hrd
 obtain⟨vals,h1,h2⟩:=hop fr ro σ N a w r
 refine QdT (YQ hg r) h1 ?_
 let roc:Nat->Prop:=fun b=>ro b\/ ∃(i:Nat) (x:Blk),σ[i]?=some (some b)/\H[i]?=some x/\x.live=true
 let frc:Nat->Prop:=fun b=>fr b\/ ∃(i:Nat) (x:Blk) (d:Nat),σ[i]?=some (some d)/\H[i]?=some x/\Hid w x d b
 have hsim:Sim frc roc [] [] w:=by
  refine⟨rfl,r.sim.roOk.to (fun _ q=>.inl q) (fun _ _=>rfl) ?_,?_,?_,by simp,by simp,by simp,by simp⟩
  ·rintro b (q|⟨i,x,q1,q2,q3⟩)
   ·exact r.sim.roLt b q
   ·exact(r.sim.own i b x q1 q2 q3).1
  ·rintro b (q|⟨i,x,d,q1,q2,q3⟩)
   ·exact r.sim.frLt b q
   ·exact(r.sim.hid i d x b q1 q2 q3).lt
  ·rintro b (q|⟨i,x,q1,q2,q3⟩) (q'|⟨i',x',d',q1',q2',q3'⟩)
   ·exact r.sim.roFr b q q'
   ·exact(r.sim.hid i' d' x' b q1' q2' q3').ro q
   ·exact(r.sim.own i b x q1 q2 q3).2.2 q'
   ·exact(r.sim.hid i' d' x' b q1' q2' q3').ne i b x q1 q2 q3 rfl
 have hlook:∀(az bs:List A) (l:List Value),QaX H az bs->LR ro σ w az l->LR roc [] w bs l:=by
  intro az
  induction az with
  |nil=>
   intro bs l hl h
   cases bs with
   |nil=>exact h
   |cons b bs=>exact hl.elim
  |cons x az ih=>
   intro bs l hl h
   cases bs with
   |nil=>exact hl.elim
   |cons y bs=>
    obtain⟨hx,hl⟩:=hl
    obtain⟨v,l',rfl,hv,h⟩:=h
    refine⟨v,l',rfl,?_,ih bs l' hl h⟩
    rcases hx with⟨rfl,hx⟩|⟨i,n,k,t,es,rfl,hH,hn,rfl⟩
    ·exact(hv.data (σ':=[]) hx).mono ⟨fun _ q=>.inl q,fun _ _=>rfl,fun _ _ q=>q,fun _ _ q=>q⟩
    ·subst hn
     rcases hv with⟨h0,h⟩|⟨b,p,cap,t',m,h1,h,h2,h3,h4,h5⟩
     ·have:es=[]:=List.length_eq_zero_iff.1 h0
      subst this
      exact⟨none,0,h,Nat.le_refl _,.inl rfl⟩
     ·refine⟨_,cap,h,h3,?_⟩
      by_cases he:es=[]
      ·exact .inl he
      ·right
       have hc:0<cap:=Nat.lt_of_lt_of_le (List.length_pos_iff.2 he) h3
       obtain rfl:=h2 hc
       obtain⟨l,q1,q2⟩:=r.sim.blk i _ _ h1 hH
       refine⟨b,0,by simp,.inr ⟨i,_,h1,hH,rfl⟩,?_⟩
       have:=Ys (pre:=[]) (by simpa using q1) q2
       exact this.keep ⟨fun _ q=>.inl q,fun _ _=>rfl,fun _ _ q=>q,fun _ _ q=>q⟩ rfl
 refine Calls.mono (hC frc roc [] vals w hsim (hlook _ _ _ hv h2)) ?_
 rintro e w' ⟨v,rr,H1,ro',τ,rfl,hq,sc,hvr,ev⟩
 have hown:∀(i b:Nat) (x:Blk),σ[i]?=some (some b)->H[i]?=some x->x.live=true->w'.heap[b]?=w.heap[b]? :=fun i b x q1 q2 q3=>ev.keepRo b (.inr ⟨i,x,q1,q2,q3⟩)
 have evf:Qf fr ro w ro w':=⟨fun _ q=>q,fun b q=>ev.keepRo b (.inl q),fun b q=>ev.keepFr b (.inl q),ev.size,ev.shape,ev.os,ev.tape,ev.output,ev.drawn⟩
 have simF:Sim fr ro σ H w':=by
  refine⟨r.sim.len,r.sim.roOk.to (fun _ q=>q) evf.keepRo (fun b q=>Nat.lt_of_lt_of_le (r.sim.roLt b q) ev.size),fun b q=>Nat.lt_of_lt_of_le (r.sim.frLt b q) ev.size,r.sim.roFr,?_,r.sim.inj,?_,r.sim.hidTo (· = ·) QP ev.size (fun _ _ _ _ _ _ _ q=>q) (fun _ _ _ _ _ _ _ q=>q) fun j d y g1 g2 g3=>.inl ⟨j,y,rfl,g1,g2,id,fun c q=>r.sim.hidKeep g1 g2 (hown j d y g1 g2) evf.keepRo q⟩⟩
  ·intro i b x q1 q2 q3
   obtain⟨p1,p2,p3⟩:=r.sim.own i b x q1 q2 q3
   exact⟨Nat.lt_of_lt_of_le p1 ev.size,p2,p3⟩
  ·intro i y x q1 q2
   refine(r.sim.blk i y x q1 q2).keep (evf.ext0 σ) ?_ ?_
   ·rintro b rfl hl
    exact hown i b x q1 q2 hl
   ·rintro b c rfl hl
    exact ev.keepFr c (.inr ⟨i,x,b,q1,q2,hl⟩)
 have hk:=k rr H1 hq
 have hdN:d<N:=by simpa using hN
 simp only[hd,Act.put]
 have r':Rel fr ro σ H (up env d rr) N {a with tmps:=a.tmps.setIfInBounds d v} w':=
  ⟨simF,VR.up (fr:=fr) (fun s=>(r.env s).mono (evf.ext0 σ)) (by rw[r.size];exact hdN) (hvr.scalar (hsc _ _ hq)),by simpa using r.size,r.defers.keep evf⟩
 exact⟨_,rfl,Yd (fun e a w q=>q.step evf rfl) _ _ _ (hk rd fr ro σ _ w' r' (hrd.to evf fun _ q=>q))⟩
end
end Go.Sw
namespace Go.Sw
section
variable {P:Program}{o:Oper}{env:Env}{H:Qc}
theorem Qd7{α:Type}:∀(vs:List α) (off i:Nat) (l:List α),off+i+vs.length<=l.length->
  (vs.zipIdx i).foldl (fun(cs:Array α) (x:α×Nat)=>cs.setIfInBounds (off+x.2) x.1) l.toArray=(splice l (off+i) vs).toArray
 |[],off,i,l,h=>by simp[splice]
 |v::vs,off,i,l,h=>by
  simp only[List.length_cons]at h
  rw[List.zipIdx_cons,List.foldl_cons]
  have e1:l.toArray.setIfInBounds (off+i) v=(splice l (off+i) [v]).toArray:=by
   have:l.toArray.setIfInBounds (off+i) v=(l.set (off+i) v).toArray:=by simp
   rw[this]
   congr 1
   rw[List.set_eq_take_append_cons_drop,if_pos (by omega)]
   simp[splice]
  rw[e1,Qd7 vs off (i+1) _ (by rw[Q9 (by simp;omega)];omega)]
  congr 1
  have hlen:(l.take (off+i)).length=off+i:=by simp;omega
  unfold splice
  rw[List.append_assoc (l.take (off+i))]
  have e3:off+(i+1)=(l.take (off+i)).length+1:=by omega
  have e5:(l.take (off+i)++([v]++l.drop (off+i+[v].length))).take ((l.take (off+i)).length+1)=l.take (off+i)++[v]:=by
   rw[List.take_length_add_append];simp
  have e6:(l.take (off+i)++([v]++l.drop (off+i+[v].length))).drop ((l.take (off+i)).length+1+vs.length)=l.drop (off+i+(v::vs).length):=by
   rw[show(l.take (off+i)).length+1+vs.length=(l.take (off+i)).length+(1+vs.length)from by omega,List.drop_length_add_append]
   simp[Nat.add_comm 1]
   congr 1;omega
  rw[e3,e5,e6];simp
theorem Qd9{place:Nat->Option (Nat×Nat)}{l:List Value}{i off size:Nat}{v:Value}{m:List Value}{rest:List (Nat×Value)}(hp:place i=some (off,size))(hm:v.cells=m.toArray)(hs:m.length=size)
  (hl:off+size<=l.length):Instr.fill place l.toArray ((i,v)::rest)=Instr.fill place (splice l off m).toArray rest:=by
 have hsz:v.cells.size=size:=by rw[hm];simpa using hs
 rw[Instr.fill]
 simp only[hp]
 rw[if_neg (by simp[hsz];omega),hm]
 congr 1
 have:=Qd7 m off 0 l (by omega)
 rw[Nat.add_zero]at this
 rw[<- this]
 simp[Array.foldl_toList]
def QaJ:Nat->List Operand->List (Nat×Operand)
 |_,[]=>[]
 |i,x::xs=>(i,x)::QaJ (i+1) xs
def Q1(env:Env)(xs:List Operand):List (List A):=xs.map fun x=>QU (opA env x)
theorem Qdn{fr ro:Nat->Prop}{σ:Sig}{N:Nat}{a:Act}{w:World}(r:Rel fr ro σ H env N a w){k:Nat}:∀(xs:List Operand) (j:Nat) (pre rest:List Value),pre.length=j*k->rest.length=xs.length*k->
  (xs.all fun x=>Q4 (opA env x))=true->allK k (Q1 env xs)->
  ∃l,Instr.fill (fun i=>some (i*k,k)) (pre++rest).toArray ((QaJ j xs).map fun p=>(p.1,a.eval p.2))=some (pre++l).toArray/\LR ro σ w (Q1 env xs).flatten l
 |[],j,pre,rest,h1,h2,_,_=>by
  have:rest=[]:=List.length_eq_zero_iff.1 (by simpa using h2)
  subst this
  exact⟨[],rfl,rfl⟩
 |x::xs,j,pre,rest,h1,h2,h3,h4=>by
  simp only[List.all_cons,Bool.and_eq_true]at h3
  obtain⟨hk1,hk2⟩:=h4
  obtain⟨m,q1,q2⟩:=(Qg r x).cells h3.1
  have hm:m.length=k:=by rw[q2.length];exact hk1
  simp only[List.length_cons,Nat.succ_mul]at h2
  simp only[QaJ,List.map_cons]
  rw[Qd9 (off:=j*k) (size:=k) rfl q1 hm (by simp;omega)]
  have e:splice (pre++rest) (j*k) m=(pre++m)++rest.drop k:=by
   unfold splice
   rw[<- h1,List.take_left,List.drop_length_add_append,hm]
  rw[e]
  obtain⟨l,p1,p2⟩:=Qdn r xs (j+1) (pre++m) (rest.drop k) (by simp[h1,hm,Nat.succ_mul]) (by simp;omega) h3.2 hk2
  refine⟨m++l,?_,?_⟩
  ·rw[p1];simp
  ·show LR ro σ w ((QU (opA env x))++(Q1 env xs).flatten) (m++l)
   exact q2.append p2
theorem Qbj{fr ro:Nat->Prop}{σ:Sig}{N:Nat}{a:Act}{w:World}(r:Rel fr ro σ H env N a w){T e k n:Nat}{xs:List Operand}(E:QQ P T e k)(hn:xs.length=n)(hsz:Nat.ble (n*k) 16777216=true)
  (h3:(xs.all fun x=>Q4 (opA env x))=true)(h4:allK k (Q1 env xs)):
  ∃l,(Instr.buildSlice T n (((QaJ 0 xs).map fun p=>(p.1,a.eval p.2)).toArray)).run P w=.ok (.slice (some ⟨w.heap.size,0,none⟩) n n) (w.alloc (.cells l.toArray e))/\LR ro σ w (Q1 env xs).flatten l:=by
 obtain⟨z,hz,hzk⟩:=E.zero
 have hsz':n*k<=16777216:=by simpa using hsz
 have hnr:∀(c:Array Value) (W:World),(newRow e c).run P W=.ok ⟨W.heap.size,0,none⟩ (W.alloc (.cells c e)):=fun c W=>rfl
 unfold Instr.buildSlice
 by_cases h0:n*k=0
 ·obtain⟨l,p1,p2⟩:=Qdn r (k:=k) xs 0 [] [] (by simp) (by rw[hn];simpa using h0.symm) h3 h4
  refine⟨l,?_,p2⟩
  simp only[Sem.run_bind,E.sl,Result.andThen,E.size,h0]
  simp only[Nat.not_lt_zero,gt_iff_lt,if_false,if_true,Sem.run_pure,Sem.run_ite,Result.andThen]
  have e0:Array.range 0= #[]:=rfl
  simp at p1
  simp[e0,p1,hnr]
 ·obtain⟨l,p1,p2⟩:=Qdn r (k:=k) xs 0 [] ((Array.range (n*k)).map (fun i=>z.cells[i%z.cells.size]!)).toList (by simp) (by rw[hn];simp) h3 h4
  refine⟨l,?_,p2⟩
  simp only[Sem.run_bind,E.sl,Result.andThen,E.size,if_neg h0,Sem.run_ite,hz,Sem.run_pure]
  rw[if_neg (by omega)]
  simp only[List.nil_append]at p1
  rw[Array.toArray_toList]at p1
  simp only[p1,Sem.run_bind,hnr,Result.andThen,Sem.run_pure]
theorem Qbb{T n:Nat}{xs:List Operand}(ho:o.op=.buildSlice T n (QaJ 0 xs).toArray)(ρ:Operand->Value){v:Value}{w w':World}
  (h:(Instr.buildSlice T n (((QaJ 0 xs).map fun p=>(p.1,ρ p.2)).toArray)).run P w=.ok v w'):(execOp ρ o).run P w=.ok (.value v) w':=by
 simp only[execOp,ho,Sem.run_bind,List.map_toArray,h,Result.andThen,Sem.run_pure]
theorem OpH.lit{T e k n:Nat}{xs:List Operand}{es:List (List A)}(E:QQ P T e k)(ho:o.op=.buildSlice T n (QaJ 0 xs).toArray)(hn:xs.length=n)(hsz:Nat.ble (n*k) 16777216=true)
  (hk:(xs.all fun x=>Q4 (opA env x))=true)(hes:Q1 env xs=es)(h4:allK k es)(hp:es.flatten.all Ye=true)(hd:Q6 es.flatten=true):
  OpH P o env H (.osl H.length 0 n k) (H++[.row e k es]):=by
 intro fr ro σ N a w r
 subst hes
 obtain⟨l,h1,h2⟩:=Qbj r E hn hsz hk h4
 have h2':LR ro [] w (Q1 env xs).flatten l:=h2.data hd
 obtain⟨s1,e1⟩:=QdK (T:=e) (rest:=[]) r.sim h4 h2' (h2.plain hp)
 rw[List.append_nil]at s1 e1
 have hl:l.length=n*k:=by rw[h2.length,YB h4];simp[Q1,hn]
 refine⟨_,_,ro,[some w.heap.size],Qbb ho a.eval h1,.inr ⟨w.heap.size,0,n,e,l.length,?_,rfl,fun _=>by simp,Nat.le_refl _,?_,by rw[hl,Nat.zero_add];exact Nat.le_refl _⟩,s1,e1⟩
 ·rw[<- r.sim.len];simp
 ·unfold World.shape?;rw[Yi];simp
theorem YA{n:Int}{y:Nat}{c:BoundsCode}{w:World}(h0:0<=n)(h1:n<=y):(Instr.sliceBound (.int .i64 n) y c).run P w=.ok n.toNat w:=by
 simp[Instr.sliceBound,asIntOf,h0,h1,go_sem]
theorem Qeu{T e:Nat}{k:Nat}{w:World}(E1:∀w,(underlying T).run P w=.ok (.slice e) w)(E2:∀w,(sizeOf e).run P w=.ok k w){ad:Option Addr}{n cap:Nat}{lo hi:Option Value}{l h:Nat}(hcap:n<=cap)
  (hlo:lo=none/\l=0\/ ∃z:Int,lo=some (.int .i64 z)/\0<=z/\z.toNat=l)(hhi:hi=none/\h=n\/ ∃z:Int,hi=some (.int .i64 z)/\0<=z/\z.toNat=h)(hlh:l<=h)(hh:h<=n):
  (Instr.sliceAt T (.slice ad n cap) lo hi none).run P w=.ok (.slice (if cap=l then ad else ad.map (·.add (l*k))) (h-l) (cap-l)) w:=by
 have h2:(Instr.sliceBounds true n cap lo hi none).run P w=.ok (l,h,cap) w:=by
  rcases hlo with⟨rfl,rfl⟩|⟨z,rfl,z0,rfl⟩<;>rcases hhi with⟨rfl,rfl⟩|⟨y,rfl,y0,rfl⟩
  ·simp[Instr.sliceBounds,go_sem]
  ·simp only[Instr.sliceBounds,Sem.run_bind,Sem.run_pure,Result.andThen,YA y0 (show y<=(cap:Int)by omega)]
  ·simp only[Instr.sliceBounds,Sem.run_bind,Sem.run_pure,Result.andThen,YA z0 (show z<=(h:Int)by omega)]
  ·simp only[Instr.sliceBounds,Sem.run_bind,Sem.run_pure,Result.andThen,YA y0 (show y<=(cap:Int)by omega),YA z0 (show z<=(y.toNat:Int)by omega)]
 simp only[Instr.sliceAt,Sem.run_bind,E1,Result.andThen,Instr.slice,h2,E2,Sem.run_pure]
theorem QaQ{fr ro:Nat->Prop}{σ:Sig}{N:Nat}{a:Act}{w:World}(r:Rel fr ro σ H env N a w){x:Option Operand}{l d:Nat}(h:x=none/\l=d\/ ∃y,∃z:Int,x=some y/\opA env y=.int .i64 z/\0<=z/\z.toNat=l):
  x.map a.eval=none/\l=d\/ ∃z:Int,x.map a.eval=some (.int .i64 z)/\0<=z/\z.toNat=l:=by
 rcases h with⟨rfl,rfl⟩|⟨y,z,rfl,h1,h2,h3⟩
 ·exact .inl ⟨rfl,rfl⟩
 ·exact .inr ⟨z,by simp[QM r h1],h2,h3⟩
theorem QfE{T e k i s n:Nat}{x:Operand}{lo hi:Option Operand}{l h:Nat}(E1:∀w,(underlying T).run P w=.ok (.slice e) w)(E2:∀w,(sizeOf e).run P w=.ok k w)(ho:o.op=.slice T x lo hi none)
  (hx:opA env x=.osl i s n k)(hlo:lo=none/\l=0\/ ∃y,∃z:Int,lo=some y/\opA env y=.int .i64 z/\0<=z/\z.toNat=l)
  (hhi:hi=none/\h=n\/ ∃y,∃z:Int,hi=some y/\opA env y=.int .i64 z/\0<=z/\z.toNat=h)(hlh:l<=h)(hh:h<=n):OpV P o env H (.osl i (s+l) (h-l) k):=by
 intro fr ro σ N a w r
 have h1:=Qg r x
 rw[hx]at h1
 rcases h1 with⟨rfl,h1⟩|⟨b,p,cap,t',m,h1,h2,h3,h4,h5,h6⟩
 ·have hrun:=Qeu (P:=P) (w:=w) E1 E2 (ad:=none) (Nat.le_refl 0) (QaQ r hlo) (QaQ r hhi) hlh hh
  refine⟨_,by simp only[execOp,ho,h1,Sem.run_bind,hrun,Result.andThen,Sem.run_pure,Option.map_none];rfl,?_⟩
  left
  obtain rfl:h=0:=by omega
  obtain rfl:l=0:=by omega
  simp
 ·have hrun:=Qeu (P:=P) (w:=w) E1 E2 (ad:=some ⟨b,p,none⟩) h4 (QaQ r hlo) (QaQ r hhi) hlh hh
  refine⟨_,by simp only[execOp,ho,h2,Sem.run_bind,hrun,Result.andThen,Sem.run_pure,Option.map_none];rfl,?_⟩
  right
  by_cases hc:cap=l
  ·refine⟨b,p,0,t',m,h1,by rw[if_pos hc];simp[hc],fun q=>by omega,by omega,h5,?_⟩
   subst hc
   exact Nat.le_trans (by simp) h6
  ·refine⟨b,p+l*k,cap-l,t',m,h1,by rw[if_neg hc];simp[QaC],fun q=>by rw[h3 (by omega),Nat.add_mul],by omega,h5,?_⟩
   rw[show s+l+(cap-l)=s+cap from by omega];exact h6
theorem Qjc{T e k:Nat}{x:Operand}{lo hi:Option Operand}{l h:Nat}(E1:∀w,(underlying T).run P w=.ok (.slice e) w)(E2:∀w,(sizeOf e).run P w=.ok k w)(ho:o.op=.slice T x lo hi none)
  (hx:opA env x=.nils)(hlo:lo=none/\l=0\/ ∃y,∃z:Int,lo=some y/\opA env y=.int .i64 z/\0<=z/\z.toNat=l)
  (hhi:hi=none/\h=0\/ ∃y,∃z:Int,hi=some y/\opA env y=.int .i64 z/\0<=z/\z.toNat=h)(hlh:l<=h)(hh:h<=0):OpV P o env H .nils:=by
 intro fr ro σ N a w r
 have h1:=Qg r x
 rw[hx]at h1
 simp only[VR]at h1
 have hrun:=Qeu (P:=P) (w:=w) E1 E2 (ad:=none) (Nat.le_refl 0) (QaQ r hlo) (QaQ r hhi) hlh hh
 refine⟨_,by simp only[execOp,ho,h1,Sem.run_bind,hrun,Result.andThen,Sem.run_pure,Option.map_none];rfl,?_⟩
 obtain rfl:h=0:=by omega
 obtain rfl:l=0:=by omega
 simp[VR]
theorem OpV.max{c:Call}{x y:Operand}{k:IntKind}{m n:Int}(ho:o.op=.call c)(hc:c={callee:=.builtin .max,args:= #[x,y],argTypes:=c.argTypes})(hx:opA env x=.int k m)(hy:opA env y=.int k n):
  OpV P o env H (.int k (if m<n then n else m)):=by
 intro fr ro σ N a w r
 have h1:=QM r hx
 have h2:=QM r hy
 refine⟨_,?_,rfl⟩
 generalize a.eval=ρ at*
 have hc1:c.callee=.builtin .max:=by rw[hc]
 have hc2:c.args= #[x,y]:=by rw[hc]
 simp only[execOp,ho,resolve,hc1,hc2,invoke,Go.builtin,Sem.run_bind,Sem.run_pure,Result.andThen]
 simp[Builtin.max_,Builtin.max2,h1,h2,go_sem]
theorem OpV.min{c:Call}{x y:Operand}{k:IntKind}{m n:Int}(ho:o.op=.call c)(hc:c={callee:=.builtin .min,args:= #[x,y],argTypes:=c.argTypes})(hx:opA env x=.int k m)(hy:opA env y=.int k n):
  OpV P o env H (.int k (if n<m then n else m)):=by
 intro fr ro σ N a w r
 have h1:=QM r hx
 have h2:=QM r hy
 refine⟨_,?_,rfl⟩
 generalize a.eval=ρ at*
 have hc1:c.callee=.builtin .min:=by rw[hc]
 have hc2:c.args= #[x,y]:=by rw[hc]
 simp only[execOp,ho,resolve,hc1,hc2,invoke,Go.builtin,Sem.run_bind,Sem.run_pure,Result.andThen]
 simp[Builtin.min_,Builtin.min2,h1,h2,go_sem]
end
end Go.Sw
namespace Go.Sw
section
variable {P:Program}{h0 N:Nat}{env:Env}{H:Qc}{Q:Qz}{c c':Code}
theorem Qh1(h:TC P h0 N c env H Q):Seq P h0 N c Q .normal env H:=h
theorem seqX{id:Nat}(h:Q (.exit id) env H):Seq P h0 N c Q (.exit id) env H:=h
theorem seqR(h:Q .ret env H):Seq P h0 N c Q .ret env H:=h
theorem bloN{id:Nat}(h:Q .normal env H):Blo id Q .normal env H:=h
theorem bloE{id:Nat}(h:Q .normal env H):Blo id Q (.exit id) env H:=by simp only[Blo,Nat.beq_refl,cond_true];exact h
theorem bloX{id id':Nat}(e:Nat.beq id' id=false)(h:Q (.exit id') env H):Blo id Q (.exit id') env H:=by simp only[Blo,e,cond_false];exact h
theorem bloR{id:Nat}(h:Q .ret env H):Blo id Q .ret env H:=h
def QgS{S B:Type}(h0:Nat)(b:Ctl S B)(Eb:S->Env)(Hb:S->Qc)(Q:Qz):Qz
 |.normal,env,H=>∃s,b=.cont s/\Le h0 env H (Eb s) (Hb s)
 |.exit id,env,H=>Q (.exit id) env H
 |.ret,env,H=>Q .ret env H
theorem QgK{S B:Type}{b:Ctl S B}(Eb:S->Env)(Hb:S->Qc)(h:TC P h0 N c env H (QgS h0 b Eb Hb Q))(k:∀s env H,b=.cont s->Le h0 env H (Eb s) (Hb s)->Q .normal env H):TC P h0 N c env H Q:=
 h.mono fun x env' H' q=>by
  cases x with
  |normal=>obtain⟨s,e,q⟩:=q;exact k s _ _ e q
  |exit id=>exact q
  |ret=>exact q
section
variable {S B:Type}{b:Ctl S B}{Eb:S->Env}{Hb:S->Qc}
theorem Qm{s:S}(e:b=.cont s)(h:Le h0 env H (Eb s) (Hb s)):QgS h0 b Eb Hb Q .normal env H:=⟨s,e,h⟩
theorem Qk(h:Q .ret env H):QgS h0 b Eb Hb Q .ret env H:=h
end
theorem Qi7{x:Operand}{t:Bool}(hx:opA env x=.bool t)(h:t=true)(ht:TC P h0 N c env H Q):TC P h0 N (.cond x c c') env H Q:=TC.cond hx (fun _=>ht) (fun q=>by rw[h]at q;cases q)
theorem Qi8{x:Operand}{t:Bool}(hx:opA env x=.bool t)(h:t=false)(hf:TC P h0 N c' env H Q):TC P h0 N (.cond x c c') env H Q:=TC.cond hx (fun q=>by rw[h]at q;cases q) (fun _=>hf)
section
variable {S B:Type}{I:S->Env->Qc->Prop}
theorem Qi{s:S}{d:Ctl S B}(e:some (Ctl.cont s)=some d)(h:I s env H):QaW I d Q .normal env H:=⟨s,(Option.some.inj e).symm,h⟩
theorem Qj{id:Nat}{b:B}{d:Ctl S B}(e:some (Ctl.done b)=some d)(h:Q (.exit id) env H):QaW I d Q (.exit id) env H:=⟨⟨b,(Option.some.inj e).symm⟩,h⟩
theorem Ql{b:B}{d:Ctl S B}(e:some (Ctl.done b)=some d)(h:Q .ret env H):QaW I d Q .ret env H:=⟨⟨b,(Option.some.inj e).symm⟩,h⟩
end
end
theorem Yy{α β:Type}{x:Option α}{f:α->Option β}{r:β}(h:x.bind f=some r):∃a,x=some a/\f a=some r:=Option.bind_eq_some_iff.1 h
theorem ifT{α:Type}{c:Bool}{x y:Option α}{r:α}(hc:c=true)(h:(bif c then x else y)=some r):x=some r:=by subst hc;exact h
theorem ifF{α:Type}{c:Bool}{x y:Option α}{r:α}(hc:c=false)(h:(bif c then x else y)=some r):y=some r:=by subst hc;exact h
def idx{α:Type}(l:List α)(i:Int):Option α:=bif decide (0<=i)then l[i.toNat]? else none
theorem Qa1{α:Type}{l:List α}{i:Int}{x:α}(h:idx l i=some x):0<=i/\l[i.toNat]?=some x:=by
 unfold idx at h
 by_cases q:0<=i
 ·rw[decide_eq_true q]at h;exact⟨q,h⟩
 ·rw[decide_eq_false q]at h;simp at h
def app{α:Type}(l m:List α):Option (List α):=bif Nat.ble (l.length+m.length) QV then some (l++m)else none
theorem QkS{α:Type}{l m r:List α}(h:app l m=some r):l.length+m.length<=QV/\l++m=r:=by
 unfold app at h
 cases q:Nat.ble (l.length+m.length) QV with
 |true=>rw[q]at h;exact⟨Nat.le_of_ble_eq_true q,Option.some.inj h⟩
 |false=>rw[q]at h;simp at h
def slc{α:Type}(l:List α)(lo hi:Int):Option (List α):=bif decide (0<=lo)&&decide (lo<=hi)&&decide (hi<=(l.length:Int))then some ((l.take hi.toNat).drop lo.toNat)else none
theorem Qc2{α:Type}{l r:List α}{lo hi:Int}(h:slc l lo hi=some r):0<=lo/\lo<=hi/\hi<=l.length/\(l.take hi.toNat).drop lo.toNat=r:=by
 unfold slc at h
 cases q:(decide (0<=lo)&&decide (lo<=hi)&&decide (hi<=(l.length:Int)))with
 |true=>
  rw[q]at h
  simp at q
  exact⟨q.1.1,q.1.2,q.2,Option.some.inj h⟩
 |false=>rw[q]at h;simp at h
def Qet{α:Type}(l:List α)(i:Int)(x:α):Option (List α):=bif decide (0<=i)&&decide (i<(l.length:Int))then some (l.set i.toNat x)else none
theorem QcS{α:Type}{e:α->List A}{l:List α}{i:Nat}{x:α}(h:l[i]?=some x):(l.map e)[i]?=some (e x):=by simp[h]
end Go.Sw
namespace Go.Sw
section
variable {P:Program}{h0 N:Nat}{env:Env}{H H':Qc}{Q:Qz}{all:Array Oper}{o:Oper}{l:List Oper}{d:Nat}{x:A}
theorem vV(hop:OpV P o env H x)(k:WO P h0 N all l (up env d x) H Q)(hg:Qq all o env true:=by exact rfl)(hd:o.dst=some d:=by exact rfl)(hN:Nat.blt d N=true:=by exact rfl):WO P h0 N all (o::l) env H Q:=
 Qy hg hd hN hop k
theorem vH(hop:OpH P o env H x H')(k:WO P h0 N all l (up env d x) H' Q)(hg:Qq all o env true:=by exact rfl)(hd:o.dst=some d:=by exact rfl)(hN:Nat.blt d N=true:=by exact rfl)(hh:Nat.ble h0 H.length=true:=by exact rfl):WO P h0 N all (o::l) env H Q:=
 QbQ (Nat.le_of_ble_eq_true hh) hg hd hN hop k
theorem vU(hop:OpU P o env H H')(k:WO P h0 N all l env H' Q)(hg:Qq all o env true:=by exact rfl)(hd:o.dst=none:=by exact rfl)(hh:Nat.ble h0 H.length=true:=by exact rfl):WO P h0 N all (o::l) env H Q:=
 Qf7 (Nat.le_of_ble_eq_true hh) hg hd hop k
theorem gT{j s:Nat}{c x:Bool}(hx:x=c)(hg:o.guard=some (j,c):=by exact rfl)(hs:(all[j]?).bind (·.dst)=some s:=by exact rfl)(hl:lk env s=.bool x:=by exact rfl):Qq all o env true:=by
 unfold Qq
 rw[hg]
 exact⟨s,hs,.inl ⟨x,hl,by subst hx;cases x<;>rfl⟩⟩
theorem gF{j s:Nat}{c x:Bool}(hx:x= !c)(hg:o.guard=some (j,c):=by exact rfl)(hs:(all[j]?).bind (·.dst)=some s:=by exact rfl)(hl:lk env s=.bool x:=by exact rfl):Qq all o env false:=by
 unfold Qq
 rw[hg]
 exact⟨s,hs,.inl ⟨x,hl,by subst hx;cases c<;>rfl⟩⟩
theorem QkV{x x':A}(hx:x'=x)(hH:H'=H)(k:WO P h0 N all l (up env d x) H Q):WO P h0 N all l (up env d x') H' Q:=by subst hx;subst hH;exact k
theorem QkW(hH:H'=H)(k:WO P h0 N all l env H Q):WO P h0 N all l env H' Q:=by subst hH;exact k
theorem Qu{f:FuncId}{args argsc:List A}{Hc:Qc}{Qr:A->Qc->Prop}(π:List Nat)(hop:OpC P o env H f args)(hC:C P f argsc Hc Qr)
  (k:∀r H1,Qr r H1->WO P h0 N all l (up env d (Yl (rho π H.length) r)) (Q3 H π (H1.map (QN (rho π H.length)))) Q)
  (hargs:args=Qaa (rho π H.length) argsc:=by exact rfl)(hH:π.map (fun p=>H[p]?)=(Hc.map (QN (rho π H.length))).map some:=by exact rfl)(hπ:π.Nodup:=by decide)
  (hg:Qq all o env true:=by exact rfl)(hd:o.dst=some d:=by exact rfl)(hN:Nat.blt d N=true:=by exact rfl)(hh:Nat.ble h0 H.length=true:=by exact rfl):WO P h0 N all (o::l) env H Q:=
 WO.call (d:=some d) π (Nat.le_of_ble_eq_true hh) hg hd (fun x hx=>by cases hx;simpa using hN) hop hargs hH hπ hC k
end
section
variable {P:Program}{o:Oper}{env:Env}{H:Qc}{α:Type}{e:α->List A}
theorem Ym{c:Call}{t et k:Nat}{x:Operand}{l:List α}(ht:∀w,(underlying t).run P w=.ok (.slice et) w)(ho:o.op=.call c:=by exact rfl)(hc:c={callee:=.builtin .len,args:= #[x],argTypes:= #[t]}:=by exact rfl)
  (hx:opA env x=.rsl k (l.map e):=by exact rfl):OpV P o env H (.int .i64 l.length):=by
 have:=Qi9 (H:=H) ho hc ht hx
 rwa [List.length_map]at this
theorem Yh{t et k:Nat}{x y:Operand}{l:List α}{kk:IntKind}{i:Int}{v:α}(h:idx l i=some v)(ht:∀w,(underlying t).run P w=.ok (.slice et) w)(hs:∀w,(sizeOf et).run P w=.ok k w)
  (ho:o.op=.indexAddr t x y:=by exact rfl)(hx:opA env x=.rsl k (l.map e):=by exact rfl)(hy:opA env y=.int kk i:=by exact rfl):OpV P o env H (.rp (e v)):=
 Qj2 ho ht hs hx hy (Qa1 h).1 (QcS (Qa1 h).2)
theorem Yp{t et k b n:Nat}{x y:Operand}{l:List α}{kk:IntKind}{i:Int}{v:α}(h:idx l i=some v)(hn:l.length=n)(ht:∀w,(underlying t).run P w=.ok (.slice et) w)(hs:∀w,(sizeOf et).run P w=.ok k w)
  (ho:o.op=.indexAddr t x y:=by exact rfl)(hx:opA env x=.osl b 0 n k:=by exact rfl)(hy:opA env y=.int kk i:=by exact rfl):OpV P o env H (.ptr b (i.toNat*k)):=by
 have:=Qa1 h
 have hlt:i.toNat<l.length:=(List.getElem?_eq_some_iff.1 this.2).1
 have h2:=QgN (H:=H) ho ht hs hx hy this.1 (by omega)
 rwa [Nat.zero_mul,Nat.zero_add]at h2
theorem Qhv{b t k f:Nat}{l:List α}{i:Int}{v:α}{cs':List A}(h:idx l i=some v)(hH:H[b]?=some (.row t k (l.map e)):=by exact rfl)(hcs:(e v).drop f=cs':=by exact rfl):Pts H (.ptr b (i.toNat*k+f)) cs':=
 Pts.row hH rfl (QcS (Qa1 h).2) hcs
theorem QJ{b t k:Nat}{l:List α}{i:Int}{v:α}{cs':List A}(h:idx l i=some v)(hH:H[b]?=some (.row t k (l.map e)):=by exact rfl)(hcs:e v=cs':=by exact rfl):Pts H (.ptr b (i.toNat*k)) cs':=
 Pts.row (f:=0) hH rfl (QcS (Qa1 h).2) hcs
theorem QO{c:Call}{T T' et et' k i n:Nat}{x y:Operand}{ya:A}{l m r:List α}(h:app l m=some r)(E:QQ P T et k)(hd:∀w,(underlying T').run P w=.ok (.slice et') w)(hs:Src P H ya k (m.map e))
  (hn:l.length=n:=by exact rfl)(ho:o.op=.call c:=by exact rfl)(hc:c={callee:=.builtin .append,args:= #[x,y],argTypes:= #[T,T']}:=by exact rfl)(hx:opA env x=.osl i 0 n k:=by exact rfl)
  (hH:H[i]?=some (.row et k (l.map e)):=by exact rfl)(hy:opA env y=ya:=by exact rfl):
  OpH P o env H (.osl H.length 0 r.length k) (H.set i .dead++[.row et k (r.map e)]):=by
 obtain⟨h1,rfl⟩:=QkS h
 subst hn
 have:=QfG E hd ho hc hx hH (by simp) hy hs (by simpa using h1) (gs:=(l++m).map e) (by rw[List.take_of_length_le (by simp)];simp)
 simpa using this
theorem Qf9{k:Nat}{l:List α}:Src P H (.rsl k (l.map e)) k (l.map e):=Src.rsl
theorem Yw{i n k t:Nat}{l:List α}(hH:H[i]?=some (.row t k (l.map e)):=by exact rfl)(hn:l.length=n:=by exact rfl):Src P H (.osl i 0 n k) k (l.map e):=
 Src.osl hH (by subst hn;rw[List.drop_zero,List.take_of_length_le (by simp)]) (by simp[hn])
theorem QaF{t n b T k f:Nat}{x y:Operand}{l l':List α}{i:Int}{v v':α}{vs:List A}{a:A}{off:Nat}(h:idx l i=some v)(hl:Qet l i v'=some l')(hs:∀w,(sizeOf t).run P w=.ok n w)(hoff:off=i.toNat*k+f)(hcs:splice (e v) f vs=e v')
  (ho:o.op=.store t x y:=by exact rfl)(hx:opA env x=.ptr b off:=by exact rfl)(hH:H[b]?=some (.row T k (l.map e)):=by exact rfl)
  (hy:opA env y=a:=by exact rfl)(hk:Q4 a=true:=by exact rfl)(hv:QU a=vs:=by exact rfl)(hn:vs.length=n:=by exact rfl)(hp:vs.all Ye=true:=by exact rfl)(hd:Q6 vs=true:=by exact rfl)(hf:Nat.ble (f+n) k=true:=by exact rfl):
  OpU P o env H (H.set b (.row T k (l'.map e))):=by
 refine QeS ho hx hH hs hoff (QcS (Qa1 h).2) hy hk hv hn hp hd hf hcs ?_
 unfold Qet at hl
 cases q:(decide (0<=i)&&decide (i<(l.length:Int)))with
 |false=>rw[q]at hl;simp at hl
 |true=>rw[q]at hl;rw[<- Option.some.inj hl,List.map_set]
end
def ZR(a:A)(v:Value):Prop:=∀ro σ w,VR ro σ w a v
def ZL(az:List A)(l:List Value):Prop:=∀ro σ w,LR ro σ w az l
theorem ZR.int{k:IntKind}{n:Int}:ZR (.int k n) (.int k n):=fun _ _ _=>rfl
theorem ZR.bool{b:Bool}:ZR (.bool b) (.bool b):=fun _ _ _=>rfl
theorem ZR.str:ZR (.str []) (.string ⟨#[]⟩):=fun _ _ _=>rfl
theorem ZR.rsl{α:Type}{k:Nat}{e:α->List A}:ZR (.rsl k (List.map e [])) (.slice none 0 0):=fun _ _ _=>⟨none,0,rfl,Nat.le_refl _,.inl rfl⟩
theorem ZR.nils:ZR .nils (.slice none 0 0):=fun _ _ _=>rfl
theorem ZR.nilp:ZR .nilp (.pointer none):=fun _ _ _=>rfl
theorem ZR.nilf:ZR .nilf .nilFunc:=fun _ _ _=>rfl
theorem ZR.nilm:ZR .nilm (.map none):=fun _ _ _=>rfl
theorem QjZ:ZR .nilif .nilIface:=fun _ _ _=>rfl
theorem ZL.nil:ZL [] []:=fun _ _ _=>rfl
theorem ZL.cons{a:A}{v:Value}{az:List A}{l:List Value}(h:ZR a v)(k:ZL az l):ZL (a::az) (v::l):=fun ro σ w=>⟨v,l,rfl,h ro σ w,k ro σ w⟩
theorem ZR.agg{az:List A}{l:List Value}(h:ZL az l):ZR (.agg az) (.agg l.toArray):=fun ro σ w=>⟨l,rfl,h ro σ w⟩
section
variable {P:Program}{o:Oper}{env:Env}{H:Qc}
theorem QbS{t:Nat}{z:Value}{v:A}{cs:List A}(hz:∀w,(zeroValue t).run P w=.ok z w)(hv:ZR v z)(ho:o.op=.alloc t:=by exact rfl)(hk:Q4 v=true:=by exact rfl)(hcs:QU v=cs:=by exact rfl)(hpl:cs.all Ye=true:=by exact rfl):
  OpH P o env H (.ptr H.length 0) (H++[.cells t cs]):=by
 intro fr ro σ N a w r
 obtain⟨l,h2,h3⟩:=(hv ro σ w).cells hk
 subst hcs
 refine⟨.pointer (some ⟨w.heap.size,0,none⟩),w.alloc (.cells l.toArray t),ro,[some w.heap.size],?_,⟨w.heap.size,?_,rfl⟩,r.sim.allocCells h3 (h3.plain hpl),Qf.alloc _ r.sim.roLt r.sim.frLt⟩
 ·generalize a.eval=ρ at*
  have e:(newVar t z).run P w=.ok ⟨w.heap.size,0,none⟩ (w.alloc (.cells l.toArray t)):=by
   unfold newVar;rw[h2];rfl
  simp only[execOp,ho,Instr.alloc,Sem.run_bind,hz,Result.andThen,e]
  rfl
 ·rw[<- r.sim.len];simp
theorem Qdq{t:TypeId}{p q:Bool}{w:World}(ht:∀w,(underlying t).run P w=.ok .bool w):(Op.equal t (.bool p) (.bool q)).run P w=.ok (p==q) w:=by
 have k:∀d,(Op.equalIn (d+1) t (.bool p) (.bool q)).run P w=.ok (p==q) w:=by
  intro d
  simp[Op.equalIn,ht,go_sem]
 exact k 9999
theorem QdG{t u:TypeId}{x y:Operand}{p q:Bool}(ht:∀w,(underlying t).run P w=.ok .bool w)(ho:o.op=.binOp .eql t x y u:=by exact rfl)(hx:opA env x=.bool p:=by exact rfl)(hy:opA env y=.bool q:=by exact rfl):OpV P o env H (.bool (p==q)):=by
 intro fr ro σ N a w r
 have h1:=QaR r hx
 have h2:=QaR r hy
 refine⟨_,?_,rfl⟩
 generalize a.eval=ρ at*
 simp[execOp,ho,h1,h2,Go.binOp,eqGuard,Qdq ht,go_sem]
theorem QdF{t u:TypeId}{x y:Operand}{p q:Bool}(ht:∀w,(underlying t).run P w=.ok .bool w)(ho:o.op=.binOp .neq t x y u:=by exact rfl)(hx:opA env x=.bool p:=by exact rfl)(hy:opA env y=.bool q:=by exact rfl):OpV P o env H (.bool (p != q)):=by
 intro fr ro σ N a w r
 have h1:=QaR r hx
 have h2:=QaR r hy
 refine⟨_,?_,rfl⟩
 generalize a.eval=ρ at*
 simp[execOp,ho,h1,h2,Go.binOp,eqGuard,Qdq ht,go_sem,bne]
theorem QaE{t:TypeId}{x y:Operand}{s:List UInt8}{k:IntKind}{i:Int}{c:UInt8}(h:idx s i=some c)(ht:∀w,(underlying t).run P w=.ok .string w)(ho:o.op=.index t x y:=by exact rfl)(hx:opA env x=.str s:=by exact rfl)(hy:opA env y=.int k i:=by exact rfl):
  OpV P o env H (.int .u8 c.toNat):=Qhz ho ht hx hy (Qa1 h).1 (Qa1 h).2
theorem QhB{c:Call}{t et i n k:Nat}{x:Operand}(ht:∀w,(underlying t).run P w=.ok (.slice et) w)(ho:o.op=.call c:=by exact rfl)(hc:c={callee:=.builtin .len,args:= #[x],argTypes:= #[t]}:=by exact rfl)
  (hx:opA env x=.osl i 0 n k:=by exact rfl):OpV P o env H (.int .i64 n):=Qja ho hc ht hx
end
def Qd(k:IntKind)(n:Int):List A:=[.int k n]
def encB(b:Bool):List A:=[.bool b]
def encS(s:List UInt8):List A:=[.str s]
def Yo{α:Type}(k:Nat)(e:α->List A)(l:List α):List A:=[.rsl k (l.map e)]
end Go.Sw
namespace Go.Sw
theorem QhS{P:Program}{rd:Option Nat}{o:Oper}{a:Act}{next:Act->World->Prop}{Q:Exit->Act->World->Prop}{res:Result Next}
  (hn:∀a' w',next a' w'->a'.defers=a.defers)(h:o.uponIn (WF rd) 0 P a next Q res):
  o.uponIn (WF rd) 0 P a (fun a' w'=>next a' w'/\ ∃v,a'=a.put o.dst v) Q res:=by
 cases res with
 |ok n w'=>
  cases n with
  |value v=>exact⟨h,_,rfl⟩
  |skip=>exact⟨h,_,rfl⟩
  |defer d=>
   have:=congrArg List.length (hn _ _ h)
   exfalso
   revert this
   cases o.dst<;>simp[Act.put]
  |enter f args=>
   exact⟨h.1,CallsIn.mono h.2 (fun e w'' he=>by cases e<;>first|exact⟨he,_,rfl⟩|exact he)⟩
  |row r args=>exact⟨h.1,RowsIn.mono h.2 (fun _ _ he=>⟨he,_,rfl⟩)⟩
  |round l f tmps assign body=>exact⟨h.1,RoundIn.mono h.2 (fun e w'' he=>by cases e<;>first|exact⟨he,_,rfl⟩|exact he)⟩
  |_=>exact h.elim
 |halt x w'=>cases x<;>first|exact h|exact h.elim
def YH(e:Env)(H:Qc):Qz:=fun x e' H'=>x=.normal/\e'=e/\H'=H
theorem YH.mk{e:Env}{H:Qc}:YH e H .normal e H:=⟨rfl,rfl,rfl⟩
inductive Sb (af bf ds:List Nat) (xs:List A) (env0:Env):Env->Prop
 |nil:Sb af bf ds xs env0 []
 |dep (j:Nat) {s:Nat}{a:A}{r:Env} (h1:af.contains j=true) (h2:ds[j]?=some s) (h3:xs[j]?=some a) (k:Sb af bf ds xs env0 r):Sb af bf ds xs env0 ((s,a)::r)
 |old {s:Nat}{a:A}{r:Env} (h1:ds.contains s=false) (h2:lk env0 s=a) (k:Sb af bf ds xs env0 r):Sb af bf ds xs env0 ((s,a)::r)
 |pre (j:Nat) {s:Nat}{a:A}{r:Env} (h1:bf.contains j=true) (h2:ds[j]?=some s) (h3:lk env0 s=a) (k:Sb af bf ds xs env0 r):Sb af bf ds xs env0 ((s,a)::r)
def Qh(o:Oper):List Nat:=(o.after.toList.filter (Region.binds .any)).map (·.on)
def Qhn(l:List Oper)(i:Nat):List Nat:=(List.range l.length).filter fun j=>((l[j]?).map Qh).getD [] |>.contains i
inductive QdI (P:Program) (N:Nat) (l:List Oper) (ds:List Nat) (xs:List A) (env0:Env) (i:Nat) (H H':Qc):Prop
 |mk (o:Oper) (e:Env) (d:Nat) (x:A) (ho:l[i]?=some o) (hd:o.dst=some d) (hx:xs[i]?=some x) (hs:Sb (Qh o) (Qhn l i) ds xs env0 e)
   (h:WO P H.length N l.toArray [o] e H (YH (up e d x) H')):QdI P N l ds xs env0 i H H'
theorem least{p:Nat->Prop}(hdec:∀i,p i\/ ¬p i):∀n,p n->∃i,i<=n/\p i/\ ∀j,j<i->¬p j:=by
 intro n
 induction n using Nat.strongRecOn with
 |ind n ih=>
  intro h
  by_cases q:∃j,j<n/\p j
  ·obtain⟨j,hj,hp⟩:=q
   obtain⟨i,h1,h2,h3⟩:=ih j hj hp
   exact⟨i,by omega,h2,h3⟩
  ·exact⟨n,Nat.le_refl _,h,fun j hj hp=>q ⟨j,hj,hp⟩⟩
def onL(L:Array Bool)(i:Nat):Prop:=L[i]?=some true
theorem Qgw{L:Array Bool}{i:Nat}(hi:i<L.size)(b:Bool):L.getD i b=true↔onL L i:=by
 unfold onL
 rw[Array.getD_eq_getD_getElem?,Array.getElem?_eq_getElem hi]
 simp
theorem QaB{l:List Oper}{L:Array Bool}(hs:L.size=l.length){i:Nat}:
  i∈Region.ready .any l.toArray L↔ ∃o,l[i]?=some o/\ ¬onL L i/\ ∀j∈Qh o,onL L j:=by
 unfold Region.ready
 simp only[List.mem_filter,List.mem_range,List.size_toArray,Bool.and_eq_true,Bool.not_eq_true',List.getElem?_toArray]
 have hof:∀j,L.getD j false=true↔onL L j:=by
  intro j
  unfold onL
  rw[Array.getD_eq_getD_getElem?]
  cases L[j]? <;>simp
 constructor
 ·rintro⟨h1,h2,h3⟩
  refine⟨l[i],List.getElem?_eq_getElem h1,?_,?_⟩
  ·intro q
   rw[<- Qgw (by omega) true]at q
   rw[q]at h2;cases h2
  ·rw[List.getElem?_eq_getElem h1]at h3
   simp only[Option.map_some,Option.getD_some,Array.all_eq_true']at h3
   intro j hj
   unfold Qh at hj
   simp only[List.mem_map,List.mem_filter,Array.mem_toList_iff]at hj
   obtain⟨e,⟨he,hb⟩,rfl⟩:=hj
   have:=h3 e he
   rw[hb]at this
   exact(hof _).1 (by simpa using this)
 ·rintro⟨o,h1,h2,h3⟩
  have hi:i<l.length:=(List.getElem?_eq_some_iff.1 h1).1
  refine⟨hi,?_,?_⟩
  ·rw[<- Qgw (by omega) true]at h2
   simpa using h2
  ·rw[h1]
   simp only[Option.map_some,Option.getD_some,Array.all_eq_true']
   intro e he
   cases hb:Region.binds .any e with
   |false=>simp
   |true=>
    have:=(hof _).2 (h3 e.on (by unfold Qh;simp only[List.mem_map,List.mem_filter,Array.mem_toList_iff];exact⟨e,⟨he,hb⟩,rfl⟩))
    simpa using this
theorem YU{L:Array Bool}{i j:Nat}(hi:i<L.size):onL (L.setIfInBounds i true) j↔j=i\/onL L j:=by
 unfold onL
 rw[Array.getElem?_setIfInBounds]
 by_cases h:i=j
 ·subst h;simp[hi]
 ·have h':¬j=i:=fun q=>h q.symm
  simp[h,h']
def unl(L:Array Bool):Nat:=L.toList.countP (!·)
theorem Qer{L:Array Bool}{i:Nat}(hi:i<L.size)(h:¬onL L i):unl (L.setIfInBounds i true)+1=unl L:=by
 unfold unl
 have hi':i<L.toList.length:=by simpa using hi
 have hv:L.toList[i]=false:=by
  unfold onL at h
  rw[Array.getElem?_eq_getElem hi]at h
  simpa using h
 rw[Array.toList_setIfInBounds,List.countP_set hi']
 have:0<L.toList.countP (!·):=List.countP_pos_iff.2 ⟨L.toList[i],List.getElem_mem hi',by rw[hv];rfl⟩
 rw[hv,if_pos (by rfl),if_neg (by decide)]
 omega
theorem Qgo{L:Array Bool}{i:Nat}(hi:i<L.size)(h:¬onL L i):0<unl L:=by have:=Qer hi h;omega
inductive QbD (l:List Oper) (m:Nat):Nat->Prop
 |one {o:Oper}{j:Nat} (ho:l[m]?=some o) (hj:j∈Qh o):QbD l m j
 |step {o:Oper}{i j:Nat} (h:QbD l m i) (ho:l[i]?=some o) (hj:j∈Qh o):QbD l m j
def Qdc(l:List Oper):Nat->List Nat->List Nat
 |0,S=>S
 |j+1,S=>Qdc l j (bif S.contains j then S++(match l[j]? with|some o=>Qh o|none=>[])else S)
theorem Qbr{l:List Oper}{m:Nat}:∀(n:Nat) (S:List Nat),(∀j∈S,QbD l m j)->∀j∈Qdc l n S,QbD l m j
 |0,S,h,j,hj=>h j hj
 |n+1,S,h,j,hj=>by
  refine Qbr n _ ?_ j hj
  intro i hi
  cases q:S.contains n with
  |false=>rw[q]at hi;exact h i hi
  |true=>
   rw[q]at hi
   rcases List.mem_append.1 hi with z|z
   ·exact h i z
   ·cases ho:l[n]? with
    |none=>rw[ho]at z;cases z
    |some o=>rw[ho]at z;exact .step (h n (by simpa using q)) ho z
def Qas(ds:List Nat)(xs:List A)(env0:Env):Env:=ds.zip xs++env0
theorem QjE{ds:List Nat}{xs:List A}{env0:Env}(hl:ds.length=xs.length)(s:Nat):
  (∃(j:Nat) (x:A),ds[j]?=some s/\xs[j]?=some x/\lk (Qas ds xs env0) s=x)\/(ds.contains s=false/\lk (Qas ds xs env0) s=lk env0 s):=by
 unfold Qas
 induction ds generalizing xs with
 |nil=>right;simp
 |cons d ds ih=>
  cases xs with
  |nil=>simp at hl
  |cons x xs=>
   simp only[List.length_cons,Nat.add_right_cancel_iff]at hl
   simp only[List.zip_cons_cons,List.cons_append,lk]
   cases h:Nat.beq s d with
   |true=>
    obtain rfl:=Nat.eq_of_beq_eq_true h
    left;exact⟨0,x,rfl,rfl,by simp⟩
   |false=>
    have hne:s≠d:=fun q=>by subst q;simp[Nat.beq_refl]at h
    rcases ih hl with⟨j,y,h1,h2,h3⟩|⟨h1,h2⟩
    ·left;exact⟨j+1,y,by simpa using h1,by simpa using h2,by simpa using h3⟩
    ·right;refine⟨?_,by simpa using h2⟩
     simp only[List.contains_cons,h1,Bool.or_false]
     simpa using hne
def drawChk.nodupB:List Nat->Bool
 |[]=>true
 |x::r=> !r.contains x&&drawChk.nodupB r
def drawChk.goB(l:List Oper)(m:Nat):Nat->List Oper->Bool
 |_,[]=>true
 |i,o::r=>(Qh o).all (fun j=>Nat.blt j i)&&(bif Nat.beq i m then(List.range m).all (fun j=>(Qdc l m (Qh o)).contains j)else bif Nat.blt m i then(Qh o).contains (i-1)else true)&&drawChk.goB l m (i+1) r
def drawChk.loB(m k:Nat)(los:List Nat)(hs:List Bool):Nat->List Oper->Bool
 |_,[]=>(List.range k).all fun j=>(List.range m).any fun i=>hs.getD i false&&Nat.beq (los.getD i 0) j
 |i,o::r=>(bif Nat.blt i m then
   (Nat.beq (los.getD i 0) 0||(Qh o).any (fun j=>Nat.blt j m&&Nat.ble (los.getD i 0) (los.getD j 0+(if hs.getD j false then 1 else 0))))
   &&(!hs.getD i false||(Nat.blt (los.getD i 0) k&&(List.range m).all (fun j=> !hs.getD j false|| !Nat.beq (los.getD i 0) (los.getD j 0)||Nat.beq i j)))
  else true)&&drawChk.loB m k los hs (i+1) r
def drawChk(l:List Oper)(m k N:Nat)(ds los:List Nat)(hs:List Bool):Bool:=
 Nat.ble m l.length&&(ds.length==m)&&(l.take m).map (·.dst)==ds.map some&&ds.all (fun d=>Nat.blt d N)&&drawChk.nodupB ds
 &&drawChk.goB l m 0 l&&(drawChk.loB m k los hs 0 l)
theorem QcA{ds:List Nat}(h:drawChk.nodupB ds=true):∀(i j d:Nat),ds[i]?=some d->ds[j]?=some d->i=j:=by
 induction ds with
 |nil=>intro i j d h1;simp at h1
 |cons x r ih=>
  simp only[drawChk.nodupB,Bool.and_eq_true,Bool.not_eq_true']at h
  have hn:∀(i:Nat),r[i]? ≠some x:=by
   intro i q
   have:r.contains x=true:=by simpa using List.mem_of_getElem? q
   rw[this]at h;cases h.1
  intro i j d h1 h2
  cases i with
  |zero=>
   cases j with
   |zero=>rfl
   |succ j=>simp at h1 h2;subst h1;exact absurd h2 (hn j)
  |succ i=>
   cases j with
   |zero=>simp at h1 h2;subst h2;exact absurd h1 (hn i)
   |succ j=>simp at h1 h2;rw[ih h.2 i j d h1 h2]
theorem Qfe{l:List Oper}{m:Nat}:∀(r:List Oper) (b:Nat),drawChk.goB l m b r=true->∀(i:Nat) (o:Oper),r[i]?=some o->
  (∀j∈Qh o,j<b+i)/\(b+i=m->∀j,j<m->j∈Qdc l m (Qh o))/\(m<b+i->b+i-1∈Qh o):=by
 intro r
 induction r with
 |nil=>intro b h i o h1;simp at h1
 |cons x r ih=>
  intro b h i o h1
  simp only[drawChk.goB,Bool.and_eq_true]at h
  cases i with
  |zero=>
   simp at h1;subst h1
   refine⟨fun j hj=>?_,fun hm j hj=>?_,fun hm=>?_⟩
   ·have:=List.all_eq_true.1 h.1.1 j hj;simpa using this
   ·have h2:=h.1.2
    have hb:Nat.beq b m=true:=by subst hm;simp
    rw[hb]at h2
    simp only[cond_true]at h2
    have:=List.all_eq_true.1 h2 j (List.mem_range.2 hj)
    simpa using this
   ·have h2:=h.1.2
    have hb:Nat.beq b m=false:=by
     cases q:Nat.beq b m with
     |false=>rfl
     |true=>have:=Nat.eq_of_beq_eq_true q;omega
    have hc:Nat.blt m b=true:=by simpa using hm
    rw[hb,hc]at h2
    simpa using h2
  |succ i=>
   have:=ih (b+1) h.2 i o (by simpa using h1)
   have e:b+1+i=b+(i+1):=by omega
   rw[e]at this
   exact this
inductive Ob (P:Program) (N:Nat) (l:List Oper) (ds:List Nat) (xs:List A) (env0:Env):Nat->List (List (Qc×Qc))->Prop
 |nil {i:Nat}:Ob P N l ds xs env0 i []
 |cons {i:Nat}{s:List (Qc×Qc)}{r:List (List (Qc×Qc))} (h:∀p∈s,QdI P N l ds xs env0 i p.1 p.2) (k:Ob P N l ds xs env0 (i+1) r):Ob P N l ds xs env0 i (s::r)
theorem Ob.get{P:Program}{N:Nat}{l:List Oper}{ds:List Nat}{xs:List A}{env0:Env}{b:Nat}{ss:List (List (Qc×Qc))}(h:Ob P N l ds xs env0 b ss):
  ∀(i:Nat) (s:List (Qc×Qc)),ss[i]?=some s->∀p∈s,QdI P N l ds xs env0 (b+i) p.1 p.2:=by
 induction h with
 |nil=>intro i s h;simp at h
 | @cons b1 s1 r1 h _ ih=>
  intro i s hs p hp
  cases i with
  |zero=>simp at hs;subst hs;exact h p hp
  |succ i=>
   have:=ih i s (by simpa using hs) p hp
   rwa [show b1+1+i=b1+(i+1)by omega]at this
theorem Ob.st0{P:Program}{N:Nat}{l:List Oper}{ds:List Nat}{xs:List A}{env0:Env}{i:Nat}:∀p∈([]:List (Qc×Qc)),QdI P N l ds xs env0 i p.1 p.2:=by
 intro p hp;cases hp
theorem Ob.stC{P:Program}{N:Nat}{l:List Oper}{ds:List Nat}{xs:List A}{env0:Env}{i:Nat}{H H':Qc}{r:List (Qc×Qc)}(h:QdI P N l ds xs env0 i H H')
  (k:∀p∈r,QdI P N l ds xs env0 i p.1 p.2):∀p∈(H,H')::r,QdI P N l ds xs env0 i p.1 p.2:=by
 intro p hp
 rcases List.mem_cons.1 hp with rfl|q
 ·exact h
 ·exact k p q
theorem QaX.nil{H:Qc}:QaX H [] []:=trivial
theorem QaX.cons{H:Qc}{az as' bs:List A}{a b:A}(e:az=a::as')(h:Look H a b)(k:QaX H as' bs):QaX H az (b::bs):=by subst e;exact⟨h,k⟩
section
variable {P:Program}{o:Oper}{env:Env}{H:Qc}{α:Type}{e:α->List A}
end
end Go.Sw
namespace Go.Sw
inductive PL (P:Program):List Field->List (Nat×Nat)->Prop
 |nil:PL P [] []
 |cons {f:Field}{n:Nat}{fs:List Field}{pl:List (Nat×Nat)} (h:∀w,(sizeOf f.type).run P w=.ok n w) (k:PL P fs pl):PL P (f::fs) ((f.offset,n)::pl)
theorem PL.run{P:Program}{fs:List Field}{pl:List (Nat×Nat)}(h:PL P fs pl):∀w,(fs.mapM fun f=>(do pure (f.offset, <- sizeOf f.type):Sem (Nat×Nat))).run P w=.ok pl w:=by
 induction h with
 |nil=>intro w;rfl
 |cons h _ ih=>
  intro w
  rw[List.mapM_cons]
  simp only[Sem.run_bind,h,Result.andThen,Sem.run_pure,ih]
structure QF (P:Program) (t:TypeId) (pl:List (Nat×Nat)):Prop where
 un:∃fs:List Field,(∀w,(underlying t).run P w=.ok (.struct fs.toArray) w)/\PL P fs pl
section
variable {P:Program}{o:Oper}{env:Env}{H:Qc}
def Qdo(env:Env)(pl:List (Nat×Nat)):List A->List (Nat×Operand)->Option (List A)
 |cs,[]=>some cs
 |cs,(i,x)::r=>match pl[i]? with
  |none=>none
  |some (off,size)=>bif Q4 (opA env x)&&Nat.beq (QU (opA env x)).length size&&Nat.ble (off+size) cs.length then Qdo env pl (splice cs off (QU (opA env x))) r else none
theorem Qfm{fr ro:Nat->Prop}{σ:Sig}{N:Nat}{a:Act}{w:World}(r:Rel fr ro σ H env N a w){pl:List (Nat×Nat)}:∀(parts:List (Nat×Operand)) (cs:List A) (l:List Value) (cs':List A),
  LR ro σ w cs l->Qdo env pl cs parts=some cs'->
  ∃l',Instr.fill (pl.toArray[·]?) l.toArray (parts.map fun p=>(p.1,a.eval p.2))=some l'.toArray/\LR ro σ w cs' l'
 |[],cs,l,cs',h,q=>by
  cases q
  exact⟨l,rfl,h⟩
 |(i,x)::rest,cs,l,cs',h,q=>by
  unfold Qdo at q
  cases hp:pl[i]? with
  |none=>rw[hp]at q;cases q
  |some p=>
   obtain⟨off,size⟩:=p
   rw[hp]at q
   simp only at q
   cases hc:(Q4 (opA env x)&&Nat.beq (QU (opA env x)).length size&&Nat.ble (off+size) cs.length)with
   |false=>rw[hc]at q;cases q
   |true=>
    rw[hc]at q
    simp only[Bool.and_eq_true]at hc
    obtain⟨⟨c1,c2⟩,c3⟩:=hc
    obtain⟨m,q1,q2⟩:=(Qg r x).cells c1
    have hm:m.length=size:=by rw[q2.length];exact Nat.eq_of_beq_eq_true c2
    have hl:l.length=cs.length:=h.length
    obtain⟨l',e1,e2⟩:=Qfm r rest _ (splice l off m) cs' (h.splice off q2) q
    refine⟨l',?_,e2⟩
    rw[List.map_cons,Qd9 (off:=off) (size:=size) (by simpa using hp) q1 hm (by rw[hl];exact Nat.le_of_ble_eq_true c3)]
    exact e1
theorem OpV.build{t:TypeId}{z:Value}{zs cs:List A}{pl:List (Nat×Nat)}{parts:List (Nat×Operand)}(hz:∀w,(zeroValue t).run P w=.ok z w)(hv:ZR (.agg zs) z)(hp:QF P t pl)
  (ho:o.op=.build t parts.toArray:=by exact rfl)(hf:Qdo env pl zs parts=some cs:=by exact rfl):OpV P o env H (.agg cs):=by
 intro fr ro σ N a w r
 obtain⟨fs,h1,h2⟩:=hp.un
 obtain⟨l,rfl,h4⟩:=hv ro σ w
 obtain⟨l',e1,e2⟩:=Qfm r parts zs l cs h4 hf
 refine⟨.agg l'.toArray,?_,l',rfl,e2⟩
 generalize hρ:a.eval=ρ at*
 have h3:=h2.run w
 simp only[execOp,ho,Instr.build,Sem.run_bind,hz,Result.andThen,h1,List.map_toArray,List.mapM_toArray,Sem.run_map,h3,Value.cells,e1,Sem.run_pure]
end
def nz(n:Int):Option Unit:=bif n==0 then none else some ()
theorem Qkf{n:Int}{u:Unit}(h:nz n=some u):n≠0:=by
 rintro rfl
 simp[nz]at h
section
variable {P:Program}{o:Oper}{env:Env}{H:Qc}
theorem QdB{x:Operand}{a:A}(ho:o.op=.nilCheck x)(hx:opA env x=a:=by exact rfl)(hk:(match a with|.ptr _ _=>true|.rp _=>true|_=>false)=true:=by exact rfl):OpV P o env H a:=by
 intro fr ro σ N ac w r
 have h:=Qg r x
 rw[hx]at h
 cases a<;>first|(cases hk;done)|skip
 ·obtain⟨b,h1,h2⟩:=h
  refine⟨_,?_,b,h1,rfl⟩
  generalize ac.eval=ρ at*
  simp[execOp,ho,h2,go_sem]
 ·obtain⟨b,off,h1,h2⟩:=h
  refine⟨_,?_,b,off,rfl,h2⟩
  generalize ac.eval=ρ at*
  simp[execOp,ho,h1,go_sem]
end
mutual
def FzA(i k:Nat)(es:List (List A)):A->A->Prop
 |.agg az,b=>∃bs,b=.agg bs/\FzL i k es az bs
 |.fn f x c,b=>∃x' c',b=.fn f x' c'/\FzL i k es x x'/\FzL i k es c c'
 |.iface t a,b=>∃a',b=.iface t a'/\FzA i k es a a'
 |.tup az,b=>∃bs,b=.tup bs/\FzL i k es az bs
 |.osl j o n k',b=>b=.osl j o n k'\/(j=i/\o=0/\k'=k/\n=es.length/\b=.rsl k es)
 |.nils,b=>b=.nils\/ ∃k',b=.rsl k' []
 |a,b=>b=a
def FzL(i k:Nat)(es:List (List A)):List A->List A->Prop
 |[],b=>b=[]
 |a::az,b=>∃a' as',b=a'::as'/\FzA i k es a a'/\FzL i k es az as'
end
mutual
theorem FzA.refl{i k:Nat}{es:List (List A)}:∀a:A,FzA i k es a a
 |.agg az=>⟨az,rfl,FzL.refl az⟩
 |.fn _ x c=>⟨x,c,rfl,FzL.refl x,FzL.refl c⟩
 |.iface _ a=>⟨a,rfl,FzA.refl a⟩
 |.tup az=>⟨az,rfl,FzL.refl az⟩
 |.osl _ _ _ _=>.inl rfl
 |.nils=>.inl rfl
 |.any=>rfl
 |.bool _=>rfl
 |.int _ _=>rfl
 |.str _=>rfl
 |.nilp=>rfl
 |.ptr _ _=>rfl
 |.rp _=>rfl
 |.rsl _ _=>rfl
 |.nilf=>rfl
 |.nilif=>rfl
 |.map _=>rfl
 |.nilm=>rfl
theorem FzL.refl{i k:Nat}{es:List (List A)}:∀az:List A,FzL i k es az az
 |[]=>rfl
 |a::az=>⟨a,az,rfl,FzA.refl a,FzL.refl az⟩
end
theorem FzA.agg{i k:Nat}{es:List (List A)}{az bs:List A}(h:FzL i k es az bs):FzA i k es (.agg az) (.agg bs):=⟨bs,rfl,h⟩
theorem FzA.tup{i k:Nat}{es:List (List A)}{az bs:List A}(h:FzL i k es az bs):FzA i k es (.tup az) (.tup bs):=⟨bs,rfl,h⟩
theorem FzA.iface{i k:Nat}{es:List (List A)}{t:Nat}{a b:A}(h:FzA i k es a b):FzA i k es (.iface t a) (.iface t b):=⟨b,rfl,h⟩
theorem FzA.own{i k n:Nat}{es:List (List A)}(hn:n=es.length):FzA i k es (.osl i 0 n k) (.rsl k es):=.inr ⟨rfl,rfl,rfl,hn,rfl⟩
theorem FzA.nil{i k k':Nat}{es:List (List A)}:FzA i k es .nils (.rsl k' []):=.inr ⟨k',rfl⟩
theorem FzL.cons{i k:Nat}{es:List (List A)}{a b:A}{az bs:List A}(h:FzA i k es a b)(q:FzL i k es az bs):FzL i k es (a::az) (b::bs):=⟨b,bs,rfl,h,q⟩
mutual
theorem Qgh{i k:Nat}{es:List (List A)}{ro ro':Nat->Prop}{σ:Sig}{w:World}(ext:Ext ro σ w ro' σ w)
  (hf:∀v,VR ro σ w (.osl i 0 es.length k) v->VR ro' σ w (.rsl k es) v):∀(a b:A) (v:Value),FzA i k es a b->VR ro σ w a v->VR ro' σ w b v
 |.agg az,b,v,h,q=>by
  obtain⟨bs,rfl,h⟩:=h
  obtain⟨l,rfl,q⟩:=q
  exact⟨l,rfl,Qcv ext hf az bs l h q⟩
 |.fn f x c,b,v,h,q=>by
  obtain⟨x',c',rfl,h1,h2⟩:=h
  obtain⟨l,l',rfl,q1,q2⟩:=q
  exact⟨l,l',rfl,Qcv ext hf x x' l h1 q1,Qcv ext hf c c' l' h2 q2⟩
 |.iface t a,b,v,h,q=>by
  obtain⟨a',rfl,h⟩:=h
  obtain⟨x,rfl,q⟩:=q
  exact⟨x,rfl,Qgh ext hf a a' x h q⟩
 |.tup az,b,v,h,q=>by
  obtain⟨bs,rfl,h⟩:=h
  obtain⟨l,rfl,q⟩:=q
  exact⟨l,rfl,Qcv ext hf az bs l h q⟩
 |.osl j o n k',b,v,h,q=>by
  rcases h with rfl|⟨rfl,rfl,rfl,rfl,rfl⟩
  ·exact q.mono ext
  ·exact hf v q
 |.nils,b,v,h,q=>by
  rcases h with rfl|⟨k',rfl⟩
  ·exact q
  ·obtain rfl:v=.slice none 0 0:=q
   exact⟨none,0,rfl,Nat.le_refl _,.inl rfl⟩
 |.any,b,v,h,q=>by obtain rfl:b=_:=h;trivial
 |.bool _,b,v,h,q=>by obtain rfl:b=_:=h;exact q
 |.int _ _,b,v,h,q=>by obtain rfl:b=_:=h;exact q
 |.str _,b,v,h,q=>by obtain rfl:b=_:=h;exact q
 |.nilp,b,v,h,q=>by obtain rfl:b=_:=h;exact q
 |.ptr _ _,b,v,h,q=>by obtain rfl:b=_:=h;exact q.mono ext
 |.rp _,b,v,h,q=>by obtain rfl:b=_:=h;exact q.mono ext
 |.rsl _ _,b,v,h,q=>by obtain rfl:b=_:=h;exact q.mono ext
 |.nilf,b,v,h,q=>by obtain rfl:b=_:=h;exact q
 |.nilif,b,v,h,q=>by obtain rfl:b=_:=h;exact q
 |.map _,b,v,h,q=>by obtain rfl:b=_:=h;exact q.mono ext
 |.nilm,b,v,h,q=>by obtain rfl:b=_:=h;exact q
theorem Qcv{i k:Nat}{es:List (List A)}{ro ro':Nat->Prop}{σ:Sig}{w:World}(ext:Ext ro σ w ro' σ w)
  (hf:∀v,VR ro σ w (.osl i 0 es.length k) v->VR ro' σ w (.rsl k es) v):∀(az bs:List A) (l:List Value),FzL i k es az bs->LR ro σ w az l->LR ro' σ w bs l
 |[],bs,l,h,q=>by obtain rfl:bs=[]:=h;exact q
 |a::az,bs,l,h,q=>by
  obtain⟨a',as',rfl,h1,h2⟩:=h
  obtain⟨v,l',rfl,q1,q2⟩:=q
  exact⟨v,l',rfl,Qgh ext hf a a' v h1 q1,Qcv ext hf az as' l' h2 q2⟩
end
def FzB(i k:Nat)(es:List (List A))(x y:Blk):Prop:=y=x\/ ∃t cs cs',x=.cells t cs/\y=.cells t cs'/\FzL i k es cs cs'
def FzH(i k:Nat)(es:List (List A)):Qc->Qc->Prop
 |[],h=>h=[]
 |x::r,h=>∃y r',h=y::r'/\FzB i k es x y/\FzH i k es r r'
def Qjj(i k:Nat)(es:List (List A))(env:Env):Env->Prop
 |[]=>True
 |(s,a)::r=>FzA i k es (lk env s) a/\Qjj i k es env r
theorem FzH.nil{i k:Nat}{es:List (List A)}:FzH i k es [] []:=rfl
theorem FzH.keep{i k:Nat}{es:List (List A)}{x:Blk}{r r':Qc}(h:FzH i k es r r'):FzH i k es (x::r) (x::r'):=⟨x,r',rfl,.inl rfl,h⟩
theorem FzH.cells{i k t:Nat}{es:List (List A)}{cs cs':List A}{r r':Qc}(q:FzL i k es cs cs')(h:FzH i k es r r'):FzH i k es (.cells t cs::r) (.cells t cs'::r'):=⟨_,r',rfl,.inr ⟨t,cs,cs',rfl,rfl,q⟩,h⟩
theorem FzH.get{i k:Nat}{es:List (List A)}:∀{H H':Qc},FzH i k es H H'->∀(j:Nat) (y:Blk),H'[j]?=some y->∃x,H[j]?=some x/\FzB i k es x y
 |[],_,h,j,y,q=>by obtain rfl:_=[]:=h;simp at q
 |x::r,_,h,j,y,q=>by
  obtain⟨y',r',rfl,h1,h2⟩:=h
  cases j with
  |zero=>simp at q;subst q;exact⟨x,rfl,h1⟩
  |succ j=>simp at q;obtain⟨x',p1,p2⟩:=h2.get j y q;exact⟨x',by simpa using p1,p2⟩
theorem FzH.len{i k:Nat}{es:List (List A)}:∀{H H':Qc},FzH i k es H H'->H'.length=H.length
 |[],_,h=>by obtain rfl:_=[]:=h;rfl
 |x::r,_,h=>by obtain⟨y',r',rfl,h1,h2⟩:=h;simp[h2.len]
theorem FzB.live{i k:Nat}{es:List (List A)}{x y:Blk}(h:FzB i k es x y):y.live=x.live:=by
 rcases h with rfl|⟨t,cs,cs',rfl,rfl,_⟩<;>rfl
theorem Yn{env:Env}{H H':Qc}{h0 i k t:Nat}{es:List (List A)}(ov:Env)(hi:Nat.ble h0 i=true)(hH:H[i]?=some (.row t k es))(hov:Qjj i k es env ov)(hHv:FzH i k es (H.set i .dead) H'):Le h0 env H (ov++env) H':=by
 intro fr ro σ N a w r
 let ro':Nat->Prop:=fun b=>ro b\/σ[i]?=some (some b)
 have hown:∀b,σ[i]?=some (some b)->b<w.heap.size/\ ¬ro b/\ ¬fr b:=fun b h=>r.sim.own i b _ h hH rfl
 have ext:Ext ro σ w ro' σ w:=⟨fun _ q=>.inl q,fun _ _=>rfl,fun _ _ q=>q,fun _ _ q=>q⟩
 have hf:∀v,VR ro σ w (.osl i 0 es.length k) v->VR ro' σ w (.rsl k es) v:=by
  intro v h
  rcases h with⟨h0,h⟩|⟨b,p,cap,t',m,h1,h,h2,h3,h4,h5⟩
  ·have:es=[]:=List.length_eq_zero_iff.1 h0
   subst this
   exact⟨none,0,h,Nat.le_refl _,.inl rfl⟩
  ·refine⟨_,cap,h,h3,?_⟩
   by_cases he:es=[]
   ·exact .inl he
   ·right
    have hc:0<cap:=Nat.lt_of_lt_of_le (List.length_pos_iff.2 he) h3
    obtain rfl:=h2 hc
    obtain⟨l,q1,q2⟩:=r.sim.blk i _ _ h1 hH
    refine⟨b,0,by simp,.inr h1,?_⟩
    have:=Ys (pre:=[]) (by simpa using q1) q2
    exact this.keep ⟨fun _ q=>.inl q,fun _ _=>rfl,fun _ _ q=>q,fun _ _ q=>q⟩ rfl
 have hcase:∀(j:Nat) (y:Blk),H'[j]?=some y->y≠ .dead->j≠i/\ ∃x,H[j]?=some x/\FzB i k es x y:=by
  intro j y h hv
  obtain⟨x,h1,h2⟩:=hHv.get j y h
  by_cases e:j=i
  ·subst e
   rw[List.getElem?_set]at h1
   simp only[if_true]at h1
   split at h1
   ·cases h1;rcases h2 with rfl|⟨_,_,_,q,_,_⟩
    ·exact absurd rfl hv
    ·cases q
   ·simp at h1
  ·rw[List.getElem?_set_ne (fun q=>e q.symm)]at h1;exact⟨e,x,h1,h2⟩
 refine⟨ro',σ,⟨⟨by rw[hHv.len,List.length_set];exact r.sim.len,r.sim.roOk.to (fun _ q=>.inl q) (fun _ _=>rfl) ?_,r.sim.frLt,?_,?_,?_,?_,r.sim.hidTo (· = ·) QP (Nat.le_refl _) (fun j b x c q1 q2 q3 q4=>q4.elim id fun q=>((r.sim.hid j b x c q1 q2 q3).ne i c _ q hH rfl rfl).elim) (fun _ _ _ _ _ _ _ q=>q) fun j d y g1 g2 g3=>.inl ?_⟩,?_,r.size,r.defers⟩,fun _ q=>.inl q,rfl⟩
 rotate_left 5
 ·obtain⟨_,x,g4,g5⟩:=hcase j y g2 (Qch g3)
  exact⟨j,x,rfl,g1,g4,fun z=>by rw[<- g5.live];exact z,fun c q=>by rcases g5 with rfl|⟨t,cs,cs',rfl,rfl,_⟩;exact q;exact q.elim⟩
 rotate_left 1
 ·rintro b (q|q)
  ·exact r.sim.roLt b q
  ·exact(hown b q).1
 ·rintro b (q|q)
  ·exact r.sim.roFr b q
  ·exact(hown b q).2.2
 ·intro j b v h1 h2 h3
  obtain⟨e,x,h2,hb⟩:=hcase j v h2 (YP h3)
  have hx:x.live=true:=by rw[<- hb.live];exact h3
  obtain⟨p1,p2,p3⟩:=r.sim.own j b x h1 h2 hx
  refine⟨p1,?_,p3⟩
  rintro(q|q)
  ·exact p2 q
  ·exact e (r.sim.inj j i b x _ h1 q h2 hH hx rfl)
 ·intro j j' b v v' h1 h2 h3 h4 h5 h6
  obtain⟨_,x,p1,p2⟩:=hcase j v h3 (YP h5)
  obtain⟨_,x',p1',p2'⟩:=hcase j' v' h4 (YP h6)
  exact r.sim.inj j j' b x x' h1 h2 p1 p1' (by rw[<- p2.live];exact h5) (by rw[<- p2'.live];exact h6)
 ·intro j s v h1 h2
  by_cases hv:v≠ .dead
  ·obtain⟨_,x,p1,p2⟩:=hcase j v h2 hv
   have hb:=r.sim.blk j s x h1 p1
   rcases p2 with rfl|⟨t,cs,cs',rfl,rfl,q⟩
   ·exact hb.keep ext (fun _ _ _=>rfl) (fun _ _ _ _=>rfl)
   ·cases s with
    |none=>exact hb.elim
    |some b=>
     obtain⟨l,e1,e2,e3⟩:=hb
     exact⟨l,e1,Qcv ext hf cs cs' l q e2,e3⟩
  ·obtain rfl:v=.dead:=Classical.not_not.1 hv
   trivial
 ·intro s
  induction ov with
  |nil=>exact(r.env s).mono ext
  |cons p ov ih=>
   obtain⟨s1,a1⟩:=p
   obtain⟨g1,g2⟩:=hov
   simp only[List.cons_append,lk]
   cases q:Nat.beq s s1 with
   |true=>
    obtain rfl:=Nat.eq_of_beq_eq_true q
    exact Qgh ext hf _ _ _ g1 (r.env s)
   |false=>exact ih g2
theorem Qjj.nil{i k:Nat}{es:List (List A)}{env:Env}:Qjj i k es env []:=trivial
theorem Qjj.cons{i k s:Nat}{es:List (List A)}{env:Env}{a b:A}{r:Env}(h:lk env s=a)(q:FzA i k es a b)(g:Qjj i k es env r):Qjj i k es env ((s,b)::r):=⟨h▸q,g⟩
def Qcc(P:Program)(env:Env)(H:Qc)(l:ResultVar)(x:A):Prop:=
 ∀fr ro σ N a w,Rel fr ro σ H env N a w->∃v,((match l with
  |.tmp t=>pure (a.tmps.getD t undef)
  |.cell b t=>do loadVar t (<- asAddr (a.tmps.getD b undef)):Sem Value)).run P w=.ok v w/\VR ro σ w x v
def Qgc(P:Program)(env:Env)(H:Qc):List ResultVar->List A->Prop
 |[],xs=>xs=[]
 |l::ls,xs=>∃x xs',xs=x::xs'/\Qcc P env H l x/\Qgc P env H ls xs'
section
variable {P:Program}{fn:Func}{env:Env}{H:Qc}
theorem Qcc.tmp{t:Nat}{x:A}(hx:lk env t=x:=by exact rfl):Qcc P env H (.tmp t) x:=
 fun fr ro σ N a w r=>⟨a.tmps.getD t undef,rfl,hx▸r.env t⟩
theorem Qcc.cell{b t:Nat}{p x:A}{cs:List A}(ha:∀w,(isAgg t).run P w=.ok false w)(hp:Pts H p (x::cs))(hx:lk env b=p:=by exact rfl):Qcc P env H (.cell b t) x:=by
 intro fr ro σ N a w r
 have h1:=r.env b
 rw[hx]at h1
 obtain⟨b',off,h2,⟨y,h3,_,h4⟩,_⟩:=hp fr ro σ w _ r.sim h1
 refine⟨y,?_,h4⟩
 simp only[h2]
 simp[asAddr,loadVar,ha,Go.load,Sem.run,h3,go_sem]
theorem QcH{b t n:Nat}{p:A}{cs:List A}(ha:∀w,(isAgg t).run P w=.ok true w)(hs:∀w,(sizeOf t).run P w=.ok n w)(hp:Pts H p cs)(hx:lk env b=p:=by exact rfl)(hl:(cs.take n).length=n:=by exact rfl):
  Qcc P env H (.cell b t) (.agg (cs.take n)):=by
 intro fr ro σ N a w r
 have h1:=r.env b
 rw[hx]at h1
 obtain⟨b',off,h2,h3⟩:=hp fr ro σ w _ r.sim h1
 obtain⟨l,q1,_,q2⟩:=Yk (P:=P) (cs:=cs.take n) (off:=off) 0 (by simpa using h3.take n)
 have q2:=q2 w #[] rfl
 rw[hl]at q2
 refine⟨.agg l.toArray,?_,l,rfl,q1⟩
 simp only[h2]
 simp[asAddr,loadVar,ha,hs,loadCells,q2,go_sem]
theorem Qs{b t n i T:Nat}{cs:List A}(ha:∀w,(isAgg t).run P w=.ok true w)(hs:∀w,(sizeOf t).run P w=.ok n w)(hx:lk env b=.ptr i 0)(hH:H[i]?=some (.cells T cs))(hl:cs.length=n):
  Qcc P env H (.cell b t) (.agg cs):=by
 have:=QcH (b:=b) (p:=.ptr i 0) ha hs (Pts.cells (off:=0) hH rfl) hx (by subst hl;simp)
 subst hl
 simpa using this
theorem Qn{b t i T:Nat}{x:A}(ha:∀w,(isAgg t).run P w=.ok false w)(hx:lk env b=.ptr i 0)(hH:H[i]?=some (.cells T [x])):Qcc P env H (.cell b t) x:=
 Qcc.cell (p:=.ptr i 0) (cs:=[]) ha (Pts.cells (off:=0) hH rfl) hx
theorem Qgc.nil:Qgc P env H [] []:=rfl
theorem Qgc.cons{l:ResultVar}{ls:List ResultVar}{x:A}{xs:List A}(h:Qcc P env H l x)(k:Qgc P env H ls xs):Qgc P env H (l::ls) (x::xs):=⟨x,xs,rfl,h,k⟩
theorem Qgc.run{fr ro:Nat->Prop}{σ:Sig}{N:Nat}{a:Act}{w:World}(r:Rel fr ro σ H env N a w):∀{ls:List ResultVar}{xs:List A},Qgc P env H ls xs->
  ∃vs:List Value,(ls.mapM fun l=>(match l with
   |.tmp t=>pure (a.tmps.getD t undef)
   |.cell b t=>do loadVar t (<- asAddr (a.tmps.getD b undef)):Sem Value)).run P w=.ok vs w/\LR ro σ w xs vs
 |[],_,h=>by obtain rfl:_=[]:=h;exact⟨[],rfl,rfl⟩
 |l::ls,_,h=>by
  obtain⟨x,xs,rfl,h1,h2⟩:=h
  obtain⟨v,e1,e2⟩:=h1 fr ro σ N a w r
  obtain⟨vs,e3,e4⟩:=Qgc.run r h2
  refine⟨v::vs,?_,v,vs,rfl,e2,e4⟩
  rw[List.mapM_cons]
  simp only[Sem.run_bind,e1,Result.andThen,e3,Sem.run_pure]
theorem QC{ls:List ResultVar}{xs:List A}(h:fn.results=ls.toArray)(hn:Nat.beq ls.length 1=false)(k:Qgc P env H ls xs):Qcb P fn env H (.tup xs):=by
 intro fr ro σ N a w r
 obtain⟨vs,e1,e2⟩:=k.run r
 have hlen:¬vs.length=1:=by
  have:∀{ls:List ResultVar}{xs:List A},Qgc P env H ls xs->xs.length=ls.length:=by
   intro ls
   induction ls with
   |nil=>intro xs h;obtain rfl:xs=[]:=h;rfl
   |cons l ls ih=>intro xs h;obtain⟨x,xs',rfl,_,h2⟩:=h;simp[ih h2]
  rw[e2.length,this k]
  intro q;rw[q]at hn;cases hn
 refine⟨.tuple vs.toArray,?_,vs,rfl,e2⟩
 unfold results
 rw[h]
 rw[List.mapM_toArray,Sem.run_bind,Sem.run_map]
 erw [e1]
 simp[Result.andThen,hlen,Sem.run_pure]
theorem QL{l:ResultVar}{x:A}(h:fn.results= #[l])(k:Qcc P env H l x):Qcb P fn env H x:=by
 intro fr ro σ N a w r
 obtain⟨vs,e1,e2⟩:=(Qgc.cons k Qgc.nil).run r
 obtain⟨v,_,rfl,e2,rfl⟩:=e2
 refine⟨v,?_,e2⟩
 unfold results
 rw[h,show #[l]=[l].toArray from rfl]
 rw[List.mapM_toArray,Sem.run_bind,Sem.run_map]
 erw [e1]
 rfl
end
end Go.Sw
namespace Go.Sw
mutual
def Qbh:A->Bool
 |.bool _=>true
 |.int _ _=>true
 |.str _=>true
 |.agg cs=>Qc4 cs
 |_=>false
def Qc4:List A->Bool
 |[]=>true
 |a::r=>Qbh a&&Qc4 r
end
mutual
def Qp:A->Value
 |.bool b=>.bool b
 |.int k n=>.int k n
 |.str s=>.string ⟨s.toArray⟩
 |.agg cs=>.agg (YD cs).toArray
 |_=>.bool false
def YD:List A->List Value
 |[]=>[]
 |a::r=>Qp a::YD r
end
mutual
theorem VR.val{ro:Nat->Prop}{σ:Sig}{w:World}:∀{a:A}{v:Value},Qbh a=true->VR ro σ w a v->v=Qp a
 |.bool _,_,_,h=>h
 |.int _ _,_,_,h=>h
 |.str _,_,_,h=>h
 |.agg cs,v,hs,h=>by
  obtain⟨l,rfl,h⟩:=h
  rw[Qp,LR.val hs h]
theorem LR.val{ro:Nat->Prop}{σ:Sig}{w:World}:∀{az:List A}{l:List Value},Qc4 az=true->LR ro σ w az l->l=YD az
 |[],l,_,h=>h
 |a::r,l,hs,h=>by
  obtain⟨v,l',rfl,h1,h2⟩:=h
  simp only[Qc4,Bool.and_eq_true]at hs
  rw[YD,VR.val hs.1 h1,LR.val hs.2 h2]
end
mutual
theorem Qbn{ro:Nat->Prop}{σ:Sig}{w:World}:∀{a:A},Qbh a=true->VR ro σ w a (Qp a)
 |.bool _,_=>rfl
 |.int _ _,_=>rfl
 |.str _,_=>rfl
 |.agg cs,hs=>⟨YD cs,rfl,QdL hs⟩
theorem QdL{ro:Nat->Prop}{σ:Sig}{w:World}:∀{az:List A},Qc4 az=true->LR ro σ w az (YD az)
 |[],_=>rfl
 |a::r,hs=>by
  simp only[Qc4,Bool.and_eq_true]at hs
  exact⟨_,_,rfl,Qbn hs.1,QdL hs.2⟩
end
end Go.Sw
namespace Go.Sw
open Go.MapKept
structure YI (P:Program) (kt:TypeId) {α:Type} (ek:α->A):Prop where
 scl:∀x,Qbh (ek x)=true
 inj:∀x y,Qp (ek x)=Qp (ek y)->x=y
 check:∀(w:World) em x,(Instr.checkKey em 10000 kt (Qp (ek x))).run P w=.ok () w
 find:∀(w:World) x (es:List MapEntry),(∀e∈es,∃y,e.key=Qp (ek y))->
  ((Instr.findKey kt (Qp (ek x)) es).run P w=.ok none w/\ ∀e∈es,e.key≠Qp (ek x))\/ ∃j e,(Instr.findKey kt (Qp (ek x)) es).run P w=.ok (some (j,e.val)) w/\es[j]?=some e/\e.key=Qp (ek x)
 stays:∀(w:World) x,(Instr.keyThatStays (Qp (ek x)) (Qp (ek x))).run P w=.ok (Qp (ek x)) w
section
variable {P:Program}{kt:TypeId}
theorem YI.plain{α:Type}{ek:α->A}{d:TypeDesc}(hk:P.underlying kt=some d)(hp:∀x,IsKey d (Qp (ek x)))(hs:∀x,Qbh (ek x)=true)(hi:∀x y,Qp (ek x)=Qp (ek y)->x=y):YI P kt ek:=by
 refine⟨hs,hi,fun w em x=>run_checkKey hk (hp x) em 9999,fun w x es hes=>?_,fun w x=>run_keyThatStays (hp x)⟩
 ·have hks:∀y∈es,IsKey d y.key:=fun y hy=>by
   obtain⟨l,hl⟩:=hes y hy
   rw[hl];exact hp l
  rcases findNow_spec (hp x) es 0 hks with⟨h1,h2⟩|⟨j,e0,h1,h2,h3⟩
  ·exact Or.inl ⟨run_findKey hk h1,h2⟩
  ·exact Or.inr ⟨j,e0,by simpa using run_findKey hk h1,h2,h3⟩
theorem YI.int{q:IntKind}(hk:P.underlying kt=some (.int q)):YI P kt (fun n=>A.int q n):=
 YI.plain hk (fun x=>by simp[IsKey,Qp]) (fun _=>rfl) (fun x y h=>by simpa[Qp]using h)
theorem YI.str(hk:P.underlying kt=some .string):YI P kt A.str:=
 YI.plain hk (fun x=>by simp[IsKey,Qp]) (fun _=>rfl) (fun x y h=>by simpa[Qp]using h)
theorem YI.struct{α:Type}[DecidableEq α]{ek:α->A}{fs:Array Field}(hk:P.underlying kt=some (.struct fs))(hs:∀x,Qbh (ek x)=true)(hi:∀x y,Qp (ek x)=Qp (ek y)->x=y)
  (hc:∀(w:World) em x,(Instr.checkKey em 10000 kt (Qp (ek x))).run P w=.ok () w)
  (he:∀(w:World) x y,(Op.equal kt (Qp (ek x)) (Qp (ek y))).run P w=.ok (decide (x=y)) w)(hb:∀x,Instr.sameBits 10000 (Qp (ek x)) (Qp (ek x))=true):YI P kt ek:=by
 refine⟨hs,hi,hc,fun w x es hes=>?_,fun w x=>by simp[Instr.keyThatStays,hb x]⟩
 ·have asking:∀(es:List MapEntry) (i:Nat),(∀e∈es,∃y,e.key=Qp (ek y))->
    ((Instr.findAsking kt (Qp (ek x)) es i).run P w=.ok none w/\ ∀e∈es,e.key≠Qp (ek x))\/
    ∃j e,(Instr.findAsking kt (Qp (ek x)) es i).run P w=.ok (some (i+j,e.val)) w/\es[j]?=some e/\e.key=Qp (ek x):=by
   intro es
   induction es with
   |nil=>intro i _;exact .inl ⟨by simp[Instr.findAsking],by simp⟩
   |cons e es ih=>
    intro i hall
    obtain⟨y,hy⟩:=hall e (by simp)
    have hr:=he w x y
    by_cases hxy:x=y
    ·subst hxy
     exact .inr ⟨0,e,by simp[Instr.findAsking,hy,hr],rfl,hy⟩
    ·rcases ih (i+1) (fun z hz=>hall z (by simp[hz]))with⟨h1,h2⟩|⟨j,e',h1,h2,h3⟩
     ·refine .inl ⟨by simp[Instr.findAsking,hy,hr,hxy,h1],fun z hz=>?_⟩
      rcases List.mem_cons.1 hz with rfl|hz
      ·rw[hy];intro q;exact hxy (hi _ _ q).symm
      ·exact h2 z hz
     ·exact .inr ⟨j+1,e',by simp[Instr.findAsking,hy,hr,hxy,h1,Nat.add_assoc,Nat.add_comm 1 j],by simpa using h2,h3⟩
  cases es with
  |nil=>exact .inl ⟨by simp[Instr.findKey,run_underlying hk,Instr.findNow,Result.andThen],by simp⟩
  |cons e es=>
   have hn:Instr.findNow (.struct fs) (Qp (ek x)) (e::es) 0=none:=by
    simp only[Instr.findNow]
    have:∀v v',Instr.sameNow (.struct fs) v v'=none:=by intro v v';cases v<;>cases v'<;>rfl
    rw[this]
   have hf:(Instr.findKey kt (Qp (ek x)) (e::es)).run P w=(Instr.findAsking kt (Qp (ek x)) (e::es) 0).run P w:=by
    simp only[Instr.findKey,Sem.run_bind,run_underlying hk,Result.andThen,hn]
   rw[hf]
   simpa using asking (e::es) 0 hes
def QbK{α β:Type}[DecidableEq α](l:List (α×β))(k:α):Option β:=(l.find? fun p=>decide (p.1=k)).map (·.2)
def Qab{α β:Type}[DecidableEq α](l:List (α×β))(k:α)(v:β):List (α×β):=bif l.any fun p=>decide (p.1=k)then l.map fun p=>bif decide (p.1=k)then(p.1,v)else p else l++[(k,v)]
def Qae{α β:Type}[DecidableEq α](l:List (α×β))(k:α)(z:β):β:=(QbK l k).getD z
def QfV{α β:Type}[DecidableEq α](l:List (α×β))(k:α):Bool:=l.any fun p=>decide (p.1=k)
def Qt{α β:Type}(ek:α->A)(ev:β->A)(l:List (α×β)):List (A×A):=l.map fun p=>(ek p.1,ev p.2)
section
variable {α β:Type} [DecidableEq α] {ek:α->A}{ev:β->A}{ro:Nat->Prop}{w:World} (K:YI P kt ek)
include K
theorem ER.keys:∀{l:List (α×β)}{es:List MapEntry},ER ro [] w (Qt ek ev l) es->es.map (·.key)=l.map fun p=>Qp (ek p.1)
 |[],es,h=>by cases(show es=[]from h);rfl
 |p::l,es,h=>by
  obtain⟨e,l',rfl,h1,h2,h3⟩:=h
  simp only[List.map_cons]
  rw[VR.val (K.scl _) h1,ER.keys (l:=l) h3]
theorem QfL{l:List (α×β)}{es:List MapEntry}(h:ER ro [] w (Qt ek ev l) es):∀e∈es,∃y,e.key=Qp (ek y):=by
 intro e he
 have:e.key∈es.map (·.key):=List.mem_map_of_mem he
 rw[ER.keys K h]at this
 obtain⟨p,_,hp⟩:=List.mem_map.1 this
 exact⟨p.1,hp.symm⟩
theorem ER.find:∀{l:List (α×β)}{es:List MapEntry},ER ro [] w (Qt ek ev l) es->∀(x:α),(es.map (·.key)).Nodup->
  ((∀e:MapEntry,e∈es->e.key≠Qp (ek x))->QbK l x=none/\QfV l x=false)/\
  (∀(j:Nat) (e:MapEntry),es[j]?=some e->e.key=Qp (ek x)->QfV l x=true/\ ∃v,QbK l x=some v/\VR ro [] w (ev v) e.val)
 |[],es,h,x,_=>by
  cases(show es=[]from h)
  exact⟨fun _=>⟨rfl,rfl⟩,fun j e he=>by simp at he⟩
 |p::l,es,h,x,hn=>by
  obtain⟨e0,l',rfl,h1,h2,h3⟩:=h
  have hk:e0.key=Qp (ek p.1):=VR.val (K.scl _) h1
  simp only[List.map_cons,List.nodup_cons]at hn
  obtain⟨a1,a2⟩:=ER.find (l:=l) h3 x hn.2
  by_cases hp:p.1=x
  ·subst hp
   constructor
   ·intro q;exact absurd hk (q e0 (by simp))
   ·intro j e he hx
    cases j with
    |zero=>
     simp only[List.getElem?_cons_zero,Option.some.injEq]at he
     subst he
     exact⟨by simp[QfV],p.2,by simp[QbK],h2⟩
    |succ j=>
     simp only[List.getElem?_cons_succ]at he
     exact absurd (hk.trans hx.symm▸List.mem_map_of_mem (f:=fun e:MapEntry=>e.key) (List.mem_of_getElem? he)) hn.1
  ·have e1:QbK (p::l) x=QbK l x:=by simp[QbK,hp]
   have e2:QfV (p::l) x=QfV l x:=by simp[QfV,hp]
   rw[e1,e2]
   constructor
   ·intro q;exact a1 fun e he=>q e (by simp[he])
   ·intro j e he hx
    cases j with
    |zero=>
     simp only[List.getElem?_cons_zero,Option.some.injEq]at he
     subst he
     exact absurd (K.inj _ _ (hk.symm.trans hx)) hp
    |succ j=>exact a2 j e (by simpa using he) hx
end
end
end Go.Sw
namespace Go.Sw
open Go.MapKept
section
variable {P:Program}{o:Oper}{env:Env}{H:Qc}
theorem Yj{T:Nat}(ho:o.op=.makeMap T none:=by exact rfl):OpH P o env H (.map H.length) (H++[.map []]):=by
 intro fr ro σ N a w r
 refine⟨.map (some w.heap.size),w.alloc (.map #[] 0),ro,[some w.heap.size],?_,⟨w.heap.size,?_,rfl⟩,r.sim.alloc ⟨#[],0,Yi _ _,rfl,by simp,by simp,by simp⟩,Qf.alloc _ r.sim.roLt r.sim.frLt⟩
 ·generalize a.eval=ρ at*
  simp only[execOp,ho,Instr.makeMap,Option.map_none,Sem.run_bind]
  rfl
 ·rw[<- r.sim.len];simp
section
variable {T kt et:Nat}{α β:Type} [DecidableEq α] {ek:α->A}{ev:β->A}{x y:Operand}{i:Nat}{l:List (α×β)}{k:α}{z0:β}{z:Value}
theorem Qc6(K:YI P kt ek){ro:Nat->Prop}{w:World}(hT:P.underlying T=some (.map kt et))(hz:∀w,(zeroValue et).run P w=.ok z w)(hzr:ZR (ev z0) z){b clock:Nat}{es:Array MapEntry}
  (hb:w.heap[b]?=some (.map es clock))(he:ER ro [] w (Qt ek ev l) es.toList)(hn:(es.toList.map (·.key)).Nodup):
  ∃v,(∀ck,(Instr.lookup T (.map (some b)) (Qp (ek k)) ck).run P w=.ok (if ck then .tuple #[v,.bool (QfV l k)]else v) w)/\VR ro [] w (ev (Qae l k z0)) v:=by
 obtain⟨f1,f2⟩:=ER.find K he k hn
 rcases K.find w k es.toList (QfL K he)with⟨h1,h2⟩|⟨j,e,h1,h2,h3⟩
 ·obtain⟨g1,g2⟩:=f1 h2
  refine⟨z,fun ck=>?_,?_⟩
  ·simp only[Instr.lookup,Sem.run_bind,run_underlying hT,Result.andThen,MapKept.run_getObj_map hb,Sem.run_pure,K.check,h1,hz,g2]
  ·rw[Qae,g1];exact hzr _ _ _
 ·obtain⟨g1,v,g2,g3⟩:=f2 j e h2 h3
  refine⟨e.val,fun ck=>?_,?_⟩
  ·simp only[Instr.lookup,Sem.run_bind,run_underlying hT,Result.andThen,MapKept.run_getObj_map hb,Sem.run_pure,K.check,h1,g1]
  ·rw[Qae,g2];exact g3
theorem YC{zv:β}(K:YI P kt ek)(hm:some (Qae l k z0)=some zv)(hT:P.underlying T=some (.map kt et))(hz:∀w,(zeroValue et).run P w=.ok z w)(hzr:ZR (ev z0) z)
  (ho:o.op=.lookup T x y false:=by exact rfl)(hx:opA env x=.map i:=by exact rfl)(hH:H[i]?=some (.map (Qt ek ev l)):=by exact rfl)(hy:opA env y=ek k:=by exact rfl):OpV P o env H (ev zv):=by
 obtain rfl:=Option.some.inj hm
 intro fr ro σ N a w r
 have h1:=Qg r x
 rw[hx]at h1
 obtain⟨b,q1,q2⟩:=h1
 have h2:=Qg r y
 rw[hy]at h2
 have h3:=VR.val (K.scl _) h2
 obtain⟨es,clock,p1,p2,p3,p4,p5⟩:=r.sim.blk i _ _ q1 hH
 obtain⟨v,e1,e2⟩:=Qc6 (T:=T) (z0:=z0) (k:=k) K hT hz hzr p1 p2 p5
 refine⟨v,?_,e2.mono ⟨fun _ q=>q,fun _ _=>rfl,fun _ _ q=>q,fun j c q=>by simp at q⟩⟩
 have:=e1 false
 simp only[execOp,ho,q2,h3,Sem.run_bind,this,Result.andThen]
 rfl
theorem Qej{zv:β}(K:YI P kt ek)(hm:some (Qae l k z0)=some zv)(hT:P.underlying T=some (.map kt et))(hz:∀w,(zeroValue et).run P w=.ok z w)(hzr:ZR (ev z0) z)
  (ho:o.op=.lookup T x y false:=by exact rfl)(hx:opA env x=.map i:=by exact rfl)(hH:H[i]?=some (.fmap (Qt ek ev l)):=by exact rfl)(hy:opA env y=ek k:=by exact rfl):OpV P o env H (ev zv):=by
 obtain rfl:=Option.some.inj hm
 intro fr ro σ N a w r
 have h1:=Qg r x
 rw[hx]at h1
 obtain⟨b,q1,q2⟩:=h1
 have h2:=Qg r y
 rw[hy]at h2
 have h3:=VR.val (K.scl _) h2
 obtain⟨_,es,clock,p1,p2,p3,p4,p5⟩:=r.sim.blk i _ _ q1 hH
 obtain⟨v,e1,e2⟩:=Qc6 (T:=T) (z0:=z0) (k:=k) K hT hz hzr p1 p2 p5
 refine⟨v,?_,e2.mono ⟨fun _ q=>q,fun _ _=>rfl,fun _ _ q=>q,fun j c q=>by simp at q⟩⟩
 have:=e1 false
 simp only[execOp,ho,q2,h3,Sem.run_bind,this,Result.andThen]
 rfl
theorem ER.append{ro:Nat->Prop}{σ:Sig}{w:World}:∀{l m:List (A×A)}{es fs:List MapEntry},ER ro σ w l es->ER ro σ w m fs->ER ro σ w (l++m) (es++fs)
 |[],m,es,fs,h,k=>by cases(show es=[]from h);exact k
 |p::l,m,es,fs,h,k=>by
  obtain⟨e,l',rfl,h1,h2,h3⟩:=h
  exact⟨e,l'++fs,rfl,h1,h2,ER.append h3 k⟩
theorem ER.put(K:YI P kt ek){ro:Nat->Prop}{w w':World}{v:β}{val:Value}(hx:Ext ro [] w ro [] w')(hv:VR ro [] w (ev v) val):∀{l:List (α×β)}{es:List MapEntry}{j:Nat}{e:MapEntry},ER ro [] w (Qt ek ev l) es->
  (es.map (·.key)).Nodup->es[j]?=some e->e.key=Qp (ek k)->
  ER ro [] w' (Qt ek ev (l.map fun p=>bif decide (p.1=k)then(p.1,v)else p)) (es.modify j fun e=>{e with key:=Qp (ek k),val:=val})
 |[],es,j,e,h,hn,he,hk=>by cases(show es=[]from h);simp at he
 |p::l,es,j,e,h,hn,he,hk=>by
  obtain⟨e0,l',rfl,h1,h2,h3⟩:=h
  have hk0:e0.key=Qp (ek p.1):=VR.val (K.scl _) h1
  simp only[List.map_cons,List.nodup_cons]at hn
  cases j with
  |zero=>
   simp only[List.getElem?_cons_zero,Option.some.injEq]at he
   subst he
   have hp:p.1=k:=K.inj _ _ (hk0.symm.trans hk)
   simp only[List.modify_zero_cons]
   have e1:Qt ek ev ((p::l).map fun p=>bif decide (p.1=k)then(p.1,v)else p)=(ek p.1,ev v)::Qt ek ev l:=by
    simp only[Qt,List.map_cons,hp,decide_true,cond_true,List.map_map,List.cons.injEq,true_and]
    apply List.map_congr_left
    intro q hq
    have:q.1≠k:=by
     intro e
     refine hn.1 ?_
     rw[ER.keys K h3]
     exact List.mem_map.2 ⟨q,hq,by rw[e, <- hp,hk0]⟩
    simp[this]
   rw[e1]
   refine⟨_,l',rfl,?_,hv.mono hx,h3.mono hx⟩
   show VR ro [] w' (ek p.1) (Qp (ek k))
   rw[<- hp];exact Qbn (K.scl _)
  |succ j=>
   simp only[List.getElem?_cons_succ]at he
   have hp:p.1≠k:=by
    intro q
    refine hn.1 (List.mem_map.2 ⟨e,List.mem_of_getElem? he,?_⟩)
    rw[hk,hk0,q]
   simp only[List.modify_succ_cons]
   have e1:Qt ek ev ((p::l).map fun p=>bif decide (p.1=k)then(p.1,v)else p)=(ek p.1,ev p.2)::Qt ek ev (l.map fun p=>bif decide (p.1=k)then(p.1,v)else p):=by
    simp[Qt,hp]
   rw[e1]
   exact⟨_,_,rfl,h1.mono hx,h2.mono hx,ER.put K hx hv h3 hn.2 he hk⟩
theorem Yt{m:List (α×β)}(K:YI P kt ek){v:β}{zz:Operand}(hm:some (Qab l k v)=some m)(hd:Q2 (ev v)=true)(hT:P.underlying T=some (.map kt et))
  (ho:o.op=.mapUpdate T x y zz:=by exact rfl)(hx:opA env x=.map i:=by exact rfl)(hH:H[i]?=some (.map (Qt ek ev l)):=by exact rfl)(hy:opA env y=ek k:=by exact rfl)(hv:opA env zz=ev v:=by exact rfl):
  OpU P o env H (H.set i (.map (Qt ek ev m))):=by
 obtain rfl:=Option.some.inj hm
 intro fr ro σ N a w r
 have h1:=Qg r x
 rw[hx]at h1
 obtain⟨b,q1,q2⟩:=h1
 have h2:=Qg r y
 rw[hy]at h2
 have h3:=VR.val (K.scl _) h2
 have h4:=Qg r zz
 rw[hv]at h4
 have h4':VR ro [] w (ev v) (a.eval zz):=VR.data hd h4
 obtain⟨es,clock,p1,p2,p3,p4,p5⟩:=r.sim.blk i _ _ q1 hH
 obtain⟨f1,f2⟩:=ER.find K p2 k p5
 have hsh:∀(obj:Obj) y,w.shape? b=some y->({w with heap:=w.heap.setIfInBounds b obj}:World).shape? b=some y:=by
  intro obj y hy
  unfold World.shape? at hy
  rw[p1]at hy
  simp at hy
 rcases K.find w k es.toList (QfL K p2)with⟨g1,g2⟩|⟨j,e,g1,g2,g3⟩
 ·obtain⟨u1,u2⟩:=f1 g2
  have hl:Qab l k v=l++[(k,v)]:=by
   unfold Qab
   rw[show(l.any fun p=>decide (p.1=k))=false from u2];rfl
  have hset:=r.sim.set (x':=.map (Qt ek ev (Qab l k v))) (obj:=.map (es.push {key:=Qp (ek k),val:=a.eval zz,born:=clock}) (clock+1)) q1 hH rfl (hsh _)
   (fun e he=>⟨_,_,he,by
    rw[hl,Qt,List.map_append,Array.toList_push]
    exact(p2.mono ⟨e.sub,e.keep,e.shape,fun _ _ q=>q⟩).append ⟨_,_,rfl,Qbn (K.scl _),h4'.mono ⟨e.sub,e.keep,e.shape,fun _ _ q=>q⟩,rfl⟩,by
    rw[Array.toList_push]
    intro e he
    rcases List.mem_append.1 he with q|q
    ·exact Nat.lt_succ_of_lt (p3 e q)
    ·simp at q;subst q;exact Nat.lt_succ_self _,by
    rw[Array.toList_push,List.map_append]
    refine List.nodup_append.2 ⟨p4,by simp,?_⟩
    intro c hc d hd
    simp at hd
    subst hd
    obtain⟨e,he,rfl⟩:=List.mem_map.1 hc
    exact Nat.ne_of_lt (p3 e he),by
    rw[Array.toList_push,List.map_append]
    refine List.nodup_append.2 ⟨p5,by simp,?_⟩
    intro c hc d hd
    simp at hd
    subst hd
    obtain⟨e,he,rfl⟩:=List.mem_map.1 hc
    exact g2 e he⟩)
  refine⟨_,ro,[],?_,by simpa using hset.1,hset.2⟩
  simp only[execOp,ho,q2,h3,Sem.run_bind,Instr.mapUpdate,run_underlying hT,Result.andThen,MapKept.run_getObj_map p1,K.check,g1,MapKept.run_setObj_map _ p1]
  rfl
 ·obtain⟨u1,u2⟩:=f2 j e g2 g3
  have hl:Qab l k v=l.map fun p=>bif decide (p.1=k)then(p.1,v)else p:=by
   unfold Qab
   rw[show(l.any fun p=>decide (p.1=k))=true from u1];rfl
  have hj:es[j]?=some e:=by rw[<- g2];simp
  have hmod:(es.modify j fun e=>{e with key:=Qp (ek k),val:=a.eval zz}).toList=es.toList.modify j fun e=>{e with key:=Qp (ek k),val:=a.eval zz}:=by simp
  have hmap:∀{γ:Type} (f:MapEntry->γ),(∀e',es.toList[j]?=some e'->f {e' with key:=Qp (ek k),val:=a.eval zz}=f e')->(es.toList.modify j fun e=>{e with key:=Qp (ek k),val:=a.eval zz}).map f=es.toList.map f:=by
   intro γ f hf
   apply List.ext_getElem?
   intro n
   rw[List.getElem?_map,List.getElem?_map,List.getElem?_modify]
   by_cases hn:j=n
   ·subst hn
    cases q:es.toList[j]? with
    |none=>rfl
    |some e'=>simp[hf e' q]
   ·simp[hn]
  have hset:=r.sim.set (x':=.map (Qt ek ev (Qab l k v))) (obj:=.map (es.modify j fun e=>{e with key:=Qp (ek k),val:=a.eval zz}) clock) q1 hH rfl (hsh _)
   (fun e0 he=>⟨_,_,he,by
    rw[hl,hmod]
    exact ER.put K ⟨e0.sub,e0.keep,e0.shape,fun _ _ q=>q⟩ h4' p2 p5 g2 g3,by
    rw[hmod]
    intro e' he'
    have:e'.born∈(es.toList.modify j fun e=>{e with key:=Qp (ek k),val:=a.eval zz}).map (·.born):=List.mem_map_of_mem he'
    rw[hmap (·.born) (fun _ _=>rfl)]at this
    obtain⟨e2,h,h'⟩:=List.mem_map.1 this
    rw[<- h'];exact p3 e2 h,by
    rw[hmod,hmap (·.born) (fun _ _=>rfl)];exact p4,by
    rw[hmod,hmap (·.key) (fun e' he'=>by rw[g2]at he';cases he';exact g3.symm)];exact p5⟩)
  refine⟨_,ro,[],?_,by simpa using hset.1,hset.2⟩
  have hstay:=K.stays w k
  simp only[execOp,ho,q2,h3,Sem.run_bind,Instr.mapUpdate,run_underlying hT,Result.andThen,MapKept.run_getObj_map p1,K.check,g1,hj,Option.map_some,Option.getD_some,g3,hstay,MapKept.run_setObj_map _ p1]
  rfl
theorem ER.length{ro:Nat->Prop}{σ:Sig}{w:World}:∀{l:List (A×A)}{es:List MapEntry},ER ro σ w l es->es.length=l.length
 |[],es,h=>by cases(show es=[]from h);rfl
 |p::l,es,h=>by
  obtain⟨e,l',rfl,_,_,h3⟩:=h
  simp[ER.length h3]
theorem QdC{c:Call}{n:Int}(hT:P.underlying T=some (.map kt et))(hn:(l.length:Int)=n)(ho:o.op=.call c:=by exact rfl)(hc:c={callee:=.builtin .len,args:= #[x],argTypes:= #[T]}:=by exact rfl)
  (hx:opA env x=.map i:=by exact rfl)(hH:H[i]?=some (.map (Qt ek ev l)):=by exact rfl):OpV P o env H (.int .i64 n):=by
 intro fr ro σ N a w r
 have h1:=Qg r x
 rw[hx]at h1
 obtain⟨b,q1,q2⟩:=h1
 obtain⟨es,clock,p1,p2,p3,p4,p5⟩:=r.sim.blk i _ _ q1 hH
 have hl:=p2.length
 refine⟨.int .i64 n,?_,rfl⟩
 have hn':goInt es.size=.int .i64 n:=by
  have:es.size=l.length:=by rw[<- Array.length_toList,hl];simp[Qt]
  rw[this, <- hn];rfl
 subst hc
 have q2':=q2
 generalize a.eval=ρ at*
 rw[<- hn']
 simp[execOp,ho,q2,resolve,invoke,Go.builtin,Builtin.len_,run_underlying hT,MapKept.run_getObj_map p1,go_sem]
end
end
end Go.Sw
namespace Go.Sw
open Go.ChangeMaps (setBlock)
section
variable {P:Program}{o:Oper}{env:Env}{H:Qc}{h0 N:Nat}{Q:Qz}
def OpE(P:Program)(o:Oper)(env:Env)(H:Qc)(K:A->Qc->Prop):Prop:=
 ∀fr ro σ N a w,Rel fr ro σ H env N a w->∃x H' v w' ro' τ,K x H'/\(execOp a.eval o).run P w=.ok (.value v) w'/\VR ro' (σ++τ) w' x v/\
  Sim fr ro' (σ++τ) H' w'/\Qf fr ro w ro' w'
theorem Qi3{all:Array Oper}{l:List Oper}{d:Nat}{K:A->Qc->Prop}(hh:h0<=H.length)(hg:Qq all o env true)(hd:o.dst=some d)(hN:Nat.blt d N=true)
  (hop:OpE P o env H K)(k:∀x H',K x H'->WO P h0 N all l (up env d x) H' Q):WO P h0 N all (o::l) env H Q:=by
 intro rd fr ro σ a w r hrd
 obtain⟨x,H',v,w',ro',τ,hK,h1,h2,h3,h4⟩:=hop fr ro σ N a w r
 refine QaN (YQ hg r) h1 ?_
 simp only[hd,Act.put]
 have hdN:d<N:=by simpa using hN
 have r':Rel fr ro' (σ++τ) H' (up env d x) N {a with tmps:=a.tmps.setIfInBounds d v} w':=
  ⟨h3,VR.up (fr:=fr) (fun s=>(r.env s).mono (h4.ext σ τ)) (by rw[r.size];exact hdN) h2,by simpa using r.size,r.defers.keep h4⟩
 refine Yd (fun e a w q=>q.step h4 (QK ?_)) _ _ _ (k x H' hK rd fr ro' (σ++τ) _ w' r' (hrd.to h4 fun _ q=>q))
 rw[r.sim.len];exact hh
theorem Sim.shutMap{fr ro:Nat->Prop}{σ:Sig}{w:World}(s:Sim fr ro σ H w){i b:Nat}{es:List (A×A)}(hσ:σ[i]?=some (some b))(hH:H[i]?=some (.map es)):
  Sim fr (fun c=>ro c\/c=b) σ (H.set i (.fmap es)) w:=by
 have hown:b<w.heap.size/\ ¬ro b/\ ¬fr b:=s.own i b _ hσ hH rfl
 have ext:Ext ro σ w (fun c=>ro c\/c=b) σ w:=⟨fun _ q=>.inl q,fun _ _=>rfl,fun _ _ q=>q,fun _ _ q=>q⟩
 have hcase:∀(j:Nat) (v:Blk),(H.set i (.fmap es))[j]?=some v->v.live=true->j≠i/\H[j]?=some v:=by
  intro j v h hv
  by_cases e:j=i
  ·subst e
   rw[List.getElem?_set]at h
   simp only[if_true]at h
   split at h
   ·cases h;simp[Blk.live]at hv
   ·simp at h
  ·rw[List.getElem?_set_ne (fun q=>e q.symm)]at h;exact⟨e,h⟩
 have hcase':∀(j:Nat) (v:Blk),(H.set i (.fmap es))[j]?=some v->v.holds=true->H[j]?=some v:=by
  intro j v h hv
  by_cases e:j=i
  ·subst e
   rw[List.getElem?_set]at h
   simp only[if_true]at h
   split at h
   ·cases h;cases hv
   ·simp at h
  ·rw[List.getElem?_set_ne (fun q=>e q.symm)]at h;exact h
 refine⟨by rw[List.length_set];exact s.len,s.roOk.to (fun _ q=>.inl q) (fun _ _=>rfl) ?_,s.frLt,?_,?_,?_,?_,s.hidTo (· = ·) QP (Nat.le_refl _) (fun j d x c q1 q2 q3 q4=>q4.elim id fun q=>((s.hid j d x c q1 q2 q3).ne i b _ hσ hH rfl q).elim) (fun _ _ _ _ _ _ _ q=>q) fun j d y g1 g2 g3=>.inl ⟨j,y,rfl,g1,hcase' j y g2 g3,id,fun _ q=>q⟩⟩
 ·rintro c (q|rfl)
  ·exact s.roLt c q
  ·exact hown.1
 ·rintro c (q|rfl)
  ·exact s.roFr c q
  ·exact hown.2.2
 ·intro j c v h1 h2 h3
  obtain⟨e,h2⟩:=hcase j v h2 h3
  obtain⟨p1,p2,p3⟩:=s.own j c v h1 h2 h3
  refine⟨p1,?_,p3⟩
  rintro(q|rfl)
  ·exact p2 q
  ·exact e (s.inj j i c v _ h1 hσ h2 hH h3 rfl)
 ·intro j j' c v v' h1 h2 h3 h4 h5 h6
  exact s.inj j j' c v v' h1 h2 (hcase j v h3 h5).2 (hcase j' v' h4 h6).2 h5 h6
 ·intro j y v h1 h2
  by_cases e:j=i
  ·subst e
   rw[hσ]at h1
   cases h1
   rw[List.getElem?_set]at h2
   simp only[if_true]at h2
   split at h2
   ·cases h2
    obtain⟨l,clock,p1,p2,p3⟩:=s.blk j _ _ hσ hH
    exact⟨.inr rfl,l,clock,p1,p2.mono ext.nil,p3⟩
   ·simp at h2
  ·rw[List.getElem?_set_ne (fun q=>e q.symm)]at h2
   exact(s.blk j y v h1 h2).keep ext (fun _ _ _=>rfl) (fun _ _ _ _=>rfl)
section
variable {T kt et i:Nat}{x:Operand}{es:List (A×A)}
theorem OpH.range(hT:P.underlying T=some (.map kt et))(ho:o.op=.range T x:=by exact rfl)(hx:opA env x=.map i:=by exact rfl)(hH:H[i]?=some (.map es):=by exact rfl):
  OpH P o env H (.ptr H.length 0) (H.set i (.fmap es)++[.iter none es]):=by
 intro fr ro σ N a w r
 have h1:=Qg r x
 rw[hx]at h1
 obtain⟨b,q1,q2⟩:=h1
 obtain⟨l,clock,p1,p2,p3,p4,p5⟩:=r.sim.blk i _ _ q1 hH
 have hb:=(r.sim.own i b _ q1 hH rfl).1
 have s1:=r.sim.shutMap q1 hH
 have ev1:Qf fr ro w (fun c=>ro c\/c=b) w:=Ya (fun _ q=>.inl q)
 have ev2:Qf fr (fun c=>ro c\/c=b) w (fun c=>ro c\/c=b) (w.alloc (.mapIter (some b) clock #[] clock)):=Qf.alloc _ s1.roLt s1.frLt
 have ext0:Ext ro [] w (fun c=>ro c\/c=b) [] (w.alloc (.mapIter (some b) clock #[] clock)):=(ev1.trans ev2).ext0 []
 refine⟨.pointer (some ⟨w.heap.size,0,none⟩),w.alloc (.mapIter (some b) clock #[] clock),_,[some w.heap.size],?_,⟨w.heap.size,?_,rfl⟩,
  s1.alloc (.inr ⟨b,l,clock, #[],l.toList,Yi _ _,.inr rfl,by rw[Q5 _ _ _ hb];exact p1,p3,p4,?_,p2.mono ext0,fun _ h=>by cases h⟩),ev1.trans ev2⟩
 ·generalize a.eval=ρ at*
  simp only[execOp,ho,q2,Instr.range,Sem.run_bind,run_underlying hT,Result.andThen,MapKept.run_getObj_map p1]
  rfl
 ·rw[<- r.sim.len];simp
 ·have:l.toList.filter (fun e=> !(#[]:Array Nat).contains e.born)=l.toList:=by rw[List.filter_eq_self];intro e _;simp
  rw[this]
theorem Qge(hT:P.underlying T=some (.map kt et))(ho:o.op=.range T x:=by exact rfl)(hx:opA env x=.map i:=by exact rfl)(hH:H[i]?=some (.fmap es):=by exact rfl):
  OpH P o env H (.ptr H.length 0) (H++[.iter none es]):=by
 intro fr ro σ N a w r
 have h1:=Qg r x
 rw[hx]at h1
 obtain⟨b,q1,q2⟩:=h1
 obtain⟨hrb,l,clock,p1,p2,p3,p4,p5⟩:=r.sim.blk i _ _ q1 hH
 have hb:=r.sim.roLt b hrb
 have ev2:Qf fr ro w ro (w.alloc (.mapIter (some b) clock #[] clock)):=Qf.alloc _ r.sim.roLt r.sim.frLt
 have ext0:Ext ro [] w ro [] (w.alloc (.mapIter (some b) clock #[] clock)):=ev2.ext0 []
 refine⟨.pointer (some ⟨w.heap.size,0,none⟩),w.alloc (.mapIter (some b) clock #[] clock),_,[some w.heap.size],?_,⟨w.heap.size,?_,rfl⟩,
  r.sim.alloc (.inr ⟨b,l,clock, #[],l.toList,Yi _ _,hrb,by rw[Q5 _ _ _ hb];exact p1,p3,p4,?_,p2.mono ext0,fun _ h=>by cases h⟩),ev2⟩
 ·generalize a.eval=ρ at*
  simp only[execOp,ho,q2,Instr.range,Sem.run_bind,run_underlying hT,Result.andThen,MapKept.run_getObj_map p1]
  rfl
 ·rw[<- r.sim.len];simp
 ·have:l.toList.filter (fun e=> !(#[]:Array Nat).contains e.born)=l.toList:=by rw[List.filter_eq_self];intro e _;simp
  rw[this]
theorem ER.mem{ro:Nat->Prop}{σ:Sig}{w:World}:∀{es:List (A×A)}{l:List MapEntry},ER ro σ w es l->∀e∈l,∃x es' l',(x::es').Perm es/\(e::l').Perm l/\VR ro σ w x.1 e.key/\VR ro σ w x.2 e.val/\ER ro σ w es' l'
 |[],l,h,e,he=>by cases(show l=[]from h);cases he
 |y::es,l,h,e,he=>by
  obtain⟨e0,l',rfl,h1,h2,h3⟩:=h
  rcases List.mem_cons.1 he with rfl|he
  ·exact⟨y,es,l',.refl _,.refl _,h1,h2,h3⟩
  ·obtain⟨x,es',l'',p1,p2,v1,v2,h4⟩:=ER.mem h3 e he
   exact⟨x,y::es',e0::l'',(List.Perm.swap _ _ _).trans (p1.cons _),(List.Perm.swap _ _ _).trans (p2.cons _),v1,v2,⟨e0,l'',rfl,h1,h2,h4⟩⟩
theorem Qfx:∀{l:List MapEntry},(l.map (·.born)).Nodup->∀a∈l,∀b∈l,a.born=b.born->a=b
 |[],_,a,ha,_,_,_=>by cases ha
 |c::l,hn,a,ha,b,hb,hab=>by
  simp only[List.map_cons,List.nodup_cons]at hn
  rcases List.mem_cons.1 ha with ea|ha'<;>rcases List.mem_cons.1 hb with eb|hb'
  ·rw[ea,eb]
  ·subst ea;exact absurd (List.mem_map.2 ⟨b,hb',hab.symm⟩) hn.1
  ·subst eb;exact absurd (List.mem_map.2 ⟨a,ha',hab⟩) hn.1
  ·exact Qfx hn.2 a ha' b hb' hab
def NextK(H:Qc)(i:Nat)(cur:Option (A×A))(es:List (A×A))(v:A)(H':Qc):Prop:=
 (es=[]/\v=.tup [.bool false]/\H'=H)\/ ∃e es',(e::es').Perm es/\v=.tup [.bool true,e.1,e.2]/\H'=H.set i (.iter (some e) es')
theorem OpE.next{cur:Option (A×A)}(ho:o.op=.next x false:=by exact rfl)(hx:opA env x=.ptr i 0:=by exact rfl)(hH:H[i]?=some (.iter cur es):=by exact rfl):
  OpE P o env H (NextK H i cur es):=by
 intro fr ro σ N a w r
 have h1:=Qg r x
 rw[hx]at h1
 obtain⟨b,q1,q2⟩:=h1
 have hstay:∀(v:Value) (w1:World),w1.heap=w.heap->w1.os=w.os->w1.tape=w.tape->w1.output=w.output->w.drawn<=w1.drawn->Sim fr ro (σ++[]) H w1/\Qf fr ro w ro w1:=by
  intro v w1 e1 e2 e3 e4 e5
  exact⟨by simpa using r.sim.heap e1,Qf.heap e1 e2 e3 e4 e5⟩
 rcases r.sim.blk i _ _ q1 hH with⟨rfl,rfl,p⟩|⟨m,l,clock,seen,left,p1,p2,p3,p4,p5,p6,p7,p8⟩
 ·refine⟨_,_,.tuple #[.bool false],w,ro,[],.inl ⟨rfl,rfl,rfl⟩,?_,⟨_,rfl,_,_,rfl,rfl,rfl⟩,hstay (.bool false) w rfl rfl rfl rfl (Nat.le_refl _)⟩
  generalize a.eval=ρ at*
  simp only[execOp,ho,q2,Instr.next,Sem.run_bind,getObj,Sem.run,p,Result.andThen]
  rfl
 ·have hleft:(leftOf l seen).toList=l.toList.filter fun e=> !seen.contains e.born:=by simp[leftOf]
  have hperm:left.Perm (leftOf l seen).toList:=by rw[hleft];exact p6
  rcases run_next_at (P:=P) w o.type b m clock clock seen l clock p1 p3 p4 (Nat.le_refl _)with⟨g1,g2⟩|⟨e,g1,w1,g2,g3⟩
  ·have hl0:left=[]:=by
    have:left.length=0:=by rw[hperm.length_eq];simpa using g1
    exact List.length_eq_zero_iff.1 this
   subst hl0
   have hes:es=[]:=by
    have:=p7.length
    simp only[List.length_nil]at this
    exact List.length_eq_zero_iff.1 this.symm
   refine⟨_,_,.tuple #[.bool false],w,ro,[],.inl ⟨hes,rfl,rfl⟩,?_,⟨_,rfl,_,_,rfl,rfl,rfl⟩,hstay (.bool false) w rfl rfl rfl rfl (Nat.le_refl _)⟩
   generalize a.eval=ρ at*
   simp only[execOp,ho,q2,Sem.run_bind,g2,Result.andThen]
   rfl
  ·have he:e∈left:=hperm.mem_iff.2 g1
   have hel:e∈l.toList:=by rw[hleft]at g1;exact(List.mem_filter.1 g1).1
   obtain⟨y,es',l',k1,k2,v1,v2,k3⟩:=p7.mem e he
   have hw1:w1.heap=w.heap/\w1.os=w.os/\w1.tape=w.tape/\w1.output=w.output/\w.drawn<=w1.drawn:=by
    rcases g2 with rfl|rfl
    ·exact⟨rfl,rfl,rfl,rfl,Nat.le_refl _⟩
    ·exact⟨rfl,rfl,rfl,rfl,Nat.le_succ _⟩
   obtain⟨s1,ev1⟩:=hstay (.bool false) w1 hw1.1 hw1.2.1 hw1.2.2.1 hw1.2.2.2.1 hw1.2.2.2.2
   rw[List.append_nil]at s1
   have hbm:b≠m:=by
    rintro rfl
    rw[p1]at p3;cases p3
   have hset:=s1.set (x':=.iter (some y) es') (obj:=.mapIter (some m) clock (seen.push e.born) clock) q1 hH rfl
    (fun z hz=>by
     unfold World.shape? at hz
     rw[hw1.1,p1]at hz
     simp at hz)
    (fun x0 he0=>.inr ⟨m,l,clock,seen.push e.born,l',he0,x0.sub _ p2,by
      show(w1.heap.setIfInBounds b _)[m]?=_
      rw[Array.getElem?_setIfInBounds,if_neg hbm,hw1.1];exact p3,p4,p5,by
      have hnd:(l.toList.filter fun e=> !seen.contains e.born).Nodup:=by
       have:l.toList.Nodup:=List.Pairwise.of_map _ (fun a b h q=>h (congrArg _ q)) p5
       exact this.filter _
      have hp:(e::l').Perm (l.toList.filter fun e=> !seen.contains e.born):=k2.trans p6
      have hnd2:(e::l').Nodup:=hp.nodup_iff.2 hnd
      have e1:(l.toList.filter fun e'=> !(seen.push e.born).contains e'.born)=(l.toList.filter fun e=> !seen.contains e.born).filter fun e'=> !decide (e'.born=e.born):=by
       rw[List.filter_filter]
       apply List.filter_congr
       intro z _
       simp[Array.contains_push,Bool.and_comm]
      rw[e1]
      have h2:=hp.filter (fun e'=> !decide (e'.born=e.born))
      have e2:(e::l').filter (fun e'=> !decide (e'.born=e.born))=l':=by
       rw[List.filter_cons_of_neg (by simp),List.filter_eq_self]
       intro z hz
       have hzl:z∈l.toList:=(List.mem_filter.1 (hp.mem_iff.1 (List.mem_cons_of_mem _ hz))).1
       simp only[Bool.not_eq_true',decide_eq_false_iff_not]
       intro hb
       have:z=e:=by
        exact Qfx p5 z hzl e hel hb
       subst this
       exact(List.nodup_cons.1 hnd2).1 hz
      rw[e2]at h2
      exact h2,by
      have x1:Ext ro [] w ro [] w1:=ev1.ext0 []
      exact(k3.mono x1).mono ⟨x0.sub,x0.keep,x0.shape,fun _ _ q=>q⟩,by
      intro z hz
      cases hz
      have x1:Ext ro [] w ro [] w1:=ev1.ext0 []
      exact⟨e,hel,by simp,(v1.mono x1).mono ⟨x0.sub,x0.keep,x0.shape,fun _ _ q=>q⟩,(v2.mono x1).mono ⟨x0.sub,x0.keep,x0.shape,fun _ _ q=>q⟩⟩⟩)
   have evt:=ev1.trans hset.2
   have xt:Ext ro [] w ro [] {w1 with heap:=w1.heap.setIfInBounds b (.mapIter (some m) clock (seen.push e.born) clock)}:=evt.ext0 []
   refine⟨_,_,.tuple #[.bool true,e.key,e.val],_,ro,[],.inr ⟨y,es',k1,rfl,rfl⟩,?_,
    ⟨[.bool true,e.key,e.val],rfl,_,_,rfl,rfl,_,_,rfl,(v1.mono xt).mono ⟨fun _ q=>q,fun _ _=>rfl,fun _ _ q=>q,fun j c q=>by simp at q⟩,_,_,rfl,(v2.mono xt).mono ⟨fun _ q=>q,fun _ _=>rfl,fun _ _ q=>q,fun j c q=>by simp at q⟩,rfl⟩,by simpa using hset.1,evt⟩
   generalize a.eval=ρ at*
   simp only[execOp,ho,q2,Sem.run_bind,g3,Result.andThen,setBlock]
   rfl
theorem OpV.entry{e:A×A}(ho:o.op=.entry x:=by exact rfl)(hx:opA env x=.ptr i 0:=by exact rfl)(hH:H[i]?=some (.iter (some e) es):=by exact rfl):OpV P o env H (.tup [e.1,e.2]):=by
 intro fr ro σ N a w r
 have h1:=Qg r x
 rw[hx]at h1
 obtain⟨b,q1,q2⟩:=h1
 rcases r.sim.blk i _ _ q1 hH with⟨_,h,_⟩|⟨m,l,clock,seen,left,p1,p2,p3,p4,p5,p6,p7,p8⟩
 ·cases h
 ·obtain⟨f,hf,hs,v1,v2⟩:=p8 e rfl
  refine⟨.tuple #[f.key,f.val],?_,[f.key,f.val],rfl,_,_,rfl,v1.mono ⟨fun _ q=>q,fun _ _=>rfl,fun _ _ q=>q,fun j c q=>by simp at q⟩,_,_,rfl,v2.mono ⟨fun _ q=>q,fun _ _=>rfl,fun _ _ q=>q,fun j c q=>by simp at q⟩,rfl⟩
  have hfd:l.find? (·.born==f.born)=some f:=by rw[<- Array.find?_toList];exact find_born f l.toList p5 hf
  generalize a.eval=ρ at*
  simp only[execOp,ho,q2,Instr.entry,getObj,Sem.run_bind,Sem.run,p1,p3,Result.andThen,hs,bne_self_eq_false,Bool.false_eq_true,if_false,hfd]
  rfl
end
end
end Go.Sw
