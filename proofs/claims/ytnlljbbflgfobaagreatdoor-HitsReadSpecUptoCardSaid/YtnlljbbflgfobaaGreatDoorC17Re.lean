/- Silent and Covers agree with the reference. -/
import Derived.Test.YtnlljbbflgfobaaGreatDoorQ17Re
set_option linter.unusedVariables false
set_option linter.unusedSimpArgs false
namespace Go.Sw
theorem QeQ(l:List Fact)(r:Read)(hl:l.length<=1000):Ev (fun n=>F_aw n l r) (silentS l r):=by
 unfold F_aw
 refine Ev.bind (QfM l (by omega)) ?_
 refine Ev.bind (v:=silentS l r) ?_ (Qd _)
 rw[<- Qez]
 have hcl:(canonS l).length<=4611686018427387904:=by
  have gen:∀(r a:List Fact),(r.foldl (fun a x=>bif validS x then insC x a else a) a).length<=a.length+r.length:=by
   intro r
   induction r with
   |nil=>intro a;simp
   |cons x r ih=>
    intro a
    rw[List.foldl_cons]
    refine Nat.le_trans (ih _) ?_
    have:(bif validS x then insC x a else a).length<=a.length+1:=by
     cases validS x with
     |false=>simp
     |true=>exact Qdy x a
    simp only[List.length_cons];omega
  have:=gen l []
  unfold canonS
  simp at this
  omega
 generalize canonS l=m at*
 unfold F_cb
 refine Ev.bind (v:=(bif m.any (silB r)then Ctl.done true else Ctl.cont ():Ctl Unit Bool)) ?_ ?_
 ·refine Qf5 m (silB r) (fun i=>(i:Int)) _ _ hcl rfl (fun i s ha hq=>?_) (fun i s ha hq=>?_) ?_
  ·unfold F_ez
   simp only[ha.lt,cond_true,ha.ix,Option.bind_some,ha.nx]
   refine Ev.bind (v:=silB r s) (Yl fun _=>Yl fun _=>Yl fun _=>Yl fun _=>Qd _) ?_
   rw[hq];exact Qd _
  ·unfold F_ez
   simp only[ha.lt,cond_true,ha.ix,Option.bind_some,ha.nx]
   refine Ev.bind (v:=silB r s) (Yl fun _=>Yl fun _=>Yl fun _=>Yl fun _=>Qd _) ?_
   rw[hq];exact Qd _
  ·unfold F_ez
   simp only[QdZ,cond_false]
   exact Qd _
 ·cases m.any (silB r)<;>exact Qd _
theorem QeU(h:Hit)(r:Read):Ev (fun n=>F_bc n h r) (coverB h r):=by
 unfold F_bc coverB
 refine Ev.bind (v:=(h.Mat==r.Mat)&&((h.Epoch==r.Epoch)&&((h.Chip==r.Chip)&&(decide (h.First<=r.Local)&&decide (r.Local<=h.Last))))) ?_ (Qd _)
 exact Yl fun _=>Yl fun _=>Yl fun _=>Yl fun _=>Qd _
theorem law_HitsReadSpec(l:List Fact)(r:Read)(h:Hit)(hl:l.length<=1048576/\ ∀f∈l,Fact.wf f)(hr:Read.wf r)(hh:Hit.wf h):∃n,F_ci n l r h=some true:=by
 refine Ev.ex ?_
 unfold F_ci
 refine Ev.bind (Ev.const Qkq) ?_
 simp only[Bool.not_true,cond_false]
 cases h14:decide ((14:Int)<(l.length:Int))with
 |true=>exact Qd _
 |false=>
  have h14':l.length<=14:=by have:=of_decide_eq_false h14;omega
  simp only[cond_false]
  refine Ev.bind (v:=[r]++l.map (·.Read)) ?_ ?_
  ·refine Ev.iter (fun i=>([r]++(l.take i).map (·.Read),(i:Int))) l.length (by simp) (fun i hi=>?_) ?_
   ·have ha:=YT (x:=l[i]) (show l.length<=4611686018427387904 by omega) (List.getElem?_eq_getElem hi)
    generalize l[i]=x at ha
    unfold F_ft
    simp only[ha.lt,cond_true,ha.ix,Option.bind_some,ha.nx]
    rw[ha.take,List.map_append,QeZ _ _ (by simp;omega)]
    simp only[Option.bind_some,List.append_assoc]
    exact Qd _
   ·unfold F_ft
    simp only[QdZ,cond_false,List.take_length]
    exact Qd _
  ·have hm:([r]++l.map (·.Read)).length<=4611686018427387904:=by simp;omega
   generalize[r]++l.map (·.Read)=m at hm
   refine Ev.bind (v:=(Ctl.cont ():Ctl Unit Bool)) ?_ (Qd _)
   refine Ev.iter (fun i=>(i:Int)) m.length rfl (fun i hi=>?_) ?_
   ·have ha:=YT (x:=m[i]) hm (List.getElem?_eq_getElem hi)
    generalize m[i]=x at ha
    unfold F_fo
    simp only[ha.lt,cond_true,ha.ix,Option.bind_some,ha.nx]
    refine Ev.bind (v:=false) ?_ (Qd _)
    refine Ev.bind (QhE l x (by omega)) (Ev.bind (QeQ l x (by omega)) ?_)
    simp only[bne_self_eq_false,cond_false]
    exact Ev.bind (QhF h x) (Ev.bind (QeU h x) ((Qd _).eq (by simp)))
   ·unfold F_fo
    simp only[QdZ,cond_false]
    exact Qd _
end Go.Sw
