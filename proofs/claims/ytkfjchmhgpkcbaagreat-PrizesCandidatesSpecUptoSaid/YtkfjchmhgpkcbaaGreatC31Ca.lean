/- PrizesCandidatesSpec: Candidates is as the reference says. -/
import Derived.Test.YtkfjchmhgpkcbaaGreatQ31Ca
set_option linter.unusedVariables false
set_option linter.unusedSimpArgs false
namespace Go.Sw
theorem Qkm:F_dn 300=some true:=by kernel_rfl
theorem law_PrizesCandidatesSpec(f:Field)(rank:Int)(hf:Field.wf f)(h2:Qat .i64 rank):∃n,F_cx n f rank=some true:=by
 obtain⟨b2,p2,q2⟩:=few25 f hf
 refine Ev.ex ?_
 unfold F_cx
 refine Ev.bind (Ev.const Qkm) ?_
 simp only[Bool.not_true,cond_false]
 refine Ev.bind p2 ?_
 cases hb:b2 with
 |false=>exact Qb _
 |true=>
  have kf:=q2 hb
  have hr:=kf.runs
  simp only[Bool.not_true,cond_false]
  refine Ev.bind (v:=Ctl.cont ()) ?_ (Qb _)
  refine Ev.iter (fun i=>(i:Int)) 2 rfl (fun i hi=>?_) ?_
  ·unfold F_iq
   have e2:([rank,Q7 .i64 rank 7].length:Int)=((2:Nat):Int):=rfl
   have hg:∃x,idx [rank,Q7 .i64 rank 7] (i:Int)=some x:=by
    have:i<[rank,Q7 .i64 rank 7].length:=hi
    exact⟨_,Qo (List.getElem?_eq_getElem this)⟩
   obtain⟨x,hx⟩:=hg
   simp only[e2,ltN hi,cond_true,hx,Option.bind_some,Q8 (show i<=1048576 by omega)]
   have hl:(bif fieldB f then bif decide (x<1)then(([],310):List Int×Int)else((candP (allP f) x).map (·.Bib),0)else([],240)).1.length<=1048576:=by
    have:(candP (allP f) x).length<=(allP f).length:=List.length_filter_le ..
    rw[Qdu]at this
    cases fieldB f with
    |false=>simp
    |true=>
     cases decide (x<1)with
     |true=>simp
     |false=>simp;omega
   refine Ev.bind (Qhg f kf x) (Ev.bind (Qfo f kf x) (Ev.bind (v:=false) ?_ (Qb _)))
   refine Ev.bind (Qg5 _ hl) ?_
   simp only[Bool.not_true,cond_false,bne_self_eq_false]
   exact Qb _
  ·unfold F_iq
   have e2:([rank,Q7 .i64 rank 7].length:Int)=((2:Nat):Int):=rfl
   simp only[e2,geN (Nat.le_refl _),cond_false]
   exact Qb _
end Go.Sw
