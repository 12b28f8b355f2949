/- Check and Span of outcomes agree with the specification. -/
import Derived.Test.YtigaapnlkgbkeaaGreatQ23Ck
set_option linter.unusedVariables false
set_option linter.unusedSimpArgs false
namespace Go.Sw
theorem Qjk:F_bf 300=some true:=by kernel_rfl
def chkO(k:Clocks)(x:Outcome):Int:=bif clkB k then(bif outB k x then 0 else 230)else 160
theorem Qgk(k:Clocks)(w:ClkW k)(x:Outcome):Ev (λn=>F_g n k x) (chkO k x):=by
 unfold chkO;cases h:clkB k with
 |true=>exact Qe9 k w h x
 |false=>
  unfold F_g;refine Ea (QhW k w) ?_;rw[h];exact Qf _
theorem Qe8(k:Clocks)(w:ClkW k)(x:Outcome):Ev (λn=>F_n n k x) (chkO k x):=by
 unfold chkO;cases h:clkB k with
 |true=>exact Qen k w h x
 |false=>
  unfold F_n;refine Ea (Qgj k w) ?_;rw[h];exact Qf _
theorem QeU{k:Clocks}{x:Outcome}(h:outB k x=true)(a:x.Out=false): -1<=x.Seg/\x.Seg<(k.Segments.length:Int):=by
 unfold outB at h;rw[a,Vi]at h;unfold fineO at h;simp only[XP,decide_eq_true_eq]at h;exact⟨h.1,h.2.1⟩
def spanT(k:Clocks)(g:Int)(lo hi:Int):Span:=bif g== -1 then⟨lo,hi⟩else⟨IntKind.i64.wrap (lo-farG k (g+1).toNat 0),IntKind.i64.wrap (hi+farG k 0 (g+1).toNat)⟩
def spanO(k:Clocks)(x:Outcome):Span×Int:=bif chkO k x != 0 then(⟨0,0⟩,chkO k x)else bif x.Out then(⟨0,0⟩,230)else(spanT k x.Seg x.Lo x.Hi,0)
theorem Qfe{k:Clocks}{x:Outcome}(h:(chkO k x != 0)=false):clkB k=true/\outB k x=true:=by
 unfold chkO at h;cases a:clkB k with
 |false=>rw[a]at h;cases h
 |true=>
  cases d:outB k x with
  |false=>rw[a,d]at h;cases h
  |true=>exact⟨rfl,rfl⟩
theorem QhP{k:Clocks}(d:Dims k){g:Int}(m: -1<=g)(l:g<(k.Segments.length:Int))(h:(g== -1)=false):∃j:Nat,IntKind.i64.wrap (g+1)=(j:Int)/\(g+1).toNat=j/\idx k.Far (j:Int)=some (k.Far[j]?.getD [])/\idx (k.Far[j]?.getD []) 0=some (farG k j 0)/\idx k.Far 0=some (k.Far[0]?.getD [])/\idx (k.Far[0]?.getD []) (j:Int)=some (farG k 0 j):=by
 have f:=d.segs;obtain⟨j,e⟩:∃j:Nat,g+1=(j:Int):=⟨(g+1).toNat,by omega⟩;have a:=d.get (i:=j) (j:=0) (by omega) (by omega);have b:=d.get (i:=0) (j:=j) (by omega) (by omega);exact⟨j,by rw[e,Qfu (by omega) (by omega)],by omega,QS a.1,QS a.2,QS b.1,QS b.2⟩
theorem QhQ(k:Clocks)(w:ClkW k)(x:Outcome):Ev (λn=>F_k n k x) (spanO k x):=by
 unfold F_k spanO;refine Ea (Qgk k w x) ?_;cases h:(chkO k x != 0)with
 |true=>exact Qf _
 |false=>
  obtain⟨f,p⟩:=Qfe h;cases r:x.Out with
  |true=>exact Qf _
  |false=>
   obtain⟨a,b⟩:=QeU p r;refine Qbx (Qbx (Ea (v:=spanT k x.Seg x.Lo x.Hi) ?_ (Qf _)));unfold F_ai spanT;cases d:(x.Seg== -1)with
   |true=>exact Qf _
   |false=>
    obtain⟨j,m,q,l,i,e,g⟩:=QhP (QdY f) a b d;simp only[Vi,m,q,l,i,e,g,XD];exact Qf _
theorem QgL(k:Clocks)(w:ClkW k)(x:Outcome):Ev (λn=>F_ar n k x) (spanO k x):=by
 unfold F_ar spanO;refine Ea (Qe8 k w x) ?_;cases h:(chkO k x != 0)with
 |true=>exact Qf _
 |false=>
  obtain⟨f,p⟩:=Qfe h;cases r:x.Out with
  |true=>exact Qf _
  |false=>
   obtain⟨a,b⟩:=QeU p r;refine Qbx (Qbx (Ea (v:=spanT k x.Seg x.Lo x.Hi) ?_ (Qf _)));unfold F_bi spanT;cases d:(x.Seg== -1)with
   |true=>
    rw[beq_iff_eq]at d;rw[d];exact Qf _
   |false=>
    obtain⟨j,m,q,l,i,e,g⟩:=QhP (QdY f) a b d;rw[beq_eq_false_iff_ne]at d;simp only[decF (show¬x.Seg<0 by omega),Vi,m,q,l,i,e,g,XD];exact Qf _
theorem law_OutcomeChecks(k:Clocks)(x:Outcome)(a:Clocks.wf k)(e:Outcome.wf x):∃n,F_bm n k x=some true:=by
 have w:ClkW k:=⟨a.1.1,a.2.1.1,λr d=>(a.2.1.2 r d).1⟩;refine Ev.ex ?_;unfold F_bm;refine Ea (Ev.const Qjk) (Qbx (Ea (Ys λ_=>Qf _) ?_));cases(decide (10<(k.Segments.length:Int))||decide (20<(k.Far.length:Int)))with
 |true=>exact Qf _
 |false=>
  refine Qbx (Ea (QhQ k w x) (Ea (QgL k w x) (Ea (v:=true) ?_ (Qf _))));simp only[beq_self_eq_true,Vh];refine Ea (Qgk k w x) (Ea (Qe8 k w x) ?_);rw[beq_self_eq_true];exact Qf _
end Go.Sw
