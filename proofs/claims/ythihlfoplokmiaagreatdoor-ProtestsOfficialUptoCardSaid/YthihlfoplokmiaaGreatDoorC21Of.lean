/- Officials need no fee. -/
import Derived.Test.YthihlfoplokmiaaGreatDoorQ21Of
set_option linter.unusedVariables false
set_option linter.unusedSimpArgs false
namespace Go.Sw
theorem law_ProtestsOfficial(c:Course)(l:List Fact)(f:Fact)(m:Course.wf c)(hl:l.length<=1048576/\ ∀f∈l,Fact.wf f)(M:Fact.wf f):∃n,F_dw n c l f=some true:=by
 have w:=QiR m;have q:=QjI m;obtain⟨y,x⟩:=QnD m;obtain⟨b,s,fb⟩:=Qk1 c w q y x;refine Ev.ex ?_;unfold F_dw;refine Ea (Ez QoJ) ?_;simp only[Xh,Vq];cases t:b with
 |false=>
  subst t;exact Ea (v:=true) (Ea s (Qa _)) (Qa _)
 |true=>
 subst t;cases h:decide ((l.length:Int)<=12)with
 |false=>
  refine Ea (v:=true) (Ea s (YH (Ea (v:=()) (Qa _) ?_))) (Qa _);exact Qa _
 |true=>
 have E:l.length<=12:=by have:=Vv h;omega
 obtain⟨e,a⟩:=Qhf c w q (fb rfl) y x;refine Ea (v:= !admS e c l f) (Ea s (YH (Ea (v:=()) (Qa _) ?_))) ?_
 .exact YH (Ea (Qam e c l f (by omega) a) (Qa _))
 cases H:admS e c l f with
 |false=>exact Qa _
 |true=>
  obtain⟨k,g,j,N,r,u,B⟩:=QjC H;obtain⟨L,z⟩:=Qla r;subst L;have d:=(Qjw c w q (fb rfl) a).1;have i:0<=f.Protest.By/\f.Protest.By<=9999/\(0<=f.Protest.Fee/\f.Protest.Fee<=1125899906842624):=QkI k g;have J:admS 0 c l {f with Protest:={f.Protest with By:=0,Fee:=0:Protest}:Fact}=true:=by
   have v:=Qci k g (p:={f.Protest with By:=0,Fee:=0:Protest}) rfl ⟨(show(0:Int)<=0 by decide),(show(0:Int)<=9999 by decide)⟩ ⟨(show(0:Int)<=0 by decide),(show(0:Int)<=1125899906842624 by decide)⟩ (.inr j);unfold admS;rw[v];show(true&&((f.Kind==9)&&((f.Protest.Form==1)&&((((0:Int)==0)||decide (c.Fee<=0))&&(((deadS 0 c (l.filter (filedB f.At)) f.Protest.Case).2&&decide (f.At<=(deadS 0 c (l.filter (filedB f.At)) f.Protest.Case).1))&&standS 0 c (l.filter (filedB f.At)) {f.Protest with By:=0,Fee:=0:Protest})))))=true;rw[g,j,r,Vu u];have:standS 0 c (l.filter (filedB f.At)) {f.Protest with By:=0,Fee:=0:Protest}=true:=by
    unfold standS;show(bif (about (l.filter (filedB f.At)) f.Protest.Case).isEmpty then false else _)=true;rw[z];rfl
   rw[this];rfl
  have G:admS 0 c l {f with Protest:={f.Protest with Fee:=1125899906842624:Protest}:Fact}=true:=by
   have v:=Qci k g (p:={f.Protest with Fee:=1125899906842624:Protest}) rfl ⟨i.1,i.2.1⟩ ⟨(show(0:Int)<=1125899906842624 by decide),(show(1125899906842624:Int)<=1125899906842624 by decide)⟩ (.inr j);unfold admS;rw[v];show(true&&((f.Kind==9)&&((f.Protest.Form==1)&&(((f.Protest.By==0)||decide (c.Fee<=1125899906842624))&&(((deadS 0 c (l.filter (filedB f.At)) f.Protest.Case).2&&decide (f.At<=(deadS 0 c (l.filter (filedB f.At)) f.Protest.Case).1))&&standS 0 c (l.filter (filedB f.At)) f.Protest)))))=true;rw[g,j,r,Vu u,B,Vu d.2];simp
  have F:admS 0 c l {f with Protest:={f.Protest with Form:=0:Protest}:Fact}=false:=by
   unfold admS;show(_&&(_&&(((0:Int)==1)&&_)))=false;rw[show((0:Int)==1)=false from rfl];simp
  simp only[Xh,Vq];refine Ea (v:=true) ?_ (Qa _);refine Ea ((Qam 0 c l _ (by omega) a).eq J) (QkD ?_);refine Ea ((Qam 0 c l _ (by omega) a).eq G) (QkD ?_);exact Ea ((Qam 0 c l _ (by omega) a).eq F) (Qa _)
end Go.Sw
