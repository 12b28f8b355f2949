/- The law: the outcomes of a way agree with the reference. -/
import Derived.Test.YtmaeahbcmjpfpaaGreatQ23Of
set_option linter.unusedVariables false
set_option linter.unusedSimpArgs false
set_option maxRecDepth 10000
namespace Go.Sw
open Option renaming some→AC
open Bool renaming false→AD,true→AE
open Decidable renaming decide→AG
open List renaming length→AI
theorem HR(c:CE)(l:AA CP)(b p d:Int)(wc:CE.wf c)(wl:AI l<=1048576/\ ∀x∈l,CP.wf x)(hb:Qn .i64 b)(hp:Qn .i64 p)(ha:Qn .i64 d):∃n,Rk n c l b p d=AC true:=by
 refine Ev.ex (f:=λn=>Rk n c l b p d) ?_;unfold Rk;refine Ea (Ez Qrw) (Qo ?_);obtain⟨r,er,hr⟩:=Qnn c wc l b;refine Ea er ?_;obtain⟨L,k2,F,E,G,m,J,j,B,q,H,D,P,ok⟩:=r;cases ok with
 |false=>exact Qa _
 |true=>
 obtain⟨⟨cr,re⟩,Y,hH,Q,hP,h8⟩:=hr rfl;simp only at Y hH Q hP h8;refine Qo ?_
 dsimp only
 obtain⟨V,eV,X⟩:=Qri cr Y {Bf:=F,AN:=E,Aw:=G,Bc:=m,B':=J,A':=j,Bv:=B,B_:=q} (FR P) H hH D Q;have hV:∀w∈V.1,AI w.Ak<=256:=λw T=>by
  by_cases z:V.2=0
  .obtain⟨_,t,ti,_,_,O⟩:=X.ok z;have:=ti.ok.rl;have:=(O w T).1;omega
  .rw[X.er z]at T;cases T
 have ab:=X.len;obtain⟨N,W,hW,eb,eW⟩:∃(N:Bool) (W:CW),AI W.Ak<=256/\Ev (λ_=>(bif 0<=d then AC (AG (d<(AI V.1:Int)))else AC AD:AB Bool)) N/\Ev (λ_=>(bif N then(CN V.1 d).bind λaa=>AC aa else AC ({Ak:=[],Ai:=(-1):CW}):AB CW)) W:=by
  by_cases z:0<=d/\d<(AI V.1:Int)
  .obtain⟨y,hy,my⟩:=Z7 z.1 z.2;exact⟨AE,y,hV y my,Yx (Yr z.1) ((Qa _).eq (Yr z.2)),Qj hy (Qa _)⟩
  .refine⟨AD,{Ak:=[],Ai:=(-1)},sq,?_,Qa _⟩;by_cases z0:0<=d
   .exact Yx (Yr z0) ((Qa _).eq (QN om))
   .rw[QN z0];exact Qa _
 obtain⟨v,w,e1,e2,rfl,hl⟩:=QqA (k:={AQ:=L,BE:=k2}) (s:={Bf:=F,AN:=E,Aw:=G,Bc:=m,B':=J,A':=j,Bv:=B,B_:=q}) (p:=p) (W:=W) (l:=D) cr re Y hH Q hP h8 om;have eL:=nV P om;have fin:Ev (λn=>(bif 300<(AI W.Ak:Int) then AC AD else(NA n c {AQ:=L,BE:=k2} {Bf:=F,AN:=E,Aw:=G,Bc:=m,B':=J,A':=j,Bv:=B,B_:=q} H D P W p).bind λg=>(M7 n c {AQ:=L,BE:=k2} {Bf:=F,AN:=E,Aw:=G,Bc:=m,B':=J,A':=j,Bv:=B,B_:=q} H D P W p).bind λh=>((NG n g.1 h.1).bind λR=>(bif R then AC (g.2==h.2)else AC AD):AB Bool).bind λM=>AC M)) true:=by
  rw[dF ((300:Int)<(AI W.Ak:Int))];refine Qo (Ea e1 (Ea e2 (Ea (v:=AE) (Ea ((Qmg v.1 v.1 om).eq (Yr rfl)) (Jk ((Qa _).eq (beq_self_eq_true _)))) (Qa _))))
 exact Ea eL (Ea eV (Ea eb (Ea eW fin)))
end Go.Sw
