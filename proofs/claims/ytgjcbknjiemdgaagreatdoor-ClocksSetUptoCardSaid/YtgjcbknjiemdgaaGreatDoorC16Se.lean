/- Neither order nor repetition of facts has an effect on the clocks. -/
import Derived.Test.YtgjcbknjiemdgaaGreatDoorQ16Se
set_option linter.unusedVariables false
set_option linter.unusedSimpArgs false
namespace Go.Sw
def own3(f:Fact):Bool:=(f.Kind==2)||((f.Kind==3)||(f.Kind==4))
theorem Qma(l:List Fact)(f:l.length<=100):∀(i:Nat) (a:List Fact),i<=l.length->a.length+i<=1000->EvI (λn=>F_go n l) (a,(i:Int)-1) (a++(l.take i).reverse.filter own3)
 |0,a,_,_=>by
  refine Ei ?_;unfold F_go;rw[QQ (show¬(0<=((0:Nat):Int)-1)by omega)];refine YE ?_;simp only[List.take_zero,List.reverse_nil,List.filter_nil,Vg];exact Qb _
 |i+1,a,h,h2=>by
  have hi:i<l.length:=by omega
  have b:=XK hi;generalize l[i]=x at b;have e:(l.take (i+1)).reverse.filter own3=(bif own3 x then[x]else[])++(l.take i).reverse.filter own3:=by
   rw[List.take_add_one,b];simp only[Option.toList_some,List.reverse_append,List.reverse_cons,List.reverse_nil,Vh,List.singleton_append,List.filter_cons];cases own3 x<;>rfl
  rw[e, <- Vi];refine Et ?_ (Qma l f i (a++bif own3 x then[x]else[]) (by omega) (by rw[X3];cases own3 x<;>simp<;>omega));have d:((i+1:Nat):Int)-1=(i:Int):=by omega
  have w:IntKind.i64.wrap ((i:Int)-1)=(i:Int)-1:=Qp (by omega) (by omega);unfold F_go;simp only[d,QT (show(0:Int)<=(i:Int)by omega),Vp,QP b,XJ,w];refine Ea (v:=own3 x) (Er λ_=>Er λ_=>Qb _) ?_;refine Ea (v:=a++bif own3 x then[x]else[]) ?_ (Qb _);cases own3 x with
  |true=>simp only[Vp];rw[Qbt _ _ (by omega)];exact Qb _
  |false=>simp only[Vq,Vg];exact Qb _
theorem QiM(k:Clocks)(j:k.Segments.length<=1000)(l:k.Far.length<=1000)(f:∀x∈k.Far,x.length<=1000):Ev (λn=>F_ao n k k) true:=by
 unfold F_ao;refine Ea (v:=false) (Ea (QiL _ _ (by omega)) ?_) (YE ?_)
 .rw[QT rfl];simp only[Xg,Vq,bne_self_eq_false];exact Qb _
 .have loop:∀(r:List (List Int)) (i:Nat),k.Far.drop i=r->i<=k.Far.length->EvI (λn=>F_gw n k k) (i:Int) (Ctl.cont ()):=by
   intro r
   induction r with
   |nil=>
    intro i b e;refine Ei ?_;unfold F_gw;simp only[Yl b e,Vq];exact Qb _
   |cons x r g=>
    intro i b e;obtain⟨a,d⟩:=QF (by omega) b;have h:=a.lt';refine Et ?_ (g (i+1) d (by omega));unfold F_gw;simp only[a.lt,Vp,a.ix,XJ,a.nx];refine Ea (Qko x x (by have:=f x a.mem;omega)) ?_;rw[QT rfl];exact Qb _
  exact Ea (loop _ 0 rfl (XU _)).ev (Qb _)
theorem Qoi{α:Type}(l:List α)(a:Int)(h:l≠[])(g:l.length<=1000)(d:0<=a):∃(k:Nat) (x:α),nz (IntKind.u64.wrap (l.length:Int))=some ()/\IntKind.i64.wrap (Int.tmod a (IntKind.u64.wrap (l.length:Int)))=(k:Int)/\k<l.length/\l[k]?=some x/\x∈l:=by
 have b:=List.length_pos_iff.2 h;have w:IntKind.u64.wrap (l.length:Int)=(l.length:Int):=by
  unfold IntKind.wrap;simp[IntKind.bits,IntKind.signed];omega
 have e:0<=Int.tmod a (l.length:Int):=Int.tmod_nonneg _ d;have f:Int.tmod a (l.length:Int)<l.length:=Int.tmod_lt_of_pos _ (by omega);rw[w];refine⟨(Int.tmod a (l.length:Int)).toNat,l[(Int.tmod a (l.length:Int)).toNat]'(by omega),?_,?_,by omega,XK _,Vd _⟩
 .unfold nz;rw[show((l.length:Int)==0)=false by simp;omega];rfl
 .rw[Qp (by omega) (by omega)];omega
theorem law_ClocksSet(c:Course)(l:List Fact)(a:Int)(j:Course.wf c)(O:l.length<=1048576/\ ∀f∈l,Fact.wf f)(N:Qm .u64 a):∃n,F_ea n c l a=some true:=by
 have w:=Qik j;have q:=Qi7 j;obtain⟨p,u⟩:=Qng j;obtain⟨b,H,fb⟩:=QgU c w q p u;refine Ev.ex ?_;unfold F_ea;refine Ea (Ex Qoj) ?_;simp only[Xg,Vq];refine Ea (v:= !b||(decide (12<(l.length:Int))||((l.length:Int)==0))) (Ea H (Er λ_=>Er λ_=>Qb _)) ?_;cases t:(!b||(decide (12<(l.length:Int))||((l.length:Int)==0)))with
 |true=>exact Qb _
 |false=>
  rw[XX,XX,Bool.not_eq_false']at t;obtain⟨F,d,B⟩:=t;have m:l.length<=12:=by have:=Vw d;omega
  have i:l≠[]:=by rintro rfl;simp at B
  obtain⟨k,x,E,J,s,y,L⟩:=Qoi l a i (by omega) (show(0:Int)<=a from N.1);obtain⟨r,⟨G,z,M⟩,g⟩:=Qi4 w q (fb F) p u (l:=l) (by omega);simp only[Vq,E,J,XJ];have o:=Qma l (by omega) l.length [] (XT _) (by simp;omega);rw[<- Qp (n:=(l.length:Int)-1) (by omega) (by omega),Vh,X9]at o;refine Ea o.ev ?_;have P:(l.reverse.filter own3).length<=12:=XV (VN _ _) (by rw[List.length_reverse];exact m);refine Ea (g l (by omega) λf _ _=>Iff.rfl) ?_;simp only[Qeu l (Nat.le_of_lt s),Qgt l (Nat.le_of_lt s),QP y,XJ];rw[Qg1 [] _ (by simp;omega)];simp only[XJ];rw[Qg1 _ _ (by simp;omega)];simp only[XJ];rw[Qg1 _ [x] (by simp;omega)];simp only[XJ];refine Ea (g _ (by simp;omega) λf _ _=>?_) ?_
  .simp only[Vh,VD,VB];constructor
   .intro h;rw[<- Xz k l,VD]at h;exact .inl h.symm
   .rintro((h|h)|h)
    .exact List.mem_of_mem_drop h
    .exact List.mem_of_mem_take h
    .rw[h];exact L
  refine Ea (g _ (by omega) λf _ hk=>?_) ?_
  .rw[Xd,List.mem_reverse];refine⟨λh=>⟨h,?_⟩,λh=>h.1⟩;unfold own3;rcases hk with e|e|e<;>simp[e]
  have same:=QiM {Segments:=r.1,Far:=r.2.1:Clocks} G z M;refine Ea (v:=true) ?_ (Qb _);rw[beq_self_eq_true];exact Qfw (Qfw (Ea same (Qfw (Ea same (Qb _)))))
end Go.Sw
