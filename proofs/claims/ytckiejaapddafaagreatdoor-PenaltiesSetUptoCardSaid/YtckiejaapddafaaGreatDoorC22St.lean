/- Order and repetition of facts have no effect on penalties. -/
import Derived.Test.YtckiejaapddafaaGreatDoorQ22St
set_option linter.unusedVariables false
set_option linter.unusedSimpArgs false
namespace Go.Sw
theorem wrapu{n:Int}(h0:0<=n)(a:n<=9223372036854775807):IntKind.u64.wrap n=n:=by
 have:IntKind.u64.wrap n=n%18446744073709551616:=rfl;rw[this];exact Int.emod_eq_of_lt h0 (by omega)
theorem QpM{α:Type}(l:List α)(t:Int)(h:l≠[])(hl:l.length<=1048576)(d:Qk .u64 t):∃(k:Nat) (x:α),nz (IntKind.u64.wrap (l.length:Int))=some ()/\IntKind.i64.wrap (Int.tmod t (IntKind.u64.wrap (l.length:Int)))=(k:Int)/\k<=l.length/\idx l (k:Int)=some x/\x∈l:=by
 have b:=List.length_pos_iff.2 h;have e:0<=t:=d.1;rw[wrapu (by omega) (by omega)];have j:0<=Int.tmod t (l.length:Int):=Int.tmod_nonneg _ e;have f:Int.tmod t (l.length:Int)<l.length:=Int.tmod_lt_of_pos _ (by omega);generalize Int.tmod t (l.length:Int)=i at j f;have a:i.toNat<l.length:=by omega
 have g:l[i.toNat]?=some l[i.toNat]:=XO a;refine⟨i.toNat,l[i.toNat],?_,?_,by omega,YW g,Vh a⟩
 .unfold nz;rw[show((l.length:Int)==0)=false from VD.2 (by omega)];rfl
 .rw[Yd (by omega) (by omega)];omega
theorem law_PenaltiesSet(c:Course)(l:List Fact)(a t:Int)(r:Course.wf c)(hl:l.length<=1048576/\ ∀f∈l,Fact.wf f)(P:Qk .i64 a)(J:Qk .u64 t):∃n,F_dk n c l a t=some true:=by
 obtain⟨b,H,fb⟩:=QnT c r;refine Ev.ex ?_;unfold F_dk;refine Ea (EB QpN) ?_;simp only[Xg,Vu];refine Ea (v:= !(b&&decide ((l.length:Int)<=14))||((l.length:Int)==0)) (Ea (QnB l H) (Eu λ_=>Qa _)) ?_;cases s:(!(b&&decide ((l.length:Int)<=14))||((l.length:Int)==0))with
 |true=>exact Qa _
 |false=>
  simp only[X2,Bool.not_eq_false',X0,Vv]at s;obtain⟨⟨p,u⟩,L⟩:=s;obtain⟨_,g⟩:=fb p;have B:l.length<=14:=by omega
  have q:l≠[]:=by rintro rfl;simp at L
  have w:=QoN (Qem r) (QfQ r);obtain⟨k,x,G,M,y,z,F⟩:=QpM l t q (by omega) J;simp only[Vu,G,M,XN,z,QmC l y,Qh6 l y];rw[QhJ ([]:List Fact) _ (by simp;omega)];simp only[XN];rw[QhJ _ _ (by simp;omega)];simp only[XN];rw[QhJ _ [x] (by simp;omega)];simp only[XN];have i:SameF l ([]++l.drop k++l.take k++[x]):=by
   intro f N;simp only[VH,VF,Vl];constructor
   .intro h;rw[<- XC k l,VH]at h;rcases h with h|h
    .exact .inl (.inr h)
    .exact .inl (.inl h)
   .rintro((h|h)|h)
    .exact List.mem_of_mem_drop h
    .exact List.mem_of_mem_take h
    .rw[h];exact F
  have d:([]++l.drop k++l.take k++[x]).length<=15:=by simp;omega
  generalize[]++l.drop k++l.take k++[x]=m at i d;have E:keysOf l=keysOf m:=by unfold keysOf;rw[QfI i]
  have e:casesF (courseE c) c l a=casesF (courseE c) c m a:=by unfold casesF casesOf;rw[E]
  have j:ofF (courseE c) c l a=ofF (courseE c) c m a:=by unfold ofF;rw[Qh3 i,e]
  refine Ea (QfD _ c l a (by omega) g) (Ea (QfD _ c m a (by omega) g) ?_);rw[<- e];obtain⟨Q,O⟩:=QcL (courseE c) c l a;refine Ea (v:=true) (Ea (QlF _ _ (by omega)) ?_) (Qa _);rw[Yc rfl];refine Qf0 (Ea (QgI _ _ (by omega)) ?_);rw[Yc rfl];refine Qf0 (Ea (Qpz _ c l a (by omega) g w) (Ea (Qpz _ c m a d g w) ?_));rw[<- j];refine Ea (QgI _ _ (by have:=QoD (courseE c) c l a;omega)) ?_;rw[Yc rfl];exact Qa _
end Go.Sw
