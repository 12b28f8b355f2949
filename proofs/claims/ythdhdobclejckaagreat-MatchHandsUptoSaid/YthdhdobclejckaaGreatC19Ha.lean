/- Hands: neither the order of hands of different positions nor a second hand of a position has an effect. -/
import Derived.Test.YthdhdobclejckaaGreatQ19Ha
set_option linter.unusedVariables false
set_option linter.unusedSimpArgs false
set_option maxRecDepth 10000
namespace Go.Sw
theorem wrapu{n:Int}(a:0<=n)(d:n<=9223372036854775807):IntKind.u64.wrap n=n:=by
 have:IntKind.u64.wrap n=n%18446744073709551616:=rfl;rw[this];exact Int.emod_eq_of_lt a (by omega)
theorem Qmh{α:Type}(l:List α)(t:Int)(h:l≠[])(n:l.length<=1048576)(g:Qs .u64 t):∃(k:Nat) (x:α),nz (IntKind.u64.wrap (l.length:Int))=some ()/\IntKind.i64.wrap (Int.tmod t (IntKind.u64.wrap (l.length:Int)))=(k:Int)/\k<=l.length/\idx l (k:Int)=some x/\x∈l:=by
 have a:=List.length_pos_iff.2 h;have m:0<=t:=g.1;rw[wrapu (by omega) (by omega)];have e:0<=Int.tmod t (l.length:Int):=Int.tmod_nonneg _ m;have j:Int.tmod t (l.length:Int)<l.length:=Int.tmod_lt_of_pos _ (by omega);generalize Int.tmod t (l.length:Int)=i at e j;have d:i.toNat<l.length:=by omega
 have f:l[i.toNat]?=some l[i.toNat]:=XJ d;refine⟨i.toNat,l[i.toNat],?_,?_,by omega,Qu f,List.getElem_mem d⟩
 .unfold nz;rw[show((l.length:Int)==0)=false from Vu.2 (by omega)];rfl
 .rw[Qy (by omega) (by omega)];omega
structure SameH (l l':List Hand):Prop where
 bad:l.any handW=l'.any handW
 get:∀p,YH (hndV l).1 p=YH (hndV l').1 p
 hi:(hndV l).2=(hndV l').2
abbrev swT(t:Task)(m:List (Int×Ud))(hi:Int):Task:={t with m:=m,hi:=hi}
section
variable (t:Task) (m:List (Int×Ud)) (hm:∀p,YH t.m p=YH m p)
include hm
theorem Qj0(hi p h:Int):knownV (swT t m hi) p h=knownV t p h:=by
 unfold knownV QA;show(bif YO m p||decide (h<0)then((YH m p).getD zX,YO m p)else _)=_;rw[Qaj,Qaj,hm p]
theorem QkN(hi h p:Int):agreeV (swT t m hi) h p=agreeV t h p:=by
 unfold agreeV QA;show(bif !(YO m p)then true else match t.H[h.toNat]?,t.T[h.toNat]? with
 |some y,some x=>meetV (trueV t.c t.k x.segment y.First y.Last) ((YH m p).getD zX).span
 |_,_=>true)=_
 rw[Qaj,Qaj,hm p];rfl
theorem Qli(hi:Int)(s:Uf)(p h:Int):stepV (swT t m hi) s p h=stepV t s p h:=by
 unfold stepV stopV;rw[Qj0 t m hm,QkN t m hm];rfl
theorem QhH(hi:Int)(W:Way):∀(r:List Int) (i:Nat) (u:List (Int×Bool)) (s:Uf),admL (swT t m hi) W r i u s=admL t W r i u s
 |[],_,_,_=>rfl
 |h::r,i,u,s=>by
  rw[Qc8,Qc8,Qli t m hm,QhH hi W r,QhH hi W r];rfl
end
theorem QgW{l l':List Hand}(h:SameH l l')(c:Course)(k:Clocks)(s:Starter)(e:Int)(x:List Hit)(W:Way):chkV c k s e x l W=chkV c k s e x l' W:=by
 have d:argW c s l=argW c s l':=by unfold argW;rw[h.bad]
 unfold chkV taskE;rw[d];cases(courseE c != 0)with
 |true=>rfl
 |false=>
 cases clkB k with
 |false=>rfl
 |true=>
 cases argW c s l' with
 |true=>rfl
 |false=>
 cases((routeO c s.Distance e).2 != 0)with
 |true=>rfl
 |false=>
 cases checkH c x with
 |false=>rfl
 |true=>
 cases timesV c k x with
 |none=>rfl
 |some T=>
  show(bif admV (taskV c k s e x l T) W then(0:Int)else 190)=bif admV (taskV c k s e x l' T) W then 0 else 190
  have f:taskV c k s e x l' T=swT (taskV c k s e x l T) (hndV l').1 (hndV l').2:=rfl;have a:admV (taskV c k s e x l' T) W=admV (taskV c k s e x l T) W:=by
   rw[f];unfold admV;rw[QhH (taskV c k s e x l T) (hndV l').1 h.get];have:admB (swT (taskV c k s e x l T) (hndV l').1 (hndV l').2) W=admB (taskV c k s e x l T) W:=by
    unfold admB;show(_||(_||(_||(decide (W.Last<(hndV l').2)||_))))=_;rw[<- h.hi];rfl
   rw[this]
  rw[a]
theorem Qge{l l':List Hand}(g:l.any handW=l'.any handW)(f:∀p,l.find? (λh=>h.Position==p)=l'.find? (λh=>h.Position==p))(e:∀P:Int,(∀h∈l,h.Position<=P)↔ ∀h∈l',h.Position<=P):SameH l l':=by
 refine⟨g,λp=>by rw[Qed,Qed,f],?_⟩;have d:=Qgu l;have a:=Qgu l';have i:=(d (hndV l').2).2 ⟨((a _).1 (Int.le_refl _)).1,(e _).2 ((a _).1 (Int.le_refl _)).2⟩;have j:=(a (hndV l).2).2 ⟨((d _).1 (Int.le_refl _)).1,(e _).1 ((d _).1 (Int.le_refl _)).2⟩;omega
theorem Qef:∀{l:List Hand} {h:Hand},(l.map (·.Position)).Nodup->h∈l->l.find? (λx=>x.Position==h.Position)=some h
 |[],h,_,hm=>by cases hm
 |x::l,h,hn,hm=>by
  rw[Vh,List.nodup_cons]at hn;rw[List.find?_cons];by_cases e:x=h
  .subst e;simp
  .have hm':h∈l:=by simpa[Ne.symm e]using hm
   have:(x.Position==h.Position)=false:=by
    rw[Vu];intro q;exact hn.1 (q▸Xe.2 ⟨h,hm',rfl⟩)
   rw[this];exact Qef hn.2 hm'
theorem QiQ{l l':List Hand}(d:l.Perm l')(g:(l.map (·.Position)).Nodup)(p:Int):l.find? (λh=>h.Position==p)=l'.find? (λh=>h.Position==p):=by
 have f:(l'.map (·.Position)).Nodup:=(d.map _).nodup g;cases e:l.find? (λh=>h.Position==p)with
 |none=>
  symm
  rw[List.find?_eq_none]at e⊢;exact λx i=>e x (d.mem_iff.2 i)
 |some h=>
  have j:=List.mem_of_find?_eq_some e;have a:=List.find?_some e;have a:h.Position=p:=by simpa using a
  subst a;exact(Qef f (d.mem_iff.1 j)).symm
theorem QkL{l l':List Hand}(a:l.Perm l'):l.any handW=l'.any handW:=by
 rw[XX,Xt,Xt];exact⟨λ⟨x,h1,h2⟩=>⟨x,a.mem_iff.1 h1,h2⟩,λ⟨x,h1,h2⟩=>⟨x,a.mem_iff.2 h1,h2⟩⟩
theorem QiB{l:List Hand}(f:(l.map (·.Position)).Nodup)(k:Nat):SameH (l.drop k++l.take k) l:=by
 have a:(l.drop k++l.take k).Perm l:=by
  have:=List.perm_append_comm (l₁:=l.drop k) (l₂:=l.take k)
  rwa [Xy]at this
 have d:((l.drop k++l.take k).map (·.Position)).Nodup:=(a.map _).symm.nodup f;exact Qge (QkL a) (QiQ a d) λP=>⟨λq h e=>q h (a.mem_iff.2 e),λq h e=>q h (a.mem_iff.1 e)⟩
theorem QeZ{l:List Hand}{x o:Hand}(f:x∈l)(d:o.Position=x.Position)(g:handW o=true->l.any handW=true):SameH (l++[o]) l:=by
 refine Qge ?_ (λp=>?_) λP=>⟨λq h a=>q h (List.mem_append_left _ a),λq h a=>?_⟩
 .rw[List.any_append,List.any_cons,List.any_nil,Bool.or_false];cases e:handW o with
  |false=>rw[Bool.or_false]
  |true=>rw[g e];rfl
 .rw[List.find?_append];cases e:l.find? (λh=>h.Position==p)with
  |some y=>rfl
  |none=>
   rw[List.find?_eq_none]at e;have:=e x f;simp only[Vt]at this;rw[List.find?_cons,show(o.Position==p)=false from by rw[Vu,d];exact this];rfl
 .rcases Vy.1 a with z|z
  .exact q h z
  .rw[Vw]at z;subst z;rw[d];exact q x f
theorem QlN(a:stopwatchlaw19_Input)(d:a.Hands.length<=1048576):Ev (λn=>Go.Sw.iter (F_gy n a) n (([]:List (Int×Bool)),0)) (QW (λh:Hand=>h.Position) true a.Hands):=by
 have:QW (λh:Hand=>h.Position) true a.Hands=a.Hands.foldl (λ(m:List (Int×Bool)) x=>QY m x.Position true) []:=rfl;rw[this];refine Jr a.Hands (λ(m:List (Int×Bool)) x=>QY m x.Position true) [] (λm i=>(m,(i:Int))) (λm=>m) (by omega) rfl (λi x m ha _=>?_) ?_
 .unfold F_gy;simp only[ha.lt,Vm,ha.ix,XI,ha.nx];exact Qa _
 .unfold F_gy;simp only[Qa6,Vn];exact Qa _
theorem law_MatchHands(d:stopwatchlaw19_Input)(g:Way)(u:Int)(i:Hand)(w0:stopwatchlaw19_Input.wf d)(X:Way.wf g)(Q:Qs .u64 u)(w3:Hand.wf i):∃n,F_ge n d g u i=some true:=by
 refine Ev.ex ?_;unfold F_ge;refine Ea (EA Qmk) ?_;simp only[Xg,Vn];obtain⟨b,j,fb⟩:=QmP d w0;cases b with
 |false=>exact Ea (v:=true) (Ea j (Qa _)) (Qa _)
 |true=>
 have f:=fb rfl;have t:=X.1.1;by_cases e:300<(g.Hits.length:Int)
 .exact Ea (v:=true) (Ea j (Qq (QaI (Qz e) (Qa _)))) (Qa _)
 by_cases F:d.Hands.length=0
 .exact Ea (v:=true) (Ea j (Qq (QaQ (QH e) (QaI (by rw[F];rfl) (Qa _))))) (Qa _)
 have L:((d.Hands.length:Int)==0)=false:=beq_false_of_ne (by omega);by_cases O:5<(d.Hands.length:Int)
 .exact Ea (v:=true) (Ea j (Qq (QaQ (QH e) (QaQ L ((Qa _).eq (Qz O)))))) (Qa _)
 refine Ea (v:=false) (Ea j (Qq (QaQ (QH e) (QaQ L ((Qa _).eq (QH O)))))) (Qq ?_);refine Ea (QlN d (by omega)) ?_;have nd:=(QaV (λh:Hand=>h.Position) true d.Hands).2;generalize QW (λh:Hand=>h.Position) true d.Hands=M at nd;by_cases N:M.length=d.Hands.length
 case neg=>exact QaI (by simp only[bne_iff_ne,ne_eq];omega) (Qa _)
 have nd:=nd.1 N;refine QaQ (by rw[N];simp) ?_;obtain⟨k,x,t1,Y,t3,J,m⟩:=Qmh d.Hands u (by intro q;rw[q]at F;exact F rfl) (by omega) Q;rw[t1,Y];have s1:slc d.Hands (k:Int) (d.Hands.length:Int)=some (d.Hands.drop k):=by
  have:=QbQ d.Hands (a:=k) (b:=d.Hands.length) (by omega) (by omega);simpa using this
 have W:slc d.Hands 0 (k:Int)=some (d.Hands.take k):=by
  have:=QbQ d.Hands (a:=0) (b:=k) (by omega) (by omega);simpa using this
 simp only[XI];refine Qx s1 (Qx (Y6 [] _ (by simp;omega)) (Qx W (Qx (Y6 _ _ (by simp;omega)) (Qx J ?_))));rw[Vf];have l:∀o:Hand,SameH (d.Hands++[o]) d.Hands->Ev (λn=>((app ([]:List Hand) d.Hands).bind λG=>(app G [o]).bind λB=>((F_j n ({d with Hands:=d.Hands.drop k++d.Hands.take k:stopwatchlaw19_Input}) g).bind λr=>(F_j n d g).bind λw=>(bif (r==w)then(F_j n ({d with Hands:=B:stopwatchlaw19_Input}) g).bind λz=>(F_j n d g).bind λE=>some (z==E)else some false):Option Bool).bind λH=>some H)) true:=by
  intro o V;refine Qx (Y6 [] _ (by simp;omega)) (Qx (Qcf (by simp;omega)) ?_);rw[Vf];have R:FewI {d with Hands:=d.Hands.drop k++d.Hands.take k}:=⟨f.few,f.ty,f.ref,f.good,f.clk,f.segs,f.mats,f.hits,by show(d.Hands.drop k++d.Hands.take k).length<=6;simp;omega⟩;have fz:FewI {d with Hands:=d.Hands++[o]}:=⟨f.few,f.ty,f.ref,f.good,f.clk,f.segs,f.mats,f.hits,by show(d.Hands++[o]).length<=6;simp;omega⟩;have p:=Qex R t;have y:=Qex fz t;have ex:=Qex f t;have T:=QgW (QiB nd k) d.C d.K d.S d.Extra d.Hits g;have P:=QgW V d.C d.K d.S d.Extra d.Hits g;have p:=p.eq T;have y:=y.eq P;refine Ea (v:=true) (Ea p (Ea ex (QaI (beq_self_eq_true _) (Ea y (Ea ex ((Qa _).eq (beq_self_eq_true _))))))) (Qa _)
 cases s:(decide (i.Hi<i.Lo)||(decide (i.Lo<(-1099511627776))||decide (1099511627776<i.Hi)))with
 |true=>
  refine Ea (v:=true) (Ew (Qk λ_=>Qk λ_=>Qa _) s) (Ea (v:=x) ?_ (l x ?_))
  .exact Qdx (Qx J (Qa _))
  .exact QeZ m rfl λh=>Xt.2 ⟨x,m,h⟩
 |false=>
  refine Ea (v:=false) (Ew (Qk λ_=>Qk λ_=>Qa _) s) (Ea (v:={i with Position:=x.Position}) (Qq (Qa _)) (l _ ?_));simp only[XW,decide_eq_false_iff_not]at s;refine QeZ m rfl λh=>?_;unfold handW timeB inR at h;simp only[Bool.or_eq_true,Vo,Bool.not_eq_true',Bool.and_eq_false_iff,decide_eq_false_iff_not]at h;refine Xt.2 ⟨x,m,?_⟩;unfold handW;rw[show decide (x.Position<0)=true from Qz (by omega)];simp
end Go.Sw
