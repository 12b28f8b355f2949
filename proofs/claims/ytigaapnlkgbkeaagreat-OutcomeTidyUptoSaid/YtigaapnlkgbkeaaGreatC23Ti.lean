/- Tidy outcomes are in order, apart from each other, and have the same times. -/
import Derived.Test.YtigaapnlkgbkeaaGreatQ23Ti
set_option linter.unusedVariables false
set_option linter.unusedSimpArgs false
namespace Go.Sw
def outD:Outcome:={Out:=true,Seg:=(-1),Lo:=0,Hi:=0:Outcome}
def tmB(o:Outcome):Bool:= !(o.Out||decide (o.Hi<o.Lo))
def cmpO(x y:Outcome):Int:=orL [cmpI x.Seg y.Seg,cmpI x.Lo y.Lo,cmpI x.Hi y.Hi]
theorem Qb1:cmpO=λx y=>bif cmpI x.Seg y.Seg != 0 then cmpI x.Seg y.Seg else bif cmpI x.Lo y.Lo != 0 then cmpI x.Lo y.Lo else cmpI x.Hi y.Hi:=by
 funext x y
 unfold cmpO orL orL orL orL;cases h:(cmpI x.Hi y.Hi != 0)with
 |true=>rfl
 |false=>
  have e:cmpI x.Hi y.Hi=0:=by simpa[bne]using h
  rw[e];rfl
theorem QeE:CmpOK cmpO:=by
 rw[Qb1];exact(cmpI_ok.on λx:Outcome=>x.Seg).lex ((cmpI_ok.on λx:Outcome=>x.Lo).lex (cmpI_ok.on λx:Outcome=>x.Hi))
theorem Qg8{x y:Outcome}(h:cmpO x y=0):x.Seg=y.Seg/\x.Lo=y.Lo/\x.Hi=y.Hi:=by
 rw[Qb1]at h;simp only at h;cases d:(cmpI x.Seg y.Seg != 0)with
 |true=>
  rw[d,Vi]at h;rw[h]at d;cases d
 |false=>
  rw[d,Vj]at h;cases a:(cmpI x.Lo y.Lo != 0)with
  |true=>
   rw[a,Vi]at h;rw[h]at a;cases a
  |false=>
   rw[a,Vj]at h;exact⟨Qke.1 (by simpa[bne]using d),Qke.1 (by simpa[bne]using a),Qke.1 h⟩
def le2(x y:Outcome):Prop:=x.Seg<y.Seg\/(x.Seg=y.Seg/\x.Lo<=y.Lo)
theorem Qfr{a b:Int}:cmpI a b<0↔a<b:=by
 unfold cmpI;by_cases q:a<b
 .rw[QfX q];simp[q]
 .rw[QfY q];by_cases d:b<a
  .rw[QfX d];simp[q]
  .rw[QfY d];simp[q]
theorem Qjg{x y:Outcome}(h:¬cmpO y x<0):le2 x y:=by
 rw[Qb1]at h;simp only at h;cases a:(cmpI y.Seg x.Seg != 0)with
 |true=>
  rw[a,Vi,Qfr]at h;have:cmpI y.Seg x.Seg≠0:=by simpa[bne]using a
  refine .inl ?_;by_cases z:x.Seg<y.Seg
  .exact z
  .have:y.Seg=x.Seg:=by omega
   rw[this]at a;rw[cmpI_ok.refl]at a;cases a
 |false=>
  rw[a,Vj]at h;have e:=Qke.1 (by simpa[bne]using a);refine .inr ⟨e.symm,?_⟩;cases d:(cmpI y.Lo x.Lo != 0)with
  |true=>rw[d,Vi,Qfr]at h;omega
  |false=>
   have:=Qke.1 (by simpa[bne]using d);omega
theorem Qjf{x y:Outcome}(h:x.Seg<y.Seg\/(x.Seg=y.Seg/\x.Lo<y.Lo)):cmpO x y<0:=by
 rw[Qb1];simp only;rcases h with h|⟨f,d⟩
 .have:cmpI x.Seg y.Seg<0:=Qfr.2 h;have e:(cmpI x.Seg y.Seg != 0)=true:=by rw[bne_iff_ne];omega
  rw[e];exact this
 .have:cmpI x.Lo y.Lo<0:=Qfr.2 d;have e:(cmpI x.Lo y.Lo != 0)=true:=by rw[bne_iff_ne];omega
  have a:(cmpI x.Seg y.Seg != 0)=false:=by rw[f,cmpI_ok.refl];rfl
  rw[a,e];exact this
def near(a b:Outcome):Bool:=(a.Seg==b.Seg)&&(decide (b.Lo<=a.Hi)||(IntKind.i64.wrap (b.Lo-1)==a.Hi))
def upO(a b:Outcome):Outcome:={a with Hi:=if a.Hi<b.Hi then b.Hi else a.Hi:Outcome}
def joinA:Outcome->List Outcome->List Outcome
 |a,[]=>[a]
 |a,b::r=>bif near a b then joinA (upO a b) r else a::joinA b r
def joinS:List Outcome->List Outcome
 |[]=>[]
 |a::r=>joinA a r
def baseO(l:List Outcome):List Outcome:=bif l.any (·.Out)then[outD]else[]
def srtO(l:List Outcome):List Outcome:=Qbk (ltC cmpO) (l.filter tmB)
def tidyF(l:List Outcome):List Outcome:=baseO l++joinS (srtO l)
theorem QiT{α:Type}(P R:List α)(x y:α):Qba (P++x::R) (P.length:Int) y=some (P++y::R):=by
 rw[Qe5 _ _ (by simp)];simp
theorem Qgt{α:Type}(P R:List α)(x:α):idx (P++x::R) (P.length:Int)=some x:=QcZ (by simp)
theorem Qid(P:List Outcome)(a b:Outcome)(d:P.length<=1000):Ev (λn=>F_ak n b (P.length:Int) (P++[a])) (bif near a b then((P.length:Int),P++[upO a b])else(((P++[a]).length:Int),(P++[a])++[b])):=by
 unfold F_ak;refine Ea (v:=near a b) ?_ ?_
 .rw[QfX (show(0:Int)<=(P.length:Int)by omega)];simp only[Vi,Qgt,XE];unfold near;exact Eh λ_=>QdS λ_=>Qk _
 .cases near a b with
  |true=>
   simp only[Vi,Qgt,XE,QiT];exact Qk _
  |false=>
   simp only[Vj];rw[QgC _ _ (by simp;omega)];simp only[XE];refine(Qk _).eq ?_;rw[Qc6 (by simp only[XX,List.length_singleton];omega) (by simp only[XX,List.length_singleton];omega)];simp only[XX,List.length_singleton];congr 1;omega
theorem Qdu(S:List Outcome)(hS:S.length<=900):∀(r:List Outcome) (i:Nat) (P:List Outcome) (a:Outcome),S.drop i=r->i<=S.length->P.length<=i+1->EvI (λn=>F_aj n S) (P++[a],(P.length:Int),(i:Int)) (P++joinA a r)
 |[],i,P,a,hr,hi,hp=>by
  refine Ei ?_;unfold F_aj;simp only[Qbm hr hi,Vj,joinA];exact Qk _
 |b::r,i,P,a,hr,hi,hp=>by
  obtain⟨ha,hr'⟩:=Yx (by omega) hr;have hlt:=ha.lt';have h1:=Qid P a b (by omega);unfold joinA;cases q:near a b with
  |true=>
   rw[q]at h1;refine Ep ?_ (Qdu S hS r (i+1) P (upO a b) hr' (by omega) (by omega));unfold F_aj;simp only[ha.lt,Vi,ha.ix,XE,ha.nx];exact Ea h1 (Qk _)
  |false=>
   rw[q]at h1;have ih:=Qdu S hS r (i+1) (P++[a]) b hr' (by omega) (by simp;omega);refine(Ep ?_ ih).eq (by simp);unfold F_aj;simp only[ha.lt,Vi,ha.ix,XE,ha.nx];exact Ea h1 (Qk _)
theorem Qg5(l:List Outcome)(h:l.length<=1048576):Ev (λn=>F_bc n l) (l.any (·.Out)):=by
 unfold F_bc F_bn;refine Ea (Ev.first l (λo=>o.Out) (by omega) (λi x a=>?_) ?_) ?_
 .unfold F_gt F_bf;simp only[a.lt,Vi,a.ix,XE,a.nx];cases x.Out<;>exact Qk _
 .unfold F_gt;simp only[end_,Vj];exact Qk _
 .refine(Qk _).eq ?_;rcases Qbl (λo:Outcome=>o.Out) l 0 with⟨d,e⟩|⟨j,x,d,e,f,k⟩
  .rw[d]
   symm
   rw[show(decide ((0:Int)<= -1))=false from rfl,List.any_eq_false];intro x g;have:=Xp.1 e x g;simpa using this
  .rw[d,QfX (by omega)]
   symm
   exact Xq.2 ⟨x,Vw e,f⟩
theorem Qi9(l:List Outcome)(k:l.length<=1048576):Ev (λn=>F_ba n l) (l.filter tmB):=by
 have d:∀x:Outcome,Ev (λn=>F_ad n x) (!tmB x):=λx=>by
  unfold F_ad tmB;rw[Bool.not_not];exact Ea (QdS λ_=>Qk _) (Qk _)
 unfold F_ba F_bm;refine Ev.eq (Qhy l (λg=> !tmB g) k (Ev.first l _ (by omega) (λi x a=>?_) ?_) (λe i j x y p a f q h=>?_) λe i=>?_) (by simp)
 .unfold F_gr;simp only[a.lt,Vi,a.ix,XE,a.nx];refine Ea (d x) ?_;cases tmB x<;>exact Qk _
 .unfold F_gr;simp only[end_,Vj];exact Qk _
 .have m:=(XG.1 f).1;unfold F_gs;simp only[a.lt,Vi,a.ix,XE,a.nx];refine Ea (d x) ?_;cases tmB x with
  |false=>exact Qk _
  |true=>
   simp only[Bool.not_true,Xg,Vi,Vj,QcZ f,Qe5 e x m,XE,Qb9 (show i<9223372036854775807 by omega)];exact Qk _
 .unfold F_gs;simp only[end_,Vj];exact Qk _
theorem Qja(x y:Outcome):Ev (λn=>F_aw n x y) (cmpO x y):=by
 unfold F_aw;exact Ea (QfV _ _) (Ea (QfV _ _) (Ea (QfV _ _) (Ea (ev_or _ (by simp)) (Qk _))))
theorem Qay{x:Outcome}(h:tmB x=true):x.Out=false/\x.Lo<=x.Hi:=by
 unfold tmB at h;simp only[Bool.not_eq_true',XS,decide_eq_false_iff_not]at h;exact⟨h.1,by omega⟩
theorem Qgm(l:List Outcome):(srtO l).length<=l.length:=by
 unfold srtO;rw[(QK _ _).length_eq];exact VC ..
theorem QhX{x y:Outcome}(f:tmB x=true)(g:tmB y=true)(h:cmpO x y=0):x=y:=by
 obtain⟨a,b,c⟩:=Qg8 h;have e:=(Qay f).1;have d:=(Qay g).1;obtain⟨p,i,j,n⟩:=x;obtain⟨l,k,yl,m⟩:=y;simp only at*;subst a b c e d;rfl
theorem Qgz(l:List Outcome)(q:l.length<=900):Ev (λn=>F_j n l) (tidyF l):=by
 unfold F_j tidyF;refine Ea (Qg5 l (by omega)) (Ea (v:=baseO l) ?_ ?_)
 .unfold baseO F_c;cases l.any (·.Out)with
  |false=>exact Qk _
  |true=>exact Qk _
 refine Ea (v:=l) ?_ (Ea (Qi9 l (by omega)) ?_)
 .unfold F_bk;exact Ev.const (Qg0 (by omega))
 have s:=VC tmB l;refine Ea (v:=srtO l) (Qjs (by omega) (λx _ y _=>Qja x y) QeE λx j y p h=>QhX (Xd.1 j).2 (Xd.1 p).2 h) ?_;have f:=Qgm l;generalize srtO l=S at f;refine Ea (v:=baseO l++joinS S) ?_ (Qk _);have k:(baseO l).length<=1:=by
  unfold baseO;cases l.any (·.Out)<;>simp
 generalize baseO l=B at k;cases S with
 |nil=>
  refine(Ei ?_).ev;unfold F_aj;exact(Qk _).eq (by simp[joinS])
 |cons a r=>
  have d:At (a::r) 0 a:=QbS (by simp only[XV]at f⊢;omega) rfl;refine(Ep (s':=(B++[a],(B.length:Int),((1:Nat):Int))) ?_ (Qdu (a::r) (by omega) r 1 B a rfl (by simp) (by omega))).ev;unfold F_aj;have m:((0:Nat):Int)=0:=rfl;have i:=d.lt;have g:=d.ix;have e:=d.nx;rw[m]at i g e;simp only[i,g,e,Vi,XE];refine Ea (v:=((B.length:Int),B++[a])) ?_ (Qk _);unfold F_ak;refine Ea (v:=false) (Qk _) (QgM ?_);rw[QgC _ _ (by omega)];simp only[XE];refine(Qk _).eq ?_;rw[Qc6 (by simp only[XX,List.length_singleton];omega) (by simp only[XX,List.length_singleton];omega)];simp
theorem QjI(a b:Outcome):a.Hi<=(upO a b).Hi:=by unfold upO;simp only;split<;>omega
theorem QbZ:∀(r:List Outcome) (a:Outcome),tmB a=true->(∀x∈r,tmB x=true)->∀x∈joinA a r,tmB x=true
 |[],a,ha,_,x,hx=>by
  unfold joinA at hx;rw[Vq]at hx;rw[hx];exact ha
 |b::r,a,ha,hr,x,hx=>by
  unfold joinA at hx;cases q:near a b with
  |true=>
   rw[q,Vi]at hx;refine QbZ r (upO a b) ?_ (λy hy=>hr y (by simp[hy])) x hx;obtain⟨h1,h2⟩:=Qay ha;have:=QjI a b;unfold tmB;have e1:(upO a b).Out=false:=h1;have e2:(upO a b).Lo=a.Lo:=rfl;rw[e1,e2,QfY (by omega)];rfl
  |false=>
   rw[q,Vj]at hx;rcases X0.1 hx with rfl|hx
   .exact ha
   .exact QbZ r b (hr b (by simp)) (λy hy=>hr y (by simp[hy])) x hx
theorem Qci:∀(r:List Outcome) (a:Outcome),(joinA a r).length<=r.length+1
 |[],a=>by simp[joinA]
 |b::r,a=>by
  unfold joinA;cases near a b with
  |true=>have:=Qci r (upO a b);simp only[Vi,XV];omega
  |false=>have:=Qci r b;simp only[Vj,XV];omega
def badN(a b:Outcome):Bool:=decide (b.Seg<a.Seg)||near a b
def chainB:Outcome->List Outcome->Bool
 |_,[]=>true
 |a,b::r=> !badN a b&&chainB b r
theorem QgZ{a b c:Outcome}(e:c.Seg=b.Seg)(d:c.Lo=b.Lo):near a c=near a b:=by
 unfold near;rw[e,d]
theorem Qbj:∀(r:List Outcome) (a:Outcome),(a::r).Pairwise le2->∃h t,joinA a r=h::t/\h.Seg=a.Seg/\h.Lo=a.Lo/\chainB h t=true
 |[],a,_=>⟨a,[],rfl,rfl,rfl,rfl⟩
 |b::r,a,hs=>by
  obtain⟨h1,h2⟩:=Xc.1 hs;obtain⟨h3,h4⟩:=Xc.1 h2;unfold joinA;cases q:near a b with
  |true=>
   obtain⟨h,t,e1,e2,e3,e4⟩:=Qbj r (upO a b) (Xc.2 ⟨λy hy=>h1 y (by simp[hy]),h4⟩);exact⟨h,t,e1,e2,e3,e4⟩
  |false=>
   obtain⟨h,t,e1,e2,e3,e4⟩:=Qbj r b h2;refine⟨a,h::t,by rw[Vj,e1],rfl,rfl,?_⟩;unfold chainB badN;rw[QgZ e2 e3,q,e2,e4];have:=h1 b (by simp);unfold le2 at this;rw[QfY (by omega)];rfl
theorem QhQ(l:List Outcome):(srtO l).Pairwise le2:=by
 unfold srtO;refine(YH (QcX QeE (l.filter tmB))).imp λ{x y} h=>?_;exact Qjg (Vn h)
theorem QhP(l:List Outcome):∀x∈srtO l,tmB x=true:=λx hx=>(Xd.1 ((QK _ _).mem_iff.1 hx)).2
theorem Qdl(l:List Outcome):∀x∈joinS (srtO l),tmB x=true:=by
 have h:=QhP l;generalize srtO l=S at h;cases S with
 |nil=>intro x d;cases d
 |cons a r=>exact QbZ r a (h a (by simp)) λx d=>h x (by simp[d])
theorem QcC(l:List Outcome):joinS (srtO l)=[]\/ ∃h t,joinS (srtO l)=h::t/\chainB h t=true:=by
 have h:=QhQ l;generalize srtO l=S at h;cases S with
 |nil=>exact .inl rfl
 |cons a r=>
  obtain⟨h,t,d,_,_,e⟩:=Qbj r a h;exact .inr ⟨h,t,d,e⟩
theorem Qft:∀(r:List Outcome) (a:Outcome),chainB a r=true->∀(i:Nat) (x y:Outcome),(a::r)[i]?=some x->(a::r)[i+1]?=some y->badN x y=false
 |[],a,_,i,x,y,_,h=>by simp at h
 |b::r,a,hc,i,x,y,hx,hy=>by
  unfold chainB at hc;simp only[XR,Bool.not_eq_true']at hc;cases i with
  |zero=>
   simp only[Xz,XA,Option.some.injEq]at hx hy;subst hx hy;exact hc.1
  |succ i=>
   rw[XA]at hx hy;exact Qft r b hc.2 i x y hx hy
def bad2(x y:Outcome):Bool:=y.Out||(!x.Out&&badN x y)
theorem QiR(l:List Outcome)(i:Nat)(x y:Outcome)(d:(tidyF l)[i]?=some x)(a:(tidyF l)[i+1]?=some y):bad2 x y=false:=by
 have g:=Qdl l;have p:=QcC l;unfold tidyF at d a;generalize joinS (srtO l)=J at g p d a;have j:∀(k:Nat) (x y:Outcome),J[k]?=some x->J[k+1]?=some y->bad2 x y=false:=by
  intro k x y m n;rcases p with rfl|⟨h,t,rfl,e⟩
  .simp at m
  .unfold bad2;rw[(Qay (g y (Vw n))).1,Qft t h e k x y m n];simp
 unfold baseO at d a;cases f:l.any (·.Out)with
 |false=>
  rw[f]at d a;exact j i x y d a
 |true=>
  rw[f,Vi]at d a;cases i with
  |zero=>
   have m:x=outD:=by simpa using d.symm
   have n:J[0]?=some y:=a;unfold bad2;rw[(Qay (g y (Vw n))).1,m];rfl
  |succ i=>exact j i x y d a
theorem Qe3(l:List Outcome):(tidyF l).any (·.Out)=l.any (·.Out):=by
 have a:=Qdl l;unfold tidyF;generalize joinS (srtO l)=J at a;have e:J.any (·.Out)=false:=by
  rw[List.any_eq_false];intro x d;rw[(Qay (a x d)).1];simp
 rw[List.any_append,e,Bool.or_false];unfold baseO;cases l.any (·.Out)<;>rfl
theorem Qfs:∀(r:List Outcome) (a:Outcome),chainB a r=true->tmB a=true->(∀x∈r,tmB x=true)->(a::r).Pairwise λx y=>x.Seg<y.Seg\/(x.Seg=y.Seg/\x.Hi<y.Lo)
 |[],a,_,_,_=>by simp
 |b::r,a,hc,ha,hr=>by
  unfold chainB at hc;simp only[XR,Bool.not_eq_true']at hc;have ih:=Qfs r b hc.2 (hr b (by simp)) λx hx=>hr x (by simp[hx]);have hab:a.Seg<b.Seg\/(a.Seg=b.Seg/\a.Hi<b.Lo):=by
   have h:=hc.1;unfold badN near at h;simp only[XS,decide_eq_false_iff_not,Bool.and_eq_false_iff,beq_eq_false_iff_ne]at h;omega
  refine Xc.2 ⟨λx hx=>?_,ih⟩;rcases X0.1 hx with rfl|hx
  .exact hab
  .have d:=(Xc.1 ih).1 x hx;have:=(Qay (hr b (by simp))).2;omega
theorem Qdy:∀(r:List Outcome) (a:Outcome),chainB a r=true->joinA a r=a::r
 |[],a,_=>rfl
 |b::r,a,hc=>by
  unfold chainB badN at hc;simp only[XR,Bool.not_eq_true',XS]at hc;unfold joinA;rw[hc.1.2,Vj,Qdy r b hc.2]
theorem Qd2(l:List Outcome):tidyF (tidyF l)=tidyF l:=by
 have f:=Qe3 l;have a:=Qdl l;have j:=QcC l;have n:baseO (tidyF l)=baseO l:=by unfold baseO;rw[f]
 have e:∀J:List Outcome,(∀x∈J,tmB x=true)->(baseO l++J).filter tmB=J:=by
  intro J hJ;rw[List.filter_append,List.filter_eq_self.2 hJ];unfold baseO;cases l.any (·.Out)<;>rfl
 have m:srtO (tidyF l)=joinS (srtO l):=by
  unfold srtO at*;unfold tidyF srtO;rw[e _ a];generalize joinS (Qbk (ltC cmpO) (l.filter tmB))=J at a j;refine QaR (lt:=ltC cmpO) (QK _ J) (λx d y k i g=>?_) (YH (QcX QeE J)) ?_
  .have u:=a x ((QK _ J).mem_iff.1 d);have r:=a y ((QK _ J).mem_iff.1 k);have i:=Vn i;have g:=Vn g;exact QhX u r (by have:=QeE.swap x y;omega)
  .rcases j with rfl|⟨h,t,rfl,q⟩
   .exact List.Pairwise.nil
   .refine List.Pairwise.imp_of_mem (λ{x y} d k z=>?_) (Qfs t h q (a h (by simp)) λx d=>a x (by simp[d]));have:=(Qay (a x d)).2;have s:=Qjf (x:=x) (y:=y) (by omega);have:=QeE.swap x y;exact Vo (by omega)
 have p:joinS (srtO (tidyF l))=joinS (srtO l):=by
  rw[m];rcases j with h|⟨h,t,i,g⟩
  .rw[h];rfl
  .rw[i];exact Qdy t h g
 show baseO (tidyF l)++joinS (srtO (tidyF l))=_;rw[n,p];rfl
theorem QhH(l:List Outcome):(tidyF l).length<=l.length+1:=by
 have f:=Qgm l;unfold tidyF;rw[XX];have k:(baseO l).length<=1:=by unfold baseO;cases l.any (·.Out)<;>simp
 cases q:srtO l with
 |nil=>simp only[joinS,List.length_nil];omega
 |cons a r=>
  rw[q]at f;have:=Qci r a;have i:joinS (a::r)=joinA a r:=rfl;rw[i];simp only[XV]at f;by_cases z:l.any (·.Out)=true
  ·
   have j:(l.filter tmB).length<l.length:=by
    obtain⟨x,g,d⟩:=Xq.1 z;rcases Vr (l.filter tmB).length l.length with h|h
    .exact h
    .have e:=List.filter_eq_self.1 (List.Sublist.eq_of_length List.filter_sublist (Nat.le_antisymm (VC ..) h)) x g;rw[(Qay e).1]at d;cases d
   have e:(a::r).length=(l.filter tmB).length:=by rw[<- q];unfold srtO;exact(QK _ _).length_eq
   simp only[XV]at e;omega
  .have:baseO l=[]:=by unfold baseO;rw[Bool.not_eq_true]at z;rw[z];rfl
   rw[this,List.length_nil];omega
def hasB(g t:Int)(o:Outcome):Bool:= !o.Out&&((o.Seg==g)&&(decide (o.Lo<=t)&&decide (t<=o.Hi)))
theorem QhY{a b:Outcome}(e:Y0 .i64 b.Lo)(d:Y0 .i64 a.Hi)(h:near a b=true):a.Seg=b.Seg/\b.Lo<=a.Hi+1:=by
 unfold near at h;simp only[XR,Vp,Bool.or_eq_true,Vk]at h;have g: -9223372036854775808<=b.Lo/\b.Lo<=9223372036854775807:=e;have f: -9223372036854775808<=a.Hi/\a.Hi<=9223372036854775807:=d;refine⟨h.1,?_⟩;rcases h.2 with q|q
 .omega
 .by_cases z:b.Lo= -9223372036854775808
  .omega
  .rw[Qc6 (by omega) (by omega)]at q;omega
theorem Qcj(g t:Int):∀(r:List Outcome) (a:Outcome),(a::r).Pairwise le2->(∀x∈a::r,tmB x=true)->(∀x∈a::r,Y0 .i64 x.Lo/\Y0 .i64 x.Hi)->(joinA a r).any (hasB g t)=(a::r).any (hasB g t)
 |[],a,_,_,_=>rfl
 |b::r,a,hs,ht,hi=>by
  obtain⟨h1,h2⟩:=Xc.1 hs;obtain⟨h3,h4⟩:=Xc.1 h2;unfold joinA;cases q:near a b with
  |false=>
   rw[Vj,List.any_cons,Qcj g t r b h2 (λx hx=>ht x (by simp[hx])) (λx hx=>hi x (by simp[hx])),List.any_cons (a:=a)]
  |true=>
   obtain⟨e1,e2⟩:=QhY (hi b (by simp)).1 (hi a (by simp)).2 q;have tu:tmB (upO a b)=true:=QbZ [b] a (ht a (by simp)) (λx hx=>ht x (by rw[Vq]at hx;simp[hx])) _ (by unfold joinA;rw[q];simp[joinA]);have iu:Y0 .i64 (upO a b).Hi:=by unfold upO;simp only;split;exact(hi b (by simp)).2;exact(hi a (by simp)).2
   rw[Vi,Qcj g t r (upO a b) (Xc.2 ⟨λy k=>h1 y (by simp[k]),h4⟩) (λx hx=>by
    rcases X0.1 hx with rfl|hx
    .exact tu
    .exact ht x (by simp[hx])) (λx hx=>by
    rcases X0.1 hx with rfl|hx
    .exact⟨(hi a (by simp)).1,iu⟩
    .exact hi x (by simp[hx])),List.any_cons,List.any_cons,List.any_cons, <- Bool.or_assoc]
   congr 1;have j:=Qay (ht a (by simp));have i:=Qay (ht b (by simp));have d:=h1 b (by simp);unfold le2 at d;rw[XT,Bool.or_eq_true];have e:(upO a b).Hi=if a.Hi<b.Hi then b.Hi else a.Hi:=rfl
   have h:(upO a b).Out=a.Out:=rfl;have f:(upO a b).Seg=a.Seg:=rfl;have l:(upO a b).Lo=a.Lo:=rfl;unfold hasB;rw[e,h,f,l,j.1,i.1];simp only[Xg,Bool.true_and,XR,Vp,Vk];split<;>omega
theorem Qdz(q p:Outcome->Bool)(h:∀x,q x=true->p x=true):∀l:List Outcome,(l.filter p).any q=l.any q
 |[]=>rfl
 |x::l=>by
  rw[List.filter_cons,List.any_cons, <- Qdz q p h l];cases e:p x with
  |true=>rw[Vm rfl,List.any_cons]
  |false=>
   have:q x=false:=by
    cases z:q x with
    |false=>rfl
    |true=>rw[h x z]at e;cases e
   rw[this,Vl Bool.false_ne_true,Bool.false_or]
theorem Qin{l m:List Outcome}(h:l.Perm m)(q:Outcome->Bool):l.any q=m.any q:=by
 rw[XT,Xq,Xq];constructor
 .rintro⟨x,a,b⟩;exact⟨x,h.mem_iff.1 a,b⟩
 .rintro⟨x,a,b⟩;exact⟨x,h.mem_iff.2 a,b⟩
theorem QhI(g t:Int)(l:List Outcome)(k:∀x∈l,Y0 .i64 x.Lo/\Y0 .i64 x.Hi):(tidyF l).any (hasB g t)=l.any (hasB g t):=by
 have f:=QhQ l;have i:=QhP l;have h:∀x∈srtO l,x∈l:=λx d=>(Xd.1 ((QK _ _).mem_iff.1 d)).1;have e:l.any (hasB g t)=(srtO l).any (hasB g t):=by
  unfold srtO;rw[Qin (QK _ _),Qdz];intro x d;unfold hasB at d;simp only[XR,Bool.not_eq_true',Vp,Vk]at d;unfold tmB;rw[d.1,QfY (by omega)];rfl
 rw[e];unfold tidyF;generalize srtO l=S at f i h;rw[List.any_append];have j:(baseO l).any (hasB g t)=false:=by unfold baseO;cases l.any (·.Out)<;>rfl
 rw[j,Bool.false_or];cases S with
 |nil=>rfl
 |cons a r=>exact Qcj g t r a f i λx d=>k x (h x d)
theorem Qie(l:List Outcome)(g t:Int)(p:l.length<=1048576):Ev (λn=>F_v n l g t) (l.any (hasB g t)):=by
 unfold F_v;have h:∀(r:List Outcome) (i:Nat),l.drop i=r->i<=l.length->EvI (λn=>F_bl n l g t) (i:Int) (bif r.any (hasB g t)then Ctl.done true else Ctl.cont ()):=by
  intro r
  induction r with
  |nil=>
   intro i e j;refine Ei ?_;unfold F_bl;simp only[Qbm e j,Vj];exact Qk _
  |cons x r k=>
   intro i e j;obtain⟨a,f⟩:=Yx (by omega) e;have m:=a.lt';rw[List.any_cons];have d:Ev (λn=>((bif (!x.Out)then(bif (x.Seg==g)then(bif decide (x.Lo<=t)then some (decide (t<=x.Hi))else some false)else some false)else some false):Option Bool)) (hasB g t x):=by
    unfold hasB;exact Eh λ_=>Eh λ_=>Eh λ_=>Qk _
   cases q:hasB g t x with
   |true=>
    rw[q]at d;refine Ei ?_;unfold F_bl;simp only[a.lt,Vi,a.ix,XE];exact Ea d (Qk _)
   |false=>
    rw[q]at d;rw[Bool.false_or];refine Ep ?_ (k (i+1) f (by omega));unfold F_bl;simp only[a.lt,Vi,a.ix,XE,a.nx];exact Ea d (Qk _)
 refine Ea (h l 0 rfl (XP _)).ev ?_;cases l.any (hasB g t)<;>exact Qk _
theorem Qg4(l m:List Outcome)(hl:l.length<=1048576):Ev (λn=>F_am n l m) (decide (l=m)):=Qjt l m (λn=>F_gv n l m) (by omega) λn s=>rfl
theorem Qfl(X:List Outcome)(d:X.length<=1000)(a:∀(i:Nat) (x y:Outcome),X[i]?=some x->X[i+1]?=some y->bad2 x y=false):∀(r:List Outcome) (i:Nat) (b:Bool),X.drop i=r->i<=X.length->EvI (λn=>F_bs n X) (b,(i:Int)) (Ctl.cont (b||r.any (·.Out)))
 |[],i,b,hr,hi=>by
  refine(Ei ?_).eq (b:=Ctl.cont b) (by simp);unfold F_bs;simp only[Qbm hr hi,Vj];exact Qk _
 |y::r,i,b,hr,hi=>by
  obtain⟨ha,hr'⟩:=Yx (by omega) hr;have hlt:=ha.lt';refine(Ep ?_ (Qfl X d a r (i+1) (b||y.Out) hr' (by omega))).eq (by rw[List.any_cons,Bool.or_assoc]);unfold F_bs;simp only[ha.lt,Vi,ha.ix,XE,ha.nx];refine Ea (v:=b||y.Out) (QdS λ_=>Qk _) (Ea (v:=false) ?_ (Qk _));cases i with
  |zero=>exact Qk _
  |succ i=>
   have hp:X[i]?=some (X[i]'(by omega)):=XF (by omega);generalize X[i]'(by omega)=x at hp;have hbad:=a i x y hp ha.get;have e1:IntKind.i64.wrap (((i+1:Nat):Int)-1)=(i:Int):=by rw[Qc6 (by omega) (by omega)];omega
   rw[QfX (show(0:Int)<((i+1:Nat):Int)by omega)];simp only[Vi,e1,QcZ hp,XE];refine Ev.eq ?_ hbad;unfold bad2 badN near;exact QdS λ_=>Eh λ_=>QdS λ_=>Eh λ_=>QdS λ_=>Qk _
theorem law_OutcomeTidy(l:List Outcome)(g t:Int)(d:l.length<=1048576/\ ∀x∈l,Outcome.wf x)(hg:Y0 .i64 g)(j:Y0 .i64 t):∃n,F_bh n l g t=some true:=by
 refine Ev.ex ?_;unfold F_bh;refine Ea (Ev.const QjK) (QgM ?_);by_cases a:20<(l.length:Int)
 .rw[QfX a];exact Qk _
 rw[QfY a];have k:=QhH l;refine QgM (Ea (Qgz l (by omega)) (Ea (v:=l.any (·.Out)) ?_ (Ea ((Qfl (tidyF l) (by omega) (QiR l) (tidyF l) 0 false rfl (XP _)).ev) ?_)))
 .have e:l.any (·.Out)=l.foldl (λb x=>b||x.Out) false:=by
   have:∀(l:List Outcome) (b:Bool),l.foldl (λb x=>b||x.Out) b=(b||l.any (·.Out)):=by
    intro l
    induction l with
    |nil=>intro b;simp
    |cons x l h=>intro b;rw[List.foldl_cons,h,List.any_cons,Bool.or_assoc]
   rw[this,Bool.false_or]
  rw[e];refine QeU l (λb x=>b||x.Out) false (λb i=>(b,(i:Int))) (λb=>b) (by omega) rfl (λi x b ha _=>?_) ?_
  .unfold F_gu;simp only[ha.lt,Vi,ha.ix,XE,ha.nx];exact Ea (v:=b||x.Out) (QdS λ_=>Qk _) (Qk _)
  .unfold F_gu;simp only[end_,Vj];exact Qk _
 .simp only[Bool.false_or,Qe3];refine Ea (v:=true) ?_ (Qk _);rw[beq_self_eq_true];refine QjE (Ea (Qie l g t (by omega)) (Ea (Qie (tidyF l) g t (by omega)) ?_));rw[QhI g t l λx f=>⟨(d.2 x f).2.2.1,(d.2 x f).2.2.2.1⟩,beq_self_eq_true];refine QjE (Ea (Qgz (tidyF l) (by omega)) (Ea (Qg4 _ _ (by rw[Qd2];omega)) ?_));rw[Qd2,QfX rfl];exact Qk _
end Go.Sw
