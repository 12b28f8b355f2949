/- System agrees with the reference. -/
import Derived.Test.YtgjcbknjiemdgaaGreatDoorQ16Sy
set_option linter.unusedVariables false
set_option linter.unusedSimpArgs false
set_option maxRecDepth 10000
namespace Go.Sw
theorem QgA:∀(r:List Segment) (i:Nat) (m:Anc) (p:Ua),p∈(varG r i m).map (·.1)↔p∈m.map (·.1)\/ ∃x∈r,place x=p
 |[],i,m,p=>by simp[varG]
 |x::r,i,m,p=>by
  show p∈(varG r (i+1) (Yp m (place x) _)).map (·.1)↔_;rw[QgA r,QgO];simp only[X4,exists_eq_or_imp];constructor
  .rintro((a|a)|a)
   .exact .inl a
   .exact .inr (.inl a.symm)
   .exact .inr (.inr a)
  .rintro(a|a|a)
   .exact .inl (.inl a)
   .exact .inl (.inr a.symm)
   .exact .inr a
theorem QmJ{α β:Type}[DecidableEq α](m:List (α×β))(p:α):(YX m p=none)↔p∉m.map (·.1):=by
 unfold YX;rw[Option.map_eq_none_iff,List.find?_eq_none];simp only[Xf,not_exists,not_and,Vn]
theorem QdG{c:Course}(F:CrsOk c){S:List Segment}(hS:∀s∈S,SegOk c s)(k:S.Pairwise λx y=>cmpSeg x y<0)(hl:S.length<=1000){mat ep f:Int}(hm:matB c mat=true)(u:isT f):
  ∃v y d,repV c S mat ep f=(v,⟨f+d.Lo,f+d.Hi⟩)/\Ev (λn=>F_aw n S mat ep) v/\Ev (λn=>F_aa n S v mat ep) y/\Ev (λn=>F_z n c y f) d/\
   (-274877906944<=d.Lo/\d.Lo<=0/\0<=d.Hi/\d.Hi<=279172874240):=by
 have vo:=Qkj S;have p:∀(r:List Segment) (i:Nat),S.drop i=r->i<=S.length->(∀x∈r,¬(x.Mat=mat/\x.Epoch=ep))->EvI (λn=>F_ca n S mat ep) (i:Int) (Ctl.cont ()):=by
  intro r
  induction r with
  |nil=>
   intro i O E _;refine Ei ?_;unfold F_ca;simp only[QM O E,Vm];exact Qa _
  |cons x r N=>
   intro i O E V;obtain⟨G,M⟩:=Qw (by omega) O;have k:=G.lt';refine Ew ?_ (N (i+1) M (by omega) λy hy=>V y (by simp[hy]));have nx:=V x (by simp);unfold F_ca;simp only[G.lt,Vl,G.ix,XI,G.nx];refine Ea (v:=(x.Mat==mat)&&(x.Epoch==ep)) (Eh λ_=>Qa _) ?_;have e:((x.Mat==mat)&&(x.Epoch==ep))=false:=by
    cases z:(x.Mat==mat)&&(x.Epoch==ep)with
    |false=>rfl
    |true=>rw[XV,Vv,Vv]at z;exact absurd z nx
   rw[e];exact Qa _
 have g:∀(j:Nat) (s:Segment),S[j]?=some s->s.Mat=mat->s.Epoch=ep->∀(m i:Nat),i+m=j->EvI (λn=>F_ca n S mat ep) (i:Int) (Ctl.done ((j+1:Nat):Int)):=by
  intro j s H W e2 m;have hj:j<S.length:=(XK.1 H).1
  induction m with
  |zero=>
   intro i E;obtain rfl:i=j:=by omega
   refine Ei ?_;unfold F_ca;simp only[QX (show(i:Int)<(S.length:Int)by omega),Vl,Q8 H,XI,W,e2,beq_self_eq_true,Q2 (show i<9223372036854775807 by omega)];exact Qa _
  |succ m N=>
   intro i E;have t:i<S.length:=by omega
   refine Ew ?_ (N (i+1) (by omega));have lt:=VB.1 k i j t hj (by omega);rw[XJ hj]at H;have R:S[j]=s:=XX H;have e:((S[i].Mat==mat)&&(S[i].Epoch==ep))=false:=by
    cases z:(S[i].Mat==mat)&&(S[i].Epoch==ep)with
    |false=>rfl
    |true=>
     rw[XV,Vv,Vv]at z;have same:cmpSeg S[i] S[j]=0:=by
      unfold cmpSeg;rw[R,z.1,z.2,W,e2];have X:∀a:Int,cmpI a a=0:=λa=>QpN.2 rfl;rw[X,X];rfl
     rw[same]at lt;exact absurd lt (by decide)
   unfold F_ca;simp only[QX (show(i:Int)<(S.length:Int)by omega),Vl,Q8 (XJ t),XI,Q2 (show i<9223372036854775807 by omega)];refine Ea (v:=(S[i].Mat==mat)&&(S[i].Epoch==ep)) (Eh λ_=>Qa _) ?_;rw[e];exact Qa _
 cases q:YX (varV S) (⟨mat,ep⟩:Ua)with
 |none=>
  have nk:=(QmJ _ _).1 q;have none:∀x∈S,¬(x.Mat=mat/\x.Epoch=ep):=λx hx h=>nk ((QgA S 0 [] _).2 (.inr ⟨x,hx,by unfold place;rw[h.1,h.2]⟩));obtain⟨i,m,h1,Q⟩:=QdQ hm;have T:QL (varV S) (⟨mat,ep⟩:Ua) 0=0:=by unfold QL;rw[q];rfl
  have P:kindM c mat=m.Kind:=by unfold kindM;rw[h1,Int.toNat_natCast,Q]
  have l:isT (⟨mat,ep,0⟩:Segment).Anchor:=⟨show(-1099511627776:Int)<=0 by decide,show(0:Int)<=1099511627776 by decide⟩;refine⟨0,⟨mat,ep,0⟩,devV c m.Kind ⟨mat,ep,0⟩ f,?_,?_,?_,QgY F Q h1 l u,Qj0 F _ l u⟩
  .unfold repV;simp only[T];rw[show segAt S 0 mat ep=⟨mat,ep,0⟩from rfl,P]
  .unfold F_aw;exact Ea (p S 0 rfl (XT _) none).ev (Qa _)
  .unfold F_aa;exact Qa _
 |some w=>
  obtain⟨j,s,rfl,Q,B,L⟩:=vo _ _ q;have J:=hS s (VE B);unfold place at L;have m4:=congrArg Ua.mat L;have Y:=congrArg Ua.epoch L;simp only at m4 Y;have pl:=J.pl;unfold okPl at pl;rw[XV]at pl;obtain⟨i,m,p1,p2⟩:=QdQ pl.1;have T:QL (varV S) (⟨mat,ep⟩:Ua) 0=((j+1:Nat):Int):=by unfold QL;rw[q];rfl
  have sa:segAt S ((j+1:Nat):Int) mat ep=s:=by
   unfold segAt;rw[QX (by omega),Vl,show(((j+1:Nat):Int)-1).toNat=j by omega,B];rfl
  have P:kindM c s.Mat=m.Kind:=by unfold kindM;rw[p1,Int.toNat_natCast,p2]
  refine⟨((j+1:Nat):Int),s,devV c m.Kind s f,?_,?_,?_,QgY F p2 p1 J.an u,Qj0 F _ J.an u⟩
  .unfold repV;simp only[T,sa,P]
  .unfold F_aw;exact Ea (g j s B m4 Y j 0 (by omega)).ev (Qa _)
  .unfold F_aa;rw[show(((j+1:Nat):Int)==0)=false by simp;omega,Qn (by omega) (by omega),show((j+1:Nat):Int)-1=(j:Int)by omega];refine Q1 ?_;rw[Q8 B];exact Qa _
theorem QbZ{α β:Type}(f:α->List β)(p:α->Bool):∀l:List α,(l.filter p).flatMap f=l.flatMap λx=>bif p x then f x else[]
 |[]=>rfl
 |x::l=>by
  rw[Xd,List.flatMap_cons, <- QbZ f p l];cases p x<;>rfl
theorem QeY{x y:Edge}(a:x.From=y.From)(e:x.To=y.To)(d:x.W=y.W):x=y:=by
 cases x;cases y;simp only at a e d;subst a e d;rfl
theorem QhF{c:Course}(u:CrsOk c){l:List Fact}(he:Ev (λn=>F_bl n c) 0)(hl:l.length<=15):Ev (λn=>F_bw n c l) ((((segV c l).length+1:Nat):Int),edgesV c (segV c l) l,0):=by
 have s1:=Qhj c l;have B:(segV c l).length<=1000:=by omega
 have z:∀s∈segV c l,SegOk c s:=λs h=>Qjw h;have lt:=Qmv c l;have cl:=Qbv l;have cv:=(QdU l).1.2;have eo:=(Qf1 u l hl).e1;unfold F_bw;have sg:=Qb1 (l:=l) he (by omega);refine Ea sg ?_;show Ev (λn=>bif (0:Int) != 0 then some (0,[],0)else(iter (F_fl n (segV c l,0)) n ([],0):Option (List Edge)).bind λb8=>(F_bm n l).bind λL=>(iter (F_gc n c L) n (segV c l,b8,0):Option ((List Segment)×(List Edge))).bind λF=>(iter (F_hd n c L F) n (F.2,0):Option (List Edge)).bind λt=>(bif decide (8192<(t.length:Int))then some (0,[],2)else some (IntKind.i64.wrap (((segV c l).length:Int)+1),t,0))) _;refine Q1 ?_;have l1:∀(r:List Segment) (i:Nat) (a:List Edge),(segV c l).drop i=r->i<=(segV c l).length->a.length<=2*i->EvI (λn=>F_fl n (segV c l,0)) (a,(i:Int)) (a++baseG r i):=by
  intro r
  induction r with
  |nil=>
   intro i a h p he;refine Ei ?_;unfold F_fl;simp only[QM h p,Vm,baseG,Vd];exact Qa _
  |cons x r G=>
   intro i a h p he;obtain⟨e,H⟩:=Qw (by omega) h;have E:=e.lt';have q:=G (i+1) (a++[⟨0,((i+1:Nat):Int),1099511627776⟩,⟨((i+1:Nat):Int),0,1099511627776⟩]) H (by omega) (by simp;omega);rw[Vf]at q;refine Ew ?_ q;unfold F_fl;simp only[e.lt,Vl,e.nx];rw[Qbx _ _ (by simp;omega)];exact Qa _
 refine Ea (l1 (segV c l) 0 [] rfl (XT _) (by simp)).ev (Ea (Qeo l (by omega)) ?_);rw[Ve];have b0:(baseG (segV c l) 0).length<=1000:=by rw[Qco];omega
 have g:∀f∈canonS l,validS f=true:=λf R=>cv f R;have l2:∀(r:List Fact) (i:Nat) (a:List Edge),(canonS l).drop i=r->i<=(canonS l).length->a.length<=1000+2*i->EvI (λn=>F_gc n c (canonS l)) (segV c l,a,(i:Int)) (segV c l,a++r.flatMap λf=>bif f.Kind==3 then newB c (segV c l) f.Beacon else[]):=by
  intro r
  induction r with
  |nil=>
   intro i a h p he;refine Ei ?_;unfold F_gc;simp only[QM h p,Vm,List.flatMap_nil,Vd];exact Qa _
  |cons f r G=>
   intro i a h p he;obtain⟨e,H⟩:=Qw (by omega) h;have E:=e.lt';have w:=g f e.mem;have O:(bif f.Kind==3 then newB c (segV c l) f.Beacon else[]).length<=2:=by
    cases k:f.Kind==3 with
    |false=>simp
    |true=>exact(Qdd u z B (YY w (by simpa using k))).2
   have q:=G (i+1) (a++bif f.Kind==3 then newB c (segV c l) f.Beacon else[]) H (by omega) (by rw[X0];omega);rw[Vf]at q;refine Ew ?_ q;unfold F_gc;simp only[e.lt,Vl,e.ix,XI,e.nx];refine Ea (v:=a++bif f.Kind==3 then newB c (segV c l) f.Beacon else[]) ?_ (Qa _);cases k:f.Kind==3 with
   |false=>
    simp only[bne,k,Xi,Vl,XI,Vm,Vd];exact Qa _
   |true=>
    have m:=YY w (by simpa using k);simp only[bne,k,Xh,Vm,Vl];refine Ea (Ea (Qcl c f.Beacon.Mat) (Qa _)) ?_;unfold newB;cases J:matB c f.Beacon.Mat with
    |false=>simp only[Xi,Vl,Vm,Vd];exact Qa _
    |true=>
     obtain⟨v,y,d,e1,W,N,Q,d1,d2,d3,d4⟩:=QdG u z lt B (ep:=f.Beacon.Epoch) J m.lo;obtain⟨a1,a2⟩:=m.lo;obtain⟨t0,t1⟩:=m.tr;obtain⟨u0,u1⟩:=m.er;simp only[Xh,Vm,Vl,e1];refine Ea W (Ea N (Ea Q ?_));rw[Qn (n:=f.Beacon.True+f.Beacon.Err) (by omega) (by omega),Qn (n:=f.Beacon.True+f.Beacon.Err-f.Beacon.Local) (by omega) (by omega),Qn (n:=f.Beacon.True+f.Beacon.Err-f.Beacon.Local-d.Lo) (by omega) (by omega),Qn (n:=f.Beacon.Local+d.Hi) (by omega) (by omega),Qn (n:=f.Beacon.Local+d.Hi-f.Beacon.True) (by omega) (by omega),Qn (n:=f.Beacon.Local+d.Hi-f.Beacon.True+f.Beacon.Err) (by omega) (by omega),Qbx _ _ (by simp;omega)];refine Eu (Qa _) ?_;congr 1;rw[QeY (x:=⟨0,v,f.Beacon.True+f.Beacon.Err-f.Beacon.Local-d.Lo⟩) (y:=⟨0,v,f.Beacon.True+f.Beacon.Err-(f.Beacon.Local+d.Lo)⟩) rfl rfl (by simp only;omega),QeY (x:=⟨v,0,f.Beacon.Local+d.Hi-f.Beacon.True+f.Beacon.Err⟩) (y:=⟨v,0,0-(f.Beacon.True-f.Beacon.Err-(f.Beacon.Local+d.Hi))⟩) rfl rfl (by simp only;omega)]
 refine Ea (l2 (canonS l) 0 (baseG (segV c l) 0) rfl (XT _) (by omega)).ev ?_;have f3:((canonS l).flatMap λf=>bif f.Kind==3 then newB c (segV c l) f.Beacon else[])=(cntS l 3).flatMap λf=>newB c (segV c l) f.Beacon:=(QbZ _ _ _).symm;rw[f3];have b1:=Qck (l:=cntS l 3) (f:=λf:Fact=>newB c (segV c l) f.Beacon) λf R=>by
  obtain⟨_,w,hk⟩:=QaB R;exact(Qdd u z B (YY w hk)).2
 have c3:=Qcm l 3;generalize hE1:baseG (segV c l) 0++(cntS l 3).flatMap (λf=>newB c (segV c l) f.Beacon)=E1;have Y:E1.length<=1100:=by rw[<- hE1,X0];omega
 have l3:∀(r:List Fact) (i:Nat) (a:List Edge),(canonS l).drop i=r->i<=(canonS l).length->a.length<=1100+2*i->EvI (λn=>F_hd n c (canonS l) (segV c l,E1)) (a,(i:Int)) (a++r.flatMap λf=>bif f.Kind==4 then newS c (segV c l) f.Sync else[]):=by
  intro r
  induction r with
  |nil=>
   intro i a h p he;refine Ei ?_;unfold F_hd;simp only[QM h p,Vm,List.flatMap_nil,Vd];exact Qa _
  |cons f r G=>
   intro i a h p he;obtain⟨e,H⟩:=Qw (by omega) h;have E:=e.lt';have w:=g f e.mem;have O:(bif f.Kind==4 then newS c (segV c l) f.Sync else[]).length<=2:=by
    cases k:f.Kind==4 with
    |false=>simp
    |true=>exact(Qhs u z B (QaG w (by simpa using k))).2
   have q:=G (i+1) (a++bif f.Kind==4 then newS c (segV c l) f.Sync else[]) H (by omega) (by rw[X0];omega);rw[Vf]at q;refine Ew ?_ q;unfold F_hd;simp only[e.lt,Vl,e.ix,XI,e.nx];refine Ea (v:=a++bif f.Kind==4 then newS c (segV c l) f.Sync else[]) ?_ (Qa _);cases k:f.Kind==4 with
   |false=>
    simp only[bne,k,Xi,Vl,XI,Vm,Vd];exact Qa _
   |true=>
    have m:=QaG w (by simpa using k);simp only[bne,k,Xh,Vm,Vl];refine Ea (v:= !(matB c f.Sync.MatA&&matB c f.Sync.MatB)) ?_ ?_
    .refine Ea (Qcl c f.Sync.MatA) ?_;cases matB c f.Sync.MatA with
     |false=>exact Qa _
     |true=>exact Q1 (Ea (Qcl c f.Sync.MatB) (Qa _))
    unfold newS;cases J:matB c f.Sync.MatA&&matB c f.Sync.MatB with
    |false=>simp only[Xi,Vl,Vm,Vd];exact Qa _
    |true=>
     rw[XV]at J;obtain⟨v,y,d,e1,W,N,Q,d1,d2,d3,d4⟩:=QdG u z lt B (ep:=f.Sync.EpochA) J.1 m.la;obtain⟨M,y',j,T,P,X,V,aa,ac,ab,ad⟩:=QdG u z lt B (ep:=f.Sync.EpochB) J.2 m.lb;obtain⟨a1,a2⟩:=m.la;obtain⟨a3,a4⟩:=m.lb;obtain⟨t0,t1⟩:=m.mi;obtain⟨u0,u1⟩:=m.ma;simp only[Xh,Vm,Vl,e1,T];refine Ea W (Ea P (Ea N (Ea Q (Ea X (Ea V ?_)))));rw[Qn (n:=f.Sync.Max-f.Sync.LocalB) (by omega) (by omega),Qn (n:=f.Sync.Max-f.Sync.LocalB-j.Lo) (by omega) (by omega),Qn (n:=f.Sync.Max-f.Sync.LocalB-j.Lo+f.Sync.LocalA) (by omega) (by omega),Qn (n:=f.Sync.Max-f.Sync.LocalB-j.Lo+f.Sync.LocalA+d.Hi) (by omega) (by omega),Qn (n:=f.Sync.LocalB+j.Hi) (by omega) (by omega),Qn (n:=f.Sync.LocalB+j.Hi-f.Sync.LocalA) (by omega) (by omega),Qn (n:=f.Sync.LocalB+j.Hi-f.Sync.LocalA-d.Lo) (by omega) (by omega),Qn (n:=f.Sync.LocalB+j.Hi-f.Sync.LocalA-d.Lo-f.Sync.Min) (by omega) (by omega),Qbx _ _ (by simp;omega)];refine Eu (Qa _) ?_;congr 1;rw[QeY (x:=⟨v,M,f.Sync.Max-f.Sync.LocalB-j.Lo+f.Sync.LocalA+d.Hi⟩) (y:=⟨v,M,f.Sync.Max-(f.Sync.LocalB+j.Lo)+(f.Sync.LocalA+d.Hi)⟩) rfl rfl (by simp only;omega),QeY (x:=⟨M,v,f.Sync.LocalB+j.Hi-f.Sync.LocalA-d.Lo-f.Sync.Min⟩) (y:=⟨M,v,0-(f.Sync.Min-(f.Sync.LocalB+j.Hi)+(f.Sync.LocalA+d.Lo))⟩) rfl rfl (by simp only;omega)]
 refine Ea (l3 (canonS l) 0 E1 rfl (XT _) (by omega)).ev ?_;have f4:((canonS l).flatMap λf=>bif f.Kind==4 then newS c (segV c l) f.Sync else[])=(cntS l 4).flatMap λf=>newS c (segV c l) f.Sync:=(QbZ _ _ _).symm;rw[f4, <- hE1,Vf];show Ev (λn=>bif decide (8192<((edgesV c (segV c l) l).length:Int))then some (0,[],2)else some (IntKind.i64.wrap (((segV c l).length:Int)+1),edgesV c (segV c l) l,0)) _;rw[QW (show¬(8192<((edgesV c (segV c l) l).length:Int))by omega),Q2 (by omega)];exact Qa _
theorem QfR(x:System)(j:x.Edges.length<=1048576):Ev (λn=>F_dg n x x) true:=by
 unfold F_dg;refine Ea (v:=false) ?_ (Q1 ?_)
 .simp only[bne_self_eq_false,Vm];exact Qa _
 have loop:∀(r:List Edge) (i:Nat),x.Edges.drop i=r->i<=x.Edges.length->EvI (λn=>F_ic n x x) (i:Int) (Ctl.cont ()):=by
  intro r
  induction r with
  |nil=>
   intro i d f;refine Ei ?_;unfold F_ic;simp only[QM d f,Vm];exact Qa _
  |cons y r h=>
   intro i d f;obtain⟨a,e⟩:=Qw (by omega) d;have g:=a.lt';refine Ew ?_ (h (i+1) e (by omega));unfold F_ic;simp only[a.lt,Vl,a.ix,XI,a.nx,bne_self_eq_false,Vm];exact Qa _
 exact Ea (loop _ 0 rfl (XT _)).ev (Qa _)
theorem law_ClocksSystemSpec(c:Course)(l:List Fact)(h:Course.wf c)(t:l.length<=1048576/\ ∀f∈l,Fact.wf f):∃n,F_en n c l=some true:=by
 have w:=Qjm h;have q:=Qkb h;obtain⟨j,g⟩:=Qn7 h;obtain⟨b,r,fb⟩:=QhO c w q j g;refine Ev.ex ?_;unfold F_en;refine Ea (Ez Qo4) ?_;simp only[Xh,Vm];refine Ea (v:= !b||decide (14<(l.length:Int))) (Ea r (Et λ_=>Qa _)) ?_;cases p:(!b||decide (14<(l.length:Int)))with
 |true=>exact Qa _
 |false=>
  rw[Bool.or_eq_false_iff,Bool.not_eq_false']at p;obtain⟨m,d⟩:=p;have s:l.length<=14:=by have:=Vt d;omega
  have k:=QlG c w q (fb m) j g;have i:=QhL c w q (fb m) j g;simp only[Vm];by_cases e:courseE c=0
  .rw[e]at k i;have a:=QpA e;have u:=(Qf1 a l (by omega)).e1;refine Ea (QlF a k (by omega)) (Ea (QhF a i (by omega)) ?_);refine Ea (v:=true) (Ea (QfR _ (by show(edgesV c (segV c l) l).length<=1048576;omega)) ?_) (Qa _);simp only[Vl,beq_self_eq_true];exact Qa _
  .refine Ea (QjX k e) (Ea (v:=(0,[],courseE c)) ?_ ?_)
   .unfold F_bw;refine Ea (Qb1 i (by omega)) ?_;simp only[show(courseE c != 0)=true by simpa using e,Vl];exact Qa _
   .refine Ea (v:=true) (Ea (QfR _ (by simp)) ?_) (Qa _);simp only[Vl,beq_self_eq_true];exact Qa _
end Go.Sw
