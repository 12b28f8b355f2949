/- PrizesAlways: what is certain is paid in every history, and whoever has a rank can have it. -/
import Derived.Test.YtkfjchmhgpkcbaaGreatQ31Al
set_option linter.unusedVariables false
set_option linter.unusedSimpArgs false
namespace Go.Sw
theorem QmG{c:Course}(f:PrizesOk c)(d k:Int)(all:List Rank){x:Payment}(e:x∈payP (divF all (amtF c d k)).2):∃t r,soleR all t=some r/\0<amountS c d k t/\x={Bib:=r.Bib,Amount:=amountS c d k t}:=by
 unfold payP ordP at e;simp only[Xf]at e;obtain⟨_,⟨b,m,rfl⟩,rfl⟩:=e;obtain⟨v,a⟩:=(Qcy _ b).1 ((QD ltI _).mem_iff.1 m);have h:Qx (divF all (amtF c d k)).2 b 0=v:=by unfold Qx;rw[a];rfl
 rw[h];unfold divF ordP at a;rcases Qjt _ _ _ _ _ _ a with z|⟨t,g,r,l,i,j⟩
 .cases z
 .exact⟨t,r,l,(Qn2 f d k t).1 g,by rw[i,j,Qjz f]⟩
theorem Qo0{l:List Int}{b:Int}(h:l.Nodup)(d:b∈l)(a:∀y∈l,y=b):l=[b]:=by
 match l,h,d,a with
 |[y],_,d,_=>rw[List.mem_singleton.1 d]
 |y::z::t,h,_,a=>
  have f:=a y (by simp);have e:=a z (by simp);rw[f,e]at h;simp at h
theorem Qg6{f:Field}{h:History}{i:Nat}(a:0<rankG f h i):(outG f h i).Out=false:=by
 unfold rankG at a;cases q:(outG f h i).Out with
 |true=>rw[q]at a;simp at a
 |false=>rfl
theorem QiC{f:Field}(o:FieldOk f){h:History}(a:Adm f h){t:Int}{r:Rank}(b:soleR (allP f) t=some r):grpL f h f.Runners.length t=[r.Bib]/\t∈ksG f h f.Runners.length:=by
 obtain⟨i,k,rfl,s,H,J,G⟩:=Qnj b;have E:candP (allP f) t=[ofP f i]:=by
  unfold soleR at b
  match z:candP (allP f) t,b with
  |[x],b=>
   simp only at b;cases q:(x.Kind==1)with
   |false=>rw[q]at b;cases b
   |true=>rw[q]at b;rw[X7 b]
  |[],b=>cases b
  |x::y::l,b=>cases b
 have B:=QnW a k s;have d:=QeY o a k B;have e:((rankG f h i:Nat):Int)=t:=by
  simp only[candB,X4,decide_eq_true_eq]at d;have:=(QlO k d.1).2.2 s;omega
 have m:bibF f i∈grpL f h f.Runners.length t:=by
  unfold grpL;exact Xf.2 ⟨i,Xe.2 ⟨by simpa using k,by unfold inG;rw[e];simp⟩,rfl⟩
 have u:grpL f h f.Runners.length t=[bibF f i]:=by
  refine Qo0 (QeA o h t) m λy F=>?_;obtain⟨j,w,L,rfl⟩:=QeB F;have n:=Qg6 (f:=f) (h:=h) (i:=j) (by omega);have g:=QeY o a w n;rw[L]at g;have p:ofP f j∈candP (allP f) t:=Xe.2 ⟨Xf.2 ⟨j,by simpa using w,rfl⟩,g⟩;rw[E]at p;have:=List.mem_singleton.1 p;rw[<- QdO,this,QdO]
 rw[QdO];refine⟨u,?_⟩;unfold ksG;exact Xe.2 ⟨Xf.2 ⟨(t-1).toNat,by simp;omega,by unfold rkN;omega⟩,by rw[u];rfl⟩
theorem Qhh(c:Course)(d q:Int)(f:Field)(h:History):∀(ks:List Int) (acc L:List Payment),inPL c d q f h ks acc=some L->∀p∈acc,p∈L
 |[],acc,L,e,p,hp=>by obtain rfl:=X7 e;exact hp
 |k::ks,acc,L,e,p,hp=>by
  unfold inPL at e;cases hg:grpPay c d q f h k with
  |none=>rw[hg]at e;cases e
  |some l=>rw[hg]at e;exact Qhh c d q f h ks _ L e p (List.mem_append.2 (.inl hp))
theorem Qhg(c:Course)(d q:Int)(f:Field)(h:History):∀(ks:List Int) (acc L:List Payment),inPL c d q f h ks acc=some L->∀k∈ks,∃l,grpPay c d q f h k=some l/\ ∀p∈l,p∈L
 |[],acc,L,e,k,hk=>by cases hk
 |k'::ks,acc,L,e,k,hk=>by
  unfold inPL at e;cases hg:grpPay c d q f h k' with
  |none=>rw[hg]at e;cases e
  |some l=>
   rw[hg]at e;rcases Ve.1 hk with rfl|hk
   .exact⟨l,hg,λp hp=>Qhh c d q f h ks _ L e p (List.mem_append.2 (.inr hp))⟩
   .exact Qhg c d q f h ks _ L e k hk
theorem Qkw{c:Course}(g:PrizesOk c)(d k:Int){f:Field}(o:FieldOk f){h:History}(a:Adm f h){L:List Payment}(n:inPL c d k f h (ksG f h f.Runners.length) []=some L){x:Payment}(y:x∈payP (divF (allP f) (amtF c d k)).2):x∈srtP L:=by
 obtain⟨t,r,m,E,rfl⟩:=QmG g d k _ y;obtain⟨w,p⟩:=QiC o a m;obtain⟨l,b,B⟩:=Qhg c d k f h _ _ L n t p;refine(Qft _ L []).2 (.inl (B _ ?_));unfold grpPay at b;rw[w]at b;rcases Qi9 g d k t 1 with⟨s,q,F,u⟩|z
 .have j:(s:Int)=amountS c d k t:=by
   rw[u];unfold prz;simp[Xz]
  have e:[r.Bib].length=1:=rfl;rw[e,q]at b;simp only[bne_self_eq_false,cond_false,Int.toNat_natCast]at b;obtain rfl:=X7 b;have i:splN s 1=[(s:Int)]:=by unfold splN outT;simp[Xz,Nat.mod_one]
  rw[i,Qfp,Yp (show(0:Int)<(s:Int)by omega),j];simp
 .have e:[r.Bib].length=1:=rfl;rw[e,z]at b;cases b
theorem Qmn(l:List Int)(x:Int)(b:l.length<=1048576):Ev (λn=>F_bz n l x) (l.any λy=>y==x):=by
 unfold F_bz;refine Ea (Yg l (λy=> !(y==x)) (Ctl.done true) (Ctl.cont ()) (by omega) (λi y a=>?_) ?_) ?_
 .unfold F_jn;simp only[a.lt,cond_true,a.ix,XQ,a.nx];cases y==x<;>exact Qa _
 .unfold F_jn;simp only[YD,cond_false];exact Qa _
 .rw[<- List.not_any_eq_all_not];cases l.any λy=>y==x<;>exact Qa _
theorem law_PrizesAlways(c:Course)(f:Field)(d k:Int)(h:History)(M:Course.wf c)(hf:Field.wf f)(h3:QB .i64 d)(T:QB .i64 k)(Q:History.wf h):∃n,F_ha n c f d k h=some true:=by
 have w:=Qh7 M;have q:=QiM M;obtain⟨N,O⟩:=Qni M;obtain⟨W,u,Y⟩:=Qj9 c w q N O;obtain⟨V,F,X⟩:=few25 f hf;refine Ev.ex ?_;unfold F_ha;refine Ea (Ez QoB) ?_;simp only[Xh,cond_false];cases b:W with
 |false=>exact Ea (v:=true) (Ea (u.eq b) (Qa _)) (Qa _)
 |true=>
 cases e:V with
 |false=>exact Ea (v:=true) (Ea (u.eq b) (Ea (F.eq e) (Qa _))) (Qa _)
 |true=>
 cases g:decide ((h.Offsets.length:Int)<=20)&&decide ((h.Choices.length:Int)<=20)with
 |false=>exact Ea (v:=true) (Ea (u.eq b) (Ea (F.eq e) (Ea ((QcE h).eq g) (Qa _)))) (Qa _)
 |true=>
 have fl:=Y b;have ff:=X e;have hr:=ff.runs;have m:=w.prize;cases r:fieldB f with
 |false=>
  refine Ea (v:=true) (Ea (u.eq b) (Ea (F.eq e) (Ea ((QcE h).eq g) (Ea (v:=240) ?_ (Qa _))))) (Qa _);unfold F_bn;refine Ea (v:=240) ((QfN f ff).eq (by rw[r];rfl)) ?_;exact Qa _
 |true=>
 have o:=Qcm ff r;cases E:admB f h with
 |false=>exact Ea (v:=true) (Ea (u.eq b) (Ea (F.eq e) (Ea ((QcE h).eq g) (Ea (v:=260) ((QeN o h).eq (by rw[E];rfl)) (Qa _))))) (Qa _)
 |true=>
 have a:=Qnf E;refine Ea (v:=false) (Ea (u.eq b) (Ea (F.eq e) (Ea ((QcE h).eq g) (Ea (v:=0) ((QeN o h).eq (by rw[E];rfl)) (Qa _))))) ?_;refine Q6 ?_;obtain⟨H,s⟩:=QgB c w q fl N O;have J:(H != 0)=false->PrizesOk c:=λz=>QhW (QhN c w q fl N O s z);refine Ea (Qix c f d k H s ff m) ?_;refine Ea (ev_In c f d k H h s ff m J) ?_;unfold certV inV;cases R:(checkV H c f d k != 0)with
 |true=>
  simp only[cond_true,R,XQ];exact Qa _
 |false=>
 have J:=J (QeX R);simp only[cond_false,E,Xh];cases P:inPL c d k f h (ksG f h f.Runners.length) []with
 |none=>exact Qa _
 |some L=>
 simp only[bne_self_eq_false,cond_false,XQ];have ac:(srtP L).length<=36:=by
  have h1:=Qex c d k h _ _ L P;have h2:=Qjd f h f.Runners.length;have T:(ksG f h f.Runners.length).length*f.Runners.length<=6*6:=Nat.mul_le_mul (by omega) hr;simp only[List.length_nil]at h1;unfold srtP;rw[Qhe];simp;omega
 have ab:=Qe0 c d k;have ae:=(QhL (allP f) (amtF c d k)).2;have ad:(payP (divF (allP f) (amtF c d k)).2).length<=1048576:=by unfold payP;rw[X9,Qct];omega
 have B:((payP (divF (allP f) (amtF c d k)).2).all λx=>(srtP L).any λy=>x==y)=true:=Xw.2 λx hx=>Xx.2 ⟨x,Qkw J d k o a P hx,by simp⟩;refine Ea (v:=Ctl.cont ()) ((Yg (payP (divF (allP f) (amtF c d k)).2) (λx=>(srtP L).any λy=>x==y) (Ctl.done false) (Ctl.cont ()) (by omega) (λi x p=>?_) ?_).eq (by rw[B];rfl)) ?_
 .unfold F_jl;simp only[p.lt,cond_true,p.ix,XQ,p.nx];refine Ea (v:=(srtP L).any λy=>x==y) ?_ ?_
  .have G:Ev (λn=>iter (F_io n (srtP L,0) x) n (false,0)) (((srtP L).take (srtP L).length).any λy=>x==y):=by
    refine Ew (λj=>(((srtP L).take j).any (λy=>x==y),(j:Int))) (srtP L).length rfl (λj hj=>?_) ?_
    .have l:=atN (by omega) hj;unfold F_io;simp only[l.lt,cond_true,l.ix,XQ,l.nx];rw[l.take,List.any_append];refine Ea (v:=((srtP L).take j).any (λy=>x==y)||(x==(srtP L)[j])) (Qi λ_=>Qa _) ((Qa _).eq ?_);simp
    .unfold F_io;simp only[YD,cond_false];exact Qa _
   rw[Vh]at G;exact G
  .cases(srtP L).any λy=>x==y<;>exact Qa _
 .unfold F_jl;simp only[YD,cond_false];exact Qa _
 refine Ea (v:=Ctl.cont ()) (Ew (λi=>(i:Int)) f.Runners.length rfl (λi t=>?_) ?_) (Qa _)
 .unfold F_jk;simp only[ltN t,cond_true,Qm (XR t),XQ,QZ (show i<=1048576 by omega)];refine Ea (v:=Ctl.cont ()) (Ea (QhD o E t) ?_) (Qa _);simp only[bne_self_eq_false,cond_false];by_cases h0:rankG f h i=0
  .rw[h0];exact Qa _
  .have en:(((rankG f h i:Nat):Int)==0)=false:=beq_false_of_ne (by omega);rw[en];refine Q6 ?_;refine Ea (Qko f ff _) ?_;rw[r,Q3 (show¬((rankG f h i:Nat):Int)<1 by omega)];simp only[cond_true,cond_false,bne_self_eq_false];have aa:(candP (allP f) ((rankG f h i:Nat):Int)).length<=6:=by
    have:(candP (allP f) ((rankG f h i:Nat):Int)).length<=(allP f).length:=List.length_filter_le ..;rw[QcG]at this;omega
   have Q:((candP (allP f) ((rankG f h i:Nat):Int)).map (·.Bib)).any (λy=>y==(f.Runners[i]).Bib)=true:=by
    refine Xx.2 ⟨(ofP f i).Bib,Xf.2 ⟨ofP f i,Xe.2 ⟨Xf.2 ⟨i,by simpa using t,rfl⟩,QeY o a t (Qg6 (by omega))⟩,rfl⟩,?_⟩;rw[QdO,QdV t];simp
   refine Ea (v:=false) (Ea ((Qmn _ _ (by rw[X9];omega)).eq Q) (Qa _)) (Qa _)
 .unfold F_jk;simp only[geN (X0 _),cond_false];exact Qa _
end Go.Sw
