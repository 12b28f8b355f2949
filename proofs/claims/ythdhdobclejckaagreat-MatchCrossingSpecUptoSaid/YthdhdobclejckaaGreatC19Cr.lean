/- The crossing agrees with the reference. -/
import Derived.Test.YthdhdobclejckaaGreatQ19Cr
set_option linter.unusedVariables false
set_option linter.unusedSimpArgs false
set_option maxRecDepth 10000
namespace Go.Sw
theorem QmI{t:Task}{W:Way}{p:Nat}(w:(p:Int)<=W.Last){s s':Int}{x x':Span}(h:Cr t W p s x)(r:Cr t W p s' x'):s=s'/\x=x':=by
 cases h with
 |back i m j g=>
  cases r with
  |back f d a l=>
   have q:i=f:=by
    rcases Nat.lt_trichotomy i f with y|y|y
    .rw[g f y d]at a;cases a
    .exact y
    .rw[l i y m]at j;cases j
   subst q;exact⟨rfl,rfl⟩
  |fwd e f d k a l=>rw[e i m]at j;cases j
  |none e=>rw[e i (by omega)]at j;cases j
 |fwd n i m u j g=>
  cases r with
  |back f d a l=>rw[n f d]at a;cases a
  |fwd e f d k a l=>
   have q:i=f:=by
    rcases Nat.lt_trichotomy i f with y|y|y
    .rw[l i m y]at j;cases j
    .exact y
    .rw[g f d y]at a;cases a
   subst q;exact⟨rfl,rfl⟩
  |none e=>rw[e i u]at j;cases j
 |none n=>
  cases r with
  |back f d a l=>rw[n f (by omega)]at a;cases a
  |fwd e f d k a l=>rw[n f k]at a;cases a
  |none e=>exact⟨rfl,rfl⟩
section
variable {c:Course} {k:Clocks} {s:Starter} {e:Int} {x:List Hit} {l:List Hand}
theorem Qjw{t:Task}(ty:Ev (λn=>F_d n c) (courseE c))(G:Ev (λn=>F_c n c) (courseE c))(gd:courseE c=0->Good c)(kw:ClkW k)(hx:x.length<=1000)(hl:l.length<=1048576)(h8:∀t,taskE c k s e x l=.inr t->t.r.length<=8)(ht:taskE c k s e x l=.inr t){W:Way}(hW:W.Hits.length<=1048576)(N:admV t W=true){p:Nat}(hp:(p:Int)<=W.Last):
  ∃sg sp,Ev (λn=>F_ag n c k s e x l W (p:Int)) (sg,sp,0)/\Cr t W p sg sp:=by
 have J:=Qcx ty gd kw hx ht;have ok:=J.ok;have hc:t.c=c:=by rw[J.is];rfl
 have hk:t.k=k:=by rw[J.is];rfl
 have hH:t.H=x:=by rw[J.is];rfl
 have f:=N;unfold admV at f;cases M:admB t W with
 |true=>rw[M]at f;cases f
 |false=>
 rw[M,Vp]at f;unfold admB at M;simp only[XX,decide_eq_false_iff_not]at M;obtain⟨F,b1,b2,b3,b4⟩:=M;have F:W.Hits.length=t.r.length:=by have:=F;simp[bne]at this;omega
 have rl:=ok.rl;have hits:=QcR f;have O:∀i:Nat,i<W.Hits.length->Ev (λn=>F_t n ({c:=c,k:=k,hits:=x,hands:=l,route:=t.r,between:=betM t}:stopwatchref19_input) W (i:Int)) (bif (kv t W i).2 then((kv t W i).1.segment,(kv t W i).1.span,true)else(-1,{Lo:=0,Hi:=0},false)):=by
  intro i Q;have:=Qbr J G hl hits Q;unfold inpV at this
  rwa [hc,hk,hH]at this
 have bk:∀i:Nat,i<=p->betV t i p=needV t (i:Int) (p:Int):=by
  intro i Q;unfold betV;rw[Vr (by omega)];by_cases h:i<p
  .rw[Vs h]
  .rw[Vr h,show i=p by omega]
 have bf:∀i:Nat,p<=i->betV t p i=needV t (p:Int) (i:Int):=by
  intro i Q;unfold betV;rw[Vr (by omega)];by_cases h:p<i
  .rw[Vs h]
  .rw[Vr h,show i=p by omega]
 let I:stopwatchref19_input:={c:=c,k:=k,hits:=x,hands:=l,route:=t.r,between:=betM t}
 have up:(∀j,j<=p->(kv t W j).2=false)->∀(m i:Nat),p<=i->W.Last.toNat+1-i<=m->(∀j,p<j->j<i->(kv t W j).2=false)->
   (∃a,p<a/\(a:Int)<=W.Last/\(kv t W a).2=true/\(∀j,p<j->j<a->(kv t W j).2=false)/\EvI (λn=>F_bf n W (p:Int) I) (i:Int) (Ctl.done ((kv t W a).1.segment,{Lo:=IntKind.i64.wrap ((kv t W a).1.span.Lo-(needV t p a).Hi),Hi:=IntKind.i64.wrap ((kv t W a).1.span.Hi-(needV t p a).Lo)},0)))\/
   ((∀j,p<j->(j:Int)<=W.Last->(kv t W j).2=false)/\EvI (λn=>F_bf n W (p:Int) I) (i:Int) (Ctl.cont ())):=by
  intro hb m
  induction m with
  |zero=>
   intro i Q hm y;refine .inr ⟨λj w E=>y j w (by omega),Ej ?_⟩;unfold F_bf;simp only[Qx (show¬(i:Int)<=W.Last by omega),Vp];exact Qa _
  |succ m ih=>
   intro i Q hm y;by_cases R:(i:Int)<=W.Last
   case neg=>
    refine .inr ⟨λj w E=>y j w (by omega),Ej ?_⟩;unfold F_bf;simp only[Qx R,Vp];exact Qa _
   have B:=O i (by omega);cases d:(kv t W i).2 with
   |true=>
    have aa:p<i:=(VB p i).elim id λz=>by rw[hb i z]at d;cases d
    rw[d,Vo]at B;obtain⟨g,q⟩:=Qgh t (i:=p) (j:=i) (by omega) (by omega);refine .inl ⟨i,aa,R,d,y,Ej ?_⟩;unfold F_bf;simp only[Qw R,Vo];refine Ea B (Qaq (Qt g (Qt q ?_)));rw[bf i (by omega)];exact Qa _
   |false=>
    rw[d,Vp]at B;have u:Ev (λn=>F_bf n W (p:Int) I (i:Int)) (Ctl.cont ((i+1:Nat):Int)):=by
     unfold F_bf;simp only[Qw R,Vo];refine Ea B (Qs ?_);rw[QO (by omega)];exact Qa _
    rcases ih (i+1) (by omega) (by omega) (λj w E=>(VB j i).elim (y j w) λz=>(show i=j by omega)▸d)with⟨a,g,q,P,L,g5⟩|⟨g,q⟩
    .exact .inl ⟨a,g,q,P,L,Ex u g5⟩
    .exact .inr ⟨g,Ex u q⟩
 have down:∀(m:Nat),m<=p+1->(∀j,m<=j->j<=p->(kv t W j).2=false)->
   (∃a,a<=p/\(kv t W a).2=true/\(∀j,a<j->j<=p->(kv t W j).2=false)/\EvI (λn=>F_bn n c k x l W (p:Int)) (t.r,betM t,(m:Int)-1) (Ctl.done ((kv t W a).1.segment,{Lo:=IntKind.i64.wrap ((kv t W a).1.span.Lo+(needV t a p).Lo),Hi:=IntKind.i64.wrap ((kv t W a).1.span.Hi+(needV t a p).Hi)},0)))\/
   ((∀j,j<=p->(kv t W j).2=false)/\EvI (λn=>F_bn n c k x l W (p:Int)) (t.r,betM t,(m:Int)-1) (Ctl.cont I)):=by
  intro m
  induction m with
  |zero=>
   intro _ y;refine .inr ⟨λj hj=>y j (XU _) hj,Ej ?_⟩;unfold F_bn;simp only[Qx (show¬(0:Int)<=((0:Nat):Int)-1 by omega),Vp];exact Qa _
  |succ m ih=>
   intro hm y;rw[show((m+1:Nat):Int)-1=(m:Int)by omega];have B:=O m (by omega);cases d:(kv t W m).2 with
   |true=>
    rw[d,Vo]at B;obtain⟨g,q⟩:=Qgh t (i:=m) (j:=p) (by omega) (by omega);refine .inl ⟨m,by omega,d,λj w E=>y j w E,Ej ?_⟩;unfold F_bn;simp only[Qw (show(0:Int)<=(m:Int)by omega),Vo];refine Ea B (Qaq (Qt g (Qt q ?_)));rw[bk m (by omega)];exact Qa _
   |false=>
    rw[d,Vp]at B;have u:Ev (λn=>F_bn n c k x l W (p:Int) (t.r,betM t,(m:Int))) (Ctl.cont (t.r,betM t,(m:Int)-1)):=by
     unfold F_bn;simp only[Qw (show(0:Int)<=(m:Int)by omega),Vo];refine Ea B (Qs ?_);rw[Qq (n:=(m:Int)-1) (by omega) (by omega)];exact Qa _
    rcases ih (by omega) (λj w E=>(Nat.eq_or_lt_of_le w).elim (λz=>z▸d) λz=>y j z E)with⟨a,g,q,P,L⟩|⟨g,q⟩
    .exact .inl ⟨a,g,q,P,Ex u L⟩
    .exact .inr ⟨g,Ex u q⟩
 have chk:=QeM ty G gd kw hx hl h8 hW;have T:chkV c k s e x l W=0:=by
  unfold chkV;rw[ht];simp only[N,Vo]
 rw[T]at chk;have start:∀v,Ev (λn=>(iter (F_bn n c k x l W (p:Int)) n (t.r,betM t,(p:Int)):Option (Ctl stopwatchref19_input (Int×Span×Int))).bind λV=>match V with|.cont sb20=>((iter (F_bf n W (p:Int) sb20) n (p:Int):Option (Ctl Unit (Int×Span×Int))).bind λab=>match ab with|.cont sb42=>(some ((-1),{Lo:=(-1099511627776),Hi:=1099511627776:Span},0))|.done sb42=>some sb42)|.done sb20=>some sb20) v->Ev (λn=>F_ag n c k s e x l W (p:Int)) v:=by
  intro v hv;unfold F_ag;refine Ea chk (Qs (Ea (v:=false) ?_ (Qs (Ea (QdB J G gd (h8 t ht)) hv))));exact YA (Qx (by omega)) ((Qa _).eq (Qx (by omega)))
 have hd:=down (p+1) (XT _) (λj w E=>by omega);rw[show((p+1:Nat):Int)-1=(p:Int)by omega]at hd;rcases hd with⟨a,g,q,P,L⟩|⟨g,q⟩
 .exact⟨_,_,start _ (Ea L.ev (Qa _)),Cr.back a g q P⟩
 .rcases up g (W.Last.toNat+1) p (XT _) (by omega) (λj w E=>by omega)with⟨a,X,Y,u3,u4,u5⟩|⟨X,Y⟩
  .exact⟨_,_,start _ (Ea q.ev (Ea u5.ev (Qa _))),Cr.fwd g a X Y u3 u4⟩
  .exact⟨_,_,start _ (Ea q.ev (Ea Y.ev (Qa _))),Cr.none λj hj=>(VB p j).elim (λz=>X j z hj) (g j)⟩
theorem Qh8(m:Ev (λn=>F_d n c) (courseE c))(j:Ev (λn=>F_c n c) (courseE c))(i:courseE c=0->Good c)(z:ClkW k)(u:x.length<=1000)(E:l.length<=1048576)(G:∀t,taskE c k s e x l=.inr t->t.r.length<=8){W:Way}(B:W.Hits.length<=1048576)(p:Int):
  ∃v,Ev (λn=>F_y n c k s e x l W p) v/\Ev (λn=>F_ag n c k s e x l W p) v:=by
 have chk:=QeM m j i z u E G B;have a:=QiO m i z s e x u l E;cases f:taskE c k s e x l with
 |inl v=>
  have Q:=Qgy f;have g:chkV c k s e x l W=v:=by unfold chkV;rw[f]
  rw[g]at chk;rw[f]at a;have J:(v != 0)=true:=by simpa[bne]using Q
  refine⟨(0,{Lo:=0,Hi:=0},v),?_,?_⟩
  .unfold F_y;exact Ea a (Yz J (Qa _))
  .unfold F_ag;exact Ea chk (Yz J (Qa _))
 |inr t=>
  have F:=Qcx m i z u f;have ok:=F.ok;have V:t.c=c:=by rw[F.is];rfl
  have P:t.k=k:=by rw[F.is];rfl
  have R:t.H=x:=by rw[F.is];rfl
  have w:=Qlk ok W B;rw[V,P,R]at w;have g:chkV c k s e x l W=bif admV t W then 0 else 190:=by unfold chkV;rw[f]
  rw[g]at chk;rw[f]at a;cases d:admV t W with
  |false=>
   rw[d]at w chk;refine⟨(0,{Lo:=0,Hi:=0},190),?_,?_⟩
   .unfold F_y;exact Ea a (Ea w (Yz rfl (Qa _)))
   .unfold F_ag;exact Ea chk (Yz rfl (Qa _))
  |true=>
   rw[d]at w chk;by_cases h:0<=p/\p<=W.Last
   .obtain⟨q,M⟩:∃q:Nat,p=(q:Int):=⟨p.toNat,by omega⟩;subst M;obtain⟨X,Y,O,c1⟩:=Qle m i z u E f B d (p:=q) h.2;obtain⟨s2,x2,L,N⟩:=Qjw m j i z u E G f B d (p:=q) h.2;obtain⟨rfl,rfl⟩:=QmI h.2 c1 N;exact⟨_,O,L⟩
   .have y:(decide (p<0)||decide (W.Last<p))=true:=by
     by_cases T:p<0
     .rw[Qw T];rfl
     .rw[Qw (show W.Last<p by omega),Bool.or_true]
    refine⟨(0,{Lo:=0,Hi:=0},1),?_,?_⟩
    .unfold F_y;exact Ea a (Ea w (YA rfl (Ea (v:=true) (Ew (Qh λ_=>Qa _) y) (Qa _))))
    .unfold F_ag;exact Ea chk (YA rfl (Ea (v:=true) (Ew (Qh λ_=>Qa _) y) (Qa _)))
end
theorem law_MatchCrossingSpec(d:stopwatchlaw19_Input)(h:Way)(g:Int)(w0:stopwatchlaw19_Input.wf d)(m:Way.wf h)(q:Qz .i64 g):∃n,F_hr n d h g=some true:=by
 refine Ev.ex ?_;unfold F_hr;refine Ea (EA Qm9) ?_;simp only[Xg,Vp];obtain⟨b,e,fb⟩:=QnF d w0;cases b with
 |false=>exact Ea (v:=true) (Ea e (Qa _)) (Qa _)
 |true=>
 have f:=fb rfl;have j:=m.1.1;by_cases a:300<(h.Hits.length:Int)
 .exact Ea (v:=true) (Ea e (Qs ((Qa _).eq (Qw a)))) (Qa _)
 refine Ea (v:=false) (Ea e (Qs ((Qa _).eq (Qx a)))) (Qs ?_);have p:d.Hits.length<=1000:=by have:=f.hits;omega
 have k:d.Hands.length<=1048576:=by have:=f.hands;omega
 obtain⟨v,i,l⟩:=Qh8 f.ty f.ref f.good f.clk p k (Qmp w0 f e) j g;refine Ea i (Ea l (Ea (v:=true) ?_ (Qa _)));exact Yz (beq_self_eq_true _) (Yz (beq_self_eq_true _) ((Qa _).eq (beq_self_eq_true _)))
end Go.Sw
