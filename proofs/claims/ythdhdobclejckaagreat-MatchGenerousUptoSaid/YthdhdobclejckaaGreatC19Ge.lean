/- Generous: more misses and more strays admit no less. -/
import Derived.Test.YthdhdobclejckaaGreatQ19Ge
set_option linter.unusedVariables false
set_option linter.unusedSimpArgs false
set_option maxRecDepth 10000
namespace Go.Sw
abbrev upC(c:Course)(M S:Int):Course:={c with Faults:={Misses:=M,Strays:=S,Window:=c.Faults.Window,Residual:=c.Faults.Residual,Drift:=c.Faults.Drift}}
theorem Qhl{c:Course}{M S:Int}(h:numbersS c=true)(l:0<=M/\M<=16)(n:0<=S/\S<=16):numbersS (upC c M S)=true:=by
 unfold numbersS at h⊢;simp only[XV]at h⊢;obtain⟨k,d,f,m,j,i,g,p,e,a⟩:=h;refine⟨k,d,f,m,j,i,g,p,e,?_⟩;unfold lastS inR at a⊢;simp only[XV,Vo]at a⊢;exact⟨⟨l,n⟩,a.2⟩
theorem QjS(c:Course)(M S:Int)(len:Nat):∀(r:List Int) (i:Nat) (p:Int),rokS (upC c M S) len i p r=rokS c len i p r
 |[],i,p=>rfl
 |m::r,i,p=>by unfold rokS;rw[QjS c M S len r];rfl
theorem QjR(c:Course)(M S:Int)(d:Distance):routeS (upC c M S) d=routeS c d:=by
 unfold routeS routeR;rw[QjS];rfl
theorem Qfi{c:Course}{M S:Int}(h:courseE c=0)(d:0<=M/\M<=16)(f:0<=S/\S<=16):courseE (upC c M S)=0:=by
 have a:=(YC h).2.1;have e:courseE (upC c M S)=courseE c:=by
  unfold courseE;rw[Qhl a d f,a,show fitsS (upC c M S)=fitsS c from rfl,show namesS (upC c M S)=namesS c from rfl,funext (QjR c M S)]
 rw[e,h]
theorem Qf7(c:Course)(M S:Int)(k:Clocks):∀x:List Hit,timesV (upC c M S) k x=timesV c k x
 |[]=>rfl
 |h::r=>by rw[QaN,QaN,Qf7 c M S k r];rfl
theorem Qga(c:Course)(M S:Int):∀(r:List Int) (s:Span) (a:Int),sumsF (upC c M S) s a r=sumsF c s a r
 |[],_,_=>rfl
 |b::r,s,a=>by rw[Qb5,Qb5,Qga c M S r];rfl
theorem Qlh(c:Course)(M S:Int)(r:List Int):sumsV (upC c M S) r=sumsV c r:=by
 cases r with
 |nil=>rfl
 |cons a r=>
  show _::sumsF (upC c M S) _ a r=_::sumsF c _ a r;rw[Qga]
theorem QmR(c:Course)(M S:Int)(x:List Hit):checkH (upC c M S) x=checkH c x:=by
 unfold checkH;have:okAt (upC c M S) x=okAt c x:=rfl;rw[this]
abbrev upT(t:Task)(M S:Int):Task:={t with c:=upC t.c M S}
theorem Qlg{c:Course}{M S:Int}(h:courseE c=0)(q:0<=M/\M<=16)(r:0<=S/\S<=16){k:Clocks}{s:Starter}{e:Int}{x:List Hit}{l:List Hand}{t:Task}(a:taskE c k s e x l=.inr t)(p:t.c=c):
  taskE (upC c M S) k s e x l=.inr (upT t M S):=by
 have i:routeO (upC c M S) s.Distance e=routeO c s.Distance e:=rfl;have n:argW (upC c M S) s l=argW c s l:=rfl;unfold taskE at a⊢;rw[Qfi h q r,i,n,QmR,Qf7];rw[h]at a;simp only[bne_self_eq_false,Vn]at a⊢;cases f:clkB k with
 |false=>rw[f]at a;cases a
 |true=>
 rw[f]at a;cases m:argW c s l with
 |true=>rw[m]at a;cases a
 |false=>
 rw[m]at a;cases j:((routeO c s.Distance e).2 != 0)with
 |true=>rw[j]at a;cases a
 |false=>
 rw[j]at a;cases g:checkH c x with
 |false=>rw[g]at a;cases a
 |true=>
 rw[g]at a;cases d:timesV c k x with
 |none=>rw[d]at a;cases a
 |some T=>
  rw[d]at a;cases a;show Sum.inr (taskV (upC c M S) k s e x l T)=Sum.inr (upT (taskV c k s e x l T) M S);unfold taskV;rw[i,Qlh]
theorem QjZ(t:Task)(M S p h:Int):knownV (upT t M S) p h=knownV t p h:=rfl
theorem Qli(t:Task)(M S:Int)(s:Uf)(p h:Int):stopV (upT t M S) s p h=stopV t s p h:=rfl
theorem Qlj(t:Task)(M S:Int)(a:t.c.Faults.Misses<=M)(s:Uf)(p h:Int)(q:(stepV t s p h).2=true):(stepV (upT t M S) s p h).2=true/\(stepV (upT t M S) s p h).1=(stepV t s p h).1:=by
 unfold stepV at q⊢;rw[QjZ,Qli];cases e:(!(knownV t p h).2)with
 |true=>
  rw[e]at q;simp only[Vm]at q⊢;have q:=Vs q;exact⟨Vr (by show s.row+1<=M;omega),trivial⟩
 |false=>
  rw[e]at q;exact⟨q,rfl⟩
theorem QhI(t:Task)(W:Way)(M S:Int)(hM:t.c.Faults.Misses<=M):∀(r:List Int) (i:Nat) (u:List (Int×Bool)) (s:Uf),admL t W r i u s=true->admL (upT t M S) W r i u s=true
 |[],_,_,_,_=>rfl
 |h::r,i,u,s,q=>by
  rw[Qfm]at q⊢;have b0:badV (upT t M S) W u i h=badV t W u i h:=rfl;rw[b0];cases e:((h != -1)&&badV t W u i h)with
  |true=>rw[e]at q;cases q
  |false=>
  rw[e]at q;rw[Vn]at q⊢;cases eL:decide (W.Last<(i:Int))with
  |true=>
   rw[eL,Vm]at q;rw[Vm];exact QhI t W M S hM r _ _ _ q
  |false=>
   rw[eL,Vn]at q;rw[Vn];cases e2:(stepV t s (i:Int) h).2 with
   |false=>rw[e2]at q;cases q
   |true=>
    rw[e2]at q;obtain⟨g1,g2⟩:=Qlj t M S hM s (i:Int) h e2;rw[g1,g2];exact QhI t W M S hM r _ _ _ q
theorem QfK{c:Course}{M S:Int}(h:FewOk c):FewOk (upC c M S):=⟨h.lens,h.name,h.dist,h.ties⟩
theorem tm17{a:Int}(h:Qs .u8 a):0<=Int.tmod a 17/\Int.tmod a 17<=16:=by
 have d:0<=a:=h.1;rw[Int.tmod_eq_emod_of_nonneg d];omega
theorem law_MatchGenerous(a:stopwatchlaw19_Input)(g:Way)(l k:Int)(w0:stopwatchlaw19_Input.wf a)(w1:Way.wf g)(w2:Qs .u8 l)(X:Qs .u8 k):∃n,F_fp n a g l k=some true:=by
 refine Ev.ex ?_;unfold F_fp;refine Ea (EA Qmh) ?_;simp only[Xg,Vn];obtain⟨b,r,fb⟩:=QmM a w0;cases b with
 |false=>exact Ea (v:=true) (Ea r (Qa _)) (Qa _)
 |true=>
 have f:=fb rfl;have E:=w1.1.1;by_cases i:300<(g.Hits.length:Int)
 .exact Ea (v:=true) (Ea r (Qq (Qbr (Qy i) (Qa _)))) (Qa _)
 cases F:(chkV a.C a.K a.S a.Extra a.Hits a.Hands g != 0)with
 |true=>exact Ea (v:=true) (Ea r (Qq (Qb4 (QH i) (Ea (Qer f E) (by exact(Qa _).eq F))))) (Qa _)
 |false=>
 obtain⟨t,V,s,d⟩:=QmS f (by simpa[bne]using F);have m:t.c=a.C:=by rw[s.is];rfl
 refine Ea (v:=false) (Ea r (Qq (Qb4 (QH i) (Ea (Qer f E) (by exact(Qa _).eq F))))) (Qq ?_);have q3:=tm17 w2;have q4:=tm17 X;have hl:(0<=a.C.Faults.Misses/\a.C.Faults.Misses<=16)/\(0<=a.C.Faults.Strays/\a.C.Faults.Strays<=16):=by
  have B:=(YC s.cE).2.1;unfold numbersS lastS inR at B;simp only[XV,Vo]at B;exact B.2.2.2.2.2.2.2.2.2.1
 rw[Qt (n:=Int.tmod l 17) (by omega) (by omega),Qt (n:=Int.tmod k 17) (by omega) (by omega),Qt (n:=a.C.Faults.Misses+Int.tmod l 17) (by omega) (by omega),Qt (n:=a.C.Faults.Strays+Int.tmod k 17) (by omega) (by omega)];have J:∀x y:Int,0<=x->x<=16->0<=y->(0<=(if x+y<16 then x+y else 16)/\(if x+y<16 then x+y else 16)<=16)/\x<=(if x+y<16 then x+y else 16):=by
  intro x y _ _ _;split<;>omega
 obtain⟨u,L⟩:=J a.C.Faults.Misses (Int.tmod l 17) (by omega) (by omega) (by omega);obtain⟨z,R⟩:=J a.C.Faults.Strays (Int.tmod k 17) (by omega) (by omega) (by omega);generalize(if a.C.Faults.Misses+Int.tmod l 17<16 then a.C.Faults.Misses+Int.tmod l 17 else 16)=M at u L⊢;generalize(if a.C.Faults.Strays+Int.tmod k 17<16 then a.C.Faults.Strays+Int.tmod k 17 else 16)=S at z R⊢;have cU:=Qfi s.cE u z;obtain⟨N,O⟩:=Qfw w0.1;have e:=QbO w0.1;have G:=Qch w0.1;have p:CourseOk (upC a.C M S):=⟨e.name,e.mats,e.matsN,e.legs,e.dist,e.distN,e.cut,e.wave,e.waveN,e.off,e.offN,e.cat,e.catN,e.prize⟩;have j:PartsOk (upC a.C M S):=⟨G.len,G.wf⟩;have f':FewI {a with C:=upC a.C M S}:=⟨QfK f.few,Qfg _ p j (QfK f.few) N O,Qcy _ p j (QfK f.few) N O,λh=>Qh9 p j h,f.clk,f.segs,f.mats,f.hits,f.hands⟩;refine Ea (Qer f' E) ((Qa _).eq ?_);have:chkV (upC a.C M S) a.K a.S a.Extra a.Hits a.Hands g=0:=by
  unfold chkV;rw[Qlg s.cE u z V m];simp only;have Y:admV (upT t M S) g=true:=by
   unfold admV at d⊢;cases q:admB t g with
   |true=>rw[q]at d;cases d
   |false=>
   rw[q,Vn]at d;have w:admB (upT t M S) g=false:=by
    unfold admB at q⊢;simp only[XW,decide_eq_false_iff_not]at q⊢;obtain⟨g1,Q,W,T,P⟩:=q;refine⟨g1,Q,W,T,?_⟩;show¬S<strL g t.H 0 0;rw[m]at P;omega
   rw[w,Vn];exact QhI t g M S (by rw[m];exact L) _ _ _ _ d
  rw[Y];rfl
 show(chkV (upC a.C M S) a.K a.S a.Extra a.Hits a.Hands g==0)=true;rw[this];rfl
end Go.Sw
