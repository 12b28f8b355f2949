/- Generous: more misses and more strays admit no less. -/
import Derived.Test.YthdhdobclejckaaGreatQ19Ge
set_option linter.unusedVariables false
set_option linter.unusedSimpArgs false
set_option maxRecDepth 10000
namespace Go.Sw
abbrev upC(c:Course)(M S:Int):Course:={c with Faults:={Misses:=M,Strays:=S,Window:=c.Faults.Window,Residual:=c.Faults.Residual,Drift:=c.Faults.Drift}}
theorem Qhl{c:Course}{M S:Int}(h:numbersS c=true)(f:0<=M/\M<=16)(g:0<=S/\S<=16):numbersS (upC c M S)=true:=by
 unfold numbersS at h⊢;simp only[XV]at h⊢;obtain⟨m,p,d,k,l,j,e,n,i,a⟩:=h;refine⟨m,p,d,k,l,j,e,n,i,?_⟩;unfold lastS inR at a⊢;simp only[XV,Vo]at a⊢;exact⟨⟨f,g⟩,a.2⟩
theorem QjS(c:Course)(M S:Int)(len:Nat):∀(r:List Int) (i:Nat) (p:Int),rokS (upC c M S) len i p r=rokS c len i p r
 |[],i,p=>rfl
 |m::r,i,p=>by unfold rokS;rw[QjS c M S len r];rfl
theorem QjR(c:Course)(M S:Int)(d:Distance):routeS (upC c M S) d=routeS c d:=by
 unfold routeS routeR;rw[QjS];rfl
theorem Qfi{c:Course}{M S:Int}(h:courseE c=0)(d:0<=M/\M<=16)(f:0<=S/\S<=16):courseE (upC c M S)=0:=by
 have a:=(YC h).2.1;have e:courseE (upC c M S)=courseE c:=by
  unfold courseE;rw[Qhl a d f,a,show fitsS (upC c M S)=fitsS c from rfl,show namesS (upC c M S)=namesS c from rfl,funext (QjR c M S)]
 rw[e,h]
theorem Qf7(c:Course)(M S:Int)(k:Clocks):∀x:List Hit,timesV (upC c M S) k x=timesV c k x
 |[]=>rfl
 |h::r=>by rw[QaN,QaN,Qf7 c M S k r];rfl
theorem Qga(c:Course)(M S:Int):∀(r:List Int) (s:Span) (a:Int),sumsF (upC c M S) s a r=sumsF c s a r
 |[],_,_=>rfl
 |b::r,s,a=>by rw[Qb5,Qb5,Qga c M S r];rfl
theorem Qlh(c:Course)(M S:Int)(r:List Int):sumsV (upC c M S) r=sumsV c r:=by
 cases r with
 |nil=>rfl
 |cons a r=>
  show _::sumsF (upC c M S) _ a r=_::sumsF c _ a r;rw[Qga]
theorem QmR(c:Course)(M S:Int)(x:List Hit):checkH (upC c M S) x=checkH c x:=by
 unfold checkH;have:okAt (upC c M S) x=okAt c x:=rfl;rw[this]
abbrev upT(t:Task)(M S:Int):Task:={t with c:=upC t.c M S}
theorem Qlg{c:Course}{M S:Int}(h:courseE c=0)(p:0<=M/\M<=16)(q:0<=S/\S<=16){k:Clocks}{s:Starter}{e:Int}{x:List Hit}{l:List Hand}{t:Task}(a:taskE c k s e x l=.inr t)(r:t.c=c):
  taskE (upC c M S) k s e x l=.inr (upT t M S):=by
 have j:routeO (upC c M S) s.Distance e=routeO c s.Distance e:=rfl;have n:argW (upC c M S) s l=argW c s l:=rfl;unfold taskE at a⊢;rw[Qfi h p q,j,n,QmR,Qf7];rw[h]at a;simp only[bne_self_eq_false,Vn]at a⊢;cases g:clkB k with
 |false=>rw[g]at a;cases a
 |true=>
 rw[g]at a;cases i:argW c s l with
 |true=>rw[i]at a;cases a
 |false=>
 rw[i]at a;cases f:((routeO c s.Distance e).2 != 0)with
 |true=>rw[f]at a;cases a
 |false=>
 rw[f]at a;cases m:checkH c x with
 |false=>rw[m]at a;cases a
 |true=>
 rw[m]at a;cases d:timesV c k x with
 |none=>rw[d]at a;cases a
 |some T=>
  rw[d]at a;cases a;show Sum.inr (taskV (upC c M S) k s e x l T)=Sum.inr (upT (taskV c k s e x l T) M S);unfold taskV;rw[j,Qlh]
theorem QjZ(t:Task)(M S p h:Int):knownV (upT t M S) p h=knownV t p h:=rfl
theorem Qli(t:Task)(M S:Int)(s:Uf)(p h:Int):stopV (upT t M S) s p h=stopV t s p h:=rfl
theorem Qlj(t:Task)(M S:Int)(a:t.c.Faults.Misses<=M)(s:Uf)(p h:Int)(q:(stepV t s p h).2=true):(stepV (upT t M S) s p h).2=true/\(stepV (upT t M S) s p h).1=(stepV t s p h).1:=by
 unfold stepV at q⊢;rw[QjZ,Qli];cases e:(!(knownV t p h).2)with
 |true=>
  rw[e]at q;simp only[Vm]at q⊢;have q:=Vs q;exact⟨Vr (by show s.row+1<=M;omega),trivial⟩
 |false=>
  rw[e]at q;exact⟨q,rfl⟩
theorem QhI(t:Task)(W:Way)(M S:Int)(hM:t.c.Faults.Misses<=M):∀(r:List Int) (i:Nat) (u:List (Int×Bool)) (s:Uf),admL t W r i u s=true->admL (upT t M S) W r i u s=true
 |[],_,_,_,_=>rfl
 |h::r,i,u,s,q=>by
  rw[Qfm]at q⊢;have b0:badV (upT t M S) W u i h=badV t W u i h:=rfl;rw[b0];cases e:((h != -1)&&badV t W u i h)with
  |true=>rw[e]at q;cases q
  |false=>
  rw[e]at q;rw[Vn]at q⊢;cases eL:decide (W.Last<(i:Int))with
  |true=>
   rw[eL,Vm]at q;rw[Vm];exact QhI t W M S hM r _ _ _ q
  |false=>
   rw[eL,Vn]at q;rw[Vn];cases e2:(stepV t s (i:Int) h).2 with
   |false=>rw[e2]at q;cases q
   |true=>
    rw[e2]at q;obtain⟨g1,g2⟩:=Qlj t M S hM s (i:Int) h e2;rw[g1,g2];exact QhI t W M S hM r _ _ _ q
theorem QfK{c:Course}{M S:Int}(h:FewOk c):FewOk (upC c M S):=⟨h.lens,h.name,h.dist,h.ties⟩
theorem tm17{a:Int}(h:Qs .u8 a):0<=Int.tmod a 17/\Int.tmod a 17<=16:=by
 have d:0<=a:=h.1;rw[Int.tmod_eq_emod_of_nonneg d];omega
theorem law_MatchGenerous(a:stopwatchlaw19_Input)(i:Way)(j k:Int)(w0:stopwatchlaw19_Input.wf a)(w1:Way.wf i)(V:Qs .u8 j)(P:Qs .u8 k):∃n,F_fo n a i j k=some true:=by
 refine Ev.ex ?_;unfold F_fo;refine Ea (EA Qmh) ?_;simp only[Xg,Vn];obtain⟨b,s,fb⟩:=QmM a w0;cases b with
 |false=>exact Ea (v:=true) (Ea s (Qa _)) (Qa _)
 |true=>
 have f:=fb rfl;have u:=w1.1.1;by_cases g:300<(i.Hits.length:Int)
 .exact Ea (v:=true) (Ea s (Qq (Qbr (Qy g) (Qa _)))) (Qa _)
 cases B:(chkV a.C a.K a.S a.Extra a.Hits a.Hands i != 0)with
 |true=>exact Ea (v:=true) (Ea s (Qq (Qb4 (QH g) (Ea (Qer f u) (by exact(Qa _).eq B))))) (Qa _)
 |false=>
 obtain⟨t,Y,r,d⟩:=QmS f (by simpa[bne]using B);have l:t.c=a.C:=by rw[r.is];rfl
 refine Ea (v:=false) (Ea s (Qq (Qb4 (QH g) (Ea (Qer f u) (by exact(Qa _).eq B))))) (Qq ?_);have q3:=tm17 V;have q4:=tm17 P;have hl:(0<=a.C.Faults.Misses/\a.C.Faults.Misses<=16)/\(0<=a.C.Faults.Strays/\a.C.Faults.Strays<=16):=by
  have F:=(YC r.cE).2.1;unfold numbersS lastS inR at F;simp only[XV,Vo]at F;exact F.2.2.2.2.2.2.2.2.2.1
 rw[Qt (n:=Int.tmod j 17) (by omega) (by omega),Qt (n:=Int.tmod k 17) (by omega) (by omega),Qt (n:=a.C.Faults.Misses+Int.tmod j 17) (by omega) (by omega),Qt (n:=a.C.Faults.Strays+Int.tmod k 17) (by omega) (by omega)];have O:∀x y:Int,0<=x->x<=16->0<=y->(0<=(if x+y<16 then x+y else 16)/\(if x+y<16 then x+y else 16)<=16)/\x<=(if x+y<16 then x+y else 16):=by
  intro x y _ _ _;split<;>omega
 obtain⟨E,N⟩:=O a.C.Faults.Misses (Int.tmod j 17) (by omega) (by omega) (by omega);obtain⟨z,s2⟩:=O a.C.Faults.Strays (Int.tmod k 17) (by omega) (by omega) (by omega);generalize(if a.C.Faults.Misses+Int.tmod j 17<16 then a.C.Faults.Misses+Int.tmod j 17 else 16)=M at E N⊢;generalize(if a.C.Faults.Strays+Int.tmod k 17<16 then a.C.Faults.Strays+Int.tmod k 17 else 16)=S at z s2⊢;have cU:=Qfi r.cE E z;obtain⟨L,G⟩:=Qfw w0.1;have e:=QbO w0.1;have J:=Qch w0.1;have p:CourseOk (upC a.C M S):=⟨e.name,e.mats,e.matsN,e.legs,e.dist,e.distN,e.cut,e.wave,e.waveN,e.off,e.offN,e.cat,e.catN,e.prize⟩;have m:PartsOk (upC a.C M S):=⟨J.len,J.wf⟩;have Q:FewI {a with C:=upC a.C M S}:=⟨QfK f.few,Qfg _ p m (QfK f.few) L G,Qcy _ p m (QfK f.few) L G,λh=>Qh9 p m h,f.clk,f.segs,f.mats,f.hits,f.hands⟩;refine Ea (Qer Q u) ((Qa _).eq ?_);have:chkV (upC a.C M S) a.K a.S a.Extra a.Hits a.Hands i=0:=by
  unfold chkV;rw[Qlg r.cE E z Y l];simp only;have X:admV (upT t M S) i=true:=by
   unfold admV at d⊢;cases q:admB t i with
   |true=>rw[q]at d;cases d
   |false=>
   rw[q,Vn]at d;have w:admB (upT t M S) i=false:=by
    unfold admB at q⊢;simp only[XW,decide_eq_false_iff_not]at q⊢;obtain⟨W,T,g3,R,g5⟩:=q;refine⟨W,T,g3,R,?_⟩;show¬S<strL i t.H 0 0;rw[l]at g5;omega
   rw[w,Vn];exact QhI t i M S (by rw[l];exact N) _ _ _ _ d
  rw[X];rfl
 show(chkV (upC a.C M S) a.K a.S a.Extra a.Hits a.Hands i==0)=true;rw[this];rfl
end Go.Sw
