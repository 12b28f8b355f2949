/- What the functions compute that ClocksAlignSpec reaches, and that their calls refine it (part 5 of 5). -/
import Derived.Test.YthnmbndffmhalaaGreatDoorW16Al4
set_option linter.unusedVariables false
set_option linter.unusedSimpArgs false
set_option maxRecDepth 100000
set_option maxHeartbeats 4000000
namespace Go.Sw
open Option renaming some→AC,none→AF,bind→AH
open Bool renaming false→AD,true→AE
open Decidable renaming decide→AG
open List renaming length→AI
variable (n:Nat)
open List(map)
open Int(toNat)
open Go.IntKind(i64 u64 u8)
open Go.Proofs Tryz
def O'(b:Bool):AB Unit:=bif b then AC ()else AF
def Nc(n:Nat)(v:Int)(s:(AA Int)×Int):AB (Bn ((AA Int)×Int) (AA Int)):=(bif s.2<v then AH (Bt s.1 s.2) λx=>AH (Fe s.1 s.2 1152921504606846976) λl=>AC (.k (l,i64.wrap (s.2+1)))else AC (.d s.1))
def NH(v:Int)(s:(AA (AA Int))×Int):AB (Bn ((AA (AA Int))×Int) (AA (AA Int))):=(bif s.2<v then AH (O' (s.2==(AI s.1:Int))) λu=>AH (mk v 0) λd=>AH (iter (Nc n v) n (d,0)) λa=>AH (Bt a s.2) λx=>AH (Fe a s.2 0) λe=>AC (.k (s.1++[e],i64.wrap (s.2+1)))else AC (.d s.1))
def Nb(n:Nat)(E:AA Edge)(s:(AA (AA Int))×Int):AB (Bn ((AA (AA Int))×Int) (AA (AA Int))):=(bif s.2<(AI E:Int) then AH (Bt E s.2) λx=>AH (Bt s.1 x.Ai) λr=>AH (Bt r x.To) λy=>AH (Fe r x.To (if x.W<y then x.W else y)) λr'=>AC (.k (s.1.set x.Ai.toNat r',i64.wrap (s.2+1)))else AC (.d s.1))
def SA(m i k:Int)(T:AA (AA Int)):AB (AA (AA Int)):=AH (Bt T i) λr=>AH (Bt r m) λa=>(bif (a != 1152921504606846976)then AH (Bt T m) λq=>AH (Bt q k) λb=>(bif (b != 1152921504606846976)then AH (Bt r k) λy=>AH (Fe r k (if i64.wrap (a+b)<y then i64.wrap (a+b)else y)) λr'=>AC (T.set i.toNat r')else AC T)else AC T)
def NT(n:Nat)(v m i:Int)(s:(AA (AA Int))×Int):AB (Bn ((AA (AA Int))×Int) (AA (AA Int))):=(bif s.2<v then AH (SA m i s.2 s.1) λt=>AC (.k (t,i64.wrap (s.2+1)))else AC (.d s.1))
def NP(v m:Int)(s:(AA (AA Int))×Int):AB (Bn ((AA (AA Int))×Int) (AA (AA Int))):=(bif s.2<v then AH (iter (NT n v m s.2) n (s.1,0)) λt=>AC (.k (t,i64.wrap (s.2+1)))else AC (.d s.1))
def IP(n:Nat)(v:Int)(T:AA (AA Int))(s:Int):AB (Bn Int (Bn Unit Unit)):=(bif s<v then AH (Bt T s) λr=>AH (Bt r s) λa=>(bif a<0 then AC (.d (.d ()))else AC (.k (i64.wrap (s+1))))else AC (.d (.k ())))
def IO(v:Int)(s:(AA (AA Int))×Int):AB (Bn ((AA (AA Int))×Int) (Bn (AA (AA Int)) Unit)):=(bif s.2<v then AH (iter (NP n v s.2) n (s.1,0)) λt=>AH (iter (IP n v t) n 0) λd=>match d with|.k _=>AC (.k (t,i64.wrap (s.2+1)))|.d _=>AC (.d (.d ()))else AC (.d (.k s.1)))
def Lf(a:Bv):AB ((AA (AA Int))×Bool):=AH (mk a.AY ()) λz=>AH (iter (NH n a.AY) n ([],0)) λt0=>AH (O' (AI t0==a.AY.toNat)) λu=>AH (iter (Nb n a.BL) n (t0,0)) λt1=>AH (iter (IO n a.AY) n (t1,0)) λd=>match d with|.k t=>AC (t,AE)|.d _=>AC ([],AD)
theorem pR{b:Bool}{u:Unit}(h:O' b=AC u):b=true:=by
  unfold O' at h;cases b with
  |true=>rfl
  |false=>cases h
theorem kN(g:Bv)(r:(AA (AA Int))×Bool)(h:Lf n g=AC r):DE prog 53 [.a (Bv.c g)] [] (λr=>.t [.q 1 (map (Qw 1 (Qe .i64)) r.1),.b r.2]) r:=by
 refine QK func53 Z Z Z ?_;refine G0 17 Z (Bd h λz hz h=>?_);obtain⟨z0,F,O⟩:=om hz;have E:AI z=g.AY.toNat:=by rw[<- O];simp
 refine vH (wC (e:=λ_=>[A.nils]) (zv:=()) (a:=.n) hz kz zeroValue90 ZR.nils Z Z Z Z) ?_;refine Bd h λt0 ht0 h=>Go 10 Z ?_;refine TC.loop (λs:(AA (AA Int))×Int=>[(1,.p 0 0),(4,I g.AY),(5,.o 1 g.AY.toNat 1),(6,I s.2)]) (λs=>[.c 60 (Bv.c g),.R 90 1 (G7 2 s.1 (g.AY.toNat-(AI s.1)))]++Q0 3 s.1) ht0 ?_ (λs d hs hb=>?_)
 · refine Ep (Jt ?_) (Jb ⟨Z,Z,?_,Z,trivial⟩)
   · rw[<- O]
     simp[yg,Q0,Bv.c]
   · exact congrArg (λm=>A.s 1 0 m 1) E
 refine G0 8 Z (Q8 Z hs (λhc hs=>?_) (λhc hs=>?_))
 · refine Gc 2 Z ?_
   refine Qj hs ?_;obtain rfl:=Oj hb hs;refine Bd h λu hu h=>?_;have hn:AI s.1=g.AY.toNat:=by simpa using pR hu
   refine Bd h λt1 ht1 h=>Gx 9 Z ?_;refine TC.loop (λq:(AA (AA Int))×Int=>[(1,.p 0 0),(4,I g.AY),(5,.o 1 (AI q.1) 1),(8,I q.2)]) (λq=>[.c 60 (Bv.c g),.R 90 1 (YC 2 q.1)]++Q0 3 q.1) ht1 ?_ (λs d hs hb=>?_)
   · refine Ep (Jt (H':=[B8.cells 60 (Bv.c g),.R 90 1 (YC 2 s.1)]++Q0 3 s.1) ?_) ?_
     · rw[hn,Nat.sub_self];simp[G7]
     · exact Jb ⟨Z,Z,congrArg (λm=>A.s 1 0 m 1) hn.symm,Z,trivial⟩
   clear E O hn;refine G0 6 Z (Lg 3 Z Z (Q8 Z hs (λhc hs=>?_) (λhc hs=>?_)))
   · refine Gc 2 Z ?_
     refine Qj hs ?_;obtain rfl:=Oj hb hs;refine Bd h λdd hdd h=>Gx 9 Z ?_;refine TC.loop (λq:(AA (AA Int))×Int=>[(4,I g.AY),(5,.o 1 (AI q.1) 1),(10,I q.2)]) (λq=>[.c 60 (Bv.c g),.R 90 1 (YC 2 q.1)]++Q0 3 q.1) hdd ?_ (λq d hq H=>?_)
     · exact Jb ⟨Z,Z,Z,trivial⟩
     refine G0 8 Z (Q8 Z hq (λhc hq=>?_) (λhc hq=>?_))
     · refine Gc 2 Z ?_
       refine Qj hq ?_;obtain rfl:=Oj H hq;refine Gx 1 Z (Eg (wA (s:=5) (i:=1) (b:=2) (t1:=3) (e:=Qe .i64) (rows:=q.1) Z (by omega) Z Z (λj r hj=>YK [_,_] hj)) (Gc 8 Z ?_));obtain rfl:=Oi h;exact R2 2 3 Z Z (Lr [])
     refine Bd hq λT1 hT1 hq=>Bd hq λdg hdg hq=>Gc 11 Z ?_;refine TC.loop (λw:(AA (AA Int))×Int=>[(4,I g.AY),(5,.o 1 (AI w.1) 1),(10,I q.2),(11,I w.2)]) (λw=>[.c 60 (Bv.c g),.R 90 1 (YC 2 w.1)]++Q0 3 w.1) hT1 ?_ (λw d hw Q=>?_)
     · exact Jb ⟨Z,Z,Z,Z,trivial⟩
     refine G0 8 Z (Q8 Z hw (λhc hw=>?_) (λhc hw=>?_))
     · refine Gc 2 Z ?_
       refine Qj hw ?_;obtain rfl:=Oj Q hw;refine Gx 8 Z ?_;refine TC.loop (λc:Int=>[(4,I g.AY),(5,.o 1 (AI w.1) 1),(10,I q.2),(13,I c)]) (λc=>[.c 60 (Bv.c g),.R 90 1 (YC 2 w.1)]++Q0 3 w.1) hdg ?_ (λc d hc J=>?_)
       · exact Jb ⟨Z,Z,Z,Z,trivial⟩
       refine G0 8 Z (Q8 Z hc (λ_ hc=>?_) (λ_ hc=>?_))
       · refine Gc 2 Z ?_
         refine Qj hc ?_;obtain rfl:=Oj J hc;refine Gx 8 Z ?_;refine Qg hq (Jb ⟨Z,Z,Z,trivial⟩)
       refine Bd hc λrr hrr hc=>Bd hc λa ha hc=>?_;have B:=(Jw hrr).2;refine Gc 8 Z ?_;refine vV (x:=.p 1 (c.toNat*1)) (Qk (l:=w.1) hrr Z EI EN) ?_;refine vV (x:=.s (2+c.toNat) 0 (AI rr) 1) (EC Z Gj Z (DP.rowr (e:=c.toNat) (f:=0) Z (by omega) (Jy B) Z)) ?_;refine Go 1 Z ?_;refine vV (x:=.p (2+c.toNat) (c.toNat*1)) (Qk (l:=rr) ha Z EE EG) ?_;refine vV (x:=I a) (EC Z EK Z (Ql ha (hH:=YK [_,_] B))) ?_;refine Go 3 Z (Cn Z hc (λ_ hc=>?_) (λ_ hc=>?_))
       · refine Gc 9 Z ?_
         refine Qv hc ?_;obtain rfl:=Oj J hc;refine Gx 3 Z ?_;refine Qv hq ?_;obtain rfl:=Oj H hq;refine Gx 2 Z ?_;obtain rfl:=Oi h;exact R2 2 3 Z Z (Ep (aC (s:=2) (k:=1) Z) (Lr []))
       refine Gc 8 Z ?_;refine Qg hc (Jb ⟨Z,Z,Z,Z,trivial⟩)
     refine Bd hw λT2 hT2 hw=>Gc 10 Z ?_;refine TC.loop (λy:(AA (AA Int))×Int=>[(4,I g.AY),(5,.o 1 (AI y.1) 1),(10,I q.2),(11,I w.2),(12,I y.2)]) (λy=>[.c 60 (Bv.c g),.R 90 1 (YC 2 y.1)]++Q0 3 y.1) hT2 ?_ (λy d hy X=>?_)
     · exact Jb ⟨Z,Z,Z,Z,Z,trivial⟩
     refine G0 8 Z (Q8 Z hy (λhc hy=>?_) (λhc hy=>?_))
     · refine Gc 2 Z ?_
       refine Qj hy ?_;obtain rfl:=Oj X hy;refine Gx 8 Z ?_;refine Qg hw (Jb ⟨Z,Z,Z,Z,trivial⟩)
     refine Bd hy λt ht hy=>?_;obtain⟨r,hr,ht⟩:=Q7 ht;obtain⟨a,ha,ht⟩:=Q7 ht;have hrr:=(Jw hr).2;refine Gc 8 Z ?_;refine vV (x:=.p 1 (w.2.toNat*1)) (Qk (l:=y.1) hr Z EI EN) ?_;refine vV (x:=.s (2+w.2.toNat) 0 (AI r) 1) (EC Z Gj Z (DP.rowr (e:=w.2.toNat) (f:=0) Z (by omega) (Jy hrr) Z)) ?_;refine Go 1 Z ?_;refine vV (x:=.p (2+w.2.toNat) (q.2.toNat*1)) (Qk (l:=r) ha Z EE EG) ?_;refine vV (x:=I a) (EC Z EK Z (Ql ha (hH:=YK [_,_] hrr))) ?_;refine Go 2 Z ?_;refine Is 100 ht Z (λ_ ht=>?_) (λ_ ht=>?_)
     · obtain⟨p,hp,ht⟩:=Q7 ht
       obtain⟨b,hb,ht⟩:=Q7 ht;have hpp:=(Jw hp).2;refine Go 2 Z ?_;refine vV (x:=.p 1 (q.2.toNat*1)) (Qk (l:=y.1) hp Z EI EN) ?_ (gT Z);refine vV (x:=.s (2+q.2.toNat) 0 (AI p) 1) (EC Z Gj Z (DP.rowr (e:=q.2.toNat) (f:=0) Z (by omega) (Jy hpp) Z)) ?_ (gT Z);refine Go 1 Z ?_;refine vV (x:=.p (2+q.2.toNat) (y.2.toNat*1)) (Qk (l:=p) hb Z EE EG) ?_ (gT Z);refine vV (x:=I b) (EC Z EK Z (Ql hb (hH:=YK [_,_] hpp))) ?_ (gT Z);refine Go 4 Z (Cn Z ht (λ_ ht=>?_) (λ_ ht=>?_))
       · obtain⟨F,hz1,ht⟩:=Q7 ht
         obtain⟨r',hr',ht⟩:=Q7 ht;cases Oi ht;refine C5 29 Z ?_;refine D 2 Z ?_;refine DS.v (x:=.p 1 (w.2.toNat*1)) (Qk (l:=y.1) hr Z EI EN) ?_;refine DS.v (x:=.s (2+w.2.toNat) 0 (AI r) 1) (EC Z Gj Z (DP.rowr (e:=w.2.toNat) (f:=0) Z (by omega) (Jy hrr) Z)) ?_;refine D 3 Z ?_;refine DS.v (x:=.p 1 (w.2.toNat*1)) (Qk (l:=y.1) hr Z EI EN) ?_;refine DS.v (x:=.s (2+w.2.toNat) 0 (AI r) 1) (EC Z Gj Z (DP.rowr (e:=w.2.toNat) (f:=0) Z (by omega) (Jy hrr) Z)) ?_;refine D 1 Z ?_;refine DS.v (x:=.p (2+w.2.toNat) (y.2.toNat*1)) (Qk (l:=r) hz1 Z EE EG) ?_;refine DS.v (x:=I F) (EC Z EK Z (Ql hz1 (hH:=YK [_,_] hrr))) ?_;refine D 2 Z ?_;refine DS.v (x:=.p 1 (w.2.toNat*1)) (Qk (l:=y.1) hr Z EI EN) ?_;refine DS.v (x:=.s (2+w.2.toNat) 0 (AI r) 1) (EC Z Gj Z (DP.rowr (e:=w.2.toNat) (f:=0) Z (by omega) (Jy hrr) Z)) ?_;refine D 1 Z ?_;refine DS.v (x:=.p (2+w.2.toNat) (q.2.toNat*1)) (Qk (l:=r) ha Z EE EG) ?_;refine DS.v (x:=I a) (EC Z EK Z (Ql ha (hH:=YK [_,_] hrr))) ?_;refine D 2 Z ?_;refine DS.v (x:=.p 1 (q.2.toNat*1)) (Qk (l:=y.1) hp Z EI EN) ?_;refine DS.v (x:=.s (2+q.2.toNat) 0 (AI p) 1) (EC Z Gj Z (DP.rowr (e:=q.2.toNat) (f:=0) Z (by omega) (Jy hpp) Z)) ?_;refine D 1 Z ?_;refine DS.v (x:=.p (2+q.2.toNat) (y.2.toNat*1)) (Qk (l:=p) hb Z EE EG) ?_;refine DS.v (x:=I b) (EC Z EK Z (Ql hb (hH:=YK [_,_] hpp))) ?_;refine D 1 Z ?_;refine DS.v (x:=I (if i64.wrap (a+b)<F then i64.wrap (a+b)else F)) (Bz.min Z Z Z Z) ?_;refine DS.v (x:=.p (2+w.2.toNat) (y.2.toNat*1)) (Qk (l:=r) hz1 Z EE EG) ?_;refine Ei Z ?_;refine vU (Yt (e:=(Qe .i64)) (k:=1) (f:=0) hz1 hr' EG Z Z (hH:=YK [_,_] hrr)) ?_;refine Ew (Jt (w7 hrr (QR hr'))) ?_;refine Go 8 Z ?_;refine Qg hy (Jb ⟨Z,congrArg (λm=>A.s 1 0 m 1) (by simp),Z,Z,Z,trivial⟩)
       cases Oi ht;refine Gc 8 Z ?_;refine Qg hy (Jb ⟨Z,Z,Z,Z,Z,trivial⟩)
     cases Oi ht;refine Go 20 Z ?_;refine Qg hy (Jb ⟨Z,Z,Z,Z,Z,trivial⟩)
   refine Bd hs λx hx hs=>Bd hs λr hr hs=>Bd hs λy hy hs=>Bd hs λr' hr' hs=>Gc 9 Z ?_;refine Iz hx Z (Go 2 Z ?_);have hHl:(fn (Q0 3 s.1) 2).1=2+AI s.1:=by rw[dY];simp only[Q0,X3];omega
   refine Ew (QD (s:=9) Z (congrArg (λj=>A.p j 0) hHl)) ?_;refine Ew (Jt (H':=([B8.cells 60 (Bv.c g),.R 90 1 (YC 2 s.1)]++Q0 3 s.1)++[.c 129 [I 0,I 0,I 0]]) (by rw[T3];rfl)) ?_;refine Ew (wV (env':=[(1,.p 0 0),(4,I g.AY),(5,.o 1 (AI s.1) 1),(8,I s.2),(9,.p 2 0),(56,.a (Edge.c x))]) Zf Zf ⟨Z,Z,Z,Z,Z,Z,trivial⟩) ?_;refine Go 3 Z ?_;have hrr:=(Jw hr).2;refine Eg (Jt (H':=[B8.cells 60 (Bv.c g),.R 90 1 (YC 3 s.1),.c 129 (Edge.c x)]++Q0 3 s.1) (by rw[T3];rfl)) ?_;refine C5 20 Z ?_;refine D 3 Z ?_;refine DS.v (x:=.p 1 (x.Ai.toNat*1)) (Qk (l:=s.1) hr Z EI EN) ?_;refine DS.v (x:=.s (3+x.Ai.toNat) 0 (AI r) 1) (EC Z Gj Z (DP.rowr (e:=x.Ai.toNat) (f:=0) Z (by omega) (Jy hrr) Z)) ?_;refine D 5 Z ?_;refine DS.v (x:=.p 1 (x.Ai.toNat*1)) (Qk (l:=s.1) hr Z EI EN) ?_;refine DS.v (x:=.s (3+x.Ai.toNat) 0 (AI r) 1) (EC Z Gj Z (DP.rowr (e:=x.Ai.toNat) (f:=0) Z (by omega) (Jy hrr) Z)) ?_;refine D 2 Z ?_;refine DS.v (x:=.p (3+x.Ai.toNat) (x.To.toNat*1)) (Qk (l:=r) hy Z EE EG) ?_;refine DS.v (x:=I y) (EC Z EK Z (Ql hy (hH:=YK [_,_,_] hrr))) ?_;refine D 2 Z ?_;refine DS.v (x:=I (if x.W<y then x.W else y)) (Bz.min Z Z Z Z) ?_;refine DS.v (x:=.p (3+x.Ai.toNat) (x.To.toNat*1)) (Qk (l:=r) hy Z EE EG) ?_;refine Ei Z ?_;refine vU (Yt (e:=(Qe .i64)) (k:=1) (f:=0) hy hr' EG Z Z (hH:=YK [_,_,_] hrr)) ?_;refine Ew (Jt (yi hrr (QR hr'))) ?_;refine Go 8 Z ?_;refine Qg hs (x_ Zf ⟨Z,Z,congrArg (λm=>A.s 1 0 m 1) (by simp),Z,trivial⟩)
 refine Bd hs λu hu hs=>?_;have hlen:s.2=(AI s.1:Int):=by simpa using pR hu
 have hlt:s.2<g.AY:=by simpa using hc
 obtain⟨m',hm'⟩:∃m',g.AY.toNat-(AI s.1)=m'+1:=⟨g.AY.toNat-(AI s.1)-1,by omega⟩;rw[hm'];refine Bd hs λP aa hs=>?_;have hi:Bt z s.2=AC ():=by
  have:s.2.toNat<AI z:=by omega
  unfold Bt;rw[Vv (show 0<=s.2 by omega)];simp[this]
 refine Gc 9 Z (vH (lx (e:=(Qe .i64)) (zv:=0) (a:=(I 0)) aa QA EW Er Z Z Z Z) ?_);have hHl:AI ([B8.cells 60 (Bv.c g),.R 90 1 (G7 2 s.1 (m'+1))]++Q0 3 s.1)=2+AI s.1:=by simp[Q0];omega
 refine Ew (QD (s:=26) Z (congrArg (λj=>A.s j 0 (AI P) 1) hHl)) ?_;refine vV (x:=.p 1 (s.2.toNat*1)) (Qk (l:=z) hi E EI EN) ?_;refine vU (QgZ (t:=90) (T:=90) (k:=1) (e:=AI s.1) (f:=0) (c:=[.n]) Z Z Z EN (by omega) w6 Z Z Z Z Z Z Z yh) ?_;refine Ew (Jt (H':=[B8.cells 60 (Bv.c g),.R 90 1 (G7 2 (s.1++[P]) m')]++Q0 3 (s.1++[P])) (by rw[yz];rfl)) ?_;refine Bd hs λr1 ab hs=>Go 9 Z ?_;refine TC.loop (λk:(AA Int)×Int=>[(1,.p 0 0),(4,I g.AY),(5,.o 1 g.AY.toNat 1),(6,I s.2),(7,I k.2)]) (λk=>[.c 60 (Bv.c g),.R 90 1 (G7 2 (s.1++[k.1]) m')]++Q0 3 (s.1++[k.1])) ab ?_ (λk e hk ac=>?_)
 · refine Jb ⟨Z,Z,Z,Z,?_,trivial⟩
   rfl
 refine G0 8 Z (Q8 Z hk (λ_ hk=>?_) (λ_ hk=>?_))
 · refine Gc 2 Z ?_
   refine Qj hk ?_;obtain rfl:=Oj ac hk;refine Bd hs λx2 L hs=>Bd hs λG B hs=>Gx 5 Z ?_;refine vV (x:=.p 1 (s.2.toNat*1)) (Qk (l:=z) hi E EI EN) ?_;refine vV (x:=.s (2+AI s.1) 0 (AI k.1) 1) (EC Z Gj Z (DP.rowr (e:=AI s.1) (f:=0) Z (by omega) (rT (r:=k.1) (by simp)) Z)) ?_;refine Go 1 Z ?_;refine vV (x:=.p (2+AI s.1) (s.2.toNat*1)) (Qk (l:=k.1) L Z EE EG) ?_;refine vU (Yt (e:=(Qe .i64)) (k:=1) (f:=0) L B EG Z Z (hH:=YK [_,_] (by simp))) ?_;refine Ew (Jt (rW (QR B))) ?_;have ae:g.AY.toNat-(AI (s.1++[G]))=m':=by simp;omega
   refine Go 8 Z ?_;refine Qg hs (Ep (Jt (H':=[B8.cells 60 (Bv.c g),.R 90 1 (G7 2 (s.1++[G]) (g.AY.toNat-(AI (s.1++[G]))))]++Q0 3 (s.1++[G])) (by rw[ae])) (Jb ⟨Z,Z,Z,Z,trivial⟩))
 refine Bd hk λx1 M hk=>Bd hk λl1 N hk=>Gc 7 Z ?_;refine vV (x:=.p 1 (s.2.toNat*1)) (Qk (l:=z) hi E EI EN) ?_;refine vV (x:=.s (2+AI s.1) 0 (AI k.1) 1) (EC Z Gj Z (DP.rowr (e:=AI s.1) (f:=0) Z (by omega) (rT (r:=k.1) (by simp)) Z)) ?_;refine Go 1 Z ?_;refine vV (x:=.p (2+AI s.1) (k.2.toNat*1)) (Qk (l:=k.1) M Z EE EG) ?_;refine vU (Yt (e:=(Qe .i64)) (k:=1) (f:=0) M N EG Z Z (hH:=YK [_,_] (by simp))) ?_;refine Ew (Jt (rW (QR N))) ?_;refine Go 8 Z ?_;refine Qg hk (Jb ⟨Z,Z,Z,Z,Z,trivial⟩)
def OJ(a:Bv):AB ((AA (AA Int))×Int):=AH (Nq n a) λd=>(bif (d != 0)then AC ([],d)else AH (Lf n a) λe=>(bif (!e.2)then AC ([],151)else AC (e.1,0)))
theorem j7(a:Bv):Ks (OJ n a) 24 [.a (Bv.c a)] [] (λr=>.t [.q 1 (map (Qw 1 (Qe .i64)) r.1),I r.2]):=by
 refine Kg 10 func24 Z Z Z Z λr h=>Cz [] h (ja _ _) Z λi f h=>Go 10 Z (Cn Z h (λ_ h=>?_) (λ_ h=>?_))
 .refine Gc 9 Z ?_;obtain rfl:=Oi h;refine R2 2 3 Z Z ?_;refine Ep (aC (s:=2) (k:=1) Z) ?_;exact Lr []
 refine Gc 5 Z (Cd [] h (kN _ _) Z λj g h=>Fg 14 Z Z (Cn Z h (λ_ h=>?_) (λ_ h=>?_)))
 .refine Gc 8 Z ?_;obtain rfl:=Oi h;refine R2 2 3 Z Z ?_;refine Ep (aC (s:=2) (k:=1) Z) ?_;exact Lr []
 refine Gc 10 Z ?_;obtain rfl:=Oi h;exact R2 2 3 Z Z (Lr [])
def IQ(d:Bl)(e:AA Bm):AB ((AA Bk)×(AA (AA Int))×Int):=AH (Li n d e) λa=>(bif (a.2.2 != 0)then AC ([],[],a.2.2)else AH (OJ n ({AY:=a.1,BL:=a.2.1:Bv})) λf=>(bif (f.2 != 0)then AC ([],[],160)else AH (KC n d e) λg=>AC (g.1,f.1,0)))
theorem kV(e:Bl)(f:AA Bm):Kq (IQ n e f) 8 [.a (Bl.c e),.q 57 (map Bm.c f)] [] (λr=>.t [.a [.q 3 (map Bk.c r.1),.q 1 (map (Qw 1 (Qe .i64)) r.2.1)],I r.2.2]) (λr=>[.c 38 [.q 3 (map Bk.c r.1),.q 1 (map (Qw 1 (Qe .i64)) r.2.1)]]):=by
 refine Kg 11 func8 Z Z Z Z λr h=>Cd [] h (kP _ _ _) Z λp k h=>Fg 15 Z Z (Cn Z h (λ_ h=>?_) (λ_ h=>?_))
 .refine Gc 10 Z ?_;obtain rfl:=Oi h;exact Rx [1] [4,5] Z (Qo Z Z (CC.cons (Qf GK Gu Z Z Z) (CC.cons C_.tmp CC.nil))) ⟨Z,Z⟩
 refine Gc 5 Z (Cd [] h (j7 _ _) Z λa l h=>Fg 14 Z Z (Cn Z h (λ_ h=>?_) (λ_ h=>?_)))
 .refine Gc 9 Z ?_;obtain rfl:=Oi h;exact Rx [1] [4,5] Z (Qo Z Z (CC.cons (Qf GK Gu Z Z Z) (CC.cons C_.tmp CC.nil))) ⟨Z,Z⟩
 refine Gc 6 Z (Cd [] h (W2 _ _ _) Z λd m h=>Fg 17 Z Z ?_);obtain rfl:=Oi h;refine⟨[(4,.p 0 0),(5,I ((d.1,a.1,0).2.2))],[.c 38 [.q 3 (map Bk.c ((d.1,a.1,0).1)),.q 1 (map (Qw 1 (Qe .i64)) ((d.1,a.1,0).2.1))]],_,?_,Qo Z Z (CC.cons (Qf GK Gu Z Z Z) (CC.cons C_.tmp CC.nil)),Z,Z⟩;refine Ep (Ku (i:=4) [] Z Z Fc.nil (Ec (FT.cells (Ee Et (El _)) (Ec (Ec (Ec (KZ _))))))) ?_;exact Lr [1]
def IU(n:Nat)(a:Int):AB Bool:=AH ((bif (-1099511627776)<=a then AC (AG (a<=1099511627776))else AC AD):AB Bool) λb2=>AC b2
theorem Pz(d:Int):Ks (IU n d) 31 [I d] [] (λr=>.b r):=by
 refine Kg 6 func31 Z Z Z Z λr h=>Bd h λb2 a h=>Cg b2 [] [] (λb2=>[(2,.b b2)]) Ze Zf ?_ ?_
 .refine G0 4 Z (Is 5 a Z (λ_ a=>?_) (λ_ a=>?_))
  iterate 2 exact Gl 5 Z a []
 exact QG 1 Z h 2 []
def NV(e:Bp)(d:Int):AB (Bn Int (Bn Unit Int)):=(bif d<(AI e.AR:Int) then AH (Bt e.AR d) λa=>AH ((bif a.Ag<0 then AC AE else(bif 40<=a.Ag then AC AE else(bif a.AT<0 then AC AE else(bif 255<a.AT then AC AE else AH (IU n a.As) λf=>(bif (!f)then AC AE else(bif 0<d then AH (Bt e.AR (i64.wrap (d-1))) λg=>AH (Ll n g a) λh=>AC (!h)else AC AD)))))):AB Bool) λi=>(bif i then AC (.d (.d 160))else AC (.k (i64.wrap (d+1))))else AC (.d (.k ())))
def SH(n:Nat)(e:Bp)(d:Int)(a:Int):AB (Bn Int (Bn Unit (Bn Int (Bn Unit Int)))):=(bif a<=(AI e.AR:Int) then AH (AH (Bt e.BB d) λf=>AH (Bt f a) λg=>(bif g<(-2199023255552) then AC AE else AH (Bt e.BB d) λh=>AH (Bt h a) λi=>AC (AG (2199023255552<i))):AB Bool) λj=>(bif j then AC (.d (.d (.d (.d 160))))else AC (.k (i64.wrap (a+1))))else AC (.d (.k ())))
def NK(e:Bp)(a:Int):AB (Bn Int (Bn Unit Int)):=(bif a<=(AI e.AR:Int) then AH (AH (Bt e.BB a) λf=>(bif ((AI f:Int) != (i64.wrap ((AI e.AR:Int)+1)))then AC AE else AH (Bt e.BB a) λg=>AH (Bt g a) λh=>AC (h != 0)):AB Bool) λi=>(bif i then AC (.d (.d 160))else AH (iter (SH n e a) n 0:AB (Bn Unit (Bn Int (Bn Unit Int)))) λj=>match j with|.k d=>(AC (.k (i64.wrap (a+1))))|.d d=>AC d)else AC (.d (.k ())))
def SB(n:Nat)(f:Bp)(d:Int)(e:Int)(a:Int):AB (Bn Int (Bn Unit (Bn Int (Bn Unit (Bn Int (Bn Unit Int)))))):=(bif a<=(AI f.AR:Int) then AH (Bt f.BB d) λg=>AH (Bt g a) λh=>AH (Bt f.BB d) λi=>AH (Bt i e) λj=>AH (Bt f.BB e) λk=>AH (Bt k a) λl=>(bif (i64.wrap (j+l))<h then AC (.d (.d (.d (.d (.d (.d 160))))))else AC (.k (i64.wrap (a+1))))else AC (.d (.k ())))
def SK(g:Bp)(e:Int)(a:Int):AB (Bn Int (Bn Unit (Bn Int (Bn Unit Int)))):=(bif a<=(AI g.AR:Int) then AH (iter (SB n g e a) n 0:AB (Bn Unit (Bn Int (Bn Unit (Bn Int (Bn Unit Int)))))) λf=>match f with|.k d=>(AC (.k (i64.wrap (a+1))))|.d d=>AC d else AC (.d (.k ())))
def M'(f:Bp)(a:Int):AB (Bn Int (Bn Unit Int)):=(bif a<=(AI f.AR:Int) then AH (iter (SK n f a) n 0:AB (Bn Unit (Bn Int (Bn Unit Int)))) λe=>match e with|.k d=>(AC (.k (i64.wrap (a+1))))|.d d=>AC d else AC (.d (.k ())))
def Ly(e:Bp):AB Int:=AH ((bif 511<(AI e.AR:Int) then AC AE else AC ((AI e.BB:Int) != (i64.wrap ((AI e.AR:Int)+1)))):AB Bool) λb2=>(bif b2 then AC 160 else AH (iter (NV n e) n 0:AB (Bn Unit Int)) λi=>match i with|.k f=>(AH (iter (NK n e) n 0:AB (Bn Unit Int)) λg=>match g with|.k a=>(AH (iter (M' n e) n 0:AB (Bn Unit Int)) λh=>match h with|.k d=>(AC 0)|.d d=>AC d)|.d a=>AC a)|.d f=>AC f)
theorem Wu(a1:Bp):Ks (Ly n a1) 13 [.a (Bp.c a1)] [] (λr=>I r):=by
 refine Kg 10 func13 Z Z Z Z λr h=>Lg 5 Z Z (Bd h λb2 G h=>Ct b2 [0] [1,3] (λb2=>[(23,.b b2)]) Ze Zf ?_ (λenv H j=>?_))
 .refine G0 4 Z (Is 16 G Z (λ_ G=>?_) (λ_ G=>?_))
  .exact Gl 8 Z G [0]
  .exact Go 2 Z (Lm Z (Gl 5 Z G [0]))
 refine Gx 1 Z (Eg j (Cn Z h (λ_ h=>?_) (λ_ h=>?_)))
 .exact QG 7 Z h 2 []
 refine Gc 8 Z (Bd h λca cb h=>FI (b:=ca) [0] [1,3] Ze Ze Zf ?_ (λch env H s j=>?_))
 .refine G0 1 Z (Lp [0] [1,3] (λau=>[(4,I au)]) Ze cb Zf (Lr [0]) λau cw k J=>?_);refine G0 8 Z (Q8 Z k (λ_ k=>?_) (λ_ k=>?_))
  .exact Gc 2 Z (Qj k (Gx 1 Z (Ji J k Z (Lr [0]))))
  refine Gc 9 Z (Bd k λcx aw k=>Iz aw Z (Go 6 Z (Bd k λL a k=>Ct L [0] [1,3,4] (λL=>[(72,.b L)]) Ze Zf ?_ (λenv H j=>?_))))
  .refine G0 0 Z (C5 35 Z (D 4 Z (Y3 3 a Z Z Z (λ_ a=>?_) (λ_ a=>?_))))
   .exact D 31 Z (Ei Z (Gl 5 Z a [0]))
   .refine D 5 Z (Y3 8 a Z Z Z (λ_ a=>?_) (λ_ a=>?_))
    .exact D 26 Z (Ei Z (Gl 5 Z a [0]))
    .refine D 5 Z (Y3 13 a Z Z Z (λ_ a=>?_) (λ_ a=>?_))
     .exact D 21 Z (Ei Z (Gl 5 Z a [0]))
     .refine D 5 Z (Y3 18 a Z Z Z (λ_ a=>?_) (λ_ a=>?_))
      .exact D 16 Z (Ei Z (Gl 5 Z a [0]))
      .refine D 2 Z ?_;refine Dz [] a (Pz _ _) Z λcy ci a=>D 3 Z (Y3 24 a Z Z Z (λ_ a=>?_) (λ_ a=>?_))
       .exact D 10 Z (Ei Z (Gl 5 Z a [0]))
       .refine D 3 Z (Y3 27 a Z Z Z (λ_ a=>?_) (λ_ a=>?_))
        .refine D 4 Z ?_;obtain⟨y,bd,a⟩:=Q7 a;refine DS.v (x:=(.rp [I y.Ag,I y.AT,I y.As])) (UN (e:=Bk.c) (l:=a1.AR) (v:=y) bd EL EQ) ?_ (hg:=(gT Z));exact D 2 Z (Ei Z (Cz [] a (Wl _ _ _) Z λcz cj a=>Gl 4 Z a [0]))
        .exact D 7 Z (Ei Z (Gl 5 Z a [0]))
  refine Gx 1 Z (Eg j (Cn Z k (λ_ k=>?_) (λ_ k=>?_)))
  .refine Gc 8 Z (Qv k ?_);obtain rfl:=Oj J k;exact Gx 1 Z (Qq (Gx 1 Z (Rt h 2 [])))
  exact Gc 8 Z (Qg k (Lr [0]))
 subst s;refine Gx 1 Z (Eg j (Gc 6 Z (Bd h λbg bh h=>FI (b:=bg) [0] [1,3] Ze Ze Zf ?_ (λcc env H s j=>?_))))
 .refine G0 1 Z (Lp [0] [1,3] (λM=>[(6,I M)]) Ze bh Zf (Lr [0]) λM ck f t=>?_);refine G0 8 Z (Q8 Z f (λ_ f=>?_) (λ_ f=>?_))
  .exact Gc 2 Z (Qj f (Gx 1 Z (Ji t f Z (Lr [0]))))
  refine Gc 6 Z (Bd f λu m f=>Ct u [0] [1,3,6] (λu=>[(97,.b u)]) Ze Zf ?_ (λenv H j=>?_))
  .refine G0 4 Z (Bd m λcl T m=>Iz T Z (Go 1 Z (Lg 4 Z Z (Is 87 m Z (λ_ m=>?_) (λ_ m=>?_)))))
   .exact Gl 11 Z m [0]
   .exact Go 3 Z (Bd m λcm W m=>Iz W Z (Go 2 Z (Bd m λcn X m=>Iz X Z (Gl 4 Z m [0]))))
  refine Gx 1 Z (Eg j (Cn Z f (λ_ f=>?_) (λ_ f=>?_)))
  .refine Gc 9 Z (Qv f ?_);obtain rfl:=Oj t f;exact Gx 1 Z (Qq (Gx 1 Z (Rt h 2 [])))
  refine Gc 7 Z (Bd f λbi bj f=>FI (b:=bi) [0] [1,3,6] Ze Ze Zf ?_ (λcd env H s j=>?_))
  .refine G0 1 Z (Lp [0] [1,3,6] (λN=>[(7,I N)]) Ze bj Zf (Lr [0]) λN co g z=>?_);refine G0 8 Z (Q8 Z g (λ_ g=>?_) (λ_ g=>?_))
   .exact Gc 2 Z (Qj g (Gx 1 Z (Ji z g Z (Lr [0]))))
   refine Gc 5 Z (Bd g λw i g=>Ct w [0] [1,3,6,7] (λw=>[(122,.b w)]) Ze Zf ?_ (λenv H j=>?_))
   .refine G0 4 Z (Bd i λcp ab i=>Iz ab Z (Go 2 Z (Bd i λcq ac i=>Iz ac Z (Go 3 Z (Is 112 i Z (λ_ i=>?_) (λ_ i=>?_))))))
    .exact Gl 11 Z i [0]
    .exact Go 3 Z (Bd i λcr ae i=>Iz ae Z (Go 2 Z (Bd i λcs af i=>Iz af Z (Gl 4 Z i [0]))))
   refine Gx 1 Z (Eg j (Cn Z g (λ_ g=>?_) (λ_ g=>?_)))
   .refine Gc 8 Z (Qv g ?_);obtain rfl:=Oj z g;refine Gx 1 Z (Qq (Gx 2 Z (Qv f ?_)));obtain rfl:=Oj t f;exact Gx 1 Z (Qq (Gx 1 Z (Rt h 2 [])))
   exact Gc 8 Z (Qg g (Lr [0]))
  subst s;exact Gx 2 Z (Eg j (Gc 5 Z (Qg f (Lr [0]))))
 subst s;refine Gx 1 Z (Eg j (Gc 6 Z (Bd h λbk bl h=>DF (b:=bk) [] [] Ze Ze Zf ?_ (λ_ s=>?_))))
 .refine G0 1 Z (Lp [0] [1,3] (λO=>[(8,I O)]) Ze bl Zf (Lr [0]) λO ct p B=>?_);refine G0 8 Z (Q8 Z p (λ_ p=>?_) (λ_ p=>?_))
  .exact Gc 2 Z (Qj p (Gx 1 Z (Ji B p Z (Lr []))))
  refine Gc 9 Z (Bd p λbm bn p=>FI (b:=bm) [0] [1,3,8] Ze Ze Zf ?_ (λcf env H s j=>?_))
  .refine G0 1 Z (Lp [0] [1,3,8] (λP=>[(9,I P)]) Ze bn Zf (Lr [0]) λP cu q E=>?_);refine G0 8 Z (Q8 Z q (λ_ q=>?_) (λ_ q=>?_))
   .exact Gc 2 Z (Qj q (Gx 1 Z (Ji E q Z (Lr [0]))))
   refine Gc 9 Z (Bd q λbo bq q=>FI (b:=bo) [0] [1,3,8,9] Ze Ze Zf ?_ (λcg env H s j=>?_))
   .refine G0 1 Z (Lp [0] [1,3,8,9] (λQ=>[(10,I Q)]) Ze bq Zf (Lr [0]) λQ cv d F=>?_);refine G0 8 Z (Q8 Z d (λ_ d=>?_) (λ_ d=>?_))
    .exact Gc 2 Z (Qj d (Gx 1 Z (Ji F d Z (Lr [0]))))
    refine Gc 5 Z (C5 25 Z (D 3 Z ?_));obtain⟨br,ak,d⟩:=Q7 d;refine DS.wo (x:=.rp [.q 1 (map (Qe .i64) br)]) ?_ ?_
    .exact Ix ak EI EN Z Wp
    refine D 2 Z ?_;obtain⟨bs,al,d⟩:=Q7 d;refine DS.wo (x:=.rp [I bs]) ?_ ?_
    .exact Ix al EE EG Z Wp
    refine D 4 Z ?_;obtain⟨bt,am,d⟩:=Q7 d;refine DS.wo (x:=.rp [.q 1 (map (Qe .i64) bt)]) ?_ ?_
    .exact Ix am EI EN Z Wp
    refine D 2 Z ?_;obtain⟨bu,an,d⟩:=Q7 d;refine DS.wo (x:=.rp [I bu]) ?_ ?_
    .exact Ix an EE EG Z Wp
    refine D 4 Z ?_;obtain⟨bv,ao,d⟩:=Q7 d;refine DS.wo (x:=.rp [.q 1 (map (Qe .i64) bv)]) ?_ ?_
    .exact Ix ao EI EN Z Wp
    refine D 2 Z ?_;obtain⟨bw,aq,d⟩:=Q7 d;refine DS.wo (x:=.rp [I bw]) ?_ ?_
    .exact Ix aq EE EG Z Wp
    refine D 2 Z (Ei Z (Go 3 Z (Cn Z d (λ_ d=>?_) (λ_ d=>?_))))
    .refine Gc 8 Z (Qv d ?_);obtain rfl:=Oj F d;refine Gx 1 Z (Qq (Gx 2 Z (Qv q ?_)));obtain rfl:=Oj E q;refine Gx 1 Z (Qq (Gx 2 Z (Qv p ?_)));obtain rfl:=Oj B p;exact Gx 1 Z (Qq (Gx 1 Z (Rt h 2 [])))
    exact Gc 8 Z (Qg d (Lr [0]))
   subst s;exact Gx 2 Z (Eg j (Gc 5 Z (Qg q (Lr [0]))))
  subst s;exact Gx 2 Z (Eg j (Gc 5 Z (Qg p (Lr [0]))))
 subst s;exact QG 6 Z h 2 []
def Np(e:Bl)(f:Bp)(d:Int)(a:CA):AB (CA×Int):=AH (HT n e) λh=>AH ((bif (h==0)then AH (Ly n f) λw=>AC w else AC h):AB Int) λi=>(bif (i != 0)then AC ({Lo:=0,Hi:=0:CA},i)else AH ((bif d<(-1) then AC AE else(bif (AI f.AR:Int)<=d then AC AE else AH (IU n a.Lo) λj=>(bif (!j)then AC AE else AH (IU n a.Hi) λk=>(bif (!k)then AC AE else AC (AG (a.Hi<a.Lo)))))):AB Bool) λl=>(bif l then AC ({Lo:=0,Hi:=0:CA},1)else(bif (d==(-1))then AC ({Lo:=a.Lo,Hi:=i64.wrap (a.Hi+e.Ak.A6):CA},0)else AH (Bt f.AR d) λg=>AH (Pi n e g.Ag) λm=>(bif (!m)then AC ({Lo:=0,Hi:=0:CA},1)else AH (M9 n e g a.Lo) λp=>AH (Bt f.BB (i64.wrap (d+1))) λq=>AH (Bt q 0) λr=>AH (M9 n e g a.Hi) λs=>AH (Bt f.BB 0) λt=>AH (Bt t (i64.wrap (d+1))) λu=>AC ({Lo:=i64.wrap ((i64.wrap (a.Lo+p.Lo))-r),Hi:=i64.wrap ((i64.wrap (a.Hi+s.Hi))+u):CA},0)))))
theorem jZ(i:Bl)(j:Bp)(w:Int)(e:CA):Kq (Np n i j w e) 10 [.a (Bl.c i),.a (Bp.c j),I w,.a [I e.Lo,I e.Hi]] [] (λr=>.t [.a [I r.1.Lo,I r.1.Hi],I r.2]) (λr=>[.c 40 [I r.1.Lo,I r.1.Hi]]):=by
 refine Kg 12 func10 Z Z Z Z λr h=>Cz [] h (W5 _ _) Z λr1 Y h=>Go 10 Z (Bd h λz k h=>Ct z [0,1,2,3] [2,4,5,7,8] (λz=>[(10,I z)]) Ze Zf ?_ (λenv H Q=>?_))
 .refine G0 0 Z (Cn Z k (λ_ k=>?_) (λ_ k=>?_))
  .exact Gc 2 Z (Cz [] k (Wu _ _) Z λr7 aa k=>Gl 2 Z k [0,1,2,3])
  exact Yy 1 Z k [0,1,2,3]
 refine Gx 1 Z (Eg Q (Gc 7 Z (Cn Z h (λ_ h=>?_) (λ_ h=>?_))))
 .refine Gc 10 Z ?_;obtain rfl:=Oi h;exact Rx [3] [8,9] Z (Qo Z Z (CC.cons (Qf EX EU Z Z Z) (CC.cons C_.tmp CC.nil))) ⟨Z,Z⟩
 refine Gc 4 Z (Bd h λs a h=>Cg s [0,1,2,3] [2,4,5,7,8] (λs=>[(50,.b s)]) Ze Zf ?_ ?_)
 .refine G0 4 Z (Is 25 a Z (λ_ a=>?_) (λ_ a=>?_))
  .exact Gl 26 Z a [0,1,2,3]
  .refine Go 3 Z (Lg 3 Z Z (Is 32 a Z (λ_ a=>?_) (λ_ a=>?_)))
   .exact Gl 19 Z a [0,1,2,3]
   .refine Go 2 Z (Cz [] a (Pz _ _) Z λab V a=>Go 3 Z (Is 38 a Z (λ_ a=>?_) (λ_ a=>?_)))
    .exact Gl 13 Z a [0,1,2,3]
    .refine Go 2 Z (Cz [] a (Pz _ _) Z λac W a=>Go 3 Z (Is 44 a Z (λ_ a=>?_) (λ_ a=>?_)))
     iterate 2 exact Gl 7 Z a [0,1,2,3]
 refine Cn Z h (λ_ h=>?_) (λ_ h=>?_)
 .refine Gc 9 Z ?_;obtain rfl:=Oi h;exact Rx [3] [8,9] Z (Qo Z Z (CC.cons (Qf EX EU Z Z Z) (CC.cons C_.tmp CC.nil))) ⟨Z,Z⟩
 refine Gc 9 Z (Cn Z h (λ_ h=>?_) (λ_ h=>?_))
 .refine Gc 17 Z ?_;obtain rfl:=Oi h;exact Rx [3] [8,9] Z (Qo Z Z (CC.cons (Qf EX EU Z Z Z) (CC.cons C_.tmp CC.nil))) ⟨Z,Z⟩
 refine Gc 7 Z (Bd h λg M h=>Iz M Z (Go 11 Z (Cz [] h (WT _ _ _) Z λad X h=>Go 3 Z (Cn Z h (λ_ h=>?_) (λ_ h=>?_)))))
 .refine Gc 9 Z ?_;obtain rfl:=Oi h;exact Rx [3] [8,9] Z (Qo Z Z (CC.cons (Qf EX EU Z Z Z) (CC.cons C_.tmp CC.nil))) ⟨Z,Z⟩
 refine Gc 10 Z ?_;obtain⟨d,O,h⟩:=Q7 h;obtain⟨x,l,h⟩:=Q7 h;obtain⟨t,m,h⟩:=Q7 h;obtain⟨f,P,h⟩:=Q7 h;obtain⟨y,p,h⟩:=Q7 h;obtain⟨u,q,h⟩:=Q7 h;refine Jf 34 0 [76,77,78,79,80,81,82,83,84,85,86,87,88,89,90,91,92,93,94,95,96,97,98,99,100,101,102,103,104,105,106,107,108,109] [AD,AD,AD,AD,AD,AD,AE,AD,AD,AD,AD,AD,AD,AD,AD,AD,AD,AD,AD,AD,AD,AD,AD,AE,AD,AD,AD,AD,AD,AD,AD,AD,AD,AD] [[],[],[],[],[],[],[],[6],[6],[],[],[],[],[],[],[],[6],[],[],[],[],[],[],[6],[6,23],[6,23],[],[],[],[],[],[],[],[6,23]] [[],[6],[6,23]] [[(0,0),(1,1),(2,2)],[(0,0),(1,1),(2,2)],[(0,0)],[(0,0)],[(0,0)],[(0,0)],[(0,1)],[(1,1),(2,2)],[(1,1),(2,2)],[(0,0),(1,1),(2,2)],[(0,0),(1,1),(2,2)],[(0,0),(1,1),(2,2)],[(0,0),(1,1),(2,2)],[(0,0),(1,1),(2,2)],[(0,0),(1,1),(2,2)],[(0,0),(1,1),(2,2)],[(1,1),(2,2)],[(0,0),(1,1),(2,2)],[(0,0),(1,1),(2,2)],[(0,0),(1,1)],[(0,0),(1,1)],[(0,0),(1,1)],[(0,0),(1,1)],[(1,2)],[(2,2)],[(2,2)],[(0,0),(1,1),(2,2)],[(0,0),(1,1),(2,2)],[(0,0),(1,1),(2,2)],[(0,0),(1,1),(2,2)],[(0,0),(1,1),(2,2)],[(0,0),(1,1),(2,2)],[(0,0),(1,1),(2,2)],[(2,2)]] [.p 2 0,I e.Lo,.a (Bl.c i),.a (Bk.c g),.p 2 0,I e.Lo,.a [I d.Lo,I d.Hi],I d.Lo,I (i64.wrap (e.Lo+d.Lo)),.p 1 1,.q 1 (map (Qw 1 (Qe .i64)) j.BB),I (i64.wrap (w+1)),.rp [.q 1 (map (Qe .i64) x)],.q 1 (map (Qe .i64) x),.rp [I t],I t,I (i64.wrap ((i64.wrap (e.Lo+d.Lo))-t)),.p 2 1,I e.Hi,.a (Bl.c i),.a (Bk.c g),.p 2 1,I e.Hi,.a [I f.Lo,I f.Hi],I f.Hi,I (i64.wrap (e.Hi+f.Hi)),.p 1 1,.q 1 (map (Qw 1 (Qe .i64)) j.BB),.rp [.q 1 (map (Qe .i64) y)],.q 1 (map (Qe .i64) y),I (i64.wrap (w+1)),.rp [I u],I u,I (i64.wrap ((i64.wrap (e.Hi+f.Hi))+u))] [[.c 33 (Bl.c i),.c 38 (Bp.c j),.c 40 [I e.Lo,I e.Hi],.c 40 [I 0,I 0],.c 55 (Bk.c g)],[.c 33 (Bl.c i),.c 38 (Bp.c j),.c 40 [I e.Lo,I e.Hi],.c 40 [I 0,I 0],.c 55 (Bk.c g),.c 40 [I d.Lo,I d.Hi]],[.c 33 (Bl.c i),.c 38 (Bp.c j),.c 40 [I e.Lo,I e.Hi],.c 40 [I 0,I 0],.c 55 (Bk.c g),.c 40 [I d.Lo,I d.Hi],.c 40 [I f.Lo,I f.Hi]]] ([.c 33 (Bl.c i),.c 38 (Bp.c j),.c 40 [I e.Lo,I e.Hi],.c 40 [I 0,I 0],.c 55 (Bk.c g),.c 40 [I d.Lo,I d.Hi],.c 40 [I f.Lo,I f.Hi]]) DL Z Z Z Z Z Z Z ?_ Z ?_
 .refine B7.cons (Qb (v0 Z Z) (Qb (v0 Z Z) (Qb (v0 Z Z) (Qd)))) (B7.cons (Qb (v0 Z Z) (Qb (v0 Z Z) (Qb (v0 Z Z) (Qd)))) (B7.cons (Qb (v0 Z Z) (Qd)) (B7.cons (Qb (v0 Z Z) (Qd)) (B7.cons (Qb (v0 Z Z) (Qd)) (B7.cons (Qb (v0 Z Z) (Qd)) (B7.cons ?_ (B7.cons ?_ (B7.cons ?_ (B7.cons (Qb (v0 Z Z) (Qb (v0 Z Z) (Qb (v0 Z Z) (Qd)))) (B7.cons (Qb (v0 Z Z) (Qb (v0 Z Z) (Qb (v0 Z Z) (Qd)))) (B7.cons (Qb (v0 Z Z) (Qb (v0 Z Z) (Qb (v0 Z Z) (Qd)))) (B7.cons ?_ (B7.cons (Qb (v0 Z Z) (Qb (v0 Z Z) (Qb (v0 Z Z) (Qd)))) (B7.cons ?_ (B7.cons (Qb (v0 Z Z) (Qb (v0 Z Z) (Qb (v0 Z Z) (Qd)))) (B7.cons ?_ (B7.cons (Qb (v0 Z Z) (Qb (v0 Z Z) (Qb (v0 Z Z) (Qd)))) (B7.cons (Qb (v0 Z Z) (Qb (v0 Z Z) (Qb (v0 Z Z) (Qd)))) (B7.cons (Qb (v0 Z Z) (Qb (v0 Z Z) (Qd))) (B7.cons (Qb (v0 Z Z) (Qb (v0 Z Z) (Qd))) (B7.cons (Qb (v0 Z Z) (Qb (v0 Z Z) (Qd))) (B7.cons (Qb (v0 Z Z) (Qb (v0 Z Z) (Qd))) (B7.cons ?_ (B7.cons ?_ (B7.cons ?_ (B7.cons (Qb (v0 Z Z) (Qb (v0 Z Z) (Qb (v0 Z Z) (Qd)))) (B7.cons (Qb (v0 Z Z) (Qb (v0 Z Z) (Qb (v0 Z Z) (Qd)))) (B7.cons ?_ (B7.cons (Qb (v0 Z Z) (Qb (v0 Z Z) (Qb (v0 Z Z) (Qd)))) (B7.cons (Qb (v0 Z Z) (Qb (v0 Z Z) (Qb (v0 Z Z) (Qd)))) (B7.cons ?_ (B7.cons (Qb (v0 Z Z) (Qb (v0 Z Z) (Qb (v0 Z Z) (Qd)))) (B7.cons ?_ (B7.nil))))))))))))))))))))))))))))))))))
  .refine Qb ?_ (Qd)
   .refine IB Z (sD 2 (sD 3 (sD 5 sN))) ?_;refine Qs [] (DN.fn call33 Z Z Z) (WY _ _ _ _ _ O) ?_;rintro _ _ ⟨rfl,rfl⟩;exact FE Z Wp
  .refine Qb ?_ (Qb ?_ (Qd))
   iterate 2 refine Om Z (sD 6 sN) ?_;refine vX (I d.Lo) (f9 tM E3 Z EK) ?_;exact Wp
  .refine Qb ?_ (Qb ?_ (Qd))
   iterate 2 refine Om Z (sD 1 (sD 7 sN)) ?_;exact S Z Wp
  .refine Qb ?_ (Qb ?_ (Qb ?_ (Qd)))
   iterate 3 refine Om Z (sD 10 (sD 11 sN)) ?_;exact Ix l EI EN Z Wp
  .refine Qb ?_ (Qb ?_ (Qb ?_ (Qd)))
   iterate 3 refine Om Z (sD 13 sN) ?_;exact Ix m EE EG Z Wp
  .refine Qb ?_ (Qb ?_ (Qd))
   iterate 2 refine Om Z (sD 8 (sD 15 sN)) ?_;exact S Z Wp
  .refine Qb ?_ (Qd)
   .refine IB Z (sD 19 (sD 20 (sD 22 sN))) ?_;refine Qs [] (DN.fn call33 Z Z Z) (WY _ _ _ _ _ P) ?_;rintro _ _ ⟨rfl,rfl⟩;exact FE Z Wp
  .refine Qb ?_ (Qd)
   .refine Om Z (sD 23 sN) ?_;refine vX (I f.Hi) (f9 qH E3 Z EK) ?_;exact Wp
  .refine Qb ?_ (Qd)
   .refine Om Z (sD 18 (sD 24 sN)) ?_;exact S Z Wp
  .refine Qb ?_ (Qb ?_ (Qb ?_ (Qd)))
   iterate 3 refine Om Z (sD 27 sN) ?_;exact Ix p EI EN Z Wp
  .refine Qb ?_ (Qb ?_ (Qb ?_ (Qd)))
   iterate 3 refine Om Z (sD 29 (sD 30 sN)) ?_;exact Ix q EE EG Z Wp
  .refine Qb ?_ (Qd)
   .refine Om Z (sD 25 (sD 32 sN)) ?_;exact S Z Wp
 refine Go 6 Z ?_;obtain rfl:=Oi h;exact Rx [3] [8,9] Z (Qo Z Z (CC.cons (Qf EX EU Z Z Z) (CC.cons C_.tmp CC.nil))) ⟨Z,Z⟩
def bP(n:Nat)(d:AA Bk)(g:AA Bk)(a:Int):AB (Bn Int (Bn Unit Bool)):=(bif a<(AI d:Int) then AH (Bt d a) λe=>AH (Bt g a) λf=>(bif (e != f)then AC (.d (.d AD))else AC (.k (i64.wrap (a+1))))else AC (.d (.k ())))
def S_(d:AA Bk)(e:AA Bk):AB Bool:=(bif ((AI d:Int) != (AI e:Int))then AC AD else AH (iter (bP n d e) n 0:AB (Bn Unit Bool)) λf=>match f with|.k a=>(AC AE)|.d a=>AC a)
theorem i6(m:AA Bk)(s:AA Bk):Ks (S_ n m s) 34 [.q 3 (map Bk.c m),.q 3 (map Bk.c s)] [] (λr=>.b r):=by
 refine Kg 9 func34 Z Z Z Z λr h=>Lg 1 Z Z (Lg 3 Z Z (Cn Z h (λ_ h=>?_) (λ_ h=>?_)))
 .exact QG 7 Z h 4 []
 refine Gc 8 Z (Bd h λu w h=>DF (b:=u) [] [] Ze Ze Zf ?_ (λ_ y=>?_))
 .refine G0 1 Z (Lp [] [0,1] (λg=>[(5,I g)]) Ze w Zf (Lr []) λg B a f=>?_);refine G0 5 Z (Lg 3 Z Z (Q8 Z a (λ_ a=>?_) (λ_ a=>?_)))
  .exact Gc 2 Z (Qj a (Gx 1 Z (Ji f a Z (Lr []))))
  refine Gc 5 Z (C5 8 Z (D 2 Z ?_));obtain⟨d,j,a⟩:=Q7 a;refine DS.wo (x:=.rp [I d.Ag,I d.AT,I d.As]) ?_ ?_
  .exact Ix j EL EQ Z Wp
  refine D 3 Z ?_;obtain⟨e,k,a⟩:=Q7 a;refine DS.wo (x:=.rp [I e.Ag,I e.AT,I e.As]) ?_ ?_
  .exact Ix k EL EQ Z Wp
  refine D 1 Z (Ei Z ?_);refine vX (.b (d != e)) (fq (p:=d) (q:=e) vP Z Z) ?_;refine Go 2 Z (Cn Z a (λ_ a=>?_) (λ_ a=>?_))
  .refine Gc 8 Z (Qv a ?_);obtain rfl:=Oj f a;exact Gx 1 Z (Qq (Gx 1 Z (Rt h 4 [])))
  exact Gc 8 Z (Qg a (Lr []))
 subst y;exact QG 6 Z h 4 []
def bO(n:Nat)(d:AA Int)(g:AA Int)(a:Int):AB (Bn Int (Bn Unit Bool)):=(bif a<(AI d:Int) then AH (Bt d a) λe=>AH (Bt g a) λf=>(bif (e != f)then AC (.d (.d AD))else AC (.k (i64.wrap (a+1))))else AC (.d (.k ())))
def S3(d:AA Int)(e:AA Int):AB Bool:=(bif ((AI d:Int) != (AI e:Int))then AC AD else AH (iter (bO n d e) n 0:AB (Bn Unit Bool)) λf=>match f with|.k a=>(AC AE)|.d a=>AC a)
theorem ir(k:AA Int)(l:AA Int):Ks (S3 n k l) 35 [.q 1 (map (Qe .i64) k),.q 1 (map (Qe .i64) l)] [] (λr=>.b r):=by
 refine Kg 9 func35 Z Z Z Z λr h=>Lg 1 Z Z (Lg 3 Z Z (Cn Z h (λ_ h=>?_) (λ_ h=>?_)))
 .exact QG 7 Z h 4 []
 refine Gc 8 Z (Bd h λp q h=>DF (b:=p) [] [] Ze Ze Zf ?_ (λ_ s=>?_))
 .refine G0 1 Z (Lp [] [0,1] (λe=>[(5,I e)]) Ze q Zf (Lr []) λe y a d=>?_);refine G0 5 Z (Lg 3 Z Z (Q8 Z a (λ_ a=>?_) (λ_ a=>?_)))
  .exact Gc 2 Z (Qj a (Gx 1 Z (Ji d a Z (Lr []))))
  refine Gc 5 Z (C5 8 Z (D 2 Z ?_));obtain⟨t,g,a⟩:=Q7 a;refine DS.wo (x:=.rp [I t]) ?_ ?_
  .exact Ix g EE EG Z Wp
  refine D 3 Z ?_;obtain⟨u,i,a⟩:=Q7 a;refine DS.wo (x:=.rp [I u]) ?_ ?_
  .exact Ix i EE EG Z Wp
  refine D 1 Z (Ei Z (Go 3 Z (Cn Z a (λ_ a=>?_) (λ_ a=>?_))))
  .refine Gc 8 Z (Qv a ?_);obtain rfl:=Oj d a;exact Gx 1 Z (Qq (Gx 1 Z (Rt h 4 [])))
  exact Gc 8 Z (Qg a (Lr []))
 subst s;exact QG 6 Z h 4 []
def NM(d:Bp)(h:Bp)(a:Int):AB (Bn Int (Bn Unit Bool)):=(bif a<(AI d.BB:Int) then AH (Bt d.BB a) λe=>AH (Bt h.BB a) λf=>AH (S3 n e f) λg=>(bif (!g)then AC (.d (.d AD))else AC (.k (i64.wrap (a+1))))else AC (.d (.k ())))
def Nm(d:Bp)(e:Bp):AB Bool:=AH (AH (S_ n d.AR e.AR) λg=>(bif (!g)then AC AE else AC ((AI d.BB:Int) != (AI e.BB:Int))):AB Bool) λh=>(bif h then AC AD else AH (iter (NM n d e) n 0:AB (Bn Unit Bool)) λf=>match f with|.k a=>(AC AE)|.d a=>AC a)
theorem jX(m:Bp)(p:Bp):Ks (Nm n m p) 11 [.a (Bp.c m),.a (Bp.c p)] [] (λr=>.b r):=by
 refine Kg 9 func11 Z Z Z Z λr h=>Bd h λg d h=>Ct g [0,1] [2,3] (λg=>[(20,.b g)]) Ze Zf ?_ (λenv H q=>?_)
 .refine G0 5 Z (Cz [] d (i6 _ _ _) Z λM G d=>Go 2 Z (Is 12 d Z (λ_ d=>?_) (λ_ d=>?_)))
  .exact Gl 9 Z d [0,1]
  .exact Go 2 Z (Lg 2 Z Z (Lm Z (Gl 3 Z d [0,1])))
 refine Gx 1 Z (Eg q (Cn Z h (λ_ h=>?_) (λ_ h=>?_)))
 .exact QG 7 Z h 4 []
 refine Gc 8 Z (Bd h λu w h=>DF (b:=u) [] [] Ze Ze Zf ?_ (λ_ y=>?_))
 .refine G0 1 Z (Lp [0,1] [2,3] (λf=>[(5,I f)]) Ze w Zf (Lr [0,1]) λf J a e=>?_);refine G0 6 Z (Lg 3 Z Z (Q8 Z a (λ_ a=>?_) (λ_ a=>?_)))
  .exact Gc 2 Z (Qj a (Gx 1 Z (Ji e a Z (Lr []))))
  refine Gc 5 Z (C5 10 Z (D 3 Z ?_));obtain⟨z,j,a⟩:=Q7 a;refine DS.wo (x:=.rp [.q 1 (map (Qe .i64) z)]) ?_ ?_
  .exact Ix j EI EN Z Wp
  refine D 4 Z ?_;obtain⟨B,k,a⟩:=Q7 a;refine DS.wo (x:=.rp [.q 1 (map (Qe .i64) B)]) ?_ ?_
  .exact Ix k EI EN Z Wp
  refine D 1 Z (Ei Z (Cz [] a (ir _ _ _) Z λL F a=>Go 3 Z (Cn Z a (λ_ a=>?_) (λ_ a=>?_))))
  .refine Gc 8 Z (Qv a ?_);obtain rfl:=Oj e a;exact Gx 1 Z (Qq (Gx 1 Z (Rt h 4 [])))
  exact Gc 8 Z (Qg a (Lr [0,1]))
 subst y;exact QG 6 Z h 4 []
def Sr(a:Bl)(j:AA Bm)(d:Bp)(k:Int)(i:CA):AB Bool:=AH (Sc 300) λs=>(bif (!s)then AC AD else AH (AH (N3 n a) λt=>(bif (!t)then AC AE else(bif 14<(AI j:Int) then AC AE else AH (OQ n d) λl=>AC (!l))):AB Bool) λu=>(bif u then AC AE else AH (Kb n a j) λe=>AH (IQ n a j) λf=>AH (Lj n a d k ({Lo:=i.Lo,Hi:=i.Hi:CA})) λg=>AH (Np n a d k ({Lo:=i.Lo,Hi:=i.Hi:CA})) λh=>AH (AH (Nm n ({AR:=e.1,BB:=e.2.1:Bp}) ({AR:=f.1,BB:=f.2.1:Bp})) λm=>(bif m then(bif (e.2.2==f.2.2)then AH (IY n d) λp=>AH (Ly n d) λq=>(bif (p==q)then(bif (({Lo:=g.1.Lo,Hi:=g.1.Hi:CA})==({Lo:=h.1.Lo,Hi:=h.1.Hi:CA}))then AC (g.2==h.2)else AC AD)else AC AD)else AC AD)else AC AD):AB Bool) λr=>AC r))
theorem ie(y:Bl)(z:AA Bm)(B:Bp)(E:Int)(i:CA):Ks (Sr n y z B E i) 3 [.a (Bl.c y),.q 57 (map Bm.c z),.a (Bp.c B),I E,.a [I i.Lo,I i.Hi]] [] (λr=>.b r):=by
 refine Kg 11 func3 Z Z Z Z λr h=>Cz [] h (iO _) Z λr1 T h=>Go 3 Z (Cn Z h (λ_ h=>?_) (λ_ h=>?_))
 .exact QG 7 Z h 10 []
 refine Gc 4 Z (Bd h λj d h=>Ct j [0,1,2] [1,3,5,7,9] (λj=>[(33,.b j)]) Ze Zf ?_ (λenv H G=>?_))
 .refine G0 2 Z (Cz [] d (jn _ _) Z λr9 V d=>Go 2 Z (Is 24 d Z (λ_ d=>?_) (λ_ d=>?_)))
  .exact Gl 10 Z d [0,1,2]
  .refine Go 1 Z (Lg 3 Z Z (Is 29 d Z (λ_ d=>?_) (λ_ d=>?_)))
   .exact Gl 5 Z d [0,1,2]
   .exact Go 1 Z (Cz [] d (kD _ _) Z λW J d=>Gl 3 Z d [0,1,2])
 refine Gx 1 Z (Eg G (Cn Z h (λ_ h=>?_) (λ_ h=>?_)))
 .exact QG 7 Z h 10 []
 refine Gc 6 Z (Cd [] h (dM _ _ _) Z λX L h=>Fg 12 Z Z (Cd [] h (kV _ _ _) Z λY M h=>Fg 14 Z Z (Cd [] h (Wi _ _ _ _ _) Z λe N h=>Fg 14 Z Z (Cd [] h (jZ _ _ _ _ _) Z λf O h=>Fg 9 Z Z (Bd h λg a h=>Cg g [] [] (λg=>[(10,.b g)]) Ze Zf ?_ ?_)))))
 .refine G0 0 Z (C5 23 Z (D 2 Z ?_));refine Dz [] a (jX _ _ _) Z λaa P a=>D 1 Z (Y3 3 a Z Z Z (λ_ a=>?_) (λ_ a=>?_))
  .refine D 5 Z (Y3 8 a Z Z Z (λ_ a=>?_) (λ_ a=>?_))
   .refine D 1 Z ?_;refine Dz [] a (Me _ _) Z λab Q a=>D 1 Z ?_;refine Dz [] a (Wu _ _) Z λac R a=>D 3 Z (Y3 15 a Z Z Z (λ_ a=>?_) (λ_ a=>?_))
    .refine D 2 Z ?_;refine DS.v (x:=(.b (({Lo:=e.1.Lo,Hi:=e.1.Hi:CA})==({Lo:=f.1.Lo,Hi:=f.1.Hi:CA})))) (fp (p:={Lo:=e.1.Lo,Hi:=e.1.Hi:CA}) (q:={Lo:=f.1.Lo,Hi:=f.1.Hi:CA}) lQ Z Z) ?_ (hg:=(gT Z));refine D 2 Z (Y3 20 a Z Z Z (λ_ a=>?_) (λ_ a=>?_))
     iterate 2 exact D 2 Z (Ei Z (Gl 4 Z a []))
    .exact D 7 Z (Ei Z (Gl 4 Z a []))
   .exact D 14 Z (Ei Z (Gl 4 Z a []))
  .exact D 19 Z (Ei Z (Gl 4 Z a []))
 exact QG 1 Z h 10 []
end Go.Sw
