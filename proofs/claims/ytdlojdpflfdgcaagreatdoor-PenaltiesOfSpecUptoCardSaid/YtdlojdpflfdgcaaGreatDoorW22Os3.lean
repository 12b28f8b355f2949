/- What the functions compute that PenaltiesOfSpec reaches, and that their calls refine it (part 3 of 5). -/
import Derived.Test.YtdlojdpflfdgcaaGreatDoorW22Os2
set_option linter.unusedVariables false
set_option linter.unusedSimpArgs false
set_option maxRecDepth 100000
set_option maxHeartbeats 4000000
namespace Go.Sw
variable (n:Nat)
open List(map)
open Int(toNat)
open Go.IntKind(i64 u64 u8)
open Go.Proofs Tryz
def PY(n:Nat)(e:AA Report)(a:(AA (Int×Report))×(AA (Int×Bool))×Int):AB (AG ((AA (Int×Report))×(AA (Int×Bool))×Int) ((AA (Int×Report))×(AA (Int×Bool)))):=(bif a.2.2<(e.length:Int) then(AJ e a.2.2).bind λd=>(some (QR a.1 d.Case d)).bind λf=>(some (QR a.2.1 d.Case true)).bind λg=>some (.k (f,g,i64.wrap (a.2.2+1)))else some (.d (a.1,a.2.1)))
def Pd(n:Nat)(e:AA Ruling)(a:(AA (Int×Ruling))×(AA (Int×Bool))×Int):AB (AG ((AA (Int×Ruling))×(AA (Int×Bool))×Int) ((AA (Int×Ruling))×(AA (Int×Bool)))):=(bif a.2.2<(e.length:Int) then(AJ e a.2.2).bind λd=>(some (QR a.1 d.Case d)).bind λf=>(some (QR a.2.1 d.Case true)).bind λg=>some (.k (f,g,i64.wrap (a.2.2+1)))else some (.d (a.1,a.2.1)))
def Ih(p:AE)(m:(AA (Int×Report))×(AA (Int×Bool)))(i:(AA (Int×Ruling))×(AA (Int×Bool)))(y:AA (Int×Uc))(q:AA Int)(e:Int):AB ((AA Ud)×AG Int Unit):=(bif e<(q.length:Int) then(AJ q e).bind λa=>(some (QH i.1 a Ux)).bind λd=>O0 (Yv y d.Kind) (((bif JY i.1 a then some ()else some ()):AB Unit).bind λz=>((bif JY i.1 a then some (d.Kind==2)else some false):AB Bool).bind λr=>(bif r then some ([],.k (i64.wrap (e+1)))else(some (QH m.1 a Uw)).bind λf=>((bif (!(JY m.1 a))then some true else(bif f.Offence<0 then some true else some (decide ((p.Offences.length:Int)<=f.Offence)))):AB Bool).bind λs=>(bif s then some ([],.k (i64.wrap (e+1)))else(AJ p.Offences f.Offence).bind λj=>yl ({number:=a,bib:=f.Bib,penalty:={Position:=f.Position,Time:=j.Time,Laps:=j.Laps,Out:=j.Out:AD}:Ud}) (some ([],.k (i64.wrap (e+1))))))) λk=>((bif JY i.1 a then some true else some false):AB Bool).bind λt=>((bif t then(bif (k.penalty==115)then(Zt n d).bind λB=>some (.k ({number:=a,bib:=d.Bib,penalty:={Position:=d.Position,Time:=d.Amount,Laps:=0,Out:=false:AD}:Ud}))else(bif (k.penalty==116)then(ZK n d).bind λE=>some (.k ({number:=a,bib:=d.Bib,penalty:={Position:=d.Position,Time:=0,Laps:=d.Amount,Out:=false:AD}:Ud}))else(bif (k.penalty==117)then(Zk n d).bind λF=>some (.k ({number:=a,bib:=d.Bib,penalty:={Position:=d.Position,Time:=0,Laps:=0,Out:=true:AD}:Ud}))else none)))else((bif JY i.1 a then some (d.Kind==2)else some false):AB Bool).bind λu=>(bif u then some (.d ([],.k (i64.wrap (e+1))))else(some (QH m.1 a Uw)).bind λg=>((bif (!(JY m.1 a))then some true else(bif g.Offence<0 then some true else some (decide ((p.Offences.length:Int)<=g.Offence)))):AB Bool).bind λw=>(bif w then some (.d ([],.k (i64.wrap (e+1))))else(AJ p.Offences g.Offence).bind λl=>some (.k ({number:=a,bib:=g.Bib,penalty:={Position:=g.Position,Time:=l.Time,Laps:=l.Laps,Out:=l.Out:AD}:Ud}))))):AB (AG Ud ((AA Ud)×AG Int Unit))).bind λx=>match x with|.k h=>(yl h (some ([],.k (i64.wrap (e+1)))))|.d h=>some h else some ([],.d ()))
def L'(e:AA AC)(i:AE):AB ((AA Ud)×Unit):=(MW n e).bind λj=>(iter (PY n j) n ([],[],0):AB ((AA (Int×Report))×(AA (Int×Bool)))).bind λd=>(Ly n e).bind λf=>(iter (Pd n f) n ([],d.2,0):AB ((AA (Int×Ruling))×(AA (Int×Bool)))).bind λa=>(Zd n).bind λg=>(RC n a.2).bind λl=>(R_ n a.2).bind λh=>ap (KL (Ih n i d a g h) n 0) λk=>some ([],())
theorem g_(R:AA AC)(T:AE)(p:(AA Ud)×Unit)(h:L' n R T=some p):K4 prog 44 [.ptr 0 0,.ptr 1 0] [.cells 34 [.rsl 57 (map AC.c R)],.cells 33 (AE.c T)] (λx=>[.agg (Ud.c x)]) N3 p.1:=by
 obtain⟨xs,u⟩:=p;refine su func44 Z Z Z Z ?_;intro X hE hN;refine TF 1 Z (An.lf ?_);refine G0 1 Z (vH Yn ?_);refine FE Z (vH Yn ?_);refine Fg 3 Z Z ?_;refine B6 2 Z (An.lf ?_);refine G0 1 Z (vH Yn ?_);refine Fg 2 Z Z ?_;refine B6 2 Z (An.lf ?_);refine G0 3 Z (Cd [] h (iP _ _) Z λr1 cy h=>Fg 4 Z Z (Bd h λm ci h=>Ct m [0,1,2,3,4] [0,1,2,4,5,6] Ze (λm=>[(2,.map (Qt (λx=>A.int .i64 x) (λx=>A.agg (Report.c x)) m.1)),(4,.map (Qt (λx=>A.int .i64 x) A.bool m.2))]) Zf ?_ (λenv H j=>?_)))
 .refine G0 1 Z (Lp [0,1,2,3,4,5] [0,1,2,4,5,6,26,27] (λE=>[(28,I E.2.2)]) (λE=>[(2,.map (Qt (λx=>A.int .i64 x) (λx=>A.agg (Report.c x)) E.1)),(4,.map (Qt (λx=>A.int .i64 x) A.bool E.2.1))]) ci Zf (Lr [0,1,2,3,4,5]) λE cz s bq=>?_);refine G0 6 Z (Q5 Z s (λ_ s=>?_) (λ_ s=>?_))
  .exact Gc 2 Z (Qi s (Gx 1 Z (JC bq s (Lr [0,1,2,3,4]))))
  refine Gc 6 Z (Bd s λP am s=>?_);refine vX (.ptr 5 (toNat E.2.2*4)) (Qn am Z ET E6) ?_;refine vX (.agg (Report.c P)) (Qv Z GL E6 Z (Qj am) Z Z) ?_;refine Go 4 Z (FC 8 [7] [(0,0,0),(0,0,0),(0,0,0),(0,0,1),(0,0,1),(0,0,1),(0,0,0),(1,0,0)] (by kernel_rfl) (Dk 5 Z ?_));refine Fb (lo:=0) (x:=I P.Case) ⟨Z,trivial⟩ ?_;refine Dk 1 Z ?_;obtain⟨bo,bs,s⟩:=YE s;refine DK.un (X1:=[.cells 34 [.rsl 57 (map AC.c R)],.cells 33 (AE.c T),.map (Qt (λx=>A.int .i64 x) (λx=>A.agg (Report.c x)) bo),.map (Qt (λx=>A.int .i64 x) (λx=>A.agg (Ruling.c x)) []),.map (Qt (λx=>A.int .i64 x) A.bool E.2.1),.row 62 4 (map Report.c r1),.cells 62 (Report.c P)]) ?_ ?_
  .refine vU (Yl (ev:=(λx=>A.agg (Report.c x))) (k:=P.Case) (v:=P) (l:=E.1) Ja bs Z GN) ?_;refine Ng (H:=[_,_,.map (Qt (λx=>A.int .i64 x) (λx=>A.agg (Report.c x)) bo),_,_,_,_]) Z ?_;exact Wp
  refine DK.done Z Z (Bd s λda bt s=>?_);refine vU (Yl (ev:=A.bool) (k:=P.Case) (v:=true) (l:=E.2.1) Ja bt Z Gs) ?_;exact Fg 7 Z Z (Qg s (Lr [0,1,2,3,4,5]))
 refine B6 1 Z (WS j (l4 1 Z (An.lf ?_)));refine G0 3 Z (Cd [] h (gm _ _) Z λcj cl h=>Fg 4 Z Z (Bd h λw ck h=>Ct w [0,1,2,3,4] [0,2,4,5,6] Ze (λw=>[(3,.map (Qt (λx=>A.int .i64 x) (λx=>A.agg (Ruling.c x)) w.1)),(4,.map (Qt (λx=>A.int .i64 x) A.bool w.2))]) Zf ?_ (λenv H j=>?_)))
 .refine G0 1 Z (Lp [0,1,2,3,4,5] [0,2,4,5,6,41,42] (λF=>[(43,I F.2.2)]) (λF=>[(3,.map (Qt (λx=>A.int .i64 x) (λx=>A.agg (Ruling.c x)) F.1)),(4,.map (Qt (λx=>A.int .i64 x) A.bool F.2.1))]) ck Zf (Lr [0,1,2,3,4,5]) λF db t bu=>?_);refine G0 6 Z (Q5 Z t (λ_ t=>?_) (λ_ t=>?_))
  .exact Gc 2 Z (Qi t (Gx 1 Z (JC bu t (Lr [0,1,2,3,4]))))
  refine Gc 6 Z (Bd t λQ an t=>?_);refine vX (.ptr 5 (toNat F.2.2*6)) (Qn an Z Gp E7) ?_;refine vX (.agg (Ruling.c Q)) (Qv Z GB E7 Z (Qj an) Z Z) ?_;refine Go 4 Z (FC 8 [7] [(0,0,0),(0,0,0),(0,0,0),(0,0,1),(0,0,1),(0,0,1),(0,0,0),(1,0,0)] (by kernel_rfl) (Dk 5 Z ?_));refine Fb (lo:=0) (x:=I Q.Case) ⟨Z,trivial⟩ ?_;refine Dk 1 Z ?_;obtain⟨bp,bw,t⟩:=YE t;refine DK.un (X1:=[.cells 34 [.rsl 57 (map AC.c R)],.cells 33 (AE.c T),.map (Qt (λx=>A.int .i64 x) (λx=>A.agg (Report.c x)) m.1),.map (Qt (λx=>A.int .i64 x) (λx=>A.agg (Ruling.c x)) bp),.map (Qt (λx=>A.int .i64 x) A.bool F.2.1),.row 66 6 (map Ruling.c cj),.cells 66 (Ruling.c Q)]) ?_ ?_
  .refine vU (Yl (ev:=(λx=>A.agg (Ruling.c x))) (k:=Q.Case) (v:=Q) (l:=F.1) Ja bw Z underlying133) ?_;refine Ng (H:=[_,_,_,.map (Qt (λx=>A.int .i64 x) (λx=>A.agg (Ruling.c x)) bp),_,_,_]) Z ?_;exact Wp
  refine DK.done Z Z (Bd t λdc bx t=>?_);refine vU (Yl (ev:=A.bool) (k:=Q.Case) (v:=true) (l:=F.2.1) Ja bx Z Gs) ?_;exact Fg 7 Z Z (Qg t (Lr [0,1,2,3,4,5]))
 refine B6 1 Z (WS j (l4 1 Z (An.lf ?_)));refine G0 1 Z (Cd [] h (eS _) Z λG cm h=>Fg 2 Z Z ?_);refine B6 2 Z (An.lf ?_);refine G0 2 Z (Cd [4] h (fP _ _) Z λde cn h=>FE Z (Cd [6,4] h (gZ _ _) Z λY co h=>Fg 3 Z Z ?_));refine B6 1 Z ?_;obtain⟨cp,bz,ca,cb,cc,rfl⟩:=nB h;rw[Ve];refine pP bz (ca++[]) [0,1] [0] Ze Ze Zf ?_ (λenv H j=>?_)
 .refine TF 1 Z ?_;refine nM [0,1,2,3,5,7] [0,2,4,5,11,58,59] (λaa=>[(60,I aa)]) Ze cb Zf (Lr [0,1,2,3,5,7]) λaa cq cr cs d ao=>?_;refine TF 1 Z (An.lf ?_);refine G0 3 Z ?_;refine B6 2 Z (An.lf ?_);refine G0 0 Z (Q5 Z d (λ_ d=>?_) (λ_ d=>?_))
  .refine Gc 1 Z ?_;refine B6 1 Z ?_;obtain⟨rfl,rfl,rfl⟩:=Oy ao d;exact nw (B6 1 Z (nF (Lr [0,1])))
  refine Gc 1 Z ?_;refine B6 4 Z (An.lf ?_);refine G0 1 Z (Bd d λg ai d=>?_);refine vX (.ptr 5 (toNat aa*1)) (Qn ai Z EB EG) ?_;refine vX (I g) (Ez Z EH Z (Qj ai)) ?_;refine Go 2 Z ?_;refine B6 2 Z (An.lf ?_);refine G0 3 Z (Bd d λf ar d=>?_);refine vX (.tup [.agg (Ruling.c f),.bool (JY w.1 g)]) (cR (ev:=(λx=>A.agg (Ruling.c x))) (z0:=Ux) (k:=g) (l:=w.1) Ja ar underlying133 zeroValue66 (Ds Z)) ?_;refine Go 7 Z ?_;refine B6 2 Z (An.lf ?_);refine G0 6 Z ?_;refine B6 2 Z (An.lf ?_);refine G0 5 Z ?_;rcases xW d with⟨ab,d⟩|⟨cd,ab,d⟩
  .refine vX (.tup [.agg [.nilf],.bool false]) (ww (ev:=(λx=>A.agg (Uc.c x))) (l:=G) (k:=f.Kind) Ja ab Gw zeroValue144 (ZR.agg (zc ZR.nilf ZL.nil))) ?_;refine Go 10 Z (Bd d λce J d=>Ct ce [0,1,2,3,4,6,7,8,5] [0,2,4,5,11,13,14,15,16,17,58,59,60] (λ_=>[(119,.bool false)]) Ze Zf ?_ (λenv H j=>?_))
   .refine G0 3 Z (Is 121 J Z (λ_ J=>?_) (λ_ J=>?_))
    iterate 2 exact Gl 4 Z J [0,1,2,3,4,6,7,8,5]
   refine Gx 1 Z (Qd j (Gc 2 Z (Bd d λac L d=>Ct ac [0,1,2,3,4,6,8] [0,2,4,5,11,13,16,58,59,60] (λac=>[(132,.bool ac)]) Ze Zf ?_ (λenv H j=>?_))))
   .refine G0 3 Z (Is 134 L Z (λ_ L=>?_) (λ_ L=>?_))
    iterate 2 exact Gl 6 Z L [0,1,2,3,4,6,8]
   refine Gx 1 Z (Qd j (Cn Z d (λ_ d=>?_) (λ_ d=>?_)))
   .refine Gc 2 Z ?_;refine B6 3 Z (An.lf ?_);refine G0 4 Z ?_;exact B6 0 Z (O4 d (Lr [0,1,2,3,4,6]))
   refine Gc 4 Z (Bd d λy ax d=>?_);refine vX (.tup [.agg (Report.c y),.bool (JY m.1 g)]) (cR (ev:=(λx=>A.agg (Report.c x))) (z0:=Uw) (k:=g) (l:=m.1) Ja ax GN GK (Ds Z)) ?_;refine Go 10 Z (Bd d λae q d=>Ct ae [0,1,2,3,4,5,7,6] [0,2,4,5,11,16,19,58,59,60] (λae=>[(99,.bool ae)]) Ze Zf ?_ (λenv H j=>?_))
   .refine G0 4 Z (Is 87 q Z (λ_ q=>?_) (λ_ q=>?_))
    .exact Gl 13 Z q [0,1,2,3,4,5,7,6]
    .refine Go 5 Z (Is 92 q Z (λ_ q=>?_) (λ_ q=>?_))
     .exact Gl 8 Z q [0,1,2,3,4,5,7,6]
     .exact Go 4 Z (Lm Z (Gl 3 Z q [0,1,2,3,4,5,7,6]))
   refine Gx 1 Z (Qd j (Cn Z d (λ_ d=>?_) (λ_ d=>?_)))
   .refine Gc 3 Z ?_;refine B6 3 Z (An.lf ?_);refine G0 4 Z ?_;exact B6 0 Z (O4 d (Lr [0,1,2,3,4,7]))
   refine Gc 8 Z (Bd d λB bb d=>Iz bb Z (Go 5 Z (FC 13 [12] [(0,0,0),(0,0,0),(0,0,1),(0,0,1),(0,0,1),(0,0,1),(0,0,1),(0,0,1),(0,0,1),(0,0,1),(0,0,1),(0,0,0),(1,0,0)] (by kernel_rfl) (Dk 3 Z ?_))));refine Fb (lo:=0) (x:=I y.Position) ⟨Z,trivial⟩ ?_;refine Dk 1 Z ?_;refine Fb (lo:=0) (x:=I B.Time) ⟨Z,trivial⟩ ?_;refine Dk 1 Z ?_;refine Fb (lo:=0) (x:=I B.Laps) ⟨Z,trivial⟩ ?_;refine Dk 1 Z ?_;refine Fb (lo:=0) (x:=.bool B.Out) ⟨Z,trivial⟩ ?_;refine Dk 2 Z ?_;refine DK.un (X1:=[.cells 34 [.rsl 57 (map AC.c R)],.cells 33 (AE.c T),.map (Qt (λx=>A.int .i64 x) (λx=>A.agg (Report.c x)) m.1),.map (Qt (λx=>A.int .i64 x) (λx=>A.agg (Ruling.c x)) w.1),.map (Qt (λx=>A.int .i64 x) (λx=>A.agg (Uc.c x)) G),.cells 84 [I g,I y.Bib,I 0,I 0,I 0,.bool false],.cells 62 (Report.c y),.row 3 1 (map (Qc .i64) Y),.cells 114 (Offence.c B)]) ?_ ?_
   .refine vU (Ey Z Z Z EG Z Z Z Z Z Z Z) ?_;refine Ng (H:=[_,_,_,_,_,.cells 84 [I g,I y.Bib,I 0,I 0,I 0,.bool false],_,_,_]) Z ?_;exact Wp
   refine DK.done Z Z (Go 4 Z ?_);refine B6 5 Z ?_;obtain⟨ct,cf,rfl⟩:=jW d;refine ji (x:={number:=g,bib:=y.Bib,penalty:={Position:=y.Position,Time:=B.Time,Laps:=B.Laps,Out:=B.Out:AD}:Ud}) (e:=λx=>.agg (Ud.c x)) hE hN Z Z Z Z ?_ ?_
   .refine TD 3 Z (An.lf ?_);refine G0 2 Z ?_;refine B6 2 Z (An.lf ?_);refine G0 4 Z ?_;exact B6 0 Z (O4 cf (Lr [0,1,2,3,4,7]))
   .exact TD 7 Z (jd (B6 1 Z (jU (⟨.inr Z,.inr ⟨_,Z⟩⟩))))
  .refine vX (.tup [.agg [.fn (.func cd.penalty) [] []],.bool true]) (wx (ev:=(λx=>A.agg (Uc.c x))) (l:=G) (k:=f.Kind) Ja ab Gw) ?_;refine Go 10 Z (Bd d λaf M d=>Ct af [0,1,2,3,4,6,7,8,5] [0,2,4,5,11,13,14,15,16,17,58,59,60] (λaf=>[(119,.bool af)]) Ze Zf ?_ (λenv H j=>?_))
   .refine G0 3 Z (Is 121 M Z (λ_ M=>?_) (λ_ M=>?_))
    iterate 2 exact Gl 4 Z M [0,1,2,3,4,6,7,8,5]
   refine Gx 1 Z (Qd j (Bd d λcg a d=>DD (b:=cg) [0,1,2,3,4,6,8] [0,2,4,5,11,16,58,59,60] Ze (λV=>[(5,.cells 84 (Ud.c V))]) Zf ?_ (λV env H hb j=>?_)))
   .refine G0 0 Z (Cn Z a (λ_ a=>?_) (λ_ a=>?_))
    .refine If a (λaj a=>?_) (λaj a=>?_)
     .refine Qd (jZ (i:=7) (x':=.cells 144 [.fn (.func 115) [] []]) Z (congrArg (λz=>AR.cells 144 [.fn (.func z) [] []]) (eq_of_beq aj))) ?_;refine FC 7 [5] [(0,0,1),(0,0,1),(0,0,0),(0,0,0),(0,0,0),(1,0,0),(0,0,1)] (by kernel_rfl) (Dk 1 Z ?_);refine Fb (lo:=0) (x:=I f.Bib) ⟨Z,trivial⟩ ?_;refine Dk 3 Z ?_;obtain⟨cu,be,a⟩:=YE a;refine Ex (x:=.agg [I f.Position,I f.Amount,I 0,.bool false]) (X1:=[.cells 34 [.rsl 57 (map AC.c R)],.cells 33 (AE.c T),.map (Qt (λx=>A.int .i64 x) (λx=>A.agg (Report.c x)) m.1),.map (Qt (λx=>A.int .i64 x) (λx=>A.agg (Ruling.c x)) w.1),.map (Qt (λx=>A.int .i64 x) (λx=>A.agg (Uc.c x)) G),.cells 66 (Ruling.c f),.cells 84 [I g,I 0,I 0,I 0,I 0,.bool false],.cells 144 [.fn (.func 115) [] []],.row 3 1 (map (Qc .i64) Y),.cells 76 [I f.Position,I f.Amount,I 0,.bool false]]) ?_ ?_
      .refine QC [] (Nn call115 Z Z Z Z) (e8 _ _ _ be) ?_;rintro _ _ ⟨rfl,rfl⟩;exact FE Z Wp
      refine Dk 1 Z (DK.done Z Z (Go 4 Z ?_));cases a;exact YC Z (Lr [0,1,2,3,4,6,8])
     .refine If a (λak a=>?_) (λak a=>?_)
      .refine Qd (jZ (i:=7) (x':=.cells 144 [.fn (.func 116) [] []]) Z (congrArg (λz=>AR.cells 144 [.fn (.func z) [] []]) (eq_of_beq ak))) ?_;refine FC 7 [5] [(0,0,1),(0,0,1),(0,0,0),(0,0,0),(0,0,0),(1,0,0),(0,0,1)] (by kernel_rfl) (Dk 1 Z ?_);refine Fb (lo:=0) (x:=I f.Bib) ⟨Z,trivial⟩ ?_;refine Dk 3 Z ?_;obtain⟨cv,bf,a⟩:=YE a;refine Ex (x:=.agg [I f.Position,I 0,I f.Amount,.bool false]) (X1:=[.cells 34 [.rsl 57 (map AC.c R)],.cells 33 (AE.c T),.map (Qt (λx=>A.int .i64 x) (λx=>A.agg (Report.c x)) m.1),.map (Qt (λx=>A.int .i64 x) (λx=>A.agg (Ruling.c x)) w.1),.map (Qt (λx=>A.int .i64 x) (λx=>A.agg (Uc.c x)) G),.cells 66 (Ruling.c f),.cells 84 [I g,I 0,I 0,I 0,I 0,.bool false],.cells 144 [.fn (.func 116) [] []],.row 3 1 (map (Qc .i64) Y),.cells 76 [I f.Position,I 0,I f.Amount,.bool false]]) ?_ ?_
       .refine QC [] (Nn call116 Z Z Z Z) (d8 _ _ _ bf) ?_;rintro _ _ ⟨rfl,rfl⟩;exact FE Z Wp
       refine Dk 1 Z (DK.done Z Z (Go 4 Z ?_));cases a;exact YC Z (Lr [0,1,2,3,4,6,8])
      .refine If a (λal a=>?_) (λal a=>?_)
       .refine Qd (jZ (i:=7) (x':=.cells 144 [.fn (.func 117) [] []]) Z (congrArg (λz=>AR.cells 144 [.fn (.func z) [] []]) (eq_of_beq al))) ?_;refine FC 7 [5] [(0,0,1),(0,0,1),(0,0,0),(0,0,0),(0,0,0),(1,0,0),(0,0,1)] (by kernel_rfl) (Dk 1 Z ?_);refine Fb (lo:=0) (x:=I f.Bib) ⟨Z,trivial⟩ ?_;refine Dk 3 Z ?_;obtain⟨cw,bg,a⟩:=YE a;refine Ex (x:=.agg [I f.Position,I 0,I 0,.bool true]) (X1:=[.cells 34 [.rsl 57 (map AC.c R)],.cells 33 (AE.c T),.map (Qt (λx=>A.int .i64 x) (λx=>A.agg (Report.c x)) m.1),.map (Qt (λx=>A.int .i64 x) (λx=>A.agg (Ruling.c x)) w.1),.map (Qt (λx=>A.int .i64 x) (λx=>A.agg (Uc.c x)) G),.cells 66 (Ruling.c f),.cells 84 [I g,I 0,I 0,I 0,I 0,.bool false],.cells 144 [.fn (.func 117) [] []],.row 3 1 (map (Qc .i64) Y),.cells 76 [I f.Position,I 0,I 0,.bool true]]) ?_ ?_
        .refine QC [] (Nn call117 Z Z Z Z) (eX _ _ _ bg) ?_;rintro _ _ ⟨rfl,rfl⟩;exact FE Z Wp
        refine Dk 1 Z (DK.done Z Z (Go 4 Z ?_));cases a;exact YC Z (Lr [0,1,2,3,4,6,8])
       .cases a
    refine Gc 1 Z (Bd a λag N a=>Ct ag [0,1,2,3,4,6,8] [0,2,4,5,11,13,16,58,59,60] (λag=>[(132,.bool ag)]) Ze Zf ?_ (λenv H j=>?_))
    .refine G0 3 Z (Is 134 N Z (λ_ N=>?_) (λ_ N=>?_))
     iterate 2 exact Gl 6 Z N [0,1,2,3,4,6,8]
    refine Gx 1 Z (Qd j (Cn Z a (λ_ a=>?_) (λ_ a=>?_)))
    .refine Gc 1 Z ?_;cases a;refine nD (Gx 1 Z ?_);refine B6 3 Z (An.lf ?_);refine G0 4 Z ?_;exact B6 0 Z (O4 d (Lr [0,1,2,3,4,6]))
    refine Gc 4 Z (Bd a λO bj a=>?_);refine vX (.tup [.agg (Report.c O),.bool (JY m.1 g)]) (cR (ev:=(λx=>A.agg (Report.c x))) (z0:=Uw) (k:=g) (l:=m.1) Ja bj GN GK (Ds Z)) ?_;refine Go 10 Z (Bd a λah r a=>Ct ah [0,1,2,3,4,5,7,6] [0,2,4,5,11,16,19,58,59,60] (λah=>[(99,.bool ah)]) Ze Zf ?_ (λenv H j=>?_))
    .refine G0 4 Z (Is 87 r Z (λ_ r=>?_) (λ_ r=>?_))
     .exact Gl 13 Z r [0,1,2,3,4,5,7,6]
     .refine Go 5 Z (Is 92 r Z (λ_ r=>?_) (λ_ r=>?_))
      .exact Gl 8 Z r [0,1,2,3,4,5,7,6]
      .exact Go 4 Z (Lm Z (Gl 3 Z r [0,1,2,3,4,5,7,6]))
    refine Gx 1 Z (Qd j (Cn Z a (λ_ a=>?_) (λ_ a=>?_)))
    .refine Gc 2 Z ?_;cases a;refine nD (Gx 1 Z ?_);refine B6 3 Z (An.lf ?_);refine G0 4 Z ?_;exact B6 0 Z (O4 d (Lr [0,1,2,3,4,7]))
    refine Gc 8 Z (Bd a λW bn a=>Iz bn Z (Go 5 Z (FC 13 [12] [(0,0,0),(0,0,0),(0,0,1),(0,0,1),(0,0,1),(0,0,1),(0,0,1),(0,0,1),(0,0,1),(0,0,1),(0,0,1),(0,0,0),(1,0,0)] (by kernel_rfl) (Dk 3 Z ?_))));refine Fb (lo:=0) (x:=I O.Position) ⟨Z,trivial⟩ ?_;refine Dk 1 Z ?_;refine Fb (lo:=0) (x:=I W.Time) ⟨Z,trivial⟩ ?_;refine Dk 1 Z ?_;refine Fb (lo:=0) (x:=I W.Laps) ⟨Z,trivial⟩ ?_;refine Dk 1 Z ?_;refine Fb (lo:=0) (x:=.bool W.Out) ⟨Z,trivial⟩ ?_;refine Dk 2 Z ?_;refine DK.un (X1:=[.cells 34 [.rsl 57 (map AC.c R)],.cells 33 (AE.c T),.map (Qt (λx=>A.int .i64 x) (λx=>A.agg (Report.c x)) m.1),.map (Qt (λx=>A.int .i64 x) (λx=>A.agg (Ruling.c x)) w.1),.map (Qt (λx=>A.int .i64 x) (λx=>A.agg (Uc.c x)) G),.cells 84 [I g,I O.Bib,I 0,I 0,I 0,.bool false],.cells 62 (Report.c O),.row 3 1 (map (Qc .i64) Y),.cells 114 (Offence.c W)]) ?_ ?_
    .refine vU (Ey Z Z Z EG Z Z Z Z Z Z Z) ?_;refine Ng (H:=[_,_,_,_,_,.cells 84 [I g,I O.Bib,I 0,I 0,I 0,.bool false],_,_,_]) Z ?_;exact Wp
    refine DK.done Z Z (Go 3 Z ?_);cases a;exact YC Z (Lr [0,1,2,3,4,5,7])
   subst hb;refine Gx 1 Z ?_;refine B6 1 Z (WS j (l4 4 Z ?_));obtain⟨cx,ch,rfl⟩:=jW d;refine ji (x:=V) (e:=λx=>.agg (Ud.c x)) hE hN Z Z Z Z ?_ ?_
   .refine TD 3 Z (An.lf ?_);refine G0 2 Z ?_;refine B6 2 Z (An.lf ?_);refine G0 4 Z ?_;exact B6 0 Z (O4 ch (Lr [0,1,2,3,4,6]))
   .exact TD 7 Z (jd (B6 1 Z (jU (⟨.inr Z,.inr ⟨_,Z⟩⟩))))
 cases cc;exact⟨.inl Z,.inl Z⟩
def LQ(n:Nat)(h:Int)(a:(AA Int)×(AA AD))(e:Ud):AB (AG ((AA Int)×(AA AD)) ((AA Int)×(AA AD))):=((bif (e.bib==h)then(app a.1 [e.number]).bind λf=>(app a.2 [e.penalty]).bind λg=>some (f,g)else some (a.1,a.2)):AB ((AA Int)×(AA AD))).bind λd=>some (.k (d.1,d.2))
def Fu(d:AE)(e:AA AC)(g:Int):AB ((AA Int)×(AA AD)):=(Hu n d).bind λh=>(bif (h != 0)then some ([],[])else(P7 n d e).bind λi=>(L' n e d).bind λy4=>(F6 (LQ n g) y4.1 ([],[]):AB (AG ((AA Int)×(AA AD)) ((AA Int)×(AA AD)))).bind λf=>match f with|.k a=>(some (a.1,a.2))|.d a=>some a)
theorem Ku(p:AE)(y:AA AC)(q:Int):Kq (Fu n p y q) 7 [.agg (AE.c p),.rsl 57 (map AC.c y),I q] [] (λr=>.tup [.osl 0 0 r.1.length 1,.osl 1 0 r.2.length 4]) (λr=>[.row 3 1 (map (Qc .i64) r.1),.row 76 4 (map AD.c r.2),.cells 37 [.osl 0 0 r.1.length 1],.cells 38 [.osl 1 0 r.2.length 4]]):=by
 refine Kg 12 func7 Z Z Z Z λr h=>Cz [] h (dZ _ _) Z λP G h=>Go 3 Z (Cn Z h (λ_ h=>?_) (λ_ h=>?_))
 .refine Gc 8 Z ?_;obtain rfl:=Oi h;refine⟨[(6,.ptr 2 0),(7,.ptr 3 0)],[.row 3 1 (map (Qc .i64) (([],[]).1)),.row 76 4 (map AD.c (([],[]).2)),.cells 37 [.osl 0 0 ((([],[]).1).length) 1],.cells 38 [.osl 1 0 ((([],[]).2).length) 4]],_,?_,Qo Z Z (Aa.cons (W5 GV Z Z) (Aa.cons (W5 isAgg38 Z Z) Aa.nil)),Z,Z⟩;refine En (YY (i:=2) (m:=0) (t:=3) (k:=1) Z Z Z) ?_;refine En (YY (i:=3) (m:=0) (t:=76) (k:=4) Z Z Z) ?_;exact Lr [4,5,2,3]
 refine Gc 7 Z (Cd [] h (fI _ _ _) Z λQ J h=>Fg 3 Z Z (Bd h λy4 hy4 h=>Bd h λL B h=>?_));refine rS [4,5] (λj=>[.cells 33 (AE.c p),.cells 3 [I q],.cells 37 [.osl 6 0 j.1.length 1],.cells 38 [.osl 7 0 j.2.length 4],.dead,.dead,.row 3 1 (map (Qc .i64) j.1),.row 76 4 (map AD.c j.2)]) B (g_ _ _ _ _ hy4) Zf call44 Z Z Z Z (by decide) Z ?_ ?_ ?_
 .refine En (YY (i:=2) (m:=0) (t:=3) (k:=1) Z Z Z) ?_;refine En (YY (i:=3) (m:=0) (t:=76) (k:=4) Z Z Z) ?_;exact Lr [0,1,2,3,4,5,6,7]
 .intro j f M l F;refine G0 4 Z (And.intro Z ?_);refine G0 9 Z (Bd l λd a l=>Ct d [0,1,2,3,4,5,0,0] [] Ze (λd=>[(2,.cells 37 [.osl 6 0 d.1.length 1]),(3,.cells 38 [.osl 7 0 d.2.length 4]),(6,.row 3 1 (map (Qc .i64) d.1)),(7,.row 76 4 (map AD.c d.2))]) Zf ?_ (λenv H E=>?_))
  .refine G0 0 Z (Cn Z a (λ_ a=>?_) (λ_ a=>?_))
   .refine F8 9 4 [0,0,0,0,1,3,3,3,3] (by kernel_rfl) (Da 3 Z ?_);refine DA.wo (x:=.rsl 1 (map (Qc .i64) [f.number])) ?_ ?_
    .refine vH (Ym (xs:=[.tmp 22]) (es:=map (Qc .i64) [f.number]) Qs Z Z Z Z Z ⟨Z,trivial⟩ Z Z) ?_;exact FE Z Wp
    obtain⟨N,u,a⟩:=YE a;refine KO (Qh (e:=(Qc .i64)) u Qs EB JR) Z Z ?_;refine DB.wo2 (x:=.osl 7 0 j.2.length 4) (Ld isAgg38 Z Wp) (Ld isAgg38 Z Wp) ?_;refine Db 1 Z ?_;refine DB.wo2 (x:=.agg (AD.c f.penalty)) ?_ ?_ ?_
    iterate 2 refine vX (.agg (AD.c f.penalty)) (Qv Z EX EI Z (BD.cells Z Z) Z Z) ?_;exact Wp
    refine DB.wo2 (x:=.rsl 4 (map AD.c [f.penalty])) ?_ ?_ ?_
    iterate 2 refine vH (Ym (xs:=[.tmp 27]) (es:=map AD.c [f.penalty]) Fl Z Z Z Z Z ⟨Z,trivial⟩ Z Z) ?_;exact FE Z Wp
    refine DB.done Z (Bd a λO w a=>vH (Qh (e:=AD.c) w Fl ED JR) ?_);exact FE Z (Gl 3 Z a [0,1,2,3,4,5,9,10])
   exact YM 1 Z a [0,1,2,3,4,5,6,7]
  exact Gx 1 Z (oI l (En E (Lr [0,1,2,3,4,5,6,7])))
 rintro g rfl;refine Gx 3 Z (FC 3 [2] [(0,0,0),(0,0,1),(1,0,0)] (by kernel_rfl) (Dk 1 Z ?_));refine Fb (lo:=0) (x:=.osl 7 0 g.2.length 4) ⟨Z,trivial⟩ ?_;refine DK.un (X1:=[.cells 33 (AE.c p),.cells 3 [I q],.cells 37 [.osl 6 0 g.1.length 1],.cells 38 [.osl 7 0 g.2.length 4],.dead,.dead,.row 3 1 (map (Qc .i64) g.1),.row 76 4 (map AD.c g.2)]) ?_ ?_
 .refine vU (Ey Z Z Z sizeOf37 Z Z Z Z Z Z Z) ?_;refine Ng (H:=[_,_,_,_,_,_,_,_]) Z ?_;exact Wp
 refine DK.done Z Z (Go 4 Z ?_);obtain rfl:=Oi h;exact Rx [6,7,2,3] [6,7] Z (Qo Z Z (Aa.cons (W5 GV Z Z) (Aa.cons (W5 isAgg38 Z Z) Aa.nil))) ⟨Z,Z⟩
def RO(n:Nat)(a:AA (Int×AC)):AB Unit:=some ()
theorem fe(a:AA (Int×AC)):Kq (RO n a) 138 [.map 0] [.map (Qt (λx=>A.int .i64 x) (λx=>A.agg (AC.c x)) a)] (λ_=>.fn (.func 194) [] [.ptr 1 0]) (λ_=>[.map (Qt (λx=>A.int .i64 x) (λx=>A.agg (AC.c x)) a),.cells 153 [.map 0]]):=by
 exact Kg 13 func138 Z Z Z Z λr h=>Rt h 2 [0,1]
def L7(n:Nat)(a:AA (Int×AC)):AB (AA Int):=SX (map Prod.fst a) λp1=>(Cw p1).bind λd=>some d
theorem gx(d:AA (Int×AC)):Kq (L7 n d) 48 [.fn (.func 194) [] [.ptr 0 0]] [.cells 153 [.map 1],.map (Qt (λx=>A.int .i64 x) (λx=>A.agg (AC.c x)) d)] (λr=>.osl 2 0 r.length 1) (λr=>[.dead,.fmap (Qt (λx=>A.int .i64 x) (λx=>A.agg (AC.c x)) d),.row 3 1 (map (Qc .i64) r)]):=by
 refine Kg 8 func48 Z Z Z Z λr h=>(QB (n7 (i:=1) Z) ?_);obtain⟨e,h⟩:=oC h;refine QC [0,1] (Bh.fn call118 Z Z Z) (zq _ e) ?_;rintro _ _ ⟨p1,f,rfl,rfl⟩;have h:=h p1 f;refine Fg 6 Z Z (Bd h λg a h=>(QC [2] (Bh.fn call119 Z Z Z) (ny tN a) ?_));rintro _ _ ⟨rfl,rfl⟩;refine QB (QO (s:=3) Z (congrArg (λn=>A.osl 2 0 n 1) (lG a))) ?_;exact Gt 9 Z h 2 [0,1,2]
def Ps(n:Nat)(h:AA (Int×AC))(d:AA Int)(a:(AA AC)×Int):AB (AG ((AA AC)×Int) (AA AC)):=(bif a.2<(d.length:Int) then(AJ d a.2).bind λe=>(some (QH h e Up)).bind λf=>(app a.1 [f]).bind λg=>some (.k (g,i64.wrap (a.2+1)))else some (.d a.1))
def Mj(a:AA (Int×AC)):AB (AA AC):=(RO n a).bind λf=>(L7 n a).bind λe=>(iter (Ps n a e) n ([],0):AB (AA AC)).bind λd=>some d
theorem ie(j:AA (Int×AC)):Kq (Mj n j) 62 [.map 0] [.map (Qt (λx=>A.int .i64 x) (λx=>A.agg (AC.c x)) j)] (λr=>.osl 1 0 r.length 57) (λr=>[.fmap (Qt (λx=>A.int .i64 x) (λx=>A.agg (AC.c x)) j),.row 72 57 (map AC.c r)]):=by
 refine Kg 9 func62 Z Z Z Z λr h=>Cd [0] h (fe _ _) Z λE t h=>FE Z (Cd [1,0] h (gx _ _) Z λF u h=>Fg 4 Z Z (Bd h λd q h=>Cg d [0,1] [] (λd=>[(2,.osl 1 0 d.length 57)]) (λd=>[(1,.row 72 57 (map AC.c d))]) Zf ?_ ?_))
 .refine G0 1 Z (Lp [0,0,2] [0,7,8] (λf=>[(2,.osl 1 0 f.1.length 57),(9,I f.2)]) (λf=>[(1,.row 72 57 (map AC.c f.1))]) q Zf ?_ ?_)
  .exact En (Ep (s:=2) (XP Z) Z) (Lr [0,3,2])
  intro f w a k;refine G0 6 Z (Q5 Z a (λ_ a=>?_) (λ_ a=>?_))
  .exact Gc 2 Z (Qi a (Gx 1 Z (JC k a (Lr [0,1]))))
  refine Gc 6 Z (Bd a λy g a=>(vV (Qn g Z EB EG) ?_));refine vV (Ez Z EH Z (Qj g)) (Go 7 Z (Bd a λz m a=>?_));refine vV (wv (ev:=(λx=>A.agg (AC.c x))) Ja m Gu GC (Ds Z)) (vH (Ek (xs:=[.tmp 16]) Jf Z Z Z Z Z ⟨Z,trivial⟩ Z Z) ?_);refine FE Z (Bd a λB p a=>vH (Qh (e:=AC.c) p Jf EC (QF (i:=3))) ?_);exact Fg 8 Z Z (Qg a (Lr [0,4,2]))
 exact QJ 7 Z h 2 [0,1]
def LU(m:AE)(p:AA AC)(a:(AA (Int×AC))×Int):AB (AG ((AA (Int×AC))×Int) (AA (Int×AC))):=(bif a.2<(p.length:Int) then((AJ p a.2).bind λd=>((bif (d.Kind != 1)then some true else(M1 n d).bind λe=>(bif (e != 0)then some true else(bif (m.Distances.length:Int)<=d.Starter.Distance then some true else some (decide ((m.Waves.length:Int)<=d.Starter.Wave))))):AB Bool).bind λf=>(bif f then some a.1 else(some (QH a.1 d.Starter.Bib Up)).bind λg=>((bif (!(JY a.1 d.Starter.Bib))then some true else(HN n d g).bind λh=>some (decide (h<0))):AB Bool).bind λi=>((bif i then(some (QR a.1 d.Starter.Bib d)).bind λj=>some j else some a.1):AB (AA (Int×AC))).bind λk=>some k):AB (AA (Int×AC))).bind λl=>some (.k (l,i64.wrap (a.2+1)))else some (.d a.1))
def HJ(n:Nat)(e:AA AC)(a:(AA Starter)×(AA (Int×Bool))×Int):AB (AG ((AA Starter)×(AA (Int×Bool))×Int) (AG (AA Starter) ((AA Starter)×Int))):=(bif a.2.2<(e.length:Int) then(AJ e a.2.2).bind λd=>(some (QH a.2.1 d.Starter.Chip false)).bind λf=>(bif f then some (.d (.d ([],180)))else(some (QR a.2.1 d.Starter.Chip true)).bind λg=>(app a.1 [d.Starter]).bind λh=>some (.k (h,g,i64.wrap (a.2.2+1))))else some (.d (.k a.1)))
def MB(g:AE)(i:AA AC):AB ((AA Starter)×Int):=(Hu n g).bind λh=>(bif (h != 0)then some ([],h)else(iter (LU n g i) n ([],0):AB (AA (Int×AC))).bind λd=>(bif 4000<(d.length:Int) then some ([],2)else(Mj n d).bind λe=>(iter (HJ n e) n ([],[],0):AB (AG (AA Starter) ((AA Starter)×Int))).bind λf=>match f with|.k a=>(some (a,0))|.d a=>some a))
theorem hQ(a1:AE)(a2:AA AC):Kq (MB n a1 a2) 25 [.agg (AE.c a1),.rsl 57 (map AC.c a2)] [] (λr=>.tup [.osl 0 0 r.1.length 8,I r.2]) (λr=>[.row 48 8 (map Starter.c r.1)]):=by
 refine Kg 11 func25 Z Z Z Z λr h=>Cz [] h (dZ _ _) Z λr1 bd h=>Go 9 Z (Cn Z h (λ_ h=>?_) (λ_ h=>?_))
 .refine Gc 9 Z ?_;obtain rfl:=Oi h;refine R2 4 5 Z Z ?_;refine En (Ep (s:=4) (k:=8) (t:=48) (XP Z) Z) ?_;exact Lr [1]
 refine Gc 4 Z (vH Yn ?_);refine Fg 7 Z Z (Lg 3 Z Z (Bd h λy ai h=>Ct y [1] [4,7] Ze (λy=>[(0,.map (Qt (λx=>A.int .i64 x) (λx=>A.agg (AC.c x)) y))]) Zf ?_ (λenv H u=>?_)))
 .refine G0 1 Z (Lp [0,1] [2,4,7,22,23] (λm=>[(24,I m.2)]) (λm=>[(1,.map (Qt (λx=>A.int .i64 x) (λx=>A.agg (AC.c x)) m.1))]) ai Zf (Lr [0,1]) λm av j N=>?_);refine G0 6 Z (Q5 Z j (λ_ j=>?_) (λ_ j=>?_))
  .exact Gc 2 Z (Qi j (Gx 1 Z (JC N j (Lr [1]))))
  refine Gc 3 Z (Bd j λE d j=>Ct E [0,1] [2,4,7,22,23,24] Ze (λE=>[(1,.map (Qt (λx=>A.int .i64 x) (λx=>A.agg (AC.c x)) E))]) Zf ?_ (λenv H u=>?_))
  .refine G0 3 Z (Bd d λz P d=>Iz P Z (Go 15 Z (Bd d λF f d=>Ct F [0,1,2,3] [2,4,7,9,10,22,23,24] (λF=>[(53,.bool F)]) Ze Zf ?_ (λenv H u=>?_))))
   .refine G0 5 Z (Is 33 f Z (λ_ f=>?_) (λ_ f=>?_))
    .exact Gl 21 Z f [0,1,2,3]
    .refine Go 1 Z (Cz [] f (UE _ _) Z λaw aq f=>Go 3 Z (Is 38 f Z (λ_ f=>?_) (λ_ f=>?_)))
     .exact Gl 16 Z f [0,1,2,3]
     .refine Go 4 Z (Lg 3 Z Z (Is 46 f Z (λ_ f=>?_) (λ_ f=>?_)))
      .exact Gl 8 Z f [0,1,2,3]
      .exact Go 4 Z (Lm Z (Gl 3 Z f [0,1,2,3]))
   refine Gx 1 Z (Qd u (Cn Z d (λ_ d=>?_) (λ_ d=>?_)))
   .exact YM 3 Z d [0,1]
   refine Gc 7 Z (Bd d λaj W d=>?_);refine vX (.tup [.agg (AC.c aj),.bool (JY m.1 z.Starter.Bib)]) (cR (ev:=(λx=>A.agg (AC.c x))) (z0:=Up) (k:=z.Starter.Bib) (l:=m.1) Ja W Gu GC (Ds Z)) ?_;refine Go 9 Z (Bd d λG p d=>Ct G [0,1,2,3] [2,4,7,9,10,22,23,24] (λG=>[(68,.bool G)]) Ze Zf ?_ (λenv H u=>?_))
   .refine G0 4 Z (Is 63 p Z (λ_ p=>?_) (λ_ p=>?_))
    .exact Gl 6 Z p [0,1,2,3]
    .exact Go 2 Z (Cz [] p (N7 _ _ _) Z λax ar p=>Gl 3 Z p [0,1,2,3])
   refine Gx 1 Z (Qd u (Bd d λJ q d=>Ct J [0,1] [2,4,7,22,23,24] Ze (λJ=>[(1,.map (Qt (λx=>A.int .i64 x) (λx=>A.agg (AC.c x)) J))]) Zf ?_ (λenv H u=>?_)))
   .refine G0 0 Z (Cn Z q (λ_ q=>?_) (λ_ q=>?_))
    .refine Gc 5 Z (Bd q λay aa q=>?_);refine vU (Yl (ev:=(λx=>A.agg (AC.c x))) (k:=z.Starter.Bib) (v:=z) (l:=m.1) Ja aa Z Gu) ?_;exact FE Z (Gl 1 Z q [0,1])
    exact YM 1 Z q [0,1]
   refine Gx 1 Z ?_;cases d;exact JE (En u (Lr [0,1]))
  exact Gx 1 Z (Qd u (Gc 4 Z (Qg j (Lr [0,1]))))
 refine Gx 1 Z (Qd u (Gc 4 Z ?_));refine vX (I (y.length:Int)) (lL (l:=y) Gu Z) ?_;refine Go 3 Z (Cn Z h (λ_ h=>?_) (λ_ h=>?_))
 .refine Gc 8 Z ?_;obtain rfl:=Oi h;refine R2 4 5 Z Z ?_;refine En (Ep (s:=4) (k:=8) (t:=48) (XP Z) Z) ?_;exact Lr [1]
 refine Gc 4 Z (vH Yn ?_);refine Fg 7 Z Z (Cd [0] h (ie _ _) Z λaz au h=>Fg 4 Z Z (Bd h λak al h=>BZ (b:=ak) [0] [] (λw=>[(4,.osl 0 0 w.length 8)]) (λw=>[(0,.row 48 8 (map Starter.c w))]) Zf ?_ (λw ao=>?_)))
 .refine G0 1 Z (Lp [0,1,2] [13,79,80] (λg=>[(4,.osl 0 0 g.1.length 8),(81,I g.2.2)]) (λg=>[(0,.row 48 8 (map Starter.c g.1)),(1,.map (Qt (λx=>A.int .i64 x) A.bool g.2.1))]) al Zf ?_ ?_)
  .refine En (Ep (s:=4) (k:=8) (t:=48) (XP Z) Z) ?_;exact Lr [3,1,2]
  intro g ba a L;refine G0 6 Z (Q5 Z a (λ_ a=>?_) (λ_ a=>?_))
  .exact Gc 2 Z (Qi a (Gx 1 Z (JD L a Z (Lr [0]))))
  refine Gc 6 Z (Bd a λB M a=>?_);refine vX (.ptr 2 (toNat g.2.2*57)) (Qn M Z EC EF) ?_;refine vX (.agg (AC.c B)) (Qv Z E5 EF Z (Qj M) Z Z) ?_;refine Go 11 Z (Bd a λam ae a=>?_);refine vX (.bool am) (Jr (ev:=A.bool) (z0:=false) (k:=B.Starter.Chip) (l:=g.2.1) Ja ae Gs Gh ZR.bool) ?_;refine Go 2 Z (Cn Z a (λ_ a=>?_) (λ_ a=>?_))
  .refine Gc 10 Z (Qx a ?_);obtain rfl:=Oj L a;refine Gx 1 Z (Qq (Gx 1 Z ?_));obtain rfl:=Oi h;refine R2 4 5 Z Z ?_;refine En (Ep (s:=4) (k:=8) (t:=48) (XP Z) Z) ?_;exact Lr [4]
  refine Gc 8 Z (Bd a λbb ag a=>?_);refine vU (Yl (ev:=A.bool) (k:=B.Starter.Chip) (v:=true) (l:=g.2.1) Ja ag Z Gs) ?_;refine Fg 6 Z Z (vH (Ek (xs:=[.tmp 96]) (es:=map Starter.c [B.Starter]) Ni Z Z Z Z Z ⟨Z,trivial⟩ Z Z) ?_);refine FE Z (Bd a λbc ah a=>vH (Qh (e:=Starter.c) ah Ni EJ (QF (i:=4))) ?_);exact Fg 8 Z Z (Qg a (Lr [5,1,2]))
 subst ao;refine Gc 8 Z ?_;obtain rfl:=Oi h;exact R2 4 5 Z Z (Lr [0])
def P1(n:Nat)(a:Starter)(d:Int):AB Unit:=some ()
theorem e_(a:Starter)(d:Int):Ks (P1 n a d) 27 [.agg (Starter.c a),.ptr 0 0] [.cells 3 [I d]] (λ_=>.bool (a.Bib==d)):=by
 exact Kg 16 func27 Z Z Z Z λr h=>Rt h 3 [0]
def Lj(e:AA Starter)(f:Int)(a:Int):AB (AG Int (AG Unit Int)):=(bif a<(e.length:Int) then(AJ e a).bind λd=>(P1 n d f).bind λg=>(bif (d.Bib==f)then some (.d (.d a))else some (.k (i64.wrap (a+1))))else some (.d (.k ())))
def L_(e:AA Starter)(f:Int):AB Int:=(iter (Lj n e f) n 0:AB (AG Unit Int)).bind λd=>match d with|.k a=>(some (-1))|.d a=>some a
theorem g7(g:AA Starter)(k:Int):Ks (L_ n g k) 26 [.osl 0 0 g.length 8,.fn (.func 27) [] [.ptr 1 0]] [.row 48 8 (map Starter.c g),.cells 3 [I k]] (λr=>I r):=by
 refine Kg 13 func26 Z Z Z Z λr h=>Bd h λl m h=>BZ (b:=l) [0,1] [] Ze Ze Zf ?_ (λ_ p=>?_)
 .refine G0 1 Z (Lp [0,1] [0,1,7] (λf=>[(8,I f)]) Ze m Zf (Lr [0,1]) λf t a d=>(G0 6 Z (Q5 Z a (λ_ a=>?_) (λ_ a=>?_))))
  .exact Gc 2 Z (Qi a (Gx 1 Z (JD d a Z (Lr [0,1]))))
  refine Gc 15 Z (Bd a λu e a=>(vV (Qn e Z EJ EP) ?_));refine vV (Qv Z isAgg48 EP Z (Qj e) Z Z) ?_;refine Cz [1] a (e_ _ _ _) Z λw s a=>Go 2 Z (Cn Z a (λ_ a=>?_) (λ_ a=>?_))
  .refine Gc 9 Z (Qx a ?_);obtain rfl:=Oj d a;exact Gx 1 Z (Qq (Gx 1 Z (Rt h 4 [0,1])))
  exact Gc 7 Z (Qg a (Lr [0,1]))
 subst p;exact QJ 6 Z h 4 [0,1]
def Mn(a:AE)(d:Int):AB (Distance×Int):=(Hu n a).bind λe=>(bif (e != 0)then some (Uo,e)else((bif d<0 then some true else some (decide ((a.Distances.length:Int)<=d))):AB Bool).bind λf=>(bif f then some (Uo,90)else(AJ a.Distances d).bind λg=>some (g,0)))
theorem ik(e:AE)(f:Int):Kq (Mn n e f) 139 [.agg (AE.c e),I f] [] (λr=>.tup [.agg (Distance.c r.1),I r.2]) (λr=>[.cells 100 (Distance.c r.1)]):=by
 refine Kg 11 func139 Z Z Z Z λr h=>Cz [] h (dZ _ _) Z λm l h=>Go 9 Z (Cn Z h (λ_ h=>?_) (λ_ h=>?_))
 .refine Gc 10 Z ?_;obtain rfl:=Oi h;exact Rx [1] [4,5] Z (Qo Z Z (Aa.cons (Qk isAgg100 Gq Z Z Z) (Aa.cons BT.tmp Aa.nil))) ⟨Z,Z⟩
 refine Gc 4 Z (Bd h λd a h=>Cg d [0,1] [1,2,4] (λd=>[(21,.bool d)]) Ze Zf ?_ ?_)
 .refine G0 4 Z (Is 15 a Z (λ_ a=>?_) (λ_ a=>?_))
  .exact Gl 7 Z a [0,1]
  .exact Go 3 Z (Lm Z (Gl 3 Z a [0,1]))
 refine Cn Z h (λ_ h=>?_) (λ_ h=>?_)
 .refine Gc 9 Z ?_;obtain rfl:=Oi h;exact Rx [1] [4,5] Z (Qo Z Z (Aa.cons (Qk isAgg100 Gq Z Z Z) (Aa.cons BT.tmp Aa.nil))) ⟨Z,Z⟩
 refine Gc 7 Z (Bd h λp k h=>Iz k Z (Go 6 Z ?_));obtain rfl:=Oi h;exact Rx [1] [4,5] Z (Qo Z Z (Aa.cons (Qk isAgg100 Gq Z Z Z) (Aa.cons BT.tmp Aa.nil))) ⟨Z,Z⟩
def IU(n:Nat)(rec194:(AA AF)->(AA Int)->AB (AA Int))(d:AF)(a:(AA Int)×Int):AB (AG ((AA Int)×Int) (AA Int)):=(bif a.2<d.Laps then(rec194 d.Parts a.1).bind λe=>some (.k (e,i64.wrap (a.2+1)))else some (.d a.1))
def Lf(e:AA AF)(rec194:(AA AF)->(AA Int)->AB (AA Int))(a:(AA Int)×Int):AB (AG ((AA Int)×Int) (AA Int)):=(bif a.2<(e.length:Int) then(AJ e a.2).bind λd=>((bif (d.Laps==0)then(app a.1 [d.Mat]).bind λf=>some f else some a.1):AB (AA Int)).bind λg=>(iter (IU n rec194 d) n (g,0):AB (AA Int)).bind λh=>some (.k (h,i64.wrap (a.2+1)))else some (.d a.1))
def dC(rec194:(AA AF)->(AA Int)->AB (AA Int))(n:Nat)(d:AA AF)(e:AA Int):AB (AA Int):=(iter (Lf n d rec194) n (e,0):AB (AA Int)).bind λa=>some a
theorem Qbm(rec194:(AA AF)->(AA Int)->AB (AA Int))(u:∀(w:AA AF) (p:AA Int) (r:AA Int),rec194 w p=some r->C prog 195 [.rsl 3 (map AF.enc w),.ptr 0 0,.ptr 1 0] [.cells 37 [.osl 2 0 p.length 1],.cells 298 [.fn (.func 195) [] [.ptr 0 0,.ptr 1 0]],.row 3 1 (map (Qc .i64) p)] (RQ (λ_=>.tup []) (λr=>[.cells 37 [.osl 3 0 r.length 1],.cells 298 [.fn (.func 195) [] [.ptr 0 0,.ptr 1 0]],.dead,.row 3 1 (map (Qc .i64) r)]) r))(n:Nat)(w:AA AF)(p:AA Int)(r:AA Int)(h:dC rec194 n w p=some r):C prog 195 [.rsl 3 (map AF.enc w),.ptr 0 0,.ptr 1 0] [.cells 37 [.osl 2 0 p.length 1],.cells 298 [.fn (.func 195) [] [.ptr 0 0,.ptr 1 0]],.row 3 1 (map (Qc .i64) p)] (RQ (λ_=>.tup []) (λr=>[.cells 37 [.osl 3 0 r.length 1],.cells 298 [.fn (.func 195) [] [.ptr 0 0,.ptr 1 0]],.dead,.row 3 1 (map (Qc .i64) r)]) r):=by
 refine QG func195 Z Z Z ?_;refine G0 3 Z (Lg 3 Z Z (Bd h λq J h=>Ct q [0,1,2,0] [] Ze (λq=>[(0,.cells 37 [.osl 3 0 q.length 1]),(2,.dead),(3,.row 3 1 (map (Qc .i64) q))]) Zf ?_ (λenv H g=>?_)))
 .refine G0 1 Z (Lp [0,1,2,2] [1,2,6,7] (λk=>[(8,I k.2)]) (λk=>[(0,.cells 37 [.osl 3 0 k.1.length 1]),(2,.dead),(3,.row 3 1 (map (Qc .i64) k.1))]) J Zf ?_ ?_)
  .exact En (xV (i:=2) (j:=0) (m:=0) Z Z Z Z Z) (Lr [0,1,2,3])
  intro k O a x;refine G0 6 Z (Q5 Z a (λ_ a=>?_) (λ_ a=>?_))
  .exact Gc 2 Z (Qi a (Gx 1 Z (JC x a (Lr [0,1,2,3]))))
  refine Gc 6 Z (Bd a λL z a=>CQ z (QP L) Z (Go 13 Z (Bd a λs f a=>Ct s [0,1,2,0,4] [1,2,5,6,7,8] Ze (λs=>[(0,.cells 37 [.osl 3 0 s.length 1]),(3,.row 3 1 (map (Qc .i64) s))]) Zf ?_ (λenv H g=>?_))))
  .refine G0 0 Z (Cn Z f (λ_ f=>?_) (λ_ f=>?_))
   .refine Gc 4 Z (vH (Ek (xs:=[.tmp 17]) Qs Z Z Z Z Z ⟨Z,trivial⟩ Z Z) ?_);refine FE Z (Bd f λP E f=>vH (Qh (e:=(Qc .i64)) E Qs EB (QF (i:=5))) ?_);exact FE Z (Gl 2 Z f [0,1,2,6,4])
   exact YM 1 Z f [0,1,2,3,4]
  refine Gx 1 Z (Qd g (Gc 7 Z (Bd a λt M a=>Ct t [0,1,2,3] [1,2,6,7,8] Ze (λt=>[(0,.cells 37 [.osl 3 0 t.length 1]),(3,.row 3 1 (map (Qc .i64) t))]) Zf ?_ (λenv H g=>?_))))
  .refine G0 1 Z (Lp [0,1,2,3,4] [1,2,5,6,7,8,21] (λl=>[(22,I l.2)]) (λl=>[(0,.cells 37 [.osl 3 0 l.1.length 1]),(3,.row 3 1 (map (Qc .i64) l.1))]) M Zf (Lr [0,1,2,3,4]) λl Q d F=>?_);refine G0 6 Z (Q5 Z d (λ_ d=>?_) (λ_ d=>?_))
   .exact Gc 2 Z (Qi d (Gx 1 Z (JC F d (Lr [0,1,2,3]))))
   exact Gc 8 Z (Cd [0,1,3] d (u _ _) Z λR N d=>Fg 7 Z Z (Qg d (Lr [0,1,2,5,4])))
  exact Gx 2 Z (Qd g (Gc 4 Z (Qg a (Lr [0,1,2,3]))))
 obtain rfl:=Oi h;refine⟨[],_,_,?_,Df.nil Z,Z,Z⟩;exact En g (Lr [0,1,2,3])
def Nx:Nat->(AA AF)->(AA Int)->AB (AA Int)
  |0=>λ_ _=>none
  |n+1=>dC (Nx n) n
theorem tf:∀(d:AA AF) (a:AA Int) (r:AA Int),Nx n d a=some r->C prog 195 [.rsl 3 (map AF.enc d),.ptr 0 0,.ptr 1 0] [.cells 37 [.osl 2 0 a.length 1],.cells 298 [.fn (.func 195) [] [.ptr 0 0,.ptr 1 0]],.row 3 1 (map (Qc .i64) a)] (RQ (λ_=>.tup []) (λr=>[.cells 37 [.osl 3 0 r.length 1],.cells 298 [.fn (.func 195) [] [.ptr 0 0,.ptr 1 0]],.dead,.row 3 1 (map (Qc .i64) r)]) r):=by
  induction n with
  |zero=>intro d a r h;cases h
  |succ n ih=>intro d a r h;exact Qbm _ ih n d a r h
def Mp(a:AA AF):AB (AA Int):=(Nx n a ([]:AA Int)).bind λd=>some d
theorem im(a:AA AF):Kq (Mp n a) 140 [.rsl 3 (map AF.enc a)] [] (λr=>.osl 0 0 r.length 1) (λr=>[.row 3 1 (map (Qc .i64) r),.cells 37 [.osl 0 0 r.length 1]]):=by
 refine Kg 20 func140 Z Z Z Z λr h=>(QB (YY (i:=0) (m:=0) (t:=3) (k:=1) Z Z Z) ?_);refine Cd [0,1,2] h (tf _ _ _) Z λe d h=>Fg 9 Z Z ?_;obtain rfl:=Oi h;exact Rx [3,0] [2] Z (Yk Z (W5 GV Z Z)) ⟨Z,Z⟩
def CP(d:AE)(e:Int):AY->Go.Sw.A->Qb->Prop
  |.c0 x,a,H=>a=.tup [.agg [.rsl 1 (map (Qc .i64) []),.nilm],I x]/\H=[.cells 160 [.rsl 1 (map (Qc .i64) []),.nilm]]
  |.c1 x,a,H=>a=.tup [.agg [.osl 0 0 x.length 1,.nilm],I 2]/\H=[.row 3 1 (map (Qc .i64) x),.cells 160 [.osl 0 0 x.length 1,.nilm]]
  |.c2 x,a,H=>a=.tup [.agg [.osl 0 0 x.1.length 1,.map 1],I 0]/\H=[.row 3 1 (map (Qc .i64) x.1),.map (Qt (λx=>A.agg (Ua.c x)) (λx=>A.agg (BE.c x)) x.2),.cells 160 [.osl 0 0 x.1.length 1,.map 1]]
def Lc(n:Nat)(e:AE)(a:(AA (Ua×BE))×Int):AB (AG ((AA (Ua×BE))×Int) (AA (Ua×BE))):=(bif a.2<(e.Legs.length:Int) then(AJ e.Legs a.2).bind λd=>(some (QR a.1 ({from_:=d.From,to_:=d.To:Ua}) d)).bind λf=>some (.k (f,i64.wrap (a.2+1)))else some (.d a.1))
def Rb(e:AE)(g:Int):AB AY:=(Mn n e g).bind λa=>(bif (a.2 != 0)then some (AY.c0 a.2)else(some ():AB Unit).bind λh=>(Mp n a.1.Route).bind λd=>(bif (i64.wrap (256-(d.length:Int)))<0 then some (AY.c1 d)else(iter (Lc n e) n ([],0):AB (AA (Ua×BE))).bind λf=>some (AY.c2 (d,f))))
theorem fy(g:AE)(i:Int)(r:AY)(h:Rb n g i=some r):C prog 63 [.agg (AE.c g),I i,I 0] [] (CP g i r):=by
 refine QG func63 Z Z Z ?_;refine G0 11 Z (Cd [] h (ik _ _ _) Z λM F h=>Fg 15 Z Z (Cn Z h (λ_ h=>?_) (λ_ h=>?_)))
 .refine Gc 10 Z ?_;obtain rfl:=Oi h;exact Rx [1] [6,7] Z (Qo Z Z (Aa.cons (Qk isAgg160 sizeOf160 Z Z Z) (Aa.cons BT.tmp Aa.nil))) ⟨Z,Z⟩
 refine Gc 4 Z (Bd h λB E h=>Ct B [0,1,3] [2,3,6,8] (λ_=>[(32,.bool false)]) Ze Zf ?_ (λenv H w=>?_))
 .refine G0 2 Z ?_;refine vX (.bool false) (AK.lss (m:=0) (n:=0) Z Z Z) ?_;refine Go 2 Z ?_;refine vX (.bool false) (AK.gtr (m:=0) (n:=0) Z Z Z) ?_ (gT Z);exact Gl 7 Z E [0,1,3]
 refine Gx 1 Z (Qd w (Gc 7 Z (Cd [] h (im _ _) Z λj G h=>Fg 15 Z Z (Cn Z h (λ_ h=>?_) (λ_ h=>?_)))))
 .refine Gc 9 Z ?_;obtain rfl:=Oi h;exact Rx [3,1] [6,7] Z (Qo Z Z (Aa.cons (Qk isAgg160 sizeOf160 Z Z Z) (Aa.cons BT.tmp Aa.nil))) ⟨Z,Z⟩
 refine Gc 6 Z ?_;refine vX (.bool false) (AK.gtr (m:=0) (n:=0) Z Z Z) ?_;refine Go 7 Z (vH Yn ?_);refine Fg 9 Z Z (Lg 3 Z Z (Bd h λe z h=>Cg e [0,1,2] [] (λ_=>[(6,.ptr 0 0)]) (λe=>[(0,.cells 160 [.osl 1 0 j.length 1,.map 2]),(1,.row 3 1 (map (Qc .i64) j)),(2,.map (Qt (λx=>A.agg (Ua.c x)) (λx=>A.agg (BE.c x)) e))]) Zf ?_ ?_))
 .refine G0 1 Z (Lp [1,3,5] [6,79,80] (λd=>[(81,I d.2)]) (λd=>[(0,.cells 160 [.osl 1 0 j.length 1,.map 2]),(2,.map (Qt (λx=>A.agg (Ua.c x)) (λx=>A.agg (BE.c x)) d.1))]) z Zf (Lr [1,3,5]) λd J a p=>?_);refine G0 6 Z (Q5 Z a (λ_ a=>?_) (λ_ a=>?_))
  .exact Gc 2 Z (Qi a (Gx 1 Z (JC p a (Lr [0,1,2]))))
  refine Gc 6 Z (Bd a λf s a=>Iz s Z (Go 14 Z (Bd a λL t a=>?_)));refine vU (Yl (ev:=(λx=>A.agg (BE.c x))) (k:=({from_:=f.From,to_:=f.To:Ua})) (v:=f) (l:=d.1) vb t Z underlying158) ?_;exact Fg 7 Z Z (Qg a (Lr [0,1,2]))
 refine Gc 8 Z ?_;obtain rfl:=Oi h;exact Rx [1,2,0] [6,7] Z (Qo Z Z (Aa.cons (Qk isAgg160 sizeOf160 Z Z Z) (Aa.cons BT.tmp Aa.nil))) ⟨Z,Z⟩
def MI(g:AE)(h:Int):AB ((AA Int)×Int):=((Rb n g h).bind λi=>(match i with|.c0 d=>(some (d,[]))|.c1 e=>(some (2,e))|.c2 f=>(some (0,f.1))):AB (Int×(AA Int))).bind λa=>(bif (a.1 != 0)then some ([],a.1)else some (a.2,0))
theorem iC(f:AE)(l:Int):Ks (MI n f l) 28 [.agg (AE.c f),I l,I 0] [] (λr=>.tup [.rsl 1 (map (Qc .i64) r.1),I r.2]):=by
 refine Kg 8 func28 Z Z Z Z λr h=>Bd h λd e h=>Cg d [0] [] (λd=>[(7,I d.1),(8,.ptr 0 0)]) (λd=>[(0,.cells 160 [.rsl 1 (map (Qc .i64) d.2),.any])]) Zf ?_ ?_
 .refine G0 4 Z (Bd e λq p e=>?_);refine QC [] (Bh.fn call63 Z Z Z) (fy _ _ _ _ p) ?_;intro ra rH g;rcases q with t|u|a
  .obtain⟨rfl,rfl⟩:=g;refine Fg 7 Z Z ?_;cases e;refine JE ?_;refine En (QZ (i:=2) (m:=1) Z) ?_;exact Lr [2]
  .obtain⟨rfl,rfl⟩:=g;refine Fg 7 Z Z ?_;cases e;refine JE ?_;refine En (Ji [(9,_),(13,_),(14,_)] Z Z (Aw.cons Z (BP.tup (Ed (BP.agg (Ed Eo (Ej _))) (Ej _))) (Aw.cons Z (BP.tup (Ed (BP.agg (Ed Eo (Ej _))) (Ej _))) (Aw.cons Z (BP.agg (Ed Eo (Ej _))) Aw.nil))) (Ec (Ec (CE.cells (Ed Eo (Ej _)) (CE.cells (Ed Eo (Ej _)) (YL _)))))) ?_;refine En (QZ (i:=3) (m:=1) Z) ?_;exact Lr [3]
  .obtain⟨rfl,rfl⟩:=g;refine aV (.tup [.agg [.osl 1 0 a.1.length 1,.map 2],I 0]) [.cells 33 (AE.c f),.row 3 1 (map (Qc .i64) a.1),.map (Qt (λx=>A.agg (Ua.c x)) (λx=>A.agg (BE.c x)) a.2),.cells 160 [.osl 1 0 a.1.length 1,.map 2]] Z Z ?_;refine Go 7 Z ?_;cases e;refine JE ?_;refine En (Ji [(9,_),(13,_),(14,_)] Z Z (Aw.cons Z (BP.tup (Ed (BP.agg (Ed Eo (Ej _))) (Ej _))) (Aw.cons Z (BP.tup (Ed (BP.agg (Ed Eo (Ej _))) (Ej _))) (Aw.cons Z (BP.agg (Ed Eo (Ej _))) Aw.nil))) (Ec (Ec (Ec (CE.cells (Ed Eo (Ej _)) (CE.cells (Ed Eo (Ej _)) (YL _))))))) ?_;refine En (QZ (i:=4) (m:=1) Z) ?_;exact Lr [4]
 refine Gc 7 Z (Cn Z h (λ_ h=>?_) (λ_ h=>?_))
 .refine Gc 9 Z ?_;obtain rfl:=Oi h;refine R2 6 7 Z Z ?_;refine En (uG (s:=6) (k:=1) Z) ?_;exact Lr []
 refine Gc 11 Z ?_;obtain rfl:=Oi h;exact R2 6 7 Z Z (Lr [])
def Rr(n:Nat)(a:AA AD):AB Unit:=some ()
theorem gJ(a:AA AD):Kq (Rr n a) 65 [.rsl 4 (map AD.c a)] [] (λ_=>.fn (.func 145) [] [.ptr 0 0]) (λ_=>[.cells 38 [.rsl 4 (map AD.c a)]]):=by
 refine Kg 2 func65 Z Z Z Z λr h=>vH (CD.box Z Z Z Z Z) ?_;exact FE Z (Gt 10 Z h 2 [0])
def Lq(n:Nat)(d:AA AD)(a:Int):AB ((AA AD)×AG Int Unit):=(bif a<(d.length:Int) then(AJ d a).bind λe=>yl e (some ([],.k (i64.wrap (a+1))))else some ([],.d ()))
def It(a:AA AD):AB ((AA AD)×Unit):=ap (KL (Lq n a) n 0) λd=>some ([],())
theorem iw(g:AA AD)(p:(AA AD)×Unit)(h:It n g=some p):K4 prog 145 [.ptr 0 0] [.cells 38 [.rsl 4 (map AD.c g)]] (λx=>[.agg (AD.c x)]) N3 p.1:=by
 obtain⟨xs,u⟩:=p;refine su func145 Z Z Z Z ?_;intro X hE hN;refine TF 1 Z (An.lf (G0 2 Z (Lg 2 Z Z ?_)));obtain⟨r,m,i,q,j,rfl⟩:=nB h;rw[Ve];refine pP m (i++[]) [0] [0] Ze Ze Zf ?_ (λenv H s=>?_)
 .refine TF 1 Z (nM [0] [0,5,6] (λk=>[(7,I k)]) Ze q Zf (Lr [0]) λk t w y a d=>?_);refine TF 1 Z (An.lf ?_);refine G0 3 Z (B6 2 Z (An.lf ?_));refine G0 0 Z (Q5 Z a (λ_ a=>?_) (λ_ a=>?_))
  .refine Gc 1 Z (B6 1 Z ?_);obtain⟨rfl,rfl,rfl⟩:=Oy d a;exact nw (B6 1 Z (nF (Lr [0])))
  refine Gc 1 Z ?_;refine B6 4 Z (An.lf (G0 1 Z (Bd a λz f a=>Iz f Z (Go 4 Z ?_))));refine B6 5 Z ?_;obtain⟨B,l,rfl⟩:=jW a;refine ji hE hN Z Z Z Z ?_ ?_
  .refine TD 3 Z (An.lf ?_);refine G0 2 Z (B6 2 Z (An.lf ?_));exact G0 4 Z (B6 0 Z (O4 l (Lr [0])))
  .exact TD 7 Z (jd (B6 1 Z (jU (⟨.inr Z,.inr ⟨_,Z⟩⟩))))
 cases j;exact⟨.inl Z,.inl Z⟩
def IN(n:Nat)(d:AA AD)(e:AD):AB (AG (AA AD) (AA AD)):=(app d [e]).bind λa=>some (.k a)
def RV(d:AA AD):AB (AA AD):=(It n d).bind λy1=>(F6 (IN n) y1.1 []:AB (AG (AA AD) (AA AD))).bind λe=>match e with|.k a=>(some a)|.d a=>some a
theorem fp(g:AA AD):Kq (RV n g) 199 [.nils,.fn (.func 145) [] [.ptr 0 0]] [.cells 38 [.rsl 4 (map AD.c g)]] (λr=>.osl 1 0 r.length 4) (λr=>[.dead,.row 76 4 (map AD.c r)]):=by
 refine Kg 13 func199 Z Z Z Z λr h=>Bd h λy1 hy1 h=>Bd h λs j h=>(rS [0] (λd=>[.dead,.cells 38 [.osl 2 0 d.length 4],.row 76 4 (map AD.c d)]) j (iw _ _ _ hy1) Zf call145 Z Z Z Z (by decide) Z ?_ ?_ ?_)
 .exact En (YY (i:=1) (m:=0) (t:=76) Z Z Z) (Lr [0,1,2])
 .intro d u l a k;refine G0 4 Z (And.intro Z (G0 4 Z (vH (Ek (xs:=[.tmp 9]) Fl Z Z Z Z Z ⟨Z,trivial⟩ Z Z) ?_)));refine FE Z (Bd a λp f a=>vH (Qh (e:=AD.c) f Fl ED (QF (i:=4))) ?_);exact Fg 3 Z Z (oI a (Lr [0,1,5]))
 rintro q rfl;exact Gx 9 Z (Rt h 4 [0,2])
def RI(a:AA AD):AB (AA AD):=(RV n a).bind λd=>some d
theorem fW(a:AA AD):Kq (RI n a) 143 [.fn (.func 145) [] [.ptr 0 0]] [.cells 38 [.rsl 4 (map AD.c a)]] (λr=>.osl 1 0 r.length 4) (λr=>[.dead,.row 76 4 (map AD.c r)]):=by
 exact Kg 8 func143 Z Z Z Z λr h=>Cd [0] h (fp _ _) Z λe d h=>FE Z (Gt 4 Z h 2 [0,1])
def M2(n:Nat)(a:AD):AB Unit:=some ()
theorem UF(a:AD):Ks (M2 n a) 30 [.agg (AD.c a)] [] (λ_=>I a.Position):=by
 exact Kg 14 func30 Z Z Z Z λr h=>Rt h 2 []
def L8(a:AD)(d:AD):AB Int:=(M2 n a).bind λf=>(M2 n d).bind λg=>(Nw n a.Position d.Position).bind λe=>some e
theorem gy(a:AD)(d:AD):Ks (L8 n a d) 66 [.agg (AD.c a),.agg (AD.c d),.ptr 0 0] [.cells 104 [.fn (.func 30) [] []]] (λr=>I r):=by
 exact Kg 8 func66 Z Z Z Z λr h=>Bj 5 Z (D 2 Z (Dz [] h (UF _ _) Z λi e h=>D 2 Z (Eg Z (Cz [] h (UF _ _) Z λj f h=>Cz [] h (T3 _ _ _) Z λk g h=>Gt 4 Z h 5 [0]))))
def Io(l:Int)(a:(AA AD)×Int):AB (AG ((AA AD)×Int) (AA AD)):=((bif l<a.2 then(AJ a.1 a.2).bind λe=>(AJ a.1 (i64.wrap (a.2-1))).bind λf=>(L8 n e f).bind λg=>some (decide (g<0))else some false):AB Bool).bind λh=>(bif h then(AJ a.1 (i64.wrap (a.2-1))).bind λi=>(AJ a.1 a.2).bind λj=>(AJ a.1 a.2).bind λm=>(D1 a.1 a.2 i).bind λd=>(AJ d (i64.wrap (a.2-1))).bind λp=>(D1 d (i64.wrap (a.2-1)) j).bind λk=>some (.k (k,i64.wrap (a.2-1)))else some (.d a.1))
def IT(e:Int)(f:Int)(a:(AA AD)×Int):AB (AG ((AA AD)×Int) (AA AD)):=(bif a.2<f then(iter (Io n e) n (a.1,a.2):AB (AA AD)).bind λd=>some (.k (d,i64.wrap (a.2+1)))else some (.d a.1))
def RP(e:AA AD)(d:Int)(f:Int):AB (AA AD):=(iter (IT n d f) n (e,i64.wrap (d+1)):AB (AA AD)).bind λa=>some a
theorem ff(R:AA AD)(Y:Int)(a3:Int):Kq (RP n R Y a3) 258 [.osl 0 0 R.length 4,I Y,I a3,.fn (.func 66) [] [.ptr 1 0]] [.row 76 4 (map AD.c R),.cells 104 [.fn (.func 30) [] []]] (λ_=>.tup []) (λr=>[.row 76 4 (map AD.c r),.cells 104 [.fn (.func 30) [] []]]):=by
 refine Kg 7 func258 Z Z Z Z λr h=>Bd h λt T h=>Ct t [0,1] [] Ze (λt=>[(0,.row 76 4 (map AD.c t))]) Zf ?_ (λenv H m=>?_)
 .refine G0 1 Z (Lp [0,1] [1,2,3] (λp=>[(0,.osl 0 0 p.1.length 4),(8,I p.2)]) (λp=>[(0,.row 76 4 (map AD.c p.1))]) T Zf (Lr [0,1]) λp ab i M=>?_);refine G0 8 Z (Q5 Z i (λ_ i=>?_) (λ_ i=>?_))
  .exact Gc 2 Z (Qi i (Gx 1 Z (JC M i (Lr [0,1]))))
  refine Gc 10 Z (Bd i λq V i=>Ct q [0,1] [1,2,3,8] (λq=>[(0,.osl 0 0 q.length 4)]) (λq=>[(0,.row 76 4 (map AD.c q))]) Zf ?_ (λenv H m=>?_))
  .refine G0 1 Z (Lp [0,1] [1,2,3,8] (λd=>[(0,.osl 0 0 d.1.length 4),(9,I d.2)]) (λd=>[(0,.row 76 4 (map AD.c d.1))]) V Zf (Lr [0,1]) λd ac a O=>?_);refine G0 2 Z (Bd a λu g a=>Ct u [0,1] [0,1,2,3,8,9] (λu=>[(34,.bool u)]) Ze Zf ?_ (λenv H m=>?_))
   .refine G0 0 Z (Bj 14 Z (D 4 Z (KN 3 g Z Z Z (λ_ g=>?_) (λ_ g=>?_))))
    .refine D 3 Z ?_;obtain⟨W,w,g⟩:=YE g;refine DS.v (x:=(.ptr 0 (toNat d.2*4))) (Qn w Z ED EI) ?_ (hg:=(gT Z));refine DS.v (x:=(.agg (AD.c W))) (Qv Z EX EI Z (Qj w) Z Z) ?_ (hg:=(gT Z));refine D 3 Z ?_;obtain⟨X,y,g⟩:=YE g;refine DS.v (x:=(.ptr 0 (toNat (i64.wrap (d.2-1))*4))) (Qn y Z ED EI) ?_ (hg:=(gT Z));refine DS.v (x:=(.agg (AD.c X))) (Qv Z EX EI Z (Qj y) Z Z) ?_ (hg:=(gT Z));exact Eg Z (Cz [1] g (gy _ _ _) Z λae aa g=>Gl 3 Z g [0,1])
    .exact D 10 Z (Eg Z (Gl 4 Z g [0,1]))
   refine Gx 1 Z (Qd m (Q5 Z a (λ_ a=>?_) (λ_ a=>?_)))
   .exact Gc 2 Z (Qi a (Gx 1 Z (JC O a (Lr [0,1]))))
   refine Gc 4 Z (FC 16 [15] [(0,0,0),(0,0,0),(0,0,1),(0,0,1),(0,0,1),(0,0,0),(0,0,0),(0,0,0),(0,0,0),(0,0,0),(0,0,0),(0,0,0),(0,0,0),(0,0,0),(0,0,0),(1,0,0)] (by kernel_rfl) (Dk 8 Z ?_));obtain⟨G,z,a⟩:=YE a;refine DK.wo (x:=.ptr 0 (toNat (i64.wrap (d.2-1))*4)) ?_ ?_
   .refine vX (.ptr 0 (toNat (i64.wrap (d.2-1))*4)) (Qn z Z ED EI) ?_;exact Wp
   refine DK.wo (x:=.agg (AD.c G)) ?_ ?_
   .refine vX (.agg (AD.c G)) (Qv Z EX EI Z (Qj z) Z Z) ?_;exact Wp
   refine Dk 2 Z ?_;obtain⟨J,B,a⟩:=YE a;refine DK.wo (x:=.ptr 0 (toNat d.2*4)) ?_ ?_
   .refine vX (.ptr 0 (toNat d.2*4)) (Qn B Z ED EI) ?_;exact Wp
   refine DK.wo (x:=.agg (AD.c J)) ?_ ?_
   .refine vX (.agg (AD.c J)) (Qv Z EX EI Z (Qj B) Z Z) ?_;exact Wp
   obtain⟨af,E,a⟩:=YE a;refine DK.wo (x:=.ptr 0 (toNat d.2*4)) ?_ ?_
   .refine vX (.ptr 0 (toNat d.2*4)) (Qn E Z ED EI) ?_;exact Wp
   obtain⟨L,j,a⟩:=YE a;refine DK.un (X1:=[.row 76 4 (map AD.c L),.cells 104 [.fn (.func 30) [] []]]) ?_ ?_
   .refine vU (JG (e:=AD.c) (k:=4) (f:=0) E j EI Z Z) ?_;refine Ng (H:=[.row 76 4 (map AD.c L),_]) Z ?_;exact Wp
   refine DK.done Z Z ?_;refine QB (QO (s:=0) Z (congrArg (λn=>A.osl 0 0 n 4) (Yh j))) ?_;refine QB (QO (s:=37) Z (congrArg (λn=>A.osl 0 0 n 4) (Yh j))) ?_;refine QB (QO (s:=39) Z (congrArg (λn=>A.osl 0 0 n 4) (Yh j))) ?_;refine QB (QO (s:=42) Z (congrArg (λn=>A.osl 0 0 n 4) (Yh j))) ?_;refine QB (QO (s:=47) Z (congrArg (λn=>A.osl 0 0 n 4) (Yh j))) ?_;refine Bd a λag F a=>?_;refine vX (.ptr 0 (toNat (i64.wrap (d.2-1))*4)) (Qn F Z ED EI) ?_;refine Bd a λah l a=>?_;refine vU (JG (e:=AD.c) (k:=4) (f:=0) F l EI Z Z) ?_;refine FE Z ?_;refine QB (QO (s:=0) Z (congrArg (λn=>A.osl 0 0 n 4) (Yh l))) ?_;refine QB (QO (s:=37) Z (congrArg (λn=>A.osl 0 0 n 4) (Yh l))) ?_;refine QB (QO (s:=39) Z (congrArg (λn=>A.osl 0 0 n 4) (Yh l))) ?_;refine QB (QO (s:=42) Z (congrArg (λn=>A.osl 0 0 n 4) (Yh l))) ?_;refine QB (QO (s:=47) Z (congrArg (λn=>A.osl 0 0 n 4) (Yh l))) ?_;exact Go 8 Z (Qg a (Lr [0,1]))
  exact Gx 2 Z (Qd m (Gc 5 Z (Qg i (Lr [0,1]))))
 obtain rfl:=Oi h;have m:=m;refine⟨[],_,_,?_,Df.nil Z,Z,Z⟩;refine En m ?_;exact Lr [0,1]
def Rq(a:AA AD)(d:Int):AB (AA AD):=(bif d<20 then(LB a (RP n a 0 d)).bind λe=>some e else none)
theorem gI(a:AA AD)(d:Int):Kq (Rq n a d) 200 [.osl 0 0 a.length 4,I d,.fn (.func 66) [] [.ptr 1 0]] [.row 76 4 (map AD.c a),.cells 104 [.fn (.func 30) [] []]] (λ_=>.tup []) (λr=>[.row 76 4 (map AD.c r),.cells 104 [.fn (.func 30) [] []]]):=by
 intro r h;obtain⟨hk1,hk2,h⟩:=jC h;refine QG func200 Z Z Z (G0 23 Z (tV hk1 Z (Gc 11 Z (Bd h λf e h=>?_))));refine QC [0,1] (Bh.fn call258 Z Z Z) (ff _ _ _ _ _ (kr e)) ?_;rintro _ _ ⟨rfl,rfl⟩;refine Go 12 Z (tV hk2 Z (Gc 4 Z ?_));obtain rfl:=Oi h;exact Rx [0,1] [] Z (Df.nil Z) ⟨Z,Z⟩
def RU(a:AA AD):AB (AA AD):=(LB a (Rq n a (a.length:Int))).bind λd=>some d
theorem fm(a:AA AD):Kq (RU n a) 144 [.osl 0 0 a.length 4,.fn (.func 66) [] [.ptr 1 0]] [.row 76 4 (map AD.c a),.cells 104 [.fn (.func 30) [] []]] (λ_=>.tup []) (λr=>[.row 76 4 (map AD.c r),.cells 104 [.fn (.func 30) [] []]]):=by
 refine Kg 5 func144 Z Z Z Z λr h=>Bd h λe d h=>(QC [0,1] (Bh.fn call200 Z Z Z) (gI _ _ _ _ (kr d)) ?_);rintro _ _ ⟨rfl,rfl⟩;refine Go 1 Z ?_;obtain rfl:=Oi h;exact Rx [0,1] [] Z (Df.nil Z) ⟨Z,Z⟩
def SA(d:AA AD):AB (AA AD):=(RI n d).bind λa=>(LB a (RU n a)).bind λe=>some e
theorem gc(d:AA AD):Kq (SA n d) 64 [.fn (.func 145) [] [.ptr 0 0],.fn (.func 66) [] [.ptr 1 0]] [.cells 38 [.rsl 4 (map AD.c d)],.cells 104 [.fn (.func 30) [] []]] (λr=>.osl 2 0 r.length 4) (λr=>[.dead,.cells 104 [.fn (.func 30) [] []],.row 76 4 (map AD.c r)]):=by
 refine Kg 8 func64 Z Z Z Z λr h=>Cd [0] h (fW _ _) Z λf e h=>Fg 7 Z Z (Bd h λg a h=>(QC [2,1] (Bh.fn call144 Z Z Z) (fm _ _ _ (kr a)) ?_));rintro _ _ ⟨rfl,rfl⟩;refine QB (QO (s:=5) Z (congrArg (λn=>A.osl 2 0 n 4) (yB a))) ?_;exact Gt 9 Z h 4 [0,1,2]
def Mg(a:AA AD):AB (AA AD):=(Rr n a).bind λe=>(SA n a).bind λd=>some d
theorem iZ(a:AA AD):Kq (Mg n a) 29 [.rsl 4 (map AD.c a),.fn (.func 30) [] []] [] (λr=>.osl 0 0 r.length 4) (λr=>[.row 76 4 (map AD.c r)]):=by
 exact Kg 9 func29 Z Z Z Z λr h=>Cd [] h (gJ _ _) Z λf d h=>Fg 1 Z Z (Cd [1,0] h (gc _ _) Z λg e h=>FE Z (Gt 4 Z h 4 [2]))
def LX(n:Nat)(f:AA AD)(a:(AA AD)×Int×Int):AB (AG ((AA AD)×Int×Int) (AA AD)):=(bif a.2.2<(f.length:Int) then(AJ a.1 a.2.2).bind λd=>(AJ a.1 a.2.2).bind λg=>(D1 a.1 a.2.2 ({g with Laps:=(if a.2.1<d.Laps then a.2.1 else d.Laps):AD})).bind λe=>(AJ e a.2.2).bind λh=>some (.k (e,i64.wrap (a.2.1-h.Laps),i64.wrap (a.2.2+1)))else some (.d a.1))
def Fq(a:AE)(f:AA AC)(g:Int):AB (AA AD):=(MB n a f).bind λe=>(bif (e.2 != 0)then some []else(L_ n e.1 g).bind λh=>(bif h<0 then some []else(AJ e.1 h).bind λi=>(AJ a.Distances i.Distance).bind λm=>((bif 0<=m.Extra then(MI n a i.Distance).bind λj=>some (i64.wrap (256-(j.1.length:Int)))else some 0):AB Int).bind λp=>(Fu n a f g).bind λk=>(Mg n k.2).bind λd=>(iter (LX n d) n (d,p,0):AB (AA AD)).bind λl=>some l))
theorem Ko(B:AE)(E:AA AC)(F:Int):Kq (Fq n B E F) 11 [.agg (AE.c B),.rsl 57 (map AC.c E),I F] [] (λr=>.osl 0 0 r.length 4) (λr=>[.row 76 4 (map AD.c r)]):=by
 refine Kg 11 func11 Z Z Z Z λr h=>Cd [] h (hQ _ _ _) Z λr1 W h=>Fg 14 Z Z (Cn Z h (λ_ h=>?_) (λ_ h=>?_))
 .refine Gc 7 Z ?_;obtain rfl:=Oi h;refine R1 6 Z ?_;refine En (Ep (s:=6) (k:=4) (t:=76) (XP Z) Z) ?_;exact Lr [3]
 refine Gc 6 Z (Cz [2,1] h (g7 _ _ _) Z λP X h=>Go 10 Z (Cn Z h (λ_ h=>?_) (λ_ h=>?_)))
 .refine Gc 7 Z ?_;obtain rfl:=Oi h;refine R1 6 Z ?_;refine En (Ep (s:=6) (k:=4) (t:=76) (XP Z) Z) ?_;exact Lr [3]
 refine Gc 6 Z (Bd h λQ u h=>?_);refine vX (.ptr 2 (toNat P*8)) (Qn u Z EJ EP) ?_;refine Fp oU Z ?_;refine vX (I Q.Distance) (Ez Z EH Z (Y5 (f:=1) u)) ?_;refine Go 14 Z (Bd h λx6 L h=>Iz L Z (Go 5 Z (Bd h λw g h=>Ct w [0,1] [1,3,5] (λw=>[(11,I w)]) Ze Zf ?_ (λenv H M=>?_))))
 .refine G0 0 Z (Cn Z g (λ_ g=>?_) (λ_ g=>?_))
  .exact Gc 4 Z (Cd [] g (iC _ _ _) Z λY R g=>Fg 9 Z Z (Lm Z (Gl 3 Z g [0,1])))
  exact YM 1 Z g [0,1]
 refine Gx 1 Z (Qd M (Gc 5 Z (Cd [] h (Ku _ _ _ _) Z λaa T h=>Fg 9 Z Z ?_)));refine QB (Ji [(6,_),(50,_),(54,_),(56,_),(57,_)] Z Z (Aw.cons Z Eo (Aw.cons Z (BP.tup (Ed (Ee _) (Ed Eo (Ej _)))) (Aw.cons Z (BP.tup (Ed (Ee _) (Ed Eo (Ej _)))) (Aw.cons Z Eo (Aw.cons Z Eo Aw.nil))))) (Ec (Ec (Ec (Ec (Ec (CE.cells (Ed Eo (Ej _)) (YL _)))))))) ?_;refine Cd [] h (iZ _ _) Z λab V h=>Fg 11 Z Z (Bd h λj N h=>Cg j [0] [] (λj=>[(6,.osl 0 0 j.length 4)]) (λj=>[(0,.row 76 4 (map AD.c j))]) Zf ?_ ?_)
 .refine G0 1 Z (Lp [6] [60] (λd=>[(6,.osl 0 0 d.1.length 4),(11,I d.2.1),(59,.osl 0 0 d.1.length 4),(61,I d.2.2)]) (λd=>[(0,.row 76 4 (map AD.c d.1))]) N Zf (Lr [6]) λd ac a y=>?_);refine G0 6 Z (Q5 Z a (λ_ a=>?_) (λ_ a=>?_))
  .exact Gc 2 Z (Qi a (Gx 1 Z (JC y a (Lr [0]))))
  refine Gc 7 Z (Bd a λl m a=>?_);refine vX (.ptr 0 (toNat d.2.2*4)) (Qn m Z ED EI) ?_;refine vX (.agg (AD.c l)) (Qv Z EX EI Z (Qj m) Z Z) ?_;refine Go 12 Z ?_;refine vX (I (if d.2.1<l.Laps then d.2.1 else l.Laps)) (AK.min Z Z Z Z) ?_;refine Bd a λae p a=>?_;refine vX (.ptr 0 (toNat d.2.2*4)) (Qn p Z ED EI) ?_;refine Fp Sp Z (Bd a λaf i a=>?_);refine vU (JG (e:=AD.c) (k:=4) (f:=2) p i EG Z Z) ?_;refine FE Z ?_;refine QB (QO (s:=6) Z (congrArg (λn=>A.osl 0 0 n 4) (Yh i))) ?_;refine QB (QO (s:=59) Z (congrArg (λn=>A.osl 0 0 n 4) (Yh i))) ?_;refine QB (QO (s:=66) Z (congrArg (λn=>A.osl 0 0 n 4) (Yh i))) ?_;refine Go 6 Z (Bd a λO q a=>?_);refine vX (.ptr 0 (toNat d.2.2*4)) (Qn q Z ED EI) ?_;refine Fp Sp Z ?_;refine vX (I O.Laps) (Ez Z EH Z (Y5 (f:=2) q)) ?_;exact Go 9 Z (Qg a (Lr [0]))
 exact QJ 7 Z h 6 [0]
def mU(n:Nat)(f:AA AD)(g:Int)(a:Int×Int×Bool×Int):AB (AG (Int×Int×Bool×Int) (Int×Int×Bool)):=(bif a.2.2.2<(f.length:Int) then(AJ f a.2.2.2).bind λd=>((bif d.Position<=g then(bif a.2.2.1 then some (i64.wrap (a.1+d.Time),i64.wrap (a.2.1+d.Laps),true)else some (i64.wrap (a.1+d.Time),i64.wrap (a.2.1+d.Laps),d.Out))else some (a.1,a.2.1,a.2.2.1)):AB (Int×Int×Bool)).bind λe=>some (.k (e.1,e.2.1,e.2.2,i64.wrap (a.2.2.2+1)))else some (.d (a.1,a.2.1,a.2.2.1)))
def ZZ(d:AA AD)(e:Int):AB (Int×Int×Bool):=(iter (mU n d e) n (0,0,false,0):AB (Int×Int×Bool)).bind λa=>some (a.1,a.2.1,a.2.2)
theorem eN(q:AA AD)(s:Int):Ks (ZZ n q s) 16 [.rsl 4 (map AD.c q),I s] [] (λr=>.tup [I r.1,I r.2.1,.bool r.2.2]):=by
 refine Kg 11 func16 Z Z Z Z λr h=>Lg 3 Z Z (Bd h λi t h=>Cg i [] [] (λi=>[(4,I i.1),(5,I i.2.1),(6,.bool i.2.2)]) Ze Zf ?_ ?_)
 .refine G0 1 Z (Lp [] [1,9,10] (λa=>[(4,I a.1),(5,I a.2.1),(6,.bool a.2.2.1),(11,I a.2.2.2)]) Ze t Zf (Lr []) λa w e k=>?_);refine G0 6 Z (Q5 Z e (λ_ e=>?_) (λ_ e=>?_))
  .exact Gc 2 Z (Qi e (Gx 1 Z (JC k e (Lr []))))
  refine Gc 6 Z (Bd e λd m e=>Iz m Z (Go 13 Z (Bd e λj g e=>Ct j [] [1,9,10,11] (λj=>[(4,I j.1),(5,I j.2.1),(6,.bool j.2.2)]) Ze Zf ?_ (λenv H u=>?_))))
  .refine G0 0 Z (Cn Z g (λ_ g=>?_) (λ_ g=>?_))
   .refine If g (λf g=>?_) (λf g=>?_)
    .refine TC.draw0 15 [19,20,21,22,23,24,25,26,27,28,29,30,31,4,5] [I a.1,.ptr 0 1,I d.Time,I (i64.wrap (a.1+d.Time)),I a.2.1,.ptr 0 2,I d.Laps,I (i64.wrap (a.2.1+d.Laps)),.bool a.2.2.1,.bool a.2.2.1,.tup [],.tup [],.bool true,I (i64.wrap (a.1+d.Time)),I (i64.wrap (a.2.1+d.Laps))] C1 Z Z Z ?_ ?_
     .refine Oq.c ?_ (ov (ov (Oq.c ?_ (Oq.c ?_ (ov (ov (Oq.c ?_ (ov (ov (Oq.c ?_ (Oq.c ?_ (Oq.c ?_ (ov (ov (Oq.n)))))))))))))))
      .refine Om Z (sP 13 sN) ?_;exact S Z Wp
      .refine Om Z (sD 0 (sD 2 sN)) ?_;exact S Z Wp
      .refine Om Z (sP 14 sN) ?_;exact S Z Wp
      .refine Om Z (sD 4 (sD 6 sN)) ?_;exact S Z Wp
      .refine Om Z (sO 8 (sD 9 sN)) ?_;exact K (gF f) Z Wp
      .refine Om Z (sD 9 (sD 10 sN)) ?_;exact K (gF f) Z Wp
      .refine Om Z (sD 9 (sD 11 sN)) ?_;exact Pk f Z Wp
     exact Gl 2 Z g []
    .refine TC.draw0 15 [19,20,21,22,23,24,25,26,27,28,29,30,31,4,5] [I a.1,.ptr 0 1,I d.Time,I (i64.wrap (a.1+d.Time)),I a.2.1,.ptr 0 2,I d.Laps,I (i64.wrap (a.2.1+d.Laps)),.bool a.2.2.1,.bool a.2.2.1,.ptr 0 3,.bool d.Out,.bool d.Out,I (i64.wrap (a.1+d.Time)),I (i64.wrap (a.2.1+d.Laps))] C1 Z Z Z ?_ ?_
     .refine Oq.c ?_ (ov (ov (Oq.c ?_ (Oq.c ?_ (ov (ov (Oq.c ?_ (ov (ov (Oq.c ?_ (Oq.c ?_ (Oq.c ?_ (ov (ov (Oq.n)))))))))))))))
      .refine Om Z (sP 13 sN) ?_;exact S Z Wp
      .refine Om Z (sD 0 (sD 2 sN)) ?_;exact S Z Wp
      .refine Om Z (sP 14 sN) ?_;exact S Z Wp
      .refine Om Z (sD 4 (sD 6 sN)) ?_;exact S Z Wp
      .refine Om Z (sO 8 (sD 9 sN)) ?_;exact Y' (gT f) vM Z Wp
      .refine Om Z (sD 9 (sD 10 sN)) ?_;exact l3 (gT f) isAgg4 Z Wp
      .refine Om Z (sD 9 (sD 11 sN)) ?_;exact Pk f Z Wp
     exact Gl 2 Z g []
   exact YM 1 Z g []
  exact Gx 2 Z (Qd u (Gc 4 Z (Qg e (Lr []))))
 refine Gc 11 Z ?_;obtain rfl:=Oi h;exact Rx [] [4,5,6] Z (zd Z Z Z Z) ⟨Z,Z⟩
def LT(n:Nat)(d:AA AD)(a:Int×Int):AB (AG (Int×Int) Int):=(bif a.2<(d.length:Int) then(AJ d a.2).bind λe=>some (.k (i64.wrap (a.1+e.Laps),i64.wrap (a.2+1)))else some (.d a.1))
def M0(a:AE)(d:AA AC)(e:Int):AB Int:=(Fq n a d e).bind λf=>(iter (LT n f) n (0,0):AB Int).bind λg=>some g
theorem UD(i:AE)(j:AA AC)(k:Int):Ks (M0 n i j k) 13 [.agg (AE.c i),.rsl 57 (map AC.c j),I k] [] (λr=>I r):=by
 refine Kg 12 func13 Z Z Z Z λr h=>Cd [] h (Ko _ _ _ _) Z λt p h=>Fg 4 Z Z (Bd h λf m h=>Cg f [] [] (λf=>[(6,I f)]) Ze Zf ?_ ?_)
 .refine G0 1 Z (Lp [1] [12,13] (λd=>[(6,I d.1),(14,I d.2)]) Ze m Zf (Lr [1]) λd q a l=>?_);refine G0 6 Z (Q5 Z a (λ_ a=>?_) (λ_ a=>?_))
  .exact Gc 2 Z (Qi a (Gx 1 Z (JC l a (Lr []))))
  refine Gc 6 Z (Bd a λs e a=>(vV (Qn e Z ED EI) ?_));refine vV (Qv Z EX EI Z (Qj e) Z Z) ?_;exact Go 17 Z (Qg a (Lr [0]))
 exact QJ 7 Z h 6 []
def mD(n:Nat)(d:AA Int)(g:AA Int)(a:Int):AB (AG Int (AG Unit Bool)):=(bif a<(d.length:Int) then(AJ d a).bind λe=>(AJ g a).bind λf=>(bif (e != f)then some (.d (.d false))else some (.k (i64.wrap (a+1))))else some (.d (.k ())))
def SH(d:AA Int)(e:AA Int):AB Bool:=(bif ((d.length:Int) != (e.length:Int))then some false else(iter (mD n d e) n 0:AB (AG Unit Bool)).bind λf=>match f with|.k a=>(some true)|.d a=>some a)
theorem T5(k:AA Int)(l:AA Int):Ks (SH n k l) 9 [.rsl 1 (map (Qc .i64) k),.rsl 1 (map (Qc .i64) l)] [] (λr=>.bool r):=by
 refine Kg 9 func9 Z Z Z Z λr h=>Lg 1 Z Z (Lg 3 Z Z (Cn Z h (λ_ h=>?_) (λ_ h=>?_)))
 .exact QJ 7 Z h 4 []
 refine Gc 8 Z (Bd h λp q h=>BZ (b:=p) [] [] Ze Ze Zf ?_ (λ_ s=>?_))
 .refine G0 1 Z (Lp [] [0,1] (λe=>[(5,I e)]) Ze q Zf (Lr []) λe y a d=>(G0 5 Z (Lg 3 Z Z (Q5 Z a (λ_ a=>?_) (λ_ a=>?_)))))
  .exact Gc 2 Z (Qi a (Gx 1 Z (JD d a Z (Lr []))))
  refine Gc 5 Z (Bj 8 Z (D 2 Z ?_));obtain⟨t,g,a⟩:=YE a;refine DS.wo (x:=.rp [I t]) ?_ ?_
  .exact Ix g EB EG Z Wp
  refine D 3 Z ?_;obtain⟨u,i,a⟩:=YE a;refine DS.wo (x:=.rp [I u]) ?_ ?_
  .exact Ix i EB EG Z Wp
  refine D 1 Z (Eg Z (Go 3 Z (Cn Z a (λ_ a=>?_) (λ_ a=>?_))))
  .refine Gc 8 Z (Qx a ?_);obtain rfl:=Oj d a;exact Gx 1 Z (Qq (Gx 1 Z (Rt h 4 [])))
  exact Gc 8 Z (Qg a (Lr []))
 subst s;exact QJ 6 Z h 4 []
def ZB(n:Nat)(d:AA AD)(g:AA AD)(a:Int):AB (AG Int (AG Unit Bool)):=(bif a<(d.length:Int) then(AJ d a).bind λe=>(AJ g a).bind λf=>(bif (e != f)then some (.d (.d false))else some (.k (i64.wrap (a+1))))else some (.d (.k ())))
def HT(d:AA AD)(e:AA AD):AB Bool:=(bif ((d.length:Int) != (e.length:Int))then some false else(iter (ZB n d e) n 0:AB (AG Unit Bool)).bind λf=>match f with|.k a=>(some true)|.d a=>some a)
theorem Kn(m:AA AD)(p:AA AD):Ks (HT n m p) 10 [.rsl 4 (map AD.c m),.rsl 4 (map AD.c p)] [] (λr=>.bool r):=by
 refine Kg 9 func10 Z Z Z Z λr h=>Lg 1 Z Z (Lg 3 Z Z (Cn Z h (λ_ h=>?_) (λ_ h=>?_)))
 .exact QJ 7 Z h 4 []
 refine Gc 8 Z (Bd h λs t h=>BZ (b:=s) [] [] Ze Ze Zf ?_ (λ_ u=>?_))
 .refine G0 1 Z (Lp [] [0,1] (λg=>[(5,I g)]) Ze t Zf (Lr []) λg y a f=>(G0 5 Z (Lg 3 Z Z (Q5 Z a (λ_ a=>?_) (λ_ a=>?_)))))
  .exact Gc 2 Z (Qi a (Gx 1 Z (JD f a Z (Lr []))))
  refine Gc 5 Z (Bj 8 Z (D 2 Z ?_));obtain⟨d,j,a⟩:=YE a;refine DS.wo (x:=.rp [I d.Position,I d.Time,I d.Laps,.bool d.Out]) ?_ ?_
  .exact Ix j ED EI Z Wp
  refine D 3 Z ?_;obtain⟨e,k,a⟩:=YE a;refine DS.wo (x:=.rp [I e.Position,I e.Time,I e.Laps,.bool e.Out]) ?_ ?_
  .exact Ix k ED EI Z Wp
  refine D 1 Z (Eg Z (vV (rQ t2 Z Z) ?_));refine Go 2 Z (Cn Z a (λ_ a=>?_) (λ_ a=>?_))
  .refine Gc 8 Z (Qx a ?_);obtain rfl:=Oj f a;exact Gx 1 Z (Qq (Gx 1 Z (Rt h 4 [])))
  exact Gc 8 Z (Qg a (Lr []))
 subst u;exact QJ 6 Z h 4 []
abbrev F2:AA AC:=[{Up with No:=1,Kind:=1,Starter:={Uz with Bib:=5:Starter}:AC},{Up with No:=2,Kind:=8,Report:={Case:=3,Bib:=5,Offence:=0,Position:=1:Report}:AC},{Up with No:=3,Kind:=8,Report:={Case:=4,Bib:=5,Offence:=1,Position:=0:Report}:AC},{Up with No:=4,Kind:=10,Ruling:={Ux with Case:=3,Instance:=1,Kind:=2:Ruling}:AC}]
abbrev C0:AA AC:=[{Up with No:=1,Kind:=1,Starter:={Uz with Bib:=5:Starter}:AC},{Up with No:=2,Kind:=8,Report:={Case:=3,Bib:=5,Offence:=0,Position:=1:Report}:AC},{Up with No:=3,Kind:=8,Report:={Case:=4,Bib:=5,Offence:=1,Position:=0:Report}:AC}]
abbrev NM:AA Offence:=[{Name:=[100,114,97,102,116,105,110,103],Time:=60,Laps:=0,Out:=false:Offence},{Name:=[115,104,111,114,116,99,117,116],Time:=0,Laps:=2,Out:=false:Offence}]
abbrev NL:AA Distance:=[{Name:=[100],Route:=[Us,{Us with Mat:=1:AF}],Timing:=1,Cutoffs:=[],Extra:=(-1):Distance}]
abbrev Cy:AA AC:=[{Up with No:=2,Kind:=8,Report:={Case:=3,Bib:=5,Offence:=0,Position:=1:Report}:AC}]
abbrev NK:AA Mat:=[{Name:=[108,105,110,101],Kind:=1:Mat},{Name:=[103,111,97,108],Kind:=3:Mat}]
abbrev NN:AA A:=[.str [97],.rsl 2 (map Mat.c NK),.rsl 4 (map BE.c [{From:=0,To:=1,Min:=0,Max:=50:BE}]),.rsl 5 (map Distance.c NL),.rsl 2 (map Wave.c [{Name:=[119],Gun:=0:Wave}]),.rsl 4 (map Offence.c NM),.rsl 3 (map Category.c []),.rsl 4 (map AW.c []),.rsl 8 (map Step.enc [{UA with Kind:=1,By:=5:Step}]),I 0,I 0,I 0,I 0,I 0,I 0,I 0]
abbrev FH:AE:={Name:=[97],Mats:=NK,Legs:=[{From:=0,To:=1,Min:=0,Max:=50:BE}],Distances:=NL,Waves:=[{Name:=[119],Gun:=0:Wave}],Offences:=NM,Categories:=[],Prizes:=[],Ties:=[{UA with Kind:=1,By:=5:Step}],Faults:=Uq,Fee:=0,Deadline:=0:AE}
abbrev F0:AA AD:=[{Position:=3,Time:=60,Laps:=2,Out:=true:AD}]
abbrev DM:AD:={Position:=1,Time:=60,Laps:=0,Out:=false:AD}
abbrev F1:AA AD:=[DM,{Ut with Laps:=2:AD}]
abbrev Dv:AA AD:=[{Ut with Laps:=2:AD}]
def Rn:AB Bool:=(Zh n).bind λs=>(Fu n (FH) C0 5).bind λd=>(Fq n (FH) C0 5).bind λq=>(Fu n (FH) F2 5).bind λe=>(ZZ n F0 2).bind λa=>(Fu n (FH) [] 5).bind λr=>((bif ((r.1.length:Int) != 0)then some true else(Fq n (FH) Cy 5).bind λf=>(bif ((f.length:Int) != 0)then some true else(bif (a.1 != 0)then some true else(bif (a.2.1 != 0)then some true else(bif a.2.2 then some true else(M0 n Un Cy 5).bind λg=>some (g != 0)))))):AB Bool).bind λh=>(bif h then some false else((SH n d.1 [3,4]).bind λi=>(bif i then(HT n d.2 F1).bind λj=>(bif j then(HT n q [Ut,DM]).bind λk=>(bif k then(SH n e.1 [4]).bind λl=>(bif l then(HT n e.2 Dv).bind λm=>some m else some false)else some false)else some false)else some false):AB Bool).bind λp=>some p)
theorem gE:Ks (Rn n) 5 [] [] (λr=>.bool r):=by
 refine Kg 7 func5 Z Z Z Z λr h=>Cd [] h (eU _) Z λr1 R h=>?_;refine Go 42 Z (vH (Ek (xs:=[.tmp 27,.tmp 28,.tmp 29]) (es:=map AC.c C0) Jf Z Z Z Z Z ⟨Z,Z,Z,trivial⟩ Z Z) ?_);refine aV (.osl 12 0 (C0.length) 57) [_,_,_,_,_,_,_,_,_,_,_,_,.row 72 57 (map AC.c C0)] Z Z ?_;refine QB (Ji [(16,_),(26,_)] Z Z (Aw.cons Z (BP.agg (Ed (Ee _) (Ed Eo (Ej _)))) (Aw.cons Z (BP.agg (Ed (Ee _) (Ed Eo (Ej _)))) Aw.nil)) (Ec (Ec (Ec (Ec (Ec (Ec (CE.cells (Ed (Ee _) (Ed Eo (Ej _))) (CE.cells (Ed (Ee _) (Ed Eo (Ej _))) (YL _)))))))))) ?_;refine QB (Ji [(16,_),(26,_)] Z Z (Aw.cons Z (BP.agg (Ed (Ee _) (Ed (Ee _) (Ed Eo (Ej _))))) (Aw.cons Z (BP.agg (Ed (Ee _) (Ed (Ee _) (Ed Eo (Ej _))))) Aw.nil)) (Ec (Ec (Ec (Ec (Ec (Ec (CE.cells (Ed (Ee _) (Ed (Ee _) (Ed Eo (Ej _)))) (CE.cells (Ed (Ee _) (Ed (Ee _) (Ed Eo (Ej _)))) (YL _)))))))))) ?_;refine QB (Ji [(16,_),(26,_)] Z Z (Aw.cons Z (BP.agg (Ed (Ee _) (Ed (Ee _) (Ed (Ee _) (Ed Eo (Ej _)))))) (Aw.cons Z (BP.agg (Ed (Ee _) (Ed (Ee _) (Ed (Ee _) (Ed Eo (Ej _)))))) Aw.nil)) (Ec (Ec (Ec (Ec (Ec (Ec (CE.cells (Ed (Ee _) (Ed (Ee _) (Ed (Ee _) (Ed Eo (Ej _))))) (CE.cells (Ed (Ee _) (Ed (Ee _) (Ed (Ee _) (Ed Eo (Ej _))))) (YL _)))))))))) ?_;refine QB (Ji [(16,_),(26,_)] Z Z (Aw.cons Z (BP.agg (Ed (Ee _) (Ed (Ee _) (Ed (Ee _) (Ed (Ee _) (Ed Eo (Ej _))))))) (Aw.cons Z (BP.agg (Ed (Ee _) (Ed (Ee _) (Ed (Ee _) (Ed (Ee _) (Ed Eo (Ej _))))))) Aw.nil)) (Ec (Ec (Ec (Ec (Ec (Ec (CE.cells (Ed (Ee _) (Ed (Ee _) (Ed (Ee _) (Ed (Ee _) (Ed Eo (Ej _)))))) (CE.cells (Ed (Ee _) (Ed (Ee _) (Ed (Ee _) (Ed (Ee _) (Ed Eo (Ej _)))))) (YL _)))))))))) ?_;refine QB (Ji [(16,_),(26,_)] Z Z (Aw.cons Z (BP.agg (Ed (Ee _) (Ed (Ee _) (Ed (Ee _) (Ed (Ee _) (Ed (Ee _) (Ed Eo (Ej _)))))))) (Aw.cons Z (BP.agg (Ed (Ee _) (Ed (Ee _) (Ed (Ee _) (Ed (Ee _) (Ed (Ee _) (Ed Eo (Ej _)))))))) Aw.nil)) (Ec (Ec (Ec (Ec (Ec (Ec (CE.cells (Ed (Ee _) (Ed (Ee _) (Ed (Ee _) (Ed (Ee _) (Ed (Ee _) (Ed Eo (Ej _))))))) (CE.cells (Ed (Ee _) (Ed (Ee _) (Ed (Ee _) (Ed (Ee _) (Ed (Ee _) (Ed Eo (Ej _))))))) (YL _)))))))))) ?_;refine QB (Ji [(16,_),(26,_)] Z Z (Aw.cons Z (BP.agg (Ed (Ee _) (Ed (Ee _) (Ed (Ee _) (Ed (Ee _) (Ed (Ee _) (Ed (Ee _) (Ed (Ee _) (Ed (Ee _) (Ed Eo (Ej _))))))))))) (Aw.cons Z (BP.agg (Ed (Ee _) (Ed (Ee _) (Ed (Ee _) (Ed (Ee _) (Ed (Ee _) (Ed (Ee _) (Ed (Ee _) (Ed (Ee _) (Ed Eo (Ej _))))))))))) Aw.nil)) (Ec (Ec (Ec (Ec (Ec (Ec (CE.cells (Ed (Ee _) (Ed (Ee _) (Ed (Ee _) (Ed (Ee _) (Ed (Ee _) (Ed (Ee _) (Ed (Ee _) (Ed (Ee _) (Ed Eo (Ej _)))))))))) (CE.cells (Ed (Ee _) (Ed (Ee _) (Ed (Ee _) (Ed (Ee _) (Ed (Ee _) (Ed (Ee _) (Ed (Ee _) (Ed (Ee _) (Ed Eo (Ej _)))))))))) (YL _)))))))))) ?_;refine QB (Ji [(30,_)] Z Z (Aw.cons Z Eo Aw.nil) (Ec (Ec (Ec (Ec (Ec (Ec (Ec (Ec (Ec (Ec (Ec (Ec (Ec (YL _))))))))))))))) ?_;refine Cd [] h (Ku _ _ _ _) Z λe T h=>?_;refine aV (.tup [.osl 13 0 e.1.length 1,.osl 14 0 e.2.length 4]) [.dead,.dead,.dead,.dead,.dead,.dead,.cells 33 NN,.cells 33 NN,_,_,_,_,.dead,.row 3 1 (map (Qc .i64) e.1),.row 76 4 (map AD.c e.2),.cells 37 [.osl 13 0 e.1.length 1],.cells 38 [.osl 14 0 e.2.length 4]] Z Z ?_;refine Go 13 Z (vH (Ek (xs:=[.tmp 35,.tmp 36,.tmp 37]) (es:=map AC.c C0) Jf Z Z Z Z Z ⟨Z,Z,Z,trivial⟩ Z Z) ?_);refine aV (.osl 17 0 (C0.length) 57) [_,_,_,_,_,_,_,_,_,_,_,_,_,_,_,_,_,.row 72 57 (map AC.c C0)] Z Z ?_;refine QB (Ji [(38,_)] Z Z (Aw.cons Z Eo Aw.nil) (Ec (Ec (Ec (Ec (Ec (Ec (Ec (Ec (Ec (Ec (Ec (Ec (Ec (Ec (Ec (Ec (Ec (Ec (YL _)))))))))))))))))))) ?_;refine Cd [] h (Ko _ _ _ _) Z λB V h=>?_;refine aV (.osl 18 0 B.length 4) [_,_,_,_,_,_,_,_,_,_,_,_,_,_,_,_,_,.dead,.row 76 4 (map AD.c B)] Z Z ?_;refine Go 10 Z (vH (Ek (xs:=[.tmp 42,.tmp 43,.tmp 44,.tmp 45]) (es:=map AC.c F2) Jf Z Z Z Z Z ⟨Z,Z,Z,Z,trivial⟩ Z Z) ?_);refine aV (.osl 19 0 (F2.length) 57) [_,_,_,_,_,_,_,_,_,_,_,_,_,_,_,_,_,_,_,.row 72 57 (map AC.c F2)] Z Z ?_;refine QB (Ji [(46,_)] Z Z (Aw.cons Z Eo Aw.nil) (Ec (Ec (Ec (Ec (Ec (Ec (Ec (Ec (Ec (Ec (Ec (Ec (Ec (Ec (Ec (Ec (Ec (Ec (Ec (Ec (YL _)))))))))))))))))))))) ?_;refine Cd [] h (Ku _ _ _ _) Z λf W h=>?_;refine aV (.tup [.osl 20 0 f.1.length 1,.osl 21 0 f.2.length 4]) [_,_,_,_,_,_,_,_,_,_,_,_,_,_,_,_,_,_,_,.dead,.row 3 1 (map (Qc .i64) f.1),.row 76 4 (map AD.c f.2),.cells 37 [.osl 20 0 f.1.length 1],.cells 38 [.osl 21 0 f.2.length 4]] Z Z ?_;refine Go 10 Z (vH (Ek (xs:=[.tmp 51]) (es:=map AD.c F0) Fl Z Z Z Z Z ⟨Z,trivial⟩ Z Z) ?_);refine aV (.osl 24 0 (F0.length) 4) [_,_,_,_,_,_,_,_,_,_,_,_,_,_,_,_,_,_,_,_,_,_,_,_,.row 76 4 (map AD.c F0)] Z Z ?_;refine Bd h λl E h=>?_;refine b7 (Bh.fn call16 rfl rfl rfl) (DI.cons rfl (.inr ⟨_,_,_,_,_,rfl,rfl,XZ ..,rfl⟩) (DI.cons rfl (.inl ⟨rfl,rfl⟩) DI.nil)) (eN _ _ _ _ E) (by rintro _ _ ⟨rfl,rfl⟩;rfl) ?_;rintro _ _ ⟨rfl,rfl⟩;refine aV (.tup [I l.1,I l.2.1,.bool l.2.2]) [_,_,_,_,_,_,_,_,_,_,_,_,_,_,_,_,_,_,_,_,_,_,_,_,_] Z Z ?_;refine Go 12 Z (Bd h λg F h=>?_);refine QC [] (Bh.fn call7 Z Z Z) (C.nils (H6.eq (H6.nl (H6.eq H6.nil))) (Ku _ _ _ _ _ F)) ?_;rintro _ _ ⟨rfl,rfl⟩;refine aV (.tup [.osl 25 0 g.1.length 1,.osl 26 0 g.2.length 4]) [_,_,_,_,_,_,_,_,_,_,_,_,_,_,_,_,_,_,_,_,_,_,_,_,_,.row 3 1 (map (Qc .i64) g.1),.row 76 4 (map AD.c g.2),.cells 37 [.osl 25 0 g.1.length 1],.cells 38 [.osl 26 0 g.2.length 4]] Z Z ?_;refine Go 9 Z (Bd h λi d h=>Ct i [13,14,18,20,21] [6,7,8,9,10] (λi=>[(90,.bool i)]) Ze Zf ?_ (λenv H G=>?_))
 .refine G0 5 Z (Is 65 d Z (λ_ d=>?_) (λ_ d=>?_))
  .exact Gl 26 Z d [13,14,18,20,21]
  .refine Go 2 Z (vH (Ek (xs:=[.tmp 67]) (es:=map AC.c Cy) Jf Z Z Z Z Z ⟨Z,trivial⟩ Z Z) ?_ (gT Z));refine aV (.osl 29 0 (Cy.length) 57) [_,_,_,_,_,_,_,_,_,_,_,_,_,_,_,_,_,_,_,_,_,_,_,_,_,_,_,_,_,.row 72 57 (map AC.c Cy)] Z Z ?_;refine QB (Ji [(68,_)] Z Z (Aw.cons Z Eo Aw.nil) (Ec (Ec (Ec (Ec (Ec (Ec (Ec (Ec (Ec (Ec (Ec (Ec (Ec (Ec (Ec (Ec (Ec (Ec (Ec (Ec (Ec (Ec (Ec (Ec (Ec (Ec (Ec (Ec (Ec (Ec (YL _)))))))))))))))))))))))))))))))) ?_;refine Cd [] d (Ko _ _ _ _) Z λk J d=>?_;refine aV (.osl 30 0 k.length 4) [_,_,_,_,_,_,_,_,_,_,_,_,_,_,_,_,_,_,_,_,_,_,_,_,_,_,_,_,_,.dead,.row 76 4 (map AD.c k)] Z Z ?_;refine Go 4 Z (Is 73 d Z (λ_ d=>?_) (λ_ d=>?_))
   .exact Gl 18 Z d [13,14,18,20,21]
   .refine Go 4 Z (Is 77 d Z (λ_ d=>?_) (λ_ d=>?_))
    .exact Gl 14 Z d [13,14,18,20,21]
    .refine Go 4 Z (Is 81 d Z (λ_ d=>?_) (λ_ d=>?_))
     .exact Gl 10 Z d [13,14,18,20,21]
     .refine Go 3 Z (Is 84 d Z (λ_ d=>?_) (λ_ d=>?_))
      .exact Gl 7 Z d [13,14,18,20,21]
      .refine Go 2 Z (vH (Ek (xs:=[.tmp 86]) (es:=map AC.c Cy) Jf Z Z Z Z Z ⟨Z,trivial⟩ Z Z) ?_ (gT Z));refine aV (.osl 31 0 (Cy.length) 57) [_,_,_,_,_,_,_,_,_,_,_,_,_,_,_,_,_,_,_,_,_,_,_,_,_,_,_,_,_,_,_,.row 72 57 (map AC.c Cy)] Z Z ?_;exact Cb d (UD _ _ _ _) Z (ls (lo (ls ln))) λX L d=>Gl 3 Z d [13,14,18,20,21]
 refine Gx 1 Z (Qd G (Cn Z h (λ_ h=>?_) (λ_ h=>?_)))
 .exact QJ 7 Z h 0 []
 refine Gc 3 Z (Bd h λj a h=>Cg j [] [] (λj=>[(0,.bool j)]) Ze Zf ?_ ?_)
 .refine G0 2 Z (vH (Ek (xs:=[.const (.int .i64 3),.const (.int .i64 4)]) (es:=map (Qc .i64) [3,4]) Qs Z Z Z Z Z ⟨Z,Z,trivial⟩ Z Z) ?_);refine aV (.osl 5 0 ([3,4].length) 1) [_,_,_,_,_,.row 3 1 (map (Qc .i64) [3,4])] Z Z ?_;refine Cb a (T5 _ _ _) Z (lo (lo ln)) λY M a=>Go 1 Z (Is 94 a Z (λ_ a=>?_) (λ_ a=>?_))
  .refine Go 3 Z (vH (Ek (xs:=[.tmp 96,.tmp 97]) (es:=map AD.c F1) Fl Z Z Z Z Z ⟨Z,Z,trivial⟩ Z Z) ?_ (gT Z));refine aV (.osl 6 0 (F1.length) 4) [_,_,_,_,_,_,.row 76 4 (map AD.c F1)] Z Z ?_;refine Cb a (Kn _ _ _) Z (lo (lo ln)) λaa N a=>Go 2 Z (Is 101 a Z (λ_ a=>?_) (λ_ a=>?_))
   .refine Go 3 Z (vH (Ek (xs:=[.tmp 103,.tmp 104]) (es:=map AD.c [Ut,DM]) Fl Z Z Z Z Z ⟨Z,Z,trivial⟩ Z Z) ?_ (gT Z));refine aV (.osl 7 0 ([Ut,DM].length) 4) [_,_,_,_,_,_,_,.row 76 4 (map AD.c [Ut,DM])] Z Z ?_;refine Cb a (Kn _ _ _) Z (lo (lo ln)) λab O a=>Go 2 Z (Is 108 a Z (λ_ a=>?_) (λ_ a=>?_))
    .refine Go 1 Z (vH (Ek (xs:=[.const (.int .i64 4)]) (es:=map (Qc .i64) [4]) Qs Z Z Z Z Z ⟨Z,trivial⟩ Z Z) ?_ (gT Z));refine aV (.osl 8 0 ([4].length) 1) [_,_,_,_,_,_,_,_,.row 3 1 (map (Qc .i64) [4])] Z Z ?_;refine Cb a (T5 _ _ _) Z (lo (lo ln)) λac P a=>Go 2 Z (Is 113 a Z (λ_ a=>?_) (λ_ a=>?_))
     .refine Go 2 Z (vH (Ek (xs:=[.tmp 115]) (es:=map AD.c Dv) Fl Z Z Z Z Z ⟨Z,trivial⟩ Z Z) ?_ (gT Z));refine aV (.osl 9 0 (Dv.length) 4) [_,_,_,_,_,_,_,_,_,.row 76 4 (map AD.c Dv)] Z Z ?_;exact Cb a (Kn _ _ _) Z (lo (lo ln)) λae Q a=>Gl 3 Z a []
     .exact Gl 7 Z a []
    .exact Gl 12 Z a []
   .exact Gl 19 Z a []
  .exact Gl 26 Z a []
 exact QJ 1 Z h 0 []
def IM(n:Nat)(d:AA AF)(rec211:(AA AF)->AB Int)(a:Int×Int):AB (AG (Int×Int) Int):=((bif a.2<(d.length:Int) then some (decide (a.1<=256))else some false):AB Bool).bind λe=>(bif e then(AJ d a.2).bind λf=>(rec211 f.Parts).bind λg=>some (.k (i64.wrap (a.1+g),i64.wrap (a.2+1)))else some (.d a.1))
def SN(rec211:(AA AF)->AB Int)(n:Nat)(d:AA AF):AB Int:=(iter (IM n d rec211) n ((d.length:Int),0):AB Int).bind λa=>some (if 257<a then 257 else a)
theorem Qbc(rec211:(AA AF)->AB Int)(f:∀(g:AA AF) (r:Int),rec211 g=some r->Bk prog 34 [.rsl 3 (map AF.enc g)] [] (λr=>I r) r)(n:Nat)(g:AA AF)(r:Int)(h:SN rec211 n g=some r):Bk prog 34 [.rsl 3 (map AF.enc g)] [] (λr=>I r) r:=by
 refine QG func34 Z Z Z ?_;refine G0 8 Z (Lg 9 Z Z (Bd h λd q h=>Cg d [] [] (λd=>[(3,I d)]) Ze Zf ?_ ?_))
 .refine G0 1 Z (Lp [] [0] (λi=>[(3,I i.1),(4,I i.2)]) Ze q Zf (Lr []) λi u a k=>?_);refine G0 2 Z (Bd a λj e a=>Cg j [] [0,3,4] (λj=>[(14,.bool j)]) Ze Zf ?_ ?_)
  .refine G0 3 Z (Lg 2 Z Z (Is 11 e Z (λ_ e=>?_) (λ_ e=>?_)))
   iterate 2 exact Gl 4 Z e []
  refine Q5 Z a (λ_ a=>?_) (λ_ a=>?_)
  .exact Gc 2 Z (Qi a (Gx 1 Z (JC k a (Lr []))))
  exact Gc 8 Z (Bd a λs p a=>CQ p (QP s) Z (Go 2 Z (Cz [] a (f _) Z λw t a=>Go 10 Z (Qg a (Lr [])))))
 refine Gc 3 Z ?_;refine vX (I (if 257<d then 257 else d)) (AK.min Z Z Z Z) ?_;exact Gt 4 Z h 2 []
def Fx:Nat->(AA AF)->AB Int
  |0=>λ_=>none
  |n+1=>SN (Fx n) n
theorem U0:∀(a:AA AF) (r:Int),Fx n a=some r->Bk prog 34 [.rsl 3 (map AF.enc a)] [] (λr=>I r) r:=by
  induction n with
  |zero=>intro a r h;cases h
  |succ n ih=>intro a r h;exact Qbc _ ih n a r h
def G_(n:Nat)(e:AA AF)(f:Int)(rec212:(AA AF)->Int->AB Int)(a:Int×Int):AB (AG (Int×Int) Int):=((bif a.2<(e.length:Int) then some (decide (0<f))else some false):AB Bool).bind λg=>(bif g then(AJ e a.2).bind λh=>((bif ((h.Parts.length:Int) != 0)then(AJ e a.2).bind λi=>(rec212 i.Parts (i64.wrap (f-1))).bind λd=>some (if a.1<i64.wrap (1+d)then i64.wrap (1+d)else a.1)else some a.1):AB Int).bind λj=>some (.k (j,i64.wrap (a.2+1)))else some (.d a.1))
def dD(rec212:(AA AF)->Int->AB Int)(n:Nat)(d:AA AF)(e:Int):AB Int:=(iter (G_ n d e rec212) n (0,0):AB Int).bind λa=>some a
theorem Qbb(rec212:(AA AF)->Int->AB Int)(g:∀(i:AA AF) (j:Int) (r:Int),rec212 i j=some r->Bk prog 35 [.rsl 3 (map AF.enc i),I j] [] (λr=>I r) r)(n:Nat)(i:AA AF)(j:Int)(r:Int)(h:dD rec212 n i j=some r):Bk prog 35 [.rsl 3 (map AF.enc i),I j] [] (λr=>I r) r:=by
 refine QG func35 Z Z Z ?_;refine G0 16 Z (Bd h λk z h=>Cg k [] [] (λk=>[(5,I k)]) Ze Zf ?_ ?_)
 .refine G0 1 Z (Lp [] [0,1] (λe=>[(5,I e.1),(6,I e.2)]) Ze z Zf (Lr []) λe G a s=>?_);refine G0 2 Z (Bd a λl f a=>Ct l [] [0,1,5,6] (λl=>[(14,.bool l)]) Ze Zf ?_ (λenv H m=>?_))
  .refine G0 3 Z (Lg 2 Z Z (Is 11 f Z (λ_ f=>?_) (λ_ f=>?_)))
   iterate 2 exact Gl 4 Z f []
  refine Gx 1 Z (Qd m (Q5 Z a (λ_ a=>?_) (λ_ a=>?_)))
  .exact Gc 2 Z (Qi a (Gx 1 Z (JC s a (Lr []))))
  refine Gc 8 Z (Bd a λB w a=>CQ w (QP B) Z (Go 2 Z (Lg 3 Z Z (Bd a λp d a=>Ct p [] [0,1,6] (λp=>[(5,I p)]) Ze Zf ?_ (λenv H m=>?_)))))
  .refine G0 0 Z (Cn Z d (λ_ d=>?_) (λ_ d=>?_))
   .refine Gc 4 Z (Bd d λE y d=>CQ y (QP E) Z (Go 4 Z (Cz [] d (g _ _) Z λq F d=>Go 1 Z ?_)));refine vX (I (if e.1<i64.wrap (1+q)then i64.wrap (1+q)else e.1)) (AK.max Z Z Z Z) ?_;exact Gl 2 Z d []
   exact YM 1 Z d []
  exact Gx 2 Z (Qd m (Gc 5 Z (Qg a (Lr []))))
 exact QJ 7 Z h 4 []
def Ny:Nat->(AA AF)->Int->AB Int
  |0=>λ_ _=>none
  |n+1=>dD (Ny n) n
theorem mr:∀(a:AA AF) (d:Int) (r:Int),Ny n a d=some r->Bk prog 35 [.rsl 3 (map AF.enc a),I d] [] (λr=>I r) r:=by
  induction n with
  |zero=>intro a d r h;cases h
  |succ n ih=>intro a d r h;exact Qbb _ ih n a d r h
def I5(n:Nat)(a:Cond):AB Bool:=((bif (a.Kind==0)then(bif (a.Var==0)then(bif (a.N==0)then some ((a.Parts.length:Int)==0)else some false)else some false)else some false):AB Bool).bind λd=>some d
theorem UR(e:Cond):Ks (I5 n e) 147 [.agg (Cond.c e)] [] (λr=>.bool r):=by
 refine Kg 7 func147 Z Z Z Z λr h=>Bd h λd a h=>Cg d [] [] (λd=>[(2,.bool d)]) Ze Zf ?_ ?_
 .refine G0 5 Z (Is 6 a Z (λ_ a=>?_) (λ_ a=>?_))
  .refine Go 5 Z (Is 11 a Z (λ_ a=>?_) (λ_ a=>?_))
   .refine Go 5 Z (Is 16 a Z (λ_ a=>?_) (λ_ a=>?_))
    .exact Go 2 Z (Lm Z (Gl 4 Z a []))
    .exact Gl 7 Z a []
   .exact Gl 12 Z a []
  .exact Gl 17 Z a []
 exact QJ 1 Z h 2 []
def IK(n:Nat)(d:Cond)(h:Int)(rec216:Cond->Int->AB Int)(a:Int×Int):AB (AG (Int×Int) Int):=((bif a.2<(d.Parts.length:Int) then some (decide (a.1<=256))else some false):AB Bool).bind λe=>(bif e then(AJ d.Parts a.2).bind λf=>(rec216 f (i64.wrap (h+1))).bind λg=>some (.k (i64.wrap (a.1+g),i64.wrap (a.2+1)))else some (.d a.1))
def dF(rec216:Cond->Int->AB Int)(n:Nat)(e:Cond)(a:Int):AB Int:=(bif 16<a then some 1000 else(iter (IK n e a rec216) n (1,0):AB Int).bind λd=>some d)
theorem Qam(rec216:Cond->Int->AB Int)(e:∀(f:Cond) (g:Int) (r:Int),rec216 f g=some r->Bk prog 148 [.agg (Cond.c f),I g] [] (λr=>I r) r)(n:Nat)(f:Cond)(g:Int)(r:Int)(h:dF rec216 n f g=some r):Bk prog 148 [.agg (Cond.c f),I g] [] (λr=>I r) r:=by
 refine QG func148 Z Z Z ?_;refine G0 13 Z (Cn Z h (λ_ h=>?_) (λ_ h=>?_))
 .exact QJ 7 Z h 4 []
 refine Gc 13 Z (Bd h λi t h=>Cg i [] [] (λi=>[(5,I i)]) Ze Zf ?_ ?_)
 .refine G0 1 Z (Lp [0] [1,2] (λj=>[(5,I j.1),(6,I j.2)]) Ze t Zf (Lr [0]) λj x a l=>?_);refine G0 2 Z (Bd a λk d a=>Cg k [0] [1,2,5,6] (λk=>[(17,.bool k)]) Ze Zf ?_ ?_)
  .refine G0 4 Z (Lg 2 Z Z (Is 14 d Z (λ_ d=>?_) (λ_ d=>?_)))
   iterate 2 exact Gl 4 Z d [0]
  refine Q5 Z a (λ_ a=>?_) (λ_ a=>?_)
  .exact Gc 2 Z (Qi a (Gx 1 Z (JC l a (Lr []))))
  exact Gc 9 Z (Bd a λu q a=>CQ q (W3 u) Z (Go 3 Z (Cz [] a (e _ _) Z λy w a=>Go 10 Z (Qg a (Lr [0])))))
 exact QJ 7 Z h 4 []
def LM:Nat->Cond->Int->AB Int
  |0=>λ_ _=>none
  |n+1=>dF (LM n) n
theorem mu:∀(a:Cond) (d:Int) (r:Int),LM n a d=some r->Bk prog 148 [.agg (Cond.c a),I d] [] (λr=>I r) r:=by
  induction n with
  |zero=>intro a d r h;cases h
  |succ n ih=>intro a d r h;exact Qam _ ih n a d r h
def Ip(d:AA Step)(g:Int)(rec214:(AA Step)->Int->AB (Int×Int))(a:Int×Int×Int):AB (AG (Int×Int×Int) (Int×Int)):=((bif a.2.2<(d.length:Int) then(bif a.1<=64 then some (decide (a.2.1<=256))else some false)else some false):AB Bool).bind λh=>(bif h then(AJ d a.2.2).bind λi=>(rec214 i.Then (i64.wrap (g+1))).bind λe=>(AJ d a.2.2).bind λj=>(rec214 j.Else (i64.wrap (g+1))).bind λf=>(AJ d a.2.2).bind λk=>(I5 n k.Cond).bind λl=>((bif (!l)then(AJ d a.2.2).bind λm=>(LM n m.Cond 0).bind λp=>some (i64.wrap ((i64.wrap ((i64.wrap (a.2.1+e.2))+f.2))+p))else some (i64.wrap ((i64.wrap (a.2.1+e.2))+f.2))):AB Int).bind λq=>some (.k (i64.wrap ((i64.wrap ((i64.wrap (a.1+1))+e.1))+f.1),q,i64.wrap (a.2.2+1)))else some (.d (a.1,a.2.1)))
def dE(rec214:(AA Step)->Int->AB (Int×Int))(n:Nat)(d:AA Step)(e:Int):AB (Int×Int):=((bif 0<(d.length:Int) then some (decide (16<e))else some false):AB Bool).bind λb2=>(bif b2 then some (1000,1000)else(iter (Ip n d e rec214) n (0,0,0):AB (Int×Int)).bind λa=>some (a.1,a.2))
theorem Qbl(rec214:(AA Step)->Int->AB (Int×Int))(f:∀(k:AA Step) (l:Int) (r:Int×Int),rec214 k l=some r->Bk prog 72 [.rsl 8 (map Step.enc k),I l] [] (λr=>.tup [I r.1,I r.2]) r)(n:Nat)(k:AA Step)(l:Int)(r:Int×Int)(h:dE rec214 n k l=some r):Bk prog 72 [.rsl 8 (map Step.enc k),I l] [] (λr=>.tup [I r.1,I r.2]) r:=by
 refine QG func72 Z Z Z ?_;refine G0 8 Z (Bd h λb2 m h=>Ct b2 [] [0,1] (λb2=>[(19,.bool b2)]) Ze Zf ?_ (λenv H g=>?_))
 .refine G0 2 Z (Lg 2 Z Z (Is 16 m Z (λ_ m=>?_) (λ_ m=>?_)))
  iterate 2 exact Gl 4 Z m []
 refine Gx 1 Z (Qd g (Cn Z h (λ_ h=>?_) (λ_ h=>?_)))
 .refine Gc 8 Z ?_;obtain rfl:=Oi h;exact R2 4 5 Z Z (Lr [])
 refine Gc 18 Z (Bd h λi J h=>Cg i [] [] (λi=>[(6,I i.1),(7,I i.2)]) Ze Zf ?_ ?_)
 .refine G0 1 Z (Lp [] [0,1] (λj=>[(6,I j.1),(7,I j.2.1),(8,I j.2.2)]) Ze J Zf (Lr []) λj V a s=>?_);refine G0 2 Z (Bd a λp d a=>Ct p [] [0,1,6,7,8] (λp=>[(31,.bool p)]) Ze Zf ?_ (λenv H g=>?_))
  .refine G0 3 Z (Lg 2 Z Z (Is 24 d Z (λ_ d=>?_) (λ_ d=>?_)))
   .refine Go 4 Z (Is 28 d Z (λ_ d=>?_) (λ_ d=>?_))
    iterate 2 exact Gl 4 Z d []
   .exact Gl 8 Z d []
  refine Gx 1 Z (Qd g (Q5 Z a (λ_ a=>?_) (λ_ a=>?_)))
  .exact Gc 2 Z (Qi a (Gx 1 Z (JC s a (Lr []))))
  refine Gc 8 Z (Bd a λL x a=>CQ x (YX L) Z (Go 4 Z (Cd [] a (f _ _) Z λW P a=>Fg 11 Z Z (Bd a λM y a=>CQ y (YX M) Z (Go 4 Z (Cd [] a (f _ _) Z λX Q a=>Fg 32 Z Z (Bd a λN z a=>CQ z (YX N) Z (Go 2 Z (Cz [] a (UR _ _) Z λY R a=>Go 3 Z (Bd a λq e a=>Ct q [] [0,1,6,8] (λq=>[(7,I q)]) Ze Zf ?_ (λenv H g=>?_)))))))))))
  .refine G0 0 Z (Cn Z e (λ_ e=>?_) (λ_ e=>?_))
   .exact Gc 4 Z (Bd e λO E e=>CQ E (YX O) Z (Go 2 Z (Cz [] e (mu _ _ _) Z λaa T e=>Gl 3 Z e [])))
   exact YM 1 Z e []
  exact Gx 2 Z (Qd g (Gc 5 Z (Qg a (Lr []))))
 refine Gc 9 Z ?_;obtain rfl:=Oi h;exact R2 4 5 Z Z (Lr [])
def Nz:Nat->(AA Step)->Int->AB (Int×Int)
  |0=>λ_ _=>none
  |n+1=>dE (Nz n) n
theorem mt:∀(a:AA Step) (d:Int) (r:Int×Int),Nz n a d=some r->Bk prog 72 [.rsl 8 (map Step.enc a),I d] [] (λr=>.tup [I r.1,I r.2]) r:=by
  induction n with
  |zero=>intro a d r h;cases h
  |succ n ih=>intro a d r h;exact Qbl _ ih n a d r h
def MF(a:AA Step):AB Bool:=(Nz n a 0).bind λd=>((bif (a.length:Int)<=20 then(bif d.1<=80 then some (decide (d.2<=300))else some false)else some false):AB Bool).bind λe=>some e
theorem h_(e:AA Step):Ks (MF n e) 36 [.rsl 8 (map Step.enc e)] [] (λr=>.bool r):=by
 refine Kg 8 func36 Z Z Z Z λr h=>Cd [] h (mt _ _ _) Z λj i h=>Fg 8 Z Z (Bd h λd a h=>Cg d [] [] (λd=>[(2,.bool d)]) Ze Zf ?_ ?_)
 .refine G0 2 Z (Lg 2 Z Z (Is 13 a Z (λ_ a=>?_) (λ_ a=>?_)))
  .refine Go 4 Z (Is 17 a Z (λ_ a=>?_) (λ_ a=>?_))
   iterate 2 exact Gl 5 Z a []
  .exact Gl 9 Z a []
 exact QJ 1 Z h 2 []
def HA(d:AE)(a:Int×Int):AB (AG (Int×Int) (AG Int Bool)):=((bif a.2<(d.Distances.length:Int) then some (decide (a.1<=200))else some false):AB Bool).bind λe=>(bif e then(AJ d.Distances a.2).bind λf=>(AJ d.Distances a.2).bind λg=>(Fx n g.Route).bind λh=>(AJ d.Distances a.2).bind λi=>(Ny n i.Route 17).bind λj=>(bif 16<j then some (.d (.d false))else some (.k (i64.wrap ((i64.wrap (a.1+(f.Cutoffs.length:Int)))+h),i64.wrap (a.2+1))))else some (.d (.k a.1)))
def HK(a:AE):AB Bool:=(iter (HA n a) n (i64.wrap ((i64.wrap ((i64.wrap ((i64.wrap ((i64.wrap ((i64.wrap ((a.Mats.length:Int)+(a.Legs.length:Int)))+(a.Distances.length:Int)))+(a.Waves.length:Int)))+(a.Offences.length:Int)))+(a.Categories.length:Int)))+(a.Prizes.length:Int)),0):AB (AG Int Bool)).bind λe=>match e with|.k d=>(((bif d<=200 then(bif (a.Name.length:Int)<=100 then(MF n a.Ties).bind λf=>some f else some false)else some false):AB Bool).bind λg=>some g)|.d d=>some d
theorem iy(q:AE):Ks (HK n q) 17 [.agg (AE.c q)] [] (λr=>.bool r):=by
 refine Kg 10 func17 Z Z Z Z λr h=>Lg 2 Z Z (Lg 3 Z Z (Lg 3 Z Z (Lg 3 Z Z (Lg 3 Z Z (Lg 3 Z Z (Lg 10 Z Z (Bd h λF G h=>DD (b:=F) [0] [1] (λi=>[(3,I i)]) Ze Zf ?_ (λi env H J j=>?_))))))))
 .refine G0 1 Z (Lp [0] [1] (λk=>[(3,I k.1),(4,I k.2)]) Ze G Zf (Lr [0]) λk O a l=>?_);refine G0 2 Z (Bd a λm f a=>Ct m [0] [1,3,4] (λm=>[(40,.bool m)]) Ze Zf ?_ (λenv H j=>?_))
  .refine G0 4 Z (Lg 2 Z Z (Is 37 f Z (λ_ f=>?_) (λ_ f=>?_)))
   iterate 2 exact Gl 4 Z f [0]
  refine Gx 1 Z (Qd j (Q5 Z a (λ_ a=>?_) (λ_ a=>?_)))
  .exact Gc 2 Z (Qi a (Gx 1 Z (JD l a Z (Lr [0]))))
  refine Gc 5 Z (Bj 16 Z (D 4 Z ?_));obtain⟨e,u,a⟩:=YE a;refine DS.wo (x:=.rp [.str e.Name,.rsl 3 (map AF.enc e.Route),I e.Timing,.rsl 3 (map AP.c e.Cutoffs),I e.Extra]) ?_ ?_
  .exact Ix u Gm Gq Z Wp
  refine D 2 Z ?_;refine DS.wo (x:=I (e.Cutoffs.length:Int)) ?_ ?_
  .exact TB GJ Z Wp
  refine D 4 Z ?_;obtain⟨g,w,a⟩:=YE a;refine DS.wo (x:=.rp [.str g.Name,.rsl 3 (map AF.enc g.Route),I g.Timing,.rsl 3 (map AP.c g.Cutoffs),I g.Extra]) ?_ ?_
  .exact Ix w Gm Gq Z Wp
  refine D 2 Z ?_;refine Dz [] a (U0 _ _) Z λP L a=>Eg Z (Go 9 Z (Bd a λQ y a=>Iz y Z (Go 2 Z (Cz [] a (mr _ _ _) Z λR M a=>Go 3 Z (Cn Z a (λ_ a=>?_) (λ_ a=>?_))))))
  .refine Gc 8 Z (Qx a ?_);obtain rfl:=Oj l a;exact Gx 1 Z (Qq (Gx 1 Z (Rt h 2 [])))
  exact Gc 8 Z (Qg a (Lr [0]))
 subst J;refine Gx 1 Z (Qd j (Gc 1 Z (Bd h λp d h=>Cg p [] [] (λp=>[(2,.bool p)]) Ze Zf ?_ ?_)))
 .refine G0 4 Z (Is 70 d Z (λ_ d=>?_) (λ_ d=>?_))
  .refine Go 2 Z ?_;refine vX (I (q.Name.length:Int)) (Js Z Z EE Z) ?_ (gT Z);refine Go 3 Z (Is 76 d Z (λ_ d=>?_) (λ_ d=>?_))
   .exact Go 2 Z (Cz [] d (h_ _ _) Z λT N d=>Gl 3 Z d [])
   .exact Gl 6 Z d []
  .exact Gl 12 Z d []
 exact QJ 1 Z h 2 []
def MR(a:AE)(d:AA AC):AB Bool:=((HK n a).bind λe=>(bif e then some (decide ((d.length:Int)<=14))else some false):AB Bool).bind λf=>some f
theorem iK(e:AE)(f:AA AC):Ks (MR n e f) 6 [.agg (AE.c e),.rsl 57 (map AC.c f)] [] (λr=>.bool r):=by
 refine Kg 7 func6 Z Z Z Z λr h=>Bd h λd a h=>Cg d [] [] (λd=>[(4,.bool d)]) Ze Zf ?_ ?_
 .refine G0 2 Z (Cz [] a (iy _ _) Z λj i a=>Go 1 Z (Is 7 a Z (λ_ a=>?_) (λ_ a=>?_)))
  .exact Go 1 Z (Lm Z (Gl 4 Z a []))
  .exact Gl 6 Z a []
 exact QJ 1 Z h 4 []
def PX(e:AE)(a:Int):AB (AG Int (AG Unit Bool)):=(bif a<(e.Distances.length:Int) then(AJ e.Distances a).bind λd=>((bif 64<(d.Cutoffs.length:Int) then some true else(Ny n d.Route 17).bind λf=>(bif 16<f then some true else(Fx n d.Route).bind λg=>some (decide (256<g)))):AB Bool).bind λh=>(bif h then some (.d (.d false))else some (.k (i64.wrap (a+1))))else some (.d (.k ())))
def MX(a:AE):AB Bool:=((bif 40<(a.Mats.length:Int) then some true else(bif 512<(a.Legs.length:Int) then some true else(bif 8<(a.Distances.length:Int) then some true else(bif 32<(a.Waves.length:Int) then some true else(bif 32<(a.Offences.length:Int) then some true else(bif 32<(a.Categories.length:Int) then some true else some (decide (32<(a.Prizes.length:Int))))))))):AB Bool).bind λf=>(bif f then some false else(iter (PX n a) n 0:AB (AG Unit Bool)).bind λe=>match e with|.k d=>(some true)|.d d=>some d)
theorem iQ(z:AE):Ks (MX n z) 50 [.agg (AE.c z)] [] (λr=>.bool r):=by
 refine Kg 8 func50 Z Z Z Z λr h=>Bd h λj a h=>Ct j [0] [1] (λj=>[(44,.bool j)]) Ze Zf ?_ (λenv H B=>?_)
 .refine G0 3 Z (Lg 2 Z Z (Is 9 a Z (λ_ a=>?_) (λ_ a=>?_)))
  .exact Gl 36 Z a [0]
  .refine Go 2 Z (Lg 3 Z Z (Is 15 a Z (λ_ a=>?_) (λ_ a=>?_)))
   .exact Gl 30 Z a [0]
   .refine Go 2 Z (Lg 3 Z Z (Is 21 a Z (λ_ a=>?_) (λ_ a=>?_)))
    .exact Gl 24 Z a [0]
    .refine Go 2 Z (Lg 3 Z Z (Is 27 a Z (λ_ a=>?_) (λ_ a=>?_)))
     .exact Gl 18 Z a [0]
     .refine Go 2 Z (Lg 3 Z Z (Is 33 a Z (λ_ a=>?_) (λ_ a=>?_)))
      .exact Gl 12 Z a [0]
      .refine Go 2 Z (Lg 3 Z Z (Is 39 a Z (λ_ a=>?_) (λ_ a=>?_)))
       .exact Gl 6 Z a [0]
       .exact Go 2 Z (Lm Z (Gl 3 Z a [0]))
 refine Gx 1 Z (Qd B (Cn Z h (λ_ h=>?_) (λ_ h=>?_)))
 .exact QJ 7 Z h 2 []
 refine Gc 8 Z (Bd h λF G h=>BZ (b:=F) [] [] Ze Ze Zf ?_ (λ_ J=>?_))
 .refine G0 1 Z (Lp [0] [1] (λi=>[(3,I i)]) Ze G Zf (Lr [0]) λi O d f=>?_);refine G0 6 Z (Lg 3 Z Z (Q5 Z d (λ_ d=>?_) (λ_ d=>?_)))
  .exact Gc 2 Z (Qi d (Gx 1 Z (JD f d Z (Lr []))))
  refine Gc 9 Z (Bd d λP u d=>Iz u Z (Go 6 Z (Bd d λg e d=>Cg g [0] [1,3] (λg=>[(72,.bool g)]) Ze Zf ?_ ?_)))
  .refine G0 3 Z (Lg 2 Z Z (Is 61 e Z (λ_ e=>?_) (λ_ e=>?_)))
   .exact Gl 12 Z e [0]
   .refine Go 2 Z (Cz [] e (mr _ _ _) Z λQ M e=>Go 3 Z (Is 67 e Z (λ_ e=>?_) (λ_ e=>?_)))
    .exact Gl 6 Z e [0]
    .exact Go 2 Z (Cz [] e (U0 _ _) Z λR N e=>Gl 3 Z e [0])
  refine Cn Z d (λ_ d=>?_) (λ_ d=>?_)
  .refine Gc 8 Z (Qx d ?_);obtain rfl:=Oj f d;exact Gx 1 Z (Qq (Gx 1 Z (Rt h 2 [])))
  exact Gc 8 Z (Qg d (Lr [0]))
 subst J;exact QJ 6 Z h 2 []
def L3(n:Nat)(a:AA UInt8):AB Bool:=((bif (a==[99,111,117,114,115,101])then some (a==[99,111,117,114,115,101])else(bif (a==[109,97,116,115])then some (a==[109,97,116,115])else(bif (a==[115,116,97,114,116])then some (a==[115,116,97,114,116])else(bif (a==[112,97,115,115])then some (a==[112,97,115,115])else(bif (a==[101,110,100])then some (a==[101,110,100])else(bif (a==[108,101,103])then some (a==[108,101,103])else(bif (a==[116,111])then some (a==[116,111])else(bif (a==[100,105,115,116,97,110,99,101])then some (a==[100,105,115,116,97,110,99,101])else(bif (a==[103,117,110])then some (a==[103,117,110])else(bif (a==[99,104,105,112])then some (a==[99,104,105,112])else(bif (a==[115,108,111,116])then some (a==[115,108,111,116])else(bif (a==[108,97,112,115])then some (a==[108,97,112,115])else(bif (a==[108,97,112])then some (a==[108,97,112])else(bif (a==[99,117,116,111,102,102])then some (a==[99,117,116,111,102,102])else(bif (a==[101,120,116,114,97])then some (a==[101,120,116,114,97])else(bif (a==[119,97,118,101])then some (a==[119,97,118,101])else(bif (a==[111,102,102,101,110,99,101])then some (a==[111,102,102,101,110,99,101])else(bif (a==[111,117,116])then some (a==[111,117,116])else(bif (a==[99,97,116,101,103,111,114,121])then some (a==[99,97,116,101,103,111,114,121])else(bif (a==[112,114,105,122,101])then some (a==[112,114,105,122,101])else(bif (a==[97,108,108])then some (a==[97,108,108])else some (a==[116,105,101,115])))))))))))))))))))))):AB Bool).bind λd=>(bif d then some true else((bif (a==[105,102])then some (a==[105,102])else(bif (a==[101,108,115,101])then some (a==[101,108,115,101])else(bif (a==[97,110,100])then some (a==[97,110,100])else(bif (a==[111,114])then some (a==[111,114])else(bif (a==[110,111,116])then some (a==[110,111,116])else(bif (a==[111,108,100,101,114])then some (a==[111,108,100,101,114])else(bif (a==[121,111,117,110,103,101,114])then some (a==[121,111,117,110,103,101,114])else(bif (a==[98,105,98])then some (a==[98,105,98])else(bif (a==[100,114,97,119])then some (a==[100,114,97,119])else(bif (a==[102,105,101,108,100])then some (a==[102,105,101,108,100])else(bif (a==[115,104,111,114,116])then some (a==[115,104,111,114,116])else(bif (a==[102,97,117,108,116,115])then some (a==[102,97,117,108,116,115])else(bif (a==[109,105,115,115,101,115])then some (a==[109,105,115,115,101,115])else(bif (a==[115,116,114,97,121,115])then some (a==[115,116,114,97,121,115])else(bif (a==[119,105,110,100,111,119])then some (a==[119,105,110,100,111,119])else(bif (a==[114,101,115,105,100,117,97,108])then some (a==[114,101,115,105,100,117,97,108])else(bif (a==[100,114,105,102,116])then some (a==[100,114,105,102,116])else(bif (a==[112,114,111,116,101,115,116])then some (a==[112,114,111,116,101,115,116])else(bif (a==[102,101,101])then some (a==[102,101,101])else some (a==[100,101,97,100,108,105,110,101])))))))))))))))))))):AB Bool).bind λe=>(bif e then some true else some false))
theorem gt(a1:AA UInt8):Ks (L3 n a1) 180 [.str a1] [] (λr=>.bool r):=by
 refine Kg 19 func180 Z Z Z Z λr h=>Bd h λe a h=>Ct e [] [3] (λe=>[(4,.bool e)]) Ze Zf ?_ (λenv H al=>?_)
 .refine G0 0 Z (Cn Z a (λ_ a=>?_) (λ_ a=>?_))
  .exact YM 1 Z a []
  iterate 20 (refine Gc 6 Z (Cn Z a (λ_ a=>?_) (λ_ a=>?_));exact YM 1 Z a [])
  exact YM 4 Z a []
 refine Gx 1 Z (Qd al (Cn Z h (λ_ h=>?_) (λ_ h=>?_)))
 .exact QJ 8 Z h 2 []
 refine Gc 7 Z (Bd h λf d h=>Cg f [] [] (λf=>[(27,.bool f)]) Ze Zf ?_ ?_)
 .refine G0 0 Z (Cn Z d (λ_ d=>?_) (λ_ d=>?_))
  .exact YM 1 Z d []
  iterate 18 (refine Gc 6 Z (Cn Z d (λ_ d=>?_) (λ_ d=>?_));exact YM 1 Z d [])
  exact YM 4 Z d []
 refine Cn Z h (λ_ h=>?_) (λ_ h=>?_)
 .exact QJ 8 Z h 2 []
 exact QJ 9 Z h 2 []
def P0(n:Nat)(d:AA UInt8)(a:Int):AB (AG Int (AG Unit Bool)):=(bif a<(d.length:Int) then((AJ d a).bind λe=>(bif (e.toNat:Int)<97 then(AJ d a).bind λf=>(bif (f.toNat:Int)<48 then(AJ d a).bind λg=>some ((g.toNat:Int) != 95)else(AJ d a).bind λh=>(bif 57<(h.toNat:Int) then(AJ d a).bind λi=>some ((i.toNat:Int) != 95)else some false))else(AJ d a).bind λj=>(bif 122<(j.toNat:Int) then(AJ d a).bind λk=>(bif (k.toNat:Int)<48 then(AJ d a).bind λl=>some ((l.toNat:Int) != 95)else(AJ d a).bind λm=>(bif 57<(m.toNat:Int) then(AJ d a).bind λp=>some ((p.toNat:Int) != 95)else some false))else some false)):AB Bool).bind λq=>(bif q then some (.d (.d false))else some (.k (i64.wrap (a+1))))else some (.d (.k ())))
def Mx(a:AA UInt8):AB Bool:=((bif (a.length:Int)<1 then some true else(bif 24<(a.length:Int) then some true else(AJ a 0).bind λf=>(bif (f.toNat:Int)<97 then some true else(AJ a 0).bind λg=>some (decide (122<(g.toNat:Int)))))):AB Bool).bind λi=>(bif i then some false else(iter (P0 n a) n 1:AB (AG Unit Bool)).bind λh=>match h with|.k d=>((L3 n a).bind λe=>some (!e))|.d d=>some d)
theorem T9(g:AA UInt8):Ks (Mx n g) 121 [.str g] [] (λr=>.bool r):=by
 refine Kg 7 func121 Z Z Z Z λr h=>Bd h λL e h=>Ct L [] [0] (λL=>[(21,.bool L)]) Ze Zf ?_ (λenv H af=>?_)
 .refine G0 2 Z ?_;refine vX (I (g.length:Int)) (Js Z Z EE Z) ?_;refine Go 2 Z (Is 7 e Z (λ_ e=>?_) (λ_ e=>?_))
  .exact Gl 15 Z e []
  .refine Go 1 Z ?_;refine vX (I (g.length:Int)) (Js Z Z EE Z) ?_ (gT Z);refine Go 3 Z (Is 12 e Z (λ_ e=>?_) (λ_ e=>?_))
   .exact Gl 10 Z e []
   .refine Go 1 Z (Bd e λai M e=>?_);refine vX (.int .u8 (ai.toNat:Int)) (Q3 M EE) ?_ (gT Z);refine Go 3 Z (Is 17 e Z (λ_ e=>?_) (λ_ e=>?_))
    .exact Gl 5 Z e []
    .refine Go 1 Z (Bd e λaj O e=>?_);refine vX (.int .u8 (aj.toNat:Int)) (Q3 O EE) ?_ (gT Z);exact Gl 3 Z e []
 refine Gx 1 Z (Qd af (Cn Z h (λ_ h=>?_) (λ_ h=>?_)))
 .exact QJ 7 Z h 2 []
 refine Gc 8 Z (Bd h λak al h=>BZ (b:=ak) [] [0] Ze Ze Zf ?_ (λ_ am=>?_))
 .refine G0 1 Z (Lp [] [0] (λJ=>[(3,I J)]) Ze al Zf (Lr []) λJ ar d i=>?_);refine G0 5 Z ?_;refine vX (I (g.length:Int)) (Js Z Z EE Z) ?_;refine Go 3 Z (Q5 Z d (λ_ d=>?_) (λ_ d=>?_))
  .exact Gc 2 Z (Qi d (Gx 1 Z (JD i d Z (Lr []))))
  refine Gc 5 Z (Bd d λf a d=>Cg f [] [0,3] (λf=>[(55,.bool f)]) Ze Zf ?_ ?_)
  .refine G0 3 Z (Bd a λR j a=>?_);refine vX (.int .u8 (R.toNat:Int)) (Q3 j EE) ?_;refine Go 2 Z (Is 32 a Z (λ_ a=>?_) (λ_ a=>?_))
   .refine Go 8 Z (Bd a λT l a=>?_);refine vX (.int .u8 (T.toNat:Int)) (Q3 l EE) ?_ (gT Z);refine Go 2 Z (Is 43 a Z (λ_ a=>?_) (λ_ a=>?_))
    .refine Go 9 Z (Bd a λV p a=>?_);refine vX (.int .u8 (V.toNat:Int)) (Q3 p EE) ?_ (gT Z);exact Gl 3 Z a []
    .refine Go 2 Z (Bd a λW q a=>?_);refine vX (.int .u8 (W.toNat:Int)) (Q3 q EE) ?_ (gT Z);refine Go 4 Z (Is 50 a Z (λ_ a=>?_) (λ_ a=>?_))
     .refine Go 2 Z (Bd a λX t a=>?_);refine vX (.int .u8 (X.toNat:Int)) (Q3 t EE) ?_ (gT Z);exact Gl 3 Z a []
     .exact Gl 6 Z a []
   .refine Go 2 Z (Bd a λY u a=>?_);refine vX (.int .u8 (Y.toNat:Int)) (Q3 u EE) ?_ (gT Z);refine Go 3 Z (Is 38 a Z (λ_ a=>?_) (λ_ a=>?_))
    .refine Go 2 Z (Bd a λaa x a=>?_);refine vX (.int .u8 (aa.toNat:Int)) (Q3 x EE) ?_ (gT Z);refine Go 2 Z (Is 43 a Z (λ_ a=>?_) (λ_ a=>?_))
     .refine Go 9 Z (Bd a λab z a=>?_);refine vX (.int .u8 (ab.toNat:Int)) (Q3 z EE) ?_ (gT Z);exact Gl 3 Z a []
     .refine Go 2 Z (Bd a λac B a=>?_);refine vX (.int .u8 (ac.toNat:Int)) (Q3 B EE) ?_ (gT Z);refine Go 4 Z (Is 50 a Z (λ_ a=>?_) (λ_ a=>?_))
      .refine Go 2 Z (Bd a λae F a=>?_);refine vX (.int .u8 (ae.toNat:Int)) (Q3 F EE) ?_ (gT Z);exact Gl 3 Z a []
      .exact Gl 6 Z a []
    .exact Gl 18 Z a []
  refine Cn Z d (λ_ d=>?_) (λ_ d=>?_)
  .refine Gc 8 Z (Qx d ?_);obtain rfl:=Oj i d;exact Gx 1 Z (Qq (Gx 1 Z (Rt h 2 [])))
  exact Gc 8 Z (Qg d (Lr []))
 subst am;exact Gc 3 Z (Cz [] h (gt _ _) Z λaq an h=>Gt 5 Z h 2 [])
def Ic(n:Nat)(e:AA (AA UInt8))(d:Int)(a:Int):AB (AG Int (AG Unit (AG Int (AG Unit Bool)))):=(bif a<d then(AJ e a).bind λf=>(AJ e d).bind λg=>(bif (f==g)then some (.d (.d (.d (.d false))))else some (.k (i64.wrap (a+1))))else some (.d (.k ())))
def Pj(e:AA (AA UInt8))(a:Int):AB (AG Int (AG Unit Bool)):=(bif a<(e.length:Int) then(AJ e a).bind λf=>(Mx n f).bind λg=>(bif (!g)then some (.d (.d false))else(iter (Ic n e a) n 0:AB (AG Unit (AG Int (AG Unit Bool)))).bind λh=>match h with|.k d=>(some (.k (i64.wrap (a+1))))|.d d=>some d)else some (.d (.k ())))
def FU(e:AA (AA UInt8)):AB Bool:=(iter (Pj n e) n 0:AB (AG Unit Bool)).bind λd=>match d with|.k a=>(some true)|.d a=>some a
theorem V9(u:AA (AA UInt8)):Ks (FU n u) 122 [.rsl 1 (map JZ u)] [] (λr=>.bool r):=by
 refine Kg 11 func122 Z Z Z Z λr h=>Bd h λw y h=>BZ (b:=w) [] [] Ze Ze Zf ?_ (λ_ f=>?_)
 .refine G0 1 Z (Lp [] [0] (λi=>[(3,I i)]) Ze y Zf (Lr []) λi N a e=>?_);refine G0 5 Z (Lg 3 Z Z (Q5 Z a (λ_ a=>?_) (λ_ a=>?_)))
  .exact Gc 2 Z (Qi a (Gx 1 Z (JD e a Z (Lr []))))
  refine Gc 9 Z (Bd a λO l a=>Iz l Z (Go 1 Z (Cz [] a (T9 _ _) Z λP L a=>Go 3 Z (Cn Z a (λ_ a=>?_) (λ_ a=>?_)))))
  .refine Gc 9 Z (Qx a ?_);obtain rfl:=Oj e a;exact Gx 1 Z (Qq (Gx 1 Z (Rt h 2 [])))
  refine Gc 7 Z (Bd a λz B a=>DD (b:=z) [] [0,3] Ze Ze Zf ?_ (λM env H f E=>?_))
  .refine G0 1 Z (Lp [] [0,3] (λj=>[(4,I j)]) Ze B Zf (Lr []) λj Q d g=>(G0 8 Z (Q5 Z d (λ_ d=>?_) (λ_ d=>?_))))
   .exact Gc 2 Z (Qi d (Gx 1 Z (JD g d Z (Lr []))))
   refine Gc 5 Z (Bj 8 Z (D 2 Z ?_));obtain⟨F,q,d⟩:=YE d;refine DS.wo (x:=.rp [.str F]) ?_ ?_
   .exact Ix q EW GU Z Wp
   refine D 3 Z ?_;obtain⟨G,s,d⟩:=YE d;refine DS.wo (x:=.rp [.str G]) ?_ ?_
   .exact Ix s EW GU Z Wp
   refine D 1 Z (Eg Z (Go 3 Z (Cn Z d (λ_ d=>?_) (λ_ d=>?_))))
   .refine Gc 8 Z (Qx d ?_);obtain rfl:=Oj g d;refine Gx 1 Z (Qq (Gx 2 Z (Qx a ?_)));obtain rfl:=Oj e a;exact Gx 1 Z (Qq (Gx 1 Z (Rt h 2 [])))
   exact Gc 8 Z (Qg d (Lr []))
  subst f;exact Gx 2 Z (Qd E (Gc 5 Z (Qg a (Lr []))))
 subst f;exact QJ 6 Z h 2 []
def mX(n:Nat)(d:AE)(a:(AA (AA UInt8))×Int):AB (AG ((AA (AA UInt8))×Int) (AA (AA UInt8))):=(bif a.2<(d.Mats.length:Int) then(AJ d.Mats a.2).bind λe=>(app a.1 [e.Name]).bind λf=>some (.k (f,i64.wrap (a.2+1)))else some (.d a.1))
def l5(n:Nat)(d:AE)(a:(AA (AA UInt8))×Int):AB (AG ((AA (AA UInt8))×Int) (AA (AA UInt8))):=(bif a.2<(d.Distances.length:Int) then(AJ d.Distances a.2).bind λe=>(app a.1 [e.Name]).bind λf=>some (.k (f,i64.wrap (a.2+1)))else some (.d a.1))
def l_(n:Nat)(d:AE)(a:(AA (AA UInt8))×Int):AB (AG ((AA (AA UInt8))×Int) (AA (AA UInt8))):=(bif a.2<(d.Waves.length:Int) then(AJ d.Waves a.2).bind λe=>(app a.1 [e.Name]).bind λf=>some (.k (f,i64.wrap (a.2+1)))else some (.d a.1))
def mF(n:Nat)(d:AE)(a:(AA (AA UInt8))×Int):AB (AG ((AA (AA UInt8))×Int) (AA (AA UInt8))):=(bif a.2<(d.Offences.length:Int) then(AJ d.Offences a.2).bind λe=>(app a.1 [e.Name]).bind λf=>some (.k (f,i64.wrap (a.2+1)))else some (.d a.1))
def mL(n:Nat)(d:AE)(a:(AA (AA UInt8))×Int):AB (AG ((AA (AA UInt8))×Int) (AA (AA UInt8))):=(bif a.2<(d.Categories.length:Int) then(AJ d.Categories a.2).bind λe=>(app a.1 [e.Name]).bind λf=>some (.k (f,i64.wrap (a.2+1)))else some (.d a.1))
def RA(a:AE):AB Bool:=(iter (mX n a) n (([]:AA (AA UInt8)),0):AB (AA (AA UInt8))).bind λq=>(iter (l5 n a) n (([]:AA (AA UInt8)),0):AB (AA (AA UInt8))).bind λg=>(iter (l_ n a) n (([]:AA (AA UInt8)),0):AB (AA (AA UInt8))).bind λh=>(iter (mF n a) n (([]:AA (AA UInt8)),0):AB (AA (AA UInt8))).bind λi=>(iter (mL n a) n (([]:AA (AA UInt8)),0):AB (AA (AA UInt8))).bind λj=>((Mx n a.Name).bind λk=>(bif k then(FU n q).bind λl=>(bif l then(FU n g).bind λm=>(bif m then(FU n h).bind λd=>(bif d then(FU n i).bind λe=>(bif e then(FU n j).bind λf=>some f else some false)else some false)else some false)else some false)else some false):AB Bool).bind λp=>some p
theorem fO(a1:AE):Ks (RA n a1) 51 [.agg (AE.c a1)] [] (λr=>.bool r):=by
 refine Kg 8 func51 Z Z Z Z λr h=>vH (Ek (xs:=[]) (es:=map JZ []) JP Z Z Z Z Z trivial Z Z) ?_;refine Fg 9 Z Z (Bd h λz h9 h=>Ct z [0,1] [1] (λz=>[(3,.osl 1 0 z.length 1)]) (λz=>[(1,.row 9 1 (map JZ z))]) Zf ?_ (λenv H l=>?_))
 .refine G0 1 Z (Lp [0,1] [1] (λm=>[(3,.osl 1 0 m.1.length 1),(4,I m.2)]) (λm=>[(1,.row 9 1 (map JZ m.1))]) h9 Zf (Lr [0,1]) λm bf d G=>?_);refine G0 6 Z (Lg 3 Z Z (Q5 Z d (λ_ d=>?_) (λ_ d=>?_)))
  .exact Gc 2 Z (Qi d (Gx 1 Z (JC G d (Lr [0,1]))))
  refine Gc 9 Z (Bd d λak L d=>Iz L Z (Go 2 Z (vH (Ek (xs:=[.tmp 27]) (es:=map JZ [ak.Name]) JP Z Z Z Z Z ⟨Z,trivial⟩ Z Z) ?_)));refine FE Z (Bd d λbg M d=>vH (Qh (e:=JZ) M JP EW (QF (i:=2))) ?_);exact Fg 9 Z Z (Qg d (Lr [0,3]))
 refine Gx 1 Z (Qd l (Gc 2 Z (vH (Ek (xs:=[]) (es:=map JZ []) JP Z Z Z Z Z trivial Z Z) ?_)));refine Fg 9 Z Z (Bd h λp al h=>Ct p [0,1,2] [1,3] (λp=>[(5,.osl 2 0 p.length 1)]) (λp=>[(2,.row 9 1 (map JZ p))]) Zf ?_ (λenv H l=>?_))
 .refine G0 1 Z (Lp [0,1,2] [1,3] (λq=>[(5,.osl 2 0 q.1.length 1),(6,I q.2)]) (λq=>[(2,.row 9 1 (map JZ q.1))]) al Zf (Lr [0,1,2]) λq bh f N=>?_);refine G0 6 Z (Lg 3 Z Z (Q5 Z f (λ_ f=>?_) (λ_ f=>?_)))
  .exact Gc 2 Z (Qi f (Gx 1 Z (JC N f (Lr [0,1,2]))))
  refine Gc 9 Z (Bd f λam P f=>Iz P Z (Go 2 Z (vH (Ek (xs:=[.tmp 44]) (es:=map JZ [am.Name]) JP Z Z Z Z Z ⟨Z,trivial⟩ Z Z) ?_)));refine FE Z (Bd f λbi Q f=>vH (Qh (e:=JZ) Q JP EW (QF (i:=3))) ?_);exact Fg 9 Z Z (Qg f (Lr [0,1,4]))
 refine Gx 1 Z (Qd l (Gc 2 Z (vH (Ek (xs:=[]) (es:=map JZ []) JP Z Z Z Z Z trivial Z Z) ?_)));refine Fg 9 Z Z (Bd h λs an h=>Ct s [0,1,2,3] [1,3,5] (λs=>[(7,.osl 3 0 s.length 1)]) (λs=>[(3,.row 9 1 (map JZ s))]) Zf ?_ (λenv H l=>?_))
 .refine G0 1 Z (Lp [0,1,2,3] [1,3,5] (λt=>[(7,.osl 3 0 t.1.length 1),(8,I t.2)]) (λt=>[(3,.row 9 1 (map JZ t.1))]) an Zf (Lr [0,1,2,3]) λt bj g R=>?_);refine G0 6 Z (Lg 3 Z Z (Q5 Z g (λ_ g=>?_) (λ_ g=>?_)))
  .exact Gc 2 Z (Qi g (Gx 1 Z (JC R g (Lr [0,1,2,3]))))
  refine Gc 9 Z (Bd g λao V g=>Iz V Z (Go 2 Z (vH (Ek (xs:=[.tmp 61]) (es:=map JZ [ao.Name]) JP Z Z Z Z Z ⟨Z,trivial⟩ Z Z) ?_)));refine FE Z (Bd g λbk W g=>vH (Qh (e:=JZ) W JP EW (QF (i:=4))) ?_);exact Fg 9 Z Z (Qg g (Lr [0,1,2,5]))
 refine Gx 1 Z (Qd l (Gc 2 Z (vH (Ek (xs:=[]) (es:=map JZ []) JP Z Z Z Z Z trivial Z Z) ?_)));refine Fg 9 Z Z (Bd h λu aq h=>Ct u [0,1,2,3,4] [1,3,5,7] (λu=>[(9,.osl 4 0 u.length 1)]) (λu=>[(4,.row 9 1 (map JZ u))]) Zf ?_ (λenv H l=>?_))
 .refine G0 1 Z (Lp [0,1,2,3,4] [1,3,5,7] (λw=>[(9,.osl 4 0 w.1.length 1),(10,I w.2)]) (λw=>[(4,.row 9 1 (map JZ w.1))]) aq Zf (Lr [0,1,2,3,4]) λw bl j X=>?_);refine G0 6 Z (Lg 3 Z Z (Q5 Z j (λ_ j=>?_) (λ_ j=>?_)))
  .exact Gc 2 Z (Qi j (Gx 1 Z (JC X j (Lr [0,1,2,3,4]))))
  refine Gc 9 Z (Bd j λar aa j=>Iz aa Z (Go 2 Z (vH (Ek (xs:=[.tmp 78]) (es:=map JZ [ar.Name]) JP Z Z Z Z Z ⟨Z,trivial⟩ Z Z) ?_)));refine FE Z (Bd j λbm ab j=>vH (Qh (e:=JZ) ab JP EW (QF (i:=5))) ?_);exact Fg 9 Z Z (Qg j (Lr [0,1,2,3,6]))
 refine Gx 1 Z (Qd l (Gc 2 Z (vH (Ek (xs:=[]) (es:=map JZ []) JP Z Z Z Z Z trivial Z Z) ?_)));refine Fg 9 Z Z (Bd h λx au h=>Ct x [0,1,2,3,4,5] [1,3,5,7,9] (λx=>[(11,.osl 5 0 x.length 1)]) (λx=>[(5,.row 9 1 (map JZ x))]) Zf ?_ (λenv H l=>?_))
 .refine G0 1 Z (Lp [0,1,2,3,4,5] [1,3,5,7,9] (λy=>[(11,.osl 5 0 y.1.length 1),(12,I y.2)]) (λy=>[(5,.row 9 1 (map JZ y.1))]) au Zf (Lr [0,1,2,3,4,5]) λy bn k ac=>?_);refine G0 6 Z (Lg 3 Z Z (Q5 Z k (λ_ k=>?_) (λ_ k=>?_)))
  .exact Gc 2 Z (Qi k (Gx 1 Z (JC ac k (Lr [0,1,2,3,4,5]))))
  refine Gc 9 Z (Bd k λav af k=>Iz af Z (Go 2 Z (vH (Ek (xs:=[.tmp 95]) (es:=map JZ [av.Name]) JP Z Z Z Z Z ⟨Z,trivial⟩ Z Z) ?_)));refine FE Z (Bd k λbo ag k=>vH (Qh (e:=JZ) ag JP EW (QF (i:=6))) ?_);exact Fg 9 Z Z (Qg k (Lr [0,1,2,3,4,7]))
 refine Gx 1 Z (Qd l (Gc 1 Z (Bd h λB a h=>Cg B [] [] (λB=>[(2,.bool B)]) Ze Zf ?_ ?_)))
 .refine G0 3 Z (Cz [] a (T9 _ _) Z λbp az a=>Go 1 Z (Is 101 a Z (λ_ a=>?_) (λ_ a=>?_)))
  .refine Go 1 Z (Cb a (V9 _ _) Z (lo ln) λbq ba a=>Go 2 Z (Is 105 a Z (λ_ a=>?_) (λ_ a=>?_)))
   .refine Go 1 Z (Cb a (V9 _ _) Z (lo ln) λbr bb a=>Go 2 Z (Is 109 a Z (λ_ a=>?_) (λ_ a=>?_)))
    .refine Go 1 Z (Cb a (V9 _ _) Z (lo ln) λbc aw a=>Go 2 Z (Is 113 a Z (λ_ a=>?_) (λ_ a=>?_)))
     .refine Go 1 Z (Cb a (V9 _ _) Z (lo ln) λbd ax a=>Go 2 Z (Is 117 a Z (λ_ a=>?_) (λ_ a=>?_)))
      .exact Go 1 Z (Cb a (V9 _ _) Z (lo ln) λbe ay a=>Gl 3 Z a [])
      .exact Gl 5 Z a []
     .exact Gl 9 Z a []
    .exact Gl 13 Z a []
   .exact Gl 17 Z a []
  .exact Gl 21 Z a []
 exact QJ 1 Z h 2 []
def C4(n:Nat)(a:Int)(d:Int)(e:Int):AB Bool:=((bif d<=a then some (decide (a<=e))else some false):AB Bool).bind λb2=>some b2
theorem Dw(d:Int)(e:Int)(f:Int):Ks (C4 n d e f) 123 [I d,I e,I f] [] (λr=>.bool r):=by
 refine Kg 6 func123 Z Z Z Z λr h=>Bd h λb2 a h=>Cg b2 [] [] (λb2=>[(6,.bool b2)]) Ze Zf ?_ ?_
 .refine G0 5 Z (Is 10 a Z (λ_ a=>?_) (λ_ a=>?_))
  iterate 2 exact Gl 6 Z a []
 exact QJ 1 Z h 6 []
def II(a:AE)(d:Int):AB Bool:=(C4 n d 0 (i64.wrap ((a.Mats.length:Int)-1))).bind λe=>some e
theorem T4(a:AE)(d:Int):Ks (II n a d) 124 [.agg (AE.c a),I d] [] (λr=>.bool r):=by
 exact Kg 11 func124 Z Z Z Z λr h=>Lg 1 Z Z (Cz [] h (Dw _ _ _ _) Z λf e h=>Gt 4 Z h 4 [])
def LY(e:AE)(f:AA AF)(rec229:AE->(AA AF)->AB Bool)(d:Int):AB (AG Int (AG Unit Bool)):=(bif d<(f.length:Int) then(AJ f d).bind λa=>((bif (a.Laps==0)then(II n e a.Mat).bind λg=>(bif g then some ((a.Parts.length:Int)==0)else some false)else some false):AB Bool).bind λh=>((C4 n a.Laps 1 64).bind λi=>(bif i then(bif (a.Mat==0)then(bif 0<(a.Parts.length:Int) then(rec229 e a.Parts).bind λj=>some j else some false)else some false)else some false):AB Bool).bind λk=>((bif (!h)then some (!k)else some false):AB Bool).bind λl=>(bif l then some (.d (.d false))else some (.k (i64.wrap (d+1))))else some (.d (.k ())))
def c_(rec229:AE->(AA AF)->AB Bool)(n:Nat)(e:AE)(f:AA AF):AB Bool:=(iter (LY n e f rec229) n 0:AB (AG Unit Bool)).bind λd=>match d with|.k a=>(some true)|.d a=>some a
theorem QaU(rec229:AE->(AA AF)->AB Bool)(g:∀(i:AE) (j:AA AF) (r:Bool),rec229 i j=some r->Bk prog 181 [.agg (AE.c i),.rsl 3 (map AF.enc j)] [] (λr=>.bool r) r)(n:Nat)(i:AE)(j:AA AF)(r:Bool)(h:c_ rec229 n i j=some r):Bk prog 181 [.agg (AE.c i),.rsl 3 (map AF.enc j)] [] (λr=>.bool r) r:=by
 refine QG func181 Z Z Z ?_;refine G0 12 Z (Bd h λG J h=>BZ (b:=G) [] [] Ze Ze Zf ?_ (λ_ L=>?_))
 .refine G0 1 Z (Lp [0] [1,2] (λs=>[(5,I s)]) Ze J Zf (Lr [0]) λs R a k=>?_);refine G0 5 Z (Lg 3 Z Z (Q5 Z a (λ_ a=>?_) (λ_ a=>?_)))
  .exact Gc 2 Z (Qi a (Gx 1 Z (JD k a Z (Lr []))))
  refine Gc 8 Z (Bd a λM u a=>CQ u (QP M) Z (Go 6 Z (Bd a λl e a=>Ct l [0,1] [1,2,5,6] (λl=>[(7,.bool l)]) Ze Zf ?_ (λenv H m=>?_))))
  .refine G0 5 Z (Is 22 e Z (λ_ e=>?_) (λ_ e=>?_))
   .refine Go 3 Z (Cz [] e (T4 _ _ _) Z λT O e=>Go 2 Z (Is 28 e Z (λ_ e=>?_) (λ_ e=>?_)))
    .exact Go 2 Z (Lm Z (Gl 4 Z e [0,1]))
    .exact Gl 7 Z e [0,1]
   .exact Gl 13 Z e [0,1]
  refine Gx 1 Z (Qd m (Gc 1 Z (Bd a λp d a=>Ct p [0] [1,2,5,7] (λp=>[(8,.bool p)]) Ze Zf ?_ (λenv H m=>?_))))
  .refine G0 3 Z (Cz [] d (Dw _ _ _ _) Z λV P d=>Go 1 Z (Is 37 d Z (λ_ d=>?_) (λ_ d=>?_)))
   .refine Go 5 Z (Is 42 d Z (λ_ d=>?_) (λ_ d=>?_))
    .refine Go 2 Z (Lg 3 Z Z (Is 48 d Z (λ_ d=>?_) (λ_ d=>?_)))
     .exact Go 3 Z (Cz [] d (g _ _) Z λW Q d=>Gl 3 Z d [0])
     .exact Gl 7 Z d [0]
    .exact Gl 13 Z d [0]
   .exact Gl 18 Z d [0]
  refine Gx 1 Z (Qd m (Gc 1 Z (Bd a λq f a=>Cg q [0] [1,2,5] (λq=>[(59,.bool q)]) Ze Zf ?_ ?_)))
  .refine G0 4 Z (Is 56 f Z (λ_ f=>?_) (λ_ f=>?_))
   iterate 2 exact Gl 4 Z f [0]
  refine Cn Z a (λ_ a=>?_) (λ_ a=>?_)
  .refine Gc 8 Z (Qx a ?_);obtain rfl:=Oj k a;exact Gx 1 Z (Qq (Gx 1 Z (Rt h 4 [])))
  exact Gc 8 Z (Qg a (Lr [0]))
 subst L;exact QJ 6 Z h 4 []
def PH:Nat->AE->(AA AF)->AB Bool
  |0=>λ_ _=>none
  |n+1=>c_ (PH n) n
theorem ta:∀(a:AE) (d:AA AF) (r:Bool),PH n a d=some r->Bk prog 181 [.agg (AE.c a),.rsl 3 (map AF.enc d)] [] (λr=>.bool r) r:=by
  induction n with
  |zero=>intro a d r h;cases h
  |succ n ih=>intro a d r h;exact QaU _ ih n a d r h
def LV(i:AE)(e:Distance)(a:Int):AB (AG Int (AG Unit Bool)):=(bif a<(e.Cutoffs.length:Int) then(AJ e.Cutoffs a).bind λd=>((II n i d.Mat).bind λf=>(bif (!f)then some true else(bif d.Lap<1 then some true else(C4 n d.Limit 0 1099511627776).bind λg=>some (!g))):AB Bool).bind λh=>(bif h then some (.d (.d false))else some (.k (i64.wrap (a+1))))else some (.d (.k ())))
def RH(e:AE)(a:Distance):AB Bool:=(iter (LV n e a) n 0:AB (AG Unit Bool)).bind λf=>match f with|.k d=>(((C4 n a.Timing 1 3).bind λg=>(bif g then(PH n e a.Route).bind λh=>(bif h then(bif (a.Extra==(-1))then some true else(II n e a.Extra).bind λi=>some i)else some false)else some false):AB Bool).bind λj=>some j)|.d d=>some d
theorem fU(x:AE)(y:Distance):Ks (RH n x y) 125 [.agg (AE.c x),.agg (Distance.c y)] [] (λr=>.bool r):=by
 refine Kg 13 func125 Z Z Z Z λr h=>Bd h λz B h=>DD (b:=z) [0,1] [2,3] Ze Ze Zf ?_ (λF env H E f=>?_)
 .refine G0 1 Z (Lp [0,1] [2,3] (λk=>[(5,I k)]) Ze B Zf (Lr [0,1]) λk O d g=>?_);refine G0 6 Z (Lg 3 Z Z (Q5 Z d (λ_ d=>?_) (λ_ d=>?_)))
  .exact Gc 2 Z (Qi d (Gx 1 Z (JD g d Z (Lr [0,1]))))
  refine Gc 9 Z (Bd d λP m d=>Iz m Z (Go 6 Z (Bd d λi e d=>Ct i [0,1] [2,3,5] (λi=>[(34,.bool i)]) Ze Zf ?_ (λenv H f=>?_))))
  .refine G0 4 Z (Cz [] e (T4 _ _ _) Z λQ G e=>Go 2 Z (Is 24 e Z (λ_ e=>?_) (λ_ e=>?_)))
   .exact Gl 11 Z e [0,1]
   .refine Go 5 Z (Is 29 e Z (λ_ e=>?_) (λ_ e=>?_))
    .exact Gl 6 Z e [0,1]
    .exact Go 2 Z (Cz [] e (Dw _ _ _ _) Z λR J e=>Gl 3 Z e [0,1])
  refine Gx 1 Z (Qd f (Cn Z d (λ_ d=>?_) (λ_ d=>?_)))
  .refine Gc 8 Z (Qx d ?_);obtain rfl:=Oj g d;exact Gx 1 Z (Qq (Gx 1 Z (Rt h 4 [])))
  exact Gc 8 Z (Qg d (Lr [0,1]))
 subst E;refine Gx 1 Z (Qd f (Gc 1 Z (Bd h λj a h=>Cg j [] [] (λj=>[(4,.bool j)]) Ze Zf ?_ ?_)))
 .refine G0 3 Z (Cz [] a (Dw _ _ _ _) Z λT L a=>Go 1 Z (Is 38 a Z (λ_ a=>?_) (λ_ a=>?_)))
  .refine Go 3 Z (Cz [] a (ta _ _ _) Z λV M a=>Go 2 Z (Is 44 a Z (λ_ a=>?_) (λ_ a=>?_)))
   .refine Go 4 Z (Is 48 a Z (λ_ a=>?_) (λ_ a=>?_))
    .exact Gl 8 Z a []
    .exact Go 3 Z (Cz [] a (T4 _ _ _) Z λW N a=>Gl 4 Z a [])
   .exact Gl 12 Z a []
  .exact Gl 18 Z a []
 exact QJ 1 Z h 4 []
end Go.Sw
