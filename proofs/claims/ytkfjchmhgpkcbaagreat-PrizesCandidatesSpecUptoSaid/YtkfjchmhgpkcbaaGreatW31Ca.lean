/- What the functions compute that PrizesCandidatesSpec reaches, and that their calls refine it (part 3 of 3). -/
import Derived.Test.YtkfjchmhgpkcbaaGreatW31Ca2
set_option linter.unusedVariables false
set_option linter.unusedSimpArgs false
set_option maxRecDepth 100000
set_option maxHeartbeats 4000000
namespace Go.Sw
open Go.Proofs Tryz
def F_lj(n:Nat)(c:List Int)(a:Int×Int):Option (Ctl (Int×Int) (Ctl Int ((List Int)×Int))):=
  (bif decide (a.2<(c.length:Int))then(idx c a.2).bind fun b=>((bif decide (b<0)then some true else some (decide (1000<b))):Option Bool).bind fun d=>(bif d then some (.done (.done ([],1)))else some (.cont (IntKind.i64.wrap (a.1+b),IntKind.i64.wrap (a.2+1))))else some (.done (.cont a.1)))
def F_ji(n:Nat)(a:Int×(List money_part))(b:money_part):Option (Ctl (Int×(List money_part)) ((List Int)×Int)):=
  (app a.2 [b]).bind fun c=>some (.cont (IntKind.i64.wrap (a.1-b.cents),c))
def F_kj(n:Nat)(d:Int)(g:Int×(List money_part))(e:List money_part)(a:(List Int)×Int):Option (Ctl ((List Int)×Int) (List Int)):=
  (bif decide (a.2<(e.length:Int))then(idx e a.2).bind fun b=>(QcL 256 a.1 b.index).bind fun k=>(Qet a.1 b.index (IntKind.i64.wrap (d*b.cents))).bind fun c=>((bif decide (a.2<g.1)then(QcL 256 c b.index).bind fun h=>(QcL 256 c b.index).bind fun j=>(Qet c b.index (IntKind.i64.wrap (h+d))).bind fun f=>some f else some c):Option (List Int)).bind fun i=>some (.cont (i,IntKind.i64.wrap (a.2+1)))else some (.done a.1))
def F_dq(n:Nat)(d:Int)(e:List Int):Option ((List Int)×Int):=
  (F_x n d).bind fun l=>(bif (l != 0)then some ([],300)else(bif decide (256<(e.length:Int))then some ([],1)else(iter (F_lj n e) n (0,0):Option (Ctl Int ((List Int)×Int))).bind fun i=>match i with|.cont a=>(bif (a==0)then some ([],1)else((bif decide (d<0)then some (-1)else some 1):Option Int).bind fun b=>(F_eq n (IntKind.i64.wrap (b*d)) e a).bind fun p=>(F_ee n e (IntKind.i64.wrap (b*d)) a).bind fun y38=>(QbI (F_ji n) y38.1 (IntKind.i64.wrap (b*d),[]):Option (Ctl (Int×(List money_part)) ((List Int)×Int))).bind fun j=>match j with|.cont c=>((Qe4 (fun x y=>F_er n x y) c.2).bind fun k=>(iter (F_kj n b c k) n (List.replicate 256 0,0):Option (List Int)).bind fun f=>(arr 256 f).bind fun m=>(slc f 0 (e.length:Int)).bind fun g=>(F_hq n g).bind fun h=>some (h,0))|.done c=>some c)|.done a=>some a))
theorem k_dq(n:Nat)(a1:Int)(a2:List Int)(r:(List Int)×Int)(h:F_dq n a1 a2=some r):
    C prog 48 [I a1,.rsl 1 (List.map (Qd .i64) a2)] [] (RQ (fun r=>.tup [.osl 0 0 r.1.length 1,I r.2]) (fun r=>[.row 3 1 (List.map (Qd .i64) r.1)]) r):=by
 refine Qa func48 Z Z Z ?_
 refine G0 10 Z (Cz [] h (k_x _ _) Z fun r1 bh h=>Go 3 Z (Cn Z h (fun an h=>?_) (fun an h=>?_)))
 ·refine Gc 8 Z ?_
  obtain rfl:=Oi h
  refine R2 4 5 Z Z ?_
  refine Le.trans (Le.phantom (s:=4) (k:=1) (t:=3) (Nat.le_of_ble_eq_true Z) Z) ?_
  exact Lr [0]
 refine Gc 6 Z (Lm Z (Go 3 Z (Cn Z h (fun ao h=>?_) (fun ao h=>?_))))
 ·refine Gc 8 Z ?_
  obtain rfl:=Oi h
  refine R2 4 5 Z Z ?_
  refine Le.trans (Le.phantom (s:=4) (k:=1) (t:=3) (Nat.le_of_ble_eq_true Z) Z) ?_
  exact Lr [0]
 refine Gc 11 Z (Lm Z (Go 3 Z (Bd h fun aq ar h=>?_)))
 refine YS (b:=aq) [] [0,1] (fun J=>[(6,I J)]) (fun _=>[]) (fun _=>rfl) ?_ (fun J env H au j=>?_)
 ·refine G0 1 Z ?_
  refine Lp [] [0,1,22,23] (fun L=>[(6,I L.1),(24,I L.2)]) (fun _=>[]) ar (fun _=>rfl) (Lr []) fun L bi a M=>?_
  refine G0 6 Z (Yc Z a (fun ac a=>?_) (fun ac a=>?_))
  ·refine Gc 2 Z (Qj a ?_)
   obtain rfl:=Oj M a
   exact Gx 1 Z (Qm Z (Lr []))
  refine Gc 6 Z (Bd a fun bj ad a=>Iz ad Z (Go 6 Z (Bd a fun N q a=>?_)))
  refine Ct N [] [0,1,6,8,22,23,24] (fun N=>[(33,.bool N)]) (fun _=>[]) (fun _=>rfl) ?_ (fun env H j=>?_)
  ·refine G0 4 Z (Is 30 q Z (fun ae q=>?_) (fun ae q=>?_))
   ·exact Go 4 Z (Cl q [])
   ·exact Go 4 Z (Cl q [])
  refine Gx 1 Z (TC.le j (Cn Z a (fun af a=>?_) (fun af a=>?_)))
  ·refine Gc 10 Z (Ql a ?_)
   obtain rfl:=Oj M a
   refine Gx 1 Z (Qk (Gx 1 Z ?_))
   obtain rfl:=Oi h
   refine R2 4 5 Z Z ?_
   refine Le.trans (Le.phantom (s:=4) (k:=1) (t:=3) (Nat.le_of_ble_eq_true Z) Z) ?_
   exact Lr [0]
  exact Gc 14 Z (Qi a (Lr []))
 subst au
 refine Gx 1 Z (TC.le j (Gc 7 Z (Cn Z h (fun ag h=>?_) (fun ag h=>?_))))
 ·refine Gc 8 Z ?_
  obtain rfl:=Oi h
  refine R2 4 5 Z Z ?_
  refine Le.trans (Le.phantom (s:=4) (k:=1) (t:=3) (Nat.le_of_ble_eq_true Z) Z) ?_
  exact Lr [0]
 refine Gc 14 Z (Bd h fun O u h=>?_)
 refine Ct O [] [0,1,6] (fun O=>[(9,I O)]) (fun _=>[]) (fun _=>rfl) ?_ (fun env H j=>?_)
 ·refine G0 0 Z (Cn Z u (fun ah u=>?_) (fun ah u=>?_))
  ·exact Gc 3 Z (Cl u [])
  exact Gc 1 Z (Cl u [])
 refine Gx 1 Z (TC.le j (Gc 11 Z ?_))
 refine vH (Qa4 (n:=256) (k:=1) (e:=(Qd .i64)) (z:=0) zeroValue161 (by kernel_rfl) (by kernel_rfl) (by kernel_rfl) Z) ?_
 refine FE Z (Go 13 Z (Cd [] h (k_eq _ _ _ _) Z fun bk ba h=>FE Z (Go 3 Z (Bd h fun y38 hy38 h=>Bd h fun bl av h=>?_))))
 refine YR [3,4,5] (fun B=>[.cells 3 [I B.1],.row 161 1 (List.map (Qd .i64) (List.replicate 256 0)),.cells 162 [.osl 6 0 B.2.length 3],.dead,.dead,.dead,.row 167 3 (List.map money_part.c B.2)]) av (k_ee _ _ _ _ _ hy38) (fun _=>rfl) call126 Z Z Z Z (by decide) Z ?_ ?_ ?_
 ·refine Le.trans (QX (i:=2) (m:=0) (t:=167) (k:=3) Z Z Z) ?_
  exact Lr [0,1,2,3,4,5,6]
 ·intro B aw bm P bb
  refine G0 4 Z (And.intro Z ?_)
  refine G0 5 Z ?_
  refine vH (OpH.lit (xs:=[.tmp 51]) (es:=List.map money_part.c [aw]) QiT Z Z Z Z Z ⟨Z,trivial⟩ Z Z) ?_
  refine FE Z (Bd P fun bn ai P=>?_)
  refine vH (QO (e:=money_part.c) ai QiT runUnderlying162 (Yw (i:=8))) ?_
  exact FE Z (Go 11 Z (QaH P (Lr [0,1,2,3,4,5,9])))
 rintro bo rfl
 refine Gx 5 Z (Bd h fun bp w h=>?_)
 refine Qu [6] (OpC.fn call77 Z Z Z) (Qj7 (enc:=money_part.c) QeB w (fun x y c h=>k_er n x y c h) isAgg167 sizeOf167 call78 (fun _=>rfl) Z) ?_
 rintro _ _ ⟨rfl,rfl⟩
 refine FE Z ?_
 refine WO.le (QR (s:=58) Z (congrArg (fun n=>A.osl 6 0 n 3) (QdV w))) ?_
 refine WO.le (QkZ (i:=2) Z (congrArg (fun nz=>Blk.cells 162 [.osl 6 0 nz 3]) (QdV w))) ?_
 refine Go 10 Z (Bd h fun E ax h=>?_)
 refine Ct E [1] [1,11] (fun _=>[]) (fun E=>[(0,.row 161 1 (List.map (Qd .i64) E))]) (fun _=>rfl) ?_ (fun env H j=>?_)
 ·refine G0 1 Z ?_
  refine Lp [0,1,6] [1,9,10,11,60,61] (fun p=>[(62,I p.2)]) (fun p=>[(1,.row 161 1 (List.map (Qd .i64) p.1))]) ax (fun _=>rfl) (Lr [0,1,6]) fun p bq d aj=>?_
  refine G0 6 Z (Yc Z d (fun ak d=>?_) (fun ak d=>?_))
  ·refine Gc 2 Z (Qj d ?_)
   obtain rfl:=Oj aj d
   exact Gx 1 Z (QT (Lr [1]))
  refine Gc 7 Z (Bd d fun F Q d=>?_)
  refine vX (.ptr 2 (Int.toNat p.2*3)) (Yp Q Z runUnderlying162 sizeOf167) ?_
  refine vX (.agg (money_part.c F)) (QH Z isAgg167 sizeOf167 Z (QJ Q) Z Z) ?_
  refine Go 13 Z (Bd d fun br R d=>?_)
  refine vX (.ptr 1 (Int.toNat F.index*1)) (YG (n:=256) (k:=1) (l:=p.1) R runUnderlying161 sizeOf3 Z) ?_
  refine Bd d fun ab al d=>?_
  refine vU (QaF (e:=(Qd .i64)) (k:=1) (f:=0) (Qaj R).2 al sizeOf3 Z Z) ?_
  refine FE Z (Go 9 Z (Bd d fun T g d=>?_))
  refine Ct T [0,1,2] [1,9,10,11,60,61,62] (fun _=>[]) (fun T=>[(1,.row 161 1 (List.map (Qd .i64) T))]) (fun _=>rfl) ?_ (fun env H j=>?_)
  ·refine G0 0 Z (Cn Z g (fun am g=>?_) (fun am g=>?_))
   ·refine Gc 3 Z (Bd g fun ay V g=>?_)
    refine vX (.ptr 1 (Int.toNat F.index*1)) (YG (n:=256) (k:=1) (l:=ab) V runUnderlying161 sizeOf3 Z) ?_
    refine vX (I ay) (OpV.load Z isAgg3 Z (QJ (Qaj V).2)) ?_
    refine Go 2 Z (Bd g fun bc G g=>?_)
    refine vX (.ptr 1 (Int.toNat F.index*1)) (YG (n:=256) (k:=1) (l:=ab) G runUnderlying161 sizeOf3 Z) ?_
    refine Bd g fun bd X g=>?_
    refine vU (QaF (e:=(Qd .i64)) (k:=1) (f:=0) (Qaj G).2 X sizeOf3 Z Z) ?_
    exact FE Z (Go 1 Z (Cl g [0,1,2]))
   exact Gc 1 Z (Cl g [0,1,2])
  exact Gx 2 Z (TC.le j (Gc 4 Z (Qi d (Lr [0,1,2]))))
 refine Gx 1 Z (TC.le j (Gc 3 Z (Lm Z (Bd h fun be Y h=>?_))))
 obtain⟨W,rfl⟩:=Qbm Y
 refine Bd h fun bf aa h=>?_
 refine vH (Qjf (e:=(Qd .i64)) (l:=E) aa W (fun _=>rfl) runUnderlying161 sizeOf3) ?_
 refine FE Z (Cd [] h (k_hq _ _) Z fun bg az h=>FE Z (Go 5 Z ?_))
 obtain rfl:=Oi h
 exact R2 4 5 Z Z (Lr [1])
def F_lw(n:Nat)(d:Field)(i:History)(a:(List (Int×Option (List Int)))×Int):Option (Ctl ((List (Int×Option (List Int)))×Int) (Ctl (List (Int×Option (List Int))) ((List Payment)×Int))):=
  (bif decide (a.2<(d.Runners.length:Int))then(idx d.Runners a.2).bind fun e=>(F_ha n d i a.2).bind fun b=>(bif (b.2 != 0)then some (.done (.done ([],b.2)))else((bif decide (0<b.1)then(Qin a.1 b.1).bind fun c=>(app c.1 [e.Bib]).bind fun f=>(some (Qab c.2 b.1 (some f))).bind fun g=>some g else some a.1):Option (List (Int×Option (List Int)))).bind fun h=>some (.cont (h,IntKind.i64.wrap (a.2+1))))else some (.done (.cont a.1)))
def F_jo(n:Nat)(e:List (Int×Int))(b:Int×(List Int))(a:(List Int)×Int):Option (Ctl ((List Int)×Int) (List Int)):=
  (bif decide (a.2<(b.2.length:Int))then(some (Qae e (IntKind.i64.wrap (b.1+a.2)) 0)).bind fun c=>(app a.1 [c]).bind fun d=>some (.cont (d,IntKind.i64.wrap (a.2+1)))else some (.done a.1))
def F_kq(n:Nat)(g:Int×(List Int))(b:(List Int)×Int)(a:(List (Int×Int))×Int):Option (Ctl ((List (Int×Int))×Int) (List (Int×Int))):=
  (bif decide (a.2<(b.1.length:Int))then(idx b.1 a.2).bind fun c=>((bif decide (0<c)then(idx g.2 a.2).bind fun d=>(some (Qab a.1 d c)).bind fun e=>some e else some a.1):Option (List (Int×Int))).bind fun f=>some (.cont (f,IntKind.i64.wrap (a.2+1)))else some (.done a.1))
def F_jv(n:Nat)(g:List (Int×Int))(h:List (Int×Int))(c:Int×(List Int)):Option (Ctl (List (Int×Int)) ((List Payment)×Int)):=
  (iter (F_jo n g c) n ([],0):Option (List Int)).bind fun d=>(F_dp n d).bind fun a=>(bif (a.2 != 0)then some (.done ([],a.2))else(F_gy n [1] (c.2.length:Int)).bind fun e=>(F_dq n a.1 e).bind fun b=>(bif (b.2 != 0)then some (.done ([],b.2))else(iter (F_kq n c b) n (h,0):Option (List (Int×Int))).bind fun f=>some (.cont f)))
def F_fx(n:Nat)(f:Course)(c:Field)(g:Int)(h:Int)(i:History):Option ((List Payment)×Int):=
  (F_bm n f c g h).bind fun j=>(bif (j != 0)then some ([],j)else(F_dy n c i).bind fun k=>(bif (k != 0)then some ([],k)else(iter (F_lw n c i) n ([],0):Option (Ctl (List (Int×Option (List Int))) ((List Payment)×Int))).bind fun l=>match l with|.cont a=>((F_bg n f g h).bind fun m=>(F_fo n a).bind fun q=>(Qdd a).bind fun p=>(F_he n p).bind fun y57=>(QbI (F_jv n m) y57.1 []:Option (Ctl (List (Int×Int)) ((List Payment)×Int))).bind fun d=>match d with|.cont b=>((F_bb n b).bind fun e=>some (e,0))|.done b=>some b)|.done a=>some a))
theorem k_fx(n:Nat)(X:Course)(a2:Field)(a3:Int)(a4:Int)(a5:History)(r:(List Payment)×Int)(h:F_fx n X a2 a3 a4 a5=some r):
    C prog 22 [.agg (Course.c X),.agg (Field.c a2),I a3,I a4,.agg (History.c a5)] [] (RQ (fun r=>.tup [.osl 0 0 r.1.length 2,I r.2]) (fun r=>[.row 65 2 (List.map Payment.c r.1),.cells 51 [.osl 0 0 r.1.length 2],.cells 33 [I r.2]]) r):=by
 refine Qa func22 Z Z Z ?_
 refine G0 16 Z (Cz [] h (k_bm _ _ _ _ _) Z fun r1 ca h=>Go 9 Z (Cn Z h (fun bb h=>?_) (fun bb h=>?_)))
 ·refine Gc 9 Z ?_
  obtain rfl:=Oi h
  refine⟨[(10,.ptr 1 0),(11,.ptr 2 0)],[.row 65 2 (List.map Payment.c (([],r1).1)),.cells 51 [.osl 0 0 ((([],r1).1).length) 2],.cells 33 [I (([],r1).2)]],_,?_,QC Z Z (Qgc.cons (Qn isAgg51 Z Z) (Qgc.cons (Qn isAgg33 Z Z) Qgc.nil)),Z,Z⟩
  refine Le.trans (QX (i:=3) (m:=0) (t:=65) (k:=2) Z Z Z) ?_
  exact Lr [5,3,4]
 refine Gc 7 Z (Cz [] h (k_dy _ _ _) Z fun r3 cb h=>Go 9 Z (Cn Z h (fun bc h=>?_) (fun bc h=>?_)))
 ·refine Gc 9 Z ?_
  obtain rfl:=Oi h
  refine⟨[(10,.ptr 1 0),(11,.ptr 2 0)],[.row 65 2 (List.map Payment.c (([],r3).1)),.cells 51 [.osl 0 0 ((([],r3).1).length) 2],.cells 33 [I (([],r3).2)]],_,?_,QC Z Z (Qgc.cons (Qn isAgg51 Z Z) (Qgc.cons (Qn isAgg33 Z Z) Qgc.nil)),Z,Z⟩
  refine Le.trans (QX (i:=3) (m:=0) (t:=65) (k:=2) Z Z Z) ?_
  exact Lr [5,3,4]
 refine Gc 4 Z ?_
 refine vH (Qgf 3 1) ?_
 refine FE Z (Go 8 Z (Lm Z (Go 3 Z (Bd h fun bd be h=>?_))))
 refine YS (b:=bd) [0,3,4,5] [2,3,5,10,11,14] (fun _=>[]) (fun O=>[(3,.mapO false 3 1 (QI (fun x=>A.int .i64 x) (Qd .i64) O))]) (fun _=>rfl) ?_ (fun O env H bf u=>?_)
 ·refine G0 1 Z ?_
  refine Lp [0,1,2,3,4,5] [2,3,5,6,9,10,11,14,46,47] (fun B=>[(48,I B.2)]) (fun B=>[(5,.mapO false 3 1 (QI (fun x=>A.int .i64 x) (Qd .i64) B.1))]) be (fun _=>rfl) (Lr [0,1,2,3,4,5]) fun B cc d P=>?_
  refine G0 6 Z (Yc Z d (fun an d=>?_) (fun an d=>?_))
  ·refine Gc 2 Z (Qj d ?_)
   obtain rfl:=Oj P d
   exact Gx 1 Z (Qm Z (Lr [0,3,4,5]))
  refine Gc 7 Z (Bd d fun bg ao d=>Iz ao Z (Go 11 Z (Cd [] d (k_ha _ _ _ _) Z fun E bn d=>FE Z (Go 14 Z (Cn Z d (fun aq d=>?_) (fun aq d=>?_))))))
  ·refine Gc 11 Z (Ql d ?_)
   obtain rfl:=Oj P d
   refine Gx 1 Z (Qk (Gx 1 Z ?_))
   obtain rfl:=Oi h
   refine⟨[(10,.ptr 1 0),(11,.ptr 2 0)],[.row 65 2 (List.map Payment.c (([],E.2).1)),.cells 51 [.osl 0 0 ((([],E.2).1).length) 2],.cells 33 [I (([],E.2).2)]],_,?_,QC Z Z (Qgc.cons (Qn isAgg51 Z Z) (Qgc.cons (Qn isAgg33 Z Z) Qgc.nil)),Z,Z⟩
   refine Le.trans (QX (i:=3) (m:=0) (t:=65) (k:=2) Z Z Z) ?_
   exact Lr [7,3,4]
  refine Gc 8 Z (Bd d fun Q q d=>?_)
  refine Ct Q [0,1,2,3,4,5] [2,3,5,6,9,10,11,14,46,47,48] (fun _=>[]) (fun Q=>[(5,.mapO false 3 1 (QI (fun x=>A.int .i64 x) (Qd .i64) Q))]) (fun _=>rfl) ?_ (fun env H u=>?_)
  ·refine G0 0 Z (Cn Z q (fun ar q=>?_) (fun ar q=>?_))
   ·refine Gc 5 Z (Bd q fun bh au q=>?_)
    refine vH (QhF (ek:=(fun x=>A.int .i64 x)) (ev:=(Qd .i64)) (key:=E.1) (l:=B.1) (t:=3) (k:=1) Qa9 au underlying110 zeroValue32) ?_
    refine FE Z (Go 2 Z ?_)
    refine vH (OpH.lit (xs:=[.tmp 71]) (es:=List.map (Qd .i64) [bg.Bib]) Qw Z Z Z Z Z ⟨Z,trivial⟩ Z Z) ?_
    refine FE Z (Bd q fun bi av q=>?_)
    refine vH (QO (e:=(Qd .i64)) av Qw runUnderlying32 (Yw (i:=8))) ?_
    refine FE Z (Bd q fun cd aw q=>?_)
    refine vU (Qjd (ek:=(fun x=>A.int .i64 x)) (ev:=(Qd .i64)) (key:=E.1) (rows:=bi) (l:=bh.2) (j:=9) (t:=3) (k:=1) Qa9 aw underlying110) ?_
    exact FE Z (Go 1 Z (Cl q [0,1,2,3,4,5]))
   exact Gc 1 Z (Cl q [0,1,2,3,4,5])
  exact Gx 2 Z (TC.le u (Gc 4 Z (Qi d (Lr [0,1,2,3,4,5]))))
 subst bf
 refine Gx 1 Z (TC.le u (Gc 5 Z (Cd [] h (k_bg _ _ _ _) Z fun R bo h=>FE Z ?_)))
 refine vH Yj ?_
 refine FE Z (Go 10 Z (Cd [3] h (k_fo _ _) Z fun ce bp h=>FE Z (Go 3 Z (Bd h fun al ax h=>?_))))
 refine TC.le (Qjh (i:=3) (H':=[.cells 49 (Course.c X),.cells 51 [.nils],.cells 33 [I 0],.fmap (Qt (fun x=>A.int .i64 x) (fun x=>A.rsl 1 (List.map (Qd .i64) x)) al),.map (Qt (fun x=>A.int .i64 x) (fun x=>A.int .i64 x) R),.map (Qt (fun x=>A.int .i64 x) (fun x=>A.int .i64 x) []),.cells 103 [.map 4],.cells 103 [.map 5],.cells 110 [.map 3]]) ax) ?_
 refine Bd h fun y57 hy57 h=>Bd h fun bq ay h=>?_
 refine YR [8,3] (fun am=>[.cells 49 (Course.c X),.cells 51 [.nils],.cells 33 [I 0],.fmap (Qt (fun x=>A.int .i64 x) (fun x=>A.rsl 1 (List.map (Qd .i64) x)) al),.map (Qt (fun x=>A.int .i64 x) (fun x=>A.int .i64 x) R),.map (Qt (fun x=>A.int .i64 x) (fun x=>A.int .i64 x) am),.cells 103 [.map 4],.cells 103 [.map 5],.dead]) ay (k_he _ _ _ hy57) (fun _=>rfl) call73 Z Z Z Z (by decide) Z (Lr [0,1,2,3,4,5,6,7,8]) ?_ ?_
 ·intro am bj br a M
  refine G0 8 Z (And.intro Z ?_)
  refine G0 10 Z (Lm Z (Go 3 Z (Bd a fun z az a=>?_)))
  refine Ct z [0,1,2,3,4,5,6,7,8,0] [10,11,20,22] (fun z=>[(23,.osl 9 0 z.length 1)]) (fun z=>[(9,.row 3 1 (List.map (Qd .i64) z))]) (fun _=>rfl) ?_ (fun env H u=>?_)
  ·refine G0 1 Z ?_
   refine Lp [0,1,2,3,4,5,6,7,8,0] [10,11,19,20,21,22,85] (fun w=>[(23,.osl 9 0 w.1.length 1),(86,I w.2)]) (fun w=>[(9,.row 3 1 (List.map (Qd .i64) w.1))]) az (fun _=>rfl) ?_ ?_
   ·refine Le.trans (Le.phantom (s:=23) (k:=1) (t:=3) (Nat.le_of_ble_eq_true Z) Z) ?_
    exact Lr [0,1,2,3,4,5,6,7,8,9]
   intro w bs f Y
   refine G0 6 Z (Yc Z f (fun aa f=>?_) (fun aa f=>?_))
   ·refine Gc 2 Z (Qj f ?_)
    obtain rfl:=Oj Y f
    exact Gx 1 Z (QT (Lr [0,1,2,3,4,5,6,7,8,9]))
   refine Gc 16 Z (Bd f fun T ab f=>?_)
   refine vX (I T) (YC (ev:=(fun x=>A.int .i64 x)) (z0:=0) (k:=(IntKind.i64.wrap (bj.1+w.2))) (l:=R) Qa9 ab underlying103 zeroValue3 ZR.int) ?_
   refine vH (OpH.lit (xs:=[.tmp 94]) (es:=List.map (Qd .i64) [T]) Qw Z Z Z Z Z ⟨Z,trivial⟩ Z Z) ?_
   refine FE Z (Bd f fun bt ac f=>?_)
   refine vH (QO (e:=(Qd .i64)) ac Qw runUnderlying32 (Yw (i:=10))) ?_
   exact FE Z (Go 8 Z (Qi f (Lr [0,1,2,3,4,5,6,7,8,11])))
  refine Gx 1 Z (TC.le u (Gc 3 Z (Bd a fun F ad a=>?_)))
  refine Qfz (OpC.fn call30 rfl rfl rfl) (QaX.cons rfl (.inr ⟨_,_,_,_,_,rfl,rfl,List.length_map ..,rfl⟩) QaX.nil) (k_dp _ _ _ ad) (by rintro _ _ ⟨rfl,rfl⟩;rfl) ?_
  rintro _ _ ⟨rfl,rfl⟩
  refine FE Z (Go 14 Z (Cn Z a (fun ae a=>?_) (fun ae a=>?_)))
  ·refine Gc 10 Z (Qgr a (Lw trivial) ?_)
   obtain rfl:=Ojr M a
   refine Gx 2 Z ?_
   obtain rfl:=Oi h
   refine⟨[(10,.ptr 1 0),(11,.ptr 2 0)],[.row 65 2 (List.map Payment.c (([],F.2).1)),.cells 51 [.osl 0 0 ((([],F.2).1).length) 2],.cells 33 [I (([],F.2).2)]],_,?_,QC Z Z (Qgc.cons (Qn isAgg51 Z Z) (Qgc.cons (Qn isAgg33 Z Z) Qgc.nil)),Z,Z⟩
   refine Le.trans (QX (i:=1) (m:=0) (t:=65) (k:=2) Z Z Z) ?_
   exact Lr [10,1,2]
  refine Gc 5 Z ?_
  refine vH (OpH.lit (xs:=[.const (.int .i64 1)]) (es:=List.map (Qd .i64) [1]) Qw Z Z Z Z Z ⟨Z,trivial⟩ Z Z) ?_
  refine FE Z (Go 1 Z (Lm Z ?_))
  refine WO.le (Yn [(108,_)] Z Z (Qjj.cons Z FzA.o Qjj.nil) (FzH.keep (FzH.keep (FzH.keep (FzH.keep (FzH.keep (FzH.keep (FzH.keep (FzH.keep (FzH.keep (FzH.keep (FzH.keep (QS _))))))))))))) ?_
  refine Cd [] a (k_gy _ _ _) Z fun bu bk a=>FE Z ?_
  refine WO.le (Yn [(111,_)] Z Z (Qjj.cons Z FzA.o Qjj.nil) (FzH.keep (FzH.keep (FzH.keep (FzH.keep (FzH.keep (FzH.keep (FzH.keep (FzH.keep (FzH.keep (FzH.keep (FzH.keep (FzH.keep (QS _)))))))))))))) ?_
  refine Cd [] a (k_dq _ _ _) Z fun G bl a=>FE Z (Go 14 Z (Cn Z a (fun af a=>?_) (fun af a=>?_)))
  ·refine Gc 10 Z (Qgr a (Lw trivial) ?_)
   obtain rfl:=Ojr M a
   refine Gx 2 Z ?_
   obtain rfl:=Oi h
   refine⟨[(10,.ptr 1 0),(11,.ptr 2 0)],[.row 65 2 (List.map Payment.c (([],G.2).1)),.cells 51 [.osl 0 0 ((([],G.2).1).length) 2],.cells 33 [I (([],G.2).2)]],_,?_,QC Z Z (Qgc.cons (Qn isAgg51 Z Z) (Qgc.cons (Qn isAgg33 Z Z) Qgc.nil)),Z,Z⟩
   refine Le.trans (QX (i:=1) (m:=0) (t:=65) (k:=2) Z Z Z) ?_
   exact Lr [13,1,2]
  refine Gc 9 Z (Bd a fun J ba a=>?_)
  refine Ct J [0,1,2,3,4,5,6,7,8] [] (fun _=>[]) (fun J=>[(5,.map (Qt (fun x=>A.int .i64 x) (fun x=>A.int .i64 x) J))]) (fun _=>rfl) ?_ (fun env H u=>?_)
  ·refine G0 1 Z ?_
   refine Lp [0,1,2,3,4,5,6,7,8,12] [20,22,118,119] (fun y=>[(120,I y.2)]) (fun y=>[(5,.map (Qt (fun x=>A.int .i64 x) (fun x=>A.int .i64 x) y.1))]) ba (fun _=>rfl) (Lr [0,1,2,3,4,5,6,7,8,12]) fun y bv g ag=>?_
   refine G0 6 Z (Yc Z g (fun ah g=>?_) (fun ah g=>?_))
   ·refine Gc 2 Z (Qj g ?_)
    obtain rfl:=Oj ag g
    exact Gx 1 Z (QT (Lr [0,1,2,3,4,5,6,7,8]))
   refine Gc 7 Z (Bd g fun V N g=>?_)
   refine vX (.ptr 9 (Int.toNat y.2*1)) (Yp N Z runUnderlying32 sizeOf3) ?_
   refine vX (I V) (OpV.load Z isAgg3 Z (QJ N)) ?_
   refine Go 10 Z (Bd g fun L p g=>?_)
   refine Ct L [0,1,2,3,4,5,6,7,8,9] [20,22,118,119,120] (fun _=>[]) (fun L=>[(5,.map (Qt (fun x=>A.int .i64 x) (fun x=>A.int .i64 x) L))]) (fun _=>rfl) ?_ (fun env H u=>?_)
   ·refine G0 0 Z (Cn Z p (fun ai p=>?_) (fun ai p=>?_))
    ·refine DSs 6 Z (D 3 Z ?_)
     obtain⟨W,aj,p⟩:=Yy p
     refine DS.wo (x:=.rp [I W]) ?_ ?_
     ·exact Ix aj runUnderlying32 sizeOf3 Z Wp
     refine D 2 Z (DS.done Z (Bd p fun bw ak p=>?_))
     refine vU (Yt (ev:=(fun x=>A.int .i64 x)) (k:=W) (v:=V) (l:=y.1) Qa9 ak Z underlying103) ?_
     exact FE Z (Go 1 Z (Cl p [0,1,2,3,4,5,6,7,8,9]))
    exact Gc 1 Z (Cl p [0,1,2,3,4,5,6,7,8,9])
   exact Gx 2 Z (TC.le u (Gc 4 Z (Qi g (Lr [0,1,2,3,4,5,6,7,8,9]))))
  exact Gx 1 Z (QaH a (Le.trans u (Lr [0,1,2,3,4,5,6,7,8])))
 rintro bx rfl
 refine Gx 5 Z (Cd [5] h (k_bb _ _) Z fun bz bm h=>FE Z (Go 5 Z ?_))
 obtain rfl:=Oi h
 exact Rx [9,1,2] [10,11] Z (QC Z Z (Qgc.cons (Qn isAgg51 Z Z) (Qgc.cons (Qn isAgg33 Z Z) Qgc.nil))) ⟨Z,Z⟩
def F_lk(n:Nat)(b:List Payment)(e:List Payment)(a:Int):Option (Ctl Int (Ctl Unit Bool)):=
  (bif decide (a<(b.length:Int))then(idx b a).bind fun c=>(idx e a).bind fun d=>(bif (c != d)then some (.done (.done false))else some (.cont (IntKind.i64.wrap (a+1))))else some (.done (.cont ())))
def F_cb(n:Nat)(b:List Payment)(c:List Payment):Option Bool:=
  (bif ((b.length:Int) != (c.length:Int))then some false else(iter (F_lk n b c) n 0:Option (Ctl Unit Bool)).bind fun d=>match d with|.cont a=>(some true)|.done a=>some a)
theorem k_cb(n:Nat)(m:List Payment)(s:List Payment)(r:Bool)(h:F_cb n m s=some r):
    Csm prog 20 [.rsl 2 (List.map Payment.c m),.rsl 2 (List.map Payment.c s)] [] (fun r=>.bool r) r:=by
 refine Qa func20 Z Z Z ?_
 refine G0 9 Z (Lm Z (Go 1 Z (Lm Z (Go 3 Z (Cn Z h (fun t h=>?_) (fun t h=>?_))))))
 ·exact Gc 7 Z (Rt h 4 [])
 refine Gc 8 Z (Bd h fun u w h=>?_)
 refine YS (b:=u) [] [] (fun _=>[]) (fun _=>[]) (fun _=>rfl) ?_ (fun B env H y z=>?_)
 ·refine G0 1 Z ?_
  refine Lp [] [0,1] (fun g=>[(5,I g)]) (fun _=>[]) w (fun _=>rfl) (Lr []) fun g E a f=>?_
  refine G0 5 Z (Lm Z (Go 3 Z (Yc Z a (fun i a=>?_) (fun i a=>?_))))
  ·refine Gc 2 Z (Qj a ?_)
   obtain rfl:=Oj f a
   exact Gx 1 Z (Qm Z (Lr []))
  refine Gc 5 Z (DSs 8 Z (D 2 Z ?_))
  obtain⟨d,j,a⟩:=Yy a
  refine DS.wo (x:=.rp [I d.Bib,I d.Amount]) ?_ ?_
  ·exact Ix j runUnderlying51 sizeOf65 Z Wp
  refine D 3 Z ?_
  obtain⟨e,k,a⟩:=Yy a
  refine DS.wo (x:=.rp [I e.Bib,I e.Amount]) ?_ ?_
  ·exact Ix k runUnderlying51 sizeOf65 Z Wp
  refine D 1 Z (DS.done Z ?_)
  refine vX (.bool (d != e)) (QhD (p:=d) (q:=e) QkP Z Z) ?_
  refine Go 2 Z (Cn Z a (fun l a=>?_) (fun l a=>?_))
  ·refine Gc 8 Z (Ql a ?_)
   obtain rfl:=Oj f a
   exact Gx 1 Z (Qk (Gx 1 Z (Rt h 4 [])))
  exact Gc 8 Z (Qi a (Lr []))
 subst y
 exact Gx 1 Z (TC.le z (Gc 6 Z (Rt h 4 [])))
def F_io(n:Nat)(b:List Int)(e:List Int)(a:Int):Option (Ctl Int (Ctl Unit Bool)):=
  (bif decide (a<(b.length:Int))then(idx b a).bind fun c=>(idx e a).bind fun d=>(bif (c != d)then some (.done (.done false))else some (.cont (IntKind.i64.wrap (a+1))))else some (.done (.cont ())))
def F_u(n:Nat)(b:List Int)(c:List Int):Option Bool:=
  (bif ((b.length:Int) != (c.length:Int))then some false else(iter (F_io n b c) n 0:Option (Ctl Unit Bool)).bind fun d=>match d with|.cont a=>(some true)|.done a=>some a)
theorem k_u(n:Nat)(j:List Int)(k:List Int)(r:Bool)(h:F_u n j k=some r):
    Csm prog 14 [.rsl 1 (List.map (Qd .i64) j),.rsl 1 (List.map (Qd .i64) k)] [] (fun r=>.bool r) r:=by
 refine Qa func14 Z Z Z ?_
 refine G0 9 Z (Lm Z (Go 1 Z (Lm Z (Go 3 Z (Cn Z h (fun l h=>?_) (fun l h=>?_))))))
 ·exact Gc 7 Z (Rt h 4 [])
 refine Gc 8 Z (Bd h fun m p h=>?_)
 refine YS (b:=m) [] [] (fun _=>[]) (fun _=>[]) (fun _=>rfl) ?_ (fun w env H q s=>?_)
 ·refine G0 1 Z ?_
  refine Lp [] [0,1] (fun d=>[(5,I d)]) (fun _=>[]) p (fun _=>rfl) (Lr []) fun d y a c=>?_
  refine G0 5 Z (Lm Z (Go 3 Z (Yc Z a (fun e a=>?_) (fun e a=>?_))))
  ·refine Gc 2 Z (Qj a ?_)
   obtain rfl:=Oj c a
   exact Gx 1 Z (Qm Z (Lr []))
  refine Gc 5 Z (DSs 8 Z (D 2 Z ?_))
  obtain⟨t,f,a⟩:=Yy a
  refine DS.wo (x:=.rp [I t]) ?_ ?_
  ·exact Ix f runUnderlying32 sizeOf3 Z Wp
  refine D 3 Z ?_
  obtain⟨u,g,a⟩:=Yy a
  refine DS.wo (x:=.rp [I u]) ?_ ?_
  ·exact Ix g runUnderlying32 sizeOf3 Z Wp
  refine D 1 Z (DS.done Z (Go 3 Z (Cn Z a (fun i a=>?_) (fun i a=>?_))))
  ·refine Gc 8 Z (Ql a ?_)
   obtain rfl:=Oj c a
   exact Gx 1 Z (Qk (Gx 1 Z (Rt h 4 [])))
  exact Gc 8 Z (Qi a (Lr []))
 subst q
 exact Gx 1 Z (TC.le s (Gc 6 Z (Rt h 4 [])))
def F_dn(n:Nat):Option Bool:=
  (F_bp n [1,3]).bind fun b=>(F_ck n [10,20]).bind fun a=>(F_cf n ({Name:=[115,97,109,112,108,101],Mats:=[{Name:=[108,105,110,101],Kind:=1:Mat},{Name:=[102,105,110,105,115,104],Kind:=3:Mat}],Legs:=[{From:=0,To:=1,Min:=10,Max:=100:Leg}],Distances:=[{Name:=[98,114,105,101,102],Route:=[z_Part,{z_Part with Mat:=1:Part}],Timing:=1,Cutoffs:=[],Extra:=(-1):Distance}],Waves:=[{Name:=[101,108,105,116,101],Gun:=0:Wave}],Offences:=[],Categories:=[],Prizes:=b,Ties:=[{z_Step with Kind:=1,By:=4:Step}],Faults:=z_Faults,Fee:=0,Deadline:=0:Course}) ({Clocks:={Segments:=[],Far:=[[0]]:Clocks},Pairs:=[],Runners:=a:Field}) 0 (-1)).bind fun c=>(F_cd n ({Name:=[115,97,109,112,108,101],Mats:=[{Name:=[108,105,110,101],Kind:=1:Mat},{Name:=[102,105,110,105,115,104],Kind:=3:Mat}],Legs:=[{From:=0,To:=1,Min:=10,Max:=100:Leg}],Distances:=[{Name:=[98,114,105,101,102],Route:=[z_Part,{z_Part with Mat:=1:Part}],Timing:=1,Cutoffs:=[],Extra:=(-1):Distance}],Waves:=[{Name:=[101,108,105,116,101],Gun:=0:Wave}],Offences:=[],Categories:=[],Prizes:=b,Ties:=[{z_Step with Kind:=1,By:=4:Step}],Faults:=z_Faults,Fee:=0,Deadline:=0:Course}) ({Clocks:={Segments:=[],Far:=[[0]]:Clocks},Pairs:=[],Runners:=a:Field}) 0 (-1)).bind fun d=>(F_h n ({Clocks:={Segments:=[],Far:=[[0]]:Clocks},Pairs:=[],Runners:=a:Field}) 1).bind fun e=>(F_h n ({Clocks:={Segments:=[],Far:=[[0]]:Clocks},Pairs:=[],Runners:=a:Field}) 0).bind fun p=>(F_bp n [1,2]).bind fun q=>(F_ck n [10,10]).bind fun r=>(F_fx n ({Name:=[115,97,109,112,108,101],Mats:=[{Name:=[108,105,110,101],Kind:=1:Mat},{Name:=[102,105,110,105,115,104],Kind:=3:Mat}],Legs:=[{From:=0,To:=1,Min:=10,Max:=100:Leg}],Distances:=[{Name:=[98,114,105,101,102],Route:=[z_Part,{z_Part with Mat:=1:Part}],Timing:=1,Cutoffs:=[],Extra:=(-1):Distance}],Waves:=[{Name:=[101,108,105,116,101],Gun:=0:Wave}],Offences:=[],Categories:=[],Prizes:=q,Ties:=[{z_Step with Kind:=1,By:=4:Step}],Faults:=z_Faults,Fee:=0,Deadline:=0:Course}) ({Clocks:={Segments:=[],Far:=[[0]]:Clocks},Pairs:=[],Runners:=r:Field}) 0 (-1) ({World:=0,Offsets:=[],Choices:=[{Outcome:=0,X:=10:Choice},{Outcome:=0,X:=10:Choice}]:History})).bind fun f=>(F_cd n ({Name:=[115,97,109,112,108,101],Mats:=[{Name:=[108,105,110,101],Kind:=1:Mat},{Name:=[102,105,110,105,115,104],Kind:=3:Mat}],Legs:=[{From:=0,To:=1,Min:=10,Max:=100:Leg}],Distances:=[{Name:=[98,114,105,101,102],Route:=[z_Part,{z_Part with Mat:=1:Part}],Timing:=1,Cutoffs:=[],Extra:=(-1):Distance}],Waves:=[{Name:=[101,108,105,116,101],Gun:=0:Wave}],Offences:=[],Categories:=[],Prizes:=b,Ties:=[{z_Step with Kind:=1,By:=4:Step}],Faults:=z_Faults,Fee:=0,Deadline:=0:Course}) z_Field 0 (-1)).bind fun g=>(F_cf n z_Course ({Clocks:={Segments:=[],Far:=[[0]]:Clocks},Pairs:=[],Runners:=a:Field}) 0 (-1)).bind fun h=>((bif (c.2==0)then(F_cb n c.1 [{Bib:=1,Amount:=100:Payment}]).bind fun i=>(bif i then(bif (d.2==0)then(bif ((d.1.length:Int)==0)then(bif (e.2==0)then(F_u n e.1 [1]).bind fun j=>(bif j then some (p.2==310)else some false)else some false)else some false)else some false)else some false)else some false):Option Bool).bind fun k=>((bif k then(bif (f.2==0)then(F_cb n f.1 [{Bib:=1,Amount:=150:Payment},{Bib:=2,Amount:=150:Payment}]).bind fun l=>(bif l then(bif (g.2==240)then some (h.2 != 0)else some false)else some false)else some false)else some false):Option Bool).bind fun m=>some m
theorem k_dn(n:Nat)(r:Bool)(h:F_dn n=some r):
    Csm prog 10 [] [] (fun r=>.bool r) r:=by
 refine Qa func10 Z Z Z ?_
 refine G0 7 Z ?_
 refine vH (OpH.lit (xs:=[.const (.int .i64 1),.const (.int .i64 3)]) (es:=List.map (Qd .i64) [1,3]) Qw Z Z Z Z Z ⟨Z,Z,trivial⟩ Z Z) ?_
 refine aV (.osl 0 0 ([1,3].length) 1) [.row 3 1 (List.map (Qd .i64) [1,3])] Z Z ?_
 refine WO.le (Yn [(18,_)] Z Z (Qjj.cons Z FzA.o Qjj.nil) (FzH.keep (QS _))) ?_
 refine Cd [] h (k_bp _ _) Z fun d R h=>?_
 refine aV (.agg [.str [115,97,109,112,108,101],.osl 1 0 ([{Name:=[108,105,110,101],Kind:=1:Mat},{Name:=[102,105,110,105,115,104],Kind:=3:Mat}].length) 2,.osl 2 0 ([{From:=0,To:=1,Min:=10,Max:=100:Leg}].length) 4,.osl 3 0 ([{Name:=[98,114,105,101,102],Route:=[z_Part,{z_Part with Mat:=1:Part}],Timing:=1,Cutoffs:=[],Extra:=(-1):Distance}].length) 5,.osl 4 0 ([{Name:=[101,108,105,116,101],Gun:=0:Wave}].length) 2,.rsl 4 (List.map Offence.c []),.rsl 3 (List.map Category.c []),.osl 5 0 d.length 4,.osl 6 0 ([{z_Step with Kind:=1,By:=4:Step}].length) 8,I 0,I 0,I 0,I 0,I 0,I 0,I 0]) [.dead,.row 101 2 (List.map Mat.c [{Name:=[108,105,110,101],Kind:=1:Mat},{Name:=[102,105,110,105,115,104],Kind:=3:Mat}]),.row 135 4 (List.map Leg.c [{From:=0,To:=1,Min:=10,Max:=100:Leg}]),.row 99 5 (List.map Distance.c [{Name:=[98,114,105,101,102],Route:=[z_Part,{z_Part with Mat:=1:Part}],Timing:=1,Cutoffs:=[],Extra:=(-1):Distance}]),.row 139 2 (List.map Wave.c [{Name:=[101,108,105,116,101],Gun:=0:Wave}]),.row 74 4 (List.map Prize.c d),.row 144 8 (List.map Step.enc [{z_Step with Kind:=1,By:=4:Step}]),.cells 49 [.str [115,97,109,112,108,101],.osl 1 0 ([{Name:=[108,105,110,101],Kind:=1:Mat},{Name:=[102,105,110,105,115,104],Kind:=3:Mat}].length) 2,.osl 2 0 ([{From:=0,To:=1,Min:=10,Max:=100:Leg}].length) 4,.osl 3 0 ([{Name:=[98,114,105,101,102],Route:=[z_Part,{z_Part with Mat:=1:Part}],Timing:=1,Cutoffs:=[],Extra:=(-1):Distance}].length) 5,.osl 4 0 ([{Name:=[101,108,105,116,101],Gun:=0:Wave}].length) 2,.rsl 4 (List.map Offence.c []),.rsl 3 (List.map Category.c []),.osl 5 0 d.length 4,.osl 6 0 ([{z_Step with Kind:=1,By:=4:Step}].length) 8,I 0,I 0,I 0,I 0,I 0,I 0,I 0]] Z Z ?_
 refine vH (OpH.lit (xs:=[.const (.int .i64 10),.const (.int .i64 20)]) (es:=List.map (Qd .i64) [10,20]) Qw Z Z Z Z Z ⟨Z,Z,trivial⟩ Z Z) ?_
 refine aV (.osl 8 0 ([10,20].length) 1) [_,_,_,_,_,_,_,_,.row 3 1 (List.map (Qd .i64) [10,20])] Z Z ?_
 refine WO.le (Yn [(20,_)] Z Z (Qjj.cons Z FzA.o Qjj.nil) (FzH.keep (FzH.keep (FzH.keep (FzH.keep (FzH.keep (FzH.keep (FzH.keep (FzH.keep (FzH.keep (QS _))))))))))) ?_
 refine Cd [] h (k_ck _ _) Z fun e T h=>?_
 refine aV (.agg [.rsl 3 (List.map Segment.c []),.osl 9 0 ([[0]].length) 1,.rsl 2 (List.map Pair.c []),.osl 10 0 e.length 3]) [_,_,_,_,_,_,_,_,.dead,.row 32 1 (List.map (Yo 1 (Qd .i64)) [[0]]),.row 68 3 (List.map Runner.c e),.cells 29 [.rsl 3 (List.map Segment.c []),.osl 9 0 ([[0]].length) 1,.rsl 2 (List.map Pair.c []),.osl 10 0 e.length 3]] Z Z ?_
 refine Go 10 Z ?_
 refine WO.le (Yn [(19,_),(23,_)] Z Z (Qjj.cons Z (FzA.agg (FzL.cons (FzA.refl _) (FzL.cons FzA.o (FzL.refl _)))) (Qjj.cons Z (FzA.agg (FzL.cons (FzA.refl _) (FzL.cons FzA.o (FzL.refl _)))) Qjj.nil)) (FzH.keep (FzH.keep (FzH.keep (FzH.keep (FzH.keep (FzH.keep (FzH.keep (FzH.cells (FzL.cons (FzA.refl _) (FzL.cons FzA.o (FzL.refl _))) (FzH.keep (FzH.keep (FzH.keep (FzH.keep (FzH.cells (FzL.cons (FzA.refl _) (FzL.cons FzA.o (FzL.refl _))) (QS _))))))))))))))) ?_
 refine WO.le (Yn [(19,_),(23,_)] Z Z (Qjj.cons Z (FzA.agg (FzL.cons (FzA.refl _) (FzL.cons (FzA.refl _) (FzL.cons FzA.o (FzL.refl _))))) (Qjj.cons Z (FzA.agg (FzL.cons (FzA.refl _) (FzL.cons (FzA.refl _) (FzL.cons FzA.o (FzL.refl _))))) Qjj.nil)) (FzH.keep (FzH.keep (FzH.keep (FzH.keep (FzH.keep (FzH.keep (FzH.keep (FzH.cells (FzL.cons (FzA.refl _) (FzL.cons (FzA.refl _) (FzL.cons FzA.o (FzL.refl _)))) (FzH.keep (FzH.keep (FzH.keep (FzH.keep (FzH.cells (FzL.cons (FzA.refl _) (FzL.cons (FzA.refl _) (FzL.cons FzA.o (FzL.refl _)))) (QS _))))))))))))))) ?_
 refine WO.le (Yn [(19,_),(23,_)] Z Z (Qjj.cons Z (FzA.agg (FzL.cons (FzA.refl _) (FzL.cons (FzA.refl _) (FzL.cons (FzA.refl _) (FzL.cons FzA.o (FzL.refl _)))))) (Qjj.cons Z (FzA.agg (FzL.cons (FzA.refl _) (FzL.cons (FzA.refl _) (FzL.cons (FzA.refl _) (FzL.cons FzA.o (FzL.refl _)))))) Qjj.nil)) (FzH.keep (FzH.keep (FzH.keep (FzH.keep (FzH.keep (FzH.keep (FzH.keep (FzH.cells (FzL.cons (FzA.refl _) (FzL.cons (FzA.refl _) (FzL.cons (FzA.refl _) (FzL.cons FzA.o (FzL.refl _))))) (FzH.keep (FzH.keep (FzH.keep (FzH.keep (FzH.cells (FzL.cons (FzA.refl _) (FzL.cons (FzA.refl _) (FzL.cons (FzA.refl _) (FzL.cons FzA.o (FzL.refl _))))) (QS _))))))))))))))) ?_
 refine WO.le (Yn [(19,_),(23,_)] Z Z (Qjj.cons Z (FzA.agg (FzL.cons (FzA.refl _) (FzL.cons (FzA.refl _) (FzL.cons (FzA.refl _) (FzL.cons (FzA.refl _) (FzL.cons FzA.o (FzL.refl _))))))) (Qjj.cons Z (FzA.agg (FzL.cons (FzA.refl _) (FzL.cons (FzA.refl _) (FzL.cons (FzA.refl _) (FzL.cons (FzA.refl _) (FzL.cons FzA.o (FzL.refl _))))))) Qjj.nil)) (FzH.keep (FzH.keep (FzH.keep (FzH.keep (FzH.keep (FzH.keep (FzH.keep (FzH.cells (FzL.cons (FzA.refl _) (FzL.cons (FzA.refl _) (FzL.cons (FzA.refl _) (FzL.cons (FzA.refl _) (FzL.cons FzA.o (FzL.refl _)))))) (FzH.keep (FzH.keep (FzH.keep (FzH.keep (FzH.cells (FzL.cons (FzA.refl _) (FzL.cons (FzA.refl _) (FzL.cons (FzA.refl _) (FzL.cons (FzA.refl _) (FzL.cons FzA.o (FzL.refl _)))))) (QS _))))))))))))))) ?_
 refine WO.le (Yn [(19,_),(23,_)] Z Z (Qjj.cons Z (FzA.agg (FzL.cons (FzA.refl _) (FzL.cons (FzA.refl _) (FzL.cons (FzA.refl _) (FzL.cons (FzA.refl _) (FzL.cons (FzA.refl _) (FzL.cons (FzA.refl _) (FzL.cons (FzA.refl _) (FzL.cons FzA.o (FzL.refl _)))))))))) (Qjj.cons Z (FzA.agg (FzL.cons (FzA.refl _) (FzL.cons (FzA.refl _) (FzL.cons (FzA.refl _) (FzL.cons (FzA.refl _) (FzL.cons (FzA.refl _) (FzL.cons (FzA.refl _) (FzL.cons (FzA.refl _) (FzL.cons FzA.o (FzL.refl _)))))))))) Qjj.nil)) (FzH.keep (FzH.keep (FzH.keep (FzH.keep (FzH.keep (FzH.keep (FzH.keep (FzH.cells (FzL.cons (FzA.refl _) (FzL.cons (FzA.refl _) (FzL.cons (FzA.refl _) (FzL.cons (FzA.refl _) (FzL.cons (FzA.refl _) (FzL.cons (FzA.refl _) (FzL.cons (FzA.refl _) (FzL.cons FzA.o (FzL.refl _))))))))) (FzH.keep (FzH.keep (FzH.keep (FzH.keep (FzH.cells (FzL.cons (FzA.refl _) (FzL.cons (FzA.refl _) (FzL.cons (FzA.refl _) (FzL.cons (FzA.refl _) (FzL.cons (FzA.refl _) (FzL.cons (FzA.refl _) (FzL.cons (FzA.refl _) (FzL.cons FzA.o (FzL.refl _))))))))) (QS _))))))))))))))) ?_
 refine WO.le (Yn [(19,_),(23,_)] Z Z (Qjj.cons Z (FzA.agg (FzL.cons (FzA.refl _) (FzL.cons (FzA.refl _) (FzL.cons (FzA.refl _) (FzL.cons (FzA.refl _) (FzL.cons (FzA.refl _) (FzL.cons (FzA.refl _) (FzL.cons (FzA.refl _) (FzL.cons (FzA.refl _) (FzL.cons FzA.o (FzL.refl _))))))))))) (Qjj.cons Z (FzA.agg (FzL.cons (FzA.refl _) (FzL.cons (FzA.refl _) (FzL.cons (FzA.refl _) (FzL.cons (FzA.refl _) (FzL.cons (FzA.refl _) (FzL.cons (FzA.refl _) (FzL.cons (FzA.refl _) (FzL.cons (FzA.refl _) (FzL.cons FzA.o (FzL.refl _))))))))))) Qjj.nil)) (FzH.keep (FzH.keep (FzH.keep (FzH.keep (FzH.keep (FzH.keep (FzH.keep (FzH.cells (FzL.cons (FzA.refl _) (FzL.cons (FzA.refl _) (FzL.cons (FzA.refl _) (FzL.cons (FzA.refl _) (FzL.cons (FzA.refl _) (FzL.cons (FzA.refl _) (FzL.cons (FzA.refl _) (FzL.cons (FzA.refl _) (FzL.cons FzA.o (FzL.refl _)))))))))) (FzH.keep (FzH.keep (FzH.keep (FzH.keep (FzH.cells (FzL.cons (FzA.refl _) (FzL.cons (FzA.refl _) (FzL.cons (FzA.refl _) (FzL.cons (FzA.refl _) (FzL.cons (FzA.refl _) (FzL.cons (FzA.refl _) (FzL.cons (FzA.refl _) (FzL.cons (FzA.refl _) (FzL.cons FzA.o (FzL.refl _)))))))))) (QS _))))))))))))))) ?_
 refine WO.le (Yn [(21,_),(24,_)] Z Z (Qjj.cons Z (FzA.agg (FzL.cons (FzA.refl _) (FzL.cons FzA.o (FzL.refl _)))) (Qjj.cons Z (FzA.agg (FzL.cons (FzA.refl _) (FzL.cons FzA.o (FzL.refl _)))) Qjj.nil)) (FzH.keep (FzH.keep (FzH.keep (FzH.keep (FzH.keep (FzH.keep (FzH.keep (FzH.keep (FzH.keep (FzH.keep (FzH.keep (FzH.cells (FzL.cons (FzA.refl _) (FzL.cons FzA.o (FzL.refl _))) (FzH.keep (FzH.cells (FzL.cons (FzA.refl _) (FzL.cons FzA.o (FzL.refl _))) (QS _)))))))))))))))) ?_
 refine WO.le (Yn [(21,_),(24,_)] Z Z (Qjj.cons Z (FzA.agg (FzL.cons (FzA.refl _) (FzL.cons (FzA.refl _) (FzL.cons (FzA.refl _) (FzL.cons FzA.o (FzL.refl _)))))) (Qjj.cons Z (FzA.agg (FzL.cons (FzA.refl _) (FzL.cons (FzA.refl _) (FzL.cons (FzA.refl _) (FzL.cons FzA.o (FzL.refl _)))))) Qjj.nil)) (FzH.keep (FzH.keep (FzH.keep (FzH.keep (FzH.keep (FzH.keep (FzH.keep (FzH.keep (FzH.keep (FzH.keep (FzH.keep (FzH.cells (FzL.cons (FzA.refl _) (FzL.cons (FzA.refl _) (FzL.cons (FzA.refl _) (FzL.cons FzA.o (FzL.refl _))))) (FzH.keep (FzH.cells (FzL.cons (FzA.refl _) (FzL.cons (FzA.refl _) (FzL.cons (FzA.refl _) (FzL.cons FzA.o (FzL.refl _))))) (QS _)))))))))))))))) ?_
 refine Cd [] h (k_cf _ _ _ _ _) Z fun q V h=>?_
 refine aV (.tup [.osl 14 0 q.1.length 2,I q.2]) [_,.dead,.dead,.dead,.dead,.dead,.dead,.cells 49 [.str [115,97,109,112,108,101],.rsl 2 (List.map Mat.c [{Name:=[108,105,110,101],Kind:=1:Mat},{Name:=[102,105,110,105,115,104],Kind:=3:Mat}]),.rsl 4 (List.map Leg.c [{From:=0,To:=1,Min:=10,Max:=100:Leg}]),.rsl 5 (List.map Distance.c [{Name:=[98,114,105,101,102],Route:=[z_Part,{z_Part with Mat:=1:Part}],Timing:=1,Cutoffs:=[],Extra:=(-1):Distance}]),.rsl 2 (List.map Wave.c [{Name:=[101,108,105,116,101],Gun:=0:Wave}]),.rsl 4 (List.map Offence.c []),.rsl 3 (List.map Category.c []),.rsl 4 (List.map Prize.c d),.rsl 8 (List.map Step.enc [{z_Step with Kind:=1,By:=4:Step}]),I 0,I 0,I 0,I 0,I 0,I 0,I 0],_,.dead,.dead,.cells 29 [.rsl 3 (List.map Segment.c []),.rsl 1 (List.map (Yo 1 (Qd .i64)) [[0]]),.rsl 2 (List.map Pair.c []),.rsl 3 (List.map Runner.c e)],.cells 49 [.str [115,97,109,112,108,101],.rsl 2 (List.map Mat.c [{Name:=[108,105,110,101],Kind:=1:Mat},{Name:=[102,105,110,105,115,104],Kind:=3:Mat}]),.rsl 4 (List.map Leg.c [{From:=0,To:=1,Min:=10,Max:=100:Leg}]),.rsl 5 (List.map Distance.c [{Name:=[98,114,105,101,102],Route:=[z_Part,{z_Part with Mat:=1:Part}],Timing:=1,Cutoffs:=[],Extra:=(-1):Distance}]),.rsl 2 (List.map Wave.c [{Name:=[101,108,105,116,101],Gun:=0:Wave}]),.rsl 4 (List.map Offence.c []),.rsl 3 (List.map Category.c []),.rsl 4 (List.map Prize.c d),.rsl 8 (List.map Step.enc [{z_Step with Kind:=1,By:=4:Step}]),I 0,I 0,I 0,I 0,I 0,I 0,I 0],.cells 29 [.rsl 3 (List.map Segment.c []),.rsl 1 (List.map (Yo 1 (Qd .i64)) [[0]]),.rsl 2 (List.map Pair.c []),.rsl 3 (List.map Runner.c e)],.row 65 2 (List.map Payment.c q.1)] Z Z ?_
 refine Go 11 Z (Cd [] h (k_cd _ _ _ _ _) Z fun s W h=>?_)
 refine aV (.tup [.osl 15 0 s.1.length 1,I s.2]) [_,_,_,_,_,_,_,_,_,_,_,_,_,_,_,.row 3 1 (List.map (Qd .i64) s.1)] Z Z ?_
 refine Go 10 Z (Cd [] h (k_h _ _ _) Z fun t Y h=>?_)
 refine aV (.tup [.osl 16 0 t.1.length 1,I t.2]) [_,_,_,_,_,_,_,_,_,_,_,_,_,_,_,_,.row 3 1 (List.map (Qd .i64) t.1)] Z Z ?_
 refine Go 10 Z (Cd [] h (k_h _ _ _) Z fun u aa h=>?_)
 refine aV (.tup [.osl 17 0 u.1.length 1,I u.2]) [_,_,_,_,_,_,_,_,_,_,_,_,_,_,_,_,_,.row 3 1 (List.map (Qd .i64) u.1)] Z Z ?_
 refine Go 9 Z ?_
 refine vH (OpH.lit (xs:=[.const (.int .i64 1),.const (.int .i64 2)]) (es:=List.map (Qd .i64) [1,2]) Qw Z Z Z Z Z ⟨Z,Z,trivial⟩ Z Z) ?_
 refine aV (.osl 18 0 ([1,2].length) 1) [_,_,_,_,_,_,_,_,_,_,_,_,_,_,_,_,_,_,.row 3 1 (List.map (Qd .i64) [1,2])] Z Z ?_
 refine WO.le (Yn [(45,_)] Z Z (Qjj.cons Z FzA.o Qjj.nil) (FzH.keep (FzH.keep (FzH.keep (FzH.keep (FzH.keep (FzH.keep (FzH.keep (FzH.keep (FzH.keep (FzH.keep (FzH.keep (FzH.keep (FzH.keep (FzH.keep (FzH.keep (FzH.keep (FzH.keep (FzH.keep (FzH.keep (QS _))))))))))))))))))))) ?_
 refine Cd [] h (k_bp _ _) Z fun m ab h=>?_
 refine aV (.agg [.str [115,97,109,112,108,101],.osl 19 0 ([{Name:=[108,105,110,101],Kind:=1:Mat},{Name:=[102,105,110,105,115,104],Kind:=3:Mat}].length) 2,.osl 20 0 ([{From:=0,To:=1,Min:=10,Max:=100:Leg}].length) 4,.osl 21 0 ([{Name:=[98,114,105,101,102],Route:=[z_Part,{z_Part with Mat:=1:Part}],Timing:=1,Cutoffs:=[],Extra:=(-1):Distance}].length) 5,.osl 22 0 ([{Name:=[101,108,105,116,101],Gun:=0:Wave}].length) 2,.rsl 4 (List.map Offence.c []),.rsl 3 (List.map Category.c []),.osl 23 0 m.length 4,.osl 24 0 ([{z_Step with Kind:=1,By:=4:Step}].length) 8,I 0,I 0,I 0,I 0,I 0,I 0,I 0]) [_,_,_,_,_,_,_,_,_,_,_,_,_,_,_,_,_,_,.dead,.row 101 2 (List.map Mat.c [{Name:=[108,105,110,101],Kind:=1:Mat},{Name:=[102,105,110,105,115,104],Kind:=3:Mat}]),.row 135 4 (List.map Leg.c [{From:=0,To:=1,Min:=10,Max:=100:Leg}]),.row 99 5 (List.map Distance.c [{Name:=[98,114,105,101,102],Route:=[z_Part,{z_Part with Mat:=1:Part}],Timing:=1,Cutoffs:=[],Extra:=(-1):Distance}]),.row 139 2 (List.map Wave.c [{Name:=[101,108,105,116,101],Gun:=0:Wave}]),.row 74 4 (List.map Prize.c m),.row 144 8 (List.map Step.enc [{z_Step with Kind:=1,By:=4:Step}]),.cells 49 [.str [115,97,109,112,108,101],.osl 19 0 ([{Name:=[108,105,110,101],Kind:=1:Mat},{Name:=[102,105,110,105,115,104],Kind:=3:Mat}].length) 2,.osl 20 0 ([{From:=0,To:=1,Min:=10,Max:=100:Leg}].length) 4,.osl 21 0 ([{Name:=[98,114,105,101,102],Route:=[z_Part,{z_Part with Mat:=1:Part}],Timing:=1,Cutoffs:=[],Extra:=(-1):Distance}].length) 5,.osl 22 0 ([{Name:=[101,108,105,116,101],Gun:=0:Wave}].length) 2,.rsl 4 (List.map Offence.c []),.rsl 3 (List.map Category.c []),.osl 23 0 m.length 4,.osl 24 0 ([{z_Step with Kind:=1,By:=4:Step}].length) 8,I 0,I 0,I 0,I 0,I 0,I 0,I 0]] Z Z ?_
 refine vH (OpH.lit (xs:=[.const (.int .i64 10),.const (.int .i64 10)]) (es:=List.map (Qd .i64) [10,10]) Qw Z Z Z Z Z ⟨Z,Z,trivial⟩ Z Z) ?_
 refine aV (.osl 26 0 ([10,10].length) 1) [_,_,_,_,_,_,_,_,_,_,_,_,_,_,_,_,_,_,_,_,_,_,_,_,_,_,.row 3 1 (List.map (Qd .i64) [10,10])] Z Z ?_
 refine WO.le (Yn [(47,_)] Z Z (Qjj.cons Z FzA.o Qjj.nil) (FzH.keep (FzH.keep (FzH.keep (FzH.keep (FzH.keep (FzH.keep (FzH.keep (FzH.keep (FzH.keep (FzH.keep (FzH.keep (FzH.keep (FzH.keep (FzH.keep (FzH.keep (FzH.keep (FzH.keep (FzH.keep (FzH.keep (FzH.keep (FzH.keep (FzH.keep (FzH.keep (FzH.keep (FzH.keep (FzH.keep (FzH.keep (QS _))))))))))))))))))))))))))))) ?_
 refine Cd [] h (k_ck _ _) Z fun p ac h=>?_
 refine aV (.agg [.rsl 3 (List.map Segment.c []),.osl 27 0 ([[0]].length) 1,.rsl 2 (List.map Pair.c []),.osl 28 0 p.length 3]) [_,_,_,_,_,_,_,_,_,_,_,_,_,_,_,_,_,_,_,_,_,_,_,_,_,_,.dead,.row 32 1 (List.map (Yo 1 (Qd .i64)) [[0]]),.row 68 3 (List.map Runner.c p),.cells 29 [.rsl 3 (List.map Segment.c []),.osl 27 0 ([[0]].length) 1,.rsl 2 (List.map Pair.c []),.osl 28 0 p.length 3]] Z Z ?_
 refine Go 2 Z ?_
 refine vH (OpH.lit (xs:=[.tmp 49,.tmp 50]) (es:=List.map Choice.c [{Outcome:=0,X:=10:Choice},{Outcome:=0,X:=10:Choice}]) el_57 Z Z Z Z Z ⟨Z,Z,trivial⟩ Z Z) ?_
 refine aV (.osl 30 0 ([{Outcome:=0,X:=10:Choice},{Outcome:=0,X:=10:Choice}].length) 2) [_,_,_,_,_,_,_,_,_,_,_,_,_,_,_,_,_,_,_,_,_,_,_,_,_,_,_,_,_,_,.row 87 2 (List.map Choice.c [{Outcome:=0,X:=10:Choice},{Outcome:=0,X:=10:Choice}])] Z Z ?_
 refine Go 1 Z ?_
 refine WO.le (Yn [(46,_)] Z Z (Qjj.cons Z (FzA.agg (FzL.cons (FzA.refl _) (FzL.cons FzA.o (FzL.refl _)))) Qjj.nil) (FzH.keep (FzH.keep (FzH.keep (FzH.keep (FzH.keep (FzH.keep (FzH.keep (FzH.keep (FzH.keep (FzH.keep (FzH.keep (FzH.keep (FzH.keep (FzH.keep (FzH.keep (FzH.keep (FzH.keep (FzH.keep (FzH.keep (FzH.keep (FzH.keep (FzH.keep (FzH.keep (FzH.keep (FzH.keep (FzH.cells (FzL.cons (FzA.refl _) (FzL.cons FzA.o (FzL.refl _))) (QS _)))))))))))))))))))))))))))) ?_
 refine WO.le (Yn [(46,_)] Z Z (Qjj.cons Z (FzA.agg (FzL.cons (FzA.refl _) (FzL.cons (FzA.refl _) (FzL.cons FzA.o (FzL.refl _))))) Qjj.nil) (FzH.keep (FzH.keep (FzH.keep (FzH.keep (FzH.keep (FzH.keep (FzH.keep (FzH.keep (FzH.keep (FzH.keep (FzH.keep (FzH.keep (FzH.keep (FzH.keep (FzH.keep (FzH.keep (FzH.keep (FzH.keep (FzH.keep (FzH.keep (FzH.keep (FzH.keep (FzH.keep (FzH.keep (FzH.keep (FzH.cells (FzL.cons (FzA.refl _) (FzL.cons (FzA.refl _) (FzL.cons FzA.o (FzL.refl _)))) (QS _)))))))))))))))))))))))))))) ?_
 refine WO.le (Yn [(46,_)] Z Z (Qjj.cons Z (FzA.agg (FzL.cons (FzA.refl _) (FzL.cons (FzA.refl _) (FzL.cons (FzA.refl _) (FzL.cons FzA.o (FzL.refl _)))))) Qjj.nil) (FzH.keep (FzH.keep (FzH.keep (FzH.keep (FzH.keep (FzH.keep (FzH.keep (FzH.keep (FzH.keep (FzH.keep (FzH.keep (FzH.keep (FzH.keep (FzH.keep (FzH.keep (FzH.keep (FzH.keep (FzH.keep (FzH.keep (FzH.keep (FzH.keep (FzH.keep (FzH.keep (FzH.keep (FzH.keep (FzH.cells (FzL.cons (FzA.refl _) (FzL.cons (FzA.refl _) (FzL.cons (FzA.refl _) (FzL.cons FzA.o (FzL.refl _))))) (QS _)))))))))))))))))))))))))))) ?_
 refine WO.le (Yn [(46,_)] Z Z (Qjj.cons Z (FzA.agg (FzL.cons (FzA.refl _) (FzL.cons (FzA.refl _) (FzL.cons (FzA.refl _) (FzL.cons (FzA.refl _) (FzL.cons FzA.o (FzL.refl _))))))) Qjj.nil) (FzH.keep (FzH.keep (FzH.keep (FzH.keep (FzH.keep (FzH.keep (FzH.keep (FzH.keep (FzH.keep (FzH.keep (FzH.keep (FzH.keep (FzH.keep (FzH.keep (FzH.keep (FzH.keep (FzH.keep (FzH.keep (FzH.keep (FzH.keep (FzH.keep (FzH.keep (FzH.keep (FzH.keep (FzH.keep (FzH.cells (FzL.cons (FzA.refl _) (FzL.cons (FzA.refl _) (FzL.cons (FzA.refl _) (FzL.cons (FzA.refl _) (FzL.cons FzA.o (FzL.refl _)))))) (QS _)))))))))))))))))))))))))))) ?_
 refine WO.le (Yn [(46,_)] Z Z (Qjj.cons Z (FzA.agg (FzL.cons (FzA.refl _) (FzL.cons (FzA.refl _) (FzL.cons (FzA.refl _) (FzL.cons (FzA.refl _) (FzL.cons (FzA.refl _) (FzL.cons (FzA.refl _) (FzL.cons (FzA.refl _) (FzL.cons FzA.o (FzL.refl _)))))))))) Qjj.nil) (FzH.keep (FzH.keep (FzH.keep (FzH.keep (FzH.keep (FzH.keep (FzH.keep (FzH.keep (FzH.keep (FzH.keep (FzH.keep (FzH.keep (FzH.keep (FzH.keep (FzH.keep (FzH.keep (FzH.keep (FzH.keep (FzH.keep (FzH.keep (FzH.keep (FzH.keep (FzH.keep (FzH.keep (FzH.keep (FzH.cells (FzL.cons (FzA.refl _) (FzL.cons (FzA.refl _) (FzL.cons (FzA.refl _) (FzL.cons (FzA.refl _) (FzL.cons (FzA.refl _) (FzL.cons (FzA.refl _) (FzL.cons (FzA.refl _) (FzL.cons FzA.o (FzL.refl _))))))))) (QS _)))))))))))))))))))))))))))) ?_
 refine WO.le (Yn [(46,_)] Z Z (Qjj.cons Z (FzA.agg (FzL.cons (FzA.refl _) (FzL.cons (FzA.refl _) (FzL.cons (FzA.refl _) (FzL.cons (FzA.refl _) (FzL.cons (FzA.refl _) (FzL.cons (FzA.refl _) (FzL.cons (FzA.refl _) (FzL.cons (FzA.refl _) (FzL.cons FzA.o (FzL.refl _))))))))))) Qjj.nil) (FzH.keep (FzH.keep (FzH.keep (FzH.keep (FzH.keep (FzH.keep (FzH.keep (FzH.keep (FzH.keep (FzH.keep (FzH.keep (FzH.keep (FzH.keep (FzH.keep (FzH.keep (FzH.keep (FzH.keep (FzH.keep (FzH.keep (FzH.keep (FzH.keep (FzH.keep (FzH.keep (FzH.keep (FzH.keep (FzH.cells (FzL.cons (FzA.refl _) (FzL.cons (FzA.refl _) (FzL.cons (FzA.refl _) (FzL.cons (FzA.refl _) (FzL.cons (FzA.refl _) (FzL.cons (FzA.refl _) (FzL.cons (FzA.refl _) (FzL.cons (FzA.refl _) (FzL.cons FzA.o (FzL.refl _)))))))))) (QS _)))))))))))))))))))))))))))) ?_
 refine WO.le (Yn [(48,_)] Z Z (Qjj.cons Z (FzA.agg (FzL.cons (FzA.refl _) (FzL.cons FzA.o (FzL.refl _)))) Qjj.nil) (FzH.keep (FzH.keep (FzH.keep (FzH.keep (FzH.keep (FzH.keep (FzH.keep (FzH.keep (FzH.keep (FzH.keep (FzH.keep (FzH.keep (FzH.keep (FzH.keep (FzH.keep (FzH.keep (FzH.keep (FzH.keep (FzH.keep (FzH.keep (FzH.keep (FzH.keep (FzH.keep (FzH.keep (FzH.keep (FzH.keep (FzH.keep (FzH.keep (FzH.keep (FzH.cells (FzL.cons (FzA.refl _) (FzL.cons FzA.o (FzL.refl _))) (QS _)))))))))))))))))))))))))))))))) ?_
 refine WO.le (Yn [(48,_)] Z Z (Qjj.cons Z (FzA.agg (FzL.cons (FzA.refl _) (FzL.cons (FzA.refl _) (FzL.cons (FzA.refl _) (FzL.cons FzA.o (FzL.refl _)))))) Qjj.nil) (FzH.keep (FzH.keep (FzH.keep (FzH.keep (FzH.keep (FzH.keep (FzH.keep (FzH.keep (FzH.keep (FzH.keep (FzH.keep (FzH.keep (FzH.keep (FzH.keep (FzH.keep (FzH.keep (FzH.keep (FzH.keep (FzH.keep (FzH.keep (FzH.keep (FzH.keep (FzH.keep (FzH.keep (FzH.keep (FzH.keep (FzH.keep (FzH.keep (FzH.keep (FzH.cells (FzL.cons (FzA.refl _) (FzL.cons (FzA.refl _) (FzL.cons (FzA.refl _) (FzL.cons FzA.o (FzL.refl _))))) (QS _)))))))))))))))))))))))))))))))) ?_
 refine WO.le (Yn [(51,_),(52,_)] Z Z (Qjj.cons Z FzA.o (Qjj.cons Z (FzA.agg (FzL.cons (FzA.refl _) (FzL.cons (FzA.refl _) (FzL.cons FzA.o (FzL.refl _))))) Qjj.nil)) (FzH.keep (FzH.keep (FzH.keep (FzH.keep (FzH.keep (FzH.keep (FzH.keep (FzH.keep (FzH.keep (FzH.keep (FzH.keep (FzH.keep (FzH.keep (FzH.keep (FzH.keep (FzH.keep (FzH.keep (FzH.keep (FzH.keep (FzH.keep (FzH.keep (FzH.keep (FzH.keep (FzH.keep (FzH.keep (FzH.keep (FzH.keep (FzH.keep (FzH.keep (FzH.keep (FzH.keep (QS _))))))))))))))))))))))))))))))))) ?_
 refine Cd [] h (k_fx _ _ _ _ _ _) Z fun f ad h=>?_
 refine aV (.tup [.osl 31 0 f.1.length 2,I f.2]) [_,_,_,_,_,_,_,_,_,_,_,_,_,_,_,_,_,_,_,.dead,.dead,.dead,.dead,.dead,.dead,.cells 49 [.str [115,97,109,112,108,101],.rsl 2 (List.map Mat.c [{Name:=[108,105,110,101],Kind:=1:Mat},{Name:=[102,105,110,105,115,104],Kind:=3:Mat}]),.rsl 4 (List.map Leg.c [{From:=0,To:=1,Min:=10,Max:=100:Leg}]),.rsl 5 (List.map Distance.c [{Name:=[98,114,105,101,102],Route:=[z_Part,{z_Part with Mat:=1:Part}],Timing:=1,Cutoffs:=[],Extra:=(-1):Distance}]),.rsl 2 (List.map Wave.c [{Name:=[101,108,105,116,101],Gun:=0:Wave}]),.rsl 4 (List.map Offence.c []),.rsl 3 (List.map Category.c []),.rsl 4 (List.map Prize.c m),.rsl 8 (List.map Step.enc [{z_Step with Kind:=1,By:=4:Step}]),I 0,I 0,I 0,I 0,I 0,I 0,I 0],_,.dead,.dead,.cells 29 [.rsl 3 (List.map Segment.c []),.rsl 1 (List.map (Yo 1 (Qd .i64)) [[0]]),.rsl 2 (List.map Pair.c []),.rsl 3 (List.map Runner.c p)],.dead,.row 65 2 (List.map Payment.c f.1),.cells 51 [.osl 31 0 f.1.length 2],.cells 33 [I f.2]] Z Z ?_
 refine Go 11 Z (Cd [] h (k_cd _ _ _ _ _) Z fun g M h=>?_)
 refine aV (.tup [.osl 34 0 g.1.length 1,I g.2]) [_,_,_,_,_,_,_,_,_,_,_,_,_,_,_,_,_,_,_,_,_,_,_,_,_,_,_,_,_,_,_,_,_,_,.row 3 1 (List.map (Qd .i64) g.1)] Z Z ?_
 refine Go 11 Z (Cd [] h (k_cf _ _ _ _ _) Z fun i N h=>?_)
 refine aV (.tup [.osl 35 0 i.1.length 2,I i.2]) [_,_,_,_,_,_,_,_,_,_,_,_,_,_,_,_,_,_,_,_,_,_,_,_,_,_,_,_,_,_,_,_,_,_,_,.row 65 2 (List.map Payment.c i.1)] Z Z ?_
 refine Go 8 Z (Bd h fun j a h=>?_)
 refine Ct j [31] [11,12,14,16] (fun j=>[(17,.bool j)]) (fun _=>[]) (fun _=>rfl) ?_ (fun env H k=>?_)
 ·refine G0 4 Z (Is 70 a Z (fun w a=>?_) (fun w a=>?_))
  ·refine Go 2 Z ?_
   refine vH (OpH.lit (xs:=[.tmp 72]) (es:=List.map Payment.c [{Bib:=1,Amount:=100:Payment}]) Qed Z Z Z Z Z ⟨Z,trivial⟩ Z Z) ?_ (gT Z)
   refine aV (.osl 36 0 ([{Bib:=1,Amount:=100:Payment}].length) 2) [_,_,_,_,_,_,_,_,_,_,_,_,_,_,_,_,_,_,_,_,_,_,_,_,_,_,_,_,_,_,_,_,_,_,_,_,.row 65 2 (List.map Payment.c [{Bib:=1,Amount:=100:Payment}])] Z Z ?_
   refine Cb a (k_cb _ _ _) Z (lo (lo ln)) fun ae O a=>Go 2 Z (Is 76 a Z (fun x a=>?_) (fun x a=>?_))
   ·refine Go 4 Z (Is 80 a Z (fun y a=>?_) (fun y a=>?_))
    ·refine Go 5 Z (Is 85 a Z (fun z a=>?_) (fun z a=>?_))
     ·refine Go 4 Z (Is 89 a Z (fun B a=>?_) (fun B a=>?_))
      ·refine Go 1 Z ?_
       refine vH (OpH.lit (xs:=[.const (.int .i64 1)]) (es:=List.map (Qd .i64) [1]) Qw Z Z Z Z Z ⟨Z,trivial⟩ Z Z) ?_ (gT Z)
       refine aV (.osl 37 0 ([1].length) 1) [_,_,_,_,_,_,_,_,_,_,_,_,_,_,_,_,_,_,_,_,_,_,_,_,_,_,_,_,_,_,_,_,_,_,_,_,_,.row 3 1 (List.map (Qd .i64) [1])] Z Z ?_
       refine Cb a (k_u _ _ _) Z (lo (lo ln)) fun af P a=>Go 2 Z (Is 94 a Z (fun E a=>?_) (fun E a=>?_))
       ·exact Go 5 Z (Cl a [31])
       ·exact Go 5 Z (Cl a [31])
      ·exact Go 10 Z (Cl a [31])
     ·exact Go 14 Z (Cl a [31])
    ·exact Go 19 Z (Cl a [31])
   ·exact Go 23 Z (Cl a [31])
  ·exact Go 29 Z (Cl a [31])
 refine Gx 1 Z (TC.le k (Gc 1 Z (Bd h fun l b h=>?_)))
 refine Ct l [] [] (fun l=>[(0,.bool l)]) (fun _=>[]) (fun _=>rfl) ?_ (fun env H k=>?_)
 ·refine G0 3 Z (Is 99 b Z (fun F b=>?_) (fun F b=>?_))
  ·refine Go 4 Z (Is 103 b Z (fun G b=>?_) (fun G b=>?_))
   ·refine Go 3 Z ?_
    refine vH (OpH.lit (xs:=[.tmp 105,.tmp 106]) (es:=List.map Payment.c [{Bib:=1,Amount:=150:Payment},{Bib:=2,Amount:=150:Payment}]) Qed Z Z Z Z Z ⟨Z,Z,trivial⟩ Z Z) ?_ (gT Z)
    refine aV (.osl 1 0 ([{Bib:=1,Amount:=150:Payment},{Bib:=2,Amount:=150:Payment}].length) 2) [_,.row 65 2 (List.map Payment.c [{Bib:=1,Amount:=150:Payment},{Bib:=2,Amount:=150:Payment}])] Z Z ?_
    refine Cb b (k_cb _ _ _) Z (lo (lo ln)) fun ag Q b=>Go 2 Z (Is 110 b Z (fun J b=>?_) (fun J b=>?_))
    ·refine Go 4 Z (Is 114 b Z (fun L b=>?_) (fun L b=>?_))
     ·exact Go 5 Z (Cl b [])
     ·exact Go 5 Z (Cl b [])
    ·exact Go 9 Z (Cl b [])
   ·exact Go 16 Z (Cl b [])
  ·exact Go 20 Z (Cl b [])
 exact Gx 1 Z (TC.le k (Gc 1 Z (Rt h 0 [])))
def F_jd(n:Nat)(b:Runner)(a:Int):Option (Ctl Int (Ctl Unit (Ctl Int (Ctl Unit Bool)))):=
  (bif decide (a<(b.Worlds.length:Int))then(idx b.Worlds a).bind fun c=>(bif decide (4<(c.length:Int))then some (.done (.done (.done (.done false))))else some (.cont (IntKind.i64.wrap (a+1))))else some (.done (.cont ())))
def F_fz(n:Nat)(d:Field)(a:Int):Option (Ctl Int (Ctl Unit Bool)):=
  (bif decide (a<(d.Runners.length:Int))then(idx d.Runners a).bind fun b=>((bif decide (5<(b.Keys.length:Int))then some true else some (decide (4<(b.Worlds.length:Int)))):Option Bool).bind fun e=>(bif e then some (.done (.done false))else(iter (F_jd n b) n 0:Option (Ctl Unit (Ctl Int (Ctl Unit Bool)))).bind fun f=>match f with|.cont c=>(some (.cont (IntKind.i64.wrap (a+1))))|.done c=>some c)else some (.done (.cont ())))
def F_hr(n:Nat)(b:Field)(a:Int):Option (Ctl Int (Ctl Unit Bool)):=
  (bif decide (a<(b.Clocks.Far.length:Int))then(idx b.Clocks.Far a).bind fun c=>(bif decide (8<(c.length:Int))then some (.done (.done false))else some (.cont (IntKind.i64.wrap (a+1))))else some (.done (.cont ())))
def F_bh(n:Nat)(a:Field):Option Bool:=
  (iter (F_fz n a) n 0:Option (Ctl Unit Bool)).bind fun d=>match d with|.cont b=>((iter (F_hr n a) n 0:Option (Ctl Unit Bool)).bind fun e=>match e with|.cont c=>(((bif decide ((a.Runners.length:Int)<=6)then(bif decide ((a.Pairs.length:Int)<=3)then(bif decide ((a.Clocks.Segments.length:Int)<=4)then some (decide ((a.Clocks.Far.length:Int)<=6))else some false)else some false)else some false):Option Bool).bind fun f=>some f)|.done c=>some c)|.done b=>some b
theorem k_bh(n:Nat)(P:Field)(r:Bool)(h:F_bh n P=some r):
    Csm prog 11 [.agg (Field.c P)] [] (fun r=>.bool r) r:=by
 refine Qa func11 Z Z Z ?_
 refine G0 12 Z (Bd h fun Q R h=>?_)
 refine YS (b:=Q) [0] [1] (fun _=>[]) (fun _=>[]) (fun _=>rfl) ?_ (fun Y env H i g=>?_)
 ·refine G0 1 Z ?_
  refine Lp [0] [1] (fun t=>[(3,I t)]) (fun _=>[]) R (fun _=>rfl) (Lr [0]) fun t ac a k=>?_
  refine G0 6 Z (Lm Z (Go 3 Z (Yc Z a (fun x a=>?_) (fun x a=>?_))))
  ·refine Gc 2 Z (Qj a ?_)
   obtain rfl:=Oj k a
   exact Gx 1 Z (Qm Z (Lr [0]))
  refine Gc 9 Z (Bd a fun ad y a=>Iz y Z (Go 7 Z (Bd a fun l j a=>?_)))
  refine Ct l [0,1] [1,3,4] (fun l=>[(28,.bool l)]) (fun _=>[]) (fun _=>rfl) ?_ (fun env H g=>?_)
  ·refine G0 3 Z (Lm Z (Go 2 Z (Is 23 j Z (fun z j=>?_) (fun z j=>?_))))
   ·exact Go 6 Z (Cl j [0,1])
   ·exact Go 2 Z (Lm Z (Go 3 Z (Cl j [0,1])))
  refine Gx 1 Z (TC.le g (Cn Z a (fun B a=>?_) (fun B a=>?_)))
  ·refine Gc 9 Z (Ql a ?_)
   obtain rfl:=Oj k a
   exact Gx 1 Z (Qk (Gx 1 Z (Rt h 2 [])))
  refine Gc 7 Z (Bd a fun T V a=>?_)
  refine YS (b:=T) [0] [1,3] (fun _=>[]) (fun _=>[]) (fun _=>rfl) ?_ (fun aa env H i g=>?_)
  ·refine G0 1 Z ?_
   refine Lp [0,1] [1,3,4] (fun u=>[(5,I u)]) (fun _=>[]) V (fun _=>rfl) (Lr [0,1]) fun u ae d m=>?_
   refine G0 6 Z (Lm Z (Go 3 Z (Yc Z d (fun E d=>?_) (fun E d=>?_))))
   ·refine Gc 2 Z (Qj d ?_)
    obtain rfl:=Oj m d
    exact Gx 1 Z (Qm Z (Lr [0]))
   refine Gc 9 Z (Bd d fun af F d=>Iz F Z (Go 1 Z (Lm Z (Go 3 Z (Cn Z d (fun G d=>?_) (fun G d=>?_))))))
   ·refine Gc 8 Z (Ql d ?_)
    obtain rfl:=Oj m d
    refine Gx 1 Z (Qk (Gx 2 Z (Ql a ?_)))
    obtain rfl:=Oj k a
    exact Gx 1 Z (Qk (Gx 1 Z (Rt h 2 [])))
   exact Gc 8 Z (Qi d (Lr [0,1]))
  subst i
  exact Gx 2 Z (TC.le g (Gc 5 Z (Qi a (Lr [0]))))
 subst i
 refine Gx 1 Z (TC.le g (Gc 6 Z (Bd h fun W X h=>?_)))
 refine YS (b:=W) [0] [1] (fun _=>[]) (fun _=>[]) (fun _=>rfl) ?_ (fun ab env H i g=>?_)
 ·refine G0 1 Z ?_
  refine Lp [0] [1] (fun w=>[(6,I w)]) (fun _=>[]) X (fun _=>rfl) (Lr [0]) fun w ag e p=>?_
  refine G0 7 Z (Lm Z (Go 3 Z (Yc Z e (fun J e=>?_) (fun J e=>?_))))
  ·refine Gc 2 Z (Qj e ?_)
   obtain rfl:=Oj p e
   exact Gx 1 Z (Qm Z (Lr [0]))
  refine Gc 10 Z (Bd e fun ah L e=>Iz L Z (Go 1 Z (Lm Z (Go 3 Z (Cn Z e (fun M e=>?_) (fun M e=>?_))))))
  ·refine Gc 8 Z (Ql e ?_)
   obtain rfl:=Oj p e
   exact Gx 1 Z (Qk (Gx 1 Z (Rt h 2 [])))
  exact Gc 8 Z (Qi e (Lr [0]))
 subst i
 refine Gx 1 Z (TC.le g (Gc 1 Z (Bd h fun q f h=>?_)))
 refine Ct q [] [] (fun q=>[(2,.bool q)]) (fun _=>[]) (fun _=>rfl) ?_ (fun env H g=>?_)
 ·refine G0 3 Z (Lm Z (Go 2 Z (Is 63 f Z (fun N f=>?_) (fun N f=>?_))))
  ·refine Go 2 Z (Lm Z (Go 3 Z (Is 69 f Z (fun O f=>?_) (fun O f=>?_))))
   ·refine Go 3 Z (Lm Z (Go 3 Z (Is 76 f Z (fun s f=>?_) (fun s f=>?_))))
    ·exact Go 3 Z (Lm Z (Go 4 Z (Cl f [])))
    ·exact Go 8 Z (Cl f [])
   ·exact Go 15 Z (Cl f [])
  ·exact Go 21 Z (Cl f [])
 exact Gx 1 Z (TC.le g (Gc 1 Z (Rt h 2 [])))
def F_bn(n:Nat)(a:Int):Option Bool:=
  ((bif decide ((-1099511627776)<=a)then some (decide (a<=1099511627776))else some false):Option Bool).bind fun b=>some b
theorem k_bn(n:Nat)(c:Int)(r:Bool)(h:F_bn n c=some r):
    Csm prog 99 [I c] [] (fun r=>.bool r) r:=by
 refine Qa func99 Z Z Z ?_
 refine G0 6 Z (Bd h fun b a h=>?_)
 refine Ct b [] [] (fun b=>[(2,.bool b)]) (fun _=>[]) (fun _=>rfl) ?_ (fun env H d=>?_)
 ·refine G0 4 Z (Is 5 a Z (fun e a=>?_) (fun e a=>?_))
  ·exact Go 5 Z (Cl a [])
  ·exact Go 5 Z (Cl a [])
 exact Gx 1 Z (TC.le d (Gc 1 Z (Rt h 2 [])))
def F_bl(n:Nat)(a:Segment)(b:Segment):Option Bool:=
  ((bif decide (a.Mat<b.Mat)then some true else(bif (a.Mat==b.Mat)then some (decide (a.Epoch<b.Epoch))else some false)):Option Bool).bind fun c=>some c
theorem k_bl(n:Nat)(d:Segment)(e:Segment)(r:Bool)(h:F_bl n d e=some r):
    Csm prog 100 [.agg (Segment.c d),.agg (Segment.c e)] [] (fun r=>.bool r) r:=by
 refine Qa func100 Z Z Z ?_
 refine G0 8 Z (Bd h fun b a h=>?_)
 refine Ct b [] [] (fun b=>[(4,.bool b)]) (fun _=>[]) (fun _=>rfl) ?_ (fun env H f=>?_)
 ·refine G0 7 Z (Is 10 a Z (fun g a=>?_) (fun g a=>?_))
  ·exact Go 15 Z (Cl a [])
  ·refine Go 6 Z (Is 16 a Z (fun i a=>?_) (fun i a=>?_))
   ·exact Go 9 Z (Cl a [])
   ·exact Go 9 Z (Cl a [])
 exact Gx 1 Z (TC.le f (Gc 1 Z (Rt h 4 [])))
def F_gj(n:Nat)(c:Clocks)(b:Int):Option (Ctl Int (Ctl Unit Int)):=
  (bif decide (b<(c.Segments.length:Int))then(idx c.Segments b).bind fun a=>((bif decide (a.Mat<0)then some true else(bif decide (40<=a.Mat)then some true else(bif decide (a.Epoch<0)then some true else(bif decide (255<a.Epoch)then some true else(F_bn n a.Anchor).bind fun d=>(bif (!d)then some true else(bif decide (0<b)then(idx c.Segments (IntKind.i64.wrap (b-1))).bind fun e=>(F_bl n e a).bind fun f=>some (!f)else some false)))))):Option Bool).bind fun g=>(bif g then some (.done (.done 160))else some (.cont (IntKind.i64.wrap (b+1))))else some (.done (.cont ())))
def F_jc(n:Nat)(c:Clocks)(b:Int)(a:Int):Option (Ctl Int (Ctl Unit (Ctl Int (Ctl Unit Int)))):=
  (bif decide (a<=(c.Segments.length:Int))then((idx c.Far b).bind fun d=>(idx d a).bind fun e=>(bif decide (e<(-2199023255552))then some true else(idx c.Far b).bind fun f=>(idx f a).bind fun g=>some (decide (2199023255552<g))):Option Bool).bind fun h=>(bif h then some (.done (.done (.done (.done 160))))else some (.cont (IntKind.i64.wrap (a+1))))else some (.done (.cont ())))
def F_ii(n:Nat)(c:Clocks)(a:Int):Option (Ctl Int (Ctl Unit Int)):=
  (bif decide (a<=(c.Segments.length:Int))then((idx c.Far a).bind fun d=>(bif ((d.length:Int) != (IntKind.i64.wrap ((c.Segments.length:Int)+1)))then some true else(idx c.Far a).bind fun e=>(idx e a).bind fun f=>some (f != 0)):Option Bool).bind fun g=>(bif g then some (.done (.done 160))else(iter (F_jc n c a) n 0:Option (Ctl Unit (Ctl Int (Ctl Unit Int)))).bind fun h=>match h with|.cont b=>(some (.cont (IntKind.i64.wrap (a+1))))|.done b=>some b)else some (.done (.cont ())))
def F_iz(n:Nat)(d:Clocks)(b:Int)(c:Int)(a:Int):Option (Ctl Int (Ctl Unit (Ctl Int (Ctl Unit (Ctl Int (Ctl Unit Int)))))):=
  (bif decide (a<=(d.Segments.length:Int))then(idx d.Far b).bind fun e=>(idx e a).bind fun f=>(idx d.Far b).bind fun g=>(idx g c).bind fun h=>(idx d.Far c).bind fun i=>(idx i a).bind fun j=>(bif decide ((IntKind.i64.wrap (h+j))<f)then some (.done (.done (.done (.done (.done (.done 160))))))else some (.cont (IntKind.i64.wrap (a+1))))else some (.done (.cont ())))
def F_iu(n:Nat)(e:Clocks)(c:Int)(a:Int):Option (Ctl Int (Ctl Unit (Ctl Int (Ctl Unit Int)))):=
  (bif decide (a<=(e.Segments.length:Int))then(iter (F_iz n e c a) n 0:Option (Ctl Unit (Ctl Int (Ctl Unit (Ctl Int (Ctl Unit Int)))))).bind fun d=>match d with|.cont b=>(some (.cont (IntKind.i64.wrap (a+1))))|.done b=>some b else some (.done (.cont ())))
def F_gr(n:Nat)(d:Clocks)(a:Int):Option (Ctl Int (Ctl Unit Int)):=
  (bif decide (a<=(d.Segments.length:Int))then(iter (F_iu n d a) n 0:Option (Ctl Unit (Ctl Int (Ctl Unit Int)))).bind fun c=>match c with|.cont b=>(some (.cont (IntKind.i64.wrap (a+1))))|.done b=>some b else some (.done (.cont ())))
def F_ab(n:Nat)(c:Clocks):Option Int:=
  ((bif decide (511<(c.Segments.length:Int))then some true else some ((c.Far.length:Int) != (IntKind.i64.wrap ((c.Segments.length:Int)+1)))):Option Bool).bind fun h=>(bif h then some 160 else(iter (F_gj n c) n 0:Option (Ctl Unit Int)).bind fun g=>match g with|.cont d=>((iter (F_ii n c) n 0:Option (Ctl Unit Int)).bind fun e=>match e with|.cont a=>((iter (F_gr n c) n 0:Option (Ctl Unit Int)).bind fun f=>match f with|.cont b=>(some 0)|.done b=>some b)|.done a=>some a)|.done d=>some d)
theorem k_ab(n:Nat)(a1:Clocks)(r:Int)(h:F_ab n a1=some r):
    Csm prog 63 [.agg (Clocks.c a1)] [] (fun r=>I r) r:=by
 refine Qa func63 Z Z Z ?_
 refine G0 10 Z (Lm Z (Go 5 Z (Bd h fun b2 G h=>?_)))
 refine Ct b2 [0] [1,3] (fun b2=>[(23,.bool b2)]) (fun _=>[]) (fun _=>rfl) ?_ (fun env H g=>?_)
 ·refine G0 4 Z (Is 16 G Z (fun bv G=>?_) (fun bv G=>?_))
  ·exact Go 8 Z (Cl G [0])
  ·exact Go 2 Z (Lm Z (Go 5 Z (Cl G [0])))
 refine Gx 1 Z (TC.le g (Cn Z h (fun bw h=>?_) (fun bw h=>?_)))
 ·exact Gc 7 Z (Rt h 2 [])
 refine Gc 8 Z (Bd h fun bx bz h=>?_)
 refine YS (b:=bx) [0] [1,3] (fun _=>[]) (fun _=>[]) (fun _=>rfl) ?_ (fun cf env H s g=>?_)
 ·refine G0 1 Z ?_
  refine Lp [0] [1,3] (fun au=>[(4,I au)]) (fun _=>[]) bz (fun _=>rfl) (Lr [0]) fun au cu k J=>?_
  refine G0 8 Z (Yc Z k (fun av k=>?_) (fun av k=>?_))
  ·refine Gc 2 Z (Qj k ?_)
   obtain rfl:=Oj J k
   exact Gx 1 Z (Qm Z (Lr [0]))
  refine Gc 9 Z (Bd k fun cv aw k=>Iz aw Z (Go 6 Z (Bd k fun L a k=>?_)))
  refine Ct L [0] [1,3,4] (fun L=>[(72,.bool L)]) (fun _=>[]) (fun _=>rfl) ?_ (fun env H g=>?_)
  ·refine G0 0 Z (DSs 35 Z (D 4 Z (Yb 3 a Z Z Z (fun ax a=>?_) (fun ax a=>?_))))
   ·exact D 31 Z (DS.done Z (Go 5 Z (Cl a [0])))
   ·refine D 5 Z (Yb 8 a Z Z Z (fun ay a=>?_) (fun ay a=>?_))
    ·exact D 26 Z (DS.done Z (Go 5 Z (Cl a [0])))
    ·refine D 5 Z (Yb 13 a Z Z Z (fun az a=>?_) (fun az a=>?_))
     ·exact D 21 Z (DS.done Z (Go 5 Z (Cl a [0])))
     ·refine D 5 Z (Yb 18 a Z Z Z (fun ba a=>?_) (fun ba a=>?_))
      ·exact D 16 Z (DS.done Z (Go 5 Z (Cl a [0])))
      ·refine D 2 Z ?_
       refine Dz [] a (k_bn _ _) Z fun cw cg a=>D 3 Z (Yb 24 a Z Z Z (fun bb a=>?_) (fun bb a=>?_))
       ·exact D 10 Z (DS.done Z (Go 5 Z (Cl a [0])))
       ·refine D 3 Z (Yb 27 a Z Z Z (fun bc a=>?_) (fun bc a=>?_))
        ·refine D 4 Z ?_
         obtain⟨y,bd,a⟩:=Yy a
         refine DS.v (x:=(.rp [I y.Mat,I y.Epoch,I y.Anchor])) (Yh (e:=Segment.c) (l:=a1.Segments) (v:=y) bd runUnderlying22 sizeOf198) ?_ (hg:=(gT Z))
         exact D 2 Z (DS.done Z (Cz [] a (k_bl _ _ _) Z fun cx ch a=>Go 4 Z (Cl a [0])))
        ·exact D 7 Z (DS.done Z (Go 5 Z (Cl a [0])))
  refine Gx 1 Z (TC.le g (Cn Z k (fun be k=>?_) (fun be k=>?_)))
  ·refine Gc 8 Z (Ql k ?_)
   obtain rfl:=Oj J k
   exact Gx 1 Z (Qk (Gx 1 Z (Rt h 2 [])))
  exact Gc 8 Z (Qi k (Lr [0]))
 subst s
 refine Gx 1 Z (TC.le g (Gc 6 Z (Bd h fun bf bg h=>?_)))
 refine YS (b:=bf) [0] [1,3] (fun _=>[]) (fun _=>[]) (fun _=>rfl) ?_ (fun ca env H s g=>?_)
 ·refine G0 1 Z ?_
  refine Lp [0] [1,3] (fun M=>[(6,I M)]) (fun _=>[]) bg (fun _=>rfl) (Lr [0]) fun M ci f t=>?_
  refine G0 8 Z (Yc Z f (fun R f=>?_) (fun R f=>?_))
  ·refine Gc 2 Z (Qj f ?_)
   obtain rfl:=Oj t f
   exact Gx 1 Z (Qm Z (Lr [0]))
  refine Gc 6 Z (Bd f fun u m f=>?_)
  refine Ct u [0] [1,3,6] (fun u=>[(97,.bool u)]) (fun _=>[]) (fun _=>rfl) ?_ (fun env H g=>?_)
  ·refine G0 4 Z (Bd m fun cj T m=>Iz T Z (Go 1 Z (Lm Z (Go 4 Z (Is 87 m Z (fun V m=>?_) (fun V m=>?_))))))
   ·exact Go 11 Z (Cl m [0])
   ·exact Go 3 Z (Bd m fun ck W m=>Iz W Z (Go 2 Z (Bd m fun cl X m=>Iz X Z (Go 4 Z (Cl m [0])))))
  refine Gx 1 Z (TC.le g (Cn Z f (fun Y f=>?_) (fun Y f=>?_)))
  ·refine Gc 9 Z (Ql f ?_)
   obtain rfl:=Oj t f
   exact Gx 1 Z (Qk (Gx 1 Z (Rt h 2 [])))
  refine Gc 7 Z (Bd f fun bh bi f=>?_)
  refine YS (b:=bh) [0] [1,3,6] (fun _=>[]) (fun _=>[]) (fun _=>rfl) ?_ (fun cb env H s g=>?_)
  ·refine G0 1 Z ?_
   refine Lp [0] [1,3,6] (fun N=>[(7,I N)]) (fun _=>[]) bi (fun _=>rfl) (Lr [0]) fun N cm i z=>?_
   refine G0 8 Z (Yc Z i (fun aa i=>?_) (fun aa i=>?_))
   ·refine Gc 2 Z (Qj i ?_)
    obtain rfl:=Oj z i
    exact Gx 1 Z (Qm Z (Lr [0]))
   refine Gc 5 Z (Bd i fun w j i=>?_)
   refine Ct w [0] [1,3,6,7] (fun w=>[(122,.bool w)]) (fun _=>[]) (fun _=>rfl) ?_ (fun env H g=>?_)
   ·refine G0 4 Z (Bd j fun cn ab j=>Iz ab Z (Go 2 Z (Bd j fun co ac j=>Iz ac Z (Go 3 Z (Is 112 j Z (fun ad j=>?_) (fun ad j=>?_))))))
    ·exact Go 11 Z (Cl j [0])
    ·exact Go 3 Z (Bd j fun cp ae j=>Iz ae Z (Go 2 Z (Bd j fun cq af j=>Iz af Z (Go 4 Z (Cl j [0])))))
   refine Gx 1 Z (TC.le g (Cn Z i (fun ag i=>?_) (fun ag i=>?_)))
   ·refine Gc 8 Z (Ql i ?_)
    obtain rfl:=Oj z i
    refine Gx 1 Z (Qk (Gx 2 Z (Ql f ?_)))
    obtain rfl:=Oj t f
    exact Gx 1 Z (Qk (Gx 1 Z (Rt h 2 [])))
   exact Gc 8 Z (Qi i (Lr [0]))
  subst s
  exact Gx 2 Z (TC.le g (Gc 5 Z (Qi f (Lr [0]))))
 subst s
 refine Gx 1 Z (TC.le g (Gc 6 Z (Bd h fun bj bk h=>?_)))
 refine YS (b:=bj) [] [] (fun _=>[]) (fun _=>[]) (fun _=>rfl) ?_ (fun cc env H s g=>?_)
 ·refine G0 1 Z ?_
  refine Lp [0] [1,3] (fun O=>[(8,I O)]) (fun _=>[]) bk (fun _=>rfl) (Lr [0]) fun O cr p B=>?_
  refine G0 8 Z (Yc Z p (fun ah p=>?_) (fun ah p=>?_))
  ·refine Gc 2 Z (Qj p ?_)
   obtain rfl:=Oj B p
   exact Gx 1 Z (Qm Z (Lr []))
  refine Gc 9 Z (Bd p fun bl bm p=>?_)
  refine YS (b:=bl) [0] [1,3,8] (fun _=>[]) (fun _=>[]) (fun _=>rfl) ?_ (fun cd env H s g=>?_)
  ·refine G0 1 Z ?_
   refine Lp [0] [1,3,8] (fun P=>[(9,I P)]) (fun _=>[]) bm (fun _=>rfl) (Lr [0]) fun P cs q E=>?_
   refine G0 8 Z (Yc Z q (fun ai q=>?_) (fun ai q=>?_))
   ·refine Gc 2 Z (Qj q ?_)
    obtain rfl:=Oj E q
    exact Gx 1 Z (Qm Z (Lr [0]))
   refine Gc 9 Z (Bd q fun bn bo q=>?_)
   refine YS (b:=bn) [0] [1,3,8,9] (fun _=>[]) (fun _=>[]) (fun _=>rfl) ?_ (fun ce env H s g=>?_)
   ·refine G0 1 Z ?_
    refine Lp [0] [1,3,8,9] (fun Q=>[(10,I Q)]) (fun _=>[]) bo (fun _=>rfl) (Lr [0]) fun Q ct d F=>?_
    refine G0 8 Z (Yc Z d (fun aj d=>?_) (fun aj d=>?_))
    ·refine Gc 2 Z (Qj d ?_)
     obtain rfl:=Oj F d
     exact Gx 1 Z (Qm Z (Lr [0]))
    refine Gc 5 Z (DSs 25 Z (D 3 Z ?_))
    obtain⟨bp,ak,d⟩:=Yy d
    refine DS.wo (x:=.rp [.rsl 1 (List.map (Qd .i64) bp)]) ?_ ?_
    ·exact Ix ak runUnderlying23 sizeOf32 Z Wp
    refine D 2 Z ?_
    obtain⟨bq,al,d⟩:=Yy d
    refine DS.wo (x:=.rp [I bq]) ?_ ?_
    ·exact Ix al runUnderlying32 sizeOf3 Z Wp
    refine D 4 Z ?_
    obtain⟨br,am,d⟩:=Yy d
    refine DS.wo (x:=.rp [.rsl 1 (List.map (Qd .i64) br)]) ?_ ?_
    ·exact Ix am runUnderlying23 sizeOf32 Z Wp
    refine D 2 Z ?_
    obtain⟨bs,an,d⟩:=Yy d
    refine DS.wo (x:=.rp [I bs]) ?_ ?_
    ·exact Ix an runUnderlying32 sizeOf3 Z Wp
    refine D 4 Z ?_
    obtain⟨bt,ao,d⟩:=Yy d
    refine DS.wo (x:=.rp [.rsl 1 (List.map (Qd .i64) bt)]) ?_ ?_
    ·exact Ix ao runUnderlying23 sizeOf32 Z Wp
    refine D 2 Z ?_
    obtain⟨bu,aq,d⟩:=Yy d
    refine DS.wo (x:=.rp [I bu]) ?_ ?_
    ·exact Ix aq runUnderlying32 sizeOf3 Z Wp
    refine D 2 Z (DS.done Z (Go 3 Z (Cn Z d (fun ar d=>?_) (fun ar d=>?_))))
    ·refine Gc 8 Z (Ql d ?_)
     obtain rfl:=Oj F d
     refine Gx 1 Z (Qk (Gx 2 Z (Ql q ?_)))
     obtain rfl:=Oj E q
     refine Gx 1 Z (Qk (Gx 2 Z (Ql p ?_)))
     obtain rfl:=Oj B p
     exact Gx 1 Z (Qk (Gx 1 Z (Rt h 2 [])))
    exact Gc 8 Z (Qi d (Lr [0]))
   subst s
   exact Gx 2 Z (TC.le g (Gc 5 Z (Qi q (Lr [0]))))
  subst s
  exact Gx 2 Z (TC.le g (Gc 5 Z (Qi p (Lr [0]))))
 subst s
 exact Gx 1 Z (TC.le g (Gc 6 Z (Rt h 2 [])))
def F_dg(n:Nat)(a:Int)(b:Int)(c:Int):Option Bool:=
  ((bif decide (b<=a)then some (decide (a<=c))else some false):Option Bool).bind fun d=>some d
theorem k_dg(n:Nat)(c:Int)(d:Int)(e:Int)(r:Bool)(h:F_dg n c d e=some r):
    Csm prog 101 [I c,I d,I e] [] (fun r=>.bool r) r:=by
 refine Qa func101 Z Z Z ?_
 refine G0 6 Z (Bd h fun b a h=>?_)
 refine Ct b [] [] (fun b=>[(6,.bool b)]) (fun _=>[]) (fun _=>rfl) ?_ (fun env H f=>?_)
 ·refine G0 5 Z (Is 10 a Z (fun g a=>?_) (fun g a=>?_))
  ·exact Go 6 Z (Cl a [])
  ·exact Go 6 Z (Cl a [])
 exact Gx 1 Z (TC.le f (Gc 1 Z (Rt h 6 [])))
def F_bk(n:Nat)(a:Int):Option Bool:=
  (F_dg n a 1 9999).bind fun b=>some b
theorem k_bk(n:Nat)(a:Int)(r:Bool)(h:F_bk n a=some r):
    Csm prog 64 [I a] [] (fun r=>.bool r) r:=by
 refine Qa func64 Z Z Z ?_
 exact G0 8 Z (Cz [] h (k_dg _ _ _ _) Z fun c b h=>Go 4 Z (Rt h 2 []))
def F_ci(n:Nat)(b:Clocks)(a:Outcome):Option Int:=
  (F_ab n b).bind fun c=>(bif (c != 0)then some c else((bif a.Out then(bif (a.Seg != (-1))then some true else(bif (a.Lo != 0)then some true else(bif (a.Hi != 0)then some true else(bif (!a.Out)then(bif decide (a.Seg<(-1))then some true else(bif decide ((b.Segments.length:Int)<=a.Seg)then some true else(bif decide (a.Lo<(-288230376151711744))then some true else(bif decide (a.Hi<a.Lo)then some true else some (decide (288230376151711744<a.Hi))))))else some false))))else(bif (!a.Out)then(bif decide (a.Seg<(-1))then some true else(bif decide ((b.Segments.length:Int)<=a.Seg)then some true else(bif decide (a.Lo<(-288230376151711744))then some true else(bif decide (a.Hi<a.Lo)then some true else some (decide (288230376151711744<a.Hi))))))else some false)):Option Bool).bind fun d=>(bif d then some 230 else some 0))
theorem k_ci(n:Nat)(x:Clocks)(y:Outcome)(r:Int)(h:F_ci n x y=some r):
    Csm prog 65 [.agg (Clocks.c x),.agg (Outcome.c y)] [] (fun r=>I r) r:=by
 refine Qa func65 Z Z Z ?_
 refine G0 10 Z (Cz [] h (k_ab _ _) Z fun F E h=>Go 10 Z (Cn Z h (fun z h=>?_) (fun z h=>?_)))
 ·exact Gc 8 Z (Rt h 4 [])
 refine Gc 4 Z (Bd h fun b a h=>?_)
 refine Ct b [] [] (fun b=>[(62,.bool b)]) (fun _=>[]) (fun _=>rfl) ?_ (fun env H B=>?_)
 ·refine G0 4 Z (Is 13 a Z (fun d a=>?_) (fun d a=>?_))
  ·refine Go 4 Z (Is 17 a Z (fun e a=>?_) (fun e a=>?_))
   ·exact Go 46 Z (Cl a [])
   ·refine Go 5 Z (Is 22 a Z (fun f a=>?_) (fun f a=>?_))
    ·exact Go 41 Z (Cl a [])
    ·refine Go 6 Z (Is 28 a Z (fun g a=>?_) (fun g a=>?_))
     ·exact Go 35 Z (Cl a [])
     ·refine Go 4 Z (Is 32 a Z (fun i a=>?_) (fun i a=>?_))
      ·refine Go 4 Z (Is 36 a Z (fun j a=>?_) (fun j a=>?_))
       ·exact Go 27 Z (Cl a [])
       ·refine Go 4 Z (Lm Z (Go 3 Z (Is 44 a Z (fun k a=>?_) (fun k a=>?_))))
        ·exact Go 19 Z (Cl a [])
        ·refine Go 5 Z (Is 49 a Z (fun l a=>?_) (fun l a=>?_))
         ·exact Go 14 Z (Cl a [])
         ·refine Go 7 Z (Is 56 a Z (fun m a=>?_) (fun m a=>?_))
          ·exact Go 7 Z (Cl a [])
          ·exact Go 7 Z (Cl a [])
      ·exact Go 31 Z (Cl a [])
  ·refine Go 19 Z (Is 32 a Z (fun p a=>?_) (fun p a=>?_))
   ·refine Go 4 Z (Is 36 a Z (fun q a=>?_) (fun q a=>?_))
    ·exact Go 27 Z (Cl a [])
    ·refine Go 4 Z (Lm Z (Go 3 Z (Is 44 a Z (fun s a=>?_) (fun s a=>?_))))
     ·exact Go 19 Z (Cl a [])
     ·refine Go 5 Z (Is 49 a Z (fun t a=>?_) (fun t a=>?_))
      ·exact Go 14 Z (Cl a [])
      ·refine Go 7 Z (Is 56 a Z (fun u a=>?_) (fun u a=>?_))
       ·exact Go 7 Z (Cl a [])
       ·exact Go 7 Z (Cl a [])
   ·exact Go 31 Z (Cl a [])
 refine Gx 1 Z (TC.le B (Cn Z h (fun w h=>?_) (fun w h=>?_)))
 ·exact Gc 7 Z (Rt h 4 [])
 exact Gc 8 Z (Rt h 4 [])
def F_is(n:Nat)(b:Field)(c:Int)(a:Int):Option (Ctl Int (Ctl Unit Bool)):=
  (bif decide (a<(b.Runners.length:Int))then((bif decide (c<0)then some true else(idx b.Runners a).bind fun d=>(bif decide ((d.Worlds.length:Int)<=c)then some true else(idx b.Runners a).bind fun e=>(idx e.Worlds c).bind fun f=>some ((f.length:Int)==0))):Option Bool).bind fun g=>(bif g then some (.done (.done false))else some (.cont (IntKind.i64.wrap (a+1))))else some (.done (.cont ())))
def F_bj(n:Nat)(c:Field)(d:Int):Option Bool:=
  (iter (F_is n c d) n 0:Option (Ctl Unit Bool)).bind fun b=>match b with|.cont a=>(some true)|.done a=>some a
theorem k_bj(n:Nat)(t:Field)(u:Int)(r:Bool)(h:F_bj n t u=some r):
    Csm prog 102 [.agg (Field.c t),I u] [] (fun r=>.bool r) r:=by
 refine Qa func102 Z Z Z ?_
 refine G0 12 Z (Bd h fun w x h=>?_)
 refine YS (b:=w) [] [] (fun _=>[]) (fun _=>[]) (fun _=>rfl) ?_ (fun z env H y e=>?_)
 ·refine G0 1 Z ?_
  refine Lp [0] [1,2] (fun i=>[(5,I i)]) (fun _=>[]) x (fun _=>rfl) (Lr [0]) fun i B d f=>?_
  refine G0 6 Z (Lm Z (Go 3 Z (Yc Z d (fun j d=>?_) (fun j d=>?_))))
  ·refine Gc 2 Z (Qj d ?_)
   obtain rfl:=Oj f d
   exact Gx 1 Z (Qm Z (Lr []))
  refine Gc 5 Z (Bd d fun g a d=>?_)
  refine Ct g [0] [1,2,5] (fun g=>[(38,.bool g)]) (fun _=>[]) (fun _=>rfl) ?_ (fun env H e=>?_)
  ·refine G0 4 Z (Is 15 a Z (fun k a=>?_) (fun k a=>?_))
   ·exact Go 24 Z (Cl a [0])
   ·refine Go 4 Z (Bd a fun E l a=>Iz l Z (Go 2 Z (Lm Z (Go 3 Z (Is 26 a Z (fun m a=>?_) (fun m a=>?_))))))
    ·exact Go 13 Z (Cl a [0])
    ·exact Go 3 Z (Bd a fun F p a=>Iz p Z (Go 3 Z (Bd a fun G q a=>Iz q Z (Go 1 Z (Lm Z (Go 3 Z (Cl a [0])))))))
  refine Gx 1 Z (TC.le e (Cn Z d (fun s d=>?_) (fun s d=>?_)))
  ·refine Gc 8 Z (Ql d ?_)
   obtain rfl:=Oj f d
   exact Gx 1 Z (Qk (Gx 1 Z (Rt h 4 [])))
  exact Gc 8 Z (Qi d (Lr [0]))
 subst y
 exact Gx 1 Z (TC.le e (Gc 6 Z (Rt h 4 [])))
def F_gh(n:Nat)(b:Field)(a:Int):Option (Ctl Int (Ctl Unit Bool)):=
  (bif decide (a<=(b.Pairs.length:Int))then(F_bj n b a).bind fun c=>(bif c then some (.done (.done true))else some (.cont (IntKind.i64.wrap (a+1))))else some (.done (.cont ())))
def F_cg(n:Nat)(b:Field):Option Bool:=
  (iter (F_gh n b) n 0:Option (Ctl Unit Bool)).bind fun c=>match c with|.cont a=>(some false)|.done a=>some a
theorem k_cg(n:Nat)(i:Field)(r:Bool)(h:F_cg n i=some r):
    Csm prog 66 [.agg (Field.c i)] [] (fun r=>.bool r) r:=by
 refine Qa func66 Z Z Z ?_
 refine G0 12 Z (Bd h fun l m h=>?_)
 refine YS (b:=l) [] [] (fun _=>[]) (fun _=>[]) (fun _=>rfl) ?_ (fun q env H j k=>?_)
 ·refine G0 1 Z ?_
  refine Lp [0] [1] (fun e=>[(3,I e)]) (fun _=>[]) m (fun _=>rfl) (Lr [0]) fun e s a d=>?_
  refine G0 6 Z (Lm Z (Go 3 Z (Yc Z a (fun f a=>?_) (fun f a=>?_))))
  ·refine Gc 2 Z (Qj a ?_)
   obtain rfl:=Oj d a
   exact Gx 1 Z (Qm Z (Lr []))
  refine Gc 8 Z (Cz [] a (k_bj _ _ _) Z fun t p a=>Go 2 Z (Cn Z a (fun g a=>?_) (fun g a=>?_)))
  ·refine Gc 8 Z (Ql a ?_)
   obtain rfl:=Oj d a
   exact Gx 1 Z (Qk (Gx 1 Z (Rt h 2 [])))
  exact Gc 8 Z (Qi a (Lr [0]))
 subst j
 exact Gx 1 Z (TC.le k (Gc 6 Z (Rt h 2 [])))
def F_hz(n:Nat)(c:Field)(a:Int):Option (Ctl Int (Ctl Unit Int)):=
  (bif decide (a<(c.Pairs.length:Int))then(idx c.Pairs a).bind fun b=>((bif decide (b.A<1)then some true else(bif decide (b.B<=b.A)then some true else some (decide (9999<b.B)))):Option Bool).bind fun d=>(bif d then some (.done (.done 240))else((bif decide (0<a)then(idx c.Pairs (IntKind.i64.wrap (a-1))).bind fun e=>(bif decide (b.A<e.A)then some true else(idx c.Pairs (IntKind.i64.wrap (a-1))).bind fun f=>(bif (f.A==b.A)then(idx c.Pairs (IntKind.i64.wrap (a-1))).bind fun g=>some (decide (b.B<=g.B))else some false))else some false):Option Bool).bind fun h=>(bif h then some (.done (.done 240))else some (.cont (IntKind.i64.wrap (a+1)))))else some (.done (.cont ())))
def F_ir(n:Nat)(h:Field)(b:Runner)(c:Int)(a:Int):Option (Ctl Int (Ctl Unit (Ctl Int (Ctl Unit (Ctl Int (Ctl Unit Int)))))):=
  (idx b.Worlds c).bind fun d=>(bif decide (a<(d.length:Int))then(idx b.Worlds c).bind fun e=>(idx e a).bind fun f=>(F_ci n h.Clocks f).bind fun g=>(bif (g != 0)then some (.done (.done (.done (.done (.done (.done 240))))))else some (.cont (IntKind.i64.wrap (a+1))))else some (.done (.cont ())))
def F_jf(n:Nat)(e:Field)(c:Runner)(a:Int):Option (Ctl Int (Ctl Unit (Ctl Int (Ctl Unit Int)))):=
  (bif decide (a<(c.Worlds.length:Int))then(iter (F_ir n e c a) n 0:Option (Ctl Unit (Ctl Int (Ctl Unit (Ctl Int (Ctl Unit Int)))))).bind fun d=>match d with|.cont b=>(some (.cont (IntKind.i64.wrap (a+1))))|.done b=>some b else some (.done (.cont ())))
def F_em(n:Nat)(c:Field)(b:Int):Option (Ctl Int (Ctl Unit Int)):=
  (bif decide (b<(c.Runners.length:Int))then(idx c.Runners b).bind fun a=>((F_bk n a.Bib).bind fun e=>(bif (!e)then some true else(bif decide (0<b)then(idx c.Runners (IntKind.i64.wrap (b-1))).bind fun f=>(bif decide (a.Bib<=f.Bib)then some true else(idx c.Runners 0).bind fun g=>(bif ((a.Keys.length:Int) != (g.Keys.length:Int))then some true else some ((a.Worlds.length:Int) != (IntKind.i64.wrap ((c.Pairs.length:Int)+1)))))else(idx c.Runners 0).bind fun h=>(bif ((a.Keys.length:Int) != (h.Keys.length:Int))then some true else some ((a.Worlds.length:Int) != (IntKind.i64.wrap ((c.Pairs.length:Int)+1)))))):Option Bool).bind fun i=>(bif i then some (.done (.done 240))else(iter (F_jf n c a) n 0:Option (Ctl Unit (Ctl Int (Ctl Unit Int)))).bind fun j=>match j with|.cont d=>(some (.cont (IntKind.i64.wrap (b+1))))|.done d=>some d)else some (.done (.cont ())))
def F_m(n:Nat)(a:Field):Option Int:=
  ((F_ab n a.Clocks).bind fun g=>(bif (g != 0)then some true else(bif decide (16<(a.Pairs.length:Int))then some true else(bif decide ((a.Runners.length:Int)<1)then some true else some (decide (4000<(a.Runners.length:Int)))))):Option Bool).bind fun h=>(bif h then some 240 else(iter (F_hz n a) n 0:Option (Ctl Unit Int)).bind fun f=>match f with|.cont c=>((iter (F_em n a) n 0:Option (Ctl Unit Int)).bind fun d=>match d with|.cont b=>((F_cg n a).bind fun e=>(bif (!e)then some 240 else some 0))|.done b=>some b)|.done c=>some c)
theorem k_m(n:Nat)(u:Field)(r:Int)(h:F_m n u=some r):
    Csm prog 35 [.agg (Field.c u)] [] (fun r=>I r) r:=by
 refine Qa func35 Z Z Z ?_
 refine G0 8 Z (Bd h fun b5 p h=>?_)
 refine Ct b5 [0] [1] (fun b5=>[(30,.bool b5)]) (fun _=>[]) (fun _=>rfl) ?_ (fun env H j=>?_)
 ·refine G0 3 Z (Cz [] p (k_ab _ _) Z fun r7 ch p=>Go 2 Z (Is 13 p Z (fun bo p=>?_) (fun bo p=>?_)))
  ·exact Go 18 Z (Cl p [0])
  ·refine Go 2 Z (Lm Z (Go 3 Z (Is 19 p Z (fun bp p=>?_) (fun bp p=>?_))))
   ·exact Go 12 Z (Cl p [0])
   ·refine Go 2 Z (Lm Z (Go 3 Z (Is 25 p Z (fun ar p=>?_) (fun ar p=>?_))))
    ·exact Go 6 Z (Cl p [0])
    ·exact Go 2 Z (Lm Z (Go 3 Z (Cl p [0])))
 refine Gx 1 Z (TC.le j (Cn Z h (fun au h=>?_) (fun au h=>?_)))
 ·exact Gc 7 Z (Rt h 2 [])
 refine Gc 8 Z (Bd h fun bq br h=>?_)
 refine YS (b:=bq) [0] [1] (fun _=>[]) (fun _=>[]) (fun _=>rfl) ?_ (fun bz env H w j=>?_)
 ·refine G0 1 Z ?_
  refine Lp [0] [1] (fun aq=>[(3,I aq)]) (fun _=>[]) br (fun _=>rfl) (Lr [0]) fun aq ci g F=>?_
  refine G0 6 Z (Lm Z (Go 3 Z (Yc Z g (fun av g=>?_) (fun av g=>?_))))
  ·refine Gc 2 Z (Qj g ?_)
   obtain rfl:=Oj F g
   exact Gx 1 Z (Qm Z (Lr [0]))
  refine Gc 9 Z (Bd g fun cj aw g=>Iz aw Z (Go 7 Z (Bd g fun M q g=>?_)))
  refine Ct M [0,1] [1,3,4] (fun M=>[(57,.bool M)]) (fun _=>[]) (fun _=>rfl) ?_ (fun env H j=>?_)
  ·refine G0 5 Z (Is 46 q Z (fun ax q=>?_) (fun ax q=>?_))
   ·exact Go 12 Z (Cl q [0,1])
   ·refine Go 7 Z (Is 53 q Z (fun ay q=>?_) (fun ay q=>?_))
    ·exact Go 5 Z (Cl q [0,1])
    ·exact Go 5 Z (Cl q [0,1])
  refine Gx 1 Z (TC.le j (Cn Z g (fun az g=>?_) (fun az g=>?_)))
  ·refine Gc 9 Z (Ql g ?_)
   obtain rfl:=Oj F g
   exact Gx 1 Z (Qk (Gx 1 Z (Rt h 2 [])))
  refine Gc 3 Z (Bd g fun N i g=>?_)
  refine Ct N [0] [1,3] (fun N=>[(95,.bool N)]) (fun _=>[]) (fun _=>rfl) ?_ (fun env H j=>?_)
  ·refine G0 0 Z (DSs 34 Z (D 3 Z (Yb 2 i Z Z Z (fun ba i=>?_) (fun ba i=>?_))))
   ·refine D 4 Z ?_
    obtain⟨O,bb,i⟩:=Yy i
    refine DS.v (x:=(.rp [I O.A,I O.B])) (Yh (e:=Pair.c) (l:=u.Pairs) (v:=O) bb runUnderlying26 sizeOf149) ?_ (hg:=(gT Z))
    refine D 6 Z (Yb 13 i Z Z Z (fun bc i=>?_) (fun bc i=>?_))
    ·exact D 20 Z (DS.done Z (Go 5 Z (Cl i [0])))
    ·refine D 4 Z ?_
     obtain⟨P,bd,i⟩:=Yy i
     refine DS.v (x:=(.rp [I P.A,I P.B])) (Yh (e:=Pair.c) (l:=u.Pairs) (v:=P) bd runUnderlying26 sizeOf149) ?_ (hg:=(gT Z))
     refine D 6 Z (Yb 24 i Z Z Z (fun be i=>?_) (fun be i=>?_))
     ·refine D 4 Z ?_
      obtain⟨Q,bf,i⟩:=Yy i
      refine DS.v (x:=(.rp [I Q.A,I Q.B])) (Yh (e:=Pair.c) (l:=u.Pairs) (v:=Q) bf runUnderlying26 sizeOf149) ?_ (hg:=(gT Z))
      exact D 4 Z (DS.done Z (Go 5 Z (Cl i [0])))
     ·exact D 9 Z (DS.done Z (Go 5 Z (Cl i [0])))
   ·exact D 31 Z (DS.done Z (Go 5 Z (Cl i [0])))
  refine Gx 1 Z (TC.le j (Cn Z g (fun bg g=>?_) (fun bg g=>?_)))
  ·refine Gc 8 Z (Ql g ?_)
   obtain rfl:=Oj F g
   exact Gx 1 Z (Qk (Gx 1 Z (Rt h 2 [])))
  exact Gc 8 Z (Qi g (Lr [0]))
 subst w
 refine Gx 1 Z (TC.le j (Gc 6 Z (Bd h fun bh bi h=>?_)))
 refine YS (b:=bh) [0] [1] (fun _=>[]) (fun _=>[]) (fun _=>rfl) ?_ (fun bs env H w j=>?_)
 ·refine G0 1 Z ?_
  refine Lp [0] [1] (fun R=>[(5,I R)]) (fun _=>[]) bi (fun _=>rfl) (Lr [0]) fun R ca d y=>?_
  refine G0 6 Z (Lm Z (Go 3 Z (Yc Z d (fun W d=>?_) (fun W d=>?_))))
  ·refine Gc 2 Z (Qj d ?_)
   obtain rfl:=Oj y d
   exact Gx 1 Z (Qm Z (Lr [0]))
  refine Gc 9 Z (Bd d fun m X d=>Iz X Z (Go 7 Z (Bd d fun G a d=>?_)))
  refine Ct G [0,1] [1,5,6] (fun G=>[(149,.bool G)]) (fun _=>[]) (fun _=>rfl) ?_ (fun env H j=>?_)
  ·refine G0 0 Z (DSs 40 Z (D 2 Z ?_))
   refine Dz [] a (k_bk _ _) Z fun cb bt a=>D 2 Z (Yb 4 a Z Z Z (fun Y a=>?_) (fun Y a=>?_))
   ·exact D 35 Z (DS.done Z (Go 3 Z (Cl a [0,1])))
   ·refine D 3 Z (Yb 7 a Z Z Z (fun aa a=>?_) (fun aa a=>?_))
    ·refine D 4 Z ?_
     obtain⟨z,ab,a⟩:=Yy a
     refine DS.v (x:=(.rp [I z.Bib,.rsl 1 (List.map (Qd .i64) z.Keys),.rsl 1 (List.map (Yo 4 Outcome.c) z.Worlds)])) (Yh (e:=Runner.c) (l:=u.Runners) (v:=z) ab runUnderlying27 sizeOf68) ?_ (hg:=(gT Z))
     refine D 8 Z (Yb 20 a Z Z Z (fun ac a=>?_) (fun ac a=>?_))
     ·exact D 19 Z (DS.done Z (Go 3 Z (Cl a [0,1])))
     ·refine D 2 Z ?_
      refine DS.v (x:=(I (m.Keys.length:Int))) (Ym (e:=(Qd .i64)) (l:=m.Keys) runUnderlying32) ?_ (hg:=(gT Z))
      refine D 2 Z ?_
      obtain⟨s,ad,a⟩:=Yy a
      refine DS.v (x:=(.rp [I s.Bib,.rsl 1 (List.map (Qd .i64) s.Keys),.rsl 1 (List.map (Yo 4 Outcome.c) s.Worlds)])) (Yh (e:=Runner.c) (l:=u.Runners) (v:=s) ad runUnderlying27 sizeOf68) ?_ (hg:=(gT Z))
      refine D 2 Z ?_
      refine DS.v (x:=(I (s.Keys.length:Int))) (Ym (e:=(Qd .i64)) (l:=s.Keys) runUnderlying32) ?_ (hg:=(gT Z))
      refine D 3 Z (Yb 32 a Z Z Z (fun ae a=>?_) (fun ae a=>?_))
      ·exact D 7 Z (DS.done Z (Go 3 Z (Cl a [0,1])))
      ·refine D 2 Z ?_
       refine DS.v (x:=(I (m.Worlds.length:Int))) (Ym (e:=(Yo 4 Outcome.c)) (l:=m.Worlds) runUnderlying66) ?_ (hg:=(gT Z))
       refine D 2 Z ?_
       refine DS.v (x:=(I (u.Pairs.length:Int))) (Ym (e:=Pair.c) (l:=u.Pairs) runUnderlying26) ?_ (hg:=(gT Z))
       exact D 1 Z (DS.done Z (Go 3 Z (Cl a [0,1])))
    ·refine D 15 Z ?_
     refine DS.v (x:=(I (m.Keys.length:Int))) (Ym (e:=(Qd .i64)) (l:=m.Keys) runUnderlying32) ?_ (hg:=(gT Z))
     refine D 2 Z ?_
     obtain⟨t,af,a⟩:=Yy a
     refine DS.v (x:=(.rp [I t.Bib,.rsl 1 (List.map (Qd .i64) t.Keys),.rsl 1 (List.map (Yo 4 Outcome.c) t.Worlds)])) (Yh (e:=Runner.c) (l:=u.Runners) (v:=t) af runUnderlying27 sizeOf68) ?_ (hg:=(gT Z))
     refine D 2 Z ?_
     refine DS.v (x:=(I (t.Keys.length:Int))) (Ym (e:=(Qd .i64)) (l:=t.Keys) runUnderlying32) ?_ (hg:=(gT Z))
     refine D 3 Z (Yb 32 a Z Z Z (fun ag a=>?_) (fun ag a=>?_))
     ·exact D 7 Z (DS.done Z (Go 3 Z (Cl a [0,1])))
     ·refine D 2 Z ?_
      refine DS.v (x:=(I (m.Worlds.length:Int))) (Ym (e:=(Yo 4 Outcome.c)) (l:=m.Worlds) runUnderlying66) ?_ (hg:=(gT Z))
      refine D 2 Z ?_
      refine DS.v (x:=(I (u.Pairs.length:Int))) (Ym (e:=Pair.c) (l:=u.Pairs) runUnderlying26) ?_ (hg:=(gT Z))
      exact D 1 Z (DS.done Z (Go 3 Z (Cl a [0,1])))
  refine Gx 1 Z (TC.le j (Cn Z d (fun ah d=>?_) (fun ah d=>?_)))
  ·refine Gc 9 Z (Ql d ?_)
   obtain rfl:=Oj y d
   exact Gx 1 Z (Qk (Gx 1 Z (Rt h 2 [])))
  refine Gc 7 Z (Bd d fun bj bk d=>?_)
  refine YS (b:=bj) [0] [1,5] (fun _=>[]) (fun _=>[]) (fun _=>rfl) ?_ (fun bu env H w j=>?_)
  ·refine G0 1 Z ?_
   refine Lp [0,1] [1,5,6] (fun T=>[(7,I T)]) (fun _=>[]) bk (fun _=>rfl) (Lr [0,1]) fun T cc k J=>?_
   refine G0 6 Z (Lm Z (Go 3 Z (Yc Z k (fun ai k=>?_) (fun ai k=>?_))))
   ·refine Gc 2 Z (Qj k ?_)
    obtain rfl:=Oj J k
    exact Gx 1 Z (Qm Z (Lr [0]))
   refine Gc 9 Z (Bd k fun bl bm k=>?_)
   refine YS (b:=bl) [0,1] [1,5,6,7] (fun _=>[]) (fun _=>[]) (fun _=>rfl) ?_ (fun bv env H w j=>?_)
   ·refine G0 1 Z ?_
    refine Lp [0,1] [1,5,6,7] (fun V=>[(8,I V)]) (fun _=>[]) bm (fun _=>rfl) (Lr [0,1]) fun V cd f L=>?_
    refine G0 7 Z (Bd f fun ce aj f=>Iz aj Z (Go 1 Z (Lm Z (Go 3 Z (Yc Z f (fun ak f=>?_) (fun ak f=>?_))))))
    ·refine Gc 2 Z (Qj f ?_)
     obtain rfl:=Oj L f
     exact Gx 1 Z (Qm Z (Lr [0,1]))
    refine Gc 5 Z (DSs 10 Z (D 5 Z ?_))
    obtain⟨bn,al,f⟩:=Yy f
    refine DS.wo (x:=.rp [.rsl 4 (List.map Outcome.c bn)]) ?_ ?_
    ·exact Ix al runUnderlying66 sizeOf88 Z Wp
    refine D 2 Z ?_
    obtain⟨E,am,f⟩:=Yy f
    refine DS.wo (x:=.rp [.bool E.Out,I E.Seg,I E.Lo,I E.Hi]) ?_ ?_
    ·exact Ix am runUnderlying88 sizeOf146 Z Wp
    refine D 1 Z (DS.done Z (Cz [] f (k_ci _ _ _) Z fun cf bw f=>Go 3 Z (Cn Z f (fun an f=>?_) (fun an f=>?_))))
    ·refine Gc 8 Z (Ql f ?_)
     obtain rfl:=Oj L f
     refine Gx 1 Z (Qk (Gx 2 Z (Ql k ?_)))
     obtain rfl:=Oj J k
     refine Gx 1 Z (Qk (Gx 2 Z (Ql d ?_)))
     obtain rfl:=Oj y d
     exact Gx 1 Z (Qk (Gx 1 Z (Rt h 2 [])))
    exact Gc 8 Z (Qi f (Lr [0,1]))
   subst w
   exact Gx 2 Z (TC.le j (Gc 5 Z (Qi k (Lr [0,1]))))
  subst w
  exact Gx 2 Z (TC.le j (Gc 5 Z (Qi d (Lr [0]))))
 subst w
 refine Gx 1 Z (TC.le j (Gc 4 Z (Cz [] h (k_cg _ _) Z fun cg bx h=>Go 3 Z (Cn Z h (fun ao h=>?_) (fun ao h=>?_)))))
 ·exact Gc 7 Z (Rt h 2 [])
 exact Gc 8 Z (Rt h 2 [])
def F_ct(n:Nat)(a:Field)(b:Int):Option Int:=
  (F_m n a).bind fun c=>(bif (c != 0)then some 240 else((bif decide (b<0)then some true else some (decide ((a.Runners.length:Int)<=b))):Option Bool).bind fun d=>(bif d then some 250 else some 0))
theorem k_ct(n:Nat)(d:Field)(e:Int)(r:Int)(h:F_ct n d e=some r):
    Csm prog 103 [.agg (Field.c d),I e] [] (fun r=>I r) r:=by
 refine Qa func103 Z Z Z ?_
 refine G0 9 Z (Cz [] h (k_m _ _) Z fun l k h=>Go 10 Z (Cn Z h (fun f h=>?_) (fun f h=>?_)))
 ·exact Gc 7 Z (Rt h 4 [])
 refine Gc 4 Z (Bd h fun b a h=>?_)
 refine Ct b [] [] (fun b=>[(18,.bool b)]) (fun _=>[]) (fun _=>rfl) ?_ (fun env H g=>?_)
 ·refine G0 4 Z (Is 12 a Z (fun i a=>?_) (fun i a=>?_))
  ·exact Go 7 Z (Cl a [])
  ·exact Go 3 Z (Lm Z (Go 3 Z (Cl a [])))
 refine Gx 1 Z (TC.le g (Cn Z h (fun j h=>?_) (fun j h=>?_)))
 ·exact Gc 7 Z (Rt h 4 [])
 exact Gc 8 Z (Rt h 4 [])
def F_jg(n:Nat)(b:Field)(c:Int)(a:Int):Option (Ctl Int (Ctl Unit Bool)):=
  (bif decide (a<(b.Runners.length:Int))then((idx b.Runners a).bind fun d=>(bif decide ((d.Worlds.length:Int)<=c)then some true else(idx b.Runners a).bind fun e=>(idx e.Worlds c).bind fun f=>some ((f.length:Int)==0)):Option Bool).bind fun g=>(bif g then some (.done (.done false))else some (.cont (IntKind.i64.wrap (a+1))))else some (.done (.cont ())))
def F_bw(n:Nat)(c:Field)(b:Int):Option Bool:=
  ((bif decide (b<0)then some true else some (decide ((c.Pairs.length:Int)<b))):Option Bool).bind fun e=>(bif e then some false else(iter (F_jg n c b) n 0:Option (Ctl Unit Bool)).bind fun d=>match d with|.cont a=>(some true)|.done a=>some a)
theorem k_bw(n:Nat)(u:Field)(w:Int)(r:Bool)(h:F_bw n u w=some r):
    Csm prog 84 [.agg (Field.c u),I w] [] (fun r=>.bool r) r:=by
 refine Qa func84 Z Z Z ?_
 refine G0 8 Z (Bd h fun k f h=>?_)
 refine Ct k [0] [1,2] (fun k=>[(14,.bool k)]) (fun _=>[]) (fun _=>rfl) ?_ (fun env H e=>?_)
 ·refine G0 4 Z (Is 8 f Z (fun x f=>?_) (fun x f=>?_))
  ·exact Go 7 Z (Cl f [0])
  ·exact Go 3 Z (Lm Z (Go 3 Z (Cl f [0])))
 refine Gx 1 Z (TC.le e (Cn Z h (fun y h=>?_) (fun y h=>?_)))
 ·exact Gc 7 Z (Rt h 4 [])
 refine Gc 8 Z (Bd h fun z B h=>?_)
 refine YS (b:=z) [] [] (fun _=>[]) (fun _=>[]) (fun _=>rfl) ?_ (fun F env H E e=>?_)
 ·refine G0 1 Z ?_
  refine Lp [0] [1,2] (fun j=>[(5,I j)]) (fun _=>[]) B (fun _=>rfl) (Lr [0]) fun j G a g=>?_
  refine G0 6 Z (Lm Z (Go 3 Z (Yc Z a (fun l a=>?_) (fun l a=>?_))))
  ·refine Gc 2 Z (Qj a ?_)
   obtain rfl:=Oj g a
   exact Gx 1 Z (Qm Z (Lr []))
  refine Gc 5 Z (Bd a fun i d a=>?_)
  refine Ct i [0] [1,2,5] (fun i=>[(43,.bool i)]) (fun _=>[]) (fun _=>rfl) ?_ (fun env H e=>?_)
  ·refine G0 5 Z (Bd d fun J m d=>Iz m Z (Go 2 Z (Lm Z (Go 2 Z (Is 31 d Z (fun p d=>?_) (fun p d=>?_))))))
   ·exact Go 13 Z (Cl d [0])
   ·exact Go 3 Z (Bd d fun L q d=>Iz q Z (Go 3 Z (Bd d fun M s d=>Iz s Z (Go 1 Z (Lm Z (Go 3 Z (Cl d [0])))))))
  refine Gx 1 Z (TC.le e (Cn Z a (fun t a=>?_) (fun t a=>?_)))
  ·refine Gc 8 Z (Ql a ?_)
   obtain rfl:=Oj g a
   exact Gx 1 Z (Qk (Gx 1 Z (Rt h 4 [])))
  exact Gc 8 Z (Qi a (Lr [0]))
 subst E
 exact Gx 1 Z (TC.le e (Gc 6 Z (Rt h 4 [])))
def F_aw(n:Nat)(b:List Int)(c:List Int)(a:Int):Option (Ctl Int (Ctl Unit Bool)):=
  ((bif decide (a<(b.length:Int))then some (decide (a<(c.length:Int)))else some false):Option Bool).bind fun d=>(bif d then(idx b a).bind fun e=>(idx c a).bind fun f=>(bif (e != f)then(idx b a).bind fun g=>(idx c a).bind fun h=>some (.done (.done (decide (g<h))))else some (.cont (IntKind.i64.wrap (a+1))))else some (.done (.cont ())))
def F_r(n:Nat)(b:List Int)(c:List Int):Option Bool:=
  (iter (F_aw n b c) n 0:Option (Ctl Unit Bool)).bind fun d=>match d with|.cont a=>(some (decide ((b.length:Int)<(c.length:Int))))|.done a=>some a
theorem k_r(n:Nat)(s:List Int)(t:List Int)(r:Bool)(h:F_r n s t=some r):
    Csm prog 133 [.rsl 1 (List.map (Qd .i64) s),.rsl 1 (List.map (Qd .i64) t)] [] (fun r=>.bool r) r:=by
 refine Qa func133 Z Z Z ?_
 refine G0 11 Z (Bd h fun u w h=>?_)
 refine YS (b:=u) [] [0,1] (fun _=>[]) (fun _=>[]) (fun _=>rfl) ?_ (fun G env H y d=>?_)
 ·refine G0 1 Z ?_
  refine Lp [] [0,1] (fun g=>[(5,I g)]) (fun _=>[]) w (fun _=>rfl) (Lr []) fun g J a e=>?_
  refine G0 2 Z (Bd a fun f c a=>?_)
  refine Ct f [] [0,1,5] (fun f=>[(15,.bool f)]) (fun _=>[]) (fun _=>rfl) ?_ (fun env H d=>?_)
  ·refine G0 3 Z (Lm Z (Go 2 Z (Is 10 c Z (fun i c=>?_) (fun i c=>?_))))
   ·exact Go 2 Z (Lm Z (Go 3 Z (Cl c [])))
   ·exact Go 6 Z (Cl c [])
  refine Gx 1 Z (TC.le d (Yc Z a (fun j a=>?_) (fun j a=>?_)))
  ·refine Gc 2 Z (Qj a ?_)
   obtain rfl:=Oj e a
   exact Gx 1 Z (Qm Z (Lr []))
  refine Gc 5 Z (DSs 8 Z (D 2 Z ?_))
  obtain⟨z,k,a⟩:=Yy a
  refine DS.wo (x:=.rp [I z]) ?_ ?_
  ·exact Ix k runUnderlying32 sizeOf3 Z Wp
  refine D 3 Z ?_
  obtain⟨B,l,a⟩:=Yy a
  refine DS.wo (x:=.rp [I B]) ?_ ?_
  ·exact Ix l runUnderlying32 sizeOf3 Z Wp
  refine D 1 Z (DS.done Z (Go 3 Z (Cn Z a (fun m a=>?_) (fun m a=>?_))))
  ·refine Gc 1 Z (DSs 8 Z (D 2 Z ?_))
   obtain⟨E,p,a⟩:=Yy a
   refine DS.wo (x:=.rp [I E]) ?_ ?_
   ·exact Ix p runUnderlying32 sizeOf3 Z Wp
   refine D 3 Z ?_
   obtain⟨F,q,a⟩:=Yy a
   refine DS.wo (x:=.rp [I F]) ?_ ?_
   ·exact Ix q runUnderlying32 sizeOf3 Z Wp
   refine D 1 Z (DS.done Z (Go 7 Z (Ql a ?_)))
   obtain rfl:=Oj e a
   exact Gx 1 Z (Qk (Gx 1 Z (Rt h 4 [])))
  exact Gc 8 Z (Qi a (Lr []))
 subst y
 exact Gx 1 Z (TC.le d (Gc 3 Z (Lm Z (Go 1 Z (Lm Z (Go 5 Z (Rt h 4 [])))))))
def F_az(n:Nat)(b:Field)(c:Outcome)(h:Int)(a:Outcome)(i:Int):Option Bool:=
  (bif a.Out then some true else(idx b.Clocks.Far (IntKind.i64.wrap (c.Seg+1))).bind fun j=>(idx j (IntKind.i64.wrap (a.Seg+1))).bind fun d=>((bif decide (0<(IntKind.i64.wrap ((IntKind.i64.wrap (a.Hi+d))-c.Lo)))then some true else(bif ((IntKind.i64.wrap ((IntKind.i64.wrap (a.Hi+d))-c.Lo))==0)then(idx b.Runners i).bind fun e=>(idx b.Runners h).bind fun f=>(F_r n e.Keys f.Keys).bind fun g=>some (!g)else some false)):Option Bool).bind fun k=>some k)
theorem k_az(n:Nat)(f:Field)(p:Outcome)(q:Int)(s:Outcome)(t:Int)(r:Bool)(h:F_az n f p q s t=some r):
    Csm prog 228 [.agg (Field.c f),.agg (Outcome.c p),I q,.agg (Outcome.c s),I t] [] (fun r=>.bool r) r:=by
 refine Qa func228 Z Z Z ?_
 refine G0 15 Z (Cn Z h (fun u h=>?_) (fun u h=>?_))
 ·exact Gc 7 Z (Rt h 10 [])
 refine Gc 3 Z (DSs 18 Z (D 8 Z ?_))
 obtain⟨B,w,h⟩:=Yy h
 refine DS.wo (x:=.rp [.rsl 1 (List.map (Qd .i64) B)]) ?_ ?_
 ·exact Ix w runUnderlying23 sizeOf32 Z Wp
 refine D 4 Z ?_
 obtain⟨E,y,h⟩:=Yy h
 refine DS.wo (x:=.rp [I E]) ?_ ?_
 ·exact Ix y runUnderlying32 sizeOf3 Z Wp
 refine D 4 Z (DS.done Z (Go 5 Z (Bd h fun g a h=>?_)))
 refine Ct g [] [] (fun g=>[(10,.bool g)]) (fun _=>[]) (fun _=>rfl) ?_ (fun env H z=>?_)
 ·refine G0 0 Z (DSs 18 Z (D 3 Z (Yb 2 a Z Z Z (fun i a=>?_) (fun i a=>?_))))
  ·exact D 15 Z (DS.done Z (Go 6 Z (Cl a [])))
  ·refine D 3 Z (Yb 5 a Z Z Z (fun j a=>?_) (fun j a=>?_))
   ·refine D 3 Z ?_
    obtain⟨b,k,a⟩:=Yy a
    refine DS.v (x:=(.rp [I b.Bib,.rsl 1 (List.map (Qd .i64) b.Keys),.rsl 1 (List.map (Yo 4 Outcome.c) b.Worlds)])) (Yh (e:=Runner.c) (l:=f.Runners) (v:=b) k runUnderlying27 sizeOf68) ?_ (hg:=(gT Z))
    refine D 5 Z ?_
    obtain⟨d,m,a⟩:=Yy a
    refine DS.v (x:=(.rp [I d.Bib,.rsl 1 (List.map (Qd .i64) d.Keys),.rsl 1 (List.map (Yo 4 Outcome.c) d.Worlds)])) (Yh (e:=Runner.c) (l:=f.Runners) (v:=d) m runUnderlying27 sizeOf68) ?_ (hg:=(gT Z))
    exact D 2 Z (DS.done Z (Cz [] a (k_r _ _ _) Z fun G F a=>Go 5 Z (Cl a [])))
   ·exact D 12 Z (DS.done Z (Go 6 Z (Cl a [])))
 exact Gx 1 Z (TC.le z (Gc 1 Z (Rt h 10 [])))
def F_ja(n:Nat)(e:Field)(f:Outcome)(g:Int)(h:Int)(b:List Outcome)(a:Int):Option (Ctl Int (Ctl Unit Bool)):=
  (bif decide (a<(b.length:Int))then(idx b a).bind fun c=>(F_az n e f g c h).bind fun d=>(bif d then some (.done (.done true))else some (.cont (IntKind.i64.wrap (a+1))))else some (.done (.cont ())))
def F_bz(n:Nat)(b:Field)(e:Int)(f:Outcome)(g:Int)(c:Int):Option Bool:=
  (idx b.Runners c).bind fun h=>(idx h.Worlds e).bind fun i=>(iter (F_ja n b f g c i) n 0:Option (Ctl Unit Bool)).bind fun d=>match d with|.cont a=>(some false)|.done a=>some a
theorem k_bz(n:Nat)(k:Field)(l:Int)(m:Outcome)(p:Int)(q:Int)(r:Bool)(h:F_bz n k l m p q=some r):
    Csm prog 151 [.agg (Field.c k),I l,.agg (Outcome.c m),I p,I q] [] (fun r=>.bool r) r:=by
 refine Qa func151 Z Z Z ?_
 refine G0 12 Z (Bd h fun J s h=>Iz s Z (Go 3 Z (Bd h fun L t h=>Iz t Z (Go 10 Z (Bd h fun u w h=>?_)))))
 refine YS (b:=u) [] [] (fun _=>[]) (fun _=>[]) (fun _=>rfl) ?_ (fun B env H y z=>?_)
 ·refine G0 1 Z ?_
  refine Lp [0,1] [3,4,5,7,11] (fun f=>[(12,I f)]) (fun _=>[]) w (fun _=>rfl) (Lr [0,1]) fun f F a e=>?_
  refine G0 5 Z (Lm Z (Go 3 Z (Yc Z a (fun g a=>?_) (fun g a=>?_))))
  ·refine Gc 2 Z (Qj a ?_)
   obtain rfl:=Oj e a
   exact Gx 1 Z (Qm Z (Lr []))
  refine Gc 5 Z (DSs 8 Z (D 5 Z ?_))
  obtain⟨d,i,a⟩:=Yy a
  refine DS.wo (x:=.rp [.bool d.Out,I d.Seg,I d.Lo,I d.Hi]) ?_ ?_
  ·exact Ix i runUnderlying88 sizeOf146 Z Wp
  refine D 2 Z (DS.done Z (Cz [] a (k_az _ _ _ _ _ _) Z fun G E a=>Go 2 Z (Cn Z a (fun j a=>?_) (fun j a=>?_))))
  ·refine Gc 8 Z (Ql a ?_)
   obtain rfl:=Oj e a
   exact Gx 1 Z (Qk (Gx 1 Z (Rt h 10 [])))
  exact Gc 8 Z (Qi a (Lr [0,1]))
 subst y
 exact Gx 1 Z (TC.le z (Gc 6 Z (Rt h 10 [])))
def F_bo(n:Nat)(b:Field)(c:Outcome)(h:Int)(a:Outcome)(i:Int):Option Bool:=
  (bif a.Out then some false else(idx b.Clocks.Far (IntKind.i64.wrap (a.Seg+1))).bind fun j=>(idx j (IntKind.i64.wrap (c.Seg+1))).bind fun d=>((bif decide ((IntKind.i64.wrap ((IntKind.i64.wrap (a.Lo-d))-c.Hi))<0)then some true else(bif ((IntKind.i64.wrap ((IntKind.i64.wrap (a.Lo-d))-c.Hi))==0)then(idx b.Runners i).bind fun e=>(idx b.Runners h).bind fun f=>(F_r n e.Keys f.Keys).bind fun g=>some g else some false)):Option Bool).bind fun k=>some k)
theorem k_bo(n:Nat)(f:Field)(p:Outcome)(q:Int)(s:Outcome)(t:Int)(r:Bool)(h:F_bo n f p q s t=some r):
    Csm prog 229 [.agg (Field.c f),.agg (Outcome.c p),I q,.agg (Outcome.c s),I t] [] (fun r=>.bool r) r:=by
 refine Qa func229 Z Z Z ?_
 refine G0 15 Z (Cn Z h (fun u h=>?_) (fun u h=>?_))
 ·exact Gc 7 Z (Rt h 10 [])
 refine Gc 3 Z (DSs 18 Z (D 8 Z ?_))
 obtain⟨B,w,h⟩:=Yy h
 refine DS.wo (x:=.rp [.rsl 1 (List.map (Qd .i64) B)]) ?_ ?_
 ·exact Ix w runUnderlying23 sizeOf32 Z Wp
 refine D 4 Z ?_
 obtain⟨E,y,h⟩:=Yy h
 refine DS.wo (x:=.rp [I E]) ?_ ?_
 ·exact Ix y runUnderlying32 sizeOf3 Z Wp
 refine D 4 Z (DS.done Z (Go 5 Z (Bd h fun g a h=>?_)))
 refine Ct g [] [] (fun g=>[(10,.bool g)]) (fun _=>[]) (fun _=>rfl) ?_ (fun env H z=>?_)
 ·refine G0 0 Z (DSs 18 Z (D 3 Z (Yb 2 a Z Z Z (fun i a=>?_) (fun i a=>?_))))
  ·exact D 15 Z (DS.done Z (Go 5 Z (Cl a [])))
  ·refine D 3 Z (Yb 5 a Z Z Z (fun j a=>?_) (fun j a=>?_))
   ·refine D 3 Z ?_
    obtain⟨b,k,a⟩:=Yy a
    refine DS.v (x:=(.rp [I b.Bib,.rsl 1 (List.map (Qd .i64) b.Keys),.rsl 1 (List.map (Yo 4 Outcome.c) b.Worlds)])) (Yh (e:=Runner.c) (l:=f.Runners) (v:=b) k runUnderlying27 sizeOf68) ?_ (hg:=(gT Z))
    refine D 5 Z ?_
    obtain⟨d,m,a⟩:=Yy a
    refine DS.v (x:=(.rp [I d.Bib,.rsl 1 (List.map (Qd .i64) d.Keys),.rsl 1 (List.map (Yo 4 Outcome.c) d.Worlds)])) (Yh (e:=Runner.c) (l:=f.Runners) (v:=d) m runUnderlying27 sizeOf68) ?_ (hg:=(gT Z))
    exact D 2 Z (DS.done Z (Cz [] a (k_r _ _ _) Z fun G F a=>Go 4 Z (Cl a [])))
   ·exact D 12 Z (DS.done Z (Go 5 Z (Cl a [])))
 exact Gx 1 Z (TC.le z (Gc 1 Z (Rt h 10 [])))
def F_it(n:Nat)(e:Field)(f:Outcome)(g:Int)(h:Int)(b:List Outcome)(a:Int):Option (Ctl Int (Ctl Unit Bool)):=
  (bif decide (a<(b.length:Int))then(idx b a).bind fun c=>(F_bo n e f g c h).bind fun d=>(bif d then some (.done (.done true))else some (.cont (IntKind.i64.wrap (a+1))))else some (.done (.cont ())))
def F_by(n:Nat)(b:Field)(e:Int)(f:Outcome)(g:Int)(c:Int):Option Bool:=
  (idx b.Runners c).bind fun h=>(idx h.Worlds e).bind fun i=>(iter (F_it n b f g c i) n 0:Option (Ctl Unit Bool)).bind fun d=>match d with|.cont a=>(some false)|.done a=>some a
theorem k_by(n:Nat)(k:Field)(l:Int)(m:Outcome)(p:Int)(q:Int)(r:Bool)(h:F_by n k l m p q=some r):
    Csm prog 152 [.agg (Field.c k),I l,.agg (Outcome.c m),I p,I q] [] (fun r=>.bool r) r:=by
 refine Qa func152 Z Z Z ?_
 refine G0 12 Z (Bd h fun J s h=>Iz s Z (Go 3 Z (Bd h fun L t h=>Iz t Z (Go 10 Z (Bd h fun u w h=>?_)))))
 refine YS (b:=u) [] [] (fun _=>[]) (fun _=>[]) (fun _=>rfl) ?_ (fun B env H y z=>?_)
 ·refine G0 1 Z ?_
  refine Lp [0,1] [3,4,5,7,11] (fun f=>[(12,I f)]) (fun _=>[]) w (fun _=>rfl) (Lr [0,1]) fun f F a e=>?_
  refine G0 5 Z (Lm Z (Go 3 Z (Yc Z a (fun g a=>?_) (fun g a=>?_))))
  ·refine Gc 2 Z (Qj a ?_)
   obtain rfl:=Oj e a
   exact Gx 1 Z (Qm Z (Lr []))
  refine Gc 5 Z (DSs 8 Z (D 5 Z ?_))
  obtain⟨d,i,a⟩:=Yy a
  refine DS.wo (x:=.rp [.bool d.Out,I d.Seg,I d.Lo,I d.Hi]) ?_ ?_
  ·exact Ix i runUnderlying88 sizeOf146 Z Wp
  refine D 2 Z (DS.done Z (Cz [] a (k_bo _ _ _ _ _ _) Z fun G E a=>Go 2 Z (Cn Z a (fun j a=>?_) (fun j a=>?_))))
  ·refine Gc 8 Z (Ql a ?_)
   obtain rfl:=Oj e a
   exact Gx 1 Z (Qk (Gx 1 Z (Rt h 10 [])))
  exact Gc 8 Z (Qi a (Lr [0,1]))
 subst y
 exact Gx 1 Z (TC.le z (Gc 6 Z (Rt h 10 [])))
def F_iw(n:Nat)(c:Field)(e:Int)(f:Outcome)(d:Int)(a:Int×Int×Int):Option (Ctl (Int×Int×Int) (Int×Int)):=
  (bif decide (a.2.2<(c.Runners.length:Int))then((bif (a.2.2==d)then some (a.1,a.2.1)else(F_bz n c e f d a.2.2).bind fun g=>((bif (!g)then some (IntKind.i64.wrap (a.1+1))else some a.1):Option Int).bind fun h=>(F_by n c e f d a.2.2).bind fun i=>((bif i then some (IntKind.i64.wrap (a.2.1+1))else some a.2.1):Option Int).bind fun j=>some (h,j)):Option (Int×Int)).bind fun b=>some (.cont (b.1,b.2,IntKind.i64.wrap (a.2.2+1)))else some (.done (a.1,a.2.1)))
def F_cj(n:Nat)(b:Field)(c:Int)(d:Outcome)(e:Int):Option (Int×Int):=
  (iter (F_iw n b c d e) n (1,1,0):Option (Int×Int)).bind fun a=>some (a.1,a.2)
theorem k_cj(n:Nat)(u:Field)(w:Int)(x:Outcome)(y:Int)(r:Int×Int)(h:F_cj n u w x y=some r):
    Csm prog 104 [.agg (Field.c u),I w,.agg (Outcome.c x),I y] [] (fun r=>.tup [I r.1,I r.2]) r:=by
 refine Qa func104 Z Z Z ?_
 refine G0 24 Z (Bd h fun g z h=>?_)
 refine Ct g [] [] (fun g=>[(10,I g.1),(11,I g.2)]) (fun _=>[]) (fun _=>rfl) ?_ (fun env H d=>?_)
 ·refine G0 1 Z ?_
  refine Lp [0,1] [1,3,4,6] (fun i=>[(10,I i.1),(11,I i.2.1),(12,I i.2.2)]) (fun _=>[]) z (fun _=>rfl) (Lr [0,1]) fun i F b m=>?_
  refine G0 6 Z (Lm Z (Go 3 Z (Yc Z b (fun p b=>?_) (fun p b=>?_))))
  ·refine Gc 2 Z (Qj b ?_)
   obtain rfl:=Oj m b
   exact Gx 1 Z (QT (Lr []))
  refine Gc 3 Z (Bd b fun j a b=>?_)
  refine Ct j [0,1] [1,3,4,6,12] (fun j=>[(10,I j.1),(11,I j.2)]) (fun _=>[]) (fun _=>rfl) ?_ (fun env H d=>?_)
  ·refine G0 9 Z (Cn Z a (fun q a=>?_) (fun q a=>?_))
   ·exact Gc 3 Z (Cl a [0,1])
   refine Gc 10 Z (Cz [] a (k_bz _ _ _ _ _ _) Z fun G B a=>Go 3 Z (Bd a fun k e a=>?_))
   refine Ct k [0,1] [1,3,4,6,11,12] (fun k=>[(10,I k)]) (fun _=>[]) (fun _=>rfl) ?_ (fun env H d=>?_)
   ·refine G0 0 Z (Cn Z e (fun s e=>?_) (fun s e=>?_))
    ·exact Gc 5 Z (Cl e [0,1])
    exact Gc 1 Z (Cl e [0,1])
   refine Gx 1 Z (TC.le d (Gc 7 Z (Cz [] a (k_by _ _ _ _ _ _) Z fun J E a=>Go 2 Z (Bd a fun l f a=>?_))))
   refine Ct l [0,1] [1,3,4,6,10,12] (fun l=>[(11,I l)]) (fun _=>[]) (fun _=>rfl) ?_ (fun env H d=>?_)
   ·refine G0 0 Z (Cn Z f (fun t f=>?_) (fun t f=>?_))
    ·exact Gc 5 Z (Cl f [0,1])
    exact Gc 1 Z (Cl f [0,1])
   refine Gx 1 Z ?_
   cases a
   exact QT (Le.trans d (Lr [0,1]))
  exact Gx 1 Z (TC.le d (Gc 5 Z (Qi b (Lr [0,1]))))
 refine Gx 1 Z (TC.le d (Gc 9 Z ?_))
 obtain rfl:=Oi h
 exact R2 8 9 Z Z (Lr [])
def F_fv(n:Nat)(l:Field)(m:Int)(e:Rank×Int)(c:List Outcome)(a:Rank×Int):Option (Ctl (Rank×Int) Rank):=
  ((bif decide (a.2<(c.length:Int))then(F_bw n l e.2).bind fun f=>some f else some false):Option Bool).bind fun g=>(bif g then((idx c a.2).bind fun h=>(bif h.Out then some ({a.1 with Out:=true:Rank})else(idx c a.2).bind fun i=>(F_cj n l e.2 i m).bind fun b=>((bif (a.1.Lo==0)then some true else some (decide (b.1<a.1.Lo))):Option Bool).bind fun j=>((bif j then some ({a.1 with Lo:=b.1:Rank})else some a.1):Option Rank).bind fun d=>some ({d with Hi:=(if d.Hi<b.2 then b.2 else d.Hi):Rank})):Option Rank).bind fun k=>some (.cont (k,IntKind.i64.wrap (a.2+1)))else some (.done a.1))
def F_ip(n:Nat)(b:Field)(f:Int)(a:Rank×Int):Option (Ctl (Rank×Int) Rank):=
  (bif decide (a.2<=(b.Pairs.length:Int))then(idx b.Runners f).bind fun c=>(idx c.Worlds a.2).bind fun d=>(iter (F_fv n b f a d) n (a.1,0):Option Rank).bind fun e=>some (.cont (e,IntKind.i64.wrap (a.2+1)))else some (.done a.1))
def F_an(n:Nat)(b:Field)(c:Int):Option (Rank×Int):=
  (F_ct n b c).bind fun f=>(bif (f != 0)then some (z_Rank,f)else(idx b.Runners c).bind fun g=>(iter (F_ip n b c) n ({z_Rank with Bib:=g.Bib:Rank},0):Option Rank).bind fun a=>((bif (a.Lo==0)then some ({a with Kind:=3:Rank})else((bif (a.Lo==a.Hi)then some (!a.Out)else some false):Option Bool).bind fun d=>(bif d then some ({a with Kind:=1:Rank})else some ({a with Kind:=2:Rank}))):Option Rank).bind fun e=>some (e,0))
theorem k_an(n:Nat)(a1:Field)(a2:Int)(r:Rank×Int)(h:F_an n a1 a2=some r):
    C prog 67 [.agg (Field.c a1),I a2] [] (RQ (fun r=>.tup [.agg (Rank.c r.1),I r.2]) (fun r=>[.cells 78 (Rank.c r.1)]) r):=by
 refine Qa func67 Z Z Z ?_
 refine G0 11 Z (Cz [] h (k_ct _ _ _) Z fun r1 am h=>Go 10 Z (Cn Z h (fun ad h=>?_) (fun ad h=>?_)))
 ·refine Gc 10 Z ?_
  obtain rfl:=Oi h
  exact Rx [1] [4,5] Z (QC Z Z (Qgc.cons (Qs isAgg78 sizeOf78 Z Z Z) (Qgc.cons Qcc.tmp Qgc.nil))) ⟨Z,Z⟩
 refine Gc 7 Z (Bd h fun x3 ae h=>Iz ae Z (Go 13 Z (Bd h fun t ab h=>?_)))
 refine Ct t [1,2] [4,7] (fun _=>[]) (fun t=>[(1,.cells 78 (Rank.c t))]) (fun _=>rfl) ?_ (fun env H d=>?_)
 ·refine G0 1 Z ?_
  refine Lp [0,1,2] [1,2,4,7] (fun m=>[(8,I m.2)]) (fun m=>[(2,.cells 78 (Rank.c m.1))]) ab (fun _=>rfl) (Lr [0,1,2]) fun m ag b F=>?_
  refine G0 6 Z (Lm Z (Go 3 Z (Yc Z b (fun G b=>?_) (fun G b=>?_))))
  ·refine Gc 2 Z (Qj b ?_)
   obtain rfl:=Oj F b
   exact Gx 1 Z (QT (Lr [1,2]))
  refine Gc 9 Z (Bd b fun ah J b=>Iz J Z (Go 3 Z (Bd b fun ai L b=>Iz L Z (Go 9 Z (Bd b fun u ac b=>?_)))))
  refine Ct u [0,1,2] [1,2,4,7,8] (fun _=>[]) (fun u=>[(2,.cells 78 (Rank.c u))]) (fun _=>rfl) ?_ (fun env H d=>?_)
  ·refine G0 1 Z ?_
   refine Lp [0,1,2] [1,2,4,7,8,9] (fun p=>[(10,I p.2)]) (fun p=>[(2,.cells 78 (Rank.c p.1))]) ac (fun _=>rfl) (Lr [0,1,2]) fun p aj f M=>?_
   refine G0 2 Z (Bd f fun w g f=>?_)
   refine Ct w [0,1,2] [1,2,4,7,8,9,10] (fun w=>[(51,.bool w)]) (fun _=>[]) (fun _=>rfl) ?_ (fun env H d=>?_)
   ·refine G0 3 Z (Lm Z (Go 2 Z (Is 47 g Z (fun N g=>?_) (fun N g=>?_))))
    ·exact Go 2 Z (Cz [] g (k_bw _ _ _) Z fun ak af g=>Go 2 Z (Cl g [0,1,2]))
    ·exact Go 5 Z (Cl g [0,1,2])
   refine Gx 1 Z (TC.le d (Yc Z f (fun O f=>?_) (fun O f=>?_)))
   ·refine Gc 2 Z (Qj f ?_)
    obtain rfl:=Oj M f
    exact Gx 1 Z (QT (Lr [0,1,2]))
   refine Gc 3 Z (Bd f fun y a f=>?_)
   refine Ct y [0,1,2] [1,2,4,7,8,9,10] (fun _=>[]) (fun y=>[(2,.cells 78 (Rank.c y))]) (fun _=>rfl) ?_ (fun env H d=>?_)
   ·refine G0 6 Z (Bd a fun al P a=>Iz P Z (Go 4 Z (Cn Z a (fun Q a=>?_) (fun Q a=>?_))))
    ·exact Gc 9 Z (Cl a [0,1,2])
    refine Gc 3 Z (DSs 12 Z (D 4 Z ?_))
    obtain⟨q,R,a⟩:=Yy a
    refine DS.wo (x:=.rp [.bool q.Out,I q.Seg,I q.Lo,I q.Hi]) ?_ ?_
    ·exact Ix R runUnderlying88 sizeOf146 Z Wp
    refine D 2 Z ?_
    obtain⟨s,T,a⟩:=Yy a
    refine DS.wo (x:=.tup [I s.1,I s.2]) ?_ ?_
    ·refine Qu [] (OpC.fn call104 Z Z Z) (k_cj _ _ _ _ _ _ T) ?_
     rintro _ _ ⟨rfl,rfl⟩
     exact FE Z Wp
    refine D 4 Z (DS.done Z (Go 5 Z (Bd a fun z i a=>?_)))
    refine Ct z [0,1,2] [1,2,4,7,8,9,10,11,12] (fun z=>[(79,.bool z)]) (fun _=>[]) (fun _=>rfl) ?_ (fun env H d=>?_)
    ·refine G0 5 Z (Is 74 i Z (fun V i=>?_) (fun V i=>?_))
     ·exact Go 6 Z (Cl i [0,1,2])
     ·exact Go 6 Z (Cl i [0,1,2])
    refine Gx 1 Z (TC.le d (Bd a fun j k a=>?_))
    refine Ct j [0,1,2] [1,2,4,7,8,9,10,12] (fun _=>[]) (fun j=>[(2,.cells 78 (Rank.c j))]) (fun _=>rfl) ?_ (fun env H d=>?_)
    ·refine G0 0 Z (Cn Z k (fun W k=>?_) (fun W k=>?_))
     ·exact Gc 5 Z (Cl k [0,1,2])
     exact Gc 1 Z (Cl k [0,1,2])
    refine Gx 1 Z (TC.le d (Gc 4 Z ?_))
    refine vX (I (if j.Hi<s.2 then s.2 else j.Hi)) (OpV.max Z Z Z Z) ?_
    exact Go 4 Z (Cl a [0,1,2])
   exact Gx 1 Z (TC.le d (Gc 5 Z (Qi f (Lr [0,1,2]))))
  exact Gx 2 Z (TC.le d (Gc 5 Z (Qi b (Lr [0,1,2]))))
 refine Gx 1 Z (TC.le d (Gc 10 Z (Bd h fun B e h=>?_)))
 refine Ct B [0,1] [4,7] (fun _=>[]) (fun B=>[(1,.cells 78 (Rank.c B))]) (fun _=>rfl) ?_ (fun env H d=>?_)
 ·refine G0 0 Z (Cn Z e (fun X e=>?_) (fun X e=>?_))
  ·exact Gc 4 Z (Cl e [0,1])
  refine Gc 1 Z (Bd e fun E l e=>?_)
  refine Ct E [0,1] [4,7] (fun E=>[(93,.bool E)]) (fun _=>[]) (fun _=>rfl) ?_ (fun env H d=>?_)
  ·refine G0 7 Z (Is 99 l Z (fun Y l=>?_) (fun Y l=>?_))
   ·exact Go 6 Z (Cl l [0,1])
   ·exact Go 6 Z (Cl l [0,1])
  refine Gx 1 Z (TC.le d (Cn Z e (fun aa e=>?_) (fun aa e=>?_)))
  ·exact Gc 4 Z (Cl e [0,1])
  exact Gc 4 Z (Cl e [0,1])
 refine Gx 2 Z (TC.le d (Gc 8 Z ?_))
 obtain rfl:=Oi h
 exact Rx [0] [4,5] Z (QC Z Z (Qgc.cons (Qs isAgg78 sizeOf78 Z Z Z) (Qgc.cons Qcc.tmp Qgc.nil))) ⟨Z,Z⟩
def F_bq(n:Nat)(c:Field)(d:Int)(b:Int):Option Bool:=
  (F_an n c d).bind fun a=>((bif (a.1.Kind != 3)then(bif decide (a.1.Lo<=b)then some (decide (b<=a.1.Hi))else some false)else some false):Option Bool).bind fun e=>some e
theorem k_bq(n:Nat)(d:Field)(e:Int)(f:Int)(r:Bool)(h:F_bq n d e f=some r):
    Csm prog 36 [.agg (Field.c d),I e,I f] [] (fun r=>.bool r) r:=by
 refine Qa func36 Z Z Z ?_
 refine G0 10 Z (Cd [] h (k_an _ _ _) Z fun l k h=>FE Z (Go 9 Z (Bd h fun b a h=>?_)))
 refine Ct b [] [] (fun b=>[(6,.bool b)]) (fun _=>[]) (fun _=>rfl) ?_ (fun env H g=>?_)
 ·refine G0 5 Z (Is 18 a Z (fun i a=>?_) (fun i a=>?_))
  ·refine Go 6 Z (Is 24 a Z (fun j a=>?_) (fun j a=>?_))
   ·exact Go 7 Z (Cl a [])
   ·exact Go 7 Z (Cl a [])
  ·exact Go 13 Z (Cl a [])
 exact Gx 1 Z (TC.le g (Gc 1 Z (Rt h 6 [])))
def F_ic(n:Nat)(b:Field)(g:Int)(a:(List Int)×Int):Option (Ctl ((List Int)×Int) (List Int)):=
  (bif decide (a.2<(b.Runners.length:Int))then(F_bq n b a.2 g).bind fun c=>((bif c then(idx b.Runners a.2).bind fun d=>(app a.1 [d.Bib]).bind fun e=>some e else some a.1):Option (List Int)).bind fun f=>some (.cont (f,IntKind.i64.wrap (a.2+1)))else some (.done a.1))
def F_bf(n:Nat)(a:Field)(b:Int):Option ((List Int)×Int):=
  (F_m n a).bind fun d=>(bif (d != 0)then some ([],240)else(bif decide (b<1)then some ([],310)else(iter (F_ic n a b) n (([]:List Int),0):Option (List Int)).bind fun c=>some (c,0)))
theorem k_bf(n:Nat)(w:Field)(x:Int)(r:(List Int)×Int)(h:F_bf n w x=some r):
    C prog 13 [.agg (Field.c w),I x] [] (RQ (fun r=>.tup [.osl 0 0 r.1.length 1,I r.2]) (fun r=>[.row 3 1 (List.map (Qd .i64) r.1)]) r):=by
 refine Qa func13 Z Z Z ?_
 refine G0 11 Z (Cz [] h (k_m _ _) Z fun N G h=>Go 3 Z (Cn Z h (fun y h=>?_) (fun y h=>?_)))
 ·refine Gc 8 Z ?_
  obtain rfl:=Oi h
  refine R2 4 5 Z Z ?_
  refine Le.trans (Le.phantom (s:=4) (k:=1) (t:=3) (Nat.le_of_ble_eq_true Z) Z) ?_
  exact Lr [1]
 refine Gc 9 Z (Cn Z h (fun z h=>?_) (fun z h=>?_))
 ·refine Gc 8 Z ?_
  obtain rfl:=Oi h
  refine R2 4 5 Z Z ?_
  refine Le.trans (Le.phantom (s:=4) (k:=1) (t:=3) (Nat.le_of_ble_eq_true Z) Z) ?_
  exact Lr [1]
 refine Gc 4 Z ?_
 refine vH (OpH.lit (xs:=[]) (es:=List.map (Qd .i64) []) Qw Z Z Z Z Z trivial Z Z) ?_
 refine FE Z (Go 9 Z (Bd h fun d B h=>?_))
 refine Ct d [1] [] (fun d=>[(6,.osl 0 0 d.length 1)]) (fun d=>[(0,.row 3 1 (List.map (Qd .i64) d))]) (fun _=>rfl) ?_ (fun env H j=>?_)
 ·refine G0 1 Z ?_
  refine Lp [0,1] [1,2] (fun f=>[(6,.osl 1 0 f.1.length 1),(7,I f.2)]) (fun f=>[(1,.row 3 1 (List.map (Qd .i64) f.1))]) B (fun _=>rfl) (Lr [0,1]) fun f J a l=>?_
  refine G0 6 Z (Lm Z (Go 3 Z (Yc Z a (fun m a=>?_) (fun m a=>?_))))
  ·refine Gc 2 Z (Qj a ?_)
   obtain rfl:=Oj l a
   exact Gx 1 Z (QT (Lr [1]))
  refine Gc 9 Z (Cz [] a (k_bq _ _ _ _) Z fun L F a=>Go 2 Z (Bd a fun g b a=>?_))
  refine Ct g [0,0] [1,2,7] (fun g=>[(6,.osl 1 0 g.length 1)]) (fun g=>[(1,.row 3 1 (List.map (Qd .i64) g))]) (fun _=>rfl) ?_ (fun env H j=>?_)
  ·refine G0 0 Z (Cn Z b (fun p b=>?_) (fun p b=>?_))
   ·refine Gc 5 Z (Bd b fun E q b=>Iz q Z (Go 2 Z ?_))
    refine vH (OpH.lit (xs:=[.tmp 31]) (es:=List.map (Qd .i64) [E.Bib]) Qw Z Z Z Z Z ⟨Z,trivial⟩ Z Z) ?_
    refine FE Z (Bd b fun M u b=>?_)
    refine vH (QO (e:=(Qd .i64)) u Qw runUnderlying32 (Yw (i:=2))) ?_
    exact FE Z (Go 2 Z (Cl b [0,3]))
   exact Gc 1 Z (Cl b [0,1])
  exact Gx 2 Z (TC.le j (Gc 5 Z (Qi a (Lr [0,1]))))
 refine Gx 1 Z (TC.le j (Gc 8 Z ?_))
 obtain rfl:=Oi h
 exact R2 4 5 Z Z (Lr [0])
def F_iq(n:Nat)(f:Field)(b:Int)(a:Int):Option (Ctl Int (Ctl Unit Bool)):=
  (bif decide (a<(([b,Q7 .i64 b 7].length):Int))then(idx [b,Q7 .i64 b 7] a).bind fun c=>(F_h n f c).bind fun d=>(F_bf n f c).bind fun e=>((F_u n d.1 e.1).bind fun g=>(bif (!g)then some true else some (d.2 != e.2)):Option Bool).bind fun h=>(bif h then some (.done (.done false))else some (.cont (IntKind.i64.wrap (a+1))))else some (.done (.cont ())))
def F_cx(n:Nat)(b:Field)(d:Int):Option Bool:=
  (F_dn 300).bind fun e=>(bif (!e)then some false else(F_bh n b).bind fun f=>(bif (!f)then some true else(iter (F_iq n b d) n 0:Option (Ctl Unit Bool)).bind fun c=>match c with|.cont a=>(some true)|.done a=>some a))
theorem k_cx(n:Nat)(q:Field)(e:Int)(r:Bool)(h:F_cx n q e=some r):
    Csm prog 3 [.agg (Field.c q),I e] [] (fun r=>.bool r) r:=by
 refine Qa func3 Z Z Z ?_
 refine G0 9 Z (Cz [] h (k_dn _) Z fun P G h=>Go 3 Z (Cn Z h (fun s h=>?_) (fun s h=>?_)))
 ·exact Gc 7 Z (Rt h 4 [])
 refine Gc 6 Z (Cz [] h (k_bh _ _) Z fun Q J h=>Go 3 Z (Cn Z h (fun t h=>?_) (fun t h=>?_)))
 ·exact Gc 7 Z (Rt h 4 [])
 refine Gc 7 Z ?_
 refine vX (I (Q7 .i64 e 7)) (OpV.and Z Z Z) ?_
 refine vH (OpH.lit (xs:=[.tmp 16,.tmp 18]) (es:=List.map (Qd .i64) [e,Q7 .i64 e 7]) Qw Z Z Z Z Z ⟨Z,Z,trivial⟩ Z Z) ?_
 refine FE Z (Go 4 Z (Bd h fun u w h=>?_))
 refine YS (b:=u) [] [] (fun _=>[]) (fun _=>[]) (fun _=>rfl) ?_ (fun z env H x f=>?_)
 ·refine G0 1 Z ?_
  refine Lp [0,1] [2,19,20] (fun g=>[(21,I g)]) (fun _=>[]) w (fun _=>rfl) (Lr [0,1]) fun g L a i=>?_
  refine G0 6 Z (Yc Z a (fun l a=>?_) (fun l a=>?_))
  ·refine Gc 2 Z (Qj a ?_)
   obtain rfl:=Oj i a
   exact Gx 1 Z (Qm Z (Lr []))
  refine Gc 6 Z (Bd a fun y j a=>?_)
  refine vX (.ptr 1 (Int.toNat g*1)) (Yp j Z runUnderlying32 sizeOf3) ?_
  refine vX (I y) (OpV.load Z isAgg3 Z (QJ j)) ?_
  refine Go 7 Z (Cd [] a (k_h _ _ _) Z fun M B a=>FE Z (Go 11 Z (Cd [] a (k_bf _ _ _) Z fun N E a=>FE Z (Go 8 Z (Bd a fun k d a=>?_)))))
  refine Ct k [0,1] [2,19,20,21] (fun k=>[(45,.bool k)]) (fun _=>[]) (fun _=>rfl) ?_ (fun env H f=>?_)
  ·refine G0 3 Z (Cb d (k_u _ _ _) Z (lo (lo ln)) fun O F d=>Go 2 Z (Is 41 d Z (fun m d=>?_) (fun m d=>?_)))
   ·exact Go 5 Z (Cl d [0,1])
   ·exact Go 5 Z (Cl d [0,1])
  refine Gx 1 Z (TC.le f (Cn Z a (fun p a=>?_) (fun p a=>?_)))
  ·refine Gc 8 Z (Ql a ?_)
   obtain rfl:=Oj i a
   exact Gx 1 Z (Qk (Gx 1 Z (Rt h 4 [])))
  exact Gc 7 Z (Qi a (Lr [0,1]))
 subst x
 exact Gx 1 Z (TC.le f (Gc 6 Z (Rt h 4 [])))
end Go.Sw
