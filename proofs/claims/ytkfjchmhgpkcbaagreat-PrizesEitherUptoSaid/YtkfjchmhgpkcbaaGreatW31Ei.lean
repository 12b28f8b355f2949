/- What the functions compute that PrizesEither reaches, and that their calls refine it (part 3 of 3). -/
import Derived.Test.YtkfjchmhgpkcbaaGreatW31Ei2
set_option linter.unusedVariables false
set_option linter.unusedSimpArgs false
set_option maxRecDepth 100000
set_option maxHeartbeats 4000000
namespace Go.Sw
open Go.Proofs Tryz
def F_ky(n:Nat)(c:List Int)(a:Int×Int):Option (Ctl (Int×Int) (Ctl Int ((List Int)×Int))):=
  (bif decide (a.2<(c.length:Int))then(idx c a.2).bind fun b=>((bif decide (b<0)then some true else some (decide (1000<b))):Option Bool).bind fun d=>(bif d then some (.done (.done ([],1)))else some (.cont (IntKind.i64.wrap (a.1+b),IntKind.i64.wrap (a.2+1))))else some (.done (.cont a.1)))
def F_kn(n:Nat)(a:Int×(List money_part))(b:money_part):Option (Ctl (Int×(List money_part)) ((List Int)×Int)):=
  (app a.2 [b]).bind fun c=>some (.cont (IntKind.i64.wrap (a.1-b.cents),c))
def F_jy(n:Nat)(d:Int)(g:Int×(List money_part))(e:List money_part)(a:(List Int)×Int):Option (Ctl ((List Int)×Int) (List Int)):=
  (bif decide (a.2<(e.length:Int))then(idx e a.2).bind fun b=>(Qct 256 a.1 b.index).bind fun k=>(Qfx a.1 b.index (IntKind.i64.wrap (d*b.cents))).bind fun c=>((bif decide (a.2<g.1)then(Qct 256 c b.index).bind fun h=>(Qct 256 c b.index).bind fun j=>(Qfx c b.index (IntKind.i64.wrap (h+d))).bind fun f=>some f else some c):Option (List Int)).bind fun i=>some (.cont (i,IntKind.i64.wrap (a.2+1)))else some (.done a.1))
def F_gw(n:Nat)(d:Int)(e:List Int):Option ((List Int)×Int):=
  (F_ah n d).bind fun l=>(bif (l != 0)then some ([],300)else(bif decide (256<(e.length:Int))then some ([],1)else(iter (F_ky n e) n (0,0):Option (Ctl Int ((List Int)×Int))).bind fun i=>match i with|.cont a=>(bif (a==0)then some ([],1)else((bif decide (d<0)then some (-1)else some 1):Option Int).bind fun b=>(F_ho n (IntKind.i64.wrap (b*d)) e a).bind fun p=>(F_ic n e (IntKind.i64.wrap (b*d)) a).bind fun y38=>(Qbz (F_kn n) y38.1 (IntKind.i64.wrap (b*d),[]):Option (Ctl (Int×(List money_part)) ((List Int)×Int))).bind fun j=>match j with|.cont c=>((Qf8 (fun x y=>F_im n x y) c.2).bind fun k=>(iter (F_jy n b c k) n (List.replicate 256 0,0):Option (List Int)).bind fun f=>(arr 256 f).bind fun m=>(slc f 0 (e.length:Int)).bind fun g=>(F_hp n g).bind fun h=>some (h,0))|.done c=>some c)|.done a=>some a))
theorem k_gw(n:Nat)(a1:Int)(a2:List Int)(r:(List Int)×Int)(h:F_gw n a1 a2=some r):
    C prog 48 [I a1,.rsl 1 (List.map (Qe .i64) a2)] [] (RQ (fun r=>.tup [.osl 0 0 r.1.length 1,I r.2]) (fun r=>[.row 3 1 (List.map (Qe .i64) r.1)]) r):=by
 refine Qb func48 Z Z Z ?_
 refine G0 10 Z (Cz [] h (k_ah _ _) Z fun r1 bh h=>Go 3 Z (Cn Z h (fun an h=>?_) (fun an h=>?_)))
 ·refine Gc 8 Z ?_
  obtain rfl:=Oi h
  refine R2 4 5 Z Z ?_
  refine Le.trans (Le.phantom (s:=4) (k:=1) (t:=3) (Nat.le_of_ble_eq_true Z) Z) ?_
  exact Lr [0]
 refine Gc 6 Z (Lm Z (Go 3 Z (Cn Z h (fun ao h=>?_) (fun ao h=>?_))))
 ·refine Gc 8 Z ?_
  obtain rfl:=Oi h
  refine R2 4 5 Z Z ?_
  refine Le.trans (Le.phantom (s:=4) (k:=1) (t:=3) (Nat.le_of_ble_eq_true Z) Z) ?_
  exact Lr [0]
 refine Gc 11 Z (Lm Z (Go 3 Z (Bd h fun aq ar h=>?_)))
 refine CtE (b:=aq) [] [0,1] (fun J=>[(6,I J)]) (fun _=>[]) (fun _=>rfl) ?_ (fun J env H au j=>?_)
 ·refine G0 1 Z ?_
  refine Lp [] [0,1,22,23] (fun L=>[(6,I L.1),(24,I L.2)]) (fun _=>[]) ar (fun _=>rfl) (Lr []) fun L bi a M=>?_
  refine G0 6 Z (Yt Z a (fun ac a=>?_) (fun ac a=>?_))
  ·refine Gc 2 Z (Qj a ?_)
   obtain rfl:=Oj M a
   exact Gx 1 Z (Qu Z (Lr []))
  refine Gc 6 Z (Bd a fun bj ad a=>Iz ad Z (Go 6 Z (Bd a fun N q a=>?_)))
  refine Ct N [] [0,1,6,8,22,23,24] (fun N=>[(33,.bool N)]) (fun _=>[]) (fun _=>rfl) ?_ (fun env H j=>?_)
  ·refine G0 4 Z (Is 30 q Z (fun ae q=>?_) (fun ae q=>?_))
   ·exact Go 4 Z (Cl q [])
   ·exact Go 4 Z (Cl q [])
  refine Gx 1 Z (TC.le j (Cn Z a (fun af a=>?_) (fun af a=>?_)))
  ·refine Gc 10 Z (Qv a ?_)
   obtain rfl:=Oj M a
   refine Gx 1 Z (Qs (Gx 1 Z ?_))
   obtain rfl:=Oi h
   refine R2 4 5 Z Z ?_
   refine Le.trans (Le.phantom (s:=4) (k:=1) (t:=3) (Nat.le_of_ble_eq_true Z) Z) ?_
   exact Lr [0]
  exact Gc 14 Z (Qi a (Lr []))
 subst au
 refine Gx 1 Z (TC.le j (Gc 7 Z (Cn Z h (fun ag h=>?_) (fun ag h=>?_))))
 ·refine Gc 8 Z ?_
  obtain rfl:=Oi h
  refine R2 4 5 Z Z ?_
  refine Le.trans (Le.phantom (s:=4) (k:=1) (t:=3) (Nat.le_of_ble_eq_true Z) Z) ?_
  exact Lr [0]
 refine Gc 14 Z (Bd h fun O u h=>?_)
 refine Ct O [] [0,1,6] (fun O=>[(9,I O)]) (fun _=>[]) (fun _=>rfl) ?_ (fun env H j=>?_)
 ·refine G0 0 Z (Cn Z u (fun ah u=>?_) (fun ah u=>?_))
  ·exact Gc 3 Z (Cl u [])
  exact Gc 1 Z (Cl u [])
 refine Gx 1 Z (TC.le j (Gc 11 Z ?_))
 refine vH (Qbk (n:=256) (k:=1) (e:=(Qe .i64)) (z:=0) zeroValue161 (by kernel_rfl) (by kernel_rfl) (by kernel_rfl) Z) ?_
 refine FE Z (Go 13 Z (Cd [] h (k_ho _ _ _ _) Z fun bk ba h=>FE Z (Go 3 Z (Bd h fun y38 hy38 h=>Bd h fun bl av h=>?_))))
 refine Y4 [3,4,5] (fun B=>[.cells 3 [I B.1],.row 161 1 (List.map (Qe .i64) (List.replicate 256 0)),.cells 162 [.osl 6 0 B.2.length 3],.dead,.dead,.dead,.row 167 3 (List.map money_part.c B.2)]) av (k_ic _ _ _ _ _ hy38) (fun _=>rfl) call126 Z Z Z Z (by decide) Z ?_ ?_ ?_
 ·refine Le.trans (Q5 (i:=2) (m:=0) (t:=167) (k:=3) Z Z Z) ?_
  exact Lr [0,1,2,3,4,5,6]
 ·intro B aw bm P bb
  refine G0 4 Z (And.intro Z ?_)
  refine G0 5 Z ?_
  refine vH (OpH.lit (xs:=[.tmp 51]) (es:=List.map money_part.c [aw]) QkU Z Z Z Z Z ⟨Z,trivial⟩ Z Z) ?_
  refine FE Z (Bd P fun bn ai P=>?_)
  refine vH (QU (e:=money_part.c) ai QkU runUnderlying162 (YJ (i:=8))) ?_
  exact FE Z (Go 11 Z (QaL P (Lr [0,1,2,3,4,5,9])))
 rintro bo rfl
 refine Gx 5 Z (Bd h fun bp w h=>?_)
 refine Qt [6] (OpC.fn call77 Z Z Z) (Qmo (enc:=money_part.c) QfH w (fun x y c h=>k_im n x y c h) isAgg167 sizeOf167 call78 (fun _=>rfl) Z) ?_
 rintro _ _ ⟨rfl,rfl⟩
 refine FE Z ?_
 refine WO.le (QW (s:=58) Z (congrArg (fun n=>A.osl 6 0 n 3) (QeS w))) ?_
 refine WO.le (Qnv (i:=2) Z (congrArg (fun nz=>Blk.cells 162 [.osl 6 0 nz 3]) (QeS w))) ?_
 refine Go 10 Z (Bd h fun E ax h=>?_)
 refine Ct E [1] [1,11] (fun _=>[]) (fun E=>[(0,.row 161 1 (List.map (Qe .i64) E))]) (fun _=>rfl) ?_ (fun env H j=>?_)
 ·refine G0 1 Z ?_
  refine Lp [0,1,6] [1,9,10,11,60,61] (fun p=>[(62,I p.2)]) (fun p=>[(1,.row 161 1 (List.map (Qe .i64) p.1))]) ax (fun _=>rfl) (Lr [0,1,6]) fun p bq d aj=>?_
  refine G0 6 Z (Yt Z d (fun ak d=>?_) (fun ak d=>?_))
  ·refine Gc 2 Z (Qj d ?_)
   obtain rfl:=Oj aj d
   exact Gx 1 Z (Q1 (Lr [1]))
  refine Gc 7 Z (Bd d fun F Q d=>?_)
  refine vX (.ptr 2 (Int.toNat p.2*3)) (Yv Q Z runUnderlying162 sizeOf167) ?_
  refine vX (.agg (money_part.c F)) (QF Z isAgg167 sizeOf167 Z (QL Q) Z Z) ?_
  refine Go 13 Z (Bd d fun br R d=>?_)
  refine vX (.ptr 1 (Int.toNat F.index*1)) (YO (n:=256) (k:=1) (l:=p.1) R runUnderlying161 sizeOf3 Z) ?_
  refine Bd d fun ab al d=>?_
  refine vU (QaJ (e:=(Qe .i64)) (k:=1) (f:=0) (Qai R).2 al sizeOf3 Z Z) ?_
  refine FE Z (Go 9 Z (Bd d fun T g d=>?_))
  refine Ct T [0,1,2] [1,9,10,11,60,61,62] (fun _=>[]) (fun T=>[(1,.row 161 1 (List.map (Qe .i64) T))]) (fun _=>rfl) ?_ (fun env H j=>?_)
  ·refine G0 0 Z (Cn Z g (fun am g=>?_) (fun am g=>?_))
   ·refine Gc 3 Z (Bd g fun ay V g=>?_)
    refine vX (.ptr 1 (Int.toNat F.index*1)) (YO (n:=256) (k:=1) (l:=ab) V runUnderlying161 sizeOf3 Z) ?_
    refine vX (I ay) (OpV.load Z isAgg3 Z (QL (Qai V).2)) ?_
    refine Go 2 Z (Bd g fun bc G g=>?_)
    refine vX (.ptr 1 (Int.toNat F.index*1)) (YO (n:=256) (k:=1) (l:=ab) G runUnderlying161 sizeOf3 Z) ?_
    refine Bd g fun bd X g=>?_
    refine vU (QaJ (e:=(Qe .i64)) (k:=1) (f:=0) (Qai G).2 X sizeOf3 Z Z) ?_
    exact FE Z (Go 1 Z (Cl g [0,1,2]))
   exact Gc 1 Z (Cl g [0,1,2])
  exact Gx 2 Z (TC.le j (Gc 4 Z (Qi d (Lr [0,1,2]))))
 refine Gx 1 Z (TC.le j (Gc 3 Z (Lm Z (Bd h fun be Y h=>?_))))
 obtain⟨W,rfl⟩:=QbH Y
 refine Bd h fun bf aa h=>?_
 refine vH (Qlm (e:=(Qe .i64)) (l:=E) aa W (fun _=>rfl) runUnderlying161 sizeOf3) ?_
 refine FE Z (Cd [] h (k_hp _ _) Z fun bg az h=>FE Z (Go 5 Z ?_))
 obtain rfl:=Oi h
 exact R2 4 5 Z Z (Lr [1])
def F_jl(n:Nat)(d:Field)(i:History)(a:(List (Int×Option (List Int)))×Int):Option (Ctl ((List (Int×Option (List Int)))×Int) (Ctl (List (Int×Option (List Int))) ((List Payment)×Int))):=
  (bif decide (a.2<(d.Runners.length:Int))then(idx d.Runners a.2).bind fun e=>(F_id n d i a.2).bind fun b=>(bif (b.2 != 0)then some (.done (.done ([],b.2)))else((bif decide (0<b.1)then(Qkh a.1 b.1).bind fun c=>(app c.1 [e.Bib]).bind fun f=>(some (QQ c.2 b.1 (some f))).bind fun g=>some g else some a.1):Option (List (Int×Option (List Int)))).bind fun h=>some (.cont (h,IntKind.i64.wrap (a.2+1))))else some (.done (.cont a.1)))
def F_ks(n:Nat)(e:List (Int×Int))(b:Int×(List Int))(a:(List Int)×Int):Option (Ctl ((List Int)×Int) (List Int)):=
  (bif decide (a.2<(b.2.length:Int))then(some (QG e (IntKind.i64.wrap (b.1+a.2)) 0)).bind fun c=>(app a.1 [c]).bind fun d=>some (.cont (d,IntKind.i64.wrap (a.2+1)))else some (.done a.1))
def F_jv(n:Nat)(g:Int×(List Int))(b:(List Int)×Int)(a:(List (Int×Int))×Int):Option (Ctl ((List (Int×Int))×Int) (List (Int×Int))):=
  (bif decide (a.2<(b.1.length:Int))then(idx b.1 a.2).bind fun c=>((bif decide (0<c)then(idx g.2 a.2).bind fun d=>(some (QQ a.1 d c)).bind fun e=>some e else some a.1):Option (List (Int×Int))).bind fun f=>some (.cont (f,IntKind.i64.wrap (a.2+1)))else some (.done a.1))
def F_kc(n:Nat)(g:List (Int×Int))(h:List (Int×Int))(c:Int×(List Int)):Option (Ctl (List (Int×Int)) ((List Payment)×Int)):=
  (iter (F_ks n g c) n ([],0):Option (List Int)).bind fun d=>(F_hf n d).bind fun a=>(bif (a.2 != 0)then some (.done ([],a.2))else(F_hq n [1] (c.2.length:Int)).bind fun e=>(F_gw n a.1 e).bind fun b=>(bif (b.2 != 0)then some (.done ([],b.2))else(iter (F_jv n c b) n (h,0):Option (List (Int×Int))).bind fun f=>some (.cont f)))
def F_gz(n:Nat)(f:Course)(c:Field)(g:Int)(h:Int)(i:History):Option ((List Payment)×Int):=
  (F_al n f c g h).bind fun j=>(bif (j != 0)then some ([],j)else(F_hj n c i).bind fun k=>(bif (k != 0)then some ([],k)else(iter (F_jl n c i) n ([],0):Option (Ctl (List (Int×Option (List Int))) ((List Payment)×Int))).bind fun l=>match l with|.cont a=>((F_aa n f g h).bind fun m=>(F_he n a).bind fun q=>(QdX a).bind fun p=>(F_gt n p).bind fun y57=>(Qbz (F_kc n m) y57.1 []:Option (Ctl (List (Int×Int)) ((List Payment)×Int))).bind fun d=>match d with|.cont b=>((F_ap n b).bind fun e=>some (e,0))|.done b=>some b)|.done a=>some a))
theorem k_gz(n:Nat)(X:Course)(a2:Field)(a3:Int)(a4:Int)(a5:History)(r:(List Payment)×Int)(h:F_gz n X a2 a3 a4 a5=some r):
    C prog 22 [.agg (Course.c X),.agg (Field.c a2),I a3,I a4,.agg (History.c a5)] [] (RQ (fun r=>.tup [.osl 0 0 r.1.length 2,I r.2]) (fun r=>[.row 65 2 (List.map Payment.c r.1),.cells 51 [.osl 0 0 r.1.length 2],.cells 33 [I r.2]]) r):=by
 refine Qb func22 Z Z Z ?_
 refine G0 16 Z (Cz [] h (k_al _ _ _ _ _) Z fun r1 ca h=>Go 9 Z (Cn Z h (fun bb h=>?_) (fun bb h=>?_)))
 ·refine Gc 9 Z ?_
  obtain rfl:=Oi h
  refine⟨[(10,.ptr 1 0),(11,.ptr 2 0)],[.row 65 2 (List.map Payment.c (([],r1).1)),.cells 51 [.osl 0 0 ((([],r1).1).length) 2],.cells 33 [I (([],r1).2)]],_,?_,QD Z Z (QhI.cons (Qk isAgg51 Z Z) (QhI.cons (Qk isAgg33 Z Z) QhI.nil)),Z,Z⟩
  refine Le.trans (Q5 (i:=3) (m:=0) (t:=65) (k:=2) Z Z Z) ?_
  exact Lr [5,3,4]
 refine Gc 7 Z (Cz [] h (k_hj _ _ _) Z fun r3 cb h=>Go 9 Z (Cn Z h (fun bc h=>?_) (fun bc h=>?_)))
 ·refine Gc 9 Z ?_
  obtain rfl:=Oi h
  refine⟨[(10,.ptr 1 0),(11,.ptr 2 0)],[.row 65 2 (List.map Payment.c (([],r3).1)),.cells 51 [.osl 0 0 ((([],r3).1).length) 2],.cells 33 [I (([],r3).2)]],_,?_,QD Z Z (QhI.cons (Qk isAgg51 Z Z) (QhI.cons (Qk isAgg33 Z Z) QhI.nil)),Z,Z⟩
  refine Le.trans (Q5 (i:=3) (m:=0) (t:=65) (k:=2) Z Z Z) ?_
  exact Lr [5,3,4]
 refine Gc 4 Z ?_
 refine vH (QhM 3 1) ?_
 refine FE Z (Go 8 Z (Lm Z (Go 3 Z (Bd h fun bd be h=>?_))))
 refine CtE (b:=bd) [0,3,4,5] [2,3,5,10,11,14] (fun _=>[]) (fun O=>[(3,.mapO false 3 1 (QK (fun x=>A.int .i64 x) (Qe .i64) O))]) (fun _=>rfl) ?_ (fun O env H bf u=>?_)
 ·refine G0 1 Z ?_
  refine Lp [0,1,2,3,4,5] [2,3,5,6,9,10,11,14,46,47] (fun B=>[(48,I B.2)]) (fun B=>[(5,.mapO false 3 1 (QK (fun x=>A.int .i64 x) (Qe .i64) B.1))]) be (fun _=>rfl) (Lr [0,1,2,3,4,5]) fun B cc d P=>?_
  refine G0 6 Z (Yt Z d (fun an d=>?_) (fun an d=>?_))
  ·refine Gc 2 Z (Qj d ?_)
   obtain rfl:=Oj P d
   exact Gx 1 Z (Qu Z (Lr [0,3,4,5]))
  refine Gc 7 Z (Bd d fun bg ao d=>Iz ao Z (Go 11 Z (Cd [] d (k_id _ _ _ _) Z fun E bn d=>FE Z (Go 14 Z (Cn Z d (fun aq d=>?_) (fun aq d=>?_))))))
  ·refine Gc 11 Z (Qv d ?_)
   obtain rfl:=Oj P d
   refine Gx 1 Z (Qs (Gx 1 Z ?_))
   obtain rfl:=Oi h
   refine⟨[(10,.ptr 1 0),(11,.ptr 2 0)],[.row 65 2 (List.map Payment.c (([],E.2).1)),.cells 51 [.osl 0 0 ((([],E.2).1).length) 2],.cells 33 [I (([],E.2).2)]],_,?_,QD Z Z (QhI.cons (Qk isAgg51 Z Z) (QhI.cons (Qk isAgg33 Z Z) QhI.nil)),Z,Z⟩
   refine Le.trans (Q5 (i:=3) (m:=0) (t:=65) (k:=2) Z Z Z) ?_
   exact Lr [7,3,4]
  refine Gc 8 Z (Bd d fun Q q d=>?_)
  refine Ct Q [0,1,2,3,4,5] [2,3,5,6,9,10,11,14,46,47,48] (fun _=>[]) (fun Q=>[(5,.mapO false 3 1 (QK (fun x=>A.int .i64 x) (Qe .i64) Q))]) (fun _=>rfl) ?_ (fun env H u=>?_)
  ·refine G0 0 Z (Cn Z q (fun ar q=>?_) (fun ar q=>?_))
   ·refine Gc 5 Z (Bd q fun bh au q=>?_)
    refine vH (Qjv (ek:=(fun x=>A.int .i64 x)) (ev:=(Qe .i64)) (key:=E.1) (l:=B.1) (t:=3) (k:=1) QaE au underlying110 zeroValue32) ?_
    refine FE Z (Go 2 Z ?_)
    refine vH (OpH.lit (xs:=[.tmp 71]) (es:=List.map (Qe .i64) [bg.Bib]) Qz Z Z Z Z Z ⟨Z,trivial⟩ Z Z) ?_
    refine FE Z (Bd q fun bi av q=>?_)
    refine vH (QU (e:=(Qe .i64)) av Qz runUnderlying32 (YJ (i:=8))) ?_
    refine FE Z (Bd q fun cd aw q=>?_)
    refine vU (Qlk (ek:=(fun x=>A.int .i64 x)) (ev:=(Qe .i64)) (key:=E.1) (rows:=bi) (l:=bh.2) (j:=9) (t:=3) (k:=1) QaE aw underlying110) ?_
    exact FE Z (Go 1 Z (Cl q [0,1,2,3,4,5]))
   exact Gc 1 Z (Cl q [0,1,2,3,4,5])
  exact Gx 2 Z (TC.le u (Gc 4 Z (Qi d (Lr [0,1,2,3,4,5]))))
 subst bf
 refine Gx 1 Z (TC.le u (Gc 5 Z (Cd [] h (k_aa _ _ _ _) Z fun R bo h=>FE Z ?_)))
 refine vH Yi ?_
 refine FE Z (Go 10 Z (Cd [3] h (k_he _ _) Z fun ce bp h=>FE Z (Go 3 Z (Bd h fun al ax h=>?_))))
 refine TC.le (Qlp (i:=3) (H':=[.cells 49 (Course.c X),.cells 51 [.nils],.cells 33 [I 0],.fmap (Qm (fun x=>A.int .i64 x) (fun x=>A.rsl 1 (List.map (Qe .i64) x)) al),.map (Qm (fun x=>A.int .i64 x) (fun x=>A.int .i64 x) R),.map (Qm (fun x=>A.int .i64 x) (fun x=>A.int .i64 x) []),.cells 103 [.map 4],.cells 103 [.map 5],.cells 110 [.map 3]]) ax) ?_
 refine Bd h fun y57 hy57 h=>Bd h fun bq ay h=>?_
 refine Y4 [8,3] (fun am=>[.cells 49 (Course.c X),.cells 51 [.nils],.cells 33 [I 0],.fmap (Qm (fun x=>A.int .i64 x) (fun x=>A.rsl 1 (List.map (Qe .i64) x)) al),.map (Qm (fun x=>A.int .i64 x) (fun x=>A.int .i64 x) R),.map (Qm (fun x=>A.int .i64 x) (fun x=>A.int .i64 x) am),.cells 103 [.map 4],.cells 103 [.map 5],.dead]) ay (k_gt _ _ _ hy57) (fun _=>rfl) call73 Z Z Z Z (by decide) Z (Lr [0,1,2,3,4,5,6,7,8]) ?_ ?_
 ·intro am bj br a M
  refine G0 8 Z (And.intro Z ?_)
  refine G0 10 Z (Lm Z (Go 3 Z (Bd a fun z az a=>?_)))
  refine Ct z [0,1,2,3,4,5,6,7,8,0] [10,11,20,22] (fun z=>[(23,.osl 9 0 z.length 1)]) (fun z=>[(9,.row 3 1 (List.map (Qe .i64) z))]) (fun _=>rfl) ?_ (fun env H u=>?_)
  ·refine G0 1 Z ?_
   refine Lp [0,1,2,3,4,5,6,7,8,0] [10,11,19,20,21,22,85] (fun w=>[(23,.osl 9 0 w.1.length 1),(86,I w.2)]) (fun w=>[(9,.row 3 1 (List.map (Qe .i64) w.1))]) az (fun _=>rfl) ?_ ?_
   ·refine Le.trans (Le.phantom (s:=23) (k:=1) (t:=3) (Nat.le_of_ble_eq_true Z) Z) ?_
    exact Lr [0,1,2,3,4,5,6,7,8,9]
   intro w bs f Y
   refine G0 6 Z (Yt Z f (fun aa f=>?_) (fun aa f=>?_))
   ·refine Gc 2 Z (Qj f ?_)
    obtain rfl:=Oj Y f
    exact Gx 1 Z (Q1 (Lr [0,1,2,3,4,5,6,7,8,9]))
   refine Gc 16 Z (Bd f fun T ab f=>?_)
   refine vX (I T) (Yy (ev:=(fun x=>A.int .i64 x)) (z0:=0) (k:=(IntKind.i64.wrap (bj.1+w.2))) (l:=R) QaE ab underlying103 zeroValue3 ZR.int) ?_
   refine vH (OpH.lit (xs:=[.tmp 94]) (es:=List.map (Qe .i64) [T]) Qz Z Z Z Z Z ⟨Z,trivial⟩ Z Z) ?_
   refine FE Z (Bd f fun bt ac f=>?_)
   refine vH (QU (e:=(Qe .i64)) ac Qz runUnderlying32 (YJ (i:=10))) ?_
   exact FE Z (Go 8 Z (Qi f (Lr [0,1,2,3,4,5,6,7,8,11])))
  refine Gx 1 Z (TC.le u (Gc 3 Z (Bd a fun F ad a=>?_)))
  refine Qet (OpC.fn call30 rfl rfl rfl) (Qba.cons rfl (.inr ⟨_,_,_,_,_,rfl,rfl,List.length_map ..,rfl⟩) Qba.nil) (k_hf _ _ _ ad) (by rintro _ _ ⟨rfl,rfl⟩;rfl) ?_
  rintro _ _ ⟨rfl,rfl⟩
  refine FE Z (Go 14 Z (Cn Z a (fun ae a=>?_) (fun ae a=>?_)))
  ·refine Gc 10 Z (Qh4 a (Lw trivial) ?_)
   obtain rfl:=Ojr M a
   refine Gx 2 Z ?_
   obtain rfl:=Oi h
   refine⟨[(10,.ptr 1 0),(11,.ptr 2 0)],[.row 65 2 (List.map Payment.c (([],F.2).1)),.cells 51 [.osl 0 0 ((([],F.2).1).length) 2],.cells 33 [I (([],F.2).2)]],_,?_,QD Z Z (QhI.cons (Qk isAgg51 Z Z) (QhI.cons (Qk isAgg33 Z Z) QhI.nil)),Z,Z⟩
   refine Le.trans (Q5 (i:=1) (m:=0) (t:=65) (k:=2) Z Z Z) ?_
   exact Lr [10,1,2]
  refine Gc 5 Z ?_
  refine vH (OpH.lit (xs:=[.const (.int .i64 1)]) (es:=List.map (Qe .i64) [1]) Qz Z Z Z Z Z ⟨Z,trivial⟩ Z Z) ?_
  refine FE Z (Go 1 Z (Lm Z ?_))
  refine WO.le (Yr [(108,_)] Z Z (Qlr.cons Z FzA.o Qlr.nil) (FzH.keep (FzH.keep (FzH.keep (FzH.keep (FzH.keep (FzH.keep (FzH.keep (FzH.keep (FzH.keep (FzH.keep (FzH.keep (QX _))))))))))))) ?_
  refine Cd [] a (k_hq _ _ _) Z fun bu bk a=>FE Z ?_
  refine WO.le (Yr [(111,_)] Z Z (Qlr.cons Z FzA.o Qlr.nil) (FzH.keep (FzH.keep (FzH.keep (FzH.keep (FzH.keep (FzH.keep (FzH.keep (FzH.keep (FzH.keep (FzH.keep (FzH.keep (FzH.keep (QX _)))))))))))))) ?_
  refine Cd [] a (k_gw _ _ _) Z fun G bl a=>FE Z (Go 14 Z (Cn Z a (fun af a=>?_) (fun af a=>?_)))
  ·refine Gc 10 Z (Qh4 a (Lw trivial) ?_)
   obtain rfl:=Ojr M a
   refine Gx 2 Z ?_
   obtain rfl:=Oi h
   refine⟨[(10,.ptr 1 0),(11,.ptr 2 0)],[.row 65 2 (List.map Payment.c (([],G.2).1)),.cells 51 [.osl 0 0 ((([],G.2).1).length) 2],.cells 33 [I (([],G.2).2)]],_,?_,QD Z Z (QhI.cons (Qk isAgg51 Z Z) (QhI.cons (Qk isAgg33 Z Z) QhI.nil)),Z,Z⟩
   refine Le.trans (Q5 (i:=1) (m:=0) (t:=65) (k:=2) Z Z Z) ?_
   exact Lr [13,1,2]
  refine Gc 9 Z (Bd a fun J ba a=>?_)
  refine Ct J [0,1,2,3,4,5,6,7,8] [] (fun _=>[]) (fun J=>[(5,.map (Qm (fun x=>A.int .i64 x) (fun x=>A.int .i64 x) J))]) (fun _=>rfl) ?_ (fun env H u=>?_)
  ·refine G0 1 Z ?_
   refine Lp [0,1,2,3,4,5,6,7,8,12] [20,22,118,119] (fun y=>[(120,I y.2)]) (fun y=>[(5,.map (Qm (fun x=>A.int .i64 x) (fun x=>A.int .i64 x) y.1))]) ba (fun _=>rfl) (Lr [0,1,2,3,4,5,6,7,8,12]) fun y bv g ag=>?_
   refine G0 6 Z (Yt Z g (fun ah g=>?_) (fun ah g=>?_))
   ·refine Gc 2 Z (Qj g ?_)
    obtain rfl:=Oj ag g
    exact Gx 1 Z (Q1 (Lr [0,1,2,3,4,5,6,7,8]))
   refine Gc 7 Z (Bd g fun V N g=>?_)
   refine vX (.ptr 9 (Int.toNat y.2*1)) (Yv N Z runUnderlying32 sizeOf3) ?_
   refine vX (I V) (OpV.load Z isAgg3 Z (QL N)) ?_
   refine Go 10 Z (Bd g fun L p g=>?_)
   refine Ct L [0,1,2,3,4,5,6,7,8,9] [20,22,118,119,120] (fun _=>[]) (fun L=>[(5,.map (Qm (fun x=>A.int .i64 x) (fun x=>A.int .i64 x) L))]) (fun _=>rfl) ?_ (fun env H u=>?_)
   ·refine G0 0 Z (Cn Z p (fun ai p=>?_) (fun ai p=>?_))
    ·refine DSs 6 Z (D 3 Z ?_)
     obtain⟨W,aj,p⟩:=bnd p
     refine DS.wo (x:=.rp [I W]) ?_ ?_
     ·exact Ix aj runUnderlying32 sizeOf3 Z Wp
     refine D 2 Z (DS.done Z (Bd p fun bw ak p=>?_))
     refine vU (Yz (ev:=(fun x=>A.int .i64 x)) (k:=W) (v:=V) (l:=y.1) QaE ak Z underlying103) ?_
     exact FE Z (Go 1 Z (Cl p [0,1,2,3,4,5,6,7,8,9]))
    exact Gc 1 Z (Cl p [0,1,2,3,4,5,6,7,8,9])
   exact Gx 2 Z (TC.le u (Gc 4 Z (Qi g (Lr [0,1,2,3,4,5,6,7,8,9]))))
  exact Gx 1 Z (QaL a (Le.trans u (Lr [0,1,2,3,4,5,6,7,8])))
 rintro bx rfl
 refine Gx 5 Z (Cd [5] h (k_ap _ _) Z fun bz bm h=>FE Z (Go 5 Z ?_))
 obtain rfl:=Oi h
 exact Rx [9,1,2] [10,11] Z (QD Z Z (QhI.cons (Qk isAgg51 Z Z) (QhI.cons (Qk isAgg33 Z Z) QhI.nil))) ⟨Z,Z⟩
def F_kk(n:Nat)(b:List Payment)(e:List Payment)(a:Int):Option (Ctl Int (Ctl Unit Bool)):=
  (bif decide (a<(b.length:Int))then(idx b a).bind fun c=>(idx e a).bind fun d=>(bif (c != d)then some (.done (.done false))else some (.cont (IntKind.i64.wrap (a+1))))else some (.done (.cont ())))
def F_ch(n:Nat)(b:List Payment)(c:List Payment):Option Bool:=
  (bif ((b.length:Int) != (c.length:Int))then some false else(iter (F_kk n b c) n 0:Option (Ctl Unit Bool)).bind fun d=>match d with|.cont a=>(some true)|.done a=>some a)
theorem k_ch(n:Nat)(m:List Payment)(s:List Payment)(r:Bool)(h:F_ch n m s=some r):
    Csm prog 20 [.rsl 2 (List.map Payment.c m),.rsl 2 (List.map Payment.c s)] [] (fun r=>.bool r) r:=by
 refine Qb func20 Z Z Z ?_
 refine G0 9 Z (Lm Z (Go 1 Z (Lm Z (Go 3 Z (Cn Z h (fun t h=>?_) (fun t h=>?_))))))
 ·exact Gc 7 Z (Rt h 4 [])
 refine Gc 8 Z (Bd h fun u w h=>?_)
 refine CtE (b:=u) [] [] (fun _=>[]) (fun _=>[]) (fun _=>rfl) ?_ (fun B env H y z=>?_)
 ·refine G0 1 Z ?_
  refine Lp [] [0,1] (fun g=>[(5,I g)]) (fun _=>[]) w (fun _=>rfl) (Lr []) fun g E a f=>?_
  refine G0 5 Z (Lm Z (Go 3 Z (Yt Z a (fun i a=>?_) (fun i a=>?_))))
  ·refine Gc 2 Z (Qj a ?_)
   obtain rfl:=Oj f a
   exact Gx 1 Z (Qu Z (Lr []))
  refine Gc 5 Z (DSs 8 Z (D 2 Z ?_))
  obtain⟨d,j,a⟩:=bnd a
  refine DS.wo (x:=.rp [I d.Bib,I d.Amount]) ?_ ?_
  ·exact Ix j runUnderlying51 sizeOf65 Z Wp
  refine D 3 Z ?_
  obtain⟨e,k,a⟩:=bnd a
  refine DS.wo (x:=.rp [I e.Bib,I e.Amount]) ?_ ?_
  ·exact Ix k runUnderlying51 sizeOf65 Z Wp
  refine D 1 Z (DS.done Z ?_)
  refine vX (.bool (d != e)) (Qjt (p:=d) (q:=e) Qnj Z Z) ?_
  refine Go 2 Z (Cn Z a (fun l a=>?_) (fun l a=>?_))
  ·refine Gc 8 Z (Qv a ?_)
   obtain rfl:=Oj f a
   exact Gx 1 Z (Qs (Gx 1 Z (Rt h 4 [])))
  exact Gc 8 Z (Qi a (Lr []))
 subst y
 exact Gx 1 Z (TC.le z (Gc 6 Z (Rt h 4 [])))
def F_kb(n:Nat)(b:List Int)(e:List Int)(a:Int):Option (Ctl Int (Ctl Unit Bool)):=
  (bif decide (a<(b.length:Int))then(idx b a).bind fun c=>(idx e a).bind fun d=>(bif (c != d)then some (.done (.done false))else some (.cont (IntKind.i64.wrap (a+1))))else some (.done (.cont ())))
def F_ii(n:Nat)(b:List Int)(c:List Int):Option Bool:=
  (bif ((b.length:Int) != (c.length:Int))then some false else(iter (F_kb n b c) n 0:Option (Ctl Unit Bool)).bind fun d=>match d with|.cont a=>(some true)|.done a=>some a)
theorem k_ii(n:Nat)(j:List Int)(k:List Int)(r:Bool)(h:F_ii n j k=some r):
    Csm prog 14 [.rsl 1 (List.map (Qe .i64) j),.rsl 1 (List.map (Qe .i64) k)] [] (fun r=>.bool r) r:=by
 refine Qb func14 Z Z Z ?_
 refine G0 9 Z (Lm Z (Go 1 Z (Lm Z (Go 3 Z (Cn Z h (fun l h=>?_) (fun l h=>?_))))))
 ·exact Gc 7 Z (Rt h 4 [])
 refine Gc 8 Z (Bd h fun m p h=>?_)
 refine CtE (b:=m) [] [] (fun _=>[]) (fun _=>[]) (fun _=>rfl) ?_ (fun w env H q s=>?_)
 ·refine G0 1 Z ?_
  refine Lp [] [0,1] (fun d=>[(5,I d)]) (fun _=>[]) p (fun _=>rfl) (Lr []) fun d y a c=>?_
  refine G0 5 Z (Lm Z (Go 3 Z (Yt Z a (fun e a=>?_) (fun e a=>?_))))
  ·refine Gc 2 Z (Qj a ?_)
   obtain rfl:=Oj c a
   exact Gx 1 Z (Qu Z (Lr []))
  refine Gc 5 Z (DSs 8 Z (D 2 Z ?_))
  obtain⟨t,f,a⟩:=bnd a
  refine DS.wo (x:=.rp [I t]) ?_ ?_
  ·exact Ix f runUnderlying32 sizeOf3 Z Wp
  refine D 3 Z ?_
  obtain⟨u,g,a⟩:=bnd a
  refine DS.wo (x:=.rp [I u]) ?_ ?_
  ·exact Ix g runUnderlying32 sizeOf3 Z Wp
  refine D 1 Z (DS.done Z (Go 3 Z (Cn Z a (fun i a=>?_) (fun i a=>?_))))
  ·refine Gc 8 Z (Qv a ?_)
   obtain rfl:=Oj c a
   exact Gx 1 Z (Qs (Gx 1 Z (Rt h 4 [])))
  exact Gc 8 Z (Qi a (Lr []))
 subst q
 exact Gx 1 Z (TC.le s (Gc 6 Z (Rt h 4 [])))
def F_fx(n:Nat):Option Bool:=
  (F_dh n [1,3]).bind fun b=>(F_cm n [10,20]).bind fun a=>(F_w n ({Name:=[115,97,109,112,108,101],Mats:=[{Name:=[108,105,110,101],Kind:=1:Mat},{Name:=[102,105,110,105,115,104],Kind:=3:Mat}],Legs:=[{From:=0,To:=1,Min:=10,Max:=100:Leg}],Distances:=[{Name:=[98,114,105,101,102],Route:=[z_Part,{z_Part with Mat:=1:Part}],Timing:=1,Cutoffs:=[],Extra:=(-1):Distance}],Waves:=[{Name:=[101,108,105,116,101],Gun:=0:Wave}],Offences:=[],Categories:=[],Prizes:=b,Ties:=[{z_Step with Kind:=1,By:=4:Step}],Faults:=z_Faults,Fee:=0,Deadline:=0:Course}) ({Clocks:={Segments:=[],Far:=[[0]]:Clocks},Pairs:=[],Runners:=a:Field}) 0 (-1)).bind fun c=>(F_u n ({Name:=[115,97,109,112,108,101],Mats:=[{Name:=[108,105,110,101],Kind:=1:Mat},{Name:=[102,105,110,105,115,104],Kind:=3:Mat}],Legs:=[{From:=0,To:=1,Min:=10,Max:=100:Leg}],Distances:=[{Name:=[98,114,105,101,102],Route:=[z_Part,{z_Part with Mat:=1:Part}],Timing:=1,Cutoffs:=[],Extra:=(-1):Distance}],Waves:=[{Name:=[101,108,105,116,101],Gun:=0:Wave}],Offences:=[],Categories:=[],Prizes:=b,Ties:=[{z_Step with Kind:=1,By:=4:Step}],Faults:=z_Faults,Fee:=0,Deadline:=0:Course}) ({Clocks:={Segments:=[],Far:=[[0]]:Clocks},Pairs:=[],Runners:=a:Field}) 0 (-1)).bind fun d=>(F_p n ({Clocks:={Segments:=[],Far:=[[0]]:Clocks},Pairs:=[],Runners:=a:Field}) 1).bind fun e=>(F_p n ({Clocks:={Segments:=[],Far:=[[0]]:Clocks},Pairs:=[],Runners:=a:Field}) 0).bind fun p=>(F_dh n [1,2]).bind fun q=>(F_cm n [10,10]).bind fun r=>(F_gz n ({Name:=[115,97,109,112,108,101],Mats:=[{Name:=[108,105,110,101],Kind:=1:Mat},{Name:=[102,105,110,105,115,104],Kind:=3:Mat}],Legs:=[{From:=0,To:=1,Min:=10,Max:=100:Leg}],Distances:=[{Name:=[98,114,105,101,102],Route:=[z_Part,{z_Part with Mat:=1:Part}],Timing:=1,Cutoffs:=[],Extra:=(-1):Distance}],Waves:=[{Name:=[101,108,105,116,101],Gun:=0:Wave}],Offences:=[],Categories:=[],Prizes:=q,Ties:=[{z_Step with Kind:=1,By:=4:Step}],Faults:=z_Faults,Fee:=0,Deadline:=0:Course}) ({Clocks:={Segments:=[],Far:=[[0]]:Clocks},Pairs:=[],Runners:=r:Field}) 0 (-1) ({World:=0,Offsets:=[],Choices:=[{Outcome:=0,X:=10:Choice},{Outcome:=0,X:=10:Choice}]:History})).bind fun f=>(F_u n ({Name:=[115,97,109,112,108,101],Mats:=[{Name:=[108,105,110,101],Kind:=1:Mat},{Name:=[102,105,110,105,115,104],Kind:=3:Mat}],Legs:=[{From:=0,To:=1,Min:=10,Max:=100:Leg}],Distances:=[{Name:=[98,114,105,101,102],Route:=[z_Part,{z_Part with Mat:=1:Part}],Timing:=1,Cutoffs:=[],Extra:=(-1):Distance}],Waves:=[{Name:=[101,108,105,116,101],Gun:=0:Wave}],Offences:=[],Categories:=[],Prizes:=b,Ties:=[{z_Step with Kind:=1,By:=4:Step}],Faults:=z_Faults,Fee:=0,Deadline:=0:Course}) z_Field 0 (-1)).bind fun g=>(F_w n z_Course ({Clocks:={Segments:=[],Far:=[[0]]:Clocks},Pairs:=[],Runners:=a:Field}) 0 (-1)).bind fun h=>((bif (c.2==0)then(F_ch n c.1 [{Bib:=1,Amount:=100:Payment}]).bind fun i=>(bif i then(bif (d.2==0)then(bif ((d.1.length:Int)==0)then(bif (e.2==0)then(F_ii n e.1 [1]).bind fun j=>(bif j then some (p.2==310)else some false)else some false)else some false)else some false)else some false)else some false):Option Bool).bind fun k=>((bif k then(bif (f.2==0)then(F_ch n f.1 [{Bib:=1,Amount:=150:Payment},{Bib:=2,Amount:=150:Payment}]).bind fun l=>(bif l then(bif (g.2==240)then some (h.2 != 0)else some false)else some false)else some false)else some false):Option Bool).bind fun m=>some m
theorem k_fx(n:Nat)(r:Bool)(h:F_fx n=some r):
    Csm prog 10 [] [] (fun r=>.bool r) r:=by
 refine Qb func10 Z Z Z ?_
 refine G0 7 Z ?_
 refine vH (OpH.lit (xs:=[.const (.int .i64 1),.const (.int .i64 3)]) (es:=List.map (Qe .i64) [1,3]) Qz Z Z Z Z Z ⟨Z,Z,trivial⟩ Z Z) ?_
 refine aV (.osl 0 0 ([1,3].length) 1) [.row 3 1 (List.map (Qe .i64) [1,3])] Z Z ?_
 refine WO.le (Yr [(18,_)] Z Z (Qlr.cons Z FzA.o Qlr.nil) (FzH.keep (QX _))) ?_
 refine Cd [] h (k_dh _ _) Z fun d R h=>?_
 refine aV (.agg [.str [115,97,109,112,108,101],.osl 1 0 ([{Name:=[108,105,110,101],Kind:=1:Mat},{Name:=[102,105,110,105,115,104],Kind:=3:Mat}].length) 2,.osl 2 0 ([{From:=0,To:=1,Min:=10,Max:=100:Leg}].length) 4,.osl 3 0 ([{Name:=[98,114,105,101,102],Route:=[z_Part,{z_Part with Mat:=1:Part}],Timing:=1,Cutoffs:=[],Extra:=(-1):Distance}].length) 5,.osl 4 0 ([{Name:=[101,108,105,116,101],Gun:=0:Wave}].length) 2,.rsl 4 (List.map Offence.c []),.rsl 3 (List.map Category.c []),.osl 5 0 d.length 4,.osl 6 0 ([{z_Step with Kind:=1,By:=4:Step}].length) 8,I 0,I 0,I 0,I 0,I 0,I 0,I 0]) [.dead,.row 101 2 (List.map Mat.c [{Name:=[108,105,110,101],Kind:=1:Mat},{Name:=[102,105,110,105,115,104],Kind:=3:Mat}]),.row 135 4 (List.map Leg.c [{From:=0,To:=1,Min:=10,Max:=100:Leg}]),.row 99 5 (List.map Distance.c [{Name:=[98,114,105,101,102],Route:=[z_Part,{z_Part with Mat:=1:Part}],Timing:=1,Cutoffs:=[],Extra:=(-1):Distance}]),.row 139 2 (List.map Wave.c [{Name:=[101,108,105,116,101],Gun:=0:Wave}]),.row 74 4 (List.map Prize.c d),.row 144 8 (List.map Step.enc [{z_Step with Kind:=1,By:=4:Step}]),.cells 49 [.str [115,97,109,112,108,101],.osl 1 0 ([{Name:=[108,105,110,101],Kind:=1:Mat},{Name:=[102,105,110,105,115,104],Kind:=3:Mat}].length) 2,.osl 2 0 ([{From:=0,To:=1,Min:=10,Max:=100:Leg}].length) 4,.osl 3 0 ([{Name:=[98,114,105,101,102],Route:=[z_Part,{z_Part with Mat:=1:Part}],Timing:=1,Cutoffs:=[],Extra:=(-1):Distance}].length) 5,.osl 4 0 ([{Name:=[101,108,105,116,101],Gun:=0:Wave}].length) 2,.rsl 4 (List.map Offence.c []),.rsl 3 (List.map Category.c []),.osl 5 0 d.length 4,.osl 6 0 ([{z_Step with Kind:=1,By:=4:Step}].length) 8,I 0,I 0,I 0,I 0,I 0,I 0,I 0]] Z Z ?_
 refine vH (OpH.lit (xs:=[.const (.int .i64 10),.const (.int .i64 20)]) (es:=List.map (Qe .i64) [10,20]) Qz Z Z Z Z Z ⟨Z,Z,trivial⟩ Z Z) ?_
 refine aV (.osl 8 0 ([10,20].length) 1) [_,_,_,_,_,_,_,_,.row 3 1 (List.map (Qe .i64) [10,20])] Z Z ?_
 refine WO.le (Yr [(20,_)] Z Z (Qlr.cons Z FzA.o Qlr.nil) (FzH.keep (FzH.keep (FzH.keep (FzH.keep (FzH.keep (FzH.keep (FzH.keep (FzH.keep (FzH.keep (QX _))))))))))) ?_
 refine Cd [] h (k_cm _ _) Z fun e T h=>?_
 refine aV (.agg [.rsl 3 (List.map Segment.c []),.osl 9 0 ([[0]].length) 1,.rsl 2 (List.map Pair.c []),.osl 10 0 e.length 3]) [_,_,_,_,_,_,_,_,.dead,.row 32 1 (List.map (YE 1 (Qe .i64)) [[0]]),.row 68 3 (List.map Runner.c e),.cells 29 [.rsl 3 (List.map Segment.c []),.osl 9 0 ([[0]].length) 1,.rsl 2 (List.map Pair.c []),.osl 10 0 e.length 3]] Z Z ?_
 refine Go 10 Z ?_
 refine WO.le (Yr [(19,_),(23,_)] Z Z (Qlr.cons Z (FzA.agg (FzL.cons (FzA.refl _) (FzL.cons FzA.o (FzL.refl _)))) (Qlr.cons Z (FzA.agg (FzL.cons (FzA.refl _) (FzL.cons FzA.o (FzL.refl _)))) Qlr.nil)) (FzH.keep (FzH.keep (FzH.keep (FzH.keep (FzH.keep (FzH.keep (FzH.keep (FzH.cells (FzL.cons (FzA.refl _) (FzL.cons FzA.o (FzL.refl _))) (FzH.keep (FzH.keep (FzH.keep (FzH.keep (FzH.cells (FzL.cons (FzA.refl _) (FzL.cons FzA.o (FzL.refl _))) (QX _))))))))))))))) ?_
 refine WO.le (Yr [(19,_),(23,_)] Z Z (Qlr.cons Z (FzA.agg (FzL.cons (FzA.refl _) (FzL.cons (FzA.refl _) (FzL.cons FzA.o (FzL.refl _))))) (Qlr.cons Z (FzA.agg (FzL.cons (FzA.refl _) (FzL.cons (FzA.refl _) (FzL.cons FzA.o (FzL.refl _))))) Qlr.nil)) (FzH.keep (FzH.keep (FzH.keep (FzH.keep (FzH.keep (FzH.keep (FzH.keep (FzH.cells (FzL.cons (FzA.refl _) (FzL.cons (FzA.refl _) (FzL.cons FzA.o (FzL.refl _)))) (FzH.keep (FzH.keep (FzH.keep (FzH.keep (FzH.cells (FzL.cons (FzA.refl _) (FzL.cons (FzA.refl _) (FzL.cons FzA.o (FzL.refl _)))) (QX _))))))))))))))) ?_
 refine WO.le (Yr [(19,_),(23,_)] Z Z (Qlr.cons Z (FzA.agg (FzL.cons (FzA.refl _) (FzL.cons (FzA.refl _) (FzL.cons (FzA.refl _) (FzL.cons FzA.o (FzL.refl _)))))) (Qlr.cons Z (FzA.agg (FzL.cons (FzA.refl _) (FzL.cons (FzA.refl _) (FzL.cons (FzA.refl _) (FzL.cons FzA.o (FzL.refl _)))))) Qlr.nil)) (FzH.keep (FzH.keep (FzH.keep (FzH.keep (FzH.keep (FzH.keep (FzH.keep (FzH.cells (FzL.cons (FzA.refl _) (FzL.cons (FzA.refl _) (FzL.cons (FzA.refl _) (FzL.cons FzA.o (FzL.refl _))))) (FzH.keep (FzH.keep (FzH.keep (FzH.keep (FzH.cells (FzL.cons (FzA.refl _) (FzL.cons (FzA.refl _) (FzL.cons (FzA.refl _) (FzL.cons FzA.o (FzL.refl _))))) (QX _))))))))))))))) ?_
 refine WO.le (Yr [(19,_),(23,_)] Z Z (Qlr.cons Z (FzA.agg (FzL.cons (FzA.refl _) (FzL.cons (FzA.refl _) (FzL.cons (FzA.refl _) (FzL.cons (FzA.refl _) (FzL.cons FzA.o (FzL.refl _))))))) (Qlr.cons Z (FzA.agg (FzL.cons (FzA.refl _) (FzL.cons (FzA.refl _) (FzL.cons (FzA.refl _) (FzL.cons (FzA.refl _) (FzL.cons FzA.o (FzL.refl _))))))) Qlr.nil)) (FzH.keep (FzH.keep (FzH.keep (FzH.keep (FzH.keep (FzH.keep (FzH.keep (FzH.cells (FzL.cons (FzA.refl _) (FzL.cons (FzA.refl _) (FzL.cons (FzA.refl _) (FzL.cons (FzA.refl _) (FzL.cons FzA.o (FzL.refl _)))))) (FzH.keep (FzH.keep (FzH.keep (FzH.keep (FzH.cells (FzL.cons (FzA.refl _) (FzL.cons (FzA.refl _) (FzL.cons (FzA.refl _) (FzL.cons (FzA.refl _) (FzL.cons FzA.o (FzL.refl _)))))) (QX _))))))))))))))) ?_
 refine WO.le (Yr [(19,_),(23,_)] Z Z (Qlr.cons Z (FzA.agg (FzL.cons (FzA.refl _) (FzL.cons (FzA.refl _) (FzL.cons (FzA.refl _) (FzL.cons (FzA.refl _) (FzL.cons (FzA.refl _) (FzL.cons (FzA.refl _) (FzL.cons (FzA.refl _) (FzL.cons FzA.o (FzL.refl _)))))))))) (Qlr.cons Z (FzA.agg (FzL.cons (FzA.refl _) (FzL.cons (FzA.refl _) (FzL.cons (FzA.refl _) (FzL.cons (FzA.refl _) (FzL.cons (FzA.refl _) (FzL.cons (FzA.refl _) (FzL.cons (FzA.refl _) (FzL.cons FzA.o (FzL.refl _)))))))))) Qlr.nil)) (FzH.keep (FzH.keep (FzH.keep (FzH.keep (FzH.keep (FzH.keep (FzH.keep (FzH.cells (FzL.cons (FzA.refl _) (FzL.cons (FzA.refl _) (FzL.cons (FzA.refl _) (FzL.cons (FzA.refl _) (FzL.cons (FzA.refl _) (FzL.cons (FzA.refl _) (FzL.cons (FzA.refl _) (FzL.cons FzA.o (FzL.refl _))))))))) (FzH.keep (FzH.keep (FzH.keep (FzH.keep (FzH.cells (FzL.cons (FzA.refl _) (FzL.cons (FzA.refl _) (FzL.cons (FzA.refl _) (FzL.cons (FzA.refl _) (FzL.cons (FzA.refl _) (FzL.cons (FzA.refl _) (FzL.cons (FzA.refl _) (FzL.cons FzA.o (FzL.refl _))))))))) (QX _))))))))))))))) ?_
 refine WO.le (Yr [(19,_),(23,_)] Z Z (Qlr.cons Z (FzA.agg (FzL.cons (FzA.refl _) (FzL.cons (FzA.refl _) (FzL.cons (FzA.refl _) (FzL.cons (FzA.refl _) (FzL.cons (FzA.refl _) (FzL.cons (FzA.refl _) (FzL.cons (FzA.refl _) (FzL.cons (FzA.refl _) (FzL.cons FzA.o (FzL.refl _))))))))))) (Qlr.cons Z (FzA.agg (FzL.cons (FzA.refl _) (FzL.cons (FzA.refl _) (FzL.cons (FzA.refl _) (FzL.cons (FzA.refl _) (FzL.cons (FzA.refl _) (FzL.cons (FzA.refl _) (FzL.cons (FzA.refl _) (FzL.cons (FzA.refl _) (FzL.cons FzA.o (FzL.refl _))))))))))) Qlr.nil)) (FzH.keep (FzH.keep (FzH.keep (FzH.keep (FzH.keep (FzH.keep (FzH.keep (FzH.cells (FzL.cons (FzA.refl _) (FzL.cons (FzA.refl _) (FzL.cons (FzA.refl _) (FzL.cons (FzA.refl _) (FzL.cons (FzA.refl _) (FzL.cons (FzA.refl _) (FzL.cons (FzA.refl _) (FzL.cons (FzA.refl _) (FzL.cons FzA.o (FzL.refl _)))))))))) (FzH.keep (FzH.keep (FzH.keep (FzH.keep (FzH.cells (FzL.cons (FzA.refl _) (FzL.cons (FzA.refl _) (FzL.cons (FzA.refl _) (FzL.cons (FzA.refl _) (FzL.cons (FzA.refl _) (FzL.cons (FzA.refl _) (FzL.cons (FzA.refl _) (FzL.cons (FzA.refl _) (FzL.cons FzA.o (FzL.refl _)))))))))) (QX _))))))))))))))) ?_
 refine WO.le (Yr [(21,_),(24,_)] Z Z (Qlr.cons Z (FzA.agg (FzL.cons (FzA.refl _) (FzL.cons FzA.o (FzL.refl _)))) (Qlr.cons Z (FzA.agg (FzL.cons (FzA.refl _) (FzL.cons FzA.o (FzL.refl _)))) Qlr.nil)) (FzH.keep (FzH.keep (FzH.keep (FzH.keep (FzH.keep (FzH.keep (FzH.keep (FzH.keep (FzH.keep (FzH.keep (FzH.keep (FzH.cells (FzL.cons (FzA.refl _) (FzL.cons FzA.o (FzL.refl _))) (FzH.keep (FzH.cells (FzL.cons (FzA.refl _) (FzL.cons FzA.o (FzL.refl _))) (QX _)))))))))))))))) ?_
 refine WO.le (Yr [(21,_),(24,_)] Z Z (Qlr.cons Z (FzA.agg (FzL.cons (FzA.refl _) (FzL.cons (FzA.refl _) (FzL.cons (FzA.refl _) (FzL.cons FzA.o (FzL.refl _)))))) (Qlr.cons Z (FzA.agg (FzL.cons (FzA.refl _) (FzL.cons (FzA.refl _) (FzL.cons (FzA.refl _) (FzL.cons FzA.o (FzL.refl _)))))) Qlr.nil)) (FzH.keep (FzH.keep (FzH.keep (FzH.keep (FzH.keep (FzH.keep (FzH.keep (FzH.keep (FzH.keep (FzH.keep (FzH.keep (FzH.cells (FzL.cons (FzA.refl _) (FzL.cons (FzA.refl _) (FzL.cons (FzA.refl _) (FzL.cons FzA.o (FzL.refl _))))) (FzH.keep (FzH.cells (FzL.cons (FzA.refl _) (FzL.cons (FzA.refl _) (FzL.cons (FzA.refl _) (FzL.cons FzA.o (FzL.refl _))))) (QX _)))))))))))))))) ?_
 refine Cd [] h (k_w _ _ _ _ _) Z fun q V h=>?_
 refine aV (.tup [.osl 14 0 q.1.length 2,I q.2]) [_,.dead,.dead,.dead,.dead,.dead,.dead,.cells 49 [.str [115,97,109,112,108,101],.rsl 2 (List.map Mat.c [{Name:=[108,105,110,101],Kind:=1:Mat},{Name:=[102,105,110,105,115,104],Kind:=3:Mat}]),.rsl 4 (List.map Leg.c [{From:=0,To:=1,Min:=10,Max:=100:Leg}]),.rsl 5 (List.map Distance.c [{Name:=[98,114,105,101,102],Route:=[z_Part,{z_Part with Mat:=1:Part}],Timing:=1,Cutoffs:=[],Extra:=(-1):Distance}]),.rsl 2 (List.map Wave.c [{Name:=[101,108,105,116,101],Gun:=0:Wave}]),.rsl 4 (List.map Offence.c []),.rsl 3 (List.map Category.c []),.rsl 4 (List.map Prize.c d),.rsl 8 (List.map Step.enc [{z_Step with Kind:=1,By:=4:Step}]),I 0,I 0,I 0,I 0,I 0,I 0,I 0],_,.dead,.dead,.cells 29 [.rsl 3 (List.map Segment.c []),.rsl 1 (List.map (YE 1 (Qe .i64)) [[0]]),.rsl 2 (List.map Pair.c []),.rsl 3 (List.map Runner.c e)],.cells 49 [.str [115,97,109,112,108,101],.rsl 2 (List.map Mat.c [{Name:=[108,105,110,101],Kind:=1:Mat},{Name:=[102,105,110,105,115,104],Kind:=3:Mat}]),.rsl 4 (List.map Leg.c [{From:=0,To:=1,Min:=10,Max:=100:Leg}]),.rsl 5 (List.map Distance.c [{Name:=[98,114,105,101,102],Route:=[z_Part,{z_Part with Mat:=1:Part}],Timing:=1,Cutoffs:=[],Extra:=(-1):Distance}]),.rsl 2 (List.map Wave.c [{Name:=[101,108,105,116,101],Gun:=0:Wave}]),.rsl 4 (List.map Offence.c []),.rsl 3 (List.map Category.c []),.rsl 4 (List.map Prize.c d),.rsl 8 (List.map Step.enc [{z_Step with Kind:=1,By:=4:Step}]),I 0,I 0,I 0,I 0,I 0,I 0,I 0],.cells 29 [.rsl 3 (List.map Segment.c []),.rsl 1 (List.map (YE 1 (Qe .i64)) [[0]]),.rsl 2 (List.map Pair.c []),.rsl 3 (List.map Runner.c e)],.row 65 2 (List.map Payment.c q.1)] Z Z ?_
 refine Go 11 Z (Cd [] h (k_u _ _ _ _ _) Z fun s W h=>?_)
 refine aV (.tup [.osl 15 0 s.1.length 1,I s.2]) [_,_,_,_,_,_,_,_,_,_,_,_,_,_,_,.row 3 1 (List.map (Qe .i64) s.1)] Z Z ?_
 refine Go 10 Z (Cd [] h (k_p _ _ _) Z fun t Y h=>?_)
 refine aV (.tup [.osl 16 0 t.1.length 1,I t.2]) [_,_,_,_,_,_,_,_,_,_,_,_,_,_,_,_,.row 3 1 (List.map (Qe .i64) t.1)] Z Z ?_
 refine Go 10 Z (Cd [] h (k_p _ _ _) Z fun u aa h=>?_)
 refine aV (.tup [.osl 17 0 u.1.length 1,I u.2]) [_,_,_,_,_,_,_,_,_,_,_,_,_,_,_,_,_,.row 3 1 (List.map (Qe .i64) u.1)] Z Z ?_
 refine Go 9 Z ?_
 refine vH (OpH.lit (xs:=[.const (.int .i64 1),.const (.int .i64 2)]) (es:=List.map (Qe .i64) [1,2]) Qz Z Z Z Z Z ⟨Z,Z,trivial⟩ Z Z) ?_
 refine aV (.osl 18 0 ([1,2].length) 1) [_,_,_,_,_,_,_,_,_,_,_,_,_,_,_,_,_,_,.row 3 1 (List.map (Qe .i64) [1,2])] Z Z ?_
 refine WO.le (Yr [(45,_)] Z Z (Qlr.cons Z FzA.o Qlr.nil) (FzH.keep (FzH.keep (FzH.keep (FzH.keep (FzH.keep (FzH.keep (FzH.keep (FzH.keep (FzH.keep (FzH.keep (FzH.keep (FzH.keep (FzH.keep (FzH.keep (FzH.keep (FzH.keep (FzH.keep (FzH.keep (FzH.keep (QX _))))))))))))))))))))) ?_
 refine Cd [] h (k_dh _ _) Z fun m ab h=>?_
 refine aV (.agg [.str [115,97,109,112,108,101],.osl 19 0 ([{Name:=[108,105,110,101],Kind:=1:Mat},{Name:=[102,105,110,105,115,104],Kind:=3:Mat}].length) 2,.osl 20 0 ([{From:=0,To:=1,Min:=10,Max:=100:Leg}].length) 4,.osl 21 0 ([{Name:=[98,114,105,101,102],Route:=[z_Part,{z_Part with Mat:=1:Part}],Timing:=1,Cutoffs:=[],Extra:=(-1):Distance}].length) 5,.osl 22 0 ([{Name:=[101,108,105,116,101],Gun:=0:Wave}].length) 2,.rsl 4 (List.map Offence.c []),.rsl 3 (List.map Category.c []),.osl 23 0 m.length 4,.osl 24 0 ([{z_Step with Kind:=1,By:=4:Step}].length) 8,I 0,I 0,I 0,I 0,I 0,I 0,I 0]) [_,_,_,_,_,_,_,_,_,_,_,_,_,_,_,_,_,_,.dead,.row 101 2 (List.map Mat.c [{Name:=[108,105,110,101],Kind:=1:Mat},{Name:=[102,105,110,105,115,104],Kind:=3:Mat}]),.row 135 4 (List.map Leg.c [{From:=0,To:=1,Min:=10,Max:=100:Leg}]),.row 99 5 (List.map Distance.c [{Name:=[98,114,105,101,102],Route:=[z_Part,{z_Part with Mat:=1:Part}],Timing:=1,Cutoffs:=[],Extra:=(-1):Distance}]),.row 139 2 (List.map Wave.c [{Name:=[101,108,105,116,101],Gun:=0:Wave}]),.row 74 4 (List.map Prize.c m),.row 144 8 (List.map Step.enc [{z_Step with Kind:=1,By:=4:Step}]),.cells 49 [.str [115,97,109,112,108,101],.osl 19 0 ([{Name:=[108,105,110,101],Kind:=1:Mat},{Name:=[102,105,110,105,115,104],Kind:=3:Mat}].length) 2,.osl 20 0 ([{From:=0,To:=1,Min:=10,Max:=100:Leg}].length) 4,.osl 21 0 ([{Name:=[98,114,105,101,102],Route:=[z_Part,{z_Part with Mat:=1:Part}],Timing:=1,Cutoffs:=[],Extra:=(-1):Distance}].length) 5,.osl 22 0 ([{Name:=[101,108,105,116,101],Gun:=0:Wave}].length) 2,.rsl 4 (List.map Offence.c []),.rsl 3 (List.map Category.c []),.osl 23 0 m.length 4,.osl 24 0 ([{z_Step with Kind:=1,By:=4:Step}].length) 8,I 0,I 0,I 0,I 0,I 0,I 0,I 0]] Z Z ?_
 refine vH (OpH.lit (xs:=[.const (.int .i64 10),.const (.int .i64 10)]) (es:=List.map (Qe .i64) [10,10]) Qz Z Z Z Z Z ⟨Z,Z,trivial⟩ Z Z) ?_
 refine aV (.osl 26 0 ([10,10].length) 1) [_,_,_,_,_,_,_,_,_,_,_,_,_,_,_,_,_,_,_,_,_,_,_,_,_,_,.row 3 1 (List.map (Qe .i64) [10,10])] Z Z ?_
 refine WO.le (Yr [(47,_)] Z Z (Qlr.cons Z FzA.o Qlr.nil) (FzH.keep (FzH.keep (FzH.keep (FzH.keep (FzH.keep (FzH.keep (FzH.keep (FzH.keep (FzH.keep (FzH.keep (FzH.keep (FzH.keep (FzH.keep (FzH.keep (FzH.keep (FzH.keep (FzH.keep (FzH.keep (FzH.keep (FzH.keep (FzH.keep (FzH.keep (FzH.keep (FzH.keep (FzH.keep (FzH.keep (FzH.keep (QX _))))))))))))))))))))))))))))) ?_
 refine Cd [] h (k_cm _ _) Z fun p ac h=>?_
 refine aV (.agg [.rsl 3 (List.map Segment.c []),.osl 27 0 ([[0]].length) 1,.rsl 2 (List.map Pair.c []),.osl 28 0 p.length 3]) [_,_,_,_,_,_,_,_,_,_,_,_,_,_,_,_,_,_,_,_,_,_,_,_,_,_,.dead,.row 32 1 (List.map (YE 1 (Qe .i64)) [[0]]),.row 68 3 (List.map Runner.c p),.cells 29 [.rsl 3 (List.map Segment.c []),.osl 27 0 ([[0]].length) 1,.rsl 2 (List.map Pair.c []),.osl 28 0 p.length 3]] Z Z ?_
 refine Go 2 Z ?_
 refine vH (OpH.lit (xs:=[.tmp 49,.tmp 50]) (es:=List.map Choice.c [{Outcome:=0,X:=10:Choice},{Outcome:=0,X:=10:Choice}]) el_57 Z Z Z Z Z ⟨Z,Z,trivial⟩ Z Z) ?_
 refine aV (.osl 30 0 ([{Outcome:=0,X:=10:Choice},{Outcome:=0,X:=10:Choice}].length) 2) [_,_,_,_,_,_,_,_,_,_,_,_,_,_,_,_,_,_,_,_,_,_,_,_,_,_,_,_,_,_,.row 87 2 (List.map Choice.c [{Outcome:=0,X:=10:Choice},{Outcome:=0,X:=10:Choice}])] Z Z ?_
 refine Go 1 Z ?_
 refine WO.le (Yr [(46,_)] Z Z (Qlr.cons Z (FzA.agg (FzL.cons (FzA.refl _) (FzL.cons FzA.o (FzL.refl _)))) Qlr.nil) (FzH.keep (FzH.keep (FzH.keep (FzH.keep (FzH.keep (FzH.keep (FzH.keep (FzH.keep (FzH.keep (FzH.keep (FzH.keep (FzH.keep (FzH.keep (FzH.keep (FzH.keep (FzH.keep (FzH.keep (FzH.keep (FzH.keep (FzH.keep (FzH.keep (FzH.keep (FzH.keep (FzH.keep (FzH.keep (FzH.cells (FzL.cons (FzA.refl _) (FzL.cons FzA.o (FzL.refl _))) (QX _)))))))))))))))))))))))))))) ?_
 refine WO.le (Yr [(46,_)] Z Z (Qlr.cons Z (FzA.agg (FzL.cons (FzA.refl _) (FzL.cons (FzA.refl _) (FzL.cons FzA.o (FzL.refl _))))) Qlr.nil) (FzH.keep (FzH.keep (FzH.keep (FzH.keep (FzH.keep (FzH.keep (FzH.keep (FzH.keep (FzH.keep (FzH.keep (FzH.keep (FzH.keep (FzH.keep (FzH.keep (FzH.keep (FzH.keep (FzH.keep (FzH.keep (FzH.keep (FzH.keep (FzH.keep (FzH.keep (FzH.keep (FzH.keep (FzH.keep (FzH.cells (FzL.cons (FzA.refl _) (FzL.cons (FzA.refl _) (FzL.cons FzA.o (FzL.refl _)))) (QX _)))))))))))))))))))))))))))) ?_
 refine WO.le (Yr [(46,_)] Z Z (Qlr.cons Z (FzA.agg (FzL.cons (FzA.refl _) (FzL.cons (FzA.refl _) (FzL.cons (FzA.refl _) (FzL.cons FzA.o (FzL.refl _)))))) Qlr.nil) (FzH.keep (FzH.keep (FzH.keep (FzH.keep (FzH.keep (FzH.keep (FzH.keep (FzH.keep (FzH.keep (FzH.keep (FzH.keep (FzH.keep (FzH.keep (FzH.keep (FzH.keep (FzH.keep (FzH.keep (FzH.keep (FzH.keep (FzH.keep (FzH.keep (FzH.keep (FzH.keep (FzH.keep (FzH.keep (FzH.cells (FzL.cons (FzA.refl _) (FzL.cons (FzA.refl _) (FzL.cons (FzA.refl _) (FzL.cons FzA.o (FzL.refl _))))) (QX _)))))))))))))))))))))))))))) ?_
 refine WO.le (Yr [(46,_)] Z Z (Qlr.cons Z (FzA.agg (FzL.cons (FzA.refl _) (FzL.cons (FzA.refl _) (FzL.cons (FzA.refl _) (FzL.cons (FzA.refl _) (FzL.cons FzA.o (FzL.refl _))))))) Qlr.nil) (FzH.keep (FzH.keep (FzH.keep (FzH.keep (FzH.keep (FzH.keep (FzH.keep (FzH.keep (FzH.keep (FzH.keep (FzH.keep (FzH.keep (FzH.keep (FzH.keep (FzH.keep (FzH.keep (FzH.keep (FzH.keep (FzH.keep (FzH.keep (FzH.keep (FzH.keep (FzH.keep (FzH.keep (FzH.keep (FzH.cells (FzL.cons (FzA.refl _) (FzL.cons (FzA.refl _) (FzL.cons (FzA.refl _) (FzL.cons (FzA.refl _) (FzL.cons FzA.o (FzL.refl _)))))) (QX _)))))))))))))))))))))))))))) ?_
 refine WO.le (Yr [(46,_)] Z Z (Qlr.cons Z (FzA.agg (FzL.cons (FzA.refl _) (FzL.cons (FzA.refl _) (FzL.cons (FzA.refl _) (FzL.cons (FzA.refl _) (FzL.cons (FzA.refl _) (FzL.cons (FzA.refl _) (FzL.cons (FzA.refl _) (FzL.cons FzA.o (FzL.refl _)))))))))) Qlr.nil) (FzH.keep (FzH.keep (FzH.keep (FzH.keep (FzH.keep (FzH.keep (FzH.keep (FzH.keep (FzH.keep (FzH.keep (FzH.keep (FzH.keep (FzH.keep (FzH.keep (FzH.keep (FzH.keep (FzH.keep (FzH.keep (FzH.keep (FzH.keep (FzH.keep (FzH.keep (FzH.keep (FzH.keep (FzH.keep (FzH.cells (FzL.cons (FzA.refl _) (FzL.cons (FzA.refl _) (FzL.cons (FzA.refl _) (FzL.cons (FzA.refl _) (FzL.cons (FzA.refl _) (FzL.cons (FzA.refl _) (FzL.cons (FzA.refl _) (FzL.cons FzA.o (FzL.refl _))))))))) (QX _)))))))))))))))))))))))))))) ?_
 refine WO.le (Yr [(46,_)] Z Z (Qlr.cons Z (FzA.agg (FzL.cons (FzA.refl _) (FzL.cons (FzA.refl _) (FzL.cons (FzA.refl _) (FzL.cons (FzA.refl _) (FzL.cons (FzA.refl _) (FzL.cons (FzA.refl _) (FzL.cons (FzA.refl _) (FzL.cons (FzA.refl _) (FzL.cons FzA.o (FzL.refl _))))))))))) Qlr.nil) (FzH.keep (FzH.keep (FzH.keep (FzH.keep (FzH.keep (FzH.keep (FzH.keep (FzH.keep (FzH.keep (FzH.keep (FzH.keep (FzH.keep (FzH.keep (FzH.keep (FzH.keep (FzH.keep (FzH.keep (FzH.keep (FzH.keep (FzH.keep (FzH.keep (FzH.keep (FzH.keep (FzH.keep (FzH.keep (FzH.cells (FzL.cons (FzA.refl _) (FzL.cons (FzA.refl _) (FzL.cons (FzA.refl _) (FzL.cons (FzA.refl _) (FzL.cons (FzA.refl _) (FzL.cons (FzA.refl _) (FzL.cons (FzA.refl _) (FzL.cons (FzA.refl _) (FzL.cons FzA.o (FzL.refl _)))))))))) (QX _)))))))))))))))))))))))))))) ?_
 refine WO.le (Yr [(48,_)] Z Z (Qlr.cons Z (FzA.agg (FzL.cons (FzA.refl _) (FzL.cons FzA.o (FzL.refl _)))) Qlr.nil) (FzH.keep (FzH.keep (FzH.keep (FzH.keep (FzH.keep (FzH.keep (FzH.keep (FzH.keep (FzH.keep (FzH.keep (FzH.keep (FzH.keep (FzH.keep (FzH.keep (FzH.keep (FzH.keep (FzH.keep (FzH.keep (FzH.keep (FzH.keep (FzH.keep (FzH.keep (FzH.keep (FzH.keep (FzH.keep (FzH.keep (FzH.keep (FzH.keep (FzH.keep (FzH.cells (FzL.cons (FzA.refl _) (FzL.cons FzA.o (FzL.refl _))) (QX _)))))))))))))))))))))))))))))))) ?_
 refine WO.le (Yr [(48,_)] Z Z (Qlr.cons Z (FzA.agg (FzL.cons (FzA.refl _) (FzL.cons (FzA.refl _) (FzL.cons (FzA.refl _) (FzL.cons FzA.o (FzL.refl _)))))) Qlr.nil) (FzH.keep (FzH.keep (FzH.keep (FzH.keep (FzH.keep (FzH.keep (FzH.keep (FzH.keep (FzH.keep (FzH.keep (FzH.keep (FzH.keep (FzH.keep (FzH.keep (FzH.keep (FzH.keep (FzH.keep (FzH.keep (FzH.keep (FzH.keep (FzH.keep (FzH.keep (FzH.keep (FzH.keep (FzH.keep (FzH.keep (FzH.keep (FzH.keep (FzH.keep (FzH.cells (FzL.cons (FzA.refl _) (FzL.cons (FzA.refl _) (FzL.cons (FzA.refl _) (FzL.cons FzA.o (FzL.refl _))))) (QX _)))))))))))))))))))))))))))))))) ?_
 refine WO.le (Yr [(51,_),(52,_)] Z Z (Qlr.cons Z FzA.o (Qlr.cons Z (FzA.agg (FzL.cons (FzA.refl _) (FzL.cons (FzA.refl _) (FzL.cons FzA.o (FzL.refl _))))) Qlr.nil)) (FzH.keep (FzH.keep (FzH.keep (FzH.keep (FzH.keep (FzH.keep (FzH.keep (FzH.keep (FzH.keep (FzH.keep (FzH.keep (FzH.keep (FzH.keep (FzH.keep (FzH.keep (FzH.keep (FzH.keep (FzH.keep (FzH.keep (FzH.keep (FzH.keep (FzH.keep (FzH.keep (FzH.keep (FzH.keep (FzH.keep (FzH.keep (FzH.keep (FzH.keep (FzH.keep (FzH.keep (QX _))))))))))))))))))))))))))))))))) ?_
 refine Cd [] h (k_gz _ _ _ _ _ _) Z fun f ad h=>?_
 refine aV (.tup [.osl 31 0 f.1.length 2,I f.2]) [_,_,_,_,_,_,_,_,_,_,_,_,_,_,_,_,_,_,_,.dead,.dead,.dead,.dead,.dead,.dead,.cells 49 [.str [115,97,109,112,108,101],.rsl 2 (List.map Mat.c [{Name:=[108,105,110,101],Kind:=1:Mat},{Name:=[102,105,110,105,115,104],Kind:=3:Mat}]),.rsl 4 (List.map Leg.c [{From:=0,To:=1,Min:=10,Max:=100:Leg}]),.rsl 5 (List.map Distance.c [{Name:=[98,114,105,101,102],Route:=[z_Part,{z_Part with Mat:=1:Part}],Timing:=1,Cutoffs:=[],Extra:=(-1):Distance}]),.rsl 2 (List.map Wave.c [{Name:=[101,108,105,116,101],Gun:=0:Wave}]),.rsl 4 (List.map Offence.c []),.rsl 3 (List.map Category.c []),.rsl 4 (List.map Prize.c m),.rsl 8 (List.map Step.enc [{z_Step with Kind:=1,By:=4:Step}]),I 0,I 0,I 0,I 0,I 0,I 0,I 0],_,.dead,.dead,.cells 29 [.rsl 3 (List.map Segment.c []),.rsl 1 (List.map (YE 1 (Qe .i64)) [[0]]),.rsl 2 (List.map Pair.c []),.rsl 3 (List.map Runner.c p)],.dead,.row 65 2 (List.map Payment.c f.1),.cells 51 [.osl 31 0 f.1.length 2],.cells 33 [I f.2]] Z Z ?_
 refine Go 11 Z (Cd [] h (k_u _ _ _ _ _) Z fun g M h=>?_)
 refine aV (.tup [.osl 34 0 g.1.length 1,I g.2]) [_,_,_,_,_,_,_,_,_,_,_,_,_,_,_,_,_,_,_,_,_,_,_,_,_,_,_,_,_,_,_,_,_,_,.row 3 1 (List.map (Qe .i64) g.1)] Z Z ?_
 refine Go 11 Z (Cd [] h (k_w _ _ _ _ _) Z fun i N h=>?_)
 refine aV (.tup [.osl 35 0 i.1.length 2,I i.2]) [_,_,_,_,_,_,_,_,_,_,_,_,_,_,_,_,_,_,_,_,_,_,_,_,_,_,_,_,_,_,_,_,_,_,_,.row 65 2 (List.map Payment.c i.1)] Z Z ?_
 refine Go 8 Z (Bd h fun j a h=>?_)
 refine Ct j [31] [11,12,14,16] (fun j=>[(17,.bool j)]) (fun _=>[]) (fun _=>rfl) ?_ (fun env H k=>?_)
 ·refine G0 4 Z (Is 70 a Z (fun w a=>?_) (fun w a=>?_))
  ·refine Go 2 Z ?_
   refine vH (OpH.lit (xs:=[.tmp 72]) (es:=List.map Payment.c [{Bib:=1,Amount:=100:Payment}]) Qfd Z Z Z Z Z ⟨Z,trivial⟩ Z Z) ?_ (gT Z)
   refine aV (.osl 36 0 ([{Bib:=1,Amount:=100:Payment}].length) 2) [_,_,_,_,_,_,_,_,_,_,_,_,_,_,_,_,_,_,_,_,_,_,_,_,_,_,_,_,_,_,_,_,_,_,_,_,.row 65 2 (List.map Payment.c [{Bib:=1,Amount:=100:Payment}])] Z Z ?_
   refine Cb a (k_ch _ _ _) Z (lo (lo ln)) fun ae O a=>Go 2 Z (Is 76 a Z (fun x a=>?_) (fun x a=>?_))
   ·refine Go 4 Z (Is 80 a Z (fun y a=>?_) (fun y a=>?_))
    ·refine Go 5 Z (Is 85 a Z (fun z a=>?_) (fun z a=>?_))
     ·refine Go 4 Z (Is 89 a Z (fun B a=>?_) (fun B a=>?_))
      ·refine Go 1 Z ?_
       refine vH (OpH.lit (xs:=[.const (.int .i64 1)]) (es:=List.map (Qe .i64) [1]) Qz Z Z Z Z Z ⟨Z,trivial⟩ Z Z) ?_ (gT Z)
       refine aV (.osl 37 0 ([1].length) 1) [_,_,_,_,_,_,_,_,_,_,_,_,_,_,_,_,_,_,_,_,_,_,_,_,_,_,_,_,_,_,_,_,_,_,_,_,_,.row 3 1 (List.map (Qe .i64) [1])] Z Z ?_
       refine Cb a (k_ii _ _ _) Z (lo (lo ln)) fun af P a=>Go 2 Z (Is 94 a Z (fun E a=>?_) (fun E a=>?_))
       ·exact Go 5 Z (Cl a [31])
       ·exact Go 5 Z (Cl a [31])
      ·exact Go 10 Z (Cl a [31])
     ·exact Go 14 Z (Cl a [31])
    ·exact Go 19 Z (Cl a [31])
   ·exact Go 23 Z (Cl a [31])
  ·exact Go 29 Z (Cl a [31])
 refine Gx 1 Z (TC.le k (Gc 1 Z (Bd h fun l b h=>?_)))
 refine Ct l [] [] (fun l=>[(0,.bool l)]) (fun _=>[]) (fun _=>rfl) ?_ (fun env H k=>?_)
 ·refine G0 3 Z (Is 99 b Z (fun F b=>?_) (fun F b=>?_))
  ·refine Go 4 Z (Is 103 b Z (fun G b=>?_) (fun G b=>?_))
   ·refine Go 3 Z ?_
    refine vH (OpH.lit (xs:=[.tmp 105,.tmp 106]) (es:=List.map Payment.c [{Bib:=1,Amount:=150:Payment},{Bib:=2,Amount:=150:Payment}]) Qfd Z Z Z Z Z ⟨Z,Z,trivial⟩ Z Z) ?_ (gT Z)
    refine aV (.osl 1 0 ([{Bib:=1,Amount:=150:Payment},{Bib:=2,Amount:=150:Payment}].length) 2) [_,.row 65 2 (List.map Payment.c [{Bib:=1,Amount:=150:Payment},{Bib:=2,Amount:=150:Payment}])] Z Z ?_
    refine Cb b (k_ch _ _ _) Z (lo (lo ln)) fun ag Q b=>Go 2 Z (Is 110 b Z (fun J b=>?_) (fun J b=>?_))
    ·refine Go 4 Z (Is 114 b Z (fun L b=>?_) (fun L b=>?_))
     ·exact Go 5 Z (Cl b [])
     ·exact Go 5 Z (Cl b [])
    ·exact Go 9 Z (Cl b [])
   ·exact Go 16 Z (Cl b [])
  ·exact Go 20 Z (Cl b [])
 exact Gx 1 Z (TC.le k (Gc 1 Z (Rt h 0 [])))
def F_eu(n:Nat)(b:List Part)(f:Int)(rec211:(List Part)->Int->Option Int)(a:Int×Int):Option (Ctl (Int×Int) Int):=
  ((bif decide (a.2<(b.length:Int))then some (decide (a.1<500))else some false):Option Bool).bind fun c=>(bif c then(idx b a.2).bind fun d=>(rec211 d.Parts (IntKind.i64.wrap (f+1))).bind fun e=>some (.cont (IntKind.i64.wrap (a.1+e),IntKind.i64.wrap (a.2+1)))else some (.done a.1))
def B_i(rec211:(List Part)->Int->Option Int)(n:Nat)(a:List Part)(b:Int):Option Int:=
  (bif decide (20<b)then some 500 else(iter (F_eu n a b rec211) n ((a.length:Int),0):Option Int).bind fun c=>some c)
theorem QaZ(rec211:(List Part)->Int->Option Int)(c:∀(d:List Part) (e:Int) (r:Int),rec211 d e=some r->Csm prog 37 [.rsl 3 (List.map Part.enc d),I e] [] (fun r=>I r) r)(n:Nat)(d:List Part)(e:Int)(r:Int)(h:B_i rec211 n d e=some r):
    Csm prog 37 [.rsl 3 (List.map Part.enc d),I e] [] (fun r=>I r) r:=by
 refine Qb func37 Z Z Z ?_
 refine G0 8 Z (Lm Z (Go 10 Z (Cn Z h (fun q h=>?_) (fun q h=>?_))))
 ·exact Gc 7 Z (Rt h 4 [])
 refine Gc 8 Z (Bd h fun f s h=>?_)
 refine Ct f [] [] (fun f=>[(5,I f)]) (fun _=>[]) (fun _=>rfl) ?_ (fun env H g=>?_)
 ·refine G0 1 Z ?_
  refine Lp [] [0,1] (fun i=>[(5,I i.1),(6,I i.2)]) (fun _=>[]) s (fun _=>rfl) (Lr []) fun i w a k=>?_
  refine G0 2 Z (Bd a fun j b a=>?_)
  refine Ct j [] [0,1,5,6] (fun j=>[(18,.bool j)]) (fun _=>[]) (fun _=>rfl) ?_ (fun env H g=>?_)
  ·refine G0 3 Z (Lm Z (Go 2 Z (Is 15 b Z (fun l b=>?_) (fun l b=>?_))))
   ·exact Go 4 Z (Cl b [])
   ·exact Go 4 Z (Cl b [])
  refine Gx 1 Z (TC.le g (Yt Z a (fun m a=>?_) (fun m a=>?_)))
  ·refine Gc 2 Z (Qj a ?_)
   obtain rfl:=Oj k a
   exact Gx 1 Z (Q1 (Lr []))
  exact Gc 8 Z (Bd a fun t p a=>IzE p (Y5 t) Z (Go 4 Z (Cz [] a (c _ _) Z fun x u a=>Go 10 Z (Qi a (Lr [])))))
 exact Gx 1 Z (TC.le g (Gc 7 Z (Rt h 4 [])))
def F_i:Nat->(List Part)->Int->Option Int
  |0=>fun _ _=>none
  |n+1=>B_i (F_i n) n
theorem k_i(n:Nat):∀(a:List Part) (b:Int) (r:Int),F_i n a b=some r->Csm prog 37 [.rsl 3 (List.map Part.enc a),I b] [] (fun r=>I r) r:=by
  induction n with
  |zero=>intro a b r h;cases h
  |succ n ih=>intro a b r h;exact QaZ _ ih n a b r h
def F_fz(n:Nat)(b:List Cond)(f:Int)(rec213:(List Cond)->Int->Option Int)(a:Int×Int):Option (Ctl (Int×Int) Int):=
  ((bif decide (a.2<(b.length:Int))then some (decide (a.1<500))else some false):Option Bool).bind fun c=>(bif c then(idx b a.2).bind fun d=>(rec213 d.Parts (IntKind.i64.wrap (f+1))).bind fun e=>some (.cont (IntKind.i64.wrap (a.1+e),IntKind.i64.wrap (a.2+1)))else some (.done a.1))
def B_g(rec213:(List Cond)->Int->Option Int)(n:Nat)(a:List Cond)(b:Int):Option Int:=
  (bif decide (20<b)then some 500 else(iter (F_fz n a b rec213) n ((a.length:Int),0):Option Int).bind fun c=>some c)
theorem QaS(rec213:(List Cond)->Int->Option Int)(c:∀(d:List Cond) (e:Int) (r:Int),rec213 d e=some r->Csm prog 68 [.rsl 4 (List.map Cond.enc d),I e] [] (fun r=>I r) r)(n:Nat)(d:List Cond)(e:Int)(r:Int)(h:B_g rec213 n d e=some r):
    Csm prog 68 [.rsl 4 (List.map Cond.enc d),I e] [] (fun r=>I r) r:=by
 refine Qb func68 Z Z Z ?_
 refine G0 8 Z (Lm Z (Go 10 Z (Cn Z h (fun q h=>?_) (fun q h=>?_))))
 ·exact Gc 7 Z (Rt h 4 [])
 refine Gc 8 Z (Bd h fun f s h=>?_)
 refine Ct f [] [] (fun f=>[(5,I f)]) (fun _=>[]) (fun _=>rfl) ?_ (fun env H g=>?_)
 ·refine G0 1 Z ?_
  refine Lp [] [0,1] (fun i=>[(5,I i.1),(6,I i.2)]) (fun _=>[]) s (fun _=>rfl) (Lr []) fun i w a k=>?_
  refine G0 2 Z (Bd a fun j b a=>?_)
  refine Ct j [] [0,1,5,6] (fun j=>[(18,.bool j)]) (fun _=>[]) (fun _=>rfl) ?_ (fun env H g=>?_)
  ·refine G0 3 Z (Lm Z (Go 2 Z (Is 15 b Z (fun l b=>?_) (fun l b=>?_))))
   ·exact Go 4 Z (Cl b [])
   ·exact Go 4 Z (Cl b [])
  refine Gx 1 Z (TC.le g (Yt Z a (fun m a=>?_) (fun m a=>?_)))
  ·refine Gc 2 Z (Qj a ?_)
   obtain rfl:=Oj k a
   exact Gx 1 Z (Q1 (Lr []))
  exact Gc 8 Z (Bd a fun t p a=>IzE p (Qar t) Z (Go 4 Z (Cz [] a (c _ _) Z fun x u a=>Go 10 Z (Qi a (Lr [])))))
 exact Gx 1 Z (TC.le g (Gc 7 Z (Rt h 4 [])))
def F_g:Nat->(List Cond)->Int->Option Int
  |0=>fun _ _=>none
  |n+1=>B_g (F_g n) n
theorem k_g(n:Nat):∀(a:List Cond) (b:Int) (r:Int),F_g n a b=some r->Csm prog 68 [.rsl 4 (List.map Cond.enc a),I b] [] (fun r=>I r) r:=by
  induction n with
  |zero=>intro a b r h;cases h
  |succ n ih=>intro a b r h;exact QaS _ ih n a b r h
def F_fw(n:Nat)(b:List Step)(c:Int)(rec212:(List Step)->Int->Option Int)(a:Int×Int):Option (Ctl (Int×Int) Int):=
  ((bif decide (a.2<(b.length:Int))then some (decide (a.1<500))else some false):Option Bool).bind fun d=>(bif d then(idx b a.2).bind fun e=>(F_g n [e.Cond] 0).bind fun f=>(idx b a.2).bind fun g=>(rec212 g.Then (IntKind.i64.wrap (c+1))).bind fun h=>(idx b a.2).bind fun i=>(rec212 i.Else (IntKind.i64.wrap (c+1))).bind fun j=>some (.cont (IntKind.i64.wrap ((IntKind.i64.wrap ((IntKind.i64.wrap (a.1+f))+h))+j),IntKind.i64.wrap (a.2+1)))else some (.done a.1))
def B_j(rec212:(List Step)->Int->Option Int)(n:Nat)(a:List Step)(b:Int):Option Int:=
  (bif decide (20<b)then some 500 else(iter (F_fw n a b rec212) n ((a.length:Int),0):Option Int).bind fun c=>some c)
theorem QaR(rec212:(List Step)->Int->Option Int)(g:∀(j:List Step) (k:Int) (r:Int),rec212 j k=some r->Csm prog 38 [.rsl 8 (List.map Step.enc j),I k] [] (fun r=>I r) r)(n:Nat)(j:List Step)(k:Int)(r:Int)(h:B_j rec212 n j k=some r):
    Csm prog 38 [.rsl 8 (List.map Step.enc j),I k] [] (fun r=>I r) r:=by
 refine Qb func38 Z Z Z ?_
 refine G0 8 Z (Lm Z (Go 10 Z (Cn Z h (fun B h=>?_) (fun B h=>?_))))
 ·exact Gc 7 Z (Rt h 4 [])
 refine Gc 8 Z (Bd h fun l E h=>?_)
 refine Ct l [] [] (fun l=>[(5,I l)]) (fun _=>[]) (fun _=>rfl) ?_ (fun env H m=>?_)
 ·refine G0 1 Z ?_
  refine Lp [] [0,1] (fun p=>[(5,I p.1),(6,I p.2)]) (fun _=>[]) E (fun _=>rfl) (Lr []) fun p L a s=>?_
  refine G0 2 Z (Bd a fun q i a=>?_)
  refine Ct q [] [0,1,5,6] (fun q=>[(18,.bool q)]) (fun _=>[]) (fun _=>rfl) ?_ (fun env H m=>?_)
  ·refine G0 3 Z (Lm Z (Go 2 Z (Is 15 i Z (fun t i=>?_) (fun t i=>?_))))
   ·exact Go 4 Z (Cl i [])
   ·exact Go 4 Z (Cl i [])
  refine Gx 1 Z (TC.le m (Yt Z a (fun u a=>?_) (fun u a=>?_)))
  ·refine Gc 2 Z (Qj a ?_)
   obtain rfl:=Oj s a
   exact Gx 1 Z (Q1 (Lr []))
  refine Gc 4 Z (DSs 26 Z (D 3 Z ?_))
  obtain⟨b,w,a⟩:=bnd a
  refine DS.v (x:=(.rp [I b.Kind,I b.By,I b.Cond.Kind,I b.Cond.Var,I b.Cond.N,.rsl 4 (List.map Cond.enc b.Cond.Parts),.rsl 8 (List.map Step.enc b.Then),.rsl 8 (List.map Step.enc b.Else)])) (QeA (e:=Step.enc) w (YI b) runUnderlying45 sizeOf144) ?_
  refine D 2 Z ?_
  refine DS.wo (x:=.rsl 4 (List.map Cond.enc [b.Cond])) ?_ ?_
  ·refine vH (QcK (xs:=[.tmp 26]) (es:=[Cond.c b.Cond]) Qnk Z Z Z Z Z ⟨Z,trivial⟩ Z Z) ?_
   refine Qlb (x:=(.rsl 4 (List.map Cond.enc [b.Cond]))) (H:=[]) (by simp[Qar]) Z ?_
   exact Wp
  refine Dz [] a (k_g _ _ _) Z fun M F a=>D 3 Z ?_
  obtain⟨d,y,a⟩:=bnd a
  refine DS.v (x:=(.rp [I d.Kind,I d.By,I d.Cond.Kind,I d.Cond.Var,I d.Cond.N,.rsl 4 (List.map Cond.enc d.Cond.Parts),.rsl 8 (List.map Step.enc d.Then),.rsl 8 (List.map Step.enc d.Else)])) (QeA (e:=Step.enc) y (YI d) runUnderlying45 sizeOf144) ?_
  refine D 4 Z ?_
  refine Dz [] a (g _ _) Z fun O G a=>D 3 Z ?_
  obtain⟨f,z,a⟩:=bnd a
  refine DS.v (x:=(.rp [I f.Kind,I f.By,I f.Cond.Kind,I f.Cond.Var,I f.Cond.N,.rsl 4 (List.map Cond.enc f.Cond.Parts),.rsl 8 (List.map Step.enc f.Then),.rsl 8 (List.map Step.enc f.Else)])) (QeA (e:=Step.enc) z (YI f) runUnderlying45 sizeOf144) ?_
  refine D 4 Z ?_
  exact Dz [] a (g _ _) Z fun P J a=>DS.done Z (Go 10 Z (Qi a (Lr [])))
 exact Gx 1 Z (TC.le m (Gc 7 Z (Rt h 4 [])))
def F_j:Nat->(List Step)->Int->Option Int
  |0=>fun _ _=>none
  |n+1=>B_j (F_j n) n
theorem k_j(n:Nat):∀(a:List Step) (b:Int) (r:Int),F_j n a b=some r->Csm prog 38 [.rsl 8 (List.map Step.enc a),I b] [] (fun r=>I r) r:=by
  induction n with
  |zero=>intro a b r h;cases h
  |succ n ih=>intro a b r h;exact QaR _ ih n a b r h
def F_fp(n:Nat)(b:Course)(a:Int):Option (Ctl Int (Ctl Unit Bool)):=
  (bif decide (a<(b.Distances.length:Int))then((idx b.Distances a).bind fun c=>(F_i n c.Route 0).bind fun d=>(bif decide (24<d)then some true else(idx b.Distances a).bind fun e=>(bif decide (12<(e.Cutoffs.length:Int))then some true else(idx b.Distances a).bind fun f=>some (decide (60<(f.Name.length:Int))))):Option Bool).bind fun g=>(bif g then some (.done (.done false))else some (.cont (IntKind.i64.wrap (a+1))))else some (.done (.cont ())))
def F_hd(n:Nat)(b:Course)(a:Int):Option (Ctl Int (Ctl Unit Bool)):=
  (bif decide (a<(b.Mats.length:Int))then(idx b.Mats a).bind fun c=>(bif decide (60<(c.Name.length:Int))then some (.done (.done false))else some (.cont (IntKind.i64.wrap (a+1))))else some (.done (.cont ())))
def F_y(n:Nat)(a:Course):Option Bool:=
  (iter (F_fp n a) n 0:Option (Ctl Unit Bool)).bind fun d=>match d with|.cont b=>((iter (F_hd n a) n 0:Option (Ctl Unit Bool)).bind fun e=>match e with|.cont c=>(((bif decide (12<(a.Mats.length:Int))then some true else(bif decide (30<(a.Legs.length:Int))then some true else(bif decide (4<(a.Distances.length:Int))then some true else(bif decide (6<(a.Waves.length:Int))then some true else(bif decide (6<(a.Offences.length:Int))then some true else(bif decide (6<(a.Categories.length:Int))then some true else(bif decide (6<(a.Prizes.length:Int))then some true else some (decide (60<(a.Name.length:Int)))))))))):Option Bool).bind fun f=>(bif f then some false else(F_j n a.Ties 0).bind fun g=>some (decide (g<=100))))|.done c=>some c)|.done b=>some b
theorem k_y(n:Nat)(s:Course)(r:Bool)(h:F_y n s=some r):
    Csm prog 15 [.agg (Course.c s)] [] (fun r=>.bool r) r:=by
 refine Qb func15 Z Z Z ?_
 refine G0 12 Z (Bd h fun T V h=>?_)
 refine CtE (b:=T) [0] [1] (fun _=>[]) (fun _=>[]) (fun _=>rfl) ?_ (fun ab env H i g=>?_)
 ·refine G0 1 Z ?_
  refine Lp [0] [1] (fun p=>[(3,I p)]) (fun _=>[]) V (fun _=>rfl) (Lr [0]) fun p af e j=>?_
  refine G0 6 Z (Lm Z (Go 3 Z (Yt Z e (fun t e=>?_) (fun t e=>?_))))
  ·refine Gc 2 Z (Qj e ?_)
   obtain rfl:=Oj j e
   exact Gx 1 Z (Qu Z (Lr [0]))
  refine Gc 5 Z (Bd e fun k d e=>?_)
  refine Ct k [0] [1,3] (fun k=>[(39,.bool k)]) (fun _=>[]) (fun _=>rfl) ?_ (fun env H g=>?_)
  ·refine G0 4 Z (Bd d fun ag u d=>Iz u Z (Go 2 Z (Cz [] d (k_i _ _ _) Z fun ah ac d=>Go 2 Z (Is 20 d Z (fun w d=>?_) (fun w d=>?_)))))
   ·exact Go 20 Z (Cl d [0])
   ·refine Go 3 Z (Bd d fun ai x d=>Iz x Z (Go 2 Z (Lm Z (Go 3 Z (Is 30 d Z (fun y d=>?_) (fun y d=>?_))))))
    ·exact Go 10 Z (Cl d [0])
    ·refine Go 3 Z (Bd d fun W z d=>Iz z Z (Go 2 Z ?_))
     refine vX (I (W.Name.length:Int)) (Y0 Z Z runUnderlying9 Z) ?_ (gT Z)
     exact Go 3 Z (Cl d [0])
  refine Gx 1 Z (TC.le g (Cn Z e (fun B e=>?_) (fun B e=>?_)))
  ·refine Gc 8 Z (Qv e ?_)
   obtain rfl:=Oj j e
   exact Gx 1 Z (Qs (Gx 1 Z (Rt h 2 [])))
  exact Gc 8 Z (Qi e (Lr [0]))
 subst i
 refine Gx 1 Z (TC.le g (Gc 6 Z (Bd h fun X Y h=>?_)))
 refine CtE (b:=X) [0] [1] (fun _=>[]) (fun _=>[]) (fun _=>rfl) ?_ (fun ad env H i g=>?_)
 ·refine G0 1 Z ?_
  refine Lp [0] [1] (fun q=>[(4,I q)]) (fun _=>[]) Y (fun _=>rfl) (Lr [0]) fun q aj f l=>?_
  refine G0 6 Z (Lm Z (Go 3 Z (Yt Z f (fun E f=>?_) (fun E f=>?_))))
  ·refine Gc 2 Z (Qj f ?_)
   obtain rfl:=Oj l f
   exact Gx 1 Z (Qu Z (Lr [0]))
  refine Gc 9 Z (Bd f fun aa F f=>Iz F Z (Go 2 Z ?_))
  refine vX (I (aa.Name.length:Int)) (Y0 Z Z runUnderlying9 Z) ?_
  refine Go 3 Z (Cn Z f (fun G f=>?_) (fun G f=>?_))
  ·refine Gc 8 Z (Qv f ?_)
   obtain rfl:=Oj l f
   exact Gx 1 Z (Qs (Gx 1 Z (Rt h 2 [])))
  exact Gc 8 Z (Qi f (Lr [0]))
 subst i
 refine Gx 1 Z (TC.le g (Gc 2 Z (Bd h fun m a h=>?_)))
 refine Ct m [0] [1] (fun m=>[(100,.bool m)]) (fun _=>[]) (fun _=>rfl) ?_ (fun env H g=>?_)
 ·refine G0 3 Z (Lm Z (Go 2 Z (Is 59 a Z (fun J a=>?_) (fun J a=>?_))))
  ·exact Go 42 Z (Cl a [0])
  ·refine Go 2 Z (Lm Z (Go 3 Z (Is 65 a Z (fun L a=>?_) (fun L a=>?_))))
   ·exact Go 36 Z (Cl a [0])
   ·refine Go 2 Z (Lm Z (Go 3 Z (Is 71 a Z (fun M a=>?_) (fun M a=>?_))))
    ·exact Go 30 Z (Cl a [0])
    ·refine Go 2 Z (Lm Z (Go 3 Z (Is 77 a Z (fun N a=>?_) (fun N a=>?_))))
     ·exact Go 24 Z (Cl a [0])
     ·refine Go 2 Z (Lm Z (Go 3 Z (Is 83 a Z (fun O a=>?_) (fun O a=>?_))))
      ·exact Go 18 Z (Cl a [0])
      ·refine Go 2 Z (Lm Z (Go 3 Z (Is 89 a Z (fun P a=>?_) (fun P a=>?_))))
       ·exact Go 12 Z (Cl a [0])
       ·refine Go 2 Z (Lm Z (Go 3 Z (Is 95 a Z (fun Q a=>?_) (fun Q a=>?_))))
        ·exact Go 6 Z (Cl a [0])
        ·refine Go 2 Z ?_
         refine vX (I (s.Name.length:Int)) (Y0 Z Z runUnderlying9 Z) ?_ (gT Z)
         exact Go 3 Z (Cl a [0])
 refine Gx 1 Z (TC.le g (Cn Z h (fun R h=>?_) (fun R h=>?_)))
 ·exact Gc 7 Z (Rt h 2 [])
 exact Gc 6 Z (Cz [] h (k_j _ _ _) Z fun ak ae h=>Go 5 Z (Rt h 2 []))
def F_iq(n:Nat)(b:Runner)(a:Int):Option (Ctl Int (Ctl Unit (Ctl Int (Ctl Unit Bool)))):=
  (bif decide (a<(b.Worlds.length:Int))then(idx b.Worlds a).bind fun c=>(bif decide (4<(c.length:Int))then some (.done (.done (.done (.done false))))else some (.cont (IntKind.i64.wrap (a+1))))else some (.done (.cont ())))
def F_gv(n:Nat)(d:Field)(a:Int):Option (Ctl Int (Ctl Unit Bool)):=
  (bif decide (a<(d.Runners.length:Int))then(idx d.Runners a).bind fun b=>((bif decide (5<(b.Keys.length:Int))then some true else some (decide (4<(b.Worlds.length:Int)))):Option Bool).bind fun e=>(bif e then some (.done (.done false))else(iter (F_iq n b) n 0:Option (Ctl Unit (Ctl Int (Ctl Unit Bool)))).bind fun f=>match f with|.cont c=>(some (.cont (IntKind.i64.wrap (a+1))))|.done c=>some c)else some (.done (.cont ())))
def F_gp(n:Nat)(b:Field)(a:Int):Option (Ctl Int (Ctl Unit Bool)):=
  (bif decide (a<(b.Clocks.Far.length:Int))then(idx b.Clocks.Far a).bind fun c=>(bif decide (8<(c.length:Int))then some (.done (.done false))else some (.cont (IntKind.i64.wrap (a+1))))else some (.done (.cont ())))
def F_cu(n:Nat)(a:Field):Option Bool:=
  (iter (F_gv n a) n 0:Option (Ctl Unit Bool)).bind fun d=>match d with|.cont b=>((iter (F_gp n a) n 0:Option (Ctl Unit Bool)).bind fun e=>match e with|.cont c=>(((bif decide ((a.Runners.length:Int)<=6)then(bif decide ((a.Pairs.length:Int)<=3)then(bif decide ((a.Clocks.Segments.length:Int)<=4)then some (decide ((a.Clocks.Far.length:Int)<=6))else some false)else some false)else some false):Option Bool).bind fun f=>some f)|.done c=>some c)|.done b=>some b
theorem k_cu(n:Nat)(P:Field)(r:Bool)(h:F_cu n P=some r):
    Csm prog 11 [.agg (Field.c P)] [] (fun r=>.bool r) r:=by
 refine Qb func11 Z Z Z ?_
 refine G0 12 Z (Bd h fun Q R h=>?_)
 refine CtE (b:=Q) [0] [1] (fun _=>[]) (fun _=>[]) (fun _=>rfl) ?_ (fun Y env H i g=>?_)
 ·refine G0 1 Z ?_
  refine Lp [0] [1] (fun t=>[(3,I t)]) (fun _=>[]) R (fun _=>rfl) (Lr [0]) fun t ac a k=>?_
  refine G0 6 Z (Lm Z (Go 3 Z (Yt Z a (fun x a=>?_) (fun x a=>?_))))
  ·refine Gc 2 Z (Qj a ?_)
   obtain rfl:=Oj k a
   exact Gx 1 Z (Qu Z (Lr [0]))
  refine Gc 9 Z (Bd a fun ad y a=>Iz y Z (Go 7 Z (Bd a fun l j a=>?_)))
  refine Ct l [0,1] [1,3,4] (fun l=>[(28,.bool l)]) (fun _=>[]) (fun _=>rfl) ?_ (fun env H g=>?_)
  ·refine G0 3 Z (Lm Z (Go 2 Z (Is 23 j Z (fun z j=>?_) (fun z j=>?_))))
   ·exact Go 6 Z (Cl j [0,1])
   ·exact Go 2 Z (Lm Z (Go 3 Z (Cl j [0,1])))
  refine Gx 1 Z (TC.le g (Cn Z a (fun B a=>?_) (fun B a=>?_)))
  ·refine Gc 9 Z (Qv a ?_)
   obtain rfl:=Oj k a
   exact Gx 1 Z (Qs (Gx 1 Z (Rt h 2 [])))
  refine Gc 7 Z (Bd a fun T V a=>?_)
  refine CtE (b:=T) [0] [1,3] (fun _=>[]) (fun _=>[]) (fun _=>rfl) ?_ (fun aa env H i g=>?_)
  ·refine G0 1 Z ?_
   refine Lp [0,1] [1,3,4] (fun u=>[(5,I u)]) (fun _=>[]) V (fun _=>rfl) (Lr [0,1]) fun u ae d m=>?_
   refine G0 6 Z (Lm Z (Go 3 Z (Yt Z d (fun E d=>?_) (fun E d=>?_))))
   ·refine Gc 2 Z (Qj d ?_)
    obtain rfl:=Oj m d
    exact Gx 1 Z (Qu Z (Lr [0]))
   refine Gc 9 Z (Bd d fun af F d=>Iz F Z (Go 1 Z (Lm Z (Go 3 Z (Cn Z d (fun G d=>?_) (fun G d=>?_))))))
   ·refine Gc 8 Z (Qv d ?_)
    obtain rfl:=Oj m d
    refine Gx 1 Z (Qs (Gx 2 Z (Qv a ?_)))
    obtain rfl:=Oj k a
    exact Gx 1 Z (Qs (Gx 1 Z (Rt h 2 [])))
   exact Gc 8 Z (Qi d (Lr [0,1]))
  subst i
  exact Gx 2 Z (TC.le g (Gc 5 Z (Qi a (Lr [0]))))
 subst i
 refine Gx 1 Z (TC.le g (Gc 6 Z (Bd h fun W X h=>?_)))
 refine CtE (b:=W) [0] [1] (fun _=>[]) (fun _=>[]) (fun _=>rfl) ?_ (fun ab env H i g=>?_)
 ·refine G0 1 Z ?_
  refine Lp [0] [1] (fun w=>[(6,I w)]) (fun _=>[]) X (fun _=>rfl) (Lr [0]) fun w ag e p=>?_
  refine G0 7 Z (Lm Z (Go 3 Z (Yt Z e (fun J e=>?_) (fun J e=>?_))))
  ·refine Gc 2 Z (Qj e ?_)
   obtain rfl:=Oj p e
   exact Gx 1 Z (Qu Z (Lr [0]))
  refine Gc 10 Z (Bd e fun ah L e=>Iz L Z (Go 1 Z (Lm Z (Go 3 Z (Cn Z e (fun M e=>?_) (fun M e=>?_))))))
  ·refine Gc 8 Z (Qv e ?_)
   obtain rfl:=Oj p e
   exact Gx 1 Z (Qs (Gx 1 Z (Rt h 2 [])))
  exact Gc 8 Z (Qi e (Lr [0]))
 subst i
 refine Gx 1 Z (TC.le g (Gc 1 Z (Bd h fun q f h=>?_)))
 refine Ct q [] [] (fun q=>[(2,.bool q)]) (fun _=>[]) (fun _=>rfl) ?_ (fun env H g=>?_)
 ·refine G0 3 Z (Lm Z (Go 2 Z (Is 63 f Z (fun N f=>?_) (fun N f=>?_))))
  ·refine Go 2 Z (Lm Z (Go 3 Z (Is 69 f Z (fun O f=>?_) (fun O f=>?_))))
   ·refine Go 3 Z (Lm Z (Go 3 Z (Is 76 f Z (fun s f=>?_) (fun s f=>?_))))
    ·exact Go 3 Z (Lm Z (Go 4 Z (Cl f [])))
    ·exact Go 8 Z (Cl f [])
   ·exact Go 15 Z (Cl f [])
  ·exact Go 21 Z (Cl f [])
 exact Gx 1 Z (TC.le g (Gc 1 Z (Rt h 2 [])))
def F_cr(n:Nat)(a:Field)(b:Int):Option (Rank×Int):=
  (F_ai n a [b]).bind fun c=>(bif (c != 0)then some (z_Rank,c)else(F_am n a b).bind fun d=>some (d,0))
theorem k_cr(n:Nat)(b:Field)(a:Int)(r:Rank×Int)(h:F_cr n b a=some r):
    C prog 27 [.agg (Field.c b),I a] [] (RQ (fun r=>.tup [.agg (Rank.c r.1),I r.2]) (fun r=>[.cells 78 (Rank.c r.1)]) r):=by
 refine Qb func27 Z Z Z ?_
 refine G0 12 Z ?_
 refine vH (OpH.lit (xs:=[.tmp 8]) (es:=List.map (Qe .i64) [a]) Qz Z Z Z Z Z ⟨Z,trivial⟩ Z Z) ?_
 refine FE Z (Cb h (k_ai _ _ _) Z (ls (lo ln)) fun g e h=>Go 9 Z (Cn Z h (fun d h=>?_) (fun d h=>?_)))
 ·refine Gc 10 Z ?_
  obtain rfl:=Oi h
  exact Rx [1] [4,5] Z (QD Z Z (QhI.cons (Qp isAgg78 sizeOf78 Z Z Z) (QhI.cons QcF.tmp QhI.nil))) ⟨Z,Z⟩
 refine Gc 6 Z (Cd [] h (k_am _ _ _) Z fun i f h=>FE Z (Go 5 Z ?_))
 obtain rfl:=Oi h
 exact Rx [1] [4,5] Z (QD Z Z (QhI.cons (Qp isAgg78 sizeOf78 Z Z Z) (QhI.cons QcF.tmp QhI.nil))) ⟨Z,Z⟩
def F_fl(n:Nat)(c:Course)(e:Int)(f:Int)(g:Int)(b:Int):Option (Ctl Int (Ctl Unit Int)):=
  (bif decide (b<(c.Prizes.length:Int))then(idx c.Prizes b).bind fun a=>((bif (a.Distance==e)then(bif (a.Category==f)then some (a.Rank==g)else some false)else some false):Option Bool).bind fun d=>(bif d then some (.done (.done a.Amount))else some (.cont (IntKind.i64.wrap (b+1))))else some (.done (.cont ())))
def F_ar(n:Nat)(c:Course)(d:Int)(e:Int)(f:Int):Option Int:=
  (iter (F_fl n c d e f) n 0:Option (Ctl Unit Int)).bind fun b=>match b with|.cont a=>(some 0)|.done a=>some a
theorem k_ar(n:Nat)(q:Course)(s:Int)(t:Int)(u:Int)(r:Int)(h:F_ar n q s t u=some r):
    Csm prog 28 [.agg (Course.c q),I s,I t,I u] [] (fun r=>I r) r:=by
 refine Qb func28 Z Z Z ?_
 refine G0 12 Z (Bd h fun w x h=>?_)
 refine CtE (b:=w) [] [] (fun _=>[]) (fun _=>[]) (fun _=>rfl) ?_ (fun z env H y e=>?_)
 ·refine G0 1 Z ?_
  refine Lp [0] [1,2,3,4] (fun i=>[(9,I i)]) (fun _=>[]) x (fun _=>rfl) (Lr [0]) fun i B a f=>?_
  refine G0 6 Z (Lm Z (Go 3 Z (Yt Z a (fun j a=>?_) (fun j a=>?_))))
  ·refine Gc 2 Z (Qj a ?_)
   obtain rfl:=Oj f a
   exact Gx 1 Z (Qu Z (Lr []))
  refine Gc 9 Z (Bd a fun E k a=>Iz k Z (Go 6 Z (Bd a fun g d a=>?_)))
  refine Ct g [0,1] [1,2,3,4,9,10] (fun g=>[(38,.bool g)]) (fun _=>[]) (fun _=>rfl) ?_ (fun env H e=>?_)
  ·refine G0 6 Z (Is 27 d Z (fun l d=>?_) (fun l d=>?_))
   ·refine Go 6 Z (Is 33 d Z (fun m d=>?_) (fun m d=>?_))
    ·exact Go 6 Z (Cl d [0,1])
    ·exact Go 6 Z (Cl d [0,1])
   ·exact Go 12 Z (Cl d [0,1])
  refine Gx 1 Z (TC.le e (Cn Z a (fun p a=>?_) (fun p a=>?_)))
  ·refine Gc 10 Z (Qv a ?_)
   obtain rfl:=Oj f a
   exact Gx 1 Z (Qs (Gx 1 Z (Rt h 8 [])))
  exact Gc 8 Z (Qi a (Lr [0]))
 subst y
 exact Gx 1 Z (TC.le e (Gc 6 Z (Rt h 8 [])))
def F_fu(n:Nat)(b:List Int)(d:Int)(a:Int):Option (Ctl Int (Ctl Unit Bool)):=
  (bif decide (a<(b.length:Int))then(idx b a).bind fun c=>(bif (c==d)then some (.done (.done true))else some (.cont (IntKind.i64.wrap (a+1))))else some (.done (.cont ())))
def F_aq(n:Nat)(b:List Int)(c:Int):Option Bool:=
  (iter (F_fu n b c) n 0:Option (Ctl Unit Bool)).bind fun d=>match d with|.cont a=>(some false)|.done a=>some a
theorem k_aq(n:Nat)(i:List Int)(j:Int)(r:Bool)(h:F_aq n i j=some r):
    Csm prog 26 [.rsl 1 (List.map (Qe .i64) i),I j] [] (fun r=>.bool r) r:=by
 refine Qb func26 Z Z Z ?_
 refine G0 9 Z (Lm Z (Go 3 Z (Bd h fun m p h=>?_)))
 refine CtE (b:=m) [] [] (fun _=>[]) (fun _=>[]) (fun _=>rfl) ?_ (fun q env H k l=>?_)
 ·refine G0 1 Z ?_
  refine Lp [] [1,7,8] (fun d=>[(9,I d)]) (fun _=>[]) p (fun _=>rfl) (Lr []) fun d s a c=>?_
  refine G0 6 Z (Yt Z a (fun e a=>?_) (fun e a=>?_))
  ·refine Gc 2 Z (Qj a ?_)
   obtain rfl:=Oj c a
   exact Gx 1 Z (Qu Z (Lr []))
  refine Gc 6 Z (Bd a fun t f a=>Iz f Z (Go 11 Z (Cn Z a (fun g a=>?_) (fun g a=>?_))))
  ·refine Gc 8 Z (Qv a ?_)
   obtain rfl:=Oj c a
   exact Gx 1 Z (Qs (Gx 1 Z (Rt h 4 [])))
  exact Gc 7 Z (Qi a (Lr []))
 subst k
 exact Gx 1 Z (TC.le l (Gc 6 Z (Rt h 4 [])))
def F_ie(n:Nat)(j:Course)(e:Field)(k:Int)(l:Int)(c:Payment)(a:(List (Int×Bool))×Bool×Int):Option (Ctl ((List (Int×Bool))×Bool×Int) ((List (Int×Bool))×Bool)):=
  (bif decide (a.2.2<(e.Runners.length:Int))then(idx e.Runners a.2.2).bind fun f=>(F_cr n e a.2.2).bind fun b=>((bif (b.2==0)then(bif (f.Bib==c.Bib)then(bif (b.1.Kind==1)then(F_ar n j k l b.1.Lo).bind fun g=>some (g==c.Amount)else some false)else some false)else some false):Option Bool).bind fun h=>((bif h then(some (QQ a.1 b.1.Lo true)).bind fun i=>some (i,true)else some (a.1,a.2.1)):Option ((List (Int×Bool))×Bool)).bind fun d=>some (.cont (d.1,d.2,IntKind.i64.wrap (a.2.2+1)))else some (.done (a.1,a.2.1)))
def F_ha(n:Nat)(e:Course)(f:Field)(g:Int)(h:Int)(c:(List Payment)×Int)(a:(List (Int×Bool))×Int):Option (Ctl ((List (Int×Bool))×Int) (Ctl (List (Int×Bool)) Bool)):=
  (bif decide (a.2<(c.1.length:Int))then(idx c.1 a.2).bind fun d=>(iter (F_ie n e f g h d) n (a.1,false,0):Option ((List (Int×Bool))×Bool)).bind fun b=>(bif (!b.2)then some (.done (.done false))else some (.cont (b.1,IntKind.i64.wrap (a.2+1))))else some (.done (.cont a.1)))
def F_it(n:Nat)(m:Course)(l:Field)(p:Int)(q:Int)(d:(List Int)×Int)(b:List (Int×Bool))(a:Int):Option (Ctl Int (Ctl Unit Bool)):=
  (bif decide (a<=(l.Runners.length:Int))then(F_p n l a).bind fun c=>(bif (c.2 != 0)then some (.done (.done false))else((F_ar n m p q a).bind fun e=>(bif decide (0<e)then some (decide (0<(c.1.length:Int)))else some false):Option Bool).bind fun f=>((some (QG b a false)).bind fun g=>(F_aq n d.1 a).bind fun h=>(bif (f != (g != h))then some true else(some (QG b a false)).bind fun i=>(bif i then(F_aq n d.1 a).bind fun j=>some j else some false)):Option Bool).bind fun k=>(bif k then some (.done (.done false))else some (.cont (IntKind.i64.wrap (a+1)))))else some (.done (.cont ())))
def F_ew(n:Nat)(f:Course)(e:Field)(g:Int)(h:Int):Option Bool:=
  (F_fx 300).bind fun p=>(bif (!p)then some false else((F_y n f).bind fun q=>(bif (!q)then some true else(F_cu n e).bind fun k=>some (!k)):Option Bool).bind fun r=>(bif r then some true else(F_w n f e g h).bind fun c=>(F_u n f e g h).bind fun b=>((bif (c.2 != 0)then some true else some (b.2 != 0)):Option Bool).bind fun l=>(bif l then((bif (c.2==b.2)then(bif ((c.1.length:Int)==0)then some ((b.1.length:Int)==0)else some false)else some false):Option Bool).bind fun m=>some m else(iter (F_ha n f e g h c) n ([],0):Option (Ctl (List (Int×Bool)) Bool)).bind fun i=>match i with|.cont a=>((iter (F_it n f e g h b a) n 1:Option (Ctl Unit Bool)).bind fun j=>match j with|.cont d=>(some (decide ((IntKind.i64.wrap ((b.1.length:Int)+(a.length:Int)))<=(e.Runners.length:Int))))|.done d=>some d)|.done a=>some a)))
theorem k_ew(n:Nat)(a1:Course)(a2:Field)(a3:Int)(a4:Int)(r:Bool)(h:F_ew n a1 a2 a3 a4=some r):
    Csm prog 8 [.agg (Course.c a1),.agg (Field.c a2),I a3,I a4] [] (fun r=>.bool r) r:=by
 refine Qb func8 Z Z Z ?_
 refine G0 10 Z (Cz [] h (k_fx _) Z fun r1 cb h=>Go 3 Z (Cn Z h (fun bf h=>?_) (fun bf h=>?_)))
 ·exact Gc 7 Z (Rt h 8 [])
 refine Gc 4 Z (Bd h fun b6 y h=>?_)
 refine Ct b6 [0,1] [2,3,4,5] (fun b6=>[(34,.bool b6)]) (fun _=>[]) (fun _=>rfl) ?_ (fun env H g=>?_)
 ·refine G0 2 Z (Cz [] y (k_y _ _) Z fun r8 cc y=>Go 2 Z (Is 30 y Z (fun bg y=>?_) (fun bg y=>?_)))
  ·exact Go 5 Z (Cl y [0,1])
  ·exact Go 1 Z (Cz [] y (k_cu _ _) Z fun cd bo y=>Go 3 Z (Cl y [0,1]))
 refine Gx 1 Z (TC.le g (Cn Z h (fun aq h=>?_) (fun aq h=>?_)))
 ·exact Gc 7 Z (Rt h 8 [])
 refine Gc 8 Z (Cd [] h (k_w _ _ _ _ _) Z fun bh bp h=>FE Z (Go 13 Z (Cd [] h (k_u _ _ _ _ _) Z fun ao bq h=>FE Z (Go 9 Z (Bd h fun P F h=>?_)))))
 refine Ct P [0,1,2,3] [2,3,4,5,9,10,11,12] (fun P=>[(56,.bool P)]) (fun _=>[]) (fun _=>rfl) ?_ (fun env H g=>?_)
 ·refine G0 4 Z (Is 53 F Z (fun ar F=>?_) (fun ar F=>?_))
  ·exact Go 4 Z (Cl F [0,1,2,3])
  ·exact Go 4 Z (Cl F [0,1,2,3])
 refine Gx 1 Z (TC.le g (Cn Z h (fun au h=>?_) (fun au h=>?_)))
 ·refine Gc 1 Z (Bd h fun Q q h=>?_)
  refine Ct Q [] [] (fun Q=>[(8,.bool Q)]) (fun _=>[]) (fun _=>rfl) ?_ (fun env H g=>?_)
  ·refine G0 5 Z (Is 60 q Z (fun av q=>?_) (fun av q=>?_))
   ·refine Go 5 Z (Is 65 q Z (fun aw q=>?_) (fun aw q=>?_))
    ·exact Go 6 Z (Cl q [])
    ·exact Go 6 Z (Cl q [])
   ·exact Go 11 Z (Cl q [])
  exact Gx 1 Z (TC.le g (Gc 2 Z (Rt h 8 [])))
 refine Gc 4 Z ?_
 refine vH Yi ?_
 refine FE Z (Go 11 Z (Bd h fun ax ay h=>?_))
 refine CtE (b:=ax) [0,1,2,3] [2,3,4,5] (fun _=>[(11,.osl 2 0 ao.1.length 1),(13,.map 3)]) (fun j=>[(2,.row 3 1 (List.map (Qe .i64) ao.1)),(3,.map (Qm (fun x=>A.int .i64 x) A.bool j))]) (fun _=>rfl) ?_ (fun j env H R g=>?_)
 ·refine G0 1 Z ?_
  refine Lp [0,1,3,4,2] [2,3,4,5,11,13,71,72] (fun t=>[(73,I t.2)]) (fun t=>[(3,.map (Qm (fun x=>A.int .i64 x) A.bool t.1))]) ay (fun _=>rfl) (Lr [0,1,3,4,2]) fun t br e N=>?_
  refine G0 6 Z (Yt Z e (fun T e=>?_) (fun T e=>?_))
  ·refine Gc 2 Z (Qj e ?_)
   obtain rfl:=Oj N e
   exact Gx 1 Z (Qu Z (Lr [0,1,2,3]))
  refine Gc 6 Z (Bd e fun az O e=>?_)
  refine vX (.ptr 4 (Int.toNat t.2*2)) (Yv O Z runUnderlying51 sizeOf65) ?_
  refine vX (.agg (Payment.c az)) (QF Z isAgg65 sizeOf65 Z (QL O) Z Z) ?_
  refine Go 14 Z (Lm Z (Go 3 Z (Bd e fun u ba e=>?_)))
  refine Ct u [0,1,2,3,5] [2,3,4,5,11,13,71,72,73] (fun u=>[(16,.bool u.2)]) (fun u=>[(3,.map (Qm (fun x=>A.int .i64 x) A.bool u.1)),(4,.row 65 2 (List.map Payment.c bh.1))]) (fun _=>rfl) ?_ (fun env H g=>?_)
  ·refine G0 1 Z ?_
   refine Lp [0,1,2,3,5,4] [2,3,4,5,11,13,15,71,72,73,78,79] (fun s=>[(16,.bool s.2.1),(80,I s.2.2)]) (fun s=>[(3,.map (Qm (fun x=>A.int .i64 x) A.bool s.1))]) ba (fun _=>rfl) (Lr [0,1,2,3,5,4]) fun s bs i V=>?_
   refine G0 6 Z (Yt Z i (fun W i=>?_) (fun W i=>?_))
   ·refine Gc 2 Z (Qj i ?_)
    obtain rfl:=Oj V i
    exact Gx 1 Z (Q1 (Lr [0,1,2,3,5]))
   refine Gc 7 Z (Bd i fun bt X i=>Iz X Z (Go 10 Z (Cd [] i (k_cr _ _ _) Z fun bb bi i=>FE Z (Go 9 Z (Bd i fun G f i=>?_)))))
   refine Ct G [0,1,2,3,4,8,5] [2,3,4,5,11,13,15,16,19,71,72,73,78,79,80] (fun G=>[(115,.bool G)]) (fun _=>[]) (fun _=>rfl) ?_ (fun env H g=>?_)
   ·refine G0 0 Z (DSs 23 Z (D 3 Z (Jb 2 f Z Z Z (fun Y f=>?_) (fun Y f=>?_))))
    ·refine D 7 Z (Jb 9 f Z Z Z (fun aa f=>?_) (fun aa f=>?_))
     ·refine D 5 Z (Jb 14 f Z Z Z (fun ab f=>?_) (fun ab f=>?_))
      ·refine D 5 Z ?_
       exact Dz [] f (k_ar _ _ _ _ _) Z fun bu bj f=>D 2 Z (DS.done Z (Go 3 Z (Cl f [0,1,2,3,4,8,5])))
      ·exact D 8 Z (DS.done Z (Go 3 Z (Cl f [0,1,2,3,4,8,5])))
     ·exact D 13 Z (DS.done Z (Go 3 Z (Cl f [0,1,2,3,4,8,5])))
    ·exact D 20 Z (DS.done Z (Go 3 Z (Cl f [0,1,2,3,4,8,5])))
   refine Gx 1 Z (TC.le g (Bd i fun w m i=>?_))
   refine Ct w [0,1,2,3,4,6] [2,3,4,5,11,13,15,71,72,73,78,79,80] (fun w=>[(16,.bool w.2)]) (fun w=>[(3,.map (Qm (fun x=>A.int .i64 x) A.bool w.1))]) (fun _=>rfl) ?_ (fun env H g=>?_)
   ·refine G0 0 Z (Cn Z m (fun ac m=>?_) (fun ac m=>?_))
    ·refine Gc 9 Z (Bd m fun bv ad m=>?_)
     refine vU (Yz (ev:=A.bool) (k:=bb.1.Lo) (v:=true) (l:=s.1) QaE ad Z underlying76) ?_
     exact FE Z (Go 1 Z (Cl m [0,1,2,3,4,6]))
    exact Gc 1 Z (Cl m [0,1,2,3,4,6])
   exact Gx 2 Z (TC.le g (Gc 4 Z (Qi i (Lr [0,1,2,3,4,5]))))
  refine Gx 1 Z (TC.le g (Gc 6 Z (Cn Z e (fun ae e=>?_) (fun ae e=>?_))))
  ·refine Gc 8 Z (Qv e ?_)
   obtain rfl:=Oj N e
   exact Gx 1 Z (Qs (Gx 1 Z (Rt h 8 [])))
  exact Gc 7 Z (Qi e (Lr [0,1,2,3,4]))
 subst R
 refine Gx 1 Z (TC.le g (Gc 6 Z (Bd h fun bc bd h=>?_)))
 refine CtE (b:=bc) [1,2,3] [5,11,13] (fun _=>[]) (fun _=>[]) (fun _=>rfl) ?_ (fun bk env H R g=>?_)
 ·refine G0 1 Z ?_
  refine Lp [0,1,2,3] [2,3,4,5,11,13] (fun z=>[(21,I z)]) (fun _=>[]) bd (fun _=>rfl) (Lr [0,1,2,3]) fun z bw a B=>?_
  refine G0 6 Z (Lm Z (Go 3 Z (Yt Z a (fun af a=>?_) (fun af a=>?_))))
  ·refine Gc 2 Z (Qj a ?_)
   obtain rfl:=Oj B a
   exact Gx 1 Z (Qu Z (Lr [1,2,3]))
  refine Gc 8 Z (Cd [] a (k_p _ _ _) Z fun bx bl a=>FE Z (Go 14 Z (Cn Z a (fun ag a=>?_) (fun ag a=>?_))))
  ·refine Gc 9 Z (Qv a ?_)
   obtain rfl:=Oj B a
   exact Gx 1 Z (Qs (Gx 1 Z (Rt h 8 [])))
  refine Gc 3 Z (Bd a fun E p a=>?_)
  refine Ct E [0,1,2,3] [2,3,4,5,11,13,21] (fun E=>[(24,.bool E)]) (fun _=>[]) (fun _=>rfl) ?_ (fun env H g=>?_)
  ·refine G0 5 Z (Cz [] p (k_ar _ _ _ _ _) Z fun bz bm p=>Go 2 Z (Is 144 p Z (fun ah p=>?_) (fun ah p=>?_)))
   ·exact Go 6 Z (Cl p [0,1,2,3])
   ·exact Go 6 Z (Cl p [0,1,2,3])
  refine Gx 1 Z (TC.le g (Gc 1 Z (Bd a fun J d a=>?_)))
  refine Ct J [0,1,2,3] [2,3,4,5,11,13,21] (fun J=>[(167,.bool J)]) (fun _=>[]) (fun _=>rfl) ?_ (fun env H g=>?_)
  ·refine G0 0 Z (DSs 16 Z (D 3 Z ?_))
   obtain⟨L,ai,d⟩:=bnd d
   refine DS.v (x:=(.bool L)) (Yy (ev:=A.bool) (z0:=false) (k:=z) (l:=j) QaE ai underlying76 zeroValue4 ZR.bool) ?_
   refine D 2 Z ?_
   obtain⟨M,aj,d⟩:=bnd d
   refine DS.wo (x:=.bool M) ?_ ?_
   ·refine Qet (OpC.fn call26 rfl rfl rfl) (Qba.cons rfl (.inr ⟨_,_,_,_,_,rfl,rfl,List.length_map ..,rfl⟩) (Qba.cons rfl (.inl ⟨rfl,rfl⟩) Qba.nil)) (k_aq _ _ _ _ aj) (by rintro _ _ ⟨rfl,rfl⟩;rfl) ?_
    rintro _ _ ⟨rfl,rfl⟩
    exact FE Z Wp
   refine DS.v (x:=(.bool (L != M))) (Qbj runUnderlying4) ?_
   refine DS.v (x:=(.bool (E != (L != M)))) (Qbj runUnderlying4) ?_
   refine D 1 Z (Jb 9 d Z Z Z (fun ak d=>?_) (fun ak d=>?_))
   ·exact D 6 Z (DS.done Z (Go 4 Z (Cl d [0,1,2,3])))
   ·refine D 2 Z ?_
    obtain⟨be,al,d⟩:=bnd d
    refine DS.v (x:=(.bool be)) (Yy (ev:=A.bool) (z0:=false) (k:=z) (l:=j) QaE al underlying76 zeroValue4 ZR.bool) ?_ (hg:=(gT Z))
    refine D 1 Z (Jb 13 d Z Z Z (fun am d=>?_) (fun am d=>?_))
    ·exact D 2 Z (DS.done Z (Cb d (k_aq _ _ _) Z (lo (ls ln)) fun ca bn d=>Go 3 Z (Cl d [0,1,2,3])))
    ·exact D 2 Z (DS.done Z (Go 4 Z (Cl d [0,1,2,3])))
  refine Gx 1 Z (TC.le g (Cn Z a (fun an a=>?_) (fun an a=>?_)))
  ·refine Gc 8 Z (Qv a ?_)
   obtain rfl:=Oj B a
   exact Gx 1 Z (Qs (Gx 1 Z (Rt h 8 [])))
  exact Gc 8 Z (Qi a (Lr [0,1,2,3]))
 subst R
 refine Gx 1 Z (TC.le g (Gc 5 Z ?_))
 refine vX (I (j.length:Int)) (Qcb (l:=j) underlying76 Z) ?_
 exact Go 3 Z (Lm Z (Go 5 Z (Rt h 8 [])))
end Go.Sw
