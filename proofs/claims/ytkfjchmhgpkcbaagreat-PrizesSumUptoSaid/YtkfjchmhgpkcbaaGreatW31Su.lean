/- What the functions compute that PrizesSum reaches, and that their calls refine it (part 3 of 3). -/
import Derived.Test.YtkfjchmhgpkcbaaGreatW31Su2
set_option linter.unusedVariables false
set_option linter.unusedSimpArgs false
set_option maxRecDepth 100000
set_option maxHeartbeats 4000000
namespace Go.Sw
open Go.Proofs Tryz
def F_jq(n:Nat)(c:List Int)(a:Int×Int):Option (Ctl (Int×Int) (Ctl Int ((List Int)×Int))):=
  (bif decide (a.2<(c.length:Int))then(idx c a.2).bind λb=>((bif decide (b<0)then some true else some (decide (1000<b))):Option Bool).bind λd=>(bif d then some (.done (.done ([],1)))else some (.cont (IntKind.i64.wrap (a.1+b),IntKind.i64.wrap (a.2+1))))else some (.done (.cont a.1)))
def F_ie(n:Nat)(a:Int×(List money_part))(b:money_part):Option (Ctl (Int×(List money_part)) ((List Int)×Int)):=
  (app a.2 [b]).bind λc=>some (.cont (IntKind.i64.wrap (a.1-b.cents),c))
def F_jo(n:Nat)(d:Int)(g:Int×(List money_part))(e:List money_part)(a:(List Int)×Int):Option (Ctl ((List Int)×Int) (List Int)):=
  (bif decide (a.2<(e.length:Int))then(idx e a.2).bind λb=>(Qb5 256 a.1 b.index).bind λk=>(Qbs a.1 b.index (IntKind.i64.wrap (d*b.cents))).bind λc=>((bif decide (a.2<g.1)then(Qb5 256 c b.index).bind λh=>(Qb5 256 c b.index).bind λj=>(Qbs c b.index (IntKind.i64.wrap (h+d))).bind λf=>some f else some c):Option (List Int)).bind λi=>some (.cont (i,IntKind.i64.wrap (a.2+1)))else some (.done a.1))
def F_bd(n:Nat)(d:Int)(e:List Int):Option ((List Int)×Int):=
  (F_p n d).bind λr1=>(bif (r1 != 0)then some ([],300)else(bif decide (256<(e.length:Int))then some ([],1)else(iter (F_jq n e) n (0,0):Option (Ctl Int ((List Int)×Int))).bind λi=>match i with|.cont a=>(bif (a==0)then some ([],1)else((bif decide (d<0)then some (-1)else some 1):Option Int).bind λb=>(F_ez n (IntKind.i64.wrap (b*d)) e a).bind λm=>(F_fi n e (IntKind.i64.wrap (b*d)) a).bind λy38=>(Qcj (F_ie n) y38.1 (IntKind.i64.wrap (b*d),[]):Option (Ctl (Int×(List money_part)) ((List Int)×Int))).bind λj=>match j with|.cont c=>((Qcf (λx y=>F_t n x y) c.2).bind λk=>(iter (F_jo n b c k) n (List.replicate 256 0,0):Option (List Int)).bind λf=>(arr 256 f).bind λl=>(slc f 0 (e.length:Int)).bind λg=>(F_fm n g).bind λh=>some (h,0))|.done c=>some c)|.done a=>some a))
theorem k_bd(n:Nat)(a1:Int)(a2:List Int)(r:(List Int)×Int)(h:F_bd n a1 a2=some r):
    C prog 48 [I a1,.rsl 1 (List.map (Qd .i64) a2)] [] (RQ (λr=>.tup [.osl 0 0 r.1.length 1,I r.2]) (λr=>[.row 3 1 (List.map (Qd .i64) r.1)]) r):=by
 refine Qb func48 Z Z Z ?_;refine G0 10 Z (Cz [] h (k_p _ _) Z λr1 bh h=>Go 3 Z (Cn Z h (λan h=>?_) (λan h=>?_)))
 .refine Gc 8 Z ?_;obtain rfl:=Oi h;refine R2 4 5 Z Z ?_;refine En (Er (s:=4) (k:=1) (t:=3) (XY Z) Z) ?_;exact Lr [0]
 refine Gc 6 Z (Lm Z (Go 3 Z (Cn Z h (λao h=>?_) (λao h=>?_))))
 .refine Gc 8 Z ?_;obtain rfl:=Oi h;refine R2 4 5 Z Z ?_;refine En (Er (s:=4) (k:=1) (t:=3) (XY Z) Z) ?_;exact Lr [0]
 refine Gc 11 Z (Lm Z (Go 3 Z (Bd h λaq ar h=>?_)));refine Ja (b:=aq) [] [0,1] (λJ=>[(6,I J)]) Ze Zf ?_ (λJ env H au j=>?_)
 .refine G0 1 Z ?_;refine Lp [] [0,1,22,23] (λL=>[(6,I L.1),(24,I L.2)]) Ze ar Zf (Lr []) λL bi a M=>?_;refine G0 6 Z (Ya Z a (λac a=>?_) (λac a=>?_))
  .refine Gc 2 Z (Qk a ?_);obtain rfl:=Oj M a;exact Gx 1 Z (Qp Z (Lr []))
  refine Gc 6 Z (Bd a λbj ad a=>Iz ad Z (Go 6 Z (Bd a λN q a=>?_)));refine Ct N [] [0,1,6,8,22,23,24] (λN=>[(33,.bool N)]) Ze Zf ?_ (λenv H j=>?_)
  .refine G0 4 Z (Is 30 q Z (λae q=>?_) (λae q=>?_))
   .exact Go 4 Z (Cl q [])
   .exact Go 4 Z (Cl q [])
  refine Gx 1 Z (Ef j (Cn Z a (λaf a=>?_) (λaf a=>?_)))
  .refine Gc 10 Z (Qn a ?_);obtain rfl:=Oj M a;refine Gx 1 Z (Qm (Gx 1 Z ?_));obtain rfl:=Oi h;refine R2 4 5 Z Z ?_;refine En (Er (s:=4) (k:=1) (t:=3) (XY Z) Z) ?_;exact Lr [0]
  exact Gc 14 Z (Qj a (Lr []))
 subst au;refine Gx 1 Z (Ef j (Gc 7 Z (Cn Z h (λag h=>?_) (λag h=>?_))))
 .refine Gc 8 Z ?_;obtain rfl:=Oi h;refine R2 4 5 Z Z ?_;refine En (Er (s:=4) (k:=1) (t:=3) (XY Z) Z) ?_;exact Lr [0]
 refine Gc 14 Z (Bd h λO u h=>?_);refine Ct O [] [0,1,6] (λO=>[(9,I O)]) Ze Zf ?_ (λenv H j=>?_)
 .refine G0 0 Z (Cn Z u (λah u=>?_) (λah u=>?_))
  .exact Gc 3 Z (Cl u [])
  exact Gc 1 Z (Cl u [])
 refine Gx 1 Z (Ef j (Gc 11 Z ?_));refine vH (Qbf (n:=256) (k:=1) (e:=(Qd .i64)) (z:=0) zeroValue161 (by kernel_rfl) (by kernel_rfl) (by kernel_rfl) Z) ?_;refine FE Z (Go 13 Z (Cd [] h (k_ez _ _ _ _) Z λbk ba h=>FE Z (Go 3 Z (Bd h λy38 hy38 h=>Bd h λbl av h=>?_))));refine Ji [3,4,5] (λB=>[.cells 3 [I B.1],.row 161 1 (List.map (Qd .i64) (List.replicate 256 0)),.cells 162 [.osl 6 0 B.2.length 3],.dead,.dead,.dead,.row 167 3 (List.map money_part.c B.2)]) av (k_fi _ _ _ _ _ hy38) Zf call126 Z Z Z Z (by decide) Z ?_ ?_ ?_
 .refine En (Q9 (i:=2) (m:=0) (t:=167) (k:=3) Z Z Z) ?_;exact Lr [0,1,2,3,4,5,6]
 .intro B aw bm P bb;refine G0 4 Z (And.intro Z ?_);refine G0 5 Z ?_;refine vH (El (xs:=[.tmp 51]) (es:=List.map money_part.c [aw]) Qmi Z Z Z Z Z ⟨Z,trivial⟩ Z Z) ?_;refine FE Z (Bd P λbn ai P=>?_);refine vH (QM (e:=money_part.c) ai Qmi runUnderlying162 (YI (i:=8))) ?_;exact FE Z (Go 11 Z (QaI P (Lr [0,1,2,3,4,5,9])))
 rintro bo rfl;refine Gx 5 Z (Bd h λbp w h=>?_);refine Qt [6] (OpC.fn call77 Z Z Z) (QnS (enc:=money_part.c) Qgb w (λx y c h=>k_t n x y c h) isAgg167 sizeOf167 call78 Zf Z) ?_;rintro _ _ ⟨rfl,rfl⟩;refine FE Z ?_;refine Et (Qu (s:=58) Z (congrArg (λn=>A.osl 6 0 n 3) (Qff w))) ?_;refine Et (Qo6 (i:=2) Z (congrArg (λnz=>Blk.cells 162 [.osl 6 0 nz 3]) (Qff w))) ?_;refine Go 10 Z (Bd h λE ax h=>?_);refine Ct E [1] [1,11] Ze (λE=>[(0,.row 161 1 (List.map (Qd .i64) E))]) Zf ?_ (λenv H j=>?_)
 .refine G0 1 Z ?_;refine Lp [0,1,6] [1,9,10,11,60,61] (λp=>[(62,I p.2)]) (λp=>[(1,.row 161 1 (List.map (Qd .i64) p.1))]) ax Zf (Lr [0,1,6]) λp bq d aj=>?_;refine G0 6 Z (Ya Z d (λak d=>?_) (λak d=>?_))
  .refine Gc 2 Z (Qk d ?_);obtain rfl:=Oj aj d;exact Gx 1 Z (Q1 (Lr [1]))
  refine Gc 7 Z (Bd d λF Q d=>?_);refine vX (.ptr 2 (Int.toNat p.2*3)) (QN Q Z runUnderlying162 sizeOf167) ?_;refine vX (.agg (money_part.c F)) (Qy Z isAgg167 sizeOf167 Z (Qo Q) Z Z) ?_;refine Go 13 Z (Bd d λbr R d=>?_);refine vX (.ptr 1 (Int.toNat F.index*1)) (YZ (n:=256) (k:=1) (l:=p.1) R runUnderlying161 sizeOf3 Z) ?_;refine Bd d λab al d=>?_;refine vU (Jn (e:=(Qd .i64)) (k:=1) (f:=0) (Qaf R).2 al sizeOf3 Z Z) ?_;refine FE Z (Go 9 Z (Bd d λT g d=>?_));refine Ct T [0,1,2] [1,9,10,11,60,61,62] Ze (λT=>[(1,.row 161 1 (List.map (Qd .i64) T))]) Zf ?_ (λenv H j=>?_)
  .refine G0 0 Z (Cn Z g (λam g=>?_) (λam g=>?_))
   .refine Gc 3 Z (Bd g λay V g=>?_);refine vX (.ptr 1 (Int.toNat F.index*1)) (YZ (n:=256) (k:=1) (l:=ab) V runUnderlying161 sizeOf3 Z) ?_;refine vX (I ay) (Ey Z isAgg3 Z (Qo (Qaf V).2)) ?_;refine Go 2 Z (Bd g λbc G g=>?_);refine vX (.ptr 1 (Int.toNat F.index*1)) (YZ (n:=256) (k:=1) (l:=ab) G runUnderlying161 sizeOf3 Z) ?_;refine Bd g λbd X g=>?_;refine vU (Jn (e:=(Qd .i64)) (k:=1) (f:=0) (Qaf G).2 X sizeOf3 Z Z) ?_;exact FE Z (Go 1 Z (Cl g [0,1,2]))
   exact Gc 1 Z (Cl g [0,1,2])
  exact Gx 2 Z (Ef j (Gc 4 Z (Qj d (Lr [0,1,2]))))
 refine Gx 1 Z (Ef j (Gc 3 Z (Lm Z (Bd h λbe Y h=>?_))));obtain⟨W,rfl⟩:=QbD Y;refine Bd h λbf aa h=>?_;refine vH (QmG (e:=(Qd .i64)) (l:=E) aa W Zf runUnderlying161 sizeOf3) ?_;refine FE Z (Cd [] h (k_fm _ _) Z λbg az h=>FE Z (Go 5 Z ?_));obtain rfl:=Oi h;exact R2 4 5 Z Z (Lr [1])
def F_jw(n:Nat)(d:Field)(i:History)(a:(List (Int×Option (List Int)))×Int):Option (Ctl ((List (Int×Option (List Int)))×Int) (Ctl (List (Int×Option (List Int))) ((List Payment)×Int))):=
  (bif decide (a.2<(d.Runners.length:Int))then(idx d.Runners a.2).bind λe=>(F_ai n d i a.2).bind λb=>(bif (b.2 != 0)then some (.done (.done ([],b.2)))else((bif decide (0<b.1)then(QgV a.1 b.1).bind λc=>(app c.1 [e.Bib]).bind λf=>(some (QW c.2 b.1 (some f))).bind λg=>some g else some a.1):Option (List (Int×Option (List Int)))).bind λh=>some (.cont (h,IntKind.i64.wrap (a.2+1))))else some (.done (.cont a.1)))
def F_il(n:Nat)(e:List (Int×Int))(b:Int×(List Int))(a:(List Int)×Int):Option (Ctl ((List Int)×Int) (List Int)):=
  (bif decide (a.2<(b.2.length:Int))then(some (QF e (IntKind.i64.wrap (b.1+a.2)) 0)).bind λc=>(app a.1 [c]).bind λd=>some (.cont (d,IntKind.i64.wrap (a.2+1)))else some (.done a.1))
def F_ej(n:Nat)(g:Int×(List Int))(b:(List Int)×Int)(a:(List (Int×Int))×Int):Option (Ctl ((List (Int×Int))×Int) (List (Int×Int))):=
  (bif decide (a.2<(b.1.length:Int))then(idx b.1 a.2).bind λc=>((bif decide (0<c)then(idx g.2 a.2).bind λd=>(some (QW a.1 d c)).bind λe=>some e else some a.1):Option (List (Int×Int))).bind λf=>some (.cont (f,IntKind.i64.wrap (a.2+1)))else some (.done a.1))
def F_dz(n:Nat)(g:List (Int×Int))(h:List (Int×Int))(c:Int×(List Int)):Option (Ctl (List (Int×Int)) ((List Payment)×Int)):=
  (iter (F_il n g c) n ([],0):Option (List Int)).bind λd=>(F_r n d).bind λa=>(bif (a.2 != 0)then some (.done ([],a.2))else(F_cd n [1] (c.2.length:Int)).bind λe=>(F_bd n a.1 e).bind λb=>(bif (b.2 != 0)then some (.done ([],b.2))else(iter (F_ej n c b) n (h,0):Option (List (Int×Int))).bind λf=>some (.cont f)))
def F_ab(n:Nat)(f:Course)(c:Field)(g:Int)(h:Int)(i:History):Option ((List Payment)×Int):=
  (F_ah n f c g h).bind λr1=>(bif (r1 != 0)then some ([],r1)else(F_ec n c i).bind λj=>(bif (j != 0)then some ([],j)else(iter (F_jw n c i) n ([],0):Option (Ctl (List (Int×Option (List Int))) ((List Payment)×Int))).bind λk=>match k with|.cont a=>((F_aj n f g h).bind λl=>(F_fn n a).bind λp=>(Qcp a).bind λm=>(F_bt n m).bind λy57=>(Qcj (F_dz n l) y57.1 []:Option (Ctl (List (Int×Int)) ((List Payment)×Int))).bind λd=>match d with|.cont b=>((F_ak n b).bind λe=>some (e,0))|.done b=>some b)|.done a=>some a))
theorem k_ab(n:Nat)(X:Course)(a2:Field)(a3:Int)(a4:Int)(a5:History)(r:(List Payment)×Int)(h:F_ab n X a2 a3 a4 a5=some r):
    C prog 22 [.agg (Course.c X),.agg (Field.c a2),I a3,I a4,.agg (History.c a5)] [] (RQ (λr=>.tup [.osl 0 0 r.1.length 2,I r.2]) (λr=>[.row 65 2 (List.map Payment.c r.1),.cells 51 [.osl 0 0 r.1.length 2],.cells 33 [I r.2]]) r):=by
 refine Qb func22 Z Z Z ?_;refine G0 16 Z (Cz [] h (k_ah _ _ _ _ _) Z λr1 ca h=>Go 9 Z (Cn Z h (λbb h=>?_) (λbb h=>?_)))
 .refine Gc 9 Z ?_;obtain rfl:=Oi h;refine⟨[(10,.ptr 1 0),(11,.ptr 2 0)],[.row 65 2 (List.map Payment.c (([],r1).1)),.cells 51 [.osl 0 0 ((([],r1).1).length) 2],.cells 33 [I (([],r1).2)]],_,?_,QS Z Z (QiA.cons (Qs isAgg51 Z Z) (QiA.cons (Qs isAgg33 Z Z) QiA.nil)),Z,Z⟩;refine En (Q9 (i:=3) (m:=0) (t:=65) (k:=2) Z Z Z) ?_;exact Lr [5,3,4]
 refine Gc 7 Z (Cz [] h (k_ec _ _ _) Z λr3 cb h=>Go 9 Z (Cn Z h (λbc h=>?_) (λbc h=>?_)))
 .refine Gc 9 Z ?_;obtain rfl:=Oi h;refine⟨[(10,.ptr 1 0),(11,.ptr 2 0)],[.row 65 2 (List.map Payment.c (([],r3).1)),.cells 51 [.osl 0 0 ((([],r3).1).length) 2],.cells 33 [I (([],r3).2)]],_,?_,QS Z Z (QiA.cons (Qs isAgg51 Z Z) (QiA.cons (Qs isAgg33 Z Z) QiA.nil)),Z,Z⟩;refine En (Q9 (i:=3) (m:=0) (t:=65) (k:=2) Z Z Z) ?_;exact Lr [5,3,4]
 refine Gc 4 Z ?_;refine vH (QiE 3 1) ?_;refine FE Z (Go 8 Z (Lm Z (Go 3 Z (Bd h λbd be h=>?_))));refine Ja (b:=bd) [0,3,4,5] [2,3,5,10,11,14] Ze (λO=>[(3,.mapO false 3 1 (QQ (λx=>A.int .i64 x) (Qd .i64) O))]) Zf ?_ (λO env H bf u=>?_)
 .refine G0 1 Z ?_;refine Lp [0,1,2,3,4,5] [2,3,5,6,9,10,11,14,46,47] (λB=>[(48,I B.2)]) (λB=>[(5,.mapO false 3 1 (QQ (λx=>A.int .i64 x) (Qd .i64) B.1))]) be Zf (Lr [0,1,2,3,4,5]) λB cc d P=>?_;refine G0 6 Z (Ya Z d (λan d=>?_) (λan d=>?_))
  .refine Gc 2 Z (Qk d ?_);obtain rfl:=Oj P d;exact Gx 1 Z (Qp Z (Lr [0,3,4,5]))
  refine Gc 7 Z (Bd d λbg ao d=>Iz ao Z (Go 11 Z (Cd [] d (k_ai _ _ _ _) Z λE bn d=>FE Z (Go 14 Z (Cn Z d (λaq d=>?_) (λaq d=>?_))))))
  .refine Gc 11 Z (Qn d ?_);obtain rfl:=Oj P d;refine Gx 1 Z (Qm (Gx 1 Z ?_));obtain rfl:=Oi h;refine⟨[(10,.ptr 1 0),(11,.ptr 2 0)],[.row 65 2 (List.map Payment.c (([],E.2).1)),.cells 51 [.osl 0 0 ((([],E.2).1).length) 2],.cells 33 [I (([],E.2).2)]],_,?_,QS Z Z (QiA.cons (Qs isAgg51 Z Z) (QiA.cons (Qs isAgg33 Z Z) QiA.nil)),Z,Z⟩;refine En (Q9 (i:=3) (m:=0) (t:=65) (k:=2) Z Z Z) ?_;exact Lr [7,3,4]
  refine Gc 8 Z (Bd d λQ q d=>?_);refine Ct Q [0,1,2,3,4,5] [2,3,5,6,9,10,11,14,46,47,48] Ze (λQ=>[(5,.mapO false 3 1 (QQ (λx=>A.int .i64 x) (Qd .i64) Q))]) Zf ?_ (λenv H u=>?_)
  .refine G0 0 Z (Cn Z q (λar q=>?_) (λar q=>?_))
   .refine Gc 5 Z (Bd q λbh au q=>?_);refine vH (QkB (ek:=(λx=>A.int .i64 x)) (ev:=(Qd .i64)) (key:=E.1) (l:=B.1) (t:=3) (k:=1) Qbl au underlying110 zeroValue32) ?_;refine FE Z (Go 2 Z ?_);refine vH (El (xs:=[.tmp 71]) (es:=List.map (Qd .i64) [bg.Bib]) Qv Z Z Z Z Z ⟨Z,trivial⟩ Z Z) ?_;refine FE Z (Bd q λbi av q=>?_);refine vH (QM (e:=(Qd .i64)) av Qv runUnderlying32 (YI (i:=8))) ?_;refine FE Z (Bd q λcd aw q=>?_);refine vU (QmE (ek:=(λx=>A.int .i64 x)) (ev:=(Qd .i64)) (key:=E.1) (rows:=bi) (l:=bh.2) (j:=9) (t:=3) (k:=1) Qbl aw underlying110) ?_;exact FE Z (Go 1 Z (Cl q [0,1,2,3,4,5]))
   exact Gc 1 Z (Cl q [0,1,2,3,4,5])
  exact Gx 2 Z (Ef u (Gc 4 Z (Qj d (Lr [0,1,2,3,4,5]))))
 subst bf;refine Gx 1 Z (Ef u (Gc 5 Z (Cd [] h (k_aj _ _ _ _) Z λR bo h=>FE Z ?_)));refine vH Yu ?_;refine FE Z (Go 10 Z (Cd [3] h (k_fn _ _) Z λce bp h=>FE Z (Go 3 Z (Bd h λal ax h=>?_))));refine Ef (QmJ (i:=3) (H':=[.cells 49 (Course.c X),.cells 51 [.nils],.cells 33 [I 0],.fmap (Qz (λx=>A.int .i64 x) (λx=>A.rsl 1 (List.map (Qd .i64) x)) al),.map (Qz (λx=>A.int .i64 x) (λx=>A.int .i64 x) R),.map (Qz (λx=>A.int .i64 x) (λx=>A.int .i64 x) []),.cells 103 [.map 4],.cells 103 [.map 5],.cells 110 [.map 3]]) ax) ?_;refine Bd h λy57 hy57 h=>Bd h λbq ay h=>?_;refine Ji [8,3] (λam=>[.cells 49 (Course.c X),.cells 51 [.nils],.cells 33 [I 0],.fmap (Qz (λx=>A.int .i64 x) (λx=>A.rsl 1 (List.map (Qd .i64) x)) al),.map (Qz (λx=>A.int .i64 x) (λx=>A.int .i64 x) R),.map (Qz (λx=>A.int .i64 x) (λx=>A.int .i64 x) am),.cells 103 [.map 4],.cells 103 [.map 5],.dead]) ay (k_bt _ _ _ hy57) Zf call73 Z Z Z Z (by decide) Z (Lr [0,1,2,3,4,5,6,7,8]) ?_ ?_
 .intro am bj br a M;refine G0 8 Z (And.intro Z ?_);refine G0 10 Z (Lm Z (Go 3 Z (Bd a λz az a=>?_)));refine Ct z [0,1,2,3,4,5,6,7,8,0] [10,11,20,22] (λz=>[(23,.osl 9 0 z.length 1)]) (λz=>[(9,.row 3 1 (List.map (Qd .i64) z))]) Zf ?_ (λenv H u=>?_)
  .refine G0 1 Z ?_;refine Lp [0,1,2,3,4,5,6,7,8,0] [10,11,19,20,21,22,85] (λw=>[(23,.osl 9 0 w.1.length 1),(86,I w.2)]) (λw=>[(9,.row 3 1 (List.map (Qd .i64) w.1))]) az Zf ?_ ?_
   .refine En (Er (s:=23) (k:=1) (t:=3) (XY Z) Z) ?_;exact Lr [0,1,2,3,4,5,6,7,8,9]
   intro w bs f Y;refine G0 6 Z (Ya Z f (λaa f=>?_) (λaa f=>?_))
   .refine Gc 2 Z (Qk f ?_);obtain rfl:=Oj Y f;exact Gx 1 Z (Q1 (Lr [0,1,2,3,4,5,6,7,8,9]))
   refine Gc 16 Z (Bd f λT ab f=>?_);refine vX (I T) (YV (ev:=(λx=>A.int .i64 x)) (z0:=0) (k:=(IntKind.i64.wrap (bj.1+w.2))) (l:=R) Qbl ab underlying103 zeroValue3 Eo) ?_;refine vH (El (xs:=[.tmp 94]) (es:=List.map (Qd .i64) [T]) Qv Z Z Z Z Z ⟨Z,trivial⟩ Z Z) ?_;refine FE Z (Bd f λbt ac f=>?_);refine vH (QM (e:=(Qd .i64)) ac Qv runUnderlying32 (YI (i:=10))) ?_;exact FE Z (Go 8 Z (Qj f (Lr [0,1,2,3,4,5,6,7,8,11])))
  refine Gx 1 Z (Ef u (Gc 3 Z (Bd a λF ad a=>?_)));refine QcA (OpC.fn call30 rfl rfl rfl) (Qa3.cons rfl (.inr ⟨_,_,_,_,_,rfl,rfl,X9 ..,rfl⟩) Qa3.nil) (k_r _ _ _ ad) (by rintro _ _ ⟨rfl,rfl⟩;rfl) ?_;rintro _ _ ⟨rfl,rfl⟩;refine FE Z (Go 14 Z (Cn Z a (λae a=>?_) (λae a=>?_)))
  .refine Gc 10 Z (QiX a (Lw trivial) ?_);obtain rfl:=Ojr M a;refine Gx 2 Z ?_;obtain rfl:=Oi h;refine⟨[(10,.ptr 1 0),(11,.ptr 2 0)],[.row 65 2 (List.map Payment.c (([],F.2).1)),.cells 51 [.osl 0 0 ((([],F.2).1).length) 2],.cells 33 [I (([],F.2).2)]],_,?_,QS Z Z (QiA.cons (Qs isAgg51 Z Z) (QiA.cons (Qs isAgg33 Z Z) QiA.nil)),Z,Z⟩;refine En (Q9 (i:=1) (m:=0) (t:=65) (k:=2) Z Z Z) ?_;exact Lr [10,1,2]
  refine Gc 5 Z ?_;refine vH (El (xs:=[.const (.int .i64 1)]) (es:=List.map (Qd .i64) [1]) Qv Z Z Z Z Z ⟨Z,trivial⟩ Z Z) ?_;refine FE Z (Go 1 Z (Lm Z ?_));refine Et (YA [(108,_)] Z Z (QmL.cons Z Ep QmL.nil) (Ec (Ec (Ec (Ec (Ec (Ec (Ec (Ec (Ec (Ec (Ec (Q3 _))))))))))))) ?_;refine Cd [] a (k_cd _ _ _) Z λbu bk a=>FE Z ?_;refine Et (YA [(111,_)] Z Z (QmL.cons Z Ep QmL.nil) (Ec (Ec (Ec (Ec (Ec (Ec (Ec (Ec (Ec (Ec (Ec (Ec (Q3 _)))))))))))))) ?_;refine Cd [] a (k_bd _ _ _) Z λG bl a=>FE Z (Go 14 Z (Cn Z a (λaf a=>?_) (λaf a=>?_)))
  .refine Gc 10 Z (QiX a (Lw trivial) ?_);obtain rfl:=Ojr M a;refine Gx 2 Z ?_;obtain rfl:=Oi h;refine⟨[(10,.ptr 1 0),(11,.ptr 2 0)],[.row 65 2 (List.map Payment.c (([],G.2).1)),.cells 51 [.osl 0 0 ((([],G.2).1).length) 2],.cells 33 [I (([],G.2).2)]],_,?_,QS Z Z (QiA.cons (Qs isAgg51 Z Z) (QiA.cons (Qs isAgg33 Z Z) QiA.nil)),Z,Z⟩;refine En (Q9 (i:=1) (m:=0) (t:=65) (k:=2) Z Z Z) ?_;exact Lr [13,1,2]
  refine Gc 9 Z (Bd a λJ ba a=>?_);refine Ct J [0,1,2,3,4,5,6,7,8] [] Ze (λJ=>[(5,.map (Qz (λx=>A.int .i64 x) (λx=>A.int .i64 x) J))]) Zf ?_ (λenv H u=>?_)
  .refine G0 1 Z ?_;refine Lp [0,1,2,3,4,5,6,7,8,12] [20,22,118,119] (λy=>[(120,I y.2)]) (λy=>[(5,.map (Qz (λx=>A.int .i64 x) (λx=>A.int .i64 x) y.1))]) ba Zf (Lr [0,1,2,3,4,5,6,7,8,12]) λy bv g ag=>?_;refine G0 6 Z (Ya Z g (λah g=>?_) (λah g=>?_))
   .refine Gc 2 Z (Qk g ?_);obtain rfl:=Oj ag g;exact Gx 1 Z (Q1 (Lr [0,1,2,3,4,5,6,7,8]))
   refine Gc 7 Z (Bd g λV N g=>?_);refine vX (.ptr 9 (Int.toNat y.2*1)) (QN N Z runUnderlying32 sizeOf3) ?_;refine vX (I V) (Ey Z isAgg3 Z (Qo N)) ?_;refine Go 10 Z (Bd g λL p g=>?_);refine Ct L [0,1,2,3,4,5,6,7,8,9] [20,22,118,119,120] Ze (λL=>[(5,.map (Qz (λx=>A.int .i64 x) (λx=>A.int .i64 x) L))]) Zf ?_ (λenv H u=>?_)
   .refine G0 0 Z (Cn Z p (λai p=>?_) (λai p=>?_))
    .refine DSs 6 Z (D 3 Z ?_);obtain⟨W,aj,p⟩:=YP p;refine DS.wo (x:=.rp [I W]) ?_ ?_
     .exact Ix aj runUnderlying32 sizeOf3 Z Wp
     refine D 2 Z (Eh Z (Bd p λbw ak p=>?_));refine vU (YL (ev:=(λx=>A.int .i64 x)) (k:=W) (v:=V) (l:=y.1) Qbl ak Z underlying103) ?_;exact FE Z (Go 1 Z (Cl p [0,1,2,3,4,5,6,7,8,9]))
    exact Gc 1 Z (Cl p [0,1,2,3,4,5,6,7,8,9])
   exact Gx 2 Z (Ef u (Gc 4 Z (Qj g (Lr [0,1,2,3,4,5,6,7,8,9]))))
  exact Gx 1 Z (QaI a (En u (Lr [0,1,2,3,4,5,6,7,8])))
 rintro bx rfl;refine Gx 5 Z (Cd [5] h (k_ak _ _) Z λbz bm h=>FE Z (Go 5 Z ?_));obtain rfl:=Oi h;exact Rx [9,1,2] [10,11] Z (QS Z Z (QiA.cons (Qs isAgg51 Z Z) (QiA.cons (Qs isAgg33 Z Z) QiA.nil))) ⟨Z,Z⟩
def F_lo(n:Nat)(b:List Payment)(e:List Payment)(a:Int):Option (Ctl Int (Ctl Unit Bool)):=
  (bif decide (a<(b.length:Int))then(idx b a).bind λc=>(idx e a).bind λd=>(bif (c != d)then some (.done (.done false))else some (.cont (IntKind.i64.wrap (a+1))))else some (.done (.cont ())))
def F_bx(n:Nat)(b:List Payment)(c:List Payment):Option Bool:=
  (bif ((b.length:Int) != (c.length:Int))then some false else(iter (F_lo n b c) n 0:Option (Ctl Unit Bool)).bind λd=>match d with|.cont a=>(some true)|.done a=>some a)
theorem k_bx(n:Nat)(m:List Payment)(s:List Payment)(r:Bool)(h:F_bx n m s=some r):
    Csm prog 20 [.rsl 2 (List.map Payment.c m),.rsl 2 (List.map Payment.c s)] [] (λr=>.bool r) r:=by
 refine Qb func20 Z Z Z ?_;refine G0 9 Z (Lm Z (Go 1 Z (Lm Z (Go 3 Z (Cn Z h (λt h=>?_) (λt h=>?_))))))
 .exact Gc 7 Z (Rt h 4 [])
 refine Gc 8 Z (Bd h λu w h=>?_);refine Ja (b:=u) [] [] Ze Ze Zf ?_ (λB env H y z=>?_)
 .refine G0 1 Z ?_;refine Lp [] [0,1] (λg=>[(5,I g)]) Ze w Zf (Lr []) λg E a f=>?_;refine G0 5 Z (Lm Z (Go 3 Z (Ya Z a (λi a=>?_) (λi a=>?_))))
  .refine Gc 2 Z (Qk a ?_);obtain rfl:=Oj f a;exact Gx 1 Z (Qp Z (Lr []))
  refine Gc 5 Z (DSs 8 Z (D 2 Z ?_));obtain⟨d,j,a⟩:=YP a;refine DS.wo (x:=.rp [I d.Bib,I d.Amount]) ?_ ?_
  .exact Ix j runUnderlying51 sizeOf65 Z Wp
  refine D 3 Z ?_;obtain⟨e,k,a⟩:=YP a;refine DS.wo (x:=.rp [I e.Bib,I e.Amount]) ?_ ?_
  .exact Ix k runUnderlying51 sizeOf65 Z Wp
  refine D 1 Z (Eh Z ?_);refine vX (.bool (d != e)) (Qkz (p:=d) (q:=e) QoT Z Z) ?_;refine Go 2 Z (Cn Z a (λl a=>?_) (λl a=>?_))
  .refine Gc 8 Z (Qn a ?_);obtain rfl:=Oj f a;exact Gx 1 Z (Qm (Gx 1 Z (Rt h 4 [])))
  exact Gc 8 Z (Qj a (Lr []))
 subst y;exact Gx 1 Z (Ef z (Gc 6 Z (Rt h 4 [])))
def F_ly(n:Nat)(b:List Int)(e:List Int)(a:Int):Option (Ctl Int (Ctl Unit Bool)):=
  (bif decide (a<(b.length:Int))then(idx b a).bind λc=>(idx e a).bind λd=>(bif (c != d)then some (.done (.done false))else some (.cont (IntKind.i64.wrap (a+1))))else some (.done (.cont ())))
def F_ia(n:Nat)(b:List Int)(c:List Int):Option Bool:=
  (bif ((b.length:Int) != (c.length:Int))then some false else(iter (F_ly n b c) n 0:Option (Ctl Unit Bool)).bind λd=>match d with|.cont a=>(some true)|.done a=>some a)
theorem k_ia(n:Nat)(j:List Int)(k:List Int)(r:Bool)(h:F_ia n j k=some r):
    Csm prog 14 [.rsl 1 (List.map (Qd .i64) j),.rsl 1 (List.map (Qd .i64) k)] [] (λr=>.bool r) r:=by
 refine Qb func14 Z Z Z ?_;refine G0 9 Z (Lm Z (Go 1 Z (Lm Z (Go 3 Z (Cn Z h (λl h=>?_) (λl h=>?_))))))
 .exact Gc 7 Z (Rt h 4 [])
 refine Gc 8 Z (Bd h λm p h=>?_);refine Ja (b:=m) [] [] Ze Ze Zf ?_ (λw env H q s=>?_)
 .refine G0 1 Z ?_;refine Lp [] [0,1] (λd=>[(5,I d)]) Ze p Zf (Lr []) λd y a c=>?_;refine G0 5 Z (Lm Z (Go 3 Z (Ya Z a (λe a=>?_) (λe a=>?_))))
  .refine Gc 2 Z (Qk a ?_);obtain rfl:=Oj c a;exact Gx 1 Z (Qp Z (Lr []))
  refine Gc 5 Z (DSs 8 Z (D 2 Z ?_));obtain⟨t,f,a⟩:=YP a;refine DS.wo (x:=.rp [I t]) ?_ ?_
  .exact Ix f runUnderlying32 sizeOf3 Z Wp
  refine D 3 Z ?_;obtain⟨u,g,a⟩:=YP a;refine DS.wo (x:=.rp [I u]) ?_ ?_
  .exact Ix g runUnderlying32 sizeOf3 Z Wp
  refine D 1 Z (Eh Z (Go 3 Z (Cn Z a (λi a=>?_) (λi a=>?_))))
  .refine Gc 8 Z (Qn a ?_);obtain rfl:=Oj c a;exact Gx 1 Z (Qm (Gx 1 Z (Rt h 4 [])))
  exact Gc 8 Z (Qj a (Lr []))
 subst q;exact Gx 1 Z (Ef s (Gc 6 Z (Rt h 4 [])))
def F_gu(n:Nat):Option Bool:=
  (F_dj n [1,3]).bind λr1=>(F_br n [10,20]).bind λr2=>(F_bj n ({Name:=[115,97,109,112,108,101],Mats:=[{Name:=[108,105,110,101],Kind:=1:Mat},{Name:=[102,105,110,105,115,104],Kind:=3:Mat}],Legs:=[{From:=0,To:=1,Min:=10,Max:=100:Leg}],Distances:=[{Name:=[98,114,105,101,102],Route:=[z_Part,{z_Part with Mat:=1:Part}],Timing:=1,Cutoffs:=[],Extra:=(-1):Distance}],Waves:=[{Name:=[101,108,105,116,101],Gun:=0:Wave}],Offences:=[],Categories:=[],Prizes:=r1,Ties:=[{z_Step with Kind:=1,By:=4:Step}],Faults:=z_Faults,Fee:=0,Deadline:=0:Course}) ({Clocks:={Segments:=[],Far:=[[0]]:Clocks},Pairs:=[],Runners:=r2:Field}) 0 (-1)).bind λa=>(F_cj n ({Name:=[115,97,109,112,108,101],Mats:=[{Name:=[108,105,110,101],Kind:=1:Mat},{Name:=[102,105,110,105,115,104],Kind:=3:Mat}],Legs:=[{From:=0,To:=1,Min:=10,Max:=100:Leg}],Distances:=[{Name:=[98,114,105,101,102],Route:=[z_Part,{z_Part with Mat:=1:Part}],Timing:=1,Cutoffs:=[],Extra:=(-1):Distance}],Waves:=[{Name:=[101,108,105,116,101],Gun:=0:Wave}],Offences:=[],Categories:=[],Prizes:=r1,Ties:=[{z_Step with Kind:=1,By:=4:Step}],Faults:=z_Faults,Fee:=0,Deadline:=0:Course}) ({Clocks:={Segments:=[],Far:=[[0]]:Clocks},Pairs:=[],Runners:=r2:Field}) 0 (-1)).bind λb=>(F_bf n ({Clocks:={Segments:=[],Far:=[[0]]:Clocks},Pairs:=[],Runners:=r2:Field}) 1).bind λc=>(F_bf n ({Clocks:={Segments:=[],Far:=[[0]]:Clocks},Pairs:=[],Runners:=r2:Field}) 0).bind λl=>(F_dj n [1,2]).bind λm=>(F_br n [10,10]).bind λp=>(F_ab n ({Name:=[115,97,109,112,108,101],Mats:=[{Name:=[108,105,110,101],Kind:=1:Mat},{Name:=[102,105,110,105,115,104],Kind:=3:Mat}],Legs:=[{From:=0,To:=1,Min:=10,Max:=100:Leg}],Distances:=[{Name:=[98,114,105,101,102],Route:=[z_Part,{z_Part with Mat:=1:Part}],Timing:=1,Cutoffs:=[],Extra:=(-1):Distance}],Waves:=[{Name:=[101,108,105,116,101],Gun:=0:Wave}],Offences:=[],Categories:=[],Prizes:=m,Ties:=[{z_Step with Kind:=1,By:=4:Step}],Faults:=z_Faults,Fee:=0,Deadline:=0:Course}) ({Clocks:={Segments:=[],Far:=[[0]]:Clocks},Pairs:=[],Runners:=p:Field}) 0 (-1) ({World:=0,Offsets:=[],Choices:=[{Outcome:=0,X:=10:Choice},{Outcome:=0,X:=10:Choice}]:History})).bind λd=>(F_cj n ({Name:=[115,97,109,112,108,101],Mats:=[{Name:=[108,105,110,101],Kind:=1:Mat},{Name:=[102,105,110,105,115,104],Kind:=3:Mat}],Legs:=[{From:=0,To:=1,Min:=10,Max:=100:Leg}],Distances:=[{Name:=[98,114,105,101,102],Route:=[z_Part,{z_Part with Mat:=1:Part}],Timing:=1,Cutoffs:=[],Extra:=(-1):Distance}],Waves:=[{Name:=[101,108,105,116,101],Gun:=0:Wave}],Offences:=[],Categories:=[],Prizes:=r1,Ties:=[{z_Step with Kind:=1,By:=4:Step}],Faults:=z_Faults,Fee:=0,Deadline:=0:Course}) z_Field 0 (-1)).bind λe=>(F_bj n z_Course ({Clocks:={Segments:=[],Far:=[[0]]:Clocks},Pairs:=[],Runners:=r2:Field}) 0 (-1)).bind λf=>((bif (a.2==0)then(F_bx n a.1 [{Bib:=1,Amount:=100:Payment}]).bind λg=>(bif g then(bif (b.2==0)then(bif ((b.1.length:Int)==0)then(bif (c.2==0)then(F_ia n c.1 [1]).bind λh=>(bif h then some (l.2==310)else some false)else some false)else some false)else some false)else some false)else some false):Option Bool).bind λi=>((bif i then(bif (d.2==0)then(F_bx n d.1 [{Bib:=1,Amount:=150:Payment},{Bib:=2,Amount:=150:Payment}]).bind λj=>(bif j then(bif (e.2==240)then some (f.2 != 0)else some false)else some false)else some false)else some false):Option Bool).bind λk=>some k
theorem k_gu(n:Nat)(r:Bool)(h:F_gu n=some r):
    Csm prog 10 [] [] (λr=>.bool r) r:=by
 refine Qb func10 Z Z Z ?_;refine G0 7 Z ?_;refine vH (El (xs:=[.const (.int .i64 1),.const (.int .i64 3)]) (es:=List.map (Qd .i64) [1,3]) Qv Z Z Z Z Z ⟨Z,Z,trivial⟩ Z Z) ?_;refine aV (.osl 0 0 ([1,3].length) 1) [.row 3 1 (List.map (Qd .i64) [1,3])] Z Z ?_;refine Et (YA [(18,_)] Z Z (QmL.cons Z Ep QmL.nil) (Ec (Q3 _))) ?_;refine Cd [] h (k_dj _ _) Z λr1 P h=>?_;refine aV (.agg [.str [115,97,109,112,108,101],.osl 1 0 ([{Name:=[108,105,110,101],Kind:=1:Mat},{Name:=[102,105,110,105,115,104],Kind:=3:Mat}].length) 2,.osl 2 0 ([{From:=0,To:=1,Min:=10,Max:=100:Leg}].length) 4,.osl 3 0 ([{Name:=[98,114,105,101,102],Route:=[z_Part,{z_Part with Mat:=1:Part}],Timing:=1,Cutoffs:=[],Extra:=(-1):Distance}].length) 5,.osl 4 0 ([{Name:=[101,108,105,116,101],Gun:=0:Wave}].length) 2,.rsl 4 (List.map Offence.c []),.rsl 3 (List.map Category.c []),.osl 5 0 r1.length 4,.osl 6 0 ([{z_Step with Kind:=1,By:=4:Step}].length) 8,I 0,I 0,I 0,I 0,I 0,I 0,I 0]) [.dead,.row 101 2 (List.map Mat.c [{Name:=[108,105,110,101],Kind:=1:Mat},{Name:=[102,105,110,105,115,104],Kind:=3:Mat}]),.row 135 4 (List.map Leg.c [{From:=0,To:=1,Min:=10,Max:=100:Leg}]),.row 99 5 (List.map Distance.c [{Name:=[98,114,105,101,102],Route:=[z_Part,{z_Part with Mat:=1:Part}],Timing:=1,Cutoffs:=[],Extra:=(-1):Distance}]),.row 139 2 (List.map Wave.c [{Name:=[101,108,105,116,101],Gun:=0:Wave}]),.row 74 4 (List.map Prize.c r1),.row 144 8 (List.map Step.enc [{z_Step with Kind:=1,By:=4:Step}]),.cells 49 [.str [115,97,109,112,108,101],.osl 1 0 ([{Name:=[108,105,110,101],Kind:=1:Mat},{Name:=[102,105,110,105,115,104],Kind:=3:Mat}].length) 2,.osl 2 0 ([{From:=0,To:=1,Min:=10,Max:=100:Leg}].length) 4,.osl 3 0 ([{Name:=[98,114,105,101,102],Route:=[z_Part,{z_Part with Mat:=1:Part}],Timing:=1,Cutoffs:=[],Extra:=(-1):Distance}].length) 5,.osl 4 0 ([{Name:=[101,108,105,116,101],Gun:=0:Wave}].length) 2,.rsl 4 (List.map Offence.c []),.rsl 3 (List.map Category.c []),.osl 5 0 r1.length 4,.osl 6 0 ([{z_Step with Kind:=1,By:=4:Step}].length) 8,I 0,I 0,I 0,I 0,I 0,I 0,I 0]] Z Z ?_;refine vH (El (xs:=[.const (.int .i64 10),.const (.int .i64 20)]) (es:=List.map (Qd .i64) [10,20]) Qv Z Z Z Z Z ⟨Z,Z,trivial⟩ Z Z) ?_;refine aV (.osl 8 0 ([10,20].length) 1) [_,_,_,_,_,_,_,_,.row 3 1 (List.map (Qd .i64) [10,20])] Z Z ?_;refine Et (YA [(20,_)] Z Z (QmL.cons Z Ep QmL.nil) (Ec (Ec (Ec (Ec (Ec (Ec (Ec (Ec (Ec (Q3 _))))))))))) ?_;refine Cd [] h (k_br _ _) Z λr2 Q h=>?_;refine aV (.agg [.rsl 3 (List.map Segment.c []),.osl 9 0 ([[0]].length) 1,.rsl 2 (List.map Pair.c []),.osl 10 0 r2.length 3]) [_,_,_,_,_,_,_,_,.dead,.row 32 1 (List.map (YC 1 (Qd .i64)) [[0]]),.row 68 3 (List.map Runner.c r2),.cells 29 [.rsl 3 (List.map Segment.c []),.osl 9 0 ([[0]].length) 1,.rsl 2 (List.map Pair.c []),.osl 10 0 r2.length 3]] Z Z ?_;refine Go 10 Z ?_;refine Et (YA [(19,_),(23,_)] Z Z (QmL.cons Z (FzA.agg (Ed (Ee _) (Ed Ep (Ek _)))) (QmL.cons Z (FzA.agg (Ed (Ee _) (Ed Ep (Ek _)))) QmL.nil)) (Ec (Ec (Ec (Ec (Ec (Ec (Ec (FzH.cells (Ed (Ee _) (Ed Ep (Ek _))) (Ec (Ec (Ec (Ec (FzH.cells (Ed (Ee _) (Ed Ep (Ek _))) (Q3 _))))))))))))))) ?_;refine Et (YA [(19,_),(23,_)] Z Z (QmL.cons Z (FzA.agg (Ed (Ee _) (Ed (Ee _) (Ed Ep (Ek _))))) (QmL.cons Z (FzA.agg (Ed (Ee _) (Ed (Ee _) (Ed Ep (Ek _))))) QmL.nil)) (Ec (Ec (Ec (Ec (Ec (Ec (Ec (FzH.cells (Ed (Ee _) (Ed (Ee _) (Ed Ep (Ek _)))) (Ec (Ec (Ec (Ec (FzH.cells (Ed (Ee _) (Ed (Ee _) (Ed Ep (Ek _)))) (Q3 _))))))))))))))) ?_;refine Et (YA [(19,_),(23,_)] Z Z (QmL.cons Z (FzA.agg (Ed (Ee _) (Ed (Ee _) (Ed (Ee _) (Ed Ep (Ek _)))))) (QmL.cons Z (FzA.agg (Ed (Ee _) (Ed (Ee _) (Ed (Ee _) (Ed Ep (Ek _)))))) QmL.nil)) (Ec (Ec (Ec (Ec (Ec (Ec (Ec (FzH.cells (Ed (Ee _) (Ed (Ee _) (Ed (Ee _) (Ed Ep (Ek _))))) (Ec (Ec (Ec (Ec (FzH.cells (Ed (Ee _) (Ed (Ee _) (Ed (Ee _) (Ed Ep (Ek _))))) (Q3 _))))))))))))))) ?_;refine Et (YA [(19,_),(23,_)] Z Z (QmL.cons Z (FzA.agg (Ed (Ee _) (Ed (Ee _) (Ed (Ee _) (Ed (Ee _) (Ed Ep (Ek _))))))) (QmL.cons Z (FzA.agg (Ed (Ee _) (Ed (Ee _) (Ed (Ee _) (Ed (Ee _) (Ed Ep (Ek _))))))) QmL.nil)) (Ec (Ec (Ec (Ec (Ec (Ec (Ec (FzH.cells (Ed (Ee _) (Ed (Ee _) (Ed (Ee _) (Ed (Ee _) (Ed Ep (Ek _)))))) (Ec (Ec (Ec (Ec (FzH.cells (Ed (Ee _) (Ed (Ee _) (Ed (Ee _) (Ed (Ee _) (Ed Ep (Ek _)))))) (Q3 _))))))))))))))) ?_;refine Et (YA [(19,_),(23,_)] Z Z (QmL.cons Z (FzA.agg (Ed (Ee _) (Ed (Ee _) (Ed (Ee _) (Ed (Ee _) (Ed (Ee _) (Ed (Ee _) (Ed (Ee _) (Ed Ep (Ek _)))))))))) (QmL.cons Z (FzA.agg (Ed (Ee _) (Ed (Ee _) (Ed (Ee _) (Ed (Ee _) (Ed (Ee _) (Ed (Ee _) (Ed (Ee _) (Ed Ep (Ek _)))))))))) QmL.nil)) (Ec (Ec (Ec (Ec (Ec (Ec (Ec (FzH.cells (Ed (Ee _) (Ed (Ee _) (Ed (Ee _) (Ed (Ee _) (Ed (Ee _) (Ed (Ee _) (Ed (Ee _) (Ed Ep (Ek _))))))))) (Ec (Ec (Ec (Ec (FzH.cells (Ed (Ee _) (Ed (Ee _) (Ed (Ee _) (Ed (Ee _) (Ed (Ee _) (Ed (Ee _) (Ed (Ee _) (Ed Ep (Ek _))))))))) (Q3 _))))))))))))))) ?_;refine Et (YA [(19,_),(23,_)] Z Z (QmL.cons Z (FzA.agg (Ed (Ee _) (Ed (Ee _) (Ed (Ee _) (Ed (Ee _) (Ed (Ee _) (Ed (Ee _) (Ed (Ee _) (Ed (Ee _) (Ed Ep (Ek _))))))))))) (QmL.cons Z (FzA.agg (Ed (Ee _) (Ed (Ee _) (Ed (Ee _) (Ed (Ee _) (Ed (Ee _) (Ed (Ee _) (Ed (Ee _) (Ed (Ee _) (Ed Ep (Ek _))))))))))) QmL.nil)) (Ec (Ec (Ec (Ec (Ec (Ec (Ec (FzH.cells (Ed (Ee _) (Ed (Ee _) (Ed (Ee _) (Ed (Ee _) (Ed (Ee _) (Ed (Ee _) (Ed (Ee _) (Ed (Ee _) (Ed Ep (Ek _)))))))))) (Ec (Ec (Ec (Ec (FzH.cells (Ed (Ee _) (Ed (Ee _) (Ed (Ee _) (Ed (Ee _) (Ed (Ee _) (Ed (Ee _) (Ed (Ee _) (Ed (Ee _) (Ed Ep (Ek _)))))))))) (Q3 _))))))))))))))) ?_;refine Et (YA [(21,_),(24,_)] Z Z (QmL.cons Z (FzA.agg (Ed (Ee _) (Ed Ep (Ek _)))) (QmL.cons Z (FzA.agg (Ed (Ee _) (Ed Ep (Ek _)))) QmL.nil)) (Ec (Ec (Ec (Ec (Ec (Ec (Ec (Ec (Ec (Ec (Ec (FzH.cells (Ed (Ee _) (Ed Ep (Ek _))) (Ec (FzH.cells (Ed (Ee _) (Ed Ep (Ek _))) (Q3 _)))))))))))))))) ?_;refine Et (YA [(21,_),(24,_)] Z Z (QmL.cons Z (FzA.agg (Ed (Ee _) (Ed (Ee _) (Ed (Ee _) (Ed Ep (Ek _)))))) (QmL.cons Z (FzA.agg (Ed (Ee _) (Ed (Ee _) (Ed (Ee _) (Ed Ep (Ek _)))))) QmL.nil)) (Ec (Ec (Ec (Ec (Ec (Ec (Ec (Ec (Ec (Ec (Ec (FzH.cells (Ed (Ee _) (Ed (Ee _) (Ed (Ee _) (Ed Ep (Ek _))))) (Ec (FzH.cells (Ed (Ee _) (Ed (Ee _) (Ed (Ee _) (Ed Ep (Ek _))))) (Q3 _)))))))))))))))) ?_;refine Cd [] h (k_bj _ _ _ _ _) Z λm R h=>?_;refine aV (.tup [.osl 14 0 m.1.length 2,I m.2]) [_,.dead,.dead,.dead,.dead,.dead,.dead,.cells 49 [.str [115,97,109,112,108,101],.rsl 2 (List.map Mat.c [{Name:=[108,105,110,101],Kind:=1:Mat},{Name:=[102,105,110,105,115,104],Kind:=3:Mat}]),.rsl 4 (List.map Leg.c [{From:=0,To:=1,Min:=10,Max:=100:Leg}]),.rsl 5 (List.map Distance.c [{Name:=[98,114,105,101,102],Route:=[z_Part,{z_Part with Mat:=1:Part}],Timing:=1,Cutoffs:=[],Extra:=(-1):Distance}]),.rsl 2 (List.map Wave.c [{Name:=[101,108,105,116,101],Gun:=0:Wave}]),.rsl 4 (List.map Offence.c []),.rsl 3 (List.map Category.c []),.rsl 4 (List.map Prize.c r1),.rsl 8 (List.map Step.enc [{z_Step with Kind:=1,By:=4:Step}]),I 0,I 0,I 0,I 0,I 0,I 0,I 0],_,.dead,.dead,.cells 29 [.rsl 3 (List.map Segment.c []),.rsl 1 (List.map (YC 1 (Qd .i64)) [[0]]),.rsl 2 (List.map Pair.c []),.rsl 3 (List.map Runner.c r2)],.cells 49 [.str [115,97,109,112,108,101],.rsl 2 (List.map Mat.c [{Name:=[108,105,110,101],Kind:=1:Mat},{Name:=[102,105,110,105,115,104],Kind:=3:Mat}]),.rsl 4 (List.map Leg.c [{From:=0,To:=1,Min:=10,Max:=100:Leg}]),.rsl 5 (List.map Distance.c [{Name:=[98,114,105,101,102],Route:=[z_Part,{z_Part with Mat:=1:Part}],Timing:=1,Cutoffs:=[],Extra:=(-1):Distance}]),.rsl 2 (List.map Wave.c [{Name:=[101,108,105,116,101],Gun:=0:Wave}]),.rsl 4 (List.map Offence.c []),.rsl 3 (List.map Category.c []),.rsl 4 (List.map Prize.c r1),.rsl 8 (List.map Step.enc [{z_Step with Kind:=1,By:=4:Step}]),I 0,I 0,I 0,I 0,I 0,I 0,I 0],.cells 29 [.rsl 3 (List.map Segment.c []),.rsl 1 (List.map (YC 1 (Qd .i64)) [[0]]),.rsl 2 (List.map Pair.c []),.rsl 3 (List.map Runner.c r2)],.row 65 2 (List.map Payment.c m.1)] Z Z ?_;refine Go 11 Z (Cd [] h (k_cj _ _ _ _ _) Z λp T h=>?_);refine aV (.tup [.osl 15 0 p.1.length 1,I p.2]) [_,_,_,_,_,_,_,_,_,_,_,_,_,_,_,.row 3 1 (List.map (Qd .i64) p.1)] Z Z ?_;refine Go 10 Z (Cd [] h (k_bf _ _ _) Z λq V h=>?_);refine aV (.tup [.osl 16 0 q.1.length 1,I q.2]) [_,_,_,_,_,_,_,_,_,_,_,_,_,_,_,_,.row 3 1 (List.map (Qd .i64) q.1)] Z Z ?_;refine Go 10 Z (Cd [] h (k_bf _ _ _) Z λs W h=>?_);refine aV (.tup [.osl 17 0 s.1.length 1,I s.2]) [_,_,_,_,_,_,_,_,_,_,_,_,_,_,_,_,_,.row 3 1 (List.map (Qd .i64) s.1)] Z Z ?_;refine Go 9 Z ?_;refine vH (El (xs:=[.const (.int .i64 1),.const (.int .i64 2)]) (es:=List.map (Qd .i64) [1,2]) Qv Z Z Z Z Z ⟨Z,Z,trivial⟩ Z Z) ?_;refine aV (.osl 18 0 ([1,2].length) 1) [_,_,_,_,_,_,_,_,_,_,_,_,_,_,_,_,_,_,.row 3 1 (List.map (Qd .i64) [1,2])] Z Z ?_;refine Et (YA [(45,_)] Z Z (QmL.cons Z Ep QmL.nil) (Ec (Ec (Ec (Ec (Ec (Ec (Ec (Ec (Ec (Ec (Ec (Ec (Ec (Ec (Ec (Ec (Ec (Ec (Ec (Q3 _))))))))))))))))))))) ?_;refine Cd [] h (k_dj _ _) Z λk Y h=>?_;refine aV (.agg [.str [115,97,109,112,108,101],.osl 19 0 ([{Name:=[108,105,110,101],Kind:=1:Mat},{Name:=[102,105,110,105,115,104],Kind:=3:Mat}].length) 2,.osl 20 0 ([{From:=0,To:=1,Min:=10,Max:=100:Leg}].length) 4,.osl 21 0 ([{Name:=[98,114,105,101,102],Route:=[z_Part,{z_Part with Mat:=1:Part}],Timing:=1,Cutoffs:=[],Extra:=(-1):Distance}].length) 5,.osl 22 0 ([{Name:=[101,108,105,116,101],Gun:=0:Wave}].length) 2,.rsl 4 (List.map Offence.c []),.rsl 3 (List.map Category.c []),.osl 23 0 k.length 4,.osl 24 0 ([{z_Step with Kind:=1,By:=4:Step}].length) 8,I 0,I 0,I 0,I 0,I 0,I 0,I 0]) [_,_,_,_,_,_,_,_,_,_,_,_,_,_,_,_,_,_,.dead,.row 101 2 (List.map Mat.c [{Name:=[108,105,110,101],Kind:=1:Mat},{Name:=[102,105,110,105,115,104],Kind:=3:Mat}]),.row 135 4 (List.map Leg.c [{From:=0,To:=1,Min:=10,Max:=100:Leg}]),.row 99 5 (List.map Distance.c [{Name:=[98,114,105,101,102],Route:=[z_Part,{z_Part with Mat:=1:Part}],Timing:=1,Cutoffs:=[],Extra:=(-1):Distance}]),.row 139 2 (List.map Wave.c [{Name:=[101,108,105,116,101],Gun:=0:Wave}]),.row 74 4 (List.map Prize.c k),.row 144 8 (List.map Step.enc [{z_Step with Kind:=1,By:=4:Step}]),.cells 49 [.str [115,97,109,112,108,101],.osl 19 0 ([{Name:=[108,105,110,101],Kind:=1:Mat},{Name:=[102,105,110,105,115,104],Kind:=3:Mat}].length) 2,.osl 20 0 ([{From:=0,To:=1,Min:=10,Max:=100:Leg}].length) 4,.osl 21 0 ([{Name:=[98,114,105,101,102],Route:=[z_Part,{z_Part with Mat:=1:Part}],Timing:=1,Cutoffs:=[],Extra:=(-1):Distance}].length) 5,.osl 22 0 ([{Name:=[101,108,105,116,101],Gun:=0:Wave}].length) 2,.rsl 4 (List.map Offence.c []),.rsl 3 (List.map Category.c []),.osl 23 0 k.length 4,.osl 24 0 ([{z_Step with Kind:=1,By:=4:Step}].length) 8,I 0,I 0,I 0,I 0,I 0,I 0,I 0]] Z Z ?_;refine vH (El (xs:=[.const (.int .i64 10),.const (.int .i64 10)]) (es:=List.map (Qd .i64) [10,10]) Qv Z Z Z Z Z ⟨Z,Z,trivial⟩ Z Z) ?_;refine aV (.osl 26 0 ([10,10].length) 1) [_,_,_,_,_,_,_,_,_,_,_,_,_,_,_,_,_,_,_,_,_,_,_,_,_,_,.row 3 1 (List.map (Qd .i64) [10,10])] Z Z ?_;refine Et (YA [(47,_)] Z Z (QmL.cons Z Ep QmL.nil) (Ec (Ec (Ec (Ec (Ec (Ec (Ec (Ec (Ec (Ec (Ec (Ec (Ec (Ec (Ec (Ec (Ec (Ec (Ec (Ec (Ec (Ec (Ec (Ec (Ec (Ec (Ec (Q3 _))))))))))))))))))))))))))))) ?_;refine Cd [] h (k_br _ _) Z λl aa h=>?_;refine aV (.agg [.rsl 3 (List.map Segment.c []),.osl 27 0 ([[0]].length) 1,.rsl 2 (List.map Pair.c []),.osl 28 0 l.length 3]) [_,_,_,_,_,_,_,_,_,_,_,_,_,_,_,_,_,_,_,_,_,_,_,_,_,_,.dead,.row 32 1 (List.map (YC 1 (Qd .i64)) [[0]]),.row 68 3 (List.map Runner.c l),.cells 29 [.rsl 3 (List.map Segment.c []),.osl 27 0 ([[0]].length) 1,.rsl 2 (List.map Pair.c []),.osl 28 0 l.length 3]] Z Z ?_;refine Go 2 Z ?_;refine vH (El (xs:=[.tmp 49,.tmp 50]) (es:=List.map Choice.c [{Outcome:=0,X:=10:Choice},{Outcome:=0,X:=10:Choice}]) el_57 Z Z Z Z Z ⟨Z,Z,trivial⟩ Z Z) ?_;refine aV (.osl 30 0 ([{Outcome:=0,X:=10:Choice},{Outcome:=0,X:=10:Choice}].length) 2) [_,_,_,_,_,_,_,_,_,_,_,_,_,_,_,_,_,_,_,_,_,_,_,_,_,_,_,_,_,_,.row 87 2 (List.map Choice.c [{Outcome:=0,X:=10:Choice},{Outcome:=0,X:=10:Choice}])] Z Z ?_;refine Go 1 Z ?_;refine Et (YA [(46,_)] Z Z (QmL.cons Z (FzA.agg (Ed (Ee _) (Ed Ep (Ek _)))) QmL.nil) (Ec (Ec (Ec (Ec (Ec (Ec (Ec (Ec (Ec (Ec (Ec (Ec (Ec (Ec (Ec (Ec (Ec (Ec (Ec (Ec (Ec (Ec (Ec (Ec (Ec (FzH.cells (Ed (Ee _) (Ed Ep (Ek _))) (Q3 _)))))))))))))))))))))))))))) ?_;refine Et (YA [(46,_)] Z Z (QmL.cons Z (FzA.agg (Ed (Ee _) (Ed (Ee _) (Ed Ep (Ek _))))) QmL.nil) (Ec (Ec (Ec (Ec (Ec (Ec (Ec (Ec (Ec (Ec (Ec (Ec (Ec (Ec (Ec (Ec (Ec (Ec (Ec (Ec (Ec (Ec (Ec (Ec (Ec (FzH.cells (Ed (Ee _) (Ed (Ee _) (Ed Ep (Ek _)))) (Q3 _)))))))))))))))))))))))))))) ?_;refine Et (YA [(46,_)] Z Z (QmL.cons Z (FzA.agg (Ed (Ee _) (Ed (Ee _) (Ed (Ee _) (Ed Ep (Ek _)))))) QmL.nil) (Ec (Ec (Ec (Ec (Ec (Ec (Ec (Ec (Ec (Ec (Ec (Ec (Ec (Ec (Ec (Ec (Ec (Ec (Ec (Ec (Ec (Ec (Ec (Ec (Ec (FzH.cells (Ed (Ee _) (Ed (Ee _) (Ed (Ee _) (Ed Ep (Ek _))))) (Q3 _)))))))))))))))))))))))))))) ?_;refine Et (YA [(46,_)] Z Z (QmL.cons Z (FzA.agg (Ed (Ee _) (Ed (Ee _) (Ed (Ee _) (Ed (Ee _) (Ed Ep (Ek _))))))) QmL.nil) (Ec (Ec (Ec (Ec (Ec (Ec (Ec (Ec (Ec (Ec (Ec (Ec (Ec (Ec (Ec (Ec (Ec (Ec (Ec (Ec (Ec (Ec (Ec (Ec (Ec (FzH.cells (Ed (Ee _) (Ed (Ee _) (Ed (Ee _) (Ed (Ee _) (Ed Ep (Ek _)))))) (Q3 _)))))))))))))))))))))))))))) ?_;refine Et (YA [(46,_)] Z Z (QmL.cons Z (FzA.agg (Ed (Ee _) (Ed (Ee _) (Ed (Ee _) (Ed (Ee _) (Ed (Ee _) (Ed (Ee _) (Ed (Ee _) (Ed Ep (Ek _)))))))))) QmL.nil) (Ec (Ec (Ec (Ec (Ec (Ec (Ec (Ec (Ec (Ec (Ec (Ec (Ec (Ec (Ec (Ec (Ec (Ec (Ec (Ec (Ec (Ec (Ec (Ec (Ec (FzH.cells (Ed (Ee _) (Ed (Ee _) (Ed (Ee _) (Ed (Ee _) (Ed (Ee _) (Ed (Ee _) (Ed (Ee _) (Ed Ep (Ek _))))))))) (Q3 _)))))))))))))))))))))))))))) ?_;refine Et (YA [(46,_)] Z Z (QmL.cons Z (FzA.agg (Ed (Ee _) (Ed (Ee _) (Ed (Ee _) (Ed (Ee _) (Ed (Ee _) (Ed (Ee _) (Ed (Ee _) (Ed (Ee _) (Ed Ep (Ek _))))))))))) QmL.nil) (Ec (Ec (Ec (Ec (Ec (Ec (Ec (Ec (Ec (Ec (Ec (Ec (Ec (Ec (Ec (Ec (Ec (Ec (Ec (Ec (Ec (Ec (Ec (Ec (Ec (FzH.cells (Ed (Ee _) (Ed (Ee _) (Ed (Ee _) (Ed (Ee _) (Ed (Ee _) (Ed (Ee _) (Ed (Ee _) (Ed (Ee _) (Ed Ep (Ek _)))))))))) (Q3 _)))))))))))))))))))))))))))) ?_;refine Et (YA [(48,_)] Z Z (QmL.cons Z (FzA.agg (Ed (Ee _) (Ed Ep (Ek _)))) QmL.nil) (Ec (Ec (Ec (Ec (Ec (Ec (Ec (Ec (Ec (Ec (Ec (Ec (Ec (Ec (Ec (Ec (Ec (Ec (Ec (Ec (Ec (Ec (Ec (Ec (Ec (Ec (Ec (Ec (Ec (FzH.cells (Ed (Ee _) (Ed Ep (Ek _))) (Q3 _)))))))))))))))))))))))))))))))) ?_;refine Et (YA [(48,_)] Z Z (QmL.cons Z (FzA.agg (Ed (Ee _) (Ed (Ee _) (Ed (Ee _) (Ed Ep (Ek _)))))) QmL.nil) (Ec (Ec (Ec (Ec (Ec (Ec (Ec (Ec (Ec (Ec (Ec (Ec (Ec (Ec (Ec (Ec (Ec (Ec (Ec (Ec (Ec (Ec (Ec (Ec (Ec (Ec (Ec (Ec (Ec (FzH.cells (Ed (Ee _) (Ed (Ee _) (Ed (Ee _) (Ed Ep (Ek _))))) (Q3 _)))))))))))))))))))))))))))))))) ?_;refine Et (YA [(51,_),(52,_)] Z Z (QmL.cons Z Ep (QmL.cons Z (FzA.agg (Ed (Ee _) (Ed (Ee _) (Ed Ep (Ek _))))) QmL.nil)) (Ec (Ec (Ec (Ec (Ec (Ec (Ec (Ec (Ec (Ec (Ec (Ec (Ec (Ec (Ec (Ec (Ec (Ec (Ec (Ec (Ec (Ec (Ec (Ec (Ec (Ec (Ec (Ec (Ec (Ec (Ec (Q3 _))))))))))))))))))))))))))))))))) ?_;refine Cd [] h (k_ab _ _ _ _ _ _) Z λd ab h=>?_;refine aV (.tup [.osl 31 0 d.1.length 2,I d.2]) [_,_,_,_,_,_,_,_,_,_,_,_,_,_,_,_,_,_,_,.dead,.dead,.dead,.dead,.dead,.dead,.cells 49 [.str [115,97,109,112,108,101],.rsl 2 (List.map Mat.c [{Name:=[108,105,110,101],Kind:=1:Mat},{Name:=[102,105,110,105,115,104],Kind:=3:Mat}]),.rsl 4 (List.map Leg.c [{From:=0,To:=1,Min:=10,Max:=100:Leg}]),.rsl 5 (List.map Distance.c [{Name:=[98,114,105,101,102],Route:=[z_Part,{z_Part with Mat:=1:Part}],Timing:=1,Cutoffs:=[],Extra:=(-1):Distance}]),.rsl 2 (List.map Wave.c [{Name:=[101,108,105,116,101],Gun:=0:Wave}]),.rsl 4 (List.map Offence.c []),.rsl 3 (List.map Category.c []),.rsl 4 (List.map Prize.c k),.rsl 8 (List.map Step.enc [{z_Step with Kind:=1,By:=4:Step}]),I 0,I 0,I 0,I 0,I 0,I 0,I 0],_,.dead,.dead,.cells 29 [.rsl 3 (List.map Segment.c []),.rsl 1 (List.map (YC 1 (Qd .i64)) [[0]]),.rsl 2 (List.map Pair.c []),.rsl 3 (List.map Runner.c l)],.dead,.row 65 2 (List.map Payment.c d.1),.cells 51 [.osl 31 0 d.1.length 2],.cells 33 [I d.2]] Z Z ?_;refine Go 11 Z (Cd [] h (k_cj _ _ _ _ _) Z λe J h=>?_);refine aV (.tup [.osl 34 0 e.1.length 1,I e.2]) [_,_,_,_,_,_,_,_,_,_,_,_,_,_,_,_,_,_,_,_,_,_,_,_,_,_,_,_,_,_,_,_,_,_,.row 3 1 (List.map (Qd .i64) e.1)] Z Z ?_;refine Go 11 Z (Cd [] h (k_bj _ _ _ _ _) Z λf L h=>?_);refine aV (.tup [.osl 35 0 f.1.length 2,I f.2]) [_,_,_,_,_,_,_,_,_,_,_,_,_,_,_,_,_,_,_,_,_,_,_,_,_,_,_,_,_,_,_,_,_,_,_,.row 65 2 (List.map Payment.c f.1)] Z Z ?_;refine Go 8 Z (Bd h λg a h=>?_);refine Ct g [31] [11,12,14,16] (λg=>[(17,.bool g)]) Ze Zf ?_ (λenv H i=>?_)
 .refine G0 4 Z (Is 70 a Z (λt a=>?_) (λt a=>?_))
  .refine Go 2 Z ?_;refine vH (El (xs:=[.tmp 72]) (es:=List.map Payment.c [{Bib:=1,Amount:=100:Payment}]) QfG Z Z Z Z Z ⟨Z,trivial⟩ Z Z) ?_ (gT Z);refine aV (.osl 36 0 ([{Bib:=1,Amount:=100:Payment}].length) 2) [_,_,_,_,_,_,_,_,_,_,_,_,_,_,_,_,_,_,_,_,_,_,_,_,_,_,_,_,_,_,_,_,_,_,_,_,.row 65 2 (List.map Payment.c [{Bib:=1,Amount:=100:Payment}])] Z Z ?_;refine Cb a (k_bx _ _ _) Z (lo (lo ln)) λac M a=>Go 2 Z (Is 76 a Z (λu a=>?_) (λu a=>?_))
   .refine Go 4 Z (Is 80 a Z (λw a=>?_) (λw a=>?_))
    .refine Go 5 Z (Is 85 a Z (λx a=>?_) (λx a=>?_))
     .refine Go 4 Z (Is 89 a Z (λy a=>?_) (λy a=>?_))
      .refine Go 1 Z ?_;refine vH (El (xs:=[.const (.int .i64 1)]) (es:=List.map (Qd .i64) [1]) Qv Z Z Z Z Z ⟨Z,trivial⟩ Z Z) ?_ (gT Z);refine aV (.osl 37 0 ([1].length) 1) [_,_,_,_,_,_,_,_,_,_,_,_,_,_,_,_,_,_,_,_,_,_,_,_,_,_,_,_,_,_,_,_,_,_,_,_,_,.row 3 1 (List.map (Qd .i64) [1])] Z Z ?_;refine Cb a (k_ia _ _ _) Z (lo (lo ln)) λad N a=>Go 2 Z (Is 94 a Z (λz a=>?_) (λz a=>?_))
       .exact Go 5 Z (Cl a [31])
       .exact Go 5 Z (Cl a [31])
      .exact Go 10 Z (Cl a [31])
     .exact Go 14 Z (Cl a [31])
    .exact Go 19 Z (Cl a [31])
   .exact Go 23 Z (Cl a [31])
  .exact Go 29 Z (Cl a [31])
 refine Gx 1 Z (Ef i (Gc 1 Z (Bd h λj b h=>?_)));refine Ct j [] [] (λj=>[(0,.bool j)]) Ze Zf ?_ (λenv H i=>?_)
 .refine G0 3 Z (Is 99 b Z (λB b=>?_) (λB b=>?_))
  .refine Go 4 Z (Is 103 b Z (λE b=>?_) (λE b=>?_))
   .refine Go 3 Z ?_;refine vH (El (xs:=[.tmp 105,.tmp 106]) (es:=List.map Payment.c [{Bib:=1,Amount:=150:Payment},{Bib:=2,Amount:=150:Payment}]) QfG Z Z Z Z Z ⟨Z,Z,trivial⟩ Z Z) ?_ (gT Z);refine aV (.osl 1 0 ([{Bib:=1,Amount:=150:Payment},{Bib:=2,Amount:=150:Payment}].length) 2) [_,.row 65 2 (List.map Payment.c [{Bib:=1,Amount:=150:Payment},{Bib:=2,Amount:=150:Payment}])] Z Z ?_;refine Cb b (k_bx _ _ _) Z (lo (lo ln)) λae O b=>Go 2 Z (Is 110 b Z (λF b=>?_) (λF b=>?_))
    .refine Go 4 Z (Is 114 b Z (λG b=>?_) (λG b=>?_))
     .exact Go 5 Z (Cl b [])
     .exact Go 5 Z (Cl b [])
    .exact Go 9 Z (Cl b [])
   .exact Go 16 Z (Cl b [])
  .exact Go 20 Z (Cl b [])
 exact Gx 1 Z (Ef i (Gc 1 Z (Rt h 0 [])))
def F_en(n:Nat)(b:List Part)(f:Int)(rec211:(List Part)->Int->Option Int)(a:Int×Int):Option (Ctl (Int×Int) Int):=
  ((bif decide (a.2<(b.length:Int))then some (decide (a.1<500))else some false):Option Bool).bind λc=>(bif c then(idx b a.2).bind λd=>(rec211 d.Parts (IntKind.i64.wrap (f+1))).bind λe=>some (.cont (IntKind.i64.wrap (a.1+e),IntKind.i64.wrap (a.2+1)))else some (.done a.1))
def B_h(rec211:(List Part)->Int->Option Int)(n:Nat)(a:List Part)(b:Int):Option Int:=
  (bif decide (20<b)then some 500 else(iter (F_en n a b rec211) n ((a.length:Int),0):Option Int).bind λc=>some c)
theorem QaU(rec211:(List Part)->Int->Option Int)(c:∀(d:List Part) (e:Int) (r:Int),rec211 d e=some r->Csm prog 37 [.rsl 3 (List.map Part.enc d),I e] [] (λr=>I r) r)(n:Nat)(d:List Part)(e:Int)(r:Int)(h:B_h rec211 n d e=some r):
    Csm prog 37 [.rsl 3 (List.map Part.enc d),I e] [] (λr=>I r) r:=by
 refine Qb func37 Z Z Z ?_;refine G0 8 Z (Lm Z (Go 10 Z (Cn Z h (λq h=>?_) (λq h=>?_))))
 .exact Gc 7 Z (Rt h 4 [])
 refine Gc 8 Z (Bd h λf s h=>?_);refine Ct f [] [] (λf=>[(5,I f)]) Ze Zf ?_ (λenv H g=>?_)
 .refine G0 1 Z ?_;refine Lp [] [0,1] (λi=>[(5,I i.1),(6,I i.2)]) Ze s Zf (Lr []) λi w a k=>?_;refine G0 2 Z (Bd a λj b a=>?_);refine Ct j [] [0,1,5,6] (λj=>[(18,.bool j)]) Ze Zf ?_ (λenv H g=>?_)
  .refine G0 3 Z (Lm Z (Go 2 Z (Is 15 b Z (λl b=>?_) (λl b=>?_))))
   .exact Go 4 Z (Cl b [])
   .exact Go 4 Z (Cl b [])
  refine Gx 1 Z (Ef g (Ya Z a (λm a=>?_) (λm a=>?_)))
  .refine Gc 2 Z (Qk a ?_);obtain rfl:=Oj k a;exact Gx 1 Z (Q1 (Lr []))
  exact Gc 8 Z (Bd a λt p a=>IzE p (Jj t) Z (Go 4 Z (Cz [] a (c _ _) Z λx u a=>Go 10 Z (Qj a (Lr [])))))
 exact Gx 1 Z (Ef g (Gc 7 Z (Rt h 4 [])))
def F_h:Nat->(List Part)->Int->Option Int
  |0=>λ_ _=>none
  |n+1=>B_h (F_h n) n
theorem k_h(n:Nat):∀(a:List Part) (b:Int) (r:Int),F_h n a b=some r->Csm prog 37 [.rsl 3 (List.map Part.enc a),I b] [] (λr=>I r) r:=by
  induction n with
  |zero=>intro a b r h;cases h
  |succ n ih=>intro a b r h;exact QaU _ ih n a b r h
def F_gd(n:Nat)(b:List Cond)(f:Int)(rec213:(List Cond)->Int->Option Int)(a:Int×Int):Option (Ctl (Int×Int) Int):=
  ((bif decide (a.2<(b.length:Int))then some (decide (a.1<500))else some false):Option Bool).bind λc=>(bif c then(idx b a.2).bind λd=>(rec213 d.Parts (IntKind.i64.wrap (f+1))).bind λe=>some (.cont (IntKind.i64.wrap (a.1+e),IntKind.i64.wrap (a.2+1)))else some (.done a.1))
def B_j(rec213:(List Cond)->Int->Option Int)(n:Nat)(a:List Cond)(b:Int):Option Int:=
  (bif decide (20<b)then some 500 else(iter (F_gd n a b rec213) n ((a.length:Int),0):Option Int).bind λc=>some c)
theorem QaN(rec213:(List Cond)->Int->Option Int)(c:∀(d:List Cond) (e:Int) (r:Int),rec213 d e=some r->Csm prog 68 [.rsl 4 (List.map Cond.enc d),I e] [] (λr=>I r) r)(n:Nat)(d:List Cond)(e:Int)(r:Int)(h:B_j rec213 n d e=some r):
    Csm prog 68 [.rsl 4 (List.map Cond.enc d),I e] [] (λr=>I r) r:=by
 refine Qb func68 Z Z Z ?_;refine G0 8 Z (Lm Z (Go 10 Z (Cn Z h (λq h=>?_) (λq h=>?_))))
 .exact Gc 7 Z (Rt h 4 [])
 refine Gc 8 Z (Bd h λf s h=>?_);refine Ct f [] [] (λf=>[(5,I f)]) Ze Zf ?_ (λenv H g=>?_)
 .refine G0 1 Z ?_;refine Lp [] [0,1] (λi=>[(5,I i.1),(6,I i.2)]) Ze s Zf (Lr []) λi w a k=>?_;refine G0 2 Z (Bd a λj b a=>?_);refine Ct j [] [0,1,5,6] (λj=>[(18,.bool j)]) Ze Zf ?_ (λenv H g=>?_)
  .refine G0 3 Z (Lm Z (Go 2 Z (Is 15 b Z (λl b=>?_) (λl b=>?_))))
   .exact Go 4 Z (Cl b [])
   .exact Go 4 Z (Cl b [])
  refine Gx 1 Z (Ef g (Ya Z a (λm a=>?_) (λm a=>?_)))
  .refine Gc 2 Z (Qk a ?_);obtain rfl:=Oj k a;exact Gx 1 Z (Q1 (Lr []))
  exact Gc 8 Z (Bd a λt p a=>IzE p (Qao t) Z (Go 4 Z (Cz [] a (c _ _) Z λx u a=>Go 10 Z (Qj a (Lr [])))))
 exact Gx 1 Z (Ef g (Gc 7 Z (Rt h 4 [])))
def F_j:Nat->(List Cond)->Int->Option Int
  |0=>λ_ _=>none
  |n+1=>B_j (F_j n) n
theorem k_j(n:Nat):∀(a:List Cond) (b:Int) (r:Int),F_j n a b=some r->Csm prog 68 [.rsl 4 (List.map Cond.enc a),I b] [] (λr=>I r) r:=by
  induction n with
  |zero=>intro a b r h;cases h
  |succ n ih=>intro a b r h;exact QaN _ ih n a b r h
def F_fv(n:Nat)(b:List Step)(c:Int)(rec212:(List Step)->Int->Option Int)(a:Int×Int):Option (Ctl (Int×Int) Int):=
  ((bif decide (a.2<(b.length:Int))then some (decide (a.1<500))else some false):Option Bool).bind λd=>(bif d then(idx b a.2).bind λe=>(F_j n [e.Cond] 0).bind λf=>(idx b a.2).bind λg=>(rec212 g.Then (IntKind.i64.wrap (c+1))).bind λh=>(idx b a.2).bind λi=>(rec212 i.Else (IntKind.i64.wrap (c+1))).bind λj=>some (.cont (IntKind.i64.wrap ((IntKind.i64.wrap ((IntKind.i64.wrap (a.1+f))+h))+j),IntKind.i64.wrap (a.2+1)))else some (.done a.1))
def B_g(rec212:(List Step)->Int->Option Int)(n:Nat)(a:List Step)(b:Int):Option Int:=
  (bif decide (20<b)then some 500 else(iter (F_fv n a b rec212) n ((a.length:Int),0):Option Int).bind λc=>some c)
theorem QaM(rec212:(List Step)->Int->Option Int)(g:∀(j:List Step) (k:Int) (r:Int),rec212 j k=some r->Csm prog 38 [.rsl 8 (List.map Step.enc j),I k] [] (λr=>I r) r)(n:Nat)(j:List Step)(k:Int)(r:Int)(h:B_g rec212 n j k=some r):
    Csm prog 38 [.rsl 8 (List.map Step.enc j),I k] [] (λr=>I r) r:=by
 refine Qb func38 Z Z Z ?_;refine G0 8 Z (Lm Z (Go 10 Z (Cn Z h (λB h=>?_) (λB h=>?_))))
 .exact Gc 7 Z (Rt h 4 [])
 refine Gc 8 Z (Bd h λl E h=>?_);refine Ct l [] [] (λl=>[(5,I l)]) Ze Zf ?_ (λenv H m=>?_)
 .refine G0 1 Z ?_;refine Lp [] [0,1] (λp=>[(5,I p.1),(6,I p.2)]) Ze E Zf (Lr []) λp L a s=>?_;refine G0 2 Z (Bd a λq i a=>?_);refine Ct q [] [0,1,5,6] (λq=>[(18,.bool q)]) Ze Zf ?_ (λenv H m=>?_)
  .refine G0 3 Z (Lm Z (Go 2 Z (Is 15 i Z (λt i=>?_) (λt i=>?_))))
   .exact Go 4 Z (Cl i [])
   .exact Go 4 Z (Cl i [])
  refine Gx 1 Z (Ef m (Ya Z a (λu a=>?_) (λu a=>?_)))
  .refine Gc 2 Z (Qk a ?_);obtain rfl:=Oj s a;exact Gx 1 Z (Q1 (Lr []))
  refine Gc 4 Z (DSs 26 Z (D 3 Z ?_));obtain⟨b,w,a⟩:=YP a;refine DS.v (x:=(.rp [I b.Kind,I b.By,I b.Cond.Kind,I b.Cond.Var,I b.Cond.N,.rsl 4 (List.map Cond.enc b.Cond.Parts),.rsl 8 (List.map Step.enc b.Then),.rsl 8 (List.map Step.enc b.Else)])) (QeU (e:=Step.enc) w (YT b) runUnderlying45 sizeOf144) ?_;refine D 2 Z ?_;refine DS.wo (x:=.rsl 4 (List.map Cond.enc [b.Cond])) ?_ ?_
  .refine vH (QcN (xs:=[.tmp 26]) (es:=[Cond.c b.Cond]) QoU Z Z Z Z Z ⟨Z,trivial⟩ Z Z) ?_;refine Qmw (x:=(.rsl 4 (List.map Cond.enc [b.Cond]))) (H:=[]) (by simp[Qao]) Z ?_;exact Wp
  refine Dz [] a (k_j _ _ _) Z λM F a=>D 3 Z ?_;obtain⟨d,y,a⟩:=YP a;refine DS.v (x:=(.rp [I d.Kind,I d.By,I d.Cond.Kind,I d.Cond.Var,I d.Cond.N,.rsl 4 (List.map Cond.enc d.Cond.Parts),.rsl 8 (List.map Step.enc d.Then),.rsl 8 (List.map Step.enc d.Else)])) (QeU (e:=Step.enc) y (YT d) runUnderlying45 sizeOf144) ?_;refine D 4 Z ?_;refine Dz [] a (g _ _) Z λO G a=>D 3 Z ?_;obtain⟨f,z,a⟩:=YP a;refine DS.v (x:=(.rp [I f.Kind,I f.By,I f.Cond.Kind,I f.Cond.Var,I f.Cond.N,.rsl 4 (List.map Cond.enc f.Cond.Parts),.rsl 8 (List.map Step.enc f.Then),.rsl 8 (List.map Step.enc f.Else)])) (QeU (e:=Step.enc) z (YT f) runUnderlying45 sizeOf144) ?_;refine D 4 Z ?_;exact Dz [] a (g _ _) Z λP J a=>Eh Z (Go 10 Z (Qj a (Lr [])))
 exact Gx 1 Z (Ef m (Gc 7 Z (Rt h 4 [])))
def F_g:Nat->(List Step)->Int->Option Int
  |0=>λ_ _=>none
  |n+1=>B_g (F_g n) n
theorem k_g(n:Nat):∀(a:List Step) (b:Int) (r:Int),F_g n a b=some r->Csm prog 38 [.rsl 8 (List.map Step.enc a),I b] [] (λr=>I r) r:=by
  induction n with
  |zero=>intro a b r h;cases h
  |succ n ih=>intro a b r h;exact QaM _ ih n a b r h
def F_fu(n:Nat)(b:Course)(a:Int):Option (Ctl Int (Ctl Unit Bool)):=
  (bif decide (a<(b.Distances.length:Int))then((idx b.Distances a).bind λc=>(F_h n c.Route 0).bind λd=>(bif decide (24<d)then some true else(idx b.Distances a).bind λe=>(bif decide (12<(e.Cutoffs.length:Int))then some true else(idx b.Distances a).bind λf=>some (decide (60<(f.Name.length:Int))))):Option Bool).bind λg=>(bif g then some (.done (.done false))else some (.cont (IntKind.i64.wrap (a+1))))else some (.done (.cont ())))
def F_hn(n:Nat)(b:Course)(a:Int):Option (Ctl Int (Ctl Unit Bool)):=
  (bif decide (a<(b.Mats.length:Int))then(idx b.Mats a).bind λc=>(bif decide (60<(c.Name.length:Int))then some (.done (.done false))else some (.cont (IntKind.i64.wrap (a+1))))else some (.done (.cont ())))
def F_z(n:Nat)(a:Course):Option Bool:=
  (iter (F_fu n a) n 0:Option (Ctl Unit Bool)).bind λd=>match d with|.cont b=>((iter (F_hn n a) n 0:Option (Ctl Unit Bool)).bind λe=>match e with|.cont c=>(((bif decide (12<(a.Mats.length:Int))then some true else(bif decide (30<(a.Legs.length:Int))then some true else(bif decide (4<(a.Distances.length:Int))then some true else(bif decide (6<(a.Waves.length:Int))then some true else(bif decide (6<(a.Offences.length:Int))then some true else(bif decide (6<(a.Categories.length:Int))then some true else(bif decide (6<(a.Prizes.length:Int))then some true else some (decide (60<(a.Name.length:Int)))))))))):Option Bool).bind λf=>(bif f then some false else(F_g n a.Ties 0).bind λg=>some (decide (g<=100))))|.done c=>some c)|.done b=>some b
theorem k_z(n:Nat)(s:Course)(r:Bool)(h:F_z n s=some r):
    Csm prog 15 [.agg (Course.c s)] [] (λr=>.bool r) r:=by
 refine Qb func15 Z Z Z ?_;refine G0 12 Z (Bd h λT V h=>?_);refine Ja (b:=T) [0] [1] Ze Ze Zf ?_ (λab env H i g=>?_)
 .refine G0 1 Z ?_;refine Lp [0] [1] (λp=>[(3,I p)]) Ze V Zf (Lr [0]) λp af e j=>?_;refine G0 6 Z (Lm Z (Go 3 Z (Ya Z e (λt e=>?_) (λt e=>?_))))
  .refine Gc 2 Z (Qk e ?_);obtain rfl:=Oj j e;exact Gx 1 Z (Qp Z (Lr [0]))
  refine Gc 5 Z (Bd e λk d e=>?_);refine Ct k [0] [1,3] (λk=>[(39,.bool k)]) Ze Zf ?_ (λenv H g=>?_)
  .refine G0 4 Z (Bd d λag u d=>Iz u Z (Go 2 Z (Cz [] d (k_h _ _ _) Z λah ac d=>Go 2 Z (Is 20 d Z (λw d=>?_) (λw d=>?_)))))
   .exact Go 20 Z (Cl d [0])
   .refine Go 3 Z (Bd d λai x d=>Iz x Z (Go 2 Z (Lm Z (Go 3 Z (Is 30 d Z (λy d=>?_) (λy d=>?_))))))
    .exact Go 10 Z (Cl d [0])
    .refine Go 3 Z (Bd d λW z d=>Iz z Z (Go 2 Z ?_));refine vX (I (W.Name.length:Int)) (Je Z Z runUnderlying9 Z) ?_ (gT Z);exact Go 3 Z (Cl d [0])
  refine Gx 1 Z (Ef g (Cn Z e (λB e=>?_) (λB e=>?_)))
  .refine Gc 8 Z (Qn e ?_);obtain rfl:=Oj j e;exact Gx 1 Z (Qm (Gx 1 Z (Rt h 2 [])))
  exact Gc 8 Z (Qj e (Lr [0]))
 subst i;refine Gx 1 Z (Ef g (Gc 6 Z (Bd h λX Y h=>?_)));refine Ja (b:=X) [0] [1] Ze Ze Zf ?_ (λad env H i g=>?_)
 .refine G0 1 Z ?_;refine Lp [0] [1] (λq=>[(4,I q)]) Ze Y Zf (Lr [0]) λq aj f l=>?_;refine G0 6 Z (Lm Z (Go 3 Z (Ya Z f (λE f=>?_) (λE f=>?_))))
  .refine Gc 2 Z (Qk f ?_);obtain rfl:=Oj l f;exact Gx 1 Z (Qp Z (Lr [0]))
  refine Gc 9 Z (Bd f λaa F f=>Iz F Z (Go 2 Z ?_));refine vX (I (aa.Name.length:Int)) (Je Z Z runUnderlying9 Z) ?_;refine Go 3 Z (Cn Z f (λG f=>?_) (λG f=>?_))
  .refine Gc 8 Z (Qn f ?_);obtain rfl:=Oj l f;exact Gx 1 Z (Qm (Gx 1 Z (Rt h 2 [])))
  exact Gc 8 Z (Qj f (Lr [0]))
 subst i;refine Gx 1 Z (Ef g (Gc 2 Z (Bd h λm a h=>?_)));refine Ct m [0] [1] (λm=>[(100,.bool m)]) Ze Zf ?_ (λenv H g=>?_)
 .refine G0 3 Z (Lm Z (Go 2 Z (Is 59 a Z (λJ a=>?_) (λJ a=>?_))))
  .exact Go 42 Z (Cl a [0])
  .refine Go 2 Z (Lm Z (Go 3 Z (Is 65 a Z (λL a=>?_) (λL a=>?_))))
   .exact Go 36 Z (Cl a [0])
   .refine Go 2 Z (Lm Z (Go 3 Z (Is 71 a Z (λM a=>?_) (λM a=>?_))))
    .exact Go 30 Z (Cl a [0])
    .refine Go 2 Z (Lm Z (Go 3 Z (Is 77 a Z (λN a=>?_) (λN a=>?_))))
     .exact Go 24 Z (Cl a [0])
     .refine Go 2 Z (Lm Z (Go 3 Z (Is 83 a Z (λO a=>?_) (λO a=>?_))))
      .exact Go 18 Z (Cl a [0])
      .refine Go 2 Z (Lm Z (Go 3 Z (Is 89 a Z (λP a=>?_) (λP a=>?_))))
       .exact Go 12 Z (Cl a [0])
       .refine Go 2 Z (Lm Z (Go 3 Z (Is 95 a Z (λQ a=>?_) (λQ a=>?_))))
        .exact Go 6 Z (Cl a [0])
        .refine Go 2 Z ?_;refine vX (I (s.Name.length:Int)) (Je Z Z runUnderlying9 Z) ?_ (gT Z);exact Go 3 Z (Cl a [0])
 refine Gx 1 Z (Ef g (Cn Z h (λR h=>?_) (λR h=>?_)))
 .exact Gc 7 Z (Rt h 2 [])
 exact Gc 6 Z (Cz [] h (k_g _ _ _) Z λak ae h=>Go 5 Z (Rt h 2 []))
def F_ju(n:Nat)(b:Runner)(a:Int):Option (Ctl Int (Ctl Unit (Ctl Int (Ctl Unit Bool)))):=
  (bif decide (a<(b.Worlds.length:Int))then(idx b.Worlds a).bind λc=>(bif decide (4<(c.length:Int))then some (.done (.done (.done (.done false))))else some (.cont (IntKind.i64.wrap (a+1))))else some (.done (.cont ())))
def F_if(n:Nat)(d:Field)(a:Int):Option (Ctl Int (Ctl Unit Bool)):=
  (bif decide (a<(d.Runners.length:Int))then(idx d.Runners a).bind λb=>((bif decide (5<(b.Keys.length:Int))then some true else some (decide (4<(b.Worlds.length:Int)))):Option Bool).bind λe=>(bif e then some (.done (.done false))else(iter (F_ju n b) n 0:Option (Ctl Unit (Ctl Int (Ctl Unit Bool)))).bind λf=>match f with|.cont c=>(some (.cont (IntKind.i64.wrap (a+1))))|.done c=>some c)else some (.done (.cont ())))
def F_in(n:Nat)(b:Field)(a:Int):Option (Ctl Int (Ctl Unit Bool)):=
  (bif decide (a<(b.Clocks.Far.length:Int))then(idx b.Clocks.Far a).bind λc=>(bif decide (8<(c.length:Int))then some (.done (.done false))else some (.cont (IntKind.i64.wrap (a+1))))else some (.done (.cont ())))
def F_dc(n:Nat)(a:Field):Option Bool:=
  (iter (F_if n a) n 0:Option (Ctl Unit Bool)).bind λd=>match d with|.cont b=>((iter (F_in n a) n 0:Option (Ctl Unit Bool)).bind λe=>match e with|.cont c=>(((bif decide ((a.Runners.length:Int)<=6)then(bif decide ((a.Pairs.length:Int)<=3)then(bif decide ((a.Clocks.Segments.length:Int)<=4)then some (decide ((a.Clocks.Far.length:Int)<=6))else some false)else some false)else some false):Option Bool).bind λf=>some f)|.done c=>some c)|.done b=>some b
theorem k_dc(n:Nat)(P:Field)(r:Bool)(h:F_dc n P=some r):
    Csm prog 11 [.agg (Field.c P)] [] (λr=>.bool r) r:=by
 refine Qb func11 Z Z Z ?_;refine G0 12 Z (Bd h λQ R h=>?_);refine Ja (b:=Q) [0] [1] Ze Ze Zf ?_ (λY env H i g=>?_)
 .refine G0 1 Z ?_;refine Lp [0] [1] (λt=>[(3,I t)]) Ze R Zf (Lr [0]) λt ac a k=>?_;refine G0 6 Z (Lm Z (Go 3 Z (Ya Z a (λx a=>?_) (λx a=>?_))))
  .refine Gc 2 Z (Qk a ?_);obtain rfl:=Oj k a;exact Gx 1 Z (Qp Z (Lr [0]))
  refine Gc 9 Z (Bd a λad y a=>Iz y Z (Go 7 Z (Bd a λl j a=>?_)));refine Ct l [0,1] [1,3,4] (λl=>[(28,.bool l)]) Ze Zf ?_ (λenv H g=>?_)
  .refine G0 3 Z (Lm Z (Go 2 Z (Is 23 j Z (λz j=>?_) (λz j=>?_))))
   .exact Go 6 Z (Cl j [0,1])
   .exact Go 2 Z (Lm Z (Go 3 Z (Cl j [0,1])))
  refine Gx 1 Z (Ef g (Cn Z a (λB a=>?_) (λB a=>?_)))
  .refine Gc 9 Z (Qn a ?_);obtain rfl:=Oj k a;exact Gx 1 Z (Qm (Gx 1 Z (Rt h 2 [])))
  refine Gc 7 Z (Bd a λT V a=>?_);refine Ja (b:=T) [0] [1,3] Ze Ze Zf ?_ (λaa env H i g=>?_)
  .refine G0 1 Z ?_;refine Lp [0,1] [1,3,4] (λu=>[(5,I u)]) Ze V Zf (Lr [0,1]) λu ae d m=>?_;refine G0 6 Z (Lm Z (Go 3 Z (Ya Z d (λE d=>?_) (λE d=>?_))))
   .refine Gc 2 Z (Qk d ?_);obtain rfl:=Oj m d;exact Gx 1 Z (Qp Z (Lr [0]))
   refine Gc 9 Z (Bd d λaf F d=>Iz F Z (Go 1 Z (Lm Z (Go 3 Z (Cn Z d (λG d=>?_) (λG d=>?_))))))
   .refine Gc 8 Z (Qn d ?_);obtain rfl:=Oj m d;refine Gx 1 Z (Qm (Gx 2 Z (Qn a ?_)));obtain rfl:=Oj k a;exact Gx 1 Z (Qm (Gx 1 Z (Rt h 2 [])))
   exact Gc 8 Z (Qj d (Lr [0,1]))
  subst i;exact Gx 2 Z (Ef g (Gc 5 Z (Qj a (Lr [0]))))
 subst i;refine Gx 1 Z (Ef g (Gc 6 Z (Bd h λW X h=>?_)));refine Ja (b:=W) [0] [1] Ze Ze Zf ?_ (λab env H i g=>?_)
 .refine G0 1 Z ?_;refine Lp [0] [1] (λw=>[(6,I w)]) Ze X Zf (Lr [0]) λw ag e p=>?_;refine G0 7 Z (Lm Z (Go 3 Z (Ya Z e (λJ e=>?_) (λJ e=>?_))))
  .refine Gc 2 Z (Qk e ?_);obtain rfl:=Oj p e;exact Gx 1 Z (Qp Z (Lr [0]))
  refine Gc 10 Z (Bd e λah L e=>Iz L Z (Go 1 Z (Lm Z (Go 3 Z (Cn Z e (λM e=>?_) (λM e=>?_))))))
  .refine Gc 8 Z (Qn e ?_);obtain rfl:=Oj p e;exact Gx 1 Z (Qm (Gx 1 Z (Rt h 2 [])))
  exact Gc 8 Z (Qj e (Lr [0]))
 subst i;refine Gx 1 Z (Ef g (Gc 1 Z (Bd h λq f h=>?_)));refine Ct q [] [] (λq=>[(2,.bool q)]) Ze Zf ?_ (λenv H g=>?_)
 .refine G0 3 Z (Lm Z (Go 2 Z (Is 63 f Z (λN f=>?_) (λN f=>?_))))
  .refine Go 2 Z (Lm Z (Go 3 Z (Is 69 f Z (λO f=>?_) (λO f=>?_))))
   .refine Go 3 Z (Lm Z (Go 3 Z (Is 76 f Z (λs f=>?_) (λs f=>?_))))
    .exact Go 3 Z (Lm Z (Go 4 Z (Cl f [])))
    .exact Go 8 Z (Cl f [])
   .exact Go 15 Z (Cl f [])
  .exact Go 21 Z (Cl f [])
 exact Gx 1 Z (Ef g (Gc 1 Z (Rt h 2 [])))
def F_cu(n:Nat)(a:History):Option Bool:=
  ((bif decide ((a.Offsets.length:Int)<=20)then some (decide ((a.Choices.length:Int)<=20))else some false):Option Bool).bind λb=>some b
theorem k_cu(n:Nat)(d:History)(r:Bool)(h:F_cu n d=some r):
    Csm prog 21 [.agg (History.c d)] [] (λr=>.bool r) r:=by
 refine Qb func21 Z Z Z ?_;refine G0 7 Z (Bd h λb a h=>?_);refine Ct b [] [] (λb=>[(2,.bool b)]) Ze Zf ?_ (λenv H e=>?_)
 .refine G0 3 Z (Lm Z (Go 2 Z (Is 7 a Z (λf a=>?_) (λf a=>?_))))
  .exact Go 2 Z (Lm Z (Go 4 Z (Cl a [])))
  .exact Go 7 Z (Cl a [])
 exact Gx 1 Z (Ef e (Gc 1 Z (Rt h 2 [])))
def F_bu(n:Nat)(a:Int):Option Bool:=
  ((bif decide ((-1099511627776)<=a)then some (decide (a<=1099511627776))else some false):Option Bool).bind λb=>some b
theorem k_bu(n:Nat)(c:Int)(r:Bool)(h:F_bu n c=some r):
    Csm prog 99 [I c] [] (λr=>.bool r) r:=by
 refine Qb func99 Z Z Z ?_;refine G0 6 Z (Bd h λb a h=>?_);refine Ct b [] [] (λb=>[(2,.bool b)]) Ze Zf ?_ (λenv H d=>?_)
 .refine G0 4 Z (Is 5 a Z (λe a=>?_) (λe a=>?_))
  .exact Go 5 Z (Cl a [])
  .exact Go 5 Z (Cl a [])
 exact Gx 1 Z (Ef d (Gc 1 Z (Rt h 2 [])))
def F_bl(n:Nat)(a:Segment)(b:Segment):Option Bool:=
  ((bif decide (a.Mat<b.Mat)then some true else(bif (a.Mat==b.Mat)then some (decide (a.Epoch<b.Epoch))else some false)):Option Bool).bind λc=>some c
theorem k_bl(n:Nat)(d:Segment)(e:Segment)(r:Bool)(h:F_bl n d e=some r):
    Csm prog 100 [.agg (Segment.c d),.agg (Segment.c e)] [] (λr=>.bool r) r:=by
 refine Qb func100 Z Z Z ?_;refine G0 8 Z (Bd h λb a h=>?_);refine Ct b [] [] (λb=>[(4,.bool b)]) Ze Zf ?_ (λenv H f=>?_)
 .refine G0 7 Z (Is 10 a Z (λg a=>?_) (λg a=>?_))
  .exact Go 15 Z (Cl a [])
  .refine Go 6 Z (Is 16 a Z (λi a=>?_) (λi a=>?_))
   .exact Go 9 Z (Cl a [])
   .exact Go 9 Z (Cl a [])
 exact Gx 1 Z (Ef f (Gc 1 Z (Rt h 4 [])))
def F_im(n:Nat)(c:Clocks)(b:Int):Option (Ctl Int (Ctl Unit Int)):=
  (bif decide (b<(c.Segments.length:Int))then(idx c.Segments b).bind λa=>((bif decide (a.Mat<0)then some true else(bif decide (40<=a.Mat)then some true else(bif decide (a.Epoch<0)then some true else(bif decide (255<a.Epoch)then some true else(F_bu n a.Anchor).bind λd=>(bif (!d)then some true else(bif decide (0<b)then(idx c.Segments (IntKind.i64.wrap (b-1))).bind λe=>(F_bl n e a).bind λf=>some (!f)else some false)))))):Option Bool).bind λg=>(bif g then some (.done (.done 160))else some (.cont (IntKind.i64.wrap (b+1))))else some (.done (.cont ())))
def F_jy(n:Nat)(c:Clocks)(b:Int)(a:Int):Option (Ctl Int (Ctl Unit (Ctl Int (Ctl Unit Int)))):=
  (bif decide (a<=(c.Segments.length:Int))then((idx c.Far b).bind λd=>(idx d a).bind λe=>(bif decide (e<(-2199023255552))then some true else(idx c.Far b).bind λf=>(idx f a).bind λg=>some (decide (2199023255552<g))):Option Bool).bind λh=>(bif h then some (.done (.done (.done (.done 160))))else some (.cont (IntKind.i64.wrap (a+1))))else some (.done (.cont ())))
def F_ht(n:Nat)(c:Clocks)(a:Int):Option (Ctl Int (Ctl Unit Int)):=
  (bif decide (a<=(c.Segments.length:Int))then((idx c.Far a).bind λd=>(bif ((d.length:Int) != (IntKind.i64.wrap ((c.Segments.length:Int)+1)))then some true else(idx c.Far a).bind λe=>(idx e a).bind λf=>some (f != 0)):Option Bool).bind λg=>(bif g then some (.done (.done 160))else(iter (F_jy n c a) n 0:Option (Ctl Unit (Ctl Int (Ctl Unit Int)))).bind λh=>match h with|.cont b=>(some (.cont (IntKind.i64.wrap (a+1))))|.done b=>some b)else some (.done (.cont ())))
def F_jr(n:Nat)(d:Clocks)(b:Int)(c:Int)(a:Int):Option (Ctl Int (Ctl Unit (Ctl Int (Ctl Unit (Ctl Int (Ctl Unit Int)))))):=
  (bif decide (a<=(d.Segments.length:Int))then(idx d.Far b).bind λe=>(idx e a).bind λf=>(idx d.Far b).bind λg=>(idx g c).bind λh=>(idx d.Far c).bind λi=>(idx i a).bind λj=>(bif decide ((IntKind.i64.wrap (h+j))<f)then some (.done (.done (.done (.done (.done (.done 160))))))else some (.cont (IntKind.i64.wrap (a+1))))else some (.done (.cont ())))
def F_ji(n:Nat)(e:Clocks)(c:Int)(a:Int):Option (Ctl Int (Ctl Unit (Ctl Int (Ctl Unit Int)))):=
  (bif decide (a<=(e.Segments.length:Int))then(iter (F_jr n e c a) n 0:Option (Ctl Unit (Ctl Int (Ctl Unit (Ctl Int (Ctl Unit Int)))))).bind λd=>match d with|.cont b=>(some (.cont (IntKind.i64.wrap (a+1))))|.done b=>some b else some (.done (.cont ())))
def F_hp(n:Nat)(d:Clocks)(a:Int):Option (Ctl Int (Ctl Unit Int)):=
  (bif decide (a<=(d.Segments.length:Int))then(iter (F_ji n d a) n 0:Option (Ctl Unit (Ctl Int (Ctl Unit Int)))).bind λc=>match c with|.cont b=>(some (.cont (IntKind.i64.wrap (a+1))))|.done b=>some b else some (.done (.cont ())))
def F_aa(n:Nat)(c:Clocks):Option Int:=
  ((bif decide (511<(c.Segments.length:Int))then some true else some ((c.Far.length:Int) != (IntKind.i64.wrap ((c.Segments.length:Int)+1)))):Option Bool).bind λh=>(bif h then some 160 else(iter (F_im n c) n 0:Option (Ctl Unit Int)).bind λg=>match g with|.cont d=>((iter (F_ht n c) n 0:Option (Ctl Unit Int)).bind λe=>match e with|.cont a=>((iter (F_hp n c) n 0:Option (Ctl Unit Int)).bind λf=>match f with|.cont b=>(some 0)|.done b=>some b)|.done a=>some a)|.done d=>some d)
theorem k_aa(n:Nat)(a1:Clocks)(r:Int)(h:F_aa n a1=some r):
    Csm prog 63 [.agg (Clocks.c a1)] [] (λr=>I r) r:=by
 refine Qb func63 Z Z Z ?_;refine G0 10 Z (Lm Z (Go 5 Z (Bd h λb2 G h=>?_)));refine Ct b2 [0] [1,3] (λb2=>[(23,.bool b2)]) Ze Zf ?_ (λenv H g=>?_)
 .refine G0 4 Z (Is 16 G Z (λbv G=>?_) (λbv G=>?_))
  .exact Go 8 Z (Cl G [0])
  .exact Go 2 Z (Lm Z (Go 5 Z (Cl G [0])))
 refine Gx 1 Z (Ef g (Cn Z h (λbw h=>?_) (λbw h=>?_)))
 .exact Gc 7 Z (Rt h 2 [])
 refine Gc 8 Z (Bd h λbx bz h=>?_);refine Ja (b:=bx) [0] [1,3] Ze Ze Zf ?_ (λcf env H s g=>?_)
 .refine G0 1 Z ?_;refine Lp [0] [1,3] (λau=>[(4,I au)]) Ze bz Zf (Lr [0]) λau cu k J=>?_;refine G0 8 Z (Ya Z k (λav k=>?_) (λav k=>?_))
  .refine Gc 2 Z (Qk k ?_);obtain rfl:=Oj J k;exact Gx 1 Z (Qp Z (Lr [0]))
  refine Gc 9 Z (Bd k λcv aw k=>Iz aw Z (Go 6 Z (Bd k λL a k=>?_)));refine Ct L [0] [1,3,4] (λL=>[(72,.bool L)]) Ze Zf ?_ (λenv H g=>?_)
  .refine G0 0 Z (DSs 35 Z (D 4 Z (Yr 3 a Z Z Z (λax a=>?_) (λax a=>?_))))
   .exact D 31 Z (Eh Z (Go 5 Z (Cl a [0])))
   .refine D 5 Z (Yr 8 a Z Z Z (λay a=>?_) (λay a=>?_))
    .exact D 26 Z (Eh Z (Go 5 Z (Cl a [0])))
    .refine D 5 Z (Yr 13 a Z Z Z (λaz a=>?_) (λaz a=>?_))
     .exact D 21 Z (Eh Z (Go 5 Z (Cl a [0])))
     .refine D 5 Z (Yr 18 a Z Z Z (λba a=>?_) (λba a=>?_))
      .exact D 16 Z (Eh Z (Go 5 Z (Cl a [0])))
      .refine D 2 Z ?_;refine Dz [] a (k_bu _ _) Z λcw cg a=>D 3 Z (Yr 24 a Z Z Z (λbb a=>?_) (λbb a=>?_))
       .exact D 10 Z (Eh Z (Go 5 Z (Cl a [0])))
       .refine D 3 Z (Yr 27 a Z Z Z (λbc a=>?_) (λbc a=>?_))
        .refine D 4 Z ?_;obtain⟨y,bd,a⟩:=YP a;refine DS.v (x:=(.rp [I y.Mat,I y.Epoch,I y.Anchor])) (YJ (e:=Segment.c) (l:=a1.Segments) (v:=y) bd runUnderlying22 sizeOf198) ?_ (hg:=(gT Z));exact D 2 Z (Eh Z (Cz [] a (k_bl _ _ _) Z λcx ch a=>Go 4 Z (Cl a [0])))
        .exact D 7 Z (Eh Z (Go 5 Z (Cl a [0])))
  refine Gx 1 Z (Ef g (Cn Z k (λbe k=>?_) (λbe k=>?_)))
  .refine Gc 8 Z (Qn k ?_);obtain rfl:=Oj J k;exact Gx 1 Z (Qm (Gx 1 Z (Rt h 2 [])))
  exact Gc 8 Z (Qj k (Lr [0]))
 subst s;refine Gx 1 Z (Ef g (Gc 6 Z (Bd h λbf bg h=>?_)));refine Ja (b:=bf) [0] [1,3] Ze Ze Zf ?_ (λca env H s g=>?_)
 .refine G0 1 Z ?_;refine Lp [0] [1,3] (λM=>[(6,I M)]) Ze bg Zf (Lr [0]) λM ci f t=>?_;refine G0 8 Z (Ya Z f (λR f=>?_) (λR f=>?_))
  .refine Gc 2 Z (Qk f ?_);obtain rfl:=Oj t f;exact Gx 1 Z (Qp Z (Lr [0]))
  refine Gc 6 Z (Bd f λu m f=>?_);refine Ct u [0] [1,3,6] (λu=>[(97,.bool u)]) Ze Zf ?_ (λenv H g=>?_)
  .refine G0 4 Z (Bd m λcj T m=>Iz T Z (Go 1 Z (Lm Z (Go 4 Z (Is 87 m Z (λV m=>?_) (λV m=>?_))))))
   .exact Go 11 Z (Cl m [0])
   .exact Go 3 Z (Bd m λck W m=>Iz W Z (Go 2 Z (Bd m λcl X m=>Iz X Z (Go 4 Z (Cl m [0])))))
  refine Gx 1 Z (Ef g (Cn Z f (λY f=>?_) (λY f=>?_)))
  .refine Gc 9 Z (Qn f ?_);obtain rfl:=Oj t f;exact Gx 1 Z (Qm (Gx 1 Z (Rt h 2 [])))
  refine Gc 7 Z (Bd f λbh bi f=>?_);refine Ja (b:=bh) [0] [1,3,6] Ze Ze Zf ?_ (λcb env H s g=>?_)
  .refine G0 1 Z ?_;refine Lp [0] [1,3,6] (λN=>[(7,I N)]) Ze bi Zf (Lr [0]) λN cm i z=>?_;refine G0 8 Z (Ya Z i (λaa i=>?_) (λaa i=>?_))
   .refine Gc 2 Z (Qk i ?_);obtain rfl:=Oj z i;exact Gx 1 Z (Qp Z (Lr [0]))
   refine Gc 5 Z (Bd i λw j i=>?_);refine Ct w [0] [1,3,6,7] (λw=>[(122,.bool w)]) Ze Zf ?_ (λenv H g=>?_)
   .refine G0 4 Z (Bd j λcn ab j=>Iz ab Z (Go 2 Z (Bd j λco ac j=>Iz ac Z (Go 3 Z (Is 112 j Z (λad j=>?_) (λad j=>?_))))))
    .exact Go 11 Z (Cl j [0])
    .exact Go 3 Z (Bd j λcp ae j=>Iz ae Z (Go 2 Z (Bd j λcq af j=>Iz af Z (Go 4 Z (Cl j [0])))))
   refine Gx 1 Z (Ef g (Cn Z i (λag i=>?_) (λag i=>?_)))
   .refine Gc 8 Z (Qn i ?_);obtain rfl:=Oj z i;refine Gx 1 Z (Qm (Gx 2 Z (Qn f ?_)));obtain rfl:=Oj t f;exact Gx 1 Z (Qm (Gx 1 Z (Rt h 2 [])))
   exact Gc 8 Z (Qj i (Lr [0]))
  subst s;exact Gx 2 Z (Ef g (Gc 5 Z (Qj f (Lr [0]))))
 subst s;refine Gx 1 Z (Ef g (Gc 6 Z (Bd h λbj bk h=>?_)));refine Ja (b:=bj) [] [] Ze Ze Zf ?_ (λcc env H s g=>?_)
 .refine G0 1 Z ?_;refine Lp [0] [1,3] (λO=>[(8,I O)]) Ze bk Zf (Lr [0]) λO cr p B=>?_;refine G0 8 Z (Ya Z p (λah p=>?_) (λah p=>?_))
  .refine Gc 2 Z (Qk p ?_);obtain rfl:=Oj B p;exact Gx 1 Z (Qp Z (Lr []))
  refine Gc 9 Z (Bd p λbl bm p=>?_);refine Ja (b:=bl) [0] [1,3,8] Ze Ze Zf ?_ (λcd env H s g=>?_)
  .refine G0 1 Z ?_;refine Lp [0] [1,3,8] (λP=>[(9,I P)]) Ze bm Zf (Lr [0]) λP cs q E=>?_;refine G0 8 Z (Ya Z q (λai q=>?_) (λai q=>?_))
   .refine Gc 2 Z (Qk q ?_);obtain rfl:=Oj E q;exact Gx 1 Z (Qp Z (Lr [0]))
   refine Gc 9 Z (Bd q λbn bo q=>?_);refine Ja (b:=bn) [0] [1,3,8,9] Ze Ze Zf ?_ (λce env H s g=>?_)
   .refine G0 1 Z ?_;refine Lp [0] [1,3,8,9] (λQ=>[(10,I Q)]) Ze bo Zf (Lr [0]) λQ ct d F=>?_;refine G0 8 Z (Ya Z d (λaj d=>?_) (λaj d=>?_))
    .refine Gc 2 Z (Qk d ?_);obtain rfl:=Oj F d;exact Gx 1 Z (Qp Z (Lr [0]))
    refine Gc 5 Z (DSs 25 Z (D 3 Z ?_));obtain⟨bp,ak,d⟩:=YP d;refine DS.wo (x:=.rp [.rsl 1 (List.map (Qd .i64) bp)]) ?_ ?_
    .exact Ix ak runUnderlying23 sizeOf32 Z Wp
    refine D 2 Z ?_;obtain⟨bq,al,d⟩:=YP d;refine DS.wo (x:=.rp [I bq]) ?_ ?_
    .exact Ix al runUnderlying32 sizeOf3 Z Wp
    refine D 4 Z ?_;obtain⟨br,am,d⟩:=YP d;refine DS.wo (x:=.rp [.rsl 1 (List.map (Qd .i64) br)]) ?_ ?_
    .exact Ix am runUnderlying23 sizeOf32 Z Wp
    refine D 2 Z ?_;obtain⟨bs,an,d⟩:=YP d;refine DS.wo (x:=.rp [I bs]) ?_ ?_
    .exact Ix an runUnderlying32 sizeOf3 Z Wp
    refine D 4 Z ?_;obtain⟨bt,ao,d⟩:=YP d;refine DS.wo (x:=.rp [.rsl 1 (List.map (Qd .i64) bt)]) ?_ ?_
    .exact Ix ao runUnderlying23 sizeOf32 Z Wp
    refine D 2 Z ?_;obtain⟨bu,aq,d⟩:=YP d;refine DS.wo (x:=.rp [I bu]) ?_ ?_
    .exact Ix aq runUnderlying32 sizeOf3 Z Wp
    refine D 2 Z (Eh Z (Go 3 Z (Cn Z d (λar d=>?_) (λar d=>?_))))
    .refine Gc 8 Z (Qn d ?_);obtain rfl:=Oj F d;refine Gx 1 Z (Qm (Gx 2 Z (Qn q ?_)));obtain rfl:=Oj E q;refine Gx 1 Z (Qm (Gx 2 Z (Qn p ?_)));obtain rfl:=Oj B p;exact Gx 1 Z (Qm (Gx 1 Z (Rt h 2 [])))
    exact Gc 8 Z (Qj d (Lr [0]))
   subst s;exact Gx 2 Z (Ef g (Gc 5 Z (Qj q (Lr [0]))))
  subst s;exact Gx 2 Z (Ef g (Gc 5 Z (Qj p (Lr [0]))))
 subst s;exact Gx 1 Z (Ef g (Gc 6 Z (Rt h 2 [])))
def F_ep(n:Nat)(a:Int)(b:Int)(c:Int):Option Bool:=
  ((bif decide (b<=a)then some (decide (a<=c))else some false):Option Bool).bind λd=>some d
theorem k_ep(n:Nat)(c:Int)(d:Int)(e:Int)(r:Bool)(h:F_ep n c d e=some r):
    Csm prog 101 [I c,I d,I e] [] (λr=>.bool r) r:=by
 refine Qb func101 Z Z Z ?_;refine G0 6 Z (Bd h λb a h=>?_);refine Ct b [] [] (λb=>[(6,.bool b)]) Ze Zf ?_ (λenv H f=>?_)
 .refine G0 5 Z (Is 10 a Z (λg a=>?_) (λg a=>?_))
  .exact Go 6 Z (Cl a [])
  .exact Go 6 Z (Cl a [])
 exact Gx 1 Z (Ef f (Gc 1 Z (Rt h 6 [])))
def F_dl(n:Nat)(a:Int):Option Bool:=
  (F_ep n a 1 9999).bind λr1=>some r1
theorem k_dl(n:Nat)(a:Int)(r:Bool)(h:F_dl n a=some r):
    Csm prog 64 [I a] [] (λr=>.bool r) r:=by
 refine Qb func64 Z Z Z ?_;exact G0 8 Z (Cz [] h (k_ep _ _ _ _) Z λr1 b h=>Go 4 Z (Rt h 2 []))
def F_bq(n:Nat)(b:Clocks)(a:Outcome):Option Int:=
  (F_aa n b).bind λr1=>(bif (r1 != 0)then some r1 else((bif a.Out then(bif (a.Seg != (-1))then some true else(bif (a.Lo != 0)then some true else(bif (a.Hi != 0)then some true else(bif (!a.Out)then(bif decide (a.Seg<(-1))then some true else(bif decide ((b.Segments.length:Int)<=a.Seg)then some true else(bif decide (a.Lo<(-288230376151711744))then some true else(bif decide (a.Hi<a.Lo)then some true else some (decide (288230376151711744<a.Hi))))))else some false))))else(bif (!a.Out)then(bif decide (a.Seg<(-1))then some true else(bif decide ((b.Segments.length:Int)<=a.Seg)then some true else(bif decide (a.Lo<(-288230376151711744))then some true else(bif decide (a.Hi<a.Lo)then some true else some (decide (288230376151711744<a.Hi))))))else some false)):Option Bool).bind λc=>(bif c then some 230 else some 0))
theorem k_bq(n:Nat)(x:Clocks)(y:Outcome)(r:Int)(h:F_bq n x y=some r):
    Csm prog 65 [.agg (Clocks.c x),.agg (Outcome.c y)] [] (λr=>I r) r:=by
 refine Qb func65 Z Z Z ?_;refine G0 10 Z (Cz [] h (k_aa _ _) Z λr1 E h=>Go 10 Z (Cn Z h (λz h=>?_) (λz h=>?_)))
 .exact Gc 8 Z (Rt h 4 [])
 refine Gc 4 Z (Bd h λb a h=>?_);refine Ct b [] [] (λb=>[(62,.bool b)]) Ze Zf ?_ (λenv H B=>?_)
 .refine G0 4 Z (Is 13 a Z (λd a=>?_) (λd a=>?_))
  .refine Go 4 Z (Is 17 a Z (λe a=>?_) (λe a=>?_))
   .exact Go 46 Z (Cl a [])
   .refine Go 5 Z (Is 22 a Z (λf a=>?_) (λf a=>?_))
    .exact Go 41 Z (Cl a [])
    .refine Go 6 Z (Is 28 a Z (λg a=>?_) (λg a=>?_))
     .exact Go 35 Z (Cl a [])
     .refine Go 4 Z (Is 32 a Z (λi a=>?_) (λi a=>?_))
      .refine Go 4 Z (Is 36 a Z (λj a=>?_) (λj a=>?_))
       .exact Go 27 Z (Cl a [])
       .refine Go 4 Z (Lm Z (Go 3 Z (Is 44 a Z (λk a=>?_) (λk a=>?_))))
        .exact Go 19 Z (Cl a [])
        .refine Go 5 Z (Is 49 a Z (λl a=>?_) (λl a=>?_))
         .exact Go 14 Z (Cl a [])
         .refine Go 7 Z (Is 56 a Z (λm a=>?_) (λm a=>?_))
          .exact Go 7 Z (Cl a [])
          .exact Go 7 Z (Cl a [])
      .exact Go 31 Z (Cl a [])
  .refine Go 19 Z (Is 32 a Z (λp a=>?_) (λp a=>?_))
   .refine Go 4 Z (Is 36 a Z (λq a=>?_) (λq a=>?_))
    .exact Go 27 Z (Cl a [])
    .refine Go 4 Z (Lm Z (Go 3 Z (Is 44 a Z (λs a=>?_) (λs a=>?_))))
     .exact Go 19 Z (Cl a [])
     .refine Go 5 Z (Is 49 a Z (λt a=>?_) (λt a=>?_))
      .exact Go 14 Z (Cl a [])
      .refine Go 7 Z (Is 56 a Z (λu a=>?_) (λu a=>?_))
       .exact Go 7 Z (Cl a [])
       .exact Go 7 Z (Cl a [])
   .exact Go 31 Z (Cl a [])
 refine Gx 1 Z (Ef B (Cn Z h (λw h=>?_) (λw h=>?_)))
 .exact Gc 7 Z (Rt h 4 [])
 exact Gc 8 Z (Rt h 4 [])
def F_kb(n:Nat)(b:Field)(c:Int)(a:Int):Option (Ctl Int (Ctl Unit Bool)):=
  (bif decide (a<(b.Runners.length:Int))then((bif decide (c<0)then some true else(idx b.Runners a).bind λd=>(bif decide ((d.Worlds.length:Int)<=c)then some true else(idx b.Runners a).bind λe=>(idx e.Worlds c).bind λf=>some ((f.length:Int)==0))):Option Bool).bind λg=>(bif g then some (.done (.done false))else some (.cont (IntKind.i64.wrap (a+1))))else some (.done (.cont ())))
def F_dr(n:Nat)(c:Field)(d:Int):Option Bool:=
  (iter (F_kb n c d) n 0:Option (Ctl Unit Bool)).bind λb=>match b with|.cont a=>(some true)|.done a=>some a
theorem k_dr(n:Nat)(t:Field)(u:Int)(r:Bool)(h:F_dr n t u=some r):
    Csm prog 102 [.agg (Field.c t),I u] [] (λr=>.bool r) r:=by
 refine Qb func102 Z Z Z ?_;refine G0 12 Z (Bd h λw x h=>?_);refine Ja (b:=w) [] [] Ze Ze Zf ?_ (λz env H y e=>?_)
 .refine G0 1 Z ?_;refine Lp [0] [1,2] (λi=>[(5,I i)]) Ze x Zf (Lr [0]) λi B d f=>?_;refine G0 6 Z (Lm Z (Go 3 Z (Ya Z d (λj d=>?_) (λj d=>?_))))
  .refine Gc 2 Z (Qk d ?_);obtain rfl:=Oj f d;exact Gx 1 Z (Qp Z (Lr []))
  refine Gc 5 Z (Bd d λg a d=>?_);refine Ct g [0] [1,2,5] (λg=>[(38,.bool g)]) Ze Zf ?_ (λenv H e=>?_)
  .refine G0 4 Z (Is 15 a Z (λk a=>?_) (λk a=>?_))
   .exact Go 24 Z (Cl a [0])
   .refine Go 4 Z (Bd a λE l a=>Iz l Z (Go 2 Z (Lm Z (Go 3 Z (Is 26 a Z (λm a=>?_) (λm a=>?_))))))
    .exact Go 13 Z (Cl a [0])
    .exact Go 3 Z (Bd a λF p a=>Iz p Z (Go 3 Z (Bd a λG q a=>Iz q Z (Go 1 Z (Lm Z (Go 3 Z (Cl a [0])))))))
  refine Gx 1 Z (Ef e (Cn Z d (λs d=>?_) (λs d=>?_)))
  .refine Gc 8 Z (Qn d ?_);obtain rfl:=Oj f d;exact Gx 1 Z (Qm (Gx 1 Z (Rt h 4 [])))
  exact Gc 8 Z (Qj d (Lr [0]))
 subst y;exact Gx 1 Z (Ef e (Gc 6 Z (Rt h 4 [])))
def F_hu(n:Nat)(b:Field)(a:Int):Option (Ctl Int (Ctl Unit Bool)):=
  (bif decide (a<=(b.Pairs.length:Int))then(F_dr n b a).bind λc=>(bif c then some (.done (.done true))else some (.cont (IntKind.i64.wrap (a+1))))else some (.done (.cont ())))
def F_dh(n:Nat)(b:Field):Option Bool:=
  (iter (F_hu n b) n 0:Option (Ctl Unit Bool)).bind λc=>match c with|.cont a=>(some false)|.done a=>some a
theorem k_dh(n:Nat)(i:Field)(r:Bool)(h:F_dh n i=some r):
    Csm prog 66 [.agg (Field.c i)] [] (λr=>.bool r) r:=by
 refine Qb func66 Z Z Z ?_;refine G0 12 Z (Bd h λl m h=>?_);refine Ja (b:=l) [] [] Ze Ze Zf ?_ (λq env H j k=>?_)
 .refine G0 1 Z ?_;refine Lp [0] [1] (λe=>[(3,I e)]) Ze m Zf (Lr [0]) λe s a d=>?_;refine G0 6 Z (Lm Z (Go 3 Z (Ya Z a (λf a=>?_) (λf a=>?_))))
  .refine Gc 2 Z (Qk a ?_);obtain rfl:=Oj d a;exact Gx 1 Z (Qp Z (Lr []))
  refine Gc 8 Z (Cz [] a (k_dr _ _ _) Z λt p a=>Go 2 Z (Cn Z a (λg a=>?_) (λg a=>?_)))
  .refine Gc 8 Z (Qn a ?_);obtain rfl:=Oj d a;exact Gx 1 Z (Qm (Gx 1 Z (Rt h 2 [])))
  exact Gc 8 Z (Qj a (Lr [0]))
 subst j;exact Gx 1 Z (Ef k (Gc 6 Z (Rt h 2 [])))
def F_ig(n:Nat)(c:Field)(a:Int):Option (Ctl Int (Ctl Unit Int)):=
  (bif decide (a<(c.Pairs.length:Int))then(idx c.Pairs a).bind λb=>((bif decide (b.A<1)then some true else(bif decide (b.B<=b.A)then some true else some (decide (9999<b.B)))):Option Bool).bind λd=>(bif d then some (.done (.done 240))else((bif decide (0<a)then(idx c.Pairs (IntKind.i64.wrap (a-1))).bind λe=>(bif decide (b.A<e.A)then some true else(idx c.Pairs (IntKind.i64.wrap (a-1))).bind λf=>(bif (f.A==b.A)then(idx c.Pairs (IntKind.i64.wrap (a-1))).bind λg=>some (decide (b.B<=g.B))else some false))else some false):Option Bool).bind λh=>(bif h then some (.done (.done 240))else some (.cont (IntKind.i64.wrap (a+1)))))else some (.done (.cont ())))
def F_kg(n:Nat)(h:Field)(b:Runner)(c:Int)(a:Int):Option (Ctl Int (Ctl Unit (Ctl Int (Ctl Unit (Ctl Int (Ctl Unit Int)))))):=
  (idx b.Worlds c).bind λd=>(bif decide (a<(d.length:Int))then(idx b.Worlds c).bind λe=>(idx e a).bind λf=>(F_bq n h.Clocks f).bind λg=>(bif (g != 0)then some (.done (.done (.done (.done (.done (.done 240))))))else some (.cont (IntKind.i64.wrap (a+1))))else some (.done (.cont ())))
def F_js(n:Nat)(e:Field)(c:Runner)(a:Int):Option (Ctl Int (Ctl Unit (Ctl Int (Ctl Unit Int)))):=
  (bif decide (a<(c.Worlds.length:Int))then(iter (F_kg n e c a) n 0:Option (Ctl Unit (Ctl Int (Ctl Unit (Ctl Int (Ctl Unit Int)))))).bind λd=>match d with|.cont b=>(some (.cont (IntKind.i64.wrap (a+1))))|.done b=>some b else some (.done (.cont ())))
def F_hw(n:Nat)(c:Field)(b:Int):Option (Ctl Int (Ctl Unit Int)):=
  (bif decide (b<(c.Runners.length:Int))then(idx c.Runners b).bind λa=>((F_dl n a.Bib).bind λe=>(bif (!e)then some true else(bif decide (0<b)then(idx c.Runners (IntKind.i64.wrap (b-1))).bind λf=>(bif decide (a.Bib<=f.Bib)then some true else(idx c.Runners 0).bind λg=>(bif ((a.Keys.length:Int) != (g.Keys.length:Int))then some true else some ((a.Worlds.length:Int) != (IntKind.i64.wrap ((c.Pairs.length:Int)+1)))))else(idx c.Runners 0).bind λh=>(bif ((a.Keys.length:Int) != (h.Keys.length:Int))then some true else some ((a.Worlds.length:Int) != (IntKind.i64.wrap ((c.Pairs.length:Int)+1)))))):Option Bool).bind λi=>(bif i then some (.done (.done 240))else(iter (F_js n c a) n 0:Option (Ctl Unit (Ctl Int (Ctl Unit Int)))).bind λj=>match j with|.cont d=>(some (.cont (IntKind.i64.wrap (b+1))))|.done d=>some d)else some (.done (.cont ())))
def F_dp(n:Nat)(a:Field):Option Int:=
  ((F_aa n a.Clocks).bind λg=>(bif (g != 0)then some true else(bif decide (16<(a.Pairs.length:Int))then some true else(bif decide ((a.Runners.length:Int)<1)then some true else some (decide (4000<(a.Runners.length:Int)))))):Option Bool).bind λh=>(bif h then some 240 else(iter (F_ig n a) n 0:Option (Ctl Unit Int)).bind λf=>match f with|.cont c=>((iter (F_hw n a) n 0:Option (Ctl Unit Int)).bind λd=>match d with|.cont b=>((F_dh n a).bind λe=>(bif (!e)then some 240 else some 0))|.done b=>some b)|.done c=>some c)
theorem k_dp(n:Nat)(u:Field)(r:Int)(h:F_dp n u=some r):
    Csm prog 35 [.agg (Field.c u)] [] (λr=>I r) r:=by
 refine Qb func35 Z Z Z ?_;refine G0 8 Z (Bd h λb5 p h=>?_);refine Ct b5 [0] [1] (λb5=>[(30,.bool b5)]) Ze Zf ?_ (λenv H j=>?_)
 .refine G0 3 Z (Cz [] p (k_aa _ _) Z λr7 ch p=>Go 2 Z (Is 13 p Z (λbo p=>?_) (λbo p=>?_)))
  .exact Go 18 Z (Cl p [0])
  .refine Go 2 Z (Lm Z (Go 3 Z (Is 19 p Z (λbp p=>?_) (λbp p=>?_))))
   .exact Go 12 Z (Cl p [0])
   .refine Go 2 Z (Lm Z (Go 3 Z (Is 25 p Z (λar p=>?_) (λar p=>?_))))
    .exact Go 6 Z (Cl p [0])
    .exact Go 2 Z (Lm Z (Go 3 Z (Cl p [0])))
 refine Gx 1 Z (Ef j (Cn Z h (λau h=>?_) (λau h=>?_)))
 .exact Gc 7 Z (Rt h 2 [])
 refine Gc 8 Z (Bd h λbq br h=>?_);refine Ja (b:=bq) [0] [1] Ze Ze Zf ?_ (λbz env H w j=>?_)
 .refine G0 1 Z ?_;refine Lp [0] [1] (λaq=>[(3,I aq)]) Ze br Zf (Lr [0]) λaq ci g F=>?_;refine G0 6 Z (Lm Z (Go 3 Z (Ya Z g (λav g=>?_) (λav g=>?_))))
  .refine Gc 2 Z (Qk g ?_);obtain rfl:=Oj F g;exact Gx 1 Z (Qp Z (Lr [0]))
  refine Gc 9 Z (Bd g λcj aw g=>Iz aw Z (Go 7 Z (Bd g λM q g=>?_)));refine Ct M [0,1] [1,3,4] (λM=>[(57,.bool M)]) Ze Zf ?_ (λenv H j=>?_)
  .refine G0 5 Z (Is 46 q Z (λax q=>?_) (λax q=>?_))
   .exact Go 12 Z (Cl q [0,1])
   .refine Go 7 Z (Is 53 q Z (λay q=>?_) (λay q=>?_))
    .exact Go 5 Z (Cl q [0,1])
    .exact Go 5 Z (Cl q [0,1])
  refine Gx 1 Z (Ef j (Cn Z g (λaz g=>?_) (λaz g=>?_)))
  .refine Gc 9 Z (Qn g ?_);obtain rfl:=Oj F g;exact Gx 1 Z (Qm (Gx 1 Z (Rt h 2 [])))
  refine Gc 3 Z (Bd g λN i g=>?_);refine Ct N [0] [1,3] (λN=>[(95,.bool N)]) Ze Zf ?_ (λenv H j=>?_)
  .refine G0 0 Z (DSs 34 Z (D 3 Z (Yr 2 i Z Z Z (λba i=>?_) (λba i=>?_))))
   .refine D 4 Z ?_;obtain⟨O,bb,i⟩:=YP i;refine DS.v (x:=(.rp [I O.A,I O.B])) (YJ (e:=Pair.c) (l:=u.Pairs) (v:=O) bb runUnderlying26 sizeOf149) ?_ (hg:=(gT Z));refine D 6 Z (Yr 13 i Z Z Z (λbc i=>?_) (λbc i=>?_))
    .exact D 20 Z (Eh Z (Go 5 Z (Cl i [0])))
    .refine D 4 Z ?_;obtain⟨P,bd,i⟩:=YP i;refine DS.v (x:=(.rp [I P.A,I P.B])) (YJ (e:=Pair.c) (l:=u.Pairs) (v:=P) bd runUnderlying26 sizeOf149) ?_ (hg:=(gT Z));refine D 6 Z (Yr 24 i Z Z Z (λbe i=>?_) (λbe i=>?_))
     .refine D 4 Z ?_;obtain⟨Q,bf,i⟩:=YP i;refine DS.v (x:=(.rp [I Q.A,I Q.B])) (YJ (e:=Pair.c) (l:=u.Pairs) (v:=Q) bf runUnderlying26 sizeOf149) ?_ (hg:=(gT Z));exact D 4 Z (Eh Z (Go 5 Z (Cl i [0])))
     .exact D 9 Z (Eh Z (Go 5 Z (Cl i [0])))
   .exact D 31 Z (Eh Z (Go 5 Z (Cl i [0])))
  refine Gx 1 Z (Ef j (Cn Z g (λbg g=>?_) (λbg g=>?_)))
  .refine Gc 8 Z (Qn g ?_);obtain rfl:=Oj F g;exact Gx 1 Z (Qm (Gx 1 Z (Rt h 2 [])))
  exact Gc 8 Z (Qj g (Lr [0]))
 subst w;refine Gx 1 Z (Ef j (Gc 6 Z (Bd h λbh bi h=>?_)));refine Ja (b:=bh) [0] [1] Ze Ze Zf ?_ (λbs env H w j=>?_)
 .refine G0 1 Z ?_;refine Lp [0] [1] (λR=>[(5,I R)]) Ze bi Zf (Lr [0]) λR ca d y=>?_;refine G0 6 Z (Lm Z (Go 3 Z (Ya Z d (λW d=>?_) (λW d=>?_))))
  .refine Gc 2 Z (Qk d ?_);obtain rfl:=Oj y d;exact Gx 1 Z (Qp Z (Lr [0]))
  refine Gc 9 Z (Bd d λm X d=>Iz X Z (Go 7 Z (Bd d λG a d=>?_)));refine Ct G [0,1] [1,5,6] (λG=>[(149,.bool G)]) Ze Zf ?_ (λenv H j=>?_)
  .refine G0 0 Z (DSs 40 Z (D 2 Z ?_));refine Dz [] a (k_dl _ _) Z λcb bt a=>D 2 Z (Yr 4 a Z Z Z (λY a=>?_) (λY a=>?_))
   .exact D 35 Z (Eh Z (Go 3 Z (Cl a [0,1])))
   .refine D 3 Z (Yr 7 a Z Z Z (λaa a=>?_) (λaa a=>?_))
    .refine D 4 Z ?_;obtain⟨z,ab,a⟩:=YP a;refine DS.v (x:=(.rp [I z.Bib,.rsl 1 (List.map (Qd .i64) z.Keys),.rsl 1 (List.map (YC 4 Outcome.c) z.Worlds)])) (YJ (e:=Runner.c) (l:=u.Runners) (v:=z) ab runUnderlying27 sizeOf68) ?_ (hg:=(gT Z));refine D 8 Z (Yr 20 a Z Z Z (λac a=>?_) (λac a=>?_))
     .exact D 19 Z (Eh Z (Go 3 Z (Cl a [0,1])))
     .refine D 2 Z ?_;refine DS.v (x:=(I (m.Keys.length:Int))) (Yz (e:=(Qd .i64)) (l:=m.Keys) runUnderlying32) ?_ (hg:=(gT Z));refine D 2 Z ?_;obtain⟨s,ad,a⟩:=YP a;refine DS.v (x:=(.rp [I s.Bib,.rsl 1 (List.map (Qd .i64) s.Keys),.rsl 1 (List.map (YC 4 Outcome.c) s.Worlds)])) (YJ (e:=Runner.c) (l:=u.Runners) (v:=s) ad runUnderlying27 sizeOf68) ?_ (hg:=(gT Z));refine D 2 Z ?_;refine DS.v (x:=(I (s.Keys.length:Int))) (Yz (e:=(Qd .i64)) (l:=s.Keys) runUnderlying32) ?_ (hg:=(gT Z));refine D 3 Z (Yr 32 a Z Z Z (λae a=>?_) (λae a=>?_))
      .exact D 7 Z (Eh Z (Go 3 Z (Cl a [0,1])))
      .refine D 2 Z ?_;refine DS.v (x:=(I (m.Worlds.length:Int))) (Yz (e:=(YC 4 Outcome.c)) (l:=m.Worlds) runUnderlying66) ?_ (hg:=(gT Z));refine D 2 Z ?_;refine DS.v (x:=(I (u.Pairs.length:Int))) (Yz (e:=Pair.c) (l:=u.Pairs) runUnderlying26) ?_ (hg:=(gT Z));exact D 1 Z (Eh Z (Go 3 Z (Cl a [0,1])))
    .refine D 15 Z ?_;refine DS.v (x:=(I (m.Keys.length:Int))) (Yz (e:=(Qd .i64)) (l:=m.Keys) runUnderlying32) ?_ (hg:=(gT Z));refine D 2 Z ?_;obtain⟨t,af,a⟩:=YP a;refine DS.v (x:=(.rp [I t.Bib,.rsl 1 (List.map (Qd .i64) t.Keys),.rsl 1 (List.map (YC 4 Outcome.c) t.Worlds)])) (YJ (e:=Runner.c) (l:=u.Runners) (v:=t) af runUnderlying27 sizeOf68) ?_ (hg:=(gT Z));refine D 2 Z ?_;refine DS.v (x:=(I (t.Keys.length:Int))) (Yz (e:=(Qd .i64)) (l:=t.Keys) runUnderlying32) ?_ (hg:=(gT Z));refine D 3 Z (Yr 32 a Z Z Z (λag a=>?_) (λag a=>?_))
     .exact D 7 Z (Eh Z (Go 3 Z (Cl a [0,1])))
     .refine D 2 Z ?_;refine DS.v (x:=(I (m.Worlds.length:Int))) (Yz (e:=(YC 4 Outcome.c)) (l:=m.Worlds) runUnderlying66) ?_ (hg:=(gT Z));refine D 2 Z ?_;refine DS.v (x:=(I (u.Pairs.length:Int))) (Yz (e:=Pair.c) (l:=u.Pairs) runUnderlying26) ?_ (hg:=(gT Z));exact D 1 Z (Eh Z (Go 3 Z (Cl a [0,1])))
  refine Gx 1 Z (Ef j (Cn Z d (λah d=>?_) (λah d=>?_)))
  .refine Gc 9 Z (Qn d ?_);obtain rfl:=Oj y d;exact Gx 1 Z (Qm (Gx 1 Z (Rt h 2 [])))
  refine Gc 7 Z (Bd d λbj bk d=>?_);refine Ja (b:=bj) [0] [1,5] Ze Ze Zf ?_ (λbu env H w j=>?_)
  .refine G0 1 Z ?_;refine Lp [0,1] [1,5,6] (λT=>[(7,I T)]) Ze bk Zf (Lr [0,1]) λT cc k J=>?_;refine G0 6 Z (Lm Z (Go 3 Z (Ya Z k (λai k=>?_) (λai k=>?_))))
   .refine Gc 2 Z (Qk k ?_);obtain rfl:=Oj J k;exact Gx 1 Z (Qp Z (Lr [0]))
   refine Gc 9 Z (Bd k λbl bm k=>?_);refine Ja (b:=bl) [0,1] [1,5,6,7] Ze Ze Zf ?_ (λbv env H w j=>?_)
   .refine G0 1 Z ?_;refine Lp [0,1] [1,5,6,7] (λV=>[(8,I V)]) Ze bm Zf (Lr [0,1]) λV cd f L=>?_;refine G0 7 Z (Bd f λce aj f=>Iz aj Z (Go 1 Z (Lm Z (Go 3 Z (Ya Z f (λak f=>?_) (λak f=>?_))))))
    .refine Gc 2 Z (Qk f ?_);obtain rfl:=Oj L f;exact Gx 1 Z (Qp Z (Lr [0,1]))
    refine Gc 5 Z (DSs 10 Z (D 5 Z ?_));obtain⟨bn,al,f⟩:=YP f;refine DS.wo (x:=.rp [.rsl 4 (List.map Outcome.c bn)]) ?_ ?_
    .exact Ix al runUnderlying66 sizeOf88 Z Wp
    refine D 2 Z ?_;obtain⟨E,am,f⟩:=YP f;refine DS.wo (x:=.rp [.bool E.Out,I E.Seg,I E.Lo,I E.Hi]) ?_ ?_
    .exact Ix am runUnderlying88 sizeOf146 Z Wp
    refine D 1 Z (Eh Z (Cz [] f (k_bq _ _ _) Z λcf bw f=>Go 3 Z (Cn Z f (λan f=>?_) (λan f=>?_))))
    .refine Gc 8 Z (Qn f ?_);obtain rfl:=Oj L f;refine Gx 1 Z (Qm (Gx 2 Z (Qn k ?_)));obtain rfl:=Oj J k;refine Gx 1 Z (Qm (Gx 2 Z (Qn d ?_)));obtain rfl:=Oj y d;exact Gx 1 Z (Qm (Gx 1 Z (Rt h 2 [])))
    exact Gc 8 Z (Qj f (Lr [0,1]))
   subst w;exact Gx 2 Z (Ef j (Gc 5 Z (Qj k (Lr [0,1]))))
  subst w;exact Gx 2 Z (Ef j (Gc 5 Z (Qj d (Lr [0]))))
 subst w;refine Gx 1 Z (Ef j (Gc 4 Z (Cz [] h (k_dh _ _) Z λcg bx h=>Go 3 Z (Cn Z h (λao h=>?_) (λao h=>?_)))))
 .exact Gc 7 Z (Rt h 2 [])
 exact Gc 8 Z (Rt h 2 [])
def F_ki(n:Nat)(b:Field)(c:Int)(a:Int):Option (Ctl Int (Ctl Unit Bool)):=
  (bif decide (a<(b.Runners.length:Int))then((idx b.Runners a).bind λd=>(bif decide ((d.Worlds.length:Int)<=c)then some true else(idx b.Runners a).bind λe=>(idx e.Worlds c).bind λf=>some ((f.length:Int)==0)):Option Bool).bind λg=>(bif g then some (.done (.done false))else some (.cont (IntKind.i64.wrap (a+1))))else some (.done (.cont ())))
def F_ar(n:Nat)(c:Field)(b:Int):Option Bool:=
  ((bif decide (b<0)then some true else some (decide ((c.Pairs.length:Int)<b))):Option Bool).bind λe=>(bif e then some false else(iter (F_ki n c b) n 0:Option (Ctl Unit Bool)).bind λd=>match d with|.cont a=>(some true)|.done a=>some a)
theorem k_ar(n:Nat)(u:Field)(w:Int)(r:Bool)(h:F_ar n u w=some r):
    Csm prog 84 [.agg (Field.c u),I w] [] (λr=>.bool r) r:=by
 refine Qb func84 Z Z Z ?_;refine G0 8 Z (Bd h λk f h=>?_);refine Ct k [0] [1,2] (λk=>[(14,.bool k)]) Ze Zf ?_ (λenv H e=>?_)
 .refine G0 4 Z (Is 8 f Z (λx f=>?_) (λx f=>?_))
  .exact Go 7 Z (Cl f [0])
  .exact Go 3 Z (Lm Z (Go 3 Z (Cl f [0])))
 refine Gx 1 Z (Ef e (Cn Z h (λy h=>?_) (λy h=>?_)))
 .exact Gc 7 Z (Rt h 4 [])
 refine Gc 8 Z (Bd h λz B h=>?_);refine Ja (b:=z) [] [] Ze Ze Zf ?_ (λF env H E e=>?_)
 .refine G0 1 Z ?_;refine Lp [0] [1,2] (λj=>[(5,I j)]) Ze B Zf (Lr [0]) λj G a g=>?_;refine G0 6 Z (Lm Z (Go 3 Z (Ya Z a (λl a=>?_) (λl a=>?_))))
  .refine Gc 2 Z (Qk a ?_);obtain rfl:=Oj g a;exact Gx 1 Z (Qp Z (Lr []))
  refine Gc 5 Z (Bd a λi d a=>?_);refine Ct i [0] [1,2,5] (λi=>[(43,.bool i)]) Ze Zf ?_ (λenv H e=>?_)
  .refine G0 5 Z (Bd d λJ m d=>Iz m Z (Go 2 Z (Lm Z (Go 2 Z (Is 31 d Z (λp d=>?_) (λp d=>?_))))))
   .exact Go 13 Z (Cl d [0])
   .exact Go 3 Z (Bd d λL q d=>Iz q Z (Go 3 Z (Bd d λM s d=>Iz s Z (Go 1 Z (Lm Z (Go 3 Z (Cl d [0])))))))
  refine Gx 1 Z (Ef e (Cn Z a (λt a=>?_) (λt a=>?_)))
  .refine Gc 8 Z (Qn a ?_);obtain rfl:=Oj g a;exact Gx 1 Z (Qm (Gx 1 Z (Rt h 4 [])))
  exact Gc 8 Z (Qj a (Lr [0]))
 subst E;exact Gx 1 Z (Ef e (Gc 6 Z (Rt h 4 [])))
def F_jz(n:Nat)(b:List Int)(a:Int):Option (Ctl Int (Ctl Unit Bool)):=
  (bif decide (a<(b.length:Int))then((idx b a).bind λc=>(bif decide (c<(-1125899906842624))then some true else(idx b a).bind λd=>some (decide (1125899906842624<d))):Option Bool).bind λe=>(bif e then some (.done (.done false))else some (.cont (IntKind.i64.wrap (a+1))))else some (.done (.cont ())))
def F_jm(n:Nat)(h:Field)(b:List Int)(c:Int)(a:Int):Option (Ctl Int (Ctl Unit (Ctl Int (Ctl Unit Bool)))):=
  (bif decide (a<(b.length:Int))then(idx b a).bind λd=>(idx b c).bind λe=>(idx h.Clocks.Far c).bind λf=>(idx f a).bind λg=>(bif decide (g<(IntKind.i64.wrap (d-e)))then some (.done (.done (.done (.done false))))else some (.cont (IntKind.i64.wrap (a+1))))else some (.done (.cont ())))
def F_jh(n:Nat)(e:Field)(c:List Int)(a:Int):Option (Ctl Int (Ctl Unit Bool)):=
  (bif decide (a<(c.length:Int))then(iter (F_jm n e c a) n 0:Option (Ctl Unit (Ctl Int (Ctl Unit Bool)))).bind λd=>match d with|.cont b=>(some (.cont (IntKind.i64.wrap (a+1))))|.done b=>some b else some (.done (.cont ())))
def F_jk(n:Nat)(i:Field)(e:History)(c:Int):Option (Ctl Int (Ctl Unit Bool)):=
  (bif decide (c<(e.Choices.length:Int))then(idx i.Runners c).bind λf=>(idx f.Worlds e.World).bind λd=>(idx e.Choices c).bind λa=>((bif decide (a.Outcome<0)then some true else some (decide ((d.length:Int)<=a.Outcome))):Option Bool).bind λg=>(bif g then some (.done (.done false))else(idx d a.Outcome).bind λb=>((bif b.Out then(bif (a.X != 0)then some true else(bif (!b.Out)then(bif decide (a.X<b.Lo)then some true else some (decide (b.Hi<a.X)))else some false))else(bif (!b.Out)then(bif decide (a.X<b.Lo)then some true else some (decide (b.Hi<a.X)))else some false)):Option Bool).bind λh=>(bif h then some (.done (.done false))else some (.cont (IntKind.i64.wrap (c+1)))))else some (.done (.cont ())))
def F_bg(n:Nat)(c:Field)(d:History):Option Bool:=
  ((F_ar n c d.World).bind λj=>(bif (!j)then some true else(bif ((d.Offsets.length:Int) != (c.Clocks.Segments.length:Int))then some true else some ((d.Choices.length:Int) != (c.Runners.length:Int)))):Option Bool).bind λk=>(bif k then some false else(app [0] d.Offsets).bind λf=>(iter (F_jz n f) n 0:Option (Ctl Unit Bool)).bind λi=>match i with|.cont e=>((iter (F_jh n c f) n 0:Option (Ctl Unit Bool)).bind λg=>match g with|.cont a=>((iter (F_jk n c d) n 0:Option (Ctl Unit Bool)).bind λh=>match h with|.cont b=>(some true)|.done b=>some b)|.done a=>some a)|.done e=>some e)
theorem k_bg(n:Nat)(a1:Field)(a2:History)(r:Bool)(h:F_bg n a1 a2=some r):
    Csm prog 53 [.agg (Field.c a1),.agg (History.c a2)] [] (λr=>.bool r) r:=by
 refine Qb func53 Z Z Z ?_;refine G0 9 Z (Bd h λb4 l h=>?_);refine Ct b4 [0,1] [2,3] (λb4=>[(36,.bool b4)]) Ze Zf ?_ (λenv H g=>?_)
 .refine G0 4 Z (Cz [] l (k_ar _ _ _) Z λr6 bu l=>Go 2 Z (Is 18 l Z (λbd l=>?_) (λbd l=>?_)))
  .exact Go 19 Z (Cl l [0,1])
  .refine Go 2 Z (Lm Z (Go 3 Z (Lm Z (Go 3 Z (Is 28 l Z (λbe l=>?_) (λbe l=>?_))))))
   .exact Go 9 Z (Cl l [0,1])
   .exact Go 2 Z (Lm Z (Go 2 Z (Lm Z (Go 3 Z (Cl l [0,1])))))
 refine Gx 1 Z (Ef g (Cn Z h (λbf h=>?_) (λbf h=>?_)))
 .exact Gc 7 Z (Rt h 4 [])
 refine Gc 4 Z ?_;refine vH (El (xs:=[.const (.int .i64 0)]) (es:=List.map (Qd .i64) [0]) Qv Z Z Z Z Z ⟨Z,trivial⟩ Z Z) ?_;refine FE Z (Go 2 Z (Bd h λal am h=>?_));refine vH (QM (e:=(Qd .i64)) am Qv runUnderlying32 Qgu) ?_;refine FE Z (Go 9 Z (Bd h λbg bh h=>?_));refine Ja (b:=bg) [0,1,2] [2,3] (λ_=>[(5,.osl 2 0 al.length 1)]) (λ_=>[(2,.row 3 1 (List.map (Qd .i64) al))]) Zf ?_ (λbn env H m g=>?_)
 .refine G0 1 Z ?_;refine Lp [0,1,3] [2,3,5] (λz=>[(6,I z)]) Ze bh Zf (Lr [0,1,3]) λz bv j J=>?_;refine G0 9 Z (Ya Z j (λan j=>?_) (λan j=>?_))
  .refine Gc 2 Z (Qk j ?_);obtain rfl:=Oj J j;exact Gx 1 Z (Qp Z (Lr [0,1,2]))
  refine Gc 5 Z (Bd j λL k j=>?_);refine Ct L [0,1,2] [2,3,5,6] (λL=>[(58,.bool L)]) Ze Zf ?_ (λenv H g=>?_)
  .refine G0 3 Z (Bd k λbi M k=>?_);refine vX (.ptr 2 (Int.toNat z*1)) (QN M Z runUnderlying32 sizeOf3) ?_;refine vX (I bi) (Ey Z isAgg3 Z (Qo M)) ?_;refine Go 2 Z (Is 52 k Z (λao k=>?_) (λao k=>?_))
   .exact Go 7 Z (Cl k [0,1,2])
   .refine Go 2 Z (Bd k λbj N k=>?_);refine vX (.ptr 2 (Int.toNat z*1)) (QN N Z runUnderlying32 sizeOf3) ?_ (gT Z);refine vX (I bj) (Ey Z isAgg3 Z (Qo N)) ?_ (gT Z);exact Go 3 Z (Cl k [0,1,2])
  refine Gx 1 Z (Ef g (Cn Z j (λaq j=>?_) (λaq j=>?_)))
  .refine Gc 8 Z (Qn j ?_);obtain rfl:=Oj J j;exact Gx 1 Z (Qm (Gx 1 Z (Rt h 4 [])))
  exact Gc 8 Z (Qj j (Lr [0,1,2]))
 subst m;refine Gx 1 Z (Ef g (Gc 6 Z (Bd h λar au h=>?_)));refine Ja (b:=ar) [0,1] [2,3] Ze Ze Zf ?_ (λbk env H m g=>?_)
 .refine G0 1 Z ?_;refine Lp [0,1,2] [2,3,5] (λs=>[(7,I s)]) Ze au Zf (Lr [0,1,2]) λs bo i B=>?_;refine G0 9 Z (Ya Z i (λP i=>?_) (λP i=>?_))
  .refine Gc 2 Z (Qk i ?_);obtain rfl:=Oj B i;exact Gx 1 Z (Qp Z (Lr [0,1]))
  refine Gc 9 Z (Bd i λav aw i=>?_);refine Ja (b:=av) [0,1,2] [2,3,5,7] Ze Ze Zf ?_ (λbl env H m g=>?_)
  .refine G0 1 Z ?_;refine Lp [0,1,2] [2,3,5,7] (λt=>[(8,I t)]) Ze aw Zf (Lr [0,1,2]) λt bp f E=>?_;refine G0 9 Z (Ya Z f (λQ f=>?_) (λQ f=>?_))
   .refine Gc 2 Z (Qk f ?_);obtain rfl:=Oj E f;exact Gx 1 Z (Qp Z (Lr [0,1,2]))
   refine Gc 5 Z (DSs 18 Z (D 2 Z ?_));obtain⟨ax,F,f⟩:=YP f;refine DS.v (x:=(.ptr 2 (Int.toNat t*1))) (QN F Z runUnderlying32 sizeOf3) ?_;refine DS.v (x:=(I ax)) (Ey Z isAgg3 Z (Qo F)) ?_;refine D 2 Z ?_;obtain⟨ay,G,f⟩:=YP f;refine DS.v (x:=(.ptr 2 (Int.toNat s*1))) (QN G Z runUnderlying32 sizeOf3) ?_;refine DS.v (x:=(I ay)) (Ey Z isAgg3 Z (Qo G)) ?_;refine D 5 Z ?_;obtain⟨az,R,f⟩:=YP f;refine DS.wo (x:=.rp [.rsl 1 (List.map (Qd .i64) az)]) ?_ ?_
   .exact Ix R runUnderlying23 sizeOf32 Z Wp
   refine D 2 Z ?_;obtain⟨ba,T,f⟩:=YP f;refine DS.wo (x:=.rp [I ba]) ?_ ?_
   .exact Ix T runUnderlying32 sizeOf3 Z Wp
   refine D 1 Z (Eh Z (Go 3 Z (Cn Z f (λV f=>?_) (λV f=>?_))))
   .refine Gc 8 Z (Qn f ?_);obtain rfl:=Oj E f;refine Gx 1 Z (Qm (Gx 2 Z (Qn i ?_)));obtain rfl:=Oj B i;exact Gx 1 Z (Qm (Gx 1 Z (Rt h 4 [])))
   exact Gc 8 Z (Qj f (Lr [0,1,2]))
  subst m;exact Gx 2 Z (Ef g (Gc 5 Z (Qj i (Lr [0,1,2]))))
 subst m;refine Gx 1 Z (Ef g (Gc 6 Z (Bd h λbb bc h=>?_)));refine Ja (b:=bb) [] [] Ze Ze Zf ?_ (λbm env H m g=>?_)
 .refine G0 1 Z ?_;refine Lp [0,1] [2,3] (λO=>[(9,I O)]) Ze bc Zf (Lr [0,1]) λO bq a q=>?_;refine G0 6 Z (Lm Z (Go 3 Z (Ya Z a (λW a=>?_) (λW a=>?_))))
  .refine Gc 2 Z (Qk a ?_);obtain rfl:=Oj q a;exact Gx 1 Z (Qp Z (Lr []))
  refine Gc 5 Z (DSs 8 Z (D 3 Z ?_));obtain⟨u,X,a⟩:=YP a;refine DS.wo (x:=.rp [I u.Bib,.rsl 1 (List.map (Qd .i64) u.Keys),.rsl 1 (List.map (YC 4 Outcome.c) u.Worlds)]) ?_ ?_
  .exact Ix X runUnderlying27 sizeOf68 Z Wp
  refine D 4 Z (Eh Z (Bd a λbr Y a=>Iz Y Z (Go 9 Z (Bd a λbs aa a=>Iz aa Z (Go 7 Z (Bd a λw p a=>?_))))));refine Ct w [0,1,2] [2,3,9,10,11] (λw=>[(121,.bool w)]) Ze Zf ?_ (λenv H g=>?_)
  .refine G0 5 Z (Is 115 p Z (λab p=>?_) (λab p=>?_))
   .exact Go 7 Z (Cl p [0,1,2])
   .exact Go 3 Z (Lm Z (Go 3 Z (Cl p [0,1,2])))
  refine Gx 1 Z (Ef g (Cn Z a (λac a=>?_) (λac a=>?_)))
  .refine Gc 9 Z (Qn a ?_);obtain rfl:=Oj q a;exact Gx 1 Z (Qm (Gx 1 Z (Rt h 4 [])))
  refine Gc 7 Z (Bd a λbt ad a=>Iz ad Z (Go 6 Z (Bd a λy d a=>?_)));refine Ct y [0,1] [2,3,9] (λy=>[(152,.bool y)]) Ze Zf ?_ (λenv H g=>?_)
  .refine G0 4 Z (Is 129 d Z (λae d=>?_) (λae d=>?_))
   .refine Go 5 Z (Is 134 d Z (λaf d=>?_) (λaf d=>?_))
    .exact Go 19 Z (Cl d [0,1])
    .refine Go 4 Z (Is 138 d Z (λag d=>?_) (λag d=>?_))
     .refine Go 6 Z (Is 144 d Z (λah d=>?_) (λah d=>?_))
      .exact Go 9 Z (Cl d [0,1])
      .exact Go 9 Z (Cl d [0,1])
     .exact Go 15 Z (Cl d [0,1])
   .refine Go 9 Z (Is 138 d Z (λai d=>?_) (λai d=>?_))
    .refine Go 6 Z (Is 144 d Z (λaj d=>?_) (λaj d=>?_))
     .exact Go 9 Z (Cl d [0,1])
     .exact Go 9 Z (Cl d [0,1])
    .exact Go 15 Z (Cl d [0,1])
  refine Gx 1 Z (Ef g (Cn Z a (λak a=>?_) (λak a=>?_)))
  .refine Gc 8 Z (Qn a ?_);obtain rfl:=Oj q a;exact Gx 1 Z (Qm (Gx 1 Z (Rt h 4 [])))
  exact Gc 8 Z (Qj a (Lr [0,1]))
 subst m;exact Gx 1 Z (Ef g (Gc 6 Z (Rt h 4 [])))
def F_au(n:Nat)(a:Field)(b:History):Option Int:=
  (F_dp n a).bind λr1=>(bif (r1 != 0)then some 240 else(F_bg n a b).bind λc=>(bif (!c)then some 260 else some 0))
theorem k_au(n:Nat)(a:Field)(b:History)(r:Int)(h:F_au n a b=some r):
    Csm prog 24 [.agg (Field.c a),.agg (History.c b)] [] (λr=>I r) r:=by
 refine Qb func24 Z Z Z ?_;refine G0 11 Z (Cz [] h (k_dp _ _) Z λr1 f h=>Go 3 Z (Cn Z h (λd h=>?_) (λd h=>?_)))
 .exact Gc 7 Z (Rt h 4 [])
 refine Gc 7 Z (Cz [] h (k_bg _ _ _) Z λi g h=>Go 3 Z (Cn Z h (λe h=>?_) (λe h=>?_)))
 .exact Gc 7 Z (Rt h 4 [])
 exact Gc 8 Z (Rt h 4 [])
def F_hg(n:Nat)(k:Int)(c:(List history_pair_int__int_)×history_view×Int)(a:(List history_pair_int__int_)×Int):Option (Ctl ((List history_pair_int__int_)×Int) (List history_pair_int__int_)):=
  ((bif decide (k<a.2)then(idx a.1 a.2).bind λd=>(idx a.1 (IntKind.i64.wrap (a.2-1))).bind λe=>(F_x n c.2.1 d e).bind λf=>some (decide (f<0))else some false):Option Bool).bind λg=>(bif g then(idx a.1 (IntKind.i64.wrap (a.2-1))).bind λh=>(idx a.1 a.2).bind λi=>(idx a.1 a.2).bind λl=>(Qbs a.1 a.2 h).bind λb=>(idx b (IntKind.i64.wrap (a.2-1))).bind λm=>(Qbs b (IntKind.i64.wrap (a.2-1)) i).bind λj=>some (.cont (j,IntKind.i64.wrap (a.2-1)))else some (.done a.1))
def F_ei(n:Nat)(c:Int)(d:Int)(a:(List history_pair_int__int_)×history_view×Int):Option (Ctl ((List history_pair_int__int_)×history_view×Int) (List history_pair_int__int_)):=
  (bif decide (a.2.2<d)then(iter (F_hg n c a) n (a.1,a.2.2):Option (List history_pair_int__int_)).bind λb=>some (.cont (b,a.2.1,IntKind.i64.wrap (a.2.2+1)))else some (.done a.1))
def F_gy(n:Nat)(c:List history_pair_int__int_)(b:Int)(d:Int)(e:history_view):Option (List history_pair_int__int_):=
  (iter (F_ei n b d) n (c,e,IntKind.i64.wrap (b+1)):Option (List history_pair_int__int_)).bind λa=>some a
theorem k_gy(n:Nat)(Q:List history_pair_int__int_)(X:Int)(Y:Int)(a4:history_view)(r:List history_pair_int__int_)(h:F_gy n Q X Y a4=some r):
    C prog 149 [.osl 0 0 Q.length 2,I X,I Y,.fn (.func 57) [.agg (history_view.c a4)] []] [.row 125 2 (List.map history_pair_int__int_.c Q)] (RQ (λ_=>.tup []) (λr=>[.row 125 2 (List.map history_pair_int__int_.c r)]) r):=by
 refine Qb func149 Z Z Z ?_;refine G0 7 Z (Bd h λq R h=>?_);refine Ct q [0] [] Ze (λq=>[(0,.row 125 2 (List.map history_pair_int__int_.c q))]) Zf ?_ (λenv H m=>?_)
 .refine G0 1 Z ?_;refine Lp [0] [1,2] (λl=>[(0,.osl 0 0 l.1.length 2),(3,.fn (.func 57) [.agg (history_view.c l.2.1)] []),(8,I l.2.2)]) (λl=>[(0,.row 125 2 (List.map history_pair_int__int_.c l.1))]) R Zf (Lr [0]) λl ab g L=>?_;refine G0 8 Z (Ya Z g (λM g=>?_) (λM g=>?_))
  .refine Gc 2 Z (Qk g ?_);obtain rfl:=Oj L g;exact Gx 1 Z (Q1 (Lr [0]))
  refine Gc 10 Z (Bd g λp T g=>?_);refine Ct p [0] [1,2,3,8] (λp=>[(0,.osl 0 0 p.length 2)]) (λp=>[(0,.row 125 2 (List.map history_pair_int__int_.c p))]) Zf ?_ (λenv H m=>?_)
  .refine G0 1 Z ?_;refine Lp [0] [1,2,3,8] (λa=>[(0,.osl 0 0 a.1.length 2),(9,I a.2)]) (λa=>[(0,.row 125 2 (List.map history_pair_int__int_.c a.1))]) T Zf (Lr [0]) λa ac b N=>?_;refine G0 2 Z (Bd b λt d b=>?_);refine Ct t [0] [0,1,2,3,8,9] (λt=>[(34,.bool t)]) Ze Zf ?_ (λenv H m=>?_)
   .refine G0 0 Z (DSs 14 Z (D 4 Z (Yr 3 d Z Z Z (λO d=>?_) (λO d=>?_))))
    .refine D 3 Z ?_;obtain⟨V,u,d⟩:=YP d;refine DS.v (x:=(.ptr 0 (Int.toNat a.2*2))) (QN u Z runUnderlying126 sizeOf125) ?_ (hg:=(gT Z));refine DS.v (x:=(.agg (history_pair_int__int_.c V))) (Qy Z isAgg125 sizeOf125 Z (Qo u) Z Z) ?_ (hg:=(gT Z));refine D 3 Z ?_;obtain⟨W,w,d⟩:=YP d;refine DS.v (x:=(.ptr 0 (Int.toNat (IntKind.i64.wrap (a.2-1))*2))) (QN w Z runUnderlying126 sizeOf125) ?_ (hg:=(gT Z));refine DS.v (x:=(.agg (history_pair_int__int_.c W))) (Qy Z isAgg125 sizeOf125 Z (Qo w) Z Z) ?_ (hg:=(gT Z));exact Eh Z (Cz [] d (k_x _ _ _ _) Z λad aa d=>Go 3 Z (Cl d [0]))
    .exact D 10 Z (Eh Z (Go 4 Z (Cl d [0])))
   refine Gx 1 Z (Ef m (Ya Z b (λP b=>?_) (λP b=>?_)))
   .refine Gc 2 Z (Qk b ?_);obtain rfl:=Oj N b;exact Gx 1 Z (Q1 (Lr [0]))
   refine Gc 4 Z ?_;obtain⟨F,y,b⟩:=YP b;obtain⟨G,z,b⟩:=YP b;obtain⟨ae,B,b⟩:=YP b;obtain⟨J,i,b⟩:=YP b;refine QaE 16 0 [37,38,39,40,41,42,43,44,45,46,47,48,49,50,51,1000015] [false,false,false,false,false,false,false,false,false,false,false,false,false,false,false,true] [[],[],[],[],[],[],[],[],[],[],[],[],[],[],[],[]] [[],[15]] [[(0,0)],[(0,0)],[(0,0),(1,1)],[(0,0),(1,1)],[(0,0),(1,1)],[(0,0)],[(0,0)],[(0,0)],[(0,0)],[(0,0)],[(0,0)],[(0,0)],[(0,0)],[(0,0)],[(0,0)],[(0,1)]] [.osl 0 0 a.1.length 2,I a.2,.osl 0 0 a.1.length 2,I a.2,I (IntKind.i64.wrap (a.2-1)),.osl 0 0 a.1.length 2,I a.2,I (IntKind.i64.wrap (a.2-1)),.ptr 0 (Int.toNat (IntKind.i64.wrap (a.2-1))*2),.agg (history_pair_int__int_.c F),.osl 0 0 a.1.length 2,I a.2,.ptr 0 (Int.toNat a.2*2),.agg (history_pair_int__int_.c G),.ptr 0 (Int.toNat a.2*2),.any] [[.row 125 2 (List.map history_pair_int__int_.c a.1)],[.row 125 2 (List.map history_pair_int__int_.c J)]] ([.row 125 2 (List.map history_pair_int__int_.c J)]) draws Z Z Z Z Z Z Z ?_ Z ?_
   .refine Qgz.cons (Qe (v0 Z Z) (Ql)) (Qgz.cons (Qe (v0 Z Z) (Ql)) (Qgz.cons (Qe (v0 Z Z) (Qe (v0 Z Z) (Ql))) (Qgz.cons (Qe (v0 Z Z) (Qe (v0 Z Z) (Ql))) (Qgz.cons ?_ (Qgz.cons (Qe (v0 Z Z) (Ql)) (Qgz.cons (Qe (v0 Z Z) (Ql)) (Qgz.cons ?_ (Qgz.cons ?_ (Qgz.cons ?_ (Qgz.cons (Qe (v0 Z Z) (Ql)) (Qgz.cons (Qe (v0 Z Z) (Ql)) (Qgz.cons ?_ (Qgz.cons ?_ (Qgz.cons ?_ (Qgz.cons ?_ (Qgz.nil))))))))))))))))
    .refine Qe ?_ (Qe ?_ (Ql))
     .refine Om Z (sD 3 sN) ?_;exact S Z Wp
     .refine Om Z (sD 3 sN) ?_;exact S Z Wp
    .refine Qe ?_ (Ql)
     .refine Om Z (sD 6 sN) ?_;exact S Z Wp
    .refine Qe ?_ (Ql)
     .refine Om Z (sD 5 (sD 7 sN)) ?_;refine vX (.ptr 0 (Int.toNat (IntKind.i64.wrap (a.2-1))*2)) (QN y Z runUnderlying126 sizeOf125) ?_;exact Wp
    .refine Qe ?_ (Ql)
     .refine Om Z (sD 8 sN) ?_;refine vX (.agg (history_pair_int__int_.c F)) (Qy Z isAgg125 sizeOf125 Z (Qo y) Z Z) ?_;exact Wp
    .refine Qe ?_ (Ql)
     .refine Om Z (sD 10 (sD 11 sN)) ?_;refine vX (.ptr 0 (Int.toNat a.2*2)) (QN z Z runUnderlying126 sizeOf125) ?_;exact Wp
    .refine Qe ?_ (Ql)
     .refine Om Z (sD 12 sN) ?_;refine vX (.agg (history_pair_int__int_.c G)) (Qy Z isAgg125 sizeOf125 Z (Qo z) Z Z) ?_;exact Wp
    .refine Qe ?_ (Ql)
     .refine Om Z (sD 0 (sD 1 sN)) ?_;refine vX (.ptr 0 (Int.toNat a.2*2)) (QN B Z runUnderlying126 sizeOf125) ?_;exact Wp
    .refine Qe ?_ (Ql)
     .refine Om2 Z (sD 9 (sD 14 sN)) ?_;refine vU (Jn (e:=history_pair_int__int_.c) (k:=2) (f:=0) B i sizeOf125 Z Z) ?_;exact FE Z Wp
   refine Et (Qu (s:=0) Z (congrArg (λn=>A.osl 0 0 n 2) (Y2 i))) ?_;refine Et (Qu (s:=37) Z (congrArg (λn=>A.osl 0 0 n 2) (Y2 i))) ?_;refine Et (Qu (s:=39) Z (congrArg (λn=>A.osl 0 0 n 2) (Y2 i))) ?_;refine Et (Qu (s:=42) Z (congrArg (λn=>A.osl 0 0 n 2) (Y2 i))) ?_;refine Et (Qu (s:=47) Z (congrArg (λn=>A.osl 0 0 n 2) (Y2 i))) ?_;refine Bd b λaf E b=>?_;refine vX (.ptr 0 (Int.toNat (IntKind.i64.wrap (a.2-1))*2)) (QN E Z runUnderlying126 sizeOf125) ?_;refine Bd b λag j b=>?_;refine vU (Jn (e:=history_pair_int__int_.c) (k:=2) (f:=0) E j sizeOf125 Z Z) ?_;refine FE Z ?_;refine Et (Qu (s:=0) Z (congrArg (λn=>A.osl 0 0 n 2) (Y2 j))) ?_;refine Et (Qu (s:=37) Z (congrArg (λn=>A.osl 0 0 n 2) (Y2 j))) ?_;refine Et (Qu (s:=39) Z (congrArg (λn=>A.osl 0 0 n 2) (Y2 j))) ?_;refine Et (Qu (s:=42) Z (congrArg (λn=>A.osl 0 0 n 2) (Y2 j))) ?_;refine Et (Qu (s:=47) Z (congrArg (λn=>A.osl 0 0 n 2) (Y2 j))) ?_;exact Go 8 Z (Qj b (Lr [0]))
  exact Gx 2 Z (Ef m (Gc 5 Z (Qj g (Lr [0]))))
 obtain rfl:=Oi h;have m:=m;refine⟨[],_,_,?_,QcH.nil Z,Z,Z⟩;refine En m ?_;exact Lr [0]
def F_gp(n:Nat)(a:List history_pair_int__int_)(b:Int)(c:history_view):Option (List history_pair_int__int_):=
  (bif decide (b<20)then(Qcs a (F_gy n a 0 b c)).bind λr1=>some r1 else none)
theorem k_gp(n:Nat)(b:List history_pair_int__int_)(d:Int)(e:history_view)(r:List history_pair_int__int_)(h:F_gp n b d e=some r):
    C prog 98 [.osl 0 0 b.length 2,I d,.fn (.func 57) [.agg (history_view.c e)] []] [.row 125 2 (List.map history_pair_int__int_.c b)] (RQ (λ_=>.tup []) (λr=>[.row 125 2 (List.map history_pair_int__int_.c r)]) r):=by
 obtain⟨hk1,hk2,h⟩:=gd20 h;refine Qb func98 Z Z Z ?_;refine G0 23 Z (CnF hk1 Z (Gc 11 Z (Bd h λr1 a h=>?_)));refine Qt [0] (OpC.fn call149 Z Z Z) (k_gy _ _ _ _ _ _ (Qek a)) ?_;rintro _ _ ⟨rfl,rfl⟩;refine FE Z ?_;refine Et (Qu (s:=0) Z (congrArg (λn=>A.osl 0 0 n 2) (Jh a))) ?_;refine Et (Qu (s:=23) Z (congrArg (λn=>A.osl 0 0 n 2) (Jh a))) ?_;refine Go 12 Z (CnF hk2 Z (Gc 4 Z ?_));obtain rfl:=Oi h;exact Rx [0] [] Z (QcH.nil Z) ⟨Z,Z⟩
def F_cm(n:Nat)(a:List history_pair_int__int_)(b:history_view):Option (List history_pair_int__int_):=
  (Qcs a (F_gp n a (a.length:Int) b)).bind λr1=>some r1
theorem k_cm(n:Nat)(b:List history_pair_int__int_)(d:history_view)(r:List history_pair_int__int_)(h:F_cm n b d=some r):
    C prog 61 [.osl 0 0 b.length 2,.fn (.func 57) [.agg (history_view.c d)] []] [.row 125 2 (List.map history_pair_int__int_.c b)] (RQ (λ_=>.tup []) (λr=>[.row 125 2 (List.map history_pair_int__int_.c r)]) r):=by
 refine Qb func61 Z Z Z ?_;refine G0 5 Z (Bd h λr1 a h=>?_);refine Qt [0] (OpC.fn call98 Z Z Z) (k_gp _ _ _ _ _ (Qek a)) ?_;rintro _ _ ⟨rfl,rfl⟩;refine FE Z ?_;refine Et (Qu (s:=0) Z (congrArg (λn=>A.osl 0 0 n 2) (Jh a))) ?_;refine Et (Qu (s:=4) Z (congrArg (λn=>A.osl 0 0 n 2) (Jh a))) ?_;refine Et (Qu (s:=5) Z (congrArg (λn=>A.osl 0 0 n 2) (Jh a))) ?_;refine Go 1 Z ?_;obtain rfl:=Oi h;exact Rx [0] [] Z (QcH.nil Z) ⟨Z,Z⟩
def F_ho(n:Nat)(b:List history_pair_int__int_)(a:(List Int)×Int):Option (Ctl ((List Int)×Int) (List Int)):=
  (bif decide (a.2<(b.length:Int))then(idx b a.2).bind λc=>(app a.1 [c.first]).bind λd=>some (.cont (d,IntKind.i64.wrap (a.2+1)))else some (.done a.1))
def F_ch(n:Nat)(c:Field)(d:History):Option ((List Int)×Int):=
  (F_w n c d).bind λr1=>(bif (r1.2 != 0)then some ([],r1.2)else(F_am n r1.1).bind λa=>(Qcs a (F_cm n a r1.1)).bind λe=>(iter (F_ho n e) n ([],0):Option (List Int)).bind λb=>some (b,0))
theorem k_ch(n:Nat)(q:Field)(u:History)(r:(List Int)×Int)(h:F_ch n q u=some r):
    C prog 29 [.agg (Field.c q),.agg (History.c u)] [] (RQ (λr=>.tup [.osl 0 0 r.1.length 1,I r.2]) (λr=>[.row 3 1 (List.map (Qd .i64) r.1)]) r):=by
 refine Qb func29 Z Z Z ?_;refine G0 12 Z (Cd [] h (k_w _ _ _) Z λr1 z h=>FE Z (Go 15 Z (Cn Z h (λw h=>?_) (λw h=>?_))))
 .refine Gc 9 Z ?_;obtain rfl:=Oi h;refine R2 4 5 Z Z ?_;refine En (Er (s:=4) (k:=1) (t:=3) (XY Z) Z) ?_;exact Lr [4]
 refine Gc 5 Z (Cd [] h (k_am _ _) Z λG B h=>FE Z (Go 8 Z (Bd h λJ f h=>?_)));refine Qt [4] (OpC.fn call61 Z Z Z) (k_cm _ _ _ _ (Qek f)) ?_;rintro _ _ ⟨rfl,rfl⟩;refine FE Z ?_;refine Et (Qu (s:=7) Z (congrArg (λn=>A.osl 4 0 n 2) (Jh f))) ?_;refine Et (Qu (s:=20) Z (congrArg (λn=>A.osl 4 0 n 2) (Jh f))) ?_;refine Et (Qu (s:=21) Z (congrArg (λn=>A.osl 4 0 n 2) (Jh f))) ?_;refine Go 10 Z (Bd h λd x h=>?_);refine Ct d [0] [] (λd=>[(4,.osl 0 0 d.length 1)]) (λd=>[(0,.row 3 1 (List.map (Qd .i64) d))]) Zf ?_ (λenv H y=>?_)
 .refine G0 1 Z ?_;refine Lp [0,4] [25,26] (λb=>[(4,.osl 0 0 b.1.length 1),(27,I b.2)]) (λb=>[(0,.row 3 1 (List.map (Qd .i64) b.1))]) x Zf ?_ ?_
  .refine En (Er (s:=4) (k:=1) (t:=3) (XY Z) Z) ?_;exact Lr [5,4]
  intro b E a l;refine G0 6 Z (Ya Z a (λm a=>?_) (λm a=>?_))
  .refine Gc 2 Z (Qk a ?_);obtain rfl:=Oj l a;exact Gx 1 Z (Q1 (Lr [0]))
  refine Gc 6 Z (Bd a λj g a=>?_);refine vX (.ptr 1 (Int.toNat b.2*2)) (QN g Z runUnderlying126 sizeOf125) ?_;refine vX (.agg (history_pair_int__int_.c j)) (Qy Z isAgg125 sizeOf125 Z (Qo g) Z Z) ?_;refine Go 8 Z ?_;refine vH (El (xs:=[.tmp 33]) (es:=List.map (Qd .i64) [j.first]) Qv Z Z Z Z Z ⟨Z,trivial⟩ Z Z) ?_;refine FE Z (Bd a λF p a=>?_);refine vH (QM (e:=(Qd .i64)) p Qv runUnderlying32 (YI (i:=3))) ?_;exact FE Z (Go 8 Z (Qj a (Lr [4,1])))
 refine Gx 1 Z (Ef y (Gc 8 Z ?_));obtain rfl:=Oi h;exact R2 4 5 Z Z (Lr [0])
def F_gc(n:Nat)(c:Course)(e:Int)(f:Int)(g:Int)(b:Int):Option (Ctl Int (Ctl Unit Int)):=
  (bif decide (b<(c.Prizes.length:Int))then(idx c.Prizes b).bind λa=>((bif (a.Distance==e)then(bif (a.Category==f)then some (a.Rank==g)else some false)else some false):Option Bool).bind λd=>(bif d then some (.done (.done a.Amount))else some (.cont (IntKind.i64.wrap (b+1))))else some (.done (.cont ())))
def F_dd(n:Nat)(c:Course)(d:Int)(e:Int)(f:Int):Option Int:=
  (iter (F_gc n c d e f) n 0:Option (Ctl Unit Int)).bind λb=>match b with|.cont a=>(some 0)|.done a=>some a
theorem k_dd(n:Nat)(q:Course)(s:Int)(t:Int)(u:Int)(r:Int)(h:F_dd n q s t u=some r):
    Csm prog 28 [.agg (Course.c q),I s,I t,I u] [] (λr=>I r) r:=by
 refine Qb func28 Z Z Z ?_;refine G0 12 Z (Bd h λw x h=>?_);refine Ja (b:=w) [] [] Ze Ze Zf ?_ (λz env H y e=>?_)
 .refine G0 1 Z ?_;refine Lp [0] [1,2,3,4] (λi=>[(9,I i)]) Ze x Zf (Lr [0]) λi B a f=>?_;refine G0 6 Z (Lm Z (Go 3 Z (Ya Z a (λj a=>?_) (λj a=>?_))))
  .refine Gc 2 Z (Qk a ?_);obtain rfl:=Oj f a;exact Gx 1 Z (Qp Z (Lr []))
  refine Gc 9 Z (Bd a λE k a=>Iz k Z (Go 6 Z (Bd a λg d a=>?_)));refine Ct g [0,1] [1,2,3,4,9,10] (λg=>[(38,.bool g)]) Ze Zf ?_ (λenv H e=>?_)
  .refine G0 6 Z (Is 27 d Z (λl d=>?_) (λl d=>?_))
   .refine Go 6 Z (Is 33 d Z (λm d=>?_) (λm d=>?_))
    .exact Go 6 Z (Cl d [0,1])
    .exact Go 6 Z (Cl d [0,1])
   .exact Go 12 Z (Cl d [0,1])
  refine Gx 1 Z (Ef e (Cn Z a (λp a=>?_) (λp a=>?_)))
  .refine Gc 10 Z (Qn a ?_);obtain rfl:=Oj f a;exact Gx 1 Z (Qm (Gx 1 Z (Rt h 8 [])))
  exact Gc 8 Z (Qj a (Lr [0]))
 subst y;exact Gx 1 Z (Ef e (Gc 6 Z (Rt h 8 [])))
def F_jn(n:Nat)(c:Field)(g:History)(d:Payment)(a:Bool×Int):Option (Ctl (Bool×Int) Bool):=
  (bif decide (a.2<(c.Runners.length:Int))then(idx c.Runners a.2).bind λe=>(F_ai n c g a.2).bind λb=>((bif a.1 then some true else(bif (b.2==0)then(bif (e.Bib==d.Bib)then some (decide (0<b.1))else some false)else some false)):Option Bool).bind λf=>some (.cont (f,IntKind.i64.wrap (a.2+1)))else some (.done a.1))
def F_hx(n:Nat)(h:Field)(i:History)(c:(List Payment)×Int)(a:(List Int)×Int):Option (Ctl ((List Int)×Int) (Ctl (List Int) Bool)):=
  (bif decide (a.2<(c.1.length:Int))then(idx c.1 a.2).bind λb=>((bif decide (b.Amount<=0)then some true else(bif decide (0<a.2)then(idx c.1 (IntKind.i64.wrap (a.2-1))).bind λd=>some (decide (b.Bib<=d.Bib))else some false)):Option Bool).bind λe=>(bif e then some (.done (.done false))else(app a.1 [b.Amount]).bind λf=>(iter (F_jn n h i b) n (false,0):Option Bool).bind λg=>(bif (!g)then some (.done (.done false))else some (.cont (f,IntKind.i64.wrap (a.2+1)))))else some (.done (.cont a.1)))
def F_jj(n:Nat)(e:Course)(f:Int)(g:Int)(b:(List Int)×Int)(a:(List Int)×Int):Option (Ctl ((List Int)×Int) (List Int)):=
  (bif decide (a.2<(b.1.length:Int))then(F_dd n e f g (IntKind.i64.wrap (a.2+1))).bind λc=>(app a.1 [c]).bind λd=>some (.cont (d,IntKind.i64.wrap (a.2+1)))else some (.done a.1))
def F_fy(n:Nat)(h:Course)(c:Field)(m:Int)(p:Int)(d:History):Option Bool:=
  (F_gu 300).bind λr1=>(bif (!r1)then some false else((F_z n h).bind λq=>(bif (!q)then some true else(F_dc n c).bind λr=>(bif (!r)then some true else(F_cu n d).bind λs=>(bif (!s)then some true else(F_au n c d).bind λt=>some (t != 0)))):Option Bool).bind λu=>(bif u then some true else(F_ab n h c m p d).bind λe=>(bif (e.2 != 0)then some ((e.1.length:Int)==0)else(iter (F_hx n c d e) n (([]:List Int),0):Option (Ctl (List Int) Bool)).bind λi=>match i with|.cont a=>((F_ch n c d).bind λb=>(iter (F_jj n h m p b) n (([]:List Int),0):Option (List Int)).bind λj=>(F_r n a).bind λf=>(F_r n j).bind λg=>((bif (b.2 != 0)then some true else some (g.2 != 0)):Option Bool).bind λk=>(bif k then some (b.2==0)else((bif (f.2==0)then some (f.1==g.1)else some false):Option Bool).bind λl=>some l))|.done a=>some a)))
theorem k_fy(n:Nat)(a1:Course)(a2:Field)(a3:Int)(a4:Int)(a5:History)(r:Bool)(h:F_fy n a1 a2 a3 a4 a5=some r):
    Csm prog 9 [.agg (Course.c a1),.agg (Field.c a2),I a3,I a4,.agg (History.c a5)] [] (λr=>.bool r) r:=by
 refine Qb func9 Z Z Z ?_;refine G0 11 Z (Cz [] h (k_gu _) Z λr1 bt h=>Go 3 Z (Cn Z h (λba h=>?_) (λba h=>?_)))
 .exact Gc 7 Z (Rt h 10 [])
 refine Gc 4 Z (Bd h λM d h=>?_);refine Ct M [0,1,2] [2,3,5,6,9] (λM=>[(49,.bool M)]) Ze Zf ?_ (λenv H j=>?_)
 .refine G0 2 Z (Cz [] d (k_z _ _) Z λbu bf d=>Go 2 Z (Is 34 d Z (λam d=>?_) (λam d=>?_)))
  .exact Go 16 Z (Cl d [0,1,2])
  .refine Go 1 Z (Cz [] d (k_dc _ _) Z λbv bg d=>Go 3 Z (Is 39 d Z (λan d=>?_) (λan d=>?_)))
   .exact Go 11 Z (Cl d [0,1,2])
   .refine Go 1 Z (Cz [] d (k_cu _ _) Z λbw bh d=>Go 3 Z (Is 44 d Z (λao d=>?_) (λao d=>?_)))
    .exact Go 6 Z (Cl d [0,1,2])
    .exact Go 2 Z (Cz [] d (k_au _ _ _) Z λbx bi d=>Go 3 Z (Cl d [0,1,2]))
 refine Gx 1 Z (Ef j (Cn Z h (λaq h=>?_) (λaq h=>?_)))
 .exact Gc 7 Z (Rt h 10 [])
 refine Gc 9 Z (Cd [] h (k_ab _ _ _ _ _ _) Z λbz bj h=>FE Z (Go 14 Z (Cn Z h (λar h=>?_) (λar h=>?_))))
 .exact Gc 10 Z (Rt h 10 [])
 refine Gc 4 Z ?_;refine vH (El (xs:=[]) (es:=List.map (Qd .i64) []) Qv Z Z Z Z Z trivial Z Z) ?_;refine FE Z ?_;refine vH (El (xs:=[]) (es:=List.map (Qd .i64) []) Qv Z Z Z Z Z trivial Z Z) ?_;refine FE Z (Go 12 Z (Bd h λau av h=>?_));refine Ja (b:=au) [0,1,2,4,5] [2,3,5,6,9] (λp=>[(13,.osl 3 0 p.length 1),(14,.osl 4 0 (([]:List Int).length) 1)]) (λp=>[(3,.row 3 1 (List.map (Qd .i64) p)),(4,.row 3 1 (List.map (Qd .i64) ([]:List Int)))]) Zf ?_ (λp env H bb j=>?_)
 .refine G0 1 Z ?_;refine Lp [0,1,2,3,6,7] [2,3,5,6,9,11,14,66,67] (λm=>[(13,.osl 4 0 m.1.length 1),(68,I m.2)]) (λm=>[(4,.row 3 1 (List.map (Qd .i64) m.1))]) av Zf (Lr [0,1,2,3,6,7]) λm bk a w=>?_;refine G0 6 Z (Ya Z a (λP a=>?_) (λP a=>?_))
  .refine Gc 2 Z (Qk a ?_);obtain rfl:=Oj w a;exact Gx 1 Z (Qp Z (Lr [0,1,2,4,5]))
  refine Gc 7 Z (Bd a λN J a=>?_);refine vX (.ptr 3 (Int.toNat m.2*2)) (QN J Z runUnderlying51 sizeOf65) ?_;refine vX (.agg (Payment.c N)) (Qy Z isAgg65 sizeOf65 Z (Qo J) Z Z) ?_;refine Go 7 Z (Bd a λy k a=>?_);refine Ct y [0,1,2,3,4,5,6] [2,3,5,6,9,11,13,14,16,66,67,68] (λy=>[(90,.bool y)]) Ze Zf ?_ (λenv H j=>?_)
  .refine G0 0 Z (DSs 15 Z (D 4 Z (Yr 3 k Z Z Z (λQ k=>?_) (λQ k=>?_))))
   .exact D 11 Z (Eh Z (Go 4 Z (Cl k [0,1,2,3,4,5,6])))
   .refine D 3 Z (Yr 6 k Z Z Z (λR k=>?_) (λR k=>?_))
    .refine D 3 Z ?_;obtain⟨aw,L,k⟩:=YP k;refine DS.v (x:=(.ptr 3 (Int.toNat (IntKind.i64.wrap (m.2-1))*2))) (QN L Z runUnderlying51 sizeOf65) ?_ (hg:=(gT Z));refine DS.wo (x:=.ptr 3 (Int.toNat (IntKind.i64.wrap (m.2-1))*2)) ?_ ?_
     .exact Fpg (gT Z) Qnj Z Wp
     refine DS.v (x:=(I aw.Bib)) (Ey Z isAgg3 Z (Qo L)) ?_ (hg:=(gT Z));exact D 2 Z (Eh Z (Go 4 Z (Cl k [0,1,2,3,4,5,6])))
    .exact D 8 Z (Eh Z (Go 4 Z (Cl k [0,1,2,3,4,5,6])))
  refine Gx 1 Z (Ef j (Cn Z a (λT a=>?_) (λT a=>?_)))
  .refine Gc 9 Z (Qn a ?_);obtain rfl:=Oj w a;exact Gx 1 Z (Qm (Gx 1 Z (Rt h 10 [])))
  refine Gc 7 Z ?_;refine vH (El (xs:=[.tmp 93]) (es:=List.map (Qd .i64) [N.Amount]) Qv Z Z Z Z Z ⟨Z,trivial⟩ Z Z) ?_;refine FE Z (Bd a λO V a=>?_);refine vH (QM (e:=(Qd .i64)) V Qv runUnderlying32 (YI (i:=7))) ?_;refine FE Z (Go 13 Z (Lm Z (Go 3 Z (Bd a λz ax a=>?_))));refine Ct z [0,1,2,3,4,5] [2,3,5,6,9,11,14,66,67,68] (λz=>[(13,.osl 4 0 O.length 1),(17,.bool z)]) (λ_=>[(4,.row 3 1 (List.map (Qd .i64) O))]) Zf ?_ (λenv H j=>?_)
  .refine G0 1 Z ?_;refine Lp [0,1,2,3,8,5,6] [2,3,5,6,9,11,13,14,16,66,67,68,97,98] (λB=>[(17,.bool B.1),(99,I B.2)]) Ze ax Zf (Lr [0,1,2,3,8,5,6]) λB bl g W=>?_;refine G0 6 Z (Ya Z g (λX g=>?_) (λX g=>?_))
   .refine Gc 2 Z (Qk g ?_);obtain rfl:=Oj W g;exact Gx 1 Z (Q1 (Lr [0,1,2,3,4,5]))
   refine Gc 7 Z (Bd g λbm Y g=>Iz Y Z (Go 11 Z (Cd [] g (k_ai _ _ _ _) Z λbn bc g=>FE Z (Go 7 Z (Bd g λE f g=>?_)))));refine Ct E [0,1,2,3,4,5,6] [2,3,5,6,9,11,13,14,16,66,67,68,97,98,99] (λE=>[(17,.bool E)]) Ze Zf ?_ (λenv H j=>?_)
   .refine G0 3 Z (Is 112 f Z (λaa f=>?_) (λaa f=>?_))
    .exact Go 16 Z (Cl f [0,1,2,3,4,5,6])
    .refine Go 3 Z (Is 115 f Z (λab f=>?_) (λab f=>?_))
     .refine Go 7 Z (Is 122 f Z (λac f=>?_) (λac f=>?_))
      .exact Go 6 Z (Cl f [0,1,2,3,4,5,6])
      .exact Go 6 Z (Cl f [0,1,2,3,4,5,6])
     .exact Go 13 Z (Cl f [0,1,2,3,4,5,6])
   exact Gx 2 Z (Ef j (Gc 4 Z (Qj g (Lr [0,1,2,3,4,5,6]))))
  refine Gx 1 Z (Ef j (Gc 6 Z (Cn Z a (λad a=>?_) (λad a=>?_))))
  .refine Gc 8 Z (Qn a ?_);obtain rfl:=Oj w a;exact Gx 1 Z (Qm (Gx 1 Z (Rt h 10 [])))
  exact Gc 7 Z (Qj a (Lr [0,1,2,3,4,5]))
 subst bb;refine Gx 1 Z (Ef j (Gc 4 Z (Cd [] h (k_ch _ _ _) Z λbo bd h=>FE Z (Go 15 Z (Bd h λq ay h=>?_)))));refine Ct q [1,2] [23] (λq=>[(13,.osl 0 0 p.length 1),(14,.osl 1 0 q.length 1)]) (λq=>[(0,.row 3 1 (List.map (Qd .i64) p)),(1,.row 3 1 (List.map (Qd .i64) q))]) Zf ?_ (λenv H j=>?_)
 .refine G0 1 Z ?_;refine Lp [0,3,4] [2,3,5,13,23,138] (λs=>[(14,.osl 2 0 s.1.length 1),(139,I s.2)]) (λs=>[(2,.row 3 1 (List.map (Qd .i64) s.1))]) ay Zf (Lr [0,3,4]) λs bp l ae=>?_;refine G0 6 Z (Ya Z l (λaf l=>?_) (λaf l=>?_))
  .refine Gc 2 Z (Qk l ?_);obtain rfl:=Oj ae l;exact Gx 1 Z (Q1 (Lr [1,2]))
  refine Gc 17 Z (Cz [] l (k_dd _ _ _ _ _) Z λaz be l=>?_);refine vH (El (xs:=[.tmp 148]) (es:=List.map (Qd .i64) [az]) Qv Z Z Z Z Z ⟨Z,trivial⟩ Z Z) ?_;refine FE Z (Bd l λbq ag l=>?_);refine vH (QM (e:=(Qd .i64)) ag Qv runUnderlying32 (YI (i:=3))) ?_;exact FE Z (Go 8 Z (Qj l (Lr [0,1,4])))
 refine Gx 1 Z (Ef j (Gc 3 Z (Bd h λbr ah h=>?_)));refine QcA (OpC.fn call30 rfl rfl rfl) (Qa3.cons rfl (.inr ⟨_,_,_,_,_,rfl,rfl,X9 ..,rfl⟩) Qa3.nil) (k_r _ _ _ ah) (by rintro _ _ ⟨rfl,rfl⟩;rfl) ?_;rintro _ _ ⟨rfl,rfl⟩;refine FE Z (Go 10 Z (Bd h λbs ai h=>?_));refine QcA (OpC.fn call30 rfl rfl rfl) (Qa3.cons rfl (.inr ⟨_,_,_,_,_,rfl,rfl,X9 ..,rfl⟩) Qa3.nil) (k_r _ _ _ ai) (by rintro _ _ ⟨rfl,rfl⟩;rfl) ?_;rintro _ _ ⟨rfl,rfl⟩;refine FE Z (Go 9 Z (Bd h λF t h=>?_));refine Ct F [] [23,25,26,27] (λF=>[(167,.bool F)]) Ze Zf ?_ (λenv H j=>?_)
 .refine G0 4 Z (Is 164 t Z (λaj t=>?_) (λaj t=>?_))
  .exact Go 4 Z (Cl t [])
  .exact Go 4 Z (Cl t [])
 refine Gx 1 Z (Ef j (Cn Z h (λak h=>?_) (λak h=>?_)))
 .exact Gc 9 Z (Rt h 10 [])
 refine Gc 3 Z (Bd h λG u h=>?_);refine Ct G [] [] (λG=>[(10,.bool G)]) Ze Zf ?_ (λenv H j=>?_)
 .refine G0 4 Z (Is 172 u Z (λal u=>?_) (λal u=>?_))
  .exact Go 6 Z (Cl u [])
  .exact Go 6 Z (Cl u [])
 exact Gx 1 Z (Ef j (Gc 1 Z (Rt h 10 [])))
end Go.Sw
