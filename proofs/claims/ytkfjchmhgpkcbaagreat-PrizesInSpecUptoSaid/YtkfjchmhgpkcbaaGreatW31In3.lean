/- What the functions compute that PrizesInSpec reaches, and that their calls refine it (part 3 of 4). -/
import Derived.Test.YtkfjchmhgpkcbaaGreatW31In2
set_option linter.unusedVariables false
set_option linter.unusedSimpArgs false
set_option maxRecDepth 100000
set_option maxHeartbeats 4000000
namespace Go.Sw
open Go.Proofs Tryz
def F_lw(n:Nat)(c:List Int)(a:Int×Int):Option (Ctl (Int×Int) (Ctl Int ((List Int)×Int))):=
  (bif decide (a.2<(c.length:Int))then(idx c a.2).bind λb=>((bif decide (b<0)then some true else some (decide (1000<b))):Option Bool).bind λd=>(bif d then some (.done (.done ([],1)))else some (.cont (IntKind.i64.wrap (a.1+b),IntKind.i64.wrap (a.2+1))))else some (.done (.cont a.1)))
def F_lm(n:Nat)(a:Int×(List money_part))(b:money_part):Option (Ctl (Int×(List money_part)) ((List Int)×Int)):=
  (app a.2 [b]).bind λc=>some (.cont (IntKind.i64.wrap (a.1-b.cents),c))
def F_lt(n:Nat)(d:Int)(g:Int×(List money_part))(e:List money_part)(a:(List Int)×Int):Option (Ctl ((List Int)×Int) (List Int)):=
  (bif decide (a.2<(e.length:Int))then(idx e a.2).bind λb=>(Qch 256 a.1 b.index).bind λk=>(Qbz a.1 b.index (IntKind.i64.wrap (d*b.cents))).bind λc=>((bif decide (a.2<g.1)then(Qch 256 c b.index).bind λh=>(Qch 256 c b.index).bind λj=>(Qbz c b.index (IntKind.i64.wrap (h+d))).bind λf=>some f else some c):Option (List Int)).bind λi=>some (.cont (i,IntKind.i64.wrap (a.2+1)))else some (.done a.1))
def F_fn(n:Nat)(d:Int)(e:List Int):Option ((List Int)×Int):=
  (F_af n d).bind λr1=>(bif (r1 != 0)then some ([],300)else(bif decide (256<(e.length:Int))then some ([],1)else(iter (F_lw n e) n (0,0):Option (Ctl Int ((List Int)×Int))).bind λi=>match i with|.cont a=>(bif (a==0)then some ([],1)else((bif decide (d<0)then some (-1)else some 1):Option Int).bind λb=>(F_gs n (IntKind.i64.wrap (b*d)) e a).bind λm=>(F_hf n e (IntKind.i64.wrap (b*d)) a).bind λy38=>(Qcw (F_lm n) y38.1 (IntKind.i64.wrap (b*d),[]):Option (Ctl (Int×(List money_part)) ((List Int)×Int))).bind λj=>match j with|.cont c=>((Qcr (λx y=>F_ab n x y) c.2).bind λk=>(iter (F_lt n b c k) n (List.replicate 256 0,0):Option (List Int)).bind λf=>(arr 256 f).bind λl=>(slc f 0 (e.length:Int)).bind λg=>(F_in n g).bind λh=>some (h,0))|.done c=>some c)|.done a=>some a))
theorem k_fn(n:Nat)(a1:Int)(a2:List Int)(r:(List Int)×Int)(h:F_fn n a1 a2=some r):
    C prog 48 [I a1,.rsl 1 (List.map (Qd .i64) a2)] [] (RQ (λr=>.tup [.osl 0 0 r.1.length 1,I r.2]) (λr=>[.row 3 1 (List.map (Qd .i64) r.1)]) r):=by
 refine Qb func48 Z Z Z ?_;refine G0 10 Z (Cz [] h (k_af _ _) Z λr1 bh h=>Go 3 Z (Cn Z h (λan h=>?_) (λan h=>?_)))
 .refine Gc 8 Z ?_;obtain rfl:=Oi h;refine R2 4 5 Z Z ?_;refine En (Er (s:=4) (k:=1) (t:=3) (XZ Z) Z) ?_;exact Lr [0]
 refine Gc 6 Z (Lm Z (Go 3 Z (Cn Z h (λao h=>?_) (λao h=>?_))))
 .refine Gc 8 Z ?_;obtain rfl:=Oi h;refine R2 4 5 Z Z ?_;refine En (Er (s:=4) (k:=1) (t:=3) (XZ Z) Z) ?_;exact Lr [0]
 refine Gc 11 Z (Lm Z (Go 3 Z (Bd h λaq ar h=>?_)));refine YH (b:=aq) [] [0,1] (λJ=>[(6,I J)]) Ze Zf ?_ (λJ env H au j=>?_)
 .refine G0 1 Z ?_;refine Lp [] [0,1,22,23] (λL=>[(6,I L.1),(24,I L.2)]) Ze ar Zf (Lr []) λL bi a M=>?_;refine G0 6 Z (QW Z a (λac a=>?_) (λac a=>?_))
  .refine Gc 2 Z (Qh a ?_);obtain rfl:=Oj M a;exact Gx 1 Z (Qn Z (Lr []))
  refine Gc 6 Z (Bd a λbj ad a=>Iz ad Z (Go 6 Z (Bd a λN q a=>?_)));refine Ct N [] [0,1,6,8,22,23,24] (λN=>[(33,.bool N)]) Ze Zf ?_ (λenv H j=>?_)
  .refine G0 4 Z (Is 30 q Z (λae q=>?_) (λae q=>?_))
   .exact Go 4 Z (Cl q [])
   .exact Go 4 Z (Cl q [])
  refine Gx 1 Z (Ef j (Cn Z a (λaf a=>?_) (λaf a=>?_)))
  .refine Gc 10 Z (Qm a ?_);obtain rfl:=Oj M a;refine Gx 1 Z (Qi (Gx 1 Z ?_));obtain rfl:=Oi h;refine R2 4 5 Z Z ?_;refine En (Er (s:=4) (k:=1) (t:=3) (XZ Z) Z) ?_;exact Lr [0]
  exact Gc 14 Z (Qg a (Lr []))
 subst au;refine Gx 1 Z (Ef j (Gc 7 Z (Cn Z h (λag h=>?_) (λag h=>?_))))
 .refine Gc 8 Z ?_;obtain rfl:=Oi h;refine R2 4 5 Z Z ?_;refine En (Er (s:=4) (k:=1) (t:=3) (XZ Z) Z) ?_;exact Lr [0]
 refine Gc 14 Z (Bd h λO u h=>?_);refine Ct O [] [0,1,6] (λO=>[(9,I O)]) Ze Zf ?_ (λenv H j=>?_)
 .refine G0 0 Z (Cn Z u (λah u=>?_) (λah u=>?_))
  .exact Gc 3 Z (Cl u [])
  exact Gc 1 Z (Cl u [])
 refine Gx 1 Z (Ef j (Gc 11 Z ?_));refine vH (Qbn (n:=256) (k:=1) (e:=(Qd .i64)) (z:=0) zeroValue161 (by kernel_rfl) (by kernel_rfl) (by kernel_rfl) Z) ?_;refine FE Z (Go 13 Z (Cd [] h (k_gs _ _ _ _) Z λbk ba h=>FE Z (Go 3 Z (Bd h λy38 hy38 h=>Bd h λbl av h=>?_))));refine Jq [3,4,5] (λB=>[.cells 3 [I B.1],.row 161 1 (List.map (Qd .i64) (List.replicate 256 0)),.cells 162 [.osl 6 0 B.2.length 3],.dead,.dead,.dead,.row 167 3 (List.map money_part.c B.2)]) av (k_hf _ _ _ _ _ hy38) Zf call126 Z Z Z Z (by decide) Z ?_ ?_ ?_
 .refine En (Yk (i:=2) (m:=0) (t:=167) (k:=3) Z Z Z) ?_;exact Lr [0,1,2,3,4,5,6]
 .intro B aw bm P bb;refine G0 4 Z (And.intro Z ?_);refine G0 5 Z ?_;refine vH (El (xs:=[.tmp 51]) (es:=List.map money_part.c [aw]) QmD Z Z Z Z Z ⟨Z,trivial⟩ Z Z) ?_;refine FE Z (Bd P λbn ai P=>?_);refine vH (Qt (e:=money_part.c) ai QmD runUnderlying162 (Yd (i:=8))) ?_;exact FE Z (Go 11 Z (QaK P (Lr [0,1,2,3,4,5,9])))
 rintro bo rfl;refine Gx 5 Z (Bd h λbp w h=>?_);refine QA [6] (OpC.fn call77 Z Z Z) (Qod (enc:=money_part.c) Qgt w (λx y c h=>k_ab n x y c h) isAgg167 sizeOf167 call78 Zf Z) ?_;rintro _ _ ⟨rfl,rfl⟩;refine FE Z ?_;refine Et (QQ (s:=58) Z (congrArg (λn=>A.osl 6 0 n 3) (Qfy w))) ?_;refine Et (Qpj (i:=2) Z (congrArg (λnz=>Blk.cells 162 [.osl 6 0 nz 3]) (Qfy w))) ?_;refine Go 10 Z (Bd h λE ax h=>?_);refine Ct E [1] [1,11] Ze (λE=>[(0,.row 161 1 (List.map (Qd .i64) E))]) Zf ?_ (λenv H j=>?_)
 .refine G0 1 Z ?_;refine Lp [0,1,6] [1,9,10,11,60,61] (λp=>[(62,I p.2)]) (λp=>[(1,.row 161 1 (List.map (Qd .i64) p.1))]) ax Zf (Lr [0,1,6]) λp bq d aj=>?_;refine G0 6 Z (QW Z d (λak d=>?_) (λak d=>?_))
  .refine Gc 2 Z (Qh d ?_);obtain rfl:=Oj aj d;exact Gx 1 Z (QC (Lr [1]))
  refine Gc 7 Z (Bd d λF Q d=>?_);refine vX (.ptr 2 (Int.toNat p.2*3)) (QG Q Z runUnderlying162 sizeOf167) ?_;refine vX (.agg (money_part.c F)) (QX Z isAgg167 sizeOf167 Z (Qo Q) Z Z) ?_;refine Go 13 Z (Bd d λbr R d=>?_);refine vX (.ptr 1 (Int.toNat F.index*1)) (Jc (n:=256) (k:=1) (l:=p.1) R runUnderlying161 sizeOf3 Z) ?_;refine Bd d λab al d=>?_;refine vU (Jf (e:=(Qd .i64)) (k:=1) (f:=0) (Qag R).2 al sizeOf3 Z Z) ?_;refine FE Z (Go 9 Z (Bd d λT g d=>?_));refine Ct T [0,1,2] [1,9,10,11,60,61,62] Ze (λT=>[(1,.row 161 1 (List.map (Qd .i64) T))]) Zf ?_ (λenv H j=>?_)
  .refine G0 0 Z (Cn Z g (λam g=>?_) (λam g=>?_))
   .refine Gc 3 Z (Bd g λay V g=>?_);refine vX (.ptr 1 (Int.toNat F.index*1)) (Jc (n:=256) (k:=1) (l:=ab) V runUnderlying161 sizeOf3 Z) ?_;refine vX (I ay) (Ez Z isAgg3 Z (Qo (Qag V).2)) ?_;refine Go 2 Z (Bd g λbc G g=>?_);refine vX (.ptr 1 (Int.toNat F.index*1)) (Jc (n:=256) (k:=1) (l:=ab) G runUnderlying161 sizeOf3 Z) ?_;refine Bd g λbd X g=>?_;refine vU (Jf (e:=(Qd .i64)) (k:=1) (f:=0) (Qag G).2 X sizeOf3 Z Z) ?_;exact FE Z (Go 1 Z (Cl g [0,1,2]))
   exact Gc 1 Z (Cl g [0,1,2])
  exact Gx 2 Z (Ef j (Gc 4 Z (Qg d (Lr [0,1,2]))))
 refine Gx 1 Z (Ef j (Gc 3 Z (Lm Z (Bd h λbe Y h=>?_))));obtain⟨W,rfl⟩:=QbO Y;refine Bd h λbf aa h=>?_;refine vH (Qm2 (e:=(Qd .i64)) (l:=E) aa W Zf runUnderlying161 sizeOf3) ?_;refine FE Z (Cd [] h (k_in _ _) Z λbg az h=>FE Z (Go 5 Z ?_));obtain rfl:=Oi h;exact R2 4 5 Z Z (Lr [1])
def F_mb(n:Nat)(d:Field)(i:History)(a:(List (Int×Option (List Int)))×Int):Option (Ctl ((List (Int×Option (List Int)))×Int) (Ctl (List (Int×Option (List Int))) ((List Payment)×Int))):=
  (bif decide (a.2<(d.Runners.length:Int))then(idx d.Runners a.2).bind λe=>(F_bw n d i a.2).bind λb=>(bif (b.2 != 0)then some (.done (.done ([],b.2)))else((bif decide (0<b.1)then(Qhc a.1 b.1).bind λc=>(app c.1 [e.Bib]).bind λf=>(some (Q5 c.2 b.1 (some f))).bind λg=>some g else some a.1):Option (List (Int×Option (List Int)))).bind λh=>some (.cont (h,IntKind.i64.wrap (a.2+1))))else some (.done (.cont a.1)))
def F_kd(n:Nat)(e:List (Int×Int))(b:Int×(List Int))(a:(List Int)×Int):Option (Ctl ((List Int)×Int) (List Int)):=
  (bif decide (a.2<(b.2.length:Int))then(some (QI e (IntKind.i64.wrap (b.1+a.2)) 0)).bind λc=>(app a.1 [c]).bind λd=>some (.cont (d,IntKind.i64.wrap (a.2+1)))else some (.done a.1))
def F_gi(n:Nat)(g:Int×(List Int))(b:(List Int)×Int)(a:(List (Int×Int))×Int):Option (Ctl ((List (Int×Int))×Int) (List (Int×Int))):=
  (bif decide (a.2<(b.1.length:Int))then(idx b.1 a.2).bind λc=>((bif decide (0<c)then(idx g.2 a.2).bind λd=>(some (Q5 a.1 d c)).bind λe=>some e else some a.1):Option (List (Int×Int))).bind λf=>some (.cont (f,IntKind.i64.wrap (a.2+1)))else some (.done a.1))
def F_co(n:Nat)(g:List (Int×Int))(h:List (Int×Int))(c:Int×(List Int)):Option (Ctl (List (Int×Int)) ((List Payment)×Int)):=
  (iter (F_kd n g c) n ([],0):Option (List Int)).bind λd=>(F_fl n d).bind λa=>(bif (a.2 != 0)then some (.done ([],a.2))else(F_dv n [1] (c.2.length:Int)).bind λe=>(F_fn n a.1 e).bind λb=>(bif (b.2 != 0)then some (.done ([],b.2))else(iter (F_gi n c b) n (h,0):Option (List (Int×Int))).bind λf=>some (.cont f)))
def F_be(n:Nat)(f:Course)(c:Field)(g:Int)(h:Int)(i:History):Option ((List Payment)×Int):=
  (F_as n f c g h).bind λr1=>(bif (r1 != 0)then some ([],r1)else(F_ct n c i).bind λj=>(bif (j != 0)then some ([],j)else(iter (F_mb n c i) n ([],0):Option (Ctl (List (Int×Option (List Int))) ((List Payment)×Int))).bind λk=>match k with|.cont a=>((F_aw n f g h).bind λl=>(F_fz n a).bind λp=>(QcC a).bind λm=>(F_fe n m).bind λy57=>(Qcw (F_co n l) y57.1 []:Option (Ctl (List (Int×Int)) ((List Payment)×Int))).bind λd=>match d with|.cont b=>((F_az n b).bind λe=>some (e,0))|.done b=>some b)|.done a=>some a))
theorem k_be(n:Nat)(X:Course)(a2:Field)(a3:Int)(a4:Int)(a5:History)(r:(List Payment)×Int)(h:F_be n X a2 a3 a4 a5=some r):
    C prog 22 [.agg (Course.c X),.agg (Field.c a2),I a3,I a4,.agg (History.c a5)] [] (RQ (λr=>.tup [.osl 0 0 r.1.length 2,I r.2]) (λr=>[.row 65 2 (List.map Payment.c r.1),.cells 51 [.osl 0 0 r.1.length 2],.cells 33 [I r.2]]) r):=by
 refine Qb func22 Z Z Z ?_;refine G0 16 Z (Cz [] h (k_as _ _ _ _ _) Z λr1 ca h=>Go 9 Z (Cn Z h (λbb h=>?_) (λbb h=>?_)))
 .refine Gc 9 Z ?_;obtain rfl:=Oi h;refine⟨[(10,.ptr 1 0),(11,.ptr 2 0)],[.row 65 2 (List.map Payment.c (([],r1).1)),.cells 51 [.osl 0 0 ((([],r1).1).length) 2],.cells 33 [I (([],r1).2)]],_,?_,Q2 Z Z (QiR.cons (Qv isAgg51 Z Z) (QiR.cons (Qv isAgg33 Z Z) QiR.nil)),Z,Z⟩;refine En (Yk (i:=3) (m:=0) (t:=65) (k:=2) Z Z Z) ?_;exact Lr [5,3,4]
 refine Gc 7 Z (Cz [] h (k_ct _ _ _) Z λr3 cb h=>Go 9 Z (Cn Z h (λbc h=>?_) (λbc h=>?_)))
 .refine Gc 9 Z ?_;obtain rfl:=Oi h;refine⟨[(10,.ptr 1 0),(11,.ptr 2 0)],[.row 65 2 (List.map Payment.c (([],r3).1)),.cells 51 [.osl 0 0 ((([],r3).1).length) 2],.cells 33 [I (([],r3).2)]],_,?_,Q2 Z Z (QiR.cons (Qv isAgg51 Z Z) (QiR.cons (Qv isAgg33 Z Z) QiR.nil)),Z,Z⟩;refine En (Yk (i:=3) (m:=0) (t:=65) (k:=2) Z Z Z) ?_;exact Lr [5,3,4]
 refine Gc 4 Z ?_;refine vH (QiV 3 1) ?_;refine FE Z (Go 8 Z (Lm Z (Go 3 Z (Bd h λbd be h=>?_))));refine YH (b:=bd) [0,3,4,5] [2,3,5,10,11,14] Ze (λO=>[(3,.mapO false 3 1 (Q0 (λx=>A.int .i64 x) (Qd .i64) O))]) Zf ?_ (λO env H bf u=>?_)
 .refine G0 1 Z ?_;refine Lp [0,1,2,3,4,5] [2,3,5,6,9,10,11,14,46,47] (λB=>[(48,I B.2)]) (λB=>[(5,.mapO false 3 1 (Q0 (λx=>A.int .i64 x) (Qd .i64) B.1))]) be Zf (Lr [0,1,2,3,4,5]) λB cc d P=>?_;refine G0 6 Z (QW Z d (λan d=>?_) (λan d=>?_))
  .refine Gc 2 Z (Qh d ?_);obtain rfl:=Oj P d;exact Gx 1 Z (Qn Z (Lr [0,3,4,5]))
  refine Gc 7 Z (Bd d λbg ao d=>Iz ao Z (Go 11 Z (Cd [] d (k_bw _ _ _ _) Z λE bn d=>FE Z (Go 14 Z (Cn Z d (λaq d=>?_) (λaq d=>?_))))))
  .refine Gc 11 Z (Qm d ?_);obtain rfl:=Oj P d;refine Gx 1 Z (Qi (Gx 1 Z ?_));obtain rfl:=Oi h;refine⟨[(10,.ptr 1 0),(11,.ptr 2 0)],[.row 65 2 (List.map Payment.c (([],E.2).1)),.cells 51 [.osl 0 0 ((([],E.2).1).length) 2],.cells 33 [I (([],E.2).2)]],_,?_,Q2 Z Z (QiR.cons (Qv isAgg51 Z Z) (QiR.cons (Qv isAgg33 Z Z) QiR.nil)),Z,Z⟩;refine En (Yk (i:=3) (m:=0) (t:=65) (k:=2) Z Z Z) ?_;exact Lr [7,3,4]
  refine Gc 8 Z (Bd d λQ q d=>?_);refine Ct Q [0,1,2,3,4,5] [2,3,5,6,9,10,11,14,46,47,48] Ze (λQ=>[(5,.mapO false 3 1 (Q0 (λx=>A.int .i64 x) (Qd .i64) Q))]) Zf ?_ (λenv H u=>?_)
  .refine G0 0 Z (Cn Z q (λar q=>?_) (λar q=>?_))
   .refine Gc 5 Z (Bd q λbh au q=>?_);refine vH (QkU (ek:=(λx=>A.int .i64 x)) (ev:=(Qd .i64)) (key:=E.1) (l:=B.1) (t:=3) (k:=1) Qbv au underlying110 zeroValue32) ?_;refine FE Z (Go 2 Z ?_);refine vH (El (xs:=[.tmp 71]) (es:=List.map (Qd .i64) [bg.Bib]) Qs Z Z Z Z Z ⟨Z,trivial⟩ Z Z) ?_;refine FE Z (Bd q λbi av q=>?_);refine vH (Qt (e:=(Qd .i64)) av Qs runUnderlying32 (Yd (i:=8))) ?_;refine FE Z (Bd q λcd aw q=>?_);refine vU (Qm0 (ek:=(λx=>A.int .i64 x)) (ev:=(Qd .i64)) (key:=E.1) (rows:=bi) (l:=bh.2) (j:=9) (t:=3) (k:=1) Qbv aw underlying110) ?_;exact FE Z (Go 1 Z (Cl q [0,1,2,3,4,5]))
   exact Gc 1 Z (Cl q [0,1,2,3,4,5])
  exact Gx 2 Z (Ef u (Gc 4 Z (Qg d (Lr [0,1,2,3,4,5]))))
 subst bf;refine Gx 1 Z (Ef u (Gc 5 Z (Cd [] h (k_aw _ _ _ _) Z λR bo h=>FE Z ?_)));refine vH YI ?_;refine FE Z (Go 10 Z (Cd [3] h (k_fz _ _) Z λce bp h=>FE Z (Go 3 Z (Bd h λal ax h=>?_))));refine Ef (Qm4 (i:=3) (H':=[.cells 49 (Course.c X),.cells 51 [.nils],.cells 33 [I 0],.fmap (Qy (λx=>A.int .i64 x) (λx=>A.rsl 1 (List.map (Qd .i64) x)) al),.map (Qy (λx=>A.int .i64 x) (λx=>A.int .i64 x) R),.map (Qy (λx=>A.int .i64 x) (λx=>A.int .i64 x) []),.cells 103 [.map 4],.cells 103 [.map 5],.cells 110 [.map 3]]) ax) ?_;refine Bd h λy57 hy57 h=>Bd h λbq ay h=>?_;refine Jq [8,3] (λam=>[.cells 49 (Course.c X),.cells 51 [.nils],.cells 33 [I 0],.fmap (Qy (λx=>A.int .i64 x) (λx=>A.rsl 1 (List.map (Qd .i64) x)) al),.map (Qy (λx=>A.int .i64 x) (λx=>A.int .i64 x) R),.map (Qy (λx=>A.int .i64 x) (λx=>A.int .i64 x) am),.cells 103 [.map 4],.cells 103 [.map 5],.dead]) ay (k_fe _ _ _ hy57) Zf call73 Z Z Z Z (by decide) Z (Lr [0,1,2,3,4,5,6,7,8]) ?_ ?_
 .intro am bj br a M;refine G0 8 Z (And.intro Z ?_);refine G0 10 Z (Lm Z (Go 3 Z (Bd a λz az a=>?_)));refine Ct z [0,1,2,3,4,5,6,7,8,0] [10,11,20,22] (λz=>[(23,.osl 9 0 z.length 1)]) (λz=>[(9,.row 3 1 (List.map (Qd .i64) z))]) Zf ?_ (λenv H u=>?_)
  .refine G0 1 Z ?_;refine Lp [0,1,2,3,4,5,6,7,8,0] [10,11,19,20,21,22,85] (λw=>[(23,.osl 9 0 w.1.length 1),(86,I w.2)]) (λw=>[(9,.row 3 1 (List.map (Qd .i64) w.1))]) az Zf ?_ ?_
   .refine En (Er (s:=23) (k:=1) (t:=3) (XZ Z) Z) ?_;exact Lr [0,1,2,3,4,5,6,7,8,9]
   intro w bs f Y;refine G0 6 Z (QW Z f (λaa f=>?_) (λaa f=>?_))
   .refine Gc 2 Z (Qh f ?_);obtain rfl:=Oj Y f;exact Gx 1 Z (QC (Lr [0,1,2,3,4,5,6,7,8,9]))
   refine Gc 16 Z (Bd f λT ab f=>?_);refine vX (I T) (Y6 (ev:=(λx=>A.int .i64 x)) (z0:=0) (k:=(IntKind.i64.wrap (bj.1+w.2))) (l:=R) Qbv ab underlying103 zeroValue3 Eo) ?_;refine vH (El (xs:=[.tmp 94]) (es:=List.map (Qd .i64) [T]) Qs Z Z Z Z Z ⟨Z,trivial⟩ Z Z) ?_;refine FE Z (Bd f λbt ac f=>?_);refine vH (Qt (e:=(Qd .i64)) ac Qs runUnderlying32 (Yd (i:=10))) ?_;exact FE Z (Go 8 Z (Qg f (Lr [0,1,2,3,4,5,6,7,8,11])))
  refine Gx 1 Z (Ef u (Gc 3 Z (Bd a λF ad a=>?_)));refine QcN (OpC.fn call30 rfl rfl rfl) (Qbc.cons rfl (.inr ⟨_,_,_,_,_,rfl,rfl,Va ..,rfl⟩) Qbc.nil) (k_fl _ _ _ ad) (by rintro _ _ ⟨rfl,rfl⟩;rfl) ?_;rintro _ _ ⟨rfl,rfl⟩;refine FE Z (Go 14 Z (Cn Z a (λae a=>?_) (λae a=>?_)))
  .refine Gc 10 Z (Qi9 a (Lw trivial) ?_);obtain rfl:=Ojr M a;refine Gx 2 Z ?_;obtain rfl:=Oi h;refine⟨[(10,.ptr 1 0),(11,.ptr 2 0)],[.row 65 2 (List.map Payment.c (([],F.2).1)),.cells 51 [.osl 0 0 ((([],F.2).1).length) 2],.cells 33 [I (([],F.2).2)]],_,?_,Q2 Z Z (QiR.cons (Qv isAgg51 Z Z) (QiR.cons (Qv isAgg33 Z Z) QiR.nil)),Z,Z⟩;refine En (Yk (i:=1) (m:=0) (t:=65) (k:=2) Z Z Z) ?_;exact Lr [10,1,2]
  refine Gc 5 Z ?_;refine vH (El (xs:=[.const (.int .i64 1)]) (es:=List.map (Qd .i64) [1]) Qs Z Z Z Z Z ⟨Z,trivial⟩ Z Z) ?_;refine FE Z (Go 1 Z (Lm Z ?_));refine Et (YD [(108,_)] Z Z (Qm6.cons Z Ep Qm6.nil) (Ec (Ec (Ec (Ec (Ec (Ec (Ec (Ec (Ec (Ec (Ec (Ya _))))))))))))) ?_;refine Cd [] a (k_dv _ _ _) Z λbu bk a=>FE Z ?_;refine Et (YD [(111,_)] Z Z (Qm6.cons Z Ep Qm6.nil) (Ec (Ec (Ec (Ec (Ec (Ec (Ec (Ec (Ec (Ec (Ec (Ec (Ya _)))))))))))))) ?_;refine Cd [] a (k_fn _ _ _) Z λG bl a=>FE Z (Go 14 Z (Cn Z a (λaf a=>?_) (λaf a=>?_)))
  .refine Gc 10 Z (Qi9 a (Lw trivial) ?_);obtain rfl:=Ojr M a;refine Gx 2 Z ?_;obtain rfl:=Oi h;refine⟨[(10,.ptr 1 0),(11,.ptr 2 0)],[.row 65 2 (List.map Payment.c (([],G.2).1)),.cells 51 [.osl 0 0 ((([],G.2).1).length) 2],.cells 33 [I (([],G.2).2)]],_,?_,Q2 Z Z (QiR.cons (Qv isAgg51 Z Z) (QiR.cons (Qv isAgg33 Z Z) QiR.nil)),Z,Z⟩;refine En (Yk (i:=1) (m:=0) (t:=65) (k:=2) Z Z Z) ?_;exact Lr [13,1,2]
  refine Gc 9 Z (Bd a λJ ba a=>?_);refine Ct J [0,1,2,3,4,5,6,7,8] [] Ze (λJ=>[(5,.map (Qy (λx=>A.int .i64 x) (λx=>A.int .i64 x) J))]) Zf ?_ (λenv H u=>?_)
  .refine G0 1 Z ?_;refine Lp [0,1,2,3,4,5,6,7,8,12] [20,22,118,119] (λy=>[(120,I y.2)]) (λy=>[(5,.map (Qy (λx=>A.int .i64 x) (λx=>A.int .i64 x) y.1))]) ba Zf (Lr [0,1,2,3,4,5,6,7,8,12]) λy bv g ag=>?_;refine G0 6 Z (QW Z g (λah g=>?_) (λah g=>?_))
   .refine Gc 2 Z (Qh g ?_);obtain rfl:=Oj ag g;exact Gx 1 Z (QC (Lr [0,1,2,3,4,5,6,7,8]))
   refine Gc 7 Z (Bd g λV N g=>?_);refine vX (.ptr 9 (Int.toNat y.2*1)) (QG N Z runUnderlying32 sizeOf3) ?_;refine vX (I V) (Ez Z isAgg3 Z (Qo N)) ?_;refine Go 10 Z (Bd g λL p g=>?_);refine Ct L [0,1,2,3,4,5,6,7,8,9] [20,22,118,119,120] Ze (λL=>[(5,.map (Qy (λx=>A.int .i64 x) (λx=>A.int .i64 x) L))]) Zf ?_ (λenv H u=>?_)
   .refine G0 0 Z (Cn Z p (λai p=>?_) (λai p=>?_))
    .refine DSs 6 Z (D 3 Z ?_);obtain⟨W,aj,p⟩:=Yy p;refine DS.wo (x:=.rp [I W]) ?_ ?_
     .exact Ix aj runUnderlying32 sizeOf3 Z Wp
     refine D 2 Z (Eh Z (Bd p λbw ak p=>?_));refine vU (YW (ev:=(λx=>A.int .i64 x)) (k:=W) (v:=V) (l:=y.1) Qbv ak Z underlying103) ?_;exact FE Z (Go 1 Z (Cl p [0,1,2,3,4,5,6,7,8,9]))
    exact Gc 1 Z (Cl p [0,1,2,3,4,5,6,7,8,9])
   exact Gx 2 Z (Ef u (Gc 4 Z (Qg g (Lr [0,1,2,3,4,5,6,7,8,9]))))
  exact Gx 1 Z (QaK a (En u (Lr [0,1,2,3,4,5,6,7,8])))
 rintro bx rfl;refine Gx 5 Z (Cd [5] h (k_az _ _) Z λbz bm h=>FE Z (Go 5 Z ?_));obtain rfl:=Oi h;exact Rx [9,1,2] [10,11] Z (Q2 Z Z (QiR.cons (Qv isAgg51 Z Z) (QiR.cons (Qv isAgg33 Z Z) QiR.nil))) ⟨Z,Z⟩
def F_mj(n:Nat)(b:List Payment)(e:List Payment)(a:Int):Option (Ctl Int (Ctl Unit Bool)):=
  (bif decide (a<(b.length:Int))then(idx b a).bind λc=>(idx e a).bind λd=>(bif (c != d)then some (.done (.done false))else some (.cont (IntKind.i64.wrap (a+1))))else some (.done (.cont ())))
def F_ac(n:Nat)(b:List Payment)(c:List Payment):Option Bool:=
  (bif ((b.length:Int) != (c.length:Int))then some false else(iter (F_mj n b c) n 0:Option (Ctl Unit Bool)).bind λd=>match d with|.cont a=>(some true)|.done a=>some a)
theorem k_ac(n:Nat)(m:List Payment)(s:List Payment)(r:Bool)(h:F_ac n m s=some r):
    Csm prog 20 [.rsl 2 (List.map Payment.c m),.rsl 2 (List.map Payment.c s)] [] (λr=>.bool r) r:=by
 refine Qb func20 Z Z Z ?_;refine G0 9 Z (Lm Z (Go 1 Z (Lm Z (Go 3 Z (Cn Z h (λt h=>?_) (λt h=>?_))))))
 .exact Gc 7 Z (Rt h 4 [])
 refine Gc 8 Z (Bd h λu w h=>?_);refine YH (b:=u) [] [] Ze Ze Zf ?_ (λB env H y z=>?_)
 .refine G0 1 Z ?_;refine Lp [] [0,1] (λg=>[(5,I g)]) Ze w Zf (Lr []) λg E a f=>?_;refine G0 5 Z (Lm Z (Go 3 Z (QW Z a (λi a=>?_) (λi a=>?_))))
  .refine Gc 2 Z (Qh a ?_);obtain rfl:=Oj f a;exact Gx 1 Z (Qn Z (Lr []))
  refine Gc 5 Z (DSs 8 Z (D 2 Z ?_));obtain⟨d,j,a⟩:=Yy a;refine DS.wo (x:=.rp [I d.Bib,I d.Amount]) ?_ ?_
  .exact Ix j runUnderlying51 sizeOf65 Z Wp
  refine D 3 Z ?_;obtain⟨e,k,a⟩:=Yy a;refine DS.wo (x:=.rp [I e.Bib,I e.Amount]) ?_ ?_
  .exact Ix k runUnderlying51 sizeOf65 Z Wp
  refine D 1 Z (Eh Z ?_);refine vX (.bool (d != e)) (QkS (p:=d) (q:=e) Qo7 Z Z) ?_;refine Go 2 Z (Cn Z a (λl a=>?_) (λl a=>?_))
  .refine Gc 8 Z (Qm a ?_);obtain rfl:=Oj f a;exact Gx 1 Z (Qi (Gx 1 Z (Rt h 4 [])))
  exact Gc 8 Z (Qg a (Lr []))
 subst y;exact Gx 1 Z (Ef z (Gc 6 Z (Rt h 4 [])))
def F_om(n:Nat)(b:List Int)(e:List Int)(a:Int):Option (Ctl Int (Ctl Unit Bool)):=
  (bif decide (a<(b.length:Int))then(idx b a).bind λc=>(idx e a).bind λd=>(bif (c != d)then some (.done (.done false))else some (.cont (IntKind.i64.wrap (a+1))))else some (.done (.cont ())))
def F_kx(n:Nat)(b:List Int)(c:List Int):Option Bool:=
  (bif ((b.length:Int) != (c.length:Int))then some false else(iter (F_om n b c) n 0:Option (Ctl Unit Bool)).bind λd=>match d with|.cont a=>(some true)|.done a=>some a)
theorem k_kx(n:Nat)(j:List Int)(k:List Int)(r:Bool)(h:F_kx n j k=some r):
    Csm prog 14 [.rsl 1 (List.map (Qd .i64) j),.rsl 1 (List.map (Qd .i64) k)] [] (λr=>.bool r) r:=by
 refine Qb func14 Z Z Z ?_;refine G0 9 Z (Lm Z (Go 1 Z (Lm Z (Go 3 Z (Cn Z h (λl h=>?_) (λl h=>?_))))))
 .exact Gc 7 Z (Rt h 4 [])
 refine Gc 8 Z (Bd h λm p h=>?_);refine YH (b:=m) [] [] Ze Ze Zf ?_ (λw env H q s=>?_)
 .refine G0 1 Z ?_;refine Lp [] [0,1] (λd=>[(5,I d)]) Ze p Zf (Lr []) λd y a c=>?_;refine G0 5 Z (Lm Z (Go 3 Z (QW Z a (λe a=>?_) (λe a=>?_))))
  .refine Gc 2 Z (Qh a ?_);obtain rfl:=Oj c a;exact Gx 1 Z (Qn Z (Lr []))
  refine Gc 5 Z (DSs 8 Z (D 2 Z ?_));obtain⟨t,f,a⟩:=Yy a;refine DS.wo (x:=.rp [I t]) ?_ ?_
  .exact Ix f runUnderlying32 sizeOf3 Z Wp
  refine D 3 Z ?_;obtain⟨u,g,a⟩:=Yy a;refine DS.wo (x:=.rp [I u]) ?_ ?_
  .exact Ix g runUnderlying32 sizeOf3 Z Wp
  refine D 1 Z (Eh Z (Go 3 Z (Cn Z a (λi a=>?_) (λi a=>?_))))
  .refine Gc 8 Z (Qm a ?_);obtain rfl:=Oj c a;exact Gx 1 Z (Qi (Gx 1 Z (Rt h 4 [])))
  exact Gc 8 Z (Qg a (Lr []))
 subst q;exact Gx 1 Z (Ef s (Gc 6 Z (Rt h 4 [])))
def F_ij(n:Nat):Option Bool:=
  (F_fi n [1,3]).bind λr1=>(F_dw n [10,20]).bind λr2=>(F_ew n ({Name:=[115,97,109,112,108,101],Mats:=[{Name:=[108,105,110,101],Kind:=1:Mat},{Name:=[102,105,110,105,115,104],Kind:=3:Mat}],Legs:=[{From:=0,To:=1,Min:=10,Max:=100:Leg}],Distances:=[{Name:=[98,114,105,101,102],Route:=[z_Part,{z_Part with Mat:=1:Part}],Timing:=1,Cutoffs:=[],Extra:=(-1):Distance}],Waves:=[{Name:=[101,108,105,116,101],Gun:=0:Wave}],Offences:=[],Categories:=[],Prizes:=r1,Ties:=[{z_Step with Kind:=1,By:=4:Step}],Faults:=z_Faults,Fee:=0,Deadline:=0:Course}) ({Clocks:={Segments:=[],Far:=[[0]]:Clocks},Pairs:=[],Runners:=r2:Field}) 0 (-1)).bind λa=>(F_ed n ({Name:=[115,97,109,112,108,101],Mats:=[{Name:=[108,105,110,101],Kind:=1:Mat},{Name:=[102,105,110,105,115,104],Kind:=3:Mat}],Legs:=[{From:=0,To:=1,Min:=10,Max:=100:Leg}],Distances:=[{Name:=[98,114,105,101,102],Route:=[z_Part,{z_Part with Mat:=1:Part}],Timing:=1,Cutoffs:=[],Extra:=(-1):Distance}],Waves:=[{Name:=[101,108,105,116,101],Gun:=0:Wave}],Offences:=[],Categories:=[],Prizes:=r1,Ties:=[{z_Step with Kind:=1,By:=4:Step}],Faults:=z_Faults,Fee:=0,Deadline:=0:Course}) ({Clocks:={Segments:=[],Far:=[[0]]:Clocks},Pairs:=[],Runners:=r2:Field}) 0 (-1)).bind λb=>(F_cw n ({Clocks:={Segments:=[],Far:=[[0]]:Clocks},Pairs:=[],Runners:=r2:Field}) 1).bind λc=>(F_cw n ({Clocks:={Segments:=[],Far:=[[0]]:Clocks},Pairs:=[],Runners:=r2:Field}) 0).bind λl=>(F_fi n [1,2]).bind λm=>(F_dw n [10,10]).bind λp=>(F_be n ({Name:=[115,97,109,112,108,101],Mats:=[{Name:=[108,105,110,101],Kind:=1:Mat},{Name:=[102,105,110,105,115,104],Kind:=3:Mat}],Legs:=[{From:=0,To:=1,Min:=10,Max:=100:Leg}],Distances:=[{Name:=[98,114,105,101,102],Route:=[z_Part,{z_Part with Mat:=1:Part}],Timing:=1,Cutoffs:=[],Extra:=(-1):Distance}],Waves:=[{Name:=[101,108,105,116,101],Gun:=0:Wave}],Offences:=[],Categories:=[],Prizes:=m,Ties:=[{z_Step with Kind:=1,By:=4:Step}],Faults:=z_Faults,Fee:=0,Deadline:=0:Course}) ({Clocks:={Segments:=[],Far:=[[0]]:Clocks},Pairs:=[],Runners:=p:Field}) 0 (-1) ({World:=0,Offsets:=[],Choices:=[{Outcome:=0,X:=10:Choice},{Outcome:=0,X:=10:Choice}]:History})).bind λd=>(F_ed n ({Name:=[115,97,109,112,108,101],Mats:=[{Name:=[108,105,110,101],Kind:=1:Mat},{Name:=[102,105,110,105,115,104],Kind:=3:Mat}],Legs:=[{From:=0,To:=1,Min:=10,Max:=100:Leg}],Distances:=[{Name:=[98,114,105,101,102],Route:=[z_Part,{z_Part with Mat:=1:Part}],Timing:=1,Cutoffs:=[],Extra:=(-1):Distance}],Waves:=[{Name:=[101,108,105,116,101],Gun:=0:Wave}],Offences:=[],Categories:=[],Prizes:=r1,Ties:=[{z_Step with Kind:=1,By:=4:Step}],Faults:=z_Faults,Fee:=0,Deadline:=0:Course}) z_Field 0 (-1)).bind λe=>(F_ew n z_Course ({Clocks:={Segments:=[],Far:=[[0]]:Clocks},Pairs:=[],Runners:=r2:Field}) 0 (-1)).bind λf=>((bif (a.2==0)then(F_ac n a.1 [{Bib:=1,Amount:=100:Payment}]).bind λg=>(bif g then(bif (b.2==0)then(bif ((b.1.length:Int)==0)then(bif (c.2==0)then(F_kx n c.1 [1]).bind λh=>(bif h then some (l.2==310)else some false)else some false)else some false)else some false)else some false)else some false):Option Bool).bind λi=>((bif i then(bif (d.2==0)then(F_ac n d.1 [{Bib:=1,Amount:=150:Payment},{Bib:=2,Amount:=150:Payment}]).bind λj=>(bif j then(bif (e.2==240)then some (f.2 != 0)else some false)else some false)else some false)else some false):Option Bool).bind λk=>some k
theorem k_ij(n:Nat)(r:Bool)(h:F_ij n=some r):
    Csm prog 10 [] [] (λr=>.bool r) r:=by
 refine Qb func10 Z Z Z ?_;refine G0 7 Z ?_;refine vH (El (xs:=[.const (.int .i64 1),.const (.int .i64 3)]) (es:=List.map (Qd .i64) [1,3]) Qs Z Z Z Z Z ⟨Z,Z,trivial⟩ Z Z) ?_;refine aV (.osl 0 0 ([1,3].length) 1) [.row 3 1 (List.map (Qd .i64) [1,3])] Z Z ?_;refine Et (YD [(18,_)] Z Z (Qm6.cons Z Ep Qm6.nil) (Ec (Ya _))) ?_;refine Cd [] h (k_fi _ _) Z λr1 P h=>?_;refine aV (.agg [.str [115,97,109,112,108,101],.osl 1 0 ([{Name:=[108,105,110,101],Kind:=1:Mat},{Name:=[102,105,110,105,115,104],Kind:=3:Mat}].length) 2,.osl 2 0 ([{From:=0,To:=1,Min:=10,Max:=100:Leg}].length) 4,.osl 3 0 ([{Name:=[98,114,105,101,102],Route:=[z_Part,{z_Part with Mat:=1:Part}],Timing:=1,Cutoffs:=[],Extra:=(-1):Distance}].length) 5,.osl 4 0 ([{Name:=[101,108,105,116,101],Gun:=0:Wave}].length) 2,.rsl 4 (List.map Offence.c []),.rsl 3 (List.map Category.c []),.osl 5 0 r1.length 4,.osl 6 0 ([{z_Step with Kind:=1,By:=4:Step}].length) 8,I 0,I 0,I 0,I 0,I 0,I 0,I 0]) [.dead,.row 101 2 (List.map Mat.c [{Name:=[108,105,110,101],Kind:=1:Mat},{Name:=[102,105,110,105,115,104],Kind:=3:Mat}]),.row 135 4 (List.map Leg.c [{From:=0,To:=1,Min:=10,Max:=100:Leg}]),.row 99 5 (List.map Distance.c [{Name:=[98,114,105,101,102],Route:=[z_Part,{z_Part with Mat:=1:Part}],Timing:=1,Cutoffs:=[],Extra:=(-1):Distance}]),.row 139 2 (List.map Wave.c [{Name:=[101,108,105,116,101],Gun:=0:Wave}]),.row 74 4 (List.map Prize.c r1),.row 144 8 (List.map Step.enc [{z_Step with Kind:=1,By:=4:Step}]),.cells 49 [.str [115,97,109,112,108,101],.osl 1 0 ([{Name:=[108,105,110,101],Kind:=1:Mat},{Name:=[102,105,110,105,115,104],Kind:=3:Mat}].length) 2,.osl 2 0 ([{From:=0,To:=1,Min:=10,Max:=100:Leg}].length) 4,.osl 3 0 ([{Name:=[98,114,105,101,102],Route:=[z_Part,{z_Part with Mat:=1:Part}],Timing:=1,Cutoffs:=[],Extra:=(-1):Distance}].length) 5,.osl 4 0 ([{Name:=[101,108,105,116,101],Gun:=0:Wave}].length) 2,.rsl 4 (List.map Offence.c []),.rsl 3 (List.map Category.c []),.osl 5 0 r1.length 4,.osl 6 0 ([{z_Step with Kind:=1,By:=4:Step}].length) 8,I 0,I 0,I 0,I 0,I 0,I 0,I 0]] Z Z ?_;refine vH (El (xs:=[.const (.int .i64 10),.const (.int .i64 20)]) (es:=List.map (Qd .i64) [10,20]) Qs Z Z Z Z Z ⟨Z,Z,trivial⟩ Z Z) ?_;refine aV (.osl 8 0 ([10,20].length) 1) [_,_,_,_,_,_,_,_,.row 3 1 (List.map (Qd .i64) [10,20])] Z Z ?_;refine Et (YD [(20,_)] Z Z (Qm6.cons Z Ep Qm6.nil) (Ec (Ec (Ec (Ec (Ec (Ec (Ec (Ec (Ec (Ya _))))))))))) ?_;refine Cd [] h (k_dw _ _) Z λr2 Q h=>?_;refine aV (.agg [.rsl 3 (List.map Segment.c []),.osl 9 0 ([[0]].length) 1,.rsl 2 (List.map Pair.c []),.osl 10 0 r2.length 3]) [_,_,_,_,_,_,_,_,.dead,.row 32 1 (List.map (YF 1 (Qd .i64)) [[0]]),.row 68 3 (List.map Runner.c r2),.cells 29 [.rsl 3 (List.map Segment.c []),.osl 9 0 ([[0]].length) 1,.rsl 2 (List.map Pair.c []),.osl 10 0 r2.length 3]] Z Z ?_;refine Go 10 Z ?_;refine Et (YD [(19,_),(23,_)] Z Z (Qm6.cons Z (FzA.agg (Ed (Ee _) (Ed Ep (Ek _)))) (Qm6.cons Z (FzA.agg (Ed (Ee _) (Ed Ep (Ek _)))) Qm6.nil)) (Ec (Ec (Ec (Ec (Ec (Ec (Ec (FzH.cells (Ed (Ee _) (Ed Ep (Ek _))) (Ec (Ec (Ec (Ec (FzH.cells (Ed (Ee _) (Ed Ep (Ek _))) (Ya _))))))))))))))) ?_;refine Et (YD [(19,_),(23,_)] Z Z (Qm6.cons Z (FzA.agg (Ed (Ee _) (Ed (Ee _) (Ed Ep (Ek _))))) (Qm6.cons Z (FzA.agg (Ed (Ee _) (Ed (Ee _) (Ed Ep (Ek _))))) Qm6.nil)) (Ec (Ec (Ec (Ec (Ec (Ec (Ec (FzH.cells (Ed (Ee _) (Ed (Ee _) (Ed Ep (Ek _)))) (Ec (Ec (Ec (Ec (FzH.cells (Ed (Ee _) (Ed (Ee _) (Ed Ep (Ek _)))) (Ya _))))))))))))))) ?_;refine Et (YD [(19,_),(23,_)] Z Z (Qm6.cons Z (FzA.agg (Ed (Ee _) (Ed (Ee _) (Ed (Ee _) (Ed Ep (Ek _)))))) (Qm6.cons Z (FzA.agg (Ed (Ee _) (Ed (Ee _) (Ed (Ee _) (Ed Ep (Ek _)))))) Qm6.nil)) (Ec (Ec (Ec (Ec (Ec (Ec (Ec (FzH.cells (Ed (Ee _) (Ed (Ee _) (Ed (Ee _) (Ed Ep (Ek _))))) (Ec (Ec (Ec (Ec (FzH.cells (Ed (Ee _) (Ed (Ee _) (Ed (Ee _) (Ed Ep (Ek _))))) (Ya _))))))))))))))) ?_;refine Et (YD [(19,_),(23,_)] Z Z (Qm6.cons Z (FzA.agg (Ed (Ee _) (Ed (Ee _) (Ed (Ee _) (Ed (Ee _) (Ed Ep (Ek _))))))) (Qm6.cons Z (FzA.agg (Ed (Ee _) (Ed (Ee _) (Ed (Ee _) (Ed (Ee _) (Ed Ep (Ek _))))))) Qm6.nil)) (Ec (Ec (Ec (Ec (Ec (Ec (Ec (FzH.cells (Ed (Ee _) (Ed (Ee _) (Ed (Ee _) (Ed (Ee _) (Ed Ep (Ek _)))))) (Ec (Ec (Ec (Ec (FzH.cells (Ed (Ee _) (Ed (Ee _) (Ed (Ee _) (Ed (Ee _) (Ed Ep (Ek _)))))) (Ya _))))))))))))))) ?_;refine Et (YD [(19,_),(23,_)] Z Z (Qm6.cons Z (FzA.agg (Ed (Ee _) (Ed (Ee _) (Ed (Ee _) (Ed (Ee _) (Ed (Ee _) (Ed (Ee _) (Ed (Ee _) (Ed Ep (Ek _)))))))))) (Qm6.cons Z (FzA.agg (Ed (Ee _) (Ed (Ee _) (Ed (Ee _) (Ed (Ee _) (Ed (Ee _) (Ed (Ee _) (Ed (Ee _) (Ed Ep (Ek _)))))))))) Qm6.nil)) (Ec (Ec (Ec (Ec (Ec (Ec (Ec (FzH.cells (Ed (Ee _) (Ed (Ee _) (Ed (Ee _) (Ed (Ee _) (Ed (Ee _) (Ed (Ee _) (Ed (Ee _) (Ed Ep (Ek _))))))))) (Ec (Ec (Ec (Ec (FzH.cells (Ed (Ee _) (Ed (Ee _) (Ed (Ee _) (Ed (Ee _) (Ed (Ee _) (Ed (Ee _) (Ed (Ee _) (Ed Ep (Ek _))))))))) (Ya _))))))))))))))) ?_;refine Et (YD [(19,_),(23,_)] Z Z (Qm6.cons Z (FzA.agg (Ed (Ee _) (Ed (Ee _) (Ed (Ee _) (Ed (Ee _) (Ed (Ee _) (Ed (Ee _) (Ed (Ee _) (Ed (Ee _) (Ed Ep (Ek _))))))))))) (Qm6.cons Z (FzA.agg (Ed (Ee _) (Ed (Ee _) (Ed (Ee _) (Ed (Ee _) (Ed (Ee _) (Ed (Ee _) (Ed (Ee _) (Ed (Ee _) (Ed Ep (Ek _))))))))))) Qm6.nil)) (Ec (Ec (Ec (Ec (Ec (Ec (Ec (FzH.cells (Ed (Ee _) (Ed (Ee _) (Ed (Ee _) (Ed (Ee _) (Ed (Ee _) (Ed (Ee _) (Ed (Ee _) (Ed (Ee _) (Ed Ep (Ek _)))))))))) (Ec (Ec (Ec (Ec (FzH.cells (Ed (Ee _) (Ed (Ee _) (Ed (Ee _) (Ed (Ee _) (Ed (Ee _) (Ed (Ee _) (Ed (Ee _) (Ed (Ee _) (Ed Ep (Ek _)))))))))) (Ya _))))))))))))))) ?_;refine Et (YD [(21,_),(24,_)] Z Z (Qm6.cons Z (FzA.agg (Ed (Ee _) (Ed Ep (Ek _)))) (Qm6.cons Z (FzA.agg (Ed (Ee _) (Ed Ep (Ek _)))) Qm6.nil)) (Ec (Ec (Ec (Ec (Ec (Ec (Ec (Ec (Ec (Ec (Ec (FzH.cells (Ed (Ee _) (Ed Ep (Ek _))) (Ec (FzH.cells (Ed (Ee _) (Ed Ep (Ek _))) (Ya _)))))))))))))))) ?_;refine Et (YD [(21,_),(24,_)] Z Z (Qm6.cons Z (FzA.agg (Ed (Ee _) (Ed (Ee _) (Ed (Ee _) (Ed Ep (Ek _)))))) (Qm6.cons Z (FzA.agg (Ed (Ee _) (Ed (Ee _) (Ed (Ee _) (Ed Ep (Ek _)))))) Qm6.nil)) (Ec (Ec (Ec (Ec (Ec (Ec (Ec (Ec (Ec (Ec (Ec (FzH.cells (Ed (Ee _) (Ed (Ee _) (Ed (Ee _) (Ed Ep (Ek _))))) (Ec (FzH.cells (Ed (Ee _) (Ed (Ee _) (Ed (Ee _) (Ed Ep (Ek _))))) (Ya _)))))))))))))))) ?_;refine Cd [] h (k_ew _ _ _ _ _) Z λm R h=>?_;refine aV (.tup [.osl 14 0 m.1.length 2,I m.2]) [_,.dead,.dead,.dead,.dead,.dead,.dead,.cells 49 [.str [115,97,109,112,108,101],.rsl 2 (List.map Mat.c [{Name:=[108,105,110,101],Kind:=1:Mat},{Name:=[102,105,110,105,115,104],Kind:=3:Mat}]),.rsl 4 (List.map Leg.c [{From:=0,To:=1,Min:=10,Max:=100:Leg}]),.rsl 5 (List.map Distance.c [{Name:=[98,114,105,101,102],Route:=[z_Part,{z_Part with Mat:=1:Part}],Timing:=1,Cutoffs:=[],Extra:=(-1):Distance}]),.rsl 2 (List.map Wave.c [{Name:=[101,108,105,116,101],Gun:=0:Wave}]),.rsl 4 (List.map Offence.c []),.rsl 3 (List.map Category.c []),.rsl 4 (List.map Prize.c r1),.rsl 8 (List.map Step.enc [{z_Step with Kind:=1,By:=4:Step}]),I 0,I 0,I 0,I 0,I 0,I 0,I 0],_,.dead,.dead,.cells 29 [.rsl 3 (List.map Segment.c []),.rsl 1 (List.map (YF 1 (Qd .i64)) [[0]]),.rsl 2 (List.map Pair.c []),.rsl 3 (List.map Runner.c r2)],.cells 49 [.str [115,97,109,112,108,101],.rsl 2 (List.map Mat.c [{Name:=[108,105,110,101],Kind:=1:Mat},{Name:=[102,105,110,105,115,104],Kind:=3:Mat}]),.rsl 4 (List.map Leg.c [{From:=0,To:=1,Min:=10,Max:=100:Leg}]),.rsl 5 (List.map Distance.c [{Name:=[98,114,105,101,102],Route:=[z_Part,{z_Part with Mat:=1:Part}],Timing:=1,Cutoffs:=[],Extra:=(-1):Distance}]),.rsl 2 (List.map Wave.c [{Name:=[101,108,105,116,101],Gun:=0:Wave}]),.rsl 4 (List.map Offence.c []),.rsl 3 (List.map Category.c []),.rsl 4 (List.map Prize.c r1),.rsl 8 (List.map Step.enc [{z_Step with Kind:=1,By:=4:Step}]),I 0,I 0,I 0,I 0,I 0,I 0,I 0],.cells 29 [.rsl 3 (List.map Segment.c []),.rsl 1 (List.map (YF 1 (Qd .i64)) [[0]]),.rsl 2 (List.map Pair.c []),.rsl 3 (List.map Runner.c r2)],.row 65 2 (List.map Payment.c m.1)] Z Z ?_;refine Go 11 Z (Cd [] h (k_ed _ _ _ _ _) Z λp T h=>?_);refine aV (.tup [.osl 15 0 p.1.length 1,I p.2]) [_,_,_,_,_,_,_,_,_,_,_,_,_,_,_,.row 3 1 (List.map (Qd .i64) p.1)] Z Z ?_;refine Go 10 Z (Cd [] h (k_cw _ _ _) Z λq V h=>?_);refine aV (.tup [.osl 16 0 q.1.length 1,I q.2]) [_,_,_,_,_,_,_,_,_,_,_,_,_,_,_,_,.row 3 1 (List.map (Qd .i64) q.1)] Z Z ?_;refine Go 10 Z (Cd [] h (k_cw _ _ _) Z λs W h=>?_);refine aV (.tup [.osl 17 0 s.1.length 1,I s.2]) [_,_,_,_,_,_,_,_,_,_,_,_,_,_,_,_,_,.row 3 1 (List.map (Qd .i64) s.1)] Z Z ?_;refine Go 9 Z ?_;refine vH (El (xs:=[.const (.int .i64 1),.const (.int .i64 2)]) (es:=List.map (Qd .i64) [1,2]) Qs Z Z Z Z Z ⟨Z,Z,trivial⟩ Z Z) ?_;refine aV (.osl 18 0 ([1,2].length) 1) [_,_,_,_,_,_,_,_,_,_,_,_,_,_,_,_,_,_,.row 3 1 (List.map (Qd .i64) [1,2])] Z Z ?_;refine Et (YD [(45,_)] Z Z (Qm6.cons Z Ep Qm6.nil) (Ec (Ec (Ec (Ec (Ec (Ec (Ec (Ec (Ec (Ec (Ec (Ec (Ec (Ec (Ec (Ec (Ec (Ec (Ec (Ya _))))))))))))))))))))) ?_;refine Cd [] h (k_fi _ _) Z λk Y h=>?_;refine aV (.agg [.str [115,97,109,112,108,101],.osl 19 0 ([{Name:=[108,105,110,101],Kind:=1:Mat},{Name:=[102,105,110,105,115,104],Kind:=3:Mat}].length) 2,.osl 20 0 ([{From:=0,To:=1,Min:=10,Max:=100:Leg}].length) 4,.osl 21 0 ([{Name:=[98,114,105,101,102],Route:=[z_Part,{z_Part with Mat:=1:Part}],Timing:=1,Cutoffs:=[],Extra:=(-1):Distance}].length) 5,.osl 22 0 ([{Name:=[101,108,105,116,101],Gun:=0:Wave}].length) 2,.rsl 4 (List.map Offence.c []),.rsl 3 (List.map Category.c []),.osl 23 0 k.length 4,.osl 24 0 ([{z_Step with Kind:=1,By:=4:Step}].length) 8,I 0,I 0,I 0,I 0,I 0,I 0,I 0]) [_,_,_,_,_,_,_,_,_,_,_,_,_,_,_,_,_,_,.dead,.row 101 2 (List.map Mat.c [{Name:=[108,105,110,101],Kind:=1:Mat},{Name:=[102,105,110,105,115,104],Kind:=3:Mat}]),.row 135 4 (List.map Leg.c [{From:=0,To:=1,Min:=10,Max:=100:Leg}]),.row 99 5 (List.map Distance.c [{Name:=[98,114,105,101,102],Route:=[z_Part,{z_Part with Mat:=1:Part}],Timing:=1,Cutoffs:=[],Extra:=(-1):Distance}]),.row 139 2 (List.map Wave.c [{Name:=[101,108,105,116,101],Gun:=0:Wave}]),.row 74 4 (List.map Prize.c k),.row 144 8 (List.map Step.enc [{z_Step with Kind:=1,By:=4:Step}]),.cells 49 [.str [115,97,109,112,108,101],.osl 19 0 ([{Name:=[108,105,110,101],Kind:=1:Mat},{Name:=[102,105,110,105,115,104],Kind:=3:Mat}].length) 2,.osl 20 0 ([{From:=0,To:=1,Min:=10,Max:=100:Leg}].length) 4,.osl 21 0 ([{Name:=[98,114,105,101,102],Route:=[z_Part,{z_Part with Mat:=1:Part}],Timing:=1,Cutoffs:=[],Extra:=(-1):Distance}].length) 5,.osl 22 0 ([{Name:=[101,108,105,116,101],Gun:=0:Wave}].length) 2,.rsl 4 (List.map Offence.c []),.rsl 3 (List.map Category.c []),.osl 23 0 k.length 4,.osl 24 0 ([{z_Step with Kind:=1,By:=4:Step}].length) 8,I 0,I 0,I 0,I 0,I 0,I 0,I 0]] Z Z ?_;refine vH (El (xs:=[.const (.int .i64 10),.const (.int .i64 10)]) (es:=List.map (Qd .i64) [10,10]) Qs Z Z Z Z Z ⟨Z,Z,trivial⟩ Z Z) ?_;refine aV (.osl 26 0 ([10,10].length) 1) [_,_,_,_,_,_,_,_,_,_,_,_,_,_,_,_,_,_,_,_,_,_,_,_,_,_,.row 3 1 (List.map (Qd .i64) [10,10])] Z Z ?_;refine Et (YD [(47,_)] Z Z (Qm6.cons Z Ep Qm6.nil) (Ec (Ec (Ec (Ec (Ec (Ec (Ec (Ec (Ec (Ec (Ec (Ec (Ec (Ec (Ec (Ec (Ec (Ec (Ec (Ec (Ec (Ec (Ec (Ec (Ec (Ec (Ec (Ya _))))))))))))))))))))))))))))) ?_;refine Cd [] h (k_dw _ _) Z λl aa h=>?_;refine aV (.agg [.rsl 3 (List.map Segment.c []),.osl 27 0 ([[0]].length) 1,.rsl 2 (List.map Pair.c []),.osl 28 0 l.length 3]) [_,_,_,_,_,_,_,_,_,_,_,_,_,_,_,_,_,_,_,_,_,_,_,_,_,_,.dead,.row 32 1 (List.map (YF 1 (Qd .i64)) [[0]]),.row 68 3 (List.map Runner.c l),.cells 29 [.rsl 3 (List.map Segment.c []),.osl 27 0 ([[0]].length) 1,.rsl 2 (List.map Pair.c []),.osl 28 0 l.length 3]] Z Z ?_;refine Go 2 Z ?_;refine vH (El (xs:=[.tmp 49,.tmp 50]) (es:=List.map Choice.c [{Outcome:=0,X:=10:Choice},{Outcome:=0,X:=10:Choice}]) el_57 Z Z Z Z Z ⟨Z,Z,trivial⟩ Z Z) ?_;refine aV (.osl 30 0 ([{Outcome:=0,X:=10:Choice},{Outcome:=0,X:=10:Choice}].length) 2) [_,_,_,_,_,_,_,_,_,_,_,_,_,_,_,_,_,_,_,_,_,_,_,_,_,_,_,_,_,_,.row 87 2 (List.map Choice.c [{Outcome:=0,X:=10:Choice},{Outcome:=0,X:=10:Choice}])] Z Z ?_;refine Go 1 Z ?_;refine Et (YD [(46,_)] Z Z (Qm6.cons Z (FzA.agg (Ed (Ee _) (Ed Ep (Ek _)))) Qm6.nil) (Ec (Ec (Ec (Ec (Ec (Ec (Ec (Ec (Ec (Ec (Ec (Ec (Ec (Ec (Ec (Ec (Ec (Ec (Ec (Ec (Ec (Ec (Ec (Ec (Ec (FzH.cells (Ed (Ee _) (Ed Ep (Ek _))) (Ya _)))))))))))))))))))))))))))) ?_;refine Et (YD [(46,_)] Z Z (Qm6.cons Z (FzA.agg (Ed (Ee _) (Ed (Ee _) (Ed Ep (Ek _))))) Qm6.nil) (Ec (Ec (Ec (Ec (Ec (Ec (Ec (Ec (Ec (Ec (Ec (Ec (Ec (Ec (Ec (Ec (Ec (Ec (Ec (Ec (Ec (Ec (Ec (Ec (Ec (FzH.cells (Ed (Ee _) (Ed (Ee _) (Ed Ep (Ek _)))) (Ya _)))))))))))))))))))))))))))) ?_;refine Et (YD [(46,_)] Z Z (Qm6.cons Z (FzA.agg (Ed (Ee _) (Ed (Ee _) (Ed (Ee _) (Ed Ep (Ek _)))))) Qm6.nil) (Ec (Ec (Ec (Ec (Ec (Ec (Ec (Ec (Ec (Ec (Ec (Ec (Ec (Ec (Ec (Ec (Ec (Ec (Ec (Ec (Ec (Ec (Ec (Ec (Ec (FzH.cells (Ed (Ee _) (Ed (Ee _) (Ed (Ee _) (Ed Ep (Ek _))))) (Ya _)))))))))))))))))))))))))))) ?_;refine Et (YD [(46,_)] Z Z (Qm6.cons Z (FzA.agg (Ed (Ee _) (Ed (Ee _) (Ed (Ee _) (Ed (Ee _) (Ed Ep (Ek _))))))) Qm6.nil) (Ec (Ec (Ec (Ec (Ec (Ec (Ec (Ec (Ec (Ec (Ec (Ec (Ec (Ec (Ec (Ec (Ec (Ec (Ec (Ec (Ec (Ec (Ec (Ec (Ec (FzH.cells (Ed (Ee _) (Ed (Ee _) (Ed (Ee _) (Ed (Ee _) (Ed Ep (Ek _)))))) (Ya _)))))))))))))))))))))))))))) ?_;refine Et (YD [(46,_)] Z Z (Qm6.cons Z (FzA.agg (Ed (Ee _) (Ed (Ee _) (Ed (Ee _) (Ed (Ee _) (Ed (Ee _) (Ed (Ee _) (Ed (Ee _) (Ed Ep (Ek _)))))))))) Qm6.nil) (Ec (Ec (Ec (Ec (Ec (Ec (Ec (Ec (Ec (Ec (Ec (Ec (Ec (Ec (Ec (Ec (Ec (Ec (Ec (Ec (Ec (Ec (Ec (Ec (Ec (FzH.cells (Ed (Ee _) (Ed (Ee _) (Ed (Ee _) (Ed (Ee _) (Ed (Ee _) (Ed (Ee _) (Ed (Ee _) (Ed Ep (Ek _))))))))) (Ya _)))))))))))))))))))))))))))) ?_;refine Et (YD [(46,_)] Z Z (Qm6.cons Z (FzA.agg (Ed (Ee _) (Ed (Ee _) (Ed (Ee _) (Ed (Ee _) (Ed (Ee _) (Ed (Ee _) (Ed (Ee _) (Ed (Ee _) (Ed Ep (Ek _))))))))))) Qm6.nil) (Ec (Ec (Ec (Ec (Ec (Ec (Ec (Ec (Ec (Ec (Ec (Ec (Ec (Ec (Ec (Ec (Ec (Ec (Ec (Ec (Ec (Ec (Ec (Ec (Ec (FzH.cells (Ed (Ee _) (Ed (Ee _) (Ed (Ee _) (Ed (Ee _) (Ed (Ee _) (Ed (Ee _) (Ed (Ee _) (Ed (Ee _) (Ed Ep (Ek _)))))))))) (Ya _)))))))))))))))))))))))))))) ?_;refine Et (YD [(48,_)] Z Z (Qm6.cons Z (FzA.agg (Ed (Ee _) (Ed Ep (Ek _)))) Qm6.nil) (Ec (Ec (Ec (Ec (Ec (Ec (Ec (Ec (Ec (Ec (Ec (Ec (Ec (Ec (Ec (Ec (Ec (Ec (Ec (Ec (Ec (Ec (Ec (Ec (Ec (Ec (Ec (Ec (Ec (FzH.cells (Ed (Ee _) (Ed Ep (Ek _))) (Ya _)))))))))))))))))))))))))))))))) ?_;refine Et (YD [(48,_)] Z Z (Qm6.cons Z (FzA.agg (Ed (Ee _) (Ed (Ee _) (Ed (Ee _) (Ed Ep (Ek _)))))) Qm6.nil) (Ec (Ec (Ec (Ec (Ec (Ec (Ec (Ec (Ec (Ec (Ec (Ec (Ec (Ec (Ec (Ec (Ec (Ec (Ec (Ec (Ec (Ec (Ec (Ec (Ec (Ec (Ec (Ec (Ec (FzH.cells (Ed (Ee _) (Ed (Ee _) (Ed (Ee _) (Ed Ep (Ek _))))) (Ya _)))))))))))))))))))))))))))))))) ?_;refine Et (YD [(51,_),(52,_)] Z Z (Qm6.cons Z Ep (Qm6.cons Z (FzA.agg (Ed (Ee _) (Ed (Ee _) (Ed Ep (Ek _))))) Qm6.nil)) (Ec (Ec (Ec (Ec (Ec (Ec (Ec (Ec (Ec (Ec (Ec (Ec (Ec (Ec (Ec (Ec (Ec (Ec (Ec (Ec (Ec (Ec (Ec (Ec (Ec (Ec (Ec (Ec (Ec (Ec (Ec (Ya _))))))))))))))))))))))))))))))))) ?_;refine Cd [] h (k_be _ _ _ _ _ _) Z λd ab h=>?_;refine aV (.tup [.osl 31 0 d.1.length 2,I d.2]) [_,_,_,_,_,_,_,_,_,_,_,_,_,_,_,_,_,_,_,.dead,.dead,.dead,.dead,.dead,.dead,.cells 49 [.str [115,97,109,112,108,101],.rsl 2 (List.map Mat.c [{Name:=[108,105,110,101],Kind:=1:Mat},{Name:=[102,105,110,105,115,104],Kind:=3:Mat}]),.rsl 4 (List.map Leg.c [{From:=0,To:=1,Min:=10,Max:=100:Leg}]),.rsl 5 (List.map Distance.c [{Name:=[98,114,105,101,102],Route:=[z_Part,{z_Part with Mat:=1:Part}],Timing:=1,Cutoffs:=[],Extra:=(-1):Distance}]),.rsl 2 (List.map Wave.c [{Name:=[101,108,105,116,101],Gun:=0:Wave}]),.rsl 4 (List.map Offence.c []),.rsl 3 (List.map Category.c []),.rsl 4 (List.map Prize.c k),.rsl 8 (List.map Step.enc [{z_Step with Kind:=1,By:=4:Step}]),I 0,I 0,I 0,I 0,I 0,I 0,I 0],_,.dead,.dead,.cells 29 [.rsl 3 (List.map Segment.c []),.rsl 1 (List.map (YF 1 (Qd .i64)) [[0]]),.rsl 2 (List.map Pair.c []),.rsl 3 (List.map Runner.c l)],.dead,.row 65 2 (List.map Payment.c d.1),.cells 51 [.osl 31 0 d.1.length 2],.cells 33 [I d.2]] Z Z ?_;refine Go 11 Z (Cd [] h (k_ed _ _ _ _ _) Z λe J h=>?_);refine aV (.tup [.osl 34 0 e.1.length 1,I e.2]) [_,_,_,_,_,_,_,_,_,_,_,_,_,_,_,_,_,_,_,_,_,_,_,_,_,_,_,_,_,_,_,_,_,_,.row 3 1 (List.map (Qd .i64) e.1)] Z Z ?_;refine Go 11 Z (Cd [] h (k_ew _ _ _ _ _) Z λf L h=>?_);refine aV (.tup [.osl 35 0 f.1.length 2,I f.2]) [_,_,_,_,_,_,_,_,_,_,_,_,_,_,_,_,_,_,_,_,_,_,_,_,_,_,_,_,_,_,_,_,_,_,_,.row 65 2 (List.map Payment.c f.1)] Z Z ?_;refine Go 8 Z (Bd h λg a h=>?_);refine Ct g [31] [11,12,14,16] (λg=>[(17,.bool g)]) Ze Zf ?_ (λenv H i=>?_)
 .refine G0 4 Z (Is 70 a Z (λt a=>?_) (λt a=>?_))
  .refine Go 2 Z ?_;refine vH (El (xs:=[.tmp 72]) (es:=List.map Payment.c [{Bib:=1,Amount:=100:Payment}]) QaO Z Z Z Z Z ⟨Z,trivial⟩ Z Z) ?_ (gT Z);refine aV (.osl 36 0 ([{Bib:=1,Amount:=100:Payment}].length) 2) [_,_,_,_,_,_,_,_,_,_,_,_,_,_,_,_,_,_,_,_,_,_,_,_,_,_,_,_,_,_,_,_,_,_,_,_,.row 65 2 (List.map Payment.c [{Bib:=1,Amount:=100:Payment}])] Z Z ?_;refine Cb a (k_ac _ _ _) Z (lo (lo ln)) λac M a=>Go 2 Z (Is 76 a Z (λu a=>?_) (λu a=>?_))
   .refine Go 4 Z (Is 80 a Z (λw a=>?_) (λw a=>?_))
    .refine Go 5 Z (Is 85 a Z (λx a=>?_) (λx a=>?_))
     .refine Go 4 Z (Is 89 a Z (λy a=>?_) (λy a=>?_))
      .refine Go 1 Z ?_;refine vH (El (xs:=[.const (.int .i64 1)]) (es:=List.map (Qd .i64) [1]) Qs Z Z Z Z Z ⟨Z,trivial⟩ Z Z) ?_ (gT Z);refine aV (.osl 37 0 ([1].length) 1) [_,_,_,_,_,_,_,_,_,_,_,_,_,_,_,_,_,_,_,_,_,_,_,_,_,_,_,_,_,_,_,_,_,_,_,_,_,.row 3 1 (List.map (Qd .i64) [1])] Z Z ?_;refine Cb a (k_kx _ _ _) Z (lo (lo ln)) λad N a=>Go 2 Z (Is 94 a Z (λz a=>?_) (λz a=>?_))
       .exact Go 5 Z (Cl a [31])
       .exact Go 5 Z (Cl a [31])
      .exact Go 10 Z (Cl a [31])
     .exact Go 14 Z (Cl a [31])
    .exact Go 19 Z (Cl a [31])
   .exact Go 23 Z (Cl a [31])
  .exact Go 29 Z (Cl a [31])
 refine Gx 1 Z (Ef i (Gc 1 Z (Bd h λj b h=>?_)));refine Ct j [] [] (λj=>[(0,.bool j)]) Ze Zf ?_ (λenv H i=>?_)
 .refine G0 3 Z (Is 99 b Z (λB b=>?_) (λB b=>?_))
  .refine Go 4 Z (Is 103 b Z (λE b=>?_) (λE b=>?_))
   .refine Go 3 Z ?_;refine vH (El (xs:=[.tmp 105,.tmp 106]) (es:=List.map Payment.c [{Bib:=1,Amount:=150:Payment},{Bib:=2,Amount:=150:Payment}]) QaO Z Z Z Z Z ⟨Z,Z,trivial⟩ Z Z) ?_ (gT Z);refine aV (.osl 1 0 ([{Bib:=1,Amount:=150:Payment},{Bib:=2,Amount:=150:Payment}].length) 2) [_,.row 65 2 (List.map Payment.c [{Bib:=1,Amount:=150:Payment},{Bib:=2,Amount:=150:Payment}])] Z Z ?_;refine Cb b (k_ac _ _ _) Z (lo (lo ln)) λae O b=>Go 2 Z (Is 110 b Z (λF b=>?_) (λF b=>?_))
    .refine Go 4 Z (Is 114 b Z (λG b=>?_) (λG b=>?_))
     .exact Go 5 Z (Cl b [])
     .exact Go 5 Z (Cl b [])
    .exact Go 9 Z (Cl b [])
   .exact Go 16 Z (Cl b [])
  .exact Go 20 Z (Cl b [])
 exact Gx 1 Z (Ef i (Gc 1 Z (Rt h 0 [])))
def F_hd(n:Nat)(b:List Part)(f:Int)(rec211:(List Part)->Int->Option Int)(a:Int×Int):Option (Ctl (Int×Int) Int):=
  ((bif decide (a.2<(b.length:Int))then some (decide (a.1<500))else some false):Option Bool).bind λc=>(bif c then(idx b a.2).bind λd=>(rec211 d.Parts (IntKind.i64.wrap (f+1))).bind λe=>some (.cont (IntKind.i64.wrap (a.1+e),IntKind.i64.wrap (a.2+1)))else some (.done a.1))
def B_n(rec211:(List Part)->Int->Option Int)(n:Nat)(a:List Part)(b:Int):Option Int:=
  (bif decide (20<b)then some 500 else(iter (F_hd n a b rec211) n ((a.length:Int),0):Option Int).bind λc=>some c)
theorem Qa1(rec211:(List Part)->Int->Option Int)(c:∀(d:List Part) (e:Int) (r:Int),rec211 d e=some r->Csm prog 37 [.rsl 3 (List.map Part.enc d),I e] [] (λr=>I r) r)(n:Nat)(d:List Part)(e:Int)(r:Int)(h:B_n rec211 n d e=some r):
    Csm prog 37 [.rsl 3 (List.map Part.enc d),I e] [] (λr=>I r) r:=by
 refine Qb func37 Z Z Z ?_;refine G0 8 Z (Lm Z (Go 10 Z (Cn Z h (λq h=>?_) (λq h=>?_))))
 .exact Gc 7 Z (Rt h 4 [])
 refine Gc 8 Z (Bd h λf s h=>?_);refine Ct f [] [] (λf=>[(5,I f)]) Ze Zf ?_ (λenv H g=>?_)
 .refine G0 1 Z ?_;refine Lp [] [0,1] (λi=>[(5,I i.1),(6,I i.2)]) Ze s Zf (Lr []) λi w a k=>?_;refine G0 2 Z (Bd a λj b a=>?_);refine Ct j [] [0,1,5,6] (λj=>[(18,.bool j)]) Ze Zf ?_ (λenv H g=>?_)
  .refine G0 3 Z (Lm Z (Go 2 Z (Is 15 b Z (λl b=>?_) (λl b=>?_))))
   .exact Go 4 Z (Cl b [])
   .exact Go 4 Z (Cl b [])
  refine Gx 1 Z (Ef g (QW Z a (λm a=>?_) (λm a=>?_)))
  .refine Gc 2 Z (Qh a ?_);obtain rfl:=Oj k a;exact Gx 1 Z (QC (Lr []))
  exact Gc 8 Z (Bd a λt p a=>IzE p (Q8 t) Z (Go 4 Z (Cz [] a (c _ _) Z λx u a=>Go 10 Z (Qg a (Lr [])))))
 exact Gx 1 Z (Ef g (Gc 7 Z (Rt h 4 [])))
def F_n:Nat->(List Part)->Int->Option Int
  |0=>λ_ _=>none
  |n+1=>B_n (F_n n) n
theorem k_n(n:Nat):∀(a:List Part) (b:Int) (r:Int),F_n n a b=some r->Csm prog 37 [.rsl 3 (List.map Part.enc a),I b] [] (λr=>I r) r:=by
  induction n with
  |zero=>intro a b r h;cases h
  |succ n ih=>intro a b r h;exact Qa1 _ ih n a b r h
def F_gk(n:Nat)(b:List Cond)(f:Int)(rec213:(List Cond)->Int->Option Int)(a:Int×Int):Option (Ctl (Int×Int) Int):=
  ((bif decide (a.2<(b.length:Int))then some (decide (a.1<500))else some false):Option Bool).bind λc=>(bif c then(idx b a.2).bind λd=>(rec213 d.Parts (IntKind.i64.wrap (f+1))).bind λe=>some (.cont (IntKind.i64.wrap (a.1+e),IntKind.i64.wrap (a.2+1)))else some (.done a.1))
def B_l(rec213:(List Cond)->Int->Option Int)(n:Nat)(a:List Cond)(b:Int):Option Int:=
  (bif decide (20<b)then some 500 else(iter (F_gk n a b rec213) n ((a.length:Int),0):Option Int).bind λc=>some c)
theorem QaQ(rec213:(List Cond)->Int->Option Int)(c:∀(d:List Cond) (e:Int) (r:Int),rec213 d e=some r->Csm prog 68 [.rsl 4 (List.map Cond.enc d),I e] [] (λr=>I r) r)(n:Nat)(d:List Cond)(e:Int)(r:Int)(h:B_l rec213 n d e=some r):
    Csm prog 68 [.rsl 4 (List.map Cond.enc d),I e] [] (λr=>I r) r:=by
 refine Qb func68 Z Z Z ?_;refine G0 8 Z (Lm Z (Go 10 Z (Cn Z h (λq h=>?_) (λq h=>?_))))
 .exact Gc 7 Z (Rt h 4 [])
 refine Gc 8 Z (Bd h λf s h=>?_);refine Ct f [] [] (λf=>[(5,I f)]) Ze Zf ?_ (λenv H g=>?_)
 .refine G0 1 Z ?_;refine Lp [] [0,1] (λi=>[(5,I i.1),(6,I i.2)]) Ze s Zf (Lr []) λi w a k=>?_;refine G0 2 Z (Bd a λj b a=>?_);refine Ct j [] [0,1,5,6] (λj=>[(18,.bool j)]) Ze Zf ?_ (λenv H g=>?_)
  .refine G0 3 Z (Lm Z (Go 2 Z (Is 15 b Z (λl b=>?_) (λl b=>?_))))
   .exact Go 4 Z (Cl b [])
   .exact Go 4 Z (Cl b [])
  refine Gx 1 Z (Ef g (QW Z a (λm a=>?_) (λm a=>?_)))
  .refine Gc 2 Z (Qh a ?_);obtain rfl:=Oj k a;exact Gx 1 Z (QC (Lr []))
  exact Gc 8 Z (Bd a λt p a=>IzE p (Y8 t) Z (Go 4 Z (Cz [] a (c _ _) Z λx u a=>Go 10 Z (Qg a (Lr [])))))
 exact Gx 1 Z (Ef g (Gc 7 Z (Rt h 4 [])))
def F_l:Nat->(List Cond)->Int->Option Int
  |0=>λ_ _=>none
  |n+1=>B_l (F_l n) n
theorem k_l(n:Nat):∀(a:List Cond) (b:Int) (r:Int),F_l n a b=some r->Csm prog 68 [.rsl 4 (List.map Cond.enc a),I b] [] (λr=>I r) r:=by
  induction n with
  |zero=>intro a b r h;cases h
  |succ n ih=>intro a b r h;exact QaQ _ ih n a b r h
def F_hu(n:Nat)(b:List Step)(c:Int)(rec212:(List Step)->Int->Option Int)(a:Int×Int):Option (Ctl (Int×Int) Int):=
  ((bif decide (a.2<(b.length:Int))then some (decide (a.1<500))else some false):Option Bool).bind λd=>(bif d then(idx b a.2).bind λe=>(F_l n [e.Cond] 0).bind λf=>(idx b a.2).bind λg=>(rec212 g.Then (IntKind.i64.wrap (c+1))).bind λh=>(idx b a.2).bind λi=>(rec212 i.Else (IntKind.i64.wrap (c+1))).bind λj=>some (.cont (IntKind.i64.wrap ((IntKind.i64.wrap ((IntKind.i64.wrap (a.1+f))+h))+j),IntKind.i64.wrap (a.2+1)))else some (.done a.1))
def B_o(rec212:(List Step)->Int->Option Int)(n:Nat)(a:List Step)(b:Int):Option Int:=
  (bif decide (20<b)then some 500 else(iter (F_hu n a b rec212) n ((a.length:Int),0):Option Int).bind λc=>some c)
theorem QaP(rec212:(List Step)->Int->Option Int)(g:∀(j:List Step) (k:Int) (r:Int),rec212 j k=some r->Csm prog 38 [.rsl 8 (List.map Step.enc j),I k] [] (λr=>I r) r)(n:Nat)(j:List Step)(k:Int)(r:Int)(h:B_o rec212 n j k=some r):
    Csm prog 38 [.rsl 8 (List.map Step.enc j),I k] [] (λr=>I r) r:=by
 refine Qb func38 Z Z Z ?_;refine G0 8 Z (Lm Z (Go 10 Z (Cn Z h (λB h=>?_) (λB h=>?_))))
 .exact Gc 7 Z (Rt h 4 [])
 refine Gc 8 Z (Bd h λl E h=>?_);refine Ct l [] [] (λl=>[(5,I l)]) Ze Zf ?_ (λenv H m=>?_)
 .refine G0 1 Z ?_;refine Lp [] [0,1] (λp=>[(5,I p.1),(6,I p.2)]) Ze E Zf (Lr []) λp L a s=>?_;refine G0 2 Z (Bd a λq i a=>?_);refine Ct q [] [0,1,5,6] (λq=>[(18,.bool q)]) Ze Zf ?_ (λenv H m=>?_)
  .refine G0 3 Z (Lm Z (Go 2 Z (Is 15 i Z (λt i=>?_) (λt i=>?_))))
   .exact Go 4 Z (Cl i [])
   .exact Go 4 Z (Cl i [])
  refine Gx 1 Z (Ef m (QW Z a (λu a=>?_) (λu a=>?_)))
  .refine Gc 2 Z (Qh a ?_);obtain rfl:=Oj s a;exact Gx 1 Z (QC (Lr []))
  refine Gc 4 Z (DSs 26 Z (D 3 Z ?_));obtain⟨b,w,a⟩:=Yy a;refine DS.v (x:=(.rp [I b.Kind,I b.By,I b.Cond.Kind,I b.Cond.Var,I b.Cond.N,.rsl 4 (List.map Cond.enc b.Cond.Parts),.rsl 8 (List.map Step.enc b.Then),.rsl 8 (List.map Step.enc b.Else)])) (Qfd (e:=Step.enc) w (Ye b) runUnderlying45 sizeOf144) ?_;refine D 2 Z ?_;refine DS.wo (x:=.rsl 4 (List.map Cond.enc [b.Cond])) ?_ ?_
  .refine vH (QaH (xs:=[.tmp 26]) (es:=[Cond.c b.Cond]) Qo8 Z Z Z Z Z ⟨Z,trivial⟩ Z Z) ?_;refine QmQ (x:=(.rsl 4 (List.map Cond.enc [b.Cond]))) (H:=[]) (by simp[Y8]) Z ?_;exact Wp
  refine Dz [] a (k_l _ _ _) Z λM F a=>D 3 Z ?_;obtain⟨d,y,a⟩:=Yy a;refine DS.v (x:=(.rp [I d.Kind,I d.By,I d.Cond.Kind,I d.Cond.Var,I d.Cond.N,.rsl 4 (List.map Cond.enc d.Cond.Parts),.rsl 8 (List.map Step.enc d.Then),.rsl 8 (List.map Step.enc d.Else)])) (Qfd (e:=Step.enc) y (Ye d) runUnderlying45 sizeOf144) ?_;refine D 4 Z ?_;refine Dz [] a (g _ _) Z λO G a=>D 3 Z ?_;obtain⟨f,z,a⟩:=Yy a;refine DS.v (x:=(.rp [I f.Kind,I f.By,I f.Cond.Kind,I f.Cond.Var,I f.Cond.N,.rsl 4 (List.map Cond.enc f.Cond.Parts),.rsl 8 (List.map Step.enc f.Then),.rsl 8 (List.map Step.enc f.Else)])) (Qfd (e:=Step.enc) z (Ye f) runUnderlying45 sizeOf144) ?_;refine D 4 Z ?_;exact Dz [] a (g _ _) Z λP J a=>Eh Z (Go 10 Z (Qg a (Lr [])))
 exact Gx 1 Z (Ef m (Gc 7 Z (Rt h 4 [])))
def F_o:Nat->(List Step)->Int->Option Int
  |0=>λ_ _=>none
  |n+1=>B_o (F_o n) n
theorem k_o(n:Nat):∀(a:List Step) (b:Int) (r:Int),F_o n a b=some r->Csm prog 38 [.rsl 8 (List.map Step.enc a),I b] [] (λr=>I r) r:=by
  induction n with
  |zero=>intro a b r h;cases h
  |succ n ih=>intro a b r h;exact QaP _ ih n a b r h
def F_hb(n:Nat)(b:Course)(a:Int):Option (Ctl Int (Ctl Unit Bool)):=
  (bif decide (a<(b.Distances.length:Int))then((idx b.Distances a).bind λc=>(F_n n c.Route 0).bind λd=>(bif decide (24<d)then some true else(idx b.Distances a).bind λe=>(bif decide (12<(e.Cutoffs.length:Int))then some true else(idx b.Distances a).bind λf=>some (decide (60<(f.Name.length:Int))))):Option Bool).bind λg=>(bif g then some (.done (.done false))else some (.cont (IntKind.i64.wrap (a+1))))else some (.done (.cont ())))
def F_jw(n:Nat)(b:Course)(a:Int):Option (Ctl Int (Ctl Unit Bool)):=
  (bif decide (a<(b.Mats.length:Int))then(idx b.Mats a).bind λc=>(bif decide (60<(c.Name.length:Int))then some (.done (.done false))else some (.cont (IntKind.i64.wrap (a+1))))else some (.done (.cont ())))
def F_al(n:Nat)(a:Course):Option Bool:=
  (iter (F_hb n a) n 0:Option (Ctl Unit Bool)).bind λd=>match d with|.cont b=>((iter (F_jw n a) n 0:Option (Ctl Unit Bool)).bind λe=>match e with|.cont c=>(((bif decide (12<(a.Mats.length:Int))then some true else(bif decide (30<(a.Legs.length:Int))then some true else(bif decide (4<(a.Distances.length:Int))then some true else(bif decide (6<(a.Waves.length:Int))then some true else(bif decide (6<(a.Offences.length:Int))then some true else(bif decide (6<(a.Categories.length:Int))then some true else(bif decide (6<(a.Prizes.length:Int))then some true else some (decide (60<(a.Name.length:Int)))))))))):Option Bool).bind λf=>(bif f then some false else(F_o n a.Ties 0).bind λg=>some (decide (g<=100))))|.done c=>some c)|.done b=>some b
theorem k_al(n:Nat)(s:Course)(r:Bool)(h:F_al n s=some r):
    Csm prog 15 [.agg (Course.c s)] [] (λr=>.bool r) r:=by
 refine Qb func15 Z Z Z ?_;refine G0 12 Z (Bd h λT V h=>?_);refine YH (b:=T) [0] [1] Ze Ze Zf ?_ (λab env H i g=>?_)
 .refine G0 1 Z ?_;refine Lp [0] [1] (λp=>[(3,I p)]) Ze V Zf (Lr [0]) λp af e j=>?_;refine G0 6 Z (Lm Z (Go 3 Z (QW Z e (λt e=>?_) (λt e=>?_))))
  .refine Gc 2 Z (Qh e ?_);obtain rfl:=Oj j e;exact Gx 1 Z (Qn Z (Lr [0]))
  refine Gc 5 Z (Bd e λk d e=>?_);refine Ct k [0] [1,3] (λk=>[(39,.bool k)]) Ze Zf ?_ (λenv H g=>?_)
  .refine G0 4 Z (Bd d λag u d=>Iz u Z (Go 2 Z (Cz [] d (k_n _ _ _) Z λah ac d=>Go 2 Z (Is 20 d Z (λw d=>?_) (λw d=>?_)))))
   .exact Go 20 Z (Cl d [0])
   .refine Go 3 Z (Bd d λai x d=>Iz x Z (Go 2 Z (Lm Z (Go 3 Z (Is 30 d Z (λy d=>?_) (λy d=>?_))))))
    .exact Go 10 Z (Cl d [0])
    .refine Go 3 Z (Bd d λW z d=>Iz z Z (Go 2 Z ?_));refine vX (I (W.Name.length:Int)) (YO Z Z runUnderlying9 Z) ?_ (gT Z);exact Go 3 Z (Cl d [0])
  refine Gx 1 Z (Ef g (Cn Z e (λB e=>?_) (λB e=>?_)))
  .refine Gc 8 Z (Qm e ?_);obtain rfl:=Oj j e;exact Gx 1 Z (Qi (Gx 1 Z (Rt h 2 [])))
  exact Gc 8 Z (Qg e (Lr [0]))
 subst i;refine Gx 1 Z (Ef g (Gc 6 Z (Bd h λX Y h=>?_)));refine YH (b:=X) [0] [1] Ze Ze Zf ?_ (λad env H i g=>?_)
 .refine G0 1 Z ?_;refine Lp [0] [1] (λq=>[(4,I q)]) Ze Y Zf (Lr [0]) λq aj f l=>?_;refine G0 6 Z (Lm Z (Go 3 Z (QW Z f (λE f=>?_) (λE f=>?_))))
  .refine Gc 2 Z (Qh f ?_);obtain rfl:=Oj l f;exact Gx 1 Z (Qn Z (Lr [0]))
  refine Gc 9 Z (Bd f λaa F f=>Iz F Z (Go 2 Z ?_));refine vX (I (aa.Name.length:Int)) (YO Z Z runUnderlying9 Z) ?_;refine Go 3 Z (Cn Z f (λG f=>?_) (λG f=>?_))
  .refine Gc 8 Z (Qm f ?_);obtain rfl:=Oj l f;exact Gx 1 Z (Qi (Gx 1 Z (Rt h 2 [])))
  exact Gc 8 Z (Qg f (Lr [0]))
 subst i;refine Gx 1 Z (Ef g (Gc 2 Z (Bd h λm a h=>?_)));refine Ct m [0] [1] (λm=>[(100,.bool m)]) Ze Zf ?_ (λenv H g=>?_)
 .refine G0 3 Z (Lm Z (Go 2 Z (Is 59 a Z (λJ a=>?_) (λJ a=>?_))))
  .exact Go 42 Z (Cl a [0])
  .refine Go 2 Z (Lm Z (Go 3 Z (Is 65 a Z (λL a=>?_) (λL a=>?_))))
   .exact Go 36 Z (Cl a [0])
   .refine Go 2 Z (Lm Z (Go 3 Z (Is 71 a Z (λM a=>?_) (λM a=>?_))))
    .exact Go 30 Z (Cl a [0])
    .refine Go 2 Z (Lm Z (Go 3 Z (Is 77 a Z (λN a=>?_) (λN a=>?_))))
     .exact Go 24 Z (Cl a [0])
     .refine Go 2 Z (Lm Z (Go 3 Z (Is 83 a Z (λO a=>?_) (λO a=>?_))))
      .exact Go 18 Z (Cl a [0])
      .refine Go 2 Z (Lm Z (Go 3 Z (Is 89 a Z (λP a=>?_) (λP a=>?_))))
       .exact Go 12 Z (Cl a [0])
       .refine Go 2 Z (Lm Z (Go 3 Z (Is 95 a Z (λQ a=>?_) (λQ a=>?_))))
        .exact Go 6 Z (Cl a [0])
        .refine Go 2 Z ?_;refine vX (I (s.Name.length:Int)) (YO Z Z runUnderlying9 Z) ?_ (gT Z);exact Go 3 Z (Cl a [0])
 refine Gx 1 Z (Ef g (Cn Z h (λR h=>?_) (λR h=>?_)))
 .exact Gc 7 Z (Rt h 2 [])
 exact Gc 6 Z (Cz [] h (k_o _ _ _) Z λak ae h=>Go 5 Z (Rt h 2 []))
def F_ls(n:Nat)(b:Runner)(a:Int):Option (Ctl Int (Ctl Unit (Ctl Int (Ctl Unit Bool)))):=
  (bif decide (a<(b.Worlds.length:Int))then(idx b.Worlds a).bind λc=>(bif decide (4<(c.length:Int))then some (.done (.done (.done (.done false))))else some (.cont (IntKind.i64.wrap (a+1))))else some (.done (.cont ())))
def F_kp(n:Nat)(d:Field)(a:Int):Option (Ctl Int (Ctl Unit Bool)):=
  (bif decide (a<(d.Runners.length:Int))then(idx d.Runners a).bind λb=>((bif decide (5<(b.Keys.length:Int))then some true else some (decide (4<(b.Worlds.length:Int)))):Option Bool).bind λe=>(bif e then some (.done (.done false))else(iter (F_ls n b) n 0:Option (Ctl Unit (Ctl Int (Ctl Unit Bool)))).bind λf=>match f with|.cont c=>(some (.cont (IntKind.i64.wrap (a+1))))|.done c=>some c)else some (.done (.cont ())))
def F_jl(n:Nat)(b:Field)(a:Int):Option (Ctl Int (Ctl Unit Bool)):=
  (bif decide (a<(b.Clocks.Far.length:Int))then(idx b.Clocks.Far a).bind λc=>(bif decide (8<(c.length:Int))then some (.done (.done false))else some (.cont (IntKind.i64.wrap (a+1))))else some (.done (.cont ())))
def F_dc(n:Nat)(a:Field):Option Bool:=
  (iter (F_kp n a) n 0:Option (Ctl Unit Bool)).bind λd=>match d with|.cont b=>((iter (F_jl n a) n 0:Option (Ctl Unit Bool)).bind λe=>match e with|.cont c=>(((bif decide ((a.Runners.length:Int)<=6)then(bif decide ((a.Pairs.length:Int)<=3)then(bif decide ((a.Clocks.Segments.length:Int)<=4)then some (decide ((a.Clocks.Far.length:Int)<=6))else some false)else some false)else some false):Option Bool).bind λf=>some f)|.done c=>some c)|.done b=>some b
theorem k_dc(n:Nat)(P:Field)(r:Bool)(h:F_dc n P=some r):
    Csm prog 11 [.agg (Field.c P)] [] (λr=>.bool r) r:=by
 refine Qb func11 Z Z Z ?_;refine G0 12 Z (Bd h λQ R h=>?_);refine YH (b:=Q) [0] [1] Ze Ze Zf ?_ (λY env H i g=>?_)
 .refine G0 1 Z ?_;refine Lp [0] [1] (λt=>[(3,I t)]) Ze R Zf (Lr [0]) λt ac a k=>?_;refine G0 6 Z (Lm Z (Go 3 Z (QW Z a (λx a=>?_) (λx a=>?_))))
  .refine Gc 2 Z (Qh a ?_);obtain rfl:=Oj k a;exact Gx 1 Z (Qn Z (Lr [0]))
  refine Gc 9 Z (Bd a λad y a=>Iz y Z (Go 7 Z (Bd a λl j a=>?_)));refine Ct l [0,1] [1,3,4] (λl=>[(28,.bool l)]) Ze Zf ?_ (λenv H g=>?_)
  .refine G0 3 Z (Lm Z (Go 2 Z (Is 23 j Z (λz j=>?_) (λz j=>?_))))
   .exact Go 6 Z (Cl j [0,1])
   .exact Go 2 Z (Lm Z (Go 3 Z (Cl j [0,1])))
  refine Gx 1 Z (Ef g (Cn Z a (λB a=>?_) (λB a=>?_)))
  .refine Gc 9 Z (Qm a ?_);obtain rfl:=Oj k a;exact Gx 1 Z (Qi (Gx 1 Z (Rt h 2 [])))
  refine Gc 7 Z (Bd a λT V a=>?_);refine YH (b:=T) [0] [1,3] Ze Ze Zf ?_ (λaa env H i g=>?_)
  .refine G0 1 Z ?_;refine Lp [0,1] [1,3,4] (λu=>[(5,I u)]) Ze V Zf (Lr [0,1]) λu ae d m=>?_;refine G0 6 Z (Lm Z (Go 3 Z (QW Z d (λE d=>?_) (λE d=>?_))))
   .refine Gc 2 Z (Qh d ?_);obtain rfl:=Oj m d;exact Gx 1 Z (Qn Z (Lr [0]))
   refine Gc 9 Z (Bd d λaf F d=>Iz F Z (Go 1 Z (Lm Z (Go 3 Z (Cn Z d (λG d=>?_) (λG d=>?_))))))
   .refine Gc 8 Z (Qm d ?_);obtain rfl:=Oj m d;refine Gx 1 Z (Qi (Gx 2 Z (Qm a ?_)));obtain rfl:=Oj k a;exact Gx 1 Z (Qi (Gx 1 Z (Rt h 2 [])))
   exact Gc 8 Z (Qg d (Lr [0,1]))
  subst i;exact Gx 2 Z (Ef g (Gc 5 Z (Qg a (Lr [0]))))
 subst i;refine Gx 1 Z (Ef g (Gc 6 Z (Bd h λW X h=>?_)));refine YH (b:=W) [0] [1] Ze Ze Zf ?_ (λab env H i g=>?_)
 .refine G0 1 Z ?_;refine Lp [0] [1] (λw=>[(6,I w)]) Ze X Zf (Lr [0]) λw ag e p=>?_;refine G0 7 Z (Lm Z (Go 3 Z (QW Z e (λJ e=>?_) (λJ e=>?_))))
  .refine Gc 2 Z (Qh e ?_);obtain rfl:=Oj p e;exact Gx 1 Z (Qn Z (Lr [0]))
  refine Gc 10 Z (Bd e λah L e=>Iz L Z (Go 1 Z (Lm Z (Go 3 Z (Cn Z e (λM e=>?_) (λM e=>?_))))))
  .refine Gc 8 Z (Qm e ?_);obtain rfl:=Oj p e;exact Gx 1 Z (Qi (Gx 1 Z (Rt h 2 [])))
  exact Gc 8 Z (Qg e (Lr [0]))
 subst i;refine Gx 1 Z (Ef g (Gc 1 Z (Bd h λq f h=>?_)));refine Ct q [] [] (λq=>[(2,.bool q)]) Ze Zf ?_ (λenv H g=>?_)
 .refine G0 3 Z (Lm Z (Go 2 Z (Is 63 f Z (λN f=>?_) (λN f=>?_))))
  .refine Go 2 Z (Lm Z (Go 3 Z (Is 69 f Z (λO f=>?_) (λO f=>?_))))
   .refine Go 3 Z (Lm Z (Go 3 Z (Is 76 f Z (λs f=>?_) (λs f=>?_))))
    .exact Go 3 Z (Lm Z (Go 4 Z (Cl f [])))
    .exact Go 8 Z (Cl f [])
   .exact Go 15 Z (Cl f [])
  .exact Go 21 Z (Cl f [])
 exact Gx 1 Z (Ef g (Gc 1 Z (Rt h 2 [])))
def F_cn(n:Nat)(a:History):Option Bool:=
  ((bif decide ((a.Offsets.length:Int)<=20)then some (decide ((a.Choices.length:Int)<=20))else some false):Option Bool).bind λb=>some b
theorem k_cn(n:Nat)(d:History)(r:Bool)(h:F_cn n d=some r):
    Csm prog 21 [.agg (History.c d)] [] (λr=>.bool r) r:=by
 refine Qb func21 Z Z Z ?_;refine G0 7 Z (Bd h λb a h=>?_);refine Ct b [] [] (λb=>[(2,.bool b)]) Ze Zf ?_ (λenv H e=>?_)
 .refine G0 3 Z (Lm Z (Go 2 Z (Is 7 a Z (λf a=>?_) (λf a=>?_))))
  .exact Go 2 Z (Lm Z (Go 4 Z (Cl a [])))
  .exact Go 7 Z (Cl a [])
 exact Gx 1 Z (Ef e (Gc 1 Z (Rt h 2 [])))
def F_dd(n:Nat)(c:List Part)(d:Int)(rec220:(List Part)->Int->Option Int)(a:Int×Int):Option (Ctl (Int×Int) Int):=
  ((bif decide (a.2<(c.length:Int))then some (decide (0<d))else some false):Option Bool).bind λe=>(bif e then(idx c a.2).bind λf=>((bif ((f.Parts.length:Int) != 0)then(idx c a.2).bind λg=>(rec220 g.Parts (IntKind.i64.wrap (d-1))).bind λb=>some (if a.1<IntKind.i64.wrap (1+b)then IntKind.i64.wrap (1+b)else a.1)else some a.1):Option Int).bind λh=>some (.cont (h,IntKind.i64.wrap (a.2+1)))else some (.done a.1))
def B_q(rec220:(List Part)->Int->Option Int)(n:Nat)(b:List Part)(c:Int):Option Int:=
  (iter (F_dd n b c rec220) n (0,0):Option Int).bind λa=>some a
theorem QaT(rec220:(List Part)->Int->Option Int)(f:∀(g:List Part) (i:Int) (r:Int),rec220 g i=some r->Csm prog 154 [.rsl 3 (List.map Part.enc g),I i] [] (λr=>I r) r)(n:Nat)(g:List Part)(i:Int)(r:Int)(h:B_q rec220 n g i=some r):
    Csm prog 154 [.rsl 3 (List.map Part.enc g),I i] [] (λr=>I r) r:=by
 refine Qb func154 Z Z Z ?_;refine G0 16 Z (Bd h λj x h=>?_);refine Ct j [] [] (λj=>[(5,I j)]) Ze Zf ?_ (λenv H c=>?_)
 .refine G0 1 Z ?_;refine Lp [] [0,1] (λd=>[(5,I d.1),(6,I d.2)]) Ze x Zf (Lr []) λd E a p=>?_;refine G0 2 Z (Bd a λk e a=>?_);refine Ct k [] [0,1,5,6] (λk=>[(14,.bool k)]) Ze Zf ?_ (λenv H c=>?_)
  .refine G0 3 Z (Lm Z (Go 2 Z (Is 11 e Z (λq e=>?_) (λq e=>?_))))
   .exact Go 4 Z (Cl e [])
   .exact Go 4 Z (Cl e [])
  refine Gx 1 Z (Ef c (QW Z a (λs a=>?_) (λs a=>?_)))
  .refine Gc 2 Z (Qh a ?_);obtain rfl:=Oj p a;exact Gx 1 Z (QC (Lr []))
  refine Gc 8 Z (Bd a λy t a=>IzE t (Q8 y) Z (Go 2 Z (Lm Z (Go 3 Z (Bd a λl b a=>?_)))));refine Ct l [] [0,1,6] (λl=>[(5,I l)]) Ze Zf ?_ (λenv H c=>?_)
  .refine G0 0 Z (Cn Z b (λu b=>?_) (λu b=>?_))
   .refine Gc 4 Z (Bd b λz w b=>IzE w (Q8 z) Z (Go 4 Z (Cz [] b (f _ _) Z λm B b=>Go 1 Z ?_)));refine vX (I (if d.1<IntKind.i64.wrap (1+m)then IntKind.i64.wrap (1+m)else d.1)) (OpV.max Z Z Z Z) ?_;exact Go 2 Z (Cl b [])
   exact Gc 1 Z (Cl b [])
  exact Gx 2 Z (Ef c (Gc 5 Z (Qg a (Lr []))))
 exact Gx 1 Z (Ef c (Gc 7 Z (Rt h 4 [])))
def F_q:Nat->(List Part)->Int->Option Int
  |0=>λ_ _=>none
  |n+1=>B_q (F_q n) n
theorem k_q(n:Nat):∀(a:List Part) (b:Int) (r:Int),F_q n a b=some r->Csm prog 154 [.rsl 3 (List.map Part.enc a),I b] [] (λr=>I r) r:=by
  induction n with
  |zero=>intro a b r h;cases h
  |succ n ih=>intro a b r h;exact QaT _ ih n a b r h
def F_hk(n:Nat)(b:List Part)(rec221:(List Part)->Option Int)(a:Int×Int):Option (Ctl (Int×Int) Int):=
  ((bif decide (a.2<(b.length:Int))then some (decide (a.1<=256))else some false):Option Bool).bind λc=>(bif c then(idx b a.2).bind λd=>(rec221 d.Parts).bind λe=>some (.cont (IntKind.i64.wrap (a.1+e),IntKind.i64.wrap (a.2+1)))else some (.done a.1))
def B_x(rec221:(List Part)->Option Int)(n:Nat)(b:List Part):Option Int:=
  (iter (F_hk n b rec221) n ((b.length:Int),0):Option Int).bind λa=>some (if 257<a then 257 else a)
theorem QaU(rec221:(List Part)->Option Int)(d:∀(e:List Part) (r:Int),rec221 e=some r->Csm prog 155 [.rsl 3 (List.map Part.enc e)] [] (λr=>I r) r)(n:Nat)(e:List Part)(r:Int)(h:B_x rec221 n e=some r):
    Csm prog 155 [.rsl 3 (List.map Part.enc e)] [] (λr=>I r) r:=by
 refine Qb func155 Z Z Z ?_;refine G0 8 Z (Lm Z (Go 9 Z (Bd h λb p h=>?_)));refine Ct b [] [] (λb=>[(3,I b)]) Ze Zf ?_ (λenv H f=>?_)
 .refine G0 1 Z ?_;refine Lp [] [0] (λg=>[(3,I g.1),(4,I g.2)]) Ze p Zf (Lr []) λg t a j=>?_;refine G0 2 Z (Bd a λi c a=>?_);refine Ct i [] [0,3,4] (λi=>[(14,.bool i)]) Ze Zf ?_ (λenv H f=>?_)
  .refine G0 3 Z (Lm Z (Go 2 Z (Is 11 c Z (λk c=>?_) (λk c=>?_))))
   .exact Go 4 Z (Cl c [])
   .exact Go 4 Z (Cl c [])
  refine Gx 1 Z (Ef f (QW Z a (λl a=>?_) (λl a=>?_)))
  .refine Gc 2 Z (Qh a ?_);obtain rfl:=Oj j a;exact Gx 1 Z (QC (Lr []))
  exact Gc 8 Z (Bd a λq m a=>IzE m (Q8 q) Z (Go 2 Z (Cz [] a (d _) Z λu s a=>Go 10 Z (Qg a (Lr [])))))
 refine Gx 1 Z (Ef f (Gc 3 Z ?_));refine vX (I (if 257<b then 257 else b)) (OpV.min Z Z Z Z) ?_;exact Go 4 Z (Rt h 2 [])
def F_x:Nat->(List Part)->Option Int
  |0=>λ_=>none
  |n+1=>B_x (F_x n) n
theorem k_x(n:Nat):∀(a:List Part) (r:Int),F_x n a=some r->Csm prog 155 [.rsl 3 (List.map Part.enc a)] [] (λr=>I r) r:=by
  induction n with
  |zero=>intro a r h;cases h
  |succ n ih=>intro a r h;exact QaU _ ih n a r h
def F_ic(n:Nat)(c:Course)(a:Int):Option (Ctl Int (Ctl Unit Bool)):=
  (bif decide (a<(c.Distances.length:Int))then(idx c.Distances a).bind λb=>((bif decide (64<(b.Cutoffs.length:Int))then some true else(F_q n b.Route 17).bind λd=>(bif decide (16<d)then some true else(F_x n b.Route).bind λe=>some (decide (256<e)))):Option Bool).bind λf=>(bif f then some (.done (.done false))else some (.cont (IntKind.i64.wrap (a+1))))else some (.done (.cont ())))
def F_ar(n:Nat)(a:Course):Option Bool:=
  ((bif decide (40<(a.Mats.length:Int))then some true else(bif decide (512<(a.Legs.length:Int))then some true else(bif decide (8<(a.Distances.length:Int))then some true else(bif decide (32<(a.Waves.length:Int))then some true else(bif decide (32<(a.Offences.length:Int))then some true else(bif decide (32<(a.Categories.length:Int))then some true else some (decide (32<(a.Prizes.length:Int))))))))):Option Bool).bind λd=>(bif d then some false else(iter (F_ic n a) n 0:Option (Ctl Unit Bool)).bind λc=>match c with|.cont b=>(some true)|.done b=>some b)
theorem k_ar(n:Nat)(B:Course)(r:Bool)(h:F_ar n B=some r):
    Csm prog 107 [.agg (Course.c B)] [] (λr=>.bool r) r:=by
 refine Qb func107 Z Z Z ?_;refine G0 8 Z (Bd h λk a h=>?_);refine Ct k [0] [1] (λk=>[(44,.bool k)]) Ze Zf ?_ (λenv H f=>?_)
 .refine G0 3 Z (Lm Z (Go 2 Z (Is 9 a Z (λE a=>?_) (λE a=>?_))))
  .exact Go 36 Z (Cl a [0])
  .refine Go 2 Z (Lm Z (Go 3 Z (Is 15 a Z (λl a=>?_) (λl a=>?_))))
   .exact Go 30 Z (Cl a [0])
   .refine Go 2 Z (Lm Z (Go 3 Z (Is 21 a Z (λm a=>?_) (λm a=>?_))))
    .exact Go 24 Z (Cl a [0])
    .refine Go 2 Z (Lm Z (Go 3 Z (Is 27 a Z (λp a=>?_) (λp a=>?_))))
     .exact Go 18 Z (Cl a [0])
     .refine Go 2 Z (Lm Z (Go 3 Z (Is 33 a Z (λq a=>?_) (λq a=>?_))))
      .exact Go 12 Z (Cl a [0])
      .refine Go 2 Z (Lm Z (Go 3 Z (Is 39 a Z (λs a=>?_) (λs a=>?_))))
       .exact Go 6 Z (Cl a [0])
       .exact Go 2 Z (Lm Z (Go 3 Z (Cl a [0])))
 refine Gx 1 Z (Ef f (Cn Z h (λt h=>?_) (λt h=>?_)))
 .exact Gc 7 Z (Rt h 2 [])
 refine Gc 8 Z (Bd h λF G h=>?_);refine YH (b:=F) [] [] Ze Ze Zf ?_ (λL env H J f=>?_)
 .refine G0 1 Z ?_;refine Lp [0] [1] (λj=>[(3,I j)]) Ze G Zf (Lr [0]) λj O d g=>?_;refine G0 6 Z (Lm Z (Go 3 Z (QW Z d (λu d=>?_) (λu d=>?_))))
  .refine Gc 2 Z (Qh d ?_);obtain rfl:=Oj g d;exact Gx 1 Z (Qn Z (Lr []))
  refine Gc 9 Z (Bd d λP w d=>Iz w Z (Go 6 Z (Bd d λi e d=>?_)));refine Ct i [0] [1,3] (λi=>[(72,.bool i)]) Ze Zf ?_ (λenv H f=>?_)
  .refine G0 3 Z (Lm Z (Go 2 Z (Is 61 e Z (λx e=>?_) (λx e=>?_))))
   .exact Go 12 Z (Cl e [0])
   .refine Go 2 Z (Cz [] e (k_q _ _ _) Z λQ M e=>Go 3 Z (Is 67 e Z (λy e=>?_) (λy e=>?_)))
    .exact Go 6 Z (Cl e [0])
    .exact Go 2 Z (Cz [] e (k_x _ _) Z λR N e=>Go 3 Z (Cl e [0]))
  refine Gx 1 Z (Ef f (Cn Z d (λz d=>?_) (λz d=>?_)))
  .refine Gc 8 Z (Qm d ?_);obtain rfl:=Oj g d;exact Gx 1 Z (Qi (Gx 1 Z (Rt h 2 [])))
  exact Gc 8 Z (Qg d (Lr [0]))
 subst J;exact Gx 1 Z (Ef f (Gc 6 Z (Rt h 2 [])))
def F_cx(n:Nat)(a:List UInt8):Option Bool:=
  ((bif (a==[99,111,117,114,115,101])then some (a==[99,111,117,114,115,101])else(bif (a==[109,97,116,115])then some (a==[109,97,116,115])else(bif (a==[115,116,97,114,116])then some (a==[115,116,97,114,116])else(bif (a==[112,97,115,115])then some (a==[112,97,115,115])else(bif (a==[101,110,100])then some (a==[101,110,100])else(bif (a==[108,101,103])then some (a==[108,101,103])else(bif (a==[116,111])then some (a==[116,111])else(bif (a==[100,105,115,116,97,110,99,101])then some (a==[100,105,115,116,97,110,99,101])else(bif (a==[103,117,110])then some (a==[103,117,110])else(bif (a==[99,104,105,112])then some (a==[99,104,105,112])else(bif (a==[115,108,111,116])then some (a==[115,108,111,116])else(bif (a==[108,97,112,115])then some (a==[108,97,112,115])else(bif (a==[108,97,112])then some (a==[108,97,112])else(bif (a==[99,117,116,111,102,102])then some (a==[99,117,116,111,102,102])else(bif (a==[101,120,116,114,97])then some (a==[101,120,116,114,97])else(bif (a==[119,97,118,101])then some (a==[119,97,118,101])else(bif (a==[111,102,102,101,110,99,101])then some (a==[111,102,102,101,110,99,101])else(bif (a==[111,117,116])then some (a==[111,117,116])else(bif (a==[99,97,116,101,103,111,114,121])then some (a==[99,97,116,101,103,111,114,121])else(bif (a==[112,114,105,122,101])then some (a==[112,114,105,122,101])else(bif (a==[97,108,108])then some (a==[97,108,108])else some (a==[116,105,101,115])))))))))))))))))))))):Option Bool).bind λb=>(bif b then some true else((bif (a==[105,102])then some (a==[105,102])else(bif (a==[101,108,115,101])then some (a==[101,108,115,101])else(bif (a==[97,110,100])then some (a==[97,110,100])else(bif (a==[111,114])then some (a==[111,114])else(bif (a==[110,111,116])then some (a==[110,111,116])else(bif (a==[111,108,100,101,114])then some (a==[111,108,100,101,114])else(bif (a==[121,111,117,110,103,101,114])then some (a==[121,111,117,110,103,101,114])else(bif (a==[98,105,98])then some (a==[98,105,98])else(bif (a==[100,114,97,119])then some (a==[100,114,97,119])else(bif (a==[102,105,101,108,100])then some (a==[102,105,101,108,100])else(bif (a==[115,104,111,114,116])then some (a==[115,104,111,114,116])else(bif (a==[102,97,117,108,116,115])then some (a==[102,97,117,108,116,115])else(bif (a==[109,105,115,115,101,115])then some (a==[109,105,115,115,101,115])else(bif (a==[115,116,114,97,121,115])then some (a==[115,116,114,97,121,115])else(bif (a==[119,105,110,100,111,119])then some (a==[119,105,110,100,111,119])else(bif (a==[114,101,115,105,100,117,97,108])then some (a==[114,101,115,105,100,117,97,108])else(bif (a==[100,114,105,102,116])then some (a==[100,114,105,102,116])else(bif (a==[112,114,111,116,101,115,116])then some (a==[112,114,111,116,101,115,116])else(bif (a==[102,101,101])then some (a==[102,101,101])else some (a==[100,101,97,100,108,105,110,101])))))))))))))))))))):Option Bool).bind λc=>(bif c then some true else some false))
theorem k_cx(n:Nat)(a1:List UInt8)(r:Bool)(h:F_cx n a1=some r):
    Csm prog 230 [.str a1] [] (λr=>.bool r) r:=by
 refine Qb func230 Z Z Z ?_;refine G0 19 Z (Bd h λc a h=>?_);refine Ct c [] [3] (λc=>[(4,.bool c)]) Ze Zf ?_ (λenv H d=>?_)
 .refine G0 0 Z (Cn Z a (λf a=>?_) (λf a=>?_))
  .exact Gc 1 Z (Cl a [])
  refine Gc 6 Z (Cn Z a (λg a=>?_) (λg a=>?_))
  .exact Gc 1 Z (Cl a [])
  refine Gc 6 Z (Cn Z a (λi a=>?_) (λi a=>?_))
  .exact Gc 1 Z (Cl a [])
  refine Gc 6 Z (Cn Z a (λj a=>?_) (λj a=>?_))
  .exact Gc 1 Z (Cl a [])
  refine Gc 6 Z (Cn Z a (λk a=>?_) (λk a=>?_))
  .exact Gc 1 Z (Cl a [])
  refine Gc 6 Z (Cn Z a (λl a=>?_) (λl a=>?_))
  .exact Gc 1 Z (Cl a [])
  refine Gc 6 Z (Cn Z a (λm a=>?_) (λm a=>?_))
  .exact Gc 1 Z (Cl a [])
  refine Gc 6 Z (Cn Z a (λp a=>?_) (λp a=>?_))
  .exact Gc 1 Z (Cl a [])
  refine Gc 6 Z (Cn Z a (λq a=>?_) (λq a=>?_))
  .exact Gc 1 Z (Cl a [])
  refine Gc 6 Z (Cn Z a (λs a=>?_) (λs a=>?_))
  .exact Gc 1 Z (Cl a [])
  refine Gc 6 Z (Cn Z a (λt a=>?_) (λt a=>?_))
  .exact Gc 1 Z (Cl a [])
  refine Gc 6 Z (Cn Z a (λu a=>?_) (λu a=>?_))
  .exact Gc 1 Z (Cl a [])
  refine Gc 6 Z (Cn Z a (λw a=>?_) (λw a=>?_))
  .exact Gc 1 Z (Cl a [])
  refine Gc 6 Z (Cn Z a (λx a=>?_) (λx a=>?_))
  .exact Gc 1 Z (Cl a [])
  refine Gc 6 Z (Cn Z a (λy a=>?_) (λy a=>?_))
  .exact Gc 1 Z (Cl a [])
  refine Gc 6 Z (Cn Z a (λz a=>?_) (λz a=>?_))
  .exact Gc 1 Z (Cl a [])
  refine Gc 6 Z (Cn Z a (λB a=>?_) (λB a=>?_))
  .exact Gc 1 Z (Cl a [])
  refine Gc 6 Z (Cn Z a (λE a=>?_) (λE a=>?_))
  .exact Gc 1 Z (Cl a [])
  refine Gc 6 Z (Cn Z a (λF a=>?_) (λF a=>?_))
  .exact Gc 1 Z (Cl a [])
  refine Gc 6 Z (Cn Z a (λG a=>?_) (λG a=>?_))
  .exact Gc 1 Z (Cl a [])
  refine Gc 6 Z (Cn Z a (λJ a=>?_) (λJ a=>?_))
  .exact Gc 1 Z (Cl a [])
  exact Gc 4 Z (Cl a [])
 refine Gx 1 Z (Ef d (Cn Z h (λL h=>?_) (λL h=>?_)))
 .exact Gc 8 Z (Rt h 2 [])
 refine Gc 7 Z (Bd h λe b h=>?_);refine Ct e [] [] (λe=>[(27,.bool e)]) Ze Zf ?_ (λenv H d=>?_)
 .refine G0 0 Z (Cn Z b (λM b=>?_) (λM b=>?_))
  .exact Gc 1 Z (Cl b [])
  refine Gc 6 Z (Cn Z b (λN b=>?_) (λN b=>?_))
  .exact Gc 1 Z (Cl b [])
  refine Gc 6 Z (Cn Z b (λO b=>?_) (λO b=>?_))
  .exact Gc 1 Z (Cl b [])
  refine Gc 6 Z (Cn Z b (λP b=>?_) (λP b=>?_))
  .exact Gc 1 Z (Cl b [])
  refine Gc 6 Z (Cn Z b (λQ b=>?_) (λQ b=>?_))
  .exact Gc 1 Z (Cl b [])
  refine Gc 6 Z (Cn Z b (λR b=>?_) (λR b=>?_))
  .exact Gc 1 Z (Cl b [])
  refine Gc 6 Z (Cn Z b (λT b=>?_) (λT b=>?_))
  .exact Gc 1 Z (Cl b [])
  refine Gc 6 Z (Cn Z b (λV b=>?_) (λV b=>?_))
  .exact Gc 1 Z (Cl b [])
  refine Gc 6 Z (Cn Z b (λW b=>?_) (λW b=>?_))
  .exact Gc 1 Z (Cl b [])
  refine Gc 6 Z (Cn Z b (λX b=>?_) (λX b=>?_))
  .exact Gc 1 Z (Cl b [])
  refine Gc 6 Z (Cn Z b (λY b=>?_) (λY b=>?_))
  .exact Gc 1 Z (Cl b [])
  refine Gc 6 Z (Cn Z b (λaa b=>?_) (λaa b=>?_))
  .exact Gc 1 Z (Cl b [])
  refine Gc 6 Z (Cn Z b (λab b=>?_) (λab b=>?_))
  .exact Gc 1 Z (Cl b [])
  refine Gc 6 Z (Cn Z b (λac b=>?_) (λac b=>?_))
  .exact Gc 1 Z (Cl b [])
  refine Gc 6 Z (Cn Z b (λad b=>?_) (λad b=>?_))
  .exact Gc 1 Z (Cl b [])
  refine Gc 6 Z (Cn Z b (λae b=>?_) (λae b=>?_))
  .exact Gc 1 Z (Cl b [])
  refine Gc 6 Z (Cn Z b (λaf b=>?_) (λaf b=>?_))
  .exact Gc 1 Z (Cl b [])
  refine Gc 6 Z (Cn Z b (λag b=>?_) (λag b=>?_))
  .exact Gc 1 Z (Cl b [])
  refine Gc 6 Z (Cn Z b (λah b=>?_) (λah b=>?_))
  .exact Gc 1 Z (Cl b [])
  exact Gc 4 Z (Cl b [])
 refine Gx 1 Z (Ef d (Cn Z h (λai h=>?_) (λai h=>?_)))
 .exact Gc 8 Z (Rt h 2 [])
 exact Gc 9 Z (Rt h 2 [])
def F_jq(n:Nat)(b:List UInt8)(a:Int):Option (Ctl Int (Ctl Unit Bool)):=
  (bif decide (a<(b.length:Int))then((idx b a).bind λc=>(bif decide ((c.toNat:Int)<97)then(idx b a).bind λd=>(bif decide ((d.toNat:Int)<48)then(idx b a).bind λe=>some ((e.toNat:Int) != 95)else(idx b a).bind λf=>(bif decide (57<(f.toNat:Int))then(idx b a).bind λg=>some ((g.toNat:Int) != 95)else some false))else(idx b a).bind λh=>(bif decide (122<(h.toNat:Int))then(idx b a).bind λi=>(bif decide ((i.toNat:Int)<48)then(idx b a).bind λj=>some ((j.toNat:Int) != 95)else(idx b a).bind λk=>(bif decide (57<(k.toNat:Int))then(idx b a).bind λl=>some ((l.toNat:Int) != 95)else some false))else some false)):Option Bool).bind λm=>(bif m then some (.done (.done false))else some (.cont (IntKind.i64.wrap (a+1))))else some (.done (.cont ())))
def F_ay(n:Nat)(a:List UInt8):Option Bool:=
  ((bif decide ((a.length:Int)<1)then some true else(bif decide (24<(a.length:Int))then some true else(idx a 0).bind λd=>(bif decide ((d.toNat:Int)<97)then some true else(idx a 0).bind λe=>some (decide (122<(e.toNat:Int)))))):Option Bool).bind λg=>(bif g then some false else(iter (F_jq n a) n 1:Option (Ctl Unit Bool)).bind λf=>match f with|.cont b=>((F_cx n a).bind λc=>some (!c))|.done b=>some b)
theorem k_ay(n:Nat)(g:List UInt8)(r:Bool)(h:F_ay n g=some r):
    Csm prog 156 [.str g] [] (λr=>.bool r) r:=by
 refine Qb func156 Z Z Z ?_;refine G0 7 Z (Bd h λL d h=>?_);refine Ct L [] [0] (λL=>[(21,.bool L)]) Ze Zf ?_ (λenv H e=>?_)
 .refine G0 2 Z ?_;refine vX (I (g.length:Int)) (YO Z Z runUnderlying9 Z) ?_;refine Go 2 Z (Is 7 d Z (λae d=>?_) (λae d=>?_))
  .exact Go 15 Z (Cl d [])
  .refine Go 1 Z ?_;refine vX (I (g.length:Int)) (YO Z Z runUnderlying9 Z) ?_ (gT Z);refine Go 3 Z (Is 12 d Z (λaf d=>?_) (λaf d=>?_))
   .exact Go 10 Z (Cl d [])
   .refine Go 1 Z (Bd d λag M d=>?_);refine vX (.int .u8 (ag.toNat:Int)) (Q3 M runUnderlying9) ?_ (gT Z);refine Go 3 Z (Is 17 d Z (λN d=>?_) (λN d=>?_))
    .exact Go 5 Z (Cl d [])
    .refine Go 1 Z (Bd d λah O d=>?_);refine vX (.int .u8 (ah.toNat:Int)) (Q3 O runUnderlying9) ?_ (gT Z);exact Go 3 Z (Cl d [])
 refine Gx 1 Z (Ef e (Cn Z h (λP h=>?_) (λP h=>?_)))
 .exact Gc 7 Z (Rt h 2 [])
 refine Gc 8 Z (Bd h λai aj h=>?_);refine YH (b:=ai) [] [0] Ze Ze Zf ?_ (λam env H ak e=>?_)
 .refine G0 1 Z ?_;refine Lp [] [0] (λJ=>[(3,I J)]) Ze aj Zf (Lr []) λJ ao c i=>?_;refine G0 5 Z ?_;refine vX (I (g.length:Int)) (YO Z Z runUnderlying9 Z) ?_;refine Go 3 Z (QW Z c (λQ c=>?_) (λQ c=>?_))
  .refine Gc 2 Z (Qh c ?_);obtain rfl:=Oj i c;exact Gx 1 Z (Qn Z (Lr []))
  refine Gc 5 Z (Bd c λf a c=>?_);refine Ct f [] [0,3] (λf=>[(55,.bool f)]) Ze Zf ?_ (λenv H e=>?_)
  .refine G0 3 Z (Bd a λR j a=>?_);refine vX (.int .u8 (R.toNat:Int)) (Q3 j runUnderlying9) ?_;refine Go 2 Z (Is 32 a Z (λk a=>?_) (λk a=>?_))
   .refine Go 8 Z (Bd a λT l a=>?_);refine vX (.int .u8 (T.toNat:Int)) (Q3 l runUnderlying9) ?_ (gT Z);refine Go 2 Z (Is 43 a Z (λm a=>?_) (λm a=>?_))
    .refine Go 9 Z (Bd a λV p a=>?_);refine vX (.int .u8 (V.toNat:Int)) (Q3 p runUnderlying9) ?_ (gT Z);exact Go 3 Z (Cl a [])
    .refine Go 2 Z (Bd a λW q a=>?_);refine vX (.int .u8 (W.toNat:Int)) (Q3 q runUnderlying9) ?_ (gT Z);refine Go 4 Z (Is 50 a Z (λs a=>?_) (λs a=>?_))
     .refine Go 2 Z (Bd a λX t a=>?_);refine vX (.int .u8 (X.toNat:Int)) (Q3 t runUnderlying9) ?_ (gT Z);exact Go 3 Z (Cl a [])
     .exact Go 6 Z (Cl a [])
   .refine Go 2 Z (Bd a λY u a=>?_);refine vX (.int .u8 (Y.toNat:Int)) (Q3 u runUnderlying9) ?_ (gT Z);refine Go 3 Z (Is 38 a Z (λw a=>?_) (λw a=>?_))
    .refine Go 2 Z (Bd a λaa x a=>?_);refine vX (.int .u8 (aa.toNat:Int)) (Q3 x runUnderlying9) ?_ (gT Z);refine Go 2 Z (Is 43 a Z (λy a=>?_) (λy a=>?_))
     .refine Go 9 Z (Bd a λab z a=>?_);refine vX (.int .u8 (ab.toNat:Int)) (Q3 z runUnderlying9) ?_ (gT Z);exact Go 3 Z (Cl a [])
     .refine Go 2 Z (Bd a λac B a=>?_);refine vX (.int .u8 (ac.toNat:Int)) (Q3 B runUnderlying9) ?_ (gT Z);refine Go 4 Z (Is 50 a Z (λE a=>?_) (λE a=>?_))
      .refine Go 2 Z (Bd a λad F a=>?_);refine vX (.int .u8 (ad.toNat:Int)) (Q3 F runUnderlying9) ?_ (gT Z);exact Go 3 Z (Cl a [])
      .exact Go 6 Z (Cl a [])
    .exact Go 18 Z (Cl a [])
  refine Gx 1 Z (Ef e (Cn Z c (λG c=>?_) (λG c=>?_)))
  .refine Gc 8 Z (Qm c ?_);obtain rfl:=Oj i c;exact Gx 1 Z (Qi (Gx 1 Z (Rt h 2 [])))
  exact Gc 8 Z (Qg c (Lr []))
 subst ak;exact Gx 1 Z (Ef e (Gc 3 Z (Cz [] h (k_cx _ _) Z λan al h=>Go 5 Z (Rt h 2 []))))
def F_hx(n:Nat)(c:List (List UInt8))(b:Int)(a:Int):Option (Ctl Int (Ctl Unit (Ctl Int (Ctl Unit Bool)))):=
  (bif decide (a<b)then(idx c a).bind λd=>(idx c b).bind λe=>(bif (d==e)then some (.done (.done (.done (.done false))))else some (.cont (IntKind.i64.wrap (a+1))))else some (.done (.cont ())))
def F_lv(n:Nat)(c:List (List UInt8))(a:Int):Option (Ctl Int (Ctl Unit Bool)):=
  (bif decide (a<(c.length:Int))then(idx c a).bind λd=>(F_ay n d).bind λe=>(bif (!e)then some (.done (.done false))else(iter (F_hx n c a) n 0:Option (Ctl Unit (Ctl Int (Ctl Unit Bool)))).bind λf=>match f with|.cont b=>(some (.cont (IntKind.i64.wrap (a+1))))|.done b=>some b)else some (.done (.cont ())))
def F_p(n:Nat)(c:List (List UInt8)):Option Bool:=
  (iter (F_lv n c) n 0:Option (Ctl Unit Bool)).bind λb=>match b with|.cont a=>(some true)|.done a=>some a
theorem k_p(n:Nat)(u:List (List UInt8))(r:Bool)(h:F_p n u=some r):
    Csm prog 157 [.rsl 1 (List.map Jr u)] [] (λr=>.bool r) r:=by
 refine Qb func157 Z Z Z ?_;refine G0 11 Z (Bd h λw y h=>?_);refine YH (b:=w) [] [] Ze Ze Zf ?_ (λG env H e f=>?_)
 .refine G0 1 Z ?_;refine Lp [] [0] (λi=>[(3,I i)]) Ze y Zf (Lr []) λi M a d=>?_;refine G0 5 Z (Lm Z (Go 3 Z (QW Z a (λk a=>?_) (λk a=>?_))))
  .refine Gc 2 Z (Qh a ?_);obtain rfl:=Oj d a;exact Gx 1 Z (Qn Z (Lr []))
  refine Gc 9 Z (Bd a λN l a=>Iz l Z (Go 1 Z (Cz [] a (k_ay _ _) Z λO J a=>Go 3 Z (Cn Z a (λm a=>?_) (λm a=>?_)))))
  .refine Gc 9 Z (Qm a ?_);obtain rfl:=Oj d a;exact Gx 1 Z (Qi (Gx 1 Z (Rt h 2 [])))
  refine Gc 7 Z (Bd a λz B a=>?_);refine YH (b:=z) [] [0,3] Ze Ze Zf ?_ (λL env H e f=>?_)
  .refine G0 1 Z ?_;refine Lp [] [0,3] (λj=>[(4,I j)]) Ze B Zf (Lr []) λj P c g=>?_;refine G0 8 Z (QW Z c (λp c=>?_) (λp c=>?_))
   .refine Gc 2 Z (Qh c ?_);obtain rfl:=Oj g c;exact Gx 1 Z (Qn Z (Lr []))
   refine Gc 5 Z (DSs 8 Z (D 2 Z ?_));obtain⟨E,q,c⟩:=Yy c;refine DS.wo (x:=.rp [.str E]) ?_ ?_
   .exact Ix q runUnderlying235 sizeOf9 Z Wp
   refine D 3 Z ?_;obtain⟨F,s,c⟩:=Yy c;refine DS.wo (x:=.rp [.str F]) ?_ ?_
   .exact Ix s runUnderlying235 sizeOf9 Z Wp
   refine D 1 Z (Eh Z (Go 3 Z (Cn Z c (λt c=>?_) (λt c=>?_))))
   .refine Gc 8 Z (Qm c ?_);obtain rfl:=Oj g c;refine Gx 1 Z (Qi (Gx 2 Z (Qm a ?_)));obtain rfl:=Oj d a;exact Gx 1 Z (Qi (Gx 1 Z (Rt h 2 [])))
   exact Gc 8 Z (Qg c (Lr []))
  subst e;exact Gx 2 Z (Ef f (Gc 5 Z (Qg a (Lr []))))
 subst e;exact Gx 1 Z (Ef f (Gc 6 Z (Rt h 2 [])))
def F_nr(n:Nat)(b:Course)(a:(List (List UInt8))×Int):Option (Ctl ((List (List UInt8))×Int) (List (List UInt8))):=
  (bif decide (a.2<(b.Mats.length:Int))then(idx b.Mats a.2).bind λc=>(app a.1 [c.Name]).bind λd=>some (.cont (d,IntKind.i64.wrap (a.2+1)))else some (.done a.1))
def F_ne(n:Nat)(b:Course)(a:(List (List UInt8))×Int):Option (Ctl ((List (List UInt8))×Int) (List (List UInt8))):=
  (bif decide (a.2<(b.Distances.length:Int))then(idx b.Distances a.2).bind λc=>(app a.1 [c.Name]).bind λd=>some (.cont (d,IntKind.i64.wrap (a.2+1)))else some (.done a.1))
def F_ox(n:Nat)(b:Course)(a:(List (List UInt8))×Int):Option (Ctl ((List (List UInt8))×Int) (List (List UInt8))):=
  (bif decide (a.2<(b.Waves.length:Int))then(idx b.Waves a.2).bind λc=>(app a.1 [c.Name]).bind λd=>some (.cont (d,IntKind.i64.wrap (a.2+1)))else some (.done a.1))
def F_nv(n:Nat)(b:Course)(a:(List (List UInt8))×Int):Option (Ctl ((List (List UInt8))×Int) (List (List UInt8))):=
  (bif decide (a.2<(b.Offences.length:Int))then(idx b.Offences a.2).bind λc=>(app a.1 [c.Name]).bind λd=>some (.cont (d,IntKind.i64.wrap (a.2+1)))else some (.done a.1))
def F_nc(n:Nat)(b:Course)(a:(List (List UInt8))×Int):Option (Ctl ((List (List UInt8))×Int) (List (List UInt8))):=
  (bif decide (a.2<(b.Categories.length:Int))then(idx b.Categories a.2).bind λc=>(app a.1 [c.Name]).bind λd=>some (.cont (d,IntKind.i64.wrap (a.2+1)))else some (.done a.1))
def F_cy(n:Nat)(a:Course):Option Bool:=
  (iter (F_nr n a) n (([]:List (List UInt8)),0):Option (List (List UInt8))).bind λm=>(iter (F_ne n a) n (([]:List (List UInt8)),0):Option (List (List UInt8))).bind λe=>(iter (F_ox n a) n (([]:List (List UInt8)),0):Option (List (List UInt8))).bind λf=>(iter (F_nv n a) n (([]:List (List UInt8)),0):Option (List (List UInt8))).bind λg=>(iter (F_nc n a) n (([]:List (List UInt8)),0):Option (List (List UInt8))).bind λh=>((F_ay n a.Name).bind λi=>(bif i then(F_p n m).bind λj=>(bif j then(F_p n e).bind λk=>(bif k then(F_p n f).bind λb=>(bif b then(F_p n g).bind λc=>(bif c then(F_p n h).bind λd=>some d else some false)else some false)else some false)else some false)else some false):Option Bool).bind λl=>some l
theorem k_cy(n:Nat)(a1:Course)(r:Bool)(h:F_cy n a1=some r):
    Csm prog 108 [.agg (Course.c a1)] [] (λr=>.bool r) r:=by
 refine Qb func108 Z Z Z ?_;refine G0 8 Z ?_;refine vH (El (xs:=[]) (es:=List.map Jr []) Jn Z Z Z Z Z trivial Z Z) ?_;refine FE Z (Go 9 Z (Bd h λy h9 h=>?_));refine Ct y [0,1] [1] (λy=>[(3,.osl 1 0 y.length 1)]) (λy=>[(1,.row 9 1 (List.map Jr y))]) Zf ?_ (λenv H b=>?_)
 .refine G0 1 Z ?_;refine Lp [0,1] [1] (λl=>[(3,.osl 1 0 l.1.length 1),(4,I l.2)]) (λl=>[(1,.row 9 1 (List.map Jr l.1))]) h9 Zf (Lr [0,1]) λl bd d F=>?_;refine G0 6 Z (Lm Z (Go 3 Z (QW Z d (λG d=>?_) (λG d=>?_))))
  .refine Gc 2 Z (Qh d ?_);obtain rfl:=Oj F d;exact Gx 1 Z (QC (Lr [0,1]))
  refine Gc 9 Z (Bd d λai J d=>Iz J Z (Go 2 Z ?_));refine vH (El (xs:=[.tmp 27]) (es:=List.map Jr [ai.Name]) Jn Z Z Z Z Z ⟨Z,trivial⟩ Z Z) ?_;refine FE Z (Bd d λbe L d=>?_);refine vH (Qt (e:=Jr) L Jn runUnderlying235 (Yd (i:=2))) ?_;exact FE Z (Go 9 Z (Qg d (Lr [0,3])))
 refine Gx 1 Z (Ef b (Gc 2 Z ?_));refine vH (El (xs:=[]) (es:=List.map Jr []) Jn Z Z Z Z Z trivial Z Z) ?_;refine FE Z (Go 9 Z (Bd h λm aj h=>?_));refine Ct m [0,1,2] [1,3] (λm=>[(5,.osl 2 0 m.length 1)]) (λm=>[(2,.row 9 1 (List.map Jr m))]) Zf ?_ (λenv H b=>?_)
 .refine G0 1 Z ?_;refine Lp [0,1,2] [1,3] (λp=>[(5,.osl 2 0 p.1.length 1),(6,I p.2)]) (λp=>[(2,.row 9 1 (List.map Jr p.1))]) aj Zf (Lr [0,1,2]) λp bf f M=>?_;refine G0 6 Z (Lm Z (Go 3 Z (QW Z f (λN f=>?_) (λN f=>?_))))
  .refine Gc 2 Z (Qh f ?_);obtain rfl:=Oj M f;exact Gx 1 Z (QC (Lr [0,1,2]))
  refine Gc 9 Z (Bd f λak O f=>Iz O Z (Go 2 Z ?_));refine vH (El (xs:=[.tmp 44]) (es:=List.map Jr [ak.Name]) Jn Z Z Z Z Z ⟨Z,trivial⟩ Z Z) ?_;refine FE Z (Bd f λbg P f=>?_);refine vH (Qt (e:=Jr) P Jn runUnderlying235 (Yd (i:=3))) ?_;exact FE Z (Go 9 Z (Qg f (Lr [0,1,4])))
 refine Gx 1 Z (Ef b (Gc 2 Z ?_));refine vH (El (xs:=[]) (es:=List.map Jr []) Jn Z Z Z Z Z trivial Z Z) ?_;refine FE Z (Go 9 Z (Bd h λq al h=>?_));refine Ct q [0,1,2,3] [1,3,5] (λq=>[(7,.osl 3 0 q.length 1)]) (λq=>[(3,.row 9 1 (List.map Jr q))]) Zf ?_ (λenv H b=>?_)
 .refine G0 1 Z ?_;refine Lp [0,1,2,3] [1,3,5] (λs=>[(7,.osl 3 0 s.1.length 1),(8,I s.2)]) (λs=>[(3,.row 9 1 (List.map Jr s.1))]) al Zf (Lr [0,1,2,3]) λs bh g Q=>?_;refine G0 6 Z (Lm Z (Go 3 Z (QW Z g (λR g=>?_) (λR g=>?_))))
  .refine Gc 2 Z (Qh g ?_);obtain rfl:=Oj Q g;exact Gx 1 Z (QC (Lr [0,1,2,3]))
  refine Gc 9 Z (Bd g λam T g=>Iz T Z (Go 2 Z ?_));refine vH (El (xs:=[.tmp 61]) (es:=List.map Jr [am.Name]) Jn Z Z Z Z Z ⟨Z,trivial⟩ Z Z) ?_;refine FE Z (Bd g λbi V g=>?_);refine vH (Qt (e:=Jr) V Jn runUnderlying235 (Yd (i:=4))) ?_;exact FE Z (Go 9 Z (Qg g (Lr [0,1,2,5])))
 refine Gx 1 Z (Ef b (Gc 2 Z ?_));refine vH (El (xs:=[]) (es:=List.map Jr []) Jn Z Z Z Z Z trivial Z Z) ?_;refine FE Z (Go 9 Z (Bd h λt an h=>?_));refine Ct t [0,1,2,3,4] [1,3,5,7] (λt=>[(9,.osl 4 0 t.length 1)]) (λt=>[(4,.row 9 1 (List.map Jr t))]) Zf ?_ (λenv H b=>?_)
 .refine G0 1 Z ?_;refine Lp [0,1,2,3,4] [1,3,5,7] (λu=>[(9,.osl 4 0 u.1.length 1),(10,I u.2)]) (λu=>[(4,.row 9 1 (List.map Jr u.1))]) an Zf (Lr [0,1,2,3,4]) λu bj j W=>?_;refine G0 6 Z (Lm Z (Go 3 Z (QW Z j (λX j=>?_) (λX j=>?_))))
  .refine Gc 2 Z (Qh j ?_);obtain rfl:=Oj W j;exact Gx 1 Z (QC (Lr [0,1,2,3,4]))
  refine Gc 9 Z (Bd j λao Y j=>Iz Y Z (Go 2 Z ?_));refine vH (El (xs:=[.tmp 78]) (es:=List.map Jr [ao.Name]) Jn Z Z Z Z Z ⟨Z,trivial⟩ Z Z) ?_;refine FE Z (Bd j λbk aa j=>?_);refine vH (Qt (e:=Jr) aa Jn runUnderlying235 (Yd (i:=5))) ?_;exact FE Z (Go 9 Z (Qg j (Lr [0,1,2,3,6])))
 refine Gx 1 Z (Ef b (Gc 2 Z ?_));refine vH (El (xs:=[]) (es:=List.map Jr []) Jn Z Z Z Z Z trivial Z Z) ?_;refine FE Z (Go 9 Z (Bd h λw aq h=>?_));refine Ct w [0,1,2,3,4,5] [1,3,5,7,9] (λw=>[(11,.osl 5 0 w.length 1)]) (λw=>[(5,.row 9 1 (List.map Jr w))]) Zf ?_ (λenv H b=>?_)
 .refine G0 1 Z ?_;refine Lp [0,1,2,3,4,5] [1,3,5,7,9] (λx=>[(11,.osl 5 0 x.1.length 1),(12,I x.2)]) (λx=>[(5,.row 9 1 (List.map Jr x.1))]) aq Zf (Lr [0,1,2,3,4,5]) λx bl k ab=>?_;refine G0 6 Z (Lm Z (Go 3 Z (QW Z k (λac k=>?_) (λac k=>?_))))
  .refine Gc 2 Z (Qh k ?_);obtain rfl:=Oj ab k;exact Gx 1 Z (QC (Lr [0,1,2,3,4,5]))
  refine Gc 9 Z (Bd k λar ad k=>Iz ad Z (Go 2 Z ?_));refine vH (El (xs:=[.tmp 95]) (es:=List.map Jr [ar.Name]) Jn Z Z Z Z Z ⟨Z,trivial⟩ Z Z) ?_;refine FE Z (Bd k λbm ae k=>?_);refine vH (Qt (e:=Jr) ae Jn runUnderlying235 (Yd (i:=6))) ?_;exact FE Z (Go 9 Z (Qg k (Lr [0,1,2,3,4,7])))
 refine Gx 1 Z (Ef b (Gc 1 Z (Bd h λz a h=>?_)));refine Ct z [] [] (λz=>[(2,.bool z)]) Ze Zf ?_ (λenv H b=>?_)
 .refine G0 3 Z (Cz [] a (k_ay _ _) Z λbn ax a=>Go 1 Z (Is 101 a Z (λaf a=>?_) (λaf a=>?_)))
  .refine Go 1 Z (Cb a (k_p _ _) Z (lo ln) λbo ay a=>Go 2 Z (Is 105 a Z (λag a=>?_) (λag a=>?_)))
   .refine Go 1 Z (Cb a (k_p _ _) Z (lo ln) λbp az a=>Go 2 Z (Is 109 a Z (λah a=>?_) (λah a=>?_)))
    .refine Go 1 Z (Cb a (k_p _ _) Z (lo ln) λba au a=>Go 2 Z (Is 113 a Z (λB a=>?_) (λB a=>?_)))
     .refine Go 1 Z (Cb a (k_p _ _) Z (lo ln) λbb av a=>Go 2 Z (Is 117 a Z (λE a=>?_) (λE a=>?_)))
      .exact Go 1 Z (Cb a (k_p _ _) Z (lo ln) λbc aw a=>Go 3 Z (Cl a []))
      .exact Go 5 Z (Cl a [])
     .exact Go 9 Z (Cl a [])
    .exact Go 13 Z (Cl a [])
   .exact Go 17 Z (Cl a [])
  .exact Go 21 Z (Cl a [])
 exact Gx 1 Z (Ef b (Gc 1 Z (Rt h 2 [])))
def F_b(n:Nat)(a:Int)(b:Int)(c:Int):Option Bool:=
  ((bif decide (b<=a)then some (decide (a<=c))else some false):Option Bool).bind λd=>some d
theorem k_b(n:Nat)(c:Int)(d:Int)(e:Int)(r:Bool)(h:F_b n c d e=some r):
    Csm prog 158 [I c,I d,I e] [] (λr=>.bool r) r:=by
 refine Qb func158 Z Z Z ?_;refine G0 6 Z (Bd h λb a h=>?_);refine Ct b [] [] (λb=>[(6,.bool b)]) Ze Zf ?_ (λenv H f=>?_)
 .refine G0 5 Z (Is 10 a Z (λg a=>?_) (λg a=>?_))
  .exact Go 6 Z (Cl a [])
  .exact Go 6 Z (Cl a [])
 exact Gx 1 Z (Ef f (Gc 1 Z (Rt h 6 [])))
def F_g(n:Nat)(a:Course)(b:Int):Option Bool:=
  (F_b n b 0 (IntKind.i64.wrap ((a.Mats.length:Int)-1))).bind λr1=>some r1
theorem k_g(n:Nat)(a:Course)(b:Int)(r:Bool)(h:F_g n a b=some r):
    Csm prog 159 [.agg (Course.c a),I b] [] (λr=>.bool r) r:=by
 refine Qb func159 Z Z Z ?_;exact G0 11 Z (Lm Z (Go 1 Z (Cz [] h (k_b _ _ _ _) Z λr1 d h=>Go 4 Z (Rt h 4 []))))
def F_kh(n:Nat)(c:Course)(d:List Part)(rec230:Course->(List Part)->Option Bool)(b:Int):Option (Ctl Int (Ctl Unit Bool)):=
  (bif decide (b<(d.length:Int))then(idx d b).bind λa=>((bif (a.Laps==0)then(F_g n c a.Mat).bind λe=>(bif e then some ((a.Parts.length:Int)==0)else some false)else some false):Option Bool).bind λf=>((F_b n a.Laps 1 64).bind λg=>(bif g then(bif (a.Mat==0)then(bif decide (0<(a.Parts.length:Int))then(rec230 c a.Parts).bind λh=>some h else some false)else some false)else some false):Option Bool).bind λi=>((bif (!f)then some (!i)else some false):Option Bool).bind λj=>(bif j then some (.done (.done false))else some (.cont (IntKind.i64.wrap (b+1))))else some (.done (.cont ())))
def B_k(rec230:Course->(List Part)->Option Bool)(n:Nat)(c:Course)(d:List Part):Option Bool:=
  (iter (F_kh n c d rec230) n 0:Option (Ctl Unit Bool)).bind λb=>match b with|.cont a=>(some true)|.done a=>some a
theorem QaI(rec230:Course->(List Part)->Option Bool)(i:∀(j:Course) (k:List Part) (r:Bool),rec230 j k=some r->Csm prog 231 [.agg (Course.c j),.rsl 3 (List.map Part.enc k)] [] (λr=>.bool r) r)(n:Nat)(j:Course)(k:List Part)(r:Bool)(h:B_k rec230 n j k=some r):
    Csm prog 231 [.agg (Course.c j),.rsl 3 (List.map Part.enc k)] [] (λr=>.bool r) r:=by
 refine Qb func231 Z Z Z ?_;refine G0 12 Z (Bd h λG J h=>?_);refine YH (b:=G) [] [] Ze Ze Zf ?_ (λN env H L f=>?_)
 .refine G0 1 Z ?_;refine Lp [0] [1,2] (λs=>[(5,I s)]) Ze J Zf (Lr [0]) λs R a l=>?_;refine G0 5 Z (Lm Z (Go 3 Z (QW Z a (λt a=>?_) (λt a=>?_))))
  .refine Gc 2 Z (Qh a ?_);obtain rfl:=Oj l a;exact Gx 1 Z (Qn Z (Lr []))
  refine Gc 8 Z (Bd a λM u a=>IzE u (Q8 M) Z (Go 6 Z (Bd a λm e a=>?_)));refine Ct m [0,1] [1,2,5,6] (λm=>[(7,.bool m)]) Ze Zf ?_ (λenv H f=>?_)
  .refine G0 5 Z (Is 22 e Z (λw e=>?_) (λw e=>?_))
   .refine Go 3 Z (Cz [] e (k_g _ _ _) Z λT O e=>Go 2 Z (Is 28 e Z (λx e=>?_) (λx e=>?_)))
    .exact Go 2 Z (Lm Z (Go 4 Z (Cl e [0,1])))
    .exact Go 7 Z (Cl e [0,1])
   .exact Go 13 Z (Cl e [0,1])
  refine Gx 1 Z (Ef f (Gc 1 Z (Bd a λp d a=>?_)));refine Ct p [0] [1,2,5,7] (λp=>[(8,.bool p)]) Ze Zf ?_ (λenv H f=>?_)
  .refine G0 3 Z (Cz [] d (k_b _ _ _ _) Z λV P d=>Go 1 Z (Is 37 d Z (λy d=>?_) (λy d=>?_)))
   .refine Go 5 Z (Is 42 d Z (λz d=>?_) (λz d=>?_))
    .refine Go 2 Z (Lm Z (Go 3 Z (Is 48 d Z (λB d=>?_) (λB d=>?_))))
     .exact Go 3 Z (Cz [] d (i _ _) Z λW Q d=>Go 3 Z (Cl d [0]))
     .exact Go 7 Z (Cl d [0])
    .exact Go 13 Z (Cl d [0])
   .exact Go 18 Z (Cl d [0])
  refine Gx 1 Z (Ef f (Gc 1 Z (Bd a λq g a=>?_)));refine Ct q [0] [1,2,5] (λq=>[(59,.bool q)]) Ze Zf ?_ (λenv H f=>?_)
  .refine G0 4 Z (Is 56 g Z (λE g=>?_) (λE g=>?_))
   .exact Go 4 Z (Cl g [0])
   .exact Go 4 Z (Cl g [0])
  refine Gx 1 Z (Ef f (Cn Z a (λF a=>?_) (λF a=>?_)))
  .refine Gc 8 Z (Qm a ?_);obtain rfl:=Oj l a;exact Gx 1 Z (Qi (Gx 1 Z (Rt h 4 [])))
  exact Gc 8 Z (Qg a (Lr [0]))
 subst L;exact Gx 1 Z (Ef f (Gc 6 Z (Rt h 4 [])))
def F_k:Nat->Course->(List Part)->Option Bool
  |0=>λ_ _=>none
  |n+1=>B_k (F_k n) n
theorem k_k(n:Nat):∀(a:Course) (b:List Part) (r:Bool),F_k n a b=some r->Csm prog 231 [.agg (Course.c a),.rsl 3 (List.map Part.enc b)] [] (λr=>.bool r) r:=by
  induction n with
  |zero=>intro a b r h;cases h
  |succ n ih=>intro a b r h;exact QaI _ ih n a b r h
def F_ke(n:Nat)(g:Course)(c:Distance)(a:Int):Option (Ctl Int (Ctl Unit Bool)):=
  (bif decide (a<(c.Cutoffs.length:Int))then(idx c.Cutoffs a).bind λb=>((F_g n g b.Mat).bind λd=>(bif (!d)then some true else(bif decide (b.Lap<1)then some true else(F_b n b.Limit 0 1099511627776).bind λe=>some (!e))):Option Bool).bind λf=>(bif f then some (.done (.done false))else some (.cont (IntKind.i64.wrap (a+1))))else some (.done (.cont ())))
def F_ff(n:Nat)(c:Course)(a:Distance):Option Bool:=
  (iter (F_ke n c a) n 0:Option (Ctl Unit Bool)).bind λd=>match d with|.cont b=>(((F_b n a.Timing 1 3).bind λe=>(bif e then(F_k n c a.Route).bind λf=>(bif f then(bif (a.Extra==(-1))then some true else(F_g n c a.Extra).bind λg=>some g)else some false)else some false):Option Bool).bind λh=>some h)|.done b=>some b
theorem k_ff(n:Nat)(x:Course)(y:Distance)(r:Bool)(h:F_ff n x y=some r):
    Csm prog 160 [.agg (Course.c x),.agg (Distance.c y)] [] (λr=>.bool r) r:=by
 refine Qb func160 Z Z Z ?_;refine G0 13 Z (Bd h λz B h=>?_);refine YH (b:=z) [0,1] [2,3] Ze Ze Zf ?_ (λF env H E f=>?_)
 .refine G0 1 Z ?_;refine Lp [0,1] [2,3] (λk=>[(5,I k)]) Ze B Zf (Lr [0,1]) λk O d g=>?_;refine G0 6 Z (Lm Z (Go 3 Z (QW Z d (λl d=>?_) (λl d=>?_))))
  .refine Gc 2 Z (Qh d ?_);obtain rfl:=Oj g d;exact Gx 1 Z (Qn Z (Lr [0,1]))
  refine Gc 9 Z (Bd d λP m d=>Iz m Z (Go 6 Z (Bd d λi e d=>?_)));refine Ct i [0,1] [2,3,5] (λi=>[(34,.bool i)]) Ze Zf ?_ (λenv H f=>?_)
  .refine G0 4 Z (Cz [] e (k_g _ _ _) Z λQ G e=>Go 2 Z (Is 24 e Z (λp e=>?_) (λp e=>?_)))
   .exact Go 11 Z (Cl e [0,1])
   .refine Go 5 Z (Is 29 e Z (λq e=>?_) (λq e=>?_))
    .exact Go 6 Z (Cl e [0,1])
    .exact Go 2 Z (Cz [] e (k_b _ _ _ _) Z λR J e=>Go 3 Z (Cl e [0,1]))
  refine Gx 1 Z (Ef f (Cn Z d (λs d=>?_) (λs d=>?_)))
  .refine Gc 8 Z (Qm d ?_);obtain rfl:=Oj g d;exact Gx 1 Z (Qi (Gx 1 Z (Rt h 4 [])))
  exact Gc 8 Z (Qg d (Lr [0,1]))
 subst E;refine Gx 1 Z (Ef f (Gc 1 Z (Bd h λj a h=>?_)));refine Ct j [] [] (λj=>[(4,.bool j)]) Ze Zf ?_ (λenv H f=>?_)
 .refine G0 3 Z (Cz [] a (k_b _ _ _ _) Z λT L a=>Go 1 Z (Is 38 a Z (λt a=>?_) (λt a=>?_)))
  .refine Go 3 Z (Cz [] a (k_k _ _ _) Z λV M a=>Go 2 Z (Is 44 a Z (λu a=>?_) (λu a=>?_)))
   .refine Go 4 Z (Is 48 a Z (λw a=>?_) (λw a=>?_))
    .exact Go 8 Z (Cl a [])
    .exact Go 3 Z (Cz [] a (k_g _ _ _) Z λW N a=>Go 4 Z (Cl a []))
   .exact Go 12 Z (Cl a [])
  .exact Go 18 Z (Cl a [])
 exact Gx 1 Z (Ef f (Gc 1 Z (Rt h 4 [])))
def F_ko(n:Nat)(b:Course)(a:Int):Option (Ctl Int (Ctl Unit Bool)):=
  (bif decide (a<(b.Mats.length:Int))then(idx b.Mats a).bind λc=>(F_b n c.Kind 1 3).bind λd=>(bif (!d)then some (.done (.done false))else some (.cont (IntKind.i64.wrap (a+1))))else some (.done (.cont ())))
def F_ih(n:Nat)(g:Course)(c:Int)(b:Leg)(a:Int):Option (Ctl Int (Ctl Unit (Ctl Int (Ctl Unit Bool)))):=
  (bif decide (a<c)then((idx g.Legs a).bind λd=>(bif (d.From==b.From)then(idx g.Legs a).bind λe=>some (e.To==b.To)else some false):Option Bool).bind λf=>(bif f then some (.done (.done (.done (.done false))))else some (.cont (IntKind.i64.wrap (a+1))))else some (.done (.cont ())))
def F_ev(n:Nat)(d:Course)(b:Int):Option (Ctl Int (Ctl Unit Bool)):=
  (bif decide (b<(d.Legs.length:Int))then(idx d.Legs b).bind λa=>((F_g n d a.From).bind λe=>(bif (!e)then some true else(F_g n d a.To).bind λf=>(bif (!f)then some true else(bif decide (a.Min<0)then some true else(bif decide (a.Max<a.Min)then some true else some (decide (68719476736<a.Max)))))):Option Bool).bind λg=>(bif g then some (.done (.done false))else(iter (F_ih n d b a) n 0:Option (Ctl Unit (Ctl Int (Ctl Unit Bool)))).bind λh=>match h with|.cont c=>(some (.cont (IntKind.i64.wrap (b+1))))|.done c=>some c)else some (.done (.cont ())))
def F_ju(n:Nat)(b:Course)(a:Int):Option (Ctl Int (Ctl Unit Bool)):=
  (bif decide (a<(b.Distances.length:Int))then(idx b.Distances a).bind λc=>(F_ff n b c).bind λd=>(bif (!d)then some (.done (.done false))else some (.cont (IntKind.i64.wrap (a+1))))else some (.done (.cont ())))
def F_js(n:Nat)(d:Course)(a:Int):Option (Ctl Int (Ctl Unit Bool)):=
  (bif decide (a<(d.Waves.length:Int))then(idx d.Waves a).bind λb=>(F_b n b.Gun 0 1099511627776).bind λc=>(bif (!c)then some (.done (.done false))else some (.cont (IntKind.i64.wrap (a+1))))else some (.done (.cont ())))
def F_ky(n:Nat)(i:Course)(b:Int):Option (Ctl Int (Ctl Unit Bool)):=
  (bif decide (b<(i.Offences.length:Int))then(idx i.Offences b).bind λa=>((F_b n a.Time 0 68719476736).bind λc=>(bif c then(bif (a.Laps==0)then some (!a.Out)else some false)else some false):Option Bool).bind λd=>((bif (a.Time==0)then(F_b n a.Laps 1 64).bind λe=>(bif e then some (!a.Out)else some false)else some false):Option Bool).bind λf=>((bif (a.Time==0)then(bif (a.Laps==0)then some a.Out else some false)else some false):Option Bool).bind λg=>((bif (!d)then(bif (!f)then some (!g)else some false)else some false):Option Bool).bind λh=>(bif h then some (.done (.done false))else some (.cont (IntKind.i64.wrap (b+1))))else some (.done (.cont ())))
def F_kl(n:Nat)(d:Course)(b:Int):Option (Ctl Int (Ctl Unit Bool)):=
  (bif decide (b<(d.Categories.length:Int))then(idx d.Categories b).bind λa=>((bif decide (a.From<0)then some true else(bif decide (a.To<a.From)then some true else some (decide (120<a.To)))):Option Bool).bind λc=>(bif c then some (.done (.done false))else some (.cont (IntKind.i64.wrap (b+1))))else some (.done (.cont ())))
def F_il(n:Nat)(f:Course)(d:Int)(a:Prize)(b:Int):Option (Ctl Int (Ctl Unit (Ctl Int (Ctl Unit Bool)))):=
  (bif decide (b<d)then(idx f.Prizes b).bind λc=>((bif (c.Distance==a.Distance)then(bif (c.Category==a.Category)then some (c.Rank==a.Rank)else some false)else some false):Option Bool).bind λe=>(bif e then some (.done (.done (.done (.done false))))else some (.cont (IntKind.i64.wrap (b+1))))else some (.done (.cont ())))
def F_dz(n:Nat)(d:Course)(b:Int):Option (Ctl Int (Ctl Unit Bool)):=
  (bif decide (b<(d.Prizes.length:Int))then(idx d.Prizes b).bind λa=>((F_b n a.Distance 0 (IntKind.i64.wrap ((d.Distances.length:Int)-1))).bind λe=>(bif (!e)then some true else(F_b n a.Category (-1) (IntKind.i64.wrap ((d.Categories.length:Int)-1))).bind λf=>(bif (!f)then some true else(F_b n a.Rank 1 4000).bind λg=>(bif (!g)then some true else(F_b n a.Amount 1 1125899906842624).bind λh=>some (!h)))):Option Bool).bind λi=>(bif i then some (.done (.done false))else(iter (F_il n d b a) n 0:Option (Ctl Unit (Ctl Int (Ctl Unit Bool)))).bind λj=>match j with|.cont c=>(some (.cont (IntKind.i64.wrap (b+1))))|.done c=>some c)else some (.done (.cont ())))
def F_el(n:Nat)(a:Course):Option Bool:=
  (iter (F_ko n a) n 0:Option (Ctl Unit Bool)).bind λy=>match y with|.cont g=>((iter (F_ev n a) n 0:Option (Ctl Unit Bool)).bind λz=>match z with|.cont h=>((iter (F_ju n a) n 0:Option (Ctl Unit Bool)).bind λi=>match i with|.cont b=>((iter (F_js n a) n 0:Option (Ctl Unit Bool)).bind λj=>match j with|.cont c=>((iter (F_ky n a) n 0:Option (Ctl Unit Bool)).bind λk=>match k with|.cont d=>((iter (F_kl n a) n 0:Option (Ctl Unit Bool)).bind λl=>match l with|.cont e=>((iter (F_dz n a) n 0:Option (Ctl Unit Bool)).bind λm=>match m with|.cont f=>(((F_b n a.Faults.Misses 0 16).bind λp=>(bif p then(F_b n a.Faults.Strays 0 16).bind λq=>(bif q then(F_b n a.Faults.Window 0 4294967296).bind λr=>(bif r then(F_b n a.Faults.Residual 0 4294967296).bind λs=>(bif s then(F_b n a.Faults.Drift 0 100000).bind λt=>(bif t then(F_b n a.Fee 0 1125899906842624).bind λu=>(bif u then(F_b n a.Deadline 0 1099511627776).bind λw=>some w else some false)else some false)else some false)else some false)else some false)else some false):Option Bool).bind λx=>some x)|.done f=>some f)|.done e=>some e)|.done d=>some d)|.done c=>some c)|.done b=>some b)|.done h=>some h)|.done g=>some g
theorem k_el(n:Nat)(a1:Course)(r:Bool)(h:F_el n a1=some r):
    Csm prog 109 [.agg (Course.c a1)] [] (λr=>.bool r) r:=by
 refine Qb func109 Z Z Z ?_;refine G0 12 Z (Bd h λdp dq h=>?_);refine YH (b:=dp) [0] [1] Ze Ze Zf ?_ (λes env H u d=>?_)
 .refine G0 1 Z ?_;refine Lp [0] [1] (λcv=>[(3,I cv)]) Ze dq Zf (Lr [0]) λcv gh w aj=>?_;refine G0 6 Z (Lm Z (Go 3 Z (QW Z w (λcw w=>?_) (λcw w=>?_))))
  .refine Gc 2 Z (Qh w ?_);obtain rfl:=Oj aj w;exact Gx 1 Z (Qn Z (Lr [0]))
  refine Gc 9 Z (Bd w λgi cx w=>Iz cx Z (Go 2 Z (Cz [] w (k_b _ _ _ _) Z λgj et w=>Go 3 Z (Cn Z w (λcy w=>?_) (λcy w=>?_)))))
  .refine Gc 8 Z (Qm w ?_);obtain rfl:=Oj aj w;exact Gx 1 Z (Qi (Gx 1 Z (Rt h 2 [])))
  exact Gc 8 Z (Qg w (Lr [0]))
 subst u;refine Gx 1 Z (Ef d (Gc 6 Z (Bd h λdr cz h=>?_)));refine YH (b:=dr) [0] [1] Ze Ze Zf ?_ (λeu env H u d=>?_)
 .refine G0 1 Z ?_;refine Lp [0] [1] (λak=>[(4,I ak)]) Ze cz Zf (Lr [0]) λak ew j N=>?_;refine G0 6 Z (Lm Z (Go 3 Z (QW Z j (λav j=>?_) (λav j=>?_))))
  .refine Gc 2 Z (Qh j ?_);obtain rfl:=Oj N j;exact Gx 1 Z (Qn Z (Lr [0]))
  refine Gc 9 Z (Bd j λey aw j=>Iz aw Z (Go 7 Z (Bd j λQ f j=>?_)));refine Ct Q [0,1] [1,4,5] (λQ=>[(76,.bool Q)]) Ze Zf ?_ (λenv H d=>?_)
  .refine G0 4 Z (Cz [] f (k_g _ _ _) Z λez ds f=>Go 2 Z (Is 53 f Z (λax f=>?_) (λax f=>?_)))
   .exact Go 24 Z (Cl f [0,1])
   .refine Go 3 Z (Cz [] f (k_g _ _ _) Z λfa dt f=>Go 3 Z (Is 60 f Z (λay f=>?_) (λay f=>?_)))
    .exact Go 17 Z (Cl f [0,1])
    .refine Go 5 Z (Is 65 f Z (λaz f=>?_) (λaz f=>?_))
     .exact Go 12 Z (Cl f [0,1])
     .refine Go 7 Z (Is 72 f Z (λba f=>?_) (λba f=>?_))
      .exact Go 5 Z (Cl f [0,1])
      .exact Go 5 Z (Cl f [0,1])
  refine Gx 1 Z (Ef d (Cn Z j (λbb j=>?_) (λbb j=>?_)))
  .refine Gc 9 Z (Qm j ?_);obtain rfl:=Oj N j;exact Gx 1 Z (Qi (Gx 1 Z (Rt h 2 [])))
  refine Gc 7 Z (Bd j λda db j=>?_);refine YH (b:=da) [0] [1,4] Ze Ze Zf ?_ (λdu env H u d=>?_)
  .refine G0 1 Z ?_;refine Lp [0,1] [1,4,5] (λal=>[(6,I al)]) Ze db Zf (Lr [0,1]) λal fc t ad=>?_;refine G0 8 Z (QW Z t (λbc t=>?_) (λbc t=>?_))
   .refine Gc 2 Z (Qh t ?_);obtain rfl:=Oj ad t;exact Gx 1 Z (Qn Z (Lr [0]))
   refine Gc 5 Z (Bd t λR B t=>?_);refine Ct R [0,1] [1,4,5,6] (λR=>[(101,.bool R)]) Ze Zf ?_ (λenv H d=>?_)
   .refine G0 0 Z (DSs 18 Z (D 3 Z ?_));obtain⟨O,bd,B⟩:=Yy B;refine DS.wo (x:=.rp [I O.From,I O.To,I O.Min,I O.Max]) ?_ ?_
    .exact Ix bd runUnderlying39 sizeOf135 Z Wp
    refine D 6 Z (Yr 9 B Z Z Z (λbe B=>?_) (λbe B=>?_))
    .refine D 3 Z ?_;obtain⟨L,bf,B⟩:=Yy B;refine DS.v (x:=(.rp [I L.From,I L.To,I L.Min,I L.Max])) (Yw (e:=Leg.c) (l:=a1.Legs) (v:=L) bf runUnderlying39 sizeOf135) ?_ (hg:=(gT Z));exact D 4 Z (Eh Z (Go 3 Z (Cl B [0,1])))
    .exact D 8 Z (Eh Z (Go 3 Z (Cl B [0,1])))
   refine Gx 1 Z (Ef d (Cn Z t (λbg t=>?_) (λbg t=>?_)))
   .refine Gc 8 Z (Qm t ?_);obtain rfl:=Oj ad t;refine Gx 1 Z (Qi (Gx 2 Z (Qm j ?_)));obtain rfl:=Oj N j;exact Gx 1 Z (Qi (Gx 1 Z (Rt h 2 [])))
   exact Gc 8 Z (Qg t (Lr [0,1]))
  subst u;exact Gx 2 Z (Ef d (Gc 5 Z (Qg j (Lr [0]))))
 subst u;refine Gx 1 Z (Ef d (Gc 6 Z (Bd h λdc dd h=>?_)));refine YH (b:=dc) [0] [1] Ze Ze Zf ?_ (λdv env H u d=>?_)
 .refine G0 1 Z ?_;refine Lp [0] [1] (λam=>[(7,I am)]) Ze dd Zf (Lr [0]) λam fd m ae=>?_;refine G0 6 Z (Lm Z (Go 3 Z (QW Z m (λbh m=>?_) (λbh m=>?_))))
  .refine Gc 2 Z (Qh m ?_);obtain rfl:=Oj ae m;exact Gx 1 Z (Qn Z (Lr [0]))
  refine Gc 5 Z (DSs 6 Z (D 4 Z ?_));obtain⟨M,bi,m⟩:=Yy m;refine DS.wo (x:=.rp [.str M.Name,.rsl 3 (List.map Part.enc M.Route),I M.Timing,.rsl 3 (List.map Cutoff.c M.Cutoffs),I M.Extra]) ?_ ?_
  .exact Ix bi runUnderlying40 sizeOf99 Z Wp
  refine D 1 Z (Eh Z (Cz [] m (k_ff _ _ _) Z λfe dw m=>Go 3 Z (Cn Z m (λbj m=>?_) (λbj m=>?_))))
  .refine Gc 8 Z (Qm m ?_);obtain rfl:=Oj ae m;exact Gx 1 Z (Qi (Gx 1 Z (Rt h 2 [])))
  exact Gc 8 Z (Qg m (Lr [0]))
 subst u;refine Gx 1 Z (Ef d (Gc 6 Z (Bd h λde df h=>?_)));refine YH (b:=de) [0] [1] Ze Ze Zf ?_ (λdx env H u d=>?_)
 .refine G0 1 Z ?_;refine Lp [0] [1] (λan=>[(8,I an)]) Ze df Zf (Lr [0]) λan fg p af=>?_;refine G0 6 Z (Lm Z (Go 3 Z (QW Z p (λbk p=>?_) (λbk p=>?_))))
  .refine Gc 2 Z (Qh p ?_);obtain rfl:=Oj af p;exact Gx 1 Z (Qn Z (Lr [0]))
  refine Gc 9 Z (Bd p λfh bl p=>Iz bl Z (Go 2 Z (Cz [] p (k_b _ _ _ _) Z λfi dy p=>Go 3 Z (Cn Z p (λbm p=>?_) (λbm p=>?_)))))
  .refine Gc 8 Z (Qm p ?_);obtain rfl:=Oj af p;exact Gx 1 Z (Qi (Gx 1 Z (Rt h 2 [])))
  exact Gc 8 Z (Qg p (Lr [0]))
 subst u;refine Gx 1 Z (Ef d (Gc 6 Z (Bd h λdg dh h=>?_)));refine YH (b:=dg) [0] [1] Ze Ze Zf ?_ (λdz env H u d=>?_)
 .refine G0 1 Z ?_;refine Lp [0] [1] (λao=>[(9,I ao)]) Ze dh Zf (Lr [0]) λao fj g ag=>?_;refine G0 6 Z (Lm Z (Go 3 Z (QW Z g (λbn g=>?_) (λbn g=>?_))))
  .refine Gc 2 Z (Qh g ?_);obtain rfl:=Oj ag g;exact Gx 1 Z (Qn Z (Lr [0]))
  refine Gc 9 Z (Bd g λfk bo g=>Iz bo Z (Go 6 Z (Bd g λT y g=>?_)));refine Ct T [0,1] [1,9,10] (λT=>[(11,.bool T)]) Ze Zf ?_ (λenv H d=>?_)
  .refine G0 3 Z (Cz [] y (k_b _ _ _ _) Z λfm ea y=>Go 1 Z (Is 147 y Z (λbp y=>?_) (λbp y=>?_)))
   .refine Go 5 Z (Is 152 y Z (λbq y=>?_) (λbq y=>?_))
    .exact Go 6 Z (Cl y [0,1])
    .exact Go 6 Z (Cl y [0,1])
   .exact Go 11 Z (Cl y [0,1])
  refine Gx 1 Z (Ef d (Gc 1 Z (Bd g λV z g=>?_)));refine Ct V [0,1] [1,9,10,11] (λV=>[(12,.bool V)]) Ze Zf ?_ (λenv H d=>?_)
  .refine G0 5 Z (Is 160 z Z (λbr z=>?_) (λbr z=>?_))
   .refine Go 2 Z (Cz [] z (k_b _ _ _ _) Z λfo eb z=>Go 2 Z (Is 165 z Z (λbs z=>?_) (λbs z=>?_)))
    .exact Go 6 Z (Cl z [0,1])
    .exact Go 6 Z (Cl z [0,1])
   .exact Go 11 Z (Cl z [0,1])
  refine Gx 1 Z (Ef d (Gc 1 Z (Bd g λW E g=>?_)));refine Ct W [0] [1,9,11,12] (λW=>[(13,.bool W)]) Ze Zf ?_ (λenv H d=>?_)
  .refine G0 5 Z (Is 173 E Z (λbt E=>?_) (λbt E=>?_))
   .refine Go 5 Z (Is 178 E Z (λbu E=>?_) (λbu E=>?_))
    .exact Go 5 Z (Cl E [0])
    .exact Go 5 Z (Cl E [0])
   .exact Go 10 Z (Cl E [0])
  refine Gx 1 Z (Ef d (Gc 1 Z (Bd g λX F g=>?_)));refine Ct X [0] [1,9] (λX=>[(191,.bool X)]) Ze Zf ?_ (λenv H d=>?_)
  .refine G0 4 Z (Is 184 F Z (λbv F=>?_) (λbv F=>?_))
   .refine Go 4 Z (Is 188 F Z (λbw F=>?_) (λbw F=>?_))
    .exact Go 4 Z (Cl F [0])
    .exact Go 4 Z (Cl F [0])
   .exact Go 8 Z (Cl F [0])
  refine Gx 1 Z (Ef d (Cn Z g (λbx g=>?_) (λbx g=>?_)))
  .refine Gc 8 Z (Qm g ?_);obtain rfl:=Oj ag g;exact Gx 1 Z (Qi (Gx 1 Z (Rt h 2 [])))
  exact Gc 8 Z (Qg g (Lr [0]))
 subst u;refine Gx 1 Z (Ef d (Gc 6 Z (Bd h λdi dj h=>?_)));refine YH (b:=di) [0] [1] Ze Ze Zf ?_ (λec env H u d=>?_)
 .refine G0 1 Z ?_;refine Lp [0] [1] (λaq=>[(14,I aq)]) Ze dj Zf (Lr [0]) λaq fp q ah=>?_;refine G0 6 Z (Lm Z (Go 3 Z (QW Z q (λbz q=>?_) (λbz q=>?_))))
  .refine Gc 2 Z (Qh q ?_);obtain rfl:=Oj ah q;exact Gx 1 Z (Qn Z (Lr [0]))
  refine Gc 9 Z (Bd q λfq ca q=>Iz ca Z (Go 6 Z (Bd q λY G q=>?_)));refine Ct Y [0] [1,14] (λY=>[(218,.bool Y)]) Ze Zf ?_ (λenv H d=>?_)
  .refine G0 5 Z (Is 207 G Z (λcb G=>?_) (λcb G=>?_))
   .exact Go 12 Z (Cl G [0])
   .refine Go 7 Z (Is 214 G Z (λcc G=>?_) (λcc G=>?_))
    .exact Go 5 Z (Cl G [0])
    .exact Go 5 Z (Cl G [0])
  refine Gx 1 Z (Ef d (Cn Z q (λcd q=>?_) (λcd q=>?_)))
  .refine Gc 8 Z (Qm q ?_);obtain rfl:=Oj ah q;exact Gx 1 Z (Qi (Gx 1 Z (Rt h 2 [])))
  exact Gc 8 Z (Qg q (Lr [0]))
 subst u;refine Gx 1 Z (Ef d (Gc 6 Z (Bd h λdk dl h=>?_)));refine YH (b:=dk) [0] [1] Ze Ze Zf ?_ (λed env H u d=>?_)
 .refine G0 1 Z ?_;refine Lp [0] [1] (λar=>[(16,I ar)]) Ze dl Zf (Lr [0]) λar fr k P=>?_;refine G0 6 Z (Lm Z (Go 3 Z (QW Z k (λce k=>?_) (λce k=>?_))))
  .refine Gc 2 Z (Qh k ?_);obtain rfl:=Oj P k;exact Gx 1 Z (Qn Z (Lr [0]))
  refine Gc 9 Z (Bd k λfs cf k=>Iz cf Z (Go 7 Z (Bd k λaa i k=>?_)));refine Ct aa [0,1] [1,16,17] (λaa=>[(260,.bool aa)]) Ze Zf ?_ (λenv H d=>?_)
  .refine G0 5 Z (Lm Z (Go 1 Z (Cz [] i (k_b _ _ _ _) Z λft ee i=>Go 2 Z (Is 239 i Z (λcg i=>?_) (λcg i=>?_)))))
   .exact Go 22 Z (Cl i [0,1])
   .refine Go 4 Z (Lm Z (Go 1 Z (Cz [] i (k_b _ _ _ _) Z λfu ef i=>Go 3 Z (Is 249 i Z (λch i=>?_) (λch i=>?_)))))
    .exact Go 12 Z (Cl i [0,1])
    .refine Go 2 Z (Cz [] i (k_b _ _ _ _) Z λfv eg i=>Go 3 Z (Is 255 i Z (λci i=>?_) (λci i=>?_)))
     .exact Go 6 Z (Cl i [0,1])
     .exact Go 2 Z (Cz [] i (k_b _ _ _ _) Z λfw eh i=>Go 3 Z (Cl i [0,1]))
  refine Gx 1 Z (Ef d (Cn Z k (λcj k=>?_) (λcj k=>?_)))
  .refine Gc 9 Z (Qm k ?_);obtain rfl:=Oj P k;exact Gx 1 Z (Qi (Gx 1 Z (Rt h 2 [])))
  refine Gc 7 Z (Bd k λdm dn k=>?_);refine YH (b:=dm) [0] [1,16] Ze Ze Zf ?_ (λei env H u d=>?_)
  .refine G0 1 Z ?_;refine Lp [0,1] [1,16,17] (λau=>[(18,I au)]) Ze dn Zf (Lr [0,1]) λau fx s ai=>?_;refine G0 8 Z (QW Z s (λck s=>?_) (λck s=>?_))
   .refine Gc 2 Z (Qh s ?_);obtain rfl:=Oj ai s;exact Gx 1 Z (Qn Z (Lr [0]))
   refine Gc 9 Z (Bd s λfy cl s=>Iz cl Z (Go 6 Z (Bd s λab J s=>?_)));refine Ct ab [0,1] [1,16,17,18] (λab=>[(289,.bool ab)]) Ze Zf ?_ (λenv H d=>?_)
   .refine G0 7 Z (Is 276 J Z (λcm J=>?_) (λcm J=>?_))
    .refine Go 7 Z (Is 283 J Z (λcn J=>?_) (λcn J=>?_))
     .exact Go 7 Z (Cl J [0,1])
     .exact Go 7 Z (Cl J [0,1])
    .exact Go 14 Z (Cl J [0,1])
   refine Gx 1 Z (Ef d (Cn Z s (λco s=>?_) (λco s=>?_)))
   .refine Gc 8 Z (Qm s ?_);obtain rfl:=Oj ai s;refine Gx 1 Z (Qi (Gx 2 Z (Qm k ?_)));obtain rfl:=Oj P k;exact Gx 1 Z (Qi (Gx 1 Z (Rt h 2 [])))
   exact Gc 8 Z (Qg s (Lr [0,1]))
  subst u;exact Gx 2 Z (Ef d (Gc 5 Z (Qg k (Lr [0]))))
 subst u;refine Gx 1 Z (Ef d (Gc 9 Z (Bd h λac a h=>?_)));refine Ct ac [] [] (λac=>[(2,.bool ac)]) Ze Zf ?_ (λenv H d=>?_)
 .refine G0 3 Z (Cz [] a (k_b _ _ _ _) Z λga ej a=>Go 1 Z (Is 295 a Z (λcp a=>?_) (λcp a=>?_)))
  .refine Go 2 Z (Cz [] a (k_b _ _ _ _) Z λgb ek a=>Go 2 Z (Is 300 a Z (λcq a=>?_) (λcq a=>?_)))
   .refine Go 2 Z (Cz [] a (k_b _ _ _ _) Z λgc el a=>Go 2 Z (Is 305 a Z (λcr a=>?_) (λcr a=>?_)))
    .refine Go 2 Z (Cz [] a (k_b _ _ _ _) Z λgd em a=>Go 2 Z (Is 310 a Z (λcs a=>?_) (λcs a=>?_)))
     .refine Go 2 Z (Cz [] a (k_b _ _ _ _) Z λge en a=>Go 2 Z (Is 315 a Z (λct a=>?_) (λct a=>?_)))
      .refine Go 2 Z (Cz [] a (k_b _ _ _ _) Z λgf eo a=>Go 2 Z (Is 320 a Z (λcu a=>?_) (λcu a=>?_)))
       .exact Go 2 Z (Cz [] a (k_b _ _ _ _) Z λgg ep a=>Go 3 Z (Cl a []))
       .exact Go 6 Z (Cl a [])
      .exact Go 11 Z (Cl a [])
     .exact Go 16 Z (Cl a [])
    .exact Go 21 Z (Cl a [])
   .exact Go 26 Z (Cl a [])
  .exact Go 31 Z (Cl a [])
 exact Gx 1 Z (Ef d (Gc 1 Z (Rt h 2 [])))
def F_ax(n:Nat)(a:Cond):Option Bool:=
  ((bif (a.Kind==0)then(bif (a.Var==0)then(bif (a.N==0)then some ((a.Parts.length:Int)==0)else some false)else some false)else some false):Option Bool).bind λb=>some b
theorem k_ax(n:Nat)(d:Cond)(r:Bool)(h:F_ax n d=some r):
    Csm prog 232 [.agg (Cond.c d)] [] (λr=>.bool r) r:=by
 refine Qb func232 Z Z Z ?_;refine G0 7 Z (Bd h λb a h=>?_);refine Ct b [] [] (λb=>[(2,.bool b)]) Ze Zf ?_ (λenv H e=>?_)
 .refine G0 5 Z (Is 6 a Z (λf a=>?_) (λf a=>?_))
  .refine Go 5 Z (Is 11 a Z (λg a=>?_) (λg a=>?_))
   .refine Go 5 Z (Is 16 a Z (λi a=>?_) (λi a=>?_))
    .exact Go 2 Z (Lm Z (Go 4 Z (Cl a [])))
    .exact Go 7 Z (Cl a [])
   .exact Go 12 Z (Cl a [])
  .exact Go 17 Z (Cl a [])
 exact Gx 1 Z (Ef e (Gc 1 Z (Rt h 2 [])))
def F_go(n:Nat)(b:Cond)(f:Int)(rec234:Cond->Int->Option Int)(a:Int×Int):Option (Ctl (Int×Int) Int):=
  ((bif decide (a.2<(b.Parts.length:Int))then some (decide (a.1<=256))else some false):Option Bool).bind λc=>(bif c then(idx b.Parts a.2).bind λd=>(rec234 d (IntKind.i64.wrap (f+1))).bind λe=>some (.cont (IntKind.i64.wrap (a.1+e),IntKind.i64.wrap (a.2+1)))else some (.done a.1))
def B_h(rec234:Cond->Int->Option Int)(n:Nat)(c:Cond)(a:Int):Option Int:=
  (bif decide (16<a)then some 1000 else(iter (F_go n c a rec234) n (1,0):Option Int).bind λb=>some b)
theorem Qak(rec234:Cond->Int->Option Int)(d:∀(e:Cond) (f:Int) (r:Int),rec234 e f=some r->Csm prog 233 [.agg (Cond.c e),I f] [] (λr=>I r) r)(n:Nat)(e:Cond)(f:Int)(r:Int)(h:B_h rec234 n e f=some r):
    Csm prog 233 [.agg (Cond.c e),I f] [] (λr=>I r) r:=by
 refine Qb func233 Z Z Z ?_;refine G0 13 Z (Cn Z h (λs h=>?_) (λs h=>?_))
 .exact Gc 7 Z (Rt h 4 [])
 refine Gc 13 Z (Bd h λg t h=>?_);refine Ct g [] [] (λg=>[(5,I g)]) Ze Zf ?_ (λenv H i=>?_)
 .refine G0 1 Z ?_;refine Lp [0] [1,2] (λj=>[(5,I j.1),(6,I j.2)]) Ze t Zf (Lr [0]) λj x a l=>?_;refine G0 2 Z (Bd a λk b a=>?_);refine Ct k [0] [1,2,5,6] (λk=>[(17,.bool k)]) Ze Zf ?_ (λenv H i=>?_)
  .refine G0 4 Z (Lm Z (Go 2 Z (Is 14 b Z (λm b=>?_) (λm b=>?_))))
   .exact Go 4 Z (Cl b [0])
   .exact Go 4 Z (Cl b [0])
  refine Gx 1 Z (Ef i (QW Z a (λp a=>?_) (λp a=>?_)))
  .refine Gc 2 Z (Qh a ?_);obtain rfl:=Oj l a;exact Gx 1 Z (QC (Lr []))
  exact Gc 9 Z (Bd a λu q a=>IzE q (Y8 u) Z (Go 3 Z (Cz [] a (d _ _) Z λy w a=>Go 10 Z (Qg a (Lr [0])))))
 exact Gx 1 Z (Ef i (Gc 7 Z (Rt h 4 [])))
def F_h:Nat->Cond->Int->Option Int
  |0=>λ_ _=>none
  |n+1=>B_h (F_h n) n
theorem k_h(n:Nat):∀(a:Cond) (b:Int) (r:Int),F_h n a b=some r->Csm prog 233 [.agg (Cond.c a),I b] [] (λr=>I r) r:=by
  induction n with
  |zero=>intro a b r h;cases h
  |succ n ih=>intro a b r h;exact Qak _ ih n a b r h
def F_hy(n:Nat)(b:List Step)(e:Int)(rec232:(List Step)->Int->Option (Int×Int))(a:Int×Int×Int):Option (Ctl (Int×Int×Int) (Int×Int)):=
  ((bif decide (a.2.2<(b.length:Int))then(bif decide (a.1<=64)then some (decide (a.2.1<=256))else some false)else some false):Option Bool).bind λf=>(bif f then(idx b a.2.2).bind λg=>(rec232 g.Then (IntKind.i64.wrap (e+1))).bind λc=>(idx b a.2.2).bind λh=>(rec232 h.Else (IntKind.i64.wrap (e+1))).bind λd=>(idx b a.2.2).bind λi=>(F_ax n i.Cond).bind λj=>((bif (!j)then(idx b a.2.2).bind λk=>(F_h n k.Cond 0).bind λl=>some (IntKind.i64.wrap ((IntKind.i64.wrap ((IntKind.i64.wrap (a.2.1+c.2))+d.2))+l))else some (IntKind.i64.wrap ((IntKind.i64.wrap (a.2.1+c.2))+d.2))):Option Int).bind λm=>some (.cont (IntKind.i64.wrap ((IntKind.i64.wrap ((IntKind.i64.wrap (a.1+1))+c.1))+d.1),m,IntKind.i64.wrap (a.2.2+1)))else some (.done (a.1,a.2.1)))
def B_s(rec232:(List Step)->Int->Option (Int×Int))(n:Nat)(b:List Step)(c:Int):Option (Int×Int):=
  ((bif decide (0<(b.length:Int))then some (decide (16<c))else some false):Option Bool).bind λd=>(bif d then some (1000,1000)else(iter (F_hy n b c rec232) n (0,0,0):Option (Int×Int)).bind λa=>some (a.1,a.2))
theorem Qa2(rec232:(List Step)->Int->Option (Int×Int))(e:∀(i:List Step) (j:Int) (r:Int×Int),rec232 i j=some r->Csm prog 161 [.rsl 8 (List.map Step.enc i),I j] [] (λr=>.tup [I r.1,I r.2]) r)(n:Nat)(i:List Step)(j:Int)(r:Int×Int)(h:B_s rec232 n i j=some r):
    Csm prog 161 [.rsl 8 (List.map Step.enc i),I j] [] (λr=>.tup [I r.1,I r.2]) r:=by
 refine Qb func161 Z Z Z ?_;refine G0 8 Z (Bd h λp k h=>?_);refine Ct p [] [0,1] (λp=>[(19,.bool p)]) Ze Zf ?_ (λenv H d=>?_)
 .refine G0 2 Z (Lm Z (Go 2 Z (Is 16 k Z (λE k=>?_) (λE k=>?_))))
  .exact Go 4 Z (Cl k [])
  .exact Go 4 Z (Cl k [])
 refine Gx 1 Z (Ef d (Cn Z h (λF h=>?_) (λF h=>?_)))
 .refine Gc 8 Z ?_;obtain rfl:=Oi h;exact R2 4 5 Z Z (Lr [])
 refine Gc 18 Z (Bd h λf G h=>?_);refine Ct f [] [] (λf=>[(6,I f.1),(7,I f.2)]) Ze Zf ?_ (λenv H d=>?_)
 .refine G0 1 Z ?_;refine Lp [] [0,1] (λg=>[(6,I g.1),(7,I g.2.1),(8,I g.2.2)]) Ze G Zf (Lr []) λg T a q=>?_;refine G0 2 Z (Bd a λl b a=>?_);refine Ct l [] [0,1,6,7,8] (λl=>[(31,.bool l)]) Ze Zf ?_ (λenv H d=>?_)
  .refine G0 3 Z (Lm Z (Go 2 Z (Is 24 b Z (λs b=>?_) (λs b=>?_))))
   .refine Go 4 Z (Is 28 b Z (λt b=>?_) (λt b=>?_))
    .exact Go 4 Z (Cl b [])
    .exact Go 4 Z (Cl b [])
   .exact Go 8 Z (Cl b [])
  refine Gx 1 Z (Ef d (QW Z a (λu a=>?_) (λu a=>?_)))
  .refine Gc 2 Z (Qh a ?_);obtain rfl:=Oj q a;exact Gx 1 Z (QC (Lr []))
  refine Gc 8 Z (Bd a λJ w a=>IzE w (Ye J) Z (Go 4 Z (Cd [] a (e _ _) Z λV O a=>FE Z (Go 11 Z (Bd a λL x a=>IzE x (Ye L) Z (Go 4 Z (Cd [] a (e _ _) Z λW P a=>FE Z (Go 32 Z (Bd a λM y a=>IzE y (Ye M) Z (Go 2 Z (Cz [] a (k_ax _ _) Z λX Q a=>Go 3 Z (Bd a λm c a=>?_))))))))))));refine Ct m [] [0,1,6,8] (λm=>[(7,I m)]) Ze Zf ?_ (λenv H d=>?_)
  .refine G0 0 Z (Cn Z c (λz c=>?_) (λz c=>?_))
   .exact Gc 4 Z (Bd c λN B c=>IzE B (Ye N) Z (Go 2 Z (Cz [] c (k_h _ _ _) Z λY R c=>Go 3 Z (Cl c []))))
   exact Gc 1 Z (Cl c [])
  exact Gx 2 Z (Ef d (Gc 5 Z (Qg a (Lr []))))
 refine Gx 1 Z (Ef d (Gc 9 Z ?_));obtain rfl:=Oi h;exact R2 4 5 Z Z (Lr [])
def F_s:Nat->(List Step)->Int->Option (Int×Int)
  |0=>λ_ _=>none
  |n+1=>B_s (F_s n) n
theorem k_s(n:Nat):∀(a:List Step) (b:Int) (r:Int×Int),F_s n a b=some r->Csm prog 161 [.rsl 8 (List.map Step.enc a),I b] [] (λr=>.tup [I r.1,I r.2]) r:=by
  induction n with
  |zero=>intro a b r h;cases h
  |succ n ih=>intro a b r h;exact Qa2 _ ih n a b r h
def F_ip(n:Nat)(b:Cond)(rec237:Cond->Option Bool)(a:Int):Option (Ctl Int (Ctl Unit Bool)):=
  (bif decide (a<(b.Parts.length:Int))then(idx b.Parts a).bind λc=>(rec237 c).bind λd=>(bif (!d)then some (.done (.done false))else some (.cont (IntKind.i64.wrap (a+1))))else some (.done (.cont ())))
def B_r(rec237:Cond->Option Bool)(n:Nat)(a:Cond):Option Bool:=
  (bif (a.Kind==1)then((bif decide (1<=a.Var)then(bif decide (a.Var<=3)then(bif decide (0<=a.N)then(bif decide (a.N<=10000)then some ((a.Parts.length:Int)==0)else some false)else some false)else some false)else some false):Option Bool).bind λi=>some i else((bif (a.Kind==2)then some (a.Kind==2)else some (a.Kind==3)):Option Bool).bind λd=>((bif d then((bif decide ((a.Parts.length:Int)<1)then some true else some (decide (16<(a.Parts.length:Int)))):Option Bool).bind λe=>(bif e then some (.done false)else some (.cont ()))else(bif (a.Kind==4)then(bif ((a.Parts.length:Int) != 1)then some (.done false)else some (.cont ()))else some (.done false))):Option (Ctl Unit Bool)).bind λf=>match f with|.cont b=>(((bif (a.Var != 0)then some true else some (a.N != 0)):Option Bool).bind λg=>(bif g then some false else(iter (F_ip n a rec237) n 0:Option (Ctl Unit Bool)).bind λh=>match h with|.cont c=>(some true)|.done c=>some c))|.done b=>some b)
theorem QaS(rec237:Cond->Option Bool)(k:∀(l:Cond) (r:Bool),rec237 l=some r->Csm prog 273 [.agg (Cond.c l)] [] (λr=>.bool r) r)(n:Nat)(l:Cond)(r:Bool)(h:B_r rec237 n l=some r):
    Csm prog 273 [.agg (Cond.c l)] [] (λr=>.bool r) r:=by
 refine Qb func273 Z Z Z ?_;refine G0 20 Z (Cn Z h (λP h=>?_) (λP h=>?_))
 .refine Gc 1 Z (Bd h λu e h=>?_);refine Ct u [] [] (λu=>[(2,.bool u)]) Ze Zf ?_ (λenv H f=>?_)
  .refine G0 5 Z (Is 11 e Z (λQ e=>?_) (λQ e=>?_))
   .refine Go 5 Z (Is 16 e Z (λR e=>?_) (λR e=>?_))
    .refine Go 5 Z (Is 21 e Z (λw e=>?_) (λw e=>?_))
     .refine Go 5 Z (Is 26 e Z (λx e=>?_) (λx e=>?_))
      .exact Go 2 Z (Lm Z (Go 4 Z (Cl e [])))
      .exact Go 7 Z (Cl e [])
     .exact Go 12 Z (Cl e [])
    .exact Go 17 Z (Cl e [])
   .exact Go 22 Z (Cl e [])
  exact Gx 1 Z (Ef f (Gc 3 Z (Rt h 2 [])))
 refine Gc 7 Z (Bd h λm g h=>?_);refine Ct m [0] [1,5] (λm=>[(32,.bool m)]) Ze Zf ?_ (λenv H f=>?_)
 .refine G0 0 Z (Cn Z g (λy g=>?_) (λy g=>?_))
  .exact Gc 1 Z (Cl g [0])
  exact Gc 4 Z (Cl g [0])
 refine Gx 1 Z (Ef f (Bd h λT a h=>?_));refine YH (b:=T) [0] [1] Ze Ze Zf ?_ (λaa env H hb f=>?_)
 .refine G0 0 Z (Cn Z a (λz a=>?_) (λz a=>?_))
  .refine Gc 1 Z (Bd a λp i a=>?_);refine Ct p [0] [1] (λp=>[(44,.bool p)]) Ze Zf ?_ (λenv H f=>?_)
   .refine G0 3 Z (Lm Z (Go 2 Z (Is 39 i Z (λB i=>?_) (λB i=>?_))))
    .exact Go 6 Z (Cl i [0])
    .exact Go 2 Z (Lm Z (Go 3 Z (Cl i [0])))
   refine Gx 1 Z (Ef f (Cn Z a (λE a=>?_) (λE a=>?_)))
   .refine Gc 6 Z ?_;cases a;exact Qi (Gx 2 Z (Rt h 2 []))
   refine Gc 1 Z ?_;cases a;exact Qn Z (Lr [0])
  refine Gc 6 Z (QW Z a (λF a=>?_) (λF a=>?_))
  .refine Gc 6 Z ?_;cases a;exact Qi (Gx 2 Z (Rt h 2 []))
  refine Gc 4 Z (Lm Z (Go 3 Z (Cn Z a (λG a=>?_) (λG a=>?_))))
  .refine Gc 6 Z ?_;cases a;exact Qi (Gx 2 Z (Rt h 2 []))
  refine Gc 1 Z ?_;cases a;exact Qn Z (Lr [0])
 subst hb;refine Gx 2 Z (Ef f (Gc 2 Z (Bd h λq j h=>?_)));refine Ct q [0] [1] (λq=>[(58,.bool q)]) Ze Zf ?_ (λenv H f=>?_)
 .refine G0 5 Z (Is 54 j Z (λJ j=>?_) (λJ j=>?_))
  .exact Go 5 Z (Cl j [0])
  .exact Go 5 Z (Cl j [0])
 refine Gx 1 Z (Ef f (Cn Z h (λL h=>?_) (λL h=>?_)))
 .exact Gc 7 Z (Rt h 2 [])
 refine Gc 8 Z (Bd h λV W h=>?_);refine YH (b:=V) [] [] Ze Ze Zf ?_ (λab env H X f=>?_)
 .refine G0 1 Z ?_;refine Lp [0] [1] (λt=>[(3,I t)]) Ze W Zf (Lr [0]) λt ad d s=>?_;refine G0 6 Z (Lm Z (Go 3 Z (QW Z d (λM d=>?_) (λM d=>?_))))
  .refine Gc 2 Z (Qh d ?_);obtain rfl:=Oj s d;exact Gx 1 Z (Qn Z (Lr []))
  refine Gc 9 Z (Bd d λY N d=>IzE N (Y8 Y) Z (Go 1 Z (Cz [] d (k _) Z λae ac d=>Go 3 Z (Cn Z d (λO d=>?_) (λO d=>?_)))))
  .refine Gc 8 Z (Qm d ?_);obtain rfl:=Oj s d;exact Gx 1 Z (Qi (Gx 1 Z (Rt h 2 [])))
  exact Gc 8 Z (Qg d (Lr [0]))
 subst X;exact Gx 1 Z (Ef f (Gc 6 Z (Rt h 2 [])))
def F_r:Nat->Cond->Option Bool
  |0=>λ_=>none
  |n+1=>B_r (F_r n) n
theorem k_r(n:Nat):∀(a:Cond) (r:Bool),F_r n a=some r->Csm prog 273 [.agg (Cond.c a)] [] (λr=>.bool r) r:=by
  induction n with
  |zero=>intro a r h;cases h
  |succ n ih=>intro a r h;exact QaS _ ih n a r h
def F_bt(n:Nat)(a:Cond):Option Int:=
  (F_h n a 0).bind λr1=>(bif decide (256<r1)then some 2 else(F_r n a).bind λb=>(bif (!b)then some 71 else some 0))
theorem k_bt(n:Nat)(a:Cond)(r:Int)(h:F_bt n a=some r):
    Csm prog 234 [.agg (Cond.c a)] [] (λr=>I r) r:=by
 refine Qb func234 Z Z Z ?_;refine G0 10 Z (Cz [] h (k_h _ _ _) Z λr1 e h=>Go 3 Z (Cn Z h (λb h=>?_) (λb h=>?_)))
 .exact Gc 7 Z (Rt h 2 [])
 refine Gc 6 Z (Cz [] h (k_r _ _) Z λg f h=>Go 3 Z (Cn Z h (λd h=>?_) (λd h=>?_)))
 .exact Gc 7 Z (Rt h 2 [])
 exact Gc 8 Z (Rt h 2 [])
def F_le(n:Nat)(k:List Step)(rec235:(List Step)->Option Bool)(b:Int):Option (Ctl Int (Ctl Unit Bool)):=
  (bif decide (b<(k.length:Int))then(idx k b).bind λa=>((bif (a.Kind==1)then((bif decide (a.By<1)then some true else(bif decide (5<a.By)then some true else(F_ax n a.Cond).bind λd=>(bif (!d)then some true else(bif ((a.Then.length:Int) != 0)then some true else some ((a.Else.length:Int) != 0))))):Option Bool).bind λe=>(bif e then some (.done (.done (.done false)))else some (.cont ()))else(bif (a.Kind==2)then((bif (a.By != 0)then some true else(F_bt n a.Cond).bind λf=>(bif (f != 0)then some true else(bif ((a.Then.length:Int)==0)then some true else(rec235 a.Then).bind λg=>(bif (!g)then some true else(rec235 a.Else).bind λh=>some (!h))))):Option Bool).bind λi=>(bif i then some (.done (.done (.done false)))else some (.cont ()))else some (.done (.done (.done false))))):Option (Ctl Unit (Ctl Int (Ctl Unit Bool)))).bind λj=>match j with|.cont c=>(some (.cont (IntKind.i64.wrap (b+1))))|.done c=>some c else some (.done (.cont ())))
def B_f(rec235:(List Step)->Option Bool)(n:Nat)(c:List Step):Option Bool:=
  (iter (F_le n c rec235) n 0:Option (Ctl Unit Bool)).bind λb=>match b with|.cont a=>(some true)|.done a=>some a
theorem QaR(rec235:(List Step)->Option Bool)(i:∀(l:List Step) (r:Bool),rec235 l=some r->Csm prog 162 [.rsl 8 (List.map Step.enc l)] [] (λr=>.bool r) r)(n:Nat)(l:List Step)(r:Bool)(h:B_f rec235 n l=some r):
    Csm prog 162 [.rsl 8 (List.map Step.enc l)] [] (λr=>.bool r) r:=by
 refine Qb func162 Z Z Z ?_;refine G0 11 Z (Bd h λL M h=>?_);refine YH (b:=L) [] [] Ze Ze Zf ?_ (λQ env H P g=>?_)
 .refine G0 1 Z ?_;refine Lp [] [0] (λm=>[(3,I m)]) Ze M Zf (Lr []) λm Y e f=>?_;refine G0 5 Z (Lm Z (Go 3 Z (QW Z e (λp e=>?_) (λp e=>?_))))
  .refine Gc 2 Z (Qh e ?_);obtain rfl:=Oj f e;exact Gx 1 Z (Qn Z (Lr []))
  refine Gc 8 Z (Bd e λN q e=>IzE q (Ye N) Z (Go 18 Z (Bd e λO c e=>?_)));refine YH (b:=O) [] [0,3] Ze Ze Zf ?_ (λR env H hb g=>?_)
  .refine G0 0 Z (Cn Z c (λs c=>?_) (λs c=>?_))
   .refine Gc 1 Z (Bd c λj d c=>?_);refine Ct j [] [0,3] (λj=>[(44,.bool j)]) Ze Zf ?_ (λenv H g=>?_)
    .refine G0 5 Z (Is 22 d Z (λt d=>?_) (λt d=>?_))
     .exact Go 23 Z (Cl d [])
     .refine Go 5 Z (Is 27 d Z (λu d=>?_) (λu d=>?_))
      .exact Go 18 Z (Cl d [])
      .refine Go 2 Z (Cz [] d (k_ax _ _) Z λaa T d=>Go 3 Z (Is 33 d Z (λw d=>?_) (λw d=>?_)))
       .exact Go 12 Z (Cl d [])
       .refine Go 2 Z (Lm Z (Go 3 Z (Is 39 d Z (λx d=>?_) (λx d=>?_))))
        .exact Go 6 Z (Cl d [])
        .exact Go 2 Z (Lm Z (Go 3 Z (Cl d [])))
    refine Gx 1 Z (Ef g (Cn Z c (λy c=>?_) (λy c=>?_)))
    .refine Gc 6 Z ?_;cases c;refine Qi (Gx 3 Z (Qm e ?_));obtain rfl:=Oj f e;exact Gx 1 Z (Qi (Gx 1 Z (Rt h 2 [])))
    refine Gc 1 Z ?_;cases c;exact Qn Z (Lr [])
   refine Gc 6 Z (QW Z c (λz c=>?_) (λz c=>?_))
   .refine Gc 6 Z ?_;cases c;refine Qi (Gx 3 Z (Qm e ?_));obtain rfl:=Oj f e;exact Gx 1 Z (Qi (Gx 1 Z (Rt h 2 [])))
   refine Gc 1 Z (Bd c λk a c=>?_);refine Ct k [] [0,3] (λk=>[(73,.bool k)]) Ze Zf ?_ (λenv H g=>?_)
   .refine G0 5 Z (Is 50 a Z (λB a=>?_) (λB a=>?_))
    .exact Go 24 Z (Cl a [])
    .refine Go 2 Z (Cz [] a (k_bt _ _) Z λab V a=>Go 3 Z (Is 56 a Z (λE a=>?_) (λE a=>?_)))
     .exact Go 18 Z (Cl a [])
     .refine Go 2 Z (Lm Z (Go 3 Z (Is 62 a Z (λF a=>?_) (λF a=>?_))))
      .exact Go 12 Z (Cl a [])
      .refine Go 2 Z (Cz [] a (i _) Z λac W a=>Go 3 Z (Is 68 a Z (λG a=>?_) (λG a=>?_)))
       .exact Go 6 Z (Cl a [])
       .exact Go 2 Z (Cz [] a (i _) Z λad X a=>Go 3 Z (Cl a []))
   refine Gx 1 Z (Ef g (Cn Z c (λJ c=>?_) (λJ c=>?_)))
   .refine Gc 6 Z ?_;cases c;refine Qi (Gx 3 Z (Qm e ?_));obtain rfl:=Oj f e;exact Gx 1 Z (Qi (Gx 1 Z (Rt h 2 [])))
   refine Gc 1 Z ?_;cases c;exact Qn Z (Lr [])
  subst hb;exact Gx 3 Z (Ef g (Gc 5 Z (Qg e (Lr []))))
 subst P;exact Gx 1 Z (Ef g (Gc 6 Z (Rt h 2 [])))
def F_f:Nat->(List Step)->Option Bool
  |0=>λ_=>none
  |n+1=>B_f (F_f n) n
theorem k_f(n:Nat):∀(a:List Step) (r:Bool),F_f n a=some r->Csm prog 162 [.rsl 8 (List.map Step.enc a)] [] (λr=>.bool r) r:=by
  induction n with
  |zero=>intro a r h;cases h
  |succ n ih=>intro a r h;exact QaR _ ih n a r h
def F_ep(n:Nat)(a:List Step):Option Int:=
  (F_s n a 0).bind λr1=>((bif decide (64<r1.1)then some true else some (decide (256<r1.2))):Option Bool).bind λc=>(bif c then some 2 else((bif ((a.length:Int)==0)then some true else(F_f n a).bind λb=>some (!b)):Option Bool).bind λd=>(bif d then some 71 else some 0))
theorem k_ep(n:Nat)(i:List Step)(r:Int)(h:F_ep n i=some r):
    Csm prog 110 [.rsl 8 (List.map Step.enc i)] [] (λr=>I r) r:=by
 refine Qb func110 Z Z Z ?_;refine G0 8 Z (Cd [] h (k_s _ _ _) Z λr1 m h=>FE Z (Go 9 Z (Bd h λd b h=>?_)));refine Ct d [] [0] (λd=>[(15,.bool d)]) Ze Zf ?_ (λenv H c=>?_)
 .refine G0 4 Z (Is 12 b Z (λj b=>?_) (λj b=>?_))
  .exact Go 4 Z (Cl b [])
  .exact Go 4 Z (Cl b [])
 refine Gx 1 Z (Ef c (Cn Z h (λk h=>?_) (λk h=>?_)))
 .exact Gc 7 Z (Rt h 2 [])
 refine Gc 4 Z (Bd h λe a h=>?_);refine Ct e [] [] (λe=>[(23,.bool e)]) Ze Zf ?_ (λenv H c=>?_)
 .refine G0 2 Z (Lm Z (Go 2 Z (Is 19 a Z (λf a=>?_) (λf a=>?_))))
  .exact Go 5 Z (Cl a [])
  .exact Go 1 Z (Cz [] a (k_f _ _) Z λp l a=>Go 3 Z (Cl a []))
 refine Gx 1 Z (Ef c (Cn Z h (λg h=>?_) (λg h=>?_)))
 .exact Gc 7 Z (Rt h 2 [])
 exact Gc 8 Z (Rt h 2 [])
def F_gu(n:Nat)(g:List Part)(b:(List Int)×Int)(c:List Int)(a:(List Int)×Int):Option (Ctl ((List Int)×Int) (List Int)):=
  ((idx g b.2).bind λd=>(bif decide (a.2<d.Laps)then some (decide ((a.1.length:Int)<=256))else some false):Option Bool).bind λe=>(bif e then(app a.1 c).bind λf=>some (.cont (f,IntKind.i64.wrap (a.2+1)))else some (.done a.1))
def F_hv(n:Nat)(b:List Part)(rec239:(List Part)->Option (List Int))(a:(List Int)×Int):Option (Ctl ((List Int)×Int) (List Int)):=
  ((bif decide (a.2<(b.length:Int))then some (decide ((a.1.length:Int)<=256))else some false):Option Bool).bind λc=>(bif c then((idx b a.2).bind λd=>(bif (d.Laps==0)then(idx b a.2).bind λe=>(app a.1 [e.Mat]).bind λf=>some f else(idx b a.2).bind λg=>(rec239 g.Parts).bind λh=>(iter (F_gu n b a h) n (a.1,0):Option (List Int)).bind λi=>some i):Option (List Int)).bind λj=>some (.cont (j,IntKind.i64.wrap (a.2+1)))else some (.done a.1))
def B_u(rec239:(List Part)->Option (List Int))(n:Nat)(b:List Part):Option (List Int):=
  (iter (F_hv n b rec239) n (([]:List Int),0):Option (List Int)).bind λa=>some a
theorem QaJ(rec239:(List Part)->Option (List Int))(t:∀(u:List Part) (r:List Int),rec239 u=some r->C prog 163 [.rsl 3 (List.map Part.enc u)] [] (RQ (λr=>.osl 0 0 r.length 1) (λr=>[.row 3 1 (List.map (Qd .i64) r)]) r))(n:Nat)(u:List Part)(r:List Int)(h:B_u rec239 n u=some r):
    C prog 163 [.rsl 3 (List.map Part.enc u)] [] (RQ (λr=>.osl 0 0 r.length 1) (λr=>[.row 3 1 (List.map (Qd .i64) r)]) r):=by
 refine Qb func163 Z Z Z ?_;refine G0 7 Z ?_;refine vH (El (xs:=[]) (es:=List.map (Qd .i64) []) Qs Z Z Z Z Z trivial Z Z) ?_;refine FE Z (Go 9 Z (Bd h λg Q h=>?_));refine Ct g [0] [] (λg=>[(3,.osl 0 0 g.length 1)]) (λg=>[(0,.row 3 1 (List.map (Qd .i64) g))]) Zf ?_ (λenv H f=>?_)
 .refine G0 1 Z ?_;refine Lp [0] [0] (λj=>[(3,.osl 0 0 j.1.length 1),(4,I j.2)]) (λj=>[(0,.row 3 1 (List.map (Qd .i64) j.1))]) Q Zf (Lr [0]) λj Y b x=>?_;refine G0 2 Z (Bd b λq k b=>?_);refine Ct q [0] [0,3,4] (λq=>[(16,.bool q)]) Ze Zf ?_ (λenv H f=>?_)
  .refine G0 3 Z (Lm Z (Go 2 Z (Is 12 k Z (λy k=>?_) (λy k=>?_))))
   .exact Go 5 Z (Cl k [0])
   .exact Go 5 Z (Cl k [0])
  refine Gx 1 Z (Ef f (QW Z b (λz b=>?_) (λz b=>?_)))
  .refine Gc 2 Z (Qh b ?_);obtain rfl:=Oj x b;exact Gx 1 Z (QC (Lr [0]))
  refine Gc 3 Z (Bd b λl a b=>?_);refine Ct l [0] [0,4] (λl=>[(3,.osl 0 0 l.length 1)]) (λl=>[(0,.row 3 1 (List.map (Qd .i64) l))]) Zf ?_ (λenv H f=>?_)
  .refine G0 6 Z (Bd a λR B a=>IzE B (Q8 R) Z (Go 5 Z (Cn Z a (λE a=>?_) (λE a=>?_))))
   .refine Gc 5 Z (Bd a λw F a=>IzE F (Q8 w) Z (Go 2 Z ?_));refine vH (El (xs:=[.tmp 30]) (es:=List.map (Qd .i64) [w.Mat]) Qs Z Z Z Z Z ⟨Z,trivial⟩ Z Z) ?_;refine FE Z (Bd a λaa G a=>?_);refine vH (Qt (e:=(Qd .i64)) G Qs runUnderlying32 (Yd (i:=1))) ?_;exact FE Z (Go 6 Z (Cl a [2]))
   refine Gc 6 Z (Bd a λT J a=>IzE J (Q8 T) Z (Go 2 Z (Cd [] a (t _) Z λab X a=>FE Z (Go 8 Z (Bd a λm V a=>?_)))));refine Ct m [0] [0,4] (λm=>[(3,.osl 0 0 m.length 1)]) (λm=>[(0,.row 3 1 (List.map (Qd .i64) m))]) Zf ?_ (λenv H f=>?_)
   .refine G0 1 Z ?_;refine Lp [0,1] [0,4,5] (λp=>[(3,.osl 0 0 p.1.length 1),(6,I p.2)]) (λp=>[(0,.row 3 1 (List.map (Qd .i64) p.1))]) V Zf (Lr [0,1]) λp ac c L=>?_;refine G0 2 Z (Bd c λs d c=>?_);refine Ct s [0,1] [0,3,4,5,6] (λs=>[(50,.bool s)]) Ze Zf ?_ (λenv H f=>?_)
    .refine G0 4 Z (Bd d λW M d=>IzE M (Q8 W) Z (Go 4 Z (Is 46 d Z (λN d=>?_) (λN d=>?_))))
     .exact Go 5 Z (Cl d [0,1])
     .exact Go 5 Z (Cl d [0,1])
    refine Gx 1 Z (Ef f (QW Z c (λO c=>?_) (λO c=>?_)))
    .refine Gc 2 Z (Qh c ?_);obtain rfl:=Oj L c;exact Gx 1 Z (QC (Lr [0]))
    refine Gc 7 Z (Bd c λad P c=>?_);refine vH (Qt (e:=(Qd .i64)) P Qs runUnderlying32 (Yd (i:=1))) ?_;exact FE Z (Go 9 Z (Qg c (Lr [2,1])))
   refine Gx 1 Z ?_;cases a;exact QC (En f (Lr [0]))
  exact Gx 1 Z (Ef f (Gc 5 Z (Qg b (Lr [0]))))
 exact Gx 1 Z (Ef f (Gc 7 Z (Rt h 2 [0])))
def F_u:Nat->(List Part)->Option (List Int)
  |0=>λ_=>none
  |n+1=>B_u (F_u n) n
theorem k_u(n:Nat):∀(a:List Part) (r:List Int),F_u n a=some r->C prog 163 [.rsl 3 (List.map Part.enc a)] [] (RQ (λr=>.osl 0 0 r.length 1) (λr=>[.row 3 1 (List.map (Qd .i64) r)]) r):=by
  induction n with
  |zero=>intro a r h;cases h
  |succ n ih=>intro a r h;exact QaJ _ ih n a r h
def F_hw(n:Nat)(b:Course)(f:Int)(g:Int)(a:Int):Option (Ctl Int (Ctl Unit Int)):=
  (bif decide (a<(b.Legs.length:Int))then((idx b.Legs a).bind λc=>(bif (c.From==f)then(idx b.Legs a).bind λd=>some (d.To==g)else some false):Option Bool).bind λe=>(bif e then some (.done (.done a))else some (.cont (IntKind.i64.wrap (a+1))))else some (.done (.cont ())))
def F_ai(n:Nat)(c:Course)(d:Int)(e:Int):Option Int:=
  (iter (F_hw n c d e) n 0:Option (Ctl Unit Int)).bind λb=>match b with|.cont a=>(some (-1))|.done a=>some a
theorem k_ai(n:Nat)(q:Course)(s:Int)(t:Int)(r:Int)(h:F_ai n q s t=some r):
    Csm prog 164 [.agg (Course.c q),I s,I t] [] (λr=>I r) r:=by
 refine Qb func164 Z Z Z ?_;refine G0 12 Z (Bd h λu w h=>?_);refine YH (b:=u) [] [] Ze Ze Zf ?_ (λy env H x e=>?_)
 .refine G0 1 Z ?_;refine Lp [0] [1,2,3] (λi=>[(7,I i)]) Ze w Zf (Lr [0]) λi z a f=>?_;refine G0 6 Z (Lm Z (Go 3 Z (QW Z a (λj a=>?_) (λj a=>?_))))
  .refine Gc 2 Z (Qh a ?_);obtain rfl:=Oj f a;exact Gx 1 Z (Qn Z (Lr []))
  refine Gc 5 Z (Bd a λg d a=>?_);refine Ct g [0] [1,2,3,7] (λg=>[(32,.bool g)]) Ze Zf ?_ (λenv H e=>?_)
  .refine G0 4 Z (Bd d λB k d=>Iz k Z (Go 5 Z (Is 23 d Z (λl d=>?_) (λl d=>?_))))
   .exact Go 3 Z (Bd d λE m d=>Iz m Z (Go 6 Z (Cl d [0])))
   .exact Go 10 Z (Cl d [0])
  refine Gx 1 Z (Ef e (Cn Z a (λp a=>?_) (λp a=>?_)))
  .refine Gc 9 Z (Qm a ?_);obtain rfl:=Oj f a;exact Gx 1 Z (Qi (Gx 1 Z (Rt h 6 [])))
  exact Gc 8 Z (Qg a (Lr [0]))
 subst x;exact Gx 1 Z (Ef e (Gc 6 Z (Rt h 6 [])))
def F_gw(n:Nat)(b:List Int)(e:Int)(a:Int×Int):Option (Ctl (Int×Int) Int):=
  (bif decide (a.2<(b.length:Int))then(idx b a.2).bind λc=>((bif (c==e)then some (IntKind.i64.wrap (a.1+1))else some a.1):Option Int).bind λd=>some (.cont (d,IntKind.i64.wrap (a.2+1)))else some (.done a.1))
def F_am(n:Nat)(b:List Int)(c:Int):Option Int:=
  (iter (F_gw n b c) n (0,0):Option Int).bind λa=>some a
theorem k_am(n:Nat)(l:List Int)(m:Int)(r:Int)(h:F_am n l m=some r):
    Csm prog 165 [.rsl 1 (List.map (Qd .i64) l),I m] [] (λr=>I r) r:=by
 refine Qb func165 Z Z Z ?_;refine G0 16 Z (Bd h λc p h=>?_);refine Ct c [] [] (λc=>[(5,I c)]) Ze Zf ?_ (λenv H d=>?_)
 .refine G0 1 Z ?_;refine Lp [] [0,1] (λe=>[(5,I e.1),(6,I e.2)]) Ze p Zf (Lr []) λe q a g=>?_;refine G0 5 Z (Lm Z (Go 3 Z (QW Z a (λi a=>?_) (λi a=>?_))))
  .refine Gc 2 Z (Qh a ?_);obtain rfl:=Oj g a;exact Gx 1 Z (QC (Lr []))
  refine Gc 8 Z (Bd a λs j a=>Iz j Z (Go 5 Z (Bd a λf b a=>?_)));refine Ct f [] [0,1,6] (λf=>[(5,I f)]) Ze Zf ?_ (λenv H d=>?_)
  .refine G0 0 Z (Cn Z b (λk b=>?_) (λk b=>?_))
   .exact Gc 5 Z (Cl b [])
   exact Gc 1 Z (Cl b [])
  exact Gx 2 Z (Ef d (Gc 5 Z (Qg a (Lr []))))
 exact Gx 1 Z (Ef d (Gc 7 Z (Rt h 4 [])))
end Go.Sw
