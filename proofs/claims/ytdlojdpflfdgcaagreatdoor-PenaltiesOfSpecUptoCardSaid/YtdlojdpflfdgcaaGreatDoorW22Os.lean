/- What the functions compute that PenaltiesOfSpec reaches, and that their calls refine it (part 5 of 5). -/
import Derived.Test.YtdlojdpflfdgcaaGreatDoorW22Os4
set_option linter.unusedVariables false
set_option linter.unusedSimpArgs false
set_option maxRecDepth 100000
set_option maxHeartbeats 4000000
namespace Go.Sw
variable (n:Nat)
open List(map)
open Int(toNat)
open Go.IntKind(i64 u64 u8)
open Go.Proofs Tryz
def Pg(n:Nat)(g:Int)(d:AA Report)(a:Int):AB (AG Int (AG Unit (Report×Bool))):=(bif a<(d.length:Int) then(AJ d a).bind λe=>(bif (e.Case==g)then(AJ d a).bind λf=>some (.d (.d (f,true)))else some (.k (i64.wrap (a+1))))else some (.d (.k ())))
def Ir(e:AA AC)(f:Int):AB (Report×Bool):=(I0 n e).bind λg=>(iter (Pg n f g) n 0:AB (AG Unit (Report×Bool))).bind λd=>match d with|.k a=>(some (Uw,false))|.d a=>some a
theorem iu(k:AA AC)(l:Int):Kq (Ir n k l) 59 [.rsl 57 (map AC.c k),I l] [] (λr=>.tup [.agg (Report.c r.1),.bool r.2]) (λr=>[.cells 62 (Report.c r.1)]):=by
 refine Kg 9 func59 Z Z Z Z λr h=>Cd [] h (UM _ _) Z λy t h=>Fg 9 Z Z (Bd h λm p h=>BZ (b:=m) [0] [4] Ze Ze Zf ?_ (λ_ q=>?_))
 .refine G0 1 Z (Lp [0,1] [1,4,6] (λg=>[(7,I g)]) Ze p Zf (Lr [0,1]) λg u a d=>(G0 9 Z (Q5 Z a (λ_ a=>?_) (λ_ a=>?_))))
  .exact Gc 2 Z (Qi a (Gx 1 Z (JD d a Z (Lr [0]))))
  refine Gc 8 Z (Bd a λw e a=>(vV (Qn e Z ET E6) ?_));refine Fp j5 Z (vV (Ez Z EH Z (Qj e)) ?_);refine Go 4 Z (Cn Z a (λ_ a=>?_) (λ_ a=>?_))
  .refine Gc 4 Z (Bd a λx f a=>(vV (Qn f Z ET E6) ?_));refine vV (Qv Z GL E6 Z (Qj f) Z Z) (Go 7 Z (Qx a ?_));obtain rfl:=Oj d a;obtain rfl:=Oi h;exact Rx [0] [4,5] Z (Qo Z Z (Aa.cons (Qk GL E6 Z Z Z) (Aa.cons BT.tmp Aa.nil))) ⟨Z,Z⟩
  exact Gc 8 Z (Qg a (Lr [0,1]))
 subst q;refine Gc 8 Z ?_;obtain rfl:=Oi h;exact Rx [0] [4,5] Z (Qo Z Z (Aa.cons (Qk GL E6 Z Z Z) (Aa.cons BT.tmp Aa.nil))) ⟨Z,Z⟩
def My(g:AE)(h:AA AC)(i:Int):AB (Int×AD×Bool):=(Mm n h i).bind λa=>((bif a.2 then(bif (a.1.Kind==3)then some (.d (a.1.Bib,{Position:=a.1.Position,Time:=a.1.Amount,Laps:=0,Out:=false:AD},true))else(bif (a.1.Kind==4)then some (.d (a.1.Bib,{Position:=a.1.Position,Time:=0,Laps:=a.1.Amount,Out:=false:AD},true))else(bif (a.1.Kind==5)then some (.d (a.1.Bib,{Position:=a.1.Position,Time:=0,Laps:=0,Out:=true:AD},true))else(bif (a.1.Kind==2)then some (.d (0,Ut,false))else some (.k ())))))else some (.k ())):AB (AG Unit (Int×AD×Bool))).bind λk=>match k with|.k f=>((Ir n h i).bind λd=>((bif (!d.2)then some true else(bif d.1.Offence<0 then some true else some (decide ((g.Offences.length:Int)<=d.1.Offence)))):AB Bool).bind λj=>(bif j then some (0,Ut,false)else(AJ g.Offences d.1.Offence).bind λe=>some (d.1.Bib,{Position:=d.1.Position,Time:=e.Time,Laps:=e.Laps,Out:=e.Out:AD},true)))|.d f=>some f
theorem iv(q:AE)(s:AA AC)(t:Int):Kq (My n q s t) 24 [.agg (AE.c q),.rsl 57 (map AC.c s),I t] [] (λr=>.tup [I r.1,.agg (AD.c r.2.1),.bool r.2.2]) (λr=>[.cells 76 (AD.c r.2.1)]):=by
 refine Kg 12 func24 Z Z Z Z λr h=>Cd [] h (ij _ _ _) Z λG z h=>Fg 14 Z Z (Bd h λx a h=>DD (b:=x) [0,1] [1,2,3,7] Ze Ze Zf ?_ (λB env H hb u=>?_))
 .refine G0 0 Z (Cn Z a (λ_ a=>?_) (λ_ a=>?_))
  .refine Gc 13 Z (Cn Z a (λ_ a=>?_) (λ_ a=>?_))
   .refine Gc 1 Z (Bj 8 Z (D 8 Z (Eg Z (Go 6 Z ?_))));cases a;refine Qq (Gx 1 Z ?_);obtain rfl:=Oi h;exact Rx [1] [6,7,8] Z (Qo Z Z (Aa.cons BT.tmp (Aa.cons (Qk EX EI Z Z Z) (Aa.cons BT.tmp Aa.nil)))) ⟨Z,Z⟩
   refine Gc 6 Z (Cn Z a (λ_ a=>?_) (λ_ a=>?_))
   .refine Gc 1 Z (Bj 8 Z (D 8 Z (Eg Z (Go 6 Z ?_))));cases a;refine Qq (Gx 1 Z ?_);obtain rfl:=Oi h;exact Rx [1] [6,7,8] Z (Qo Z Z (Aa.cons BT.tmp (Aa.cons (Qk EX EI Z Z Z) (Aa.cons BT.tmp Aa.nil)))) ⟨Z,Z⟩
   refine Gc 6 Z (Cn Z a (λ_ a=>?_) (λ_ a=>?_))
   .refine Gc 1 Z (Bj 6 Z (D 6 Z (Eg Z (Go 6 Z ?_))));cases a;refine Qq (Gx 1 Z ?_);obtain rfl:=Oi h;exact Rx [1] [6,7,8] Z (Qo Z Z (Aa.cons BT.tmp (Aa.cons (Qk EX EI Z Z Z) (Aa.cons BT.tmp Aa.nil)))) ⟨Z,Z⟩
   refine Gc 6 Z (Cn Z a (λ_ a=>?_) (λ_ a=>?_))
   .refine Gc 10 Z ?_;cases a;refine Qq (Gx 1 Z ?_);obtain rfl:=Oi h;exact Rx [1] [6,7,8] Z (Qo Z Z (Aa.cons BT.tmp (Aa.cons (Qk EX EI Z Z Z) (Aa.cons BT.tmp Aa.nil)))) ⟨Z,Z⟩
   refine Gc 2 Z ?_;cases a;exact YC Z (Lr [0,1])
  refine Gc 1 Z ?_;cases a;exact YC Z (Lr [0,1])
 subst hb;refine Gx 1 Z (Qd u (Gc 4 Z (Cd [] h (iu _ _ _) Z λE y h=>Fg 10 Z Z (Bd h λe d h=>Cg e [0,1,3] [3,7,11] (λe=>[(71,.bool e)]) Ze Zf ?_ ?_))))
 .refine G0 4 Z (Is 59 d Z (λ_ d=>?_) (λ_ d=>?_))
  .exact Gl 13 Z d [0,1,3]
  .refine Go 5 Z (Is 64 d Z (λ_ d=>?_) (λ_ d=>?_))
   .exact Gl 8 Z d [0,1,3]
   .exact Go 4 Z (Lm Z (Gl 3 Z d [0,1,3]))
 refine Cn Z h (λ_ h=>?_) (λ_ h=>?_)
 .refine Gc 10 Z ?_;obtain rfl:=Oi h;exact Rx [1] [6,7,8] Z (Qo Z Z (Aa.cons BT.tmp (Aa.cons (Qk EX EI Z Z Z) (Aa.cons BT.tmp Aa.nil)))) ⟨Z,Z⟩
 refine Gc 8 Z (Bd h λF p h=>Iz p Z (Go 6 Z (Bj 12 Z (D 12 Z (Eg Z (Go 5 Z ?_))))));obtain rfl:=Oi h;exact Rx [1] [6,7,8] Z (Qo Z Z (Aa.cons BT.tmp (Aa.cons (Qk EX EI Z Z Z) (Aa.cons BT.tmp Aa.nil)))) ⟨Z,Z⟩
def Pz(d:AA Report)(a:(AA Int)×Int):AB (AG ((AA Int)×Int) (AA Int)):=(bif a.2<(d.length:Int) then(AJ d a.2).bind λe=>(I6 n a.1 e.Case).bind λf=>some (.k (f,i64.wrap (a.2+1)))else some (.d a.1))
def Pe(d:AA Ruling)(a:(AA Int)×Int):AB (AG ((AA Int)×Int) (AA Int)):=(bif a.2<(d.length:Int) then(AJ d a.2).bind λe=>(I6 n a.1 e.Case).bind λf=>some (.k (f,i64.wrap (a.2+1)))else some (.d a.1))
def Pi(l:AE)(m:AA AC)(p:Int)(d:AA Int)(a:(AA Int)×(AA AD)×Int):AB (AG ((AA Int)×(AA AD)×Int) ((AA Int)×(AA AD))):=(bif a.2.2<(d.length:Int) then(AJ d a.2.2).bind λg=>(My n l m g).bind λe=>((bif e.2.2 then some (e.1==p)else some false):AB Bool).bind λh=>((bif h then(AJ d a.2.2).bind λi=>(app a.1 [i]).bind λj=>(app a.2.1 [e.2.1]).bind λk=>some (j,k)else some (a.1,a.2.1)):AB ((AA Int)×(AA AD))).bind λf=>some (.k (f.1,f.2,i64.wrap (a.2.2+1)))else some (.d (a.1,a.2.1)))
def MY(e:AE)(d:AA AC)(i:Int):AB ((AA Int)×(AA AD)):=(IH n e).bind λj=>(bif (j != 0)then some ([],[])else(I0 n d).bind λk=>(iter (Pz n k) n (([]:AA Int),0):AB (AA Int)).bind λf=>(Me n d).bind λg=>(iter (Pe n g) n (f,0):AB (AA Int)).bind λh=>(iter (Pi n e d i h) n (([]:AA Int),([]:AA AD),0):AB ((AA Int)×(AA AD))).bind λa=>some (a.1,a.2))
theorem iR(y:AE)(P:AA AC)(a3:Int):Kq (MY n y P a3) 8 [.agg (AE.c y),.rsl 57 (map AC.c P),I a3] [] (λr=>.tup [.osl 0 0 r.1.length 1,.osl 1 0 r.2.length 4]) (λr=>[.row 3 1 (map (Qc .i64) r.1),.row 76 4 (map AD.c r.2)]):=by
 refine Kg 11 func8 Z Z Z Z λr h=>Cz [] h (dY _ _) Z λr1 an h=>Go 3 Z (Cn Z h (λ_ h=>?_) (λ_ h=>?_))
 .refine Gc 8 Z ?_;obtain rfl:=Oi h;refine R2 6 7 Z Z ?_;refine En (Ep (s:=6) (k:=1) (t:=3) (XP Z) Z) ?_;refine En (Ep (s:=7) (k:=4) (t:=76) (XP Z) Z) ?_;exact Lr [1,2]
 refine Gc 4 Z (vH (Ek (xs:=[]) (es:=map (Qc .i64) []) Qs Z Z Z Z Z trivial Z Z) ?_);refine Fg 6 Z Z (Cd [] h (UM _ _) Z λr3 ao h=>Fg 9 Z Z (Bd h λB af h=>Ct B [0,1] [1,2,3] (λB=>[(8,.osl 1 0 B.length 1)]) (λB=>[(1,.row 3 1 (map (Qc .i64) B))]) Zf ?_ (λenv H p=>?_)))
 .refine G0 1 Z (Lp [0,1,2] [1,2,3,9] (λw=>[(8,.osl 1 0 w.1.length 1),(10,I w.2)]) (λw=>[(1,.row 3 1 (map (Qc .i64) w.1))]) af Zf (Lr [0,1,2]) λw aq l Q=>?_);refine G0 9 Z (Q5 Z l (λ_ l=>?_) (λ_ l=>?_))
  .exact Gc 2 Z (Qi l (Gx 1 Z (JC Q l (Lr [0,1]))))
  refine Gc 8 Z (Bd l λag F l=>?_);refine vX (.ptr 2 (toNat w.2*4)) (Qn F Z ET E6) ?_;refine Fp j5 Z ?_;refine vX (I ag.Case) (Ez Z EH Z (Qj F)) ?_;exact Cd [1] l (US _ _ _) Z λar ak l=>Fg 9 Z Z (Qg l (Lr [0,3,2]))
 refine Gx 1 Z (Qd p (Gc 3 Z (Cd [] h (iX _ _) Z λau al h=>Fg 9 Z Z (Bd h λg ah h=>Ct g [0,1] [1,2,3] (λg=>[(8,.osl 1 0 g.length 1)]) (λg=>[(1,.row 3 1 (map (Qc .i64) g))]) Zf ?_ (λenv H p=>?_)))))
 .refine G0 1 Z (Lp [0,1,2] [1,2,3,11] (λx=>[(8,.osl 1 0 x.1.length 1),(12,I x.2)]) (λx=>[(1,.row 3 1 (map (Qc .i64) x.1))]) ah Zf (Lr [0,1,2]) λx av m T=>?_);refine G0 9 Z (Q5 Z m (λ_ m=>?_) (λ_ m=>?_))
  .exact Gc 2 Z (Qi m (Gx 1 Z (JC T m (Lr [0,1]))))
  refine Gc 8 Z (Bd m λai G m=>?_);refine vX (.ptr 2 (toNat x.2*6)) (Qn G Z Gp E7) ?_;refine Fp oW Z ?_;refine vX (I ai.Case) (Ez Z EH Z (Qj G)) ?_;exact Cd [1] m (US _ _ _) Z λaw am m=>Fg 9 Z Z (Qg m (Lr [0,3,2]))
 refine Gx 1 Z (Qd p (Gc 2 Z (vH (Ek (xs:=[]) (es:=map (Qc .i64) []) Qs Z Z Z Z Z trivial Z Z) ?_)));refine Fg 5 Z Z (vH (Ek (xs:=[]) (es:=map AD.c []) Fl Z Z Z Z Z trivial Z Z) ?_);refine Fg 9 Z Z (Bd h λq aj h=>Cg q [2,3] [] (λq=>[(13,.osl 0 0 q.1.length 1),(14,.osl 1 0 q.2.length 4)]) (λq=>[(0,.row 3 1 (map (Qc .i64) q.1)),(1,.row 76 4 (map AD.c q.2))]) Zf ?_ ?_)
 .refine G0 1 Z (Lp [0,1,2,3] [1,2,3,8] (λa=>[(13,.osl 2 0 a.1.length 1),(14,.osl 3 0 a.2.1.length 4),(15,I a.2.2)]) (λa=>[(2,.row 3 1 (map (Qc .i64) a.1)),(3,.row 76 4 (map AD.c a.2.1))]) aj Zf (Lr [0,1,2,3]) λa ax f W=>?_);refine G0 9 Z (Q5 Z f (λ_ f=>?_) (λ_ f=>?_))
  .exact Gc 2 Z (Qi f (Gx 1 Z (JC W f (Lr [2,3]))))
  refine Gc 5 Z ?_;obtain⟨J,z,f⟩:=YE f;obtain⟨d,L,f⟩:=YE f;refine b6 14 1 [62,63,64,65,66,67,68,61,69,70,71,17,16,1000013] [false,false,false,false,false,false,true,false,false,false,false,true,false,true] [[],[],[],[],[],[],[],[6],[6],[6],[6],[],[6,11],[6,11]] [[],[6],[11],[6,11],[6,11,13]] [[(0,0),(2,2)],[(0,0),(2,2)],[(0,0),(2,2)],[(0,0),(2,2)],[(0,0),(2,2)],[(0,0),(2,2)],[(0,1),(2,3)],[(1,1),(3,3)],[(1,1),(3,3)],[(1,1),(3,3)],[(1,1),(3,3),(4,4)],[(0,2),(1,3)],[(3,3)],[(3,4)]] [.agg (AE.c y),.rsl 57 (map AC.c P),.osl 1 0 g.length 1,I a.2.2,.ptr 1 (toNat a.2.2*1),I J,.tup [I d.1,.agg (AD.c d.2.1),.bool d.2.2],.tup [I d.1,.agg (AD.c d.2.1),.bool d.2.2],I d.1,.agg (AD.c d.2.1),.bool d.2.2,.ptr 4 0,I d.1,.any] [[.cells 33 (AE.c y),.row 3 1 (map (Qc .i64) g),.row 3 1 (map (Qc .i64) a.1),.row 76 4 (map AD.c a.2.1),.dead],[.cells 33 (AE.c y),.row 3 1 (map (Qc .i64) g),.row 3 1 (map (Qc .i64) a.1),.row 76 4 (map AD.c a.2.1),.dead,.cells 76 (AD.c d.2.1)],[.cells 33 (AE.c y),.row 3 1 (map (Qc .i64) g),.row 3 1 (map (Qc .i64) a.1),.row 76 4 (map AD.c a.2.1),.cells 76 (AD.c Ut)],[.cells 33 (AE.c y),.row 3 1 (map (Qc .i64) g),.row 3 1 (map (Qc .i64) a.1),.row 76 4 (map AD.c a.2.1),.cells 76 (AD.c Ut),.cells 76 (AD.c d.2.1)],[.cells 33 (AE.c y),.row 3 1 (map (Qc .i64) g),.row 3 1 (map (Qc .i64) a.1),.row 76 4 (map AD.c a.2.1),.cells 76 (AD.c d.2.1),.cells 76 (AD.c d.2.1)]] ([.cells 33 (AE.c y),.row 3 1 (map (Qc .i64) g),.row 3 1 (map (Qc .i64) a.1),.row 76 4 (map AD.c a.2.1),.cells 76 (AD.c d.2.1),.cells 76 (AD.c d.2.1)]) C1 Z Z Z Z Z Z Z ?_ Z ?_
  .refine CF.cons (Qe (v0 Z Z) (Qe (v0 Z Z) (Q6))) (CF.cons (Qe (v0 Z Z) (Qe (v0 Z Z) (Q6))) (CF.cons (Qe (v0 Z Z) (Qe (v0 Z Z) (Q6))) (CF.cons (Qe (v0 Z Z) (Qe (v0 Z Z) (Q6))) (CF.cons ?_ (CF.cons ?_ (CF.cons ?_ (CF.cons (Qe (v0 Z Z) (Qe (v0 Z Z) (Q6))) (CF.cons (Qe (v0 Z Z) (Qe (v0 Z Z) (Q6))) (CF.cons (Qe (v0 Z Z) (Qe (v0 Z Z) (Q6))) (CF.cons (Qe (v0 Z Z) (Qe (v0 Z Z) (Qe (v0 Z Z) (Q6)))) (CF.cons ?_ (CF.cons (Qe (v0 Z Z) (Q6)) (CF.cons ?_ (CF.nil))))))))))))))
   .refine Qe ?_ (Qe ?_ (Q6))
    iterate 2 refine Om Z (sD 2 (sD 3 sN)) ?_;refine vX (.ptr 1 (toNat a.2.2*1)) (Qn z Z EB EG) ?_;exact Wp
   .refine Qe ?_ (Qe ?_ (Q6))
    iterate 2 refine Om Z (sD 4 sN) ?_;refine vX (I J) (Ez Z EH Z (Qj z)) ?_;exact Wp
   .refine Qe ?_ (Qe ?_ (Q6))
    iterate 2 refine Om1 Z (sD 0 (sD 1 (sD 5 sN))) ?_;refine QC [] (Bh.fn call24 Z Z Z) (iv _ _ _ _ _ L) ?_;rintro _ _ ⟨rfl,rfl⟩;exact FE Z Wp
   .refine Qe ?_ (Qe ?_ (Q6))
    iterate 2 exact JH.alloc _ 17 76 4 _ Z Z Z Z Z Z Z (PF.alloc (v:=(.agg [I 0,I 0,I 0,.bool false])) zeroValue76 (Ds Z)) Z
   .refine Qe ?_ (Q6)
    .refine lz Z (sD 11 (sD 9 sN)) ?_;refine vU (Ey Z Z Z EI Z Z Z Z Z Z Z) ?_;exact FE Z Wp
  refine Go 4 Z (Bd f λM E f=>Ct M [0,1,2,3,4] [1,2,3,8,13,14,15,17] (λM=>[(77,.bool M)]) Ze Zf ?_ (λenv H p=>?_))
  .refine G0 3 Z (Is 73 E Z (λ_ E=>?_) (λ_ E=>?_))
   iterate 2 exact Gl 5 Z E [0,1,2,3,4]
  refine Gx 1 Z (Qd p (Bd f λu j f=>Ct u [0,1,0,0] [1,2,3,8,15] (λu=>[(13,.osl 2 0 u.1.length 1),(14,.osl 3 0 u.2.length 4)]) (λu=>[(2,.row 3 1 (map (Qc .i64) u.1)),(3,.row 76 4 (map AD.c u.2))]) Zf ?_ (λenv H p=>?_)))
  .refine G0 0 Z (Cn Z j (λ_ j=>?_) (λ_ j=>?_))
   .refine Gc 5 Z (Bd j λO N j=>?_);refine vX (.ptr 1 (toNat a.2.2*1)) (Qn N Z EB EG) ?_;refine vX (I O) (Ez Z EH Z (Qj N)) ?_;refine vH (Ek (xs:=[.tmp 82]) (es:=map (Qc .i64) [O]) Qs Z Z Z Z Z ⟨Z,trivial⟩ Z Z) ?_;refine FE Z (Bd j λay ab j=>vH (Qh (e:=(Qc .i64)) ab Qs EB (QF (i:=5))) ?_);refine Fg 6 Z Z (vH (Ek (xs:=[.tmp 86]) (es:=map AD.c [d.2.1]) Fl Z Z Z Z Z ⟨Z,trivial⟩ Z Z) ?_);refine FE Z (Bd j λaz ac j=>vH (Qh (e:=AD.c) ac Fl ED (QF (i:=7))) ?_);exact FE Z (Gl 2 Z j [0,1,6,8])
   exact YM 1 Z j [0,1,2,3]
  exact Gx 2 Z (Qd p (Gc 5 Z (Qg f (Lr [0,1,2,3]))))
 refine Gc 9 Z ?_;obtain rfl:=Oi h;exact R2 6 7 Z Z (Lr [0,1])
def PV(n:Nat)(h:AA AD)(d:(AA AD)×Int)(a:Int):AB (AG Int Int):=((bif a<(d.1.length:Int) then(AJ d.1 a).bind λe=>(AJ h d.2).bind λf=>some (decide (e.Position<=f.Position))else some false):AB Bool).bind λg=>(bif g then some (.k (i64.wrap (a+1)))else some (.d a))
def PQ(e:AA AD)(a:(AA AD)×Int):AB (AG ((AA AD)×Int) (AA AD)):=(bif a.2<(e.length:Int) then(iter (PV n e a) n 0:AB Int).bind λd=>(AJ e a.2).bind λf=>(CU a.1 d (a.1.length:Int)).bind λg=>(app [f] g).bind λh=>(CU a.1 0 d).bind λi=>(app i h).bind λj=>some (.k (j,i64.wrap (a.2+1)))else some (.d a.1))
def Lv(d:AA AD):AB (AA AD):=(iter (PQ n d) n (([]:AA AD),0):AB (AA AD)).bind λa=>some a
theorem gj(J:AA AD):Kq (Lv n J) 32 [.rsl 4 (map AD.c J)] [] (λr=>.osl 0 0 r.length 4) (λr=>[.row 76 4 (map AD.c r)]):=by
 refine Kg 7 func32 Z Z Z Z λr h=>vH (Ek (xs:=[]) (es:=map AD.c []) Fl Z Z Z Z Z trivial Z Z) ?_;refine Fg 9 Z Z (Bd h λs P h=>Cg s [0] [] (λs=>[(3,.osl 0 0 s.length 4)]) (λs=>[(0,.row 76 4 (map AD.c s))]) Zf ?_ ?_)
 .refine G0 1 Z (Lp [0] [0] (λg=>[(3,.osl 0 0 g.1.length 4),(4,I g.2)]) (λg=>[(0,.row 76 4 (map AD.c g.1))]) P Zf (Lr [0]) λg X a L=>?_);refine G0 5 Z (Lg 3 Z Z (Q5 Z a (λ_ a=>?_) (λ_ a=>?_)))
  .exact Gc 2 Z (Qi a (Gx 1 Z (JC L a (Lr [0]))))
  refine Gc 10 Z (Bd a λd N a=>Cg d [0] [0,3,4] (λd=>[(5,I d)]) Ze Zf ?_ ?_)
  .refine G0 1 Z (Lp [0] [0,3,4] (λp=>[(5,I p)]) Ze N Zf (Lr [0]) λp Q j y=>?_);refine G0 2 Z (Bd j λt f j=>Cg t [0] [0,3,4,5] (λt=>[(30,.bool t)]) Ze Zf ?_ ?_)
   .refine G0 0 Z (Bj 15 Z (D 5 Z (KN 4 f Z Z Z (λ_ f=>?_) (λ_ f=>?_))))
    .refine D 2 Z ?_;obtain⟨O,u,f⟩:=YE f;refine DS.v (x:=(.ptr 0 (toNat p*4))) (Qn u Z ED EI) ?_ (hg:=(gT Z));refine DS.wo (x:=.ptr 0 (toNat p*4)) ?_ ?_
     .exact Y' (gT Z) v_ Z Wp
     refine DS.v (x:=(I O.Position)) (Ez Z EH Z (Qj u)) ?_ (hg:=(gT Z));refine D 2 Z ?_;obtain⟨k,B,f⟩:=YE f;refine DS.v (x:=(.rp [I k.Position,I k.Time,I k.Laps,.bool k.Out])) (O5 (e:=AD.c) (l:=J) (v:=k) B ED EI) ?_ (hg:=(gT Z));exact D 2 Z (Eg Z (Gl 3 Z f [0]))
    .exact D 10 Z (Eg Z (Gl 3 Z f [0]))
   refine Q5 Z j (λ_ j=>?_) (λ_ j=>?_)
   .exact Gc 2 Z (Qi j (Gx 1 Z (JC y j (Lr [0]))))
   exact Gc 9 Z (Qg j (Lr [0]))
  refine Gc 1 Z (F8 8 4 [0,0,0,0,1,3,3,3] (by kernel_rfl) (Da 2 Z ?_));obtain⟨m,F,a⟩:=YE a;refine DA.wo (x:=.rp [I m.Position,I m.Time,I m.Laps,.bool m.Out]) ?_ ?_
  .exact Ix F ED EI Z Wp
  refine Da 1 Z ?_;refine KO (Ek (xs:=[.tmp 36]) (es:=map AD.c [m]) Fl Z Z Z Z Z ⟨Z,trivial⟩ Z Z) Z Z (Db 2 Z ?_);obtain⟨R,q,a⟩:=YE a;refine DB.wo2 (x:=.osl 0 (0+toNat d) (toNat (g.1.length:Int)-toNat d) 4) ?_ ?_ ?_
  iterate 2 refine vX (.osl 0 (0+toNat d) (toNat (g.1.length:Int)-toNat d) 4) (Yf (l:=g.1) q ED EI (.inr ⟨_,Z,Z⟩) (.inl ⟨Z,Z⟩)) ?_;exact Wp
  refine DB.done Z (Bd a λT G a=>vH (Qh (e:=AD.c) G Fl ED (O1 (b:=0) q)) ?_);refine Fg 7 Z Z (Bd a λV w a=>?_);refine vX (.osl 0 (0+toNat 0) (toNat d-toNat 0) 4) (kV (l:=g.1) w ED EI) ?_;refine Go 1 Z (Bd a λW H a=>vH (kU (e:=AD.c) w H Fl ED (QF (i:=2))) ?_);exact Fg 9 Z Z (Qg a (Lr [3]))
 exact QJ 7 Z h 2 [0]
def R0(a:AE)(d:Int):AB Int:=(IH n a).bind λe=>(bif (e != 0)then some e else((bif d<0 then some true else some (decide ((a.Distances.length:Int)<=d))):AB Bool).bind λf=>(bif f then some 90 else some 0))
theorem gQ(e:AE)(f:Int):Ks (R0 n e f) 69 [.agg (AE.c e),I f] [] (λr=>I r):=by
 refine Kg 9 func69 Z Z Z Z λr h=>Cz [] h (dY _ _) Z λl k h=>Go 10 Z (Cn Z h (λ_ h=>?_) (λ_ h=>?_))
 .exact QJ 8 Z h 4 []
 refine Gc 4 Z (Bd h λd a h=>Cg d [] [] (λd=>[(19,.bool d)]) Ze Zf ?_ ?_)
 .refine G0 4 Z (Is 13 a Z (λ_ a=>?_) (λ_ a=>?_))
  .exact Gl 7 Z a []
  .exact Go 3 Z (Lm Z (Gl 3 Z a []))
 refine Cn Z h (λ_ h=>?_) (λ_ h=>?_)
 .exact QJ 7 Z h 4 []
 exact QJ 8 Z h 4 []
def Ik(n:Nat)(i:AA AF)(e:(AA Int)×Int)(d:AA Int)(a:(AA Int)×Int):AB (AG ((AA Int)×Int) (AA Int)):=((AJ i e.2).bind λf=>(bif a.2<f.Laps then(bif 0<(d.length:Int) then some (decide ((a.1.length:Int)<=300))else some false)else some false):AB Bool).bind λg=>(bif g then(app a.1 d).bind λh=>some (.k (h,i64.wrap (a.2+1)))else some (.d a.1))
def LS(d:AA AF)(rec282:(AA AF)->AB (AA Int))(a:(AA Int)×Int):AB (AG ((AA Int)×Int) (AA Int)):=(bif a.2<(d.length:Int) then((AJ d a.2).bind λe=>(bif (e.Laps==0)then(AJ d a.2).bind λf=>(app a.1 [f.Mat]).bind λg=>some g else(AJ d a.2).bind λh=>(rec282 h.Parts).bind λi=>(iter (Ik n d a i) n (a.1,0):AB (AA Int)).bind λj=>some j):AB (AA Int)).bind λk=>some (.k (k,i64.wrap (a.2+1)))else some (.d a.1))
def M_(rec282:(AA AF)->AB (AA Int))(n:Nat)(d:AA AF):AB (AA Int):=(iter (LS n d rec282) n (([]:AA Int),0):AB (AA Int)).bind λa=>some a
theorem QaT(rec282:(AA AF)->AB (AA Int))(s:∀(t:AA AF) (r:AA Int),rec282 t=some r->C prog 70 [.rsl 3 (map AF.enc t)] [] (RQ (λr=>.osl 0 0 r.length 1) (λr=>[.row 3 1 (map (Qc .i64) r)]) r))(n:Nat)(t:AA AF)(r:AA Int)(h:M_ rec282 n t=some r):C prog 70 [.rsl 3 (map AF.enc t)] [] (RQ (λr=>.osl 0 0 r.length 1) (λr=>[.row 3 1 (map (Qc .i64) r)]) r):=by
 refine QG func70 Z Z Z ?_;refine G0 7 Z (vH (Ek (xs:=[]) (es:=map (Qc .i64) []) Qs Z Z Z Z Z trivial Z Z) ?_);refine Fg 9 Z Z (Bd h λj Q h=>Cg j [0] [] (λj=>[(3,.osl 0 0 j.length 1)]) (λj=>[(0,.row 3 1 (map (Qc .i64) j))]) Zf ?_ ?_)
 .refine G0 1 Z (Lp [0] [0] (λk=>[(3,.osl 0 0 k.1.length 1),(4,I k.2)]) (λk=>[(0,.row 3 1 (map (Qc .i64) k.1))]) Q Zf (Lr [0]) λk Y g x=>?_);refine G0 5 Z (Lg 3 Z Z (Q5 Z g (λ_ g=>?_) (λ_ g=>?_)))
  .exact Gc 2 Z (Qi g (Gx 1 Z (JC x g (Lr [0]))))
  refine Gc 3 Z (Bd g λl a g=>Cg l [0] [0,4] (λl=>[(3,.osl 0 0 l.length 1)]) (λl=>[(0,.row 3 1 (map (Qc .i64) l))]) Zf ?_ ?_)
  .refine G0 6 Z (Bd a λR z a=>CQ z (QP R) Z (Go 5 Z (Cn Z a (λ_ a=>?_) (λ_ a=>?_))))
   .refine Gc 5 Z (Bd a λu E a=>CQ E (QP u) Z (Go 2 Z (vH (Ek (xs:=[.tmp 25]) (es:=map (Qc .i64) [u.Mat]) Qs Z Z Z Z Z ⟨Z,trivial⟩ Z Z) ?_)));refine FE Z (Bd a λaa F a=>vH (Qh (e:=(Qc .i64)) F Qs EB (QF (i:=1))) ?_);exact FE Z (Gl 6 Z a [2])
   refine Gc 6 Z (Bd a λT G a=>CQ G (QP T) Z (Go 2 Z (Cd [] a (s _) Z λab X a=>Fg 8 Z Z (Bd a λm V a=>Ct m [0] [0,4] (λm=>[(3,.osl 0 0 m.length 1)]) (λm=>[(0,.row 3 1 (map (Qc .i64) m))]) Zf ?_ (λenv H w=>?_)))))
   .refine G0 1 Z (Lp [0,1] [0,4,5] (λp=>[(3,.osl 0 0 p.1.length 1),(6,I p.2)]) (λp=>[(0,.row 3 1 (map (Qc .i64) p.1))]) V Zf (Lr [0,1]) λp ac f J=>?_);refine G0 2 Z (Bd f λq d f=>Ct q [0,1] [0,3,4,5,6] (λq=>[(50,.bool q)]) Ze Zf ?_ (λenv H w=>?_))
    .refine G0 4 Z (Bd d λW L d=>CQ L (QP W) Z (Go 4 Z (Is 41 d Z (λ_ d=>?_) (λ_ d=>?_))))
     .refine Go 5 Z (Is 46 d Z (λ_ d=>?_) (λ_ d=>?_))
      iterate 2 exact Gl 5 Z d [0,1]
     .exact Gl 10 Z d [0,1]
    refine Gx 1 Z (Qd w (Q5 Z f (λ_ f=>?_) (λ_ f=>?_)))
    .exact Gc 2 Z (Qi f (Gx 1 Z (JC J f (Lr [0]))))
    refine Gc 7 Z (Bd f λae P f=>vH (Qh (e:=(Qc .i64)) P Qs EB (QF (i:=1))) ?_);exact Fg 9 Z Z (Qg f (Lr [2,1]))
   refine Gx 1 Z ?_;cases a;exact JE (En w (Lr [0]))
  exact Gc 5 Z (Qg g (Lr [0]))
 exact QJ 7 Z h 2 [0]
def HW:Nat->(AA AF)->AB (AA Int)
  |0=>λ_=>none
  |n+1=>M_ (HW n) n
theorem i_:∀(a:AA AF) (r:AA Int),HW n a=some r->C prog 70 [.rsl 3 (map AF.enc a)] [] (RQ (λr=>.osl 0 0 r.length 1) (λr=>[.row 3 1 (map (Qc .i64) r)]) r):=by
  induction n with
  |zero=>intro a r h;cases h
  |succ n ih=>intro a r h;exact QaT _ ih n a r h
def MD(a:AE)(d:Int):AB ((AA Int)×Int):=(R0 n a d).bind λe=>(bif (e != 0)then some ([],e)else(AJ a.Distances d).bind λg=>(some ():AB Unit).bind λh=>(HW n g.Route).bind λf=>(some ():AB Unit).bind λi=>(bif 256<(i64.wrap ((f.length:Int)+0)) then some ([],2)else some (f,0)))
theorem hU(a:AE)(d:Int):Kq (MD n a d) 33 [.agg (AE.c a),I d,I 0] [] (λr=>.tup [.osl 0 0 r.1.length 1,I r.2]) (λr=>[.row 3 1 (map (Qc .i64) r.1)]):=by
 refine Kg 11 func33 Z Z Z Z λr h=>Cz [] h (gQ _ _ _) Z λy w h=>Go 10 Z (Cn Z h (λ_ h=>?_) (λ_ h=>?_))
 .refine Gc 9 Z ?_;obtain rfl:=Oi h;refine R2 6 7 Z Z ?_;refine En (Ep (s:=6) (k:=1) (t:=3) (XP Z) Z) ?_;exact Lr [1]
 refine Gc 7 Z (Bd h λz f h=>Iz f Z (Go 7 Z (Bd h λj l h=>Ct j [1] [2,9] (λ_=>[(35,.bool false)]) Ze Zf ?_ (λenv H g=>?_))))
 .refine G0 2 Z ?_;refine vX (.bool false) (AK.lss (m:=0) (n:=0) Z Z Z) ?_;refine Go 2 Z ?_;refine vX (.bool false) (AK.gtr (m:=0) (n:=0) Z Z Z) ?_ (gT Z);exact Gl 7 Z l [1]
 refine Gx 1 Z (Qd g (Gc 7 Z (Cd [] h (i_ _ _) Z λp x h=>Fg 5 Z Z (Bd h λq u h=>Cg q [0,1] [2,9,10] (λ_=>[(47,.bool (decide (256<(i64.wrap ((p.length:Int)+0)))))]) Ze Zf ?_ ?_))))
 .refine G0 2 Z ?_;refine vX (.bool false) (AK.gtr (m:=0) (n:=256) Z Z Z) ?_;exact Gl 8 Z u [0,1]
 refine Cn Z h (λ_ h=>?_) (λ_ h=>?_)
 .refine Gc 8 Z ?_;obtain rfl:=Oi h;refine R2 6 7 Z Z ?_;refine En (Ep (s:=6) (k:=1) (t:=3) (XP Z) Z) ?_;exact Lr [2]
 refine Gc 6 Z ?_;refine vX (.bool true) (AK.eql (m:=0) (n:=0) Z Z Z) ?_;refine Go 12 Z ?_;obtain rfl:=Oi h;exact R2 6 7 Z Z (Lr [1])
def Li(n:Nat)(a:(AA AD)×Int×Int):AB (AG ((AA AD)×Int×Int) (AA AD)):=(bif a.2.2<(a.1.length:Int) then(AJ a.1 a.2.2).bind λd=>(AJ a.1 a.2.2).bind λf=>(D1 a.1 a.2.2 ({f with Laps:=(if a.2.1<d.Laps then a.2.1 else d.Laps):AD})).bind λe=>(AJ e a.2.2).bind λg=>some (.k (e,i64.wrap (a.2.1-g.Laps),i64.wrap (a.2.2+1)))else some (.d a.1))
def Pu(f:AE)(s:AA AC)(r:Int)(g:(AA Starter)×Int)(a:Int):AB (AG Int (AG Unit (AA AD))):=(bif a<(g.1.length:Int) then((AJ g.1 a).bind λh=>(bif (h.Bib != r)then some (.k ())else(MY n f s r).bind λi=>(Lv n i.2).bind λj=>(AJ g.1 a).bind λe=>(MD n f e.Distance).bind λk=>(AJ f.Distances e.Distance).bind λl=>((bif (l.Extra==(-1))then some 0 else some (i64.wrap (256-(k.1.length:Int)))):AB Int).bind λm=>(iter (Li n) n (j,m,0):AB (AA AD)).bind λp=>some (.d (.d (.d p)))):AB (AG Unit (AG Int (AG Unit (AA AD))))).bind λq=>match q with|.k d=>(some (.k (i64.wrap (a+1))))|.d d=>some d else some (.d (.k ())))
def Iw(e:AE)(f:AA AC)(h:Int):AB (AA AD):=(MN n e f).bind λg=>(bif (g.2 != 0)then some []else(iter (Pu n e f h g) n 0:AB (AG Unit (AA AD))).bind λd=>match d with|.k a=>(some [])|.d a=>some a)
theorem UK(X:AE)(Y:AA AC)(a3:Int):Kq (Iw n X Y a3) 12 [.agg (AE.c X),.rsl 57 (map AC.c Y),I a3] [] (λr=>.osl 0 0 r.length 4) (λr=>[.row 76 4 (map AD.c r)]):=by
 refine Kg 10 func12 Z Z Z Z λr h=>Cd [] h (iH _ _ _) Z λr1 au h=>Fg 14 Z Z (Cn Z h (λ_ h=>?_) (λ_ h=>?_))
 .refine Gc 7 Z ?_;obtain rfl:=Oi h;refine R1 6 Z ?_;refine En (Ep (s:=6) (k:=4) (t:=76) (XP Z) Z) ?_;exact Lr [2]
 refine Gc 8 Z (Bd h λO P h=>BZ (b:=O) [] [] Ze Ze Zf ?_ (λ_ ab=>?_))
 .refine G0 1 Z (Lp [0,1] [1,2,3,7] (λp=>[(9,I p)]) Ze P Zf (Lr [0,1]) λp aj i w=>?_);refine G0 9 Z (Q5 Z i (λ_ i=>?_) (λ_ i=>?_))
  .exact Gc 2 Z (Qi i (Gx 1 Z (JD w i Z (Lr []))))
  refine Gc 3 Z (Bd i λQ a i=>BZ (b:=Q) [0,1] [1,2,3,7,9] Ze Ze Zf ?_ (λ_ hb=>?_))
  .refine G0 6 Z (Bd a λR x a=>?_);refine vX (.ptr 1 (toNat p*8)) (Qn x Z EJ EP) ?_;refine Fp oT Z ?_;refine vX (I R.Bib) (Ez Z EH Z (Qj x)) ?_;refine Go 4 Z (Cn Z a (λ_ a=>?_) (λ_ a=>?_))
   .refine Gc 3 Z ?_;cases a;exact YC Z (Lr [0,1])
   refine Gc 7 Z (Cd [] a (iR _ _ _ _) Z λak ag a=>Fg 10 Z Z ?_);refine QB (Ji [(11,_),(38,_),(42,_),(44,_),(45,_)] Z Z (Aw.cons Z Eo (Aw.cons Z (BP.tup (Ed (Ee _) (Ed Eo (Ej _)))) (Aw.cons Z (BP.tup (Ed (Ee _) (Ed Eo (Ej _)))) (Aw.cons Z Eo (Aw.cons Z Eo Aw.nil))))) (Ec (Ec (Ec (Ec (YL _)))))) ?_;refine Cd [] a (gj _ _) Z λal ah a=>Fg 7 Z Z (Bd a λT y a=>?_);refine vX (.ptr 1 (toNat p*8)) (Qn y Z EJ EP) ?_;refine Fp oU Z ?_;refine vX (I T.Distance) (Ez Z EH Z (Y5 (f:=1) y)) ?_;refine Go 7 Z (Cd [] a (hU _ _ _) Z λam ai a=>Fg 21 Z Z (Bd a λan J a=>Iz J Z (Go 5 Z (Bd a λq l a=>Ct q [4] [11] (λq=>[(15,I q)]) Ze Zf ?_ (λenv H ac=>?_)))))
   .refine G0 0 Z (Cn Z l (λ_ l=>?_) (λ_ l=>?_))
    .exact YM 3 Z l [4]
    exact YM 1 Z l [4]
   refine Gx 1 Z (Qd ac (Gc 6 Z (Bd a λm V a=>Cg m [0] [] (λm=>[(11,.osl 0 0 m.length 4)]) (λm=>[(0,.row 76 4 (map AD.c m))]) Zf ?_ ?_)))
   .refine G0 1 Z (Lp [0] [] (λg=>[(11,.osl 0 0 g.1.length 4),(15,I g.2.1),(16,I g.2.2)]) (λg=>[(0,.row 76 4 (map AD.c g.1))]) V Zf (Lr [0]) λg ao d M=>?_);refine G0 9 Z (Q5 Z d (λ_ d=>?_) (λ_ d=>?_))
    .exact Gc 2 Z (Qi d (Gx 1 Z (JC M d (Lr [0]))))
    refine Gc 10 Z (Bd d λu z d=>?_);refine vX (.ptr 0 (toNat g.2.2*4)) (Qn z Z ED EI) ?_;refine Fp Sp Z ?_;refine vX (I u.Laps) (Ez Z EH Z (Y5 (f:=2) z)) ?_;refine Go 1 Z ?_;refine vX (I (if g.2.1<u.Laps then g.2.1 else u.Laps)) (AK.min Z Z Z Z) ?_;refine Bd d λaq B d=>?_;refine vX (.ptr 0 (toNat g.2.2*4)) (Qn B Z ED EI) ?_;refine Fp Sp Z (Bd d λar j d=>?_);refine vU (JG (e:=AD.c) (k:=4) (f:=2) B j EG Z Z) ?_;refine FE Z ?_;refine QB (QO (s:=11) Z (congrArg (λn=>A.osl 0 0 n 4) (Yh j))) ?_;refine QB (QO (s:=69) Z (congrArg (λn=>A.osl 0 0 n 4) (Yh j))) ?_;refine QB (QO (s:=74) Z (congrArg (λn=>A.osl 0 0 n 4) (Yh j))) ?_;refine QB (QO (s:=76) Z (congrArg (λn=>A.osl 0 0 n 4) (Yh j))) ?_;refine Go 6 Z (Bd d λW E d=>?_);refine vX (.ptr 0 (toNat g.2.2*4)) (Qn E Z ED EI) ?_;refine Fp Sp Z ?_;refine vX (I W.Laps) (Ez Z EH Z (Y5 (f:=2) E)) ?_;exact Go 10 Z (Qg d (Lr [0]))
   refine Gc 8 Z ?_;cases a;refine Qq (Gx 1 Z (Qx i ?_));obtain rfl:=Oj w i;exact Gx 1 Z (Qq (Gx 1 Z (Rt h 6 [0])))
  subst hb;exact Gc 5 Z (Qg i (Lr [0,1]))
 subst ab;refine Gc 6 Z ?_;obtain rfl:=Oi h;refine R1 6 Z ?_;refine En (Ep (s:=6) (k:=4) (t:=76) (XP Z) Z) ?_;exact Lr [0]
def mC(n:Nat)(d:AA AD)(a:Int×Int):AB (AG (Int×Int) Int):=(bif a.2<(d.length:Int) then(AJ d a.2).bind λe=>some (.k (i64.wrap (a.1+e.Laps),i64.wrap (a.2+1)))else some (.d a.1))
def Rc(a:AE)(d:AA AC)(e:Int):AB Int:=(Iw n a d e).bind λf=>(iter (mC n f) n (0,0):AB Int).bind λg=>some g
theorem f5(j:AE)(k:AA AC)(l:Int):Ks (Rc n j k l) 14 [.agg (AE.c j),.rsl 57 (map AC.c k),I l] [] (λr=>I r):=by
 refine Kg 16 func14 Z Z Z Z λr h=>Cd [] h (UK _ _ _ _) Z λu s h=>Fg 9 Z Z (Bd h λg q h=>Cg g [] [] (λg=>[(7,I g)]) Ze Zf ?_ ?_)
 .refine G0 1 Z (Lp [1] [8] (λd=>[(7,I d.1),(9,I d.2)]) Ze q Zf (Lr [1]) λd t a m=>?_);refine G0 9 Z (Q5 Z a (λ_ a=>?_) (λ_ a=>?_))
  .exact Gc 2 Z (Qi a (Gx 1 Z (JC m a (Lr []))))
  refine Gc 8 Z (Bd a λp e a=>?_);refine vX (.ptr 0 (toNat d.2*4)) (Qn e Z ED EI) ?_;refine Fp Sp Z ?_;refine vX (I p.Laps) (Ez Z EH Z (Y5 (f:=2) e)) ?_;exact Go 10 Z (Qg a (Lr [0]))
 exact QJ 7 Z h 6 []
def Rm(a:AE)(d:AA AC)(e:Int):AB Bool:=(Rn 300).bind λl=>(bif (!l)then some false else(MR n a d).bind λm=>(bif (!m)then some true else((Fq n a d e).bind λf=>(Iw n a d e).bind λg=>(HT n f g).bind λh=>(bif h then(M0 n a d e).bind λi=>(Rc n a d e).bind λj=>some (i==j)else some false):AB Bool).bind λk=>some k))
theorem gD(d:AE)(p:AA AC)(q:Int):Ks (Rm n d p q) 4 [.agg (AE.c d),.rsl 57 (map AC.c p),I q] [] (λr=>.bool r):=by
 refine Kg 9 func4 Z Z Z Z λr h=>Cz [] h (gE _) Z λF z h=>Go 3 Z (Cn Z h (λ_ h=>?_) (λ_ h=>?_))
 .exact QJ 7 Z h 6 []
 refine Gc 7 Z (Cz [] h (iK _ _ _) Z λG B h=>Go 3 Z (Cn Z h (λ_ h=>?_) (λ_ h=>?_)))
 .exact QJ 7 Z h 6 []
 refine Gc 3 Z (Bd h λe a h=>Cg e [] [] (λe=>[(6,.bool e)]) Ze Zf ?_ ?_)
 .refine G0 0 Z (FC 17 [3,7] [(0,0,0),(0,0,0),(0,0,0),(1,0,0),(0,0,1),(0,0,1),(0,0,1),(1,1,0),(0,2,2),(0,2,2),(0,2,2),(0,2,2),(0,2,2),(0,2,2),(0,2,2),(0,2,2),(0,2,2)] (by kernel_rfl) (Dk 3 Z ?_));obtain⟨f,i,a⟩:=YE a;refine Ex (x:=.osl 1 0 f.length 4) (X1:=[.cells 33 (AE.c d),.row 76 4 (map AD.c f)]) ?_ ?_
  .refine QC [] (Bh.fn call11 Z Z Z) (Ko _ _ _ _ _ i) ?_;rintro _ _ ⟨rfl,rfl⟩;exact FE Z Wp
  refine tU (lo:=0) (hi:=1) (x:=.agg (AE.c d)) ⟨Z,Z,trivial⟩ ?_;refine Dk 2 Z ?_;obtain⟨g,j,a⟩:=YE a;refine Ex (x:=.osl 2 0 g.length 4) (X1:=[.cells 33 (AE.c d),.row 76 4 (map AD.c f),.row 76 4 (map AD.c g)]) ?_ ?_
  .refine QC [] (Bh.fn call12 Z Z Z) (UK _ _ _ _ _ j) ?_;rintro _ _ ⟨rfl,rfl⟩;exact FE Z Wp
  obtain⟨u,k,a⟩:=YE a;refine DK.wo (x:=.bool u) ?_ ?_
  .refine b7 (Bh.fn call10 rfl rfl rfl) (DI.cons rfl (.inr ⟨_,_,_,_,_,rfl,rfl,XZ ..,rfl⟩) (DI.cons rfl (.inr ⟨_,_,_,_,_,rfl,rfl,XZ ..,rfl⟩) DI.nil)) (Kn _ _ _ _ k) (by rintro _ _ ⟨rfl,rfl⟩;rfl) ?_;rintro _ _ ⟨rfl,rfl⟩;exact FE Z Wp
  refine Dk 1 Z (WH 9 a Z Z Z (λ_ a=>?_) (λ_ a=>?_))
  .refine Dk 3 Z ?_;obtain⟨w,m,a⟩:=YE a;refine DK.wo (x:=I w) ?_ ?_
   .exact Pc [] Z (Bh.fn call13 Z Z Z) (UD _ _ _ _ _ m) (hg:=(gT Z)) Z Wp
   exact Dk 3 Z (DK.done Z Z (Cz [] a (f5 _ _ _ _) Z λE y a=>Gl 4 Z a []))
  .exact Dk 7 Z (DK.done Z Z (Gl 5 Z a []))
 exact QJ 1 Z h 6 []
end Go.Sw
