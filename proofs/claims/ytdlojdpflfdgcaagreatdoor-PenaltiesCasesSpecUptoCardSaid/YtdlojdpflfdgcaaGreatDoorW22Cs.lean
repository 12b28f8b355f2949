/- What the functions compute that PenaltiesCasesSpec reaches, and that their calls refine it (part 5 of 5). -/
import Derived.Test.YtdlojdpflfdgcaaGreatDoorW22Cs4
set_option linter.unusedVariables false
set_option linter.unusedSimpArgs false
set_option maxRecDepth 100000
set_option maxHeartbeats 4000000
namespace Go.Sw
variable (n:Nat)
open List(map)
open Int(toNat)
open Go.IntKind(i64 u64 u8)
open Go.Proofs Tryz
def F_ki(n:Nat)(d:List Fact)(i:Int)(a:Int):Option (Ctl Int (Ctl Unit Bool)):=(bif decide (a<(d.length:Int))then((idx d a).bind λe=>(bif (e.Kind==11)then(idx d a).bind λf=>(bif (f.Appeal.Case==i)then(idx d a).bind λg=>some g.Appeal.Suspends else some false)else some false):Option Bool).bind λh=>(bif h then some (.done (.done true))else some (.cont (i64.wrap (a+1))))else some (.done (.cont ())))
def F_cy(d:List Fact)(e:Int):Option Bool:=((F_aj n d e 1).bind λg=>(bif decide (g<0)then some true else(F_aj n d e 2).bind λh=>some (decide (0<=h))):Option Bool).bind λi=>(bif i then some false else(iter (F_ki n d e) n 0:Option (Ctl Unit Bool)).bind λf=>match f with|.cont a=>(some false)|.done a=>some a)
theorem k_cy(u:List Fact)(w:Int):Ks (F_cy n u w) 132 [.rsl 57 (map Fact.c u),I w] [] (λr=>.bool r):=by
 refine Kg 7 func132 Z Z Z Z λr h=>Bd h λj e h=>Ct j [] [0,1] (λj=>[(15,.bool j)]) Ze Zf ?_ (λenv H x=>?_)
 .refine G0 3 Z (Cz [] e (k_aj _ _ _ _) Z λQ J e=>Go 2 Z (Is 10 e Z (λ_ e=>?_) (λ_ e=>?_)))
  .exact Gl 6 Z e []
  .exact Go 2 Z (Cz [] e (k_aj _ _ _ _) Z λR L e=>Gl 3 Z e [])
 refine Gx 1 Z (Qf x (Cn Z h (λ_ h=>?_) (λ_ h=>?_)))
 .exact QI 7 Z h 4 []
 refine Gc 8 Z (Bd h λB E h=>CgE (b:=B) [] [] Ze Ze Zf ?_ (λ_ F=>?_))
 .refine G0 1 Z (Lp [] [0,1] (λi=>[(5,I i)]) Ze E Zf (Lr []) λi M d f=>(G0 5 Z (Lg 3 Z Z (Q8 Z d (λ_ d=>?_) (λ_ d=>?_)))))
  .exact Gc 2 Z (Ql d (Gx 1 Z (JN f d Z (Lr []))))
  refine Gc 5 Z (Bd d λg a d=>Cg g [] [0,1,5] (λg=>[(45,.bool g)]) Ze Zf ?_ ?_)
  .refine G0 3 Z (Bd a λN l a=>Iz l Z (Go 4 Z (Is 28 a Z (λ_ a=>?_) (λ_ a=>?_))))
   .refine Go 2 Z (Bd a λO p a=>Iz p Z (Go 7 Z (Is 38 a Z (λ_ a=>?_) (λ_ a=>?_))))
    .exact Go 2 Z (Bd a λP s a=>Iz s Z (Gl 5 Z a []))
    .exact Gl 8 Z a []
   .exact Gl 18 Z a []
  refine Cn Z d (λ_ d=>?_) (λ_ d=>?_)
  .refine Gc 8 Z (Qx d ?_);obtain rfl:=Oj f d;exact Gx 1 Z (Qt (Gx 1 Z (Rt h 4 [])))
  exact Gc 8 Z (Qj d (Lr []))
 subst F;exact QI 6 Z h 4 []
def F_bm(a:List Fact)(d:Int):Option Int:=(F_cy n a d).bind λf=>(bif f then some (-1)else(F_aj n a d 2).bind λe=>(bif decide (0<=e)then some e else(F_aj n a d 1).bind λg=>some g))
theorem k_bm(a:List Fact)(d:Int):Ks (F_bm n a d) 57 [.rsl 57 (map Fact.c a),I d] [] (λr=>I r):=by
 refine Kg 10 func57 Z Z Z Z λr h=>Cz [] h (k_cy _ _ _) Z λk g h=>Go 2 Z (Cn Z h (λ_ h=>?_) (λ_ h=>?_))
 .exact QI 7 Z h 4 []
 refine Gc 6 Z (Cz [] h (k_aj _ _ _ _) Z λl i h=>Go 10 Z (Cn Z h (λ_ h=>?_) (λ_ h=>?_)))
 .exact QI 8 Z h 4 []
 exact Gc 6 Z (Cz [] h (k_aj _ _ _ _) Z λm j h=>Gt 4 Z h 4 [])
def F_lg(e:List Fact)(f:List Int)(a:(List Ruling)×Int):Option (Ctl ((List Ruling)×Int) (List Ruling)):=(bif decide (a.2<(f.length:Int))then(idx f a.2).bind λg=>(F_bm n e g).bind λd=>((bif decide (0<=d)then(idx e d).bind λh=>(app a.1 [h.Ruling]).bind λi=>some i else some a.1):Option (List Ruling)).bind λj=>some (.cont (j,i64.wrap (a.2+1)))else some (.done a.1))
def F_dz(e:List Fact):Option (List Ruling):=(F_ar n e).bind λa=>(F_ba n a 10).bind λf=>(iter (F_lg n a f) n (([]:List Ruling),0):Option (List Ruling)).bind λd=>some d
theorem k_dz(t:List Fact):Kq (F_dz n t) 23 [.rsl 57 (map Fact.c t)] [] (λr=>.osl 0 0 r.length 6) (λr=>[.row 66 6 (map Ruling.c r)]):=by
 refine Kg 8 func23 Z Z Z Z λr h=>Cd [] h (k_ar _ _) Z λL y h=>Fg 6 Z Z ?_;refine QG (Jm [(3,_),(9,_),(10,_)] Z Z (Qpf.cons Z Eo (Qpf.cons Z Eo (Qpf.cons Z Eo Qpf.nil))) (Ec (YD _))) (Cd [] h (k_ba _ _ _) Z λM z h=>Fg 5 Z Z (vH (Ek (xs:=[]) QjN Z Z Z Z Z trivial Z Z) ?_));refine Fg 9 Z Z (Bd h λf u h=>Cg f [1] [] (λf=>[(5,.osl 0 0 f.length 6)]) (λf=>[(0,.row 66 6 (map Ruling.c f))]) Zf ?_ ?_)
 .refine G0 1 Z (Lp [1,2] [3,4] (λg=>[(5,.osl 1 0 g.1.length 6),(6,I g.2)]) (λg=>[(1,.row 66 6 (map Ruling.c g.1))]) u Zf (Lr [1,2]) λg B a l=>?_);refine G0 9 Z (Q8 Z a (λ_ a=>?_) (λ_ a=>?_))
  .exact Gc 2 Z (Ql a (Gx 1 Z (cQo l a (Lr [1]))))
  refine Gc 9 Z (Bd a λE k a=>(vV (Qv k Z EA EE) ?_));refine vV (Ey Z EF Z (Qi k)) ?_;refine Cz [] a (k_bm _ _ _) Z λF x a=>Go 9 Z (Bd a λj d a=>Ct j [0,0] [3,4,6] (λj=>[(5,.osl 1 0 j.length 6)]) (λj=>[(1,.row 66 6 (map Ruling.c j))]) Zf ?_ (λenv H w=>?_))
  .refine G0 0 Z (Cn Z d (λ_ d=>?_) (λ_ d=>?_))
   .refine Gc 4 Z (Bd d λG q d=>Iz q Z (Go 2 Z (vH (Ek (xs:=[.tmp 32]) QjN Z Z Z Z Z ⟨Z,trivial⟩ Z Z) ?_)));refine FE Z (Bd d λJ s d=>vH (Qk (e:=Ruling.c) s QjN Gk (QH (i:=2))) ?_);exact FE Z (Gl 2 Z d [0,3])
   exact YC 1 Z d [0,1]
  exact Gx 2 Z (Qf w (Gc 5 Z (Qj a (Lr [0,1]))))
 exact QI 7 Z h 2 [0]
def F_dj(e:List Fact)(f:Int):Option (Ruling×Bool):=(F_ar n e).bind λa=>(F_bm n a f).bind λd=>(bif decide (d<0)then some (Ux,false)else(idx a d).bind λg=>some (g.Ruling,true))
theorem k_dj(d:List Fact)(e:Int):Kq (F_dj n d e) 58 [.rsl 57 (map Fact.c d),I e] [] (λr=>.tup [.agg (Ruling.c r.1),.bool r.2]) (λr=>[.cells 66 (Ruling.c r.1)]):=by
 refine Kg 9 func58 Z Z Z Z λr h=>Cd [] h (k_ar _ _) Z λj g h=>Fg 7 Z Z (Cb h (k_bm _ _ _) Z (lo (ls ln)) λk i h=>Go 10 Z (Cn Z h (λ_ h=>?_) (λ_ h=>?_)))
 .refine Gc 9 Z ?_;obtain rfl:=Oi h;exact Rx [0] [4,5] Z (Qp Z Z (Qlb.cons (Qg Gz E4 Z Z Z) (Qlb.cons QdB.tmp Qlb.nil))) ⟨Z,Z⟩
 refine Gc 6 Z (Bd h λl a h=>(vV (Qv a Z EB EC) ?_));refine Fp Qam Z (vV (Qs Z Gz E4 Z (Qd5 a) Z Z) ?_);refine Go 5 Z ?_;obtain rfl:=Oi h;exact Rx [0] [4,5] Z (Qp Z Z (Qlb.cons (Qg Gz E4 Z Z Z) (Qlb.cons QdB.tmp Qlb.nil))) ⟨Z,Z⟩
def F_le(n:Nat)(g:Int)(d:List Report)(a:Int):Option (Ctl Int (Ctl Unit (Report×Bool))):=(bif decide (a<(d.length:Int))then(idx d a).bind λe=>(bif (e.Case==g)then(idx d a).bind λf=>some (.done (.done (f,true)))else some (.cont (i64.wrap (a+1))))else some (.done (.cont ())))
def F_bu(e:List Fact)(f:Int):Option (Report×Bool):=(F_bf n e).bind λg=>(iter (F_le n f g) n 0:Option (Ctl Unit (Report×Bool))).bind λd=>match d with|.cont a=>(some (Uw,false))|.done a=>some a
theorem k_bu(k:List Fact)(l:Int):Kq (F_bu n k l) 59 [.rsl 57 (map Fact.c k),I l] [] (λr=>.tup [.agg (Report.c r.1),.bool r.2]) (λr=>[.cells 62 (Report.c r.1)]):=by
 refine Kg 9 func59 Z Z Z Z λr h=>Cd [] h (k_bf _ _) Z λy t h=>Fg 9 Z Z (Bd h λm p h=>CgE (b:=m) [0] [4] Ze Ze Zf ?_ (λ_ q=>?_))
 .refine G0 1 Z (Lp [0,1] [1,4,6] (λg=>[(7,I g)]) Ze p Zf (Lr [0,1]) λg u a d=>(G0 9 Z (Q8 Z a (λ_ a=>?_) (λ_ a=>?_))))
  .exact Gc 2 Z (Ql a (Gx 1 Z (JN d a Z (Lr [0]))))
  refine Gc 8 Z (Bd a λw e a=>(vV (Qv e Z EQ E3) ?_));refine Fp Qh7 Z (vV (Ey Z EF Z (Qi e)) ?_);refine Go 4 Z (Cn Z a (λ_ a=>?_) (λ_ a=>?_))
  .refine Gc 4 Z (Bd a λx f a=>(vV (Qv f Z EQ E3) ?_));refine vV (Qs Z GG E3 Z (Qi f) Z Z) (Go 7 Z (Qx a ?_));obtain rfl:=Oj d a;obtain rfl:=Oi h;exact Rx [0] [4,5] Z (Qp Z Z (Qlb.cons (Qg GG E3 Z Z Z) (Qlb.cons QdB.tmp Qlb.nil))) ⟨Z,Z⟩
  exact Gc 8 Z (Qj a (Lr [0,1]))
 subst q;refine Gc 8 Z ?_;obtain rfl:=Oi h;exact Rx [0] [4,5] Z (Qp Z Z (Qlb.cons (Qg GG E3 Z Z Z) (Qlb.cons QdB.tmp Qlb.nil))) ⟨Z,Z⟩
def F_br(g:Course)(h:List Fact)(i:Int):Option (Int×Penalty×Bool):=(F_dj n h i).bind λa=>((bif a.2 then(bif (a.1.Kind==3)then some (.done (a.1.Bib,{Position:=a.1.Position,Time:=a.1.Amount,Laps:=0,Out:=false:Penalty},true))else(bif (a.1.Kind==4)then some (.done (a.1.Bib,{Position:=a.1.Position,Time:=0,Laps:=a.1.Amount,Out:=false:Penalty},true))else(bif (a.1.Kind==5)then some (.done (a.1.Bib,{Position:=a.1.Position,Time:=0,Laps:=0,Out:=true:Penalty},true))else(bif (a.1.Kind==2)then some (.done (0,Ut,false))else some (.cont ())))))else some (.cont ())):Option (Ctl Unit (Int×Penalty×Bool))).bind λk=>match k with|.cont f=>((F_bu n h i).bind λd=>((bif (!d.2)then some true else(bif decide (d.1.Offence<0)then some true else some (decide ((g.Offences.length:Int)<=d.1.Offence)))):Option Bool).bind λj=>(bif j then some (0,Ut,false)else(idx g.Offences d.1.Offence).bind λe=>some (d.1.Bib,{Position:=d.1.Position,Time:=e.Time,Laps:=e.Laps,Out:=e.Out:Penalty},true)))|.done f=>some f
theorem k_br(q:Course)(s:List Fact)(t:Int):Kq (F_br n q s t) 24 [.agg (Course.c q),.rsl 57 (map Fact.c s),I t] [] (λr=>.tup [I r.1,.agg (Penalty.c r.2.1),.bool r.2.2]) (λr=>[.cells 76 (Penalty.c r.2.1)]):=by
 refine Kg 12 func24 Z Z Z Z λr h=>Cd [] h (k_dj _ _ _) Z λG z h=>Fg 14 Z Z (Bd h λx a h=>CtE (b:=x) [0,1] [1,2,3,7] Ze Ze Zf ?_ (λB env H hb u=>?_))
 .refine G0 0 Z (Cn Z a (λ_ a=>?_) (λ_ a=>?_))
  .refine Gc 13 Z (Cn Z a (λ_ a=>?_) (λ_ a=>?_))
   .refine Gc 1 Z (DSs 8 Z (D 8 Z (Eg Z (Go 6 Z ?_))));cases a;refine Qt (Gx 1 Z ?_);obtain rfl:=Oi h;exact Rx [1] [6,7,8] Z (Qp Z Z (Qlb.cons QdB.tmp (Qlb.cons (Qg EV EG Z Z Z) (Qlb.cons QdB.tmp Qlb.nil)))) ⟨Z,Z⟩
   refine Gc 6 Z (Cn Z a (λ_ a=>?_) (λ_ a=>?_))
   .refine Gc 1 Z (DSs 8 Z (D 8 Z (Eg Z (Go 6 Z ?_))));cases a;refine Qt (Gx 1 Z ?_);obtain rfl:=Oi h;exact Rx [1] [6,7,8] Z (Qp Z Z (Qlb.cons QdB.tmp (Qlb.cons (Qg EV EG Z Z Z) (Qlb.cons QdB.tmp Qlb.nil)))) ⟨Z,Z⟩
   refine Gc 6 Z (Cn Z a (λ_ a=>?_) (λ_ a=>?_))
   .refine Gc 1 Z (DSs 6 Z (D 6 Z (Eg Z (Go 6 Z ?_))));cases a;refine Qt (Gx 1 Z ?_);obtain rfl:=Oi h;exact Rx [1] [6,7,8] Z (Qp Z Z (Qlb.cons QdB.tmp (Qlb.cons (Qg EV EG Z Z Z) (Qlb.cons QdB.tmp Qlb.nil)))) ⟨Z,Z⟩
   refine Gc 6 Z (Cn Z a (λ_ a=>?_) (λ_ a=>?_))
   .refine Gc 10 Z ?_;cases a;refine Qt (Gx 1 Z ?_);obtain rfl:=Oi h;exact Rx [1] [6,7,8] Z (Qp Z Z (Qlb.cons QdB.tmp (Qlb.cons (Qg EV EG Z Z Z) (Qlb.cons QdB.tmp Qlb.nil)))) ⟨Z,Z⟩
   refine Gc 2 Z ?_;cases a;exact Yv Z (Lr [0,1])
  refine Gc 1 Z ?_;cases a;exact Yv Z (Lr [0,1])
 subst hb;refine Gx 1 Z (Qf u (Gc 4 Z (Cd [] h (k_bu _ _ _) Z λE y h=>Fg 10 Z Z (Bd h λe d h=>Cg e [0,1,3] [3,7,11] (λe=>[(71,.bool e)]) Ze Zf ?_ ?_))))
 .refine G0 4 Z (Is 59 d Z (λ_ d=>?_) (λ_ d=>?_))
  .exact Gl 13 Z d [0,1,3]
  .refine Go 5 Z (Is 64 d Z (λ_ d=>?_) (λ_ d=>?_))
   .exact Gl 8 Z d [0,1,3]
   .exact Go 4 Z (Lm Z (Gl 3 Z d [0,1,3]))
 refine Cn Z h (λ_ h=>?_) (λ_ h=>?_)
 .refine Gc 10 Z ?_;obtain rfl:=Oi h;exact Rx [1] [6,7,8] Z (Qp Z Z (Qlb.cons QdB.tmp (Qlb.cons (Qg EV EG Z Z Z) (Qlb.cons QdB.tmp Qlb.nil)))) ⟨Z,Z⟩
 refine Gc 8 Z (Bd h λF p h=>Iz p Z (Go 6 Z (DSs 12 Z (D 12 Z (Eg Z (Go 5 Z ?_))))));obtain rfl:=Oi h;exact Rx [1] [6,7,8] Z (Qp Z Z (Qlb.cons QdB.tmp (Qlb.cons (Qg EV EG Z Z Z) (Qlb.cons QdB.tmp Qlb.nil)))) ⟨Z,Z⟩
def F_la(d:List Report)(a:(List Int)×Int):Option (Ctl ((List Int)×Int) (List Int)):=(bif decide (a.2<(d.length:Int))then(idx d a.2).bind λe=>(F_ay n a.1 e.Case).bind λf=>some (.cont (f,i64.wrap (a.2+1)))else some (.done a.1))
def F_kq(d:List Ruling)(a:(List Int)×Int):Option (Ctl ((List Int)×Int) (List Int)):=(bif decide (a.2<(d.length:Int))then(idx d a.2).bind λe=>(F_ay n a.1 e.Case).bind λf=>some (.cont (f,i64.wrap (a.2+1)))else some (.done a.1))
def F_kr(l:Course)(m:List Fact)(p:Int)(d:List Int)(a:(List Int)×(List Penalty)×Int):Option (Ctl ((List Int)×(List Penalty)×Int) ((List Int)×(List Penalty))):=(bif decide (a.2.2<(d.length:Int))then(idx d a.2.2).bind λg=>(F_br n l m g).bind λe=>((bif e.2.2 then some (e.1==p)else some false):Option Bool).bind λh=>((bif h then(idx d a.2.2).bind λi=>(app a.1 [i]).bind λj=>(app a.2.1 [e.2.1]).bind λk=>some (j,k)else some (a.1,a.2.1)):Option ((List Int)×(List Penalty))).bind λf=>some (.cont (f.1,f.2,i64.wrap (a.2.2+1)))else some (.done (a.1,a.2.1)))
def F_cq(e:Course)(d:List Fact)(i:Int):Option ((List Int)×(List Penalty)):=(F_bd n e).bind λj=>(bif (j != 0)then some ([],[])else(F_bf n d).bind λk=>(iter (F_la n k) n (([]:List Int),0):Option (List Int)).bind λf=>(F_dz n d).bind λg=>(iter (F_kq n g) n (f,0):Option (List Int)).bind λh=>(iter (F_kr n e d i h) n (([]:List Int),([]:List Penalty),0):Option ((List Int)×(List Penalty))).bind λa=>some (a.1,a.2))
theorem k_cq(y:Course)(P:List Fact)(a3:Int):Kq (F_cq n y P a3) 8 [.agg (Course.c y),.rsl 57 (map Fact.c P),I a3] [] (λr=>.tup [.osl 0 0 r.1.length 1,.osl 1 0 r.2.length 4]) (λr=>[.row 3 1 (map (Qe .i64) r.1),.row 76 4 (map Penalty.c r.2)]):=by
 refine Kg 11 func8 Z Z Z Z λr h=>Cz [] h (k_bd _ _) Z λr1 an h=>Go 3 Z (Cn Z h (λ_ h=>?_) (λ_ h=>?_))
 .refine Gc 8 Z ?_;obtain rfl:=Oi h;refine R2 6 7 Z Z ?_;refine En (Ep (s:=6) (k:=1) (t:=3) (XO Z) Z) ?_;refine En (Ep (s:=7) (k:=4) (t:=76) (XO Z) Z) ?_;exact Lr [1,2]
 refine Gc 4 Z (vH (Ek (xs:=[]) (es:=map (Qe .i64) []) Qu Z Z Z Z Z trivial Z Z) ?_);refine Fg 6 Z Z (Cd [] h (k_bf _ _) Z λr3 ao h=>Fg 9 Z Z (Bd h λB af h=>Ct B [0,1] [1,2,3] (λB=>[(8,.osl 1 0 B.length 1)]) (λB=>[(1,.row 3 1 (map (Qe .i64) B))]) Zf ?_ (λenv H p=>?_)))
 .refine G0 1 Z (Lp [0,1,2] [1,2,3,9] (λw=>[(8,.osl 1 0 w.1.length 1),(10,I w.2)]) (λw=>[(1,.row 3 1 (map (Qe .i64) w.1))]) af Zf (Lr [0,1,2]) λw aq l Q=>?_);refine G0 9 Z (Q8 Z l (λ_ l=>?_) (λ_ l=>?_))
  .exact Gc 2 Z (Ql l (Gx 1 Z (cQo Q l (Lr [0,1]))))
  refine Gc 8 Z (Bd l λag F l=>?_);refine vX (.ptr 2 (toNat w.2*4)) (Qv F Z EQ E3) ?_;refine Fp Qh7 Z ?_;refine vX (I ag.Case) (Ey Z EF Z (Qi F)) ?_;exact Cd [1] l (k_ay _ _ _) Z λar ak l=>Fg 9 Z Z (Qj l (Lr [0,3,2]))
 refine Gx 1 Z (Qf p (Gc 3 Z (Cd [] h (k_dz _ _) Z λau al h=>Fg 9 Z Z (Bd h λg ah h=>Ct g [0,1] [1,2,3] (λg=>[(8,.osl 1 0 g.length 1)]) (λg=>[(1,.row 3 1 (map (Qe .i64) g))]) Zf ?_ (λenv H p=>?_)))))
 .refine G0 1 Z (Lp [0,1,2] [1,2,3,11] (λx=>[(8,.osl 1 0 x.1.length 1),(12,I x.2)]) (λx=>[(1,.row 3 1 (map (Qe .i64) x.1))]) ah Zf (Lr [0,1,2]) λx av m T=>?_);refine G0 9 Z (Q8 Z m (λ_ m=>?_) (λ_ m=>?_))
  .exact Gc 2 Z (Ql m (Gx 1 Z (cQo T m (Lr [0,1]))))
  refine Gc 8 Z (Bd m λai G m=>?_);refine vX (.ptr 2 (toNat x.2*6)) (Qv G Z Gk E4) ?_;refine Fp QlY Z ?_;refine vX (I ai.Case) (Ey Z EF Z (Qi G)) ?_;exact Cd [1] m (k_ay _ _ _) Z λaw am m=>Fg 9 Z Z (Qj m (Lr [0,3,2]))
 refine Gx 1 Z (Qf p (Gc 2 Z (vH (Ek (xs:=[]) (es:=map (Qe .i64) []) Qu Z Z Z Z Z trivial Z Z) ?_)));refine Fg 5 Z Z (vH (Ek (xs:=[]) (es:=map Penalty.c []) QbK Z Z Z Z Z trivial Z Z) ?_);refine Fg 9 Z Z (Bd h λq aj h=>Cg q [2,3] [] (λq=>[(13,.osl 0 0 q.1.length 1),(14,.osl 1 0 q.2.length 4)]) (λq=>[(0,.row 3 1 (map (Qe .i64) q.1)),(1,.row 76 4 (map Penalty.c q.2))]) Zf ?_ ?_)
 .refine G0 1 Z (Lp [0,1,2,3] [1,2,3,8] (λa=>[(13,.osl 2 0 a.1.length 1),(14,.osl 3 0 a.2.1.length 4),(15,I a.2.2)]) (λa=>[(2,.row 3 1 (map (Qe .i64) a.1)),(3,.row 76 4 (map Penalty.c a.2.1))]) aj Zf (Lr [0,1,2,3]) λa ax f W=>?_);refine G0 9 Z (Q8 Z f (λ_ f=>?_) (λ_ f=>?_))
  .exact Gc 2 Z (Ql f (Gx 1 Z (cQo W f (Lr [2,3]))))
  refine Gc 5 Z ?_;obtain⟨J,z,f⟩:=YM f;obtain⟨d,L,f⟩:=YM f;refine YS 14 1 [62,63,64,65,66,67,68,61,69,70,71,17,16,1000013] [false,false,false,false,false,false,true,false,false,false,false,true,false,true] [[],[],[],[],[],[],[],[6],[6],[6],[6],[],[6,11],[6,11]] [[],[6],[11],[6,11],[6,11,13]] [[(0,0),(2,2)],[(0,0),(2,2)],[(0,0),(2,2)],[(0,0),(2,2)],[(0,0),(2,2)],[(0,0),(2,2)],[(0,1),(2,3)],[(1,1),(3,3)],[(1,1),(3,3)],[(1,1),(3,3)],[(1,1),(3,3),(4,4)],[(0,2),(1,3)],[(3,3)],[(3,4)]] [.agg (Course.c y),.rsl 57 (map Fact.c P),.osl 1 0 g.length 1,I a.2.2,.ptr 1 (toNat a.2.2*1),I J,.tup [I d.1,.agg (Penalty.c d.2.1),.bool d.2.2],.tup [I d.1,.agg (Penalty.c d.2.1),.bool d.2.2],I d.1,.agg (Penalty.c d.2.1),.bool d.2.2,.ptr 4 0,I d.1,.any] [[.cells 33 (Course.c y),.row 3 1 (map (Qe .i64) g),.row 3 1 (map (Qe .i64) a.1),.row 76 4 (map Penalty.c a.2.1),.dead],[.cells 33 (Course.c y),.row 3 1 (map (Qe .i64) g),.row 3 1 (map (Qe .i64) a.1),.row 76 4 (map Penalty.c a.2.1),.dead,.cells 76 (Penalty.c d.2.1)],[.cells 33 (Course.c y),.row 3 1 (map (Qe .i64) g),.row 3 1 (map (Qe .i64) a.1),.row 76 4 (map Penalty.c a.2.1),.cells 76 (Penalty.c Ut)],[.cells 33 (Course.c y),.row 3 1 (map (Qe .i64) g),.row 3 1 (map (Qe .i64) a.1),.row 76 4 (map Penalty.c a.2.1),.cells 76 (Penalty.c Ut),.cells 76 (Penalty.c d.2.1)],[.cells 33 (Course.c y),.row 3 1 (map (Qe .i64) g),.row 3 1 (map (Qe .i64) a.1),.row 76 4 (map Penalty.c a.2.1),.cells 76 (Penalty.c d.2.1),.cells 76 (Penalty.c d.2.1)]] ([.cells 33 (Course.c y),.row 3 1 (map (Qe .i64) g),.row 3 1 (map (Qe .i64) a.1),.row 76 4 (map Penalty.c a.2.1),.cells 76 (Penalty.c d.2.1),.cells 76 (Penalty.c d.2.1)]) draws Z Z Z Z Z Z Z ?_ Z ?_
  .refine QiA.cons (Qb (v0 Z Z) (Qb (v0 Z Z) (Qd))) (QiA.cons (Qb (v0 Z Z) (Qb (v0 Z Z) (Qd))) (QiA.cons (Qb (v0 Z Z) (Qb (v0 Z Z) (Qd))) (QiA.cons (Qb (v0 Z Z) (Qb (v0 Z Z) (Qd))) (QiA.cons ?_ (QiA.cons ?_ (QiA.cons ?_ (QiA.cons (Qb (v0 Z Z) (Qb (v0 Z Z) (Qd))) (QiA.cons (Qb (v0 Z Z) (Qb (v0 Z Z) (Qd))) (QiA.cons (Qb (v0 Z Z) (Qb (v0 Z Z) (Qd))) (QiA.cons (Qb (v0 Z Z) (Qb (v0 Z Z) (Qb (v0 Z Z) (Qd)))) (QiA.cons ?_ (QiA.cons (Qb (v0 Z Z) (Qd)) (QiA.cons ?_ (QiA.nil))))))))))))))
   .refine Qb ?_ (Qb ?_ (Qd))
    iterate 2 refine Om Z (sD 2 (sD 3 sN)) ?_;refine vX (.ptr 1 (toNat a.2.2*1)) (Qv z Z EA EE) ?_;exact Wp
   .refine Qb ?_ (Qb ?_ (Qd))
    iterate 2 refine Om Z (sD 4 sN) ?_;refine vX (I J) (Ey Z EF Z (Qi z)) ?_;exact Wp
   .refine Qb ?_ (Qb ?_ (Qd))
    iterate 2 refine Om1 Z (sD 0 (sD 1 (sD 5 sN))) ?_;refine QD [] (OpC.fn call24 Z Z Z) (k_br _ _ _ _ _ L) ?_;rintro _ _ ⟨rfl,rfl⟩;exact FE Z Wp
   .refine Qb ?_ (Qb ?_ (Qd))
    iterate 2 exact JP.alloc _ 17 76 4 _ Z Z Z Z Z Z Z (OpZ.alloc (v:=(.agg [I 0,I 0,I 0,.bool false])) zeroValue76 (zrC Z)) Z
   .refine Qb ?_ (Qd)
    .refine Om2 Z (sD 11 (sD 9 sN)) ?_;refine vU (Ex Z Z Z EG Z Z Z Z Z Z Z) ?_;exact FE Z Wp
  refine Go 4 Z (Bd f λM E f=>Ct M [0,1,2,3,4] [1,2,3,8,13,14,15,17] (λM=>[(77,.bool M)]) Ze Zf ?_ (λenv H p=>?_))
  .refine G0 3 Z (Is 73 E Z (λ_ E=>?_) (λ_ E=>?_))
   iterate 2 exact Gl 5 Z E [0,1,2,3,4]
  refine Gx 1 Z (Qf p (Bd f λu j f=>Ct u [0,1,0,0] [1,2,3,8,15] (λu=>[(13,.osl 2 0 u.1.length 1),(14,.osl 3 0 u.2.length 4)]) (λu=>[(2,.row 3 1 (map (Qe .i64) u.1)),(3,.row 76 4 (map Penalty.c u.2))]) Zf ?_ (λenv H p=>?_)))
  .refine G0 0 Z (Cn Z j (λ_ j=>?_) (λ_ j=>?_))
   .refine Gc 5 Z (Bd j λO N j=>?_);refine vX (.ptr 1 (toNat a.2.2*1)) (Qv N Z EA EE) ?_;refine vX (I O) (Ey Z EF Z (Qi N)) ?_;refine vH (Ek (xs:=[.tmp 82]) (es:=map (Qe .i64) [O]) Qu Z Z Z Z Z ⟨Z,trivial⟩ Z Z) ?_;refine FE Z (Bd j λay ab j=>vH (Qk (e:=(Qe .i64)) ab Qu EA (QH (i:=5))) ?_);refine Fg 6 Z Z (vH (Ek (xs:=[.tmp 86]) (es:=map Penalty.c [d.2.1]) QbK Z Z Z Z Z ⟨Z,trivial⟩ Z Z) ?_);refine FE Z (Bd j λaz ac j=>vH (Qk (e:=Penalty.c) ac QbK EI (QH (i:=7))) ?_);exact FE Z (Gl 2 Z j [0,1,6,8])
   exact YC 1 Z j [0,1,2,3]
  exact Gx 2 Z (Qf p (Gc 5 Z (Qj f (Lr [0,1,2,3]))))
 refine Gc 9 Z ?_;obtain rfl:=Oi h;exact R2 6 7 Z Z (Lr [0,1])
def F_ek(a:Course)(d:List Fact)(e:Int):Option Bool:=(F_fz 300).bind λk=>(bif (!k)then some false else(F_df n a d).bind λl=>(bif (!l)then some true else(F_w n a d e).bind λf=>(F_cq n a d e).bind λg=>((F_au n f.1 g.1).bind λh=>(bif h then(F_ao n f.2 g.2).bind λi=>some i else some false):Option Bool).bind λj=>some j))
theorem k_ek(f:Course)(g:List Fact)(i:Int):Ks (F_ek n f g i) 3 [.agg (Course.c f),.rsl 57 (map Fact.c g),I i] [] (λr=>.bool r):=by
 refine Kg 9 func3 Z Z Z Z λr h=>Cz [] h (k_fz _) Z λx p h=>Go 3 Z (Cn Z h (λ_ h=>?_) (λ_ h=>?_))
 .exact QI 7 Z h 6 []
 refine Gc 7 Z (Cz [] h (k_df _ _ _) Z λy q h=>Go 3 Z (Cn Z h (λ_ h=>?_) (λ_ h=>?_)))
 .exact QI 7 Z h 6 []
 refine Gc 7 Z (Cd [] h (k_w _ _ _ _) Z λz s h=>Fg 12 Z Z (Cd [] h (k_cq _ _ _ _) Z λB t h=>Fg 8 Z Z (Bd h λd a h=>Cg d [] [] (λd=>[(6,.bool d)]) Ze Zf ?_ ?_)))
 .refine G0 3 Z (Cb a (k_au _ _ _) Z (lo (lo ln)) λu l a=>Go 1 Z (Is 34 a Z (λ_ a=>?_) (λ_ a=>?_)))
  .exact Go 2 Z (Cb a (k_ao _ _ _) Z (lo (lo ln)) λw m a=>Gl 3 Z a [])
  .exact Gl 6 Z a []
 exact QI 1 Z h 6 []
end Go.Sw
