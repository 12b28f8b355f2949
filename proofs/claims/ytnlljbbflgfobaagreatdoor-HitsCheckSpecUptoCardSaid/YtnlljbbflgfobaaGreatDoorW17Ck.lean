/- What the functions compute that HitsCheckSpec reaches, and that their calls refine it (part 3 of 3). -/
import Derived.Test.YtnlljbbflgfobaaGreatDoorW17Ck2
set_option linter.unusedVariables false
set_option linter.unusedSimpArgs false
set_option maxRecDepth 100000
set_option maxHeartbeats 4000000
namespace Go.Sw
open Go.Proofs Tryz
def F_b(n:Nat)(a:Int)(b:Int)(c:Int):Option Bool:=
  ((bif decide (b<=a)then some (decide (a<=c))else some false):Option Bool).bind fun b2=>some b2
theorem k_b(n:Nat)(b:Int)(c:Int)(d:Int)(r:Bool)(h:F_b n b c d=some r):
    Csm prog 119 [I b,I c,I d] [] (fun r=>.bool r) r:=by
 refine Qb func119 Z Z Z ?_
 refine G0 6 Z (Bd h fun b2 a h=>?_)
 refine Ct b2 [] [] (fun b2=>[(6,.bool b2)]) (fun _=>[]) (fun _=>rfl) ?_ (fun env H e=>?_)
 ·refine G0 5 Z (Is 10 a Z (fun f a=>?_) (fun f a=>?_))
  ·exact Go 6 Z (Cl a [])
  ·exact Go 6 Z (Cl a [])
 exact Gx 1 Z (TC.le e (Gc 1 Z (Rt h 6 [])))
def F_i(n:Nat)(a:Course)(b:Int):Option Bool:=
  (F_b n b 0 (IntKind.i64.wrap ((a.Mats.length:Int)-1))).bind fun c=>some c
theorem k_i(n:Nat)(a:Course)(b:Int)(r:Bool)(h:F_i n a b=some r):
    Csm prog 120 [.agg (Course.c a),I b] [] (fun r=>.bool r) r:=by
 refine Qb func120 Z Z Z ?_
 exact G0 11 Z (Lm Z (Go 1 Z (Cz [] h (k_b _ _ _ _) Z fun e d h=>Go 4 Z (Rt h 4 []))))
def F_fx(n:Nat)(c:Course)(d:List Part)(rec166:Course->(List Part)->Option Bool)(b:Int):Option (Ctl Int (Ctl Unit Bool)):=
  (bif decide (b<(d.length:Int))then(idx d b).bind fun a=>((bif (a.Laps==0)then(F_i n c a.Mat).bind fun e=>(bif e then some ((a.Parts.length:Int)==0)else some false)else some false):Option Bool).bind fun f=>((F_b n a.Laps 1 64).bind fun g=>(bif g then(bif (a.Mat==0)then(bif decide (0<(a.Parts.length:Int))then(rec166 c a.Parts).bind fun h=>some h else some false)else some false)else some false):Option Bool).bind fun i=>((bif (!f)then some (!i)else some false):Option Bool).bind fun j=>(bif j then some (.done (.done false))else some (.cont (IntKind.i64.wrap (b+1))))else some (.done (.cont ())))
def B_k(rec166:Course->(List Part)->Option Bool)(n:Nat)(c:Course)(d:List Part):Option Bool:=
  (iter (F_fx n c d rec166) n 0:Option (Ctl Unit Bool)).bind fun b=>match b with|.cont a=>(some true)|.done a=>some a
theorem QaL(rec166:Course->(List Part)->Option Bool)(i:∀(j:Course) (k:List Part) (r:Bool),rec166 j k=some r->Csm prog 168 [.agg (Course.c j),.rsl 3 (List.map Part.enc k)] [] (fun r=>.bool r) r)(n:Nat)(j:Course)(k:List Part)(r:Bool)(h:B_k rec166 n j k=some r):
    Csm prog 168 [.agg (Course.c j),.rsl 3 (List.map Part.enc k)] [] (fun r=>.bool r) r:=by
 refine Qb func168 Z Z Z ?_
 refine G0 12 Z (Bd h fun G J h=>?_)
 refine CtE (b:=G) [] [] (fun _=>[]) (fun _=>[]) (fun _=>rfl) ?_ (fun N env H L f=>?_)
 ·refine G0 1 Z ?_
  refine Lp [0] [1,2] (fun s=>[(5,I s)]) (fun _=>[]) J (fun _=>rfl) (Lr [0]) fun s R a l=>?_
  refine G0 5 Z (Lm Z (Go 3 Z (YD Z a (fun t a=>?_) (fun t a=>?_))))
  ·refine Gc 2 Z (Qn a ?_)
   obtain rfl:=Oj l a
   exact Gx 1 Z (Qk Z (Lr []))
  refine Gc 8 Z (Bd a fun M u a=>IzE u (QL M) Z (Go 6 Z (Bd a fun m e a=>?_)))
  refine Ct m [0,1] [1,2,5,6] (fun m=>[(7,.bool m)]) (fun _=>[]) (fun _=>rfl) ?_ (fun env H f=>?_)
  ·refine G0 5 Z (Is 22 e Z (fun w e=>?_) (fun w e=>?_))
   ·refine Go 3 Z (Cz [] e (k_i _ _ _) Z fun T O e=>Go 2 Z (Is 28 e Z (fun x e=>?_) (fun x e=>?_)))
    ·exact Go 2 Z (Lm Z (Go 4 Z (Cl e [0,1])))
    ·exact Go 7 Z (Cl e [0,1])
   ·exact Go 13 Z (Cl e [0,1])
  refine Gx 1 Z (TC.le f (Gc 1 Z (Bd a fun p d a=>?_)))
  refine Ct p [0] [1,2,5,7] (fun p=>[(8,.bool p)]) (fun _=>[]) (fun _=>rfl) ?_ (fun env H f=>?_)
  ·refine G0 3 Z (Cz [] d (k_b _ _ _ _) Z fun V P d=>Go 1 Z (Is 37 d Z (fun y d=>?_) (fun y d=>?_)))
   ·refine Go 5 Z (Is 42 d Z (fun z d=>?_) (fun z d=>?_))
    ·refine Go 2 Z (Lm Z (Go 3 Z (Is 48 d Z (fun B d=>?_) (fun B d=>?_))))
     ·exact Go 3 Z (Cz [] d (i _ _) Z fun W Q d=>Go 3 Z (Cl d [0]))
     ·exact Go 7 Z (Cl d [0])
    ·exact Go 13 Z (Cl d [0])
   ·exact Go 18 Z (Cl d [0])
  refine Gx 1 Z (TC.le f (Gc 1 Z (Bd a fun q g a=>?_)))
  refine Ct q [0] [1,2,5] (fun q=>[(59,.bool q)]) (fun _=>[]) (fun _=>rfl) ?_ (fun env H f=>?_)
  ·refine G0 4 Z (Is 56 g Z (fun E g=>?_) (fun E g=>?_))
   ·exact Go 4 Z (Cl g [0])
   ·exact Go 4 Z (Cl g [0])
  refine Gx 1 Z (TC.le f (Cn Z a (fun F a=>?_) (fun F a=>?_)))
  ·refine Gc 8 Z (Qu a ?_)
   obtain rfl:=Oj l a
   exact Gx 1 Z (Qm (Gx 1 Z (Rt h 4 [])))
  exact Gc 8 Z (Ql a (Lr [0]))
 subst L
 exact Gx 1 Z (TC.le f (Gc 6 Z (Rt h 4 [])))
def F_k:Nat->Course->(List Part)->Option Bool
  |0=>fun _ _=>none
  |n+1=>B_k (F_k n) n
theorem k_k(n:Nat):∀(a:Course) (b:List Part) (r:Bool),F_k n a b=some r->Csm prog 168 [.agg (Course.c a),.rsl 3 (List.map Part.enc b)] [] (fun r=>.bool r) r:=by
  induction n with
  |zero=>intro a b r h;cases h
  |succ n ih=>intro a b r h;exact QaL _ ih n a b r h
def F_fw(n:Nat)(g:Course)(c:Distance)(a:Int):Option (Ctl Int (Ctl Unit Bool)):=
  (bif decide (a<(c.Cutoffs.length:Int))then(idx c.Cutoffs a).bind fun b=>((F_i n g b.Mat).bind fun d=>(bif (!d)then some true else(bif decide (b.Lap<1)then some true else(F_b n b.Limit 0 1099511627776).bind fun e=>some (!e))):Option Bool).bind fun f=>(bif f then some (.done (.done false))else some (.cont (IntKind.i64.wrap (a+1))))else some (.done (.cont ())))
def F_bk(n:Nat)(c:Course)(a:Distance):Option Bool:=
  (iter (F_fw n c a) n 0:Option (Ctl Unit Bool)).bind fun d=>match d with|.cont b=>(((F_b n a.Timing 1 3).bind fun e=>(bif e then(F_k n c a.Route).bind fun f=>(bif f then(bif (a.Extra==(-1))then some true else(F_i n c a.Extra).bind fun g=>some g)else some false)else some false):Option Bool).bind fun h=>some h)|.done b=>some b
theorem k_bk(n:Nat)(x:Course)(y:Distance)(r:Bool)(h:F_bk n x y=some r):
    Csm prog 121 [.agg (Course.c x),.agg (Distance.c y)] [] (fun r=>.bool r) r:=by
 refine Qb func121 Z Z Z ?_
 refine G0 13 Z (Bd h fun z B h=>?_)
 refine CtE (b:=z) [0,1] [2,3] (fun _=>[]) (fun _=>[]) (fun _=>rfl) ?_ (fun F env H E f=>?_)
 ·refine G0 1 Z ?_
  refine Lp [0,1] [2,3] (fun k=>[(5,I k)]) (fun _=>[]) B (fun _=>rfl) (Lr [0,1]) fun k O d g=>?_
  refine G0 6 Z (Lm Z (Go 3 Z (YD Z d (fun l d=>?_) (fun l d=>?_))))
  ·refine Gc 2 Z (Qn d ?_)
   obtain rfl:=Oj g d
   exact Gx 1 Z (Qk Z (Lr [0,1]))
  refine Gc 9 Z (Bd d fun P m d=>Iz m Z (Go 6 Z (Bd d fun i e d=>?_)))
  refine Ct i [0,1] [2,3,5] (fun i=>[(34,.bool i)]) (fun _=>[]) (fun _=>rfl) ?_ (fun env H f=>?_)
  ·refine G0 4 Z (Cz [] e (k_i _ _ _) Z fun Q G e=>Go 2 Z (Is 24 e Z (fun p e=>?_) (fun p e=>?_)))
   ·exact Go 11 Z (Cl e [0,1])
   ·refine Go 5 Z (Is 29 e Z (fun q e=>?_) (fun q e=>?_))
    ·exact Go 6 Z (Cl e [0,1])
    ·exact Go 2 Z (Cz [] e (k_b _ _ _ _) Z fun R J e=>Go 3 Z (Cl e [0,1]))
  refine Gx 1 Z (TC.le f (Cn Z d (fun s d=>?_) (fun s d=>?_)))
  ·refine Gc 8 Z (Qu d ?_)
   obtain rfl:=Oj g d
   exact Gx 1 Z (Qm (Gx 1 Z (Rt h 4 [])))
  exact Gc 8 Z (Ql d (Lr [0,1]))
 subst E
 refine Gx 1 Z (TC.le f (Gc 1 Z (Bd h fun j a h=>?_)))
 refine Ct j [] [] (fun j=>[(4,.bool j)]) (fun _=>[]) (fun _=>rfl) ?_ (fun env H f=>?_)
 ·refine G0 3 Z (Cz [] a (k_b _ _ _ _) Z fun T L a=>Go 1 Z (Is 38 a Z (fun t a=>?_) (fun t a=>?_)))
  ·refine Go 3 Z (Cz [] a (k_k _ _ _) Z fun V M a=>Go 2 Z (Is 44 a Z (fun u a=>?_) (fun u a=>?_)))
   ·refine Go 4 Z (Is 48 a Z (fun w a=>?_) (fun w a=>?_))
    ·exact Go 8 Z (Cl a [])
    ·exact Go 3 Z (Cz [] a (k_i _ _ _) Z fun W N a=>Go 4 Z (Cl a []))
   ·exact Go 12 Z (Cl a [])
  ·exact Go 18 Z (Cl a [])
 exact Gx 1 Z (TC.le f (Gc 1 Z (Rt h 4 [])))
def F_gh(n:Nat)(b:Course)(a:Int):Option (Ctl Int (Ctl Unit Bool)):=
  (bif decide (a<(b.Mats.length:Int))then(idx b.Mats a).bind fun c=>(F_b n c.Kind 1 3).bind fun d=>(bif (!d)then some (.done (.done false))else some (.cont (IntKind.i64.wrap (a+1))))else some (.done (.cont ())))
def F_ev(n:Nat)(g:Course)(c:Int)(b:Leg)(a:Int):Option (Ctl Int (Ctl Unit (Ctl Int (Ctl Unit Bool)))):=
  (bif decide (a<c)then((idx g.Legs a).bind fun d=>(bif (d.From==b.From)then(idx g.Legs a).bind fun e=>some (e.To==b.To)else some false):Option Bool).bind fun f=>(bif f then some (.done (.done (.done (.done false))))else some (.cont (IntKind.i64.wrap (a+1))))else some (.done (.cont ())))
def F_bt(n:Nat)(d:Course)(b:Int):Option (Ctl Int (Ctl Unit Bool)):=
  (bif decide (b<(d.Legs.length:Int))then(idx d.Legs b).bind fun a=>((F_i n d a.From).bind fun e=>(bif (!e)then some true else(F_i n d a.To).bind fun f=>(bif (!f)then some true else(bif decide (a.Min<0)then some true else(bif decide (a.Max<a.Min)then some true else some (decide (68719476736<a.Max)))))):Option Bool).bind fun g=>(bif g then some (.done (.done false))else(iter (F_ev n d b a) n 0:Option (Ctl Unit (Ctl Int (Ctl Unit Bool)))).bind fun h=>match h with|.cont c=>(some (.cont (IntKind.i64.wrap (b+1))))|.done c=>some c)else some (.done (.cont ())))
def F_ft(n:Nat)(b:Course)(a:Int):Option (Ctl Int (Ctl Unit Bool)):=
  (bif decide (a<(b.Distances.length:Int))then(idx b.Distances a).bind fun c=>(F_bk n b c).bind fun d=>(bif (!d)then some (.done (.done false))else some (.cont (IntKind.i64.wrap (a+1))))else some (.done (.cont ())))
def F_gi(n:Nat)(d:Course)(a:Int):Option (Ctl Int (Ctl Unit Bool)):=
  (bif decide (a<(d.Waves.length:Int))then(idx d.Waves a).bind fun b=>(F_b n b.Gun 0 1099511627776).bind fun c=>(bif (!c)then some (.done (.done false))else some (.cont (IntKind.i64.wrap (a+1))))else some (.done (.cont ())))
def F_gf(n:Nat)(i:Course)(b:Int):Option (Ctl Int (Ctl Unit Bool)):=
  (bif decide (b<(i.Offences.length:Int))then(idx i.Offences b).bind fun a=>((F_b n a.Time 0 68719476736).bind fun c=>(bif c then(bif (a.Laps==0)then some (!a.Out)else some false)else some false):Option Bool).bind fun d=>((bif (a.Time==0)then(F_b n a.Laps 1 64).bind fun e=>(bif e then some (!a.Out)else some false)else some false):Option Bool).bind fun f=>((bif (a.Time==0)then(bif (a.Laps==0)then some a.Out else some false)else some false):Option Bool).bind fun g=>((bif (!d)then(bif (!f)then some (!g)else some false)else some false):Option Bool).bind fun h=>(bif h then some (.done (.done false))else some (.cont (IntKind.i64.wrap (b+1))))else some (.done (.cont ())))
def F_fv(n:Nat)(d:Course)(b:Int):Option (Ctl Int (Ctl Unit Bool)):=
  (bif decide (b<(d.Categories.length:Int))then(idx d.Categories b).bind fun a=>((bif decide (a.From<0)then some true else(bif decide (a.To<a.From)then some true else some (decide (120<a.To)))):Option Bool).bind fun c=>(bif c then some (.done (.done false))else some (.cont (IntKind.i64.wrap (b+1))))else some (.done (.cont ())))
def F_dn(n:Nat)(f:Course)(d:Int)(a:Prize)(b:Int):Option (Ctl Int (Ctl Unit (Ctl Int (Ctl Unit Bool)))):=
  (bif decide (b<d)then(idx f.Prizes b).bind fun c=>((bif (c.Distance==a.Distance)then(bif (c.Category==a.Category)then some (c.Rank==a.Rank)else some false)else some false):Option Bool).bind fun e=>(bif e then some (.done (.done (.done (.done false))))else some (.cont (IntKind.i64.wrap (b+1))))else some (.done (.cont ())))
def F_ce(n:Nat)(d:Course)(b:Int):Option (Ctl Int (Ctl Unit Bool)):=
  (bif decide (b<(d.Prizes.length:Int))then(idx d.Prizes b).bind fun a=>((F_b n a.Distance 0 (IntKind.i64.wrap ((d.Distances.length:Int)-1))).bind fun e=>(bif (!e)then some true else(F_b n a.Category (-1) (IntKind.i64.wrap ((d.Categories.length:Int)-1))).bind fun f=>(bif (!f)then some true else(F_b n a.Rank 1 4000).bind fun g=>(bif (!g)then some true else(F_b n a.Amount 1 1125899906842624).bind fun h=>some (!h)))):Option Bool).bind fun i=>(bif i then some (.done (.done false))else(iter (F_dn n d b a) n 0:Option (Ctl Unit (Ctl Int (Ctl Unit Bool)))).bind fun j=>match j with|.cont c=>(some (.cont (IntKind.i64.wrap (b+1))))|.done c=>some c)else some (.done (.cont ())))
def F_cn(n:Nat)(a:Course):Option Bool:=
  (iter (F_gh n a) n 0:Option (Ctl Unit Bool)).bind fun y=>match y with|.cont g=>((iter (F_bt n a) n 0:Option (Ctl Unit Bool)).bind fun z=>match z with|.cont h=>((iter (F_ft n a) n 0:Option (Ctl Unit Bool)).bind fun i=>match i with|.cont b=>((iter (F_gi n a) n 0:Option (Ctl Unit Bool)).bind fun j=>match j with|.cont c=>((iter (F_gf n a) n 0:Option (Ctl Unit Bool)).bind fun k=>match k with|.cont d=>((iter (F_fv n a) n 0:Option (Ctl Unit Bool)).bind fun l=>match l with|.cont e=>((iter (F_ce n a) n 0:Option (Ctl Unit Bool)).bind fun m=>match m with|.cont f=>(((F_b n a.Faults.Misses 0 16).bind fun p=>(bif p then(F_b n a.Faults.Strays 0 16).bind fun q=>(bif q then(F_b n a.Faults.Window 0 4294967296).bind fun r=>(bif r then(F_b n a.Faults.Residual 0 4294967296).bind fun s=>(bif s then(F_b n a.Faults.Drift 0 100000).bind fun t=>(bif t then(F_b n a.Fee 0 1125899906842624).bind fun u=>(bif u then(F_b n a.Deadline 0 1099511627776).bind fun w=>some w else some false)else some false)else some false)else some false)else some false)else some false):Option Bool).bind fun x=>some x)|.done f=>some f)|.done e=>some e)|.done d=>some d)|.done c=>some c)|.done b=>some b)|.done h=>some h)|.done g=>some g
theorem k_cn(n:Nat)(a1:Course)(r:Bool)(h:F_cn n a1=some r):
    Csm prog 57 [.agg (Course.c a1)] [] (fun r=>.bool r) r:=by
 refine Qb func57 Z Z Z ?_
 refine G0 12 Z (Bd h fun dp dq h=>?_)
 refine CtE (b:=dp) [0] [1] (fun _=>[]) (fun _=>[]) (fun _=>rfl) ?_ (fun es env H u d=>?_)
 ·refine G0 1 Z ?_
  refine Lp [0] [1] (fun cv=>[(3,I cv)]) (fun _=>[]) dq (fun _=>rfl) (Lr [0]) fun cv gh w aj=>?_
  refine G0 6 Z (Lm Z (Go 3 Z (YD Z w (fun cw w=>?_) (fun cw w=>?_))))
  ·refine Gc 2 Z (Qn w ?_)
   obtain rfl:=Oj aj w
   exact Gx 1 Z (Qk Z (Lr [0]))
  refine Gc 9 Z (Bd w fun gi cx w=>Iz cx Z (Go 2 Z (Cz [] w (k_b _ _ _ _) Z fun gj et w=>Go 3 Z (Cn Z w (fun cy w=>?_) (fun cy w=>?_)))))
  ·refine Gc 8 Z (Qu w ?_)
   obtain rfl:=Oj aj w
   exact Gx 1 Z (Qm (Gx 1 Z (Rt h 2 [])))
  exact Gc 8 Z (Ql w (Lr [0]))
 subst u
 refine Gx 1 Z (TC.le d (Gc 6 Z (Bd h fun dr cz h=>?_)))
 refine CtE (b:=dr) [0] [1] (fun _=>[]) (fun _=>[]) (fun _=>rfl) ?_ (fun eu env H u d=>?_)
 ·refine G0 1 Z ?_
  refine Lp [0] [1] (fun ak=>[(4,I ak)]) (fun _=>[]) cz (fun _=>rfl) (Lr [0]) fun ak ew j N=>?_
  refine G0 6 Z (Lm Z (Go 3 Z (YD Z j (fun av j=>?_) (fun av j=>?_))))
  ·refine Gc 2 Z (Qn j ?_)
   obtain rfl:=Oj N j
   exact Gx 1 Z (Qk Z (Lr [0]))
  refine Gc 9 Z (Bd j fun ey aw j=>Iz aw Z (Go 7 Z (Bd j fun Q f j=>?_)))
  refine Ct Q [0,1] [1,4,5] (fun Q=>[(76,.bool Q)]) (fun _=>[]) (fun _=>rfl) ?_ (fun env H d=>?_)
  ·refine G0 4 Z (Cz [] f (k_i _ _ _) Z fun ez ds f=>Go 2 Z (Is 53 f Z (fun ax f=>?_) (fun ax f=>?_)))
   ·exact Go 24 Z (Cl f [0,1])
   ·refine Go 3 Z (Cz [] f (k_i _ _ _) Z fun fa dt f=>Go 3 Z (Is 60 f Z (fun ay f=>?_) (fun ay f=>?_)))
    ·exact Go 17 Z (Cl f [0,1])
    ·refine Go 5 Z (Is 65 f Z (fun az f=>?_) (fun az f=>?_))
     ·exact Go 12 Z (Cl f [0,1])
     ·refine Go 7 Z (Is 72 f Z (fun ba f=>?_) (fun ba f=>?_))
      ·exact Go 5 Z (Cl f [0,1])
      ·exact Go 5 Z (Cl f [0,1])
  refine Gx 1 Z (TC.le d (Cn Z j (fun bb j=>?_) (fun bb j=>?_)))
  ·refine Gc 9 Z (Qu j ?_)
   obtain rfl:=Oj N j
   exact Gx 1 Z (Qm (Gx 1 Z (Rt h 2 [])))
  refine Gc 7 Z (Bd j fun da db j=>?_)
  refine CtE (b:=da) [0] [1,4] (fun _=>[]) (fun _=>[]) (fun _=>rfl) ?_ (fun du env H u d=>?_)
  ·refine G0 1 Z ?_
   refine Lp [0,1] [1,4,5] (fun al=>[(6,I al)]) (fun _=>[]) db (fun _=>rfl) (Lr [0,1]) fun al fc t ad=>?_
   refine G0 8 Z (YD Z t (fun bc t=>?_) (fun bc t=>?_))
   ·refine Gc 2 Z (Qn t ?_)
    obtain rfl:=Oj ad t
    exact Gx 1 Z (Qk Z (Lr [0]))
   refine Gc 5 Z (Bd t fun R B t=>?_)
   refine Ct R [0,1] [1,4,5,6] (fun R=>[(101,.bool R)]) (fun _=>[]) (fun _=>rfl) ?_ (fun env H d=>?_)
   ·refine G0 0 Z (DSs 18 Z (D 3 Z ?_))
    obtain⟨O,bd,B⟩:=bnd B
    refine DS.wo (x:=.rp [I O.From,I O.To,I O.Min,I O.Max]) ?_ ?_
    ·exact Ix bd runUnderlying57 sizeOf103 Z Wp
    refine D 6 Z (Qe1 9 B Z Z Z (fun be B=>?_) (fun be B=>?_))
    ·refine D 3 Z ?_
     obtain⟨L,bf,B⟩:=bnd B
     refine DS.v (x:=(.rp [I L.From,I L.To,I L.Min,I L.Max])) (QfB (e:=Leg.c) (l:=a1.Legs) (v:=L) bf runUnderlying57 sizeOf103) ?_ (hg:=(gT Z))
     exact D 4 Z (DS.done Z (Go 3 Z (Cl B [0,1])))
    ·exact D 8 Z (DS.done Z (Go 3 Z (Cl B [0,1])))
   refine Gx 1 Z (TC.le d (Cn Z t (fun bg t=>?_) (fun bg t=>?_)))
   ·refine Gc 8 Z (Qu t ?_)
    obtain rfl:=Oj ad t
    refine Gx 1 Z (Qm (Gx 2 Z (Qu j ?_)))
    obtain rfl:=Oj N j
    exact Gx 1 Z (Qm (Gx 1 Z (Rt h 2 [])))
   exact Gc 8 Z (Ql t (Lr [0,1]))
  subst u
  exact Gx 2 Z (TC.le d (Gc 5 Z (Ql j (Lr [0]))))
 subst u
 refine Gx 1 Z (TC.le d (Gc 6 Z (Bd h fun dc dd h=>?_)))
 refine CtE (b:=dc) [0] [1] (fun _=>[]) (fun _=>[]) (fun _=>rfl) ?_ (fun dv env H u d=>?_)
 ·refine G0 1 Z ?_
  refine Lp [0] [1] (fun am=>[(7,I am)]) (fun _=>[]) dd (fun _=>rfl) (Lr [0]) fun am fd m ae=>?_
  refine G0 6 Z (Lm Z (Go 3 Z (YD Z m (fun bh m=>?_) (fun bh m=>?_))))
  ·refine Gc 2 Z (Qn m ?_)
   obtain rfl:=Oj ae m
   exact Gx 1 Z (Qk Z (Lr [0]))
  refine Gc 5 Z (DSs 6 Z (D 4 Z ?_))
  obtain⟨M,bi,m⟩:=bnd m
  refine DS.wo (x:=.rp [.str M.Name,.rsl 3 (List.map Part.enc M.Route),I M.Timing,.rsl 3 (List.map Cutoff.c M.Cutoffs),I M.Extra]) ?_ ?_
  ·exact Ix bi runUnderlying58 sizeOf88 Z Wp
  refine D 1 Z (DS.done Z (Cz [] m (k_bk _ _ _) Z fun fe dw m=>Go 3 Z (Cn Z m (fun bj m=>?_) (fun bj m=>?_))))
  ·refine Gc 8 Z (Qu m ?_)
   obtain rfl:=Oj ae m
   exact Gx 1 Z (Qm (Gx 1 Z (Rt h 2 [])))
  exact Gc 8 Z (Ql m (Lr [0]))
 subst u
 refine Gx 1 Z (TC.le d (Gc 6 Z (Bd h fun de df h=>?_)))
 refine CtE (b:=de) [0] [1] (fun _=>[]) (fun _=>[]) (fun _=>rfl) ?_ (fun dx env H u d=>?_)
 ·refine G0 1 Z ?_
  refine Lp [0] [1] (fun an=>[(8,I an)]) (fun _=>[]) df (fun _=>rfl) (Lr [0]) fun an fg p af=>?_
  refine G0 6 Z (Lm Z (Go 3 Z (YD Z p (fun bk p=>?_) (fun bk p=>?_))))
  ·refine Gc 2 Z (Qn p ?_)
   obtain rfl:=Oj af p
   exact Gx 1 Z (Qk Z (Lr [0]))
  refine Gc 9 Z (Bd p fun fh bl p=>Iz bl Z (Go 2 Z (Cz [] p (k_b _ _ _ _) Z fun fi dy p=>Go 3 Z (Cn Z p (fun bm p=>?_) (fun bm p=>?_)))))
  ·refine Gc 8 Z (Qu p ?_)
   obtain rfl:=Oj af p
   exact Gx 1 Z (Qm (Gx 1 Z (Rt h 2 [])))
  exact Gc 8 Z (Ql p (Lr [0]))
 subst u
 refine Gx 1 Z (TC.le d (Gc 6 Z (Bd h fun dg dh h=>?_)))
 refine CtE (b:=dg) [0] [1] (fun _=>[]) (fun _=>[]) (fun _=>rfl) ?_ (fun dz env H u d=>?_)
 ·refine G0 1 Z ?_
  refine Lp [0] [1] (fun ao=>[(9,I ao)]) (fun _=>[]) dh (fun _=>rfl) (Lr [0]) fun ao fj g ag=>?_
  refine G0 6 Z (Lm Z (Go 3 Z (YD Z g (fun bn g=>?_) (fun bn g=>?_))))
  ·refine Gc 2 Z (Qn g ?_)
   obtain rfl:=Oj ag g
   exact Gx 1 Z (Qk Z (Lr [0]))
  refine Gc 9 Z (Bd g fun fk bo g=>Iz bo Z (Go 6 Z (Bd g fun T y g=>?_)))
  refine Ct T [0,1] [1,9,10] (fun T=>[(11,.bool T)]) (fun _=>[]) (fun _=>rfl) ?_ (fun env H d=>?_)
  ·refine G0 3 Z (Cz [] y (k_b _ _ _ _) Z fun fm ea y=>Go 1 Z (Is 147 y Z (fun bp y=>?_) (fun bp y=>?_)))
   ·refine Go 5 Z (Is 152 y Z (fun bq y=>?_) (fun bq y=>?_))
    ·exact Go 6 Z (Cl y [0,1])
    ·exact Go 6 Z (Cl y [0,1])
   ·exact Go 11 Z (Cl y [0,1])
  refine Gx 1 Z (TC.le d (Gc 1 Z (Bd g fun V z g=>?_)))
  refine Ct V [0,1] [1,9,10,11] (fun V=>[(12,.bool V)]) (fun _=>[]) (fun _=>rfl) ?_ (fun env H d=>?_)
  ·refine G0 5 Z (Is 160 z Z (fun br z=>?_) (fun br z=>?_))
   ·refine Go 2 Z (Cz [] z (k_b _ _ _ _) Z fun fo eb z=>Go 2 Z (Is 165 z Z (fun bs z=>?_) (fun bs z=>?_)))
    ·exact Go 6 Z (Cl z [0,1])
    ·exact Go 6 Z (Cl z [0,1])
   ·exact Go 11 Z (Cl z [0,1])
  refine Gx 1 Z (TC.le d (Gc 1 Z (Bd g fun W E g=>?_)))
  refine Ct W [0] [1,9,11,12] (fun W=>[(13,.bool W)]) (fun _=>[]) (fun _=>rfl) ?_ (fun env H d=>?_)
  ·refine G0 5 Z (Is 173 E Z (fun bt E=>?_) (fun bt E=>?_))
   ·refine Go 5 Z (Is 178 E Z (fun bu E=>?_) (fun bu E=>?_))
    ·exact Go 5 Z (Cl E [0])
    ·exact Go 5 Z (Cl E [0])
   ·exact Go 10 Z (Cl E [0])
  refine Gx 1 Z (TC.le d (Gc 1 Z (Bd g fun X F g=>?_)))
  refine Ct X [0] [1,9] (fun X=>[(191,.bool X)]) (fun _=>[]) (fun _=>rfl) ?_ (fun env H d=>?_)
  ·refine G0 4 Z (Is 184 F Z (fun bv F=>?_) (fun bv F=>?_))
   ·refine Go 4 Z (Is 188 F Z (fun bw F=>?_) (fun bw F=>?_))
    ·exact Go 4 Z (Cl F [0])
    ·exact Go 4 Z (Cl F [0])
   ·exact Go 8 Z (Cl F [0])
  refine Gx 1 Z (TC.le d (Cn Z g (fun bx g=>?_) (fun bx g=>?_)))
  ·refine Gc 8 Z (Qu g ?_)
   obtain rfl:=Oj ag g
   exact Gx 1 Z (Qm (Gx 1 Z (Rt h 2 [])))
  exact Gc 8 Z (Ql g (Lr [0]))
 subst u
 refine Gx 1 Z (TC.le d (Gc 6 Z (Bd h fun di dj h=>?_)))
 refine CtE (b:=di) [0] [1] (fun _=>[]) (fun _=>[]) (fun _=>rfl) ?_ (fun ec env H u d=>?_)
 ·refine G0 1 Z ?_
  refine Lp [0] [1] (fun aq=>[(14,I aq)]) (fun _=>[]) dj (fun _=>rfl) (Lr [0]) fun aq fp q ah=>?_
  refine G0 6 Z (Lm Z (Go 3 Z (YD Z q (fun bz q=>?_) (fun bz q=>?_))))
  ·refine Gc 2 Z (Qn q ?_)
   obtain rfl:=Oj ah q
   exact Gx 1 Z (Qk Z (Lr [0]))
  refine Gc 9 Z (Bd q fun fq ca q=>Iz ca Z (Go 6 Z (Bd q fun Y G q=>?_)))
  refine Ct Y [0] [1,14] (fun Y=>[(218,.bool Y)]) (fun _=>[]) (fun _=>rfl) ?_ (fun env H d=>?_)
  ·refine G0 5 Z (Is 207 G Z (fun cb G=>?_) (fun cb G=>?_))
   ·exact Go 12 Z (Cl G [0])
   ·refine Go 7 Z (Is 214 G Z (fun cc G=>?_) (fun cc G=>?_))
    ·exact Go 5 Z (Cl G [0])
    ·exact Go 5 Z (Cl G [0])
  refine Gx 1 Z (TC.le d (Cn Z q (fun cd q=>?_) (fun cd q=>?_)))
  ·refine Gc 8 Z (Qu q ?_)
   obtain rfl:=Oj ah q
   exact Gx 1 Z (Qm (Gx 1 Z (Rt h 2 [])))
  exact Gc 8 Z (Ql q (Lr [0]))
 subst u
 refine Gx 1 Z (TC.le d (Gc 6 Z (Bd h fun dk dl h=>?_)))
 refine CtE (b:=dk) [0] [1] (fun _=>[]) (fun _=>[]) (fun _=>rfl) ?_ (fun ed env H u d=>?_)
 ·refine G0 1 Z ?_
  refine Lp [0] [1] (fun ar=>[(16,I ar)]) (fun _=>[]) dl (fun _=>rfl) (Lr [0]) fun ar fr k P=>?_
  refine G0 6 Z (Lm Z (Go 3 Z (YD Z k (fun ce k=>?_) (fun ce k=>?_))))
  ·refine Gc 2 Z (Qn k ?_)
   obtain rfl:=Oj P k
   exact Gx 1 Z (Qk Z (Lr [0]))
  refine Gc 9 Z (Bd k fun fs cf k=>Iz cf Z (Go 7 Z (Bd k fun aa i k=>?_)))
  refine Ct aa [0,1] [1,16,17] (fun aa=>[(260,.bool aa)]) (fun _=>[]) (fun _=>rfl) ?_ (fun env H d=>?_)
  ·refine G0 5 Z (Lm Z (Go 1 Z (Cz [] i (k_b _ _ _ _) Z fun ft ee i=>Go 2 Z (Is 239 i Z (fun cg i=>?_) (fun cg i=>?_)))))
   ·exact Go 22 Z (Cl i [0,1])
   ·refine Go 4 Z (Lm Z (Go 1 Z (Cz [] i (k_b _ _ _ _) Z fun fu ef i=>Go 3 Z (Is 249 i Z (fun ch i=>?_) (fun ch i=>?_)))))
    ·exact Go 12 Z (Cl i [0,1])
    ·refine Go 2 Z (Cz [] i (k_b _ _ _ _) Z fun fv eg i=>Go 3 Z (Is 255 i Z (fun ci i=>?_) (fun ci i=>?_)))
     ·exact Go 6 Z (Cl i [0,1])
     ·exact Go 2 Z (Cz [] i (k_b _ _ _ _) Z fun fw eh i=>Go 3 Z (Cl i [0,1]))
  refine Gx 1 Z (TC.le d (Cn Z k (fun cj k=>?_) (fun cj k=>?_)))
  ·refine Gc 9 Z (Qu k ?_)
   obtain rfl:=Oj P k
   exact Gx 1 Z (Qm (Gx 1 Z (Rt h 2 [])))
  refine Gc 7 Z (Bd k fun dm dn k=>?_)
  refine CtE (b:=dm) [0] [1,16] (fun _=>[]) (fun _=>[]) (fun _=>rfl) ?_ (fun ei env H u d=>?_)
  ·refine G0 1 Z ?_
   refine Lp [0,1] [1,16,17] (fun au=>[(18,I au)]) (fun _=>[]) dn (fun _=>rfl) (Lr [0,1]) fun au fx s ai=>?_
   refine G0 8 Z (YD Z s (fun ck s=>?_) (fun ck s=>?_))
   ·refine Gc 2 Z (Qn s ?_)
    obtain rfl:=Oj ai s
    exact Gx 1 Z (Qk Z (Lr [0]))
   refine Gc 9 Z (Bd s fun fy cl s=>Iz cl Z (Go 6 Z (Bd s fun ab J s=>?_)))
   refine Ct ab [0,1] [1,16,17,18] (fun ab=>[(289,.bool ab)]) (fun _=>[]) (fun _=>rfl) ?_ (fun env H d=>?_)
   ·refine G0 7 Z (Is 276 J Z (fun cm J=>?_) (fun cm J=>?_))
    ·refine Go 7 Z (Is 283 J Z (fun cn J=>?_) (fun cn J=>?_))
     ·exact Go 7 Z (Cl J [0,1])
     ·exact Go 7 Z (Cl J [0,1])
    ·exact Go 14 Z (Cl J [0,1])
   refine Gx 1 Z (TC.le d (Cn Z s (fun co s=>?_) (fun co s=>?_)))
   ·refine Gc 8 Z (Qu s ?_)
    obtain rfl:=Oj ai s
    refine Gx 1 Z (Qm (Gx 2 Z (Qu k ?_)))
    obtain rfl:=Oj P k
    exact Gx 1 Z (Qm (Gx 1 Z (Rt h 2 [])))
   exact Gc 8 Z (Ql s (Lr [0,1]))
  subst u
  exact Gx 2 Z (TC.le d (Gc 5 Z (Ql k (Lr [0]))))
 subst u
 refine Gx 1 Z (TC.le d (Gc 9 Z (Bd h fun ac a h=>?_)))
 refine Ct ac [] [] (fun ac=>[(2,.bool ac)]) (fun _=>[]) (fun _=>rfl) ?_ (fun env H d=>?_)
 ·refine G0 3 Z (Cz [] a (k_b _ _ _ _) Z fun ga ej a=>Go 1 Z (Is 295 a Z (fun cp a=>?_) (fun cp a=>?_)))
  ·refine Go 2 Z (Cz [] a (k_b _ _ _ _) Z fun gb ek a=>Go 2 Z (Is 300 a Z (fun cq a=>?_) (fun cq a=>?_)))
   ·refine Go 2 Z (Cz [] a (k_b _ _ _ _) Z fun gc el a=>Go 2 Z (Is 305 a Z (fun cr a=>?_) (fun cr a=>?_)))
    ·refine Go 2 Z (Cz [] a (k_b _ _ _ _) Z fun gd em a=>Go 2 Z (Is 310 a Z (fun cs a=>?_) (fun cs a=>?_)))
     ·refine Go 2 Z (Cz [] a (k_b _ _ _ _) Z fun ge en a=>Go 2 Z (Is 315 a Z (fun ct a=>?_) (fun ct a=>?_)))
      ·refine Go 2 Z (Cz [] a (k_b _ _ _ _) Z fun gf eo a=>Go 2 Z (Is 320 a Z (fun cu a=>?_) (fun cu a=>?_)))
       ·exact Go 2 Z (Cz [] a (k_b _ _ _ _) Z fun gg ep a=>Go 3 Z (Cl a []))
       ·exact Go 6 Z (Cl a [])
      ·exact Go 11 Z (Cl a [])
     ·exact Go 16 Z (Cl a [])
    ·exact Go 21 Z (Cl a [])
   ·exact Go 26 Z (Cl a [])
  ·exact Go 31 Z (Cl a [])
 exact Gx 1 Z (TC.le d (Gc 1 Z (Rt h 2 [])))
def F_ea(n:Nat)(b:Cond)(rec170:Cond->Option Bool)(a:Int):Option (Ctl Int (Ctl Unit Bool)):=
  (bif decide (a<(b.Parts.length:Int))then(idx b.Parts a).bind fun c=>(rec170 c).bind fun d=>(bif (!d)then some (.done (.done false))else some (.cont (IntKind.i64.wrap (a+1))))else some (.done (.cont ())))
def B_r(rec170:Cond->Option Bool)(n:Nat)(a:Cond):Option Bool:=
  (bif (a.Kind==1)then((bif decide (1<=a.Var)then(bif decide (a.Var<=3)then(bif decide (0<=a.N)then(bif decide (a.N<=10000)then some ((a.Parts.length:Int)==0)else some false)else some false)else some false)else some false):Option Bool).bind fun i=>some i else((bif (a.Kind==2)then some (a.Kind==2)else some (a.Kind==3)):Option Bool).bind fun d=>((bif d then((bif decide ((a.Parts.length:Int)<1)then some true else some (decide (16<(a.Parts.length:Int)))):Option Bool).bind fun e=>(bif e then some (.done false)else some (.cont ()))else(bif (a.Kind==4)then(bif ((a.Parts.length:Int) != 1)then some (.done false)else some (.cont ()))else some (.done false))):Option (Ctl Unit Bool)).bind fun f=>match f with|.cont b=>(((bif (a.Var != 0)then some true else some (a.N != 0)):Option Bool).bind fun g=>(bif g then some false else(iter (F_ea n a rec170) n 0:Option (Ctl Unit Bool)).bind fun h=>match h with|.cont c=>(some true)|.done c=>some c))|.done b=>some b)
theorem QaR(rec170:Cond->Option Bool)(k:∀(l:Cond) (r:Bool),rec170 l=some r->Csm prog 206 [.agg (Cond.c l)] [] (fun r=>.bool r) r)(n:Nat)(l:Cond)(r:Bool)(h:B_r rec170 n l=some r):
    Csm prog 206 [.agg (Cond.c l)] [] (fun r=>.bool r) r:=by
 refine Qb func206 Z Z Z ?_
 refine G0 20 Z (Cn Z h (fun P h=>?_) (fun P h=>?_))
 ·refine Gc 1 Z (Bd h fun u e h=>?_)
  refine Ct u [] [] (fun u=>[(2,.bool u)]) (fun _=>[]) (fun _=>rfl) ?_ (fun env H f=>?_)
  ·refine G0 5 Z (Is 11 e Z (fun Q e=>?_) (fun Q e=>?_))
   ·refine Go 5 Z (Is 16 e Z (fun R e=>?_) (fun R e=>?_))
    ·refine Go 5 Z (Is 21 e Z (fun w e=>?_) (fun w e=>?_))
     ·refine Go 5 Z (Is 26 e Z (fun x e=>?_) (fun x e=>?_))
      ·exact Go 2 Z (Lm Z (Go 4 Z (Cl e [])))
      ·exact Go 7 Z (Cl e [])
     ·exact Go 12 Z (Cl e [])
    ·exact Go 17 Z (Cl e [])
   ·exact Go 22 Z (Cl e [])
  exact Gx 1 Z (TC.le f (Gc 3 Z (Rt h 2 [])))
 refine Gc 7 Z (Bd h fun m g h=>?_)
 refine Ct m [0] [1,5] (fun m=>[(32,.bool m)]) (fun _=>[]) (fun _=>rfl) ?_ (fun env H f=>?_)
 ·refine G0 0 Z (Cn Z g (fun y g=>?_) (fun y g=>?_))
  ·exact Gc 1 Z (Cl g [0])
  exact Gc 4 Z (Cl g [0])
 refine Gx 1 Z (TC.le f (Bd h fun T a h=>?_))
 refine CtE (b:=T) [0] [1] (fun _=>[]) (fun _=>[]) (fun _=>rfl) ?_ (fun aa env H hb f=>?_)
 ·refine G0 0 Z (Cn Z a (fun z a=>?_) (fun z a=>?_))
  ·refine Gc 1 Z (Bd a fun p i a=>?_)
   refine Ct p [0] [1] (fun p=>[(44,.bool p)]) (fun _=>[]) (fun _=>rfl) ?_ (fun env H f=>?_)
   ·refine G0 3 Z (Lm Z (Go 2 Z (Is 39 i Z (fun B i=>?_) (fun B i=>?_))))
    ·exact Go 6 Z (Cl i [0])
    ·exact Go 2 Z (Lm Z (Go 3 Z (Cl i [0])))
   refine Gx 1 Z (TC.le f (Cn Z a (fun E a=>?_) (fun E a=>?_)))
   ·refine Gc 6 Z ?_
    cases a
    exact Qm (Gx 2 Z (Rt h 2 []))
   refine Gc 1 Z ?_
   cases a
   exact Qk Z (Lr [0])
  refine Gc 6 Z (YD Z a (fun F a=>?_) (fun F a=>?_))
  ·refine Gc 6 Z ?_
   cases a
   exact Qm (Gx 2 Z (Rt h 2 []))
  refine Gc 4 Z (Lm Z (Go 3 Z (Cn Z a (fun G a=>?_) (fun G a=>?_))))
  ·refine Gc 6 Z ?_
   cases a
   exact Qm (Gx 2 Z (Rt h 2 []))
  refine Gc 1 Z ?_
  cases a
  exact Qk Z (Lr [0])
 subst hb
 refine Gx 2 Z (TC.le f (Gc 2 Z (Bd h fun q j h=>?_)))
 refine Ct q [0] [1] (fun q=>[(58,.bool q)]) (fun _=>[]) (fun _=>rfl) ?_ (fun env H f=>?_)
 ·refine G0 5 Z (Is 54 j Z (fun J j=>?_) (fun J j=>?_))
  ·exact Go 5 Z (Cl j [0])
  ·exact Go 5 Z (Cl j [0])
 refine Gx 1 Z (TC.le f (Cn Z h (fun L h=>?_) (fun L h=>?_)))
 ·exact Gc 7 Z (Rt h 2 [])
 refine Gc 8 Z (Bd h fun V W h=>?_)
 refine CtE (b:=V) [] [] (fun _=>[]) (fun _=>[]) (fun _=>rfl) ?_ (fun ab env H X f=>?_)
 ·refine G0 1 Z ?_
  refine Lp [0] [1] (fun t=>[(3,I t)]) (fun _=>[]) W (fun _=>rfl) (Lr [0]) fun t ad d s=>?_
  refine G0 6 Z (Lm Z (Go 3 Z (YD Z d (fun M d=>?_) (fun M d=>?_))))
  ·refine Gc 2 Z (Qn d ?_)
   obtain rfl:=Oj s d
   exact Gx 1 Z (Qk Z (Lr []))
  refine Gc 9 Z (Bd d fun Y N d=>IzE N (Qao Y) Z (Go 1 Z (Cz [] d (k _) Z fun ae ac d=>Go 3 Z (Cn Z d (fun O d=>?_) (fun O d=>?_)))))
  ·refine Gc 8 Z (Qu d ?_)
   obtain rfl:=Oj s d
   exact Gx 1 Z (Qm (Gx 1 Z (Rt h 2 [])))
  exact Gc 8 Z (Ql d (Lr [0]))
 subst X
 exact Gx 1 Z (TC.le f (Gc 6 Z (Rt h 2 [])))
def F_r:Nat->Cond->Option Bool
  |0=>fun _=>none
  |n+1=>B_r (F_r n) n
theorem k_r(n:Nat):∀(a:Cond) (r:Bool),F_r n a=some r->Csm prog 206 [.agg (Cond.c a)] [] (fun r=>.bool r) r:=by
  induction n with
  |zero=>intro a r h;cases h
  |succ n ih=>intro a r h;exact QaR _ ih n a r h
def F_ap(n:Nat)(a:Cond):Option Int:=
  (F_h n a 0).bind fun b=>(bif decide (256<b)then some 2 else(F_r n a).bind fun c=>(bif (!c)then some 71 else some 0))
theorem k_ap(n:Nat)(a:Cond)(r:Int)(h:F_ap n a=some r):
    Csm prog 169 [.agg (Cond.c a)] [] (fun r=>I r) r:=by
 refine Qb func169 Z Z Z ?_
 refine G0 10 Z (Cz [] h (k_h _ _ _) Z fun g e h=>Go 3 Z (Cn Z h (fun b h=>?_) (fun b h=>?_)))
 ·exact Gc 7 Z (Rt h 2 [])
 refine Gc 6 Z (Cz [] h (k_r _ _) Z fun i f h=>Go 3 Z (Cn Z h (fun d h=>?_) (fun d h=>?_)))
 ·exact Gc 7 Z (Rt h 2 [])
 exact Gc 8 Z (Rt h 2 [])
def F_gq(n:Nat)(k:List Step)(rec168:(List Step)->Option Bool)(b:Int):Option (Ctl Int (Ctl Unit Bool)):=
  (bif decide (b<(k.length:Int))then(idx k b).bind fun a=>((bif (a.Kind==1)then((bif decide (a.By<1)then some true else(bif decide (5<a.By)then some true else(F_aj n a.Cond).bind fun d=>(bif (!d)then some true else(bif ((a.Then.length:Int) != 0)then some true else some ((a.Else.length:Int) != 0))))):Option Bool).bind fun e=>(bif e then some (.done (.done (.done false)))else some (.cont ()))else(bif (a.Kind==2)then((bif (a.By != 0)then some true else(F_ap n a.Cond).bind fun f=>(bif (f != 0)then some true else(bif ((a.Then.length:Int)==0)then some true else(rec168 a.Then).bind fun g=>(bif (!g)then some true else(rec168 a.Else).bind fun h=>some (!h))))):Option Bool).bind fun i=>(bif i then some (.done (.done (.done false)))else some (.cont ()))else some (.done (.done (.done false))))):Option (Ctl Unit (Ctl Int (Ctl Unit Bool)))).bind fun j=>match j with|.cont c=>(some (.cont (IntKind.i64.wrap (b+1))))|.done c=>some c else some (.done (.cont ())))
def B_f(rec168:(List Step)->Option Bool)(n:Nat)(c:List Step):Option Bool:=
  (iter (F_gq n c rec168) n 0:Option (Ctl Unit Bool)).bind fun b=>match b with|.cont a=>(some true)|.done a=>some a
theorem QaQ(rec168:(List Step)->Option Bool)(i:∀(l:List Step) (r:Bool),rec168 l=some r->Csm prog 122 [.rsl 8 (List.map Step.enc l)] [] (fun r=>.bool r) r)(n:Nat)(l:List Step)(r:Bool)(h:B_f rec168 n l=some r):
    Csm prog 122 [.rsl 8 (List.map Step.enc l)] [] (fun r=>.bool r) r:=by
 refine Qb func122 Z Z Z ?_
 refine G0 11 Z (Bd h fun L M h=>?_)
 refine CtE (b:=L) [] [] (fun _=>[]) (fun _=>[]) (fun _=>rfl) ?_ (fun Q env H P g=>?_)
 ·refine G0 1 Z ?_
  refine Lp [] [0] (fun m=>[(3,I m)]) (fun _=>[]) M (fun _=>rfl) (Lr []) fun m Y e f=>?_
  refine G0 5 Z (Lm Z (Go 3 Z (YD Z e (fun p e=>?_) (fun p e=>?_))))
  ·refine Gc 2 Z (Qn e ?_)
   obtain rfl:=Oj f e
   exact Gx 1 Z (Qk Z (Lr []))
  refine Gc 8 Z (Bd e fun N q e=>IzE q (Yn N) Z (Go 18 Z (Bd e fun O c e=>?_)))
  refine CtE (b:=O) [] [0,3] (fun _=>[]) (fun _=>[]) (fun _=>rfl) ?_ (fun R env H hb g=>?_)
  ·refine G0 0 Z (Cn Z c (fun s c=>?_) (fun s c=>?_))
   ·refine Gc 1 Z (Bd c fun j d c=>?_)
    refine Ct j [] [0,3] (fun j=>[(44,.bool j)]) (fun _=>[]) (fun _=>rfl) ?_ (fun env H g=>?_)
    ·refine G0 5 Z (Is 22 d Z (fun t d=>?_) (fun t d=>?_))
     ·exact Go 23 Z (Cl d [])
     ·refine Go 5 Z (Is 27 d Z (fun u d=>?_) (fun u d=>?_))
      ·exact Go 18 Z (Cl d [])
      ·refine Go 2 Z (Cz [] d (k_aj _ _) Z fun aa T d=>Go 3 Z (Is 33 d Z (fun w d=>?_) (fun w d=>?_)))
       ·exact Go 12 Z (Cl d [])
       ·refine Go 2 Z (Lm Z (Go 3 Z (Is 39 d Z (fun x d=>?_) (fun x d=>?_))))
        ·exact Go 6 Z (Cl d [])
        ·exact Go 2 Z (Lm Z (Go 3 Z (Cl d [])))
    refine Gx 1 Z (TC.le g (Cn Z c (fun y c=>?_) (fun y c=>?_)))
    ·refine Gc 6 Z ?_
     cases c
     refine Qm (Gx 3 Z (Qu e ?_))
     obtain rfl:=Oj f e
     exact Gx 1 Z (Qm (Gx 1 Z (Rt h 2 [])))
    refine Gc 1 Z ?_
    cases c
    exact Qk Z (Lr [])
   refine Gc 6 Z (YD Z c (fun z c=>?_) (fun z c=>?_))
   ·refine Gc 6 Z ?_
    cases c
    refine Qm (Gx 3 Z (Qu e ?_))
    obtain rfl:=Oj f e
    exact Gx 1 Z (Qm (Gx 1 Z (Rt h 2 [])))
   refine Gc 1 Z (Bd c fun k a c=>?_)
   refine Ct k [] [0,3] (fun k=>[(73,.bool k)]) (fun _=>[]) (fun _=>rfl) ?_ (fun env H g=>?_)
   ·refine G0 5 Z (Is 50 a Z (fun B a=>?_) (fun B a=>?_))
    ·exact Go 24 Z (Cl a [])
    ·refine Go 2 Z (Cz [] a (k_ap _ _) Z fun ab V a=>Go 3 Z (Is 56 a Z (fun E a=>?_) (fun E a=>?_)))
     ·exact Go 18 Z (Cl a [])
     ·refine Go 2 Z (Lm Z (Go 3 Z (Is 62 a Z (fun F a=>?_) (fun F a=>?_))))
      ·exact Go 12 Z (Cl a [])
      ·refine Go 2 Z (Cz [] a (i _) Z fun ac W a=>Go 3 Z (Is 68 a Z (fun G a=>?_) (fun G a=>?_)))
       ·exact Go 6 Z (Cl a [])
       ·exact Go 2 Z (Cz [] a (i _) Z fun ad X a=>Go 3 Z (Cl a []))
   refine Gx 1 Z (TC.le g (Cn Z c (fun J c=>?_) (fun J c=>?_)))
   ·refine Gc 6 Z ?_
    cases c
    refine Qm (Gx 3 Z (Qu e ?_))
    obtain rfl:=Oj f e
    exact Gx 1 Z (Qm (Gx 1 Z (Rt h 2 [])))
   refine Gc 1 Z ?_
   cases c
   exact Qk Z (Lr [])
  subst hb
  exact Gx 3 Z (TC.le g (Gc 5 Z (Ql e (Lr []))))
 subst P
 exact Gx 1 Z (TC.le g (Gc 6 Z (Rt h 2 [])))
def F_f:Nat->(List Step)->Option Bool
  |0=>fun _=>none
  |n+1=>B_f (F_f n) n
theorem k_f(n:Nat):∀(a:List Step) (r:Bool),F_f n a=some r->Csm prog 122 [.rsl 8 (List.map Step.enc a)] [] (fun r=>.bool r) r:=by
  induction n with
  |zero=>intro a r h;cases h
  |succ n ih=>intro a r h;exact QaQ _ ih n a r h
def F_cx(n:Nat)(a:List Step):Option Int:=
  (F_l n a 0).bind fun b=>((bif decide (64<b.1)then some true else some (decide (256<b.2))):Option Bool).bind fun d=>(bif d then some 2 else((bif ((a.length:Int)==0)then some true else(F_f n a).bind fun c=>some (!c)):Option Bool).bind fun e=>(bif e then some 71 else some 0))
theorem k_cx(n:Nat)(i:List Step)(r:Int)(h:F_cx n i=some r):
    Csm prog 58 [.rsl 8 (List.map Step.enc i)] [] (fun r=>I r) r:=by
 refine Qb func58 Z Z Z ?_
 refine G0 8 Z (Cd [] h (k_l _ _ _) Z fun q m h=>FE Z (Go 9 Z (Bd h fun d b h=>?_)))
 refine Ct d [] [0] (fun d=>[(15,.bool d)]) (fun _=>[]) (fun _=>rfl) ?_ (fun env H c=>?_)
 ·refine G0 4 Z (Is 12 b Z (fun j b=>?_) (fun j b=>?_))
  ·exact Go 4 Z (Cl b [])
  ·exact Go 4 Z (Cl b [])
 refine Gx 1 Z (TC.le c (Cn Z h (fun k h=>?_) (fun k h=>?_)))
 ·exact Gc 7 Z (Rt h 2 [])
 refine Gc 4 Z (Bd h fun e a h=>?_)
 refine Ct e [] [] (fun e=>[(23,.bool e)]) (fun _=>[]) (fun _=>rfl) ?_ (fun env H c=>?_)
 ·refine G0 2 Z (Lm Z (Go 2 Z (Is 19 a Z (fun f a=>?_) (fun f a=>?_))))
  ·exact Go 5 Z (Cl a [])
  ·exact Go 1 Z (Cz [] a (k_f _ _) Z fun p l a=>Go 3 Z (Cl a []))
 refine Gx 1 Z (TC.le c (Cn Z h (fun g h=>?_) (fun g h=>?_)))
 ·exact Gc 7 Z (Rt h 2 [])
 exact Gc 8 Z (Rt h 2 [])
def F_ej(n:Nat)(g:List Part)(b:(List Int)×Int)(c:List Int)(a:(List Int)×Int):Option (Ctl ((List Int)×Int) (List Int)):=
  ((idx g b.2).bind fun d=>(bif decide (a.2<d.Laps)then some (decide ((a.1.length:Int)<=256))else some false):Option Bool).bind fun e=>(bif e then(app a.1 c).bind fun f=>some (.cont (f,IntKind.i64.wrap (a.2+1)))else some (.done a.1))
def F_ex(n:Nat)(b:List Part)(rec172:(List Part)->Option (List Int))(a:(List Int)×Int):Option (Ctl ((List Int)×Int) (List Int)):=
  ((bif decide (a.2<(b.length:Int))then some (decide ((a.1.length:Int)<=256))else some false):Option Bool).bind fun c=>(bif c then((idx b a.2).bind fun d=>(bif (d.Laps==0)then(idx b a.2).bind fun e=>(app a.1 [e.Mat]).bind fun f=>some f else(idx b a.2).bind fun g=>(rec172 g.Parts).bind fun h=>(iter (F_ej n b a h) n (a.1,0):Option (List Int)).bind fun i=>some i):Option (List Int)).bind fun j=>some (.cont (j,IntKind.i64.wrap (a.2+1)))else some (.done a.1))
def B_s(rec172:(List Part)->Option (List Int))(n:Nat)(b:List Part):Option (List Int):=
  (iter (F_ex n b rec172) n (([]:List Int),0):Option (List Int)).bind fun a=>some a
theorem QaM(rec172:(List Part)->Option (List Int))(t:∀(u:List Part) (r:List Int),rec172 u=some r->C prog 123 [.rsl 3 (List.map Part.enc u)] [] (RQ (fun r=>.osl 0 0 r.length 1) (fun r=>[.row 3 1 (List.map (Qj .i64) r)]) r))(n:Nat)(u:List Part)(r:List Int)(h:B_s rec172 n u=some r):
    C prog 123 [.rsl 3 (List.map Part.enc u)] [] (RQ (fun r=>.osl 0 0 r.length 1) (fun r=>[.row 3 1 (List.map (Qj .i64) r)]) r):=by
 refine Qb func123 Z Z Z ?_
 refine G0 7 Z ?_
 refine vH (OpH.lit (xs:=[]) (es:=List.map (Qj .i64) []) QD Z Z Z Z Z trivial Z Z) ?_
 refine FE Z (Go 9 Z (Bd h fun g Q h=>?_))
 refine Ct g [0] [] (fun g=>[(3,.osl 0 0 g.length 1)]) (fun g=>[(0,.row 3 1 (List.map (Qj .i64) g))]) (fun _=>rfl) ?_ (fun env H f=>?_)
 ·refine G0 1 Z ?_
  refine Lp [0] [0] (fun j=>[(3,.osl 0 0 j.1.length 1),(4,I j.2)]) (fun j=>[(0,.row 3 1 (List.map (Qj .i64) j.1))]) Q (fun _=>rfl) (Lr [0]) fun j Y b x=>?_
  refine G0 2 Z (Bd b fun q k b=>?_)
  refine Ct q [0] [0,3,4] (fun q=>[(16,.bool q)]) (fun _=>[]) (fun _=>rfl) ?_ (fun env H f=>?_)
  ·refine G0 3 Z (Lm Z (Go 2 Z (Is 12 k Z (fun y k=>?_) (fun y k=>?_))))
   ·exact Go 5 Z (Cl k [0])
   ·exact Go 5 Z (Cl k [0])
  refine Gx 1 Z (TC.le f (YD Z b (fun z b=>?_) (fun z b=>?_)))
  ·refine Gc 2 Z (Qn b ?_)
   obtain rfl:=Oj x b
   exact Gx 1 Z (QK (Lr [0]))
  refine Gc 3 Z (Bd b fun l a b=>?_)
  refine Ct l [0] [0,4] (fun l=>[(3,.osl 0 0 l.length 1)]) (fun l=>[(0,.row 3 1 (List.map (Qj .i64) l))]) (fun _=>rfl) ?_ (fun env H f=>?_)
  ·refine G0 6 Z (Bd a fun R B a=>IzE B (QL R) Z (Go 5 Z (Cn Z a (fun E a=>?_) (fun E a=>?_))))
   ·refine Gc 5 Z (Bd a fun w F a=>IzE F (QL w) Z (Go 2 Z ?_))
    refine vH (OpH.lit (xs:=[.tmp 30]) (es:=List.map (Qj .i64) [w.Mat]) QD Z Z Z Z Z ⟨Z,trivial⟩ Z Z) ?_
    refine FE Z (Bd a fun aa G a=>?_)
    refine vH (Q9 (e:=(Qj .i64)) G QD runUnderlying109 (YQ (i:=1))) ?_
    exact FE Z (Go 6 Z (Cl a [2]))
   refine Gc 6 Z (Bd a fun T J a=>IzE J (QL T) Z (Go 2 Z (Cd [] a (t _) Z fun ab X a=>FE Z (Go 8 Z (Bd a fun m V a=>?_)))))
   refine Ct m [0] [0,4] (fun m=>[(3,.osl 0 0 m.length 1)]) (fun m=>[(0,.row 3 1 (List.map (Qj .i64) m))]) (fun _=>rfl) ?_ (fun env H f=>?_)
   ·refine G0 1 Z ?_
    refine Lp [0,1] [0,4,5] (fun p=>[(3,.osl 0 0 p.1.length 1),(6,I p.2)]) (fun p=>[(0,.row 3 1 (List.map (Qj .i64) p.1))]) V (fun _=>rfl) (Lr [0,1]) fun p ac c L=>?_
    refine G0 2 Z (Bd c fun s d c=>?_)
    refine Ct s [0,1] [0,3,4,5,6] (fun s=>[(50,.bool s)]) (fun _=>[]) (fun _=>rfl) ?_ (fun env H f=>?_)
    ·refine G0 4 Z (Bd d fun W M d=>IzE M (QL W) Z (Go 4 Z (Is 46 d Z (fun N d=>?_) (fun N d=>?_))))
     ·exact Go 5 Z (Cl d [0,1])
     ·exact Go 5 Z (Cl d [0,1])
    refine Gx 1 Z (TC.le f (YD Z c (fun O c=>?_) (fun O c=>?_)))
    ·refine Gc 2 Z (Qn c ?_)
     obtain rfl:=Oj L c
     exact Gx 1 Z (QK (Lr [0]))
    refine Gc 7 Z (Bd c fun ad P c=>?_)
    refine vH (Q9 (e:=(Qj .i64)) P QD runUnderlying109 (YQ (i:=1))) ?_
    exact FE Z (Go 9 Z (Ql c (Lr [2,1])))
   refine Gx 1 Z ?_
   cases a
   exact QK (Le.trans f (Lr [0]))
  exact Gx 1 Z (TC.le f (Gc 5 Z (Ql b (Lr [0]))))
 exact Gx 1 Z (TC.le f (Gc 7 Z (Rt h 2 [0])))
def F_s:Nat->(List Part)->Option (List Int)
  |0=>fun _=>none
  |n+1=>B_s (F_s n) n
theorem k_s(n:Nat):∀(a:List Part) (r:List Int),F_s n a=some r->C prog 123 [.rsl 3 (List.map Part.enc a)] [] (RQ (fun r=>.osl 0 0 r.length 1) (fun r=>[.row 3 1 (List.map (Qj .i64) r)]) r):=by
  induction n with
  |zero=>intro a r h;cases h
  |succ n ih=>intro a r h;exact QaM _ ih n a r h
def F_dh(n:Nat)(b:Course)(f:Int)(g:Int)(a:Int):Option (Ctl Int (Ctl Unit Int)):=
  (bif decide (a<(b.Legs.length:Int))then((idx b.Legs a).bind fun c=>(bif (c.From==f)then(idx b.Legs a).bind fun d=>some (d.To==g)else some false):Option Bool).bind fun e=>(bif e then some (.done (.done a))else some (.cont (IntKind.i64.wrap (a+1))))else some (.done (.cont ())))
def F_z(n:Nat)(c:Course)(d:Int)(e:Int):Option Int:=
  (iter (F_dh n c d e) n 0:Option (Ctl Unit Int)).bind fun b=>match b with|.cont a=>(some (-1))|.done a=>some a
theorem k_z(n:Nat)(q:Course)(s:Int)(t:Int)(r:Int)(h:F_z n q s t=some r):
    Csm prog 124 [.agg (Course.c q),I s,I t] [] (fun r=>I r) r:=by
 refine Qb func124 Z Z Z ?_
 refine G0 12 Z (Bd h fun u w h=>?_)
 refine CtE (b:=u) [] [] (fun _=>[]) (fun _=>[]) (fun _=>rfl) ?_ (fun y env H x e=>?_)
 ·refine G0 1 Z ?_
  refine Lp [0] [1,2,3] (fun i=>[(7,I i)]) (fun _=>[]) w (fun _=>rfl) (Lr [0]) fun i z a f=>?_
  refine G0 6 Z (Lm Z (Go 3 Z (YD Z a (fun j a=>?_) (fun j a=>?_))))
  ·refine Gc 2 Z (Qn a ?_)
   obtain rfl:=Oj f a
   exact Gx 1 Z (Qk Z (Lr []))
  refine Gc 5 Z (Bd a fun g d a=>?_)
  refine Ct g [0] [1,2,3,7] (fun g=>[(32,.bool g)]) (fun _=>[]) (fun _=>rfl) ?_ (fun env H e=>?_)
  ·refine G0 4 Z (Bd d fun B k d=>Iz k Z (Go 5 Z (Is 23 d Z (fun l d=>?_) (fun l d=>?_))))
   ·exact Go 3 Z (Bd d fun E m d=>Iz m Z (Go 6 Z (Cl d [0])))
   ·exact Go 10 Z (Cl d [0])
  refine Gx 1 Z (TC.le e (Cn Z a (fun p a=>?_) (fun p a=>?_)))
  ·refine Gc 9 Z (Qu a ?_)
   obtain rfl:=Oj f a
   exact Gx 1 Z (Qm (Gx 1 Z (Rt h 6 [])))
  exact Gc 8 Z (Ql a (Lr [0]))
 subst x
 exact Gx 1 Z (TC.le e (Gc 6 Z (Rt h 6 [])))
def F_fe(n:Nat)(b:List Int)(e:Int)(a:Int×Int):Option (Ctl (Int×Int) Int):=
  (bif decide (a.2<(b.length:Int))then(idx b a.2).bind fun c=>((bif (c==e)then some (IntKind.i64.wrap (a.1+1))else some a.1):Option Int).bind fun d=>some (.cont (d,IntKind.i64.wrap (a.2+1)))else some (.done a.1))
def F_ag(n:Nat)(b:List Int)(c:Int):Option Int:=
  (iter (F_fe n b c) n (0,0):Option Int).bind fun a=>some a
theorem k_ag(n:Nat)(l:List Int)(m:Int)(r:Int)(h:F_ag n l m=some r):
    Csm prog 125 [.rsl 1 (List.map (Qj .i64) l),I m] [] (fun r=>I r) r:=by
 refine Qb func125 Z Z Z ?_
 refine G0 16 Z (Bd h fun c p h=>?_)
 refine Ct c [] [] (fun c=>[(5,I c)]) (fun _=>[]) (fun _=>rfl) ?_ (fun env H d=>?_)
 ·refine G0 1 Z ?_
  refine Lp [] [0,1] (fun e=>[(5,I e.1),(6,I e.2)]) (fun _=>[]) p (fun _=>rfl) (Lr []) fun e q a g=>?_
  refine G0 5 Z (Lm Z (Go 3 Z (YD Z a (fun i a=>?_) (fun i a=>?_))))
  ·refine Gc 2 Z (Qn a ?_)
   obtain rfl:=Oj g a
   exact Gx 1 Z (QK (Lr []))
  refine Gc 8 Z (Bd a fun s j a=>Iz j Z (Go 5 Z (Bd a fun f b a=>?_)))
  refine Ct f [] [0,1,6] (fun f=>[(5,I f)]) (fun _=>[]) (fun _=>rfl) ?_ (fun env H d=>?_)
  ·refine G0 0 Z (Cn Z b (fun k b=>?_) (fun k b=>?_))
   ·exact Gc 5 Z (Cl b [])
   exact Gc 1 Z (Cl b [])
  exact Gx 2 Z (TC.le d (Gc 5 Z (Ql a (Lr []))))
 exact Gx 1 Z (TC.le d (Gc 7 Z (Rt h 4 [])))
def F_ci(n:Nat)(c:Course)(b:List Int)(a:Int):Option (Ctl Int (Ctl Unit Bool)):=
  (bif decide (a<(b.length:Int))then((bif (a==0)then some 1 else(bif (a==(IntKind.i64.wrap ((b.length:Int)-1)))then some 3 else some 2)):Option Int).bind fun d=>((idx b a).bind fun e=>(idx c.Mats e).bind fun f=>(bif (f.Kind != d)then some true else(bif decide (0<a)then(idx b (IntKind.i64.wrap (a-1))).bind fun g=>(idx b a).bind fun h=>(F_z n c g h).bind fun i=>some (decide (i<0))else some false)):Option Bool).bind fun j=>(bif j then some (.done (.done false))else some (.cont (IntKind.i64.wrap (a+1))))else some (.done (.cont ())))
def F_ha(n:Nat)(b:Distance)(f:List Int)(a:Int):Option (Ctl Int (Ctl Unit Bool)):=
  (bif decide (a<(b.Cutoffs.length:Int))then(idx b.Cutoffs a).bind fun c=>(F_ag n f c.Mat).bind fun d=>(idx b.Cutoffs a).bind fun e=>(bif decide (d<e.Lap)then some (.done (.done false))else some (.cont (IntKind.i64.wrap (a+1))))else some (.done (.cont ())))
def F_br(n:Nat)(e:Course)(a:Distance):Option Bool:=
  (F_s n a.Route).bind fun b=>((bif decide ((b.length:Int)<2)then some true else some (decide (256<(b.length:Int)))):Option Bool).bind fun l=>(bif l then some false else(iter (F_ci n e b) n 0:Option (Ctl Unit Bool)).bind fun f=>match f with|.cont c=>(((bif (a.Extra != (-1))then(idx e.Mats a.Extra).bind fun g=>(bif (g.Kind != 2)then some true else(F_ag n b a.Extra).bind fun h=>(bif (h==0)then some true else(F_z n e a.Extra a.Extra).bind fun i=>some (decide (i<0))))else some false):Option Bool).bind fun j=>(bif j then some false else(iter (F_ha n a b) n 0:Option (Ctl Unit Bool)).bind fun k=>match k with|.cont d=>(some true)|.done d=>some d))|.done c=>some c)
theorem k_br(n:Nat)(a1:Course)(a2:Distance)(r:Bool)(h:F_br n a1 a2=some r):
    Csm prog 59 [.agg (Course.c a1),.agg (Distance.c a2)] [] (fun r=>.bool r) r:=by
 refine Qb func59 Z Z Z ?_
 refine G0 11 Z (Cd [] h (k_s _ _) Z fun r1 ax h=>FE Z (Go 12 Z (Bd h fun O p h=>?_)))
 refine Ct O [0,1,2] [2,3,5,6] (fun O=>[(20,.bool O)]) (fun _=>[]) (fun _=>rfl) ?_ (fun env H g=>?_)
 ·refine G0 4 Z (Is 17 p Z (fun af p=>?_) (fun af p=>?_))
  ·exact Go 4 Z (Cl p [0,1,2])
  ·exact Go 4 Z (Cl p [0,1,2])
 refine Gx 1 Z (TC.le g (Cn Z h (fun ag h=>?_) (fun ag h=>?_)))
 ·exact Gc 7 Z (Rt h 4 [])
 refine Gc 8 Z (Bd h fun ah ai h=>?_)
 refine CtE (b:=ah) [0,1,2] [2,3,5] (fun _=>[]) (fun _=>[]) (fun _=>rfl) ?_ (fun ao env H q g=>?_)
 ·refine G0 1 Z ?_
  refine Lp [0,1,2] [2,3,5,6] (fun j=>[(7,I j)]) (fun _=>[]) ai (fun _=>rfl) (Lr [0,1,2]) fun j ay f s=>?_
  refine G0 8 Z (YD Z f (fun P f=>?_) (fun P f=>?_))
  ·refine Gc 2 Z (Qn f ?_)
   obtain rfl:=Oj s f
   exact Gx 1 Z (Qk Z (Lr [0,1,2]))
  refine Gc 22 Z (Bd f fun t i f=>?_)
  refine Ct t [0,1,2] [2,3,5,6,7] (fun t=>[(8,I t)]) (fun _=>[]) (fun _=>rfl) ?_ (fun env H g=>?_)
  ·refine G0 0 Z (Cn Z i (fun Q i=>?_) (fun Q i=>?_))
   ·exact Gc 3 Z (Cl i [0,1,2])
   refine Gc 8 Z (Cn Z i (fun R i=>?_) (fun R i=>?_))
   ·exact Gc 3 Z (Cl i [0,1,2])
   exact Gc 1 Z (Cl i [0,1,2])
  refine Gx 2 Z (TC.le g (Gc 1 Z (Bd f fun u d f=>?_)))
  refine Ct u [0,1,2] [2,3,5,6,7] (fun u=>[(61,.bool u)]) (fun _=>[]) (fun _=>rfl) ?_ (fun env H g=>?_)
  ·refine G0 0 Z (DSs 25 Z (D 4 Z ?_))
   obtain⟨aj,w,d⟩:=bnd d
   refine DS.v (x:=(.ptr 2 (Int.toNat j*1))) (QZ w Z runUnderlying109 sizeOf3) ?_
   refine DS.v (x:=(I aj)) (OpV.load Z isAgg3 Z (QF w)) ?_
   obtain⟨N,T,d⟩:=bnd d
   refine DS.wo (x:=.rp [.str N.Name,I N.Kind]) ?_ ?_
   ·exact Ix T runUnderlying56 sizeOf115 Z Wp
   refine D 5 Z (Qe1 11 d Z Z Z (fun V d=>?_) (fun V d=>?_))
   ·exact D 13 Z (DS.done Z (Go 5 Z (Cl d [0,1,2])))
   ·refine D 3 Z (Qe1 14 d Z Z Z (fun W d=>?_) (fun W d=>?_))
    ·refine D 4 Z ?_
     obtain⟨ak,y,d⟩:=bnd d
     refine DS.v (x:=(.ptr 2 (Int.toNat (IntKind.i64.wrap (j-1))*1))) (QZ y Z runUnderlying109 sizeOf3) ?_ (hg:=(gT Z))
     refine DS.v (x:=(I ak)) (OpV.load Z isAgg3 Z (QF y)) ?_ (hg:=(gT Z))
     refine D 2 Z ?_
     obtain⟨al,z,d⟩:=bnd d
     refine DS.v (x:=(.ptr 2 (Int.toNat j*1))) (QZ z Z runUnderlying109 sizeOf3) ?_ (hg:=(gT Z))
     refine DS.v (x:=(I al)) (OpV.load Z isAgg3 Z (QF z)) ?_ (hg:=(gT Z))
     exact DS.done Z (Cz [] d (k_z _ _ _ _) Z fun az aq d=>Go 4 Z (Cl d [0,1,2]))
    ·exact D 10 Z (DS.done Z (Go 5 Z (Cl d [0,1,2])))
  refine Gx 1 Z (TC.le g (Cn Z f (fun X f=>?_) (fun X f=>?_)))
  ·refine Gc 8 Z (Qu f ?_)
   obtain rfl:=Oj s f
   exact Gx 1 Z (Qm (Gx 1 Z (Rt h 4 [])))
  exact Gc 8 Z (Ql f (Lr [0,1,2]))
 subst q
 refine Gx 1 Z (TC.le g (Gc 2 Z (Bd h fun B e h=>?_)))
 refine Ct B [1,2] [3,5] (fun B=>[(90,.bool B)]) (fun _=>[]) (fun _=>rfl) ?_ (fun env H g=>?_)
 ·refine G0 5 Z (Is 65 e Z (fun Y e=>?_) (fun Y e=>?_))
  ·refine Go 4 Z (Bd e fun ba aa e=>Iz aa Z (Go 4 Z (Is 74 e Z (fun ab e=>?_) (fun ab e=>?_))))
   ·exact Go 17 Z (Cl e [1,2])
   ·refine Go 3 Z (Cb e (k_ag _ _ _) Z (lo (ls ln)) fun bb ar e=>Go 3 Z (Is 81 e Z (fun ac e=>?_) (fun ac e=>?_)))
    ·exact Go 10 Z (Cl e [1,2])
    ·exact Go 5 Z (Cz [] e (k_z _ _ _ _) Z fun bc au e=>Go 4 Z (Cl e [1,2]))
  ·exact Go 26 Z (Cl e [1,2])
 refine Gx 1 Z (TC.le g (Cn Z h (fun ad h=>?_) (fun ad h=>?_)))
 ·exact Gc 7 Z (Rt h 4 [])
 refine Gc 8 Z (Bd h fun am an h=>?_)
 refine CtE (b:=am) [] [] (fun _=>[]) (fun _=>[]) (fun _=>rfl) ?_ (fun av env H q g=>?_)
 ·refine G0 1 Z ?_
  refine Lp [0,1] [3,5] (fun E=>[(9,I E)]) (fun _=>[]) an (fun _=>rfl) (Lr [0,1]) fun E aw a m=>?_
  refine G0 6 Z (Lm Z (Go 3 Z (YD Z a (fun F a=>?_) (fun F a=>?_))))
  ·refine Gc 2 Z (Qn a ?_)
   obtain rfl:=Oj m a
   exact Gx 1 Z (Qk Z (Lr []))
  refine Gc 5 Z (DSs 14 Z (D 4 Z ?_))
  obtain⟨k,G,a⟩:=bnd a
  refine DS.wo (x:=.rp [I k.Mat,I k.Lap,I k.Limit]) ?_ ?_
  ·exact Ix G runUnderlying86 sizeOf159 Z Wp
  refine D 2 Z ?_
  obtain⟨ae,J,a⟩:=bnd a
  refine DS.wo (x:=I ae) ?_ ?_
  ·refine Qec (OpC.fn call125 rfl rfl rfl) (Qa8.cons rfl (.inr ⟨_,_,_,_,_,rfl,rfl,List.length_map ..,rfl⟩) (Qa8.cons rfl (.inl ⟨rfl,rfl⟩) Qa8.nil)) (k_ag _ _ _ _ J) (by rintro _ _ ⟨rfl,rfl⟩;rfl) ?_
   rintro _ _ ⟨rfl,rfl⟩
   exact FE Z Wp
  refine D 3 Z ?_
  obtain⟨l,L,a⟩:=bnd a
  refine DS.wo (x:=.rp [I l.Mat,I l.Lap,I l.Limit]) ?_ ?_
  ·exact Ix L runUnderlying86 sizeOf159 Z Wp
  refine D 2 Z (DS.done Z (Go 3 Z (Cn Z a (fun M a=>?_) (fun M a=>?_))))
  ·refine Gc 8 Z (Qu a ?_)
   obtain rfl:=Oj m a
   exact Gx 1 Z (Qm (Gx 1 Z (Rt h 4 [])))
  exact Gc 8 Z (Ql a (Lr [0,1]))
 subst q
 exact Gx 1 Z (TC.le g (Gc 6 Z (Rt h 4 [])))
def F_gz(n:Nat)(b:Course)(a:Int):Option (Ctl Int (Ctl Unit Int)):=
  (bif decide (a<(b.Distances.length:Int))then(idx b.Distances a).bind fun c=>(F_br n b c).bind fun d=>(bif (!d)then some (.done (.done 72))else some (.cont (IntKind.i64.wrap (a+1))))else some (.done (.cont ())))
def F_am(n:Nat)(a:Course):Option Int:=
  (F_cd n a).bind fun e=>(bif (!e)then some 2 else(F_bc n a).bind fun f=>(bif (!f)then some 70 else(F_cn n a).bind fun g=>(bif (!g)then some 71 else(F_cx n a.Ties).bind fun c=>(bif (c != 0)then some c else(iter (F_gz n a) n 0:Option (Ctl Unit Int)).bind fun d=>match d with|.cont b=>(some 0)|.done b=>some b))))
theorem k_am(n:Nat)(k:Course)(r:Int)(h:F_am n k=some r):
    Csm prog 32 [.agg (Course.c k)] [] (fun r=>I r) r:=by
 refine Qb func32 Z Z Z ?_
 refine G0 10 Z (Cz [] h (k_cd _ _) Z fun M B h=>Go 3 Z (Cn Z h (fun l h=>?_) (fun l h=>?_)))
 ·exact Gc 7 Z (Rt h 2 [])
 refine Gc 6 Z (Cz [] h (k_bc _ _) Z fun N E h=>Go 3 Z (Cn Z h (fun m h=>?_) (fun m h=>?_)))
 ·exact Gc 7 Z (Rt h 2 [])
 refine Gc 6 Z (Cz [] h (k_cn _ _) Z fun O F h=>Go 3 Z (Cn Z h (fun p h=>?_) (fun p h=>?_)))
 ·exact Gc 7 Z (Rt h 2 [])
 refine Gc 6 Z (Cz [] h (k_cx _ _) Z fun P G h=>Go 10 Z (Cn Z h (fun q h=>?_) (fun q h=>?_)))
 ·exact Gc 8 Z (Rt h 2 [])
 refine Gc 8 Z (Bd h fun s t h=>?_)
 refine CtE (b:=s) [] [] (fun _=>[]) (fun _=>[]) (fun _=>rfl) ?_ (fun y env H u w=>?_)
 ·refine G0 1 Z ?_
  refine Lp [0] [1] (fun f=>[(4,I f)]) (fun _=>[]) t (fun _=>rfl) (Lr [0]) fun f J a e=>?_
  refine G0 6 Z (Lm Z (Go 3 Z (YD Z a (fun g a=>?_) (fun g a=>?_))))
  ·refine Gc 2 Z (Qn a ?_)
   obtain rfl:=Oj e a
   exact Gx 1 Z (Qk Z (Lr []))
  refine Gc 5 Z (DSs 6 Z (D 4 Z ?_))
  obtain⟨d,i,a⟩:=bnd a
  refine DS.wo (x:=.rp [.str d.Name,.rsl 3 (List.map Part.enc d.Route),I d.Timing,.rsl 3 (List.map Cutoff.c d.Cutoffs),I d.Extra]) ?_ ?_
  ·exact Ix i runUnderlying58 sizeOf88 Z Wp
  refine D 1 Z (DS.done Z (Cz [] a (k_br _ _ _) Z fun L z a=>Go 3 Z (Cn Z a (fun j a=>?_) (fun j a=>?_))))
  ·refine Gc 8 Z (Qu a ?_)
   obtain rfl:=Oj e a
   exact Gx 1 Z (Qm (Gx 1 Z (Rt h 2 [])))
  exact Gc 8 Z (Ql a (Lr [0]))
 subst u
 exact Gx 1 Z (TC.le w (Gc 6 Z (Rt h 2 [])))
def F_ab(n:Nat)(a:Int)(b:Int)(c:Int):Option Bool:=
  ((bif decide (b<=a)then some (decide (a<=c))else some false):Option Bool).bind fun b2=>some b2
theorem k_ab(n:Nat)(b:Int)(c:Int)(d:Int)(r:Bool)(h:F_ab n b c d=some r):
    Csm prog 60 [I b,I c,I d] [] (fun r=>.bool r) r:=by
 refine Qb func60 Z Z Z ?_
 refine G0 6 Z (Bd h fun b2 a h=>?_)
 refine Ct b2 [] [] (fun b2=>[(6,.bool b2)]) (fun _=>[]) (fun _=>rfl) ?_ (fun env H e=>?_)
 ·refine G0 5 Z (Is 10 a Z (fun f a=>?_) (fun f a=>?_))
  ·exact Go 6 Z (Cl a [])
  ·exact Go 6 Z (Cl a [])
 exact Gx 1 Z (TC.le e (Gc 1 Z (Rt h 6 [])))
def F_as(n:Nat)(a:Int):Option Bool:=
  (F_ab n a 0 255).bind fun b=>some b
theorem k_as(n:Nat)(a:Int)(r:Bool)(h:F_as n a=some r):
    Csm prog 33 [I a] [] (fun r=>.bool r) r:=by
 refine Qb func33 Z Z Z ?_
 exact G0 8 Z (Cz [] h (k_ab _ _ _ _) Z fun c b h=>Go 4 Z (Rt h 2 []))
def F_an(n:Nat)(a:Int):Option Bool:=
  (F_ab n a 0 1048576).bind fun b=>some b
theorem k_an(n:Nat)(a:Int)(r:Bool)(h:F_an n a=some r):
    Csm prog 34 [I a] [] (fun r=>.bool r) r:=by
 refine Qb func34 Z Z Z ?_
 exact G0 8 Z (Cz [] h (k_ab _ _ _ _) Z fun c b h=>Go 4 Z (Rt h 2 []))
def F_x(n:Nat)(a:Int):Option Bool:=
  (F_ab n a (-1099511627776) 1099511627776).bind fun b=>some b
theorem k_x(n:Nat)(a:Int)(r:Bool)(h:F_x n a=some r):
    Csm prog 35 [I a] [] (fun r=>.bool r) r:=by
 refine Qb func35 Z Z Z ?_
 exact G0 8 Z (Cz [] h (k_ab _ _ _ _) Z fun c b h=>Go 4 Z (Rt h 2 []))
def F_bp(n:Nat)(a:Hit)(b:Hit)(c:Int):Option Bool:=
  (bif (a.Chip != b.Chip)then some (decide (a.Chip<b.Chip))else(bif (a.Mat != b.Mat)then some (decide (a.Mat<b.Mat))else(bif (a.Epoch != b.Epoch)then some (decide (a.Epoch<b.Epoch))else some (decide (c<(IntKind.i64.wrap (b.First-a.Last)))))))
theorem k_bp(n:Nat)(a:Hit)(b:Hit)(d:Int)(r:Bool)(h:F_bp n a b d=some r):
    Csm prog 36 [.agg (Hit.c a),.agg (Hit.c b),I d] [] (fun r=>.bool r) r:=by
 refine Qb func36 Z Z Z ?_
 refine G0 17 Z (Cn Z h (fun e h=>?_) (fun e h=>?_))
 ·exact Gc 12 Z (Rt h 6 [])
 refine Gc 12 Z (Cn Z h (fun f h=>?_) (fun f h=>?_))
 ·exact Gc 12 Z (Rt h 6 [])
 refine Gc 12 Z (Cn Z h (fun g h=>?_) (fun g h=>?_))
 ·exact Gc 12 Z (Rt h 6 [])
 exact Gc 15 Z (Rt h 6 [])
def F_fz(n:Nat)(f:Course)(c:List Hit)(b:Int):Option (Ctl Int (Ctl Unit Int)):=
  (bif decide (b<(c.length:Int))then(idx c b).bind fun a=>((bif decide (a.Mat<0)then some true else(bif decide ((f.Mats.length:Int)<=a.Mat)then some true else(F_as n a.Epoch).bind fun g=>(bif (!g)then some true else(F_an n a.Chip).bind fun h=>(bif (!h)then some true else(F_x n a.First).bind fun i=>(bif (!i)then some true else(F_x n a.Last).bind fun j=>(bif (!j)then some true else some (decide (a.Last<a.First)))))))):Option Bool).bind fun k=>(bif k then some (.done (.done 170))else((bif decide (0<b)then(idx c (IntKind.i64.wrap (b-1))).bind fun d=>(F_bp n d a f.Faults.Window).bind fun e=>some (!e)else some false):Option Bool).bind fun l=>(bif l then some (.done (.done 170))else some (.cont (IntKind.i64.wrap (b+1)))))else some (.done (.cont ())))
def F_dc(n:Nat)(b:Course)(e:List Hit):Option Int:=
  (F_am n b).bind fun c=>(bif (c != 0)then some c else(iter (F_fz n b e) n 0:Option (Ctl Unit Int)).bind fun d=>match d with|.cont a=>(some 0)|.done a=>some a)
theorem k_dc(n:Nat)(M:Course)(u:List Hit)(r:Int)(h:F_dc n M u=some r):
    Csm prog 15 [.agg (Course.c M),.rsl 5 (List.map Hit.c u)] [] (fun r=>I r) r:=by
 refine Qb func15 Z Z Z ?_
 refine G0 9 Z (Cz [] h (k_am _ _) Z fun r1 ab h=>Go 10 Z (Cn Z h (fun N h=>?_) (fun N h=>?_)))
 ·exact Gc 8 Z (Rt h 4 [])
 refine Gc 8 Z (Bd h fun O P h=>?_)
 refine CtE (b:=O) [] [] (fun _=>[]) (fun _=>[]) (fun _=>rfl) ?_ (fun T env H Q i=>?_)
 ·refine G0 1 Z ?_
  refine Lp [0] [1,2] (fun t=>[(6,I t)]) (fun _=>[]) P (fun _=>rfl) (Lr [0]) fun t ac d j=>?_
  refine G0 5 Z (Lm Z (Go 3 Z (YD Z d (fun w d=>?_) (fun w d=>?_))))
  ·refine Gc 2 Z (Qn d ?_)
   obtain rfl:=Oj j d
   exact Gx 1 Z (Qk Z (Lr []))
  refine Gc 8 Z (Bd d fun ad y d=>Iz y Z (Go 7 Z (Bd d fun k a d=>?_)))
  refine Ct k [0,1] [1,2,6,7] (fun k=>[(64,.bool k)]) (fun _=>[]) (fun _=>rfl) ?_ (fun env H i=>?_)
  ·refine G0 5 Z (Is 26 a Z (fun z a=>?_) (fun z a=>?_))
   ·exact Go 39 Z (Cl a [0,1])
   ·refine Go 4 Z (Lm Z (Go 3 Z (Is 34 a Z (fun B a=>?_) (fun B a=>?_))))
    ·exact Go 31 Z (Cl a [0,1])
    ·refine Go 2 Z (Cz [] a (k_as _ _) Z fun ae V a=>Go 3 Z (Is 40 a Z (fun E a=>?_) (fun E a=>?_)))
     ·exact Go 25 Z (Cl a [0,1])
     ·refine Go 2 Z (Cz [] a (k_an _ _) Z fun af W a=>Go 3 Z (Is 46 a Z (fun F a=>?_) (fun F a=>?_)))
      ·exact Go 19 Z (Cl a [0,1])
      ·refine Go 2 Z (Cz [] a (k_x _ _) Z fun ag X a=>Go 3 Z (Is 52 a Z (fun G a=>?_) (fun G a=>?_)))
       ·exact Go 13 Z (Cl a [0,1])
       ·refine Go 2 Z (Cz [] a (k_x _ _) Z fun ah Y a=>Go 3 Z (Is 58 a Z (fun J a=>?_) (fun J a=>?_)))
        ·exact Go 7 Z (Cl a [0,1])
        ·exact Go 7 Z (Cl a [0,1])
  refine Gx 1 Z (TC.le i (Cn Z d (fun L d=>?_) (fun L d=>?_)))
  ·refine Gc 9 Z (Qu d ?_)
   obtain rfl:=Oj j d
   exact Gx 1 Z (Qm (Gx 1 Z (Rt h 4 [])))
  refine Gc 3 Z (Bd d fun m f d=>?_)
  refine Ct m [0] [1,2,6] (fun m=>[(79,.bool m)]) (fun _=>[]) (fun _=>rfl) ?_ (fun env H i=>?_)
  ·refine G0 0 Z (DSs 12 Z (D 3 Z (Qe1 2 f Z Z Z (fun p f=>?_) (fun p f=>?_))))
   ·refine D 3 Z ?_
    obtain⟨g,q,f⟩:=bnd f
    refine DS.v (x:=(.rp [I g.Mat,I g.Epoch,I g.Chip,I g.First,I g.Last])) (QfB (e:=Hit.c) (l:=u) (v:=g) q runUnderlying68 sizeOf26) ?_ (hg:=(gT Z))
    exact D 5 Z (DS.done Z (Cz [] f (k_bp _ _ _ _) Z fun aa R f=>Go 3 Z (Cl f [0])))
   ·exact D 9 Z (DS.done Z (Go 4 Z (Cl f [0])))
  refine Gx 1 Z (TC.le i (Cn Z d (fun s d=>?_) (fun s d=>?_)))
  ·refine Gc 8 Z (Qu d ?_)
   obtain rfl:=Oj j d
   exact Gx 1 Z (Qm (Gx 1 Z (Rt h 4 [])))
  exact Gc 8 Z (Ql d (Lr [0]))
 subst Q
 exact Gx 1 Z (TC.le i (Gc 6 Z (Rt h 4 [])))
def F_dv(n:Nat)(a:Course)(b:List Hit):Option Bool:=
  (F_ds 300).bind fun e=>(bif (!e)then some false else((F_at n a).bind fun f=>(bif (!f)then some true else some (decide (40<(b.length:Int)))):Option Bool).bind fun g=>(bif g then some true else(F_aa n a b).bind fun c=>(F_dc n a b).bind fun d=>some (c==d)))
theorem k_dv(n:Nat)(d:Course)(e:List Hit)(r:Bool)(h:F_dv n d e=some r):
    Csm prog 4 [.agg (Course.c d),.rsl 5 (List.map Hit.c e)] [] (fun r=>.bool r) r:=by
 refine Qb func4 Z Z Z ?_
 refine G0 9 Z (Cz [] h (k_ds _) Z fun t m h=>Go 3 Z (Cn Z h (fun f h=>?_) (fun f h=>?_)))
 ·exact Gc 7 Z (Rt h 4 [])
 refine Gc 4 Z (Bd h fun b a h=>?_)
 refine Ct b [0] [1,2] (fun b=>[(14,.bool b)]) (fun _=>[]) (fun _=>rfl) ?_ (fun env H g=>?_)
 ·refine G0 2 Z (Cz [] a (k_at _ _) Z fun u p a=>Go 2 Z (Is 10 a Z (fun i a=>?_) (fun i a=>?_)))
  ·exact Go 5 Z (Cl a [0])
  ·exact Go 1 Z (Lm Z (Go 3 Z (Cl a [0])))
 refine Gx 1 Z (TC.le g (Cn Z h (fun j h=>?_) (fun j h=>?_)))
 ·exact Gc 7 Z (Rt h 4 [])
 refine Gc 3 Z (DSs 5 Z (D 2 Z ?_))
 exact Dz [] h (k_aa _ _ _) Z fun q k h=>D 2 Z (DS.done Z (Cz [] h (k_dc _ _ _) Z fun s l h=>Go 5 Z (Rt h 4 [])))
end Go.Sw
