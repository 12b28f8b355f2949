/- What the functions compute that PenaltiesRoute reaches, and that their calls refine it (part 3 of 3). -/
import Derived.Test.YtckiejaapddafaaGreatDoorW22Ro2
set_option linter.unusedVariables false
set_option linter.unusedSimpArgs false
set_option maxRecDepth 100000
set_option maxHeartbeats 4000000
namespace Go.Sw
open Go.Proofs Tryz
def F_hv(n:Nat)(c:List Report)(a:(List (Int×Report))×(List (Int×Bool))×Int):Option (Ctl ((List (Int×Report))×(List (Int×Bool))×Int) ((List (Int×Report))×(List (Int×Bool)))):=
  (bif decide (a.2.2<(c.length:Int))then(idx c a.2.2).bind λb=>(some (QE a.1 b.Case b)).bind λd=>(some (QE a.2.1 b.Case true)).bind λe=>some (.cont (d,e,IntKind.i64.wrap (a.2.2+1)))else some (.done (a.1,a.2.1)))
def F_if(n:Nat)(c:List Ruling)(a:(List (Int×Ruling))×(List (Int×Bool))×Int):Option (Ctl ((List (Int×Ruling))×(List (Int×Bool))×Int) ((List (Int×Ruling))×(List (Int×Bool)))):=
  (bif decide (a.2.2<(c.length:Int))then(idx c a.2.2).bind λb=>(some (QE a.1 b.Case b)).bind λd=>(some (QE a.2.1 b.Case true)).bind λe=>some (.cont (d,e,IntKind.i64.wrap (a.2.2+1)))else some (.done (a.1,a.2.1)))
def F_eu(n:Nat)(l:Course)(k:(List (Int×Report))×(List (Int×Bool)))(g:(List (Int×Ruling))×(List (Int×Bool)))(w:List (Int×Uc))(m:List Int)(c:Int):Option ((List Ud)×Ctl Int Unit):=
  (bif decide (c<(m.length:Int))then(idx m c).bind λa=>(some (QI g.1 a Ux)).bind λb=>Qff (YF w b.Kind) (((bif Qab g.1 a then some ()else some ()):Option Unit).bind λx=>((bif Qab g.1 a then some (b.Kind==2)else some false):Option Bool).bind λp=>(bif p then some ([],.cont (IntKind.i64.wrap (c+1)))else(some (QI k.1 a Uw)).bind λd=>((bif (!(Qab k.1 a))then some true else(bif decide (d.Offence<0)then some true else some (decide ((l.Offences.length:Int)<=d.Offence)))):Option Bool).bind λq=>(bif q then some ([],.cont (IntKind.i64.wrap (c+1)))else(idx l.Offences d.Offence).bind λh=>yl ({number:=a,bib:=d.Bib,penalty:={Position:=d.Position,Time:=h.Time,Laps:=h.Laps,Out:=h.Out:Penalty}:Ud}) (some ([],.cont (IntKind.i64.wrap (c+1))))))) λi=>((bif Qab g.1 a then some true else some false):Option Bool).bind λr=>((bif r then(bif (i.penalty==143)then(F_hk n b).bind λy=>some (.cont ({number:=a,bib:=b.Bib,penalty:={Position:=b.Position,Time:=b.Amount,Laps:=0,Out:=false:Penalty}:Ud}))else(bif (i.penalty==144)then(F_hf n b).bind λz=>some (.cont ({number:=a,bib:=b.Bib,penalty:={Position:=b.Position,Time:=0,Laps:=b.Amount,Out:=false:Penalty}:Ud}))else(bif (i.penalty==145)then(F_he n b).bind λB=>some (.cont ({number:=a,bib:=b.Bib,penalty:={Position:=b.Position,Time:=0,Laps:=0,Out:=true:Penalty}:Ud}))else none)))else((bif Qab g.1 a then some (b.Kind==2)else some false):Option Bool).bind λs=>(bif s then some (.done ([],.cont (IntKind.i64.wrap (c+1))))else(some (QI k.1 a Uw)).bind λe=>((bif (!(Qab k.1 a))then some true else(bif decide (e.Offence<0)then some true else some (decide ((l.Offences.length:Int)<=e.Offence)))):Option Bool).bind λt=>(bif t then some (.done ([],.cont (IntKind.i64.wrap (c+1))))else(idx l.Offences e.Offence).bind λj=>some (.cont ({number:=a,bib:=e.Bib,penalty:={Position:=e.Position,Time:=j.Time,Laps:=j.Laps,Out:=j.Out:Penalty}:Ud}))))):Option (Ctl Ud ((List Ud)×Ctl Int Unit))).bind λu=>match u with|.cont f=>(yl f (some ([],.cont (IntKind.i64.wrap (c+1)))))|.done f=>some f else some ([],.done ()))
def F_dg(n:Nat)(c:List Fact)(g:Course):Option ((List Ud)×Unit):=
  (F_bs n c).bind λh=>(iter (F_hv n h) n ([],[],0):Option ((List (Int×Report))×(List (Int×Bool)))).bind λb=>(F_dd n c).bind λd=>(iter (F_if n d) n ([],b.2,0):Option ((List (Int×Ruling))×(List (Int×Bool)))).bind λa=>(F_gz n).bind λe=>(F_gd n a.2).bind λj=>(F_gm n a.2).bind λf=>ap (Qb1 (F_eu n g b a e f) n 0) λi=>some ([],())
theorem k_dg(n:Nat)(t:List Fact)(w:Course)(p:(List Ud)×Unit)(h:F_dg n t w=some p):
    QhU prog 61 [.ptr 0 0,.ptr 1 0] [.cells 34 [.rsl 57 (List.map Fact.c t)],.cells 33 (Course.c w)] (λx=>[.agg (Ud.c x)]) nxL p.1:=by
 obtain⟨xs,u⟩:=p;refine Qek func61 Z Z Z Z ?_;intro X hE hN;refine Gy0 1 Z (TCy.lf ?_);refine G0 1 Z ?_;refine vH Ye ?_;refine FE Z ?_;refine vH Ye ?_;refine FE Z (Go 3 Z ?_);refine Gyx 2 Z (TCy.lf ?_);refine G0 1 Z ?_;refine vH Ye ?_;refine FE Z (Go 2 Z ?_);refine Gyx 2 Z (TCy.lf ?_);refine G0 3 Z (Cd [] h (k_bs _ _) Z λr1 cz h=>FE Z (Go 4 Z (Bd h λj ck h=>?_)));refine Ct j [0,1,2,3,4] [0,1,2,4,5,6] Ze (λj=>[(2,.map (Qi (λx=>A.int .i64 x) (λx=>A.agg (Report.c x)) j.1)),(4,.map (Qi (λx=>A.int .i64 x) A.bool j.2))]) Zf ?_ (λenv H q=>?_)
 .refine G0 1 Z ?_;refine Lp [0,1,2,3,4,5] [0,1,2,4,5,6,26,27] (λL=>[(28,I L.2.2)]) (λL=>[(2,.map (Qi (λx=>A.int .i64 x) (λx=>A.agg (Report.c x)) L.1)),(4,.map (Qi (λx=>A.int .i64 x) A.bool L.2.1))]) ck Zf (Lr [0,1,2,3,4,5]) λL da M bs=>?_;refine G0 6 Z (Jb Z M (λbt M=>?_) (λbt M=>?_))
  .refine Gc 2 Z (Qy M ?_);obtain rfl:=Oj bs M;exact Gx 1 Z (QH (Lr [0,1,2,3,4]))
  refine Gc 6 Z (Bd M λP am M=>?_);refine vX (.ptr 5 (Int.toNat L.2.2*4)) (QJ am Z runUnderlying87 sizeOf73) ?_;refine vX (.agg (Report.c P)) (Qk Z isAgg73 sizeOf73 Z (Qq am) Z Z) ?_;refine Go 4 Z ?_;obtain⟨bq,bu,M⟩:=Jy M;refine YY 8 0 [32,33,34,35,36,37,38,1000007] [false,false,false,false,false,false,false,true] [[],[],[],[],[],[],[],[]] [[],[7]] [[(0,0)],[(0,0)],[(0,0)],[(0,0),(1,1)],[(0,0),(1,1)],[(0,0),(1,1)],[(0,0)],[(0,1)]] [.map 2,.ptr 6 0,I P.Case,.map 4,.ptr 6 0,I P.Case,.agg (Report.c P),.any] [[.cells 34 [.rsl 57 (List.map Fact.c t)],.cells 33 (Course.c w),.map (Qi (λx=>A.int .i64 x) (λx=>A.agg (Report.c x)) L.1),.map (Qi (λx=>A.int .i64 x) (λx=>A.agg (Ruling.c x)) []),.map (Qi (λx=>A.int .i64 x) A.bool L.2.1),.row 73 4 (List.map Report.c r1),.cells 73 (Report.c P)],[.cells 34 [.rsl 57 (List.map Fact.c t)],.cells 33 (Course.c w),.map (Qi (λx=>A.int .i64 x) (λx=>A.agg (Report.c x)) bq),.map (Qi (λx=>A.int .i64 x) (λx=>A.agg (Ruling.c x)) []),.map (Qi (λx=>A.int .i64 x) A.bool L.2.1),.row 73 4 (List.map Report.c r1),.cells 73 (Report.c P)]] ([.cells 34 [.rsl 57 (List.map Fact.c t)],.cells 33 (Course.c w),.map (Qi (λx=>A.int .i64 x) (λx=>A.agg (Report.c x)) bq),.map (Qi (λx=>A.int .i64 x) (λx=>A.agg (Ruling.c x)) []),.map (Qi (λx=>A.int .i64 x) A.bool L.2.1),.row 73 4 (List.map Report.c r1),.cells 73 (Report.c P)]) draws Z Z Z Z Z Z Z ?_ Z ?_
  .refine Qh0.cons (Qc (v0 Z Z) (Qe)) (Qh0.cons (Qc (v0 Z Z) (Qe)) (Qh0.cons (Qc (v0 Z Z) (Qe)) (Qh0.cons (Qc (v0 Z Z) (Qc (v0 Z Z) (Qe))) (Qh0.cons (Qc (v0 Z Z) (Qc (v0 Z Z) (Qe))) (Qh0.cons (Qc (v0 Z Z) (Qc (v0 Z Z) (Qe))) (Qh0.cons (Qc (v0 Z Z) (Qe)) (Qh0.cons ?_ (Qh0.nil))))))))
   .refine Qc ?_ (Qe)
    .refine Om2 Z (sD 0 (sD 2 (sD 6 sN))) ?_;refine vU (Yc (ev:=(λx=>A.agg (Report.c x))) (k:=P.Case) (v:=P) (l:=L.1) YQ bu Z underlying159) ?_;exact FE Z Wp
  refine Bd M λdb bv M=>?_;refine vU (Yc (ev:=A.bool) (k:=P.Case) (v:=true) (l:=L.2.1) YQ bv Z underlying59) ?_;exact FE Z (Go 7 Z (Qv M (Lr [0,1,2,3,4,5])))
 refine Gyx 1 Z (TCy.le q (Gyc 1 Z (TCy.lf ?_)));refine G0 3 Z (Cd [] h (k_dd _ _) Z λan cm h=>FE Z (Go 4 Z (Bd h λm cl h=>?_)));refine Ct m [0,1,2,3,4] [0,2,4,5,6] Ze (λm=>[(3,.map (Qi (λx=>A.int .i64 x) (λx=>A.agg (Ruling.c x)) m.1)),(4,.map (Qi (λx=>A.int .i64 x) A.bool m.2))]) Zf ?_ (λenv H q=>?_)
 .refine G0 1 Z ?_;refine Lp [0,1,2,3,4,5] [0,2,4,5,6,41,42] (λN=>[(43,I N.2.2)]) (λN=>[(3,.map (Qi (λx=>A.int .i64 x) (λx=>A.agg (Ruling.c x)) N.1)),(4,.map (Qi (λx=>A.int .i64 x) A.bool N.2.1))]) cl Zf (Lr [0,1,2,3,4,5]) λN dc O bw=>?_;refine G0 6 Z (Jb Z O (λbx O=>?_) (λbx O=>?_))
  .refine Gc 2 Z (Qy O ?_);obtain rfl:=Oj bw O;exact Gx 1 Z (QH (Lr [0,1,2,3,4]))
  refine Gc 6 Z (Bd O λQ ao O=>?_);refine vX (.ptr 5 (Int.toNat N.2.2*6)) (QJ ao Z runUnderlying103 sizeOf77) ?_;refine vX (.agg (Ruling.c Q)) (Qk Z isAgg77 sizeOf77 Z (Qq ao) Z Z) ?_;refine Go 4 Z ?_;obtain⟨br,bz,O⟩:=Jy O;refine YY 8 0 [47,48,49,50,51,52,53,1000007] [false,false,false,false,false,false,false,true] [[],[],[],[],[],[],[],[]] [[],[7]] [[(0,0)],[(0,0)],[(0,0)],[(0,0),(1,1)],[(0,0),(1,1)],[(0,0),(1,1)],[(0,0)],[(0,1)]] [.map 3,.ptr 6 0,I Q.Case,.map 4,.ptr 6 0,I Q.Case,.agg (Ruling.c Q),.any] [[.cells 34 [.rsl 57 (List.map Fact.c t)],.cells 33 (Course.c w),.map (Qi (λx=>A.int .i64 x) (λx=>A.agg (Report.c x)) j.1),.map (Qi (λx=>A.int .i64 x) (λx=>A.agg (Ruling.c x)) N.1),.map (Qi (λx=>A.int .i64 x) A.bool N.2.1),.row 77 6 (List.map Ruling.c an),.cells 77 (Ruling.c Q)],[.cells 34 [.rsl 57 (List.map Fact.c t)],.cells 33 (Course.c w),.map (Qi (λx=>A.int .i64 x) (λx=>A.agg (Report.c x)) j.1),.map (Qi (λx=>A.int .i64 x) (λx=>A.agg (Ruling.c x)) br),.map (Qi (λx=>A.int .i64 x) A.bool N.2.1),.row 77 6 (List.map Ruling.c an),.cells 77 (Ruling.c Q)]] ([.cells 34 [.rsl 57 (List.map Fact.c t)],.cells 33 (Course.c w),.map (Qi (λx=>A.int .i64 x) (λx=>A.agg (Report.c x)) j.1),.map (Qi (λx=>A.int .i64 x) (λx=>A.agg (Ruling.c x)) br),.map (Qi (λx=>A.int .i64 x) A.bool N.2.1),.row 77 6 (List.map Ruling.c an),.cells 77 (Ruling.c Q)]) draws Z Z Z Z Z Z Z ?_ Z ?_
  .refine Qh0.cons (Qc (v0 Z Z) (Qe)) (Qh0.cons (Qc (v0 Z Z) (Qe)) (Qh0.cons (Qc (v0 Z Z) (Qe)) (Qh0.cons (Qc (v0 Z Z) (Qc (v0 Z Z) (Qe))) (Qh0.cons (Qc (v0 Z Z) (Qc (v0 Z Z) (Qe))) (Qh0.cons (Qc (v0 Z Z) (Qc (v0 Z Z) (Qe))) (Qh0.cons (Qc (v0 Z Z) (Qe)) (Qh0.cons ?_ (Qh0.nil))))))))
   .refine Qc ?_ (Qe)
    .refine Om2 Z (sD 0 (sD 2 (sD 6 sN))) ?_;refine vU (Yc (ev:=(λx=>A.agg (Ruling.c x))) (k:=Q.Case) (v:=Q) (l:=N.1) YQ bz Z underlying160) ?_;exact FE Z Wp
  refine Bd O λde ca O=>?_;refine vU (Yc (ev:=A.bool) (k:=Q.Case) (v:=true) (l:=N.2.1) YQ ca Z underlying59) ?_;exact FE Z (Go 7 Z (Qv O (Lr [0,1,2,3,4,5])))
 refine Gyx 1 Z (TCy.le q (Gyc 1 Z (TCy.lf ?_)));refine G0 1 Z (Cd [] h (k_gz _) Z λr cn h=>FE Z (Go 2 Z ?_));refine Gyx 2 Z (TCy.lf ?_);refine G0 2 Z (Cd [4] h (k_gd _ _) Z λdf co h=>FE Z (Cd [6,4] h (k_gm _ _) Z λy cp h=>FE Z (Go 3 Z ?_)));refine Gyx 1 Z ?_;obtain⟨cq,cb,cc,cd,ce,rfl⟩:=Qp7 h;rw[Vp];refine Qjf cb (cc++[]) [0,1] [0] Ze Ze Zf ?_ (λenv H q=>?_)
 .refine Gy0 1 Z ?_;refine Qou [0,1,2,3,5,7] [0,2,4,5,11,58,59] (λaa=>[(60,I aa)]) Ze cd Zf (Lr [0,1,2,3,5,7]) λaa cr cs ct d aq=>?_;refine Gy0 1 Z (TCy.lf ?_);refine G0 3 Z ?_;refine Gyx 2 Z (TCy.lf ?_);refine G0 0 Z (Jb Z d (λar d=>?_) (λar d=>?_))
  .refine Gc 1 Z ?_;refine Gyx 1 Z ?_;obtain⟨rfl,rfl,rfl⟩:=Oy aq d;exact Qnu (Gyx 1 Z (Qp4 (Lr [0,1])))
  refine Gc 1 Z ?_;refine Gyx 4 Z (TCy.lf ?_);refine G0 1 Z (Bd d λg ai d=>?_);refine vX (.ptr 5 (Int.toNat aa*1)) (QJ ai Z runUnderlying37 sizeOf3) ?_;refine vX (I g) (Ez Z isAgg3 Z (Qq ai)) ?_;refine Go 2 Z ?_;refine Gyx 2 Z (TCy.lf ?_);refine G0 3 Z (Bd d λf au d=>?_);refine vX (.tup [.agg (Ruling.c f),.bool (Qab m.1 g)]) (QbE (ev:=(λx=>A.agg (Ruling.c x))) (z0:=Ux) (k:=g) (l:=m.1) YQ au underlying160 zeroValue77 (zrC Z)) ?_;refine Go 7 Z ?_;refine Gyx 2 Z (TCy.lf ?_);refine G0 6 Z ?_;refine Gyx 2 Z (TCy.lf ?_);refine G0 5 Z ?_;rcases Qnt d with⟨ab,d⟩|⟨cf,ab,d⟩
  .refine vX (.tup [.agg [.nilf],.bool false]) (Qml (ev:=(λx=>A.agg (Uc.c x))) (l:=r) (k:=f.Kind) YQ ab underlying161 zeroValue169 (ZR.agg (zc ZR.nilf ZL.nil))) ?_;refine Go 10 Z (Bd d λcg R d=>?_);refine Ct cg [0,1,2,3,4,6,7,8,5] [0,2,4,5,11,13,14,15,16,17,58,59,60] (λ_=>[(119,.bool false)]) Ze Zf ?_ (λenv H q=>?_)
   .refine G0 3 Z (Is 121 R Z (λav R=>?_) (λav R=>?_))
    .exact Go 4 Z (Cl R [0,1,2,3,4,6,7,8,5])
    .exact Go 4 Z (Cl R [0,1,2,3,4,6,7,8,5])
   refine Gx 1 Z (Ef q (Gc 2 Z (Bd d λac T d=>?_)));refine Ct ac [0,1,2,3,4,6,8] [0,2,4,5,11,13,16,58,59,60] (λac=>[(132,.bool ac)]) Ze Zf ?_ (λenv H q=>?_)
   .refine G0 3 Z (Is 134 T Z (λaw T=>?_) (λaw T=>?_))
    .exact Go 6 Z (Cl T [0,1,2,3,4,6,8])
    .exact Go 6 Z (Cl T [0,1,2,3,4,6,8])
   refine Gx 1 Z (Ef q (Cn Z d (λax d=>?_) (λax d=>?_)))
   .refine Gc 2 Z ?_;refine Gyx 3 Z (TCy.lf ?_);refine G0 4 Z ?_;exact Gyx 0 Z (QcH d (Lr [0,1,2,3,4,6]))
   refine Gc 4 Z (Bd d λB ay d=>?_);refine vX (.tup [.agg (Report.c B),.bool (Qab j.1 g)]) (QbE (ev:=(λx=>A.agg (Report.c x))) (z0:=Uw) (k:=g) (l:=j.1) YQ ay underlying159 zeroValue73 (zrC Z)) ?_;refine Go 10 Z (Bd d λae E d=>?_);refine Ct ae [0,1,2,3,4,5,7,6] [0,2,4,5,11,16,19,58,59,60] (λae=>[(99,.bool ae)]) Ze Zf ?_ (λenv H q=>?_)
   .refine G0 4 Z (Is 87 E Z (λaz E=>?_) (λaz E=>?_))
    .exact Go 13 Z (Cl E [0,1,2,3,4,5,7,6])
    .refine Go 5 Z (Is 92 E Z (λba E=>?_) (λba E=>?_))
     .exact Go 8 Z (Cl E [0,1,2,3,4,5,7,6])
     .exact Go 4 Z (Lm Z (Go 3 Z (Cl E [0,1,2,3,4,5,7,6])))
   refine Gx 1 Z (Ef q (Cn Z d (λbb d=>?_) (λbb d=>?_)))
   .refine Gc 3 Z ?_;refine Gyx 3 Z (TCy.lf ?_);refine G0 4 Z ?_;exact Gyx 0 Z (QcH d (Lr [0,1,2,3,4,7]))
   refine Gc 8 Z (Bd d λs bc d=>Iz bc Z (Go 5 Z ?_));refine YY 13 0 [106,107,108,109,110,111,112,113,114,115,116,117,1000012] [false,false,false,false,false,false,false,false,false,false,false,false,true] [[],[],[],[],[],[],[],[],[],[],[],[],[]] [[],[12]] [[(0,0)],[(0,0)],[(0,0),(1,1)],[(0,0),(1,1)],[(0,0),(1,1)],[(0,0),(1,1)],[(0,0),(1,1)],[(0,0),(1,1)],[(0,0),(1,1)],[(0,0),(1,1)],[(0,0),(1,1)],[(0,0)],[(0,1)]] [.ptr 6 1,I B.Bib,.ptr 6 3,I B.Position,.ptr 8 1,I s.Time,.ptr 8 2,I s.Laps,.ptr 8 3,.bool s.Out,.agg [I B.Position,I s.Time,I s.Laps,.bool s.Out],.ptr 5 1,.any] [[.cells 34 [.rsl 57 (List.map Fact.c t)],.cells 33 (Course.c w),.map (Qi (λx=>A.int .i64 x) (λx=>A.agg (Report.c x)) j.1),.map (Qi (λx=>A.int .i64 x) (λx=>A.agg (Ruling.c x)) m.1),.map (Qi (λx=>A.int .i64 x) (λx=>A.agg (Uc.c x)) r),.cells 101 [I g,I 0,I 0,I 0,I 0,.bool false],.cells 73 (Report.c B),.row 3 1 (List.map (Qf .i64) y),.cells 92 (Offence.c s)],[.cells 34 [.rsl 57 (List.map Fact.c t)],.cells 33 (Course.c w),.map (Qi (λx=>A.int .i64 x) (λx=>A.agg (Report.c x)) j.1),.map (Qi (λx=>A.int .i64 x) (λx=>A.agg (Ruling.c x)) m.1),.map (Qi (λx=>A.int .i64 x) (λx=>A.agg (Uc.c x)) r),.cells 101 [I g,I B.Bib,I 0,I 0,I 0,.bool false],.cells 73 (Report.c B),.row 3 1 (List.map (Qf .i64) y),.cells 92 (Offence.c s)]] ([.cells 34 [.rsl 57 (List.map Fact.c t)],.cells 33 (Course.c w),.map (Qi (λx=>A.int .i64 x) (λx=>A.agg (Report.c x)) j.1),.map (Qi (λx=>A.int .i64 x) (λx=>A.agg (Ruling.c x)) m.1),.map (Qi (λx=>A.int .i64 x) (λx=>A.agg (Uc.c x)) r),.cells 101 [I g,I B.Bib,I 0,I 0,I 0,.bool false],.cells 73 (Report.c B),.row 3 1 (List.map (Qf .i64) y),.cells 92 (Offence.c s)]) draws Z Z Z Z Z Z Z ?_ Z ?_
   .refine Qh0.cons (Qc (v0 Z Z) (Qe)) (Qh0.cons (Qc (v0 Z Z) (Qe)) (Qh0.cons (Qc (v0 Z Z) (Qc (v0 Z Z) (Qe))) (Qh0.cons (Qc (v0 Z Z) (Qc (v0 Z Z) (Qe))) (Qh0.cons (Qc (v0 Z Z) (Qc (v0 Z Z) (Qe))) (Qh0.cons (Qc (v0 Z Z) (Qc (v0 Z Z) (Qe))) (Qh0.cons (Qc (v0 Z Z) (Qc (v0 Z Z) (Qe))) (Qh0.cons (Qc (v0 Z Z) (Qc (v0 Z Z) (Qe))) (Qh0.cons (Qc (v0 Z Z) (Qc (v0 Z Z) (Qe))) (Qh0.cons (Qc (v0 Z Z) (Qc (v0 Z Z) (Qe))) (Qh0.cons (Qc (v0 Z Z) (Qc (v0 Z Z) (Qe))) (Qh0.cons (Qc (v0 Z Z) (Qe)) (Qh0.cons ?_ (Qh0.nil)))))))))))))
    .refine Qc ?_ (Qe)
     .refine Om2 Z (sD 1 (sD 11 sN)) ?_;refine vU (Ey Z Z Z sizeOf3 Z Z Z Z Z Z Z) ?_;exact FE Z Wp
   refine Go 4 Z ?_;refine Gyx 5 Z ?_;obtain⟨cu,ch,rfl⟩:=QmG d;refine Qkj (x:={number:=g,bib:=B.Bib,penalty:={Position:=B.Position,Time:=s.Time,Laps:=s.Laps,Out:=s.Out:Penalty}:Ud}) (e:=λx=>.agg (Ud.c x)) hE hN Z Z Z Z ?_ ?_
   .refine Gyo 3 Z (TCy.lf ?_);refine G0 2 Z ?_;refine Gyx 2 Z (TCy.lf ?_);refine G0 4 Z ?_;exact Gyx 0 Z (QcH ch (Lr [0,1,2,3,4,7]))
   .exact Gyo 7 Z (QjO (Gyx 1 Z (Qoi (⟨.inr Z,.inr ⟨_,Z⟩⟩))))
  .refine vX (.tup [.agg [.fn (.func cf.penalty) [] []],.bool true]) (Qmk (ev:=(λx=>A.agg (Uc.c x))) (l:=r) (k:=f.Kind) YQ ab underlying161) ?_;refine Go 10 Z (Bd d λaf V d=>?_);refine Ct af [0,1,2,3,4,6,7,8,5] [0,2,4,5,11,13,14,15,16,17,58,59,60] (λaf=>[(119,.bool af)]) Ze Zf ?_ (λenv H q=>?_)
   .refine G0 3 Z (Is 121 V Z (λbd V=>?_) (λbd V=>?_))
    .exact Go 4 Z (Cl V [0,1,2,3,4,6,7,8,5])
    .exact Go 4 Z (Cl V [0,1,2,3,4,6,7,8,5])
   refine Gx 1 Z (Ef q (Bd d λci a d=>?_));refine CtE (b:=ci) [0,1,2,3,4,6,8] [0,2,4,5,11,16,58,59,60] Ze (λY=>[(5,.cells 101 (Ud.c Y))]) Zf ?_ (λY env H hb q=>?_)
   .refine G0 0 Z (Cn Z a (λbe a=>?_) (λbe a=>?_))
    .refine If a (λaj a=>?_) (λaj a=>?_)
     .refine Ef (Qkw (i:=7) (x':=.cells 169 [.fn (.func 143) [] []]) Z (congrArg (λz=>Blk.cells 169 [.fn (.func z) [] []]) (eq_of_beq aj))) ?_;obtain⟨cv,bg,a⟩:=Jy a;refine YY 7 0 [124,125,126,127,128,129,130] [false,false,false,false,false,true,false] [[],[],[],[],[],[],[]] [[],[5]] [[(0,0),(1,1)],[(0,0),(1,1)],[(0,0)],[(0,0)],[(0,0)],[(0,1)],[(0,0),(1,1)]] [.ptr 5 3,I f.Bib,.ptr 7 0,.fn (.func 143) [] [],.agg (Ruling.c f),.agg [I f.Position,I f.Amount,I 0,.bool false],.ptr 6 1] [[.cells 34 [.rsl 57 (List.map Fact.c t)],.cells 33 (Course.c w),.map (Qi (λx=>A.int .i64 x) (λx=>A.agg (Report.c x)) j.1),.map (Qi (λx=>A.int .i64 x) (λx=>A.agg (Ruling.c x)) m.1),.map (Qi (λx=>A.int .i64 x) (λx=>A.agg (Uc.c x)) r),.cells 77 (Ruling.c f),.cells 101 [I g,I 0,I 0,I 0,I 0,.bool false],.cells 169 [.fn (.func 143) [] []],.row 3 1 (List.map (Qf .i64) y)],[.cells 34 [.rsl 57 (List.map Fact.c t)],.cells 33 (Course.c w),.map (Qi (λx=>A.int .i64 x) (λx=>A.agg (Report.c x)) j.1),.map (Qi (λx=>A.int .i64 x) (λx=>A.agg (Ruling.c x)) m.1),.map (Qi (λx=>A.int .i64 x) (λx=>A.agg (Uc.c x)) r),.cells 77 (Ruling.c f),.cells 101 [I g,I 0,I 0,I 0,I 0,.bool false],.cells 169 [.fn (.func 143) [] []],.row 3 1 (List.map (Qf .i64) y),.cells 50 [I f.Position,I f.Amount,I 0,.bool false]]] ([.cells 34 [.rsl 57 (List.map Fact.c t)],.cells 33 (Course.c w),.map (Qi (λx=>A.int .i64 x) (λx=>A.agg (Report.c x)) j.1),.map (Qi (λx=>A.int .i64 x) (λx=>A.agg (Ruling.c x)) m.1),.map (Qi (λx=>A.int .i64 x) (λx=>A.agg (Uc.c x)) r),.cells 77 (Ruling.c f),.cells 101 [I g,I 0,I 0,I 0,I 0,.bool false],.cells 169 [.fn (.func 143) [] []],.row 3 1 (List.map (Qf .i64) y),.cells 50 [I f.Position,I f.Amount,I 0,.bool false]]) draws Z Z Z Z Z Z Z ?_ Z ?_
      .refine Qh0.cons (Qc (v0 Z Z) (Qc (v0 Z Z) (Qe))) (Qh0.cons (Qc (v0 Z Z) (Qc (v0 Z Z) (Qe))) (Qh0.cons (Qc (v0 Z Z) (Qe)) (Qh0.cons (Qc (v0 Z Z) (Qe)) (Qh0.cons (Qc (v0 Z Z) (Qe)) (Qh0.cons ?_ (Qh0.cons (Qc (v0 Z Z) (Qc (v0 Z Z) (Qe))) (Qh0.nil)))))))
       .refine Qc ?_ (Qe)
        .refine Om1 Z (sD 3 (sD 4 sN)) ?_;refine Qz [] (QaJ call143 Z Z Z Z) (k_hk _ _ _ bg) ?_;rintro _ _ ⟨rfl,rfl⟩;exact FE Z Wp
      refine Go 4 Z ?_;cases a;exact QL Z (Lr [0,1,2,3,4,6,8])
     .refine If a (λak a=>?_) (λak a=>?_)
      .refine Ef (Qkw (i:=7) (x':=.cells 169 [.fn (.func 144) [] []]) Z (congrArg (λz=>Blk.cells 169 [.fn (.func z) [] []]) (eq_of_beq ak))) ?_;obtain⟨cw,bh,a⟩:=Jy a;refine YY 7 0 [124,125,126,127,128,129,130] [false,false,false,false,false,true,false] [[],[],[],[],[],[],[]] [[],[5]] [[(0,0),(1,1)],[(0,0),(1,1)],[(0,0)],[(0,0)],[(0,0)],[(0,1)],[(0,0),(1,1)]] [.ptr 5 3,I f.Bib,.ptr 7 0,.fn (.func 144) [] [],.agg (Ruling.c f),.agg [I f.Position,I 0,I f.Amount,.bool false],.ptr 6 1] [[.cells 34 [.rsl 57 (List.map Fact.c t)],.cells 33 (Course.c w),.map (Qi (λx=>A.int .i64 x) (λx=>A.agg (Report.c x)) j.1),.map (Qi (λx=>A.int .i64 x) (λx=>A.agg (Ruling.c x)) m.1),.map (Qi (λx=>A.int .i64 x) (λx=>A.agg (Uc.c x)) r),.cells 77 (Ruling.c f),.cells 101 [I g,I 0,I 0,I 0,I 0,.bool false],.cells 169 [.fn (.func 144) [] []],.row 3 1 (List.map (Qf .i64) y)],[.cells 34 [.rsl 57 (List.map Fact.c t)],.cells 33 (Course.c w),.map (Qi (λx=>A.int .i64 x) (λx=>A.agg (Report.c x)) j.1),.map (Qi (λx=>A.int .i64 x) (λx=>A.agg (Ruling.c x)) m.1),.map (Qi (λx=>A.int .i64 x) (λx=>A.agg (Uc.c x)) r),.cells 77 (Ruling.c f),.cells 101 [I g,I 0,I 0,I 0,I 0,.bool false],.cells 169 [.fn (.func 144) [] []],.row 3 1 (List.map (Qf .i64) y),.cells 50 [I f.Position,I 0,I f.Amount,.bool false]]] ([.cells 34 [.rsl 57 (List.map Fact.c t)],.cells 33 (Course.c w),.map (Qi (λx=>A.int .i64 x) (λx=>A.agg (Report.c x)) j.1),.map (Qi (λx=>A.int .i64 x) (λx=>A.agg (Ruling.c x)) m.1),.map (Qi (λx=>A.int .i64 x) (λx=>A.agg (Uc.c x)) r),.cells 77 (Ruling.c f),.cells 101 [I g,I 0,I 0,I 0,I 0,.bool false],.cells 169 [.fn (.func 144) [] []],.row 3 1 (List.map (Qf .i64) y),.cells 50 [I f.Position,I 0,I f.Amount,.bool false]]) draws Z Z Z Z Z Z Z ?_ Z ?_
       .refine Qh0.cons (Qc (v0 Z Z) (Qc (v0 Z Z) (Qe))) (Qh0.cons (Qc (v0 Z Z) (Qc (v0 Z Z) (Qe))) (Qh0.cons (Qc (v0 Z Z) (Qe)) (Qh0.cons (Qc (v0 Z Z) (Qe)) (Qh0.cons (Qc (v0 Z Z) (Qe)) (Qh0.cons ?_ (Qh0.cons (Qc (v0 Z Z) (Qc (v0 Z Z) (Qe))) (Qh0.nil)))))))
        .refine Qc ?_ (Qe)
         .refine Om1 Z (sD 3 (sD 4 sN)) ?_;refine Qz [] (QaJ call144 Z Z Z Z) (k_hf _ _ _ bh) ?_;rintro _ _ ⟨rfl,rfl⟩;exact FE Z Wp
       refine Go 4 Z ?_;cases a;exact QL Z (Lr [0,1,2,3,4,6,8])
      .refine If a (λal a=>?_) (λal a=>?_)
       .refine Ef (Qkw (i:=7) (x':=.cells 169 [.fn (.func 145) [] []]) Z (congrArg (λz=>Blk.cells 169 [.fn (.func z) [] []]) (eq_of_beq al))) ?_;obtain⟨cx,bi,a⟩:=Jy a;refine YY 7 0 [124,125,126,127,128,129,130] [false,false,false,false,false,true,false] [[],[],[],[],[],[],[]] [[],[5]] [[(0,0),(1,1)],[(0,0),(1,1)],[(0,0)],[(0,0)],[(0,0)],[(0,1)],[(0,0),(1,1)]] [.ptr 5 3,I f.Bib,.ptr 7 0,.fn (.func 145) [] [],.agg (Ruling.c f),.agg [I f.Position,I 0,I 0,.bool true],.ptr 6 1] [[.cells 34 [.rsl 57 (List.map Fact.c t)],.cells 33 (Course.c w),.map (Qi (λx=>A.int .i64 x) (λx=>A.agg (Report.c x)) j.1),.map (Qi (λx=>A.int .i64 x) (λx=>A.agg (Ruling.c x)) m.1),.map (Qi (λx=>A.int .i64 x) (λx=>A.agg (Uc.c x)) r),.cells 77 (Ruling.c f),.cells 101 [I g,I 0,I 0,I 0,I 0,.bool false],.cells 169 [.fn (.func 145) [] []],.row 3 1 (List.map (Qf .i64) y)],[.cells 34 [.rsl 57 (List.map Fact.c t)],.cells 33 (Course.c w),.map (Qi (λx=>A.int .i64 x) (λx=>A.agg (Report.c x)) j.1),.map (Qi (λx=>A.int .i64 x) (λx=>A.agg (Ruling.c x)) m.1),.map (Qi (λx=>A.int .i64 x) (λx=>A.agg (Uc.c x)) r),.cells 77 (Ruling.c f),.cells 101 [I g,I 0,I 0,I 0,I 0,.bool false],.cells 169 [.fn (.func 145) [] []],.row 3 1 (List.map (Qf .i64) y),.cells 50 [I f.Position,I 0,I 0,.bool true]]] ([.cells 34 [.rsl 57 (List.map Fact.c t)],.cells 33 (Course.c w),.map (Qi (λx=>A.int .i64 x) (λx=>A.agg (Report.c x)) j.1),.map (Qi (λx=>A.int .i64 x) (λx=>A.agg (Ruling.c x)) m.1),.map (Qi (λx=>A.int .i64 x) (λx=>A.agg (Uc.c x)) r),.cells 77 (Ruling.c f),.cells 101 [I g,I 0,I 0,I 0,I 0,.bool false],.cells 169 [.fn (.func 145) [] []],.row 3 1 (List.map (Qf .i64) y),.cells 50 [I f.Position,I 0,I 0,.bool true]]) draws Z Z Z Z Z Z Z ?_ Z ?_
        .refine Qh0.cons (Qc (v0 Z Z) (Qc (v0 Z Z) (Qe))) (Qh0.cons (Qc (v0 Z Z) (Qc (v0 Z Z) (Qe))) (Qh0.cons (Qc (v0 Z Z) (Qe)) (Qh0.cons (Qc (v0 Z Z) (Qe)) (Qh0.cons (Qc (v0 Z Z) (Qe)) (Qh0.cons ?_ (Qh0.cons (Qc (v0 Z Z) (Qc (v0 Z Z) (Qe))) (Qh0.nil)))))))
         .refine Qc ?_ (Qe)
          .refine Om1 Z (sD 3 (sD 4 sN)) ?_;refine Qz [] (QaJ call145 Z Z Z Z) (k_he _ _ _ bi) ?_;rintro _ _ ⟨rfl,rfl⟩;exact FE Z Wp
        refine Go 4 Z ?_;cases a;exact QL Z (Lr [0,1,2,3,4,6,8])
       .cases a
    refine Gc 1 Z (Bd a λag W a=>?_);refine Ct ag [0,1,2,3,4,6,8] [0,2,4,5,11,13,16,58,59,60] (λag=>[(132,.bool ag)]) Ze Zf ?_ (λenv H q=>?_)
    .refine G0 3 Z (Is 134 W Z (λbj W=>?_) (λbj W=>?_))
     .exact Go 6 Z (Cl W [0,1,2,3,4,6,8])
     .exact Go 6 Z (Cl W [0,1,2,3,4,6,8])
    refine Gx 1 Z (Ef q (Cn Z a (λbk a=>?_) (λbk a=>?_)))
    .refine Gc 1 Z ?_;cases a;refine Qp5 (Gx 1 Z ?_);refine Gyx 3 Z (TCy.lf ?_);refine G0 4 Z ?_;exact Gyx 0 Z (QcH d (Lr [0,1,2,3,4,6]))
    refine Gc 4 Z (Bd a λF bl a=>?_);refine vX (.tup [.agg (Report.c F),.bool (Qab j.1 g)]) (QbE (ev:=(λx=>A.agg (Report.c x))) (z0:=Uw) (k:=g) (l:=j.1) YQ bl underlying159 zeroValue73 (zrC Z)) ?_;refine Go 10 Z (Bd a λah G a=>?_);refine Ct ah [0,1,2,3,4,5,7,6] [0,2,4,5,11,16,19,58,59,60] (λah=>[(99,.bool ah)]) Ze Zf ?_ (λenv H q=>?_)
    .refine G0 4 Z (Is 87 G Z (λbm G=>?_) (λbm G=>?_))
     .exact Go 13 Z (Cl G [0,1,2,3,4,5,7,6])
     .refine Go 5 Z (Is 92 G Z (λbn G=>?_) (λbn G=>?_))
      .exact Go 8 Z (Cl G [0,1,2,3,4,5,7,6])
      .exact Go 4 Z (Lm Z (Go 3 Z (Cl G [0,1,2,3,4,5,7,6])))
    refine Gx 1 Z (Ef q (Cn Z a (λbo a=>?_) (λbo a=>?_)))
    .refine Gc 2 Z ?_;cases a;refine Qp5 (Gx 1 Z ?_);refine Gyx 3 Z (TCy.lf ?_);refine G0 4 Z ?_;exact Gyx 0 Z (QcH d (Lr [0,1,2,3,4,7]))
    refine Gc 8 Z (Bd a λJ bp a=>Iz bp Z (Go 5 Z ?_));refine YY 13 0 [106,107,108,109,110,111,112,113,114,115,116,117,1000012] [false,false,false,false,false,false,false,false,false,false,false,false,true] [[],[],[],[],[],[],[],[],[],[],[],[],[]] [[],[12]] [[(0,0)],[(0,0)],[(0,0),(1,1)],[(0,0),(1,1)],[(0,0),(1,1)],[(0,0),(1,1)],[(0,0),(1,1)],[(0,0),(1,1)],[(0,0),(1,1)],[(0,0),(1,1)],[(0,0),(1,1)],[(0,0)],[(0,1)]] [.ptr 6 1,I F.Bib,.ptr 6 3,I F.Position,.ptr 8 1,I J.Time,.ptr 8 2,I J.Laps,.ptr 8 3,.bool J.Out,.agg [I F.Position,I J.Time,I J.Laps,.bool J.Out],.ptr 5 1,.any] [[.cells 34 [.rsl 57 (List.map Fact.c t)],.cells 33 (Course.c w),.map (Qi (λx=>A.int .i64 x) (λx=>A.agg (Report.c x)) j.1),.map (Qi (λx=>A.int .i64 x) (λx=>A.agg (Ruling.c x)) m.1),.map (Qi (λx=>A.int .i64 x) (λx=>A.agg (Uc.c x)) r),.cells 101 [I g,I 0,I 0,I 0,I 0,.bool false],.cells 73 (Report.c F),.row 3 1 (List.map (Qf .i64) y),.cells 92 (Offence.c J)],[.cells 34 [.rsl 57 (List.map Fact.c t)],.cells 33 (Course.c w),.map (Qi (λx=>A.int .i64 x) (λx=>A.agg (Report.c x)) j.1),.map (Qi (λx=>A.int .i64 x) (λx=>A.agg (Ruling.c x)) m.1),.map (Qi (λx=>A.int .i64 x) (λx=>A.agg (Uc.c x)) r),.cells 101 [I g,I F.Bib,I 0,I 0,I 0,.bool false],.cells 73 (Report.c F),.row 3 1 (List.map (Qf .i64) y),.cells 92 (Offence.c J)]] ([.cells 34 [.rsl 57 (List.map Fact.c t)],.cells 33 (Course.c w),.map (Qi (λx=>A.int .i64 x) (λx=>A.agg (Report.c x)) j.1),.map (Qi (λx=>A.int .i64 x) (λx=>A.agg (Ruling.c x)) m.1),.map (Qi (λx=>A.int .i64 x) (λx=>A.agg (Uc.c x)) r),.cells 101 [I g,I F.Bib,I 0,I 0,I 0,.bool false],.cells 73 (Report.c F),.row 3 1 (List.map (Qf .i64) y),.cells 92 (Offence.c J)]) draws Z Z Z Z Z Z Z ?_ Z ?_
    .refine Qh0.cons (Qc (v0 Z Z) (Qe)) (Qh0.cons (Qc (v0 Z Z) (Qe)) (Qh0.cons (Qc (v0 Z Z) (Qc (v0 Z Z) (Qe))) (Qh0.cons (Qc (v0 Z Z) (Qc (v0 Z Z) (Qe))) (Qh0.cons (Qc (v0 Z Z) (Qc (v0 Z Z) (Qe))) (Qh0.cons (Qc (v0 Z Z) (Qc (v0 Z Z) (Qe))) (Qh0.cons (Qc (v0 Z Z) (Qc (v0 Z Z) (Qe))) (Qh0.cons (Qc (v0 Z Z) (Qc (v0 Z Z) (Qe))) (Qh0.cons (Qc (v0 Z Z) (Qc (v0 Z Z) (Qe))) (Qh0.cons (Qc (v0 Z Z) (Qc (v0 Z Z) (Qe))) (Qh0.cons (Qc (v0 Z Z) (Qc (v0 Z Z) (Qe))) (Qh0.cons (Qc (v0 Z Z) (Qe)) (Qh0.cons ?_ (Qh0.nil)))))))))))))
     .refine Qc ?_ (Qe)
      .refine Om2 Z (sD 1 (sD 11 sN)) ?_;refine vU (Ey Z Z Z sizeOf3 Z Z Z Z Z Z Z) ?_;exact FE Z Wp
    refine Go 3 Z ?_;cases a;exact QL Z (Lr [0,1,2,3,4,5,7])
   subst hb;refine Gx 1 Z ?_;refine Gyx 1 Z (TCy.le q (Gyc 4 Z ?_));obtain⟨cy,cj,rfl⟩:=QmG d;refine Qkj (x:=Y) (e:=λx=>.agg (Ud.c x)) hE hN Z Z Z Z ?_ ?_
   .refine Gyo 3 Z (TCy.lf ?_);refine G0 2 Z ?_;refine Gyx 2 Z (TCy.lf ?_);refine G0 4 Z ?_;exact Gyx 0 Z (QcH cj (Lr [0,1,2,3,4,6]))
   .exact Gyo 7 Z (QjO (Gyx 1 Z (Qoi (⟨.inr Z,.inr ⟨_,Z⟩⟩))))
 cases ce;exact⟨.inl Z,.inl Z⟩
def F_hc(n:Nat)(f:Int)(a:(List Int)×(List Penalty))(c:Ud):Option (Ctl ((List Int)×(List Penalty)) ((List Int)×(List Penalty))):=
  ((bif (c.bib==f)then(app a.1 [c.number]).bind λd=>(app a.2 [c.penalty]).bind λe=>some (d,e)else some (a.1,a.2)):Option ((List Int)×(List Penalty))).bind λb=>some (.cont (b.1,b.2))
def F_u(n:Nat)(b:Course)(c:List Fact)(e:Int):Option ((List Int)×(List Penalty)):=
  (F_e n b).bind λf=>(bif (f != 0)then some ([],[])else(F_ge n b c).bind λg=>(F_dg n c b).bind λy4=>(QcZ (F_hc n e) y4.1 ([],[]):Option (Ctl ((List Int)×(List Penalty)) ((List Int)×(List Penalty)))).bind λd=>match d with|.cont a=>(some (a.1,a.2))|.done a=>some a)
theorem k_u(n:Nat)(l:Course)(w:List Fact)(p:Int)(r:(List Int)×(List Penalty))(h:F_u n l w p=some r):
    C prog 13 [.agg (Course.c l),.rsl 57 (List.map Fact.c w),I p] [] (RQ (λr=>.tup [.osl 0 0 r.1.length 1,.osl 1 0 r.2.length 4]) (λr=>[.row 3 1 (List.map (Qf .i64) r.1),.row 50 4 (List.map Penalty.c r.2),.cells 37 [.osl 0 0 r.1.length 1],.cells 38 [.osl 1 0 r.2.length 4]]) r):=by
 refine Qb func13 Z Z Z ?_;refine G0 12 Z (Cz [] h (k_e _ _) Z λO F h=>Go 3 Z (Cn Z h (λy h=>?_) (λy h=>?_)))
 .refine Gc 8 Z ?_;obtain rfl:=Oi h;refine⟨[(6,.ptr 2 0),(7,.ptr 3 0)],[.row 3 1 (List.map (Qf .i64) (([],[]).1)),.row 50 4 (List.map Penalty.c (([],[]).2)),.cells 37 [.osl 0 0 ((([],[]).1).length) 1],.cells 38 [.osl 1 0 ((([],[]).2).length) 4]],_,?_,Qu Z Z (Qkn.cons (Qar isAgg37 Z Z) (Qkn.cons (Qar isAgg38 Z Z) Qkn.nil)),Z,Z⟩;refine En (YT (i:=2) (m:=0) (t:=3) (k:=1) Z Z Z) ?_;refine En (YT (i:=3) (m:=0) (t:=50) (k:=4) Z Z Z) ?_;exact Lr [4,5,2,3]
 refine Gc 7 Z (Cd [] h (k_ge _ _ _) Z λP G h=>FE Z (Go 3 Z (Bd h λy4 hy4 h=>Bd h λJ z h=>?_)));refine Qg6 [4,5] (λf=>[.cells 33 (Course.c l),.cells 3 [I p],.cells 37 [.osl 6 0 f.1.length 1],.cells 38 [.osl 7 0 f.2.length 4],.dead,.dead,.row 3 1 (List.map (Qf .i64) f.1),.row 50 4 (List.map Penalty.c f.2)]) z (k_dg _ _ _ _ hy4) Zf call61 Z Z Z Z (by decide) Z ?_ ?_ ?_
 .refine En (YT (i:=2) (m:=0) (t:=3) (k:=1) Z Z Z) ?_;refine En (YT (i:=3) (m:=0) (t:=50) (k:=4) Z Z Z) ?_;exact Lr [0,1,2,3,4,5,6,7]
 .intro f d L g E;refine G0 4 Z (And.intro Z ?_);refine G0 9 Z (Bd g λb a g=>?_);refine Ct b [0,1,2,3,4,5,0,0] [] Ze (λb=>[(2,.cells 37 [.osl 6 0 b.1.length 1]),(3,.cells 38 [.osl 7 0 b.2.length 4]),(6,.row 3 1 (List.map (Qf .i64) b.1)),(7,.row 50 4 (List.map Penalty.c b.2))]) Zf ?_ (λenv H B=>?_)
  .refine G0 0 Z (Cn Z a (λq a=>?_) (λq a=>?_))
   .refine DAs 9 4 [0,0,0,0,1,3,3,3,3] (by kernel_rfl) (Da 3 Z ?_);refine DA.wo (x:=.rsl 1 (List.map (Qf .i64) [d.number])) ?_ ?_
    .refine vH (YO (xs:=[.tmp 22]) (es:=List.map (Qf .i64) [d.number]) Q2 Z Z Z Z Z ⟨Z,trivial⟩ Z Z) ?_;exact FE Z Wp
    obtain⟨M,s,a⟩:=Jy a;refine QbJ (QM (e:=(Qf .i64)) s Q2 runUnderlying37 Qax) Z Z ?_;refine DB.wo2 (x:=.osl 7 0 f.2.length 4) (Ld isAgg38 Z Wp) (Ld isAgg38 Z Wp) ?_;refine Db 1 Z ?_;refine DB.wo2 (x:=.agg (Penalty.c d.penalty)) ?_ ?_ ?_
    .refine vX (.agg (Penalty.c d.penalty)) (Qk Z isAgg50 sizeOf50 Z (Pts.cells Z Z) Z Z) ?_;exact Wp
    .refine vX (.agg (Penalty.c d.penalty)) (Qk Z isAgg50 sizeOf50 Z (Pts.cells Z Z) Z Z) ?_;exact Wp
    refine DB.wo2 (x:=.rsl 4 (List.map Penalty.c [d.penalty])) ?_ ?_ ?_
    .refine vH (YO (xs:=[.tmp 27]) (es:=List.map Penalty.c [d.penalty]) Qde Z Z Z Z Z ⟨Z,trivial⟩ Z Z) ?_;exact FE Z Wp
    .refine vH (YO (xs:=[.tmp 27]) (es:=List.map Penalty.c [d.penalty]) Qde Z Z Z Z Z ⟨Z,trivial⟩ Z Z) ?_;exact FE Z Wp
    refine DB.done Z (Bd a λN u a=>?_);refine vH (QM (e:=Penalty.c) u Qde runUnderlying38 Qax) ?_;exact FE Z (Go 3 Z (Cl a [0,1,2,3,4,5,9,10]))
   exact Gc 1 Z (Cl a [0,1,2,3,4,5,6,7])
  exact Gx 1 Z (QkL g (En B (Lr [0,1,2,3,4,5,6,7])))
 rintro j rfl;refine Gx 3 Z ?_;refine TC.draw0 3 [30,31,1000002] [.osl 6 0 j.1.length 1,.osl 7 0 j.2.length 4,.any] draws Z Z Z ?_ ?_
 .refine ov (ov (Oq.c ?_ (Oq.n)))
  .refine Om2 Z (sO 6 (sD 0 sN)) ?_;refine vU (Ey Z Z Z sizeOf37 Z Z Z Z Z Z Z) ?_;exact FE Z Wp
 refine Go 4 Z ?_;obtain rfl:=Oi h;exact Rx [6,7,2,3] [6,7] Z (Qu Z Z (Qkn.cons (Qar isAgg37 Z Z) (Qkn.cons (Qar isAgg38 Z Z) Qkn.nil))) ⟨Z,Z⟩
def F_gr(n:Nat)(a:List (Int×Fact)):Option Unit:=
  some ()
theorem k_gr(n:Nat)(a:List (Int×Fact))(r:Unit)(h:F_gr n a=some r):
    C prog 87 [.map 0] [.map (Qi (λx=>A.int .i64 x) (λx=>A.agg (Fact.c x)) a)] (RQ (λ_=>.fn (.func 168) [] [.ptr 1 0]) (λ_=>[.map (Qi (λx=>A.int .i64 x) (λx=>A.agg (Fact.c x)) a),.cells 116 [.map 0]]) r):=by
 refine Qb func87 Z Z Z ?_;exact G0 13 Z (Rt h 2 [0,1])
def F_ck(n:Nat)(a:List (Int×Fact)):Option (List Int):=
  Ql8 (List.map Prod.fst a) λp1=>(sortI p1).bind λb=>some b
theorem k_ck(n:Nat)(b:List (Int×Fact))(r:List Int)(h:F_ck n b=some r):
    C prog 64 [.fn (.func 168) [] [.ptr 0 0]] [.cells 116 [.map 1],.map (Qi (λx=>A.int .i64 x) (λx=>A.agg (Fact.c x)) b)] (RQ (λr=>.osl 2 0 r.length 1) (λr=>[.dead,.fmap (Qi (λx=>A.int .i64 x) (λx=>A.agg (Fact.c x)) b),.row 3 1 (List.map (Qf .i64) r)]) r):=by
 refine Qb func64 Z Z Z ?_;refine G0 8 Z ?_;refine Et (Qlo (i:=1) Z) ?_;refine QfT (H:=[.cells 116 [.map 1],.fmap (Qi (λx=>A.int .i64 x) (λx=>A.agg (Fact.c x)) b)]) Z ?_;obtain⟨d,h⟩:=Qlj h;refine Qz [0,1] (OpC.fn call146 Z Z Z) (Qiq _ d) ?_;rintro _ _ ⟨p1,e,rfl,rfl⟩;have h:=h p1 e;refine FE Z (Go 6 Z (Bd h λf a h=>?_));refine Qz [2] (OpC.fn call147 Z Z Z) (Qlu Qct a) ?_;rintro _ _ ⟨rfl,rfl⟩;refine FE Z ?_;refine Et (Qo (s:=3) Z (congrArg (λn=>A.osl 2 0 n 1) (Qac a))) ?_;refine Et (Qo (s:=5) Z (congrArg (λn=>A.osl 2 0 n 1) (Qac a))) ?_;refine Et (Qo (s:=6) Z (congrArg (λn=>A.osl 2 0 n 1) (Qac a))) ?_;exact Go 9 Z (Rt h 2 [0,1,2])
def F_hy(n:Nat)(f:List (Int×Fact))(b:List Int)(a:(List Fact)×Int):Option (Ctl ((List Fact)×Int) (List Fact)):=
  (bif decide (a.2<(b.length:Int))then(idx b a.2).bind λc=>(some (QI f c Up)).bind λd=>(app a.1 [d]).bind λe=>some (.cont (e,IntKind.i64.wrap (a.2+1)))else some (.done a.1))
def F_ci(n:Nat)(a:List (Int×Fact)):Option (List Fact):=
  (F_gr n a).bind λd=>(F_ck n a).bind λc=>(iter (F_hy n a c) n ([],0):Option (List Fact)).bind λb=>some b
theorem k_ci(n:Nat)(g:List (Int×Fact))(r:List Fact)(h:F_ci n g=some r):
    C prog 45 [.map 0] [.map (Qi (λx=>A.int .i64 x) (λx=>A.agg (Fact.c x)) g)] (RQ (λr=>.osl 1 0 r.length 57) (λr=>[.fmap (Qi (λx=>A.int .i64 x) (λx=>A.agg (Fact.c x)) g),.row 83 57 (List.map Fact.c r)]) r):=by
 refine Qb func45 Z Z Z ?_;refine G0 9 Z (Cd [0] h (k_gr _ _) Z λJ B h=>FE Z (Cd [1,0] h (k_ck _ _) Z λL E h=>FE Z (Go 4 Z (Bd h λd y h=>?_))));refine Ct d [0,1] [] (λd=>[(2,.osl 1 0 d.length 57)]) (λd=>[(1,.row 83 57 (List.map Fact.c d))]) Zf ?_ (λenv H z=>?_)
 .refine G0 1 Z ?_;refine Lp [0,0,2] [0,7,8] (λb=>[(2,.osl 1 0 b.1.length 57),(9,I b.2)]) (λb=>[(1,.row 83 57 (List.map Fact.c b.1))]) y Zf ?_ ?_
  .refine En (Er (s:=2) (k:=57) (t:=83) (XX Z) Z) ?_;exact Lr [0,3,2]
  intro b F a p;refine G0 6 Z (Jb Z a (λq a=>?_) (λq a=>?_))
  .refine Gc 2 Z (Qy a ?_);obtain rfl:=Oj p a;exact Gx 1 Z (QH (Lr [0,1]))
  refine Gc 6 Z (Bd a λj f a=>?_);refine vX (.ptr 2 (Int.toNat b.2*1)) (QJ f Z runUnderlying37 sizeOf3) ?_;refine vX (I j) (Ez Z isAgg3 Z (Qq f)) ?_;refine Go 7 Z (Bd a λm u a=>?_);refine vX (.agg (Fact.c m)) (Qmm (ev:=(λx=>A.agg (Fact.c x))) (z0:=Up) (k:=j) (l:=g) YQ u underlying116 zeroValue83 (zrC Z)) ?_;refine vH (El (xs:=[.tmp 16]) (es:=List.map Fact.c [m]) Qaq Z Z Z Z Z ⟨Z,trivial⟩ Z Z) ?_;refine FE Z (Bd a λG w a=>?_);refine vH (QM (e:=Fact.c) w Qaq runUnderlying34 (Y6 (i:=3))) ?_;exact FE Z (Go 8 Z (Qv a (Lr [0,4,2])))
 exact Gx 1 Z (Ef z (Gc 7 Z (Rt h 2 [0,1])))
def F_hd(n:Nat)(k:Course)(l:List Fact)(a:(List (Int×Fact))×Int):Option (Ctl ((List (Int×Fact))×Int) (List (Int×Fact))):=
  (bif decide (a.2<(l.length:Int))then((idx l a.2).bind λb=>((bif (b.Kind != 1)then some true else(F_ad n b).bind λc=>(bif (c != 0)then some true else(bif decide ((k.Distances.length:Int)<=b.Starter.Distance)then some true else some (decide ((k.Waves.length:Int)<=b.Starter.Wave))))):Option Bool).bind λd=>(bif d then some a.1 else(some (QI a.1 b.Starter.Bib Up)).bind λe=>((bif (!(Qab a.1 b.Starter.Bib))then some true else(F_w n b e).bind λf=>some (decide (f<0))):Option Bool).bind λg=>((bif g then(some (QE a.1 b.Starter.Bib b)).bind λh=>some h else some a.1):Option (List (Int×Fact))).bind λi=>some i):Option (List (Int×Fact))).bind λj=>some (.cont (j,IntKind.i64.wrap (a.2+1)))else some (.done a.1))
def F_dc(n:Nat)(c:List Fact)(a:(List Starter)×(List (Int×Bool))×Int):Option (Ctl ((List Starter)×(List (Int×Bool))×Int) (Ctl (List Starter) ((List Starter)×Int))):=
  (bif decide (a.2.2<(c.length:Int))then(idx c a.2.2).bind λb=>(some (QI a.2.1 b.Starter.Chip false)).bind λd=>(bif d then some (.done (.done ([],180)))else(some (QE a.2.1 b.Starter.Chip true)).bind λe=>(app a.1 [b.Starter]).bind λf=>some (.cont (f,e,IntKind.i64.wrap (a.2.2+1))))else some (.done (.cont a.1)))
def F_ac(n:Nat)(e:Course)(g:List Fact):Option ((List Starter)×Int):=
  (F_e n e).bind λf=>(bif (f != 0)then some ([],f)else(iter (F_hd n e g) n ([],0):Option (List (Int×Fact))).bind λb=>(bif decide (4000<(b.length:Int))then some ([],2)else(F_ci n b).bind λc=>(iter (F_dc n c) n ([],[],0):Option (Ctl (List Starter) ((List Starter)×Int))).bind λd=>match d with|.cont a=>(some (a,0))|.done a=>some a))
theorem k_ac(n:Nat)(a1:Course)(a2:List Fact)(r:(List Starter)×Int)(h:F_ac n a1 a2=some r):
    C prog 23 [.agg (Course.c a1),.rsl 57 (List.map Fact.c a2)] [] (RQ (λr=>.tup [.osl 0 0 r.1.length 8,I r.2]) (λr=>[.row 56 8 (List.map Starter.c r.1)]) r):=by
 refine Qb func23 Z Z Z ?_;refine G0 11 Z (Cz [] h (k_e _ _) Z λr1 bd h=>Go 9 Z (Cn Z h (λan h=>?_) (λan h=>?_)))
 .refine Gc 9 Z ?_;obtain rfl:=Oi h;refine R2 4 5 Z Z ?_;refine En (Er (s:=4) (k:=8) (t:=56) (XX Z) Z) ?_;exact Lr [1]
 refine Gc 4 Z ?_;refine vH Ye ?_;refine FE Z (Go 7 Z (Lm Z (Go 3 Z (Bd h λy ai h=>?_))));refine Ct y [1] [4,7] Ze (λy=>[(0,.map (Qi (λx=>A.int .i64 x) (λx=>A.agg (Fact.c x)) y))]) Zf ?_ (λenv H j=>?_)
 .refine G0 1 Z ?_;refine Lp [0,1] [2,4,7,22,23] (λp=>[(24,I p.2)]) (λp=>[(1,.map (Qi (λx=>A.int .i64 x) (λx=>A.agg (Fact.c x)) p.1))]) ai Zf (Lr [0,1]) λp av m N=>?_;refine G0 6 Z (Jb Z m (λO m=>?_) (λO m=>?_))
  .refine Gc 2 Z (Qy m ?_);obtain rfl:=Oj N m;exact Gx 1 Z (QH (Lr [1]))
  refine Gc 3 Z (Bd m λE d m=>?_);refine Ct E [0,1] [2,4,7,22,23,24] Ze (λE=>[(1,.map (Qi (λx=>A.int .i64 x) (λx=>A.agg (Fact.c x)) E))]) Zf ?_ (λenv H j=>?_)
  .refine G0 3 Z (Bd d λz P d=>Iz P Z (Go 15 Z (Bd d λF f d=>?_)));refine Ct F [0,1,2,3] [2,4,7,9,10,22,23,24] (λF=>[(53,.bool F)]) Ze Zf ?_ (λenv H j=>?_)
   .refine G0 5 Z (Is 33 f Z (λQ f=>?_) (λQ f=>?_))
    .exact Go 21 Z (Cl f [0,1,2,3])
    .refine Go 1 Z (Cz [] f (k_ad _ _) Z λaw aq f=>Go 3 Z (Is 38 f Z (λR f=>?_) (λR f=>?_)))
     .exact Go 16 Z (Cl f [0,1,2,3])
     .refine Go 4 Z (Lm Z (Go 3 Z (Is 46 f Z (λT f=>?_) (λT f=>?_))))
      .exact Go 8 Z (Cl f [0,1,2,3])
      .exact Go 4 Z (Lm Z (Go 3 Z (Cl f [0,1,2,3])))
   refine Gx 1 Z (Ef j (Cn Z d (λV d=>?_) (λV d=>?_)))
   .exact Gc 3 Z (Cl d [0,1])
   refine Gc 7 Z (Bd d λaj W d=>?_);refine vX (.tup [.agg (Fact.c aj),.bool (Qab p.1 z.Starter.Bib)]) (QbE (ev:=(λx=>A.agg (Fact.c x))) (z0:=Up) (k:=z.Starter.Bib) (l:=p.1) YQ W underlying116 zeroValue83 (zrC Z)) ?_;refine Go 9 Z (Bd d λG q d=>?_);refine Ct G [0,1,2,3] [2,4,7,9,10,22,23,24] (λG=>[(68,.bool G)]) Ze Zf ?_ (λenv H j=>?_)
   .refine G0 4 Z (Is 63 q Z (λX q=>?_) (λX q=>?_))
    .exact Go 6 Z (Cl q [0,1,2,3])
    .exact Go 2 Z (Cz [] q (k_w _ _ _) Z λax ar q=>Go 3 Z (Cl q [0,1,2,3]))
   refine Gx 1 Z (Ef j (Bd d λJ u d=>?_));refine Ct J [0,1] [2,4,7,22,23,24] Ze (λJ=>[(1,.map (Qi (λx=>A.int .i64 x) (λx=>A.agg (Fact.c x)) J))]) Zf ?_ (λenv H j=>?_)
   .refine G0 0 Z (Cn Z u (λY u=>?_) (λY u=>?_))
    .refine Gc 5 Z (Bd u λay aa u=>?_);refine vU (Yc (ev:=(λx=>A.agg (Fact.c x))) (k:=z.Starter.Bib) (v:=z) (l:=p.1) YQ aa Z underlying116) ?_;exact FE Z (Go 1 Z (Cl u [0,1]))
    exact Gc 1 Z (Cl u [0,1])
   refine Gx 1 Z ?_;cases d;exact QH (En j (Lr [0,1]))
  exact Gx 1 Z (Ef j (Gc 4 Z (Qv m (Lr [0,1]))))
 refine Gx 1 Z (Ef j (Gc 4 Z ?_));refine vX (I (y.length:Int)) (QcQ (l:=y) underlying116 Z) ?_;refine Go 3 Z (Cn Z h (λab h=>?_) (λab h=>?_))
 .refine Gc 8 Z ?_;obtain rfl:=Oi h;refine R2 4 5 Z Z ?_;refine En (Er (s:=4) (k:=8) (t:=56) (XX Z) Z) ?_;exact Lr [1]
 refine Gc 4 Z ?_;refine vH Ye ?_;refine FE Z (Go 7 Z (Cd [0] h (k_ci _ _) Z λaz au h=>FE Z (Go 4 Z (Bd h λak al h=>?_))));refine CtE (b:=ak) [0] [] (λw=>[(4,.osl 0 0 w.length 8)]) (λw=>[(0,.row 56 8 (List.map Starter.c w))]) Zf ?_ (λw env H ao j=>?_)
 .refine G0 1 Z ?_;refine Lp [0,1,2] [13,79,80] (λg=>[(4,.osl 0 0 g.1.length 8),(81,I g.2.2)]) (λg=>[(0,.row 56 8 (List.map Starter.c g.1)),(1,.map (Qi (λx=>A.int .i64 x) A.bool g.2.1))]) al Zf ?_ ?_
  .refine En (Er (s:=4) (k:=8) (t:=56) (XX Z) Z) ?_;exact Lr [3,1,2]
  intro g ba a L;refine G0 6 Z (Jb Z a (λac a=>?_) (λac a=>?_))
  .refine Gc 2 Z (Qy a ?_);obtain rfl:=Oj L a;exact Gx 1 Z (QL Z (Lr [0]))
  refine Gc 6 Z (Bd a λB M a=>?_);refine vX (.ptr 2 (Int.toNat g.2.2*57)) (QJ M Z runUnderlying34 sizeOf83) ?_;refine vX (.agg (Fact.c B)) (Qk Z isAgg83 sizeOf83 Z (Qq M) Z Z) ?_;refine Go 11 Z (Bd a λam ae a=>?_);refine vX (.bool am) (Y9 (ev:=A.bool) (z0:=false) (k:=B.Starter.Chip) (l:=g.2.1) YQ ae underlying59 zeroValue4 ZR.bool) ?_;refine Go 2 Z (Cn Z a (λaf a=>?_) (λaf a=>?_))
  .refine Gc 10 Z (Yx a ?_);obtain rfl:=Oj L a;refine Gx 1 Z (Q9 (Gx 1 Z ?_));obtain rfl:=Oi h;refine R2 4 5 Z Z ?_;refine En (Er (s:=4) (k:=8) (t:=56) (XX Z) Z) ?_;exact Lr [4]
  refine Gc 8 Z (Bd a λbb ag a=>?_);refine vU (Yc (ev:=A.bool) (k:=B.Starter.Chip) (v:=true) (l:=g.2.1) YQ ag Z underlying59) ?_;refine FE Z (Go 6 Z ?_);refine vH (El (xs:=[.tmp 96]) (es:=List.map Starter.c [B.Starter]) Qp3 Z Z Z Z Z ⟨Z,trivial⟩ Z Z) ?_;refine FE Z (Bd a λbc ah a=>?_);refine vH (QM (e:=Starter.c) ah Qp3 runUnderlying51 (Y6 (i:=4))) ?_;exact FE Z (Go 8 Z (Qv a (Lr [5,1,2])))
 subst ao;refine Gx 1 Z (Ef j (Gc 8 Z ?_));obtain rfl:=Oi h;exact R2 4 5 Z Z (Lr [0])
def F_fb(n:Nat)(a:Starter)(b:Int):Option Unit:=
  some ()
theorem k_fb(n:Nat)(a:Starter)(b:Int)(r:Unit)(h:F_fb n a b=some r):
    Csm prog 38 [.agg (Starter.c a),.ptr 0 0] [.cells 3 [I b]] (λ_=>.bool (a.Bib==b)) r:=by
 refine Qb func38 Z Z Z ?_;exact G0 16 Z (Rt h 3 [0])
def F_hq(n:Nat)(c:List Starter)(d:Int)(a:Int):Option (Ctl Int (Ctl Unit Int)):=
  (bif decide (a<(c.length:Int))then(idx c a).bind λb=>(F_fb n b d).bind λe=>(bif (b.Bib==d)then some (.done (.done a))else some (.cont (IntKind.i64.wrap (a+1))))else some (.done (.cont ())))
def F_cn(n:Nat)(c:List Starter)(d:Int):Option Int:=
  (iter (F_hq n c d) n 0:Option (Ctl Unit Int)).bind λb=>match b with|.cont a=>(some (-1))|.done a=>some a
theorem k_cn(n:Nat)(g:List Starter)(k:Int)(r:Int)(h:F_cn n g k=some r):
    Csm prog 37 [.osl 0 0 g.length 8,.fn (.func 38) [] [.ptr 1 0]] [.row 56 8 (List.map Starter.c g),.cells 3 [I k]] (λr=>I r) r:=by
 refine Qb func37 Z Z Z ?_;refine G0 13 Z (Bd h λl m h=>?_);refine CtE (b:=l) [0,1] [] Ze Ze Zf ?_ (λt env H p q=>?_)
 .refine G0 1 Z ?_;refine Lp [0,1] [0,1,7] (λd=>[(8,I d)]) Ze m Zf (Lr [0,1]) λd w a e=>?_;refine G0 6 Z (Jb Z a (λi a=>?_) (λi a=>?_))
  .refine Gc 2 Z (Qy a ?_);obtain rfl:=Oj e a;exact Gx 1 Z (QL Z (Lr [0,1]))
  refine Gc 15 Z (Bd a λs f a=>?_);refine vX (.ptr 0 (Int.toNat d*8)) (QJ f Z runUnderlying51 sizeOf56) ?_;refine vX (.agg (Starter.c s)) (Qk Z isAgg56 sizeOf56 Z (Qq f) Z Z) ?_;refine Cz [1] a (k_fb _ _ _) Z λx u a=>Go 2 Z (Cn Z a (λj a=>?_) (λj a=>?_))
  .refine Gc 9 Z (Yx a ?_);obtain rfl:=Oj e a;exact Gx 1 Z (Q9 (Gx 1 Z (Rt h 4 [0,1])))
  exact Gc 7 Z (Qv a (Lr [0,1]))
 subst p;exact Gx 1 Z (Ef q (Gc 6 Z (Rt h 4 [0,1])))
def F_cy(n:Nat)(a:Course)(b:Int):Option (Distance×Int):=
  (F_e n a).bind λc=>(bif (c != 0)then some (Uo,c)else((bif decide (b<0)then some true else some (decide ((a.Distances.length:Int)<=b))):Option Bool).bind λd=>(bif d then some (Uo,90)else(idx a.Distances b).bind λe=>some (e,0)))
theorem k_cy(n:Nat)(d:Course)(e:Int)(r:Distance×Int)(h:F_cy n d e=some r):
    C prog 88 [.agg (Course.c d),I e] [] (RQ (λr=>.tup [.agg (Distance.c r.1),I r.2]) (λr=>[.cells 112 (Distance.c r.1)]) r):=by
 refine Qb func88 Z Z Z ?_;refine G0 11 Z (Cz [] h (k_e _ _) Z λm l h=>Go 9 Z (Cn Z h (λf h=>?_) (λf h=>?_)))
 .refine Gc 10 Z ?_;obtain rfl:=Oi h;exact Rx [1] [4,5] Z (Qu Z Z (Qkn.cons (Qm isAgg112 sizeOf112 Z Z Z) (Qkn.cons Qdn.tmp Qkn.nil))) ⟨Z,Z⟩
 refine Gc 4 Z (Bd h λb a h=>?_);refine Ct b [0,1] [1,2,4] (λb=>[(21,.bool b)]) Ze Zf ?_ (λenv H g=>?_)
 .refine G0 4 Z (Is 15 a Z (λi a=>?_) (λi a=>?_))
  .exact Go 7 Z (Cl a [0,1])
  .exact Go 3 Z (Lm Z (Go 3 Z (Cl a [0,1])))
 refine Gx 1 Z (Ef g (Cn Z h (λj h=>?_) (λj h=>?_)))
 .refine Gc 9 Z ?_;obtain rfl:=Oi h;exact Rx [1] [4,5] Z (Qu Z Z (Qkn.cons (Qm isAgg112 sizeOf112 Z Z Z) (Qkn.cons Qdn.tmp Qkn.nil))) ⟨Z,Z⟩
 refine Gc 7 Z (Bd h λp k h=>Iz k Z (Go 6 Z ?_));obtain rfl:=Oi h;exact Rx [1] [4,5] Z (Qu Z Z (Qkn.cons (Qm isAgg112 sizeOf112 Z Z Z) (Qkn.cons Qdn.tmp Qkn.nil))) ⟨Z,Z⟩
def F_eh(n:Nat)(rec194:(List Part)->(List Int)->Option (List Int))(b:Part)(a:(List Int)×Int):Option (Ctl ((List Int)×Int) (List Int)):=
  (bif decide (a.2<b.Laps)then(rec194 b.Parts a.1).bind λc=>some (.cont (c,IntKind.i64.wrap (a.2+1)))else some (.done a.1))
def F_hn(n:Nat)(c:List Part)(rec194:(List Part)->(List Int)->Option (List Int))(a:(List Int)×Int):Option (Ctl ((List Int)×Int) (List Int)):=
  (bif decide (a.2<(c.length:Int))then(idx c a.2).bind λb=>((bif (b.Laps==0)then(app a.1 [b.Mat]).bind λd=>some d else some a.1):Option (List Int)).bind λe=>(iter (F_eh n rec194 b) n (e,0):Option (List Int)).bind λf=>some (.cont (f,IntKind.i64.wrap (a.2+1)))else some (.done a.1))
def B_i(rec194:(List Part)->(List Int)->Option (List Int))(n:Nat)(b:List Part)(c:List Int):Option (List Int):=
  (iter (F_hn n b rec194) n (c,0):Option (List Int)).bind λa=>some a
theorem Qbg(rec194:(List Part)->(List Int)->Option (List Int))(s:∀(t:List Part) (k:List Int) (r:List Int),rec194 t k=some r->C prog 169 [.rsl 3 (List.map Part.enc t),.ptr 0 0,.ptr 1 0] [.cells 37 [.osl 2 0 k.length 1],.cells 281 [.fn (.func 169) [] [.ptr 0 0,.ptr 1 0]],.row 3 1 (List.map (Qf .i64) k)] (RQ (λ_=>.tup []) (λr=>[.cells 37 [.osl 3 0 r.length 1],.cells 281 [.fn (.func 169) [] [.ptr 0 0,.ptr 1 0]],.dead,.row 3 1 (List.map (Qf .i64) r)]) r))(n:Nat)(t:List Part)(k:List Int)(r:List Int)(h:B_i rec194 n t k=some r):
    C prog 169 [.rsl 3 (List.map Part.enc t),.ptr 0 0,.ptr 1 0] [.cells 37 [.osl 2 0 k.length 1],.cells 281 [.fn (.func 169) [] [.ptr 0 0,.ptr 1 0]],.row 3 1 (List.map (Qf .i64) k)] (RQ (λ_=>.tup []) (λr=>[.cells 37 [.osl 3 0 r.length 1],.cells 281 [.fn (.func 169) [] [.ptr 0 0,.ptr 1 0]],.dead,.row 3 1 (List.map (Qf .i64) r)]) r):=by
 refine Qb func169 Z Z Z ?_;refine G0 3 Z (Lm Z (Go 3 Z (Bd h λl G h=>?_)));refine Ct l [0,1,2,0] [] Ze (λl=>[(0,.cells 37 [.osl 3 0 l.length 1]),(2,.dead),(3,.row 3 1 (List.map (Qf .i64) l))]) Zf ?_ (λenv H c=>?_)
 .refine G0 1 Z ?_;refine Lp [0,1,2,2] [1,2,6,7] (λf=>[(8,I f.2)]) (λf=>[(0,.cells 37 [.osl 3 0 f.1.length 1]),(2,.dead),(3,.row 3 1 (List.map (Qf .i64) f.1))]) G Zf ?_ ?_
  .refine En (Qmx (i:=2) (j:=0) (m:=0) Z Z Z Z Z) ?_;exact Lr [0,1,2,3]
  intro f M a w;refine G0 6 Z (Jb Z a (λx a=>?_) (λx a=>?_))
  .refine Gc 2 Z (Qy a ?_);obtain rfl:=Oj w a;exact Gx 1 Z (QH (Lr [0,1,2,3]))
  refine Gc 6 Z (Bd a λu y a=>IzE y (YK u) Z (Go 13 Z (Bd a λp d a=>?_)));refine Ct p [0,1,2,0,4] [1,2,5,6,7,8] Ze (λp=>[(0,.cells 37 [.osl 3 0 p.length 1]),(3,.row 3 1 (List.map (Qf .i64) p))]) Zf ?_ (λenv H c=>?_)
  .refine G0 0 Z (Cn Z d (λz d=>?_) (λz d=>?_))
   .refine Gc 4 Z ?_;refine vH (El (xs:=[.tmp 17]) (es:=List.map (Qf .i64) [u.Mat]) Q2 Z Z Z Z Z ⟨Z,trivial⟩ Z Z) ?_;refine FE Z (Bd d λN B d=>?_);refine vH (QM (e:=(Qf .i64)) B Q2 runUnderlying37 (Y6 (i:=5))) ?_;exact FE Z (Go 2 Z (Cl d [0,1,2,6,4]))
   exact Gc 1 Z (Cl d [0,1,2,3,4])
  refine Gx 1 Z (Ef c (Gc 7 Z (Bd a λq J a=>?_)));refine Ct q [0,1,2,3] [1,2,6,7,8] Ze (λq=>[(0,.cells 37 [.osl 3 0 q.length 1]),(3,.row 3 1 (List.map (Qf .i64) q))]) Zf ?_ (λenv H c=>?_)
  .refine G0 1 Z ?_;refine Lp [0,1,2,3,4] [1,2,5,6,7,8,21] (λg=>[(22,I g.2)]) (λg=>[(0,.cells 37 [.osl 3 0 g.1.length 1]),(3,.row 3 1 (List.map (Qf .i64) g.1))]) J Zf (Lr [0,1,2,3,4]) λg O b E=>?_;refine G0 6 Z (Jb Z b (λF b=>?_) (λF b=>?_))
   .refine Gc 2 Z (Qy b ?_);obtain rfl:=Oj E b;exact Gx 1 Z (QH (Lr [0,1,2,3]))
   exact Gc 8 Z (Cd [0,1,3] b (s _ _) Z λP L b=>FE Z (Go 7 Z (Qv b (Lr [0,1,2,5,4]))))
  exact Gx 2 Z (Ef c (Gc 4 Z (Qv a (Lr [0,1,2,3]))))
 obtain rfl:=Oi h;have c:=c;refine⟨[],_,_,?_,Qcy.nil Z,Z,Z⟩;refine En c ?_;exact Lr [0,1,2,3]
def F_i:Nat->(List Part)->(List Int)->Option (List Int)
  |0=>λ_ _=>none
  |n+1=>B_i (F_i n) n
theorem k_i(n:Nat):∀(b:List Part) (a:List Int) (r:List Int),F_i n b a=some r->C prog 169 [.rsl 3 (List.map Part.enc b),.ptr 0 0,.ptr 1 0] [.cells 37 [.osl 2 0 a.length 1],.cells 281 [.fn (.func 169) [] [.ptr 0 0,.ptr 1 0]],.row 3 1 (List.map (Qf .i64) a)] (RQ (λ_=>.tup []) (λr=>[.cells 37 [.osl 3 0 r.length 1],.cells 281 [.fn (.func 169) [] [.ptr 0 0,.ptr 1 0]],.dead,.row 3 1 (List.map (Qf .i64) r)]) r):=by
  induction n with
  |zero=>intro b a r h;cases h
  |succ n ih=>intro b a r h;exact Qbg _ ih n b a r h
def F_cu(n:Nat)(a:List Part):Option (List Int):=
  (F_i n a ([]:List Int)).bind λb=>some b
theorem k_cu(n:Nat)(a:List Part)(r:List Int)(h:F_cu n a=some r):
    C prog 89 [.rsl 3 (List.map Part.enc a)] [] (RQ (λr=>.osl 0 0 r.length 1) (λr=>[.row 3 1 (List.map (Qf .i64) r),.cells 37 [.osl 0 0 r.length 1]]) r):=by
 refine Qb func89 Z Z Z ?_;refine G0 20 Z ?_;refine Et (YT (i:=0) (m:=0) (t:=3) (k:=1) Z Z Z) ?_;refine QfT (H:=[.cells 37 [.osl 2 0 (([]:List Int).length) 1],.cells 281 [.fn (.func 169) [] [.ptr 0 0,.ptr 1 0]],.row 3 1 (List.map (Qf .i64) ([]:List Int))]) Z ?_;refine Cd [0,1,2] h (k_i _ _ _) Z λc b h=>FE Z (Go 9 Z ?_);obtain rfl:=Oi h;exact Rx [3,0] [2] Z (YJ Z (Qar isAgg37 Z Z)) ⟨Z,Z⟩
def F_ht(n:Nat)(a:Int)(b:Int):Option Unit:=
  some ()
theorem k_ht(n:Nat)(a:Int)(b:Int)(r:Unit)(h:F_ht n a b=some r):
    Csm prog 229 [.int .u64 a,.int .u64 b] [] (λ_=>.tup [.int .u64 (IntKind.u64.wrap ((IntKind.u64.wrap ((IntKind.u64.wrap ((Q3 .u64 a 32)*(Q3 .u64 b 32)))+(Q3 .u64 (IntKind.u64.wrap ((IntKind.u64.wrap ((Q3 .u64 a 32)*(Yy .u64 b 4294967295)))+(Q3 .u64 (IntKind.u64.wrap ((Yy .u64 a 4294967295)*(Yy .u64 b 4294967295))) 32))) 32)))+(Q3 .u64 (IntKind.u64.wrap ((Yy .u64 (IntKind.u64.wrap ((IntKind.u64.wrap ((Q3 .u64 a 32)*(Yy .u64 b 4294967295)))+(Q3 .u64 (IntKind.u64.wrap ((Yy .u64 a 4294967295)*(Yy .u64 b 4294967295))) 32))) 4294967295)+(IntKind.u64.wrap ((Yy .u64 a 4294967295)*(Q3 .u64 b 32))))) 32))),.int .u64 (IntKind.u64.wrap (a*b))]) r:=by
 refine Qb func229 Z Z Z ?_;refine G0 9 Z ?_;refine vX (.int .u64 (Yy .u64 a 4294967295)) (OpV.and Z Z Z) ?_;refine Go 6 Z ?_;refine vX (.int .u64 (Q3 .u64 a 32)) (OpV.shr Z Z Z (by decide)) ?_;refine Go 6 Z ?_;refine vX (.int .u64 (Yy .u64 b 4294967295)) (OpV.and Z Z Z) ?_;refine Go 6 Z ?_;refine vX (.int .u64 (Q3 .u64 b 32)) (OpV.shr Z Z Z (by decide)) ?_;refine Go 17 Z ?_;refine vV (x:=(.int .u64 (Q3 .u64 (IntKind.u64.wrap ((Yy .u64 a 4294967295)*(Yy .u64 b 4294967295))) 32))) (OpV.shr Z Z Z (by decide)) ?_;refine Go 7 Z ?_;refine vV (x:=(.int .u64 (Yy .u64 (IntKind.u64.wrap ((IntKind.u64.wrap ((Q3 .u64 a 32)*(Yy .u64 b 4294967295)))+(Q3 .u64 (IntKind.u64.wrap ((Yy .u64 a 4294967295)*(Yy .u64 b 4294967295))) 32))) 4294967295))) (OpV.and Z Z Z) ?_;refine Go 6 Z ?_;refine vV (x:=(.int .u64 (Q3 .u64 (IntKind.u64.wrap ((IntKind.u64.wrap ((Q3 .u64 a 32)*(Yy .u64 b 4294967295)))+(Q3 .u64 (IntKind.u64.wrap ((Yy .u64 a 4294967295)*(Yy .u64 b 4294967295))) 32))) 32))) (OpV.shr Z Z Z (by decide)) ?_;refine Go 21 Z ?_;refine vV (x:=(.int .u64 (Q3 .u64 (IntKind.u64.wrap ((Yy .u64 (IntKind.u64.wrap ((IntKind.u64.wrap ((Q3 .u64 a 32)*(Yy .u64 b 4294967295)))+(Q3 .u64 (IntKind.u64.wrap ((Yy .u64 a 4294967295)*(Yy .u64 b 4294967295))) 32))) 4294967295)+(IntKind.u64.wrap ((Yy .u64 a 4294967295)*(Q3 .u64 b 32))))) 32))) (OpV.shr Z Z Z (by decide)) ?_;refine Go 13 Z ?_;obtain rfl:=Oi h;exact R2 4 5 Z Z (Lr [])
def F_gx(n:Nat)(a:Int)(b:Int):Option Unit:=
  (F_ht n a b).bind λc=>some ()
theorem k_gx(n:Nat)(a:Int)(b:Int)(r:Unit)(h:F_gx n a b=some r):
    Csm prog 172 [.int .u64 a,.int .u64 b] [] (λ_=>.tup [.int .u64 (IntKind.u64.wrap ((IntKind.u64.wrap ((IntKind.u64.wrap ((Q3 .u64 a 32)*(Q3 .u64 b 32)))+(Q3 .u64 (IntKind.u64.wrap ((IntKind.u64.wrap ((Q3 .u64 a 32)*(Yy .u64 b 4294967295)))+(Q3 .u64 (IntKind.u64.wrap ((Yy .u64 a 4294967295)*(Yy .u64 b 4294967295))) 32))) 32)))+(Q3 .u64 (IntKind.u64.wrap ((Yy .u64 (IntKind.u64.wrap ((IntKind.u64.wrap ((Q3 .u64 a 32)*(Yy .u64 b 4294967295)))+(Q3 .u64 (IntKind.u64.wrap ((Yy .u64 a 4294967295)*(Yy .u64 b 4294967295))) 32))) 4294967295)+(IntKind.u64.wrap ((Yy .u64 a 4294967295)*(Q3 .u64 b 32))))) 32))),.int .u64 (IntKind.u64.wrap (a*b))]) r:=by
 refine Qb func172 Z Z Z ?_;refine G0 14 Z (Cd [] h (k_ht _ _ _) Z λd c h=>FE Z (Go 16 Z ?_));obtain rfl:=Oi h;exact R2 4 5 Z Z (Lr [])
def F_do(n:Nat)(a:(List Int)×Int):Option (Ctl ((List Int)×Int) (List Int)):=
  (bif decide (a.2<(a.1.length:Int))then(slc a.1 a.2 (a.1.length:Int)).bind λd=>(slc a.1 0 a.2).bind λb=>(cpy a.1 a.2 (a.1.length:Int) b).bind λc=>some (.cont (c,IntKind.i64.wrap (a.2+((min b.length ((a.1.length:Int).toNat-a.2.toNat):Nat):Int))))else some (.done a.1))
def F_bo(n:Nat)(a:List Int)(b:Int):Option (List Int):=
  ((bif decide (b<0)then none else some ()):Option Unit).bind λb2=>(F_gx n (IntKind.u64.wrap (a.length:Int)) (IntKind.u64.wrap b)).bind λh=>((bif decide (0<(IntKind.u64.wrap ((IntKind.u64.wrap ((IntKind.u64.wrap ((Q3 .u64 (IntKind.u64.wrap (a.length:Int)) 32)*(Q3 .u64 (IntKind.u64.wrap b) 32)))+(Q3 .u64 (IntKind.u64.wrap ((IntKind.u64.wrap ((Q3 .u64 (IntKind.u64.wrap (a.length:Int)) 32)*(Yy .u64 (IntKind.u64.wrap b) 4294967295)))+(Q3 .u64 (IntKind.u64.wrap ((Yy .u64 (IntKind.u64.wrap (a.length:Int)) 4294967295)*(Yy .u64 (IntKind.u64.wrap b) 4294967295))) 32))) 32)))+(Q3 .u64 (IntKind.u64.wrap ((Yy .u64 (IntKind.u64.wrap ((IntKind.u64.wrap ((Q3 .u64 (IntKind.u64.wrap (a.length:Int)) 32)*(Yy .u64 (IntKind.u64.wrap b) 4294967295)))+(Q3 .u64 (IntKind.u64.wrap ((Yy .u64 (IntKind.u64.wrap (a.length:Int)) 4294967295)*(Yy .u64 (IntKind.u64.wrap b) 4294967295))) 32))) 4294967295)+(IntKind.u64.wrap ((Yy .u64 (IntKind.u64.wrap (a.length:Int)) 4294967295)*(Q3 .u64 (IntKind.u64.wrap b) 32))))) 32))))then some true else some (decide (9223372036854775807<(IntKind.u64.wrap ((IntKind.u64.wrap (a.length:Int))*(IntKind.u64.wrap b)))))):Option Bool).bind λf=>((bif f then none else some ()):Option Unit).bind λg=>(mk (IntKind.i64.wrap (IntKind.u64.wrap ((IntKind.u64.wrap (a.length:Int))*(IntKind.u64.wrap b)))) 0).bind λc=>(cpy c 0 (c.length:Int) a).bind λd=>(iter (F_do n) n (d,((min a.length c.length:Nat):Int)):Option (List Int)).bind λe=>some e
theorem k_bo(n:Nat)(u:List Int)(w:Int)(r:List Int)(h:F_bo n u w=some r):
    C prog 91 [.rsl 1 (List.map (Qf .i64) u),I w] [] (RQ (λr=>.osl 0 0 r.length 1) (λr=>[.row 3 1 (List.map (Qf .i64) r)]) r):=by
 refine Qb func91 Z Z Z ?_;refine G0 12 Z (Bd h λb2 p h=>?_);refine Ct b2 [] [0,1] Ze Ze Zf ?_ (λenv H g=>?_)
 .refine G0 0 Z (Cn Z p (λG p=>?_) (λG p=>?_))
  .cases p
  exact Gc 1 Z (Cl p [])
 refine Gx 1 Z (Ef g (Gc 3 Z (Lm Z ?_)));refine vX (.int .u64 (IntKind.u64.wrap (u.length:Int))) (Ja Z runUnderlying3 runUnderlying85 Z) ?_;refine Go 1 Z ?_;refine vX (.int .u64 (IntKind.u64.wrap w)) (Ja Z runUnderlying3 runUnderlying85 Z) ?_;refine Cd [] h (k_gx _ _ _) Z λW P h=>FE Z (Go 9 Z (Bd h λy q h=>?_));refine Ct y [] [0,6] (λy=>[(26,.bool y)]) Ze Zf ?_ (λenv H g=>?_)
 .refine G0 4 Z (Is 23 q Z (λJ q=>?_) (λJ q=>?_))
  .exact Go 4 Z (Cl q [])
  .exact Go 4 Z (Cl q [])
 refine Gx 1 Z (Ef g (Bd h λL k h=>?_));refine Ct L [] [0,6] Ze Ze Zf ?_ (λenv H g=>?_)
 .refine G0 0 Z (Cn Z k (λz k=>?_) (λz k=>?_))
  .cases k
  exact Gc 1 Z (Cl k [])
 refine Gx 1 Z (Ef g (Gc 3 Z ?_));refine vV (x:=(I (IntKind.i64.wrap (IntKind.u64.wrap ((IntKind.u64.wrap (u.length:Int))*(IntKind.u64.wrap w)))))) (Ja Z runUnderlying85 runUnderlying3 Z) ?_;refine Bd h λQ B h=>?_;refine vH (QpK (e:=(Qf .i64)) (zv:=0) (a:=(I 0)) B Q2 zeroValue3 Eo Z Z Z Z) ?_;refine FE Z (Go 7 Z (Bd h λR j h=>?_));refine vH (Qmr (e:=(Qf .i64)) j runUnderlying37 sizeOf3 QpH) ?_;refine FE Z ?_;refine Et (Qo (s:=7) Z (congrArg (λn=>A.osl 0 0 n 1) (QfO j))) ?_;refine Et (Qo (s:=30) Z (congrArg (λn=>A.osl 0 0 n 1) (QfO j))) ?_;refine Et (Qo (s:=31) Z (congrArg (λn=>A.osl 0 0 n 1) (QfO j))) ?_;refine Go 4 Z (Bd h λm M h=>?_);refine Ct m [0] [] (λm=>[(7,.osl 0 0 m.length 1)]) (λm=>[(0,.row 3 1 (List.map (Qf .i64) m))]) Zf ?_ (λenv H g=>?_)
 .refine G0 1 Z ?_;refine Lp [0] [] (λc=>[(7,.osl 0 0 c.1.length 1),(8,I c.2)]) (λc=>[(0,.row 3 1 (List.map (Qf .i64) c.1))]) M Zf (Lr [0]) λc T d E=>?_;refine G0 9 Z (Jb Z d (λF d=>?_) (λF d=>?_))
  .refine Gc 2 Z (Qy d ?_);obtain rfl:=Oj E d;exact Gx 1 Z (QH (Lr [0]))
  refine Gc 3 Z (DKs 8 [7] [(0,0,1),(0,0,0),(0,0,0),(0,0,0),(0,0,0),(0,0,0),(0,0,0),(1,0,0)] (by kernel_rfl) (Dk 3 Z ?_));obtain⟨V,f,d⟩:=Jy d;refine DK.wo (x:=.osl 0 (0+Int.toNat c.2) (Int.toNat (c.1.length:Int)-Int.toNat c.2) 1) ?_ ?_
  .refine vX (.osl 0 (0+Int.toNat c.2) (Int.toNat (c.1.length:Int)-Int.toNat c.2) 1) (QdV (l:=c.1) f runUnderlying37 sizeOf3 (.inr ⟨_,Z,Z⟩) (.inl ⟨Z,Z⟩)) ?_;exact Wp
  refine Dk 2 Z ?_;obtain⟨N,t,d⟩:=Jy d;refine DK.wo (x:=.osl 0 (0+Int.toNat 0) (Int.toNat c.2-Int.toNat 0) 1) ?_ ?_
  .refine vX (.osl 0 (0+Int.toNat 0) (Int.toNat c.2-Int.toNat 0) 1) (QdV (l:=c.1) t runUnderlying37 sizeOf3 (.inl ⟨Z,Z⟩) (.inr ⟨_,Z,Z⟩)) ?_;exact Wp
  obtain⟨O,i,d⟩:=Jy d;refine DK.op (x:=I ((min N.length ((c.1.length:Int).toNat-c.2.toNat):Nat):Int)) (X1:=[.row 3 1 (List.map (Qf .i64) O)]) ?_ ?_
  .refine vH (Qms (e:=(Qf .i64)) f i runUnderlying37 sizeOf3 (QpI (b:=0) t)) ?_;exact FE Z Wp
  refine DK.done Z Z ?_;refine Et (Qo (s:=7) Z (congrArg (λn=>A.osl 0 0 n 1) (QeD f i))) ?_;refine Et (Qo (s:=35) Z (congrArg (λn=>A.osl 0 0 n 1) (QeD f i))) ?_;refine Et (Qo (s:=39) Z (congrArg (λn=>A.osl 0 0 n 1) (QeD f i))) ?_;refine Et (Qo (s:=42) Z (congrArg (λn=>A.osl 0 0 n 1) (QeD f i))) ?_;exact Go 4 Z (Qv d (Lr [0]))
 exact Gx 1 Z (Ef g (Gc 7 Z (Rt h 4 [0])))
def Q_course_build(b:Course)(d:Int)(e:Int):U_course_build->Go.Sw.A->Qd->Prop
  |.c0 x,a,H=>a=.tup [.agg [.rsl 1 (List.map (Qf .i64) []),.nilm],I x]/\H=[.cells 122 [.rsl 1 (List.map (Qf .i64) []),.nilm]]
  |.c1 x,a,H=>a=.tup [.agg [.rsl 1 (List.map (Qf .i64) []),.nilm],I 90]/\H=[.cells 122 [.rsl 1 (List.map (Qf .i64) []),.nilm]]
  |.c2 x,a,H=>a=.tup [.agg [.osl 0 0 x.length 1,.nilm],I 2]/\H=[.row 3 1 (List.map (Qf .i64) x),.cells 122 [.osl 0 0 x.length 1,.nilm]]
  |.c3 x,a,H=>a=.tup [.agg [.osl 0 0 x.1.length 1,.map 1],I 0]/\H=[.row 3 1 (List.map (Qf .i64) x.1),.map (Qi (λx=>A.agg (Ua.c x)) (λx=>A.agg (Leg.c x)) x.2),.cells 122 [.osl 0 0 x.1.length 1,.map 1]]
def F_cl(n:Nat)(e:Distance×Int)(b:List Int)(a:Int):Option (Ctl Int Int):=
  ((bif decide (0<a)then(idx b a).bind λc=>some (c != e.1.Extra)else some false):Option Bool).bind λd=>(bif d then some (.cont (IntKind.i64.wrap (a-1)))else some (.done a))
def F_hb(n:Nat)(c:Course)(a:(List (Ua×Leg))×Int):Option (Ctl ((List (Ua×Leg))×Int) (List (Ua×Leg))):=
  (bif decide (a.2<(c.Legs.length:Int))then(idx c.Legs a.2).bind λb=>(some (QE a.1 ({from_:=b.From,to_:=b.To:Ua}) b)).bind λd=>some (.cont (d,IntKind.i64.wrap (a.2+1)))else some (.done a.1))
def F_ch(n:Nat)(d:Course)(j:Int)(c:Int):Option U_course_build:=
  (F_cy n d j).bind λb=>(bif (b.2 != 0)then some (U_course_build.c0 b.2)else((bif decide (c<0)then some true else(bif decide (0<c)then some (decide (b.1.Extra<0))else some false)):Option Bool).bind λk=>(bif k then some (U_course_build.c1 ())else(F_cu n b.1.Route).bind λa=>(bif decide ((IntKind.i64.wrap (256-(a.length:Int)))<c)then some (U_course_build.c2 a)else((bif decide (0<c)then(iter (F_cl n b a) n (IntKind.i64.wrap ((a.length:Int)-1)):Option Int).bind λe=>(F_bo n [b.1.Extra] c).bind λf=>(QlL a (IntKind.i64.wrap (e+1)) f).bind λg=>some g else some a):Option (List Int)).bind λh=>(iter (F_hb n d) n ([],0):Option (List (Ua×Leg))).bind λi=>some (U_course_build.c3 (h,i)))))
theorem k_ch(n:Nat)(u:Course)(G:Int)(F:Int)(r:U_course_build)(h:F_ch n u G F=some r):
    C prog 46 [.agg (Course.c u),I G,I F] [] (Q_course_build u G F r):=by
 refine Qb func46 Z Z Z ?_;refine G0 11 Z (Cd [] h (k_cy _ _ _) Z λs ai h=>FE Z (Go 15 Z (Cn Z h (λY h=>?_) (λY h=>?_))))
 .refine Gc 10 Z ?_;obtain rfl:=Oi h;exact Rx [1] [6,7] Z (Qu Z Z (Qkn.cons (Qm isAgg122 sizeOf122 Z Z Z) (Qkn.cons Qdn.tmp Qkn.nil))) ⟨Z,Z⟩
 refine Gc 4 Z (Bd h λJ j h=>?_);refine Ct J [0,1,3] [2,3,6,8] (λJ=>[(32,.bool J)]) Ze Zf ?_ (λenv H e=>?_)
 .refine G0 4 Z (Is 24 j Z (λaa j=>?_) (λaa j=>?_))
  .exact Go 9 Z (Cl j [0,1,3])
  .refine Go 3 Z (Is 27 j Z (λab j=>?_) (λab j=>?_))
   .exact Go 6 Z (Cl j [0,1,3])
   .exact Go 6 Z (Cl j [0,1,3])
 refine Gx 1 Z (Ef e (Cn Z h (λac h=>?_) (λac h=>?_)))
 .refine Gc 9 Z ?_;obtain rfl:=Oi h;exact Rx [1] [6,7] Z (Qu Z Z (Qkn.cons (Qm isAgg122 sizeOf122 Z Z Z) (Qkn.cons Qdn.tmp Qkn.nil))) ⟨Z,Z⟩
 refine Gc 6 Z (Cd [] h (k_cu _ _) Z λb ah h=>FE Z (Go 15 Z (Cn Z h (λL h=>?_) (λL h=>?_))))
 .refine Gc 9 Z ?_;obtain rfl:=Oi h;exact Rx [3,1] [6,7] Z (Qu Z Z (Qkn.cons (Qm isAgg122 sizeOf122 Z Z Z) (Qkn.cons Qdn.tmp Qkn.nil))) ⟨Z,Z⟩
 refine Gc 9 Z (Bd h λg a h=>?_);refine Ct g [0,1,0] [3,6] Ze (λg=>[(1,.cells 122 [.osl 2 0 g.length 1,.nilm]),(2,.row 3 1 (List.map (Qf .i64) g))]) Zf ?_ (λenv H e=>?_)
 .refine G0 0 Z (Cn Z a (λM a=>?_) (λM a=>?_))
  .refine Gc 10 Z (Bd a λp ae a=>?_);refine Ct p [0,1,2,3] [2,3,6] (λp=>[(8,.ptr 3 0),(9,I p)]) (λ_=>[(1,.cells 122 [.osl 2 0 b.length 1,.nilm]),(2,.row 3 1 (List.map (Qf .i64) b)),(3,.cells 112 (Distance.c s.1))]) Zf ?_ (λenv H e=>?_)
   .refine G0 1 Z ?_;refine Lp [0,1,3,2] [2,3,6,8] (λw=>[(9,I w)]) (λ_=>[(1,.cells 122 [.osl 2 0 b.length 1,.nilm])]) ae Zf (Lr [0,1,3,2]) λw aj f N=>?_;refine G0 2 Z (Bd f λy i f=>?_);refine Ct y [0,1,2,3] [2,3,6,8,9] (λy=>[(62,.bool y)]) Ze Zf ?_ (λenv H e=>?_)
    .refine G0 0 Z (DSs 10 Z (D 3 Z (Qlt 2 i Z Z Z (λO i=>?_) (λO i=>?_))))
     .refine D 3 Z ?_;obtain⟨af,z,i⟩:=Jy i;refine DS.v (x:=(.ptr 2 (Int.toNat w*1))) (QJ z Z runUnderlying37 sizeOf3) ?_ (hg:=(gT Z));refine DS.v (x:=(I af)) (Ez Z isAgg3 Z (Qq z)) ?_ (hg:=(gT Z));exact D 2 Z (Eh Z (Go 3 Z (Cl i [0,1,2,3])))
     .exact D 7 Z (Eh Z (Go 3 Z (Cl i [0,1,2,3])))
    refine Gx 1 Z (Ef e (Jb Z f (λP f=>?_) (λP f=>?_)))
    .refine Gc 2 Z (Qy f ?_);obtain rfl:=Oj N f;exact Gx 1 Z (QH (Lr [0,1,2,3]))
    exact Gc 9 Z (Qv f (Lr [0,1,2,3]))
   refine Gx 1 Z (Ef e ?_);obtain⟨t,Q,a⟩:=Jy a;refine YY 9 0 [65,66,67,68,69,70,71,72,73] [false,false,false,false,false,false,false,false,true] [[],[],[],[],[],[],[],[],[]] [[],[8]] [[(0,0),(1,1)],[(0,0),(1,1)],[(0,0),(1,1)],[(0,0),(1,1)],[(0,0)],[(0,0)],[(0,0)],[(0,0)],[(0,1)]] [.ptr 1 0,.osl 2 0 b.length 1,I p,I (IntKind.i64.wrap (p+1)),.ptr 3 4,I s.1.Extra,.rsl 1 (List.map (Qf .i64) [s.1.Extra]),I F,.osl 4 0 t.length 1] [[.cells 33 (Course.c u),.cells 122 [.osl 2 0 b.length 1,.nilm],.row 3 1 (List.map (Qf .i64) b),.cells 112 (Distance.c s.1)],[.cells 33 (Course.c u),.cells 122 [.osl 2 0 b.length 1,.nilm],.row 3 1 (List.map (Qf .i64) b),.cells 112 (Distance.c s.1),.row 3 1 (List.map (Qf .i64) t)]] ([.cells 33 (Course.c u),.cells 122 [.osl 2 0 b.length 1,.nilm],.row 3 1 (List.map (Qf .i64) b),.cells 112 (Distance.c s.1),.row 3 1 (List.map (Qf .i64) t)]) draws Z Z Z Z Z Z Z ?_ Z ?_
   .refine Qh0.cons (Qc (v0 Z Z) (Qc (v0 Z Z) (Qe))) (Qh0.cons (Qc (v0 Z Z) (Qc (v0 Z Z) (Qe))) (Qh0.cons (Qc (v0 Z Z) (Qc (v0 Z Z) (Qe))) (Qh0.cons ?_ (Qh0.cons (Qc (v0 Z Z) (Qe)) (Qh0.cons (Qc (v0 Z Z) (Qe)) (Qh0.cons ?_ (Qh0.cons (Qc (v0 Z Z) (Qe)) (Qh0.cons ?_ (Qh0.nil)))))))))
    .refine Qc ?_ (Qc ?_ (Qe))
     .refine Om Z (sD 2 sN) ?_;exact S Z Wp
     .refine Om Z (sD 2 sN) ?_;exact S Z Wp
    .refine Qc ?_ (Qe)
     .refine Om Z (sD 5 sN) ?_;refine vH (YO (xs:=[.tmp 70]) (es:=List.map (Qf .i64) [s.1.Extra]) Q2 Z Z Z Z Z ⟨Z,trivial⟩ Z Z) ?_;exact FE Z Wp
    .refine Qc ?_ (Qe)
     .refine Om1 Z (sD 6 (sD 7 sN)) ?_;refine Qz [] (OpC.fn call91 Z Z Z) (k_bo _ _ _ _ Q) ?_;rintro _ _ ⟨rfl,rfl⟩;exact FE Z Wp
   refine Bd a λak R a=>?_;refine Qz [2,4] (OpC.fn call90 Z Z Z) (QmD Qfj (m:=t) R) ?_;rintro _ _ ⟨rfl,rfl⟩;exact FE Z (Go 3 Z (Cl a [0,1,5]))
  exact Gc 1 Z (Cl a [0,1,3])
 refine Gx 1 Z (Ef e (Gc 2 Z ?_));refine vH Ye ?_;refine FE Z (Go 9 Z (Lm Z (Go 3 Z (Bd h λB ag h=>?_))));refine Ct B [0,1,2] [] (λ_=>[(6,.ptr 0 0)]) (λB=>[(0,.cells 122 [.osl 1 0 g.length 1,.map 2]),(1,.row 3 1 (List.map (Qf .i64) g)),(2,.map (Qi (λx=>A.agg (Ua.c x)) (λx=>A.agg (Leg.c x)) B))]) Zf ?_ (λenv H e=>?_)
 .refine G0 1 Z ?_;refine Lp [1,2,3] [6,79,80] (λq=>[(81,I q.2)]) (λq=>[(0,.cells 122 [.osl 1 0 g.length 1,.map 2]),(2,.map (Qi (λx=>A.agg (Ua.c x)) (λx=>A.agg (Leg.c x)) q.1))]) ag Zf (Lr [1,2,3]) λq al d T=>?_;refine G0 6 Z (Jb Z d (λV d=>?_) (λV d=>?_))
  .refine Gc 2 Z (Qy d ?_);obtain rfl:=Oj T d;exact Gx 1 Z (QH (Lr [0,1,2]))
  refine Gc 6 Z (Bd d λE W d=>Iz W Z (Go 14 Z (Bd d λam X d=>?_)));refine vU (Yc (ev:=(λx=>A.agg (Leg.c x))) (k:=({from_:=E.From,to_:=E.To:Ua})) (v:=E) (l:=q.1) Qpf X Z underlying120) ?_;exact FE Z (Go 7 Z (Qv d (Lr [0,1,2])))
 refine Gx 1 Z (Ef e (Gc 8 Z ?_));obtain rfl:=Oi h;exact Rx [1,2,0] [6,7] Z (Qu Z Z (Qkn.cons (Qm isAgg122 sizeOf122 Z Z Z) (Qkn.cons Qdn.tmp Qkn.nil))) ⟨Z,Z⟩
def F_v(n:Nat)(e:Course)(f:Int)(g:Int):Option ((List Int)×Int):=
  ((F_ch n e f g).bind λh=>(match h with|.c0 b=>(some (b,[]))|.c1 i=>(some (90,[]))|.c2 c=>(some (2,c))|.c3 d=>(some (0,d.1))):Option (Int×(List Int))).bind λa=>(bif (a.1 != 0)then some ([],a.1)else some (a.2,0))
theorem k_v(n:Nat)(f:Course)(g:Int)(j:Int)(r:(List Int)×Int)(h:F_v n f g j=some r):
    Csm prog 24 [.agg (Course.c f),I g,I j] [] (λr=>.tup [.rsl 1 (List.map (Qf .i64) r.1),I r.2]) r:=by
 refine Qb func24 Z Z Z ?_;refine G0 8 Z (Bd h λd b h=>?_);refine Ct d [0] [] (λd=>[(7,I d.1),(8,.ptr 0 0)]) (λd=>[(0,.cells 122 [.rsl 1 (List.map (Qf .i64) d.2),.any])]) Zf ?_ (λenv H l=>?_)
 .refine G0 4 Z (Bd b λq p b=>?_);refine Qz [] (OpC.fn call46 Z Z Z) (k_ch _ _ _ _ _ p) ?_;intro ra rH a;rcases q with t|u|w|x
  .obtain⟨rfl,rfl⟩:=a;refine FE Z (Go 7 Z ?_);cases b;refine QH ?_;refine En (QQ (i:=2) (m:=1) Z) ?_;exact Lr [2]
  .obtain⟨rfl,rfl⟩:=a;refine FE Z (Go 7 Z ?_);cases b;refine QH ?_;refine En (QQ (i:=2) (m:=1) Z) ?_;exact Lr [2]
  .obtain⟨rfl,rfl⟩:=a;refine FE Z (Go 7 Z ?_);cases b;refine QH ?_;refine En (JI [(9,_),(13,_),(14,_)] Z Z (QoK.cons Z (FzA.tup (Ed (FzA.agg (Ed Ep (Ek _))) (Ek _))) (QoK.cons Z (FzA.tup (Ed (FzA.agg (Ed Ep (Ek _))) (Ek _))) (QoK.cons Z (FzA.agg (Ed Ep (Ek _))) QoK.nil))) (Ec (Ec (FzH.cells (Ed Ep (Ek _)) (FzH.cells (Ed Ep (Ek _)) (YP _)))))) ?_;refine En (QQ (i:=3) (m:=1) Z) ?_;exact Lr [3]
  .obtain⟨rfl,rfl⟩:=a;refine FE Z (Go 7 Z ?_);cases b;refine QH ?_;refine En (JI [(9,_),(13,_),(14,_)] Z Z (QoK.cons Z (FzA.tup (Ed (FzA.agg (Ed Ep (Ek _))) (Ek _))) (QoK.cons Z (FzA.tup (Ed (FzA.agg (Ed Ep (Ek _))) (Ek _))) (QoK.cons Z (FzA.agg (Ed Ep (Ek _))) QoK.nil))) (Ec (Ec (Ec (FzH.cells (Ed Ep (Ek _)) (FzH.cells (Ed Ep (Ek _)) (YP _))))))) ?_;refine En (QQ (i:=4) (m:=1) Z) ?_;exact Lr [4]
 refine Gx 1 Z (Ef l (Gc 7 Z (Cn Z h (λe h=>?_) (λe h=>?_))))
 .refine Gc 9 Z ?_;obtain rfl:=Oi h;refine R2 6 7 Z Z ?_;refine En (QpM (s:=6) (k:=1) Z) ?_;exact Lr []
 refine Gc 11 Z ?_;obtain rfl:=Oi h;exact R2 6 7 Z Z (Lr [])
def F_dx(n:Nat)(a:List Penalty):Option Unit:=
  some ()
theorem k_dx(n:Nat)(a:List Penalty)(r:Unit)(h:F_dx n a=some r):
    C prog 77 [.rsl 4 (List.map Penalty.c a)] [] (RQ (λ_=>.fn (.func 164) [] [.ptr 0 0]) (λ_=>[.cells 38 [.rsl 4 (List.map Penalty.c a)]]) r):=by
 refine Qb func77 Z Z Z ?_;refine G0 2 Z ?_;refine vH (OpH.box Z Z Z Z Z) ?_;exact FE Z (Go 10 Z (Rt h 2 [0]))
def F_hr(n:Nat)(b:List Penalty)(a:Int):Option ((List Penalty)×Ctl Int Unit):=
  (bif decide (a<(b.length:Int))then(idx b a).bind λc=>yl c (some ([],.cont (IntKind.i64.wrap (a+1))))else some ([],.done ()))
def F_au(n:Nat)(a:List Penalty):Option ((List Penalty)×Unit):=
  ap (Qb1 (F_hr n a) n 0) λb=>some ([],())
theorem k_au(n:Nat)(g:List Penalty)(p:(List Penalty)×Unit)(h:F_au n g=some p):
    QhU prog 164 [.ptr 0 0] [.cells 38 [.rsl 4 (List.map Penalty.c g)]] (λx=>[.agg (Penalty.c x)]) nxL p.1:=by
 obtain⟨xs,u⟩:=p;refine Qek func164 Z Z Z Z ?_;intro X hE hN;refine Gy0 1 Z (TCy.lf ?_);refine G0 2 Z (Lm Z (Go 2 Z ?_));refine Gyx 1 Z ?_;obtain⟨s,q,i,r,j,rfl⟩:=Qp7 h;rw[Vp];refine Qjf q (i++[]) [0] [0] Ze Ze Zf ?_ (λenv H t=>?_)
 .refine Gy0 1 Z ?_;refine Qou [0] [0,5,6] (λk=>[(7,I k)]) Ze r Zf (Lr [0]) λk w y z a b=>?_;refine Gy0 1 Z (TCy.lf ?_);refine G0 3 Z ?_;refine Gyx 2 Z (TCy.lf ?_);refine G0 0 Z (Jb Z a (λd a=>?_) (λd a=>?_))
  .refine Gc 1 Z ?_;refine Gyx 1 Z ?_;obtain⟨rfl,rfl,rfl⟩:=Oy b a;exact Qnu (Gyx 1 Z (Qp4 (Lr [0])))
  refine Gc 1 Z ?_;refine Gyx 4 Z (TCy.lf ?_);refine G0 1 Z (Bd a λl f a=>Iz f Z (Go 4 Z ?_));refine Gyx 5 Z ?_;obtain⟨B,m,rfl⟩:=QmG a;refine Qkj (x:=l) (e:=λx=>.agg (Penalty.c x)) hE hN Z Z Z Z ?_ ?_
  .refine Gyo 3 Z (TCy.lf ?_);refine G0 2 Z ?_;refine Gyx 2 Z (TCy.lf ?_);refine G0 4 Z ?_;exact Gyx 0 Z (QcH m (Lr [0]))
  .exact Gyo 7 Z (QjO (Gyx 1 Z (Qoi (⟨.inr Z,.inr ⟨_,Z⟩⟩))))
 cases j;exact⟨.inl Z,.inl Z⟩
def F_fr(n:Nat)(b:List Penalty)(c:Penalty):Option (Ctl (List Penalty) (List Penalty)):=
  (app b [c]).bind λa=>some (.cont a)
def F_dv(n:Nat)(b:List Penalty):Option (List Penalty):=
  (F_au n b).bind λy1=>(QcZ (F_fr n) y1.1 []:Option (Ctl (List Penalty) (List Penalty))).bind λc=>match c with|.cont a=>(some a)|.done a=>some a
theorem k_dv(n:Nat)(f:List Penalty)(r:List Penalty)(h:F_dv n f=some r):
    C prog 223 [.nils,.fn (.func 164) [] [.ptr 0 0]] [.cells 38 [.rsl 4 (List.map Penalty.c f)]] (RQ (λr=>.osl 1 0 r.length 4) (λr=>[.dead,.row 50 4 (List.map Penalty.c r)]) r):=by
 refine Qb func223 Z Z Z ?_;refine G0 13 Z (Bd h λy1 hy1 h=>Bd h λu g h=>?_);refine Qg6 [0] (λb=>[.dead,.cells 38 [.osl 2 0 b.length 4],.row 50 4 (List.map Penalty.c b)]) g (k_au _ _ _ hy1) Zf call164 Z Z Z Z (by decide) Z ?_ ?_ ?_
 .refine En (YT (i:=1) (m:=0) (t:=50) (k:=4) Z Z Z) ?_;exact Lr [0,1,2]
 .intro b j p a l;refine G0 4 Z (And.intro Z ?_);refine G0 4 Z ?_;refine vH (El (xs:=[.tmp 9]) (es:=List.map Penalty.c [j]) Qde Z Z Z Z Z ⟨Z,trivial⟩ Z Z) ?_;refine FE Z (Bd a λq d a=>?_);refine vH (QM (e:=Penalty.c) d Qde runUnderlying38 (Y6 (i:=4))) ?_;exact FE Z (Go 3 Z (QkL a (Lr [0,1,5])))
 rintro s rfl;exact Gx 9 Z (Rt h 4 [0,2])
def F_ep(n:Nat)(a:List Penalty):Option (List Penalty):=
  (F_dv n a).bind λb=>some b
theorem k_ep(n:Nat)(a:List Penalty)(r:List Penalty)(h:F_ep n a=some r):
    C prog 162 [.fn (.func 164) [] [.ptr 0 0]] [.cells 38 [.rsl 4 (List.map Penalty.c a)]] (RQ (λr=>.osl 1 0 r.length 4) (λr=>[.dead,.row 50 4 (List.map Penalty.c r)]) r):=by
 refine Qb func162 Z Z Z ?_;exact G0 8 Z (Cd [0] h (k_dv _ _) Z λd b h=>FE Z (Go 4 Z (Rt h 2 [0,1])))
def F_at(n:Nat)(a:Penalty):Option Unit:=
  some ()
theorem k_at(n:Nat)(a:Penalty)(r:Unit)(h:F_at n a=some r):
    Csm prog 40 [.agg (Penalty.c a)] [] (λ_=>I a.Position) r:=by
 refine Qb func40 Z Z Z ?_;exact G0 14 Z (Rt h 2 [])
def F_cw(n:Nat)(a:Penalty)(b:Penalty):Option Int:=
  (F_at n a).bind λd=>(F_at n b).bind λe=>(F_o n a.Position b.Position).bind λc=>some c
theorem k_cw(n:Nat)(a:Penalty)(b:Penalty)(r:Int)(h:F_cw n a b=some r):
    Csm prog 78 [.agg (Penalty.c a),.agg (Penalty.c b),.ptr 0 0] [.cells 114 [.fn (.func 40) [] []]] (λr=>I r) r:=by
 refine Qb func78 Z Z Z ?_;refine G0 8 Z (DSs 5 Z (D 2 Z ?_));exact Dz [] h (k_at _ _) Z λg d h=>D 2 Z (Eh Z (Cz [] h (k_at _ _) Z λi e h=>Cz [] h (k_o _ _ _) Z λj f h=>Go 4 Z (Rt h 5 [0])))
def F_gp(n:Nat)(j:Int)(a:(List Penalty)×Int):Option (Ctl ((List Penalty)×Int) (List Penalty)):=
  ((bif decide (j<a.2)then(idx a.1 a.2).bind λc=>(idx a.1 (IntKind.i64.wrap (a.2-1))).bind λd=>(F_cw n c d).bind λe=>some (decide (e<0))else some false):Option Bool).bind λf=>(bif f then(idx a.1 (IntKind.i64.wrap (a.2-1))).bind λg=>(idx a.1 a.2).bind λh=>(idx a.1 a.2).bind λk=>(QbN a.1 a.2 g).bind λb=>(idx b (IntKind.i64.wrap (a.2-1))).bind λl=>(QbN b (IntKind.i64.wrap (a.2-1)) h).bind λi=>some (.cont (i,IntKind.i64.wrap (a.2-1)))else some (.done a.1))
def F_ds(n:Nat)(c:Int)(d:Int)(a:(List Penalty)×Int):Option (Ctl ((List Penalty)×Int) (List Penalty)):=
  (bif decide (a.2<d)then(iter (F_gp n c) n (a.1,a.2):Option (List Penalty)).bind λb=>some (.cont (b,IntKind.i64.wrap (a.2+1)))else some (.done a.1))
def F_ea(n:Nat)(c:List Penalty)(b:Int)(d:Int):Option (List Penalty):=
  (iter (F_ds n b d) n (c,IntKind.i64.wrap (b+1)):Option (List Penalty)).bind λa=>some a
theorem k_ea(n:Nat)(Q:List Penalty)(X:Int)(Y:Int)(r:List Penalty)(h:F_ea n Q X Y=some r):
    C prog 271 [.osl 0 0 Q.length 4,I X,I Y,.fn (.func 78) [] [.ptr 1 0]] [.row 50 4 (List.map Penalty.c Q),.cells 114 [.fn (.func 40) [] []]] (RQ (λ_=>.tup []) (λr=>[.row 50 4 (List.map Penalty.c r),.cells 114 [.fn (.func 40) [] []]]) r):=by
 refine Qb func271 Z Z Z ?_;refine G0 7 Z (Bd h λq R h=>?_);refine Ct q [0,1] [] Ze (λq=>[(0,.row 50 4 (List.map Penalty.c q))]) Zf ?_ (λenv H l=>?_)
 .refine G0 1 Z ?_;refine Lp [0,1] [1,2,3] (λm=>[(0,.osl 0 0 m.1.length 4),(8,I m.2)]) (λm=>[(0,.row 50 4 (List.map Penalty.c m.1))]) R Zf (Lr [0,1]) λm ab g L=>?_;refine G0 8 Z (Jb Z g (λM g=>?_) (λM g=>?_))
  .refine Gc 2 Z (Qy g ?_);obtain rfl:=Oj L g;exact Gx 1 Z (QH (Lr [0,1]))
  refine Gc 10 Z (Bd g λp T g=>?_);refine Ct p [0,1] [1,2,3,8] (λp=>[(0,.osl 0 0 p.length 4)]) (λp=>[(0,.row 50 4 (List.map Penalty.c p))]) Zf ?_ (λenv H l=>?_)
  .refine G0 1 Z ?_;refine Lp [0,1] [1,2,3,8] (λa=>[(0,.osl 0 0 a.1.length 4),(9,I a.2)]) (λa=>[(0,.row 50 4 (List.map Penalty.c a.1))]) T Zf (Lr [0,1]) λa ac b N=>?_;refine G0 2 Z (Bd b λt d b=>?_);refine Ct t [0,1] [0,1,2,3,8,9] (λt=>[(34,.bool t)]) Ze Zf ?_ (λenv H l=>?_)
   .refine G0 0 Z (DSs 14 Z (D 4 Z (Qlt 3 d Z Z Z (λO d=>?_) (λO d=>?_))))
    .refine D 3 Z ?_;obtain⟨V,u,d⟩:=Jy d;refine DS.v (x:=(.ptr 0 (Int.toNat a.2*4))) (QJ u Z runUnderlying38 sizeOf50) ?_ (hg:=(gT Z));refine DS.v (x:=(.agg (Penalty.c V))) (Qk Z isAgg50 sizeOf50 Z (Qq u) Z Z) ?_ (hg:=(gT Z));refine D 3 Z ?_;obtain⟨W,w,d⟩:=Jy d;refine DS.v (x:=(.ptr 0 (Int.toNat (IntKind.i64.wrap (a.2-1))*4))) (QJ w Z runUnderlying38 sizeOf50) ?_ (hg:=(gT Z));refine DS.v (x:=(.agg (Penalty.c W))) (Qk Z isAgg50 sizeOf50 Z (Qq w) Z Z) ?_ (hg:=(gT Z));exact Eh Z (Cz [1] d (k_cw _ _ _) Z λae aa d=>Go 3 Z (Cl d [0,1]))
    .exact D 10 Z (Eh Z (Go 4 Z (Cl d [0,1])))
   refine Gx 1 Z (Ef l (Jb Z b (λP b=>?_) (λP b=>?_)))
   .refine Gc 2 Z (Qy b ?_);obtain rfl:=Oj N b;exact Gx 1 Z (QH (Lr [0,1]))
   refine Gc 4 Z ?_;obtain⟨F,y,b⟩:=Jy b;obtain⟨G,z,b⟩:=Jy b;obtain⟨af,B,b⟩:=Jy b;obtain⟨J,i,b⟩:=Jy b;refine YY 16 0 [37,38,39,40,41,42,43,44,45,46,47,48,49,50,51,1000015] [false,false,false,false,false,false,false,false,false,false,false,false,false,false,false,true] [[],[],[],[],[],[],[],[],[],[],[],[],[],[],[],[]] [[],[15]] [[(0,0)],[(0,0)],[(0,0),(1,1)],[(0,0),(1,1)],[(0,0),(1,1)],[(0,0)],[(0,0)],[(0,0)],[(0,0)],[(0,0)],[(0,0)],[(0,0)],[(0,0)],[(0,0)],[(0,0)],[(0,1)]] [.osl 0 0 a.1.length 4,I a.2,.osl 0 0 a.1.length 4,I a.2,I (IntKind.i64.wrap (a.2-1)),.osl 0 0 a.1.length 4,I a.2,I (IntKind.i64.wrap (a.2-1)),.ptr 0 (Int.toNat (IntKind.i64.wrap (a.2-1))*4),.agg (Penalty.c F),.osl 0 0 a.1.length 4,I a.2,.ptr 0 (Int.toNat a.2*4),.agg (Penalty.c G),.ptr 0 (Int.toNat a.2*4),.any] [[.row 50 4 (List.map Penalty.c a.1),.cells 114 [.fn (.func 40) [] []]],[.row 50 4 (List.map Penalty.c J),.cells 114 [.fn (.func 40) [] []]]] ([.row 50 4 (List.map Penalty.c J),.cells 114 [.fn (.func 40) [] []]]) draws Z Z Z Z Z Z Z ?_ Z ?_
   .refine Qh0.cons (Qc (v0 Z Z) (Qe)) (Qh0.cons (Qc (v0 Z Z) (Qe)) (Qh0.cons (Qc (v0 Z Z) (Qc (v0 Z Z) (Qe))) (Qh0.cons (Qc (v0 Z Z) (Qc (v0 Z Z) (Qe))) (Qh0.cons ?_ (Qh0.cons (Qc (v0 Z Z) (Qe)) (Qh0.cons (Qc (v0 Z Z) (Qe)) (Qh0.cons ?_ (Qh0.cons ?_ (Qh0.cons ?_ (Qh0.cons (Qc (v0 Z Z) (Qe)) (Qh0.cons (Qc (v0 Z Z) (Qe)) (Qh0.cons ?_ (Qh0.cons ?_ (Qh0.cons ?_ (Qh0.cons ?_ (Qh0.nil))))))))))))))))
    .refine Qc ?_ (Qc ?_ (Qe))
     .refine Om Z (sD 3 sN) ?_;exact S Z Wp
     .refine Om Z (sD 3 sN) ?_;exact S Z Wp
    .refine Qc ?_ (Qe)
     .refine Om Z (sD 6 sN) ?_;exact S Z Wp
    .refine Qc ?_ (Qe)
     .refine Om Z (sD 5 (sD 7 sN)) ?_;refine vX (.ptr 0 (Int.toNat (IntKind.i64.wrap (a.2-1))*4)) (QJ y Z runUnderlying38 sizeOf50) ?_;exact Wp
    .refine Qc ?_ (Qe)
     .refine Om Z (sD 8 sN) ?_;refine vX (.agg (Penalty.c F)) (Qk Z isAgg50 sizeOf50 Z (Qq y) Z Z) ?_;exact Wp
    .refine Qc ?_ (Qe)
     .refine Om Z (sD 10 (sD 11 sN)) ?_;refine vX (.ptr 0 (Int.toNat a.2*4)) (QJ z Z runUnderlying38 sizeOf50) ?_;exact Wp
    .refine Qc ?_ (Qe)
     .refine Om Z (sD 12 sN) ?_;refine vX (.agg (Penalty.c G)) (Qk Z isAgg50 sizeOf50 Z (Qq z) Z Z) ?_;exact Wp
    .refine Qc ?_ (Qe)
     .refine Om Z (sD 0 (sD 1 sN)) ?_;refine vX (.ptr 0 (Int.toNat a.2*4)) (QJ B Z runUnderlying38 sizeOf50) ?_;exact Wp
    .refine Qc ?_ (Qe)
     .refine Om2 Z (sD 9 (sD 14 sN)) ?_;refine vU (JH (e:=Penalty.c) (k:=4) (f:=0) B i sizeOf50 Z Z) ?_;exact FE Z Wp
   refine Et (Qo (s:=0) Z (congrArg (λn=>A.osl 0 0 n 4) (YB i))) ?_;refine Et (Qo (s:=37) Z (congrArg (λn=>A.osl 0 0 n 4) (YB i))) ?_;refine Et (Qo (s:=39) Z (congrArg (λn=>A.osl 0 0 n 4) (YB i))) ?_;refine Et (Qo (s:=42) Z (congrArg (λn=>A.osl 0 0 n 4) (YB i))) ?_;refine Et (Qo (s:=47) Z (congrArg (λn=>A.osl 0 0 n 4) (YB i))) ?_;refine Bd b λag E b=>?_;refine vX (.ptr 0 (Int.toNat (IntKind.i64.wrap (a.2-1))*4)) (QJ E Z runUnderlying38 sizeOf50) ?_;refine Bd b λah j b=>?_;refine vU (JH (e:=Penalty.c) (k:=4) (f:=0) E j sizeOf50 Z Z) ?_;refine FE Z ?_;refine Et (Qo (s:=0) Z (congrArg (λn=>A.osl 0 0 n 4) (YB j))) ?_;refine Et (Qo (s:=37) Z (congrArg (λn=>A.osl 0 0 n 4) (YB j))) ?_;refine Et (Qo (s:=39) Z (congrArg (λn=>A.osl 0 0 n 4) (YB j))) ?_;refine Et (Qo (s:=42) Z (congrArg (λn=>A.osl 0 0 n 4) (YB j))) ?_;refine Et (Qo (s:=47) Z (congrArg (λn=>A.osl 0 0 n 4) (YB j))) ?_;exact Go 8 Z (Qv b (Lr [0,1]))
  exact Gx 2 Z (Ef l (Gc 5 Z (Qv g (Lr [0,1]))))
 obtain rfl:=Oi h;have l:=l;refine⟨[],_,_,?_,Qcy.nil Z,Z,Z⟩;refine En l ?_;exact Lr [0,1]
def F_fg(n:Nat)(a:List Penalty)(b:Int):Option (List Penalty):=
  (bif decide (b<20)then(Qc6 a (F_ea n a 0 b)).bind λc=>some c else none)
theorem k_fg(n:Nat)(b:List Penalty)(d:Int)(r:List Penalty)(h:F_fg n b d=some r):
    C prog 224 [.osl 0 0 b.length 4,I d,.fn (.func 78) [] [.ptr 1 0]] [.row 50 4 (List.map Penalty.c b),.cells 114 [.fn (.func 40) [] []]] (RQ (λ_=>.tup []) (λr=>[.row 50 4 (List.map Penalty.c r),.cells 114 [.fn (.func 40) [] []]]) r):=by
 obtain⟨hk1,hk2,h⟩:=gd20 h;refine Qb func224 Z Z Z ?_;refine G0 23 Z (CnF hk1 Z (Gc 11 Z (Bd h λe a h=>?_)));refine Qz [0,1] (OpC.fn call271 Z Z Z) (k_ea _ _ _ _ _ (Qfl a)) ?_;rintro _ _ ⟨rfl,rfl⟩;refine FE Z ?_;refine Et (Qo (s:=0) Z (congrArg (λn=>A.osl 0 0 n 4) (Jw a))) ?_;refine Et (Qo (s:=23) Z (congrArg (λn=>A.osl 0 0 n 4) (Jw a))) ?_;refine Go 12 Z (CnF hk2 Z (Gc 4 Z ?_));obtain rfl:=Oi h;exact Rx [0,1] [] Z (Qcy.nil Z) ⟨Z,Z⟩
def F_ej(n:Nat)(a:List Penalty):Option (List Penalty):=
  (Qc6 a (F_fg n a (a.length:Int))).bind λb=>some b
theorem k_ej(n:Nat)(b:List Penalty)(r:List Penalty)(h:F_ej n b=some r):
    C prog 163 [.osl 0 0 b.length 4,.fn (.func 78) [] [.ptr 1 0]] [.row 50 4 (List.map Penalty.c b),.cells 114 [.fn (.func 40) [] []]] (RQ (λ_=>.tup []) (λr=>[.row 50 4 (List.map Penalty.c r),.cells 114 [.fn (.func 40) [] []]]) r):=by
 refine Qb func163 Z Z Z ?_;refine G0 5 Z (Bd h λd a h=>?_);refine Qz [0,1] (OpC.fn call224 Z Z Z) (k_fg _ _ _ _ (Qfl a)) ?_;rintro _ _ ⟨rfl,rfl⟩;refine FE Z ?_;refine Et (Qo (s:=0) Z (congrArg (λn=>A.osl 0 0 n 4) (Jw a))) ?_;refine Et (Qo (s:=4) Z (congrArg (λn=>A.osl 0 0 n 4) (Jw a))) ?_;refine Et (Qo (s:=5) Z (congrArg (λn=>A.osl 0 0 n 4) (Jw a))) ?_;refine Go 1 Z ?_;obtain rfl:=Oi h;exact Rx [0,1] [] Z (Qcy.nil Z) ⟨Z,Z⟩
def F_el(n:Nat)(b:List Penalty):Option (List Penalty):=
  (F_ep n b).bind λa=>(Qc6 a (F_ej n a)).bind λc=>some c
theorem k_el(n:Nat)(b:List Penalty)(r:List Penalty)(h:F_el n b=some r):
    C prog 76 [.fn (.func 164) [] [.ptr 0 0],.fn (.func 78) [] [.ptr 1 0]] [.cells 38 [.rsl 4 (List.map Penalty.c b)],.cells 114 [.fn (.func 40) [] []]] (RQ (λr=>.osl 2 0 r.length 4) (λr=>[.dead,.cells 114 [.fn (.func 40) [] []],.row 50 4 (List.map Penalty.c r)]) r):=by
 refine Qb func76 Z Z Z ?_;refine G0 8 Z (Cd [0] h (k_ep _ _) Z λe d h=>FE Z (Go 7 Z (Bd h λf a h=>?_)));refine Qz [2,1] (OpC.fn call163 Z Z Z) (k_ej _ _ _ (Qfl a)) ?_;rintro _ _ ⟨rfl,rfl⟩;refine FE Z ?_;refine Et (Qo (s:=5) Z (congrArg (λn=>A.osl 2 0 n 4) (Jw a))) ?_;refine Et (Qo (s:=7) Z (congrArg (λn=>A.osl 2 0 n 4) (Jw a))) ?_;refine Et (Qo (s:=8) Z (congrArg (λn=>A.osl 2 0 n 4) (Jw a))) ?_;exact Go 9 Z (Rt h 4 [0,1,2])
def F_cp(n:Nat)(a:List Penalty):Option (List Penalty):=
  (F_dx n a).bind λc=>(F_el n a).bind λb=>some b
theorem k_cp(n:Nat)(a:List Penalty)(r:List Penalty)(h:F_cp n a=some r):
    C prog 39 [.rsl 4 (List.map Penalty.c a),.fn (.func 40) [] []] [] (RQ (λr=>.osl 0 0 r.length 4) (λr=>[.row 50 4 (List.map Penalty.c r)]) r):=by
 refine Qb func39 Z Z Z ?_;exact G0 9 Z (Cd [] h (k_dx _ _) Z λe b h=>FE Z (Go 1 Z (Cd [1,0] h (k_el _ _) Z λf d h=>FE Z (Go 4 Z (Rt h 4 [2])))))
def F_hi(n:Nat)(d:List Penalty)(a:(List Penalty)×Int×Int):Option (Ctl ((List Penalty)×Int×Int) (List Penalty)):=
  (bif decide (a.2.2<(d.length:Int))then(idx a.1 a.2.2).bind λb=>(idx a.1 a.2.2).bind λe=>(QbN a.1 a.2.2 ({e with Laps:=(if a.2.1<b.Laps then a.2.1 else b.Laps):Penalty})).bind λc=>(idx c a.2.2).bind λf=>some (.cont (c,IntKind.i64.wrap (a.2.1-f.Laps),IntKind.i64.wrap (a.2.2+1)))else some (.done a.1))
def F_r(n:Nat)(a:Course)(d:List Fact)(e:Int):Option (List Penalty):=
  (F_ac n a d).bind λc=>(bif (c.2 != 0)then some []else(F_cn n c.1 e).bind λf=>(bif decide (f<0)then some []else(idx c.1 f).bind λg=>(idx a.Distances g.Distance).bind λk=>((bif decide (0<=k.Extra)then(F_v n a g.Distance 0).bind λh=>some (IntKind.i64.wrap (256-(h.1.length:Int)))else some 0):Option Int).bind λl=>(F_u n a d e).bind λi=>(F_cp n i.2).bind λb=>(iter (F_hi n b) n (b,l,0):Option (List Penalty)).bind λj=>some j))
theorem k_r(n:Nat)(B:Course)(E:List Fact)(F:Int)(r:List Penalty)(h:F_r n B E F=some r):
    C prog 17 [.agg (Course.c B),.rsl 57 (List.map Fact.c E),I F] [] (RQ (λr=>.osl 0 0 r.length 4) (λr=>[.row 50 4 (List.map Penalty.c r)]) r):=by
 refine Qb func17 Z Z Z ?_;refine G0 11 Z (Cd [] h (k_ac _ _ _) Z λr1 V h=>FE Z (Go 14 Z (Cn Z h (λG h=>?_) (λG h=>?_))))
 .refine Gc 7 Z ?_;obtain rfl:=Oi h;refine R1 6 Z ?_;refine En (Er (s:=6) (k:=4) (t:=50) (XX Z) Z) ?_;exact Lr [3]
 refine Gc 6 Z (Cz [2,1] h (k_cn _ _ _) Z λO W h=>Go 10 Z (Cn Z h (λJ h=>?_) (λJ h=>?_)))
 .refine Gc 7 Z ?_;obtain rfl:=Oi h;refine R1 6 Z ?_;refine En (Er (s:=6) (k:=4) (t:=50) (XX Z) Z) ?_;exact Lr [3]
 refine Gc 6 Z (Bd h λP u h=>?_);refine vX (.ptr 2 (Int.toNat O*8)) (QJ u Z runUnderlying51 sizeOf56) ?_;refine Fp Qk7 Z ?_;refine vX (I P.Distance) (Ez Z isAgg3 Z (Qcl (f:=1) u)) ?_;refine Go 14 Z (Bd h λx6 L h=>Iz L Z (Go 5 Z (Bd h λw d h=>?_)));refine Ct w [0,1] [1,3,5] (λw=>[(11,I w)]) Ze Zf ?_ (λenv H j=>?_)
 .refine G0 0 Z (Cn Z d (λx d=>?_) (λx d=>?_))
  .exact Gc 4 Z (Cd [] d (k_v _ _ _ _) Z λX Q d=>FE Z (Go 9 Z (Lm Z (Go 3 Z (Cl d [0,1])))))
  exact Gc 1 Z (Cl d [0,1])
 refine Gx 1 Z (Ef j (Gc 5 Z (Cd [] h (k_u _ _ _ _) Z λY R h=>FE Z (Go 9 Z ?_))));refine Et (JI [(6,_),(50,_),(54,_),(56,_),(57,_)] Z Z (QoK.cons Z Ep (QoK.cons Z (FzA.tup (Ed (Ee _) (Ed Ep (Ek _)))) (QoK.cons Z (FzA.tup (Ed (Ee _) (Ed Ep (Ek _)))) (QoK.cons Z Ep (QoK.cons Z Ep QoK.nil))))) (Ec (Ec (Ec (Ec (Ec (FzH.cells (Ed Ep (Ek _)) (YP _)))))))) ?_;refine Cd [] h (k_cp _ _) Z λaa T h=>FE Z (Go 11 Z (Bd h λi M h=>?_));refine Ct i [0] [] (λi=>[(6,.osl 0 0 i.length 4)]) (λi=>[(0,.row 50 4 (List.map Penalty.c i))]) Zf ?_ (λenv H j=>?_)
 .refine G0 1 Z ?_;refine Lp [6] [60] (λb=>[(6,.osl 0 0 b.1.length 4),(11,I b.2.1),(59,.osl 0 0 b.1.length 4),(61,I b.2.2)]) (λb=>[(0,.row 50 4 (List.map Penalty.c b.1))]) M Zf (Lr [6]) λb ab a y=>?_;refine G0 6 Z (Jb Z a (λz a=>?_) (λz a=>?_))
  .refine Gc 2 Z (Qy a ?_);obtain rfl:=Oj y a;exact Gx 1 Z (QH (Lr [0]))
  refine Gc 7 Z (Bd a λl m a=>?_);refine vX (.ptr 0 (Int.toNat b.2.2*4)) (QJ m Z runUnderlying38 sizeOf50) ?_;refine vX (.agg (Penalty.c l)) (Qk Z isAgg50 sizeOf50 Z (Qq m) Z Z) ?_;refine Go 12 Z ?_;refine vX (I (if b.2.1<l.Laps then b.2.1 else l.Laps)) (OpV.min Z Z Z Z) ?_;refine Bd a λac p a=>?_;refine vX (.ptr 0 (Int.toNat b.2.2*4)) (QJ p Z runUnderlying38 sizeOf50) ?_;refine Fp QhJ Z (Bd a λae g a=>?_);refine vU (JH (e:=Penalty.c) (k:=4) (f:=2) p g sizeOf3 Z Z) ?_;refine FE Z ?_;refine Et (Qo (s:=6) Z (congrArg (λn=>A.osl 0 0 n 4) (YB g))) ?_;refine Et (Qo (s:=59) Z (congrArg (λn=>A.osl 0 0 n 4) (YB g))) ?_;refine Et (Qo (s:=66) Z (congrArg (λn=>A.osl 0 0 n 4) (YB g))) ?_;refine Go 6 Z (Bd a λN q a=>?_);refine vX (.ptr 0 (Int.toNat b.2.2*4)) (QJ q Z runUnderlying38 sizeOf50) ?_;refine Fp QhJ Z ?_;refine vX (I N.Laps) (Ez Z isAgg3 Z (Qcl (f:=2) q)) ?_;exact Go 9 Z (Qv a (Lr [0]))
 exact Gx 1 Z (Ef j (Gc 7 Z (Rt h 6 [0])))
def F_hu(n:Nat)(d:List Penalty)(e:Int)(a:Int×Int×Bool×Int):Option (Ctl (Int×Int×Bool×Int) (Int×Int×Bool)):=
  (bif decide (a.2.2.2<(d.length:Int))then(idx d a.2.2.2).bind λb=>((bif decide (b.Position<=e)then(bif a.2.2.1 then some (IntKind.i64.wrap (a.1+b.Time),IntKind.i64.wrap (a.2.1+b.Laps),true)else some (IntKind.i64.wrap (a.1+b.Time),IntKind.i64.wrap (a.2.1+b.Laps),b.Out))else some (a.1,a.2.1,a.2.2.1)):Option (Int×Int×Bool)).bind λc=>some (.cont (c.1,c.2.1,c.2.2,IntKind.i64.wrap (a.2.2.2+1)))else some (.done (a.1,a.2.1,a.2.2.1)))
def F_al(n:Nat)(b:List Penalty)(c:Int):Option (Int×Int×Bool):=
  (iter (F_hu n b c) n (0,0,false,0):Option (Int×Int×Bool)).bind λa=>some (a.1,a.2.1,a.2.2)
theorem k_al(n:Nat)(q:List Penalty)(s:Int)(r:Int×Int×Bool)(h:F_al n q s=some r):
    Csm prog 21 [.rsl 4 (List.map Penalty.c q),I s] [] (λr=>.tup [I r.1,I r.2.1,.bool r.2.2]) r:=by
 refine Qb func21 Z Z Z ?_;refine G0 11 Z (Lm Z (Go 3 Z (Bd h λg t h=>?_)));refine Ct g [] [] (λg=>[(4,I g.1),(5,I g.2.1),(6,.bool g.2.2)]) Ze Zf ?_ (λenv H j=>?_)
 .refine G0 1 Z ?_;refine Lp [] [1,9,10] (λa=>[(4,I a.1),(5,I a.2.1),(6,.bool a.2.2.1),(11,I a.2.2.2)]) Ze t Zf (Lr []) λa u d k=>?_;refine G0 6 Z (Jb Z d (λl d=>?_) (λl d=>?_))
  .refine Gc 2 Z (Qy d ?_);obtain rfl:=Oj k d;exact Gx 1 Z (QH (Lr []))
  refine Gc 6 Z (Bd d λb m d=>Iz m Z (Go 13 Z (Bd d λi f d=>?_)));refine Ct i [] [1,9,10,11] (λi=>[(4,I i.1),(5,I i.2.1),(6,.bool i.2.2)]) Ze Zf ?_ (λenv H j=>?_)
  .refine G0 0 Z (Cn Z f (λp f=>?_) (λp f=>?_))
   .refine If f (λe f=>?_) (λe f=>?_)
    .refine TC.draw0 15 [19,20,21,22,23,24,25,26,27,28,29,30,31,4,5] [I a.1,.ptr 0 1,I b.Time,I (IntKind.i64.wrap (a.1+b.Time)),I a.2.1,.ptr 0 2,I b.Laps,I (IntKind.i64.wrap (a.2.1+b.Laps)),.bool a.2.2.1,.bool a.2.2.1,.tup [],.tup [],.bool true,I (IntKind.i64.wrap (a.1+b.Time)),I (IntKind.i64.wrap (a.2.1+b.Laps))] draws Z Z Z ?_ ?_
     .refine Oq.c ?_ (ov (ov (Oq.c ?_ (Oq.c ?_ (ov (ov (Oq.c ?_ (ov (ov (Oq.c ?_ (Oq.c ?_ (Oq.c ?_ (ov (ov (Oq.n)))))))))))))))
      .refine Om Z (sP 13 sN) ?_;exact S Z Wp
      .refine Om Z (sD 0 (sD 2 sN)) ?_;exact S Z Wp
      .refine Om Z (sP 14 sN) ?_;exact S Z Wp
      .refine Om Z (sD 4 (sD 6 sN)) ?_;exact S Z Wp
      .refine Om Z (sO 8 (sD 9 sN)) ?_;exact K (gF e) Z Wp
      .refine Om Z (sD 9 (sD 10 sN)) ?_;exact K (gF e) Z Wp
      .refine Om Z (sD 9 (sD 11 sN)) ?_;exact Pk e Z Wp
     exact Go 2 Z (Cl f [])
    .refine TC.draw0 15 [19,20,21,22,23,24,25,26,27,28,29,30,31,4,5] [I a.1,.ptr 0 1,I b.Time,I (IntKind.i64.wrap (a.1+b.Time)),I a.2.1,.ptr 0 2,I b.Laps,I (IntKind.i64.wrap (a.2.1+b.Laps)),.bool a.2.2.1,.bool a.2.2.1,.ptr 0 3,.bool b.Out,.bool b.Out,I (IntKind.i64.wrap (a.1+b.Time)),I (IntKind.i64.wrap (a.2.1+b.Laps))] draws Z Z Z ?_ ?_
     .refine Oq.c ?_ (ov (ov (Oq.c ?_ (Oq.c ?_ (ov (ov (Oq.c ?_ (ov (ov (Oq.c ?_ (Oq.c ?_ (Oq.c ?_ (ov (ov (Oq.n)))))))))))))))
      .refine Om Z (sP 13 sN) ?_;exact S Z Wp
      .refine Om Z (sD 0 (sD 2 sN)) ?_;exact S Z Wp
      .refine Om Z (sP 14 sN) ?_;exact S Z Wp
      .refine Om Z (sD 4 (sD 6 sN)) ?_;exact S Z Wp
      .refine Om Z (sO 8 (sD 9 sN)) ?_;exact Fpg (gT e) Qps Z Wp
      .refine Om Z (sD 9 (sD 10 sN)) ?_;exact Ldg (gT e) isAgg4 Z Wp
      .refine Om Z (sD 9 (sD 11 sN)) ?_;exact Pk e Z Wp
     exact Go 2 Z (Cl f [])
   exact Gc 1 Z (Cl f [])
  exact Gx 2 Z (Ef j (Gc 4 Z (Qv d (Lr []))))
 refine Gx 1 Z (Ef j (Gc 11 Z ?_));obtain rfl:=Oi h;exact Rx [] [4,5,6] Z (Qji Z Z Z Z) ⟨Z,Z⟩
def F_hp(n:Nat)(b:List Penalty)(a:Int×Int):Option (Ctl (Int×Int) Int):=
  (bif decide (a.2<(b.length:Int))then(idx b a.2).bind λc=>some (.cont (IntKind.i64.wrap (a.1+c.Laps),IntKind.i64.wrap (a.2+1)))else some (.done a.1))
def F_ai(n:Nat)(a:Course)(b:List Fact)(c:Int):Option Int:=
  (F_r n a b c).bind λd=>(iter (F_hp n d) n (0,0):Option Int).bind λe=>some e
theorem k_ai(n:Nat)(g:Course)(i:List Fact)(j:Int)(r:Int)(h:F_ai n g i j=some r):
    Csm prog 19 [.agg (Course.c g),.rsl 57 (List.map Fact.c i),I j] [] (λr=>I r) r:=by
 refine Qb func19 Z Z Z ?_;refine G0 12 Z (Cd [] h (k_r _ _ _ _) Z λt q h=>FE Z (Go 4 Z (Bd h λe p h=>?_)));refine Ct e [] [] (λe=>[(6,I e)]) Ze Zf ?_ (λenv H k=>?_)
 .refine G0 1 Z ?_;refine Lp [1] [12,13] (λb=>[(6,I b.1),(14,I b.2)]) Ze p Zf (Lr [1]) λb s a l=>?_;refine G0 6 Z (Jb Z a (λf a=>?_) (λf a=>?_))
  .refine Gc 2 Z (Qy a ?_);obtain rfl:=Oj l a;exact Gx 1 Z (QH (Lr []))
  refine Gc 6 Z (Bd a λm d a=>?_);refine vX (.ptr 0 (Int.toNat b.2*4)) (QJ d Z runUnderlying38 sizeOf50) ?_;refine vX (.agg (Penalty.c m)) (Qk Z isAgg50 sizeOf50 Z (Qq d) Z Z) ?_;exact Go 17 Z (Qv a (Lr [0]))
 exact Gx 1 Z (Ef k (Gc 7 Z (Rt h 6 [])))
def F_iv(n:Nat)(b:List Int)(e:List Int)(a:Int):Option (Ctl Int (Ctl Unit Bool)):=
  (bif decide (a<(b.length:Int))then(idx b a).bind λc=>(idx e a).bind λd=>(bif (c != d)then some (.done (.done false))else some (.cont (IntKind.i64.wrap (a+1))))else some (.done (.cont ())))
def F_bn(n:Nat)(b:List Int)(c:List Int):Option Bool:=
  (bif ((b.length:Int) != (c.length:Int))then some false else(iter (F_iv n b c) n 0:Option (Ctl Unit Bool)).bind λd=>match d with|.cont a=>(some true)|.done a=>some a)
theorem k_bn(n:Nat)(j:List Int)(k:List Int)(r:Bool)(h:F_bn n j k=some r):
    Csm prog 15 [.rsl 1 (List.map (Qf .i64) j),.rsl 1 (List.map (Qf .i64) k)] [] (λr=>.bool r) r:=by
 refine Qb func15 Z Z Z ?_;refine G0 9 Z (Lm Z (Go 1 Z (Lm Z (Go 3 Z (Cn Z h (λl h=>?_) (λl h=>?_))))))
 .exact Gc 7 Z (Rt h 4 [])
 refine Gc 8 Z (Bd h λm p h=>?_);refine CtE (b:=m) [] [] Ze Ze Zf ?_ (λw env H q s=>?_)
 .refine G0 1 Z ?_;refine Lp [] [0,1] (λd=>[(5,I d)]) Ze p Zf (Lr []) λd y a c=>?_;refine G0 5 Z (Lm Z (Go 3 Z (Jb Z a (λe a=>?_) (λe a=>?_))))
  .refine Gc 2 Z (Qy a ?_);obtain rfl:=Oj c a;exact Gx 1 Z (QL Z (Lr []))
  refine Gc 5 Z (DSs 8 Z (D 2 Z ?_));obtain⟨t,f,a⟩:=Jy a;refine DS.wo (x:=.rp [I t]) ?_ ?_
  .exact Ix f runUnderlying37 sizeOf3 Z Wp
  refine D 3 Z ?_;obtain⟨u,g,a⟩:=Jy a;refine DS.wo (x:=.rp [I u]) ?_ ?_
  .exact Ix g runUnderlying37 sizeOf3 Z Wp
  refine D 1 Z (Eh Z (Go 3 Z (Cn Z a (λi a=>?_) (λi a=>?_))))
  .refine Gc 8 Z (Yx a ?_);obtain rfl:=Oj c a;exact Gx 1 Z (Q9 (Gx 1 Z (Rt h 4 [])))
  exact Gc 8 Z (Qv a (Lr []))
 subst q;exact Gx 1 Z (Ef s (Gc 6 Z (Rt h 4 [])))
def F_it(n:Nat)(b:List Penalty)(e:List Penalty)(a:Int):Option (Ctl Int (Ctl Unit Bool)):=
  (bif decide (a<(b.length:Int))then(idx b a).bind λc=>(idx e a).bind λd=>(bif (c != d)then some (.done (.done false))else some (.cont (IntKind.i64.wrap (a+1))))else some (.done (.cont ())))
def F_aj(n:Nat)(b:List Penalty)(c:List Penalty):Option Bool:=
  (bif ((b.length:Int) != (c.length:Int))then some false else(iter (F_it n b c) n 0:Option (Ctl Unit Bool)).bind λd=>match d with|.cont a=>(some true)|.done a=>some a)
theorem k_aj(n:Nat)(m:List Penalty)(s:List Penalty)(r:Bool)(h:F_aj n m s=some r):
    Csm prog 16 [.rsl 4 (List.map Penalty.c m),.rsl 4 (List.map Penalty.c s)] [] (λr=>.bool r) r:=by
 refine Qb func16 Z Z Z ?_;refine G0 9 Z (Lm Z (Go 1 Z (Lm Z (Go 3 Z (Cn Z h (λt h=>?_) (λt h=>?_))))))
 .exact Gc 7 Z (Rt h 4 [])
 refine Gc 8 Z (Bd h λu w h=>?_);refine CtE (b:=u) [] [] Ze Ze Zf ?_ (λB env H y z=>?_)
 .refine G0 1 Z ?_;refine Lp [] [0,1] (λg=>[(5,I g)]) Ze w Zf (Lr []) λg E a f=>?_;refine G0 5 Z (Lm Z (Go 3 Z (Jb Z a (λi a=>?_) (λi a=>?_))))
  .refine Gc 2 Z (Qy a ?_);obtain rfl:=Oj f a;exact Gx 1 Z (QL Z (Lr []))
  refine Gc 5 Z (DSs 8 Z (D 2 Z ?_));obtain⟨d,j,a⟩:=Jy a;refine DS.wo (x:=.rp [I d.Position,I d.Time,I d.Laps,.bool d.Out]) ?_ ?_
  .exact Ix j runUnderlying38 sizeOf50 Z Wp
  refine D 3 Z ?_;obtain⟨e,k,a⟩:=Jy a;refine DS.wo (x:=.rp [I e.Position,I e.Time,I e.Laps,.bool e.Out]) ?_ ?_
  .exact Ix k runUnderlying38 sizeOf50 Z Wp
  refine D 1 Z (Eh Z ?_);refine vX (.bool (d != e)) (Qmo (p:=d) (q:=e) QqZ Z Z) ?_;refine Go 2 Z (Cn Z a (λl a=>?_) (λl a=>?_))
  .refine Gc 8 Z (Yx a ?_);obtain rfl:=Oj f a;exact Gx 1 Z (Q9 (Gx 1 Z (Rt h 4 [])))
  exact Gc 8 Z (Qv a (Lr []))
 subst y;exact Gx 1 Z (Ef z (Gc 6 Z (Rt h 4 [])))
abbrev lit_2:List Fact:=[{Up with No:=1,Kind:=1,Starter:={Uz with Bib:=5:Starter}:Fact},{Up with No:=2,Kind:=8,Report:={Case:=3,Bib:=5,Offence:=0,Position:=1:Report}:Fact},{Up with No:=3,Kind:=8,Report:={Case:=4,Bib:=5,Offence:=1,Position:=0:Report}:Fact},{Up with No:=4,Kind:=10,Ruling:={Ux with Case:=3,Instance:=1,Kind:=2:Ruling}:Fact}]
abbrev lit_3:List Fact:=[{Up with No:=1,Kind:=1,Starter:={Uz with Bib:=5:Starter}:Fact},{Up with No:=2,Kind:=8,Report:={Case:=3,Bib:=5,Offence:=0,Position:=1:Report}:Fact},{Up with No:=3,Kind:=8,Report:={Case:=4,Bib:=5,Offence:=1,Position:=0:Report}:Fact}]
abbrev lit_4:List Offence:=[{Name:=[100,114,97,102,116,105,110,103],Time:=60,Laps:=0,Out:=false:Offence},{Name:=[115,104,111,114,116,99,117,116],Time:=0,Laps:=2,Out:=false:Offence}]
abbrev lit_5:List Distance:=[{Name:=[100],Route:=[Us,{Us with Mat:=1:Part}],Timing:=1,Cutoffs:=[],Extra:=(-1):Distance}]
abbrev lit_6:List Fact:=[{Up with No:=2,Kind:=8,Report:={Case:=3,Bib:=5,Offence:=0,Position:=1:Report}:Fact}]
abbrev lit_8:List Mat:=[{Name:=[108,105,110,101],Kind:=1:Mat},{Name:=[103,111,97,108],Kind:=3:Mat}]
abbrev lit_0:List A:=[.str [97],.rsl 2 (List.map Mat.c lit_8),.rsl 4 (List.map Leg.c [{From:=0,To:=1,Min:=0,Max:=50:Leg}]),.rsl 5 (List.map Distance.c lit_5),.rsl 2 (List.map Wave.c [{Name:=[119],Gun:=0:Wave}]),.rsl 4 (List.map Offence.c lit_4),.rsl 3 (List.map Category.c []),.rsl 4 (List.map Prize.c []),.rsl 8 (List.map Step.enc [{UA with Kind:=1,By:=5:Step}]),I 0,I 0,I 0,I 0,I 0,I 0,I 0]
abbrev lit_1:Course:={Name:=[97],Mats:=lit_8,Legs:=[{From:=0,To:=1,Min:=0,Max:=50:Leg}],Distances:=lit_5,Waves:=[{Name:=[119],Gun:=0:Wave}],Offences:=lit_4,Categories:=[],Prizes:=[],Ties:=[{UA with Kind:=1,By:=5:Step}],Faults:=Uq,Fee:=0,Deadline:=0:Course}
abbrev lit_9:List Penalty:=[{Position:=3,Time:=60,Laps:=2,Out:=true:Penalty}]
abbrev lit_10:Penalty:={Position:=1,Time:=60,Laps:=0,Out:=false:Penalty}
abbrev lit_7:List Penalty:=[lit_10,{Ut with Laps:=2:Penalty}]
abbrev lit_11:List Penalty:=[{Ut with Laps:=2:Penalty}]
def F_ez(n:Nat):Option Bool:=
  (F_ho n).bind λq=>(F_u n (lit_1) lit_3 5).bind λb=>(F_r n (lit_1) lit_3 5).bind λm=>(F_u n (lit_1) lit_2 5).bind λc=>(F_al n lit_9 2).bind λa=>(F_u n (lit_1) [] 5).bind λp=>((bif ((p.1.length:Int) != 0)then some true else(F_r n (lit_1) lit_6 5).bind λd=>(bif ((d.length:Int) != 0)then some true else(bif (a.1 != 0)then some true else(bif (a.2.1 != 0)then some true else(bif a.2.2 then some true else(F_ai n Un lit_6 5).bind λe=>some (e != 0)))))):Option Bool).bind λf=>(bif f then some false else((F_bn n b.1 [3,4]).bind λg=>(bif g then(F_aj n b.2 lit_7).bind λh=>(bif h then(F_aj n m [Ut,lit_10]).bind λi=>(bif i then(F_bn n c.1 [4]).bind λj=>(bif j then(F_aj n c.2 lit_11).bind λk=>some k else some false)else some false)else some false)else some false):Option Bool).bind λl=>some l)
theorem k_ez(n:Nat)(r:Bool)(h:F_ez n=some r):
    Csm prog 11 [] [] (λr=>.bool r) r:=by
 refine Qb func11 Z Z Z ?_;refine G0 7 Z (Cd [] h (k_ho _) Z λr1 Q h=>?_);refine aV (.agg [.str [97],.osl 0 0 (lit_8.length) 2,.osl 1 0 ([{From:=0,To:=1,Min:=0,Max:=50:Leg}].length) 4,.osl 2 0 (lit_5.length) 5,.osl 3 0 ([{Name:=[119],Gun:=0:Wave}].length) 2,.osl 4 0 (lit_4.length) 4,.rsl 3 (List.map Category.c []),.rsl 4 (List.map Prize.c []),.osl 5 0 ([{UA with Kind:=1,By:=5:Step}].length) 8,I 0,I 0,I 0,I 0,I 0,I 0,I 0]) [.row 143 2 (List.map Mat.c lit_8),.row 145 4 (List.map Leg.c [{From:=0,To:=1,Min:=0,Max:=50:Leg}]),.row 112 5 (List.map Distance.c lit_5),.row 141 2 (List.map Wave.c [{Name:=[119],Gun:=0:Wave}]),.row 92 4 (List.map Offence.c lit_4),.row 139 8 (List.map Step.enc [{UA with Kind:=1,By:=5:Step}]),.cells 33 [.str [97],.osl 0 0 (lit_8.length) 2,.osl 1 0 ([{From:=0,To:=1,Min:=0,Max:=50:Leg}].length) 4,.osl 2 0 (lit_5.length) 5,.osl 3 0 ([{Name:=[119],Gun:=0:Wave}].length) 2,.osl 4 0 (lit_4.length) 4,.rsl 3 (List.map Category.c []),.rsl 4 (List.map Prize.c []),.osl 5 0 ([{UA with Kind:=1,By:=5:Step}].length) 8,I 0,I 0,I 0,I 0,I 0,I 0,I 0]] Z Z ?_;refine Go 42 Z ?_;refine vH (El (xs:=[.tmp 27,.tmp 28,.tmp 29]) (es:=List.map Fact.c lit_3) Qaq Z Z Z Z Z ⟨Z,Z,Z,trivial⟩ Z Z) ?_;refine aV (.osl 12 0 (lit_3.length) 57) [_,_,_,_,_,_,_,_,_,_,_,_,.row 83 57 (List.map Fact.c lit_3)] Z Z ?_;refine Et (JI [(16,_),(26,_)] Z Z (QoK.cons Z (FzA.agg (Ed (Ee _) (Ed Ep (Ek _)))) (QoK.cons Z (FzA.agg (Ed (Ee _) (Ed Ep (Ek _)))) QoK.nil)) (Ec (Ec (Ec (Ec (Ec (Ec (FzH.cells (Ed (Ee _) (Ed Ep (Ek _))) (FzH.cells (Ed (Ee _) (Ed Ep (Ek _))) (YP _)))))))))) ?_;refine Et (JI [(16,_),(26,_)] Z Z (QoK.cons Z (FzA.agg (Ed (Ee _) (Ed (Ee _) (Ed Ep (Ek _))))) (QoK.cons Z (FzA.agg (Ed (Ee _) (Ed (Ee _) (Ed Ep (Ek _))))) QoK.nil)) (Ec (Ec (Ec (Ec (Ec (Ec (FzH.cells (Ed (Ee _) (Ed (Ee _) (Ed Ep (Ek _)))) (FzH.cells (Ed (Ee _) (Ed (Ee _) (Ed Ep (Ek _)))) (YP _)))))))))) ?_;refine Et (JI [(16,_),(26,_)] Z Z (QoK.cons Z (FzA.agg (Ed (Ee _) (Ed (Ee _) (Ed (Ee _) (Ed Ep (Ek _)))))) (QoK.cons Z (FzA.agg (Ed (Ee _) (Ed (Ee _) (Ed (Ee _) (Ed Ep (Ek _)))))) QoK.nil)) (Ec (Ec (Ec (Ec (Ec (Ec (FzH.cells (Ed (Ee _) (Ed (Ee _) (Ed (Ee _) (Ed Ep (Ek _))))) (FzH.cells (Ed (Ee _) (Ed (Ee _) (Ed (Ee _) (Ed Ep (Ek _))))) (YP _)))))))))) ?_;refine Et (JI [(16,_),(26,_)] Z Z (QoK.cons Z (FzA.agg (Ed (Ee _) (Ed (Ee _) (Ed (Ee _) (Ed (Ee _) (Ed Ep (Ek _))))))) (QoK.cons Z (FzA.agg (Ed (Ee _) (Ed (Ee _) (Ed (Ee _) (Ed (Ee _) (Ed Ep (Ek _))))))) QoK.nil)) (Ec (Ec (Ec (Ec (Ec (Ec (FzH.cells (Ed (Ee _) (Ed (Ee _) (Ed (Ee _) (Ed (Ee _) (Ed Ep (Ek _)))))) (FzH.cells (Ed (Ee _) (Ed (Ee _) (Ed (Ee _) (Ed (Ee _) (Ed Ep (Ek _)))))) (YP _)))))))))) ?_;refine Et (JI [(16,_),(26,_)] Z Z (QoK.cons Z (FzA.agg (Ed (Ee _) (Ed (Ee _) (Ed (Ee _) (Ed (Ee _) (Ed (Ee _) (Ed Ep (Ek _)))))))) (QoK.cons Z (FzA.agg (Ed (Ee _) (Ed (Ee _) (Ed (Ee _) (Ed (Ee _) (Ed (Ee _) (Ed Ep (Ek _)))))))) QoK.nil)) (Ec (Ec (Ec (Ec (Ec (Ec (FzH.cells (Ed (Ee _) (Ed (Ee _) (Ed (Ee _) (Ed (Ee _) (Ed (Ee _) (Ed Ep (Ek _))))))) (FzH.cells (Ed (Ee _) (Ed (Ee _) (Ed (Ee _) (Ed (Ee _) (Ed (Ee _) (Ed Ep (Ek _))))))) (YP _)))))))))) ?_;refine Et (JI [(16,_),(26,_)] Z Z (QoK.cons Z (FzA.agg (Ed (Ee _) (Ed (Ee _) (Ed (Ee _) (Ed (Ee _) (Ed (Ee _) (Ed (Ee _) (Ed (Ee _) (Ed (Ee _) (Ed Ep (Ek _))))))))))) (QoK.cons Z (FzA.agg (Ed (Ee _) (Ed (Ee _) (Ed (Ee _) (Ed (Ee _) (Ed (Ee _) (Ed (Ee _) (Ed (Ee _) (Ed (Ee _) (Ed Ep (Ek _))))))))))) QoK.nil)) (Ec (Ec (Ec (Ec (Ec (Ec (FzH.cells (Ed (Ee _) (Ed (Ee _) (Ed (Ee _) (Ed (Ee _) (Ed (Ee _) (Ed (Ee _) (Ed (Ee _) (Ed (Ee _) (Ed Ep (Ek _)))))))))) (FzH.cells (Ed (Ee _) (Ed (Ee _) (Ed (Ee _) (Ed (Ee _) (Ed (Ee _) (Ed (Ee _) (Ed (Ee _) (Ed (Ee _) (Ed Ep (Ek _)))))))))) (YP _)))))))))) ?_;refine Et (JI [(30,_)] Z Z (QoK.cons Z Ep QoK.nil) (Ec (Ec (Ec (Ec (Ec (Ec (Ec (Ec (Ec (Ec (Ec (Ec (Ec (YP _))))))))))))))) ?_;refine Cd [] h (k_u _ _ _ _) Z λd R h=>?_;refine aV (.tup [.osl 13 0 d.1.length 1,.osl 14 0 d.2.length 4]) [.dead,.dead,.dead,.dead,.dead,.dead,.cells 33 lit_0,.cells 33 lit_0,_,_,_,_,.dead,.row 3 1 (List.map (Qf .i64) d.1),.row 50 4 (List.map Penalty.c d.2),.cells 37 [.osl 13 0 d.1.length 1],.cells 38 [.osl 14 0 d.2.length 4]] Z Z ?_;refine Go 13 Z ?_;refine vH (El (xs:=[.tmp 35,.tmp 36,.tmp 37]) (es:=List.map Fact.c lit_3) Qaq Z Z Z Z Z ⟨Z,Z,Z,trivial⟩ Z Z) ?_;refine aV (.osl 17 0 (lit_3.length) 57) [_,_,_,_,_,_,_,_,_,_,_,_,_,_,_,_,_,.row 83 57 (List.map Fact.c lit_3)] Z Z ?_;refine Et (JI [(38,_)] Z Z (QoK.cons Z Ep QoK.nil) (Ec (Ec (Ec (Ec (Ec (Ec (Ec (Ec (Ec (Ec (Ec (Ec (Ec (Ec (Ec (Ec (Ec (Ec (YP _)))))))))))))))))))) ?_;refine Cd [] h (k_r _ _ _ _) Z λB T h=>?_;refine aV (.osl 18 0 B.length 4) [_,_,_,_,_,_,_,_,_,_,_,_,_,_,_,_,_,.dead,.row 50 4 (List.map Penalty.c B)] Z Z ?_;refine Go 10 Z ?_;refine vH (El (xs:=[.tmp 42,.tmp 43,.tmp 44,.tmp 45]) (es:=List.map Fact.c lit_2) Qaq Z Z Z Z Z ⟨Z,Z,Z,Z,trivial⟩ Z Z) ?_;refine aV (.osl 19 0 (lit_2.length) 57) [_,_,_,_,_,_,_,_,_,_,_,_,_,_,_,_,_,_,_,.row 83 57 (List.map Fact.c lit_2)] Z Z ?_;refine Et (JI [(46,_)] Z Z (QoK.cons Z Ep QoK.nil) (Ec (Ec (Ec (Ec (Ec (Ec (Ec (Ec (Ec (Ec (Ec (Ec (Ec (Ec (Ec (Ec (Ec (Ec (Ec (Ec (YP _)))))))))))))))))))))) ?_;refine Cd [] h (k_u _ _ _ _) Z λe V h=>?_;refine aV (.tup [.osl 20 0 e.1.length 1,.osl 21 0 e.2.length 4]) [_,_,_,_,_,_,_,_,_,_,_,_,_,_,_,_,_,_,_,.dead,.row 3 1 (List.map (Qf .i64) e.1),.row 50 4 (List.map Penalty.c e.2),.cells 37 [.osl 20 0 e.1.length 1],.cells 38 [.osl 21 0 e.2.length 4]] Z Z ?_;refine Go 10 Z ?_;refine vH (El (xs:=[.tmp 51]) (es:=List.map Penalty.c lit_9) Qde Z Z Z Z Z ⟨Z,trivial⟩ Z Z) ?_;refine aV (.osl 24 0 (lit_9.length) 4) [_,_,_,_,_,_,_,_,_,_,_,_,_,_,_,_,_,_,_,_,_,_,_,_,.row 50 4 (List.map Penalty.c lit_9)] Z Z ?_;refine Bd h λl E h=>?_;refine QfS (OpC.fn call21 rfl rfl rfl) (Qbo.cons rfl (.inr ⟨_,_,_,_,_,rfl,rfl,X7 ..,rfl⟩) (Qbo.cons rfl (.inl ⟨rfl,rfl⟩) Qbo.nil)) (k_al _ _ _ _ E) (by rintro _ _ ⟨rfl,rfl⟩;rfl) ?_;rintro _ _ ⟨rfl,rfl⟩;refine aV (.tup [I l.1,I l.2.1,.bool l.2.2]) [_,_,_,_,_,_,_,_,_,_,_,_,_,_,_,_,_,_,_,_,_,_,_,_,_] Z Z ?_;refine Go 12 Z (Bd h λf F h=>?_);refine Qz [] (OpC.fn call13 Z Z Z) (C.nils (Qkv.eq (Qkv.nl (Qkv.eq Qkv.nil))) (k_u _ _ _ _ _ F)) ?_;rintro _ _ ⟨rfl,rfl⟩;refine aV (.tup [.osl 25 0 f.1.length 1,.osl 26 0 f.2.length 4]) [_,_,_,_,_,_,_,_,_,_,_,_,_,_,_,_,_,_,_,_,_,_,_,_,_,.row 3 1 (List.map (Qf .i64) f.1),.row 50 4 (List.map Penalty.c f.2),.cells 37 [.osl 25 0 f.1.length 1],.cells 38 [.osl 26 0 f.2.length 4]] Z Z ?_;refine Go 9 Z (Bd h λg b h=>?_);refine Ct g [13,14,18,20,21] [6,7,8,9,10] (λg=>[(90,.bool g)]) Ze Zf ?_ (λenv H i=>?_)
 .refine G0 5 Z (Is 65 b Z (λm b=>?_) (λm b=>?_))
  .exact Go 26 Z (Cl b [13,14,18,20,21])
  .refine Go 2 Z ?_;refine vH (El (xs:=[.tmp 67]) (es:=List.map Fact.c lit_6) Qaq Z Z Z Z Z ⟨Z,trivial⟩ Z Z) ?_ (gT Z);refine aV (.osl 29 0 (lit_6.length) 57) [_,_,_,_,_,_,_,_,_,_,_,_,_,_,_,_,_,_,_,_,_,_,_,_,_,_,_,_,_,.row 83 57 (List.map Fact.c lit_6)] Z Z ?_;refine Et (JI [(68,_)] Z Z (QoK.cons Z Ep QoK.nil) (Ec (Ec (Ec (Ec (Ec (Ec (Ec (Ec (Ec (Ec (Ec (Ec (Ec (Ec (Ec (Ec (Ec (Ec (Ec (Ec (Ec (Ec (Ec (Ec (Ec (Ec (Ec (Ec (Ec (Ec (YP _)))))))))))))))))))))))))))))))) ?_;refine Cd [] b (k_r _ _ _ _) Z λk G b=>?_;refine aV (.osl 30 0 k.length 4) [_,_,_,_,_,_,_,_,_,_,_,_,_,_,_,_,_,_,_,_,_,_,_,_,_,_,_,_,_,.dead,.row 50 4 (List.map Penalty.c k)] Z Z ?_;refine Go 4 Z (Is 73 b Z (λp b=>?_) (λp b=>?_))
   .exact Go 18 Z (Cl b [13,14,18,20,21])
   .refine Go 4 Z (Is 77 b Z (λq b=>?_) (λq b=>?_))
    .exact Go 14 Z (Cl b [13,14,18,20,21])
    .refine Go 4 Z (Is 81 b Z (λs b=>?_) (λs b=>?_))
     .exact Go 10 Z (Cl b [13,14,18,20,21])
     .refine Go 3 Z (Is 84 b Z (λt b=>?_) (λt b=>?_))
      .exact Go 7 Z (Cl b [13,14,18,20,21])
      .refine Go 2 Z ?_;refine vH (El (xs:=[.tmp 86]) (es:=List.map Fact.c lit_6) Qaq Z Z Z Z Z ⟨Z,trivial⟩ Z Z) ?_ (gT Z);refine aV (.osl 31 0 (lit_6.length) 57) [_,_,_,_,_,_,_,_,_,_,_,_,_,_,_,_,_,_,_,_,_,_,_,_,_,_,_,_,_,_,_,.row 83 57 (List.map Fact.c lit_6)] Z Z ?_;exact Cb b (k_ai _ _ _ _) Z (ls (lo (ls ln))) λW J b=>Go 3 Z (Cl b [13,14,18,20,21])
 refine Gx 1 Z (Ef i (Cn Z h (λu h=>?_) (λu h=>?_)))
 .exact Gc 7 Z (Rt h 0 [])
 refine Gc 3 Z (Bd h λj a h=>?_);refine Ct j [] [] (λj=>[(0,.bool j)]) Ze Zf ?_ (λenv H i=>?_)
 .refine G0 2 Z ?_;refine vH (El (xs:=[.const (.int .i64 3),.const (.int .i64 4)]) (es:=List.map (Qf .i64) [3,4]) Q2 Z Z Z Z Z ⟨Z,Z,trivial⟩ Z Z) ?_;refine aV (.osl 5 0 ([3,4].length) 1) [_,_,_,_,_,.row 3 1 (List.map (Qf .i64) [3,4])] Z Z ?_;refine Cb a (k_bn _ _ _) Z (lo (lo ln)) λX L a=>Go 1 Z (Is 94 a Z (λw a=>?_) (λw a=>?_))
  .refine Go 3 Z ?_;refine vH (El (xs:=[.tmp 96,.tmp 97]) (es:=List.map Penalty.c lit_7) Qde Z Z Z Z Z ⟨Z,Z,trivial⟩ Z Z) ?_ (gT Z);refine aV (.osl 6 0 (lit_7.length) 4) [_,_,_,_,_,_,.row 50 4 (List.map Penalty.c lit_7)] Z Z ?_;refine Cb a (k_aj _ _ _) Z (lo (lo ln)) λY M a=>Go 2 Z (Is 101 a Z (λx a=>?_) (λx a=>?_))
   .refine Go 3 Z ?_;refine vH (El (xs:=[.tmp 103,.tmp 104]) (es:=List.map Penalty.c [Ut,lit_10]) Qde Z Z Z Z Z ⟨Z,Z,trivial⟩ Z Z) ?_ (gT Z);refine aV (.osl 7 0 ([Ut,lit_10].length) 4) [_,_,_,_,_,_,_,.row 50 4 (List.map Penalty.c [Ut,lit_10])] Z Z ?_;refine Cb a (k_aj _ _ _) Z (lo (lo ln)) λaa N a=>Go 2 Z (Is 108 a Z (λy a=>?_) (λy a=>?_))
    .refine Go 1 Z ?_;refine vH (El (xs:=[.const (.int .i64 4)]) (es:=List.map (Qf .i64) [4]) Q2 Z Z Z Z Z ⟨Z,trivial⟩ Z Z) ?_ (gT Z);refine aV (.osl 8 0 ([4].length) 1) [_,_,_,_,_,_,_,_,.row 3 1 (List.map (Qf .i64) [4])] Z Z ?_;refine Cb a (k_bn _ _ _) Z (lo (lo ln)) λab O a=>Go 2 Z (Is 113 a Z (λz a=>?_) (λz a=>?_))
     .refine Go 2 Z ?_;refine vH (El (xs:=[.tmp 115]) (es:=List.map Penalty.c lit_11) Qde Z Z Z Z Z ⟨Z,trivial⟩ Z Z) ?_ (gT Z);refine aV (.osl 9 0 (lit_11.length) 4) [_,_,_,_,_,_,_,_,_,.row 50 4 (List.map Penalty.c lit_11)] Z Z ?_;exact Cb a (k_aj _ _ _) Z (lo (lo ln)) λac P a=>Go 3 Z (Cl a [])
     .exact Go 7 Z (Cl a [])
    .exact Go 12 Z (Cl a [])
   .exact Go 19 Z (Cl a [])
  .exact Go 26 Z (Cl a [])
 exact Gx 1 Z (Ef i (Gc 1 Z (Rt h 0 [])))
def F_fu(n:Nat)(b:List Part)(rec214:(List Part)->Option Int)(a:Int×Int):Option (Ctl (Int×Int) Int):=
  ((bif decide (a.2<(b.length:Int))then some (decide (a.1<=256))else some false):Option Bool).bind λc=>(bif c then(idx b a.2).bind λd=>(rec214 d.Parts).bind λe=>some (.cont (IntKind.i64.wrap (a.1+e),IntKind.i64.wrap (a.2+1)))else some (.done a.1))
def B_p(rec214:(List Part)->Option Int)(n:Nat)(b:List Part):Option Int:=
  (iter (F_fu n b rec214) n ((b.length:Int),0):Option Int).bind λa=>some (if 257<a then 257 else a)
theorem Qa9(rec214:(List Part)->Option Int)(d:∀(e:List Part) (r:Int),rec214 e=some r->Csm prog 51 [.rsl 3 (List.map Part.enc e)] [] (λr=>I r) r)(n:Nat)(e:List Part)(r:Int)(h:B_p rec214 n e=some r):
    Csm prog 51 [.rsl 3 (List.map Part.enc e)] [] (λr=>I r) r:=by
 refine Qb func51 Z Z Z ?_;refine G0 8 Z (Lm Z (Go 9 Z (Bd h λb p h=>?_)));refine Ct b [] [] (λb=>[(3,I b)]) Ze Zf ?_ (λenv H f=>?_)
 .refine G0 1 Z ?_;refine Lp [] [0] (λg=>[(3,I g.1),(4,I g.2)]) Ze p Zf (Lr []) λg t a j=>?_;refine G0 2 Z (Bd a λi c a=>?_);refine Ct i [] [0,3,4] (λi=>[(14,.bool i)]) Ze Zf ?_ (λenv H f=>?_)
  .refine G0 3 Z (Lm Z (Go 2 Z (Is 11 c Z (λk c=>?_) (λk c=>?_))))
   .exact Go 4 Z (Cl c [])
   .exact Go 4 Z (Cl c [])
  refine Gx 1 Z (Ef f (Jb Z a (λl a=>?_) (λl a=>?_)))
  .refine Gc 2 Z (Qy a ?_);obtain rfl:=Oj j a;exact Gx 1 Z (QH (Lr []))
  exact Gc 8 Z (Bd a λq m a=>IzE m (YK q) Z (Go 2 Z (Cz [] a (d _) Z λu s a=>Go 10 Z (Qv a (Lr [])))))
 refine Gx 1 Z (Ef f (Gc 3 Z ?_));refine vX (I (if 257<b then 257 else b)) (OpV.min Z Z Z Z) ?_;exact Go 4 Z (Rt h 2 [])
def F_p:Nat->(List Part)->Option Int
  |0=>λ_=>none
  |n+1=>B_p (F_p n) n
theorem k_p(n:Nat):∀(a:List Part) (r:Int),F_p n a=some r->Csm prog 51 [.rsl 3 (List.map Part.enc a)] [] (λr=>I r) r:=by
  induction n with
  |zero=>intro a r h;cases h
  |succ n ih=>intro a r h;exact Qa9 _ ih n a r h
def F_dh(n:Nat)(c:List Part)(d:Int)(rec215:(List Part)->Int->Option Int)(a:Int×Int):Option (Ctl (Int×Int) Int):=
  ((bif decide (a.2<(c.length:Int))then some (decide (0<d))else some false):Option Bool).bind λe=>(bif e then(idx c a.2).bind λf=>((bif ((f.Parts.length:Int) != 0)then(idx c a.2).bind λg=>(rec215 g.Parts (IntKind.i64.wrap (d-1))).bind λb=>some (if a.1<IntKind.i64.wrap (1+b)then IntKind.i64.wrap (1+b)else a.1)else some a.1):Option Int).bind λh=>some (.cont (h,IntKind.i64.wrap (a.2+1)))else some (.done a.1))
def B_m(rec215:(List Part)->Int->Option Int)(n:Nat)(b:List Part)(c:Int):Option Int:=
  (iter (F_dh n b c rec215) n (0,0):Option Int).bind λa=>some a
theorem Qa8(rec215:(List Part)->Int->Option Int)(f:∀(g:List Part) (i:Int) (r:Int),rec215 g i=some r->Csm prog 52 [.rsl 3 (List.map Part.enc g),I i] [] (λr=>I r) r)(n:Nat)(g:List Part)(i:Int)(r:Int)(h:B_m rec215 n g i=some r):
    Csm prog 52 [.rsl 3 (List.map Part.enc g),I i] [] (λr=>I r) r:=by
 refine Qb func52 Z Z Z ?_;refine G0 16 Z (Bd h λj x h=>?_);refine Ct j [] [] (λj=>[(5,I j)]) Ze Zf ?_ (λenv H c=>?_)
 .refine G0 1 Z ?_;refine Lp [] [0,1] (λd=>[(5,I d.1),(6,I d.2)]) Ze x Zf (Lr []) λd E a p=>?_;refine G0 2 Z (Bd a λk e a=>?_);refine Ct k [] [0,1,5,6] (λk=>[(14,.bool k)]) Ze Zf ?_ (λenv H c=>?_)
  .refine G0 3 Z (Lm Z (Go 2 Z (Is 11 e Z (λq e=>?_) (λq e=>?_))))
   .exact Go 4 Z (Cl e [])
   .exact Go 4 Z (Cl e [])
  refine Gx 1 Z (Ef c (Jb Z a (λs a=>?_) (λs a=>?_)))
  .refine Gc 2 Z (Qy a ?_);obtain rfl:=Oj p a;exact Gx 1 Z (QH (Lr []))
  refine Gc 8 Z (Bd a λy t a=>IzE t (YK y) Z (Go 2 Z (Lm Z (Go 3 Z (Bd a λl b a=>?_)))));refine Ct l [] [0,1,6] (λl=>[(5,I l)]) Ze Zf ?_ (λenv H c=>?_)
  .refine G0 0 Z (Cn Z b (λu b=>?_) (λu b=>?_))
   .refine Gc 4 Z (Bd b λz w b=>IzE w (YK z) Z (Go 4 Z (Cz [] b (f _ _) Z λm B b=>Go 1 Z ?_)));refine vX (I (if d.1<IntKind.i64.wrap (1+m)then IntKind.i64.wrap (1+m)else d.1)) (OpV.max Z Z Z Z) ?_;exact Go 2 Z (Cl b [])
   exact Gc 1 Z (Cl b [])
  exact Gx 2 Z (Ef c (Gc 5 Z (Qv a (Lr []))))
 exact Gx 1 Z (Ef c (Gc 7 Z (Rt h 4 [])))
def F_m:Nat->(List Part)->Int->Option Int
  |0=>λ_ _=>none
  |n+1=>B_m (F_m n) n
theorem k_m(n:Nat):∀(a:List Part) (b:Int) (r:Int),F_m n a b=some r->Csm prog 52 [.rsl 3 (List.map Part.enc a),I b] [] (λr=>I r) r:=by
  induction n with
  |zero=>intro a b r h;cases h
  |succ n ih=>intro a b r h;exact Qa8 _ ih n a b r h
def F_br(n:Nat)(a:Cond):Option Bool:=
  ((bif (a.Kind==0)then(bif (a.Var==0)then(bif (a.N==0)then some ((a.Parts.length:Int)==0)else some false)else some false)else some false):Option Bool).bind λb=>some b
theorem k_br(n:Nat)(d:Cond)(r:Bool)(h:F_br n d=some r):
    Csm prog 186 [.agg (Cond.c d)] [] (λr=>.bool r) r:=by
 refine Qb func186 Z Z Z ?_;refine G0 7 Z (Bd h λb a h=>?_);refine Ct b [] [] (λb=>[(2,.bool b)]) Ze Zf ?_ (λenv H e=>?_)
 .refine G0 5 Z (Is 6 a Z (λf a=>?_) (λf a=>?_))
  .refine Go 5 Z (Is 11 a Z (λg a=>?_) (λg a=>?_))
   .refine Go 5 Z (Is 16 a Z (λi a=>?_) (λi a=>?_))
    .exact Go 2 Z (Lm Z (Go 4 Z (Cl a [])))
    .exact Go 7 Z (Cl a [])
   .exact Go 12 Z (Cl a [])
  .exact Go 17 Z (Cl a [])
 exact Gx 1 Z (Ef e (Gc 1 Z (Rt h 2 [])))
def F_dz(n:Nat)(b:Cond)(f:Int)(rec219:Cond->Int->Option Int)(a:Int×Int):Option (Ctl (Int×Int) Int):=
  ((bif decide (a.2<(b.Parts.length:Int))then some (decide (a.1<=256))else some false):Option Bool).bind λc=>(bif c then(idx b.Parts a.2).bind λd=>(rec219 d (IntKind.i64.wrap (f+1))).bind λe=>some (.cont (IntKind.i64.wrap (a.1+e),IntKind.i64.wrap (a.2+1)))else some (.done a.1))
def B_j(rec219:Cond->Int->Option Int)(n:Nat)(c:Cond)(a:Int):Option Int:=
  (bif decide (16<a)then some 1000 else(iter (F_dz n c a rec219) n (1,0):Option Int).bind λb=>some b)
theorem Qao(rec219:Cond->Int->Option Int)(d:∀(e:Cond) (f:Int) (r:Int),rec219 e f=some r->Csm prog 187 [.agg (Cond.c e),I f] [] (λr=>I r) r)(n:Nat)(e:Cond)(f:Int)(r:Int)(h:B_j rec219 n e f=some r):
    Csm prog 187 [.agg (Cond.c e),I f] [] (λr=>I r) r:=by
 refine Qb func187 Z Z Z ?_;refine G0 13 Z (Cn Z h (λs h=>?_) (λs h=>?_))
 .exact Gc 7 Z (Rt h 4 [])
 refine Gc 13 Z (Bd h λg t h=>?_);refine Ct g [] [] (λg=>[(5,I g)]) Ze Zf ?_ (λenv H i=>?_)
 .refine G0 1 Z ?_;refine Lp [0] [1,2] (λj=>[(5,I j.1),(6,I j.2)]) Ze t Zf (Lr [0]) λj x a l=>?_;refine G0 2 Z (Bd a λk b a=>?_);refine Ct k [0] [1,2,5,6] (λk=>[(17,.bool k)]) Ze Zf ?_ (λenv H i=>?_)
  .refine G0 4 Z (Lm Z (Go 2 Z (Is 14 b Z (λm b=>?_) (λm b=>?_))))
   .exact Go 4 Z (Cl b [0])
   .exact Go 4 Z (Cl b [0])
  refine Gx 1 Z (Ef i (Jb Z a (λp a=>?_) (λp a=>?_)))
  .refine Gc 2 Z (Qy a ?_);obtain rfl:=Oj l a;exact Gx 1 Z (QH (Lr []))
  exact Gc 9 Z (Bd a λu q a=>IzE q (Qa7 u) Z (Go 3 Z (Cz [] a (d _ _) Z λy w a=>Go 10 Z (Qv a (Lr [0])))))
 exact Gx 1 Z (Ef i (Gc 7 Z (Rt h 4 [])))
def F_j:Nat->Cond->Int->Option Int
  |0=>λ_ _=>none
  |n+1=>B_j (F_j n) n
theorem k_j(n:Nat):∀(a:Cond) (b:Int) (r:Int),F_j n a b=some r->Csm prog 187 [.agg (Cond.c a),I b] [] (λr=>I r) r:=by
  induction n with
  |zero=>intro a b r h;cases h
  |succ n ih=>intro a b r h;exact Qao _ ih n a b r h
def F_ek(n:Nat)(b:List Step)(e:Int)(rec217:(List Step)->Int->Option (Int×Int))(a:Int×Int×Int):Option (Ctl (Int×Int×Int) (Int×Int)):=
  ((bif decide (a.2.2<(b.length:Int))then(bif decide (a.1<=64)then some (decide (a.2.1<=256))else some false)else some false):Option Bool).bind λf=>(bif f then(idx b a.2.2).bind λg=>(rec217 g.Then (IntKind.i64.wrap (e+1))).bind λc=>(idx b a.2.2).bind λh=>(rec217 h.Else (IntKind.i64.wrap (e+1))).bind λd=>(idx b a.2.2).bind λi=>(F_br n i.Cond).bind λj=>((bif (!j)then(idx b a.2.2).bind λk=>(F_j n k.Cond 0).bind λl=>some (IntKind.i64.wrap ((IntKind.i64.wrap ((IntKind.i64.wrap (a.2.1+c.2))+d.2))+l))else some (IntKind.i64.wrap ((IntKind.i64.wrap (a.2.1+c.2))+d.2))):Option Int).bind λm=>some (.cont (IntKind.i64.wrap ((IntKind.i64.wrap ((IntKind.i64.wrap (a.1+1))+c.1))+d.1),m,IntKind.i64.wrap (a.2.2+1)))else some (.done (a.1,a.2.1)))
def B_l(rec217:(List Step)->Int->Option (Int×Int))(n:Nat)(b:List Step)(c:Int):Option (Int×Int):=
  ((bif decide (0<(b.length:Int))then some (decide (16<c))else some false):Option Bool).bind λb2=>(bif b2 then some (1000,1000)else(iter (F_ek n b c rec217) n (0,0,0):Option (Int×Int)).bind λa=>some (a.1,a.2))
theorem Qbf(rec217:(List Step)->Int->Option (Int×Int))(e:∀(i:List Step) (j:Int) (r:Int×Int),rec217 i j=some r->Csm prog 102 [.rsl 8 (List.map Step.enc i),I j] [] (λr=>.tup [I r.1,I r.2]) r)(n:Nat)(i:List Step)(j:Int)(r:Int×Int)(h:B_l rec217 n i j=some r):
    Csm prog 102 [.rsl 8 (List.map Step.enc i),I j] [] (λr=>.tup [I r.1,I r.2]) r:=by
 refine Qb func102 Z Z Z ?_;refine G0 8 Z (Bd h λb2 k h=>?_);refine Ct b2 [] [0,1] (λb2=>[(19,.bool b2)]) Ze Zf ?_ (λenv H d=>?_)
 .refine G0 2 Z (Lm Z (Go 2 Z (Is 16 k Z (λB k=>?_) (λB k=>?_))))
  .exact Go 4 Z (Cl k [])
  .exact Go 4 Z (Cl k [])
 refine Gx 1 Z (Ef d (Cn Z h (λE h=>?_) (λE h=>?_)))
 .refine Gc 8 Z ?_;obtain rfl:=Oi h;exact R2 4 5 Z Z (Lr [])
 refine Gc 18 Z (Bd h λf F h=>?_);refine Ct f [] [] (λf=>[(6,I f.1),(7,I f.2)]) Ze Zf ?_ (λenv H d=>?_)
 .refine G0 1 Z ?_;refine Lp [] [0,1] (λg=>[(6,I g.1),(7,I g.2.1),(8,I g.2.2)]) Ze F Zf (Lr []) λg R a p=>?_;refine G0 2 Z (Bd a λl b a=>?_);refine Ct l [] [0,1,6,7,8] (λl=>[(31,.bool l)]) Ze Zf ?_ (λenv H d=>?_)
  .refine G0 3 Z (Lm Z (Go 2 Z (Is 24 b Z (λq b=>?_) (λq b=>?_))))
   .refine Go 4 Z (Is 28 b Z (λs b=>?_) (λs b=>?_))
    .exact Go 4 Z (Cl b [])
    .exact Go 4 Z (Cl b [])
   .exact Go 8 Z (Cl b [])
  refine Gx 1 Z (Ef d (Jb Z a (λt a=>?_) (λt a=>?_)))
  .refine Gc 2 Z (Qy a ?_);obtain rfl:=Oj p a;exact Gx 1 Z (QH (Lr []))
  refine Gc 8 Z (Bd a λG u a=>IzE u (YS G) Z (Go 4 Z (Cd [] a (e _ _) Z λT N a=>FE Z (Go 11 Z (Bd a λJ w a=>IzE w (YS J) Z (Go 4 Z (Cd [] a (e _ _) Z λV O a=>FE Z (Go 32 Z (Bd a λL x a=>IzE x (YS L) Z (Go 2 Z (Cz [] a (k_br _ _) Z λW P a=>Go 3 Z (Bd a λm c a=>?_))))))))))));refine Ct m [] [0,1,6,8] (λm=>[(7,I m)]) Ze Zf ?_ (λenv H d=>?_)
  .refine G0 0 Z (Cn Z c (λy c=>?_) (λy c=>?_))
   .exact Gc 4 Z (Bd c λM z c=>IzE z (YS M) Z (Go 2 Z (Cz [] c (k_j _ _ _) Z λX Q c=>Go 3 Z (Cl c []))))
   exact Gc 1 Z (Cl c [])
  exact Gx 2 Z (Ef d (Gc 5 Z (Qv a (Lr []))))
 refine Gx 1 Z (Ef d (Gc 9 Z ?_));obtain rfl:=Oi h;exact R2 4 5 Z Z (Lr [])
def F_l:Nat->(List Step)->Int->Option (Int×Int)
  |0=>λ_ _=>none
  |n+1=>B_l (F_l n) n
theorem k_l(n:Nat):∀(a:List Step) (b:Int) (r:Int×Int),F_l n a b=some r->Csm prog 102 [.rsl 8 (List.map Step.enc a),I b] [] (λr=>.tup [I r.1,I r.2]) r:=by
  induction n with
  |zero=>intro a b r h;cases h
  |succ n ih=>intro a b r h;exact Qbf _ ih n a b r h
def F_bk(n:Nat)(a:List Step):Option Bool:=
  (F_l n a 0).bind λb=>((bif decide ((a.length:Int)<=20)then(bif decide (b.1<=80)then some (decide (b.2<=300))else some false)else some false):Option Bool).bind λc=>some c
theorem k_bk(n:Nat)(c:List Step)(r:Bool)(h:F_bk n c=some r):
    Csm prog 53 [.rsl 8 (List.map Step.enc c)] [] (λr=>.bool r) r:=by
 refine Qb func53 Z Z Z ?_;refine G0 8 Z (Cd [] h (k_l _ _ _) Z λi g h=>FE Z (Go 8 Z (Bd h λb a h=>?_)));refine Ct b [] [] (λb=>[(2,.bool b)]) Ze Zf ?_ (λenv H d=>?_)
 .refine G0 2 Z (Lm Z (Go 2 Z (Is 13 a Z (λe a=>?_) (λe a=>?_))))
  .refine Go 4 Z (Is 17 a Z (λf a=>?_) (λf a=>?_))
   .exact Go 5 Z (Cl a [])
   .exact Go 5 Z (Cl a [])
  .exact Go 9 Z (Cl a [])
 exact Gx 1 Z (Ef d (Gc 1 Z (Rt h 2 [])))
def F_bq(n:Nat)(b:Course)(a:Int×Int):Option (Ctl (Int×Int) (Ctl Int Bool)):=
  ((bif decide (a.2<(b.Distances.length:Int))then some (decide (a.1<=200))else some false):Option Bool).bind λc=>(bif c then(idx b.Distances a.2).bind λd=>(idx b.Distances a.2).bind λe=>(F_p n e.Route).bind λf=>(idx b.Distances a.2).bind λg=>(F_m n g.Route 17).bind λh=>(bif decide (16<h)then some (.done (.done false))else some (.cont (IntKind.i64.wrap ((IntKind.i64.wrap (a.1+(d.Cutoffs.length:Int)))+f),IntKind.i64.wrap (a.2+1))))else some (.done (.cont a.1)))
def F_aa(n:Nat)(a:Course):Option Bool:=
  (iter (F_bq n a) n (IntKind.i64.wrap ((IntKind.i64.wrap ((IntKind.i64.wrap ((IntKind.i64.wrap ((IntKind.i64.wrap ((IntKind.i64.wrap ((a.Mats.length:Int)+(a.Legs.length:Int)))+(a.Distances.length:Int)))+(a.Waves.length:Int)))+(a.Offences.length:Int)))+(a.Categories.length:Int)))+(a.Prizes.length:Int)),0):Option (Ctl Int Bool)).bind λc=>match c with|.cont b=>(((bif decide (b<=200)then(bif decide ((a.Name.length:Int)<=100)then(F_bk n a.Ties).bind λd=>some d else some false)else some false):Option Bool).bind λe=>some e)|.done b=>some b
theorem k_aa(n:Nat)(q:Course)(r:Bool)(h:F_aa n q=some r):
    Csm prog 29 [.agg (Course.c q)] [] (λr=>.bool r) r:=by
 refine Qb func29 Z Z Z ?_;refine G0 10 Z (Lm Z (Go 2 Z (Lm Z (Go 3 Z (Lm Z (Go 3 Z (Lm Z (Go 3 Z (Lm Z (Go 3 Z (Lm Z (Go 3 Z (Lm Z (Go 10 Z (Bd h λF G h=>?_)))))))))))))));refine CtE (b:=F) [0] [1] (λj=>[(3,I j)]) Ze Zf ?_ (λj env H J f=>?_)
 .refine G0 1 Z ?_;refine Lp [0] [1] (λk=>[(3,I k.1),(4,I k.2)]) Ze G Zf (Lr [0]) λk O a l=>?_;refine G0 2 Z (Bd a λm g a=>?_);refine Ct m [0] [1,3,4] (λm=>[(40,.bool m)]) Ze Zf ?_ (λenv H f=>?_)
  .refine G0 4 Z (Lm Z (Go 2 Z (Is 37 g Z (λs g=>?_) (λs g=>?_))))
   .exact Go 4 Z (Cl g [0])
   .exact Go 4 Z (Cl g [0])
  refine Gx 1 Z (Ef f (Jb Z a (λt a=>?_) (λt a=>?_)))
  .refine Gc 2 Z (Qy a ?_);obtain rfl:=Oj l a;exact Gx 1 Z (QL Z (Lr [0]))
  refine Gc 5 Z (DSs 16 Z (D 4 Z ?_));obtain⟨e,u,a⟩:=Jy a;refine DS.wo (x:=.rp [.str e.Name,.rsl 3 (List.map Part.enc e.Route),I e.Timing,.rsl 3 (List.map Cutoff.c e.Cutoffs),I e.Extra]) ?_ ?_
  .exact Ix u runUnderlying24 sizeOf112 Z Wp
  refine D 2 Z ?_;refine DS.wo (x:=I (e.Cutoffs.length:Int)) ?_ ?_
  .exact LnM runUnderlying110 Z Wp
  refine D 4 Z ?_;obtain⟨i,w,a⟩:=Jy a;refine DS.wo (x:=.rp [.str i.Name,.rsl 3 (List.map Part.enc i.Route),I i.Timing,.rsl 3 (List.map Cutoff.c i.Cutoffs),I i.Extra]) ?_ ?_
  .exact Ix w runUnderlying24 sizeOf112 Z Wp
  refine D 2 Z ?_;refine Dz [] a (k_p _ _) Z λP L a=>Eh Z (Go 9 Z (Bd a λQ y a=>Iz y Z (Go 2 Z (Cz [] a (k_m _ _ _) Z λR M a=>Go 3 Z (Cn Z a (λz a=>?_) (λz a=>?_))))))
  .refine Gc 8 Z (Yx a ?_);obtain rfl:=Oj l a;exact Gx 1 Z (Q9 (Gx 1 Z (Rt h 2 [])))
  exact Gc 8 Z (Qv a (Lr [0]))
 subst J;refine Gx 1 Z (Ef f (Gc 1 Z (Bd h λp d h=>?_)));refine Ct p [] [] (λp=>[(2,.bool p)]) Ze Zf ?_ (λenv H f=>?_)
 .refine G0 4 Z (Is 70 d Z (λB d=>?_) (λB d=>?_))
  .refine Go 2 Z ?_;refine vX (I (q.Name.length:Int)) (QaW Z Z runUnderlying9 Z) ?_ (gT Z);refine Go 3 Z (Is 76 d Z (λE d=>?_) (λE d=>?_))
   .exact Go 2 Z (Cz [] d (k_bk _ _) Z λT N d=>Go 3 Z (Cl d []))
   .exact Go 6 Z (Cl d [])
  .exact Go 12 Z (Cl d [])
 exact Gx 1 Z (Ef f (Gc 1 Z (Rt h 2 [])))
def F_db(n:Nat)(a:Course)(b:List Fact):Option Bool:=
  ((F_aa n a).bind λc=>(bif c then some (decide ((b.length:Int)<=14))else some false):Option Bool).bind λd=>some d
theorem k_db(n:Nat)(d:Course)(e:List Fact)(r:Bool)(h:F_db n d e=some r):
    Csm prog 12 [.agg (Course.c d),.rsl 57 (List.map Fact.c e)] [] (λr=>.bool r) r:=by
 refine Qb func12 Z Z Z ?_;refine G0 7 Z (Bd h λb a h=>?_);refine Ct b [] [] (λb=>[(4,.bool b)]) Ze Zf ?_ (λenv H f=>?_)
 .refine G0 2 Z (Cz [] a (k_aa _ _) Z λj i a=>Go 1 Z (Is 7 a Z (λg a=>?_) (λg a=>?_)))
  .exact Go 1 Z (Lm Z (Go 4 Z (Cl a [])))
  .exact Go 6 Z (Cl a [])
 exact Gx 1 Z (Ef f (Gc 1 Z (Rt h 4 [])))
def F_fv(n:Nat)(b:List Penalty)(a:Int):Option (Ctl Int (Ctl Unit Bool)):=
  (bif decide (a<(b.length:Int))then((idx b (IntKind.i64.wrap (a-1))).bind λc=>(idx b a).bind λd=>(bif decide (d.Position<c.Position)then some true else(idx b a).bind λe=>some (decide (e.Laps<0))):Option Bool).bind λf=>(bif f then some (.done (.done false))else some (.cont (IntKind.i64.wrap (a+1))))else some (.done (.cont ())))
def F_ff(n:Nat)(i:Course)(j:Int)(k:List Penalty)(c:Int)(b:(List Starter)×Int)(a:Int):Option (Ctl Int (Ctl Unit Bool)):=
  (bif decide (a<(b.1.length:Int))then(idx b.1 a).bind λd=>(bif (d.Bib==j)then(idx b.1 a).bind λe=>(F_v n i e.Distance c).bind λf=>(F_al n k 256).bind λg=>((bif (f.2==0)then(bif decide (0<=c)then some (g.2.1==c)else some false)else some false):Option Bool).bind λh=>some (.done (.done h))else some (.cont (IntKind.i64.wrap (a+1))))else some (.done (.cont ())))
def F_fj(n:Nat)(a:Course)(d:List Fact)(g:Int):Option Bool:=
  (F_ez 300).bind λm=>(bif (!m)then some false else(F_db n a d).bind λp=>(bif (!p)then some true else(F_r n a d g).bind λe=>(F_ai n a d g).bind λh=>(iter (F_fv n e) n 1:Option (Ctl Unit Bool)).bind λj=>match j with|.cont b=>((F_ac n a d).bind λf=>(bif (f.2 != 0)then((bif ((e.length:Int)==0)then some (h==0)else some false):Option Bool).bind λk=>some k else(iter (F_ff n a g e h f) n 0:Option (Ctl Unit Bool)).bind λl=>match l with|.cont c=>(((bif ((e.length:Int)==0)then some (h==0)else some false):Option Bool).bind λi=>some i)|.done c=>some c))|.done b=>some b))
theorem k_fj(n:Nat)(a1:Course)(a2:List Fact)(a3:Int)(r:Bool)(h:F_fj n a1 a2 a3=some r):
    Csm prog 6 [.agg (Course.c a1),.rsl 57 (List.map Fact.c a2),I a3] [] (λr=>.bool r) r:=by
 refine Qb func6 Z Z Z ?_;refine G0 9 Z (Cz [] h (k_ez _) Z λr1 aq h=>Go 3 Z (Cn Z h (λaa h=>?_) (λaa h=>?_)))
 .exact Gc 7 Z (Rt h 6 [])
 refine Gc 7 Z (Cz [] h (k_db _ _ _) Z λr3 ar h=>Go 3 Z (Cn Z h (λab h=>?_) (λab h=>?_)))
 .exact Gc 7 Z (Rt h 6 [])
 refine Gc 7 Z (Cd [] h (k_r _ _ _ _) Z λr5 au h=>FE Z (Go 8 Z (Cz [] h (k_ai _ _ _ _) Z λr6 av h=>Go 9 Z (Bd h λac ae h=>?_))));refine CtE (b:=ac) [0,1] [1,2,3,7,8] Ze Ze Zf ?_ (λam env H q e=>?_)
 .refine G0 1 Z ?_;refine Lp [0,1] [1,2,3,7,8] (λj=>[(9,I j)]) Ze ae Zf (Lr [0,1]) λj aw d s=>?_;refine G0 9 Z (Jb Z d (λM d=>?_) (λM d=>?_))
  .refine Gc 2 Z (Qy d ?_);obtain rfl:=Oj s d;exact Gx 1 Z (QL Z (Lr [0,1]))
  refine Gc 5 Z (Bd d λt g d=>?_);refine Ct t [0,1] [1,2,3,7,8,9] (λt=>[(57,.bool t)]) Ze Zf ?_ (λenv H e=>?_)
  .refine G0 0 Z (DSs 15 Z (D 3 Z ?_));obtain⟨af,u,g⟩:=Jy g;refine DS.v (x:=(.ptr 1 (Int.toNat (IntKind.i64.wrap (j-1))*4))) (QJ u Z runUnderlying38 sizeOf50) ?_;refine DS.wo (x:=.ptr 1 (Int.toNat (IntKind.i64.wrap (j-1))*4)) ?_ ?_
   .exact Fp Qk8 Z Wp
   refine DS.v (x:=(I af.Position)) (Ez Z isAgg3 Z (Qq u)) ?_;refine D 2 Z ?_;obtain⟨ag,w,g⟩:=Jy g;refine DS.v (x:=(.ptr 1 (Int.toNat j*4))) (QJ w Z runUnderlying38 sizeOf50) ?_;refine DS.wo (x:=.ptr 1 (Int.toNat j*4)) ?_ ?_
   .exact Fp Qk8 Z Wp
   refine DS.v (x:=(I ag.Position)) (Ez Z isAgg3 Z (Qq w)) ?_;refine D 2 Z (Qlt 12 g Z Z Z (λN g=>?_) (λN g=>?_))
   .exact D 2 Z (Eh Z (Go 6 Z (Cl g [0,1])))
   .refine D 2 Z (Eh Z (Bd g λah y g=>?_));refine vX (.ptr 1 (Int.toNat j*4)) (QJ y Z runUnderlying38 sizeOf50) ?_ (gT Z);refine Fpg (gT Z) QhJ Z ?_;refine vX (I ah.Laps) (Ez Z isAgg3 Z (Qcl (f:=2) y)) ?_ (gT Z);exact Go 3 Z (Cl g [0,1])
  refine Gx 1 Z (Ef e (Cn Z d (λO d=>?_) (λO d=>?_)))
  .refine Gc 8 Z (Yx d ?_);obtain rfl:=Oj s d;exact Gx 1 Z (Q9 (Gx 1 Z (Rt h 6 [])))
  exact Gc 8 Z (Qv d (Lr [0,1]))
 subst q;refine Gx 1 Z (Ef e (Gc 4 Z (Cd [] h (k_ac _ _ _) Z λax an h=>FE Z (Go 14 Z (Cn Z h (λP h=>?_) (λP h=>?_))))))
 .refine Gc 1 Z (Bd h λz l h=>?_);refine Ct z [] [] (λz=>[(6,.bool z)]) Ze Zf ?_ (λenv H e=>?_)
  .refine G0 5 Z (Is 69 l Z (λQ l=>?_) (λQ l=>?_))
   .exact Go 5 Z (Cl l [])
   .exact Go 5 Z (Cl l [])
  exact Gx 1 Z (Ef e (Gc 2 Z (Rt h 6 [])))
 refine Gc 8 Z (Bd h λai aj h=>?_);refine CtE (b:=ai) [1] [7,8] Ze Ze Zf ?_ (λao env H q e=>?_)
 .refine G0 1 Z ?_;refine Lp [0,1,2] [2,3,7,8,10] (λm=>[(12,I m)]) Ze aj Zf (Lr [0,1,2]) λm ay a B=>?_;refine G0 9 Z (Jb Z a (λR a=>?_) (λR a=>?_))
  .refine Gc 2 Z (Qy a ?_);obtain rfl:=Oj B a;exact Gx 1 Z (QL Z (Lr [1]))
  refine Gc 8 Z (Bd a λak E a=>?_);refine vX (.ptr 2 (Int.toNat m*8)) (QJ E Z runUnderlying51 sizeOf56) ?_;refine Fp Qpr Z ?_;refine vX (I ak.Bib) (Ez Z isAgg3 Z (Qq E)) ?_;refine Go 4 Z (Cn Z a (λT a=>?_) (λT a=>?_))
  .refine Gc 1 Z (DSs 12 Z (D 3 Z ?_));obtain⟨al,F,a⟩:=Jy a;refine DS.v (x:=(.ptr 2 (Int.toNat m*8))) (QJ F Z runUnderlying51 sizeOf56) ?_;refine DS.wo (x:=.ptr 2 (Int.toNat m*8+1)) ?_ ?_
   .exact Fp Qk7 Z Wp
   refine DS.v (x:=(I al.Distance)) (Ez Z isAgg3 Z (Qcl (f:=1) F)) ?_;refine D 1 Z ?_;obtain⟨L,V,a⟩:=Jy a;refine DS.wo (x:=.tup [.rsl 1 (List.map (Qf .i64) L.1),I L.2]) ?_ ?_
   .refine Qz [] (OpC.fn call24 Z Z Z) (k_v _ _ _ _ _ V) ?_;rintro _ _ ⟨rfl,rfl⟩;exact FE Z Wp
   refine D 4 Z (Eh Z (Go 6 Z (Bd a λaz W a=>?_)));refine QfS (OpC.fn call21 rfl rfl rfl) (Qbo.cons rfl (.inr ⟨_,_,_,_,_,rfl,rfl,X7 ..,rfl⟩) (Qbo.cons rfl (.inl ⟨rfl,rfl⟩) Qbo.nil)) (k_al _ _ _ _ W) (by rintro _ _ ⟨rfl,rfl⟩;rfl) ?_;rintro _ _ ⟨rfl,rfl⟩;refine FE Z (Go 10 Z (Bd a λG i a=>?_));refine Ct G [] [] (λG=>[(6,.bool G)]) Ze Zf ?_ (λenv H e=>?_)
   .refine G0 4 Z (Is 105 i Z (λX i=>?_) (λX i=>?_))
    .refine Go 4 Z (Is 109 i Z (λY i=>?_) (λY i=>?_))
     .exact Go 6 Z (Cl i [])
     .exact Go 6 Z (Cl i [])
    .exact Go 10 Z (Cl i [])
   refine Gx 1 Z (Ef e (Gc 3 Z (Yx a ?_)));obtain rfl:=Oj B a;exact Gx 1 Z (Q9 (Gx 1 Z (Rt h 6 [])))
  exact Gc 8 Z (Qv a (Lr [0,1,2]))
 subst q;refine Gx 1 Z (Ef e (Gc 1 Z (Bd h λp k h=>?_)));refine Ct p [] [] (λp=>[(6,.bool p)]) Ze Zf ?_ (λenv H e=>?_)
 .refine G0 5 Z (Is 117 k Z (λJ k=>?_) (λJ k=>?_))
  .exact Go 5 Z (Cl k [])
  .exact Go 5 Z (Cl k [])
 exact Gx 1 Z (Ef e (Gc 1 Z (Rt h 6 [])))
end Go.Sw
