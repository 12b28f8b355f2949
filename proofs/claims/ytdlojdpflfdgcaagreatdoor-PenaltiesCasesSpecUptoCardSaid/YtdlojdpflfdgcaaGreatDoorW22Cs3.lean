/- What the functions compute that PenaltiesCasesSpec reaches, and that their calls refine it (part 3 of 5). -/
import Derived.Test.YtdlojdpflfdgcaaGreatDoorW22Cs2
set_option linter.unusedVariables false
set_option linter.unusedSimpArgs false
set_option maxRecDepth 100000
set_option maxHeartbeats 4000000
namespace Go.Sw
variable (n:Nat)
open List(map)
open Int(toNat)
open Go.IntKind(i64 u64 u8)
open Go.Proofs Tryz
def F_kp(n:Nat)(e:List Report)(a:(List (Int×Report))×(List (Int×Bool))×Int):Option (Ctl ((List (Int×Report))×(List (Int×Bool))×Int) ((List (Int×Report))×(List (Int×Bool)))):=(bif decide (a.2.2<(e.length:Int))then(idx e a.2.2).bind λd=>(some (QQ a.1 d.Case d)).bind λf=>(some (QQ a.2.1 d.Case true)).bind λg=>some (.cont (f,g,i64.wrap (a.2.2+1)))else some (.done (a.1,a.2.1)))
def F_ks(n:Nat)(e:List Ruling)(a:(List (Int×Ruling))×(List (Int×Bool))×Int):Option (Ctl ((List (Int×Ruling))×(List (Int×Bool))×Int) ((List (Int×Ruling))×(List (Int×Bool)))):=(bif decide (a.2.2<(e.length:Int))then(idx e a.2.2).bind λd=>(some (QQ a.1 d.Case d)).bind λf=>(some (QQ a.2.1 d.Case true)).bind λg=>some (.cont (f,g,i64.wrap (a.2.2+1)))else some (.done (a.1,a.2.1)))
def F_fj(p:Course)(m:(List (Int×Report))×(List (Int×Bool)))(i:(List (Int×Ruling))×(List (Int×Bool)))(y:List (Int×Uc))(q:List Int)(e:Int):Option ((List Ud)×Ctl Int Unit):=(bif decide (e<(q.length:Int))then(idx q e).bind λa=>(some (Q2 i.1 a Ux)).bind λd=>Qfx (YQ y d.Kind) (((bif QaA i.1 a then some ()else some ()):Option Unit).bind λz=>((bif QaA i.1 a then some (d.Kind==2)else some false):Option Bool).bind λr=>(bif r then some ([],.cont (i64.wrap (e+1)))else(some (Q2 m.1 a Uw)).bind λf=>((bif (!(QaA m.1 a))then some true else(bif decide (f.Offence<0)then some true else some (decide ((p.Offences.length:Int)<=f.Offence)))):Option Bool).bind λs=>(bif s then some ([],.cont (i64.wrap (e+1)))else(idx p.Offences f.Offence).bind λj=>yl ({number:=a,bib:=f.Bib,penalty:={Position:=f.Position,Time:=j.Time,Laps:=j.Laps,Out:=j.Out:Penalty}:Ud}) (some ([],.cont (i64.wrap (e+1))))))) λk=>((bif QaA i.1 a then some true else some false):Option Bool).bind λt=>((bif t then(bif (k.penalty==115)then(F_je n d).bind λB=>some (.cont ({number:=a,bib:=d.Bib,penalty:={Position:=d.Position,Time:=d.Amount,Laps:=0,Out:=false:Penalty}:Ud}))else(bif (k.penalty==116)then(F_ia n d).bind λE=>some (.cont ({number:=a,bib:=d.Bib,penalty:={Position:=d.Position,Time:=0,Laps:=d.Amount,Out:=false:Penalty}:Ud}))else(bif (k.penalty==117)then(F_ip n d).bind λF=>some (.cont ({number:=a,bib:=d.Bib,penalty:={Position:=d.Position,Time:=0,Laps:=0,Out:=true:Penalty}:Ud}))else none)))else((bif QaA i.1 a then some (d.Kind==2)else some false):Option Bool).bind λu=>(bif u then some (.done ([],.cont (i64.wrap (e+1))))else(some (Q2 m.1 a Uw)).bind λg=>((bif (!(QaA m.1 a))then some true else(bif decide (g.Offence<0)then some true else some (decide ((p.Offences.length:Int)<=g.Offence)))):Option Bool).bind λw=>(bif w then some (.done ([],.cont (i64.wrap (e+1))))else(idx p.Offences g.Offence).bind λl=>some (.cont ({number:=a,bib:=g.Bib,penalty:={Position:=g.Position,Time:=l.Time,Laps:=l.Laps,Out:=l.Out:Penalty}:Ud}))))):Option (Ctl Ud ((List Ud)×Ctl Int Unit))).bind λx=>match x with|.cont h=>(yl h (some ([],.cont (i64.wrap (e+1)))))|.done h=>some h else some ([],.done ()))
def F_cg(e:List Fact)(i:Course):Option ((List Ud)×Unit):=(F_dc n e).bind λj=>(iter (F_kp n j) n ([],[],0):Option ((List (Int×Report))×(List (Int×Bool)))).bind λd=>(F_di n e).bind λf=>(iter (F_ks n f) n ([],d.2,0):Option ((List (Int×Ruling))×(List (Int×Bool)))).bind λa=>(F_jq n).bind λg=>(F_fm n a.2).bind λl=>(F_el n a.2).bind λh=>ap (QcC (F_fj n i d a g h) n 0) λk=>some ([],())
theorem k_cg(t:List Fact)(w:Course)(p:(List Ud)×Unit)(h:F_cg n t w=some p):Qit prog 44 [.ptr 0 0,.ptr 1 0] [.cells 34 [.rsl 57 (map Fact.c t)],.cells 33 (Course.c w)] (λx=>[.agg (Ud.c x)]) nxL p.1:=by
 obtain⟨xs,u⟩:=p;refine QeC func44 Z Z Z Z ?_;intro X hE hN;refine Gy0 1 Z (TCy.lf ?_);refine G0 1 Z (vH Yf ?_);refine FE Z (vH Yf ?_);refine Fg 3 Z Z ?_;refine Gyx 2 Z (TCy.lf ?_);refine G0 1 Z (vH Yf ?_);refine Fg 2 Z Z ?_;refine Gyx 2 Z (TCy.lf ?_);refine G0 3 Z (Cd [] h (k_dc _ _) Z λr1 cy h=>Fg 4 Z Z (Bd h λj cj h=>Ct j [0,1,2,3,4] [0,1,2,4,5,6] Ze (λj=>[(2,.map (Qo (λx=>A.int .i64 x) (λx=>A.agg (Report.c x)) j.1)),(4,.map (Qo (λx=>A.int .i64 x) A.bool j.2))]) Zf ?_ (λenv H q=>?_)))
 .refine G0 1 Z (Lp [0,1,2,3,4,5] [0,1,2,4,5,6,26,27] (λL=>[(28,I L.2.2)]) (λL=>[(2,.map (Qo (λx=>A.int .i64 x) (λx=>A.agg (Report.c x)) L.1)),(4,.map (Qo (λx=>A.int .i64 x) A.bool L.2.1))]) cj Zf (Lr [0,1,2,3,4,5]) λL cz M br=>?_);refine G0 6 Z (Q8 Z M (λ_ M=>?_) (λ_ M=>?_))
  .exact Gc 2 Z (Ql M (Gx 1 Z (cQo br M (Lr [0,1,2,3,4]))))
  refine Gc 6 Z (Bd M λP am M=>?_);refine vX (.ptr 5 (toNat L.2.2*4)) (Qv am Z EQ E3) ?_;refine vX (.agg (Report.c P)) (Qs Z GG E3 Z (Qi am) Z Z) ?_;refine Go 4 Z ?_;obtain⟨bp,bt,M⟩:=YM M;refine YS 8 0 [32,33,34,35,36,37,38,1000007] [false,false,false,false,false,false,false,true] [[],[],[],[],[],[],[],[]] [[],[7]] [[(0,0)],[(0,0)],[(0,0)],[(0,0),(1,1)],[(0,0),(1,1)],[(0,0),(1,1)],[(0,0)],[(0,1)]] [.map 2,.ptr 6 0,I P.Case,.map 4,.ptr 6 0,I P.Case,.agg (Report.c P),.any] [[.cells 34 [.rsl 57 (map Fact.c t)],.cells 33 (Course.c w),.map (Qo (λx=>A.int .i64 x) (λx=>A.agg (Report.c x)) L.1),.map (Qo (λx=>A.int .i64 x) (λx=>A.agg (Ruling.c x)) []),.map (Qo (λx=>A.int .i64 x) A.bool L.2.1),.row 62 4 (map Report.c r1),.cells 62 (Report.c P)],[.cells 34 [.rsl 57 (map Fact.c t)],.cells 33 (Course.c w),.map (Qo (λx=>A.int .i64 x) (λx=>A.agg (Report.c x)) bp),.map (Qo (λx=>A.int .i64 x) (λx=>A.agg (Ruling.c x)) []),.map (Qo (λx=>A.int .i64 x) A.bool L.2.1),.row 62 4 (map Report.c r1),.cells 62 (Report.c P)]] ([.cells 34 [.rsl 57 (map Fact.c t)],.cells 33 (Course.c w),.map (Qo (λx=>A.int .i64 x) (λx=>A.agg (Report.c x)) bp),.map (Qo (λx=>A.int .i64 x) (λx=>A.agg (Ruling.c x)) []),.map (Qo (λx=>A.int .i64 x) A.bool L.2.1),.row 62 4 (map Report.c r1),.cells 62 (Report.c P)]) draws Z Z Z Z Z Z Z ?_ Z ?_
  .refine QiA.cons (Qb (v0 Z Z) (Qd)) (QiA.cons (Qb (v0 Z Z) (Qd)) (QiA.cons (Qb (v0 Z Z) (Qd)) (QiA.cons (Qb (v0 Z Z) (Qb (v0 Z Z) (Qd))) (QiA.cons (Qb (v0 Z Z) (Qb (v0 Z Z) (Qd))) (QiA.cons (Qb (v0 Z Z) (Qb (v0 Z Z) (Qd))) (QiA.cons (Qb (v0 Z Z) (Qd)) (QiA.cons ?_ (QiA.nil))))))))
   .refine Qb ?_ (Qd)
    .refine Om2 Z (sD 0 (sD 2 (sD 6 sN))) ?_;refine vU (Ye (ev:=(λx=>A.agg (Report.c x))) (k:=P.Case) (v:=P) (l:=L.1) Y2 bt Z GJ) ?_;exact FE Z Wp
  refine Bd M λda bu M=>?_;refine vU (Ye (ev:=A.bool) (k:=P.Case) (v:=true) (l:=L.2.1) Y2 bu Z Gp) ?_;exact Fg 7 Z Z (Qj M (Lr [0,1,2,3,4,5]))
 refine Gyx 1 Z (Qgi q (Gyc 1 Z (TCy.lf ?_)));refine G0 3 Z (Cd [] h (k_di _ _) Z λan cl h=>Fg 4 Z Z (Bd h λm ck h=>Ct m [0,1,2,3,4] [0,2,4,5,6] Ze (λm=>[(3,.map (Qo (λx=>A.int .i64 x) (λx=>A.agg (Ruling.c x)) m.1)),(4,.map (Qo (λx=>A.int .i64 x) A.bool m.2))]) Zf ?_ (λenv H q=>?_)))
 .refine G0 1 Z (Lp [0,1,2,3,4,5] [0,2,4,5,6,41,42] (λN=>[(43,I N.2.2)]) (λN=>[(3,.map (Qo (λx=>A.int .i64 x) (λx=>A.agg (Ruling.c x)) N.1)),(4,.map (Qo (λx=>A.int .i64 x) A.bool N.2.1))]) ck Zf (Lr [0,1,2,3,4,5]) λN db O bv=>?_);refine G0 6 Z (Q8 Z O (λ_ O=>?_) (λ_ O=>?_))
  .exact Gc 2 Z (Ql O (Gx 1 Z (cQo bv O (Lr [0,1,2,3,4]))))
  refine Gc 6 Z (Bd O λQ ao O=>?_);refine vX (.ptr 5 (toNat N.2.2*6)) (Qv ao Z Gk E4) ?_;refine vX (.agg (Ruling.c Q)) (Qs Z Gz E4 Z (Qi ao) Z Z) ?_;refine Go 4 Z ?_;obtain⟨bq,bx,O⟩:=YM O;refine YS 8 0 [47,48,49,50,51,52,53,1000007] [false,false,false,false,false,false,false,true] [[],[],[],[],[],[],[],[]] [[],[7]] [[(0,0)],[(0,0)],[(0,0)],[(0,0),(1,1)],[(0,0),(1,1)],[(0,0),(1,1)],[(0,0)],[(0,1)]] [.map 3,.ptr 6 0,I Q.Case,.map 4,.ptr 6 0,I Q.Case,.agg (Ruling.c Q),.any] [[.cells 34 [.rsl 57 (map Fact.c t)],.cells 33 (Course.c w),.map (Qo (λx=>A.int .i64 x) (λx=>A.agg (Report.c x)) j.1),.map (Qo (λx=>A.int .i64 x) (λx=>A.agg (Ruling.c x)) N.1),.map (Qo (λx=>A.int .i64 x) A.bool N.2.1),.row 66 6 (map Ruling.c an),.cells 66 (Ruling.c Q)],[.cells 34 [.rsl 57 (map Fact.c t)],.cells 33 (Course.c w),.map (Qo (λx=>A.int .i64 x) (λx=>A.agg (Report.c x)) j.1),.map (Qo (λx=>A.int .i64 x) (λx=>A.agg (Ruling.c x)) bq),.map (Qo (λx=>A.int .i64 x) A.bool N.2.1),.row 66 6 (map Ruling.c an),.cells 66 (Ruling.c Q)]] ([.cells 34 [.rsl 57 (map Fact.c t)],.cells 33 (Course.c w),.map (Qo (λx=>A.int .i64 x) (λx=>A.agg (Report.c x)) j.1),.map (Qo (λx=>A.int .i64 x) (λx=>A.agg (Ruling.c x)) bq),.map (Qo (λx=>A.int .i64 x) A.bool N.2.1),.row 66 6 (map Ruling.c an),.cells 66 (Ruling.c Q)]) draws Z Z Z Z Z Z Z ?_ Z ?_
  .refine QiA.cons (Qb (v0 Z Z) (Qd)) (QiA.cons (Qb (v0 Z Z) (Qd)) (QiA.cons (Qb (v0 Z Z) (Qd)) (QiA.cons (Qb (v0 Z Z) (Qb (v0 Z Z) (Qd))) (QiA.cons (Qb (v0 Z Z) (Qb (v0 Z Z) (Qd))) (QiA.cons (Qb (v0 Z Z) (Qb (v0 Z Z) (Qd))) (QiA.cons (Qb (v0 Z Z) (Qd)) (QiA.cons ?_ (QiA.nil))))))))
   .refine Qb ?_ (Qd)
    .refine Om2 Z (sD 0 (sD 2 (sD 6 sN))) ?_;refine vU (Ye (ev:=(λx=>A.agg (Ruling.c x))) (k:=Q.Case) (v:=Q) (l:=N.1) Y2 bx Z underlying133) ?_;exact FE Z Wp
  refine Bd O λdc bz O=>?_;refine vU (Ye (ev:=A.bool) (k:=Q.Case) (v:=true) (l:=N.2.1) Y2 bz Z Gp) ?_;exact Fg 7 Z Z (Qj O (Lr [0,1,2,3,4,5]))
 refine Gyx 1 Z (Qgi q (Gyc 1 Z (TCy.lf ?_)));refine G0 1 Z (Cd [] h (k_jq _) Z λr cm h=>Fg 2 Z Z ?_);refine Gyx 2 Z (TCy.lf ?_);refine G0 2 Z (Cd [4] h (k_fm _ _) Z λde cn h=>FE Z (Cd [6,4] h (k_el _ _) Z λy co h=>Fg 3 Z Z ?_));refine Gyx 1 Z ?_;obtain⟨cp,ca,cb,cc,cd,rfl⟩:=Qqj h;rw[Vc];refine QjY ca (cb++[]) [0,1] [0] Ze Ze Zf ?_ (λenv H q=>?_)
 .refine Gy0 1 Z ?_;refine Qo0 [0,1,2,3,5,7] [0,2,4,5,11,58,59] (λaa=>[(60,I aa)]) Ze cc Zf (Lr [0,1,2,3,5,7]) λaa cq cr cs d aq=>?_;refine Gy0 1 Z (TCy.lf ?_);refine G0 3 Z ?_;refine Gyx 2 Z (TCy.lf ?_);refine G0 0 Z (Q8 Z d (λ_ d=>?_) (λ_ d=>?_))
  .refine Gc 1 Z ?_;refine Gyx 1 Z ?_;obtain⟨rfl,rfl,rfl⟩:=Oy aq d;exact Qn6 (Gyx 1 Z (Qqh (Lr [0,1])))
  refine Gc 1 Z ?_;refine Gyx 4 Z (TCy.lf ?_);refine G0 1 Z (Bd d λg ai d=>?_);refine vX (.ptr 5 (toNat aa*1)) (Qv ai Z EA EE) ?_;refine vX (I g) (Ey Z EF Z (Qi ai)) ?_;refine Go 2 Z ?_;refine Gyx 2 Z (TCy.lf ?_);refine G0 3 Z (Bd d λf au d=>?_);refine vX (.tup [.agg (Ruling.c f),.bool (QaA m.1 g)]) (QbB (ev:=(λx=>A.agg (Ruling.c x))) (z0:=Ux) (k:=g) (l:=m.1) Y2 au underlying133 zeroValue66 (zrC Z)) ?_;refine Go 7 Z ?_;refine Gyx 2 Z (TCy.lf ?_);refine G0 6 Z ?_;refine Gyx 2 Z (TCy.lf ?_);refine G0 5 Z ?_;rcases Qn5 d with⟨ab,d⟩|⟨ce,ab,d⟩
  .refine vX (.tup [.agg [.nilf],.bool false]) (Qnp (ev:=(λx=>A.agg (Uc.c x))) (l:=r) (k:=f.Kind) Y2 ab Gs zeroValue144 (ZR.agg (zc ZR.nilf ZL.nil))) ?_;refine Go 10 Z (Bd d λcf R d=>Ct cf [0,1,2,3,4,6,7,8,5] [0,2,4,5,11,13,14,15,16,17,58,59,60] (λ_=>[(119,.bool false)]) Ze Zf ?_ (λenv H q=>?_))
   .refine G0 3 Z (Is 121 R Z (λ_ R=>?_) (λ_ R=>?_))
    iterate 2 exact Gl 4 Z R [0,1,2,3,4,6,7,8,5]
   refine Gx 1 Z (Qf q (Gc 2 Z (Bd d λac T d=>Ct ac [0,1,2,3,4,6,8] [0,2,4,5,11,13,16,58,59,60] (λac=>[(132,.bool ac)]) Ze Zf ?_ (λenv H q=>?_))))
   .refine G0 3 Z (Is 134 T Z (λ_ T=>?_) (λ_ T=>?_))
    iterate 2 exact Gl 6 Z T [0,1,2,3,4,6,8]
   refine Gx 1 Z (Qf q (Cn Z d (λ_ d=>?_) (λ_ d=>?_)))
   .refine Gc 2 Z ?_;refine Gyx 3 Z (TCy.lf ?_);refine G0 4 Z ?_;exact Gyx 0 Z (QcS d (Lr [0,1,2,3,4,6]))
   refine Gc 4 Z (Bd d λB ay d=>?_);refine vX (.tup [.agg (Report.c B),.bool (QaA j.1 g)]) (QbB (ev:=(λx=>A.agg (Report.c x))) (z0:=Uw) (k:=g) (l:=j.1) Y2 ay GJ GF (zrC Z)) ?_;refine Go 10 Z (Bd d λae E d=>Ct ae [0,1,2,3,4,5,7,6] [0,2,4,5,11,16,19,58,59,60] (λae=>[(99,.bool ae)]) Ze Zf ?_ (λenv H q=>?_))
   .refine G0 4 Z (Is 87 E Z (λ_ E=>?_) (λ_ E=>?_))
    .exact Gl 13 Z E [0,1,2,3,4,5,7,6]
    .refine Go 5 Z (Is 92 E Z (λ_ E=>?_) (λ_ E=>?_))
     .exact Gl 8 Z E [0,1,2,3,4,5,7,6]
     .exact Go 4 Z (Lm Z (Gl 3 Z E [0,1,2,3,4,5,7,6]))
   refine Gx 1 Z (Qf q (Cn Z d (λ_ d=>?_) (λ_ d=>?_)))
   .refine Gc 3 Z ?_;refine Gyx 3 Z (TCy.lf ?_);refine G0 4 Z ?_;exact Gyx 0 Z (QcS d (Lr [0,1,2,3,4,7]))
   refine Gc 8 Z (Bd d λs bc d=>Iz bc Z (Go 5 Z ?_));refine YS 13 0 [106,107,108,109,110,111,112,113,114,115,116,117,1000012] [false,false,false,false,false,false,false,false,false,false,false,false,true] [[],[],[],[],[],[],[],[],[],[],[],[],[]] [[],[12]] [[(0,0)],[(0,0)],[(0,0),(1,1)],[(0,0),(1,1)],[(0,0),(1,1)],[(0,0),(1,1)],[(0,0),(1,1)],[(0,0),(1,1)],[(0,0),(1,1)],[(0,0),(1,1)],[(0,0),(1,1)],[(0,0)],[(0,1)]] [.ptr 6 1,I B.Bib,.ptr 6 3,I B.Position,.ptr 8 1,I s.Time,.ptr 8 2,I s.Laps,.ptr 8 3,.bool s.Out,.agg [I B.Position,I s.Time,I s.Laps,.bool s.Out],.ptr 5 1,.any] [[.cells 34 [.rsl 57 (map Fact.c t)],.cells 33 (Course.c w),.map (Qo (λx=>A.int .i64 x) (λx=>A.agg (Report.c x)) j.1),.map (Qo (λx=>A.int .i64 x) (λx=>A.agg (Ruling.c x)) m.1),.map (Qo (λx=>A.int .i64 x) (λx=>A.agg (Uc.c x)) r),.cells 84 [I g,I 0,I 0,I 0,I 0,.bool false],.cells 62 (Report.c B),.row 3 1 (map (Qe .i64) y),.cells 114 (Offence.c s)],[.cells 34 [.rsl 57 (map Fact.c t)],.cells 33 (Course.c w),.map (Qo (λx=>A.int .i64 x) (λx=>A.agg (Report.c x)) j.1),.map (Qo (λx=>A.int .i64 x) (λx=>A.agg (Ruling.c x)) m.1),.map (Qo (λx=>A.int .i64 x) (λx=>A.agg (Uc.c x)) r),.cells 84 [I g,I B.Bib,I 0,I 0,I 0,.bool false],.cells 62 (Report.c B),.row 3 1 (map (Qe .i64) y),.cells 114 (Offence.c s)]] ([.cells 34 [.rsl 57 (map Fact.c t)],.cells 33 (Course.c w),.map (Qo (λx=>A.int .i64 x) (λx=>A.agg (Report.c x)) j.1),.map (Qo (λx=>A.int .i64 x) (λx=>A.agg (Ruling.c x)) m.1),.map (Qo (λx=>A.int .i64 x) (λx=>A.agg (Uc.c x)) r),.cells 84 [I g,I B.Bib,I 0,I 0,I 0,.bool false],.cells 62 (Report.c B),.row 3 1 (map (Qe .i64) y),.cells 114 (Offence.c s)]) draws Z Z Z Z Z Z Z ?_ Z ?_
   .refine QiA.cons (Qb (v0 Z Z) (Qd)) (QiA.cons (Qb (v0 Z Z) (Qd)) (QiA.cons (Qb (v0 Z Z) (Qb (v0 Z Z) (Qd))) (QiA.cons (Qb (v0 Z Z) (Qb (v0 Z Z) (Qd))) (QiA.cons (Qb (v0 Z Z) (Qb (v0 Z Z) (Qd))) (QiA.cons (Qb (v0 Z Z) (Qb (v0 Z Z) (Qd))) (QiA.cons (Qb (v0 Z Z) (Qb (v0 Z Z) (Qd))) (QiA.cons (Qb (v0 Z Z) (Qb (v0 Z Z) (Qd))) (QiA.cons (Qb (v0 Z Z) (Qb (v0 Z Z) (Qd))) (QiA.cons (Qb (v0 Z Z) (Qb (v0 Z Z) (Qd))) (QiA.cons (Qb (v0 Z Z) (Qb (v0 Z Z) (Qd))) (QiA.cons (Qb (v0 Z Z) (Qd)) (QiA.cons ?_ (QiA.nil)))))))))))))
    .refine Qb ?_ (Qd)
     .refine Om2 Z (sD 1 (sD 11 sN)) ?_;refine vU (Ex Z Z Z EE Z Z Z Z Z Z Z) ?_;exact FE Z Wp
   refine Go 4 Z ?_;refine Gyx 5 Z ?_;obtain⟨ct,cg,rfl⟩:=QnB d;refine Qk6 (x:={number:=g,bib:=B.Bib,penalty:={Position:=B.Position,Time:=s.Time,Laps:=s.Laps,Out:=s.Out:Penalty}:Ud}) (e:=λx=>.agg (Ud.c x)) hE hN Z Z Z Z ?_ ?_
   .refine Gyo 3 Z (TCy.lf ?_);refine G0 2 Z ?_;refine Gyx 2 Z (TCy.lf ?_);refine G0 4 Z ?_;exact Gyx 0 Z (QcS cg (Lr [0,1,2,3,4,7]))
   .exact Gyo 7 Z (QkA (Gyx 1 Z (QoP (⟨.inr Z,.inr ⟨_,Z⟩⟩))))
  .refine vX (.tup [.agg [.fn (.func ce.penalty) [] []],.bool true]) (Qno (ev:=(λx=>A.agg (Uc.c x))) (l:=r) (k:=f.Kind) Y2 ab Gs) ?_;refine Go 10 Z (Bd d λaf V d=>Ct af [0,1,2,3,4,6,7,8,5] [0,2,4,5,11,13,14,15,16,17,58,59,60] (λaf=>[(119,.bool af)]) Ze Zf ?_ (λenv H q=>?_))
   .refine G0 3 Z (Is 121 V Z (λ_ V=>?_) (λ_ V=>?_))
    iterate 2 exact Gl 4 Z V [0,1,2,3,4,6,7,8,5]
   refine Gx 1 Z (Qf q (Bd d λch a d=>CtE (b:=ch) [0,1,2,3,4,6,8] [0,2,4,5,11,16,58,59,60] Ze (λY=>[(5,.cells 84 (Ud.c Y))]) Zf ?_ (λY env H hb q=>?_)))
   .refine G0 0 Z (Cn Z a (λ_ a=>?_) (λ_ a=>?_))
    .refine If a (λaj a=>?_) (λaj a=>?_)
     .refine Qf (Qlk (i:=7) (x':=.cells 144 [.fn (.func 115) [] []]) Z (congrArg (λz=>Blk.cells 144 [.fn (.func z) [] []]) (eq_of_beq aj))) ?_;obtain⟨cu,bf,a⟩:=YM a;refine YS 7 0 [124,125,126,127,128,129,130] [false,false,false,false,false,true,false] [[],[],[],[],[],[],[]] [[],[5]] [[(0,0),(1,1)],[(0,0),(1,1)],[(0,0)],[(0,0)],[(0,0)],[(0,1)],[(0,0),(1,1)]] [.ptr 5 3,I f.Bib,.ptr 7 0,.fn (.func 115) [] [],.agg (Ruling.c f),.agg [I f.Position,I f.Amount,I 0,.bool false],.ptr 6 1] [[.cells 34 [.rsl 57 (map Fact.c t)],.cells 33 (Course.c w),.map (Qo (λx=>A.int .i64 x) (λx=>A.agg (Report.c x)) j.1),.map (Qo (λx=>A.int .i64 x) (λx=>A.agg (Ruling.c x)) m.1),.map (Qo (λx=>A.int .i64 x) (λx=>A.agg (Uc.c x)) r),.cells 66 (Ruling.c f),.cells 84 [I g,I 0,I 0,I 0,I 0,.bool false],.cells 144 [.fn (.func 115) [] []],.row 3 1 (map (Qe .i64) y)],[.cells 34 [.rsl 57 (map Fact.c t)],.cells 33 (Course.c w),.map (Qo (λx=>A.int .i64 x) (λx=>A.agg (Report.c x)) j.1),.map (Qo (λx=>A.int .i64 x) (λx=>A.agg (Ruling.c x)) m.1),.map (Qo (λx=>A.int .i64 x) (λx=>A.agg (Uc.c x)) r),.cells 66 (Ruling.c f),.cells 84 [I g,I 0,I 0,I 0,I 0,.bool false],.cells 144 [.fn (.func 115) [] []],.row 3 1 (map (Qe .i64) y),.cells 76 [I f.Position,I f.Amount,I 0,.bool false]]] ([.cells 34 [.rsl 57 (map Fact.c t)],.cells 33 (Course.c w),.map (Qo (λx=>A.int .i64 x) (λx=>A.agg (Report.c x)) j.1),.map (Qo (λx=>A.int .i64 x) (λx=>A.agg (Ruling.c x)) m.1),.map (Qo (λx=>A.int .i64 x) (λx=>A.agg (Uc.c x)) r),.cells 66 (Ruling.c f),.cells 84 [I g,I 0,I 0,I 0,I 0,.bool false],.cells 144 [.fn (.func 115) [] []],.row 3 1 (map (Qe .i64) y),.cells 76 [I f.Position,I f.Amount,I 0,.bool false]]) draws Z Z Z Z Z Z Z ?_ Z ?_
      .refine QiA.cons (Qb (v0 Z Z) (Qb (v0 Z Z) (Qd))) (QiA.cons (Qb (v0 Z Z) (Qb (v0 Z Z) (Qd))) (QiA.cons (Qb (v0 Z Z) (Qd)) (QiA.cons (Qb (v0 Z Z) (Qd)) (QiA.cons (Qb (v0 Z Z) (Qd)) (QiA.cons ?_ (QiA.cons (Qb (v0 Z Z) (Qb (v0 Z Z) (Qd))) (QiA.nil)))))))
       .refine Qb ?_ (Qd)
        .refine Om1 Z (sD 3 (sD 4 sN)) ?_;refine QD [] (Qa2 call115 Z Z Z Z) (k_je _ _ _ bf) ?_;rintro _ _ ⟨rfl,rfl⟩;exact FE Z Wp
      refine Go 4 Z ?_;cases a;exact Yv Z (Lr [0,1,2,3,4,6,8])
     .refine If a (λak a=>?_) (λak a=>?_)
      .refine Qf (Qlk (i:=7) (x':=.cells 144 [.fn (.func 116) [] []]) Z (congrArg (λz=>Blk.cells 144 [.fn (.func z) [] []]) (eq_of_beq ak))) ?_;obtain⟨cv,bg,a⟩:=YM a;refine YS 7 0 [124,125,126,127,128,129,130] [false,false,false,false,false,true,false] [[],[],[],[],[],[],[]] [[],[5]] [[(0,0),(1,1)],[(0,0),(1,1)],[(0,0)],[(0,0)],[(0,0)],[(0,1)],[(0,0),(1,1)]] [.ptr 5 3,I f.Bib,.ptr 7 0,.fn (.func 116) [] [],.agg (Ruling.c f),.agg [I f.Position,I 0,I f.Amount,.bool false],.ptr 6 1] [[.cells 34 [.rsl 57 (map Fact.c t)],.cells 33 (Course.c w),.map (Qo (λx=>A.int .i64 x) (λx=>A.agg (Report.c x)) j.1),.map (Qo (λx=>A.int .i64 x) (λx=>A.agg (Ruling.c x)) m.1),.map (Qo (λx=>A.int .i64 x) (λx=>A.agg (Uc.c x)) r),.cells 66 (Ruling.c f),.cells 84 [I g,I 0,I 0,I 0,I 0,.bool false],.cells 144 [.fn (.func 116) [] []],.row 3 1 (map (Qe .i64) y)],[.cells 34 [.rsl 57 (map Fact.c t)],.cells 33 (Course.c w),.map (Qo (λx=>A.int .i64 x) (λx=>A.agg (Report.c x)) j.1),.map (Qo (λx=>A.int .i64 x) (λx=>A.agg (Ruling.c x)) m.1),.map (Qo (λx=>A.int .i64 x) (λx=>A.agg (Uc.c x)) r),.cells 66 (Ruling.c f),.cells 84 [I g,I 0,I 0,I 0,I 0,.bool false],.cells 144 [.fn (.func 116) [] []],.row 3 1 (map (Qe .i64) y),.cells 76 [I f.Position,I 0,I f.Amount,.bool false]]] ([.cells 34 [.rsl 57 (map Fact.c t)],.cells 33 (Course.c w),.map (Qo (λx=>A.int .i64 x) (λx=>A.agg (Report.c x)) j.1),.map (Qo (λx=>A.int .i64 x) (λx=>A.agg (Ruling.c x)) m.1),.map (Qo (λx=>A.int .i64 x) (λx=>A.agg (Uc.c x)) r),.cells 66 (Ruling.c f),.cells 84 [I g,I 0,I 0,I 0,I 0,.bool false],.cells 144 [.fn (.func 116) [] []],.row 3 1 (map (Qe .i64) y),.cells 76 [I f.Position,I 0,I f.Amount,.bool false]]) draws Z Z Z Z Z Z Z ?_ Z ?_
       .refine QiA.cons (Qb (v0 Z Z) (Qb (v0 Z Z) (Qd))) (QiA.cons (Qb (v0 Z Z) (Qb (v0 Z Z) (Qd))) (QiA.cons (Qb (v0 Z Z) (Qd)) (QiA.cons (Qb (v0 Z Z) (Qd)) (QiA.cons (Qb (v0 Z Z) (Qd)) (QiA.cons ?_ (QiA.cons (Qb (v0 Z Z) (Qb (v0 Z Z) (Qd))) (QiA.nil)))))))
        .refine Qb ?_ (Qd)
         .refine Om1 Z (sD 3 (sD 4 sN)) ?_;refine QD [] (Qa2 call116 Z Z Z Z) (k_ia _ _ _ bg) ?_;rintro _ _ ⟨rfl,rfl⟩;exact FE Z Wp
       refine Go 4 Z ?_;cases a;exact Yv Z (Lr [0,1,2,3,4,6,8])
      .refine If a (λal a=>?_) (λal a=>?_)
       .refine Qf (Qlk (i:=7) (x':=.cells 144 [.fn (.func 117) [] []]) Z (congrArg (λz=>Blk.cells 144 [.fn (.func z) [] []]) (eq_of_beq al))) ?_;obtain⟨cw,bh,a⟩:=YM a;refine YS 7 0 [124,125,126,127,128,129,130] [false,false,false,false,false,true,false] [[],[],[],[],[],[],[]] [[],[5]] [[(0,0),(1,1)],[(0,0),(1,1)],[(0,0)],[(0,0)],[(0,0)],[(0,1)],[(0,0),(1,1)]] [.ptr 5 3,I f.Bib,.ptr 7 0,.fn (.func 117) [] [],.agg (Ruling.c f),.agg [I f.Position,I 0,I 0,.bool true],.ptr 6 1] [[.cells 34 [.rsl 57 (map Fact.c t)],.cells 33 (Course.c w),.map (Qo (λx=>A.int .i64 x) (λx=>A.agg (Report.c x)) j.1),.map (Qo (λx=>A.int .i64 x) (λx=>A.agg (Ruling.c x)) m.1),.map (Qo (λx=>A.int .i64 x) (λx=>A.agg (Uc.c x)) r),.cells 66 (Ruling.c f),.cells 84 [I g,I 0,I 0,I 0,I 0,.bool false],.cells 144 [.fn (.func 117) [] []],.row 3 1 (map (Qe .i64) y)],[.cells 34 [.rsl 57 (map Fact.c t)],.cells 33 (Course.c w),.map (Qo (λx=>A.int .i64 x) (λx=>A.agg (Report.c x)) j.1),.map (Qo (λx=>A.int .i64 x) (λx=>A.agg (Ruling.c x)) m.1),.map (Qo (λx=>A.int .i64 x) (λx=>A.agg (Uc.c x)) r),.cells 66 (Ruling.c f),.cells 84 [I g,I 0,I 0,I 0,I 0,.bool false],.cells 144 [.fn (.func 117) [] []],.row 3 1 (map (Qe .i64) y),.cells 76 [I f.Position,I 0,I 0,.bool true]]] ([.cells 34 [.rsl 57 (map Fact.c t)],.cells 33 (Course.c w),.map (Qo (λx=>A.int .i64 x) (λx=>A.agg (Report.c x)) j.1),.map (Qo (λx=>A.int .i64 x) (λx=>A.agg (Ruling.c x)) m.1),.map (Qo (λx=>A.int .i64 x) (λx=>A.agg (Uc.c x)) r),.cells 66 (Ruling.c f),.cells 84 [I g,I 0,I 0,I 0,I 0,.bool false],.cells 144 [.fn (.func 117) [] []],.row 3 1 (map (Qe .i64) y),.cells 76 [I f.Position,I 0,I 0,.bool true]]) draws Z Z Z Z Z Z Z ?_ Z ?_
        .refine QiA.cons (Qb (v0 Z Z) (Qb (v0 Z Z) (Qd))) (QiA.cons (Qb (v0 Z Z) (Qb (v0 Z Z) (Qd))) (QiA.cons (Qb (v0 Z Z) (Qd)) (QiA.cons (Qb (v0 Z Z) (Qd)) (QiA.cons (Qb (v0 Z Z) (Qd)) (QiA.cons ?_ (QiA.cons (Qb (v0 Z Z) (Qb (v0 Z Z) (Qd))) (QiA.nil)))))))
         .refine Qb ?_ (Qd)
          .refine Om1 Z (sD 3 (sD 4 sN)) ?_;refine QD [] (Qa2 call117 Z Z Z Z) (k_ip _ _ _ bh) ?_;rintro _ _ ⟨rfl,rfl⟩;exact FE Z Wp
        refine Go 4 Z ?_;cases a;exact Yv Z (Lr [0,1,2,3,4,6,8])
       .cases a
    refine Gc 1 Z (Bd a λag W a=>Ct ag [0,1,2,3,4,6,8] [0,2,4,5,11,13,16,58,59,60] (λag=>[(132,.bool ag)]) Ze Zf ?_ (λenv H q=>?_))
    .refine G0 3 Z (Is 134 W Z (λ_ W=>?_) (λ_ W=>?_))
     iterate 2 exact Gl 6 Z W [0,1,2,3,4,6,8]
    refine Gx 1 Z (Qf q (Cn Z a (λ_ a=>?_) (λ_ a=>?_)))
    .refine Gc 1 Z ?_;cases a;refine Qqi (Gx 1 Z ?_);refine Gyx 3 Z (TCy.lf ?_);refine G0 4 Z ?_;exact Gyx 0 Z (QcS d (Lr [0,1,2,3,4,6]))
    refine Gc 4 Z (Bd a λF bk a=>?_);refine vX (.tup [.agg (Report.c F),.bool (QaA j.1 g)]) (QbB (ev:=(λx=>A.agg (Report.c x))) (z0:=Uw) (k:=g) (l:=j.1) Y2 bk GJ GF (zrC Z)) ?_;refine Go 10 Z (Bd a λah G a=>Ct ah [0,1,2,3,4,5,7,6] [0,2,4,5,11,16,19,58,59,60] (λah=>[(99,.bool ah)]) Ze Zf ?_ (λenv H q=>?_))
    .refine G0 4 Z (Is 87 G Z (λ_ G=>?_) (λ_ G=>?_))
     .exact Gl 13 Z G [0,1,2,3,4,5,7,6]
     .refine Go 5 Z (Is 92 G Z (λ_ G=>?_) (λ_ G=>?_))
      .exact Gl 8 Z G [0,1,2,3,4,5,7,6]
      .exact Go 4 Z (Lm Z (Gl 3 Z G [0,1,2,3,4,5,7,6]))
    refine Gx 1 Z (Qf q (Cn Z a (λ_ a=>?_) (λ_ a=>?_)))
    .refine Gc 2 Z ?_;cases a;refine Qqi (Gx 1 Z ?_);refine Gyx 3 Z (TCy.lf ?_);refine G0 4 Z ?_;exact Gyx 0 Z (QcS d (Lr [0,1,2,3,4,7]))
    refine Gc 8 Z (Bd a λJ bo a=>Iz bo Z (Go 5 Z ?_));refine YS 13 0 [106,107,108,109,110,111,112,113,114,115,116,117,1000012] [false,false,false,false,false,false,false,false,false,false,false,false,true] [[],[],[],[],[],[],[],[],[],[],[],[],[]] [[],[12]] [[(0,0)],[(0,0)],[(0,0),(1,1)],[(0,0),(1,1)],[(0,0),(1,1)],[(0,0),(1,1)],[(0,0),(1,1)],[(0,0),(1,1)],[(0,0),(1,1)],[(0,0),(1,1)],[(0,0),(1,1)],[(0,0)],[(0,1)]] [.ptr 6 1,I F.Bib,.ptr 6 3,I F.Position,.ptr 8 1,I J.Time,.ptr 8 2,I J.Laps,.ptr 8 3,.bool J.Out,.agg [I F.Position,I J.Time,I J.Laps,.bool J.Out],.ptr 5 1,.any] [[.cells 34 [.rsl 57 (map Fact.c t)],.cells 33 (Course.c w),.map (Qo (λx=>A.int .i64 x) (λx=>A.agg (Report.c x)) j.1),.map (Qo (λx=>A.int .i64 x) (λx=>A.agg (Ruling.c x)) m.1),.map (Qo (λx=>A.int .i64 x) (λx=>A.agg (Uc.c x)) r),.cells 84 [I g,I 0,I 0,I 0,I 0,.bool false],.cells 62 (Report.c F),.row 3 1 (map (Qe .i64) y),.cells 114 (Offence.c J)],[.cells 34 [.rsl 57 (map Fact.c t)],.cells 33 (Course.c w),.map (Qo (λx=>A.int .i64 x) (λx=>A.agg (Report.c x)) j.1),.map (Qo (λx=>A.int .i64 x) (λx=>A.agg (Ruling.c x)) m.1),.map (Qo (λx=>A.int .i64 x) (λx=>A.agg (Uc.c x)) r),.cells 84 [I g,I F.Bib,I 0,I 0,I 0,.bool false],.cells 62 (Report.c F),.row 3 1 (map (Qe .i64) y),.cells 114 (Offence.c J)]] ([.cells 34 [.rsl 57 (map Fact.c t)],.cells 33 (Course.c w),.map (Qo (λx=>A.int .i64 x) (λx=>A.agg (Report.c x)) j.1),.map (Qo (λx=>A.int .i64 x) (λx=>A.agg (Ruling.c x)) m.1),.map (Qo (λx=>A.int .i64 x) (λx=>A.agg (Uc.c x)) r),.cells 84 [I g,I F.Bib,I 0,I 0,I 0,.bool false],.cells 62 (Report.c F),.row 3 1 (map (Qe .i64) y),.cells 114 (Offence.c J)]) draws Z Z Z Z Z Z Z ?_ Z ?_
    .refine QiA.cons (Qb (v0 Z Z) (Qd)) (QiA.cons (Qb (v0 Z Z) (Qd)) (QiA.cons (Qb (v0 Z Z) (Qb (v0 Z Z) (Qd))) (QiA.cons (Qb (v0 Z Z) (Qb (v0 Z Z) (Qd))) (QiA.cons (Qb (v0 Z Z) (Qb (v0 Z Z) (Qd))) (QiA.cons (Qb (v0 Z Z) (Qb (v0 Z Z) (Qd))) (QiA.cons (Qb (v0 Z Z) (Qb (v0 Z Z) (Qd))) (QiA.cons (Qb (v0 Z Z) (Qb (v0 Z Z) (Qd))) (QiA.cons (Qb (v0 Z Z) (Qb (v0 Z Z) (Qd))) (QiA.cons (Qb (v0 Z Z) (Qb (v0 Z Z) (Qd))) (QiA.cons (Qb (v0 Z Z) (Qb (v0 Z Z) (Qd))) (QiA.cons (Qb (v0 Z Z) (Qd)) (QiA.cons ?_ (QiA.nil)))))))))))))
     .refine Qb ?_ (Qd)
      .refine Om2 Z (sD 1 (sD 11 sN)) ?_;refine vU (Ex Z Z Z EE Z Z Z Z Z Z Z) ?_;exact FE Z Wp
    refine Go 3 Z ?_;cases a;exact Yv Z (Lr [0,1,2,3,4,5,7])
   subst hb;refine Gx 1 Z ?_;refine Gyx 1 Z (Qgi q (Gyc 4 Z ?_));obtain⟨cx,ci,rfl⟩:=QnB d;refine Qk6 (x:=Y) (e:=λx=>.agg (Ud.c x)) hE hN Z Z Z Z ?_ ?_
   .refine Gyo 3 Z (TCy.lf ?_);refine G0 2 Z ?_;refine Gyx 2 Z (TCy.lf ?_);refine G0 4 Z ?_;exact Gyx 0 Z (QcS ci (Lr [0,1,2,3,4,6]))
   .exact Gyo 7 Z (QkA (Gyx 1 Z (QoP (⟨.inr Z,.inr ⟨_,Z⟩⟩))))
 cases cd;exact⟨.inl Z,.inl Z⟩
def F_hl(n:Nat)(h:Int)(a:(List Int)×(List Penalty))(e:Ud):Option (Ctl ((List Int)×(List Penalty)) ((List Int)×(List Penalty))):=((bif (e.bib==h)then(app a.1 [e.number]).bind λf=>(app a.2 [e.penalty]).bind λg=>some (f,g)else some (a.1,a.2)):Option ((List Int)×(List Penalty))).bind λd=>some (.cont (d.1,d.2))
def F_w(d:Course)(e:List Fact)(g:Int):Option ((List Int)×(List Penalty)):=(F_ag n d).bind λh=>(bif (h != 0)then some ([],[])else(F_eg n d e).bind λi=>(F_cg n e d).bind λy4=>(QhK (F_hl n g) y4.1 ([],[]):Option (Ctl ((List Int)×(List Penalty)) ((List Int)×(List Penalty)))).bind λf=>match f with|.cont a=>(some (a.1,a.2))|.done a=>some a)
theorem k_w(p:Course)(y:List Fact)(q:Int):Kq (F_w n p y q) 7 [.agg (Course.c p),.rsl 57 (map Fact.c y),I q] [] (λr=>.tup [.osl 0 0 r.1.length 1,.osl 1 0 r.2.length 4]) (λr=>[.row 3 1 (map (Qe .i64) r.1),.row 76 4 (map Penalty.c r.2),.cells 37 [.osl 0 0 r.1.length 1],.cells 38 [.osl 1 0 r.2.length 4]]):=by
 refine Kg 12 func7 Z Z Z Z λr h=>Cz [] h (k_ag _ _) Z λP G h=>Go 3 Z (Cn Z h (λ_ h=>?_) (λ_ h=>?_))
 .refine Gc 8 Z ?_;obtain rfl:=Oi h;refine⟨[(6,.ptr 2 0),(7,.ptr 3 0)],[.row 3 1 (map (Qe .i64) (([],[]).1)),.row 76 4 (map Penalty.c (([],[]).2)),.cells 37 [.osl 0 0 ((([],[]).1).length) 1],.cells 38 [.osl 1 0 ((([],[]).2).length) 4]],_,?_,Qp Z Z (Qlb.cons (Qan GS Z Z) (Qlb.cons (Qan isAgg38 Z Z) Qlb.nil)),Z,Z⟩;refine En (YU (i:=2) (m:=0) (t:=3) (k:=1) Z Z Z) ?_;refine En (YU (i:=3) (m:=0) (t:=76) (k:=4) Z Z Z) ?_;exact Lr [4,5,2,3]
 refine Gc 7 Z (Cd [] h (k_eg _ _ _) Z λQ J h=>Fg 3 Z Z (Bd h λy4 hy4 h=>Bd h λL B h=>?_));refine Qhs [4,5] (λg=>[.cells 33 (Course.c p),.cells 3 [I q],.cells 37 [.osl 6 0 g.1.length 1],.cells 38 [.osl 7 0 g.2.length 4],.dead,.dead,.row 3 1 (map (Qe .i64) g.1),.row 76 4 (map Penalty.c g.2)]) B (k_cg _ _ _ _ hy4) Zf call44 Z Z Z Z (by decide) Z ?_ ?_ ?_
 .refine En (YU (i:=2) (m:=0) (t:=3) (k:=1) Z Z Z) ?_;refine En (YU (i:=3) (m:=0) (t:=76) (k:=4) Z Z Z) ?_;exact Lr [0,1,2,3,4,5,6,7]
 .intro g f M j F;refine G0 4 Z (And.intro Z ?_);refine G0 9 Z (Bd j λd a j=>Ct d [0,1,2,3,4,5,0,0] [] Ze (λd=>[(2,.cells 37 [.osl 6 0 d.1.length 1]),(3,.cells 38 [.osl 7 0 d.2.length 4]),(6,.row 3 1 (map (Qe .i64) d.1)),(7,.row 76 4 (map Penalty.c d.2))]) Zf ?_ (λenv H E=>?_))
  .refine G0 0 Z (Cn Z a (λ_ a=>?_) (λ_ a=>?_))
   .refine DAs 9 4 [0,0,0,0,1,3,3,3,3] (by kernel_rfl) (Da 3 Z ?_);refine DA.wo (x:=.rsl 1 (map (Qe .i64) [f.number])) ?_ ?_
    .refine vH (YB (xs:=[.tmp 22]) (es:=map (Qe .i64) [f.number]) Qu Z Z Z Z Z ⟨Z,trivial⟩ Z Z) ?_;exact FE Z Wp
    obtain⟨N,u,a⟩:=YM a;refine QbH (Qk (e:=(Qe .i64)) u Qu EA JY) Z Z ?_;refine DB.wo2 (x:=.osl 7 0 g.2.length 4) (Ld isAgg38 Z Wp) (Ld isAgg38 Z Wp) ?_;refine Db 1 Z ?_;refine DB.wo2 (x:=.agg (Penalty.c f.penalty)) ?_ ?_ ?_
    iterate 2 refine vX (.agg (Penalty.c f.penalty)) (Qs Z EV EG Z (Pts.cells Z Z) Z Z) ?_;exact Wp
    refine DB.wo2 (x:=.rsl 4 (map Penalty.c [f.penalty])) ?_ ?_ ?_
    iterate 2 refine vH (YB (xs:=[.tmp 27]) (es:=map Penalty.c [f.penalty]) QbK Z Z Z Z Z ⟨Z,trivial⟩ Z Z) ?_;exact FE Z Wp
    refine DB.done Z (Bd a λO w a=>vH (Qk (e:=Penalty.c) w QbK EI JY) ?_);exact FE Z (Gl 3 Z a [0,1,2,3,4,5,9,10])
   exact YC 1 Z a [0,1,2,3,4,5,6,7]
  exact Gx 1 Z (QlA j (En E (Lr [0,1,2,3,4,5,6,7])))
 rintro l rfl;refine Gx 3 Z ?_;refine TC.draw0 3 [30,31,1000002] [.osl 6 0 l.1.length 1,.osl 7 0 l.2.length 4,.any] draws Z Z Z ?_ ?_
 .refine ov (ov (Oq.c ?_ (Oq.n)))
  .refine Om2 Z (sO 6 (sD 0 sN)) ?_;refine vU (Ex Z Z Z sizeOf37 Z Z Z Z Z Z Z) ?_;exact FE Z Wp
 refine Go 4 Z ?_;obtain rfl:=Oi h;exact Rx [6,7,2,3] [6,7] Z (Qp Z Z (Qlb.cons (Qan GS Z Z) (Qlb.cons (Qan isAgg38 Z Z) Qlb.nil))) ⟨Z,Z⟩
def F_hr(n:Nat)(a:List (Int×Fact)):Option Unit:=some ()
theorem k_hr(a:List (Int×Fact)):Kq (F_hr n a) 138 [.map 0] [.map (Qo (λx=>A.int .i64 x) (λx=>A.agg (Fact.c x)) a)] (λ_=>.fn (.func 194) [] [.ptr 1 0]) (λ_=>[.map (Qo (λx=>A.int .i64 x) (λx=>A.agg (Fact.c x)) a),.cells 153 [.map 0]]):=by
 exact Kg 13 func138 Z Z Z Z λr h=>Rt h 2 [0,1]
def F_jk(n:Nat)(a:List (Int×Fact)):Option (List Int):=QoW (map Prod.fst a) λp1=>(sortI p1).bind λd=>some d
theorem k_jk(d:List (Int×Fact)):Kq (F_jk n d) 48 [.fn (.func 194) [] [.ptr 0 0]] [.cells 153 [.map 1],.map (Qo (λx=>A.int .i64 x) (λx=>A.agg (Fact.c x)) d)] (λr=>.osl 2 0 r.length 1) (λr=>[.dead,.fmap (Qo (λx=>A.int .i64 x) (λx=>A.agg (Fact.c x)) d),.row 3 1 (map (Qe .i64) r)]):=by
 refine Kg 8 func48 Z Z Z Z λr h=>(QG (Qmk (i:=1) Z) ?_);obtain⟨e,h⟩:=Qme h;refine QD [0,1] (OpC.fn call118 Z Z Z) (Qi5 _ e) ?_;rintro _ _ ⟨p1,f,rfl,rfl⟩;have h:=h p1 f;refine Fg 6 Z Z (Bd h λg a h=>(QD [2] (OpC.fn call119 Z Z Z) (Qmq QcA a) ?_));rintro _ _ ⟨rfl,rfl⟩;refine QG (QU (s:=3) Z (congrArg (λn=>A.osl 2 0 n 1) (QdL a))) ?_;exact Gt 9 Z h 2 [0,1,2]
def F_ml(n:Nat)(h:List (Int×Fact))(d:List Int)(a:(List Fact)×Int):Option (Ctl ((List Fact)×Int) (List Fact)):=(bif decide (a.2<(d.length:Int))then(idx d a.2).bind λe=>(some (Q2 h e Up)).bind λf=>(app a.1 [f]).bind λg=>some (.cont (g,i64.wrap (a.2+1)))else some (.done a.1))
def F_id(a:List (Int×Fact)):Option (List Fact):=(F_hr n a).bind λf=>(F_jk n a).bind λe=>(iter (F_ml n a e) n ([],0):Option (List Fact)).bind λd=>some d
theorem k_id(j:List (Int×Fact)):Kq (F_id n j) 62 [.map 0] [.map (Qo (λx=>A.int .i64 x) (λx=>A.agg (Fact.c x)) j)] (λr=>.osl 1 0 r.length 57) (λr=>[.fmap (Qo (λx=>A.int .i64 x) (λx=>A.agg (Fact.c x)) j),.row 72 57 (map Fact.c r)]):=by
 refine Kg 9 func62 Z Z Z Z λr h=>Cd [0] h (k_hr _ _) Z λE t h=>FE Z (Cd [1,0] h (k_jk _ _) Z λF u h=>Fg 4 Z Z (Bd h λd q h=>Cg d [0,1] [] (λd=>[(2,.osl 1 0 d.length 57)]) (λd=>[(1,.row 72 57 (map Fact.c d))]) Zf ?_ ?_))
 .refine G0 1 Z (Lp [0,0,2] [0,7,8] (λf=>[(2,.osl 1 0 f.1.length 57),(9,I f.2)]) (λf=>[(1,.row 72 57 (map Fact.c f.1))]) q Zf ?_ ?_)
  .exact En (Ep (s:=2) (XO Z) Z) (Lr [0,3,2])
  intro f w a k;refine G0 6 Z (Q8 Z a (λ_ a=>?_) (λ_ a=>?_))
  .exact Gc 2 Z (Ql a (Gx 1 Z (cQo k a (Lr [0,1]))))
  refine Gc 6 Z (Bd a λy g a=>(vV (Qv g Z EA EE) ?_));refine vV (Ey Z EF Z (Qi g)) (Go 7 Z (Bd a λz m a=>?_));refine vV (Qnq (ev:=(λx=>A.agg (Fact.c x))) Y2 m Gq GA (zrC Z)) (vH (Ek (xs:=[.tmp 16]) Y9 Z Z Z Z Z ⟨Z,trivial⟩ Z Z) ?_);refine FE Z (Bd a λB p a=>vH (Qk (e:=Fact.c) p Y9 EB (QH (i:=3))) ?_);exact Fg 8 Z Z (Qj a (Lr [0,4,2]))
 exact QI 7 Z h 2 [0,1]
def F_lz(m:Course)(p:List Fact)(a:(List (Int×Fact))×Int):Option (Ctl ((List (Int×Fact))×Int) (List (Int×Fact))):=(bif decide (a.2<(p.length:Int))then((idx p a.2).bind λd=>((bif (d.Kind != 1)then some true else(F_bq n d).bind λe=>(bif (e != 0)then some true else(bif decide ((m.Distances.length:Int)<=d.Starter.Distance)then some true else some (decide ((m.Waves.length:Int)<=d.Starter.Wave))))):Option Bool).bind λf=>(bif f then some a.1 else(some (Q2 a.1 d.Starter.Bib Up)).bind λg=>((bif (!(QaA a.1 d.Starter.Bib))then some true else(F_ap n d g).bind λh=>some (decide (h<0))):Option Bool).bind λi=>((bif i then(some (QQ a.1 d.Starter.Bib d)).bind λj=>some j else some a.1):Option (List (Int×Fact))).bind λk=>some k):Option (List (Int×Fact))).bind λl=>some (.cont (l,i64.wrap (a.2+1)))else some (.done a.1))
def F_mu(n:Nat)(e:List Fact)(a:(List Starter)×(List (Int×Bool))×Int):Option (Ctl ((List Starter)×(List (Int×Bool))×Int) (Ctl (List Starter) ((List Starter)×Int))):=(bif decide (a.2.2<(e.length:Int))then(idx e a.2.2).bind λd=>(some (Q2 a.2.1 d.Starter.Chip false)).bind λf=>(bif f then some (.done (.done ([],180)))else(some (QQ a.2.1 d.Starter.Chip true)).bind λg=>(app a.1 [d.Starter]).bind λh=>some (.cont (h,g,i64.wrap (a.2.2+1))))else some (.done (.cont a.1)))
def F_if(g:Course)(i:List Fact):Option ((List Starter)×Int):=(F_ag n g).bind λh=>(bif (h != 0)then some ([],h)else(iter (F_lz n g i) n ([],0):Option (List (Int×Fact))).bind λd=>(bif decide (4000<(d.length:Int))then some ([],2)else(F_id n d).bind λe=>(iter (F_mu n e) n ([],[],0):Option (Ctl (List Starter) ((List Starter)×Int))).bind λf=>match f with|.cont a=>(some (a,0))|.done a=>some a))
theorem k_if(a1:Course)(a2:List Fact):Kq (F_if n a1 a2) 25 [.agg (Course.c a1),.rsl 57 (map Fact.c a2)] [] (λr=>.tup [.osl 0 0 r.1.length 8,I r.2]) (λr=>[.row 48 8 (map Starter.c r.1)]):=by
 refine Kg 11 func25 Z Z Z Z λr h=>Cz [] h (k_ag _ _) Z λr1 bd h=>Go 9 Z (Cn Z h (λ_ h=>?_) (λ_ h=>?_))
 .refine Gc 9 Z ?_;obtain rfl:=Oi h;refine R2 4 5 Z Z ?_;refine En (Ep (s:=4) (k:=8) (t:=48) (XO Z) Z) ?_;exact Lr [1]
 refine Gc 4 Z (vH Yf ?_);refine Fg 7 Z Z (Lg 3 Z Z (Bd h λy ai h=>Ct y [1] [4,7] Ze (λy=>[(0,.map (Qo (λx=>A.int .i64 x) (λx=>A.agg (Fact.c x)) y))]) Zf ?_ (λenv H u=>?_)))
 .refine G0 1 Z (Lp [0,1] [2,4,7,22,23] (λm=>[(24,I m.2)]) (λm=>[(1,.map (Qo (λx=>A.int .i64 x) (λx=>A.agg (Fact.c x)) m.1))]) ai Zf (Lr [0,1]) λm av j N=>?_);refine G0 6 Z (Q8 Z j (λ_ j=>?_) (λ_ j=>?_))
  .exact Gc 2 Z (Ql j (Gx 1 Z (cQo N j (Lr [1]))))
  refine Gc 3 Z (Bd j λE d j=>Ct E [0,1] [2,4,7,22,23,24] Ze (λE=>[(1,.map (Qo (λx=>A.int .i64 x) (λx=>A.agg (Fact.c x)) E))]) Zf ?_ (λenv H u=>?_))
  .refine G0 3 Z (Bd d λz P d=>Iz P Z (Go 15 Z (Bd d λF f d=>Ct F [0,1,2,3] [2,4,7,9,10,22,23,24] (λF=>[(53,.bool F)]) Ze Zf ?_ (λenv H u=>?_))))
   .refine G0 5 Z (Is 33 f Z (λ_ f=>?_) (λ_ f=>?_))
    .exact Gl 21 Z f [0,1,2,3]
    .refine Go 1 Z (Cz [] f (k_bq _ _) Z λaw aq f=>Go 3 Z (Is 38 f Z (λ_ f=>?_) (λ_ f=>?_)))
     .exact Gl 16 Z f [0,1,2,3]
     .refine Go 4 Z (Lg 3 Z Z (Is 46 f Z (λ_ f=>?_) (λ_ f=>?_)))
      .exact Gl 8 Z f [0,1,2,3]
      .exact Go 4 Z (Lm Z (Gl 3 Z f [0,1,2,3]))
   refine Gx 1 Z (Qf u (Cn Z d (λ_ d=>?_) (λ_ d=>?_)))
   .exact YC 3 Z d [0,1]
   refine Gc 7 Z (Bd d λaj W d=>?_);refine vX (.tup [.agg (Fact.c aj),.bool (QaA m.1 z.Starter.Bib)]) (QbB (ev:=(λx=>A.agg (Fact.c x))) (z0:=Up) (k:=z.Starter.Bib) (l:=m.1) Y2 W Gq GA (zrC Z)) ?_;refine Go 9 Z (Bd d λG p d=>Ct G [0,1,2,3] [2,4,7,9,10,22,23,24] (λG=>[(68,.bool G)]) Ze Zf ?_ (λenv H u=>?_))
   .refine G0 4 Z (Is 63 p Z (λ_ p=>?_) (λ_ p=>?_))
    .exact Gl 6 Z p [0,1,2,3]
    .exact Go 2 Z (Cz [] p (k_ap _ _ _) Z λax ar p=>Gl 3 Z p [0,1,2,3])
   refine Gx 1 Z (Qf u (Bd d λJ q d=>Ct J [0,1] [2,4,7,22,23,24] Ze (λJ=>[(1,.map (Qo (λx=>A.int .i64 x) (λx=>A.agg (Fact.c x)) J))]) Zf ?_ (λenv H u=>?_)))
   .refine G0 0 Z (Cn Z q (λ_ q=>?_) (λ_ q=>?_))
    .refine Gc 5 Z (Bd q λay aa q=>?_);refine vU (Ye (ev:=(λx=>A.agg (Fact.c x))) (k:=z.Starter.Bib) (v:=z) (l:=m.1) Y2 aa Z Gq) ?_;exact FE Z (Gl 1 Z q [0,1])
    exact YC 1 Z q [0,1]
   refine Gx 1 Z ?_;cases d;exact JM (En u (Lr [0,1]))
  exact Gx 1 Z (Qf u (Gc 4 Z (Qj j (Lr [0,1]))))
 refine Gx 1 Z (Qf u (Gc 4 Z ?_));refine vX (I (y.length:Int)) (Qc1 (l:=y) Gq Z) ?_;refine Go 3 Z (Cn Z h (λ_ h=>?_) (λ_ h=>?_))
 .refine Gc 8 Z ?_;obtain rfl:=Oi h;refine R2 4 5 Z Z ?_;refine En (Ep (s:=4) (k:=8) (t:=48) (XO Z) Z) ?_;exact Lr [1]
 refine Gc 4 Z (vH Yf ?_);refine Fg 7 Z Z (Cd [0] h (k_id _ _) Z λaz au h=>Fg 4 Z Z (Bd h λak al h=>CgE (b:=ak) [0] [] (λw=>[(4,.osl 0 0 w.length 8)]) (λw=>[(0,.row 48 8 (map Starter.c w))]) Zf ?_ (λw ao=>?_)))
 .refine G0 1 Z (Lp [0,1,2] [13,79,80] (λg=>[(4,.osl 0 0 g.1.length 8),(81,I g.2.2)]) (λg=>[(0,.row 48 8 (map Starter.c g.1)),(1,.map (Qo (λx=>A.int .i64 x) A.bool g.2.1))]) al Zf ?_ ?_)
  .refine En (Ep (s:=4) (k:=8) (t:=48) (XO Z) Z) ?_;exact Lr [3,1,2]
  intro g ba a L;refine G0 6 Z (Q8 Z a (λ_ a=>?_) (λ_ a=>?_))
  .exact Gc 2 Z (Ql a (Gx 1 Z (JN L a Z (Lr [0]))))
  refine Gc 6 Z (Bd a λB M a=>?_);refine vX (.ptr 2 (toNat g.2.2*57)) (Qv M Z EB EC) ?_;refine vX (.agg (Fact.c B)) (Qs Z EP EC Z (Qi M) Z Z) ?_;refine Go 11 Z (Bd a λam ae a=>?_);refine vX (.bool am) (Jk (ev:=A.bool) (z0:=false) (k:=B.Starter.Chip) (l:=g.2.1) Y2 ae Gp Gf ZR.bool) ?_;refine Go 2 Z (Cn Z a (λ_ a=>?_) (λ_ a=>?_))
  .refine Gc 10 Z (Qx a ?_);obtain rfl:=Oj L a;refine Gx 1 Z (Qt (Gx 1 Z ?_));obtain rfl:=Oi h;refine R2 4 5 Z Z ?_;refine En (Ep (s:=4) (k:=8) (t:=48) (XO Z) Z) ?_;exact Lr [4]
  refine Gc 8 Z (Bd a λbb ag a=>?_);refine vU (Ye (ev:=A.bool) (k:=B.Starter.Chip) (v:=true) (l:=g.2.1) Y2 ag Z Gp) ?_;refine Fg 6 Z Z (vH (Ek (xs:=[.tmp 96]) (es:=map Starter.c [B.Starter]) Qqg Z Z Z Z Z ⟨Z,trivial⟩ Z Z) ?_);refine FE Z (Bd a λbc ah a=>vH (Qk (e:=Starter.c) ah Qqg Gy (QH (i:=4))) ?_);exact Fg 8 Z Z (Qj a (Lr [5,1,2]))
 subst ao;refine Gc 8 Z ?_;obtain rfl:=Oi h;exact R2 4 5 Z Z (Lr [0])
def F_hj(n:Nat)(a:Starter)(d:Int):Option Unit:=some ()
theorem k_hj(a:Starter)(d:Int):Ks (F_hj n a d) 27 [.agg (Starter.c a),.ptr 0 0] [.cells 3 [I d]] (λ_=>.bool (a.Bib==d)):=by
 exact Kg 16 func27 Z Z Z Z λr h=>Rt h 3 [0]
def F_mh(e:List Starter)(f:Int)(a:Int):Option (Ctl Int (Ctl Unit Int)):=(bif decide (a<(e.length:Int))then(idx e a).bind λd=>(F_hj n d f).bind λg=>(bif (d.Bib==f)then some (.done (.done a))else some (.cont (i64.wrap (a+1))))else some (.done (.cont ())))
def F_jt(e:List Starter)(f:Int):Option Int:=(iter (F_mh n e f) n 0:Option (Ctl Unit Int)).bind λd=>match d with|.cont a=>(some (-1))|.done a=>some a
theorem k_jt(g:List Starter)(k:Int):Ks (F_jt n g k) 26 [.osl 0 0 g.length 8,.fn (.func 27) [] [.ptr 1 0]] [.row 48 8 (map Starter.c g),.cells 3 [I k]] (λr=>I r):=by
 refine Kg 13 func26 Z Z Z Z λr h=>Bd h λl m h=>CgE (b:=l) [0,1] [] Ze Ze Zf ?_ (λ_ p=>?_)
 .refine G0 1 Z (Lp [0,1] [0,1,7] (λf=>[(8,I f)]) Ze m Zf (Lr [0,1]) λf t a d=>(G0 6 Z (Q8 Z a (λ_ a=>?_) (λ_ a=>?_))))
  .exact Gc 2 Z (Ql a (Gx 1 Z (JN d a Z (Lr [0,1]))))
  refine Gc 15 Z (Bd a λu e a=>(vV (Qv e Z Gy GI) ?_));refine vV (Qs Z isAgg48 GI Z (Qi e) Z Z) ?_;refine Cz [1] a (k_hj _ _ _) Z λw s a=>Go 2 Z (Cn Z a (λ_ a=>?_) (λ_ a=>?_))
  .refine Gc 9 Z (Qx a ?_);obtain rfl:=Oj d a;exact Gx 1 Z (Qt (Gx 1 Z (Rt h 4 [0,1])))
  exact Gc 7 Z (Qj a (Lr [0,1]))
 subst p;exact QI 6 Z h 4 [0,1]
def F_hu(a:Course)(d:Int):Option (Distance×Int):=(F_ag n a).bind λe=>(bif (e != 0)then some (Uo,e)else((bif decide (d<0)then some true else some (decide ((a.Distances.length:Int)<=d))):Option Bool).bind λf=>(bif f then some (Uo,90)else(idx a.Distances d).bind λg=>some (g,0)))
theorem k_hu(e:Course)(f:Int):Kq (F_hu n e f) 139 [.agg (Course.c e),I f] [] (λr=>.tup [.agg (Distance.c r.1),I r.2]) (λr=>[.cells 100 (Distance.c r.1)]):=by
 refine Kg 11 func139 Z Z Z Z λr h=>Cz [] h (k_ag _ _) Z λm l h=>Go 9 Z (Cn Z h (λ_ h=>?_) (λ_ h=>?_))
 .refine Gc 10 Z ?_;obtain rfl:=Oi h;exact Rx [1] [4,5] Z (Qp Z Z (Qlb.cons (Qg isAgg100 Gm Z Z Z) (Qlb.cons QdB.tmp Qlb.nil))) ⟨Z,Z⟩
 refine Gc 4 Z (Bd h λd a h=>Cg d [0,1] [1,2,4] (λd=>[(21,.bool d)]) Ze Zf ?_ ?_)
 .refine G0 4 Z (Is 15 a Z (λ_ a=>?_) (λ_ a=>?_))
  .exact Gl 7 Z a [0,1]
  .exact Go 3 Z (Lm Z (Gl 3 Z a [0,1]))
 refine Cn Z h (λ_ h=>?_) (λ_ h=>?_)
 .refine Gc 9 Z ?_;obtain rfl:=Oi h;exact Rx [1] [4,5] Z (Qp Z Z (Qlb.cons (Qg isAgg100 Gm Z Z Z) (Qlb.cons QdB.tmp Qlb.nil))) ⟨Z,Z⟩
 refine Gc 7 Z (Bd h λp k h=>Iz k Z (Go 6 Z ?_));obtain rfl:=Oi h;exact Rx [1] [4,5] Z (Qp Z Z (Qlb.cons (Qg isAgg100 Gm Z Z Z) (Qlb.cons QdB.tmp Qlb.nil))) ⟨Z,Z⟩
def F_ls(n:Nat)(rec194:(List Part)->(List Int)->Option (List Int))(d:Part)(a:(List Int)×Int):Option (Ctl ((List Int)×Int) (List Int)):=(bif decide (a.2<d.Laps)then(rec194 d.Parts a.1).bind λe=>some (.cont (e,i64.wrap (a.2+1)))else some (.done a.1))
def F_nc(e:List Part)(rec194:(List Part)->(List Int)->Option (List Int))(a:(List Int)×Int):Option (Ctl ((List Int)×Int) (List Int)):=(bif decide (a.2<(e.length:Int))then(idx e a.2).bind λd=>((bif (d.Laps==0)then(app a.1 [d.Mat]).bind λf=>some f else some a.1):Option (List Int)).bind λg=>(iter (F_ls n rec194 d) n (g,0):Option (List Int)).bind λh=>some (.cont (h,i64.wrap (a.2+1)))else some (.done a.1))
def B_av(rec194:(List Part)->(List Int)->Option (List Int))(n:Nat)(d:List Part)(e:List Int):Option (List Int):=(iter (F_nc n d rec194) n (e,0):Option (List Int)).bind λa=>some a
theorem Qbd(rec194:(List Part)->(List Int)->Option (List Int))(u:∀(w:List Part) (p:List Int) (r:List Int),rec194 w p=some r->C prog 195 [.rsl 3 (map Part.enc w),.ptr 0 0,.ptr 1 0] [.cells 37 [.osl 2 0 p.length 1],.cells 298 [.fn (.func 195) [] [.ptr 0 0,.ptr 1 0]],.row 3 1 (map (Qe .i64) p)] (RQ (λ_=>.tup []) (λr=>[.cells 37 [.osl 3 0 r.length 1],.cells 298 [.fn (.func 195) [] [.ptr 0 0,.ptr 1 0]],.dead,.row 3 1 (map (Qe .i64) r)]) r))(n:Nat)(w:List Part)(p:List Int)(r:List Int)(h:B_av rec194 n w p=some r):C prog 195 [.rsl 3 (map Part.enc w),.ptr 0 0,.ptr 1 0] [.cells 37 [.osl 2 0 p.length 1],.cells 298 [.fn (.func 195) [] [.ptr 0 0,.ptr 1 0]],.row 3 1 (map (Qe .i64) p)] (RQ (λ_=>.tup []) (λr=>[.cells 37 [.osl 3 0 r.length 1],.cells 298 [.fn (.func 195) [] [.ptr 0 0,.ptr 1 0]],.dead,.row 3 1 (map (Qe .i64) r)]) r):=by
 refine QE func195 Z Z Z ?_;refine G0 3 Z (Lg 3 Z Z (Bd h λq J h=>Ct q [0,1,2,0] [] Ze (λq=>[(0,.cells 37 [.osl 3 0 q.length 1]),(2,.dead),(3,.row 3 1 (map (Qe .i64) q))]) Zf ?_ (λenv H g=>?_)))
 .refine G0 1 Z (Lp [0,1,2,2] [1,2,6,7] (λk=>[(8,I k.2)]) (λk=>[(0,.cells 37 [.osl 3 0 k.1.length 1]),(2,.dead),(3,.row 3 1 (map (Qe .i64) k.1))]) J Zf ?_ ?_)
  .exact En (Qnx (i:=2) (j:=0) (m:=0) Z Z Z Z Z) (Lr [0,1,2,3])
  intro k O a x;refine G0 6 Z (Q8 Z a (λ_ a=>?_) (λ_ a=>?_))
  .exact Gc 2 Z (Ql a (Gx 1 Z (cQo x a (Lr [0,1,2,3]))))
  refine Gc 6 Z (Bd a λL z a=>IzE z (Q4 L) Z (Go 13 Z (Bd a λs f a=>Ct s [0,1,2,0,4] [1,2,5,6,7,8] Ze (λs=>[(0,.cells 37 [.osl 3 0 s.length 1]),(3,.row 3 1 (map (Qe .i64) s))]) Zf ?_ (λenv H g=>?_))))
  .refine G0 0 Z (Cn Z f (λ_ f=>?_) (λ_ f=>?_))
   .refine Gc 4 Z (vH (Ek (xs:=[.tmp 17]) Qu Z Z Z Z Z ⟨Z,trivial⟩ Z Z) ?_);refine FE Z (Bd f λP E f=>vH (Qk (e:=(Qe .i64)) E Qu EA (QH (i:=5))) ?_);exact FE Z (Gl 2 Z f [0,1,2,6,4])
   exact YC 1 Z f [0,1,2,3,4]
  refine Gx 1 Z (Qf g (Gc 7 Z (Bd a λt M a=>Ct t [0,1,2,3] [1,2,6,7,8] Ze (λt=>[(0,.cells 37 [.osl 3 0 t.length 1]),(3,.row 3 1 (map (Qe .i64) t))]) Zf ?_ (λenv H g=>?_))))
  .refine G0 1 Z (Lp [0,1,2,3,4] [1,2,5,6,7,8,21] (λl=>[(22,I l.2)]) (λl=>[(0,.cells 37 [.osl 3 0 l.1.length 1]),(3,.row 3 1 (map (Qe .i64) l.1))]) M Zf (Lr [0,1,2,3,4]) λl Q d F=>?_);refine G0 6 Z (Q8 Z d (λ_ d=>?_) (λ_ d=>?_))
   .exact Gc 2 Z (Ql d (Gx 1 Z (cQo F d (Lr [0,1,2,3]))))
   exact Gc 8 Z (Cd [0,1,3] d (u _ _) Z λR N d=>Fg 7 Z Z (Qj d (Lr [0,1,2,5,4])))
  exact Gx 2 Z (Qf g (Gc 4 Z (Qj a (Lr [0,1,2,3]))))
 obtain rfl:=Oi h;refine⟨[],_,_,?_,QcH.nil Z,Z,Z⟩;exact En g (Lr [0,1,2,3])
def F_av:Nat->(List Part)->(List Int)->Option (List Int)
  |0=>λ_ _=>none
  |n+1=>B_av (F_av n) n
theorem k_av:∀(d:List Part) (a:List Int) (r:List Int),F_av n d a=some r->C prog 195 [.rsl 3 (map Part.enc d),.ptr 0 0,.ptr 1 0] [.cells 37 [.osl 2 0 a.length 1],.cells 298 [.fn (.func 195) [] [.ptr 0 0,.ptr 1 0]],.row 3 1 (map (Qe .i64) a)] (RQ (λ_=>.tup []) (λr=>[.cells 37 [.osl 3 0 r.length 1],.cells 298 [.fn (.func 195) [] [.ptr 0 0,.ptr 1 0]],.dead,.row 3 1 (map (Qe .i64) r)]) r):=by
  induction n with
  |zero=>intro d a r h;cases h
  |succ n ih=>intro d a r h;exact Qbd _ ih n d a r h
def F_ke(a:List Part):Option (List Int):=(F_av n a ([]:List Int)).bind λd=>some d
theorem k_ke(a:List Part):Kq (F_ke n a) 140 [.rsl 3 (map Part.enc a)] [] (λr=>.osl 0 0 r.length 1) (λr=>[.row 3 1 (map (Qe .i64) r),.cells 37 [.osl 0 0 r.length 1]]):=by
 refine Kg 20 func140 Z Z Z Z λr h=>(QG (YU (i:=0) (m:=0) (t:=3) (k:=1) Z Z Z) ?_);refine Cd [0,1,2] h (k_av _ _ _) Z λe d h=>Fg 9 Z Z ?_;obtain rfl:=Oi h;exact Rx [3,0] [2] Z (Yd Z (Qan GS Z Z)) ⟨Z,Z⟩
def Q_course_build_bwf(d:Course)(e:Int):U_course_build_bwf->Go.Sw.A->Qc->Prop
  |.c0 x,a,H=>a=.tup [.agg [.rsl 1 (map (Qe .i64) []),.nilm],I x]/\H=[.cells 160 [.rsl 1 (map (Qe .i64) []),.nilm]]
  |.c1 x,a,H=>a=.tup [.agg [.osl 0 0 x.length 1,.nilm],I 2]/\H=[.row 3 1 (map (Qe .i64) x),.cells 160 [.osl 0 0 x.length 1,.nilm]]
  |.c2 x,a,H=>a=.tup [.agg [.osl 0 0 x.1.length 1,.map 1],I 0]/\H=[.row 3 1 (map (Qe .i64) x.1),.map (Qo (λx=>A.agg (Ua.c x)) (λx=>A.agg (Leg.c x)) x.2),.cells 160 [.osl 0 0 x.1.length 1,.map 1]]
def F_my(n:Nat)(e:Course)(a:(List (Ua×Leg))×Int):Option (Ctl ((List (Ua×Leg))×Int) (List (Ua×Leg))):=(bif decide (a.2<(e.Legs.length:Int))then(idx e.Legs a.2).bind λd=>(some (QQ a.1 ({from_:=d.From,to_:=d.To:Ua}) d)).bind λf=>some (.cont (f,i64.wrap (a.2+1)))else some (.done a.1))
def F_hk(e:Course)(g:Int):Option U_course_build_bwf:=(F_hu n e g).bind λa=>(bif (a.2 != 0)then some (U_course_build_bwf.c0 a.2)else(some ():Option Unit).bind λh=>(F_ke n a.1.Route).bind λd=>(bif decide ((i64.wrap (256-(d.length:Int)))<0)then some (U_course_build_bwf.c1 d)else(iter (F_my n e) n ([],0):Option (List (Ua×Leg))).bind λf=>some (U_course_build_bwf.c2 (d,f))))
theorem k_hk(g:Course)(i:Int)(r:U_course_build_bwf)(h:F_hk n g i=some r):C prog 63 [.agg (Course.c g),I i,I 0] [] (Q_course_build_bwf g i r):=by
 refine QE func63 Z Z Z ?_;refine G0 11 Z (Cd [] h (k_hu _ _ _) Z λM F h=>Fg 15 Z Z (Cn Z h (λ_ h=>?_) (λ_ h=>?_)))
 .refine Gc 10 Z ?_;obtain rfl:=Oi h;exact Rx [1] [6,7] Z (Qp Z Z (Qlb.cons (Qg isAgg160 sizeOf160 Z Z Z) (Qlb.cons QdB.tmp Qlb.nil))) ⟨Z,Z⟩
 refine Gc 4 Z (Bd h λB E h=>Ct B [0,1,3] [2,3,6,8] (λ_=>[(32,.bool false)]) Ze Zf ?_ (λenv H w=>?_))
 .refine G0 2 Z ?_;refine vX (.bool false) (OpV.lss (m:=0) (n:=0) Z Z Z) ?_;refine Go 2 Z ?_;refine vX (.bool false) (OpV.gtr (m:=0) (n:=0) Z Z Z) ?_ (gT Z);exact Gl 7 Z E [0,1,3]
 refine Gx 1 Z (Qf w (Gc 7 Z (Cd [] h (k_ke _ _) Z λj G h=>Fg 15 Z Z (Cn Z h (λ_ h=>?_) (λ_ h=>?_)))))
 .refine Gc 9 Z ?_;obtain rfl:=Oi h;exact Rx [3,1] [6,7] Z (Qp Z Z (Qlb.cons (Qg isAgg160 sizeOf160 Z Z Z) (Qlb.cons QdB.tmp Qlb.nil))) ⟨Z,Z⟩
 refine Gc 6 Z ?_;refine vX (.bool false) (OpV.gtr (m:=0) (n:=0) Z Z Z) ?_;refine Go 7 Z (vH Yf ?_);refine Fg 9 Z Z (Lg 3 Z Z (Bd h λe z h=>Cg e [0,1,2] [] (λ_=>[(6,.ptr 0 0)]) (λe=>[(0,.cells 160 [.osl 1 0 j.length 1,.map 2]),(1,.row 3 1 (map (Qe .i64) j)),(2,.map (Qo (λx=>A.agg (Ua.c x)) (λx=>A.agg (Leg.c x)) e))]) Zf ?_ ?_))
 .refine G0 1 Z (Lp [1,3,5] [6,79,80] (λd=>[(81,I d.2)]) (λd=>[(0,.cells 160 [.osl 1 0 j.length 1,.map 2]),(2,.map (Qo (λx=>A.agg (Ua.c x)) (λx=>A.agg (Leg.c x)) d.1))]) z Zf (Lr [1,3,5]) λd J a p=>?_);refine G0 6 Z (Q8 Z a (λ_ a=>?_) (λ_ a=>?_))
  .exact Gc 2 Z (Ql a (Gx 1 Z (cQo p a (Lr [0,1,2]))))
  refine Gc 6 Z (Bd a λf s a=>Iz s Z (Go 14 Z (Bd a λL t a=>?_)));refine vU (Ye (ev:=(λx=>A.agg (Leg.c x))) (k:=({from_:=f.From,to_:=f.To:Ua})) (v:=f) (l:=d.1) QpD t Z underlying158) ?_;exact Fg 7 Z Z (Qj a (Lr [0,1,2]))
 refine Gc 8 Z ?_;obtain rfl:=Oi h;exact Rx [1,2,0] [6,7] Z (Qp Z Z (Qlb.cons (Qg isAgg160 sizeOf160 Z Z Z) (Qlb.cons QdB.tmp Qlb.nil))) ⟨Z,Z⟩
def F_hi(g:Course)(h:Int):Option ((List Int)×Int):=((F_hk n g h).bind λi=>(match i with|.c0 d=>(some (d,[]))|.c1 e=>(some (2,e))|.c2 f=>(some (0,f.1))):Option (Int×(List Int))).bind λa=>(bif (a.1 != 0)then some ([],a.1)else some (a.2,0))
theorem k_hi(f:Course)(l:Int):Ks (F_hi n f l) 28 [.agg (Course.c f),I l,I 0] [] (λr=>.tup [.rsl 1 (map (Qe .i64) r.1),I r.2]):=by
 refine Kg 8 func28 Z Z Z Z λr h=>Bd h λd e h=>Cg d [0] [] (λd=>[(7,I d.1),(8,.ptr 0 0)]) (λd=>[(0,.cells 160 [.rsl 1 (map (Qe .i64) d.2),.any])]) Zf ?_ ?_
 .refine G0 4 Z (Bd e λq p e=>?_);refine QD [] (OpC.fn call63 Z Z Z) (k_hk _ _ _ _ p) ?_;intro ra rH g;rcases q with t|u|a
  .obtain⟨rfl,rfl⟩:=g;refine Fg 7 Z Z ?_;cases e;refine JM ?_;refine En (QV (i:=2) (m:=1) Z) ?_;exact Lr [2]
  .obtain⟨rfl,rfl⟩:=g;refine Fg 7 Z Z ?_;cases e;refine JM ?_;refine En (Jm [(9,_),(13,_),(14,_)] Z Z (Qpf.cons Z (FzA.tup (Ed (FzA.agg (Ed Eo (Ej _))) (Ej _))) (Qpf.cons Z (FzA.tup (Ed (FzA.agg (Ed Eo (Ej _))) (Ej _))) (Qpf.cons Z (FzA.agg (Ed Eo (Ej _))) Qpf.nil))) (Ec (Ec (FzH.cells (Ed Eo (Ej _)) (FzH.cells (Ed Eo (Ej _)) (YD _)))))) ?_;refine En (QV (i:=3) (m:=1) Z) ?_;exact Lr [3]
  .obtain⟨rfl,rfl⟩:=g;refine aV (.tup [.agg [.osl 1 0 a.1.length 1,.map 2],I 0]) [.cells 33 (Course.c f),.row 3 1 (map (Qe .i64) a.1),.map (Qo (λx=>A.agg (Ua.c x)) (λx=>A.agg (Leg.c x)) a.2),.cells 160 [.osl 1 0 a.1.length 1,.map 2]] Z Z ?_;refine Go 7 Z ?_;cases e;refine JM ?_;refine En (Jm [(9,_),(13,_),(14,_)] Z Z (Qpf.cons Z (FzA.tup (Ed (FzA.agg (Ed Eo (Ej _))) (Ej _))) (Qpf.cons Z (FzA.tup (Ed (FzA.agg (Ed Eo (Ej _))) (Ej _))) (Qpf.cons Z (FzA.agg (Ed Eo (Ej _))) Qpf.nil))) (Ec (Ec (Ec (FzH.cells (Ed Eo (Ej _)) (FzH.cells (Ed Eo (Ej _)) (YD _))))))) ?_;refine En (QV (i:=4) (m:=1) Z) ?_;exact Lr [4]
 refine Gc 7 Z (Cn Z h (λ_ h=>?_) (λ_ h=>?_))
 .refine Gc 9 Z ?_;obtain rfl:=Oi h;refine R2 6 7 Z Z ?_;refine En (Qp5 (s:=6) (k:=1) Z) ?_;exact Lr []
 refine Gc 11 Z ?_;obtain rfl:=Oi h;exact R2 6 7 Z Z (Lr [])
def F_hy(n:Nat)(a:List Penalty):Option Unit:=some ()
theorem k_hy(a:List Penalty):Kq (F_hy n a) 65 [.rsl 4 (map Penalty.c a)] [] (λ_=>.fn (.func 145) [] [.ptr 0 0]) (λ_=>[.cells 38 [.rsl 4 (map Penalty.c a)]]):=by
 refine Kg 2 func65 Z Z Z Z λr h=>vH (OpH.box Z Z Z Z Z) ?_;exact FE Z (Gt 10 Z h 2 [0])
def F_mi(n:Nat)(d:List Penalty)(a:Int):Option ((List Penalty)×Ctl Int Unit):=(bif decide (a<(d.length:Int))then(idx d a).bind λe=>yl e (some ([],.cont (i64.wrap (a+1))))else some ([],.done ()))
def F_jc(a:List Penalty):Option ((List Penalty)×Unit):=ap (QcC (F_mi n a) n 0) λd=>some ([],())
theorem k_jc(g:List Penalty)(p:(List Penalty)×Unit)(h:F_jc n g=some p):Qit prog 145 [.ptr 0 0] [.cells 38 [.rsl 4 (map Penalty.c g)]] (λx=>[.agg (Penalty.c x)]) nxL p.1:=by
 obtain⟨xs,u⟩:=p;refine QeC func145 Z Z Z Z ?_;intro X hE hN;refine Gy0 1 Z (TCy.lf (G0 2 Z (Lg 2 Z Z ?_)));obtain⟨r,m,i,q,j,rfl⟩:=Qqj h;rw[Vc];refine QjY m (i++[]) [0] [0] Ze Ze Zf ?_ (λenv H s=>?_)
 .refine Gy0 1 Z (Qo0 [0] [0,5,6] (λk=>[(7,I k)]) Ze q Zf (Lr [0]) λk t w y a d=>?_);refine Gy0 1 Z (TCy.lf ?_);refine G0 3 Z (Gyx 2 Z (TCy.lf ?_));refine G0 0 Z (Q8 Z a (λ_ a=>?_) (λ_ a=>?_))
  .refine Gc 1 Z (Gyx 1 Z ?_);obtain⟨rfl,rfl,rfl⟩:=Oy d a;exact Qn6 (Gyx 1 Z (Qqh (Lr [0])))
  refine Gc 1 Z ?_;refine Gyx 4 Z (TCy.lf (G0 1 Z (Bd a λz f a=>Iz f Z (Go 4 Z ?_))));refine Gyx 5 Z ?_;obtain⟨B,l,rfl⟩:=QnB a;refine Qk6 hE hN Z Z Z Z ?_ ?_
  .refine Gyo 3 Z (TCy.lf ?_);refine G0 2 Z (Gyx 2 Z (TCy.lf ?_));exact G0 4 Z (Gyx 0 Z (QcS l (Lr [0])))
  .exact Gyo 7 Z (QkA (Gyx 1 Z (QoP (⟨.inr Z,.inr ⟨_,Z⟩⟩))))
 cases j;exact⟨.inl Z,.inl Z⟩
def F_mr(n:Nat)(d:List Penalty)(e:Penalty):Option (Ctl (List Penalty) (List Penalty)):=(app d [e]).bind λa=>some (.cont a)
def F_jn(d:List Penalty):Option (List Penalty):=(F_jc n d).bind λy1=>(QhK (F_mr n) y1.1 []:Option (Ctl (List Penalty) (List Penalty))).bind λe=>match e with|.cont a=>(some a)|.done a=>some a
theorem k_jn(g:List Penalty):Kq (F_jn n g) 199 [.nils,.fn (.func 145) [] [.ptr 0 0]] [.cells 38 [.rsl 4 (map Penalty.c g)]] (λr=>.osl 1 0 r.length 4) (λr=>[.dead,.row 76 4 (map Penalty.c r)]):=by
 refine Kg 13 func199 Z Z Z Z λr h=>Bd h λy1 hy1 h=>Bd h λs j h=>(Qhs [0] (λd=>[.dead,.cells 38 [.osl 2 0 d.length 4],.row 76 4 (map Penalty.c d)]) j (k_jc _ _ _ hy1) Zf call145 Z Z Z Z (by decide) Z ?_ ?_ ?_)
 .exact En (YU (i:=1) (m:=0) (t:=76) Z Z Z) (Lr [0,1,2])
 .intro d u l a k;refine G0 4 Z (And.intro Z (G0 4 Z (vH (Ek (xs:=[.tmp 9]) QbK Z Z Z Z Z ⟨Z,trivial⟩ Z Z) ?_)));refine FE Z (Bd a λp f a=>vH (Qk (e:=Penalty.c) f QbK EI (QH (i:=4))) ?_);exact Fg 3 Z Z (QlA a (Lr [0,1,5]))
 rintro q rfl;exact Gx 9 Z (Rt h 4 [0,2])
def F_iv(a:List Penalty):Option (List Penalty):=(F_jn n a).bind λd=>some d
theorem k_iv(a:List Penalty):Kq (F_iv n a) 143 [.fn (.func 145) [] [.ptr 0 0]] [.cells 38 [.rsl 4 (map Penalty.c a)]] (λr=>.osl 1 0 r.length 4) (λr=>[.dead,.row 76 4 (map Penalty.c r)]):=by
 exact Kg 8 func143 Z Z Z Z λr h=>Cd [0] h (k_jn _ _) Z λe d h=>FE Z (Gt 4 Z h 2 [0,1])
def F_eb(n:Nat)(a:Penalty):Option Unit:=some ()
theorem k_eb(a:Penalty):Ks (F_eb n a) 30 [.agg (Penalty.c a)] [] (λ_=>I a.Position):=by
 exact Kg 14 func30 Z Z Z Z λr h=>Rt h 2 []
def F_ie(a:Penalty)(d:Penalty):Option Int:=(F_eb n a).bind λf=>(F_eb n d).bind λg=>(F_v n a.Position d.Position).bind λe=>some e
theorem k_ie(a:Penalty)(d:Penalty):Ks (F_ie n a d) 66 [.agg (Penalty.c a),.agg (Penalty.c d),.ptr 0 0] [.cells 104 [.fn (.func 30) [] []]] (λr=>I r):=by
 exact Kg 8 func66 Z Z Z Z λr h=>DSs 5 Z (D 2 Z (Dz [] h (k_eb _ _) Z λi e h=>D 2 Z (Eg Z (Cz [] h (k_eb _ _) Z λj f h=>Cz [] h (k_v _ _ _) Z λk g h=>Gt 4 Z h 5 [0]))))
def F_mf(l:Int)(a:(List Penalty)×Int):Option (Ctl ((List Penalty)×Int) (List Penalty)):=((bif decide (l<a.2)then(idx a.1 a.2).bind λe=>(idx a.1 (i64.wrap (a.2-1))).bind λf=>(F_ie n e f).bind λg=>some (decide (g<0))else some false):Option Bool).bind λh=>(bif h then(idx a.1 (i64.wrap (a.2-1))).bind λi=>(idx a.1 a.2).bind λj=>(idx a.1 a.2).bind λm=>(QcM a.1 a.2 i).bind λd=>(idx d (i64.wrap (a.2-1))).bind λp=>(QcM d (i64.wrap (a.2-1)) j).bind λk=>some (.cont (k,i64.wrap (a.2-1)))else some (.done a.1))
def F_ms(e:Int)(f:Int)(a:(List Penalty)×Int):Option (Ctl ((List Penalty)×Int) (List Penalty)):=(bif decide (a.2<f)then(iter (F_mf n e) n (a.1,a.2):Option (List Penalty)).bind λd=>some (.cont (d,i64.wrap (a.2+1)))else some (.done a.1))
def F_jr(e:List Penalty)(d:Int)(f:Int):Option (List Penalty):=(iter (F_ms n d f) n (e,i64.wrap (d+1)):Option (List Penalty)).bind λa=>some a
theorem k_jr(R:List Penalty)(Y:Int)(a3:Int):Kq (F_jr n R Y a3) 258 [.osl 0 0 R.length 4,I Y,I a3,.fn (.func 66) [] [.ptr 1 0]] [.row 76 4 (map Penalty.c R),.cells 104 [.fn (.func 30) [] []]] (λ_=>.tup []) (λr=>[.row 76 4 (map Penalty.c r),.cells 104 [.fn (.func 30) [] []]]):=by
 refine Kg 7 func258 Z Z Z Z λr h=>Bd h λt T h=>Ct t [0,1] [] Ze (λt=>[(0,.row 76 4 (map Penalty.c t))]) Zf ?_ (λenv H m=>?_)
 .refine G0 1 Z (Lp [0,1] [1,2,3] (λp=>[(0,.osl 0 0 p.1.length 4),(8,I p.2)]) (λp=>[(0,.row 76 4 (map Penalty.c p.1))]) T Zf (Lr [0,1]) λp ab i M=>?_);refine G0 8 Z (Q8 Z i (λ_ i=>?_) (λ_ i=>?_))
  .exact Gc 2 Z (Ql i (Gx 1 Z (cQo M i (Lr [0,1]))))
  refine Gc 10 Z (Bd i λq V i=>Ct q [0,1] [1,2,3,8] (λq=>[(0,.osl 0 0 q.length 4)]) (λq=>[(0,.row 76 4 (map Penalty.c q))]) Zf ?_ (λenv H m=>?_))
  .refine G0 1 Z (Lp [0,1] [1,2,3,8] (λa=>[(0,.osl 0 0 a.1.length 4),(9,I a.2)]) (λa=>[(0,.row 76 4 (map Penalty.c a.1))]) V Zf (Lr [0,1]) λa ac d O=>?_);refine G0 2 Z (Bd d λu g d=>Ct u [0,1] [0,1,2,3,8,9] (λu=>[(34,.bool u)]) Ze Zf ?_ (λenv H m=>?_))
   .refine G0 0 Z (DSs 14 Z (D 4 Z (QeG 3 g Z Z Z (λ_ g=>?_) (λ_ g=>?_))))
    .refine D 3 Z ?_;obtain⟨W,w,g⟩:=YM g;refine DS.v (x:=(.ptr 0 (toNat a.2*4))) (Qv w Z EI EG) ?_ (hg:=(gT Z));refine DS.v (x:=(.agg (Penalty.c W))) (Qs Z EV EG Z (Qi w) Z Z) ?_ (hg:=(gT Z));refine D 3 Z ?_;obtain⟨X,y,g⟩:=YM g;refine DS.v (x:=(.ptr 0 (toNat (i64.wrap (a.2-1))*4))) (Qv y Z EI EG) ?_ (hg:=(gT Z));refine DS.v (x:=(.agg (Penalty.c X))) (Qs Z EV EG Z (Qi y) Z Z) ?_ (hg:=(gT Z));exact Eg Z (Cz [1] g (k_ie _ _ _) Z λae aa g=>Gl 3 Z g [0,1])
    .exact D 10 Z (Eg Z (Gl 4 Z g [0,1]))
   refine Gx 1 Z (Qf m (Q8 Z d (λ_ d=>?_) (λ_ d=>?_)))
   .exact Gc 2 Z (Ql d (Gx 1 Z (cQo O d (Lr [0,1]))))
   refine Gc 4 Z ?_;obtain⟨G,z,d⟩:=YM d;obtain⟨J,B,d⟩:=YM d;obtain⟨af,E,d⟩:=YM d;obtain⟨L,j,d⟩:=YM d;refine YS 16 0 [37,38,39,40,41,42,43,44,45,46,47,48,49,50,51,1000015] [false,false,false,false,false,false,false,false,false,false,false,false,false,false,false,true] [[],[],[],[],[],[],[],[],[],[],[],[],[],[],[],[]] [[],[15]] [[(0,0)],[(0,0)],[(0,0),(1,1)],[(0,0),(1,1)],[(0,0),(1,1)],[(0,0)],[(0,0)],[(0,0)],[(0,0)],[(0,0)],[(0,0)],[(0,0)],[(0,0)],[(0,0)],[(0,0)],[(0,1)]] [.osl 0 0 a.1.length 4,I a.2,.osl 0 0 a.1.length 4,I a.2,I (i64.wrap (a.2-1)),.osl 0 0 a.1.length 4,I a.2,I (i64.wrap (a.2-1)),.ptr 0 (toNat (i64.wrap (a.2-1))*4),.agg (Penalty.c G),.osl 0 0 a.1.length 4,I a.2,.ptr 0 (toNat a.2*4),.agg (Penalty.c J),.ptr 0 (toNat a.2*4),.any] [[.row 76 4 (map Penalty.c a.1),.cells 104 [.fn (.func 30) [] []]],[.row 76 4 (map Penalty.c L),.cells 104 [.fn (.func 30) [] []]]] ([.row 76 4 (map Penalty.c L),.cells 104 [.fn (.func 30) [] []]]) draws Z Z Z Z Z Z Z ?_ Z ?_
   .refine QiA.cons (Qb (v0 Z Z) (Qd)) (QiA.cons (Qb (v0 Z Z) (Qd)) (QiA.cons (Qb (v0 Z Z) (Qb (v0 Z Z) (Qd))) (QiA.cons (Qb (v0 Z Z) (Qb (v0 Z Z) (Qd))) (QiA.cons ?_ (QiA.cons (Qb (v0 Z Z) (Qd)) (QiA.cons (Qb (v0 Z Z) (Qd)) (QiA.cons ?_ (QiA.cons ?_ (QiA.cons ?_ (QiA.cons (Qb (v0 Z Z) (Qd)) (QiA.cons (Qb (v0 Z Z) (Qd)) (QiA.cons ?_ (QiA.cons ?_ (QiA.cons ?_ (QiA.cons ?_ (QiA.nil))))))))))))))))
    .refine Qb ?_ (Qb ?_ (Qd))
     iterate 2 refine Om Z (sD 3 sN) ?_;exact S Z Wp
    .refine Qb ?_ (Qd)
     .refine Om Z (sD 6 sN) ?_;exact S Z Wp
    .refine Qb ?_ (Qd)
     .refine Om Z (sD 5 (sD 7 sN)) ?_;refine vX (.ptr 0 (toNat (i64.wrap (a.2-1))*4)) (Qv z Z EI EG) ?_;exact Wp
    .refine Qb ?_ (Qd)
     .refine Om Z (sD 8 sN) ?_;refine vX (.agg (Penalty.c G)) (Qs Z EV EG Z (Qi z) Z Z) ?_;exact Wp
    .refine Qb ?_ (Qd)
     .refine Om Z (sD 10 (sD 11 sN)) ?_;refine vX (.ptr 0 (toNat a.2*4)) (Qv B Z EI EG) ?_;exact Wp
    .refine Qb ?_ (Qd)
     .refine Om Z (sD 12 sN) ?_;refine vX (.agg (Penalty.c J)) (Qs Z EV EG Z (Qi B) Z Z) ?_;exact Wp
    .refine Qb ?_ (Qd)
     .refine Om Z (sD 0 (sD 1 sN)) ?_;refine vX (.ptr 0 (toNat a.2*4)) (Qv E Z EI EG) ?_;exact Wp
    .refine Qb ?_ (Qd)
     .refine Om2 Z (sD 9 (sD 14 sN)) ?_;refine vU (J0 (e:=Penalty.c) (k:=4) (f:=0) E j EG Z Z) ?_;exact FE Z Wp
   refine QG (QU (s:=0) Z (congrArg (λn=>A.osl 0 0 n 4) (YI j))) ?_;refine QG (QU (s:=37) Z (congrArg (λn=>A.osl 0 0 n 4) (YI j))) ?_;refine QG (QU (s:=39) Z (congrArg (λn=>A.osl 0 0 n 4) (YI j))) ?_;refine QG (QU (s:=42) Z (congrArg (λn=>A.osl 0 0 n 4) (YI j))) ?_;refine QG (QU (s:=47) Z (congrArg (λn=>A.osl 0 0 n 4) (YI j))) ?_;refine Bd d λag F d=>?_;refine vX (.ptr 0 (toNat (i64.wrap (a.2-1))*4)) (Qv F Z EI EG) ?_;refine Bd d λah l d=>?_;refine vU (J0 (e:=Penalty.c) (k:=4) (f:=0) F l EG Z Z) ?_;refine FE Z ?_;refine QG (QU (s:=0) Z (congrArg (λn=>A.osl 0 0 n 4) (YI l))) ?_;refine QG (QU (s:=37) Z (congrArg (λn=>A.osl 0 0 n 4) (YI l))) ?_;refine QG (QU (s:=39) Z (congrArg (λn=>A.osl 0 0 n 4) (YI l))) ?_;refine QG (QU (s:=42) Z (congrArg (λn=>A.osl 0 0 n 4) (YI l))) ?_;refine QG (QU (s:=47) Z (congrArg (λn=>A.osl 0 0 n 4) (YI l))) ?_;exact Go 8 Z (Qj d (Lr [0,1]))
  exact Gx 2 Z (Qf m (Gc 5 Z (Qj i (Lr [0,1]))))
 obtain rfl:=Oi h;have m:=m;refine⟨[],_,_,?_,QcH.nil Z,Z,Z⟩;refine En m ?_;exact Lr [0,1]
def F_jb(a:List Penalty)(d:Int):Option (List Penalty):=(bif decide (d<20)then(Qg2 a (F_jr n a 0 d)).bind λe=>some e else none)
theorem k_jb(a:List Penalty)(d:Int):Kq (F_jb n a d) 200 [.osl 0 0 a.length 4,I d,.fn (.func 66) [] [.ptr 1 0]] [.row 76 4 (map Penalty.c a),.cells 104 [.fn (.func 30) [] []]] (λ_=>.tup []) (λr=>[.row 76 4 (map Penalty.c r),.cells 104 [.fn (.func 30) [] []]]):=by
 intro r h;obtain⟨hk1,hk2,h⟩:=gd20 h;refine QE func200 Z Z Z (G0 23 Z (CnF hk1 Z (Gc 11 Z (Bd h λf e h=>?_))));refine QD [0,1] (OpC.fn call258 Z Z Z) (k_jr _ _ _ _ _ (QfC e)) ?_;rintro _ _ ⟨rfl,rfl⟩;refine Go 12 Z (CnF hk2 Z (Gc 4 Z ?_));obtain rfl:=Oi h;exact Rx [0,1] [] Z (QcH.nil Z) ⟨Z,Z⟩
def F_ix(a:List Penalty):Option (List Penalty):=(Qg2 a (F_jb n a (a.length:Int))).bind λd=>some d
theorem k_ix(a:List Penalty):Kq (F_ix n a) 144 [.osl 0 0 a.length 4,.fn (.func 66) [] [.ptr 1 0]] [.row 76 4 (map Penalty.c a),.cells 104 [.fn (.func 30) [] []]] (λ_=>.tup []) (λr=>[.row 76 4 (map Penalty.c r),.cells 104 [.fn (.func 30) [] []]]):=by
 refine Kg 5 func144 Z Z Z Z λr h=>Bd h λe d h=>(QD [0,1] (OpC.fn call200 Z Z Z) (k_jb _ _ _ _ (QfC d)) ?_);rintro _ _ ⟨rfl,rfl⟩;refine Go 1 Z ?_;obtain rfl:=Oi h;exact Rx [0,1] [] Z (QcH.nil Z) ⟨Z,Z⟩
def F_jj(d:List Penalty):Option (List Penalty):=(F_iv n d).bind λa=>(Qg2 a (F_ix n a)).bind λe=>some e
theorem k_jj(d:List Penalty):Kq (F_jj n d) 64 [.fn (.func 145) [] [.ptr 0 0],.fn (.func 66) [] [.ptr 1 0]] [.cells 38 [.rsl 4 (map Penalty.c d)],.cells 104 [.fn (.func 30) [] []]] (λr=>.osl 2 0 r.length 4) (λr=>[.dead,.cells 104 [.fn (.func 30) [] []],.row 76 4 (map Penalty.c r)]):=by
 refine Kg 8 func64 Z Z Z Z λr h=>Cd [0] h (k_iv _ _) Z λf e h=>Fg 7 Z Z (Bd h λg a h=>(QD [2,1] (OpC.fn call144 Z Z Z) (k_ix _ _ _ (QfC a)) ?_));rintro _ _ ⟨rfl,rfl⟩;refine QG (QU (s:=5) Z (congrArg (λn=>A.osl 2 0 n 4) (QmH a))) ?_;exact Gt 9 Z h 4 [0,1,2]
def F_iu(a:List Penalty):Option (List Penalty):=(F_hy n a).bind λe=>(F_jj n a).bind λd=>some d
theorem k_iu(a:List Penalty):Kq (F_iu n a) 29 [.rsl 4 (map Penalty.c a),.fn (.func 30) [] []] [] (λr=>.osl 0 0 r.length 4) (λr=>[.row 76 4 (map Penalty.c r)]):=by
 exact Kg 9 func29 Z Z Z Z λr h=>Cd [] h (k_hy _ _) Z λf d h=>Fg 1 Z Z (Cd [1,0] h (k_jj _ _) Z λg e h=>FE Z (Gt 4 Z h 4 [2]))
def F_lx(n:Nat)(f:List Penalty)(a:(List Penalty)×Int×Int):Option (Ctl ((List Penalty)×Int×Int) (List Penalty)):=(bif decide (a.2.2<(f.length:Int))then(idx a.1 a.2.2).bind λd=>(idx a.1 a.2.2).bind λg=>(QcM a.1 a.2.2 ({g with Laps:=(if a.2.1<d.Laps then a.2.1 else d.Laps):Penalty})).bind λe=>(idx e a.2.2).bind λh=>some (.cont (e,i64.wrap (a.2.1-h.Laps),i64.wrap (a.2.2+1)))else some (.done a.1))
def F_bi(a:Course)(f:List Fact)(g:Int):Option (List Penalty):=(F_if n a f).bind λe=>(bif (e.2 != 0)then some []else(F_jt n e.1 g).bind λh=>(bif decide (h<0)then some []else(idx e.1 h).bind λi=>(idx a.Distances i.Distance).bind λm=>((bif decide (0<=m.Extra)then(F_hi n a i.Distance).bind λj=>some (i64.wrap (256-(j.1.length:Int)))else some 0):Option Int).bind λp=>(F_w n a f g).bind λk=>(F_iu n k.2).bind λd=>(iter (F_lx n d) n (d,p,0):Option (List Penalty)).bind λl=>some l))
theorem k_bi(B:Course)(E:List Fact)(F:Int):Kq (F_bi n B E F) 11 [.agg (Course.c B),.rsl 57 (map Fact.c E),I F] [] (λr=>.osl 0 0 r.length 4) (λr=>[.row 76 4 (map Penalty.c r)]):=by
 refine Kg 11 func11 Z Z Z Z λr h=>Cd [] h (k_if _ _ _) Z λr1 W h=>Fg 14 Z Z (Cn Z h (λ_ h=>?_) (λ_ h=>?_))
 .refine Gc 7 Z ?_;obtain rfl:=Oi h;refine R1 6 Z ?_;refine En (Ep (s:=6) (k:=4) (t:=76) (XO Z) Z) ?_;exact Lr [3]
 refine Gc 6 Z (Cz [2,1] h (k_jt _ _ _) Z λP X h=>Go 10 Z (Cn Z h (λ_ h=>?_) (λ_ h=>?_)))
 .refine Gc 7 Z ?_;obtain rfl:=Oi h;refine R1 6 Z ?_;refine En (Ep (s:=6) (k:=4) (t:=76) (XO Z) Z) ?_;exact Lr [3]
 refine Gc 6 Z (Bd h λQ u h=>?_);refine vX (.ptr 2 (toNat P*8)) (Qv u Z Gy GI) ?_;refine Fp QpO Z ?_;refine vX (I Q.Distance) (Ey Z EF Z (Qd5 (f:=1) u)) ?_;refine Go 14 Z (Bd h λx6 L h=>Iz L Z (Go 5 Z (Bd h λw g h=>Ct w [0,1] [1,3,5] (λw=>[(11,I w)]) Ze Zf ?_ (λenv H M=>?_))))
 .refine G0 0 Z (Cn Z g (λ_ g=>?_) (λ_ g=>?_))
  .exact Gc 4 Z (Cd [] g (k_hi _ _ _) Z λY R g=>Fg 9 Z Z (Lm Z (Gl 3 Z g [0,1])))
  exact YC 1 Z g [0,1]
 refine Gx 1 Z (Qf M (Gc 5 Z (Cd [] h (k_w _ _ _ _) Z λaa T h=>Fg 9 Z Z ?_)));refine QG (Jm [(6,_),(50,_),(54,_),(56,_),(57,_)] Z Z (Qpf.cons Z Eo (Qpf.cons Z (FzA.tup (Ed (Ee _) (Ed Eo (Ej _)))) (Qpf.cons Z (FzA.tup (Ed (Ee _) (Ed Eo (Ej _)))) (Qpf.cons Z Eo (Qpf.cons Z Eo Qpf.nil))))) (Ec (Ec (Ec (Ec (Ec (FzH.cells (Ed Eo (Ej _)) (YD _)))))))) ?_;refine Cd [] h (k_iu _ _) Z λab V h=>Fg 11 Z Z (Bd h λj N h=>Cg j [0] [] (λj=>[(6,.osl 0 0 j.length 4)]) (λj=>[(0,.row 76 4 (map Penalty.c j))]) Zf ?_ ?_)
 .refine G0 1 Z (Lp [6] [60] (λd=>[(6,.osl 0 0 d.1.length 4),(11,I d.2.1),(59,.osl 0 0 d.1.length 4),(61,I d.2.2)]) (λd=>[(0,.row 76 4 (map Penalty.c d.1))]) N Zf (Lr [6]) λd ac a y=>?_);refine G0 6 Z (Q8 Z a (λ_ a=>?_) (λ_ a=>?_))
  .exact Gc 2 Z (Ql a (Gx 1 Z (cQo y a (Lr [0]))))
  refine Gc 7 Z (Bd a λl m a=>?_);refine vX (.ptr 0 (toNat d.2.2*4)) (Qv m Z EI EG) ?_;refine vX (.agg (Penalty.c l)) (Qs Z EV EG Z (Qi m) Z Z) ?_;refine Go 12 Z ?_;refine vX (I (if d.2.1<l.Laps then d.2.1 else l.Laps)) (OpV.min Z Z Z Z) ?_;refine Bd a λae p a=>?_;refine vX (.ptr 0 (toNat d.2.2*4)) (Qv p Z EI EG) ?_;refine Fp QlX Z (Bd a λaf i a=>?_);refine vU (J0 (e:=Penalty.c) (k:=4) (f:=2) p i EE Z Z) ?_;refine FE Z ?_;refine QG (QU (s:=6) Z (congrArg (λn=>A.osl 0 0 n 4) (YI i))) ?_;refine QG (QU (s:=59) Z (congrArg (λn=>A.osl 0 0 n 4) (YI i))) ?_;refine QG (QU (s:=66) Z (congrArg (λn=>A.osl 0 0 n 4) (YI i))) ?_;refine Go 6 Z (Bd a λO q a=>?_);refine vX (.ptr 0 (toNat d.2.2*4)) (Qv q Z EI EG) ?_;refine Fp QlX Z ?_;refine vX (I O.Laps) (Ey Z EF Z (Qd5 (f:=2) q)) ?_;exact Go 9 Z (Qj a (Lr [0]))
 exact QI 7 Z h 6 [0]
def F_mm(n:Nat)(f:List Penalty)(g:Int)(a:Int×Int×Bool×Int):Option (Ctl (Int×Int×Bool×Int) (Int×Int×Bool)):=(bif decide (a.2.2.2<(f.length:Int))then(idx f a.2.2.2).bind λd=>((bif decide (d.Position<=g)then(bif a.2.2.1 then some (i64.wrap (a.1+d.Time),i64.wrap (a.2.1+d.Laps),true)else some (i64.wrap (a.1+d.Time),i64.wrap (a.2.1+d.Laps),d.Out))else some (a.1,a.2.1,a.2.2.1)):Option (Int×Int×Bool)).bind λe=>some (.cont (e.1,e.2.1,e.2.2,i64.wrap (a.2.2.2+1)))else some (.done (a.1,a.2.1,a.2.2.1)))
def F_ho(d:List Penalty)(e:Int):Option (Int×Int×Bool):=(iter (F_mm n d e) n (0,0,false,0):Option (Int×Int×Bool)).bind λa=>some (a.1,a.2.1,a.2.2)
theorem k_ho(q:List Penalty)(s:Int):Ks (F_ho n q s) 16 [.rsl 4 (map Penalty.c q),I s] [] (λr=>.tup [I r.1,I r.2.1,.bool r.2.2]):=by
 refine Kg 11 func16 Z Z Z Z λr h=>Lg 3 Z Z (Bd h λi t h=>Cg i [] [] (λi=>[(4,I i.1),(5,I i.2.1),(6,.bool i.2.2)]) Ze Zf ?_ ?_)
 .refine G0 1 Z (Lp [] [1,9,10] (λa=>[(4,I a.1),(5,I a.2.1),(6,.bool a.2.2.1),(11,I a.2.2.2)]) Ze t Zf (Lr []) λa w e k=>?_);refine G0 6 Z (Q8 Z e (λ_ e=>?_) (λ_ e=>?_))
  .exact Gc 2 Z (Ql e (Gx 1 Z (cQo k e (Lr []))))
  refine Gc 6 Z (Bd e λd m e=>Iz m Z (Go 13 Z (Bd e λj g e=>Ct j [] [1,9,10,11] (λj=>[(4,I j.1),(5,I j.2.1),(6,.bool j.2.2)]) Ze Zf ?_ (λenv H u=>?_))))
  .refine G0 0 Z (Cn Z g (λ_ g=>?_) (λ_ g=>?_))
   .refine If g (λf g=>?_) (λf g=>?_)
    .refine TC.draw0 15 [19,20,21,22,23,24,25,26,27,28,29,30,31,4,5] [I a.1,.ptr 0 1,I d.Time,I (i64.wrap (a.1+d.Time)),I a.2.1,.ptr 0 2,I d.Laps,I (i64.wrap (a.2.1+d.Laps)),.bool a.2.2.1,.bool a.2.2.1,.tup [],.tup [],.bool true,I (i64.wrap (a.1+d.Time)),I (i64.wrap (a.2.1+d.Laps))] draws Z Z Z ?_ ?_
     .refine Oq.c ?_ (ov (ov (Oq.c ?_ (Oq.c ?_ (ov (ov (Oq.c ?_ (ov (ov (Oq.c ?_ (Oq.c ?_ (Oq.c ?_ (ov (ov (Oq.n)))))))))))))))
      .refine Om Z (sP 13 sN) ?_;exact S Z Wp
      .refine Om Z (sD 0 (sD 2 sN)) ?_;exact S Z Wp
      .refine Om Z (sP 14 sN) ?_;exact S Z Wp
      .refine Om Z (sD 4 (sD 6 sN)) ?_;exact S Z Wp
      .refine Om Z (sO 8 (sD 9 sN)) ?_;exact K (gF f) Z Wp
      .refine Om Z (sD 9 (sD 10 sN)) ?_;exact K (gF f) Z Wp
      .refine Om Z (sD 9 (sD 11 sN)) ?_;exact Pk f Z Wp
     exact Gl 2 Z g []
    .refine TC.draw0 15 [19,20,21,22,23,24,25,26,27,28,29,30,31,4,5] [I a.1,.ptr 0 1,I d.Time,I (i64.wrap (a.1+d.Time)),I a.2.1,.ptr 0 2,I d.Laps,I (i64.wrap (a.2.1+d.Laps)),.bool a.2.2.1,.bool a.2.2.1,.ptr 0 3,.bool d.Out,.bool d.Out,I (i64.wrap (a.1+d.Time)),I (i64.wrap (a.2.1+d.Laps))] draws Z Z Z ?_ ?_
     .refine Oq.c ?_ (ov (ov (Oq.c ?_ (Oq.c ?_ (ov (ov (Oq.c ?_ (ov (ov (Oq.c ?_ (Oq.c ?_ (Oq.c ?_ (ov (ov (Oq.n)))))))))))))))
      .refine Om Z (sP 13 sN) ?_;exact S Z Wp
      .refine Om Z (sD 0 (sD 2 sN)) ?_;exact S Z Wp
      .refine Om Z (sP 14 sN) ?_;exact S Z Wp
      .refine Om Z (sD 4 (sD 6 sN)) ?_;exact S Z Wp
      .refine Om Z (sO 8 (sD 9 sN)) ?_;exact Fpg (gT f) QpK Z Wp
      .refine Om Z (sD 9 (sD 10 sN)) ?_;exact Ldg (gT f) isAgg4 Z Wp
      .refine Om Z (sD 9 (sD 11 sN)) ?_;exact Pk f Z Wp
     exact Gl 2 Z g []
   exact YC 1 Z g []
  exact Gx 2 Z (Qf u (Gc 4 Z (Qj e (Lr []))))
 refine Gc 11 Z ?_;obtain rfl:=Oi h;exact Rx [] [4,5,6] Z (Qj1 Z Z Z Z) ⟨Z,Z⟩
def F_mx(n:Nat)(d:List Penalty)(a:Int×Int):Option (Ctl (Int×Int) Int):=(bif decide (a.2<(d.length:Int))then(idx d a.2).bind λe=>some (.cont (i64.wrap (a.1+e.Laps),i64.wrap (a.2+1)))else some (.done a.1))
def F_il(a:Course)(d:List Fact)(e:Int):Option Int:=(F_bi n a d e).bind λf=>(iter (F_mx n f) n (0,0):Option Int).bind λg=>some g
theorem k_il(i:Course)(j:List Fact)(k:Int):Ks (F_il n i j k) 13 [.agg (Course.c i),.rsl 57 (map Fact.c j),I k] [] (λr=>I r):=by
 refine Kg 12 func13 Z Z Z Z λr h=>Cd [] h (k_bi _ _ _ _) Z λt p h=>Fg 4 Z Z (Bd h λf m h=>Cg f [] [] (λf=>[(6,I f)]) Ze Zf ?_ ?_)
 .refine G0 1 Z (Lp [1] [12,13] (λd=>[(6,I d.1),(14,I d.2)]) Ze m Zf (Lr [1]) λd q a l=>?_);refine G0 6 Z (Q8 Z a (λ_ a=>?_) (λ_ a=>?_))
  .exact Gc 2 Z (Ql a (Gx 1 Z (cQo l a (Lr []))))
  refine Gc 6 Z (Bd a λs e a=>(vV (Qv e Z EI EG) ?_));refine vV (Qs Z EV EG Z (Qi e) Z Z) ?_;exact Go 17 Z (Qj a (Lr [0]))
 exact QI 7 Z h 6 []
def F_ln(n:Nat)(d:List Int)(g:List Int)(a:Int):Option (Ctl Int (Ctl Unit Bool)):=(bif decide (a<(d.length:Int))then(idx d a).bind λe=>(idx g a).bind λf=>(bif (e != f)then some (.done (.done false))else some (.cont (i64.wrap (a+1))))else some (.done (.cont ())))
def F_au(d:List Int)(e:List Int):Option Bool:=(bif ((d.length:Int) != (e.length:Int))then some false else(iter (F_ln n d e) n 0:Option (Ctl Unit Bool)).bind λf=>match f with|.cont a=>(some true)|.done a=>some a)
theorem k_au(k:List Int)(l:List Int):Ks (F_au n k l) 9 [.rsl 1 (map (Qe .i64) k),.rsl 1 (map (Qe .i64) l)] [] (λr=>.bool r):=by
 refine Kg 9 func9 Z Z Z Z λr h=>Lg 1 Z Z (Lg 3 Z Z (Cn Z h (λ_ h=>?_) (λ_ h=>?_)))
 .exact QI 7 Z h 4 []
 refine Gc 8 Z (Bd h λp q h=>CgE (b:=p) [] [] Ze Ze Zf ?_ (λ_ s=>?_))
 .refine G0 1 Z (Lp [] [0,1] (λe=>[(5,I e)]) Ze q Zf (Lr []) λe y a d=>(G0 5 Z (Lg 3 Z Z (Q8 Z a (λ_ a=>?_) (λ_ a=>?_)))))
  .exact Gc 2 Z (Ql a (Gx 1 Z (JN d a Z (Lr []))))
  refine Gc 5 Z (DSs 8 Z (D 2 Z ?_));obtain⟨t,g,a⟩:=YM a;refine DS.wo (x:=.rp [I t]) ?_ ?_
  .exact Ix g EA EE Z Wp
  refine D 3 Z ?_;obtain⟨u,i,a⟩:=YM a;refine DS.wo (x:=.rp [I u]) ?_ ?_
  .exact Ix i EA EE Z Wp
  refine D 1 Z (Eg Z (Go 3 Z (Cn Z a (λ_ a=>?_) (λ_ a=>?_))))
  .refine Gc 8 Z (Qx a ?_);obtain rfl:=Oj d a;exact Gx 1 Z (Qt (Gx 1 Z (Rt h 4 [])))
  exact Gc 8 Z (Qj a (Lr []))
 subst s;exact QI 6 Z h 4 []
def F_lm(n:Nat)(d:List Penalty)(g:List Penalty)(a:Int):Option (Ctl Int (Ctl Unit Bool)):=(bif decide (a<(d.length:Int))then(idx d a).bind λe=>(idx g a).bind λf=>(bif (e != f)then some (.done (.done false))else some (.cont (i64.wrap (a+1))))else some (.done (.cont ())))
def F_ao(d:List Penalty)(e:List Penalty):Option Bool:=(bif ((d.length:Int) != (e.length:Int))then some false else(iter (F_lm n d e) n 0:Option (Ctl Unit Bool)).bind λf=>match f with|.cont a=>(some true)|.done a=>some a)
theorem k_ao(m:List Penalty)(p:List Penalty):Ks (F_ao n m p) 10 [.rsl 4 (map Penalty.c m),.rsl 4 (map Penalty.c p)] [] (λr=>.bool r):=by
 refine Kg 9 func10 Z Z Z Z λr h=>Lg 1 Z Z (Lg 3 Z Z (Cn Z h (λ_ h=>?_) (λ_ h=>?_)))
 .exact QI 7 Z h 4 []
 refine Gc 8 Z (Bd h λs t h=>CgE (b:=s) [] [] Ze Ze Zf ?_ (λ_ u=>?_))
 .refine G0 1 Z (Lp [] [0,1] (λg=>[(5,I g)]) Ze t Zf (Lr []) λg y a f=>(G0 5 Z (Lg 3 Z Z (Q8 Z a (λ_ a=>?_) (λ_ a=>?_)))))
  .exact Gc 2 Z (Ql a (Gx 1 Z (JN f a Z (Lr []))))
  refine Gc 5 Z (DSs 8 Z (D 2 Z ?_));obtain⟨d,j,a⟩:=YM a;refine DS.wo (x:=.rp [I d.Position,I d.Time,I d.Laps,.bool d.Out]) ?_ ?_
  .exact Ix j EI EG Z Wp
  refine D 3 Z ?_;obtain⟨e,k,a⟩:=YM a;refine DS.wo (x:=.rp [I e.Position,I e.Time,I e.Laps,.bool e.Out]) ?_ ?_
  .exact Ix k EI EG Z Wp
  refine D 1 Z (Eg Z (vV (Qhu QqY Z Z) ?_));refine Go 2 Z (Cn Z a (λ_ a=>?_) (λ_ a=>?_))
  .refine Gc 8 Z (Qx a ?_);obtain rfl:=Oj f a;exact Gx 1 Z (Qt (Gx 1 Z (Rt h 4 [])))
  exact Gc 8 Z (Qj a (Lr []))
 subst u;exact QI 6 Z h 4 []
abbrev lit_2:List Fact:=[{Up with No:=1,Kind:=1,Starter:={Uz with Bib:=5:Starter}:Fact},{Up with No:=2,Kind:=8,Report:={Case:=3,Bib:=5,Offence:=0,Position:=1:Report}:Fact},{Up with No:=3,Kind:=8,Report:={Case:=4,Bib:=5,Offence:=1,Position:=0:Report}:Fact},{Up with No:=4,Kind:=10,Ruling:={Ux with Case:=3,Instance:=1,Kind:=2:Ruling}:Fact}]
abbrev lit_3:List Fact:=[{Up with No:=1,Kind:=1,Starter:={Uz with Bib:=5:Starter}:Fact},{Up with No:=2,Kind:=8,Report:={Case:=3,Bib:=5,Offence:=0,Position:=1:Report}:Fact},{Up with No:=3,Kind:=8,Report:={Case:=4,Bib:=5,Offence:=1,Position:=0:Report}:Fact}]
abbrev lit_4:List Offence:=[{Name:=[100,114,97,102,116,105,110,103],Time:=60,Laps:=0,Out:=false:Offence},{Name:=[115,104,111,114,116,99,117,116],Time:=0,Laps:=2,Out:=false:Offence}]
abbrev lit_5:List Distance:=[{Name:=[100],Route:=[Us,{Us with Mat:=1:Part}],Timing:=1,Cutoffs:=[],Extra:=(-1):Distance}]
abbrev lit_6:List Fact:=[{Up with No:=2,Kind:=8,Report:={Case:=3,Bib:=5,Offence:=0,Position:=1:Report}:Fact}]
abbrev lit_8:List Mat:=[{Name:=[108,105,110,101],Kind:=1:Mat},{Name:=[103,111,97,108],Kind:=3:Mat}]
abbrev lit_0:List A:=[.str [97],.rsl 2 (map Mat.c lit_8),.rsl 4 (map Leg.c [{From:=0,To:=1,Min:=0,Max:=50:Leg}]),.rsl 5 (map Distance.c lit_5),.rsl 2 (map Wave.c [{Name:=[119],Gun:=0:Wave}]),.rsl 4 (map Offence.c lit_4),.rsl 3 (map Category.c []),.rsl 4 (map Prize.c []),.rsl 8 (map Step.enc [{UA with Kind:=1,By:=5:Step}]),I 0,I 0,I 0,I 0,I 0,I 0,I 0]
abbrev lit_1:Course:={Name:=[97],Mats:=lit_8,Legs:=[{From:=0,To:=1,Min:=0,Max:=50:Leg}],Distances:=lit_5,Waves:=[{Name:=[119],Gun:=0:Wave}],Offences:=lit_4,Categories:=[],Prizes:=[],Ties:=[{UA with Kind:=1,By:=5:Step}],Faults:=Uq,Fee:=0,Deadline:=0:Course}
abbrev lit_9:List Penalty:=[{Position:=3,Time:=60,Laps:=2,Out:=true:Penalty}]
abbrev lit_10:Penalty:={Position:=1,Time:=60,Laps:=0,Out:=false:Penalty}
abbrev lit_7:List Penalty:=[lit_10,{Ut with Laps:=2:Penalty}]
abbrev lit_11:List Penalty:=[{Ut with Laps:=2:Penalty}]
def F_fz:Option Bool:=(F_hn n).bind λs=>(F_w n (lit_1) lit_3 5).bind λd=>(F_bi n (lit_1) lit_3 5).bind λq=>(F_w n (lit_1) lit_2 5).bind λe=>(F_ho n lit_9 2).bind λa=>(F_w n (lit_1) [] 5).bind λr=>((bif ((r.1.length:Int) != 0)then some true else(F_bi n (lit_1) lit_6 5).bind λf=>(bif ((f.length:Int) != 0)then some true else(bif (a.1 != 0)then some true else(bif (a.2.1 != 0)then some true else(bif a.2.2 then some true else(F_il n Un lit_6 5).bind λg=>some (g != 0)))))):Option Bool).bind λh=>(bif h then some false else((F_au n d.1 [3,4]).bind λi=>(bif i then(F_ao n d.2 lit_7).bind λj=>(bif j then(F_ao n q [Ut,lit_10]).bind λk=>(bif k then(F_au n e.1 [4]).bind λl=>(bif l then(F_ao n e.2 lit_11).bind λm=>some m else some false)else some false)else some false)else some false):Option Bool).bind λp=>some p)
theorem k_fz:Ks (F_fz n) 5 [] [] (λr=>.bool r):=by
 refine Kg 7 func5 Z Z Z Z λr h=>Cd [] h (k_hn _) Z λr1 R h=>?_;refine Go 42 Z (vH (Ek (xs:=[.tmp 27,.tmp 28,.tmp 29]) (es:=map Fact.c lit_3) Y9 Z Z Z Z Z ⟨Z,Z,Z,trivial⟩ Z Z) ?_);refine aV (.osl 12 0 (lit_3.length) 57) [_,_,_,_,_,_,_,_,_,_,_,_,.row 72 57 (map Fact.c lit_3)] Z Z ?_;refine QG (Jm [(16,_),(26,_)] Z Z (Qpf.cons Z (FzA.agg (Ed (Ee _) (Ed Eo (Ej _)))) (Qpf.cons Z (FzA.agg (Ed (Ee _) (Ed Eo (Ej _)))) Qpf.nil)) (Ec (Ec (Ec (Ec (Ec (Ec (FzH.cells (Ed (Ee _) (Ed Eo (Ej _))) (FzH.cells (Ed (Ee _) (Ed Eo (Ej _))) (YD _)))))))))) ?_;refine QG (Jm [(16,_),(26,_)] Z Z (Qpf.cons Z (FzA.agg (Ed (Ee _) (Ed (Ee _) (Ed Eo (Ej _))))) (Qpf.cons Z (FzA.agg (Ed (Ee _) (Ed (Ee _) (Ed Eo (Ej _))))) Qpf.nil)) (Ec (Ec (Ec (Ec (Ec (Ec (FzH.cells (Ed (Ee _) (Ed (Ee _) (Ed Eo (Ej _)))) (FzH.cells (Ed (Ee _) (Ed (Ee _) (Ed Eo (Ej _)))) (YD _)))))))))) ?_;refine QG (Jm [(16,_),(26,_)] Z Z (Qpf.cons Z (FzA.agg (Ed (Ee _) (Ed (Ee _) (Ed (Ee _) (Ed Eo (Ej _)))))) (Qpf.cons Z (FzA.agg (Ed (Ee _) (Ed (Ee _) (Ed (Ee _) (Ed Eo (Ej _)))))) Qpf.nil)) (Ec (Ec (Ec (Ec (Ec (Ec (FzH.cells (Ed (Ee _) (Ed (Ee _) (Ed (Ee _) (Ed Eo (Ej _))))) (FzH.cells (Ed (Ee _) (Ed (Ee _) (Ed (Ee _) (Ed Eo (Ej _))))) (YD _)))))))))) ?_;refine QG (Jm [(16,_),(26,_)] Z Z (Qpf.cons Z (FzA.agg (Ed (Ee _) (Ed (Ee _) (Ed (Ee _) (Ed (Ee _) (Ed Eo (Ej _))))))) (Qpf.cons Z (FzA.agg (Ed (Ee _) (Ed (Ee _) (Ed (Ee _) (Ed (Ee _) (Ed Eo (Ej _))))))) Qpf.nil)) (Ec (Ec (Ec (Ec (Ec (Ec (FzH.cells (Ed (Ee _) (Ed (Ee _) (Ed (Ee _) (Ed (Ee _) (Ed Eo (Ej _)))))) (FzH.cells (Ed (Ee _) (Ed (Ee _) (Ed (Ee _) (Ed (Ee _) (Ed Eo (Ej _)))))) (YD _)))))))))) ?_;refine QG (Jm [(16,_),(26,_)] Z Z (Qpf.cons Z (FzA.agg (Ed (Ee _) (Ed (Ee _) (Ed (Ee _) (Ed (Ee _) (Ed (Ee _) (Ed Eo (Ej _)))))))) (Qpf.cons Z (FzA.agg (Ed (Ee _) (Ed (Ee _) (Ed (Ee _) (Ed (Ee _) (Ed (Ee _) (Ed Eo (Ej _)))))))) Qpf.nil)) (Ec (Ec (Ec (Ec (Ec (Ec (FzH.cells (Ed (Ee _) (Ed (Ee _) (Ed (Ee _) (Ed (Ee _) (Ed (Ee _) (Ed Eo (Ej _))))))) (FzH.cells (Ed (Ee _) (Ed (Ee _) (Ed (Ee _) (Ed (Ee _) (Ed (Ee _) (Ed Eo (Ej _))))))) (YD _)))))))))) ?_;refine QG (Jm [(16,_),(26,_)] Z Z (Qpf.cons Z (FzA.agg (Ed (Ee _) (Ed (Ee _) (Ed (Ee _) (Ed (Ee _) (Ed (Ee _) (Ed (Ee _) (Ed (Ee _) (Ed (Ee _) (Ed Eo (Ej _))))))))))) (Qpf.cons Z (FzA.agg (Ed (Ee _) (Ed (Ee _) (Ed (Ee _) (Ed (Ee _) (Ed (Ee _) (Ed (Ee _) (Ed (Ee _) (Ed (Ee _) (Ed Eo (Ej _))))))))))) Qpf.nil)) (Ec (Ec (Ec (Ec (Ec (Ec (FzH.cells (Ed (Ee _) (Ed (Ee _) (Ed (Ee _) (Ed (Ee _) (Ed (Ee _) (Ed (Ee _) (Ed (Ee _) (Ed (Ee _) (Ed Eo (Ej _)))))))))) (FzH.cells (Ed (Ee _) (Ed (Ee _) (Ed (Ee _) (Ed (Ee _) (Ed (Ee _) (Ed (Ee _) (Ed (Ee _) (Ed (Ee _) (Ed Eo (Ej _)))))))))) (YD _)))))))))) ?_;refine QG (Jm [(30,_)] Z Z (Qpf.cons Z Eo Qpf.nil) (Ec (Ec (Ec (Ec (Ec (Ec (Ec (Ec (Ec (Ec (Ec (Ec (Ec (YD _))))))))))))))) ?_;refine Cd [] h (k_w _ _ _ _) Z λe T h=>?_;refine aV (.tup [.osl 13 0 e.1.length 1,.osl 14 0 e.2.length 4]) [.dead,.dead,.dead,.dead,.dead,.dead,.cells 33 lit_0,.cells 33 lit_0,_,_,_,_,.dead,.row 3 1 (map (Qe .i64) e.1),.row 76 4 (map Penalty.c e.2),.cells 37 [.osl 13 0 e.1.length 1],.cells 38 [.osl 14 0 e.2.length 4]] Z Z ?_;refine Go 13 Z (vH (Ek (xs:=[.tmp 35,.tmp 36,.tmp 37]) (es:=map Fact.c lit_3) Y9 Z Z Z Z Z ⟨Z,Z,Z,trivial⟩ Z Z) ?_);refine aV (.osl 17 0 (lit_3.length) 57) [_,_,_,_,_,_,_,_,_,_,_,_,_,_,_,_,_,.row 72 57 (map Fact.c lit_3)] Z Z ?_;refine QG (Jm [(38,_)] Z Z (Qpf.cons Z Eo Qpf.nil) (Ec (Ec (Ec (Ec (Ec (Ec (Ec (Ec (Ec (Ec (Ec (Ec (Ec (Ec (Ec (Ec (Ec (Ec (YD _)))))))))))))))))))) ?_;refine Cd [] h (k_bi _ _ _ _) Z λB V h=>?_;refine aV (.osl 18 0 B.length 4) [_,_,_,_,_,_,_,_,_,_,_,_,_,_,_,_,_,.dead,.row 76 4 (map Penalty.c B)] Z Z ?_;refine Go 10 Z (vH (Ek (xs:=[.tmp 42,.tmp 43,.tmp 44,.tmp 45]) (es:=map Fact.c lit_2) Y9 Z Z Z Z Z ⟨Z,Z,Z,Z,trivial⟩ Z Z) ?_);refine aV (.osl 19 0 (lit_2.length) 57) [_,_,_,_,_,_,_,_,_,_,_,_,_,_,_,_,_,_,_,.row 72 57 (map Fact.c lit_2)] Z Z ?_;refine QG (Jm [(46,_)] Z Z (Qpf.cons Z Eo Qpf.nil) (Ec (Ec (Ec (Ec (Ec (Ec (Ec (Ec (Ec (Ec (Ec (Ec (Ec (Ec (Ec (Ec (Ec (Ec (Ec (Ec (YD _)))))))))))))))))))))) ?_;refine Cd [] h (k_w _ _ _ _) Z λf W h=>?_;refine aV (.tup [.osl 20 0 f.1.length 1,.osl 21 0 f.2.length 4]) [_,_,_,_,_,_,_,_,_,_,_,_,_,_,_,_,_,_,_,.dead,.row 3 1 (map (Qe .i64) f.1),.row 76 4 (map Penalty.c f.2),.cells 37 [.osl 20 0 f.1.length 1],.cells 38 [.osl 21 0 f.2.length 4]] Z Z ?_;refine Go 10 Z (vH (Ek (xs:=[.tmp 51]) (es:=map Penalty.c lit_9) QbK Z Z Z Z Z ⟨Z,trivial⟩ Z Z) ?_);refine aV (.osl 24 0 (lit_9.length) 4) [_,_,_,_,_,_,_,_,_,_,_,_,_,_,_,_,_,_,_,_,_,_,_,_,.row 76 4 (map Penalty.c lit_9)] Z Z ?_;refine Bd h λl E h=>?_;refine Qgh (OpC.fn call16 rfl rfl rfl) (Qbp.cons rfl (.inr ⟨_,_,_,_,_,rfl,rfl,XX ..,rfl⟩) (Qbp.cons rfl (.inl ⟨rfl,rfl⟩) Qbp.nil)) (k_ho _ _ _ _ E) (by rintro _ _ ⟨rfl,rfl⟩;rfl) ?_;rintro _ _ ⟨rfl,rfl⟩;refine aV (.tup [I l.1,I l.2.1,.bool l.2.2]) [_,_,_,_,_,_,_,_,_,_,_,_,_,_,_,_,_,_,_,_,_,_,_,_,_] Z Z ?_;refine Go 12 Z (Bd h λg F h=>?_);refine QD [] (OpC.fn call7 Z Z Z) (C.nils (Qlj.eq (Qlj.nl (Qlj.eq Qlj.nil))) (k_w _ _ _ _ _ F)) ?_;rintro _ _ ⟨rfl,rfl⟩;refine aV (.tup [.osl 25 0 g.1.length 1,.osl 26 0 g.2.length 4]) [_,_,_,_,_,_,_,_,_,_,_,_,_,_,_,_,_,_,_,_,_,_,_,_,_,.row 3 1 (map (Qe .i64) g.1),.row 76 4 (map Penalty.c g.2),.cells 37 [.osl 25 0 g.1.length 1],.cells 38 [.osl 26 0 g.2.length 4]] Z Z ?_;refine Go 9 Z (Bd h λi d h=>Ct i [13,14,18,20,21] [6,7,8,9,10] (λi=>[(90,.bool i)]) Ze Zf ?_ (λenv H G=>?_))
 .refine G0 5 Z (Is 65 d Z (λ_ d=>?_) (λ_ d=>?_))
  .exact Gl 26 Z d [13,14,18,20,21]
  .refine Go 2 Z (vH (Ek (xs:=[.tmp 67]) (es:=map Fact.c lit_6) Y9 Z Z Z Z Z ⟨Z,trivial⟩ Z Z) ?_ (gT Z));refine aV (.osl 29 0 (lit_6.length) 57) [_,_,_,_,_,_,_,_,_,_,_,_,_,_,_,_,_,_,_,_,_,_,_,_,_,_,_,_,_,.row 72 57 (map Fact.c lit_6)] Z Z ?_;refine QG (Jm [(68,_)] Z Z (Qpf.cons Z Eo Qpf.nil) (Ec (Ec (Ec (Ec (Ec (Ec (Ec (Ec (Ec (Ec (Ec (Ec (Ec (Ec (Ec (Ec (Ec (Ec (Ec (Ec (Ec (Ec (Ec (Ec (Ec (Ec (Ec (Ec (Ec (Ec (YD _)))))))))))))))))))))))))))))))) ?_;refine Cd [] d (k_bi _ _ _ _) Z λk J d=>?_;refine aV (.osl 30 0 k.length 4) [_,_,_,_,_,_,_,_,_,_,_,_,_,_,_,_,_,_,_,_,_,_,_,_,_,_,_,_,_,.dead,.row 76 4 (map Penalty.c k)] Z Z ?_;refine Go 4 Z (Is 73 d Z (λ_ d=>?_) (λ_ d=>?_))
   .exact Gl 18 Z d [13,14,18,20,21]
   .refine Go 4 Z (Is 77 d Z (λ_ d=>?_) (λ_ d=>?_))
    .exact Gl 14 Z d [13,14,18,20,21]
    .refine Go 4 Z (Is 81 d Z (λ_ d=>?_) (λ_ d=>?_))
     .exact Gl 10 Z d [13,14,18,20,21]
     .refine Go 3 Z (Is 84 d Z (λ_ d=>?_) (λ_ d=>?_))
      .exact Gl 7 Z d [13,14,18,20,21]
      .refine Go 2 Z (vH (Ek (xs:=[.tmp 86]) (es:=map Fact.c lit_6) Y9 Z Z Z Z Z ⟨Z,trivial⟩ Z Z) ?_ (gT Z));refine aV (.osl 31 0 (lit_6.length) 57) [_,_,_,_,_,_,_,_,_,_,_,_,_,_,_,_,_,_,_,_,_,_,_,_,_,_,_,_,_,_,_,.row 72 57 (map Fact.c lit_6)] Z Z ?_;exact Cb d (k_il _ _ _ _) Z (ls (lo (ls ln))) λX L d=>Gl 3 Z d [13,14,18,20,21]
 refine Gx 1 Z (Qf G (Cn Z h (λ_ h=>?_) (λ_ h=>?_)))
 .exact QI 7 Z h 0 []
 refine Gc 3 Z (Bd h λj a h=>Cg j [] [] (λj=>[(0,.bool j)]) Ze Zf ?_ ?_)
 .refine G0 2 Z (vH (Ek (xs:=[.const (.int .i64 3),.const (.int .i64 4)]) (es:=map (Qe .i64) [3,4]) Qu Z Z Z Z Z ⟨Z,Z,trivial⟩ Z Z) ?_);refine aV (.osl 5 0 ([3,4].length) 1) [_,_,_,_,_,.row 3 1 (map (Qe .i64) [3,4])] Z Z ?_;refine Cb a (k_au _ _ _) Z (lo (lo ln)) λY M a=>Go 1 Z (Is 94 a Z (λ_ a=>?_) (λ_ a=>?_))
  .refine Go 3 Z (vH (Ek (xs:=[.tmp 96,.tmp 97]) (es:=map Penalty.c lit_7) QbK Z Z Z Z Z ⟨Z,Z,trivial⟩ Z Z) ?_ (gT Z));refine aV (.osl 6 0 (lit_7.length) 4) [_,_,_,_,_,_,.row 76 4 (map Penalty.c lit_7)] Z Z ?_;refine Cb a (k_ao _ _ _) Z (lo (lo ln)) λaa N a=>Go 2 Z (Is 101 a Z (λ_ a=>?_) (λ_ a=>?_))
   .refine Go 3 Z (vH (Ek (xs:=[.tmp 103,.tmp 104]) (es:=map Penalty.c [Ut,lit_10]) QbK Z Z Z Z Z ⟨Z,Z,trivial⟩ Z Z) ?_ (gT Z));refine aV (.osl 7 0 ([Ut,lit_10].length) 4) [_,_,_,_,_,_,_,.row 76 4 (map Penalty.c [Ut,lit_10])] Z Z ?_;refine Cb a (k_ao _ _ _) Z (lo (lo ln)) λab O a=>Go 2 Z (Is 108 a Z (λ_ a=>?_) (λ_ a=>?_))
    .refine Go 1 Z (vH (Ek (xs:=[.const (.int .i64 4)]) (es:=map (Qe .i64) [4]) Qu Z Z Z Z Z ⟨Z,trivial⟩ Z Z) ?_ (gT Z));refine aV (.osl 8 0 ([4].length) 1) [_,_,_,_,_,_,_,_,.row 3 1 (map (Qe .i64) [4])] Z Z ?_;refine Cb a (k_au _ _ _) Z (lo (lo ln)) λac P a=>Go 2 Z (Is 113 a Z (λ_ a=>?_) (λ_ a=>?_))
     .refine Go 2 Z (vH (Ek (xs:=[.tmp 115]) (es:=map Penalty.c lit_11) QbK Z Z Z Z Z ⟨Z,trivial⟩ Z Z) ?_ (gT Z));refine aV (.osl 9 0 (lit_11.length) 4) [_,_,_,_,_,_,_,_,_,.row 76 4 (map Penalty.c lit_11)] Z Z ?_;exact Cb a (k_ao _ _ _) Z (lo (lo ln)) λae Q a=>Gl 3 Z a []
     .exact Gl 7 Z a []
    .exact Gl 12 Z a []
   .exact Gl 19 Z a []
  .exact Gl 26 Z a []
 exact QI 1 Z h 0 []
def F_et(n:Nat)(d:List Part)(rec211:(List Part)->Option Int)(a:Int×Int):Option (Ctl (Int×Int) Int):=((bif decide (a.2<(d.length:Int))then some (decide (a.1<=256))else some false):Option Bool).bind λe=>(bif e then(idx d a.2).bind λf=>(rec211 f.Parts).bind λg=>some (.cont (i64.wrap (a.1+g),i64.wrap (a.2+1)))else some (.done a.1))
def B_y(rec211:(List Part)->Option Int)(n:Nat)(d:List Part):Option Int:=(iter (F_et n d rec211) n ((d.length:Int),0):Option Int).bind λa=>some (if 257<a then 257 else a)
theorem Qa6(rec211:(List Part)->Option Int)(f:∀(g:List Part) (r:Int),rec211 g=some r->Csm prog 34 [.rsl 3 (map Part.enc g)] [] (λr=>I r) r)(n:Nat)(g:List Part)(r:Int)(h:B_y rec211 n g=some r):Csm prog 34 [.rsl 3 (map Part.enc g)] [] (λr=>I r) r:=by
 refine QE func34 Z Z Z ?_;refine G0 8 Z (Lg 9 Z Z (Bd h λd q h=>Cg d [] [] (λd=>[(3,I d)]) Ze Zf ?_ ?_))
 .refine G0 1 Z (Lp [] [0] (λi=>[(3,I i.1),(4,I i.2)]) Ze q Zf (Lr []) λi u a k=>?_);refine G0 2 Z (Bd a λj e a=>Cg j [] [0,3,4] (λj=>[(14,.bool j)]) Ze Zf ?_ ?_)
  .refine G0 3 Z (Lg 2 Z Z (Is 11 e Z (λ_ e=>?_) (λ_ e=>?_)))
   iterate 2 exact Gl 4 Z e []
  refine Q8 Z a (λ_ a=>?_) (λ_ a=>?_)
  .exact Gc 2 Z (Ql a (Gx 1 Z (cQo k a (Lr []))))
  exact Gc 8 Z (Bd a λs p a=>IzE p (Q4 s) Z (Go 2 Z (Cz [] a (f _) Z λw t a=>Go 10 Z (Qj a (Lr [])))))
 refine Gc 3 Z ?_;refine vX (I (if 257<d then 257 else d)) (OpV.min Z Z Z Z) ?_;exact Gt 4 Z h 2 []
def F_y:Nat->(List Part)->Option Int
  |0=>λ_=>none
  |n+1=>B_y (F_y n) n
theorem k_y:∀(a:List Part) (r:Int),F_y n a=some r->Csm prog 34 [.rsl 3 (map Part.enc a)] [] (λr=>I r) r:=by
  induction n with
  |zero=>intro a r h;cases h
  |succ n ih=>intro a r h;exact Qa6 _ ih n a r h
def F_cm(n:Nat)(e:List Part)(f:Int)(rec212:(List Part)->Int->Option Int)(a:Int×Int):Option (Ctl (Int×Int) Int):=((bif decide (a.2<(e.length:Int))then some (decide (0<f))else some false):Option Bool).bind λg=>(bif g then(idx e a.2).bind λh=>((bif ((h.Parts.length:Int) != 0)then(idx e a.2).bind λi=>(rec212 i.Parts (i64.wrap (f-1))).bind λd=>some (if a.1<i64.wrap (1+d)then i64.wrap (1+d)else a.1)else some a.1):Option Int).bind λj=>some (.cont (j,i64.wrap (a.2+1)))else some (.done a.1))
def B_p(rec212:(List Part)->Int->Option Int)(n:Nat)(d:List Part)(e:Int):Option Int:=(iter (F_cm n d e rec212) n (0,0):Option Int).bind λa=>some a
theorem Qa5(rec212:(List Part)->Int->Option Int)(g:∀(i:List Part) (j:Int) (r:Int),rec212 i j=some r->Csm prog 35 [.rsl 3 (map Part.enc i),I j] [] (λr=>I r) r)(n:Nat)(i:List Part)(j:Int)(r:Int)(h:B_p rec212 n i j=some r):Csm prog 35 [.rsl 3 (map Part.enc i),I j] [] (λr=>I r) r:=by
 refine QE func35 Z Z Z ?_;refine G0 16 Z (Bd h λk z h=>Cg k [] [] (λk=>[(5,I k)]) Ze Zf ?_ ?_)
 .refine G0 1 Z (Lp [] [0,1] (λe=>[(5,I e.1),(6,I e.2)]) Ze z Zf (Lr []) λe G a s=>?_);refine G0 2 Z (Bd a λl f a=>Ct l [] [0,1,5,6] (λl=>[(14,.bool l)]) Ze Zf ?_ (λenv H m=>?_))
  .refine G0 3 Z (Lg 2 Z Z (Is 11 f Z (λ_ f=>?_) (λ_ f=>?_)))
   iterate 2 exact Gl 4 Z f []
  refine Gx 1 Z (Qf m (Q8 Z a (λ_ a=>?_) (λ_ a=>?_)))
  .exact Gc 2 Z (Ql a (Gx 1 Z (cQo s a (Lr []))))
  refine Gc 8 Z (Bd a λB w a=>IzE w (Q4 B) Z (Go 2 Z (Lg 3 Z Z (Bd a λp d a=>Ct p [] [0,1,6] (λp=>[(5,I p)]) Ze Zf ?_ (λenv H m=>?_)))))
  .refine G0 0 Z (Cn Z d (λ_ d=>?_) (λ_ d=>?_))
   .refine Gc 4 Z (Bd d λE y d=>IzE y (Q4 E) Z (Go 4 Z (Cz [] d (g _ _) Z λq F d=>Go 1 Z ?_)));refine vX (I (if e.1<i64.wrap (1+q)then i64.wrap (1+q)else e.1)) (OpV.max Z Z Z Z) ?_;exact Gl 2 Z d []
   exact YC 1 Z d []
  exact Gx 2 Z (Qf m (Gc 5 Z (Qj a (Lr []))))
 exact QI 7 Z h 4 []
def F_p:Nat->(List Part)->Int->Option Int
  |0=>λ_ _=>none
  |n+1=>B_p (F_p n) n
theorem k_p:∀(a:List Part) (d:Int) (r:Int),F_p n a d=some r->Csm prog 35 [.rsl 3 (map Part.enc a),I d] [] (λr=>I r) r:=by
  induction n with
  |zero=>intro a d r h;cases h
  |succ n ih=>intro a d r h;exact Qa5 _ ih n a d r h
def F_be(n:Nat)(a:Cond):Option Bool:=((bif (a.Kind==0)then(bif (a.Var==0)then(bif (a.N==0)then some ((a.Parts.length:Int)==0)else some false)else some false)else some false):Option Bool).bind λd=>some d
theorem k_be(e:Cond):Ks (F_be n e) 147 [.agg (Cond.c e)] [] (λr=>.bool r):=by
 refine Kg 7 func147 Z Z Z Z λr h=>Bd h λd a h=>Cg d [] [] (λd=>[(2,.bool d)]) Ze Zf ?_ ?_
 .refine G0 5 Z (Is 6 a Z (λ_ a=>?_) (λ_ a=>?_))
  .refine Go 5 Z (Is 11 a Z (λ_ a=>?_) (λ_ a=>?_))
   .refine Go 5 Z (Is 16 a Z (λ_ a=>?_) (λ_ a=>?_))
    .exact Go 2 Z (Lm Z (Gl 4 Z a []))
    .exact Gl 7 Z a []
   .exact Gl 12 Z a []
  .exact Gl 17 Z a []
 exact QI 1 Z h 2 []
def F_eh(n:Nat)(d:Cond)(h:Int)(rec216:Cond->Int->Option Int)(a:Int×Int):Option (Ctl (Int×Int) Int):=((bif decide (a.2<(d.Parts.length:Int))then some (decide (a.1<=256))else some false):Option Bool).bind λe=>(bif e then(idx d.Parts a.2).bind λf=>(rec216 f (i64.wrap (h+1))).bind λg=>some (.cont (i64.wrap (a.1+g),i64.wrap (a.2+1)))else some (.done a.1))
def B_l(rec216:Cond->Int->Option Int)(n:Nat)(e:Cond)(a:Int):Option Int:=(bif decide (16<a)then some 1000 else(iter (F_eh n e a rec216) n (1,0):Option Int).bind λd=>some d)
theorem Qak(rec216:Cond->Int->Option Int)(e:∀(f:Cond) (g:Int) (r:Int),rec216 f g=some r->Csm prog 148 [.agg (Cond.c f),I g] [] (λr=>I r) r)(n:Nat)(f:Cond)(g:Int)(r:Int)(h:B_l rec216 n f g=some r):Csm prog 148 [.agg (Cond.c f),I g] [] (λr=>I r) r:=by
 refine QE func148 Z Z Z ?_;refine G0 13 Z (Cn Z h (λ_ h=>?_) (λ_ h=>?_))
 .exact QI 7 Z h 4 []
 refine Gc 13 Z (Bd h λi t h=>Cg i [] [] (λi=>[(5,I i)]) Ze Zf ?_ ?_)
 .refine G0 1 Z (Lp [0] [1,2] (λj=>[(5,I j.1),(6,I j.2)]) Ze t Zf (Lr [0]) λj x a l=>?_);refine G0 2 Z (Bd a λk d a=>Cg k [0] [1,2,5,6] (λk=>[(17,.bool k)]) Ze Zf ?_ ?_)
  .refine G0 4 Z (Lg 2 Z Z (Is 14 d Z (λ_ d=>?_) (λ_ d=>?_)))
   iterate 2 exact Gl 4 Z d [0]
  refine Q8 Z a (λ_ a=>?_) (λ_ a=>?_)
  .exact Gc 2 Z (Ql a (Gx 1 Z (cQo l a (Lr []))))
  exact Gc 9 Z (Bd a λu q a=>IzE q (Qap u) Z (Go 3 Z (Cz [] a (e _ _) Z λy w a=>Go 10 Z (Qj a (Lr [0])))))
 exact QI 7 Z h 4 []
def F_l:Nat->Cond->Int->Option Int
  |0=>λ_ _=>none
  |n+1=>B_l (F_l n) n
theorem k_l:∀(a:Cond) (d:Int) (r:Int),F_l n a d=some r->Csm prog 148 [.agg (Cond.c a),I d] [] (λr=>I r) r:=by
  induction n with
  |zero=>intro a d r h;cases h
  |succ n ih=>intro a d r h;exact Qak _ ih n a d r h
def F_fi(d:List Step)(g:Int)(rec214:(List Step)->Int->Option (Int×Int))(a:Int×Int×Int):Option (Ctl (Int×Int×Int) (Int×Int)):=((bif decide (a.2.2<(d.length:Int))then(bif decide (a.1<=64)then some (decide (a.2.1<=256))else some false)else some false):Option Bool).bind λh=>(bif h then(idx d a.2.2).bind λi=>(rec214 i.Then (i64.wrap (g+1))).bind λe=>(idx d a.2.2).bind λj=>(rec214 j.Else (i64.wrap (g+1))).bind λf=>(idx d a.2.2).bind λk=>(F_be n k.Cond).bind λl=>((bif (!l)then(idx d a.2.2).bind λm=>(F_l n m.Cond 0).bind λp=>some (i64.wrap ((i64.wrap ((i64.wrap (a.2.1+e.2))+f.2))+p))else some (i64.wrap ((i64.wrap (a.2.1+e.2))+f.2))):Option Int).bind λq=>some (.cont (i64.wrap ((i64.wrap ((i64.wrap (a.1+1))+e.1))+f.1),q,i64.wrap (a.2.2+1)))else some (.done (a.1,a.2.1)))
def B_n(rec214:(List Step)->Int->Option (Int×Int))(n:Nat)(d:List Step)(e:Int):Option (Int×Int):=((bif decide (0<(d.length:Int))then some (decide (16<e))else some false):Option Bool).bind λb2=>(bif b2 then some (1000,1000)else(iter (F_fi n d e rec214) n (0,0,0):Option (Int×Int)).bind λa=>some (a.1,a.2))
theorem Qbc(rec214:(List Step)->Int->Option (Int×Int))(f:∀(k:List Step) (l:Int) (r:Int×Int),rec214 k l=some r->Csm prog 72 [.rsl 8 (map Step.enc k),I l] [] (λr=>.tup [I r.1,I r.2]) r)(n:Nat)(k:List Step)(l:Int)(r:Int×Int)(h:B_n rec214 n k l=some r):Csm prog 72 [.rsl 8 (map Step.enc k),I l] [] (λr=>.tup [I r.1,I r.2]) r:=by
 refine QE func72 Z Z Z ?_;refine G0 8 Z (Bd h λb2 m h=>Ct b2 [] [0,1] (λb2=>[(19,.bool b2)]) Ze Zf ?_ (λenv H g=>?_))
 .refine G0 2 Z (Lg 2 Z Z (Is 16 m Z (λ_ m=>?_) (λ_ m=>?_)))
  iterate 2 exact Gl 4 Z m []
 refine Gx 1 Z (Qf g (Cn Z h (λ_ h=>?_) (λ_ h=>?_)))
 .refine Gc 8 Z ?_;obtain rfl:=Oi h;exact R2 4 5 Z Z (Lr [])
 refine Gc 18 Z (Bd h λi J h=>Cg i [] [] (λi=>[(6,I i.1),(7,I i.2)]) Ze Zf ?_ ?_)
 .refine G0 1 Z (Lp [] [0,1] (λj=>[(6,I j.1),(7,I j.2.1),(8,I j.2.2)]) Ze J Zf (Lr []) λj V a s=>?_);refine G0 2 Z (Bd a λp d a=>Ct p [] [0,1,6,7,8] (λp=>[(31,.bool p)]) Ze Zf ?_ (λenv H g=>?_))
  .refine G0 3 Z (Lg 2 Z Z (Is 24 d Z (λ_ d=>?_) (λ_ d=>?_)))
   .refine Go 4 Z (Is 28 d Z (λ_ d=>?_) (λ_ d=>?_))
    iterate 2 exact Gl 4 Z d []
   .exact Gl 8 Z d []
  refine Gx 1 Z (Qf g (Q8 Z a (λ_ a=>?_) (λ_ a=>?_)))
  .exact Gc 2 Z (Ql a (Gx 1 Z (cQo s a (Lr []))))
  refine Gc 8 Z (Bd a λL x a=>IzE x (YT L) Z (Go 4 Z (Cd [] a (f _ _) Z λW P a=>Fg 11 Z Z (Bd a λM y a=>IzE y (YT M) Z (Go 4 Z (Cd [] a (f _ _) Z λX Q a=>Fg 32 Z Z (Bd a λN z a=>IzE z (YT N) Z (Go 2 Z (Cz [] a (k_be _ _) Z λY R a=>Go 3 Z (Bd a λq e a=>Ct q [] [0,1,6,8] (λq=>[(7,I q)]) Ze Zf ?_ (λenv H g=>?_)))))))))))
  .refine G0 0 Z (Cn Z e (λ_ e=>?_) (λ_ e=>?_))
   .exact Gc 4 Z (Bd e λO E e=>IzE E (YT O) Z (Go 2 Z (Cz [] e (k_l _ _ _) Z λaa T e=>Gl 3 Z e [])))
   exact YC 1 Z e []
  exact Gx 2 Z (Qf g (Gc 5 Z (Qj a (Lr []))))
 refine Gc 9 Z ?_;obtain rfl:=Oi h;exact R2 4 5 Z Z (Lr [])
def F_n:Nat->(List Step)->Int->Option (Int×Int)
  |0=>λ_ _=>none
  |n+1=>B_n (F_n n) n
theorem k_n:∀(a:List Step) (d:Int) (r:Int×Int),F_n n a d=some r->Csm prog 72 [.rsl 8 (map Step.enc a),I d] [] (λr=>.tup [I r.1,I r.2]) r:=by
  induction n with
  |zero=>intro a d r h;cases h
  |succ n ih=>intro a d r h;exact Qbc _ ih n a d r h
def F_db(a:List Step):Option Bool:=(F_n n a 0).bind λd=>((bif decide ((a.length:Int)<=20)then(bif decide (d.1<=80)then some (decide (d.2<=300))else some false)else some false):Option Bool).bind λe=>some e
theorem k_db(e:List Step):Ks (F_db n e) 36 [.rsl 8 (map Step.enc e)] [] (λr=>.bool r):=by
 refine Kg 8 func36 Z Z Z Z λr h=>Cd [] h (k_n _ _ _) Z λj i h=>Fg 8 Z Z (Bd h λd a h=>Cg d [] [] (λd=>[(2,.bool d)]) Ze Zf ?_ ?_)
 .refine G0 2 Z (Lg 2 Z Z (Is 13 a Z (λ_ a=>?_) (λ_ a=>?_)))
  .refine Go 4 Z (Is 17 a Z (λ_ a=>?_) (λ_ a=>?_))
   iterate 2 exact Gl 5 Z a []
  .exact Gl 9 Z a []
 exact QI 1 Z h 2 []
def F_cd(d:Course)(a:Int×Int):Option (Ctl (Int×Int) (Ctl Int Bool)):=((bif decide (a.2<(d.Distances.length:Int))then some (decide (a.1<=200))else some false):Option Bool).bind λe=>(bif e then(idx d.Distances a.2).bind λf=>(idx d.Distances a.2).bind λg=>(F_y n g.Route).bind λh=>(idx d.Distances a.2).bind λi=>(F_p n i.Route 17).bind λj=>(bif decide (16<j)then some (.done (.done false))else some (.cont (i64.wrap ((i64.wrap (a.1+(f.Cutoffs.length:Int)))+h),i64.wrap (a.2+1))))else some (.done (.cont a.1)))
def F_bl(a:Course):Option Bool:=(iter (F_cd n a) n (i64.wrap ((i64.wrap ((i64.wrap ((i64.wrap ((i64.wrap ((i64.wrap ((a.Mats.length:Int)+(a.Legs.length:Int)))+(a.Distances.length:Int)))+(a.Waves.length:Int)))+(a.Offences.length:Int)))+(a.Categories.length:Int)))+(a.Prizes.length:Int)),0):Option (Ctl Int Bool)).bind λe=>match e with|.cont d=>(((bif decide (d<=200)then(bif decide ((a.Name.length:Int)<=100)then(F_db n a.Ties).bind λf=>some f else some false)else some false):Option Bool).bind λg=>some g)|.done d=>some d
theorem k_bl(q:Course):Ks (F_bl n q) 17 [.agg (Course.c q)] [] (λr=>.bool r):=by
 refine Kg 10 func17 Z Z Z Z λr h=>Lg 2 Z Z (Lg 3 Z Z (Lg 3 Z Z (Lg 3 Z Z (Lg 3 Z Z (Lg 3 Z Z (Lg 10 Z Z (Bd h λF G h=>CtE (b:=F) [0] [1] (λi=>[(3,I i)]) Ze Zf ?_ (λi env H J j=>?_))))))))
 .refine G0 1 Z (Lp [0] [1] (λk=>[(3,I k.1),(4,I k.2)]) Ze G Zf (Lr [0]) λk O a l=>?_);refine G0 2 Z (Bd a λm f a=>Ct m [0] [1,3,4] (λm=>[(40,.bool m)]) Ze Zf ?_ (λenv H j=>?_))
  .refine G0 4 Z (Lg 2 Z Z (Is 37 f Z (λ_ f=>?_) (λ_ f=>?_)))
   iterate 2 exact Gl 4 Z f [0]
  refine Gx 1 Z (Qf j (Q8 Z a (λ_ a=>?_) (λ_ a=>?_)))
  .exact Gc 2 Z (Ql a (Gx 1 Z (JN l a Z (Lr [0]))))
  refine Gc 5 Z (DSs 16 Z (D 4 Z ?_));obtain⟨e,u,a⟩:=YM a;refine DS.wo (x:=.rp [.str e.Name,.rsl 3 (map Part.enc e.Route),I e.Timing,.rsl 3 (map Cutoff.c e.Cutoffs),I e.Extra]) ?_ ?_
  .exact Ix u Gj Gm Z Wp
  refine D 2 Z ?_;refine DS.wo (x:=I (e.Cutoffs.length:Int)) ?_ ?_
  .exact LnM GE Z Wp
  refine D 4 Z ?_;obtain⟨g,w,a⟩:=YM a;refine DS.wo (x:=.rp [.str g.Name,.rsl 3 (map Part.enc g.Route),I g.Timing,.rsl 3 (map Cutoff.c g.Cutoffs),I g.Extra]) ?_ ?_
  .exact Ix w Gj Gm Z Wp
  refine D 2 Z ?_;refine Dz [] a (k_y _ _) Z λP L a=>Eg Z (Go 9 Z (Bd a λQ y a=>Iz y Z (Go 2 Z (Cz [] a (k_p _ _ _) Z λR M a=>Go 3 Z (Cn Z a (λ_ a=>?_) (λ_ a=>?_))))))
  .refine Gc 8 Z (Qx a ?_);obtain rfl:=Oj l a;exact Gx 1 Z (Qt (Gx 1 Z (Rt h 2 [])))
  exact Gc 8 Z (Qj a (Lr [0]))
 subst J;refine Gx 1 Z (Qf j (Gc 1 Z (Bd h λp d h=>Cg p [] [] (λp=>[(2,.bool p)]) Ze Zf ?_ ?_)))
 .refine G0 4 Z (Is 70 d Z (λ_ d=>?_) (λ_ d=>?_))
  .refine Go 2 Z ?_;refine vX (I (q.Name.length:Int)) (Jl Z Z ED Z) ?_ (gT Z);refine Go 3 Z (Is 76 d Z (λ_ d=>?_) (λ_ d=>?_))
   .exact Go 2 Z (Cz [] d (k_db _ _) Z λT N d=>Gl 3 Z d [])
   .exact Gl 6 Z d []
  .exact Gl 12 Z d []
 exact QI 1 Z h 2 []
def F_df(a:Course)(d:List Fact):Option Bool:=((F_bl n a).bind λe=>(bif e then some (decide ((d.length:Int)<=14))else some false):Option Bool).bind λf=>some f
theorem k_df(e:Course)(f:List Fact):Ks (F_df n e f) 6 [.agg (Course.c e),.rsl 57 (map Fact.c f)] [] (λr=>.bool r):=by
 refine Kg 7 func6 Z Z Z Z λr h=>Bd h λd a h=>Cg d [] [] (λd=>[(4,.bool d)]) Ze Zf ?_ ?_
 .refine G0 2 Z (Cz [] a (k_bl _ _) Z λj i a=>Go 1 Z (Is 7 a Z (λ_ a=>?_) (λ_ a=>?_)))
  .exact Go 1 Z (Lm Z (Gl 4 Z a []))
  .exact Gl 6 Z a []
 exact QI 1 Z h 4 []
def F_kt(e:Course)(a:Int):Option (Ctl Int (Ctl Unit Bool)):=(bif decide (a<(e.Distances.length:Int))then(idx e.Distances a).bind λd=>((bif decide (64<(d.Cutoffs.length:Int))then some true else(F_p n d.Route 17).bind λf=>(bif decide (16<f)then some true else(F_y n d.Route).bind λg=>some (decide (256<g)))):Option Bool).bind λh=>(bif h then some (.done (.done false))else some (.cont (i64.wrap (a+1))))else some (.done (.cont ())))
def F_dh(a:Course):Option Bool:=((bif decide (40<(a.Mats.length:Int))then some true else(bif decide (512<(a.Legs.length:Int))then some true else(bif decide (8<(a.Distances.length:Int))then some true else(bif decide (32<(a.Waves.length:Int))then some true else(bif decide (32<(a.Offences.length:Int))then some true else(bif decide (32<(a.Categories.length:Int))then some true else some (decide (32<(a.Prizes.length:Int))))))))):Option Bool).bind λf=>(bif f then some false else(iter (F_kt n a) n 0:Option (Ctl Unit Bool)).bind λe=>match e with|.cont d=>(some true)|.done d=>some d)
theorem k_dh(z:Course):Ks (F_dh n z) 50 [.agg (Course.c z)] [] (λr=>.bool r):=by
 refine Kg 8 func50 Z Z Z Z λr h=>Bd h λj a h=>Ct j [0] [1] (λj=>[(44,.bool j)]) Ze Zf ?_ (λenv H B=>?_)
 .refine G0 3 Z (Lg 2 Z Z (Is 9 a Z (λ_ a=>?_) (λ_ a=>?_)))
  .exact Gl 36 Z a [0]
  .refine Go 2 Z (Lg 3 Z Z (Is 15 a Z (λ_ a=>?_) (λ_ a=>?_)))
   .exact Gl 30 Z a [0]
   .refine Go 2 Z (Lg 3 Z Z (Is 21 a Z (λ_ a=>?_) (λ_ a=>?_)))
    .exact Gl 24 Z a [0]
    .refine Go 2 Z (Lg 3 Z Z (Is 27 a Z (λ_ a=>?_) (λ_ a=>?_)))
     .exact Gl 18 Z a [0]
     .refine Go 2 Z (Lg 3 Z Z (Is 33 a Z (λ_ a=>?_) (λ_ a=>?_)))
      .exact Gl 12 Z a [0]
      .refine Go 2 Z (Lg 3 Z Z (Is 39 a Z (λ_ a=>?_) (λ_ a=>?_)))
       .exact Gl 6 Z a [0]
       .exact Go 2 Z (Lm Z (Gl 3 Z a [0]))
 refine Gx 1 Z (Qf B (Cn Z h (λ_ h=>?_) (λ_ h=>?_)))
 .exact QI 7 Z h 2 []
 refine Gc 8 Z (Bd h λF G h=>CgE (b:=F) [] [] Ze Ze Zf ?_ (λ_ J=>?_))
 .refine G0 1 Z (Lp [0] [1] (λi=>[(3,I i)]) Ze G Zf (Lr [0]) λi O d f=>?_);refine G0 6 Z (Lg 3 Z Z (Q8 Z d (λ_ d=>?_) (λ_ d=>?_)))
  .exact Gc 2 Z (Ql d (Gx 1 Z (JN f d Z (Lr []))))
  refine Gc 9 Z (Bd d λP u d=>Iz u Z (Go 6 Z (Bd d λg e d=>Cg g [0] [1,3] (λg=>[(72,.bool g)]) Ze Zf ?_ ?_)))
  .refine G0 3 Z (Lg 2 Z Z (Is 61 e Z (λ_ e=>?_) (λ_ e=>?_)))
   .exact Gl 12 Z e [0]
   .refine Go 2 Z (Cz [] e (k_p _ _ _) Z λQ M e=>Go 3 Z (Is 67 e Z (λ_ e=>?_) (λ_ e=>?_)))
    .exact Gl 6 Z e [0]
    .exact Go 2 Z (Cz [] e (k_y _ _) Z λR N e=>Gl 3 Z e [0])
  refine Cn Z d (λ_ d=>?_) (λ_ d=>?_)
  .refine Gc 8 Z (Qx d ?_);obtain rfl:=Oj f d;exact Gx 1 Z (Qt (Gx 1 Z (Rt h 2 [])))
  exact Gc 8 Z (Qj d (Lr [0]))
 subst J;exact QI 6 Z h 2 []
def F_cj(n:Nat)(a:List UInt8):Option Bool:=((bif (a==[99,111,117,114,115,101])then some (a==[99,111,117,114,115,101])else(bif (a==[109,97,116,115])then some (a==[109,97,116,115])else(bif (a==[115,116,97,114,116])then some (a==[115,116,97,114,116])else(bif (a==[112,97,115,115])then some (a==[112,97,115,115])else(bif (a==[101,110,100])then some (a==[101,110,100])else(bif (a==[108,101,103])then some (a==[108,101,103])else(bif (a==[116,111])then some (a==[116,111])else(bif (a==[100,105,115,116,97,110,99,101])then some (a==[100,105,115,116,97,110,99,101])else(bif (a==[103,117,110])then some (a==[103,117,110])else(bif (a==[99,104,105,112])then some (a==[99,104,105,112])else(bif (a==[115,108,111,116])then some (a==[115,108,111,116])else(bif (a==[108,97,112,115])then some (a==[108,97,112,115])else(bif (a==[108,97,112])then some (a==[108,97,112])else(bif (a==[99,117,116,111,102,102])then some (a==[99,117,116,111,102,102])else(bif (a==[101,120,116,114,97])then some (a==[101,120,116,114,97])else(bif (a==[119,97,118,101])then some (a==[119,97,118,101])else(bif (a==[111,102,102,101,110,99,101])then some (a==[111,102,102,101,110,99,101])else(bif (a==[111,117,116])then some (a==[111,117,116])else(bif (a==[99,97,116,101,103,111,114,121])then some (a==[99,97,116,101,103,111,114,121])else(bif (a==[112,114,105,122,101])then some (a==[112,114,105,122,101])else(bif (a==[97,108,108])then some (a==[97,108,108])else some (a==[116,105,101,115])))))))))))))))))))))):Option Bool).bind λd=>(bif d then some true else((bif (a==[105,102])then some (a==[105,102])else(bif (a==[101,108,115,101])then some (a==[101,108,115,101])else(bif (a==[97,110,100])then some (a==[97,110,100])else(bif (a==[111,114])then some (a==[111,114])else(bif (a==[110,111,116])then some (a==[110,111,116])else(bif (a==[111,108,100,101,114])then some (a==[111,108,100,101,114])else(bif (a==[121,111,117,110,103,101,114])then some (a==[121,111,117,110,103,101,114])else(bif (a==[98,105,98])then some (a==[98,105,98])else(bif (a==[100,114,97,119])then some (a==[100,114,97,119])else(bif (a==[102,105,101,108,100])then some (a==[102,105,101,108,100])else(bif (a==[115,104,111,114,116])then some (a==[115,104,111,114,116])else(bif (a==[102,97,117,108,116,115])then some (a==[102,97,117,108,116,115])else(bif (a==[109,105,115,115,101,115])then some (a==[109,105,115,115,101,115])else(bif (a==[115,116,114,97,121,115])then some (a==[115,116,114,97,121,115])else(bif (a==[119,105,110,100,111,119])then some (a==[119,105,110,100,111,119])else(bif (a==[114,101,115,105,100,117,97,108])then some (a==[114,101,115,105,100,117,97,108])else(bif (a==[100,114,105,102,116])then some (a==[100,114,105,102,116])else(bif (a==[112,114,111,116,101,115,116])then some (a==[112,114,111,116,101,115,116])else(bif (a==[102,101,101])then some (a==[102,101,101])else some (a==[100,101,97,100,108,105,110,101])))))))))))))))))))):Option Bool).bind λe=>(bif e then some true else some false))
theorem k_cj(a1:List UInt8):Ks (F_cj n a1) 180 [.str a1] [] (λr=>.bool r):=by
 refine Kg 19 func180 Z Z Z Z λr h=>Bd h λe a h=>Ct e [] [3] (λe=>[(4,.bool e)]) Ze Zf ?_ (λenv H al=>?_)
 .refine G0 0 Z (Cn Z a (λ_ a=>?_) (λ_ a=>?_))
  .exact YC 1 Z a []
  iterate 20 (refine Gc 6 Z (Cn Z a (λ_ a=>?_) (λ_ a=>?_));exact YC 1 Z a [])
  exact YC 4 Z a []
 refine Gx 1 Z (Qf al (Cn Z h (λ_ h=>?_) (λ_ h=>?_)))
 .exact QI 8 Z h 2 []
 refine Gc 7 Z (Bd h λf d h=>Cg f [] [] (λf=>[(27,.bool f)]) Ze Zf ?_ ?_)
 .refine G0 0 Z (Cn Z d (λ_ d=>?_) (λ_ d=>?_))
  .exact YC 1 Z d []
  iterate 18 (refine Gc 6 Z (Cn Z d (λ_ d=>?_) (λ_ d=>?_));exact YC 1 Z d [])
  exact YC 4 Z d []
 refine Cn Z h (λ_ h=>?_) (λ_ h=>?_)
 .exact QI 8 Z h 2 []
 exact QI 9 Z h 2 []
def F_ju(n:Nat)(d:List UInt8)(a:Int):Option (Ctl Int (Ctl Unit Bool)):=(bif decide (a<(d.length:Int))then((idx d a).bind λe=>(bif decide ((e.toNat:Int)<97)then(idx d a).bind λf=>(bif decide ((f.toNat:Int)<48)then(idx d a).bind λg=>some ((g.toNat:Int) != 95)else(idx d a).bind λh=>(bif decide (57<(h.toNat:Int))then(idx d a).bind λi=>some ((i.toNat:Int) != 95)else some false))else(idx d a).bind λj=>(bif decide (122<(j.toNat:Int))then(idx d a).bind λk=>(bif decide ((k.toNat:Int)<48)then(idx d a).bind λl=>some ((l.toNat:Int) != 95)else(idx d a).bind λm=>(bif decide (57<(m.toNat:Int))then(idx d a).bind λp=>some ((p.toNat:Int) != 95)else some false))else some false)):Option Bool).bind λq=>(bif q then some (.done (.done false))else some (.cont (i64.wrap (a+1))))else some (.done (.cont ())))
def F_by(a:List UInt8):Option Bool:=((bif decide ((a.length:Int)<1)then some true else(bif decide (24<(a.length:Int))then some true else(idx a 0).bind λf=>(bif decide ((f.toNat:Int)<97)then some true else(idx a 0).bind λg=>some (decide (122<(g.toNat:Int)))))):Option Bool).bind λi=>(bif i then some false else(iter (F_ju n a) n 1:Option (Ctl Unit Bool)).bind λh=>match h with|.cont d=>((F_cj n a).bind λe=>some (!e))|.done d=>some d)
theorem k_by(g:List UInt8):Ks (F_by n g) 121 [.str g] [] (λr=>.bool r):=by
 refine Kg 7 func121 Z Z Z Z λr h=>Bd h λL e h=>Ct L [] [0] (λL=>[(21,.bool L)]) Ze Zf ?_ (λenv H af=>?_)
 .refine G0 2 Z ?_;refine vX (I (g.length:Int)) (Jl Z Z ED Z) ?_;refine Go 2 Z (Is 7 e Z (λ_ e=>?_) (λ_ e=>?_))
  .exact Gl 15 Z e []
  .refine Go 1 Z ?_;refine vX (I (g.length:Int)) (Jl Z Z ED Z) ?_ (gT Z);refine Go 3 Z (Is 12 e Z (λ_ e=>?_) (λ_ e=>?_))
   .exact Gl 10 Z e []
   .refine Go 1 Z (Bd e λai M e=>?_);refine vX (.int .u8 (ai.toNat:Int)) (Q1 M ED) ?_ (gT Z);refine Go 3 Z (Is 17 e Z (λ_ e=>?_) (λ_ e=>?_))
    .exact Gl 5 Z e []
    .refine Go 1 Z (Bd e λaj O e=>?_);refine vX (.int .u8 (aj.toNat:Int)) (Q1 O ED) ?_ (gT Z);exact Gl 3 Z e []
 refine Gx 1 Z (Qf af (Cn Z h (λ_ h=>?_) (λ_ h=>?_)))
 .exact QI 7 Z h 2 []
 refine Gc 8 Z (Bd h λak al h=>CgE (b:=ak) [] [0] Ze Ze Zf ?_ (λ_ am=>?_))
 .refine G0 1 Z (Lp [] [0] (λJ=>[(3,I J)]) Ze al Zf (Lr []) λJ ar d i=>?_);refine G0 5 Z ?_;refine vX (I (g.length:Int)) (Jl Z Z ED Z) ?_;refine Go 3 Z (Q8 Z d (λ_ d=>?_) (λ_ d=>?_))
  .exact Gc 2 Z (Ql d (Gx 1 Z (JN i d Z (Lr []))))
  refine Gc 5 Z (Bd d λf a d=>Cg f [] [0,3] (λf=>[(55,.bool f)]) Ze Zf ?_ ?_)
  .refine G0 3 Z (Bd a λR j a=>?_);refine vX (.int .u8 (R.toNat:Int)) (Q1 j ED) ?_;refine Go 2 Z (Is 32 a Z (λ_ a=>?_) (λ_ a=>?_))
   .refine Go 8 Z (Bd a λT l a=>?_);refine vX (.int .u8 (T.toNat:Int)) (Q1 l ED) ?_ (gT Z);refine Go 2 Z (Is 43 a Z (λ_ a=>?_) (λ_ a=>?_))
    .refine Go 9 Z (Bd a λV p a=>?_);refine vX (.int .u8 (V.toNat:Int)) (Q1 p ED) ?_ (gT Z);exact Gl 3 Z a []
    .refine Go 2 Z (Bd a λW q a=>?_);refine vX (.int .u8 (W.toNat:Int)) (Q1 q ED) ?_ (gT Z);refine Go 4 Z (Is 50 a Z (λ_ a=>?_) (λ_ a=>?_))
     .refine Go 2 Z (Bd a λX t a=>?_);refine vX (.int .u8 (X.toNat:Int)) (Q1 t ED) ?_ (gT Z);exact Gl 3 Z a []
     .exact Gl 6 Z a []
   .refine Go 2 Z (Bd a λY u a=>?_);refine vX (.int .u8 (Y.toNat:Int)) (Q1 u ED) ?_ (gT Z);refine Go 3 Z (Is 38 a Z (λ_ a=>?_) (λ_ a=>?_))
    .refine Go 2 Z (Bd a λaa x a=>?_);refine vX (.int .u8 (aa.toNat:Int)) (Q1 x ED) ?_ (gT Z);refine Go 2 Z (Is 43 a Z (λ_ a=>?_) (λ_ a=>?_))
     .refine Go 9 Z (Bd a λab z a=>?_);refine vX (.int .u8 (ab.toNat:Int)) (Q1 z ED) ?_ (gT Z);exact Gl 3 Z a []
     .refine Go 2 Z (Bd a λac B a=>?_);refine vX (.int .u8 (ac.toNat:Int)) (Q1 B ED) ?_ (gT Z);refine Go 4 Z (Is 50 a Z (λ_ a=>?_) (λ_ a=>?_))
      .refine Go 2 Z (Bd a λae F a=>?_);refine vX (.int .u8 (ae.toNat:Int)) (Q1 F ED) ?_ (gT Z);exact Gl 3 Z a []
      .exact Gl 6 Z a []
    .exact Gl 18 Z a []
  refine Cn Z d (λ_ d=>?_) (λ_ d=>?_)
  .refine Gc 8 Z (Qx d ?_);obtain rfl:=Oj i d;exact Gx 1 Z (Qt (Gx 1 Z (Rt h 2 [])))
  exact Gc 8 Z (Qj d (Lr []))
 subst am;exact Gc 3 Z (Cz [] h (k_cj _ _) Z λaq an h=>Gt 5 Z h 2 [])
def F_fr(n:Nat)(e:List (List UInt8))(d:Int)(a:Int):Option (Ctl Int (Ctl Unit (Ctl Int (Ctl Unit Bool)))):=(bif decide (a<d)then(idx e a).bind λf=>(idx e d).bind λg=>(bif (f==g)then some (.done (.done (.done (.done false))))else some (.cont (i64.wrap (a+1))))else some (.done (.cont ())))
def F_kw(e:List (List UInt8))(a:Int):Option (Ctl Int (Ctl Unit Bool)):=(bif decide (a<(e.length:Int))then(idx e a).bind λf=>(F_by n f).bind λg=>(bif (!g)then some (.done (.done false))else(iter (F_fr n e a) n 0:Option (Ctl Unit (Ctl Int (Ctl Unit Bool)))).bind λh=>match h with|.cont d=>(some (.cont (i64.wrap (a+1))))|.done d=>some d)else some (.done (.cont ())))
def F_t(e:List (List UInt8)):Option Bool:=(iter (F_kw n e) n 0:Option (Ctl Unit Bool)).bind λd=>match d with|.cont a=>(some true)|.done a=>some a
theorem k_t(u:List (List UInt8)):Ks (F_t n u) 122 [.rsl 1 (map JO u)] [] (λr=>.bool r):=by
 refine Kg 11 func122 Z Z Z Z λr h=>Bd h λw y h=>CgE (b:=w) [] [] Ze Ze Zf ?_ (λ_ f=>?_)
 .refine G0 1 Z (Lp [] [0] (λi=>[(3,I i)]) Ze y Zf (Lr []) λi N a e=>?_);refine G0 5 Z (Lg 3 Z Z (Q8 Z a (λ_ a=>?_) (λ_ a=>?_)))
  .exact Gc 2 Z (Ql a (Gx 1 Z (JN e a Z (Lr []))))
  refine Gc 9 Z (Bd a λO l a=>Iz l Z (Go 1 Z (Cz [] a (k_by _ _) Z λP L a=>Go 3 Z (Cn Z a (λ_ a=>?_) (λ_ a=>?_)))))
  .refine Gc 9 Z (Qx a ?_);obtain rfl:=Oj e a;exact Gx 1 Z (Qt (Gx 1 Z (Rt h 2 [])))
  refine Gc 7 Z (Bd a λz B a=>CtE (b:=z) [] [0,3] Ze Ze Zf ?_ (λM env H f E=>?_))
  .refine G0 1 Z (Lp [] [0,3] (λj=>[(4,I j)]) Ze B Zf (Lr []) λj Q d g=>(G0 8 Z (Q8 Z d (λ_ d=>?_) (λ_ d=>?_))))
   .exact Gc 2 Z (Ql d (Gx 1 Z (JN g d Z (Lr []))))
   refine Gc 5 Z (DSs 8 Z (D 2 Z ?_));obtain⟨F,q,d⟩:=YM d;refine DS.wo (x:=.rp [.str F]) ?_ ?_
   .exact Ix q EU GR Z Wp
   refine D 3 Z ?_;obtain⟨G,s,d⟩:=YM d;refine DS.wo (x:=.rp [.str G]) ?_ ?_
   .exact Ix s EU GR Z Wp
   refine D 1 Z (Eg Z (Go 3 Z (Cn Z d (λ_ d=>?_) (λ_ d=>?_))))
   .refine Gc 8 Z (Qx d ?_);obtain rfl:=Oj g d;refine Gx 1 Z (Qt (Gx 2 Z (Qx a ?_)));obtain rfl:=Oj e a;exact Gx 1 Z (Qt (Gx 1 Z (Rt h 2 [])))
   exact Gc 8 Z (Qj d (Lr []))
  subst f;exact Gx 2 Z (Qf E (Gc 5 Z (Qj a (Lr []))))
 subst f;exact QI 6 Z h 2 []
def F_mt(n:Nat)(d:Course)(a:(List (List UInt8))×Int):Option (Ctl ((List (List UInt8))×Int) (List (List UInt8))):=(bif decide (a.2<(d.Mats.length:Int))then(idx d.Mats a.2).bind λe=>(app a.1 [e.Name]).bind λf=>some (.cont (f,i64.wrap (a.2+1)))else some (.done a.1))
def F_mc(n:Nat)(d:Course)(a:(List (List UInt8))×Int):Option (Ctl ((List (List UInt8))×Int) (List (List UInt8))):=(bif decide (a.2<(d.Distances.length:Int))then(idx d.Distances a.2).bind λe=>(app a.1 [e.Name]).bind λf=>some (.cont (f,i64.wrap (a.2+1)))else some (.done a.1))
def F_md(n:Nat)(d:Course)(a:(List (List UInt8))×Int):Option (Ctl ((List (List UInt8))×Int) (List (List UInt8))):=(bif decide (a.2<(d.Waves.length:Int))then(idx d.Waves a.2).bind λe=>(app a.1 [e.Name]).bind λf=>some (.cont (f,i64.wrap (a.2+1)))else some (.done a.1))
def F_nd(n:Nat)(d:Course)(a:(List (List UInt8))×Int):Option (Ctl ((List (List UInt8))×Int) (List (List UInt8))):=(bif decide (a.2<(d.Offences.length:Int))then(idx d.Offences a.2).bind λe=>(app a.1 [e.Name]).bind λf=>some (.cont (f,i64.wrap (a.2+1)))else some (.done a.1))
def F_lt(n:Nat)(d:Course)(a:(List (List UInt8))×Int):Option (Ctl ((List (List UInt8))×Int) (List (List UInt8))):=(bif decide (a.2<(d.Categories.length:Int))then(idx d.Categories a.2).bind λe=>(app a.1 [e.Name]).bind λf=>some (.cont (f,i64.wrap (a.2+1)))else some (.done a.1))
def F_ej(a:Course):Option Bool:=(iter (F_mt n a) n (([]:List (List UInt8)),0):Option (List (List UInt8))).bind λq=>(iter (F_mc n a) n (([]:List (List UInt8)),0):Option (List (List UInt8))).bind λg=>(iter (F_md n a) n (([]:List (List UInt8)),0):Option (List (List UInt8))).bind λh=>(iter (F_nd n a) n (([]:List (List UInt8)),0):Option (List (List UInt8))).bind λi=>(iter (F_lt n a) n (([]:List (List UInt8)),0):Option (List (List UInt8))).bind λj=>((F_by n a.Name).bind λk=>(bif k then(F_t n q).bind λl=>(bif l then(F_t n g).bind λm=>(bif m then(F_t n h).bind λd=>(bif d then(F_t n i).bind λe=>(bif e then(F_t n j).bind λf=>some f else some false)else some false)else some false)else some false)else some false):Option Bool).bind λp=>some p
theorem k_ej(a1:Course):Ks (F_ej n a1) 51 [.agg (Course.c a1)] [] (λr=>.bool r):=by
 refine Kg 8 func51 Z Z Z Z λr h=>vH (Ek (xs:=[]) (es:=map JO []) JF Z Z Z Z Z trivial Z Z) ?_;refine Fg 9 Z Z (Bd h λz h9 h=>Ct z [0,1] [1] (λz=>[(3,.osl 1 0 z.length 1)]) (λz=>[(1,.row 9 1 (map JO z))]) Zf ?_ (λenv H l=>?_))
 .refine G0 1 Z (Lp [0,1] [1] (λm=>[(3,.osl 1 0 m.1.length 1),(4,I m.2)]) (λm=>[(1,.row 9 1 (map JO m.1))]) h9 Zf (Lr [0,1]) λm bf d G=>?_);refine G0 6 Z (Lg 3 Z Z (Q8 Z d (λ_ d=>?_) (λ_ d=>?_)))
  .exact Gc 2 Z (Ql d (Gx 1 Z (cQo G d (Lr [0,1]))))
  refine Gc 9 Z (Bd d λak L d=>Iz L Z (Go 2 Z (vH (Ek (xs:=[.tmp 27]) (es:=map JO [ak.Name]) JF Z Z Z Z Z ⟨Z,trivial⟩ Z Z) ?_)));refine FE Z (Bd d λbg M d=>vH (Qk (e:=JO) M JF EU (QH (i:=2))) ?_);exact Fg 9 Z Z (Qj d (Lr [0,3]))
 refine Gx 1 Z (Qf l (Gc 2 Z (vH (Ek (xs:=[]) (es:=map JO []) JF Z Z Z Z Z trivial Z Z) ?_)));refine Fg 9 Z Z (Bd h λp al h=>Ct p [0,1,2] [1,3] (λp=>[(5,.osl 2 0 p.length 1)]) (λp=>[(2,.row 9 1 (map JO p))]) Zf ?_ (λenv H l=>?_))
 .refine G0 1 Z (Lp [0,1,2] [1,3] (λq=>[(5,.osl 2 0 q.1.length 1),(6,I q.2)]) (λq=>[(2,.row 9 1 (map JO q.1))]) al Zf (Lr [0,1,2]) λq bh f N=>?_);refine G0 6 Z (Lg 3 Z Z (Q8 Z f (λ_ f=>?_) (λ_ f=>?_)))
  .exact Gc 2 Z (Ql f (Gx 1 Z (cQo N f (Lr [0,1,2]))))
  refine Gc 9 Z (Bd f λam P f=>Iz P Z (Go 2 Z (vH (Ek (xs:=[.tmp 44]) (es:=map JO [am.Name]) JF Z Z Z Z Z ⟨Z,trivial⟩ Z Z) ?_)));refine FE Z (Bd f λbi Q f=>vH (Qk (e:=JO) Q JF EU (QH (i:=3))) ?_);exact Fg 9 Z Z (Qj f (Lr [0,1,4]))
 refine Gx 1 Z (Qf l (Gc 2 Z (vH (Ek (xs:=[]) (es:=map JO []) JF Z Z Z Z Z trivial Z Z) ?_)));refine Fg 9 Z Z (Bd h λs an h=>Ct s [0,1,2,3] [1,3,5] (λs=>[(7,.osl 3 0 s.length 1)]) (λs=>[(3,.row 9 1 (map JO s))]) Zf ?_ (λenv H l=>?_))
 .refine G0 1 Z (Lp [0,1,2,3] [1,3,5] (λt=>[(7,.osl 3 0 t.1.length 1),(8,I t.2)]) (λt=>[(3,.row 9 1 (map JO t.1))]) an Zf (Lr [0,1,2,3]) λt bj g R=>?_);refine G0 6 Z (Lg 3 Z Z (Q8 Z g (λ_ g=>?_) (λ_ g=>?_)))
  .exact Gc 2 Z (Ql g (Gx 1 Z (cQo R g (Lr [0,1,2,3]))))
  refine Gc 9 Z (Bd g λao V g=>Iz V Z (Go 2 Z (vH (Ek (xs:=[.tmp 61]) (es:=map JO [ao.Name]) JF Z Z Z Z Z ⟨Z,trivial⟩ Z Z) ?_)));refine FE Z (Bd g λbk W g=>vH (Qk (e:=JO) W JF EU (QH (i:=4))) ?_);exact Fg 9 Z Z (Qj g (Lr [0,1,2,5]))
 refine Gx 1 Z (Qf l (Gc 2 Z (vH (Ek (xs:=[]) (es:=map JO []) JF Z Z Z Z Z trivial Z Z) ?_)));refine Fg 9 Z Z (Bd h λu aq h=>Ct u [0,1,2,3,4] [1,3,5,7] (λu=>[(9,.osl 4 0 u.length 1)]) (λu=>[(4,.row 9 1 (map JO u))]) Zf ?_ (λenv H l=>?_))
 .refine G0 1 Z (Lp [0,1,2,3,4] [1,3,5,7] (λw=>[(9,.osl 4 0 w.1.length 1),(10,I w.2)]) (λw=>[(4,.row 9 1 (map JO w.1))]) aq Zf (Lr [0,1,2,3,4]) λw bl j X=>?_);refine G0 6 Z (Lg 3 Z Z (Q8 Z j (λ_ j=>?_) (λ_ j=>?_)))
  .exact Gc 2 Z (Ql j (Gx 1 Z (cQo X j (Lr [0,1,2,3,4]))))
  refine Gc 9 Z (Bd j λar aa j=>Iz aa Z (Go 2 Z (vH (Ek (xs:=[.tmp 78]) (es:=map JO [ar.Name]) JF Z Z Z Z Z ⟨Z,trivial⟩ Z Z) ?_)));refine FE Z (Bd j λbm ab j=>vH (Qk (e:=JO) ab JF EU (QH (i:=5))) ?_);exact Fg 9 Z Z (Qj j (Lr [0,1,2,3,6]))
 refine Gx 1 Z (Qf l (Gc 2 Z (vH (Ek (xs:=[]) (es:=map JO []) JF Z Z Z Z Z trivial Z Z) ?_)));refine Fg 9 Z Z (Bd h λx au h=>Ct x [0,1,2,3,4,5] [1,3,5,7,9] (λx=>[(11,.osl 5 0 x.length 1)]) (λx=>[(5,.row 9 1 (map JO x))]) Zf ?_ (λenv H l=>?_))
 .refine G0 1 Z (Lp [0,1,2,3,4,5] [1,3,5,7,9] (λy=>[(11,.osl 5 0 y.1.length 1),(12,I y.2)]) (λy=>[(5,.row 9 1 (map JO y.1))]) au Zf (Lr [0,1,2,3,4,5]) λy bn k ac=>?_);refine G0 6 Z (Lg 3 Z Z (Q8 Z k (λ_ k=>?_) (λ_ k=>?_)))
  .exact Gc 2 Z (Ql k (Gx 1 Z (cQo ac k (Lr [0,1,2,3,4,5]))))
  refine Gc 9 Z (Bd k λav af k=>Iz af Z (Go 2 Z (vH (Ek (xs:=[.tmp 95]) (es:=map JO [av.Name]) JF Z Z Z Z Z ⟨Z,trivial⟩ Z Z) ?_)));refine FE Z (Bd k λbo ag k=>vH (Qk (e:=JO) ag JF EU (QH (i:=6))) ?_);exact Fg 9 Z Z (Qj k (Lr [0,1,2,3,4,7]))
 refine Gx 1 Z (Qf l (Gc 1 Z (Bd h λB a h=>Cg B [] [] (λB=>[(2,.bool B)]) Ze Zf ?_ ?_)))
 .refine G0 3 Z (Cz [] a (k_by _ _) Z λbp az a=>Go 1 Z (Is 101 a Z (λ_ a=>?_) (λ_ a=>?_)))
  .refine Go 1 Z (Cb a (k_t _ _) Z (lo ln) λbq ba a=>Go 2 Z (Is 105 a Z (λ_ a=>?_) (λ_ a=>?_)))
   .refine Go 1 Z (Cb a (k_t _ _) Z (lo ln) λbr bb a=>Go 2 Z (Is 109 a Z (λ_ a=>?_) (λ_ a=>?_)))
    .refine Go 1 Z (Cb a (k_t _ _) Z (lo ln) λbc aw a=>Go 2 Z (Is 113 a Z (λ_ a=>?_) (λ_ a=>?_)))
     .refine Go 1 Z (Cb a (k_t _ _) Z (lo ln) λbd ax a=>Go 2 Z (Is 117 a Z (λ_ a=>?_) (λ_ a=>?_)))
      .exact Go 1 Z (Cb a (k_t _ _) Z (lo ln) λbe ay a=>Gl 3 Z a [])
      .exact Gl 5 Z a []
     .exact Gl 9 Z a []
    .exact Gl 13 Z a []
   .exact Gl 17 Z a []
  .exact Gl 21 Z a []
 exact QI 1 Z h 2 []
end Go.Sw
