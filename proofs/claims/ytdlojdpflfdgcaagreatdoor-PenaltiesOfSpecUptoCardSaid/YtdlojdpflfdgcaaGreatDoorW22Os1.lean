/- What the functions compute that PenaltiesOfSpec reaches, and that their calls refine it (part 1 of 5). -/
import Derived.Test.YtdlojdpflfdgcaaGreatDoorW22OsB
set_option linter.unusedVariables false
set_option linter.unusedSimpArgs false
set_option maxRecDepth 100000
set_option maxHeartbeats 4000000
namespace Go.Sw
variable (n:Nat)
open List(map)
open Int(toNat)
open Go.IntKind(i64 u64 u8)
open Go.Proofs Tryz
def Zh(n:Nat):AB Unit:=some ()
theorem eU:Kq (Zh n) 15 [] [] (λ_=>.agg [.str [97],.osl 0 0 ([{Name:=[108,105,110,101],Kind:=1:Mat},{Name:=[103,111,97,108],Kind:=3:Mat}].length) 2,.osl 1 0 ([{From:=0,To:=1,Min:=0,Max:=50:BE}].length) 4,.osl 2 0 ([{Name:=[100],Route:=[Us,{Us with Mat:=1:AF}],Timing:=1,Cutoffs:=[],Extra:=(-1):Distance}].length) 5,.osl 3 0 ([{Name:=[119],Gun:=0:Wave}].length) 2,.osl 4 0 ([{Name:=[100,114,97,102,116,105,110,103],Time:=60,Laps:=0,Out:=false:Offence},{Name:=[115,104,111,114,116,99,117,116],Time:=0,Laps:=2,Out:=false:Offence}].length) 4,.rsl 3 (map Category.c []),.rsl 4 (map AW.c []),.osl 5 0 ([{UA with Kind:=1,By:=5:Step}].length) 8,I 0,I 0,I 0,I 0,I 0,I 0,I 0]) (λ_=>[.row 116 2 (map Mat.c [{Name:=[108,105,110,101],Kind:=1:Mat},{Name:=[103,111,97,108],Kind:=3:Mat}]),.row 118 4 (map BE.c [{From:=0,To:=1,Min:=0,Max:=50:BE}]),.row 100 5 (map Distance.c [{Name:=[100],Route:=[Us,{Us with Mat:=1:AF}],Timing:=1,Cutoffs:=[],Extra:=(-1):Distance}]),.row 112 2 (map Wave.c [{Name:=[119],Gun:=0:Wave}]),.row 114 4 (map Offence.c [{Name:=[100,114,97,102,116,105,110,103],Time:=60,Laps:=0,Out:=false:Offence},{Name:=[115,104,111,114,116,99,117,116],Time:=0,Laps:=2,Out:=false:Offence}]),.row 110 8 (map Step.enc [{UA with Kind:=1,By:=5:Step}]),.cells 33 [.str [97],.osl 0 0 ([{Name:=[108,105,110,101],Kind:=1:Mat},{Name:=[103,111,97,108],Kind:=3:Mat}].length) 2,.osl 1 0 ([{From:=0,To:=1,Min:=0,Max:=50:BE}].length) 4,.osl 2 0 ([{Name:=[100],Route:=[Us,{Us with Mat:=1:AF}],Timing:=1,Cutoffs:=[],Extra:=(-1):Distance}].length) 5,.osl 3 0 ([{Name:=[119],Gun:=0:Wave}].length) 2,.osl 4 0 ([{Name:=[100,114,97,102,116,105,110,103],Time:=60,Laps:=0,Out:=false:Offence},{Name:=[115,104,111,114,116,99,117,116],Time:=0,Laps:=2,Out:=false:Offence}].length) 4,.rsl 3 (map Category.c []),.rsl 4 (map AW.c []),.osl 5 0 ([{UA with Kind:=1,By:=5:Step}].length) 8,I 0,I 0,I 0,I 0,I 0,I 0,I 0]]):=by
 refine Kg 8 func15 Z Z Z Z λr h=>vH (Ek (xs:=[.tmp 1]) VT Z Z Z Z Z ⟨Z,trivial⟩ Z Z) (Fg 1 Z Z (vH (Ek (xs:=[.tmp 3]) VV Z Z Z Z Z ⟨Z,trivial⟩ Z Z) ?_));refine Fg 2 Z Z (vH (Ek (xs:=[.tmp 5,.tmp 6]) VU Z Z Z Z Z ⟨Z,Z,trivial⟩ Z Z) (Fg 2 Z Z (vH (Ek (xs:=[.tmp 8,.tmp 9]) VY Z Z Z Z Z ⟨Z,Z,trivial⟩ Z Z) ?_)));refine Fg 1 Z Z (vH (Ek (xs:=[.tmp 11]) VX Z Z Z Z Z ⟨Z,trivial⟩ Z Z) (Fg 2 Z Z (vH (Ek (xs:=[.tmp 13,.tmp 14]) VS Z Z Z Z Z ⟨Z,Z,trivial⟩ Z Z) ?_)));refine Fg 1 Z Z (QB (Ji [(15,_),(16,_)] Z Z (Aw.cons Z Eo (Aw.cons Z (BP.agg (Ed (Ee _) (Ed Eo (Ej _)))) Aw.nil)) (Ec (Ec (Ec (Ec (Ec (Ec (Ec (YL _))))))))) ?_);refine vH (Ek (xs:=[.tmp 16]) VW Z Z Z Z Z ⟨Z,trivial⟩ Z Z) (Fg 5 Z Z ?_);exact Rx [4,5,7,2,3,1,0] [0] Z (Yk Z (Qk isAgg33 sizeOf33 Z Z Z)) ⟨Z,Z⟩
def IV(n:Nat)(g:AA AF)(h:Int)(rec7:(AA AF)->Int->AB (Int×Int))(a:Int×Int×Int):AB (AG (Int×Int×Int) (Int×Int)):=(bif a.2.2<(g.length:Int) then((AJ g a.2.2).bind λe=>((bif ((e.Parts.length:Int)==0)then some true else(bif (h==0)then some true else some (decide (256<a.2.1)))):AB Bool).bind λi=>(bif i then some (a.1,a.2.1)else(rec7 e.Parts (i64.wrap (h-1))).bind λd=>some ((if a.1<i64.wrap (d.1+1)then i64.wrap (d.1+1)else a.1),i64.wrap (a.2.1+d.2))):AB (Int×Int)).bind λf=>some (.k (f.1,f.2,i64.wrap (a.2.2+1)))else some (.d (a.1,a.2.1)))
def dB(rec7:(AA AF)->Int->AB (Int×Int))(n:Nat)(d:AA AF)(e:Int):AB (Int×Int):=(iter (IV n d e rec7) n (0,(d.length:Int),0):AB (Int×Int)).bind λa=>some (a.1,a.2)
theorem Qeh(rec7:(AA AF)->Int->AB (Int×Int))(m:∀(j:AA AF) (k:Int) (r:Int×Int),rec7 j k=some r->Bk prog 73 [.rsl 3 (map AF.enc j),I k] [] (λr=>.tup [I r.1,I r.2]) r)(n:Nat)(j:AA AF)(k:Int)(r:Int×Int)(h:dB rec7 n j k=some r):Bk prog 73 [.rsl 3 (map AF.enc j),I k] [] (λr=>.tup [I r.1,I r.2]) r:=by
 refine QG func73 Z Z Z (G0 9 Z (Lg 7 Z Z (Lg 3 Z Z (Bd h λf x h=>Cg f [] [] (λf=>[(4,I f.1),(5,I f.2)]) Ze Zf ?_ ?_))))
 .refine G0 1 Z (Lp [] [1,12,13] (λg=>[(4,I g.1),(5,I g.2.1),(14,I g.2.2)]) Ze x Zf (Lr []) λg B e p=>?_);refine G0 6 Z (Q5 Z e (λ_ e=>?_) (λ_ e=>?_))
  .exact Gc 2 Z (Qi e (Gx 1 Z (JC p e (Lr []))))
  refine Gc 3 Z (Bd e λi a e=>Cg i [] [1,12,13,14] (λi=>[(4,I i.1),(5,I i.2)]) Ze Zf ?_ ?_)
  .refine G0 3 Z (Bd a λy s a=>CQ s (QP y) Z (Go 7 Z (Bd a λl d a=>Cg l [0] [1,4,5,7,12,13,14] (λl=>[(29,.bool l)]) Ze Zf ?_ ?_)))
   .refine G0 3 Z (Lg 2 Z Z (Is 22 d Z (λ_ d=>?_) (λ_ d=>?_)))
    .exact Gl 8 Z d [0]
    .refine Go 4 Z (Is 26 d Z (λ_ d=>?_) (λ_ d=>?_))
     iterate 2 exact Gl 4 Z d [0]
   refine Cn Z a (λ_ a=>?_) (λ_ a=>?_)
   .exact YM 3 Z a []
   refine Gc 8 Z (Cd [] a (m _ _) Z λE z a=>Fg 11 Z Z (vV (AK.max Z Z Z Z) ?_));exact Gl 7 Z a []
  exact Gc 4 Z (Qg e (Lr []))
 refine Gc 9 Z ?_;obtain rfl:=Oi h;exact R2 4 5 Z Z (Lr [])
def PJ:Nat->(AA AF)->Int->AB (Int×Int)
  |0=>λ_ _=>none
  |n+1=>dB (PJ n) n
theorem td:∀(a:AA AF) (d:Int) (r:Int×Int),PJ n a d=some r->Bk prog 73 [.rsl 3 (map AF.enc a),I d] [] (λr=>.tup [I r.1,I r.2]) r:=by
  induction n with
  |zero=>intro a d r h;cases h
  |succ n ih=>intro a d r h;exact Qeh _ ih n a d r h
def PW(f:AE)(a:Int):AB (AG Int (AG Unit Bool)):=(bif a<(f.Distances.length:Int) then(AJ f.Distances a).bind λd=>(PJ n d.Route 17).bind λe=>((bif 64<(d.Cutoffs.length:Int) then some true else(bif 16<e.1 then some true else some (decide (256<e.2)))):AB Bool).bind λg=>(bif g then some (.d (.d false))else some (.k (i64.wrap (a+1))))else some (.d (.k ())))
def L9(a:AE):AB Bool:=((bif 40<(a.Mats.length:Int) then some true else(bif 512<(a.Legs.length:Int) then some true else(bif 8<(a.Distances.length:Int) then some true else(bif 32<(a.Waves.length:Int) then some true else(bif 32<(a.Offences.length:Int) then some true else(bif 32<(a.Categories.length:Int) then some true else some (decide (32<(a.Prizes.length:Int))))))))):AB Bool).bind λf=>(bif f then some false else(iter (PW n a) n 0:AB (AG Unit Bool)).bind λe=>match e with|.k d=>(some true)|.d d=>some d)
theorem gz(z:AE):Ks (L9 n z) 37 [.agg (AE.c z)] [] (λr=>.bool r):=by
 refine Kg 8 func37 Z Z Z Z λr h=>Bd h λj d h=>Ct j [0] [1] (λj=>[(46,.bool j)]) Ze Zf ?_ (λenv H B=>?_)
 .refine G0 3 Z (Lg 2 Z Z (Is 11 d Z (λ_ d=>?_) (λ_ d=>?_)))
  .exact Gl 36 Z d [0]
  .refine Go 2 Z (Lg 3 Z Z (Is 17 d Z (λ_ d=>?_) (λ_ d=>?_)))
   .exact Gl 30 Z d [0]
   .refine Go 2 Z (Lg 3 Z Z (Is 23 d Z (λ_ d=>?_) (λ_ d=>?_)))
    .exact Gl 24 Z d [0]
    .refine Go 2 Z (Lg 3 Z Z (Is 29 d Z (λ_ d=>?_) (λ_ d=>?_)))
     .exact Gl 18 Z d [0]
     .refine Go 2 Z (Lg 3 Z Z (Is 35 d Z (λ_ d=>?_) (λ_ d=>?_)))
      .exact Gl 12 Z d [0]
      .refine Go 2 Z (Lg 3 Z Z (Is 41 d Z (λ_ d=>?_) (λ_ d=>?_)))
       .exact Gl 6 Z d [0]
       .exact Go 2 Z (Lm Z (Gl 3 Z d [0]))
 refine Gx 1 Z (Qd B (Cn Z h (λ_ h=>?_) (λ_ h=>?_)))
 .exact QJ 7 Z h 2 []
 refine Gc 7 Z (Lg 3 Z Z (Bd h λF G h=>BZ (b:=F) [] [] Ze Ze Zf ?_ (λ_ J=>?_)))
 .refine G0 1 Z (Lp [] [48,49] (λi=>[(50,I i)]) Ze G Zf (Lr []) λi N a f=>?_);refine G0 6 Z (Q5 Z a (λ_ a=>?_) (λ_ a=>?_))
  .exact Gc 2 Z (Qi a (Gx 1 Z (JD f a Z (Lr []))))
  refine Gc 6 Z (Bd a λO u a=>Iz u Z (Go 9 Z (Cd [] a (td _ _ _) Z λP M a=>Fg 8 Z Z (Bd a λg e a=>Cg g [] [48,49,50] (λg=>[(71,.bool g)]) Ze Zf ?_ ?_))))
  .refine G0 3 Z (Lg 2 Z Z (Is 64 e Z (λ_ e=>?_) (λ_ e=>?_)))
   .exact Gl 8 Z e []
   .refine Go 4 Z (Is 68 e Z (λ_ e=>?_) (λ_ e=>?_))
    iterate 2 exact Gl 4 Z e []
  refine Cn Z a (λ_ a=>?_) (λ_ a=>?_)
  .refine Gc 8 Z (Qx a ?_);obtain rfl:=Oj f a;exact Gx 1 Z (Qq (Gx 1 Z (Rt h 2 [])))
  exact Gc 7 Z (Qg a (Lr []))
 subst J;exact QJ 6 Z h 2 []
def IP(n:Nat)(a:(AA Int)×Int):AB (AG ((AA Int)×Int) (AA Int)):=(bif a.2<=122 then(Hn 256 a.1 a.2).bind λf=>(D1 a.1 a.2 2).bind λd=>(Hn 256 d (u8.wrap (a.2-32))).bind λg=>(D1 d (u8.wrap (a.2-32)) 2).bind λe=>some (.k (e,u8.wrap (a.2+1)))else some (.d a.1))
def La(n:Nat)(a:(AA Int)×Int):AB (AG ((AA Int)×Int) (AA Int)):=(bif a.2<=57 then(Hn 256 a.1 a.2).bind λe=>(D1 a.1 a.2 3).bind λd=>some (.k (d,u8.wrap (a.2+1)))else some (.d a.1))
def Pb(n:Nat)(a:(AA Int)×Int):AB (AG ((AA Int)×Int) (AA Int)):=(bif a.2<([123,125,40,41,91,93,59,44,61,60,62].length:Int) then(AJ [123,125,40,41,91,93,59,44,61,60,62] a.2).bind λd=>(Hn 256 a.1 d).bind λf=>(D1 a.1 d 4).bind λe=>some (.k (e,i64.wrap (a.2+1)))else some (.d a.1))
def ZA(n:Nat)(a:(AA Int)×Int):AB (AG ((AA Int)×Int) (AA Int)):=(bif a.2<(([32,9,10,13].length):Int) then(AJ [32,9,10,13] a.2).bind λd=>(Hn 256 a.1 d).bind λf=>(D1 a.1 d 1).bind λe=>some (.k (e,i64.wrap (a.2+1)))else some (.d a.1))
def Mr:AB (AA Int):=(iter (IP n) n (List.replicate 256 0,97):AB (AA Int)).bind λd=>(iter (La n) n (d,48):AB (AA Int)).bind λe=>(iter (Pb n) n (e,0):AB (AA Int)).bind λf=>(iter (ZA n) n (f,0):AB (AA Int)).bind λa=>(FM 256 a).bind λg=>(FM 256 a).bind λi=>(FM 256 g).bind λh=>some h
theorem ip:Kq (Mr n) 260 [] [] (λr=>.agg (List.flatten (map (Qc .u8) r))) (λr=>[.row 364 1 (map (Qc .u8) r)]):=by
 refine Kg 2 func260 Z Z Z Z λr h=>vH (JA (n:=256) (k:=1) (e:=(Qc .u8)) (z:=0) zeroValue364 (by kernel_rfl) (by kernel_rfl) (by kernel_rfl) Z) ?_;refine Fg 8 Z Z (Bd h λw ai h=>Ct w [0] [0] Ze (λw=>[(0,.row 364 1 (map (Qc .u8) w))]) Zf ?_ (λenv H q=>?_))
 .refine G0 1 Z (Lp [0] [0] (λj=>[(1,.int .u8 j.2)]) (λj=>[(0,.row 364 1 (map (Qc .u8) j.1))]) ai Zf (Lr [0]) λj ar a O=>?_);refine G0 7 Z (Q5 Z a (λ_ a=>?_) (λ_ a=>?_))
  .exact Gc 2 Z (Qi a (Gx 1 Z (JC O a (Lr [0]))))
  refine Gc 8 Z (Bd a λau x a=>?_);refine vX (.ptr 0 (toNat j.2*1)) (O' (n:=256) (k:=1) (l:=j.1) x E8 Gb Z) ?_;refine Bd a λaj Q a=>?_;refine vU (JG (e:=(Qc .u8)) (k:=1) (f:=0) (Np x).2 Q Gb Z Z) ?_;refine FE Z (Bd a λav y a=>?_);refine vX (.ptr 0 (toNat (u8.wrap (j.2-32))*1)) (O' (n:=256) (k:=1) (l:=aj) y E8 Gb Z) ?_;refine Bd a λaw R a=>?_;refine vU (JG (e:=(Qc .u8)) (k:=1) (f:=0) (Np y).2 R Gb Z Z) ?_;exact Fg 8 Z Z (Qg a (Lr [0]))
 refine Gx 1 Z (Qd q (Gc 6 Z (Bd h λB ak h=>Ct B [0] [0] Ze (λB=>[(0,.row 364 1 (map (Qc .u8) B))]) Zf ?_ (λenv H q=>?_))))
 .refine G0 1 Z (Lp [0] [0] (λm=>[(2,.int .u8 m.2)]) (λm=>[(0,.row 364 1 (map (Qc .u8) m.1))]) ak Zf (Lr [0]) λm ax i T=>?_);refine G0 7 Z (Q5 Z i (λ_ i=>?_) (λ_ i=>?_))
  .exact Gc 2 Z (Qi i (Gx 1 Z (JC T i (Lr [0]))))
  refine Gc 6 Z (Bd i λay E i=>?_);refine vX (.ptr 0 (toNat m.2*1)) (O' (n:=256) (k:=1) (l:=m.1) E E8 Gb Z) ?_;refine Bd i λaz W i=>?_;refine vU (JG (e:=(Qc .u8)) (k:=1) (f:=0) (Np E).2 W Gb Z Z) ?_;exact Fg 8 Z Z (Qg i (Lr [0]))
 refine Gx 1 Z (Qd q (Gc 3 Z (vH (Ek (xs:=[.const (.int .u8 123),.const (.int .u8 125),.const (.int .u8 40),.const (.int .u8 41),.const (.int .u8 91),.const (.int .u8 93),.const (.int .u8 59),.const (.int .u8 44),.const (.int .u8 61),.const (.int .u8 60),.const (.int .u8 62)]) (es:=map (Qc .u8) [123,125,40,41,91,93,59,44,61,60,62]) YU Z Z Z Z Z ⟨Z,Z,Z,Z,Z,Z,Z,Z,Z,Z,Z,trivial⟩ Z Z) ?_)));refine FE Z (vH (ws (es:=map (Qc .u8) [123,125,40,41,91,93,59,44,61,60,62]) underlying239 underlying5 (XZ ..) Z) ?_);refine FE Z (Lg 3 Z Z (Bd h λF al h=>Ct F [0] [0] Ze (λF=>[(0,.row 364 1 (map (Qc .u8) F))]) Zf ?_ (λenv H q=>?_)))
 .refine G0 1 Z (Lp [0] [0,23,24] (λs=>[(25,I s.2)]) (λs=>[(0,.row 364 1 (map (Qc .u8) s.1))]) al Zf (Lr [0]) λs ba d X=>?_);refine G0 6 Z (Q5 Z d (λ_ d=>?_) (λ_ d=>?_))
  .exact Gc 2 Z (Qi d (Gx 1 Z (JC X d (Lr [0]))))
  refine Gc 6 Z (Bd d λam aa d=>Iz aa Z (Go 6 Z (Bd d λbb G d=>?_)));refine vX (.ptr 0 (toNat am*1)) (O' (n:=256) (k:=1) (l:=s.1) G E8 Gb Z) ?_;refine Bd d λbc ab d=>?_;refine vU (JG (e:=(Qc .u8)) (k:=1) (f:=0) (Np G).2 ab Gb Z Z) ?_;exact Fg 7 Z Z (Qg d (Lr [0]))
 refine Gx 1 Z (Qd q (Gc 3 Z (vH (Ek (xs:=[.const (.int .u8 32),.const (.int .u8 9),.const (.int .u8 10),.const (.int .u8 13)]) (es:=map (Qc .u8) [32,9,10,13]) YU Z Z Z Z Z ⟨Z,Z,Z,Z,trivial⟩ Z Z) ?_)));refine Fg 4 Z Z (Bd h λu an h=>Cg u [0] [0] Ze (λu=>[(0,.row 364 1 (map (Qc .u8) u))]) Zf ?_ ?_)
 .refine G0 1 Z (Lp [0,1] [0,32,33] (λp=>[(34,I p.2)]) (λp=>[(0,.row 364 1 (map (Qc .u8) p.1))]) an Zf (Lr [0,1]) λp bd g ac=>?_);refine G0 6 Z (Q5 Z g (λ_ g=>?_) (λ_ g=>?_))
  .exact Gc 2 Z (Qi g (Gx 1 Z (JC ac g (Lr [0]))))
  refine Gc 6 Z (Bd g λN J g=>?_);refine vX (.ptr 1 (toNat p.2*1)) (Qn J Z EK Gb) ?_;refine vX (.int .u8 N) (Ez Z isAgg5 Z (Qj J)) ?_;refine Go 5 Z (Bd g λbe L g=>?_);refine vX (.ptr 0 (toNat N*1)) (O' (n:=256) (k:=1) (l:=p.1) L E8 Gb Z) ?_;refine Bd g λbf af g=>?_;refine vU (JG (e:=(Qc .u8)) (k:=1) (f:=0) (Np L).2 af Gb Z Z) ?_;exact Fg 7 Z Z (Qg g (Lr [0,1]))
 refine Gc 2 Z (Bd h λao ag h=>?_);refine vX (.agg (List.flatten (map (Qc .u8) ao))) (zk (e:=(Qc .u8)) ag Zf Z isAgg364 GR) ?_;refine Bd h λbg ah h=>Bd h λaq t h=>?_;obtain⟨M,rfl⟩:=JQ ah;refine vU (Jz (e:=(Qc .u8)) (l:=u) (l':=aq) M (O9 t) Zf Z GR Zf Zf (congrArg (λl=>List.flatten (map (Qc .u8) l)) (JQ t).2.symm)) ?_;refine Fg 3 Z Z ?_;obtain rfl:=Oi h;exact Rx [0] [0] Z (Yk Z (w8 (e:=(Qc .u8)) (O9 t) Zf Z isAgg364 GR)) ⟨Z,Z⟩
def Pn(n:Nat)(e:AA UInt8)(i:AA Int)(a:Int):AB (AG Int (AG Unit Bool)):=(bif a<(e.length:Int) then(AJ e a).bind λf=>(Hn 256 i (f.toNat:Int)).bind λd=>((bif (d != 2)then(bif (a==0)then some true else(bif (d != 3)then(AJ e a).bind λg=>some ((g.toNat:Int) != 95)else some false))else some false):AB Bool).bind λh=>(bif h then some (.d (.d false))else some (.k (i64.wrap (a+1))))else some (.d (.k ())))
def L2(d:AA UInt8):AB Bool:=(Mr n).bind λf=>(FM 256 (List.replicate 256 0)).bind λh=>(FM 256 f).bind λg=>(iter (Pn n d g) n 0:AB (AG Unit Bool)).bind λe=>match e with|.k a=>(some (d != []))|.d a=>some a
theorem gr(q:AA UInt8):Ks (L2 n q) 201 [.str q] [] (λr=>.bool r):=by
 refine Kg 7 func201 Z Z Z Z λr h=>Bd h λG J h=>?_;refine QC [] (Bh.fn call260 Z Z Z) (ip _ _ J) ?_;rintro _ _ ⟨rfl,rfl⟩;refine nN (x:=(.agg (List.flatten (map (Qc .u8) G)))) (H:=[.row 364 1 (map (Qc .u8) G)]) (vo (e:=(Qc .u8)) Zf _ _) Z ?_;refine vH (JA (n:=256) (k:=1) (e:=(Qc .u8)) (z:=0) zeroValue364 (by kernel_rfl) (by kernel_rfl) (by kernel_rfl) Z) ?_;refine FE Z (Bd h λW L h=>Bd h λM j h=>?_);obtain⟨s,rfl⟩:=JQ L;refine vU (Jz (e:=(Qc .u8)) (l:=(List.replicate 256 0)) (l':=M) s (O9 j) Zf Z GR Zf Zf (congrArg (λl=>List.flatten (map (Qc .u8) l)) (JQ j).2.symm)) ?_;refine Fg 6 Z Z ?_;refine vX (I (q.length:Int)) (Js Z Z EE Z) ?_;refine Go 3 Z (Bd h λN O h=>BZ (b:=N) [] [0] Ze Ze Zf ?_ (λ_ P=>?_))
 .refine G0 1 Z (Lp [1] [0,3,8] (λm=>[(9,I m)]) Ze O Zf (Lr [1]) λm V a f=>?_);refine G0 6 Z (Q5 Z a (λ_ a=>?_) (λ_ a=>?_))
  .exact Gc 2 Z (Qi a (Gx 1 Z (JD f a Z (Lr []))))
  refine Gc 14 Z (Bd a λp u a=>?_);refine vX (.int .u8 (p.toNat:Int)) (Q3 u EE) ?_;refine Bd a λQ g a=>?_;refine vX (.ptr 0 (toNat (p.toNat:Int)*1)) (O' (n:=256) (k:=1) (l:=M) g E8 Gb Z) ?_;refine vX (.int .u8 Q) (Ez Z isAgg5 Z (Qj (Np g).2)) ?_;refine Go 4 Z (Bd a λi d a=>Cg i [0] [0,3,8,9] (λi=>[(32,.bool i)]) Ze Zf ?_ ?_)
  .refine G0 4 Z (Is 19 d Z (λ_ d=>?_) (λ_ d=>?_))
   .refine Go 3 Z (Is 22 d Z (λ_ d=>?_) (λ_ d=>?_))
    .exact Gl 11 Z d [0]
    .refine Go 3 Z (Is 25 d Z (λ_ d=>?_) (λ_ d=>?_))
     .refine Go 2 Z (Bd d λR E d=>?_);refine vX (.int .u8 (R.toNat:Int)) (Q3 E EE) ?_ (gT Z);exact Gl 5 Z d [0]
     .exact Gl 8 Z d [0]
   .exact Gl 14 Z d [0]
  refine Cn Z a (λ_ a=>?_) (λ_ a=>?_)
  .refine Gc 8 Z (Qx a ?_);obtain rfl:=Oj f a;exact Gx 1 Z (Qq (Gx 1 Z (Rt h 2 [])))
  exact Gc 7 Z (Qg a (Lr [0]))
 subst P;exact QJ 8 Z h 2 []
def Rp(a:AA UInt8):AB Bool:=((L2 n a).bind λg=>(bif g then(cat [32] a).bind λd=>(cat d [32]).bind λe=>(WP [32,99,111,117,114,115,101,32,109,97,116,115,32,115,116,97,114,116,32,112,97,115,115,32,101,110,100,32,108,101,103,32,116,111,32,100,105,115,116,97,110,99,101,32,103,117,110,32,99,104,105,112,32,115,108,111,116,32,108,97,112,115,32,108,97,112,32,99,117,116,111,102,102,32,101,120,116,114,97,32,119,97,118,101,32,111,102,102,101,110,99,101,32,111,117,116,32,99,97,116,101,103,111,114,121,32,112,114,105,122,101,32,97,108,108,32,116,105,101,115,32,105,102,32,101,108,115,101,32,97,110,100,32,111,114,32,110,111,116,32,111,108,100,101,114,32,121,111,117,110,103,101,114,32,98,105,98,32,100,114,97,119,32,102,105,101,108,100,32,115,104,111,114,116,32,102,97,117,108,116,115,32,109,105,115,115,101,115,32,115,116,114,97,121,115,32,119,105,110,100,111,119,32,114,101,115,105,100,117,97,108,32,100,114,105,102,116,32,112,114,111,116,101,115,116,32,102,101,101,32,100,101,97,100,108,105,110,101,32] e).bind λf=>some f else some false):AB Bool).bind λh=>some h
theorem gH(i:AA UInt8):Ks (Rp n i) 149 [.str i] [] (λr=>.bool r):=by
 refine Kg 6 func149 Z Z Z Z λr h=>Bd h λd a h=>Cg d [] [] (λd=>[(2,.bool d)]) Ze Zf ?_ ?_
 .refine G0 2 Z (Cz [] a (gr _ _) Z λq k a=>Go 1 Z (Is 5 a Z (λ_ a=>?_) (λ_ a=>?_)))
  .refine Go 1 Z (Bd a λl e a=>?_);refine vV (rl e) (Bd a λm f a=>?_) (gT Z);refine vV (rl f) (Bd a λp g a=>?_) (gT Z);refine QC [] (Bh.fn call202 Z Z Z) (C.contains Qel Z g) ?_ (hg:=(gT Z));rintro _ _ ⟨rfl,rfl⟩;exact FE Z (Gl 3 Z a [])
  .exact Gl 7 Z a []
 exact QJ 1 Z h 2 []
def Lk(n:Nat)(e:AA UInt8)(d:Int):AB (AG Int (AG Unit Bool)):=(bif d<(e.length:Int) then(AJ e d).bind λa=>((bif (a.toNat:Int)<97 then(bif (a.toNat:Int)<48 then some ((a.toNat:Int) != 95)else(bif 57<(a.toNat:Int) then some ((a.toNat:Int) != 95)else some false))else(bif 122<(a.toNat:Int) then(bif (a.toNat:Int)<48 then some ((a.toNat:Int) != 95)else(bif 57<(a.toNat:Int) then some ((a.toNat:Int) != 95)else some false))else some false)):AB Bool).bind λf=>(bif f then some (.d (.d false))else some (.k (i64.wrap (d+1))))else some (.d (.k ())))
def IR(a:AA UInt8):AB Bool:=((bif (a.length:Int)<1 then some true else(bif 24<(a.length:Int) then some true else(AJ a 0).bind λe=>(bif (e.toNat:Int)<97 then some true else(AJ a 0).bind λf=>some (decide (122<(f.toNat:Int)))))):AB Bool).bind λi=>(bif i then some false else(iter (Lk n a) n 0:AB (AG Unit Bool)).bind λg=>match g with|.k d=>((Rp n a).bind λh=>some (!h))|.d d=>some d)
theorem SU(f:AA UInt8):Ks (IR n f) 74 [.str f] [] (λr=>.bool r):=by
 refine Kg 7 func74 Z Z Z Z λr h=>Bd h λk e h=>Ct k [] [0] (λk=>[(22,.bool k)]) Ze Zf ?_ (λenv H F=>?_)
 .refine G0 2 Z ?_;refine vX (I (f.length:Int)) (Js Z Z EE Z) ?_;refine Go 2 Z (Is 8 e Z (λ_ e=>?_) (λ_ e=>?_))
  .exact Gl 15 Z e []
  .refine Go 1 Z ?_;refine vX (I (f.length:Int)) (Js Z Z EE Z) ?_ (gT Z);refine Go 3 Z (Is 13 e Z (λ_ e=>?_) (λ_ e=>?_))
   .exact Gl 10 Z e []
   .refine Go 1 Z (Bd e λL l e=>?_);refine vX (.int .u8 (L.toNat:Int)) (Q3 l EE) ?_ (gT Z);refine Go 3 Z (Is 18 e Z (λ_ e=>?_) (λ_ e=>?_))
    .exact Gl 5 Z e []
    .refine Go 1 Z (Bd e λM p e=>?_);refine vX (.int .u8 (M.toNat:Int)) (Q3 p EE) ?_ (gT Z);exact Gl 3 Z e []
 refine Gx 1 Z (Qd F (Cn Z h (λ_ h=>?_) (λ_ h=>?_)))
 .exact QJ 7 Z h 2 []
 refine Gc 6 Z ?_;refine vX (I (f.length:Int)) (Js Z Z EE Z) ?_;refine Go 3 Z (Bd h λN O h=>BZ (b:=N) [] [0] Ze Ze Zf ?_ (λ_ P=>?_))
 .refine G0 1 Z (Lp [] [0,24] (λj=>[(25,I j)]) Ze O Zf (Lr []) λj V d g=>?_);refine G0 6 Z (Q5 Z d (λ_ d=>?_) (λ_ d=>?_))
  .exact Gc 2 Z (Qi d (Gx 1 Z (JD g d Z (Lr []))))
  refine Gc 14 Z (Bd d λQ t d=>?_);refine vX (.int .u8 (Q.toNat:Int)) (Q3 t EE) ?_;refine Go 4 Z (Bd d λi a d=>Cg i [] [0,24,25] (λi=>[(48,.bool i)]) Ze Zf ?_ ?_)
  .refine G0 4 Z (Is 33 a Z (λ_ a=>?_) (λ_ a=>?_))
   .refine Go 7 Z (Is 40 a Z (λ_ a=>?_) (λ_ a=>?_))
    .exact Gl 9 Z a []
    .refine Go 5 Z (Is 45 a Z (λ_ a=>?_) (λ_ a=>?_))
     iterate 2 exact Gl 4 Z a []
   .refine Go 4 Z (Is 37 a Z (λ_ a=>?_) (λ_ a=>?_))
    .refine Go 3 Z (Is 40 a Z (λ_ a=>?_) (λ_ a=>?_))
     .exact Gl 9 Z a []
     .refine Go 5 Z (Is 45 a Z (λ_ a=>?_) (λ_ a=>?_))
      iterate 2 exact Gl 4 Z a []
    .exact Gl 12 Z a []
  refine Cn Z d (λ_ d=>?_) (λ_ d=>?_)
  .refine Gc 8 Z (Qx d ?_);obtain rfl:=Oj g d;exact Gx 1 Z (Qq (Gx 1 Z (Rt h 2 [])))
  exact Gc 7 Z (Qg d (Lr []))
 subst P;exact Gc 3 Z (Cz [] h (gH _ _) Z λW T h=>Gt 5 Z h 2 [])
def RS(n:Nat)(a:Mat):AB Unit:=some ()
theorem fi(a:Mat):Ks (RS n a) 76 [.agg (Mat.c a)] [] (λ_=>.str a.Name):=by
 exact Kg 14 func76 Z Z Z Z λr h=>Rt h 2 []
def mR(e:AA Mat)(a:(AA (AA UInt8×Bool))×Int):AB (AG ((AA (AA UInt8×Bool))×Int) (AG Unit Bool)):=(bif a.2<(e.length:Int) then(AJ e a.2).bind λd=>(RS n d).bind λj=>((IR n d.Name).bind λf=>(bif (!f)then some true else(some (QH a.1 d.Name false)).bind λg=>some g):AB Bool).bind λh=>(bif h then some (.d (.d false))else(some (QR a.1 d.Name true)).bind λi=>some (.k (i,i64.wrap (a.2+1))))else some (.d (.k ())))
def SB(e:AA Mat):AB Bool:=(iter (mR n e) n ([],0):AB (AG Unit Bool)).bind λd=>match d with|.k a=>(some true)|.d a=>some a
theorem gd(q:AA Mat):Ks (SB n q) 75 [.rsl 2 (map Mat.c q),.fn (.func 76) [] []] [] (λr=>.bool r):=by
 refine Kg 7 func75 Z Z Z Z λr h=>vH Yn ?_;refine Fg 7 Z Z (Lg 3 Z Z (Bd h λs t h=>BZ (b:=s) [] [] Ze Ze Zf ?_ (λ_ u=>?_)))
 .refine G0 1 Z (Lp [0] [1,5,10,11] (λe=>[(12,I e.2)]) (λe=>[(0,.map (Qt A.str A.bool e.1))]) t Zf (Lr [0]) λe z a f=>?_);refine G0 6 Z (Q5 Z a (λ_ a=>?_) (λ_ a=>?_))
  .exact Gc 2 Z (Qi a (Gx 1 Z (JD f a Z (Lr []))))
  refine Gc 6 Z (Bd a λB j a=>Iz j Z (Go 9 Z (Cz [] a (fi _ _) Z λE x a=>Go 5 Z (Bd a λg d a=>Cg g [0] [1,5,8,10,11,12] (λg=>[(26,.bool g)]) Ze Zf ?_ ?_))))
  .refine G0 2 Z (Cz [] d (SU _ _) Z λF y d=>Go 2 Z (Is 22 d Z (λ_ d=>?_) (λ_ d=>?_)))
   .exact Gl 5 Z d [0]
   .refine Go 2 Z (Bd d λG l d=>(vV (Jr KM l EU Gh ZR.bool) ?_ (gT Z)));exact Gl 2 Z d [0]
  refine Cn Z a (λ_ a=>?_) (λ_ a=>?_)
  .refine Gc 9 Z (Qx a ?_);obtain rfl:=Oj f a;exact Gx 1 Z (Qq (Gx 1 Z (Rt h 4 [])))
  refine Gc 5 Z (Bd a λH p a=>(vU (Yl KM p Z EU) ?_));exact Fg 7 Z Z (Qg a (Lr [0]))
 subst u;exact QJ 6 Z h 4 []
def Q_(n:Nat)(a:Distance):AB Unit:=some ()
theorem fN(a:Distance):Ks (Q_ n a) 78 [.agg (Distance.c a)] [] (λ_=>.str a.Name):=by
 exact Kg 14 func78 Z Z Z Z λr h=>Rt h 2 []
def mB(e:AA Distance)(a:(AA (AA UInt8×Bool))×Int):AB (AG ((AA (AA UInt8×Bool))×Int) (AG Unit Bool)):=(bif a.2<(e.length:Int) then(AJ e a.2).bind λd=>(Q_ n d).bind λj=>((IR n d.Name).bind λf=>(bif (!f)then some true else(some (QH a.1 d.Name false)).bind λg=>some g):AB Bool).bind λh=>(bif h then some (.d (.d false))else(some (QR a.1 d.Name true)).bind λi=>some (.k (i,i64.wrap (a.2+1))))else some (.d (.k ())))
def RD(e:AA Distance):AB Bool:=(iter (mB n e) n ([],0):AB (AG Unit Bool)).bind λd=>match d with|.k a=>(some true)|.d a=>some a
theorem fQ(q:AA Distance):Ks (RD n q) 77 [.rsl 5 (map Distance.c q),.fn (.func 78) [] []] [] (λr=>.bool r):=by
 refine Kg 7 func77 Z Z Z Z λr h=>vH Yn ?_;refine Fg 7 Z Z (Lg 3 Z Z (Bd h λs t h=>BZ (b:=s) [] [] Ze Ze Zf ?_ (λ_ u=>?_)))
 .refine G0 1 Z (Lp [0] [1,5,10,11] (λe=>[(12,I e.2)]) (λe=>[(0,.map (Qt A.str A.bool e.1))]) t Zf (Lr [0]) λe z a f=>?_);refine G0 6 Z (Q5 Z a (λ_ a=>?_) (λ_ a=>?_))
  .exact Gc 2 Z (Qi a (Gx 1 Z (JD f a Z (Lr []))))
  refine Gc 6 Z (Bd a λB j a=>Iz j Z (Go 9 Z (Cz [] a (fN _ _) Z λE x a=>Go 5 Z (Bd a λg d a=>Cg g [0] [1,5,8,10,11,12] (λg=>[(26,.bool g)]) Ze Zf ?_ ?_))))
  .refine G0 2 Z (Cz [] d (SU _ _) Z λF y d=>Go 2 Z (Is 22 d Z (λ_ d=>?_) (λ_ d=>?_)))
   .exact Gl 5 Z d [0]
   .refine Go 2 Z (Bd d λG l d=>(vV (Jr KM l EU Gh ZR.bool) ?_ (gT Z)));exact Gl 2 Z d [0]
  refine Cn Z a (λ_ a=>?_) (λ_ a=>?_)
  .refine Gc 9 Z (Qx a ?_);obtain rfl:=Oj f a;exact Gx 1 Z (Qq (Gx 1 Z (Rt h 4 [])))
  refine Gc 5 Z (Bd a λH p a=>(vU (Yl KM p Z EU) ?_));exact Fg 7 Z Z (Qg a (Lr [0]))
 subst u;exact QJ 6 Z h 4 []
def Rg(n:Nat)(a:Wave):AB Unit:=some ()
theorem f8(a:Wave):Ks (Rg n a) 80 [.agg (Wave.c a)] [] (λ_=>.str a.Name):=by
 exact Kg 14 func80 Z Z Z Z λr h=>Rt h 2 []
def mW(e:AA Wave)(a:(AA (AA UInt8×Bool))×Int):AB (AG ((AA (AA UInt8×Bool))×Int) (AG Unit Bool)):=(bif a.2<(e.length:Int) then(AJ e a.2).bind λd=>(Rg n d).bind λj=>((IR n d.Name).bind λf=>(bif (!f)then some true else(some (QH a.1 d.Name false)).bind λg=>some g):AB Bool).bind λh=>(bif h then some (.d (.d false))else(some (QR a.1 d.Name true)).bind λi=>some (.k (i,i64.wrap (a.2+1))))else some (.d (.k ())))
def SF(e:AA Wave):AB Bool:=(iter (mW n e) n ([],0):AB (AG Unit Bool)).bind λd=>match d with|.k a=>(some true)|.d a=>some a
theorem gh(q:AA Wave):Ks (SF n q) 79 [.rsl 2 (map Wave.c q),.fn (.func 80) [] []] [] (λr=>.bool r):=by
 refine Kg 7 func79 Z Z Z Z λr h=>vH Yn ?_;refine Fg 7 Z Z (Lg 3 Z Z (Bd h λs t h=>BZ (b:=s) [] [] Ze Ze Zf ?_ (λ_ u=>?_)))
 .refine G0 1 Z (Lp [0] [1,5,10,11] (λe=>[(12,I e.2)]) (λe=>[(0,.map (Qt A.str A.bool e.1))]) t Zf (Lr [0]) λe z a f=>?_);refine G0 6 Z (Q5 Z a (λ_ a=>?_) (λ_ a=>?_))
  .exact Gc 2 Z (Qi a (Gx 1 Z (JD f a Z (Lr []))))
  refine Gc 6 Z (Bd a λB j a=>Iz j Z (Go 9 Z (Cz [] a (f8 _ _) Z λE x a=>Go 5 Z (Bd a λg d a=>Cg g [0] [1,5,8,10,11,12] (λg=>[(26,.bool g)]) Ze Zf ?_ ?_))))
  .refine G0 2 Z (Cz [] d (SU _ _) Z λF y d=>Go 2 Z (Is 22 d Z (λ_ d=>?_) (λ_ d=>?_)))
   .exact Gl 5 Z d [0]
   .refine Go 2 Z (Bd d λG l d=>(vV (Jr KM l EU Gh ZR.bool) ?_ (gT Z)));exact Gl 2 Z d [0]
  refine Cn Z a (λ_ a=>?_) (λ_ a=>?_)
  .refine Gc 9 Z (Qx a ?_);obtain rfl:=Oj f a;exact Gx 1 Z (Qq (Gx 1 Z (Rt h 4 [])))
  refine Gc 5 Z (Bd a λH p a=>(vU (Yl KM p Z EU) ?_));exact Fg 7 Z Z (Qg a (Lr [0]))
 subst u;exact QJ 6 Z h 4 []
def Ra(n:Nat)(a:Offence):AB Unit:=some ()
theorem fx(a:Offence):Ks (Ra n a) 82 [.agg (Offence.c a)] [] (λ_=>.str a.Name):=by
 exact Kg 14 func82 Z Z Z Z λr h=>Rt h 2 []
def mG(e:AA Offence)(a:(AA (AA UInt8×Bool))×Int):AB (AG ((AA (AA UInt8×Bool))×Int) (AG Unit Bool)):=(bif a.2<(e.length:Int) then(AJ e a.2).bind λd=>(Ra n d).bind λj=>((IR n d.Name).bind λf=>(bif (!f)then some true else(some (QH a.1 d.Name false)).bind λg=>some g):AB Bool).bind λh=>(bif h then some (.d (.d false))else(some (QR a.1 d.Name true)).bind λi=>some (.k (i,i64.wrap (a.2+1))))else some (.d (.k ())))
def SE(e:AA Offence):AB Bool:=(iter (mG n e) n ([],0):AB (AG Unit Bool)).bind λd=>match d with|.k a=>(some true)|.d a=>some a
theorem gg(q:AA Offence):Ks (SE n q) 81 [.rsl 4 (map Offence.c q),.fn (.func 82) [] []] [] (λr=>.bool r):=by
 refine Kg 7 func81 Z Z Z Z λr h=>vH Yn ?_;refine Fg 7 Z Z (Lg 3 Z Z (Bd h λs t h=>BZ (b:=s) [] [] Ze Ze Zf ?_ (λ_ u=>?_)))
 .refine G0 1 Z (Lp [0] [1,5,10,11] (λe=>[(12,I e.2)]) (λe=>[(0,.map (Qt A.str A.bool e.1))]) t Zf (Lr [0]) λe z a f=>?_);refine G0 6 Z (Q5 Z a (λ_ a=>?_) (λ_ a=>?_))
  .exact Gc 2 Z (Qi a (Gx 1 Z (JD f a Z (Lr []))))
  refine Gc 6 Z (Bd a λB j a=>Iz j Z (Go 9 Z (Cz [] a (fx _ _) Z λE x a=>Go 5 Z (Bd a λg d a=>Cg g [0] [1,5,8,10,11,12] (λg=>[(26,.bool g)]) Ze Zf ?_ ?_))))
  .refine G0 2 Z (Cz [] d (SU _ _) Z λF y d=>Go 2 Z (Is 22 d Z (λ_ d=>?_) (λ_ d=>?_)))
   .exact Gl 5 Z d [0]
   .refine Go 2 Z (Bd d λG l d=>(vV (Jr KM l EU Gh ZR.bool) ?_ (gT Z)));exact Gl 2 Z d [0]
  refine Cn Z a (λ_ a=>?_) (λ_ a=>?_)
  .refine Gc 9 Z (Qx a ?_);obtain rfl:=Oj f a;exact Gx 1 Z (Qq (Gx 1 Z (Rt h 4 [])))
  refine Gc 5 Z (Bd a λH p a=>(vU (Yl KM p Z EU) ?_));exact Fg 7 Z Z (Qg a (Lr [0]))
 subst u;exact QJ 6 Z h 4 []
def Rw(n:Nat)(a:Category):AB Unit:=some ()
theorem gM(a:Category):Ks (Rw n a) 84 [.agg (Category.c a)] [] (λ_=>.str a.Name):=by
 exact Kg 14 func84 Z Z Z Z λr h=>Rt h 2 []
def mI(e:AA Category)(a:(AA (AA UInt8×Bool))×Int):AB (AG ((AA (AA UInt8×Bool))×Int) (AG Unit Bool)):=(bif a.2<(e.length:Int) then(AJ e a.2).bind λd=>(Rw n d).bind λj=>((IR n d.Name).bind λf=>(bif (!f)then some true else(some (QH a.1 d.Name false)).bind λg=>some g):AB Bool).bind λh=>(bif h then some (.d (.d false))else(some (QR a.1 d.Name true)).bind λi=>some (.k (i,i64.wrap (a.2+1))))else some (.d (.k ())))
def Rk(e:AA Category):AB Bool:=(iter (mI n e) n ([],0):AB (AG Unit Bool)).bind λd=>match d with|.k a=>(some true)|.d a=>some a
theorem gB(q:AA Category):Ks (Rk n q) 83 [.rsl 3 (map Category.c q),.fn (.func 84) [] []] [] (λr=>.bool r):=by
 refine Kg 7 func83 Z Z Z Z λr h=>vH Yn ?_;refine Fg 7 Z Z (Lg 3 Z Z (Bd h λs t h=>BZ (b:=s) [] [] Ze Ze Zf ?_ (λ_ u=>?_)))
 .refine G0 1 Z (Lp [0] [1,5,10,11] (λe=>[(12,I e.2)]) (λe=>[(0,.map (Qt A.str A.bool e.1))]) t Zf (Lr [0]) λe z a f=>?_);refine G0 6 Z (Q5 Z a (λ_ a=>?_) (λ_ a=>?_))
  .exact Gc 2 Z (Qi a (Gx 1 Z (JD f a Z (Lr []))))
  refine Gc 6 Z (Bd a λB j a=>Iz j Z (Go 9 Z (Cz [] a (gM _ _) Z λE x a=>Go 5 Z (Bd a λg d a=>Cg g [0] [1,5,8,10,11,12] (λg=>[(26,.bool g)]) Ze Zf ?_ ?_))))
  .refine G0 2 Z (Cz [] d (SU _ _) Z λF y d=>Go 2 Z (Is 22 d Z (λ_ d=>?_) (λ_ d=>?_)))
   .exact Gl 5 Z d [0]
   .refine Go 2 Z (Bd d λG l d=>(vV (Jr KM l EU Gh ZR.bool) ?_ (gT Z)));exact Gl 2 Z d [0]
  refine Cn Z a (λ_ a=>?_) (λ_ a=>?_)
  .refine Gc 9 Z (Qx a ?_);obtain rfl:=Oj f a;exact Gx 1 Z (Qq (Gx 1 Z (Rt h 4 [])))
  refine Gc 5 Z (Bd a λH p a=>(vU (Yl KM p Z EU) ?_));exact Fg 7 Z Z (Qg a (Lr [0]))
 subst u;exact QJ 6 Z h 4 []
def Rs(a:AE):AB Bool:=((IR n a.Name).bind λd=>(bif d then(SB n a.Mats).bind λe=>(bif e then(RD n a.Distances).bind λf=>(bif f then(SF n a.Waves).bind λg=>(bif g then(SE n a.Offences).bind λh=>(bif h then(Rk n a.Categories).bind λi=>some i else some false)else some false)else some false)else some false)else some false):AB Bool).bind λj=>some j
theorem gK(k:AE):Ks (Rs n k) 38 [.agg (AE.c k)] [] (λr=>.bool r):=by
 refine Kg 7 func38 Z Z Z Z λr h=>Bd h λd a h=>Cg d [] [] (λd=>[(2,.bool d)]) Ze Zf ?_ ?_
 .refine G0 3 Z (Cz [] a (SU _ _) Z λu l a=>Go 1 Z (Is 6 a Z (λ_ a=>?_) (λ_ a=>?_)))
  .refine Go 2 Z (Cz [] a (gd _ _) Z λw m a=>Go 2 Z (Is 11 a Z (λ_ a=>?_) (λ_ a=>?_)))
   .refine Go 2 Z (Cz [] a (fQ _ _) Z λx p a=>Go 2 Z (Is 16 a Z (λ_ a=>?_) (λ_ a=>?_)))
    .refine Go 2 Z (Cz [] a (gh _ _) Z λy q a=>Go 2 Z (Is 21 a Z (λ_ a=>?_) (λ_ a=>?_)))
     .refine Go 2 Z (Cz [] a (gg _ _) Z λz s a=>Go 2 Z (Is 26 a Z (λ_ a=>?_) (λ_ a=>?_)))
      .exact Go 2 Z (Cz [] a (gB _ _) Z λB t a=>Gl 3 Z a [])
      .exact Gl 6 Z a []
     .exact Gl 11 Z a []
    .exact Gl 16 Z a []
   .exact Gl 21 Z a []
  .exact Gl 26 Z a []
 exact QJ 1 Z h 2 []
def R'(n:Nat)(a:Int)(d:Int)(e:Int):AB Bool:=((bif a<d then some true else some (decide (e<a))):AB Bool).bind λb2=>some b2
theorem ga(d:Int)(e:Int)(f:Int):Ks (R' n d e f) 151 [I d,.ptr 0 0,.ptr 1 0] [.cells 3 [I e],.cells 3 [I f]] (λr=>.bool r):=by
 refine Kg 6 func151 Z Z Z Z λr h=>Bd h λb2 a h=>Cg b2 [0,1] [] (λb2=>[(4,.bool b2)]) Ze Zf ?_ ?_
 .refine G0 5 Z (Is 8 a Z (λ_ a=>?_) (λ_ a=>?_))
  iterate 2 exact Gl 6 Z a [0,1]
 exact QJ 1 Z h 4 [0,1]
def mA(d:AA Int)(g:Int)(h:Int)(a:Int):AB (AG Int (AG Unit Int)):=(bif a<(d.length:Int) then(AJ d a).bind λe=>(R' n e g h).bind λf=>(bif f then some (.d (.d a))else some (.k (i64.wrap (a+1))))else some (.d (.k ())))
def ZE(e:AA Int)(f:Int)(g:Int):AB Int:=(iter (mA n e f g) n 0:AB (AG Unit Int)).bind λd=>match d with|.k a=>(some (-1))|.d a=>some a
theorem dy(j:AA Int)(k:Int)(l:Int):Ks (ZE n j k l) 203 [.rsl 1 (map (Qc .i64) j),.fn (.func 151) [] [.ptr 0 0,.ptr 1 0]] [.cells 3 [I k],.cells 3 [I l]] (λr=>I r):=by
 refine Kg 9 func203 Z Z Z Z λr h=>Lg 3 Z Z (Bd h λm p h=>BZ (b:=m) [0,1] [] Ze Ze Zf ?_ (λ_ q=>?_))
 .refine G0 1 Z (Lp [0,1] [0,1,7] (λe=>[(8,I e)]) Ze p Zf (Lr [0,1]) λe u a d=>(G0 6 Z (Q5 Z a (λ_ a=>?_) (λ_ a=>?_))))
  .exact Gc 2 Z (Qi a (Gx 1 Z (JD d a Z (Lr [0,1]))))
  refine Gc 15 Z (Bd a λw g a=>Iz g Z (Go 1 Z (Cz [0,1] a (ga _ _ _ _) Z λx t a=>Go 2 Z (Cn Z a (λ_ a=>?_) (λ_ a=>?_)))))
  .refine Gc 9 Z (Qx a ?_);obtain rfl:=Oj d a;exact Gx 1 Z (Qq (Gx 1 Z (Rt h 4 [0,1])))
  exact Gc 7 Z (Qg a (Lr [0,1]))
 subst q;exact QJ 6 Z h 4 [0,1]
def Rj(a:AA Int)(d:Int)(e:Int):AB Bool:=(ZE n a d e).bind λf=>some (decide (0<=f))
theorem gA(a:AA Int)(d:Int)(e:Int):Ks (Rj n a d e) 150 [.rsl 1 (map (Qc .i64) a),.fn (.func 151) [] [.ptr 0 0,.ptr 1 0]] [.cells 3 [I d],.cells 3 [I e]] (λr=>.bool r):=by
 exact Kg 9 func150 Z Z Z Z λr h=>Cz [0,1] h (dy _ _ _ _) Z λg f h=>Gt 5 Z h 4 [0,1]
def CS(a:Int)(d:Int)(e:AA Int):AB Bool:=(Rj n e a d).bind λf=>some (!f)
theorem Cq(a:Int)(d:Int)(e:AA Int):Ks (CS n a d e) 86 [I a,I d,.rsl 1 (map (Qc .i64) e)] [] (λr=>.bool r):=by
 exact Kg 11 func86 Z Z Z Z λr h=>Cz [0,1] h (gA _ _ _ _) Z λg f h=>Gt 5 Z h 6 []
def MH(a:Mat):AB Bool:=(CS n 1 3 [a.Kind]).bind λd=>some d
theorem iB(a:Mat):Ks (MH n a) 95 [.agg (Mat.c a)] [] (λr=>.bool r):=by
 refine Kg 10 func95 Z Z Z Z λr h=>vH (Ek (xs:=[.tmp 4]) Qs Z Z Z Z Z ⟨Z,trivial⟩ Z Z) ?_;exact FE Z (Cb h (Cq _ _ _ _) Z (ls (ls (lo ln))) λe d h=>Gt 4 Z h 2 [])
def ZH(a:Mat):AB Bool:=(MH n a).bind λd=>some (!d)
theorem d5(a:Mat):Ks (ZH n a) 157 [.agg (Mat.c a),.ptr 0 0] [.cells 202 [.fn (.func 95) [] []]] (λr=>.bool r):=by
 exact Kg 10 func157 Z Z Z Z λr h=>Cz [] h (iB _ _) Z λe d h=>Gt 5 Z h 3 [0]
def l7(d:AA Mat)(a:Int):AB (AG Int (AG Unit Int)):=(bif a<(d.length:Int) then(AJ d a).bind λe=>(ZH n e).bind λf=>(bif f then some (.d (.d a))else some (.k (i64.wrap (a+1))))else some (.d (.k ())))
def RX(e:AA Mat):AB Int:=(iter (l7 n e) n 0:AB (AG Unit Int)).bind λd=>match d with|.k a=>(some (-1))|.d a=>some a
theorem ft(j:AA Mat):Ks (RX n j) 206 [.rsl 2 (map Mat.c j),.fn (.func 157) [] [.ptr 0 0]] [.cells 202 [.fn (.func 95) [] []]] (λr=>I r):=by
 refine Kg 9 func206 Z Z Z Z λr h=>Lg 3 Z Z (Bd h λk l h=>BZ (b:=k) [0] [] Ze Ze Zf ?_ (λ_ m=>?_))
 .refine G0 1 Z (Lp [0] [0,1,7] (λe=>[(8,I e)]) Ze l Zf (Lr [0]) λe s a d=>(G0 6 Z (Q5 Z a (λ_ a=>?_) (λ_ a=>?_))))
  .exact Gc 2 Z (Qi a (Gx 1 Z (JD d a Z (Lr [0]))))
  refine Gc 15 Z (Bd a λt g a=>Iz g Z (Go 1 Z (Cz [0] a (d5 _ _) Z λu q a=>Go 2 Z (Cn Z a (λ_ a=>?_) (λ_ a=>?_)))))
  .refine Gc 9 Z (Qx a ?_);obtain rfl:=Oj d a;exact Gx 1 Z (Qq (Gx 1 Z (Rt h 4 [0])))
  exact Gc 7 Z (Qg a (Lr [0]))
 subst m;exact QJ 6 Z h 4 [0]
def P2(a:AA Mat):AB Bool:=(RX n a).bind λd=>some (decide (0<=d))
theorem fB(a:AA Mat):Ks (P2 n a) 156 [.rsl 2 (map Mat.c a),.fn (.func 157) [] [.ptr 0 0]] [.cells 202 [.fn (.func 95) [] []]] (λr=>.bool r):=by
 exact Kg 9 func156 Z Z Z Z λr h=>Cz [0] h (ft _ _) Z λe d h=>Gt 5 Z h 4 [0]
def Lz(a:AA Mat):AB Bool:=(P2 n a).bind λd=>some (!d)
theorem gn(a:AA Mat):Ks (Lz n a) 94 [.rsl 2 (map Mat.c a),.fn (.func 95) [] []] [] (λr=>.bool r):=by
 exact Kg 10 func94 Z Z Z Z λr h=>Cz [0] h (fB _ _) Z λe d h=>Gt 5 Z h 4 []
def MS(a:BE)(d:Int):AB Bool:=((CS n 0 d [a.From,a.To]).bind λe=>(bif e then(CS n 0 68719476736 [a.Min,a.Max]).bind λf=>(bif f then some (decide (a.Min<=a.Max))else some false)else some false):AB Bool).bind λg=>some g
theorem iL(f:BE)(g:Int):Ks (MS n f g) 91 [.agg (BE.c f),.ptr 0 0] [.cells 3 [I g]] (λr=>.bool r):=by
 refine Kg 7 func91 Z Z Z Z λr h=>Bd h λd a h=>Cg d [0] [] (λd=>[(3,.bool d)]) Ze Zf ?_ ?_
 .refine G0 6 Z (vH (Ek (xs:=[.tmp 6,.tmp 8]) Qs Z Z Z Z Z ⟨Z,Z,trivial⟩ Z Z) ?_);refine FE Z (Cb a (Cq _ _ _ _) Z (ls (ls (lo ln))) λl j a=>Go 1 Z (Is 11 a Z (λ_ a=>?_) (λ_ a=>?_)))
  .refine Go 4 Z (vH (Ek (xs:=[.tmp 13,.tmp 15]) Qs Z Z Z Z Z ⟨Z,Z,trivial⟩ Z Z) ?_ (gT Z));refine FE Z (Cb a (Cq _ _ _ _) Z (ls (ls (lo ln))) λm k a=>Go 2 Z (Is 19 a Z (λ_ a=>?_) (λ_ a=>?_)))
   iterate 2 exact Gl 8 Z a [0]
  .exact Gl 16 Z a [0]
 exact QJ 1 Z h 3 [0]
def Zg(a:BE)(d:Int):AB Bool:=(MS n a d).bind λe=>some (!e)
theorem eT(a:BE)(d:Int):Ks (Zg n a d) 159 [.agg (BE.c a),.ptr 0 0] [.cells 196 [.fn (.func 91) [] [.ptr 1 0]],.cells 3 [I d]] (λr=>.bool r):=by
 exact Kg 10 func159 Z Z Z Z λr h=>Cz [1] h (iL _ _ _) Z λf e h=>Gt 5 Z h 3 [0,1]
def mM(d:AA BE)(g:Int)(a:Int):AB (AG Int (AG Unit Int)):=(bif a<(d.length:Int) then(AJ d a).bind λe=>(Zg n e g).bind λf=>(bif f then some (.d (.d a))else some (.k (i64.wrap (a+1))))else some (.d (.k ())))
def P8(e:AA BE)(f:Int):AB Int:=(iter (mM n e f) n 0:AB (AG Unit Int)).bind λd=>match d with|.k a=>(some (-1))|.d a=>some a
theorem fJ(j:AA BE)(k:Int):Ks (P8 n j k) 207 [.rsl 4 (map BE.c j),.fn (.func 159) [] [.ptr 0 0]] [.cells 196 [.fn (.func 91) [] [.ptr 1 0]],.cells 3 [I k]] (λr=>I r):=by
 refine Kg 9 func207 Z Z Z Z λr h=>Lg 3 Z Z (Bd h λl m h=>BZ (b:=l) [0,1] [] Ze Ze Zf ?_ (λ_ p=>?_))
 .refine G0 1 Z (Lp [0,1] [0,1,7] (λe=>[(8,I e)]) Ze m Zf (Lr [0,1]) λe t a d=>(G0 6 Z (Q5 Z a (λ_ a=>?_) (λ_ a=>?_))))
  .exact Gc 2 Z (Qi a (Gx 1 Z (JD d a Z (Lr [0,1]))))
  refine Gc 15 Z (Bd a λu g a=>Iz g Z (Go 1 Z (Cz [0,1] a (eT _ _ _) Z λw s a=>Go 2 Z (Cn Z a (λ_ a=>?_) (λ_ a=>?_)))))
  .refine Gc 9 Z (Qx a ?_);obtain rfl:=Oj d a;exact Gx 1 Z (Qq (Gx 1 Z (Rt h 4 [0,1])))
  exact Gc 7 Z (Qg a (Lr [0,1]))
 subst p;exact QJ 6 Z h 4 [0,1]
def Rz(a:AA BE)(d:Int):AB Bool:=(P8 n a d).bind λe=>some (decide (0<=e))
theorem gP(a:AA BE)(d:Int):Ks (Rz n a d) 158 [.rsl 4 (map BE.c a),.fn (.func 159) [] [.ptr 0 0]] [.cells 196 [.fn (.func 91) [] [.ptr 1 0]],.cells 3 [I d]] (λr=>.bool r):=by
 exact Kg 9 func158 Z Z Z Z λr h=>Cz [0,1] h (fJ _ _ _) Z λf e h=>Gt 5 Z h 4 [0,1]
def L5(a:AA BE)(d:Int):AB Bool:=(Rz n a d).bind λe=>some (!e)
theorem gv(a:AA BE)(d:Int):Ks (L5 n a d) 96 [.rsl 4 (map BE.c a),.fn (.func 91) [] [.ptr 0 0]] [.cells 3 [I d]] (λr=>.bool r):=by
 exact Kg 10 func96 Z Z Z Z λr h=>Cz [1,0] h (gP _ _ _) Z λf e h=>Gt 5 Z h 4 [0]
def R9(n:Nat)(a:BE):AB Unit:=some ()
theorem gY(a:BE):Kq (R9 n a) 98 [.agg (BE.c a)] [] (λ_=>.agg [I a.From,I a.To]) (λ_=>[.cells 127 [I a.From,I a.To]]):=by
 refine Kg 17 func98 Z Z Z Z λr h=>?_;exact Rx [1] [2] Z (Yk Z (Qk isAgg127 sizeOf127 Z Z Z)) ⟨Z,Z⟩
def Pw(e:AA BE)(a:(AA (Uh×Bool))×Int):AB (AG ((AA (Uh×Bool))×Int) (AA (Uh×Bool))):=(bif a.2<(e.length:Int) then(AJ e a.2).bind λd=>(R9 n d).bind λg=>(some (QR a.1 ({from_:=d.From,to_:=d.To:Uh}) true)).bind λf=>some (.k (f,i64.wrap (a.2+1)))else some (.d a.1))
def R6(a:AA BE):AB Bool:=(iter (Pw n a) n ([],0):AB (AA (Uh×Bool))).bind λd=>some ((d.length:Int)==(a.length:Int))
theorem gV(k:AA BE):Ks (R6 n k) 97 [.rsl 4 (map BE.c k),.fn (.func 98) [] []] [] (λr=>.bool r):=by
 refine Kg 7 func97 Z Z Z Z λr h=>vH Yn ?_;refine Fg 7 Z Z (Lg 3 Z Z (Bd h λe l h=>Cg e [0] [0,5] Ze (λe=>[(0,.map (Qt (λx=>A.agg (Uh.c x)) A.bool e))]) Zf ?_ ?_))
 .refine G0 1 Z (Lp [0] [0,1,5,9,10] (λd=>[(11,I d.2)]) (λd=>[(0,.map (Qt (λx=>A.agg (Uh.c x)) A.bool d.1))]) l Zf (Lr [0]) λd p a f=>?_);refine G0 6 Z (Q5 Z a (λ_ a=>?_) (λ_ a=>?_))
  .exact Gc 2 Z (Qi a (Gx 1 Z (JC f a (Lr [0]))))
  refine Gc 6 Z (Bd a λq i a=>Iz i Z (Go 9 Z (Cd [] a (gY _ _) Z λs m a=>FE Z (Bd a λt j a=>(vU (Yl bK j Z Gv) ?_)))));exact Fg 7 Z Z (Qg a (Lr [0]))
 refine Gc 3 Z (vV (lL Gv Z) ?_);exact Go 1 Z (Lm Z (Gt 5 Z h 4 []))
def Md(rec45:(AA AF)->Int->AB Bool)(n:Nat)(a:AF)(d:Int):AB Bool:=(bif (a.Laps==0)then((CS n 0 d [a.Mat]).bind λh=>(bif h then some ((a.Parts.length:Int)==0)else some false):AB Bool).bind λi=>some i else((CS n 1 64 [a.Laps]).bind λe=>(bif e then(bif (a.Mat==0)then(bif 0<(a.Parts.length:Int) then(rec45 a.Parts d).bind λf=>some f else some false)else some false)else some false):AB Bool).bind λg=>some g)
theorem iW(rec45:(AA AF)->Int->AB Bool)(e:∀(f:AA AF) (g:Int) (r:Bool),rec45 f g=some r->Bk prog 87 [.rsl 3 (map AF.enc f),.fn (.func 85) [] [.ptr 0 0,.ptr 1 0]] [.cells 3 [I g],.cells 189 [.fn (.func 85) [] [.ptr 0 0,.ptr 1 0]]] (λr=>.bool r) r)(n:Nat)(f:AF)(g:Int):Ks (Md rec45 n f g) 85 [.agg (AF.c f),.ptr 0 0,.ptr 1 0] [.cells 3 [I g],.cells 189 [.fn (.func 85) [] [.ptr 0 0,.ptr 1 0]]] (λr=>.bool r):=by
 refine Kg 14 func85 Z Z Z Z λr h=>Cn Z h (λ_ h=>?_) (λ_ h=>?_)
 .refine Gc 1 Z (Bd h λj d h=>Ct j [0,1] [] (λj=>[(4,.bool j)]) Ze Zf ?_ (λenv H q=>?_))
  .refine G0 4 Z (vH (Ek (xs:=[.tmp 10]) Qs Z Z Z Z Z ⟨Z,trivial⟩ Z Z) ?_);refine FE Z (Cb d (Cq _ _ _ _) Z (ls (ls (lo ln))) λz w d=>Go 1 Z (Is 13 d Z (λ_ d=>?_) (λ_ d=>?_)))
   .exact Go 2 Z (Lm Z (Gl 4 Z d [0,1]))
   .exact Gl 7 Z d [0,1]
  exact Gx 1 Z (Qd q (QJ 2 Z h 4 [0,1]))
 refine Gc 3 Z (Bd h λi a h=>Cg i [0,1] [] (λi=>[(4,.bool i)]) Ze Zf ?_ ?_)
 .refine G0 3 Z (vH (Ek (xs:=[.tmp 20]) Qs Z Z Z Z Z ⟨Z,trivial⟩ Z Z) ?_);refine FE Z (Cb a (Cq _ _ _ _) Z (ls (ls (lo ln))) λx t a=>Go 1 Z (Is 23 a Z (λ_ a=>?_) (λ_ a=>?_)))
  .refine Go 5 Z (Is 28 a Z (λ_ a=>?_) (λ_ a=>?_))
   .refine Go 2 Z (Lg 3 Z Z (Is 34 a Z (λ_ a=>?_) (λ_ a=>?_)))
    .exact Go 3 Z (Cz [0,1] a (e _ _) Z λy u a=>Gl 3 Z a [0,1])
    .exact Gl 7 Z a [0,1]
   .exact Gl 13 Z a [0,1]
  .exact Gl 18 Z a [0,1]
 exact QJ 1 Z h 4 [0,1]
def ZC(rec45:(AA AF)->Int->AB Bool)(n:Nat)(a:AF)(d:Int):AB Bool:=(Md rec45 n a d).bind λe=>some (!e)
theorem dl(rec45:(AA AF)->Int->AB Bool)(a:∀(d:AA AF) (e:Int) (r:Bool),rec45 d e=some r->Bk prog 87 [.rsl 3 (map AF.enc d),.fn (.func 85) [] [.ptr 0 0,.ptr 1 0]] [.cells 3 [I e],.cells 189 [.fn (.func 85) [] [.ptr 0 0,.ptr 1 0]]] (λr=>.bool r) r)(n:Nat)(d:AF)(e:Int):Ks (ZC rec45 n d e) 153 [.agg (AF.c d),.ptr 0 0] [.cells 189 [.fn (.func 85) [] [.ptr 1 0,.ptr 2 0]],.cells 3 [I e],.cells 189 [.fn (.func 85) [] [.ptr 1 0,.ptr 2 0]]] (λr=>.bool r):=by
 exact Kg 10 func153 Z Z Z Z λr h=>Cz [1,2] h (iW rec45 a _ _ _) Z λg f h=>Gt 5 Z h 3 [0,1,2]
def mH(d:AA AF)(g:Int)(rec45:(AA AF)->Int->AB Bool)(a:Int):AB (AG Int (AG Unit Int)):=(bif a<(d.length:Int) then(AJ d a).bind λe=>(ZC rec45 n e g).bind λf=>(bif f then some (.d (.d a))else some (.k (i64.wrap (a+1))))else some (.d (.k ())))
def Zc(rec45:(AA AF)->Int->AB Bool)(n:Nat)(e:AA AF)(f:Int):AB Int:=(iter (mH n e f rec45) n 0:AB (AG Unit Int)).bind λd=>match d with|.k a=>(some (-1))|.d a=>some a
theorem eQ(rec45:(AA AF)->Int->AB Bool)(d:∀(e:AA AF) (f:Int) (r:Bool),rec45 e f=some r->Bk prog 87 [.rsl 3 (map AF.enc e),.fn (.func 85) [] [.ptr 0 0,.ptr 1 0]] [.cells 3 [I f],.cells 189 [.fn (.func 85) [] [.ptr 0 0,.ptr 1 0]]] (λr=>.bool r) r)(n:Nat)(e:AA AF)(f:Int):Ks (Zc rec45 n e f) 204 [.rsl 3 (map AF.enc e),.fn (.func 153) [] [.ptr 0 0]] [.cells 189 [.fn (.func 85) [] [.ptr 1 0,.ptr 2 0]],.cells 3 [I f],.cells 189 [.fn (.func 85) [] [.ptr 1 0,.ptr 2 0]]] (λr=>I r):=by
 refine Kg 9 func204 Z Z Z Z λr h=>Lg 3 Z Z (Bd h λm p h=>BZ (b:=m) [0,1,2] [] Ze Ze Zf ?_ (λ_ q=>?_))
 .refine G0 1 Z (Lp [0,1,2] [0,1,7] (λi=>[(8,I i)]) Ze p Zf (Lr [0,1,2]) λi w a g=>(G0 6 Z (Q5 Z a (λ_ a=>?_) (λ_ a=>?_))))
  .exact Gc 2 Z (Qi a (Gx 1 Z (JD g a Z (Lr [0,1,2]))))
  refine Gc 15 Z (Bd a λs k a=>CQ k (QP s) Z (Go 1 Z (Cz [0,1,2] a (dl rec45 d _ _ _) Z λx u a=>Go 2 Z (Cn Z a (λ_ a=>?_) (λ_ a=>?_)))))
  .refine Gc 9 Z (Qx a ?_);obtain rfl:=Oj g a;exact Gx 1 Z (Qq (Gx 1 Z (Rt h 4 [0,1,2])))
  exact Gc 7 Z (Qg a (Lr [0,1,2]))
 subst q;exact QJ 6 Z h 4 [0,1,2]
def ZJ(rec45:(AA AF)->Int->AB Bool)(n:Nat)(a:AA AF)(d:Int):AB Bool:=(Zc rec45 n a d).bind λe=>some (decide (0<=e))
theorem d7(rec45:(AA AF)->Int->AB Bool)(a:∀(d:AA AF) (e:Int) (r:Bool),rec45 d e=some r->Bk prog 87 [.rsl 3 (map AF.enc d),.fn (.func 85) [] [.ptr 0 0,.ptr 1 0]] [.cells 3 [I e],.cells 189 [.fn (.func 85) [] [.ptr 0 0,.ptr 1 0]]] (λr=>.bool r) r)(n:Nat)(d:AA AF)(e:Int):Ks (ZJ rec45 n d e) 152 [.rsl 3 (map AF.enc d),.fn (.func 153) [] [.ptr 0 0]] [.cells 189 [.fn (.func 85) [] [.ptr 1 0,.ptr 2 0]],.cells 3 [I e],.cells 189 [.fn (.func 85) [] [.ptr 1 0,.ptr 2 0]]] (λr=>.bool r):=by
 exact Kg 9 func152 Z Z Z Z λr h=>Cz [0,1,2] h (eQ rec45 a _ _ _) Z λg f h=>Gt 5 Z h 4 [0,1,2]
def Zz(rec45:(AA AF)->Int->AB Bool)(n:Nat)(a:AA AF)(d:Int):AB Bool:=(ZJ rec45 n a d).bind λe=>some (!e)
theorem Qc6(rec45:(AA AF)->Int->AB Bool)(a:∀(d:AA AF) (e:Int) (r:Bool),rec45 d e=some r->Bk prog 87 [.rsl 3 (map AF.enc d),.fn (.func 85) [] [.ptr 0 0,.ptr 1 0]] [.cells 3 [I e],.cells 189 [.fn (.func 85) [] [.ptr 0 0,.ptr 1 0]]] (λr=>.bool r) r)(n:Nat)(d:AA AF)(e:Int)(r:Bool)(h:Zz rec45 n d e=some r):Bk prog 87 [.rsl 3 (map AF.enc d),.fn (.func 85) [] [.ptr 0 0,.ptr 1 0]] [.cells 3 [I e],.cells 189 [.fn (.func 85) [] [.ptr 0 0,.ptr 1 0]]] (λr=>.bool r) r:=by
 exact QG func87 Z Z Z (G0 10 Z (Cz [2,0,1] h (d7 rec45 a _ _ _) Z λg f h=>Gt 5 Z h 4 [0,1]))
def HS:Nat->(AA AF)->Int->AB Bool
  |0=>λ_ _=>none
  |n+1=>Zz (HS n) n
theorem i5:∀(a:AA AF) (d:Int) (r:Bool),HS n a d=some r->Bk prog 87 [.rsl 3 (map AF.enc a),.fn (.func 85) [] [.ptr 0 0,.ptr 1 0]] [.cells 3 [I d],.cells 189 [.fn (.func 85) [] [.ptr 0 0,.ptr 1 0]]] (λr=>.bool r) r:=by
  induction n with
  |zero=>intro a d r h;cases h
  |succ n ih=>intro a d r h;exact Qc6 _ ih n a d r h
def Ms(a:AP)(e:Int):AB Bool:=((CS n 0 e [a.Mat]).bind λf=>(bif f then(bif 1<=a.Lap then(CS n 0 1099511627776 [a.Limit]).bind λd=>some d else some false)else some false):AB Bool).bind λg=>some g
theorem iq(e:AP)(f:Int):Ks (Ms n e f) 88 [.agg (AP.c e),.ptr 0 0] [.cells 3 [I f]] (λr=>.bool r):=by
 refine Kg 7 func88 Z Z Z Z λr h=>Bd h λd a h=>Cg d [0] [] (λd=>[(3,.bool d)]) Ze Zf ?_ ?_
 .refine G0 4 Z (vH (Ek (xs:=[.tmp 6]) Qs Z Z Z Z Z ⟨Z,trivial⟩ Z Z) ?_);refine FE Z (Cb a (Cq _ _ _ _) Z (ls (ls (lo ln))) λm k a=>Go 1 Z (Is 9 a Z (λ_ a=>?_) (λ_ a=>?_)))
  .refine Go 5 Z (Is 14 a Z (λ_ a=>?_) (λ_ a=>?_))
   .refine Go 2 Z (vH (Ek (xs:=[.tmp 16]) Qs Z Z Z Z Z ⟨Z,trivial⟩ Z Z) ?_ (gT Z));exact FE Z (Cb a (Cq _ _ _ _) Z (ls (ls (lo ln))) λl j a=>Gl 3 Z a [0])
   .exact Gl 7 Z a [0]
  .exact Gl 12 Z a [0]
 exact QJ 1 Z h 3 [0]
def Zp(a:AP)(d:Int):AB Bool:=(Ms n a d).bind λe=>some (!e)
theorem ew(a:AP)(d:Int):Ks (Zp n a d) 155 [.agg (AP.c a),.ptr 0 0] [.cells 194 [.fn (.func 88) [] [.ptr 1 0]],.cells 3 [I d]] (λr=>.bool r):=by
 exact Kg 10 func155 Z Z Z Z λr h=>Cz [1] h (iq _ _ _) Z λf e h=>Gt 5 Z h 3 [0,1]
def mQ(d:AA AP)(g:Int)(a:Int):AB (AG Int (AG Unit Int)):=(bif a<(d.length:Int) then(AJ d a).bind λe=>(Zp n e g).bind λf=>(bif f then some (.d (.d a))else some (.k (i64.wrap (a+1))))else some (.d (.k ())))
def SG(e:AA AP)(f:Int):AB Int:=(iter (mQ n e f) n 0:AB (AG Unit Int)).bind λd=>match d with|.k a=>(some (-1))|.d a=>some a
theorem gi(j:AA AP)(k:Int):Ks (SG n j k) 205 [.rsl 3 (map AP.c j),.fn (.func 155) [] [.ptr 0 0]] [.cells 194 [.fn (.func 88) [] [.ptr 1 0]],.cells 3 [I k]] (λr=>I r):=by
 refine Kg 9 func205 Z Z Z Z λr h=>Lg 3 Z Z (Bd h λl m h=>BZ (b:=l) [0,1] [] Ze Ze Zf ?_ (λ_ p=>?_))
 .refine G0 1 Z (Lp [0,1] [0,1,7] (λe=>[(8,I e)]) Ze m Zf (Lr [0,1]) λe t a d=>(G0 6 Z (Q5 Z a (λ_ a=>?_) (λ_ a=>?_))))
  .exact Gc 2 Z (Qi a (Gx 1 Z (JD d a Z (Lr [0,1]))))
  refine Gc 15 Z (Bd a λu g a=>Iz g Z (Go 1 Z (Cz [0,1] a (ew _ _ _) Z λw s a=>Go 2 Z (Cn Z a (λ_ a=>?_) (λ_ a=>?_)))))
  .refine Gc 9 Z (Qx a ?_);obtain rfl:=Oj d a;exact Gx 1 Z (Qq (Gx 1 Z (Rt h 4 [0,1])))
  exact Gc 7 Z (Qg a (Lr [0,1]))
 subst p;exact QJ 6 Z h 4 [0,1]
def R8(a:AA AP)(d:Int):AB Bool:=(SG n a d).bind λe=>some (decide (0<=e))
theorem gX(a:AA AP)(d:Int):Ks (R8 n a d) 154 [.rsl 3 (map AP.c a),.fn (.func 155) [] [.ptr 0 0]] [.cells 194 [.fn (.func 88) [] [.ptr 1 0]],.cells 3 [I d]] (λr=>.bool r):=by
 exact Kg 9 func154 Z Z Z Z λr h=>Cz [0,1] h (gi _ _ _) Z λf e h=>Gt 5 Z h 4 [0,1]
def L6(a:AA AP)(d:Int):AB Bool:=(R8 n a d).bind λe=>some (!e)
theorem gw(a:AA AP)(d:Int):Ks (L6 n a d) 90 [.rsl 3 (map AP.c a),.fn (.func 88) [] [.ptr 0 0]] [.cells 3 [I d]] (λr=>.bool r):=by
 exact Kg 10 func90 Z Z Z Z λr h=>Cz [1,0] h (gX _ _ _) Z λf e h=>Gt 5 Z h 4 [0]
def Mk(a:Distance)(d:Int):AB Bool:=((CS n 1 3 [a.Timing]).bind λe=>(bif e then(CS n (-1) d [a.Extra]).bind λf=>(bif f then(HS n a.Route d).bind λg=>(bif g then(L6 n a.Cutoffs d).bind λh=>some h else some false)else some false)else some false):AB Bool).bind λi=>some i
theorem ig(i:Distance)(j:Int):Ks (Mk n i j) 89 [.agg (Distance.c i),.ptr 0 0,.ptr 1 0,.ptr 2 0] [.cells 3 [I j],.cells 189 [.fn (.func 85) [] [.ptr 0 0,.ptr 1 0]],.cells 194 [.fn (.func 88) [] [.ptr 0 0]]] (λr=>.bool r):=by
 refine Kg 7 func89 Z Z Z Z λr h=>Bd h λd a h=>Cg d [0,1,2] [] (λd=>[(5,.bool d)]) Ze Zf ?_ ?_
 .refine G0 3 Z (vH (Ek (xs:=[.tmp 7]) Qs Z Z Z Z Z ⟨Z,trivial⟩ Z Z) ?_);refine FE Z (Cb a (Cq _ _ _ _) Z (ls (ls (lo ln))) λq k a=>Go 1 Z (Is 10 a Z (λ_ a=>?_) (λ_ a=>?_)))
  .refine Go 3 Z (vH (Ek (xs:=[.tmp 13]) Qs Z Z Z Z Z ⟨Z,trivial⟩ Z Z) ?_ (gT Z));refine FE Z (Cb a (Cq _ _ _ _) Z (ls (ls (lo ln))) λs l a=>Go 2 Z (Is 17 a Z (λ_ a=>?_) (λ_ a=>?_)))
   .refine Go 3 Z (Cz [0,1] a (i5 _ _ _) Z λt m a=>Go 2 Z (Is 23 a Z (λ_ a=>?_) (λ_ a=>?_)))
    .exact Go 3 Z (Cz [0] a (gw _ _ _) Z λu p a=>Gl 3 Z a [0,1,2])
    .exact Gl 7 Z a [0,1,2]
   .exact Gl 13 Z a [0,1,2]
  .exact Gl 20 Z a [0,1,2]
 exact QJ 1 Z h 5 [0,1,2]
def ZQ(a:Distance)(d:Int):AB Bool:=(Mk n a d).bind λe=>some (!e)
theorem eD(a:Distance)(d:Int):Ks (ZQ n a d) 110 [.agg (Distance.c a),.ptr 0 0] [.cells 130 [.fn (.func 89) [] [.ptr 1 0,.ptr 2 0,.ptr 3 0]],.cells 3 [I d],.cells 189 [.fn (.func 85) [] [.ptr 1 0,.ptr 2 0]],.cells 194 [.fn (.func 88) [] [.ptr 1 0]]] (λr=>.bool r):=by
 exact Kg 10 func110 Z Z Z Z λr h=>Cz [1,2,3] h (ig _ _ _) Z λf e h=>Gt 5 Z h 3 [0,1,2,3]
def mV(d:AA Distance)(g:Int)(a:Int):AB (AG Int (AG Unit Int)):=(bif a<(d.length:Int) then(AJ d a).bind λe=>(ZQ n e g).bind λf=>(bif f then some (.d (.d a))else some (.k (i64.wrap (a+1))))else some (.d (.k ())))
def P3(e:AA Distance)(f:Int):AB Int:=(iter (mV n e f) n 0:AB (AG Unit Int)).bind λd=>match d with|.k a=>(some (-1))|.d a=>some a
theorem fE(j:AA Distance)(k:Int):Ks (P3 n j k) 171 [.rsl 5 (map Distance.c j),.fn (.func 110) [] [.ptr 0 0]] [.cells 130 [.fn (.func 89) [] [.ptr 1 0,.ptr 2 0,.ptr 3 0]],.cells 3 [I k],.cells 189 [.fn (.func 85) [] [.ptr 1 0,.ptr 2 0]],.cells 194 [.fn (.func 88) [] [.ptr 1 0]]] (λr=>I r):=by
 refine Kg 9 func171 Z Z Z Z λr h=>Lg 3 Z Z (Bd h λl m h=>BZ (b:=l) [0,1,2,3] [] Ze Ze Zf ?_ (λ_ p=>?_))
 .refine G0 1 Z (Lp [0,1,2,3] [0,1,7] (λe=>[(8,I e)]) Ze m Zf (Lr [0,1,2,3]) λe t a d=>(G0 6 Z (Q5 Z a (λ_ a=>?_) (λ_ a=>?_))))
  .exact Gc 2 Z (Qi a (Gx 1 Z (JD d a Z (Lr [0,1,2,3]))))
  refine Gc 15 Z (Bd a λu g a=>Iz g Z (Go 1 Z (Cz [0,1,2,3] a (eD _ _ _) Z λw s a=>Go 2 Z (Cn Z a (λ_ a=>?_) (λ_ a=>?_)))))
  .refine Gc 9 Z (Qx a ?_);obtain rfl:=Oj d a;exact Gx 1 Z (Qq (Gx 1 Z (Rt h 4 [0,1,2,3])))
  exact Gc 7 Z (Qg a (Lr [0,1,2,3]))
 subst p;exact QJ 6 Z h 4 [0,1,2,3]
def RK(a:AA Distance)(d:Int):AB Bool:=(P3 n a d).bind λe=>some (decide (0<=e))
theorem fX(a:AA Distance)(d:Int):Ks (RK n a d) 109 [.rsl 5 (map Distance.c a),.fn (.func 110) [] [.ptr 0 0]] [.cells 130 [.fn (.func 89) [] [.ptr 1 0,.ptr 2 0,.ptr 3 0]],.cells 3 [I d],.cells 189 [.fn (.func 85) [] [.ptr 1 0,.ptr 2 0]],.cells 194 [.fn (.func 88) [] [.ptr 1 0]]] (λr=>.bool r):=by
 exact Kg 9 func109 Z Z Z Z λr h=>Cz [0,1,2,3] h (fE _ _ _) Z λf e h=>Gt 5 Z h 4 [0,1,2,3]
def MU(a:AA Distance)(d:Int):AB Bool:=(RK n a d).bind λe=>some (!e)
theorem iN(a:AA Distance)(d:Int):Ks (MU n a d) 41 [.rsl 5 (map Distance.c a),.fn (.func 89) [] [.ptr 0 0,.ptr 1 0,.ptr 2 0]] [.cells 3 [I d],.cells 189 [.fn (.func 85) [] [.ptr 0 0,.ptr 1 0]],.cells 194 [.fn (.func 88) [] [.ptr 0 0]]] (λr=>.bool r):=by
 exact Kg 10 func41 Z Z Z Z λr h=>Cz [3,0,1,2] h (fX _ _ _) Z λf e h=>Gt 5 Z h 4 [0,1,2]
def L1(a:Wave):AB Bool:=(CS n 0 1099511627776 [a.Gun]).bind λd=>some d
theorem gq(a:Wave):Ks (L1 n a) 100 [.agg (Wave.c a)] [] (λr=>.bool r):=by
 refine Kg 10 func100 Z Z Z Z λr h=>vH (Ek (xs:=[.tmp 4]) Qs Z Z Z Z Z ⟨Z,trivial⟩ Z Z) ?_;exact FE Z (Cb h (Cq _ _ _ _) Z (ls (ls (lo ln))) λe d h=>Gt 4 Z h 2 [])
def Zn(a:Wave):AB Bool:=(L1 n a).bind λd=>some (!d)
theorem ec(a:Wave):Ks (Zn n a) 161 [.agg (Wave.c a),.ptr 0 0] [.cells 207 [.fn (.func 100) [] []]] (λr=>.bool r):=by
 exact Kg 10 func161 Z Z Z Z λr h=>Cz [] h (gq _ _) Z λe d h=>Gt 5 Z h 3 [0]
def mE(d:AA Wave)(a:Int):AB (AG Int (AG Unit Int)):=(bif a<(d.length:Int) then(AJ d a).bind λe=>(Zn n e).bind λf=>(bif f then some (.d (.d a))else some (.k (i64.wrap (a+1))))else some (.d (.k ())))
def Ro(e:AA Wave):AB Int:=(iter (mE n e) n 0:AB (AG Unit Int)).bind λd=>match d with|.k a=>(some (-1))|.d a=>some a
theorem gG(j:AA Wave):Ks (Ro n j) 208 [.rsl 2 (map Wave.c j),.fn (.func 161) [] [.ptr 0 0]] [.cells 207 [.fn (.func 100) [] []]] (λr=>I r):=by
 refine Kg 9 func208 Z Z Z Z λr h=>Lg 3 Z Z (Bd h λk l h=>BZ (b:=k) [0] [] Ze Ze Zf ?_ (λ_ m=>?_))
 .refine G0 1 Z (Lp [0] [0,1,7] (λe=>[(8,I e)]) Ze l Zf (Lr [0]) λe s a d=>(G0 6 Z (Q5 Z a (λ_ a=>?_) (λ_ a=>?_))))
  .exact Gc 2 Z (Qi a (Gx 1 Z (JD d a Z (Lr [0]))))
  refine Gc 15 Z (Bd a λt g a=>Iz g Z (Go 1 Z (Cz [0] a (ec _ _) Z λu q a=>Go 2 Z (Cn Z a (λ_ a=>?_) (λ_ a=>?_)))))
  .refine Gc 9 Z (Qx a ?_);obtain rfl:=Oj d a;exact Gx 1 Z (Qq (Gx 1 Z (Rt h 4 [0])))
  exact Gc 7 Z (Qg a (Lr [0]))
 subst m;exact QJ 6 Z h 4 [0]
def Rf(a:AA Wave):AB Bool:=(Ro n a).bind λd=>some (decide (0<=d))
theorem f7(a:AA Wave):Ks (Rf n a) 160 [.rsl 2 (map Wave.c a),.fn (.func 161) [] [.ptr 0 0]] [.cells 207 [.fn (.func 100) [] []]] (λr=>.bool r):=by
 exact Kg 9 func160 Z Z Z Z λr h=>Cz [0] h (gG _ _) Z λe d h=>Gt 5 Z h 4 [0]
def Lw(a:AA Wave):AB Bool:=(Rf n a).bind λd=>some (!d)
theorem gl(a:AA Wave):Ks (Lw n a) 99 [.rsl 2 (map Wave.c a),.fn (.func 100) [] []] [] (λr=>.bool r):=by
 exact Kg 10 func99 Z Z Z Z λr h=>Cz [0] h (f7 _ _) Z λe d h=>Gt 5 Z h 4 []
def Mo(a:Offence):AB Bool:=(bif a.Out then((bif (a.Time==0)then some (a.Laps==0)else some false):AB Bool).bind λf=>some f else(bif (a.Laps != 0)then((bif (a.Time==0)then(CS n 1 64 [a.Laps]).bind λd=>some d else some false):AB Bool).bind λg=>some g else(CS n 0 68719476736 [a.Time]).bind λe=>some e))
theorem il(i:Offence):Ks (Mo n i) 92 [.agg (Offence.c i)] [] (λr=>.bool r):=by
 refine Kg 15 func92 Z Z Z Z λr h=>Cn Z h (λ_ h=>?_) (λ_ h=>?_)
 .refine Gc 1 Z (Bd h λe d h=>Ct e [] [] (λe=>[(2,.bool e)]) Ze Zf ?_ (λenv H k=>?_))
  .refine G0 5 Z (Is 9 d Z (λ_ d=>?_) (λ_ d=>?_))
   iterate 2 exact Gl 6 Z d []
  exact Gx 1 Z (Qd k (QJ 3 Z h 2 []))
 refine Gc 8 Z (Cn Z h (λ_ h=>?_) (λ_ h=>?_))
 .refine Gc 1 Z (Bd h λf a h=>Cg f [] [] (λf=>[(2,.bool f)]) Ze Zf ?_ ?_)
  .refine G0 5 Z (Is 21 a Z (λ_ a=>?_) (λ_ a=>?_))
   .refine Go 2 Z (vH (Ek (xs:=[.tmp 23]) Qs Z Z Z Z Z ⟨Z,trivial⟩ Z Z) ?_ (gT Z));exact FE Z (Cb a (Cq _ _ _ _) Z (ls (ls (lo ln))) λs p a=>Gl 3 Z a [])
   .exact Gl 7 Z a []
  exact QJ 3 Z h 2 []
 refine Gc 7 Z (vH (Ek (xs:=[.tmp 28]) Qs Z Z Z Z Z ⟨Z,trivial⟩ Z Z) ?_);exact FE Z (Cb h (Cq _ _ _ _) Z (ls (ls (lo ln))) λt q h=>Gt 4 Z h 2 [])
def Zl(a:Offence):AB Bool:=(Mo n a).bind λd=>some (!d)
theorem eY(a:Offence):Ks (Zl n a) 163 [.agg (Offence.c a),.ptr 0 0] [.cells 197 [.fn (.func 92) [] []]] (λr=>.bool r):=by
 exact Kg 10 func163 Z Z Z Z λr h=>Cz [] h (il _ _) Z λe d h=>Gt 5 Z h 3 [0]
def mS(d:AA Offence)(a:Int):AB (AG Int (AG Unit Int)):=(bif a<(d.length:Int) then(AJ d a).bind λe=>(Zl n e).bind λf=>(bif f then some (.d (.d a))else some (.k (i64.wrap (a+1))))else some (.d (.k ())))
def P6(e:AA Offence):AB Int:=(iter (mS n e) n 0:AB (AG Unit Int)).bind λd=>match d with|.k a=>(some (-1))|.d a=>some a
theorem fH(j:AA Offence):Ks (P6 n j) 209 [.rsl 4 (map Offence.c j),.fn (.func 163) [] [.ptr 0 0]] [.cells 197 [.fn (.func 92) [] []]] (λr=>I r):=by
 refine Kg 9 func209 Z Z Z Z λr h=>Lg 3 Z Z (Bd h λk l h=>BZ (b:=k) [0] [] Ze Ze Zf ?_ (λ_ m=>?_))
 .refine G0 1 Z (Lp [0] [0,1,7] (λe=>[(8,I e)]) Ze l Zf (Lr [0]) λe s a d=>(G0 6 Z (Q5 Z a (λ_ a=>?_) (λ_ a=>?_))))
  .exact Gc 2 Z (Qi a (Gx 1 Z (JD d a Z (Lr [0]))))
  refine Gc 15 Z (Bd a λt g a=>Iz g Z (Go 1 Z (Cz [0] a (eY _ _) Z λu q a=>Go 2 Z (Cn Z a (λ_ a=>?_) (λ_ a=>?_)))))
  .refine Gc 9 Z (Qx a ?_);obtain rfl:=Oj d a;exact Gx 1 Z (Qq (Gx 1 Z (Rt h 4 [0])))
  exact Gc 7 Z (Qg a (Lr [0]))
 subst m;exact QJ 6 Z h 4 [0]
def Ry(a:AA Offence):AB Bool:=(P6 n a).bind λd=>some (decide (0<=d))
theorem gO(a:AA Offence):Ks (Ry n a) 162 [.rsl 4 (map Offence.c a),.fn (.func 163) [] [.ptr 0 0]] [.cells 197 [.fn (.func 92) [] []]] (λr=>.bool r):=by
 exact Kg 9 func162 Z Z Z Z λr h=>Cz [0] h (fH _ _) Z λe d h=>Gt 5 Z h 4 [0]
def Mh(a:AA Offence):AB Bool:=(Ry n a).bind λd=>some (!d)
theorem ib(a:AA Offence):Ks (Mh n a) 101 [.rsl 4 (map Offence.c a),.fn (.func 92) [] []] [] (λr=>.bool r):=by
 exact Kg 10 func101 Z Z Z Z λr h=>Cz [0] h (gO _ _) Z λe d h=>Gt 5 Z h 4 []
def ML(a:Category):AB Bool:=((CS n 0 120 [a.From,a.To]).bind λd=>(bif d then some (decide (a.From<=a.To))else some false):AB Bool).bind λe=>some e
theorem iF(e:Category):Ks (ML n e) 103 [.agg (Category.c e)] [] (λr=>.bool r):=by
 refine Kg 7 func103 Z Z Z Z λr h=>Bd h λd a h=>Cg d [] [] (λd=>[(2,.bool d)]) Ze Zf ?_ ?_
 .refine G0 5 Z (vH (Ek (xs:=[.tmp 4,.tmp 6]) Qs Z Z Z Z Z ⟨Z,Z,trivial⟩ Z Z) ?_);refine FE Z (Cb a (Cq _ _ _ _) Z (ls (ls (lo ln))) λi g a=>Go 1 Z (Is 9 a Z (λ_ a=>?_) (λ_ a=>?_)))
  iterate 2 exact Gl 8 Z a []
 exact QJ 1 Z h 2 []
def ZN(a:Category):AB Bool:=(ML n a).bind λd=>some (!d)
theorem d_(a:Category):Ks (ZN n a) 165 [.agg (Category.c a),.ptr 0 0] [.cells 210 [.fn (.func 103) [] []]] (λr=>.bool r):=by
 exact Kg 10 func165 Z Z Z Z λr h=>Cz [] h (iF _ _) Z λe d h=>Gt 5 Z h 3 [0]
def ma(d:AA Category)(a:Int):AB (AG Int (AG Unit Int)):=(bif a<(d.length:Int) then(AJ d a).bind λe=>(ZN n e).bind λf=>(bif f then some (.d (.d a))else some (.k (i64.wrap (a+1))))else some (.d (.k ())))
def RW(e:AA Category):AB Int:=(iter (ma n e) n 0:AB (AG Unit Int)).bind λd=>match d with|.k a=>(some (-1))|.d a=>some a
theorem fq(j:AA Category):Ks (RW n j) 210 [.rsl 3 (map Category.c j),.fn (.func 165) [] [.ptr 0 0]] [.cells 210 [.fn (.func 103) [] []]] (λr=>I r):=by
 refine Kg 9 func210 Z Z Z Z λr h=>Lg 3 Z Z (Bd h λk l h=>BZ (b:=k) [0] [] Ze Ze Zf ?_ (λ_ m=>?_))
 .refine G0 1 Z (Lp [0] [0,1,7] (λe=>[(8,I e)]) Ze l Zf (Lr [0]) λe s a d=>(G0 6 Z (Q5 Z a (λ_ a=>?_) (λ_ a=>?_))))
  .exact Gc 2 Z (Qi a (Gx 1 Z (JD d a Z (Lr [0]))))
  refine Gc 15 Z (Bd a λt g a=>Iz g Z (Go 1 Z (Cz [0] a (d_ _ _) Z λu q a=>Go 2 Z (Cn Z a (λ_ a=>?_) (λ_ a=>?_)))))
  .refine Gc 9 Z (Qx a ?_);obtain rfl:=Oj d a;exact Gx 1 Z (Qq (Gx 1 Z (Rt h 4 [0])))
  exact Gc 7 Z (Qg a (Lr [0]))
 subst m;exact QJ 6 Z h 4 [0]
def Ri(a:AA Category):AB Bool:=(RW n a).bind λd=>some (decide (0<=d))
theorem f_(a:AA Category):Ks (Ri n a) 164 [.rsl 3 (map Category.c a),.fn (.func 165) [] [.ptr 0 0]] [.cells 210 [.fn (.func 103) [] []]] (λr=>.bool r):=by
 exact Kg 9 func164 Z Z Z Z λr h=>Cz [0] h (fq _ _) Z λe d h=>Gt 5 Z h 4 [0]
def ME(a:AA Category):AB Bool:=(Ri n a).bind λd=>some (!d)
theorem hY(a:AA Category):Ks (ME n a) 102 [.rsl 3 (map Category.c a),.fn (.func 103) [] []] [] (λr=>.bool r):=by
 exact Kg 10 func102 Z Z Z Z λr h=>Cz [0] h (f_ _ _) Z λe d h=>Gt 5 Z h 4 []
def Mq(a:AW)(d:AE):AB Bool:=((CS n 0 (i64.wrap ((d.Distances.length:Int)-1)) [a.Distance]).bind λe=>(bif e then(CS n (-1) (i64.wrap ((d.Categories.length:Int)-1)) [a.Category]).bind λf=>(bif f then(CS n 1 4000 [a.Rank]).bind λg=>(bif g then(CS n 1 1125899906842624 [a.Amount]).bind λh=>some h else some false)else some false)else some false):AB Bool).bind λi=>some i
theorem io(i:AW)(j:AE):Ks (Mq n i j) 93 [.agg (AW.c i),.ptr 0 0] [.cells 33 (AE.c j)] (λr=>.bool r):=by
 refine Kg 7 func93 Z Z Z Z λr h=>Bd h λd a h=>Cg d [0] [] (λd=>[(3,.bool d)]) Ze Zf ?_ ?_
 .refine G0 3 Z (Lg 3 Z Z (vH (Ek (xs:=[.tmp 9]) Qs Z Z Z Z Z ⟨Z,trivial⟩ Z Z) ?_));refine FE Z (Cb a (Cq _ _ _ _) Z (ls (ls (lo ln))) λq k a=>Go 1 Z (Is 12 a Z (λ_ a=>?_) (λ_ a=>?_)))
  .refine Go 2 Z (Lg 3 Z Z (vH (Ek (xs:=[.tmp 18]) Qs Z Z Z Z Z ⟨Z,trivial⟩ Z Z) ?_ (gT Z)));refine FE Z (Cb a (Cq _ _ _ _) Z (ls (ls (lo ln))) λs l a=>Go 2 Z (Is 22 a Z (λ_ a=>?_) (λ_ a=>?_)))
   .refine Go 2 Z (vH (Ek (xs:=[.tmp 24]) Qs Z Z Z Z Z ⟨Z,trivial⟩ Z Z) ?_ (gT Z));refine FE Z (Cb a (Cq _ _ _ _) Z (ls (ls (lo ln))) λt m a=>Go 2 Z (Is 28 a Z (λ_ a=>?_) (λ_ a=>?_)))
    .refine Go 2 Z (vH (Ek (xs:=[.tmp 30]) Qs Z Z Z Z Z ⟨Z,trivial⟩ Z Z) ?_ (gT Z));exact FE Z (Cb a (Cq _ _ _ _) Z (ls (ls (lo ln))) λu p a=>Gl 3 Z a [0])
    .exact Gl 7 Z a [0]
   .exact Gl 13 Z a [0]
  .exact Gl 23 Z a [0]
 exact QJ 1 Z h 3 [0]
def ZS(a:AW)(d:AE):AB Bool:=(Mq n a d).bind λe=>some (!e)
theorem eE(a:AW)(d:AE):Ks (ZS n a d) 167 [.agg (AW.c a),.ptr 0 0] [.cells 200 [.fn (.func 93) [] [.ptr 1 0]],.cells 33 (AE.c d)] (λr=>.bool r):=by
 exact Kg 10 func167 Z Z Z Z λr h=>Cz [1] h (io _ _ _) Z λf e h=>Gt 5 Z h 3 [0,1]
def l9(d:AA AW)(g:AE)(a:Int):AB (AG Int (AG Unit Int)):=(bif a<(d.length:Int) then(AJ d a).bind λe=>(ZS n e g).bind λf=>(bif f then some (.d (.d a))else some (.k (i64.wrap (a+1))))else some (.d (.k ())))
def RY(e:AA AW)(f:AE):AB Int:=(iter (l9 n e f) n 0:AB (AG Unit Int)).bind λd=>match d with|.k a=>(some (-1))|.d a=>some a
theorem fv(j:AA AW)(k:AE):Ks (RY n j k) 211 [.rsl 4 (map AW.c j),.fn (.func 167) [] [.ptr 0 0]] [.cells 200 [.fn (.func 93) [] [.ptr 1 0]],.cells 33 (AE.c k)] (λr=>I r):=by
 refine Kg 9 func211 Z Z Z Z λr h=>Lg 3 Z Z (Bd h λl m h=>BZ (b:=l) [0,1] [] Ze Ze Zf ?_ (λ_ p=>?_))
 .refine G0 1 Z (Lp [0,1] [0,1,7] (λe=>[(8,I e)]) Ze m Zf (Lr [0,1]) λe t a d=>(G0 6 Z (Q5 Z a (λ_ a=>?_) (λ_ a=>?_))))
  .exact Gc 2 Z (Qi a (Gx 1 Z (JD d a Z (Lr [0,1]))))
  refine Gc 15 Z (Bd a λu g a=>Iz g Z (Go 1 Z (Cz [0,1] a (eE _ _ _) Z λw s a=>Go 2 Z (Cn Z a (λ_ a=>?_) (λ_ a=>?_)))))
  .refine Gc 9 Z (Qx a ?_);obtain rfl:=Oj d a;exact Gx 1 Z (Qq (Gx 1 Z (Rt h 4 [0,1])))
  exact Gc 7 Z (Qg a (Lr [0,1]))
 subst p;exact QJ 6 Z h 4 [0,1]
def R5(a:AA AW)(d:AE):AB Bool:=(RY n a d).bind λe=>some (decide (0<=e))
theorem gU(a:AA AW)(d:AE):Ks (R5 n a d) 166 [.rsl 4 (map AW.c a),.fn (.func 167) [] [.ptr 0 0]] [.cells 200 [.fn (.func 93) [] [.ptr 1 0]],.cells 33 (AE.c d)] (λr=>.bool r):=by
 exact Kg 9 func166 Z Z Z Z λr h=>Cz [0,1] h (fv _ _ _) Z λf e h=>Gt 5 Z h 4 [0,1]
def MP(a:AA AW)(d:AE):AB Bool:=(R5 n a d).bind λe=>some (!e)
theorem iI(a:AA AW)(d:AE):Ks (MP n a d) 104 [.rsl 4 (map AW.c a),.fn (.func 93) [] [.ptr 0 0]] [.cells 33 (AE.c d)] (λr=>.bool r):=by
 exact Kg 10 func104 Z Z Z Z λr h=>Cz [1,0] h (gU _ _ _) Z λf e h=>Gt 5 Z h 4 [0]
def SD(n:Nat)(a:AW):AB Unit:=some ()
theorem gf(a:AW):Kq (SD n a) 106 [.agg (AW.c a)] [] (λ_=>.agg [I a.Distance,I a.Category,I a.Rank]) (λ_=>[.cells 214 [I a.Distance,I a.Category,I a.Rank]]):=by
 refine Kg 19 func106 Z Z Z Z λr h=>?_;exact Rx [1] [2] Z (Yk Z (Qk isAgg214 sizeOf214 Z Z Z)) ⟨Z,Z⟩
def PM(e:AA AW)(a:(AA (Uj×Bool))×Int):AB (AG ((AA (Uj×Bool))×Int) (AA (Uj×Bool))):=(bif a.2<(e.length:Int) then(AJ e a.2).bind λd=>(SD n d).bind λg=>(some (QR a.1 ({distance:=d.Distance,category:=d.Category,rank:=d.Rank:Uj}) true)).bind λf=>some (.k (f,i64.wrap (a.2+1)))else some (.d a.1))
def R4(a:AA AW):AB Bool:=(iter (PM n a) n ([],0):AB (AA (Uj×Bool))).bind λd=>some ((d.length:Int)==(a.length:Int))
theorem gS(k:AA AW):Ks (R4 n k) 105 [.rsl 4 (map AW.c k),.fn (.func 106) [] []] [] (λr=>.bool r):=by
 refine Kg 7 func105 Z Z Z Z λr h=>vH Yn ?_;refine Fg 7 Z Z (Lg 3 Z Z (Bd h λe l h=>Cg e [0] [0,5] Ze (λe=>[(0,.map (Qt (λx=>A.agg (Uj.c x)) A.bool e))]) Zf ?_ ?_))
 .refine G0 1 Z (Lp [0] [0,1,5,9,10] (λd=>[(11,I d.2)]) (λd=>[(0,.map (Qt (λx=>A.agg (Uj.c x)) A.bool d.1))]) l Zf (Lr [0]) λd p a f=>?_);refine G0 6 Z (Q5 Z a (λ_ a=>?_) (λ_ a=>?_))
  .exact Gc 2 Z (Qi a (Gx 1 Z (JC f a (Lr [0]))))
  refine Gc 6 Z (Bd a λq i a=>Iz i Z (Go 9 Z (Cd [] a (gf _ _) Z λs m a=>FE Z (Bd a λt j a=>(vU (Yl va j Z underlying256) ?_)))));exact Fg 7 Z Z (Qg a (Lr [0]))
 refine Gc 3 Z (vV (lL underlying256 Z) ?_);exact Go 1 Z (Lm Z (Gt 5 Z h 4 []))
def MG(a:AE):AB Bool:=((Lz n a.Mats).bind λd=>(bif d then(L5 n a.Legs (i64.wrap ((a.Mats.length:Int)-1))).bind λe=>(bif e then(R6 n a.Legs).bind λf=>(bif f then(MU n a.Distances (i64.wrap ((a.Mats.length:Int)-1))).bind λg=>(bif g then(Lw n a.Waves).bind λh=>(bif h then(Mh n a.Offences).bind λi=>(bif i then(ME n a.Categories).bind λj=>(bif j then(MP n a.Prizes a).bind λk=>(bif k then(R4 n a.Prizes).bind λl=>(bif l then(CS n 0 16 [a.Faults.Misses,a.Faults.Strays]).bind λm=>(bif m then(CS n 0 4294967296 [a.Faults.Window,a.Faults.Residual]).bind λp=>(bif p then(CS n 0 100000 [a.Faults.Drift]).bind λq=>(bif q then(CS n 0 1125899906842624 [a.Fee]).bind λr=>(bif r then(CS n 0 1099511627776 [a.Deadline]).bind λs=>some s else some false)else some false)else some false)else some false)else some false)else some false)else some false)else some false)else some false)else some false)else some false)else some false)else some false):AB Bool).bind λt=>some t
theorem iA(d:AE):Ks (MG n d) 39 [.agg (AE.c d)] [] (λr=>.bool r):=by
 refine Kg 10 func39 Z Z Z Z λr h=>Lg 55 Z Z (Bd h λe a h=>Cg e [] [] (λe=>[(2,.bool e)]) Ze Zf ?_ ?_)
 .refine G0 3 Z (Cz [] a (gn _ _) Z λQ x a=>Go 1 Z (Is 25 a Z (λ_ a=>?_) (λ_ a=>?_)))
  .refine Go 3 Z (Cd [1] a (gv _ _ _) Z λR y a=>Fg 2 Z Z (Is 31 a Z (λ_ a=>?_) (λ_ a=>?_)))
   .refine Go 2 Z (Cz [] a (gV _ _) Z λT z a=>Go 2 Z (Is 36 a Z (λ_ a=>?_) (λ_ a=>?_)))
    .refine Go 3 Z (Cz [1,2,3] a (iN _ _ _) Z λV B a=>Go 2 Z (Is 42 a Z (λ_ a=>?_) (λ_ a=>?_)))
     .refine Go 2 Z (Cz [] a (gl _ _) Z λW E a=>Go 2 Z (Is 47 a Z (λ_ a=>?_) (λ_ a=>?_)))
      .refine Go 3 Z (Cz [] a (ib _ _) Z λX F a=>Go 2 Z (Is 53 a Z (λ_ a=>?_) (λ_ a=>?_)))
       .refine Go 2 Z (Cz [] a (hY _ _) Z λY G a=>Go 2 Z (Is 58 a Z (λ_ a=>?_) (λ_ a=>?_)))
        .refine Go 3 Z (Cz [0] a (iI _ _ _) Z λaa H a=>Go 2 Z (Is 64 a Z (λ_ a=>?_) (λ_ a=>?_)))
         .refine Go 2 Z (Cz [] a (gS _ _) Z λab J a=>Go 2 Z (Is 69 a Z (λ_ a=>?_) (λ_ a=>?_)))
          .refine Go 4 Z (vH (Ek (xs:=[.tmp 71,.tmp 73]) (es:=map (Qc .i64) [d.Faults.Misses,d.Faults.Strays]) Qs Z Z Z Z Z ⟨Z,Z,trivial⟩ Z Z) ?_ (gT Z));refine FE Z (Cb a (Cq _ _ _ _) Z (ls (ls (lo ln))) λac L a=>Go 2 Z (Is 77 a Z (λ_ a=>?_) (λ_ a=>?_)))
           .refine Go 4 Z (vH (Ek (xs:=[.tmp 79,.tmp 81]) (es:=map (Qc .i64) [d.Faults.Window,d.Faults.Residual]) Qs Z Z Z Z Z ⟨Z,Z,trivial⟩ Z Z) ?_ (gT Z));refine FE Z (Cb a (Cq _ _ _ _) Z (ls (ls (lo ln))) λae M a=>Go 2 Z (Is 85 a Z (λ_ a=>?_) (λ_ a=>?_)))
            .refine Go 2 Z (vH (Ek (xs:=[.tmp 87]) (es:=map (Qc .i64) [d.Faults.Drift]) Qs Z Z Z Z Z ⟨Z,trivial⟩ Z Z) ?_ (gT Z));refine FE Z (Cb a (Cq _ _ _ _) Z (ls (ls (lo ln))) λaf N a=>Go 2 Z (Is 91 a Z (λ_ a=>?_) (λ_ a=>?_)))
             .refine Go 2 Z (vH (Ek (xs:=[.tmp 93]) (es:=map (Qc .i64) [d.Fee]) Qs Z Z Z Z Z ⟨Z,trivial⟩ Z Z) ?_ (gT Z));refine FE Z (Cb a (Cq _ _ _ _) Z (ls (ls (lo ln))) λag O a=>Go 2 Z (Is 97 a Z (λ_ a=>?_) (λ_ a=>?_)))
              .refine Go 2 Z (vH (Ek (xs:=[.tmp 99]) (es:=map (Qc .i64) [d.Deadline]) Qs Z Z Z Z Z ⟨Z,trivial⟩ Z Z) ?_ (gT Z));exact FE Z (Cb a (Cq _ _ _ _) Z (ls (ls (lo ln))) λah P a=>Gl 3 Z a [])
              .exact Gl 7 Z a []
             .exact Gl 13 Z a []
            .exact Gl 19 Z a []
           .exact Gl 27 Z a []
          .exact Gl 35 Z a []
         .exact Gl 40 Z a []
        .exact Gl 46 Z a []
       .exact Gl 51 Z a []
      .exact Gl 57 Z a []
     .exact Gl 62 Z a []
    .exact Gl 68 Z a []
   .exact Gl 73 Z a []
  .exact Gl 79 Z a []
 exact QJ 1 Z h 2 []
def l8(n:Nat)(d:AA Step)(a:(AA Ui)×Int):AB (AG ((AA Ui)×Int) (AA Ui)):=(bif a.2<(d.length:Int) then(AJ d a.2).bind λe=>(app a.1 [Ui.ctyping_step ({Step:=e:Uk})]).bind λf=>some (.k (f,i64.wrap (a.2+1)))else some (.d a.1))
def J9(a:AA Step):AB (AA Ui):=(iter (l8 n a) n ([],0):AB (AA Ui)).bind λd=>some d
theorem N5(m:AA Step):Kq (J9 n m) 108 [.rsl 8 (map Step.enc m)] [] (λr=>.osl 0 0 r.length 1) (λr=>[.row 263 1 (map Ui.enc r)]):=by
 refine Kg 9 func108 Z Z Z Z λr h=>Lg 3 Z Z (Bd h λf q h=>Cg f [0] [] (λf=>[(2,.osl 0 0 f.length 1)]) (λf=>[(0,.row 263 1 (map Ui.enc f))]) Zf ?_ ?_)
 .refine G0 1 Z (Lp [0] [5,6] (λd=>[(2,.osl 0 0 d.1.length 1),(7,I d.2)]) (λd=>[(0,.row 263 1 (map Ui.enc d.1))]) q Zf ?_ ?_)
  .exact En (Ep (s:=2) (XP Z) Z) (Lr [0])
  intro d t a g;refine G0 6 Z (Q5 Z a (λ_ a=>?_) (λ_ a=>?_))
  .exact Gc 2 Z (Qi a (Gx 1 Z (JC g a (Lr [0]))))
  refine Gc 6 Z (Bd a λp k a=>CQ k (YX p) Z (Go 9 Z ?_));refine vV (W4 Z Gy (by nofun) Z) (vH (Ek (xs:=[.tmp 14]) O2 Z Z Z Z Z ⟨Z,trivial⟩ Z Z) ?_);refine FE Z (Bd a λu l a=>vH (Qh (e:=Ui.enc) l O2 Gf (QF (i:=2))) ?_);exact Fg 8 Z Z (Qg a (Lr [3]))
 exact QJ 7 Z h 2 [0]
def HM(n:Nat)(a:Uf):AB Bool:=((bif (a.Cond.Kind==0)then(bif (a.Cond.Var==0)then(bif (a.Cond.N==0)then some ((a.Cond.Parts.length:Int)==0)else some false)else some false)else some false):AB Bool).bind λd=>some d
theorem N6(e:Uf):Ks (HM n e) 212 [.agg (Uf.c ({Cond:=e.Cond:Uf}))] [] (λr=>.bool r):=by
 refine Kg 7 func212 Z Z Z Z λr h=>Bd h λd a h=>Cg d [] [] (λd=>[(2,.bool d)]) Ze Zf ?_ ?_
 .refine G0 6 Z (Is 7 a Z (λ_ a=>?_) (λ_ a=>?_))
  .refine Go 6 Z (Is 13 a Z (λ_ a=>?_) (λ_ a=>?_))
   .refine Go 6 Z (Is 19 a Z (λ_ a=>?_) (λ_ a=>?_))
    .exact Go 3 Z (Lm Z (Gl 4 Z a []))
    .exact Gl 8 Z a []
   .exact Gl 14 Z a []
  .exact Gl 20 Z a []
 exact QJ 1 Z h 2 []
def HP(a:Uk):AB (AA Ui):=(J9 n a.Step.Then).bind λd=>(J9 n a.Step.Else).bind λe=>(app d e).bind λf=>some f
theorem Kk(a:Uk):Kq (HP n a) 263 [.agg (Uk.c a)] [] (λr=>.osl 0 0 r.length 1) (λr=>[.row 263 1 (map Ui.enc r)]):=by
 refine Kg 7 func263 Z Z Z Z λr h=>F8 7 3 [0,0,0,1,3,3,3] (by kernel_rfl) (Da 3 Z ?_);obtain⟨d,e,h⟩:=YE h;refine DA.op (x:=.osl 1 0 d.length 1) (H1:=[.cells 266 (Uk.c a),.row 263 1 (map Ui.enc d)]) ?_ ?_
 .refine QC [] (Bh.fn call108 Z Z Z) (N5 _ _ _ e) ?_;rintro _ _ ⟨rfl,rfl⟩;exact FE Z Wp
 refine Db 2 Z ?_;refine DB.wo2 (Ld isAgg29 Z Wp) (Ld isAgg29 Z Wp) (DB.done Z (Cd [] h (N5 _ _) Z λj g h=>FE Z (Bd h λk f h=>vH (Qh f O2 Gf (QF (i:=2))) ?_)));exact FE Z (Gt 4 Z h 2 [3])
def mZ(n:Nat)(d:AA Cond)(a:(AA Ui)×Int):AB (AG ((AA Ui)×Int) (AA Ui)):=(bif a.2<(d.length:Int) then(AJ d a.2).bind λe=>(app a.1 [Ui.ctyping_cond ({Cond:=e:Uf})]).bind λf=>some (.k (f,i64.wrap (a.2+1)))else some (.d a.1))
def P4(a:AA Cond):AB (AA Ui):=(iter (mZ n a) n ([],0):AB (AA Ui)).bind λd=>some d
theorem fF(m:AA Cond):Kq (P4 n m) 283 [.rsl 4 (map Cond.enc m)] [] (λr=>.osl 0 0 r.length 1) (λr=>[.row 263 1 (map Ui.enc r)]):=by
 refine Kg 9 func283 Z Z Z Z λr h=>Lg 3 Z Z (Bd h λf q h=>Cg f [0] [] (λf=>[(2,.osl 0 0 f.length 1)]) (λf=>[(0,.row 263 1 (map Ui.enc f))]) Zf ?_ ?_)
 .refine G0 1 Z (Lp [0] [5,6] (λd=>[(2,.osl 0 0 d.1.length 1),(7,I d.2)]) (λd=>[(0,.row 263 1 (map Ui.enc d.1))]) q Zf ?_ ?_)
  .exact En (Ep (s:=2) (XP Z) Z) (Lr [0])
  intro d t a g;refine G0 6 Z (Q5 Z a (λ_ a=>?_) (λ_ a=>?_))
  .exact Gc 2 Z (Qi a (Gx 1 Z (JC g a (Lr [0]))))
  refine Gc 6 Z (Bd a λp k a=>CQ k (W3 p) Z (Go 9 Z ?_));refine vV (W4 Z EM (by nofun) Z) (vH (Ek (xs:=[.tmp 14]) O2 Z Z Z Z Z ⟨Z,trivial⟩ Z Z) ?_);refine FE Z (Bd a λu l a=>vH (Qh (e:=Ui.enc) l O2 Gf (QF (i:=2))) ?_);exact Fg 8 Z Z (Qg a (Lr [3]))
 exact QJ 7 Z h 2 [0]
def Fs(a:Uf):AB (AA Ui):=(P4 n a.Cond.Parts).bind λd=>some d
theorem Kr(a:Uf):Kq (Fs n a) 262 [.agg (Uf.c ({Cond:=a.Cond:Uf}))] [] (λr=>.osl 0 0 r.length 1) (λr=>[.row 263 1 (map Ui.enc r)]):=by
 exact Kg 11 func262 Z Z Z Z λr h=>Cd [] h (fF _ _) Z λe d h=>FE Z (Gt 4 Z h 2 [1])
def IL(m:AA Ui)(p:Int)(rec90:(AA Ui)->Int->Ug->AB (Ug×Bool))(a:Ug×Int):AB (AG (Ug×Int) (AG Ug (Ug×Bool))):=(bif a.2<(m.length:Int) then(AJ m a.2).bind λq=>Ui.elim q (λg=>((HM n ({Cond:=g.Step.Cond:Uf})).bind λr=>(bif (!r)then(rec90 [Ui.ctyping_cond ({Cond:=g.Step.Cond:Uf})] 0 ({steps:=i64.wrap (a.1.steps+1),conds:=a.1.conds:Ug})).bind λh=>some (h.1,(!h.2))else some ({steps:=i64.wrap (a.1.steps+1),conds:=a.1.conds:Ug},false)):AB (Ug×Bool)).bind λd=>(bif d.2 then some (.d (.d (d.1,false)))else((bif 64<d.1.steps then some (d.1,true)else(bif 256<d.1.conds then some (d.1,true)else(HP n g).bind λk=>(rec90 k (i64.wrap (p+1)) d.1).bind λi=>some (i.1,(!i.2)))):AB (Ug×Bool)).bind λe=>(bif e.2 then some (.d (.d (e.1,false)))else some (.k (e.1,i64.wrap (a.2+1)))))) (λs=>((bif 64<a.1.steps then some ({steps:=a.1.steps,conds:=i64.wrap (a.1.conds+1):Ug},true)else(bif 256<(i64.wrap (a.1.conds+1)) then some ({steps:=a.1.steps,conds:=i64.wrap (a.1.conds+1):Ug},true)else(Fs n ({Cond:=s.Cond:Uf})).bind λl=>(rec90 l (i64.wrap (p+1)) ({steps:=a.1.steps,conds:=i64.wrap (a.1.conds+1):Ug})).bind λj=>some (j.1,(!j.2)))):AB (Ug×Bool)).bind λf=>(bif f.2 then some (.d (.d (f.1,false)))else some (.k (f.1,i64.wrap (a.2+1)))))else some (.d (.k a.1)))
def dH(rec90:(AA Ui)->Int->Ug->AB (Ug×Bool))(n:Nat)(d:AA Ui)(e:Int)(f:Ug):AB (Ug×Bool):=((bif 0<(d.length:Int) then some (decide (16<e))else some false):AB Bool).bind λb2=>(bif b2 then some (f,false)else(iter (IL n d e rec90) n (f,0):AB (AG Ug (Ug×Bool))).bind λg=>match g with|.k a=>(some (a,true))|.d a=>some a)
theorem Qay(rec90:(AA Ui)->Int->Ug->AB (Ug×Bool))(g:∀(l:AA Ui) (x:Int) (y:Ug) (r:Ug×Bool),rec90 l x y=some r->C prog 168 [.ptr 0 0,.osl 1 0 l.length 1,I x] [.cells 259 (Ug.c y),.row 263 1 (map Ui.enc l)] (RQ (λr=>.bool r.2) (λr=>[.cells 259 (Ug.c r.1),.row 263 1 (map Ui.enc l)]) r))(n:Nat)(l:AA Ui)(x:Int)(y:Ug)(r:Ug×Bool)(h:dH rec90 n l x y=some r):C prog 168 [.ptr 0 0,.osl 1 0 l.length 1,I x] [.cells 259 (Ug.c y),.row 263 1 (map Ui.enc l)] (RQ (λr=>.bool r.2) (λr=>[.cells 259 (Ug.c r.1),.row 263 1 (map Ui.enc l)]) r):=by
 refine QG func168 Z Z Z ?_;refine G0 7 Z (Bd h λb2 B h=>Ct b2 [0,1] [0,1,2] (λb2=>[(18,.bool b2)]) Ze Zf ?_ (λenv H q=>?_))
 .refine G0 5 Z (Is 15 B Z (λ_ B=>?_) (λ_ B=>?_))
  iterate 2 exact Gl 4 Z B [0,1]
 refine Gx 1 Z (Qd q (Cn Z h (λ_ h=>?_) (λ_ h=>?_)))
 .exact QJ 7 Z h 6 [0,1]
 refine Gc 10 Z (Bd h λaa ab h=>BZ (b:=aa) [0,1] [] Ze (λE=>[(0,.cells 259 (Ug.c E))]) Zf ?_ (λE ac=>?_))
 .refine G0 1 Z (Lp [0,1] [0,2,19,20] (λt=>[(21,I t.2)]) (λt=>[(0,.cells 259 (Ug.c t.1))]) ab Zf (Lr [0,1]) λt an a p=>?_);refine G0 6 Z (Q5 Z a (λ_ a=>?_) (λ_ a=>?_))
  .exact Gc 2 Z (Qi a (Gx 1 Z (JD p a Z (Lr [0,1]))))
  refine Gc 6 Z (Bd a λT F a=>?_);refine vX (.ptr 1 (toNat t.2*1)) (Qn F Z Gf sizeOf263) ?_;refine vX (Ui.val T) (Ez Z isAgg263 Z (Qj F)) ?_;refine Go 12 Z ?_;rcases J0 T with⟨k,hE90⟩|⟨w,hE92⟩
  .have a:=JM hE90 a;refine QB (QO (s:=8) (a':=.iface 266 (.agg (Uk.c k))) Z (congrArg Ui.val hE90)) ?_;refine QB (QO (s:=24) (a':=.iface 266 (.agg (Uk.c k))) Z (congrArg Ui.val hE90)) ?_;refine QB (QO (s:=25) (a':=.iface 266 (.agg (Uk.c k))) Z (congrArg Ui.val hE90)) ?_;refine vX (.tup [.agg [I 0,I 0,I 0,.rsl 4 (map Cond.enc [])],.bool false]) (jo (z:=(.agg [I 0,I 0,I 0,.rsl 4 (map Cond.enc [])])) EM (by intro m;nofun) Z GS (Ds Z)) ?_;refine Go 7 Z ?_;refine vX (.tup [.agg (Uk.c k),.bool true]) (O6 Gy (by intro m;nofun)) ?_;refine Go 34 Z (Bd a λu f a=>Ct u [0,1] [0,2,8,19,20,21] (λu=>[(60,.bool u.2)]) (λu=>[(0,.cells 259 (Ug.c u.1))]) Zf ?_ (λenv H q=>?_))
   .refine G0 2 Z (Cz [] f (N6 _ _) Z λao ah f=>Go 2 Z (Is 53 f Z (λ_ f=>?_) (λ_ f=>?_)))
    .refine Go 2 Z ?_;refine vX (.iface 315 (.agg (Uf.c ({Cond:=k.Step.Cond:Uf})))) (W4 Z EM (by intro m;nofun) Z) ?_ (gT Z);refine vH (Ek (xs:=[.tmp 56]) (es:=map Ui.enc [Ui.ctyping_cond ({Cond:=k.Step.Cond:Uf})]) O2 Z Z Z Z Z ⟨Z,trivial⟩ Z Z) ?_ (gT Z);exact FE Z (Cd [0,4] f (g _ _ _) Z λai ae f=>FE Z (Gl 3 Z f [0,1]))
    .exact Gl 8 Z f [0,1]
   refine Gx 1 Z (Qd q (Cn Z a (λ_ a=>?_) (λ_ a=>?_)))
   .refine Gc 10 Z (Qx a ?_);obtain rfl:=Oj p a;exact Gx 1 Z (Qq (Gx 1 Z (Rt h 6 [0,1])))
   refine Gc 4 Z (Bd a λi d a=>Ct i [0,1] [0,2,19,20,21] (λi=>[(81,.bool i.2)]) (λi=>[(0,.cells 259 (Ug.c i.1))]) Zf ?_ (λenv H q=>?_))
   .refine G0 7 Z (Is 66 d Z (λ_ d=>?_) (λ_ d=>?_))
    .exact Gl 16 Z d [0,1]
    .refine Go 7 Z (Is 73 d Z (λ_ d=>?_) (λ_ d=>?_))
     .exact Gl 9 Z d [0,1]
     .refine Go 2 Z (Bd d λaj M d=>?_);refine QC [] (bG call263 Z Z Z Z (λ_ _=>by kernel_rfl)) (Kk _ _ _ M) ?_ (hg:=(gT Z));rintro _ _ ⟨rfl,rfl⟩;exact Fg 2 Z Z (Cd [0,2] d (g _ _ _) Z λak af d=>FE Z (Gl 3 Z d [0,1]))
   refine Gx 1 Z (Qd q (Cn Z a (λ_ a=>?_) (λ_ a=>?_)))
   .refine Gc 8 Z (Qx a ?_);obtain rfl:=Oj p a;exact Gx 1 Z (Qq (Gx 1 Z (Rt h 6 [0,1])))
   exact Gc 7 Z (Qg a (Lr [0,1]))
  .have a:=JL hE92 a;refine QB (QO (s:=8) (a':=.iface 315 (.agg (Uf.c ({Cond:=w.Cond:Uf})))) Z (congrArg Ui.val hE92)) ?_;refine QB (QO (s:=24) (a':=.iface 315 (.agg (Uf.c ({Cond:=w.Cond:Uf})))) Z (congrArg Ui.val hE92)) ?_;refine QB (QO (s:=25) (a':=.iface 315 (.agg (Uf.c ({Cond:=w.Cond:Uf})))) Z (congrArg Ui.val hE92)) ?_;refine vX (.tup [.agg (Uf.c ({Cond:=w.Cond:Uf})),.bool true]) (O6 EM (by intro m;nofun)) ?_;refine Go 24 Z (Bd a λj e a=>Cg j [0,1] [0,2,19,20,21] (λj=>[(81,.bool j.2)]) (λj=>[(0,.cells 259 (Ug.c j.1))]) Zf ?_ ?_)
   .refine G0 7 Z (Is 66 e Z (λ_ e=>?_) (λ_ e=>?_))
    .exact Gl 16 Z e [0,1]
    .refine Go 7 Z (Is 73 e Z (λ_ e=>?_) (λ_ e=>?_))
     .exact Gl 9 Z e [0,1]
     .refine Go 2 Z (Bd e λal Q e=>?_);refine QC [] (bG call262 Z Z Z Z (λ_ _=>by kernel_rfl)) (Kr _ _ _ Q) ?_ (hg:=(gT Z));rintro _ _ ⟨rfl,rfl⟩;exact Fg 2 Z Z (Cd [0,3] e (g _ _ _) Z λam ag e=>FE Z (Gl 3 Z e [0,1]))
   refine Cn Z a (λ_ a=>?_) (λ_ a=>?_)
   .refine Gc 8 Z (Qx a ?_);obtain rfl:=Oj p a;exact Gx 1 Z (Qq (Gx 1 Z (Rt h 6 [0,1])))
   exact Gc 7 Z (Qg a (Lr [0,1]))
 subst ac;exact QJ 6 Z h 6 [0,1]
def KT:Nat->(AA Ui)->Int->Ug->AB (Ug×Bool)
  |0=>λ_ _ _=>none
  |n+1=>dH (KT n) n
theorem gN:∀(a:AA Ui) (d:Int) (e:Ug) (r:Ug×Bool),KT n a d e=some r->C prog 168 [.ptr 0 0,.osl 1 0 a.length 1,I d] [.cells 259 (Ug.c e),.row 263 1 (map Ui.enc a)] (RQ (λr=>.bool r.2) (λr=>[.cells 259 (Ug.c r.1),.row 263 1 (map Ui.enc a)]) r):=by
  induction n with
  |zero=>intro a d e r h;cases h
  |succ n ih=>intro a d e r h;exact Qay _ ih n a d e r h
def mT(m:AA Ui)(p:Int)(a:Ug×Int):AB (AG (Ug×Int) (AG Ug (Ug×Bool))):=(bif a.2<(m.length:Int) then(AJ m a.2).bind λq=>Ui.elim q (λg=>((HM n ({Cond:=g.Step.Cond:Uf})).bind λr=>(bif (!r)then(KT n [Ui.ctyping_cond ({Cond:=g.Step.Cond:Uf})] 0 ({steps:=i64.wrap (a.1.steps+1),conds:=a.1.conds:Ug})).bind λh=>some (h.1,(!h.2))else some ({steps:=i64.wrap (a.1.steps+1),conds:=a.1.conds:Ug},false)):AB (Ug×Bool)).bind λd=>(bif d.2 then some (.d (.d (d.1,false)))else((bif 64<d.1.steps then some (d.1,true)else(bif 256<d.1.conds then some (d.1,true)else(HP n g).bind λk=>(KT n k (i64.wrap (p+1)) d.1).bind λi=>some (i.1,(!i.2)))):AB (Ug×Bool)).bind λe=>(bif e.2 then some (.d (.d (e.1,false)))else some (.k (e.1,i64.wrap (a.2+1)))))) (λs=>((bif 64<a.1.steps then some ({steps:=a.1.steps,conds:=i64.wrap (a.1.conds+1):Ug},true)else(bif 256<(i64.wrap (a.1.conds+1)) then some ({steps:=a.1.steps,conds:=i64.wrap (a.1.conds+1):Ug},true)else(Fs n ({Cond:=s.Cond:Uf})).bind λl=>(KT n l (i64.wrap (p+1)) ({steps:=a.1.steps,conds:=i64.wrap (a.1.conds+1):Ug})).bind λj=>some (j.1,(!j.2)))):AB (Ug×Bool)).bind λf=>(bif f.2 then some (.d (.d (f.1,false)))else some (.k (f.1,i64.wrap (a.2+1)))))else some (.d (.k a.1)))
def Zi(d:AA Ui)(e:Int)(f:Ug):AB (Ug×Bool):=((bif 0<(d.length:Int) then some (decide (16<e))else some false):AB Bool).bind λb2=>(bif b2 then some (f,false)else(iter (mT n d e) n (f,0):AB (AG Ug (Ug×Bool))).bind λg=>match g with|.k a=>(some (a,true))|.d a=>some a)
theorem eV(Q:AA Ui)(R:Int)(T:Ug):Kq (Zi n Q R T) 168 [.ptr 0 0,.rsl 1 (map Ui.enc Q),I R] [.cells 259 (Ug.c T)] (λr=>.bool r.2) (λr=>[.cells 259 (Ug.c r.1)]):=by
 refine Kg 7 func168 Z Z Z Z λr h=>Bd h λb2 u h=>Ct b2 [0] [0,1,2] (λb2=>[(18,.bool b2)]) Ze Zf ?_ (λenv H l=>?_)
 .refine G0 2 Z (Lg 2 Z Z (Is 15 u Z (λ_ u=>?_) (λ_ u=>?_)))
  iterate 2 exact Gl 4 Z u [0]
 refine Gx 1 Z (Qd l (Cn Z h (λ_ h=>?_) (λ_ h=>?_)))
 .exact QJ 7 Z h 6 [0]
 refine Gc 6 Z (Lg 3 Z Z (Bd h λX Y h=>BZ (b:=X) [0] [] Ze (λw=>[(0,.cells 259 (Ug.c w))]) Zf ?_ (λw aa=>?_)))
 .refine G0 1 Z (Lp [0] [0,2,19,20] (λq=>[(21,I q.2)]) (λq=>[(0,.cells 259 (Ug.c q.1))]) Y Zf (Lr [0]) λq am a k=>?_);refine G0 6 Z (Q5 Z a (λ_ a=>?_) (λ_ a=>?_))
  .exact Gc 2 Z (Qi a (Gx 1 Z (JD k a Z (Lr [0]))))
  refine Gc 6 Z (Bd a λab O a=>Iz O Z (Go 13 Z ?_));rcases J0 ab with⟨j,hE90⟩|⟨t,hE92⟩
  .have a:=JM hE90 a;refine QB (QO (s:=8) (a':=.iface 266 (.agg (Uk.c j))) Z (congrArg Ui.val hE90)) ?_;refine QB (QO (s:=24) (a':=.iface 266 (.agg (Uk.c j))) Z (congrArg Ui.val hE90)) ?_;refine QB (QO (s:=25) (a':=.iface 266 (.agg (Uk.c j))) Z (congrArg Ui.val hE90)) ?_;refine vX (.tup [.agg [I 0,I 0,I 0,.rsl 4 (map Cond.enc [])],.bool false]) (jo (z:=(.agg [I 0,I 0,I 0,.rsl 4 (map Cond.enc [])])) EM (by intro m;nofun) Z GS (Ds Z)) ?_;refine Go 7 Z ?_;refine vX (.tup [.agg (Uk.c j),.bool true]) (O6 Gy (by intro m;nofun)) ?_;refine Go 34 Z (Bd a λp f a=>Ct p [0] [0,2,8,19,20,21] (λp=>[(60,.bool p.2)]) (λp=>[(0,.cells 259 (Ug.c p.1))]) Zf ?_ (λenv H l=>?_))
   .refine G0 2 Z (Cz [] f (N6 _ _) Z λan ag f=>Go 2 Z (Is 53 f Z (λ_ f=>?_) (λ_ f=>?_)))
    .refine Go 2 Z ?_;refine vX (.iface 315 (.agg (Uf.c ({Cond:=j.Step.Cond:Uf})))) (W4 Z EM (by intro m;nofun) Z) ?_ (gT Z);refine vH (Ek (xs:=[.tmp 56]) (es:=map Ui.enc [Ui.ctyping_cond ({Cond:=j.Step.Cond:Uf})]) O2 Z Z Z Z Z ⟨Z,trivial⟩ Z Z) ?_ (gT Z);exact FE Z (Cd [0,3] f (gN _ _ _ _) Z λah ac f=>FE Z (Gl 3 Z f [0]))
    .exact Gl 8 Z f [0]
   refine Gx 1 Z (Qd l (Cn Z a (λ_ a=>?_) (λ_ a=>?_)))
   .refine Gc 10 Z (Qx a ?_);obtain rfl:=Oj k a;exact Gx 1 Z (Qq (Gx 1 Z (Rt h 6 [0])))
   refine Gc 4 Z (Bd a λg d a=>Ct g [0] [0,2,19,20,21] (λg=>[(81,.bool g.2)]) (λg=>[(0,.cells 259 (Ug.c g.1))]) Zf ?_ (λenv H l=>?_))
   .refine G0 7 Z (Is 66 d Z (λ_ d=>?_) (λ_ d=>?_))
    .exact Gl 16 Z d [0]
    .refine Go 7 Z (Is 73 d Z (λ_ d=>?_) (λ_ d=>?_))
     .exact Gl 9 Z d [0]
     .refine Go 2 Z (Bd d λai E d=>?_);refine QC [] (bG call263 Z Z Z Z (λ_ _=>by kernel_rfl)) (Kk _ _ _ E) ?_ (hg:=(gT Z));rintro _ _ ⟨rfl,rfl⟩;exact Fg 2 Z Z (Cd [0,1] d (gN _ _ _ _) Z λaj ae d=>FE Z (Gl 3 Z d [0]))
   refine Gx 1 Z (Qd l (Cn Z a (λ_ a=>?_) (λ_ a=>?_)))
   .refine Gc 8 Z (Qx a ?_);obtain rfl:=Oj k a;exact Gx 1 Z (Qq (Gx 1 Z (Rt h 6 [0])))
   exact Gc 7 Z (Qg a (Lr [0]))
  .have a:=JL hE92 a;refine QB (QO (s:=8) (a':=.iface 315 (.agg (Uf.c ({Cond:=t.Cond:Uf})))) Z (congrArg Ui.val hE92)) ?_;refine QB (QO (s:=24) (a':=.iface 315 (.agg (Uf.c ({Cond:=t.Cond:Uf})))) Z (congrArg Ui.val hE92)) ?_;refine QB (QO (s:=25) (a':=.iface 315 (.agg (Uf.c ({Cond:=t.Cond:Uf})))) Z (congrArg Ui.val hE92)) ?_;refine vX (.tup [.agg (Uf.c ({Cond:=t.Cond:Uf})),.bool true]) (O6 EM (by intro m;nofun)) ?_;refine Go 24 Z (Bd a λi e a=>Cg i [0] [0,2,19,20,21] (λi=>[(81,.bool i.2)]) (λi=>[(0,.cells 259 (Ug.c i.1))]) Zf ?_ ?_)
   .refine G0 7 Z (Is 66 e Z (λ_ e=>?_) (λ_ e=>?_))
    .exact Gl 16 Z e [0]
    .refine Go 7 Z (Is 73 e Z (λ_ e=>?_) (λ_ e=>?_))
     .exact Gl 9 Z e [0]
     .refine Go 2 Z (Bd e λak L e=>?_);refine QC [] (bG call262 Z Z Z Z (λ_ _=>by kernel_rfl)) (Kr _ _ _ L) ?_ (hg:=(gT Z));rintro _ _ ⟨rfl,rfl⟩;exact Fg 2 Z Z (Cd [0,2] e (gN _ _ _ _) Z λal af e=>FE Z (Gl 3 Z e [0]))
   refine Cn Z a (λ_ a=>?_) (λ_ a=>?_)
   .refine Gc 8 Z (Qx a ?_);obtain rfl:=Oj k a;exact Gx 1 Z (Qq (Gx 1 Z (Rt h 6 [0])))
   exact Gc 7 Z (Qg a (Lr [0]))
 subst aa;exact QJ 6 Z h 6 [0]
def RN(rec94:(AA Ui)->AB Bool)(n:Nat)(a:Uf):AB Bool:=((bif (a.Cond.Var==0)then some (a.Cond.N==0)else some false):AB Bool).bind λb2=>(bif (a.Cond.Kind==1)then((CS n 1 3 [a.Cond.Var]).bind λe=>(bif e then(CS n 0 10000 [a.Cond.N]).bind λf=>(bif f then some ((a.Cond.Parts.length:Int)==0)else some false)else some false):AB Bool).bind λg=>some g else((bif (a.Cond.Kind==4)then(bif b2 then some (.k ((a.Cond.Parts.length:Int)==1))else some (.k false))else((bif (a.Cond.Kind==2)then some (a.Cond.Kind==2)else some (a.Cond.Kind==3)):AB Bool).bind λh=>(bif h then(bif b2 then(bif 0<(a.Cond.Parts.length:Int) then some (.k (decide ((a.Cond.Parts.length:Int)<=16)))else some (.k false))else some (.k false))else some (.d false))):AB (AG Bool Bool)).bind λi=>match i with|.k d=>(((bif d then(Fs n ({Cond:=a.Cond:Uf})).bind λj=>(rec94 j).bind λk=>some (!k)else some false):AB Bool).bind λl=>some l)|.d d=>some d)
theorem fc(rec94:(AA Ui)->AB Bool)(j:∀(i:AA Ui) (r:Bool),rec94 i=some r->Bk prog 169 [.rsl 1 (map Ui.enc i),.fn (.func 170) [] []] [] (λr=>.bool r) r)(n:Nat)(i:Uf):Ks (RN rec94 n i) 214 [.iface 315 (.agg (Uf.c ({Cond:=i.Cond:Uf})))] [] (λr=>.bool r):=by
 refine Kg 14 func214 Z Z Z Z λr h=>?_;refine vV (O6 EM (by intro m;nofun)) ?_;refine Go 12 Z (Bd h λb2 k h=>Ct b2 [0] [3] (λb2=>[(4,.bool b2)]) Ze Zf ?_ (λenv H f=>?_))
 .refine G0 6 Z (Is 15 k Z (λ_ k=>?_) (λ_ k=>?_))
  iterate 2 exact Gl 7 Z k [0]
 refine Gx 1 Z (Qd f (Gc 15 Z (Cn Z h (λ_ h=>?_) (λ_ h=>?_))))
 .refine Gc 1 Z (Bd h λl d h=>Ct l [] [] (λl=>[(2,.bool l)]) Ze Zf ?_ (λenv H f=>?_))
  .refine G0 4 Z (vH (Ek (xs:=[.tmp 28]) (es:=map (Qc .i64) [i.Cond.Var]) Qs Z Z Z Z Z ⟨Z,trivial⟩ Z Z) ?_);refine FE Z (Cb d (Cq _ _ _ _) Z (ls (ls (lo ln))) λR M d=>Go 1 Z (Is 31 d Z (λ_ d=>?_) (λ_ d=>?_)))
   .refine Go 3 Z (vH (Ek (xs:=[.tmp 34]) (es:=map (Qc .i64) [i.Cond.N]) Qs Z Z Z Z Z ⟨Z,trivial⟩ Z Z) ?_ (gT Z));refine FE Z (Cb d (Cq _ _ _ _) Z (ls (ls (lo ln))) λT O d=>Go 2 Z (Is 38 d Z (λ_ d=>?_) (λ_ d=>?_)))
    .exact Go 3 Z (Lm Z (Gl 4 Z d []))
    .exact Gl 8 Z d []
   .exact Gl 15 Z d []
  exact Gx 1 Z (Qd f (QJ 5 Z h 2 []))
 refine Gc 6 Z (Bd h λL a h=>DD (b:=L) [0] [3] (λp=>[(4,.bool p)]) Ze Zf ?_ (λp env H hb f=>?_))
 .refine G0 0 Z (Cn Z a (λ_ a=>?_) (λ_ a=>?_))
  .refine Gc 3 Z (Is 48 a Z (λ_ a=>?_) (λ_ a=>?_))
   .refine Go 3 Z (Lg 4 Z Z ?_);cases a;exact YC Z (Lr [0])
   .refine Go 8 Z ?_;cases a;exact YC Z (Lr [0])
  refine Gc 7 Z (Bd a λq g a=>Ct q [0] [3,4] (λq=>[(55,.bool q)]) Ze Zf ?_ (λenv H f=>?_))
  .refine G0 0 Z (Cn Z g (λ_ g=>?_) (λ_ g=>?_))
   .exact YM 1 Z g [0]
   exact YM 4 Z g [0]
  refine Gx 1 Z (Qd f (Q5 Z a (λ_ a=>?_) (λ_ a=>?_)))
  .refine Gc 6 Z ?_;cases a;exact Qq (Gx 4 Z (Rt h 2 []))
  refine Gc 3 Z (Is 59 a Z (λ_ a=>?_) (λ_ a=>?_))
  .refine Go 3 Z (Lg 3 Z Z (Is 66 a Z (λ_ a=>?_) (λ_ a=>?_)))
   .refine Go 3 Z (Lg 4 Z Z ?_);cases a;exact YC Z (Lr [0])
   .refine Go 8 Z ?_;cases a;exact YC Z (Lr [0])
  .refine Go 15 Z ?_;cases a;exact YC Z (Lr [0])
 subst hb;refine Gx 2 Z (Qd f (Gc 1 Z (Bd h λs e h=>Cg s [] [] (λs=>[(2,.bool s)]) Ze Zf ?_ ?_)))
 .refine G0 3 Z (Is 74 e Z (λ_ e=>?_) (λ_ e=>?_))
  .exact Go 1 Z (Cd [] e (Kr _ _) Z λV P e=>FE Z (Cb e (j _) Z (lo (ls ln)) λW Q e=>Gl 4 Z e []))
  .exact Gl 7 Z e []
 exact QJ 3 Z h 2 []
def ZT(rec94:(AA Ui)->AB Bool)(n:Nat)(z:Ui):AB Bool:=Ui.elim z (λd=>(bif (d.Step.Kind==1)then((CS n 1 5 [d.Step.By]).bind λg=>(bif g then(HM n ({Cond:=d.Step.Cond:Uf})).bind λh=>(bif h then(HP n d).bind λi=>some ((i.length:Int)==0)else some false)else some false):AB Bool).bind λj=>some j else(bif (d.Step.Kind==2)then((bif (d.Step.By==0)then(RN rec94 n ({Cond:=d.Step.Cond:Uf})).bind λk=>(bif k then(bif 0<(d.Step.Then.length:Int) then(HP n d).bind λl=>(rec94 l).bind λm=>some (!m)else some false)else some false)else some false):AB Bool).bind λp=>some p else some false))) (λa=>((bif (a.Cond.Var==0)then some (a.Cond.N==0)else some false):AB Bool).bind λf=>(bif (a.Cond.Kind==1)then((CS n 1 3 [a.Cond.Var]).bind λq=>(bif q then(CS n 0 10000 [a.Cond.N]).bind λr=>(bif r then some ((a.Cond.Parts.length:Int)==0)else some false)else some false):AB Bool).bind λs=>some s else((bif (a.Cond.Kind==4)then(bif f then some (.k ((a.Cond.Parts.length:Int)==1))else some (.k false))else((bif (a.Cond.Kind==2)then some (a.Cond.Kind==2)else some (a.Cond.Kind==3)):AB Bool).bind λt=>(bif t then(bif f then(bif 0<(a.Cond.Parts.length:Int) then some (.k (decide ((a.Cond.Parts.length:Int)<=16)))else some (.k false))else some (.k false))else some (.d false))):AB (AG Bool Bool)).bind λu=>match u with|.k e=>(((bif e then(Fs n ({Cond:=a.Cond:Uf})).bind λw=>(rec94 w).bind λx=>some (!x)else some false):AB Bool).bind λy=>some y)|.d e=>some e))
theorem eG(rec94:(AA Ui)->AB Bool)(j:∀(p:AA Ui) (r:Bool),rec94 p=some r->Bk prog 169 [.rsl 1 (map Ui.enc p),.fn (.func 170) [] []] [] (λr=>.bool r) r)(n:Nat)(p:Ui):Ks (ZT rec94 n p) 214 [Ui.val p] [] (λr=>.bool r):=by
 refine Kg 14 func214 Z Z Z Z λr h=>?_;rcases J0 p with⟨q,hE2⟩|⟨t,hE4⟩
 .have h:=JM hE2 h;refine QB (QO (s:=0) (a':=.iface 266 (.agg (Uk.c q))) Z (congrArg Ui.val hE2)) ?_;refine QB (QO (s:=7) (a':=.iface 266 (.agg (Uk.c q))) Z (congrArg Ui.val hE2)) ?_;refine vX (.tup [.agg [I 0,I 0,I 0,.rsl 4 (map Cond.enc [])],.bool false]) (jo (z:=(.agg [I 0,I 0,I 0,.rsl 4 (map Cond.enc [])])) EM (by intro m;nofun) Z GS (Ds Z)) ?_;refine Go 7 Z ?_;refine vX (.tup [.agg (Uk.c q),.bool true]) (O6 Gy (by intro m;nofun)) ?_;refine Go 35 Z (Cn Z h (λ_ h=>?_) (λ_ h=>?_))
  .refine Gc 1 Z (Bd h λu e h=>Ct u [] [] (λu=>[(2,.bool u)]) Ze Zf ?_ (λenv H g=>?_))
   .refine G0 4 Z (vH (Ek (xs:=[.tmp 94]) (es:=map (Qc .i64) [q.Step.By]) Qs Z Z Z Z Z ⟨Z,trivial⟩ Z Z) ?_);refine FE Z (Cb e (Cq _ _ _ _) Z (ls (ls (lo ln))) λau ah e=>Go 1 Z (Is 97 e Z (λ_ e=>?_) (λ_ e=>?_)))
    .refine Go 1 Z (Cz [] e (N6 _ _) Z λav ai e=>Go 2 Z (Is 101 e Z (λ_ e=>?_) (λ_ e=>?_)))
     .exact Go 1 Z (Cd [] e (Kk _ _) Z λaw aj e=>FE Z (Gl 5 Z e []))
     .exact Gl 7 Z e []
    .exact Gl 11 Z e []
   exact Gx 1 Z (Qd g (QJ 4 Z h 2 []))
  refine Gc 6 Z (Cn Z h (λ_ h=>?_) (λ_ h=>?_))
  .refine Gc 1 Z (Bd h λw d h=>Ct w [] [] (λw=>[(2,.bool w)]) Ze Zf ?_ (λenv H g=>?_))
   .refine G0 6 Z (Is 113 d Z (λ_ d=>?_) (λ_ d=>?_))
    .refine Go 1 Z ?_;refine vX (.iface 315 (.agg (Uf.c ({Cond:=q.Step.Cond:Uf})))) (W4 Z EM (by intro m;nofun) Z) ?_ (gT Z);refine Cz [] d (fc rec94 j _ _) Z λax ak d=>Go 2 Z (Is 118 d Z (λ_ d=>?_) (λ_ d=>?_))
     .refine Go 3 Z (Lg 3 Z Z (Is 125 d Z (λ_ d=>?_) (λ_ d=>?_)))
      .exact Go 1 Z (Cd [] d (Kk _ _) Z λay al d=>FE Z (Cb d (j _) Z (lo (ls ln)) λaz am d=>Gl 4 Z d []))
      .exact Gl 7 Z d []
     .exact Gl 14 Z d []
    .exact Gl 19 Z d []
   exact Gx 1 Z (Qd g (QJ 4 Z h 2 []))
  exact QJ 10 Z h 2 []
 .have h:=JL hE4 h;refine QB (QO (s:=0) (a':=.iface 315 (.agg (Uf.c ({Cond:=t.Cond:Uf})))) Z (congrArg Ui.val hE4)) ?_;refine QB (QO (s:=7) (a':=.iface 315 (.agg (Uf.c ({Cond:=t.Cond:Uf})))) Z (congrArg Ui.val hE4)) ?_;refine vX (.tup [.agg (Uf.c ({Cond:=t.Cond:Uf})),.bool true]) (O6 EM (by intro m;nofun)) ?_;refine Go 12 Z (Bd h λx k h=>Ct x [0] [3] (λx=>[(4,.bool x)]) Ze Zf ?_ (λenv H g=>?_))
  .refine G0 6 Z (Is 15 k Z (λ_ k=>?_) (λ_ k=>?_))
   iterate 2 exact Gl 7 Z k [0]
  refine Gx 1 Z (Qd g (Gc 15 Z (Cn Z h (λ_ h=>?_) (λ_ h=>?_))))
  .refine Gc 1 Z (Bd h λy f h=>Ct y [] [] (λy=>[(2,.bool y)]) Ze Zf ?_ (λenv H g=>?_))
   .refine G0 4 Z (vH (Ek (xs:=[.tmp 28]) (es:=map (Qc .i64) [t.Cond.Var]) Qs Z Z Z Z Z ⟨Z,trivial⟩ Z Z) ?_);refine FE Z (Cb f (Cq _ _ _ _) Z (ls (ls (lo ln))) λba an f=>Go 1 Z (Is 31 f Z (λ_ f=>?_) (λ_ f=>?_)))
    .refine Go 3 Z (vH (Ek (xs:=[.tmp 34]) (es:=map (Qc .i64) [t.Cond.N]) Qs Z Z Z Z Z ⟨Z,trivial⟩ Z Z) ?_ (gT Z));refine FE Z (Cb f (Cq _ _ _ _) Z (ls (ls (lo ln))) λbb ao f=>Go 2 Z (Is 38 f Z (λ_ f=>?_) (λ_ f=>?_)))
     .exact Go 3 Z (Lm Z (Gl 4 Z f []))
     .exact Gl 8 Z f []
    .exact Gl 15 Z f []
   exact Gx 1 Z (Qd g (QJ 5 Z h 2 []))
  refine Gc 6 Z (Bd h λag a h=>DD (b:=ag) [0] [3] (λB=>[(4,.bool B)]) Ze Zf ?_ (λB env H hb g=>?_))
  .refine G0 0 Z (Cn Z a (λ_ a=>?_) (λ_ a=>?_))
   .refine Gc 3 Z (Is 48 a Z (λ_ a=>?_) (λ_ a=>?_))
    .refine Go 3 Z (Lg 4 Z Z ?_);cases a;exact YC Z (Lr [0])
    .refine Go 8 Z ?_;cases a;exact YC Z (Lr [0])
   refine Gc 7 Z (Bd a λE l a=>Ct E [0] [3,4] (λE=>[(55,.bool E)]) Ze Zf ?_ (λenv H g=>?_))
   .refine G0 0 Z (Cn Z l (λ_ l=>?_) (λ_ l=>?_))
    .exact YM 1 Z l [0]
    exact YM 4 Z l [0]
   refine Gx 1 Z (Qd g (Q5 Z a (λ_ a=>?_) (λ_ a=>?_)))
   .refine Gc 6 Z ?_;cases a;exact Qq (Gx 4 Z (Rt h 2 []))
   refine Gc 3 Z (Is 59 a Z (λ_ a=>?_) (λ_ a=>?_))
   .refine Go 3 Z (Lg 3 Z Z (Is 66 a Z (λ_ a=>?_) (λ_ a=>?_)))
    .refine Go 3 Z (Lg 4 Z Z ?_);cases a;exact YC Z (Lr [0])
    .refine Go 8 Z ?_;cases a;exact YC Z (Lr [0])
   .refine Go 15 Z ?_;cases a;exact YC Z (Lr [0])
  subst hb;refine Gx 2 Z (Qd g (Gc 1 Z (Bd h λF i h=>Cg F [] [] (λF=>[(2,.bool F)]) Ze Zf ?_ ?_)))
  .refine G0 3 Z (Is 74 i Z (λ_ i=>?_) (λ_ i=>?_))
   .exact Go 1 Z (Cd [] i (Kr _ _) Z λbc aq i=>FE Z (Cb i (j _) Z (lo (ls ln)) λbd ar i=>Gl 4 Z i []))
   .exact Gl 7 Z i []
  exact QJ 3 Z h 2 []
def RZ(rec94:(AA Ui)->AB Bool)(n:Nat)(a:Ui):AB Bool:=(ZT rec94 n a).bind λd=>some (!d)
theorem fw(rec94:(AA Ui)->AB Bool)(a:∀(d:AA Ui) (r:Bool),rec94 d=some r->Bk prog 169 [.rsl 1 (map Ui.enc d),.fn (.func 170) [] []] [] (λr=>.bool r) r)(n:Nat)(d:Ui):Ks (RZ rec94 n d) 170 [Ui.val d] [] (λr=>.bool r):=by
 exact Kg 8 func170 Z Z Z Z λr h=>Bd h λf e h=>Pc [] Z (Bh.fn call214 Z Z Z) (eG rec94 a _ _ _ e) (hargs:=by first|exact Z|exact Eq.trans (by exact Z) (PB _ (by simp[YB,Ui.data])).symm) Z (Gt 5 Z h 2 [])
def l6(d:AA Ui)(rec94:(AA Ui)->AB Bool)(a:Int):AB (AG Int (AG Unit Int)):=(bif a<(d.length:Int) then(AJ d a).bind λe=>(RZ rec94 n e).bind λf=>(bif f then some (.d (.d a))else some (.k (i64.wrap (a+1))))else some (.d (.k ())))
def ZP(rec94:(AA Ui)->AB Bool)(n:Nat)(e:AA Ui):AB Int:=(iter (l6 n e rec94) n 0:AB (AG Unit Int)).bind λd=>match d with|.k a=>(some (-1))|.d a=>some a
theorem eB(rec94:(AA Ui)->AB Bool)(d:∀(e:AA Ui) (r:Bool),rec94 e=some r->Bk prog 169 [.rsl 1 (map Ui.enc e),.fn (.func 170) [] []] [] (λr=>.bool r) r)(n:Nat)(e:AA Ui):Ks (ZP rec94 n e) 213 [.rsl 1 (map Ui.enc e),.fn (.func 170) [] []] [] (λr=>I r):=by
 refine Kg 9 func213 Z Z Z Z λr h=>Lg 3 Z Z (Bd h λm p h=>BZ (b:=m) [] [] Ze Ze Zf ?_ (λ_ q=>?_))
 .refine G0 1 Z (Lp [] [0,1,7] (λg=>[(8,I g)]) Ze p Zf (Lr []) λg t a f=>(G0 6 Z (Q5 Z a (λ_ a=>?_) (λ_ a=>?_))))
  .exact Gc 2 Z (Qi a (Gx 1 Z (JD f a Z (Lr []))))
  refine Gc 15 Z (Bd a λu j a=>Iz j Z (Go 1 Z (Bd a λw k a=>Pc [] Z (Nn call170 Z Z Z Z) (fw rec94 d _ _ _ k) (hargs:=by first|exact Z|exact Eq.trans (by exact Z) (PB _ (by simp[YB,Ui.data])).symm) Z (Go 2 Z (Cn Z a (λ_ a=>?_) (λ_ a=>?_))))))
  .refine Gc 9 Z (Qx a ?_);obtain rfl:=Oj f a;exact Gx 1 Z (Qq (Gx 1 Z (Rt h 4 [])))
  exact Gc 7 Z (Qg a (Lr []))
 subst q;exact QJ 6 Z h 4 []
def SM(rec94:(AA Ui)->AB Bool)(n:Nat)(a:AA Ui):AB Bool:=(ZP rec94 n a).bind λd=>some (decide (0<=d))
theorem Qaz(rec94:(AA Ui)->AB Bool)(a:∀(d:AA Ui) (r:Bool),rec94 d=some r->Bk prog 169 [.rsl 1 (map Ui.enc d),.fn (.func 170) [] []] [] (λr=>.bool r) r)(n:Nat)(d:AA Ui)(r:Bool)(h:SM rec94 n d=some r):Bk prog 169 [.rsl 1 (map Ui.enc d),.fn (.func 170) [] []] [] (λr=>.bool r) r:=by
 exact QG func169 Z Z Z (G0 9 Z (Cz [] h (eB rec94 a _ _) Z λf e h=>Gt 5 Z h 4 []))
def Fw:Nat->(AA Ui)->AB Bool
  |0=>λ_=>none
  |n+1=>SM (Fw n) n
theorem i9:∀(a:AA Ui) (r:Bool),Fw n a=some r->Bk prog 169 [.rsl 1 (map Ui.enc a),.fn (.func 170) [] []] [] (λr=>.bool r) r:=by
  induction n with
  |zero=>intro a r h;cases h
  |succ n ih=>intro a r h;exact Qaz _ ih n a r h
def ZG(a:AA Ui):AB Int:=(Zi n a 0 ({steps:=0,conds:=0:Ug})).bind λd=>(bif (!d.2)then some 2 else((bif ((a.length:Int)==0)then some true else(Fw n a).bind λe=>some e):AB Bool).bind λf=>(bif f then some 71 else some 0))
theorem d4(e:AA Ui):Ks (ZG n e) 107 [.rsl 1 (map Ui.enc e)] [] (λr=>I r):=by
 refine Kg 17 func107 Z Z Z Z λr h=>Cd [0] h (eV _ _ _ _) Z λl j h=>Fg 3 Z Z (Cn Z h (λ_ h=>?_) (λ_ h=>?_))
 .exact QJ 7 Z h 2 []
 refine Gc 4 Z (Bd h λd a h=>Cg d [] [] (λd=>[(16,.bool d)]) Ze Zf ?_ ?_)
 .refine G0 2 Z (Lg 2 Z Z (Is 13 a Z (λ_ a=>?_) (λ_ a=>?_)))
  .exact Gl 4 Z a []
  .exact Go 1 Z (Cz [] a (i9 _ _) Z λm k a=>Gl 2 Z a [])
 refine Cn Z h (λ_ h=>?_) (λ_ h=>?_)
 .exact QJ 7 Z h 2 []
 exact QJ 8 Z h 2 []
def P9(a:AA Step):AB Int:=(J9 n a).bind λd=>(ZG n d).bind λe=>some e
theorem fK(a:AA Step):Ks (P9 n a) 40 [.rsl 8 (map Step.enc a)] [] (λr=>I r):=by
 exact Kg 8 func40 Z Z Z Z λr h=>Cd [] h (N5 _ _) Z λf d h=>FE Z (Cb h (d4 _ _) Z (lo ln) λg e h=>Gt 4 Z h 2 [])
def Ie(n:Nat)(d:AF)(e:AA Int)(a:(AA Int)×Int):AB (AG ((AA Int)×Int) (AG (AA Int) (AG ((AA Int)×Int) (AG (AA Int) (AA Int))))):=(bif a.2<(if d.Laps<1 then 1 else d.Laps) then(bif 256<(a.1.length:Int) then some (.d (.d (.d (.d a.1))))else(app a.1 e).bind λf=>some (.k (f,i64.wrap (a.2+1))))else some (.d (.k a.1)))
def Ii(f:AA AF)(rec113:(AA AF)->AB (AA Int))(a:(AA Int)×Int):AB (AG ((AA Int)×Int) (AG (AA Int) (AA Int))):=(bif a.2<(f.length:Int) then(AJ f a.2).bind λe=>((bif 0<e.Laps then(rec113 e.Parts).bind λg=>some g else some [e.Mat]):AB (AA Int)).bind λh=>(iter (Ie n e h) n (a.1,0):AB (AG (AA Int) (AG ((AA Int)×Int) (AG (AA Int) (AA Int))))).bind λi=>match i with|.k d=>(some (.k (d,i64.wrap (a.2+1))))|.d d=>some d else some (.d (.k a.1)))
def dA(rec113:(AA AF)->AB (AA Int))(n:Nat)(e:AA AF):AB (AA Int):=(iter (Ii n e rec113) n ([],0):AB (AG (AA Int) (AA Int))).bind λd=>match d with|.k a=>(some a)|.d a=>some a
theorem QdB(rec113:(AA AF)->AB (AA Int))(p:∀(q:AA AF) (r:AA Int),rec113 q=some r->C prog 111 [.rsl 3 (map AF.enc q)] [] (RQ (λr=>.osl 0 0 r.length 1) (λr=>[.row 3 1 (map (Qc .i64) r)]) r))(n:Nat)(q:AA AF)(r:AA Int)(h:dA rec113 n q=some r):C prog 111 [.rsl 3 (map AF.enc q)] [] (RQ (λr=>.osl 0 0 r.length 1) (λr=>[.row 3 1 (map (Qc .i64) r)]) r):=by
 refine QG func111 Z Z Z ?_;refine G0 9 Z (Lg 3 Z Z (Bd h λL M h=>BZ (b:=L) [0] [] (λf=>[(2,.osl 0 0 f.length 1)]) (λf=>[(0,.row 3 1 (map (Qc .i64) f))]) Zf ?_ (λf u=>?_)))
 .refine G0 1 Z (Lp [0] [6,7] (λj=>[(2,.osl 0 0 j.1.length 1),(8,I j.2)]) (λj=>[(0,.row 3 1 (map (Qc .i64) j.1))]) M Zf ?_ ?_)
  .exact En (Ep (s:=2) (k:=1) (t:=3) (XP Z) Z) (Lr [0])
  intro j R a w;refine G0 6 Z (Q5 Z a (λ_ a=>?_) (λ_ a=>?_))
  .exact Gc 2 Z (Qi a (Gx 1 Z (JD w a Z (Lr [0]))))
  refine Gc 6 Z (Bd a λN B a=>CQ B (QP N) Z (Go 9 Z (vH (Ek (xs:=[.tmp 13]) Qs Z Z Z Z Z ⟨Z,trivial⟩ Z Z) ?_)));refine Fg 11 Z Z (Bd a λl e a=>Ct l [0,1,0] [2,4,6,7,8] (λl=>[(5,.osl 2 0 l.length 1)]) (λl=>[(2,.row 3 1 (map (Qc .i64) l))]) Zf ?_ (λenv H x=>?_))
  .refine G0 0 Z (Cn Z e (λ_ e=>?_) (λ_ e=>?_))
   .exact Gc 3 Z (Cd [] e (p _) Z λT Q e=>FE Z (Gl 2 Z e [0,1,3]))
   exact YM 1 Z e [0,1,2]
  refine Gx 1 Z (Qd x (Gc 4 Z ?_));refine vV (AK.max Z Z Z Z) ?_;refine Go 3 Z (Bd a λO P a=>DD (b:=O) [0] [6,7,8] (λg=>[(2,.osl 0 0 g.length 1)]) (λg=>[(0,.row 3 1 (map (Qc .i64) g))]) Zf ?_ (λg env H u x=>?_))
  .refine G0 1 Z (Lp [0,2] [5,6,7,8,23] (λm=>[(2,.osl 0 0 m.1.length 1),(24,I m.2)]) (λm=>[(0,.row 3 1 (map (Qc .i64) m.1))]) P Zf (Lr [0,2]) λm V d y=>?_);refine G0 6 Z (Q5 Z d (λ_ d=>?_) (λ_ d=>?_))
   .exact Gc 2 Z (Qi d (Gx 1 Z (JD y d Z (Lr [0]))))
   refine Gc 12 Z (Cn Z d (λ_ d=>?_) (λ_ d=>?_))
   .refine Gc 10 Z (Qx d ?_);obtain rfl:=Oj y d;refine Gx 1 Z (Qq (Gx 2 Z (Qx a ?_)));obtain rfl:=Oj w a;exact Gx 1 Z (Qq (Gx 1 Z (Rt h 2 [0])))
   refine Gc 5 Z (Bd d λW J d=>vH (Qh J Qs EB (QF (i:=1))) ?_);exact Fg 8 Z Z (Qg d (Lr [2,1]))
  subst u;exact Gx 2 Z (Qd x (Gc 4 Z (Qg a (Lr [0]))))
 subst u;exact QJ 7 Z h 2 [0]
def PI:Nat->(AA AF)->AB (AA Int)
  |0=>λ_=>none
  |n+1=>dA (PI n) n
theorem tc:∀(a:AA AF) (r:AA Int),PI n a=some r->C prog 111 [.rsl 3 (map AF.enc a)] [] (RQ (λr=>.osl 0 0 r.length 1) (λr=>[.row 3 1 (map (Qc .i64) r)]) r):=by
  induction n with
  |zero=>intro a r h;cases h
  |succ n ih=>intro a r h;exact QdB _ ih n a r h
def Ma(n:Nat)(a:AP)(d:AA (Int×Int)):AB Bool:=(some (QH d a.Mat 0)).bind λe=>some (decide (a.Lap<=e))
theorem iT(a:AP)(d:AA (Int×Int)):Ks (Ma n a d) 112 [.agg (AP.c a),.ptr 0 0] [.cells 219 [.map 1],.map (Qt (λx=>A.int .i64 x) (λx=>A.int .i64 x) d)] (λr=>.bool r):=by
 refine Kg 11 func112 Z Z Z Z λr h=>Bd h λf e h=>(vV (Jr Ja e GD GM ZR.int) ?_);exact Gt 7 Z h 3 [0,1]
def ZU(a:AP)(d:AA (Int×Int)):AB Bool:=(Ma n a d).bind λe=>some (!e)
theorem eH(a:AP)(d:AA (Int×Int)):Ks (ZU n a d) 155 [.agg (AP.c a),.ptr 0 0] [.cells 194 [.fn (.func 112) [] [.ptr 1 0]],.cells 219 [.map 2],.map (Qt (λx=>A.int .i64 x) (λx=>A.int .i64 x) d)] (λr=>.bool r):=by
 exact Kg 10 func155 Z Z Z Z λr h=>Cz [1,2] h (iT _ _ _) Z λf e h=>Gt 5 Z h 3 [0,1,2]
def mJ(d:AA AP)(g:AA (Int×Int))(a:Int):AB (AG Int (AG Unit Int)):=(bif a<(d.length:Int) then(AJ d a).bind λe=>(ZU n e g).bind λf=>(bif f then some (.d (.d a))else some (.k (i64.wrap (a+1))))else some (.d (.k ())))
def Zr(e:AA AP)(f:AA (Int×Int)):AB Int:=(iter (mJ n e f) n 0:AB (AG Unit Int)).bind λd=>match d with|.k a=>(some (-1))|.d a=>some a
theorem e7(j:AA AP)(k:AA (Int×Int)):Ks (Zr n j k) 205 [.rsl 3 (map AP.c j),.fn (.func 155) [] [.ptr 0 0]] [.cells 194 [.fn (.func 112) [] [.ptr 1 0]],.cells 219 [.map 2],.map (Qt (λx=>A.int .i64 x) (λx=>A.int .i64 x) k)] (λr=>I r):=by
 refine Kg 9 func205 Z Z Z Z λr h=>Lg 3 Z Z (Bd h λl m h=>BZ (b:=l) [0,1,2] [] Ze Ze Zf ?_ (λ_ p=>?_))
 .refine G0 1 Z (Lp [0,1,2] [0,1,7] (λe=>[(8,I e)]) Ze m Zf (Lr [0,1,2]) λe t a d=>(G0 6 Z (Q5 Z a (λ_ a=>?_) (λ_ a=>?_))))
  .exact Gc 2 Z (Qi a (Gx 1 Z (JD d a Z (Lr [0,1,2]))))
  refine Gc 15 Z (Bd a λu g a=>Iz g Z (Go 1 Z (Cz [0,1,2] a (eH _ _ _) Z λw s a=>Go 2 Z (Cn Z a (λ_ a=>?_) (λ_ a=>?_)))))
  .refine Gc 9 Z (Qx a ?_);obtain rfl:=Oj d a;exact Gx 1 Z (Qq (Gx 1 Z (Rt h 4 [0,1,2])))
  exact Gc 7 Z (Qg a (Lr [0,1,2]))
 subst p;exact QJ 6 Z h 4 [0,1,2]
def ZY(a:AA AP)(d:AA (Int×Int)):AB Bool:=(Zr n a d).bind λe=>some (decide (0<=e))
theorem eM(a:AA AP)(d:AA (Int×Int)):Ks (ZY n a d) 154 [.rsl 3 (map AP.c a),.fn (.func 155) [] [.ptr 0 0]] [.cells 194 [.fn (.func 112) [] [.ptr 1 0]],.cells 219 [.map 2],.map (Qt (λx=>A.int .i64 x) (λx=>A.int .i64 x) d)] (λr=>.bool r):=by
 exact Kg 9 func154 Z Z Z Z λr h=>Cz [0,1,2] h (e7 _ _ _) Z λf e h=>Gt 5 Z h 4 [0,1,2]
def ZF(a:AA AP)(d:AA (Int×Int)):AB Bool:=(ZY n a d).bind λe=>some (!e)
theorem d3(a:AA AP)(d:AA (Int×Int)):Ks (ZF n a d) 90 [.rsl 3 (map AP.c a),.fn (.func 112) [] [.ptr 0 0]] [.cells 219 [.map 1],.map (Qt (λx=>A.int .i64 x) (λx=>A.int .i64 x) d)] (λr=>.bool r):=by
 exact Kg 10 func90 Z Z Z Z λr h=>Cz [2,0,1] h (eM _ _ _) Z λf e h=>Gt 5 Z h 4 [0,1]
def HH(n:Nat)(l:AE)(m:AA (Uh×Bool))(e:AA Int)(a:(AA (Int×Int))×Int):AB (AG ((AA (Int×Int))×Int) (AG (AA (Int×Int)) Bool)):=(bif a.2<(e.length:Int) then(AJ e a.2).bind λd=>(AJ l.Mats d).bind λf=>((bif ((f.Kind==1) != (a.2==0))then some true else(bif ((f.Kind==3) != (a.2==(i64.wrap ((e.length:Int)-1))))then some true else(bif 0<a.2 then(AJ e (i64.wrap (a.2-1))).bind λg=>(some (QH m ({from_:=g,to_:=d:Uh}) false)).bind λh=>some (!h)else some false))):AB Bool).bind λi=>(bif i then some (.d (.d false))else(some (QH a.1 d 0)).bind λj=>(some (QR a.1 d (i64.wrap (j+1)))).bind λk=>some (.k (k,i64.wrap (a.2+1))))else some (.d (.k a.1)))
def MQ(f:AE)(d:Distance)(g:AA (Uh×Bool)):AB Bool:=(PI n d.Route).bind λe=>((bif (i64.wrap ((e.length:Int)-1))<1 then some true else some (decide (256<=(i64.wrap ((e.length:Int)-1))))):AB Bool).bind λp=>(bif p then some false else(iter (HH n f g e) n ([],0):AB (AG (AA (Int×Int)) Bool)).bind λh=>match h with|.k a=>(((bif 0<=d.Extra then(some (QH a d.Extra 0)).bind λi=>(bif (i==0)then some true else(AJ f.Mats d.Extra).bind λj=>(bif (j.Kind != 2)then some true else(some (QH g ({from_:=d.Extra,to_:=d.Extra:Uh}) false)).bind λk=>some (!k)))else some false):AB Bool).bind λl=>(bif l then some false else(ZF n d.Cutoffs a).bind λm=>some m))|.d a=>some a)
theorem iJ(a1:AE)(m:Distance)(y:AA (Uh×Bool)):Ks (MQ n a1 m y) 43 [.agg (AE.c a1),.agg (Distance.c m),.map 0] [.map (Qt (λx=>A.agg (Uh.c x)) A.bool y)] (λr=>.bool r):=by
 refine Kg 11 func43 Z Z Z Z λr h=>Cd [] h (tc _ _) Z λr1 am h=>Fg 13 Z Z (Bd h λF p h=>Ct F [0,1,2,3] [2,3,4,7,8] (λF=>[(25,.bool F)]) Ze Zf ?_ (λenv H g=>?_))
 .refine G0 4 Z (Is 22 p Z (λ_ p=>?_) (λ_ p=>?_))
  iterate 2 exact Gl 4 Z p [0,1,2,3]
 refine Gx 1 Z (Qd g (Cn Z h (λ_ h=>?_) (λ_ h=>?_)))
 .exact QJ 7 Z h 6 [0]
 refine Gc 4 Z (vH Yn ?_);refine Fg 12 Z Z (Bd h λaf ag h=>DD (b:=af) [0,1,2,4,5] [2,3,4] (λ_=>[(9,.ptr 3 0)]) (λi=>[(3,.cells 219 [.map 4]),(4,.map (Qt (λx=>A.int .i64 x) (λx=>A.int .i64 x) i))]) Zf ?_ (λi env H ah g=>?_))
 .refine G0 1 Z (Lp [0,1,2,3,5,4] [2,3,4,7,8,9,27,28] (λf=>[(29,I f.2)]) (λf=>[(4,.cells 219 [.map 5]),(5,.map (Qt (λx=>A.int .i64 x) (λx=>A.int .i64 x) f.1))]) ag Zf (Lr [0,1,2,3,5,4]) λf an a q=>?_);refine G0 6 Z (Q5 Z a (λ_ a=>?_) (λ_ a=>?_))
  .exact Gc 2 Z (Qi a (Gx 1 Z (JD q a Z (Lr [0,1,2,4,5]))))
  refine Gc 7 Z (Bd a λj s a=>?_);refine vX (.ptr 3 (toNat f.2*1)) (Qn s Z EB EG) ?_;refine vX (I j) (Ez Z EH Z (Qj s)) ?_;refine Go 9 Z (Bd a λz J a=>Iz J Z (Go 7 Z (Bd a λt e a=>Ct t [0,1,2,3,4,5] [2,3,4,7,8,9,11,27,28,29] (λt=>[(68,.bool t)]) Ze Zf ?_ (λenv H g=>?_))))
  .refine G0 5 Z ?_;refine vX (.bool ((z.Kind==1) != (f.2==0))) (rk runUnderlying4) ?_;refine Go 1 Z (Is 45 e Z (λ_ e=>?_) (λ_ e=>?_))
   .exact Gl 24 Z e [0,1,2,3,4,5]
   .refine Go 5 Z ?_;refine vV (x:=(.bool ((z.Kind==3) != (f.2==(i64.wrap ((r1.length:Int)-1)))))) (rk runUnderlying4) ?_ (gT Z);refine Go 2 Z (Is 53 e Z (λ_ e=>?_) (λ_ e=>?_))
    .exact Gl 16 Z e [0,1,2,3,4,5]
    .refine Go 3 Z (Is 56 e Z (λ_ e=>?_) (λ_ e=>?_))
     .refine Go 4 Z (Bd e λB u e=>?_);refine vX (.ptr 3 (toNat (i64.wrap (f.2-1))*1)) (Qn u Z EB EG) ?_ (gT Z);refine vX (I B) (Ez Z EH Z (Qj u)) ?_ (gT Z);refine Go 2 Z (Bd e λai O e=>?_);refine vX (.bool ai) (Jr (ev:=A.bool) (z0:=false) (k:=({from_:=B,to_:=j:Uh})) (l:=y) bK O Gv Gh ZR.bool) ?_ (gT Z);exact Gl 4 Z e [0,1,2,3,4,5]
     .exact Gl 13 Z e [0,1,2,3,4,5]
  refine Gx 1 Z (Qd g (Cn Z a (λ_ a=>?_) (λ_ a=>?_)))
  .refine Gc 9 Z (Qx a ?_);obtain rfl:=Oj q a;exact Gx 1 Z (Qq (Gx 1 Z (Rt h 6 [0])))
  refine Gc 5 Z (Bd a λE Q a=>?_);refine vX (I E) (Jr (ev:=(λx=>A.int .i64 x)) (z0:=0) (k:=j) (l:=f.1) Ja Q GD GM ZR.int) ?_;refine Go 1 Z (Bd a λao R a=>?_);refine vU (Yl (ev:=(λx=>A.int .i64 x)) (k:=j) (v:=(i64.wrap (E+1))) (l:=f.1) Ja R Z GD) ?_;exact Fg 7 Z Z (Qg a (Lr [0,1,2,3,4,5]))
 subst ah;refine Gx 1 Z (Qd g (Gc 9 Z (Bd h λw d h=>Cg w [0,2,3,4] [4,9] (λw=>[(100,.bool w)]) (λ_=>[(2,.cells 219 [.map 3])]) Zf ?_ ?_)))
 .refine G0 4 Z (Is 78 d Z (λ_ d=>?_) (λ_ d=>?_))
  .refine Go 2 Z (Bd d λaj V d=>?_);refine vX (I aj) (Jr (ev:=(λx=>A.int .i64 x)) (z0:=0) (k:=m.Extra) (l:=i) Ja V GD GM ZR.int) ?_ (gT Z);refine Go 2 Z (Is 83 d Z (λ_ d=>?_) (λ_ d=>?_))
   .exact Gl 18 Z d [0,2,3,4]
   .refine Go 3 Z (Bd d λaq X d=>Iz X Z (Go 5 Z (Is 92 d Z (λ_ d=>?_) (λ_ d=>?_))))
    .exact Gl 9 Z d [0,2,3,4]
    .refine Go 4 Z (Bd d λak aa d=>?_);refine vX (.bool ak) (Jr (ev:=A.bool) (z0:=false) (k:=({from_:=m.Extra,to_:=m.Extra:Uh})) (l:=y) bK aa Gv Gh ZR.bool) ?_ (gT Z);exact Gl 4 Z d [0,2,3,4]
  .exact Gl 23 Z d [0,2,3,4]
 refine Cn Z h (λ_ h=>?_) (λ_ h=>?_)
 .exact QJ 7 Z h 6 [0]
 exact Gc 7 Z (Cz [2,3] h (d3 _ _ _) Z λar al h=>Gt 4 Z h 6 [0])
def RM(a:Distance)(d:AE)(e:AA (Uh×Bool)):AB Bool:=(MQ n d a e).bind λf=>some f
theorem fY(a:Distance)(d:AE)(e:AA (Uh×Bool)):Ks (RM n a d e) 42 [.agg (Distance.c a),.ptr 0 0,.ptr 1 0] [.cells 33 (AE.c d),.cells 125 [.map 2],.map (Qt (λx=>A.agg (Uh.c x)) A.bool e)] (λr=>.bool r):=by
 exact Kg 11 func42 Z Z Z Z λr h=>Cz [2] h (iJ _ _ _ _) Z λg f h=>Gt 4 Z h 4 [0,1,2]
def ZO(a:Distance)(d:AE)(e:AA (Uh×Bool)):AB Bool:=(RM n a d e).bind λf=>some (!f)
theorem eA(a:Distance)(d:AE)(e:AA (Uh×Bool)):Ks (ZO n a d e) 110 [.agg (Distance.c a),.ptr 0 0] [.cells 130 [.fn (.func 42) [] [.ptr 1 0,.ptr 2 0]],.cells 33 (AE.c d),.cells 125 [.map 3],.map (Qt (λx=>A.agg (Uh.c x)) A.bool e)] (λr=>.bool r):=by
 exact Kg 10 func110 Z Z Z Z λr h=>Cz [1,2,3] h (fY _ _ _ _) Z λg f h=>Gt 5 Z h 3 [0,1,2,3]
def mN(d:AA Distance)(g:AE)(h:AA (Uh×Bool))(a:Int):AB (AG Int (AG Unit Int)):=(bif a<(d.length:Int) then(AJ d a).bind λe=>(ZO n e g h).bind λf=>(bif f then some (.d (.d a))else some (.k (i64.wrap (a+1))))else some (.d (.k ())))
def Zb(e:AA Distance)(f:AE)(g:AA (Uh×Bool)):AB Int:=(iter (mN n e f g) n 0:AB (AG Unit Int)).bind λd=>match d with|.k a=>(some (-1))|.d a=>some a
theorem eP(j:AA Distance)(k:AE)(l:AA (Uh×Bool)):Ks (Zb n j k l) 171 [.rsl 5 (map Distance.c j),.fn (.func 110) [] [.ptr 0 0]] [.cells 130 [.fn (.func 42) [] [.ptr 1 0,.ptr 2 0]],.cells 33 (AE.c k),.cells 125 [.map 3],.map (Qt (λx=>A.agg (Uh.c x)) A.bool l)] (λr=>I r):=by
 refine Kg 9 func171 Z Z Z Z λr h=>Lg 3 Z Z (Bd h λm p h=>BZ (b:=m) [0,1,2,3] [] Ze Ze Zf ?_ (λ_ q=>?_))
 .refine G0 1 Z (Lp [0,1,2,3] [0,1,7] (λe=>[(8,I e)]) Ze p Zf (Lr [0,1,2,3]) λe u a d=>(G0 6 Z (Q5 Z a (λ_ a=>?_) (λ_ a=>?_))))
  .exact Gc 2 Z (Qi a (Gx 1 Z (JD d a Z (Lr [0,1,2,3]))))
  refine Gc 15 Z (Bd a λw g a=>Iz g Z (Go 1 Z (Cz [0,1,2,3] a (eA _ _ _ _) Z λy t a=>Go 2 Z (Cn Z a (λ_ a=>?_) (λ_ a=>?_)))))
  .refine Gc 9 Z (Qx a ?_);obtain rfl:=Oj d a;exact Gx 1 Z (Qq (Gx 1 Z (Rt h 4 [0,1,2,3])))
  exact Gc 7 Z (Qg a (Lr [0,1,2,3]))
 subst q;exact QJ 6 Z h 4 [0,1,2,3]
def ZI(a:AA Distance)(d:AE)(e:AA (Uh×Bool)):AB Bool:=(Zb n a d e).bind λf=>some (decide (0<=f))
theorem d6(a:AA Distance)(d:AE)(e:AA (Uh×Bool)):Ks (ZI n a d e) 109 [.rsl 5 (map Distance.c a),.fn (.func 110) [] [.ptr 0 0]] [.cells 130 [.fn (.func 42) [] [.ptr 1 0,.ptr 2 0]],.cells 33 (AE.c d),.cells 125 [.map 3],.map (Qt (λx=>A.agg (Uh.c x)) A.bool e)] (λr=>.bool r):=by
 exact Kg 9 func109 Z Z Z Z λr h=>Cz [0,1,2,3] h (eP _ _ _ _) Z λg f h=>Gt 5 Z h 4 [0,1,2,3]
def Rd(a:AA Distance)(d:AE)(e:AA (Uh×Bool)):AB Bool:=(ZI n a d e).bind λf=>some (!f)
theorem f6(a:AA Distance)(d:AE)(e:AA (Uh×Bool)):Ks (Rd n a d e) 41 [.rsl 5 (map Distance.c a),.fn (.func 42) [] [.ptr 0 0,.ptr 1 0]] [.cells 33 (AE.c d),.cells 125 [.map 2],.map (Qt (λx=>A.agg (Uh.c x)) A.bool e)] (λr=>.bool r):=by
 exact Kg 10 func41 Z Z Z Z λr h=>Cz [3,0,1,2] h (d6 _ _ _ _) Z λg f h=>Gt 5 Z h 4 [0,1,2]
def Ls(n:Nat)(e:AE)(a:(AA (Uh×Bool))×Int):AB (AG ((AA (Uh×Bool))×Int) (AA (Uh×Bool))):=(bif a.2<(e.Legs.length:Int) then(AJ e.Legs a.2).bind λd=>(some (QR a.1 ({from_:=d.From,to_:=d.To:Uh}) true)).bind λf=>some (.k (f,i64.wrap (a.2+1)))else some (.d a.1))
def Hu(a:AE):AB Int:=(L9 n a).bind λg=>(bif (!g)then some 2 else(Rs n a).bind λh=>(bif (!h)then some 70 else(MG n a).bind λi=>(bif (!i)then some 71 else(P9 n a.Ties).bind λd=>(bif (d != 0)then some d else(iter (Ls n a) n ([],0):AB (AA (Uh×Bool))).bind λe=>(Rd n a.Distances a e).bind λf=>(bif (!f)then some 72 else some 0)))))
theorem dZ(l:AE):Ks (Hu n l) 18 [.agg (AE.c l)] [] (λr=>I r):=by
 refine Kg 11 func18 Z Z Z Z λr h=>Cz [] h (gz _ _) Z λJ w h=>Go 4 Z (Cn Z h (λ_ h=>?_) (λ_ h=>?_))
 .exact QJ 8 Z h 2 []
 refine Gc 3 Z (Cz [] h (gK _ _) Z λL y h=>Go 4 Z (Cn Z h (λ_ h=>?_) (λ_ h=>?_)))
 .exact QJ 8 Z h 2 []
 refine Gc 3 Z (Cz [] h (iA _ _) Z λM z h=>Go 4 Z (Cn Z h (λ_ h=>?_) (λ_ h=>?_)))
 .exact QJ 8 Z h 2 []
 refine Gc 8 Z (Cz [] h (fK _ _) Z λN B h=>Go 9 Z (Cn Z h (λ_ h=>?_) (λ_ h=>?_)))
 .exact QJ 8 Z h 2 []
 refine Gc 4 Z (vH Yn ?_);refine Fg 9 Z Z (Lg 3 Z Z (Bd h λe t h=>Cg e [0,1,2] [1] (λ_=>[(3,.ptr 1 0)]) (λe=>[(1,.cells 125 [.map 2]),(2,.map (Qt (λx=>A.agg (Uh.c x)) A.bool e))]) Zf ?_ ?_))
 .refine G0 1 Z (Lp [0,2,1] [1,3,26,27] (λd=>[(28,I d.2)]) (λd=>[(1,.cells 125 [.map 2]),(2,.map (Qt (λx=>A.agg (Uh.c x)) A.bool d.1))]) t Zf (Lr [0,2,1]) λd E a f=>?_);refine G0 6 Z (Q5 Z a (λ_ a=>?_) (λ_ a=>?_))
  .exact Gc 2 Z (Qi a (Gx 1 Z (JC f a (Lr [0,1,2]))))
  refine Gc 6 Z (Bd a λF i a=>Iz i Z (Go 12 Z (Bd a λG j a=>?_)));exact vU (Yl bK j Z Gv) (Fg 7 Z Z (Qg a (Lr [0,1,2])))
 refine Gc 6 Z (Cz [0,1,2] h (f6 _ _ _ _) Z λH u h=>Go 3 Z (Cn Z h (λ_ h=>?_) (λ_ h=>?_)))
 .exact QJ 7 Z h 2 []
 exact QJ 8 Z h 2 []
def P7(n:Nat)(a:AE)(d:AA AC):AB Unit:=some ()
theorem fI(a:AE)(d:AA AC):Kq (P7 n a d) 19 [.agg (AE.c a),.rsl 57 (map AC.c d)] [] (λ_=>.fn (.func 44) [] [.ptr 0 0,.ptr 1 0]) (λ_=>[.cells 34 [.rsl 57 (map AC.c d)],.cells 33 (AE.c a)]):=by
 refine Kg 3 func19 Z Z Z Z λr h=>vH (CD.box Z Z Z Z Z) ?_;exact FE Z (Gt 10 Z h 4 [1,0])
end Go.Sw
