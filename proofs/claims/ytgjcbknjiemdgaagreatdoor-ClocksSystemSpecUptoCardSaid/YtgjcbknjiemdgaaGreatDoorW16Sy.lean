/- What the functions compute that ClocksSystemSpec reaches, and that their calls refine it (part 4 of 4). -/
import Derived.Test.YtgjcbknjiemdgaaGreatDoorW16Sy3
set_option linter.unusedVariables false
set_option linter.unusedSimpArgs false
set_option maxRecDepth 100000
set_option maxHeartbeats 4000000
namespace Go.Sw
open List(map)
open Int(toNat)
open Go.IntKind(i64 u64 u8)
open Go.Proofs Tryz
def F_dz(n:Nat)(e:Course)(d:List Int)(a:Int):Option (Ctl Int (Ctl Unit Bool)):=(bif decide (a<(d.length:Int))then((bif (a==0)then some 1 else(bif (a==(i64.wrap ((d.length:Int)-1)))then some 3 else some 2)):Option Int).bind λf=>((idx d a).bind λg=>(idx e.Mats g).bind λh=>(bif (h.Kind != f)then some true else(bif decide (0<a)then(idx d (i64.wrap (a-1))).bind λi=>(idx d a).bind λj=>(F_bf n e i j).bind λk=>some (decide (k<0))else some false)):Option Bool).bind λl=>(bif l then some (.done (.done false))else some (.cont (i64.wrap (a+1))))else some (.done (.cont ())))
def F_kb(n:Nat)(d:Distance)(h:List Int)(a:Int):Option (Ctl Int (Ctl Unit Bool)):=(bif decide (a<(d.Cutoffs.length:Int))then(idx d.Cutoffs a).bind λe=>(F_bk n h e.Mat).bind λf=>(idx d.Cutoffs a).bind λg=>(bif decide (f<g.Lap)then some (.done (.done false))else some (.cont (i64.wrap (a+1))))else some (.done (.cont ())))
def F_de(n:Nat)(g:Course)(a:Distance):Option Bool:=(F_ag n a.Route).bind λd=>((bif decide ((d.length:Int)<2)then some true else some (decide (256<(d.length:Int)))):Option Bool).bind λp=>(bif p then some false else(iter (F_dz n g d) n 0:Option (Ctl Unit Bool)).bind λh=>match h with|.cont e=>(((bif (a.Extra != (-1))then(idx g.Mats a.Extra).bind λi=>(bif (i.Kind != 2)then some true else(F_bk n d a.Extra).bind λj=>(bif (j==0)then some true else(F_bf n g a.Extra a.Extra).bind λk=>some (decide (k<0))))else some false):Option Bool).bind λl=>(bif l then some false else(iter (F_kb n a d) n 0:Option (Ctl Unit Bool)).bind λm=>match m with|.cont f=>(some true)|.done f=>some f))|.done e=>some e)
theorem k_de(n:Nat)(a1:Course)(a2:Distance):Ks (F_de n a1 a2) 91 [.agg (Course.c a1),.agg (Distance.c a2)] [] (λr=>.bool r):=by
 refine Kg 11 func91 Z Z Z Z λr h=>Cd [] h (k_ag _ _) Z λr1 ax h=>FE Z (Go 12 Z (Bd h λO p h=>?_));refine Ct O [0,1,2] [2,3,5,6] (λO=>[(20,.bool O)]) Ze Zf ?_ (λenv H g=>?_)
 .refine G0 4 Z (Is 17 p Z (λaf p=>?_) (λaf p=>?_))
  iterate 2 exact Go 4 Z (Cl p [0,1,2])
 refine Gx 1 Z (Qd g (Cn Z h (λag h=>?_) (λag h=>?_)))
 .exact Gc 7 Z (Rt h 4 [])
 refine Gc 8 Z (Bd h λah ai h=>?_);refine Jk (b:=ah) [0,1,2] [2,3,5] Ze Ze Zf ?_ (λao env H q g=>?_)
 .refine G0 1 Z ?_;refine Lp [0,1,2] [2,3,5,6] (λj=>[(7,I j)]) Ze ai Zf (Lr [0,1,2]) λj ay f s=>?_;refine G0 8 Z (Yk Z f (λP f=>?_) (λP f=>?_))
  .refine Gc 2 Z (Qk f ?_);obtain rfl:=Oj s f;exact Gx 1 Z (Qq Z (Lr [0,1,2]))
  refine Gc 22 Z (Bd f λt i f=>?_);refine Ct t [0,1,2] [2,3,5,6,7] (λt=>[(8,I t)]) Ze Zf ?_ (λenv H g=>?_)
  .refine G0 0 Z (Cn Z i (λQ i=>?_) (λQ i=>?_))
   .exact Gc 3 Z (Cl i [0,1,2])
   refine Gc 8 Z (Cn Z i (λR i=>?_) (λR i=>?_))
   .exact Gc 3 Z (Cl i [0,1,2])
   exact Gc 1 Z (Cl i [0,1,2])
  refine Gx 2 Z (Qd g (Gc 1 Z (Bd f λu d f=>?_)));refine Ct u [0,1,2] [2,3,5,6,7] (λu=>[(61,.bool u)]) Ze Zf ?_ (λenv H g=>?_)
  .refine G0 0 Z (DSs 25 Z (D 4 Z ?_));obtain⟨aj,w,d⟩:=Yl d;refine DS.v (x:=(.ptr 2 (toNat j*1))) (Qv w Z EA ED) ?_;refine DS.v (x:=(I aj)) (Ey Z EF Z (Qm w)) ?_;obtain⟨N,T,d⟩:=Yl d;refine DS.wo (x:=.rp [.str N.Name,I N.Kind]) ?_ ?_
   .exact Ix T runUnderlying22 sizeOf119 Z Wp
   refine D 5 Z (Qas 11 d Z Z Z (λV d=>?_) (λV d=>?_))
   .exact D 13 Z (Eg Z (Go 5 Z (Cl d [0,1,2])))
   .refine D 3 Z (Qas 14 d Z Z Z (λW d=>?_) (λW d=>?_))
    .refine D 4 Z ?_;obtain⟨ak,y,d⟩:=Yl d;refine DS.v (x:=(.ptr 2 (toNat (i64.wrap (j-1))*1))) (Qv y Z EA ED) ?_ (hg:=(gT Z));refine DS.v (x:=(I ak)) (Ey Z EF Z (Qm y)) ?_ (hg:=(gT Z));refine D 2 Z ?_;obtain⟨al,z,d⟩:=Yl d;refine DS.v (x:=(.ptr 2 (toNat j*1))) (Qv z Z EA ED) ?_ (hg:=(gT Z));refine DS.v (x:=(I al)) (Ey Z EF Z (Qm z)) ?_ (hg:=(gT Z));exact Eg Z (Cz [] d (k_bf _ _ _ _) Z λaz aq d=>Go 4 Z (Cl d [0,1,2]))
    .exact D 10 Z (Eg Z (Go 5 Z (Cl d [0,1,2])))
  refine Gx 1 Z (Qd g (Cn Z f (λX f=>?_) (λX f=>?_)))
  .refine Gc 8 Z (Qy f ?_);obtain rfl:=Oj s f;exact Gx 1 Z (Qu (Gx 1 Z (Rt h 4 [])))
  exact Gc 8 Z (Qj f (Lr [0,1,2]))
 subst q;refine Gx 1 Z (Qd g (Gc 2 Z (Bd h λB e h=>?_)));refine Ct B [1,2] [3,5] (λB=>[(90,.bool B)]) Ze Zf ?_ (λenv H g=>?_)
 .refine G0 5 Z (Is 65 e Z (λY e=>?_) (λY e=>?_))
  .refine Go 4 Z (Bd e λba aa e=>Iz aa Z (Go 4 Z (Is 74 e Z (λab e=>?_) (λab e=>?_))))
   .exact Go 17 Z (Cl e [1,2])
   .refine Go 3 Z (Cb e (k_bk _ _ _) Z (lo (ls ln)) λbb ar e=>Go 3 Z (Is 81 e Z (λac e=>?_) (λac e=>?_)))
    .exact Go 10 Z (Cl e [1,2])
    .exact Go 5 Z (Cz [] e (k_bf _ _ _ _) Z λbc au e=>Go 4 Z (Cl e [1,2]))
  .exact Go 26 Z (Cl e [1,2])
 refine Gx 1 Z (Qd g (Cn Z h (λad h=>?_) (λad h=>?_)))
 .exact Gc 7 Z (Rt h 4 [])
 refine Gc 8 Z (Bd h λam an h=>?_);refine Jk (b:=am) [] [] Ze Ze Zf ?_ (λav env H q g=>?_)
 .refine G0 1 Z ?_;refine Lp [0,1] [3,5] (λE=>[(9,I E)]) Ze an Zf (Lr [0,1]) λE aw a m=>?_;refine G0 6 Z (Lm Z (Go 3 Z (Yk Z a (λF a=>?_) (λF a=>?_))))
  .refine Gc 2 Z (Qk a ?_);obtain rfl:=Oj m a;exact Gx 1 Z (Qq Z (Lr []))
  refine Gc 5 Z (DSs 14 Z (D 4 Z ?_));obtain⟨k,G,a⟩:=Yl a;refine DS.wo (x:=.rp [I k.Mat,I k.Lap,I k.Limit]) ?_ ?_
  .exact Ix G Gu sizeOf215 Z Wp
  refine D 2 Z ?_;obtain⟨ae,J,a⟩:=Yl a;refine DS.wo (x:=I ae) ?_ ?_
  .refine Qjb (OpC.fn call171 rfl rfl rfl) (Qbj.cons rfl (.inr ⟨_,_,_,_,_,rfl,rfl,XZ ..,rfl⟩) (Qbj.cons rfl (.inl ⟨rfl,rfl⟩) Qbj.nil)) (k_bk _ _ _ _ J) (by rintro _ _ ⟨rfl,rfl⟩;rfl) ?_;rintro _ _ ⟨rfl,rfl⟩;exact FE Z Wp
  refine D 3 Z ?_;obtain⟨l,L,a⟩:=Yl a;refine DS.wo (x:=.rp [I l.Mat,I l.Lap,I l.Limit]) ?_ ?_
  .exact Ix L Gu sizeOf215 Z Wp
  refine D 2 Z (Eg Z (Go 3 Z (Cn Z a (λM a=>?_) (λM a=>?_))))
  .refine Gc 8 Z (Qy a ?_);obtain rfl:=Oj m a;exact Gx 1 Z (Qu (Gx 1 Z (Rt h 4 [])))
  exact Gc 8 Z (Qj a (Lr [0,1]))
 subst q;exact Gx 1 Z (Qd g (Gc 6 Z (Rt h 4 [])))
def F_kk(n:Nat)(d:Course)(a:Int):Option (Ctl Int (Ctl Unit Int)):=(bif decide (a<(d.Distances.length:Int))then(idx d.Distances a).bind λe=>(F_de n d e).bind λf=>(bif (!f)then some (.done (.done 72))else some (.cont (i64.wrap (a+1))))else some (.done (.cont ())))
def F_bl(n:Nat)(a:Course):Option Int:=(F_cu n a).bind λg=>(bif (!g)then some 2 else(F_gn n a).bind λh=>(bif (!h)then some 70 else(F_ee n a).bind λi=>(bif (!i)then some 71 else(F_fh n a.Ties).bind λe=>(bif (e != 0)then some e else(iter (F_kk n a) n 0:Option (Ctl Unit Int)).bind λf=>match f with|.cont d=>(some 0)|.done d=>some d))))
theorem k_bl(n:Nat)(k:Course):Ks (F_bl n k) 43 [.agg (Course.c k)] [] (λr=>I r):=by
 refine Kg 10 func43 Z Z Z Z λr h=>Cz [] h (k_cu _ _) Z λM B h=>Go 3 Z (Cn Z h (λl h=>?_) (λl h=>?_))
 .exact Gc 7 Z (Rt h 2 [])
 refine Gc 6 Z (Cz [] h (k_gn _ _) Z λN E h=>Go 3 Z (Cn Z h (λm h=>?_) (λm h=>?_)))
 .exact Gc 7 Z (Rt h 2 [])
 refine Gc 6 Z (Cz [] h (k_ee _ _) Z λO F h=>Go 3 Z (Cn Z h (λp h=>?_) (λp h=>?_)))
 .exact Gc 7 Z (Rt h 2 [])
 refine Gc 6 Z (Cz [] h (k_fh _ _) Z λP G h=>Go 10 Z (Cn Z h (λq h=>?_) (λq h=>?_)))
 .exact Gc 8 Z (Rt h 2 [])
 refine Gc 8 Z (Bd h λs t h=>?_);refine Jk (b:=s) [] [] Ze Ze Zf ?_ (λy env H u w=>?_)
 .refine G0 1 Z ?_;refine Lp [0] [1] (λf=>[(4,I f)]) Ze t Zf (Lr [0]) λf J a e=>?_;refine G0 6 Z (Lm Z (Go 3 Z (Yk Z a (λg a=>?_) (λg a=>?_))))
  .refine Gc 2 Z (Qk a ?_);obtain rfl:=Oj e a;exact Gx 1 Z (Qq Z (Lr []))
  refine Gc 5 Z (DSs 6 Z (D 4 Z ?_));obtain⟨d,i,a⟩:=Yl a;refine DS.wo (x:=.rp [.str d.Name,.rsl 3 (map Part.enc d.Route),I d.Timing,.rsl 3 (map Cutoff.c d.Cutoffs),I d.Extra]) ?_ ?_
  .exact Ix i Gp GI Z Wp
  refine D 1 Z (Eg Z (Cz [] a (k_de _ _ _) Z λL z a=>Go 3 Z (Cn Z a (λj a=>?_) (λj a=>?_))))
  .refine Gc 8 Z (Qy a ?_);obtain rfl:=Oj e a;exact Gx 1 Z (Qu (Gx 1 Z (Rt h 2 [])))
  exact Gc 8 Z (Qj a (Lr [0]))
 subst u;exact Gx 1 Z (Qd w (Gc 6 Z (Rt h 2 [])))
def F_b(n:Nat)(a:Int)(d:Int)(e:Int):Option Bool:=((bif decide (d<=a)then some (decide (a<=e))else some false):Option Bool).bind λb2=>some b2
theorem k_b(n:Nat)(d:Int)(e:Int)(f:Int):Ks (F_b n d e f) 174 [I d,I e,I f] [] (λr=>.bool r):=by
 refine Kg 6 func174 Z Z Z Z λr h=>Bd h λb2 a h=>?_;refine Ct b2 [] [] (λb2=>[(6,.bool b2)]) Ze Zf ?_ (λenv H g=>?_)
 .refine G0 5 Z (Is 10 a Z (λi a=>?_) (λi a=>?_))
  iterate 2 exact Go 6 Z (Cl a [])
 exact Gx 1 Z (Qd g (Gc 1 Z (Rt h 6 [])))
def F_ar(n:Nat)(a:Int):Option Bool:=(F_b n a 0 31).bind λd=>some d
theorem Qlu(n:Nat)(a:Int):Ks (F_ar n a) 172 [I a] [] (λr=>.bool r):=by
 exact Kg 8 func172 Z Z Z Z λr h=>Cz [] h (k_b _ _ _ _) Z λe d h=>Go 4 Z (Rt h 2 [])
def F_az(n:Nat)(a:Int):Option Bool:=(F_b n a 1 1048576).bind λd=>some d
theorem QmP(n:Nat)(a:Int):Ks (F_az n a) 173 [I a] [] (λr=>.bool r):=by
 exact Kg 8 func173 Z Z Z Z λr h=>Cz [] h (k_b _ _ _ _) Z λe d h=>Go 4 Z (Rt h 2 [])
def F_e(n:Nat)(a:Int):Option Bool:=(F_b n a 1 9999).bind λd=>some d
theorem k_e(n:Nat)(a:Int):Ks (F_e n a) 230 [I a] [] (λr=>.bool r):=by
 exact Kg 8 func230 Z Z Z Z λr h=>Cz [] h (k_b _ _ _ _) Z λe d h=>Go 4 Z (Rt h 2 [])
def F_d(n:Nat)(a:Int):Option Bool:=(F_b n a (-1099511627776) 1099511627776).bind λd=>some d
theorem k_d(n:Nat)(a:Int):Ks (F_d n a) 228 [I a] [] (λr=>.bool r):=by
 exact Kg 8 func228 Z Z Z Z λr h=>Cz [] h (k_b _ _ _ _) Z λe d h=>Go 4 Z (Rt h 2 [])
def F_bn(n:Nat)(a:Int):Option Bool:=(F_b n a 0 1048576).bind λd=>some d
theorem k_bn(n:Nat)(a:Int):Ks (F_bn n a) 227 [I a] [] (λr=>.bool r):=by
 exact Kg 8 func227 Z Z Z Z λr h=>Cz [] h (k_b _ _ _ _) Z λe d h=>Go 4 Z (Rt h 2 [])
def F_fq(n:Nat)(a:Starter):Option Bool:=((F_e n a.Bib).bind λd=>(bif d then(F_b n a.Distance 0 7).bind λe=>(bif e then(F_b n a.Wave 0 31).bind λf=>(bif f then(F_d n a.Slot).bind λg=>(bif g then(F_b n a.Age 0 120).bind λh=>(bif h then(F_bn n a.Chip).bind λi=>(bif i then(F_b n a.Team 0 9999).bind λj=>(bif j then(F_b n a.Lot 0 1048576).bind λk=>some k else some false)else some false)else some false)else some false)else some false)else some false)else some false):Option Bool).bind λl=>some l
theorem k_fq(n:Nat)(m:Starter):Ks (F_fq n m) 224 [.agg (Starter.c m)] [] (λr=>.bool r):=by
 refine Kg 7 func224 Z Z Z Z λr h=>Bd h λd a h=>?_;refine Ct d [] [] (λd=>[(2,.bool d)]) Ze Zf ?_ (λenv H p=>?_)
 .refine G0 3 Z (Cz [] a (k_e _ _) Z λB q a=>Go 1 Z (Is 6 a Z (λe a=>?_) (λe a=>?_)))
  .refine Go 2 Z (Cz [] a (k_b _ _ _ _) Z λE s a=>Go 2 Z (Is 11 a Z (λf a=>?_) (λf a=>?_)))
   .refine Go 2 Z (Cz [] a (k_b _ _ _ _) Z λF t a=>Go 2 Z (Is 16 a Z (λg a=>?_) (λg a=>?_)))
    .refine Go 2 Z (Cz [] a (k_d _ _) Z λG u a=>Go 2 Z (Is 21 a Z (λi a=>?_) (λi a=>?_)))
     .refine Go 2 Z (Cz [] a (k_b _ _ _ _) Z λJ w a=>Go 2 Z (Is 26 a Z (λj a=>?_) (λj a=>?_)))
      .refine Go 2 Z (Cz [] a (k_bn _ _) Z λL x a=>Go 2 Z (Is 31 a Z (λk a=>?_) (λk a=>?_)))
       .refine Go 2 Z (Cz [] a (k_b _ _ _ _) Z λM y a=>Go 2 Z (Is 36 a Z (λl a=>?_) (λl a=>?_)))
        .exact Go 2 Z (Cz [] a (k_b _ _ _ _) Z λN z a=>Go 3 Z (Cl a []))
        .exact Go 6 Z (Cl a [])
       .exact Go 11 Z (Cl a [])
      .exact Go 16 Z (Cl a [])
     .exact Go 21 Z (Cl a [])
    .exact Go 26 Z (Cl a [])
   .exact Go 31 Z (Cl a [])
  .exact Go 36 Z (Cl a [])
 exact Gx 1 Z (Qd p (Gc 1 Z (Rt h 2 [])))
def F_t(n:Nat)(a:Int):Option Bool:=(F_b n a 0 39).bind λd=>some d
theorem k_t(n:Nat)(a:Int):Ks (F_t n a) 225 [I a] [] (λr=>.bool r):=by
 exact Kg 8 func225 Z Z Z Z λr h=>Cz [] h (k_b _ _ _ _) Z λe d h=>Go 4 Z (Rt h 2 [])
def F_u(n:Nat)(a:Int):Option Bool:=(F_b n a 0 255).bind λd=>some d
theorem k_u(n:Nat)(a:Int):Ks (F_u n a) 226 [I a] [] (λr=>.bool r):=by
 exact Kg 8 func226 Z Z Z Z λr h=>Cz [] h (k_b _ _ _ _) Z λe d h=>Go 4 Z (Rt h 2 [])
def F_gw(n:Nat)(a:Sync):Option Bool:=((F_t n a.MatA).bind λd=>(bif d then(F_t n a.MatB).bind λe=>(bif e then(F_u n a.EpochA).bind λf=>(bif f then(F_u n a.EpochB).bind λg=>(bif g then(F_d n a.LocalA).bind λh=>(bif h then(F_d n a.LocalB).bind λi=>(bif i then(F_d n a.Min).bind λj=>(bif j then(F_d n a.Max).bind λk=>(bif k then some (decide (a.Min<=a.Max))else some false)else some false)else some false)else some false)else some false)else some false)else some false)else some false):Option Bool).bind λl=>some l
theorem k_gw(n:Nat)(p:Sync):Ks (F_gw n p) 229 [.agg (Sync.c p)] [] (λr=>.bool r):=by
 refine Kg 7 func229 Z Z Z Z λr h=>Bd h λd a h=>?_;refine Ct d [] [] (λd=>[(2,.bool d)]) Ze Zf ?_ (λenv H q=>?_)
 .refine G0 3 Z (Cz [] a (k_t _ _) Z λE s a=>Go 1 Z (Is 6 a Z (λe a=>?_) (λe a=>?_)))
  .refine Go 2 Z (Cz [] a (k_t _ _) Z λF t a=>Go 2 Z (Is 11 a Z (λf a=>?_) (λf a=>?_)))
   .refine Go 2 Z (Cz [] a (k_u _ _) Z λG u a=>Go 2 Z (Is 16 a Z (λg a=>?_) (λg a=>?_)))
    .refine Go 2 Z (Cz [] a (k_u _ _) Z λJ w a=>Go 2 Z (Is 21 a Z (λi a=>?_) (λi a=>?_)))
     .refine Go 2 Z (Cz [] a (k_d _ _) Z λL x a=>Go 2 Z (Is 26 a Z (λj a=>?_) (λj a=>?_)))
      .refine Go 2 Z (Cz [] a (k_d _ _) Z λM y a=>Go 2 Z (Is 31 a Z (λk a=>?_) (λk a=>?_)))
       .refine Go 2 Z (Cz [] a (k_d _ _) Z λN z a=>Go 2 Z (Is 36 a Z (λl a=>?_) (λl a=>?_)))
        .refine Go 2 Z (Cz [] a (k_d _ _) Z λO B a=>Go 2 Z (Is 41 a Z (λm a=>?_) (λm a=>?_)))
         iterate 2 exact Go 8 Z (Cl a [])
        .exact Go 13 Z (Cl a [])
       .exact Go 18 Z (Cl a [])
      .exact Go 23 Z (Cl a [])
     .exact Go 28 Z (Cl a [])
    .exact Go 33 Z (Cl a [])
   .exact Go 38 Z (Cl a [])
  .exact Go 43 Z (Cl a [])
 exact Gx 1 Z (Qd q (Gc 1 Z (Rt h 2 [])))
def F_ab(n:Nat)(a:Int):Option Bool:=(F_b n a 0 255).bind λd=>some d
theorem QmR(n:Nat)(a:Int):Ks (F_ab n a) 231 [I a] [] (λr=>.bool r):=by
 exact Kg 8 func231 Z Z Z Z λr h=>Cz [] h (k_b _ _ _ _) Z λe d h=>Go 4 Z (Rt h 2 [])
def F_ak(n:Nat)(a:Int):Option Bool:=(F_b n a 1 1048576).bind λd=>some d
theorem k_ak(n:Nat)(a:Int):Ks (F_ak n a) 232 [I a] [] (λr=>.bool r):=by
 exact Kg 8 func232 Z Z Z Z λr h=>Cz [] h (k_b _ _ _ _) Z λe d h=>Go 4 Z (Rt h 2 [])
def F_gv(n:Nat)(a:Ruling):Option Bool:=((F_ak n a.Case).bind λs=>(bif (!s)then some true else(F_b n a.Instance 1 2).bind λt=>some (!t)):Option Bool).bind λu=>(bif u then some false else((bif (a.Kind==1)then some (a.Kind==1)else some (a.Kind==2)):Option Bool).bind λd=>(bif d then((bif (a.Bib==0)then(bif (a.Position==0)then some (a.Amount==0)else some false)else some false):Option Bool).bind λe=>some e else(bif (a.Kind==3)then((F_e n a.Bib).bind λf=>(bif f then(F_ab n a.Position).bind λg=>(bif g then(F_b n a.Amount 1 1099511627776).bind λh=>some h else some false)else some false):Option Bool).bind λi=>some i else(bif (a.Kind==4)then((F_e n a.Bib).bind λj=>(bif j then(F_ab n a.Position).bind λk=>(bif k then(F_b n a.Amount 1 64).bind λl=>some l else some false)else some false):Option Bool).bind λm=>some m else(bif (a.Kind==5)then((F_e n a.Bib).bind λp=>(bif p then(F_ab n a.Position).bind λq=>(bif q then some (a.Amount==0)else some false)else some false):Option Bool).bind λr=>some r else some false)))))
theorem k_gv(n:Nat)(N:Ruling):Ks (F_gv n N) 233 [.agg (Ruling.c N)] [] (λr=>.bool r):=by
 refine Kg 8 func233 Z Z Z Z λr h=>Bd h λs i h=>?_;refine Ct s [0] [1] (λs=>[(12,.bool s)]) Ze Zf ?_ (λenv H f=>?_)
 .refine G0 3 Z (Cz [] i (k_ak _ _) Z λr6 ab i=>Go 2 Z (Is 7 i Z (λO i=>?_) (λO i=>?_)))
  .exact Go 6 Z (Cl i [0])
  .exact Go 2 Z (Cz [] i (k_b _ _ _ _) Z λr8 ac i=>Go 3 Z (Cl i [0]))
 refine Gx 1 Z (Qd f (Cn Z h (λP h=>?_) (λP h=>?_)))
 .exact Gc 7 Z (Rt h 2 [])
 refine Gc 17 Z (Bd h λk j h=>?_);refine Ct k [0] [1,14] (λk=>[(15,.bool k)]) Ze Zf ?_ (λenv H f=>?_)
 .refine G0 0 Z (Cn Z j (λt j=>?_) (λt j=>?_))
  .exact Gc 1 Z (Cl j [0])
  exact Gc 4 Z (Cl j [0])
 refine Gx 1 Z (Qd f (Cn Z h (λu h=>?_) (λu h=>?_)))
 .refine Gc 1 Z (Bd h λl g h=>?_);refine Ct l [] [] (λl=>[(2,.bool l)]) Ze Zf ?_ (λenv H f=>?_)
  .refine G0 5 Z (Is 21 g Z (λw g=>?_) (λw g=>?_))
   .refine Go 5 Z (Is 26 g Z (λx g=>?_) (λx g=>?_))
    iterate 2 exact Go 6 Z (Cl g [])
   .exact Go 11 Z (Cl g [])
  exact Gx 1 Z (Qd f (Gc 3 Z (Rt h 2 [])))
 refine Gc 6 Z (Cn Z h (λy h=>?_) (λy h=>?_))
 .refine Gc 1 Z (Bd h λm a h=>?_);refine Ct m [] [] (λm=>[(2,.bool m)]) Ze Zf ?_ (λenv H f=>?_)
  .refine G0 3 Z (Cz [] a (k_e _ _) Z λad Q a=>Go 1 Z (Is 36 a Z (λz a=>?_) (λz a=>?_)))
   .refine Go 2 Z (Cz [] a (QmR _ _) Z λae R a=>Go 2 Z (Is 41 a Z (λB a=>?_) (λB a=>?_)))
    .exact Go 2 Z (Cz [] a (k_b _ _ _ _) Z λaf T a=>Go 3 Z (Cl a []))
    .exact Go 6 Z (Cl a [])
   .exact Go 11 Z (Cl a [])
  exact Gx 1 Z (Qd f (Gc 3 Z (Rt h 2 [])))
 refine Gc 6 Z (Cn Z h (λE h=>?_) (λE h=>?_))
 .refine Gc 1 Z (Bd h λp d h=>?_);refine Ct p [] [] (λp=>[(2,.bool p)]) Ze Zf ?_ (λenv H f=>?_)
  .refine G0 3 Z (Cz [] d (k_e _ _) Z λag V d=>Go 1 Z (Is 51 d Z (λF d=>?_) (λF d=>?_)))
   .refine Go 2 Z (Cz [] d (QmR _ _) Z λah W d=>Go 2 Z (Is 56 d Z (λG d=>?_) (λG d=>?_)))
    .exact Go 2 Z (Cz [] d (k_b _ _ _ _) Z λai X d=>Go 3 Z (Cl d []))
    .exact Go 6 Z (Cl d [])
   .exact Go 11 Z (Cl d [])
  exact Gx 1 Z (Qd f (Gc 3 Z (Rt h 2 [])))
 refine Gc 6 Z (Cn Z h (λJ h=>?_) (λJ h=>?_))
 .refine Gc 1 Z (Bd h λq e h=>?_);refine Ct q [] [] (λq=>[(2,.bool q)]) Ze Zf ?_ (λenv H f=>?_)
  .refine G0 3 Z (Cz [] e (k_e _ _) Z λaj Y e=>Go 1 Z (Is 66 e Z (λL e=>?_) (λL e=>?_)))
   .refine Go 2 Z (Cz [] e (QmR _ _) Z λak aa e=>Go 2 Z (Is 71 e Z (λM e=>?_) (λM e=>?_)))
    iterate 2 exact Go 6 Z (Cl e [])
   .exact Go 11 Z (Cl e [])
  exact Gx 1 Z (Qd f (Gc 3 Z (Rt h 2 [])))
 exact Gc 9 Z (Rt h 2 [])
def F_cc(n:Nat)(a:Fact):Option Bool:=(bif (a.Kind==1)then(F_fq n a.Starter).bind λr2=>some r2 else(bif (a.Kind==2)then((F_t n a.Read.Mat).bind λu=>(bif u then(F_u n a.Read.Epoch).bind λw=>(bif w then(F_bn n a.Read.Chip).bind λx=>(bif x then(F_d n a.Read.Local).bind λy=>some y else some false)else some false)else some false):Option Bool).bind λz=>some z else(bif (a.Kind==3)then((F_t n a.Beacon.Mat).bind λE=>(bif E then(F_u n a.Beacon.Epoch).bind λF=>(bif F then(F_d n a.Beacon.Local).bind λG=>(bif G then(F_d n a.Beacon.True).bind λH=>(bif H then(F_b n a.Beacon.Err 0 1099511627776).bind λJ=>some J else some false)else some false)else some false)else some false):Option Bool).bind λL=>some L else(bif (a.Kind==4)then(F_gw n a.Sync).bind λM=>some M else(bif (a.Kind==5)then((F_e n a.Hand.Bib).bind λN=>(bif N then(F_ab n a.Hand.Position).bind λO=>(bif O then(F_d n a.Hand.Lo).bind λP=>(bif P then(F_d n a.Hand.Hi).bind λQ=>(bif Q then some (decide (a.Hand.Lo<=a.Hand.Hi))else some false)else some false)else some false)else some false):Option Bool).bind λR=>some R else(bif (a.Kind==6)then((F_t n a.Silence.Mat).bind λT=>(bif T then(F_u n a.Silence.Epoch).bind λV=>(bif V then(F_d n a.Silence.Lo).bind λW=>(bif W then(F_d n a.Silence.Hi).bind λX=>(bif X then some (decide (a.Silence.Lo<=a.Silence.Hi))else some false)else some false)else some false)else some false):Option Bool).bind λY=>some Y else(bif (a.Kind==7)then((F_e n a.Pair.A).bind λaa=>(bif aa then(F_e n a.Pair.B).bind λab=>(bif ab then some (decide (a.Pair.A<a.Pair.B))else some false)else some false):Option Bool).bind λac=>some ac else(bif (a.Kind==8)then((F_ak n a.Report.Case).bind λd=>(bif d then(F_e n a.Report.Bib).bind λe=>(bif e then(F_b n a.Report.Offence 0 31).bind λf=>(bif f then(F_ab n a.Report.Position).bind λg=>some g else some false)else some false)else some false):Option Bool).bind λh=>some h else(bif (a.Kind==9)then((F_ak n a.Protest.Case).bind λi=>(bif i then(F_b n a.Protest.By 0 9999).bind λj=>(bif j then(F_b n a.Protest.Fee 0 1125899906842624).bind λk=>(bif k then(F_b n a.Protest.Form 0 1).bind λl=>some l else some false)else some false)else some false):Option Bool).bind λm=>some m else(bif (a.Kind==10)then(F_gv n a.Ruling).bind λp=>some p else(bif (a.Kind==11)then(F_ak n a.Appeal.Case).bind λq=>some q else(bif (a.Kind==12)then some true else(bif (a.Kind==13)then((F_ar n a.Void.Crew).bind λr=>(bif r then(F_az n a.Void.No).bind λs=>some s else some false):Option Bool).bind λt=>some t else some false)))))))))))))
theorem k_cc(n:Nat)(a1:Fact):Ks (F_cc n a1) 175 [.agg (Fact.c a1)] [] (λr=>.bool r):=by
 refine Kg 20 func175 Z Z Z Z λr h=>Cn Z h (λar h=>?_) (λar h=>?_)
 .exact Gc 4 Z (Cz [] h (k_fq _ _) Z λr2 co h=>Go 6 Z (Rt h 2 []))
 refine Gc 6 Z (Cn Z h (λau h=>?_) (λau h=>?_))
 .refine Gc 1 Z (Bd h λs i h=>?_);refine Ct s [] [] (λs=>[(2,.bool s)]) Ze Zf ?_ (λenv H j=>?_)
  .refine G0 4 Z (Cz [] i (k_t _ _) Z λcp bh i=>Go 1 Z (Is 16 i Z (λQ i=>?_) (λQ i=>?_)))
   .refine Go 3 Z (Cz [] i (k_u _ _) Z λcq bi i=>Go 2 Z (Is 22 i Z (λR i=>?_) (λR i=>?_)))
    .refine Go 3 Z (Cz [] i (k_bn _ _) Z λcr bj i=>Go 2 Z (Is 28 i Z (λT i=>?_) (λT i=>?_)))
     .exact Go 3 Z (Cz [] i (k_d _ _) Z λcs bk i=>Go 3 Z (Cl i []))
     .exact Go 7 Z (Cl i [])
    .exact Go 13 Z (Cl i [])
   .exact Go 19 Z (Cl i [])
  exact Gx 1 Z (Qd j (Gc 3 Z (Rt h 2 [])))
 refine Gc 6 Z (Cn Z h (λV h=>?_) (λV h=>?_))
 .refine Gc 1 Z (Bd h λt e h=>?_);refine Ct t [] [] (λt=>[(2,.bool t)]) Ze Zf ?_ (λenv H j=>?_)
  .refine G0 4 Z (Cz [] e (k_t _ _) Z λct bl e=>Go 1 Z (Is 40 e Z (λW e=>?_) (λW e=>?_)))
   .refine Go 3 Z (Cz [] e (k_u _ _) Z λcu bm e=>Go 2 Z (Is 46 e Z (λX e=>?_) (λX e=>?_)))
    .refine Go 3 Z (Cz [] e (k_d _ _) Z λcv bn e=>Go 2 Z (Is 52 e Z (λY e=>?_) (λY e=>?_)))
     .refine Go 3 Z (Cz [] e (k_d _ _) Z λcw bo e=>Go 2 Z (Is 58 e Z (λaa e=>?_) (λaa e=>?_)))
      .exact Go 3 Z (Cz [] e (k_b _ _ _ _) Z λcx bp e=>Go 3 Z (Cl e []))
      .exact Go 7 Z (Cl e [])
     .exact Go 13 Z (Cl e [])
    .exact Go 19 Z (Cl e [])
   .exact Go 25 Z (Cl e [])
  exact Gx 1 Z (Qd j (Gc 3 Z (Rt h 2 [])))
 refine Gc 6 Z (Cn Z h (λab h=>?_) (λab h=>?_))
 .exact Gc 4 Z (Cz [] h (k_gw _ _) Z λcy bq h=>Go 6 Z (Rt h 2 []))
 refine Gc 6 Z (Cn Z h (λac h=>?_) (λac h=>?_))
 .refine Gc 1 Z (Bd h λu f h=>?_);refine Ct u [] [] (λu=>[(2,.bool u)]) Ze Zf ?_ (λenv H j=>?_)
  .refine G0 4 Z (Cz [] f (k_e _ _) Z λcz br f=>Go 1 Z (Is 75 f Z (λad f=>?_) (λad f=>?_)))
   .refine Go 3 Z (Cz [] f (QmR _ _) Z λda bs f=>Go 2 Z (Is 81 f Z (λae f=>?_) (λae f=>?_)))
    .refine Go 3 Z (Cz [] f (k_d _ _) Z λdb bt f=>Go 2 Z (Is 87 f Z (λaf f=>?_) (λaf f=>?_)))
     .refine Go 3 Z (Cz [] f (k_d _ _) Z λdc bu f=>Go 2 Z (Is 93 f Z (λag f=>?_) (λag f=>?_)))
      iterate 2 exact Go 10 Z (Cl f [])
     .exact Go 16 Z (Cl f [])
    .exact Go 22 Z (Cl f [])
   .exact Go 28 Z (Cl f [])
  exact Gx 1 Z (Qd j (Gc 3 Z (Rt h 2 [])))
 refine Gc 6 Z (Cn Z h (λah h=>?_) (λah h=>?_))
 .refine Gc 1 Z (Bd h λw g h=>?_);refine Ct w [] [] (λw=>[(2,.bool w)]) Ze Zf ?_ (λenv H j=>?_)
  .refine G0 4 Z (Cz [] g (k_t _ _) Z λde bv g=>Go 1 Z (Is 108 g Z (λai g=>?_) (λai g=>?_)))
   .refine Go 3 Z (Cz [] g (k_u _ _) Z λdf bw g=>Go 2 Z (Is 114 g Z (λaj g=>?_) (λaj g=>?_)))
    .refine Go 3 Z (Cz [] g (k_d _ _) Z λdg bx g=>Go 2 Z (Is 120 g Z (λak g=>?_) (λak g=>?_)))
     .refine Go 3 Z (Cz [] g (k_d _ _) Z λdh bz g=>Go 2 Z (Is 126 g Z (λal g=>?_) (λal g=>?_)))
      iterate 2 exact Go 10 Z (Cl g [])
     .exact Go 16 Z (Cl g [])
    .exact Go 22 Z (Cl g [])
   .exact Go 28 Z (Cl g [])
  exact Gx 1 Z (Qd j (Gc 3 Z (Rt h 2 [])))
 refine Gc 6 Z (Cn Z h (λam h=>?_) (λam h=>?_))
 .refine Gc 1 Z (Bd h λx k h=>?_);refine Ct x [] [] (λx=>[(2,.bool x)]) Ze Zf ?_ (λenv H j=>?_)
  .refine G0 4 Z (Cz [] k (k_e _ _) Z λdi ca k=>Go 1 Z (Is 141 k Z (λan k=>?_) (λan k=>?_)))
   .refine Go 3 Z (Cz [] k (k_e _ _) Z λdj cb k=>Go 2 Z (Is 147 k Z (λao k=>?_) (λao k=>?_)))
    iterate 2 exact Go 10 Z (Cl k [])
   .exact Go 16 Z (Cl k [])
  exact Gx 1 Z (Qd j (Gc 3 Z (Rt h 2 [])))
 refine Gc 6 Z (Cn Z h (λaq h=>?_) (λaq h=>?_))
 .refine Gc 1 Z (Bd h λm a h=>?_);refine Ct m [] [] (λm=>[(2,.bool m)]) Ze Zf ?_ (λenv H j=>?_)
  .refine G0 4 Z (Cz [] a (k_ak _ _) Z λcc av a=>Go 1 Z (Is 162 a Z (λy a=>?_) (λy a=>?_)))
   .refine Go 3 Z (Cz [] a (k_e _ _) Z λcd aw a=>Go 2 Z (Is 168 a Z (λz a=>?_) (λz a=>?_)))
    .refine Go 3 Z (Cz [] a (k_b _ _ _ _) Z λce ax a=>Go 2 Z (Is 174 a Z (λB a=>?_) (λB a=>?_)))
     .exact Go 3 Z (Cz [] a (QmR _ _) Z λcf ay a=>Go 3 Z (Cl a []))
     .exact Go 7 Z (Cl a [])
    .exact Go 13 Z (Cl a [])
   .exact Go 19 Z (Cl a [])
  exact Gx 1 Z (Qd j (Gc 3 Z (Rt h 2 [])))
 refine Gc 6 Z (Cn Z h (λE h=>?_) (λE h=>?_))
 .refine Gc 1 Z (Bd h λp d h=>?_);refine Ct p [] [] (λp=>[(2,.bool p)]) Ze Zf ?_ (λenv H j=>?_)
  .refine G0 4 Z (Cz [] d (k_ak _ _) Z λcg az d=>Go 1 Z (Is 186 d Z (λF d=>?_) (λF d=>?_)))
   .refine Go 3 Z (Cz [] d (k_b _ _ _ _) Z λch ba d=>Go 2 Z (Is 192 d Z (λG d=>?_) (λG d=>?_)))
    .refine Go 3 Z (Cz [] d (k_b _ _ _ _) Z λci bb d=>Go 2 Z (Is 198 d Z (λJ d=>?_) (λJ d=>?_)))
     .exact Go 3 Z (Cz [] d (k_b _ _ _ _) Z λcj bc d=>Go 3 Z (Cl d []))
     .exact Go 7 Z (Cl d [])
    .exact Go 13 Z (Cl d [])
   .exact Go 19 Z (Cl d [])
  exact Gx 1 Z (Qd j (Gc 3 Z (Rt h 2 [])))
 refine Gc 6 Z (Cn Z h (λL h=>?_) (λL h=>?_))
 .exact Gc 4 Z (Cz [] h (k_gv _ _) Z λck bd h=>Go 6 Z (Rt h 2 []))
 refine Gc 6 Z (Cn Z h (λM h=>?_) (λM h=>?_))
 .exact Gc 5 Z (Cz [] h (k_ak _ _) Z λcl be h=>Go 6 Z (Rt h 2 []))
 refine Gc 6 Z (Cn Z h (λN h=>?_) (λN h=>?_))
 .exact Gc 8 Z (Rt h 2 [])
 refine Gc 6 Z (Cn Z h (λO h=>?_) (λO h=>?_))
 .refine Gc 1 Z (Bd h λq l h=>?_);refine Ct q [] [] (λq=>[(2,.bool q)]) Ze Zf ?_ (λenv H j=>?_)
  .refine G0 4 Z (Cz [] l (Qlu _ _) Z λcm bf l=>Go 1 Z (Is 223 l Z (λP l=>?_) (λP l=>?_)))
   .exact Go 3 Z (Cz [] l (QmP _ _) Z λcn bg l=>Go 3 Z (Cl l []))
   .exact Go 7 Z (Cl l [])
  exact Gx 1 Z (Qd j (Gc 3 Z (Rt h 2 [])))
 exact Gc 9 Z (Rt h 2 [])
def F_dn(n:Nat)(a:Fact):Option Fact:=((bif (a.Kind==1)then some ({Ul with Crew:=a.Crew,No:=a.No,At:=a.At,Kind:=a.Kind,Starter:=a.Starter:Fact})else(bif (a.Kind==2)then some ({Ul with Crew:=a.Crew,No:=a.No,At:=a.At,Kind:=a.Kind,Read:=a.Read:Fact})else(bif (a.Kind==3)then some ({Ul with Crew:=a.Crew,No:=a.No,At:=a.At,Kind:=a.Kind,Beacon:=a.Beacon:Fact})else(bif (a.Kind==4)then some ({Ul with Crew:=a.Crew,No:=a.No,At:=a.At,Kind:=a.Kind,Sync:=a.Sync:Fact})else(bif (a.Kind==5)then some ({Ul with Crew:=a.Crew,No:=a.No,At:=a.At,Kind:=a.Kind,Hand:=a.Hand:Fact})else(bif (a.Kind==6)then some ({Ul with Crew:=a.Crew,No:=a.No,At:=a.At,Kind:=a.Kind,Silence:=a.Silence:Fact})else(bif (a.Kind==7)then some ({Ul with Crew:=a.Crew,No:=a.No,At:=a.At,Kind:=a.Kind,Pair:=a.Pair:Fact})else(bif (a.Kind==8)then some ({Ul with Crew:=a.Crew,No:=a.No,At:=a.At,Kind:=a.Kind,Report:=a.Report:Fact})else(bif (a.Kind==9)then some ({Ul with Crew:=a.Crew,No:=a.No,At:=a.At,Kind:=a.Kind,Protest:=a.Protest:Fact})else(bif (a.Kind==10)then some ({Ul with Crew:=a.Crew,No:=a.No,At:=a.At,Kind:=a.Kind,Ruling:=a.Ruling:Fact})else(bif (a.Kind==11)then some ({Ul with Crew:=a.Crew,No:=a.No,At:=a.At,Kind:=a.Kind,Appeal:=a.Appeal:Fact})else(bif (a.Kind==13)then some ({Ul with Crew:=a.Crew,No:=a.No,At:=a.At,Kind:=a.Kind,Void:=a.Void:Fact})else some ({Ul with Crew:=a.Crew,No:=a.No,At:=a.At,Kind:=a.Kind:Fact}))))))))))))):Option Fact).bind λd=>some d
theorem k_dn(n:Nat)(u:Fact):Kq (F_dn n u) 176 [.agg (Fact.c u)] [] (λr=>.agg (Fact.c r)) (λr=>[.cells 96 (Fact.c r)]):=by
 refine Kg 35 func176 Z Z Z Z λr h=>Bd h λd a h=>?_;refine Ct d [1,2] [2,3] Ze (λd=>[(1,.cells 96 (Fact.c d))]) Zf ?_ (λenv H w=>?_)
 .refine G0 0 Z (Cn Z a (λe a=>?_) (λe a=>?_))
  .exact Gc 6 Z (Cl a [1,2])
  refine Gc 6 Z (Cn Z a (λf a=>?_) (λf a=>?_))
  .exact Gc 6 Z (Cl a [1,2])
  refine Gc 6 Z (Cn Z a (λg a=>?_) (λg a=>?_))
  .exact Gc 6 Z (Cl a [1,2])
  refine Gc 6 Z (Cn Z a (λi a=>?_) (λi a=>?_))
  .exact Gc 6 Z (Cl a [1,2])
  refine Gc 6 Z (Cn Z a (λj a=>?_) (λj a=>?_))
  .exact Gc 6 Z (Cl a [1,2])
  refine Gc 6 Z (Cn Z a (λk a=>?_) (λk a=>?_))
  .exact Gc 6 Z (Cl a [1,2])
  refine Gc 6 Z (Cn Z a (λl a=>?_) (λl a=>?_))
  .exact Gc 6 Z (Cl a [1,2])
  refine Gc 6 Z (Cn Z a (λm a=>?_) (λm a=>?_))
  .exact Gc 6 Z (Cl a [1,2])
  refine Gc 6 Z (Cn Z a (λp a=>?_) (λp a=>?_))
  .exact Gc 6 Z (Cl a [1,2])
  refine Gc 6 Z (Cn Z a (λq a=>?_) (λq a=>?_))
  .exact Gc 6 Z (Cl a [1,2])
  refine Gc 6 Z (Cn Z a (λs a=>?_) (λs a=>?_))
  .exact Gc 6 Z (Cl a [1,2])
  refine Gc 6 Z (Cn Z a (λt a=>?_) (λt a=>?_))
  .exact Gc 6 Z (Cl a [1,2])
  exact Gc 1 Z (Cl a [1,2])
 refine Gx 2 Z (Qd w (Gc 7 Z ?_));obtain rfl:=Oi h;exact Rx [0] [2] Z (Q3 Z (Qg EO EC Z Z Z)) ⟨Z,Z⟩
def F_br(n:Nat)(a:Fact):Option Int:=((F_ar n a.Crew).bind λd=>(bif (!d)then some true else(F_az n a.No).bind λe=>(bif (!e)then some true else(F_b n a.At 0 1099511627776).bind λf=>(bif (!f)then some true else(F_cc n a).bind λg=>(bif (!g)then some true else(F_dn n a).bind λh=>some (a != h))))):Option Bool).bind λi=>(bif i then some 120 else some 0)
theorem k_br(n:Nat)(f:Fact):Ks (F_br n f) 92 [.agg (Fact.c f)] [] (λr=>I r):=by
 refine Kg 8 func92 Z Z Z Z λr h=>Bd h λx e h=>?_;refine Ct x [] [] (λx=>[(29,.bool x)]) Ze Zf ?_ (λenv H E=>?_)
 .refine G0 0 Z ?_;obtain⟨k,s,e⟩:=Yl e;refine If e (λa e=>?_) (λa e=>?_)
  .refine TC.draw0 25 [3,4,5,6,7,8,9,10,11,12,13,14,15,16,17,18,19,20,21,22,23,24,25,26,27] [.ptr 0 0,I f.Crew,.bool k,.bool (!k),.bool (!k),.tup [],.tup [],.tup [],.tup [],.bool true,.bool true,.tup [],.tup [],.tup [],.tup [],.bool true,.bool true,.tup [],.tup [],.tup [],.bool true,.bool true,.tup [],.tup [],.tup []] draws Z Z Z ?_ ?_
   .refine ov (ov (Oq.c ?_ (Oq.c ?_ (ov (Oq.c ?_ (Oq.c ?_ (Oq.c ?_ (Oq.c ?_ (Oq.c ?_ (ov (Oq.c ?_ (Oq.c ?_ (Oq.c ?_ (Oq.c ?_ (Oq.c ?_ (ov (Oq.c ?_ (Oq.c ?_ (Oq.c ?_ (Oq.c ?_ (ov (Oq.c ?_ (Oq.c ?_ (Oq.c ?_ (Oq.n)))))))))))))))))))))))))
    .refine Om Z (sD 1 sN) ?_;exact Pc [] Z (OpC.fn call172 Z Z Z) (Qlu _ _ _ s) Z Wp
    .refine Om Z (sD 2 sN) ?_;exact S Z Wp
    .refine Om Z (sO 1 (sD 4 sN)) ?_;exact K (gF a) Z Wp
    .refine Om Z (sD 4 (sD 5 sN)) ?_;exact K (gF a) Z Wp
    .refine Om Z (sD 4 (sD 6 sN)) ?_;exact K (gF a) Z Wp
    .refine Om Z (sD 4 (sD 7 sN)) ?_;exact K (gF a) Z Wp
    .refine Om Z (sD 4 (sD 8 sN)) ?_;exact Pk a Z Wp
    .refine Om Z (sO 1 (sD 10 sN)) ?_;exact K (gF Z) Z Wp
    .refine Om Z (sD 10 (sD 11 sN)) ?_;exact K (gF Z) Z Wp
    .refine Om Z (sD 10 (sD 12 sN)) ?_;exact K (gF Z) Z Wp
    .refine Om Z (sD 10 (sD 13 sN)) ?_;exact K (gF Z) Z Wp
    .refine Om Z (sD 10 (sD 14 sN)) ?_;exact S Z Wp
    .refine Om Z (sO 1 (sD 16 sN)) ?_;exact K (gF Z) Z Wp
    .refine Om Z (sD 16 (sD 17 sN)) ?_;exact K (gF Z) Z Wp
    .refine Om Z (sD 16 (sD 18 sN)) ?_;exact K (gF Z) Z Wp
    .refine Om Z (sD 16 (sD 19 sN)) ?_;exact S Z Wp
    iterate 2 refine Om Z (sO 1 (sD 21 sN)) ?_;exact K (gF Z) Z Wp
    .refine Om Z (sD 21 (sD 23 sN)) ?_;exact K (gF Z) Z Wp
   exact Go 3 Z (Cl e [])
  .obtain⟨j,t,e⟩:=Yl e;refine If e (λd e=>?_) (λd e=>?_)
   .refine TC.draw0 25 [3,4,5,6,7,8,9,10,11,12,13,14,15,16,17,18,19,20,21,22,23,24,25,26,27] [.ptr 0 0,I f.Crew,.bool k,.bool (!k),.bool (!k),.ptr 0 1,I f.No,.bool j,.bool (!j),.bool (!j),.bool (!j),.tup [],.tup [],.tup [],.tup [],.bool true,.bool true,.tup [],.tup [],.tup [],.bool true,.bool true,.tup [],.tup [],.tup []] draws Z Z Z ?_ ?_
    .refine ov (ov (Oq.c ?_ (Oq.c ?_ (ov (Oq.c ?_ (Oq.c ?_ (Oq.c ?_ (Oq.c ?_ (Oq.c ?_ (ov (Oq.c ?_ (Oq.c ?_ (Oq.c ?_ (Oq.c ?_ (Oq.c ?_ (ov (Oq.c ?_ (Oq.c ?_ (Oq.c ?_ (Oq.c ?_ (ov (Oq.c ?_ (Oq.c ?_ (Oq.c ?_ (Oq.n)))))))))))))))))))))))))
     .refine Om Z (sD 1 sN) ?_;exact Pc [] Z (OpC.fn call172 Z Z Z) (Qlu _ _ _ s) Z Wp
     .refine Om Z (sD 2 sN) ?_;exact S Z Wp
     .refine Om Z (sO 1 (sD 4 sN)) ?_;exact Fpg (gT a) QeV Z Wp
     .refine Om Z (sD 4 (sD 5 sN)) ?_;exact Ldg (gT a) EF Z Wp
     .refine Om Z (sD 4 (sD 6 sN)) ?_;exact Pc [] Z (OpC.fn call173 Z Z Z) (QmP _ _ _ t) (hg:=(gT a)) Z Wp
     .refine Om Z (sD 4 (sD 7 sN)) ?_;exact Sg (gT a) Z Wp
     .refine Om Z (sD 4 (sD 8 sN)) ?_;exact Pk a Z Wp
     .refine Om Z (sO 1 (sD 10 sN)) ?_;exact K (gF d) Z Wp
     .refine Om Z (sD 10 (sD 11 sN)) ?_;exact K (gF d) Z Wp
     .refine Om Z (sD 10 (sD 12 sN)) ?_;exact K (gF d) Z Wp
     .refine Om Z (sD 10 (sD 13 sN)) ?_;exact K (gF d) Z Wp
     .refine Om Z (sD 10 (sD 14 sN)) ?_;exact Pk d Z Wp
     .refine Om Z (sO 1 (sD 16 sN)) ?_;exact K (gF Z) Z Wp
     .refine Om Z (sD 16 (sD 17 sN)) ?_;exact K (gF Z) Z Wp
     .refine Om Z (sD 16 (sD 18 sN)) ?_;exact K (gF Z) Z Wp
     .refine Om Z (sD 16 (sD 19 sN)) ?_;exact S Z Wp
     iterate 2 refine Om Z (sO 1 (sD 21 sN)) ?_;exact K (gF Z) Z Wp
     .refine Om Z (sD 21 (sD 23 sN)) ?_;exact K (gF Z) Z Wp
    exact Go 3 Z (Cl e [])
   .obtain⟨l,w,e⟩:=Yl e;refine If e (λg e=>?_) (λg e=>?_)
    .refine TC.draw0 25 [3,4,5,6,7,8,9,10,11,12,13,14,15,16,17,18,19,20,21,22,23,24,25,26,27] [.ptr 0 0,I f.Crew,.bool k,.bool (!k),.bool (!k),.ptr 0 1,I f.No,.bool j,.bool (!j),.bool (!j),.bool (!j),.ptr 0 2,I f.At,.bool l,.bool (!l),.bool (!l),.bool (!l),.tup [],.tup [],.tup [],.bool true,.bool true,.tup [],.tup [],.tup []] draws Z Z Z ?_ ?_
     .refine ov (ov (Oq.c ?_ (Oq.c ?_ (ov (Oq.c ?_ (Oq.c ?_ (Oq.c ?_ (Oq.c ?_ (Oq.c ?_ (ov (Oq.c ?_ (Oq.c ?_ (Oq.c ?_ (Oq.c ?_ (Oq.c ?_ (ov (Oq.c ?_ (Oq.c ?_ (Oq.c ?_ (Oq.c ?_ (ov (Oq.c ?_ (Oq.c ?_ (Oq.c ?_ (Oq.n)))))))))))))))))))))))))
      .refine Om Z (sD 1 sN) ?_;exact Pc [] Z (OpC.fn call172 Z Z Z) (Qlu _ _ _ s) Z Wp
      .refine Om Z (sD 2 sN) ?_;exact S Z Wp
      .refine Om Z (sO 1 (sD 4 sN)) ?_;exact Fpg (gT a) QeV Z Wp
      .refine Om Z (sD 4 (sD 5 sN)) ?_;exact Ldg (gT a) EF Z Wp
      .refine Om Z (sD 4 (sD 6 sN)) ?_;exact Pc [] Z (OpC.fn call173 Z Z Z) (QmP _ _ _ t) (hg:=(gT a)) Z Wp
      .refine Om Z (sD 4 (sD 7 sN)) ?_;exact Sg (gT a) Z Wp
      .refine Om Z (sD 4 (sD 8 sN)) ?_;exact Pk a Z Wp
      .refine Om Z (sO 1 (sD 10 sN)) ?_;exact Fpg (gT d) QhC Z Wp
      .refine Om Z (sD 10 (sD 11 sN)) ?_;exact Ldg (gT d) EF Z Wp
      .refine Om Z (sD 10 (sD 12 sN)) ?_;exact Pc [] Z (OpC.fn call174 Z Z Z) (k_b _ _ _ _ _ w) (hg:=(gT d)) Z Wp
      .refine Om Z (sD 10 (sD 13 sN)) ?_;exact Sg (gT d) Z Wp
      .refine Om Z (sD 10 (sD 14 sN)) ?_;exact Pk d Z Wp
      .refine Om Z (sO 1 (sD 16 sN)) ?_;exact K (gF g) Z Wp
      .refine Om Z (sD 16 (sD 17 sN)) ?_;exact K (gF g) Z Wp
      .refine Om Z (sD 16 (sD 18 sN)) ?_;exact K (gF g) Z Wp
      .refine Om Z (sD 16 (sD 19 sN)) ?_;exact Pk g Z Wp
      iterate 2 refine Om Z (sO 1 (sD 21 sN)) ?_;exact K (gF Z) Z Wp
      .refine Om Z (sD 21 (sD 23 sN)) ?_;exact K (gF Z) Z Wp
     exact Go 3 Z (Cl e [])
    .obtain⟨m,y,e⟩:=Yl e;refine If e (λi e=>?_) (λi e=>?_)
     .refine TC.draw0 25 [3,4,5,6,7,8,9,10,11,12,13,14,15,16,17,18,19,20,21,22,23,24,25,26,27] [.ptr 0 0,I f.Crew,.bool k,.bool (!k),.bool (!k),.ptr 0 1,I f.No,.bool j,.bool (!j),.bool (!j),.bool (!j),.ptr 0 2,I f.At,.bool l,.bool (!l),.bool (!l),.bool (!l),.agg (Fact.c f),.bool m,.bool (!m),.bool (!m),.bool (!m),.tup [],.tup [],.tup []] draws Z Z Z ?_ ?_
      .refine ov (ov (Oq.c ?_ (Oq.c ?_ (ov (Oq.c ?_ (Oq.c ?_ (Oq.c ?_ (Oq.c ?_ (Oq.c ?_ (ov (Oq.c ?_ (Oq.c ?_ (Oq.c ?_ (Oq.c ?_ (Oq.c ?_ (ov (Oq.c ?_ (Oq.c ?_ (Oq.c ?_ (Oq.c ?_ (ov (Oq.c ?_ (Oq.c ?_ (Oq.c ?_ (Oq.n)))))))))))))))))))))))))
       .refine Om Z (sD 1 sN) ?_;exact Pc [] Z (OpC.fn call172 Z Z Z) (Qlu _ _ _ s) Z Wp
       .refine Om Z (sD 2 sN) ?_;exact S Z Wp
       .refine Om Z (sO 1 (sD 4 sN)) ?_;exact Fpg (gT a) QeV Z Wp
       .refine Om Z (sD 4 (sD 5 sN)) ?_;exact Ldg (gT a) EF Z Wp
       .refine Om Z (sD 4 (sD 6 sN)) ?_;exact Pc [] Z (OpC.fn call173 Z Z Z) (QmP _ _ _ t) (hg:=(gT a)) Z Wp
       .refine Om Z (sD 4 (sD 7 sN)) ?_;exact Sg (gT a) Z Wp
       .refine Om Z (sD 4 (sD 8 sN)) ?_;exact Pk a Z Wp
       .refine Om Z (sO 1 (sD 10 sN)) ?_;exact Fpg (gT d) QhC Z Wp
       .refine Om Z (sD 10 (sD 11 sN)) ?_;exact Ldg (gT d) EF Z Wp
       .refine Om Z (sD 10 (sD 12 sN)) ?_;exact Pc [] Z (OpC.fn call174 Z Z Z) (k_b _ _ _ _ _ w) (hg:=(gT d)) Z Wp
       .refine Om Z (sD 10 (sD 13 sN)) ?_;exact Sg (gT d) Z Wp
       .refine Om Z (sD 10 (sD 14 sN)) ?_;exact Pk d Z Wp
       .refine Om Z (sO 1 (sD 16 sN)) ?_;refine vX (.agg (Fact.c f)) (QD Z EO EC Z (Pts.cells Z Z) Z Z) ?_ (gT g);exact Wp
       .refine Om Z (sD 16 (sD 17 sN)) ?_;exact Pc [] Z (OpC.fn call175 Z Z Z) (k_cc _ _ _ y) (hg:=(gT g)) Z Wp
       .refine Om Z (sD 16 (sD 18 sN)) ?_;exact Sg (gT g) Z Wp
       .refine Om Z (sD 16 (sD 19 sN)) ?_;exact Pk g Z Wp
       iterate 2 refine Om Z (sO 1 (sD 21 sN)) ?_;exact K (gF i) Z Wp
       .refine Om Z (sD 21 (sD 23 sN)) ?_;exact K (gF i) Z Wp
      exact KF i Z (Pk i Z (Go 1 Z (Cl e [])))
     .obtain⟨u,z,e⟩:=Yl e;refine YL 25 0 [3,4,5,6,7,8,9,10,11,12,13,14,15,16,17,18,19,20,21,22,23,24,25,26,27] [false,false,false,false,false,false,false,false,false,false,false,false,false,false,false,false,false,false,false,false,false,false,false,false,true] [[],[],[],[],[],[],[],[],[],[],[],[],[],[],[],[],[],[],[],[],[],[],[],[],[]] [[],[24]] [[(0,0)],[(0,0)],[(0,0)],[(0,0)],[(0,0)],[(0,0)],[(0,0)],[(0,0)],[(0,0)],[(0,0)],[(0,0)],[(0,0)],[(0,0)],[(0,0)],[(0,0)],[(0,0)],[(0,0)],[(0,0)],[(0,0)],[(0,0)],[(0,0)],[(0,0)],[(0,0),(1,1)],[(0,0)],[(0,1)]] [.ptr 0 0,I f.Crew,.bool k,.bool (!k),.bool (!k),.ptr 0 1,I f.No,.bool j,.bool (!j),.bool (!j),.bool (!j),.ptr 0 2,I f.At,.bool l,.bool (!l),.bool (!l),.bool (!l),.agg (Fact.c f),.bool m,.bool (!m),.bool (!m),.bool (!m),.agg (Fact.c f),.agg (Fact.c f),.agg (Fact.c u)] [[.cells 96 (Fact.c f)],[.cells 96 (Fact.c f),.cells 96 (Fact.c u)]] ([.cells 96 (Fact.c f),.cells 96 (Fact.c u)]) draws Z Z Z Z Z Z Z ?_ Z ?_
      .refine Qh4.cons (Qb (v0 Z Z) (Qc)) (Qh4.cons (Qb (v0 Z Z) (Qc)) (Qh4.cons ?_ (Qh4.cons ?_ (Qh4.cons (Qb (v0 Z Z) (Qc)) (Qh4.cons ?_ (Qh4.cons ?_ (Qh4.cons ?_ (Qh4.cons ?_ (Qh4.cons ?_ (Qh4.cons (Qb (v0 Z Z) (Qc)) (Qh4.cons ?_ (Qh4.cons ?_ (Qh4.cons ?_ (Qh4.cons ?_ (Qh4.cons ?_ (Qh4.cons (Qb (v0 Z Z) (Qc)) (Qh4.cons ?_ (Qh4.cons ?_ (Qh4.cons ?_ (Qh4.cons ?_ (Qh4.cons (Qb (v0 Z Z) (Qc)) (Qh4.cons ?_ (Qh4.cons ?_ (Qh4.cons ?_ (Qh4.nil)))))))))))))))))))))))))
       .refine Qb ?_ (Qc)
        .refine Om Z (sD 1 sN) ?_;exact Pc [] Z (OpC.fn call172 Z Z Z) (Qlu _ _ _ s) Z Wp
       .refine Qb ?_ (Qc)
        .refine Om Z (sD 2 sN) ?_;exact S Z Wp
       .refine Qb ?_ (Qc)
        .refine Om Z (sO 1 (sD 4 sN)) ?_;exact Fpg (gT a) QeV Z Wp
       .refine Qb ?_ (Qc)
        .refine Om Z (sD 4 (sD 5 sN)) ?_;exact Ldg (gT a) EF Z Wp
       .refine Qb ?_ (Qc)
        .refine Om Z (sD 4 (sD 6 sN)) ?_;exact Pc [] Z (OpC.fn call173 Z Z Z) (QmP _ _ _ t) (hg:=(gT a)) Z Wp
       .refine Qb ?_ (Qc)
        .refine Om Z (sD 4 (sD 7 sN)) ?_;exact Sg (gT a) Z Wp
       .refine Qb ?_ (Qc)
        .refine Om Z (sD 4 (sD 8 sN)) ?_;exact Pk a Z Wp
       .refine Qb ?_ (Qc)
        .refine Om Z (sO 1 (sD 10 sN)) ?_;exact Fpg (gT d) QhC Z Wp
       .refine Qb ?_ (Qc)
        .refine Om Z (sD 10 (sD 11 sN)) ?_;exact Ldg (gT d) EF Z Wp
       .refine Qb ?_ (Qc)
        .refine Om Z (sD 10 (sD 12 sN)) ?_;exact Pc [] Z (OpC.fn call174 Z Z Z) (k_b _ _ _ _ _ w) (hg:=(gT d)) Z Wp
       .refine Qb ?_ (Qc)
        .refine Om Z (sD 10 (sD 13 sN)) ?_;exact Sg (gT d) Z Wp
       .refine Qb ?_ (Qc)
        .refine Om Z (sD 10 (sD 14 sN)) ?_;exact Pk d Z Wp
       .refine Qb ?_ (Qc)
        .refine Om Z (sO 1 (sD 16 sN)) ?_;refine vX (.agg (Fact.c f)) (QD Z EO EC Z (Pts.cells Z Z) Z Z) ?_ (gT g);exact Wp
       .refine Qb ?_ (Qc)
        .refine Om Z (sD 16 (sD 17 sN)) ?_;exact Pc [] Z (OpC.fn call175 Z Z Z) (k_cc _ _ _ y) (hg:=(gT g)) Z Wp
       .refine Qb ?_ (Qc)
        .refine Om Z (sD 16 (sD 18 sN)) ?_;exact Sg (gT g) Z Wp
       .refine Qb ?_ (Qc)
        .refine Om Z (sD 16 (sD 19 sN)) ?_;exact Pk g Z Wp
       .refine Qb ?_ (Qb ?_ (Qc))
        iterate 2 refine Om Z (sO 1 (sD 21 sN)) ?_;refine vX (.agg (Fact.c f)) (QD Z EO EC Z (Pts.cells Z Z) Z Z) ?_ (gT i);exact Wp
       .refine Qb ?_ (Qc)
        .refine Om Z (sO 1 (sD 21 sN)) ?_;refine vX (.agg (Fact.c f)) (QD Z EO EC Z (Pts.cells Z Z) Z Z) ?_ (gT i);exact Wp
       .refine Qb ?_ (Qc)
        .refine Om1 Z (sD 21 (sD 23 sN)) ?_;refine Qo [] (OpC.fn call176 Z Z Z) (k_dn _ _ _ z) ?_ (hg:=(gT i));rintro _ _ ⟨rfl,rfl⟩;exact FE Z Wp
      refine vX (.bool (f != u)) (Qcu (p:=f) (q:=u) QhP Z Z) ?_ (gT i);exact Pk i Z (Go 1 Z (Cl e []))
 refine Gx 1 Z (Qd E (Cn Z h (λB h=>?_) (λB h=>?_)))
 .exact Gc 7 Z (Rt h 2 [])
 exact Gc 8 Z (Rt h 2 [])
def F_cp(n:Nat)(a:Fact):Option (List Int):=(bif (a.Kind==1)then(app [a.Kind,a.Crew,a.No,a.At] [a.Starter.Bib,a.Starter.Distance,a.Starter.Wave,a.Starter.Slot,a.Starter.Age,a.Starter.Chip,a.Starter.Team,a.Starter.Lot]).bind λm=>some m else(bif (a.Kind==2)then(app [a.Kind,a.Crew,a.No,a.At] [a.Read.Mat,a.Read.Epoch,a.Read.Chip,a.Read.Local]).bind λp=>some p else(bif (a.Kind==3)then(app [a.Kind,a.Crew,a.No,a.At] [a.Beacon.Mat,a.Beacon.Epoch,a.Beacon.Local,a.Beacon.True,a.Beacon.Err]).bind λq=>some q else(bif (a.Kind==4)then(app [a.Kind,a.Crew,a.No,a.At] [a.Sync.MatA,a.Sync.EpochA,a.Sync.LocalA,a.Sync.MatB,a.Sync.EpochB,a.Sync.LocalB,a.Sync.Min,a.Sync.Max]).bind λr=>some r else(bif (a.Kind==5)then(app [a.Kind,a.Crew,a.No,a.At] [a.Hand.Bib,a.Hand.Position,a.Hand.Lo,a.Hand.Hi]).bind λd=>some d else(bif (a.Kind==6)then(app [a.Kind,a.Crew,a.No,a.At] [a.Silence.Mat,a.Silence.Epoch,a.Silence.Lo,a.Silence.Hi]).bind λe=>some e else(bif (a.Kind==7)then(app [a.Kind,a.Crew,a.No,a.At] [a.Pair.A,a.Pair.B]).bind λf=>some f else(bif (a.Kind==8)then(app [a.Kind,a.Crew,a.No,a.At] [a.Report.Case,a.Report.Bib,a.Report.Offence,a.Report.Position]).bind λg=>some g else(bif (a.Kind==9)then(app [a.Kind,a.Crew,a.No,a.At] [a.Protest.Case,a.Protest.By,a.Protest.Fee,a.Protest.Form]).bind λh=>some h else(bif (a.Kind==10)then(app [a.Kind,a.Crew,a.No,a.At] [a.Ruling.Case,a.Ruling.Instance,a.Ruling.Kind,a.Ruling.Bib,a.Ruling.Position,a.Ruling.Amount]).bind λi=>some i else(bif (a.Kind==11)then(bif a.Appeal.Suspends then(app [a.Kind,a.Crew,a.No,a.At] [a.Appeal.Case,1]).bind λj=>some j else(app [a.Kind,a.Crew,a.No,a.At] [a.Appeal.Case,0]).bind λk=>some k)else(bif (a.Kind==13)then(app [a.Kind,a.Crew,a.No,a.At] [a.Void.Crew,a.Void.No]).bind λl=>some l else some [a.Kind,a.Crew,a.No,a.At]))))))))))))
theorem k_cp(n:Nat)(a:Fact):Kq (F_cp n a) 236 [.agg (Fact.c a)] [] (λr=>.osl 0 0 r.length 1) (λr=>[.row 3 1 (map (Qf .i64) r)]):=by
 refine Kg 16 func236 Z Z Z Z λr h=>?_;refine vH (Ek (xs:=[.tmp 14,.tmp 16,.tmp 18,.tmp 20]) (es:=map (Qf .i64) [a.Kind,a.Crew,a.No,a.At]) Qz Z Z Z Z Z ⟨Z,Z,Z,Z,trivial⟩ Z Z) ?_;refine FE Z (Go 17 Z (Cn Z h (λF h=>?_) (λF h=>?_)))
 .refine Gc 27 Z ?_;refine vH (Ek (xs:=[.tmp 30,.tmp 32,.tmp 34,.tmp 36,.tmp 38,.tmp 40,.tmp 42,.tmp 44]) (es:=map (Qf .i64) [a.Starter.Bib,a.Starter.Distance,a.Starter.Wave,a.Starter.Slot,a.Starter.Age,a.Starter.Chip,a.Starter.Team,a.Starter.Lot]) Qz Z Z Z Z Z ⟨Z,Z,Z,Z,Z,Z,Z,Z,trivial⟩ Z Z) ?_;refine FE Z (Bd h λl2 G h=>?_);refine vH (Qp (e:=(Qf .i64)) G Qz EA (QU (i:=3))) ?_;exact FE Z (Go 6 Z (Rt h 2 [4]))
 refine Gc 6 Z (Cn Z h (λH h=>?_) (λH h=>?_))
 .refine Gc 19 Z ?_;refine vH (Ek (xs:=[.tmp 53,.tmp 55,.tmp 57,.tmp 59]) (es:=map (Qf .i64) [a.Read.Mat,a.Read.Epoch,a.Read.Chip,a.Read.Local]) Qz Z Z Z Z Z ⟨Z,Z,Z,Z,trivial⟩ Z Z) ?_;refine FE Z (Bd h λl4 J h=>?_);refine vH (Qp (e:=(Qf .i64)) J Qz EA (QU (i:=3))) ?_;exact FE Z (Go 6 Z (Rt h 2 [4]))
 refine Gc 6 Z (Cn Z h (λL h=>?_) (λL h=>?_))
 .refine Gc 21 Z ?_;refine vH (Ek (xs:=[.tmp 68,.tmp 70,.tmp 72,.tmp 74,.tmp 76]) (es:=map (Qf .i64) [a.Beacon.Mat,a.Beacon.Epoch,a.Beacon.Local,a.Beacon.True,a.Beacon.Err]) Qz Z Z Z Z Z ⟨Z,Z,Z,Z,Z,trivial⟩ Z Z) ?_;refine FE Z (Bd h λl6 M h=>?_);refine vH (Qp (e:=(Qf .i64)) M Qz EA (QU (i:=3))) ?_;exact FE Z (Go 6 Z (Rt h 2 [4]))
 refine Gc 6 Z (Cn Z h (λN h=>?_) (λN h=>?_))
 .refine Gc 27 Z ?_;refine vH (Ek (xs:=[.tmp 85,.tmp 87,.tmp 89,.tmp 91,.tmp 93,.tmp 95,.tmp 97,.tmp 99]) (es:=map (Qf .i64) [a.Sync.MatA,a.Sync.EpochA,a.Sync.LocalA,a.Sync.MatB,a.Sync.EpochB,a.Sync.LocalB,a.Sync.Min,a.Sync.Max]) Qz Z Z Z Z Z ⟨Z,Z,Z,Z,Z,Z,Z,Z,trivial⟩ Z Z) ?_;refine FE Z (Bd h λl8 O h=>?_);refine vH (Qp (e:=(Qf .i64)) O Qz EA (QU (i:=3))) ?_;exact FE Z (Go 6 Z (Rt h 2 [4]))
 refine Gc 6 Z (Cn Z h (λP h=>?_) (λP h=>?_))
 .refine Gc 19 Z ?_;refine vH (Ek (xs:=[.tmp 108,.tmp 110,.tmp 112,.tmp 114]) (es:=map (Qf .i64) [a.Hand.Bib,a.Hand.Position,a.Hand.Lo,a.Hand.Hi]) Qz Z Z Z Z Z ⟨Z,Z,Z,Z,trivial⟩ Z Z) ?_;refine FE Z (Bd h λQ d h=>?_);refine vH (Qp (e:=(Qf .i64)) d Qz EA (QU (i:=3))) ?_;exact FE Z (Go 6 Z (Rt h 2 [4]))
 refine Gc 6 Z (Cn Z h (λf h=>?_) (λf h=>?_))
 .refine Gc 19 Z ?_;refine vH (Ek (xs:=[.tmp 123,.tmp 125,.tmp 127,.tmp 129]) (es:=map (Qf .i64) [a.Silence.Mat,a.Silence.Epoch,a.Silence.Lo,a.Silence.Hi]) Qz Z Z Z Z Z ⟨Z,Z,Z,Z,trivial⟩ Z Z) ?_;refine FE Z (Bd h λR g h=>?_);refine vH (Qp (e:=(Qf .i64)) g Qz EA (QU (i:=3))) ?_;exact FE Z (Go 6 Z (Rt h 2 [4]))
 refine Gc 6 Z (Cn Z h (λj h=>?_) (λj h=>?_))
 .refine Gc 9 Z ?_;refine vH (Ek (xs:=[.tmp 137,.tmp 140]) (es:=map (Qf .i64) [a.Pair.A,a.Pair.B]) Qz Z Z Z Z Z ⟨Z,Z,trivial⟩ Z Z) ?_;refine FE Z (Bd h λT k h=>?_);refine vH (Qp (e:=(Qf .i64)) k Qz EA (QU (i:=2))) ?_;exact FE Z (Go 6 Z (Rt h 2 [3]))
 refine Gc 6 Z (Cn Z h (λl h=>?_) (λl h=>?_))
 .refine Gc 19 Z ?_;refine vH (Ek (xs:=[.tmp 149,.tmp 151,.tmp 153,.tmp 155]) (es:=map (Qf .i64) [a.Report.Case,a.Report.Bib,a.Report.Offence,a.Report.Position]) Qz Z Z Z Z Z ⟨Z,Z,Z,Z,trivial⟩ Z Z) ?_;refine FE Z (Bd h λV m h=>?_);refine vH (Qp (e:=(Qf .i64)) m Qz EA (QU (i:=3))) ?_;exact FE Z (Go 6 Z (Rt h 2 [4]))
 refine Gc 6 Z (Cn Z h (λp h=>?_) (λp h=>?_))
 .refine Gc 19 Z ?_;refine vH (Ek (xs:=[.tmp 164,.tmp 166,.tmp 168,.tmp 170]) (es:=map (Qf .i64) [a.Protest.Case,a.Protest.By,a.Protest.Fee,a.Protest.Form]) Qz Z Z Z Z Z ⟨Z,Z,Z,Z,trivial⟩ Z Z) ?_;refine FE Z (Bd h λW q h=>?_);refine vH (Qp (e:=(Qf .i64)) q Qz EA (QU (i:=3))) ?_;exact FE Z (Go 6 Z (Rt h 2 [4]))
 refine Gc 6 Z (Cn Z h (λs h=>?_) (λs h=>?_))
 .refine Gc 23 Z ?_;refine vH (Ek (xs:=[.tmp 179,.tmp 181,.tmp 183,.tmp 185,.tmp 187,.tmp 189]) (es:=map (Qf .i64) [a.Ruling.Case,a.Ruling.Instance,a.Ruling.Kind,a.Ruling.Bib,a.Ruling.Position,a.Ruling.Amount]) Qz Z Z Z Z Z ⟨Z,Z,Z,Z,Z,Z,trivial⟩ Z Z) ?_;refine FE Z (Bd h λX t h=>?_);refine vH (Qp (e:=(Qf .i64)) t Qz EA (QU (i:=3))) ?_;exact FE Z (Go 6 Z (Rt h 2 [4]))
 refine Gc 6 Z (Cn Z h (λu h=>?_) (λu h=>?_))
 .refine Gc 8 Z (Cn Z h (λw h=>?_) (λw h=>?_))
  .refine Gc 6 Z ?_;refine vH (Ek (xs:=[.tmp 200,.const (.int .i64 1)]) (es:=map (Qf .i64) [a.Appeal.Case,1]) Qz Z Z Z Z Z ⟨Z,Z,trivial⟩ Z Z) ?_;refine FE Z (Bd h λY x h=>?_);refine vH (Qp (e:=(Qf .i64)) x Qz EA (QU (i:=2))) ?_;exact FE Z (Go 7 Z (Rt h 2 [3]))
  refine Gc 8 Z ?_;refine vH (Ek (xs:=[.tmp 206,.const (.int .i64 0)]) (es:=map (Qf .i64) [a.Appeal.Case,0]) Qz Z Z Z Z Z ⟨Z,Z,trivial⟩ Z Z) ?_;refine FE Z (Bd h λaa y h=>?_);refine vH (Qp (e:=(Qf .i64)) y Qz EA (QU (i:=2))) ?_;exact FE Z (Go 6 Z (Rt h 2 [3]))
 refine Gc 6 Z (Cn Z h (λz h=>?_) (λz h=>?_))
 .refine Gc 9 Z ?_;refine vH (Ek (xs:=[.tmp 214,.tmp 217]) (es:=map (Qf .i64) [a.Void.Crew,a.Void.No]) Qz Z Z Z Z Z ⟨Z,Z,trivial⟩ Z Z) ?_;refine FE Z (Bd h λab E h=>?_);refine vH (Qp (e:=(Qf .i64)) E Qz EA (QU (i:=2))) ?_;exact FE Z (Go 6 Z (Rt h 2 [3]))
 exact Gc 10 Z (Rt h 2 [1])
def F_fu(n:Nat)(a:Int):Option Unit:=some ()
theorem k_fu(n:Nat)(a:Int):Kq (F_fu n a) 266 [I a] [] (λ_=>.agg [I 1,I a,.str [],.rsl 4 (map Value.enc [])]) (λ_=>[.cells 305 [I 1,I a,.str [],.rsl 4 (map Value.enc [])]]):=by
 refine Kg 13 func266 Z Z Z Z λr h=>?_;obtain rfl:=Oi h;exact Rx [0] [2] Z (Q3 Z (Qg Gs Gl Z Z Z)) ⟨Z,Z⟩
def F_ko(n:Nat)(e:List Int)(a:(List Value)×Int):Option (Ctl ((List Value)×Int) (List Value)):=(bif decide (a.2<(e.length:Int))then(idx e a.2).bind λd=>(F_fu n d).bind λg=>(app a.1 [{Kind:=1,N:=d,S:=[],L:=[]:Value}]).bind λf=>some (.cont (f,i64.wrap (a.2+1)))else some (.done a.1))
def F_fc(n:Nat)(d:List Int):Option (List Value):=(iter (F_ko n d) n ([],0):Option (List Value)).bind λa=>some a
theorem k_fc(n:Nat)(j:List Int):Kq (F_fc n j) 235 [.rsl 1 (map (Qf .i64) j)] [] (λr=>.agg [I 3,I 0,.str [],.osl 0 0 r.length 4]) (λr=>[.row 305 4 (map Value.enc r),.cells 305 [I 3,I 0,.str [],.osl 0 0 r.length 4]]):=by
 refine Kg 7 func235 Z Z Z Z λr h=>?_;refine vX (.agg [I 3,I 0,.str [],.nils]) (OpV.build (zs:=[I 0,I 0,.str [],.nils]) Gn (zrC Z) Qmz) ?_;refine vH (QbC (v:=(.agg [I 0,I 0,.str [],.nils])) Gn (zrC Z)) ?_;refine FE Z (Go 9 Z (Bd h λg w h=>?_));refine Ct g [0,1,0] [2,3] Ze (λg=>[(1,.cells 305 [I 3,I 0,.str [],.osl 2 0 g.length 4]),(2,.row 305 4 (map Value.enc g))]) Zf ?_ (λenv H y=>?_)
 .refine G0 1 Z ?_;refine Lp [0,1,0] [0,2,3] (λa=>[(4,I a.2)]) (λa=>[(1,.cells 305 [I 3,I 0,.str [],.osl 2 0 a.1.length 4]),(2,.row 305 4 (map Value.enc a.1))]) w Zf ?_ ?_
  .refine En (QaZ (i:=1) (m:=3) (t:=305) (k:=4) Z Z Z) ?_;exact Lr [0,1,2]
  intro a z d l;refine G0 5 Z (Lm Z (Go 3 Z (Yk Z d (λp d=>?_) (λp d=>?_))))
  .refine Gc 2 Z (Qk d ?_);obtain rfl:=Oj l d;exact Gx 1 Z (QF (Lr [0,1,2]))
  refine Gc 4 Z ?_;obtain⟨f,q,d⟩:=Yl d;obtain⟨B,s,d⟩:=Yl d;refine YL 8 0 [12,13,14,15,16,17,18,19] [false,false,false,false,false,false,true,false] [[],[],[],[],[],[],[],[6]] [[],[6]] [[(0,0),(1,1)],[(0,0),(1,1)],[(0,0)],[(0,0)],[(0,0)],[(0,0)],[(0,1)],[(1,1)]] [.ptr 1 3,.osl 2 0 a.1.length 4,.rsl 1 (map (Qf .i64) j),I a.2,.rp [I f],I f,.agg [I 1,I f,.str [],.rsl 4 (map Value.enc [])],.rsl 4 (map Value.enc [{Kind:=1,N:=f,S:=[],L:=[]:Value}])] [[.cells 305 (Value.c Uw),.cells 305 [I 3,I 0,.str [],.osl 2 0 a.1.length 4],.row 305 4 (map Value.enc a.1)],[.cells 305 (Value.c Uw),.cells 305 [I 3,I 0,.str [],.osl 2 0 a.1.length 4],.row 305 4 (map Value.enc a.1),.cells 305 [I 1,I f,.str [],.rsl 4 (map Value.enc [])]]] ([.cells 305 (Value.c Uw),.cells 305 [I 3,I 0,.str [],.osl 2 0 a.1.length 4],.row 305 4 (map Value.enc a.1),.cells 305 [I 1,I f,.str [],.rsl 4 (map Value.enc [])]]) draws Z Z Z Z Z Z Z ?_ Z ?_
  .refine Qh4.cons (Qb (v0 Z Z) (Qb (v0 Z Z) (Qc))) (Qh4.cons (Qb (v0 Z Z) (Qb (v0 Z Z) (Qc))) (Qh4.cons (Qb (v0 Z Z) (Qc)) (Qh4.cons (Qb (v0 Z Z) (Qc)) (Qh4.cons ?_ (Qh4.cons (Qb (v0 Z Z) (Qc)) (Qh4.cons ?_ (Qh4.cons ?_ (Qh4.nil))))))))
   .refine Qb ?_ (Qc)
    .refine Om Z (sD 2 (sD 3 sN)) ?_;exact Ix q EA ED Z Wp
   .refine Qb ?_ (Qc)
    .refine Om1 Z (sD 5 sN) ?_;refine Qo [] (OpC.fn call266 Z Z Z) (k_fu _ _ _ s) ?_;rintro _ _ ⟨rfl,rfl⟩;exact FE Z Wp
   .refine Qb ?_ (Qc)
    .refine Om Z (sD 6 sN) ?_;refine vH (YE (xs:=[.tmp 18]) (es:=[Value.c ({Kind:=1,N:=f,S:=[],L:=[]:Value})]) QhR Z Z Z Z Z ⟨Z,trivial⟩ Z Z) ?_;refine Qnx (x:=(.rsl 4 (map Value.enc [{Kind:=1,N:=f,S:=[],L:=[]:Value}]))) (H:=[_,_,_,_]) (by simp[Y0]) Z ?_;exact Wp
  refine Bd d λE u d=>?_;refine vH (Qp (e:=Value.enc) u QhR EV Qb8) ?_;exact FE Z (Go 10 Z (Qj d (Lr [0,1,4])))
 refine Gx 1 Z (Qd y (Gc 7 Z ?_));obtain rfl:=Oi h;exact Rx [2,0] [2] Z (Q3 Z (Qg Gs Gl Z Z Z)) ⟨Z,Z⟩
def F_kl(n:Nat)(d:Value)(rec250:Value->Option Bool)(a:Int):Option (Ctl Int (Ctl Unit Bool)):=(bif decide (a<(d.L.length:Int))then(idx d.L a).bind λe=>(rec250 e).bind λf=>(bif (!f)then some (.done (.done false))else some (.cont (i64.wrap (a+1))))else some (.done (.cont ())))
def B_ai(rec250:Value->Option Bool)(n:Nat)(a:Value):Option Bool:=(bif (a.Kind==1)then((bif (a.S==[])then some ((a.L.length:Int)==0)else some false):Option Bool).bind λg=>some g else(bif (a.Kind==2)then((bif (a.N==0)then some ((a.L.length:Int)==0)else some false):Option Bool).bind λh=>some h else(bif (a.Kind==3)then(iter (F_kl n a rec250) n 0:Option (Ctl Unit Bool)).bind λe=>match e with|.cont d=>(((bif (a.N==0)then some (a.S==[])else some false):Option Bool).bind λf=>some f)|.done d=>some d else some false)))
theorem QaR(rec250:Value->Option Bool)(f:∀(g:Value) (r:Bool),rec250 g=some r->Csm prog 278 [.agg (Value.c g)] [] (λr=>.bool r) r)(n:Nat)(g:Value)(r:Bool)(h:B_ai rec250 n g=some r):Csm prog 278 [.agg (Value.c g)] [] (λr=>.bool r) r:=by
 refine QO func278 Z Z Z ?_;refine G0 20 Z (Cn Z h (λz h=>?_) (λz h=>?_))
 .refine Gc 1 Z (Bd h λp i h=>?_);refine Ct p [] [] (λp=>[(2,.bool p)]) Ze Zf ?_ (λenv H d=>?_)
  .refine G0 5 Z (Is 11 i Z (λB i=>?_) (λB i=>?_))
   .exact Go 2 Z (Lm Z (Go 4 Z (Cl i [])))
   .exact Go 7 Z (Cl i [])
  exact Gx 1 Z (Qd d (Gc 3 Z (Rt h 2 [])))
 refine Gc 6 Z (Cn Z h (λE h=>?_) (λE h=>?_))
 .refine Gc 1 Z (Bd h λq j h=>?_);refine Ct q [] [] (λq=>[(2,.bool q)]) Ze Zf ?_ (λenv H d=>?_)
  .refine G0 5 Z (Is 22 j Z (λs j=>?_) (λs j=>?_))
   .exact Go 2 Z (Lm Z (Go 4 Z (Cl j [])))
   .exact Go 7 Z (Cl j [])
  exact Gx 1 Z (Qd d (Gc 3 Z (Rt h 2 [])))
 refine Gc 6 Z (Cn Z h (λt h=>?_) (λt h=>?_))
 .refine Gc 6 Z (Bd h λF G h=>?_);refine Jk (b:=F) [0] [1] Ze Ze Zf ?_ (λM env H J d=>?_)
  .refine G0 1 Z ?_;refine Lp [0] [1] (λm=>[(3,I m)]) Ze G Zf (Lr [0]) λm O a k=>?_;refine G0 6 Z (Lm Z (Go 3 Z (Yk Z a (λu a=>?_) (λu a=>?_))))
   .refine Gc 2 Z (Qk a ?_);obtain rfl:=Oj k a;exact Gx 1 Z (Qq Z (Lr [0]))
   refine Gc 9 Z (Bd a λL w a=>IzE w (Y0 L) Z (Go 1 Z (Cz [] a (f _) Z λP N a=>Go 3 Z (Cn Z a (λx a=>?_) (λx a=>?_)))))
   .refine Gc 8 Z (Qy a ?_);obtain rfl:=Oj k a;exact Gx 1 Z (Qu (Gx 3 Z (Rt h 2 [])))
   exact Gc 8 Z (Qj a (Lr [0]))
  subst J;refine Gx 1 Z (Qd d (Gc 1 Z (Bd h λl e h=>?_)));refine Ct l [] [] (λl=>[(2,.bool l)]) Ze Zf ?_ (λenv H d=>?_)
  .refine G0 5 Z (Is 47 e Z (λy e=>?_) (λy e=>?_))
   iterate 2 exact Go 6 Z (Cl e [])
  exact Gx 1 Z (Qd d (Gc 3 Z (Rt h 2 [])))
 exact Gc 9 Z (Rt h 2 [])
def F_ai:Nat->Value->Option Bool
  |0=>λ_=>none
  |n+1=>B_ai (F_ai n) n
theorem k_ai(n:Nat):∀(a:Value) (r:Bool),F_ai n a=some r->Csm prog 278 [.agg (Value.c a)] [] (λr=>.bool r) r:=by
  induction n with
  |zero=>intro a r h;cases h
  |succ n ih=>intro a r h;exact QaR _ ih n a r h
def F_ks(n:Nat)(e:Value)(rec251:Value->Option Int)(a:Int×Int):Option (Ctl (Int×Int) Int):=(bif decide (a.2<(e.L.length:Int))then(idx e.L a.2).bind λf=>(rec251 f).bind λd=>some (.cont ((if a.1<d then d else a.1),i64.wrap (a.2+1)))else some (.done a.1))
def B_aj(rec251:Value->Option Int)(n:Nat)(a:Value):Option Int:=(bif (a.Kind != 3)then some 0 else(iter (F_ks n a rec251) n (0,0):Option Int).bind λd=>some (i64.wrap (d+1)))
theorem Qa4(rec251:Value->Option Int)(e:∀(f:Value) (r:Int),rec251 f=some r->Csm prog 279 [.agg (Value.c f)] [] (λr=>I r) r)(n:Nat)(f:Value)(r:Int)(h:B_aj rec251 n f=some r):Csm prog 279 [.agg (Value.c f)] [] (λr=>I r) r:=by
 refine QO func279 Z Z Z ?_;refine G0 14 Z (Cn Z h (λm h=>?_) (λm h=>?_))
 .exact Gc 7 Z (Rt h 2 [])
 refine Gc 13 Z (Bd h λi p h=>?_);refine Ct i [] [] (λi=>[(3,I i)]) Ze Zf ?_ (λenv H q=>?_)
 .refine G0 1 Z ?_;refine Lp [0] [1] (λd=>[(3,I d.1),(4,I d.2)]) Ze p Zf (Lr [0]) λd u a j=>?_;refine G0 6 Z (Lm Z (Go 3 Z (Yk Z a (λk a=>?_) (λk a=>?_))))
  .refine Gc 2 Z (Qk a ?_);obtain rfl:=Oj j a;exact Gx 1 Z (QF (Lr []))
  refine Gc 9 Z (Bd a λs l a=>IzE l (Y0 s) Z (Go 1 Z (Cz [] a (e _) Z λg t a=>?_)));refine vX (I (if d.1<g then g else d.1)) (OpV.max Z Z Z Z) ?_;exact Go 9 Z (Qj a (Lr [0]))
 exact Gx 1 Z (Qd q (Gc 8 Z (Rt h 2 [])))
def F_aj:Nat->Value->Option Int
  |0=>λ_=>none
  |n+1=>B_aj (F_aj n) n
theorem k_aj(n:Nat):∀(a:Value) (r:Int),F_aj n a=some r->Csm prog 279 [.agg (Value.c a)] [] (λr=>I r) r:=by
  induction n with
  |zero=>intro a r h;cases h
  |succ n ih=>intro a r h;exact Qa4 _ ih n a r h
def F_io(n:Nat)(a:Value):Option Int:=(F_ai n a).bind λd=>(bif (!d)then some 1 else(F_aj n a).bind λe=>(bif decide (16<e)then some 2 else some 0))
theorem k_io(n:Nat)(a:Value):Ks (F_io n a) 264 [.agg (Value.c a)] [] (λr=>I r):=by
 refine Kg 10 func264 Z Z Z Z λr h=>Cz [] h (k_ai _ _) Z λi f h=>Go 3 Z (Cn Z h (λd h=>?_) (λd h=>?_))
 .exact Gc 7 Z (Rt h 2 [])
 refine Gc 6 Z (Cz [] h (k_aj _ _) Z λj g h=>Go 3 Z (Cn Z h (λe h=>?_) (λe h=>?_)))
 .exact Gc 7 Z (Rt h 2 [])
 exact Gc 8 Z (Rt h 2 [])
def F_dv(n:Nat)(a:Int):Option Int:=(bif decide (0<=a)then some (u64.wrap (2*(u64.wrap a)))else some (u64.wrap ((u64.wrap (2*(u64.wrap (i64.wrap (0-(i64.wrap (a+1)))))))+1)))
theorem k_dv(n:Nat)(a:Int):Ks (F_dv n a) 281 [I a] [] (λr=>.int .u64 r):=by
 refine Kg 12 func281 Z Z Z Z λr h=>Cn Z h (λd h=>?_) (λd h=>?_)
 .refine Gc 3 Z ?_;refine vX (.int .u64 (u64.wrap a)) (Yz Z EI EJ Z) ?_;exact Go 6 Z (Rt h 2 [])
 refine Gc 7 Z ?_;refine vV (x:=(.int .u64 (u64.wrap (i64.wrap (0-(i64.wrap (a+1))))))) (Yz Z EI EJ Z) ?_;exact Go 6 Z (Rt h 2 [])
def B_j(rec254:Int->Option (List Int))(n:Nat)(a:Int):Option (List Int):=(bif decide (a<128)then some [u8.wrap a]else(rec254 (u64.wrap (Int.tdiv a 128))).bind λd=>(app [u8.wrap (u64.wrap ((Int.tmod a 128)+128))] d).bind λe=>some e)
theorem QaJ(rec254:Int->Option (List Int))(d:∀(a:Int) (r:List Int),rec254 a=some r->C prog 280 [.int .u64 a] [] (RQ (λr=>.osl 0 0 r.length 1) (λr=>[.row 5 1 (map (Qf .u8) r)]) r))(n:Nat)(a:Int)(r:List Int)(h:B_j rec254 n a=some r):C prog 280 [.int .u64 a] [] (RQ (λr=>.osl 0 0 r.length 1) (λr=>[.row 5 1 (map (Qf .u8) r)]) r):=by
 refine QO func280 Z Z Z ?_;refine G0 12 Z (Cn Z h (λf h=>?_) (λf h=>?_))
 .refine Gc 3 Z ?_;refine vX (.int .u8 (u8.wrap a)) (Yz Z EJ EY Z) ?_;refine vH (Ek (xs:=[.tmp 6]) (es:=map (Qf .u8) [u8.wrap a]) YG Z Z Z Z Z ⟨Z,trivial⟩ Z Z) ?_;exact FE Z (Go 5 Z (Rt h 2 [0]))
 refine Gc 5 Z ?_;refine vX (.int .u64 (Int.tmod a 128)) (OpV.rem Z Z Z (by decide)) ?_;refine Go 1 Z ?_;refine vV (x:=(.int .u8 (u8.wrap (u64.wrap ((Int.tmod a 128)+128))))) (Yz Z EJ EY Z) ?_;refine vH (Ek (xs:=[.tmp 11]) (es:=map (Qf .u8) [u8.wrap (u64.wrap ((Int.tmod a 128)+128))]) YG Z Z Z Z Z ⟨Z,trivial⟩ Z Z) ?_;refine FE Z (Go 1 Z ?_);refine vX (.int .u64 (u64.wrap (Int.tdiv a 128))) (OpV.quo Z Z Z (by decide)) ?_;refine Cd [] h (d _) Z λk j h=>FE Z (Bd h λl g h=>?_);refine vH (Qp (e:=(Qf .u8)) g YG EG (QU (i:=1))) ?_;exact FE Z (Go 4 Z (Rt h 2 [2]))
def F_j:Nat->Int->Option (List Int)
  |0=>λ_=>none
  |n+1=>B_j (F_j n) n
theorem k_j(n:Nat):∀(a:Int) (r:List Int),F_j n a=some r->C prog 280 [.int .u64 a] [] (RQ (λr=>.osl 0 0 r.length 1) (λr=>[.row 5 1 (map (Qf .u8) r)]) r):=by
  induction n with
  |zero=>intro a r h;cases h
  |succ n ih=>intro a r h;exact QaJ _ ih n a r h
def F_iq(n:Nat)(d:Value)(rec252:Value->Option (List Int))(a:(List Int)×Int):Option (Ctl ((List Int)×Int) (List Int)):=(bif decide (a.2<(d.L.length:Int))then(idx d.L a.2).bind λe=>(rec252 e).bind λf=>(app a.1 f).bind λg=>some (.cont (g,i64.wrap (a.2+1)))else some (.done a.1))
def B_k(rec252:Value->Option (List Int))(n:Nat)(a:Value):Option (List Int):=(bif (a.Kind==1)then(F_dv n a.N).bind λe=>(F_j n e).bind λf=>(app [1] f).bind λg=>some g else(bif (a.Kind==2)then none else(F_j n (u64.wrap (a.L.length:Int))).bind λh=>(app [3] h).bind λi=>(iter (F_iq n a rec252) n (i,0):Option (List Int)).bind λd=>some d))
theorem QaQ(rec252:Value->Option (List Int))(g:∀(j:Value) (r:List Int),rec252 j=some r->C prog 265 [.agg (Value.c j)] [] (RQ (λr=>.osl 0 0 r.length 1) (λr=>[.row 5 1 (map (Qf .u8) r)]) r))(n:Nat)(j:Value)(r:List Int)(h:B_k rec252 n j=some r):C prog 265 [.agg (Value.c j)] [] (RQ (λr=>.osl 0 0 r.length 1) (λr=>[.row 5 1 (map (Qf .u8) r)]) r):=by
 refine QO func265 Z Z Z ?_;refine G0 20 Z (Cn Z h (λq h=>?_) (λq h=>?_))
 .refine Gc 2 Z ?_;refine vH (Ek (xs:=[.const (.int .u8 1)]) (es:=map (Qf .u8) [1]) YG Z Z Z Z Z ⟨Z,trivial⟩ Z Z) ?_;refine FE Z (Go 2 Z (Cz [] h (k_dv _ _) Z λN B h=>Cd [] h (k_j _ _) Z λO E h=>FE Z (Bd h λP s h=>?_)));refine vH (Qp (e:=(Qf .u8)) s YG EG (QU (i:=2))) ?_;exact FE Z (Go 6 Z (Rt h 2 [3]))
 refine Gc 6 Z (Cn Z h (λt h=>?_) (λt h=>?_))
 .refine Gc 1 Z ?_;cases h
 refine Gc 5 Z ?_;refine vH (Ek (xs:=[.const (.int .u8 3)]) (es:=map (Qf .u8) [3]) YG Z Z Z Z Z ⟨Z,trivial⟩ Z Z) ?_;refine FE Z (Go 2 Z (Lm Z ?_));refine vX (.int .u64 (u64.wrap (j.L.length:Int))) (Yz Z EI EJ Z) ?_;refine Cd [] h (k_j _ _) Z λQ F h=>FE Z (Bd h λR u h=>?_);refine vH (Qp (e:=(Qf .u8)) u YG EG (QU (i:=2))) ?_;refine FE Z (Go 9 Z (Bd h λd w h=>?_));refine Ct d [1] [] (λd=>[(3,.osl 0 0 d.length 1)]) (λd=>[(0,.row 5 1 (map (Qf .u8) d))]) Zf ?_ (λenv H x=>?_)
 .refine G0 1 Z ?_;refine Lp [0,3] [1] (λf=>[(3,.osl 1 0 f.1.length 1),(4,I f.2)]) (λf=>[(1,.row 5 1 (map (Qf .u8) f.1))]) w Zf (Lr [0,3]) λf G a k=>?_;refine G0 6 Z (Lm Z (Go 3 Z (Yk Z a (λl a=>?_) (λl a=>?_))))
  .refine Gc 2 Z (Qk a ?_);obtain rfl:=Oj k a;exact Gx 1 Z (QF (Lr [1]))
  refine Gc 9 Z (Bd a λy m a=>IzE m (Y0 y) Z (Go 1 Z (Cd [] a (g _) Z λJ z a=>FE Z (Bd a λM p a=>?_))));refine vH (Qp (e:=(Qf .u8)) p YG EG (QU (i:=2))) ?_;exact FE Z (Go 9 Z (Qj a (Lr [0,3])))
 exact Gx 1 Z (Qd x (Gc 7 Z (Rt h 2 [0])))
def F_k:Nat->Value->Option (List Int)
  |0=>λ_=>none
  |n+1=>B_k (F_k n) n
theorem k_k(n:Nat):∀(a:Value) (r:List Int),F_k n a=some r->C prog 265 [.agg (Value.c a)] [] (RQ (λr=>.osl 0 0 r.length 1) (λr=>[.row 5 1 (map (Qf .u8) r)]) r):=by
  induction n with
  |zero=>intro a r h;cases h
  |succ n ih=>intro a r h;exact QaQ _ ih n a r h
def F_ij(n:Nat)(a:Value):Option ((List Int)×Int):=(F_io n a).bind λd=>(bif (d != 0)then some ([],d)else(F_k n a).bind λe=>some (e,0))
theorem k_ij(n:Nat)(a:Value):Kq (F_ij n a) 234 [.agg (Value.c a)] [] (λr=>.tup [.osl 0 0 r.1.length 1,I r.2]) (λr=>[.row 5 1 (map (Qf .u8) r.1)]):=by
 refine Kg 10 func234 Z Z Z Z λr h=>Cz [] h (k_io _ _) Z λg e h=>Go 10 Z (Cn Z h (λd h=>?_) (λd h=>?_))
 .refine Gc 9 Z ?_;obtain rfl:=Oi h;refine R2 2 3 Z Z ?_;refine En (Er (s:=2) (k:=1) (t:=5) (XQ Z) Z) ?_;exact Lr [1]
 refine Gc 5 Z (Cd [] h (k_k _ _) Z λi f h=>FE Z (Go 5 Z ?_));obtain rfl:=Oi h;exact R2 2 3 Z Z (Lr [1])
def F_bx(n:Nat)(a:Fact):Option ((List Int)×Int):=(F_br n a).bind λe=>(bif (e != 0)then some ([],120)else(F_cp n a).bind λf=>(F_fc n f).bind λg=>(F_ij n ({Kind:=3,N:=0,S:=[],L:=g:Value})).bind λd=>some (d.1,d.2))
theorem k_bx(n:Nat)(a:Fact):Kq (F_bx n a) 177 [.agg (Fact.c a)] [] (λr=>.tup [.osl 0 0 r.1.length 1,I r.2]) (λr=>[.row 5 1 (map (Qf .u8) r.1)]):=by
 refine Kg 11 func177 Z Z Z Z λr h=>Cz [] h (k_br _ _) Z λj e h=>Go 3 Z (Cn Z h (λd h=>?_) (λd h=>?_))
 .refine Gc 8 Z ?_;obtain rfl:=Oi h;refine R2 2 3 Z Z ?_;refine En (Er (s:=2) (k:=1) (t:=5) (XQ Z) Z) ?_;exact Lr [1]
 refine Gc 5 Z (Cd [] h (k_cp _ _) Z λl f h=>FE Z ?_);refine QG (Qca [(8,_)] Z Z (QnR.cons Z Ep QnR.nil) (Ec (Ec (Qap _)))) ?_;refine Cd [] h (k_fc _ _) Z λm g h=>FE Z ?_;refine QG (Qca [(9,_)] Z Z (QnR.cons Z (FzA.agg (Ed (Ee _) (Ed (Ee _) (Ed (Ee _) (Ed Ep (Ej _)))))) QnR.nil) (Ec (Ec (Ec (FzH.cells (Ed (Ee _) (Ed (Ee _) (Ed (Ee _) (Ed Ep (Ej _))))) (Qap _)))))) ?_;refine Cd [] h (k_ij _ _) Z λp i h=>FE Z (Go 7 Z ?_);obtain rfl:=Oi h;exact R2 2 3 Z Z (Lr [4])
def F_ga(n:Nat)(d:Fact)(e:Fact)(a:Int):Option (Ctl Int (Ctl Unit Int)):=(bif decide (a<3)then(idx [d.At,d.Crew,d.No] a).bind λf=>(idx [e.At,e.Crew,e.No] a).bind λg=>(bif decide (f<g)then some (.done (.done (-1)))else(idx [d.At,d.Crew,d.No] a).bind λh=>(idx [e.At,e.Crew,e.No] a).bind λi=>(bif decide (i<h)then some (.done (.done 1))else some (.cont (i64.wrap (a+1)))))else some (.done (.cont ())))
def F_ci(n:Nat)(f:Fact)(g:Fact):Option Int:=(iter (F_ga n f g) n 0:Option (Ctl Unit Int)).bind λh=>match h with|.cont a=>((F_bx n f).bind λd=>(F_bx n g).bind λe=>(bif Op.bytesLess (map Q6 d.1) (map Q6 e.1)then some (-1)else(bif (!(Op.bytesLess (map Q6 d.1) (map Q6 e.1)||(map Q6 d.1)==(map Q6 e.1)))then some 1 else some 0)))|.done a=>some a
theorem k_ci(n:Nat)(j:Fact)(k:Fact):Ks (F_ci n j k) 93 [.agg (Fact.c j),.agg (Fact.c k)] [] (λr=>I r):=by
 refine Kg 15 func93 Z Z Z Z λr h=>?_;refine vH (Ek (xs:=[.tmp 13,.tmp 15,.tmp 17]) (es:=map (Qf .i64) [j.At,j.Crew,j.No]) Qz Z Z Z Z Z ⟨Z,Z,Z,trivial⟩ Z Z) ?_;refine FE Z (Go 11 Z ?_);refine vH (Ek (xs:=[.tmp 20,.tmp 22,.tmp 24]) (es:=map (Qf .i64) [k.At,k.Crew,k.No]) Qz Z Z Z Z Z ⟨Z,Z,Z,trivial⟩ Z Z) ?_;refine FE Z (Go 9 Z (Bd h λB E h=>?_));refine Jk (b:=B) [0,1] [2,3] Ze Ze Zf ?_ (λO env H F G=>?_)
 .refine G0 1 Z ?_;refine Lp [0,1,2,3] [2,3,5,6] (λd=>[(7,I d)]) Ze E Zf (Lr [0,1,2,3]) λd R a g=>?_;refine G0 7 Z (Yk Z a (λt a=>?_) (λt a=>?_))
  .refine Gc 2 Z (Qk a ?_);obtain rfl:=Oj g a;exact Gx 1 Z (Qq Z (Lr [0,1]))
  refine Gc 6 Z (DSs 8 Z (D 2 Z ?_));obtain⟨J,m,a⟩:=Yl a;refine DS.v (x:=(.ptr 2 (toNat d*1))) (Qv m Z EA ED) ?_;refine DS.v (x:=(I J)) (Ey Z EF Z (Qm m)) ?_;refine D 2 Z ?_;obtain⟨L,p,a⟩:=Yl a;refine DS.v (x:=(.ptr 3 (toNat d*1))) (Qv p Z EA ED) ?_;refine DS.v (x:=(I L)) (Ey Z EF Z (Qm p)) ?_;refine Eg Z (Go 3 Z (Cn Z a (λu a=>?_) (λu a=>?_)))
  .refine Gc 9 Z (Qy a ?_);obtain rfl:=Oj g a;exact Gx 1 Z (Qu (Gx 1 Z (Rt h 4 [])))
  refine Gc 3 Z (DSs 8 Z (D 2 Z ?_));obtain⟨M,q,a⟩:=Yl a;refine DS.v (x:=(.ptr 2 (toNat d*1))) (Qv q Z EA ED) ?_;refine DS.v (x:=(I M)) (Ey Z EF Z (Qm q)) ?_;refine D 2 Z ?_;obtain⟨N,s,a⟩:=Yl a;refine DS.v (x:=(.ptr 3 (toNat d*1))) (Qv s Z EA ED) ?_;refine DS.v (x:=(I N)) (Ey Z EF Z (Qm s)) ?_;refine Eg Z (Go 3 Z (Cn Z a (λw a=>?_) (λw a=>?_)))
  .refine Gc 8 Z (Qy a ?_);obtain rfl:=Oj g a;exact Gx 1 Z (Qu (Gx 1 Z (Rt h 4 [])))
  exact Gc 8 Z (Qj a (Lr [0,1,2,3]))
 subst F;refine Gx 1 Z (Qd G (Gc 3 Z (Cd [] h (k_bx _ _) Z λe P h=>FE Z (Go 10 Z (Cd [] h (k_bx _ _) Z λf Q h=>FE Z (Go 11 Z ?_))))));refine vX (.str (map Q6 e.1)) (Qct (l:=e.1) (Qj8.row (i:=2)) EG EY EE) ?_;refine Go 1 Z ?_;refine vX (.str (map Q6 f.1)) (Qct (l:=f.1) (Qj8.row (i:=3)) EG EY EE) ?_;refine Go 3 Z (Cn Z h (λy h=>?_) (λy h=>?_))
 .exact Gc 7 Z (Rt h 4 [])
 refine Gc 6 Z ?_;refine vX (.str (map Q6 e.1)) (Qct (l:=e.1) (Qj8.row (i:=2)) EG EY EE) ?_;refine Go 1 Z ?_;refine vX (.str (map Q6 f.1)) (Qct (l:=f.1) (Qj8.row (i:=3)) EG EY EE) ?_;refine vX (.bool (!(Op.bytesLess (map Q6 e.1) (map Q6 f.1)||(map Q6 e.1)==(map Q6 f.1)))) (Ql1 Z Z Z) ?_;refine Go 2 Z (Cn Z h (λz h=>?_) (λz h=>?_))
 .exact Gc 7 Z (Rt h 4 [])
 exact Gc 8 Z (Rt h 4 [])
def F_dp(n:Nat)(i:List Fact)(d:(List Fact)×Int)(a:Int):Option (Ctl Int Int):=((bif decide (a<(d.1.length:Int))then(idx d.1 a).bind λe=>(idx i d.2).bind λf=>(F_ci n e f).bind λg=>some (decide (g<0))else some false):Option Bool).bind λh=>(bif h then some (.cont (i64.wrap (a+1)))else some (.done a))
def F_kr(n:Nat)(e:List Fact)(a:(List Fact)×Int):Option (Ctl ((List Fact)×Int) (List Fact)):=(bif decide (a.2<(e.length:Int))then((idx e a.2).bind λf=>(F_br n f).bind λg=>(bif (g != 0)then some a.1 else(iter (F_dp n e a) n 0:Option Int).bind λd=>((bif decide (d<(a.1.length:Int))then(idx a.1 d).bind λh=>(idx e a.2).bind λi=>some (h==i)else some false):Option Bool).bind λj=>(bif j then some a.1 else(slc a.1 0 d).bind λk=>(app ([]:List Fact) k).bind λl=>(idx e a.2).bind λm=>(app l [m]).bind λp=>(slc a.1 d (a.1.length:Int)).bind λq=>(app p q).bind λr=>some r)):Option (List Fact)).bind λs=>some (.cont (s,i64.wrap (a.2+1)))else some (.done a.1))
def F_bm(n:Nat)(d:List Fact):Option (List Fact):=(iter (F_kr n d) n (([]:List Fact),0):Option (List Fact)).bind λa=>some a
theorem k_bm(n:Nat)(R:List Fact):Kq (F_bm n R) 44 [.rsl 57 (map Fact.c R)] [] (λr=>.osl 0 0 r.length 57) (λr=>[.row 96 57 (map Fact.c r)]):=by
 refine Kg 7 func44 Z Z Z Z λr h=>?_;refine vH (Ek (xs:=[]) (es:=map Fact.c []) QaX Z Z Z Z Z trivial Z Z) ?_;refine FE Z (Go 9 Z (Bd h λy aj h=>?_));refine Ct y [0] [] (λy=>[(3,.osl 0 0 y.length 57)]) (λy=>[(0,.row 96 57 (map Fact.c y))]) Zf ?_ (λenv H u=>?_)
 .refine G0 1 Z ?_;refine Lp [0] [0] (λi=>[(3,.osl 0 0 i.1.length 57),(4,I i.2)]) (λi=>[(0,.row 96 57 (map Fact.c i.1))]) aj Zf (Lr [0]) λi ao s T=>?_;refine G0 5 Z (Lm Z (Go 3 Z (Yk Z s (λV s=>?_) (λV s=>?_))))
  .refine Gc 2 Z (Qk s ?_);obtain rfl:=Oj T s;exact Gx 1 Z (QF (Lr [0]))
  refine Gc 3 Z (Bd s λz g s=>?_);refine Ct z [0] [0,4] (λz=>[(3,.osl 0 0 z.length 57)]) (λz=>[(0,.row 96 57 (map Fact.c z))]) Zf ?_ (λenv H u=>?_)
  .refine G0 6 Z (Bd g λaq W g=>Iz W Z (Go 1 Z (Cz [] g (k_br _ _) Z λar am g=>Go 3 Z (Cn Z g (λX g=>?_) (λX g=>?_)))))
   .exact Gc 3 Z (Cl g [0])
   refine Gc 8 Z (Bd g λj ak g=>?_);refine Ct j [0] [0,3,4] (λj=>[(5,I j)]) Ze Zf ?_ (λenv H u=>?_)
   .refine G0 1 Z ?_;refine Lp [0] [0,3,4] (λG=>[(5,I G)]) Ze ak Zf (Lr [0]) λG au t Y=>?_;refine G0 2 Z (Bd t λJ k t=>?_);refine Ct J [0] [0,3,4,5] (λJ=>[(34,.bool J)]) Ze Zf ?_ (λenv H u=>?_)
    .refine G0 0 Z (DSs 13 Z (D 5 Z (Qas 4 k Z Z Z (λaa k=>?_) (λaa k=>?_))))
     .refine D 2 Z ?_;obtain⟨al,N,k⟩:=Yl k;refine DS.v (x:=(.ptr 0 (toNat G*57))) (Qv N Z EB EC) ?_ (hg:=(gT Z));refine DS.v (x:=(.agg (Fact.c al))) (QD Z EO EC Z (Qm N) Z Z) ?_ (hg:=(gT Z));refine D 2 Z ?_;obtain⟨f,ab,k⟩:=Yl k;refine DS.v (x:=(.rp [I f.Crew,I f.No,I f.At,I f.Kind,I f.Starter.Bib,I f.Starter.Distance,I f.Starter.Wave,I f.Starter.Slot,I f.Starter.Age,I f.Starter.Chip,I f.Starter.Team,I f.Starter.Lot,I f.Read.Mat,I f.Read.Epoch,I f.Read.Chip,I f.Read.Local,I f.Beacon.Mat,I f.Beacon.Epoch,I f.Beacon.Local,I f.Beacon.True,I f.Beacon.Err,I f.Sync.MatA,I f.Sync.EpochA,I f.Sync.LocalA,I f.Sync.MatB,I f.Sync.EpochB,I f.Sync.LocalB,I f.Sync.Min,I f.Sync.Max,I f.Hand.Bib,I f.Hand.Position,I f.Hand.Lo,I f.Hand.Hi,I f.Silence.Mat,I f.Silence.Epoch,I f.Silence.Lo,I f.Silence.Hi,I f.Pair.A,I f.Pair.B,I f.Report.Case,I f.Report.Bib,I f.Report.Offence,I f.Report.Position,I f.Protest.Case,I f.Protest.By,I f.Protest.Fee,I f.Protest.Form,I f.Ruling.Case,I f.Ruling.Instance,I f.Ruling.Kind,I f.Ruling.Bib,I f.Ruling.Position,I f.Ruling.Amount,I f.Appeal.Case,.bool f.Appeal.Suspends,I f.Void.Crew,I f.Void.No])) (Qdz (e:=Fact.c) (l:=R) (v:=f) ab EB EC) ?_ (hg:=(gT Z));exact D 1 Z (Eg Z (Cz [] k (k_ci _ _ _) Z λav an k=>Go 3 Z (Cl k [0])))
     .exact D 8 Z (Eg Z (Go 4 Z (Cl k [0])))
    refine Gx 1 Z (Qd u (Yk Z t (λac t=>?_) (λac t=>?_)))
    .refine Gc 2 Z (Qk t ?_);obtain rfl:=Oj Y t;exact Gx 1 Z (QF (Lr [0]))
    exact Gc 9 Z (Qj t (Lr [0]))
   refine Gx 1 Z (Qd u (Gc 2 Z (Bd g λL m g=>?_)));refine Ct L [0] [0,3,4,5] (λL=>[(51,.bool L)]) Ze Zf ?_ (λenv H u=>?_)
   .refine G0 0 Z (DSs 13 Z (D 5 Z (Qas 4 m Z Z Z (λad m=>?_) (λad m=>?_))))
    .refine D 2 Z ?_;obtain⟨M,O,m⟩:=Yl m;refine DS.v (x:=(.ptr 0 (toNat j*57))) (Qv O Z EB EC) ?_ (hg:=(gT Z));refine DS.v (x:=(.agg (Fact.c M))) (QD Z EO EC Z (Qm O) Z Z) ?_ (hg:=(gT Z));refine D 2 Z ?_;obtain⟨d,ae,m⟩:=Yl m;refine DS.v (x:=(.rp [I d.Crew,I d.No,I d.At,I d.Kind,I d.Starter.Bib,I d.Starter.Distance,I d.Starter.Wave,I d.Starter.Slot,I d.Starter.Age,I d.Starter.Chip,I d.Starter.Team,I d.Starter.Lot,I d.Read.Mat,I d.Read.Epoch,I d.Read.Chip,I d.Read.Local,I d.Beacon.Mat,I d.Beacon.Epoch,I d.Beacon.Local,I d.Beacon.True,I d.Beacon.Err,I d.Sync.MatA,I d.Sync.EpochA,I d.Sync.LocalA,I d.Sync.MatB,I d.Sync.EpochB,I d.Sync.LocalB,I d.Sync.Min,I d.Sync.Max,I d.Hand.Bib,I d.Hand.Position,I d.Hand.Lo,I d.Hand.Hi,I d.Silence.Mat,I d.Silence.Epoch,I d.Silence.Lo,I d.Silence.Hi,I d.Pair.A,I d.Pair.B,I d.Report.Case,I d.Report.Bib,I d.Report.Offence,I d.Report.Position,I d.Protest.Case,I d.Protest.By,I d.Protest.Fee,I d.Protest.Form,I d.Ruling.Case,I d.Ruling.Instance,I d.Ruling.Kind,I d.Ruling.Bib,I d.Ruling.Position,I d.Ruling.Amount,I d.Appeal.Case,.bool d.Appeal.Suspends,I d.Void.Crew,I d.Void.No])) (Qdz (e:=Fact.c) (l:=R) (v:=d) ae EB EC) ?_ (hg:=(gT Z));refine D 1 Z (Eg Z ?_);refine vX (.bool (M==d)) (Qd2 (p:=M) (q:=d) QhP Z Z) ?_ (gT Z);exact Go 2 Z (Cl m [0])
    .exact D 8 Z (Eg Z (Go 3 Z (Cl m [0])))
   refine Gx 1 Z (Qd u (Cn Z g (λaf g=>?_) (λaf g=>?_)))
   .exact Gc 3 Z (Cl g [0])
   refine Gc 2 Z (DKs 14 [0,4,10] [(1,0,0),(0,0,1),(0,0,1),(0,0,1),(1,1,0),(0,0,2),(0,0,2),(0,0,2),(0,0,2),(0,0,2),(1,2,0),(0,0,3),(0,0,3),(0,0,3)] (by kernel_rfl) ?_);refine DK.op (x:=.osl 1 0 (([]:List Fact).length) 57) (X1:=[.row 96 57 (map Fact.c i.1),.row 96 57 (map Fact.c ([]:List Fact))]) ?_ ?_
   .refine vH (Ek (xs:=[]) (es:=map Fact.c []) QaX Z Z Z Z Z trivial Z Z) ?_;exact FE Z Wp
   refine Dk 2 Z ?_;obtain⟨aw,E,g⟩:=Yl g;refine Qjl (lo:=0) (hi:=1) (x:=.osl 0 (0+toNat 0) (toNat j-toNat 0) 57) ⟨?_,?_,trivial⟩ ?_
   iterate 2 refine vX (.osl 0 (0+toNat 0) (toNat j-toNat 0) 57) (YU (l:=i.1) E EB EC (.inl ⟨Z,Z⟩) (.inr ⟨_,Z,Z⟩)) ?_;exact Wp
   obtain⟨P,ag,g⟩:=Yl g;refine DK.op (x:=.osl 2 0 P.length 57) (X1:=[.row 96 57 (map Fact.c i.1),.dead,.row 96 57 (map Fact.c P)]) ?_ ?_
   .refine vH (Qp (e:=Fact.c) ag QaX EB (Qj9 (b:=0) E)) ?_;exact FE Z Wp
   refine Dk 2 Z ?_;obtain⟨a,F,g⟩:=Yl g;refine Qjl (lo:=0) (hi:=2) (x:=.rp [I a.Crew,I a.No,I a.At,I a.Kind,I a.Starter.Bib,I a.Starter.Distance,I a.Starter.Wave,I a.Starter.Slot,I a.Starter.Age,I a.Starter.Chip,I a.Starter.Team,I a.Starter.Lot,I a.Read.Mat,I a.Read.Epoch,I a.Read.Chip,I a.Read.Local,I a.Beacon.Mat,I a.Beacon.Epoch,I a.Beacon.Local,I a.Beacon.True,I a.Beacon.Err,I a.Sync.MatA,I a.Sync.EpochA,I a.Sync.LocalA,I a.Sync.MatB,I a.Sync.EpochB,I a.Sync.LocalB,I a.Sync.Min,I a.Sync.Max,I a.Hand.Bib,I a.Hand.Position,I a.Hand.Lo,I a.Hand.Hi,I a.Silence.Mat,I a.Silence.Epoch,I a.Silence.Lo,I a.Silence.Hi,I a.Pair.A,I a.Pair.B,I a.Report.Case,I a.Report.Bib,I a.Report.Offence,I a.Report.Position,I a.Protest.Case,I a.Protest.By,I a.Protest.Fee,I a.Protest.Form,I a.Ruling.Case,I a.Ruling.Instance,I a.Ruling.Kind,I a.Ruling.Bib,I a.Ruling.Position,I a.Ruling.Amount,I a.Appeal.Case,.bool a.Appeal.Suspends,I a.Void.Crew,I a.Void.No]) ⟨?_,?_,?_,trivial⟩ ?_
   iterate 3 exact Ix F EB EC Z Wp
   refine Dk 1 Z ?_;refine Qjl (lo:=0) (hi:=2) (x:=.rsl 57 (map Fact.c [a])) ⟨?_,?_,?_,trivial⟩ ?_
   iterate 3 refine vH (YE (xs:=[.tmp 60]) (es:=map Fact.c [a]) QaX Z Z Z Z Z ⟨Z,trivial⟩ Z Z) ?_;exact FE Z Wp
   obtain⟨Q,ah,g⟩:=Yl g;refine DK.op (x:=.osl 3 0 Q.length 57) (X1:=[.row 96 57 (map Fact.c i.1),.dead,.dead,.row 96 57 (map Fact.c Q)]) ?_ ?_
   .refine vH (Qp (e:=Fact.c) ah QaX EB Qb8) ?_;exact FE Z Wp
   refine Dk 2 Z ?_;obtain⟨ax,w,g⟩:=Yl g;refine Qjl (lo:=0) (hi:=3) (x:=.osl 0 (0+toNat j) (toNat (i.1.length:Int)-toNat j) 57) ⟨?_,?_,?_,?_,trivial⟩ ?_
   iterate 4 refine vX (.osl 0 (0+toNat j) (toNat (i.1.length:Int)-toNat j) 57) (YU (l:=i.1) w EB EC (.inr ⟨_,Z,Z⟩) (.inl ⟨Z,Z⟩)) ?_;exact Wp
   refine DK.done Z Z (Bd g λay ai g=>?_);refine vH (Qp (e:=Fact.c) ai QaX EB (Qj9 (b:=0) w)) ?_;exact FE Z (Go 3 Z (Cl g [4]))
  exact Gx 1 Z (Qd u (Gc 5 Z (Qj s (Lr [0]))))
 exact Gx 1 Z (Qd u (Gc 7 Z (Rt h 2 [0])))
def F_aq(n:Nat)(d:Course)(a:Int):Option Bool:=((bif decide (0<=a)then some (decide (a<(d.Mats.length:Int)))else some false):Option Bool).bind λb2=>some b2
theorem k_aq(n:Nat)(d:Course)(e:Int):Ks (F_aq n d e) 48 [.agg (Course.c d),I e] [] (λr=>.bool r):=by
 refine Kg 7 func48 Z Z Z Z λr h=>Bd h λb2 a h=>?_;refine Ct b2 [] [] (λb2=>[(4,.bool b2)]) Ze Zf ?_ (λenv H f=>?_)
 .refine G0 4 Z (Is 7 a Z (λg a=>?_) (λg a=>?_))
  .exact Go 3 Z (Lm Z (Go 4 Z (Cl a [])))
  .exact Go 8 Z (Cl a [])
 exact Gx 1 Z (Qd f (Gc 1 Z (Rt h 4 [])))
def F_bq(n:Nat)(a:Course)(d:Int):Option Bool:=(idx a.Mats d).bind λe=>some (e.Kind==1)
theorem k_bq(n:Nat)(a:Course)(d:Int):Ks (F_bq n a d) 94 [.agg (Course.c a),I d] [] (λr=>.bool r):=by
 exact Kg 11 func94 Z Z Z Z λr h=>Bd h λf e h=>Iz e Z (Go 7 Z (Rt h 4 []))
def F_dl(n:Nat)(a:Segment)(d:Segment):Option Bool:=((bif decide (a.Mat<d.Mat)then some true else(bif (a.Mat==d.Mat)then some (decide (a.Epoch<d.Epoch))else some false)):Option Bool).bind λe=>some e
theorem k_dl(n:Nat)(e:Segment)(f:Segment):Ks (F_dl n e f) 59 [.agg (Segment.c e),.agg (Segment.c f)] [] (λr=>.bool r):=by
 refine Kg 8 func59 Z Z Z Z λr h=>Bd h λd a h=>?_;refine Ct d [] [] (λd=>[(4,.bool d)]) Ze Zf ?_ (λenv H g=>?_)
 .refine G0 7 Z (Is 10 a Z (λi a=>?_) (λi a=>?_))
  .exact Go 15 Z (Cl a [])
  .refine Go 6 Z (Is 16 a Z (λj a=>?_) (λj a=>?_))
   iterate 2 exact Go 9 Z (Cl a [])
 exact Gx 1 Z (Qd g (Gc 1 Z (Rt h 4 [])))
def F_ei(n:Nat)(d:List Segment)(h:Int)(i:Int)(a:Int):Option (Ctl Int Int):=((bif decide (a<(d.length:Int))then(idx d a).bind λe=>(F_dl n e ({Mat:=h,Epoch:=i,Anchor:=0:Segment})).bind λf=>some f else some false):Option Bool).bind λg=>(bif g then some (.cont (i64.wrap (a+1)))else some (.done a))
def F_am(n:Nat)(g:Course)(a:List Segment)(e:Int)(f:Int):Option (List Segment):=((F_aq n g e).bind λq=>(bif (!q)then some true else(F_bq n g e).bind λr=>some r):Option Bool).bind λs=>(bif s then some a else(iter (F_ei n a e f) n 0:Option Int).bind λd=>((bif decide (d<(a.length:Int))then(idx a d).bind λh=>(bif (h.Mat==e)then(idx a d).bind λi=>some (i.Epoch==f)else some false)else some false):Option Bool).bind λj=>(bif j then some a else(slc a d (a.length:Int)).bind λk=>(app [{Mat:=e,Epoch:=f,Anchor:=0:Segment}] k).bind λl=>(slc a 0 d).bind λm=>(app m l).bind λp=>some p))
theorem k_am(n:Nat)(V:Course)(m:List Segment)(F:Int)(G:Int):Kq (F_am n V m F G) 45 [.agg (Course.c V),.osl 0 0 m.length 3,I F,I G] [.row 36 3 (map Segment.c m)] (λr=>.osl 1 0 r.length 3) (λr=>[.dead,.row 36 3 (map Segment.c r)]):=by
 refine Kg 8 func45 Z Z Z Z λr h=>Bd h λJ p h=>?_;refine Ct J [0] [1,2,3] (λJ=>[(20,.bool J)]) Ze Zf ?_ (λenv H k=>?_)
 .refine G0 3 Z (Cz [] p (k_aq _ _ _) Z λr6 ae p=>Go 2 Z (Is 16 p Z (λW p=>?_) (λW p=>?_)))
  .exact Go 5 Z (Cl p [0])
  .exact Go 2 Z (Cz [] p (k_bq _ _ _) Z λr8 af p=>Go 2 Z (Cl p [0]))
 refine Gx 1 Z (Qd k (Cn Z h (λX h=>?_) (λX h=>?_)))
 .refine Gc 8 Z ?_;obtain rfl:=Oi h;refine R1 8 Z ?_;refine En (Qd3 (s:=8) (i:=0) Z Z Z) ?_;exact Lr [0,1]
 refine Gc 17 Z (Bd h λd Y h=>?_);refine Ct d [0,1] [1,2,3,9] (λd=>[(10,I d)]) Ze Zf ?_ (λenv H k=>?_)
 .refine G0 1 Z ?_;refine Lp [0,1] [1,2,3,9] (λt=>[(10,I t)]) Ze Y Zf (Lr [0,1]) λt ag j L=>?_;refine G0 2 Z (Bd j λu g j=>?_);refine Ct u [0,1] [1,2,3,9,10] (λu=>[(36,.bool u)]) Ze Zf ?_ (λenv H k=>?_)
  .refine G0 0 Z (DSs 10 Z (D 5 Z (Qas 4 g Z Z Z (λM g=>?_) (λM g=>?_))))
   .refine D 2 Z ?_;obtain⟨aa,w,g⟩:=Yl g;refine DS.v (x:=(.ptr 0 (toNat t*3))) (Qv w Z EH EN) ?_ (hg:=(gT Z));refine DS.v (x:=(.agg (Segment.c aa))) (QD Z GK EN Z (Qm w) Z Z) ?_ (hg:=(gT Z));exact D 1 Z (Eg Z (Cz [] g (k_dl _ _ _) Z λah ad g=>Go 2 Z (Cl g [0,1])))
   .exact D 5 Z (Eg Z (Go 3 Z (Cl g [0,1])))
  refine Gx 1 Z (Qd k (Yk Z j (λN j=>?_) (λN j=>?_)))
  .refine Gc 2 Z (Qk j ?_);obtain rfl:=Oj L j;exact Gx 1 Z (QF (Lr [0,1]))
  exact Gc 9 Z (Qj j (Lr [0,1]))
 refine Gx 1 Z (Qd k (Gc 2 Z (Bd h λy a h=>?_)));refine Ct y [0,1] [1,9,10] (λy=>[(60,.bool y)]) Ze Zf ?_ (λenv H k=>?_)
 .refine G0 6 Z (Is 43 a Z (λO a=>?_) (λO a=>?_))
  .refine Go 2 Z (Bd a λab z a=>?_);refine vX (.ptr 0 (toNat d*3)) (Qv z Z EH EN) ?_ (gT Z);refine Fpg (gT Z) QkO Z ?_;refine vX (I ab.Mat) (Ey Z EF Z (Qm z)) ?_ (gT Z);refine Go 4 Z (Is 52 a Z (λP a=>?_) (λP a=>?_))
   .refine Go 2 Z (Bd a λac B a=>?_);refine vX (.ptr 0 (toNat d*3)) (Qv B Z EH EN) ?_ (gT Z);refine Fpg (gT Z) QkN Z ?_;refine vX (I ac.Epoch) (Ey Z EF Z (Ya (f:=1) B)) ?_ (gT Z);exact Go 4 Z (Cl a [0,1])
   .exact Go 9 Z (Cl a [0,1])
  .exact Go 18 Z (Cl a [0,1])
 refine Gx 1 Z (Qd k (Cn Z h (λQ h=>?_) (λQ h=>?_)))
 .refine Gc 8 Z ?_;obtain rfl:=Oi h;refine R1 8 Z ?_;refine En (Qd3 (s:=8) (i:=0) Z Z Z) ?_;exact Lr [0,2]
 refine Gc 3 Z (DAs 5 1 [0,1,3,3,3] (by kernel_rfl) (Da 1 Z ?_));refine QbH (Ek (xs:=[.tmp 62]) (es:=map Segment.c [{Mat:=F,Epoch:=G,Anchor:=0:Segment}]) Qg2 Z Z Z Z Z ⟨Z,trivial⟩ Z Z) Z Z (Db 2 Z ?_);obtain⟨ai,q,h⟩:=Yl h;refine DB.wo2 (x:=.osl 0 (0+toNat d) (toNat (m.length:Int)-toNat d) 3) ?_ ?_ ?_
 iterate 2 refine vX (.osl 0 (0+toNat d) (toNat (m.length:Int)-toNat d) 3) (YU (l:=m) q EH EN (.inr ⟨_,Z,Z⟩) (.inl ⟨Z,Z⟩)) ?_;exact Wp
 refine DB.done Z (Bd h λaj R h=>?_);refine vH (Qp (e:=Segment.c) R Qg2 EH (Qj9 (b:=0) q)) ?_;refine FE Z (Go 8 Z (Bd h λak E h=>?_));refine vX (.osl 0 (0+toNat 0) (toNat d-toNat 0) 3) (QnL (l:=m) E EH EN) ?_;refine Go 1 Z (Bd h λal T h=>?_);refine vH (QnN (e:=Segment.c) E T Qg2 EH (QU (i:=3))) ?_;exact FE Z (Go 4 Z (Rt h 8 [0,4]))
def F_ip(n:Nat)(f:Course)(d:List Fact)(a:(List Segment)×Int):Option (Ctl ((List Segment)×Int) (List Segment)):=(bif decide (a.2<(d.length:Int))then(idx d a.2).bind λe=>((bif (e.Kind==2)then(idx d a.2).bind λt=>(idx d a.2).bind λg=>(F_am n f a.1 t.Read.Mat g.Read.Epoch).bind λh=>some h else(bif (e.Kind==3)then(idx d a.2).bind λi=>(idx d a.2).bind λj=>(F_am n f a.1 i.Beacon.Mat j.Beacon.Epoch).bind λk=>some k else(bif (e.Kind==4)then(idx d a.2).bind λl=>(idx d a.2).bind λm=>(F_am n f a.1 l.Sync.MatA m.Sync.EpochA).bind λp=>(idx d a.2).bind λq=>(idx d a.2).bind λr=>(F_am n f p q.Sync.MatB r.Sync.EpochB).bind λs=>some s else some a.1))):Option (List Segment)).bind λu=>some (.cont (u,i64.wrap (a.2+1)))else some (.done a.1))
def F_ji(n:Nat)(m:List Fact)(d:(List Segment)×Int)(a:(List Segment)×Int):Option (Ctl ((List Segment)×Int) (List Segment)):=(bif decide (0<=a.2)then(idx m a.2).bind λe=>((idx m a.2).bind λg=>(bif (g.Kind==3)then(idx a.1 d.2).bind λh=>(bif (e.Beacon.Mat==h.Mat)then(idx a.1 d.2).bind λi=>some (e.Beacon.Epoch==i.Epoch)else some false)else some false):Option Bool).bind λj=>((bif j then(idx a.1 d.2).bind λf=>(Qbo a.1 d.2 ({Mat:=f.Mat,Epoch:=f.Epoch,Anchor:=e.Beacon.Local:Segment})).bind λk=>some k else some a.1):Option (List Segment)).bind λl=>some (.cont (l,i64.wrap (a.2-1)))else some (.done a.1))
def F_er(n:Nat)(e:List Fact)(a:(List Segment)×Int):Option (Ctl ((List Segment)×Int) (List Segment)):=(bif decide (a.2<(a.1.length:Int))then(iter (F_ji n e a) n (a.1,i64.wrap ((e.length:Int)-1)):Option (List Segment)).bind λd=>some (.cont (d,i64.wrap (a.2+1)))else some (.done a.1))
def F_cr(n:Nat)(e:Course)(h:List Fact):Option ((List Segment)×Int):=(F_bl n e).bind λf=>(bif (f != 0)then some ([],f)else(F_bm n h).bind λg=>(iter (F_ip n e g) n (([]:List Segment),0):Option (List Segment)).bind λa=>(bif decide (511<(a.length:Int))then some ([],2)else(iter (F_er n g) n (a,0):Option (List Segment)).bind λd=>some (d,0)))
theorem k_cr(n:Nat)(a1:Course)(a2:List Fact):Kq (F_cr n a1 a2) 14 [.agg (Course.c a1),.rsl 57 (map Fact.c a2)] [] (λr=>.tup [.osl 0 0 r.1.length 3,I r.2]) (λr=>[.row 36 3 (map Segment.c r.1)]):=by
 refine Kg 10 func14 Z Z Z Z λr h=>Cz [] h (k_bl _ _) Z λr1 bu h=>Go 10 Z (Cn Z h (λbe h=>?_) (λbe h=>?_))
 .refine Gc 9 Z ?_;obtain rfl:=Oi h;refine R2 4 5 Z Z ?_;refine En (Er (s:=4) (k:=3) (t:=36) (XQ Z) Z) ?_;exact Lr [1]
 refine Gc 5 Z (Cd [] h (k_bm _ _) Z λr3 bv h=>FE Z (Go 5 Z ?_));refine vH (Ek (xs:=[]) (es:=map Segment.c []) Qg2 Z Z Z Z Z trivial Z Z) ?_;refine FE Z (Go 9 Z (Bd h λE bf h=>?_));refine Ct E [1,2] [7] (λE=>[(8,.osl 1 0 E.length 3)]) (λE=>[(1,.row 36 3 (map Segment.c E))]) Zf ?_ (λenv H m=>?_)
 .refine G0 1 Z ?_;refine Lp [0,1,2] [2,7] (λd=>[(8,.osl 2 0 d.1.length 3),(9,I d.2)]) (λd=>[(2,.row 36 3 (map Segment.c d.1))]) bf Zf (Lr [0,1,2]) λd bw u al=>?_;refine G0 9 Z (Yk Z u (λam u=>?_) (λam u=>?_))
  .refine Gc 2 Z (Qk u ?_);obtain rfl:=Oj al u;exact Gx 1 Z (QF (Lr [1,2]))
  refine Gc 8 Z (Bd u λbg Y u=>?_);refine vX (.ptr 1 (toNat d.2*57)) (Qv Y Z EB EC) ?_;refine Fp QeU Z ?_;refine vX (I bg.Kind) (Ey Z EF Z (Ya (f:=3) Y)) ?_;refine Go 9 Z (Bd u λF a u=>?_);refine Ct F [0,1,0] [2,7,9] (λF=>[(8,.osl 2 0 F.length 3)]) (λF=>[(2,.row 36 3 (map Segment.c F))]) Zf ?_ (λenv H m=>?_)
  .refine G0 0 Z (Cn Z a (λan a=>?_) (λan a=>?_))
   .refine DSs 14 Z (D 4 Z ?_);obtain⟨bh,aa,a⟩:=Yl a;refine DS.v (x:=(.ptr 1 (toNat d.2*57))) (Qv aa Z EB EC) ?_;refine DS.wo (x:=.ptr 1 (toNat d.2*57+12)) ?_ ?_
    .exact Fp QkL Z Wp
    refine DS.wo (x:=.ptr 1 (toNat d.2*57+12)) ?_ ?_
    .exact Fp Qox Z Wp
    refine DS.v (x:=(I bh.Read.Mat)) (Ey Z EF Z (Ya (f:=12) aa)) ?_;refine D 2 Z ?_;obtain⟨ao,J,a⟩:=Yl a;refine DS.v (x:=(.ptr 1 (toNat d.2*57))) (Qv J Z EB EC) ?_;refine DS.wo (x:=.ptr 1 (toNat d.2*57+12)) ?_ ?_
    .exact Fp QkL Z Wp
    refine DS.wo (x:=.ptr 1 (toNat d.2*57+13)) ?_ ?_
    .exact Fp Qow Z Wp
    refine DS.v (x:=(I ao.Read.Epoch)) (Ey Z EF Z (Ya (f:=13) J)) ?_;exact Eg Z (Cd [2] a (k_am _ _ _ _ _) Z λbm bi a=>FE Z (Go 2 Z (Cl a [0,1,3])))
   refine Gc 6 Z (Cn Z a (λab a=>?_) (λab a=>?_))
   .refine DSs 14 Z (D 4 Z ?_);obtain⟨aq,L,a⟩:=Yl a;refine DS.v (x:=(.ptr 1 (toNat d.2*57))) (Qv L Z EB EC) ?_;refine DS.wo (x:=.ptr 1 (toNat d.2*57+16)) ?_ ?_
    .exact Fp QeT Z Wp
    refine DS.wo (x:=.ptr 1 (toNat d.2*57+16)) ?_ ?_
    .exact Fp Qov Z Wp
    refine DS.v (x:=(I aq.Beacon.Mat)) (Ey Z EF Z (Ya (f:=16) L)) ?_;refine D 2 Z ?_;obtain⟨ar,M,a⟩:=Yl a;refine DS.v (x:=(.ptr 1 (toNat d.2*57))) (Qv M Z EB EC) ?_;refine DS.wo (x:=.ptr 1 (toNat d.2*57+16)) ?_ ?_
    .exact Fp QeT Z Wp
    refine DS.wo (x:=.ptr 1 (toNat d.2*57+17)) ?_ ?_
    .exact Fp Qou Z Wp
    refine DS.v (x:=(I ar.Beacon.Epoch)) (Ey Z EF Z (Ya (f:=17) M)) ?_;exact Eg Z (Cd [2] a (k_am _ _ _ _ _) Z λbn bj a=>FE Z (Go 2 Z (Cl a [0,1,3])))
   refine Gc 6 Z (Cn Z a (λac a=>?_) (λac a=>?_))
   .refine Gc 1 Z (DSs 14 Z (D 4 Z ?_));obtain⟨au,N,a⟩:=Yl a;refine DS.v (x:=(.ptr 1 (toNat d.2*57))) (Qv N Z EB EC) ?_;refine DS.wo (x:=.ptr 1 (toNat d.2*57+21)) ?_ ?_
    .exact Fp Qdk Z Wp
    refine DS.wo (x:=.ptr 1 (toNat d.2*57+21)) ?_ ?_
    .exact Fp Qot Z Wp
    refine DS.v (x:=(I au.Sync.MatA)) (Ey Z EF Z (Ya (f:=21) N)) ?_;refine D 2 Z ?_;obtain⟨av,O,a⟩:=Yl a;refine DS.v (x:=(.ptr 1 (toNat d.2*57))) (Qv O Z EB EC) ?_;refine DS.wo (x:=.ptr 1 (toNat d.2*57+21)) ?_ ?_
    .exact Fp Qdk Z Wp
    refine DS.wo (x:=.ptr 1 (toNat d.2*57+22)) ?_ ?_
    .exact Fp Qos Z Wp
    refine DS.v (x:=(I av.Sync.EpochA)) (Ey Z EF Z (Ya (f:=22) O)) ?_;refine Eg Z (Cd [2] a (k_am _ _ _ _ _) Z λbo bk a=>FE Z (Go 3 Z (DSs 14 Z (D 4 Z ?_))));obtain⟨aw,P,a⟩:=Yl a;refine DS.v (x:=(.ptr 1 (toNat d.2*57))) (Qv P Z EB EC) ?_;refine DS.wo (x:=.ptr 1 (toNat d.2*57+21)) ?_ ?_
    .exact Fp Qdk Z Wp
    refine DS.wo (x:=.ptr 1 (toNat d.2*57+24)) ?_ ?_
    .exact Fp Qor Z Wp
    refine DS.v (x:=(I aw.Sync.MatB)) (Ey Z EF Z (Ya (f:=24) P)) ?_;refine D 2 Z ?_;obtain⟨ax,Q,a⟩:=Yl a;refine DS.v (x:=(.ptr 1 (toNat d.2*57))) (Qv Q Z EB EC) ?_;refine DS.wo (x:=.ptr 1 (toNat d.2*57+21)) ?_ ?_
    .exact Fp Qdk Z Wp
    refine DS.wo (x:=.ptr 1 (toNat d.2*57+25)) ?_ ?_
    .exact Fp Qoq Z Wp
    refine DS.v (x:=(I ax.Sync.EpochB)) (Ey Z EF Z (Ya (f:=25) Q)) ?_;exact Eg Z (Cd [3] a (k_am _ _ _ _ _) Z λbp bl a=>FE Z (Go 2 Z (Cl a [0,1,4])))
   exact Gc 1 Z (Cl a [0,1,2])
  exact Gx 3 Z (Qd m (Gc 5 Z (Qj u (Lr [0,1,2]))))
 refine Gx 1 Z (Qd m (Gc 8 Z (Cn Z h (λad h=>?_) (λad h=>?_))))
 .refine Gc 8 Z ?_;obtain rfl:=Oi h;refine R2 4 5 Z Z ?_;refine En (Er (s:=4) (k:=3) (t:=36) (XQ Z) Z) ?_;exact Lr [2]
 refine Gc 8 Z (Bd h λw ay h=>?_);refine Ct w [1] [] (λw=>[(8,.osl 0 0 w.length 3)]) (λw=>[(0,.row 36 3 (map Segment.c w))]) Zf ?_ (λenv H m=>?_)
 .refine G0 1 Z ?_;refine Lp [0,1] [7] (λj=>[(8,.osl 1 0 j.1.length 3),(10,I j.2)]) (λj=>[(1,.row 36 3 (map Segment.c j.1))]) ay Zf (Lr [0,1]) λj bq p ae=>?_;refine G0 9 Z (Yk Z p (λaf p=>?_) (λaf p=>?_))
  .refine Gc 2 Z (Qk p ?_);obtain rfl:=Oj ae p;exact Gx 1 Z (QF (Lr [1]))
  refine Gc 12 Z (Bd p λy az p=>?_);refine Ct y [0,1] [7,10] (λy=>[(8,.osl 1 0 y.length 3)]) (λy=>[(1,.row 36 3 (map Segment.c y))]) Zf ?_ (λenv H m=>?_)
  .refine G0 1 Z ?_;refine Lp [0,1] [7,10] (λq=>[(8,.osl 1 0 q.1.length 3),(11,I q.2)]) (λq=>[(1,.row 36 3 (map Segment.c q.1))]) az Zf (Lr [0,1]) λq br i ag=>?_;refine G0 7 Z (Yk Z i (λah i=>?_) (λah i=>?_))
   .refine Gc 2 Z (Qk i ?_);obtain rfl:=Oj ag i;exact Gx 1 Z (QF (Lr [0,1]))
   refine Gc 8 Z (Bd i λba R i=>?_);refine vX (.ptr 0 (toNat q.2*57)) (Qv R Z EB EC) ?_;refine Fp QeT Z ?_;refine vX (.agg (Beacon.c ba.Beacon)) (QD Z isAgg76 sizeOf76 Z (Ya (f:=16) R) Z Z) ?_;refine Go 5 Z (Bd i λG g i=>?_);refine Ct G [0,1,2] [7,8,10,11,12] (λG=>[(144,.bool G)]) Ze Zf ?_ (λenv H m=>?_)
   .refine G0 0 Z (DSs 24 Z (D 2 Z ?_));obtain⟨bb,T,g⟩:=Yl g;refine DS.v (x:=(.ptr 0 (toNat q.2*57))) (Qv T Z EB EC) ?_;refine DS.wo (x:=.ptr 0 (toNat q.2*57+3)) ?_ ?_
    .exact Fp QeU Z Wp
    refine DS.v (x:=(I bb.Kind)) (Ey Z EF Z (Ya (f:=3) T)) ?_;refine D 2 Z (Qas 6 g Z Z Z (λai g=>?_) (λai g=>?_))
    .refine D 4 Z ?_;obtain⟨bc,V,g⟩:=Yl g;refine DS.v (x:=(.ptr 1 (toNat j.2*3))) (Qv V Z EH EN) ?_ (hg:=(gT Z));refine DS.wo (x:=.ptr 1 (toNat j.2*3)) ?_ ?_
     .exact Fpg (gT Z) QkO Z Wp
     refine DS.v (x:=(I bc.Mat)) (Ey Z EF Z (Qm V)) ?_ (hg:=(gT Z));refine D 3 Z (Qas 16 g Z Z Z (λaj g=>?_) (λaj g=>?_))
     .refine D 4 Z ?_;obtain⟨bd,W,g⟩:=Yl g;refine DS.v (x:=(.ptr 1 (toNat j.2*3))) (Qv W Z EH EN) ?_ (hg:=(gT Z));refine DS.wo (x:=.ptr 1 (toNat j.2*3+1)) ?_ ?_
      .exact Fpg (gT Z) QkN Z Wp
      refine DS.v (x:=(I bd.Epoch)) (Ey Z EF Z (Ya (f:=1) W)) ?_ (hg:=(gT Z));exact Eg Z (Go 3 Z (Cl g [0,1,2]))
     .exact D 7 Z (Eg Z (Go 3 Z (Cl g [0,1,2])))
    .exact D 17 Z (Eg Z (Go 3 Z (Cl g [0,1,2])))
   refine Gx 1 Z (Qd m (Bd i λz l i=>?_));refine Ct z [0,1] [7,10,11] (λz=>[(8,.osl 1 0 z.length 3)]) (λz=>[(1,.row 36 3 (map Segment.c z))]) Zf ?_ (λenv H m=>?_)
   .refine G0 0 Z (Cn Z l (λak l=>?_) (λak l=>?_))
    .refine Gc 5 Z (Bd l λbs X l=>?_);refine vX (.ptr 1 (toNat j.2*3)) (Qv X Z EH EN) ?_;refine Fp Qoz Z (Bd l λbt B l=>?_);refine vU (YV (e:=Segment.c) (k:=3) (f:=2) X B ED Z Z) ?_;refine FE Z ?_;refine QG (QC (s:=8) Z (congrArg (λn=>A.osl 1 0 n 3) (Q5 B))) ?_;refine QG (QC (s:=145) Z (congrArg (λn=>A.osl 1 0 n 3) (Q5 B))) ?_;exact Go 1 Z (Cl l [0,1])
    exact Gc 1 Z (Cl l [0,1])
   exact Gx 2 Z (Qd m (Gc 5 Z (Qj i (Lr [0,1]))))
  exact Gx 2 Z (Qd m (Gc 5 Z (Qj p (Lr [0,1]))))
 refine Gx 1 Z (Qd m (Gc 8 Z ?_));obtain rfl:=Oi h;exact R2 4 5 Z Z (Lr [0])
def F_ca(n:Nat)(d:List Segment)(h:Int)(i:Int)(a:Int):Option (Ctl Int (Ctl Unit Int)):=(bif decide (a<(d.length:Int))then((idx d a).bind λe=>(bif (e.Mat==h)then(idx d a).bind λf=>some (f.Epoch==i)else some false):Option Bool).bind λg=>(bif g then some (.done (.done (i64.wrap (a+1))))else some (.cont (i64.wrap (a+1))))else some (.done (.cont ())))
def F_aw(n:Nat)(e:List Segment)(f:Int)(g:Int):Option Int:=(iter (F_ca n e f g) n 0:Option (Ctl Unit Int)).bind λd=>match d with|.cont a=>(some 0)|.done a=>some a
theorem k_aw(n:Nat)(q:List Segment)(s:Int)(t:Int):Ks (F_aw n q s t) 53 [.rsl 3 (map Segment.c q),I s,I t] [] (λr=>I r):=by
 refine Kg 11 func53 Z Z Z Z λr h=>Bd h λu w h=>?_;refine Jk (b:=u) [] [] Ze Ze Zf ?_ (λy env H x e=>?_)
 .refine G0 1 Z ?_;refine Lp [] [0,1,2] (λi=>[(7,I i)]) Ze w Zf (Lr []) λi z a f=>?_;refine G0 5 Z (Lm Z (Go 3 Z (Yk Z a (λj a=>?_) (λj a=>?_))))
  .refine Gc 2 Z (Qk a ?_);obtain rfl:=Oj f a;exact Gx 1 Z (Qq Z (Lr []))
  refine Gc 5 Z (Bd a λg d a=>?_);refine Ct g [] [0,1,2,7] (λg=>[(29,.bool g)]) Ze Zf ?_ (λenv H e=>?_)
  .refine G0 3 Z (Bd d λB k d=>Iz k Z (Go 5 Z (Is 21 d Z (λl d=>?_) (λl d=>?_))))
   .exact Go 2 Z (Bd d λE m d=>Iz m Z (Go 6 Z (Cl d [])))
   .exact Go 9 Z (Cl d [])
  refine Gx 1 Z (Qd e (Cn Z a (λp a=>?_) (λp a=>?_)))
  .refine Gc 10 Z (Qy a ?_);obtain rfl:=Oj f a;exact Gx 1 Z (Qu (Gx 1 Z (Rt h 6 [])))
  exact Gc 8 Z (Qj a (Lr []))
 subst x;exact Gx 1 Z (Qd e (Gc 6 Z (Rt h 6 [])))
def F_aa(n:Nat)(d:List Segment)(a:Int)(e:Int)(f:Int):Option Segment:=(bif (a==0)then some ({Mat:=e,Epoch:=f,Anchor:=0:Segment})else(idx d (i64.wrap (a-1))).bind λg=>some g)
theorem Qlv(n:Nat)(a:List Segment)(d:Int)(e:Int)(f:Int):Kq (F_aa n a d e f) 54 [.rsl 3 (map Segment.c a),I d,I e,I f] [] (λr=>.agg (Segment.c r)) (λr=>[.cells 36 (Segment.c r)]):=by
 refine Kg 12 func54 Z Z Z Z λr h=>Cn Z h (λg h=>?_) (λg h=>?_)
 .refine Gc 10 Z ?_;obtain rfl:=Oi h;exact Rx [0] [8] Z (Q3 Z (Qg GK EN Z Z Z)) ⟨Z,Z⟩
 refine Gc 7 Z (Bd h λj i h=>Iz i Z (Go 5 Z ?_));obtain rfl:=Oi h;exact Rx [0] [8] Z (Q3 Z (Qg GK EN Z Z Z)) ⟨Z,Z⟩
def F_ea(n:Nat)(e:Int)(d:Int):Option (Int×Int):=((bif decide (e<(-2199023255552))then some true else(bif decide (2199023255552<e)then some true else(bif decide (d<0)then some true else some (decide (100000<d))))):Option Bool).bind λg=>(bif g then some (0,1)else((bif decide (e<0)then some (i64.wrap (0-e))else some e):Option Int).bind λa=>((bif decide ((i64.wrap ((i64.wrap (Int.tdiv (i64.wrap (a*d)) 1000000))*1000000))<(i64.wrap (a*d)))then some (i64.wrap ((i64.wrap (Int.tdiv (i64.wrap (a*d)) 1000000))+1))else some (i64.wrap (Int.tdiv (i64.wrap (a*d)) 1000000))):Option Int).bind λf=>some (f,0))
theorem k_ea(n:Nat)(p:Int)(j:Int):Ks (F_ea n p j) 96 [I p,I j] [] (λr=>.tup [I r.1,I r.2]):=by
 refine Kg 8 func96 Z Z Z Z λr h=>Bd h λk a h=>?_;refine Ct k [] [0,1] (λk=>[(20,.bool k)]) Ze Zf ?_ (λenv H d=>?_)
 .refine G0 4 Z (Is 9 a Z (λq a=>?_) (λq a=>?_))
  .exact Go 12 Z (Cl a [])
  .refine Go 4 Z (Is 13 a Z (λs a=>?_) (λs a=>?_))
   .exact Go 8 Z (Cl a [])
   .refine Go 4 Z (Is 17 a Z (λt a=>?_) (λt a=>?_))
    iterate 2 exact Go 4 Z (Cl a [])
 refine Gx 1 Z (Qd d (Cn Z h (λu h=>?_) (λu h=>?_)))
 .refine Gc 8 Z ?_;obtain rfl:=Oi h;exact R2 4 5 Z Z (Lr [])
 refine Gc 9 Z (Bd h λg e h=>?_);refine Ct g [] [1] (λg=>[(0,I g)]) Ze Zf ?_ (λenv H d=>?_)
 .refine G0 0 Z (Cn Z e (λl e=>?_) (λl e=>?_))
  .exact Gc 5 Z (Cl e [])
  exact Gc 1 Z (Cl e [])
 refine Gx 1 Z (Qd d (Gc 5 Z ?_));refine vV (x:=(I (i64.wrap (Int.tdiv (i64.wrap (g*j)) 1000000)))) (OpV.quo Z Z Z (by decide)) ?_;refine Go 14 Z (Bd h λi f h=>?_);refine Ct i [] [] (λi=>[(6,I i)]) Ze Zf ?_ (λenv H d=>?_)
 .refine G0 0 Z (Cn Z f (λm f=>?_) (λm f=>?_))
  .exact Gc 5 Z (Cl f [])
  exact Gc 1 Z (Cl f [])
 refine Gx 1 Z (Qd d (Gc 8 Z ?_));obtain rfl:=Oi h;exact R2 4 5 Z Z (Lr [])
def F_z(n:Nat)(a:Course)(d:Segment)(f:Int):Option Span:=(F_bq n a d.Mat).bind λg=>(bif g then some ({Lo:=0,Hi:=a.Faults.Residual:Span})else(F_ea n (i64.wrap (f-d.Anchor)) a.Faults.Drift).bind λe=>some ({Lo:=i64.wrap (0-e.1),Hi:=i64.wrap (a.Faults.Residual+e.1):Span}))
theorem k_z(n:Nat)(a:Course)(d:Segment)(e:Int):Kq (F_z n a d e) 50 [.agg (Course.c a),.agg (Segment.c d),I e] [] (λr=>.agg [I r.Lo,I r.Hi]) (λr=>[.cells 44 [I r.Lo,I r.Hi]]):=by
 refine Kg 13 func50 Z Z Z Z λr h=>Cz [] h (k_bq _ _ _) Z λj g h=>Go 2 Z (Cn Z h (λf h=>?_) (λf h=>?_))
 .refine Gc 11 Z ?_;obtain rfl:=Oi h;exact Rx [2] [6] Z (Q3 Z (Qg E3 EW Z Z Z)) ⟨Z,Z⟩
 refine Gc 11 Z (Cd [] h (k_ea _ _ _) Z λk i h=>FE Z (Go 21 Z ?_));obtain rfl:=Oi h;exact Rx [2] [6] Z (Q3 Z (Qg E3 EW Z Z Z)) ⟨Z,Z⟩
def F_fl(n:Nat)(e:(List Segment)×Int)(a:(List Edge)×Int):Option (Ctl ((List Edge)×Int) (List Edge)):=(bif decide (a.2<(e.1.length:Int))then(app a.1 [{From:=0,To:=i64.wrap (a.2+1),W:=1099511627776:Edge},{From:=i64.wrap (a.2+1),To:=0,W:=1099511627776:Edge}]).bind λd=>some (.cont (d,i64.wrap (a.2+1)))else some (.done a.1))
def F_gc(n:Nat)(p:Course)(f:List Fact)(d:(List Segment)×(List Edge)×Int):Option (Ctl ((List Segment)×(List Edge)×Int) ((List Segment)×(List Edge))):=(bif decide (d.2.2<(f.length:Int))then((idx f d.2.2).bind λa=>((idx f d.2.2).bind λh=>(bif (h.Kind != 3)then some true else(F_aq n p a.Beacon.Mat).bind λi=>some (!i)):Option Bool).bind λj=>(bif j then some d.2.1 else(F_aw n d.1 a.Beacon.Mat a.Beacon.Epoch).bind λe=>(F_aa n d.1 e a.Beacon.Mat a.Beacon.Epoch).bind λk=>(F_z n p k a.Beacon.Local).bind λg=>(app d.2.1 [{From:=0,To:=e,W:=i64.wrap ((i64.wrap ((i64.wrap (a.Beacon.True+a.Beacon.Err))-a.Beacon.Local))-g.Lo):Edge},{From:=e,To:=0,W:=i64.wrap ((i64.wrap ((i64.wrap (a.Beacon.Local+g.Hi))-a.Beacon.True))+a.Beacon.Err):Edge}]).bind λl=>some l):Option (List Edge)).bind λm=>some (.cont (d.1,m,i64.wrap (d.2.2+1)))else some (.done (d.1,d.2.1)))
def F_hd(n:Nat)(k:Course)(h:List Fact)(g:(List Segment)×(List Edge))(d:(List Edge)×Int):Option (Ctl ((List Edge)×Int) (List Edge)):=(bif decide (d.2<(h.length:Int))then((idx h d.2).bind λa=>((idx h d.2).bind λl=>(bif (l.Kind != 4)then some true else(F_aq n k a.Sync.MatA).bind λm=>(bif (!m)then some true else(F_aq n k a.Sync.MatB).bind λp=>some (!p))):Option Bool).bind λq=>(bif q then some d.1 else(F_aw n g.1 a.Sync.MatA a.Sync.EpochA).bind λe=>(F_aw n g.1 a.Sync.MatB a.Sync.EpochB).bind λf=>(F_aa n g.1 e a.Sync.MatA a.Sync.EpochA).bind λr=>(F_z n k r a.Sync.LocalA).bind λi=>(F_aa n g.1 f a.Sync.MatB a.Sync.EpochB).bind λs=>(F_z n k s a.Sync.LocalB).bind λj=>(app d.1 [{From:=e,To:=f,W:=i64.wrap ((i64.wrap ((i64.wrap ((i64.wrap (a.Sync.Max-a.Sync.LocalB))-j.Lo))+a.Sync.LocalA))+i.Hi):Edge},{From:=f,To:=e,W:=i64.wrap ((i64.wrap ((i64.wrap ((i64.wrap (a.Sync.LocalB+j.Hi))-a.Sync.LocalA))-i.Lo))-a.Sync.Min):Edge}]).bind λt=>some t):Option (List Edge)).bind λu=>some (.cont (u,i64.wrap (d.2+1)))else some (.done d.1))
def F_bw(n:Nat)(g:Course)(h:List Fact):Option (Int×(List Edge)×Int):=(F_cr n g h).bind λa=>(bif (a.2 != 0)then some (0,[],a.2)else(iter (F_fl n a) n ([],0):Option (List Edge)).bind λi=>(F_bm n h).bind λe=>(iter (F_gc n g e) n (a.1,i,0):Option ((List Segment)×(List Edge))).bind λf=>(iter (F_hd n g e f) n (f.2,0):Option (List Edge)).bind λd=>(bif decide (8192<(d.length:Int))then some (0,[],2)else some (i64.wrap ((a.1.length:Int)+1),d,0)))
theorem k_bw(n:Nat)(y:Course)(a2:List Fact):Kq (F_bw n y a2) 19 [.agg (Course.c y),.rsl 57 (map Fact.c a2)] [] (λr=>.tup [.agg [I r.1,.rsl 3 (map Edge.c r.2.1)],I r.2.2]) (λr=>[.cells 51 [I r.1,.rsl 3 (map Edge.c r.2.1)]]):=by
 refine Kg 11 func19 Z Z Z Z λr h=>Cd [] h (k_cr _ _ _) Z λu bw h=>FE Z (Go 14 Z (Cn Z h (λbh h=>?_) (λbh h=>?_)))
 .refine Gc 10 Z ?_;obtain rfl:=Oi h;exact Rx [1] [4,5] Z (Qt Z Z (Qka.cons (Qg Gz Gt Z Z Z) (Qka.cons Qev.tmp Qka.nil))) ⟨Z,Z⟩
 refine Gc 7 Z ?_;refine vX (.agg [I (i64.wrap ((u.1.length:Int)+1)),.nils]) (OpV.build (zs:=[I 0,.nils]) zeroValue51 (zrC Z) pl_51) ?_;refine vH (QbC (v:=(.agg [I 0,.nils])) zeroValue51 (zrC Z)) ?_;refine FE Z (Go 9 Z (Bd h λb8 h9 h=>?_));refine Ct b8 [0,1,2,3,0] [1,2,4,6,8] Ze (λb8=>[(3,.cells 51 [I (i64.wrap ((u.1.length:Int)+1)),.osl 4 0 b8.length 3]),(4,.row 70 3 (map Edge.c b8))]) Zf ?_ (λenv H E=>?_)
 .refine G0 1 Z ?_;refine Lp [0,1,2,3,0] [1,2,4,6,8] (λQ=>[(9,I Q.2)]) (λQ=>[(3,.cells 51 [I (i64.wrap ((u.1.length:Int)+1)),.osl 4 0 Q.1.length 3]),(4,.row 70 3 (map Edge.c Q.1))]) h9 Zf ?_ ?_
  .refine En (QaZ (i:=3) (m:=1) (t:=70) (k:=3) Z Z Z) ?_;exact Lr [0,1,2,3,4]
  intro Q bx N az;refine G0 9 Z (Yk Z N (λba N=>?_) (λba N=>?_))
  .refine Gc 2 Z (Qk N ?_);obtain rfl:=Oj az N;exact Gx 1 Z (QF (Lr [0,1,2,3,4]))
  refine Gc 13 Z ?_;refine vH (Ek (xs:=[.tmp 45,.tmp 48]) (es:=map Edge.c [{From:=0,To:=i64.wrap (Q.2+1),W:=1099511627776:Edge},{From:=i64.wrap (Q.2+1),To:=0,W:=1099511627776:Edge}]) Qeq Z Z Z Z Z ⟨Z,Z,trivial⟩ Z Z) ?_;refine FE Z (Bd N λbz bb N=>?_);refine vH (Qp (e:=Edge.c) bb Qeq EZ (QU (i:=5))) ?_;exact FE Z (Go 10 Z (Qj N (Lr [0,1,2,3,6])))
 refine Gx 1 Z (Qd E (Gc 3 Z (Cd [] h (k_bm _ _) Z λl bp h=>FE Z (Go 9 Z (Bd h λO bi h=>?_)))));refine Ct O [0,1,2,3,4] [2,4] (λO=>[(6,.rsl 3 (map Segment.c O.1)),(8,.ptr 2 0),(10,.osl 4 0 l.length 57)]) (λO=>[(2,.cells 51 [I (i64.wrap ((u.1.length:Int)+1)),.osl 3 0 O.2.length 3]),(3,.row 70 3 (map Edge.c O.2)),(4,.row 96 57 (map Fact.c l))]) Zf ?_ (λenv H E=>?_)
 .refine G0 1 Z ?_;refine Lp [0,1,3,4,5] [2,4,8,10] (λp=>[(6,.rsl 3 (map Segment.c p.1)),(11,I p.2.2)]) (λp=>[(2,.cells 51 [I (i64.wrap ((u.1.length:Int)+1)),.osl 3 0 p.2.1.length 3]),(3,.row 70 3 (map Edge.c p.2.1))]) bi Zf ?_ ?_
  .refine En (Qca [(6,_)] Z Z (QnR.cons Z Ep QnR.nil) (Ec (Ec (Ec (Qap _))))) ?_;exact Lr [0,1,3,4,5]
  intro p ca P bc;refine G0 9 Z (Yk Z P (λbd P=>?_) (λbd P=>?_))
  .refine Gc 2 Z (Qk P ?_);obtain rfl:=Oj bc P;exact Gx 1 Z (QF (Lr [0,1,2,3,4]))
  refine Gc 3 Z (Bd P λR q P=>?_);refine Ct R [0,1,2,3,4] [2,4,6,8,10,11] Ze (λR=>[(2,.cells 51 [I (i64.wrap ((u.1.length:Int)+1)),.osl 3 0 R.length 3]),(3,.row 70 3 (map Edge.c R))]) Zf ?_ (λenv H E=>?_)
  .refine G0 5 Z (Bd q λs ac q=>?_);refine vX (.ptr 4 (toNat p.2.2*57)) (Qv ac Z EB EC) ?_;refine Fp QeT Z ?_;refine vX (.agg (Beacon.c s.Beacon)) (QD Z isAgg76 sizeOf76 Z (Ya (f:=16) ac) Z Z) ?_;refine Go 6 Z (Bd q λV F q=>?_);refine Ct V [0,1,2,3,4,5] [2,4,6,8,10,11,12] (λV=>[(77,.bool V)]) Ze Zf ?_ (λenv H E=>?_)
   .refine G0 3 Z (Bd F λbe ad F=>?_);refine vX (.ptr 4 (toNat p.2.2*57)) (Qv ad Z EB EC) ?_;refine Fp QeU Z ?_;refine vX (I be.Kind) (Ey Z EF Z (Ya (f:=3) ad)) ?_;refine Go 2 Z (Is 71 F Z (λam F=>?_) (λam F=>?_))
    .exact Go 7 Z (Cl F [0,1,2,3,4,5])
    .exact Go 3 Z (Cz [] F (k_aq _ _ _) Z λbq bj F=>Go 3 Z (Cl F [0,1,2,3,4,5]))
   refine Gx 1 Z (Qd E (Cn Z q (λan q=>?_) (λan q=>?_)))
   .exact Gc 3 Z (Cl q [0,1,2,3,4])
   refine Gc 9 Z (Cz [] q (k_aw _ _ _ _) Z λX bk q=>Go 4 Z ?_);obtain⟨L,ae,q⟩:=Yl q;obtain⟨z,af,q⟩:=Yl q;refine YL 12 1 [84,85,86,87,88,89,90,91,92,93,94,14] [false,false,false,false,false,false,false,true,false,false,true,true] [[],[],[],[],[],[],[],[],[],[],[7],[]] [[],[7],[11],[7,10],[7,11],[7,10,11]] [[(0,0),(1,1),(2,2),(4,4)],[(0,0),(2,2)],[(0,0),(2,2)],[(0,0),(2,2)],[(0,0),(2,2)],[(0,0),(2,2)],[(0,0),(2,2)],[(0,1),(2,4)],[(0,0),(1,1),(2,2),(4,4)],[(0,0),(1,1),(2,2),(4,4)],[(1,3),(4,5)],[(0,2),(1,4),(3,5)]] [.agg (Course.c y),.rsl 3 (map Segment.c p.1),I X,.ptr 5 0,I s.Beacon.Mat,.ptr 5 1,I s.Beacon.Epoch,.agg (Segment.c L),.ptr 5 2,I s.Beacon.Local,.agg [I z.Lo,I z.Hi],.ptr 6 0] [[.cells 33 (Course.c y),.cells 51 [I 0,.rsl 3 (map Edge.c [])],.cells 51 [I (i64.wrap ((u.1.length:Int)+1)),.osl 3 0 p.2.1.length 3],.row 70 3 (map Edge.c p.2.1),.row 96 57 (map Fact.c l),.cells 76 (Beacon.c s.Beacon),.dead],[.cells 33 (Course.c y),.cells 51 [I 0,.rsl 3 (map Edge.c [])],.cells 51 [I (i64.wrap ((u.1.length:Int)+1)),.osl 3 0 p.2.1.length 3],.row 70 3 (map Edge.c p.2.1),.row 96 57 (map Fact.c l),.cells 76 (Beacon.c s.Beacon),.dead,.cells 36 (Segment.c L)],[.cells 33 (Course.c y),.cells 51 [I 0,.rsl 3 (map Edge.c [])],.cells 51 [I (i64.wrap ((u.1.length:Int)+1)),.osl 3 0 p.2.1.length 3],.row 70 3 (map Edge.c p.2.1),.row 96 57 (map Fact.c l),.cells 76 (Beacon.c s.Beacon),.cells 44 [I 0,I 0]],[.cells 33 (Course.c y),.cells 51 [I 0,.rsl 3 (map Edge.c [])],.cells 51 [I (i64.wrap ((u.1.length:Int)+1)),.osl 3 0 p.2.1.length 3],.row 70 3 (map Edge.c p.2.1),.row 96 57 (map Fact.c l),.cells 76 (Beacon.c s.Beacon),.dead,.cells 36 (Segment.c L),.cells 44 [I z.Lo,I z.Hi]],[.cells 33 (Course.c y),.cells 51 [I 0,.rsl 3 (map Edge.c [])],.cells 51 [I (i64.wrap ((u.1.length:Int)+1)),.osl 3 0 p.2.1.length 3],.row 70 3 (map Edge.c p.2.1),.row 96 57 (map Fact.c l),.cells 76 (Beacon.c s.Beacon),.cells 44 [I 0,I 0],.cells 36 (Segment.c L)],[.cells 33 (Course.c y),.cells 51 [I 0,.rsl 3 (map Edge.c [])],.cells 51 [I (i64.wrap ((u.1.length:Int)+1)),.osl 3 0 p.2.1.length 3],.row 70 3 (map Edge.c p.2.1),.row 96 57 (map Fact.c l),.cells 76 (Beacon.c s.Beacon),.cells 44 [I 0,I 0],.cells 36 (Segment.c L),.cells 44 [I z.Lo,I z.Hi]]] ([.cells 33 (Course.c y),.cells 51 [I 0,.rsl 3 (map Edge.c [])],.cells 51 [I (i64.wrap ((u.1.length:Int)+1)),.osl 3 0 p.2.1.length 3],.row 70 3 (map Edge.c p.2.1),.row 96 57 (map Fact.c l),.cells 76 (Beacon.c s.Beacon),.cells 44 [I 0,I 0],.cells 36 (Segment.c L),.cells 44 [I z.Lo,I z.Hi]]) draws Z Z Z Z Z Z Z ?_ Z ?_
   .refine Qh4.cons (Qb (v0 Z Z) (Qb (v0 Z Z) (Qb (v0 Z Z) (Qb (v0 Z Z) (Qc))))) (Qh4.cons (Qb (v0 Z Z) (Qb (v0 Z Z) (Qc))) (Qh4.cons (Qb (v0 Z Z) (Qb (v0 Z Z) (Qc))) (Qh4.cons (Qb (v0 Z Z) (Qb (v0 Z Z) (Qc))) (Qh4.cons (Qb (v0 Z Z) (Qb (v0 Z Z) (Qc))) (Qh4.cons (Qb (v0 Z Z) (Qb (v0 Z Z) (Qc))) (Qh4.cons (Qb (v0 Z Z) (Qb (v0 Z Z) (Qc))) (Qh4.cons ?_ (Qh4.cons (Qb (v0 Z Z) (Qb (v0 Z Z) (Qb (v0 Z Z) (Qb (v0 Z Z) (Qc))))) (Qh4.cons (Qb (v0 Z Z) (Qb (v0 Z Z) (Qb (v0 Z Z) (Qb (v0 Z Z) (Qc))))) (Qh4.cons ?_ (Qh4.cons ?_ (Qh4.nil))))))))))))
    .refine Qb ?_ (Qb ?_ (Qc))
     iterate 2 refine Om1 Z (sD 1 (sD 2 (sD 4 (sD 6 sN)))) ?_;refine Qo [] (OpC.fn call54 Z Z Z) (Qlv _ _ _ _ _ _ ae) ?_;rintro _ _ ⟨rfl,rfl⟩;exact FE Z Wp
    .refine Qb ?_ (Qb ?_ (Qc))
     iterate 2 refine Om1 Z (sD 0 (sD 7 (sD 9 sN))) ?_;refine Qo [] (OpC.fn call50 Z Z Z) (k_z _ _ _ _ _ af) ?_;rintro _ _ ⟨rfl,rfl⟩;exact FE Z Wp
    .refine Qb ?_ (Qb ?_ (Qb ?_ (Qc)))
     iterate 3 exact JD.alloc _ 14 44 6 _ Z Z Z Z Z Z Z (OpZ.alloc (v:=(.agg [I 0,I 0])) E0 (zrC Z)) Z
   refine Go 32 Z ?_;refine vH (Ek (xs:=[.tmp 109,.tmp 122]) (es:=map Edge.c [{From:=0,To:=X,W:=i64.wrap ((i64.wrap ((i64.wrap (s.Beacon.True+s.Beacon.Err))-s.Beacon.Local))-z.Lo):Edge},{From:=X,To:=0,W:=i64.wrap ((i64.wrap ((i64.wrap (s.Beacon.Local+z.Hi))-s.Beacon.True))+s.Beacon.Err):Edge}]) Qeq Z Z Z Z Z ⟨Z,Z,trivial⟩ Z Z) ?_;refine FE Z (Bd q λbr ao q=>?_);refine vH (Qp (e:=Edge.c) ao Qeq EZ (QU (i:=9))) ?_;exact FE Z (Go 4 Z (Cl q [0,1,2,10,4]))
  exact Gx 1 Z (Qd E (Gc 5 Z (Qj P (Lr [0,1,2,3,4]))))
 refine Gx 1 Z (Qd E (Gc 6 Z (Bd h λJ bf h=>?_)));refine Ct J [1,2,3] [4,8] Ze (λJ=>[(1,.cells 51 [I (i64.wrap ((u.1.length:Int)+1)),.osl 2 0 J.length 3]),(2,.row 70 3 (map Edge.c J))]) Zf ?_ (λenv H E=>?_)
 .refine G0 1 Z ?_;refine Lp [0,1,2,3,4] [2,4,6,8,10] (λd=>[(15,I d.2)]) (λd=>[(2,.cells 51 [I (i64.wrap ((u.1.length:Int)+1)),.osl 3 0 d.1.length 3]),(3,.row 70 3 (map Edge.c d.1))]) bf Zf (Lr [0,1,2,3,4]) λd bs G aq=>?_;refine G0 9 Z (Yk Z G (λar G=>?_) (λar G=>?_))
  .refine Gc 2 Z (Qk G ?_);obtain rfl:=Oj aq G;exact Gx 1 Z (QF (Lr [1,2,3]))
  refine Gc 3 Z (Bd G λT j G=>?_);refine Ct T [0,1,2,3,4] [2,4,6,8,10,15] Ze (λT=>[(2,.cells 51 [I (i64.wrap ((u.1.length:Int)+1)),.osl 3 0 T.length 3]),(3,.row 70 3 (map Edge.c T))]) Zf ?_ (λenv H E=>?_)
  .refine G0 5 Z (Bd j λg ag j=>?_);refine vX (.ptr 4 (toNat d.2*57)) (Qv ag Z EB EC) ?_;refine Fp Qdk Z ?_;refine vX (.agg (Sync.c g.Sync)) (QD Z isAgg78 sizeOf78 Z (Ya (f:=21) ag) Z Z) ?_;refine Go 6 Z (Bd j λY w j=>?_);refine Ct Y [0,1,2,3,4,5] [2,4,6,8,10,15,16] (λY=>[(156,.bool Y)]) Ze Zf ?_ (λenv H E=>?_)
   .refine G0 3 Z (Bd w λbg ah w=>?_);refine vX (.ptr 4 (toNat d.2*57)) (Qv ah Z EB EC) ?_;refine Fp QeU Z ?_;refine vX (I bg.Kind) (Ey Z EF Z (Ya (f:=3) ah)) ?_;refine Go 2 Z (Is 143 w Z (λau w=>?_) (λau w=>?_))
    .exact Go 14 Z (Cl w [0,1,2,3,4,5])
    .refine Go 3 Z (Cz [] w (k_aq _ _ _) Z λbt bl w=>Go 3 Z (Is 150 w Z (λav w=>?_) (λav w=>?_)))
     .exact Go 7 Z (Cl w [0,1,2,3,4,5])
     .exact Go 3 Z (Cz [] w (k_aq _ _ _) Z λbu bm w=>Go 3 Z (Cl w [0,1,2,3,4,5]))
   refine Gx 1 Z (Qd E (Cn Z j (λaw j=>?_) (λaw j=>?_)))
   .exact Gc 3 Z (Cl j [0,1,2,3,4])
   refine Gc 9 Z (Cz [] j (k_aw _ _ _ _) Z λaa bn j=>Go 10 Z (Cz [] j (k_aw _ _ _ _) Z λab bo j=>Go 4 Z ?_));obtain⟨x,ai,j⟩:=Yl j;obtain⟨a,aj,j⟩:=Yl j;refine YL 12 1 [169,170,171,172,173,174,175,176,177,178,179,19] [false,false,false,false,false,false,false,true,false,false,true,true] [[],[],[],[],[],[],[],[],[],[],[7],[]] [[],[7],[11],[7,10],[7,11],[7,10,11]] [[(0,0),(1,1),(2,2),(4,4)],[(0,0),(2,2)],[(0,0),(2,2)],[(0,0),(2,2)],[(0,0),(2,2)],[(0,0),(2,2)],[(0,0),(2,2)],[(0,1),(2,4)],[(0,0),(1,1),(2,2),(4,4)],[(0,0),(1,1),(2,2),(4,4)],[(1,3),(4,5)],[(0,2),(1,4),(3,5)]] [.agg (Course.c y),.rsl 3 (map Segment.c O.1),I aa,.ptr 5 0,I g.Sync.MatA,.ptr 5 1,I g.Sync.EpochA,.agg (Segment.c x),.ptr 5 2,I g.Sync.LocalA,.agg [I a.Lo,I a.Hi],.ptr 6 0] [[.cells 33 (Course.c y),.cells 51 [I 0,.rsl 3 (map Edge.c [])],.cells 51 [I (i64.wrap ((u.1.length:Int)+1)),.osl 3 0 d.1.length 3],.row 70 3 (map Edge.c d.1),.row 96 57 (map Fact.c l),.cells 78 (Sync.c g.Sync),.dead],[.cells 33 (Course.c y),.cells 51 [I 0,.rsl 3 (map Edge.c [])],.cells 51 [I (i64.wrap ((u.1.length:Int)+1)),.osl 3 0 d.1.length 3],.row 70 3 (map Edge.c d.1),.row 96 57 (map Fact.c l),.cells 78 (Sync.c g.Sync),.dead,.cells 36 (Segment.c x)],[.cells 33 (Course.c y),.cells 51 [I 0,.rsl 3 (map Edge.c [])],.cells 51 [I (i64.wrap ((u.1.length:Int)+1)),.osl 3 0 d.1.length 3],.row 70 3 (map Edge.c d.1),.row 96 57 (map Fact.c l),.cells 78 (Sync.c g.Sync),.cells 44 [I 0,I 0]],[.cells 33 (Course.c y),.cells 51 [I 0,.rsl 3 (map Edge.c [])],.cells 51 [I (i64.wrap ((u.1.length:Int)+1)),.osl 3 0 d.1.length 3],.row 70 3 (map Edge.c d.1),.row 96 57 (map Fact.c l),.cells 78 (Sync.c g.Sync),.dead,.cells 36 (Segment.c x),.cells 44 [I a.Lo,I a.Hi]],[.cells 33 (Course.c y),.cells 51 [I 0,.rsl 3 (map Edge.c [])],.cells 51 [I (i64.wrap ((u.1.length:Int)+1)),.osl 3 0 d.1.length 3],.row 70 3 (map Edge.c d.1),.row 96 57 (map Fact.c l),.cells 78 (Sync.c g.Sync),.cells 44 [I 0,I 0],.cells 36 (Segment.c x)],[.cells 33 (Course.c y),.cells 51 [I 0,.rsl 3 (map Edge.c [])],.cells 51 [I (i64.wrap ((u.1.length:Int)+1)),.osl 3 0 d.1.length 3],.row 70 3 (map Edge.c d.1),.row 96 57 (map Fact.c l),.cells 78 (Sync.c g.Sync),.cells 44 [I 0,I 0],.cells 36 (Segment.c x),.cells 44 [I a.Lo,I a.Hi]]] ([.cells 33 (Course.c y),.cells 51 [I 0,.rsl 3 (map Edge.c [])],.cells 51 [I (i64.wrap ((u.1.length:Int)+1)),.osl 3 0 d.1.length 3],.row 70 3 (map Edge.c d.1),.row 96 57 (map Fact.c l),.cells 78 (Sync.c g.Sync),.cells 44 [I 0,I 0],.cells 36 (Segment.c x),.cells 44 [I a.Lo,I a.Hi]]) draws Z Z Z Z Z Z Z ?_ Z ?_
   .refine Qh4.cons (Qb (v0 Z Z) (Qb (v0 Z Z) (Qb (v0 Z Z) (Qb (v0 Z Z) (Qc))))) (Qh4.cons (Qb (v0 Z Z) (Qb (v0 Z Z) (Qc))) (Qh4.cons (Qb (v0 Z Z) (Qb (v0 Z Z) (Qc))) (Qh4.cons (Qb (v0 Z Z) (Qb (v0 Z Z) (Qc))) (Qh4.cons (Qb (v0 Z Z) (Qb (v0 Z Z) (Qc))) (Qh4.cons (Qb (v0 Z Z) (Qb (v0 Z Z) (Qc))) (Qh4.cons (Qb (v0 Z Z) (Qb (v0 Z Z) (Qc))) (Qh4.cons ?_ (Qh4.cons (Qb (v0 Z Z) (Qb (v0 Z Z) (Qb (v0 Z Z) (Qb (v0 Z Z) (Qc))))) (Qh4.cons (Qb (v0 Z Z) (Qb (v0 Z Z) (Qb (v0 Z Z) (Qb (v0 Z Z) (Qc))))) (Qh4.cons ?_ (Qh4.cons ?_ (Qh4.nil))))))))))))
    .refine Qb ?_ (Qb ?_ (Qc))
     iterate 2 refine Om1 Z (sD 1 (sD 2 (sD 4 (sD 6 sN)))) ?_;refine Qo [] (OpC.fn call54 Z Z Z) (Qlv _ _ _ _ _ _ ai) ?_;rintro _ _ ⟨rfl,rfl⟩;exact FE Z Wp
    .refine Qb ?_ (Qb ?_ (Qc))
     iterate 2 refine Om1 Z (sD 0 (sD 7 (sD 9 sN))) ?_;refine Qo [] (OpC.fn call50 Z Z Z) (k_z _ _ _ _ _ aj) ?_;rintro _ _ ⟨rfl,rfl⟩;exact FE Z Wp
    .refine Qb ?_ (Qb ?_ (Qb ?_ (Qc)))
     iterate 3 exact JD.alloc _ 19 44 6 _ Z Z Z Z Z Z Z (OpZ.alloc (v:=(.agg [I 0,I 0])) E0 (zrC Z)) Z
   refine Go 4 Z ?_;obtain⟨M,ak,j⟩:=Yl j;obtain⟨B,al,j⟩:=Yl j;refine YL 12 1 [180,181,182,183,184,185,186,187,188,189,190,20] [false,false,false,false,false,false,false,true,false,false,true,true] [[],[],[],[],[],[],[],[],[],[],[7],[]] [[],[7],[11],[7,10],[7,11],[7,10,11]] [[(0,0),(1,1),(2,2),(4,4)],[(0,0),(2,2)],[(0,0),(2,2)],[(0,0),(2,2)],[(0,0),(2,2)],[(0,0),(2,2)],[(0,0),(2,2)],[(0,1),(2,4)],[(0,0),(1,1),(2,2),(4,4)],[(0,0),(1,1),(2,2),(4,4)],[(1,3),(4,5)],[(0,2),(1,4),(3,5)]] [.agg (Course.c y),.rsl 3 (map Segment.c O.1),I ab,.ptr 5 3,I g.Sync.MatB,.ptr 5 4,I g.Sync.EpochB,.agg (Segment.c M),.ptr 5 5,I g.Sync.LocalB,.agg [I B.Lo,I B.Hi],.ptr 9 0] [[.cells 33 (Course.c y),.cells 51 [I 0,.rsl 3 (map Edge.c [])],.cells 51 [I (i64.wrap ((u.1.length:Int)+1)),.osl 3 0 d.1.length 3],.row 70 3 (map Edge.c d.1),.row 96 57 (map Fact.c l),.cells 78 (Sync.c g.Sync),.cells 44 [I a.Lo,I a.Hi],.cells 36 (Segment.c x),.cells 44 [I a.Lo,I a.Hi],.dead],[.cells 33 (Course.c y),.cells 51 [I 0,.rsl 3 (map Edge.c [])],.cells 51 [I (i64.wrap ((u.1.length:Int)+1)),.osl 3 0 d.1.length 3],.row 70 3 (map Edge.c d.1),.row 96 57 (map Fact.c l),.cells 78 (Sync.c g.Sync),.cells 44 [I a.Lo,I a.Hi],.cells 36 (Segment.c x),.cells 44 [I a.Lo,I a.Hi],.dead,.cells 36 (Segment.c M)],[.cells 33 (Course.c y),.cells 51 [I 0,.rsl 3 (map Edge.c [])],.cells 51 [I (i64.wrap ((u.1.length:Int)+1)),.osl 3 0 d.1.length 3],.row 70 3 (map Edge.c d.1),.row 96 57 (map Fact.c l),.cells 78 (Sync.c g.Sync),.cells 44 [I a.Lo,I a.Hi],.cells 36 (Segment.c x),.cells 44 [I a.Lo,I a.Hi],.cells 44 [I 0,I 0]],[.cells 33 (Course.c y),.cells 51 [I 0,.rsl 3 (map Edge.c [])],.cells 51 [I (i64.wrap ((u.1.length:Int)+1)),.osl 3 0 d.1.length 3],.row 70 3 (map Edge.c d.1),.row 96 57 (map Fact.c l),.cells 78 (Sync.c g.Sync),.cells 44 [I a.Lo,I a.Hi],.cells 36 (Segment.c x),.cells 44 [I a.Lo,I a.Hi],.dead,.cells 36 (Segment.c M),.cells 44 [I B.Lo,I B.Hi]],[.cells 33 (Course.c y),.cells 51 [I 0,.rsl 3 (map Edge.c [])],.cells 51 [I (i64.wrap ((u.1.length:Int)+1)),.osl 3 0 d.1.length 3],.row 70 3 (map Edge.c d.1),.row 96 57 (map Fact.c l),.cells 78 (Sync.c g.Sync),.cells 44 [I a.Lo,I a.Hi],.cells 36 (Segment.c x),.cells 44 [I a.Lo,I a.Hi],.cells 44 [I 0,I 0],.cells 36 (Segment.c M)],[.cells 33 (Course.c y),.cells 51 [I 0,.rsl 3 (map Edge.c [])],.cells 51 [I (i64.wrap ((u.1.length:Int)+1)),.osl 3 0 d.1.length 3],.row 70 3 (map Edge.c d.1),.row 96 57 (map Fact.c l),.cells 78 (Sync.c g.Sync),.cells 44 [I a.Lo,I a.Hi],.cells 36 (Segment.c x),.cells 44 [I a.Lo,I a.Hi],.cells 44 [I 0,I 0],.cells 36 (Segment.c M),.cells 44 [I B.Lo,I B.Hi]]] ([.cells 33 (Course.c y),.cells 51 [I 0,.rsl 3 (map Edge.c [])],.cells 51 [I (i64.wrap ((u.1.length:Int)+1)),.osl 3 0 d.1.length 3],.row 70 3 (map Edge.c d.1),.row 96 57 (map Fact.c l),.cells 78 (Sync.c g.Sync),.cells 44 [I a.Lo,I a.Hi],.cells 36 (Segment.c x),.cells 44 [I a.Lo,I a.Hi],.cells 44 [I 0,I 0],.cells 36 (Segment.c M),.cells 44 [I B.Lo,I B.Hi]]) draws Z Z Z Z Z Z Z ?_ Z ?_
   .refine Qh4.cons (Qb (v0 Z Z) (Qb (v0 Z Z) (Qb (v0 Z Z) (Qb (v0 Z Z) (Qc))))) (Qh4.cons (Qb (v0 Z Z) (Qb (v0 Z Z) (Qc))) (Qh4.cons (Qb (v0 Z Z) (Qb (v0 Z Z) (Qc))) (Qh4.cons (Qb (v0 Z Z) (Qb (v0 Z Z) (Qc))) (Qh4.cons (Qb (v0 Z Z) (Qb (v0 Z Z) (Qc))) (Qh4.cons (Qb (v0 Z Z) (Qb (v0 Z Z) (Qc))) (Qh4.cons (Qb (v0 Z Z) (Qb (v0 Z Z) (Qc))) (Qh4.cons ?_ (Qh4.cons (Qb (v0 Z Z) (Qb (v0 Z Z) (Qb (v0 Z Z) (Qb (v0 Z Z) (Qc))))) (Qh4.cons (Qb (v0 Z Z) (Qb (v0 Z Z) (Qb (v0 Z Z) (Qb (v0 Z Z) (Qc))))) (Qh4.cons ?_ (Qh4.cons ?_ (Qh4.nil))))))))))))
    .refine Qb ?_ (Qb ?_ (Qc))
     iterate 2 refine Om1 Z (sD 1 (sD 2 (sD 4 (sD 6 sN)))) ?_;refine Qo [] (OpC.fn call54 Z Z Z) (Qlv _ _ _ _ _ _ ak) ?_;rintro _ _ ⟨rfl,rfl⟩;exact FE Z Wp
    .refine Qb ?_ (Qb ?_ (Qc))
     iterate 2 refine Om1 Z (sD 0 (sD 7 (sD 9 sN))) ?_;refine Qo [] (OpC.fn call50 Z Z Z) (k_z _ _ _ _ _ al) ?_;rintro _ _ ⟨rfl,rfl⟩;exact FE Z Wp
    .refine Qb ?_ (Qb ?_ (Qb ?_ (Qc)))
     iterate 3 exact JD.alloc _ 20 44 9 _ Z Z Z Z Z Z Z (OpZ.alloc (v:=(.agg [I 0,I 0])) E0 (zrC Z)) Z
   refine Go 40 Z ?_;refine vH (Ek (xs:=[.tmp 209,.tmp 226]) (es:=map Edge.c [{From:=aa,To:=ab,W:=i64.wrap ((i64.wrap ((i64.wrap ((i64.wrap (g.Sync.Max-g.Sync.LocalB))-B.Lo))+g.Sync.LocalA))+a.Hi):Edge},{From:=ab,To:=aa,W:=i64.wrap ((i64.wrap ((i64.wrap ((i64.wrap (g.Sync.LocalB+B.Hi))-g.Sync.LocalA))-a.Lo))-g.Sync.Min):Edge}]) Qeq Z Z Z Z Z ⟨Z,Z,trivial⟩ Z Z) ?_;refine FE Z (Bd j λbv ax j=>?_);refine vH (Qp (e:=Edge.c) ax Qeq EZ (QU (i:=12))) ?_;exact FE Z (Go 4 Z (Cl j [0,1,2,13,4]))
  exact Gx 1 Z (Qd E (Gc 5 Z (Qj G (Lr [0,1,2,3,4]))))
 refine Gx 1 Z (Qd E (Gc 9 Z (Cn Z h (λay h=>?_) (λay h=>?_))))
 .refine Gc 9 Z ?_;obtain rfl:=Oi h;exact Rx [0] [4,5] Z (Qt Z Z (Qka.cons (Qg Gz Gt Z Z Z) (Qka.cons Qev.tmp Qka.nil))) ⟨Z,Z⟩
 refine Gc 10 Z ?_;obtain rfl:=Oi h;refine⟨[(4,.ptr 0 0),(5,I ((i64.wrap ((u.1.length:Int)+1),J,0).2.2))],[.cells 51 [I ((i64.wrap ((u.1.length:Int)+1),J,0).1),.rsl 3 (map Edge.c ((i64.wrap ((u.1.length:Int)+1),J,0).2.1))]],_,?_,Qt Z Z (Qka.cons (Qg Gz Gt Z Z Z) (Qka.cons Qev.tmp Qka.nil)),Z,Z⟩;refine En (Qca (i:=2) [] Z Z QnR.nil (FzH.cells (Ed (Ee _) (Ed Ep (Ej _))) (FzH.cells (Ed (Ee _) (Ed Ep (Ej _))) (Ec (Qap _))))) ?_;exact Lr [0]
def F_ic(n:Nat)(d:System)(g:System)(a:Int):Option (Ctl Int (Ctl Unit Bool)):=(bif decide (a<(d.Edges.length:Int))then(idx d.Edges a).bind λe=>(idx g.Edges a).bind λf=>(bif (e != f)then some (.done (.done false))else some (.cont (i64.wrap (a+1))))else some (.done (.cont ())))
def F_dg(n:Nat)(d:System)(e:System):Option Bool:=((bif (d.Vertices != e.Vertices)then some true else some ((d.Edges.length:Int) != (e.Edges.length:Int))):Option Bool).bind λb2=>(bif b2 then some false else(iter (F_ic n d e) n 0:Option (Ctl Unit Bool)).bind λf=>match f with|.cont a=>(some true)|.done a=>some a)
theorem k_dg(n:Nat)(t:System)(u:System):Ks (F_dg n t u) 20 [.agg (System.c t),.agg (System.c u)] [] (λr=>.bool r):=by
 refine Kg 9 func20 Z Z Z Z λr h=>Bd h λb2 f h=>?_;refine Ct b2 [0,1] [2,3] (λb2=>[(19,.bool b2)]) Ze Zf ?_ (λenv H g=>?_)
 .refine G0 7 Z (Is 11 f Z (λw f=>?_) (λw f=>?_))
  .exact Go 9 Z (Cl f [0,1])
  .exact Go 2 Z (Lm Z (Go 2 Z (Lm Z (Go 3 Z (Cl f [0,1])))))
 refine Gx 1 Z (Qd g (Cn Z h (λy h=>?_) (λy h=>?_)))
 .exact Gc 7 Z (Rt h 4 [])
 refine Gc 8 Z (Bd h λz B h=>?_);refine Jk (b:=z) [] [] Ze Ze Zf ?_ (λF env H E g=>?_)
 .refine G0 1 Z ?_;refine Lp [0,1] [2,3] (λj=>[(5,I j)]) Ze B Zf (Lr [0,1]) λj G a i=>?_;refine G0 6 Z (Lm Z (Go 3 Z (Yk Z a (λk a=>?_) (λk a=>?_))))
  .refine Gc 2 Z (Qk a ?_);obtain rfl:=Oj i a;exact Gx 1 Z (Qq Z (Lr []))
  refine Gc 5 Z (DSs 10 Z (D 3 Z ?_));obtain⟨d,l,a⟩:=Yl a;refine DS.wo (x:=.rp [I d.From,I d.To,I d.W]) ?_ ?_
  .exact Ix l EZ sizeOf70 Z Wp
  refine D 4 Z ?_;obtain⟨e,m,a⟩:=Yl a;refine DS.wo (x:=.rp [I e.From,I e.To,I e.W]) ?_ ?_
  .exact Ix m EZ sizeOf70 Z Wp
  refine D 1 Z (Eg Z ?_);refine vX (.bool (d != e)) (Qcu (p:=d) (q:=e) Qpz Z Z) ?_;refine Go 2 Z (Cn Z a (λs a=>?_) (λs a=>?_))
  .refine Gc 8 Z (Qy a ?_);obtain rfl:=Oj i a;exact Gx 1 Z (Qu (Gx 1 Z (Rt h 4 [])))
  exact Gc 8 Z (Qj a (Lr [0,1]))
 subst E;exact Gx 1 Z (Qd g (Gc 6 Z (Rt h 4 [])))
def F_en(n:Nat)(e:Course)(f:List Fact):Option Bool:=(F_gu 300).bind λi=>(bif (!i)then some false else((F_dy n e).bind λj=>(bif (!j)then some true else some (decide (14<(f.length:Int)))):Option Bool).bind λk=>(bif k then some true else(F_as n e f).bind λa=>(F_bw n e f).bind λd=>((F_dg n ({Vertices:=a.1,Edges:=a.2.1:System}) ({Vertices:=d.1,Edges:=d.2.1:System})).bind λg=>(bif g then some (a.2.2==d.2.2)else some false):Option Bool).bind λh=>some h))
theorem k_en(n:Nat)(j:Course)(k:List Fact):Ks (F_en n j k) 4 [.agg (Course.c j),.rsl 57 (map Fact.c k)] [] (λr=>.bool r):=by
 refine Kg 9 func4 Z Z Z Z λr h=>Cz [] h (k_gu _) Z λB u h=>Go 3 Z (Cn Z h (λl h=>?_) (λl h=>?_))
 .exact Gc 7 Z (Rt h 4 [])
 refine Gc 4 Z (Bd h λg d h=>?_);refine Ct g [0] [1,2] (λg=>[(18,.bool g)]) Ze Zf ?_ (λenv H e=>?_)
 .refine G0 2 Z (Cz [] d (k_dy _ _) Z λE w d=>Go 2 Z (Is 14 d Z (λm d=>?_) (λm d=>?_)))
  .exact Go 5 Z (Cl d [0])
  .exact Go 1 Z (Lm Z (Go 3 Z (Cl d [0])))
 refine Gx 1 Z (Qd e (Cn Z h (λp h=>?_) (λp h=>?_)))
 .exact Gc 7 Z (Rt h 4 [])
 refine Gc 6 Z (Cd [] h (k_as _ _ _) Z λx q h=>FE Z (Go 12 Z (Cd [] h (k_bw _ _ _) Z λy s h=>FE Z (Go 9 Z (Bd h λf a h=>?_)))));refine Ct f [] [] (λf=>[(4,.bool f)]) Ze Zf ?_ (λenv H e=>?_)
 .refine G0 3 Z (Cz [] a (k_dg _ _ _) Z λz t a=>Go 1 Z (Is 34 a Z (λi a=>?_) (λi a=>?_)))
  iterate 2 exact Go 6 Z (Cl a [])
 exact Gx 1 Z (Qd e (Gc 1 Z (Rt h 4 [])))
end Go.Sw
