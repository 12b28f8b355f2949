/- What the functions compute that ClocksSegmentsSpec reaches, and that their calls refine it (part 4 of 4). -/
import Derived.Test.YtgjcbknjiemdgaaGreatDoorW16Sg3
set_option linter.unusedVariables false
set_option linter.unusedSimpArgs false
set_option maxRecDepth 100000
set_option maxHeartbeats 4000000
namespace Go.Sw
open List(map)
open Int(toNat)
open Go.IntKind(i64 u64 u8)
open Go.Proofs Tryz
def F_db(n:Nat)(e:Course)(d:List Int)(a:Int):Option (Ctl Int (Ctl Unit Bool)):=(bif decide (a<(d.length:Int))then((bif (a==0)then some 1 else(bif (a==(i64.wrap ((d.length:Int)-1)))then some 3 else some 2)):Option Int).bind λf=>((idx d a).bind λg=>(idx e.Mats g).bind λh=>(bif (h.Kind != f)then some true else(bif decide (0<a)then(idx d (i64.wrap (a-1))).bind λi=>(idx d a).bind λj=>(F_az n e i j).bind λk=>some (decide (k<0))else some false)):Option Bool).bind λl=>(bif l then some (.done (.done false))else some (.cont (i64.wrap (a+1))))else some (.done (.cont ())))
def F_jt(n:Nat)(d:Distance)(h:List Int)(a:Int):Option (Ctl Int (Ctl Unit Bool)):=(bif decide (a<(d.Cutoffs.length:Int))then(idx d.Cutoffs a).bind λe=>(F_bg n h e.Mat).bind λf=>(idx d.Cutoffs a).bind λg=>(bif decide (f<g.Lap)then some (.done (.done false))else some (.cont (i64.wrap (a+1))))else some (.done (.cont ())))
def F_cd(n:Nat)(g:Course)(a:Distance):Option Bool:=(F_ad n a.Route).bind λd=>((bif decide ((d.length:Int)<2)then some true else some (decide (256<(d.length:Int)))):Option Bool).bind λp=>(bif p then some false else(iter (F_db n g d) n 0:Option (Ctl Unit Bool)).bind λh=>match h with|.cont e=>(((bif (a.Extra != (-1))then(idx g.Mats a.Extra).bind λi=>(bif (i.Kind != 2)then some true else(F_bg n d a.Extra).bind λj=>(bif (j==0)then some true else(F_az n g a.Extra a.Extra).bind λk=>some (decide (k<0))))else some false):Option Bool).bind λl=>(bif l then some false else(iter (F_jt n a d) n 0:Option (Ctl Unit Bool)).bind λm=>match m with|.cont f=>(some true)|.done f=>some f))|.done e=>some e)
theorem k_cd(n:Nat)(a1:Course)(a2:Distance):Ks (F_cd n a1 a2) 91 [.agg (Course.c a1),.agg (Distance.c a2)] [] (λr=>.bool r):=by
 refine Kg 11 func91 Z Z Z Z λr h=>Cd [] h (k_ad _ _) Z λr1 ax h=>FE Z (Go 12 Z (Bd h λO p h=>?_));refine Ct O [0,1,2] [2,3,5,6] (λO=>[(20,.bool O)]) Ze Zf ?_ (λenv H g=>?_)
 .refine G0 4 Z (Is 17 p Z (λaf p=>?_) (λaf p=>?_))
  iterate 2 exact Go 4 Z (Cl p [0,1,2])
 refine Gx 1 Z (Qc g (Cn Z h (λag h=>?_) (λag h=>?_)))
 .exact Gc 7 Z (Rt h 4 [])
 refine Gc 8 Z (Bd h λah ai h=>?_);refine Ji (b:=ah) [0,1,2] [2,3,5] Ze Ze Zf ?_ (λao env H q g=>?_)
 .refine G0 1 Z ?_;refine Lp [0,1,2] [2,3,5,6] (λj=>[(7,I j)]) Ze ai Zf (Lr [0,1,2]) λj ay f s=>?_;refine G0 8 Z (Yh Z f (λP f=>?_) (λP f=>?_))
  .refine Gc 2 Z (Ql f ?_);obtain rfl:=Oj s f;exact Gx 1 Z (Qo Z (Lr [0,1,2]))
  refine Gc 22 Z (Bd f λt i f=>?_);refine Ct t [0,1,2] [2,3,5,6,7] (λt=>[(8,I t)]) Ze Zf ?_ (λenv H g=>?_)
  .refine G0 0 Z (Cn Z i (λQ i=>?_) (λQ i=>?_))
   .exact Gc 3 Z (Cl i [0,1,2])
   refine Gc 8 Z (Cn Z i (λR i=>?_) (λR i=>?_))
   .exact Gc 3 Z (Cl i [0,1,2])
   exact Gc 1 Z (Cl i [0,1,2])
  refine Gx 2 Z (Qc g (Gc 1 Z (Bd f λu d f=>?_)));refine Ct u [0,1,2] [2,3,5,6,7] (λu=>[(61,.bool u)]) Ze Zf ?_ (λenv H g=>?_)
  .refine G0 0 Z (DSs 25 Z (D 4 Z ?_));obtain⟨aj,w,d⟩:=Yq d;refine DS.v (x:=(.ptr 2 (toNat j*1))) (Qt w Z Ez EC) ?_;refine DS.v (x:=(I aj)) (Ex Z EE Z (Qn w)) ?_;obtain⟨N,T,d⟩:=Yq d;refine DS.wo (x:=.rp [.str N.Name,I N.Kind]) ?_ ?_
   .exact Ix T runUnderlying22 sizeOf119 Z Wp
   refine D 5 Z (Qar 11 d Z Z Z (λV d=>?_) (λV d=>?_))
   .exact D 13 Z (Ef Z (Go 5 Z (Cl d [0,1,2])))
   .refine D 3 Z (Qar 14 d Z Z Z (λW d=>?_) (λW d=>?_))
    .refine D 4 Z ?_;obtain⟨ak,y,d⟩:=Yq d;refine DS.v (x:=(.ptr 2 (toNat (i64.wrap (j-1))*1))) (Qt y Z Ez EC) ?_ (hg:=(gT Z));refine DS.v (x:=(I ak)) (Ex Z EE Z (Qn y)) ?_ (hg:=(gT Z));refine D 2 Z ?_;obtain⟨al,z,d⟩:=Yq d;refine DS.v (x:=(.ptr 2 (toNat j*1))) (Qt z Z Ez EC) ?_ (hg:=(gT Z));refine DS.v (x:=(I al)) (Ex Z EE Z (Qn z)) ?_ (hg:=(gT Z));exact Ef Z (Cz [] d (k_az _ _ _ _) Z λaz aq d=>Go 4 Z (Cl d [0,1,2]))
    .exact D 10 Z (Ef Z (Go 5 Z (Cl d [0,1,2])))
  refine Gx 1 Z (Qc g (Cn Z f (λX f=>?_) (λX f=>?_)))
  .refine Gc 8 Z (Qv f ?_);obtain rfl:=Oj s f;exact Gx 1 Z (Qq (Gx 1 Z (Rt h 4 [])))
  exact Gc 8 Z (Qj f (Lr [0,1,2]))
 subst q;refine Gx 1 Z (Qc g (Gc 2 Z (Bd h λB e h=>?_)));refine Ct B [1,2] [3,5] (λB=>[(90,.bool B)]) Ze Zf ?_ (λenv H g=>?_)
 .refine G0 5 Z (Is 65 e Z (λY e=>?_) (λY e=>?_))
  .refine Go 4 Z (Bd e λba aa e=>Iz aa Z (Go 4 Z (Is 74 e Z (λab e=>?_) (λab e=>?_))))
   .exact Go 17 Z (Cl e [1,2])
   .refine Go 3 Z (Cb e (k_bg _ _ _) Z (lo (ls ln)) λbb ar e=>Go 3 Z (Is 81 e Z (λac e=>?_) (λac e=>?_)))
    .exact Go 10 Z (Cl e [1,2])
    .exact Go 5 Z (Cz [] e (k_az _ _ _ _) Z λbc au e=>Go 4 Z (Cl e [1,2]))
  .exact Go 26 Z (Cl e [1,2])
 refine Gx 1 Z (Qc g (Cn Z h (λad h=>?_) (λad h=>?_)))
 .exact Gc 7 Z (Rt h 4 [])
 refine Gc 8 Z (Bd h λam an h=>?_);refine Ji (b:=am) [] [] Ze Ze Zf ?_ (λav env H q g=>?_)
 .refine G0 1 Z ?_;refine Lp [0,1] [3,5] (λE=>[(9,I E)]) Ze an Zf (Lr [0,1]) λE aw a m=>?_;refine G0 6 Z (Lm Z (Go 3 Z (Yh Z a (λF a=>?_) (λF a=>?_))))
  .refine Gc 2 Z (Ql a ?_);obtain rfl:=Oj m a;exact Gx 1 Z (Qo Z (Lr []))
  refine Gc 5 Z (DSs 14 Z (D 4 Z ?_));obtain⟨k,G,a⟩:=Yq a;refine DS.wo (x:=.rp [I k.Mat,I k.Lap,I k.Limit]) ?_ ?_
  .exact Ix G Gq sizeOf215 Z Wp
  refine D 2 Z ?_;obtain⟨ae,J,a⟩:=Yq a;refine DS.wo (x:=I ae) ?_ ?_
  .refine QiS (OpC.fn call171 rfl rfl rfl) (Qbe.cons rfl (.inr ⟨_,_,_,_,_,rfl,rfl,XY ..,rfl⟩) (Qbe.cons rfl (.inl ⟨rfl,rfl⟩) Qbe.nil)) (k_bg _ _ _ _ J) (by rintro _ _ ⟨rfl,rfl⟩;rfl) ?_;rintro _ _ ⟨rfl,rfl⟩;exact FE Z Wp
  refine D 3 Z ?_;obtain⟨l,L,a⟩:=Yq a;refine DS.wo (x:=.rp [I l.Mat,I l.Lap,I l.Limit]) ?_ ?_
  .exact Ix L Gq sizeOf215 Z Wp
  refine D 2 Z (Ef Z (Go 3 Z (Cn Z a (λM a=>?_) (λM a=>?_))))
  .refine Gc 8 Z (Qv a ?_);obtain rfl:=Oj m a;exact Gx 1 Z (Qq (Gx 1 Z (Rt h 4 [])))
  exact Gc 8 Z (Qj a (Lr [0,1]))
 subst q;exact Gx 1 Z (Qc g (Gc 6 Z (Rt h 4 [])))
def F_ka(n:Nat)(d:Course)(a:Int):Option (Ctl Int (Ctl Unit Int)):=(bif decide (a<(d.Distances.length:Int))then(idx d.Distances a).bind λe=>(F_cd n d e).bind λf=>(bif (!f)then some (.done (.done 72))else some (.cont (i64.wrap (a+1))))else some (.done (.cont ())))
def F_ax(n:Nat)(a:Course):Option Int:=(F_dw n a).bind λg=>(bif (!g)then some 2 else(F_gz n a).bind λh=>(bif (!h)then some 70 else(F_di n a).bind λi=>(bif (!i)then some 71 else(F_gl n a.Ties).bind λe=>(bif (e != 0)then some e else(iter (F_ka n a) n 0:Option (Ctl Unit Int)).bind λf=>match f with|.cont d=>(some 0)|.done d=>some d))))
theorem k_ax(n:Nat)(k:Course):Ks (F_ax n k) 43 [.agg (Course.c k)] [] (λr=>I r):=by
 refine Kg 10 func43 Z Z Z Z λr h=>Cz [] h (k_dw _ _) Z λM B h=>Go 3 Z (Cn Z h (λl h=>?_) (λl h=>?_))
 .exact Gc 7 Z (Rt h 2 [])
 refine Gc 6 Z (Cz [] h (k_gz _ _) Z λN E h=>Go 3 Z (Cn Z h (λm h=>?_) (λm h=>?_)))
 .exact Gc 7 Z (Rt h 2 [])
 refine Gc 6 Z (Cz [] h (k_di _ _) Z λO F h=>Go 3 Z (Cn Z h (λp h=>?_) (λp h=>?_)))
 .exact Gc 7 Z (Rt h 2 [])
 refine Gc 6 Z (Cz [] h (k_gl _ _) Z λP G h=>Go 10 Z (Cn Z h (λq h=>?_) (λq h=>?_)))
 .exact Gc 8 Z (Rt h 2 [])
 refine Gc 8 Z (Bd h λs t h=>?_);refine Ji (b:=s) [] [] Ze Ze Zf ?_ (λy env H u w=>?_)
 .refine G0 1 Z ?_;refine Lp [0] [1] (λf=>[(4,I f)]) Ze t Zf (Lr [0]) λf J a e=>?_;refine G0 6 Z (Lm Z (Go 3 Z (Yh Z a (λg a=>?_) (λg a=>?_))))
  .refine Gc 2 Z (Ql a ?_);obtain rfl:=Oj e a;exact Gx 1 Z (Qo Z (Lr []))
  refine Gc 5 Z (DSs 6 Z (D 4 Z ?_));obtain⟨d,i,a⟩:=Yq a;refine DS.wo (x:=.rp [.str d.Name,.rsl 3 (map Part.enc d.Route),I d.Timing,.rsl 3 (map Cutoff.c d.Cutoffs),I d.Extra]) ?_ ?_
  .exact Ix i Gl GD Z Wp
  refine D 1 Z (Ef Z (Cz [] a (k_cd _ _ _) Z λL z a=>Go 3 Z (Cn Z a (λj a=>?_) (λj a=>?_))))
  .refine Gc 8 Z (Qv a ?_);obtain rfl:=Oj e a;exact Gx 1 Z (Qq (Gx 1 Z (Rt h 2 [])))
  exact Gc 8 Z (Qj a (Lr [0]))
 subst u;exact Gx 1 Z (Qc w (Gc 6 Z (Rt h 2 [])))
def F_b(n:Nat)(a:Int)(d:Int)(e:Int):Option Bool:=((bif decide (d<=a)then some (decide (a<=e))else some false):Option Bool).bind λb2=>some b2
theorem k_b(n:Nat)(d:Int)(e:Int)(f:Int):Ks (F_b n d e f) 174 [I d,I e,I f] [] (λr=>.bool r):=by
 refine Kg 6 func174 Z Z Z Z λr h=>Bd h λb2 a h=>?_;refine Ct b2 [] [] (λb2=>[(6,.bool b2)]) Ze Zf ?_ (λenv H g=>?_)
 .refine G0 5 Z (Is 10 a Z (λi a=>?_) (λi a=>?_))
  iterate 2 exact Go 6 Z (Cl a [])
 exact Gx 1 Z (Qc g (Gc 1 Z (Rt h 6 [])))
def F_al(n:Nat)(a:Int):Option Bool:=(F_b n a 0 31).bind λd=>some d
theorem Qlb(n:Nat)(a:Int):Ks (F_al n a) 172 [I a] [] (λr=>.bool r):=by
 exact Kg 8 func172 Z Z Z Z λr h=>Cz [] h (k_b _ _ _ _) Z λe d h=>Go 4 Z (Rt h 2 [])
def F_ar(n:Nat)(a:Int):Option Bool:=(F_b n a 1 1048576).bind λd=>some d
theorem Qmt(n:Nat)(a:Int):Ks (F_ar n a) 173 [I a] [] (λr=>.bool r):=by
 exact Kg 8 func173 Z Z Z Z λr h=>Cz [] h (k_b _ _ _ _) Z λe d h=>Go 4 Z (Rt h 2 [])
def F_e(n:Nat)(a:Int):Option Bool:=(F_b n a 1 9999).bind λd=>some d
theorem k_e(n:Nat)(a:Int):Ks (F_e n a) 230 [I a] [] (λr=>.bool r):=by
 exact Kg 8 func230 Z Z Z Z λr h=>Cz [] h (k_b _ _ _ _) Z λe d h=>Go 4 Z (Rt h 2 [])
def F_d(n:Nat)(a:Int):Option Bool:=(F_b n a (-1099511627776) 1099511627776).bind λd=>some d
theorem k_d(n:Nat)(a:Int):Ks (F_d n a) 228 [I a] [] (λr=>.bool r):=by
 exact Kg 8 func228 Z Z Z Z λr h=>Cz [] h (k_b _ _ _ _) Z λe d h=>Go 4 Z (Rt h 2 [])
def F_bn(n:Nat)(a:Int):Option Bool:=(F_b n a 0 1048576).bind λd=>some d
theorem k_bn(n:Nat)(a:Int):Ks (F_bn n a) 227 [I a] [] (λr=>.bool r):=by
 exact Kg 8 func227 Z Z Z Z λr h=>Cz [] h (k_b _ _ _ _) Z λe d h=>Go 4 Z (Rt h 2 [])
def F_fi(n:Nat)(a:Starter):Option Bool:=((F_e n a.Bib).bind λd=>(bif d then(F_b n a.Distance 0 7).bind λe=>(bif e then(F_b n a.Wave 0 31).bind λf=>(bif f then(F_d n a.Slot).bind λg=>(bif g then(F_b n a.Age 0 120).bind λh=>(bif h then(F_bn n a.Chip).bind λi=>(bif i then(F_b n a.Team 0 9999).bind λj=>(bif j then(F_b n a.Lot 0 1048576).bind λk=>some k else some false)else some false)else some false)else some false)else some false)else some false)else some false):Option Bool).bind λl=>some l
theorem k_fi(n:Nat)(m:Starter):Ks (F_fi n m) 224 [.agg (Starter.c m)] [] (λr=>.bool r):=by
 refine Kg 7 func224 Z Z Z Z λr h=>Bd h λd a h=>?_;refine Ct d [] [] (λd=>[(2,.bool d)]) Ze Zf ?_ (λenv H p=>?_)
 .refine G0 3 Z (Cz [] a (k_e _ _) Z λB q a=>Go 1 Z (Is 6 a Z (λe a=>?_) (λe a=>?_)))
  .refine Go 2 Z (Cz [] a (k_b _ _ _ _) Z λE s a=>Go 2 Z (Is 11 a Z (λf a=>?_) (λf a=>?_)))
   .refine Go 2 Z (Cz [] a (k_b _ _ _ _) Z λF t a=>Go 2 Z (Is 16 a Z (λg a=>?_) (λg a=>?_)))
    .refine Go 2 Z (Cz [] a (k_d _ _) Z λG u a=>Go 2 Z (Is 21 a Z (λi a=>?_) (λi a=>?_)))
     .refine Go 2 Z (Cz [] a (k_b _ _ _ _) Z λJ w a=>Go 2 Z (Is 26 a Z (λj a=>?_) (λj a=>?_)))
      .refine Go 2 Z (Cz [] a (k_bn _ _) Z λL x a=>Go 2 Z (Is 31 a Z (λk a=>?_) (λk a=>?_)))
       .refine Go 2 Z (Cz [] a (k_b _ _ _ _) Z λM y a=>Go 2 Z (Is 36 a Z (λl a=>?_) (λl a=>?_)))
        .exact Go 2 Z (Cz [] a (k_b _ _ _ _) Z λN z a=>Go 3 Z (Cl a []))
        .exact Go 6 Z (Cl a [])
       .exact Go 11 Z (Cl a [])
      .exact Go 16 Z (Cl a [])
     .exact Go 21 Z (Cl a [])
    .exact Go 26 Z (Cl a [])
   .exact Go 31 Z (Cl a [])
  .exact Go 36 Z (Cl a [])
 exact Gx 1 Z (Qc p (Gc 1 Z (Rt h 2 [])))
def F_t(n:Nat)(a:Int):Option Bool:=(F_b n a 0 39).bind λd=>some d
theorem k_t(n:Nat)(a:Int):Ks (F_t n a) 225 [I a] [] (λr=>.bool r):=by
 exact Kg 8 func225 Z Z Z Z λr h=>Cz [] h (k_b _ _ _ _) Z λe d h=>Go 4 Z (Rt h 2 [])
def F_z(n:Nat)(a:Int):Option Bool:=(F_b n a 0 255).bind λd=>some d
theorem k_z(n:Nat)(a:Int):Ks (F_z n a) 226 [I a] [] (λr=>.bool r):=by
 exact Kg 8 func226 Z Z Z Z λr h=>Cz [] h (k_b _ _ _ _) Z λe d h=>Go 4 Z (Rt h 2 [])
def F_es(n:Nat)(a:Sync):Option Bool:=((F_t n a.MatA).bind λd=>(bif d then(F_t n a.MatB).bind λe=>(bif e then(F_z n a.EpochA).bind λf=>(bif f then(F_z n a.EpochB).bind λg=>(bif g then(F_d n a.LocalA).bind λh=>(bif h then(F_d n a.LocalB).bind λi=>(bif i then(F_d n a.Min).bind λj=>(bif j then(F_d n a.Max).bind λk=>(bif k then some (decide (a.Min<=a.Max))else some false)else some false)else some false)else some false)else some false)else some false)else some false)else some false):Option Bool).bind λl=>some l
theorem k_es(n:Nat)(p:Sync):Ks (F_es n p) 229 [.agg (Sync.c p)] [] (λr=>.bool r):=by
 refine Kg 7 func229 Z Z Z Z λr h=>Bd h λd a h=>?_;refine Ct d [] [] (λd=>[(2,.bool d)]) Ze Zf ?_ (λenv H q=>?_)
 .refine G0 3 Z (Cz [] a (k_t _ _) Z λE s a=>Go 1 Z (Is 6 a Z (λe a=>?_) (λe a=>?_)))
  .refine Go 2 Z (Cz [] a (k_t _ _) Z λF t a=>Go 2 Z (Is 11 a Z (λf a=>?_) (λf a=>?_)))
   .refine Go 2 Z (Cz [] a (k_z _ _) Z λG u a=>Go 2 Z (Is 16 a Z (λg a=>?_) (λg a=>?_)))
    .refine Go 2 Z (Cz [] a (k_z _ _) Z λJ w a=>Go 2 Z (Is 21 a Z (λi a=>?_) (λi a=>?_)))
     .refine Go 2 Z (Cz [] a (k_d _ _) Z λL x a=>Go 2 Z (Is 26 a Z (λj a=>?_) (λj a=>?_)))
      .refine Go 2 Z (Cz [] a (k_d _ _) Z λM y a=>Go 2 Z (Is 31 a Z (λk a=>?_) (λk a=>?_)))
       .refine Go 2 Z (Cz [] a (k_d _ _) Z λN z a=>Go 2 Z (Is 36 a Z (λl a=>?_) (λl a=>?_)))
        .refine Go 2 Z (Cz [] a (k_d _ _) Z λO B a=>Go 2 Z (Is 41 a Z (λm a=>?_) (λm a=>?_)))
         iterate 2 exact Go 8 Z (Cl a [])
        .exact Go 13 Z (Cl a [])
       .exact Go 18 Z (Cl a [])
      .exact Go 23 Z (Cl a [])
     .exact Go 28 Z (Cl a [])
    .exact Go 33 Z (Cl a [])
   .exact Go 38 Z (Cl a [])
  .exact Go 43 Z (Cl a [])
 exact Gx 1 Z (Qc q (Gc 1 Z (Rt h 2 [])))
def F_y(n:Nat)(a:Int):Option Bool:=(F_b n a 0 255).bind λd=>some d
theorem k_y(n:Nat)(a:Int):Ks (F_y n a) 231 [I a] [] (λr=>.bool r):=by
 exact Kg 8 func231 Z Z Z Z λr h=>Cz [] h (k_b _ _ _ _) Z λe d h=>Go 4 Z (Rt h 2 [])
def F_ap(n:Nat)(a:Int):Option Bool:=(F_b n a 1 1048576).bind λd=>some d
theorem k_ap(n:Nat)(a:Int):Ks (F_ap n a) 232 [I a] [] (λr=>.bool r):=by
 exact Kg 8 func232 Z Z Z Z λr h=>Cz [] h (k_b _ _ _ _) Z λe d h=>Go 4 Z (Rt h 2 [])
def F_ga(n:Nat)(a:Ruling):Option Bool:=((F_ap n a.Case).bind λs=>(bif (!s)then some true else(F_b n a.Instance 1 2).bind λt=>some (!t)):Option Bool).bind λu=>(bif u then some false else((bif (a.Kind==1)then some (a.Kind==1)else some (a.Kind==2)):Option Bool).bind λd=>(bif d then((bif (a.Bib==0)then(bif (a.Position==0)then some (a.Amount==0)else some false)else some false):Option Bool).bind λe=>some e else(bif (a.Kind==3)then((F_e n a.Bib).bind λf=>(bif f then(F_y n a.Position).bind λg=>(bif g then(F_b n a.Amount 1 1099511627776).bind λh=>some h else some false)else some false):Option Bool).bind λi=>some i else(bif (a.Kind==4)then((F_e n a.Bib).bind λj=>(bif j then(F_y n a.Position).bind λk=>(bif k then(F_b n a.Amount 1 64).bind λl=>some l else some false)else some false):Option Bool).bind λm=>some m else(bif (a.Kind==5)then((F_e n a.Bib).bind λp=>(bif p then(F_y n a.Position).bind λq=>(bif q then some (a.Amount==0)else some false)else some false):Option Bool).bind λr=>some r else some false)))))
theorem k_ga(n:Nat)(N:Ruling):Ks (F_ga n N) 233 [.agg (Ruling.c N)] [] (λr=>.bool r):=by
 refine Kg 8 func233 Z Z Z Z λr h=>Bd h λs i h=>?_;refine Ct s [0] [1] (λs=>[(12,.bool s)]) Ze Zf ?_ (λenv H f=>?_)
 .refine G0 3 Z (Cz [] i (k_ap _ _) Z λr6 ab i=>Go 2 Z (Is 7 i Z (λO i=>?_) (λO i=>?_)))
  .exact Go 6 Z (Cl i [0])
  .exact Go 2 Z (Cz [] i (k_b _ _ _ _) Z λr8 ac i=>Go 3 Z (Cl i [0]))
 refine Gx 1 Z (Qc f (Cn Z h (λP h=>?_) (λP h=>?_)))
 .exact Gc 7 Z (Rt h 2 [])
 refine Gc 17 Z (Bd h λk j h=>?_);refine Ct k [0] [1,14] (λk=>[(15,.bool k)]) Ze Zf ?_ (λenv H f=>?_)
 .refine G0 0 Z (Cn Z j (λt j=>?_) (λt j=>?_))
  .exact Gc 1 Z (Cl j [0])
  exact Gc 4 Z (Cl j [0])
 refine Gx 1 Z (Qc f (Cn Z h (λu h=>?_) (λu h=>?_)))
 .refine Gc 1 Z (Bd h λl g h=>?_);refine Ct l [] [] (λl=>[(2,.bool l)]) Ze Zf ?_ (λenv H f=>?_)
  .refine G0 5 Z (Is 21 g Z (λw g=>?_) (λw g=>?_))
   .refine Go 5 Z (Is 26 g Z (λx g=>?_) (λx g=>?_))
    iterate 2 exact Go 6 Z (Cl g [])
   .exact Go 11 Z (Cl g [])
  exact Gx 1 Z (Qc f (Gc 3 Z (Rt h 2 [])))
 refine Gc 6 Z (Cn Z h (λy h=>?_) (λy h=>?_))
 .refine Gc 1 Z (Bd h λm a h=>?_);refine Ct m [] [] (λm=>[(2,.bool m)]) Ze Zf ?_ (λenv H f=>?_)
  .refine G0 3 Z (Cz [] a (k_e _ _) Z λad Q a=>Go 1 Z (Is 36 a Z (λz a=>?_) (λz a=>?_)))
   .refine Go 2 Z (Cz [] a (k_y _ _) Z λae R a=>Go 2 Z (Is 41 a Z (λB a=>?_) (λB a=>?_)))
    .exact Go 2 Z (Cz [] a (k_b _ _ _ _) Z λaf T a=>Go 3 Z (Cl a []))
    .exact Go 6 Z (Cl a [])
   .exact Go 11 Z (Cl a [])
  exact Gx 1 Z (Qc f (Gc 3 Z (Rt h 2 [])))
 refine Gc 6 Z (Cn Z h (λE h=>?_) (λE h=>?_))
 .refine Gc 1 Z (Bd h λp d h=>?_);refine Ct p [] [] (λp=>[(2,.bool p)]) Ze Zf ?_ (λenv H f=>?_)
  .refine G0 3 Z (Cz [] d (k_e _ _) Z λag V d=>Go 1 Z (Is 51 d Z (λF d=>?_) (λF d=>?_)))
   .refine Go 2 Z (Cz [] d (k_y _ _) Z λah W d=>Go 2 Z (Is 56 d Z (λG d=>?_) (λG d=>?_)))
    .exact Go 2 Z (Cz [] d (k_b _ _ _ _) Z λai X d=>Go 3 Z (Cl d []))
    .exact Go 6 Z (Cl d [])
   .exact Go 11 Z (Cl d [])
  exact Gx 1 Z (Qc f (Gc 3 Z (Rt h 2 [])))
 refine Gc 6 Z (Cn Z h (λJ h=>?_) (λJ h=>?_))
 .refine Gc 1 Z (Bd h λq e h=>?_);refine Ct q [] [] (λq=>[(2,.bool q)]) Ze Zf ?_ (λenv H f=>?_)
  .refine G0 3 Z (Cz [] e (k_e _ _) Z λaj Y e=>Go 1 Z (Is 66 e Z (λL e=>?_) (λL e=>?_)))
   .refine Go 2 Z (Cz [] e (k_y _ _) Z λak aa e=>Go 2 Z (Is 71 e Z (λM e=>?_) (λM e=>?_)))
    iterate 2 exact Go 6 Z (Cl e [])
   .exact Go 11 Z (Cl e [])
  exact Gx 1 Z (Qc f (Gc 3 Z (Rt h 2 [])))
 exact Gc 9 Z (Rt h 2 [])
def F_bw(n:Nat)(a:Fact):Option Bool:=(bif (a.Kind==1)then(F_fi n a.Starter).bind λr2=>some r2 else(bif (a.Kind==2)then((F_t n a.Read.Mat).bind λu=>(bif u then(F_z n a.Read.Epoch).bind λw=>(bif w then(F_bn n a.Read.Chip).bind λx=>(bif x then(F_d n a.Read.Local).bind λy=>some y else some false)else some false)else some false):Option Bool).bind λz=>some z else(bif (a.Kind==3)then((F_t n a.Beacon.Mat).bind λE=>(bif E then(F_z n a.Beacon.Epoch).bind λF=>(bif F then(F_d n a.Beacon.Local).bind λG=>(bif G then(F_d n a.Beacon.True).bind λH=>(bif H then(F_b n a.Beacon.Err 0 1099511627776).bind λJ=>some J else some false)else some false)else some false)else some false):Option Bool).bind λL=>some L else(bif (a.Kind==4)then(F_es n a.Sync).bind λM=>some M else(bif (a.Kind==5)then((F_e n a.Hand.Bib).bind λN=>(bif N then(F_y n a.Hand.Position).bind λO=>(bif O then(F_d n a.Hand.Lo).bind λP=>(bif P then(F_d n a.Hand.Hi).bind λQ=>(bif Q then some (decide (a.Hand.Lo<=a.Hand.Hi))else some false)else some false)else some false)else some false):Option Bool).bind λR=>some R else(bif (a.Kind==6)then((F_t n a.Silence.Mat).bind λT=>(bif T then(F_z n a.Silence.Epoch).bind λV=>(bif V then(F_d n a.Silence.Lo).bind λW=>(bif W then(F_d n a.Silence.Hi).bind λX=>(bif X then some (decide (a.Silence.Lo<=a.Silence.Hi))else some false)else some false)else some false)else some false):Option Bool).bind λY=>some Y else(bif (a.Kind==7)then((F_e n a.Pair.A).bind λaa=>(bif aa then(F_e n a.Pair.B).bind λab=>(bif ab then some (decide (a.Pair.A<a.Pair.B))else some false)else some false):Option Bool).bind λac=>some ac else(bif (a.Kind==8)then((F_ap n a.Report.Case).bind λd=>(bif d then(F_e n a.Report.Bib).bind λe=>(bif e then(F_b n a.Report.Offence 0 31).bind λf=>(bif f then(F_y n a.Report.Position).bind λg=>some g else some false)else some false)else some false):Option Bool).bind λh=>some h else(bif (a.Kind==9)then((F_ap n a.Protest.Case).bind λi=>(bif i then(F_b n a.Protest.By 0 9999).bind λj=>(bif j then(F_b n a.Protest.Fee 0 1125899906842624).bind λk=>(bif k then(F_b n a.Protest.Form 0 1).bind λl=>some l else some false)else some false)else some false):Option Bool).bind λm=>some m else(bif (a.Kind==10)then(F_ga n a.Ruling).bind λp=>some p else(bif (a.Kind==11)then(F_ap n a.Appeal.Case).bind λq=>some q else(bif (a.Kind==12)then some true else(bif (a.Kind==13)then((F_al n a.Void.Crew).bind λr=>(bif r then(F_ar n a.Void.No).bind λs=>some s else some false):Option Bool).bind λt=>some t else some false)))))))))))))
theorem k_bw(n:Nat)(a1:Fact):Ks (F_bw n a1) 175 [.agg (Fact.c a1)] [] (λr=>.bool r):=by
 refine Kg 20 func175 Z Z Z Z λr h=>Cn Z h (λar h=>?_) (λar h=>?_)
 .exact Gc 4 Z (Cz [] h (k_fi _ _) Z λr2 co h=>Go 6 Z (Rt h 2 []))
 refine Gc 6 Z (Cn Z h (λau h=>?_) (λau h=>?_))
 .refine Gc 1 Z (Bd h λs i h=>?_);refine Ct s [] [] (λs=>[(2,.bool s)]) Ze Zf ?_ (λenv H j=>?_)
  .refine G0 4 Z (Cz [] i (k_t _ _) Z λcp bh i=>Go 1 Z (Is 16 i Z (λQ i=>?_) (λQ i=>?_)))
   .refine Go 3 Z (Cz [] i (k_z _ _) Z λcq bi i=>Go 2 Z (Is 22 i Z (λR i=>?_) (λR i=>?_)))
    .refine Go 3 Z (Cz [] i (k_bn _ _) Z λcr bj i=>Go 2 Z (Is 28 i Z (λT i=>?_) (λT i=>?_)))
     .exact Go 3 Z (Cz [] i (k_d _ _) Z λcs bk i=>Go 3 Z (Cl i []))
     .exact Go 7 Z (Cl i [])
    .exact Go 13 Z (Cl i [])
   .exact Go 19 Z (Cl i [])
  exact Gx 1 Z (Qc j (Gc 3 Z (Rt h 2 [])))
 refine Gc 6 Z (Cn Z h (λV h=>?_) (λV h=>?_))
 .refine Gc 1 Z (Bd h λt e h=>?_);refine Ct t [] [] (λt=>[(2,.bool t)]) Ze Zf ?_ (λenv H j=>?_)
  .refine G0 4 Z (Cz [] e (k_t _ _) Z λct bl e=>Go 1 Z (Is 40 e Z (λW e=>?_) (λW e=>?_)))
   .refine Go 3 Z (Cz [] e (k_z _ _) Z λcu bm e=>Go 2 Z (Is 46 e Z (λX e=>?_) (λX e=>?_)))
    .refine Go 3 Z (Cz [] e (k_d _ _) Z λcv bn e=>Go 2 Z (Is 52 e Z (λY e=>?_) (λY e=>?_)))
     .refine Go 3 Z (Cz [] e (k_d _ _) Z λcw bo e=>Go 2 Z (Is 58 e Z (λaa e=>?_) (λaa e=>?_)))
      .exact Go 3 Z (Cz [] e (k_b _ _ _ _) Z λcx bp e=>Go 3 Z (Cl e []))
      .exact Go 7 Z (Cl e [])
     .exact Go 13 Z (Cl e [])
    .exact Go 19 Z (Cl e [])
   .exact Go 25 Z (Cl e [])
  exact Gx 1 Z (Qc j (Gc 3 Z (Rt h 2 [])))
 refine Gc 6 Z (Cn Z h (λab h=>?_) (λab h=>?_))
 .exact Gc 4 Z (Cz [] h (k_es _ _) Z λcy bq h=>Go 6 Z (Rt h 2 []))
 refine Gc 6 Z (Cn Z h (λac h=>?_) (λac h=>?_))
 .refine Gc 1 Z (Bd h λu f h=>?_);refine Ct u [] [] (λu=>[(2,.bool u)]) Ze Zf ?_ (λenv H j=>?_)
  .refine G0 4 Z (Cz [] f (k_e _ _) Z λcz br f=>Go 1 Z (Is 75 f Z (λad f=>?_) (λad f=>?_)))
   .refine Go 3 Z (Cz [] f (k_y _ _) Z λda bs f=>Go 2 Z (Is 81 f Z (λae f=>?_) (λae f=>?_)))
    .refine Go 3 Z (Cz [] f (k_d _ _) Z λdb bt f=>Go 2 Z (Is 87 f Z (λaf f=>?_) (λaf f=>?_)))
     .refine Go 3 Z (Cz [] f (k_d _ _) Z λdc bu f=>Go 2 Z (Is 93 f Z (λag f=>?_) (λag f=>?_)))
      iterate 2 exact Go 10 Z (Cl f [])
     .exact Go 16 Z (Cl f [])
    .exact Go 22 Z (Cl f [])
   .exact Go 28 Z (Cl f [])
  exact Gx 1 Z (Qc j (Gc 3 Z (Rt h 2 [])))
 refine Gc 6 Z (Cn Z h (λah h=>?_) (λah h=>?_))
 .refine Gc 1 Z (Bd h λw g h=>?_);refine Ct w [] [] (λw=>[(2,.bool w)]) Ze Zf ?_ (λenv H j=>?_)
  .refine G0 4 Z (Cz [] g (k_t _ _) Z λde bv g=>Go 1 Z (Is 108 g Z (λai g=>?_) (λai g=>?_)))
   .refine Go 3 Z (Cz [] g (k_z _ _) Z λdf bw g=>Go 2 Z (Is 114 g Z (λaj g=>?_) (λaj g=>?_)))
    .refine Go 3 Z (Cz [] g (k_d _ _) Z λdg bx g=>Go 2 Z (Is 120 g Z (λak g=>?_) (λak g=>?_)))
     .refine Go 3 Z (Cz [] g (k_d _ _) Z λdh bz g=>Go 2 Z (Is 126 g Z (λal g=>?_) (λal g=>?_)))
      iterate 2 exact Go 10 Z (Cl g [])
     .exact Go 16 Z (Cl g [])
    .exact Go 22 Z (Cl g [])
   .exact Go 28 Z (Cl g [])
  exact Gx 1 Z (Qc j (Gc 3 Z (Rt h 2 [])))
 refine Gc 6 Z (Cn Z h (λam h=>?_) (λam h=>?_))
 .refine Gc 1 Z (Bd h λx k h=>?_);refine Ct x [] [] (λx=>[(2,.bool x)]) Ze Zf ?_ (λenv H j=>?_)
  .refine G0 4 Z (Cz [] k (k_e _ _) Z λdi ca k=>Go 1 Z (Is 141 k Z (λan k=>?_) (λan k=>?_)))
   .refine Go 3 Z (Cz [] k (k_e _ _) Z λdj cb k=>Go 2 Z (Is 147 k Z (λao k=>?_) (λao k=>?_)))
    iterate 2 exact Go 10 Z (Cl k [])
   .exact Go 16 Z (Cl k [])
  exact Gx 1 Z (Qc j (Gc 3 Z (Rt h 2 [])))
 refine Gc 6 Z (Cn Z h (λaq h=>?_) (λaq h=>?_))
 .refine Gc 1 Z (Bd h λm a h=>?_);refine Ct m [] [] (λm=>[(2,.bool m)]) Ze Zf ?_ (λenv H j=>?_)
  .refine G0 4 Z (Cz [] a (k_ap _ _) Z λcc av a=>Go 1 Z (Is 162 a Z (λy a=>?_) (λy a=>?_)))
   .refine Go 3 Z (Cz [] a (k_e _ _) Z λcd aw a=>Go 2 Z (Is 168 a Z (λz a=>?_) (λz a=>?_)))
    .refine Go 3 Z (Cz [] a (k_b _ _ _ _) Z λce ax a=>Go 2 Z (Is 174 a Z (λB a=>?_) (λB a=>?_)))
     .exact Go 3 Z (Cz [] a (k_y _ _) Z λcf ay a=>Go 3 Z (Cl a []))
     .exact Go 7 Z (Cl a [])
    .exact Go 13 Z (Cl a [])
   .exact Go 19 Z (Cl a [])
  exact Gx 1 Z (Qc j (Gc 3 Z (Rt h 2 [])))
 refine Gc 6 Z (Cn Z h (λE h=>?_) (λE h=>?_))
 .refine Gc 1 Z (Bd h λp d h=>?_);refine Ct p [] [] (λp=>[(2,.bool p)]) Ze Zf ?_ (λenv H j=>?_)
  .refine G0 4 Z (Cz [] d (k_ap _ _) Z λcg az d=>Go 1 Z (Is 186 d Z (λF d=>?_) (λF d=>?_)))
   .refine Go 3 Z (Cz [] d (k_b _ _ _ _) Z λch ba d=>Go 2 Z (Is 192 d Z (λG d=>?_) (λG d=>?_)))
    .refine Go 3 Z (Cz [] d (k_b _ _ _ _) Z λci bb d=>Go 2 Z (Is 198 d Z (λJ d=>?_) (λJ d=>?_)))
     .exact Go 3 Z (Cz [] d (k_b _ _ _ _) Z λcj bc d=>Go 3 Z (Cl d []))
     .exact Go 7 Z (Cl d [])
    .exact Go 13 Z (Cl d [])
   .exact Go 19 Z (Cl d [])
  exact Gx 1 Z (Qc j (Gc 3 Z (Rt h 2 [])))
 refine Gc 6 Z (Cn Z h (λL h=>?_) (λL h=>?_))
 .exact Gc 4 Z (Cz [] h (k_ga _ _) Z λck bd h=>Go 6 Z (Rt h 2 []))
 refine Gc 6 Z (Cn Z h (λM h=>?_) (λM h=>?_))
 .exact Gc 5 Z (Cz [] h (k_ap _ _) Z λcl be h=>Go 6 Z (Rt h 2 []))
 refine Gc 6 Z (Cn Z h (λN h=>?_) (λN h=>?_))
 .exact Gc 8 Z (Rt h 2 [])
 refine Gc 6 Z (Cn Z h (λO h=>?_) (λO h=>?_))
 .refine Gc 1 Z (Bd h λq l h=>?_);refine Ct q [] [] (λq=>[(2,.bool q)]) Ze Zf ?_ (λenv H j=>?_)
  .refine G0 4 Z (Cz [] l (Qlb _ _) Z λcm bf l=>Go 1 Z (Is 223 l Z (λP l=>?_) (λP l=>?_)))
   .exact Go 3 Z (Cz [] l (Qmt _ _) Z λcn bg l=>Go 3 Z (Cl l []))
   .exact Go 7 Z (Cl l [])
  exact Gx 1 Z (Qc j (Gc 3 Z (Rt h 2 [])))
 exact Gc 9 Z (Rt h 2 [])
def F_cl(n:Nat)(a:Fact):Option Fact:=((bif (a.Kind==1)then some ({Ul with Crew:=a.Crew,No:=a.No,At:=a.At,Kind:=a.Kind,Starter:=a.Starter:Fact})else(bif (a.Kind==2)then some ({Ul with Crew:=a.Crew,No:=a.No,At:=a.At,Kind:=a.Kind,Read:=a.Read:Fact})else(bif (a.Kind==3)then some ({Ul with Crew:=a.Crew,No:=a.No,At:=a.At,Kind:=a.Kind,Beacon:=a.Beacon:Fact})else(bif (a.Kind==4)then some ({Ul with Crew:=a.Crew,No:=a.No,At:=a.At,Kind:=a.Kind,Sync:=a.Sync:Fact})else(bif (a.Kind==5)then some ({Ul with Crew:=a.Crew,No:=a.No,At:=a.At,Kind:=a.Kind,Hand:=a.Hand:Fact})else(bif (a.Kind==6)then some ({Ul with Crew:=a.Crew,No:=a.No,At:=a.At,Kind:=a.Kind,Silence:=a.Silence:Fact})else(bif (a.Kind==7)then some ({Ul with Crew:=a.Crew,No:=a.No,At:=a.At,Kind:=a.Kind,Pair:=a.Pair:Fact})else(bif (a.Kind==8)then some ({Ul with Crew:=a.Crew,No:=a.No,At:=a.At,Kind:=a.Kind,Report:=a.Report:Fact})else(bif (a.Kind==9)then some ({Ul with Crew:=a.Crew,No:=a.No,At:=a.At,Kind:=a.Kind,Protest:=a.Protest:Fact})else(bif (a.Kind==10)then some ({Ul with Crew:=a.Crew,No:=a.No,At:=a.At,Kind:=a.Kind,Ruling:=a.Ruling:Fact})else(bif (a.Kind==11)then some ({Ul with Crew:=a.Crew,No:=a.No,At:=a.At,Kind:=a.Kind,Appeal:=a.Appeal:Fact})else(bif (a.Kind==13)then some ({Ul with Crew:=a.Crew,No:=a.No,At:=a.At,Kind:=a.Kind,Void:=a.Void:Fact})else some ({Ul with Crew:=a.Crew,No:=a.No,At:=a.At,Kind:=a.Kind:Fact}))))))))))))):Option Fact).bind λd=>some d
theorem k_cl(n:Nat)(u:Fact):Kq (F_cl n u) 176 [.agg (Fact.c u)] [] (λr=>.agg (Fact.c r)) (λr=>[.cells 96 (Fact.c r)]):=by
 refine Kg 35 func176 Z Z Z Z λr h=>Bd h λd a h=>?_;refine Ct d [1,2] [2,3] Ze (λd=>[(1,.cells 96 (Fact.c d))]) Zf ?_ (λenv H w=>?_)
 .refine G0 0 Z (Cn Z a (λe a=>?_) (λe a=>?_))
  .exact Gc 6 Z (Cl a [1,2])
  refine Gc 6 Z (Cn Z a (λf a=>?_) (λf a=>?_))
  .exact Gc 6 Z (Cl a [1,2])
  refine Gc 6 Z (Cn Z a (λg a=>?_) (λg a=>?_))
  .exact Gc 6 Z (Cl a [1,2])
  refine Gc 6 Z (Cn Z a (λi a=>?_) (λi a=>?_))
  .exact Gc 6 Z (Cl a [1,2])
  refine Gc 6 Z (Cn Z a (λj a=>?_) (λj a=>?_))
  .exact Gc 6 Z (Cl a [1,2])
  refine Gc 6 Z (Cn Z a (λk a=>?_) (λk a=>?_))
  .exact Gc 6 Z (Cl a [1,2])
  refine Gc 6 Z (Cn Z a (λl a=>?_) (λl a=>?_))
  .exact Gc 6 Z (Cl a [1,2])
  refine Gc 6 Z (Cn Z a (λm a=>?_) (λm a=>?_))
  .exact Gc 6 Z (Cl a [1,2])
  refine Gc 6 Z (Cn Z a (λp a=>?_) (λp a=>?_))
  .exact Gc 6 Z (Cl a [1,2])
  refine Gc 6 Z (Cn Z a (λq a=>?_) (λq a=>?_))
  .exact Gc 6 Z (Cl a [1,2])
  refine Gc 6 Z (Cn Z a (λs a=>?_) (λs a=>?_))
  .exact Gc 6 Z (Cl a [1,2])
  refine Gc 6 Z (Cn Z a (λt a=>?_) (λt a=>?_))
  .exact Gc 6 Z (Cl a [1,2])
  exact Gc 1 Z (Cl a [1,2])
 refine Gx 2 Z (Qc w (Gc 7 Z ?_));obtain rfl:=Oi h;exact Rx [0] [2] Z (Yg Z (Qg EO EB Z Z Z)) ⟨Z,Z⟩
def F_bl(n:Nat)(a:Fact):Option Int:=((F_al n a.Crew).bind λd=>(bif (!d)then some true else(F_ar n a.No).bind λe=>(bif (!e)then some true else(F_b n a.At 0 1099511627776).bind λf=>(bif (!f)then some true else(F_bw n a).bind λg=>(bif (!g)then some true else(F_cl n a).bind λh=>some (a != h))))):Option Bool).bind λi=>(bif i then some 120 else some 0)
theorem k_bl(n:Nat)(f:Fact):Ks (F_bl n f) 92 [.agg (Fact.c f)] [] (λr=>I r):=by
 refine Kg 8 func92 Z Z Z Z λr h=>Bd h λx e h=>?_;refine Ct x [] [] (λx=>[(29,.bool x)]) Ze Zf ?_ (λenv H E=>?_)
 .refine G0 0 Z ?_;obtain⟨k,s,e⟩:=Yq e;refine If e (λa e=>?_) (λa e=>?_)
  .refine TC.draw0 25 [3,4,5,6,7,8,9,10,11,12,13,14,15,16,17,18,19,20,21,22,23,24,25,26,27] [.ptr 0 0,I f.Crew,.bool k,.bool (!k),.bool (!k),.tup [],.tup [],.tup [],.tup [],.bool true,.bool true,.tup [],.tup [],.tup [],.tup [],.bool true,.bool true,.tup [],.tup [],.tup [],.bool true,.bool true,.tup [],.tup [],.tup []] draws Z Z Z ?_ ?_
   .refine ov (ov (Oq.c ?_ (Oq.c ?_ (ov (Oq.c ?_ (Oq.c ?_ (Oq.c ?_ (Oq.c ?_ (Oq.c ?_ (ov (Oq.c ?_ (Oq.c ?_ (Oq.c ?_ (Oq.c ?_ (Oq.c ?_ (ov (Oq.c ?_ (Oq.c ?_ (Oq.c ?_ (Oq.c ?_ (ov (Oq.c ?_ (Oq.c ?_ (Oq.c ?_ (Oq.n)))))))))))))))))))))))))
    .refine Om Z (sD 1 sN) ?_;exact Pc [] Z (OpC.fn call172 Z Z Z) (Qlb _ _ _ s) Z Wp
    .refine Om Z (sD 2 sN) ?_;exact S Z Wp
    .refine Om Z (sO 1 (sD 4 sN)) ?_;exact K (gF a) Z Wp
    .refine Om Z (sD 4 (sD 5 sN)) ?_;exact K (gF a) Z Wp
    .refine Om Z (sD 4 (sD 6 sN)) ?_;exact K (gF a) Z Wp
    .refine Om Z (sD 4 (sD 7 sN)) ?_;exact K (gF a) Z Wp
    .refine Om Z (sD 4 (sD 8 sN)) ?_;exact Pk a Z Wp
    .refine Om Z (sO 1 (sD 10 sN)) ?_;exact K (gF Z) Z Wp
    .refine Om Z (sD 10 (sD 11 sN)) ?_;exact K (gF Z) Z Wp
    .refine Om Z (sD 10 (sD 12 sN)) ?_;exact K (gF Z) Z Wp
    .refine Om Z (sD 10 (sD 13 sN)) ?_;exact K (gF Z) Z Wp
    .refine Om Z (sD 10 (sD 14 sN)) ?_;exact S Z Wp
    .refine Om Z (sO 1 (sD 16 sN)) ?_;exact K (gF Z) Z Wp
    .refine Om Z (sD 16 (sD 17 sN)) ?_;exact K (gF Z) Z Wp
    .refine Om Z (sD 16 (sD 18 sN)) ?_;exact K (gF Z) Z Wp
    .refine Om Z (sD 16 (sD 19 sN)) ?_;exact S Z Wp
    iterate 2 refine Om Z (sO 1 (sD 21 sN)) ?_;exact K (gF Z) Z Wp
    .refine Om Z (sD 21 (sD 23 sN)) ?_;exact K (gF Z) Z Wp
   exact Go 3 Z (Cl e [])
  .obtain⟨j,t,e⟩:=Yq e;refine If e (λd e=>?_) (λd e=>?_)
   .refine TC.draw0 25 [3,4,5,6,7,8,9,10,11,12,13,14,15,16,17,18,19,20,21,22,23,24,25,26,27] [.ptr 0 0,I f.Crew,.bool k,.bool (!k),.bool (!k),.ptr 0 1,I f.No,.bool j,.bool (!j),.bool (!j),.bool (!j),.tup [],.tup [],.tup [],.tup [],.bool true,.bool true,.tup [],.tup [],.tup [],.bool true,.bool true,.tup [],.tup [],.tup []] draws Z Z Z ?_ ?_
    .refine ov (ov (Oq.c ?_ (Oq.c ?_ (ov (Oq.c ?_ (Oq.c ?_ (Oq.c ?_ (Oq.c ?_ (Oq.c ?_ (ov (Oq.c ?_ (Oq.c ?_ (Oq.c ?_ (Oq.c ?_ (Oq.c ?_ (ov (Oq.c ?_ (Oq.c ?_ (Oq.c ?_ (Oq.c ?_ (ov (Oq.c ?_ (Oq.c ?_ (Oq.c ?_ (Oq.n)))))))))))))))))))))))))
     .refine Om Z (sD 1 sN) ?_;exact Pc [] Z (OpC.fn call172 Z Z Z) (Qlb _ _ _ s) Z Wp
     .refine Om Z (sD 2 sN) ?_;exact S Z Wp
     .refine Om Z (sO 1 (sD 4 sN)) ?_;exact Fpg (gT a) QeB Z Wp
     .refine Om Z (sD 4 (sD 5 sN)) ?_;exact Ldg (gT a) EE Z Wp
     .refine Om Z (sD 4 (sD 6 sN)) ?_;exact Pc [] Z (OpC.fn call173 Z Z Z) (Qmt _ _ _ t) (hg:=(gT a)) Z Wp
     .refine Om Z (sD 4 (sD 7 sN)) ?_;exact Sg (gT a) Z Wp
     .refine Om Z (sD 4 (sD 8 sN)) ?_;exact Pk a Z Wp
     .refine Om Z (sO 1 (sD 10 sN)) ?_;exact K (gF d) Z Wp
     .refine Om Z (sD 10 (sD 11 sN)) ?_;exact K (gF d) Z Wp
     .refine Om Z (sD 10 (sD 12 sN)) ?_;exact K (gF d) Z Wp
     .refine Om Z (sD 10 (sD 13 sN)) ?_;exact K (gF d) Z Wp
     .refine Om Z (sD 10 (sD 14 sN)) ?_;exact Pk d Z Wp
     .refine Om Z (sO 1 (sD 16 sN)) ?_;exact K (gF Z) Z Wp
     .refine Om Z (sD 16 (sD 17 sN)) ?_;exact K (gF Z) Z Wp
     .refine Om Z (sD 16 (sD 18 sN)) ?_;exact K (gF Z) Z Wp
     .refine Om Z (sD 16 (sD 19 sN)) ?_;exact S Z Wp
     iterate 2 refine Om Z (sO 1 (sD 21 sN)) ?_;exact K (gF Z) Z Wp
     .refine Om Z (sD 21 (sD 23 sN)) ?_;exact K (gF Z) Z Wp
    exact Go 3 Z (Cl e [])
   .obtain⟨l,w,e⟩:=Yq e;refine If e (λg e=>?_) (λg e=>?_)
    .refine TC.draw0 25 [3,4,5,6,7,8,9,10,11,12,13,14,15,16,17,18,19,20,21,22,23,24,25,26,27] [.ptr 0 0,I f.Crew,.bool k,.bool (!k),.bool (!k),.ptr 0 1,I f.No,.bool j,.bool (!j),.bool (!j),.bool (!j),.ptr 0 2,I f.At,.bool l,.bool (!l),.bool (!l),.bool (!l),.tup [],.tup [],.tup [],.bool true,.bool true,.tup [],.tup [],.tup []] draws Z Z Z ?_ ?_
     .refine ov (ov (Oq.c ?_ (Oq.c ?_ (ov (Oq.c ?_ (Oq.c ?_ (Oq.c ?_ (Oq.c ?_ (Oq.c ?_ (ov (Oq.c ?_ (Oq.c ?_ (Oq.c ?_ (Oq.c ?_ (Oq.c ?_ (ov (Oq.c ?_ (Oq.c ?_ (Oq.c ?_ (Oq.c ?_ (ov (Oq.c ?_ (Oq.c ?_ (Oq.c ?_ (Oq.n)))))))))))))))))))))))))
      .refine Om Z (sD 1 sN) ?_;exact Pc [] Z (OpC.fn call172 Z Z Z) (Qlb _ _ _ s) Z Wp
      .refine Om Z (sD 2 sN) ?_;exact S Z Wp
      .refine Om Z (sO 1 (sD 4 sN)) ?_;exact Fpg (gT a) QeB Z Wp
      .refine Om Z (sD 4 (sD 5 sN)) ?_;exact Ldg (gT a) EE Z Wp
      .refine Om Z (sD 4 (sD 6 sN)) ?_;exact Pc [] Z (OpC.fn call173 Z Z Z) (Qmt _ _ _ t) (hg:=(gT a)) Z Wp
      .refine Om Z (sD 4 (sD 7 sN)) ?_;exact Sg (gT a) Z Wp
      .refine Om Z (sD 4 (sD 8 sN)) ?_;exact Pk a Z Wp
      .refine Om Z (sO 1 (sD 10 sN)) ?_;exact Fpg (gT d) Qhj Z Wp
      .refine Om Z (sD 10 (sD 11 sN)) ?_;exact Ldg (gT d) EE Z Wp
      .refine Om Z (sD 10 (sD 12 sN)) ?_;exact Pc [] Z (OpC.fn call174 Z Z Z) (k_b _ _ _ _ _ w) (hg:=(gT d)) Z Wp
      .refine Om Z (sD 10 (sD 13 sN)) ?_;exact Sg (gT d) Z Wp
      .refine Om Z (sD 10 (sD 14 sN)) ?_;exact Pk d Z Wp
      .refine Om Z (sO 1 (sD 16 sN)) ?_;exact K (gF g) Z Wp
      .refine Om Z (sD 16 (sD 17 sN)) ?_;exact K (gF g) Z Wp
      .refine Om Z (sD 16 (sD 18 sN)) ?_;exact K (gF g) Z Wp
      .refine Om Z (sD 16 (sD 19 sN)) ?_;exact Pk g Z Wp
      iterate 2 refine Om Z (sO 1 (sD 21 sN)) ?_;exact K (gF Z) Z Wp
      .refine Om Z (sD 21 (sD 23 sN)) ?_;exact K (gF Z) Z Wp
     exact Go 3 Z (Cl e [])
    .obtain⟨m,y,e⟩:=Yq e;refine If e (λi e=>?_) (λi e=>?_)
     .refine TC.draw0 25 [3,4,5,6,7,8,9,10,11,12,13,14,15,16,17,18,19,20,21,22,23,24,25,26,27] [.ptr 0 0,I f.Crew,.bool k,.bool (!k),.bool (!k),.ptr 0 1,I f.No,.bool j,.bool (!j),.bool (!j),.bool (!j),.ptr 0 2,I f.At,.bool l,.bool (!l),.bool (!l),.bool (!l),.agg (Fact.c f),.bool m,.bool (!m),.bool (!m),.bool (!m),.tup [],.tup [],.tup []] draws Z Z Z ?_ ?_
      .refine ov (ov (Oq.c ?_ (Oq.c ?_ (ov (Oq.c ?_ (Oq.c ?_ (Oq.c ?_ (Oq.c ?_ (Oq.c ?_ (ov (Oq.c ?_ (Oq.c ?_ (Oq.c ?_ (Oq.c ?_ (Oq.c ?_ (ov (Oq.c ?_ (Oq.c ?_ (Oq.c ?_ (Oq.c ?_ (ov (Oq.c ?_ (Oq.c ?_ (Oq.c ?_ (Oq.n)))))))))))))))))))))))))
       .refine Om Z (sD 1 sN) ?_;exact Pc [] Z (OpC.fn call172 Z Z Z) (Qlb _ _ _ s) Z Wp
       .refine Om Z (sD 2 sN) ?_;exact S Z Wp
       .refine Om Z (sO 1 (sD 4 sN)) ?_;exact Fpg (gT a) QeB Z Wp
       .refine Om Z (sD 4 (sD 5 sN)) ?_;exact Ldg (gT a) EE Z Wp
       .refine Om Z (sD 4 (sD 6 sN)) ?_;exact Pc [] Z (OpC.fn call173 Z Z Z) (Qmt _ _ _ t) (hg:=(gT a)) Z Wp
       .refine Om Z (sD 4 (sD 7 sN)) ?_;exact Sg (gT a) Z Wp
       .refine Om Z (sD 4 (sD 8 sN)) ?_;exact Pk a Z Wp
       .refine Om Z (sO 1 (sD 10 sN)) ?_;exact Fpg (gT d) Qhj Z Wp
       .refine Om Z (sD 10 (sD 11 sN)) ?_;exact Ldg (gT d) EE Z Wp
       .refine Om Z (sD 10 (sD 12 sN)) ?_;exact Pc [] Z (OpC.fn call174 Z Z Z) (k_b _ _ _ _ _ w) (hg:=(gT d)) Z Wp
       .refine Om Z (sD 10 (sD 13 sN)) ?_;exact Sg (gT d) Z Wp
       .refine Om Z (sD 10 (sD 14 sN)) ?_;exact Pk d Z Wp
       .refine Om Z (sO 1 (sD 16 sN)) ?_;refine vX (.agg (Fact.c f)) (QE Z EO EB Z (Pts.cells Z Z) Z Z) ?_ (gT g);exact Wp
       .refine Om Z (sD 16 (sD 17 sN)) ?_;exact Pc [] Z (OpC.fn call175 Z Z Z) (k_bw _ _ _ y) (hg:=(gT g)) Z Wp
       .refine Om Z (sD 16 (sD 18 sN)) ?_;exact Sg (gT g) Z Wp
       .refine Om Z (sD 16 (sD 19 sN)) ?_;exact Pk g Z Wp
       iterate 2 refine Om Z (sO 1 (sD 21 sN)) ?_;exact K (gF i) Z Wp
       .refine Om Z (sD 21 (sD 23 sN)) ?_;exact K (gF i) Z Wp
      exact KF i Z (Pk i Z (Go 1 Z (Cl e [])))
     .obtain⟨u,z,e⟩:=Yq e;refine Jb 25 0 [3,4,5,6,7,8,9,10,11,12,13,14,15,16,17,18,19,20,21,22,23,24,25,26,27] [false,false,false,false,false,false,false,false,false,false,false,false,false,false,false,false,false,false,false,false,false,false,false,false,true] [[],[],[],[],[],[],[],[],[],[],[],[],[],[],[],[],[],[],[],[],[],[],[],[],[]] [[],[24]] [[(0,0)],[(0,0)],[(0,0)],[(0,0)],[(0,0)],[(0,0)],[(0,0)],[(0,0)],[(0,0)],[(0,0)],[(0,0)],[(0,0)],[(0,0)],[(0,0)],[(0,0)],[(0,0)],[(0,0)],[(0,0)],[(0,0)],[(0,0)],[(0,0)],[(0,0)],[(0,0),(1,1)],[(0,0)],[(0,1)]] [.ptr 0 0,I f.Crew,.bool k,.bool (!k),.bool (!k),.ptr 0 1,I f.No,.bool j,.bool (!j),.bool (!j),.bool (!j),.ptr 0 2,I f.At,.bool l,.bool (!l),.bool (!l),.bool (!l),.agg (Fact.c f),.bool m,.bool (!m),.bool (!m),.bool (!m),.agg (Fact.c f),.agg (Fact.c f),.agg (Fact.c u)] [[.cells 96 (Fact.c f)],[.cells 96 (Fact.c f),.cells 96 (Fact.c u)]] ([.cells 96 (Fact.c f),.cells 96 (Fact.c u)]) draws Z Z Z Z Z Z Z ?_ Z ?_
      .refine QhK.cons (Qb (v0 Z Z) (Qf)) (QhK.cons (Qb (v0 Z Z) (Qf)) (QhK.cons ?_ (QhK.cons ?_ (QhK.cons (Qb (v0 Z Z) (Qf)) (QhK.cons ?_ (QhK.cons ?_ (QhK.cons ?_ (QhK.cons ?_ (QhK.cons ?_ (QhK.cons (Qb (v0 Z Z) (Qf)) (QhK.cons ?_ (QhK.cons ?_ (QhK.cons ?_ (QhK.cons ?_ (QhK.cons ?_ (QhK.cons (Qb (v0 Z Z) (Qf)) (QhK.cons ?_ (QhK.cons ?_ (QhK.cons ?_ (QhK.cons ?_ (QhK.cons (Qb (v0 Z Z) (Qf)) (QhK.cons ?_ (QhK.cons ?_ (QhK.cons ?_ (QhK.nil)))))))))))))))))))))))))
       .refine Qb ?_ (Qf)
        .refine Om Z (sD 1 sN) ?_;exact Pc [] Z (OpC.fn call172 Z Z Z) (Qlb _ _ _ s) Z Wp
       .refine Qb ?_ (Qf)
        .refine Om Z (sD 2 sN) ?_;exact S Z Wp
       .refine Qb ?_ (Qf)
        .refine Om Z (sO 1 (sD 4 sN)) ?_;exact Fpg (gT a) QeB Z Wp
       .refine Qb ?_ (Qf)
        .refine Om Z (sD 4 (sD 5 sN)) ?_;exact Ldg (gT a) EE Z Wp
       .refine Qb ?_ (Qf)
        .refine Om Z (sD 4 (sD 6 sN)) ?_;exact Pc [] Z (OpC.fn call173 Z Z Z) (Qmt _ _ _ t) (hg:=(gT a)) Z Wp
       .refine Qb ?_ (Qf)
        .refine Om Z (sD 4 (sD 7 sN)) ?_;exact Sg (gT a) Z Wp
       .refine Qb ?_ (Qf)
        .refine Om Z (sD 4 (sD 8 sN)) ?_;exact Pk a Z Wp
       .refine Qb ?_ (Qf)
        .refine Om Z (sO 1 (sD 10 sN)) ?_;exact Fpg (gT d) Qhj Z Wp
       .refine Qb ?_ (Qf)
        .refine Om Z (sD 10 (sD 11 sN)) ?_;exact Ldg (gT d) EE Z Wp
       .refine Qb ?_ (Qf)
        .refine Om Z (sD 10 (sD 12 sN)) ?_;exact Pc [] Z (OpC.fn call174 Z Z Z) (k_b _ _ _ _ _ w) (hg:=(gT d)) Z Wp
       .refine Qb ?_ (Qf)
        .refine Om Z (sD 10 (sD 13 sN)) ?_;exact Sg (gT d) Z Wp
       .refine Qb ?_ (Qf)
        .refine Om Z (sD 10 (sD 14 sN)) ?_;exact Pk d Z Wp
       .refine Qb ?_ (Qf)
        .refine Om Z (sO 1 (sD 16 sN)) ?_;refine vX (.agg (Fact.c f)) (QE Z EO EB Z (Pts.cells Z Z) Z Z) ?_ (gT g);exact Wp
       .refine Qb ?_ (Qf)
        .refine Om Z (sD 16 (sD 17 sN)) ?_;exact Pc [] Z (OpC.fn call175 Z Z Z) (k_bw _ _ _ y) (hg:=(gT g)) Z Wp
       .refine Qb ?_ (Qf)
        .refine Om Z (sD 16 (sD 18 sN)) ?_;exact Sg (gT g) Z Wp
       .refine Qb ?_ (Qf)
        .refine Om Z (sD 16 (sD 19 sN)) ?_;exact Pk g Z Wp
       .refine Qb ?_ (Qb ?_ (Qf))
        iterate 2 refine Om Z (sO 1 (sD 21 sN)) ?_;refine vX (.agg (Fact.c f)) (QE Z EO EB Z (Pts.cells Z Z) Z Z) ?_ (gT i);exact Wp
       .refine Qb ?_ (Qf)
        .refine Om Z (sO 1 (sD 21 sN)) ?_;refine vX (.agg (Fact.c f)) (QE Z EO EB Z (Pts.cells Z Z) Z Z) ?_ (gT i);exact Wp
       .refine Qb ?_ (Qf)
        .refine Om1 Z (sD 21 (sD 23 sN)) ?_;refine Qz [] (OpC.fn call176 Z Z Z) (k_cl _ _ _ z) ?_ (hg:=(gT i));rintro _ _ ⟨rfl,rfl⟩;exact FE Z Wp
      refine vX (.bool (f != u)) (Qci (p:=f) (q:=u) Qhv Z Z) ?_ (gT i);exact Pk i Z (Go 1 Z (Cl e []))
 refine Gx 1 Z (Qc E (Cn Z h (λB h=>?_) (λB h=>?_)))
 .exact Gc 7 Z (Rt h 2 [])
 exact Gc 8 Z (Rt h 2 [])
def F_dt(n:Nat)(a:Fact):Option (List Int):=(bif (a.Kind==1)then(app [a.Kind,a.Crew,a.No,a.At] [a.Starter.Bib,a.Starter.Distance,a.Starter.Wave,a.Starter.Slot,a.Starter.Age,a.Starter.Chip,a.Starter.Team,a.Starter.Lot]).bind λm=>some m else(bif (a.Kind==2)then(app [a.Kind,a.Crew,a.No,a.At] [a.Read.Mat,a.Read.Epoch,a.Read.Chip,a.Read.Local]).bind λp=>some p else(bif (a.Kind==3)then(app [a.Kind,a.Crew,a.No,a.At] [a.Beacon.Mat,a.Beacon.Epoch,a.Beacon.Local,a.Beacon.True,a.Beacon.Err]).bind λq=>some q else(bif (a.Kind==4)then(app [a.Kind,a.Crew,a.No,a.At] [a.Sync.MatA,a.Sync.EpochA,a.Sync.LocalA,a.Sync.MatB,a.Sync.EpochB,a.Sync.LocalB,a.Sync.Min,a.Sync.Max]).bind λr=>some r else(bif (a.Kind==5)then(app [a.Kind,a.Crew,a.No,a.At] [a.Hand.Bib,a.Hand.Position,a.Hand.Lo,a.Hand.Hi]).bind λd=>some d else(bif (a.Kind==6)then(app [a.Kind,a.Crew,a.No,a.At] [a.Silence.Mat,a.Silence.Epoch,a.Silence.Lo,a.Silence.Hi]).bind λe=>some e else(bif (a.Kind==7)then(app [a.Kind,a.Crew,a.No,a.At] [a.Pair.A,a.Pair.B]).bind λf=>some f else(bif (a.Kind==8)then(app [a.Kind,a.Crew,a.No,a.At] [a.Report.Case,a.Report.Bib,a.Report.Offence,a.Report.Position]).bind λg=>some g else(bif (a.Kind==9)then(app [a.Kind,a.Crew,a.No,a.At] [a.Protest.Case,a.Protest.By,a.Protest.Fee,a.Protest.Form]).bind λh=>some h else(bif (a.Kind==10)then(app [a.Kind,a.Crew,a.No,a.At] [a.Ruling.Case,a.Ruling.Instance,a.Ruling.Kind,a.Ruling.Bib,a.Ruling.Position,a.Ruling.Amount]).bind λi=>some i else(bif (a.Kind==11)then(bif a.Appeal.Suspends then(app [a.Kind,a.Crew,a.No,a.At] [a.Appeal.Case,1]).bind λj=>some j else(app [a.Kind,a.Crew,a.No,a.At] [a.Appeal.Case,0]).bind λk=>some k)else(bif (a.Kind==13)then(app [a.Kind,a.Crew,a.No,a.At] [a.Void.Crew,a.Void.No]).bind λl=>some l else some [a.Kind,a.Crew,a.No,a.At]))))))))))))
theorem k_dt(n:Nat)(a:Fact):Kq (F_dt n a) 236 [.agg (Fact.c a)] [] (λr=>.osl 0 0 r.length 1) (λr=>[.row 3 1 (map (Qe .i64) r)]):=by
 refine Kg 16 func236 Z Z Z Z λr h=>?_;refine vH (Ej (xs:=[.tmp 14,.tmp 16,.tmp 18,.tmp 20]) (es:=map (Qe .i64) [a.Kind,a.Crew,a.No,a.At]) Qw Z Z Z Z Z ⟨Z,Z,Z,Z,trivial⟩ Z Z) ?_;refine FE Z (Go 17 Z (Cn Z h (λF h=>?_) (λF h=>?_)))
 .refine Gc 27 Z ?_;refine vH (Ej (xs:=[.tmp 30,.tmp 32,.tmp 34,.tmp 36,.tmp 38,.tmp 40,.tmp 42,.tmp 44]) (es:=map (Qe .i64) [a.Starter.Bib,a.Starter.Distance,a.Starter.Wave,a.Starter.Slot,a.Starter.Age,a.Starter.Chip,a.Starter.Team,a.Starter.Lot]) Qw Z Z Z Z Z ⟨Z,Z,Z,Z,Z,Z,Z,Z,trivial⟩ Z Z) ?_;refine FE Z (Bd h λl2 G h=>?_);refine vH (Qs (e:=(Qe .i64)) G Qw Ez (QX (i:=3))) ?_;exact FE Z (Go 6 Z (Rt h 2 [4]))
 refine Gc 6 Z (Cn Z h (λH h=>?_) (λH h=>?_))
 .refine Gc 19 Z ?_;refine vH (Ej (xs:=[.tmp 53,.tmp 55,.tmp 57,.tmp 59]) (es:=map (Qe .i64) [a.Read.Mat,a.Read.Epoch,a.Read.Chip,a.Read.Local]) Qw Z Z Z Z Z ⟨Z,Z,Z,Z,trivial⟩ Z Z) ?_;refine FE Z (Bd h λl4 J h=>?_);refine vH (Qs (e:=(Qe .i64)) J Qw Ez (QX (i:=3))) ?_;exact FE Z (Go 6 Z (Rt h 2 [4]))
 refine Gc 6 Z (Cn Z h (λL h=>?_) (λL h=>?_))
 .refine Gc 21 Z ?_;refine vH (Ej (xs:=[.tmp 68,.tmp 70,.tmp 72,.tmp 74,.tmp 76]) (es:=map (Qe .i64) [a.Beacon.Mat,a.Beacon.Epoch,a.Beacon.Local,a.Beacon.True,a.Beacon.Err]) Qw Z Z Z Z Z ⟨Z,Z,Z,Z,Z,trivial⟩ Z Z) ?_;refine FE Z (Bd h λl6 M h=>?_);refine vH (Qs (e:=(Qe .i64)) M Qw Ez (QX (i:=3))) ?_;exact FE Z (Go 6 Z (Rt h 2 [4]))
 refine Gc 6 Z (Cn Z h (λN h=>?_) (λN h=>?_))
 .refine Gc 27 Z ?_;refine vH (Ej (xs:=[.tmp 85,.tmp 87,.tmp 89,.tmp 91,.tmp 93,.tmp 95,.tmp 97,.tmp 99]) (es:=map (Qe .i64) [a.Sync.MatA,a.Sync.EpochA,a.Sync.LocalA,a.Sync.MatB,a.Sync.EpochB,a.Sync.LocalB,a.Sync.Min,a.Sync.Max]) Qw Z Z Z Z Z ⟨Z,Z,Z,Z,Z,Z,Z,Z,trivial⟩ Z Z) ?_;refine FE Z (Bd h λl8 O h=>?_);refine vH (Qs (e:=(Qe .i64)) O Qw Ez (QX (i:=3))) ?_;exact FE Z (Go 6 Z (Rt h 2 [4]))
 refine Gc 6 Z (Cn Z h (λP h=>?_) (λP h=>?_))
 .refine Gc 19 Z ?_;refine vH (Ej (xs:=[.tmp 108,.tmp 110,.tmp 112,.tmp 114]) (es:=map (Qe .i64) [a.Hand.Bib,a.Hand.Position,a.Hand.Lo,a.Hand.Hi]) Qw Z Z Z Z Z ⟨Z,Z,Z,Z,trivial⟩ Z Z) ?_;refine FE Z (Bd h λQ d h=>?_);refine vH (Qs (e:=(Qe .i64)) d Qw Ez (QX (i:=3))) ?_;exact FE Z (Go 6 Z (Rt h 2 [4]))
 refine Gc 6 Z (Cn Z h (λf h=>?_) (λf h=>?_))
 .refine Gc 19 Z ?_;refine vH (Ej (xs:=[.tmp 123,.tmp 125,.tmp 127,.tmp 129]) (es:=map (Qe .i64) [a.Silence.Mat,a.Silence.Epoch,a.Silence.Lo,a.Silence.Hi]) Qw Z Z Z Z Z ⟨Z,Z,Z,Z,trivial⟩ Z Z) ?_;refine FE Z (Bd h λR g h=>?_);refine vH (Qs (e:=(Qe .i64)) g Qw Ez (QX (i:=3))) ?_;exact FE Z (Go 6 Z (Rt h 2 [4]))
 refine Gc 6 Z (Cn Z h (λj h=>?_) (λj h=>?_))
 .refine Gc 9 Z ?_;refine vH (Ej (xs:=[.tmp 137,.tmp 140]) (es:=map (Qe .i64) [a.Pair.A,a.Pair.B]) Qw Z Z Z Z Z ⟨Z,Z,trivial⟩ Z Z) ?_;refine FE Z (Bd h λT k h=>?_);refine vH (Qs (e:=(Qe .i64)) k Qw Ez (QX (i:=2))) ?_;exact FE Z (Go 6 Z (Rt h 2 [3]))
 refine Gc 6 Z (Cn Z h (λl h=>?_) (λl h=>?_))
 .refine Gc 19 Z ?_;refine vH (Ej (xs:=[.tmp 149,.tmp 151,.tmp 153,.tmp 155]) (es:=map (Qe .i64) [a.Report.Case,a.Report.Bib,a.Report.Offence,a.Report.Position]) Qw Z Z Z Z Z ⟨Z,Z,Z,Z,trivial⟩ Z Z) ?_;refine FE Z (Bd h λV m h=>?_);refine vH (Qs (e:=(Qe .i64)) m Qw Ez (QX (i:=3))) ?_;exact FE Z (Go 6 Z (Rt h 2 [4]))
 refine Gc 6 Z (Cn Z h (λp h=>?_) (λp h=>?_))
 .refine Gc 19 Z ?_;refine vH (Ej (xs:=[.tmp 164,.tmp 166,.tmp 168,.tmp 170]) (es:=map (Qe .i64) [a.Protest.Case,a.Protest.By,a.Protest.Fee,a.Protest.Form]) Qw Z Z Z Z Z ⟨Z,Z,Z,Z,trivial⟩ Z Z) ?_;refine FE Z (Bd h λW q h=>?_);refine vH (Qs (e:=(Qe .i64)) q Qw Ez (QX (i:=3))) ?_;exact FE Z (Go 6 Z (Rt h 2 [4]))
 refine Gc 6 Z (Cn Z h (λs h=>?_) (λs h=>?_))
 .refine Gc 23 Z ?_;refine vH (Ej (xs:=[.tmp 179,.tmp 181,.tmp 183,.tmp 185,.tmp 187,.tmp 189]) (es:=map (Qe .i64) [a.Ruling.Case,a.Ruling.Instance,a.Ruling.Kind,a.Ruling.Bib,a.Ruling.Position,a.Ruling.Amount]) Qw Z Z Z Z Z ⟨Z,Z,Z,Z,Z,Z,trivial⟩ Z Z) ?_;refine FE Z (Bd h λX t h=>?_);refine vH (Qs (e:=(Qe .i64)) t Qw Ez (QX (i:=3))) ?_;exact FE Z (Go 6 Z (Rt h 2 [4]))
 refine Gc 6 Z (Cn Z h (λu h=>?_) (λu h=>?_))
 .refine Gc 8 Z (Cn Z h (λw h=>?_) (λw h=>?_))
  .refine Gc 6 Z ?_;refine vH (Ej (xs:=[.tmp 200,.const (.int .i64 1)]) (es:=map (Qe .i64) [a.Appeal.Case,1]) Qw Z Z Z Z Z ⟨Z,Z,trivial⟩ Z Z) ?_;refine FE Z (Bd h λY x h=>?_);refine vH (Qs (e:=(Qe .i64)) x Qw Ez (QX (i:=2))) ?_;exact FE Z (Go 7 Z (Rt h 2 [3]))
  refine Gc 8 Z ?_;refine vH (Ej (xs:=[.tmp 206,.const (.int .i64 0)]) (es:=map (Qe .i64) [a.Appeal.Case,0]) Qw Z Z Z Z Z ⟨Z,Z,trivial⟩ Z Z) ?_;refine FE Z (Bd h λaa y h=>?_);refine vH (Qs (e:=(Qe .i64)) y Qw Ez (QX (i:=2))) ?_;exact FE Z (Go 6 Z (Rt h 2 [3]))
 refine Gc 6 Z (Cn Z h (λz h=>?_) (λz h=>?_))
 .refine Gc 9 Z ?_;refine vH (Ej (xs:=[.tmp 214,.tmp 217]) (es:=map (Qe .i64) [a.Void.Crew,a.Void.No]) Qw Z Z Z Z Z ⟨Z,Z,trivial⟩ Z Z) ?_;refine FE Z (Bd h λab E h=>?_);refine vH (Qs (e:=(Qe .i64)) E Qw Ez (QX (i:=2))) ?_;exact FE Z (Go 6 Z (Rt h 2 [3]))
 exact Gc 10 Z (Rt h 2 [1])
def F_fj(n:Nat)(a:Int):Option Unit:=some ()
theorem k_fj(n:Nat)(a:Int):Kq (F_fj n a) 266 [I a] [] (λ_=>.agg [I 1,I a,.str [],.rsl 4 (map Value.enc [])]) (λ_=>[.cells 305 [I 1,I a,.str [],.rsl 4 (map Value.enc [])]]):=by
 refine Kg 13 func266 Z Z Z Z λr h=>?_;obtain rfl:=Oi h;exact Rx [0] [2] Z (Yg Z (Qg Gp Gi Z Z Z)) ⟨Z,Z⟩
def F_ju(n:Nat)(e:List Int)(a:(List Value)×Int):Option (Ctl ((List Value)×Int) (List Value)):=(bif decide (a.2<(e.length:Int))then(idx e a.2).bind λd=>(F_fj n d).bind λg=>(app a.1 [{Kind:=1,N:=d,S:=[],L:=[]:Value}]).bind λf=>some (.cont (f,i64.wrap (a.2+1)))else some (.done a.1))
def F_fx(n:Nat)(d:List Int):Option (List Value):=(iter (F_ju n d) n ([],0):Option (List Value)).bind λa=>some a
theorem k_fx(n:Nat)(j:List Int):Kq (F_fx n j) 235 [.rsl 1 (map (Qe .i64) j)] [] (λr=>.agg [I 3,I 0,.str [],.osl 0 0 r.length 4]) (λr=>[.row 305 4 (map Value.enc r),.cells 305 [I 3,I 0,.str [],.osl 0 0 r.length 4]]):=by
 refine Kg 7 func235 Z Z Z Z λr h=>?_;refine vX (.agg [I 3,I 0,.str [],.nils]) (OpV.build (zs:=[I 0,I 0,.str [],.nils]) Gk (zrC Z) Qmf) ?_;refine vH (QcP (v:=(.agg [I 0,I 0,.str [],.nils])) Gk (zrC Z)) ?_;refine FE Z (Go 9 Z (Bd h λg w h=>?_));refine Ct g [0,1,0] [2,3] Ze (λg=>[(1,.cells 305 [I 3,I 0,.str [],.osl 2 0 g.length 4]),(2,.row 305 4 (map Value.enc g))]) Zf ?_ (λenv H y=>?_)
 .refine G0 1 Z ?_;refine Lp [0,1,0] [0,2,3] (λa=>[(4,I a.2)]) (λa=>[(1,.cells 305 [I 3,I 0,.str [],.osl 2 0 a.1.length 4]),(2,.row 305 4 (map Value.enc a.1))]) w Zf ?_ ?_
  .refine Em (Qb0 (i:=1) (m:=3) (t:=305) (k:=4) Z Z Z) ?_;exact Lr [0,1,2]
  intro a z d l;refine G0 5 Z (Lm Z (Go 3 Z (Yh Z d (λp d=>?_) (λp d=>?_))))
  .refine Gc 2 Z (Ql d ?_);obtain rfl:=Oj l d;exact Gx 1 Z (QI (Lr [0,1,2]))
  refine Gc 4 Z ?_;obtain⟨f,q,d⟩:=Yq d;obtain⟨B,s,d⟩:=Yq d;refine Jb 8 0 [12,13,14,15,16,17,18,19] [false,false,false,false,false,false,true,false] [[],[],[],[],[],[],[],[6]] [[],[6]] [[(0,0),(1,1)],[(0,0),(1,1)],[(0,0)],[(0,0)],[(0,0)],[(0,0)],[(0,1)],[(1,1)]] [.ptr 1 3,.osl 2 0 a.1.length 4,.rsl 1 (map (Qe .i64) j),I a.2,.rp [I f],I f,.agg [I 1,I f,.str [],.rsl 4 (map Value.enc [])],.rsl 4 (map Value.enc [{Kind:=1,N:=f,S:=[],L:=[]:Value}])] [[.cells 305 (Value.c Uw),.cells 305 [I 3,I 0,.str [],.osl 2 0 a.1.length 4],.row 305 4 (map Value.enc a.1)],[.cells 305 (Value.c Uw),.cells 305 [I 3,I 0,.str [],.osl 2 0 a.1.length 4],.row 305 4 (map Value.enc a.1),.cells 305 [I 1,I f,.str [],.rsl 4 (map Value.enc [])]]] ([.cells 305 (Value.c Uw),.cells 305 [I 3,I 0,.str [],.osl 2 0 a.1.length 4],.row 305 4 (map Value.enc a.1),.cells 305 [I 1,I f,.str [],.rsl 4 (map Value.enc [])]]) draws Z Z Z Z Z Z Z ?_ Z ?_
  .refine QhK.cons (Qb (v0 Z Z) (Qb (v0 Z Z) (Qf))) (QhK.cons (Qb (v0 Z Z) (Qb (v0 Z Z) (Qf))) (QhK.cons (Qb (v0 Z Z) (Qf)) (QhK.cons (Qb (v0 Z Z) (Qf)) (QhK.cons ?_ (QhK.cons (Qb (v0 Z Z) (Qf)) (QhK.cons ?_ (QhK.cons ?_ (QhK.nil))))))))
   .refine Qb ?_ (Qf)
    .refine Om Z (sD 2 (sD 3 sN)) ?_;exact Ix q Ez EC Z Wp
   .refine Qb ?_ (Qf)
    .refine Om1 Z (sD 5 sN) ?_;refine Qz [] (OpC.fn call266 Z Z Z) (k_fj _ _ _ s) ?_;rintro _ _ ⟨rfl,rfl⟩;exact FE Z Wp
   .refine Qb ?_ (Qf)
    .refine Om Z (sD 6 sN) ?_;refine vH (YE (xs:=[.tmp 18]) (es:=[Value.c ({Kind:=1,N:=f,S:=[],L:=[]:Value})]) Qhx Z Z Z Z Z ⟨Z,trivial⟩ Z Z) ?_;refine Qna (x:=(.rsl 4 (map Value.enc [{Kind:=1,N:=f,S:=[],L:=[]:Value}]))) (H:=[_,_,_,_]) (by simp[YX]) Z ?_;exact Wp
  refine Bd d λE u d=>?_;refine vH (Qs (e:=Value.enc) u Qhx EW QbY) ?_;exact FE Z (Go 10 Z (Qj d (Lr [0,1,4])))
 refine Gx 1 Z (Qc y (Gc 7 Z ?_));obtain rfl:=Oi h;exact Rx [2,0] [2] Z (Yg Z (Qg Gp Gi Z Z Z)) ⟨Z,Z⟩
def F_jx(n:Nat)(d:Value)(rec249:Value->Option Bool)(a:Int):Option (Ctl Int (Ctl Unit Bool)):=(bif decide (a<(d.L.length:Int))then(idx d.L a).bind λe=>(rec249 e).bind λf=>(bif (!f)then some (.done (.done false))else some (.cont (i64.wrap (a+1))))else some (.done (.cont ())))
def B_ai(rec249:Value->Option Bool)(n:Nat)(a:Value):Option Bool:=(bif (a.Kind==1)then((bif (a.S==[])then some ((a.L.length:Int)==0)else some false):Option Bool).bind λg=>some g else(bif (a.Kind==2)then((bif (a.N==0)then some ((a.L.length:Int)==0)else some false):Option Bool).bind λh=>some h else(bif (a.Kind==3)then(iter (F_jx n a rec249) n 0:Option (Ctl Unit Bool)).bind λe=>match e with|.cont d=>(((bif (a.N==0)then some (a.S==[])else some false):Option Bool).bind λf=>some f)|.done d=>some d else some false)))
theorem QaN(rec249:Value->Option Bool)(f:∀(g:Value) (r:Bool),rec249 g=some r->Csm prog 278 [.agg (Value.c g)] [] (λr=>.bool r) r)(n:Nat)(g:Value)(r:Bool)(h:B_ai rec249 n g=some r):Csm prog 278 [.agg (Value.c g)] [] (λr=>.bool r) r:=by
 refine QN func278 Z Z Z ?_;refine G0 20 Z (Cn Z h (λz h=>?_) (λz h=>?_))
 .refine Gc 1 Z (Bd h λp i h=>?_);refine Ct p [] [] (λp=>[(2,.bool p)]) Ze Zf ?_ (λenv H d=>?_)
  .refine G0 5 Z (Is 11 i Z (λB i=>?_) (λB i=>?_))
   .exact Go 2 Z (Lm Z (Go 4 Z (Cl i [])))
   .exact Go 7 Z (Cl i [])
  exact Gx 1 Z (Qc d (Gc 3 Z (Rt h 2 [])))
 refine Gc 6 Z (Cn Z h (λE h=>?_) (λE h=>?_))
 .refine Gc 1 Z (Bd h λq j h=>?_);refine Ct q [] [] (λq=>[(2,.bool q)]) Ze Zf ?_ (λenv H d=>?_)
  .refine G0 5 Z (Is 22 j Z (λs j=>?_) (λs j=>?_))
   .exact Go 2 Z (Lm Z (Go 4 Z (Cl j [])))
   .exact Go 7 Z (Cl j [])
  exact Gx 1 Z (Qc d (Gc 3 Z (Rt h 2 [])))
 refine Gc 6 Z (Cn Z h (λt h=>?_) (λt h=>?_))
 .refine Gc 6 Z (Bd h λF G h=>?_);refine Ji (b:=F) [0] [1] Ze Ze Zf ?_ (λM env H J d=>?_)
  .refine G0 1 Z ?_;refine Lp [0] [1] (λm=>[(3,I m)]) Ze G Zf (Lr [0]) λm O a k=>?_;refine G0 6 Z (Lm Z (Go 3 Z (Yh Z a (λu a=>?_) (λu a=>?_))))
   .refine Gc 2 Z (Ql a ?_);obtain rfl:=Oj k a;exact Gx 1 Z (Qo Z (Lr [0]))
   refine Gc 9 Z (Bd a λL w a=>IzE w (YX L) Z (Go 1 Z (Cz [] a (f _) Z λP N a=>Go 3 Z (Cn Z a (λx a=>?_) (λx a=>?_)))))
   .refine Gc 8 Z (Qv a ?_);obtain rfl:=Oj k a;exact Gx 1 Z (Qq (Gx 3 Z (Rt h 2 [])))
   exact Gc 8 Z (Qj a (Lr [0]))
  subst J;refine Gx 1 Z (Qc d (Gc 1 Z (Bd h λl e h=>?_)));refine Ct l [] [] (λl=>[(2,.bool l)]) Ze Zf ?_ (λenv H d=>?_)
  .refine G0 5 Z (Is 47 e Z (λy e=>?_) (λy e=>?_))
   iterate 2 exact Go 6 Z (Cl e [])
  exact Gx 1 Z (Qc d (Gc 3 Z (Rt h 2 [])))
 exact Gc 9 Z (Rt h 2 [])
def F_ai:Nat->Value->Option Bool
  |0=>λ_=>none
  |n+1=>B_ai (F_ai n) n
theorem k_ai(n:Nat):∀(a:Value) (r:Bool),F_ai n a=some r->Csm prog 278 [.agg (Value.c a)] [] (λr=>.bool r) r:=by
  induction n with
  |zero=>intro a r h;cases h
  |succ n ih=>intro a r h;exact QaN _ ih n a r h
def F_ki(n:Nat)(e:Value)(rec250:Value->Option Int)(a:Int×Int):Option (Ctl (Int×Int) Int):=(bif decide (a.2<(e.L.length:Int))then(idx e.L a.2).bind λf=>(rec250 f).bind λd=>some (.cont ((if a.1<d then d else a.1),i64.wrap (a.2+1)))else some (.done a.1))
def B_aj(rec250:Value->Option Int)(n:Nat)(a:Value):Option Int:=(bif (a.Kind != 3)then some 0 else(iter (F_ki n a rec250) n (0,0):Option Int).bind λd=>some (i64.wrap (d+1)))
theorem QaZ(rec250:Value->Option Int)(e:∀(f:Value) (r:Int),rec250 f=some r->Csm prog 279 [.agg (Value.c f)] [] (λr=>I r) r)(n:Nat)(f:Value)(r:Int)(h:B_aj rec250 n f=some r):Csm prog 279 [.agg (Value.c f)] [] (λr=>I r) r:=by
 refine QN func279 Z Z Z ?_;refine G0 14 Z (Cn Z h (λm h=>?_) (λm h=>?_))
 .exact Gc 7 Z (Rt h 2 [])
 refine Gc 13 Z (Bd h λi p h=>?_);refine Ct i [] [] (λi=>[(3,I i)]) Ze Zf ?_ (λenv H q=>?_)
 .refine G0 1 Z ?_;refine Lp [0] [1] (λd=>[(3,I d.1),(4,I d.2)]) Ze p Zf (Lr [0]) λd u a j=>?_;refine G0 6 Z (Lm Z (Go 3 Z (Yh Z a (λk a=>?_) (λk a=>?_))))
  .refine Gc 2 Z (Ql a ?_);obtain rfl:=Oj j a;exact Gx 1 Z (QI (Lr []))
  refine Gc 9 Z (Bd a λs l a=>IzE l (YX s) Z (Go 1 Z (Cz [] a (e _) Z λg t a=>?_)));refine vX (I (if d.1<g then g else d.1)) (OpV.max Z Z Z Z) ?_;exact Go 9 Z (Qj a (Lr [0]))
 exact Gx 1 Z (Qc q (Gc 8 Z (Rt h 2 [])))
def F_aj:Nat->Value->Option Int
  |0=>λ_=>none
  |n+1=>B_aj (F_aj n) n
theorem k_aj(n:Nat):∀(a:Value) (r:Int),F_aj n a=some r->Csm prog 279 [.agg (Value.c a)] [] (λr=>I r) r:=by
  induction n with
  |zero=>intro a r h;cases h
  |succ n ih=>intro a r h;exact QaZ _ ih n a r h
def F_is(n:Nat)(a:Value):Option Int:=(F_ai n a).bind λd=>(bif (!d)then some 1 else(F_aj n a).bind λe=>(bif decide (16<e)then some 2 else some 0))
theorem k_is(n:Nat)(a:Value):Ks (F_is n a) 264 [.agg (Value.c a)] [] (λr=>I r):=by
 refine Kg 10 func264 Z Z Z Z λr h=>Cz [] h (k_ai _ _) Z λi f h=>Go 3 Z (Cn Z h (λd h=>?_) (λd h=>?_))
 .exact Gc 7 Z (Rt h 2 [])
 refine Gc 6 Z (Cz [] h (k_aj _ _) Z λj g h=>Go 3 Z (Cn Z h (λe h=>?_) (λe h=>?_)))
 .exact Gc 7 Z (Rt h 2 [])
 exact Gc 8 Z (Rt h 2 [])
def F_ct(n:Nat)(a:Int):Option Int:=(bif decide (0<=a)then some (u64.wrap (2*(u64.wrap a)))else some (u64.wrap ((u64.wrap (2*(u64.wrap (i64.wrap (0-(i64.wrap (a+1)))))))+1)))
theorem k_ct(n:Nat)(a:Int):Ks (F_ct n a) 281 [I a] [] (λr=>.int .u64 r):=by
 refine Kg 12 func281 Z Z Z Z λr h=>Cn Z h (λd h=>?_) (λd h=>?_)
 .refine Gc 3 Z ?_;refine vX (.int .u64 (u64.wrap a)) (Yy Z EH EI Z) ?_;exact Go 6 Z (Rt h 2 [])
 refine Gc 7 Z ?_;refine vV (x:=(.int .u64 (u64.wrap (i64.wrap (0-(i64.wrap (a+1))))))) (Yy Z EH EI Z) ?_;exact Go 6 Z (Rt h 2 [])
def B_h(rec253:Int->Option (List Int))(n:Nat)(a:Int):Option (List Int):=(bif decide (a<128)then some [u8.wrap a]else(rec253 (u64.wrap (Int.tdiv a 128))).bind λd=>(app [u8.wrap (u64.wrap ((Int.tmod a 128)+128))] d).bind λe=>some e)
theorem QaG(rec253:Int->Option (List Int))(d:∀(a:Int) (r:List Int),rec253 a=some r->C prog 280 [.int .u64 a] [] (RQ (λr=>.osl 0 0 r.length 1) (λr=>[.row 5 1 (map (Qe .u8) r)]) r))(n:Nat)(a:Int)(r:List Int)(h:B_h rec253 n a=some r):C prog 280 [.int .u64 a] [] (RQ (λr=>.osl 0 0 r.length 1) (λr=>[.row 5 1 (map (Qe .u8) r)]) r):=by
 refine QN func280 Z Z Z ?_;refine G0 12 Z (Cn Z h (λf h=>?_) (λf h=>?_))
 .refine Gc 3 Z ?_;refine vX (.int .u8 (u8.wrap a)) (Yy Z EI EY Z) ?_;refine vH (Ej (xs:=[.tmp 6]) (es:=map (Qe .u8) [u8.wrap a]) YG Z Z Z Z Z ⟨Z,trivial⟩ Z Z) ?_;exact FE Z (Go 5 Z (Rt h 2 [0]))
 refine Gc 5 Z ?_;refine vX (.int .u64 (Int.tmod a 128)) (OpV.rem Z Z Z (by decide)) ?_;refine Go 1 Z ?_;refine vV (x:=(.int .u8 (u8.wrap (u64.wrap ((Int.tmod a 128)+128))))) (Yy Z EI EY Z) ?_;refine vH (Ej (xs:=[.tmp 11]) (es:=map (Qe .u8) [u8.wrap (u64.wrap ((Int.tmod a 128)+128))]) YG Z Z Z Z Z ⟨Z,trivial⟩ Z Z) ?_;refine FE Z (Go 1 Z ?_);refine vX (.int .u64 (u64.wrap (Int.tdiv a 128))) (OpV.quo Z Z Z (by decide)) ?_;refine Cd [] h (d _) Z λk j h=>FE Z (Bd h λl g h=>?_);refine vH (Qs (e:=(Qe .u8)) g YG EF (QX (i:=1))) ?_;exact FE Z (Go 4 Z (Rt h 2 [2]))
def F_h:Nat->Int->Option (List Int)
  |0=>λ_=>none
  |n+1=>B_h (F_h n) n
theorem k_h(n:Nat):∀(a:Int) (r:List Int),F_h n a=some r->C prog 280 [.int .u64 a] [] (RQ (λr=>.osl 0 0 r.length 1) (λr=>[.row 5 1 (map (Qe .u8) r)]) r):=by
  induction n with
  |zero=>intro a r h;cases h
  |succ n ih=>intro a r h;exact QaG _ ih n a r h
def F_js(n:Nat)(d:Value)(rec251:Value->Option (List Int))(a:(List Int)×Int):Option (Ctl ((List Int)×Int) (List Int)):=(bif decide (a.2<(d.L.length:Int))then(idx d.L a.2).bind λe=>(rec251 e).bind λf=>(app a.1 f).bind λg=>some (.cont (g,i64.wrap (a.2+1)))else some (.done a.1))
def B_l(rec251:Value->Option (List Int))(n:Nat)(a:Value):Option (List Int):=(bif (a.Kind==1)then(F_ct n a.N).bind λe=>(F_h n e).bind λf=>(app [1] f).bind λg=>some g else(bif (a.Kind==2)then none else(F_h n (u64.wrap (a.L.length:Int))).bind λh=>(app [3] h).bind λi=>(iter (F_js n a rec251) n (i,0):Option (List Int)).bind λd=>some d))
theorem QaM(rec251:Value->Option (List Int))(g:∀(j:Value) (r:List Int),rec251 j=some r->C prog 265 [.agg (Value.c j)] [] (RQ (λr=>.osl 0 0 r.length 1) (λr=>[.row 5 1 (map (Qe .u8) r)]) r))(n:Nat)(j:Value)(r:List Int)(h:B_l rec251 n j=some r):C prog 265 [.agg (Value.c j)] [] (RQ (λr=>.osl 0 0 r.length 1) (λr=>[.row 5 1 (map (Qe .u8) r)]) r):=by
 refine QN func265 Z Z Z ?_;refine G0 20 Z (Cn Z h (λq h=>?_) (λq h=>?_))
 .refine Gc 2 Z ?_;refine vH (Ej (xs:=[.const (.int .u8 1)]) (es:=map (Qe .u8) [1]) YG Z Z Z Z Z ⟨Z,trivial⟩ Z Z) ?_;refine FE Z (Go 2 Z (Cz [] h (k_ct _ _) Z λN B h=>Cd [] h (k_h _ _) Z λO E h=>FE Z (Bd h λP s h=>?_)));refine vH (Qs (e:=(Qe .u8)) s YG EF (QX (i:=2))) ?_;exact FE Z (Go 6 Z (Rt h 2 [3]))
 refine Gc 6 Z (Cn Z h (λt h=>?_) (λt h=>?_))
 .refine Gc 1 Z ?_;cases h
 refine Gc 5 Z ?_;refine vH (Ej (xs:=[.const (.int .u8 3)]) (es:=map (Qe .u8) [3]) YG Z Z Z Z Z ⟨Z,trivial⟩ Z Z) ?_;refine FE Z (Go 2 Z (Lm Z ?_));refine vX (.int .u64 (u64.wrap (j.L.length:Int))) (Yy Z EH EI Z) ?_;refine Cd [] h (k_h _ _) Z λQ F h=>FE Z (Bd h λR u h=>?_);refine vH (Qs (e:=(Qe .u8)) u YG EF (QX (i:=2))) ?_;refine FE Z (Go 9 Z (Bd h λd w h=>?_));refine Ct d [1] [] (λd=>[(3,.osl 0 0 d.length 1)]) (λd=>[(0,.row 5 1 (map (Qe .u8) d))]) Zf ?_ (λenv H x=>?_)
 .refine G0 1 Z ?_;refine Lp [0,3] [1] (λf=>[(3,.osl 1 0 f.1.length 1),(4,I f.2)]) (λf=>[(1,.row 5 1 (map (Qe .u8) f.1))]) w Zf (Lr [0,3]) λf G a k=>?_;refine G0 6 Z (Lm Z (Go 3 Z (Yh Z a (λl a=>?_) (λl a=>?_))))
  .refine Gc 2 Z (Ql a ?_);obtain rfl:=Oj k a;exact Gx 1 Z (QI (Lr [1]))
  refine Gc 9 Z (Bd a λy m a=>IzE m (YX y) Z (Go 1 Z (Cd [] a (g _) Z λJ z a=>FE Z (Bd a λM p a=>?_))));refine vH (Qs (e:=(Qe .u8)) p YG EF (QX (i:=2))) ?_;exact FE Z (Go 9 Z (Qj a (Lr [0,3])))
 exact Gx 1 Z (Qc x (Gc 7 Z (Rt h 2 [0])))
def F_l:Nat->Value->Option (List Int)
  |0=>λ_=>none
  |n+1=>B_l (F_l n) n
theorem k_l(n:Nat):∀(a:Value) (r:List Int),F_l n a=some r->C prog 265 [.agg (Value.c a)] [] (RQ (λr=>.osl 0 0 r.length 1) (λr=>[.row 5 1 (map (Qe .u8) r)]) r):=by
  induction n with
  |zero=>intro a r h;cases h
  |succ n ih=>intro a r h;exact QaM _ ih n a r h
def F_jc(n:Nat)(a:Value):Option ((List Int)×Int):=(F_is n a).bind λd=>(bif (d != 0)then some ([],d)else(F_l n a).bind λe=>some (e,0))
theorem k_jc(n:Nat)(a:Value):Kq (F_jc n a) 234 [.agg (Value.c a)] [] (λr=>.tup [.osl 0 0 r.1.length 1,I r.2]) (λr=>[.row 5 1 (map (Qe .u8) r.1)]):=by
 refine Kg 10 func234 Z Z Z Z λr h=>Cz [] h (k_is _ _) Z λg e h=>Go 10 Z (Cn Z h (λd h=>?_) (λd h=>?_))
 .refine Gc 9 Z ?_;obtain rfl:=Oi h;refine R2 2 3 Z Z ?_;refine Em (Ep (s:=2) (k:=1) (t:=5) (XP Z) Z) ?_;exact Lr [1]
 refine Gc 5 Z (Cd [] h (k_l _ _) Z λi f h=>FE Z (Go 5 Z ?_));obtain rfl:=Oi h;exact R2 2 3 Z Z (Lr [1])
def F_bu(n:Nat)(a:Fact):Option ((List Int)×Int):=(F_bl n a).bind λe=>(bif (e != 0)then some ([],120)else(F_dt n a).bind λf=>(F_fx n f).bind λg=>(F_jc n ({Kind:=3,N:=0,S:=[],L:=g:Value})).bind λd=>some (d.1,d.2))
theorem k_bu(n:Nat)(a:Fact):Kq (F_bu n a) 177 [.agg (Fact.c a)] [] (λr=>.tup [.osl 0 0 r.1.length 1,I r.2]) (λr=>[.row 5 1 (map (Qe .u8) r.1)]):=by
 refine Kg 11 func177 Z Z Z Z λr h=>Cz [] h (k_bl _ _) Z λj e h=>Go 3 Z (Cn Z h (λd h=>?_) (λd h=>?_))
 .refine Gc 8 Z ?_;obtain rfl:=Oi h;refine R2 2 3 Z Z ?_;refine Em (Ep (s:=2) (k:=1) (t:=5) (XP Z) Z) ?_;exact Lr [1]
 refine Gc 5 Z (Cd [] h (k_dt _ _) Z λl f h=>FE Z ?_);refine QD (Qdo [(8,_)] Z Z (Qnu.cons Z Eo Qnu.nil) (Ec (Ec (Qa2 _)))) ?_;refine Cd [] h (k_fx _ _) Z λm g h=>FE Z ?_;refine QD (Qdo [(9,_)] Z Z (Qnu.cons Z (FzA.agg (Ed (Ee _) (Ed (Ee _) (Ed (Ee _) (Ed Eo (Ei _)))))) Qnu.nil) (Ec (Ec (Ec (FzH.cells (Ed (Ee _) (Ed (Ee _) (Ed (Ee _) (Ed Eo (Ei _))))) (Qa2 _)))))) ?_;refine Cd [] h (k_jc _ _) Z λp i h=>FE Z (Go 7 Z ?_);obtain rfl:=Oi h;exact R2 2 3 Z Z (Lr [4])
def F_fu(n:Nat)(d:Fact)(e:Fact)(a:Int):Option (Ctl Int (Ctl Unit Int)):=(bif decide (a<3)then(idx [d.At,d.Crew,d.No] a).bind λf=>(idx [e.At,e.Crew,e.No] a).bind λg=>(bif decide (f<g)then some (.done (.done (-1)))else(idx [d.At,d.Crew,d.No] a).bind λh=>(idx [e.At,e.Crew,e.No] a).bind λi=>(bif decide (i<h)then some (.done (.done 1))else some (.cont (i64.wrap (a+1)))))else some (.done (.cont ())))
def F_dq(n:Nat)(f:Fact)(g:Fact):Option Int:=(iter (F_fu n f g) n 0:Option (Ctl Unit Int)).bind λh=>match h with|.cont a=>((F_bu n f).bind λd=>(F_bu n g).bind λe=>(bif Op.bytesLess (map Q3 d.1) (map Q3 e.1)then some (-1)else(bif (!(Op.bytesLess (map Q3 d.1) (map Q3 e.1)||(map Q3 d.1)==(map Q3 e.1)))then some 1 else some 0)))|.done a=>some a
theorem k_dq(n:Nat)(j:Fact)(k:Fact):Ks (F_dq n j k) 93 [.agg (Fact.c j),.agg (Fact.c k)] [] (λr=>I r):=by
 refine Kg 15 func93 Z Z Z Z λr h=>?_;refine vH (Ej (xs:=[.tmp 13,.tmp 15,.tmp 17]) (es:=map (Qe .i64) [j.At,j.Crew,j.No]) Qw Z Z Z Z Z ⟨Z,Z,Z,trivial⟩ Z Z) ?_;refine FE Z (Go 11 Z ?_);refine vH (Ej (xs:=[.tmp 20,.tmp 22,.tmp 24]) (es:=map (Qe .i64) [k.At,k.Crew,k.No]) Qw Z Z Z Z Z ⟨Z,Z,Z,trivial⟩ Z Z) ?_;refine FE Z (Go 9 Z (Bd h λB E h=>?_));refine Ji (b:=B) [0,1] [2,3] Ze Ze Zf ?_ (λO env H F G=>?_)
 .refine G0 1 Z ?_;refine Lp [0,1,2,3] [2,3,5,6] (λd=>[(7,I d)]) Ze E Zf (Lr [0,1,2,3]) λd R a g=>?_;refine G0 7 Z (Yh Z a (λt a=>?_) (λt a=>?_))
  .refine Gc 2 Z (Ql a ?_);obtain rfl:=Oj g a;exact Gx 1 Z (Qo Z (Lr [0,1]))
  refine Gc 6 Z (DSs 8 Z (D 2 Z ?_));obtain⟨J,m,a⟩:=Yq a;refine DS.v (x:=(.ptr 2 (toNat d*1))) (Qt m Z Ez EC) ?_;refine DS.v (x:=(I J)) (Ex Z EE Z (Qn m)) ?_;refine D 2 Z ?_;obtain⟨L,p,a⟩:=Yq a;refine DS.v (x:=(.ptr 3 (toNat d*1))) (Qt p Z Ez EC) ?_;refine DS.v (x:=(I L)) (Ex Z EE Z (Qn p)) ?_;refine Ef Z (Go 3 Z (Cn Z a (λu a=>?_) (λu a=>?_)))
  .refine Gc 9 Z (Qv a ?_);obtain rfl:=Oj g a;exact Gx 1 Z (Qq (Gx 1 Z (Rt h 4 [])))
  refine Gc 3 Z (DSs 8 Z (D 2 Z ?_));obtain⟨M,q,a⟩:=Yq a;refine DS.v (x:=(.ptr 2 (toNat d*1))) (Qt q Z Ez EC) ?_;refine DS.v (x:=(I M)) (Ex Z EE Z (Qn q)) ?_;refine D 2 Z ?_;obtain⟨N,s,a⟩:=Yq a;refine DS.v (x:=(.ptr 3 (toNat d*1))) (Qt s Z Ez EC) ?_;refine DS.v (x:=(I N)) (Ex Z EE Z (Qn s)) ?_;refine Ef Z (Go 3 Z (Cn Z a (λw a=>?_) (λw a=>?_)))
  .refine Gc 8 Z (Qv a ?_);obtain rfl:=Oj g a;exact Gx 1 Z (Qq (Gx 1 Z (Rt h 4 [])))
  exact Gc 8 Z (Qj a (Lr [0,1,2,3]))
 subst F;refine Gx 1 Z (Qc G (Gc 3 Z (Cd [] h (k_bu _ _) Z λe P h=>FE Z (Go 10 Z (Cd [] h (k_bu _ _) Z λf Q h=>FE Z (Go 11 Z ?_))))));refine vX (.str (map Q3 e.1)) (Qch (l:=e.1) (QjP.row (i:=2)) EF EY ED) ?_;refine Go 1 Z ?_;refine vX (.str (map Q3 f.1)) (Qch (l:=f.1) (QjP.row (i:=3)) EF EY ED) ?_;refine Go 3 Z (Cn Z h (λy h=>?_) (λy h=>?_))
 .exact Gc 7 Z (Rt h 4 [])
 refine Gc 6 Z ?_;refine vX (.str (map Q3 e.1)) (Qch (l:=e.1) (QjP.row (i:=2)) EF EY ED) ?_;refine Go 1 Z ?_;refine vX (.str (map Q3 f.1)) (Qch (l:=f.1) (QjP.row (i:=3)) EF EY ED) ?_;refine vX (.bool (!(Op.bytesLess (map Q3 e.1) (map Q3 f.1)||(map Q3 e.1)==(map Q3 f.1)))) (QlI Z Z Z) ?_;refine Go 2 Z (Cn Z h (λz h=>?_) (λz h=>?_))
 .exact Gc 7 Z (Rt h 4 [])
 exact Gc 8 Z (Rt h 4 [])
def F_dh(n:Nat)(i:List Fact)(d:(List Fact)×Int)(a:Int):Option (Ctl Int Int):=((bif decide (a<(d.1.length:Int))then(idx d.1 a).bind λe=>(idx i d.2).bind λf=>(F_dq n e f).bind λg=>some (decide (g<0))else some false):Option Bool).bind λh=>(bif h then some (.cont (i64.wrap (a+1)))else some (.done a))
def F_kf(n:Nat)(e:List Fact)(a:(List Fact)×Int):Option (Ctl ((List Fact)×Int) (List Fact)):=(bif decide (a.2<(e.length:Int))then((idx e a.2).bind λf=>(F_bl n f).bind λg=>(bif (g != 0)then some a.1 else(iter (F_dh n e a) n 0:Option Int).bind λd=>((bif decide (d<(a.1.length:Int))then(idx a.1 d).bind λh=>(idx e a.2).bind λi=>some (h==i)else some false):Option Bool).bind λj=>(bif j then some a.1 else(slc a.1 0 d).bind λk=>(app ([]:List Fact) k).bind λl=>(idx e a.2).bind λm=>(app l [m]).bind λp=>(slc a.1 d (a.1.length:Int)).bind λq=>(app p q).bind λr=>some r)):Option (List Fact)).bind λs=>some (.cont (s,i64.wrap (a.2+1)))else some (.done a.1))
def F_fa(n:Nat)(d:List Fact):Option (List Fact):=(iter (F_kf n d) n (([]:List Fact),0):Option (List Fact)).bind λa=>some a
theorem k_fa(n:Nat)(R:List Fact):Kq (F_fa n R) 44 [.rsl 57 (map Fact.c R)] [] (λr=>.osl 0 0 r.length 57) (λr=>[.row 96 57 (map Fact.c r)]):=by
 refine Kg 7 func44 Z Z Z Z λr h=>?_;refine vH (Ej (xs:=[]) (es:=map Fact.c []) QaT Z Z Z Z Z trivial Z Z) ?_;refine FE Z (Go 9 Z (Bd h λy aj h=>?_));refine Ct y [0] [] (λy=>[(3,.osl 0 0 y.length 57)]) (λy=>[(0,.row 96 57 (map Fact.c y))]) Zf ?_ (λenv H u=>?_)
 .refine G0 1 Z ?_;refine Lp [0] [0] (λi=>[(3,.osl 0 0 i.1.length 57),(4,I i.2)]) (λi=>[(0,.row 96 57 (map Fact.c i.1))]) aj Zf (Lr [0]) λi ao s T=>?_;refine G0 5 Z (Lm Z (Go 3 Z (Yh Z s (λV s=>?_) (λV s=>?_))))
  .refine Gc 2 Z (Ql s ?_);obtain rfl:=Oj T s;exact Gx 1 Z (QI (Lr [0]))
  refine Gc 3 Z (Bd s λz g s=>?_);refine Ct z [0] [0,4] (λz=>[(3,.osl 0 0 z.length 57)]) (λz=>[(0,.row 96 57 (map Fact.c z))]) Zf ?_ (λenv H u=>?_)
  .refine G0 6 Z (Bd g λaq W g=>Iz W Z (Go 1 Z (Cz [] g (k_bl _ _) Z λar am g=>Go 3 Z (Cn Z g (λX g=>?_) (λX g=>?_)))))
   .exact Gc 3 Z (Cl g [0])
   refine Gc 8 Z (Bd g λj ak g=>?_);refine Ct j [0] [0,3,4] (λj=>[(5,I j)]) Ze Zf ?_ (λenv H u=>?_)
   .refine G0 1 Z ?_;refine Lp [0] [0,3,4] (λG=>[(5,I G)]) Ze ak Zf (Lr [0]) λG au t Y=>?_;refine G0 2 Z (Bd t λJ k t=>?_);refine Ct J [0] [0,3,4,5] (λJ=>[(34,.bool J)]) Ze Zf ?_ (λenv H u=>?_)
    .refine G0 0 Z (DSs 13 Z (D 5 Z (Qar 4 k Z Z Z (λaa k=>?_) (λaa k=>?_))))
     .refine D 2 Z ?_;obtain⟨al,N,k⟩:=Yq k;refine DS.v (x:=(.ptr 0 (toNat G*57))) (Qt N Z EA EB) ?_ (hg:=(gT Z));refine DS.v (x:=(.agg (Fact.c al))) (QE Z EO EB Z (Qn N) Z Z) ?_ (hg:=(gT Z));refine D 2 Z ?_;obtain⟨f,ab,k⟩:=Yq k;refine DS.v (x:=(.rp [I f.Crew,I f.No,I f.At,I f.Kind,I f.Starter.Bib,I f.Starter.Distance,I f.Starter.Wave,I f.Starter.Slot,I f.Starter.Age,I f.Starter.Chip,I f.Starter.Team,I f.Starter.Lot,I f.Read.Mat,I f.Read.Epoch,I f.Read.Chip,I f.Read.Local,I f.Beacon.Mat,I f.Beacon.Epoch,I f.Beacon.Local,I f.Beacon.True,I f.Beacon.Err,I f.Sync.MatA,I f.Sync.EpochA,I f.Sync.LocalA,I f.Sync.MatB,I f.Sync.EpochB,I f.Sync.LocalB,I f.Sync.Min,I f.Sync.Max,I f.Hand.Bib,I f.Hand.Position,I f.Hand.Lo,I f.Hand.Hi,I f.Silence.Mat,I f.Silence.Epoch,I f.Silence.Lo,I f.Silence.Hi,I f.Pair.A,I f.Pair.B,I f.Report.Case,I f.Report.Bib,I f.Report.Offence,I f.Report.Position,I f.Protest.Case,I f.Protest.By,I f.Protest.Fee,I f.Protest.Form,I f.Ruling.Case,I f.Ruling.Instance,I f.Ruling.Kind,I f.Ruling.Bib,I f.Ruling.Position,I f.Ruling.Amount,I f.Appeal.Case,.bool f.Appeal.Suspends,I f.Void.Crew,I f.Void.No])) (Qdn (e:=Fact.c) (l:=R) (v:=f) ab EA EB) ?_ (hg:=(gT Z));exact D 1 Z (Ef Z (Cz [] k (k_dq _ _ _) Z λav an k=>Go 3 Z (Cl k [0])))
     .exact D 8 Z (Ef Z (Go 4 Z (Cl k [0])))
    refine Gx 1 Z (Qc u (Yh Z t (λac t=>?_) (λac t=>?_)))
    .refine Gc 2 Z (Ql t ?_);obtain rfl:=Oj Y t;exact Gx 1 Z (QI (Lr [0]))
    exact Gc 9 Z (Qj t (Lr [0]))
   refine Gx 1 Z (Qc u (Gc 2 Z (Bd g λL m g=>?_)));refine Ct L [0] [0,3,4,5] (λL=>[(51,.bool L)]) Ze Zf ?_ (λenv H u=>?_)
   .refine G0 0 Z (DSs 13 Z (D 5 Z (Qar 4 m Z Z Z (λad m=>?_) (λad m=>?_))))
    .refine D 2 Z ?_;obtain⟨M,O,m⟩:=Yq m;refine DS.v (x:=(.ptr 0 (toNat j*57))) (Qt O Z EA EB) ?_ (hg:=(gT Z));refine DS.v (x:=(.agg (Fact.c M))) (QE Z EO EB Z (Qn O) Z Z) ?_ (hg:=(gT Z));refine D 2 Z ?_;obtain⟨d,ae,m⟩:=Yq m;refine DS.v (x:=(.rp [I d.Crew,I d.No,I d.At,I d.Kind,I d.Starter.Bib,I d.Starter.Distance,I d.Starter.Wave,I d.Starter.Slot,I d.Starter.Age,I d.Starter.Chip,I d.Starter.Team,I d.Starter.Lot,I d.Read.Mat,I d.Read.Epoch,I d.Read.Chip,I d.Read.Local,I d.Beacon.Mat,I d.Beacon.Epoch,I d.Beacon.Local,I d.Beacon.True,I d.Beacon.Err,I d.Sync.MatA,I d.Sync.EpochA,I d.Sync.LocalA,I d.Sync.MatB,I d.Sync.EpochB,I d.Sync.LocalB,I d.Sync.Min,I d.Sync.Max,I d.Hand.Bib,I d.Hand.Position,I d.Hand.Lo,I d.Hand.Hi,I d.Silence.Mat,I d.Silence.Epoch,I d.Silence.Lo,I d.Silence.Hi,I d.Pair.A,I d.Pair.B,I d.Report.Case,I d.Report.Bib,I d.Report.Offence,I d.Report.Position,I d.Protest.Case,I d.Protest.By,I d.Protest.Fee,I d.Protest.Form,I d.Ruling.Case,I d.Ruling.Instance,I d.Ruling.Kind,I d.Ruling.Bib,I d.Ruling.Position,I d.Ruling.Amount,I d.Appeal.Case,.bool d.Appeal.Suspends,I d.Void.Crew,I d.Void.No])) (Qdn (e:=Fact.c) (l:=R) (v:=d) ae EA EB) ?_ (hg:=(gT Z));refine D 1 Z (Ef Z ?_);refine vX (.bool (M==d)) (Qcj (p:=M) (q:=d) Qhv Z Z) ?_ (gT Z);exact Go 2 Z (Cl m [0])
    .exact D 8 Z (Ef Z (Go 3 Z (Cl m [0])))
   refine Gx 1 Z (Qc u (Cn Z g (λaf g=>?_) (λaf g=>?_)))
   .exact Gc 3 Z (Cl g [0])
   refine Gc 2 Z (DKs 14 [0,4,10] [(1,0,0),(0,0,1),(0,0,1),(0,0,1),(1,1,0),(0,0,2),(0,0,2),(0,0,2),(0,0,2),(0,0,2),(1,2,0),(0,0,3),(0,0,3),(0,0,3)] (by kernel_rfl) ?_);refine DK.op (x:=.osl 1 0 (([]:List Fact).length) 57) (X1:=[.row 96 57 (map Fact.c i.1),.row 96 57 (map Fact.c ([]:List Fact))]) ?_ ?_
   .refine vH (Ej (xs:=[]) (es:=map Fact.c []) QaT Z Z Z Z Z trivial Z Z) ?_;exact FE Z Wp
   refine Dk 2 Z ?_;obtain⟨aw,E,g⟩:=Yq g;refine Qi2 (lo:=0) (hi:=1) (x:=.osl 0 (0+toNat 0) (toNat j-toNat 0) 57) ⟨?_,?_,trivial⟩ ?_
   iterate 2 refine vX (.osl 0 (0+toNat 0) (toNat j-toNat 0) 57) (YT (l:=i.1) E EA EB (.inl ⟨Z,Z⟩) (.inr ⟨_,Z,Z⟩)) ?_;exact Wp
   obtain⟨P,ag,g⟩:=Yq g;refine DK.op (x:=.osl 2 0 P.length 57) (X1:=[.row 96 57 (map Fact.c i.1),.dead,.row 96 57 (map Fact.c P)]) ?_ ?_
   .refine vH (Qs (e:=Fact.c) ag QaT EA (QjQ (b:=0) E)) ?_;exact FE Z Wp
   refine Dk 2 Z ?_;obtain⟨a,F,g⟩:=Yq g;refine Qi2 (lo:=0) (hi:=2) (x:=.rp [I a.Crew,I a.No,I a.At,I a.Kind,I a.Starter.Bib,I a.Starter.Distance,I a.Starter.Wave,I a.Starter.Slot,I a.Starter.Age,I a.Starter.Chip,I a.Starter.Team,I a.Starter.Lot,I a.Read.Mat,I a.Read.Epoch,I a.Read.Chip,I a.Read.Local,I a.Beacon.Mat,I a.Beacon.Epoch,I a.Beacon.Local,I a.Beacon.True,I a.Beacon.Err,I a.Sync.MatA,I a.Sync.EpochA,I a.Sync.LocalA,I a.Sync.MatB,I a.Sync.EpochB,I a.Sync.LocalB,I a.Sync.Min,I a.Sync.Max,I a.Hand.Bib,I a.Hand.Position,I a.Hand.Lo,I a.Hand.Hi,I a.Silence.Mat,I a.Silence.Epoch,I a.Silence.Lo,I a.Silence.Hi,I a.Pair.A,I a.Pair.B,I a.Report.Case,I a.Report.Bib,I a.Report.Offence,I a.Report.Position,I a.Protest.Case,I a.Protest.By,I a.Protest.Fee,I a.Protest.Form,I a.Ruling.Case,I a.Ruling.Instance,I a.Ruling.Kind,I a.Ruling.Bib,I a.Ruling.Position,I a.Ruling.Amount,I a.Appeal.Case,.bool a.Appeal.Suspends,I a.Void.Crew,I a.Void.No]) ⟨?_,?_,?_,trivial⟩ ?_
   iterate 3 exact Ix F EA EB Z Wp
   refine Dk 1 Z ?_;refine Qi2 (lo:=0) (hi:=2) (x:=.rsl 57 (map Fact.c [a])) ⟨?_,?_,?_,trivial⟩ ?_
   iterate 3 refine vH (YE (xs:=[.tmp 60]) (es:=map Fact.c [a]) QaT Z Z Z Z Z ⟨Z,trivial⟩ Z Z) ?_;exact FE Z Wp
   obtain⟨Q,ah,g⟩:=Yq g;refine DK.op (x:=.osl 3 0 Q.length 57) (X1:=[.row 96 57 (map Fact.c i.1),.dead,.dead,.row 96 57 (map Fact.c Q)]) ?_ ?_
   .refine vH (Qs (e:=Fact.c) ah QaT EA QbY) ?_;exact FE Z Wp
   refine Dk 2 Z ?_;obtain⟨ax,w,g⟩:=Yq g;refine Qi2 (lo:=0) (hi:=3) (x:=.osl 0 (0+toNat j) (toNat (i.1.length:Int)-toNat j) 57) ⟨?_,?_,?_,?_,trivial⟩ ?_
   iterate 4 refine vX (.osl 0 (0+toNat j) (toNat (i.1.length:Int)-toNat j) 57) (YT (l:=i.1) w EA EB (.inr ⟨_,Z,Z⟩) (.inl ⟨Z,Z⟩)) ?_;exact Wp
   refine DK.done Z Z (Bd g λay ai g=>?_);refine vH (Qs (e:=Fact.c) ai QaT EA (QjQ (b:=0) w)) ?_;exact FE Z (Go 3 Z (Cl g [4]))
  exact Gx 1 Z (Qc u (Gc 5 Z (Qj s (Lr [0]))))
 exact Gx 1 Z (Qc u (Gc 7 Z (Rt h 2 [0])))
def F_be(n:Nat)(d:Course)(a:Int):Option Bool:=((bif decide (0<=a)then some (decide (a<(d.Mats.length:Int)))else some false):Option Bool).bind λb2=>some b2
theorem k_be(n:Nat)(d:Course)(e:Int):Ks (F_be n d e) 48 [.agg (Course.c d),I e] [] (λr=>.bool r):=by
 refine Kg 7 func48 Z Z Z Z λr h=>Bd h λb2 a h=>?_;refine Ct b2 [] [] (λb2=>[(4,.bool b2)]) Ze Zf ?_ (λenv H f=>?_)
 .refine G0 4 Z (Is 7 a Z (λg a=>?_) (λg a=>?_))
  .exact Go 3 Z (Lm Z (Go 4 Z (Cl a [])))
  .exact Go 8 Z (Cl a [])
 exact Gx 1 Z (Qc f (Gc 1 Z (Rt h 4 [])))
def F_bc(n:Nat)(a:Course)(d:Int):Option Bool:=(idx a.Mats d).bind λe=>some (e.Kind==1)
theorem k_bc(n:Nat)(a:Course)(d:Int):Ks (F_bc n a d) 94 [.agg (Course.c a),I d] [] (λr=>.bool r):=by
 exact Kg 11 func94 Z Z Z Z λr h=>Bd h λf e h=>Iz e Z (Go 7 Z (Rt h 4 []))
def F_ci(n:Nat)(a:Segment)(d:Segment):Option Bool:=((bif decide (a.Mat<d.Mat)then some true else(bif (a.Mat==d.Mat)then some (decide (a.Epoch<d.Epoch))else some false)):Option Bool).bind λe=>some e
theorem k_ci(n:Nat)(e:Segment)(f:Segment):Ks (F_ci n e f) 59 [.agg (Segment.c e),.agg (Segment.c f)] [] (λr=>.bool r):=by
 refine Kg 8 func59 Z Z Z Z λr h=>Bd h λd a h=>?_;refine Ct d [] [] (λd=>[(4,.bool d)]) Ze Zf ?_ (λenv H g=>?_)
 .refine G0 7 Z (Is 10 a Z (λi a=>?_) (λi a=>?_))
  .exact Go 15 Z (Cl a [])
  .refine Go 6 Z (Is 16 a Z (λj a=>?_) (λj a=>?_))
   iterate 2 exact Go 9 Z (Cl a [])
 exact Gx 1 Z (Qc g (Gc 1 Z (Rt h 4 [])))
def F_fm(n:Nat)(d:List Segment)(h:Int)(i:Int)(a:Int):Option (Ctl Int Int):=((bif decide (a<(d.length:Int))then(idx d a).bind λe=>(F_ci n e ({Mat:=h,Epoch:=i,Anchor:=0:Segment})).bind λf=>some f else some false):Option Bool).bind λg=>(bif g then some (.cont (i64.wrap (a+1)))else some (.done a))
def F_ak(n:Nat)(g:Course)(a:List Segment)(e:Int)(f:Int):Option (List Segment):=((F_be n g e).bind λq=>(bif (!q)then some true else(F_bc n g e).bind λr=>some r):Option Bool).bind λs=>(bif s then some a else(iter (F_fm n a e f) n 0:Option Int).bind λd=>((bif decide (d<(a.length:Int))then(idx a d).bind λh=>(bif (h.Mat==e)then(idx a d).bind λi=>some (i.Epoch==f)else some false)else some false):Option Bool).bind λj=>(bif j then some a else(slc a d (a.length:Int)).bind λk=>(app [{Mat:=e,Epoch:=f,Anchor:=0:Segment}] k).bind λl=>(slc a 0 d).bind λm=>(app m l).bind λp=>some p))
theorem k_ak(n:Nat)(V:Course)(m:List Segment)(F:Int)(G:Int):Kq (F_ak n V m F G) 45 [.agg (Course.c V),.osl 0 0 m.length 3,I F,I G] [.row 36 3 (map Segment.c m)] (λr=>.osl 1 0 r.length 3) (λr=>[.dead,.row 36 3 (map Segment.c r)]):=by
 refine Kg 8 func45 Z Z Z Z λr h=>Bd h λJ p h=>?_;refine Ct J [0] [1,2,3] (λJ=>[(20,.bool J)]) Ze Zf ?_ (λenv H k=>?_)
 .refine G0 3 Z (Cz [] p (k_be _ _ _) Z λr6 ae p=>Go 2 Z (Is 16 p Z (λW p=>?_) (λW p=>?_)))
  .exact Go 5 Z (Cl p [0])
  .exact Go 2 Z (Cz [] p (k_bc _ _ _) Z λr8 af p=>Go 2 Z (Cl p [0]))
 refine Gx 1 Z (Qc k (Cn Z h (λX h=>?_) (λX h=>?_)))
 .refine Gc 8 Z ?_;obtain rfl:=Oi h;refine R1 8 Z ?_;refine Em (QdN (s:=8) (i:=0) Z Z Z) ?_;exact Lr [0,1]
 refine Gc 17 Z (Bd h λd Y h=>?_);refine Ct d [0,1] [1,2,3,9] (λd=>[(10,I d)]) Ze Zf ?_ (λenv H k=>?_)
 .refine G0 1 Z ?_;refine Lp [0,1] [1,2,3,9] (λt=>[(10,I t)]) Ze Y Zf (Lr [0,1]) λt ag j L=>?_;refine G0 2 Z (Bd j λu g j=>?_);refine Ct u [0,1] [1,2,3,9,10] (λu=>[(36,.bool u)]) Ze Zf ?_ (λenv H k=>?_)
  .refine G0 0 Z (DSs 10 Z (D 5 Z (Qar 4 g Z Z Z (λM g=>?_) (λM g=>?_))))
   .refine D 2 Z ?_;obtain⟨aa,w,g⟩:=Yq g;refine DS.v (x:=(.ptr 0 (toNat t*3))) (Qt w Z EG EL) ?_ (hg:=(gT Z));refine DS.v (x:=(.agg (Segment.c aa))) (QE Z isAgg36 EL Z (Qn w) Z Z) ?_ (hg:=(gT Z));exact D 1 Z (Ef Z (Cz [] g (k_ci _ _ _) Z λah ad g=>Go 2 Z (Cl g [0,1])))
   .exact D 5 Z (Ef Z (Go 3 Z (Cl g [0,1])))
  refine Gx 1 Z (Qc k (Yh Z j (λN j=>?_) (λN j=>?_)))
  .refine Gc 2 Z (Ql j ?_);obtain rfl:=Oj L j;exact Gx 1 Z (QI (Lr [0,1]))
  exact Gc 9 Z (Qj j (Lr [0,1]))
 refine Gx 1 Z (Qc k (Gc 2 Z (Bd h λy a h=>?_)));refine Ct y [0,1] [1,9,10] (λy=>[(60,.bool y)]) Ze Zf ?_ (λenv H k=>?_)
 .refine G0 6 Z (Is 43 a Z (λO a=>?_) (λO a=>?_))
  .refine Go 2 Z (Bd a λab z a=>?_);refine vX (.ptr 0 (toNat d*3)) (Qt z Z EG EL) ?_ (gT Z);refine Fpg (gT Z) Qku Z ?_;refine vX (I ab.Mat) (Ex Z EE Z (Qn z)) ?_ (gT Z);refine Go 4 Z (Is 52 a Z (λP a=>?_) (λP a=>?_))
   .refine Go 2 Z (Bd a λac B a=>?_);refine vX (.ptr 0 (toNat d*3)) (Qt B Z EG EL) ?_ (gT Z);refine Fpg (gT Z) Qkt Z ?_;refine vX (I ac.Epoch) (Ex Z EE Z (YA (f:=1) B)) ?_ (gT Z);exact Go 4 Z (Cl a [0,1])
   .exact Go 9 Z (Cl a [0,1])
  .exact Go 18 Z (Cl a [0,1])
 refine Gx 1 Z (Qc k (Cn Z h (λQ h=>?_) (λQ h=>?_)))
 .refine Gc 8 Z ?_;obtain rfl:=Oi h;refine R1 8 Z ?_;refine Em (QdN (s:=8) (i:=0) Z Z Z) ?_;exact Lr [0,2]
 refine Gc 3 Z (DAs 5 1 [0,1,3,3,3] (by kernel_rfl) (Da 1 Z ?_));refine QbA (Ej (xs:=[.tmp 62]) (es:=map Segment.c [{Mat:=F,Epoch:=G,Anchor:=0:Segment}]) QgH Z Z Z Z Z ⟨Z,trivial⟩ Z Z) Z Z (Db 2 Z ?_);obtain⟨ai,q,h⟩:=Yq h;refine DB.wo2 (x:=.osl 0 (0+toNat d) (toNat (m.length:Int)-toNat d) 3) ?_ ?_ ?_
 iterate 2 refine vX (.osl 0 (0+toNat d) (toNat (m.length:Int)-toNat d) 3) (YT (l:=m) q EG EL (.inr ⟨_,Z,Z⟩) (.inl ⟨Z,Z⟩)) ?_;exact Wp
 refine DB.done Z (Bd h λaj R h=>?_);refine vH (Qs (e:=Segment.c) R QgH EG (QjQ (b:=0) q)) ?_;refine FE Z (Go 8 Z (Bd h λak E h=>?_));refine vX (.osl 0 (0+toNat 0) (toNat d-toNat 0) 3) (Qno (l:=m) E EG EL) ?_;refine Go 1 Z (Bd h λal T h=>?_);refine vH (Qnq (e:=Segment.c) E T QgH EG (QX (i:=3))) ?_;exact FE Z (Go 4 Z (Rt h 8 [0,4]))
def F_iy(n:Nat)(f:Course)(d:List Fact)(a:(List Segment)×Int):Option (Ctl ((List Segment)×Int) (List Segment)):=(bif decide (a.2<(d.length:Int))then(idx d a.2).bind λe=>((bif (e.Kind==2)then(idx d a.2).bind λt=>(idx d a.2).bind λg=>(F_ak n f a.1 t.Read.Mat g.Read.Epoch).bind λh=>some h else(bif (e.Kind==3)then(idx d a.2).bind λi=>(idx d a.2).bind λj=>(F_ak n f a.1 i.Beacon.Mat j.Beacon.Epoch).bind λk=>some k else(bif (e.Kind==4)then(idx d a.2).bind λl=>(idx d a.2).bind λm=>(F_ak n f a.1 l.Sync.MatA m.Sync.EpochA).bind λp=>(idx d a.2).bind λq=>(idx d a.2).bind λr=>(F_ak n f p q.Sync.MatB r.Sync.EpochB).bind λs=>some s else some a.1))):Option (List Segment)).bind λu=>some (.cont (u,i64.wrap (a.2+1)))else some (.done a.1))
def F_hi(n:Nat)(m:List Fact)(d:(List Segment)×Int)(a:(List Segment)×Int):Option (Ctl ((List Segment)×Int) (List Segment)):=(bif decide (0<=a.2)then(idx m a.2).bind λe=>((idx m a.2).bind λg=>(bif (g.Kind==3)then(idx a.1 d.2).bind λh=>(bif (e.Beacon.Mat==h.Mat)then(idx a.1 d.2).bind λi=>some (e.Beacon.Epoch==i.Epoch)else some false)else some false):Option Bool).bind λj=>((bif j then(idx a.1 d.2).bind λf=>(Qbj a.1 d.2 ({Mat:=f.Mat,Epoch:=f.Epoch,Anchor:=e.Beacon.Local:Segment})).bind λk=>some k else some a.1):Option (List Segment)).bind λl=>some (.cont (l,i64.wrap (a.2-1)))else some (.done a.1))
def F_ft(n:Nat)(e:List Fact)(a:(List Segment)×Int):Option (Ctl ((List Segment)×Int) (List Segment)):=(bif decide (a.2<(a.1.length:Int))then(iter (F_hi n e a) n (a.1,i64.wrap ((e.length:Int)-1)):Option (List Segment)).bind λd=>some (.cont (d,i64.wrap (a.2+1)))else some (.done a.1))
def F_dp(n:Nat)(e:Course)(h:List Fact):Option ((List Segment)×Int):=(F_ax n e).bind λf=>(bif (f != 0)then some ([],f)else(F_fa n h).bind λg=>(iter (F_iy n e g) n (([]:List Segment),0):Option (List Segment)).bind λa=>(bif decide (511<(a.length:Int))then some ([],2)else(iter (F_ft n g) n (a,0):Option (List Segment)).bind λd=>some (d,0)))
theorem k_dp(n:Nat)(a1:Course)(a2:List Fact):Kq (F_dp n a1 a2) 14 [.agg (Course.c a1),.rsl 57 (map Fact.c a2)] [] (λr=>.tup [.osl 0 0 r.1.length 3,I r.2]) (λr=>[.row 36 3 (map Segment.c r.1)]):=by
 refine Kg 10 func14 Z Z Z Z λr h=>Cz [] h (k_ax _ _) Z λr1 bu h=>Go 10 Z (Cn Z h (λbe h=>?_) (λbe h=>?_))
 .refine Gc 9 Z ?_;obtain rfl:=Oi h;refine R2 4 5 Z Z ?_;refine Em (Ep (s:=4) (k:=3) (t:=36) (XP Z) Z) ?_;exact Lr [1]
 refine Gc 5 Z (Cd [] h (k_fa _ _) Z λr3 bv h=>FE Z (Go 5 Z ?_));refine vH (Ej (xs:=[]) (es:=map Segment.c []) QgH Z Z Z Z Z trivial Z Z) ?_;refine FE Z (Go 9 Z (Bd h λE bf h=>?_));refine Ct E [1,2] [7] (λE=>[(8,.osl 1 0 E.length 3)]) (λE=>[(1,.row 36 3 (map Segment.c E))]) Zf ?_ (λenv H m=>?_)
 .refine G0 1 Z ?_;refine Lp [0,1,2] [2,7] (λd=>[(8,.osl 2 0 d.1.length 3),(9,I d.2)]) (λd=>[(2,.row 36 3 (map Segment.c d.1))]) bf Zf (Lr [0,1,2]) λd bw u al=>?_;refine G0 9 Z (Yh Z u (λam u=>?_) (λam u=>?_))
  .refine Gc 2 Z (Ql u ?_);obtain rfl:=Oj al u;exact Gx 1 Z (QI (Lr [1,2]))
  refine Gc 8 Z (Bd u λbg Y u=>?_);refine vX (.ptr 1 (toNat d.2*57)) (Qt Y Z EA EB) ?_;refine Fp Qkr Z ?_;refine vX (I bg.Kind) (Ex Z EE Z (YA (f:=3) Y)) ?_;refine Go 9 Z (Bd u λF a u=>?_);refine Ct F [0,1,0] [2,7,9] (λF=>[(8,.osl 2 0 F.length 3)]) (λF=>[(2,.row 36 3 (map Segment.c F))]) Zf ?_ (λenv H m=>?_)
  .refine G0 0 Z (Cn Z a (λan a=>?_) (λan a=>?_))
   .refine DSs 14 Z (D 4 Z ?_);obtain⟨bh,aa,a⟩:=Yq a;refine DS.v (x:=(.ptr 1 (toNat d.2*57))) (Qt aa Z EA EB) ?_;refine DS.wo (x:=.ptr 1 (toNat d.2*57+12)) ?_ ?_
    .exact Fp Qkq Z Wp
    refine DS.wo (x:=.ptr 1 (toNat d.2*57+12)) ?_ ?_
    .exact Fp Qob Z Wp
    refine DS.v (x:=(I bh.Read.Mat)) (Ex Z EE Z (YA (f:=12) aa)) ?_;refine D 2 Z ?_;obtain⟨ao,J,a⟩:=Yq a;refine DS.v (x:=(.ptr 1 (toNat d.2*57))) (Qt J Z EA EB) ?_;refine DS.wo (x:=.ptr 1 (toNat d.2*57+12)) ?_ ?_
    .exact Fp Qkq Z Wp
    refine DS.wo (x:=.ptr 1 (toNat d.2*57+13)) ?_ ?_
    .exact Fp Qoa Z Wp
    refine DS.v (x:=(I ao.Read.Epoch)) (Ex Z EE Z (YA (f:=13) J)) ?_;exact Ef Z (Cd [2] a (k_ak _ _ _ _ _) Z λbm bi a=>FE Z (Go 2 Z (Cl a [0,1,3])))
   refine Gc 6 Z (Cn Z a (λab a=>?_) (λab a=>?_))
   .refine DSs 14 Z (D 4 Z ?_);obtain⟨aq,L,a⟩:=Yq a;refine DS.v (x:=(.ptr 1 (toNat d.2*57))) (Qt L Z EA EB) ?_;refine DS.wo (x:=.ptr 1 (toNat d.2*57+16)) ?_ ?_
    .exact Fp Qhi Z Wp
    refine DS.wo (x:=.ptr 1 (toNat d.2*57+16)) ?_ ?_
    .exact Fp Qn9 Z Wp
    refine DS.v (x:=(I aq.Beacon.Mat)) (Ex Z EE Z (YA (f:=16) L)) ?_;refine D 2 Z ?_;obtain⟨ar,M,a⟩:=Yq a;refine DS.v (x:=(.ptr 1 (toNat d.2*57))) (Qt M Z EA EB) ?_;refine DS.wo (x:=.ptr 1 (toNat d.2*57+16)) ?_ ?_
    .exact Fp Qhi Z Wp
    refine DS.wo (x:=.ptr 1 (toNat d.2*57+17)) ?_ ?_
    .exact Fp Qn8 Z Wp
    refine DS.v (x:=(I ar.Beacon.Epoch)) (Ex Z EE Z (YA (f:=17) M)) ?_;exact Ef Z (Cd [2] a (k_ak _ _ _ _ _) Z λbn bj a=>FE Z (Go 2 Z (Cl a [0,1,3])))
   refine Gc 6 Z (Cn Z a (λac a=>?_) (λac a=>?_))
   .refine Gc 1 Z (DSs 14 Z (D 4 Z ?_));obtain⟨au,N,a⟩:=Yq a;refine DS.v (x:=(.ptr 1 (toNat d.2*57))) (Qt N Z EA EB) ?_;refine DS.wo (x:=.ptr 1 (toNat d.2*57+21)) ?_ ?_
    .exact Fp QeA Z Wp
    refine DS.wo (x:=.ptr 1 (toNat d.2*57+21)) ?_ ?_
    .exact Fp Qn7 Z Wp
    refine DS.v (x:=(I au.Sync.MatA)) (Ex Z EE Z (YA (f:=21) N)) ?_;refine D 2 Z ?_;obtain⟨av,O,a⟩:=Yq a;refine DS.v (x:=(.ptr 1 (toNat d.2*57))) (Qt O Z EA EB) ?_;refine DS.wo (x:=.ptr 1 (toNat d.2*57+21)) ?_ ?_
    .exact Fp QeA Z Wp
    refine DS.wo (x:=.ptr 1 (toNat d.2*57+22)) ?_ ?_
    .exact Fp Qn6 Z Wp
    refine DS.v (x:=(I av.Sync.EpochA)) (Ex Z EE Z (YA (f:=22) O)) ?_;refine Ef Z (Cd [2] a (k_ak _ _ _ _ _) Z λbo bk a=>FE Z (Go 3 Z (DSs 14 Z (D 4 Z ?_))));obtain⟨aw,P,a⟩:=Yq a;refine DS.v (x:=(.ptr 1 (toNat d.2*57))) (Qt P Z EA EB) ?_;refine DS.wo (x:=.ptr 1 (toNat d.2*57+21)) ?_ ?_
    .exact Fp QeA Z Wp
    refine DS.wo (x:=.ptr 1 (toNat d.2*57+24)) ?_ ?_
    .exact Fp Qn5 Z Wp
    refine DS.v (x:=(I aw.Sync.MatB)) (Ex Z EE Z (YA (f:=24) P)) ?_;refine D 2 Z ?_;obtain⟨ax,Q,a⟩:=Yq a;refine DS.v (x:=(.ptr 1 (toNat d.2*57))) (Qt Q Z EA EB) ?_;refine DS.wo (x:=.ptr 1 (toNat d.2*57+21)) ?_ ?_
    .exact Fp QeA Z Wp
    refine DS.wo (x:=.ptr 1 (toNat d.2*57+25)) ?_ ?_
    .exact Fp Qn4 Z Wp
    refine DS.v (x:=(I ax.Sync.EpochB)) (Ex Z EE Z (YA (f:=25) Q)) ?_;exact Ef Z (Cd [3] a (k_ak _ _ _ _ _) Z λbp bl a=>FE Z (Go 2 Z (Cl a [0,1,4])))
   exact Gc 1 Z (Cl a [0,1,2])
  exact Gx 3 Z (Qc m (Gc 5 Z (Qj u (Lr [0,1,2]))))
 refine Gx 1 Z (Qc m (Gc 8 Z (Cn Z h (λad h=>?_) (λad h=>?_))))
 .refine Gc 8 Z ?_;obtain rfl:=Oi h;refine R2 4 5 Z Z ?_;refine Em (Ep (s:=4) (k:=3) (t:=36) (XP Z) Z) ?_;exact Lr [2]
 refine Gc 8 Z (Bd h λw ay h=>?_);refine Ct w [1] [] (λw=>[(8,.osl 0 0 w.length 3)]) (λw=>[(0,.row 36 3 (map Segment.c w))]) Zf ?_ (λenv H m=>?_)
 .refine G0 1 Z ?_;refine Lp [0,1] [7] (λj=>[(8,.osl 1 0 j.1.length 3),(10,I j.2)]) (λj=>[(1,.row 36 3 (map Segment.c j.1))]) ay Zf (Lr [0,1]) λj bq p ae=>?_;refine G0 9 Z (Yh Z p (λaf p=>?_) (λaf p=>?_))
  .refine Gc 2 Z (Ql p ?_);obtain rfl:=Oj ae p;exact Gx 1 Z (QI (Lr [1]))
  refine Gc 12 Z (Bd p λy az p=>?_);refine Ct y [0,1] [7,10] (λy=>[(8,.osl 1 0 y.length 3)]) (λy=>[(1,.row 36 3 (map Segment.c y))]) Zf ?_ (λenv H m=>?_)
  .refine G0 1 Z ?_;refine Lp [0,1] [7,10] (λq=>[(8,.osl 1 0 q.1.length 3),(11,I q.2)]) (λq=>[(1,.row 36 3 (map Segment.c q.1))]) az Zf (Lr [0,1]) λq br i ag=>?_;refine G0 7 Z (Yh Z i (λah i=>?_) (λah i=>?_))
   .refine Gc 2 Z (Ql i ?_);obtain rfl:=Oj ag i;exact Gx 1 Z (QI (Lr [0,1]))
   refine Gc 8 Z (Bd i λba R i=>?_);refine vX (.ptr 0 (toNat q.2*57)) (Qt R Z EA EB) ?_;refine Fp Qhi Z ?_;refine vX (.agg (Beacon.c ba.Beacon)) (QE Z isAgg76 sizeOf76 Z (YA (f:=16) R) Z Z) ?_;refine Go 5 Z (Bd i λG g i=>?_);refine Ct G [0,1,2] [7,8,10,11,12] (λG=>[(144,.bool G)]) Ze Zf ?_ (λenv H m=>?_)
   .refine G0 0 Z (DSs 24 Z (D 2 Z ?_));obtain⟨bb,T,g⟩:=Yq g;refine DS.v (x:=(.ptr 0 (toNat q.2*57))) (Qt T Z EA EB) ?_;refine DS.wo (x:=.ptr 0 (toNat q.2*57+3)) ?_ ?_
    .exact Fp Qkr Z Wp
    refine DS.v (x:=(I bb.Kind)) (Ex Z EE Z (YA (f:=3) T)) ?_;refine D 2 Z (Qar 6 g Z Z Z (λai g=>?_) (λai g=>?_))
    .refine D 4 Z ?_;obtain⟨bc,V,g⟩:=Yq g;refine DS.v (x:=(.ptr 1 (toNat j.2*3))) (Qt V Z EG EL) ?_ (hg:=(gT Z));refine DS.wo (x:=.ptr 1 (toNat j.2*3)) ?_ ?_
     .exact Fpg (gT Z) Qku Z Wp
     refine DS.v (x:=(I bc.Mat)) (Ex Z EE Z (Qn V)) ?_ (hg:=(gT Z));refine D 3 Z (Qar 16 g Z Z Z (λaj g=>?_) (λaj g=>?_))
     .refine D 4 Z ?_;obtain⟨bd,W,g⟩:=Yq g;refine DS.v (x:=(.ptr 1 (toNat j.2*3))) (Qt W Z EG EL) ?_ (hg:=(gT Z));refine DS.wo (x:=.ptr 1 (toNat j.2*3+1)) ?_ ?_
      .exact Fpg (gT Z) Qkt Z Wp
      refine DS.v (x:=(I bd.Epoch)) (Ex Z EE Z (YA (f:=1) W)) ?_ (hg:=(gT Z));exact Ef Z (Go 3 Z (Cl g [0,1,2]))
     .exact D 7 Z (Ef Z (Go 3 Z (Cl g [0,1,2])))
    .exact D 17 Z (Ef Z (Go 3 Z (Cl g [0,1,2])))
   refine Gx 1 Z (Qc m (Bd i λz l i=>?_));refine Ct z [0,1] [7,10,11] (λz=>[(8,.osl 1 0 z.length 3)]) (λz=>[(1,.row 36 3 (map Segment.c z))]) Zf ?_ (λenv H m=>?_)
   .refine G0 0 Z (Cn Z l (λak l=>?_) (λak l=>?_))
    .refine Gc 5 Z (Bd l λbs X l=>?_);refine vX (.ptr 1 (toNat j.2*3)) (Qt X Z EG EL) ?_;refine Fp Qod Z (Bd l λbt B l=>?_);refine vU (YU (e:=Segment.c) (k:=3) (f:=2) X B EC Z Z) ?_;refine FE Z ?_;refine QD (QA (s:=8) Z (congrArg (λn=>A.osl 1 0 n 3) (Q2 B))) ?_;refine QD (QA (s:=145) Z (congrArg (λn=>A.osl 1 0 n 3) (Q2 B))) ?_;exact Go 1 Z (Cl l [0,1])
    exact Gc 1 Z (Cl l [0,1])
   exact Gx 2 Z (Qc m (Gc 5 Z (Qj i (Lr [0,1]))))
  exact Gx 2 Z (Qc m (Gc 5 Z (Qj p (Lr [0,1]))))
 refine Gx 1 Z (Qc m (Gc 8 Z ?_));obtain rfl:=Oi h;exact R2 4 5 Z Z (Lr [0])
def F_bm(n:Nat)(a:Int):Option Bool:=((bif decide ((-1099511627776)<=a)then some (decide (a<=1099511627776))else some false):Option Bool).bind λb2=>some b2
theorem k_bm(n:Nat)(d:Int):Ks (F_bm n d) 49 [I d] [] (λr=>.bool r):=by
 refine Kg 6 func49 Z Z Z Z λr h=>Bd h λb2 a h=>?_;refine Ct b2 [] [] (λb2=>[(2,.bool b2)]) Ze Zf ?_ (λenv H e=>?_)
 .refine G0 4 Z (Is 5 a Z (λf a=>?_) (λf a=>?_))
  iterate 2 exact Go 5 Z (Cl a [])
 exact Gx 1 Z (Qc e (Gc 1 Z (Rt h 2 [])))
def F_dc(n:Nat)(e:Int)(d:Int):Option (Int×Int):=((bif decide (e<(-2199023255552))then some true else(bif decide (2199023255552<e)then some true else(bif decide (d<0)then some true else some (decide (100000<d))))):Option Bool).bind λg=>(bif g then some (0,1)else((bif decide (e<0)then some (i64.wrap (0-e))else some e):Option Int).bind λa=>((bif decide ((i64.wrap ((i64.wrap (Int.tdiv (i64.wrap (a*d)) 1000000))*1000000))<(i64.wrap (a*d)))then some (i64.wrap ((i64.wrap (Int.tdiv (i64.wrap (a*d)) 1000000))+1))else some (i64.wrap (Int.tdiv (i64.wrap (a*d)) 1000000))):Option Int).bind λf=>some (f,0))
theorem k_dc(n:Nat)(p:Int)(j:Int):Ks (F_dc n p j) 96 [I p,I j] [] (λr=>.tup [I r.1,I r.2]):=by
 refine Kg 8 func96 Z Z Z Z λr h=>Bd h λk a h=>?_;refine Ct k [] [0,1] (λk=>[(20,.bool k)]) Ze Zf ?_ (λenv H d=>?_)
 .refine G0 4 Z (Is 9 a Z (λq a=>?_) (λq a=>?_))
  .exact Go 12 Z (Cl a [])
  .refine Go 4 Z (Is 13 a Z (λs a=>?_) (λs a=>?_))
   .exact Go 8 Z (Cl a [])
   .refine Go 4 Z (Is 17 a Z (λt a=>?_) (λt a=>?_))
    iterate 2 exact Go 4 Z (Cl a [])
 refine Gx 1 Z (Qc d (Cn Z h (λu h=>?_) (λu h=>?_)))
 .refine Gc 8 Z ?_;obtain rfl:=Oi h;exact R2 4 5 Z Z (Lr [])
 refine Gc 9 Z (Bd h λg e h=>?_);refine Ct g [] [1] (λg=>[(0,I g)]) Ze Zf ?_ (λenv H d=>?_)
 .refine G0 0 Z (Cn Z e (λl e=>?_) (λl e=>?_))
  .exact Gc 5 Z (Cl e [])
  exact Gc 1 Z (Cl e [])
 refine Gx 1 Z (Qc d (Gc 5 Z ?_));refine vV (x:=(I (i64.wrap (Int.tdiv (i64.wrap (g*j)) 1000000)))) (OpV.quo Z Z Z (by decide)) ?_;refine Go 14 Z (Bd h λi f h=>?_);refine Ct i [] [] (λi=>[(6,I i)]) Ze Zf ?_ (λenv H d=>?_)
 .refine G0 0 Z (Cn Z f (λm f=>?_) (λm f=>?_))
  .exact Gc 5 Z (Cl f [])
  exact Gc 1 Z (Cl f [])
 refine Gx 1 Z (Qc d (Gc 8 Z ?_));obtain rfl:=Oi h;exact R2 4 5 Z Z (Lr [])
def F_cm(n:Nat)(a:Course)(d:Segment)(f:Int):Option Span:=(F_bc n a d.Mat).bind λg=>(bif g then some ({Lo:=0,Hi:=a.Faults.Residual:Span})else(F_dc n (i64.wrap (f-d.Anchor)) a.Faults.Drift).bind λe=>some ({Lo:=i64.wrap (0-e.1),Hi:=i64.wrap (a.Faults.Residual+e.1):Span}))
theorem k_cm(n:Nat)(a:Course)(d:Segment)(e:Int):Kq (F_cm n a d e) 50 [.agg (Course.c a),.agg (Segment.c d),I e] [] (λr=>.agg [I r.Lo,I r.Hi]) (λr=>[.cells 44 [I r.Lo,I r.Hi]]):=by
 refine Kg 13 func50 Z Z Z Z λr h=>Cz [] h (k_bc _ _ _) Z λj g h=>Go 2 Z (Cn Z h (λf h=>?_) (λf h=>?_))
 .refine Gc 11 Z ?_;obtain rfl:=Oi h;exact Rx [2] [6] Z (Yg Z (Qg EV EN Z Z Z)) ⟨Z,Z⟩
 refine Gc 11 Z (Cd [] h (k_dc _ _ _) Z λk i h=>FE Z (Go 21 Z ?_));obtain rfl:=Oi h;exact Rx [2] [6] Z (Yg Z (Qg EV EN Z Z Z)) ⟨Z,Z⟩
def F_cg(n:Nat)(d:Course)(e:Segment)(f:Int):Option (Span×Int):=(F_ax n d).bind λg=>(bif (g != 0)then some ({Lo:=0,Hi:=0:Span},g)else((F_be n d e.Mat).bind λh=>(bif (!h)then some true else(F_bm n f).bind λi=>(bif (!i)then some true else(F_bm n e.Anchor).bind λj=>some (!j))):Option Bool).bind λk=>(bif k then some ({Lo:=0,Hi:=0:Span},1)else(F_cm n d e f).bind λa=>some ({Lo:=a.Lo,Hi:=a.Hi:Span},0)))
theorem k_cg(n:Nat)(i:Course)(j:Segment)(k:Int):Kq (F_cg n i j k) 16 [.agg (Course.c i),.agg (Segment.c j),I k] [] (λr=>.tup [.agg [I r.1.Lo,I r.1.Hi],I r.2]) (λr=>[.cells 44 [I r.1.Lo,I r.1.Hi]]):=by
 refine Kg 11 func16 Z Z Z Z λr h=>Cz [] h (k_ax _ _) Z λB u h=>Go 10 Z (Cn Z h (λl h=>?_) (λl h=>?_))
 .refine Gc 10 Z ?_;obtain rfl:=Oi h;exact Rx [2] [6,7] Z (Qp Z Z (QjR.cons (Qg EV EN Z Z Z) (QjR.cons Qed.tmp QjR.nil))) ⟨Z,Z⟩
 refine Gc 4 Z (Bd h λd a h=>?_);refine Ct d [0,1,2] [2,3,4,6] (λd=>[(30,.bool d)]) Ze Zf ?_ (λenv H m=>?_)
 .refine G0 4 Z (Cz [] a (k_be _ _ _) Z λw p a=>Go 2 Z (Is 20 a Z (λe a=>?_) (λe a=>?_)))
  .exact Go 11 Z (Cl a [0,1,2])
  .refine Go 1 Z (Cz [] a (k_bm _ _) Z λx q a=>Go 3 Z (Is 25 a Z (λf a=>?_) (λf a=>?_)))
   .exact Go 6 Z (Cl a [0,1,2])
   .exact Go 2 Z (Cz [] a (k_bm _ _) Z λy s a=>Go 3 Z (Cl a [0,1,2]))
 refine Gx 1 Z (Qc m (Cn Z h (λg h=>?_) (λg h=>?_)))
 .refine Gc 9 Z ?_;obtain rfl:=Oi h;exact Rx [2] [6,7] Z (Qp Z Z (QjR.cons (Qg EV EN Z Z Z) (QjR.cons Qed.tmp QjR.nil))) ⟨Z,Z⟩
 refine Gc 7 Z (Cd [] h (k_cm _ _ _ _) Z λz t h=>FE Z (Go 5 Z ?_));obtain rfl:=Oi h;exact Rx [2] [6,7] Z (Qp Z Z (QjR.cons (Qg EV EN Z Z Z) (QjR.cons Qed.tmp QjR.nil))) ⟨Z,Z⟩
def F_kk(n:Nat)(d:List Segment)(g:List Segment)(a:Int):Option (Ctl Int (Ctl Unit Bool)):=(bif decide (a<(d.length:Int))then(idx d a).bind λe=>(idx g a).bind λf=>(bif (e != f)then some (.done (.done false))else some (.cont (i64.wrap (a+1))))else some (.done (.cont ())))
def F_gf(n:Nat)(d:List Segment)(e:List Segment):Option Bool:=(bif ((d.length:Int) != (e.length:Int))then some false else(iter (F_kk n d e) n 0:Option (Ctl Unit Bool)).bind λf=>match f with|.cont a=>(some true)|.done a=>some a)
theorem k_gf(n:Nat)(m:List Segment)(s:List Segment):Ks (F_gf n m s) 17 [.rsl 3 (map Segment.c m),.rsl 3 (map Segment.c s)] [] (λr=>.bool r):=by
 refine Kg 9 func17 Z Z Z Z λr h=>Lm Z (Go 1 Z (Lm Z (Go 3 Z (Cn Z h (λt h=>?_) (λt h=>?_)))))
 .exact Gc 7 Z (Rt h 4 [])
 refine Gc 8 Z (Bd h λu w h=>?_);refine Ji (b:=u) [] [] Ze Ze Zf ?_ (λB env H y z=>?_)
 .refine G0 1 Z ?_;refine Lp [] [0,1] (λg=>[(5,I g)]) Ze w Zf (Lr []) λg E a f=>?_;refine G0 5 Z (Lm Z (Go 3 Z (Yh Z a (λi a=>?_) (λi a=>?_))))
  .refine Gc 2 Z (Ql a ?_);obtain rfl:=Oj f a;exact Gx 1 Z (Qo Z (Lr []))
  refine Gc 5 Z (DSs 8 Z (D 2 Z ?_));obtain⟨d,j,a⟩:=Yq a;refine DS.wo (x:=.rp [I d.Mat,I d.Epoch,I d.Anchor]) ?_ ?_
  .exact Ix j EG EL Z Wp
  refine D 3 Z ?_;obtain⟨e,k,a⟩:=Yq a;refine DS.wo (x:=.rp [I e.Mat,I e.Epoch,I e.Anchor]) ?_ ?_
  .exact Ix k EG EL Z Wp
  refine D 1 Z (Ef Z ?_);refine vX (.bool (d != e)) (Qci (p:=d) (q:=e) Qpi Z Z) ?_;refine Go 2 Z (Cn Z a (λl a=>?_) (λl a=>?_))
  .refine Gc 8 Z (Qv a ?_);obtain rfl:=Oj f a;exact Gx 1 Z (Qq (Gx 1 Z (Rt h 4 [])))
  exact Gc 8 Z (Qj a (Lr []))
 subst y;exact Gx 1 Z (Qc z (Gc 6 Z (Rt h 4 [])))
def F_gn(n:Nat)(a:Course)(h:List Fact)(i:Segment)(j:Int):Option Bool:=(F_eu 300).bind λm=>(bif (!m)then some false else((F_dl n a).bind λp=>(bif (!p)then some true else some (decide (14<(h.length:Int)))):Option Bool).bind λq=>(bif q then some true else(F_s n a h).bind λf=>(F_dp n a h).bind λg=>(F_bo n a i j).bind λd=>(F_cg n a i j).bind λe=>((F_gf n f.1 g.1).bind λk=>(bif k then(bif (f.2==g.2)then(bif (({Lo:=d.1.Lo,Hi:=d.1.Hi:Span})==({Lo:=e.1.Lo,Hi:=e.1.Hi:Span}))then some (d.2==e.2)else some false)else some false)else some false):Option Bool).bind λl=>some l))
theorem k_gn(n:Nat)(s:Course)(t:List Fact)(u:Segment)(w:Int):Ks (F_gn n s t u w) 3 [.agg (Course.c s),.rsl 57 (map Fact.c t),.agg (Segment.c u),I w] [] (λr=>.bool r):=by
 refine Kg 10 func3 Z Z Z Z λr h=>Cz [] h (k_eu _) Z λQ L h=>Go 3 Z (Cn Z h (λx h=>?_) (λx h=>?_))
 .exact Gc 7 Z (Rt h 8 [])
 refine Gc 4 Z (Bd h λj d h=>?_);refine Ct j [0,1] [1,3,4,6] (λj=>[(26,.bool j)]) Ze Zf ?_ (λenv H g=>?_)
 .refine G0 2 Z (Cz [] d (k_dl _ _) Z λR M d=>Go 2 Z (Is 22 d Z (λy d=>?_) (λy d=>?_)))
  .exact Go 5 Z (Cl d [0,1])
  .exact Go 1 Z (Lm Z (Go 3 Z (Cl d [0,1])))
 refine Gx 1 Z (Qc g (Cn Z h (λz h=>?_) (λz h=>?_)))
 .exact Gc 7 Z (Rt h 8 [])
 refine Gc 6 Z (Cd [] h (k_s _ _ _) Z λN B h=>FE Z (Go 11 Z (Cd [] h (k_dp _ _ _) Z λO E h=>FE Z (Go 12 Z (Cd [] h (k_bo _ _ _ _) Z λe F h=>FE Z (Go 13 Z (Cd [] h (k_cg _ _ _ _) Z λf G h=>FE Z (Go 9 Z (Bd h λi a h=>?_)))))))));refine Ct i [] [] (λi=>[(8,.bool i)]) Ze Zf ?_ (λenv H g=>?_)
 .refine G0 3 Z (Cb a (k_gf _ _ _) Z (lo (lo ln)) λP J a=>Go 1 Z (Is 56 a Z (λk a=>?_) (λk a=>?_)))
  .refine Go 5 Z (Is 61 a Z (λl a=>?_) (λl a=>?_))
   .refine Go 2 Z ?_;refine vX (.bool (({Lo:=e.1.Lo,Hi:=e.1.Hi:Span})==({Lo:=f.1.Lo,Hi:=f.1.Hi:Span}))) (Qcj (p:={Lo:=e.1.Lo,Hi:=e.1.Hi:Span}) (q:={Lo:=f.1.Lo,Hi:=f.1.Hi:Span}) QjH Z Z) ?_ (gT Z);refine Go 2 Z (Is 66 a Z (λm a=>?_) (λm a=>?_))
    iterate 2 exact Go 6 Z (Cl a [])
   .exact Go 11 Z (Cl a [])
  .exact Go 16 Z (Cl a [])
 exact Gx 1 Z (Qc g (Gc 1 Z (Rt h 8 [])))
end Go.Sw
