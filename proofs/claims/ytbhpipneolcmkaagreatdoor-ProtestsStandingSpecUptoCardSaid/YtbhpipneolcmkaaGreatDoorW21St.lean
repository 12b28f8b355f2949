/- What the functions compute that ProtestsStandingSpec reaches, and that their calls refine it (part 4 of 4). -/
import Derived.Test.YtbhpipneolcmkaaGreatDoorW21St3
set_option linter.unusedVariables false
set_option linter.unusedSimpArgs false
set_option maxRecDepth 100000
set_option maxHeartbeats 4000000
namespace Go.Sw
open List(map)
open Int(toNat)
open Go.IntKind(i64 u64 u8)
open Go.Proofs Tryz
def F_il(n:Nat)(m:List Step)(rec223:(List Step)->Option Bool)(d:Int):Option (Ctl Int (Ctl Unit Bool)):=(bif decide (d<(m.length:Int))then(idx m d).bind λa=>((bif (a.Kind==1)then((bif decide (a.By<1)then some true else(bif decide (5<a.By)then some true else(F_bq n a.Cond).bind λf=>(bif (!f)then some true else(bif ((a.Then.length:Int) != 0)then some true else some ((a.Else.length:Int) != 0))))):Option Bool).bind λg=>(bif g then some (.done (.done (.done false)))else some (.cont ()))else(bif (a.Kind==2)then((bif (a.By != 0)then some true else(F_dp n a.Cond).bind λh=>(bif (h != 0)then some true else(bif ((a.Then.length:Int)==0)then some true else(rec223 a.Then).bind λi=>(bif (!i)then some true else(rec223 a.Else).bind λj=>some (!j))))):Option Bool).bind λk=>(bif k then some (.done (.done (.done false)))else some (.cont ()))else some (.done (.done (.done false))))):Option (Ctl Unit (Ctl Int (Ctl Unit Bool)))).bind λl=>match l with|.cont e=>(some (.cont (i64.wrap (d+1))))|.done e=>some e else some (.done (.cont ())))
def B_i(rec223:(List Step)->Option Bool)(n:Nat)(e:List Step):Option Bool:=(iter (F_il n e rec223) n 0:Option (Ctl Unit Bool)).bind λd=>match d with|.cont a=>(some true)|.done a=>some a
theorem Qa6(rec223:(List Step)->Option Bool)(j:∀(m:List Step) (r:Bool),rec223 m=some r->Csm prog 133 [.rsl 8 (map Step.enc m)] [] (λr=>.bool r) r)(n:Nat)(m:List Step)(r:Bool)(h:B_i rec223 n m=some r):Csm prog 133 [.rsl 8 (map Step.enc m)] [] (λr=>.bool r) r:=by
 refine QG func133 Z Z Z ?_;refine G0 11 Z (Bd h λM N h=>?_);refine Jw (b:=M) [] [] Ze Ze Zf ?_ (λR env H Q i=>?_)
 .refine G0 1 Z ?_;refine Lp [] [0] (λp=>[(3,I p)]) Ze N Zf (Lr []) λp aa f g=>?_;refine G0 5 Z (Lm Z (Go 3 Z (Yh Z f (λq f=>?_) (λq f=>?_))))
  .refine Gc 2 Z (Qh f ?_);obtain rfl:=Oj g f;exact Gx 1 Z (Qq Z (Lr []))
  refine Gc 8 Z (Bd f λO s f=>IzE s (Yo O) Z (Go 18 Z (Bd f λP d f=>?_)));refine Jw (b:=P) [] [0,3] Ze Ze Zf ?_ (λT env H hb i=>?_)
  .refine G0 0 Z (Cn Z d (λt d=>?_) (λt d=>?_))
   .refine Gc 1 Z (Bd d λk e d=>?_);refine Ct k [] [0,3] (λk=>[(44,.bool k)]) Ze Zf ?_ (λenv H i=>?_)
    .refine G0 5 Z (Is 22 e Z (λu e=>?_) (λu e=>?_))
     .exact Go 23 Z (Cl e [])
     .refine Go 5 Z (Is 27 e Z (λw e=>?_) (λw e=>?_))
      .exact Go 18 Z (Cl e [])
      .refine Go 2 Z (Cz [] e (k_bq _ _) Z λab V e=>Go 3 Z (Is 33 e Z (λx e=>?_) (λx e=>?_)))
       .exact Go 12 Z (Cl e [])
       .refine Go 2 Z (Lm Z (Go 3 Z (Is 39 e Z (λy e=>?_) (λy e=>?_))))
        .exact Go 6 Z (Cl e [])
        .exact Go 2 Z (Lm Z (Go 3 Z (Cl e [])))
    refine Gx 1 Z (Qb i (Cn Z d (λz d=>?_) (λz d=>?_)))
    .refine Gc 6 Z ?_;cases d;refine Qs (Gx 3 Z (Qv f ?_));obtain rfl:=Oj g f;exact Gx 1 Z (Qs (Gx 1 Z (Rt h 2 [])))
    refine Gc 1 Z ?_;cases d;exact Qq Z (Lr [])
   refine Gc 6 Z (Yh Z d (λB d=>?_) (λB d=>?_))
   .refine Gc 6 Z ?_;cases d;refine Qs (Gx 3 Z (Qv f ?_));obtain rfl:=Oj g f;exact Gx 1 Z (Qs (Gx 1 Z (Rt h 2 [])))
   refine Gc 1 Z (Bd d λl a d=>?_);refine Ct l [] [0,3] (λl=>[(73,.bool l)]) Ze Zf ?_ (λenv H i=>?_)
   .refine G0 5 Z (Is 50 a Z (λE a=>?_) (λE a=>?_))
    .exact Go 24 Z (Cl a [])
    .refine Go 2 Z (Cz [] a (k_dp _ _) Z λac W a=>Go 3 Z (Is 56 a Z (λF a=>?_) (λF a=>?_)))
     .exact Go 18 Z (Cl a [])
     .refine Go 2 Z (Lm Z (Go 3 Z (Is 62 a Z (λG a=>?_) (λG a=>?_))))
      .exact Go 12 Z (Cl a [])
      .refine Go 2 Z (Cz [] a (j _) Z λae X a=>Go 3 Z (Is 68 a Z (λJ a=>?_) (λJ a=>?_)))
       .exact Go 6 Z (Cl a [])
       .exact Go 2 Z (Cz [] a (j _) Z λaf Y a=>Go 3 Z (Cl a []))
   refine Gx 1 Z (Qb i (Cn Z d (λL d=>?_) (λL d=>?_)))
   .refine Gc 6 Z ?_;cases d;refine Qs (Gx 3 Z (Qv f ?_));obtain rfl:=Oj g f;exact Gx 1 Z (Qs (Gx 1 Z (Rt h 2 [])))
   refine Gc 1 Z ?_;cases d;exact Qq Z (Lr [])
  subst hb;exact Gx 3 Z (Qb i (Gc 5 Z (Qf f (Lr []))))
 subst Q;exact Gx 1 Z (Qb i (Gc 6 Z (Rt h 2 [])))
def F_i:Nat->(List Step)->Option Bool
  |0=>λ_=>none
  |n+1=>B_i (F_i n) n
theorem k_i(n:Nat):∀(a:List Step) (r:Bool),F_i n a=some r->Csm prog 133 [.rsl 8 (map Step.enc a)] [] (λr=>.bool r) r:=by
  induction n with
  |zero=>intro a r h;cases h
  |succ n ih=>intro a r h;exact Qa6 _ ih n a r h
def F_fa(n:Nat)(a:List Step):Option Int:=(F_aa n a 0).bind λd=>((bif decide (64<d.1)then some true else some (decide (256<d.2))):Option Bool).bind λf=>(bif f then some 2 else((bif ((a.length:Int)==0)then some true else(F_i n a).bind λe=>some (!e)):Option Bool).bind λg=>(bif g then some 71 else some 0))
theorem k_fa(n:Nat)(k:List Step):Ks (F_fa n k) 62 [.rsl 8 (map Step.enc k)] [] (λr=>I r):=by
 refine Kg 8 func62 Z Z Z Z λr h=>Cd [] h (k_aa _ _ _) Z λt q h=>FE Z (Go 9 Z (Bd h λf d h=>?_));refine Ct f [] [0] (λf=>[(15,.bool f)]) Ze Zf ?_ (λenv H e=>?_)
 .refine G0 4 Z (Is 12 d Z (λl d=>?_) (λl d=>?_))
  iterate 2 exact Go 4 Z (Cl d [])
 refine Gx 1 Z (Qb e (Cn Z h (λm h=>?_) (λm h=>?_)))
 .exact Gc 7 Z (Rt h 2 [])
 refine Gc 4 Z (Bd h λg a h=>?_);refine Ct g [] [] (λg=>[(23,.bool g)]) Ze Zf ?_ (λenv H e=>?_)
 .refine G0 2 Z (Lm Z (Go 2 Z (Is 19 a Z (λi a=>?_) (λi a=>?_))))
  .exact Go 5 Z (Cl a [])
  .exact Go 1 Z (Cz [] a (k_i _ _) Z λs p a=>Go 3 Z (Cl a []))
 refine Gx 1 Z (Qb e (Cn Z h (λj h=>?_) (λj h=>?_)))
 .exact Gc 7 Z (Rt h 2 [])
 exact Gc 8 Z (Rt h 2 [])
def F_go(n:Nat)(i:List Part)(d:(List Int)×Int)(e:List Int)(a:(List Int)×Int):Option (Ctl ((List Int)×Int) (List Int)):=((idx i d.2).bind λf=>(bif decide (a.2<f.Laps)then some (decide ((a.1.length:Int)<=256))else some false):Option Bool).bind λg=>(bif g then(app a.1 e).bind λh=>some (.cont (h,i64.wrap (a.2+1)))else some (.done a.1))
def F_fb(n:Nat)(d:List Part)(rec227:(List Part)->Option (List Int))(a:(List Int)×Int):Option (Ctl ((List Int)×Int) (List Int)):=((bif decide (a.2<(d.length:Int))then some (decide ((a.1.length:Int)<=256))else some false):Option Bool).bind λe=>(bif e then((idx d a.2).bind λf=>(bif (f.Laps==0)then(idx d a.2).bind λg=>(app a.1 [g.Mat]).bind λh=>some h else(idx d a.2).bind λi=>(rec227 i.Parts).bind λj=>(iter (F_go n d a j) n (a.1,0):Option (List Int)).bind λk=>some k):Option (List Int)).bind λl=>some (.cont (l,i64.wrap (a.2+1)))else some (.done a.1))
def B_ab(rec227:(List Part)->Option (List Int))(n:Nat)(d:List Part):Option (List Int):=(iter (F_fb n d rec227) n (([]:List Int),0):Option (List Int)).bind λa=>some a
theorem QaR(rec227:(List Part)->Option (List Int))(w:∀(x:List Part) (r:List Int),rec227 x=some r->C prog 134 [.rsl 3 (map Part.enc x)] [] (RQ (λr=>.osl 0 0 r.length 1) (λr=>[.row 3 1 (map (Qe .i64) r)]) r))(n:Nat)(x:List Part)(r:List Int)(h:B_ab rec227 n x=some r):C prog 134 [.rsl 3 (map Part.enc x)] [] (RQ (λr=>.osl 0 0 r.length 1) (λr=>[.row 3 1 (map (Qe .i64) r)]) r):=by
 refine QG func134 Z Z Z ?_;refine G0 7 Z ?_;refine vH (Ej (xs:=[]) (es:=map (Qe .i64) []) QA Z Z Z Z Z trivial Z Z) ?_;refine FE Z (Go 9 Z (Bd h λk T h=>?_));refine Ct k [0] [] (λk=>[(3,.osl 0 0 k.length 1)]) (λk=>[(0,.row 3 1 (map (Qe .i64) k))]) Zf ?_ (λenv H j=>?_)
 .refine G0 1 Z ?_;refine Lp [0] [0] (λl=>[(3,.osl 0 0 l.1.length 1),(4,I l.2)]) (λl=>[(0,.row 3 1 (map (Qe .i64) l.1))]) T Zf (Lr [0]) λl ab d z=>?_;refine G0 2 Z (Bd d λt m d=>?_);refine Ct t [0] [0,3,4] (λt=>[(16,.bool t)]) Ze Zf ?_ (λenv H j=>?_)
  .refine G0 3 Z (Lm Z (Go 2 Z (Is 12 m Z (λB m=>?_) (λB m=>?_))))
   iterate 2 exact Go 5 Z (Cl m [0])
  refine Gx 1 Z (Qb j (Yh Z d (λE d=>?_) (λE d=>?_)))
  .refine Gc 2 Z (Qh d ?_);obtain rfl:=Oj z d;exact Gx 1 Z (QC (Lr [0]))
  refine Gc 3 Z (Bd d λp a d=>?_);refine Ct p [0] [0,4] (λp=>[(3,.osl 0 0 p.length 1)]) (λp=>[(0,.row 3 1 (map (Qe .i64) p))]) Zf ?_ (λenv H j=>?_)
  .refine G0 6 Z (Bd a λV F a=>IzE F (Yc V) Z (Go 5 Z (Cn Z a (λG a=>?_) (λG a=>?_))))
   .refine Gc 5 Z (Bd a λy J a=>IzE J (Yc y) Z (Go 2 Z ?_));refine vH (Ej (xs:=[.tmp 30]) (es:=map (Qe .i64) [y.Mat]) QA Z Z Z Z Z ⟨Z,trivial⟩ Z Z) ?_;refine FE Z (Bd a λac L a=>?_);refine vH (Qk (e:=(Qe .i64)) L QA EC (QQ (i:=1))) ?_;exact FE Z (Go 6 Z (Cl a [2]))
   refine Gc 6 Z (Bd a λW M a=>IzE M (Yc W) Z (Go 2 Z (Cd [] a (w _) Z λae aa a=>FE Z (Go 8 Z (Bd a λq X a=>?_)))));refine Ct q [0] [0,4] (λq=>[(3,.osl 0 0 q.length 1)]) (λq=>[(0,.row 3 1 (map (Qe .i64) q))]) Zf ?_ (λenv H j=>?_)
   .refine G0 1 Z ?_;refine Lp [0,1] [0,4,5] (λs=>[(3,.osl 0 0 s.1.length 1),(6,I s.2)]) (λs=>[(0,.row 3 1 (map (Qe .i64) s.1))]) X Zf (Lr [0,1]) λs af f N=>?_;refine G0 2 Z (Bd f λu g f=>?_);refine Ct u [0,1] [0,3,4,5,6] (λu=>[(50,.bool u)]) Ze Zf ?_ (λenv H j=>?_)
    .refine G0 4 Z (Bd g λY O g=>IzE O (Yc Y) Z (Go 4 Z (Is 46 g Z (λP g=>?_) (λP g=>?_))))
     iterate 2 exact Go 5 Z (Cl g [0,1])
    refine Gx 1 Z (Qb j (Yh Z f (λQ f=>?_) (λQ f=>?_)))
    .refine Gc 2 Z (Qh f ?_);obtain rfl:=Oj N f;exact Gx 1 Z (QC (Lr [0]))
    refine Gc 7 Z (Bd f λag R f=>?_);refine vH (Qk (e:=(Qe .i64)) R QA EC (QQ (i:=1))) ?_;exact FE Z (Go 9 Z (Qf f (Lr [2,1])))
   refine Gx 1 Z ?_;cases a;exact QC (Em j (Lr [0]))
  exact Gx 1 Z (Qb j (Gc 5 Z (Qf d (Lr [0]))))
 exact Gx 1 Z (Qb j (Gc 7 Z (Rt h 2 [0])))
def F_ab:Nat->(List Part)->Option (List Int)
  |0=>λ_=>none
  |n+1=>B_ab (F_ab n) n
theorem k_ab(n:Nat):∀(a:List Part) (r:List Int),F_ab n a=some r->C prog 134 [.rsl 3 (map Part.enc a)] [] (RQ (λr=>.osl 0 0 r.length 1) (λr=>[.row 3 1 (map (Qe .i64) r)]) r):=by
  induction n with
  |zero=>intro a r h;cases h
  |succ n ih=>intro a r h;exact QaR _ ih n a r h
def F_gf(n:Nat)(d:Course)(h:Int)(i:Int)(a:Int):Option (Ctl Int (Ctl Unit Int)):=(bif decide (a<(d.Legs.length:Int))then((idx d.Legs a).bind λe=>(bif (e.From==h)then(idx d.Legs a).bind λf=>some (f.To==i)else some false):Option Bool).bind λg=>(bif g then some (.done (.done a))else some (.cont (i64.wrap (a+1))))else some (.done (.cont ())))
def F_be(n:Nat)(e:Course)(f:Int)(g:Int):Option Int:=(iter (F_gf n e f g) n 0:Option (Ctl Unit Int)).bind λd=>match d with|.cont a=>(some (-1))|.done a=>some a
theorem k_be(n:Nat)(q:Course)(s:Int)(t:Int):Ks (F_be n q s t) 135 [.agg (Course.c q),I s,I t] [] (λr=>I r):=by
 refine Kg 12 func135 Z Z Z Z λr h=>Bd h λu w h=>?_;refine Jw (b:=u) [] [] Ze Ze Zf ?_ (λy env H x e=>?_)
 .refine G0 1 Z ?_;refine Lp [0] [1,2,3] (λi=>[(7,I i)]) Ze w Zf (Lr [0]) λi z a f=>?_;refine G0 6 Z (Lm Z (Go 3 Z (Yh Z a (λj a=>?_) (λj a=>?_))))
  .refine Gc 2 Z (Qh a ?_);obtain rfl:=Oj f a;exact Gx 1 Z (Qq Z (Lr []))
  refine Gc 5 Z (Bd a λg d a=>?_);refine Ct g [0] [1,2,3,7] (λg=>[(32,.bool g)]) Ze Zf ?_ (λenv H e=>?_)
  .refine G0 4 Z (Bd d λB k d=>Iz k Z (Go 5 Z (Is 23 d Z (λl d=>?_) (λl d=>?_))))
   .exact Go 3 Z (Bd d λE m d=>Iz m Z (Go 6 Z (Cl d [0])))
   .exact Go 10 Z (Cl d [0])
  refine Gx 1 Z (Qb e (Cn Z a (λp a=>?_) (λp a=>?_)))
  .refine Gc 9 Z (Qv a ?_);obtain rfl:=Oj f a;exact Gx 1 Z (Qs (Gx 1 Z (Rt h 6 [])))
  exact Gc 8 Z (Qf a (Lr [0]))
 subst x;exact Gx 1 Z (Qb e (Gc 6 Z (Rt h 6 [])))
def F_fj(n:Nat)(d:List Int)(g:Int)(a:Int×Int):Option (Ctl (Int×Int) Int):=(bif decide (a.2<(d.length:Int))then(idx d a.2).bind λe=>((bif (e==g)then some (i64.wrap (a.1+1))else some a.1):Option Int).bind λf=>some (.cont (f,i64.wrap (a.2+1)))else some (.done a.1))
def F_bs(n:Nat)(d:List Int)(e:Int):Option Int:=(iter (F_fj n d e) n (0,0):Option Int).bind λa=>some a
theorem k_bs(n:Nat)(p:List Int)(q:Int):Ks (F_bs n p q) 136 [.rsl 1 (map (Qe .i64) p),I q] [] (λr=>I r):=by
 refine Kg 16 func136 Z Z Z Z λr h=>Bd h λe s h=>?_;refine Ct e [] [] (λe=>[(5,I e)]) Ze Zf ?_ (λenv H f=>?_)
 .refine G0 1 Z ?_;refine Lp [] [0,1] (λg=>[(5,I g.1),(6,I g.2)]) Ze s Zf (Lr []) λg t a j=>?_;refine G0 5 Z (Lm Z (Go 3 Z (Yh Z a (λk a=>?_) (λk a=>?_))))
  .refine Gc 2 Z (Qh a ?_);obtain rfl:=Oj j a;exact Gx 1 Z (QC (Lr []))
  refine Gc 8 Z (Bd a λu l a=>Iz l Z (Go 5 Z (Bd a λi d a=>?_)));refine Ct i [] [0,1,6] (λi=>[(5,I i)]) Ze Zf ?_ (λenv H f=>?_)
  .refine G0 0 Z (Cn Z d (λm d=>?_) (λm d=>?_))
   .exact Gc 5 Z (Cl d [])
   exact Gc 1 Z (Cl d [])
  exact Gx 2 Z (Qb f (Gc 5 Z (Qf a (Lr []))))
 exact Gx 1 Z (Qb f (Gc 7 Z (Rt h 4 [])))
def F_dq(n:Nat)(e:Course)(d:List Int)(a:Int):Option (Ctl Int (Ctl Unit Bool)):=(bif decide (a<(d.length:Int))then((bif (a==0)then some 1 else(bif (a==(i64.wrap ((d.length:Int)-1)))then some 3 else some 2)):Option Int).bind λf=>((idx d a).bind λg=>(idx e.Mats g).bind λh=>(bif (h.Kind != f)then some true else(bif decide (0<a)then(idx d (i64.wrap (a-1))).bind λi=>(idx d a).bind λj=>(F_be n e i j).bind λk=>some (decide (k<0))else some false)):Option Bool).bind λl=>(bif l then some (.done (.done false))else some (.cont (i64.wrap (a+1))))else some (.done (.cont ())))
def F_lb(n:Nat)(d:Distance)(h:List Int)(a:Int):Option (Ctl Int (Ctl Unit Bool)):=(bif decide (a<(d.Cutoffs.length:Int))then(idx d.Cutoffs a).bind λe=>(F_bs n h e.Mat).bind λf=>(idx d.Cutoffs a).bind λg=>(bif decide (f<g.Lap)then some (.done (.done false))else some (.cont (i64.wrap (a+1))))else some (.done (.cont ())))
def F_ck(n:Nat)(g:Course)(a:Distance):Option Bool:=(F_ab n a.Route).bind λd=>((bif decide ((d.length:Int)<2)then some true else some (decide (256<(d.length:Int)))):Option Bool).bind λp=>(bif p then some false else(iter (F_dq n g d) n 0:Option (Ctl Unit Bool)).bind λh=>match h with|.cont e=>(((bif (a.Extra != (-1))then(idx g.Mats a.Extra).bind λi=>(bif (i.Kind != 2)then some true else(F_bs n d a.Extra).bind λj=>(bif (j==0)then some true else(F_be n g a.Extra a.Extra).bind λk=>some (decide (k<0))))else some false):Option Bool).bind λl=>(bif l then some false else(iter (F_lb n a d) n 0:Option (Ctl Unit Bool)).bind λm=>match m with|.cont f=>(some true)|.done f=>some f))|.done e=>some e)
theorem k_ck(n:Nat)(a1:Course)(a2:Distance):Ks (F_ck n a1 a2) 63 [.agg (Course.c a1),.agg (Distance.c a2)] [] (λr=>.bool r):=by
 refine Kg 11 func63 Z Z Z Z λr h=>Cd [] h (k_ab _ _) Z λr1 ay h=>FE Z (Go 12 Z (Bd h λO p h=>?_));refine Ct O [0,1,2] [2,3,5,6] (λO=>[(20,.bool O)]) Ze Zf ?_ (λenv H g=>?_)
 .refine G0 4 Z (Is 17 p Z (λag p=>?_) (λag p=>?_))
  iterate 2 exact Go 4 Z (Cl p [0,1,2])
 refine Gx 1 Z (Qb g (Cn Z h (λah h=>?_) (λah h=>?_)))
 .exact Gc 7 Z (Rt h 4 [])
 refine Gc 8 Z (Bd h λai aj h=>?_);refine Jw (b:=ai) [0,1,2] [2,3,5] Ze Ze Zf ?_ (λaq env H q g=>?_)
 .refine G0 1 Z ?_;refine Lp [0,1,2] [2,3,5,6] (λj=>[(7,I j)]) Ze aj Zf (Lr [0,1,2]) λj az f s=>?_;refine G0 8 Z (Yh Z f (λP f=>?_) (λP f=>?_))
  .refine Gc 2 Z (Qh f ?_);obtain rfl:=Oj s f;exact Gx 1 Z (Qq Z (Lr [0,1,2]))
  refine Gc 22 Z (Bd f λt i f=>?_);refine Ct t [0,1,2] [2,3,5,6,7] (λt=>[(8,I t)]) Ze Zf ?_ (λenv H g=>?_)
  .refine G0 0 Z (Cn Z i (λQ i=>?_) (λQ i=>?_))
   .exact Gc 3 Z (Cl i [0,1,2])
   refine Gc 8 Z (Cn Z i (λR i=>?_) (λR i=>?_))
   .exact Gc 3 Z (Cl i [0,1,2])
   exact Gc 1 Z (Cl i [0,1,2])
  refine Gx 2 Z (Qb g (Gc 1 Z (Bd f λu d f=>?_)));refine Ct u [0,1,2] [2,3,5,6,7] (λu=>[(61,.bool u)]) Ze Zf ?_ (λenv H g=>?_)
  .refine G0 0 Z (DSs 25 Z (D 4 Z ?_));obtain⟨ak,w,d⟩:=YU d;refine DS.v (x:=(.ptr 2 (toNat j*1))) (Qu w Z EC EG) ?_;refine DS.v (x:=(I ak)) (Ey Z EE Z (Qn w)) ?_;obtain⟨N,T,d⟩:=YU d;refine DS.wo (x:=.rp [.str N.Name,I N.Kind]) ?_ ?_
   .exact Ix T runUnderlying22 sizeOf79 Z Wp
   refine D 5 Z (QbS 11 d Z Z Z (λV d=>?_) (λV d=>?_))
   .exact D 13 Z (Eg Z (Go 5 Z (Cl d [0,1,2])))
   .refine D 3 Z (QbS 14 d Z Z Z (λW d=>?_) (λW d=>?_))
    .refine D 4 Z ?_;obtain⟨al,y,d⟩:=YU d;refine DS.v (x:=(.ptr 2 (toNat (i64.wrap (j-1))*1))) (Qu y Z EC EG) ?_ (hg:=(gT Z));refine DS.v (x:=(I al)) (Ey Z EE Z (Qn y)) ?_ (hg:=(gT Z));refine D 2 Z ?_;obtain⟨am,z,d⟩:=YU d;refine DS.v (x:=(.ptr 2 (toNat j*1))) (Qu z Z EC EG) ?_ (hg:=(gT Z));refine DS.v (x:=(I am)) (Ey Z EE Z (Qn z)) ?_ (hg:=(gT Z));exact Eg Z (Cz [] d (k_be _ _ _ _) Z λba ar d=>Go 4 Z (Cl d [0,1,2]))
    .exact D 10 Z (Eg Z (Go 5 Z (Cl d [0,1,2])))
  refine Gx 1 Z (Qb g (Cn Z f (λX f=>?_) (λX f=>?_)))
  .refine Gc 8 Z (Qv f ?_);obtain rfl:=Oj s f;exact Gx 1 Z (Qs (Gx 1 Z (Rt h 4 [])))
  exact Gc 8 Z (Qf f (Lr [0,1,2]))
 subst q;refine Gx 1 Z (Qb g (Gc 2 Z (Bd h λB e h=>?_)));refine Ct B [1,2] [3,5] (λB=>[(90,.bool B)]) Ze Zf ?_ (λenv H g=>?_)
 .refine G0 5 Z (Is 65 e Z (λY e=>?_) (λY e=>?_))
  .refine Go 4 Z (Bd e λbb aa e=>Iz aa Z (Go 4 Z (Is 74 e Z (λab e=>?_) (λab e=>?_))))
   .exact Go 17 Z (Cl e [1,2])
   .refine Go 3 Z (Cb e (k_bs _ _ _) Z (lo (ls ln)) λbc au e=>Go 3 Z (Is 81 e Z (λac e=>?_) (λac e=>?_)))
    .exact Go 10 Z (Cl e [1,2])
    .exact Go 5 Z (Cz [] e (k_be _ _ _ _) Z λbd av e=>Go 4 Z (Cl e [1,2]))
  .exact Go 26 Z (Cl e [1,2])
 refine Gx 1 Z (Qb g (Cn Z h (λae h=>?_) (λae h=>?_)))
 .exact Gc 7 Z (Rt h 4 [])
 refine Gc 8 Z (Bd h λan ao h=>?_);refine Jw (b:=an) [] [] Ze Ze Zf ?_ (λaw env H q g=>?_)
 .refine G0 1 Z ?_;refine Lp [0,1] [3,5] (λE=>[(9,I E)]) Ze ao Zf (Lr [0,1]) λE ax a m=>?_;refine G0 6 Z (Lm Z (Go 3 Z (Yh Z a (λF a=>?_) (λF a=>?_))))
  .refine Gc 2 Z (Qh a ?_);obtain rfl:=Oj m a;exact Gx 1 Z (Qq Z (Lr []))
  refine Gc 5 Z (DSs 14 Z (D 4 Z ?_));obtain⟨k,G,a⟩:=YU a;refine DS.wo (x:=.rp [I k.Mat,I k.Lap,I k.Limit]) ?_ ?_
  .exact Ix G runUnderlying75 sizeOf166 Z Wp
  refine D 2 Z ?_;obtain⟨af,J,a⟩:=YU a;refine DS.wo (x:=I af) ?_ ?_
  .refine QdH (OpC.fn call136 rfl rfl rfl) (Qbu.cons rfl (.inr ⟨_,_,_,_,_,rfl,rfl,XZ ..,rfl⟩) (Qbu.cons rfl (.inl ⟨rfl,rfl⟩) Qbu.nil)) (k_bs _ _ _ _ J) (by rintro _ _ ⟨rfl,rfl⟩;rfl) ?_;rintro _ _ ⟨rfl,rfl⟩;exact FE Z Wp
  refine D 3 Z ?_;obtain⟨l,L,a⟩:=YU a;refine DS.wo (x:=.rp [I l.Mat,I l.Lap,I l.Limit]) ?_ ?_
  .exact Ix L runUnderlying75 sizeOf166 Z Wp
  refine D 2 Z (Eg Z (Go 3 Z (Cn Z a (λM a=>?_) (λM a=>?_))))
  .refine Gc 8 Z (Qv a ?_);obtain rfl:=Oj m a;exact Gx 1 Z (Qs (Gx 1 Z (Rt h 4 [])))
  exact Gc 8 Z (Qf a (Lr [0,1]))
 subst q;exact Gx 1 Z (Qb g (Gc 6 Z (Rt h 4 [])))
def F_lh(n:Nat)(d:Course)(a:Int):Option (Ctl Int (Ctl Unit Int)):=(bif decide (a<(d.Distances.length:Int))then(idx d.Distances a).bind λe=>(F_ck n d e).bind λf=>(bif (!f)then some (.done (.done 72))else some (.cont (i64.wrap (a+1))))else some (.done (.cont ())))
def F_al(n:Nat)(a:Course):Option Int:=(F_br n a).bind λg=>(bif (!g)then some 2 else(F_ha n a).bind λh=>(bif (!h)then some 70 else(F_df n a).bind λi=>(bif (!i)then some 71 else(F_fa n a.Ties).bind λe=>(bif (e != 0)then some e else(iter (F_lh n a) n 0:Option (Ctl Unit Int)).bind λf=>match f with|.cont d=>(some 0)|.done d=>some d))))
theorem k_al(n:Nat)(k:Course):Ks (F_al n k) 22 [.agg (Course.c k)] [] (λr=>I r):=by
 refine Kg 10 func22 Z Z Z Z λr h=>Cz [] h (k_br _ _) Z λM B h=>Go 3 Z (Cn Z h (λl h=>?_) (λl h=>?_))
 .exact Gc 7 Z (Rt h 2 [])
 refine Gc 6 Z (Cz [] h (k_ha _ _) Z λN E h=>Go 3 Z (Cn Z h (λm h=>?_) (λm h=>?_)))
 .exact Gc 7 Z (Rt h 2 [])
 refine Gc 6 Z (Cz [] h (k_df _ _) Z λO F h=>Go 3 Z (Cn Z h (λp h=>?_) (λp h=>?_)))
 .exact Gc 7 Z (Rt h 2 [])
 refine Gc 6 Z (Cz [] h (k_fa _ _) Z λP G h=>Go 10 Z (Cn Z h (λq h=>?_) (λq h=>?_)))
 .exact Gc 8 Z (Rt h 2 [])
 refine Gc 8 Z (Bd h λs t h=>?_);refine Jw (b:=s) [] [] Ze Ze Zf ?_ (λy env H u w=>?_)
 .refine G0 1 Z ?_;refine Lp [0] [1] (λf=>[(4,I f)]) Ze t Zf (Lr [0]) λf J a e=>?_;refine G0 6 Z (Lm Z (Go 3 Z (Yh Z a (λg a=>?_) (λg a=>?_))))
  .refine Gc 2 Z (Qh a ?_);obtain rfl:=Oj e a;exact Gx 1 Z (Qq Z (Lr []))
  refine Gc 5 Z (DSs 6 Z (D 4 Z ?_));obtain⟨d,i,a⟩:=YU a;refine DS.wo (x:=.rp [.str d.Name,.rsl 3 (map Part.enc d.Route),I d.Timing,.rsl 3 (map Cutoff.c d.Cutoffs),I d.Extra]) ?_ ?_
  .exact Ix i GA sizeOf77 Z Wp
  refine D 1 Z (Eg Z (Cz [] a (k_ck _ _ _) Z λL z a=>Go 3 Z (Cn Z a (λj a=>?_) (λj a=>?_))))
  .refine Gc 8 Z (Qv a ?_);obtain rfl:=Oj e a;exact Gx 1 Z (Qs (Gx 1 Z (Rt h 2 [])))
  exact Gc 8 Z (Qf a (Lr [0]))
 subst u;exact Gx 1 Z (Qb w (Gc 6 Z (Rt h 2 [])))
def F_b(n:Nat)(a:Int)(d:Int)(e:Int):Option Bool:=((bif decide (d<=a)then some (decide (a<=e))else some false):Option Bool).bind λb2=>some b2
theorem k_b(n:Nat)(d:Int)(e:Int)(f:Int):Ks (F_b n d e f) 72 [I d,I e,I f] [] (λr=>.bool r):=by
 refine Kg 6 func72 Z Z Z Z λr h=>Bd h λb2 a h=>?_;refine Ct b2 [] [] (λb2=>[(6,.bool b2)]) Ze Zf ?_ (λenv H g=>?_)
 .refine G0 5 Z (Is 10 a Z (λi a=>?_) (λi a=>?_))
  iterate 2 exact Go 6 Z (Cl a [])
 exact Gx 1 Z (Qb g (Gc 1 Z (Rt h 6 [])))
def F_ak(n:Nat)(a:Int):Option Bool:=(F_b n a 0 31).bind λd=>some d
theorem QmE(n:Nat)(a:Int):Ks (F_ak n a) 70 [I a] [] (λr=>.bool r):=by
 exact Kg 8 func70 Z Z Z Z λr h=>Cz [] h (k_b _ _ _ _) Z λe d h=>Go 4 Z (Rt h 2 [])
def F_au(n:Nat)(a:Int):Option Bool:=(F_b n a 1 1048576).bind λd=>some d
theorem Qn4(n:Nat)(a:Int):Ks (F_au n a) 71 [I a] [] (λr=>.bool r):=by
 exact Kg 8 func71 Z Z Z Z λr h=>Cz [] h (k_b _ _ _ _) Z λe d h=>Go 4 Z (Rt h 2 [])
def F_f(n:Nat)(a:Int):Option Bool:=(F_b n a 1 9999).bind λd=>some d
theorem k_f(n:Nat)(a:Int):Ks (F_f n a) 148 [I a] [] (λr=>.bool r):=by
 exact Kg 8 func148 Z Z Z Z λr h=>Cz [] h (k_b _ _ _ _) Z λe d h=>Go 4 Z (Rt h 2 [])
def F_d(n:Nat)(a:Int):Option Bool:=(F_b n a (-1099511627776) 1099511627776).bind λd=>some d
theorem k_d(n:Nat)(a:Int):Ks (F_d n a) 146 [I a] [] (λr=>.bool r):=by
 exact Kg 8 func146 Z Z Z Z λr h=>Cz [] h (k_b _ _ _ _) Z λe d h=>Go 4 Z (Rt h 2 [])
def F_bj(n:Nat)(a:Int):Option Bool:=(F_b n a 0 1048576).bind λd=>some d
theorem k_bj(n:Nat)(a:Int):Ks (F_bj n a) 145 [I a] [] (λr=>.bool r):=by
 exact Kg 8 func145 Z Z Z Z λr h=>Cz [] h (k_b _ _ _ _) Z λe d h=>Go 4 Z (Rt h 2 [])
def F_hk(n:Nat)(a:Starter):Option Bool:=((F_f n a.Bib).bind λd=>(bif d then(F_b n a.Distance 0 7).bind λe=>(bif e then(F_b n a.Wave 0 31).bind λf=>(bif f then(F_d n a.Slot).bind λg=>(bif g then(F_b n a.Age 0 120).bind λh=>(bif h then(F_bj n a.Chip).bind λi=>(bif i then(F_b n a.Team 0 9999).bind λj=>(bif j then(F_b n a.Lot 0 1048576).bind λk=>some k else some false)else some false)else some false)else some false)else some false)else some false)else some false):Option Bool).bind λl=>some l
theorem k_hk(n:Nat)(m:Starter):Ks (F_hk n m) 142 [.agg (Starter.c m)] [] (λr=>.bool r):=by
 refine Kg 7 func142 Z Z Z Z λr h=>Bd h λd a h=>?_;refine Ct d [] [] (λd=>[(2,.bool d)]) Ze Zf ?_ (λenv H p=>?_)
 .refine G0 3 Z (Cz [] a (k_f _ _) Z λB q a=>Go 1 Z (Is 6 a Z (λe a=>?_) (λe a=>?_)))
  .refine Go 2 Z (Cz [] a (k_b _ _ _ _) Z λE s a=>Go 2 Z (Is 11 a Z (λf a=>?_) (λf a=>?_)))
   .refine Go 2 Z (Cz [] a (k_b _ _ _ _) Z λF t a=>Go 2 Z (Is 16 a Z (λg a=>?_) (λg a=>?_)))
    .refine Go 2 Z (Cz [] a (k_d _ _) Z λG u a=>Go 2 Z (Is 21 a Z (λi a=>?_) (λi a=>?_)))
     .refine Go 2 Z (Cz [] a (k_b _ _ _ _) Z λJ w a=>Go 2 Z (Is 26 a Z (λj a=>?_) (λj a=>?_)))
      .refine Go 2 Z (Cz [] a (k_bj _ _) Z λL x a=>Go 2 Z (Is 31 a Z (λk a=>?_) (λk a=>?_)))
       .refine Go 2 Z (Cz [] a (k_b _ _ _ _) Z λM y a=>Go 2 Z (Is 36 a Z (λl a=>?_) (λl a=>?_)))
        .exact Go 2 Z (Cz [] a (k_b _ _ _ _) Z λN z a=>Go 3 Z (Cl a []))
        .exact Go 6 Z (Cl a [])
       .exact Go 11 Z (Cl a [])
      .exact Go 16 Z (Cl a [])
     .exact Go 21 Z (Cl a [])
    .exact Go 26 Z (Cl a [])
   .exact Go 31 Z (Cl a [])
  .exact Go 36 Z (Cl a [])
 exact Gx 1 Z (Qb p (Gc 1 Z (Rt h 2 [])))
def F_u(n:Nat)(a:Int):Option Bool:=(F_b n a 0 39).bind λd=>some d
theorem k_u(n:Nat)(a:Int):Ks (F_u n a) 143 [I a] [] (λr=>.bool r):=by
 exact Kg 8 func143 Z Z Z Z λr h=>Cz [] h (k_b _ _ _ _) Z λe d h=>Go 4 Z (Rt h 2 [])
def F_v(n:Nat)(a:Int):Option Bool:=(F_b n a 0 255).bind λd=>some d
theorem k_v(n:Nat)(a:Int):Ks (F_v n a) 144 [I a] [] (λr=>.bool r):=by
 exact Kg 8 func144 Z Z Z Z λr h=>Cz [] h (k_b _ _ _ _) Z λe d h=>Go 4 Z (Rt h 2 [])
def F_he(n:Nat)(a:Sync):Option Bool:=((F_u n a.MatA).bind λd=>(bif d then(F_u n a.MatB).bind λe=>(bif e then(F_v n a.EpochA).bind λf=>(bif f then(F_v n a.EpochB).bind λg=>(bif g then(F_d n a.LocalA).bind λh=>(bif h then(F_d n a.LocalB).bind λi=>(bif i then(F_d n a.Min).bind λj=>(bif j then(F_d n a.Max).bind λk=>(bif k then some (decide (a.Min<=a.Max))else some false)else some false)else some false)else some false)else some false)else some false)else some false)else some false):Option Bool).bind λl=>some l
theorem k_he(n:Nat)(p:Sync):Ks (F_he n p) 147 [.agg (Sync.c p)] [] (λr=>.bool r):=by
 refine Kg 7 func147 Z Z Z Z λr h=>Bd h λd a h=>?_;refine Ct d [] [] (λd=>[(2,.bool d)]) Ze Zf ?_ (λenv H q=>?_)
 .refine G0 3 Z (Cz [] a (k_u _ _) Z λE s a=>Go 1 Z (Is 6 a Z (λe a=>?_) (λe a=>?_)))
  .refine Go 2 Z (Cz [] a (k_u _ _) Z λF t a=>Go 2 Z (Is 11 a Z (λf a=>?_) (λf a=>?_)))
   .refine Go 2 Z (Cz [] a (k_v _ _) Z λG u a=>Go 2 Z (Is 16 a Z (λg a=>?_) (λg a=>?_)))
    .refine Go 2 Z (Cz [] a (k_v _ _) Z λJ w a=>Go 2 Z (Is 21 a Z (λi a=>?_) (λi a=>?_)))
     .refine Go 2 Z (Cz [] a (k_d _ _) Z λL x a=>Go 2 Z (Is 26 a Z (λj a=>?_) (λj a=>?_)))
      .refine Go 2 Z (Cz [] a (k_d _ _) Z λM y a=>Go 2 Z (Is 31 a Z (λk a=>?_) (λk a=>?_)))
       .refine Go 2 Z (Cz [] a (k_d _ _) Z λN z a=>Go 2 Z (Is 36 a Z (λl a=>?_) (λl a=>?_)))
        .refine Go 2 Z (Cz [] a (k_d _ _) Z λO B a=>Go 2 Z (Is 41 a Z (λm a=>?_) (λm a=>?_)))
         iterate 2 exact Go 8 Z (Cl a [])
        .exact Go 13 Z (Cl a [])
       .exact Go 18 Z (Cl a [])
      .exact Go 23 Z (Cl a [])
     .exact Go 28 Z (Cl a [])
    .exact Go 33 Z (Cl a [])
   .exact Go 38 Z (Cl a [])
  .exact Go 43 Z (Cl a [])
 exact Gx 1 Z (Qb q (Gc 1 Z (Rt h 2 [])))
def F_s(n:Nat)(a:Int):Option Bool:=(F_b n a 0 255).bind λd=>some d
theorem k_s(n:Nat)(a:Int):Ks (F_s n a) 149 [I a] [] (λr=>.bool r):=by
 exact Kg 8 func149 Z Z Z Z λr h=>Cz [] h (k_b _ _ _ _) Z λe d h=>Go 4 Z (Rt h 2 [])
def F_am(n:Nat)(a:Int):Option Bool:=(F_b n a 1 1048576).bind λd=>some d
theorem k_am(n:Nat)(a:Int):Ks (F_am n a) 150 [I a] [] (λr=>.bool r):=by
 exact Kg 8 func150 Z Z Z Z λr h=>Cz [] h (k_b _ _ _ _) Z λe d h=>Go 4 Z (Rt h 2 [])
def F_eo(n:Nat)(a:Ruling):Option Bool:=((F_am n a.Case).bind λs=>(bif (!s)then some true else(F_b n a.Instance 1 2).bind λt=>some (!t)):Option Bool).bind λu=>(bif u then some false else((bif (a.Kind==1)then some (a.Kind==1)else some (a.Kind==2)):Option Bool).bind λd=>(bif d then((bif (a.Bib==0)then(bif (a.Position==0)then some (a.Amount==0)else some false)else some false):Option Bool).bind λe=>some e else(bif (a.Kind==3)then((F_f n a.Bib).bind λf=>(bif f then(F_s n a.Position).bind λg=>(bif g then(F_b n a.Amount 1 1099511627776).bind λh=>some h else some false)else some false):Option Bool).bind λi=>some i else(bif (a.Kind==4)then((F_f n a.Bib).bind λj=>(bif j then(F_s n a.Position).bind λk=>(bif k then(F_b n a.Amount 1 64).bind λl=>some l else some false)else some false):Option Bool).bind λm=>some m else(bif (a.Kind==5)then((F_f n a.Bib).bind λp=>(bif p then(F_s n a.Position).bind λq=>(bif q then some (a.Amount==0)else some false)else some false):Option Bool).bind λr=>some r else some false)))))
theorem k_eo(n:Nat)(N:Ruling):Ks (F_eo n N) 151 [.agg (Ruling.c N)] [] (λr=>.bool r):=by
 refine Kg 8 func151 Z Z Z Z λr h=>Bd h λs i h=>?_;refine Ct s [0] [1] (λs=>[(12,.bool s)]) Ze Zf ?_ (λenv H f=>?_)
 .refine G0 3 Z (Cz [] i (k_am _ _) Z λr6 ab i=>Go 2 Z (Is 7 i Z (λO i=>?_) (λO i=>?_)))
  .exact Go 6 Z (Cl i [0])
  .exact Go 2 Z (Cz [] i (k_b _ _ _ _) Z λr8 ac i=>Go 3 Z (Cl i [0]))
 refine Gx 1 Z (Qb f (Cn Z h (λP h=>?_) (λP h=>?_)))
 .exact Gc 7 Z (Rt h 2 [])
 refine Gc 17 Z (Bd h λk j h=>?_);refine Ct k [0] [1,14] (λk=>[(15,.bool k)]) Ze Zf ?_ (λenv H f=>?_)
 .refine G0 0 Z (Cn Z j (λt j=>?_) (λt j=>?_))
  .exact Gc 1 Z (Cl j [0])
  exact Gc 4 Z (Cl j [0])
 refine Gx 1 Z (Qb f (Cn Z h (λu h=>?_) (λu h=>?_)))
 .refine Gc 1 Z (Bd h λl g h=>?_);refine Ct l [] [] (λl=>[(2,.bool l)]) Ze Zf ?_ (λenv H f=>?_)
  .refine G0 5 Z (Is 21 g Z (λw g=>?_) (λw g=>?_))
   .refine Go 5 Z (Is 26 g Z (λx g=>?_) (λx g=>?_))
    iterate 2 exact Go 6 Z (Cl g [])
   .exact Go 11 Z (Cl g [])
  exact Gx 1 Z (Qb f (Gc 3 Z (Rt h 2 [])))
 refine Gc 6 Z (Cn Z h (λy h=>?_) (λy h=>?_))
 .refine Gc 1 Z (Bd h λm a h=>?_);refine Ct m [] [] (λm=>[(2,.bool m)]) Ze Zf ?_ (λenv H f=>?_)
  .refine G0 3 Z (Cz [] a (k_f _ _) Z λae Q a=>Go 1 Z (Is 36 a Z (λz a=>?_) (λz a=>?_)))
   .refine Go 2 Z (Cz [] a (k_s _ _) Z λaf R a=>Go 2 Z (Is 41 a Z (λB a=>?_) (λB a=>?_)))
    .exact Go 2 Z (Cz [] a (k_b _ _ _ _) Z λag T a=>Go 3 Z (Cl a []))
    .exact Go 6 Z (Cl a [])
   .exact Go 11 Z (Cl a [])
  exact Gx 1 Z (Qb f (Gc 3 Z (Rt h 2 [])))
 refine Gc 6 Z (Cn Z h (λE h=>?_) (λE h=>?_))
 .refine Gc 1 Z (Bd h λp d h=>?_);refine Ct p [] [] (λp=>[(2,.bool p)]) Ze Zf ?_ (λenv H f=>?_)
  .refine G0 3 Z (Cz [] d (k_f _ _) Z λah V d=>Go 1 Z (Is 51 d Z (λF d=>?_) (λF d=>?_)))
   .refine Go 2 Z (Cz [] d (k_s _ _) Z λai W d=>Go 2 Z (Is 56 d Z (λG d=>?_) (λG d=>?_)))
    .exact Go 2 Z (Cz [] d (k_b _ _ _ _) Z λaj X d=>Go 3 Z (Cl d []))
    .exact Go 6 Z (Cl d [])
   .exact Go 11 Z (Cl d [])
  exact Gx 1 Z (Qb f (Gc 3 Z (Rt h 2 [])))
 refine Gc 6 Z (Cn Z h (λJ h=>?_) (λJ h=>?_))
 .refine Gc 1 Z (Bd h λq e h=>?_);refine Ct q [] [] (λq=>[(2,.bool q)]) Ze Zf ?_ (λenv H f=>?_)
  .refine G0 3 Z (Cz [] e (k_f _ _) Z λak Y e=>Go 1 Z (Is 66 e Z (λL e=>?_) (λL e=>?_)))
   .refine Go 2 Z (Cz [] e (k_s _ _) Z λal aa e=>Go 2 Z (Is 71 e Z (λM e=>?_) (λM e=>?_)))
    iterate 2 exact Go 6 Z (Cl e [])
   .exact Go 11 Z (Cl e [])
  exact Gx 1 Z (Qb f (Gc 3 Z (Rt h 2 [])))
 exact Gc 9 Z (Rt h 2 [])
def F_ce(n:Nat)(a:Fact):Option Bool:=(bif (a.Kind==1)then(F_hk n a.Starter).bind λr2=>some r2 else(bif (a.Kind==2)then((F_u n a.Read.Mat).bind λu=>(bif u then(F_v n a.Read.Epoch).bind λw=>(bif w then(F_bj n a.Read.Chip).bind λx=>(bif x then(F_d n a.Read.Local).bind λy=>some y else some false)else some false)else some false):Option Bool).bind λz=>some z else(bif (a.Kind==3)then((F_u n a.Beacon.Mat).bind λE=>(bif E then(F_v n a.Beacon.Epoch).bind λF=>(bif F then(F_d n a.Beacon.Local).bind λG=>(bif G then(F_d n a.Beacon.True).bind λH=>(bif H then(F_b n a.Beacon.Err 0 1099511627776).bind λJ=>some J else some false)else some false)else some false)else some false):Option Bool).bind λL=>some L else(bif (a.Kind==4)then(F_he n a.Sync).bind λM=>some M else(bif (a.Kind==5)then((F_f n a.Hand.Bib).bind λN=>(bif N then(F_s n a.Hand.Position).bind λO=>(bif O then(F_d n a.Hand.Lo).bind λP=>(bif P then(F_d n a.Hand.Hi).bind λQ=>(bif Q then some (decide (a.Hand.Lo<=a.Hand.Hi))else some false)else some false)else some false)else some false):Option Bool).bind λR=>some R else(bif (a.Kind==6)then((F_u n a.Silence.Mat).bind λT=>(bif T then(F_v n a.Silence.Epoch).bind λV=>(bif V then(F_d n a.Silence.Lo).bind λW=>(bif W then(F_d n a.Silence.Hi).bind λX=>(bif X then some (decide (a.Silence.Lo<=a.Silence.Hi))else some false)else some false)else some false)else some false):Option Bool).bind λY=>some Y else(bif (a.Kind==7)then((F_f n a.Pair.A).bind λaa=>(bif aa then(F_f n a.Pair.B).bind λab=>(bif ab then some (decide (a.Pair.A<a.Pair.B))else some false)else some false):Option Bool).bind λac=>some ac else(bif (a.Kind==8)then((F_am n a.Report.Case).bind λd=>(bif d then(F_f n a.Report.Bib).bind λe=>(bif e then(F_b n a.Report.Offence 0 31).bind λf=>(bif f then(F_s n a.Report.Position).bind λg=>some g else some false)else some false)else some false):Option Bool).bind λh=>some h else(bif (a.Kind==9)then((F_am n a.Protest.Case).bind λi=>(bif i then(F_b n a.Protest.By 0 9999).bind λj=>(bif j then(F_b n a.Protest.Fee 0 1125899906842624).bind λk=>(bif k then(F_b n a.Protest.Form 0 1).bind λl=>some l else some false)else some false)else some false):Option Bool).bind λm=>some m else(bif (a.Kind==10)then(F_eo n a.Ruling).bind λp=>some p else(bif (a.Kind==11)then(F_am n a.Appeal.Case).bind λq=>some q else(bif (a.Kind==12)then some true else(bif (a.Kind==13)then((F_ak n a.Void.Crew).bind λr=>(bif r then(F_au n a.Void.No).bind λs=>some s else some false):Option Bool).bind λt=>some t else some false)))))))))))))
theorem k_ce(n:Nat)(a1:Fact):Ks (F_ce n a1) 73 [.agg (Fact.c a1)] [] (λr=>.bool r):=by
 refine Kg 20 func73 Z Z Z Z λr h=>Cn Z h (λau h=>?_) (λau h=>?_)
 .exact Gc 4 Z (Cz [] h (k_hk _ _) Z λr2 cp h=>Go 6 Z (Rt h 2 []))
 refine Gc 6 Z (Cn Z h (λav h=>?_) (λav h=>?_))
 .refine Gc 1 Z (Bd h λs i h=>?_);refine Ct s [] [] (λs=>[(2,.bool s)]) Ze Zf ?_ (λenv H j=>?_)
  .refine G0 4 Z (Cz [] i (k_u _ _) Z λcq bi i=>Go 1 Z (Is 16 i Z (λQ i=>?_) (λQ i=>?_)))
   .refine Go 3 Z (Cz [] i (k_v _ _) Z λcr bj i=>Go 2 Z (Is 22 i Z (λR i=>?_) (λR i=>?_)))
    .refine Go 3 Z (Cz [] i (k_bj _ _) Z λcs bk i=>Go 2 Z (Is 28 i Z (λT i=>?_) (λT i=>?_)))
     .exact Go 3 Z (Cz [] i (k_d _ _) Z λct bl i=>Go 3 Z (Cl i []))
     .exact Go 7 Z (Cl i [])
    .exact Go 13 Z (Cl i [])
   .exact Go 19 Z (Cl i [])
  exact Gx 1 Z (Qb j (Gc 3 Z (Rt h 2 [])))
 refine Gc 6 Z (Cn Z h (λV h=>?_) (λV h=>?_))
 .refine Gc 1 Z (Bd h λt e h=>?_);refine Ct t [] [] (λt=>[(2,.bool t)]) Ze Zf ?_ (λenv H j=>?_)
  .refine G0 4 Z (Cz [] e (k_u _ _) Z λcu bm e=>Go 1 Z (Is 40 e Z (λW e=>?_) (λW e=>?_)))
   .refine Go 3 Z (Cz [] e (k_v _ _) Z λcv bn e=>Go 2 Z (Is 46 e Z (λX e=>?_) (λX e=>?_)))
    .refine Go 3 Z (Cz [] e (k_d _ _) Z λcw bo e=>Go 2 Z (Is 52 e Z (λY e=>?_) (λY e=>?_)))
     .refine Go 3 Z (Cz [] e (k_d _ _) Z λcx bp e=>Go 2 Z (Is 58 e Z (λaa e=>?_) (λaa e=>?_)))
      .exact Go 3 Z (Cz [] e (k_b _ _ _ _) Z λcy bq e=>Go 3 Z (Cl e []))
      .exact Go 7 Z (Cl e [])
     .exact Go 13 Z (Cl e [])
    .exact Go 19 Z (Cl e [])
   .exact Go 25 Z (Cl e [])
  exact Gx 1 Z (Qb j (Gc 3 Z (Rt h 2 [])))
 refine Gc 6 Z (Cn Z h (λab h=>?_) (λab h=>?_))
 .exact Gc 4 Z (Cz [] h (k_he _ _) Z λcz br h=>Go 6 Z (Rt h 2 []))
 refine Gc 6 Z (Cn Z h (λac h=>?_) (λac h=>?_))
 .refine Gc 1 Z (Bd h λu f h=>?_);refine Ct u [] [] (λu=>[(2,.bool u)]) Ze Zf ?_ (λenv H j=>?_)
  .refine G0 4 Z (Cz [] f (k_f _ _) Z λda bs f=>Go 1 Z (Is 75 f Z (λae f=>?_) (λae f=>?_)))
   .refine Go 3 Z (Cz [] f (k_s _ _) Z λdb bt f=>Go 2 Z (Is 81 f Z (λaf f=>?_) (λaf f=>?_)))
    .refine Go 3 Z (Cz [] f (k_d _ _) Z λdc bu f=>Go 2 Z (Is 87 f Z (λag f=>?_) (λag f=>?_)))
     .refine Go 3 Z (Cz [] f (k_d _ _) Z λde bv f=>Go 2 Z (Is 93 f Z (λah f=>?_) (λah f=>?_)))
      iterate 2 exact Go 10 Z (Cl f [])
     .exact Go 16 Z (Cl f [])
    .exact Go 22 Z (Cl f [])
   .exact Go 28 Z (Cl f [])
  exact Gx 1 Z (Qb j (Gc 3 Z (Rt h 2 [])))
 refine Gc 6 Z (Cn Z h (λai h=>?_) (λai h=>?_))
 .refine Gc 1 Z (Bd h λw g h=>?_);refine Ct w [] [] (λw=>[(2,.bool w)]) Ze Zf ?_ (λenv H j=>?_)
  .refine G0 4 Z (Cz [] g (k_u _ _) Z λdf bw g=>Go 1 Z (Is 108 g Z (λaj g=>?_) (λaj g=>?_)))
   .refine Go 3 Z (Cz [] g (k_v _ _) Z λdg bx g=>Go 2 Z (Is 114 g Z (λak g=>?_) (λak g=>?_)))
    .refine Go 3 Z (Cz [] g (k_d _ _) Z λdh bz g=>Go 2 Z (Is 120 g Z (λal g=>?_) (λal g=>?_)))
     .refine Go 3 Z (Cz [] g (k_d _ _) Z λdi ca g=>Go 2 Z (Is 126 g Z (λam g=>?_) (λam g=>?_)))
      iterate 2 exact Go 10 Z (Cl g [])
     .exact Go 16 Z (Cl g [])
    .exact Go 22 Z (Cl g [])
   .exact Go 28 Z (Cl g [])
  exact Gx 1 Z (Qb j (Gc 3 Z (Rt h 2 [])))
 refine Gc 6 Z (Cn Z h (λan h=>?_) (λan h=>?_))
 .refine Gc 1 Z (Bd h λx k h=>?_);refine Ct x [] [] (λx=>[(2,.bool x)]) Ze Zf ?_ (λenv H j=>?_)
  .refine G0 4 Z (Cz [] k (k_f _ _) Z λdj cb k=>Go 1 Z (Is 141 k Z (λao k=>?_) (λao k=>?_)))
   .refine Go 3 Z (Cz [] k (k_f _ _) Z λdk cc k=>Go 2 Z (Is 147 k Z (λaq k=>?_) (λaq k=>?_)))
    iterate 2 exact Go 10 Z (Cl k [])
   .exact Go 16 Z (Cl k [])
  exact Gx 1 Z (Qb j (Gc 3 Z (Rt h 2 [])))
 refine Gc 6 Z (Cn Z h (λar h=>?_) (λar h=>?_))
 .refine Gc 1 Z (Bd h λm a h=>?_);refine Ct m [] [] (λm=>[(2,.bool m)]) Ze Zf ?_ (λenv H j=>?_)
  .refine G0 4 Z (Cz [] a (k_am _ _) Z λcd aw a=>Go 1 Z (Is 162 a Z (λy a=>?_) (λy a=>?_)))
   .refine Go 3 Z (Cz [] a (k_f _ _) Z λce ax a=>Go 2 Z (Is 168 a Z (λz a=>?_) (λz a=>?_)))
    .refine Go 3 Z (Cz [] a (k_b _ _ _ _) Z λcf ay a=>Go 2 Z (Is 174 a Z (λB a=>?_) (λB a=>?_)))
     .exact Go 3 Z (Cz [] a (k_s _ _) Z λcg az a=>Go 3 Z (Cl a []))
     .exact Go 7 Z (Cl a [])
    .exact Go 13 Z (Cl a [])
   .exact Go 19 Z (Cl a [])
  exact Gx 1 Z (Qb j (Gc 3 Z (Rt h 2 [])))
 refine Gc 6 Z (Cn Z h (λE h=>?_) (λE h=>?_))
 .refine Gc 1 Z (Bd h λp d h=>?_);refine Ct p [] [] (λp=>[(2,.bool p)]) Ze Zf ?_ (λenv H j=>?_)
  .refine G0 4 Z (Cz [] d (k_am _ _) Z λch ba d=>Go 1 Z (Is 186 d Z (λF d=>?_) (λF d=>?_)))
   .refine Go 3 Z (Cz [] d (k_b _ _ _ _) Z λci bb d=>Go 2 Z (Is 192 d Z (λG d=>?_) (λG d=>?_)))
    .refine Go 3 Z (Cz [] d (k_b _ _ _ _) Z λcj bc d=>Go 2 Z (Is 198 d Z (λJ d=>?_) (λJ d=>?_)))
     .exact Go 3 Z (Cz [] d (k_b _ _ _ _) Z λck bd d=>Go 3 Z (Cl d []))
     .exact Go 7 Z (Cl d [])
    .exact Go 13 Z (Cl d [])
   .exact Go 19 Z (Cl d [])
  exact Gx 1 Z (Qb j (Gc 3 Z (Rt h 2 [])))
 refine Gc 6 Z (Cn Z h (λL h=>?_) (λL h=>?_))
 .exact Gc 4 Z (Cz [] h (k_eo _ _) Z λcl be h=>Go 6 Z (Rt h 2 []))
 refine Gc 6 Z (Cn Z h (λM h=>?_) (λM h=>?_))
 .exact Gc 5 Z (Cz [] h (k_am _ _) Z λcm bf h=>Go 6 Z (Rt h 2 []))
 refine Gc 6 Z (Cn Z h (λN h=>?_) (λN h=>?_))
 .exact Gc 8 Z (Rt h 2 [])
 refine Gc 6 Z (Cn Z h (λO h=>?_) (λO h=>?_))
 .refine Gc 1 Z (Bd h λq l h=>?_);refine Ct q [] [] (λq=>[(2,.bool q)]) Ze Zf ?_ (λenv H j=>?_)
  .refine G0 4 Z (Cz [] l (QmE _ _) Z λcn bg l=>Go 1 Z (Is 223 l Z (λP l=>?_) (λP l=>?_)))
   .exact Go 3 Z (Cz [] l (Qn4 _ _) Z λco bh l=>Go 3 Z (Cl l []))
   .exact Go 7 Z (Cl l [])
  exact Gx 1 Z (Qb j (Gc 3 Z (Rt h 2 [])))
 exact Gc 9 Z (Rt h 2 [])
def F_dg(n:Nat)(a:Fact):Option Fact:=((bif (a.Kind==1)then some ({Uk with Crew:=a.Crew,No:=a.No,At:=a.At,Kind:=a.Kind,Starter:=a.Starter:Fact})else(bif (a.Kind==2)then some ({Uk with Crew:=a.Crew,No:=a.No,At:=a.At,Kind:=a.Kind,Read:=a.Read:Fact})else(bif (a.Kind==3)then some ({Uk with Crew:=a.Crew,No:=a.No,At:=a.At,Kind:=a.Kind,Beacon:=a.Beacon:Fact})else(bif (a.Kind==4)then some ({Uk with Crew:=a.Crew,No:=a.No,At:=a.At,Kind:=a.Kind,Sync:=a.Sync:Fact})else(bif (a.Kind==5)then some ({Uk with Crew:=a.Crew,No:=a.No,At:=a.At,Kind:=a.Kind,Hand:=a.Hand:Fact})else(bif (a.Kind==6)then some ({Uk with Crew:=a.Crew,No:=a.No,At:=a.At,Kind:=a.Kind,Silence:=a.Silence:Fact})else(bif (a.Kind==7)then some ({Uk with Crew:=a.Crew,No:=a.No,At:=a.At,Kind:=a.Kind,Pair:=a.Pair:Fact})else(bif (a.Kind==8)then some ({Uk with Crew:=a.Crew,No:=a.No,At:=a.At,Kind:=a.Kind,Report:=a.Report:Fact})else(bif (a.Kind==9)then some ({Uk with Crew:=a.Crew,No:=a.No,At:=a.At,Kind:=a.Kind,Protest:=a.Protest:Fact})else(bif (a.Kind==10)then some ({Uk with Crew:=a.Crew,No:=a.No,At:=a.At,Kind:=a.Kind,Ruling:=a.Ruling:Fact})else(bif (a.Kind==11)then some ({Uk with Crew:=a.Crew,No:=a.No,At:=a.At,Kind:=a.Kind,Appeal:=a.Appeal:Fact})else(bif (a.Kind==13)then some ({Uk with Crew:=a.Crew,No:=a.No,At:=a.At,Kind:=a.Kind,Void:=a.Void:Fact})else some ({Uk with Crew:=a.Crew,No:=a.No,At:=a.At,Kind:=a.Kind:Fact}))))))))))))):Option Fact).bind λd=>some d
theorem k_dg(n:Nat)(u:Fact):Kq (F_dg n u) 74 [.agg (Fact.c u)] [] (λr=>.agg (Fact.c r)) (λr=>[.cells 68 (Fact.c r)]):=by
 refine Kg 35 func74 Z Z Z Z λr h=>Bd h λd a h=>?_;refine Ct d [1,2] [2,3] Ze (λd=>[(1,.cells 68 (Fact.c d))]) Zf ?_ (λenv H w=>?_)
 .refine G0 0 Z (Cn Z a (λe a=>?_) (λe a=>?_))
  .exact Gc 6 Z (Cl a [1,2])
  refine Gc 6 Z (Cn Z a (λf a=>?_) (λf a=>?_))
  .exact Gc 6 Z (Cl a [1,2])
  refine Gc 6 Z (Cn Z a (λg a=>?_) (λg a=>?_))
  .exact Gc 6 Z (Cl a [1,2])
  refine Gc 6 Z (Cn Z a (λi a=>?_) (λi a=>?_))
  .exact Gc 6 Z (Cl a [1,2])
  refine Gc 6 Z (Cn Z a (λj a=>?_) (λj a=>?_))
  .exact Gc 6 Z (Cl a [1,2])
  refine Gc 6 Z (Cn Z a (λk a=>?_) (λk a=>?_))
  .exact Gc 6 Z (Cl a [1,2])
  refine Gc 6 Z (Cn Z a (λl a=>?_) (λl a=>?_))
  .exact Gc 6 Z (Cl a [1,2])
  refine Gc 6 Z (Cn Z a (λm a=>?_) (λm a=>?_))
  .exact Gc 6 Z (Cl a [1,2])
  refine Gc 6 Z (Cn Z a (λp a=>?_) (λp a=>?_))
  .exact Gc 6 Z (Cl a [1,2])
  refine Gc 6 Z (Cn Z a (λq a=>?_) (λq a=>?_))
  .exact Gc 6 Z (Cl a [1,2])
  refine Gc 6 Z (Cn Z a (λs a=>?_) (λs a=>?_))
  .exact Gc 6 Z (Cl a [1,2])
  refine Gc 6 Z (Cn Z a (λt a=>?_) (λt a=>?_))
  .exact Gc 6 Z (Cl a [1,2])
  exact Gc 1 Z (Cl a [1,2])
 refine Gx 2 Z (Qb w (Gc 7 Z ?_));obtain rfl:=Oi h;exact Rx [0] [2] Z (Jb Z (QF EJ EB Z Z Z)) ⟨Z,Z⟩
def F_bp(n:Nat)(a:Fact):Option Int:=((F_ak n a.Crew).bind λd=>(bif (!d)then some true else(F_au n a.No).bind λe=>(bif (!e)then some true else(F_b n a.At 0 1099511627776).bind λf=>(bif (!f)then some true else(F_ce n a).bind λg=>(bif (!g)then some true else(F_dg n a).bind λh=>some (a != h))))):Option Bool).bind λi=>(bif i then some 120 else some 0)
theorem k_bp(n:Nat)(f:Fact):Ks (F_bp n f) 43 [.agg (Fact.c f)] [] (λr=>I r):=by
 refine Kg 8 func43 Z Z Z Z λr h=>Bd h λx e h=>?_;refine Ct x [] [] (λx=>[(29,.bool x)]) Ze Zf ?_ (λenv H E=>?_)
 .refine G0 0 Z ?_;obtain⟨k,s,e⟩:=YU e;refine If e (λa e=>?_) (λa e=>?_)
  .refine TC.draw0 25 [3,4,5,6,7,8,9,10,11,12,13,14,15,16,17,18,19,20,21,22,23,24,25,26,27] [.ptr 0 0,I f.Crew,.bool k,.bool (!k),.bool (!k),.tup [],.tup [],.tup [],.tup [],.bool true,.bool true,.tup [],.tup [],.tup [],.tup [],.bool true,.bool true,.tup [],.tup [],.tup [],.bool true,.bool true,.tup [],.tup [],.tup []] draws Z Z Z ?_ ?_
   .refine ov (ov (Oq.c ?_ (Oq.c ?_ (ov (Oq.c ?_ (Oq.c ?_ (Oq.c ?_ (Oq.c ?_ (Oq.c ?_ (ov (Oq.c ?_ (Oq.c ?_ (Oq.c ?_ (Oq.c ?_ (Oq.c ?_ (ov (Oq.c ?_ (Oq.c ?_ (Oq.c ?_ (Oq.c ?_ (ov (Oq.c ?_ (Oq.c ?_ (Oq.c ?_ (Oq.n)))))))))))))))))))))))))
    .refine Om Z (sD 1 sN) ?_;exact Pc [] Z (OpC.fn call70 Z Z Z) (QmE _ _ _ s) Z Wp
    .refine Om Z (sD 2 sN) ?_;exact S Z Wp
    .refine Om Z (sO 1 (sD 4 sN)) ?_;exact K (gF a) Z Wp
    .refine Om Z (sD 4 (sD 5 sN)) ?_;exact K (gF a) Z Wp
    .refine Om Z (sD 4 (sD 6 sN)) ?_;exact K (gF a) Z Wp
    .refine Om Z (sD 4 (sD 7 sN)) ?_;exact K (gF a) Z Wp
    .refine Om Z (sD 4 (sD 8 sN)) ?_;exact Pk a Z Wp
    .refine Om Z (sO 1 (sD 10 sN)) ?_;exact K (gF Z) Z Wp
    .refine Om Z (sD 10 (sD 11 sN)) ?_;exact K (gF Z) Z Wp
    .refine Om Z (sD 10 (sD 12 sN)) ?_;exact K (gF Z) Z Wp
    .refine Om Z (sD 10 (sD 13 sN)) ?_;exact K (gF Z) Z Wp
    .refine Om Z (sD 10 (sD 14 sN)) ?_;exact S Z Wp
    .refine Om Z (sO 1 (sD 16 sN)) ?_;exact K (gF Z) Z Wp
    .refine Om Z (sD 16 (sD 17 sN)) ?_;exact K (gF Z) Z Wp
    .refine Om Z (sD 16 (sD 18 sN)) ?_;exact K (gF Z) Z Wp
    .refine Om Z (sD 16 (sD 19 sN)) ?_;exact S Z Wp
    iterate 2 refine Om Z (sO 1 (sD 21 sN)) ?_;exact K (gF Z) Z Wp
    .refine Om Z (sD 21 (sD 23 sN)) ?_;exact K (gF Z) Z Wp
   exact Go 3 Z (Cl e [])
  .obtain⟨j,t,e⟩:=YU e;refine If e (λd e=>?_) (λd e=>?_)
   .refine TC.draw0 25 [3,4,5,6,7,8,9,10,11,12,13,14,15,16,17,18,19,20,21,22,23,24,25,26,27] [.ptr 0 0,I f.Crew,.bool k,.bool (!k),.bool (!k),.ptr 0 1,I f.No,.bool j,.bool (!j),.bool (!j),.bool (!j),.tup [],.tup [],.tup [],.tup [],.bool true,.bool true,.tup [],.tup [],.tup [],.bool true,.bool true,.tup [],.tup [],.tup []] draws Z Z Z ?_ ?_
    .refine ov (ov (Oq.c ?_ (Oq.c ?_ (ov (Oq.c ?_ (Oq.c ?_ (Oq.c ?_ (Oq.c ?_ (Oq.c ?_ (ov (Oq.c ?_ (Oq.c ?_ (Oq.c ?_ (Oq.c ?_ (Oq.c ?_ (ov (Oq.c ?_ (Oq.c ?_ (Oq.c ?_ (Oq.c ?_ (ov (Oq.c ?_ (Oq.c ?_ (Oq.c ?_ (Oq.n)))))))))))))))))))))))))
     .refine Om Z (sD 1 sN) ?_;exact Pc [] Z (OpC.fn call70 Z Z Z) (QmE _ _ _ s) Z Wp
     .refine Om Z (sD 2 sN) ?_;exact S Z Wp
     .refine Om Z (sO 1 (sD 4 sN)) ?_;exact Fpg (gT a) Qdx Z Wp
     .refine Om Z (sD 4 (sD 5 sN)) ?_;exact Ldg (gT a) EE Z Wp
     .refine Om Z (sD 4 (sD 6 sN)) ?_;exact Pc [] Z (OpC.fn call71 Z Z Z) (Qn4 _ _ _ t) (hg:=(gT a)) Z Wp
     .refine Om Z (sD 4 (sD 7 sN)) ?_;exact Sg (gT a) Z Wp
     .refine Om Z (sD 4 (sD 8 sN)) ?_;exact Pk a Z Wp
     .refine Om Z (sO 1 (sD 10 sN)) ?_;exact K (gF d) Z Wp
     .refine Om Z (sD 10 (sD 11 sN)) ?_;exact K (gF d) Z Wp
     .refine Om Z (sD 10 (sD 12 sN)) ?_;exact K (gF d) Z Wp
     .refine Om Z (sD 10 (sD 13 sN)) ?_;exact K (gF d) Z Wp
     .refine Om Z (sD 10 (sD 14 sN)) ?_;exact Pk d Z Wp
     .refine Om Z (sO 1 (sD 16 sN)) ?_;exact K (gF Z) Z Wp
     .refine Om Z (sD 16 (sD 17 sN)) ?_;exact K (gF Z) Z Wp
     .refine Om Z (sD 16 (sD 18 sN)) ?_;exact K (gF Z) Z Wp
     .refine Om Z (sD 16 (sD 19 sN)) ?_;exact S Z Wp
     iterate 2 refine Om Z (sO 1 (sD 21 sN)) ?_;exact K (gF Z) Z Wp
     .refine Om Z (sD 21 (sD 23 sN)) ?_;exact K (gF Z) Z Wp
    exact Go 3 Z (Cl e [])
   .obtain⟨l,w,e⟩:=YU e;refine If e (λg e=>?_) (λg e=>?_)
    .refine TC.draw0 25 [3,4,5,6,7,8,9,10,11,12,13,14,15,16,17,18,19,20,21,22,23,24,25,26,27] [.ptr 0 0,I f.Crew,.bool k,.bool (!k),.bool (!k),.ptr 0 1,I f.No,.bool j,.bool (!j),.bool (!j),.bool (!j),.ptr 0 2,I f.At,.bool l,.bool (!l),.bool (!l),.bool (!l),.tup [],.tup [],.tup [],.bool true,.bool true,.tup [],.tup [],.tup []] draws Z Z Z ?_ ?_
     .refine ov (ov (Oq.c ?_ (Oq.c ?_ (ov (Oq.c ?_ (Oq.c ?_ (Oq.c ?_ (Oq.c ?_ (Oq.c ?_ (ov (Oq.c ?_ (Oq.c ?_ (Oq.c ?_ (Oq.c ?_ (Oq.c ?_ (ov (Oq.c ?_ (Oq.c ?_ (Oq.c ?_ (Oq.c ?_ (ov (Oq.c ?_ (Oq.c ?_ (Oq.c ?_ (Oq.n)))))))))))))))))))))))))
      .refine Om Z (sD 1 sN) ?_;exact Pc [] Z (OpC.fn call70 Z Z Z) (QmE _ _ _ s) Z Wp
      .refine Om Z (sD 2 sN) ?_;exact S Z Wp
      .refine Om Z (sO 1 (sD 4 sN)) ?_;exact Fpg (gT a) Qdx Z Wp
      .refine Om Z (sD 4 (sD 5 sN)) ?_;exact Ldg (gT a) EE Z Wp
      .refine Om Z (sD 4 (sD 6 sN)) ?_;exact Pc [] Z (OpC.fn call71 Z Z Z) (Qn4 _ _ _ t) (hg:=(gT a)) Z Wp
      .refine Om Z (sD 4 (sD 7 sN)) ?_;exact Sg (gT a) Z Wp
      .refine Om Z (sD 4 (sD 8 sN)) ?_;exact Pk a Z Wp
      .refine Om Z (sO 1 (sD 10 sN)) ?_;exact Fpg (gT d) Qfb Z Wp
      .refine Om Z (sD 10 (sD 11 sN)) ?_;exact Ldg (gT d) EE Z Wp
      .refine Om Z (sD 10 (sD 12 sN)) ?_;exact Pc [] Z (OpC.fn call72 Z Z Z) (k_b _ _ _ _ _ w) (hg:=(gT d)) Z Wp
      .refine Om Z (sD 10 (sD 13 sN)) ?_;exact Sg (gT d) Z Wp
      .refine Om Z (sD 10 (sD 14 sN)) ?_;exact Pk d Z Wp
      .refine Om Z (sO 1 (sD 16 sN)) ?_;exact K (gF g) Z Wp
      .refine Om Z (sD 16 (sD 17 sN)) ?_;exact K (gF g) Z Wp
      .refine Om Z (sD 16 (sD 18 sN)) ?_;exact K (gF g) Z Wp
      .refine Om Z (sD 16 (sD 19 sN)) ?_;exact Pk g Z Wp
      iterate 2 refine Om Z (sO 1 (sD 21 sN)) ?_;exact K (gF Z) Z Wp
      .refine Om Z (sD 21 (sD 23 sN)) ?_;exact K (gF Z) Z Wp
     exact Go 3 Z (Cl e [])
    .obtain⟨m,y,e⟩:=YU e;refine If e (λi e=>?_) (λi e=>?_)
     .refine TC.draw0 25 [3,4,5,6,7,8,9,10,11,12,13,14,15,16,17,18,19,20,21,22,23,24,25,26,27] [.ptr 0 0,I f.Crew,.bool k,.bool (!k),.bool (!k),.ptr 0 1,I f.No,.bool j,.bool (!j),.bool (!j),.bool (!j),.ptr 0 2,I f.At,.bool l,.bool (!l),.bool (!l),.bool (!l),.agg (Fact.c f),.bool m,.bool (!m),.bool (!m),.bool (!m),.tup [],.tup [],.tup []] draws Z Z Z ?_ ?_
      .refine ov (ov (Oq.c ?_ (Oq.c ?_ (ov (Oq.c ?_ (Oq.c ?_ (Oq.c ?_ (Oq.c ?_ (Oq.c ?_ (ov (Oq.c ?_ (Oq.c ?_ (Oq.c ?_ (Oq.c ?_ (Oq.c ?_ (ov (Oq.c ?_ (Oq.c ?_ (Oq.c ?_ (Oq.c ?_ (ov (Oq.c ?_ (Oq.c ?_ (Oq.c ?_ (Oq.n)))))))))))))))))))))))))
       .refine Om Z (sD 1 sN) ?_;exact Pc [] Z (OpC.fn call70 Z Z Z) (QmE _ _ _ s) Z Wp
       .refine Om Z (sD 2 sN) ?_;exact S Z Wp
       .refine Om Z (sO 1 (sD 4 sN)) ?_;exact Fpg (gT a) Qdx Z Wp
       .refine Om Z (sD 4 (sD 5 sN)) ?_;exact Ldg (gT a) EE Z Wp
       .refine Om Z (sD 4 (sD 6 sN)) ?_;exact Pc [] Z (OpC.fn call71 Z Z Z) (Qn4 _ _ _ t) (hg:=(gT a)) Z Wp
       .refine Om Z (sD 4 (sD 7 sN)) ?_;exact Sg (gT a) Z Wp
       .refine Om Z (sD 4 (sD 8 sN)) ?_;exact Pk a Z Wp
       .refine Om Z (sO 1 (sD 10 sN)) ?_;exact Fpg (gT d) Qfb Z Wp
       .refine Om Z (sD 10 (sD 11 sN)) ?_;exact Ldg (gT d) EE Z Wp
       .refine Om Z (sD 10 (sD 12 sN)) ?_;exact Pc [] Z (OpC.fn call72 Z Z Z) (k_b _ _ _ _ _ w) (hg:=(gT d)) Z Wp
       .refine Om Z (sD 10 (sD 13 sN)) ?_;exact Sg (gT d) Z Wp
       .refine Om Z (sD 10 (sD 14 sN)) ?_;exact Pk d Z Wp
       .refine Om Z (sO 1 (sD 16 sN)) ?_;refine vX (.agg (Fact.c f)) (Qo Z EJ EB Z (Pts.cells Z Z) Z Z) ?_ (gT g);exact Wp
       .refine Om Z (sD 16 (sD 17 sN)) ?_;exact Pc [] Z (OpC.fn call73 Z Z Z) (k_ce _ _ _ y) (hg:=(gT g)) Z Wp
       .refine Om Z (sD 16 (sD 18 sN)) ?_;exact Sg (gT g) Z Wp
       .refine Om Z (sD 16 (sD 19 sN)) ?_;exact Pk g Z Wp
       iterate 2 refine Om Z (sO 1 (sD 21 sN)) ?_;exact K (gF i) Z Wp
       .refine Om Z (sD 21 (sD 23 sN)) ?_;exact K (gF i) Z Wp
      exact KF i Z (Pk i Z (Go 1 Z (Cl e [])))
     .obtain⟨u,z,e⟩:=YU e;refine QaM 25 0 [3,4,5,6,7,8,9,10,11,12,13,14,15,16,17,18,19,20,21,22,23,24,25,26,27] [false,false,false,false,false,false,false,false,false,false,false,false,false,false,false,false,false,false,false,false,false,false,false,false,true] [[],[],[],[],[],[],[],[],[],[],[],[],[],[],[],[],[],[],[],[],[],[],[],[],[]] [[],[24]] [[(0,0)],[(0,0)],[(0,0)],[(0,0)],[(0,0)],[(0,0)],[(0,0)],[(0,0)],[(0,0)],[(0,0)],[(0,0)],[(0,0)],[(0,0)],[(0,0)],[(0,0)],[(0,0)],[(0,0)],[(0,0)],[(0,0)],[(0,0)],[(0,0)],[(0,0)],[(0,0),(1,1)],[(0,0)],[(0,1)]] [.ptr 0 0,I f.Crew,.bool k,.bool (!k),.bool (!k),.ptr 0 1,I f.No,.bool j,.bool (!j),.bool (!j),.bool (!j),.ptr 0 2,I f.At,.bool l,.bool (!l),.bool (!l),.bool (!l),.agg (Fact.c f),.bool m,.bool (!m),.bool (!m),.bool (!m),.agg (Fact.c f),.agg (Fact.c f),.agg (Fact.c u)] [[.cells 68 (Fact.c f)],[.cells 68 (Fact.c f),.cells 68 (Fact.c u)]] ([.cells 68 (Fact.c f),.cells 68 (Fact.c u)]) draws Z Z Z Z Z Z Z ?_ Z ?_
      .refine QiF.cons (Qd (v0 Z Z) (Qm)) (QiF.cons (Qd (v0 Z Z) (Qm)) (QiF.cons ?_ (QiF.cons ?_ (QiF.cons (Qd (v0 Z Z) (Qm)) (QiF.cons ?_ (QiF.cons ?_ (QiF.cons ?_ (QiF.cons ?_ (QiF.cons ?_ (QiF.cons (Qd (v0 Z Z) (Qm)) (QiF.cons ?_ (QiF.cons ?_ (QiF.cons ?_ (QiF.cons ?_ (QiF.cons ?_ (QiF.cons (Qd (v0 Z Z) (Qm)) (QiF.cons ?_ (QiF.cons ?_ (QiF.cons ?_ (QiF.cons ?_ (QiF.cons (Qd (v0 Z Z) (Qm)) (QiF.cons ?_ (QiF.cons ?_ (QiF.cons ?_ (QiF.nil)))))))))))))))))))))))))
       .refine Qd ?_ (Qm)
        .refine Om Z (sD 1 sN) ?_;exact Pc [] Z (OpC.fn call70 Z Z Z) (QmE _ _ _ s) Z Wp
       .refine Qd ?_ (Qm)
        .refine Om Z (sD 2 sN) ?_;exact S Z Wp
       .refine Qd ?_ (Qm)
        .refine Om Z (sO 1 (sD 4 sN)) ?_;exact Fpg (gT a) Qdx Z Wp
       .refine Qd ?_ (Qm)
        .refine Om Z (sD 4 (sD 5 sN)) ?_;exact Ldg (gT a) EE Z Wp
       .refine Qd ?_ (Qm)
        .refine Om Z (sD 4 (sD 6 sN)) ?_;exact Pc [] Z (OpC.fn call71 Z Z Z) (Qn4 _ _ _ t) (hg:=(gT a)) Z Wp
       .refine Qd ?_ (Qm)
        .refine Om Z (sD 4 (sD 7 sN)) ?_;exact Sg (gT a) Z Wp
       .refine Qd ?_ (Qm)
        .refine Om Z (sD 4 (sD 8 sN)) ?_;exact Pk a Z Wp
       .refine Qd ?_ (Qm)
        .refine Om Z (sO 1 (sD 10 sN)) ?_;exact Fpg (gT d) Qfb Z Wp
       .refine Qd ?_ (Qm)
        .refine Om Z (sD 10 (sD 11 sN)) ?_;exact Ldg (gT d) EE Z Wp
       .refine Qd ?_ (Qm)
        .refine Om Z (sD 10 (sD 12 sN)) ?_;exact Pc [] Z (OpC.fn call72 Z Z Z) (k_b _ _ _ _ _ w) (hg:=(gT d)) Z Wp
       .refine Qd ?_ (Qm)
        .refine Om Z (sD 10 (sD 13 sN)) ?_;exact Sg (gT d) Z Wp
       .refine Qd ?_ (Qm)
        .refine Om Z (sD 10 (sD 14 sN)) ?_;exact Pk d Z Wp
       .refine Qd ?_ (Qm)
        .refine Om Z (sO 1 (sD 16 sN)) ?_;refine vX (.agg (Fact.c f)) (Qo Z EJ EB Z (Pts.cells Z Z) Z Z) ?_ (gT g);exact Wp
       .refine Qd ?_ (Qm)
        .refine Om Z (sD 16 (sD 17 sN)) ?_;exact Pc [] Z (OpC.fn call73 Z Z Z) (k_ce _ _ _ y) (hg:=(gT g)) Z Wp
       .refine Qd ?_ (Qm)
        .refine Om Z (sD 16 (sD 18 sN)) ?_;exact Sg (gT g) Z Wp
       .refine Qd ?_ (Qm)
        .refine Om Z (sD 16 (sD 19 sN)) ?_;exact Pk g Z Wp
       .refine Qd ?_ (Qd ?_ (Qm))
        iterate 2 refine Om Z (sO 1 (sD 21 sN)) ?_;refine vX (.agg (Fact.c f)) (Qo Z EJ EB Z (Pts.cells Z Z) Z Z) ?_ (gT i);exact Wp
       .refine Qd ?_ (Qm)
        .refine Om Z (sO 1 (sD 21 sN)) ?_;refine vX (.agg (Fact.c f)) (Qo Z EJ EB Z (Pts.cells Z Z) Z Z) ?_ (gT i);exact Wp
       .refine Qd ?_ (Qm)
        .refine Om1 Z (sD 21 (sD 23 sN)) ?_;refine Q2 [] (OpC.fn call74 Z Z Z) (k_dg _ _ _ z) ?_ (hg:=(gT i));rintro _ _ ⟨rfl,rfl⟩;exact FE Z Wp
      refine vX (.bool (f != u)) (QhE (p:=f) (q:=u) Qk7 Z Z) ?_ (gT i);exact Pk i Z (Go 1 Z (Cl e []))
 refine Gx 1 Z (Qb E (Cn Z h (λB h=>?_) (λB h=>?_)))
 .exact Gc 7 Z (Rt h 2 [])
 exact Gc 8 Z (Rt h 2 [])
def F_dv(n:Nat)(a:Fact):Option (List Int):=(bif (a.Kind==1)then(app [a.Kind,a.Crew,a.No,a.At] [a.Starter.Bib,a.Starter.Distance,a.Starter.Wave,a.Starter.Slot,a.Starter.Age,a.Starter.Chip,a.Starter.Team,a.Starter.Lot]).bind λm=>some m else(bif (a.Kind==2)then(app [a.Kind,a.Crew,a.No,a.At] [a.Read.Mat,a.Read.Epoch,a.Read.Chip,a.Read.Local]).bind λp=>some p else(bif (a.Kind==3)then(app [a.Kind,a.Crew,a.No,a.At] [a.Beacon.Mat,a.Beacon.Epoch,a.Beacon.Local,a.Beacon.True,a.Beacon.Err]).bind λq=>some q else(bif (a.Kind==4)then(app [a.Kind,a.Crew,a.No,a.At] [a.Sync.MatA,a.Sync.EpochA,a.Sync.LocalA,a.Sync.MatB,a.Sync.EpochB,a.Sync.LocalB,a.Sync.Min,a.Sync.Max]).bind λr=>some r else(bif (a.Kind==5)then(app [a.Kind,a.Crew,a.No,a.At] [a.Hand.Bib,a.Hand.Position,a.Hand.Lo,a.Hand.Hi]).bind λd=>some d else(bif (a.Kind==6)then(app [a.Kind,a.Crew,a.No,a.At] [a.Silence.Mat,a.Silence.Epoch,a.Silence.Lo,a.Silence.Hi]).bind λe=>some e else(bif (a.Kind==7)then(app [a.Kind,a.Crew,a.No,a.At] [a.Pair.A,a.Pair.B]).bind λf=>some f else(bif (a.Kind==8)then(app [a.Kind,a.Crew,a.No,a.At] [a.Report.Case,a.Report.Bib,a.Report.Offence,a.Report.Position]).bind λg=>some g else(bif (a.Kind==9)then(app [a.Kind,a.Crew,a.No,a.At] [a.Protest.Case,a.Protest.By,a.Protest.Fee,a.Protest.Form]).bind λh=>some h else(bif (a.Kind==10)then(app [a.Kind,a.Crew,a.No,a.At] [a.Ruling.Case,a.Ruling.Instance,a.Ruling.Kind,a.Ruling.Bib,a.Ruling.Position,a.Ruling.Amount]).bind λi=>some i else(bif (a.Kind==11)then(bif a.Appeal.Suspends then(app [a.Kind,a.Crew,a.No,a.At] [a.Appeal.Case,1]).bind λj=>some j else(app [a.Kind,a.Crew,a.No,a.At] [a.Appeal.Case,0]).bind λk=>some k)else(bif (a.Kind==13)then(app [a.Kind,a.Crew,a.No,a.At] [a.Void.Crew,a.Void.No]).bind λl=>some l else some [a.Kind,a.Crew,a.No,a.At]))))))))))))
theorem k_dv(n:Nat)(a:Fact):Kq (F_dv n a) 212 [.agg (Fact.c a)] [] (λr=>.osl 0 0 r.length 1) (λr=>[.row 3 1 (map (Qe .i64) r)]):=by
 refine Kg 16 func212 Z Z Z Z λr h=>?_;refine vH (Ej (xs:=[.tmp 14,.tmp 16,.tmp 18,.tmp 20]) (es:=map (Qe .i64) [a.Kind,a.Crew,a.No,a.At]) QA Z Z Z Z Z ⟨Z,Z,Z,Z,trivial⟩ Z Z) ?_;refine FE Z (Go 17 Z (Cn Z h (λF h=>?_) (λF h=>?_)))
 .refine Gc 27 Z ?_;refine vH (Ej (xs:=[.tmp 30,.tmp 32,.tmp 34,.tmp 36,.tmp 38,.tmp 40,.tmp 42,.tmp 44]) (es:=map (Qe .i64) [a.Starter.Bib,a.Starter.Distance,a.Starter.Wave,a.Starter.Slot,a.Starter.Age,a.Starter.Chip,a.Starter.Team,a.Starter.Lot]) QA Z Z Z Z Z ⟨Z,Z,Z,Z,Z,Z,Z,Z,trivial⟩ Z Z) ?_;refine FE Z (Bd h λl2 G h=>?_);refine vH (Qk (e:=(Qe .i64)) G QA EC (QQ (i:=3))) ?_;exact FE Z (Go 6 Z (Rt h 2 [4]))
 refine Gc 6 Z (Cn Z h (λH h=>?_) (λH h=>?_))
 .refine Gc 19 Z ?_;refine vH (Ej (xs:=[.tmp 53,.tmp 55,.tmp 57,.tmp 59]) (es:=map (Qe .i64) [a.Read.Mat,a.Read.Epoch,a.Read.Chip,a.Read.Local]) QA Z Z Z Z Z ⟨Z,Z,Z,Z,trivial⟩ Z Z) ?_;refine FE Z (Bd h λl4 J h=>?_);refine vH (Qk (e:=(Qe .i64)) J QA EC (QQ (i:=3))) ?_;exact FE Z (Go 6 Z (Rt h 2 [4]))
 refine Gc 6 Z (Cn Z h (λL h=>?_) (λL h=>?_))
 .refine Gc 21 Z ?_;refine vH (Ej (xs:=[.tmp 68,.tmp 70,.tmp 72,.tmp 74,.tmp 76]) (es:=map (Qe .i64) [a.Beacon.Mat,a.Beacon.Epoch,a.Beacon.Local,a.Beacon.True,a.Beacon.Err]) QA Z Z Z Z Z ⟨Z,Z,Z,Z,Z,trivial⟩ Z Z) ?_;refine FE Z (Bd h λl6 M h=>?_);refine vH (Qk (e:=(Qe .i64)) M QA EC (QQ (i:=3))) ?_;exact FE Z (Go 6 Z (Rt h 2 [4]))
 refine Gc 6 Z (Cn Z h (λN h=>?_) (λN h=>?_))
 .refine Gc 27 Z ?_;refine vH (Ej (xs:=[.tmp 85,.tmp 87,.tmp 89,.tmp 91,.tmp 93,.tmp 95,.tmp 97,.tmp 99]) (es:=map (Qe .i64) [a.Sync.MatA,a.Sync.EpochA,a.Sync.LocalA,a.Sync.MatB,a.Sync.EpochB,a.Sync.LocalB,a.Sync.Min,a.Sync.Max]) QA Z Z Z Z Z ⟨Z,Z,Z,Z,Z,Z,Z,Z,trivial⟩ Z Z) ?_;refine FE Z (Bd h λl8 O h=>?_);refine vH (Qk (e:=(Qe .i64)) O QA EC (QQ (i:=3))) ?_;exact FE Z (Go 6 Z (Rt h 2 [4]))
 refine Gc 6 Z (Cn Z h (λP h=>?_) (λP h=>?_))
 .refine Gc 19 Z ?_;refine vH (Ej (xs:=[.tmp 108,.tmp 110,.tmp 112,.tmp 114]) (es:=map (Qe .i64) [a.Hand.Bib,a.Hand.Position,a.Hand.Lo,a.Hand.Hi]) QA Z Z Z Z Z ⟨Z,Z,Z,Z,trivial⟩ Z Z) ?_;refine FE Z (Bd h λQ d h=>?_);refine vH (Qk (e:=(Qe .i64)) d QA EC (QQ (i:=3))) ?_;exact FE Z (Go 6 Z (Rt h 2 [4]))
 refine Gc 6 Z (Cn Z h (λf h=>?_) (λf h=>?_))
 .refine Gc 19 Z ?_;refine vH (Ej (xs:=[.tmp 123,.tmp 125,.tmp 127,.tmp 129]) (es:=map (Qe .i64) [a.Silence.Mat,a.Silence.Epoch,a.Silence.Lo,a.Silence.Hi]) QA Z Z Z Z Z ⟨Z,Z,Z,Z,trivial⟩ Z Z) ?_;refine FE Z (Bd h λR g h=>?_);refine vH (Qk (e:=(Qe .i64)) g QA EC (QQ (i:=3))) ?_;exact FE Z (Go 6 Z (Rt h 2 [4]))
 refine Gc 6 Z (Cn Z h (λj h=>?_) (λj h=>?_))
 .refine Gc 9 Z ?_;refine vH (Ej (xs:=[.tmp 137,.tmp 140]) (es:=map (Qe .i64) [a.Pair.A,a.Pair.B]) QA Z Z Z Z Z ⟨Z,Z,trivial⟩ Z Z) ?_;refine FE Z (Bd h λT k h=>?_);refine vH (Qk (e:=(Qe .i64)) k QA EC (QQ (i:=2))) ?_;exact FE Z (Go 6 Z (Rt h 2 [3]))
 refine Gc 6 Z (Cn Z h (λl h=>?_) (λl h=>?_))
 .refine Gc 19 Z ?_;refine vH (Ej (xs:=[.tmp 149,.tmp 151,.tmp 153,.tmp 155]) (es:=map (Qe .i64) [a.Report.Case,a.Report.Bib,a.Report.Offence,a.Report.Position]) QA Z Z Z Z Z ⟨Z,Z,Z,Z,trivial⟩ Z Z) ?_;refine FE Z (Bd h λV m h=>?_);refine vH (Qk (e:=(Qe .i64)) m QA EC (QQ (i:=3))) ?_;exact FE Z (Go 6 Z (Rt h 2 [4]))
 refine Gc 6 Z (Cn Z h (λp h=>?_) (λp h=>?_))
 .refine Gc 19 Z ?_;refine vH (Ej (xs:=[.tmp 164,.tmp 166,.tmp 168,.tmp 170]) (es:=map (Qe .i64) [a.Protest.Case,a.Protest.By,a.Protest.Fee,a.Protest.Form]) QA Z Z Z Z Z ⟨Z,Z,Z,Z,trivial⟩ Z Z) ?_;refine FE Z (Bd h λW q h=>?_);refine vH (Qk (e:=(Qe .i64)) q QA EC (QQ (i:=3))) ?_;exact FE Z (Go 6 Z (Rt h 2 [4]))
 refine Gc 6 Z (Cn Z h (λs h=>?_) (λs h=>?_))
 .refine Gc 23 Z ?_;refine vH (Ej (xs:=[.tmp 179,.tmp 181,.tmp 183,.tmp 185,.tmp 187,.tmp 189]) (es:=map (Qe .i64) [a.Ruling.Case,a.Ruling.Instance,a.Ruling.Kind,a.Ruling.Bib,a.Ruling.Position,a.Ruling.Amount]) QA Z Z Z Z Z ⟨Z,Z,Z,Z,Z,Z,trivial⟩ Z Z) ?_;refine FE Z (Bd h λX t h=>?_);refine vH (Qk (e:=(Qe .i64)) t QA EC (QQ (i:=3))) ?_;exact FE Z (Go 6 Z (Rt h 2 [4]))
 refine Gc 6 Z (Cn Z h (λu h=>?_) (λu h=>?_))
 .refine Gc 8 Z (Cn Z h (λw h=>?_) (λw h=>?_))
  .refine Gc 6 Z ?_;refine vH (Ej (xs:=[.tmp 200,.const (.int .i64 1)]) (es:=map (Qe .i64) [a.Appeal.Case,1]) QA Z Z Z Z Z ⟨Z,Z,trivial⟩ Z Z) ?_;refine FE Z (Bd h λY x h=>?_);refine vH (Qk (e:=(Qe .i64)) x QA EC (QQ (i:=2))) ?_;exact FE Z (Go 7 Z (Rt h 2 [3]))
  refine Gc 8 Z ?_;refine vH (Ej (xs:=[.tmp 206,.const (.int .i64 0)]) (es:=map (Qe .i64) [a.Appeal.Case,0]) QA Z Z Z Z Z ⟨Z,Z,trivial⟩ Z Z) ?_;refine FE Z (Bd h λaa y h=>?_);refine vH (Qk (e:=(Qe .i64)) y QA EC (QQ (i:=2))) ?_;exact FE Z (Go 6 Z (Rt h 2 [3]))
 refine Gc 6 Z (Cn Z h (λz h=>?_) (λz h=>?_))
 .refine Gc 9 Z ?_;refine vH (Ej (xs:=[.tmp 214,.tmp 217]) (es:=map (Qe .i64) [a.Void.Crew,a.Void.No]) QA Z Z Z Z Z ⟨Z,Z,trivial⟩ Z Z) ?_;refine FE Z (Bd h λab E h=>?_);refine vH (Qk (e:=(Qe .i64)) E QA EC (QQ (i:=2))) ?_;exact FE Z (Go 6 Z (Rt h 2 [3]))
 exact Gc 10 Z (Rt h 2 [1])
def F_gb(n:Nat)(a:Int):Option Unit:=some ()
theorem k_gb(n:Nat)(a:Int):Kq (F_gb n a) 242 [I a] [] (λ_=>.agg [I 1,I a,.str [],.rsl 4 (map Value.enc [])]) (λ_=>[.cells 260 [I 1,I a,.str [],.rsl 4 (map Value.enc [])]]):=by
 refine Kg 13 func242 Z Z Z Z λr h=>?_;obtain rfl:=Oi h;exact Rx [0] [2] Z (Jb Z (QF Gy Gp Z Z Z)) ⟨Z,Z⟩
def F_lp(n:Nat)(e:List Int)(a:(List Value)×Int):Option (Ctl ((List Value)×Int) (List Value)):=(bif decide (a.2<(e.length:Int))then(idx e a.2).bind λd=>(F_gb n d).bind λg=>(app a.1 [{Kind:=1,N:=d,S:=[],L:=[]:Value}]).bind λf=>some (.cont (f,i64.wrap (a.2+1)))else some (.done a.1))
def F_fs(n:Nat)(d:List Int):Option (List Value):=(iter (F_lp n d) n ([],0):Option (List Value)).bind λa=>some a
theorem k_fs(n:Nat)(j:List Int):Kq (F_fs n j) 211 [.rsl 1 (map (Qe .i64) j)] [] (λr=>.agg [I 3,I 0,.str [],.osl 0 0 r.length 4]) (λr=>[.row 260 4 (map Value.enc r),.cells 260 [I 3,I 0,.str [],.osl 0 0 r.length 4]]):=by
 refine Kg 7 func211 Z Z Z Z λr h=>?_;refine vX (.agg [I 3,I 0,.str [],.nils]) (OpV.build (zs:=[I 0,I 0,.str [],.nils]) Gs (zrC Z) QnM) ?_;refine vH (Qda (v:=(.agg [I 0,I 0,.str [],.nils])) Gs (zrC Z)) ?_;refine FE Z (Go 9 Z (Bd h λg w h=>?_));refine Ct g [0,1,0] [2,3] Ze (λg=>[(1,.cells 260 [I 3,I 0,.str [],.osl 2 0 g.length 4]),(2,.row 260 4 (map Value.enc g))]) Zf ?_ (λenv H y=>?_)
 .refine G0 1 Z ?_;refine Lp [0,1,0] [0,2,3] (λa=>[(4,I a.2)]) (λa=>[(1,.cells 260 [I 3,I 0,.str [],.osl 2 0 a.1.length 4]),(2,.row 260 4 (map Value.enc a.1))]) w Zf ?_ ?_
  .refine Em (Qce (i:=1) (m:=3) (t:=260) (k:=4) Z Z Z) ?_;exact Lr [0,1,2]
  intro a z d l;refine G0 5 Z (Lm Z (Go 3 Z (Yh Z d (λp d=>?_) (λp d=>?_))))
  .refine Gc 2 Z (Qh d ?_);obtain rfl:=Oj l d;exact Gx 1 Z (QC (Lr [0,1,2]))
  refine Gc 4 Z ?_;obtain⟨f,q,d⟩:=YU d;obtain⟨B,s,d⟩:=YU d;refine QaM 8 0 [12,13,14,15,16,17,18,19] [false,false,false,false,false,false,true,false] [[],[],[],[],[],[],[],[6]] [[],[6]] [[(0,0),(1,1)],[(0,0),(1,1)],[(0,0)],[(0,0)],[(0,0)],[(0,0)],[(0,1)],[(1,1)]] [.ptr 1 3,.osl 2 0 a.1.length 4,.rsl 1 (map (Qe .i64) j),I a.2,.rp [I f],I f,.agg [I 1,I f,.str [],.rsl 4 (map Value.enc [])],.rsl 4 (map Value.enc [{Kind:=1,N:=f,S:=[],L:=[]:Value}])] [[.cells 260 (Value.c Uw),.cells 260 [I 3,I 0,.str [],.osl 2 0 a.1.length 4],.row 260 4 (map Value.enc a.1)],[.cells 260 (Value.c Uw),.cells 260 [I 3,I 0,.str [],.osl 2 0 a.1.length 4],.row 260 4 (map Value.enc a.1),.cells 260 [I 1,I f,.str [],.rsl 4 (map Value.enc [])]]] ([.cells 260 (Value.c Uw),.cells 260 [I 3,I 0,.str [],.osl 2 0 a.1.length 4],.row 260 4 (map Value.enc a.1),.cells 260 [I 1,I f,.str [],.rsl 4 (map Value.enc [])]]) draws Z Z Z Z Z Z Z ?_ Z ?_
  .refine QiF.cons (Qd (v0 Z Z) (Qd (v0 Z Z) (Qm))) (QiF.cons (Qd (v0 Z Z) (Qd (v0 Z Z) (Qm))) (QiF.cons (Qd (v0 Z Z) (Qm)) (QiF.cons (Qd (v0 Z Z) (Qm)) (QiF.cons ?_ (QiF.cons (Qd (v0 Z Z) (Qm)) (QiF.cons ?_ (QiF.cons ?_ (QiF.nil))))))))
   .refine Qd ?_ (Qm)
    .refine Om Z (sD 2 (sD 3 sN)) ?_;exact Ix q EC EG Z Wp
   .refine Qd ?_ (Qm)
    .refine Om1 Z (sD 5 sN) ?_;refine Q2 [] (OpC.fn call242 Z Z Z) (k_gb _ _ _ s) ?_;rintro _ _ ⟨rfl,rfl⟩;exact FE Z Wp
   .refine Qd ?_ (Qm)
    .refine Om Z (sD 6 sN) ?_;refine vH (Yi (xs:=[.tmp 18]) (es:=[Value.c ({Kind:=1,N:=f,S:=[],L:=[]:Value})]) Qir Z Z Z Z Z ⟨Z,trivial⟩ Z Z) ?_;refine Qlg (x:=(.rsl 4 (map Value.enc [{Kind:=1,N:=f,S:=[],L:=[]:Value}]))) (H:=[_,_,_,_]) (by simp[Ja]) Z ?_;exact Wp
  refine Bd d λE u d=>?_;refine vH (Qk (e:=Value.enc) u Qir EX Js) ?_;exact FE Z (Go 10 Z (Qf d (Lr [0,1,4])))
 refine Gx 1 Z (Qb y (Gc 7 Z ?_));obtain rfl:=Oi h;exact Rx [2,0] [2] Z (Jb Z (QF Gy Gp Z Z Z)) ⟨Z,Z⟩
def F_lj(n:Nat)(d:Value)(rec256:Value->Option Bool)(a:Int):Option (Ctl Int (Ctl Unit Bool)):=(bif decide (a<(d.L.length:Int))then(idx d.L a).bind λe=>(rec256 e).bind λf=>(bif (!f)then some (.done (.done false))else some (.cont (i64.wrap (a+1))))else some (.done (.cont ())))
def B_ad(rec256:Value->Option Bool)(n:Nat)(a:Value):Option Bool:=(bif (a.Kind==1)then((bif (a.S==[])then some ((a.L.length:Int)==0)else some false):Option Bool).bind λg=>some g else(bif (a.Kind==2)then((bif (a.N==0)then some ((a.L.length:Int)==0)else some false):Option Bool).bind λh=>some h else(bif (a.Kind==3)then(iter (F_lj n a rec256) n 0:Option (Ctl Unit Bool)).bind λe=>match e with|.cont d=>(((bif (a.N==0)then some (a.S==[])else some false):Option Bool).bind λf=>some f)|.done d=>some d else some false)))
theorem QaT(rec256:Value->Option Bool)(f:∀(g:Value) (r:Bool),rec256 g=some r->Csm prog 263 [.agg (Value.c g)] [] (λr=>.bool r) r)(n:Nat)(g:Value)(r:Bool)(h:B_ad rec256 n g=some r):Csm prog 263 [.agg (Value.c g)] [] (λr=>.bool r) r:=by
 refine QG func263 Z Z Z ?_;refine G0 20 Z (Cn Z h (λz h=>?_) (λz h=>?_))
 .refine Gc 1 Z (Bd h λp i h=>?_);refine Ct p [] [] (λp=>[(2,.bool p)]) Ze Zf ?_ (λenv H d=>?_)
  .refine G0 5 Z (Is 11 i Z (λB i=>?_) (λB i=>?_))
   .exact Go 2 Z (Lm Z (Go 4 Z (Cl i [])))
   .exact Go 7 Z (Cl i [])
  exact Gx 1 Z (Qb d (Gc 3 Z (Rt h 2 [])))
 refine Gc 6 Z (Cn Z h (λE h=>?_) (λE h=>?_))
 .refine Gc 1 Z (Bd h λq j h=>?_);refine Ct q [] [] (λq=>[(2,.bool q)]) Ze Zf ?_ (λenv H d=>?_)
  .refine G0 5 Z (Is 22 j Z (λs j=>?_) (λs j=>?_))
   .exact Go 2 Z (Lm Z (Go 4 Z (Cl j [])))
   .exact Go 7 Z (Cl j [])
  exact Gx 1 Z (Qb d (Gc 3 Z (Rt h 2 [])))
 refine Gc 6 Z (Cn Z h (λt h=>?_) (λt h=>?_))
 .refine Gc 6 Z (Bd h λF G h=>?_);refine Jw (b:=F) [0] [1] Ze Ze Zf ?_ (λM env H J d=>?_)
  .refine G0 1 Z ?_;refine Lp [0] [1] (λm=>[(3,I m)]) Ze G Zf (Lr [0]) λm O a k=>?_;refine G0 6 Z (Lm Z (Go 3 Z (Yh Z a (λu a=>?_) (λu a=>?_))))
   .refine Gc 2 Z (Qh a ?_);obtain rfl:=Oj k a;exact Gx 1 Z (Qq Z (Lr [0]))
   refine Gc 9 Z (Bd a λL w a=>IzE w (Ja L) Z (Go 1 Z (Cz [] a (f _) Z λP N a=>Go 3 Z (Cn Z a (λx a=>?_) (λx a=>?_)))))
   .refine Gc 8 Z (Qv a ?_);obtain rfl:=Oj k a;exact Gx 1 Z (Qs (Gx 3 Z (Rt h 2 [])))
   exact Gc 8 Z (Qf a (Lr [0]))
  subst J;refine Gx 1 Z (Qb d (Gc 1 Z (Bd h λl e h=>?_)));refine Ct l [] [] (λl=>[(2,.bool l)]) Ze Zf ?_ (λenv H d=>?_)
  .refine G0 5 Z (Is 47 e Z (λy e=>?_) (λy e=>?_))
   iterate 2 exact Go 6 Z (Cl e [])
  exact Gx 1 Z (Qb d (Gc 3 Z (Rt h 2 [])))
 exact Gc 9 Z (Rt h 2 [])
def F_ad:Nat->Value->Option Bool
  |0=>λ_=>none
  |n+1=>B_ad (F_ad n) n
theorem k_ad(n:Nat):∀(a:Value) (r:Bool),F_ad n a=some r->Csm prog 263 [.agg (Value.c a)] [] (λr=>.bool r) r:=by
  induction n with
  |zero=>intro a r h;cases h
  |succ n ih=>intro a r h;exact QaT _ ih n a r h
def F_ln(n:Nat)(e:Value)(rec257:Value->Option Int)(a:Int×Int):Option (Ctl (Int×Int) Int):=(bif decide (a.2<(e.L.length:Int))then(idx e.L a.2).bind λf=>(rec257 f).bind λd=>some (.cont ((if a.1<d then d else a.1),i64.wrap (a.2+1)))else some (.done a.1))
def B_af(rec257:Value->Option Int)(n:Nat)(a:Value):Option Int:=(bif (a.Kind != 3)then some 0 else(iter (F_ln n a rec257) n (0,0):Option Int).bind λd=>some (i64.wrap (d+1)))
theorem Qba(rec257:Value->Option Int)(e:∀(f:Value) (r:Int),rec257 f=some r->Csm prog 264 [.agg (Value.c f)] [] (λr=>I r) r)(n:Nat)(f:Value)(r:Int)(h:B_af rec257 n f=some r):Csm prog 264 [.agg (Value.c f)] [] (λr=>I r) r:=by
 refine QG func264 Z Z Z ?_;refine G0 14 Z (Cn Z h (λm h=>?_) (λm h=>?_))
 .exact Gc 7 Z (Rt h 2 [])
 refine Gc 13 Z (Bd h λi p h=>?_);refine Ct i [] [] (λi=>[(3,I i)]) Ze Zf ?_ (λenv H q=>?_)
 .refine G0 1 Z ?_;refine Lp [0] [1] (λd=>[(3,I d.1),(4,I d.2)]) Ze p Zf (Lr [0]) λd u a j=>?_;refine G0 6 Z (Lm Z (Go 3 Z (Yh Z a (λk a=>?_) (λk a=>?_))))
  .refine Gc 2 Z (Qh a ?_);obtain rfl:=Oj j a;exact Gx 1 Z (QC (Lr []))
  refine Gc 9 Z (Bd a λs l a=>IzE l (Ja s) Z (Go 1 Z (Cz [] a (e _) Z λg t a=>?_)));refine vX (I (if d.1<g then g else d.1)) (OpV.max Z Z Z Z) ?_;exact Go 9 Z (Qf a (Lr [0]))
 exact Gx 1 Z (Qb q (Gc 8 Z (Rt h 2 [])))
def F_af:Nat->Value->Option Int
  |0=>λ_=>none
  |n+1=>B_af (F_af n) n
theorem k_af(n:Nat):∀(a:Value) (r:Int),F_af n a=some r->Csm prog 264 [.agg (Value.c a)] [] (λr=>I r) r:=by
  induction n with
  |zero=>intro a r h;cases h
  |succ n ih=>intro a r h;exact Qba _ ih n a r h
def F_ik(n:Nat)(a:Value):Option Int:=(F_ad n a).bind λd=>(bif (!d)then some 1 else(F_af n a).bind λe=>(bif decide (16<e)then some 2 else some 0))
theorem k_ik(n:Nat)(a:Value):Ks (F_ik n a) 240 [.agg (Value.c a)] [] (λr=>I r):=by
 refine Kg 10 func240 Z Z Z Z λr h=>Cz [] h (k_ad _ _) Z λi f h=>Go 3 Z (Cn Z h (λd h=>?_) (λd h=>?_))
 .exact Gc 7 Z (Rt h 2 [])
 refine Gc 6 Z (Cz [] h (k_af _ _) Z λj g h=>Go 3 Z (Cn Z h (λe h=>?_) (λe h=>?_)))
 .exact Gc 7 Z (Rt h 2 [])
 exact Gc 8 Z (Rt h 2 [])
def F_cs(n:Nat)(a:Int):Option Int:=(bif decide (0<=a)then some (u64.wrap (2*(u64.wrap a)))else some (u64.wrap ((u64.wrap (2*(u64.wrap (i64.wrap (0-(i64.wrap (a+1)))))))+1)))
theorem k_cs(n:Nat)(a:Int):Ks (F_cs n a) 266 [I a] [] (λr=>.int .u64 r):=by
 refine Kg 12 func266 Z Z Z Z λr h=>Cn Z h (λd h=>?_) (λd h=>?_)
 .refine Gc 3 Z ?_;refine vX (.int .u64 (u64.wrap a)) (Y6 Z EL EI Z) ?_;exact Go 6 Z (Rt h 2 [])
 refine Gc 7 Z ?_;refine vV (x:=(.int .u64 (u64.wrap (i64.wrap (0-(i64.wrap (a+1))))))) (Y6 Z EL EI Z) ?_;exact Go 6 Z (Rt h 2 [])
def B_j(rec260:Int->Option (List Int))(n:Nat)(a:Int):Option (List Int):=(bif decide (a<128)then some [u8.wrap a]else(rec260 (u64.wrap (Int.tdiv a 128))).bind λd=>(app [u8.wrap (u64.wrap ((Int.tmod a 128)+128))] d).bind λe=>some e)
theorem QaH(rec260:Int->Option (List Int))(d:∀(a:Int) (r:List Int),rec260 a=some r->C prog 265 [.int .u64 a] [] (RQ (λr=>.osl 0 0 r.length 1) (λr=>[.row 5 1 (map (Qe .u8) r)]) r))(n:Nat)(a:Int)(r:List Int)(h:B_j rec260 n a=some r):C prog 265 [.int .u64 a] [] (RQ (λr=>.osl 0 0 r.length 1) (λr=>[.row 5 1 (map (Qe .u8) r)]) r):=by
 refine QG func265 Z Z Z ?_;refine G0 12 Z (Cn Z h (λf h=>?_) (λf h=>?_))
 .refine Gc 3 Z ?_;refine vX (.int .u8 (u8.wrap a)) (Y6 Z EI EZ Z) ?_;refine vH (Ej (xs:=[.tmp 6]) (es:=map (Qe .u8) [u8.wrap a]) YW Z Z Z Z Z ⟨Z,trivial⟩ Z Z) ?_;exact FE Z (Go 5 Z (Rt h 2 [0]))
 refine Gc 5 Z ?_;refine vX (.int .u64 (Int.tmod a 128)) (OpV.rem Z Z Z (by decide)) ?_;refine Go 1 Z ?_;refine vV (x:=(.int .u8 (u8.wrap (u64.wrap ((Int.tmod a 128)+128))))) (Y6 Z EI EZ Z) ?_;refine vH (Ej (xs:=[.tmp 11]) (es:=map (Qe .u8) [u8.wrap (u64.wrap ((Int.tmod a 128)+128))]) YW Z Z Z Z Z ⟨Z,trivial⟩ Z Z) ?_;refine FE Z (Go 1 Z ?_);refine vX (.int .u64 (u64.wrap (Int.tdiv a 128))) (OpV.quo Z Z Z (by decide)) ?_;refine Cd [] h (d _) Z λk j h=>FE Z (Bd h λl g h=>?_);refine vH (Qk (e:=(Qe .u8)) g YW EH (QQ (i:=1))) ?_;exact FE Z (Go 4 Z (Rt h 2 [2]))
def F_j:Nat->Int->Option (List Int)
  |0=>λ_=>none
  |n+1=>B_j (F_j n) n
theorem k_j(n:Nat):∀(a:Int) (r:List Int),F_j n a=some r->C prog 265 [.int .u64 a] [] (RQ (λr=>.osl 0 0 r.length 1) (λr=>[.row 5 1 (map (Qe .u8) r)]) r):=by
  induction n with
  |zero=>intro a r h;cases h
  |succ n ih=>intro a r h;exact QaH _ ih n a r h
def F_iw(n:Nat)(d:Value)(rec258:Value->Option (List Int))(a:(List Int)×Int):Option (Ctl ((List Int)×Int) (List Int)):=(bif decide (a.2<(d.L.length:Int))then(idx d.L a.2).bind λe=>(rec258 e).bind λf=>(app a.1 f).bind λg=>some (.cont (g,i64.wrap (a.2+1)))else some (.done a.1))
def B_n(rec258:Value->Option (List Int))(n:Nat)(a:Value):Option (List Int):=(bif (a.Kind==1)then(F_cs n a.N).bind λe=>(F_j n e).bind λf=>(app [1] f).bind λg=>some g else(bif (a.Kind==2)then none else(F_j n (u64.wrap (a.L.length:Int))).bind λh=>(app [3] h).bind λi=>(iter (F_iw n a rec258) n (i,0):Option (List Int)).bind λd=>some d))
theorem QaS(rec258:Value->Option (List Int))(g:∀(j:Value) (r:List Int),rec258 j=some r->C prog 241 [.agg (Value.c j)] [] (RQ (λr=>.osl 0 0 r.length 1) (λr=>[.row 5 1 (map (Qe .u8) r)]) r))(n:Nat)(j:Value)(r:List Int)(h:B_n rec258 n j=some r):C prog 241 [.agg (Value.c j)] [] (RQ (λr=>.osl 0 0 r.length 1) (λr=>[.row 5 1 (map (Qe .u8) r)]) r):=by
 refine QG func241 Z Z Z ?_;refine G0 20 Z (Cn Z h (λq h=>?_) (λq h=>?_))
 .refine Gc 2 Z ?_;refine vH (Ej (xs:=[.const (.int .u8 1)]) (es:=map (Qe .u8) [1]) YW Z Z Z Z Z ⟨Z,trivial⟩ Z Z) ?_;refine FE Z (Go 2 Z (Cz [] h (k_cs _ _) Z λN B h=>Cd [] h (k_j _ _) Z λO E h=>FE Z (Bd h λP s h=>?_)));refine vH (Qk (e:=(Qe .u8)) s YW EH (QQ (i:=2))) ?_;exact FE Z (Go 6 Z (Rt h 2 [3]))
 refine Gc 6 Z (Cn Z h (λt h=>?_) (λt h=>?_))
 .refine Gc 1 Z ?_;cases h
 refine Gc 5 Z ?_;refine vH (Ej (xs:=[.const (.int .u8 3)]) (es:=map (Qe .u8) [3]) YW Z Z Z Z Z ⟨Z,trivial⟩ Z Z) ?_;refine FE Z (Go 2 Z (Lm Z ?_));refine vX (.int .u64 (u64.wrap (j.L.length:Int))) (Y6 Z EL EI Z) ?_;refine Cd [] h (k_j _ _) Z λQ F h=>FE Z (Bd h λR u h=>?_);refine vH (Qk (e:=(Qe .u8)) u YW EH (QQ (i:=2))) ?_;refine FE Z (Go 9 Z (Bd h λd w h=>?_));refine Ct d [1] [] (λd=>[(3,.osl 0 0 d.length 1)]) (λd=>[(0,.row 5 1 (map (Qe .u8) d))]) Zf ?_ (λenv H x=>?_)
 .refine G0 1 Z ?_;refine Lp [0,3] [1] (λf=>[(3,.osl 1 0 f.1.length 1),(4,I f.2)]) (λf=>[(1,.row 5 1 (map (Qe .u8) f.1))]) w Zf (Lr [0,3]) λf G a k=>?_;refine G0 6 Z (Lm Z (Go 3 Z (Yh Z a (λl a=>?_) (λl a=>?_))))
  .refine Gc 2 Z (Qh a ?_);obtain rfl:=Oj k a;exact Gx 1 Z (QC (Lr [1]))
  refine Gc 9 Z (Bd a λy m a=>IzE m (Ja y) Z (Go 1 Z (Cd [] a (g _) Z λJ z a=>FE Z (Bd a λM p a=>?_))));refine vH (Qk (e:=(Qe .u8)) p YW EH (QQ (i:=2))) ?_;exact FE Z (Go 9 Z (Qf a (Lr [0,3])))
 exact Gx 1 Z (Qb x (Gc 7 Z (Rt h 2 [0])))
def F_n:Nat->Value->Option (List Int)
  |0=>λ_=>none
  |n+1=>B_n (F_n n) n
theorem k_n(n:Nat):∀(a:Value) (r:List Int),F_n n a=some r->C prog 241 [.agg (Value.c a)] [] (RQ (λr=>.osl 0 0 r.length 1) (λr=>[.row 5 1 (map (Qe .u8) r)]) r):=by
  induction n with
  |zero=>intro a r h;cases h
  |succ n ih=>intro a r h;exact QaS _ ih n a r h
def F_ih(n:Nat)(a:Value):Option ((List Int)×Int):=(F_ik n a).bind λd=>(bif (d != 0)then some ([],d)else(F_n n a).bind λe=>some (e,0))
theorem k_ih(n:Nat)(a:Value):Kq (F_ih n a) 210 [.agg (Value.c a)] [] (λr=>.tup [.osl 0 0 r.1.length 1,I r.2]) (λr=>[.row 5 1 (map (Qe .u8) r.1)]):=by
 refine Kg 10 func210 Z Z Z Z λr h=>Cz [] h (k_ik _ _) Z λg e h=>Go 10 Z (Cn Z h (λd h=>?_) (λd h=>?_))
 .refine Gc 9 Z ?_;obtain rfl:=Oi h;refine R2 2 3 Z Z ?_;refine Em (Eo (s:=2) (k:=1) (t:=5) (XP Z) Z) ?_;exact Lr [1]
 refine Gc 5 Z (Cd [] h (k_n _ _) Z λi f h=>FE Z (Go 5 Z ?_));obtain rfl:=Oi h;exact R2 2 3 Z Z (Lr [1])
def F_bz(n:Nat)(a:Fact):Option ((List Int)×Int):=(F_bp n a).bind λe=>(bif (e != 0)then some ([],120)else(F_dv n a).bind λf=>(F_fs n f).bind λg=>(F_ih n ({Kind:=3,N:=0,S:=[],L:=g:Value})).bind λd=>some (d.1,d.2))
theorem k_bz(n:Nat)(a:Fact):Kq (F_bz n a) 155 [.agg (Fact.c a)] [] (λr=>.tup [.osl 0 0 r.1.length 1,I r.2]) (λr=>[.row 5 1 (map (Qe .u8) r.1)]):=by
 refine Kg 11 func155 Z Z Z Z λr h=>Cz [] h (k_bp _ _) Z λj e h=>Go 3 Z (Cn Z h (λd h=>?_) (λd h=>?_))
 .refine Gc 8 Z ?_;obtain rfl:=Oi h;refine R2 2 3 Z Z ?_;refine Em (Eo (s:=2) (k:=1) (t:=5) (XP Z) Z) ?_;exact Lr [1]
 refine Gc 5 Z (Cd [] h (k_dv _ _) Z λl f h=>FE Z ?_);refine QH (Qao [(8,_)] Z Z (Qpb.cons Z En Qpb.nil) (Ec (Ec (Jj _)))) ?_;refine Cd [] h (k_fs _ _) Z λm g h=>FE Z ?_;refine QH (Qao [(9,_)] Z Z (Qpb.cons Z (FzA.agg (Ed (Ee _) (Ed (Ee _) (Ed (Ee _) (Ed En (Ei _)))))) Qpb.nil) (Ec (Ec (Ec (FzH.cells (Ed (Ee _) (Ed (Ee _) (Ed (Ee _) (Ed En (Ei _))))) (Jj _)))))) ?_;refine Cd [] h (k_ih _ _) Z λp i h=>FE Z (Go 7 Z ?_);obtain rfl:=Oi h;exact R2 2 3 Z Z (Lr [4])
def F_gv(n:Nat)(d:Fact)(e:Fact)(a:Int):Option (Ctl Int (Ctl Unit Int)):=(bif decide (a<3)then(idx [d.At,d.Crew,d.No] a).bind λf=>(idx [e.At,e.Crew,e.No] a).bind λg=>(bif decide (f<g)then some (.done (.done (-1)))else(idx [d.At,d.Crew,d.No] a).bind λh=>(idx [e.At,e.Crew,e.No] a).bind λi=>(bif decide (i<h)then some (.done (.done 1))else some (.cont (i64.wrap (a+1)))))else some (.done (.cont ())))
def F_cw(n:Nat)(f:Fact)(g:Fact):Option Int:=(iter (F_gv n f g) n 0:Option (Ctl Unit Int)).bind λh=>match h with|.cont a=>((F_bz n f).bind λd=>(F_bz n g).bind λe=>(bif Op.bytesLess (map Yd d.1) (map Yd e.1)then some (-1)else(bif (!(Op.bytesLess (map Yd d.1) (map Yd e.1)||(map Yd d.1)==(map Yd e.1)))then some 1 else some 0)))|.done a=>some a
theorem k_cw(n:Nat)(j:Fact)(k:Fact):Ks (F_cw n j k) 78 [.agg (Fact.c j),.agg (Fact.c k)] [] (λr=>I r):=by
 refine Kg 15 func78 Z Z Z Z λr h=>?_;refine vH (Ej (xs:=[.tmp 13,.tmp 15,.tmp 17]) (es:=map (Qe .i64) [j.At,j.Crew,j.No]) QA Z Z Z Z Z ⟨Z,Z,Z,trivial⟩ Z Z) ?_;refine FE Z (Go 11 Z ?_);refine vH (Ej (xs:=[.tmp 20,.tmp 22,.tmp 24]) (es:=map (Qe .i64) [k.At,k.Crew,k.No]) QA Z Z Z Z Z ⟨Z,Z,Z,trivial⟩ Z Z) ?_;refine FE Z (Go 9 Z (Bd h λB E h=>?_));refine Jw (b:=B) [0,1] [2,3] Ze Ze Zf ?_ (λO env H F G=>?_)
 .refine G0 1 Z ?_;refine Lp [0,1,2,3] [2,3,5,6] (λd=>[(7,I d)]) Ze E Zf (Lr [0,1,2,3]) λd R a g=>?_;refine G0 7 Z (Yh Z a (λt a=>?_) (λt a=>?_))
  .refine Gc 2 Z (Qh a ?_);obtain rfl:=Oj g a;exact Gx 1 Z (Qq Z (Lr [0,1]))
  refine Gc 6 Z (DSs 8 Z (D 2 Z ?_));obtain⟨J,m,a⟩:=YU a;refine DS.v (x:=(.ptr 2 (toNat d*1))) (Qu m Z EC EG) ?_;refine DS.v (x:=(I J)) (Ey Z EE Z (Qn m)) ?_;refine D 2 Z ?_;obtain⟨L,p,a⟩:=YU a;refine DS.v (x:=(.ptr 3 (toNat d*1))) (Qu p Z EC EG) ?_;refine DS.v (x:=(I L)) (Ey Z EE Z (Qn p)) ?_;refine Eg Z (Go 3 Z (Cn Z a (λu a=>?_) (λu a=>?_)))
  .refine Gc 9 Z (Qv a ?_);obtain rfl:=Oj g a;exact Gx 1 Z (Qs (Gx 1 Z (Rt h 4 [])))
  refine Gc 3 Z (DSs 8 Z (D 2 Z ?_));obtain⟨M,q,a⟩:=YU a;refine DS.v (x:=(.ptr 2 (toNat d*1))) (Qu q Z EC EG) ?_;refine DS.v (x:=(I M)) (Ey Z EE Z (Qn q)) ?_;refine D 2 Z ?_;obtain⟨N,s,a⟩:=YU a;refine DS.v (x:=(.ptr 3 (toNat d*1))) (Qu s Z EC EG) ?_;refine DS.v (x:=(I N)) (Ey Z EE Z (Qn s)) ?_;refine Eg Z (Go 3 Z (Cn Z a (λw a=>?_) (λw a=>?_)))
  .refine Gc 8 Z (Qv a ?_);obtain rfl:=Oj g a;exact Gx 1 Z (Qs (Gx 1 Z (Rt h 4 [])))
  exact Gc 8 Z (Qf a (Lr [0,1,2,3]))
 subst F;refine Gx 1 Z (Qb G (Gc 3 Z (Cd [] h (k_bz _ _) Z λe P h=>FE Z (Go 10 Z (Cd [] h (k_bz _ _) Z λf Q h=>FE Z (Go 11 Z ?_))))));refine vX (.str (map Yd e.1)) (QcA (l:=e.1) (Qli.row (i:=2)) EH EZ ED) ?_;refine Go 1 Z ?_;refine vX (.str (map Yd f.1)) (QcA (l:=f.1) (Qli.row (i:=3)) EH EZ ED) ?_;refine Go 3 Z (Cn Z h (λy h=>?_) (λy h=>?_))
 .exact Gc 7 Z (Rt h 4 [])
 refine Gc 6 Z ?_;refine vX (.str (map Yd e.1)) (QcA (l:=e.1) (Qli.row (i:=2)) EH EZ ED) ?_;refine Go 1 Z ?_;refine vX (.str (map Yd f.1)) (QcA (l:=f.1) (Qli.row (i:=3)) EH EZ ED) ?_;refine vX (.bool (!(Op.bytesLess (map Yd e.1) (map Yd f.1)||(map Yd e.1)==(map Yd f.1)))) (Qnf Z Z Z) ?_;refine Go 2 Z (Cn Z h (λz h=>?_) (λz h=>?_))
 .exact Gc 7 Z (Rt h 4 [])
 exact Gc 8 Z (Rt h 4 [])
def F_dd(n:Nat)(i:List Fact)(d:(List Fact)×Int)(a:Int):Option (Ctl Int Int):=((bif decide (a<(d.1.length:Int))then(idx d.1 a).bind λe=>(idx i d.2).bind λf=>(F_cw n e f).bind λg=>some (decide (g<0))else some false):Option Bool).bind λh=>(bif h then some (.cont (i64.wrap (a+1)))else some (.done a))
def F_ky(n:Nat)(e:List Fact)(a:(List Fact)×Int):Option (Ctl ((List Fact)×Int) (List Fact)):=(bif decide (a.2<(e.length:Int))then((idx e a.2).bind λf=>(F_bp n f).bind λg=>(bif (g != 0)then some a.1 else(iter (F_dd n e a) n 0:Option Int).bind λd=>((bif decide (d<(a.1.length:Int))then(idx a.1 d).bind λh=>(idx e a.2).bind λi=>some (h==i)else some false):Option Bool).bind λj=>(bif j then some a.1 else(slc a.1 0 d).bind λk=>(app ([]:List Fact) k).bind λl=>(idx e a.2).bind λm=>(app l [m]).bind λp=>(slc a.1 d (a.1.length:Int)).bind λq=>(app p q).bind λr=>some r)):Option (List Fact)).bind λs=>some (.cont (s,i64.wrap (a.2+1)))else some (.done a.1))
def F_as(n:Nat)(d:List Fact):Option (List Fact):=(iter (F_ky n d) n (([]:List Fact),0):Option (List Fact)).bind λa=>some a
theorem k_as(n:Nat)(R:List Fact):Kq (F_as n R) 46 [.rsl 57 (map Fact.c R)] [] (λr=>.osl 0 0 r.length 57) (λr=>[.row 68 57 (map Fact.c r)]):=by
 refine Kg 7 func46 Z Z Z Z λr h=>?_;refine vH (Ej (xs:=[]) (es:=map Fact.c []) Y0 Z Z Z Z Z trivial Z Z) ?_;refine FE Z (Go 9 Z (Bd h λy ak h=>?_));refine Ct y [0] [] (λy=>[(3,.osl 0 0 y.length 57)]) (λy=>[(0,.row 68 57 (map Fact.c y))]) Zf ?_ (λenv H u=>?_)
 .refine G0 1 Z ?_;refine Lp [0] [0] (λi=>[(3,.osl 0 0 i.1.length 57),(4,I i.2)]) (λi=>[(0,.row 68 57 (map Fact.c i.1))]) ak Zf (Lr [0]) λi aq s T=>?_;refine G0 5 Z (Lm Z (Go 3 Z (Yh Z s (λV s=>?_) (λV s=>?_))))
  .refine Gc 2 Z (Qh s ?_);obtain rfl:=Oj T s;exact Gx 1 Z (QC (Lr [0]))
  refine Gc 3 Z (Bd s λz g s=>?_);refine Ct z [0] [0,4] (λz=>[(3,.osl 0 0 z.length 57)]) (λz=>[(0,.row 68 57 (map Fact.c z))]) Zf ?_ (λenv H u=>?_)
  .refine G0 6 Z (Bd g λar W g=>Iz W Z (Go 1 Z (Cz [] g (k_bp _ _) Z λau an g=>Go 3 Z (Cn Z g (λX g=>?_) (λX g=>?_)))))
   .exact Gc 3 Z (Cl g [0])
   refine Gc 8 Z (Bd g λj al g=>?_);refine Ct j [0] [0,3,4] (λj=>[(5,I j)]) Ze Zf ?_ (λenv H u=>?_)
   .refine G0 1 Z ?_;refine Lp [0] [0,3,4] (λG=>[(5,I G)]) Ze al Zf (Lr [0]) λG av t Y=>?_;refine G0 2 Z (Bd t λJ k t=>?_);refine Ct J [0] [0,3,4,5] (λJ=>[(34,.bool J)]) Ze Zf ?_ (λenv H u=>?_)
    .refine G0 0 Z (DSs 13 Z (D 5 Z (QbS 4 k Z Z Z (λaa k=>?_) (λaa k=>?_))))
     .refine D 2 Z ?_;obtain⟨am,N,k⟩:=YU k;refine DS.v (x:=(.ptr 0 (toNat G*57))) (Qu N Z EA EB) ?_ (hg:=(gT Z));refine DS.v (x:=(.agg (Fact.c am))) (Qo Z EJ EB Z (Qn N) Z Z) ?_ (hg:=(gT Z));refine D 2 Z ?_;obtain⟨f,ab,k⟩:=YU k;refine DS.v (x:=(.rp [I f.Crew,I f.No,I f.At,I f.Kind,I f.Starter.Bib,I f.Starter.Distance,I f.Starter.Wave,I f.Starter.Slot,I f.Starter.Age,I f.Starter.Chip,I f.Starter.Team,I f.Starter.Lot,I f.Read.Mat,I f.Read.Epoch,I f.Read.Chip,I f.Read.Local,I f.Beacon.Mat,I f.Beacon.Epoch,I f.Beacon.Local,I f.Beacon.True,I f.Beacon.Err,I f.Sync.MatA,I f.Sync.EpochA,I f.Sync.LocalA,I f.Sync.MatB,I f.Sync.EpochB,I f.Sync.LocalB,I f.Sync.Min,I f.Sync.Max,I f.Hand.Bib,I f.Hand.Position,I f.Hand.Lo,I f.Hand.Hi,I f.Silence.Mat,I f.Silence.Epoch,I f.Silence.Lo,I f.Silence.Hi,I f.Pair.A,I f.Pair.B,I f.Report.Case,I f.Report.Bib,I f.Report.Offence,I f.Report.Position,I f.Protest.Case,I f.Protest.By,I f.Protest.Fee,I f.Protest.Form,I f.Ruling.Case,I f.Ruling.Instance,I f.Ruling.Kind,I f.Ruling.Bib,I f.Ruling.Position,I f.Ruling.Amount,I f.Appeal.Case,.bool f.Appeal.Suspends,I f.Void.Crew,I f.Void.No])) (Qcz (e:=Fact.c) (l:=R) (v:=f) ab EA EB) ?_ (hg:=(gT Z));exact D 1 Z (Eg Z (Cz [] k (k_cw _ _ _) Z λaw ao k=>Go 3 Z (Cl k [0])))
     .exact D 8 Z (Eg Z (Go 4 Z (Cl k [0])))
    refine Gx 1 Z (Qb u (Yh Z t (λac t=>?_) (λac t=>?_)))
    .refine Gc 2 Z (Qh t ?_);obtain rfl:=Oj Y t;exact Gx 1 Z (QC (Lr [0]))
    exact Gc 9 Z (Qf t (Lr [0]))
   refine Gx 1 Z (Qb u (Gc 2 Z (Bd g λL m g=>?_)));refine Ct L [0] [0,3,4,5] (λL=>[(51,.bool L)]) Ze Zf ?_ (λenv H u=>?_)
   .refine G0 0 Z (DSs 13 Z (D 5 Z (QbS 4 m Z Z Z (λae m=>?_) (λae m=>?_))))
    .refine D 2 Z ?_;obtain⟨M,O,m⟩:=YU m;refine DS.v (x:=(.ptr 0 (toNat j*57))) (Qu O Z EA EB) ?_ (hg:=(gT Z));refine DS.v (x:=(.agg (Fact.c M))) (Qo Z EJ EB Z (Qn O) Z Z) ?_ (hg:=(gT Z));refine D 2 Z ?_;obtain⟨d,af,m⟩:=YU m;refine DS.v (x:=(.rp [I d.Crew,I d.No,I d.At,I d.Kind,I d.Starter.Bib,I d.Starter.Distance,I d.Starter.Wave,I d.Starter.Slot,I d.Starter.Age,I d.Starter.Chip,I d.Starter.Team,I d.Starter.Lot,I d.Read.Mat,I d.Read.Epoch,I d.Read.Chip,I d.Read.Local,I d.Beacon.Mat,I d.Beacon.Epoch,I d.Beacon.Local,I d.Beacon.True,I d.Beacon.Err,I d.Sync.MatA,I d.Sync.EpochA,I d.Sync.LocalA,I d.Sync.MatB,I d.Sync.EpochB,I d.Sync.LocalB,I d.Sync.Min,I d.Sync.Max,I d.Hand.Bib,I d.Hand.Position,I d.Hand.Lo,I d.Hand.Hi,I d.Silence.Mat,I d.Silence.Epoch,I d.Silence.Lo,I d.Silence.Hi,I d.Pair.A,I d.Pair.B,I d.Report.Case,I d.Report.Bib,I d.Report.Offence,I d.Report.Position,I d.Protest.Case,I d.Protest.By,I d.Protest.Fee,I d.Protest.Form,I d.Ruling.Case,I d.Ruling.Instance,I d.Ruling.Kind,I d.Ruling.Bib,I d.Ruling.Position,I d.Ruling.Amount,I d.Appeal.Case,.bool d.Appeal.Suspends,I d.Void.Crew,I d.Void.No])) (Qcz (e:=Fact.c) (l:=R) (v:=d) af EA EB) ?_ (hg:=(gT Z));refine D 1 Z (Eg Z ?_);refine vX (.bool (M==d)) (QhF (p:=M) (q:=d) Qk7 Z Z) ?_ (gT Z);exact Go 2 Z (Cl m [0])
    .exact D 8 Z (Eg Z (Go 3 Z (Cl m [0])))
   refine Gx 1 Z (Qb u (Cn Z g (λag g=>?_) (λag g=>?_)))
   .exact Gc 3 Z (Cl g [0])
   refine Gc 2 Z (DKs 14 [0,4,10] [(1,0,0),(0,0,1),(0,0,1),(0,0,1),(1,1,0),(0,0,2),(0,0,2),(0,0,2),(0,0,2),(0,0,2),(1,2,0),(0,0,3),(0,0,3),(0,0,3)] (by kernel_rfl) ?_);refine Ew (x:=.osl 1 0 (([]:List Fact).length) 57) (X1:=[.row 68 57 (map Fact.c i.1),.row 68 57 (map Fact.c ([]:List Fact))]) ?_ ?_
   .refine vH (Ej (xs:=[]) (es:=map Fact.c []) Y0 Z Z Z Z Z trivial Z Z) ?_;exact FE Z Wp
   refine Dk 2 Z ?_;obtain⟨ax,E,g⟩:=YU g;refine QeP (lo:=0) (hi:=1) (x:=.osl 0 (0+toNat 0) (toNat j-toNat 0) 57) ⟨?_,?_,trivial⟩ ?_
   iterate 2 refine vX (.osl 0 (0+toNat 0) (toNat j-toNat 0) 57) (YR (l:=i.1) E EA EB (.inl ⟨Z,Z⟩) (.inr ⟨_,Z,Z⟩)) ?_;exact Wp
   obtain⟨P,ah,g⟩:=YU g;refine Ew (x:=.osl 2 0 P.length 57) (X1:=[.row 68 57 (map Fact.c i.1),.dead,.row 68 57 (map Fact.c P)]) ?_ ?_
   .refine vH (Qk (e:=Fact.c) ah Y0 EA (QiA (b:=0) E)) ?_;exact FE Z Wp
   refine Dk 2 Z ?_;obtain⟨a,F,g⟩:=YU g;refine QeP (lo:=0) (hi:=2) (x:=.rp [I a.Crew,I a.No,I a.At,I a.Kind,I a.Starter.Bib,I a.Starter.Distance,I a.Starter.Wave,I a.Starter.Slot,I a.Starter.Age,I a.Starter.Chip,I a.Starter.Team,I a.Starter.Lot,I a.Read.Mat,I a.Read.Epoch,I a.Read.Chip,I a.Read.Local,I a.Beacon.Mat,I a.Beacon.Epoch,I a.Beacon.Local,I a.Beacon.True,I a.Beacon.Err,I a.Sync.MatA,I a.Sync.EpochA,I a.Sync.LocalA,I a.Sync.MatB,I a.Sync.EpochB,I a.Sync.LocalB,I a.Sync.Min,I a.Sync.Max,I a.Hand.Bib,I a.Hand.Position,I a.Hand.Lo,I a.Hand.Hi,I a.Silence.Mat,I a.Silence.Epoch,I a.Silence.Lo,I a.Silence.Hi,I a.Pair.A,I a.Pair.B,I a.Report.Case,I a.Report.Bib,I a.Report.Offence,I a.Report.Position,I a.Protest.Case,I a.Protest.By,I a.Protest.Fee,I a.Protest.Form,I a.Ruling.Case,I a.Ruling.Instance,I a.Ruling.Kind,I a.Ruling.Bib,I a.Ruling.Position,I a.Ruling.Amount,I a.Appeal.Case,.bool a.Appeal.Suspends,I a.Void.Crew,I a.Void.No]) ⟨?_,?_,?_,trivial⟩ ?_
   iterate 3 exact Ix F EA EB Z Wp
   refine Dk 1 Z ?_;refine QeP (lo:=0) (hi:=2) (x:=.rsl 57 (map Fact.c [a])) ⟨?_,?_,?_,trivial⟩ ?_
   iterate 3 refine vH (Yi (xs:=[.tmp 60]) (es:=map Fact.c [a]) Y0 Z Z Z Z Z ⟨Z,trivial⟩ Z Z) ?_;exact FE Z Wp
   obtain⟨Q,ai,g⟩:=YU g;refine Ew (x:=.osl 3 0 Q.length 57) (X1:=[.row 68 57 (map Fact.c i.1),.dead,.dead,.row 68 57 (map Fact.c Q)]) ?_ ?_
   .refine vH (Qk (e:=Fact.c) ai Y0 EA Js) ?_;exact FE Z Wp
   refine Dk 2 Z ?_;obtain⟨ay,w,g⟩:=YU g;refine QeP (lo:=0) (hi:=3) (x:=.osl 0 (0+toNat j) (toNat (i.1.length:Int)-toNat j) 57) ⟨?_,?_,?_,?_,trivial⟩ ?_
   iterate 4 refine vX (.osl 0 (0+toNat j) (toNat (i.1.length:Int)-toNat j) 57) (YR (l:=i.1) w EA EB (.inr ⟨_,Z,Z⟩) (.inl ⟨Z,Z⟩)) ?_;exact Wp
   refine DK.done Z Z (Bd g λaz aj g=>?_);refine vH (Qk (e:=Fact.c) aj Y0 EA (QiA (b:=0) w)) ?_;exact FE Z (Go 3 Z (Cl g [4]))
  exact Gx 1 Z (Qb u (Gc 5 Z (Qf s (Lr [0]))))
 exact Gx 1 Z (Qb u (Gc 7 Z (Rt h 2 [0])))
def F_ks(n:Nat)(i:Int)(d:List Fact)(a:Int):Option (Ctl Int (Ctl Unit (Fact×Bool))):=(bif decide (a<(d.length:Int))then((idx d a).bind λe=>(bif (e.Kind==8)then(idx d a).bind λf=>some (f.Report.Case==i)else some false):Option Bool).bind λg=>(bif g then(idx d a).bind λh=>some (.done (.done (h,true)))else some (.cont (i64.wrap (a+1))))else some (.done (.cont ())))
def F_ay(n:Nat)(e:List Fact)(f:Int):Option (Fact×Bool):=(F_as n e).bind λg=>(iter (F_ks n f g) n 0:Option (Ctl Unit (Fact×Bool))).bind λd=>match d with|.cont a=>(some (Uk,false))|.done a=>some a
theorem k_ay(n:Nat)(t:List Fact)(u:Int):Kq (F_ay n t u) 24 [.rsl 57 (map Fact.c t),I u] [] (λr=>.tup [.agg (Fact.c r.1),.bool r.2]) (λr=>[.cells 68 (Fact.c r.1)]):=by
 refine Kg 9 func24 Z Z Z Z λr h=>Cd [] h (k_as _ _) Z λL G h=>FE Z (Go 9 Z (Bd h λw x h=>?_));refine Jw (b:=w) [1] [4] Ze (λ_=>[(0,.cells 68 (Fact.c Uk))]) Zf ?_ (λF env H y g=>?_)
 .refine G0 1 Z ?_;refine Lp [1,0] [0,1,4] (λe=>[(6,I e)]) Ze x Zf (Lr [1,0]) λe J a i=>?_;refine G0 9 Z (Yh Z a (λp a=>?_) (λp a=>?_))
  .refine Gc 2 Z (Qh a ?_);obtain rfl:=Oj i a;exact Gx 1 Z (Qq Z (Lr [1]))
  refine Gc 5 Z (Bd a λj d a=>?_);refine Ct j [0,1] [0,1,4,6] (λj=>[(30,.bool j)]) Ze Zf ?_ (λenv H g=>?_)
  .refine G0 3 Z (Bd d λz k d=>?_);refine vX (.ptr 0 (toNat e*57)) (Qu k Z EA EB) ?_;refine Fp Qfa Z ?_;refine vX (I z.Kind) (Ey Z EE Z (Yv (f:=3) k)) ?_;refine Go 2 Z (Is 21 d Z (λq d=>?_) (λq d=>?_))
   .refine Go 2 Z (Bd d λB l d=>?_);refine vX (.ptr 0 (toNat e*57)) (Qu l Z EA EB) ?_ (gT Z);refine Fpg (gT Z) QfZ Z (Fpg (gT Z) QlX Z ?_);refine vX (I B.Report.Case) (Ey Z EE Z (Yv (f:=39) l)) ?_ (gT Z);exact Go 4 Z (Cl d [0,1])
   .exact Go 10 Z (Cl d [0,1])
  refine Gx 1 Z (Qb g (Cn Z a (λs a=>?_) (λs a=>?_)))
  .refine Gc 4 Z (Bd a λE m a=>?_);refine vX (.ptr 0 (toNat e*57)) (Qu m Z EA EB) ?_;refine vX (.agg (Fact.c E)) (Qo Z EJ EB Z (Qn m) Z Z) ?_;refine Go 7 Z (Qv a ?_);obtain rfl:=Oj i a;refine Gx 1 Z (Qs (Gx 1 Z ?_));obtain rfl:=Oi h;exact Rx [1] [4,5] Z (QU Z Z (Qlk.cons (QF EJ EB Z Z Z) (Qlk.cons QdM.tmp Qlk.nil))) ⟨Z,Z⟩
  exact Gc 8 Z (Qf a (Lr [0,1]))
 subst y;refine Gx 1 Z (Qb g (Gc 8 Z ?_));obtain rfl:=Oi h;exact Rx [0] [4,5] Z (QU Z Z (Qlk.cons (QF EJ EB Z Z Z) (Qlk.cons QdM.tmp Qlk.nil))) ⟨Z,Z⟩
def F_kz(n:Nat)(d:List Fact)(i:Int)(j:Int)(a:Int):Option (Ctl Int (Ctl Unit Int)):=(bif decide (a<(d.length:Int))then((idx d a).bind λe=>(bif (e.Kind==10)then(idx d a).bind λf=>(bif (f.Ruling.Case==i)then(idx d a).bind λg=>some (g.Ruling.Instance==j)else some false)else some false):Option Bool).bind λh=>(bif h then some (.done (.done a))else some (.cont (i64.wrap (a+1))))else some (.done (.cont ())))
def F_hf(n:Nat)(e:List Fact)(f:Int)(g:Int):Option Int:=(iter (F_kz n e f g) n 0:Option (Ctl Unit Int)).bind λd=>match d with|.cont a=>(some (-1))|.done a=>some a
theorem k_hf(n:Nat)(t:List Fact)(u:Int)(w:Int):Ks (F_hf n t u w) 137 [.rsl 57 (map Fact.c t),I u,I w] [] (λr=>I r):=by
 refine Kg 11 func137 Z Z Z Z λr h=>Bd h λx y h=>?_;refine Jw (b:=x) [] [] Ze Ze Zf ?_ (λB env H z e=>?_)
 .refine G0 1 Z ?_;refine Lp [] [0,1,2] (λi=>[(7,I i)]) Ze y Zf (Lr []) λi E d f=>?_;refine G0 5 Z (Lm Z (Go 3 Z (Yh Z d (λj d=>?_) (λj d=>?_))))
  .refine Gc 2 Z (Qh d ?_);obtain rfl:=Oj f d;exact Gx 1 Z (Qq Z (Lr []))
  refine Gc 5 Z (Bd d λg a d=>?_);refine Ct g [] [0,1,2,7] (λg=>[(39,.bool g)]) Ze Zf ?_ (λenv H e=>?_)
  .refine G0 3 Z (Bd a λF k a=>Iz k Z (Go 4 Z (Is 20 a Z (λl a=>?_) (λl a=>?_))))
   .refine Go 2 Z (Bd a λG m a=>Iz m Z (Go 7 Z (Is 30 a Z (λp a=>?_) (λp a=>?_))))
    .exact Go 2 Z (Bd a λJ q a=>Iz q Z (Go 7 Z (Cl a [])))
    .exact Go 10 Z (Cl a [])
   .exact Go 20 Z (Cl a [])
  refine Gx 1 Z (Qb e (Cn Z d (λs d=>?_) (λs d=>?_)))
  .refine Gc 9 Z (Qv d ?_);obtain rfl:=Oj f d;exact Gx 1 Z (Qs (Gx 1 Z (Rt h 6 [])))
  exact Gc 8 Z (Qf d (Lr []))
 subst z;exact Gx 1 Z (Qb e (Gc 6 Z (Rt h 6 [])))
def F_li(n:Nat)(d:List Fact)(a:(List Ref)×Int):Option (Ctl ((List Ref)×Int) (List Ref)):=(bif decide (a.2<(d.length:Int))then((idx d a.2).bind λe=>(bif (e.Kind==10)then(idx d a.2).bind λf=>(idx d a.2).bind λg=>(F_hf n d f.Ruling.Case g.Ruling.Instance).bind λh=>some (h != a.2)else some false):Option Bool).bind λi=>((bif i then(idx d a.2).bind λj=>(idx d a.2).bind λk=>(app a.1 [{Crew:=j.Crew,No:=k.No:Ref}]).bind λl=>some l else some a.1):Option (List Ref)).bind λm=>some (.cont (m,i64.wrap (a.2+1)))else some (.done a.1))
def F_fy(n:Nat)(d:List Fact):Option (List Ref):=(F_as n d).bind λe=>(iter (F_li n e) n (([]:List Ref),0):Option (List Ref)).bind λa=>some a
theorem k_fy(n:Nat)(L:List Fact):Kq (F_fy n L) 64 [.rsl 57 (map Fact.c L)] [] (λr=>.osl 0 0 r.length 2) (λr=>[.row 66 2 (map Ref.c r)]):=by
 refine Kg 8 func64 Z Z Z Z λr h=>Cd [] h (k_as _ _) Z λW R h=>FE Z (Go 5 Z ?_);refine vH (Ej (xs:=[]) (es:=map Ref.c []) Qgk Z Z Z Z Z trivial Z Z) ?_;refine FE Z (Go 9 Z (Bd h λj M h=>?_));refine Ct j [1] [] (λj=>[(4,.osl 0 0 j.length 2)]) (λj=>[(0,.row 66 2 (map Ref.c j))]) Zf ?_ (λenv H k=>?_)
 .refine G0 1 Z ?_;refine Lp [0,1] [3] (λa=>[(4,.osl 1 0 a.1.length 2),(5,I a.2)]) (λa=>[(1,.row 66 2 (map Ref.c a.1))]) M Zf (Lr [0,1]) λa T i z=>?_;refine G0 9 Z (Yh Z i (λB i=>?_) (λB i=>?_))
  .refine Gc 2 Z (Qh i ?_);obtain rfl:=Oj z i;exact Gx 1 Z (QC (Lr [1]))
  refine Gc 5 Z (Bd i λm d i=>?_);refine Ct m [0,1] [3,4,5] (λm=>[(38,.bool m)]) Ze Zf ?_ (λenv H k=>?_)
  .refine G0 0 Z (DSs 22 Z (D 2 Z ?_));obtain⟨N,p,d⟩:=YU d;refine DS.v (x:=(.ptr 0 (toNat a.2*57))) (Qu p Z EA EB) ?_;refine DS.wo (x:=.ptr 0 (toNat a.2*57+3)) ?_ ?_
   .exact Fp Qfa Z Wp
   refine DS.v (x:=(I N.Kind)) (Ey Z EE Z (Yv (f:=3) p)) ?_;refine D 2 Z (QbS 6 d Z Z Z (λE d=>?_) (λE d=>?_))
   .refine D 3 Z ?_;obtain⟨O,q,d⟩:=YU d;refine DS.v (x:=(.ptr 0 (toNat a.2*57))) (Qu q Z EA EB) ?_ (hg:=(gT Z));refine DS.wo (x:=.ptr 0 (toNat a.2*57+47)) ?_ ?_
    .exact Fpg (gT Z) Jo Z Wp
    refine DS.wo (x:=.ptr 0 (toNat a.2*57+47)) ?_ ?_
    .exact Fpg (gT Z) QlW Z Wp
    refine DS.v (x:=(I O.Ruling.Case)) (Ey Z EE Z (Yv (f:=47) q)) ?_ (hg:=(gT Z));refine D 2 Z ?_;obtain⟨P,s,d⟩:=YU d;refine DS.v (x:=(.ptr 0 (toNat a.2*57))) (Qu s Z EA EB) ?_ (hg:=(gT Z));refine DS.wo (x:=.ptr 0 (toNat a.2*57+47)) ?_ ?_
    .exact Fpg (gT Z) Jo Z Wp
    refine DS.wo (x:=.ptr 0 (toNat a.2*57+48)) ?_ ?_
    .exact Fpg (gT Z) QbD Z Wp
    refine DS.v (x:=(I P.Ruling.Instance)) (Ey Z EE Z (Yv (f:=48) s)) ?_ (hg:=(gT Z));obtain⟨Q,F,d⟩:=YU d;refine DS.wo (x:=I Q) ?_ ?_
    .refine QdH (OpC.fn call137 rfl rfl rfl) (Qbu.cons rfl (.inr ⟨_,_,_,_,_,rfl,rfl,XZ ..,rfl⟩) (Qbu.cons rfl (.inl ⟨rfl,rfl⟩) (Qbu.cons rfl (.inl ⟨rfl,rfl⟩) Qbu.nil))) (k_hf _ _ _ _ _ F) (by rintro _ _ ⟨rfl,rfl⟩;rfl) ?_ (gT rfl);rintro _ _ ⟨rfl,rfl⟩;exact FE Z Wp
    exact D 1 Z (Eg Z (Go 3 Z (Cl d [0,1])))
   .exact D 15 Z (Eg Z (Go 3 Z (Cl d [0,1])))
  refine Gx 1 Z (Qb k (Bd i λl g i=>?_));refine Ct l [0,0] [3,5] (λl=>[(4,.osl 1 0 l.length 2)]) (λl=>[(1,.row 66 2 (map Ref.c l))]) Zf ?_ (λenv H k=>?_)
  .refine G0 0 Z (Cn Z g (λG g=>?_) (λG g=>?_))
   .refine DSs 13 Z (D 3 Z ?_);obtain⟨t,u,g⟩:=YU g;refine DS.v (x:=(.ptr 0 (toNat a.2*57))) (Qu u Z EA EB) ?_;refine DS.wo (x:=.ptr 0 (toNat a.2*57)) ?_ ?_
    .exact Fp QpJ Z Wp
    refine DS.v (x:=(I t.Crew)) (Ey Z EE Z (Qn u)) ?_;refine D 2 Z ?_;obtain⟨w,y,g⟩:=YU g;refine DS.v (x:=(.ptr 0 (toNat a.2*57))) (Qu y Z EA EB) ?_;refine DS.wo (x:=.ptr 0 (toNat a.2*57+1)) ?_ ?_
    .exact Fp Qdx Z Wp
    refine DS.v (x:=(I w.No)) (Ey Z EE Z (Yv (f:=1) y)) ?_;refine D 1 Z ?_;refine DS.wo (x:=.rsl 2 (map Ref.c [{Crew:=t.Crew,No:=w.No:Ref}])) ?_ ?_
    .refine vH (Yi (xs:=[.tmp 50]) (es:=map Ref.c [{Crew:=t.Crew,No:=w.No:Ref}]) Qgk Z Z Z Z Z ⟨Z,trivial⟩ Z Z) ?_;exact FE Z Wp
    refine Eg Z (Bd g λV J g=>?_);refine vH (Qk (e:=Ref.c) J Qgk Gb Js) ?_;exact FE Z (Go 2 Z (Cl g [0,2]))
   exact Gc 1 Z (Cl g [0,1])
  exact Gx 2 Z (Qb k (Gc 5 Z (Qf i (Lr [0,1]))))
 exact Gx 1 Z (Qb k (Gc 7 Z (Rt h 2 [0])))
def F_kq(n:Nat)(g:List Ref)(e:Fact)(a:Bool×Int):Option (Ctl (Bool×Int) Bool):=(bif decide (a.2<(g.length:Int))then((bif a.1 then(idx g a.2).bind λd=>some (({Crew:=d.Crew,No:=d.No:Ref}) != ({Crew:=e.Crew,No:=e.No:Ref}))else some false):Option Bool).bind λf=>some (.cont (f,i64.wrap (a.2+1)))else some (.done a.1))
def F_lc(n:Nat)(j:Int)(k:List Ref)(h:List Fact)(a:(List Fact)×Int):Option (Ctl ((List Fact)×Int) (List Fact)):=(bif decide (a.2<(h.length:Int))then(idx h a.2).bind λd=>((bif (d.Kind==10)then some (d.Ruling.Case==j)else some false):Option Bool).bind λi=>(iter (F_kq n k d) n (i,0):Option Bool).bind λe=>((bif e then(app a.1 [d]).bind λf=>some f else some a.1):Option (List Fact)).bind λg=>some (.cont (g,i64.wrap (a.2+1)))else some (.done a.1))
def F_av(n:Nat)(a:List Fact)(e:Int):Option (List Fact):=(F_fy n a).bind λf=>(F_as n a).bind λg=>(iter (F_lc n e f g) n (([]:List Fact),0):Option (List Fact)).bind λd=>some d
theorem k_av(n:Nat)(T:List Fact)(V:Int):Kq (F_av n T V) 25 [.rsl 57 (map Fact.c T),I V] [] (λr=>.osl 0 0 r.length 57) (λr=>[.row 68 57 (map Fact.c r)]):=by
 refine Kg 8 func25 Z Z Z Z λr h=>Cd [] h (k_fy _ _) Z λr1 aa h=>FE Z (Go 5 Z ?_);refine vH (Ej (xs:=[]) (es:=map Fact.c []) Y0 Z Z Z Z Z trivial Z Z) ?_;refine FE Z (Go 6 Z (Cd [] h (k_as _ _) Z λr2 ab h=>FE Z (Go 9 Z (Bd h λu W h=>?_))));refine Ct u [2] [] (λu=>[(6,.osl 0 0 u.length 57)]) (λu=>[(0,.row 68 57 (map Fact.c u))]) Zf ?_ (λenv H j=>?_)
 .refine G0 1 Z ?_;refine Lp [2,0,1] [0,1,5] (λm=>[(6,.osl 2 0 m.1.length 57),(7,I m.2)]) (λm=>[(2,.row 68 57 (map Fact.c m.1))]) W Zf (Lr [2,0,1]) λm ac a O=>?_;refine G0 9 Z (Yh Z a (λP a=>?_) (λP a=>?_))
  .refine Gc 2 Z (Qh a ?_);obtain rfl:=Oj O a;exact Gx 1 Z (QC (Lr [2]))
  refine Gc 8 Z (Bd a λs E a=>?_);refine vX (.ptr 0 (toNat m.2*57)) (Qu E Z EA EB) ?_;refine vX (.agg (Fact.c s)) (Qo Z EJ EB Z (Qn E) Z Z) ?_;refine Go 5 Z (Bd a λF w a=>?_);refine Ct F [0,1,2,3] [0,1,5,6,7,8] (λF=>[(9,.bool F)]) Ze Zf ?_ (λenv H j=>?_)
  .refine G0 5 Z (Is 29 w Z (λQ w=>?_) (λQ w=>?_))
   iterate 2 exact Go 8 Z (Cl w [0,1,2,3])
  refine Gx 1 Z (Qb j (Gc 6 Z (Bd a λy R a=>?_)));refine Ct y [0,1,2,3] [0,1,5,6,7,8] (λy=>[(9,.bool y)]) Ze Zf ?_ (λenv H j=>?_)
  .refine G0 1 Z ?_;refine Lp [0,1,2,3] [0,1,5,6,7,8] (λt=>[(9,.bool t.1),(10,I t.2)]) Ze R Zf (Lr [0,1,2,3]) λt X d G=>?_;refine G0 9 Z (Yh Z d (λJ d=>?_) (λJ d=>?_))
   .refine Gc 2 Z (Qh d ?_);obtain rfl:=Oj G d;exact Gx 1 Z (QC (Lr [0,1,2,3]))
   refine Gc 4 Z (Bd d λz f d=>?_);refine Ct z [0,1,2,3] [0,1,5,6,7,8,10] (λz=>[(9,.bool z)]) Ze Zf ?_ (λenv H j=>?_)
   .refine G0 0 Z (DSs 11 Z (D 2 Z (QbS 1 f Z Z Z (λL f=>?_) (λL f=>?_))))
    .refine D 2 Z ?_;obtain⟨k,B,f⟩:=YU f;refine DS.v (x:=(.ptr 1 (toNat t.2*2))) (Qu B Z Gb Gt) ?_ (hg:=(gT Z));refine DS.v (x:=(.agg [I k.Crew,I k.No])) (Qo Z isAgg66 Gt Z (Qn B) Z Z) ?_ (hg:=(gT Z));refine D 5 Z (Eg Z ?_);refine vX (.bool (({Crew:=k.Crew,No:=k.No:Ref}) != ({Crew:=s.Crew,No:=s.No:Ref}))) (QhE (p:={Crew:=k.Crew,No:=k.No:Ref}) (q:={Crew:=s.Crew,No:=s.No:Ref}) QqR Z Z) ?_ (gT Z);exact Go 3 Z (Cl f [0,1,2,3])
    .exact D 9 Z (Eg Z (Go 4 Z (Cl f [0,1,2,3])))
   exact Gx 2 Z (Qb j (Gc 5 Z (Qf d (Lr [0,1,2,3]))))
  refine Gx 1 Z (Qb j (Gc 5 Z (Bd a λl g a=>?_)));refine Ct l [0,1,0] [0,1,5,7] (λl=>[(6,.osl 2 0 l.length 57)]) (λl=>[(2,.row 68 57 (map Fact.c l))]) Zf ?_ (λenv H j=>?_)
  .refine G0 0 Z (Cn Z g (λM g=>?_) (λM g=>?_))
   .refine Gc 3 Z ?_;refine vH (Ej (xs:=[.tmp 57]) (es:=map Fact.c [s]) Y0 Z Z Z Z Z ⟨Z,trivial⟩ Z Z) ?_;refine FE Z (Bd g λY N g=>?_);refine vH (Qk (e:=Fact.c) N Y0 EA (QQ (i:=4))) ?_;exact FE Z (Go 2 Z (Cl g [0,1,5]))
   exact Gc 1 Z (Cl g [0,1,2])
  exact Gx 2 Z (Qb j (Gc 5 Z (Qf a (Lr [0,1,2]))))
 exact Gx 1 Z (Qb j (Gc 7 Z (Rt h 4 [0])))
def F_cc(n:Nat)(a:List Fact)(d:Int):Option Bool:=(F_ay n a d).bind λe=>((bif e.2 then some true else(F_av n a d).bind λf=>some (decide (0<(f.length:Int)))):Option Bool).bind λg=>some g
theorem k_cc(n:Nat)(e:List Fact)(f:Int):Ks (F_cc n e f) 23 [.rsl 57 (map Fact.c e),I f] [] (λr=>.bool r):=by
 refine Kg 9 func23 Z Z Z Z λr h=>Cd [] h (k_ay _ _ _) Z λl j h=>FE Z (Go 9 Z (Bd h λd a h=>?_));refine Ct d [] [] (λd=>[(4,.bool d)]) Ze Zf ?_ (λenv H g=>?_)
 .refine G0 3 Z (Is 14 a Z (λi a=>?_) (λi a=>?_))
  .exact Go 8 Z (Cl a [])
  .exact Go 2 Z (Cd [] a (k_av _ _ _) Z λm k a=>FE Z (Go 5 Z (Cl a [])))
 exact Gx 1 Z (Qb g (Gc 1 Z (Rt h 4 [])))
def F_kn(n:Nat)(d:List Fact)(a:Int×Int):Option (Ctl (Int×Int) Int):=(bif decide (a.2<(d.length:Int))then(idx d a.2).bind λe=>some (.cont ((if a.1<e.At then e.At else a.1),i64.wrap (a.2+1)))else some (.done a.1))
def F_cg(n:Nat)(f:Course)(d:List Fact)(e:Int):Option (Int×Bool):=((F_al n f).bind λj=>(bif (j != 0)then some true else(F_cc n d e).bind λk=>some (!k)):Option Bool).bind λl=>(bif l then some (0,false)else(F_ay n d e).bind λa=>((bif a.2 then some a.1.At else some 0):Option Int).bind λg=>(F_av n d e).bind λh=>(iter (F_kn n h) n (g,0):Option Int).bind λi=>some (i64.wrap (i+f.Deadline),true))
theorem k_cg(n:Nat)(u:Course)(w:List Fact)(x:Int):Ks (F_cg n u w x) 9 [.agg (Course.c u),.rsl 57 (map Fact.c w),I x] [] (λr=>.tup [I r.1,.bool r.2]):=by
 refine Kg 9 func9 Z Z Z Z λr h=>Bd h λp e h=>?_;refine Ct p [0] [1,2,3] (λp=>[(21,.bool p)]) Ze Zf ?_ (λenv H g=>?_)
 .refine G0 2 Z (Cz [] e (k_al _ _) Z λO G e=>Go 2 Z (Is 16 e Z (λy e=>?_) (λy e=>?_)))
  .exact Go 6 Z (Cl e [0])
  .exact Go 2 Z (Cz [] e (k_cc _ _ _) Z λP J e=>Go 3 Z (Cl e [0]))
 refine Gx 1 Z (Qb g (Cn Z h (λz h=>?_) (λz h=>?_)))
 .refine Gc 8 Z ?_;obtain rfl:=Oi h;exact R2 6 7 Z Z (Lr [])
 refine Gc 11 Z (Cd [] h (k_ay _ _ _) Z λL E h=>FE Z (Go 14 Z (Bd h λj i h=>?_)));refine Ct j [0] [1,2,3] (λj=>[(8,I j)]) Ze Zf ?_ (λenv H g=>?_)
 .refine G0 0 Z (Cn Z i (λq i=>?_) (λq i=>?_))
  .exact Gc 5 Z (Cl i [0])
  exact Gc 1 Z (Cl i [0])
 refine Gx 1 Z (Qb g (Gc 4 Z (Cd [] h (k_av _ _ _) Z λM F h=>FE Z (Go 9 Z (Bd h λk B h=>?_)))));refine Ct k [0] [3] (λk=>[(8,I k)]) Ze Zf ?_ (λenv H g=>?_)
 .refine G0 1 Z ?_;refine Lp [0,1] [3,11] (λd=>[(8,I d.1),(12,I d.2)]) Ze B Zf (Lr [0,1]) λd N a s=>?_;refine G0 9 Z (Yh Z a (λt a=>?_) (λt a=>?_))
  .refine Gc 2 Z (Qh a ?_);obtain rfl:=Oj s a;exact Gx 1 Z (QC (Lr [0]))
  refine Gc 8 Z (Bd a λl m a=>?_);refine vX (.ptr 1 (toNat d.2*57)) (Qu m Z EA EB) ?_;refine Fp Qfb Z ?_;refine vX (I l.At) (Ey Z EE Z (Yv (f:=2) m)) ?_;refine vX (I (if d.1<l.At then l.At else d.1)) (OpV.max Z Z Z Z) ?_;exact Go 9 Z (Qf a (Lr [0,1]))
 refine Gx 1 Z (Qb g (Gc 11 Z ?_));obtain rfl:=Oi h;exact R2 6 7 Z Z (Lr [])
def F_la(n:Nat)(d:List Fact)(a:(List Int)×Int):Option (Ctl ((List Int)×Int) (List Int)):=(bif decide (a.2<(d.length:Int))then(idx d a.2).bind λe=>((bif (e.Ruling.Bib != 0)then(idx d a.2).bind λf=>(app a.1 [f.Ruling.Bib]).bind λg=>some g else some a.1):Option (List Int)).bind λh=>some (.cont (h,i64.wrap (a.2+1)))else some (.done a.1))
def F_ev(n:Nat)(a:List Fact)(d:Int):Option (List Int):=(F_ay n a d).bind λe=>((bif e.2 then(app ([]:List Int) [e.1.Report.Bib]).bind λg=>some g else some ([]:List Int)):Option (List Int)).bind λh=>(F_av n a d).bind λi=>(iter (F_la n i) n (h,0):Option (List Int)).bind λf=>some f
theorem k_ev(n:Nat)(z:List Fact)(B:Int):Kq (F_ev n z B) 29 [.rsl 57 (map Fact.c z),I B] [] (λr=>.osl 0 0 r.length 1) (λr=>[.row 3 1 (map (Qe .i64) r)]):=by
 refine Kg 7 func29 Z Z Z Z λr h=>?_;refine vH (Ej (xs:=[]) (es:=map (Qe .i64) []) QA Z Z Z Z Z trivial Z Z) ?_;refine FE Z (Go 7 Z (Cd [] h (k_ay _ _ _) Z λL M h=>FE Z (Go 14 Z (Bd h λp m h=>?_))));refine Ct p [0] [0,1] (λp=>[(5,.osl 0 0 p.length 1)]) (λp=>[(0,.row 3 1 (map (Qe .i64) p))]) Zf ?_ (λenv H j=>?_)
 .refine G0 0 Z (Cn Z m (λE m=>?_) (λE m=>?_))
  .refine Gc 5 Z ?_;refine vH (Ej (xs:=[.tmp 21]) (es:=map (Qe .i64) [L.1.Report.Bib]) QA Z Z Z Z Z ⟨Z,trivial⟩ Z Z) ?_;refine FE Z (Bd m λQ F m=>?_);refine vH (Qk (e:=(Qe .i64)) F QA EC (QQ (i:=3))) ?_;exact FE Z (Go 2 Z (Cl m [4]))
  exact Gc 1 Z (Cl m [0])
 refine Gx 1 Z (Qb j (Gc 4 Z (Cd [] h (k_av _ _ _) Z λR N h=>FE Z (Go 9 Z (Bd h λk G h=>?_)))));refine Ct k [0] [] (λk=>[(5,.osl 0 0 k.length 1)]) (λk=>[(0,.row 3 1 (map (Qe .i64) k))]) Zf ?_ (λenv H j=>?_)
 .refine G0 1 Z ?_;refine Lp [0,1] [8] (λg=>[(5,.osl 0 0 g.1.length 1),(9,I g.2)]) (λg=>[(0,.row 3 1 (map (Qe .i64) g.1))]) G Zf (Lr [0,1]) λg O a u=>?_;refine G0 9 Z (Yh Z a (λw a=>?_) (λw a=>?_))
  .refine Gc 2 Z (Qh a ?_);obtain rfl:=Oj u a;exact Gx 1 Z (QC (Lr [0]))
  refine Gc 8 Z (Bd a λJ q a=>?_);refine vX (.ptr 1 (toNat g.2*57)) (Qu q Z EA EB) ?_;refine Fp Jo Z (Fp QlV Z ?_);refine vX (I J.Ruling.Bib) (Ey Z EE Z (Yv (f:=50) q)) ?_;refine Go 3 Z (Bd a λl d a=>?_);refine Ct l [0,1] [8,9] (λl=>[(5,.osl 0 0 l.length 1)]) (λl=>[(0,.row 3 1 (map (Qe .i64) l))]) Zf ?_ (λenv H j=>?_)
  .refine G0 0 Z (Cn Z d (λx d=>?_) (λx d=>?_))
   .refine Gc 4 Z (Bd d λt s d=>?_);refine vX (.ptr 1 (toNat g.2*57)) (Qu s Z EA EB) ?_;refine Fp Jo Z (Fp QlV Z ?_);refine vX (I t.Ruling.Bib) (Ey Z EE Z (Yv (f:=50) s)) ?_;refine vH (Ej (xs:=[.tmp 46]) (es:=map (Qe .i64) [t.Ruling.Bib]) QA Z Z Z Z Z ⟨Z,trivial⟩ Z Z) ?_;refine FE Z (Bd d λP y d=>?_);refine vH (Qk (e:=(Qe .i64)) y QA EC (QQ (i:=2))) ?_;exact FE Z (Go 2 Z (Cl d [3,1]))
   exact Gc 1 Z (Cl d [0,1])
  exact Gx 2 Z (Qb j (Gc 5 Z (Qf a (Lr [0,1]))))
 exact Gx 1 Z (Qb j (Gc 7 Z (Rt h 4 [0])))
def F_lm(n:Nat)(d:List Int)(f:Int)(a:Int):Option (Ctl Int (Ctl Unit Bool)):=(bif decide (a<(d.length:Int))then(idx d a).bind λe=>(bif (e==f)then some (.done (.done true))else some (.cont (i64.wrap (a+1))))else some (.done (.cont ())))
def F_cb(n:Nat)(d:List Int)(e:Int):Option Bool:=(iter (F_lm n d e) n 0:Option (Ctl Unit Bool)).bind λf=>match f with|.cont a=>(some false)|.done a=>some a
theorem k_cb(n:Nat)(j:List Int)(k:Int):Ks (F_cb n j k) 30 [.rsl 1 (map (Qe .i64) j),I k] [] (λr=>.bool r):=by
 refine Kg 11 func30 Z Z Z Z λr h=>Bd h λp q h=>?_;refine Jw (b:=p) [] [] Ze Ze Zf ?_ (λs env H l m=>?_)
 .refine G0 1 Z ?_;refine Lp [] [0,1] (λe=>[(5,I e)]) Ze q Zf (Lr []) λe t a d=>?_;refine G0 5 Z (Lm Z (Go 3 Z (Yh Z a (λf a=>?_) (λf a=>?_))))
  .refine Gc 2 Z (Qh a ?_);obtain rfl:=Oj d a;exact Gx 1 Z (Qq Z (Lr []))
  refine Gc 8 Z (Bd a λu g a=>Iz g Z (Go 5 Z (Cn Z a (λi a=>?_) (λi a=>?_))))
  .refine Gc 8 Z (Qv a ?_);obtain rfl:=Oj d a;exact Gx 1 Z (Qs (Gx 1 Z (Rt h 4 [])))
  exact Gc 8 Z (Qf a (Lr []))
 subst l;exact Gx 1 Z (Qb m (Gc 6 Z (Rt h 4 [])))
def F_jg(n:Nat)(d:List Starter)(f:Int)(a:Int):Option (Ctl Int (Ctl Unit Int)):=(bif decide (a<(d.length:Int))then(idx d a).bind λe=>(bif (e.Bib==f)then some (.done (.done a))else some (.cont (i64.wrap (a+1))))else some (.done (.cont ())))
def F_bx(n:Nat)(d:List Starter)(e:Int):Option Int:=(iter (F_jg n d e) n 0:Option (Ctl Unit Int)).bind λf=>match f with|.cont a=>(some (-1))|.done a=>some a
theorem k_bx(n:Nat)(j:List Starter)(k:Int):Ks (F_bx n j k) 32 [.rsl 8 (map Starter.c j),I k] [] (λr=>I r):=by
 refine Kg 11 func32 Z Z Z Z λr h=>Bd h λp q h=>?_;refine Jw (b:=p) [] [] Ze Ze Zf ?_ (λs env H l m=>?_)
 .refine G0 1 Z ?_;refine Lp [] [0,1] (λe=>[(5,I e)]) Ze q Zf (Lr []) λe t a d=>?_;refine G0 5 Z (Lm Z (Go 3 Z (Yh Z a (λf a=>?_) (λf a=>?_))))
  .refine Gc 2 Z (Qh a ?_);obtain rfl:=Oj d a;exact Gx 1 Z (Qq Z (Lr []))
  refine Gc 8 Z (Bd a λu g a=>Iz g Z (Go 6 Z (Cn Z a (λi a=>?_) (λi a=>?_))))
  .refine Gc 9 Z (Qv a ?_);obtain rfl:=Oj d a;exact Gx 1 Z (Qs (Gx 1 Z (Rt h 4 [])))
  exact Gc 8 Z (Qf a (Lr []))
 subst l;exact Gx 1 Z (Qb m (Gc 6 Z (Rt h 4 [])))
def F_cm(n:Nat)(d:(List Starter)×Int)(e:Fact)(a:Int):Option (Ctl Int Int):=((bif decide (a<(d.1.length:Int))then(idx d.1 a).bind λf=>some (decide (f.Bib<e.Starter.Bib))else some false):Option Bool).bind λg=>(bif g then some (.cont (i64.wrap (a+1)))else some (.done a))
def F_iq(n:Nat)(r:Course)(f:List Fact)(a:(List Starter)×Int):Option (Ctl ((List Starter)×Int) (List Starter)):=(bif decide (a.2<(f.length:Int))then((idx f a.2).bind λd=>((idx f a.2).bind λg=>(bif (g.Kind != 1)then some true else(bif decide ((r.Distances.length:Int)<=d.Starter.Distance)then some true else(bif decide ((r.Waves.length:Int)<=d.Starter.Wave)then some true else(F_bx n a.1 d.Starter.Bib).bind λh=>some (decide (0<=h))))):Option Bool).bind λi=>(bif i then some a.1 else(iter (F_cm n a d) n 0:Option Int).bind λe=>(slc a.1 0 e).bind λj=>(app ([]:List Starter) j).bind λk=>(app k [d.Starter]).bind λl=>(slc a.1 e (a.1.length:Int)).bind λm=>(app l m).bind λp=>some p):Option (List Starter)).bind λq=>some (.cont (q,i64.wrap (a.2+1)))else some (.done a.1))
def F_bc(n:Nat)(d:List Starter)(e:Int)(a:Int):Option (Ctl Int (Ctl Unit (Ctl Int (Ctl Unit ((List Starter)×Int))))):=(bif decide (a<e)then(idx d e).bind λf=>(idx d a).bind λg=>(bif (f.Chip==g.Chip)then some (.done (.done (.done (.done ([],180)))))else some (.cont (i64.wrap (a+1))))else some (.done (.cont ())))
def F_ci(n:Nat)(e:List Starter)(a:Int):Option (Ctl Int (Ctl Unit ((List Starter)×Int))):=(bif decide (a<(e.length:Int))then(iter (F_bc n e a) n 0:Option (Ctl Unit (Ctl Int (Ctl Unit ((List Starter)×Int))))).bind λf=>match f with|.cont d=>(some (.cont (i64.wrap (a+1))))|.done d=>some d else some (.done (.cont ())))
def F_ds(n:Nat)(f:Course)(h:List Fact):Option ((List Starter)×Int):=(F_al n f).bind λg=>(bif (g != 0)then some ([],g)else(F_as n h).bind λi=>(iter (F_iq n f i) n (([]:List Starter),0):Option (List Starter)).bind λa=>(bif decide (4000<(a.length:Int))then some ([],2)else(iter (F_ci n a) n 0:Option (Ctl Unit ((List Starter)×Int))).bind λe=>match e with|.cont d=>(some (a,0))|.done d=>some d))
theorem k_ds(n:Nat)(X:Course)(a2:List Fact):Kq (F_ds n X a2) 31 [.agg (Course.c X),.rsl 57 (map Fact.c a2)] [] (λr=>.tup [.osl 0 0 r.1.length 8,I r.2]) (λr=>[.row 46 8 (map Starter.c r.1)]):=by
 refine Kg 10 func31 Z Z Z Z λr h=>Cz [] h (k_al _ _) Z λr1 bs h=>Go 10 Z (Cn Z h (λbg h=>?_) (λbg h=>?_))
 .refine Gc 9 Z ?_;obtain rfl:=Oi h;refine R2 4 5 Z Z ?_;refine Em (Eo (s:=4) (k:=8) (t:=46) (XP Z) Z) ?_;exact Lr [1]
 refine Gc 5 Z (Cd [] h (k_as _ _) Z λr3 bt h=>FE Z (Go 5 Z ?_));refine vH (Ej (xs:=[]) (es:=map Starter.c []) QcM Z Z Z Z Z trivial Z Z) ?_;refine FE Z (Go 9 Z (Bd h λB aw h=>?_));refine Ct B [2] [] (λB=>[(7,.osl 0 0 B.length 8)]) (λB=>[(0,.row 46 8 (map Starter.c B))]) Zf ?_ (λenv H p=>?_)
 .refine G0 1 Z ?_;refine Lp [1,0,2] [1,2] (λa=>[(7,.osl 2 0 a.1.length 8),(8,I a.2)]) (λa=>[(2,.row 46 8 (map Starter.c a.1))]) aw Zf (Lr [1,0,2]) λa bk u ac=>?_;refine G0 9 Z (Yh Z u (λae u=>?_) (λae u=>?_))
  .refine Gc 2 Z (Qh u ?_);obtain rfl:=Oj ac u;exact Gx 1 Z (QC (Lr [2]))
  refine Gc 3 Z (Bd u λE d u=>?_);refine Ct E [0,1,2] [1,2,8] (λE=>[(7,.osl 2 0 E.length 8)]) (λE=>[(2,.row 46 8 (map Starter.c E))]) Zf ?_ (λenv H p=>?_)
  .refine G0 5 Z (Bd d λq O d=>?_);refine vX (.ptr 0 (toNat a.2*57)) (Qu O Z EA EB) ?_;refine Fp QpI Z ?_;refine vX (.agg (Starter.c q.Starter)) (Qo Z isAgg46 EM Z (Yv (f:=4) O) Z Z) ?_;refine Go 6 Z (Bd d λM g d=>?_);refine Ct M [0,1,2,3] [1,2,7,8,9] (λM=>[(60,.bool M)]) Ze Zf ?_ (λenv H p=>?_)
   .refine G0 3 Z (Bd g λax P g=>?_);refine vX (.ptr 0 (toNat a.2*57)) (Qu P Z EA EB) ?_;refine Fp Qfa Z ?_;refine vX (I ax.Kind) (Ey Z EE Z (Yv (f:=3) P)) ?_;refine Go 2 Z (Is 38 g Z (λaf g=>?_) (λaf g=>?_))
    .exact Go 23 Z (Cl g [0,1,2,3])
    .refine Go 4 Z (Lm Z (Go 3 Z (Is 46 g Z (λag g=>?_) (λag g=>?_))))
     .exact Go 15 Z (Cl g [0,1,2,3])
     .refine Go 4 Z (Lm Z (Go 3 Z (Is 54 g Z (λah g=>?_) (λah g=>?_))))
      .exact Go 7 Z (Cl g [0,1,2,3])
      .exact Go 3 Z (Cb g (k_bx _ _ _) Z (lo (ls ln)) λbl bh g=>Go 3 Z (Cl g [0,1,2,3]))
   refine Gx 1 Z (Qb p (Cn Z d (λai d=>?_) (λai d=>?_)))
   .exact Gc 3 Z (Cl d [0,1,2])
   refine Gc 8 Z (Bd d λi ay d=>?_);refine Ct i [0,1,2,3] [1,2,7,8,9] (λi=>[(10,I i)]) Ze Zf ?_ (λenv H p=>?_)
   .refine G0 1 Z ?_;refine Lp [0,1,2,3] [1,2,7,8,9] (λF=>[(10,I F)]) Ze ay Zf (Lr [0,1,2,3]) λF bm w aj=>?_;refine G0 2 Z (Bd w λN y w=>?_);refine Ct N [0,1,2,3] [1,2,7,8,9,10] (λN=>[(74,.bool N)]) Ze Zf ?_ (λenv H p=>?_)
    .refine G0 0 Z (DSs 12 Z (D 5 Z (QbS 4 y Z Z Z (λak y=>?_) (λak y=>?_))))
     .refine D 2 Z ?_;obtain⟨az,Q,y⟩:=YU y;refine DS.v (x:=(.ptr 2 (toNat F*8))) (Qu Q Z EF EM) ?_ (hg:=(gT Z));refine DS.wo (x:=.ptr 2 (toNat F*8)) ?_ ?_
      .exact Fpg (gT Z) Ql0 Z Wp
      refine DS.v (x:=(I az.Bib)) (Ey Z EE Z (Qn Q)) ?_ (hg:=(gT Z));exact D 2 Z (Eg Z (Go 3 Z (Cl y [0,1,2,3])))
     .exact D 7 Z (Eg Z (Go 3 Z (Cl y [0,1,2,3])))
    refine Gx 1 Z (Qb p (Yh Z w (λal w=>?_) (λal w=>?_)))
    .refine Gc 2 Z (Qh w ?_);obtain rfl:=Oj aj w;exact Gx 1 Z (QC (Lr [0,1,2,3]))
    exact Gc 9 Z (Qf w (Lr [0,1,2,3]))
   refine Gx 1 Z (Qb p (DKs 11 [0,4,7] [(1,0,0),(0,0,1),(0,0,1),(0,0,1),(1,1,0),(0,0,2),(0,0,2),(1,2,0),(0,0,3),(0,0,3),(0,0,3)] (by kernel_rfl) ?_));refine Ew (x:=.osl 4 0 (([]:List Starter).length) 8) (X1:=[.row 68 57 (map Fact.c r3),.cells 33 (Course.c X),.row 46 8 (map Starter.c a.1),.cells 46 (Starter.c q.Starter),.row 46 8 (map Starter.c ([]:List Starter))]) ?_ ?_
   .refine vH (Ej (xs:=[]) (es:=map Starter.c []) QcM Z Z Z Z Z trivial Z Z) ?_;exact FE Z Wp
   refine Dk 2 Z ?_;obtain⟨bn,G,d⟩:=YU d;refine QeP (lo:=0) (hi:=1) (x:=.osl 2 (0+toNat 0) (toNat i-toNat 0) 8) ⟨?_,?_,trivial⟩ ?_
   iterate 2 refine vX (.osl 2 (0+toNat 0) (toNat i-toNat 0) 8) (YR (l:=a.1) G EF EM (.inl ⟨Z,Z⟩) (.inr ⟨_,Z,Z⟩)) ?_;exact Wp
   obtain⟨Y,am,d⟩:=YU d;refine Ew (x:=.osl 5 0 Y.length 8) (X1:=[.row 68 57 (map Fact.c r3),.cells 33 (Course.c X),.row 46 8 (map Starter.c a.1),.cells 46 (Starter.c q.Starter),.dead,.row 46 8 (map Starter.c Y)]) ?_ ?_
   .refine vH (Qk (e:=Starter.c) am QcM EF (QiA (b:=2) G)) ?_;exact FE Z Wp
   refine Dks (lo:=0) (hi:=2) (x:=.agg (Starter.c q.Starter)) ⟨Z,Z,Z,trivial⟩ ?_;refine QeP (lo:=0) (hi:=2) (x:=.rsl 8 (map Starter.c [q.Starter])) ⟨?_,?_,?_,trivial⟩ ?_
   iterate 3 refine vH (Yi (xs:=[.tmp 82]) (es:=map Starter.c [q.Starter]) QcM Z Z Z Z Z ⟨Z,trivial⟩ Z Z) ?_;exact FE Z Wp
   obtain⟨aa,an,d⟩:=YU d;refine Ew (x:=.osl 6 0 aa.length 8) (X1:=[.row 68 57 (map Fact.c r3),.cells 33 (Course.c X),.row 46 8 (map Starter.c a.1),.cells 46 (Starter.c q.Starter),.dead,.dead,.row 46 8 (map Starter.c aa)]) ?_ ?_
   .refine vH (Qk (e:=Starter.c) an QcM EF Js) ?_;exact FE Z Wp
   refine Dk 2 Z ?_;obtain⟨bo,z,d⟩:=YU d;refine QeP (lo:=0) (hi:=3) (x:=.osl 2 (0+toNat i) (toNat (a.1.length:Int)-toNat i) 8) ⟨?_,?_,?_,?_,trivial⟩ ?_
   iterate 4 refine vX (.osl 2 (0+toNat i) (toNat (a.1.length:Int)-toNat i) 8) (YR (l:=a.1) z EF EM (.inr ⟨_,Z,Z⟩) (.inl ⟨Z,Z⟩)) ?_;exact Wp
   refine DK.done Z Z (Bd d λbp ao d=>?_);refine vH (Qk (e:=Starter.c) ao QcM EF (QiA (b:=2) z)) ?_;exact FE Z (Go 3 Z (Cl d [0,1,7]))
  exact Gx 1 Z (Qb p (Gc 5 Z (Qf u (Lr [0,1,2]))))
 refine Gx 1 Z (Qb p (Gc 8 Z (Cn Z h (λaq h=>?_) (λaq h=>?_))))
 .refine Gc 8 Z ?_;obtain rfl:=Oi h;refine R2 4 5 Z Z ?_;refine Em (Eo (s:=4) (k:=8) (t:=46) (XP Z) Z) ?_;exact Lr [1]
 refine Gc 8 Z (Bd h λba bb h=>?_);refine Jw (b:=ba) [0] [7] Ze Ze Zf ?_ (λbi env H ab p=>?_)
 .refine G0 1 Z ?_;refine Lp [0] [7] (λJ=>[(11,I J)]) Ze bb Zf (Lr [0]) λJ bq m R=>?_;refine G0 9 Z (Yh Z m (λar m=>?_) (λar m=>?_))
  .refine Gc 2 Z (Qh m ?_);obtain rfl:=Oj R m;exact Gx 1 Z (Qq Z (Lr [0]))
  refine Gc 9 Z (Bd m λbc bd m=>?_);refine Jw (b:=bc) [0] [7,11] Ze Ze Zf ?_ (λbj env H ab p=>?_)
  .refine G0 1 Z ?_;refine Lp [0] [7,11] (λL=>[(12,I L)]) Ze bd Zf (Lr [0]) λL br j T=>?_;refine G0 8 Z (Yh Z j (λau j=>?_) (λau j=>?_))
   .refine Gc 2 Z (Qh j ?_);obtain rfl:=Oj T j;exact Gx 1 Z (Qq Z (Lr [0]))
   refine Gc 5 Z (DSs 10 Z (D 2 Z ?_));obtain⟨be,V,j⟩:=YU j;refine DS.v (x:=(.ptr 0 (toNat J*8))) (Qu V Z EF EM) ?_;refine DS.wo (x:=.ptr 0 (toNat J*8+5)) ?_ ?_
   .exact Fp QlY Z Wp
   refine DS.v (x:=(I be.Chip)) (Ey Z EE Z (Yv (f:=5) V)) ?_;refine D 2 Z ?_;obtain⟨bf,W,j⟩:=YU j;refine DS.v (x:=(.ptr 0 (toNat L*8))) (Qu W Z EF EM) ?_;refine DS.wo (x:=.ptr 0 (toNat L*8+5)) ?_ ?_
   .exact Fp QlY Z Wp
   refine DS.v (x:=(I bf.Chip)) (Ey Z EE Z (Yv (f:=5) W)) ?_;refine Eg Z (Go 3 Z (Cn Z j (λav j=>?_) (λav j=>?_)))
   .refine Gc 9 Z (Qv j ?_);obtain rfl:=Oj T j;refine Gx 1 Z (Qs (Gx 2 Z (Qv m ?_)));obtain rfl:=Oj R m;refine Gx 1 Z (Qs (Gx 1 Z ?_));obtain rfl:=Oi h;refine R2 4 5 Z Z ?_;refine Em (Eo (s:=4) (k:=8) (t:=46) (XP Z) Z) ?_;exact Lr [1]
   exact Gc 8 Z (Qf j (Lr [0]))
  subst ab;exact Gx 2 Z (Qb p (Gc 5 Z (Qf m (Lr [0]))))
 subst ab;refine Gx 1 Z (Qb p (Gc 8 Z ?_));obtain rfl:=Oi h;exact R2 4 5 Z Z (Lr [0])
def F_kt(n:Nat)(k:List Int)(a:(List Starter)×Int)(e:Int)(d:Int):Option (Ctl Int (Ctl Unit Bool)):=(bif decide (d<(a.1.length:Int))then((idx a.1 d).bind λf=>(F_cb n k f.Bib).bind λg=>(bif g then(idx a.1 d).bind λh=>(idx a.1 e).bind λi=>some (h.Distance==i.Distance)else some false):Option Bool).bind λj=>(bif j then some (.done (.done true))else some (.cont (i64.wrap (d+1))))else some (.done (.cont ())))
def F_dn(n:Nat)(k:Course)(g:List Fact)(a:Protest):Option Bool:=(F_cc n g a.Case).bind λl=>(bif (!l)then some false else(F_ev n g a.Case).bind λh=>((bif (a.By==0)then some true else(F_cb n h a.By).bind λm=>some m):Option Bool).bind λp=>(bif p then some true else(F_ds n k g).bind λd=>(F_bx n d.1 a.By).bind λf=>((bif (d.2 != 0)then some true else some (decide (f<0))):Option Bool).bind λi=>(bif i then some false else(iter (F_kt n h d f) n 0:Option (Ctl Unit Bool)).bind λj=>match j with|.cont e=>(some false)|.done e=>some e)))
theorem k_dn(n:Nat)(J:Course)(L:List Fact)(M:Protest):Ks (F_dn n J L M) 11 [.agg (Course.c J),.rsl 57 (map Fact.c L),.agg (Protest.c M)] [] (λr=>.bool r):=by
 refine Kg 13 func11 Z Z Z Z λr h=>Cz [] h (k_cc _ _ _) Z λr1 ac h=>Go 3 Z (Cn Z h (λN h=>?_) (λN h=>?_))
 .exact Gc 7 Z (Rt h 6 [])
 refine Gc 7 Z (Cd [] h (k_ev _ _ _) Z λr3 ae h=>FE Z (Go 5 Z (Bd h λu j h=>?_)));refine Ct u [0,1,2] [1,3,5,7] (λu=>[(29,.bool u)]) Ze Zf ?_ (λenv H e=>?_)
 .refine G0 5 Z (Is 24 j Z (λO j=>?_) (λO j=>?_))
  .exact Go 6 Z (Cl j [0,1,2])
  .exact Go 3 Z (Cb j (k_cb _ _ _) Z (lo (ls ln)) λr9 af j=>Go 2 Z (Cl j [0,1,2]))
 refine Gx 1 Z (Qb e (Cn Z h (λw h=>?_) (λw h=>?_)))
 .exact Gc 7 Z (Rt h 6 [])
 refine Gc 6 Z (Cd [] h (k_ds _ _ _) Z λag Y h=>FE Z (Go 12 Z (Cb h (k_bx _ _ _) Z (lo (ls ln)) λt aa h=>Go 5 Z (Bd h λk i h=>?_))));refine Ct k [2,3] [7,8,10] (λk=>[(45,.bool k)]) Ze Zf ?_ (λenv H e=>?_)
 .refine G0 4 Z (Is 42 i Z (λy i=>?_) (λy i=>?_))
  iterate 2 exact Go 4 Z (Cl i [2,3])
 refine Gx 1 Z (Qb e (Cn Z h (λz h=>?_) (λz h=>?_)))
 .exact Gc 7 Z (Rt h 6 [])
 refine Gc 8 Z (Bd h λP Q h=>?_);refine Jw (b:=P) [] [] Ze Ze Zf ?_ (λab env H R e=>?_)
 .refine G0 1 Z ?_;refine Lp [0,1] [7,8,10] (λg=>[(11,I g)]) Ze Q Zf (Lr [0,1]) λg ah a l=>?_;refine G0 9 Z (Yh Z a (λB a=>?_) (λB a=>?_))
  .refine Gc 2 Z (Qh a ?_);obtain rfl:=Oj l a;exact Gx 1 Z (Qq Z (Lr []))
  refine Gc 5 Z (Bd a λm d a=>?_);refine Ct m [0,1] [7,8,10,11] (λm=>[(71,.bool m)]) Ze Zf ?_ (λenv H e=>?_)
  .refine G0 0 Z (DSs 18 Z (D 3 Z ?_));obtain⟨T,p,d⟩:=YU d;refine DS.v (x:=(.ptr 1 (toNat g*8))) (Qu p Z EF EM) ?_;refine DS.wo (x:=.ptr 1 (toNat g*8)) ?_ ?_
   .exact Fp Ql0 Z Wp
   refine DS.v (x:=(I T.Bib)) (Ey Z EE Z (Qn p)) ?_;obtain⟨V,E,d⟩:=YU d;refine DS.wo (x:=.bool V) ?_ ?_
   .refine QdH (OpC.fn call30 rfl rfl rfl) (Qbu.cons rfl (.inr ⟨_,_,_,_,_,rfl,rfl,XZ ..,rfl⟩) (Qbu.cons rfl (.inl ⟨rfl,rfl⟩) Qbu.nil)) (k_cb _ _ _ _ E) (by rintro _ _ ⟨rfl,rfl⟩;rfl) ?_;rintro _ _ ⟨rfl,rfl⟩;exact FE Z Wp
   refine D 1 Z (QbS 7 d Z Z Z (λF d=>?_) (λF d=>?_))
   .refine D 2 Z ?_;obtain⟨W,q,d⟩:=YU d;refine DS.v (x:=(.ptr 1 (toNat g*8))) (Qu q Z EF EM) ?_ (hg:=(gT Z));refine DS.wo (x:=.ptr 1 (toNat g*8+1)) ?_ ?_
    .exact Fpg (gT Z) QlZ Z Wp
    refine DS.v (x:=(I W.Distance)) (Ey Z EE Z (Yv (f:=1) q)) ?_ (hg:=(gT Z));refine D 2 Z ?_;obtain⟨X,s,d⟩:=YU d;refine DS.v (x:=(.ptr 1 (toNat t*8))) (Qu s Z EF EM) ?_ (hg:=(gT Z));refine DS.wo (x:=.ptr 1 (toNat t*8+1)) ?_ ?_
    .exact Fpg (gT Z) QlZ Z Wp
    refine DS.v (x:=(I X.Distance)) (Ey Z EE Z (Yv (f:=1) s)) ?_ (hg:=(gT Z));exact Eg Z (Go 3 Z (Cl d [0,1]))
   .exact D 10 Z (Eg Z (Go 3 Z (Cl d [0,1])))
  refine Gx 1 Z (Qb e (Cn Z a (λG a=>?_) (λG a=>?_)))
  .refine Gc 8 Z (Qv a ?_);obtain rfl:=Oj l a;exact Gx 1 Z (Qs (Gx 1 Z (Rt h 6 [])))
  exact Gc 8 Z (Qf a (Lr [0,1]))
 subst R;exact Gx 1 Z (Qb e (Gc 6 Z (Rt h 6 [])))
def F_ku(n:Nat)(e:Course)(f:List Fact)(g:Protest)(j:Int)(d:Int):Option (Ctl Int (Ctl Unit Bool)):=(bif decide (d<(([j,1,2,g.Case].length):Int))then(idx [j,1,2,g.Case] d).bind λa=>(F_ah n e f a).bind λh=>(F_cg n e f a).bind λi=>((bif (h.1 != i.1)then some true else(bif (h.2 != i.2)then some true else(F_x n e f ({g with Case:=a:Protest})).bind λk=>(F_dn n e f ({g with Case:=a:Protest})).bind λl=>some (k != l))):Option Bool).bind λm=>(bif m then some (.done (.done false))else some (.cont (i64.wrap (d+1))))else some (.done (.cont ())))
def F_fn(n:Nat)(e:Course)(d:List Fact)(g:Protest)(h:Int):Option Bool:=(F_ek 300).bind λi=>(bif (!i)then some false else((F_az n e).bind λj=>(bif (!j)then some true else(F_it n d 12).bind λl=>some (!(decide ((d.length:Int)<=12)))):Option Bool).bind λk=>(bif k then some true else(iter (F_ku n e d g h) n 0:Option (Ctl Unit Bool)).bind λf=>match f with|.cont a=>(some true)|.done a=>some a))
theorem k_fn(n:Nat)(y:Course)(z:List Fact)(l:Protest)(m:Int):Ks (F_fn n y z l m) 3 [.agg (Course.c y),.rsl 57 (map Fact.c z),.agg (Protest.c l),I m] [] (λr=>.bool r):=by
 refine Kg 10 func3 Z Z Z Z λr h=>Cz [] h (k_ek _) Z λr1 Y h=>Go 3 Z (Cn Z h (λB h=>?_) (λB h=>?_))
 .exact Gc 7 Z (Rt h 8 [])
 refine Gc 4 Z (Bd h λp e h=>?_);refine Ct p [0,1] [1,3,4,6] (λp=>[(25,.bool p)]) Ze Zf ?_ (λenv H f=>?_)
 .refine G0 2 Z (Cz [] e (k_az _ _) Z λr8 aa e=>Go 2 Z (Is 21 e Z (λE e=>?_) (λE e=>?_)))
  .exact Go 5 Z (Cl e [0,1])
  .exact Go 1 Z (Cz [] e (k_it _ _ _) Z λab Q e=>Go 3 Z (Cl e [0,1]))
 refine Gx 1 Z (Qb f (Cn Z h (λq h=>?_) (λq h=>?_)))
 .exact Gc 7 Z (Rt h 8 [])
 refine Gc 8 Z ?_;refine vH (Ej (xs:=[.tmp 26,.const (.int .i64 1),.const (.int .i64 2),.tmp 28]) (es:=map (Qe .i64) [m,1,2,l.Case]) QA Z Z Z Z Z ⟨Z,Z,Z,Z,trivial⟩ Z Z) ?_;refine FE Z (Go 4 Z (Bd h λF G h=>?_));refine Jw (b:=F) [] [] Ze Ze Zf ?_ (λR env H J f=>?_)
 .refine G0 1 Z ?_;refine Lp [0,1,2] [1,4,6,29,30] (λg=>[(31,I g)]) Ze G Zf (Lr [0,1,2]) λg ac a i=>?_;refine G0 6 Z (Yh Z a (λs a=>?_) (λs a=>?_))
  .refine Gc 2 Z (Qh a ?_);obtain rfl:=Oj i a;exact Gx 1 Z (Qq Z (Lr []))
  refine Gc 6 Z (Bd a λL j a=>?_);refine vX (.ptr 2 (toNat g*1)) (Qu j Z EC EG) ?_;refine vX (I L) (Ey Z EE Z (Qn j)) ?_;refine Go 8 Z (Cd [] a (k_ah _ _ _ _) Z λM T a=>FE Z (Go 12 Z (Cd [] a (k_cg _ _ _ _) Z λN V a=>FE Z (Go 22 Z (Bd a λk d a=>?_)))));refine Ct k [0,1,2] [1,4,6,29,30,31] (λk=>[(70,.bool k)]) Ze Zf ?_ (λenv H f=>?_)
  .refine G0 0 Z (DSs 16 Z (D 4 Z (QbS 3 d Z Z Z (λt d=>?_) (λt d=>?_))))
   .exact D 12 Z (Eg Z (Go 4 Z (Cl d [0,1,2])))
   .refine D 2 Z ?_;refine DS.v (x:=(.bool (M.2 != N.2))) (QbN Gu) ?_ (hg:=(gT Z));refine D 2 Z (QbS 8 d Z Z Z (λu d=>?_) (λu d=>?_))
    .exact D 7 Z (Eg Z (Go 4 Z (Cl d [0,1,2])))
    .refine D 3 Z ?_;refine Dz [] d (k_x _ _ _ _) Z λO W d=>D 3 Z (Eg Z (Cz [] d (k_dn _ _ _ _) Z λP X d=>?_));refine vX (.bool (O != P)) (QbN Gu) ?_ (gT Z);exact Go 2 Z (Cl d [0,1,2])
  refine Gx 1 Z (Qb f (Cn Z a (λw a=>?_) (λw a=>?_)))
  .refine Gc 8 Z (Qv a ?_);obtain rfl:=Oj i a;exact Gx 1 Z (Qs (Gx 1 Z (Rt h 8 [])))
  exact Gc 7 Z (Qf a (Lr [0,1,2]))
 subst J;exact Gx 1 Z (Qb f (Gc 6 Z (Rt h 8 [])))
end Go.Sw
