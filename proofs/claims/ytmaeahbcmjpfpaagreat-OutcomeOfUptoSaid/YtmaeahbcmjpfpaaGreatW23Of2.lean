/- What the functions compute that OutcomeOf reaches, and that their calls refine it (part 2 of 7). -/
import Derived.Test.YtmaeahbcmjpfpaaGreatW23Of1
set_option linter.unusedVariables false
set_option linter.unusedSimpArgs false
set_option maxRecDepth 100000
set_option maxHeartbeats 4000000
namespace Go.Sw
open Option renaming some→AC,none→AF,bind→AH
open Bool renaming false→AD,true→AE
open Decidable renaming decide→AG
open List renaming length→AI
variable (n:Nat)
open List(map)
open Int(toNat)
open Go.IntKind(i64 u64 u8)
open Go.Proofs Tryz
def M0(d:AA Int):AB Bool:=AH (Wl n d) λf=>AC (AG (0<=f))
instance j?(d:AA Int):Kb (M0 n d) 118 [.q 1 (map eI d),.f 119]:=KB func118
def PB(g:CG)(f:Int):AB (CJ Int (CJ Unit Int)):=(bif f<(AI g.AQ:Int) then AH (CN g.AQ f) λd=>AH ((bif d.Af<0 then AC AE else(bif 40<=d.Af then AC AE else(bif d.Ad<0 then AC AE else(bif 255<d.Ad then AC AE else AH (IK n d.A4) λh=>(bif (!h)then AC AE else(bif 0<f then AH (CN g.AQ (i64.wrap (f-1))) λj=>AH (M4 n j d) λm=>AC (AG (0<=m))else AC AD)))))):AB Bool) λq=>(bif q then AC (.d (.d 160))else AC (.k (i64.wrap (f+1))))else AC (.d (.k ())))
def Oe(g:CG)(d:Int):AB (CJ Int (CJ Unit Int)):=(bif d<(AI g.BE:Int) then AH (CN g.BE d) λf=>AH ((bif ((AI f:Int) != (i64.wrap ((AI g.AQ:Int)+1)))then AC AE else AH (CN f d) λh=>(bif (h != 0)then AC AE else AH (M0 n f) λj=>AC j)):AB Bool) λm=>(bif m then AC (.d (.d 160))else AC (.k (i64.wrap (d+1))))else AC (.d (.k ())))
def WT(n:Nat)(t:CG)(g:Int)(h:Int)(f:AA Int)(d:Int):AB (CJ Int (CJ Unit (CJ Int (CJ Unit (CJ Int (CJ Unit Int)))))):=(bif d<(AI f:Int) then AH (CN f d) λj=>AH (CN t.BE g) λm=>AH (CN m d) λq=>(bif (i64.wrap (h+j))<q then AC (.d (.d (.d (.d (.d (.d 160))))))else AC (.k (i64.wrap (d+1))))else AC (.d (.k ())))
def U0(t:CG)(h:Int)(g:AA Int)(d:Int):AB (CJ Int (CJ Unit (CJ Int (CJ Unit Int)))):=(bif d<(AI g:Int) then AH (CN g d) λj=>AH (CN t.BE d) λm=>AH (iter (WT n t h j m) n 0:AB (CJ Unit (CJ Int (CJ Unit (CJ Int (CJ Unit Int)))))) λq=>match q with|.k f=>(AC (.k (i64.wrap (d+1))))|.d f=>AC f else AC (.d (.k ())))
def Of(g:CG)(d:Int):AB (CJ Int (CJ Unit Int)):=(bif d<(i64.wrap ((AI g.AQ:Int)+1)) then AH (CN g.BE d) λh=>AH (iter (U0 n g d h) n 0:AB (CJ Unit (CJ Int (CJ Unit Int)))) λj=>match j with|.k f=>(AC (.k (i64.wrap (d+1))))|.d f=>AC f else AC (.d (.k ())))
def J_(g:CG):AB Int:=AH ((bif 511<(AI g.AQ:Int) then AC AE else AC ((AI g.BE:Int) != (i64.wrap ((AI g.AQ:Int)+1)))):AB Bool) λt=>(bif t then AC 160 else AH (iter (PB n g) n 0:AB (CJ Unit Int)) λq=>match q with|.k h=>(AH (iter (Oe n g) n 0:AB (CJ Unit Int)) λj=>match j with|.k d=>(AH (iter (Of n g) n 0:AB (CJ Unit Int)) λm=>match m with|.k f=>(AC 0)|.d f=>AC f)|.d d=>AC d)|.d h=>AC h)
instance AAB(q:CG):Ki (J_ n q) 51 [.a (CG.c q)]:=by
 exact Kg 0 func51 Z Z Z Z λr h=>by
  have:=hn 20100 [0] [1,3] (λ(y:Bool)=>[(25,.b y)]) Ze;have:=hn 50502 [0] [1,3] (λ(_:Unit)=>[]) Ze;have:=hl 50502 [0] [1,3,27,28] (λ(t:Int)=>[(29,I t)]) Ze;have:=hn 70100 [0] [1,3,27,28,29] (λ(x:Bool)=>[(72,.b x)]) Ze;have:=hn 110502 [0] [1,3] (λ(_:Unit)=>[]) Ze;have:=hl 110502 [0] [1,3,75,76] (λ(d:Int)=>[(77,I d)]) Ze;have:=hn 130100 [0] [1,3,75,76,77] (λ(f:Bool)=>[(97,.b f)]) Ze;have:=hn 171304 [] [] (λ(_:Unit)=>[]) Ze;have:=hl 171304 [0] [1,100] (λ(g:Int)=>[(101,I g)]) Ze;have:=hn 200903 [0] [1,100,101] (λ(_:Unit)=>[]) Ze;have:=hl 200903 [0] [1,8,100,101,108,109] (λ(j:Int)=>[(110,I j)]) Ze;have:=hn 230502 [0] [1,8,100,101,108,109,110] (λ(_:Unit)=>[]) Ze;have:=hl 230502 [0] [1,8,10,100,101,108,109,110,119,120] (λ(m:Int)=>[(121,I m)]) Ze;exact bu h
def My(n:Nat)(d:Int):AB Bool:=AH ((bif (-1099511627776)<=d then AC (AG (d<=1099511627776))else AC AD):AB Bool) λf=>AC f
instance h?(d:Int):Kb (My n d) 86 [I d]:=KB func86
def Ml(d:AY):AB Bool:=AH ((bif d.Hi<d.Lo then AC AE else AH (My n d.Lo) λg=>(bif (!g)then AC AE else AH (My n d.Hi) λf=>(bif (!f)then AC AE else AC (AG (d.AS<0))))):AB Bool) λh=>AC h
instance U?(d:AY):Kb (Ml n d) 85 [.a (AY.c d)]:=KB func85
def pw(f:AA AY)(d:Int):AB (CJ Int (CJ Unit Int)):=(bif d<(AI f:Int) then AH (CN f d) λg=>AH (Ml n g) λh=>(bif h then AC (.d (.d d))else AC (.k (i64.wrap (d+1))))else AC (.d (.k ())))
def gu(g:AA AY):AB Int:=AH (iter (pw n g) n 0:AB (CJ Unit Int)) λf=>match f with|.k d=>(AC (-1))|.d d=>AC d
instance yf(d:AA AY):Ki (gu n d) 162 [.q 4 (map AY.c d),.f 85]:=KB func162
def gD(d:AA AY):AB Bool:=AH (gu n d) λf=>AC (AG (0<=f))
instance x9(d:AA AY):Kb (gD n d) 87 [.q 4 (map AY.c d),.f 85]:=KB func87
def LQ(d:CE)(f:Int):AB (AN×Int):=AH (GA n d) λg=>(bif (g != 0)then AC (Us,g)else AH ((bif f<0 then AC AE else AC (AG ((AI d.AO:Int)<=f))):AB Bool) λh=>(bif h then AC (Us,90)else AH (CN d.AO f) λj=>AC (j,0)))
instance z?(d:CE)(f:Int):Kq (LQ n d f) 280 [.a (CE.c d),I f] [] (λr=>.t [.a (AN.c r.1),I r.2]) (λr=>[.c 169 (AN.c r.1)]):=KB func280
def MX(n:Nat)(rec142:(AA CM)->(AA Int)->AB (AA Int))(f:CM)(d:(AA Int)×Int):AB (CJ ((AA Int)×Int) (AA Int)):=(bif d.2<f.Aj then AH (rec142 f.Aa d.1) λg=>AC (.k (g,i64.wrap (d.2+1)))else AC (.d d.1))
def PE(g:AA CM)(rec142:(AA CM)->(AA Int)->AB (AA Int))(d:(AA Int)×Int):AB (CJ ((AA Int)×Int) (AA Int)):=(bif d.2<(AI g:Int) then AH (CN g d.2) λf=>AH ((bif (f.Aj==0)then AH (app d.1 [f.Af]) λh=>AC h else AC d.1):AB (AA Int)) λj=>AH (iter (MX n rec142 f) n (j,0):AB (AA Int)) λm=>AC (.k (m,i64.wrap (d.2+1)))else AC (.d d.1))
def j4(rec142:(AA CM)->(AA Int)->AB (AA Int))(n:Nat)(f:AA CM)(g:AA Int):AB (AA Int):=AH (iter (PE n f rec142) n (g,0):AB (AA Int)) λd=>AC d
theorem Qbs(rec142:(AA CM)->(AA Int)->AB (AA Int))(F:∀(t:AA CM) (g:AA Int),Kq (rec142 t g) 327 [.q 3 (map CM.enc t),.p 0 0,.p 1 0] [.c 54 [.o 2 (AI g) 1],.c 438 [.fn (.func 327) [] [.p 0 0,.p 1 0]],.r 3 1 (map eI g)] (λ_=>.t []) (λr=>[.c 54 [.o 3 (AI r) 1],.c 438 [.fn (.func 327) [] [.p 0 0,.p 1 0]],.dead,.r 3 1 (map eI r)]))(n:Nat)(t:AA CM)(g:AA Int):Kq (j4 rec142 n t g) 327 [.q 3 (map CM.enc t),.p 0 0,.p 1 0] [.c 54 [.o 2 (AI g) 1],.c 438 [.fn (.func 327) [] [.p 0 0,.p 1 0]],.r 3 1 (map eI g)] (λ_=>.t []) (λr=>[.c 54 [.o 3 (AI r) 1],.c 438 [.fn (.func 327) [] [.p 0 0,.p 1 0]],.dead,.r 3 1 (map eI r)]):=by
 have:=hn 10903 [0,1,2,0] [] (λ(_:AA Int)=>[]) (λf=>[(0,.c [(0,.o 3 (AI f) 1)]),(2,.w (.dead)),(3,.w (.r 3 1 (map eI f)))]);have:=hl 10903 [0,1,2,2] [1,2,6,7] (λ(d:(AA Int)×Int)=>[(8,I d.2)]) (λd=>[(0,.c [(0,.o 3 (AI d.1) 1)]),(2,.w (.dead)),(3,.w (.r 3 1 (map eI d.1)))]);have:=hn 40101 [0,1,2,0,4] [1,2,5,6,7,8] (λ(_:AA Int)=>[]) (λy=>[(0,.c [(0,.o 3 (AI y) 1)]),(3,.w (.r 3 1 (map eI y)))]);have:=hn 60301 [0,1,2,3] [1,2,6,7,8] (λ(_:AA Int)=>[]) (λB=>[(0,.c [(0,.o 3 (AI B) 1)]),(3,.w (.r 3 1 (map eI B)))]);have:=hl 60301 [0,1,2,3,4] [1,2,5,6,7,8,21] (λ(q:(AA Int)×Int)=>[(22,I q.2)]) (λq=>[(0,.c [(0,.o 3 (AI q.1) 1)]),(3,.w (.r 3 1 (map eI q.1)))]);refine Kg 3 func327 Z Z Z Z λr h=>Lg 3 Z Z (Bd h λf G h=>Ct f [0,1,2,0] [] Ze (λf=>[(0,.c 54 [.o 3 (AI f) 1]),(2,.dead),(3,.r 3 1 (map eI f))]) Zf ?_ (λenv H x=>?_))
 .refine G0 1 Z (Lp [0,1,2,2] [1,2,6,7] (λd=>[(8,I d.2)]) (λd=>[(0,.c 54 [.o 3 (AI d.1) 1]),(2,.dead),(3,.r 3 1 (map eI d.1))]) G Zf ?_ ?_)
  .refine En (aQ (i:=2) (j:=0) (m:=0) Z Z Z Z Z) ?_;exact Lr [0,1,2,3]
  intro d L J E;exact FS E J
 obtain rfl:=Oi h;have x:=x;refine⟨[],_,_,?_,IA.nil Z,Z,Z⟩;refine En x ?_;exact Lr [0,1,2,3]
def Sr:Nat->(AA CM)->(AA Int)->AB (AA Int)
  |0=>λ_ _=>AF
  |n+1=>j4 (Sr n) n
instance k_v:∀(f:AA CM) (d:AA Int),Kq (Sr n f d) 327 [.q 3 (map CM.enc f),.p 0 0,.p 1 0] [.c 54 [.o 2 (AI d) 1],.c 438 [.fn (.func 327) [] [.p 0 0,.p 1 0]],.r 3 1 (map eI d)] (λ_=>.t []) (λr=>[.c 54 [.o 3 (AI r) 1],.c 438 [.fn (.func 327) [] [.p 0 0,.p 1 0]],.dead,.r 3 1 (map eI r)]):=by
  induction n with
  |zero=>exact λ_ _=>⟨nofun⟩
  |succ n ih=>exact Qbs _ ih n
def Pw(d:AA CM):AB (AA Int):=AH (Sr n d ([]:AA Int)) λf=>AC f
instance _W(d:AA CM):Kq (Pw n d) 281 [.q 3 (map CM.enc d)] [] (λr=>.o 0 (AI r) 1) (λr=>[.r 3 1 (map eI r),.c 54 [.o 0 (AI r) 1]]):=by
 refine Kg 20 func281 Z Z Z Z λr h=>(Er (QS (i:=0) (m:=0) (t:=3) (k:=1) Z Z Z) ?_);exact bu h
def gI(n:Nat)(d:Int)(f:Int):AB Unit:=AC ()
instance yC(d:Int)(f:Int):Ks (gI n d f) 169 [.i .u64 d,.i .u64 f] [] (λ_=>.t [.i .u64 (u64.wrap ((u64.wrap ((u64.wrap ((YX .u64 d 32)*(YX .u64 f 32)))+(YX .u64 (u64.wrap ((u64.wrap ((YX .u64 d 32)*(Je .u64 f 4294967295)))+(YX .u64 (u64.wrap ((Je .u64 d 4294967295)*(Je .u64 f 4294967295))) 32))) 32)))+(YX .u64 (u64.wrap ((Je .u64 (u64.wrap ((u64.wrap ((YX .u64 d 32)*(Je .u64 f 4294967295)))+(YX .u64 (u64.wrap ((Je .u64 d 4294967295)*(Je .u64 f 4294967295))) 32))) 4294967295)+(u64.wrap ((Je .u64 d 4294967295)*(YX .u64 f 32))))) 32))),.i .u64 (u64.wrap (d*f))]):=by
 refine Kg 9 func169 Z Z Z Z λr h=>(vV (CY.and Z Z Z) ?_);refine Go 6 Z (vV (CY.shr Z Z Z (by decide)) ?_);refine Go 6 Z (vV (CY.and Z Z Z) ?_);refine Go 6 Z (vV (CY.shr Z Z Z (by decide)) ?_);refine Go 17 Z ?_;refine vV (CY.shr Z Z Z (by decide)) (Go 7 Z ?_);refine vV (CY.and Z Z Z) (Go 6 Z ?_);refine vV (CY.shr Z Z Z (by decide)) (Go 21 Z ?_);refine vV (CY.shr Z Z Z (by decide)) (Go 13 Z ?_);exact R2 4 5 Z Z (Lr [])
def gW(d:Int)(f:Int):AB Unit:=AH (gI n d f) λg=>AC ()
instance yO(d:Int)(f:Int):Ks (gW n d f) 98 [.i .u64 d,.i .u64 f] [] (λ_=>.t [.i .u64 (u64.wrap ((u64.wrap ((u64.wrap ((YX .u64 d 32)*(YX .u64 f 32)))+(YX .u64 (u64.wrap ((u64.wrap ((YX .u64 d 32)*(Je .u64 f 4294967295)))+(YX .u64 (u64.wrap ((Je .u64 d 4294967295)*(Je .u64 f 4294967295))) 32))) 32)))+(YX .u64 (u64.wrap ((Je .u64 (u64.wrap ((u64.wrap ((YX .u64 d 32)*(Je .u64 f 4294967295)))+(YX .u64 (u64.wrap ((Je .u64 d 4294967295)*(Je .u64 f 4294967295))) 32))) 4294967295)+(u64.wrap ((Je .u64 d 4294967295)*(YX .u64 f 32))))) 32))),.i .u64 (u64.wrap (d*f))]):=by
 refine Kg 14 func98 Z Z Z Z λr h=>Cd [] h Kc Z λj g h=>Fg 16 Z Z ?_;exact R2 4 5 Z Z (Lr [])
def O'(n:Nat)(d:(AA Int)×Int):AB (CJ ((AA Int)×Int) (AA Int)):=(bif d.2<(AI d.1:Int) then AH (Do d.1 d.2 (AI d.1:Int)) λh=>AH (Do d.1 0 d.2) λf=>AH (SI d.1 d.2 (AI d.1:Int) f) λg=>AC (.k (g,i64.wrap (d.2+((min (AI f) ((AI d.1:Int).toNat-d.2.toNat):Nat):Int))))else AC (.d d.1))
def LT(d:AA Int)(f:Int):AB (AA Int):=AH ((bif f<0 then AF else AC ()):AB Unit) λt=>AH (gW n (u64.wrap (AI d:Int)) (u64.wrap f)) λx=>AH ((bif 0<(u64.wrap ((u64.wrap ((u64.wrap ((YX .u64 (u64.wrap (AI d:Int)) 32)*(YX .u64 (u64.wrap f) 32)))+(YX .u64 (u64.wrap ((u64.wrap ((YX .u64 (u64.wrap (AI d:Int)) 32)*(Je .u64 (u64.wrap f) 4294967295)))+(YX .u64 (u64.wrap ((Je .u64 (u64.wrap (AI d:Int)) 4294967295)*(Je .u64 (u64.wrap f) 4294967295))) 32))) 32)))+(YX .u64 (u64.wrap ((Je .u64 (u64.wrap ((u64.wrap ((YX .u64 (u64.wrap (AI d:Int)) 32)*(Je .u64 (u64.wrap f) 4294967295)))+(YX .u64 (u64.wrap ((Je .u64 (u64.wrap (AI d:Int)) 4294967295)*(Je .u64 (u64.wrap f) 4294967295))) 32))) 4294967295)+(u64.wrap ((Je .u64 (u64.wrap (AI d:Int)) 4294967295)*(YX .u64 (u64.wrap f) 32))))) 32))) then AC AE else AC (AG (9223372036854775807<(u64.wrap ((u64.wrap (AI d:Int))*(u64.wrap f)))))):AB Bool) λm=>AH ((bif m then AF else AC ()):AB Unit) λq=>AH (mk (i64.wrap (u64.wrap ((u64.wrap (AI d:Int))*(u64.wrap f)))) 0) λg=>AH (SI g 0 (AI g:Int) d) λh=>AH (iter (O' n) n (h,((min (AI d) (AI g):Nat):Int)):AB (AA Int)) λj=>AC j
instance lW(N:AA Int)(O:Int):Kr (LT n N O) 28 [.q 1 (map eI N),I O] 3 1 eI:=by
 refine Kg 12 func28 Z Z Z Z λr h=>Bd h λW t h=>Ct W [] [0,1] Ze Ze Zf ?_ (λenv H g=>?_)
 .refine G0 0 Z (Cn Z t (λ_ t=>?_) (λ_ t=>?_))
  .cases t
  exact xY 1 Z t []
 refine Gx 1 Z (Ee g (Gc 3 Z (Lm Z ?_)));refine vV (Sj Z EL Gd Z) ?_;refine Go 1 Z ?_;refine vV (Sj Z EL Gd Z) ?_;refine Cd [] h Kc Z λr5 Y h=>Fg 9 Z Z (Bd h λF X h=>Ct F [] [0,6] (λF=>[(26,.b F)]) Ze Zf ?_ (λenv H g=>?_))
 .exact bu X
 refine Gx 1 Z (Ee g (Bd h λQ j h=>Ct Q [] [0,6] Ze Ze Zf ?_ (λenv H g=>?_)))
 .refine G0 0 Z (Cn Z j (λ_ j=>?_) (λ_ j=>?_))
  .cases j
  exact bu j
 refine Gx 1 Z (Ee g (Gc 3 Z ?_));refine vV (Sj Z Gd EL Z) ?_;refine Bd h λaa J h=>vH (nh (e:=eI) (zv:=0) (a:=(I 0)) J J0 EH Eo Z Z Z Z) ?_;refine Fg 7 Z Z (Bd h λab y h=>vH (QmU (e:=eI) y EA EB QqH) ?_);refine FE Z ?_;refine Er (Q3 (s:=7) Z (congrArg (λn=>A.s 0 0 n 1) (QoI y))) ?_;refine Go 4 Z (Bd h λm R h=>Cg m [0] [] (λm=>[(7,.o 0 (AI m) 1)]) (λm=>[(0,.r 3 1 (map eI m))]) Zf ?_ ?_)
 .refine G0 1 Z (Lp [0] [] (λd=>[(7,.o 0 (AI d.1) 1),(8,I d.2)]) (λd=>[(0,.r 3 1 (map eI d.1))]) R Zf (Lr [0]) λd ac f L=>?_);refine G0 9 Z (Dm Z f (λ_ f=>?_) (λ_ f=>?_))
  .exact Gc 2 Z (Jf f (Gx 1 Z (NT L f (Lr [0]))))
  refine Gc 3 Z (Iu 8 [7] [(0,0,1),(0,0,0),(0,0,0),(0,0,0),(0,0,0),(0,0,0),(0,0,0),(1,0,0)] (by kernel_rfl) (Dk 3 Z ?_));obtain⟨ad,q,f⟩:=Yf f;refine DK.wo (x:=.s 0 (0+toNat d.2) (toNat (AI d.1:Int)-toNat d.2) 1) ?_ ?_
  .refine vV (jg (l:=d.1) q EA EB (.inr ⟨_,Z,Z⟩) (.inl ⟨Z,Z⟩)) ?_;exact Wp
  refine Dk 2 Z ?_;obtain⟨T,B,f⟩:=Yf f;refine DK.wo (x:=.s 0 (0+toNat 0) (toNat d.2-toNat 0) 1) ?_ ?_
  .refine vV (jg (l:=d.1) B EA EB (.inl ⟨Z,Z⟩) (.inr ⟨_,Z,Z⟩)) ?_;exact Wp
  obtain⟨V,E,f⟩:=Yf f;refine Ew (x:=I ((min (AI T) ((AI d.1:Int).toNat-d.2.toNat):Nat):Int)) (X1:=[.r 3 1 (map eI V)]) ?_ ?_
  .refine vH (QmV (e:=eI) q E EA EB (QqI (b:=0) B)) ?_;exact FE Z Wp
  refine DK.done Z Z ?_;refine Er (Q3 (s:=7) Z (congrArg (λn=>A.s 0 0 n 1) (Qqx q E))) ?_;exact bu f
 exact bu h
def HE(d:CE)(f:Int)(g:Int):Ch->Go.Sw.A->Qb->Prop
  |.c0 x,a,H=>a=.t [.a [.q 1 (map eI []),.nilm],I x]/\H=[.c 303 [.q 1 (map eI []),.nilm]]
  |.c1 x,a,H=>a=.t [.a [.q 1 (map eI []),.nilm],I 90]/\H=[.c 303 [.q 1 (map eI []),.nilm]]
  |.c2 x,a,H=>a=.t [.a [.o 0 (AI x) 1,.nilm],I 2]/\H=[.r 3 1 (map eI x),.c 303 [.o 0 (AI x) 1,.nilm]]
  |.c3 x,a,H=>a=.t [.a [.o 0 (AI x.1) 1,.map 1],I 0]/\H=[.r 3 1 (map eI x.1),.map (Qi (λx=>A.a (Ub.c x)) (λx=>A.a (C2.c x)) x.2),.c 303 [.o 0 (AI x.1) 1,.map 1]]
def MV(n:Nat)(j:AN×Int)(f:AA Int)(d:Int):AB (CJ Int Int):=AH ((bif 0<d then AH (CN f d) λg=>AC (g != j.1.Ae)else AC AD):AB Bool) λh=>(bif h then AC (.k (i64.wrap (d-1)))else AC (.d d))
def J7(n:Nat)(g:CE)(d:(AA (Ub×C2))×Int):AB (CJ ((AA (Ub×C2))×Int) (AA (Ub×C2))):=(bif d.2<(AI g.As:Int) then AH (CN g.As d.2) λf=>AH (AC (QE d.1 ({Be:=f.A5,to_:=f.To:Ub}) f)) λh=>AC (.k (h,i64.wrap (d.2+1)))else AC (.d d.1))
def It(h:CE)(y:Int)(g:Int):AB Ch:=AH (LQ n h y) λf=>(bif (f.2 != 0)then AC (Ch.c0 f.2)else AH ((bif g<0 then AC AE else(bif 0<g then AC (AG (f.1.Ae<0))else AC AD)):AB Bool) λB=>(bif B then AC (Ch.c1 ())else AH (Pw n f.1.Ab) λd=>(bif (i64.wrap (256-(AI d:Int)))<g then AC (Ch.c2 d)else AH ((bif 0<g then AH (iter (MV n f d) n (i64.wrap ((AI d:Int)-1)):AB Int) λj=>AH (LT n [f.1.Ae] g) λm=>AH (Zw d (i64.wrap (j+1)) m) λq=>AC q else AC d):AB (AA Int)) λt=>AH (iter (J7 n h) n ([],0):AB (AA (Ub×C2))) λx=>AC (Ch.c3 (t,x)))))
theorem c5(G:CE)(L:Int)(M:Int)(r:Ch)(h:It n G L M=AC r):C prog 163 [.a (CE.c G),I L,I M] [] (HE G L M r):=by
 have:=hn 40100 [0,1,3] [2,3,6,8] (λ(y:Bool)=>[(32,.b y)]) Ze;have:=hn 100402 [0,1,0] [3,6] (λ(_:AA Int)=>[]) (λf=>[(1,.c [(0,.o 2 (AI f) 1)]),(2,.w (.r 3 1 (map eI f)))]);have:=hl 110201 [0,1,3,2] [2,3,6,8] (λ(t:Int)=>[(9,I t)]) Ze;have:=hn 110100 [0,1,2,3] [2,3,6,8,9] (λ(V:Bool)=>[(62,.b V)]) Ze;have:=hk 13 9 [8] [(0,0,1),(0,0,1),(0,0,1),(0,0,1),(0,0,0),(0,0,0),(0,0,0),(0,0,0),(1,0,0)];have:=hl 160401 [1,2,3] [6,79,80] (λ(g:(AA (Ub×C2))×Int)=>[(81,I g.2)]) (λg=>[(2,.w (.map (Qi (λx=>A.a (Ub.c x)) (λx=>A.a (C2.c x)) g.1)))]);refine jZ func163 Z Z Z ?_;refine G0 11 Z (Cd [] h Kc Z λJ ae h=>Fg 15 Z Z (Cn Z h (λ_ h=>?_) (λ_ h=>?_)))
 .refine Gc 10 Z ?_;obtain rfl:=Oi h;exact Rx [1] [6,7] Z (QF Z Z (C'.cons (QP isAgg303 Gs Z Z Z) (C'.cons FM.tmp C'.nil))) ⟨Z,Z⟩
 refine Gc 4 Z (Bd h λy h6 h=>Ct y [0,1,3] [2,3,6,8] (λy=>[(32,.b y)]) Ze Zf ?_ (λenv H q=>?_))
 .exact bu h6
 refine Gx 1 Z (Ee q (Cn Z h (λ_ h=>?_) (λ_ h=>?_)))
 .refine Gc 9 Z ?_;obtain rfl:=Oi h;exact Rx [1] [6,7] Z (QF Z Z (C'.cons (QP isAgg303 Gs Z Z Z) (C'.cons FM.tmp C'.nil))) ⟨Z,Z⟩
 refine Gc 6 Z (Cd [] h Kc Z λj ad h=>Fg 15 Z Z (Cn Z h (λ_ h=>?_) (λ_ h=>?_)))
 .refine Gc 9 Z ?_;obtain rfl:=Oi h;exact Rx [3,1] [6,7] Z (QF Z Z (C'.cons (QP isAgg303 Gs Z Z Z) (C'.cons FM.tmp C'.nil))) ⟨Z,Z⟩
 refine Gc 9 Z (Bd h λf d h=>Ct f [0,1,0] [3,6] Ze (λf=>[(1,.c 303 [.o 2 (AI f) 1,.nilm]),(2,.r 3 1 (map eI f))]) Zf ?_ (λenv H q=>?_))
 .refine G0 0 Z (Cn Z d (λ_ d=>?_) (λ_ d=>?_))
  .refine Gc 10 Z (Bd d λB Y d=>Ct B [0,1,2,3] [2,3,6] (λB=>[(8,.p 3 0),(9,I B)]) (λ_=>[(1,.c 303 [.o 2 (AI j) 1,.nilm]),(2,.r 3 1 (map eI j)),(3,.c 169 (AN.c J.1))]) Zf ?_ (λenv H q=>?_))
   .refine G0 1 Z (Lp [0,1,3,2] [2,3,6,8] (λt=>[(9,I t)]) (λ_=>[(1,.c 303 [.o 2 (AI j) 1,.nilm])]) Y Zf (Lr [0,1,3,2]) λt af aa P=>?_);exact FS P aa
   refine Gx 1 Z (Ee q (Iu 9 [8] [(0,0,1),(0,0,1),(0,0,1),(0,0,1),(0,0,0),(0,0,0),(0,0,0),(0,0,0),(1,0,0)] (by kernel_rfl) (Dk 1 Z ?_)));refine Ll (lo:=0) (x:=.o 2 (AI j) 1) ⟨Z,trivial⟩ ?_;refine Dk 4 Z ?_;refine DK.wo (x:=.q 1 (map eI [J.1.Ae])) ?_ ?_
   .refine vH (YZ (xs:=[.tmp 70]) (es:=map eI [J.1.Ae]) J0 Z Z Z Z Z ⟨Z,trivial⟩ Z Z) ?_;exact FE Z Wp
   refine Dk 1 Z ?_;obtain⟨E,Q,d⟩:=Yf d;refine Ew (x:=.o 4 (AI E) 1) (X1:=[.c 33 (CE.c G),.c 303 [.o 2 (AI j) 1,.nilm],.r 3 1 (map eI j),.c 169 (AN.c J.1),.r 3 1 (map eI E)]) ?_ ?_
   .refine Qt [] (Dc.fn call28 Z Z Z) ((lW _ _ _).c _ Q) ?_;rintro _ _ ⟨rfl,rfl⟩;exact FE Z Wp
   refine DK.done Z Z (Bd d λag R d=>?_);refine Qt [2,4] (Dc.fn call282 Z Z Z) (Qm1 QeC (m:=E) R) ?_;rintro _ _ ⟨rfl,rfl⟩;exact bu d
  exact bu d
 refine Gx 1 Z (Ee q (Gc 2 Z (vH JB ?_)));refine Fg 9 Z Z (Lg 3 Z Z (Bd h λF ab h=>Cg F [0,1,2] [] (λ_=>[(6,.p 0 0)]) (λF=>[(0,.c 303 [.o 1 (AI f) 1,.map 2]),(1,.r 3 1 (map eI f)),(2,.map (Qi (λx=>A.a (Ub.c x)) (λx=>A.a (C2.c x)) F))]) Zf ?_ ?_))
 .refine G0 1 Z (Lp [1,2,3] [6,79,80] (λg=>[(81,I g.2)]) (λg=>[(0,.c 303 [.o 1 (AI f) 1,.map 2]),(2,.map (Qi (λx=>A.a (Ub.c x)) (λx=>A.a (C2.c x)) g.1))]) ab Zf (Lr [1,2,3]) λg ah ac T=>?_);exact FS T ac
 refine Gc 8 Z ?_;obtain rfl:=Oi h;exact Rx [1,2,0] [6,7] Z (QF Z Z (C'.cons (QP isAgg303 Gs Z Z Z) (C'.cons FM.tmp C'.nil))) ⟨Z,Z⟩
def KI(j:CE)(m:Int)(q:Int):AB ((AA Int)×Int):=AH (AH (It n j m q) λt=>(match t with|.c0 f=>(AC (f,[]))|.c1 x=>(AC (90,[]))|.c2 g=>(AC (2,g))|.c3 h=>(AC (0,h.1))):AB (Int×(AA Int))) λd=>(bif (d.1 != 0)then AC ([],d.1)else AC (d.2,0))
instance lY(q:CE)(t:Int)(x:Int):Ks (KI n q t x) 88 [.a (CE.c q),I t,I x] [] (λr=>.t [.q 1 (map eI r.1),I r.2]):=by
 refine Kg 8 func88 Z Z Z Z λr h=>Bd h λg f h=>Cg g [0] [] (λg=>[(7,I g.1),(8,.p 0 0)]) (λg=>[(0,.c 303 [.q 1 (map eI g.2),.any])]) Zf ?_ ?_
 .refine G0 4 Z (Bd f λB y f=>?_);refine Qt [] (Dc.fn call163 Z Z Z) (c5 _ _ _ _ _ y) ?_;intro ra rH d;rcases B with E|F|G|H
  .obtain⟨rfl,rfl⟩:=d;refine Fg 7 Z Z ?_;cases f;exact En (iz (i:=2) (m:=1) Z) (Lr [2])
  .obtain⟨rfl,rfl⟩:=d;refine Fg 7 Z Z ?_;cases f;refine En (iz (i:=2) (m:=1) Z) ?_;exact Lr [2]
  .obtain⟨rfl,rfl⟩:=d;refine Fg 7 Z Z ?_;cases f;refine En (Yz 1 [(9,_),(13,_),(14,_)]) ?_;exact En (iz (i:=3) (m:=1) Z) (Lr [3])
  .obtain⟨rfl,rfl⟩:=d;refine Go 7 Z ?_;cases f;refine En (Yz 1 [(9,_),(13,_),(14,_)]) ?_;refine En (iz (i:=4) (m:=1) Z) ?_;exact Lr [4]
 refine Gc 7 Z (Cn Z h (λ_ h=>?_) (λ_ h=>?_))
 .refine Gc 9 Z ?_;obtain rfl:=Oi h;refine R2 6 7 Z Z ?_;refine En (i6 (s:=6) (k:=1) Z) ?_;exact Lr []
 exact bu h
def KH(n:Nat)(d:Int):AB Bool:=AH ((bif (-1099511627776)<=d then AC (AG (d<=1099511627776))else AC AD):AB Bool) λf=>AC f
instance AAI(d:Int):Kb (KH n d) 164 [I d]:=KB func164
def Mk(d:Uc)(f:Uc):AB Int:=AH (Ky n d.Bw f.Bw) λg=>AH (Ky n d.mat f.mat) λh=>AH (Ky n d.BC f.BC) λj=>AH (KG n [g,h,j]) λm=>AC m
instance T?(d:Uc)(f:Uc):Ki (Mk n d f) 165 [.a (Uc.c d),.a (Uc.c f)]:=KB func165
def On(E:CE)(m:AA CQ)(f:Int):AB (CJ Int (CJ Unit Int)):=(bif f<(AI m:Int) then AH (AH (CN m f) λd=>AH ((bif d.Af<0 then AC AE else(bif (AI E.An:Int)<=d.Af then AC AE else(bif d.Ad<0 then AC AE else(bif 255<d.Ad then AC AE else(bif d.A'<0 then AC AE else(bif 1048576<d.A' then AC AE else AH (KH n d.BD) λq=>(bif (!q)then AC AE else AH (KH n d.Ai) λt=>(bif (!t)then AC AE else AC (AG (d.Ai<d.BD)))))))))):AB Bool) λx=>(bif x then AC (.d (.d (.d 170)))else(bif (f==0)then AC (.k ())else AH (CN m (i64.wrap (f-1))) λg=>AH (Mk n ({Bw:=g.A',mat:=g.Af,BC:=g.Ad:Uc}) ({Bw:=d.A',mat:=d.Af,BC:=d.Ad:Uc})) λh=>AH ((bif 0<h then AC (AG (0<h))else(bif (h==0)then AC (AG ((i64.wrap (d.BD-g.Ai))<=E.AT.BH))else AC AD)):AB Bool) λy=>(bif y then AC (.d (.d (.d 170)))else AC (.k ())))):AB (CJ Unit (CJ Int (CJ Unit Int)))) λB=>match B with|.k j=>(AC (.k (i64.wrap (f+1))))|.d j=>AC j else AC (.d (.k ())))
def PW(g:CE)(j:AA CQ):AB Int:=AH (GA n g) λh=>(bif (h != 0)then AC h else AH (iter (On n g j) n 0:AB (CJ Unit Int)) λf=>match f with|.k d=>(AC 0)|.d d=>AC d)
instance _A(j:CE)(m:AA CQ):Ki (PW n j m) 89 [.a (CE.c j),.q 5 (map CQ.c m)]:=by
 exact Kg 0 func89 Z Z Z Z λr h=>by
  have:=hn 61105 [] [] (λ(_:Unit)=>[]) Ze;have:=hl 61105 [0] [1,2,6,16,17] (λ(d:Int)=>[(18,I d)]) Ze;have:=hn 70904 [0] [1,2,6,16,17,18] (λ(_:Unit)=>[]) Ze;have:=hn 80100 [0,1] [1,2,6,7,8,16,17,18] (λ(f:Bool)=>[(74,.b f)]) Ze;have:=hn 140101 [0] [1,2,6,16,17,18] (λ(g:Bool)=>[(97,.b g)]) Ze;exact bu h
def Zc(n:Nat)(d:CF)(f:CQ):AB Unit:=AC ()
instance zo(d:CF)(f:CQ):Ks (Zc n d f) 91 [.a (CF.c d),.p 0 0] [.c 122 (CQ.c f)] (λ_=>.b (({mat:=d.Af,BC:=d.Ad:Ue})==({mat:=f.Af,BC:=f.Ad:Ue}))):=by
 refine Kg 18 func91 Z Z Z Z λr h=>(vV (je (p:={mat:=d.Af,BC:=d.Ad:Ue}) (q:={mat:=f.Af,BC:=f.Ad:Ue}) Qqs Z Z) ?_);exact bu h
def Wc(h:AA CF)(g:CQ)(d:Int):AB (CJ Int (CJ Unit Int)):=(bif d<(AI h:Int) then AH (CN h d) λf=>AH (Zc n f g) λj=>(bif (({mat:=f.Af,BC:=f.Ad:Ue})==({mat:=g.Af,BC:=g.Ad:Ue}))then AC (.d (.d d))else AC (.k (i64.wrap (d+1))))else AC (.d (.k ())))
def Pd(g:AA CF)(h:CQ):AB Int:=AH (iter (Wc n g h) n 0:AB (CJ Unit Int)) λf=>match f with|.k d=>(AC (-1))|.d d=>AC d
instance _G(d:AA CF)(f:CQ):Ks (Pd n d f) 90 [.q 3 (map CF.c d),.fn (.func 91) [] [.p 0 0]] [.c 122 (CQ.c f)] (λr=>I r):=KB func90
def LJ(n:Nat)(f:CE)(d:Int):AB Bool:=AH ((bif 0<=d then AC (AG (d<(AI f.An:Int)))else AC AD):AB Bool) λg=>AC g
instance s?(d:CE)(f:Int):Kb (LJ n d f) 166 [.a (CE.c d),I f]:=KB func166
def RN(n:Nat)(d:Int)(f:Int):AB (Int×Int):=AH ((bif d<(-2199023255552) then AC AE else(bif 2199023255552<d then AC AE else(bif f<0 then AC AE else AC (AG (100000<f))))):AB Bool) λg=>(bif g then AC (0,1)else AC (i64.wrap (Int.tdiv (i64.wrap ((i64.wrap ((i64.wrap ((if d<i64.wrap (0-d)then i64.wrap (0-d)else d)*f))+1000000))-1)) 1000000),0))
instance _w(f:Int)(g:Int):Ks (RN n f g) 283 [I f,I g] [] (λr=>.t [I r.1,I r.2]):=by
 refine Kg 8 func283 Z Z Z Z λr h=>Bd h λd m h=>Cg d [] [0,1] (λd=>[(19,.b d)]) Ze Zf ?_ ?_
 .exact bu m
 refine Cn Z h (λ_ h=>?_) (λ_ h=>?_)
 .exact bu h
 refine Gc 7 Z (vV (CY.max Z Z Z Z) ?_);refine Go 4 Z (vV (CY.quo Z Z Z (by decide)) ?_);exact bu h
def Iq(d:CE)(f:CF)(j:Int):AB CK:=AH (CN d.An f.Af) λm=>AH ((bif (m.AV != 1)then AH (RN n (i64.wrap (j-f.A4)) d.AT.Ba) λg=>AC ({Lo:=i64.wrap (0-g.1),Hi:=i64.wrap (d.AT.A0+g.1):CK})else AC ({Lo:=0,Hi:=d.AT.A0:CK})):AB CK) λh=>AC ({Lo:=h.Lo,Hi:=h.Hi:CK})
instance AAO(d:CE)(f:CF)(g:Int):Kq (Iq n d f g) 167 [.a (CE.c d),.a (CF.c f),I g] [] (λr=>.a [I r.Lo,I r.Hi]) (λr=>[.c 69 [I r.Lo,I r.Hi]]):=by
 exact Kg 0 func167 Z Z Z Z λr h=>by
  have:=hn 30201 [2,3] [6,7] (λ(_:CK)=>[]) (λj=>[(1,.w (.c 69 (CK.c j)))]);exact bu h
def KD(f:CE)(g:CF)(h:Int):AB (CK×Int):=AH (GA n f) λj=>(bif (j != 0)then AC ({Lo:=0,Hi:=0:CK},j)else AH (AH (LJ n f g.Af) λm=>(bif (!m)then AC AE else AH (IK n h) λq=>(bif (!q)then AC AE else AH (IK n g.A4) λt=>AC (!t))):AB Bool) λx=>(bif x then AC ({Lo:=0,Hi:=0:CK},1)else AH (Iq n f g h) λd=>AC ({Lo:=d.Lo,Hi:=d.Hi:CK},0)))
instance AAE(d:CE)(f:CF)(g:Int):Kq (KD n d f g) 92 [.a (CE.c d),.a (CF.c f),I g] [] (λr=>.t [.a [I r.1.Lo,I r.1.Hi],I r.2]) (λr=>[.c 69 [I r.1.Lo,I r.1.Hi]]):=KB func92
def ZH(n:Nat)(d:C2)(f:Int)(g:Int)(B:CE)(E:CG)(h:AA Int)(F:AA CK)(G:AA CQ)(H:AA Ud)(q:Int)(t:AA (Int×Ud))(x:CE)(y:CG):AB Bool:=AH (AH (CN h (i64.wrap (f-1))) λj=>(bif (d.A5==j)then AC (d.To==g)else AC AD):AB Bool) λm=>AC m
instance zU(B:C2)(E:Int)(F:Int)(d:CE)(q:CG)(G:AA Int)(t:AA CK)(H:AA CQ)(y:AA Ud)(f:Int)(g:AA (Int×Ud))(j:CE)(m:CG):Ks (ZH n B E F d q G t H y f g j m) 97 [.a (C2.c B),.p 0 0,.p 1 0,.p 2 0] [.c 111 [.p 3 0],.c 3 [I E],.c 3 [I F],.c 119 [.str d.Ar,.q 2 (map Af.c d.An),.q 4 (map C2.c d.As),.q 5 (map AN.c d.AO),.q 2 (map Aw.c d.Ax),.q 4 (map Ag.c d.Ah),.q 3 (map AZ.c d.Ac),.q 4 (map Cc.c d.A3),.q 8 (map AX.enc d.BZ),I d.AT.BK,I d.AT.BF,I d.AT.BH,I d.AT.A0,I d.AT.Ba,I d.B7,I d.BL,.q 3 (map CF.c q.AQ),.q 1 (map (QC 1 eI) q.BE),.q 1 (map eI G),.o 4 (AI t) 2,.q 5 (map CQ.c H),.o 5 (AI y) 3,.map 6,.fn (.func 93) [] [.p 0 0,.p 7 0,.p 8 0],I f],.r 69 2 (map CK.c t),.r 128 3 (map Ud.c y),.map (Qi I (λx=>A.a (Ud.c x)) g),.c 33 (CE.c j),.c 39 (CG.c m)] (λr=>.b r):=by
 exact Kg 0 func97 Z Z Z Z λr h=>by
  have:=hn 10100 [0,1,2,3,4,5,6,7,8] [] (λ(J:Bool)=>[(5,.b J)]) Ze;exact bu h
def MF(f:AA C2)(x:Int)(y:Int)(B:CE)(E:CG)(F:AA Int)(G:AA CK)(H:AA CQ)(J:AA Ud)(g:Int)(h:AA (Int×Ud))(j:CE)(m:CG)(d:Int):AB (CJ Int (CJ Unit Int)):=(bif d<(AI f:Int) then AH (CN f d) λq=>AH (ZH n q x y B E F G H J g h j m) λt=>(bif t then AC (.d (.d d))else AC (.k (i64.wrap (d+1))))else AC (.d (.k ())))
def Q_(q:AA C2)(t:Int)(x:Int)(y:CE)(B:CG)(E:AA Int)(F:AA CK)(G:AA CQ)(H:AA Ud)(f:Int)(g:AA (Int×Ud))(h:CE)(j:CG):AB Int:=AH (iter (MF n q t x y B E F G H f g h j) n 0:AB (CJ Unit Int)) λm=>match m with|.k d=>(AC (-1))|.d d=>AC d
instance _m(y:AA C2)(B:Int)(E:Int)(d:CE)(m:CG)(F:AA Int)(q:AA CK)(G:AA CQ)(t:AA Ud)(f:Int)(g:AA (Int×Ud))(h:CE)(j:CG):Ks (Q_ n y B E d m F q G t f g h j) 96 [.q 4 (map C2.c y),.fn (.func 97) [] [.p 0 0,.p 1 0,.p 2 0]] [.c 111 [.p 3 0],.c 3 [I B],.c 3 [I E],.c 119 [.str d.Ar,.q 2 (map Af.c d.An),.q 4 (map C2.c d.As),.q 5 (map AN.c d.AO),.q 2 (map Aw.c d.Ax),.q 4 (map Ag.c d.Ah),.q 3 (map AZ.c d.Ac),.q 4 (map Cc.c d.A3),.q 8 (map AX.enc d.BZ),I d.AT.BK,I d.AT.BF,I d.AT.BH,I d.AT.A0,I d.AT.Ba,I d.B7,I d.BL,.q 3 (map CF.c m.AQ),.q 1 (map (QC 1 eI) m.BE),.q 1 (map eI F),.o 4 (AI q) 2,.q 5 (map CQ.c G),.o 5 (AI t) 3,.map 6,.fn (.func 93) [] [.p 0 0,.p 7 0,.p 8 0],I f],.r 69 2 (map CK.c q),.r 128 3 (map Ud.c t),.map (Qi I (λx=>A.a (Ud.c x)) g),.c 33 (CE.c h),.c 39 (CG.c j)] (λr=>I r):=KB func96
def G1(d:CE)(f:CG)(h:AP)(j:Int)(g:AA CQ)(m:AA AY):CT->Go.Sw.A->Qb->Prop
  |.c0 x,a,H=>a=.t [.nilp,I x]/\H=[.c 111 [.nilp]]
  |.c1 x,a,H=>a=.t [.p 0 0,I 0]/\H=[.c 119 [.str d.Ar,.q 2 (map Af.c d.An),.q 4 (map C2.c d.As),.q 5 (map AN.c d.AO),.q 2 (map Aw.c d.Ax),.q 4 (map Ag.c d.Ah),.q 3 (map AZ.c d.Ac),.q 4 (map Cc.c d.A3),.q 8 (map AX.enc d.BZ),I d.AT.BK,I d.AT.BF,I d.AT.BH,I d.AT.A0,I d.AT.Ba,I d.B7,I d.BL,.q 3 (map CF.c f.AQ),.q 1 (map (QC 1 eI) f.BE),.q 1 (map eI x.1),.o 1 (AI x.2.1) 2,.q 5 (map CQ.c g),.o 2 (AI x.2.2.1) 3,.map 3,.fn (.func 93) [] [.p 4 0,.p 5 0,.p 6 0],I x.2.2.2.2],.r 69 2 (map CK.c x.2.1),.r 128 3 (map Ud.c x.2.2.1),.map (Qi I (λx=>A.a (Ud.c x)) x.2.2.2.1),.c 111 [.p 0 0],.c 33 (CE.c d),.c 39 (CG.c f)]
def ID(j:CE)(m:CG)(q:AA CQ)(g:(AA Ud)×Int):AB (CJ ((AA Ud)×Int) (CJ (AA Ud) CT)):=(bif g.2<(AI q:Int) then AH (CN q g.2) λd=>AH (Pd n m.AQ d) λh=>AH (CN j.An d.Af) λt=>AH ((bif (t.AV==1)then AC (.k ((-1),{Af:=d.Af,Ad:=d.Ad,A4:=0:CF}))else(bif h<0 then AC (.d (.d (.d (CT.c0 170))))else AH (CN m.AQ h) λx=>AC (.k (h,x)))):AB (CJ (Int×CF) (CJ ((AA Ud)×Int) (CJ (AA Ud) CT)))) λy=>match y with|.k f=>(AH (KD n j f.2 d.BD) λB=>AH (KD n j f.2 d.Ai) λE=>AH (app g.1 [{AW:=f.1,Ay:={Lo:=i64.wrap (d.BD+B.1.Lo),Hi:=i64.wrap (d.Ai+E.1.Hi):CK}:Ud}]) λF=>AC (.k (F,i64.wrap (g.2+1))))|.d f=>AC f else AC (.d (.k g.1)))
def Ow(n:Nat)(j:AA AY)(d:(AA (Int×Ud))×Int×Int):AB (CJ ((AA (Int×Ud))×Int×Int) ((AA (Int×Ud))×Int)):=(bif d.2.2<(AI j:Int) then AH (CN j d.2.2) λf=>AH (AC (Qd d.1 f.AS ({AW:=0,Ay:={Lo:=0,Hi:=0:CK}:Ud}))) λm=>AH ((bif (!(GN d.1 f.AS))then AH (AC (QE d.1 f.AS ({AW:=(-1),Ay:={Lo:=f.Lo,Hi:=f.Hi:CK}:Ud}))) λh=>AC (h,(if d.2.1<f.AS then f.AS else d.2.1))else AC (d.1,d.2.1)):AB ((AA (Int×Ud))×Int)) λg=>AC (.k (g.1,g.2,i64.wrap (d.2.2+1)))else AC (.d (d.1,d.2.1)))
def J3(g:CE)(E:CG)(F:AA CQ)(h:(AA Int)×Int)(q:AA Ud)(m:(AA (Int×Ud))×Int)(d:(AA CK)×CK×Int):AB (CJ ((AA CK)×CK×Int) (AA CK)):=(bif d.2.2<(AI h.1:Int) then AH (CN h.1 d.2.2) λt=>AH ((bif 0<d.2.2 then AH (Q_ n g.As d.2.2 t g E h.1 d.1 F q m.2 m.1 g E) λj=>AH (CN g.As j) λx=>AH (CN g.As j) λy=>AC ({Lo:=i64.wrap (d.2.1.Lo+x.Bn),Hi:=i64.wrap (d.2.1.Hi+y.Bs):CK})else AC ({Lo:=d.2.1.Lo,Hi:=d.2.1.Hi:CK})):AB CK) λf=>AH (app d.1 [{Lo:=f.Lo,Hi:=f.Hi:CK}]) λB=>AC (.k (B,{Lo:=f.Lo,Hi:=f.Hi:CK},i64.wrap (d.2.2+1)))else AC (.d d.1))
def OX(f:CE)(q:CG)(h:AP)(J:Int)(t:AA CQ)(y:AA AY):AB CT:=AH (GA n f) λB=>(bif (B != 0)then AC (CT.c0 B)else AH (J_ n q) λE=>(bif (E != 0)then AC (CT.c0 E)else AH ((bif h.AN<0 then AC AE else(bif (AI f.AO:Int)<=h.AN then AC AE else(bif h.Aw<0 then AC AE else(bif (AI f.Ax:Int)<=h.Aw then AC AE else AH (gD n y) λF=>AC F)))):AB Bool) λG=>(bif G then AC (CT.c0 1)else AH (KI n f h.AN J) λg=>(bif (g.2 != 0)then AC (CT.c0 g.2)else AH (PW n f t) λm=>(bif (m != 0)then AC (CT.c0 m)else AH (iter (ID n f q t) n ([],0):AB (CJ (AA Ud) CT)) λH=>match H with|.k d=>(AH (iter (Ow n y) n ([],(-1),0):AB ((AA (Int×Ud))×Int)) λj=>AH (iter (J3 n f q t g d j) n ([],{Lo:=0,Hi:=0:CK},0):AB (AA CK)) λx=>AC (CT.c1 (g.1,x,d,j.1,j.2)))|.d d=>AC d)))))
theorem kV(N:CE)(M:CG)(Y:AP)(a4:Int)(O:AA CQ)(a6:AA AY)(r:CT)(h:OX n N M Y a4 O a6=AC r):C prog 26 [.a (CE.c N),.a (CG.c M),.a (AP.c Y),I a4,.q 5 (map CQ.c O),.q 4 (map AY.c a6)] [] (G1 N M Y a4 O a6 r):=by
 have:=hn 80100 [0,1,2,3] [3,4,5,6,7,8,12] (λ(T:Bool)=>[(69,.b T)]) Ze;have:=hk 11 12 [11] [(0,0,0),(0,0,0),(0,0,0),(0,0,0),(0,0,0),(0,0,0),(0,0,0),(0,0,0),(0,0,1),(0,0,0),(0,0,0),(1,0,0)];have:=hl 181303 [0,1,3,5,0,4] [5,6,7,12,96,97] (λ(y:(AA Ud)×Int)=>[(98,I y.2)]) (λy=>[(3,.c [(21,.o 4 (AI y.1) 3)]),(4,.w (.r 128 3 (map Ud.c y.1)))]);have:=hn 240402 [0,1,2,3,4,5,6,7] [5,6,7,12,16,18,96,97,98] (λ(q:Int×CF)=>[(17,I q.1)]) (λq=>[(7,.w (.c 201 (CF.c q.2)))]);have:=hk 29 20 [19] [(0,0,1),(0,0,0),(0,0,0),(0,0,0),(0,0,0),(0,0,0),(0,0,0),(0,0,0),(0,0,0),(0,0,0),(0,0,0),(0,0,0),(0,0,0),(0,0,0),(0,0,0),(0,0,0),(0,0,0),(0,0,0),(0,0,0),(1,0,0)];have:=hn 320702 [0,1,2,3,4,5] [6,7,12] (λ(_:(AA (Int×Ud))×Int)=>[]) (λF=>[(3,.c [(24,I F.2)]),(5,.w (.map (Qi I (λx=>A.a (Ud.c x)) F.1)))]);have:=hl 320702 [0,1,2,3,4,5] [6,7,12,167,168] (λ(B:(AA (Int×Ud))×Int×Int)=>[(169,I B.2.2)]) (λB=>[(3,.c [(24,I B.2.1)]),(5,.w (.map (Qi I (λx=>A.a (Ud.c x)) B.1)))]);have:=hk 34 12 [10,11] [(0,0,1),(0,0,1),(0,0,1),(0,0,1),(0,0,1),(0,0,1),(0,0,1),(0,0,1),(0,0,1),(0,0,2),(1,0,0),(1,1,0)];have:=hn 360201 [0,1,2,3,4,5] [6,7,12,167,168,169] (λ(_:(AA (Int×Ud))×Int)=>[]) (λW=>[(3,.c [(24,I W.2)]),(5,.w (.map (Qi I (λx=>A.a (Ud.c x)) W.1)))]);have:=hl 420702 [0,2,3,0,4,5,1,6] [6,12,27,215,216] (λ(f:(AA CK)×CK×Int)=>[(217,I f.2.2)]) (λf=>[(2,.c [(19,.o 3 (AI f.1) 2)]),(3,.w (.r 69 2 (map CK.c f.1))),(7,.w (.c 69 (CK.c f.2.1)))]);have:=hn 450201 [0,1,2,3,4,5,6,7] [6,12,27,215,216,217] (λ(_:CK)=>[]) (λP=>[(7,.w (.c 69 (CK.c P)))]);have:=hk 46 20 [19] [(0,0,0),(0,0,0),(0,0,0),(0,0,0),(0,0,0),(0,0,0),(0,0,0),(0,0,0),(0,0,0),(0,0,0),(0,0,0),(0,0,1),(0,0,1),(0,0,1),(0,0,1),(0,0,1),(0,0,1),(0,0,1),(0,0,0),(1,0,0)];have:=hk 47 8 [7] [(0,0,1),(0,0,0),(0,0,0),(0,0,0),(0,0,0),(0,0,0),(0,0,0),(1,0,0)];refine jZ func26 Z Z Z ?_;refine G0 13 Z (Cz [] h Kc Z λr1 bv h=>Go 9 Z (Cn Z h (λ_ h=>?_) (λ_ h=>?_)))
 .refine Gc 3 Z ?_;refine vU (Ex Z Z Z E9 Z Z Z Z Z Z Z) ?_;refine Fg 5 Z Z ?_;obtain rfl:=Oi h;exact Rx [3] [12,13] Z (QF Z Z (C'.cons (Yj E8 Z Z) (C'.cons FM.tmp C'.nil))) ⟨Z,Z⟩
 refine Gc 6 Z (Cz [] h Kc Z λr3 bw h=>Go 9 Z (Cn Z h (λ_ h=>?_) (λ_ h=>?_)))
 .refine Gc 3 Z ?_;refine vU (Ex Z Z Z E9 Z Z Z Z Z Z Z) ?_;refine Fg 5 Z Z ?_;obtain rfl:=Oi h;exact Rx [3] [12,13] Z (QF Z Z (C'.cons (Yj E8 Z Z) (C'.cons FM.tmp C'.nil))) ⟨Z,Z⟩
 refine Gc 9 Z (Bd h λT ba h=>Ct T [0,1,2,3] [3,4,5,6,7,8,12] (λT=>[(69,.b T)]) Ze Zf ?_ (λenv H Q=>?_))
 .exact bu ba
 refine Gx 1 Z (Ee Q (Cn Z h (λ_ h=>?_) (λ_ h=>?_)))
 .refine Gc 2 Z ?_;refine vU (Ex Z Z Z E9 Z Z Z Z Z Z Z) ?_;refine Fg 5 Z Z ?_;obtain rfl:=Oi h;exact Rx [3] [12,13] Z (QF Z Z (C'.cons (Yj E8 Z Z) (C'.cons FM.tmp C'.nil))) ⟨Z,Z⟩
 refine Gc 7 Z (vH JB ?_);refine FE Z ?_;refine vX (.a (CE.c N++(CG.c M++[.q 1 (map eI []),.n,.q 5 (map CQ.c O),.n,.map 4,.nilf,I (-1)]))) (CY.build (zs:=[.str [],.q 2 (map Af.c []),.q 4 (map C2.c []),.q 5 (map AN.c []),.q 2 (map Aw.c []),.q 4 (map Ag.c []),.q 3 (map AZ.c []),.q 4 (map Cc.c []),.q 8 (map AX.enc []),I 0,I 0,I 0,I 0,I 0,I 0,I 0,.q 3 (map CF.c []),.q 1 (map (QC 1 eI) []),.q 1 (map eI []),.n,.q 5 (map CQ.c []),.n,.nilm,.nilf,I 0]) zeroValue119 (IN Z) QrS) ?_;refine Go 6 Z (Iu 12 [11] [(0,0,0),(0,0,0),(0,0,0),(0,0,0),(0,0,0),(0,0,0),(0,0,0),(0,0,0),(0,0,1),(0,0,0),(0,0,0),(1,0,0)] (by kernel_rfl) (Dk 5 Z ?_));obtain⟨G,ai,h⟩:=Yf h;refine DK.wo (x:=.t [.q 1 (map eI G.1),I G.2]) ?_ ?_
 .refine Qt [] (Dc.fn call88 Z Z Z) ((lY _ _ _ _).c _ ai) ?_;rintro _ _ ⟨rfl,rfl⟩;exact FE Z Wp
 refine Dk 5 Z ?_;refine DK.un (X1:=[.c 33 (CE.c N),.c 39 (CG.c M),.c 41 (AP.c Y),.c 111 [.p 5 0],.map (Qi I (λx=>A.a (Ud.c x)) []),.c 119 (CE.c N++(CG.c M++[.q 1 (map eI G.1),.n,.q 5 (map CQ.c O),.n,.map 4,.nilf,I (-1)]))]) ?_ ?_
 .refine vU (Ex Z Z Z EG Z Z Z Z Z Z Z) ?_;exact FE Z Wp
 refine DK.done Z Z (Go 9 Z (Cn Z h (λ_ h=>?_) (λ_ h=>?_)))
 .refine Gc 3 Z ?_;refine vU (Ex Z Z Z E9 Z Z Z Z Z Z Z) ?_;refine Fg 5 Z Z ?_;obtain rfl:=Oi h;exact Rx [3] [12,13] Z (QF Z Z (C'.cons (Yj E8 Z Z) (C'.cons FM.tmp C'.nil))) ⟨Z,Z⟩
 refine Gc 7 Z (Cz [] h Kc Z λbx bi h=>Go 9 Z (Cn Z h (λ_ h=>?_) (λ_ h=>?_)))
 .refine Gc 3 Z ?_;refine vU (Ex Z Z Z E9 Z Z Z Z Z Z Z) ?_;refine Fg 5 Z Z ?_;obtain rfl:=Oi h;exact Rx [3] [12,13] Z (QF Z Z (C'.cons (Yj E8 Z Z) (C'.cons FM.tmp C'.nil))) ⟨Z,Z⟩
 refine Gc 6 Z (Lg 3 Z Z (Bd h λbb bc h=>KR (b:=bb) [0,1,2,3,4,5] [5,6,7] (λ_=>[(12,.p 2 0)]) (λE=>[(2,.c 111 [.p 3 0]),(3,.c 119 (CE.c N++(CG.c M++[.q 1 (map eI G.1),.n,.q 5 (map CQ.c O),.o 4 (AI E) 3,.map 5,.nilf,I (-1)]))),(4,.r 128 3 (map Ud.c E)),(5,.map (Qi I (λx=>A.a (Ud.c x)) []))]) Zf ?_ (λE env H bd Q=>?_)))
 .refine G0 1 Z (Lp [0,1,3,5,0,4] [5,6,7,12,96,97] (λy=>[(98,I y.2)]) (λy=>[(2,.c 111 [.p 3 0]),(3,.c 119 (CE.c N++(CG.c M++[.q 1 (map eI G.1),.n,.q 5 (map CQ.c O),.o 4 (AI y.1) 3,.map 5,.nilf,I (-1)]))),(4,.r 128 3 (map Ud.c y.1))]) bc Zf ?_ ?_)
  .refine En (QS (i:=5) (m:=21) (t:=128) (k:=3) Z Z Z) ?_;exact Lr [0,1,3,5,6,4]
  intro y bz d X;refine G0 6 Z (Dm Z d (λ_ d=>?_) (λ_ d=>?_))
  .exact FS X d
  refine Gc 6 Z (Bd d λca an d=>Iz an Z (Go 10 Z (Cz [6] d Kc Z λcb bj d=>Go 22 Z (Bd d λcc ao d=>Iz ao Z (Go 6 Z (Bd d λbe J d=>KR (b:=be) [0,1,2,3,4,5,6,7] [5,6,7,12,16,18,96,97,98] (λq=>[(17,I q.1)]) (λq=>[(7,.c 201 (CF.c q.2))]) Zf ?_ (λq env H hb Q=>?_)))))))
  .refine G0 0 Z (Cn Z J (λ_ J=>?_) (λ_ J=>?_))
   .exact bu J
   refine Gc 7 Z (Cn Z J (λ_ J=>?_) (λ_ J=>?_))
   .refine Gc 2 Z ?_;refine vU (Ex Z Z Z E9 Z Z Z Z Z Z Z) ?_;refine Fg 4 Z Z ?_;cases J;refine JA (Gx 4 Z (Kt d ?_));obtain rfl:=Oj X d;refine Gx 1 Z (JA (Gx 1 Z ?_));obtain rfl:=Oi h;exact Rx [2] [12,13] Z (QF Z Z (C'.cons (Yj E8 Z Z) (C'.cons FM.tmp C'.nil))) ⟨Z,Z⟩
   exact bu J
  subst hb;refine Gx 2 Z (Ee Q (Gc 6 Z (Cd [] d Kc Z λcd bk d=>Fg 14 Z Z (Cd [] d Kc Z λce bl d=>Fg 8 Z Z (Iu 20 [19] [(0,0,1),(0,0,0),(0,0,0),(0,0,0),(0,0,0),(0,0,0),(0,0,0),(0,0,0),(0,0,0),(0,0,0),(0,0,0),(0,0,0),(0,0,0),(0,0,0),(0,0,0),(0,0,0),(0,0,0),(0,0,0),(0,0,0),(1,0,0)] (by kernel_rfl) ?_)))));exact bu d
 subst bd;refine Gx 1 Z (Ee Q (Gc 4 Z (Lg 3 Z Z (Bd h λF bg h=>Ct F [0,1,2,3,4,5] [6,7,12] Ze (λF=>[(3,.c 119 (CE.c N++(CG.c M++[.q 1 (map eI G.1),.n,.q 5 (map CQ.c O),.o 4 (AI E) 3,.map 5,.nilf,I F.2]))),(5,.map (Qi I (λx=>A.a (Ud.c x)) F.1))]) Zf ?_ (λenv H Q=>?_)))))
 .refine G0 1 Z (Lp [0,1,2,3,4,5] [6,7,12,167,168] (λB=>[(169,I B.2.2)]) (λB=>[(3,.c 119 (CE.c N++(CG.c M++[.q 1 (map eI G.1),.n,.q 5 (map CQ.c O),.o 4 (AI E) 3,.map 5,.nilf,I B.2.1]))),(5,.map (Qi I (λx=>A.a (Ud.c x)) B.1))]) bg Zf (Lr [0,1,2,3,4,5]) λB cf L av=>?_);refine G0 6 Z (Dm Z L (λ_ L=>?_) (λ_ L=>?_))
  .exact FS av L
  refine Gc 6 Z (Bd L λbm aa L=>Iz aa Z (Go 6 Z ?_));obtain⟨bn,ab,L⟩:=Yf L;have hx1:=ab;have hxh:=hx 34 12 0 0 [AD,AD,AD,AD,AD,AD,AD,AD,AD,AD,AE,AE] [[],[],[],[],[],[],[],[],[],[],[],[10]] [[],[10],[10,11]] [[(0,0),(1,1)],[(0,0),(1,1)],[(0,0),(1,1)],[(0,0),(1,1)],[(0,0),(1,1)],[(0,0),(1,1)],[(0,0),(1,1)],[(0,0),(1,1)],[(0,0),(1,1)],[(0,0),(1,1),(2,2)],[(0,1)],[(1,2)]];refine dc ?_;exact bu L
 refine Gx 1 Z (Ee Q (Gc 21 Z (Lg 3 Z Z (Bd h λR ax h=>Cg R [1,2,3,4,5,0,6] [] (λ_=>[(12,.p 0 0)]) (λR=>[(0,.c 111 [.p 1 0]),(1,.c 119 (CE.c N++(CG.c M++[.q 1 (map eI G.1),.o 2 (AI R) 2,.q 5 (map CQ.c O),.o 3 (AI E) 3,.map 4,.fn (.func 93) [] [.p 0 0,.p 5 0,.p 6 0],I F.2]))),(2,.r 69 2 (map CK.c R)),(6,.c 39 (CG.c M))]) Zf ?_ ?_))))
 .refine G0 1 Z (Lp [0,2,3,0,4,5,1,6] [6,12,27,215,216] (λf=>[(217,I f.2.2)]) (λf=>[(1,.c 111 [.p 2 0]),(2,.c 119 (CE.c N++(CG.c M++[.q 1 (map eI G.1),.o 3 (AI f.1) 2,.q 5 (map CQ.c O),.o 4 (AI E) 3,.map 5,.fn (.func 93) [] [.p 1 0,.p 0 0,.p 6 0],I F.2]))),(3,.r 69 2 (map CK.c f.1)),(7,.c 69 (CK.c f.2.1))]) ax Zf ?_ ?_)
  .refine En (QS (i:=3) (m:=19) (t:=69) (k:=2) Z Z Z) ?_;exact Lr [0,2,3,7,4,5,1,6]
  intro f bo j ac;refine G0 6 Z (Dm Z j (λ_ j=>?_) (λ_ j=>?_))
  .exact FS ac j
  refine Gc 7 Z (Bd j λbp ae j=>Iz ae Z (Go 14 Z (Bd j λP g j=>Cg P [0,1,2,3,4,5,6,7] [6,12,27,215,216,217] Ze (λP=>[(7,.c 69 (CK.c P))]) Zf ?_ ?_)))
  .refine G0 0 Z (Cn Z g (λ_ g=>?_) (λ_ g=>?_))
   .refine Gc 5 Z (Cz [1,8,9,2,3,4,5,0,6] g Kc Z λbq bh g=>Go 3 Z ?_);obtain⟨br,V,g⟩:=Yf g;obtain⟨bs,ag,g⟩:=Yf g;cases V.symm.trans ag;have hx1:=V;have hxh:=hx 46 20 0 0 [AD,AD,AD,AD,AD,AD,AD,AD,AD,AD,AD,AD,AD,AD,AD,AD,AD,AD,AD,AE] [[],[],[],[],[],[],[],[],[],[],[],[],[],[],[],[],[],[],[],[]] [[],[19]] [[(0,0)],[(0,0)],[(0,0)],[(0,0)],[(0,0)],[(0,0)],[(0,0)],[(0,0)],[(0,0)],[(0,0)],[(0,0)],[(0,0),(1,1)],[(0,0),(1,1)],[(0,0),(1,1)],[(0,0),(1,1)],[(0,0),(1,1)],[(0,0),(1,1)],[(0,0),(1,1)],[(0,0)],[(0,1)]];refine dc ?_;exact bu g
   exact bu g
  exact bu j
 refine Gc 8 Z ?_;obtain rfl:=Oi h;exact Rx [1,2,3,4,0,5,6] [12,13] Z (QF Z Z (C'.cons (Yj E8 Z Z) (C'.cons FM.tmp C'.nil))) ⟨Z,Z⟩
def NK(n:Nat):AB Unit:=AC ()
instance lU:Kq (NK n) 33 [] [] (λ_=>.a [I (-1),I 0,I 0,I 0,I 0]) (λ_=>[.c 130 [I (-1),I 0,I 0,I 0,I 0]]):=KB func33
def pg(n:Nat)(h:AA (Int×Int))(g:Int)(d:Int×Int):AB (CJ Int Int):=AH (AC (Qd h d.1 0)) λf=>AC (.k (i64.wrap (g+(if 0<i64.wrap (d.2-f)then i64.wrap (d.2-f)else 0))))
def p_(n:Nat)(d:Int):AB Int:=AC d
def Rn(f:AA (Int×Int))(g:AA (Int×Int)):AB Int:=anyP (λp39=>AH (L7 (pg n g) (p_ n) 0 p39) λd=>AC d) f
instance kp(j:AA (Int×Int))(m:AA (Int×Int)):Ks (Rn n j m) 27 [.p 0 0,.p 1 0] [.c 120 [.map 2],.c 120 [.map 3],.fmap (Qi I I j),.fmap (Qi I I m)] (λr=>I r):=by
 refine Kg 9 func27 Z Z Z Z λr h=>vH (vO EC) (Fg 2 Z Z ?_);have y:=QqC h;have q:=λp hp=>Yf (y p hp);refine QqG q (λd=>[(2,I d)]) (λd=>[.c 120 [.map 2],.c 120 [.map 3],.fmap (Qi I I j),.fmap (Qi I I m)]) ?_ (λd env H B E=>?_)
 .refine G0 1 Z (QoX (enc:=(λp=>(I p.1,I p.2))) (λf=>[(1,.p 1 0),(2,I f),(6,.p 4 0)]) (λf t=>[.c 120 [.map 2],.c 120 [.map 3],.fmap (Qi I I j),.fmap (Qi I I m),.iter AF t]) q ?_ ?_)
  .exact Lr [0,1,2,3,4]
  intro f t F;refine G0 2 Z (QoT F (λM G J=>?_) (λN O P g Q L=>?_))
  .refine Go 7 Z (Qr3 ?_);cases G;exact Gx 1 Z (di J (Lr [0,1,2,3]))
  refine Go 10 Z ?_;refine vV (CY.entry) (Go 11 Z (Bd g λR x g=>?_));refine vV (QmS YY x EC EH Eo) ?_;refine Go 1 Z (vV (CY.max Z Z Z Z) ?_);refine Go 4 Z (Qr4 _ _ g L (En (vB (i:=4) Z Z) ?_));exact Lr [0,1,2,3,4]
 exact Gx 1 Z (Ee E (Hw 7 Z B 2 [0,1,2,3]))
def Zh(n:Nat)(d:AA Int):AB (AA Int):=isNil d (AC []) (AH (app ([]:AA Int) d) λf=>AC f)
instance kg(d:AA Int):Kq (Zh n d) 30 [.o 0 (AI d) 1] [.r 3 1 (map eI d)] (λr=>.o 1 (AI r) 1) (λr=>[.r 3 1 (map eI d),.r 3 1 (map eI r)]):=by
 refine Kg 9 func30 Z Z Z Z λr h=>(QmF underlying54 Z (λf g=>?_));have hkb1:=ui h f g;cases f
 .have h:=hkb1.2 Z;refine Go 7 Z (vH (Ek (xs:=[]) J0 Z Z Z Z Z trivial Z Z) ?_);refine Fg 1 Z Z (Bd h λm j h=>vH (YP j J0 EA (Lj (i:=0))) ?_);exact bu h
 .have h:=hkb1.1 Z;refine Go 10 Z ?_;obtain rfl:=Oi h;refine R1 2 Z (En (Ep (s:=2) (k:=1) (t:=3) (XS Z) Z) ?_);exact Lr [0,1]
def Ik(n:Nat)(f:Int)(g:Int)(y:CE)(B:CG)(E:AA Int)(F:AA CK)(G:AA CQ)(h:AA Ud)(H:Int)(d:AA (Int×Ud))(t:CE)(x:CG):AB (Ud×Bool):=AH (AC (Qd d f ({AW:=0,Ay:={Lo:=0,Hi:=0:CK}:Ud}))) λj=>AH ((bif GN d f then AC AE else AC (AG (g<0))):AB Bool) λm=>(bif m then AC (j,GN d f)else AH (CN h g) λq=>AC (q,AE))
instance AAJ(F:Int)(G:Int)(j:CE)(m:CG)(q:AA Int)(t:AA CK)(y:AA CQ)(B:AA Ud)(E:Int)(d:AA (Int×Ud))(f:CE)(g:CG):Kq (Ik n F G j m q t y B E d f g) 99 (qr 0 0 F G) [.c 119 (match_task.tc j m q t y B (.map 1) (.fn (.func 93) [] [.p 2 0,.p 3 0,.p 4 0]) E),.map (Qi I (λx=>A.a (Ud.c x)) d),.c 111 [.p 0 0],.c 33 (CE.c f),.c 39 (CG.c g)] (λr=>.t [.a (Ud.c r.1),.b r.2]) (λr=>[.c 119 (match_task.tc j m q t y B (.map 1) (.fn (.func 93) [] [.p 2 0,.p 3 0,.p 4 0]) E),.map (Qi I (λx=>A.a (Ud.c x)) d),.c 111 [.p 0 0],.c 33 (CE.c f),.c 39 (CG.c g),.c 128 (Ud.c r.1)]):=by
 exact Kg 0 func99 Z Z Z Z λr h=>by
  have:=hn 20100 [0,1,2,3,4,5] [0,2,6,7] (λ(H:Bool)=>[(21,.b H)]) Ze;exact bu h
def Mr(g:CE)(h:CG)(f:Int)(d:CK):AB (CK×Int):=AH (GA n g) λm=>(bif (m != 0)then AC ({Lo:=0,Hi:=0:CK},m)else AH (J_ n h) λq=>(bif (q != 0)then AC ({Lo:=0,Hi:=0:CK},q)else AH ((bif f<(-1) then AC AE else(bif (AI h.AQ:Int)<=f then AC AE else AH (IK n d.Lo) λt=>(bif (!t)then AC AE else AH (IK n d.Hi) λx=>(bif (!x)then AC AE else AC (AG (d.Hi<d.Lo)))))):AB Bool) λy=>(bif y then AC ({Lo:=0,Hi:=0:CK},1)else(bif f<0 then AC ({Lo:=d.Lo,Hi:=i64.wrap (d.Hi+g.AT.A0):CK},0)else AH (CN h.AQ f) λj=>AH (LJ n g j.Af) λB=>(bif (!B)then AC ({Lo:=0,Hi:=0:CK},1)else AH (Iq n g j d.Lo) λE=>AH (CN h.BE (i64.wrap (f+1))) λF=>AH (CN F 0) λG=>AH (Iq n g j d.Hi) λH=>AH (CN h.BE 0) λJ=>AH (CN J (i64.wrap (f+1))) λL=>AC ({Lo:=i64.wrap ((i64.wrap (d.Lo+E.Lo))-G),Hi:=i64.wrap ((i64.wrap (d.Hi+H.Hi))+L):CK},0))))))
instance a?(f:CE)(g:CG)(j:Int)(d:CK):Kq (Mr n f g j d) 94 [.a (CE.c f),.a (CG.c g),I j,.a [I d.Lo,I d.Hi]] [] (λr=>.t [.a [I r.1.Lo,I r.1.Hi],I r.2]) (λr=>[.c 69 [I r.1.Lo,I r.1.Hi]]):=by
 exact Kg 0 func94 Z Z Z Z λr h=>by
  have:=hn 70100 [0,1,2,3] [2,4,5,7,8] (λ(m:Bool)=>[(24,.b m)]) Ze;have:=hk 15 34 [6,23] [(0,0,2),(0,0,2),(0,0,0),(0,0,0),(0,0,0),(0,0,0),(1,0,0),(0,1,2),(0,1,2),(0,0,2),(0,0,2),(0,0,2),(0,0,2),(0,0,2),(0,0,2),(0,0,2),(0,1,2),(0,0,2),(0,0,2),(0,0,1),(0,0,1),(0,0,1),(0,0,1),(1,1,0),(0,2,2),(0,2,2),(0,0,2),(0,0,2),(0,0,2),(0,0,2),(0,0,2),(0,0,2),(0,0,2),(0,2,2)];have:=hx 15 34 0 6 [AD,AD,AD,AD,AD,AD,AE,AD,AD,AD,AD,AD,AD,AD,AD,AD,AD,AD,AD,AD,AD,AD,AD,AE,AD,AD,AD,AD,AD,AD,AD,AD,AD,AD] [[],[],[],[],[],[],[],[6],[6],[],[],[],[],[],[],[],[6],[],[],[],[],[],[],[6],[6,23],[6,23],[],[],[],[],[],[],[],[6,23]] [[],[6],[6,23]] [[(0,0),(1,1),(2,2)],[(0,0),(1,1),(2,2)],[(0,0)],[(0,0)],[(0,0)],[(0,0)],[(0,1)],[(1,1),(2,2)],[(1,1),(2,2)],[(0,0),(1,1),(2,2)],[(0,0),(1,1),(2,2)],[(0,0),(1,1),(2,2)],[(0,0),(1,1),(2,2)],[(0,0),(1,1),(2,2)],[(0,0),(1,1),(2,2)],[(0,0),(1,1),(2,2)],[(1,1),(2,2)],[(0,0),(1,1),(2,2)],[(0,0),(1,1),(2,2)],[(0,0),(1,1)],[(0,0),(1,1)],[(0,0),(1,1)],[(0,0),(1,1)],[(1,2)],[(2,2)],[(2,2)],[(0,0),(1,1),(2,2)],[(0,0),(1,1),(2,2)],[(0,0),(1,1),(2,2)],[(0,0),(1,1),(2,2)],[(0,0),(1,1),(2,2)],[(0,0),(1,1),(2,2)],[(0,0),(1,1),(2,2)],[(2,2)]];exact bu h
def Mw(n:Nat)(d:CK)(f:CK):AB Unit:=AC ()
instance f?(d:CK)(f:CK):Ks (Mw n d f) 95 [.a [I d.Lo,I d.Hi],.a [I f.Lo,I f.Hi]] [] (λ_=>.b (AG ((if d.Lo<f.Lo then f.Lo else d.Lo)<=(if f.Hi<d.Hi then f.Hi else d.Hi)))):=by
 refine Kg 13 func95 Z Z Z Z λr h=>(vV (CY.max Z Z Z Z) ?_);refine Go 4 Z (vV (CY.min Z Z Z Z) ?_);exact Gt 5 Z h 4 []
def Ps(h:Int)(j:Int)(t:CE)(x:CG)(F:CE)(G:CG)(H:AA Int)(J:AA CK)(y:AA CQ)(m:AA Ud)(E:Int)(g:AA (Int×Ud)):AB Bool:=AH (AC (Qd g j ({AW:=0,Ay:={Lo:=0,Hi:=0:CK}:Ud}))) λf=>(bif (!(GN g j))then AC AE else AH (CN y h) λq=>AH (CN m h) λB=>AH (Mr n t x B.AW ({Lo:=q.BD,Hi:=q.Ai:CK})) λd=>AH (Mw n ({Lo:=d.1.Lo,Hi:=d.1.Hi:CK}) f.Ay) λL=>AC (AG ((if d.1.Lo<f.Ay.Lo then f.Ay.Lo else d.1.Lo)<=(if f.Ay.Hi<d.1.Hi then f.Ay.Hi else d.1.Hi))))
instance _T(j:Int)(m:Int)(q:CE)(t:CG)(y:CE)(B:CG)(E:AA Int)(F:AA CK)(G:AA CQ)(d:AA Ud)(f:Int)(g:AA (Int×Ud)):Ks (Ps n j m q t y B E F G d f g) 93 [I j,I m,.p 0 0,.p 1 0,.p 2 0] [.c 111 [.p 3 0],.c 33 (CE.c q),.c 39 (CG.c t),.c 119 (match_task.tc y B E F G d (.map 4) (.fn (.func 93) [] [.p 0 0,.p 1 0,.p 2 0]) f),.map (Qi I (λx=>A.a (Ud.c x)) g)] (λr=>.b r):=by
 exact Kg 0 func93 Z Z Z Z λr h=>by
  have:=hx 5 21 1 2 [AD,AD,AD,AD,AD,AD,AD,AD,AD,AD,AD,AD,AD,AD,AD,AE,AD,AD,AD,AE,AE] [[],[],[],[],[],[],[],[],[],[],[],[],[],[],[],[],[15],[15],[15],[],[15,19]] [[],[15],[19],[15,19],[15,19,20]] [[(0,0),(2,2)],[(0,0),(2,2)],[(0,0),(2,2)],[(0,0),(2,2)],[(0,0),(2,2)],[(0,0),(2,2)],[(0,0),(2,2)],[(0,0),(2,2)],[(0,0),(2,2)],[(0,0),(2,2)],[(0,0),(2,2)],[(0,0),(2,2)],[(0,0),(2,2)],[(0,0),(2,2)],[(0,0),(2,2)],[(0,1),(2,3)],[(1,1),(3,3)],[(1,1),(3,3)],[(1,1),(3,3),(4,4)],[(0,2),(1,3)],[(3,4)]];exact bu h
def KA(n:Nat)(f:Int)(g:Int)(B:CE)(E:CG)(F:AA Int)(d:AA CK)(G:AA CQ)(H:AA Ud)(J:Int)(t:AA (Int×Ud))(x:CE)(y:CG):AB CK:=AH (CN d g) λh=>AH (CN d f) λj=>AH (CN d g) λm=>AH (CN d f) λq=>AC ({Lo:=(if i64.wrap (h.Lo-j.Lo)<2199023255552 then i64.wrap (h.Lo-j.Lo)else 2199023255552),Hi:=(if i64.wrap (m.Hi-q.Hi)<2199023255552 then i64.wrap (m.Hi-q.Hi)else 2199023255552):CK})
instance AAC(F:Int)(G:Int)(j:CE)(m:CG)(q:AA Int)(t:AA CK)(y:AA CQ)(B:AA Ud)(E:Int)(d:AA (Int×Ud))(f:CE)(g:CG):Kq (KA n F G j m q t y B E d f g) 170 (qr 0 0 F G) [.c 119 (match_task.tc j m q t y B (.map 1) (.fn (.func 93) [] [.p 2 0,.p 3 0,.p 4 0]) E),.map (Qi I (λx=>A.a (Ud.c x)) d),.c 111 [.p 0 0],.c 33 (CE.c f),.c 39 (CG.c g)] (λr=>.a [I r.Lo,I r.Hi]) (λr=>[.c 119 (match_task.tc j m q t y B (.map 1) (.fn (.func 93) [] [.p 2 0,.p 3 0,.p 4 0]) E),.map (Qi I (λx=>A.a (Ud.c x)) d),.c 111 [.p 0 0],.c 33 (CE.c f),.c 39 (CG.c g),.c 69 [I r.Lo,I r.Hi]]):=by
 refine Kg 6 func170 Z Z Z Z λr h=>GX 36 Z (D 5 Z ?_);obtain⟨N,H,h⟩:=Yf h;refine DS.wo (x:=.rp (CK.c N)) ?_ ?_
 .exact Ix H EO EN Z Wp
 refine D 7 Z ?_;obtain⟨O,J,h⟩:=Yf h;refine DS.wo (x:=.rp (CK.c O)) ?_ ?_
 .exact Ix J EO EN Z Wp
 refine D 3 Z ?_;refine DS.v (CY.min Z Z Z Z) ?_;refine D 5 Z ?_;obtain⟨P,L,h⟩:=Yf h;refine DS.wo (x:=.rp (CK.c P)) ?_ ?_
 .exact Ix L EO EN Z Wp
 refine D 7 Z ?_;obtain⟨Q,M,h⟩:=Yf h;refine DS.wo (x:=.rp (CK.c Q)) ?_ ?_
 .exact Ix M EO EN Z Wp
 refine D 3 Z ?_;refine DS.v (CY.min Z Z Z Z) ?_;exact bu h
def LO(f:Ud)(G:Int)(g:Ud)(H:Int)(J:CE)(j:CG)(L:AA Int)(M:AA CK)(N:AA CQ)(m:AA Ud)(q:Int)(t:AA (Int×Ud))(x:CE)(y:CG):AB Bool:=AH ((bif ((i64.wrap (f.AW+1)) != (i64.wrap (g.AW+1)))then AH (CN j.BE (i64.wrap (g.AW+1))) λO=>AH (CN O (i64.wrap (f.AW+1))) λB=>AH (CN j.BE (i64.wrap (f.AW+1))) λE=>AH (CN E (i64.wrap (g.AW+1))) λF=>AC ({Lo:=i64.wrap ((i64.wrap (g.Ay.Lo-f.Ay.Hi))-B),Hi:=i64.wrap ((i64.wrap (g.Ay.Hi-f.Ay.Lo))+F):CK})else AC ({Lo:=i64.wrap (g.Ay.Lo-f.Ay.Hi),Hi:=i64.wrap (g.Ay.Hi-f.Ay.Lo):CK})):AB CK) λh=>AH (KA n G H J j L M N m q t x y) λd=>AH (Mw n ({Lo:=h.Lo,Hi:=h.Hi:CK}) ({Lo:=d.Lo,Hi:=d.Hi:CK})) λP=>AC (AG ((if h.Lo<d.Lo then d.Lo else h.Lo)<=(if d.Hi<h.Hi then d.Hi else h.Hi)))
instance x?(q:Ud)(t:Int)(y:Ud)(B:Int)(E:CE)(F:CG)(G:AA Int)(H:AA CK)(J:AA CQ)(d:AA Ud)(f:Int)(g:AA (Int×Ud))(j:CE)(m:CG):Ks (LO n q t y B E F G H J d f g j m) 100 [.p 0 0,.a (Ud.c q),I t,.a (Ud.c y),I B] [.c 119 (match_task.tc E F G H J d (.map 1) (.fn (.func 93) [] [.p 2 0,.p 3 0,.p 4 0]) f),.map (Qi I (λx=>A.a (Ud.c x)) g),.c 111 [.p 0 0],.c 33 (CE.c j),.c 39 (CG.c m)] (λr=>.b r):=by
 exact Kg 0 func100 Z Z Z Z λr h=>by
  have:=hn 40101 [0,1,2,3,4,7] [0,2,4,11] (λ(_:CK)=>[]) (λL=>[(5,.w (.c 69 (CK.c L)))]);have:=hk 4 30 [29] [(0,0,0),(0,0,0),(0,0,0),(0,0,0),(0,0,0),(0,0,0),(0,0,0),(0,0,0),(0,0,0),(0,0,0),(0,0,0),(0,0,0),(0,0,0),(0,0,0),(0,0,0),(0,0,0),(0,0,1),(0,0,1),(0,0,1),(0,0,1),(0,0,1),(0,0,1),(0,0,1),(0,0,1),(0,0,1),(0,0,1),(0,0,1),(0,0,1),(0,0,0),(1,0,0)];have:=hx 4 30 0 4 [AD,AD,AD,AD,AD,AD,AD,AD,AD,AD,AD,AD,AD,AD,AD,AD,AD,AD,AD,AD,AD,AD,AD,AD,AD,AD,AD,AD,AD,AE] [[],[],[],[],[],[],[],[],[],[],[],[],[],[],[],[],[],[],[],[],[],[],[],[],[],[],[],[],[],[]] [[],[29]] [[(0,0)],[(0,0)],[(0,0)],[(0,0)],[(0,0)],[(0,0)],[(0,0)],[(0,0)],[(0,0)],[(0,0)],[(0,0)],[(0,0)],[(0,0)],[(0,0)],[(0,0)],[(0,0)],[(0,0),(1,1)],[(0,0),(1,1)],[(0,0),(1,1)],[(0,0),(1,1)],[(0,0),(1,1)],[(0,0),(1,1)],[(0,0),(1,1)],[(0,0),(1,1)],[(0,0),(1,1)],[(0,0),(1,1)],[(0,0),(1,1)],[(0,0),(1,1)],[(0,0)],[(0,1)]];have:=hk 5 5 [4] [(0,0,1),(0,0,0),(0,0,0),(0,0,0),(1,0,0)];exact bu h
def LE(d:Uf)(m:Int)(G:Int)(q:CE)(t:CG)(x:AA Int)(y:AA CK)(B:AA CQ)(E:AA Ud)(f:Int)(g:AA (Int×Ud))(h:CE)(j:CG):AB (Uf×Bool):=AH (Ik n m G q t x y B E f g h j) λF=>(bif (!F.2)then AC ({d with row:=i64.wrap (d.row+1):Uf},AG ((i64.wrap (d.row+1))<=q.AT.BK))else AH ((bif 0<=G then AH (Ps n G m h j q t x y B E f g) λH=>(bif (!H)then AC AE else(bif 0<=d.Bb then AH (LO n d.Bt d.Bb F.1 m q t x y B E f g h j) λJ=>AC (!J)else AC AD))else(bif 0<=d.Bb then AH (LO n d.Bt d.Bb F.1 m q t x y B E f g h j) λL=>AC (!L)else AC AD)):AB Bool) λM=>(bif M then AC (d,AD)else AC ({Bb:=m,Bt:=F.1,row:=0:Uf},AE)))
instance n?(d:Uf)(G:Int)(J:Int)(q:CE)(t:CG)(y:AA Int)(B:AA CK)(E:AA CQ)(F:AA Ud)(f:Int)(g:AA (Int×Ud))(j:CE)(m:CG):Kq (LE n d G J q t y B E F f g j m) 32 [.p 0 0,.a (Uf.c d),I G,I J] [.c 119 (match_task.tc q t y B E F (.map 1) (.fn (.func 93) [] [.p 2 0,.p 3 0,.p 4 0]) f),.map (Qi I (λx=>A.a (Ud.c x)) g),.c 111 [.p 0 0],.c 33 (CE.c j),.c 39 (CG.c m)] (λr=>.t [.a (Uf.c r.1),.b r.2]) (λr=>[.c 119 (match_task.tc q t y B E F (.map 1) (.fn (.func 93) [] [.p 2 0,.p 3 0,.p 4 0]) f),.map (Qi I (λx=>A.a (Ud.c x)) g),.c 111 [.p 0 0],.c 33 (CE.c j),.c 39 (CG.c m),.c 130 (Uf.c r.1)]):=by
 refine Kg 12 func32 Z Z Z Z λr h=>Cd [0,1,2,3,4] h Kc Z λL N h=>Fg 15 Z Z (Cn Z h (λ_ h=>?_) (λ_ h=>?_))
 .refine Gc 10 Z (Iu 11 [10] [(0,0,0),(0,0,1),(0,0,1),(0,0,1),(0,0,1),(0,0,1),(0,0,1),(0,0,1),(0,0,1),(0,0,1),(1,0,0)] (by kernel_rfl) (Dk 2 Z ?_));refine Ll (lo:=0) (x:=I (i64.wrap (d.row+1))) ⟨Z,trivial⟩ ?_;refine Dk 5 Z ?_;refine Ll (lo:=0) (x:=I q.AT.BK) ⟨Z,trivial⟩ ?_;refine Dk 1 Z ?_;refine DK.un (X1:=[.c 119 (match_task.tc q t y B E F (.map 1) (.fn (.func 93) [] [.p 2 0,.p 3 0,.p 4 0]) f),.map (Qi I (λx=>A.a (Ud.c x)) g),.c 111 [.p 0 0],.c 33 (CE.c j),.c 39 (CG.c m),.c 130 (Uf.c ({d with row:=i64.wrap (d.row+1):Uf})),.c 130 (Uf.c ({d with row:=i64.wrap (d.row+1):Uf})),.c 128 (Ud.c L.1),.c 128 (Ud.c L.1)]) ?_ ?_
  .refine vU (Ex Z Z Z sizeOf130 Z Z Z Z Z Z Z) ?_;refine ei (H:=[_,_,_,_,_,_,.c 130 (Uf.c ({d with row:=i64.wrap (d.row+1):Uf})),_,_]) Z ?_;exact Wp
  refine DK.done Z Z (Go 5 Z ?_);exact bu h
 exact bu h
end Go.Sw
