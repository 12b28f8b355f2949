/- What the functions compute that OutcomeOf reaches, and that their calls refine it (part 6 of 7). -/
import Derived.Test.YtmaeahbcmjpfpaaGreatW23Of5
set_option linter.unusedVariables false
set_option linter.unusedSimpArgs false
set_option maxRecDepth 100000
set_option maxHeartbeats 4000000
namespace Go.Sw
open Option renaming some→AC,none→AF,bind→AH
open Bool renaming false→AD,true→AE
open Decidable renaming decide→AG
open List renaming length→AI
variable (n:Nat)
open List(map)
open Int(toNat)
open Go.IntKind(i64 u64 u8)
open Go.Proofs Tryz
def qG(n:Nat)(f:(AA AP)×Int)(g:CP)(d:Int):AB (CJ Int Int):=AH ((bif d<(AI f.1:Int) then AH (CN f.1 d) λh=>AC (AG (h.Bf<g.AP.Bf))else AC AD):AB Bool) λj=>(bif j then AC (.k (i64.wrap (d+1)))else AC (.d d))
def UW(G:CE)(h:AA CP)(d:(AA AP)×Int):AB (CJ ((AA AP)×Int) (AA AP)):=(bif d.2<(AI h:Int) then AH (AH (CN h d.2) λf=>AH (AH (CN h d.2) λj=>(bif (j.AV != 1)then AC AE else(bif (AI G.AO:Int)<=f.AP.AN then AC AE else(bif (AI G.Ax:Int)<=f.AP.Aw then AC AE else AH (Ri n d.1 f.AP.Bf) λm=>AC (AG (0<=m))))):AB Bool) λq=>(bif q then AC d.1 else AH (iter (qG n d f) n 0:AB Int) λg=>AH (Do d.1 0 g) λt=>AH (app ([]:AA AP) t) λx=>AH (app x [f.AP]) λy=>AH (Do d.1 g (AI d.1:Int)) λB=>AH (app y B) λE=>AC E):AB (AA AP)) λF=>AC (.k (F,i64.wrap (d.2+1)))else AC (.d d.1))
def VV(n:Nat)(f:AA AP)(g:Int)(d:Int):AB (CJ Int (CJ Unit (CJ Int (CJ Unit ((AA AP)×Int))))):=(bif d<g then AH (CN f g) λh=>AH (CN f d) λj=>(bif (h.A'==j.A')then AC (.d (.d (.d (.d ([],180)))))else AC (.k (i64.wrap (d+1))))else AC (.d (.k ())))
def UT(g:AA AP)(d:Int):AB (CJ Int (CJ Unit ((AA AP)×Int))):=(bif d<(AI g:Int) then AH (iter (VV n g d) n 0:AB (CJ Unit (CJ Int (CJ Unit ((AA AP)×Int))))) λh=>match h with|.k f=>(AC (.k (i64.wrap (d+1))))|.d f=>AC f else AC (.d (.k ())))
def Mp(h:CE)(m:AA CP):AB ((AA AP)×Int):=AH (D2 n h) λj=>(bif (j != 0)then AC ([],j)else AH (HF n m) λq=>AH (iter (UW n h q) n (([]:AA AP),0):AB (AA AP)) λd=>(bif 4000<(AI d:Int) then AC ([],2)else AH (iter (UT n d) n 0:AB (CJ Unit ((AA AP)×Int))) λg=>match g with|.k f=>(AC (d,0))|.d f=>AC f))
instance Y?(B:CE)(E:AA CP):Kq (Mp n B E) 21 [.a (CE.c B),.q 57 (map CP.c E)] [] (λr=>.t [.o 0 (AI r.1) 8,I r.2]) (λr=>[.r 41 8 (map AP.c r.1)]):=by
 exact Kg 0 func21 Z Z Z Z λr h=>by
  have:=hn 70803 [2] [] (λ(f:AA AP)=>[(7,.o 0 (AI f) 8)]) (λf=>[(0,.w (.r 41 8 (map AP.c f)))]);have:=hl 70803 [1,0,2] [1,2] (λ(d:(AA AP)×Int)=>[(7,.o 2 (AI d.1) 8),(8,I d.2)]) (λd=>[(2,.w (.r 41 8 (map AP.c d.1)))]);have:=hn 90602 [0,1,2] [1,2,8] (λ(g:AA AP)=>[(7,.o 2 (AI g) 8)]) (λg=>[(2,.w (.r 41 8 (map AP.c g)))]);have:=hn 100100 [0,1,2,3] [1,2,7,8,9] (λ(j:Bool)=>[(60,.b j)]) Ze;have:=hn 120201 [0,1,2,3] [1,2,7,8,9] (λ(m:Int)=>[(10,I m)]) Ze;have:=hl 120201 [0,1,2,3] [1,2,7,8,9] (λ(q:Int)=>[(10,I q)]) Ze;have:=hn 120100 [0,1,2,3] [1,2,7,8,9,10] (λ(t:Bool)=>[(74,.b t)]) Ze;have:=hk 14 11 [0,4,7] [(1,0,0),(0,0,1),(0,0,1),(0,0,1),(1,1,0),(0,0,2),(0,0,2),(1,2,0),(0,0,3),(0,0,3),(0,0,3)];have:=hn 180703 [0] [7] (λ(_:Unit)=>[]) Ze;have:=hl 180703 [0] [7] (λ(x:Int)=>[(11,I x)]) Ze;have:=hn 210402 [0] [7,11] (λ(_:Unit)=>[]) Ze;have:=hl 210402 [0] [7,11] (λ(y:Int)=>[(12,I y)]) Ze;exact bu h
def WK(n:Nat)(h:AA CP)(g:A_)(d:Int):AB (CJ Int (CJ Unit Bool)):=(bif d<(AI h:Int) then AH (CN h d) λf=>AH (AH (CN h d) λj=>(bif (j.AV==6)then(bif (f.A2.Af==g.Af)then(bif (f.A2.Ad==g.Ad)then(bif f.A2.Lo<=g.BU then AC (AG (g.BU<=f.A2.Hi))else AC AD)else AC AD)else AC AD)else AC AD):AB Bool) λm=>(bif m then AC (.d (.d AE))else AC (.k (i64.wrap (d+1))))else AC (.d (.k ())))
def Pa(g:AA CP)(h:A_):AB Bool:=AH (iter (WK n g h) n 0:AB (CJ Unit Bool)) λf=>match f with|.k d=>(AC AD)|.d d=>AC d
instance _E(d:AA CP)(f:A_):Kb (Pa n d f) 221 [.q 57 (map CP.c d),.a (A_.c f)]:=KB func221
def Pq(n:Nat)(d:A_)(f:A_):AB Bool:=(bif (d.A' != f.A')then AC (AG (d.A'<f.A'))else(bif (d.Af != f.Af)then AC (AG (d.Af<f.Af))else(bif (d.Ad != f.Ad)then AC (AG (d.Ad<f.Ad))else AC (AG (d.BU<f.BU)))))
instance _R(d:A_)(f:A_):Kb (Pq n d f) 222 [.a (A_.c d),.a (A_.c f)]:=KB func222
def qN(f:(AA A_)×Int)(g:CP)(d:Int):AB (CJ Int Int):=AH ((bif d<(AI f.1:Int) then AH (CN f.1 d) λh=>AH (Pq n h g.A_) λj=>AC j else AC AD):AB Bool) λm=>(bif m then AC (.k (i64.wrap (d+1)))else AC (.d d))
def V_(F:CE)(h:AA CP)(d:(AA A_)×Int):AB (CJ ((AA A_)×Int) (AA A_)):=(bif d.2<(AI h:Int) then AH (AH (CN h d.2) λf=>AH (AH (CN h d.2) λj=>(bif (j.AV != 2)then AC AE else(bif (AI F.An:Int)<=f.A_.Af then AC AE else AH (Pa n h f.A_) λm=>AC m)):AB Bool) λq=>(bif q then AC d.1 else AH (iter (qN n d f) n 0:AB Int) λg=>AH (Do d.1 g (AI d.1:Int)) λt=>AH (app [f.A_] t) λx=>AH (Do d.1 0 g) λy=>AH (app y x) λB=>AC B):AB (AA A_)) λE=>AC (.k (E,i64.wrap (d.2+1)))else AC (.d d.1))
def RZ(f:CE)(g:AA CP):AB (AA A_):=AH (HF n g) λh=>AH (iter (V_ n f h) n (([]:AA A_),0):AB (AA A_)) λd=>AC d
instance G?(x:CE)(y:AA CP):Kr (RZ n x y) 142 [.a (CE.c x),.q 57 (map CP.c y)] 87 4 A_.c:=by
 exact Kg 0 func142 Z Z Z Z λr h=>by
  have:=hn 40903 [2] [] (λ(f:AA A_)=>[(6,.o 0 (AI f) 4)]) (λf=>[(0,.w (.r 87 4 (map A_.c f)))]);have:=hl 40903 [0,1,2] [2,5] (λ(d:(AA A_)×Int)=>[(6,.o 2 (AI d.1) 4),(7,I d.2)]) (λd=>[(2,.w (.r 87 4 (map A_.c d.1)))]);have:=hn 60702 [0,1,2] [2,5,7] (λ(g:AA A_)=>[(6,.o 2 (AI g) 4)]) (λg=>[(2,.w (.r 87 4 (map A_.c g)))]);have:=hn 70100 [0,1,2,3] [2,5,6,7,8] (λ(j:Bool)=>[(43,.b j)]) Ze;have:=hn 90201 [0,1,2,3] [2,5,6,7,8] (λ(m:Int)=>[(9,I m)]) Ze;have:=hl 90201 [0,1,2,3] [2,5,6,7,8] (λ(q:Int)=>[(9,I q)]) Ze;have:=hn 90100 [0,1,2,3] [2,5,6,7,8,9] (λ(t:Bool)=>[(55,.b t)]) Ze;have:=hk 11 5 [1] [(0,0,0),(1,0,0),(0,0,1),(0,0,1),(0,0,1)];exact bu h
def UZ(n:Nat)(Q:CE)(f:AA A_)(d:(AA CQ)×Int):AB (CJ ((AA CQ)×Int) (AA CQ)):=(bif d.2<(AI f:Int) then AH ((bif 0<=(i64.wrap ((AI d.1:Int)-1)) then AH (CN d.1 (i64.wrap ((AI d.1:Int)-1))) λg=>AH (CN f d.2) λh=>(bif (g.A'==h.A')then AH (CN d.1 (i64.wrap ((AI d.1:Int)-1))) λj=>AH (CN f d.2) λm=>(bif (j.Af==m.Af)then AH (CN d.1 (i64.wrap ((AI d.1:Int)-1))) λq=>AH (CN f d.2) λt=>(bif (q.Ad==t.Ad)then AH (CN f d.2) λx=>AH (CN d.1 (i64.wrap ((AI d.1:Int)-1))) λy=>AC (AG ((i64.wrap (x.BU-y.Ai))<=Q.AT.BH))else AC AD)else AC AD)else AC AD)else AC AD):AB Bool) λB=>AH ((bif B then AH (CN f d.2) λE=>AH (CN d.1 (i64.wrap ((AI d.1:Int)-1))) λF=>AH (JF d.1 (i64.wrap ((AI d.1:Int)-1)) ({F with Ai:=E.BU:CQ})) λG=>AC G else AH (CN f d.2) λH=>AH (CN f d.2) λJ=>AH (CN f d.2) λL=>AH (CN f d.2) λM=>AH (CN f d.2) λN=>AH (app d.1 [{Af:=H.Af,Ad:=J.Ad,A':=L.A',BD:=M.BU,Ai:=N.BU:CQ}]) λO=>AC O):AB (AA CQ)) λP=>AC (.k (P,i64.wrap (d.2+1)))else AC (.d d.1))
def RA(d:CE)(g:AA CP):AB (AA CQ):=AH (D2 n d) λh=>(bif (h != 0)then AC ([]:AA CQ)else AH (RZ n d g) λj=>AH (iter (UZ n d j) n (([]:AA CQ),0):AB (AA CQ)) λf=>AC f)
instance _n(m:CE)(q:AA CP):Kr (RA n m q) 77 [.a (CE.c m),.q 57 (map CP.c q)] 122 5 CQ.c:=by
 exact Kg 0 func77 Z Z Z Z λr h=>by
  have:=hn 60602 [1] [] (λ(f:AA CQ)=>[(5,.o 0 (AI f) 5)]) (λf=>[(0,.w (.r 122 5 (map CQ.c f)))]);have:=hl 60602 [0,1,2] [2,6] (λ(d:(AA CQ)×Int)=>[(5,.o 1 (AI d.1) 5),(7,I d.2)]) (λd=>[(1,.w (.r 122 5 (map CQ.c d.1)))]);have:=hn 90100 [0,1,2] [2,5,6,7,8] (λ(j:Bool)=>[(83,.b j)]) Ze;have:=hn 100201 [0,1,2] [2,6,7] (λ(g:AA CQ)=>[(5,.o 1 (AI g) 5)]) (λg=>[(1,.w (.r 122 5 (map CQ.c g)))]);exact bu h
def U_(n:Nat)(q:Int)(f:AA CQ)(d:(AA CQ)×Int):AB (CJ ((AA CQ)×Int) (AA CQ)):=(bif d.2<(AI f:Int) then AH (CN f d.2) λg=>AH ((bif (g.A'==q)then AH (CN f d.2) λh=>AH (app d.1 [h]) λj=>AC j else AC d.1):AB (AA CQ)) λm=>AC (.k (m,i64.wrap (d.2+1)))else AC (.d d.1))
def Rq(f:CE)(g:AA CP)(h:Int):AB (AA CQ):=AH (RA n f g) λj=>AH (iter (U_ n h j) n (([]:AA CQ),0):AB (AA CQ)) λd=>AC d
instance kx(j:CE)(m:AA CP)(q:Int):Kr (Rq n j m q) 22 [.a (CE.c j),.q 57 (map CP.c m),I q] 122 5 CQ.c:=by
 exact Kg 0 func22 Z Z Z Z λr h=>by
  have:=hn 40402 [1] [] (λ(f:AA CQ)=>[(8,.o 0 (AI f) 5)]) (λf=>[(0,.w (.r 122 5 (map CQ.c f)))]);have:=hl 40402 [1,2] [2,7] (λ(d:(AA CQ)×Int)=>[(8,.o 1 (AI d.1) 5),(9,I d.2)]) (λd=>[(1,.w (.r 122 5 (map CQ.c d.1)))]);have:=hn 70101 [0,0] [2,7,9] (λ(g:AA CQ)=>[(8,.o 1 (AI g) 5)]) (λg=>[(1,.w (.r 122 5 (map CQ.c g)))]);exact bu h
def qA(n:Nat)(f:(AA Int)×Int)(g:CP)(h:CP)(d:Int):AB (CJ Int Int):=AH ((bif d<(AI f.1:Int) then AH (CN f.1 d) λj=>AC (AG (j<(i64.wrap (g.Ao.BS+h.Ap.BS))))else AC AD):AB Bool) λm=>(bif m then AC (.k (i64.wrap (d+1)))else AC (.d d))
def VT(j:AA CP)(G:Int)(d:(AA Int)×Int):AB (CJ ((AA Int)×Int) (AA Int)):=(bif d.2<(AI j:Int) then AH (AH (CN j d.2) λm=>(bif (m.AV != G)then AC d.1 else AH (CN j d.2) λg=>AH (CN j d.2) λh=>AH (iter (qA n d g h) n 0:AB Int) λf=>AH ((bif f<(AI d.1:Int) then AH (CN d.1 f) λq=>AC (q==(i64.wrap (g.Ao.BS+h.Ap.BS)))else AC AD):AB Bool) λt=>(bif t then AC d.1 else AH (Do d.1 f (AI d.1:Int)) λx=>AH (app [i64.wrap (g.Ao.BS+h.Ap.BS)] x) λy=>AH (Do d.1 0 f) λB=>AH (app B y) λE=>AC E)):AB (AA Int)) λF=>AC (.k (F,i64.wrap (d.2+1)))else AC (.d d.1))
def Mh(f:AA CP)(g:Int):AB (AA Int):=AH (iter (VT n f g) n (([]:AA Int),0):AB (AA Int)) λd=>AC d
instance Q?(x:AA CP)(y:Int):Kr (Mh n x y) 223 [.q 57 (map CP.c x),I y] 3 1 eI:=by
 exact Kg 0 func223 Z Z Z Z λr h=>by
  have:=hn 31004 [0] [] (λ(f:AA Int)=>[(5,.o 0 (AI f) 1)]) (λf=>[(0,.w (.r 3 1 (map eI f)))]);have:=hl 31004 [0] [0,1] (λ(d:(AA Int)×Int)=>[(5,.o 0 (AI d.1) 1),(6,I d.2)]) (λd=>[(0,.w (.r 3 1 (map eI d.1)))]);have:=hn 50803 [0] [0,1,6] (λ(g:AA Int)=>[(5,.o 0 (AI g) 1)]) (λg=>[(0,.w (.r 3 1 (map eI g)))]);have:=hn 80201 [0] [0,1,5,6,7] (λ(j:Int)=>[(8,I j)]) Ze;have:=hl 80201 [0] [0,1,5,6,7] (λ(m:Int)=>[(8,I m)]) Ze;have:=hn 80100 [0] [0,1,5,6,7,8] (λ(q:Bool)=>[(48,.b q)]) Ze;have:=hn 100100 [0] [0,1,5,6,7,8] (λ(t:Bool)=>[(62,.b t)]) Ze;exact bu h
def V2(n:Nat)(g:AA CP)(y:AA Int)(f:(AA Ap)×Int)(d:Int):AB (CJ Int (AA Ap)):=(bif d<(AI g:Int) then AH (AH (CN g d) λh=>(bif (h.AV==8)then AH (CN g d) λj=>AH (CN y f.2) λm=>AC (j.Ap.BS==m)else AC AD):AB Bool) λq=>(bif q then AH (CN g d) λt=>AH (app f.1 [t.Ap]) λx=>AC (.d x)else AC (.k (i64.wrap (d+1))))else AC (.d f.1))
def U7(h:AA CP)(g:AA Int)(d:(AA Ap)×Int):AB (CJ ((AA Ap)×Int) (AA Ap)):=(bif d.2<(AI g:Int) then AH (iter (V2 n h g d) n 0:AB (AA Ap)) λf=>AC (.k (f,i64.wrap (d.2+1)))else AC (.d d.1))
def M5(g:AA CP):AB (AA Ap):=AH (HF n g) λf=>AH (Mh n f 8) λh=>AH (iter (U7 n f h) n (([]:AA Ap),0):AB (AA Ap)) λd=>AC d
instance m?(q:AA CP):Kr (M5 n q) 143 [.q 57 (map CP.c q)] 99 4 Ap.c:=by
 exact Kg 0 func143 Z Z Z Z λr h=>by
  have:=hn 50703 [1] [] (λ(f:AA Ap)=>[(5,.o 0 (AI f) 4)]) (λf=>[(0,.w (.r 99 4 (map Ap.c f)))]);have:=hl 50703 [1,2] [3,4] (λ(d:(AA Ap)×Int)=>[(5,.o 1 (AI d.1) 4),(6,I d.2)]) (λd=>[(1,.w (.r 99 4 (map Ap.c d.1)))]);have:=hn 80402 [0,1] [3,4,6] (λ(g:AA Ap)=>[(5,.o 1 (AI g) 4)]) (λg=>[(1,.w (.r 99 4 (map Ap.c g)))]);have:=hl 80402 [0,1] [3,4,5,6] (λ(j:Int)=>[(7,I j)]) Ze;have:=hn 100100 [0,1] [3,4,5,6,7] (λ(m:Bool)=>[(43,.b m)]) Ze;exact bu h
def qO(n:Nat)(f:AA Int)(j:Int)(d:Int):AB (CJ Int Int):=AH ((bif d<(AI f:Int) then AH (CN f d) λg=>AC (AG (g<j))else AC AD):AB Bool) λh=>(bif h then AC (.k (i64.wrap (d+1)))else AC (.d d))
def Mv(d:AA Int)(g:Int):AB (AA Int):=AH (iter (qO n d g) n 0:AB Int) λf=>AH ((bif f<(AI d:Int) then AH (CN d f) λh=>AC (h==g)else AC AD):AB Bool) λj=>(bif j then AC d else AH (Do d f (AI d:Int)) λm=>AH (app [g] m) λq=>AH (Do d 0 f) λt=>AH (app t q) λx=>AC x)
instance e?(d:AA Int)(f:Int):Kq (Mv n d f) 144 [.o 0 (AI d) 1,I f] [.r 3 1 (map eI d)] (λr=>.o 1 (AI r) 1) (λr=>[.dead,.r 3 1 (map eI r)]):=by
 exact Kg 0 func144 Z Z Z Z λr h=>by
  have:=hn 20201 [0] [0,1] (λ(g:Int)=>[(5,I g)]) Ze;have:=hl 20201 [0] [0,1] (λ(j:Int)=>[(5,I j)]) Ze;have:=hn 20100 [0] [0,1,5] (λ(m:Bool)=>[(18,.b m)]) Ze;have:=hn 40100 [0] [0,1,5] (λ(q:Bool)=>[(32,.b q)]) Ze;exact bu h
def WE(n:Nat)(f:AA CP)(q:Int)(t:Int)(d:Int):AB (CJ Int (CJ Unit Int)):=(bif d<(AI f:Int) then AH (AH (CN f d) λg=>(bif (g.AV==10)then AH (CN f d) λh=>(bif (h.Ao.BS==q)then AH (CN f d) λj=>AC (j.Ao.Bi==t)else AC AD)else AC AD):AB Bool) λm=>(bif m then AC (.d (.d d))else AC (.k (i64.wrap (d+1))))else AC (.d (.k ())))
def KE(g:AA CP)(h:Int)(j:Int):AB Int:=AH (iter (WE n g h j) n 0:AB (CJ Unit Int)) λf=>match f with|.k d=>(AC (-1))|.d d=>AC d
instance AAF(d:AA CP)(f:Int)(g:Int):Ki (KE n d f g) 301 [.q 57 (map CP.c d),I f,I g]:=KB func301
def WW(n:Nat)(f:AA CP)(q:Int)(d:Int):AB (CJ Int (CJ Unit Bool)):=(bif d<(AI f:Int) then AH (AH (CN f d) λg=>(bif (g.AV==11)then AH (CN f d) λh=>(bif (h.BG.BS==q)then AH (CN f d) λj=>AC j.BG.Bl else AC AD)else AC AD):AB Bool) λm=>(bif m then AC (.d (.d AE))else AC (.k (i64.wrap (d+1))))else AC (.d (.k ())))
def RW(f:AA CP)(g:Int):AB Bool:=AH (AH (KE n f g 1) λj=>(bif j<0 then AC AE else AH (KE n f g 2) λm=>AC (AG (0<=m))):AB Bool) λq=>(bif q then AC AD else AH (iter (WW n f g) n 0:AB (CJ Unit Bool)) λh=>match h with|.k d=>(AC AD)|.d d=>AC d)
instance D?(d:AA CP)(f:Int):Kb (RW n d f) 300 [.q 57 (map CP.c d),I f]:=KB func300
def Mx(d:AA CP)(f:Int):AB Int:=AH (RW n d f) λh=>(bif h then AC (-1)else AH (KE n d f 2) λg=>(bif 0<=g then AC g else AH (KE n d f 1) λj=>AC j))
instance g?(d:AA CP)(f:Int):Ki (Mx n d f) 224 [.q 57 (map CP.c d),I f]:=KB func224
def UV(g:AA CP)(h:AA Int)(d:(AA Ao)×Int):AB (CJ ((AA Ao)×Int) (AA Ao)):=(bif d.2<(AI h:Int) then AH (CN h d.2) λj=>AH (Mx n g j) λf=>AH ((bif 0<=f then AH (CN g f) λm=>AH (app d.1 [m.Ao]) λq=>AC q else AC d.1):AB (AA Ao)) λt=>AC (.k (t,i64.wrap (d.2+1)))else AC (.d d.1))
def PX(g:AA CP):AB (AA Ao):=AH (HF n g) λd=>AH (Mh n d 10) λh=>AH (iter (UV n d h) n (([]:AA Ao),0):AB (AA Ao)) λf=>AC f
instance _B(j:AA CP):Kr (PX n j) 145 [.q 57 (map CP.c j)] 103 6 Ao.c:=by
 exact Kg 0 func145 Z Z Z Z λr h=>by
  have:=hn 50502 [1] [] (λ(f:AA Ao)=>[(5,.o 0 (AI f) 6)]) (λf=>[(0,.w (.r 103 6 (map Ao.c f)))]);have:=hl 50502 [1,2] [3,4] (λ(d:(AA Ao)×Int)=>[(5,.o 1 (AI d.1) 6),(6,I d.2)]) (λd=>[(1,.w (.r 103 6 (map Ao.c d.1)))]);have:=hn 90101 [0,0] [3,4,6] (λ(g:AA Ao)=>[(5,.o 1 (AI g) 6)]) (λg=>[(1,.w (.r 103 6 (map Ao.c g)))]);exact bu h
def P2(g:AA CP)(h:Int):AB (Ao×Bool):=AH (HF n g) λd=>AH (Mx n d h) λf=>(bif f<0 then AC (UD,AD)else AH (CN d f) λj=>AC (j.Ao,AE))
instance _c(f:AA CP)(g:Int):Kq (P2 n f g) 225 [.q 57 (map CP.c f),I g] [] (λr=>.t [.a (Ao.c r.1),.b r.2]) (λr=>[.c 103 (Ao.c r.1)]):=by
 refine Kg 9 func225 Z Z Z Z λr h=>Cd [] h Kc Z λt m h=>Fg 7 Z Z (Cb h Kc Z (lo (ls ln)) λx q h=>Go 10 Z (Cn Z h (λ_ h=>?_) (λ_ h=>?_)))
 .exact bu h
 refine Gc 6 Z (Bd h λy d h=>(vV (Qw d Z EM EU) ?_));refine Fp Qme Z (vV (Yd Z isAgg103 Gn Z (Qu d) Z Z) ?_);exact bu h
def WA(n:Nat)(j:Int)(f:AA Ap)(d:Int):AB (CJ Int (CJ Unit (Ap×Bool))):=(bif d<(AI f:Int) then AH (CN f d) λg=>(bif (g.BS==j)then AH (CN f d) λh=>AC (.d (.d (h,AE)))else AC (.k (i64.wrap (d+1))))else AC (.d (.k ())))
def P4(g:AA CP)(h:Int):AB (Ap×Bool):=AH (M5 n g) λj=>AH (iter (WA n h j) n 0:AB (CJ Unit (Ap×Bool))) λf=>match f with|.k d=>(AC (UC,AD))|.d d=>AC d
instance _e(d:AA CP)(f:Int):Kq (P4 n d f) 226 [.q 57 (map CP.c d),I f] [] (λr=>.t [.a (Ap.c r.1),.b r.2]) (λr=>[.c 99 (Ap.c r.1)]):=by
 exact Kg 0 func226 Z Z Z Z λr h=>by
  have:=hn 30402 [0] [4] (λ(_:Unit)=>[]) Ze;have:=hl 30402 [0,1] [1,4,6] (λ(g:Int)=>[(7,I g)]) Ze;exact bu h
def Rg(j:CE)(m:AA CP)(q:Int):AB (Int×CL×Bool):=AH (P2 n m q) λd=>AH ((bif d.2 then(bif (d.1.AV==3)then AC (.d (d.1.Bf,{AS:=d.1.AS,BV:=d.1.BW,Aj:=0,BP:=AD:CL},AE))else(bif (d.1.AV==4)then AC (.d (d.1.Bf,{AS:=d.1.AS,BV:=0,Aj:=d.1.BW,BP:=AD:CL},AE))else(bif (d.1.AV==5)then AC (.d (d.1.Bf,{AS:=d.1.AS,BV:=0,Aj:=0,BP:=AE:CL},AE))else(bif (d.1.AV==2)then AC (.d (0,Uz,AD))else AC (.k ())))))else AC (.k ())):AB (CJ Unit (Int×CL×Bool))) λx=>match x with|.k h=>(AH (P4 n m q) λf=>AH ((bif (!f.2)then AC AE else(bif f.1.Ag<0 then AC AE else AC (AG ((AI j.Ah:Int)<=f.1.Ag)))):AB Bool) λt=>(bif t then AC (0,Uz,AD)else AH (CN j.Ah f.1.Ag) λg=>AC (f.1.Bf,{AS:=f.1.AS,BV:=g.BV,Aj:=g.Aj,BP:=g.BP:CL},AE)))|.d h=>AC h
instance N?(d:CE)(f:AA CP)(g:Int):Kq (Rg n d f g) 146 [.a (CE.c d),.q 57 (map CP.c f),I g] [] (λr=>.t [I r.1,.a (CL.c r.2.1),.b r.2.2]) (λr=>[.c 67 (CL.c r.2.1)]):=by
 exact Kg 0 func146 Z Z Z Z λr h=>by
  have:=hn 30905 [0,1] [1,2,3,7] (λ(_:Unit)=>[]) Ze;have:=hn 130100 [0,1,3] [3,7,11] (λ(j:Bool)=>[(71,.b j)]) Ze;exact bu h
def UU(f:AA Ap)(d:(AA Int)×Int):AB (CJ ((AA Int)×Int) (AA Int)):=(bif d.2<(AI f:Int) then AH (CN f d.2) λg=>AH (Mv n d.1 g.BS) λh=>AC (.k (h,i64.wrap (d.2+1)))else AC (.d d.1))
def VZ(f:AA Ao)(d:(AA Int)×Int):AB (CJ ((AA Int)×Int) (AA Int)):=(bif d.2<(AI f:Int) then AH (CN f d.2) λg=>AH (Mv n d.1 g.BS) λh=>AC (.k (h,i64.wrap (d.2+1)))else AC (.d d.1))
def WR(y:CE)(B:AA CP)(E:Int)(f:AA Int)(d:(AA Int)×(AA CL)×Int):AB (CJ ((AA Int)×(AA CL)×Int) ((AA Int)×(AA CL))):=(bif d.2.2<(AI f:Int) then AH (CN f d.2.2) λj=>AH (Rg n y B j) λg=>AH ((bif g.2.2 then AC (g.1==E)else AC AD):AB Bool) λm=>AH ((bif m then AH (CN f d.2.2) λq=>AH (app d.1 [q]) λt=>AH (app d.2.1 [g.2.1]) λx=>AC (t,x)else AC (d.1,d.2.1)):AB ((AA Int)×(AA CL))) λh=>AC (.k (h.1,h.2,i64.wrap (d.2.2+1)))else AC (.d (d.1,d.2.1)))
def Rb(g:CE)(f:AA CP)(q:Int):AB ((AA Int)×(AA CL)):=AH (D2 n g) λt=>(bif (t != 0)then AC ([],[])else AH (M5 n f) λx=>AH (iter (UU n x) n (([]:AA Int),0):AB (AA Int)) λh=>AH (PX n f) λj=>AH (iter (VZ n j) n (h,0):AB (AA Int)) λm=>AH (iter (WR n g f q m) n (([]:AA Int),([]:AA CL),0):AB ((AA Int)×(AA CL))) λd=>AC (d.1,d.2))
instance I?(x:CE)(y:AA CP)(B:Int):Kq (Rb n x y B) 78 [.a (CE.c x),.q 57 (map CP.c y),I B] [] (λr=>.t [.o 0 (AI r.1) 1,.o 1 (AI r.2) 4]) (λr=>[.r 3 1 (map eI r.1),.r 67 4 (map CL.c r.2)]):=by
 exact Kg 0 func78 Z Z Z Z λr h=>by
  have:=hn 60301 [0,1] [1,2,3] (λ(q:AA Int)=>[(8,.o 1 (AI q) 1)]) (λq=>[(1,.w (.r 3 1 (map eI q)))]);have:=hl 60301 [0,1,2] [1,2,3,9] (λ(j:(AA Int)×Int)=>[(8,.o 1 (AI j.1) 1),(10,I j.2)]) (λj=>[(1,.w (.r 3 1 (map eI j.1)))]);have:=hn 110301 [0,1] [1,2,3] (λ(t:AA Int)=>[(8,.o 1 (AI t) 1)]) (λt=>[(1,.w (.r 3 1 (map eI t)))]);have:=hl 110301 [0,1,2] [1,2,3,11] (λ(m:(AA Int)×Int)=>[(8,.o 1 (AI m.1) 1),(12,I m.2)]) (λm=>[(1,.w (.r 3 1 (map eI m.1)))]);have:=hn 170602 [2,3] [] (λ(f:(AA Int)×(AA CL))=>[(13,.o 0 (AI f.1) 1),(14,.o 1 (AI f.2) 4)]) (λf=>[(0,.w (.r 3 1 (map eI f.1))),(1,.w (.r 67 4 (map CL.c f.2)))]);have:=hl 170602 [0,1,2,3] [1,2,3,8] (λ(d:(AA Int)×(AA CL)×Int)=>[(13,.o 2 (AI d.1) 1),(14,.o 3 (AI d.2.1) 4),(15,I d.2.2)]) (λd=>[(2,.w (.r 3 1 (map eI d.1))),(3,.w (.r 67 4 (map CL.c d.2.1)))]);have:=hx 19 14 1 2 [AD,AD,AD,AD,AD,AD,AE,AD,AD,AD,AD,AE,AD,AE] [[],[],[],[],[],[],[],[6],[6],[6],[6],[],[6,11],[6,11]] [[],[6],[11],[6,11],[6,11,13]] [[(0,0),(2,2)],[(0,0),(2,2)],[(0,0),(2,2)],[(0,0),(2,2)],[(0,0),(2,2)],[(0,0),(2,2)],[(0,1),(2,3)],[(1,1),(3,3)],[(1,1),(3,3)],[(1,1),(3,3)],[(1,1),(3,3),(4,4)],[(0,2),(1,3)],[(3,3)],[(3,4)]];have:=hn 200100 [0,1,2,3,4] [1,2,3,8,13,14,15,17] (λ(E:Bool)=>[(77,.b E)]) Ze;have:=hn 210201 [0,1,0,0] [1,2,3,8,15] (λ(g:(AA Int)×(AA CL))=>[(13,.o 2 (AI g.1) 1),(14,.o 3 (AI g.2) 4)]) (λg=>[(2,.w (.r 3 1 (map eI g.1))),(3,.w (.r 67 4 (map CL.c g.2)))]);exact bu h
def qP(n:Nat)(m:AA CL)(f:(AA CL)×Int)(d:Int):AB (CJ Int Int):=AH ((bif d<(AI f.1:Int) then AH (CN f.1 d) λg=>AH (CN m f.2) λh=>AC (AG (g.AS<=h.AS))else AC AD):AB Bool) λj=>(bif j then AC (.k (i64.wrap (d+1)))else AC (.d d))
def VQ(g:AA CL)(d:(AA CL)×Int):AB (CJ ((AA CL)×Int) (AA CL)):=(bif d.2<(AI g:Int) then AH (iter (qP n g d) n 0:AB Int) λf=>AH (CN g d.2) λh=>AH (Do d.1 f (AI d.1:Int)) λj=>AH (app [h] j) λm=>AH (Do d.1 0 f) λq=>AH (app q m) λt=>AC (.k (t,i64.wrap (d.2+1)))else AC (.d d.1))
def Pv(f:AA CL):AB (AA CL):=AH (iter (VQ n f) n (([]:AA CL),0):AB (AA CL)) λd=>AC d
instance _V(q:AA CL):Kr (Pv n q) 79 [.q 4 (map CL.c q)] 67 4 CL.c:=by
 exact Kg 0 func79 Z Z Z Z λr h=>by
  have:=hn 30702 [0] [] (λ(f:AA CL)=>[(3,.o 0 (AI f) 4)]) (λf=>[(0,.w (.r 67 4 (map CL.c f)))]);have:=hl 30702 [0] [0] (λ(d:(AA CL)×Int)=>[(3,.o 0 (AI d.1) 4),(4,I d.2)]) (λd=>[(0,.w (.r 67 4 (map CL.c d.1)))]);have:=hn 60201 [0] [0,3,4] (λ(g:Int)=>[(5,I g)]) Ze;have:=hl 60201 [0] [0,3,4] (λ(j:Int)=>[(5,I j)]) Ze;have:=hn 60100 [0] [0,3,4,5] (λ(m:Bool)=>[(30,.b m)]) Ze;have:=hk 8 8 [4] [(0,0,0),(0,0,0),(0,0,0),(0,0,0),(1,0,0),(0,0,1),(0,0,1),(0,0,1)];exact bu h
def Ip(d:CE)(f:Int):AB Int:=AH (D2 n d) λg=>(bif (g != 0)then AC g else AH ((bif f<0 then AC AE else AC (AG ((AI d.AO:Int)<=f))):AB Bool) λh=>(bif h then AC 90 else AC 0))
instance AAN(d:CE)(f:Int):Ki (Ip n d f) 147 [.a (CE.c d),I f]:=KB func147
def Pe(d:CE)(f:Int):AB ((AA Int)×Int):=AH (Ip n d f) λg=>(bif (g != 0)then AC ([],g)else AH (CN d.AO f) λj=>AH (AC ():AB Unit) λm=>AH (Mf n j.Ab) λh=>AH (AC ():AB Unit) λq=>(bif 256<(i64.wrap ((AI h:Int)+0)) then AC ([],2)else AC (h,0)))
instance _H(d:CE)(f:Int):Kq (Pe n d f) 80 [.a (CE.c d),I f,I 0] [] (λr=>.t [.o 0 (AI r.1) 1,I r.2]) (λr=>[.r 3 1 (map eI r.1)]):=by
 have:=hn 50100 [1] [2,9] (λ(_:Unit)=>[(35,.b AD)]) Ze;refine Kg 11 func80 Z Z Z Z λr h=>Cz [] h Kc Z λJ F h=>Go 10 Z (Cn Z h (λ_ h=>?_) (λ_ h=>?_))
 .exact bu h
 refine Gc 7 Z (Bd h λL j h=>Iz j Z (Go 7 Z (Bd h λt x h=>Ct t [1] [2,9] (λ_=>[(35,.b AD)]) Ze Zf ?_ (λenv H m=>?_))))
 .exact bu x
 refine Gx 1 Z (Ee m (Gc 7 Z (Cd [] h Kc Z λy G h=>Fg 5 Z Z (Bd h λB E h=>Cg B [0,1] [2,9,10] (λ_=>[(47,.b (AG (256<(i64.wrap (AI y+0)))))]) Ze Zf ?_ ?_))))
 .exact bu E
 refine Cn Z h (λ_ h=>?_) (λ_ h=>?_)
 .exact bu h
 refine Gc 6 Z ?_;refine Go 12 Z ?_;exact bu h
def f7(n:Nat)(d:(AA CL)×Int×Int):AB (CJ ((AA CL)×Int×Int) (AA CL)):=(bif d.2.2<(AI d.1:Int) then AH (CN d.1 d.2.2) λf=>AH (CN d.1 d.2.2) λh=>AH (JF d.1 d.2.2 ({h with Aj:=(if d.2.1<f.Aj then d.2.1 else f.Aj):CL})) λg=>AH (CN g d.2.2) λj=>AC (.k (g,i64.wrap (d.2.1-j.Aj),i64.wrap (d.2.2+1)))else AC (.d d.1))
def V9(h:CE)(H:AA CP)(G:Int)(j:(AA AP)×Int)(d:Int):AB (CJ Int (CJ Unit (AA CL))):=(bif d<(AI j.1:Int) then AH (AH (CN j.1 d) λm=>(bif (m.Bf != G)then AC (.k ())else AH (Rb n h H G) λq=>AH (Pv n q.2) λt=>AH (CN j.1 d) λg=>AH (Pe n h g.AN) λx=>AH (CN h.AO g.AN) λy=>AH ((bif (y.Ae==(-1))then AC 0 else AC (i64.wrap (256-(AI x.1:Int)))):AB Int) λB=>AH (iter (f7 n) n (t,B,0):AB (AA CL)) λE=>AC (.d (.d (.d E)))):AB (CJ Unit (CJ Int (CJ Unit (AA CL))))) λF=>match F with|.k f=>(AC (.k (i64.wrap (d+1))))|.d f=>AC f else AC (.d (.k ())))
def Rw(g:CE)(h:AA CP)(m:Int):AB (AA CL):=AH (Mp n g h) λj=>(bif (j.2 != 0)then AC []else AH (iter (V9 n g h m j) n 0:AB (CJ Unit (AA CL))) λf=>match f with|.k d=>(AC [])|.d d=>AC d)
instance lA(m:CE)(q:AA CP)(t:Int):Kr (Rw n m q t) 23 [.a (CE.c m),.q 57 (map CP.c q),I t] 67 4 CL.c:=by
 exact Kg 0 func23 Z Z Z Z λr h=>by
  have:=hn 51604 [] [] (λ(_:Unit)=>[]) Ze;have:=hl 51604 [0,1] [1,2,3,7] (λ(g:Int)=>[(9,I g)]) Ze;have:=hn 71403 [0,1] [1,2,3,7,9] (λ(_:Unit)=>[]) Ze;have:=hn 140101 [4] [11] (λ(j:Int)=>[(15,I j)]) Ze;have:=hn 160401 [0] [] (λ(f:AA CL)=>[(11,.o 0 (AI f) 4)]) (λf=>[(0,.w (.r 67 4 (map CL.c f)))]);have:=hl 160401 [0] [] (λ(d:(AA CL)×Int×Int)=>[(11,.o 0 (AI d.1) 4),(15,I d.2.1),(16,I d.2.2)]) (λd=>[(0,.w (.r 67 4 (map CL.c d.1)))]);exact bu h
def U4(n:Nat)(f:AA CL)(d:Int×Int):AB (CJ (Int×Int) Int):=(bif d.2<(AI f:Int) then AH (CN f d.2) λg=>AC (.k (i64.wrap (d.1+g.Aj),i64.wrap (d.2+1)))else AC (.d d.1))
def LS(d:AA CL):AB Int:=AH (iter (U4 n d) n (0,0):AB Int) λf=>AC f
instance lV(d:AA CL):Ki (LS n d) 7 [.q 4 (map CL.c d)]:=by
 exact Kg 0 func7 Z Z Z Z λr h=>by
  have:=hn 30301 [] [] (λ(g:Int)=>[(3,I g)]) Ze;have:=hl 30301 [] [0] (λ(f:Int×Int)=>[(3,I f.1),(4,I f.2)]) Ze;exact bu h
def V7(n:Nat)(f:CG)(d:Int):AB (CJ Int (CJ Unit Bool)):=(bif d<(AI f.BE:Int) then AH (CN f.BE d) λg=>(bif 12<(AI g:Int) then AC (.d (.d AD))else AC (.k (i64.wrap (d+1))))else AC (.d (.k ())))
def Po(f:CG):AB Bool:=AH ((bif 8<(AI f.AQ:Int) then AC AE else AC (AG (10<(AI f.BE:Int)))):AB Bool) λh=>(bif h then AC AD else AH (iter (V7 n f) n 0:AB (CJ Unit Bool)) λg=>match g with|.k d=>(AC AE)|.d d=>AC d)
instance _P(d:CG):Kb (Po n d) 83 [.a (CG.c d)]:=KB func83
def Oz(n:Nat)(f:AA Int)(j:Int)(d:Int×Int):AB (CJ (Int×Int) Int):=(bif d.2<(AI f:Int) then AH (CN f d.2) λg=>AH ((bif (g==j)then AC d.2 else AC d.1):AB Int) λh=>AC (.k (h,i64.wrap (d.2+1)))else AC (.d d.1))
def PT(f:AA Int)(g:Int):AB Int:=AH (iter (Oz n f g) n ((-1),0):AB Int) λd=>AC d
instance z8(f:AA Int)(g:Int):Ki (PT n f g) 148 [.q 1 (map eI f),I g]:=by
 exact Kg 0 func148 Z Z Z Z λr h=>by
  have:=hn 30402 [] [] (λ(j:Int)=>[(5,I j)]) Ze;have:=hl 30402 [] [0,1] (λ(d:Int×Int)=>[(5,I d.1),(6,I d.2)]) Ze;have:=hn 60101 [] [0,1,6] (λ(m:Int)=>[(5,I m)]) Ze;exact bu h
def O7(n:Nat)(g:Int)(h:AN)(d:(AA Int)×Int):AB (CJ ((AA Int)×Int) (AA Int)):=(bif d.2<g then AH (app d.1 [h.Ae]) λf=>AC (.k (f,i64.wrap (d.2+1)))else AC (.d d.1))
def HJ(j:CE)(m:Int)(f:Int):AB ((AA Int)×Int):=AH (Ip n j m) λq=>(bif (q != 0)then AC ([],q)else AH (CN j.AO m) λg=>AH ((bif f<0 then AC AE else(bif 0<f then AC (g.Ae==(-1))else AC AD)):AB Bool) λG=>(bif G then AC ([],90)else AH (Mf n g.Ab) λd=>AH ((bif 256<f then AC AE else AC (AG (256<(i64.wrap ((AI d:Int)+f))))):AB Bool) λt=>(bif t then AC ([],2)else(bif (f==0)then AC (d,0)else AH (PT n d g.Ae) λh=>AH (Do d 0 (i64.wrap (h+1))) λx=>AH (app ([]:AA Int) x) λy=>AH (iter (O7 n f g) n (y,0):AB (AA Int)) λB=>AH (Do d (i64.wrap (h+1)) (AI d:Int)) λE=>AH (app B E) λF=>AC (F,0)))))
instance lj(g:CE)(j:Int)(m:Int):Kq (HJ n g j m) 80 [.a (CE.c g),I j,I m] [] (λr=>.t [.o 0 (AI r.1) 1,I r.2]) (λr=>[.r 3 1 (map eI r.1)]):=by
 exact Kg 0 func80 Z Z Z Z λr h=>by
  have:=hn 50100 [1] [2,9] (λ(t:Bool)=>[(35,.b t)]) Ze;have:=hn 80100 [0,1] [2,9,10] (λ(q:Bool)=>[(47,.b q)]) Ze;have:=hn 150301 [1,2] [10,11] (λ(f:AA Int)=>[(12,.o 1 (AI f) 1)]) (λf=>[(1,.w (.r 3 1 (map eI f)))]);have:=hl 150301 [0,1,3] [2,9,10,11] (λ(d:(AA Int)×Int)=>[(12,.o 2 (AI d.1) 1),(13,I d.2)]) (λd=>[(2,.w (.r 3 1 (map eI d.1)))]);exact bu h
def Rm(d:CE)(q:CG)(g:AP)(t:Int)(x:AA CQ)(y:AA AY):AB Bool:=AH (AH (LP n d) λB=>(bif (!B)then AC AE else(bif 8<(AI d.An:Int) then AC AE else AH (Po n q) λh=>(bif (!h)then AC AE else(bif 4<(AI x:Int) then AC AE else AC (AG (6<(AI y:Int))))))):AB Bool) λE=>(bif E then AC AD else AH ((bif g.AN<0 then AC AE else AC (AG ((AI d.AO:Int)<=g.AN))):AB Bool) λj=>(bif j then AC AE else AH (HJ n d g.AN t) λf=>AH ((bif (f.2 != 0)then AC AE else AC (AG ((AI f.1:Int)<=8))):AB Bool) λm=>AC m))
instance ko(d:CE)(f:CG)(g:AP)(h:Int)(j:AA CQ)(m:AA AY):Kb (Rm n d f g h j m) 25 [.a (CE.c d),.a (CG.c f),.a (AP.c g),I h,.q 5 (map CQ.c j),.q 4 (map AY.c m)]:=KB func25
def WD(n:Nat)(x:Int)(f:AA CP)(d:(AA AY)×Int):AB (CJ ((AA AY)×Int) (AA AY)):=(bif d.2<(AI f:Int) then AH (AH (CN f d.2) λg=>(bif (g.AV==5)then AH (CN f d.2) λh=>AC (h.AY.Bf==x)else AC AD):AB Bool) λj=>AH ((bif j then AH (CN f d.2) λm=>AH (app d.1 [m.AY]) λq=>AC q else AC d.1):AB (AA AY)) λt=>AC (.k (t,i64.wrap (d.2+1)))else AC (.d d.1))
def WU(x:CE)(y:AA CP)(B:Int)(g:(AA CF)×(AA (AA Int))×Int)(h:(AA AP)×Int)(f:Int):AB (CJ Int (CJ Unit ((AA CF)×(AA (AA Int))×Int×Int×Int×Int×Int×Int×Int×Int×(AA CQ)×(AA AY)×(AA CL)×Bool))):=(bif f<(AI h.1:Int) then AH (AH (CN h.1 f) λE=>(bif (E.Bf != B)then AC (.k ())else AH (CN h.1 f) λd=>AH (CN h.1 f) λF=>AH (Rq n x y F.A') λm=>AH (Rw n x y B) λq=>AH (HF n y) λG=>AH (iter (WD n B G) n ([],0):AB (AA AY)) λt=>AH (LS n q) λH=>AH (Rm n x ({AQ:=g.1,BE:=g.2.1:CG}) d H m t) λJ=>AC (.d (.d (.d (g.1,g.2.1,d.Bf,d.AN,d.Aw,d.Bc,d.B',d.A',d.Bv,d.B_,m,t,q,J))))):AB (CJ Unit (CJ Int (CJ Unit ((AA CF)×(AA (AA Int))×Int×Int×Int×Int×Int×Int×Int×Int×(AA CQ)×(AA AY)×(AA CL)×Bool))))) λL=>match L with|.k j=>(AC (.k (i64.wrap (f+1))))|.d j=>AC j else AC (.d (.k ())))
def Ry(f:CE)(g:AA CP)(y:Int):AB ((AA CF)×(AA (AA Int))×Int×Int×Int×Int×Int×Int×Int×Int×(AA CQ)×(AA AY)×(AA CL)×Bool):=AH (AH (LP n f) λB=>(bif (!B)then AC AE else(bif 16<(AI g:Int) then AC AE else AH (D2 n f) λq=>(bif (q != 0)then AC AE else AH (RM n f 10) λt=>AC (!t)))):AB Bool) λE=>(bif E then AC ([],[],0,0,0,0,0,0,0,0,[],[],[],AD)else AH (Rf n f g) λh=>AH (Mp n f g) λj=>AH ((bif (h.2.2 != 0)then AC AE else AC (j.2 != 0)):AB Bool) λx=>(bif x then AC ([],[],0,0,0,0,0,0,0,0,[],[],[],AD)else AH (iter (WU n f g y h j) n 0:AB (CJ Unit ((AA CF)×(AA (AA Int))×Int×Int×Int×Int×Int×Int×Int×Int×(AA CQ)×(AA AY)×(AA CL)×Bool))) λm=>match m with|.k d=>(AC ([],[],0,0,0,0,0,0,0,0,[],[],[],AD))|.d d=>AC d))
instance lB(L:CE)(a2:AA CP)(a3:Int):Kq (Ry n L a2 a3) 5 [.a (CE.c L),.q 57 (map CP.c a2),I a3] [] (λr=>.t [.a [.q 3 (map CF.c r.1),.q 1 (map (QC 1 eI) r.2.1),I r.2.2.1,I r.2.2.2.1,I r.2.2.2.2.1,I r.2.2.2.2.2.1,I r.2.2.2.2.2.2.1,I r.2.2.2.2.2.2.2.1,I r.2.2.2.2.2.2.2.2.1,I r.2.2.2.2.2.2.2.2.2.1,.q 5 (map CQ.c r.2.2.2.2.2.2.2.2.2.2.1),.o 0 (AI r.2.2.2.2.2.2.2.2.2.2.2.1) 4,.q 4 (map CL.c r.2.2.2.2.2.2.2.2.2.2.2.2.1)],.b r.2.2.2.2.2.2.2.2.2.2.2.2.2]) (λr=>[.r 93 4 (map AY.c r.2.2.2.2.2.2.2.2.2.2.2.1),.c 46 [.q 3 (map CF.c r.1),.q 1 (map (QC 1 eI) r.2.1),I r.2.2.1,I r.2.2.2.1,I r.2.2.2.2.1,I r.2.2.2.2.2.1,I r.2.2.2.2.2.2.1,I r.2.2.2.2.2.2.2.1,I r.2.2.2.2.2.2.2.2.1,I r.2.2.2.2.2.2.2.2.2.1,.q 5 (map CQ.c r.2.2.2.2.2.2.2.2.2.2.1),.o 0 (AI r.2.2.2.2.2.2.2.2.2.2.2.1) 4,.q 4 (map CL.c r.2.2.2.2.2.2.2.2.2.2.2.2.1)]]):=by
 refine Kg 9 func5 Z Z Z Z λr h=>Bd h λb7 h8 h=>Ct b7 [0,1] [1,2,3,6] (λb7=>[(33,.b b7)]) Ze Zf ?_ (λenv H M=>?_)
 .exact bu h8
 refine Gx 1 Z (Ee M (Cn Z h (λ_ h=>?_) (λ_ h=>?_)))
 .refine Gc 9 Z ?_;obtain rfl:=Oi h;refine⟨[(6,.p 1 0),(7,.b AD)],[.r 93 4 (map AY.c ([]:AA AY)),.c 46 [.q 3 (map CF.c ([]:AA CF)),.q 1 (map (QC 1 eI) ([]:AA (AA Int))),I 0,I 0,I 0,I 0,I 0,I 0,I 0,I 0,.q 5 (map CQ.c ([]:AA CQ)),.o 0 (AI ([]:AA AY)) 4,.q 4 (map CL.c ([]:AA CL))]],_,?_,QF Z Z (C'.cons (QP isAgg46 sizeOf46 Z Z Z) (C'.cons FM.tmp C'.nil)),Z,Z⟩;refine En (QS (i:=1) (m:=11) (t:=93) (k:=4) Z Z Z) ?_;exact Lr [2,1]
 refine Gc 6 Z (Cd [] h Kc Z λg bl h=>Fg 12 Z Z (Cd [] h Kc Z λG bm h=>Fg 9 Z Z (Bd h λad be h=>Ct ad [0,1,3,4] [1,2,3,6,8,10] (λad=>[(52,.b ad)]) Ze Zf ?_ (λenv H M=>?_))))
 .exact bu be
 refine Gx 1 Z (Ee M (Cn Z h (λ_ h=>?_) (λ_ h=>?_)))
 .refine Gc 9 Z ?_;obtain rfl:=Oi h;refine⟨[(6,.p 1 0),(7,.b AD)],[.r 93 4 (map AY.c ([]:AA AY)),.c 46 [.q 3 (map CF.c ([]:AA CF)),.q 1 (map (QC 1 eI) ([]:AA (AA Int))),I 0,I 0,I 0,I 0,I 0,I 0,I 0,I 0,.q 5 (map CQ.c ([]:AA CQ)),.o 0 (AI ([]:AA AY)) 4,.q 4 (map CL.c ([]:AA CL))]],_,?_,QF Z Z (C'.cons (QP isAgg46 sizeOf46 Z Z Z) (C'.cons FM.tmp C'.nil)),Z,Z⟩;refine En (QS (i:=1) (m:=11) (t:=93) (k:=4) Z Z Z) ?_;exact Lr [4,1]
 refine Gc 8 Z (Bd h λaw ax h=>Hz (b:=aw) [1] [6] Ze Ze Zf ?_ (λ_ bg=>?_))
 .refine G0 1 Z (Lp [0,1,2,3] [1,2,3,6,8,10] (λj=>[(12,I j)]) Ze ax Zf (Lr [0,1,2,3]) λj bn F V=>?_);refine G0 9 Z (Dm Z F (λ_ F=>?_) (λ_ F=>?_))
  .exact FS V F
  refine Gc 3 Z (Bd F λay d F=>Hz (b:=ay) [0,1,2,3] [1,2,3,6,8,10,12] Ze Ze Zf ?_ (λ_ hb=>?_))
  .refine G0 6 Z (Bd d λaz W d=>?_);refine vX (.p 3 (toNat j*8)) (Qw W Z E6 Gb) ?_;refine Fp Qqa Z ?_;refine vX (I az.Bf) (Ey Z EK Z (Qy W)) ?_;refine Go 4 Z (Cn Z d (λ_ d=>?_) (λ_ d=>?_))
   .refine Gc 3 Z ?_;cases d;exact JZ Z (Lr [0,1,2,3])
   refine Gc 3 Z ?_;obtain⟨J,X,d⟩:=Yf d;obtain⟨ae,Y,d⟩:=Yf d;obtain⟨N,ah,d⟩:=Yf d;obtain⟨O,ai,d⟩:=Yf d;refine UI 19 1 [67,68,69,70,71,72,73,74,75,76,77,78,79,80,81,82,83,84,13] [AD,AD,AD,AD,AD,AD,AD,AD,AD,AD,AD,AD,AE,AD,AD,AD,AE,AD,AE] [[],[],[],[],[],[],[],[],[],[],[],[],[],[],[],[],[12],[12,16],[]] [[],[12],[18],[12,16],[12,18],[12,16,18]] [[(0,0),(1,1),(2,2),(3,3),(4,4),(5,5)],[(0,0),(1,1),(2,2),(3,3),(4,4),(5,5)],[(0,0),(1,1),(2,2),(3,3),(4,4),(5,5)],[(0,0),(1,1),(2,2),(3,3),(4,4),(5,5)],[(0,0),(1,1),(2,2),(3,3),(4,4),(5,5)],[(0,0),(2,2)],[(0,0),(2,2)],[(0,0),(2,2)],[(0,0),(2,2)],[(0,0),(2,2)],[(0,0),(2,2)],[(0,0),(2,2)],[(0,1),(2,4)],[(0,0),(1,1),(2,2),(4,4)],[(0,0),(1,1),(2,2),(4,4)],[(0,0),(1,1),(2,2),(4,4)],[(1,3),(4,5)],[(3,3),(5,5)],[(0,2),(1,4),(3,5)]] [.a [.q 3 (map CF.c g.1),.q 1 (map (QC 1 eI) g.2.1)],.o 3 (AI G.1) 8,I j,.p 3 (toNat j*8),.a (AP.c J),.a (CE.c L),.q 57 (map CP.c a2),.o 3 (AI G.1) 8,I j,.p 3 (toNat j*8),.p 3 (toNat j*8+5),I ae.A',.q 5 (map CQ.c N),.a (CE.c L),.q 57 (map CP.c a2),I a3,.q 4 (map CL.c O),.a (.q 3 (map CF.c g.1)::.q 1 (map (QC 1 eI) g.2.1)::(AP.c J++[.q 5 (map CQ.c N),.n,.q 4 (map CL.c O)])),.p 4 0] [[.c 33 (CE.c L),.c 46 (CZ.c Ck),.c 39 [.q 3 (map CF.c g.1),.q 1 (map (QC 1 eI) g.2.1)],.r 41 8 (map AP.c G.1),.dead],[.c 33 (CE.c L),.c 46 (CZ.c Ck),.c 39 [.q 3 (map CF.c g.1),.q 1 (map (QC 1 eI) g.2.1)],.r 41 8 (map AP.c G.1),.dead,.dead],[.c 33 (CE.c L),.c 46 (CZ.c Ck),.c 39 [.q 3 (map CF.c g.1),.q 1 (map (QC 1 eI) g.2.1)],.r 41 8 (map AP.c G.1),.c 46 [.q 3 (map CF.c []),.q 1 (map (QC 1 eI) []),I 0,I 0,I 0,I 0,I 0,I 0,I 0,I 0,.q 5 (map CQ.c []),.n,.q 4 (map CL.c [])]],[.c 33 (CE.c L),.c 46 (CZ.c Ck),.c 39 [.q 3 (map CF.c g.1),.q 1 (map (QC 1 eI) g.2.1)],.r 41 8 (map AP.c G.1),.dead,.dead,.dead],[.c 33 (CE.c L),.c 46 (CZ.c Ck),.c 39 [.q 3 (map CF.c g.1),.q 1 (map (QC 1 eI) g.2.1)],.r 41 8 (map AP.c G.1),.c 46 [.q 3 (map CF.c []),.q 1 (map (QC 1 eI) []),I 0,I 0,I 0,I 0,I 0,I 0,I 0,I 0,.q 5 (map CQ.c []),.n,.q 4 (map CL.c [])],.dead],[.c 33 (CE.c L),.c 46 (CZ.c Ck),.c 39 [.q 3 (map CF.c g.1),.q 1 (map (QC 1 eI) g.2.1)],.r 41 8 (map AP.c G.1),.c 46 [.q 3 (map CF.c []),.q 1 (map (QC 1 eI) []),I 0,I 0,I 0,I 0,I 0,I 0,I 0,I 0,.q 5 (map CQ.c []),.n,.q 4 (map CL.c [])],.dead,.dead]] ([.c 33 (CE.c L),.c 46 (CZ.c Ck),.c 39 [.q 3 (map CF.c g.1),.q 1 (map (QC 1 eI) g.2.1)],.r 41 8 (map AP.c G.1),.c 46 [.q 3 (map CF.c []),.q 1 (map (QC 1 eI) []),I 0,I 0,I 0,I 0,I 0,I 0,I 0,I 0,.q 5 (map CQ.c []),.n,.q 4 (map CL.c [])],.dead,.dead]) FY Z Z Z Z Z Z Z ?_ Z ?_
   .refine M1 (M1 (M1 (FP.cons ?_ (FP.cons ?_ (M1 (M1 (M1 (M1 (FP.cons ?_ (FP.cons ?_ (FP.cons ?_ (FP.cons ?_ (M1 (M1 (M1 (FP.cons ?_ (M1 (FP.cons ?_ (FP.nil)))))))))))))))))))
    .refine Ql ?_ (Ql ?_ (Ql ?_ (Ql ?_ (Ql ?_ (Ql ?_ (QV))))))
     iterate 6 (refine Om Z (sD 1 (sD 2 sN)) ?_;refine vX (.p 3 (toNat j*8)) (Qw X Z E6 Gb) ?_;exact Wp)
    .refine Ql ?_ (Ql ?_ (Ql ?_ (Ql ?_ (Ql ?_ (Ql ?_ (QV))))))
     iterate 6 (refine Om Z (sD 3 sN) ?_;refine vX (.a (AP.c J)) (Yd Z isAgg41 Gb Z (Qy X) Z Z) ?_;exact Wp)
    .refine Ql ?_ (Ql ?_ (QV))
     iterate 2 (refine Om Z (sD 7 (sD 8 sN)) ?_;refine vX (.p 3 (toNat j*8)) (Qw Y Z E6 Gb) ?_;exact Wp)
    .refine Ql ?_ (Ql ?_ (QV))
     iterate 2 (refine Om Z (sD 9 sN) ?_;exact Fp Qp9 Z Wp)
    .refine Ql ?_ (Ql ?_ (QV))
     iterate 2 (refine Om Z (sD 10 sN) ?_;refine vX (I ae.A') (Ey Z EK Z (Qu (f:=5) Y)) ?_;exact Wp)
    .refine Ql ?_ (Ql ?_ (QV))
     iterate 2 (refine So rfl (sD 5 (sD 6 (sD 11 sN))) ?_;refine Qt [] (Dc.fn call22 rfl rfl rfl) ((kx _ _ _ _).c _ ah) ?_;rintro _ _ ⟨rfl,rfl⟩;refine FE rfl ?_;refine Er (Yz 5 [(79,_)]) ?_;refine Er OR ?_;exact Wp)
    .refine Ql ?_ (Ql ?_ (QV))
     iterate 2 (refine So rfl (sD 13 (sD 14 (sD 15 sN))) ?_;refine Qt [] (Dc.fn call23 rfl rfl rfl) ((lA _ _ _ _).c _ ai) ?_;rintro _ _ ⟨rfl,rfl⟩;refine FE rfl ?_;refine Er (Yz 6 [(83,_)]) ?_;refine Er OR ?_;exact Wp)
    .refine Ql ?_ (Ql ?_ (Ql ?_ (QV)))
     iterate 3 exact Y0.alloc _ 13 46 4 _ Z Z Z Z Z Z Z (OV.alloc (v:=(.a [.q 3 (map CF.c []),.q 1 (map (QC 1 eI) []),I 0,I 0,I 0,I 0,I 0,I 0,I 0,I 0,.q 5 (map CQ.c []),.n,.q 4 (map CL.c [])])) zeroValue46 (IN Z)) Z
   refine Go 6 Z (Cd [] d Kc Z λbo bj d=>Fg 9 Z Z (Bd d λP ba d=>Cg P [0,1,2,3,4] [3,6,8] (λ_=>[(13,.p 3 0)]) (λP=>[(3,.c 46 (.q 3 (map CF.c g.1)::.q 1 (map (QC 1 eI) g.2.1)::(AP.c J++[.q 5 (map CQ.c N),.o 4 (AI P) 4,.q 4 (map CL.c O)]))),(4,.r 93 4 (map AY.c P))]) Zf ?_ ?_))
   .refine G0 1 Z (Lp [0,1,2,4,0,7] [2,3,6,8,13,14] (λy=>[(15,I y.2)]) (λy=>[(3,.c 46 (.q 3 (map CF.c g.1)::.q 1 (map (QC 1 eI) g.2.1)::(AP.c J++[.q 5 (map CQ.c N),.o 4 (AI y.1) 4,.q 4 (map CL.c O)]))),(4,.r 93 4 (map AY.c y.1))]) ba Zf ?_ ?_)
    .refine En (QS (i:=4) (m:=11) (t:=93) (k:=4) Z Z Z) ?_;exact Lr [0,1,2,4,8,7]
    intro y bp q aj;refine G0 9 Z (Dm Z q (λ_ q=>?_) (λ_ q=>?_))
    .exact Gc 2 Z (Jf q (Gx 1 Z (NT aj q (Lr [0,1,2,3,4]))))
    refine Gc 5 Z (Bd q λR B q=>Ct R [0,1,2,3,4,5] [2,3,6,8,13,14,15] (λR=>[(108,.b R)]) Ze Zf ?_ (λenv H M=>?_))
    .refine G0 3 Z (Bd B λbb aa B=>?_);refine vX (.p 5 (toNat y.2*57)) (Qw aa Z EM EU) ?_;refine Fp Qoa Z ?_;refine vX (I bb.AV) (Ey Z EK Z (Qu (f:=3) aa)) ?_;refine Go 2 Z (Is 99 B Z (λ_ B=>?_) (λ_ B=>?_))
     .refine Go 2 Z (Bd B λbc ab B=>?_);refine vX (.p 5 (toNat y.2*57)) (Qw ab Z EM EU) ?_ (gT Z);refine aY (gT Z) uZ Z (aY (gT Z) Qp4 Z ?_);refine vX (I bc.AY.Bf) (Ey Z EK Z (Qu (f:=29) ab)) ?_ (gT Z);exact bu B
     exact bu B
    refine Gx 1 Z (Ee M (Bd q λQ E q=>Ct Q [0,1,2,3,0,5] [2,3,6,8,13,14,15] Ze (λQ=>[(3,.c 46 (.q 3 (map CF.c g.1)::.q 1 (map (QC 1 eI) g.2.1)::(AP.c J++[.q 5 (map CQ.c N),.o 4 (AI Q) 4,.q 4 (map CL.c O)]))),(4,.r 93 4 (map AY.c Q))]) Zf ?_ (λenv H M=>?_)))
    .refine G0 0 Z (Cn Z E (λ_ E=>?_) (λ_ E=>?_))
     .refine GX 8 Z (D 4 Z ?_);obtain⟨T,ac,E⟩:=Yf E;refine DS.v (x:=(.p 5 (toNat y.2*57))) (Qw ac Z EM EU) ?_;refine DS.wo (x:=.p 5 (toNat y.2*57+29)) ?_ ?_
      .exact Fp uZ Z Wp
      refine DS.v (x:=(.a (AY.c T.AY))) (Yd Z isAgg93 Gk Z (Qu (f:=29) ac) Z Z) ?_;refine DS.wo (x:=.q 4 (map AY.c [T.AY])) ?_ ?_
      .refine vH (YZ (xs:=[.tmp 115]) (es:=map AY.c [T.AY]) rk Z Z Z Z Z ⟨Z,trivial⟩ Z Z) ?_;exact FE Z Wp
      refine Eg Z (Bd E λbq ao E=>vH (YP (e:=AY.c) ao rk Gf Sd) ?_);exact bu E
     exact bu E
    exact Gx 2 Z (Ee M (Gc 5 Z (JJ q (Lr [0,1,2,3,4,5]))))
   refine Gc 1 Z (GX 13 Z (D 7 Z ?_));refine Dz [] d Kc Z λbr bk d=>D 4 Z ?_;obtain⟨bd,aq,d⟩:=Yf d;refine DS.wo (x:=.b bd) ?_ ?_
   .refine aM (Dc.fn call25 rfl rfl rfl) (E_.cons rfl (.inl ⟨rfl,rfl⟩) (E_.cons rfl (.inl ⟨rfl,rfl⟩) (E_.cons rfl (.inl ⟨rfl,rfl⟩) (E_.cons rfl (.inl ⟨rfl,rfl⟩) (E_.cons rfl (.inl ⟨rfl,rfl⟩) (E_.cons rfl (.inr ⟨_,_,_,_,_,rfl,rfl,X4 ..,rfl⟩) E_.nil)))))) ((ko _ _ _ _ _ _ _).c _ aq) (by rintro _ _ ⟨rfl,rfl⟩;rfl) ?_;rintro _ _ ⟨rfl,rfl⟩;exact FE Z Wp
   refine Eg Z (Go 6 Z ?_);cases d;exact H9 V F h
  subst hb;exact bu F
 subst bg;refine Gc 8 Z ?_;obtain rfl:=Oi h;refine⟨[(6,.p 1 0),(7,.b AD)],[.r 93 4 (map AY.c ([]:AA AY)),.c 46 [.q 3 (map CF.c ([]:AA CF)),.q 1 (map (QC 1 eI) ([]:AA (AA Int))),I 0,I 0,I 0,I 0,I 0,I 0,I 0,I 0,.q 5 (map CQ.c ([]:AA CQ)),.o 0 (AI ([]:AA AY)) 4,.q 4 (map CL.c ([]:AA CL))]],_,?_,QF Z Z (C'.cons (QP isAgg46 sizeOf46 Z Z Z) (C'.cons FM.tmp C'.nil)),Z,Z⟩;refine En (QS (i:=0) (m:=11) (t:=93) (k:=4) Z Z Z) ?_;exact Lr [1,0]
def Ro(f:CE)(g:CG)(m:AP)(q:Int)(h:AA CQ)(t:AA AY)(x:CW):AB Int:=AH (OX n f g m q h t) λy=>(match y with|.c0 j=>((bif (j != 0)then AC j else AF))|.c1 d=>(AH (KK n x f g d.1 d.2.1 h d.2.2.1 d.2.2.2.2 d.2.2.2.1 f g) λB=>(bif (!B)then AC 190 else AC 0)))
instance kr(d:CE)(f:CG)(g:AP)(j:Int)(q:AA CQ)(t:AA AY)(x:CW):Ki (Ro n d f g j q t x) 38 [.a (CE.c d),.a (CG.c f),.a (AP.c g),I j,.q 5 (map CQ.c q),.q 4 (map AY.c t),.a (CW.c x)]:=by
 refine Kg 17 func38 Z Z Z Z λr h=>Bd h λG y h=>?_;refine Qt [] (Dc.fn call26 Z Z Z) (kV _ _ _ _ _ _ _ _ y) ?_;intro ra rH B;rcases G with J|L
 .obtain⟨rfl,rfl⟩:=B;refine Fg 14 Z Z (Cn Z h (λ_ h=>?_) (λ_ h=>?_))
  .exact Hw 8 Z h 14 []
  refine Gc 4 Z ?_;cases h
 .obtain⟨rfl,rfl⟩:=B;refine FE Z ?_;refine Go 11 Z ?_;refine vX (.b AD) (CY.neq (m:=0) (n:=0) Z Z Z) ?_;refine Go 10 Z ?_;refine Er (Tu 5 []) ?_;refine Er (Tu 6 []) ?_;refine Cz [4,7,8,9,10] h (lg _ _ _ _ _ _ _ _ _ _ _ _).c Z λM H h=>Go 3 Z (Cn Z h (λ_ h=>?_) (λ_ h=>?_))
  .exact Hw 7 Z h 14 []
  exact Hw 8 Z h 14 []
def NA(f:CE)(g:CG)(h:AP)(j:AA CQ)(m:AA AY)(y:AA CL)(q:CW)(B:Int):AB ((AA CH)×Int):=AH (NJ n f g h j m y B) λt=>AH (Ro n f g h t.BJ j m q) λx=>(bif (x != 0)then AC ([],x)else AH (M6 n t) λd=>(bif (d.2 != 0)then AC ([],d.2)else AH (LU n d.1 q) λE=>AC (E,0)))
instance lL(d:CE)(f:CG)(g:AP)(j:AA CQ)(m:AA AY)(q:AA CL)(x:CW)(y:Int):Kq (NA n d f g j m q x y) 8 [.a (CE.c d),.a (CG.c f),.a (AP.c g),.q 5 (map CQ.c j),.q 4 (map AY.c m),.q 4 (map CL.c q),.a (CW.c x),I y] [] (λr=>.t [.o 0 (AI r.1) 4,I r.2]) (λr=>[.r 63 4 (map CH.c r.1)]):=by
 refine Kg 19 func8 Z Z Z Z λr h=>Cd [] h (lT _ _ _ _ _ _ _ _).c Z λL F h=>Fg 15 Z Z (Cz [] h (kr _ _ _ _ _ _ _ _).c Z λM G h=>Go 9 Z (Cn Z h (λ_ h=>?_) (λ_ h=>?_)))
 .refine Gc 9 Z ?_;obtain rfl:=Oi h;refine R2 16 17 Z Z ?_;refine En (Ep (s:=16) (k:=4) (t:=63) (XS Z) Z) ?_;exact Lr [6]
 refine Gc 5 Z (Cd [5] h (lG _ _).c Z λN H h=>Fg 9 Z Z (Cn Z h (λ_ h=>?_) (λ_ h=>?_)))
 .refine Gc 9 Z ?_;obtain rfl:=Oi h;refine R2 16 17 Z Z ?_;refine En (Ep (s:=16) (k:=4) (t:=63) (XS Z) Z) ?_;exact Lr [6]
 refine Gc 6 Z (Cd [] h (lX _ _ _).c Z λO J h=>Fg 5 Z Z ?_);obtain rfl:=Oi h;exact R2 16 17 Z Z (Lr [6])
def HZ(n:Nat)(d:Int):AB Bool:=AH ((bif (-1099511627776)<=d then AC (AG (d<=1099511627776))else AC AD):AB Bool) λf=>AC f
instance AAX(d:Int):Kb (HZ n d) 291 [I d]:=by
 exact Kg 0 func291 Z Z Z Z λr h=>by
  have:=hn 10100 [] [] (λ(f:Bool)=>[(2,.b f)]) Ze;exact bu h
def PH(g:CG)(f:Int):AB (CJ Int (CJ Unit Int)):=(bif f<(AI g.AQ:Int) then AH (CN g.AQ f) λd=>AH ((bif d.Af<0 then AC AE else(bif 40<=d.Af then AC AE else(bif d.Ad<0 then AC AE else(bif 255<d.Ad then AC AE else AH (HZ n d.A4) λh=>(bif (!h)then AC AE else(bif 0<f then AH (CN g.AQ (i64.wrap (f-1))) λj=>AH (KF n j d) λm=>AC (!m)else AC AD)))))):AB Bool) λq=>(bif q then AC (.d (.d 160))else AC (.k (i64.wrap (f+1))))else AC (.d (.k ())))
def V5(n:Nat)(g:CG)(f:Int)(d:Int):AB (CJ Int (CJ Unit (CJ Int (CJ Unit Int)))):=(bif d<=(AI g.AQ:Int) then AH (AH (CN g.BE f) λh=>AH (CN h d) λj=>(bif j<(-2199023255552) then AC AE else AH (CN g.BE f) λm=>AH (CN m d) λq=>AC (AG (2199023255552<q))):AB Bool) λt=>(bif t then AC (.d (.d (.d (.d 160))))else AC (.k (i64.wrap (d+1))))else AC (.d (.k ())))
def PJ(g:CG)(d:Int):AB (CJ Int (CJ Unit Int)):=(bif d<=(AI g.AQ:Int) then AH (AH (CN g.BE d) λh=>(bif ((AI h:Int) != (i64.wrap ((AI g.AQ:Int)+1)))then AC AE else AH (CN g.BE d) λj=>AH (CN j d) λm=>AC (m != 0)):AB Bool) λq=>(bif q then AC (.d (.d 160))else AH (iter (V5 n g d) n 0:AB (CJ Unit (CJ Int (CJ Unit Int)))) λt=>match t with|.k f=>(AC (.k (i64.wrap (d+1))))|.d f=>AC f)else AC (.d (.k ())))
def WG(n:Nat)(h:CG)(f:Int)(g:Int)(d:Int):AB (CJ Int (CJ Unit (CJ Int (CJ Unit (CJ Int (CJ Unit Int)))))):=(bif d<=(AI h.AQ:Int) then AH (CN h.BE f) λj=>AH (CN j d) λm=>AH (CN h.BE f) λq=>AH (CN q g) λt=>AH (CN h.BE g) λx=>AH (CN x d) λy=>(bif (i64.wrap (t+y))<m then AC (.d (.d (.d (.d (.d (.d 160))))))else AC (.k (i64.wrap (d+1))))else AC (.d (.k ())))
def WY(j:CG)(g:Int)(d:Int):AB (CJ Int (CJ Unit (CJ Int (CJ Unit Int)))):=(bif d<=(AI j.AQ:Int) then AH (iter (WG n j g d) n 0:AB (CJ Unit (CJ Int (CJ Unit (CJ Int (CJ Unit Int)))))) λh=>match h with|.k f=>(AC (.k (i64.wrap (d+1))))|.d f=>AC f else AC (.d (.k ())))
def O1(h:CG)(d:Int):AB (CJ Int (CJ Unit Int)):=(bif d<=(AI h.AQ:Int) then AH (iter (WY n h d) n 0:AB (CJ Unit (CJ Int (CJ Unit Int)))) λg=>match g with|.k f=>(AC (.k (i64.wrap (d+1))))|.d f=>AC f else AC (.d (.k ())))
def LF(g:CG):AB Int:=AH ((bif 511<(AI g.AQ:Int) then AC AE else AC ((AI g.BE:Int) != (i64.wrap ((AI g.AQ:Int)+1)))):AB Bool) λt=>(bif t then AC 160 else AH (iter (PH n g) n 0:AB (CJ Unit Int)) λq=>match q with|.k h=>(AH (iter (PJ n g) n 0:AB (CJ Unit Int)) λj=>match j with|.k d=>(AH (iter (O1 n g) n 0:AB (CJ Unit Int)) λm=>match m with|.k f=>(AC 0)|.d f=>AC f)|.d d=>AC d)|.d h=>AC h)
instance o?(x:CG):Ki (LF n x) 190 [.a (CG.c x)]:=by
 exact Kg 0 func190 Z Z Z Z λr h=>by
  have:=hn 20100 [0] [1,3] (λ(E:Bool)=>[(23,.b E)]) Ze;have:=hn 50502 [0] [1,3] (λ(_:Unit)=>[]) Ze;have:=hl 50502 [0] [1,3] (λ(y:Int)=>[(4,I y)]) Ze;have:=hn 80100 [0] [1,3,4] (λ(B:Bool)=>[(72,.b B)]) Ze;have:=hn 110904 [0] [1,3] (λ(_:Unit)=>[]) Ze;have:=hl 110904 [0] [1,3] (λ(d:Int)=>[(6,I d)]) Ze;have:=hn 130100 [0] [1,3,6] (λ(f:Bool)=>[(97,.b f)]) Ze;have:=hn 160402 [0] [1,3,6] (λ(_:Unit)=>[]) Ze;have:=hl 160402 [0] [1,3,6] (λ(g:Int)=>[(7,I g)]) Ze;have:=hn 180100 [0] [1,3,6,7] (λ(j:Bool)=>[(122,.b j)]) Ze;have:=hn 211004 [] [] (λ(_:Unit)=>[]) Ze;have:=hl 211004 [0] [1,3] (λ(m:Int)=>[(8,I m)]) Ze;have:=hn 240703 [0] [1,3,8] (λ(_:Unit)=>[]) Ze;have:=hl 240703 [0] [1,3,8] (λ(q:Int)=>[(9,I q)]) Ze;have:=hn 270402 [0] [1,3,8,9] (λ(_:Unit)=>[]) Ze;have:=hl 270402 [0] [1,3,8,9] (λ(t:Int)=>[(10,I t)]) Ze;exact bu h
def Mu(n:Nat)(d:Int):AB Bool:=AH ((bif (-1099511627776)<=d then AC (AG (d<=1099511627776))else AC AD):AB Bool) λf=>AC f
instance d?(d:Int):Kb (Mu n d) 191 [I d]:=by
 exact Kg 0 func191 Z Z Z Z λr h=>by
  have:=hn 10100 [] [] (λ(f:Bool)=>[(2,.b f)]) Ze;exact bu h
def Rc(n:Nat)(d:CQ)(f:CQ)(g:Int):AB Bool:=(bif (d.A' != f.A')then AC (AG (d.A'<f.A'))else(bif (d.Af != f.Af)then AC (AG (d.Af<f.Af))else(bif (d.Ad != f.Ad)then AC (AG (d.Ad<f.Ad))else AC (AG (g<(i64.wrap (f.BD-d.Ai)))))))
instance J?(d:CQ)(f:CQ)(g:Int):Kb (Rc n d f g) 292 [.a (CQ.c d),.a (CQ.c f),I g]:=by
 refine Kg 17 func292 Z Z Z Z λr h=>Cn Z h (λ_ h=>?_) (λ_ h=>?_)
 .exact Hw 12 Z h 6 []
 iterate 2 (refine Gc 12 Z (Cn Z h (λ_ h=>?_) (λ_ h=>?_));exact Hw 12 Z h 6 [])
 exact Hw 15 Z h 6 []
def Oo(m:CE)(g:AA CQ)(f:Int):AB (CJ Int (CJ Unit Int)):=(bif f<(AI g:Int) then AH (CN g f) λd=>AH ((bif d.Af<0 then AC AE else(bif (AI m.An:Int)<=d.Af then AC AE else AH (Lk n d.Ad) λq=>(bif (!q)then AC AE else AH (IJ n d.A') λt=>(bif (!t)then AC AE else AH (HN n d.BD) λx=>(bif (!x)then AC AE else AH (HN n d.Ai) λy=>(bif (!y)then AC AE else AC (AG (d.Ai<d.BD)))))))):AB Bool) λB=>(bif B then AC (.d (.d 170))else AH ((bif 0<f then AH (CN g (i64.wrap (f-1))) λh=>AH (Rc n h d m.AT.BH) λj=>AC (!j)else AC AD):AB Bool) λE=>(bif E then AC (.d (.d 170))else AC (.k (i64.wrap (f+1)))))else AC (.d (.k ())))
def RY(f:CE)(j:AA CQ):AB Int:=AH (D2 n f) λg=>(bif (g != 0)then AC g else AH (iter (Oo n f j) n 0:AB (CJ Unit Int)) λh=>match h with|.k d=>(AC 0)|.d d=>AC d)
instance F?(d:CE)(f:AA CQ):Ki (RY n d f) 192 [.a (CE.c d),.q 5 (map CQ.c f)]:=by
 exact Kg 0 func192 Z Z Z Z λr h=>by
  have:=hn 50703 [] [] (λ(_:Unit)=>[]) Ze;have:=hl 50703 [0] [1,2] (λ(g:Int)=>[(6,I g)]) Ze;have:=hn 80100 [0,1] [1,2,6,7] (λ(j:Bool)=>[(64,.b j)]) Ze;have:=hn 100100 [0] [1,2,6] (λ(m:Bool)=>[(79,.b m)]) Ze;exact bu h
def PD(g:AA AY)(f:Int):AB (CJ Int (CJ Unit Int)):=(bif f<(AI g:Int) then AH (CN g f) λd=>AH ((bif d.Hi<d.Lo then AC AE else AH (Mu n d.Lo) λh=>(bif (!h)then AC AE else AH (Mu n d.Hi) λj=>(bif (!j)then AC AE else AC (AG (d.AS<0))))):AB Bool) λm=>(bif m then AC (.d (.d 1))else AC (.k (i64.wrap (f+1))))else AC (.d (.k ())))
def O5(x:CE)(y:CG)(f:AA CQ)(d:Int):AB (CJ Int (CJ Unit Int)):=(bif d<(AI f:Int) then AH (AH (CN f d) λg=>AH (Hg n x g.Af) λh=>(bif (!h)then AH (CN f d) λj=>AH (CN f d) λm=>AH (He n y.AQ j.Af m.Ad) λq=>AC (q==0)else AC AD):AB Bool) λt=>(bif t then AC (.d (.d 170))else AC (.k (i64.wrap (d+1))))else AC (.d (.k ())))
def Rl(f:CE)(t:CG)(g:AP)(H:Int)(x:AA CQ)(J:AA AY):AB Int:=AH (D2 n f) λy=>AH ((bif (y==0)then AH (LF n t) λL=>AC L else AC y):AB Int) λB=>(bif (B != 0)then AC B else AH ((bif g.AN<0 then AC AE else(bif (AI f.AO:Int)<=g.AN then AC AE else(bif g.Aw<0 then AC AE else AC (AG ((AI f.Ax:Int)<=g.Aw))))):AB Bool) λE=>(bif E then AC 1 else AH (iter (PD n J) n 0:AB (CJ Unit Int)) λF=>match F with|.k h=>(AH (HJ n f g.AN H) λj=>AH ((bif (j.2==0)then AH (RY n f x) λG=>AC G else AC j.2):AB Int) λm=>(bif (m != 0)then AC m else AH (iter (O5 n f t x) n 0:AB (CJ Unit Int)) λq=>match q with|.k d=>(AC 0)|.d d=>AC d))|.d h=>AC h))
instance km(g:CE)(j:CG)(m:AP)(q:Int)(t:AA CQ)(x:AA AY):Ki (Rl n g j m q t x) 108 [.a (CE.c g),.a (CG.c j),.a (AP.c m),I q,.q 5 (map CQ.c t),.q 4 (map AY.c x)]:=by
 exact Kg 0 func108 Z Z Z Z λr h=>by
  have:=hn 30101 [0,1,2] [3,4,5,6,7,8] (λ(G:Int)=>[(13,I G)]) Ze;have:=hn 60100 [0,1,2] [3,4,5,6,7,8] (λ(y:Bool)=>[(49,.b y)]) Ze;have:=hn 90502 [0,1,2] [3,4,6,7,8] (λ(_:Unit)=>[]) Ze;have:=hl 90502 [0,1,2] [3,4,5,6,7,8] (λ(B:Int)=>[(14,I B)]) Ze;have:=hn 120100 [0,1,2] [3,4,5,6,7,8,14] (λ(E:Bool)=>[(81,.b E)]) Ze;have:=hn 160101 [0,1] [4,6,7] (λ(F:Int)=>[(13,I F)]) Ze;have:=hn 200402 [] [] (λ(_:Unit)=>[]) Ze;have:=hl 200402 [0,1] [4,6,7] (λ(d:Int)=>[(16,I d)]) Ze;have:=hn 220100 [0,1] [4,6,7,16] (λ(f:Bool)=>[(127,.b f)]) Ze;exact bu h
def MM(n:Nat)(f:CE)(q:Int)(t:Int)(d:Int):AB (CJ Int (CJ Unit C2)):=(bif d<(AI f.As:Int) then AH (AH (CN f.As d) λg=>(bif (g.A5==q)then AH (CN f.As d) λh=>AC (h.To==t)else AC AD):AB Bool) λj=>(bif j then AH (CN f.As d) λm=>AC (.d (.d m))else AC (.k (i64.wrap (d+1))))else AC (.d (.k ())))
def P9(g:CE)(h:Int)(j:Int):AB C2:=AH (iter (MM n g h j) n 0:AB (CJ Unit C2)) λf=>match f with|.k d=>(AC Uw)|.d d=>AC d
instance _j(d:CE)(f:Int)(g:Int):Kq (P9 n d f g) 333 [.a (CE.c d),I f,I g] [] (λr=>.a (C2.c r)) (λr=>[.c 213 (C2.c r)]):=by
 exact Kg 0 func333 Z Z Z Z λr h=>by
  have:=hn 20402 [1] [6] (λ(_:Unit)=>[]) Ze;have:=hl 20402 [0,1] [1,2,3,6] (λ(j:Int)=>[(7,I j)]) Ze;have:=hn 40100 [0,1] [1,2,3,6,7] (λ(m:Bool)=>[(32,.b m)]) Ze;exact bu h
end Go.Sw
