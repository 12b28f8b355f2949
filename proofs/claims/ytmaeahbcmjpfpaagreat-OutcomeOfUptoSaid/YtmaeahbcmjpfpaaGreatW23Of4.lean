/- What the functions compute that OutcomeOf reaches, and that their calls refine it (part 4 of 7). -/
import Derived.Test.YtmaeahbcmjpfpaaGreatW23Of3
set_option linter.unusedVariables false
set_option linter.unusedSimpArgs false
set_option maxRecDepth 100000
set_option maxHeartbeats 4000000
namespace Go.Sw
open Option renaming some→AC,none→AF,bind→AH
open Bool renaming false→AD,true→AE
open Decidable renaming decide→AG
open List renaming length→AI
variable (n:Nat)
open List(map)
open Int(toNat)
open Go.IntKind(i64 u64 u8)
open Go.Proofs Tryz
def pd(f:AA CH)(d:(AA CH)×Int×Int):AB (CJ ((AA CH)×Int×Int) (AA CH)):=(bif d.2.2<(AI f:Int) then AH (CN f d.2.2) λh=>AH (gQ n h d.2.1 d.1) λg=>AC (.k (g.2,g.1,i64.wrap (d.2.2+1)))else AC (.d d.1))
def Wn(d:AA CH):AB (AA CH):=AH (gZ n d) λm=>AH ((bif m then AH (K3 n) λB=>AH (app [] [{BP:=AE,Bg:=(-1),Lo:=0,Hi:=0:CH}]) λq=>AC q else AC []):AB (AA CH)) λt=>AH (gB n d) λf=>AH (gn n f) λg=>AH (MB (λx y=>gy n x y) g) λh=>AH (iter (pd n h) n (t,(-1),0):AB (AA CH)) λj=>AC j
instance yr(B:AA CH):Kq (Wn n B) 16 [.q 4 (map CH.c B)] [] (λr=>.o 0 (AI r) 4) (λr=>[.r 63 4 (map CH.c r),.c 57 [.o 0 (AI r) 4]]):=by
 have:=hn 20101 [0,0] [0,2] (λ(_:AA CH)=>[]) (λf=>[(0,.c [(0,.o 1 (AI f) 4)]),(1,.w (.r 63 4 (map CH.c f)))]);have:=hk 2 3 [1] [(0,0,1),(1,0,0),(0,1,1)];have:=hn 80401 [0,1] [2] (λ(_:AA CH)=>[]) (λq=>[(0,.c [(0,.o 1 (AI q) 4)]),(1,.w (.r 63 4 (map CH.c q)))]);have:=hl 80401 [0,1,3,2] [2,5,20,21] (λ(d:(AA CH)×Int×Int)=>[(22,I d.2.2)]) (λd=>[(0,.c [(0,.o 1 (AI d.1) 4)]),(1,.w (.r 63 4 (map CH.c d.1))),(2,.c [(0,I d.2.1)])]);refine Kg 9 func16 Z Z Z Z λr h=>Cz [] h Kc Z λQ M h=>Go 2 Z (Bd h λf g h=>Ct f [0,0] [0,2] Ze (λf=>[(0,.c 57 [.o 1 (AI f) 4]),(1,.r 63 4 (map CH.c f))]) Zf ?_ (λenv H E=>?_))
 .refine G0 0 Z (Cn Z g (λ_ g=>?_) (λ_ g=>?_))
  .refine Iu 3 [1] [(0,0,1),(1,0,0),(0,1,1)] (by kernel_rfl) ?_;refine Ll (lo:=0) (x:=.n) ⟨Z,trivial⟩ ?_;obtain⟨R,G,g⟩:=Yf g;refine Ew (x:=.a [.b AE,I (-1),I 0,I 0]) (X1:=[.c 57 [.n],.c 63 [.b AE,I (-1),I 0,I 0]]) ?_ ?_
   .refine Qt [] (Dc.fn call52 Z Z Z) ((kh _).c _ G) ?_;rintro _ _ ⟨rfl,rfl⟩;exact FE Z Wp
   refine DK.wo (x:=.q 4 (map CH.c [{BP:=AE,Bg:=(-1),Lo:=0,Hi:=0:CH}])) ?_ ?_
   .refine vH (YZ (xs:=[.tmp 11]) NZ Z Z Z Z Z ⟨Z,trivial⟩ Z Z) ?_;exact FE Z Wp
   exact bu g
  refine Gc 1 Z ?_;cases g;refine En (QS (i:=0) (m:=0) (t:=63) (k:=4) Z Z Z) ?_;exact Lr [0,1]
 refine Gx 1 Z (Ee E (Gc 3 Z (Cd [] h Kc Z λN J h=>FE Z (Cd [2] h Kc Z λO L h=>Fg 6 Z Z (Bd h λP j h=>?_)))));refine Qt [2] (Dc.fn call58 Z Z Z) (sy Qhx j (λx y c h=>(kY n x y).c c h) Gu EI call59 Zf Z) ?_;rintro _ _ ⟨rfl,rfl⟩;refine FE Z ?_;refine Er (Q3 (s:=3) Z (congrArg (λn=>A.s 2 0 n 4) (fN j))) ?_;exact bu h
def py(f:(AA CW)×Int)(m:Uh×Int)(d:(AA CH)×Int):AB (CJ ((AA CH)×Int) (AA CH)):=(bif d.2<(AI f.1:Int) then AH (CN f.1 d.2) λg=>AH (LU n m.1 g) λh=>AH (app d.1 h) λj=>AC (.k (j,i64.wrap (d.2+1)))else AC (.d d.1))
def g7(g:CE)(h:CG)(j:AP)(m:AA CQ)(q:AA AY)(E:AA CL)(F:Int):AB ((AA CH)×Int):=AH (NJ n g h j m q E F) λt=>AH (ND n g h j t.BJ m q) λd=>AH ((bif (d.2 != 0)then AC (d.2 != 2)else AC AD):AB Bool) λG=>(bif G then AC ([],d.2)else AH (M6 n t) λf=>(bif (f.2 != 0)then AC ([],f.2)else(bif (d.2==2)then AH (ga n f.1) λx=>AC (x,0)else AH (iter (py n d f) n ([],0):AB (AA CH)) λy=>AH (Wn n y) λB=>AC (B,0))))
instance ka(g:CE)(j:CG)(m:AP)(q:AA CQ)(t:AA AY)(x:AA CL)(y:Int):Kq (g7 n g j m q t x y) 48 [.a (CE.c g),.a (CG.c j),.a (AP.c m),.q 5 (map CQ.c q),.q 4 (map AY.c t),.q 4 (map CL.c x),I y] [] (λr=>.t [.o 0 (AI r.1) 4,I r.2]) (λr=>[.r 63 4 (map CH.c r.1)]):=by
 exact Kg 0 func48 Z Z Z Z λr h=>by
  have:=hn 30100 [4,5] [14,15,16,17] (λ(B:Bool)=>[(45,.b B)]) Ze;have:=hn 110401 [0] [] (λ(f:AA CH)=>[(14,.o 0 (AI f) 4)]) (λf=>[(0,.w (.r 63 4 (map CH.c f)))]);have:=hl 110401 [0,0,1] [55,56] (λ(d:(AA CH)×Int)=>[(14,.o 0 (AI d.1) 4),(16,.p 1 0),(57,I d.2)]) (λd=>[(0,.w (.r 63 4 (map CH.c d.1)))]);exact bu h
def f9(n:Nat)(f:AA CH)(j:AA CH)(d:Int):AB (CJ Int (CJ Unit Bool)):=(bif d<(AI f:Int) then AH (CN f d) λg=>AH (CN j d) λh=>(bif (g != h)then AC (.d (.d AD))else AC (.k (i64.wrap (d+1))))else AC (.d (.k ())))
def NG(f:AA CH)(g:AA CH):AB Bool:=(bif ((AI f:Int) != (AI g:Int))then AC AD else AH (iter (f9 n f g) n 0:AB (CJ Unit Bool)) λh=>match h with|.k d=>(AC AE)|.d d=>AC d)
instance lQ(t:AA CH)(y:AA CH):Kb (NG n t y) 10 [.q 4 (map CH.c t),.q 4 (map CH.c y)]:=by
 refine Kg 9 func10 Z Z Z Z λr h=>Lg 1 Z Z (Lg 3 Z Z (Cn Z h (λ_ h=>?_) (λ_ h=>?_)))
 .exact bu h
 refine Gc 8 Z (Bd h λE F h=>Hz (b:=E) [] [] Ze Ze Zf ?_ (λ_ G=>?_))
 .refine G0 1 Z (Lp [] [0,1] (λg=>[(5,I g)]) Ze F Zf (Lr []) λg M d f=>(G0 5 Z (Lg 3 Z Z (Dm Z d (λ_ d=>?_) (λ_ d=>?_)))))
  .exact FS f d
  refine Gc 5 Z (GX 8 Z (D 2 Z ?_));obtain⟨H,m,d⟩:=Yf d;refine DS.wo (x:=.rp (CH.c H)) ?_ ?_
  .exact Ix m EE EI Z Wp
  refine D 3 Z ?_;obtain⟨J,q,d⟩:=Yf d;refine DS.wo (x:=.rp (CH.c J)) ?_ ?_
  .exact Ix q EE EI Z Wp
  refine D 1 Z (Eg Z (vV (vD sE Z Z) ?_));exact H9 f d h
 subst G;exact bu h
def LY(f:Int)(g:AA AY)(h:AA CL)(j:AA CH):AB Bool:=AH (gG n f) λm=>AH (LX n) λx=>AH (g7 n ({Ar:=[99],An:=[{Ar:=[115],AV:=1:Af},{Ar:=[101],AV:=3:Af}],As:=[{A5:=0,To:=1,Bn:=10,Bs:=1000:C2}],AO:=m,Ax:=[{Ar:=[119],B0:=0:Aw}],Ah:=[],Ac:=[],A3:=[],BZ:=[{UG with AV:=1,By:=4:AX}],AT:=Uu,B7:=0,BL:=0:CE}) ({AQ:=[],BE:=[[0]]:CG}) ({UF with Bf:=1:AP}) [] g h (-1)) λd=>AH (AH (NG n d.1 j) λq=>(bif q then AC (d.2==0)else AC AD):AB Bool) λt=>AC t
instance N5(d:Int)(f:AA AY)(g:AA CL)(j:AA CH):Kb (LY n d f g j) 11 [I d,.q 4 (map AY.c f),.q 4 (map CL.c g),.q 4 (map CH.c j)]:=by
 refine Kg 8 func11 Z Z Z Z λr h=>Cd [] h Kc Z λx q h=>FE Z (Cd [] h Kc Z λy t h=>Fg 3 Z Z ?_);refine Er (Yz 0 [(13,_)]) (Er (Yz 1 [(13,_)]) ?_);refine Er (Yz 2 [(13,_)]) ?_;refine Er (Yz 3 [(13,_)]) (Er (Yz 4 [(13,_)]) ?_);refine Er (Yz 6 [(14,_)]) (Bd h λB m h=>?_);refine Qt [] (Dc.fn call48 Z Z Z) (C.nils (Fx.eq (Fx.eq (Fx.eq (Fx.nl (Fx.eq (Fx.eq (Fx.eq Fx.nil))))))) ((ka _ _ _ _ _ _ _ _).c _ m)) ?_;rintro _ _ ⟨rfl,rfl⟩;exact bu h
def NN(n:Nat):AB Unit:=AC ()
instance TE:Kq (NN n) 12 [] [] (λ_=>.o 0 ([{Bf:=1,AS:=0,Lo:=0,Hi:=5:AY},{Bf:=1,AS:=1,Lo:=100,Hi:=101:AY}].length) 4) (λ_=>[.r 93 4 (map AY.c [{Bf:=1,AS:=0,Lo:=0,Hi:=5:AY},{Bf:=1,AS:=1,Lo:=100,Hi:=101:AY}])]):=KB func12
def Rr(f:CG)(d:CH):AB Int:=AH (J_ n f) λg=>(bif (g != 0)then AC g else AH ((bif (-1)<=d.Bg then(bif d.Bg<(AI f.AQ:Int) then(bif (-288230376151711744)<=d.Lo then(bif d.Lo<=d.Hi then AC (AG (d.Hi<=288230376151711744))else AC AD)else AC AD)else AC AD)else AC AD):AB Bool) λj=>AH ((bif d.BP then AH (K3 n) λm=>AC (d==({BP:=AE,Bg:=(-1),Lo:=0,Hi:=0:CH}))else AC j):AB Bool) λh=>(bif (!h)then AC 230 else AC 0))
instance ky(y:CG)(g:CH):Ki (Rr n y g) 15 [.a (CG.c y),.a (CH.c g)]:=by
 refine Kg 11 func15 Z Z Z Z λr h=>Cz [] h Kc Z λL G h=>Go 9 Z (Cn Z h (λ_ h=>?_) (λ_ h=>?_))
 .exact bu h
 refine Gc 3 Z (Bd h λj F h=>Ct j [1] [3] (λj=>[(6,.b j)]) Ze Zf ?_ (λenv H E=>?_))
 .exact bu F
 refine Gx 1 Z (Ee E (Gc 7 Z (Bd h λf d h=>Cg f [] [] (λf=>[(6,.b f)]) Ze Zf ?_ ?_)))
 .refine G0 0 Z (Cn Z d (λ_ d=>?_) (λ_ d=>?_))
  .refine Iu 2 [1] [(0,0,1),(1,0,0)] (by kernel_rfl) ?_;refine Ll (lo:=0) ⟨Z,trivial⟩ ?_;obtain⟨J,t,d⟩:=Yf d;refine Ew (x:=.a [.b AE,I (-1),I 0,I 0]) (X1:=[.c 63 (CH.c g),.c 63 [.b AE,I (-1),I 0,I 0]]) ?_ ?_
   .refine Qt [] (Dc.fn call52 Z Z Z) ((kh _).c _ t) ?_;rintro _ _ ⟨rfl,rfl⟩;exact FE Z Wp
   refine DK.done Z Z ?_;refine vV (je (p:=g) (q:={BP:=AE,Bg:=(-1),Lo:=0,Hi:=0:CH}) sE Z Z) ?_;exact Gl 2 Z d []
  exact bu d
 exact bu h
def Zj(f:CG)(d:CH):AB (CK×Int):=AH (Rr n f d) λg=>(bif (g != 0)then AC ({Lo:=0,Hi:=0:CK},g)else(bif d.BP then AC ({Lo:=0,Hi:=0:CK},230)else AH (LG n f d.Bg ({Lo:=d.Lo,Hi:=d.Hi:CK})) λh=>AC ({Lo:=h.Lo,Hi:=h.Hi:CK},0)))
instance cY(d:CG)(f:CH):Kq (Zj n d f) 13 [.a (CG.c d),.a (CH.c f)] [] (λr=>.t [.a [I r.1.Lo,I r.1.Hi],I r.2]) (λr=>[.c 69 [I r.1.Lo,I r.1.Hi]]):=KB func13
abbrev Lz:AA CH:=[{BP:=AE,Bg:=(-1),Lo:=0,Hi:=0:CH},{BP:=AD,Bg:=(-1),Lo:=100,Hi:=101:CH}]
abbrev D8:AA AY:=[{Bf:=1,AS:=0,Lo:=0,Hi:=5:AY},{Bf:=1,AS:=1,Lo:=100,Hi:=101:AY}]
abbrev cT:AA CH:=[{BP:=AD,Bg:=1,Lo:=1,Hi:=2:CH},{BP:=AD,Bg:=1,Lo:=3,Hi:=4:CH}]
abbrev Ly:AA CH:=[{BP:=AD,Bg:=(-1),Lo:=100,Hi:=101:CH}]
abbrev cS:AA CH:=[{BP:=AD,Bg:=(-1),Lo:=160,Hi:=161:CH}]
abbrev Ho:AA CH:=[{BP:=AE,Bg:=(-1),Lo:=0,Hi:=0:CH}]
abbrev Lv:AA CL:=[{Uz with BP:=AE:CL}]
abbrev cR:AA CL:=[{Uz with BV:=60:CL}]
abbrev KT:CG:={AQ:=[],BE:=[[0]]:CG}
def Zd:AB Bool:=AH (AH (LY n 0 [] [] Ho) λf=>(bif (!f)then AC AE else AH (NN n) λF=>AH (LY n 0 D8 [] Ly) λg=>(bif (!g)then AC AE else AH (NN n) λG=>AH (LY n 0 D8 Lv Ho) λh=>(bif (!h)then AC AE else AH (NN n) λH=>AH (LY n 100 D8 [] Lz) λj=>(bif (!j)then AC AE else AH (NN n) λJ=>AH (LY n 0 D8 cR cS) λm=>AC (!m))))):AB Bool) λq=>(bif q then AC AD else AH (LX n) λL=>AH (Zj n (KT) ({BP:=AD,Bg:=(-1),Lo:=100,Hi:=101:CH})) λd=>AH (LX n) λM=>AH (Zj n (KT) ({BP:=AE,Bg:=(-1),Lo:=0,Hi:=0:CH})) λt=>AH ((bif (({Lo:=d.1.Lo,Hi:=d.1.Hi:CK})==({Lo:=100,Hi:=101:CK}))then(bif (d.2==0)then(bif (t.2==230)then AH (LX n) λN=>AH (Rr n (KT) ({BP:=AE,Bg:=(-1),Lo:=0,Hi:=0:CH})) λx=>(bif (x==0)then AH (LX n) λO=>AH (Rr n (KT) Ux) λy=>(bif (y==230)then AH (Wn n cT) λB=>AC ((AI B:Int)==1)else AC AD)else AC AD)else AC AD)else AC AD)else AC AD):AB Bool) λE=>AC E)
instance ke:Kb (Zd n) 4 []:=by
 have:=hn 40100 [0,1] [1,2] (λ(m:Bool)=>[(47,.b m)]) Ze;have:=hk 4 34 [5,12,21,29] [(0,0,0),(0,0,0),(0,0,0),(0,0,0),(0,0,0),(1,0,0),(0,0,1),(0,0,1),(0,1,1),(0,1,1),(0,1,1),(0,1,1),(1,1,0),(0,1,2),(0,1,2),(0,1,2),(0,1,2),(0,2,2),(0,2,2),(0,2,2),(0,2,2),(1,2,0),(0,2,3),(0,2,3),(0,2,3),(0,3,3),(0,3,3),(0,3,3),(0,3,3),(1,3,0),(0,3,4),(0,3,4),(0,3,4),(0,3,4)];have:=hn 80100 [] [] (λ(t:Bool)=>[(0,.b t)]) Ze;have:=hk 8 26 [12,18] [(0,0,0),(0,0,0),(0,0,0),(0,0,0),(0,0,0),(0,0,0),(0,0,0),(0,0,0),(0,0,0),(0,0,0),(0,0,0),(0,0,0),(1,0,0),(0,0,1),(0,1,1),(0,1,1),(0,1,1),(0,1,1),(1,1,0),(0,1,2),(0,2,2),(0,2,2),(0,2,2),(0,2,2),(0,2,2),(0,2,2)];refine Kg 28 func4 Z Z Z Z λr h=>Bd h λm f h=>Ct m [0,1] [1,2] (λm=>[(47,.b m)]) Ze Zf ?_ (λenv H ae=>?_)
 .refine G0 0 Z (Iu 34 [5,12,21,29] [(0,0,0),(0,0,0),(0,0,0),(0,0,0),(0,0,0),(1,0,0),(0,0,1),(0,0,1),(0,1,1),(0,1,1),(0,1,1),(0,1,1),(1,1,0),(0,1,2),(0,1,2),(0,1,2),(0,1,2),(0,2,2),(0,2,2),(0,2,2),(0,2,2),(1,2,0),(0,2,3),(0,2,3),(0,2,3),(0,3,3),(0,3,3),(0,3,3),(0,3,3),(1,3,0),(0,3,4),(0,3,4),(0,3,4),(0,3,4)] (by kernel_rfl) (Dk 1 Z ?_));refine DK.wo (x:=.q 4 (map CH.c Ho)) ?_ ?_
  .exact vH (YZ (xs:=[.tmp 11]) (es:=map CH.c Ho) NZ Z Z Z Z Z ⟨Z,trivial⟩ Z Z) Wp
  obtain⟨af,y,f⟩:=Yf f;refine DK.wo (x:=.b af) ?_ ?_
  .refine Qt [] (Dc.fn call11 Z Z Z) (C.nils (Fx.eq (Fx.nl (Fx.nl (Fx.eq Fx.nil)))) ((N5 _ _ _ _ _).c _ y)) ?_;rintro _ _ ⟨rfl,rfl⟩;exact FE Z Wp
  refine Dk 2 Z (DK.is 4 f Z Z Z (λ_ f=>?_) (λ_ f=>?_))
  .exact bu f
  .obtain⟨ak,E,f⟩:=Yf f;refine Ew (x:=.o 3 (AI D8) 4) (X1:=[.c 63 [.b AE,I (-1),I 0,I 0],.c 63 [.b AD,I (-1),I 100,I 101],.c 63 [.b AD,I (-1),I 160,I 161],.r 93 4 (map AY.c D8)]) ?_ ?_
   .refine Qt [] (Dc.fn call12 Z Z Z) ((TE _).c _ E) ?_ (hg:=(gT Z));rintro _ _ ⟨rfl,rfl⟩;exact FE Z Wp
   refine au (lo:=0) (hi:=1) (x:=.a [.b AD,I (-1),I 100,I 101]) ⟨Z,Z,trivial⟩ ?_;refine eO (lo:=0) (hi:=1) (x:=.q 4 (map CH.c Ly)) ⟨?_,?_,trivial⟩ ?_
   iterate 2 exact vH (YZ (xs:=[.tmp 17]) (es:=map CH.c Ly) NZ Z Z Z Z Z ⟨Z,trivial⟩ Z Z) Wp (gT Z)
   obtain⟨ag,F,f⟩:=Yf f;refine DK.wo (x:=.b ag) ?_ ?_
   .refine aM (Dc.fn call11 rfl rfl rfl) (E_.cons rfl (.inl ⟨rfl,rfl⟩) (E_.cons rfl (.inr ⟨_,_,_,_,_,rfl,rfl,X4 ..,rfl⟩) (E_.cons rfl (.inl ⟨rfl,rfl⟩) (E_.cons rfl (.inl ⟨rfl,rfl⟩) E_.nil)))) (C.nils (Fx.eq (Fx.eq (Fx.nl (Fx.eq Fx.nil)))) ((N5 _ _ _ _ _).c _ F)) (by rintro _ _ ⟨rfl,rfl⟩;rfl) ?_ (gT rfl);rintro _ _ ⟨rfl,rfl⟩;exact FE Z Wp
   refine Dk 3 Z (DK.is 11 f Z Z Z (λ_ f=>?_) (λ_ f=>?_))
   .exact bu f
   .obtain⟨am,J,f⟩:=Yf f;refine Ew (x:=.o 4 (AI D8) 4) (X1:=[.c 63 [.b AE,I (-1),I 0,I 0],.c 63 [.b AD,I (-1),I 100,I 101],.c 63 [.b AD,I (-1),I 160,I 161],.r 93 4 (map AY.c D8),.r 93 4 (map AY.c D8)]) ?_ ?_
    .refine Qt [] (Dc.fn call12 Z Z Z) ((TE _).c _ J) ?_ (hg:=(gT Z));rintro _ _ ⟨rfl,rfl⟩;exact FE Z Wp
    refine Dk 1 Z ?_;refine eO (lo:=1) (hi:=2) (x:=.q 4 (map CL.c Lv)) ⟨?_,?_,trivial⟩ ?_
    iterate 2 exact vH (YZ (xs:=[.tmp 24]) (es:=map CL.c Lv) dW Z Z Z Z Z ⟨Z,trivial⟩ Z Z) Wp (gT Z)
    refine au (lo:=1) (hi:=2) (x:=.a [.b AE,I (-1),I 0,I 0]) ⟨Z,Z,trivial⟩ ?_;refine eO (lo:=1) (hi:=2) (x:=.q 4 (map CH.c Ho)) ⟨?_,?_,trivial⟩ ?_
    iterate 2 exact vH (YZ (xs:=[.tmp 26]) (es:=map CH.c Ho) NZ Z Z Z Z Z ⟨Z,trivial⟩ Z Z) Wp (gT Z)
    obtain⟨ah,L,f⟩:=Yf f;refine DK.wo (x:=.b ah) ?_ ?_
    .refine aM (Dc.fn call11 rfl rfl rfl) (E_.cons rfl (.inl ⟨rfl,rfl⟩) (E_.cons rfl (.inr ⟨_,_,_,_,_,rfl,rfl,X4 ..,rfl⟩) (E_.cons rfl (.inl ⟨rfl,rfl⟩) (E_.cons rfl (.inl ⟨rfl,rfl⟩) E_.nil)))) ((N5 _ _ _ _ _).c _ L) (by rintro _ _ ⟨rfl,rfl⟩;rfl) ?_ (gT rfl);rintro _ _ ⟨rfl,rfl⟩;exact FE Z Wp
    refine Dk 3 Z (DK.is 20 f Z Z Z (λ_ f=>?_) (λ_ f=>?_))
    .exact bu f
    .obtain⟨an,N,f⟩:=Yf f;refine Ew (x:=.o 5 (AI D8) 4) (X1:=[.c 63 [.b AE,I (-1),I 0,I 0],.c 63 [.b AD,I (-1),I 100,I 101],.c 63 [.b AD,I (-1),I 160,I 161],.r 93 4 (map AY.c D8),.r 93 4 (map AY.c D8),.r 93 4 (map AY.c D8)]) ?_ ?_
     .refine Qt [] (Dc.fn call12 Z Z Z) ((TE _).c _ N) ?_ (hg:=(gT Z));rintro _ _ ⟨rfl,rfl⟩;exact FE Z Wp
     refine au (lo:=2) (hi:=3) (x:=.a [.b AE,I (-1),I 0,I 0]) ⟨Z,Z,trivial⟩ ?_;refine au (lo:=2) (hi:=3) (x:=.a [.b AD,I (-1),I 100,I 101]) ⟨Z,Z,trivial⟩ ?_;refine eO (lo:=2) (hi:=3) (x:=.q 4 (map CH.c Lz)) ⟨?_,?_,trivial⟩ ?_
     iterate 2 exact vH (YZ (xs:=[.tmp 33,.tmp 34]) (es:=map CH.c Lz) NZ Z Z Z Z Z ⟨Z,Z,trivial⟩ Z Z) Wp (gT Z)
     obtain⟨ai,O,f⟩:=Yf f;refine DK.wo (x:=.b ai) ?_ ?_
     .refine aM (Dc.fn call11 rfl rfl rfl) (E_.cons rfl (.inl ⟨rfl,rfl⟩) (E_.cons rfl (.inr ⟨_,_,_,_,_,rfl,rfl,X4 ..,rfl⟩) (E_.cons rfl (.inl ⟨rfl,rfl⟩) (E_.cons rfl (.inl ⟨rfl,rfl⟩) E_.nil)))) (C.nils (Fx.eq (Fx.eq (Fx.nl (Fx.eq Fx.nil)))) ((N5 _ _ _ _ _).c _ O)) (by rintro _ _ ⟨rfl,rfl⟩;rfl) ?_ (gT rfl);rintro _ _ ⟨rfl,rfl⟩;exact FE Z Wp
     exact bu f
 refine Gx 1 Z (Ee ae (Cn Z h (λ_ h=>?_) (λ_ h=>?_)))
 .exact bu h
 refine Gc 3 Z ?_;obtain⟨ao,Q,h⟩:=Yf h;obtain⟨d,R,h⟩:=Yf h;refine UI 8 1 [49,50,51,48,52,53,4,1000007] [AE,AD,AE,AD,AD,AD,AE,AE] [[],[],[0],[0,2],[0,2],[0,2],[],[0,2,6]] [[],[0],[6],[0,2],[0,6],[0,2,6],[0,2,6,7]] [[(0,1),(2,4)],[(0,0),(1,1),(2,2),(4,4)],[(1,3),(4,5)],[(3,3),(5,5)],[(3,3),(5,5)],[(3,3),(5,5),(6,6)],[(0,2),(1,4),(3,5)],[(5,6)]] [.a [.q 3 (map CF.c []),.q 1 (map (QC 1 eI) [[0]])],.a [.b AD,I (-1),I 100,I 101],.t [.a (CK.c d.1),I d.2],.t [.a (CK.c d.1),I d.2],.a (CK.c d.1),I d.2,.p 2 0,.any] [[.c 63 [.b AE,I (-1),I 0,I 0],.c 63 [.b AD,I (-1),I 100,I 101],.dead],[.c 63 [.b AE,I (-1),I 0,I 0],.c 63 [.b AD,I (-1),I 100,I 101],.dead,.dead,.c 39 [.q 3 (map CF.c []),.q 1 (map (QC 1 eI) [[0]])]],[.c 63 [.b AE,I (-1),I 0,I 0],.c 63 [.b AD,I (-1),I 100,I 101],.c 69 [I 0,I 0]],[.c 63 [.b AE,I (-1),I 0,I 0],.c 63 [.b AD,I (-1),I 100,I 101],.dead,.dead,.c 39 [.q 3 (map CF.c []),.q 1 (map (QC 1 eI) [[0]])],.c 69 (CK.c d.1)],[.c 63 [.b AE,I (-1),I 0,I 0],.c 63 [.b AD,I (-1),I 100,I 101],.c 69 [I 0,I 0],.dead,.c 39 [.q 3 (map CF.c []),.q 1 (map (QC 1 eI) [[0]])]],[.c 63 [.b AE,I (-1),I 0,I 0],.c 63 [.b AD,I (-1),I 100,I 101],.c 69 [I 0,I 0],.dead,.c 39 [.q 3 (map CF.c []),.q 1 (map (QC 1 eI) [[0]])],.c 69 (CK.c d.1)],[.c 63 [.b AE,I (-1),I 0,I 0],.c 63 [.b AD,I (-1),I 100,I 101],.c 69 (CK.c d.1),.dead,.c 39 [.q 3 (map CF.c []),.q 1 (map (QC 1 eI) [[0]])],.c 69 (CK.c d.1)]] ([.c 63 [.b AE,I (-1),I 0,I 0],.c 63 [.b AD,I (-1),I 100,I 101],.c 69 (CK.c d.1),.dead,.c 39 [.q 3 (map CF.c []),.q 1 (map (QC 1 eI) [[0]])],.c 69 (CK.c d.1)]) FY Z Z Z Z Z Z Z ?_ Z ?_
 .refine FP.cons ?_ (M1 (FP.cons ?_ (M1 (M1 (M1 (FP.cons ?_ (FP.cons ?_ (FP.nil))))))))
  .refine Ql ?_ (Ql ?_ (QV))
   iterate 2 (refine So rfl sN ?_;refine Qt [] (Dc.fn call14 rfl rfl rfl) ((N4 _).c _ Q) ?_;rintro _ _ ⟨rfl,rfl⟩;refine aV (.a [.q 3 (map CF.c []),.o 3 ([[0]].length) 1]) [_,_,_,.r 54 1 (map (QC 1 eI) [[0]]),.c 39 [.q 3 (map CF.c []),.o 3 ([[0]].length) 1]] rfl rfl ?_;refine Er (Yz 3 [(49,_)]) ?_;refine Er OR ?_;exact Wp)
  .refine Ql ?_ (Ql ?_ (QV))
   iterate 2 (refine So rfl (sD 0 (sD 1 sN)) ?_;refine Qt [] (Dc.fn call13 rfl rfl rfl) ((cY _ _ _).c _ R) ?_;rintro _ _ ⟨rfl,rfl⟩;exact FE rfl Wp)
  .refine Ql ?_ (Ql ?_ (Ql ?_ (QV)))
   iterate 3 exact Y0.alloc _ 4 69 2 _ Z Z Z Z Z Z Z (OV.alloc (v:=(.a [I 0,I 0])) Gh (IN Z)) Z
  .refine Ql ?_ (QV)
   .refine xS Z (sD 6 (sD 4 sN)) ?_;refine vU (Ex Z Z Z EN Z Z Z Z Z Z Z) ?_;refine ei (H:=[_,_,.c 69 (CK.c d.1),_,_,_]) Z ?_;exact Wp
 refine Go 4 Z ?_;obtain⟨aq,T,h⟩:=Yf h;obtain⟨j,V,h⟩:=Yf h;refine UI 8 1 [55,56,57,54,58,59,6,1000007] [AE,AD,AE,AD,AD,AD,AE,AE] [[],[],[0],[0,2],[0,2],[0,2],[],[0,2,6]] [[],[0],[6],[0,2],[0,6],[0,2,6],[0,2,6,7]] [[(0,1),(2,4)],[(0,0),(1,1),(2,2),(4,4)],[(1,3),(4,5)],[(3,3),(5,5)],[(3,3),(5,5)],[(3,3),(5,5),(6,6)],[(0,2),(1,4),(3,5)],[(5,6)]] [.a [.q 3 (map CF.c []),.q 1 (map (QC 1 eI) [[0]])],.a [.b AE,I (-1),I 0,I 0],.t [.a (CK.c j.1),I j.2],.t [.a (CK.c j.1),I j.2],.a (CK.c j.1),I j.2,.p 6 0,.any] [[.c 63 [.b AE,I (-1),I 0,I 0],.c 63 [.b AD,I (-1),I 100,I 101],.c 69 (CK.c d.1),.dead,.c 39 [.q 3 (map CF.c []),.q 1 (map (QC 1 eI) [[0]])],.c 69 (CK.c d.1),.dead],[.c 63 [.b AE,I (-1),I 0,I 0],.c 63 [.b AD,I (-1),I 100,I 101],.c 69 (CK.c d.1),.dead,.c 39 [.q 3 (map CF.c []),.q 1 (map (QC 1 eI) [[0]])],.c 69 (CK.c d.1),.dead,.dead,.c 39 [.q 3 (map CF.c []),.q 1 (map (QC 1 eI) [[0]])]],[.c 63 [.b AE,I (-1),I 0,I 0],.c 63 [.b AD,I (-1),I 100,I 101],.c 69 (CK.c d.1),.dead,.c 39 [.q 3 (map CF.c []),.q 1 (map (QC 1 eI) [[0]])],.c 69 (CK.c d.1),.c 69 [I 0,I 0]],[.c 63 [.b AE,I (-1),I 0,I 0],.c 63 [.b AD,I (-1),I 100,I 101],.c 69 (CK.c d.1),.dead,.c 39 [.q 3 (map CF.c []),.q 1 (map (QC 1 eI) [[0]])],.c 69 (CK.c d.1),.dead,.dead,.c 39 [.q 3 (map CF.c []),.q 1 (map (QC 1 eI) [[0]])],.c 69 (CK.c j.1)],[.c 63 [.b AE,I (-1),I 0,I 0],.c 63 [.b AD,I (-1),I 100,I 101],.c 69 (CK.c d.1),.dead,.c 39 [.q 3 (map CF.c []),.q 1 (map (QC 1 eI) [[0]])],.c 69 (CK.c d.1),.c 69 [I 0,I 0],.dead,.c 39 [.q 3 (map CF.c []),.q 1 (map (QC 1 eI) [[0]])]],[.c 63 [.b AE,I (-1),I 0,I 0],.c 63 [.b AD,I (-1),I 100,I 101],.c 69 (CK.c d.1),.dead,.c 39 [.q 3 (map CF.c []),.q 1 (map (QC 1 eI) [[0]])],.c 69 (CK.c d.1),.c 69 [I 0,I 0],.dead,.c 39 [.q 3 (map CF.c []),.q 1 (map (QC 1 eI) [[0]])],.c 69 (CK.c j.1)],[.c 63 [.b AE,I (-1),I 0,I 0],.c 63 [.b AD,I (-1),I 100,I 101],.c 69 (CK.c d.1),.dead,.c 39 [.q 3 (map CF.c []),.q 1 (map (QC 1 eI) [[0]])],.c 69 (CK.c d.1),.c 69 (CK.c j.1),.dead,.c 39 [.q 3 (map CF.c []),.q 1 (map (QC 1 eI) [[0]])],.c 69 (CK.c j.1)]] ([.c 63 [.b AE,I (-1),I 0,I 0],.c 63 [.b AD,I (-1),I 100,I 101],.c 69 (CK.c d.1),.dead,.c 39 [.q 3 (map CF.c []),.q 1 (map (QC 1 eI) [[0]])],.c 69 (CK.c d.1),.c 69 (CK.c j.1),.dead,.c 39 [.q 3 (map CF.c []),.q 1 (map (QC 1 eI) [[0]])],.c 69 (CK.c j.1)]) FY Z Z Z Z Z Z Z ?_ Z ?_
 .refine FP.cons ?_ (M1 (FP.cons ?_ (M1 (M1 (M1 (FP.cons ?_ (FP.cons ?_ (FP.nil))))))))
  .refine Ql ?_ (Ql ?_ (QV))
   iterate 2 (refine So rfl sN ?_;refine Qt [] (Dc.fn call14 rfl rfl rfl) ((N4 _).c _ T) ?_;rintro _ _ ⟨rfl,rfl⟩;refine aV (.a [.q 3 (map CF.c []),.o 7 ([[0]].length) 1]) [_,_,_,_,_,_,_,.r 54 1 (map (QC 1 eI) [[0]]),.c 39 [.q 3 (map CF.c []),.o 7 ([[0]].length) 1]] rfl rfl ?_;refine Er (Yz 7 [(55,_)]) ?_;refine Er OR ?_;exact Wp)
  .refine Ql ?_ (Ql ?_ (QV))
   iterate 2 (refine So rfl (sD 0 (sD 1 sN)) ?_;refine Qt [] (Dc.fn call13 rfl rfl rfl) ((cY _ _ _).c _ V) ?_;rintro _ _ ⟨rfl,rfl⟩;exact FE rfl Wp)
  .refine Ql ?_ (Ql ?_ (Ql ?_ (QV)))
   iterate 3 exact Y0.alloc _ 6 69 6 _ Z Z Z Z Z Z Z (OV.alloc (v:=(.a [I 0,I 0])) Gh (IN Z)) Z
  .refine Ql ?_ (QV)
   .refine xS Z (sD 6 (sD 4 sN)) ?_;refine vU (Ex Z Z Z EN Z Z Z Z Z Z Z) ?_;refine ei (H:=[_,_,_,_,_,_,.c 69 (CK.c j.1),_,_,_]) Z ?_;exact Wp
 refine Go 4 Z (Bd h λt g h=>Cg t [] [] (λt=>[(0,.b t)]) Ze Zf ?_ ?_)
 .refine G0 0 Z (Iu 26 [12,18] [(0,0,0),(0,0,0),(0,0,0),(0,0,0),(0,0,0),(0,0,0),(0,0,0),(0,0,0),(0,0,0),(0,0,0),(0,0,0),(0,0,0),(1,0,0),(0,0,1),(0,1,1),(0,1,1),(0,1,1),(0,1,1),(1,1,0),(0,1,2),(0,2,2),(0,2,2),(0,2,2),(0,2,2),(0,2,2),(0,2,2)] (by kernel_rfl) (Dk 2 Z ?_));refine DK.wo (x:=.b (({Lo:=d.1.Lo,Hi:=d.1.Hi:CK})==({Lo:=100,Hi:=101:CK}))) ?_ ?_
  .refine vX (.b (({Lo:=d.1.Lo,Hi:=d.1.Hi:CK})==({Lo:=100,Hi:=101:CK}))) (je (p:={Lo:=d.1.Lo,Hi:=d.1.Hi:CK}) (q:={Lo:=100,Hi:=101:CK}) Qsh Z Z) ?_;exact Wp
  refine Dk 1 Z (DK.is 3 g Z Z Z (λ_ g=>?_) (λ_ g=>?_))
  .refine Dk 4 Z (DK.is 7 g Z Z Z (λ_ g=>?_) (λ_ g=>?_))
   .refine Dk 4 Z (DK.is 11 g Z Z Z (λ_ g=>?_) (λ_ g=>?_))
    .obtain⟨ar,aa,g⟩:=Yf g;refine Ew (x:=.a [.q 3 (map CF.c []),.q 1 (map (QC 1 eI) [[0]])]) (X1:=[.c 63 [.b AE,I (-1),I 0,I 0],.c 63 [.b AD,I (-1),I 100,I 101],.c 69 (CK.c d.1),.dead,.c 39 [.q 3 (map CF.c []),.q 1 (map (QC 1 eI) [[0]])],.c 69 (CK.c d.1),.c 69 (CK.c j.1),.dead,.c 39 [.q 3 (map CF.c []),.q 1 (map (QC 1 eI) [[0]])],.c 69 (CK.c j.1),.dead,.c 39 [.q 3 (map CF.c []),.q 1 (map (QC 1 eI) [[0]])]]) ?_ ?_
     .refine Qt [] (Dc.fn call14 Z Z Z) ((N4 _).c _ aa) ?_ (hg:=(gT Z));rintro _ _ ⟨rfl,rfl⟩;refine aV (.a [.q 3 (map CF.c []),.o 10 ([[0]].length) 1]) [_,_,_,_,_,_,_,_,_,_,.r 54 1 (map (QC 1 eI) [[0]]),.c 39 [.q 3 (map CF.c []),.o 10 ([[0]].length) 1]] Z Z ?_;refine Er (Yz 10 [(72,_)]) ?_;refine Er OR ?_;exact Wp
     refine au (lo:=0) (hi:=1) (x:=.a [.b AE,I (-1),I 0,I 0]) ⟨Z,Z,trivial⟩ ?_;obtain⟨aj,ab,g⟩:=Yf g;refine DK.wo (x:=I aj) ?_ ?_
     .exact Pc [] Z (Dc.fn call15 Z Z Z) ((ky _ _ _).c _ ab) (hg:=(gT Z)) Z Wp
     refine Dk 3 Z (DK.is 17 g Z Z Z (λ_ g=>?_) (λ_ g=>?_))
     .obtain⟨av,ad,g⟩:=Yf g;refine Ew (x:=.a [.q 3 (map CF.c []),.q 1 (map (QC 1 eI) [[0]])]) (X1:=[.c 63 [.b AE,I (-1),I 0,I 0],.c 63 [.b AD,I (-1),I 100,I 101],.c 69 (CK.c d.1),.dead,.c 39 [.q 3 (map CF.c []),.q 1 (map (QC 1 eI) [[0]])],.c 69 (CK.c d.1),.c 69 (CK.c j.1),.dead,.c 39 [.q 3 (map CF.c []),.q 1 (map (QC 1 eI) [[0]])],.c 69 (CK.c j.1),.dead,.c 39 [.q 3 (map CF.c []),.q 1 (map (QC 1 eI) [[0]])],.dead,.c 39 [.q 3 (map CF.c []),.q 1 (map (QC 1 eI) [[0]])]]) ?_ ?_
      .refine Qt [] (Dc.fn call14 Z Z Z) ((N4 _).c _ ad) ?_ (hg:=(gT Z));rintro _ _ ⟨rfl,rfl⟩;refine aV (.a [.q 3 (map CF.c []),.o 12 ([[0]].length) 1]) [_,_,_,_,_,_,_,_,_,_,_,_,.r 54 1 (map (QC 1 eI) [[0]]),.c 39 [.q 3 (map CF.c []),.o 12 ([[0]].length) 1]] Z Z ?_;refine Er (Yz 12 [(78,_)]) ?_;refine Er OR ?_;exact Wp
      exact bu g
     exact bu g
    exact bu g
   exact bu g
  exact bu g
 exact bu h
def Mg(n:Nat)(f:AA CM)(rec213:(AA CM)->AB Int)(d:Int×Int):AB (CJ (Int×Int) Int):=AH ((bif d.2<(AI f:Int) then AC (AG (d.1<=256))else AC AD):AB Bool) λg=>(bif g then AH (CN f d.2) λh=>AH (rec213 h.Aa) λj=>AC (.k (i64.wrap (d.1+j),i64.wrap (d.2+1)))else AC (.d d.1))
def Zm(rec213:(AA CM)->AB Int)(n:Nat)(f:AA CM):AB Int:=AH (iter (Mg n f rec213) n ((AI f:Int),0):AB Int) λd=>AC (if 257<d then 257 else d)
theorem Qbi(rec213:(AA CM)->AB Int)(g:∀(d:AA CM),Ki (rec213 d) 63 [.q 3 (map CM.enc d)])(n:Nat)(d:AA CM):Ki (Zm rec213 n d) 63 [.q 3 (map CM.enc d)]:=by
 exact Kg 0 func63 Z Z Z Z λr h=>by
  have:=hn 30301 [] [] (λ(j:Int)=>[(3,I j)]) Ze;have:=hl 30301 [] [0] (λ(f:Int×Int)=>[(3,I f.1),(4,I f.2)]) Ze;have:=hn 30100 [] [0,3,4] (λ(m:Bool)=>[(14,.b m)]) Ze;exact bu h
def KM:Nat->(AA CM)->AB Int
  |0=>λ_=>AF
  |n+1=>Zm (KM n) n
instance AAe:∀(d:AA CM),Ki (KM n d) 63 [.q 3 (map CM.enc d)]:=by
  induction n with
  |zero=>exact λ_=>⟨nofun⟩
  |succ n ih=>exact Qbi _ ih n
def K_(n:Nat)(g:AA CM)(h:Int)(rec214:(AA CM)->Int->AB Int)(d:Int×Int):AB (CJ (Int×Int) Int):=AH ((bif d.2<(AI g:Int) then AC (AG (0<h))else AC AD):AB Bool) λj=>(bif j then AH (CN g d.2) λm=>AH ((bif ((AI m.Aa:Int) != 0)then AH (CN g d.2) λq=>AH (rec214 q.Aa (i64.wrap (h-1))) λf=>AC (if d.1<i64.wrap (1+f)then i64.wrap (1+f)else d.1)else AC d.1):AB Int) λt=>AC (.k (t,i64.wrap (d.2+1)))else AC (.d d.1))
def j5(rec214:(AA CM)->Int->AB Int)(n:Nat)(f:AA CM)(g:Int):AB Int:=AH (iter (K_ n f g rec214) n (0,0):AB Int) λd=>AC d
theorem Qbh(rec214:(AA CM)->Int->AB Int)(j:∀(d:AA CM) (f:Int),Ki (rec214 d f) 64 [.q 3 (map CM.enc d),I f])(n:Nat)(d:AA CM)(f:Int):Ki (j5 rec214 n d f) 64 [.q 3 (map CM.enc d),I f]:=by
 exact Kg 0 func64 Z Z Z Z λr h=>by
  have:=hn 30402 [] [] (λ(m:Int)=>[(5,I m)]) Ze;have:=hl 30402 [] [0,1] (λ(g:Int×Int)=>[(5,I g.1),(6,I g.2)]) Ze;have:=hn 30100 [] [0,1,5,6] (λ(q:Bool)=>[(14,.b q)]) Ze;have:=hn 60101 [] [0,1,6] (λ(t:Int)=>[(5,I t)]) Ze;exact bu h
def Ss:Nat->(AA CM)->Int->AB Int
  |0=>λ_ _=>AF
  |n+1=>j5 (Ss n) n
instance k_t:∀(d:AA CM) (f:Int),Ki (Ss n d f) 64 [.q 3 (map CM.enc d),I f]:=by
  induction n with
  |zero=>exact λ_ _=>⟨nofun⟩
  |succ n ih=>exact Qbh _ ih n
def M3(n:Nat)(d:AR):AB Bool:=AH ((bif (d.AV==0)then(bif (d.Bz==0)then(bif (d.N==0)then AC ((AI d.Aa:Int)==0)else AC AD)else AC AD)else AC AD):AB Bool) λf=>AC f
instance k?(d:AR):Kb (M3 n d) 213 [.a (AR.c d)]:=KB func213
def MY(n:Nat)(f:AR)(m:Int)(rec218:AR->Int->AB Int)(d:Int×Int):AB (CJ (Int×Int) Int):=AH ((bif d.2<(AI f.Aa:Int) then AC (AG (d.1<=256))else AC AD):AB Bool) λg=>(bif g then AH (CN f.Aa d.2) λh=>AH (rec218 h (i64.wrap (m+1))) λj=>AC (.k (i64.wrap (d.1+j),i64.wrap (d.2+1)))else AC (.d d.1))
def j7(rec218:AR->Int->AB Int)(n:Nat)(g:AR)(d:Int):AB Int:=(bif 16<d then AC 1000 else AH (iter (MY n g d rec218) n (1,0):AB Int) λf=>AC f)
theorem Qal(rec218:AR->Int->AB Int)(j:∀(d:AR) (f:Int),Ki (rec218 d f) 214 [.a (AR.c d),I f])(n:Nat)(d:AR)(f:Int):Ki (j7 rec218 n d f) 214 [.a (AR.c d),I f]:=by
 exact Kg 0 func214 Z Z Z Z λr h=>by
  have:=hn 50301 [] [] (λ(m:Int)=>[(5,I m)]) Ze;have:=hl 50301 [0] [1,2] (λ(g:Int×Int)=>[(5,I g.1),(6,I g.2)]) Ze;have:=hn 50100 [0] [1,2,5,6] (λ(q:Bool)=>[(17,.b q)]) Ze;exact bu h
def OY:Nat->AR->Int->AB Int
  |0=>λ_ _=>AF
  |n+1=>j7 (OY n) n
instance k_p:∀(d:AR) (f:Int),Ki (OY n d f) 214 [.a (AR.c d),I f]:=by
  induction n with
  |zero=>exact λ_ _=>⟨nofun⟩
  |succ n ih=>exact Qal _ ih n
def MZ(f:AA AX)(j:Int)(rec216:(AA AX)->Int->AB (Int×Int))(d:Int×Int×Int):AB (CJ (Int×Int×Int) (Int×Int)):=AH ((bif d.2.2<(AI f:Int) then(bif d.1<=64 then AC (AG (d.2.1<=256))else AC AD)else AC AD):AB Bool) λm=>(bif m then AH (CN f d.2.2) λq=>AH (rec216 q.BN (i64.wrap (j+1))) λg=>AH (CN f d.2.2) λt=>AH (rec216 t.BQ (i64.wrap (j+1))) λh=>AH (CN f d.2.2) λx=>AH (M3 n x.AR) λy=>AH ((bif (!y)then AH (CN f d.2.2) λB=>AH (OY n B.AR 0) λE=>AC (i64.wrap ((i64.wrap ((i64.wrap (d.2.1+g.2))+h.2))+E))else AC (i64.wrap ((i64.wrap (d.2.1+g.2))+h.2))):AB Int) λF=>AC (.k (i64.wrap ((i64.wrap ((i64.wrap (d.1+1))+g.1))+h.1),F,i64.wrap (d.2.2+1)))else AC (.d (d.1,d.2.1)))
def j6(rec216:(AA AX)->Int->AB (Int×Int))(n:Nat)(f:AA AX)(g:Int):AB (Int×Int):=AH ((bif 0<(AI f:Int) then AC (AG (16<g))else AC AD):AB Bool) λh=>(bif h then AC (1000,1000)else AH (iter (MZ n f g rec216) n (0,0,0):AB (Int×Int)) λd=>AC (d.1,d.2))
theorem Qbr(rec216:(AA AX)->Int->AB (Int×Int))(m:∀(d:AA AX) (f:Int),Ks (rec216 d f) 123 [.q 8 (map AX.enc d),I f] [] (λr=>.t [I r.1,I r.2]))(n:Nat)(d:AA AX)(f:Int):Ks (j6 rec216 n d f) 123 [.q 8 (map AX.enc d),I f] [] (λr=>.t [I r.1,I r.2]):=by
 exact Kg 0 func123 Z Z Z Z λr h=>by
  have:=hn 10100 [] [0,1] (λ(x:Bool)=>[(19,.b x)]) Ze;have:=hn 60802 [] [] (λ(j:Int×Int)=>[(6,I j.1),(7,I j.2)]) Ze;have:=hl 60802 [] [0,1] (λ(g:Int×Int×Int)=>[(6,I g.1),(7,I g.2.1),(8,I g.2.2)]) Ze;have:=hn 60100 [] [0,1,6,7,8] (λ(q:Bool)=>[(31,.b q)]) Ze;have:=hn 130101 [] [0,1,6,8] (λ(t:Int)=>[(7,I t)]) Ze;exact bu h
def St:Nat->(AA AX)->Int->AB (Int×Int)
  |0=>λ_ _=>AF
  |n+1=>j6 (St n) n
instance k_r:∀(d:AA AX) (f:Int),Ks (St n d f) 123 [.q 8 (map AX.enc d),I f] [] (λr=>.t [I r.1,I r.2]):=by
  induction n with
  |zero=>exact λ_ _=>⟨nofun⟩
  |succ n ih=>exact Qbr _ ih n
def Pm(d:AA AX):AB Bool:=AH (St n d 0) λf=>AH ((bif (AI d:Int)<=20 then(bif f.1<=80 then AC (AG (f.2<=300))else AC AD)else AC AD):AB Bool) λg=>AC g
instance _N(d:AA AX):Kb (Pm n d) 65 [.q 8 (map AX.enc d)]:=KB func65
def K9(f:CE)(d:Int×Int):AB (CJ (Int×Int) (CJ Int Bool)):=AH ((bif d.2<(AI f.AO:Int) then AC (AG (d.1<=200))else AC AD):AB Bool) λg=>(bif g then AH (CN f.AO d.2) λh=>AH (CN f.AO d.2) λj=>AH (KM n j.Ab) λm=>AH (CN f.AO d.2) λq=>AH (Ss n q.Ab 17) λt=>(bif 16<t then AC (.d (.d AD))else AC (.k (i64.wrap ((i64.wrap (d.1+(AI h.Am:Int)))+m),i64.wrap (d.2+1))))else AC (.d (.k d.1)))
def LP(d:CE):AB Bool:=AH (iter (K9 n d) n (i64.wrap ((i64.wrap ((i64.wrap ((i64.wrap ((i64.wrap ((i64.wrap ((AI d.An:Int)+(AI d.As:Int)))+(AI d.AO:Int)))+(AI d.Ax:Int)))+(AI d.Ah:Int)))+(AI d.Ac:Int)))+(AI d.A3:Int)),0):AB (CJ Int Bool)) λg=>match g with|.k f=>(AH ((bif f<=200 then(bif (AI d.Ar:Int)<=100 then AH (Pm n d.BZ) λh=>AC h else AC AD)else AC AD):AB Bool) λj=>AC j)|.d f=>AC f
instance y?(g:CE):Kb (LP n g) 17 [.a (CE.c g)]:=by
 exact Kg 0 func17 Z Z Z Z λr h=>by
  have:=hn 30502 [0] [1] (λ(f:Int)=>[(3,I f)]) Ze;have:=hl 30502 [0] [1] (λ(d:Int×Int)=>[(3,I d.1),(4,I d.2)]) Ze;have:=hn 30100 [0] [1,3,4] (λ(j:Bool)=>[(40,.b j)]) Ze;have:=hn 80100 [] [] (λ(m:Bool)=>[(2,.b m)]) Ze;exact bu h
def V1(g:CE)(d:Int):AB (CJ Int (CJ Unit Bool)):=(bif d<(AI g.AO:Int) then AH (CN g.AO d) λf=>AH ((bif 64<(AI f.Am:Int) then AC AE else AH (Ss n f.Ab 17) λh=>(bif 16<h then AC AE else AH (KM n f.Ab) λj=>AC (AG (256<j)))):AB Bool) λm=>(bif m then AC (.d (.d AD))else AC (.k (i64.wrap (d+1))))else AC (.d (.k ())))
def RS(d:CE):AB Bool:=AH ((bif 40<(AI d.An:Int) then AC AE else(bif 512<(AI d.As:Int) then AC AE else(bif 8<(AI d.AO:Int) then AC AE else(bif 32<(AI d.Ax:Int) then AC AE else(bif 32<(AI d.Ah:Int) then AC AE else(bif 32<(AI d.Ac:Int) then AC AE else AC (AG (32<(AI d.A3:Int))))))))):AB Bool) λh=>(bif h then AC AD else AH (iter (V1 n d) n 0:AB (CJ Unit Bool)) λg=>match g with|.k f=>(AC AE)|.d f=>AC f)
instance _z(d:CE):Kb (RS n d) 66 [.a (CE.c d)]:=KB func66
def Ra(n:Nat)(d:AA UInt8):AB Bool:=AH ((bif (d==[99,111,117,114,115,101])then AC (d==[99,111,117,114,115,101])else(bif (d==[109,97,116,115])then AC (d==[109,97,116,115])else(bif (d==[115,116,97,114,116])then AC (d==[115,116,97,114,116])else(bif (d==[112,97,115,115])then AC (d==[112,97,115,115])else(bif (d==[101,110,100])then AC (d==[101,110,100])else(bif (d==[108,101,103])then AC (d==[108,101,103])else(bif (d==[116,111])then AC (d==[116,111])else(bif (d==[100,105,115,116,97,110,99,101])then AC (d==[100,105,115,116,97,110,99,101])else(bif (d==[103,117,110])then AC (d==[103,117,110])else(bif (d==[99,104,105,112])then AC (d==[99,104,105,112])else(bif (d==[115,108,111,116])then AC (d==[115,108,111,116])else(bif (d==[108,97,112,115])then AC (d==[108,97,112,115])else(bif (d==[108,97,112])then AC (d==[108,97,112])else(bif (d==[99,117,116,111,102,102])then AC (d==[99,117,116,111,102,102])else(bif (d==[101,120,116,114,97])then AC (d==[101,120,116,114,97])else(bif (d==[119,97,118,101])then AC (d==[119,97,118,101])else(bif (d==[111,102,102,101,110,99,101])then AC (d==[111,102,102,101,110,99,101])else(bif (d==[111,117,116])then AC (d==[111,117,116])else(bif (d==[99,97,116,101,103,111,114,121])then AC (d==[99,97,116,101,103,111,114,121])else(bif (d==[112,114,105,122,101])then AC (d==[112,114,105,122,101])else(bif (d==[97,108,108])then AC (d==[97,108,108])else AC (d==[116,105,101,115])))))))))))))))))))))):AB Bool) λf=>(bif f then AC AE else AH ((bif (d==[105,102])then AC (d==[105,102])else(bif (d==[101,108,115,101])then AC (d==[101,108,115,101])else(bif (d==[97,110,100])then AC (d==[97,110,100])else(bif (d==[111,114])then AC (d==[111,114])else(bif (d==[110,111,116])then AC (d==[110,111,116])else(bif (d==[111,108,100,101,114])then AC (d==[111,108,100,101,114])else(bif (d==[121,111,117,110,103,101,114])then AC (d==[121,111,117,110,103,101,114])else(bif (d==[98,105,98])then AC (d==[98,105,98])else(bif (d==[100,114,97,119])then AC (d==[100,114,97,119])else(bif (d==[102,105,101,108,100])then AC (d==[102,105,101,108,100])else(bif (d==[115,104,111,114,116])then AC (d==[115,104,111,114,116])else(bif (d==[102,97,117,108,116,115])then AC (d==[102,97,117,108,116,115])else(bif (d==[109,105,115,115,101,115])then AC (d==[109,105,115,115,101,115])else(bif (d==[115,116,114,97,121,115])then AC (d==[115,116,114,97,121,115])else(bif (d==[119,105,110,100,111,119])then AC (d==[119,105,110,100,111,119])else(bif (d==[114,101,115,105,100,117,97,108])then AC (d==[114,101,115,105,100,117,97,108])else(bif (d==[100,114,105,102,116])then AC (d==[100,114,105,102,116])else(bif (d==[112,114,111,116,101,115,116])then AC (d==[112,114,111,116,101,115,116])else(bif (d==[102,101,101])then AC (d==[102,101,101])else AC (d==[100,101,97,100,108,105,110,101])))))))))))))))))))):AB Bool) λg=>(bif g then AC AE else AC AD))
instance H?(d:AA UInt8):Kb (Ra n d) 215 [.str d]:=KB func215
def ZS(n:Nat)(f:AA UInt8)(d:Int):AB (CJ Int (CJ Unit Bool)):=(bif d<(AI f:Int) then AH (AH (CN f d) λg=>(bif (g.toNat:Int)<97 then AH (CN f d) λh=>(bif (h.toNat:Int)<48 then AH (CN f d) λj=>AC ((j.toNat:Int) != 95)else AH (CN f d) λm=>(bif 57<(m.toNat:Int) then AH (CN f d) λq=>AC ((q.toNat:Int) != 95)else AC AD))else AH (CN f d) λt=>(bif 122<(t.toNat:Int) then AH (CN f d) λx=>(bif (x.toNat:Int)<48 then AH (CN f d) λy=>AC ((y.toNat:Int) != 95)else AH (CN f d) λB=>(bif 57<(B.toNat:Int) then AH (CN f d) λE=>AC ((E.toNat:Int) != 95)else AC AD))else AC AD)):AB Bool) λF=>(bif F then AC (.d (.d AD))else AC (.k (i64.wrap (d+1))))else AC (.d (.k ())))
def P5(d:AA UInt8):AB Bool:=AH ((bif (AI d:Int)<1 then AC AE else(bif 24<(AI d:Int) then AC AE else AH (CN d 0) λh=>(bif (h.toNat:Int)<97 then AC AE else AH (CN d 0) λj=>AC (AG (122<(j.toNat:Int)))))):AB Bool) λq=>(bif q then AC AD else AH (iter (ZS n d) n 1:AB (CJ Unit Bool)) λm=>match m with|.k f=>(AH (Ra n d) λg=>AC (!g))|.d f=>AC f)
instance _f(d:AA UInt8):Kb (P5 n d) 124 [.str d]:=KB func124
def Md(n:Nat)(g:AA (AA UInt8))(f:Int)(d:Int):AB (CJ Int (CJ Unit (CJ Int (CJ Unit Bool)))):=(bif d<f then AH (CN g d) λh=>AH (CN g f) λj=>(bif (h==j)then AC (.d (.d (.d (.d AD))))else AC (.k (i64.wrap (d+1))))else AC (.d (.k ())))
def VU(g:AA (AA UInt8))(d:Int):AB (CJ Int (CJ Unit Bool)):=(bif d<(AI g:Int) then AH (CN g d) λh=>AH (P5 n h) λj=>(bif (!j)then AC (.d (.d AD))else AH (iter (Md n g d) n 0:AB (CJ Unit (CJ Int (CJ Unit Bool)))) λm=>match m with|.k f=>(AC (.k (i64.wrap (d+1))))|.d f=>AC f)else AC (.d (.k ())))
def Im(g:AA (AA UInt8)):AB Bool:=AH (iter (VU n g) n 0:AB (CJ Unit Bool)) λf=>match f with|.k d=>(AC AE)|.d d=>AC d
instance AAL(d:AA (AA UInt8)):Kb (Im n d) 125 [.q 1 (map JY d)]:=by
 exact Kg 0 func125 Z Z Z Z λr h=>by
  have:=hn 20904 [] [] (λ(_:Unit)=>[]) Ze;have:=hl 20904 [] [0] (λ(f:Int)=>[(3,I f)]) Ze;have:=hn 70402 [] [0,3] (λ(_:Unit)=>[]) Ze;have:=hl 70402 [] [0,3] (λ(g:Int)=>[(4,I g)]) Ze;exact bu h
def po(n:Nat)(f:CE)(d:(AA (AA UInt8))×Int):AB (CJ ((AA (AA UInt8))×Int) (AA (AA UInt8))):=(bif d.2<(AI f.An:Int) then AH (CN f.An d.2) λg=>AH (app d.1 [g.Ar]) λh=>AC (.k (h,i64.wrap (d.2+1)))else AC (.d d.1))
def p9(n:Nat)(f:CE)(d:(AA (AA UInt8))×Int):AB (CJ ((AA (AA UInt8))×Int) (AA (AA UInt8))):=(bif d.2<(AI f.AO:Int) then AH (CN f.AO d.2) λg=>AH (app d.1 [g.Ar]) λh=>AC (.k (h,i64.wrap (d.2+1)))else AC (.d d.1))
def qB(n:Nat)(f:CE)(d:(AA (AA UInt8))×Int):AB (CJ ((AA (AA UInt8))×Int) (AA (AA UInt8))):=(bif d.2<(AI f.Ax:Int) then AH (CN f.Ax d.2) λg=>AH (app d.1 [g.Ar]) λh=>AC (.k (h,i64.wrap (d.2+1)))else AC (.d d.1))
def qC(n:Nat)(f:CE)(d:(AA (AA UInt8))×Int):AB (CJ ((AA (AA UInt8))×Int) (AA (AA UInt8))):=(bif d.2<(AI f.Ah:Int) then AH (CN f.Ah d.2) λg=>AH (app d.1 [g.Ar]) λh=>AC (.k (h,i64.wrap (d.2+1)))else AC (.d d.1))
def qD(n:Nat)(f:CE)(d:(AA (AA UInt8))×Int):AB (CJ ((AA (AA UInt8))×Int) (AA (AA UInt8))):=(bif d.2<(AI f.Ac:Int) then AH (CN f.Ac d.2) λg=>AH (app d.1 [g.Ar]) λh=>AC (.k (h,i64.wrap (d.2+1)))else AC (.d d.1))
def ZC(d:CE):AB Bool:=AH (iter (po n d) n (([]:AA (AA UInt8)),0):AB (AA (AA UInt8))) λF=>AH (iter (p9 n d) n (([]:AA (AA UInt8)),0):AB (AA (AA UInt8))) λj=>AH (iter (qB n d) n (([]:AA (AA UInt8)),0):AB (AA (AA UInt8))) λm=>AH (iter (qC n d) n (([]:AA (AA UInt8)),0):AB (AA (AA UInt8))) λq=>AH (iter (qD n d) n (([]:AA (AA UInt8)),0):AB (AA (AA UInt8))) λt=>AH (AH (P5 n d.Ar) λx=>(bif x then AH (Im n F) λy=>(bif y then AH (Im n j) λB=>(bif B then AH (Im n m) λf=>(bif f then AH (Im n q) λg=>(bif g then AH (Im n t) λh=>AC h else AC AD)else AC AD)else AC AD)else AC AD)else AC AD):AB Bool) λE=>AC E
instance zP(E:CE):Kb (ZC n E) 67 [.a (CE.c E)]:=by
 exact Kg 0 func67 Z Z Z Z λr h=>by
  have:=hn 30301 [0,1] [1] (λ(B:AA (AA UInt8))=>[(3,.o 1 (AI B) 1)]) (λB=>[(1,.w (.r 9 1 (map JY B)))]);have:=hl 30301 [0,1] [1] (λ(d:(AA (AA UInt8))×Int)=>[(3,.o 1 (AI d.1) 1),(4,I d.2)]) (λd=>[(1,.w (.r 9 1 (map JY d.1)))]);have:=hn 80301 [0,1,2] [1,3] (λ(q:AA (AA UInt8))=>[(5,.o 2 (AI q) 1)]) (λq=>[(2,.w (.r 9 1 (map JY q)))]);have:=hl 80301 [0,1,2] [1,3] (λ(f:(AA (AA UInt8))×Int)=>[(5,.o 2 (AI f.1) 1),(6,I f.2)]) (λf=>[(2,.w (.r 9 1 (map JY f.1)))]);have:=hn 130301 [0,1,2,3] [1,3,5] (λ(t:AA (AA UInt8))=>[(7,.o 3 (AI t) 1)]) (λt=>[(3,.w (.r 9 1 (map JY t)))]);have:=hl 130301 [0,1,2,3] [1,3,5] (λ(g:(AA (AA UInt8))×Int)=>[(7,.o 3 (AI g.1) 1),(8,I g.2)]) (λg=>[(3,.w (.r 9 1 (map JY g.1)))]);have:=hn 180301 [0,1,2,3,4] [1,3,5,7] (λ(x:AA (AA UInt8))=>[(9,.o 4 (AI x) 1)]) (λx=>[(4,.w (.r 9 1 (map JY x)))]);have:=hl 180301 [0,1,2,3,4] [1,3,5,7] (λ(j:(AA (AA UInt8))×Int)=>[(9,.o 4 (AI j.1) 1),(10,I j.2)]) (λj=>[(4,.w (.r 9 1 (map JY j.1)))]);have:=hn 230301 [0,1,2,3,4,5] [1,3,5,7,9] (λ(y:AA (AA UInt8))=>[(11,.o 5 (AI y) 1)]) (λy=>[(5,.w (.r 9 1 (map JY y)))]);have:=hl 230301 [0,1,2,3,4,5] [1,3,5,7,9] (λ(m:(AA (AA UInt8))×Int)=>[(11,.o 5 (AI m.1) 1),(12,I m.2)]) (λm=>[(5,.w (.r 9 1 (map JY m.1)))]);have:=hn 260100 [] [] (λ(F:Bool)=>[(2,.b F)]) Ze;exact bu h
def GW(n:Nat)(d:Int)(f:Int)(g:Int):AB Bool:=AH ((bif f<=d then AC (AG (d<=g))else AC AD):AB Bool) λh=>AC h
instance k_e(d:Int)(f:Int)(g:Int):Kb (GW n d f g) 126 [I d,I f,I g]:=KB func126
def HI(d:CE)(f:Int):AB Bool:=AH (GW n f 0 (i64.wrap ((AI d.An:Int)-1))) λg=>AC g
instance AAg(d:CE)(f:Int):Kb (HI n d f) 127 [.a (CE.c d),I f]:=KB func127
def PG(g:CE)(h:AA CM)(rec229:CE->(AA CM)->AB Bool)(f:Int):AB (CJ Int (CJ Unit Bool)):=(bif f<(AI h:Int) then AH (CN h f) λd=>AH ((bif (d.Aj==0)then AH (HI n g d.Af) λj=>(bif j then AC ((AI d.Aa:Int)==0)else AC AD)else AC AD):AB Bool) λm=>AH (AH (GW n d.Aj 1 64) λq=>(bif q then(bif (d.Af==0)then(bif 0<(AI d.Aa:Int) then AH (rec229 g d.Aa) λt=>AC t else AC AD)else AC AD)else AC AD):AB Bool) λx=>AH ((bif (!m)then AC (!x)else AC AD):AB Bool) λy=>(bif y then AC (.d (.d AD))else AC (.k (i64.wrap (f+1))))else AC (.d (.k ())))
def j3(rec229:CE->(AA CM)->AB Bool)(n:Nat)(g:CE)(h:AA CM):AB Bool:=AH (iter (PG n g h rec229) n 0:AB (CJ Unit Bool)) λf=>match f with|.k d=>(AC AE)|.d d=>AC d
theorem Qa0(rec229:CE->(AA CM)->AB Bool)(g:∀(d:CE) (f:AA CM),Kb (rec229 d f) 216 [.a (CE.c d),.q 3 (map CM.enc f)])(n:Nat)(d:CE)(f:AA CM):Kb (j3 rec229 n d f) 216 [.a (CE.c d),.q 3 (map CM.enc f)]:=by
 exact Kg 0 func216 Z Z Z Z λr h=>by
  have:=hn 20702 [] [] (λ(_:Unit)=>[]) Ze;have:=hl 20702 [0] [1,2] (λ(j:Int)=>[(5,I j)]) Ze;have:=hn 50100 [0,1] [1,2,5,6] (λ(m:Bool)=>[(7,.b m)]) Ze;have:=hn 60100 [0] [1,2,5,7] (λ(q:Bool)=>[(8,.b q)]) Ze;have:=hn 70100 [0] [1,2,5] (λ(t:Bool)=>[(59,.b t)]) Ze;exact bu h
def US:Nat->CE->(AA CM)->AB Bool
  |0=>λ_ _=>AF
  |n+1=>j3 (US n) n
instance k_w:∀(d:CE) (f:AA CM),Kb (US n d f) 216 [.a (CE.c d),.q 3 (map CM.enc f)]:=by
  induction n with
  |zero=>exact λ_ _=>⟨nofun⟩
  |succ n ih=>exact Qa0 _ ih n
def O3(q:CE)(g:AN)(d:Int):AB (CJ Int (CJ Unit Bool)):=(bif d<(AI g.Am:Int) then AH (CN g.Am d) λf=>AH (AH (HI n q f.Af) λh=>(bif (!h)then AC AE else(bif f.B9<1 then AC AE else AH (GW n f.Bu 0 1099511627776) λj=>AC (!j))):AB Bool) λm=>(bif m then AC (.d (.d AD))else AC (.k (i64.wrap (d+1))))else AC (.d (.k ())))
def Y_(g:CE)(d:AN):AB Bool:=AH (iter (O3 n g d) n 0:AB (CJ Unit Bool)) λh=>match h with|.k f=>(AH (AH (GW n d.BI 1 3) λj=>(bif j then AH (US n g d.Ab) λm=>(bif m then(bif (d.Ae==(-1))then AC AE else AH (HI n g d.Ae) λq=>AC q)else AC AD)else AC AD):AB Bool) λt=>AC t)|.d f=>AC f
instance zL(d:CE)(f:AN):Kb (Y_ n d f) 128 [.a (CE.c d),.a (AN.c f)]:=KB func128
def Ou(f:CE)(d:Int):AB (CJ Int (CJ Unit Bool)):=(bif d<(AI f.An:Int) then AH (CN f.An d) λg=>AH (GW n g.AV 1 3) λh=>(bif (!h)then AC (.d (.d AD))else AC (.k (i64.wrap (d+1))))else AC (.d (.k ())))
def Mb(n:Nat)(q:CE)(g:Int)(f:C2)(d:Int):AB (CJ Int (CJ Unit (CJ Int (CJ Unit Bool)))):=(bif d<g then AH (AH (CN q.As d) λh=>(bif (h.A5==f.A5)then AH (CN q.As d) λj=>AC (j.To==f.To)else AC AD):AB Bool) λm=>(bif m then AC (.d (.d (.d (.d AD))))else AC (.k (i64.wrap (d+1))))else AC (.d (.k ())))
def K6(h:CE)(f:Int):AB (CJ Int (CJ Unit Bool)):=(bif f<(AI h.As:Int) then AH (CN h.As f) λd=>AH (AH (HI n h d.A5) λj=>(bif (!j)then AC AE else AH (HI n h d.To) λm=>(bif (!m)then AC AE else(bif d.Bn<0 then AC AE else(bif d.Bs<d.Bn then AC AE else AC (AG (68719476736<d.Bs)))))):AB Bool) λq=>(bif q then AC (.d (.d AD))else AH (iter (Mb n h f d) n 0:AB (CJ Unit (CJ Int (CJ Unit Bool)))) λt=>match t with|.k g=>(AC (.k (i64.wrap (f+1))))|.d g=>AC g)else AC (.d (.k ())))
def Oh(f:CE)(d:Int):AB (CJ Int (CJ Unit Bool)):=(bif d<(AI f.AO:Int) then AH (CN f.AO d) λg=>AH (Y_ n f g) λh=>(bif (!h)then AC (.d (.d AD))else AC (.k (i64.wrap (d+1))))else AC (.d (.k ())))
def O8(h:CE)(d:Int):AB (CJ Int (CJ Unit Bool)):=(bif d<(AI h.Ax:Int) then AH (CN h.Ax d) λf=>AH (GW n f.B0 0 1099511627776) λg=>(bif (!g)then AC (.d (.d AD))else AC (.k (i64.wrap (d+1))))else AC (.d (.k ())))
def O_(x:CE)(f:Int):AB (CJ Int (CJ Unit Bool)):=(bif f<(AI x.Ah:Int) then AH (CN x.Ah f) λd=>AH (AH (GW n d.BV 0 68719476736) λg=>(bif g then(bif (d.Aj==0)then AC (!d.BP)else AC AD)else AC AD):AB Bool) λh=>AH ((bif (d.BV==0)then AH (GW n d.Aj 1 64) λj=>(bif j then AC (!d.BP)else AC AD)else AC AD):AB Bool) λm=>AH ((bif (d.BV==0)then(bif (d.Aj==0)then AC d.BP else AC AD)else AC AD):AB Bool) λq=>AH ((bif (!h)then(bif (!m)then AC (!q)else AC AD)else AC AD):AB Bool) λt=>(bif t then AC (.d (.d AD))else AC (.k (i64.wrap (f+1))))else AC (.d (.k ())))
def PF(n:Nat)(h:CE)(f:Int):AB (CJ Int (CJ Unit Bool)):=(bif f<(AI h.Ac:Int) then AH (CN h.Ac f) λd=>AH ((bif d.A5<0 then AC AE else(bif d.To<d.A5 then AC AE else AC (AG (120<d.To)))):AB Bool) λg=>(bif g then AC (.d (.d AD))else AC (.k (i64.wrap (f+1))))else AC (.d (.k ())))
def MW(n:Nat)(m:CE)(h:Int)(d:Cc)(f:Int):AB (CJ Int (CJ Unit (CJ Int (CJ Unit Bool)))):=(bif f<h then AH (CN m.A3 f) λg=>AH ((bif (g.AN==d.AN)then(bif (g.AZ==d.AZ)then AC (g.Bk==d.Bk)else AC AD)else AC AD):AB Bool) λj=>(bif j then AC (.d (.d (.d (.d AD))))else AC (.k (i64.wrap (f+1))))else AC (.d (.k ())))
def LC(h:CE)(f:Int):AB (CJ Int (CJ Unit Bool)):=(bif f<(AI h.A3:Int) then AH (CN h.A3 f) λd=>AH (AH (GW n d.AN 0 (i64.wrap ((AI h.AO:Int)-1))) λj=>(bif (!j)then AC AE else AH (GW n d.AZ (-1) (i64.wrap ((AI h.Ac:Int)-1))) λm=>(bif (!m)then AC AE else AH (GW n d.Bk 1 4000) λq=>(bif (!q)then AC AE else AH (GW n d.BW 1 1125899906842624) λt=>AC (!t)))):AB Bool) λx=>(bif x then AC (.d (.d AD))else AH (iter (MW n h f d) n 0:AB (CJ Unit (CJ Int (CJ Unit Bool)))) λy=>match y with|.k g=>(AC (.k (i64.wrap (f+1))))|.d g=>AC g)else AC (.d (.k ())))
def P_(d:CE):AB Bool:=AH (iter (Ou n d) n 0:AB (CJ Unit Bool)) λQ=>match Q with|.k q=>(AH (iter (K6 n d) n 0:AB (CJ Unit Bool)) λR=>match R with|.k t=>(AH (iter (Oh n d) n 0:AB (CJ Unit Bool)) λx=>match x with|.k f=>(AH (iter (O8 n d) n 0:AB (CJ Unit Bool)) λy=>match y with|.k g=>(AH (iter (O_ n d) n 0:AB (CJ Unit Bool)) λB=>match B with|.k h=>(AH (iter (PF n d) n 0:AB (CJ Unit Bool)) λE=>match E with|.k j=>(AH (iter (LC n d) n 0:AB (CJ Unit Bool)) λF=>match F with|.k m=>(AH (AH (GW n d.AT.BK 0 16) λG=>(bif G then AH (GW n d.AT.BF 0 16) λH=>(bif H then AH (GW n d.AT.BH 0 4294967296) λJ=>(bif J then AH (GW n d.AT.A0 0 4294967296) λL=>(bif L then AH (GW n d.AT.Ba 0 100000) λM=>(bif M then AH (GW n d.B7 0 1125899906842624) λN=>(bif N then AH (GW n d.BL 0 1099511627776) λO=>AC O else AC AD)else AC AD)else AC AD)else AC AD)else AC AD)else AC AD):AB Bool) λP=>AC P)|.d m=>AC m)|.d j=>AC j)|.d h=>AC h)|.d g=>AC g)|.d f=>AC f)|.d t=>AC t)|.d q=>AC q
instance _k(O:CE):Kb (P_ n O) 68 [.a (CE.c O)]:=by
 exact Kg 0 func68 Z Z Z Z λr h=>by
  have:=hn 20402 [0] [1] (λ(_:Unit)=>[]) Ze;have:=hl 20402 [0] [1] (λ(P:Int)=>[(3,I P)]) Ze;have:=hn 71004 [0] [1] (λ(_:Unit)=>[]) Ze;have:=hl 71004 [0] [1] (λ(d:Int)=>[(4,I d)]) Ze;have:=hn 100100 [0,1] [1,4,5] (λ(f:Bool)=>[(76,.b f)]) Ze;have:=hn 130402 [0] [1,4] (λ(_:Unit)=>[]) Ze;have:=hl 130402 [0,1] [1,4,5] (λ(g:Int)=>[(6,I g)]) Ze;have:=hn 150100 [0,1] [1,4,5,6] (λ(j:Bool)=>[(101,.b j)]) Ze;have:=hn 180402 [0] [1] (λ(_:Unit)=>[]) Ze;have:=hl 180402 [0] [1] (λ(m:Int)=>[(7,I m)]) Ze;have:=hn 230402 [0] [1] (λ(_:Unit)=>[]) Ze;have:=hl 230402 [0] [1] (λ(q:Int)=>[(8,I q)]) Ze;have:=hn 280802 [0] [1] (λ(_:Unit)=>[]) Ze;have:=hl 280802 [0] [1] (λ(t:Int)=>[(9,I t)]) Ze;have:=hn 310100 [0,1] [1,9,10] (λ(x:Bool)=>[(11,.b x)]) Ze;have:=hn 320100 [0,1] [1,9,10,11] (λ(y:Bool)=>[(12,.b y)]) Ze;have:=hn 330100 [0] [1,9,11,12] (λ(B:Bool)=>[(13,.b B)]) Ze;have:=hn 340100 [0] [1,9] (λ(E:Bool)=>[(191,.b E)]) Ze;have:=hn 370502 [0] [1] (λ(_:Unit)=>[]) Ze;have:=hl 370502 [0] [1] (λ(F:Int)=>[(14,I F)]) Ze;have:=hn 400100 [0] [1,14] (λ(G:Bool)=>[(218,.b G)]) Ze;have:=hn 431104 [0] [1] (λ(_:Unit)=>[]) Ze;have:=hl 431104 [0] [1] (λ(H:Int)=>[(16,I H)]) Ze;have:=hn 460100 [0,1] [1,16,17] (λ(J:Bool)=>[(260,.b J)]) Ze;have:=hn 490502 [0] [1,16] (λ(_:Unit)=>[]) Ze;have:=hl 490502 [0,1] [1,16,17] (λ(L:Int)=>[(18,I L)]) Ze;have:=hn 520100 [0,1] [1,16,17,18] (λ(M:Bool)=>[(289,.b M)]) Ze;have:=hn 550100 [] [] (λ(N:Bool)=>[(2,.b N)]) Ze;exact bu h
def MK(n:Nat)(f:AR)(rec233:AR->AB Bool)(d:Int):AB (CJ Int (CJ Unit Bool)):=(bif d<(AI f.Aa:Int) then AH (CN f.Aa d) λg=>AH (rec233 g) λh=>(bif (!h)then AC (.d (.d AD))else AC (.k (i64.wrap (d+1))))else AC (.d (.k ())))
def Zn(rec233:AR->AB Bool)(n:Nat)(d:AR):AB Bool:=(bif (d.AV==1)then AH ((bif 1<=d.Bz then(bif d.Bz<=3 then(bif 0<=d.N then(bif d.N<=10000 then AC ((AI d.Aa:Int)==0)else AC AD)else AC AD)else AC AD)else AC AD):AB Bool) λx=>AC x else AH ((bif (d.AV==2)then AC (d.AV==2)else AC (d.AV==3)):AB Bool) λh=>AH ((bif h then AH ((bif (AI d.Aa:Int)<1 then AC AE else AC (AG (16<(AI d.Aa:Int)))):AB Bool) λj=>(bif j then AC (.d AD)else AC (.k ()))else(bif (d.AV==4)then(bif ((AI d.Aa:Int) != 1)then AC (.d AD)else AC (.k ()))else AC (.d AD))):AB (CJ Unit Bool)) λm=>match m with|.k f=>(AH ((bif (d.Bz != 0)then AC AE else AC (d.N != 0)):AB Bool) λq=>(bif q then AC AD else AH (iter (MK n d rec233) n 0:AB (CJ Unit Bool)) λt=>match t with|.k g=>(AC AE)|.d g=>AC g))|.d f=>AC f)
theorem Qbg(rec233:AR->AB Bool)(O:∀(j:AR),Kb (rec233 j) 299 [.a (AR.c j)])(n:Nat)(j:AR):Kb (Zn rec233 n j) 299 [.a (AR.c j)]:=by
 refine Kg 20 func299 Z Z Z Z λr h=>Cn Z h (λ_ h=>?_) (λ_ h=>?_)
 .exact bu h
 refine Gc 7 Z (Bd h λm Q h=>Ct m [0] [1,5] (λm=>[(32,.b m)]) Ze Zf ?_ (λenv H g=>?_))
 .exact bu Q
 refine Gx 1 Z (Ee g (Bd h λR d h=>KR (b:=R) [0] [1] Ze Ze Zf ?_ (λab env H hb g=>?_)))
 .refine G0 0 Z (Cn Z d (λ_ d=>?_) (λ_ d=>?_))
  .refine Gc 1 Z (Bd d λq T d=>Ct q [0] [1] (λq=>[(44,.b q)]) Ze Zf ?_ (λenv H g=>?_))
   .exact bu T
   refine Gx 1 Z (Ee g (Cn Z d (λ_ d=>?_) (λ_ d=>?_)))
   .refine Gc 6 Z ?_;cases d;exact bu h
   exact bu d
  refine Gc 6 Z (Dm Z d (λ_ d=>?_) (λ_ d=>?_))
  .refine Gc 6 Z ?_;cases d;exact bu h
  refine Gc 4 Z (Lg 3 Z Z (Cn Z d (λ_ d=>?_) (λ_ d=>?_)))
  .refine Gc 6 Z ?_;cases d;exact bu h
  exact bu d
 subst hb;refine Gx 2 Z (Ee g (Gc 2 Z (Bd h λt V h=>Ct t [0] [1] (λt=>[(58,.b t)]) Ze Zf ?_ (λenv H g=>?_))))
 .exact bu V
 refine Gx 1 Z (Ee g (Cn Z h (λ_ h=>?_) (λ_ h=>?_)))
 .exact bu h
 refine Gc 8 Z (Bd h λW X h=>Hz (b:=W) [] [] Ze Ze Zf ?_ (λ_ Y=>?_))
 .refine G0 1 Z (Lp [0] [1] (λy=>[(3,I y)]) Ze X Zf (Lr [0]) λy ae f x=>?_);refine G0 6 Z (Lg 3 Z Z (Dm Z f (λ_ f=>?_) (λ_ f=>?_)))
  .exact FS x f
  refine Gc 9 Z (Bd f λaa M f=>OW M (fR aa) Z (Go 1 Z (Cz [] f Kc Z λaf ad f=>Go 3 Z (Cn Z f (λ_ f=>?_) (λ_ f=>?_)))))
  .exact H9 x f h
  exact bu f
 subst Y;exact bu h
def KN:Nat->AR->AB Bool
  |0=>λ_=>AF
  |n+1=>Zn (KN n) n
instance AAh:∀(d:AR),Kb (KN n d) 299 [.a (AR.c d)]:=by
  induction n with
  |zero=>exact λ_=>⟨nofun⟩
  |succ n ih=>exact Qbg _ ih n
def P3(d:AR):AB Int:=AH (OY n d 0) λf=>(bif 256<f then AC 2 else AH (KN n d) λg=>(bif (!g)then AC 71 else AC 0))
instance _d(d:AR):Ki (P3 n d) 217 [.a (AR.c d)]:=KB func217
def O9(B:AA AX)(rec231:(AA AX)->AB Bool)(f:Int):AB (CJ Int (CJ Unit Bool)):=(bif f<(AI B:Int) then AH (CN B f) λd=>AH ((bif (d.AV==1)then AH ((bif d.By<1 then AC AE else(bif 5<d.By then AC AE else AH (M3 n d.AR) λh=>(bif (!h)then AC AE else(bif ((AI d.BN:Int) != 0)then AC AE else AC ((AI d.BQ:Int) != 0))))):AB Bool) λj=>(bif j then AC (.d (.d (.d AD)))else AC (.k ()))else(bif (d.AV==2)then AH ((bif (d.By != 0)then AC AE else AH (P3 n d.AR) λm=>(bif (m != 0)then AC AE else(bif ((AI d.BN:Int)==0)then AC AE else AH (rec231 d.BN) λq=>(bif (!q)then AC AE else AH (rec231 d.BQ) λt=>AC (!t))))):AB Bool) λx=>(bif x then AC (.d (.d (.d AD)))else AC (.k ()))else AC (.d (.d (.d AD))))):AB (CJ Unit (CJ Int (CJ Unit Bool)))) λy=>match y with|.k g=>(AC (.k (i64.wrap (f+1))))|.d g=>AC g else AC (.d (.k ())))
def j9(rec231:(AA AX)->AB Bool)(n:Nat)(g:AA AX):AB Bool:=AH (iter (O9 n g rec231) n 0:AB (CJ Unit Bool)) λf=>match f with|.k d=>(AC AE)|.d d=>AC d
theorem Qbf(rec231:(AA AX)->AB Bool)(m:∀(d:AA AX),Kb (rec231 d) 129 [.q 8 (map AX.enc d)])(n:Nat)(d:AA AX):Kb (j9 rec231 n d) 129 [.q 8 (map AX.enc d)]:=by
 exact Kg 0 func129 Z Z Z Z λr h=>by
  have:=hn 21105 [] [] (λ(_:Unit)=>[]) Ze;have:=hl 21105 [] [0] (λ(f:Int)=>[(3,I f)]) Ze;have:=hn 80604 [] [0,3] (λ(_:Unit)=>[]) Ze;have:=hn 80100 [] [0,3] (λ(g:Bool)=>[(44,.b g)]) Ze;have:=hn 110100 [] [0,3] (λ(j:Bool)=>[(73,.b j)]) Ze;exact bu h
def MU:Nat->(AA AX)->AB Bool
  |0=>λ_=>AF
  |n+1=>j9 (MU n) n
instance k_i:∀(d:AA AX),Kb (MU n d) 129 [.q 8 (map AX.enc d)]:=by
  induction n with
  |zero=>exact λ_=>⟨nofun⟩
  |succ n ih=>exact Qbf _ ih n
def Wm(d:AA AX):AB Int:=AH (St n d 0) λf=>AH ((bif 64<f.1 then AC AE else AC (AG (256<f.2))):AB Bool) λh=>(bif h then AC 2 else AH ((bif ((AI d:Int)==0)then AC AE else AH (MU n d) λg=>AC (!g)):AB Bool) λj=>(bif j then AC 71 else AC 0))
instance yq(d:AA AX):Ki (Wm n d) 69 [.q 8 (map AX.enc d)]:=KB func69
def Ma(n:Nat)(q:AA CM)(f:(AA Int)×Int)(g:AA Int)(d:(AA Int)×Int):AB (CJ ((AA Int)×Int) (AA Int)):=AH (AH (CN q f.2) λh=>(bif d.2<h.Aj then AC (AG ((AI d.1:Int)<=256))else AC AD):AB Bool) λj=>(bif j then AH (app d.1 g) λm=>AC (.k (m,i64.wrap (d.2+1)))else AC (.d d.1))
def MQ(f:AA CM)(rec235:(AA CM)->AB (AA Int))(d:(AA Int)×Int):AB (CJ ((AA Int)×Int) (AA Int)):=AH ((bif d.2<(AI f:Int) then AC (AG ((AI d.1:Int)<=256))else AC AD):AB Bool) λg=>(bif g then AH (AH (CN f d.2) λh=>(bif (h.Aj==0)then AH (CN f d.2) λj=>AH (app d.1 [j.Af]) λm=>AC m else AH (CN f d.2) λq=>AH (rec235 q.Aa) λt=>AH (iter (Ma n f d t) n (d.1,0):AB (AA Int)) λx=>AC x):AB (AA Int)) λy=>AC (.k (y,i64.wrap (d.2+1)))else AC (.d d.1))
def R_(rec235:(AA CM)->AB (AA Int))(n:Nat)(f:AA CM):AB (AA Int):=AH (iter (MQ n f rec235) n (([]:AA Int),0):AB (AA Int)) λd=>AC d
theorem Qa1(rec235:(AA CM)->AB (AA Int))(ag:∀(G:AA CM),Kr (rec235 G) 130 [.q 3 (map CM.enc G)] 3 1 eI)(n:Nat)(G:AA CM):Kr (R_ rec235 n G) 130 [.q 3 (map CM.enc G)] 3 1 eI:=by
 refine Kg 7 func130 Z Z Z Z λr h=>vH (Ek (xs:=[]) (es:=map eI []) J0 Z Z Z Z Z trivial Z Z) ?_;refine Fg 9 Z Z (Bd h λm aa h=>Cg m [0] [] (λm=>[(3,.o 0 (AI m) 1)]) (λm=>[(0,.r 3 1 (map eI m))]) Zf ?_ ?_)
 .refine G0 1 Z (Lp [0] [0] (λq=>[(3,.o 0 (AI q.1) 1),(4,I q.2)]) (λq=>[(0,.r 3 1 (map eI q.1))]) aa Zf (Lr [0]) λq ai f L=>?_);refine G0 2 Z (Bd f λE ab f=>Ct E [0] [0,3,4] (λE=>[(16,.b E)]) Ze Zf ?_ (λenv H B=>?_))
  .exact bu ab
  refine Gx 1 Z (Ee B (Dm Z f (λ_ f=>?_) (λ_ f=>?_)))
  .exact FS L f
  refine Gc 3 Z (Bd f λt d f=>Cg t [0] [0,4] (λt=>[(3,.o 0 (AI t) 1)]) (λt=>[(0,.r 3 1 (map eI t))]) Zf ?_ ?_)
  .refine G0 6 Z (Bd d λac N d=>OW N (YF ac) Z (Go 5 Z (Cn Z d (λ_ d=>?_) (λ_ d=>?_))))
   .refine Gc 5 Z (Bd d λJ P d=>OW P (YF J) Z (Go 2 Z (vH (Ek (xs:=[.tmp 30]) (es:=map eI [J.Af]) J0 Z Z Z Z Z ⟨Z,trivial⟩ Z Z) ?_)));refine FE Z (Bd d λaj Q d=>vH (YP (e:=eI) Q J0 EA (Lj (i:=1))) ?_);exact bu d
   refine Gc 6 Z (Bd d λad R d=>OW R (YF ad) Z (Go 2 Z (Cd [] d Kc Z λak ah d=>Fg 8 Z Z (Bd d λx ae d=>Ct x [0] [0,4] (λx=>[(3,.o 0 (AI x) 1)]) (λx=>[(0,.r 3 1 (map eI x))]) Zf ?_ (λenv H B=>?_)))))
   .refine G0 1 Z (Lp [0,1] [0,4,5] (λy=>[(3,.o 0 (AI y.1) 1),(6,I y.2)]) (λy=>[(0,.r 3 1 (map eI y.1))]) ae Zf (Lr [0,1]) λy am g T=>?_);refine G0 2 Z (Bd g λF j g=>Ct F [0,1] [0,3,4,5,6] (λF=>[(50,.b F)]) Ze Zf ?_ (λenv H B=>?_))
    .refine G0 4 Z (Bd j λaf V j=>OW V (YF af) Z (Go 4 Z (Is 46 j Z (λ_ j=>?_) (λ_ j=>?_))))
     iterate 2 exact bu j
    refine Gx 1 Z (Ee B (Dm Z g (λ_ g=>?_) (λ_ g=>?_)))
    .exact FS T g
    refine Gc 7 Z (Bd g λan Y g=>vH (YP (e:=eI) Y J0 EA (Lj (i:=1))) ?_);exact bu g
   refine Gx 1 Z ?_;cases d;exact OM (En B (Lr [0]))
  exact bu f
 exact bu h
def LZ:Nat->(AA CM)->AB (AA Int)
  |0=>λ_=>AF
  |n+1=>R_ (LZ n) n
instance AAf:∀(d:AA CM),Kr (LZ n d) 130 [.q 3 (map CM.enc d)] 3 1 eI:=by
  induction n with
  |zero=>exact λ_=>⟨nofun⟩
  |succ n ih=>exact Qa1 _ ih n
def MH(n:Nat)(f:CE)(m:Int)(q:Int)(d:Int):AB (CJ Int (CJ Unit Int)):=(bif d<(AI f.As:Int) then AH (AH (CN f.As d) λg=>(bif (g.A5==m)then AH (CN f.As d) λh=>AC (h.To==q)else AC AD):AB Bool) λj=>(bif j then AC (.d (.d d))else AC (.k (i64.wrap (d+1))))else AC (.d (.k ())))
def LK(g:CE)(h:Int)(j:Int):AB Int:=AH (iter (MH n g h j) n 0:AB (CJ Unit Int)) λf=>match f with|.k d=>(AC (-1))|.d d=>AC d
instance t?(d:CE)(f:Int)(g:Int):Ki (LK n d f g) 131 [.a (CE.c d),I f,I g]:=KB func131
def MR(n:Nat)(f:AA Int)(j:Int)(d:Int×Int):AB (CJ (Int×Int) Int):=(bif d.2<(AI f:Int) then AH (CN f d.2) λg=>AH ((bif (g==j)then AC (i64.wrap (d.1+1))else AC d.1):AB Int) λh=>AC (.k (h,i64.wrap (d.2+1)))else AC (.d d.1))
def NI(f:AA Int)(g:Int):AB Int:=AH (iter (MR n f g) n (0,0):AB Int) λd=>AC d
instance lS(f:AA Int)(g:Int):Ki (NI n f g) 132 [.q 1 (map eI f),I g]:=by
 exact Kg 0 func132 Z Z Z Z λr h=>by
  have:=hn 30402 [] [] (λ(j:Int)=>[(5,I j)]) Ze;have:=hl 30402 [] [0,1] (λ(d:Int×Int)=>[(5,I d.1),(6,I d.2)]) Ze;have:=hn 60101 [] [0,1,6] (λ(m:Int)=>[(5,I m)]) Ze;exact bu h
def K4(g:CE)(f:AA Int)(d:Int):AB (CJ Int (CJ Unit Bool)):=(bif d<(AI f:Int) then AH ((bif (d==0)then AC 1 else(bif (d==(i64.wrap ((AI f:Int)-1)))then AC 3 else AC 2)):AB Int) λh=>AH (AH (CN f d) λj=>AH (CN g.An j) λm=>(bif (m.AV != h)then AC AE else(bif 0<d then AH (CN f (i64.wrap (d-1))) λq=>AH (CN f d) λt=>AH (LK n g q t) λx=>AC (AG (x<0))else AC AD)):AB Bool) λy=>(bif y then AC (.d (.d AD))else AC (.k (i64.wrap (d+1))))else AC (.d (.k ())))
def WI(f:AN)(m:AA Int)(d:Int):AB (CJ Int (CJ Unit Bool)):=(bif d<(AI f.Am:Int) then AH (CN f.Am d) λg=>AH (NI n m g.Af) λh=>AH (CN f.Am d) λj=>(bif h<j.B9 then AC (.d (.d AD))else AC (.k (i64.wrap (d+1))))else AC (.d (.k ())))
def Pu(j:CE)(d:AN):AB Bool:=AH (LZ n d.Ab) λf=>AH ((bif (AI f:Int)<2 then AC AE else AC (AG (256<(AI f:Int)))):AB Bool) λE=>(bif E then AC AD else AH (iter (K4 n j f) n 0:AB (CJ Unit Bool)) λm=>match m with|.k g=>(AH ((bif (d.Ae != (-1))then AH (CN j.An d.Ae) λq=>(bif (q.AV != 2)then AC AE else AH (NI n f d.Ae) λt=>(bif (t==0)then AC AE else AH (LK n j d.Ae d.Ae) λx=>AC (AG (x<0))))else AC AD):AB Bool) λy=>(bif y then AC AD else AH (iter (WI n d f) n 0:AB (CJ Unit Bool)) λB=>match B with|.k h=>(AC AE)|.d h=>AC h))|.d g=>AC g)
instance _U(T:CE)(V:AN):Kb (Pu n T V) 70 [.a (CE.c T),.a (AN.c V)]:=by
 have:=hn 30100 [0,1,2] [2,3,5,6] (λ(E:Bool)=>[(20,.b E)]) Ze;have:=hn 61004 [0,1,2] [2,3,5] (λ(_:Unit)=>[]) Ze;have:=hl 61004 [0,1,2] [2,3,5,6] (λ(y:Int)=>[(7,I y)]) Ze;have:=hn 110302 [0,1,2] [2,3,5,6,7] (λ(m:Int)=>[(8,I m)]) Ze;have:=hn 140100 [0,1,2] [2,3,5,6,7] (λ(q:Bool)=>[(61,.b q)]) Ze;have:=hn 160100 [1,2] [3,5] (λ(t:Bool)=>[(90,.b t)]) Ze;have:=hn 190402 [] [] (λ(_:Unit)=>[]) Ze;have:=hl 190402 [0,1] [3,5] (λ(j:Int)=>[(9,I j)]) Ze;refine Kg 11 func70 Z Z Z Z λr h=>Cd [] h Kc Z λr1 ai h=>Fg 12 Z Z (Bd h λE h4 h=>Ct E [0,1,2] [2,3,5,6] (λE=>[(20,.b E)]) Ze Zf ?_ (λenv H g=>?_))
 .exact bu h4
 refine Gx 1 Z (Ee g (Cn Z h (λ_ h=>?_) (λ_ h=>?_)))
 .exact bu h
 refine Gc 8 Z (Bd h λX Y h=>KR (b:=X) [0,1,2] [2,3,5] Ze Ze Zf ?_ (λaf env H F g=>?_))
 .refine G0 1 Z (Lp [0,1,2] [2,3,5,6] (λy=>[(7,I y)]) Ze Y Zf (Lr [0,1,2]) λy aj d G=>?_);refine G0 8 Z (Dm Z d (λ_ d=>?_) (λ_ d=>?_))
  .exact FS G d
  refine Gc 22 Z (Bd d λm aa d=>Ct m [0,1,2] [2,3,5,6,7] (λm=>[(8,I m)]) Ze Zf ?_ (λenv H g=>?_))
  .exact bu aa
  refine Gx 2 Z (Ee g (Gc 1 Z (Bd d λq ab d=>Ct q [0,1,2] [2,3,5,6,7] (λq=>[(61,.b q)]) Ze Zf ?_ (λenv H g=>?_))))
  .exact bu ab
  refine Gx 1 Z (Ee g (Cn Z d (λ_ d=>?_) (λ_ d=>?_)))
  .exact H9 G d h
  exact bu d
 subst F;refine Gx 1 Z (Ee g (Gc 2 Z (Bd h λt ac h=>Ct t [1,2] [3,5] (λt=>[(90,.b t)]) Ze Zf ?_ (λenv H g=>?_))))
 .exact bu ac
 refine Gx 1 Z (Ee g (Cn Z h (λ_ h=>?_) (λ_ h=>?_)))
 .exact bu h
 refine Gc 8 Z (Bd h λad ae h=>Hz (b:=ad) [] [] Ze Ze Zf ?_ (λ_ F=>?_))
 .refine G0 1 Z (Lp [0,1] [3,5] (λj=>[(9,I j)]) Ze ae Zf (Lr [0,1]) λj ah f B=>?_);refine G0 6 Z (Lg 3 Z Z (Dm Z f (λ_ f=>?_) (λ_ f=>?_)))
  .exact FS B f
  refine Gc 5 Z (GX 14 Z (D 4 Z ?_));obtain⟨Q,L,f⟩:=Yf f;refine DS.wo (x:=.rp (CX.c Q)) ?_ ?_
  .exact Ix L E3 Gm Z Wp
  refine D 2 Z ?_;obtain⟨R,M,f⟩:=Yf f;refine DS.wo (x:=I R) ?_ ?_
  .refine aM (Dc.fn call132 rfl rfl rfl) (E_.cons rfl (.inr ⟨_,_,_,_,_,rfl,rfl,X4 ..,rfl⟩) (E_.cons rfl (.inl ⟨rfl,rfl⟩) E_.nil)) ((lS _ _ _).c _ M) (by rintro _ _ ⟨rfl,rfl⟩;rfl) ?_;rintro _ _ ⟨rfl,rfl⟩;exact FE Z Wp
  exact H9 B f h
 subst F;exact bu h
def Wd(f:CE)(d:Int):AB (CJ Int (CJ Unit Int)):=(bif d<(AI f.AO:Int) then AH (CN f.AO d) λg=>AH (Pu n f g) λh=>(bif (!h)then AC (.d (.d 72))else AC (.k (i64.wrap (d+1))))else AC (.d (.k ())))
def D2(d:CE):AB Int:=AH (RS n d) λj=>(bif (!j)then AC 2 else AH (ZC n d) λm=>(bif (!m)then AC 70 else AH (P_ n d) λq=>(bif (!q)then AC 71 else AH (Wm n d.BZ) λg=>(bif (g != 0)then AC g else AH (iter (Wd n d) n 0:AB (CJ Unit Int)) λh=>match h with|.k f=>(AC 0)|.d f=>AC f))))
instance k_a(d:CE):Ki (D2 n d) 18 [.a (CE.c d)]:=by
 exact Kg 0 func18 Z Z Z Z λr h=>by
  have:=hn 110402 [] [] (λ(_:Unit)=>[]) Ze;have:=hl 110402 [0] [1] (λ(f:Int)=>[(4,I f)]) Ze;exact bu h
def V4(n:Nat)(f:AA CM)(m:Int)(rec240:(AA CM)->Int->AB Int)(d:Int×Int):AB (CJ (Int×Int) Int):=AH ((bif d.2<(AI f:Int) then AC (AG (d.1<500))else AC AD):AB Bool) λg=>(bif g then AH (CN f d.2) λh=>AH (rec240 h.Aa (i64.wrap (m+1))) λj=>AC (.k (i64.wrap (d.1+j),i64.wrap (d.2+1)))else AC (.d d.1))
def R9(rec240:(AA CM)->Int->AB Int)(n:Nat)(d:AA CM)(f:Int):AB Int:=(bif 20<f then AC 500 else AH (iter (V4 n d f rec240) n ((AI d:Int),0):AB Int) λg=>AC g)
theorem Qbq(rec240:(AA CM)->Int->AB Int)(j:∀(d:AA CM) (f:Int),Ki (rec240 d f) 133 [.q 3 (map CM.enc d),I f])(n:Nat)(d:AA CM)(f:Int):Ki (R9 rec240 n d f) 133 [.q 3 (map CM.enc d),I f]:=by
 exact Kg 0 func133 Z Z Z Z λr h=>by
  have:=hn 50301 [] [] (λ(m:Int)=>[(5,I m)]) Ze;have:=hl 50301 [] [0,1] (λ(g:Int×Int)=>[(5,I g.1),(6,I g.2)]) Ze;have:=hn 50100 [] [0,1,5,6] (λ(q:Bool)=>[(18,.b q)]) Ze;exact bu h
def NQ:Nat->(AA CM)->Int->AB Int
  |0=>λ_ _=>AF
  |n+1=>R9 (NQ n) n
instance AAa:∀(d:AA CM) (f:Int),Ki (NQ n d f) 133 [.q 3 (map CM.enc d),I f]:=by
  induction n with
  |zero=>exact λ_ _=>⟨nofun⟩
  |succ n ih=>exact Qbq _ ih n
def WJ(n:Nat)(f:AA AR)(m:Int)(rec242:(AA AR)->Int->AB Int)(d:Int×Int):AB (CJ (Int×Int) Int):=AH ((bif d.2<(AI f:Int) then AC (AG (d.1<500))else AC AD):AB Bool) λg=>(bif g then AH (CN f d.2) λh=>AH (rec242 h.Aa (i64.wrap (m+1))) λj=>AC (.k (i64.wrap (d.1+j),i64.wrap (d.2+1)))else AC (.d d.1))
def R8(rec242:(AA AR)->Int->AB Int)(n:Nat)(d:AA AR)(f:Int):AB Int:=(bif 20<f then AC 500 else AH (iter (WJ n d f rec242) n ((AI d:Int),0):AB Int) λg=>AC g)
theorem Qbe(rec242:(AA AR)->Int->AB Int)(j:∀(d:AA AR) (f:Int),Ki (rec242 d f) 218 [.q 4 (map AR.enc d),I f])(n:Nat)(d:AA AR)(f:Int):Ki (R8 rec242 n d f) 218 [.q 4 (map AR.enc d),I f]:=by
 exact Kg 0 func218 Z Z Z Z λr h=>by
  have:=hn 50301 [] [] (λ(m:Int)=>[(5,I m)]) Ze;have:=hl 50301 [] [0,1] (λ(g:Int×Int)=>[(5,I g.1),(6,I g.2)]) Ze;have:=hn 50100 [] [0,1,5,6] (λ(q:Bool)=>[(18,.b q)]) Ze;exact bu h
def NP:Nat->(AA AR)->Int->AB Int
  |0=>λ_ _=>AF
  |n+1=>R8 (NP n) n
instance AAZ:∀(d:AA AR) (f:Int),Ki (NP n d f) 218 [.q 4 (map AR.enc d),I f]:=by
  induction n with
  |zero=>exact λ_ _=>⟨nofun⟩
  |succ n ih=>exact Qbe _ ih n
def U6(f:AA AX)(g:Int)(rec241:(AA AX)->Int->AB Int)(d:Int×Int):AB (CJ (Int×Int) Int):=AH ((bif d.2<(AI f:Int) then AC (AG (d.1<500))else AC AD):AB Bool) λh=>(bif h then AH (CN f d.2) λj=>AH (NP n [j.AR] 0) λm=>AH (CN f d.2) λq=>AH (rec241 q.BN (i64.wrap (g+1))) λt=>AH (CN f d.2) λx=>AH (rec241 x.BQ (i64.wrap (g+1))) λy=>AC (.k (i64.wrap ((i64.wrap ((i64.wrap (d.1+m))+t))+y),i64.wrap (d.2+1)))else AC (.d d.1))
def R7(rec241:(AA AX)->Int->AB Int)(n:Nat)(d:AA AX)(f:Int):AB Int:=(bif 20<f then AC 500 else AH (iter (U6 n d f rec241) n ((AI d:Int),0):AB Int) λg=>AC g)
theorem Qbd(rec241:(AA AX)->Int->AB Int)(F:∀(q:AA AX) (t:Int),Ki (rec241 q t) 134 [.q 8 (map AX.enc q),I t])(n:Nat)(q:AA AX)(t:Int):Ki (R7 rec241 n q t) 134 [.q 8 (map AX.enc q),I t]:=by
 have:=hn 50301 [] [] (λ(g:Int)=>[(5,I g)]) Ze;have:=hl 50301 [] [0,1] (λ(f:Int×Int)=>[(5,I f.1),(6,I f.2)]) Ze;have:=hn 50100 [] [0,1,5,6] (λ(j:Bool)=>[(18,.b j)]) Ze;refine Kg 8 func134 Z Z Z Z λr h=>Lg 10 Z Z (Cn Z h (λ_ h=>?_) (λ_ h=>?_))
 .exact bu h
 refine Gc 8 Z (Bd h λg J h=>Cg g [] [] (λg=>[(5,I g)]) Ze Zf ?_ ?_)
 .refine G0 1 Z (Lp [] [0,1] (λf=>[(5,I f.1),(6,I f.2)]) Ze J Zf (Lr []) λf M d y=>?_);refine G0 2 Z (Bd d λj L d=>Cg j [] [0,1,5,6] (λj=>[(18,.b j)]) Ze Zf ?_ ?_)
  .exact bu L
  refine Dm Z d (λ_ d=>?_) (λ_ d=>?_)
  .exact FS y d
  refine Gc 4 Z (GX 26 Z (D 3 Z ?_));obtain⟨m,E,d⟩:=Yf d;refine DS.v (x:=(.rp (AX.c m))) (Qo6 (e:=AX.enc) E (fT m) runUnderlying29 sizeOf251) ?_;refine D 2 Z ?_;refine DS.wo (x:=.q 4 (map AR.enc [m.AR])) ?_ ?_
  .refine vH (YZ (xs:=[.tmp 26]) (es:=[AR.c m.AR]) Qsi Z Z Z Z Z ⟨Z,trivial⟩ Z Z) ?_;refine OS (x:=(.q 4 (map AR.enc [m.AR]))) (H:=[]) (by simp[fR]) Z ?_;exact Wp
  exact bu d
 exact bu h
def NO:Nat->(AA AX)->Int->AB Int
  |0=>λ_ _=>AF
  |n+1=>R7 (NO n) n
instance AAW:∀(d:AA AX) (f:Int),Ki (NO n d f) 134 [.q 8 (map AX.enc d),I f]:=by
  induction n with
  |zero=>exact λ_ _=>⟨nofun⟩
  |succ n ih=>exact Qbd _ ih n
end Go.Sw
