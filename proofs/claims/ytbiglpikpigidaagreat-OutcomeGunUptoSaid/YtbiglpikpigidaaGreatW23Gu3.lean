/- What the functions compute that OutcomeGun reaches, and that their calls refine it (part 3 of 6). -/
import Derived.Test.YtbiglpikpigidaaGreatW23Gu2
set_option linter.unusedVariables false
set_option linter.unusedSimpArgs false
set_option maxRecDepth 100000
set_option maxHeartbeats 4000000
namespace Go.Sw
open Option renaming some→AC,none→AF,bind→AH
open Bool renaming false→AD,true→AE
open Decidable renaming decide→AG
open List renaming length→AI
variable (n:Nat)
open List(map)
open Int(toNat)
open Go.IntKind(i64 u64 u8)
open Go.Proofs Tryz
def K6(m:Int)(a2:Uh)(a6:CB)(a7:Int)(M:AA CN)(t:CB)(x:CE)(y:AA Int)(B:AA CK)(E:AA CN)(F:AA Ue)(G:Int)(H:AA (Int×Ue))(J:CB)(L:CE)(rec158:Int->Uh->Bool->Int->(AA CX)->CB->Int->(AA Int)->(AA CN)->(AA Bool)->CB->CE->(AA Int)->(AA CK)->(AA CN)->(AA Ue)->Int->(AA (Int×Int))->(AA (Int×Int))->(AA (Int×Ue))->CB->CE->AB ((AA CX)×(AA Int)×(AA (Int×Int))×(AA Bool)×(AA (Int×Int))))(j:Int)(d:(AA CX)×(AA Int)×(AA (Int×Int))×(AA Bool)×(AA (Int×Int))×Int):AB (CG ((AA CX)×(AA Int)×(AA (Int×Int))×(AA Bool)×(AA (Int×Int))×Int) ((AA CX)×(AA Int)×(AA (Int×Int))×(AA Bool)×(AA (Int×Int)))):=(bif d.2.2.2.2.2<(AI M:Int) then AH (AH (CJ M d.2.2.2.2.2) λN=>AH (AH (CJ d.2.2.2.1 d.2.2.2.2.2) λO=>(bif O then AC AE else AC (N.Al != j)):AB Bool) λP=>(bif P then AC (d.1,d.2.1,d.2.2.1,d.2.2.2.1,d.2.2.2.2.1)else AH (IO n a2 m d.2.2.2.2.2 t x y B E F G H J L) λq=>AH ((bif q.2 then AH (CJ d.2.2.2.1 d.2.2.2.2.2) λab=>AH (JG d.2.2.2.1 d.2.2.2.2.2 AE) λQ=>AH (CJ d.2.1 m) λac=>AH (JG d.2.1 m d.2.2.2.2.2) λR=>AH (AC (Qm d.2.2.2.2.1 j 0)) λT=>AH (AC (QK d.2.2.2.2.1 j (i64.wrap (T-1)))) λV=>AH (rec158 (i64.wrap (m+1)) q.1 AD m d.1 a6 a7 R M Q t x y B E F G d.2.2.1 V H J L) λf=>AH (AC (Qm f.2.2.2.2 j 0)) λW=>AH (AC (QK f.2.2.2.2 j (i64.wrap (W+1)))) λX=>AH (CJ f.2.2.2.1 d.2.2.2.2.2) λad=>AH (JG f.2.2.2.1 d.2.2.2.2.2 AD) λY=>AH (CJ f.2.1 m) λae=>AH (JG f.2.1 m (-1)) λaa=>AC (f.1,aa,f.2.2.1,Y,X)else AC (d.1,d.2.1,d.2.2.1,d.2.2.2.1,d.2.2.2.2.1)):AB ((AA CX)×(AA Int)×(AA (Int×Int))×(AA Bool)×(AA (Int×Int)))) λg=>AC (g.1,g.2.1,g.2.2.1,g.2.2.2.1,g.2.2.2.2)):AB ((AA CX)×(AA Int)×(AA (Int×Int))×(AA Bool)×(AA (Int×Int)))) λh=>AC (.k (h.1,h.2.1,h.2.2.1,h.2.2.2.1,h.2.2.2.2,i64.wrap (d.2.2.2.2.2+1)))else AC (.d (d.1,d.2.1,d.2.2.1,d.2.2.2.1,d.2.2.2.2.1)))
def NM(rec158:Int->Uh->Bool->Int->(AA CX)->CB->Int->(AA Int)->(AA CN)->(AA Bool)->CB->CE->(AA Int)->(AA CK)->(AA CN)->(AA Ue)->Int->(AA (Int×Int))->(AA (Int×Int))->(AA (Int×Ue))->CB->CE->AB ((AA CX)×(AA Int)×(AA (Int×Int))×(AA Bool)×(AA (Int×Int))))(n:Nat)(x:Int)(X:Uh)(a3:Bool)(Y:Int)(G:AA CX)(W:CB)(a7:Int)(R:AA Int)(a9:AA CN)(y:AA Bool)(H:CB)(J:CE)(B:AA Int)(L:AA CK)(M:AA CN)(N:AA Ue)(q:Int)(E:AA (Int×Int))(t:AA (Int×Int))(O:AA (Int×Ue))(P:CB)(Q:CE):AB ((AA CX)×(AA Int)×(AA (Int×Int))×(AA Bool)×(AA (Int×Int))):=AH ((bif 64<(AI G:Int) then AC AE else AH (Pt n t E) λr6=>AC (AG (W.AQ.A7<r6))):AB Bool) λb3=>(bif b3 then AC (G,R,E,y,t)else(bif (x==a7)then AH ((bif q<=Y then AH (W4 n R) λad=>AH (app G [{BL:=ad,A8:=Y:CX}]) λae=>AC ae else AC G):AB (AA CX)) λaf=>AC (af,R,E,y,t)else AH (CJ B x) λF=>AH (AC (Qm E F 0)) λag=>AH (AC (QK E F (i64.wrap (ag-1)))) λT=>AH ((bif (!a3)then AH (IO n X x (-1) H J B L M N q O P Q) λV=>AH ((bif V.2 then AH (rec158 (i64.wrap (x+1)) V.1 AD x G W a7 R a9 y H J B L M N q T t O P Q) λg=>AC (g.1,g.2.1,g.2.2.1,g.2.2.2.1,g.2.2.2.2)else AC (G,R,T,y,t)):AB ((AA CX)×(AA Int)×(AA (Int×Int))×(AA Bool)×(AA (Int×Int)))) λh=>AH (iter (K6 n x X W a7 a9 H J B L M N q O P Q rec158 F) n (h.1,h.2.1,h.2.2.1,h.2.2.2.1,h.2.2.2.2,0):AB ((AA CX)×(AA Int)×(AA (Int×Int))×(AA Bool)×(AA (Int×Int)))) λj=>AC (j.1,j.2.1,j.2.2.1,j.2.2.2.1,j.2.2.2.2)else AC (G,R,T,y,t)):AB ((AA CX)×(AA Int)×(AA (Int×Int))×(AA Bool)×(AA (Int×Int)))) λd=>AH ((bif a3 then AC AE else AC (AG (q<x))):AB Bool) λaa=>AH ((bif aa then AH (rec158 (i64.wrap (x+1)) X AE Y d.1 W a7 d.2.1 a9 d.2.2.2.1 H J B L M N q d.2.2.1 d.2.2.2.2 O P Q) λm=>AC (m.1,m.2.1,m.2.2.1,m.2.2.2.1,m.2.2.2.2)else AC (d.1,d.2.1,d.2.2.1,d.2.2.2.1,d.2.2.2.2)):AB ((AA CX)×(AA Int)×(AA (Int×Int))×(AA Bool)×(AA (Int×Int)))) λf=>AH (AC (Qm f.2.2.1 F 0)) λab=>AH (AC (QK f.2.2.1 F (i64.wrap (ab+1)))) λac=>AC (f.1,f.2.1,ac,f.2.2.2.1,f.2.2.2.2)))
theorem Qb2(rec158:Int->Uh->Bool->Int->(AA CX)->CB->Int->(AA Int)->(AA CN)->(AA Bool)->CB->CE->(AA Int)->(AA CK)->(AA CN)->(AA Ue)->Int->(AA (Int×Int))->(AA (Int×Int))->(AA (Int×Ue))->CB->CE->AB ((AA CX)×(AA Int)×(AA (Int×Int))×(AA Bool)×(AA (Int×Int))))(ci:∀(a1:Int) (a2:Uh) (a3:Bool) (a4:Int) (a5:AA CX) (a6:CB) (a7:Int) (a8:AA Int) (a9:AA CN) (aa:AA Bool) (E:CB) (F:CE) (G:AA Int) (J:AA CK) (L:AA CN) (M:AA Ue) (N:Int) (ah:AA (Int×Int)) (aj:AA (Int×Int)) (O:AA (Int×Ue)) (P:CB) (Q:CE),Kq (rec158 a1 a2 a3 a4 a5 a6 a7 a8 a9 aa E F G J L M N ah aj O P Q) 38 [I a1,.a (Uh.c a2),.b a3,I a4,.p 0 0,.p 1 0,.p 2 0,.p 3 0,.p 4 0,.p 5 0,.p 6 0,.p 7 0,.p 8 0,.p 9 0,.p 10 0] [.c 55 [.o 11 (AI a5) 2],.c 140 [.fn (.func 36) [] [.p 10 0,.p 6 0]],.c 33 (CB.c a6),.c 3 [I a7],.c 128 [.p 12 0],.c 73 [.o 13 (AI a8) 1],.c 137 [.map 14],.c 143 [.fn (.func 38) [] [.p 0 0,.p 1 0,.p 2 0,.p 3 0,.p 4 0,.p 5 0,.p 6 0,.p 7 0,.p 8 0,.p 9 0,.p 10 0]],.c 42 [.q 5 (map CN.c a9)],.c 142 [.o 15 (AI aa) 1],.c 137 [.map 16],.r 75 2 (map CX.c a5),.c 136 (match_task.tc E F G J L M (.map 17) (.fn (.func 95) [] [.p 18 0,.p 19 0,.p 20 0]) N),.r 3 1 (map eI a8),.map (Qn I I ah),.r 4 1 (map JJ aa),.map (Qn I I aj),.map (Qn I (λx=>A.a (Ue.c x)) O),.c 128 [.p 12 0],.c 33 (CB.c P),.c 39 (CE.c Q)] (λ_=>.t []) (λr=>[.c 55 [.o 21 (AI r.1) 2],.c 140 [.fn (.func 36) [] [.p 10 0,.p 6 0]],.c 33 (CB.c a6),.c 3 [I a7],.c 128 [.p 12 0],.c 73 [.o 13 (AI r.2.1) 1],.c 137 [.map 14],.c 143 [.fn (.func 38) [] [.p 0 0,.p 1 0,.p 2 0,.p 3 0,.p 4 0,.p 5 0,.p 6 0,.p 7 0,.p 8 0,.p 9 0,.p 10 0]],.c 42 [.q 5 (map CN.c a9)],.c 142 [.o 15 (AI r.2.2.2.1) 1],.c 137 [.map 16],.dead,.c 136 (match_task.tc E F G J L M (.map 17) (.fn (.func 95) [] [.p 18 0,.p 19 0,.p 20 0]) N),.r 3 1 (map eI r.2.1),.map (Qn I I r.2.2.1),.r 4 1 (map JJ r.2.2.2.1),.map (Qn I I r.2.2.2.2),.map (Qn I (λx=>A.a (Ue.c x)) O),.c 128 [.p 12 0],.c 33 (CB.c P),.c 39 (CE.c Q),.r 75 2 (map CX.c r.1)]))(n:Nat)(a1:Int)(a2:Uh)(a3:Bool)(a4:Int)(a5:AA CX)(a6:CB)(a7:Int)(a8:AA Int)(a9:AA CN)(aa:AA Bool)(E:CB)(F:CE)(G:AA Int)(J:AA CK)(L:AA CN)(M:AA Ue)(N:Int)(ah:AA (Int×Int))(aj:AA (Int×Int))(O:AA (Int×Ue))(P:CB)(Q:CE):Kq (NM rec158 n a1 a2 a3 a4 a5 a6 a7 a8 a9 aa E F G J L M N ah aj O P Q) 38 [I a1,.a (Uh.c a2),.b a3,I a4,.p 0 0,.p 1 0,.p 2 0,.p 3 0,.p 4 0,.p 5 0,.p 6 0,.p 7 0,.p 8 0,.p 9 0,.p 10 0] [.c 55 [.o 11 (AI a5) 2],.c 140 [.fn (.func 36) [] [.p 10 0,.p 6 0]],.c 33 (CB.c a6),.c 3 [I a7],.c 128 [.p 12 0],.c 73 [.o 13 (AI a8) 1],.c 137 [.map 14],.c 143 [.fn (.func 38) [] [.p 0 0,.p 1 0,.p 2 0,.p 3 0,.p 4 0,.p 5 0,.p 6 0,.p 7 0,.p 8 0,.p 9 0,.p 10 0]],.c 42 [.q 5 (map CN.c a9)],.c 142 [.o 15 (AI aa) 1],.c 137 [.map 16],.r 75 2 (map CX.c a5),.c 136 (match_task.tc E F G J L M (.map 17) (.fn (.func 95) [] [.p 18 0,.p 19 0,.p 20 0]) N),.r 3 1 (map eI a8),.map (Qn I I ah),.r 4 1 (map JJ aa),.map (Qn I I aj),.map (Qn I (λx=>A.a (Ue.c x)) O),.c 128 [.p 12 0],.c 33 (CB.c P),.c 39 (CE.c Q)] (λ_=>.t []) (λr=>[.c 55 [.o 21 (AI r.1) 2],.c 140 [.fn (.func 36) [] [.p 10 0,.p 6 0]],.c 33 (CB.c a6),.c 3 [I a7],.c 128 [.p 12 0],.c 73 [.o 13 (AI r.2.1) 1],.c 137 [.map 14],.c 143 [.fn (.func 38) [] [.p 0 0,.p 1 0,.p 2 0,.p 3 0,.p 4 0,.p 5 0,.p 6 0,.p 7 0,.p 8 0,.p 9 0,.p 10 0]],.c 42 [.q 5 (map CN.c a9)],.c 142 [.o 15 (AI r.2.2.2.1) 1],.c 137 [.map 16],.dead,.c 136 (match_task.tc E F G J L M (.map 17) (.fn (.func 95) [] [.p 18 0,.p 19 0,.p 20 0]) N),.r 3 1 (map eI r.2.1),.map (Qn I I r.2.2.1),.r 4 1 (map JJ r.2.2.2.1),.map (Qn I I r.2.2.2.2),.map (Qn I (λx=>A.a (Ue.c x)) O),.c 128 [.p 12 0],.c 33 (CB.c P),.c 39 (CE.c Q),.r 75 2 (map CX.c r.1)]):=by
 refine⟨λr h=>?_⟩;refine Qku func38 Z Z Z Z ?_;refine Iy.seq ?_;refine G0 3 Z (aC ?_);refine Iy.seq ?_;refine G0 1 Z (Bd h λb3 h4 h=>Ct b3 [0,1,2,3,4,5,6,7,8,9,10,11,12,13,14,15,16,17,18,19,20,21] [0,2,3,4,7,8,9,10,11,12,13,14,16] (λb3=>[(36,.b b3)]) Ze Zf ?_ (λenv H q=>?_))
 .refine G0 0 Z (DU 9 Z (D 4 Z (DS.is 3 h4 Z Z Z (λ_ h4=>?_) (λ_ h4=>?_))))
  .exact au h4
  .refine D 1 Z ?_;obtain⟨r6,cl,h4⟩:=QE h4;refine DS.wo (x:=I r6) ?_ ?_
   .exact Pc [10,6,16,14] Z (JR call36 Z Z Z Z) (_O (Kr.cons (.kc _ _ Z) (Kr.cons (.kc _ _ Z) (Kr.cons (.mp _) (Kr.cons (.mp _) Kr.nil)))) ((jT _ _ _).c _ cl) Z) (hg:=(gT Z)) Z Wp
   exact au h4
 refine Gx 1 Z (Ee q (Cn Z h (λ_ h=>?_) (λ_ h=>?_)))
 .refine Gc 1 Z (ny ?_);obtain rfl:=Oi h;refine⟨[],_,_,?_,II.nil Z,Z,Z⟩;refine En (Zt (i:=11) (j:=0) (m:=0) Z Z Z Z Z) ?_;exact Lr [0,1,2,3,4,5,6,7,8,9,10,11,12,13,14,15,16,17,18,19,20,22]
 refine Gc 1 Z (aC ?_);refine Iy.seq ?_;refine G0 7 Z (Cn Z h (λ_ h=>?_) (λ_ h=>?_))
 .refine Gc 11 Z (Bd h λay ai h=>Ct ay [0,1,2,3,4,5,6,7,8,9,10,11,12,13,14,15,16,17,18,19,20,0] [] Ze (λay=>[(0,.c 55 [.o 21 (AI ay) 2]),(11,.dead),(21,.r 75 2 (map CX.c ay))]) Zf ?_ (λenv H q=>?_))
  .refine G0 0 Z (Cn Z ai (λ_ ai=>?_) (λ_ ai=>?_))
   .refine Hn 6 [2] [(0,0,1),(0,0,0),(1,0,0),(0,0,1),(0,1,1),(0,1,1)] (by kernel_rfl) ?_;refine KR (lo:=0) (x:=.o 11 (AI a5) 2) ⟨Z,trivial⟩ ?_;refine Dk 1 Z ?_;obtain⟨ar,ca,ai⟩:=QE ai;refine Ex (x:=.q 1 (map eI ar)) (X1:=[.c 55 [.o 11 (AI a5) 2],.c 140 [.fn (.func 36) [] [.p 10 0,.p 6 0]],.c 33 (CB.c a6),.c 3 [I a7],.c 128 [.p 12 0],.c 73 [.o 13 (AI a8) 1],.c 137 [.map 14],.c 143 [.fn (.func 38) [] [.p 0 0,.p 1 0,.p 2 0,.p 3 0,.p 4 0,.p 5 0,.p 6 0,.p 7 0,.p 8 0,.p 9 0,.p 10 0]],.c 42 [.q 5 (map CN.c a9)],.c 142 [.o 15 (AI aa) 1],.c 137 [.map 16],.r 75 2 (map CX.c a5),.c 136 (match_task.tc E F G J L M (.map 17) (.fn (.func 95) [] [.p 18 0,.p 19 0,.p 20 0]) N),.r 3 1 (map eI a8),.map (Qn I I ah),.r 4 1 (map JJ aa),.map (Qn I I aj),.map (Qn I (λx=>A.a (Ue.c x)) O),.c 128 [.p 12 0],.c 33 (CB.c P),.c 39 (CE.c Q),.c 147 (Uh.c a2),.dead]) ?_ ?_
    .refine Qg [13] (C8.fn call39 Z Z Z) ((jQ _ _).c _ ca) ?_;rintro _ _ ⟨rfl,rfl⟩;refine N8 (x:=(.o 22 (AI ar) 1)) (H:=[.c 55 [.o 11 (AI a5) 2],.c 140 [.fn (.func 36) [] [.p 10 0,.p 6 0]],.c 33 (CB.c a6),.c 3 [I a7],.c 128 [.p 12 0],.c 73 [.o 13 (AI a8) 1],.c 137 [.map 14],.c 143 [.fn (.func 38) [] [.p 0 0,.p 1 0,.p 2 0,.p 3 0,.p 4 0,.p 5 0,.p 6 0,.p 7 0,.p 8 0,.p 9 0,.p 10 0]],.c 42 [.q 5 (map CN.c a9)],.c 142 [.o 15 (AI aa) 1],.c 137 [.map 16],.r 75 2 (map CX.c a5),.c 136 (match_task.tc E F G J L M (.map 17) (.fn (.func 95) [] [.p 18 0,.p 19 0,.p 20 0]) N),.r 3 1 (map eI a8),.map (Qn I I ah),.r 4 1 (map JJ aa),.map (Qn I I aj),.map (Qn I (λx=>A.a (Ue.c x)) O),.c 128 [.p 12 0],.c 33 (CB.c P),.c 39 (CE.c Q),.c 147 (Uh.c a2),.r 3 1 (map eI ar)]) Z (by simp only[Q9,Vj,Vk,List.set_cons_succ,List.set_cons_zero,VJ,Vh];rfl) ?_;refine Et (Yl [(48,_)] Z Z (Cx.cons Z Ep Cx.nil) (Ec (Ec (Ec (Ec (Ec (Ec (Ec (Ec (Ec (Ec (Ec (Ec (Ec (Ec (Ec (Ec (Ec (Ec (Ec (Ec (Ec (Ec (Ec (QU _))))))))))))))))))))))))) ?_;refine Et TD ?_;exact Wp
    refine Dk 2 Z ?_;refine DK.wo (x:=.q 2 (map CX.c [{BL:=ar,A8:=a4:CX}])) ?_ ?_
    .refine vH (QO (xs:=[.tmp 50]) (es:=map CX.c [{BL:=ar,A8:=a4:CX}]) oZ Z Z Z Z Z ⟨Z,trivial⟩ Z Z) ?_;exact FE Z Wp
    refine DK.done Z Z (Bd ai λdh cb ai=>?_);refine vH (Qj (e:=CX.c) cb oZ GV La) ?_;exact au ai
   refine Gc 1 Z ?_;cases ai;refine N5 ?_;refine En (Zt (i:=11) (j:=0) (m:=0) Z Z Z Z Z) ?_;exact Lr [0,1,2,3,4,5,6,7,8,9,10,11,12,13,14,15,16,17,18,19,20,22]
  refine Gx 1 Z (Ee q (Gc 1 Z (ny ?_)));exact au h
 refine Gc 1 Z (aC ?_);refine Iy.seq ?_;refine G0 6 Z (Bd h λab cc h=>Iz cc Z (Go 4 Z (aC ?_)));refine Iy.seq ?_;refine G0 3 Z (Bd h λbx cd h=>?_);refine vX (I bx) (Q7 (ev:=I) (z0:=0) (k:=ab) (l:=ah) YM cd EK EV Eo) ?_;refine Go 1 Z (Bd h λco ce h=>?_);refine vU (Yf (ev:=I) (k:=ab) (v:=(i64.wrap (bx-1))) (l:=ah) YM ce Z EK) ?_;refine Fg 1 Z Z (aC ?_);refine Iy.defer (caps:=[.p 6 0,.p 22 0]) (CT.makeFunc (first:=[]) (cap:=[.tmp 10,.tmp 19]) Z Z Z) (XQ Z) Z ?_;refine G0 7 Z (Bd h λR B h=>Ct R [0,1,2,3,4,5,6,7,8,9,10,11,12,13,14,15,16,17,18,19,20,21,22,0] [0,2,3,8,11,16] Ze (λR=>[(0,.c 55 [.o 23 (AI R.1) 2]),(5,.c 73 [.o 13 (AI R.2.1) 1]),(9,.c 142 [.o 15 (AI R.2.2.2.1) 1]),(11,.dead),(13,.r 3 1 (map eI R.2.1)),(14,.map (Qn I I R.2.2.1)),(15,.r 4 1 (map JJ R.2.2.2.1)),(16,.map (Qn I I R.2.2.2.2)),(23,.r 75 2 (map CX.c R.1))]) Zf ?_ (λenv H q=>?_))
 .refine G0 0 Z (Cn Z B (λ_ B=>?_) (λ_ B=>?_))
  .refine Gc 6 Z (Cd [12,17,18,19,20] B Kc Z λak cp B=>?_);refine N8 (x:=(.t [.a (Uh.c ak.1),.b ak.2])) (H:=[.c 55 [.o 11 (AI a5) 2],.c 140 [.fn (.func 36) [] [.p 10 0,.p 6 0]],.c 33 (CB.c a6),.c 3 [I a7],.c 128 [.p 12 0],.c 73 [.o 13 (AI a8) 1],.c 137 [.map 14],.c 143 [.fn (.func 38) [] [.p 0 0,.p 1 0,.p 2 0,.p 3 0,.p 4 0,.p 5 0,.p 6 0,.p 7 0,.p 8 0,.p 9 0,.p 10 0]],.c 42 [.q 5 (map CN.c a9)],.c 142 [.o 15 (AI aa) 1],.c 137 [.map 16],.r 75 2 (map CX.c a5),.c 136 (match_task.tc E F G J L M (.map 17) (.fn (.func 95) [] [.p 18 0,.p 19 0,.p 20 0]) N),.r 3 1 (map eI a8),.map (Qn I I co),.r 4 1 (map JJ aa),.map (Qn I I aj),.map (Qn I (λx=>A.a (Ue.c x)) O),.c 128 [.p 12 0],.c 33 (CB.c P),.c 39 (CE.c Q),.c 147 (Uh.c a2),.c 3 [I ab],.c 147 (Uh.c ak.1)]) Z (by simp only[Q9,Vj,Vk,List.set_cons_succ,List.set_cons_zero,VJ,Vh];rfl) ?_;refine Go 13 Z (Bd B λT af B=>Ct T [0,1,2,3,4,5,6,7,8,9,10,11,12,13,14,15,16,17,18,19,20,21,22,0] [0,2,3,8,9,11,12,13,14,16,19] Ze (λT=>[(0,.c 55 [.o 23 (AI T.1) 2]),(5,.c 73 [.o 13 (AI T.2.1) 1]),(9,.c 142 [.o 15 (AI T.2.2.2.1) 1]),(11,.dead),(13,.r 3 1 (map eI T.2.1)),(14,.map (Qn I I T.2.2.1)),(15,.r 4 1 (map JJ T.2.2.2.1)),(16,.map (Qn I I T.2.2.2.2)),(23,.r 75 2 (map CX.c T.1))]) Zf ?_ (λenv H q=>?_))
   .refine G0 0 Z (Cn Z af (λ_ af=>?_) (λ_ af=>?_))
    .refine Gc 6 Z (Cd [0,1,2,3,4,5,6,7,8,9,10,11,12,13,14,15,16,17,18,19,20] af Kc Z λac cq af=>?_);refine N8 (x:=(.t [])) (H:=[.c 55 [.o 25 (AI ac.1) 2],.c 140 [.fn (.func 36) [] [.p 10 0,.p 6 0]],.c 33 (CB.c a6),.c 3 [I a7],.c 128 [.p 12 0],.c 73 [.o 13 (AI ac.2.1) 1],.c 137 [.map 14],.c 143 [.fn (.func 38) [] [.p 0 0,.p 1 0,.p 2 0,.p 3 0,.p 4 0,.p 5 0,.p 6 0,.p 7 0,.p 8 0,.p 9 0,.p 10 0]],.c 42 [.q 5 (map CN.c a9)],.c 142 [.o 15 (AI ac.2.2.2.1) 1],.c 137 [.map 16],.dead,.c 136 (match_task.tc E F G J L M (.map 17) (.fn (.func 95) [] [.p 18 0,.p 19 0,.p 20 0]) N),.r 3 1 (map eI ac.2.1),.map (Qn I I ac.2.2.1),.r 4 1 (map JJ ac.2.2.2.1),.map (Qn I I ac.2.2.2.2),.map (Qn I (λx=>A.a (Ue.c x)) O),.c 128 [.p 12 0],.c 33 (CB.c P),.c 39 (CE.c Q),.c 147 (Uh.c a2),.c 3 [I ab],.c 147 (Uh.c ak.1),.c 147 (Uh.c ak.1),.r 75 2 (map CX.c ac.1)]) Z (by simp only[Q9,Vj,Vk,List.set_cons_succ,List.set_cons_zero,VJ,Vh];rfl) ?_;exact au af
    refine Gc 1 Z ?_;cases af;refine N5 ?_;refine En (Zt (i:=11) (j:=0) (m:=0) Z Z Z Z Z) ?_;exact Lr [0,1,2,3,4,5,6,7,8,9,10,11,12,13,14,15,16,17,18,19,20,21,22,25]
   refine Gx 1 Z (Ee q (Gc 3 Z (Lg 3 Z Z (Bd B λV cf B=>Ct V [0,1,2,3,4,5,6,7,8,9,10,11,12,13,14,15,16,17,18,19,20,21,22,23] [0,2,3,8,11,16] Ze (λV=>[(0,.c 55 [.o 23 (AI V.1) 2]),(5,.c 73 [.o 13 (AI V.2.1) 1]),(9,.c 142 [.o 15 (AI V.2.2.2.1) 1]),(13,.r 3 1 (map eI V.2.1)),(14,.map (Qn I I V.2.2.1)),(15,.r 4 1 (map JJ V.2.2.2.1)),(16,.map (Qn I I V.2.2.2.2)),(23,.r 75 2 (map CX.c V.1))]) Zf ?_ (λenv H q=>?_)))))
   .refine G0 1 Z (Lp [0,1,2,3,4,5,6,7,8,9,10,11,12,13,14,15,16,17,18,19,20,21,22,23] [0,2,3,8,9,11,13,14,16,19,81,82] (λg=>[(83,I g.2.2.2.2.2)]) (λg=>[(0,.c 55 [.o 23 (AI g.1) 2]),(5,.c 73 [.o 13 (AI g.2.1) 1]),(9,.c 142 [.o 15 (AI g.2.2.2.1) 1]),(13,.r 3 1 (map eI g.2.1)),(14,.map (Qn I I g.2.2.1)),(15,.r 4 1 (map JJ g.2.2.2.1)),(16,.map (Qn I I g.2.2.2.2.1)),(23,.r 75 2 (map CX.c g.1))]) cf Zf (Lr [0,1,2,3,4,5,6,7,8,9,10,11,12,13,14,15,16,17,18,19,20,21,22,23]) λg cu ad bk=>?_);refine G0 6 Z (Q8 Z ad (λ_ ad=>?_) (λ_ ad=>?_))
    .exact Gc 2 Z (QH ad (Gx 1 Z (DW bk ad (Lr [0,1,2,3,4,5,6,7,8,9,10,11,12,13,14,15,16,17,18,19,20,21,22,23]))))
    refine Gc 3 Z (Bd ad λW t ad=>Ct W [0,1,2,3,4,5,6,7,8,9,10,11,12,13,14,15,16,17,18,19,20,21,22,23] [0,2,3,8,9,11,13,14,16,19,81,82,83] Ze (λW=>[(0,.c 55 [.o 23 (AI W.1) 2]),(5,.c 73 [.o 13 (AI W.2.1) 1]),(9,.c 142 [.o 15 (AI W.2.2.2.1) 1]),(13,.r 3 1 (map eI W.2.1)),(14,.map (Qn I I W.2.2.1)),(15,.r 4 1 (map JJ W.2.2.2.1)),(16,.map (Qn I I W.2.2.2.2)),(23,.r 75 2 (map CX.c W.1))]) Zf ?_ (λenv H q=>?_))
    .refine G0 4 Z (Bd t λcv bm t=>Iz bm Z (Go 8 Z (Bd t λav aw t=>Ct av [0,1,2,3,4,5,6,7,8,9,10,11,12,13,14,15,16,17,18,19,20,21,22,23] [0,2,3,8,9,11,13,14,16,19,22,81,82,83] (λav=>[(97,.b av)]) Ze Zf ?_ (λenv H q=>?_))))
     .refine G0 3 Z (Bd aw λcg az aw=>?_);refine vX (.p 15 (toNat g.2.2.2.2.2*1)) (Qd az Z GA GJ) ?_;refine vX (.b cg) (Ez Z isAgg4 Z (Qh az)) ?_;exact au aw
     refine Gx 1 Z (Ee q (Cn Z t (λ_ t=>?_) (λ_ t=>?_)))
     .exact au t
     refine Gc 8 Z (Cd [12,17,18,19,20] t Kc Z λal cr t=>?_);refine N8 (x:=(.t [.a (Uh.c al.1),.b al.2])) (H:=[.c 55 [.o 23 (AI g.1) 2],.c 140 [.fn (.func 36) [] [.p 10 0,.p 6 0]],.c 33 (CB.c a6),.c 3 [I a7],.c 128 [.p 12 0],.c 73 [.o 13 (AI g.2.1) 1],.c 137 [.map 14],.c 143 [.fn (.func 38) [] [.p 0 0,.p 1 0,.p 2 0,.p 3 0,.p 4 0,.p 5 0,.p 6 0,.p 7 0,.p 8 0,.p 9 0,.p 10 0]],.c 42 [.q 5 (map CN.c a9)],.c 142 [.o 15 (AI g.2.2.2.1) 1],.c 137 [.map 16],.dead,.c 136 (match_task.tc E F G J L M (.map 17) (.fn (.func 95) [] [.p 18 0,.p 19 0,.p 20 0]) N),.r 3 1 (map eI g.2.1),.map (Qn I I g.2.2.1),.r 4 1 (map JJ g.2.2.2.1),.map (Qn I I g.2.2.2.2.1),.map (Qn I (λx=>A.a (Ue.c x)) O),.c 128 [.p 12 0],.c 33 (CB.c P),.c 39 (CE.c Q),.c 147 (Uh.c a2),.c 3 [I ab],.r 75 2 (map CX.c g.1),.c 147 (Uh.c al.1)]) Z (by simp only[Q9,Vj,Vk,List.set_cons_succ,List.set_cons_zero,VJ,Vh];rfl) ?_;refine Go 13 Z (Bd t λX d t=>Ct X [0,1,2,3,4,5,6,7,8,9,10,11,12,13,14,15,16,17,18,19,20,21,22,0] [0,2,3,8,9,11,13,14,16,19,81,82,83] Ze (λX=>[(0,.c 55 [.o 23 (AI X.1) 2]),(5,.c 73 [.o 13 (AI X.2.1) 1]),(9,.c 142 [.o 15 (AI X.2.2.2.1) 1]),(13,.r 3 1 (map eI X.2.1)),(14,.map (Qn I I X.2.2.1)),(15,.r 4 1 (map JJ X.2.2.2.1)),(16,.map (Qn I I X.2.2.2.2)),(23,.r 75 2 (map CX.c X.1))]) Zf ?_ (λenv H q=>?_))
     .refine G0 0 Z (Cn Z d (λ_ d=>?_) (λ_ d=>?_))
      .refine Gc 7 Z (Bd d λcw ba d=>?_);refine vX (.p 15 (toNat g.2.2.2.2.2*1)) (Qd ba Z GA GJ) ?_;refine Bd d λcx am d=>?_;refine vU (Yp (e:=JJ) (k:=1) (f:=0) ba am GJ Z Z) ?_;refine FE Z ?_;refine Et (QZ (s:=107) Z (congrArg (λn=>A.s 15 0 n 1) (Q6 am))) ?_;refine Et (S1 (i:=9) Z (congrArg (λnz=>CU.cells 142 [.o 15 nz 1]) (Q6 am))) ?_;refine Bd d λcy bb d=>?_;refine vX (.p 13 (toNat a1*1)) (Qd bb Z EB EC) ?_;refine Bd d λcz an d=>?_;refine vU (Yp (e:=eI) (k:=1) (f:=0) bb an EC Z Z) ?_;refine FE Z ?_;refine Et (QZ (s:=109) Z (congrArg (λn=>A.s 13 0 n 1) (Q6 an))) ?_;refine Et (S1 (i:=5) Z (congrArg (λnz=>CU.cells 73 [.o 13 nz 1]) (Q6 an))) ?_;refine Go 6 Z (Bd d λbe bp d=>?_);refine vX (I be) (Q7 (ev:=I) (z0:=0) (k:=ab) (l:=g.2.2.2.2.1) YM bp EK EV Eo) ?_;refine Go 1 Z (Bd d λda bq d=>?_);refine vU (Yf (ev:=I) (k:=ab) (v:=(i64.wrap (be-1))) (l:=g.2.2.2.2.1) YM bq Z EK) ?_;refine Fg 9 Z Z (Cd [0,1,2,3,4,5,6,7,8,9,10,23,12,13,14,15,16,17,18,19,20] d Kc Z λY cs d=>?_);refine N8 (x:=(.t [])) (H:=[.c 55 [.o 26 (AI Y.1) 2],.c 140 [.fn (.func 36) [] [.p 10 0,.p 6 0]],.c 33 (CB.c a6),.c 3 [I a7],.c 128 [.p 12 0],.c 73 [.o 13 (AI Y.2.1) 1],.c 137 [.map 14],.c 143 [.fn (.func 38) [] [.p 0 0,.p 1 0,.p 2 0,.p 3 0,.p 4 0,.p 5 0,.p 6 0,.p 7 0,.p 8 0,.p 9 0,.p 10 0]],.c 42 [.q 5 (map CN.c a9)],.c 142 [.o 15 (AI Y.2.2.2.1) 1],.c 137 [.map 16],.dead,.c 136 (match_task.tc E F G J L M (.map 17) (.fn (.func 95) [] [.p 18 0,.p 19 0,.p 20 0]) N),.r 3 1 (map eI Y.2.1),.map (Qn I I Y.2.2.1),.r 4 1 (map JJ Y.2.2.2.1),.map (Qn I I Y.2.2.2.2),.map (Qn I (λx=>A.a (Ue.c x)) O),.c 128 [.p 12 0],.c 33 (CB.c P),.c 39 (CE.c Q),.c 147 (Uh.c a2),.c 3 [I ab],.dead,.c 147 (Uh.c al.1),.c 147 (Uh.c al.1),.r 75 2 (map CX.c Y.1)]) Z (by simp only[Q9,Vj,Vk,List.set_cons_succ,List.set_cons_zero,VJ,Vh];rfl) ?_;refine Go 6 Z (Bd d λbg br d=>?_);refine vX (I bg) (Q7 (ev:=I) (z0:=0) (k:=ab) (l:=Y.2.2.2.2) YM br EK EV Eo) ?_;refine Go 1 Z (Bd d λdb bs d=>?_);refine vU (Yf (ev:=I) (k:=ab) (v:=(i64.wrap (bg+1))) (l:=Y.2.2.2.2) YM bs Z EK) ?_;refine Fg 7 Z Z (Bd d λdc bc d=>?_);refine vX (.p 15 (toNat g.2.2.2.2.2*1)) (Qd bc Z GA GJ) ?_;refine Bd d λdd ao d=>?_;refine vU (Yp (e:=JJ) (k:=1) (f:=0) bc ao GJ Z Z) ?_;refine FE Z ?_;refine Et (QZ (s:=128) Z (congrArg (λn=>A.s 15 0 n 1) (Q6 ao))) ?_;refine Et (S1 (i:=9) Z (congrArg (λnz=>CU.cells 142 [.o 15 nz 1]) (Q6 ao))) ?_;refine Bd d λde bd d=>?_;refine vX (.p 13 (toNat a1*1)) (Qd bd Z EB EC) ?_;refine Bd d λdf aq d=>?_;refine vU (Yp (e:=eI) (k:=1) (f:=0) bd aq EC Z Z) ?_;refine FE Z ?_;refine Et (QZ (s:=130) Z (congrArg (λn=>A.s 13 0 n 1) (Q6 aq))) ?_;refine Et (S1 (i:=5) Z (congrArg (λnz=>CU.cells 73 [.o 13 nz 1]) (Q6 aq))) ?_;exact au d
      exact au d
     refine Gx 1 Z ?_;cases t;exact N5 (En q (Lr [0,1,2,3,4,5,6,7,8,9,10,11,12,13,14,15,16,17,18,19,20,21,22,23]))
    exact Gx 1 Z (Ee q (Gc 4 Z (Q1 ad (Lr [0,1,2,3,4,5,6,7,8,9,10,11,12,13,14,15,16,17,18,19,20,21,22,23]))))
   cases B;exact N5 (En q (Lr [0,1,2,3,4,5,6,7,8,9,10,11,12,13,14,15,16,17,18,19,20,21,22,23]))
  refine Gc 1 Z ?_;cases B;refine N5 ?_;refine En (Zt (i:=11) (j:=0) (m:=0) Z Z Z Z Z) ?_;exact Lr [0,1,2,3,4,5,6,7,8,9,10,11,12,13,14,15,16,17,18,19,20,21,22,23]
 refine Gx 1 Z (Ee q (Gc 1 Z (Bd h λax ch h=>Ct ax [0,1,2,3,4,5,6,7,8,9,10,11,12,13,14,15,16,17,18,19,20,21,22,23] [0,3,11,16] (λax=>[(143,.b ax)]) Ze Zf ?_ (λenv H q=>?_))))
 .exact au ch
 refine Gx 1 Z (Ee q (Bd h λy ag h=>Ct y [0,1,2,3,4,5,6,7,8,9,10,11,12,13,14,15,16,17,18,19,20,21,22,0] [] Ze (λy=>[(0,.c 55 [.o 23 (AI y.1) 2]),(5,.c 73 [.o 13 (AI y.2.1) 1]),(9,.c 142 [.o 15 (AI y.2.2.2.1) 1]),(13,.r 3 1 (map eI y.2.1)),(14,.map (Qn I I y.2.2.1)),(15,.r 4 1 (map JJ y.2.2.2.1)),(16,.map (Qn I I y.2.2.2.2)),(23,.r 75 2 (map CX.c y.1))]) Zf ?_ (λenv H q=>?_)))
 .refine G0 0 Z (Cn Z ag (λ_ ag=>?_) (λ_ ag=>?_))
  .refine Gc 6 Z (Cd [0,1,2,3,4,5,6,7,8,9,10,23,12,13,14,15,16,17,18,19,20] ag Kc Z λae ct ag=>?_);refine N8 (x:=(.t [])) (H:=[.c 55 [.o 24 (AI ae.1) 2],.c 140 [.fn (.func 36) [] [.p 10 0,.p 6 0]],.c 33 (CB.c a6),.c 3 [I a7],.c 128 [.p 12 0],.c 73 [.o 13 (AI ae.2.1) 1],.c 137 [.map 14],.c 143 [.fn (.func 38) [] [.p 0 0,.p 1 0,.p 2 0,.p 3 0,.p 4 0,.p 5 0,.p 6 0,.p 7 0,.p 8 0,.p 9 0,.p 10 0]],.c 42 [.q 5 (map CN.c a9)],.c 142 [.o 15 (AI ae.2.2.2.1) 1],.c 137 [.map 16],.dead,.c 136 (match_task.tc E F G J L M (.map 17) (.fn (.func 95) [] [.p 18 0,.p 19 0,.p 20 0]) N),.r 3 1 (map eI ae.2.1),.map (Qn I I ae.2.2.1),.r 4 1 (map JJ ae.2.2.2.1),.map (Qn I I ae.2.2.2.2),.map (Qn I (λx=>A.a (Ue.c x)) O),.c 128 [.p 12 0],.c 33 (CB.c P),.c 39 (CE.c Q),.c 147 (Uh.c a2),.c 3 [I ab],.dead,.r 75 2 (map CX.c ae.1)]) Z (by simp only[Q9,Vj,Vk,List.set_cons_succ,List.set_cons_zero,VJ,Vh];rfl) ?_;exact au ag
  exact au ag
 refine Ns.mk q func40 Z call40 Z (?_:WO _ _ _ _ _ _ _ (kq _ _ _ [] _));refine Go 2 Z (Bd h λbh bv h=>?_);refine vX (I bh) (Q7 (ev:=I) (z0:=0) (k:=ab) (l:=y.2.2.1) YM bv EK EV Eo) ?_;refine Go 1 Z (Bd h λdg bw h=>?_);refine vU (Yf (ev:=I) (k:=ab) (v:=(i64.wrap (bh+1))) (l:=y.2.2.1) YM bw Z EK) ?_;refine Fg 1 Z Z ?_;obtain rfl:=Oi h;exact Rx [0,1,2,3,4,5,6,7,8,9,10,11,12,13,14,15,16,17,18,19,20,23] [] Z (II.nil Z) ⟨Z,Z⟩
def J1:Nat->Int->Uh->Bool->Int->(AA CX)->CB->Int->(AA Int)->(AA CN)->(AA Bool)->CB->CE->(AA Int)->(AA CK)->(AA CN)->(AA Ue)->Int->(AA (Int×Int))->(AA (Int×Int))->(AA (Int×Ue))->CB->CE->AB ((AA CX)×(AA Int)×(AA (Int×Int))×(AA Bool)×(AA (Int×Int)))
  |0=>λ_ _ _ _ _ _ _ _ _ _ _ _ _ _ _ _ _ _ _ _ _ _=>AF
  |n+1=>NM (J1 n) n
instance k_d:∀(N:Int) (O:Uh) (P:Bool) (Q:Int) (H:AA CX) (J:CB) (a7:Int) (L:AA Int) (M:AA CN) (d:AA Bool) (f:CB) (g:CE) (h:AA Int) (j:AA CK) (m:AA CN) (q:AA Ue) (t:Int) (F:AA (Int×Int)) (G:AA (Int×Int)) (y:AA (Int×Ue)) (B:CB) (E:CE),Kq (J1 n N O P Q H J a7 L M d f g h j m q t F G y B E) 38 [I N,.a (Uh.c O),.b P,I Q,.p 0 0,.p 1 0,.p 2 0,.p 3 0,.p 4 0,.p 5 0,.p 6 0,.p 7 0,.p 8 0,.p 9 0,.p 10 0] [.c 55 [.o 11 (AI H) 2],.c 140 [.fn (.func 36) [] [.p 10 0,.p 6 0]],.c 33 (CB.c J),.c 3 [I a7],.c 128 [.p 12 0],.c 73 [.o 13 (AI L) 1],.c 137 [.map 14],.c 143 [.fn (.func 38) [] [.p 0 0,.p 1 0,.p 2 0,.p 3 0,.p 4 0,.p 5 0,.p 6 0,.p 7 0,.p 8 0,.p 9 0,.p 10 0]],.c 42 [.q 5 (map CN.c M)],.c 142 [.o 15 (AI d) 1],.c 137 [.map 16],.r 75 2 (map CX.c H),.c 136 (match_task.tc f g h j m q (.map 17) (.fn (.func 95) [] [.p 18 0,.p 19 0,.p 20 0]) t),.r 3 1 (map eI L),.map (Qn I I F),.r 4 1 (map JJ d),.map (Qn I I G),.map (Qn I (λx=>A.a (Ue.c x)) y),.c 128 [.p 12 0],.c 33 (CB.c B),.c 39 (CE.c E)] (λ_=>.t []) (λr=>[.c 55 [.o 21 (AI r.1) 2],.c 140 [.fn (.func 36) [] [.p 10 0,.p 6 0]],.c 33 (CB.c J),.c 3 [I a7],.c 128 [.p 12 0],.c 73 [.o 13 (AI r.2.1) 1],.c 137 [.map 14],.c 143 [.fn (.func 38) [] [.p 0 0,.p 1 0,.p 2 0,.p 3 0,.p 4 0,.p 5 0,.p 6 0,.p 7 0,.p 8 0,.p 9 0,.p 10 0]],.c 42 [.q 5 (map CN.c M)],.c 142 [.o 15 (AI r.2.2.2.1) 1],.c 137 [.map 16],.dead,.c 136 (match_task.tc f g h j m q (.map 17) (.fn (.func 95) [] [.p 18 0,.p 19 0,.p 20 0]) t),.r 3 1 (map eI r.2.1),.map (Qn I I r.2.2.1),.r 4 1 (map JJ r.2.2.2.1),.map (Qn I I r.2.2.2.2),.map (Qn I (λx=>A.a (Ue.c x)) y),.c 128 [.p 12 0],.c 33 (CB.c B),.c 39 (CE.c E),.r 75 2 (map CX.c r.1)]):=by
  induction n with
  |zero=>exact λ_ _ _ _ _ _ _ _ _ _ _ _ _ _ _ _ _ _ _ _ _ _=>⟨nofun⟩
  |succ n ih=>exact Qb2 _ ih n
def K7(g:AA Int)(h:AA Int)(d:Int):AB (CG Int (CG Unit Int)):=(bif d<(AI g:Int) then AH (CJ g d) λj=>(bif (AI h:Int)<=d then AC (.d (.d 1))else AH (CJ h d) λm=>AH (Ky n j m) λf=>(bif (f != 0)then AC (.d (.d f))else AC (.k (i64.wrap (d+1)))))else AC (.d (.k ())))
def PQ(f:AA Int)(g:AA Int):AB Int:=AH (iter (K7 n f g) n 0:AB (CG Unit Int)) λh=>match h with|.k d=>(bif (AI f:Int)<(AI g:Int) then AC (-1)else AC 0)|.d d=>AC d
instance yM(d:AA Int)(f:AA Int):Ks (PQ n d f) 45 [.q 1 (map eI d),.q 1 (map eI f)] [] (λr=>I r):=KA func45
def Mp(d:CX)(f:CX):AB Int:=AH (PQ n d.BL f.BL) λg=>(bif (g != 0)then AC g else AC (i64.wrap (d.A8-f.A8)))
instance jf(d:CX)(f:CX):Ks (Mp n d f) 44 [.a (CX.c d),.a (CX.c f)] [] (λr=>I r):=KA func44
def OW(n:Nat)(g:(AA Int)×(AA CK)×(AA Ue)×(AA (Int×Ue))×Int)(d:(AA (Int×Int))×Int):AB (CG ((AA (Int×Int))×Int) (AA (Int×Int))):=(bif d.2<(AI g.1:Int) then AH (CJ g.1 d.2) λf=>AH (AC (Qm d.1 f 0)) λh=>AH (AC (QK d.1 f (i64.wrap (h+1)))) λj=>AC (.k (j,i64.wrap (d.2+1)))else AC (.d d.1))
def OF(n:Nat)(g:AA CN)(d:(AA (Int×Int))×Int):AB (CG ((AA (Int×Int))×Int) (AA (Int×Int))):=(bif d.2<(AI g:Int) then AH (CJ g d.2) λf=>AH (AC (Qm d.1 f.Al 0)) λh=>AH (AC (QK d.1 f.Al (i64.wrap (h+1)))) λj=>AC (.k (j,i64.wrap (d.2+1)))else AC (.d d.1))
def Kz(h:CB)(j:CE)(G:AP)(H:Int)(f:AA CN)(J:AA Ae):AB ((AA CX)×Int):=AH (K0 n h j G H f J) λL=>(match L with|.c0 m=>((bif (m != 0)then AC ([],m)else AF))|.c1 d=>(AH (iter (OW n d) n ([],0):AB (AA (Int×Int))) λq=>AH (iter (OF n f) n ([],0):AB (AA (Int×Int))) λt=>AH (LF n [(-1)] (AI d.1:Int)) λB=>AH (mk (AI f:Int) AD) λE=>AH (Ms n) λM=>AH (J1 n 0 ({DT with Bn:=(-1):Uh}) AD (-1) ([]:AA CX) h (AI d.1:Int) B f E h j d.1 d.2.1 f d.2.2.1 d.2.2.2.2 q t d.2.2.2.1 h j) λg=>(bif 64<(AI g.1:Int) then AC ([],2)else(bif ((AI g.1:Int)==0)then AC ([],190)else AH (L8 (λx y=>Mp n x y) g.1) λF=>AC (F,0)))))
instance vh(d:CB)(g:CE)(V:AP)(a4:Int)(B:AA CN)(a6:AA Ae):Kq (Kz n d g V a4 B a6) 9 [.a (CB.c d),.a (CE.c g),.a (AP.c V),I a4,.q 5 (map CN.c B),.q 4 (map Ae.c a6)] [] (λr=>.t [.o 0 (AI r.1) 2,I r.2]) (λr=>[.r 75 2 (map CX.c r.1),.c 55 [.o 0 (AI r.1) 2]]):=by
 refine Kg 5 func9 Z Z Z Z λr h=>vH (D9.box Z Z Z Z Z) ?_;refine Fg 12 Z Z (Bd h λr1 am h=>?_);refine Qg [] (C8.fn call35 Z Z Z) (oJ _ _ _ _ _ _ _ _ am) ?_;intro ra rH h2;rcases r1 with W|f
 .obtain⟨rfl,rfl⟩:=h2;refine Fg 15 Z Z (Cn Z h (λ_ h=>?_) (λ_ h=>?_))
  .refine Gc 9 Z ?_;obtain rfl:=Oi h;refine⟨[(12,.p 1 0),(13,I (([],W).2))],[.r 75 2 (map CX.c (([],W).1)),.c 55 [.o 0 (AI (([],W).1)) 2]],_,?_,QI Z Z (C6.cons (YB isAgg55 Z Z) (C6.cons Dy.tmp C6.nil)),Z,Z⟩;refine En (Yb (i:=4) (m:=0) (t:=75) (k:=2) Z Z Z) ?_;exact Lr [7,4]
  refine Gc 3 Z ?_;cases h
 .obtain⟨rfl,rfl⟩:=h2;refine aV (.t [.p 5 0,I 0]) [.c 33 (CB.c d),.c 39 (CE.c g),.c 41 (AP.c V),.c 42 [.q 5 (map CN.c B)],.c 55 [.n],.c 136 [.str d.An,.q 2 (map Al.c d.Av),.q 4 (map Cr.c d.A4),.q 5 (map AN.c d.AO),.q 2 (map Aw.c d.Ap),.q 4 (map AZ.c d.Ab),.q 3 (map AW.c d.AV),.q 4 (map CQ.c d.A3),.q 8 (map AY.enc d.BN),I d.AQ.A_,I d.AQ.A7,I d.AQ.A6,I d.AQ.Ak,I d.AQ.BC,I d.Bk,I d.Az,.q 3 (map CD.c g.AS),.q 1 (map (Qu 1 eI) g.BP),.q 1 (map eI f.1),.o 6 (AI f.2.1) 2,.q 5 (map CN.c B),.o 7 (AI f.2.2.1) 3,.map 8,.fn (.func 95) [] [.p 9 0,.p 10 0,.p 11 0],I f.2.2.2.2],.r 83 2 (map CK.c f.2.1),.r 145 3 (map Ue.c f.2.2.1),.map (Qn I (λx=>A.a (Ue.c x)) f.2.2.2.1),.c 128 [.p 5 0],.c 33 (CB.c d),.c 39 (CE.c g)] Z Z ?_;refine Go 12 Z ?_;refine vX (.b AD) (CT.neq (m:=0) (n:=0) Z Z Z) ?_;refine Go 11 Z (Lg 6 Z Z (vH Yj ?_));refine Fg 11 Z Z (Lg 3 Z Z (Bd h λL ao h=>Ct L [0,1,2,3,4,5,6,7,8,9,10,11,12,13] [6] (λ_=>[(10,.p 1 0),(12,.p 2 0),(14,.p 3 0),(15,.p 11 0),(16,.p 12 0)]) (λL=>[(1,.c 42 [.q 5 (map CN.c B)]),(2,.c 55 [.n]),(3,.c 128 [.p 4 0]),(4,.c 136 [.str d.An,.q 2 (map Al.c d.Av),.q 4 (map Cr.c d.A4),.q 5 (map AN.c d.AO),.q 2 (map Aw.c d.Ap),.q 4 (map AZ.c d.Ab),.q 3 (map AW.c d.AV),.q 4 (map CQ.c d.A3),.q 8 (map AY.enc d.BN),I d.AQ.A_,I d.AQ.A7,I d.AQ.A6,I d.AQ.Ak,I d.AQ.BC,I d.Bk,I d.Az,.q 3 (map CD.c g.AS),.q 1 (map (Qu 1 eI) g.BP),.q 1 (map eI f.1),.o 5 (AI f.2.1) 2,.q 5 (map CN.c B),.o 6 (AI f.2.2.1) 3,.map 7,.fn (.func 95) [] [.p 8 0,.p 9 0,.p 10 0],I f.2.2.2.2]),(5,.r 83 2 (map CK.c f.2.1)),(6,.r 145 3 (map Ue.c f.2.2.1)),(7,.map (Qn I (λx=>A.a (Ue.c x)) f.2.2.2.1)),(8,.c 128 [.p 4 0]),(9,.c 33 (CB.c d)),(10,.c 39 (CE.c g)),(11,.c 3 [I (AI f.1:Int)]),(12,.c 137 [.map 13]),(13,.map (Qn I I L))]) Zf ?_ (λenv H aq=>?_)))
  .refine G0 1 Z (Lp [0,3,4,12,5,6,7,8,9,10,11,13,15,14] [6,10,12,14,15,16,48,49] (λG=>[(50,I G.2)]) (λG=>[(3,.c 128 [.p 4 0]),(4,.c 136 [.str d.An,.q 2 (map Al.c d.Av),.q 4 (map Cr.c d.A4),.q 5 (map AN.c d.AO),.q 2 (map Aw.c d.Ap),.q 4 (map AZ.c d.Ab),.q 3 (map AW.c d.AV),.q 4 (map CQ.c d.A3),.q 8 (map AY.enc d.BN),I d.AQ.A_,I d.AQ.A7,I d.AQ.A6,I d.AQ.Ak,I d.AQ.BC,I d.Bk,I d.Az,.q 3 (map CD.c g.AS),.q 1 (map (Qu 1 eI) g.BP),.q 1 (map eI f.1),.o 5 (AI f.2.1) 2,.q 5 (map CN.c B),.o 6 (AI f.2.2.1) 3,.map 7,.fn (.func 95) [] [.p 8 0,.p 9 0,.p 10 0],I f.2.2.2.2]),(8,.c 128 [.p 4 0]),(12,.c 137 [.map 13]),(13,.map (Qn I I G.1))]) ao Zf (Lr [0,3,4,12,5,6,7,8,9,10,11,13,15,14]) λG ax j X=>?_);refine G0 6 Z (Q8 Z j (λ_ j=>?_) (λ_ j=>?_))
   .exact Gc 2 Z (QH j (Gx 1 Z (DW X j (Lr [0,1,2,3,4,5,6,7,8,9,10,11,12,13]))))
   refine Gc 6 Z (Bd j λP aa j=>Iz aa Z (Go 7 Z (Bd j λQ ab j=>?_)));refine vX (I Q) (Q7 (ev:=I) (z0:=0) (k:=P) (l:=G.1) YM ab EK EV Eo) ?_;refine Go 1 Z (Bd j λay ac j=>?_);refine vU (Yf (ev:=I) (k:=P) (v:=(i64.wrap (Q+1))) (l:=G.1) YM ac Z EK) ?_;exact au j
  refine Gx 1 Z (Ee aq (Gc 2 Z (vH Yj ?_)));refine Fg 8 Z Z (Lg 3 Z Z (Bd h λM ar h=>Cg M [0,1,2,3,4,5,6,7,8,9,10,11,12,13,14,15] [6,10,12,14,15,16] (λ_=>[(19,.p 14 0)]) (λM=>[(14,.c 137 [.map 15]),(15,.map (Qn I I M))]) Zf ?_ ?_))
  .refine G0 1 Z (Lp [0,1,2,3,4,5,6,7,8,9,10,11,12,13,15,14] [6,10,12,14,15,16,19,60,61] (λJ=>[(62,I J.2)]) (λJ=>[(14,.c 137 [.map 15]),(15,.map (Qn I I J.1))]) ar Zf (Lr [0,1,2,3,4,5,6,7,8,9,10,11,12,13,15,14]) λJ az q ad=>?_);refine G0 6 Z (Q8 Z q (λ_ q=>?_) (λ_ q=>?_))
   .exact Gc 2 Z (QH q (Gx 1 Z (DW ad q (Lr [0,1,2,3,4,5,6,7,8,9,10,11,12,13,14,15]))))
   refine Gc 6 Z (Bd q λR af q=>Iz af Z (Go 9 Z (Bd q λT ag q=>?_)));refine vX (I T) (Q7 (ev:=I) (z0:=0) (k:=R.Al) (l:=J.1) YM ag EK EV Eo) ?_;refine Go 1 Z (Bd q λba ah q=>?_);refine vU (Yf (ev:=I) (k:=R.Al) (v:=(i64.wrap (T+1))) (l:=J.1) YM ah Z EK) ?_;exact au q
  refine Gc 9 Z (vH (Ek (xs:=[.const (.int .i64 (-1))]) (es:=map eI [(-1)]) QF Z Z Z Z Z ⟨Z,trivial⟩ Z Z) ?_);refine Fg 1 Z Z ?_;refine Et (Yl [(73,_)] Z Z (Cx.cons Z Ep Cx.nil) (Ec (Ec (Ec (Ec (Ec (Ec (Ec (Ec (Ec (Ec (Ec (Ec (Ec (Ec (Ec (Ec (Ec (Ec (QU _)))))))))))))))))))) ?_;refine Cd [] h Kc Z λN av h=>Fg 7 Z Z (Lm Z (Bd h λO ai h=>vH (lK (e:=JJ) (zv:=AD) (a:=(.b AD)) ai X? E7 ZR.bool Z Z Z Z) ?_));refine Fg 16 Z Z (Hn 2 [1] [(0,0,1),(1,0,0)] (by kernel_rfl) ?_);refine KR (lo:=0) (x:=.fn (.func 38) [] [.p 2 0,.p 16 0,.p 0 0,.p 11 0,.p 3 0,.p 19 0,.p 12 0,.p 22 0,.p 1 0,.p 21 0,.p 14 0]) ⟨Z,trivial⟩ ?_;obtain⟨bb,aj,h⟩:=QE h;refine Ex (x:=.a [I (-1),I 0,I 0,I 0,I 0]) (X1:=[.c 33 (CB.c d),.c 42 [.q 5 (map CN.c B)],.c 55 [.n],.c 128 [.p 4 0],.c 136 [.str d.An,.q 2 (map Al.c d.Av),.q 4 (map Cr.c d.A4),.q 5 (map AN.c d.AO),.q 2 (map Aw.c d.Ap),.q 4 (map AZ.c d.Ab),.q 3 (map AW.c d.AV),.q 4 (map CQ.c d.A3),.q 8 (map AY.enc d.BN),I d.AQ.A_,I d.AQ.A7,I d.AQ.A6,I d.AQ.Ak,I d.AQ.BC,I d.Bk,I d.Az,.q 3 (map CD.c g.AS),.q 1 (map (Qu 1 eI) g.BP),.q 1 (map eI f.1),.o 5 (AI f.2.1) 2,.q 5 (map CN.c B),.o 6 (AI f.2.2.1) 3,.map 7,.fn (.func 95) [] [.p 8 0,.p 9 0,.p 10 0],I f.2.2.2.2],.r 83 2 (map CK.c f.2.1),.r 145 3 (map Ue.c f.2.2.1),.map (Qn I (λx=>A.a (Ue.c x)) f.2.2.2.1),.c 128 [.p 4 0],.c 33 (CB.c d),.c 39 (CE.c g),.c 3 [I (AI f.1:Int)],.c 137 [.map 13],.map (Qn I I L),.c 137 [.map 15],.map (Qn I I M),.c 140 [.fn (.func 36) [] [.p 14 0,.p 12 0]],.dead,.r 3 1 (map eI N),.c 73 [.o 18 (AI N) 1],.r 4 1 (map JJ O),.c 142 [.o 20 (AI O) 1],.c 143 [.fn (.func 38) [] [.p 2 0,.p 16 0,.p 0 0,.p 11 0,.p 3 0,.p 19 0,.p 12 0,.p 22 0,.p 1 0,.p 21 0,.p 14 0]],.c 147 [I (-1),I 0,I 0,I 0,I 0]]) ?_ ?_
  .refine Qg [] (C8.fn call42 Z Z Z) ((jl _).c _ aj) ?_;rintro _ _ ⟨rfl,rfl⟩;exact FE Z Wp
  refine DK.done Z Z ?_;refine Et (Yb (i:=2) (m:=0) (t:=75) (k:=2) Z Z Z) ?_;refine N7 (H:=[.c 33 (CB.c d),.c 42 [.q 5 (map CN.c B)],.c 55 [.o 24 (AI ([]:AA CX)) 2],.c 128 [.p 4 0],.c 136 [.str d.An,.q 2 (map Al.c d.Av),.q 4 (map Cr.c d.A4),.q 5 (map AN.c d.AO),.q 2 (map Aw.c d.Ap),.q 4 (map AZ.c d.Ab),.q 3 (map AW.c d.AV),.q 4 (map CQ.c d.A3),.q 8 (map AY.enc d.BN),I d.AQ.A_,I d.AQ.A7,I d.AQ.A6,I d.AQ.Ak,I d.AQ.BC,I d.Bk,I d.Az,.q 3 (map CD.c g.AS),.q 1 (map (Qu 1 eI) g.BP),.q 1 (map eI f.1),.o 5 (AI f.2.1) 2,.q 5 (map CN.c B),.o 6 (AI f.2.2.1) 3,.map 7,.fn (.func 95) [] [.p 8 0,.p 9 0,.p 10 0],I f.2.2.2.2],.r 83 2 (map CK.c f.2.1),.r 145 3 (map Ue.c f.2.2.1),.map (Qn I (λx=>A.a (Ue.c x)) f.2.2.2.1),.c 128 [.p 4 0],.c 33 (CB.c d),.c 39 (CE.c g),.c 3 [I (AI f.1:Int)],.c 137 [.map 13],.map (Qn I I L),.c 137 [.map 15],.map (Qn I I M),.c 140 [.fn (.func 36) [] [.p 14 0,.p 12 0]],.dead,.r 3 1 (map eI N),.c 73 [.o 18 (AI N) 1],.r 4 1 (map JJ O),.c 142 [.o 20 (AI O) 1],.c 143 [.fn (.func 38) [] [.p 2 0,.p 16 0,.p 0 0,.p 11 0,.p 3 0,.p 19 0,.p 12 0,.p 22 0,.p 1 0,.p 21 0,.p 14 0]],.c 147 [I (-1),I 0,I 0,I 0,I 0],.r 75 2 (map CX.c ([]:AA CX))]) Z ?_;refine Et (Yl (i:=5) [] Z Z Cx.nil (Ec (Ec (Ec (Ec (Dm.cells (CW.k (CW.k (CW.k (CW.k (CW.k (CW.k (CW.k (CW.k (CW.k (CW.k (CW.k (CW.k (CW.k (CW.k (CW.k (CW.k (CW.k (CW.k (CW.k (Ed Ep (Ej _))))))))))))))))))))) (Ec (QU _)))))))) ?_;refine Et (Yl (i:=6) [] Z Z Cx.nil (Ec (Ec (Ec (Ec (Dm.cells (CW.k (CW.k (CW.k (CW.k (CW.k (CW.k (CW.k (CW.k (CW.k (CW.k (CW.k (CW.k (CW.k (CW.k (CW.k (CW.k (CW.k (CW.k (CW.k (CW.k (CW.k (Ed Ep (Ej _))))))))))))))))))))))) (Ec (Ec (QU _))))))))) ?_;refine Cd [2,16,0,11,3,19,12,22,1,21,14,24,4,18,13,20,15,7,8,9,10] h Kc Z λE aw h=>?_;refine N8 (x:=(.t [])) (H:=[.c 33 (CB.c d),.c 42 [.q 5 (map CN.c B)],.c 55 [.o 25 (AI E.1) 2],.c 128 [.p 4 0],.c 136 (match_task.tc d g f.1 f.2.1 B f.2.2.1 (.map 7) (.fn (.func 95) [] [.p 8 0,.p 9 0,.p 10 0]) f.2.2.2.2),.dead,.dead,.map (Qn I (λx=>A.a (Ue.c x)) f.2.2.2.1),.c 128 [.p 4 0],.c 33 (CB.c d),.c 39 (CE.c g),.c 3 [I (AI f.1:Int)],.c 137 [.map 13],.map (Qn I I E.2.2.1),.c 137 [.map 15],.map (Qn I I E.2.2.2.2),.c 140 [.fn (.func 36) [] [.p 14 0,.p 12 0]],.dead,.r 3 1 (map eI E.2.1),.c 73 [.o 18 (AI E.2.1) 1],.r 4 1 (map JJ E.2.2.2.1),.c 142 [.o 20 (AI E.2.2.2.1) 1],.c 143 [.fn (.func 38) [] [.p 2 0,.p 16 0,.p 0 0,.p 11 0,.p 3 0,.p 19 0,.p 12 0,.p 22 0,.p 1 0,.p 21 0,.p 14 0]],.c 147 [I (-1),I 0,I 0,I 0,I 0],.dead,.r 75 2 (map CX.c E.1)]) Z (by simp only[Q9,Vj,Vk,List.set_cons_succ,List.set_cons_zero,VJ,Vh];rfl) ?_;refine Go 10 Z (Cn Z h (λ_ h=>?_) (λ_ h=>?_))
  .refine Gc 8 Z ?_;obtain rfl:=Oi h;refine⟨[(12,.p 1 0),(13,I (([],2).2))],[.r 75 2 (map CX.c (([],2).1)),.c 55 [.o 0 (AI (([],2).1)) 2]],_,?_,QI Z Z (C6.cons (YB isAgg55 Z Z) (C6.cons Dy.tmp C6.nil)),Z,Z⟩;refine En (Yb (i:=2) (m:=0) (t:=75) (k:=2) Z Z Z) ?_;exact Lr [26,2]
  refine Gc 10 Z (Cn Z h (λ_ h=>?_) (λ_ h=>?_))
  .refine Gc 8 Z ?_;obtain rfl:=Oi h;refine⟨[(12,.p 1 0),(13,I (([],190).2))],[.r 75 2 (map CX.c (([],190).1)),.c 55 [.o 0 (AI (([],190).1)) 2]],_,?_,QI Z Z (C6.cons (YB isAgg55 Z Z) (C6.cons Dy.tmp C6.nil)),Z,Z⟩;refine En (Yb (i:=2) (m:=0) (t:=75) (k:=2) Z Z Z) ?_;exact Lr [26,2]
  refine Gc 5 Z (Bd h λbc F h=>?_);refine Qg [25] (C8.fn call43 Z Z Z) (qI (enc:=CX.c) QhA F (λx y c h=>(jf n x y).c c h) isAgg75 sizeOf75 call44 Zf Z) ?_;rintro _ _ ⟨rfl,rfl⟩;refine FE Z ?_;refine Et (QZ (s:=83) Z (congrArg (λn=>A.s 25 0 n 2) (dy F))) ?_;refine Et (QZ (s:=86) Z (congrArg (λn=>A.s 25 0 n 2) (dy F))) ?_;refine Et (QZ (s:=89) Z (congrArg (λn=>A.s 25 0 n 2) (dy F))) ?_;refine Et (S1 (i:=2) Z (congrArg (λnz=>CU.cells 55 [.o 25 nz 2]) (dy F))) ?_;exact au h
def J4(d:Ui):AB (Ui×Int):=AH (MC n d.Ar d.Ad.AN d.BV) λf=>AH ((bif (f.2 != 0)then AC AE else(bif d.As<(-1) then AC AE else AC (AG ((AI f.1:Int)<=d.As)))):AB Bool) λh=>(bif h then AC (d,90)else AH ((bif (d.As==(-1))then AC ({d with As:=i64.wrap ((AI f.1:Int)-1):Ui})else AC d):AB Ui) λg=>AC (g,0))
instance zP(g:Ui):Kq (J4 n g) 32 [.p 0 0] [.c 123 (Ui.c g)] (λr=>I r.2) (λr=>[.c 123 (Ui.c r.1)]):=by
 refine Kg 6 func32 Z Z Z Z λr h=>DU 18 Z (D 13 Z ?_);obtain⟨j,m,h⟩:=QE h;refine DS.wo (x:=.t [.q 1 (map eI j.1),I j.2]) ?_ ?_
 .refine Qg [] (C8.fn call82 Z Z Z) ((oI _ _ _ _).c _ m) ?_;rintro _ _ ⟨rfl,rfl⟩;exact FE Z Wp
 refine D 4 Z (Eg Z (Go 5 Z (Bd h λf B h=>(Ct f [0] [0,3] (λf=>[(39,.b f)]) Ze Zf ?_ (λenv H q=>?_)))))
 .exact au B
 refine Gx 1 Z (Ee q (Cn Z h (λ_ h=>?_) (λ_ h=>?_)))
 .exact au h
 refine Gc 12 Z (Bd h λd y h=>Cg d [0] [] Ze (λd=>[(0,.c 123 (Ui.c d))]) Zf ?_ ?_)
 .exact au y
 exact au h
def UZ(n:Nat)(h:AA CF)(j:Int)(d:Int×Int×Bool×Int):AB (CG (Int×Int×Bool×Int) (Int×Int×Bool)):=(bif d.2.2.2<(AI h:Int) then AH (CJ h d.2.2.2) λf=>AH ((bif f.AT<=j then(bif d.2.2.1 then AC (i64.wrap (d.1+f.BX),i64.wrap (d.2.1+f.Ax),AE)else AC (i64.wrap (d.1+f.BX),i64.wrap (d.2.1+f.Ax),f.BM))else AC (d.1,d.2.1,d.2.2.1)):AB (Int×Int×Bool)) λg=>AC (.k (g.1,g.2.1,g.2.2,i64.wrap (d.2.2.2+1)))else AC (.d (d.1,d.2.1,d.2.2.1)))
def KB(f:AA CF)(g:Int):AB (Int×Int×Bool):=AH (iter (UZ n f g) n (0,0,AD,0):AB (Int×Int×Bool)) λd=>AC (d.1,d.2.1,d.2.2)
instance zW(F:AA CF)(G:Int):Ks (KB n F G) 83 [.q 4 (map CF.c F),I G] [] (λr=>.t [I r.1,I r.2.1,.b r.2.2]):=by
 refine Kg 11 func83 Z Z Z Z λr h=>Lg 3 Z Z (Bd h λq J h=>Cg q [] [] (λq=>[(4,I q.1),(5,I q.2.1),(6,.b q.2.2)]) Ze Zf ?_ ?_)
 .refine G0 1 Z (Lp [] [1,9,10] (λd=>[(4,I d.1),(5,I d.2.1),(6,.b d.2.2.1),(11,I d.2.2.2)]) Ze J Zf (Lr []) λd M g x=>?_);refine G0 6 Z (Q8 Z g (λ_ g=>?_) (λ_ g=>?_))
  .exact Gc 2 Z (QH g (Gx 1 Z (DW x g (Lr []))))
  refine Gc 6 Z (Bd g λf B g=>Iz B Z (Go 13 Z (Bd g λt m g=>Ct t [] [1,9,10,11] (λt=>[(4,I t.1),(5,I t.2.1),(6,.b t.2.2)]) Ze Zf ?_ (λenv H L=>?_))))
  .refine G0 0 Z (Cn Z m (λ_ m=>?_) (λ_ m=>?_))
   .refine If m (λj m=>?_) (λj m=>?_)
    .refine TC.draw0 15 [19,20,21,22,23,24,25,26,27,28,29,30,31,4,5] [I d.1,.p 0 1,I f.BX,I (i64.wrap (d.1+f.BX)),I d.2.1,.p 0 2,I f.Ax,I (i64.wrap (d.2.1+f.Ax)),.b d.2.2.1,.b d.2.2.1,.t [],.t [],.b AE,I (i64.wrap (d.1+f.BX)),I (i64.wrap (d.2.1+f.Ax))] DF Z Z Z ?_ ?_
     .refine Oq.c ?_ (ov (ov (Oq.c ?_ (Oq.c ?_ (ov (ov (Oq.c ?_ (ov (ov (Oq.c ?_ (Oq.c ?_ (Oq.c ?_ (ov (ov (Oq.n)))))))))))))))
      .refine Om Z (sP 13 sN) ?_;exact S Z Wp
      .refine Om Z (sD 0 (sD 2 sN)) ?_;exact S Z Wp
      .refine Om Z (sP 14 sN) ?_;exact S Z Wp
      .refine Om Z (sD 4 (sD 6 sN)) ?_;exact S Z Wp
      .refine Om Z (sO 8 (sD 9 sN)) ?_;exact K (gF j) Z Wp
      .refine Om Z (sD 9 (sD 10 sN)) ?_;exact K (gF j) Z Wp
      .refine Om Z (sD 9 (sD 11 sN)) ?_;exact Pk j Z Wp
     exact Gl 2 Z m []
    .refine TC.draw0 15 [19,20,21,22,23,24,25,26,27,28,29,30,31,4,5] [I d.1,.p 0 1,I f.BX,I (i64.wrap (d.1+f.BX)),I d.2.1,.p 0 2,I f.Ax,I (i64.wrap (d.2.1+f.Ax)),.b d.2.2.1,.b d.2.2.1,.p 0 3,.b f.BM,.b f.BM,I (i64.wrap (d.1+f.BX)),I (i64.wrap (d.2.1+f.Ax))] DF Z Z Z ?_ ?_
     .refine Oq.c ?_ (ov (ov (Oq.c ?_ (Oq.c ?_ (ov (ov (Oq.c ?_ (ov (ov (Oq.c ?_ (Oq.c ?_ (Oq.c ?_ (ov (ov (Oq.n)))))))))))))))
      .refine Om Z (sP 13 sN) ?_;exact S Z Wp
      .refine Om Z (sD 0 (sD 2 sN)) ?_;exact S Z Wp
      .refine Om Z (sP 14 sN) ?_;exact S Z Wp
      .refine Om Z (sD 4 (sD 6 sN)) ?_;exact S Z Wp
      .refine Om Z (sO 8 (sD 9 sN)) ?_;exact H7 (gT j) QqB Z Wp
      .refine Om Z (sD 9 (sD 10 sN)) ?_;exact Ldg (gT j) isAgg4 Z Wp
      .refine Om Z (sD 9 (sD 11 sN)) ?_;exact Pk j Z Wp
     exact Gl 2 Z m []
   exact au m
  exact Gx 2 Z (Ee L (Gc 4 Z (Q1 g (Lr []))))
 exact au h
def Ia(n:Nat):AB Unit:=AC ()
instance ZC:Kq (Ia n) 53 [] [] (λ_=>.a [.b AE,I (-1),I 0,I 0]) (λ_=>[.c 77 [.b AE,I (-1),I 0,I 0]]):=KA func53
def LC(f:Ui):AB (AA CC):=AH (KB n f.BY f.As) λd=>(bif d.2.2 then AH (Ia n) λg=>AC [{BM:=AE,BS:=(-1),Lo:=0,Hi:=0:CC}]else AH (Ia n) λh=>AC [{BM:=AE,BS:=(-1),Lo:=0,Hi:=0:CC},{BM:=AD,BS:=(-1),Lo:=i64.wrap (d.1-2199023255552),Hi:=i64.wrap (d.1+2199023255552):CC}])
instance zM(d:Ui):Kq (LC n d) 33 [.a (Ui.c d)] [] (λr=>.o 0 (AI r) 4) (λr=>[.r 77 4 (map CC.c r)]):=KA func33
def fN(n:Nat)(d:AA Int):AB Unit:=AC ()
instance v9(d:AA Int):Kq (fN n d) 221 [.a [.q 1 (map eI d),.nilm]] [] (λ_=>.fn (.func 281) [] [.p 0 0]) (λ_=>[.c 284 [.q 1 (map eI d),.nilm]]):=KA func221
def nV(n:Nat)(h:AA Int)(d:(AA (Int×Int))×Int):AB ((AA (Int×Int))×CG ((AA (Int×Int))×Int) Unit):=(bif d.2<(AI h:Int) then AH (CJ h d.2) λf=>AH (AC (Qm d.1 f 0)) λj=>AH (AC (QK d.1 f (i64.wrap (j+1)))) λg=>AH (AC (Qm g f 0)) λm=>yl (d.2,m) (AC ([],.k (g,i64.wrap (d.2+1))))else AC ([],.d ()))
def fY(d:AA Int):AB ((AA (Int×Int))×Unit):=ap (L9 (nV n d) n ([],0)) λf=>AC ([],())
theorem jM(B:AA Int)(p:(AA (Int×Int))×Unit)(h:fY n B=AC p):RY prog 281 [.p 0 0] [.c 284 [.q 1 (map eI B),.nilm]] (λx=>[I x.1,I x.2]) R' p.1:=by
 obtain⟨xs,u⟩:=p;refine uK func281 Z Z Z Z ?_;intro X hE hN;refine Zy 1 Z (Cy.lf (G0 1 Z (vH Yj ?_)));refine Fg 2 Z Z ?_;refine H6 2 Z (Cy.lf (G0 3 Z (Lg 2 Z Z ?_)));obtain⟨M,E,F,G,J,rfl⟩:=o6 h;rw[Vi];refine qu E (F++[]) [0] [0] Ze Ze Zf ?_ (λenv H N=>?_)
 .refine Zy 1 Z (pB [0,1] [0,3,8,9] (λf=>[(10,I f.2)]) (λf=>[(1,.map (Qn I I f.1))]) G Zf (Lr [0,1]) λf O P Q d g=>?_);refine Zy 1 Z (Cy.lf (G0 3 Z ?_));refine H6 2 Z (Cy.lf (G0 0 Z (Q8 Z d (λ_ d=>?_) (λ_ d=>?_))))
  .refine Gc 1 Z (H6 1 Z ?_);obtain⟨rfl,rfl,rfl⟩:=Oy g d;exact pi (H6 1 Z (o7 (Lr [0])))
  refine Gc 1 Z (H6 4 Z (Cy.lf ?_));refine G0 2 Z (Bd d λR m d=>Iz m Z (Go 4 Z (H6 2 Z (Cy.lf ?_))));refine G0 3 Z (Bd d λT q d=>(vV (Q7 YM q EK EV Eo) ?_));refine Go 1 Z (Bd d λV t d=>(vU (Yf YM t Z EK) ?_));refine Fg 1 Z Z (H6 7 Z ?_);refine FT.step (Bd d λW y d=>?_);refine vV (Q7 YM y EK EV Eo) (WO.nil ⟨Z,?_⟩);obtain⟨Y,L,rfl⟩:=oz d;refine pC hE hN Z Z Z Z Z Z ?_ ?_
  .refine ij 3 Z (Cy.lf ?_);refine G0 2 Z (H6 2 Z (Cy.lf ?_));exact G0 4 Z (H6 0 Z (pN L (Lr [0,1])))
  .exact ij 7 Z (pO (H6 1 Z (o8 (⟨.inr Z,.inr ⟨_,Z⟩⟩))))
 cases J;exact⟨.inl Z,.inl Z⟩
def We(n:Nat)(d:AA Int)(f:AA (Ub×Cr)):AB Unit:=AC ()
instance w5(d:AA Int)(f:AA (Ub×Cr)):Kq (We n d f) 221 [.a [.q 1 (map eI d),.map 0]] [.map (Qn (λx=>A.a (Ub.c x)) (λx=>A.a (Cr.c x)) f)] (λ_=>.fn (.func 281) [] [.p 1 0]) (λ_=>[.map (Qn (λx=>A.a (Ub.c x)) (λx=>A.a (Cr.c x)) f),.c 284 [.q 1 (map eI d),.map 0]]):=KA func221
def J2(n:Nat)(h:AA Int)(d:(AA (Int×Int))×Int):AB ((AA (Int×Int))×CG ((AA (Int×Int))×Int) Unit):=(bif d.2<(AI h:Int) then AH (CJ h d.2) λf=>AH (AC (Qm d.1 f 0)) λj=>AH (AC (QK d.1 f (i64.wrap (j+1)))) λg=>AH (AC (Qm g f 0)) λm=>yl (d.2,m) (AC ([],.k (g,i64.wrap (d.2+1))))else AC ([],.d ()))
def Mq(d:AA Int)(g:AA (Ub×Cr)):AB ((AA (Int×Int))×Unit):=ap (L9 (J2 n d) n ([],0)) λf=>AC ([],())
theorem jg(B:AA Int)(E:AA (Ub×Cr))(p:(AA (Int×Int))×Unit)(h:Mq n B E=AC p):RY prog 281 [.p 0 0] [.c 284 [.q 1 (map eI B),.map 1],.map (Qn (λx=>A.a (Ub.c x)) (λx=>A.a (Cr.c x)) E)] (λx=>[I x.1,I x.2]) R' p.1:=by
 obtain⟨xs,u⟩:=p;refine uK func281 Z Z Z Z ?_;intro X hE hN;refine Zy 1 Z (Cy.lf (G0 1 Z (vH Yj ?_)));refine Fg 2 Z Z (H6 2 Z (Cy.lf ?_));refine G0 3 Z (Lg 2 Z Z ?_);obtain⟨N,F,G,J,L,rfl⟩:=o6 h;rw[Vi];refine qu F (G++[]) [0,1] [0] Ze Ze Zf ?_ (λenv H O=>?_)
 .refine Zy 1 Z ?_;refine pB [0,1,2] [0,3,8,9] (λf=>[(10,I f.2)]) (λf=>[(2,.map (Qn I I f.1))]) J Zf (Lr [0,1,2]) λf P Q R d g=>(Zy 1 Z (Cy.lf ?_));refine G0 3 Z (H6 2 Z (Cy.lf ?_));refine G0 0 Z (Q8 Z d (λ_ d=>?_) (λ_ d=>?_))
  .refine Gc 1 Z (H6 1 Z ?_);obtain⟨rfl,rfl,rfl⟩:=Oy g d;exact pi (H6 1 Z (o7 (Lr [0,1])))
  refine Gc 1 Z (H6 4 Z (Cy.lf ?_));refine G0 2 Z (Bd d λT m d=>Iz m Z (Go 4 Z ?_));refine H6 2 Z (Cy.lf (G0 3 Z (Bd d λV q d=>?_)));refine vV (Q7 YM q EK EV Eo) (Go 1 Z (Bd d λW t d=>?_));refine vU (Yf YM t Z EK) (Fg 1 Z Z ?_);refine H6 7 Z (FT.step ?_);refine Bd d λY y d=>(vV (Q7 YM y EK EV Eo) ?_);refine WO.nil ⟨Z,?_⟩;obtain⟨aa,M,rfl⟩:=oz d;refine pC hE hN Z Z Z Z Z Z ?_ ?_
  .refine ij 3 Z (Cy.lf ?_);refine G0 2 Z (H6 2 Z (Cy.lf ?_));exact G0 4 Z (H6 0 Z (pN M (Lr [0,1,2])))
  .exact ij 7 Z (pO (H6 1 Z (o8 (⟨.inr Z,.inr ⟨_,Z⟩⟩))))
 cases L;exact⟨.inl Z,.inl Z⟩
def nR(n:Nat)(h:Int)(j:Int)(m:Unit)(d:Int×Int):AB (CG Unit (Int×Int)):=AH (AH (CJ [] d.1) λf=>(bif (f==h)then AC (d.2==j)else AC AD):AB Bool) λg=>(bif g then AC (.d (d.1,0))else AC (.k ()))
def MH(n:Nat)(h:Int)(j:Int)(m:(AA Int)×(AA (Ub×Cr)))(q:Unit)(d:Int×Int):AB (CG Unit (Int×Int)):=AH (AH (CJ m.1 d.1) λf=>(bif (f==h)then AC (d.2==j)else AC AD):AB Bool) λg=>(bif g then AC (.d (d.1,0))else AC (.k ()))
def Pe(x:CB)(y:Int)(B:Int)(h:Int)(j:Int):AB (Int×Int):=AH (Hm n x y B) λE=>(match E with|.c0 m=>((bif (m != 0)then AC (0,m)else AH (fN n []) λG=>AH (fY n ([]:AA Int)) λy9=>AH (Rb (nR n h j) y9.1 ():AB (CG Unit (Int×Int))) λq=>match q with|.k f=>(AC (0,90))|.d f=>AC f))|.c1 H=>(AC (0,90))|.c2 J=>(AC (0,2))|.c3 d=>(AH (We n d.1 d.2) λF=>AH (Mq n d.1 d.2) λy34=>AH (Rb (MH n h j d) y34.1 ():AB (CG Unit (Int×Int))) λt=>match t with|.k g=>(AC (0,90))|.d g=>AC g))
instance yZ(g:CB)(R:Int)(T:Int)(j:Int)(q:Int):Kq (Pe n g R T j q) 146 [.a (CB.c g),I R,I T,I j,I q] [] (λr=>.t [I r.1,I r.2]) (λr=>[.c 3 [I r.1],.c 52 [I r.2]]):=by
 refine Kg 14 func146 Z Z Z Z λr h=>Bd h λr1 V h=>?_;refine Qg [] (C8.fn call145 Z Z Z) (bH _ _ _ _ _ V) ?_;intro ra rH F;rcases r1 with G|x4|J|W
 .obtain⟨rfl,rfl⟩:=F;refine Fg 15 Z Z (Cn Z h (λ_ h=>?_) (λ_ h=>?_))
  .refine Gc 1 Z (Hn 2 [1] [(0,0,1),(1,0,0)] (by kernel_rfl) ?_);refine KR (lo:=0) (x:=I G) ⟨Z,trivial⟩ ?_;refine DK.un (X1:=[.c 33 (CB.c g),.c 3 [I j],.c 3 [I q],.c 3 [I 0],.c 52 [I G],.c 284 [.q 1 (map eI []),.nilm],.c 284 [.q 1 (map eI []),.nilm]]) ?_ ?_
   .refine vU (Ey Z Z Z EC Z Z Z Z Z Z Z) ?_;refine N7 (H:=[_,_,_,_,_,_,_]) Z ?_;exact Wp
   refine DK.done Z Z (Go 5 Z ?_);exact au h
  refine Gc 6 Z (Cd [] h Kc Z λr8 af h=>Fg 3 Z Z (Bd h λy9 hy9 h=>Bd h λag Y h=>?_));refine sa [7] (λ_=>[.c 33 (CB.c g),.c 3 [I j],.c 3 [I q],.c 3 [I 0],.c 52 [I G],.c 284 [.q 1 (map eI []),.nilm],.c 284 [.q 1 (map eI []),.nilm],.dead]) Y (jM _ _ _ hy9) Zf call281 Z Z Z Z (by decide) Z (Js Z) ?_ ?_
  .intro ah ai aj d L;refine G0 8 Z (And.intro Z ?_);refine G0 2 Z (Bd d λt y d=>Ct t [0,1,2,3,4,5,6,7] [10,11,13] (λt=>[(40,.b t)]) Ze Zf ?_ (λenv H aa=>?_))
   .refine G0 0 Z (DU 10 Z (D 3 Z ?_));obtain⟨ab,M,y⟩:=QE y;refine DS.wo (x:=.rp [I ab]) ?_ ?_
    .exact Ix M EB EC Z Wp
    exact au y
   refine Gx 1 Z (Ee aa (Cn Z d (λ_ d=>?_) (λ_ d=>?_)))
   .refine Gc 9 Z (qV d (Lw trivial) ?_);obtain rfl:=vF L d;exact au h
   exact Gc 2 Z (qU d (Lr [0,1,2,3,4,5,6,7]))
  rintro ak rfl;exact au h
 .obtain⟨rfl,rfl⟩:=F;refine Fg 12 Z Z ?_;refine vX (.b AE) (CT.neq (m:=90) (n:=0) Z Z Z) ?_;refine Go 4 Z (Hn 2 [1] [(0,0,1),(1,0,0)] (by kernel_rfl) ?_);refine KR (lo:=0) (x:=I 90) ⟨Z,trivial⟩ ?_;refine DK.un (X1:=[.c 33 (CB.c g),.c 3 [I j],.c 3 [I q],.c 3 [I 0],.c 52 [I 90],.c 284 [.q 1 (map eI []),.nilm],.c 284 [.q 1 (map eI []),.nilm]]) ?_ ?_
  .refine vU (Ey Z Z Z EC Z Z Z Z Z Z Z) ?_;refine N7 (H:=[_,_,_,_,_,_,_]) Z ?_;exact Wp
  refine DK.done Z Z (Go 5 Z ?_);exact au h
 .obtain⟨rfl,rfl⟩:=F;refine Fg 12 Z Z ?_;refine vX (.b AE) (CT.neq (m:=2) (n:=0) Z Z Z) ?_;refine Go 4 Z (Hn 2 [1] [(0,0,1),(1,0,0)] (by kernel_rfl) ?_);refine KR (lo:=0) (x:=I 2) ⟨Z,trivial⟩ ?_;refine DK.un (X1:=[.c 33 (CB.c g),.c 3 [I j],.c 3 [I q],.c 3 [I 0],.c 52 [I 2],.r 3 1 (map eI J),.c 284 [.o 5 (AI J) 1,.nilm],.c 284 [.o 5 (AI J) 1,.nilm]]) ?_ ?_
  .refine vU (Ey Z Z Z EC Z Z Z Z Z Z Z) ?_;refine N7 (H:=[_,_,_,_,_,_,_,_]) Z ?_;exact Wp
  refine DK.done Z Z (Go 5 Z ?_);exact au h
 .obtain⟨rfl,rfl⟩:=F;refine Go 12 Z ?_;refine vX (.b AD) (CT.neq (m:=0) (n:=0) Z Z Z) ?_;refine Go 9 Z ?_;refine Et (Yl [(15,_),(19,_),(20,_),(25,_)] Z Z (Cx.cons Z (DN.tup (Ed (DN.agg (Ed Ep (Ej _))) (Ej _))) (Cx.cons Z (DN.tup (Ed (DN.agg (Ed Ep (Ej _))) (Ej _))) (Cx.cons Z (DN.agg (Ed Ep (Ej _))) (Cx.cons Z (DN.agg (Ed Ep (Ej _))) Cx.nil)))) (Ec (Ec (Ec (Ec (Ec (Ec (Ec (Dm.cells (Ed Ep (Ej _)) (Dm.cells (Ed Ep (Ej _)) (QU _))))))))))) ?_;refine Cd [6] h Kc Z λal ae h=>Fg 3 Z Z (Bd h λy34 hy34 h=>Bd h λam ac h=>?_);refine sa [9,6] (λ_=>[.c 33 (CB.c g),.c 3 [I j],.c 3 [I q],.c 3 [I 0],.c 52 [I 0],.dead,.dead,.c 284 [.q 1 (map eI W.1),.map 6],.c 284 [.q 1 (map eI W.1),.map 6],.dead]) ac (jg _ _ _ _ hy34) Zf call281 Z Z Z Z (by decide) Z (Js Z) ?_ ?_
  .intro an ao aq f O;refine G0 8 Z (And.intro Z ?_);refine G0 2 Z (Bd f λB E f=>Cg B [0,1,2,3,4,5,6,7,8,9] [10,11,13] (λB=>[(40,.b B)]) Ze Zf ?_ ?_)
   .refine G0 0 Z (DU 10 Z (D 3 Z ?_));obtain⟨ad,P,E⟩:=QE E;refine DS.wo (x:=.rp [I ad]) ?_ ?_
    .exact Ix P EB EC Z Wp
    exact au E
   refine Cn Z f (λ_ f=>?_) (λ_ f=>?_)
   .refine Gc 9 Z (qV f (Lw trivial) ?_);obtain rfl:=vF O f;exact au h
   exact Gc 2 Z (qU f (Lr [0,1,2,3,4,5,6,7,8,9]))
  rintro ar rfl;exact au h
def Tb(n:Nat)(f:AA Int)(h:Int)(d:Int):AB (CG Int (CG Unit Int)):=(bif d<(AI f:Int) then AH (CJ f d) λg=>(bif (h==g)then AC (.d (.d d))else AC (.k (i64.wrap (d+1))))else AC (.d (.k ())))
def WM(f:AA Int)(g:Int):AB Int:=AH (iter (Tb n f g) n 0:AB (CG Unit Int)) λh=>match h with|.k d=>(AC (-1))|.d d=>AC d
instance wY(d:AA Int)(f:Int):Ks (WM n d f) 306 [.q 1 (map eI d),I f] [] (λr=>I r):=KA func306
def WG(d:AA Int)(f:Int):AB Bool:=AH (WM n d f) λg=>AC (AG (0<=g))
instance wS(d:AA Int)(f:Int):Ks (WG n d f) 272 [.q 1 (map eI d),I f] [] (λr=>.b r):=KA func272
def OL(h:AA CN)(j:CX)(d:Int×Int):AB (CG (Int×Int) Int):=(bif d.2<(AI h:Int) then AH (WG n j.BL d.2) λf=>AH ((bif (!f)then AC (i64.wrap (d.1+1))else AC d.1):AB Int) λg=>AC (.k (g,i64.wrap (d.2+1)))else AC (.d d.1))
def PN(f:AA CN)(g:CX):AB Int:=AH (iter (OL n f g) n (0,0):AB Int) λd=>AC d
instance yJ(t:AA CN)(x:CX):Ks (PN n t x) 192 [.q 5 (map CN.c t),.a (CX.c x)] [] (λr=>I r):=by
 refine Kg 10 func192 Z Z Z Z λr h=>Lg 3 Z Z (Bd h λf y h=>Cg f [] [] (λf=>[(4,I f)]) Ze Zf ?_ ?_)
 .refine G0 1 Z (Lp [0] [3,7] (λg=>[(4,I g.1),(8,I g.2)]) Ze y Zf (Lr [0]) λg G d m=>?_);refine G0 6 Z (Q8 Z d (λ_ d=>?_) (λ_ d=>?_))
  .exact Gc 2 Z (QH d (Gx 1 Z (DW m d (Lr []))))
  refine Gc 15 Z (Cz [] d Kc Z λJ F d=>Go 3 Z (Bd d λj B d=>Ct j [0] [3,7,8] (λj=>[(4,I j)]) Ze Zf ?_ (λenv H E=>?_)))
  .exact au B
  exact Gx 2 Z (Ee E (Gc 4 Z (Q1 d (Lr [0]))))
 exact au h
def Ha(m:CX)(M:CB)(N:CE)(H:AA Int)(O:AA CK)(q:AA CN)(a7:AA Ue)(P:Int)(Q:AA (Int×Ue))(J:CB)(L:CE)(d:(AA (Int×Bool))×Uh×Int):AB (CG ((AA (Int×Bool))×Uh×Int) (CG Unit Bool)):=(bif d.2.2<(AI m.BL:Int) then AH (AH (CJ m.BL d.2.2) λf=>AH ((bif (f != (-1))then AH ((bif f<0 then AC AE else(bif (AI q:Int)<=f then AC AE else AH (CJ q f) λt=>AH (CJ H d.2.2) λx=>(bif (t.Al != x)then AC AE else AH (AC (Qm d.1 f AD)) λy=>(bif y then AC AE else AC (AG (m.A8<d.2.2)))))):AB Bool) λB=>(bif B then AC (.d (.d (.d (.d AD))))else AH (AC (QK d.1 f AE)) λE=>AC (.k E))else AC (.k d.1)):AB (CG (AA (Int×Bool)) (CG ((AA (Int×Bool))×Uh) (CG ((AA (Int×Bool))×Uh×Int) (CG Unit Bool))))) λF=>match F with|.k g=>(bif m.A8<d.2.2 then AC (.k (g,d.2.1))else AH (IO n d.2.1 d.2.2 f M N H O q a7 P Q J L) λj=>(bif (!j.2)then AC (.d (.d (.d AD)))else AC (.k (g,j.1))))|.d g=>AC g:AB (CG ((AA (Int×Bool))×Uh) (CG ((AA (Int×Bool))×Uh×Int) (CG Unit Bool)))) λG=>match G with|.k h=>(AC (.k (h.1,h.2,i64.wrap (d.2.2+1))))|.d h=>AC h else AC (.d (.k ())))
def IQ(f:CX)(j:CB)(B:CE)(g:AA Int)(E:AA CK)(m:AA CN)(a7:AA Ue)(q:Int)(F:AA (Int×Ue))(t:CB)(x:CE):AB Bool:=AH ((bif ((AI f.BL:Int) != (AI g:Int))then AC AE else(bif f.A8<(-1) then AC AE else(bif (AI g:Int)<=f.A8 then AC AE else(bif f.A8<q then AC AE else AH (PN n m f) λy=>AC (AG (j.AQ.A7<y)))))):AB Bool) λG=>(bif G then AC AD else AH (Ms n) λH=>AH (iter (Ha n f j B g E m a7 q F t x) n ([],{DT with Bn:=(-1):Uh},0):AB (CG Unit Bool)) λh=>match h with|.k d=>(AC AE)|.d d=>AC d)
instance zo(a1:CX)(a2:CB)(a3:CE)(a4:AA Int)(a5:AA CK)(F:AA CN)(a7:AA Ue)(a8:Int)(a9:AA (Int×Ue))(ab:CB)(ac:CE):Ks (IQ n a1 a2 a3 a4 a5 F a7 a8 a9 ab ac) 118 [.p 0 0,.a (CX.c a1)] [.c 136 (match_task.tc a2 a3 a4 a5 F a7 (.map 1) (.fn (.func 95) [] [.p 2 0,.p 3 0,.p 4 0]) a8),.map (Qn I (λx=>A.a (Ue.c x)) a9),.c 128 [.p 0 0],.c 33 (CB.c ab),.c 39 (CE.c ac)] (λr=>.b r):=by
 refine Kg 6 func118 Z Z Z Z λr h=>TC.scope ?_;refine G0 6 Z (Lg 5 Z Z (Bd h λb6 h7 h=>Ct b6 [0,1,2,3,4,5] [0,3] (λb6=>[(55,.b b6)]) Ze Zf ?_ (λenv H aj=>?_)))
 .refine G0 0 Z (DU 38 Z (D 2 Z ?_));refine DS.wo (x:=I (AI a1.BL:Int)) ?_ ?_
  .exact m5 EB Z Wp
  exact au h7
 refine Gx 1 Z (Ee aj (Cn Z h (λ_ h=>?_) (λ_ h=>?_)))
 .exact au h
 refine Gc 4 Z (vH Yj ?_);refine Fg 5 Z Z (Cd [] h Kc Z λav an h=>Fg 5 Z Z (TC.label ?_));refine Gx 6 Z (Lg 3 Z Z (Bd h λae af h=>E_ (b:=ae) [0,1,2,3,4] [] Ze Ze Zf ?_ (λ_ ak=>?_)))
 .refine G0 1 Z (Lp [0,1,2,3,4,5,6,8] [0,3,6,7,59,60] (λm=>[(61,I m.2.2)]) (λm=>[(6,.map (Qn I A.b m.1)),(7,.c 147 (Uh.c m.2.1))]) af Zf (Lr [0,1,2,3,4,5,6,8]) λm ao j t=>?_);refine G0 6 Z (Q8 Z j (λ_ j=>?_) (λ_ j=>?_))
  .exact Je t j
  refine Gc 3 Z (Bd j λag f j=>E_ (b:=ag) [0,1,2,3,4,5,6,7] [0,3,6,7,59,60,61] Ze (λy=>[(6,.map (Qn I A.b y.1)),(7,.c 147 (Uh.c y.2))]) Zf ?_ (λy hb=>?_))
  .refine G0 4 Z (Bd f λG M f=>Iz M Z (Go 12 Z (Bd f λah g f=>E_ (b:=ah) [0,1,2,3,4,5,6,7] [0,3,6,7,8,9,59,60,61] Ze (λE=>[(6,.map (Qn I A.b E))]) Zf ?_ (λE hb=>?_))))
   .refine G0 0 Z (Cn Z g (λ_ g=>?_) (λ_ g=>?_))
    .refine Gc 2 Z (Bd g λB d g=>Cg B [0,1,2,3,4,5,6,7] [0,3,6,7,8,9,59,60,61] (λB=>[(107,.b B)]) Ze Zf ?_ ?_)
     .refine G0 0 Z (DU 38 Z (D 3 Z (DS.is 2 d Z Z Z (λ_ d=>?_) (λ_ d=>?_))))
      .exact au d
      .refine D 5 Z ?_;refine DS.v (x:=(I (AI F:Int))) (qt (e:=CN.c) (l:=F) ET) ?_ (hg:=(gT Z));refine D 3 Z (DS.is 11 d Z Z Z (λ_ d=>?_) (λ_ d=>?_))
       .exact au d
       .refine D 5 Z ?_;obtain⟨q,Q,d⟩:=QE d;refine DS.v (x:=(.rp [I q.Al,I q.Ah,I q.BB,I q.BQ,I q.A8])) (NB (e:=CN.c) (l:=F) (v:=q) Q ET Gd) ?_ (hg:=(gT Z));refine D 7 Z ?_;obtain⟨J,R,d⟩:=QE d;refine DS.v (x:=(.rp [I J])) (NB (e:=eI) (l:=a4) (v:=J) R EB EC) ?_ (hg:=(gT Z));refine D 4 Z (DS.is 29 d Z Z Z (λ_ d=>?_) (λ_ d=>?_))
        .exact au d
        .refine D 2 Z ?_;obtain⟨ai,V,d⟩:=QE d;refine DS.v (x:=(.b ai)) (Q7 (ev:=A.b) (z0:=AD) (k:=G) (l:=m.1) YM V underlying329 E7 ZR.bool) ?_ (hg:=(gT Z));exact au d
     refine Cn Z g (λ_ g=>?_) (λ_ g=>?_)
     .refine Gc 7 Z ?_;cases g;refine N4 (Gx 2 Z ?_);cases f;exact DX t j h
     refine Gc 5 Z (Bd g λaq X g=>?_);refine vU (Yf (ev:=A.b) (k:=G) (v:=AE) (l:=m.1) YM X Z underlying329) ?_;refine Fg 1 Z Z ?_;cases g;exact Ki Z (Lr [0,1,2,3,4,5,6,7])
    refine Gc 1 Z ?_;cases g;exact Ki Z (Lr [0,1,2,3,4,5,6,7])
   subst hb;refine Gc 9 Z (Cn Z f (λ_ f=>?_) (λ_ f=>?_))
   .refine Gc 3 Z ?_;cases f;exact Ki Z (Lr [0,1,2,3,4,5,6,7])
   refine Gc 13 Z (Cd [0,1,2,3,4] f Kc Z λar am f=>Fg 13 Z Z (Cn Z f (λ_ f=>?_) (λ_ f=>?_)))
   .refine Gc 7 Z ?_;cases f;exact DX t j h
   refine Gc 2 Z ?_;cases f;exact Ki Z (Lr [0,1,2,3,4,5,6,7])
  subst hb;exact au j
 subst ak;exact au h
def TX(h:CB)(j:CE)(q:AA CN)(a7:CX)(x:Int)(d:(AA Int)×(AA CK)×(AA Ue)×(AA (Int×Ue))×Int)(f:Int):AB (CG Int (CG Unit (Int×CK×Int))):=(bif 0<=f then AH (CJ a7.BL f) λt=>AH (Io n f t h j d.1 d.2.1 q d.2.2.1 d.2.2.2.2 d.2.2.2.1 h j) λg=>(bif g.2 then AH (KI n f x h j d.1 d.2.1 q d.2.2.1 d.2.2.2.2 d.2.2.2.1 h j) λm=>AC (.d (.d (g.1.Ai,{Lo:=i64.wrap (g.1.A'.Lo+m.Lo),Hi:=i64.wrap (g.1.A'.Hi+m.Hi):CK},0)))else AC (.k (i64.wrap (f-1))))else AC (.d (.k ())))
def UW(h:CB)(j:CE)(q:AA CN)(a7:CX)(x:Int)(d:(AA Int)×(AA CK)×(AA Ue)×(AA (Int×Ue))×Int)(f:Int):AB (CG Int (CG Unit (Int×CK×Int))):=(bif f<=a7.A8 then AH (CJ a7.BL f) λt=>AH (Io n f t h j d.1 d.2.1 q d.2.2.1 d.2.2.2.2 d.2.2.2.1 h j) λg=>(bif g.2 then AH (KI n x f h j d.1 d.2.1 q d.2.2.1 d.2.2.2.2 d.2.2.2.1 h j) λm=>AC (.d (.d (g.1.Ai,{Lo:=i64.wrap (g.1.A'.Lo-m.Hi),Hi:=i64.wrap (g.1.A'.Hi-m.Lo):CK},0)))else AC (.k (i64.wrap (f+1))))else AC (.d (.k ())))
def Hj(g:CB)(h:CE)(B:AP)(E:Int)(q:AA CN)(F:AA Ae)(a7:CX)(f:Int):AB (Int×CK×Int):=AH (K0 n g h B E q F) λG=>(match G with|.c0 t=>((bif (t != 0)then AC (0,{Lo:=0,Hi:=0:CK},t)else AF))|.c1 d=>(AH (IQ n a7 g h d.1 d.2.1 q d.2.2.1 d.2.2.2.2 d.2.2.2.1 g h) λH=>(bif (!H)then AC (0,{Lo:=0,Hi:=0:CK},190)else AH ((bif f<0 then AC AE else AC (AG (a7.A8<f))):AB Bool) λJ=>(bif J then AC (0,{Lo:=0,Hi:=0:CK},1)else AH (iter (TX n g h q a7 f d) n f:AB (CG Unit (Int×CK×Int))) λx=>match x with|.k j=>(AH (iter (UW n g h q a7 f d) n f:AB (CG Unit (Int×CK×Int))) λy=>match y with|.k m=>(AC ((-1),{Lo:=(-1099511627776),Hi:=1099511627776:CK},0))|.d m=>AC m)|.d j=>AC j))))
instance zy(g:CB)(q:CE)(F:AP)(W:Int)(G:AA CN)(X:AA Ae)(a7:CX)(Y:Int):Kq (Hj n g q F W G X a7 Y) 148 [.a (CB.c g),.a (CE.c q),.a (AP.c F),I W,.q 5 (map CN.c G),.q 4 (map Ae.c X),.a (CX.c a7),I Y] [] (λr=>.t [I r.1,.a [I r.2.1.Lo,I r.2.1.Hi],I r.2.2]) (λr=>[.c 83 [I r.2.1.Lo,I r.2.1.Hi]]):=by
 refine Kg 19 func148 Z Z Z Z λr h=>Bd h λr1 aa h=>?_;refine Qg [] (C8.fn call35 Z Z Z) (oJ _ _ _ _ _ _ _ _ aa) ?_;intro ra rH h2;rcases r1 with x3|j
 .obtain⟨rfl,rfl⟩:=h2;refine Fg 14 Z Z (Cn Z h (λ_ h=>?_) (λ_ h=>?_))
  .refine Gc 1 Z (Hn 4 [3] [(0,0,0),(0,0,1),(0,0,0),(1,0,0)] (by kernel_rfl) (Dk 3 Z ?_));refine DK.un (X1:=[.c 33 (CB.c g),.c 39 (CE.c q),.c 41 (AP.c F),.c 75 (CX.c a7),.c 83 [I 0,I 0],.c 128 [.nilp]]) ?_ ?_
   .refine vU (Ey Z Z Z Ge Z Z Z Z Z Z Z) ?_;refine N7 (H:=[_,_,_,_,_,_]) Z ?_;exact Wp
   refine DK.done Z Z (Go 5 Z ?_);exact au h
  refine Gc 4 Z ?_;cases h
 .obtain⟨rfl,rfl⟩:=h2;refine aV (.t [.p 5 0,I 0]) [.c 33 (CB.c g),.c 39 (CE.c q),.c 41 (AP.c F),.c 75 (CX.c a7),.c 83 [I 0,I 0],.c 136 [.str g.An,.q 2 (map Al.c g.Av),.q 4 (map Cr.c g.A4),.q 5 (map AN.c g.AO),.q 2 (map Aw.c g.Ap),.q 4 (map AZ.c g.Ab),.q 3 (map AW.c g.AV),.q 4 (map CQ.c g.A3),.q 8 (map AY.enc g.BN),I g.AQ.A_,I g.AQ.A7,I g.AQ.A6,I g.AQ.Ak,I g.AQ.BC,I g.Bk,I g.Az,.q 3 (map CD.c q.AS),.q 1 (map (Qu 1 eI) q.BP),.q 1 (map eI j.1),.o 6 (AI j.2.1) 2,.q 5 (map CN.c G),.o 7 (AI j.2.2.1) 3,.map 8,.fn (.func 95) [] [.p 9 0,.p 10 0,.p 11 0],I j.2.2.2.2],.r 83 2 (map CK.c j.2.1),.r 145 3 (map Ue.c j.2.2.1),.map (Qn I (λx=>A.a (Ue.c x)) j.2.2.2.1),.c 128 [.p 5 0],.c 33 (CB.c g),.c 39 (CE.c q)] Z Z ?_;refine Go 11 Z ?_;refine vX (.b AD) (CT.neq (m:=0) (n:=0) Z Z Z) ?_;refine Go 10 Z ?_;refine Et (Yl (i:=6) [] Z Z Cx.nil (Ec (Ec (Ec (Ec (Ec (Dm.cells (CW.k (CW.k (CW.k (CW.k (CW.k (CW.k (CW.k (CW.k (CW.k (CW.k (CW.k (CW.k (CW.k (CW.k (CW.k (CW.k (CW.k (CW.k (CW.k (Ed Ep (Ej _))))))))))))))))))))) (Ec (QU _))))))))) ?_;refine Et (Yl (i:=7) [] Z Z Cx.nil (Ec (Ec (Ec (Ec (Ec (Dm.cells (CW.k (CW.k (CW.k (CW.k (CW.k (CW.k (CW.k (CW.k (CW.k (CW.k (CW.k (CW.k (CW.k (CW.k (CW.k (CW.k (CW.k (CW.k (CW.k (CW.k (CW.k (Ed Ep (Ej _))))))))))))))))))))))) (Ec (Ec (QU _)))))))))) ?_;refine Cz [5,8,9,10,11] h Kc Z λr6 ao h=>Go 3 Z (Cn Z h (λ_ h=>?_) (λ_ h=>?_))
  .exact au h
  refine Gc 4 Z (Bd h λM ad h=>Ct M [3,4,5,8,9,10,11] [7,14,17,19] (λM=>[(54,.b M)]) (λ_=>[(2,.c 136 (match_task.tc g q j.1 j.2.1 G j.2.2.1 (.map 3) (.fn (.func 95) [] [.p 4 0,.p 5 0,.p 6 0]) j.2.2.2.2)),(4,.c 128 [.p 2 0])]) Zf ?_ (λenv H t=>?_))
  .exact au ad
  refine Gx 1 Z (Ee t (Cn Z h (λ_ h=>?_) (λ_ h=>?_)))
  .exact au h
  refine Gc 9 Z (Bd h λae af h=>Fe (b:=ae) [0,1,2,3,4,5,6] [7,14,17,19] Ze Ze Zf ?_ (λai env H y t=>?_))
  .refine G0 1 Z (Lp [0,1,2,3,4,5,6] [7,14,17,19] (λJ=>[(20,I J)]) Ze af Zf (Lr [0,1,2,3,4,5,6]) λJ aq f B=>?_);refine G0 7 Z (Q8 Z f (λ_ f=>?_) (λ_ f=>?_))
   .exact Je B f
   refine Gc 11 Z (Bd f λar P f=>Iz P Z (Go 1 Z (Cd [2,3,4,5,6] f Kc Z λav aj f=>Fg 13 Z Z (Cn Z f (λ_ f=>?_) (λ_ f=>?_)))))
   .refine Gc 5 Z (Cd [2,3,4,5,6] f Kc Z λaw ak f=>Fg 5 Z Z (DU 16 Z (D 16 Z (Eg Z (Go 7 Z (JV f ?_))))));obtain rfl:=Oj B f;refine Gx 1 Z (N4 (Gx 1 Z ?_));exact au h
   exact au f
  subst y;refine Gx 1 Z (Ee t (Gc 7 Z (Bd h λag ah h=>E_ (b:=ag) [1] [17] Ze Ze Zf ?_ (λ_ y=>?_))))
  .refine G0 1 Z (Lp [0,1,2,3,4,5,6] [7,14,17,19] (λL=>[(24,I L)]) Ze ah Zf (Lr [0,1,2,3,4,5,6]) λL ax d E=>?_);refine G0 9 Z (Q8 Z d (λ_ d=>?_) (λ_ d=>?_))
   .exact Gc 2 Z (QH d (Gx 1 Z (oT E d Z (Lr [1]))))
   refine Gc 11 Z (Bd d λay T d=>Iz T Z (Go 1 Z (Cd [2,3,4,5,6] d Kc Z λaz am d=>Fg 13 Z Z (Cn Z d (λ_ d=>?_) (λ_ d=>?_)))))
   .refine Gc 5 Z (Cd [2,3,4,5,6] d Kc Z λba an d=>Fg 5 Z Z (DU 16 Z (D 16 Z (Eg Z (Go 7 Z (JV d ?_))))));obtain rfl:=Oj E d;refine Gx 1 Z (N4 (Gx 1 Z ?_));obtain rfl:=Oi h;exact Rx [1] [16,17,18] Z (QI Z Z (C6.cons Dy.tmp (C6.cons (Yi isAgg83 Ge Z Z Z) (C6.cons Dy.tmp C6.nil)))) ⟨Z,Z⟩
   exact Gc 8 Z (Q1 d (Lr [0,1,2,3,4,5,6]))
  subst y;exact au h
def G6(d:Ui)(g:CX)(h:Int):AB (Int×CK):=AH (Hj n d.Ar d.Bj d.Ad d.BV d.Bw d.Bm g h) λf=>AC (f.1,{Lo:=f.2.1.Lo,Hi:=f.2.1.Hi:CK})
instance _H(f:Ui)(g:CX)(j:Int):Kq (G6 n f g j) 85 [.a (Ui.c f),.a (CX.c g),I j] [] (λr=>.t [I r.1,.a [I r.2.Lo,I r.2.Hi]]) (λr=>[.c 83 [I r.2.Lo,I r.2.Hi]]):=by
 refine Kg 24 func85 Z Z Z Z λr h=>Cd [] h Kc Z λd m h=>Fg 9 Z Z (TC.draw0 3 [27,28,6] [I d.1,.a [I d.2.1.Lo,I d.2.1.Hi],I d.1] DF Z Z Z ?_ ?_)
 .refine Oq.c ?_ (ov (ov (Oq.n)))
  .exact Om Z (sP 2 sN) (S Z Wp)
 exact au h
def MX(n:Nat)(g:CE)(f:Int)(d:CK):AB CK:=(bif (f==(-1))then AC ({Lo:=d.Lo,Hi:=d.Hi:CK})else AH (CJ g.BP (i64.wrap (f+1))) λh=>AH (CJ h 0) λj=>AH (CJ g.BP 0) λm=>AH (CJ m (i64.wrap (f+1))) λq=>AC ({Lo:=i64.wrap (d.Lo-j),Hi:=i64.wrap (d.Hi+q):CK}))
instance yt(f:CE)(g:Int)(d:CK):Kq (MX n f g d) 65 [.a (CE.c f),I g,.a [I d.Lo,I d.Hi]] [] (λr=>.a [I r.Lo,I r.Hi]) (λr=>[.c 83 [I r.Lo,I r.Hi]]):=by
 refine Kg 14 func65 Z Z Z Z λr h=>Cn Z h (λ_ h=>?_) (λ_ h=>?_)
 .exact au h
 refine Gc 10 Z (DU 20 Z (D 5 Z ?_));obtain⟨B,m,h⟩:=QE h;refine DS.wo (x:=.rp [.q 1 (map eI B)]) ?_ ?_
 .exact Ix m EG EO Z Wp
 refine D 1 Z ?_;obtain⟨E,q,h⟩:=QE h;refine DS.wo (x:=.rp [I E]) ?_ ?_
 .exact Ix q EB EC Z Wp
 refine D 6 Z ?_;obtain⟨F,t,h⟩:=QE h;refine DS.wo (x:=.rp [.q 1 (map eI F)]) ?_ ?_
 .exact Ix t EG EO Z Wp
 refine D 2 Z ?_;obtain⟨G,y,h⟩:=QE h;refine DS.wo (x:=.rp [I G]) ?_ ?_
 .exact Ix y EB EC Z Wp
 exact au h
def He(n:Nat)(d:Ui):AB Int:=AH (CJ d.Ar.Ap d.Ad.Aw) λf=>AC f.Bv
instance zu(d:Ui):Ks (He n d) 147 [.a (Ui.c d)] [] (λr=>I r):=KA func147
def JZ(g:Ui)(G:CX)(F:AN)(d:Bool×Bool×Int):AB (CG (Bool×Bool×Int) (Bool×Bool)):=(bif d.2.2<(AI F.Aq:Int) then AH (AH (CJ F.Aq d.2.2) λf=>AH (Pe n g.Ar g.Ad.AN g.BV f.Al f.B_) λh=>AH ((bif (h.2 != 0)then AC AE else AC (AG (g.As<h.1))):AB Bool) λt=>(bif t then AC (d.1,d.2.1)else AH (G6 n g G h.1) λj=>AH (MX n g.Bj j.1 ({Lo:=j.2.Lo,Hi:=j.2.Hi:CK})) λm=>AH ((bif d.1 then AC AE else AH (He n g) λx=>AC (AG (f.Bu<(i64.wrap (m.Lo-x))))):AB Bool) λy=>AH ((bif d.2.1 then AC AE else AH (He n g) λB=>AC (AG (f.Bu<(i64.wrap (m.Hi-B))))):AB Bool) λE=>AC (y,E)):AB (Bool×Bool)) λq=>AC (.k (q.1,q.2,i64.wrap (d.2.2+1)))else AC (.d (d.1,d.2.1)))
def Iq(f:Ui)(g:CX):AB (Bool×Bool):=AH (CJ f.Ar.AO f.Ad.AN) λh=>AH (iter (JZ n f g h) n (AD,AD,0):AB (Bool×Bool)) λd=>AC (d.1,d.2)
instance zh(N:Ui)(O:CX):Ks (Iq n N O) 84 [.a (Ui.c N),.a (CX.c O)] [] (λr=>.t [.b r.1,.b r.2]):=by
 refine Kg 16 func84 Z Z Z Z λr h=>Bd h λx1 P h=>Iz P Z (Go 10 Z (Lg 3 Z Z (Bd h λx Q h=>Cg x [] [] (λx=>[(4,.b x.1),(5,.b x.2)]) Ze Zf ?_ ?_)))
 .refine G0 1 Z (Lp [0,1] [2,3,23,24] (λy=>[(4,.b y.1),(5,.b y.2.1),(25,I y.2.2)]) Ze Q Zf (Lr [0,1]) λy ab f F=>?_);refine G0 6 Z (Q8 Z f (λ_ f=>?_) (λ_ f=>?_))
  .exact Gc 2 Z (QH f (Gx 1 Z (DW F f (Lr []))))
  refine Gc 3 Z (Bd f λg d f=>Cg g [0,1] [2,3,23,24,25] (λg=>[(4,.b g.1),(5,.b g.2)]) Ze Zf ?_ ?_)
  .refine G0 3 Z (Bd d λW B d=>Iz B Z (Go 18 Z (Cd [] d Kc Z λX R d=>Fg 9 Z Z (Bd d λm J d=>Ct m [0,1,2] [2,3,4,5,8,9,23,24,25] (λm=>[(51,.b m)]) Ze Zf ?_ (λenv H j=>?_)))))
   .exact au J
   refine Gx 1 Z (Ee j (Cn Z d (λ_ d=>?_) (λ_ d=>?_)))
   .exact au d
   refine Gc 7 Z (Cd [] d Kc Z λY T d=>Fg 14 Z Z (Cd [] d Kc Z λaa V d=>Fg 5 Z Z (Bd d λq L d=>Ct q [0,1,2,6] [2,3,5,8,13,23,24,25] (λq=>[(4,.b q)]) Ze Zf ?_ (λenv H j=>?_))))
   .exact au L
   refine Gx 1 Z (Ee j (Bd d λt M d=>Ct t [0,1] [2,3,4,23,24,25] (λt=>[(5,.b t)]) Ze Zf ?_ (λenv H j=>?_)))
   .exact au M
   refine Gx 1 Z ?_;cases d;exact N5 (En j (Lr [0,1]))
  exact au f
 exact au h
def W7(n:Nat):AB Unit:=AC ()
instance gW:Kq (W7 n) 86 [] [] (λ_=>.a [.f 149,.f 149,.fn (.func 151) [] [.p 0 0],.f 153]) (λ_=>[.c 200 [.f 149],.c 201 [.f 149,.f 149,.fn (.func 151) [] [.p 0 0],.f 153]]):=by
 refine Kg 2 func86 Z Z Z Z λr h=>vH (eH (v:=(.a [.nilf,.nilf,.nilf,.nilf])) zeroValue201 (Fu Z)) ?_;refine Fg 13 Z Z (vV (Qh5 zeroValue201 (ZR.agg (zc ZR.nilf (zc ZR.nilf (zc ZR.nilf (zc ZR.nilf ZL.nil))))) EZ Gj Z) ?_);refine vU (Ey Z Z Z sizeOf201 Z Z Z Z Z Z Z) (Fg 3 Z Z ?_);exact Rx [1,0] [0] Z (JQ Z (Yi isAgg201 sizeOf201 Z Z Z)) ⟨Z,Z⟩
def V_(n:Nat)(d:Int):AB Unit:=AC ()
instance wL(d:Int):Kq (V_ n d) 150 [I d] [] (λ_=>.a [I d,I d]) (λ_=>[.c 83 [I d,I d]]):=KA func150
def Lc(f:Ui)(g:CX):AB CK:=AH (He n f) λd=>AH (V_ n d) λh=>AC ({Lo:=d,Hi:=d:CK})
instance oK(d:Ui)(f:CX):Kq (Lc n d f) 149 [.a (Ui.c d),.a (CX.c f)] [] (λr=>.a [I r.Lo,I r.Hi]) (λr=>[.c 83 [I r.Lo,I r.Hi]]):=KA func149
def Wm(n:Nat)(d:Ae):AB Unit:=AC ()
instance xC(d:Ae):Ks (Wm n d) 152 [.a (Ae.c d)] [] (λ_=>.b (d.AT==0)):=KA func152
def Ta(g:AA Ae)(d:Int):AB (CG Int (CG Unit Int)):=(bif d<(AI g:Int) then AH (CJ g d) λf=>AH (Wm n f) λh=>(bif (f.AT==0)then AC (.d (.d d))else AC (.k (i64.wrap (d+1))))else AC (.d (.k ())))
def Wj(g:AA Ae):AB Int:=AH (iter (Ta n g) n 0:AB (CG Unit Int)) λf=>match f with|.k d=>(AC (-1))|.d d=>AC d
instance w_(d:AA Ae):Ks (Wj n d) 161 [.q 4 (map Ae.c d),.f 152] [] (λr=>I r):=KA func161
def PS(d:AA Ae):AB Bool:=AH (Wj n d) λf=>AC (AG (0<=f))
instance yO(d:AA Ae):Ks (PS n d) 90 [.q 4 (map Ae.c d),.f 152] [] (λr=>.b r):=KA func90
def Mt(f:Ui)(g:CX):AB CK:=AH (PS n f.Bm) λj=>AH (AH (CJ g.BL 0) λm=>(bif m<0 then AC (!j)else AC AD):AB Bool) λq=>(bif q then AH (Lc n f g) λh=>AC ({Lo:=h.Lo,Hi:=h.Hi:CK})else AH (G6 n f g 0) λd=>AC ({Lo:=d.2.Lo,Hi:=d.2.Hi:CK}))
instance jo(d:Ui)(f:CX):Kq (Mt n d f) 151 [.a (Ui.c d),.a (CX.c f),.p 0 0] [.c 200 [.f 149]] (λr=>.a [I r.Lo,I r.Hi]) (λr=>[.c 200 [.f 149],.c 83 [I r.Lo,I r.Hi]]):=KA func151
def P3(d:Ui)(f:CX):AB Unit:=AH (V_ n d.Ad.BK) λg=>AC ()
instance je(d:Ui)(f:CX):Kq (P3 n d f) 153 [.a (Ui.c d),.a (CX.c f)] [] (λ_=>.a [I d.Ad.BK,I d.Ad.BK]) (λ_=>[.c 83 [I d.Ad.BK,I d.Ad.BK]]):=KA func153
def Hh(g:Ui)(h:CX):AB (AA CC):=AH (KB n g.BY g.As) λf=>AH ((bif h.A8<g.As then AC AE else AC f.2.2):AB Bool) λy=>(bif y then AH (Ia n) λM=>AC [{BM:=AE,BS:=(-1),Lo:=0,Hi:=0:CC}]else AH (Iq n g h) λx=>(bif x.1 then AH (Ia n) λB=>AC [{BM:=AE,BS:=(-1),Lo:=0,Hi:=0:CC}]else AH (G6 n g h g.As) λd=>AH (W7 n) λE=>AH (CJ g.Ar.AO g.Ad.AN) λj=>(bif (j.A9==0)then AH (Lc n g h) λm=>(bif x.2 then AH (Ia n) λF=>AC [{BM:=AE,BS:=(-1),Lo:=0,Hi:=0:CC},{BM:=AD,BS:=d.1,Lo:=i64.wrap ((i64.wrap (d.2.Lo-m.Hi))+f.1),Hi:=i64.wrap ((i64.wrap (d.2.Hi-m.Lo))+f.1):CC}]else AC [{BM:=AD,BS:=d.1,Lo:=i64.wrap ((i64.wrap (d.2.Lo-m.Hi))+f.1),Hi:=i64.wrap ((i64.wrap (d.2.Hi-m.Lo))+f.1):CC}])else(bif (j.A9==1)then AH (Lc n g h) λq=>(bif x.2 then AH (Ia n) λG=>AC [{BM:=AE,BS:=(-1),Lo:=0,Hi:=0:CC},{BM:=AD,BS:=d.1,Lo:=i64.wrap ((i64.wrap (d.2.Lo-q.Hi))+f.1),Hi:=i64.wrap ((i64.wrap (d.2.Hi-q.Lo))+f.1):CC}]else AC [{BM:=AD,BS:=d.1,Lo:=i64.wrap ((i64.wrap (d.2.Lo-q.Hi))+f.1),Hi:=i64.wrap ((i64.wrap (d.2.Hi-q.Lo))+f.1):CC}])else(bif (j.A9==2)then AH (Mt n g h) λt=>(bif x.2 then AH (Ia n) λH=>AC [{BM:=AE,BS:=(-1),Lo:=0,Hi:=0:CC},{BM:=AD,BS:=d.1,Lo:=i64.wrap ((i64.wrap (d.2.Lo-t.Hi))+f.1),Hi:=i64.wrap ((i64.wrap (d.2.Hi-t.Lo))+f.1):CC}]else AC [{BM:=AD,BS:=d.1,Lo:=i64.wrap ((i64.wrap (d.2.Lo-t.Hi))+f.1),Hi:=i64.wrap ((i64.wrap (d.2.Hi-t.Lo))+f.1):CC}])else(bif (j.A9==3)then AH (P3 n g h) λJ=>(bif x.2 then AH (Ia n) λL=>AC [{BM:=AE,BS:=(-1),Lo:=0,Hi:=0:CC},{BM:=AD,BS:=d.1,Lo:=i64.wrap ((i64.wrap (d.2.Lo-g.Ad.BK))+f.1),Hi:=i64.wrap ((i64.wrap (d.2.Hi-g.Ad.BK))+f.1):CC}]else AC [{BM:=AD,BS:=d.1,Lo:=i64.wrap ((i64.wrap (d.2.Lo-g.Ad.BK))+f.1),Hi:=i64.wrap ((i64.wrap (d.2.Hi-g.Ad.BK))+f.1):CC}])else AF))))))
instance zx(f:Ui)(q:CX):Kq (Hh n f q) 34 [.a (Ui.c f),.a (CX.c q)] [] (λr=>.o 0 (AI r) 4) (λr=>[.r 77 4 (map CC.c r)]):=by
 refine Kg 13 func34 Z Z Z Z λr h=>Cd [] h Kc Z λm af h=>Fg 11 Z Z (Bd h λQ h4 h=>Cg Q [0,1] [2,3,5] (λQ=>[(30,.b Q)]) Ze Zf ?_ ?_)
 .exact au h4
 refine Cn Z h (λ_ h=>?_) (λ_ h=>?_)
 .exact au h
 refine Gc 6 Z (Cd [] h Kc Z λr8 ag h=>Fg 13 Z Z (Cn Z h (λ_ h=>?_) (λ_ h=>?_)))
 .exact au h
 refine Gc 8 Z (Cd [] h Kc Z λd ae h=>Fg 9 Z Z ?_);obtain⟨ah,F,h⟩:=QE h;obtain⟨g,E,h⟩:=QE h;refine If h (λG h=>?_) (λG h=>?_)
 .obtain⟨t,M,h⟩:=QE h;refine Yv 15 1 [50,51,52,53,54,55,56,57,58,59,60,61,62,63,12] [AE,AD,AD,AD,AD,AD,AD,AD,AD,AD,AD,AD,AD,AE,AE] [[],[],[],[],[],[],[],[],[],[],[0],[],[],[0],[]] [[],[0],[14],[0,13],[0,14],[0,13,14]] [[(0,1),(2,4)],[(0,0),(1,1),(2,2),(4,4)],[(0,0),(1,1),(2,2),(4,4)],[(0,0),(1,1),(2,2),(4,4)],[(0,0),(1,1),(2,2),(4,4)],[(0,0),(1,1),(2,2),(4,4)],[(0,0),(1,1),(2,2),(4,4)],[(0,0),(1,1),(2,2),(4,4)],[(0,0),(1,1),(2,2),(4,4)],[(0,0),(1,1),(2,2),(4,4)],[(1,1),(4,4)],[(0,0),(1,1),(2,2),(4,4)],[(0,0),(1,1),(2,2),(4,4)],[(1,3),(4,5)],[(0,2),(1,4),(3,5)]] [.a [.f 149,.f 149,.fn (.func 151) [] [.p 5 0],.f 153],.p 0 0,.p 0 3,.q 5 (map AN.c f.Ar.AO),.p 0 18,.p 0 19,I f.Ad.AN,.rp [.str g.An,.q 3 (map CH.enc g.Af),I g.A9,.q 3 (map CO.c g.Aq),I g.Am],.rp [I g.A9,.q 3 (map CO.c g.Aq),I g.Am],I g.A9,.f 149,.a (Ui.c f),.a (CX.c q),.a [I t.Lo,I t.Hi],.p 4 0] [[.c 123 (Ui.c f),.c 75 (CX.c q),.c 83 [I d.2.Lo,I d.2.Hi],.c 83 [I d.2.Lo,I d.2.Hi],.dead],[.c 123 (Ui.c f),.c 75 (CX.c q),.c 83 [I d.2.Lo,I d.2.Hi],.c 83 [I d.2.Lo,I d.2.Hi],.dead,.c 200 [.f 149],.c 201 [.f 149,.f 149,.fn (.func 151) [] [.p 5 0],.f 153]],[.c 123 (Ui.c f),.c 75 (CX.c q),.c 83 [I d.2.Lo,I d.2.Hi],.c 83 [I d.2.Lo,I d.2.Hi],.c 83 [I 0,I 0]],[.c 123 (Ui.c f),.c 75 (CX.c q),.c 83 [I d.2.Lo,I d.2.Hi],.c 83 [I d.2.Lo,I d.2.Hi],.dead,.c 200 [.f 149],.c 201 [.f 149,.f 149,.fn (.func 151) [] [.p 5 0],.f 153],.c 83 [I t.Lo,I t.Hi]],[.c 123 (Ui.c f),.c 75 (CX.c q),.c 83 [I d.2.Lo,I d.2.Hi],.c 83 [I d.2.Lo,I d.2.Hi],.c 83 [I 0,I 0],.c 200 [.f 149],.c 201 [.f 149,.f 149,.fn (.func 151) [] [.p 5 0],.f 153]],[.c 123 (Ui.c f),.c 75 (CX.c q),.c 83 [I d.2.Lo,I d.2.Hi],.c 83 [I d.2.Lo,I d.2.Hi],.c 83 [I 0,I 0],.c 200 [.f 149],.c 201 [.f 149,.f 149,.fn (.func 151) [] [.p 5 0],.f 153],.c 83 [I t.Lo,I t.Hi]]] ([.c 123 (Ui.c f),.c 75 (CX.c q),.c 83 [I d.2.Lo,I d.2.Hi],.c 83 [I d.2.Lo,I d.2.Hi],.c 83 [I 0,I 0],.c 200 [.f 149],.c 201 [.f 149,.f 149,.fn (.func 151) [] [.p 5 0],.f 153],.c 83 [I t.Lo,I t.Hi]]) DF Z Z Z Z Z Z Z ?_ Z ?_
  .refine Cq.cons ?_ (M1 (M1 (M1 (M1 (M1 (M1 (Cq.cons ?_ (M1 (M1 (Cq.cons ?_ (M1 (M1 (Cq.cons ?_ (Cq.cons ?_ (Cq.nil)))))))))))))))
   .refine Qb ?_ (Qb ?_ (Qf))
    iterate 2 refine F9 Z sN ?_;refine Qg [] (C8.fn call86 Z Z Z) ((gW _).c _ F) ?_;rintro _ _ ⟨rfl,rfl⟩;exact FE Z Wp
   .refine Qb ?_ (Qb ?_ (Qb ?_ (Qb ?_ (Qf))))
    iterate 4 refine Om Z (sD 3 (sD 6 sN)) ?_;exact Ix E EJ EW Z Wp
   .refine Qb ?_ (Qb ?_ (Qf))
    iterate 2 refine Om Z (sD 0 (sD 9 sN)) ?_;refine vX (.f 149) (ig (i:=g.A9) (n:=4) (j:=0) G Z Z EZ GE Gj) ?_;exact Wp
   .refine Qb ?_ (Qb ?_ (Qf))
    iterate 2 refine F9 Z (sD 10 (sD 11 (sD 12 sN))) ?_;refine Qg [] (JR call149 Z Z Z Z) ((oK _ _ _).c _ M) ?_;rintro _ _ ⟨rfl,rfl⟩;exact FE Z Wp
   .refine Qb ?_ (Qb ?_ (Qb ?_ (Qf)))
    iterate 3 exact Jm.alloc _ 12 83 4 _ Z Z Z Z Z Z Z (JW.alloc (v:=(.a [I 0,I 0])) EI (Fu Z)) Z
  refine Go 31 Z (Cn Z h (λ_ h=>?_) (λ_ h=>?_))
  .refine Gc 1 Z (P7 2 0 [1,3] (by kernel_rfl) ?_);obtain⟨ai,T,h⟩:=QE h;refine DA.op (x:=.a [.b AE,I (-1),I 0,I 0]) (H1:=[.c 123 (Ui.c f),.c 75 (CX.c q),.c 83 [I d.2.Lo,I d.2.Hi],.c 83 [I d.2.Lo,I d.2.Hi],.c 83 [I t.Lo,I t.Hi],.c 200 [.f 149],.c 201 [.f 149,.f 149,.fn (.func 151) [] [.p 5 0],.f 153],.c 83 [I t.Lo,I t.Hi],.c 77 [.b AD,I d.1,I (i64.wrap ((i64.wrap (d.2.Lo-t.Hi))+m.1)),I (i64.wrap ((i64.wrap (d.2.Hi-t.Lo))+m.1))],.c 77 [.b AE,I (-1),I 0,I 0]]) ?_ ?_
   .refine Qg [] (C8.fn call53 Z Z Z) ((ZC _).c _ T) ?_;rintro _ _ ⟨rfl,rfl⟩;exact FE Z Wp
   refine DB.wo2 (x:=.a [.b AD,I d.1,I (i64.wrap ((i64.wrap (d.2.Lo-t.Hi))+m.1)),I (i64.wrap ((i64.wrap (d.2.Hi-t.Lo))+m.1))]) ?_ ?_ ?_
   iterate 2 refine vV (x:=(.a [.b AD,I d.1,I (i64.wrap ((i64.wrap (d.2.Lo-t.Hi))+m.1)),I (i64.wrap ((i64.wrap (d.2.Hi-t.Lo))+m.1))])) (Qt Z Gg EP Z (Dg.cells Z Z) Z Z) ?_;exact Wp
   refine DB.done Z (vH (Ek (xs:=[.tmp 81,.tmp 82]) (es:=map CC.c [{BM:=AE,BS:=(-1),Lo:=0,Hi:=0:CC},{BM:=AD,BS:=d.1,Lo:=i64.wrap ((i64.wrap (d.2.Lo-t.Hi))+m.1),Hi:=i64.wrap ((i64.wrap (d.2.Hi-t.Lo))+m.1):CC}]) Jf Z Z Z Z Z ⟨Z,Z,trivial⟩ Z Z) ?_);exact au h
  exact au h
 .refine If h (λH h=>?_) (λH h=>?_)
  .obtain⟨y,N,h⟩:=QE h;refine Yv 15 1 [50,51,52,53,54,55,56,57,58,59,60,61,62,63,12] [AE,AD,AD,AD,AD,AD,AD,AD,AD,AD,AD,AD,AD,AE,AE] [[],[],[],[],[],[],[],[],[],[],[0],[],[],[0],[]] [[],[0],[14],[0,13],[0,14],[0,13,14]] [[(0,1),(2,4)],[(0,0),(1,1),(2,2),(4,4)],[(0,0),(1,1),(2,2),(4,4)],[(0,0),(1,1),(2,2),(4,4)],[(0,0),(1,1),(2,2),(4,4)],[(0,0),(1,1),(2,2),(4,4)],[(0,0),(1,1),(2,2),(4,4)],[(0,0),(1,1),(2,2),(4,4)],[(0,0),(1,1),(2,2),(4,4)],[(0,0),(1,1),(2,2),(4,4)],[(1,1),(4,4)],[(0,0),(1,1),(2,2),(4,4)],[(0,0),(1,1),(2,2),(4,4)],[(1,3),(4,5)],[(0,2),(1,4),(3,5)]] [.a [.f 149,.f 149,.fn (.func 151) [] [.p 5 0],.f 153],.p 0 0,.p 0 3,.q 5 (map AN.c f.Ar.AO),.p 0 18,.p 0 19,I f.Ad.AN,.rp [.str g.An,.q 3 (map CH.enc g.Af),I g.A9,.q 3 (map CO.c g.Aq),I g.Am],.rp [I g.A9,.q 3 (map CO.c g.Aq),I g.Am],I g.A9,.f 149,.a (Ui.c f),.a (CX.c q),.a [I y.Lo,I y.Hi],.p 4 0] [[.c 123 (Ui.c f),.c 75 (CX.c q),.c 83 [I d.2.Lo,I d.2.Hi],.c 83 [I d.2.Lo,I d.2.Hi],.dead],[.c 123 (Ui.c f),.c 75 (CX.c q),.c 83 [I d.2.Lo,I d.2.Hi],.c 83 [I d.2.Lo,I d.2.Hi],.dead,.c 200 [.f 149],.c 201 [.f 149,.f 149,.fn (.func 151) [] [.p 5 0],.f 153]],[.c 123 (Ui.c f),.c 75 (CX.c q),.c 83 [I d.2.Lo,I d.2.Hi],.c 83 [I d.2.Lo,I d.2.Hi],.c 83 [I 0,I 0]],[.c 123 (Ui.c f),.c 75 (CX.c q),.c 83 [I d.2.Lo,I d.2.Hi],.c 83 [I d.2.Lo,I d.2.Hi],.dead,.c 200 [.f 149],.c 201 [.f 149,.f 149,.fn (.func 151) [] [.p 5 0],.f 153],.c 83 [I y.Lo,I y.Hi]],[.c 123 (Ui.c f),.c 75 (CX.c q),.c 83 [I d.2.Lo,I d.2.Hi],.c 83 [I d.2.Lo,I d.2.Hi],.c 83 [I 0,I 0],.c 200 [.f 149],.c 201 [.f 149,.f 149,.fn (.func 151) [] [.p 5 0],.f 153]],[.c 123 (Ui.c f),.c 75 (CX.c q),.c 83 [I d.2.Lo,I d.2.Hi],.c 83 [I d.2.Lo,I d.2.Hi],.c 83 [I 0,I 0],.c 200 [.f 149],.c 201 [.f 149,.f 149,.fn (.func 151) [] [.p 5 0],.f 153],.c 83 [I y.Lo,I y.Hi]]] ([.c 123 (Ui.c f),.c 75 (CX.c q),.c 83 [I d.2.Lo,I d.2.Hi],.c 83 [I d.2.Lo,I d.2.Hi],.c 83 [I 0,I 0],.c 200 [.f 149],.c 201 [.f 149,.f 149,.fn (.func 151) [] [.p 5 0],.f 153],.c 83 [I y.Lo,I y.Hi]]) DF Z Z Z Z Z Z Z ?_ Z ?_
   .refine Cq.cons ?_ (M1 (M1 (M1 (M1 (M1 (M1 (Cq.cons ?_ (M1 (M1 (Cq.cons ?_ (M1 (M1 (Cq.cons ?_ (Cq.cons ?_ (Cq.nil)))))))))))))))
    .refine Qb ?_ (Qb ?_ (Qf))
     iterate 2 refine F9 Z sN ?_;refine Qg [] (C8.fn call86 Z Z Z) ((gW _).c _ F) ?_;rintro _ _ ⟨rfl,rfl⟩;exact FE Z Wp
    .refine Qb ?_ (Qb ?_ (Qb ?_ (Qb ?_ (Qf))))
     iterate 4 refine Om Z (sD 3 (sD 6 sN)) ?_;exact Ix E EJ EW Z Wp
    .refine Qb ?_ (Qb ?_ (Qf))
     iterate 2 refine Om Z (sD 0 (sD 9 sN)) ?_;refine vX (.f 149) (ig (i:=g.A9) (n:=4) (j:=1) H Z Z EZ GE Gj) ?_;exact Wp
    .refine Qb ?_ (Qb ?_ (Qf))
     iterate 2 refine F9 Z (sD 10 (sD 11 (sD 12 sN))) ?_;refine Qg [] (JR call149 Z Z Z Z) ((oK _ _ _).c _ N) ?_;rintro _ _ ⟨rfl,rfl⟩;exact FE Z Wp
    .refine Qb ?_ (Qb ?_ (Qb ?_ (Qf)))
     iterate 3 exact Jm.alloc _ 12 83 4 _ Z Z Z Z Z Z Z (JW.alloc (v:=(.a [I 0,I 0])) EI (Fu Z)) Z
   refine Go 31 Z (Cn Z h (λ_ h=>?_) (λ_ h=>?_))
   .refine Gc 1 Z (P7 2 0 [1,3] (by kernel_rfl) ?_);obtain⟨aj,W,h⟩:=QE h;refine DA.op (x:=.a [.b AE,I (-1),I 0,I 0]) (H1:=[.c 123 (Ui.c f),.c 75 (CX.c q),.c 83 [I d.2.Lo,I d.2.Hi],.c 83 [I d.2.Lo,I d.2.Hi],.c 83 [I y.Lo,I y.Hi],.c 200 [.f 149],.c 201 [.f 149,.f 149,.fn (.func 151) [] [.p 5 0],.f 153],.c 83 [I y.Lo,I y.Hi],.c 77 [.b AD,I d.1,I (i64.wrap ((i64.wrap (d.2.Lo-y.Hi))+m.1)),I (i64.wrap ((i64.wrap (d.2.Hi-y.Lo))+m.1))],.c 77 [.b AE,I (-1),I 0,I 0]]) ?_ ?_
    .refine Qg [] (C8.fn call53 Z Z Z) ((ZC _).c _ W) ?_;rintro _ _ ⟨rfl,rfl⟩;exact FE Z Wp
    refine DB.wo2 (x:=.a [.b AD,I d.1,I (i64.wrap ((i64.wrap (d.2.Lo-y.Hi))+m.1)),I (i64.wrap ((i64.wrap (d.2.Hi-y.Lo))+m.1))]) ?_ ?_ ?_
    iterate 2 refine vV (x:=(.a [.b AD,I d.1,I (i64.wrap ((i64.wrap (d.2.Lo-y.Hi))+m.1)),I (i64.wrap ((i64.wrap (d.2.Hi-y.Lo))+m.1))])) (Qt Z Gg EP Z (Dg.cells Z Z) Z Z) ?_;exact Wp
    refine DB.done Z (vH (Ek (xs:=[.tmp 81,.tmp 82]) (es:=map CC.c [{BM:=AE,BS:=(-1),Lo:=0,Hi:=0:CC},{BM:=AD,BS:=d.1,Lo:=i64.wrap ((i64.wrap (d.2.Lo-y.Hi))+m.1),Hi:=i64.wrap ((i64.wrap (d.2.Hi-y.Lo))+m.1):CC}]) Jf Z Z Z Z Z ⟨Z,Z,trivial⟩ Z Z) ?_);exact au h
   exact au h
  .refine If h (λJ h=>?_) (λJ h=>?_)
   .obtain⟨B,O,h⟩:=QE h;refine Yv 15 1 [50,51,52,53,54,55,56,57,58,59,60,61,62,63,12] [AE,AD,AD,AD,AD,AD,AD,AD,AD,AD,AD,AD,AD,AE,AE] [[],[],[],[],[],[],[],[],[],[],[0],[],[],[0],[]] [[],[0],[14],[0,13],[0,14],[0,13,14]] [[(0,1),(2,4)],[(0,0),(1,1),(2,2),(4,4)],[(0,0),(1,1),(2,2),(4,4)],[(0,0),(1,1),(2,2),(4,4)],[(0,0),(1,1),(2,2),(4,4)],[(0,0),(1,1),(2,2),(4,4)],[(0,0),(1,1),(2,2),(4,4)],[(0,0),(1,1),(2,2),(4,4)],[(0,0),(1,1),(2,2),(4,4)],[(0,0),(1,1),(2,2),(4,4)],[(1,1),(4,4)],[(0,0),(1,1),(2,2),(4,4)],[(0,0),(1,1),(2,2),(4,4)],[(1,3),(4,5)],[(0,2),(1,4),(3,5)]] [.a [.f 149,.f 149,.fn (.func 151) [] [.p 5 0],.f 153],.p 0 0,.p 0 3,.q 5 (map AN.c f.Ar.AO),.p 0 18,.p 0 19,I f.Ad.AN,.rp [.str g.An,.q 3 (map CH.enc g.Af),I g.A9,.q 3 (map CO.c g.Aq),I g.Am],.rp [I g.A9,.q 3 (map CO.c g.Aq),I g.Am],I g.A9,.fn (.func 151) [] [.p 5 0],.a (Ui.c f),.a (CX.c q),.a [I B.Lo,I B.Hi],.p 4 0] [[.c 123 (Ui.c f),.c 75 (CX.c q),.c 83 [I d.2.Lo,I d.2.Hi],.c 83 [I d.2.Lo,I d.2.Hi],.dead],[.c 123 (Ui.c f),.c 75 (CX.c q),.c 83 [I d.2.Lo,I d.2.Hi],.c 83 [I d.2.Lo,I d.2.Hi],.dead,.c 200 [.f 149],.c 201 [.f 149,.f 149,.fn (.func 151) [] [.p 5 0],.f 153]],[.c 123 (Ui.c f),.c 75 (CX.c q),.c 83 [I d.2.Lo,I d.2.Hi],.c 83 [I d.2.Lo,I d.2.Hi],.c 83 [I 0,I 0]],[.c 123 (Ui.c f),.c 75 (CX.c q),.c 83 [I d.2.Lo,I d.2.Hi],.c 83 [I d.2.Lo,I d.2.Hi],.dead,.c 200 [.f 149],.c 201 [.f 149,.f 149,.fn (.func 151) [] [.p 5 0],.f 153],.c 83 [I B.Lo,I B.Hi]],[.c 123 (Ui.c f),.c 75 (CX.c q),.c 83 [I d.2.Lo,I d.2.Hi],.c 83 [I d.2.Lo,I d.2.Hi],.c 83 [I 0,I 0],.c 200 [.f 149],.c 201 [.f 149,.f 149,.fn (.func 151) [] [.p 5 0],.f 153]],[.c 123 (Ui.c f),.c 75 (CX.c q),.c 83 [I d.2.Lo,I d.2.Hi],.c 83 [I d.2.Lo,I d.2.Hi],.c 83 [I 0,I 0],.c 200 [.f 149],.c 201 [.f 149,.f 149,.fn (.func 151) [] [.p 5 0],.f 153],.c 83 [I B.Lo,I B.Hi]]] ([.c 123 (Ui.c f),.c 75 (CX.c q),.c 83 [I d.2.Lo,I d.2.Hi],.c 83 [I d.2.Lo,I d.2.Hi],.c 83 [I 0,I 0],.c 200 [.f 149],.c 201 [.f 149,.f 149,.fn (.func 151) [] [.p 5 0],.f 153],.c 83 [I B.Lo,I B.Hi]]) DF Z Z Z Z Z Z Z ?_ Z ?_
    .refine Cq.cons ?_ (M1 (M1 (M1 (M1 (M1 (M1 (Cq.cons ?_ (M1 (M1 (Cq.cons ?_ (M1 (M1 (Cq.cons ?_ (Cq.cons ?_ (Cq.nil)))))))))))))))
     .refine Qb ?_ (Qb ?_ (Qf))
      iterate 2 refine F9 Z sN ?_;refine Qg [] (C8.fn call86 Z Z Z) ((gW _).c _ F) ?_;rintro _ _ ⟨rfl,rfl⟩;exact FE Z Wp
     .refine Qb ?_ (Qb ?_ (Qb ?_ (Qb ?_ (Qf))))
      iterate 4 refine Om Z (sD 3 (sD 6 sN)) ?_;exact Ix E EJ EW Z Wp
     .refine Qb ?_ (Qb ?_ (Qf))
      iterate 2 refine Om Z (sD 0 (sD 9 sN)) ?_;refine vX (.fn (.func 151) [] [.p 5 0]) (ig (i:=g.A9) (n:=4) (j:=2) J Z Z EZ GE Gj) ?_;exact Wp
     .refine Qb ?_ (Qb ?_ (Qf))
      iterate 2 refine F9 Z (sD 10 (sD 11 (sD 12 sN))) ?_;refine Qg [5] (JR call151 Z Z Z Z) ((jo _ _ _).c _ O) ?_;rintro _ _ ⟨rfl,rfl⟩;exact FE Z Wp
     .refine Qb ?_ (Qb ?_ (Qb ?_ (Qf)))
      iterate 3 exact Jm.alloc _ 12 83 4 _ Z Z Z Z Z Z Z (JW.alloc (v:=(.a [I 0,I 0])) EI (Fu Z)) Z
    refine Go 31 Z (Cn Z h (λ_ h=>?_) (λ_ h=>?_))
    .refine Gc 1 Z (P7 2 0 [1,3] (by kernel_rfl) ?_);obtain⟨ak,Y,h⟩:=QE h;refine DA.op (x:=.a [.b AE,I (-1),I 0,I 0]) (H1:=[.c 123 (Ui.c f),.c 75 (CX.c q),.c 83 [I d.2.Lo,I d.2.Hi],.c 83 [I d.2.Lo,I d.2.Hi],.c 83 [I B.Lo,I B.Hi],.c 200 [.f 149],.c 201 [.f 149,.f 149,.fn (.func 151) [] [.p 5 0],.f 153],.c 83 [I B.Lo,I B.Hi],.c 77 [.b AD,I d.1,I (i64.wrap ((i64.wrap (d.2.Lo-B.Hi))+m.1)),I (i64.wrap ((i64.wrap (d.2.Hi-B.Lo))+m.1))],.c 77 [.b AE,I (-1),I 0,I 0]]) ?_ ?_
     .refine Qg [] (C8.fn call53 Z Z Z) ((ZC _).c _ Y) ?_;rintro _ _ ⟨rfl,rfl⟩;exact FE Z Wp
     refine DB.wo2 (x:=.a [.b AD,I d.1,I (i64.wrap ((i64.wrap (d.2.Lo-B.Hi))+m.1)),I (i64.wrap ((i64.wrap (d.2.Hi-B.Lo))+m.1))]) ?_ ?_ ?_
     iterate 2 refine vV (x:=(.a [.b AD,I d.1,I (i64.wrap ((i64.wrap (d.2.Lo-B.Hi))+m.1)),I (i64.wrap ((i64.wrap (d.2.Hi-B.Lo))+m.1))])) (Qt Z Gg EP Z (Dg.cells Z Z) Z Z) ?_;exact Wp
     refine DB.done Z (vH (Ek (xs:=[.tmp 81,.tmp 82]) (es:=map CC.c [{BM:=AE,BS:=(-1),Lo:=0,Hi:=0:CC},{BM:=AD,BS:=d.1,Lo:=i64.wrap ((i64.wrap (d.2.Lo-B.Hi))+m.1),Hi:=i64.wrap ((i64.wrap (d.2.Hi-B.Lo))+m.1):CC}]) Jf Z Z Z Z Z ⟨Z,Z,trivial⟩ Z Z) ?_);exact au h
    exact au h
   .refine If h (λL h=>?_) (λL h=>?_)
    .obtain⟨al,P,h⟩:=QE h;refine Yv 15 1 [50,51,52,53,54,55,56,57,58,59,60,61,62,63,12] [AE,AD,AD,AD,AD,AD,AD,AD,AD,AD,AD,AD,AD,AE,AE] [[],[],[],[],[],[],[],[],[],[],[0],[],[],[0],[]] [[],[0],[14],[0,13],[0,14],[0,13,14]] [[(0,1),(2,4)],[(0,0),(1,1),(2,2),(4,4)],[(0,0),(1,1),(2,2),(4,4)],[(0,0),(1,1),(2,2),(4,4)],[(0,0),(1,1),(2,2),(4,4)],[(0,0),(1,1),(2,2),(4,4)],[(0,0),(1,1),(2,2),(4,4)],[(0,0),(1,1),(2,2),(4,4)],[(0,0),(1,1),(2,2),(4,4)],[(0,0),(1,1),(2,2),(4,4)],[(1,1),(4,4)],[(0,0),(1,1),(2,2),(4,4)],[(0,0),(1,1),(2,2),(4,4)],[(1,3),(4,5)],[(0,2),(1,4),(3,5)]] [.a [.f 149,.f 149,.fn (.func 151) [] [.p 5 0],.f 153],.p 0 0,.p 0 3,.q 5 (map AN.c f.Ar.AO),.p 0 18,.p 0 19,I f.Ad.AN,.rp [.str g.An,.q 3 (map CH.enc g.Af),I g.A9,.q 3 (map CO.c g.Aq),I g.Am],.rp [I g.A9,.q 3 (map CO.c g.Aq),I g.Am],I g.A9,.f 153,.a (Ui.c f),.a (CX.c q),.a [I f.Ad.BK,I f.Ad.BK],.p 4 0] [[.c 123 (Ui.c f),.c 75 (CX.c q),.c 83 [I d.2.Lo,I d.2.Hi],.c 83 [I d.2.Lo,I d.2.Hi],.dead],[.c 123 (Ui.c f),.c 75 (CX.c q),.c 83 [I d.2.Lo,I d.2.Hi],.c 83 [I d.2.Lo,I d.2.Hi],.dead,.c 200 [.f 149],.c 201 [.f 149,.f 149,.fn (.func 151) [] [.p 5 0],.f 153]],[.c 123 (Ui.c f),.c 75 (CX.c q),.c 83 [I d.2.Lo,I d.2.Hi],.c 83 [I d.2.Lo,I d.2.Hi],.c 83 [I 0,I 0]],[.c 123 (Ui.c f),.c 75 (CX.c q),.c 83 [I d.2.Lo,I d.2.Hi],.c 83 [I d.2.Lo,I d.2.Hi],.dead,.c 200 [.f 149],.c 201 [.f 149,.f 149,.fn (.func 151) [] [.p 5 0],.f 153],.c 83 [I f.Ad.BK,I f.Ad.BK]],[.c 123 (Ui.c f),.c 75 (CX.c q),.c 83 [I d.2.Lo,I d.2.Hi],.c 83 [I d.2.Lo,I d.2.Hi],.c 83 [I 0,I 0],.c 200 [.f 149],.c 201 [.f 149,.f 149,.fn (.func 151) [] [.p 5 0],.f 153]],[.c 123 (Ui.c f),.c 75 (CX.c q),.c 83 [I d.2.Lo,I d.2.Hi],.c 83 [I d.2.Lo,I d.2.Hi],.c 83 [I 0,I 0],.c 200 [.f 149],.c 201 [.f 149,.f 149,.fn (.func 151) [] [.p 5 0],.f 153],.c 83 [I f.Ad.BK,I f.Ad.BK]]] ([.c 123 (Ui.c f),.c 75 (CX.c q),.c 83 [I d.2.Lo,I d.2.Hi],.c 83 [I d.2.Lo,I d.2.Hi],.c 83 [I 0,I 0],.c 200 [.f 149],.c 201 [.f 149,.f 149,.fn (.func 151) [] [.p 5 0],.f 153],.c 83 [I f.Ad.BK,I f.Ad.BK]]) DF Z Z Z Z Z Z Z ?_ Z ?_
     .refine Cq.cons ?_ (M1 (M1 (M1 (M1 (M1 (M1 (Cq.cons ?_ (M1 (M1 (Cq.cons ?_ (M1 (M1 (Cq.cons ?_ (Cq.cons ?_ (Cq.nil)))))))))))))))
      .refine Qb ?_ (Qb ?_ (Qf))
       iterate 2 refine F9 Z sN ?_;refine Qg [] (C8.fn call86 Z Z Z) ((gW _).c _ F) ?_;rintro _ _ ⟨rfl,rfl⟩;exact FE Z Wp
      .refine Qb ?_ (Qb ?_ (Qb ?_ (Qb ?_ (Qf))))
       iterate 4 refine Om Z (sD 3 (sD 6 sN)) ?_;exact Ix E EJ EW Z Wp
      .refine Qb ?_ (Qb ?_ (Qf))
       iterate 2 refine Om Z (sD 0 (sD 9 sN)) ?_;refine vX (.f 153) (ig (i:=g.A9) (n:=4) (j:=3) L Z Z EZ GE Gj) ?_;exact Wp
      .refine Qb ?_ (Qb ?_ (Qf))
       iterate 2 refine F9 Z (sD 10 (sD 11 (sD 12 sN))) ?_;refine Qg [] (JR call153 Z Z Z Z) ((je _ _ _).c _ P) ?_;rintro _ _ ⟨rfl,rfl⟩;exact FE Z Wp
      .refine Qb ?_ (Qb ?_ (Qb ?_ (Qf)))
       iterate 3 exact Jm.alloc _ 12 83 4 _ Z Z Z Z Z Z Z (JW.alloc (v:=(.a [I 0,I 0])) EI (Fu Z)) Z
     refine Go 31 Z (Cn Z h (λ_ h=>?_) (λ_ h=>?_))
     .refine Gc 1 Z (P7 2 0 [1,3] (by kernel_rfl) ?_);obtain⟨am,ab,h⟩:=QE h;refine DA.op (x:=.a [.b AE,I (-1),I 0,I 0]) (H1:=[.c 123 (Ui.c f),.c 75 (CX.c q),.c 83 [I d.2.Lo,I d.2.Hi],.c 83 [I d.2.Lo,I d.2.Hi],.c 83 [I f.Ad.BK,I f.Ad.BK],.c 200 [.f 149],.c 201 [.f 149,.f 149,.fn (.func 151) [] [.p 5 0],.f 153],.c 83 [I f.Ad.BK,I f.Ad.BK],.c 77 [.b AD,I d.1,I (i64.wrap ((i64.wrap (d.2.Lo-f.Ad.BK))+m.1)),I (i64.wrap ((i64.wrap (d.2.Hi-f.Ad.BK))+m.1))],.c 77 [.b AE,I (-1),I 0,I 0]]) ?_ ?_
      .refine Qg [] (C8.fn call53 Z Z Z) ((ZC _).c _ ab) ?_;rintro _ _ ⟨rfl,rfl⟩;exact FE Z Wp
      refine DB.wo2 (x:=.a [.b AD,I d.1,I (i64.wrap ((i64.wrap (d.2.Lo-f.Ad.BK))+m.1)),I (i64.wrap ((i64.wrap (d.2.Hi-f.Ad.BK))+m.1))]) ?_ ?_ ?_
      iterate 2 refine vV (x:=(.a [.b AD,I d.1,I (i64.wrap ((i64.wrap (d.2.Lo-f.Ad.BK))+m.1)),I (i64.wrap ((i64.wrap (d.2.Hi-f.Ad.BK))+m.1))])) (Qt Z Gg EP Z (Dg.cells Z Z) Z Z) ?_;exact Wp
      refine DB.done Z (vH (Ek (xs:=[.tmp 81,.tmp 82]) (es:=map CC.c [{BM:=AE,BS:=(-1),Lo:=0,Hi:=0:CC},{BM:=AD,BS:=d.1,Lo:=i64.wrap ((i64.wrap (d.2.Lo-f.Ad.BK))+m.1),Hi:=i64.wrap ((i64.wrap (d.2.Hi-f.Ad.BK))+m.1):CC}]) Jf Z Z Z Z Z ⟨Z,Z,trivial⟩ Z Z) ?_);exact au h
     exact au h
    .cases h
def W0(n:Nat)(d:CC):AB Unit:=AC ()
instance xP(d:CC):Ks (W0 n d) 52 [.a (CC.c d)] [] (λ_=>.b d.BM):=KA func52
def Tr(g:AA CC)(d:Int):AB (CG Int (CG Unit Int)):=(bif d<(AI g:Int) then AH (CJ g d) λf=>AH (W0 n f) λh=>(bif f.BM then AC (.d (.d d))else AC (.k (i64.wrap (d+1))))else AC (.d (.k ())))
def WY(g:AA CC):AB Int:=AH (iter (Tr n g) n 0:AB (CG Unit Int)) λf=>match f with|.k d=>(AC (-1))|.d d=>AC d
instance wt(d:AA CC):Ks (WY n d) 115 [.q 4 (map CC.c d),.f 52] [] (λr=>I r):=KA func115
def PG(d:AA CC):AB Bool:=AH (WY n d) λf=>AC (AG (0<=f))
instance yD(d:AA CC):Ks (PG n d) 51 [.q 4 (map CC.c d),.f 52] [] (λr=>.b r):=KA func51
def V5(n:Nat)(d:AA CC):AB (AA CC):=isNil d (AC []) (AH (app ([]:AA CC) d) λf=>AC f)
instance wG(d:AA CC):Kq (V5 n d) 55 [.q 4 (map CC.c d)] [] (λr=>.o 0 (AI r) 4) (λr=>[.r 77 4 (map CC.c r)]):=by
 refine Kg 9 func55 Z Z Z Z λr h=>(Qpb underlying51 Z (λf g=>?_));have hkb1:=rj h f g;cases f
 .have h:=hkb1.2 Z;refine Go 7 Z (vH (Ek (xs:=[]) Jf Z Z Z Z Z trivial Z Z) ?_);refine Fg 1 Z Z (Bd h λm j h=>vH (Qj j Jf EM La) ?_);exact au h
 .have h:=hkb1.1 Z;refine Go 10 Z ?_;obtain rfl:=Oi h;refine R1 2 Z (En (Er (s:=2) (k:=4) (t:=77) (XQ Z) Z) ?_);exact Lr [0]
def Ma(n:Nat)(d:CC):AB Bool:=AH ((bif d.BM then AC AE else AC (AG (d.Hi<d.Lo))):AB Bool) λf=>AC f
instance yw(d:CC):Ks (Ma n d) 56 [.a (CC.c d)] [] (λr=>.b r):=KA func56
def US(f:AA CC)(d:Int):AB (CG Int (CG Unit Int)):=(bif d<(AI f:Int) then AH (CJ f d) λg=>AH (Ma n g) λh=>(bif h then AC (.d (.d d))else AC (.k (i64.wrap (d+1))))else AC (.d (.k ())))
def Wq(g:AA CC):AB Int:=AH (iter (US n g) n 0:AB (CG Unit Int)) λf=>match f with|.k d=>(AC (-1))|.d d=>AC d
instance xF(d:AA CC):Ks (Wq n d) 115 [.q 4 (map CC.c d),.f 56] [] (λr=>I r):=KA func115
def Tq(d:(AA CC)×Int×Int):AB (CG ((AA CC)×Int×Int) ((AA CC)×Int)):=(bif d.2.2<(AI d.1:Int) then AH (CJ d.1 d.2.2) λf=>AH (Ma n f) λh=>AH ((bif (!h)then AH (CJ d.1 d.2.1) λm=>AH (JG d.1 d.2.1 f) λj=>AC (j,i64.wrap (d.2.1+1))else AC (d.1,d.2.1)):AB ((AA CC)×Int)) λg=>AC (.k (g.1,g.2,i64.wrap (d.2.2+1)))else AC (.d (d.1,d.2.1)))
def Ph(f:AA CC):AB (AA CC):=AH (Wq n f) λg=>(bif (g==(-1))then AC f else AH (iter (Tq n) n (f,g,i64.wrap (g+1)):AB ((AA CC)×Int)) λd=>AH (Dn d.1 0 d.2) λh=>AC h)
instance yd(E:AA CC):Kq (Ph n E) 54 [.o 0 (AI E) 4,.f 56] [.r 77 4 (map CC.c E)] (λr=>.o 0 (AI r) 4) (λr=>[.r 77 4 (map CC.c r)]):=by
 refine Kg 9 func54 Z Z Z Z λr h=>Cb h Kc Z (lo (ls ln)) λY P h=>Go 10 Z (Cn Z h (λ_ h=>?_) (λ_ h=>?_))
 .exact au h
 refine Gc 10 Z (Bd h λj M h=>Cg j [0] [] (λj=>[(0,.o 0 (AI j.1) 4),(5,I j.2)]) (λj=>[(0,.r 77 4 (map CC.c j.1))]) Zf ?_ ?_)
 .refine G0 1 Z (Lp [0] [1] (λm=>[(0,.o 0 (AI m.1) 4),(5,I m.2.1),(6,I m.2.2)]) (λm=>[(0,.r 77 4 (map CC.c m.1))]) M Zf (Lr [0]) λm Q d F=>?_);refine G0 9 Z (Q8 Z d (λ_ d=>?_) (λ_ d=>?_))
  .exact Gc 2 Z (QH d (Gx 1 Z (DW F d (Lr [0]))))
  refine Gc 8 Z (Bd d λR x d=>(vV (Qd x Z EM EP) ?_));refine vV (Qt Z Gg EP Z (Qh x) Z Z) ?_;refine Go 8 Z (Cz [] d Kc Z λT O d=>Go 3 Z (Bd d λq g d=>Ct q [0] [1,6] (λq=>[(0,.o 0 (AI q.1) 4),(5,I q.2)]) (λq=>[(0,.r 77 4 (map CC.c q.1))]) Zf ?_ (λenv H N=>?_)))
  .refine G0 0 Z (Cn Z g (λ_ g=>?_) (λ_ g=>?_))
   .refine Gc 5 Z (Bd g λV y g=>(vV (Qd y Z EM EP) ?_));refine Bd g λW B g=>(vU (Yp (k:=4) (f:=0) y B EP Z Z) ?_);refine Et (QZ (s:=0) Z (congrArg (λn=>A.s 0 0 n 4) (Q6 B))) ?_;exact au g
   exact au g
  exact Gx 2 Z (Ee N (Gc 5 Z (Q1 d (Lr [0]))))
 refine Gc 4 Z (Bd h λX t h=>(vV (Qkl t EM EP) ?_));refine vN (Qkn t underlying51 zeroValue77 Z (by simp[QA,Go.Value.cells])) ?_;refine Go 6 Z (vV (Qkm t EM EP) ?_);exact au h
def Pv(d:CC)(f:CC):AB Int:=AH (Ky n d.BS f.BS) λg=>AH (Ky n d.Lo f.Lo) λh=>AH (Ky n d.Hi f.Hi) λj=>AH (KF n [g,h,j]) λm=>AC m
instance jV(d:CC)(f:CC):Ks (Pv n d f) 58 [.a (CC.c d),.a (CC.c f)] [] (λr=>I r):=KA func58
def MZ(n:Nat)(g:CC)(d:Int)(f:AA CC):AB (Int×(AA CC)):=AH ((bif 0<=d then AH (CJ f d) λm=>(bif (m.BS==g.BS)then AH (CJ f d) λq=>(bif g.Lo<=q.Hi then AC AE else AH (CJ f d) λt=>AC ((i64.wrap (g.Lo-1))==t.Hi))else AC AD)else AC AD):AB Bool) λB=>(bif B then AH (CJ f d) λh=>AH (CJ f d) λx=>AH (JG f d ({x with Hi:=(if h.Hi<g.Hi then g.Hi else h.Hi):CC})) λy=>AC (d,y)else AH (app f [g]) λj=>AC (i64.wrap ((AI j:Int)-1),j))
instance yv(t:CC)(g:Int)(J:AA CC):Kq (MZ n t g J) 61 [.a (CC.c t),.p 0 0,.p 1 0] [.c 3 [I g],.c 51 [.o 2 (AI J) 4],.r 77 4 (map CC.c J)] (λ_=>.t []) (λr=>[.c 3 [I r.1],.c 51 [.o 3 (AI r.2) 4],.dead,.r 77 4 (map CC.c r.2)]):=by
 refine Kg 7 func61 Z Z Z Z λr h=>Bd h λL d h=>Cg L [0,1,2,3] [1,2,3] (λL=>[(36,.b L)]) Ze Zf ?_ ?_
 .refine G0 0 Z (DU 30 Z (D 3 Z (DS.is 2 d Z Z Z (λ_ d=>?_) (λ_ d=>?_))))
  .refine D 2 Z ?_;obtain⟨R,y,d⟩:=QE d;refine DS.v (x:=(.p 2 (toNat g*4))) (Qd y Z EM EP) ?_ (hg:=(gT Z));refine DS.wo (x:=.p 2 (toNat g*4+1)) ?_ ?_
   .exact H7 (gT Z) Qqz Z Wp
   refine DS.v (x:=(I R.BS)) (Ez Z EE Z (Qo (f:=1) y)) ?_ (hg:=(gT Z));refine D 5 Z (DS.is 12 d Z Z Z (λ_ d=>?_) (λ_ d=>?_))
   .refine D 4 Z ?_;obtain⟨T,B,d⟩:=QE d;refine DS.v (x:=(.p 2 (toNat g*4))) (Qd B Z EM EP) ?_ (hg:=(gT Z));refine DS.wo (x:=.p 2 (toNat g*4+3)) ?_ ?_
    .exact H7 (gT Z) g7 Z Wp
    refine DS.v (x:=(I T.Hi)) (Ez Z EE Z (Qo (f:=3) B)) ?_ (hg:=(gT Z));refine D 2 Z (DS.is 21 d Z Z Z (λ_ d=>?_) (λ_ d=>?_))
    .exact au d
    .refine D 5 Z ?_;obtain⟨V,E,d⟩:=QE d;refine DS.v (x:=(.p 2 (toNat g*4))) (Qd E Z EM EP) ?_ (hg:=(gT Z));refine DS.wo (x:=.p 2 (toNat g*4+3)) ?_ ?_
     .exact H7 (gT Z) g7 Z Wp
     refine DS.v (x:=(I V.Hi)) (Ez Z EE Z (Qo (f:=3) E)) ?_ (hg:=(gT Z));exact au d
   exact au d
  exact au d
 refine Cn Z h (λ_ h=>?_) (λ_ h=>?_)
 .refine Gc 1 Z (DU 10 Z (D 4 Z ?_));obtain⟨F,G,h⟩:=QE h;refine DS.v (x:=(.p 2 (toNat g*4))) (Qd G Z EM EP) ?_;refine DS.wo (x:=.p 2 (toNat g*4+3)) ?_ ?_
  .exact Fp g7 Z Wp
  refine DS.v (x:=(I F.Hi)) (Ez Z EE Z (Qo (f:=3) G)) ?_;refine D 2 Z ?_;refine DS.v (x:=(I (if F.Hi<t.Hi then t.Hi else F.Hi))) (CT.max Z Z Z Z) ?_;refine Eg Z (Bd h λW H h=>?_);refine vX (.p 2 (toNat g*4)) (Qd H Z EM EP) ?_;refine Fp g7 Z (Bd h λX q h=>?_);refine vU (Yp (e:=CC.c) (k:=4) (f:=3) H q EC Z Z) ?_;refine FE Z ?_;refine Et (QZ (s:=37) Z (congrArg (λn=>A.s 2 0 n 4) (Q6 q))) ?_;refine Et (QZ (s:=39) Z (congrArg (λn=>A.s 2 0 n 4) (Q6 q))) ?_;refine Et (S1 (i:=1) Z (congrArg (λnz=>CU.cells 51 [.o 2 nz 4]) (Q6 q))) ?_;refine Go 4 Z ?_;obtain rfl:=Oi h;refine⟨[],_,_,?_,II.nil Z,Z,Z⟩;refine En (Zt (i:=2) (j:=1) (m:=0) Z Z Z Z Z) ?_;exact Lr [0,1,2,4]
 refine Gc 6 Z (vH (Ek (xs:=[.tmp 50]) (es:=map CC.c [t]) Jf Z Z Z Z Z ⟨Z,trivial⟩ Z Z) ?_);refine FE Z (Bd h λY P h=>vH (Qj (e:=CC.c) P Jf EM (QC (i:=4))) ?_);exact au h
end Go.Sw
