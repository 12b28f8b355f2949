/- What the functions compute that OutcomeWays reaches, and that their calls refine it (part 3 of 6). -/
import Derived.Test.YtbiglpikpigidaaGreatW23Wa2
set_option linter.unusedVariables false
set_option linter.unusedSimpArgs false
set_option maxRecDepth 100000
set_option maxHeartbeats 4000000
namespace Go.Sw
open Option renaming some→AC,none→AF,bind→AH
open Bool renaming false→AD,true→AE
open Decidable renaming decide→AG
open List renaming length→AI
variable (n:Nat)
open List(map)
open Int(toNat)
open Go.IntKind(i64 u64 u8)
open Go.Proofs Tryz
def VX(m:Int)(a2:Uh)(a6:CA)(a7:Int)(M:AA CL)(t:CA)(x:CD)(y:AA Int)(B:AA CJ)(E:AA CL)(F:AA Ue)(G:Int)(H:AA (Int×Ue))(J:CA)(L:CD)(rec158:Int->Uh->Bool->Int->(AA CU)->CA->Int->(AA Int)->(AA CL)->(AA Bool)->CA->CD->(AA Int)->(AA CJ)->(AA CL)->(AA Ue)->Int->(AA (Int×Int))->(AA (Int×Int))->(AA (Int×Ue))->CA->CD->AB ((AA CU)×(AA Int)×(AA (Int×Int))×(AA Bool)×(AA (Int×Int))))(j:Int)(d:(AA CU)×(AA Int)×(AA (Int×Int))×(AA Bool)×(AA (Int×Int))×Int):AB (CF ((AA CU)×(AA Int)×(AA (Int×Int))×(AA Bool)×(AA (Int×Int))×Int) ((AA CU)×(AA Int)×(AA (Int×Int))×(AA Bool)×(AA (Int×Int)))):=(bif d.2.2.2.2.2<(AI M:Int) then AH (AH (CI M d.2.2.2.2.2) λN=>AH (AH (CI d.2.2.2.1 d.2.2.2.2.2) λO=>(bif O then AC AE else AC (N.Al != j)):AB Bool) λP=>(bif P then AC (d.1,d.2.1,d.2.2.1,d.2.2.2.1,d.2.2.2.2.1)else AH (Kx n a2 m d.2.2.2.2.2 t x y B E F G H J L) λq=>AH ((bif q.2 then AH (CI d.2.2.2.1 d.2.2.2.2.2) λab=>AH (JN d.2.2.2.1 d.2.2.2.2.2 AE) λQ=>AH (CI d.2.1 m) λac=>AH (JN d.2.1 m d.2.2.2.2.2) λR=>AH (AC (Qn d.2.2.2.2.1 j 0)) λT=>AH (AC (QK d.2.2.2.2.1 j (i64.wrap (T-1)))) λV=>AH (rec158 (i64.wrap (m+1)) q.1 AD m d.1 a6 a7 R M Q t x y B E F G d.2.2.1 V H J L) λf=>AH (AC (Qn f.2.2.2.2 j 0)) λW=>AH (AC (QK f.2.2.2.2 j (i64.wrap (W+1)))) λX=>AH (CI f.2.2.2.1 d.2.2.2.2.2) λad=>AH (JN f.2.2.2.1 d.2.2.2.2.2 AD) λY=>AH (CI f.2.1 m) λae=>AH (JN f.2.1 m (-1)) λaa=>AC (f.1,aa,f.2.2.1,Y,X)else AC (d.1,d.2.1,d.2.2.1,d.2.2.2.1,d.2.2.2.2.1)):AB ((AA CU)×(AA Int)×(AA (Int×Int))×(AA Bool)×(AA (Int×Int)))) λg=>AC (g.1,g.2.1,g.2.2.1,g.2.2.2.1,g.2.2.2.2)):AB ((AA CU)×(AA Int)×(AA (Int×Int))×(AA Bool)×(AA (Int×Int)))) λh=>AC (.k (h.1,h.2.1,h.2.2.1,h.2.2.2.1,h.2.2.2.2,i64.wrap (d.2.2.2.2.2+1)))else AC (.d (d.1,d.2.1,d.2.2.1,d.2.2.2.1,d.2.2.2.2.1)))
def Z5(rec158:Int->Uh->Bool->Int->(AA CU)->CA->Int->(AA Int)->(AA CL)->(AA Bool)->CA->CD->(AA Int)->(AA CJ)->(AA CL)->(AA Ue)->Int->(AA (Int×Int))->(AA (Int×Int))->(AA (Int×Ue))->CA->CD->AB ((AA CU)×(AA Int)×(AA (Int×Int))×(AA Bool)×(AA (Int×Int))))(n:Nat)(x:Int)(Y:Uh)(a3:Bool)(a4:Int)(G:AA CU)(W:CA)(X:Int)(R:AA Int)(a9:AA CL)(y:AA Bool)(H:CA)(J:CD)(B:AA Int)(L:AA CJ)(M:AA CL)(N:AA Ue)(q:Int)(E:AA (Int×Int))(t:AA (Int×Int))(O:AA (Int×Ue))(P:CA)(Q:CD):AB ((AA CU)×(AA Int)×(AA (Int×Int))×(AA Bool)×(AA (Int×Int))):=AH ((bif 64<(AI G:Int) then AC AE else AH (Pj n t E) λr6=>AC (AG (W.AQ.A6<r6))):AB Bool) λb3=>(bif b3 then AC (G,R,E,y,t)else(bif (x==X)then AH ((bif q<=a4 then AH (W2 n R) λad=>AH (app G [{BL:=ad,A7:=a4:CU}]) λae=>AC ae else AC G):AB (AA CU)) λaf=>AC (af,R,E,y,t)else AH (CI B x) λF=>AH (AC (Qn E F 0)) λag=>AH (AC (QK E F (i64.wrap (ag-1)))) λT=>AH ((bif (!a3)then AH (Kx n Y x (-1) H J B L M N q O P Q) λV=>AH ((bif V.2 then AH (rec158 (i64.wrap (x+1)) V.1 AD x G W X R a9 y H J B L M N q T t O P Q) λg=>AC (g.1,g.2.1,g.2.2.1,g.2.2.2.1,g.2.2.2.2)else AC (G,R,T,y,t)):AB ((AA CU)×(AA Int)×(AA (Int×Int))×(AA Bool)×(AA (Int×Int)))) λh=>AH (iter (VX n x Y W X a9 H J B L M N q O P Q rec158 F) n (h.1,h.2.1,h.2.2.1,h.2.2.2.1,h.2.2.2.2,0):AB ((AA CU)×(AA Int)×(AA (Int×Int))×(AA Bool)×(AA (Int×Int)))) λj=>AC (j.1,j.2.1,j.2.2.1,j.2.2.2.1,j.2.2.2.2)else AC (G,R,T,y,t)):AB ((AA CU)×(AA Int)×(AA (Int×Int))×(AA Bool)×(AA (Int×Int)))) λd=>AH ((bif a3 then AC AE else AC (AG (q<x))):AB Bool) λaa=>AH ((bif aa then AH (rec158 (i64.wrap (x+1)) Y AE a4 d.1 W X d.2.1 a9 d.2.2.2.1 H J B L M N q d.2.2.1 d.2.2.2.2 O P Q) λm=>AC (m.1,m.2.1,m.2.2.1,m.2.2.2.1,m.2.2.2.2)else AC (d.1,d.2.1,d.2.2.1,d.2.2.2.1,d.2.2.2.2)):AB ((AA CU)×(AA Int)×(AA (Int×Int))×(AA Bool)×(AA (Int×Int)))) λf=>AH (AC (Qn f.2.2.1 F 0)) λab=>AH (AC (QK f.2.2.1 F (i64.wrap (ab+1)))) λac=>AC (f.1,f.2.1,ac,f.2.2.2.1,f.2.2.2.2)))
theorem Qb6(rec158:Int->Uh->Bool->Int->(AA CU)->CA->Int->(AA Int)->(AA CL)->(AA Bool)->CA->CD->(AA Int)->(AA CJ)->(AA CL)->(AA Ue)->Int->(AA (Int×Int))->(AA (Int×Int))->(AA (Int×Ue))->CA->CD->AB ((AA CU)×(AA Int)×(AA (Int×Int))×(AA Bool)×(AA (Int×Int))))(ci:∀(a1:Int) (a2:Uh) (a3:Bool) (a4:Int) (a5:AA CU) (a6:CA) (a7:Int) (a8:AA Int) (a9:AA CL) (aa:AA Bool) (E:CA) (F:CD) (G:AA Int) (J:AA CJ) (L:AA CL) (M:AA Ue) (N:Int) (ah:AA (Int×Int)) (aj:AA (Int×Int)) (O:AA (Int×Ue)) (P:CA) (Q:CD),Kq (rec158 a1 a2 a3 a4 a5 a6 a7 a8 a9 aa E F G J L M N ah aj O P Q) 38 [I a1,.a (Uh.c a2),.b a3,I a4,.p 0 0,.p 1 0,.p 2 0,.p 3 0,.p 4 0,.p 5 0,.p 6 0,.p 7 0,.p 8 0,.p 9 0,.p 10 0] [.c 55 [.o 11 (AI a5) 2],.c 140 [.fn (.func 36) [] [.p 10 0,.p 6 0]],.c 33 (CA.c a6),.c 3 [I a7],.c 128 [.p 12 0],.c 73 [.o 13 (AI a8) 1],.c 137 [.map 14],.c 143 [.fn (.func 38) [] [.p 0 0,.p 1 0,.p 2 0,.p 3 0,.p 4 0,.p 5 0,.p 6 0,.p 7 0,.p 8 0,.p 9 0,.p 10 0]],.c 42 [.q 5 (map CL.c a9)],.c 142 [.o 15 (AI aa) 1],.c 137 [.map 16],.r 75 2 (map CU.c a5),.c 136 (match_task.tc E F G J L M (.map 17) (.fn (.func 95) [] [.p 18 0,.p 19 0,.p 20 0]) N),.r 3 1 (map eI a8),.map (Qo I I ah),.r 4 1 (map JL aa),.map (Qo I I aj),.map (Qo I (λx=>A.a (Ue.c x)) O),.c 128 [.p 12 0],.c 33 (CA.c P),.c 39 (CD.c Q)] (λ_=>.t []) (λr=>[.c 55 [.o 21 (AI r.1) 2],.c 140 [.fn (.func 36) [] [.p 10 0,.p 6 0]],.c 33 (CA.c a6),.c 3 [I a7],.c 128 [.p 12 0],.c 73 [.o 13 (AI r.2.1) 1],.c 137 [.map 14],.c 143 [.fn (.func 38) [] [.p 0 0,.p 1 0,.p 2 0,.p 3 0,.p 4 0,.p 5 0,.p 6 0,.p 7 0,.p 8 0,.p 9 0,.p 10 0]],.c 42 [.q 5 (map CL.c a9)],.c 142 [.o 15 (AI r.2.2.2.1) 1],.c 137 [.map 16],.dead,.c 136 (match_task.tc E F G J L M (.map 17) (.fn (.func 95) [] [.p 18 0,.p 19 0,.p 20 0]) N),.r 3 1 (map eI r.2.1),.map (Qo I I r.2.2.1),.r 4 1 (map JL r.2.2.2.1),.map (Qo I I r.2.2.2.2),.map (Qo I (λx=>A.a (Ue.c x)) O),.c 128 [.p 12 0],.c 33 (CA.c P),.c 39 (CD.c Q),.r 75 2 (map CU.c r.1)]))(n:Nat)(a1:Int)(a2:Uh)(a3:Bool)(a4:Int)(a5:AA CU)(a6:CA)(a7:Int)(a8:AA Int)(a9:AA CL)(aa:AA Bool)(E:CA)(F:CD)(G:AA Int)(J:AA CJ)(L:AA CL)(M:AA Ue)(N:Int)(ah:AA (Int×Int))(aj:AA (Int×Int))(O:AA (Int×Ue))(P:CA)(Q:CD):Kq (Z5 rec158 n a1 a2 a3 a4 a5 a6 a7 a8 a9 aa E F G J L M N ah aj O P Q) 38 [I a1,.a (Uh.c a2),.b a3,I a4,.p 0 0,.p 1 0,.p 2 0,.p 3 0,.p 4 0,.p 5 0,.p 6 0,.p 7 0,.p 8 0,.p 9 0,.p 10 0] [.c 55 [.o 11 (AI a5) 2],.c 140 [.fn (.func 36) [] [.p 10 0,.p 6 0]],.c 33 (CA.c a6),.c 3 [I a7],.c 128 [.p 12 0],.c 73 [.o 13 (AI a8) 1],.c 137 [.map 14],.c 143 [.fn (.func 38) [] [.p 0 0,.p 1 0,.p 2 0,.p 3 0,.p 4 0,.p 5 0,.p 6 0,.p 7 0,.p 8 0,.p 9 0,.p 10 0]],.c 42 [.q 5 (map CL.c a9)],.c 142 [.o 15 (AI aa) 1],.c 137 [.map 16],.r 75 2 (map CU.c a5),.c 136 (match_task.tc E F G J L M (.map 17) (.fn (.func 95) [] [.p 18 0,.p 19 0,.p 20 0]) N),.r 3 1 (map eI a8),.map (Qo I I ah),.r 4 1 (map JL aa),.map (Qo I I aj),.map (Qo I (λx=>A.a (Ue.c x)) O),.c 128 [.p 12 0],.c 33 (CA.c P),.c 39 (CD.c Q)] (λ_=>.t []) (λr=>[.c 55 [.o 21 (AI r.1) 2],.c 140 [.fn (.func 36) [] [.p 10 0,.p 6 0]],.c 33 (CA.c a6),.c 3 [I a7],.c 128 [.p 12 0],.c 73 [.o 13 (AI r.2.1) 1],.c 137 [.map 14],.c 143 [.fn (.func 38) [] [.p 0 0,.p 1 0,.p 2 0,.p 3 0,.p 4 0,.p 5 0,.p 6 0,.p 7 0,.p 8 0,.p 9 0,.p 10 0]],.c 42 [.q 5 (map CL.c a9)],.c 142 [.o 15 (AI r.2.2.2.1) 1],.c 137 [.map 16],.dead,.c 136 (match_task.tc E F G J L M (.map 17) (.fn (.func 95) [] [.p 18 0,.p 19 0,.p 20 0]) N),.r 3 1 (map eI r.2.1),.map (Qo I I r.2.2.1),.r 4 1 (map JL r.2.2.2.1),.map (Qo I I r.2.2.2.2),.map (Qo I (λx=>A.a (Ue.c x)) O),.c 128 [.p 12 0],.c 33 (CA.c P),.c 39 (CD.c Q),.r 75 2 (map CU.c r.1)]):=by
 refine⟨λr h=>?_⟩;refine QkC func38 Z Z Z Z ?_;refine Io.seq ?_;refine G0 3 Z (aD ?_);refine Io.seq ?_;refine G0 1 Z (Bd h λb3 h4 h=>Ct b3 [0,1,2,3,4,5,6,7,8,9,10,11,12,13,14,15,16,17,18,19,20,21] [0,2,3,4,7,8,9,10,11,12,13,14,16] (λb3=>[(36,.b b3)]) Ze Zf ?_ (λenv H q=>?_))
 .refine G0 0 Z (DP 9 Z (D 4 Z (DS.is 3 h4 Z Z Z (λ_ h4=>?_) (λ_ h4=>?_))))
  .exact au h4
  .refine D 1 Z ?_;obtain⟨r6,cl,h4⟩:=Qw h4;refine DS.wo (x:=I r6) ?_ ?_
   .exact Pc [10,6,16,14] Z (JT call36 Z Z Z Z) (_E (Kd.cons (.kc _ _ Z) (Kd.cons (.kc _ _ Z) (Kd.cons (.mp _) (Kd.cons (.mp _) Kd.nil)))) ((jc _ _ _).c _ cl) Z) (hg:=(gT Z)) Z Wp
   exact au h4
 refine Gx 1 Z (Ee q (Cn Z h (λ_ h=>?_) (λ_ h=>?_)))
 .refine Gc 1 Z (oM ?_);obtain rfl:=Oi h;refine⟨[],_,_,?_,H7.nil Z,Z,Z⟩;refine En (Zv (i:=11) (j:=0) (m:=0) Z Z Z Z Z) ?_;exact Lr [0,1,2,3,4,5,6,7,8,9,10,11,12,13,14,15,16,17,18,19,20,22]
 refine Gc 1 Z (aD ?_);refine Io.seq ?_;refine G0 7 Z (Cn Z h (λ_ h=>?_) (λ_ h=>?_))
 .refine Gc 11 Z (Bd h λay ai h=>Ct ay [0,1,2,3,4,5,6,7,8,9,10,11,12,13,14,15,16,17,18,19,20,0] [] Ze (λay=>[(0,.c 55 [.o 21 (AI ay) 2]),(11,.dead),(21,.r 75 2 (map CU.c ay))]) Zf ?_ (λenv H q=>?_))
  .refine G0 0 Z (Cn Z ai (λ_ ai=>?_) (λ_ ai=>?_))
   .refine HY 6 [2] [(0,0,1),(0,0,0),(1,0,0),(0,0,1),(0,1,1),(0,1,1)] (by kernel_rfl) ?_;refine KG (lo:=0) (x:=.o 11 (AI a5) 2) ⟨Z,trivial⟩ ?_;refine Dk 1 Z ?_;obtain⟨ar,ca,ai⟩:=Qw ai;refine Ex (x:=.q 1 (map eI ar)) (X1:=[.c 55 [.o 11 (AI a5) 2],.c 140 [.fn (.func 36) [] [.p 10 0,.p 6 0]],.c 33 (CA.c a6),.c 3 [I a7],.c 128 [.p 12 0],.c 73 [.o 13 (AI a8) 1],.c 137 [.map 14],.c 143 [.fn (.func 38) [] [.p 0 0,.p 1 0,.p 2 0,.p 3 0,.p 4 0,.p 5 0,.p 6 0,.p 7 0,.p 8 0,.p 9 0,.p 10 0]],.c 42 [.q 5 (map CL.c a9)],.c 142 [.o 15 (AI aa) 1],.c 137 [.map 16],.r 75 2 (map CU.c a5),.c 136 (match_task.tc E F G J L M (.map 17) (.fn (.func 95) [] [.p 18 0,.p 19 0,.p 20 0]) N),.r 3 1 (map eI a8),.map (Qo I I ah),.r 4 1 (map JL aa),.map (Qo I I aj),.map (Qo I (λx=>A.a (Ue.c x)) O),.c 128 [.p 12 0],.c 33 (CA.c P),.c 39 (CD.c Q),.c 147 (Uh.c a2),.dead]) ?_ ?_
    .refine Qf [13] (C6.fn call39 Z Z Z) ((jZ _ _).c _ ca) ?_;rintro _ _ ⟨rfl,rfl⟩;refine Ny (x:=(.o 22 (AI ar) 1)) (H:=[.c 55 [.o 11 (AI a5) 2],.c 140 [.fn (.func 36) [] [.p 10 0,.p 6 0]],.c 33 (CA.c a6),.c 3 [I a7],.c 128 [.p 12 0],.c 73 [.o 13 (AI a8) 1],.c 137 [.map 14],.c 143 [.fn (.func 38) [] [.p 0 0,.p 1 0,.p 2 0,.p 3 0,.p 4 0,.p 5 0,.p 6 0,.p 7 0,.p 8 0,.p 9 0,.p 10 0]],.c 42 [.q 5 (map CL.c a9)],.c 142 [.o 15 (AI aa) 1],.c 137 [.map 16],.r 75 2 (map CU.c a5),.c 136 (match_task.tc E F G J L M (.map 17) (.fn (.func 95) [] [.p 18 0,.p 19 0,.p 20 0]) N),.r 3 1 (map eI a8),.map (Qo I I ah),.r 4 1 (map JL aa),.map (Qo I I aj),.map (Qo I (λx=>A.a (Ue.c x)) O),.c 128 [.p 12 0],.c 33 (CA.c P),.c 39 (CD.c Q),.c 147 (Uh.c a2),.r 3 1 (map eI ar)]) Z (by simp only[Yc,Vj,Vk,List.set_cons_succ,List.set_cons_zero,VJ,Vh];rfl) ?_;refine Et (Ym [(48,_)] Z Z (Cx.cons Z Ep Cx.nil) (Ec (Ec (Ec (Ec (Ec (Ec (Ec (Ec (Ec (Ec (Ec (Ec (Ec (Ec (Ec (Ec (Ec (Ec (Ec (Ec (Ec (Ec (Ec (QQ _))))))))))))))))))))))))) ?_;refine Et S5 ?_;exact Wp
    refine Dk 2 Z ?_;refine DK.wo (x:=.q 2 (map CU.c [{BL:=ar,A7:=a4:CU}])) ?_ ?_
    .refine vH (QN (xs:=[.tmp 50]) (es:=map CU.c [{BL:=ar,A7:=a4:CU}]) pH Z Z Z Z Z ⟨Z,trivial⟩ Z Z) ?_;exact FE Z Wp
    refine DK.done Z Z (Bd ai λdh cb ai=>?_);refine vH (Qj (e:=CU.c) cb pH GI L9) ?_;exact au ai
   refine Gc 1 Z ?_;cases ai;refine Nv ?_;refine En (Zv (i:=11) (j:=0) (m:=0) Z Z Z Z Z) ?_;exact Lr [0,1,2,3,4,5,6,7,8,9,10,11,12,13,14,15,16,17,18,19,20,22]
  refine Gx 1 Z (Ee q (Gc 1 Z (oM ?_)));exact au h
 refine Gc 1 Z (aD ?_);refine Io.seq ?_;refine G0 6 Z (Bd h λab cc h=>Iz cc Z (Go 4 Z (aD ?_)));refine Io.seq ?_;refine G0 3 Z (Bd h λbx cd h=>?_);refine vX (I bx) (Yb (ev:=I) (z0:=0) (k:=ab) (l:=ah) YN cd EM EV Eo) ?_;refine Go 1 Z (Bd h λco ce h=>?_);refine vU (Yh (ev:=I) (k:=ab) (v:=(i64.wrap (bx-1))) (l:=ah) YN ce Z EM) ?_;refine Fg 1 Z Z (aD ?_);refine Io.defer (caps:=[.p 6 0,.p 22 0]) (CS.makeFunc (first:=[]) (cap:=[.tmp 10,.tmp 19]) Z Z Z) (XQ Z) Z ?_;refine G0 7 Z (Bd h λR B h=>Ct R [0,1,2,3,4,5,6,7,8,9,10,11,12,13,14,15,16,17,18,19,20,21,22,0] [0,2,3,8,11,16] Ze (λR=>[(0,.c 55 [.o 23 (AI R.1) 2]),(5,.c 73 [.o 13 (AI R.2.1) 1]),(9,.c 142 [.o 15 (AI R.2.2.2.1) 1]),(11,.dead),(13,.r 3 1 (map eI R.2.1)),(14,.map (Qo I I R.2.2.1)),(15,.r 4 1 (map JL R.2.2.2.1)),(16,.map (Qo I I R.2.2.2.2)),(23,.r 75 2 (map CU.c R.1))]) Zf ?_ (λenv H q=>?_))
 .refine G0 0 Z (Cn Z B (λ_ B=>?_) (λ_ B=>?_))
  .refine Gc 6 Z (Cd [12,17,18,19,20] B Kc Z λak cp B=>?_);refine Ny (x:=(.t [.a (Uh.c ak.1),.b ak.2])) (H:=[.c 55 [.o 11 (AI a5) 2],.c 140 [.fn (.func 36) [] [.p 10 0,.p 6 0]],.c 33 (CA.c a6),.c 3 [I a7],.c 128 [.p 12 0],.c 73 [.o 13 (AI a8) 1],.c 137 [.map 14],.c 143 [.fn (.func 38) [] [.p 0 0,.p 1 0,.p 2 0,.p 3 0,.p 4 0,.p 5 0,.p 6 0,.p 7 0,.p 8 0,.p 9 0,.p 10 0]],.c 42 [.q 5 (map CL.c a9)],.c 142 [.o 15 (AI aa) 1],.c 137 [.map 16],.r 75 2 (map CU.c a5),.c 136 (match_task.tc E F G J L M (.map 17) (.fn (.func 95) [] [.p 18 0,.p 19 0,.p 20 0]) N),.r 3 1 (map eI a8),.map (Qo I I co),.r 4 1 (map JL aa),.map (Qo I I aj),.map (Qo I (λx=>A.a (Ue.c x)) O),.c 128 [.p 12 0],.c 33 (CA.c P),.c 39 (CD.c Q),.c 147 (Uh.c a2),.c 3 [I ab],.c 147 (Uh.c ak.1)]) Z (by simp only[Yc,Vj,Vk,List.set_cons_succ,List.set_cons_zero,VJ,Vh];rfl) ?_;refine Go 13 Z (Bd B λT af B=>Ct T [0,1,2,3,4,5,6,7,8,9,10,11,12,13,14,15,16,17,18,19,20,21,22,0] [0,2,3,8,9,11,12,13,14,16,19] Ze (λT=>[(0,.c 55 [.o 23 (AI T.1) 2]),(5,.c 73 [.o 13 (AI T.2.1) 1]),(9,.c 142 [.o 15 (AI T.2.2.2.1) 1]),(11,.dead),(13,.r 3 1 (map eI T.2.1)),(14,.map (Qo I I T.2.2.1)),(15,.r 4 1 (map JL T.2.2.2.1)),(16,.map (Qo I I T.2.2.2.2)),(23,.r 75 2 (map CU.c T.1))]) Zf ?_ (λenv H q=>?_))
   .refine G0 0 Z (Cn Z af (λ_ af=>?_) (λ_ af=>?_))
    .refine Gc 6 Z (Cd [0,1,2,3,4,5,6,7,8,9,10,11,12,13,14,15,16,17,18,19,20] af Kc Z λac cq af=>?_);refine Ny (x:=(.t [])) (H:=[.c 55 [.o 25 (AI ac.1) 2],.c 140 [.fn (.func 36) [] [.p 10 0,.p 6 0]],.c 33 (CA.c a6),.c 3 [I a7],.c 128 [.p 12 0],.c 73 [.o 13 (AI ac.2.1) 1],.c 137 [.map 14],.c 143 [.fn (.func 38) [] [.p 0 0,.p 1 0,.p 2 0,.p 3 0,.p 4 0,.p 5 0,.p 6 0,.p 7 0,.p 8 0,.p 9 0,.p 10 0]],.c 42 [.q 5 (map CL.c a9)],.c 142 [.o 15 (AI ac.2.2.2.1) 1],.c 137 [.map 16],.dead,.c 136 (match_task.tc E F G J L M (.map 17) (.fn (.func 95) [] [.p 18 0,.p 19 0,.p 20 0]) N),.r 3 1 (map eI ac.2.1),.map (Qo I I ac.2.2.1),.r 4 1 (map JL ac.2.2.2.1),.map (Qo I I ac.2.2.2.2),.map (Qo I (λx=>A.a (Ue.c x)) O),.c 128 [.p 12 0],.c 33 (CA.c P),.c 39 (CD.c Q),.c 147 (Uh.c a2),.c 3 [I ab],.c 147 (Uh.c ak.1),.c 147 (Uh.c ak.1),.r 75 2 (map CU.c ac.1)]) Z (by simp only[Yc,Vj,Vk,List.set_cons_succ,List.set_cons_zero,VJ,Vh];rfl) ?_;exact au af
    refine Gc 1 Z ?_;cases af;refine Nv ?_;refine En (Zv (i:=11) (j:=0) (m:=0) Z Z Z Z Z) ?_;exact Lr [0,1,2,3,4,5,6,7,8,9,10,11,12,13,14,15,16,17,18,19,20,21,22,25]
   refine Gx 1 Z (Ee q (Gc 3 Z (Lg 3 Z Z (Bd B λV cf B=>Ct V [0,1,2,3,4,5,6,7,8,9,10,11,12,13,14,15,16,17,18,19,20,21,22,23] [0,2,3,8,11,16] Ze (λV=>[(0,.c 55 [.o 23 (AI V.1) 2]),(5,.c 73 [.o 13 (AI V.2.1) 1]),(9,.c 142 [.o 15 (AI V.2.2.2.1) 1]),(13,.r 3 1 (map eI V.2.1)),(14,.map (Qo I I V.2.2.1)),(15,.r 4 1 (map JL V.2.2.2.1)),(16,.map (Qo I I V.2.2.2.2)),(23,.r 75 2 (map CU.c V.1))]) Zf ?_ (λenv H q=>?_)))))
   .refine G0 1 Z (Lp [0,1,2,3,4,5,6,7,8,9,10,11,12,13,14,15,16,17,18,19,20,21,22,23] [0,2,3,8,9,11,13,14,16,19,81,82] (λg=>[(83,I g.2.2.2.2.2)]) (λg=>[(0,.c 55 [.o 23 (AI g.1) 2]),(5,.c 73 [.o 13 (AI g.2.1) 1]),(9,.c 142 [.o 15 (AI g.2.2.2.1) 1]),(13,.r 3 1 (map eI g.2.1)),(14,.map (Qo I I g.2.2.1)),(15,.r 4 1 (map JL g.2.2.2.1)),(16,.map (Qo I I g.2.2.2.2.1)),(23,.r 75 2 (map CU.c g.1))]) cf Zf (Lr [0,1,2,3,4,5,6,7,8,9,10,11,12,13,14,15,16,17,18,19,20,21,22,23]) λg cu ad bk=>?_);refine G0 6 Z (Q5 Z ad (λ_ ad=>?_) (λ_ ad=>?_))
    .exact Gc 2 Z (QF ad (Gx 1 Z (DX bk ad (Lr [0,1,2,3,4,5,6,7,8,9,10,11,12,13,14,15,16,17,18,19,20,21,22,23]))))
    refine Gc 3 Z (Bd ad λW t ad=>Ct W [0,1,2,3,4,5,6,7,8,9,10,11,12,13,14,15,16,17,18,19,20,21,22,23] [0,2,3,8,9,11,13,14,16,19,81,82,83] Ze (λW=>[(0,.c 55 [.o 23 (AI W.1) 2]),(5,.c 73 [.o 13 (AI W.2.1) 1]),(9,.c 142 [.o 15 (AI W.2.2.2.1) 1]),(13,.r 3 1 (map eI W.2.1)),(14,.map (Qo I I W.2.2.1)),(15,.r 4 1 (map JL W.2.2.2.1)),(16,.map (Qo I I W.2.2.2.2)),(23,.r 75 2 (map CU.c W.1))]) Zf ?_ (λenv H q=>?_))
    .refine G0 4 Z (Bd t λcv bm t=>Iz bm Z (Go 8 Z (Bd t λav aw t=>Ct av [0,1,2,3,4,5,6,7,8,9,10,11,12,13,14,15,16,17,18,19,20,21,22,23] [0,2,3,8,9,11,13,14,16,19,22,81,82,83] (λav=>[(97,.b av)]) Ze Zf ?_ (λenv H q=>?_))))
     .refine G0 3 Z (Bd aw λcg az aw=>?_);refine vX (.p 15 (toNat g.2.2.2.2.2*1)) (Qd az Z GA GF) ?_;refine vX (.b cg) (Ez Z isAgg4 Z (Qh az)) ?_;exact au aw
     refine Gx 1 Z (Ee q (Cn Z t (λ_ t=>?_) (λ_ t=>?_)))
     .exact au t
     refine Gc 8 Z (Cd [12,17,18,19,20] t Kc Z λal cr t=>?_);refine Ny (x:=(.t [.a (Uh.c al.1),.b al.2])) (H:=[.c 55 [.o 23 (AI g.1) 2],.c 140 [.fn (.func 36) [] [.p 10 0,.p 6 0]],.c 33 (CA.c a6),.c 3 [I a7],.c 128 [.p 12 0],.c 73 [.o 13 (AI g.2.1) 1],.c 137 [.map 14],.c 143 [.fn (.func 38) [] [.p 0 0,.p 1 0,.p 2 0,.p 3 0,.p 4 0,.p 5 0,.p 6 0,.p 7 0,.p 8 0,.p 9 0,.p 10 0]],.c 42 [.q 5 (map CL.c a9)],.c 142 [.o 15 (AI g.2.2.2.1) 1],.c 137 [.map 16],.dead,.c 136 (match_task.tc E F G J L M (.map 17) (.fn (.func 95) [] [.p 18 0,.p 19 0,.p 20 0]) N),.r 3 1 (map eI g.2.1),.map (Qo I I g.2.2.1),.r 4 1 (map JL g.2.2.2.1),.map (Qo I I g.2.2.2.2.1),.map (Qo I (λx=>A.a (Ue.c x)) O),.c 128 [.p 12 0],.c 33 (CA.c P),.c 39 (CD.c Q),.c 147 (Uh.c a2),.c 3 [I ab],.r 75 2 (map CU.c g.1),.c 147 (Uh.c al.1)]) Z (by simp only[Yc,Vj,Vk,List.set_cons_succ,List.set_cons_zero,VJ,Vh];rfl) ?_;refine Go 13 Z (Bd t λX d t=>Ct X [0,1,2,3,4,5,6,7,8,9,10,11,12,13,14,15,16,17,18,19,20,21,22,0] [0,2,3,8,9,11,13,14,16,19,81,82,83] Ze (λX=>[(0,.c 55 [.o 23 (AI X.1) 2]),(5,.c 73 [.o 13 (AI X.2.1) 1]),(9,.c 142 [.o 15 (AI X.2.2.2.1) 1]),(13,.r 3 1 (map eI X.2.1)),(14,.map (Qo I I X.2.2.1)),(15,.r 4 1 (map JL X.2.2.2.1)),(16,.map (Qo I I X.2.2.2.2)),(23,.r 75 2 (map CU.c X.1))]) Zf ?_ (λenv H q=>?_))
     .refine G0 0 Z (Cn Z d (λ_ d=>?_) (λ_ d=>?_))
      .refine Gc 7 Z (Bd d λcw ba d=>?_);refine vX (.p 15 (toNat g.2.2.2.2.2*1)) (Qd ba Z GA GF) ?_;refine Bd d λcx am d=>?_;refine vU (Yy (e:=JL) (k:=1) (f:=0) ba am GF Z Z) ?_;refine FE Z ?_;refine Et (Q8 (s:=107) Z (congrArg (λn=>A.s 15 0 n 1) (Yp am))) ?_;refine Et (Za (i:=9) Z (congrArg (λnz=>CW.cells 142 [.o 15 nz 1]) (Yp am))) ?_;refine Bd d λcy bb d=>?_;refine vX (.p 13 (toNat a1*1)) (Qd bb Z EB EC) ?_;refine Bd d λcz an d=>?_;refine vU (Yy (e:=eI) (k:=1) (f:=0) bb an EC Z Z) ?_;refine FE Z ?_;refine Et (Q8 (s:=109) Z (congrArg (λn=>A.s 13 0 n 1) (Yp an))) ?_;refine Et (Za (i:=5) Z (congrArg (λnz=>CW.cells 73 [.o 13 nz 1]) (Yp an))) ?_;refine Go 6 Z (Bd d λbe bp d=>?_);refine vX (I be) (Yb (ev:=I) (z0:=0) (k:=ab) (l:=g.2.2.2.2.1) YN bp EM EV Eo) ?_;refine Go 1 Z (Bd d λda bq d=>?_);refine vU (Yh (ev:=I) (k:=ab) (v:=(i64.wrap (be-1))) (l:=g.2.2.2.2.1) YN bq Z EM) ?_;refine Fg 9 Z Z (Cd [0,1,2,3,4,5,6,7,8,9,10,23,12,13,14,15,16,17,18,19,20] d Kc Z λY cs d=>?_);refine Ny (x:=(.t [])) (H:=[.c 55 [.o 26 (AI Y.1) 2],.c 140 [.fn (.func 36) [] [.p 10 0,.p 6 0]],.c 33 (CA.c a6),.c 3 [I a7],.c 128 [.p 12 0],.c 73 [.o 13 (AI Y.2.1) 1],.c 137 [.map 14],.c 143 [.fn (.func 38) [] [.p 0 0,.p 1 0,.p 2 0,.p 3 0,.p 4 0,.p 5 0,.p 6 0,.p 7 0,.p 8 0,.p 9 0,.p 10 0]],.c 42 [.q 5 (map CL.c a9)],.c 142 [.o 15 (AI Y.2.2.2.1) 1],.c 137 [.map 16],.dead,.c 136 (match_task.tc E F G J L M (.map 17) (.fn (.func 95) [] [.p 18 0,.p 19 0,.p 20 0]) N),.r 3 1 (map eI Y.2.1),.map (Qo I I Y.2.2.1),.r 4 1 (map JL Y.2.2.2.1),.map (Qo I I Y.2.2.2.2),.map (Qo I (λx=>A.a (Ue.c x)) O),.c 128 [.p 12 0],.c 33 (CA.c P),.c 39 (CD.c Q),.c 147 (Uh.c a2),.c 3 [I ab],.dead,.c 147 (Uh.c al.1),.c 147 (Uh.c al.1),.r 75 2 (map CU.c Y.1)]) Z (by simp only[Yc,Vj,Vk,List.set_cons_succ,List.set_cons_zero,VJ,Vh];rfl) ?_;refine Go 6 Z (Bd d λbg br d=>?_);refine vX (I bg) (Yb (ev:=I) (z0:=0) (k:=ab) (l:=Y.2.2.2.2) YN br EM EV Eo) ?_;refine Go 1 Z (Bd d λdb bs d=>?_);refine vU (Yh (ev:=I) (k:=ab) (v:=(i64.wrap (bg+1))) (l:=Y.2.2.2.2) YN bs Z EM) ?_;refine Fg 7 Z Z (Bd d λdc bc d=>?_);refine vX (.p 15 (toNat g.2.2.2.2.2*1)) (Qd bc Z GA GF) ?_;refine Bd d λdd ao d=>?_;refine vU (Yy (e:=JL) (k:=1) (f:=0) bc ao GF Z Z) ?_;refine FE Z ?_;refine Et (Q8 (s:=128) Z (congrArg (λn=>A.s 15 0 n 1) (Yp ao))) ?_;refine Et (Za (i:=9) Z (congrArg (λnz=>CW.cells 142 [.o 15 nz 1]) (Yp ao))) ?_;refine Bd d λde bd d=>?_;refine vX (.p 13 (toNat a1*1)) (Qd bd Z EB EC) ?_;refine Bd d λdf aq d=>?_;refine vU (Yy (e:=eI) (k:=1) (f:=0) bd aq EC Z Z) ?_;refine FE Z ?_;refine Et (Q8 (s:=130) Z (congrArg (λn=>A.s 13 0 n 1) (Yp aq))) ?_;refine Et (Za (i:=5) Z (congrArg (λnz=>CW.cells 73 [.o 13 nz 1]) (Yp aq))) ?_;exact au d
      exact au d
     refine Gx 1 Z ?_;cases t;exact Nv (En q (Lr [0,1,2,3,4,5,6,7,8,9,10,11,12,13,14,15,16,17,18,19,20,21,22,23]))
    exact Gx 1 Z (Ee q (Gc 4 Z (QZ ad (Lr [0,1,2,3,4,5,6,7,8,9,10,11,12,13,14,15,16,17,18,19,20,21,22,23]))))
   cases B;exact Nv (En q (Lr [0,1,2,3,4,5,6,7,8,9,10,11,12,13,14,15,16,17,18,19,20,21,22,23]))
  refine Gc 1 Z ?_;cases B;refine Nv ?_;refine En (Zv (i:=11) (j:=0) (m:=0) Z Z Z Z Z) ?_;exact Lr [0,1,2,3,4,5,6,7,8,9,10,11,12,13,14,15,16,17,18,19,20,21,22,23]
 refine Gx 1 Z (Ee q (Gc 1 Z (Bd h λax ch h=>Ct ax [0,1,2,3,4,5,6,7,8,9,10,11,12,13,14,15,16,17,18,19,20,21,22,23] [0,3,11,16] (λax=>[(143,.b ax)]) Ze Zf ?_ (λenv H q=>?_))))
 .exact au ch
 refine Gx 1 Z (Ee q (Bd h λy ag h=>Ct y [0,1,2,3,4,5,6,7,8,9,10,11,12,13,14,15,16,17,18,19,20,21,22,0] [] Ze (λy=>[(0,.c 55 [.o 23 (AI y.1) 2]),(5,.c 73 [.o 13 (AI y.2.1) 1]),(9,.c 142 [.o 15 (AI y.2.2.2.1) 1]),(13,.r 3 1 (map eI y.2.1)),(14,.map (Qo I I y.2.2.1)),(15,.r 4 1 (map JL y.2.2.2.1)),(16,.map (Qo I I y.2.2.2.2)),(23,.r 75 2 (map CU.c y.1))]) Zf ?_ (λenv H q=>?_)))
 .refine G0 0 Z (Cn Z ag (λ_ ag=>?_) (λ_ ag=>?_))
  .refine Gc 6 Z (Cd [0,1,2,3,4,5,6,7,8,9,10,23,12,13,14,15,16,17,18,19,20] ag Kc Z λae ct ag=>?_);refine Ny (x:=(.t [])) (H:=[.c 55 [.o 24 (AI ae.1) 2],.c 140 [.fn (.func 36) [] [.p 10 0,.p 6 0]],.c 33 (CA.c a6),.c 3 [I a7],.c 128 [.p 12 0],.c 73 [.o 13 (AI ae.2.1) 1],.c 137 [.map 14],.c 143 [.fn (.func 38) [] [.p 0 0,.p 1 0,.p 2 0,.p 3 0,.p 4 0,.p 5 0,.p 6 0,.p 7 0,.p 8 0,.p 9 0,.p 10 0]],.c 42 [.q 5 (map CL.c a9)],.c 142 [.o 15 (AI ae.2.2.2.1) 1],.c 137 [.map 16],.dead,.c 136 (match_task.tc E F G J L M (.map 17) (.fn (.func 95) [] [.p 18 0,.p 19 0,.p 20 0]) N),.r 3 1 (map eI ae.2.1),.map (Qo I I ae.2.2.1),.r 4 1 (map JL ae.2.2.2.1),.map (Qo I I ae.2.2.2.2),.map (Qo I (λx=>A.a (Ue.c x)) O),.c 128 [.p 12 0],.c 33 (CA.c P),.c 39 (CD.c Q),.c 147 (Uh.c a2),.c 3 [I ab],.dead,.r 75 2 (map CU.c ae.1)]) Z (by simp only[Yc,Vj,Vk,List.set_cons_succ,List.set_cons_zero,VJ,Vh];rfl) ?_;exact au ag
  exact au ag
 refine Nm.mk q func40 Z call40 Z (?_:WO _ _ _ _ _ _ _ (kq _ _ _ [] _));refine Go 2 Z (Bd h λbh bv h=>?_);refine vX (I bh) (Yb (ev:=I) (z0:=0) (k:=ab) (l:=y.2.2.1) YN bv EM EV Eo) ?_;refine Go 1 Z (Bd h λdg bw h=>?_);refine vU (Yh (ev:=I) (k:=ab) (v:=(i64.wrap (bh+1))) (l:=y.2.2.1) YN bw Z EM) ?_;refine Fg 1 Z Z ?_;obtain rfl:=Oi h;exact Rx [0,1,2,3,4,5,6,7,8,9,10,11,12,13,14,15,16,17,18,19,20,23] [] Z (H7.nil Z) ⟨Z,Z⟩
def Tp:Nat->Int->Uh->Bool->Int->(AA CU)->CA->Int->(AA Int)->(AA CL)->(AA Bool)->CA->CD->(AA Int)->(AA CJ)->(AA CL)->(AA Ue)->Int->(AA (Int×Int))->(AA (Int×Int))->(AA (Int×Ue))->CA->CD->AB ((AA CU)×(AA Int)×(AA (Int×Int))×(AA Bool)×(AA (Int×Int)))
  |0=>λ_ _ _ _ _ _ _ _ _ _ _ _ _ _ _ _ _ _ _ _ _ _=>AF
  |n+1=>Z5 (Tp n) n
instance k_o:∀(O:Int) (P:Uh) (Q:Bool) (R:Int) (H:AA CU) (J:CA) (L:Int) (M:AA Int) (N:AA CL) (d:AA Bool) (f:CA) (g:CD) (h:AA Int) (j:AA CJ) (m:AA CL) (q:AA Ue) (t:Int) (F:AA (Int×Int)) (G:AA (Int×Int)) (y:AA (Int×Ue)) (B:CA) (E:CD),Kq (Tp n O P Q R H J L M N d f g h j m q t F G y B E) 38 [I O,.a (Uh.c P),.b Q,I R,.p 0 0,.p 1 0,.p 2 0,.p 3 0,.p 4 0,.p 5 0,.p 6 0,.p 7 0,.p 8 0,.p 9 0,.p 10 0] [.c 55 [.o 11 (AI H) 2],.c 140 [.fn (.func 36) [] [.p 10 0,.p 6 0]],.c 33 (CA.c J),.c 3 [I L],.c 128 [.p 12 0],.c 73 [.o 13 (AI M) 1],.c 137 [.map 14],.c 143 [.fn (.func 38) [] [.p 0 0,.p 1 0,.p 2 0,.p 3 0,.p 4 0,.p 5 0,.p 6 0,.p 7 0,.p 8 0,.p 9 0,.p 10 0]],.c 42 [.q 5 (map CL.c N)],.c 142 [.o 15 (AI d) 1],.c 137 [.map 16],.r 75 2 (map CU.c H),.c 136 (match_task.tc f g h j m q (.map 17) (.fn (.func 95) [] [.p 18 0,.p 19 0,.p 20 0]) t),.r 3 1 (map eI M),.map (Qo I I F),.r 4 1 (map JL d),.map (Qo I I G),.map (Qo I (λx=>A.a (Ue.c x)) y),.c 128 [.p 12 0],.c 33 (CA.c B),.c 39 (CD.c E)] (λ_=>.t []) (λr=>[.c 55 [.o 21 (AI r.1) 2],.c 140 [.fn (.func 36) [] [.p 10 0,.p 6 0]],.c 33 (CA.c J),.c 3 [I L],.c 128 [.p 12 0],.c 73 [.o 13 (AI r.2.1) 1],.c 137 [.map 14],.c 143 [.fn (.func 38) [] [.p 0 0,.p 1 0,.p 2 0,.p 3 0,.p 4 0,.p 5 0,.p 6 0,.p 7 0,.p 8 0,.p 9 0,.p 10 0]],.c 42 [.q 5 (map CL.c N)],.c 142 [.o 15 (AI r.2.2.2.1) 1],.c 137 [.map 16],.dead,.c 136 (match_task.tc f g h j m q (.map 17) (.fn (.func 95) [] [.p 18 0,.p 19 0,.p 20 0]) t),.r 3 1 (map eI r.2.1),.map (Qo I I r.2.2.1),.r 4 1 (map JL r.2.2.2.1),.map (Qo I I r.2.2.2.2),.map (Qo I (λx=>A.a (Ue.c x)) y),.c 128 [.p 12 0],.c 33 (CA.c B),.c 39 (CD.c E),.r 75 2 (map CU.c r.1)]):=by
  induction n with
  |zero=>exact λ_ _ _ _ _ _ _ _ _ _ _ _ _ _ _ _ _ _ _ _ _ _=>⟨nofun⟩
  |succ n ih=>exact Qb6 _ ih n
def Kv(g:AA Int)(h:AA Int)(d:Int):AB (CF Int (CF Unit Int)):=(bif d<(AI g:Int) then AH (CI g d) λj=>(bif (AI h:Int)<=d then AC (.d (.d 1))else AH (CI h d) λm=>AH (Km n j m) λf=>(bif (f != 0)then AC (.d (.d f))else AC (.k (i64.wrap (d+1)))))else AC (.d (.k ())))
def PH(f:AA Int)(g:AA Int):AB Int:=AH (iter (Kv n f g) n 0:AB (CF Unit Int)) λh=>match h with|.k d=>(bif (AI f:Int)<(AI g:Int) then AC (-1)else AC 0)|.d d=>AC d
instance yM(d:AA Int)(f:AA Int):Ks (PH n d f) 45 [.q 1 (map eI d),.q 1 (map eI f)] [] (λr=>I r):=KA func45
def Mm(d:CU)(f:CU):AB Int:=AH (PH n d.BL f.BL) λg=>(bif (g != 0)then AC g else AC (i64.wrap (d.A7-f.A7)))
instance jr(d:CU)(f:CU):Ks (Mm n d f) 44 [.a (CU.c d),.a (CU.c f)] [] (λr=>I r):=KA func44
def OK(n:Nat)(g:(AA Int)×(AA CJ)×(AA Ue)×(AA (Int×Ue))×Int)(d:(AA (Int×Int))×Int):AB (CF ((AA (Int×Int))×Int) (AA (Int×Int))):=(bif d.2<(AI g.1:Int) then AH (CI g.1 d.2) λf=>AH (AC (Qn d.1 f 0)) λh=>AH (AC (QK d.1 f (i64.wrap (h+1)))) λj=>AC (.k (j,i64.wrap (d.2+1)))else AC (.d d.1))
def N7(n:Nat)(g:AA CL)(d:(AA (Int×Int))×Int):AB (CF ((AA (Int×Int))×Int) (AA (Int×Int))):=(bif d.2<(AI g:Int) then AH (CI g d.2) λf=>AH (AC (Qn d.1 f.Al 0)) λh=>AH (AC (QK d.1 f.Al (i64.wrap (h+1)))) λj=>AC (.k (j,i64.wrap (d.2+1)))else AC (.d d.1))
def HW(h:CA)(j:CD)(G:AO)(H:Int)(f:AA CL)(J:AA Ac):AB ((AA CU)×Int):=AH (NF n h j G H f J) λL=>(match L with|.c0 m=>((bif (m != 0)then AC ([],m)else AF))|.c1 d=>(AH (iter (OK n d) n ([],0):AB (AA (Int×Int))) λq=>AH (iter (N7 n f) n ([],0):AB (AA (Int×Int))) λt=>AH (K8 n [(-1)] (AI d.1:Int)) λB=>AH (mk (AI f:Int) AD) λE=>AH (Mq n) λM=>AH (Tp n 0 ({DV with Bm:=(-1):Uh}) AD (-1) ([]:AA CU) h (AI d.1:Int) B f E h j d.1 d.2.1 f d.2.2.1 d.2.2.2.2 q t d.2.2.2.1 h j) λg=>(bif 64<(AI g.1:Int) then AC ([],2)else(bif ((AI g.1:Int)==0)then AC ([],190)else AH (L8 (λx y=>Mm n x y) g.1) λF=>AC (F,0)))))
instance kC(d:CA)(g:CD)(V:AO)(a4:Int)(B:AA CL)(a6:AA Ac):Kq (HW n d g V a4 B a6) 9 [.a (CA.c d),.a (CD.c g),.a (AO.c V),I a4,.q 5 (map CL.c B),.q 4 (map Ac.c a6)] [] (λr=>.t [.o 0 (AI r.1) 2,I r.2]) (λr=>[.r 75 2 (map CU.c r.1),.c 55 [.o 0 (AI r.1) 2]]):=by
 refine Kg 5 func9 Z Z Z Z λr h=>vH (E_.box Z Z Z Z Z) ?_;refine Fg 12 Z Z (Bd h λr1 am h=>?_);refine Qf [] (C6.fn call35 Z Z Z) (jT _ _ _ _ _ _ _ _ am) ?_;intro ra rH h2;rcases r1 with W|f
 .obtain⟨rfl,rfl⟩:=h2;refine Fg 15 Z Z (Cn Z h (λ_ h=>?_) (λ_ h=>?_))
  .refine Gc 9 Z ?_;obtain rfl:=Oi h;refine⟨[(12,.p 1 0),(13,I (([],W).2))],[.r 75 2 (map CU.c (([],W).1)),.c 55 [.o 0 (AI (([],W).1)) 2]],_,?_,QJ Z Z (C5.cons (YD isAgg55 Z Z) (C5.cons D2.tmp C5.nil)),Z,Z⟩;refine En (Ye (i:=4) (m:=0) (t:=75) (k:=2) Z Z Z) ?_;exact Lr [7,4]
  refine Gc 3 Z ?_;cases h
 .obtain⟨rfl,rfl⟩:=h2;refine aV (.t [.p 5 0,I 0]) [.c 33 (CA.c d),.c 39 (CD.c g),.c 41 (AO.c V),.c 42 [.q 5 (map CL.c B)],.c 55 [.n],.c 136 [.str d.Ao,.q 2 (map Al.c d.Ar),.q 4 (map Cp.c d.Az),.q 5 (map AN.c d.AP),.q 2 (map A2.c d.A0),.q 4 (map AZ.c d.Ab),.q 3 (map AW.c d.AV),.q 4 (map CQ.c d.Ay),.q 8 (map AY.enc d.BN),I d.AQ.A8,I d.AQ.A6,I d.AQ.A5,I d.AQ.Ak,I d.AQ.BC,I d.Bj,I d.Av,.q 3 (map CC.c g.AR),.q 1 (map (Qu 1 eI) g.BP),.q 1 (map eI f.1),.o 6 (AI f.2.1) 2,.q 5 (map CL.c B),.o 7 (AI f.2.2.1) 3,.map 8,.fn (.func 95) [] [.p 9 0,.p 10 0,.p 11 0],I f.2.2.2.2],.r 83 2 (map CJ.c f.2.1),.r 145 3 (map Ue.c f.2.2.1),.map (Qo I (λx=>A.a (Ue.c x)) f.2.2.2.1),.c 128 [.p 5 0],.c 33 (CA.c d),.c 39 (CD.c g)] Z Z ?_;refine Go 12 Z ?_;refine vX (.b AD) (CS.neq (m:=0) (n:=0) Z Z Z) ?_;refine Go 11 Z (Lg 6 Z Z (vH Yl ?_));refine Fg 11 Z Z (Lg 3 Z Z (Bd h λL ao h=>Ct L [0,1,2,3,4,5,6,7,8,9,10,11,12,13] [6] (λ_=>[(10,.p 1 0),(12,.p 2 0),(14,.p 3 0),(15,.p 11 0),(16,.p 12 0)]) (λL=>[(1,.c 42 [.q 5 (map CL.c B)]),(2,.c 55 [.n]),(3,.c 128 [.p 4 0]),(4,.c 136 [.str d.Ao,.q 2 (map Al.c d.Ar),.q 4 (map Cp.c d.Az),.q 5 (map AN.c d.AP),.q 2 (map A2.c d.A0),.q 4 (map AZ.c d.Ab),.q 3 (map AW.c d.AV),.q 4 (map CQ.c d.Ay),.q 8 (map AY.enc d.BN),I d.AQ.A8,I d.AQ.A6,I d.AQ.A5,I d.AQ.Ak,I d.AQ.BC,I d.Bj,I d.Av,.q 3 (map CC.c g.AR),.q 1 (map (Qu 1 eI) g.BP),.q 1 (map eI f.1),.o 5 (AI f.2.1) 2,.q 5 (map CL.c B),.o 6 (AI f.2.2.1) 3,.map 7,.fn (.func 95) [] [.p 8 0,.p 9 0,.p 10 0],I f.2.2.2.2]),(5,.r 83 2 (map CJ.c f.2.1)),(6,.r 145 3 (map Ue.c f.2.2.1)),(7,.map (Qo I (λx=>A.a (Ue.c x)) f.2.2.2.1)),(8,.c 128 [.p 4 0]),(9,.c 33 (CA.c d)),(10,.c 39 (CD.c g)),(11,.c 3 [I (AI f.1:Int)]),(12,.c 137 [.map 13]),(13,.map (Qo I I L))]) Zf ?_ (λenv H aq=>?_)))
  .refine G0 1 Z (Lp [0,3,4,12,5,6,7,8,9,10,11,13,15,14] [6,10,12,14,15,16,48,49] (λG=>[(50,I G.2)]) (λG=>[(3,.c 128 [.p 4 0]),(4,.c 136 [.str d.Ao,.q 2 (map Al.c d.Ar),.q 4 (map Cp.c d.Az),.q 5 (map AN.c d.AP),.q 2 (map A2.c d.A0),.q 4 (map AZ.c d.Ab),.q 3 (map AW.c d.AV),.q 4 (map CQ.c d.Ay),.q 8 (map AY.enc d.BN),I d.AQ.A8,I d.AQ.A6,I d.AQ.A5,I d.AQ.Ak,I d.AQ.BC,I d.Bj,I d.Av,.q 3 (map CC.c g.AR),.q 1 (map (Qu 1 eI) g.BP),.q 1 (map eI f.1),.o 5 (AI f.2.1) 2,.q 5 (map CL.c B),.o 6 (AI f.2.2.1) 3,.map 7,.fn (.func 95) [] [.p 8 0,.p 9 0,.p 10 0],I f.2.2.2.2]),(8,.c 128 [.p 4 0]),(12,.c 137 [.map 13]),(13,.map (Qo I I G.1))]) ao Zf (Lr [0,3,4,12,5,6,7,8,9,10,11,13,15,14]) λG ax j X=>?_);refine G0 6 Z (Q5 Z j (λ_ j=>?_) (λ_ j=>?_))
   .exact Gc 2 Z (QF j (Gx 1 Z (DX X j (Lr [0,1,2,3,4,5,6,7,8,9,10,11,12,13]))))
   refine Gc 6 Z (Bd j λP aa j=>Iz aa Z (Go 7 Z (Bd j λQ ab j=>?_)));refine vX (I Q) (Yb (ev:=I) (z0:=0) (k:=P) (l:=G.1) YN ab EM EV Eo) ?_;refine Go 1 Z (Bd j λay ac j=>?_);refine vU (Yh (ev:=I) (k:=P) (v:=(i64.wrap (Q+1))) (l:=G.1) YN ac Z EM) ?_;exact au j
  refine Gx 1 Z (Ee aq (Gc 2 Z (vH Yl ?_)));refine Fg 8 Z Z (Lg 3 Z Z (Bd h λM ar h=>Cg M [0,1,2,3,4,5,6,7,8,9,10,11,12,13,14,15] [6,10,12,14,15,16] (λ_=>[(19,.p 14 0)]) (λM=>[(14,.c 137 [.map 15]),(15,.map (Qo I I M))]) Zf ?_ ?_))
  .refine G0 1 Z (Lp [0,1,2,3,4,5,6,7,8,9,10,11,12,13,15,14] [6,10,12,14,15,16,19,60,61] (λJ=>[(62,I J.2)]) (λJ=>[(14,.c 137 [.map 15]),(15,.map (Qo I I J.1))]) ar Zf (Lr [0,1,2,3,4,5,6,7,8,9,10,11,12,13,15,14]) λJ az q ad=>?_);refine G0 6 Z (Q5 Z q (λ_ q=>?_) (λ_ q=>?_))
   .exact Gc 2 Z (QF q (Gx 1 Z (DX ad q (Lr [0,1,2,3,4,5,6,7,8,9,10,11,12,13,14,15]))))
   refine Gc 6 Z (Bd q λR af q=>Iz af Z (Go 9 Z (Bd q λT ag q=>?_)));refine vX (I T) (Yb (ev:=I) (z0:=0) (k:=R.Al) (l:=J.1) YN ag EM EV Eo) ?_;refine Go 1 Z (Bd q λba ah q=>?_);refine vU (Yh (ev:=I) (k:=R.Al) (v:=(i64.wrap (T+1))) (l:=J.1) YN ah Z EM) ?_;exact au q
  refine Gc 9 Z (vH (Ek (xs:=[.const (.int .i64 (-1))]) (es:=map eI [(-1)]) QG Z Z Z Z Z ⟨Z,trivial⟩ Z Z) ?_);refine Fg 1 Z Z ?_;refine Et (Ym [(73,_)] Z Z (Cx.cons Z Ep Cx.nil) (Ec (Ec (Ec (Ec (Ec (Ec (Ec (Ec (Ec (Ec (Ec (Ec (Ec (Ec (Ec (Ec (Ec (Ec (QQ _)))))))))))))))))))) ?_;refine Cd [] h Kc Z λN av h=>Fg 7 Z Z (Lm Z (Bd h λO ai h=>vH (lg (e:=JL) (zv:=AD) (a:=(.b AD)) ai M? E7 ZR.bool Z Z Z Z) ?_));refine Fg 16 Z Z (HY 2 [1] [(0,0,1),(1,0,0)] (by kernel_rfl) ?_);refine KG (lo:=0) (x:=.fn (.func 38) [] [.p 2 0,.p 16 0,.p 0 0,.p 11 0,.p 3 0,.p 19 0,.p 12 0,.p 22 0,.p 1 0,.p 21 0,.p 14 0]) ⟨Z,trivial⟩ ?_;obtain⟨bb,aj,h⟩:=Qw h;refine Ex (x:=.a [I (-1),I 0,I 0,I 0,I 0]) (X1:=[.c 33 (CA.c d),.c 42 [.q 5 (map CL.c B)],.c 55 [.n],.c 128 [.p 4 0],.c 136 [.str d.Ao,.q 2 (map Al.c d.Ar),.q 4 (map Cp.c d.Az),.q 5 (map AN.c d.AP),.q 2 (map A2.c d.A0),.q 4 (map AZ.c d.Ab),.q 3 (map AW.c d.AV),.q 4 (map CQ.c d.Ay),.q 8 (map AY.enc d.BN),I d.AQ.A8,I d.AQ.A6,I d.AQ.A5,I d.AQ.Ak,I d.AQ.BC,I d.Bj,I d.Av,.q 3 (map CC.c g.AR),.q 1 (map (Qu 1 eI) g.BP),.q 1 (map eI f.1),.o 5 (AI f.2.1) 2,.q 5 (map CL.c B),.o 6 (AI f.2.2.1) 3,.map 7,.fn (.func 95) [] [.p 8 0,.p 9 0,.p 10 0],I f.2.2.2.2],.r 83 2 (map CJ.c f.2.1),.r 145 3 (map Ue.c f.2.2.1),.map (Qo I (λx=>A.a (Ue.c x)) f.2.2.2.1),.c 128 [.p 4 0],.c 33 (CA.c d),.c 39 (CD.c g),.c 3 [I (AI f.1:Int)],.c 137 [.map 13],.map (Qo I I L),.c 137 [.map 15],.map (Qo I I M),.c 140 [.fn (.func 36) [] [.p 14 0,.p 12 0]],.dead,.r 3 1 (map eI N),.c 73 [.o 18 (AI N) 1],.r 4 1 (map JL O),.c 142 [.o 20 (AI O) 1],.c 143 [.fn (.func 38) [] [.p 2 0,.p 16 0,.p 0 0,.p 11 0,.p 3 0,.p 19 0,.p 12 0,.p 22 0,.p 1 0,.p 21 0,.p 14 0]],.c 147 [I (-1),I 0,I 0,I 0,I 0]]) ?_ ?_
  .refine Qf [] (C6.fn call42 Z Z Z) ((jy _).c _ aj) ?_;rintro _ _ ⟨rfl,rfl⟩;exact FE Z Wp
  refine DK.done Z Z ?_;refine Et (Ye (i:=2) (m:=0) (t:=75) (k:=2) Z Z Z) ?_;refine Nx (H:=[.c 33 (CA.c d),.c 42 [.q 5 (map CL.c B)],.c 55 [.o 24 (AI ([]:AA CU)) 2],.c 128 [.p 4 0],.c 136 [.str d.Ao,.q 2 (map Al.c d.Ar),.q 4 (map Cp.c d.Az),.q 5 (map AN.c d.AP),.q 2 (map A2.c d.A0),.q 4 (map AZ.c d.Ab),.q 3 (map AW.c d.AV),.q 4 (map CQ.c d.Ay),.q 8 (map AY.enc d.BN),I d.AQ.A8,I d.AQ.A6,I d.AQ.A5,I d.AQ.Ak,I d.AQ.BC,I d.Bj,I d.Av,.q 3 (map CC.c g.AR),.q 1 (map (Qu 1 eI) g.BP),.q 1 (map eI f.1),.o 5 (AI f.2.1) 2,.q 5 (map CL.c B),.o 6 (AI f.2.2.1) 3,.map 7,.fn (.func 95) [] [.p 8 0,.p 9 0,.p 10 0],I f.2.2.2.2],.r 83 2 (map CJ.c f.2.1),.r 145 3 (map Ue.c f.2.2.1),.map (Qo I (λx=>A.a (Ue.c x)) f.2.2.2.1),.c 128 [.p 4 0],.c 33 (CA.c d),.c 39 (CD.c g),.c 3 [I (AI f.1:Int)],.c 137 [.map 13],.map (Qo I I L),.c 137 [.map 15],.map (Qo I I M),.c 140 [.fn (.func 36) [] [.p 14 0,.p 12 0]],.dead,.r 3 1 (map eI N),.c 73 [.o 18 (AI N) 1],.r 4 1 (map JL O),.c 142 [.o 20 (AI O) 1],.c 143 [.fn (.func 38) [] [.p 2 0,.p 16 0,.p 0 0,.p 11 0,.p 3 0,.p 19 0,.p 12 0,.p 22 0,.p 1 0,.p 21 0,.p 14 0]],.c 147 [I (-1),I 0,I 0,I 0,I 0],.r 75 2 (map CU.c ([]:AA CU))]) Z ?_;refine Et (Ym (i:=5) [] Z Z Cx.nil (Ec (Ec (Ec (Ec (Dg.cells (CN.k (CN.k (CN.k (CN.k (CN.k (CN.k (CN.k (CN.k (CN.k (CN.k (CN.k (CN.k (CN.k (CN.k (CN.k (CN.k (CN.k (CN.k (CN.k (Ed Ep (Ej _))))))))))))))))))))) (Ec (QQ _)))))))) ?_;refine Et (Ym (i:=6) [] Z Z Cx.nil (Ec (Ec (Ec (Ec (Dg.cells (CN.k (CN.k (CN.k (CN.k (CN.k (CN.k (CN.k (CN.k (CN.k (CN.k (CN.k (CN.k (CN.k (CN.k (CN.k (CN.k (CN.k (CN.k (CN.k (CN.k (CN.k (Ed Ep (Ej _))))))))))))))))))))))) (Ec (Ec (QQ _))))))))) ?_;refine Cd [2,16,0,11,3,19,12,22,1,21,14,24,4,18,13,20,15,7,8,9,10] h Kc Z λE aw h=>?_;refine Ny (x:=(.t [])) (H:=[.c 33 (CA.c d),.c 42 [.q 5 (map CL.c B)],.c 55 [.o 25 (AI E.1) 2],.c 128 [.p 4 0],.c 136 (match_task.tc d g f.1 f.2.1 B f.2.2.1 (.map 7) (.fn (.func 95) [] [.p 8 0,.p 9 0,.p 10 0]) f.2.2.2.2),.dead,.dead,.map (Qo I (λx=>A.a (Ue.c x)) f.2.2.2.1),.c 128 [.p 4 0],.c 33 (CA.c d),.c 39 (CD.c g),.c 3 [I (AI f.1:Int)],.c 137 [.map 13],.map (Qo I I E.2.2.1),.c 137 [.map 15],.map (Qo I I E.2.2.2.2),.c 140 [.fn (.func 36) [] [.p 14 0,.p 12 0]],.dead,.r 3 1 (map eI E.2.1),.c 73 [.o 18 (AI E.2.1) 1],.r 4 1 (map JL E.2.2.2.1),.c 142 [.o 20 (AI E.2.2.2.1) 1],.c 143 [.fn (.func 38) [] [.p 2 0,.p 16 0,.p 0 0,.p 11 0,.p 3 0,.p 19 0,.p 12 0,.p 22 0,.p 1 0,.p 21 0,.p 14 0]],.c 147 [I (-1),I 0,I 0,I 0,I 0],.dead,.r 75 2 (map CU.c E.1)]) Z (by simp only[Yc,Vj,Vk,List.set_cons_succ,List.set_cons_zero,VJ,Vh];rfl) ?_;refine Go 10 Z (Cn Z h (λ_ h=>?_) (λ_ h=>?_))
  .refine Gc 8 Z ?_;obtain rfl:=Oi h;refine⟨[(12,.p 1 0),(13,I (([],2).2))],[.r 75 2 (map CU.c (([],2).1)),.c 55 [.o 0 (AI (([],2).1)) 2]],_,?_,QJ Z Z (C5.cons (YD isAgg55 Z Z) (C5.cons D2.tmp C5.nil)),Z,Z⟩;refine En (Ye (i:=2) (m:=0) (t:=75) (k:=2) Z Z Z) ?_;exact Lr [26,2]
  refine Gc 10 Z (Cn Z h (λ_ h=>?_) (λ_ h=>?_))
  .refine Gc 8 Z ?_;obtain rfl:=Oi h;refine⟨[(12,.p 1 0),(13,I (([],190).2))],[.r 75 2 (map CU.c (([],190).1)),.c 55 [.o 0 (AI (([],190).1)) 2]],_,?_,QJ Z Z (C5.cons (YD isAgg55 Z Z) (C5.cons D2.tmp C5.nil)),Z,Z⟩;refine En (Ye (i:=2) (m:=0) (t:=75) (k:=2) Z Z Z) ?_;exact Lr [26,2]
  refine Gc 5 Z (Bd h λbc F h=>?_);refine Qf [25] (C6.fn call43 Z Z Z) (qU (enc:=CU.c) Qhz F (λx y c h=>(jr n x y).c c h) isAgg75 GS call44 Zf Z) ?_;rintro _ _ ⟨rfl,rfl⟩;refine FE Z ?_;refine Et (Q8 (s:=83) Z (congrArg (λn=>A.s 25 0 n 2) (eG F))) ?_;refine Et (Q8 (s:=86) Z (congrArg (λn=>A.s 25 0 n 2) (eG F))) ?_;refine Et (Q8 (s:=89) Z (congrArg (λn=>A.s 25 0 n 2) (eG F))) ?_;refine Et (Za (i:=2) Z (congrArg (λnz=>CW.cells 55 [.o 25 nz 2]) (eG F))) ?_;exact au h
def IH(d:Ui):AB (Ui×Int):=AH (Ij n d.A3 d.Ai.AN d.BV) λf=>AH ((bif (f.2 != 0)then AC AE else(bif d.Aw<(-1) then AC AE else AC (AG ((AI f.1:Int)<=d.Aw)))):AB Bool) λh=>(bif h then AC (d,90)else AH ((bif (d.Aw==(-1))then AC ({d with Aw:=i64.wrap ((AI f.1:Int)-1):Ui})else AC d):AB Ui) λg=>AC (g,0))
instance kB(g:Ui):Kq (IH n g) 32 [.p 0 0] [.c 123 (Ui.c g)] (λr=>I r.2) (λr=>[.c 123 (Ui.c r.1)]):=by
 refine Kg 6 func32 Z Z Z Z λr h=>DP 18 Z (D 13 Z ?_);obtain⟨j,m,h⟩:=Qw h;refine DS.wo (x:=.t [.q 1 (map eI j.1),I j.2]) ?_ ?_
 .refine Qf [] (C6.fn call82 Z Z Z) ((bG _ _ _ _).c _ m) ?_;rintro _ _ ⟨rfl,rfl⟩;exact FE Z Wp
 refine D 4 Z (Eg Z (Go 5 Z (Bd h λf B h=>(Ct f [0] [0,3] (λf=>[(39,.b f)]) Ze Zf ?_ (λenv H q=>?_)))))
 .exact au B
 refine Gx 1 Z (Ee q (Cn Z h (λ_ h=>?_) (λ_ h=>?_)))
 .exact au h
 refine Gc 12 Z (Bd h λd y h=>Cg d [0] [] Ze (λd=>[(0,.c 123 (Ui.c d))]) Zf ?_ ?_)
 .exact au y
 exact au h
def UT(n:Nat)(h:AA CE)(j:Int)(d:Int×Int×Bool×Int):AB (CF (Int×Int×Bool×Int) (Int×Int×Bool)):=(bif d.2.2.2<(AI h:Int) then AH (CI h d.2.2.2) λf=>AH ((bif f.AT<=j then(bif d.2.2.1 then AC (i64.wrap (d.1+f.BW),i64.wrap (d.2.1+f.As),AE)else AC (i64.wrap (d.1+f.BW),i64.wrap (d.2.1+f.As),f.A'))else AC (d.1,d.2.1,d.2.2.1)):AB (Int×Int×Bool)) λg=>AC (.k (g.1,g.2.1,g.2.2,i64.wrap (d.2.2.2+1)))else AC (.d (d.1,d.2.1,d.2.2.1)))
def MZ(f:AA CE)(g:Int):AB (Int×Int×Bool):=AH (iter (UT n f g) n (0,0,AD,0):AB (Int×Int×Bool)) λd=>AC (d.1,d.2.1,d.2.2)
instance yy(F:AA CE)(G:Int):Ks (MZ n F G) 83 [.q 4 (map CE.c F),I G] [] (λr=>.t [I r.1,I r.2.1,.b r.2.2]):=by
 refine Kg 11 func83 Z Z Z Z λr h=>Lg 3 Z Z (Bd h λq J h=>Cg q [] [] (λq=>[(4,I q.1),(5,I q.2.1),(6,.b q.2.2)]) Ze Zf ?_ ?_)
 .refine G0 1 Z (Lp [] [1,9,10] (λd=>[(4,I d.1),(5,I d.2.1),(6,.b d.2.2.1),(11,I d.2.2.2)]) Ze J Zf (Lr []) λd M g x=>?_);refine G0 6 Z (Q5 Z g (λ_ g=>?_) (λ_ g=>?_))
  .exact Gc 2 Z (QF g (Gx 1 Z (DX x g (Lr []))))
  refine Gc 6 Z (Bd g λf B g=>Iz B Z (Go 13 Z (Bd g λt m g=>Ct t [] [1,9,10,11] (λt=>[(4,I t.1),(5,I t.2.1),(6,.b t.2.2)]) Ze Zf ?_ (λenv H L=>?_))))
  .refine G0 0 Z (Cn Z m (λ_ m=>?_) (λ_ m=>?_))
   .refine If m (λj m=>?_) (λj m=>?_)
    .refine TC.draw0 15 [19,20,21,22,23,24,25,26,27,28,29,30,31,4,5] [I d.1,.p 0 1,I f.BW,I (i64.wrap (d.1+f.BW)),I d.2.1,.p 0 2,I f.As,I (i64.wrap (d.2.1+f.As)),.b d.2.2.1,.b d.2.2.1,.t [],.t [],.b AE,I (i64.wrap (d.1+f.BW)),I (i64.wrap (d.2.1+f.As))] DD Z Z Z ?_ ?_
     .refine Oq.c ?_ (ov (ov (Oq.c ?_ (Oq.c ?_ (ov (ov (Oq.c ?_ (ov (ov (Oq.c ?_ (Oq.c ?_ (Oq.c ?_ (ov (ov (Oq.n)))))))))))))))
      .refine Om Z (sP 13 sN) ?_;exact S Z Wp
      .refine Om Z (sD 0 (sD 2 sN)) ?_;exact S Z Wp
      .refine Om Z (sP 14 sN) ?_;exact S Z Wp
      .refine Om Z (sD 4 (sD 6 sN)) ?_;exact S Z Wp
      .refine Om Z (sO 8 (sD 9 sN)) ?_;exact K (gF j) Z Wp
      .refine Om Z (sD 9 (sD 10 sN)) ?_;exact K (gF j) Z Wp
      .refine Om Z (sD 9 (sD 11 sN)) ?_;exact Pk j Z Wp
     exact Gl 2 Z m []
    .refine TC.draw0 15 [19,20,21,22,23,24,25,26,27,28,29,30,31,4,5] [I d.1,.p 0 1,I f.BW,I (i64.wrap (d.1+f.BW)),I d.2.1,.p 0 2,I f.As,I (i64.wrap (d.2.1+f.As)),.b d.2.2.1,.b d.2.2.1,.p 0 3,.b f.A',.b f.A',I (i64.wrap (d.1+f.BW)),I (i64.wrap (d.2.1+f.As))] DD Z Z Z ?_ ?_
     .refine Oq.c ?_ (ov (ov (Oq.c ?_ (Oq.c ?_ (ov (ov (Oq.c ?_ (ov (ov (Oq.c ?_ (Oq.c ?_ (Oq.c ?_ (ov (ov (Oq.n)))))))))))))))
      .refine Om Z (sP 13 sN) ?_;exact S Z Wp
      .refine Om Z (sD 0 (sD 2 sN)) ?_;exact S Z Wp
      .refine Om Z (sP 14 sN) ?_;exact S Z Wp
      .refine Om Z (sD 4 (sD 6 sN)) ?_;exact S Z Wp
      .refine Om Z (sO 8 (sD 9 sN)) ?_;exact HJ (gT j) QqI Z Wp
      .refine Om Z (sD 9 (sD 10 sN)) ?_;exact Ldg (gT j) isAgg4 Z Wp
      .refine Om Z (sD 9 (sD 11 sN)) ?_;exact Pk j Z Wp
     exact Gl 2 Z m []
   exact au m
  exact Gx 2 Z (Ee L (Gc 4 Z (QZ g (Lr []))))
 exact au h
def Kn(n:Nat):AB Unit:=AC ()
instance ZB:Kq (Kn n) 53 [] [] (λ_=>.a [.b AE,I (-1),I 0,I 0]) (λ_=>[.c 77 [.b AE,I (-1),I 0,I 0]]):=KA func53
def K5(f:Ui):AB (AA CB):=AH (MZ n f.Bi f.Aw) λd=>(bif d.2.2 then AH (Kn n) λg=>AC [{A':=AE,A_:=(-1),Lo:=0,Hi:=0:CB}]else AH (Kn n) λh=>AC [{A':=AE,A_:=(-1),Lo:=0,Hi:=0:CB},{A':=AD,A_:=(-1),Lo:=i64.wrap (d.1-2199023255552),Hi:=i64.wrap (d.1+2199023255552):CB}])
instance zP(d:Ui):Kq (K5 n d) 33 [.a (Ui.c d)] [] (λr=>.o 0 (AI r) 4) (λr=>[.r 77 4 (map CB.c r)]):=KA func33
def fX(n:Nat)(d:AA Int):AB Unit:=AC ()
instance v_(d:AA Int):Kq (fX n d) 221 [.a [.q 1 (map eI d),.nilm]] [] (λ_=>.fn (.func 281) [] [.p 0 0]) (λ_=>[.c 284 [.q 1 (map eI d),.nilm]]):=KA func221
def ns(n:Nat)(h:AA Int)(d:(AA (Int×Int))×Int):AB ((AA (Int×Int))×CF ((AA (Int×Int))×Int) Unit):=(bif d.2<(AI h:Int) then AH (CI h d.2) λf=>AH (AC (Qn d.1 f 0)) λj=>AH (AC (QK d.1 f (i64.wrap (j+1)))) λg=>AH (AC (Qn g f 0)) λm=>yl (d.2,m) (AC ([],.k (g,i64.wrap (d.2+1))))else AC ([],.d ()))
def fk(d:AA Int):AB ((AA (Int×Int))×Unit):=ap (L5 (ns n d) n ([],0)) λf=>AC ([],())
theorem jV(B:AA Int)(p:(AA (Int×Int))×Unit)(h:fk n B=AC p):RN prog 281 [.p 0 0] [.c 284 [.q 1 (map eI B),.nilm]] (λx=>[I x.1,I x.2]) R5 p.1:=by
 obtain⟨xs,u⟩:=p;refine uQ func281 Z Z Z Z ?_;intro X hE hN;refine Z0 1 Z (Cy.lf (G0 1 Z (vH Yl ?_)));refine Fg 2 Z Z ?_;refine Hu 2 Z (Cy.lf (G0 3 Z (Lg 2 Z Z ?_)));obtain⟨M,E,F,G,J,rfl⟩:=pC h;rw[Vi];refine rA E (F++[]) [0] [0] Ze Ze Zf ?_ (λenv H N=>?_)
 .refine Z0 1 Z (pL [0,1] [0,3,8,9] (λf=>[(10,I f.2)]) (λf=>[(1,.map (Qo I I f.1))]) G Zf (Lr [0,1]) λf O P Q d g=>?_);refine Z0 1 Z (Cy.lf (G0 3 Z ?_));refine Hu 2 Z (Cy.lf (G0 0 Z (Q5 Z d (λ_ d=>?_) (λ_ d=>?_))))
  .refine Gc 1 Z (Hu 1 Z ?_);obtain⟨rfl,rfl,rfl⟩:=Oy g d;exact pZ (Hu 1 Z (pD (Lr [0])))
  refine Gc 1 Z (Hu 4 Z (Cy.lf ?_));refine G0 2 Z (Bd d λR m d=>Iz m Z (Go 4 Z (Hu 2 Z (Cy.lf ?_))));refine G0 3 Z (Bd d λT q d=>(vV (Yb YN q EM EV Eo) ?_));refine Go 1 Z (Bd d λV t d=>(vU (Yh YN t Z EM) ?_));refine Fg 1 Z Z (Hu 7 Z ?_);refine FS.step (Bd d λW y d=>?_);refine vV (Yb YN y EM EV Eo) (WO.nil ⟨Z,?_⟩);obtain⟨Y,L,rfl⟩:=o9 d;refine pM hE hN Z Z Z Z Z Z ?_ ?_
  .refine iu 3 Z (Cy.lf ?_);refine G0 2 Z (Hu 2 Z (Cy.lf ?_));exact G0 4 Z (Hu 0 Z (pX L (Lr [0,1])))
  .exact iu 7 Z (pY (Hu 1 Z (pE (⟨.inr Z,.inr ⟨_,Z⟩⟩))))
 cases J;exact⟨.inl Z,.inl Z⟩
def Wc(n:Nat)(d:AA Int)(f:AA (Ub×Cp)):AB Unit:=AC ()
instance wy(d:AA Int)(f:AA (Ub×Cp)):Kq (Wc n d f) 221 [.a [.q 1 (map eI d),.map 0]] [.map (Qo (λx=>A.a (Ub.c x)) (λx=>A.a (Cp.c x)) f)] (λ_=>.fn (.func 281) [] [.p 1 0]) (λ_=>[.map (Qo (λx=>A.a (Ub.c x)) (λx=>A.a (Cp.c x)) f),.c 284 [.q 1 (map eI d),.map 0]]):=KA func221
def I_(n:Nat)(h:AA Int)(d:(AA (Int×Int))×Int):AB ((AA (Int×Int))×CF ((AA (Int×Int))×Int) Unit):=(bif d.2<(AI h:Int) then AH (CI h d.2) λf=>AH (AC (Qn d.1 f 0)) λj=>AH (AC (QK d.1 f (i64.wrap (j+1)))) λg=>AH (AC (Qn g f 0)) λm=>yl (d.2,m) (AC ([],.k (g,i64.wrap (d.2+1))))else AC ([],.d ()))
def Mn(d:AA Int)(g:AA (Ub×Cp)):AB ((AA (Int×Int))×Unit):=ap (L5 (I_ n d) n ([],0)) λf=>AC ([],())
theorem js(B:AA Int)(E:AA (Ub×Cp))(p:(AA (Int×Int))×Unit)(h:Mn n B E=AC p):RN prog 281 [.p 0 0] [.c 284 [.q 1 (map eI B),.map 1],.map (Qo (λx=>A.a (Ub.c x)) (λx=>A.a (Cp.c x)) E)] (λx=>[I x.1,I x.2]) R5 p.1:=by
 obtain⟨xs,u⟩:=p;refine uQ func281 Z Z Z Z ?_;intro X hE hN;refine Z0 1 Z (Cy.lf (G0 1 Z (vH Yl ?_)));refine Fg 2 Z Z (Hu 2 Z (Cy.lf ?_));refine G0 3 Z (Lg 2 Z Z ?_);obtain⟨N,F,G,J,L,rfl⟩:=pC h;rw[Vi];refine rA F (G++[]) [0,1] [0] Ze Ze Zf ?_ (λenv H O=>?_)
 .refine Z0 1 Z ?_;refine pL [0,1,2] [0,3,8,9] (λf=>[(10,I f.2)]) (λf=>[(2,.map (Qo I I f.1))]) J Zf (Lr [0,1,2]) λf P Q R d g=>(Z0 1 Z (Cy.lf ?_));refine G0 3 Z (Hu 2 Z (Cy.lf ?_));refine G0 0 Z (Q5 Z d (λ_ d=>?_) (λ_ d=>?_))
  .refine Gc 1 Z (Hu 1 Z ?_);obtain⟨rfl,rfl,rfl⟩:=Oy g d;exact pZ (Hu 1 Z (pD (Lr [0,1])))
  refine Gc 1 Z (Hu 4 Z (Cy.lf ?_));refine G0 2 Z (Bd d λT m d=>Iz m Z (Go 4 Z ?_));refine Hu 2 Z (Cy.lf (G0 3 Z (Bd d λV q d=>?_)));refine vV (Yb YN q EM EV Eo) (Go 1 Z (Bd d λW t d=>?_));refine vU (Yh YN t Z EM) (Fg 1 Z Z ?_);refine Hu 7 Z (FS.step ?_);refine Bd d λY y d=>(vV (Yb YN y EM EV Eo) ?_);refine WO.nil ⟨Z,?_⟩;obtain⟨aa,M,rfl⟩:=o9 d;refine pM hE hN Z Z Z Z Z Z ?_ ?_
  .refine iu 3 Z (Cy.lf ?_);refine G0 2 Z (Hu 2 Z (Cy.lf ?_));exact G0 4 Z (Hu 0 Z (pX M (Lr [0,1,2])))
  .exact iu 7 Z (pY (Hu 1 Z (pE (⟨.inr Z,.inr ⟨_,Z⟩⟩))))
 cases L;exact⟨.inl Z,.inl Z⟩
def nn(n:Nat)(h:Int)(j:Int)(m:Unit)(d:Int×Int):AB (CF Unit (Int×Int)):=AH (AH (CI [] d.1) λf=>(bif (f==h)then AC (d.2==j)else AC AD):AB Bool) λg=>(bif g then AC (.d (d.1,0))else AC (.k ()))
def ME(n:Nat)(h:Int)(j:Int)(m:(AA Int)×(AA (Ub×Cp)))(q:Unit)(d:Int×Int):AB (CF Unit (Int×Int)):=AH (AH (CI m.1 d.1) λf=>(bif (f==h)then AC (d.2==j)else AC AD):AB Bool) λg=>(bif g then AC (.d (d.1,0))else AC (.k ()))
def PW(x:CA)(y:Int)(B:Int)(h:Int)(j:Int):AB (Int×Int):=AH (II n x y B) λE=>(match E with|.c0 m=>((bif (m != 0)then AC (0,m)else AH (fX n []) λG=>AH (fk n ([]:AA Int)) λy9=>AH (RS (nn n h j) y9.1 ():AB (CF Unit (Int×Int))) λq=>match q with|.k f=>(AC (0,90))|.d f=>AC f))|.c1 H=>(AC (0,90))|.c2 J=>(AC (0,2))|.c3 d=>(AH (Wc n d.1 d.2) λF=>AH (Mn n d.1 d.2) λy34=>AH (RS (ME n h j d) y34.1 ():AB (CF Unit (Int×Int))) λt=>match t with|.k g=>(AC (0,90))|.d g=>AC g))
instance yb(g:CA)(R:Int)(T:Int)(j:Int)(q:Int):Kq (PW n g R T j q) 146 [.a (CA.c g),I R,I T,I j,I q] [] (λr=>.t [I r.1,I r.2]) (λr=>[.c 3 [I r.1],.c 52 [I r.2]]):=by
 refine Kg 14 func146 Z Z Z Z λr h=>Bd h λr1 V h=>?_;refine Qf [] (C6.fn call145 Z Z Z) (bJ _ _ _ _ _ V) ?_;intro ra rH F;rcases r1 with G|x4|J|W
 .obtain⟨rfl,rfl⟩:=F;refine Fg 15 Z Z (Cn Z h (λ_ h=>?_) (λ_ h=>?_))
  .refine Gc 1 Z (HY 2 [1] [(0,0,1),(1,0,0)] (by kernel_rfl) ?_);refine KG (lo:=0) (x:=I G) ⟨Z,trivial⟩ ?_;refine DK.un (X1:=[.c 33 (CA.c g),.c 3 [I j],.c 3 [I q],.c 3 [I 0],.c 52 [I G],.c 284 [.q 1 (map eI []),.nilm],.c 284 [.q 1 (map eI []),.nilm]]) ?_ ?_
   .refine vU (Ey Z Z Z EC Z Z Z Z Z Z Z) ?_;refine Nx (H:=[_,_,_,_,_,_,_]) Z ?_;exact Wp
   refine DK.done Z Z (Go 5 Z ?_);exact au h
  refine Gc 6 Z (Cd [] h Kc Z λr8 af h=>Fg 3 Z Z (Bd h λy9 hy9 h=>Bd h λag Y h=>?_));refine sy [7] (λ_=>[.c 33 (CA.c g),.c 3 [I j],.c 3 [I q],.c 3 [I 0],.c 52 [I G],.c 284 [.q 1 (map eI []),.nilm],.c 284 [.q 1 (map eI []),.nilm],.dead]) Y (jV _ _ _ hy9) Zf call281 Z Z Z Z (by decide) Z (Jt Z) ?_ ?_
  .intro ah ai aj d L;refine G0 8 Z (And.intro Z ?_);refine G0 2 Z (Bd d λt y d=>Ct t [0,1,2,3,4,5,6,7] [10,11,13] (λt=>[(40,.b t)]) Ze Zf ?_ (λenv H aa=>?_))
   .refine G0 0 Z (DP 10 Z (D 3 Z ?_));obtain⟨ab,M,y⟩:=Qw y;refine DS.wo (x:=.rp [I ab]) ?_ ?_
    .exact Ix M EB EC Z Wp
    exact au y
   refine Gx 1 Z (Ee aa (Cn Z d (λ_ d=>?_) (λ_ d=>?_)))
   .refine Gc 9 Z (qY d (Lw trivial) ?_);obtain rfl:=vJ L d;exact au h
   exact Gc 2 Z (qy d (Lr [0,1,2,3,4,5,6,7]))
  rintro ak rfl;exact au h
 .obtain⟨rfl,rfl⟩:=F;refine Fg 12 Z Z ?_;refine vX (.b AE) (CS.neq (m:=90) (n:=0) Z Z Z) ?_;refine Go 4 Z (HY 2 [1] [(0,0,1),(1,0,0)] (by kernel_rfl) ?_);refine KG (lo:=0) (x:=I 90) ⟨Z,trivial⟩ ?_;refine DK.un (X1:=[.c 33 (CA.c g),.c 3 [I j],.c 3 [I q],.c 3 [I 0],.c 52 [I 90],.c 284 [.q 1 (map eI []),.nilm],.c 284 [.q 1 (map eI []),.nilm]]) ?_ ?_
  .refine vU (Ey Z Z Z EC Z Z Z Z Z Z Z) ?_;refine Nx (H:=[_,_,_,_,_,_,_]) Z ?_;exact Wp
  refine DK.done Z Z (Go 5 Z ?_);exact au h
 .obtain⟨rfl,rfl⟩:=F;refine Fg 12 Z Z ?_;refine vX (.b AE) (CS.neq (m:=2) (n:=0) Z Z Z) ?_;refine Go 4 Z (HY 2 [1] [(0,0,1),(1,0,0)] (by kernel_rfl) ?_);refine KG (lo:=0) (x:=I 2) ⟨Z,trivial⟩ ?_;refine DK.un (X1:=[.c 33 (CA.c g),.c 3 [I j],.c 3 [I q],.c 3 [I 0],.c 52 [I 2],.r 3 1 (map eI J),.c 284 [.o 5 (AI J) 1,.nilm],.c 284 [.o 5 (AI J) 1,.nilm]]) ?_ ?_
  .refine vU (Ey Z Z Z EC Z Z Z Z Z Z Z) ?_;refine Nx (H:=[_,_,_,_,_,_,_,_]) Z ?_;exact Wp
  refine DK.done Z Z (Go 5 Z ?_);exact au h
 .obtain⟨rfl,rfl⟩:=F;refine Go 12 Z ?_;refine vX (.b AD) (CS.neq (m:=0) (n:=0) Z Z Z) ?_;refine Go 9 Z ?_;refine Et (Ym [(15,_),(19,_),(20,_),(25,_)] Z Z (Cx.cons Z (DO.tup (Ed (DO.agg (Ed Ep (Ej _))) (Ej _))) (Cx.cons Z (DO.tup (Ed (DO.agg (Ed Ep (Ej _))) (Ej _))) (Cx.cons Z (DO.agg (Ed Ep (Ej _))) (Cx.cons Z (DO.agg (Ed Ep (Ej _))) Cx.nil)))) (Ec (Ec (Ec (Ec (Ec (Ec (Ec (Dg.cells (Ed Ep (Ej _)) (Dg.cells (Ed Ep (Ej _)) (QQ _))))))))))) ?_;refine Cd [6] h Kc Z λal ae h=>Fg 3 Z Z (Bd h λy34 hy34 h=>Bd h λam ac h=>?_);refine sy [9,6] (λ_=>[.c 33 (CA.c g),.c 3 [I j],.c 3 [I q],.c 3 [I 0],.c 52 [I 0],.dead,.dead,.c 284 [.q 1 (map eI W.1),.map 6],.c 284 [.q 1 (map eI W.1),.map 6],.dead]) ac (js _ _ _ _ hy34) Zf call281 Z Z Z Z (by decide) Z (Jt Z) ?_ ?_
  .intro an ao aq f O;refine G0 8 Z (And.intro Z ?_);refine G0 2 Z (Bd f λB E f=>Cg B [0,1,2,3,4,5,6,7,8,9] [10,11,13] (λB=>[(40,.b B)]) Ze Zf ?_ ?_)
   .refine G0 0 Z (DP 10 Z (D 3 Z ?_));obtain⟨ad,P,E⟩:=Qw E;refine DS.wo (x:=.rp [I ad]) ?_ ?_
    .exact Ix P EB EC Z Wp
    exact au E
   refine Cn Z f (λ_ f=>?_) (λ_ f=>?_)
   .refine Gc 9 Z (qY f (Lw trivial) ?_);obtain rfl:=vJ O f;exact au h
   exact Gc 2 Z (qy f (Lr [0,1,2,3,4,5,6,7,8,9]))
  rintro ar rfl;exact au h
def TV(n:Nat)(f:AA Int)(h:Int)(d:Int):AB (CF Int (CF Unit Int)):=(bif d<(AI f:Int) then AH (CI f d) λg=>(bif (h==g)then AC (.d (.d d))else AC (.k (i64.wrap (d+1))))else AC (.d (.k ())))
def WI(f:AA Int)(g:Int):AB Int:=AH (iter (TV n f g) n 0:AB (CF Unit Int)) λh=>match h with|.k d=>(AC (-1))|.d d=>AC d
instance wZ(d:AA Int)(f:Int):Ks (WI n d f) 306 [.q 1 (map eI d),I f] [] (λr=>I r):=KA func306
def WC(d:AA Int)(f:Int):AB Bool:=AH (WI n d f) λg=>AC (AG (0<=g))
instance wT(d:AA Int)(f:Int):Ks (WC n d f) 272 [.q 1 (map eI d),I f] [] (λr=>.b r):=KA func272
def OB(h:AA CL)(j:CU)(d:Int×Int):AB (CF (Int×Int) Int):=(bif d.2<(AI h:Int) then AH (WC n j.BL d.2) λf=>AH ((bif (!f)then AC (i64.wrap (d.1+1))else AC d.1):AB Int) λg=>AC (.k (g,i64.wrap (d.2+1)))else AC (.d d.1))
def PE(f:AA CL)(g:CU):AB Int:=AH (iter (OB n f g) n (0,0):AB Int) λd=>AC d
instance yJ(t:AA CL)(x:CU):Ks (PE n t x) 192 [.q 5 (map CL.c t),.a (CU.c x)] [] (λr=>I r):=by
 refine Kg 10 func192 Z Z Z Z λr h=>Lg 3 Z Z (Bd h λf y h=>Cg f [] [] (λf=>[(4,I f)]) Ze Zf ?_ ?_)
 .refine G0 1 Z (Lp [0] [3,7] (λg=>[(4,I g.1),(8,I g.2)]) Ze y Zf (Lr [0]) λg G d m=>?_);refine G0 6 Z (Q5 Z d (λ_ d=>?_) (λ_ d=>?_))
  .exact Gc 2 Z (QF d (Gx 1 Z (DX m d (Lr []))))
  refine Gc 15 Z (Cz [] d Kc Z λJ F d=>Go 3 Z (Bd d λj B d=>Ct j [0] [3,7,8] (λj=>[(4,I j)]) Ze Zf ?_ (λenv H E=>?_)))
  .exact au B
  exact Gx 2 Z (Ee E (Gc 4 Z (QZ d (Lr [0]))))
 exact au h
def JV(m:CU)(M:CA)(N:CD)(H:AA Int)(O:AA CJ)(q:AA CL)(P:AA Ue)(Q:Int)(R:AA (Int×Ue))(J:CA)(L:CD)(d:(AA (Int×Bool))×Uh×Int):AB (CF ((AA (Int×Bool))×Uh×Int) (CF Unit Bool)):=(bif d.2.2<(AI m.BL:Int) then AH (AH (CI m.BL d.2.2) λf=>AH ((bif (f != (-1))then AH ((bif f<0 then AC AE else(bif (AI q:Int)<=f then AC AE else AH (CI q f) λt=>AH (CI H d.2.2) λx=>(bif (t.Al != x)then AC AE else AH (AC (Qn d.1 f AD)) λy=>(bif y then AC AE else AC (AG (m.A7<d.2.2)))))):AB Bool) λB=>(bif B then AC (.d (.d (.d (.d AD))))else AH (AC (QK d.1 f AE)) λE=>AC (.k E))else AC (.k d.1)):AB (CF (AA (Int×Bool)) (CF ((AA (Int×Bool))×Uh) (CF ((AA (Int×Bool))×Uh×Int) (CF Unit Bool))))) λF=>match F with|.k g=>(bif m.A7<d.2.2 then AC (.k (g,d.2.1))else AH (Kx n d.2.1 d.2.2 f M N H O q P Q R J L) λj=>(bif (!j.2)then AC (.d (.d (.d AD)))else AC (.k (g,j.1))))|.d g=>AC g:AB (CF ((AA (Int×Bool))×Uh) (CF ((AA (Int×Bool))×Uh×Int) (CF Unit Bool)))) λG=>match G with|.k h=>(AC (.k (h.1,h.2,i64.wrap (d.2.2+1))))|.d h=>AC h else AC (.d (.k ())))
def Ii(f:CU)(j:CA)(B:CD)(g:AA Int)(E:AA CJ)(m:AA CL)(F:AA Ue)(q:Int)(G:AA (Int×Ue))(t:CA)(x:CD):AB Bool:=AH ((bif ((AI f.BL:Int) != (AI g:Int))then AC AE else(bif f.A7<(-1) then AC AE else(bif (AI g:Int)<=f.A7 then AC AE else(bif f.A7<q then AC AE else AH (PE n m f) λy=>AC (AG (j.AQ.A6<y)))))):AB Bool) λH=>(bif H then AC AD else AH (Mq n) λJ=>AH (iter (JV n f j B g E m F q G t x) n ([],{DV with Bm:=(-1):Uh},0):AB (CF Unit Bool)) λh=>match h with|.k d=>(AC AE)|.d d=>AC d)
instance kA(a1:CU)(a2:CA)(a3:CD)(a4:AA Int)(a5:AA CJ)(F:AA CL)(a7:AA Ue)(a8:Int)(a9:AA (Int×Ue))(ab:CA)(ac:CD):Ks (Ii n a1 a2 a3 a4 a5 F a7 a8 a9 ab ac) 118 [.p 0 0,.a (CU.c a1)] [.c 136 (match_task.tc a2 a3 a4 a5 F a7 (.map 1) (.fn (.func 95) [] [.p 2 0,.p 3 0,.p 4 0]) a8),.map (Qo I (λx=>A.a (Ue.c x)) a9),.c 128 [.p 0 0],.c 33 (CA.c ab),.c 39 (CD.c ac)] (λr=>.b r):=by
 refine Kg 6 func118 Z Z Z Z λr h=>TC.scope ?_;refine G0 6 Z (Lg 5 Z Z (Bd h λb6 h7 h=>Ct b6 [0,1,2,3,4,5] [0,3] (λb6=>[(55,.b b6)]) Ze Zf ?_ (λenv H aj=>?_)))
 .refine G0 0 Z (DP 38 Z (D 2 Z ?_));refine DS.wo (x:=I (AI a1.BL:Int)) ?_ ?_
  .exact nO EB Z Wp
  exact au h7
 refine Gx 1 Z (Ee aj (Cn Z h (λ_ h=>?_) (λ_ h=>?_)))
 .exact au h
 refine Gc 4 Z (vH Yl ?_);refine Fg 5 Z Z (Cd [] h Kc Z λav an h=>Fg 5 Z Z (TC.label ?_));refine Gx 6 Z (Lg 3 Z Z (Bd h λae af h=>D4 (b:=ae) [0,1,2,3,4] [] Ze Ze Zf ?_ (λ_ ak=>?_)))
 .refine G0 1 Z (Lp [0,1,2,3,4,5,6,8] [0,3,6,7,59,60] (λm=>[(61,I m.2.2)]) (λm=>[(6,.map (Qo I A.b m.1)),(7,.c 147 (Uh.c m.2.1))]) af Zf (Lr [0,1,2,3,4,5,6,8]) λm ao j t=>?_);refine G0 6 Z (Q5 Z j (λ_ j=>?_) (λ_ j=>?_))
  .exact Je t j
  refine Gc 3 Z (Bd j λag f j=>D4 (b:=ag) [0,1,2,3,4,5,6,7] [0,3,6,7,59,60,61] Ze (λy=>[(6,.map (Qo I A.b y.1)),(7,.c 147 (Uh.c y.2))]) Zf ?_ (λy hb=>?_))
  .refine G0 4 Z (Bd f λG M f=>Iz M Z (Go 12 Z (Bd f λah g f=>D4 (b:=ah) [0,1,2,3,4,5,6,7] [0,3,6,7,8,9,59,60,61] Ze (λE=>[(6,.map (Qo I A.b E))]) Zf ?_ (λE hb=>?_))))
   .refine G0 0 Z (Cn Z g (λ_ g=>?_) (λ_ g=>?_))
    .refine Gc 2 Z (Bd g λB d g=>Cg B [0,1,2,3,4,5,6,7] [0,3,6,7,8,9,59,60,61] (λB=>[(107,.b B)]) Ze Zf ?_ ?_)
     .refine G0 0 Z (DP 38 Z (D 3 Z (DS.is 2 d Z Z Z (λ_ d=>?_) (λ_ d=>?_))))
      .exact au d
      .refine D 5 Z ?_;refine DS.v (x:=(I (AI F:Int))) (q_ (e:=CL.c) (l:=F) ET) ?_ (hg:=(gT Z));refine D 3 Z (DS.is 11 d Z Z Z (λ_ d=>?_) (λ_ d=>?_))
       .exact au d
       .refine D 5 Z ?_;obtain⟨q,Q,d⟩:=Qw d;refine DS.v (x:=(.rp [I q.Al,I q.Ag,I q.BB,I q.BQ,I q.A7])) (QV (e:=CL.c) (l:=F) (v:=q) Q ET Gd) ?_ (hg:=(gT Z));refine D 7 Z ?_;obtain⟨J,R,d⟩:=Qw d;refine DS.v (x:=(.rp [I J])) (QV (e:=eI) (l:=a4) (v:=J) R EB EC) ?_ (hg:=(gT Z));refine D 4 Z (DS.is 29 d Z Z Z (λ_ d=>?_) (λ_ d=>?_))
        .exact au d
        .refine D 2 Z ?_;obtain⟨ai,V,d⟩:=Qw d;refine DS.v (x:=(.b ai)) (Yb (ev:=A.b) (z0:=AD) (k:=G) (l:=m.1) YN V underlying329 E7 ZR.bool) ?_ (hg:=(gT Z));exact au d
     refine Cn Z g (λ_ g=>?_) (λ_ g=>?_)
     .refine Gc 7 Z ?_;cases g;refine LT (Gx 2 Z ?_);cases f;exact DZ t j h
     refine Gc 5 Z (Bd g λaq X g=>?_);refine vU (Yh (ev:=A.b) (k:=G) (v:=AE) (l:=m.1) YN X Z underlying329) ?_;refine Fg 1 Z Z ?_;cases g;exact KR Z (Lr [0,1,2,3,4,5,6,7])
    refine Gc 1 Z ?_;cases g;exact KR Z (Lr [0,1,2,3,4,5,6,7])
   subst hb;refine Gc 9 Z (Cn Z f (λ_ f=>?_) (λ_ f=>?_))
   .refine Gc 3 Z ?_;cases f;exact KR Z (Lr [0,1,2,3,4,5,6,7])
   refine Gc 13 Z (Cd [0,1,2,3,4] f Kc Z λar am f=>Fg 13 Z Z (Cn Z f (λ_ f=>?_) (λ_ f=>?_)))
   .refine Gc 7 Z ?_;cases f;exact DZ t j h
   refine Gc 2 Z ?_;cases f;exact KR Z (Lr [0,1,2,3,4,5,6,7])
  subst hb;exact au j
 subst ak;exact au h
def TQ(h:CA)(j:CD)(q:AA CL)(x:CU)(y:Int)(d:(AA Int)×(AA CJ)×(AA Ue)×(AA (Int×Ue))×Int)(f:Int):AB (CF Int (CF Unit (Int×CJ×Int))):=(bif 0<=f then AH (CI x.BL f) λt=>AH (Ib n f t h j d.1 d.2.1 q d.2.2.1 d.2.2.2.2 d.2.2.2.1 h j) λg=>(bif g.2 then AH (J6 n f y h j d.1 d.2.1 q d.2.2.1 d.2.2.2.2 d.2.2.2.1 h j) λm=>AC (.d (.d (g.1.Ah,{Lo:=i64.wrap (g.1.A9.Lo+m.Lo),Hi:=i64.wrap (g.1.A9.Hi+m.Hi):CJ},0)))else AC (.k (i64.wrap (f-1))))else AC (.d (.k ())))
def UQ(h:CA)(j:CD)(q:AA CL)(t:CU)(y:Int)(d:(AA Int)×(AA CJ)×(AA Ue)×(AA (Int×Ue))×Int)(f:Int):AB (CF Int (CF Unit (Int×CJ×Int))):=(bif f<=t.A7 then AH (CI t.BL f) λx=>AH (Ib n f x h j d.1 d.2.1 q d.2.2.1 d.2.2.2.2 d.2.2.2.1 h j) λg=>(bif g.2 then AH (J6 n y f h j d.1 d.2.1 q d.2.2.1 d.2.2.2.2 d.2.2.2.1 h j) λm=>AC (.d (.d (g.1.Ah,{Lo:=i64.wrap (g.1.A9.Lo-m.Hi),Hi:=i64.wrap (g.1.A9.Hi-m.Lo):CJ},0)))else AC (.k (i64.wrap (f+1))))else AC (.d (.k ())))
def K0(g:CA)(h:CD)(E:AO)(F:Int)(q:AA CL)(G:AA Ac)(t:CU)(f:Int):AB (Int×CJ×Int):=AH (NF n g h E F q G) λH=>(match H with|.c0 x=>((bif (x != 0)then AC (0,{Lo:=0,Hi:=0:CJ},x)else AF))|.c1 d=>(AH (Ii n t g h d.1 d.2.1 q d.2.2.1 d.2.2.2.2 d.2.2.2.1 g h) λJ=>(bif (!J)then AC (0,{Lo:=0,Hi:=0:CJ},190)else AH ((bif f<0 then AC AE else AC (AG (t.A7<f))):AB Bool) λL=>(bif L then AC (0,{Lo:=0,Hi:=0:CJ},1)else AH (iter (TQ n g h q t f d) n f:AB (CF Unit (Int×CJ×Int))) λy=>match y with|.k j=>(AH (iter (UQ n g h q t f d) n f:AB (CF Unit (Int×CJ×Int))) λB=>match B with|.k m=>(AC ((-1),{Lo:=(-1099511627776),Hi:=1099511627776:CJ},0))|.d m=>AC m)|.d j=>AC j))))
instance zM(g:CA)(q:CD)(F:AO)(X:Int)(G:AA CL)(Y:AA Ac)(J:CU)(a8:Int):Kq (K0 n g q F X G Y J a8) 148 [.a (CA.c g),.a (CD.c q),.a (AO.c F),I X,.q 5 (map CL.c G),.q 4 (map Ac.c Y),.a (CU.c J),I a8] [] (λr=>.t [I r.1,.a [I r.2.1.Lo,I r.2.1.Hi],I r.2.2]) (λr=>[.c 83 [I r.2.1.Lo,I r.2.1.Hi]]):=by
 refine Kg 19 func148 Z Z Z Z λr h=>Bd h λr1 aa h=>?_;refine Qf [] (C6.fn call35 Z Z Z) (jT _ _ _ _ _ _ _ _ aa) ?_;intro ra rH h2;rcases r1 with x3|j
 .obtain⟨rfl,rfl⟩:=h2;refine Fg 14 Z Z (Cn Z h (λ_ h=>?_) (λ_ h=>?_))
  .refine Gc 1 Z (HY 4 [3] [(0,0,0),(0,0,1),(0,0,0),(1,0,0)] (by kernel_rfl) (Dk 3 Z ?_));refine DK.un (X1:=[.c 33 (CA.c g),.c 39 (CD.c q),.c 41 (AO.c F),.c 75 (CU.c J),.c 83 [I 0,I 0],.c 128 [.nilp]]) ?_ ?_
   .refine vU (Ey Z Z Z Ge Z Z Z Z Z Z Z) ?_;refine Nx (H:=[_,_,_,_,_,_]) Z ?_;exact Wp
   refine DK.done Z Z (Go 5 Z ?_);exact au h
  refine Gc 4 Z ?_;cases h
 .obtain⟨rfl,rfl⟩:=h2;refine aV (.t [.p 5 0,I 0]) [.c 33 (CA.c g),.c 39 (CD.c q),.c 41 (AO.c F),.c 75 (CU.c J),.c 83 [I 0,I 0],.c 136 [.str g.Ao,.q 2 (map Al.c g.Ar),.q 4 (map Cp.c g.Az),.q 5 (map AN.c g.AP),.q 2 (map A2.c g.A0),.q 4 (map AZ.c g.Ab),.q 3 (map AW.c g.AV),.q 4 (map CQ.c g.Ay),.q 8 (map AY.enc g.BN),I g.AQ.A8,I g.AQ.A6,I g.AQ.A5,I g.AQ.Ak,I g.AQ.BC,I g.Bj,I g.Av,.q 3 (map CC.c q.AR),.q 1 (map (Qu 1 eI) q.BP),.q 1 (map eI j.1),.o 6 (AI j.2.1) 2,.q 5 (map CL.c G),.o 7 (AI j.2.2.1) 3,.map 8,.fn (.func 95) [] [.p 9 0,.p 10 0,.p 11 0],I j.2.2.2.2],.r 83 2 (map CJ.c j.2.1),.r 145 3 (map Ue.c j.2.2.1),.map (Qo I (λx=>A.a (Ue.c x)) j.2.2.2.1),.c 128 [.p 5 0],.c 33 (CA.c g),.c 39 (CD.c q)] Z Z ?_;refine Go 11 Z ?_;refine vX (.b AD) (CS.neq (m:=0) (n:=0) Z Z Z) ?_;refine Go 10 Z ?_;refine Et (Ym (i:=6) [] Z Z Cx.nil (Ec (Ec (Ec (Ec (Ec (Dg.cells (CN.k (CN.k (CN.k (CN.k (CN.k (CN.k (CN.k (CN.k (CN.k (CN.k (CN.k (CN.k (CN.k (CN.k (CN.k (CN.k (CN.k (CN.k (CN.k (Ed Ep (Ej _))))))))))))))))))))) (Ec (QQ _))))))))) ?_;refine Et (Ym (i:=7) [] Z Z Cx.nil (Ec (Ec (Ec (Ec (Ec (Dg.cells (CN.k (CN.k (CN.k (CN.k (CN.k (CN.k (CN.k (CN.k (CN.k (CN.k (CN.k (CN.k (CN.k (CN.k (CN.k (CN.k (CN.k (CN.k (CN.k (CN.k (CN.k (Ed Ep (Ej _))))))))))))))))))))))) (Ec (Ec (QQ _)))))))))) ?_;refine Cz [5,8,9,10,11] h Kc Z λr6 ao h=>Go 3 Z (Cn Z h (λ_ h=>?_) (λ_ h=>?_))
  .exact au h
  refine Gc 4 Z (Bd h λN ad h=>Ct N [3,4,5,8,9,10,11] [7,14,17,19] (λN=>[(54,.b N)]) (λ_=>[(2,.c 136 (match_task.tc g q j.1 j.2.1 G j.2.2.1 (.map 3) (.fn (.func 95) [] [.p 4 0,.p 5 0,.p 6 0]) j.2.2.2.2)),(4,.c 128 [.p 2 0])]) Zf ?_ (λenv H t=>?_))
  .exact au ad
  refine Gx 1 Z (Ee t (Cn Z h (λ_ h=>?_) (λ_ h=>?_)))
  .exact au h
  refine Gc 9 Z (Bd h λae af h=>FX (b:=ae) [0,1,2,3,4,5,6] [7,14,17,19] Ze Ze Zf ?_ (λai env H y t=>?_))
  .refine G0 1 Z (Lp [0,1,2,3,4,5,6] [7,14,17,19] (λL=>[(20,I L)]) Ze af Zf (Lr [0,1,2,3,4,5,6]) λL aq f B=>?_);refine G0 7 Z (Q5 Z f (λ_ f=>?_) (λ_ f=>?_))
   .exact Je B f
   refine Gc 11 Z (Bd f λar Q f=>Iz Q Z (Go 1 Z (Cd [2,3,4,5,6] f Kc Z λav aj f=>Fg 13 Z Z (Cn Z f (λ_ f=>?_) (λ_ f=>?_)))))
   .refine Gc 5 Z (Cd [2,3,4,5,6] f Kc Z λaw ak f=>Fg 5 Z Z (DP 16 Z (D 16 Z (Eg Z (Go 7 Z (IN f ?_))))));obtain rfl:=Oj B f;refine Gx 1 Z (LT (Gx 1 Z ?_));exact au h
   exact au f
  subst y;refine Gx 1 Z (Ee t (Gc 7 Z (Bd h λag ah h=>D4 (b:=ag) [1] [17] Ze Ze Zf ?_ (λ_ y=>?_))))
  .refine G0 1 Z (Lp [0,1,2,3,4,5,6] [7,14,17,19] (λM=>[(24,I M)]) Ze ah Zf (Lr [0,1,2,3,4,5,6]) λM ax d E=>?_);refine G0 9 Z (Q5 Z d (λ_ d=>?_) (λ_ d=>?_))
   .exact Gc 2 Z (QF d (Gx 1 Z (c5 E d Z (Lr [1]))))
   refine Gc 11 Z (Bd d λay V d=>Iz V Z (Go 1 Z (Cd [2,3,4,5,6] d Kc Z λaz am d=>Fg 13 Z Z (Cn Z d (λ_ d=>?_) (λ_ d=>?_)))))
   .refine Gc 5 Z (Cd [2,3,4,5,6] d Kc Z λba an d=>Fg 5 Z Z (DP 16 Z (D 16 Z (Eg Z (Go 7 Z (IN d ?_))))));obtain rfl:=Oj E d;refine Gx 1 Z (LT (Gx 1 Z ?_));obtain rfl:=Oi h;exact Rx [1] [16,17,18] Z (QJ Z Z (C5.cons D2.tmp (C5.cons (Yk isAgg83 Ge Z Z Z) (C5.cons D2.tmp C5.nil)))) ⟨Z,Z⟩
   exact Gc 8 Z (QZ d (Lr [0,1,2,3,4,5,6]))
  subst y;exact au h
def Ie(d:Ui)(g:CU)(h:Int):AB (Int×CJ):=AH (K0 n d.A3 d.Bh d.Ai d.BV d.Bu d.Bp g h) λf=>AC (f.1,{Lo:=f.2.1.Lo,Hi:=f.2.1.Hi:CJ})
instance zh(f:Ui)(g:CU)(j:Int):Kq (Ie n f g j) 85 [.a (Ui.c f),.a (CU.c g),I j] [] (λr=>.t [I r.1,.a [I r.2.Lo,I r.2.Hi]]) (λr=>[.c 83 [I r.2.Lo,I r.2.Hi]]):=by
 refine Kg 24 func85 Z Z Z Z λr h=>Cd [] h Kc Z λd m h=>Fg 9 Z Z (TC.draw0 3 [27,28,6] [I d.1,.a [I d.2.1.Lo,I d.2.1.Hi],I d.1] DD Z Z Z ?_ ?_)
 .refine Oq.c ?_ (ov (ov (Oq.n)))
  .exact Om Z (sP 2 sN) (S Z Wp)
 exact au h
def MU(n:Nat)(g:CD)(f:Int)(d:CJ):AB CJ:=(bif (f==(-1))then AC ({Lo:=d.Lo,Hi:=d.Hi:CJ})else AH (CI g.BP (i64.wrap (f+1))) λh=>AH (CI h 0) λj=>AH (CI g.BP 0) λm=>AH (CI m (i64.wrap (f+1))) λq=>AC ({Lo:=i64.wrap (d.Lo-j),Hi:=i64.wrap (d.Hi+q):CJ}))
instance yt(f:CD)(g:Int)(d:CJ):Kq (MU n f g d) 65 [.a (CD.c f),I g,.a [I d.Lo,I d.Hi]] [] (λr=>.a [I r.Lo,I r.Hi]) (λr=>[.c 83 [I r.Lo,I r.Hi]]):=by
 refine Kg 14 func65 Z Z Z Z λr h=>Cn Z h (λ_ h=>?_) (λ_ h=>?_)
 .exact au h
 refine Gc 10 Z (DP 20 Z (D 5 Z ?_));obtain⟨B,m,h⟩:=Qw h;refine DS.wo (x:=.rp [.q 1 (map eI B)]) ?_ ?_
 .exact Ix m EI EP Z Wp
 refine D 1 Z ?_;obtain⟨E,q,h⟩:=Qw h;refine DS.wo (x:=.rp [I E]) ?_ ?_
 .exact Ix q EB EC Z Wp
 refine D 6 Z ?_;obtain⟨F,t,h⟩:=Qw h;refine DS.wo (x:=.rp [.q 1 (map eI F)]) ?_ ?_
 .exact Ix t EI EP Z Wp
 refine D 2 Z ?_;obtain⟨G,y,h⟩:=Qw h;refine DS.wo (x:=.rp [I G]) ?_ ?_
 .exact Ix y EB EC Z Wp
 exact au h
def Ic(n:Nat)(d:Ui):AB Int:=AH (CI d.A3.A0 d.Ai.A2) λf=>AC f.B9
instance zf(d:Ui):Ks (Ic n d) 147 [.a (Ui.c d)] [] (λr=>I r):=KA func147
def TJ(g:Ui)(G:CU)(F:AN)(d:Bool×Bool×Int):AB (CF (Bool×Bool×Int) (Bool×Bool)):=(bif d.2.2<(AI F.Aq:Int) then AH (AH (CI F.Aq d.2.2) λf=>AH (PW n g.A3 g.Ai.AN g.BV f.Al f.B8) λh=>AH ((bif (h.2 != 0)then AC AE else AC (AG (g.Aw<h.1))):AB Bool) λt=>(bif t then AC (d.1,d.2.1)else AH (Ie n g G h.1) λj=>AH (MU n g.Bh j.1 ({Lo:=j.2.Lo,Hi:=j.2.Hi:CJ})) λm=>AH ((bif d.1 then AC AE else AH (Ic n g) λx=>AC (AG (f.Bt<(i64.wrap (m.Lo-x))))):AB Bool) λy=>AH ((bif d.2.1 then AC AE else AH (Ic n g) λB=>AC (AG (f.Bt<(i64.wrap (m.Hi-B))))):AB Bool) λE=>AC (y,E)):AB (Bool×Bool)) λq=>AC (.k (q.1,q.2,i64.wrap (d.2.2+1)))else AC (.d (d.1,d.2.1)))
def PJ(f:Ui)(g:CU):AB (Bool×Bool):=AH (CI f.A3.AP f.Ai.AN) λh=>AH (iter (TJ n f g h) n (AD,AD,0):AB (Bool×Bool)) λd=>AC (d.1,d.2)
instance yO(N:Ui)(O:CU):Ks (PJ n N O) 84 [.a (Ui.c N),.a (CU.c O)] [] (λr=>.t [.b r.1,.b r.2]):=by
 refine Kg 16 func84 Z Z Z Z λr h=>Bd h λx1 P h=>Iz P Z (Go 10 Z (Lg 3 Z Z (Bd h λx Q h=>Cg x [] [] (λx=>[(4,.b x.1),(5,.b x.2)]) Ze Zf ?_ ?_)))
 .refine G0 1 Z (Lp [0,1] [2,3,23,24] (λy=>[(4,.b y.1),(5,.b y.2.1),(25,I y.2.2)]) Ze Q Zf (Lr [0,1]) λy ab f F=>?_);refine G0 6 Z (Q5 Z f (λ_ f=>?_) (λ_ f=>?_))
  .exact Gc 2 Z (QF f (Gx 1 Z (DX F f (Lr []))))
  refine Gc 3 Z (Bd f λg d f=>Cg g [0,1] [2,3,23,24,25] (λg=>[(4,.b g.1),(5,.b g.2)]) Ze Zf ?_ ?_)
  .refine G0 3 Z (Bd d λW B d=>Iz B Z (Go 18 Z (Cd [] d Kc Z λX R d=>Fg 9 Z Z (Bd d λm J d=>Ct m [0,1,2] [2,3,4,5,8,9,23,24,25] (λm=>[(51,.b m)]) Ze Zf ?_ (λenv H j=>?_)))))
   .exact au J
   refine Gx 1 Z (Ee j (Cn Z d (λ_ d=>?_) (λ_ d=>?_)))
   .exact au d
   refine Gc 7 Z (Cd [] d Kc Z λY T d=>Fg 14 Z Z (Cd [] d Kc Z λaa V d=>Fg 5 Z Z (Bd d λq L d=>Ct q [0,1,2,6] [2,3,5,8,13,23,24,25] (λq=>[(4,.b q)]) Ze Zf ?_ (λenv H j=>?_))))
   .exact au L
   refine Gx 1 Z (Ee j (Bd d λt M d=>Ct t [0,1] [2,3,4,23,24,25] (λt=>[(5,.b t)]) Ze Zf ?_ (λenv H j=>?_)))
   .exact au M
   refine Gx 1 Z ?_;cases d;exact Nv (En j (Lr [0,1]))
  exact au f
 exact au h
def fp(n:Nat):AB Unit:=AC ()
instance gg:Kq (fp n) 86 [] [] (λ_=>.a [.f 149,.f 149,.fn (.func 151) [] [.p 0 0],.f 153]) (λ_=>[.c 200 [.f 149],.c 201 [.f 149,.f 149,.fn (.func 151) [] [.p 0 0],.f 153]]):=by
 refine Kg 2 func86 Z Z Z Z λr h=>vH (eT (v:=(.a [.nilf,.nilf,.nilf,.nilf])) zeroValue201 (Fu Z)) ?_;refine Fg 13 Z Z (vV (Qh4 zeroValue201 (ZR.agg (zc ZR.nilf (zc ZR.nilf (zc ZR.nilf (zc ZR.nilf ZL.nil))))) EZ Gj Z) ?_);refine vU (Ey Z Z Z sizeOf201 Z Z Z Z Z Z Z) (Fg 3 Z Z ?_);exact Rx [1,0] [0] Z (JS Z (Yk isAgg201 sizeOf201 Z Z Z)) ⟨Z,Z⟩
def V7(n:Nat)(d:Int):AB Unit:=AC ()
instance wM(d:Int):Kq (V7 n d) 150 [I d] [] (λ_=>.a [I d,I d]) (λ_=>[.c 83 [I d,I d]]):=KA func150
def LB(f:Ui)(g:CU):AB CJ:=AH (Ic n f) λd=>AH (V7 n d) λh=>AC ({Lo:=d,Hi:=d:CJ})
instance bH(d:Ui)(f:CU):Kq (LB n d f) 149 [.a (Ui.c d),.a (CU.c f)] [] (λr=>.a [I r.Lo,I r.Hi]) (λr=>[.c 83 [I r.Lo,I r.Hi]]):=KA func149
def Wk(n:Nat)(d:Ac):AB Unit:=AC ()
instance xA(d:Ac):Ks (Wk n d) 152 [.a (Ac.c d)] [] (λ_=>.b (d.AT==0)):=KA func152
def TU(g:AA Ac)(d:Int):AB (CF Int (CF Unit Int)):=(bif d<(AI g:Int) then AH (CI g d) λf=>AH (Wk n f) λh=>(bif (f.AT==0)then AC (.d (.d d))else AC (.k (i64.wrap (d+1))))else AC (.d (.k ())))
def Wh(g:AA Ac):AB Int:=AH (iter (TU n g) n 0:AB (CF Unit Int)) λf=>match f with|.k d=>(AC (-1))|.d d=>AC d
instance w8(d:AA Ac):Ks (Wh n d) 161 [.q 4 (map Ac.c d),.f 152] [] (λr=>I r):=KA func161
def PK(d:AA Ac):AB Bool:=AH (Wh n d) λf=>AC (AG (0<=f))
instance yP(d:AA Ac):Ks (PK n d) 90 [.q 4 (map Ac.c d),.f 152] [] (λr=>.b r):=KA func90
def Px(f:Ui)(g:CU):AB CJ:=AH (PK n f.Bp) λj=>AH (AH (CI g.BL 0) λm=>(bif m<0 then AC (!j)else AC AD):AB Bool) λq=>(bif q then AH (LB n f g) λh=>AC ({Lo:=h.Lo,Hi:=h.Hi:CJ})else AH (Ie n f g 0) λd=>AC ({Lo:=d.2.Lo,Hi:=d.2.Hi:CJ}))
instance jt(d:Ui)(f:CU):Kq (Px n d f) 151 [.a (Ui.c d),.a (CU.c f),.p 0 0] [.c 200 [.f 149]] (λr=>.a [I r.Lo,I r.Hi]) (λr=>[.c 200 [.f 149],.c 83 [I r.Lo,I r.Hi]]):=KA func151
def W4(d:Ui)(f:CU):AB Unit:=AH (V7 n d.Ai.BM) λg=>AC ()
instance jg(d:Ui)(f:CU):Kq (W4 n d f) 153 [.a (Ui.c d),.a (CU.c f)] [] (λ_=>.a [I d.Ai.BM,I d.Ai.BM]) (λ_=>[.c 83 [I d.Ai.BM,I d.Ai.BM]]):=KA func153
def J8(g:Ui)(h:CU):AB (AA CB):=AH (MZ n g.Bi g.Aw) λf=>AH ((bif h.A7<g.Aw then AC AE else AC f.2.2):AB Bool) λy=>(bif y then AH (Kn n) λM=>AC [{A':=AE,A_:=(-1),Lo:=0,Hi:=0:CB}]else AH (PJ n g h) λx=>(bif x.1 then AH (Kn n) λB=>AC [{A':=AE,A_:=(-1),Lo:=0,Hi:=0:CB}]else AH (Ie n g h g.Aw) λd=>AH (fp n) λE=>AH (CI g.A3.AP g.Ai.AN) λj=>(bif (j.BI==0)then AH (LB n g h) λm=>(bif x.2 then AH (Kn n) λF=>AC [{A':=AE,A_:=(-1),Lo:=0,Hi:=0:CB},{A':=AD,A_:=d.1,Lo:=i64.wrap ((i64.wrap (d.2.Lo-m.Hi))+f.1),Hi:=i64.wrap ((i64.wrap (d.2.Hi-m.Lo))+f.1):CB}]else AC [{A':=AD,A_:=d.1,Lo:=i64.wrap ((i64.wrap (d.2.Lo-m.Hi))+f.1),Hi:=i64.wrap ((i64.wrap (d.2.Hi-m.Lo))+f.1):CB}])else(bif (j.BI==1)then AH (LB n g h) λq=>(bif x.2 then AH (Kn n) λG=>AC [{A':=AE,A_:=(-1),Lo:=0,Hi:=0:CB},{A':=AD,A_:=d.1,Lo:=i64.wrap ((i64.wrap (d.2.Lo-q.Hi))+f.1),Hi:=i64.wrap ((i64.wrap (d.2.Hi-q.Lo))+f.1):CB}]else AC [{A':=AD,A_:=d.1,Lo:=i64.wrap ((i64.wrap (d.2.Lo-q.Hi))+f.1),Hi:=i64.wrap ((i64.wrap (d.2.Hi-q.Lo))+f.1):CB}])else(bif (j.BI==2)then AH (Px n g h) λt=>(bif x.2 then AH (Kn n) λH=>AC [{A':=AE,A_:=(-1),Lo:=0,Hi:=0:CB},{A':=AD,A_:=d.1,Lo:=i64.wrap ((i64.wrap (d.2.Lo-t.Hi))+f.1),Hi:=i64.wrap ((i64.wrap (d.2.Hi-t.Lo))+f.1):CB}]else AC [{A':=AD,A_:=d.1,Lo:=i64.wrap ((i64.wrap (d.2.Lo-t.Hi))+f.1),Hi:=i64.wrap ((i64.wrap (d.2.Hi-t.Lo))+f.1):CB}])else(bif (j.BI==3)then AH (W4 n g h) λJ=>(bif x.2 then AH (Kn n) λL=>AC [{A':=AE,A_:=(-1),Lo:=0,Hi:=0:CB},{A':=AD,A_:=d.1,Lo:=i64.wrap ((i64.wrap (d.2.Lo-g.Ai.BM))+f.1),Hi:=i64.wrap ((i64.wrap (d.2.Hi-g.Ai.BM))+f.1):CB}]else AC [{A':=AD,A_:=d.1,Lo:=i64.wrap ((i64.wrap (d.2.Lo-g.Ai.BM))+f.1),Hi:=i64.wrap ((i64.wrap (d.2.Hi-g.Ai.BM))+f.1):CB}])else AF))))))
instance j7(f:Ui)(q:CU):Kq (J8 n f q) 34 [.a (Ui.c f),.a (CU.c q)] [] (λr=>.o 0 (AI r) 4) (λr=>[.r 77 4 (map CB.c r)]):=by
 refine Kg 13 func34 Z Z Z Z λr h=>Cd [] h Kc Z λm af h=>Fg 11 Z Z (Bd h λQ h4 h=>Cg Q [0,1] [2,3,5] (λQ=>[(30,.b Q)]) Ze Zf ?_ ?_)
 .exact au h4
 refine Cn Z h (λ_ h=>?_) (λ_ h=>?_)
 .exact au h
 refine Gc 6 Z (Cd [] h Kc Z λr8 ag h=>Fg 13 Z Z (Cn Z h (λ_ h=>?_) (λ_ h=>?_)))
 .exact au h
 refine Gc 8 Z (Cd [] h Kc Z λd ae h=>Fg 9 Z Z ?_);obtain⟨ah,F,h⟩:=Qw h;obtain⟨g,E,h⟩:=Qw h;refine If h (λG h=>?_) (λG h=>?_)
 .obtain⟨t,M,h⟩:=Qw h;refine Yx 15 1 [50,51,52,53,54,55,56,57,58,59,60,61,62,63,12] [AE,AD,AD,AD,AD,AD,AD,AD,AD,AD,AD,AD,AD,AE,AE] [[],[],[],[],[],[],[],[],[],[],[0],[],[],[0],[]] [[],[0],[14],[0,13],[0,14],[0,13,14]] [[(0,1),(2,4)],[(0,0),(1,1),(2,2),(4,4)],[(0,0),(1,1),(2,2),(4,4)],[(0,0),(1,1),(2,2),(4,4)],[(0,0),(1,1),(2,2),(4,4)],[(0,0),(1,1),(2,2),(4,4)],[(0,0),(1,1),(2,2),(4,4)],[(0,0),(1,1),(2,2),(4,4)],[(0,0),(1,1),(2,2),(4,4)],[(0,0),(1,1),(2,2),(4,4)],[(1,1),(4,4)],[(0,0),(1,1),(2,2),(4,4)],[(0,0),(1,1),(2,2),(4,4)],[(1,3),(4,5)],[(0,2),(1,4),(3,5)]] [.a [.f 149,.f 149,.fn (.func 151) [] [.p 5 0],.f 153],.p 0 0,.p 0 3,.q 5 (map AN.c f.A3.AP),.p 0 18,.p 0 19,I f.Ai.AN,.rp [.str g.Ao,.q 3 (map CG.enc g.Ae),I g.BI,.q 3 (map CO.c g.Aq),I g.Am],.rp [I g.BI,.q 3 (map CO.c g.Aq),I g.Am],I g.BI,.f 149,.a (Ui.c f),.a (CU.c q),.a [I t.Lo,I t.Hi],.p 4 0] [[.c 123 (Ui.c f),.c 75 (CU.c q),.c 83 [I d.2.Lo,I d.2.Hi],.c 83 [I d.2.Lo,I d.2.Hi],.dead],[.c 123 (Ui.c f),.c 75 (CU.c q),.c 83 [I d.2.Lo,I d.2.Hi],.c 83 [I d.2.Lo,I d.2.Hi],.dead,.c 200 [.f 149],.c 201 [.f 149,.f 149,.fn (.func 151) [] [.p 5 0],.f 153]],[.c 123 (Ui.c f),.c 75 (CU.c q),.c 83 [I d.2.Lo,I d.2.Hi],.c 83 [I d.2.Lo,I d.2.Hi],.c 83 [I 0,I 0]],[.c 123 (Ui.c f),.c 75 (CU.c q),.c 83 [I d.2.Lo,I d.2.Hi],.c 83 [I d.2.Lo,I d.2.Hi],.dead,.c 200 [.f 149],.c 201 [.f 149,.f 149,.fn (.func 151) [] [.p 5 0],.f 153],.c 83 [I t.Lo,I t.Hi]],[.c 123 (Ui.c f),.c 75 (CU.c q),.c 83 [I d.2.Lo,I d.2.Hi],.c 83 [I d.2.Lo,I d.2.Hi],.c 83 [I 0,I 0],.c 200 [.f 149],.c 201 [.f 149,.f 149,.fn (.func 151) [] [.p 5 0],.f 153]],[.c 123 (Ui.c f),.c 75 (CU.c q),.c 83 [I d.2.Lo,I d.2.Hi],.c 83 [I d.2.Lo,I d.2.Hi],.c 83 [I 0,I 0],.c 200 [.f 149],.c 201 [.f 149,.f 149,.fn (.func 151) [] [.p 5 0],.f 153],.c 83 [I t.Lo,I t.Hi]]] ([.c 123 (Ui.c f),.c 75 (CU.c q),.c 83 [I d.2.Lo,I d.2.Hi],.c 83 [I d.2.Lo,I d.2.Hi],.c 83 [I 0,I 0],.c 200 [.f 149],.c 201 [.f 149,.f 149,.fn (.func 151) [] [.p 5 0],.f 153],.c 83 [I t.Lo,I t.Hi]]) DD Z Z Z Z Z Z Z ?_ Z ?_
  .refine Co.cons ?_ (M1 (M1 (M1 (M1 (M1 (M1 (Co.cons ?_ (M1 (M1 (Co.cons ?_ (M1 (M1 (Co.cons ?_ (Co.cons ?_ (Co.nil)))))))))))))))
   .refine Qb ?_ (Qb ?_ (Qg))
    iterate 2 refine F7 Z sN ?_;refine Qf [] (C6.fn call86 Z Z Z) ((gg _).c _ F) ?_;rintro _ _ ⟨rfl,rfl⟩;exact FE Z Wp
   .refine Qb ?_ (Qb ?_ (Qb ?_ (Qb ?_ (Qg))))
    iterate 4 refine Om Z (sD 3 (sD 6 sN)) ?_;exact Ix E EL EW Z Wp
   .refine Qb ?_ (Qb ?_ (Qg))
    iterate 2 refine Om Z (sD 0 (sD 9 sN)) ?_;refine vX (.f 149) (iq (i:=g.BI) (n:=4) (j:=0) G Z Z EZ GE Gj) ?_;exact Wp
   .refine Qb ?_ (Qb ?_ (Qg))
    iterate 2 refine F7 Z (sD 10 (sD 11 (sD 12 sN))) ?_;refine Qf [] (JT call149 Z Z Z Z) ((bH _ _ _).c _ M) ?_;rintro _ _ ⟨rfl,rfl⟩;exact FE Z Wp
   .refine Qb ?_ (Qb ?_ (Qb ?_ (Qg)))
    iterate 3 exact Jn.alloc _ 12 83 4 _ Z Z Z Z Z Z Z (I5.alloc (v:=(.a [I 0,I 0])) EK (Fu Z)) Z
  refine Go 31 Z (Cn Z h (λ_ h=>?_) (λ_ h=>?_))
  .refine Gc 1 Z (NI 2 0 [1,3] (by kernel_rfl) ?_);obtain⟨ai,T,h⟩:=Qw h;refine DA.op (x:=.a [.b AE,I (-1),I 0,I 0]) (H1:=[.c 123 (Ui.c f),.c 75 (CU.c q),.c 83 [I d.2.Lo,I d.2.Hi],.c 83 [I d.2.Lo,I d.2.Hi],.c 83 [I t.Lo,I t.Hi],.c 200 [.f 149],.c 201 [.f 149,.f 149,.fn (.func 151) [] [.p 5 0],.f 153],.c 83 [I t.Lo,I t.Hi],.c 77 [.b AD,I d.1,I (i64.wrap ((i64.wrap (d.2.Lo-t.Hi))+m.1)),I (i64.wrap ((i64.wrap (d.2.Hi-t.Lo))+m.1))],.c 77 [.b AE,I (-1),I 0,I 0]]) ?_ ?_
   .refine Qf [] (C6.fn call53 Z Z Z) ((ZB _).c _ T) ?_;rintro _ _ ⟨rfl,rfl⟩;exact FE Z Wp
   refine DB.wo2 (x:=.a [.b AD,I d.1,I (i64.wrap ((i64.wrap (d.2.Lo-t.Hi))+m.1)),I (i64.wrap ((i64.wrap (d.2.Hi-t.Lo))+m.1))]) ?_ ?_ ?_
   iterate 2 refine vV (x:=(.a [.b AD,I d.1,I (i64.wrap ((i64.wrap (d.2.Lo-t.Hi))+m.1)),I (i64.wrap ((i64.wrap (d.2.Hi-t.Lo))+m.1))])) (Qt Z Gg EG Z (Df.cells Z Z) Z Z) ?_;exact Wp
   refine DB.done Z (vH (Ek (xs:=[.tmp 81,.tmp 82]) (es:=map CB.c [{A':=AE,A_:=(-1),Lo:=0,Hi:=0:CB},{A':=AD,A_:=d.1,Lo:=i64.wrap ((i64.wrap (d.2.Lo-t.Hi))+m.1),Hi:=i64.wrap ((i64.wrap (d.2.Hi-t.Lo))+m.1):CB}]) Jm Z Z Z Z Z ⟨Z,Z,trivial⟩ Z Z) ?_);exact au h
  exact au h
 .refine If h (λH h=>?_) (λH h=>?_)
  .obtain⟨y,N,h⟩:=Qw h;refine Yx 15 1 [50,51,52,53,54,55,56,57,58,59,60,61,62,63,12] [AE,AD,AD,AD,AD,AD,AD,AD,AD,AD,AD,AD,AD,AE,AE] [[],[],[],[],[],[],[],[],[],[],[0],[],[],[0],[]] [[],[0],[14],[0,13],[0,14],[0,13,14]] [[(0,1),(2,4)],[(0,0),(1,1),(2,2),(4,4)],[(0,0),(1,1),(2,2),(4,4)],[(0,0),(1,1),(2,2),(4,4)],[(0,0),(1,1),(2,2),(4,4)],[(0,0),(1,1),(2,2),(4,4)],[(0,0),(1,1),(2,2),(4,4)],[(0,0),(1,1),(2,2),(4,4)],[(0,0),(1,1),(2,2),(4,4)],[(0,0),(1,1),(2,2),(4,4)],[(1,1),(4,4)],[(0,0),(1,1),(2,2),(4,4)],[(0,0),(1,1),(2,2),(4,4)],[(1,3),(4,5)],[(0,2),(1,4),(3,5)]] [.a [.f 149,.f 149,.fn (.func 151) [] [.p 5 0],.f 153],.p 0 0,.p 0 3,.q 5 (map AN.c f.A3.AP),.p 0 18,.p 0 19,I f.Ai.AN,.rp [.str g.Ao,.q 3 (map CG.enc g.Ae),I g.BI,.q 3 (map CO.c g.Aq),I g.Am],.rp [I g.BI,.q 3 (map CO.c g.Aq),I g.Am],I g.BI,.f 149,.a (Ui.c f),.a (CU.c q),.a [I y.Lo,I y.Hi],.p 4 0] [[.c 123 (Ui.c f),.c 75 (CU.c q),.c 83 [I d.2.Lo,I d.2.Hi],.c 83 [I d.2.Lo,I d.2.Hi],.dead],[.c 123 (Ui.c f),.c 75 (CU.c q),.c 83 [I d.2.Lo,I d.2.Hi],.c 83 [I d.2.Lo,I d.2.Hi],.dead,.c 200 [.f 149],.c 201 [.f 149,.f 149,.fn (.func 151) [] [.p 5 0],.f 153]],[.c 123 (Ui.c f),.c 75 (CU.c q),.c 83 [I d.2.Lo,I d.2.Hi],.c 83 [I d.2.Lo,I d.2.Hi],.c 83 [I 0,I 0]],[.c 123 (Ui.c f),.c 75 (CU.c q),.c 83 [I d.2.Lo,I d.2.Hi],.c 83 [I d.2.Lo,I d.2.Hi],.dead,.c 200 [.f 149],.c 201 [.f 149,.f 149,.fn (.func 151) [] [.p 5 0],.f 153],.c 83 [I y.Lo,I y.Hi]],[.c 123 (Ui.c f),.c 75 (CU.c q),.c 83 [I d.2.Lo,I d.2.Hi],.c 83 [I d.2.Lo,I d.2.Hi],.c 83 [I 0,I 0],.c 200 [.f 149],.c 201 [.f 149,.f 149,.fn (.func 151) [] [.p 5 0],.f 153]],[.c 123 (Ui.c f),.c 75 (CU.c q),.c 83 [I d.2.Lo,I d.2.Hi],.c 83 [I d.2.Lo,I d.2.Hi],.c 83 [I 0,I 0],.c 200 [.f 149],.c 201 [.f 149,.f 149,.fn (.func 151) [] [.p 5 0],.f 153],.c 83 [I y.Lo,I y.Hi]]] ([.c 123 (Ui.c f),.c 75 (CU.c q),.c 83 [I d.2.Lo,I d.2.Hi],.c 83 [I d.2.Lo,I d.2.Hi],.c 83 [I 0,I 0],.c 200 [.f 149],.c 201 [.f 149,.f 149,.fn (.func 151) [] [.p 5 0],.f 153],.c 83 [I y.Lo,I y.Hi]]) DD Z Z Z Z Z Z Z ?_ Z ?_
   .refine Co.cons ?_ (M1 (M1 (M1 (M1 (M1 (M1 (Co.cons ?_ (M1 (M1 (Co.cons ?_ (M1 (M1 (Co.cons ?_ (Co.cons ?_ (Co.nil)))))))))))))))
    .refine Qb ?_ (Qb ?_ (Qg))
     iterate 2 refine F7 Z sN ?_;refine Qf [] (C6.fn call86 Z Z Z) ((gg _).c _ F) ?_;rintro _ _ ⟨rfl,rfl⟩;exact FE Z Wp
    .refine Qb ?_ (Qb ?_ (Qb ?_ (Qb ?_ (Qg))))
     iterate 4 refine Om Z (sD 3 (sD 6 sN)) ?_;exact Ix E EL EW Z Wp
    .refine Qb ?_ (Qb ?_ (Qg))
     iterate 2 refine Om Z (sD 0 (sD 9 sN)) ?_;refine vX (.f 149) (iq (i:=g.BI) (n:=4) (j:=1) H Z Z EZ GE Gj) ?_;exact Wp
    .refine Qb ?_ (Qb ?_ (Qg))
     iterate 2 refine F7 Z (sD 10 (sD 11 (sD 12 sN))) ?_;refine Qf [] (JT call149 Z Z Z Z) ((bH _ _ _).c _ N) ?_;rintro _ _ ⟨rfl,rfl⟩;exact FE Z Wp
    .refine Qb ?_ (Qb ?_ (Qb ?_ (Qg)))
     iterate 3 exact Jn.alloc _ 12 83 4 _ Z Z Z Z Z Z Z (I5.alloc (v:=(.a [I 0,I 0])) EK (Fu Z)) Z
   refine Go 31 Z (Cn Z h (λ_ h=>?_) (λ_ h=>?_))
   .refine Gc 1 Z (NI 2 0 [1,3] (by kernel_rfl) ?_);obtain⟨aj,W,h⟩:=Qw h;refine DA.op (x:=.a [.b AE,I (-1),I 0,I 0]) (H1:=[.c 123 (Ui.c f),.c 75 (CU.c q),.c 83 [I d.2.Lo,I d.2.Hi],.c 83 [I d.2.Lo,I d.2.Hi],.c 83 [I y.Lo,I y.Hi],.c 200 [.f 149],.c 201 [.f 149,.f 149,.fn (.func 151) [] [.p 5 0],.f 153],.c 83 [I y.Lo,I y.Hi],.c 77 [.b AD,I d.1,I (i64.wrap ((i64.wrap (d.2.Lo-y.Hi))+m.1)),I (i64.wrap ((i64.wrap (d.2.Hi-y.Lo))+m.1))],.c 77 [.b AE,I (-1),I 0,I 0]]) ?_ ?_
    .refine Qf [] (C6.fn call53 Z Z Z) ((ZB _).c _ W) ?_;rintro _ _ ⟨rfl,rfl⟩;exact FE Z Wp
    refine DB.wo2 (x:=.a [.b AD,I d.1,I (i64.wrap ((i64.wrap (d.2.Lo-y.Hi))+m.1)),I (i64.wrap ((i64.wrap (d.2.Hi-y.Lo))+m.1))]) ?_ ?_ ?_
    iterate 2 refine vV (x:=(.a [.b AD,I d.1,I (i64.wrap ((i64.wrap (d.2.Lo-y.Hi))+m.1)),I (i64.wrap ((i64.wrap (d.2.Hi-y.Lo))+m.1))])) (Qt Z Gg EG Z (Df.cells Z Z) Z Z) ?_;exact Wp
    refine DB.done Z (vH (Ek (xs:=[.tmp 81,.tmp 82]) (es:=map CB.c [{A':=AE,A_:=(-1),Lo:=0,Hi:=0:CB},{A':=AD,A_:=d.1,Lo:=i64.wrap ((i64.wrap (d.2.Lo-y.Hi))+m.1),Hi:=i64.wrap ((i64.wrap (d.2.Hi-y.Lo))+m.1):CB}]) Jm Z Z Z Z Z ⟨Z,Z,trivial⟩ Z Z) ?_);exact au h
   exact au h
  .refine If h (λJ h=>?_) (λJ h=>?_)
   .obtain⟨B,O,h⟩:=Qw h;refine Yx 15 1 [50,51,52,53,54,55,56,57,58,59,60,61,62,63,12] [AE,AD,AD,AD,AD,AD,AD,AD,AD,AD,AD,AD,AD,AE,AE] [[],[],[],[],[],[],[],[],[],[],[0],[],[],[0],[]] [[],[0],[14],[0,13],[0,14],[0,13,14]] [[(0,1),(2,4)],[(0,0),(1,1),(2,2),(4,4)],[(0,0),(1,1),(2,2),(4,4)],[(0,0),(1,1),(2,2),(4,4)],[(0,0),(1,1),(2,2),(4,4)],[(0,0),(1,1),(2,2),(4,4)],[(0,0),(1,1),(2,2),(4,4)],[(0,0),(1,1),(2,2),(4,4)],[(0,0),(1,1),(2,2),(4,4)],[(0,0),(1,1),(2,2),(4,4)],[(1,1),(4,4)],[(0,0),(1,1),(2,2),(4,4)],[(0,0),(1,1),(2,2),(4,4)],[(1,3),(4,5)],[(0,2),(1,4),(3,5)]] [.a [.f 149,.f 149,.fn (.func 151) [] [.p 5 0],.f 153],.p 0 0,.p 0 3,.q 5 (map AN.c f.A3.AP),.p 0 18,.p 0 19,I f.Ai.AN,.rp [.str g.Ao,.q 3 (map CG.enc g.Ae),I g.BI,.q 3 (map CO.c g.Aq),I g.Am],.rp [I g.BI,.q 3 (map CO.c g.Aq),I g.Am],I g.BI,.fn (.func 151) [] [.p 5 0],.a (Ui.c f),.a (CU.c q),.a [I B.Lo,I B.Hi],.p 4 0] [[.c 123 (Ui.c f),.c 75 (CU.c q),.c 83 [I d.2.Lo,I d.2.Hi],.c 83 [I d.2.Lo,I d.2.Hi],.dead],[.c 123 (Ui.c f),.c 75 (CU.c q),.c 83 [I d.2.Lo,I d.2.Hi],.c 83 [I d.2.Lo,I d.2.Hi],.dead,.c 200 [.f 149],.c 201 [.f 149,.f 149,.fn (.func 151) [] [.p 5 0],.f 153]],[.c 123 (Ui.c f),.c 75 (CU.c q),.c 83 [I d.2.Lo,I d.2.Hi],.c 83 [I d.2.Lo,I d.2.Hi],.c 83 [I 0,I 0]],[.c 123 (Ui.c f),.c 75 (CU.c q),.c 83 [I d.2.Lo,I d.2.Hi],.c 83 [I d.2.Lo,I d.2.Hi],.dead,.c 200 [.f 149],.c 201 [.f 149,.f 149,.fn (.func 151) [] [.p 5 0],.f 153],.c 83 [I B.Lo,I B.Hi]],[.c 123 (Ui.c f),.c 75 (CU.c q),.c 83 [I d.2.Lo,I d.2.Hi],.c 83 [I d.2.Lo,I d.2.Hi],.c 83 [I 0,I 0],.c 200 [.f 149],.c 201 [.f 149,.f 149,.fn (.func 151) [] [.p 5 0],.f 153]],[.c 123 (Ui.c f),.c 75 (CU.c q),.c 83 [I d.2.Lo,I d.2.Hi],.c 83 [I d.2.Lo,I d.2.Hi],.c 83 [I 0,I 0],.c 200 [.f 149],.c 201 [.f 149,.f 149,.fn (.func 151) [] [.p 5 0],.f 153],.c 83 [I B.Lo,I B.Hi]]] ([.c 123 (Ui.c f),.c 75 (CU.c q),.c 83 [I d.2.Lo,I d.2.Hi],.c 83 [I d.2.Lo,I d.2.Hi],.c 83 [I 0,I 0],.c 200 [.f 149],.c 201 [.f 149,.f 149,.fn (.func 151) [] [.p 5 0],.f 153],.c 83 [I B.Lo,I B.Hi]]) DD Z Z Z Z Z Z Z ?_ Z ?_
    .refine Co.cons ?_ (M1 (M1 (M1 (M1 (M1 (M1 (Co.cons ?_ (M1 (M1 (Co.cons ?_ (M1 (M1 (Co.cons ?_ (Co.cons ?_ (Co.nil)))))))))))))))
     .refine Qb ?_ (Qb ?_ (Qg))
      iterate 2 refine F7 Z sN ?_;refine Qf [] (C6.fn call86 Z Z Z) ((gg _).c _ F) ?_;rintro _ _ ⟨rfl,rfl⟩;exact FE Z Wp
     .refine Qb ?_ (Qb ?_ (Qb ?_ (Qb ?_ (Qg))))
      iterate 4 refine Om Z (sD 3 (sD 6 sN)) ?_;exact Ix E EL EW Z Wp
     .refine Qb ?_ (Qb ?_ (Qg))
      iterate 2 refine Om Z (sD 0 (sD 9 sN)) ?_;refine vX (.fn (.func 151) [] [.p 5 0]) (iq (i:=g.BI) (n:=4) (j:=2) J Z Z EZ GE Gj) ?_;exact Wp
     .refine Qb ?_ (Qb ?_ (Qg))
      iterate 2 refine F7 Z (sD 10 (sD 11 (sD 12 sN))) ?_;refine Qf [5] (JT call151 Z Z Z Z) ((jt _ _ _).c _ O) ?_;rintro _ _ ⟨rfl,rfl⟩;exact FE Z Wp
     .refine Qb ?_ (Qb ?_ (Qb ?_ (Qg)))
      iterate 3 exact Jn.alloc _ 12 83 4 _ Z Z Z Z Z Z Z (I5.alloc (v:=(.a [I 0,I 0])) EK (Fu Z)) Z
    refine Go 31 Z (Cn Z h (λ_ h=>?_) (λ_ h=>?_))
    .refine Gc 1 Z (NI 2 0 [1,3] (by kernel_rfl) ?_);obtain⟨ak,Y,h⟩:=Qw h;refine DA.op (x:=.a [.b AE,I (-1),I 0,I 0]) (H1:=[.c 123 (Ui.c f),.c 75 (CU.c q),.c 83 [I d.2.Lo,I d.2.Hi],.c 83 [I d.2.Lo,I d.2.Hi],.c 83 [I B.Lo,I B.Hi],.c 200 [.f 149],.c 201 [.f 149,.f 149,.fn (.func 151) [] [.p 5 0],.f 153],.c 83 [I B.Lo,I B.Hi],.c 77 [.b AD,I d.1,I (i64.wrap ((i64.wrap (d.2.Lo-B.Hi))+m.1)),I (i64.wrap ((i64.wrap (d.2.Hi-B.Lo))+m.1))],.c 77 [.b AE,I (-1),I 0,I 0]]) ?_ ?_
     .refine Qf [] (C6.fn call53 Z Z Z) ((ZB _).c _ Y) ?_;rintro _ _ ⟨rfl,rfl⟩;exact FE Z Wp
     refine DB.wo2 (x:=.a [.b AD,I d.1,I (i64.wrap ((i64.wrap (d.2.Lo-B.Hi))+m.1)),I (i64.wrap ((i64.wrap (d.2.Hi-B.Lo))+m.1))]) ?_ ?_ ?_
     iterate 2 refine vV (x:=(.a [.b AD,I d.1,I (i64.wrap ((i64.wrap (d.2.Lo-B.Hi))+m.1)),I (i64.wrap ((i64.wrap (d.2.Hi-B.Lo))+m.1))])) (Qt Z Gg EG Z (Df.cells Z Z) Z Z) ?_;exact Wp
     refine DB.done Z (vH (Ek (xs:=[.tmp 81,.tmp 82]) (es:=map CB.c [{A':=AE,A_:=(-1),Lo:=0,Hi:=0:CB},{A':=AD,A_:=d.1,Lo:=i64.wrap ((i64.wrap (d.2.Lo-B.Hi))+m.1),Hi:=i64.wrap ((i64.wrap (d.2.Hi-B.Lo))+m.1):CB}]) Jm Z Z Z Z Z ⟨Z,Z,trivial⟩ Z Z) ?_);exact au h
    exact au h
   .refine If h (λL h=>?_) (λL h=>?_)
    .obtain⟨al,P,h⟩:=Qw h;refine Yx 15 1 [50,51,52,53,54,55,56,57,58,59,60,61,62,63,12] [AE,AD,AD,AD,AD,AD,AD,AD,AD,AD,AD,AD,AD,AE,AE] [[],[],[],[],[],[],[],[],[],[],[0],[],[],[0],[]] [[],[0],[14],[0,13],[0,14],[0,13,14]] [[(0,1),(2,4)],[(0,0),(1,1),(2,2),(4,4)],[(0,0),(1,1),(2,2),(4,4)],[(0,0),(1,1),(2,2),(4,4)],[(0,0),(1,1),(2,2),(4,4)],[(0,0),(1,1),(2,2),(4,4)],[(0,0),(1,1),(2,2),(4,4)],[(0,0),(1,1),(2,2),(4,4)],[(0,0),(1,1),(2,2),(4,4)],[(0,0),(1,1),(2,2),(4,4)],[(1,1),(4,4)],[(0,0),(1,1),(2,2),(4,4)],[(0,0),(1,1),(2,2),(4,4)],[(1,3),(4,5)],[(0,2),(1,4),(3,5)]] [.a [.f 149,.f 149,.fn (.func 151) [] [.p 5 0],.f 153],.p 0 0,.p 0 3,.q 5 (map AN.c f.A3.AP),.p 0 18,.p 0 19,I f.Ai.AN,.rp [.str g.Ao,.q 3 (map CG.enc g.Ae),I g.BI,.q 3 (map CO.c g.Aq),I g.Am],.rp [I g.BI,.q 3 (map CO.c g.Aq),I g.Am],I g.BI,.f 153,.a (Ui.c f),.a (CU.c q),.a [I f.Ai.BM,I f.Ai.BM],.p 4 0] [[.c 123 (Ui.c f),.c 75 (CU.c q),.c 83 [I d.2.Lo,I d.2.Hi],.c 83 [I d.2.Lo,I d.2.Hi],.dead],[.c 123 (Ui.c f),.c 75 (CU.c q),.c 83 [I d.2.Lo,I d.2.Hi],.c 83 [I d.2.Lo,I d.2.Hi],.dead,.c 200 [.f 149],.c 201 [.f 149,.f 149,.fn (.func 151) [] [.p 5 0],.f 153]],[.c 123 (Ui.c f),.c 75 (CU.c q),.c 83 [I d.2.Lo,I d.2.Hi],.c 83 [I d.2.Lo,I d.2.Hi],.c 83 [I 0,I 0]],[.c 123 (Ui.c f),.c 75 (CU.c q),.c 83 [I d.2.Lo,I d.2.Hi],.c 83 [I d.2.Lo,I d.2.Hi],.dead,.c 200 [.f 149],.c 201 [.f 149,.f 149,.fn (.func 151) [] [.p 5 0],.f 153],.c 83 [I f.Ai.BM,I f.Ai.BM]],[.c 123 (Ui.c f),.c 75 (CU.c q),.c 83 [I d.2.Lo,I d.2.Hi],.c 83 [I d.2.Lo,I d.2.Hi],.c 83 [I 0,I 0],.c 200 [.f 149],.c 201 [.f 149,.f 149,.fn (.func 151) [] [.p 5 0],.f 153]],[.c 123 (Ui.c f),.c 75 (CU.c q),.c 83 [I d.2.Lo,I d.2.Hi],.c 83 [I d.2.Lo,I d.2.Hi],.c 83 [I 0,I 0],.c 200 [.f 149],.c 201 [.f 149,.f 149,.fn (.func 151) [] [.p 5 0],.f 153],.c 83 [I f.Ai.BM,I f.Ai.BM]]] ([.c 123 (Ui.c f),.c 75 (CU.c q),.c 83 [I d.2.Lo,I d.2.Hi],.c 83 [I d.2.Lo,I d.2.Hi],.c 83 [I 0,I 0],.c 200 [.f 149],.c 201 [.f 149,.f 149,.fn (.func 151) [] [.p 5 0],.f 153],.c 83 [I f.Ai.BM,I f.Ai.BM]]) DD Z Z Z Z Z Z Z ?_ Z ?_
     .refine Co.cons ?_ (M1 (M1 (M1 (M1 (M1 (M1 (Co.cons ?_ (M1 (M1 (Co.cons ?_ (M1 (M1 (Co.cons ?_ (Co.cons ?_ (Co.nil)))))))))))))))
      .refine Qb ?_ (Qb ?_ (Qg))
       iterate 2 refine F7 Z sN ?_;refine Qf [] (C6.fn call86 Z Z Z) ((gg _).c _ F) ?_;rintro _ _ ⟨rfl,rfl⟩;exact FE Z Wp
      .refine Qb ?_ (Qb ?_ (Qb ?_ (Qb ?_ (Qg))))
       iterate 4 refine Om Z (sD 3 (sD 6 sN)) ?_;exact Ix E EL EW Z Wp
      .refine Qb ?_ (Qb ?_ (Qg))
       iterate 2 refine Om Z (sD 0 (sD 9 sN)) ?_;refine vX (.f 153) (iq (i:=g.BI) (n:=4) (j:=3) L Z Z EZ GE Gj) ?_;exact Wp
      .refine Qb ?_ (Qb ?_ (Qg))
       iterate 2 refine F7 Z (sD 10 (sD 11 (sD 12 sN))) ?_;refine Qf [] (JT call153 Z Z Z Z) ((jg _ _ _).c _ P) ?_;rintro _ _ ⟨rfl,rfl⟩;exact FE Z Wp
      .refine Qb ?_ (Qb ?_ (Qb ?_ (Qg)))
       iterate 3 exact Jn.alloc _ 12 83 4 _ Z Z Z Z Z Z Z (I5.alloc (v:=(.a [I 0,I 0])) EK (Fu Z)) Z
     refine Go 31 Z (Cn Z h (λ_ h=>?_) (λ_ h=>?_))
     .refine Gc 1 Z (NI 2 0 [1,3] (by kernel_rfl) ?_);obtain⟨am,ab,h⟩:=Qw h;refine DA.op (x:=.a [.b AE,I (-1),I 0,I 0]) (H1:=[.c 123 (Ui.c f),.c 75 (CU.c q),.c 83 [I d.2.Lo,I d.2.Hi],.c 83 [I d.2.Lo,I d.2.Hi],.c 83 [I f.Ai.BM,I f.Ai.BM],.c 200 [.f 149],.c 201 [.f 149,.f 149,.fn (.func 151) [] [.p 5 0],.f 153],.c 83 [I f.Ai.BM,I f.Ai.BM],.c 77 [.b AD,I d.1,I (i64.wrap ((i64.wrap (d.2.Lo-f.Ai.BM))+m.1)),I (i64.wrap ((i64.wrap (d.2.Hi-f.Ai.BM))+m.1))],.c 77 [.b AE,I (-1),I 0,I 0]]) ?_ ?_
      .refine Qf [] (C6.fn call53 Z Z Z) ((ZB _).c _ ab) ?_;rintro _ _ ⟨rfl,rfl⟩;exact FE Z Wp
      refine DB.wo2 (x:=.a [.b AD,I d.1,I (i64.wrap ((i64.wrap (d.2.Lo-f.Ai.BM))+m.1)),I (i64.wrap ((i64.wrap (d.2.Hi-f.Ai.BM))+m.1))]) ?_ ?_ ?_
      iterate 2 refine vV (x:=(.a [.b AD,I d.1,I (i64.wrap ((i64.wrap (d.2.Lo-f.Ai.BM))+m.1)),I (i64.wrap ((i64.wrap (d.2.Hi-f.Ai.BM))+m.1))])) (Qt Z Gg EG Z (Df.cells Z Z) Z Z) ?_;exact Wp
      refine DB.done Z (vH (Ek (xs:=[.tmp 81,.tmp 82]) (es:=map CB.c [{A':=AE,A_:=(-1),Lo:=0,Hi:=0:CB},{A':=AD,A_:=d.1,Lo:=i64.wrap ((i64.wrap (d.2.Lo-f.Ai.BM))+m.1),Hi:=i64.wrap ((i64.wrap (d.2.Hi-f.Ai.BM))+m.1):CB}]) Jm Z Z Z Z Z ⟨Z,Z,trivial⟩ Z Z) ?_);exact au h
     exact au h
    .cases h
def Wy(n:Nat)(d:CB):AB Unit:=AC ()
instance xN(d:CB):Ks (Wy n d) 52 [.a (CB.c d)] [] (λ_=>.b d.A'):=KA func52
def Tl(g:AA CB)(d:Int):AB (CF Int (CF Unit Int)):=(bif d<(AI g:Int) then AH (CI g d) λf=>AH (Wy n f) λh=>(bif f.A' then AC (.d (.d d))else AC (.k (i64.wrap (d+1))))else AC (.d (.k ())))
def WW(g:AA CB):AB Int:=AH (iter (Tl n g) n 0:AB (CF Unit Int)) λf=>match f with|.k d=>(AC (-1))|.d d=>AC d
instance ws(d:AA CB):Ks (WW n d) 115 [.q 4 (map CB.c d),.f 52] [] (λr=>I r):=KA func115
def O_(d:AA CB):AB Bool:=AH (WW n d) λf=>AC (AG (0<=f))
instance yD(d:AA CB):Ks (O_ n d) 51 [.q 4 (map CB.c d),.f 52] [] (λr=>.b r):=KA func51
def V1(n:Nat)(d:AA CB):AB (AA CB):=isNil d (AC []) (AH (app ([]:AA CB) d) λf=>AC f)
instance wH(d:AA CB):Kq (V1 n d) 55 [.q 4 (map CB.c d)] [] (λr=>.o 0 (AI r) 4) (λr=>[.r 77 4 (map CB.c r)]):=by
 refine Kg 9 func55 Z Z Z Z λr h=>(Qpl underlying51 Z (λf g=>?_));have hkb1:=sB h f g;cases f
 .have h:=hkb1.2 Z;refine Go 7 Z (vH (Ek (xs:=[]) Jm Z Z Z Z Z trivial Z Z) ?_);refine Fg 1 Z Z (Bd h λm j h=>vH (Qj j Jm ED L9) ?_);exact au h
 .have h:=hkb1.1 Z;refine Go 10 Z ?_;obtain rfl:=Oi h;refine R1 2 Z (En (Er (s:=2) (k:=4) (t:=77) (XQ Z) Z) ?_);exact Lr [0]
def MX(n:Nat)(d:CB):AB Bool:=AH ((bif d.A' then AC AE else AC (AG (d.Hi<d.Lo))):AB Bool) λf=>AC f
instance yw(d:CB):Ks (MX n d) 56 [.a (CB.c d)] [] (λr=>.b r):=KA func56
def UN(f:AA CB)(d:Int):AB (CF Int (CF Unit Int)):=(bif d<(AI f:Int) then AH (CI f d) λg=>AH (MX n g) λh=>(bif h then AC (.d (.d d))else AC (.k (i64.wrap (d+1))))else AC (.d (.k ())))
def Wn(g:AA CB):AB Int:=AH (iter (UN n g) n 0:AB (CF Unit Int)) λf=>match f with|.k d=>(AC (-1))|.d d=>AC d
instance xD(d:AA CB):Ks (Wn n d) 115 [.q 4 (map CB.c d),.f 56] [] (λr=>I r):=KA func115
def Tk(d:(AA CB)×Int×Int):AB (CF ((AA CB)×Int×Int) ((AA CB)×Int)):=(bif d.2.2<(AI d.1:Int) then AH (CI d.1 d.2.2) λf=>AH (MX n f) λh=>AH ((bif (!h)then AH (CI d.1 d.2.1) λm=>AH (JN d.1 d.2.1 f) λj=>AC (j,i64.wrap (d.2.1+1))else AC (d.1,d.2.1)):AB ((AA CB)×Int)) λg=>AC (.k (g.1,g.2,i64.wrap (d.2.2+1)))else AC (.d (d.1,d.2.1)))
def PY(f:AA CB):AB (AA CB):=AH (Wn n f) λg=>(bif (g==(-1))then AC f else AH (iter (Tk n) n (f,g,i64.wrap (g+1)):AB ((AA CB)×Int)) λd=>AH (Dm d.1 0 d.2) λh=>AC h)
instance yd(E:AA CB):Kq (PY n E) 54 [.o 0 (AI E) 4,.f 56] [.r 77 4 (map CB.c E)] (λr=>.o 0 (AI r) 4) (λr=>[.r 77 4 (map CB.c r)]):=by
 refine Kg 9 func54 Z Z Z Z λr h=>Cb h Kc Z (lo (ls ln)) λY P h=>Go 10 Z (Cn Z h (λ_ h=>?_) (λ_ h=>?_))
 .exact au h
 refine Gc 10 Z (Bd h λj M h=>Cg j [0] [] (λj=>[(0,.o 0 (AI j.1) 4),(5,I j.2)]) (λj=>[(0,.r 77 4 (map CB.c j.1))]) Zf ?_ ?_)
 .refine G0 1 Z (Lp [0] [1] (λm=>[(0,.o 0 (AI m.1) 4),(5,I m.2.1),(6,I m.2.2)]) (λm=>[(0,.r 77 4 (map CB.c m.1))]) M Zf (Lr [0]) λm Q d F=>?_);refine G0 9 Z (Q5 Z d (λ_ d=>?_) (λ_ d=>?_))
  .exact Gc 2 Z (QF d (Gx 1 Z (DX F d (Lr [0]))))
  refine Gc 8 Z (Bd d λR x d=>(vV (Qd x Z ED EG) ?_));refine vV (Qt Z Gg EG Z (Qh x) Z Z) ?_;refine Go 8 Z (Cz [] d Kc Z λT O d=>Go 3 Z (Bd d λq g d=>Ct q [0] [1,6] (λq=>[(0,.o 0 (AI q.1) 4),(5,I q.2)]) (λq=>[(0,.r 77 4 (map CB.c q.1))]) Zf ?_ (λenv H N=>?_)))
  .refine G0 0 Z (Cn Z g (λ_ g=>?_) (λ_ g=>?_))
   .refine Gc 5 Z (Bd g λV y g=>(vV (Qd y Z ED EG) ?_));refine Bd g λW B g=>(vU (Yy (k:=4) (f:=0) y B EG Z Z) ?_);refine Et (Q8 (s:=0) Z (congrArg (λn=>A.s 0 0 n 4) (Yp B))) ?_;exact au g
   exact au g
  exact Gx 2 Z (Ee N (Gc 5 Z (QZ d (Lr [0]))))
 refine Gc 4 Z (Bd h λX t h=>(vV (Qkr t ED EG) ?_));refine vN (Qku t underlying51 zeroValue77 Z (by simp[QC,Go.Value.cells])) ?_;refine Go 6 Z (vV (Qks t ED EG) ?_);exact au h
def Po(d:CB)(f:CB):AB Int:=AH (Km n d.A_ f.A_) λg=>AH (Km n d.Lo f.Lo) λh=>AH (Km n d.Hi f.Hi) λj=>AH (J3 n [g,h,j]) λm=>AC m
instance jf(d:CB)(f:CB):Ks (Po n d f) 58 [.a (CB.c d),.a (CB.c f)] [] (λr=>I r):=KA func58
def MW(n:Nat)(g:CB)(d:Int)(f:AA CB):AB (Int×(AA CB)):=AH ((bif 0<=d then AH (CI f d) λm=>(bif (m.A_==g.A_)then AH (CI f d) λq=>(bif g.Lo<=q.Hi then AC AE else AH (CI f d) λt=>AC ((i64.wrap (g.Lo-1))==t.Hi))else AC AD)else AC AD):AB Bool) λB=>(bif B then AH (CI f d) λh=>AH (CI f d) λx=>AH (JN f d ({x with Hi:=(if h.Hi<g.Hi then g.Hi else h.Hi):CB})) λy=>AC (d,y)else AH (app f [g]) λj=>AC (i64.wrap ((AI j:Int)-1),j))
instance yv(t:CB)(g:Int)(J:AA CB):Kq (MW n t g J) 61 [.a (CB.c t),.p 0 0,.p 1 0] [.c 3 [I g],.c 51 [.o 2 (AI J) 4],.r 77 4 (map CB.c J)] (λ_=>.t []) (λr=>[.c 3 [I r.1],.c 51 [.o 3 (AI r.2) 4],.dead,.r 77 4 (map CB.c r.2)]):=by
 refine Kg 7 func61 Z Z Z Z λr h=>Bd h λL d h=>Cg L [0,1,2,3] [1,2,3] (λL=>[(36,.b L)]) Ze Zf ?_ ?_
 .refine G0 0 Z (DP 30 Z (D 3 Z (DS.is 2 d Z Z Z (λ_ d=>?_) (λ_ d=>?_))))
  .refine D 2 Z ?_;obtain⟨R,y,d⟩:=Qw d;refine DS.v (x:=(.p 2 (toNat g*4))) (Qd y Z ED EG) ?_ (hg:=(gT Z));refine DS.wo (x:=.p 2 (toNat g*4+1)) ?_ ?_
   .exact HJ (gT Z) qM Z Wp
   refine DS.v (x:=(I R.A_)) (Ez Z EF Z (Qm (f:=1) y)) ?_ (hg:=(gT Z));refine D 5 Z (DS.is 12 d Z Z Z (λ_ d=>?_) (λ_ d=>?_))
   .refine D 4 Z ?_;obtain⟨T,B,d⟩:=Qw d;refine DS.v (x:=(.p 2 (toNat g*4))) (Qd B Z ED EG) ?_ (hg:=(gT Z));refine DS.wo (x:=.p 2 (toNat g*4+3)) ?_ ?_
    .exact HJ (gT Z) dr Z Wp
    refine DS.v (x:=(I T.Hi)) (Ez Z EF Z (Qm (f:=3) B)) ?_ (hg:=(gT Z));refine D 2 Z (DS.is 21 d Z Z Z (λ_ d=>?_) (λ_ d=>?_))
    .exact au d
    .refine D 5 Z ?_;obtain⟨V,E,d⟩:=Qw d;refine DS.v (x:=(.p 2 (toNat g*4))) (Qd E Z ED EG) ?_ (hg:=(gT Z));refine DS.wo (x:=.p 2 (toNat g*4+3)) ?_ ?_
     .exact HJ (gT Z) dr Z Wp
     refine DS.v (x:=(I V.Hi)) (Ez Z EF Z (Qm (f:=3) E)) ?_ (hg:=(gT Z));exact au d
   exact au d
  exact au d
 refine Cn Z h (λ_ h=>?_) (λ_ h=>?_)
 .refine Gc 1 Z (DP 10 Z (D 4 Z ?_));obtain⟨F,G,h⟩:=Qw h;refine DS.v (x:=(.p 2 (toNat g*4))) (Qd G Z ED EG) ?_;refine DS.wo (x:=.p 2 (toNat g*4+3)) ?_ ?_
  .exact Fp dr Z Wp
  refine DS.v (x:=(I F.Hi)) (Ez Z EF Z (Qm (f:=3) G)) ?_;refine D 2 Z ?_;refine DS.v (x:=(I (if F.Hi<t.Hi then t.Hi else F.Hi))) (CS.max Z Z Z Z) ?_;refine Eg Z (Bd h λW H h=>?_);refine vX (.p 2 (toNat g*4)) (Qd H Z ED EG) ?_;refine Fp dr Z (Bd h λX q h=>?_);refine vU (Yy (e:=CB.c) (k:=4) (f:=3) H q EC Z Z) ?_;refine FE Z ?_;refine Et (Q8 (s:=37) Z (congrArg (λn=>A.s 2 0 n 4) (Yp q))) ?_;refine Et (Q8 (s:=39) Z (congrArg (λn=>A.s 2 0 n 4) (Yp q))) ?_;refine Et (Za (i:=1) Z (congrArg (λnz=>CW.cells 51 [.o 2 nz 4]) (Yp q))) ?_;refine Go 4 Z ?_;obtain rfl:=Oi h;refine⟨[],_,_,?_,H7.nil Z,Z,Z⟩;refine En (Zv (i:=2) (j:=1) (m:=0) Z Z Z Z Z) ?_;exact Lr [0,1,2,4]
 refine Gc 6 Z (vH (Ek (xs:=[.tmp 50]) (es:=map CB.c [t]) Jm Z Z Z Z Z ⟨Z,trivial⟩ Z Z) ?_);refine FE Z (Bd h λY P h=>vH (Qj (e:=CB.c) P Jm ED (QE (i:=4))) ?_);exact au h
end Go.Sw
